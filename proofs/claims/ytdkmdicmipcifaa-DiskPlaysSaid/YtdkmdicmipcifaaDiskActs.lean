import Derived.Test.YtdkmdicmipcifaaDiskShown
namespace Go.Proofs.Ytdkmdicmipcifaa.Disk
open Go Go.RowKit Go.Maps Go.Proofs.YtdkmdicmipcifaaW.PrintWords Go.Proofs.YtdkmdicmipcifaaW.PrintLast Go.Proofs.YtdkmdicmipcifaaW.PrintMore
open Go.Proofs.Ytdkmdicmipcifaa.Pure (mk mk_size mk_app mk_toList mk_dataList mk_ext_from wrap_in)
attribute [local go_sem] mk_size mk_app mk_toList
def IntsB (w : World) (B : Nat) (v : Value) (l : List Int) : Prop :=
  (l = [] ∧ ∃ a c, v = .slice a 0 c) ∨ ∃ (a : Addr) (cap : Nat), v = .slice (some a) l.length cap ∧ l.length ≤ cap ∧ a.block < B ∧ (∀ i, i < l.length → w.cell? (a.add i) = some (.int .i64 (l.getD i 0)))
theorem IntsB.shape {w : World} {B : Nat} {v : Value} {l : List Int} (h : IntsB w B v l) : ∃ a c, v = .slice a l.length c := by
  rcases h with ⟨rfl, h⟩ | ⟨a, cap, h, _⟩
  · exact h
  · exact ⟨_, _, h⟩
theorem IntsB.below {w w' : World} {B : Nat} {v : Value} {l : List Int} (h : IntsB w B v l) (hb : Below B w w') : IntsB w' B v l := by
  rcases h with h | ⟨a, cap, h1, h2, h3, h4⟩
  · exact .inl h
  · exact .inr ⟨a, cap, h1, h2, h3, fun i hi => (hb.cell (p := a.add i) (by rw [add_blk]; exact h3)).trans (h4 i hi)⟩
theorem IntsB.ints {w : World} {B p b : Nat} {v : Value} {l : List Int} (h : IntsB w B v l) (hp : B ≤ p) (hb : B ≤ b) : Ints w p b v l := by
  rcases h with h | ⟨a, cap, h1, h2, h3, h4⟩
  · exact .inl h
  · exact .inr ⟨a, cap, h1, h2, by omega, by omega, h4⟩
structure ActAt (w : World) (B g off : Nat) (x : Act') (v : Value) : Prop where
  c0 : w.cell? ⟨g, off, none⟩ = some (.int .i64 x.op)
  c1 : w.cell? ⟨g, off + 1, none⟩ = some (.int .i64 x.n)
  c2 : w.cell? ⟨g, off + 2, none⟩ = some (.string (mk x.name))
  c3 : w.cell? ⟨g, off + 3, none⟩ = some (.string (mk x.other))
  c4 : w.cell? ⟨g, off + 4, none⟩ = some (.string (mk x.s))
  c5 : w.cell? ⟨g, off + 5, none⟩ = some v
  left : IntsB w B v x.left
  fits : (-9223372036854775808 ≤ x.op ∧ x.op ≤ 9223372036854775807) ∧ (-9223372036854775808 ≤ x.n ∧ x.n ≤ 9223372036854775807)
theorem ActAt.below {w w' : World} {B g off : Nat} {x : Act'} {v : Value} (h : ActAt w B g off x v) (hg : g < B) (hb : Below B w w') : ActAt w' B g off x v :=
  ⟨(hb.cell hg).trans h.c0, (hb.cell hg).trans h.c1, (hb.cell hg).trans h.c2, (hb.cell hg).trans h.c3, (hb.cell hg).trans h.c4, (hb.cell hg).trans h.c5, h.left.below hb, h.fits⟩
def Acts (w : World) (B : Nat) (A : Option Addr) (l : List Act') : Prop := ∀ i, i < l.length → ∃ g off x v, A = some ⟨g, off, none⟩ ∧ g < B ∧ l[i]? = some x ∧ ActAt w B g (off + i * 6) x v
theorem Acts.below {w w' : World} {B : Nat} {A : Option Addr} {l : List Act'} (h : Acts w B A l) (hb : Below B w w') : Acts w' B A l := fun i hi => by
  obtain ⟨g, off, x, v, h1, h2, h3, h4⟩ := h i hi
  exact ⟨g, off, x, v, h1, h2, h3, h4.below h2 hb⟩
def lightA (x : Act') : Bool := decide (x.name.length ≤ 200) && decide (x.other.length ≤ 200) && decide (x.s.length ≤ 300) && decide (x.left.length ≤ 100)
def smallA (l : List Act') : Bool := decide (l.length ≤ 80) && l.all lightA
set_option maxHeartbeats 8000000 in
set_option maxRecDepth 100000 in
theorem small_calls {w : World} {B : Nat} (A : Option Addr) (c : Nat) (l : List Act') (h : Acts w B A l) :
    Calls Try.prog 10 #[.slice A l.length c] w fun e w' => e = .returned (.bool (smallA l)) ∧ w' = w := by
  have HA := Aside0.mk h
  clear h
  by_cases h80 : (l.length : Int) > 80
  · have b0 : decide ((l.length : Int) > 80) = true := decide_eq_true h80
    have e : smallA l = false := by unfold smallA; rw [decide_eq_false (by omega)]; rfl
    rw [e]
    clear h80 e
    go_enter Try.func10, Try.ntmps10
    go_wp2
    go_ret
    exact ⟨rfl, rfl⟩
  have b0 : decide ((l.length : Int) > 80) = false := decide_eq_false h80
  have H80 := Aside0.mk h80
  have e : smallA l = l.all lightA := by unfold smallA; rw [decide_eq_true (by omega)]; rfl
  rw [e]
  clear h80 e
  go_enter Try.func10, Try.ntmps10
  go_wp2
  go_loopw [3] (fun v3 wr => ∃ (i : Nat), v3 = .int .i64 i ∧ Aside0 (i ≤ l.length) ∧ Aside0 (l.all lightA = (l.drop i).all lightA) ∧ wr = w) (fun i _ => l.length - (intOf i).toNat)
  case atStart => exact ⟨0, rfl, ⟨Nat.zero_le _⟩, ⟨by simp⟩, rfl⟩
  case round =>
    obtain ⟨i, rfl, HI, HE, rfl⟩ := hrel
    by_cases hi : i < l.length
    · have b1 : decide ((i : Int) < (l.length : Int)) = true := decide_eq_true (by omega)
      have bw : wrap64 ((i : Int) + 1) = ((i + 1 : Nat) : Int) := by have := H80.out; rw [w64 (by omega) (by omega)]; rfl
      have q0 : (0 : Int) ≤ (i : Int) := by omega
      have q1 : (i : Int) < (l.length : Int) := by omega
      obtain ⟨g, off, x, v, rfl, hg, hx, hat⟩ := HA.out i hi
      obtain ⟨a5, c5', hv⟩ := hat.left.shape
      subst hv
      have hd : (l.drop i).all lightA = (lightA x && (l.drop (i + 1)).all lightA) := by
        rw [List.drop_eq_getElem_cons hi, List.all_cons]
        have : l[i] = x := by rw [List.getElem?_eq_getElem hi] at hx; exact Option.some.inj hx
        rw [this]
      have k2 := hat.c2
      have k3 := hat.c3
      have k4 := hat.c4
      have k5 := hat.c5
      have no : ∀ c : Bool, lightA x = c → c = false → l.all lightA = false := fun c h1 h2 => by rw [HE.out, hd, h1, h2]; rfl
      have HNO := Aside0.mk no
      have HHD := Aside0.mk hd
      clear no hd
      by_cases h2 : (x.name.length : Int) > 200
      · have d2 : decide ((x.name.length : Int) > 200) = true := decide_eq_true h2
        have e := HNO.out _ (show lightA x = false by unfold lightA; rw [decide_eq_false (show ¬ x.name.length ≤ 200 by omega)]; rfl) rfl
        clear h2
        go_wp2
        go_ret
        exact ⟨by rw [e]; rfl, rfl⟩
      have d2 : decide ((x.name.length : Int) > 200) = false := decide_eq_false h2
      by_cases h3 : (x.other.length : Int) > 200
      · have d3 : decide ((x.other.length : Int) > 200) = true := decide_eq_true h3
        have e := HNO.out _ (show lightA x = false by unfold lightA; rw [decide_eq_false (show ¬ x.other.length ≤ 200 by omega)]; simp) rfl
        clear h2 h3
        go_wp2
        go_ret
        exact ⟨by rw [e]; rfl, rfl⟩
      have d3 : decide ((x.other.length : Int) > 200) = false := decide_eq_false h3
      by_cases h4 : (x.s.length : Int) > 300
      · have d4 : decide ((x.s.length : Int) > 300) = true := decide_eq_true h4
        have e := HNO.out _ (show lightA x = false by unfold lightA; rw [decide_eq_false (show ¬ x.s.length ≤ 300 by omega)]; simp) rfl
        clear h2 h3 h4
        go_wp2
        go_ret
        exact ⟨by rw [e]; rfl, rfl⟩
      have d4 : decide ((x.s.length : Int) > 300) = false := decide_eq_false h4
      by_cases h5 : (x.left.length : Int) > 100
      · have d5 : decide ((x.left.length : Int) > 100) = true := decide_eq_true h5
        have e := HNO.out _ (show lightA x = false by unfold lightA; rw [decide_eq_false (show ¬ x.left.length ≤ 100 by omega)]; simp) rfl
        clear h2 h3 h4 h5
        go_wp2
        go_ret
        exact ⟨by rw [e]; rfl, rfl⟩
      have d5 : decide ((x.left.length : Int) > 100) = false := decide_eq_false h5
      have hx1 : lightA x = true := by
        unfold lightA
        rw [decide_eq_true (show x.name.length ≤ 200 by omega), decide_eq_true (show x.other.length ≤ 200 by omega), decide_eq_true (show x.s.length ≤ 300 by omega), decide_eq_true (show x.left.length ≤ 100 by omega)]; rfl
      have HX1 := Aside0.mk hx1
      clear h2 h3 h4 h5 hx1
      go_wp2
      exact ⟨⟨i + 1, by rw [bw], ⟨hi⟩, ⟨by rw [HE.out, HHD.out, HX1.out]; rfl⟩, trivial⟩, by rw [bw]; simp only [intOf]; omega⟩
    · have b1 : decide ((i : Int) < (l.length : Int)) = false := decide_eq_false (by omega)
      have e : l.all lightA = true := by rw [HE.out, List.drop_of_length_le (by omega)]; rfl
      go_wp2
      go_ret
      exact ⟨by rw [e]; rfl, rfl⟩
end Go.Proofs.Ytdkmdicmipcifaa.Disk
