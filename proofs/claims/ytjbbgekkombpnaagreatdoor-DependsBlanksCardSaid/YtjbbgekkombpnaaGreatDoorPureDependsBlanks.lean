import Derived.Test.YtjbbgekkombpnaaGreatDoorPureDepBack
import Derived.Test.YtjbbgekkombpnaaGreatDoorDepRow
import Derived.Test.YtjbbgekkombpnaaGreatDoorPAx23
namespace Go.Proofs.YtjbbgekkombpnaaGreatDoor.Pure
open Go.RowKit Go.Proofs.YtjbbgekkombpnaaGreatDoor.PA Go.Proofs.YtjbbgekkombpnaaGreatDoorW.PrintWords Go.Proofs.YtjbbgekkombpnaaGreatDoorW.PrintLast Go.Proofs.YtjbbgekkombpnaaGreatDoorW.PrintMore
open Go.Lib (join joinTail)
open Dep (pcs splitB trimS)
theorem wf_rng {a : Int} (h : (Lit.int .i64 a).wf = true) : -9223372036854775808 ≤ a ∧ a ≤ 9223372036854775807 := by
  have h1 : IntKind.i64.min = -9223372036854775808 := by decide
  have h2 : IntKind.i64.max = 9223372036854775807 := by decide
  simp [Lit.wf] at h
  omega
theorem ones_right {a : List S3} (hl : a.length ≤ 12) (hr : ∀ x ∈ a, rightS x = true) : rightL (ones a) = true := by
  unfold rightL
  rw [Bool.and_eq_true]
  refine ⟨List.all_eq_true.2 (fun g hg => ?_), decide_eq_true (by simpa [ones] using hl)⟩
  obtain ⟨x, hx, rfl⟩ := List.mem_map.1 hg
  unfold rightG
  simp [hr x hx]
theorem ones_atoms : ∀ (l out : List S3), atomsF (ones l) out = (out ++ l, 0)
  | [], out => by simp [ones, atomsF]
  | x :: r, out => by
    have := ones_atoms r (out ++ [x])
    simp only [ones] at this
    simp only [ones, List.map_cons, atomsF, List.length_cons, List.length_nil, if_true, this]
    simp
theorem depV_pcs {l : List (List S3)} (h : rightL l = true) {s : Bs} (h0 : s ≠ []) (hp : pcs 44 s = l.map textG) : depV s = (l, 0) := by
  obtain ⟨h12, hg⟩ := rightL_len h
  unfold depV
  rw [if_neg h0, hp, List.length_map, if_neg (by omega)]
  have hany : (l.map textG).any bigV = false := by
    rw [List.any_eq_false]
    intro y hy
    obtain ⟨q, hq, rfl⟩ := List.mem_map.1 hy
    have hc := pcs_count 124 (textG q)
    rw [(textG_facts (hg q hq).1 (hg q hq).2.2).2.2, List.length_map] at hc
    have := (hg q hq).2.1
    unfold bigV
    rw [decide_eq_true_eq]
    omega
  rw [hany, if_neg (by simp), grpsV_of _ [] (fun q hq => ⟨(hg q hq).1, (hg q hq).2.2⟩), List.nil_append]
def blk (B : Bs) (x : S3) : Bs := B ++ printS x ++ B
def blkS (B : Bs) (a : List S3) : Bs := join (a.map (blk B)) [44]
theorem joinTail_snoc (sep : Bs) (y : Bs) : ∀ r : List Bs, joinTail sep (r ++ [y]) = joinTail sep r ++ sep ++ y
  | [] => by rw [List.nil_append, joinTail_cons]; simp [joinTail]
  | x :: r => by rw [List.cons_append, joinTail_cons, joinTail_snoc sep y r, joinTail_cons]; simp
theorem blkS_snoc (B : Bs) (a : List S3) (x : S3) (h : a ≠ []) : blkS B (a ++ [x]) = blkS B a ++ [44] ++ B ++ printS x ++ B := by
  cases a with
  | nil => exact absurd rfl h
  | cons y r =>
    unfold blkS
    rw [List.cons_append, List.map_cons, List.map_append, List.map_cons, List.map_nil, Lib.join_cons, joinTail_snoc, List.map_cons, Lib.join_cons]
    simp [blk]
theorem blk_len (B : Bs) (hB : B.length ≤ 8) (x : S3) (h : smS x) : (blk B x).length ≤ 4116 := by
  have := printS_len x h
  unfold blk
  rw [List.length_append, List.length_append]
  omega
theorem blkS_len (B : Bs) (hB : B.length ≤ 8) (a : List S3) (hl : a.length ≤ 12) (hs : ∀ x ∈ a, smS x) : (blkS B a).length ≤ 50000 := by
  have := join_len [44] 4116 (a.map (blk B)) (fun y hy => by obtain ⟨x, hx, rfl⟩ := List.mem_map.1 hy; exact blk_len B hB x (hs x hx))
  rw [List.length_map, List.length_singleton] at this
  unfold blkS
  omega
theorem blk_44 {B : Bs} (hB : ∀ y ∈ B, y = 32) {x : S3} (h : rightS x = true) : (44 : UInt8) ∉ blk B x := by
  have hn : (44 : UInt8) ∉ B := fun hm => absurd (hB _ hm) (by decide)
  unfold blk
  rw [List.mem_append, List.mem_append]
  exact fun h' => h'.elim (fun h' => h'.elim hn (printS_44 h)) hn
theorem trim_map {B : Bs} (hB : ∀ y ∈ B, y = 32) : ∀ (a : List S3), (∀ x ∈ a, rightS x = true) → (a.map (blk B)).map trimS = (ones a).map textG
  | [], _ => rfl
  | x :: r, h => by
    have e : trimS (blk B x) = textG [x] := by
      unfold blk
      rw [Dep.trimS_mid B B _ hB hB, trimS_tight (printS_tight (h x (by simp)))]
      show printS x = join [printS x] _
      rw [Lib.join_one]
    rw [List.map_cons, List.map_cons, e, trim_map hB r (fun y hy => h y (by simp [hy]))]
    rfl
theorem blkS_pcs {B : Bs} (hB : ∀ y ∈ B, y = 32) {a : List S3} (h1 : a ≠ []) (h : ∀ x ∈ a, rightS x = true) : pcs 44 (blkS B a) = (ones a).map textG := by
  cases a with
  | nil => exact absurd rfl h1
  | cons x r =>
    have := pcs_join 44 (by decide) [] [] (by simp) (by simp) (r.map (blk B)) (blk B x) (fun y hy => by
      rw [← List.map_cons (f := blk B)] at hy
      obtain ⟨q, hq, rfl⟩ := List.mem_map.1 hy
      exact blk_44 hB (h q hq))
    unfold blkS
    rw [List.map_cons, show ([44] : Bs) = [] ++ 44 :: [] from rfl, this, ← List.map_cons (f := blk B), trim_map hB (x :: r) h]
theorem blkS_ne {B : Bs} {a : List S3} (h1 : a ≠ []) (h : ∀ x ∈ a, rightS x = true) : blkS B a ≠ [] := by
  cases a with
  | nil => exact absurd rfl h1
  | cons x r =>
    obtain ⟨⟨c, t, e, _⟩, _⟩ := printS_tight (h x (by simp))
    unfold blkS
    rw [List.map_cons, Lib.join_cons]
    unfold blk
    rw [e]
    simp
theorem blanks_l0 (a : List S3) (B : Bs) (hB : ∀ y ∈ B, y = 32) (hBl : B.length ≤ 8) (h1 : a ≠ []) (hl : a.length ≤ 12) (hs : ∀ x ∈ a, smS x) : ∀ (n i : Nat), n + i = a.length → (∀ x ∈ a.take i, rightS x = true) → Ev (fun k => keelsonlaw4_DependsBlanks.l0 k a (mk B) (mk (blkS B (a.take i))) (i : Int)) true
  | 0, i, h, hr => by
    rw [List.take_of_length_le (by omega)] at hr ⊢
    have hlen := blkS_len B hBl a hl hs
    have e1 := DAtoms_f (blkS B a) (by omega)
    have e2 : datV (blkS B a) = (a, 0) := by
      unfold datV
      rw [depV_pcs (ones_right hl hr) (blkS_ne h1 hr) (blkS_pcs hB h1 hr)]
      simp [ones_atoms]
    rw [e2] at e1
    refine Ev.shift ?_
    simp only [keelsonlaw4_DependsBlanks.l0]
    exact Ev.neg (by omega) (Ev.bind e1 (Ev.pos rfl (Ev.bind (sameAtoms_f a (by omega)) (Ev.some_ _))))
  | n + 1, i, h, hr => by
    have hi : i < a.length := by omega
    have hm := List.getElem_mem hi
    have hlen := blkS_len B hBl (a.take i) (by rw [List.length_take]; omega) (fun x hx => hs x (List.mem_of_mem_take hx))
    have hp := printS_len a[i] (hs _ hm)
    have e44 : (⟨#[44]⟩ : ByteArray) = mk [44] := rfl
    refine Ev.shift ?_
    simp only [keelsonlaw4_DependsBlanks.l0, rdT a i hi]
    refine Ev.pos (by omega) (Ev.pos (by omega) (Ev.bind (RightS_r _ (hs _ hm)) ?_))
    cases hx : rightS a[i] with
    | false => exact Ev.neg (by simp) (Ev.some_ _)
    | true =>
      have hr' : ∀ x ∈ a.take (i + 1), rightS x = true := fun x hm' => by
        rw [List.take_succ_eq_append_getElem hi] at hm'
        rcases List.mem_append.1 hm' with hm' | hm'
        · exact hr x hm'
        · rw [List.mem_singleton.1 hm']; exact hx
      have ih := blanks_l0 a B hB hBl h1 hl hs n (i + 1) (by omega) hr'
      refine Ev.pos rfl ?_
      by_cases h0 : (i : Int) > 0
      · have e : blkS B (a.take (i + 1)) = blkS B (a.take i) ++ [44] ++ B ++ printS a[i] ++ B := by
          rw [List.take_succ_eq_append_getElem hi]
          exact blkS_snoc B _ _ (fun e => by have := congrArg List.length e; rw [List.length_take, List.length_nil] at this; omega)
        rw [e] at ih
        refine Ev.pos h0 (Ev.pos (by rw [mk_size]; omega) (Ev.pos (by rw [e44, mk_app, mk_size, mk_size, List.length_append, List.length_singleton]; omega) (Ev.bind (PrintS_r _ (hs _ hm)) (Ev.pos (by rw [e44, mk_app, mk_app, mk_size, mk_size]; simp only [List.length_append, List.length_singleton]; omega) (Ev.pos (by rw [e44, mk_app, mk_app, mk_app, mk_size, mk_size]; simp only [List.length_append, List.length_singleton]; omega) ?_)))))
        rw [e44, mk_app, mk_app, mk_app, mk_app, wrap_succ i (by omega)]
        exact ih
      · obtain rfl : i = 0 := by omega
        have e : blkS B (a.take (0 + 1)) = blkS B (a.take 0) ++ B ++ printS a[0] ++ B := by
          rw [List.take_succ_eq_append_getElem hi, List.take_zero, List.nil_append]
          unfold blkS
          rw [List.map_cons, List.map_nil, Lib.join_one, Lib.join_nil, List.nil_append]
          rfl
        rw [e] at ih
        refine Ev.neg h0 (Ev.pos (by rw [mk_size, mk_size]; omega) (Ev.bind (PrintS_r _ (hs _ hm)) (Ev.pos (by rw [mk_app, mk_size, mk_size]; simp only [List.length_append]; omega) (Ev.pos (by rw [mk_app, mk_app, mk_size, mk_size]; simp only [List.length_append]; omega) ?_))))
        rw [mk_app, mk_app, mk_app, wrap_succ 0 (by omega)]
        exact ih
theorem blanks_j1 (a : List S3) (h1 : a ≠ []) (hl : a.length ≤ 12) (hs : ∀ x ∈ a, smS x) (x : Int) (h0 : 0 ≤ x) : Ev (fun k => keelsonlaw4_DependsBlanks.j1 k a x) true := by
  have e : Int.tmod x 9 = x % 9 := by rw [Int.tmod_eq_emod_of_nonneg h0]
  refine Ev.shift ?_
  simp only [keelsonlaw4_DependsBlanks.j1, e]
  refine Ev.pos (by omega) (Ev.pos (by omega) ?_)
  have e2 : (⟨#[32, 32, 32, 32, 32, 32, 32, 32]⟩ : ByteArray) = mk [32, 32, 32, 32, 32, 32, 32, 32] := rfl
  rw [e2, mk_ext_from]
  have := blanks_l0 a (([32, 32, 32, 32, 32, 32, 32, 32] : Bs).take (x % 9).toNat) (fun y hy => by simpa using List.mem_of_mem_take hy) (by rw [List.length_take]; simp; omega) h1 hl hs a.length 0 (by omega) (by simp)
  rw [List.take_zero] at this
  exact this
theorem DependsBlanks (a : List S3) (n : Int) {P : Prop} (_ : P) (hw : (Lit.int .i64 n).wf = true) : ∃ k, keelsonlaw4_DependsBlanks.f k a n = some true := by
  have hn := wf_rng hw
  have j0 : ∀ c : Bool, (c = false → (a.length ≤ 12 ∧ a ≠ []) ∧ ∀ x ∈ a, smS x) → Ev (fun k => keelsonlaw4_DependsBlanks.j0 k a n true c) true := by
    intro c hc
    refine Ev.shift ?_
    simp only [keelsonlaw4_DependsBlanks.j0]
    cases c
    · obtain ⟨⟨h1, h2⟩, h3⟩ := hc rfl
      refine Ev.neg (by simp) ?_
      by_cases h0 : n < 0
      · refine Ev.pos h0 ?_
        rw [wrap_in (n + 1) (by omega) (by omega), wrap_in (-(n + 1)) (by omega) (by omega)]
        exact blanks_j1 a h2 h1 h3 _ (by omega)
      · exact Ev.neg h0 (blanks_j1 a h2 h1 h3 _ (by omega))
    · exact Ev.pos rfl (Ev.some_ _)
  have main : Ev (fun k => keelsonlaw4_DependsBlanks.f k a n) true := by
    simp only [keelsonlaw4_DependsBlanks.f]
    refine Ev.bind shown4_ev (Ev.bind (light_f a) (Ev.pos rfl ?_))
    cases h : lightV a with
    | false => exact Ev.neg (by simp) (j0 true (fun h => by cases h))
    | true =>
      obtain ⟨_, h2⟩ := lightV_true h
      refine Ev.pos rfl ?_
      by_cases h12 : (a.length : Int) > 12
      · exact Ev.pos h12 (j0 true (fun h => by cases h))
      · refine Ev.neg h12 (j0 _ (fun h => ⟨⟨by omega, fun e => ?_⟩, h2⟩))
        rw [e] at h
        cases h
  exact main.rounds
end Go.Proofs.YtjbbgekkombpnaaGreatDoor.Pure
