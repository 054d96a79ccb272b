import Derived.Test.YtdkmdicmipcifaaDiskWalk8
import Derived.Test.YtdkmdicmipcifaaDiskOthersLaw
namespace Go.Proofs.Ytdkmdicmipcifaa.Disk
open Go Go.RowKit Go.Maps Go.Proofs.YtdkmdicmipcifaaW.PrintWords Go.Proofs.YtdkmdicmipcifaaW.PrintLast Go.Proofs.YtdkmdicmipcifaaW.PrintMore
open Go.Proofs.Ytdkmdicmipcifaa.Pure (mk mk_size mk_app mk_toList mk_dataList mk_ext_from wrap_in)
attribute [local go_sem] mk_size mk_app mk_toList
theorem pick_calls {w : World} (c n : Int) (h0 : -9223372036854775808 ≤ c) (h1 : c ≤ 9223372036854775807) (hn : 0 < n) :
    Calls Try.prog 15 #[.int .i64 c, .int .i64 n] w fun e w' => e = .returned (.int .i64 (pickV c n)) ∧ w' = w := by
  have hn0 : (n == 0) = false := by simp; omega
  have hn1 : decide (n = 0) = false := by simp; omega
  have hn2 : ¬ n = 0 := by omega
  unfold pickV
  by_cases hc : c < 0
  · rw [if_pos hc]
    have b0 : decide (c < 0) = true := decide_eq_true hc
    have b1 : wrap64 (c + 1) = c + 1 := w64 (by omega) (by omega)
    have b2 : wrap64 (-(c + 1)) = -(c + 1) := w64 (by omega) (by omega)
    clear hc
    go_enter Try.func15, Try.ntmps15
    go_wp2
    go_ret
    exact ⟨by first | rfl | simp, rfl⟩
  · rw [if_neg hc]
    have b0 : decide (c < 0) = false := decide_eq_false hc
    clear hc
    go_enter Try.func15, Try.ntmps15
    go_wp2
    go_ret
    exact ⟨by first | rfl | simp, rfl⟩
theorem pickV_rng0 (c n : Int) (hn : 0 < n) : ∃ k : Nat, pickV c n = k ∧ (k : Int) < n := by
  have h : ∀ x : Int, 0 ≤ x → ∃ k : Nat, Int.tmod x n = k ∧ (k : Int) < n := fun x hx => by
    have h1 := Int.tmod_nonneg n hx
    have h2 := Int.tmod_lt_of_pos x hn
    exact ⟨(Int.tmod x n).toNat, by omega, by omega⟩
  unfold pickV
  split
  · exact h _ (by omega)
  · exact h _ (by omega)
def s0 : Dk := new 100
def s1 : Dk := (append s0 [97] [120, 121]).1
def s2 : Dk := (sync s1 [97]).1
def s3 : Dk := (append s2 [97] [122, 122]).1
def s4 : Dk := crash s3 [1]
def s5 : Dk := limit s4 2
def s6 : Dk := (save s5 [97] [113]).1
def s7 : Dk := crash s6 []
def s8 : Dk := (save s7 [97] [113]).1
theorem e1 : (append s0 [97] [120, 121]).2 = 0 := by decide +kernel
theorem e2 : (sync s1 [97]).2 = 0 := by decide +kernel
theorem e3 : (append s2 [97] [122, 122]).2 = 0 := by decide +kernel
theorem r4 : read s4 [97] = ([120, 121, 122], 0) := by decide +kernel
theorem e6 : (save s5 [97] [113]).2 = 11 := by decide +kernel
theorem q6 : s6.gone = true := by decide +kernel
theorem r7 : read s7 [97] = ([120, 121, 122], 0) := by decide +kernel
theorem e8 : (save s7 [97] [113]).2 = 0 := by decide +kernel
theorem r8 : read s8 [97] = ([113], 0) := by decide +kernel
theorem gd0 : Good s0 := good_new (by decide) (by decide)
theorem gd1 : Good s1 := good_append gd0 _ _
theorem gd2 : Good s2 := good_sync gd1 _
theorem gd3 : Good s3 := good_append gd2 _ _
theorem gd4 : Good s4 := good_crash gd3 _
theorem gd5 : Good s5 := good_limit gd4 (by decide)
theorem gd6 : Good s6 := good_save gd5 _ _
theorem gd7 : Good s7 := good_crash gd6 _
theorem gd8 : Good s8 := good_save gd7 _ _
theorem str_xyz : ((mk [120, 121, 122]).toList == (⟨#[120, 121, 122]⟩ : ByteArray).toList) = true := by decide +kernel
theorem str_q : ((mk [113]).toList == (⟨#[113]⟩ : ByteArray).toList) = true := by decide +kernel
theorem Ints.one {w : World} {p b : Nat} {d : Dk} (h : At w p b d) (x : Int) : Ints (w.alloc (.cells #[.int .i64 x] 3)) p b (.slice (some ⟨w.heap.size, 0, none⟩) 1 1) [x] := by
  refine .inr ⟨⟨w.heap.size, 0, none⟩, 1, rfl, Nat.le_refl _, by have := h.lt; simp only []; omega, by have := h.ltb; simp only []; omega, fun i hi => ?_⟩
  have : i = 0 := by simp at hi; omega
  subst this
  have := new_row w (.cells #[.int .i64 x] 3)
  show World.cell? _ ⟨w.heap.size, 0, none⟩ = _
  simp only [World.cell?, this]
  rfl
theorem Ints.none_ (w : World) (p b : Nat) : Ints w p b (.slice none 0 0) [] := .inl ⟨rfl, none, 0, rfl⟩
set_option maxHeartbeats 8000000 in
set_option maxRecDepth 100000 in
theorem shown_calls (w : World) : Calls Try.prog 9 #[] w fun e w' => e = .returned (.bool true) ∧ Below w.heap.size w w' := by
  have hx := str_xyz
  have hq := str_q
  go_enter Try.func9, Try.ntmps9
  go_wp2_with (first
    | (go_at_call 12; (try (refine gate_guard (by rfl) ?_; dsimp only)); refine (read_calls HD12.out gd8 [97] (by decide)).mono ?_; rintro e v13 ⟨rfl, hD, ht⟩; rw [r8]; have HT13 := Aside0.mk (HT12.out.trans ht); have HD13 := Aside0.mk hD; clear hD ht)
    | (go_at_call 16; (try (refine gate_guard (by rfl) ?_; dsimp only)); refine (save_calls HD11.out gd7 [97] [113] (by decide) (by decide)).mono ?_; rintro e v12 ⟨rfl, hD, ht⟩; rw [e8]; have hD : At v12 _ _ s8 := hD; have HT12 := Aside0.mk (HT11.out.trans ht); have HD12 := Aside0.mk hD; clear hD ht)
    | (go_at_call 12; (try (refine gate_guard (by rfl) ?_; dsimp only)); refine (read_calls HD10.out gd7 [97] (by decide)).mono ?_; rintro e v11 ⟨rfl, hD, ht⟩; rw [r7]; have HT11 := Aside0.mk (HT10.out.trans ht); have HD11 := Aside0.mk hD; clear hD ht)
    | (go_at_call 17; (try (refine gate_guard (by rfl) ?_; dsimp only)); refine (crash_calls HX.out.out gd6 _ [] (Ints.none_ _ _ _) ⟨_, _, rfl⟩ (by decide)).mono ?_; rintro e v10 ⟨rfl, hD, ht⟩; have hD : At v10 _ _ s7 := hD; have HT10 := Aside0.mk (HT8.out.trans ht); have HD10 := Aside0.mk hD; clear hD ht)
    | (go_at_call 25; refine (dead_calls HD8.out).mono ?_; rintro e v9 ⟨rfl, rfl⟩; rw [q6]; have HX := Aside0.mk HD8)
    | (go_at_call 16; (try (refine gate_guard (by rfl) ?_; dsimp only)); refine (save_calls HD7.out gd5 [97] [113] (by decide) (by decide)).mono ?_; rintro e v8 ⟨rfl, hD, ht⟩; rw [e6]; have hD : At v8 _ _ s6 := hD; have HT8 := Aside0.mk (HT7.out.trans ht); have HD8 := Aside0.mk hD; clear hD ht)
    | (go_at_call 14; (try (refine gate_guard (by rfl) ?_; dsimp only)); refine (limit_calls HD6.out 2).mono ?_; rintro e v7 ⟨rfl, hD, ht⟩; have hD : At v7 _ _ s5 := hD; have HT7 := Aside0.mk (HT6.out.trans ht); have HD7 := Aside0.mk hD; clear hD ht)
    | (go_at_call 12; (try (refine gate_guard (by rfl) ?_; dsimp only)); refine (read_calls HD5.out gd4 [97] (by decide)).mono ?_; rintro e v6 ⟨rfl, hD, ht⟩; rw [r4]; have HT6 := Aside0.mk (HT5.out.trans ht); have HD6 := Aside0.mk hD; clear hD ht)
    | (go_at_call 17; (try (refine gate_guard (by rfl) ?_; dsimp only)); refine (crash_calls (HD4.out.alloc _) gd3 _ [1] (Ints.one HD4.out 1) ⟨_, _, rfl⟩ (by decide)).mono ?_; rintro e v5 ⟨rfl, hD, ht⟩; have hD : At v5 _ _ s4 := hD; have HT5 := Aside0.mk ((HT4.out.alloc _).trans ht); have HD5 := Aside0.mk hD; clear hD ht)
    | (go_at_call 18; (try (refine gate_guard (by rfl) ?_; dsimp only)); refine (append_calls HD3.out gd2 [97] [122, 122] (by decide) (by decide)).mono ?_; rintro e v4 ⟨rfl, hD, ht⟩; rw [e3]; have hD : At v4 _ _ s3 := hD; have HT4 := Aside0.mk (HT3.out.trans ht); have HD4 := Aside0.mk hD; clear hD ht)
    | (go_at_call 19; (try (refine gate_guard (by rfl) ?_; dsimp only)); refine (sync_calls HD2.out gd1 [97] (by decide)).mono ?_; rintro e v3 ⟨rfl, hD, ht⟩; rw [e2]; have hD : At v3 _ _ s2 := hD; have HT3 := Aside0.mk (HT2.out.trans ht); have HD3 := Aside0.mk hD; clear hD ht)
    | (go_at_call 18; (try (refine gate_guard (by rfl) ?_; dsimp only)); refine (append_calls HD1.out gd0 [97] [120, 121] (by decide) (by decide)).mono ?_; rintro e v2 ⟨rfl, hD, ht⟩; rw [e1]; have hD : At v2 _ _ s1 := hD; have HT2 := Aside0.mk (HT1.out.trans ht); have HD2 := Aside0.mk hD; clear hD ht)
    | (go_at_call 21; (try (refine gate_guard (by rfl) ?_; dsimp only)); refine (new_calls (w := w) 100 (by decide) (by decide)).mono ?_; rintro e v1 ⟨rfl, hD, hb⟩; have HB := Aside0.mk hb; have HT1 := Aside0.mk (Two.refl (w.heap.size + 1) w.heap.size v1); have HD1 := Aside0.mk (show At v1 (w.heap.size + 1) w.heap.size s0 from hD); clear hD hb)
    | go_in)
  go_ret
  exact ⟨by first | rfl | (simp; done), HB.out.trans (HT13.out.under (B := w.heap.size) HB.out.size (by omega) (by omega))⟩
end Go.Proofs.Ytdkmdicmipcifaa.Disk
