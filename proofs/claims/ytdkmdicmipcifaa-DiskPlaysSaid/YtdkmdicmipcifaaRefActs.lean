import Derived.Test.YtdkmdicmipcifaaDiskDoes
import Derived.Test.YtdkmdicmipcifaaRefWalk7
namespace Go.Proofs.Ytdkmdicmipcifaa.Disk
open Go Go.RowKit Go.Maps Go.Proofs.YtdkmdicmipcifaaW.PrintWords Go.Proofs.YtdkmdicmipcifaaW.PrintLast Go.Proofs.YtdkmdicmipcifaaW.PrintMore
open Go.Proofs.Ytdkmdicmipcifaa.Pure (mk mk_size mk_app mk_toList mk_dataList mk_ext_from wrap_in)
attribute [local go_sem] mk_size mk_app mk_toList
set_option maxHeartbeats 8000000 in
set_option maxRecDepth 100000 in
theorem model_calls {w : World} {q c B : Nat} {A : Option Addr} {d : Dk} (hD : RAt w q A c d) (g : Good d) (x : Act') (v : Value) (hI : IntsB w B v x.left) (hp : B ≤ q) (hb : B ≤ rowB q A) (hl : lightA x = true)
    (hf : (-9223372036854775808 ≤ x.op ∧ x.op ≤ 9223372036854775807) ∧ (-9223372036854775808 ≤ x.n ∧ x.n ≤ 9223372036854775807)) :
    Calls Try.prog 23 #[.pointer (some ⟨q, 0, none⟩), .agg #[.int .i64 x.op, .int .i64 x.n, .string (mk x.name), .string (mk x.other), .string (mk x.s), v]] w (ROut q A w (.int .i64 (doesV d x).2) (doesV d x).1) := by
  obtain ⟨k, hk, hk1⟩ := pickV_rng0 x.op 12 (by decide)
  have hd := pickV_eq x.op hk d x rfl
  unfold lightA at hl
  simp only [Bool.and_eq_true, decide_eq_true_eq] at hl
  have HL := Aside0.mk hl
  obtain ⟨a5, c5, hv⟩ := hI.shape
  subst hv
  have HI := Aside0.mk ((hI.ints hp hb).two (Two.below (p := q) (b := rowB q A) ((Below.refl _ w).alloc (Nat.le_refl _) (.cells #[.int .i64 x.op, .int .i64 x.n, .string (mk x.name), .string (mk x.other), .string (mk x.s), .slice a5 x.left.length c5] 41))))
  have HF := Aside0.mk hf
  have HG := Aside0.mk g
  have HD := Aside0.mk hD
  have HK := Aside0.mk hk
  clear hD g hI hp hb hl hf hk
  have hcase : k = 0 ∨ k = 1 ∨ k = 2 ∨ k = 3 ∨ k = 4 ∨ k = 5 ∨ k = 6 ∨ k = 7 ∨ k = 8 ∨ k = 9 ∨ k = 10 ∨ k = 11 := by omega
  clear hk1
  rcases hcase with rfl | rfl | rfl | rfl | rfl | rfl | rfl | rfl | rfl | rfl | rfl | rfl
  · have e : doesV d x = append d x.name x.s := hd
    rw [e]
    clear hd e
    go_enter Try.func23, Try.ntmps23
    go_wp2_with (first
      | (go_at_call 41; refine (rappend_calls (HD.out.alloc _) HG.out x.name x.s (by have := HL.out; omega) (by have := HL.out; omega)).mono ?_; rintro e w2 ⟨A', c', rfl, hD2, ht2⟩)
      | (go_at_call 15; refine (pick_calls x.op 12 HF.out.1.1 HF.out.1.2 (by decide)).mono ?_; rintro e w1 ⟨rfl, rfl⟩; rw [HK.out])
      | go_in)
    go_ret
    exact ⟨A', c', rfl, hD2, (RT.refl.alloc _).trans ht2⟩
  · have e : doesV d x = append d x.name x.s := hd
    rw [e]
    clear hd e
    go_enter Try.func23, Try.ntmps23
    go_wp2_with (first
      | (go_at_call 41; refine (rappend_calls (HD.out.alloc _) HG.out x.name x.s (by have := HL.out; omega) (by have := HL.out; omega)).mono ?_; rintro e w2 ⟨A', c', rfl, hD2, ht2⟩)
      | (go_at_call 15; refine (pick_calls x.op 12 HF.out.1.1 HF.out.1.2 (by decide)).mono ?_; rintro e w1 ⟨rfl, rfl⟩; rw [HK.out])
      | go_in)
    go_ret
    exact ⟨A', c', rfl, hD2, (RT.refl.alloc _).trans ht2⟩
  · have e : doesV d x = append d x.name x.s := hd
    rw [e]
    clear hd e
    go_enter Try.func23, Try.ntmps23
    go_wp2_with (first
      | (go_at_call 41; refine (rappend_calls (HD.out.alloc _) HG.out x.name x.s (by have := HL.out; omega) (by have := HL.out; omega)).mono ?_; rintro e w2 ⟨A', c', rfl, hD2, ht2⟩)
      | (go_at_call 15; refine (pick_calls x.op 12 HF.out.1.1 HF.out.1.2 (by decide)).mono ?_; rintro e w1 ⟨rfl, rfl⟩; rw [HK.out])
      | go_in)
    go_ret
    exact ⟨A', c', rfl, hD2, (RT.refl.alloc _).trans ht2⟩
  · have e : doesV d x = append d x.name x.s := hd
    rw [e]
    clear hd e
    go_enter Try.func23, Try.ntmps23
    go_wp2_with (first
      | (go_at_call 41; refine (rappend_calls (HD.out.alloc _) HG.out x.name x.s (by have := HL.out; omega) (by have := HL.out; omega)).mono ?_; rintro e w2 ⟨A', c', rfl, hD2, ht2⟩)
      | (go_at_call 15; refine (pick_calls x.op 12 HF.out.1.1 HF.out.1.2 (by decide)).mono ?_; rintro e w1 ⟨rfl, rfl⟩; rw [HK.out])
      | go_in)
    go_ret
    exact ⟨A', c', rfl, hD2, (RT.refl.alloc _).trans ht2⟩
  · have e : doesV d x = sync d x.name := hd
    rw [e]
    clear hd e
    go_enter Try.func23, Try.ntmps23
    go_wp2_with (first
      | (go_at_call 35; refine (rsync_calls (HD.out.alloc _) HG.out x.name).mono ?_; rintro e w2 ⟨A', c', rfl, hD2, ht2⟩)
      | (go_at_call 15; refine (pick_calls x.op 12 HF.out.1.1 HF.out.1.2 (by decide)).mono ?_; rintro e w1 ⟨rfl, rfl⟩; rw [HK.out])
      | go_in)
    go_ret
    exact ⟨A', c', rfl, hD2, (RT.refl.alloc _).trans ht2⟩
  · have e : doesV d x = sync d x.name := hd
    rw [e]
    clear hd e
    go_enter Try.func23, Try.ntmps23
    go_wp2_with (first
      | (go_at_call 35; refine (rsync_calls (HD.out.alloc _) HG.out x.name).mono ?_; rintro e w2 ⟨A', c', rfl, hD2, ht2⟩)
      | (go_at_call 15; refine (pick_calls x.op 12 HF.out.1.1 HF.out.1.2 (by decide)).mono ?_; rintro e w1 ⟨rfl, rfl⟩; rw [HK.out])
      | go_in)
    go_ret
    exact ⟨A', c', rfl, hD2, (RT.refl.alloc _).trans ht2⟩
  · have e : doesV d x = rename d x.name x.other := hd
    rw [e]
    clear hd e
    go_enter Try.func23, Try.ntmps23
    go_wp2_with (first
      | (go_at_call 36; refine (rrename_calls (HD.out.alloc _) HG.out x.name x.other (by have := HL.out; omega)).mono ?_; rintro e w2 ⟨A', c', rfl, hD2, ht2⟩)
      | (go_at_call 15; refine (pick_calls x.op 12 HF.out.1.1 HF.out.1.2 (by decide)).mono ?_; rintro e w1 ⟨rfl, rfl⟩; rw [HK.out])
      | go_in)
    go_ret
    exact ⟨A', c', rfl, hD2, (RT.refl.alloc _).trans ht2⟩
  · have e : doesV d x = remove d x.name := hd
    rw [e]
    clear hd e
    go_enter Try.func23, Try.ntmps23
    go_wp2_with (first
      | (go_at_call 37; refine (rremove_calls (HD.out.alloc _) HG.out x.name).mono ?_; rintro e w2 ⟨A', c', rfl, hD2, ht2⟩)
      | (go_at_call 15; refine (pick_calls x.op 12 HF.out.1.1 HF.out.1.2 (by decide)).mono ?_; rintro e w1 ⟨rfl, rfl⟩; rw [HK.out])
      | go_in)
    go_ret
    exact ⟨A', c', rfl, hD2, (RT.refl.alloc _).trans ht2⟩
  · have e : doesV d x = save d x.name x.s := hd
    rw [e]
    clear hd e
    go_enter Try.func23, Try.ntmps23
    go_wp2_with (first
      | (go_at_call 38; refine (rsave_calls (HD.out.alloc _) HG.out x.name x.s (by have := HL.out; omega) (by have := HL.out; omega)).mono ?_; rintro e w2 ⟨A', c', rfl, hD2, ht2⟩)
      | (go_at_call 15; refine (pick_calls x.op 12 HF.out.1.1 HF.out.1.2 (by decide)).mono ?_; rintro e w1 ⟨rfl, rfl⟩; rw [HK.out])
      | go_in)
    go_ret
    exact ⟨A', c', rfl, hD2, (RT.refl.alloc _).trans ht2⟩
  · have e : doesV d x = save d x.name x.s := hd
    rw [e]
    clear hd e
    go_enter Try.func23, Try.ntmps23
    go_wp2_with (first
      | (go_at_call 38; refine (rsave_calls (HD.out.alloc _) HG.out x.name x.s (by have := HL.out; omega) (by have := HL.out; omega)).mono ?_; rintro e w2 ⟨A', c', rfl, hD2, ht2⟩)
      | (go_at_call 15; refine (pick_calls x.op 12 HF.out.1.1 HF.out.1.2 (by decide)).mono ?_; rintro e w1 ⟨rfl, rfl⟩; rw [HK.out])
      | go_in)
    go_ret
    exact ⟨A', c', rfl, hD2, (RT.refl.alloc _).trans ht2⟩
  · have e : doesV d x = (limit d x.n, 0) := hd
    rw [e]
    clear hd e
    go_enter Try.func23, Try.ntmps23
    go_wp2_with (first
      | (go_at_call 39; refine (rlimit_calls (HD.out.alloc _) x.n).mono ?_; rintro e w2 ⟨A', c', rfl, hD2, ht2⟩)
      | (go_at_call 15; refine (pick_calls x.op 12 HF.out.1.1 HF.out.1.2 (by decide)).mono ?_; rintro e w1 ⟨rfl, rfl⟩; rw [HK.out])
      | go_in)
    go_ret
    exact ⟨A', c', rfl, hD2, (RT.refl.alloc _).trans ht2⟩
  · have e : doesV d x = (crash d x.left, 0) := hd
    rw [e]
    clear hd e
    go_enter Try.func23, Try.ntmps23
    go_wp2_with (first
      | (go_at_call 40; refine (rcrash_calls (HD.out.alloc _) HG.out _ x.left HI.out ⟨_, _, rfl⟩ (by have := HL.out; omega)).mono ?_; rintro e w2 ⟨A', c', rfl, hD2, ht2⟩)
      | (go_at_call 15; refine (pick_calls x.op 12 HF.out.1.1 HF.out.1.2 (by decide)).mono ?_; rintro e w1 ⟨rfl, rfl⟩; rw [HK.out])
      | go_in)
    go_ret
    exact ⟨A', c', rfl, hD2, (RT.refl.alloc _).trans ht2⟩
end Go.Proofs.Ytdkmdicmipcifaa.Disk
