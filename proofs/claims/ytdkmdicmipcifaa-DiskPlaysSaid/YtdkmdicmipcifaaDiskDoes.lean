import Derived.Test.YtdkmdicmipcifaaDiskActs
namespace Go.Proofs.Ytdkmdicmipcifaa.Disk
open Go Go.RowKit Go.Maps Go.Proofs.YtdkmdicmipcifaaW.PrintWords Go.Proofs.YtdkmdicmipcifaaW.PrintLast Go.Proofs.YtdkmdicmipcifaaW.PrintMore
open Go.Proofs.Ytdkmdicmipcifaa.Pure (mk mk_size mk_app mk_toList mk_dataList mk_ext_from wrap_in)
attribute [local go_sem] mk_size mk_app mk_toList
theorem pickV_eq (c : Int) {k : Nat} (h : pickV c 12 = k) (d : Dk) (x : Act') (hx : x.op = c) : doesV d x =
    if k = 4 ∨ k = 5 then sync d x.name else if k = 6 then rename d x.name x.other else if k = 7 then remove d x.name else if k = 8 ∨ k = 9 then save d x.name x.s
    else if k = 10 then (limit d x.n, 0) else if k = 11 then (crash d x.left, 0) else append d x.name x.s := by
  unfold doesV
  rw [hx, h]
  have e : ∀ m : Nat, ((k : Int) = (m : Int)) = (k = m) := fun m => by rw [eq_iff_iff]; omega
  have e4 : ((k : Int) = 4) = (k = 4) := e 4
  have e5 : ((k : Int) = 5) = (k = 5) := e 5
  have e6 : ((k : Int) = 6) = (k = 6) := e 6
  have e7 : ((k : Int) = 7) = (k = 7) := e 7
  have e8 : ((k : Int) = 8) = (k = 8) := e 8
  have e9 : ((k : Int) = 9) = (k = 9) := e 9
  have e10 : ((k : Int) = 10) = (k = 10) := e 10
  have e11 : ((k : Int) = 11) = (k = 11) := e 11
  simp only [e4, e5, e6, e7, e8, e9, e10, e11]
set_option maxHeartbeats 8000000 in
set_option maxRecDepth 100000 in
theorem does_calls {w : World} {p b B : Nat} {d : Dk} (hD : At w p b d) (g : Good d) (x : Act') (v : Value) (hI : IntsB w B v x.left) (hp : B ≤ p) (hb : B ≤ b) (hl : lightA x = true)
    (hf : (-9223372036854775808 ≤ x.op ∧ x.op ≤ 9223372036854775807) ∧ (-9223372036854775808 ≤ x.n ∧ x.n ≤ 9223372036854775807)) :
    Calls Try.prog 20 #[.pointer (some ⟨p, 0, none⟩), .agg #[.int .i64 x.op, .int .i64 x.n, .string (mk x.name), .string (mk x.other), .string (mk x.s), v]] w fun e w' =>
      e = .returned (.int .i64 (doesV d x).2) ∧ At w' p b (doesV d x).1 ∧ Two p b w w' := by
  obtain ⟨k, hk, hk1⟩ := pickV_rng0 x.op 12 (by decide)
  have hd := pickV_eq x.op hk d x rfl
  unfold lightA at hl
  simp only [Bool.and_eq_true, decide_eq_true_eq] at hl
  have HL := Aside0.mk hl
  obtain ⟨a5, c5, hv⟩ := hI.shape
  subst hv
  have HI := Aside0.mk ((hI.ints hp hb).two (Two.below (p := p) (b := b) ((Below.refl _ w).alloc (Nat.le_refl _) (.cells #[.int .i64 x.op, .int .i64 x.n, .string (mk x.name), .string (mk x.other), .string (mk x.s), .slice a5 x.left.length c5] 41))))
  have HF := Aside0.mk hf
  have HG := Aside0.mk g
  have HD := Aside0.mk hD
  have HK := Aside0.mk hk
  clear hD g hI hp hb hl hf hk
  have hcase : k = 0 ∨ k = 1 ∨ k = 2 ∨ k = 3 ∨ k = 4 ∨ k = 5 ∨ k = 6 ∨ k = 7 ∨ k = 8 ∨ k = 9 ∨ k = 10 ∨ k = 11 := by omega
  clear hk1
  rcases hcase with rfl | rfl | rfl | rfl | rfl | rfl | rfl | rfl | rfl | rfl | rfl | rfl
  · have e : doesV d x = append d x.name x.s := hd
    rw [e]
    clear hd e
    go_enter Try.func20, Try.ntmps20
    go_wp2_with (first
      | (go_at_call 18; refine (append_calls (HD.out.alloc _) HG.out x.name x.s (by have := HL.out; omega) (by have := HL.out; omega)).mono ?_; rintro e w2 ⟨rfl, hD2, ht2⟩)
      | (go_at_call 15; refine (pick_calls x.op 12 HF.out.1.1 HF.out.1.2 (by decide)).mono ?_; rintro e w1 ⟨rfl, rfl⟩; rw [HK.out])
      | go_in)
    go_ret
    exact ⟨rfl, hD2, ((Two.refl p b w).alloc _).trans ht2⟩
  · have e : doesV d x = append d x.name x.s := hd
    rw [e]
    clear hd e
    go_enter Try.func20, Try.ntmps20
    go_wp2_with (first
      | (go_at_call 18; refine (append_calls (HD.out.alloc _) HG.out x.name x.s (by have := HL.out; omega) (by have := HL.out; omega)).mono ?_; rintro e w2 ⟨rfl, hD2, ht2⟩)
      | (go_at_call 15; refine (pick_calls x.op 12 HF.out.1.1 HF.out.1.2 (by decide)).mono ?_; rintro e w1 ⟨rfl, rfl⟩; rw [HK.out])
      | go_in)
    go_ret
    exact ⟨rfl, hD2, ((Two.refl p b w).alloc _).trans ht2⟩
  · have e : doesV d x = append d x.name x.s := hd
    rw [e]
    clear hd e
    go_enter Try.func20, Try.ntmps20
    go_wp2_with (first
      | (go_at_call 18; refine (append_calls (HD.out.alloc _) HG.out x.name x.s (by have := HL.out; omega) (by have := HL.out; omega)).mono ?_; rintro e w2 ⟨rfl, hD2, ht2⟩)
      | (go_at_call 15; refine (pick_calls x.op 12 HF.out.1.1 HF.out.1.2 (by decide)).mono ?_; rintro e w1 ⟨rfl, rfl⟩; rw [HK.out])
      | go_in)
    go_ret
    exact ⟨rfl, hD2, ((Two.refl p b w).alloc _).trans ht2⟩
  · have e : doesV d x = append d x.name x.s := hd
    rw [e]
    clear hd e
    go_enter Try.func20, Try.ntmps20
    go_wp2_with (first
      | (go_at_call 18; refine (append_calls (HD.out.alloc _) HG.out x.name x.s (by have := HL.out; omega) (by have := HL.out; omega)).mono ?_; rintro e w2 ⟨rfl, hD2, ht2⟩)
      | (go_at_call 15; refine (pick_calls x.op 12 HF.out.1.1 HF.out.1.2 (by decide)).mono ?_; rintro e w1 ⟨rfl, rfl⟩; rw [HK.out])
      | go_in)
    go_ret
    exact ⟨rfl, hD2, ((Two.refl p b w).alloc _).trans ht2⟩
  · have e : doesV d x = sync d x.name := hd
    rw [e]
    clear hd e
    go_enter Try.func20, Try.ntmps20
    go_wp2_with (first
      | (go_at_call 19; refine (sync_calls (HD.out.alloc _) HG.out x.name (by have := HL.out; unfold maxLen; omega)).mono ?_; rintro e w2 ⟨rfl, hD2, ht2⟩)
      | (go_at_call 15; refine (pick_calls x.op 12 HF.out.1.1 HF.out.1.2 (by decide)).mono ?_; rintro e w1 ⟨rfl, rfl⟩; rw [HK.out])
      | go_in)
    go_ret
    exact ⟨rfl, hD2, ((Two.refl p b w).alloc _).trans ht2⟩
  · have e : doesV d x = sync d x.name := hd
    rw [e]
    clear hd e
    go_enter Try.func20, Try.ntmps20
    go_wp2_with (first
      | (go_at_call 19; refine (sync_calls (HD.out.alloc _) HG.out x.name (by have := HL.out; unfold maxLen; omega)).mono ?_; rintro e w2 ⟨rfl, hD2, ht2⟩)
      | (go_at_call 15; refine (pick_calls x.op 12 HF.out.1.1 HF.out.1.2 (by decide)).mono ?_; rintro e w1 ⟨rfl, rfl⟩; rw [HK.out])
      | go_in)
    go_ret
    exact ⟨rfl, hD2, ((Two.refl p b w).alloc _).trans ht2⟩
  · have e : doesV d x = rename d x.name x.other := hd
    rw [e]
    clear hd e
    go_enter Try.func20, Try.ntmps20
    go_wp2_with (first
      | (go_at_call 27; refine (rename_calls (HD.out.alloc _) HG.out x.name x.other (by have := HL.out; unfold maxLen; omega) (by have := HL.out; omega)).mono ?_; rintro e w2 ⟨rfl, hD2, ht2⟩)
      | (go_at_call 15; refine (pick_calls x.op 12 HF.out.1.1 HF.out.1.2 (by decide)).mono ?_; rintro e w1 ⟨rfl, rfl⟩; rw [HK.out])
      | go_in)
    go_ret
    exact ⟨rfl, hD2, ((Two.refl p b w).alloc _).trans ht2⟩
  · have e : doesV d x = remove d x.name := hd
    rw [e]
    clear hd e
    go_enter Try.func20, Try.ntmps20
    go_wp2_with (first
      | (go_at_call 32; refine (remove_calls (HD.out.alloc _) HG.out x.name (by have := HL.out; unfold maxLen; omega)).mono ?_; rintro e w2 ⟨rfl, hD2, ht2⟩)
      | (go_at_call 15; refine (pick_calls x.op 12 HF.out.1.1 HF.out.1.2 (by decide)).mono ?_; rintro e w1 ⟨rfl, rfl⟩; rw [HK.out])
      | go_in)
    go_ret
    exact ⟨rfl, hD2, ((Two.refl p b w).alloc _).trans ht2⟩
  · have e : doesV d x = save d x.name x.s := hd
    rw [e]
    clear hd e
    go_enter Try.func20, Try.ntmps20
    go_wp2_with (first
      | (go_at_call 16; refine (save_calls (HD.out.alloc _) HG.out x.name x.s (by have := HL.out; omega) (by have := HL.out; omega)).mono ?_; rintro e w2 ⟨rfl, hD2, ht2⟩)
      | (go_at_call 15; refine (pick_calls x.op 12 HF.out.1.1 HF.out.1.2 (by decide)).mono ?_; rintro e w1 ⟨rfl, rfl⟩; rw [HK.out])
      | go_in)
    go_ret
    exact ⟨rfl, hD2, ((Two.refl p b w).alloc _).trans ht2⟩
  · have e : doesV d x = save d x.name x.s := hd
    rw [e]
    clear hd e
    go_enter Try.func20, Try.ntmps20
    go_wp2_with (first
      | (go_at_call 16; refine (save_calls (HD.out.alloc _) HG.out x.name x.s (by have := HL.out; omega) (by have := HL.out; omega)).mono ?_; rintro e w2 ⟨rfl, hD2, ht2⟩)
      | (go_at_call 15; refine (pick_calls x.op 12 HF.out.1.1 HF.out.1.2 (by decide)).mono ?_; rintro e w1 ⟨rfl, rfl⟩; rw [HK.out])
      | go_in)
    go_ret
    exact ⟨rfl, hD2, ((Two.refl p b w).alloc _).trans ht2⟩
  · have e : doesV d x = (limit d x.n, 0) := hd
    rw [e]
    clear hd e
    go_enter Try.func20, Try.ntmps20
    go_wp2_with (first
      | (go_at_call 14; refine (limit_calls (HD.out.alloc _) x.n).mono ?_; rintro e w2 ⟨rfl, hD2, ht2⟩)
      | (go_at_call 15; refine (pick_calls x.op 12 HF.out.1.1 HF.out.1.2 (by decide)).mono ?_; rintro e w1 ⟨rfl, rfl⟩; rw [HK.out])
      | go_in)
    go_ret
    exact ⟨rfl, hD2, ((Two.refl p b w).alloc _).trans ht2⟩
  · have e : doesV d x = (crash d x.left, 0) := hd
    rw [e]
    clear hd e
    go_enter Try.func20, Try.ntmps20
    go_wp2_with (first
      | (go_at_call 17; refine (crash_calls (HD.out.alloc _) HG.out _ x.left HI.out ⟨_, _, rfl⟩ (by have := HL.out; omega)).mono ?_; rintro e w2 ⟨rfl, hD2, ht2⟩)
      | (go_at_call 15; refine (pick_calls x.op 12 HF.out.1.1 HF.out.1.2 (by decide)).mono ?_; rintro e w1 ⟨rfl, rfl⟩; rw [HK.out])
      | go_in)
    go_ret
    exact ⟨rfl, hD2, ((Two.refl p b w).alloc _).trans ht2⟩
end Go.Proofs.Ytdkmdicmipcifaa.Disk
