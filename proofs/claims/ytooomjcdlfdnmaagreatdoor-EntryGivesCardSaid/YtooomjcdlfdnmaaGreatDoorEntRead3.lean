import Derived.Test.YtooomjcdlfdnmaaGreatDoorEntRight
import Derived.Test.YtooomjcdlfdnmaaGreatDoorPAx10
import Derived.RegionTactic
import Derived.ChangeAlike
import Derived.Deep.RegionWith
namespace Go.Proofs.YtooomjcdlfdnmaaGreatDoor.Ent
open Go Go.RowKit Go.Shelf Go.Proofs.YtooomjcdlfdnmaaGreatDoorW.PrintWords Go.Proofs.YtooomjcdlfdnmaaGreatDoor.PA Go.Proofs.YtooomjcdlfdnmaaGreatDoor.Pure
set_option linter.unusedVariables false
structure Bu (D : Nat) (w w' : World) : Prop where
  os : w'.os = w.os
  tape : w'.tape = w.tape
  output : w'.output = w.output
  size : w.heap.size ≤ w'.heap.size
  block : ∀ k, k < w.heap.size → k ≠ D → w'.heap[k]? = w.heap[k]?
theorem Bu.below {D B : Nat} {w0 w w' : World} (h : Bu D w w') (hb : Below B w0 w) (hB : B ≤ w.heap.size) (hD : B ≤ D) : Below B w0 w' :=
  ⟨h.os.trans hb.os, h.tape.trans hb.tape, h.output.trans hb.output, Nat.le_trans hb.size h.size, fun k hk => (h.block k (by omega) (by omega)).trans (hb.block k hk)⟩
theorem Bu.of {D : Nat} {w w' : World} (hb : Below w.heap.size w w') : Bu D w w' := ⟨hb.os, hb.tape, hb.output, hb.size, fun k hk _ => hb.block k hk⟩
theorem Bu.set {D : Nat} {w w' : World} (h : Bu D w w') (i : Nat) (v : Value) : Bu D w (w'.setCell ⟨D, i, none⟩ v) :=
  ⟨h.os, h.tape, h.output, by simpa using h.size, fun k hk hn => (Below.heap_setCell w' ⟨D, i, none⟩ v k hn).trans (h.block k hk hn)⟩
theorem Bu.then {D : Nat} {w w1 w' : World} (h : Bu D w w1) (h2 : Bu D w1 w') : Bu D w w' :=
  ⟨h2.os.trans h.os, h2.tape.trans h.tape, h2.output.trans h.output, Nat.le_trans h.size h2.size, fun k hk hn => (h2.block k (Nat.lt_of_lt_of_le hk h.size) hn).trans (h.block k hk hn)⟩
abbrev fstB (f : Int) : Obj := .cells #[.int .i64 f] 45 (0, 0)
abbrev stB (A : Option Addr) (n c : Nat) : Obj := .cells #[.slice A n c] 40 (0, 0)
def or2 (f g : Int) : Int := if f = 0 then g else f
theorem or_f (f g : Int) : api_Errno.f 4 [f, g] = some (or2 f g) := by
  unfold or2
  by_cases hf : f = 0
  · by_cases hg : g = 0 <;> simp [api_Errno.f, api_Errno.l0, rd, wrap64, hf, hg]
  · simp [api_Errno.f, api_Errno.l0, rd, wrap64, hf]
theorem C_ints2 {W : World} {b : Nat} {ty : TypeId} {x y : Int} (hb : W.heap[b]? = some (.cells #[.int .i64 x, .int .i64 y] ty (0, 0))) : (Kd.int .i64).C W (some ⟨b, 0, none⟩) 2 [x, y] := by
  refine ⟨rfl, by omega, fun _ => ⟨⟨b, 0, none⟩, rfl, fun j p hj => ?_⟩⟩
  match j, hj with
  | 0, hj =>
    obtain rfl : x = p := by simpa using hj
    refine ⟨_, rfl, rfl, fun i u hi => ?_⟩
    have hi' := (List.getElem?_eq_some_iff.1 hi).1
    have h0 : i = 0 := by simp at hi'; exact hi'
    subst h0
    obtain rfl : Value.int .i64 x = u := by simpa using hi
    rw [Addr.add_lit]
    simp [World.cell?, hb]
  | 1, hj =>
    obtain rfl : y = p := by simpa using hj
    refine ⟨_, rfl, rfl, fun i u hi => ?_⟩
    have hi' := (List.getElem?_eq_some_iff.1 hi).1
    have h0 : i = 0 := by simp at hi'; exact hi'
    subst h0
    obtain rfl : Value.int .i64 y = u := by simpa using hi
    rw [Addr.add_lit]
    simp [World.cell?, hb, show (Kd.int IntKind.i64).sz = 1 from rfl]
theorem or_calls {W : World} (hG : GL W) {b : Nat} {ty : TypeId} {f g : Int} (hb : W.heap[b]? = some (.cells #[.int .i64 f, .int .i64 g] ty (0, 0))) :
    Calls Tryz.prog 80 #[.slice (some ⟨b, 0, none⟩) 2 2] W fun e w' => e = .returned (.int .i64 (or2 f g)) ∧ Below W.heap.size W w' :=
  (api_Errno.calls 4 (some ⟨b, 0, none⟩) 2 [f, g] (or2 f g) W hG (C_ints2 hb) (Nat.le_refl 2) (or_f f g)).mono fun e w' ⟨h1, h2⟩ => ⟨h1, h2.below⟩
set_option maxRecDepth 100000 in
theorem get1_calls {w : World} (hG : GL w) {A : Option Addr} {c : Nat} {l : List S49} (hr : Kd.C k49 w A l.length l) (hl : l.length < 1000000000000) {W : World} (hb : Below w.heap.size w W) {D1 D4 : Nat} {f : Int}
    (h1 : W.heap[D1]? = some (stB A l.length c)) (h4 : W.heap[D4]? = some (fstB f)) (hD : w.heap.size ≤ D4) (n : ByteArray) :
    Calls Tryz.prog 78 #[.string n, .pointer (some ⟨D1, 0, none⟩), .pointer (some ⟨D4, 0, none⟩)] W fun en w' => en = .returned (.string (getV n l).1) ∧ w'.heap[D4]? = some (fstB (if (getV n l).2 = true then f else or2 f 6)) ∧ Bu D4 W w' := by
  have x1 : W.cell? ⟨D1, 0, none⟩ = some (.slice A l.length c) := by simp [World.cell?, h1]
  have HGet := Aside0.mk ((qb_get A c l n hr hl).later hb)
  have H4 := Aside0.mk h4
  have hlt := (Array.getElem?_eq_some_iff.1 h4).1
  have HLT := Aside0.mk hlt
  have HGW := Aside0.mk (hG.below hb)
  obtain ⟨v, hv⟩ : ∃ v, getV n l = v := ⟨_, rfl⟩
  rw [hv] at HGet ⊢
  obtain ⟨s, b⟩ := v
  clear hv hr hl hb h1 h4 hD hlt
  cases b
  · go_enter Tryz.func78, Tryz.ntmps78
    go_wp2_with (first
      | (go_at_call 80; refine (or_calls (HGW.out.below (qab HB1.out _)) (World.alloc_heap_new w1 _)).mono ?_; rintro en w2 ⟨rfl, hb2⟩; have h42 := (hb2.block _ (by have := (Array.getElem?_eq_some_iff.1 H41.out).1; simp; omega)).trans ((Below.heap_alloc _ _ _ (Array.getElem?_eq_some_iff.1 H41.out).1).trans H41.out); obtain ⟨x42, f42⟩ := Dep.boxC h42; have H42 := Aside0.mk h42; have HB2 := Aside0.mk ((HB1.out.trans (qab (Below.refl _ _) _ |>.mono HB1.out.size)).trans (hb2.mono (by have := HB1.out.size; simp; omega))); clear hb2 h42)
      | (go_at_call 79; refine (HGet.out.at_ (Below.refl _ _)).mono ?_; rintro en w1 ⟨rfl, hb1⟩; have HB1 := Aside0.mk hb1; have h41 := (hb1.block _ HLT.out).trans H4.out; obtain ⟨x4, f4⟩ := Dep.boxC h41; have H41 := Aside0.mk h41; clear hb1 h41))
    go_ret
    exact ⟨rfl, Dep.boxSet _ H42.out, (Bu.of HB2.out).set 0 _⟩
  · go_enter Tryz.func78, Tryz.ntmps78
    go_wp2_with (go_at_call 79; refine (HGet.out.at_ (Below.refl _ _)).mono ?_; rintro en w1 ⟨rfl, hb1⟩; have HB1 := Aside0.mk hb1; clear hb1)
    go_ret
    exact ⟨rfl, (HB1.out.block _ HLT.out).trans H4.out, Bu.of HB1.out⟩
end Go.Proofs.YtooomjcdlfdnmaaGreatDoor.Ent

namespace Go.Proofs.YtooomjcdlfdnmaaGreatDoor.Ent
open Go Go.RowKit Go.Shelf Go.Proofs.YtooomjcdlfdnmaaGreatDoorW.PrintWords Go.Proofs.YtooomjcdlfdnmaaGreatDoor.PA Go.Proofs.YtooomjcdlfdnmaaGreatDoor.Pure
set_option linter.unusedVariables false
theorem parse_calls {W : World} (hG : GL W) (s : ByteArray) (hs : s.size < 1000000) :
    Calls Tryz.prog 83 #[.string s] W fun en w' => ∃ A c, en = .returned (.tuple #[.slice A (depV (bs s)).1.length c, .int .i64 (depV (bs s)).2]) ∧ (depV (bs s)).1.length ≤ c ∧ Kd.F KG w' (fun k => W.heap.size ≤ k) A (depV (bs s)).1.length (depV (bs s)).1 ∧ Below W.heap.size W w' := by
  obtain ⟨k, hk⟩ := DParse_f (bs s) (by rw [bs_len]; exact hs)
  have hk := hk k (Nat.le_refl _)
  rw [mk_bs] at hk
  refine (depends_Parse.calls k s (depV (bs s)).1 (depV (bs s)).2 W hG hk).mono ?_
  rintro en w' ⟨v, rfl, hS, hb⟩
  obtain ⟨A, c, rfl, hc, _⟩ := Kd.S_reads hS
  exact ⟨A, c, rfl, hc, Kd.S_F (Kd.S_mono (Kd.S_bound hS) (fun k hk => hk.2.1)), hb⟩
theorem atoms_calls {W : World} (hG : GL W) (s : ByteArray) (hs : s.size < 1000000) :
    Calls Tryz.prog 86 #[.string s] W fun en w' => ∃ A c, en = .returned (.tuple #[.slice A (datV (bs s)).1.length c, .int .i64 (datV (bs s)).2]) ∧ (datV (bs s)).1.length ≤ c ∧ Kd.F KA w' (fun k => W.heap.size ≤ k) A (datV (bs s)).1.length (datV (bs s)).1 ∧ Below W.heap.size W w' := by
  obtain ⟨k, hk⟩ := DAtoms_f (bs s) (by rw [bs_len]; exact hs)
  have hk := hk k (Nat.le_refl _)
  rw [mk_bs] at hk
  refine (depends_Atoms.calls k s (datV (bs s)).1 (datV (bs s)).2 W hG hk).mono ?_
  rintro en w' ⟨v, rfl, hR, hb⟩
  obtain ⟨A, c, rfl, hc, _⟩ := Kd.R_reads hR
  exact ⟨A, c, rfl, hc, Kd.R_F (Kd.R_mono (Kd.R_bound hR) (fun k hk => hk.2.1)), hb⟩
structure EF (W : World) (D : Nat) (e : E6) (a : EA) : Prop where
  r2 : Kd.F KG W (fun k => D < k) a.A2 e.f2.length e.f2
  k2 : e.f2.length ≤ a.c2
  r3 : Kd.F KG W (fun k => D < k) a.A3 e.f3.length e.f3
  k3 : e.f3.length ≤ a.c3
  r4 : Kd.F KA W (fun k => D < k) a.A4 e.f4.length e.f4
  k4 : e.f4.length ≤ a.c4
  r5 : Kd.F KA W (fun k => D < k) a.A5 e.f5.length e.f5
  k5 : e.f5.length ≤ a.c5
theorem EF.move {W W' : World} {D : Nat} {e : E6} {a : EA} (h : EF W D e a) (hm : ∀ k, D < k → k < W.heap.size → W'.heap[k]? = W.heap[k]?) : EF W' D e a :=
  ⟨Kd.F_step h.r2 hm, h.k2, Kd.F_step h.r3 hm, h.k3, Kd.F_step h.r4 hm, h.k4, Kd.F_step h.r5 hm, h.k5⟩
theorem EF.bu {W W' : World} {D D' : Nat} {e : E6} {a : EA} (h : EF W D e a) (hb : Bu D' W W') (hD : D' ≤ D) : EF W' D e a := h.move (fun k h1 h2 => hb.block k h2 (by omega))
theorem EF.now {W : World} {D : Nat} {e : E6} {a : EA} (h : EF W D e a) : EC W e a := ⟨Kd.F_now h.r2, h.k2, Kd.F_now h.r3, h.k3, Kd.F_now h.r4, h.k4, Kd.F_now h.r5, h.k5⟩
theorem F_wide {α : Type} {d : Kd α} {W : World} {B D n : Nat} {A : Option Addr} {xs : List α} (h : Kd.F d W (fun k => B ≤ k) A n xs) (hB : D < B) : Kd.F d W (fun k => D < k) A n xs := Kd.F_mono h (fun k hk => Nat.lt_of_lt_of_le hB hk)
theorem ecs_get {W : World} {D : Nat} {T : TypeId} {cs : Array Value} (h : W.heap[D]? = some (.cells cs T (0, 0))) (i : Nat) : W.frozen? ⟨D, i, none⟩ = false := by simp [World.frozen?, h]
theorem ecs_set {W : World} {D : Nat} {T : TypeId} {cs : Array Value} (h : W.heap[D]? = some (.cells cs T (0, 0))) (i : Nat) (v : Value) : (W.setCell ⟨D, i, none⟩ v).heap[D]? = some (.cells (cs.setIfInBounds i v) T (0, 0)) := by
  simp [World.setCell, Array.getElem?_modify, h]
def Reads (g : Nat) (res : ByteArray → Int) (put : ByteArray → E6 → E6) (D6 : Nat) : Prop :=
  ∀ (W : World) (e : E6) (a : EA) (s : ByteArray), GL W → s.size < 1000000 → W.heap[D6]? = some (.cells (ecs e a) 25 (0, 0)) → EF W D6 e a →
    Calls Tryz.prog g #[.string s, .pointer (some ⟨D6, 0, none⟩)] W fun en w' => en = .returned (.int .i64 (res s)) ∧ ∃ a', w'.heap[D6]? = some (.cells (ecs (put s e) a') 25 (0, 0)) ∧ EF w' D6 (put s e) a' ∧ Bu D6 W w'
set_option maxRecDepth 100000 in
theorem read3_reads (D6 : Nat) : Reads 82 (fun s => (depV (bs s)).2) (fun s e => { e with f2 := (depV (bs s)).1 }) D6 := by
  intro W e a s hG hs h6 hF
  have x6 := ecs_get h6 2
  have hlt := (Array.getElem?_eq_some_iff.1 h6).1
  have HP := Aside0.mk (parse_calls hG s hs)
  have H6 := Aside0.mk h6
  have HLT := Aside0.mk hlt
  have HF := Aside0.mk hF
  clear h6 hlt hF hs hG
  go_enter Tryz.func82, Tryz.ntmps82
  go_wp2_with (go_at_call 83; refine HP.out.mono ?_; rintro en w1 ⟨A1, c1, rfl, hc1, hF1, hb1⟩; have h61 := (hb1.block _ HLT.out).trans H6.out; have y6 := ecs_get h61 2; have y7 := (qap h61); have H61 := Aside0.mk h61; have HB1 := Aside0.mk hb1; have HF1 := Aside0.mk hF1; have HC1 := Aside0.mk hc1; obtain ⟨y0, y1, y2, y3, y4, y5⟩ := y7; clear h61 hb1 hF1 hc1)
  go_ret
  refine ⟨rfl, { a with A2 := A1, c2 := c1 }, ecs_set H61.out 2 _, ?_, (Bu.of HB1.out).set 2 _⟩
  have hF2 := (HF.out.bu (Bu.of HB1.out) (Nat.le_refl _))
  have hmv : ∀ k, D6 < k → k < w1.heap.size → (w1.setCell ⟨D6, 2, none⟩ (.slice A1 (depV (bs s)).1.length c1)).heap[k]? = w1.heap[k]? := fun k h1 h2 => Below.heap_setCell w1 ⟨D6, 2, none⟩ _ k (by show k ≠ D6; omega)
  have hF3 := hF2.move hmv
  exact { hF3 with r2 := Kd.F_step (F_wide HF1.out HLT.out) hmv, k2 := HC1.out }
set_option maxRecDepth 100000 in
theorem read4_reads (D6 : Nat) : Reads 84 (fun s => (depV (bs s)).2) (fun s e => { e with f3 := (depV (bs s)).1 }) D6 := by
  intro W e a s hG hs h6 hF
  have x6 := ecs_get h6 3
  have hlt := (Array.getElem?_eq_some_iff.1 h6).1
  have HP := Aside0.mk (parse_calls hG s hs)
  have H6 := Aside0.mk h6
  have HLT := Aside0.mk hlt
  have HF := Aside0.mk hF
  clear h6 hlt hF hs hG
  go_enter Tryz.func84, Tryz.ntmps84
  go_wp2_with (go_at_call 83; refine HP.out.mono ?_; rintro en w1 ⟨A1, c1, rfl, hc1, hF1, hb1⟩; have h61 := (hb1.block _ HLT.out).trans H6.out; have y6 := ecs_get h61 3; have y7 := (qap h61); have H61 := Aside0.mk h61; have HB1 := Aside0.mk hb1; have HF1 := Aside0.mk hF1; have HC1 := Aside0.mk hc1; obtain ⟨y0, y1, y2, y3, y4, y5⟩ := y7; clear h61 hb1 hF1 hc1)
  go_ret
  refine ⟨rfl, { a with A3 := A1, c3 := c1 }, ecs_set H61.out 3 _, ?_, (Bu.of HB1.out).set 3 _⟩
  have hF2 := (HF.out.bu (Bu.of HB1.out) (Nat.le_refl _))
  have hmv : ∀ k, D6 < k → k < w1.heap.size → (w1.setCell ⟨D6, 3, none⟩ (.slice A1 (depV (bs s)).1.length c1)).heap[k]? = w1.heap[k]? := fun k h1 h2 => Below.heap_setCell w1 ⟨D6, 3, none⟩ _ k (by show k ≠ D6; omega)
  have hF3 := hF2.move hmv
  exact { hF3 with r3 := Kd.F_step (F_wide HF1.out HLT.out) hmv, k3 := HC1.out }
set_option maxRecDepth 100000 in
theorem read5_reads (D6 : Nat) : Reads 85 (fun s => (datV (bs s)).2) (fun s e => { e with f4 := (datV (bs s)).1 }) D6 := by
  intro W e a s hG hs h6 hF
  have x6 := ecs_get h6 4
  have hlt := (Array.getElem?_eq_some_iff.1 h6).1
  have HP := Aside0.mk (atoms_calls hG s hs)
  have H6 := Aside0.mk h6
  have HLT := Aside0.mk hlt
  have HF := Aside0.mk hF
  clear h6 hlt hF hs hG
  go_enter Tryz.func85, Tryz.ntmps85
  go_wp2_with (go_at_call 86; refine HP.out.mono ?_; rintro en w1 ⟨A1, c1, rfl, hc1, hF1, hb1⟩; have h61 := (hb1.block _ HLT.out).trans H6.out; have y6 := ecs_get h61 4; have y7 := (qap h61); have H61 := Aside0.mk h61; have HB1 := Aside0.mk hb1; have HF1 := Aside0.mk hF1; have HC1 := Aside0.mk hc1; obtain ⟨y0, y1, y2, y3, y4, y5⟩ := y7; clear h61 hb1 hF1 hc1)
  go_ret
  refine ⟨rfl, { a with A4 := A1, c4 := c1 }, ecs_set H61.out 4 _, ?_, (Bu.of HB1.out).set 4 _⟩
  have hF2 := (HF.out.bu (Bu.of HB1.out) (Nat.le_refl _))
  have hmv : ∀ k, D6 < k → k < w1.heap.size → (w1.setCell ⟨D6, 4, none⟩ (.slice A1 (datV (bs s)).1.length c1)).heap[k]? = w1.heap[k]? := fun k h1 h2 => Below.heap_setCell w1 ⟨D6, 4, none⟩ _ k (by show k ≠ D6; omega)
  have hF3 := hF2.move hmv
  exact { hF3 with r4 := Kd.F_step (F_wide HF1.out HLT.out) hmv, k4 := HC1.out }
set_option maxRecDepth 100000 in
theorem read6_reads (D6 : Nat) : Reads 87 (fun s => (datV (bs s)).2) (fun s e => { e with f5 := (datV (bs s)).1 }) D6 := by
  intro W e a s hG hs h6 hF
  have x6 := ecs_get h6 5
  have hlt := (Array.getElem?_eq_some_iff.1 h6).1
  have HP := Aside0.mk (atoms_calls hG s hs)
  have H6 := Aside0.mk h6
  have HLT := Aside0.mk hlt
  have HF := Aside0.mk hF
  clear h6 hlt hF hs hG
  go_enter Tryz.func87, Tryz.ntmps87
  go_wp2_with (go_at_call 86; refine HP.out.mono ?_; rintro en w1 ⟨A1, c1, rfl, hc1, hF1, hb1⟩; have h61 := (hb1.block _ HLT.out).trans H6.out; have y6 := ecs_get h61 5; have y7 := (qap h61); have H61 := Aside0.mk h61; have HB1 := Aside0.mk hb1; have HF1 := Aside0.mk hF1; have HC1 := Aside0.mk hc1; obtain ⟨y0, y1, y2, y3, y4, y5⟩ := y7; clear h61 hb1 hF1 hc1)
  go_ret
  refine ⟨rfl, { a with A5 := A1, c5 := c1 }, ecs_set H61.out 5 _, ?_, (Bu.of HB1.out).set 5 _⟩
  have hF2 := (HF.out.bu (Bu.of HB1.out) (Nat.le_refl _))
  have hmv : ∀ k, D6 < k → k < w1.heap.size → (w1.setCell ⟨D6, 5, none⟩ (.slice A1 (datV (bs s)).1.length c1)).heap[k]? = w1.heap[k]? := fun k h1 h2 => Below.heap_setCell w1 ⟨D6, 5, none⟩ _ k (by show k ≠ D6; omega)
  have hF3 := hF2.move hmv
  exact { hF3 with r5 := Kd.F_step (F_wide HF1.out HLT.out) hmv, k5 := HC1.out }
end Go.Proofs.YtooomjcdlfdnmaaGreatDoor.Ent

namespace Go.Proofs.YtooomjcdlfdnmaaGreatDoor.Ent
open Go Go.RowKit Go.Shelf Go.Proofs.YtooomjcdlfdnmaaGreatDoorW.PrintWords Go.Proofs.YtooomjcdlfdnmaaGreatDoor.PA Go.Proofs.YtooomjcdlfdnmaaGreatDoor.Pure
set_option linter.unusedVariables false
set_option maxRecDepth 100000 in
set_option maxHeartbeats 4000000 in
theorem field_calls {w : World} (hG : GL w) {A : Option Addr} {c : Nat} {l : List S49} (hr : Kd.C k49 w A l.length l) (hl : l.length < 1000000000000) {W : World} (hb : Below w.heap.size w W) {D1 D4 D6 : Nat} {f : Int} {e : E6} {a : EA}
    (h1 : W.heap[D1]? = some (stB A l.length c)) (h4 : W.heap[D4]? = some (fstB f)) (h6 : W.heap[D6]? = some (.cells (ecs e a) 25 (0, 0))) (hF : EF W D6 e a) (hD : w.heap.size ≤ D1) (h14 : D1 < D4) (h46 : D4 < D6)
    (g : Nat) (res : ByteArray → Int) (put : ByteArray → E6 → E6) (eg : ∀ args w, (callFunc g args).run Tryz.prog w = .ok (.enter g args) w) (hR : Reads g res put D6) (n : ByteArray) (hn : (getV n l).1.size < 1000000) :
    Calls Tryz.prog 81 #[.string n, .func (.func g) #[] #[.pointer (some ⟨D6, 0, none⟩)], .pointer (some ⟨D1, 0, none⟩), .pointer (some ⟨D4, 0, none⟩)] W fun en w' =>
      en = .returned (.tuple #[]) ∧ ∃ a', w'.heap[D4]? = some (fstB (or2 f (res (getV n l).1))) ∧ w'.heap[D6]? = some (.cells (ecs (put (getV n l).1 e) a') 25 (0, 0)) ∧ EF w' D6 (put (getV n l).1 e) a' ∧ w'.heap[D1]? = some (stB A l.length c) ∧ Below w.heap.size w w' ∧ (∀ k, k < W.heap.size → k ≠ D4 → k ≠ D6 → w'.heap[k]? = W.heap[k]?) := by
  have x1 : W.cell? ⟨D1, 0, none⟩ = some (.slice A l.length c) := (Dep.boxC h1).1
  have HGet := Aside0.mk ((qb_get A c l n hr hl).later hb)
  have HGW := Aside0.mk (hG.below hb)
  have HL6 := Aside0.mk (Array.getElem?_eq_some_iff.1 h6).1
  have H1 := Aside0.mk h1
  have H4 := Aside0.mk h4
  have H6 := Aside0.mk h6
  have HF := Aside0.mk hF
  have HB := Aside0.mk hb
  have HO := Aside0.mk (And.intro hD (And.intro h14 h46))
  have HN := Aside0.mk hn
  have HR := Aside0.mk hR
  have ne46 : D4 ≠ D6 := by omega
  obtain ⟨s, hs⟩ : ∃ s, getV n l = s := ⟨_, rfl⟩
  rw [hs] at HGet HN ⊢
  obtain ⟨s, b⟩ := s
  clear hs hr hl hb h1 h4 h6 hF hD h14 h46 hn hR
  go_enter Tryz.func81, Tryz.ntmps81
  go_wp2_with (go_at_call 79; refine (HGet.out.at_ (Below.refl _ _)).mono ?_; rintro en w1 ⟨rfl, hb1⟩; have hlt := HL6.out; have ho := HO.out; have h41 := (hb1.block _ (by omega)).trans H4.out; obtain ⟨x4, f4⟩ := Dep.boxC h41; have H41 := Aside0.mk h41; have H61 := Aside0.mk ((hb1.block _ (by omega)).trans H6.out); have H11 := Aside0.mk ((hb1.block _ (by omega)).trans H1.out); have hbw1 := hb1; have HF1 := Aside0.mk (HF.out.bu (Bu.of hb1) (Nat.le_refl _)); have HB1 := Aside0.mk (HB.out.trans (hb1.mono HB.out.size)); clear hb1 h41 hlt ho x1)
  go_region_with (first
    | (go_at_call 80; refine (or_calls (HG2.out.below (qab (Below.refl _ _) _)) (World.alloc_heap_new _ _)).mono ?_; rintro en w3 ⟨rfl, hb3⟩; have hb4 := (qab (Below.refl w2.heap.size w2) _).trans (hb3.mono (by simp)); have h43 := (hb4.block _ (Array.getElem?_eq_some_iff.1 H42.out).1).trans H42.out; obtain ⟨x43, f43⟩ := Dep.boxC h43; have H43 := Aside0.mk h43; have HB4 := Aside0.mk hb4; clear hb3 hb4 h43)
    | (go_at_fn g; refine (HR.out _ e a s (GL.drew (HGW.out.below (by assumption))) HN.out H61.out (HF1.out.move (fun _ _ _ => rfl))).mono ?_; rintro en w2 ⟨rfl, a2, h62, hF2, hb2⟩; have h42 := (hb2.block D4 (Array.getElem?_eq_some_iff.1 H41.out).1 ne46).trans H41.out; obtain ⟨x42, f42⟩ := Dep.boxC h42; have H42 := Aside0.mk h42; have H62 := Aside0.mk h62; have HF2 := Aside0.mk hF2; have HBU2 := Aside0.mk hb2; have HG2 := Aside0.mk (GL.below hG (hb2.below HB1.out.drew HB1.out.size (by have := HO.out; omega))); have H12 := Aside0.mk ((hb2.block D1 (Array.getElem?_eq_some_iff.1 H11.out).1 (by have := HO.out; omega)).trans H11.out); clear h62 hF2 hb2 h42))
  all_goals go_end0
  all_goals
    have ho := HO.out
    have l6 := (Array.getElem?_eq_some_iff.1 H62.out).1
    have l1 := (Array.getElem?_eq_some_iff.1 H12.out).1
    have l4 := (Array.getElem?_eq_some_iff.1 H42.out).1
    have hsz : w.heap.size ≤ w2.heap.size := Nat.le_trans HB1.out.size HBU2.out.size
    refine ⟨rfl, a2, Dep.boxSet _ H43.out, ?_, ?_, ?_, ?_, fun k hk n4 n6 => ?_⟩
    · exact (Below.heap_setCell _ _ _ _ (show D6 ≠ D4 by omega)).trans ((HB4.out.block _ l6).trans H62.out)
    · exact (HF2.out.bu (Bu.of HB4.out) (Nat.le_refl _)).move (fun k h1 h2 => Below.heap_setCell _ _ _ _ (show k ≠ D4 by omega))
    · exact (Below.heap_setCell _ _ _ _ (show D1 ≠ D4 by omega)).trans ((HB4.out.block _ l1).trans H12.out)
    · exact ((Bu.of HB4.out).set (D := D4) 0 _).below (HBU2.out.below HB1.out.drew HB1.out.size (by omega)) hsz (by omega)
    · have k1 : k < w1.heap.size := Nat.lt_of_lt_of_le hk hbw1.size
      exact (Below.heap_setCell _ _ _ _ (show k ≠ D4 by omega)).trans ((HB4.out.block _ (Nat.lt_of_lt_of_le k1 HBU2.out.size)).trans ((HBU2.out.block k k1 n6).trans (hbw1.block k hk)))
end Go.Proofs.YtooomjcdlfdnmaaGreatDoor.Ent

namespace Go.Proofs.YtooomjcdlfdnmaaGreatDoor.Ent
open Go Go.RowKit Go.Shelf Go.Proofs.YtooomjcdlfdnmaaGreatDoorW.PrintWords Go.Proofs.YtooomjcdlfdnmaaGreatDoor.PA Go.Proofs.YtooomjcdlfdnmaaGreatDoor.Pure
set_option linter.unusedVariables false
abbrev sPkg : ByteArray := (⟨#[80, 97, 99, 107, 97, 103, 101]⟩ : ByteArray)
abbrev sVer : ByteArray := (⟨#[86, 101, 114, 115, 105, 111, 110]⟩ : ByteArray)
abbrev sDep : ByteArray := (⟨#[68, 101, 112, 101, 110, 100, 115]⟩ : ByteArray)
abbrev sRec : ByteArray := (⟨#[82, 101, 99, 111, 109, 109, 101, 110, 100, 115]⟩ : ByteArray)
abbrev sCon : ByteArray := (⟨#[67, 111, 110, 102, 108, 105, 99, 116, 115]⟩ : ByteArray)
abbrev sPro : ByteArray := (⟨#[80, 114, 111, 118, 105, 100, 101, 115]⟩ : ByteArray)
def zE : E6 := ⟨⟨#[]⟩, ⟨#[]⟩, [], [], [], []⟩
def aE : EA := ⟨none, 0, none, 0, none, 0, none, 0⟩
def fieldsE (l : List S49) : E6 := ⟨(getV sPkg l).1, (getV sVer l).1, (depV (bs (getV sDep l).1)).1, (depV (bs (getV sRec l).1)).1, (datV (bs (getV sCon l).1)).1, (datV (bs (getV sPro l).1)).1⟩
def errE_ (l : List S49) : Int := or2 (or2 (or2 (or2 0 (depV (bs (getV sDep l).1)).2) (depV (bs (getV sRec l).1)).2) (datV (bs (getV sCon l).1)).2) (datV (bs (getV sPro l).1)).2
def readE (l : List S49) : E6 × Int :=
  if ((getV sPkg l).2 && (getV sVer l).2) = false then (zE, 6) else if nameV (bs (getV sPkg l).1) = false then (zE, 3) else if plainV (bs (getV sVer l).1) = false then (zE, 4)
  else if errE_ l ≠ 0 then (zE, errE_ l) else if 8 < ((datV (bs (getV sPro l).1)).1.length : Int) then (zE, 8) else if (datV (bs (getV sPro l).1)).1.all givenB = false then (zE, 5) else (fieldsE l, 0)
theorem getV_size {n : ByteArray} {l : List S49} {N : Nat} (hN : 0 < N) (h : ∀ x ∈ l, x.f1.size < N) : (getV n l).1.size < N := by
  unfold getV
  split
  · exact hN
  · next h0 =>
    rcases idxP_rng (isF n) l 0 with h1 | ⟨h1, h2⟩
    · exact absurd h1 h0
    · unfold rd_T49
      have hlt : (idxP (isF n) l 0).toNat < l.length := by omega
      rw [List.getD_eq_getElem?_getD, List.getElem?_eq_getElem hlt]
      exact h _ (List.getElem_mem hlt)
structure Beg (w : World) (A : Option Addr) (n c : Nat) (W : World) : Prop where
  d1 : W.heap[w.heap.size]? = some (stB A n c)
  d2 : W.heap[w.heap.size + 1]? = some (.cells (ecs zE aE) 25 (0, 0))
  d4 : W.heap[w.heap.size + 1 + 1]? = some (fstB 0)
  below : Below w.heap.size w W
  size : W.heap.size = w.heap.size + 3
theorem beg_of (w : World) (A : Option Addr) (n c : Nat) : Beg w A n c (((w.alloc (.cells #[.slice A n c] 40)).alloc (.cells (ecs zE aE) 25)).alloc (.cells #[.int .i64 0] 45)) := by
  have e1 : (w.alloc (.cells #[.slice A n c] 40)).heap.size = w.heap.size + 1 := by simp
  have e2 : ((w.alloc (.cells #[.slice A n c] 40)).alloc (.cells (ecs zE aE) 25)).heap.size = w.heap.size + 2 := by simp
  refine ⟨?_, ?_, ?_, qab (qab (qab (Below.refl _ _) _) _) _, by simp⟩
  · exact (Below.heap_alloc _ _ _ (by rw [e2]; omega)).trans ((Below.heap_alloc _ _ _ (by rw [e1]; omega)).trans (World.alloc_heap_new w _))
  · have := World.alloc_heap_new (w.alloc (.cells #[.slice A n c] 40)) (.cells (ecs zE aE) 25)
    rw [e1] at this
    exact (Below.heap_alloc _ _ _ (by rw [e2]; omega)).trans this
  · have := World.alloc_heap_new ((w.alloc (.cells #[.slice A n c] 40)).alloc (.cells (ecs zE aE) 25)) (.cells #[.int .i64 0] 45)
    rwa [e2] at this
structure Mid (w W : World) (A : Option Addr) (n c : Nat) (f : Int) (e : E6) (a : EA) (D6 : Nat) : Prop where
  d1 : W.heap[w.heap.size]? = some (stB A n c)
  d2 : W.heap[w.heap.size + 1]? = some (.cells (ecs zE aE) 25 (0, 0))
  d4 : W.heap[w.heap.size + 1 + 1]? = some (fstB f)
  d6 : W.heap[D6]? = some (.cells (ecs e a) 25 (0, 0))
  ef : EF W D6 e a
  below : Below w.heap.size w W
  lt : w.heap.size + 1 + 1 < D6
theorem Mid.later {w W W' : World} {A : Option Addr} {n c : Nat} {f : Int} {e : E6} {a : EA} {D6 : Nat} (h : Mid w W A n c f e a D6) (hb : Below W.heap.size W W') : Mid w W' A n c f e a D6 :=
  have k : ∀ {D : Nat} {o : Obj}, W.heap[D]? = some o → W'.heap[D]? = some o := fun h => (hb.block _ (Array.getElem?_eq_some_iff.1 h).1).trans h
  ⟨k h.d1, k h.d2, k h.d4, k h.d6, h.ef.bu (Bu.of hb) (Nat.le_refl _), h.below.trans (hb.mono h.below.size), h.lt⟩
theorem Mid.field {w W W' : World} {A : Option Addr} {n c : Nat} {f f' : Int} {e e' : E6} {a a' : EA} {D6 : Nat} (h : Mid w W A n c f e a D6) (h4 : W'.heap[w.heap.size + 1 + 1]? = some (fstB f')) (h6 : W'.heap[D6]? = some (.cells (ecs e' a') 25 (0, 0))) (hf : EF W' D6 e' a') (h1 : W'.heap[w.heap.size]? = some (stB A n c)) (hb : Below w.heap.size w W')
    (hk : ∀ k, k < W.heap.size → k ≠ w.heap.size + 1 + 1 → k ≠ D6 → W'.heap[k]? = W.heap[k]?) : Mid w W' A n c f' e' a' D6 :=
  ⟨h1, (hk _ (Array.getElem?_eq_some_iff.1 h.d2).1 (by omega) (by have := h.lt; omega)).trans h.d2, h4, h6, hf, hb, h.lt⟩
theorem Mid.x {w W : World} {A : Option Addr} {n c : Nat} {f : Int} {e : E6} {a : EA} {D6 : Nat} (h : Mid w W A n c f e a D6) :
    W.cell? ⟨w.heap.size + 1 + 1, 0, none⟩ = some (.int .i64 f) ∧ W.cell? ⟨D6, 0, none⟩ = some (.string e.f0) ∧ W.cell? ⟨D6, 1, none⟩ = some (.string e.f1) ∧ W.cell? ⟨D6, 2, none⟩ = some (.slice a.A2 e.f2.length a.c2) ∧ W.cell? ⟨D6, 3, none⟩ = some (.slice a.A3 e.f3.length a.c3) ∧ W.cell? ⟨D6, 4, none⟩ = some (.slice a.A4 e.f4.length a.c4) ∧ W.cell? ⟨D6, 5, none⟩ = some (.slice a.A5 e.f5.length a.c5) ∧
    W.frozen? ⟨w.heap.size + 1, 0, none⟩ = false ∧ W.frozen? ⟨w.heap.size + 1, 1, none⟩ = false ∧ W.frozen? ⟨w.heap.size + 1, 2, none⟩ = false ∧ W.frozen? ⟨w.heap.size + 1, 3, none⟩ = false ∧ W.frozen? ⟨w.heap.size + 1, 4, none⟩ = false ∧ W.frozen? ⟨w.heap.size + 1, 5, none⟩ = false ∧ w.heap.size + 1 + 1 ≠ w.heap.size + 1 ∧ D6 ≠ w.heap.size + 1 ∧ W.cell? ⟨w.heap.size + 1, 0, none⟩ = some (.string ⟨#[]⟩) ∧ W.cell? ⟨w.heap.size + 1, 1, none⟩ = some (.string ⟨#[]⟩) ∧ W.cell? ⟨w.heap.size + 1, 2, none⟩ = some (.slice none 0 0) ∧ W.cell? ⟨w.heap.size + 1, 3, none⟩ = some (.slice none 0 0) ∧ W.cell? ⟨w.heap.size + 1, 4, none⟩ = some (.slice none 0 0) ∧ W.cell? ⟨w.heap.size + 1, 5, none⟩ = some (.slice none 0 0) := by
  obtain ⟨y0, y1, y2, y3, y4, y5⟩ := qap h.d6
  obtain ⟨p0, p1, p2, p3, p4, p5⟩ := qap h.d2
  exact ⟨(Dep.boxC h.d4).1, y0, y1, y2, y3, y4, y5, ecs_get h.d2 0, ecs_get h.d2 1, ecs_get h.d2 2, ecs_get h.d2 3, ecs_get h.d2 4, ecs_get h.d2 5, by omega, by have := h.lt; omega, p0, p1, p2, p3, p4, p5⟩
def puts (W : World) (D : Nat) (e : E6) (a : EA) : World := (((((W.setCell ⟨D, 0, none⟩ (.string e.f0)).setCell ⟨D, 1, none⟩ (.string e.f1)).setCell ⟨D, 2, none⟩ (.slice a.A2 e.f2.length a.c2)).setCell ⟨D, 3, none⟩ (.slice a.A3 e.f3.length a.c3)).setCell ⟨D, 4, none⟩ (.slice a.A4 e.f4.length a.c4)).setCell ⟨D, 5, none⟩ (.slice a.A5 e.f5.length a.c5)
theorem puts_at {W : World} {D : Nat} {e0 e : E6} {a0 a : EA} {T : TypeId} (h : W.heap[D]? = some (.cells (ecs e0 a0) T (0, 0))) : (puts W D e a).heap[D]? = some (.cells (ecs e a) T (0, 0)) := by
  have := ecs_set (ecs_set (ecs_set (ecs_set (ecs_set (ecs_set h 0 (.string e.f0)) 1 (.string e.f1)) 2 (.slice a.A2 e.f2.length a.c2)) 3 (.slice a.A3 e.f3.length a.c3)) 4 (.slice a.A4 e.f4.length a.c4)) 5 (.slice a.A5 e.f5.length a.c5)
  exact this
theorem puts_bu {w W : World} {D : Nat} {e : E6} {a : EA} : Bu D W (puts W D e a) := (((((((Bu.of (Below.refl _ W)).set 0 _).set 1 _).set 2 _).set 3 _).set 4 _).set 5 _)
theorem Mid.done {w W : World} {A : Option Addr} {n c : Nat} {f : Int} {e e' : E6} {a a' : EA} {D6 : Nat} (h : Mid w W A n c f e a D6) (he : EF W D6 e' a') : (puts W (w.heap.size + 1) e' a').heap[w.heap.size + 1]? = some (.cells (ecs e' a') 25 (0, 0)) ∧ EC (puts W (w.heap.size + 1) e' a') e' a' ∧ Below w.heap.size w (puts W (w.heap.size + 1) e' a') :=
  ⟨puts_at h.d2, (he.bu (puts_bu (w := w)) (by have := h.lt; omega)).now, (puts_bu (w := w)).below h.below h.below.size (by omega)⟩
theorem heap_drew' (W : World) : W.drew.heap = W.heap := rfl
theorem Mid.doneD {w W : World} {A : Option Addr} {n c : Nat} {f : Int} {e e' : E6} {a a' : EA} {D6 : Nat} (h : Mid w W A n c f e a D6) (he : EF W D6 e' a') : (puts W (w.heap.size + 1) e' a').drew.heap[w.heap.size + 1]? = some (.cells (ecs e' a') 25 (0, 0)) ∧ EC (puts W (w.heap.size + 1) e' a').drew e' a' ∧ Below w.heap.size w (puts W (w.heap.size + 1) e' a').drew :=
  have hD := h.done he
  ⟨by rw [heap_drew']; exact hD.1, hD.2.1.below (below_drew (Below.refl _ _)), below_drew hD.2.2⟩
theorem EF_zero (W : World) (D : Nat) : EF W D zE aE := ⟨Kd.F_nil _ _ _, Nat.le_refl _, Kd.F_nil _ _ _, Nat.le_refl _, Kd.F_nil _ _ _, Nat.le_refl _, Kd.F_nil _ _ _, Nat.le_refl _⟩
theorem mid_of {w w2 W3 : World} {A : Option Addr} {n c : Nat} {f : Int} (hb : Below w.heap.size w w2) (hs : w.heap.size + 3 ≤ w2.heap.size) (d1 : w2.heap[w.heap.size]? = some (stB A n c)) (d2 : w2.heap[w.heap.size + 1]? = some (.cells (ecs zE aE) 25 (0, 0))) (d4 : w2.heap[w.heap.size + 1 + 1]? = some (fstB f)) (s1 s2 : ByteArray)
    (hW : w2.alloc (.cells #[.string s1, .string s2, .slice none 0 0, .slice none 0 0, .slice none 0 0, .slice none 0 0] 25) = W3) : Mid w W3 A n c f ⟨s1, s2, [], [], [], []⟩ aE w2.heap.size := by
  have k : ∀ {D : Nat} {o : Obj}, w2.heap[D]? = some o → W3.heap[D]? = some o := fun h => by rw [← hW]; exact (Below.heap_alloc _ _ _ (Array.getElem?_eq_some_iff.1 h).1).trans h
  refine ⟨k d1, k d2, k d4, by rw [← hW]; exact World.alloc_heap_new w2 _, ⟨Kd.F_nil _ _ _, Nat.le_refl _, Kd.F_nil _ _ _, Nat.le_refl _, Kd.F_nil _ _ _, Nat.le_refl _, Kd.F_nil _ _ _, Nat.le_refl _⟩, by rw [← hW]; exact qab hb _, by omega⟩
end Go.Proofs.YtooomjcdlfdnmaaGreatDoor.Ent

