import Derived.Test.YtdkmdicmipcifaaProg
import Derived.Test.YtdkmdicmipcifaaLib
import Derived.Test.YtdkmdicmipcifaaWWords
import Derived.Test.YtdkmdicmipcifaaWLast
import Derived.Test.YtdkmdicmipcifaaWApart
import Derived.Test.YtdkmdicmipcifaaWFoot
import Derived.Test.YtdkmdicmipcifaaWKept
import Derived.Test.YtdkmdicmipcifaaWShare
import Derived.Test.YtdkmdicmipcifaaWN
import Derived.Test.YtdkmdicmipcifaaWRepsOne
import Derived.Test.YtdkmdicmipcifaaWGuard
import Derived.Test.YtdkmdicmipcifaaWMore
namespace Go.Proofs.Ytdkmdicmipcifaa.PA
open Go.RowKit Go.Proofs.YtdkmdicmipcifaaW.PrintWords Go.Proofs.YtdkmdicmipcifaaW.PrintLast Go.Proofs.YtdkmdicmipcifaaW.PrintMore
attribute [local go_sem] max2_int min2_int max_two min_two max_three min_three max_four min_four
set_option linter.unusedVariables false
set_option linter.unusedSimpArgs false
def disk_isName_1.f (a0 : Int) : Option (Bool) := (strings_IndexByte.f (⟨#[97, 98, 99, 100, 101, 102, 103, 104, 105, 106, 107, 108, 109, 110, 111, 112, 113, 114, 115, 116, 117, 118, 119, 120, 121, 122, 48, 49, 50, 51, 52, 53, 54, 55, 56, 57, 46, 43, 45, 95]⟩ : ByteArray) a0).bind fun t101 => (some (decide (t101 < 0)))
set_option maxHeartbeats 8000000 in
set_option maxRecDepth 100000 in
theorem disk_isName_1.calls (a0 : Int) (r : Bool) (w : World) (hG : GL w) (h : disk_isName_1.f a0 = some r) :
    Calls Try.prog 49 #[.int .u8 a0] w fun e w' => e = .returned (.bool r) ∧ Drawn0 w w' := by
  have H : ((strings_IndexByte.f (⟨#[97, 98, 99, 100, 101, 102, 103, 104, 105, 106, 107, 108, 109, 110, 111, 112, 113, 114, 115, 116, 117, 118, 119, 120, 121, 122, 48, 49, 50, 51, 52, 53, 54, 55, 56, 57, 46, 43, 45, 95]⟩ : ByteArray) a0).bind fun t101 => (some (decide (t101 < 0)))) = some r := h
  clear h
  replace H := Option.bind_eq_some_iff.mp H
  obtain ⟨t101, A20, H⟩ := H
  replace H : (some (decide (t101 < 0))) = some r := H
  have A2 := Aside0.mk A20
  clear A20
  obtain rfl := Option.some.inj H
  go_enter Try.func49, Try.ntmps49
  go_wp2_with (first | ((with_reducible refine gate_callee (f := 50) rfl ?_); refine goesL_ (some 4) rfl rfl Try.func50 (by kernel_rfl) rfl #[.string (⟨#[97, 98, 99, 100, 101, 102, 103, 104, 105, 106, 107, 108, 109, 110, 111, 112, 113, 114, 115, 116, 117, 118, 119, 120, 121, 122, 48, 49, 50, 51, 52, 53, 54, 55, 56, 57, 46, 43, 45, 95]⟩ : ByteArray), .int .u8 a0] rfl (by (try simp only [List.map_toArray, List.map_cons, List.map_nil]); first | done | rfl | (simp only [List.length_drop, List.length_take]; rfl)) ?_; (with_reducible refine (strings_IndexByte.calls (⟨#[97, 98, 99, 100, 101, 102, 103, 104, 105, 106, 107, 108, 109, 110, 111, 112, 113, 114, 115, 116, 117, 118, 119, 120, 121, 122, 48, 49, 50, 51, 52, 53, 54, 55, 56, 57, 46, 43, 45, 95]⟩ : ByteArray) a0 t101 _ (by first | exact hG | (repeat (first | exact hG | apply GL.drewN | apply GL.drew)))  A2.out).mono ?_); rintro e w' ⟨rfl, ⟨nd, rfl⟩⟩; refine ⟨_, rfl, ?_⟩))
  go_ret
  exact ⟨by first | rfl | (simp; done) | (simp [*]; done) | (simp [isEmpty_bne]; done), by repeat (first | exact Drawn0.refl _ | apply Drawn0.step)⟩
def slices_IndexFunc_byte_byte_49.l0 : Nat → List Int → Int → Int → Option (Int)
  | 0, _, _, _ => none
  | k + 1, x0, x7, x8 => if x8 < x7 then (if 0 ≤ x8 then (if x8 < (x0.length : Int) then ((disk_isName_1.f (rd x0 x8)).bind fun t103 => (if t103 = true then (some x8) else (slices_IndexFunc_byte_byte_49.l0 k x0 x7 (wrap64 (x8 + 1))))) else (none)) else (none)) else (some (-1))
def slices_IndexFunc_byte_byte_49.f (k : Nat) (l0 : List Int) (a1 : Nat) : Option (Int) := slices_IndexFunc_byte_byte_49.l0 k l0 (l0.length : Int) 0
theorem slices_IndexFunc_byte_byte_49.mono_l : ∀ k, (∀ y0 y1 y2, LeO (slices_IndexFunc_byte_byte_49.l0 k y0 y1 y2) (slices_IndexFunc_byte_byte_49.l0 (k + 1) y0 y1 y2))
  | 0 => fun _ _ _ r h => by simp [slices_IndexFunc_byte_byte_49.l0] at h
  | k + 1 => by
    have ih0 := slices_IndexFunc_byte_byte_49.mono_l k
    · intro y0 y1 y2
      unfold slices_IndexFunc_byte_byte_49.l0
      repeat' first
      | (with_reducible exact ih0 _ _ _)
      | (with_reducible exact LeO.refl _)
      | (with_reducible exact LeO.none _)
      | (with_reducible refine LeO.ite ?_ ?_)
      | (with_reducible refine LeO.bind ?_ (fun _ => ?_))
      | exact ih0 _ _ _
      | exact LeO.none _
      | refine LeO.ite ?_ ?_
      | refine LeO.bind ?_ (fun _ => ?_)
theorem slices_IndexFunc_byte_byte_49.mono : ∀ a0 a1 k, LeO (slices_IndexFunc_byte_byte_49.f k a0 a1) (slices_IndexFunc_byte_byte_49.f (k + 1) a0 a1) := by
  intro a0 a1 k
  have ih0 := slices_IndexFunc_byte_byte_49.mono_l k
  unfold slices_IndexFunc_byte_byte_49.f
  repeat' first
      | (with_reducible exact ih0 _ _ _)
      | (with_reducible exact LeO.refl _)
      | (with_reducible exact LeO.none _)
      | (with_reducible refine LeO.ite ?_ ?_)
      | (with_reducible refine LeO.bind ?_ (fun _ => ?_))
      | exact ih0 _ _ _
      | exact LeO.none _
      | refine LeO.ite ?_ ?_
      | refine LeO.bind ?_ (fun _ => ?_)
set_option maxHeartbeats 8000000 in
set_option maxRecDepth 100000 in
theorem slices_IndexFunc_byte_byte_49.calls (k : Nat) (A0 : Option Addr) (c0 : Nat) (l0 : List Int) (a1 : Nat) (r : Int) (w : World) (hG : GL w) (hr0 : Kd.C (Kd.int .u8) w A0 l0.length l0) (hc0 : l0.length ≤ c0) (h : slices_IndexFunc_byte_byte_49.f k l0 a1 = some r) :
    Calls Try.prog 60 #[.slice A0 l0.length c0, .func (.func 49) #[] #[]] w fun e w' => e = .returned (.int .i64 r) ∧ Drawn0 w w' := by
  have HR0 := Aside0.mk hr0
  have HC0 := Aside0.mk hc0
  clear hr0 hc0
  have H : (slices_IndexFunc_byte_byte_49.l0 k l0 (l0.length : Int) 0) = some r := h
  clear h
  have H' := Aside0.mk H
  clear H
  go_enter Try.func60, Try.ntmps60
  go_wp2
  go_loopg [8] k (fun kq v8 w' => ∃ (x8_1 : Int), v8 = .int .i64 x8_1 ∧ Aside0 (slices_IndexFunc_byte_byte_49.l0 kq l0 (l0.length : Int) x8_1 = some r) ∧ Aside0 (kq ≤ k) ∧ Drawn0 w w')
  case atStart => exact ⟨(0), (by first | rfl | (simp; done) | (simp [*]; done) | (simp [isEmpty_bne]; done)), H', ⟨Nat.le_refl _⟩, by repeat (first | exact Drawn0.refl _ | apply Drawn0.step)⟩
  case round =>
    clear H'
    try clear p2
    obtain ⟨x8_1, rfl, HA, HK1, ⟨m1, rfl⟩⟩ := hrel
    cases gk with
    | zero => exact absurd HA.out (by simp [slices_IndexFunc_byte_byte_49.l0])
    | succ k1 =>
      have H := HA.out
      clear HA
      simp only [slices_IndexFunc_byte_byte_49.l0] at H
      by_cases c3 : x8_1 < (l0.length : Int)
      · rw [if_pos c3] at H
        have c3b0 : decide (x8_1 < (l0.length : Int)) = true := decide_eq_true c3
        clear c3
        by_cases c4 : 0 ≤ x8_1
        · rw [if_pos c4] at H
          have c4b0 : decide (0 ≤ x8_1) = true := decide_eq_true c4
          clear c4
          by_cases c5 : x8_1 < (l0.length : Int)
          · rw [if_pos c5] at H
            have c5b0 : decide (x8_1 < (l0.length : Int)) = true := decide_eq_true c5
            clear c5
            replace H := Option.bind_eq_some_iff.mp H
            obtain ⟨t103, A60, H⟩ := H
            replace H : (if t103 = true then (some x8_1) else (slices_IndexFunc_byte_byte_49.l0 k1 l0 (l0.length : Int) (wrap64 (x8_1 + 1)))) = some r := H
            have A6 := Aside0.mk A60
            clear A60
            by_cases c7 : t103 = true
            · subst c7
              have H1 : (some x8_1) = some r := by rw [if_pos rfl] at H; exact H
              clear H
              have H := H1
              clear H1
              obtain rfl := Option.some.inj H
              have p102 : 0 ≤ (x8_1 : Int) := of_decide_eq_true (by first | (with_reducible assumption) | assumption)
              have q102 : x8_1 < (l0.length : Int) := of_decide_eq_true (by first | (with_reducible assumption) | assumption)
              obtain ⟨ad102, e102, hx102_0⟩ := Kd.at_int HR0.out x8_1 p102 q102
              cases e102
              replace p102 := eq_true p102
              replace q102 := eq_true q102
              go_wp2_with (first | (go_at_call 49; (with_reducible refine (disk_isName_1.calls (rd l0 x8_1) true _ (by first | exact hG | (repeat (first | exact hG | apply GL.drewN | apply GL.drew)))  A6.out).mono ?_); rintro e w' ⟨rfl, ⟨nd, rfl⟩⟩))
              go_ret
              exact ⟨by first | rfl | (simp; done) | (simp [*]; done) | (simp [isEmpty_bne]; done), by repeat (first | exact Drawn0.refl _ | apply Drawn0.step)⟩
            · replace c7 := Bool.eq_false_iff.mpr c7
              subst c7
              have H1 : (slices_IndexFunc_byte_byte_49.l0 k1 l0 (l0.length : Int) (wrap64 (x8_1 + 1))) = some r := by rw [if_neg (show ¬ (false = true) by decide)] at H; exact H
              clear H
              have H := H1
              clear H1
              have H' := Aside0.mk H
              clear H
              have p102 : 0 ≤ (x8_1 : Int) := of_decide_eq_true (by first | (with_reducible assumption) | assumption)
              have q102 : x8_1 < (l0.length : Int) := of_decide_eq_true (by first | (with_reducible assumption) | assumption)
              obtain ⟨ad102, e102, hx102_0⟩ := Kd.at_int HR0.out x8_1 p102 q102
              cases e102
              replace p102 := eq_true p102
              replace q102 := eq_true q102
              go_wp2_with (first | (go_at_call 49; (with_reducible refine (disk_isName_1.calls (rd l0 x8_1) false _ (by first | exact hG | (repeat (first | exact hG | apply GL.drewN | apply GL.drew)))  A6.out).mono ?_); rintro e w' ⟨rfl, ⟨nd, rfl⟩⟩))
              go_roundg k1
              case measure => have := HK1.out; omega
              case rel => exact ⟨(wrap64 (x8_1 + 1)), (by first | rfl | (simp; done) | (simp [*]; done) | (simp [isEmpty_bne]; done)), H', ⟨by have := HK1.out; omega⟩, by repeat (first | exact Drawn0.refl _ | apply Drawn0.step)⟩
          · rw [if_neg c5] at H
            exact absurd H (by simp)
        · rw [if_neg c4] at H
          exact absurd H (by simp)
      · rw [if_neg c3] at H
        have c3b0 : decide (x8_1 < (l0.length : Int)) = false := decide_eq_false c3
        clear c3
        obtain rfl := Option.some.inj H
        go_wp2
        go_ret
        exact ⟨by first | rfl | (simp; done) | (simp [*]; done) | (simp [isEmpty_bne]; done), by repeat (first | exact Drawn0.refl _ | apply Drawn0.step)⟩
def slices_ContainsFunc_byte_byte_49.f (k : Nat) (l0 : List Int) (a1 : Nat) : Option (Bool) := (slices_IndexFunc_byte_byte_49.f k l0 a1).bind fun t104 => (some (decide (t104 ≥ 0)))
theorem slices_ContainsFunc_byte_byte_49.mono : ∀ a0 a1 k, LeO (slices_ContainsFunc_byte_byte_49.f k a0 a1) (slices_ContainsFunc_byte_byte_49.f (k + 1) a0 a1) := by
  intro a0 a1 k
  unfold slices_ContainsFunc_byte_byte_49.f
  repeat' first
      | (with_reducible exact slices_IndexFunc_byte_byte_49.mono _ _ _)
      | (with_reducible exact LeO.refl _)
      | (with_reducible exact LeO.none _)
      | (with_reducible refine LeO.ite ?_ ?_)
      | (with_reducible refine LeO.bind ?_ (fun _ => ?_))
      | exact slices_IndexFunc_byte_byte_49.mono _ _ _
      | exact LeO.none _
      | refine LeO.ite ?_ ?_
      | refine LeO.bind ?_ (fun _ => ?_)
set_option maxHeartbeats 8000000 in
set_option maxRecDepth 100000 in
theorem slices_ContainsFunc_byte_byte_49.calls (k : Nat) (A0 : Option Addr) (c0 : Nat) (l0 : List Int) (a1 : Nat) (r : Bool) (w : World) (hG : GL w) (hr0 : Kd.C (Kd.int .u8) w A0 l0.length l0) (hc0 : l0.length ≤ c0) (h : slices_ContainsFunc_byte_byte_49.f k l0 a1 = some r) :
    Calls Try.prog 48 #[.slice A0 l0.length c0, .func (.func 49) #[] #[]] w fun e w' => e = .returned (.bool r) ∧ Drawn0 w w' := by
  have HR0 := Aside0.mk hr0
  have HC0 := Aside0.mk hc0
  clear hr0 hc0
  have H : ((slices_IndexFunc_byte_byte_49.f k l0 a1).bind fun t104 => (some (decide (t104 ≥ 0)))) = some r := h
  clear h
  replace H := Option.bind_eq_some_iff.mp H
  obtain ⟨t104, A30, H⟩ := H
  replace H : (some (decide (t104 ≥ 0))) = some r := H
  have A3 := Aside0.mk A30
  clear A30
  obtain rfl := Option.some.inj H
  go_enter Try.func48, Try.ntmps48
  go_wp2_with (first | ((with_reducible refine gate_callee (f := 60) rfl ?_); refine goesL_ (some 7) rfl rfl Try.func60 (by kernel_rfl) rfl #[.slice A0 l0.length c0, .func (.func 49) #[] #[]] rfl (by (try simp only [List.map_toArray, List.map_cons, List.map_nil]); first | done | rfl | (simp only [List.length_drop, List.length_take]; rfl)) ?_; (with_reducible refine (slices_IndexFunc_byte_byte_49.calls k _ _ l0 a1 t104 _ (by first | exact hG | (repeat (first | exact hG | apply GL.drewN | apply GL.drew)))  ?side1 ?side2 A3.out).mono ?_); (case side1 => repeat (first | exact HR0.out | (with_reducible refine Kd.C_alloc ?_ _) | (with_reducible refine Kd.C_drewN ?_ _) | (with_reducible refine Kd.C_drew ?_))); (case side2 => exact HC0.out); rintro e w' ⟨rfl, ⟨nd, rfl⟩⟩; refine ⟨_, rfl, ?_⟩))
  go_ret
  exact ⟨by first | rfl | (simp; done) | (simp [*]; done) | (simp [isEmpty_bne]; done), by repeat (first | exact Drawn0.refl _ | apply Drawn0.step)⟩
def disk_isName.f (k : Nat) (a0 : ByteArray) : Option (Bool) := if (a0.size : Int) = 0 then some false else if (a0.size : Int) ≤ 60 then ((slices_ContainsFunc_byte_byte_49.f k (bytesOf a0) 0).bind fun c => some (!c)) else some false
theorem disk_isName.mono : ∀ a0 k, LeO (disk_isName.f k a0) (disk_isName.f (k + 1) a0) := by
  intro a0 k
  unfold disk_isName.f
  repeat' first
      | (with_reducible exact slices_ContainsFunc_byte_byte_49.mono _ _ _)
      | (with_reducible exact LeO.refl _)
      | (with_reducible refine LeO.ite ?_ ?_)
      | (with_reducible refine LeO.bind ?_ (fun _ => ?_))
set_option maxHeartbeats 1000000 in
set_option maxRecDepth 100000 in
theorem disk_isName.calls (k : Nat) (a0 : ByteArray) (r : Bool) (w : World) (hG : GL w) (h : disk_isName.f k a0 = some r) :
    Calls Try.prog 31 #[.string a0] w fun e w' => e = .returned (.bool r) ∧ Below w.heap.size w w' := by
  have HB := Aside0.mk (Below.refl w.heap.size w)
  unfold disk_isName.f at h
  by_cases c0 : (a0.size : Int) = 0
  · have h1 : some false = some r := by rw [if_pos c0] at h; exact h
    clear h
    have b0 : a0 = ByteArray.empty := by
      have : a0.size = 0 := by omega
      obtain ⟨⟨l⟩⟩ := a0
      simp [ByteArray.size] at this
      subst this; rfl
    clear c0
    subst b0
    obtain rfl := Option.some.inj h1
    go_enter Try.func31, Try.ntmps31
    go_wp2
    go_ret
    exact ⟨by first | rfl | (simp; done), HB.out⟩
  · rw [if_neg c0] at h
    have bn : a0.toList ≠ [] := by
      rw [Lib.toList_data]
      intro e
      have := congrArg List.length e
      rw [Array.length_toList] at this
      have e2 : a0.size = 0 := this
      exact c0 (by rw [e2]; rfl)
    have b0 : (a0.toList == ([] : List UInt8)) = false := beq_false_of_ne bn
    have b1 : (a0.toList != ([] : List UInt8)) = true := by simp [bn]
    have b3 : a0.toList.isEmpty = false := by simp [bn]
    by_cases c2 : (a0.size : Int) ≤ 60
    · have h1 : ((slices_ContainsFunc_byte_byte_49.f k (bytesOf a0) 0).bind fun c => some (!c)) = some r := by rw [if_pos c2] at h; exact h
      clear h
      have b2 : decide ((a0.size : Int) ≤ 60) = true := decide_eq_true c2
      replace h1 := Option.bind_eq_some_iff.mp h1
      obtain ⟨c, hc, h1⟩ := h1
      have A2 := Aside0.mk hc
      clear hc c0 c2
      obtain rfl := Option.some.inj h1
      have kb : ∀ W : World, (convert 9 78 (.string a0)).run Try.prog W = .ok (.slice (some ⟨W.heap.size, 0, none⟩) a0.size (grownCap W a0.size 0 5)) (Lib.bytesWorld W 5 a0) := fun W => print_bytes 9 78 5 Try.underlying9 Try.underlying78 Try.underlying5 a0 W
      have hBW : ∀ W : World, Below w.heap.size w W → Below w.heap.size w (Lib.bytesWorld W 5 a0) := fun W h1 => bytes_below h1 h1.size 5 a0
      have hKW : ∀ W : World, Kd.C (Kd.int .u8) (Lib.bytesWorld W 5 a0) (some ⟨W.heap.size, 0, none⟩) a0.size (bytesOf a0) := fun W =>
        Kd.C_of_reads (enc := Value.int .u8) (d := (0 : Int)) (h1 := fun _ => rfl) (bytes_reads W 5 a0 (by have := of_decide_eq_true b2; omega))
      have CC : ∀ (W : World) (A0 : Option Addr) (c0 : Nat), GL W → Kd.C (Kd.int .u8) W A0 a0.size (bytesOf a0) → a0.size ≤ c0 → Calls Try.prog 48 #[.slice A0 a0.size c0, .func (.func 49) #[] #[]] W fun e w' => e = .returned (.bool c) ∧ Drawn0 W w' := by
        intro W A0 c0 hg hr hc
        have := slices_ContainsFunc_byte_byte_49.calls k A0 c0 (bytesOf a0) 0 c W hg (by rw [bytesOf_length]; exact hr) (by rw [bytesOf_length]; exact hc) A2.out
        rw [bytesOf_length] at this
        exact this
      go_enter Try.func31, Try.ntmps31
      go_wp2_with (first | (go_at_call 48; go_loud (refine (CC _ _ _ ?g ?k ?c).mono ?_); (case g => exact hG.below (hBW _ (Below.refl _ _))); (case k => exact hKW _); (case c => exact grownCap_ge _ _ _ _); rintro e w' ⟨rfl, ⟨nd, rfl⟩⟩))
      go_ret
      exact ⟨by first | rfl | (simp; done), by first | exact below_step (hBW _ (Below.refl _ _)) (Drawn0.below ⟨⟨_, rfl⟩⟩)⟩
    · have h1 : some false = some r := by rw [if_neg c2] at h; exact h
      clear h
      have b2 : decide ((a0.size : Int) ≤ 60) = false := decide_eq_false c2
      clear c0 c2
      obtain rfl := Option.some.inj h1
      go_enter Try.func31, Try.ntmps31
      go_wp2
      go_ret
      exact ⟨by first | rfl | (simp; done), HB.out⟩
end Go.Proofs.Ytdkmdicmipcifaa.PA
