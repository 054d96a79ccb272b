
import Derived.Test.YtohijjobmmibcaaDoorPAx0
import Derived.Test.YtohijjobmmibcaaDoorPAx2
import Derived.Test.YtohijjobmmibcaaDoorPAx3
namespace Go.Proofs.YtohijjobmmibcaaDoor.PA
open Go.RowKit Go.Proofs.YtohijjobmmibcaaDoorW.PrintWords Go.Proofs.YtohijjobmmibcaaDoorW.PrintLast Go.Proofs.YtohijjobmmibcaaDoorW.PrintMore
attribute [local go_sem] max2_int min2_int max_two min_two max_three min_three max_four min_four
set_option linter.unusedVariables false
set_option linter.unusedSimpArgs false
def relation_Name_1.f (a0 : Int) : Option (Bool) := (strings_IndexByte.f (⟨#[97, 98, 99, 100, 101, 102, 103, 104, 105, 106, 107, 108, 109, 110, 111, 112, 113, 114, 115, 116, 117, 118, 119, 120, 121, 122, 48, 49, 50, 51, 52, 53, 54, 55, 56, 57, 43, 45, 46]⟩ : ByteArray) a0).bind fun t179 => (some (decide (t179 < 0)))
set_option maxHeartbeats 8000000 in
set_option maxRecDepth 100000 in
theorem relation_Name_1.calls (a0 : Int) (r : Bool) (w : World) (hG : GL w) (h : relation_Name_1.f a0 = some r) :
    Calls Tryd.prog 26 #[.int .u8 a0] w fun e w' => e = .returned (.bool r) ∧ Drawn0 w w' := by
  have H : ((strings_IndexByte.f (⟨#[97, 98, 99, 100, 101, 102, 103, 104, 105, 106, 107, 108, 109, 110, 111, 112, 113, 114, 115, 116, 117, 118, 119, 120, 121, 122, 48, 49, 50, 51, 52, 53, 54, 55, 56, 57, 43, 45, 46]⟩ : ByteArray) a0).bind fun t179 => (some (decide (t179 < 0)))) = some r := h
  clear h
  replace H := Option.bind_eq_some_iff.mp H
  obtain ⟨t179, A20, H⟩ := H
  replace H : (some (decide (t179 < 0))) = some r := H
  have A2 := Aside0.mk A20
  clear A20
  obtain rfl := Option.some.inj H
  go_enter Tryd.func26, Tryd.ntmps26
  go_wp2_with (first | ((with_reducible refine qak (f := 24) rfl ?_); refine goesL_ (some 4) rfl rfl Tryd.func24 (by kernel_rfl) rfl #[.string (⟨#[97, 98, 99, 100, 101, 102, 103, 104, 105, 106, 107, 108, 109, 110, 111, 112, 113, 114, 115, 116, 117, 118, 119, 120, 121, 122, 48, 49, 50, 51, 52, 53, 54, 55, 56, 57, 43, 45, 46]⟩ : ByteArray), .int .u8 a0] rfl (by (try simp only [List.map_toArray, List.map_cons, List.map_nil]); first | done | rfl | (simp only [List.length_drop, List.length_take]; rfl)) ?_; (with_reducible refine (strings_IndexByte.calls (⟨#[97, 98, 99, 100, 101, 102, 103, 104, 105, 106, 107, 108, 109, 110, 111, 112, 113, 114, 115, 116, 117, 118, 119, 120, 121, 122, 48, 49, 50, 51, 52, 53, 54, 55, 56, 57, 43, 45, 46]⟩ : ByteArray) a0 t179 _ (by first | exact hG | (repeat (first | exact hG | apply GL.drewN | apply GL.drew)))  A2.out).mono ?_); rintro e w' ⟨rfl, ⟨nd, rfl⟩⟩; refine ⟨_, rfl, ?_⟩))
  go_ret
  exact ⟨by first | rfl | (simp; done) | (simp [*]; done) | (simp [qap]; done), by repeat (first | exact Drawn0.refl _ | apply Drawn0.step)⟩
def slices_IndexFunc_byte_byte_26.l0 : Nat → List Int → Int → Int → Option (Int)
  | 0, _, _, _ => none
  | k + 1, x0, x7, x8 => if x8 < x7 then (if 0 ≤ x8 then (if x8 < (x0.length : Int) then ((relation_Name_1.f (rd x0 x8)).bind fun t181 => (if t181 = true then (some x8) else (slices_IndexFunc_byte_byte_26.l0 k x0 x7 (wrap64 (x8 + 1))))) else (none)) else (none)) else (some (-1))
def slices_IndexFunc_byte_byte_26.f (k : Nat) (l0 : List Int) (a1 : Nat) : Option (Int) := slices_IndexFunc_byte_byte_26.l0 k l0 (l0.length : Int) 0
theorem slices_IndexFunc_byte_byte_26.mono_l : ∀ k, (∀ y0 y1 y2, LeO (slices_IndexFunc_byte_byte_26.l0 k y0 y1 y2) (slices_IndexFunc_byte_byte_26.l0 (k + 1) y0 y1 y2))
  | 0 => fun _ _ _ r h => by simp [slices_IndexFunc_byte_byte_26.l0] at h
  | k + 1 => by
    have ih0 := slices_IndexFunc_byte_byte_26.mono_l k
    · intro y0 y1 y2
      unfold slices_IndexFunc_byte_byte_26.l0
      repeat' first
      | (with_reducible exact ih0 _ _ _)
      | (with_reducible exact LeO.refl _)
      | (with_reducible exact LeO.none _)
      | (with_reducible refine LeO.ite ?_ ?_)
      | (with_reducible refine LeO.bind ?_ (fun _ => ?_))
      | exact ih0 _ _ _
      | exact LeO.none _
      | refine LeO.ite ?_ ?_
      | refine LeO.bind ?_ (fun _ => ?_)
theorem slices_IndexFunc_byte_byte_26.mono : ∀ a0 a1 k, LeO (slices_IndexFunc_byte_byte_26.f k a0 a1) (slices_IndexFunc_byte_byte_26.f (k + 1) a0 a1) := by
  intro a0 a1 k
  have ih0 := slices_IndexFunc_byte_byte_26.mono_l k
  unfold slices_IndexFunc_byte_byte_26.f
  repeat' first
      | (with_reducible exact ih0 _ _ _)
      | (with_reducible exact LeO.refl _)
      | (with_reducible exact LeO.none _)
      | (with_reducible refine LeO.ite ?_ ?_)
      | (with_reducible refine LeO.bind ?_ (fun _ => ?_))
      | exact ih0 _ _ _
      | exact LeO.none _
      | refine LeO.ite ?_ ?_
      | refine LeO.bind ?_ (fun _ => ?_)
set_option maxHeartbeats 8000000 in
set_option maxRecDepth 100000 in
theorem slices_IndexFunc_byte_byte_26.calls (k : Nat) (A0 : Option Addr) (c0 : Nat) (l0 : List Int) (a1 : Nat) (r : Int) (w : World) (hG : GL w) (hr0 : Kd.C (Kd.int .u8) w A0 l0.length l0) (hc0 : l0.length ≤ c0) (h : slices_IndexFunc_byte_byte_26.f k l0 a1 = some r) :
    Calls Tryd.prog 40 #[.slice A0 l0.length c0, .func (.func 26) #[] #[]] w fun e w' => e = .returned (.int .i64 r) ∧ Drawn0 w w' := by
  have HR0 := Aside0.mk hr0
  have HC0 := Aside0.mk hc0
  clear hr0 hc0
  have H : (slices_IndexFunc_byte_byte_26.l0 k l0 (l0.length : Int) 0) = some r := h
  clear h
  have H' := Aside0.mk H
  clear H
  go_enter Tryd.func40, Tryd.ntmps40
  go_wp2
  go_loopg [8] k (fun kq v8 w' => ∃ (x8_1 : Int), v8 = .int .i64 x8_1 ∧ Aside0 (slices_IndexFunc_byte_byte_26.l0 kq l0 (l0.length : Int) x8_1 = some r) ∧ Aside0 (kq ≤ k) ∧ Drawn0 w w')
  case atStart => exact ⟨(0), (by first | rfl | (simp; done) | (simp [*]; done) | (simp [qap]; done)), H', ⟨Nat.le_refl _⟩, by repeat (first | exact Drawn0.refl _ | apply Drawn0.step)⟩
  case round =>
    clear H'
    try clear p2
    obtain ⟨x8_1, rfl, HA, HK1, ⟨m1, rfl⟩⟩ := hrel
    cases gk with
    | zero => exact absurd HA.out (by simp [slices_IndexFunc_byte_byte_26.l0])
    | succ k1 =>
      have H := HA.out
      clear HA
      simp only [slices_IndexFunc_byte_byte_26.l0] at H
      by_cases c3 : x8_1 < (l0.length : Int)
      · rw [if_pos c3] at H
        have c3b0 : decide (x8_1 < (l0.length : Int)) = true := decide_eq_true c3
        clear c3
        by_cases c4 : 0 ≤ x8_1
        · rw [if_pos c4] at H
          have c4b0 : decide (0 ≤ x8_1) = true := decide_eq_true c4
          clear c4
          by_cases c5 : x8_1 < (l0.length : Int)
          · rw [if_pos c5] at H
            have c5b0 : decide (x8_1 < (l0.length : Int)) = true := decide_eq_true c5
            clear c5
            replace H := Option.bind_eq_some_iff.mp H
            obtain ⟨t181, A60, H⟩ := H
            replace H : (if t181 = true then (some x8_1) else (slices_IndexFunc_byte_byte_26.l0 k1 l0 (l0.length : Int) (wrap64 (x8_1 + 1)))) = some r := H
            have A6 := Aside0.mk A60
            clear A60
            by_cases c7 : t181 = true
            · subst c7
              have H1 : (some x8_1) = some r := by rw [if_pos rfl] at H; exact H
              clear H
              have H := H1
              clear H1
              obtain rfl := Option.some.inj H
              have p180 : 0 ≤ (x8_1 : Int) := of_decide_eq_true (by first | (with_reducible assumption) | assumption)
              have q180 : x8_1 < (l0.length : Int) := of_decide_eq_true (by first | (with_reducible assumption) | assumption)
              obtain ⟨ad180, e180, hx180_0⟩ := Kd.at_int HR0.out x8_1 p180 q180
              cases e180
              replace p180 := eq_true p180
              replace q180 := eq_true q180
              go_wp2_with (first | (go_at_call 26; (with_reducible refine (relation_Name_1.calls (rd l0 x8_1) true _ (by first | exact hG | (repeat (first | exact hG | apply GL.drewN | apply GL.drew)))  A6.out).mono ?_); rintro e w' ⟨rfl, ⟨nd, rfl⟩⟩))
              go_ret
              exact ⟨by first | rfl | (simp; done) | (simp [*]; done) | (simp [qap]; done), by repeat (first | exact Drawn0.refl _ | apply Drawn0.step)⟩
            · replace c7 := Bool.eq_false_iff.mpr c7
              subst c7
              have H1 : (slices_IndexFunc_byte_byte_26.l0 k1 l0 (l0.length : Int) (wrap64 (x8_1 + 1))) = some r := by rw [if_neg (show ¬ (false = true) by decide)] at H; exact H
              clear H
              have H := H1
              clear H1
              have H' := Aside0.mk H
              clear H
              have p180 : 0 ≤ (x8_1 : Int) := of_decide_eq_true (by first | (with_reducible assumption) | assumption)
              have q180 : x8_1 < (l0.length : Int) := of_decide_eq_true (by first | (with_reducible assumption) | assumption)
              obtain ⟨ad180, e180, hx180_0⟩ := Kd.at_int HR0.out x8_1 p180 q180
              cases e180
              replace p180 := eq_true p180
              replace q180 := eq_true q180
              go_wp2_with (first | (go_at_call 26; (with_reducible refine (relation_Name_1.calls (rd l0 x8_1) false _ (by first | exact hG | (repeat (first | exact hG | apply GL.drewN | apply GL.drew)))  A6.out).mono ?_); rintro e w' ⟨rfl, ⟨nd, rfl⟩⟩))
              go_roundg k1
              case measure => have := HK1.out; omega
              case rel => exact ⟨(wrap64 (x8_1 + 1)), (by first | rfl | (simp; done) | (simp [*]; done) | (simp [qap]; done)), H', ⟨by have := HK1.out; omega⟩, by repeat (first | exact Drawn0.refl _ | apply Drawn0.step)⟩
          · rw [if_neg c5] at H
            exact absurd H (by simp)
        · rw [if_neg c4] at H
          exact absurd H (by simp)
      · rw [if_neg c3] at H
        have c3b0 : decide (x8_1 < (l0.length : Int)) = false := decide_eq_false c3
        clear c3
        obtain rfl := Option.some.inj H
        go_wp2
        go_ret
        exact ⟨by first | rfl | (simp; done) | (simp [*]; done) | (simp [qap]; done), by repeat (first | exact Drawn0.refl _ | apply Drawn0.step)⟩
def slices_ContainsFunc_byte_byte_26.f (k : Nat) (l0 : List Int) (a1 : Nat) : Option (Bool) := (slices_IndexFunc_byte_byte_26.f k l0 a1).bind fun t182 => (some (decide (t182 ≥ 0)))
theorem slices_ContainsFunc_byte_byte_26.mono : ∀ a0 a1 k, LeO (slices_ContainsFunc_byte_byte_26.f k a0 a1) (slices_ContainsFunc_byte_byte_26.f (k + 1) a0 a1) := by
  intro a0 a1 k
  unfold slices_ContainsFunc_byte_byte_26.f
  repeat' first
      | (with_reducible exact slices_IndexFunc_byte_byte_26.mono _ _ _)
      | (with_reducible exact LeO.refl _)
      | (with_reducible exact LeO.none _)
      | (with_reducible refine LeO.ite ?_ ?_)
      | (with_reducible refine LeO.bind ?_ (fun _ => ?_))
      | exact slices_IndexFunc_byte_byte_26.mono _ _ _
      | exact LeO.none _
      | refine LeO.ite ?_ ?_
      | refine LeO.bind ?_ (fun _ => ?_)
set_option maxHeartbeats 8000000 in
set_option maxRecDepth 100000 in
theorem slices_ContainsFunc_byte_byte_26.calls (k : Nat) (A0 : Option Addr) (c0 : Nat) (l0 : List Int) (a1 : Nat) (r : Bool) (w : World) (hG : GL w) (hr0 : Kd.C (Kd.int .u8) w A0 l0.length l0) (hc0 : l0.length ≤ c0) (h : slices_ContainsFunc_byte_byte_26.f k l0 a1 = some r) :
    Calls Tryd.prog 25 #[.slice A0 l0.length c0, .func (.func 26) #[] #[]] w fun e w' => e = .returned (.bool r) ∧ Drawn0 w w' := by
  have HR0 := Aside0.mk hr0
  have HC0 := Aside0.mk hc0
  clear hr0 hc0
  have H : ((slices_IndexFunc_byte_byte_26.f k l0 a1).bind fun t182 => (some (decide (t182 ≥ 0)))) = some r := h
  clear h
  replace H := Option.bind_eq_some_iff.mp H
  obtain ⟨t182, A30, H⟩ := H
  replace H : (some (decide (t182 ≥ 0))) = some r := H
  have A3 := Aside0.mk A30
  clear A30
  obtain rfl := Option.some.inj H
  go_enter Tryd.func25, Tryd.ntmps25
  go_wp2_with (first | ((with_reducible refine qak (f := 40) rfl ?_); refine goesL_ (some 7) rfl rfl Tryd.func40 (by kernel_rfl) rfl #[.slice A0 l0.length c0, .func (.func 26) #[] #[]] rfl (by (try simp only [List.map_toArray, List.map_cons, List.map_nil]); first | done | rfl | (simp only [List.length_drop, List.length_take]; rfl)) ?_; (with_reducible refine (slices_IndexFunc_byte_byte_26.calls k _ _ l0 a1 t182 _ (by first | exact hG | (repeat (first | exact hG | apply GL.drewN | apply GL.drew)))  ?side1 ?side2 A3.out).mono ?_); (case side1 => repeat (first | exact HR0.out | (with_reducible refine Kd.C_alloc ?_ _) | (with_reducible refine Kd.C_drewN ?_ _) | (with_reducible refine Kd.C_drew ?_))); (case side2 => exact HC0.out); rintro e w' ⟨rfl, ⟨nd, rfl⟩⟩; refine ⟨_, rfl, ?_⟩))
  go_ret
  exact ⟨by first | rfl | (simp; done) | (simp [*]; done) | (simp [qap]; done), by repeat (first | exact Drawn0.refl _ | apply Drawn0.step)⟩
def relation_Name.f (k : Nat) (a0 : ByteArray) : Option (Bool) := if 2 ≤ (a0.size : Int) then (if (a0.size : Int) ≤ 40 then ((strings_IndexByte.f (⟨#[97, 98, 99, 100, 101, 102, 103, 104, 105, 106, 107, 108, 109, 110, 111, 112, 113, 114, 115, 116, 117, 118, 119, 120, 121, 122, 48, 49, 50, 51, 52, 53, 54, 55, 56, 57]⟩ : ByteArray) (bt a0 0)).bind fun t => if 0 ≤ t then ((slices_ContainsFunc_byte_byte_26.f k (bytesOf a0) 0).bind fun c => some (!c)) else some false) else some false) else some false
theorem relation_Name.mono : ∀ a0 k, LeO (relation_Name.f k a0) (relation_Name.f (k + 1) a0) := by
  intro a0 k
  unfold relation_Name.f
  repeat' first
      | (with_reducible exact slices_ContainsFunc_byte_byte_26.mono _ _ _)
      | (with_reducible exact LeO.refl _)
      | (with_reducible refine LeO.ite ?_ ?_)
      | (with_reducible refine LeO.bind ?_ (fun _ => ?_))
set_option maxHeartbeats 1000000 in
set_option maxRecDepth 100000 in
theorem relation_Name.calls (k : Nat) (a0 : ByteArray) (r : Bool) (w : World) (hG : GL w) (h : relation_Name.f k a0 = some r) :
    Calls Tryd.prog 14 #[.string a0] w fun e w' => e = .returned (.bool r) ∧ Below w.heap.size w w' := by
  have HB := Aside0.mk (Below.refl w.heap.size w)
  unfold relation_Name.f at h
  by_cases c1 : 2 ≤ (a0.size : Int)
  · rw [if_pos c1] at h
    have b1 : decide (2 ≤ (a0.size : Int)) = true := decide_eq_true c1
    have b1' : decide ((0 : Int) < (a0.size : Int)) = true := decide_eq_true (by omega)
    have b1'' : 0 < a0.size := by omega
    have hx0 : ((a0[0]'b1'').toNat : Int) = bt a0 0 := bt_at a0 0 b1''
    by_cases c2 : (a0.size : Int) ≤ 40
    · rw [if_pos c2] at h
      have b2 : decide ((a0.size : Int) ≤ 40) = true := decide_eq_true c2
      replace h := Option.bind_eq_some_iff.mp h
      obtain ⟨t, hti, h⟩ := h
      have A1 := Aside0.mk hti
      clear hti
      by_cases c3 : 0 ≤ t
      · have h1 : ((slices_ContainsFunc_byte_byte_26.f k (bytesOf a0) 0).bind fun c => some (!c)) = some r := by rw [if_pos c3] at h; exact h
        clear h
        have b3 : decide (0 ≤ t) = true := decide_eq_true c3
        replace h1 := Option.bind_eq_some_iff.mp h1
        obtain ⟨c, hc, h1⟩ := h1
        have A2 := Aside0.mk hc
        clear hc c1 c2 c3
        obtain rfl := Option.some.inj h1
        have kb : ∀ W : World, (convert 9 49 (.string a0)).run Tryd.prog W = .ok (.slice (some ⟨W.heap.size, 0, none⟩) a0.size (grownCap W a0.size 0 5)) (Lib.bytesWorld W 5 a0) := fun W => print_bytes 9 49 5 Tryd.underlying9 Tryd.underlying49 Tryd.underlying5 a0 W
        have hBW : ∀ n : Nat, Below w.heap.size w (Lib.bytesWorld (w.drewN n) 5 a0) := fun n => by
          have h1 : Below w.heap.size w (w.drewN n) := Drawn0.below ⟨⟨n, rfl⟩⟩
          exact bytes_below h1 h1.size 5 a0
        have hKW : ∀ n : Nat, Kd.C (Kd.int .u8) (Lib.bytesWorld (w.drewN n) 5 a0) (some ⟨(w.drewN n).heap.size, 0, none⟩) a0.size (bytesOf a0) := fun n =>
          Kd.C_of_reads (enc := Value.int .u8) (d := (0 : Int)) (h1 := fun _ => rfl) (bytes_reads (w.drewN n) 5 a0 (by have := of_decide_eq_true b2; omega))
        have CC : ∀ (W : World) (A0 : Option Addr) (c0 : Nat), GL W → Kd.C (Kd.int .u8) W A0 a0.size (bytesOf a0) → a0.size ≤ c0 → Calls Tryd.prog 25 #[.slice A0 a0.size c0, .func (.func 26) #[] #[]] W fun e w' => e = .returned (.bool c) ∧ Drawn0 W w' := by
          intro W A0 c0 hg hr hc
          have := slices_ContainsFunc_byte_byte_26.calls k A0 c0 (bytesOf a0) 0 c W hg (by rw [bytesOf_length]; exact hr) (by rw [bytesOf_length]; exact hc) A2.out
          rw [bytesOf_length] at this
          exact this
        go_enter Tryd.func14, Tryd.ntmps14
        go_wp2_with (first | (go_at_call 24; go_loud (refine calls_of_args (args' := #[.string (⟨#[97, 98, 99, 100, 101, 102, 103, 104, 105, 106, 107, 108, 109, 110, 111, 112, 113, 114, 115, 116, 117, 118, 119, 120, 121, 122, 48, 49, 50, 51, 52, 53, 54, 55, 56, 57]⟩ : ByteArray), .int .u8 (bt a0 0)]) (by first | rfl | rw [hx0]) ?_; (with_reducible refine (strings_IndexByte.calls _ _ t _ hG A1.out).mono ?_); rintro e w' ⟨rfl, ⟨nd, rfl⟩⟩)) | (go_at_call 25; go_loud (refine (CC _ _ _ ?g ?k ?c).mono ?_); (case g => exact hG.below (hBW nd)); (case k => exact hKW nd); (case c => exact grownCap_ge _ _ _ _); rintro e w' ⟨rfl, ⟨nd, rfl⟩⟩))
        go_ret
        exact ⟨by first | rfl | (simp; done), by first | exact qal (hBW _) (Drawn0.below ⟨⟨_, rfl⟩⟩)⟩
      · have h1 : some false = some r := by rw [if_neg c3] at h; exact h
        clear h
        have b3 : decide (0 ≤ t) = false := decide_eq_false c3
        clear c1 c2 c3
        obtain rfl := Option.some.inj h1
        go_enter Tryd.func14, Tryd.ntmps14
        go_wp2_with (first | (go_at_call 24; (refine calls_of_args (args' := #[.string (⟨#[97, 98, 99, 100, 101, 102, 103, 104, 105, 106, 107, 108, 109, 110, 111, 112, 113, 114, 115, 116, 117, 118, 119, 120, 121, 122, 48, 49, 50, 51, 52, 53, 54, 55, 56, 57]⟩ : ByteArray), .int .u8 (bt a0 0)]) (by first | rfl | rw [hx0]) ?_; (with_reducible refine (strings_IndexByte.calls _ _ t _ hG A1.out).mono ?_); rintro e w' ⟨rfl, ⟨nd, rfl⟩⟩)))
        go_ret
        exact ⟨by first | rfl | (simp; done), Drawn0.below ⟨⟨_, rfl⟩⟩⟩
    · have h1 : some false = some r := by rw [if_neg c2] at h; exact h
      clear h
      have b2 : decide ((a0.size : Int) ≤ 40) = false := decide_eq_false c2
      clear c1 c2
      obtain rfl := Option.some.inj h1
      go_enter Tryd.func14, Tryd.ntmps14
      go_wp2
      go_ret
      exact ⟨by first | rfl | (simp; done), HB.out⟩
  · have h1 : some false = some r := by rw [if_neg c1] at h; exact h
    clear h
    have b1 : decide (2 ≤ (a0.size : Int)) = false := decide_eq_false c1
    clear c1
    obtain rfl := Option.some.inj h1
    go_enter Tryd.func14, Tryd.ntmps14
    go_wp2
    go_ret
    exact ⟨by first | rfl | (simp; done), HB.out⟩
def version_Print.f (k : Nat) (a0_0 : Int) (a0_1 : ByteArray) (a0_2 : ByteArray) : Option (ByteArray) := (version_Right.f k a0_0 a0_1 a0_2).bind fun t184 => (if t184 = true then ((version_text.f a0_0 a0_1 a0_2).bind fun t185 => (some t185)) else (some (⟨#[]⟩ : ByteArray)))
theorem version_Print.mono : ∀ a0 a1 a2 k, LeO (version_Print.f k a0 a1 a2) (version_Print.f (k + 1) a0 a1 a2) := by
  intro a0 a1 a2 k
  unfold version_Print.f
  repeat' first
      | (with_reducible exact version_Right.mono _ _ _ _)
      | (with_reducible exact LeO.refl _)
      | (with_reducible exact LeO.none _)
      | (with_reducible refine LeO.ite ?_ ?_)
      | (with_reducible refine LeO.bind ?_ (fun _ => ?_))
      | exact version_Right.mono _ _ _ _
      | exact LeO.none _
      | refine LeO.ite ?_ ?_
      | refine LeO.bind ?_ (fun _ => ?_)
set_option maxHeartbeats 8000000 in
set_option maxRecDepth 100000 in
theorem version_Print.calls (k : Nat) (a0_0 : Int) (a0_1 : ByteArray) (a0_2 : ByteArray) (r : ByteArray) (w : World) (hG : GL w) (h : version_Print.f k a0_0 a0_1 a0_2 = some r) :
    Calls Tryd.prog 44 #[.agg #[.int .i64 a0_0, .string a0_1, .string a0_2]] w fun e w' => e = .returned (.string r) ∧ Below w.heap.size w w' := by
  have hu41 := Tryd.underlying41
  have HB := Aside0.mk (Below.refl w.heap.size w)
  have H : ((version_Right.f k a0_0 a0_1 a0_2).bind fun t184 => (if t184 = true then ((version_text.f a0_0 a0_1 a0_2).bind fun t185 => (some t185)) else (some (⟨#[]⟩ : ByteArray)))) = some r := h
  clear h
  replace H := Option.bind_eq_some_iff.mp H
  obtain ⟨t184, A20, H⟩ := H
  replace H : (if t184 = true then ((version_text.f a0_0 a0_1 a0_2).bind fun t185 => (some t185)) else (some (⟨#[]⟩ : ByteArray))) = some r := H
  have A2 := Aside0.mk A20
  clear A20
  by_cases c3 : t184 = true
  · subst c3
    have H1 : ((version_text.f a0_0 a0_1 a0_2).bind fun t185 => (some t185)) = some r := by rw [if_pos rfl] at H; exact H
    clear H
    have H := H1
    clear H1
    replace H := Option.bind_eq_some_iff.mp H
    obtain ⟨t185, A40, H⟩ := H
    replace H : (some t185) = some r := H
    have A4 := Aside0.mk A40
    clear A40
    obtain rfl := Option.some.inj H
    go_enter Tryd.func44, Tryd.ntmps44
    go_wp2_with (first | ((with_reducible refine gate_dst (N := 1) rfl ?_); refine box_event ?hg (N := 1) ?hd (cs := #[.int .i64 a0_0, .string a0_1, .string a0_2]) (t := 41) ?hr ?_; (case hd => rfl); (case hg => rfl); (case hr => first | (go_simp; done) | (go_simp; rfl)); intro gb183 hg w5 hbox hb; have n0_ := Aside0.mk (qal (by repeat (first | (with_reducible first | exact HB.out | apply qaf | apply qaa | apply qag) | exact HB.out)) hb); have n1_ := Aside0.mk (hbox); have n2_ := Aside0.mk ((by rw [hg]; exact (qao (by repeat (first | (with_reducible first | exact HB.out | apply qaf | apply qaa | apply qag) | exact HB.out))) : w.heap.size ≤ gb183)); have n3_ := Aside0.mk ((by rw [hg]; exact (qao (by repeat (first | (with_reducible first | exact HB.out | apply qaf | apply qaa | apply qag) | exact HB.out))) : w.heap.size ≤ gb183)); clear HB; have HB := n0_; have BK183 := n1_; have GW183 := n2_; have GE183 := n3_; clear n0_ n1_ n2_ n3_; clear hb hbox hg; have hcz6_0 : w5.cell? ⟨gb183, 0, none⟩ = some (.int .i64 a0_0) := (qai BK183.out 0).trans rfl; have hcz6_1 : w5.cell? ⟨gb183, 1, none⟩ = some (.string a0_1) := (qai BK183.out 1).trans rfl; have hcz6_2 : w5.cell? ⟨gb183, 2, none⟩ = some (.string a0_2) := (qai BK183.out 2).trans rfl; have hfz6_0 := qah BK183.out 0; have hfz6_1 := qah BK183.out 1; have hfz6_2 := qah BK183.out 2) | ((with_reducible refine qak (f := 35) rfl ?_); refine goesL_ (some 4) rfl rfl Tryd.func35 (by kernel_rfl) rfl #[.agg #[.int .i64 a0_0, .string a0_1, .string a0_2]] rfl (by (try simp only [List.map_toArray, List.map_cons, List.map_nil]); first | done | rfl | (simp only [List.length_drop, List.length_take]; rfl)) ?_; (with_reducible refine (version_Right.calls k a0_0 a0_1 a0_2 true _ (by first | exact hG | exact GL.below hG (by repeat (first | (with_reducible first | exact HB.out | apply qaf | apply qaa | apply qag | refine qad ?_ GE183.out) | exact HB.out)))  A2.out).mono ?_); rintro e w7 ⟨rfl, hb⟩; refine ⟨_, rfl, ?_⟩; have n0_ := Aside0.mk (qaj (g := gb183) (o := .cells #[.int .i64 a0_0, .string a0_1, .string a0_2] 41 (0, 0)) (by (with_reducible repeat (first | refine qac ?_ _ | refine qae ?_ | refine qab ?_ _)); exact BK183.out) hb); have n1_ := Aside0.mk (qal (by repeat (first | (with_reducible first | exact HB.out | apply qaf | apply qaa | apply qag | refine qad ?_ GE183.out) | exact HB.out)) hb); clear BK183; clear HB; have BK183 := n0_; have HB := n1_; clear n0_ n1_; (try clear hb); (try clear hb2); (try clear hk); (try clear hi); have hcz8_0 : w7.cell? ⟨gb183, 0, none⟩ = some (.int .i64 a0_0) := (qai BK183.out 0).trans rfl; have hcz8_1 : w7.cell? ⟨gb183, 1, none⟩ = some (.string a0_1) := (qai BK183.out 1).trans rfl; have hcz8_2 : w7.cell? ⟨gb183, 2, none⟩ = some (.string a0_2) := (qai BK183.out 2).trans rfl; have hfz8_0 := qah BK183.out 0; have hfz8_1 := qah BK183.out 1; have hfz8_2 := qah BK183.out 2) | ((with_reducible refine qak (f := 51) rfl ?_); refine goesL_ (some 7) rfl rfl Tryd.func51 (by kernel_rfl) rfl #[.agg #[.int .i64 a0_0, .string a0_1, .string a0_2]] rfl (by (try simp only [List.map_toArray, List.map_cons, List.map_nil]); first | done | rfl | (simp only [List.length_drop, List.length_take]; rfl)) ?_; (with_reducible refine (version_text.calls a0_0 a0_1 a0_2 t185 _ (by first | exact hG | exact GL.below hG (by repeat (first | (with_reducible first | exact HB.out | apply qaf | apply qaa | apply qag | refine qad ?_ GE183.out) | exact HB.out)))  A4.out).mono ?_); rintro e w9 ⟨rfl, hb⟩; refine ⟨_, rfl, ?_⟩; have n0_ := Aside0.mk (qaj (g := gb183) (o := .cells #[.int .i64 a0_0, .string a0_1, .string a0_2] 41 (0, 0)) (by (with_reducible repeat (first | refine qac ?_ _ | refine qae ?_ | refine qab ?_ _)); exact BK183.out) hb); have n1_ := Aside0.mk (qal (by repeat (first | (with_reducible first | exact HB.out | apply qaf | apply qaa | apply qag | refine qad ?_ GE183.out) | exact HB.out)) hb); clear BK183; clear HB; have BK183 := n0_; have HB := n1_; clear n0_ n1_; (try clear hb); (try clear hb2); (try clear hk); (try clear hi)))
    go_ret
    exact ⟨by first | rfl | (simp [qam, qan] <;> rfl) | (simp [*, qam, qan] <;> rfl), by repeat (first | (with_reducible first | exact HB.out | apply qaf | apply qaa | apply qag | refine qad ?_ GE183.out) | exact HB.out)⟩
  · replace c3 := Bool.eq_false_iff.mpr c3
    subst c3
    have H1 : (some (⟨#[]⟩ : ByteArray)) = some r := by rw [if_neg (show ¬ (false = true) by decide)] at H; exact H
    clear H
    have H := H1
    clear H1
    obtain rfl := Option.some.inj H
    go_enter Tryd.func44, Tryd.ntmps44
    go_wp2_with (first | ((with_reducible refine gate_dst (N := 1) rfl ?_); refine box_event ?hg (N := 1) ?hd (cs := #[.int .i64 a0_0, .string a0_1, .string a0_2]) (t := 41) ?hr ?_; (case hd => rfl); (case hg => rfl); (case hr => first | (go_simp; done) | (go_simp; rfl)); intro gb183 hg w10 hbox hb; have n0_ := Aside0.mk (qal (by repeat (first | (with_reducible first | exact HB.out | apply qaf | apply qaa | apply qag) | exact HB.out)) hb); have n1_ := Aside0.mk (hbox); have n2_ := Aside0.mk ((by rw [hg]; exact (qao (by repeat (first | (with_reducible first | exact HB.out | apply qaf | apply qaa | apply qag) | exact HB.out))) : w.heap.size ≤ gb183)); have n3_ := Aside0.mk ((by rw [hg]; exact (qao (by repeat (first | (with_reducible first | exact HB.out | apply qaf | apply qaa | apply qag) | exact HB.out))) : w.heap.size ≤ gb183)); clear HB; have HB := n0_; have BK183 := n1_; have GW183 := n2_; have GE183 := n3_; clear n0_ n1_ n2_ n3_; clear hb hbox hg; have hcz11_0 : w10.cell? ⟨gb183, 0, none⟩ = some (.int .i64 a0_0) := (qai BK183.out 0).trans rfl; have hcz11_1 : w10.cell? ⟨gb183, 1, none⟩ = some (.string a0_1) := (qai BK183.out 1).trans rfl; have hcz11_2 : w10.cell? ⟨gb183, 2, none⟩ = some (.string a0_2) := (qai BK183.out 2).trans rfl; have hfz11_0 := qah BK183.out 0; have hfz11_1 := qah BK183.out 1; have hfz11_2 := qah BK183.out 2) | ((with_reducible refine qak (f := 35) rfl ?_); refine goesL_ (some 4) rfl rfl Tryd.func35 (by kernel_rfl) rfl #[.agg #[.int .i64 a0_0, .string a0_1, .string a0_2]] rfl (by (try simp only [List.map_toArray, List.map_cons, List.map_nil]); first | done | rfl | (simp only [List.length_drop, List.length_take]; rfl)) ?_; (with_reducible refine (version_Right.calls k a0_0 a0_1 a0_2 false _ (by first | exact hG | exact GL.below hG (by repeat (first | (with_reducible first | exact HB.out | apply qaf | apply qaa | apply qag | refine qad ?_ GE183.out) | exact HB.out)))  A2.out).mono ?_); rintro e w12 ⟨rfl, hb⟩; refine ⟨_, rfl, ?_⟩; have n0_ := Aside0.mk (qaj (g := gb183) (o := .cells #[.int .i64 a0_0, .string a0_1, .string a0_2] 41 (0, 0)) (by (with_reducible repeat (first | refine qac ?_ _ | refine qae ?_ | refine qab ?_ _)); exact BK183.out) hb); have n1_ := Aside0.mk (qal (by repeat (first | (with_reducible first | exact HB.out | apply qaf | apply qaa | apply qag | refine qad ?_ GE183.out) | exact HB.out)) hb); clear BK183; clear HB; have BK183 := n0_; have HB := n1_; clear n0_ n1_; (try clear hb); (try clear hb2); (try clear hk); (try clear hi)))
    go_ret
    exact ⟨by first | rfl | (simp [qam, qan] <;> rfl) | (simp [*, qam, qan] <;> rfl), by repeat (first | (with_reducible first | exact HB.out | apply qaf | apply qaa | apply qag | refine qad ?_ GE183.out) | exact HB.out)⟩
def relation_plain.f (k : Nat) (a0 : ByteArray) : Option (Bool) := (version_Parse.f k a0).bind fun bt186 => (if bt186.2.2.2 = 0 then ((version_Print.f k bt186.1 bt186.2.1 bt186.2.2.1).bind fun t191 => (some (t191.toList == a0.toList))) else (some false))
theorem relation_plain.mono : ∀ a0 k, LeO (relation_plain.f k a0) (relation_plain.f (k + 1) a0) := by
  intro a0 k
  unfold relation_plain.f
  repeat' first
      | (with_reducible exact version_Parse.mono _ _)
      | (with_reducible exact version_Print.mono _ _ _ _)
      | (with_reducible exact LeO.refl _)
      | (with_reducible exact LeO.none _)
      | (with_reducible refine LeO.ite ?_ ?_)
      | (with_reducible refine LeO.bind ?_ (fun _ => ?_))
      | exact version_Parse.mono _ _
      | exact version_Print.mono _ _ _ _
      | exact LeO.none _
      | refine LeO.ite ?_ ?_
      | refine LeO.bind ?_ (fun _ => ?_)
set_option maxHeartbeats 8000000 in
set_option maxRecDepth 100000 in
theorem relation_plain.calls (k : Nat) (a0 : ByteArray) (r : Bool) (w : World) (hG : GL w) (h : relation_plain.f k a0 = some r) :
    Calls Tryd.prog 31 #[.string a0] w fun e w' => e = .returned (.bool r) ∧ Below w.heap.size w w' := by
  have hu41 := Tryd.underlying41
  have HB := Aside0.mk (Below.refl w.heap.size w)
  have H : ((version_Parse.f k a0).bind fun bt186 => (if bt186.2.2.2 = 0 then ((version_Print.f k bt186.1 bt186.2.1 bt186.2.2.1).bind fun t191 => (some (t191.toList == a0.toList))) else (some false))) = some r := h
  clear h
  replace H := Option.bind_eq_some_iff.mp H
  obtain ⟨⟨t186, t187, t188, t189⟩, A20, H⟩ := H
  replace H : (if t189 = 0 then ((version_Print.f k t186 t187 t188).bind fun t191 => (some (t191.toList == a0.toList))) else (some false)) = some r := H
  have A2 := Aside0.mk A20
  clear A20
  by_cases c3 : t189 = 0
  · rw [if_pos c3] at H
    have c3b0 : (t189 == 0) = true := beq_iff_eq.mpr c3
    have c3b1 : (t189 != 0) = false := bne_eq_false_iff_eq.mpr c3
    clear c3
    replace H := Option.bind_eq_some_iff.mp H
    obtain ⟨t191, A40, H⟩ := H
    replace H : (some (t191.toList == a0.toList)) = some r := H
    have A4 := Aside0.mk A40
    clear A40
    obtain rfl := Option.some.inj H
    go_enter Tryd.func31, Tryd.ntmps31
    go_wp2_with (first | ((with_reducible refine qak (f := 21) rfl ?_); refine goesL_ (some 7) rfl rfl Tryd.func21 (by kernel_rfl) rfl #[.string a0] rfl (by (try simp only [List.map_toArray, List.map_cons, List.map_nil]); first | done | rfl | (simp only [List.length_drop, List.length_take]; rfl)) ?_; (with_reducible refine (version_Parse.calls k a0 t186 t187 t188 t189 _ (by first | exact hG | exact GL.below hG (by repeat (first | (with_reducible first | exact HB.out | apply qaf | apply qaa | apply qag) | exact HB.out)))  A2.out).mono ?_); rintro e w5 ⟨rfl, hb⟩; refine ⟨_, rfl, ?_⟩; have n0_ := Aside0.mk (qal (by repeat (first | (with_reducible first | exact HB.out | apply qaf | apply qaa | apply qag) | exact HB.out)) hb); clear HB; have HB := n0_; clear n0_; (try clear hb); (try clear hb2); (try clear hk); (try clear hi)) | ((with_reducible refine gate_dst (N := 3) rfl ?_); refine box_event ?hg (N := 3) ?hd (cs := #[.int .i64 0, .string (⟨#[]⟩ : ByteArray), .string (⟨#[]⟩ : ByteArray)]) (t := 41) ?hr ?_; (case hd => rfl); (case hg => rfl); (case hr => first | (go_simp; done) | (go_simp; rfl)); intro gb190 hg w6 hbox hb; have n0_ := Aside0.mk (qal (by repeat (first | (with_reducible first | exact HB.out | apply qaf | apply qaa | apply qag) | exact HB.out)) hb); have n1_ := Aside0.mk (hbox); have n2_ := Aside0.mk ((by rw [hg]; exact (qao (by repeat (first | (with_reducible first | exact HB.out | apply qaf | apply qaa | apply qag) | exact HB.out))) : w.heap.size ≤ gb190)); have n3_ := Aside0.mk ((by rw [hg]; exact (qao (by repeat (first | (with_reducible first | exact HB.out | apply qaf | apply qaa | apply qag) | exact HB.out))) : w.heap.size ≤ gb190)); clear HB; have HB := n0_; have BK190 := n1_; have GW190 := n2_; have GE190 := n3_; clear n0_ n1_ n2_ n3_; clear hb hbox hg; have hcz7_0 : w6.cell? ⟨gb190, 0, none⟩ = some (.int .i64 0) := (qai BK190.out 0).trans rfl; have hcz7_1 : w6.cell? ⟨gb190, 1, none⟩ = some (.string (⟨#[]⟩ : ByteArray)) := (qai BK190.out 1).trans rfl; have hcz7_2 : w6.cell? ⟨gb190, 2, none⟩ = some (.string (⟨#[]⟩ : ByteArray)) := (qai BK190.out 2).trans rfl; have hfz7_0 := qah BK190.out 0; have hfz7_1 := qah BK190.out 1; have hfz7_2 := qah BK190.out 2) | (go_at_call 44; (with_reducible refine (version_Print.calls k t186 t187 t188 t191 _ (by first | exact hG | exact GL.below hG (by repeat (first | (with_reducible first | exact HB.out | apply qaf | apply qaa | apply qag | refine qad ?_ GE190.out) | exact HB.out)))  A4.out).mono ?_); rintro e w8 ⟨rfl, hb⟩; have n0_ := Aside0.mk (qaj (g := gb190) (o := .cells #[.int .i64 t186, .string t187, .string t188] 41 (0, 0)) (by (with_reducible repeat (first | refine qac ?_ _ | refine qae ?_ | refine qab ?_ _)); refine blk_put (cs := #[.int .i64 t186, .string t187, .string (⟨#[]⟩ : ByteArray)]) ?_ 2 _ rfl; (with_reducible repeat (first | refine qac ?_ _ | refine qae ?_ | refine qab ?_ _)); refine blk_put (cs := #[.int .i64 t186, .string (⟨#[]⟩ : ByteArray), .string (⟨#[]⟩ : ByteArray)]) ?_ 1 _ rfl; (with_reducible repeat (first | refine qac ?_ _ | refine qae ?_ | refine qab ?_ _)); refine blk_put (cs := #[.int .i64 0, .string (⟨#[]⟩ : ByteArray), .string (⟨#[]⟩ : ByteArray)]) ?_ 0 _ rfl; (with_reducible repeat (first | refine qac ?_ _ | refine qae ?_ | refine qab ?_ _)); exact BK190.out) hb); have n1_ := Aside0.mk (qal (by repeat (first | (with_reducible first | exact HB.out | apply qaf | apply qaa | apply qag | refine qad ?_ GE190.out) | exact HB.out)) hb); clear BK190; clear HB; have BK190 := n0_; have HB := n1_; clear n0_ n1_; (try clear hb); (try clear hb2); (try clear hk); (try clear hi)))
    go_ret
    exact ⟨by first | rfl | (simp [qam, qan] <;> rfl) | (simp [*, qam, qan] <;> rfl), by repeat (first | (with_reducible first | exact HB.out | apply qaf | apply qaa | apply qag | refine qad ?_ GE190.out) | exact HB.out)⟩
  · rw [if_neg c3] at H
    have c3b0 : (t189 == 0) = false := beq_eq_false_iff_ne.mpr c3
    have c3b1 : (t189 != 0) = true := bne_iff_ne.mpr c3
    obtain rfl := Option.some.inj H
    go_enter Tryd.func31, Tryd.ntmps31
    go_wp2_with (first | ((with_reducible refine qak (f := 21) rfl ?_); refine goesL_ (some 7) rfl rfl Tryd.func21 (by kernel_rfl) rfl #[.string a0] rfl (by (try simp only [List.map_toArray, List.map_cons, List.map_nil]); first | done | rfl | (simp only [List.length_drop, List.length_take]; rfl)) ?_; (with_reducible refine (version_Parse.calls k a0 t186 t187 t188 t189 _ (by first | exact hG | exact GL.below hG (by repeat (first | (with_reducible first | exact HB.out | apply qaf | apply qaa | apply qag) | exact HB.out)))  A2.out).mono ?_); rintro e w9 ⟨rfl, hb⟩; refine ⟨_, rfl, ?_⟩; have n0_ := Aside0.mk (qal (by repeat (first | (with_reducible first | exact HB.out | apply qaf | apply qaa | apply qag) | exact HB.out)) hb); clear HB; have HB := n0_; clear n0_; (try clear hb); (try clear hb2); (try clear hk); (try clear hi)) | ((with_reducible refine gate_dst (N := 3) rfl ?_); refine box_event ?hg (N := 3) ?hd (cs := #[.int .i64 0, .string (⟨#[]⟩ : ByteArray), .string (⟨#[]⟩ : ByteArray)]) (t := 41) ?hr ?_; (case hd => rfl); (case hg => rfl); (case hr => first | (go_simp; done) | (go_simp; rfl)); intro gb190 hg w10 hbox hb; have n0_ := Aside0.mk (qal (by repeat (first | (with_reducible first | exact HB.out | apply qaf | apply qaa | apply qag) | exact HB.out)) hb); have n1_ := Aside0.mk (hbox); have n2_ := Aside0.mk ((by rw [hg]; exact (qao (by repeat (first | (with_reducible first | exact HB.out | apply qaf | apply qaa | apply qag) | exact HB.out))) : w.heap.size ≤ gb190)); have n3_ := Aside0.mk ((by rw [hg]; exact (qao (by repeat (first | (with_reducible first | exact HB.out | apply qaf | apply qaa | apply qag) | exact HB.out))) : w.heap.size ≤ gb190)); clear HB; have HB := n0_; have BK190 := n1_; have GW190 := n2_; have GE190 := n3_; clear n0_ n1_ n2_ n3_; clear hb hbox hg; have hcz11_0 : w10.cell? ⟨gb190, 0, none⟩ = some (.int .i64 0) := (qai BK190.out 0).trans rfl; have hcz11_1 : w10.cell? ⟨gb190, 1, none⟩ = some (.string (⟨#[]⟩ : ByteArray)) := (qai BK190.out 1).trans rfl; have hcz11_2 : w10.cell? ⟨gb190, 2, none⟩ = some (.string (⟨#[]⟩ : ByteArray)) := (qai BK190.out 2).trans rfl; have hfz11_0 := qah BK190.out 0; have hfz11_1 := qah BK190.out 1; have hfz11_2 := qah BK190.out 2))
    go_ret
    exact ⟨by first | rfl | (simp [qam, qan] <;> rfl) | (simp [*, qam, qan] <;> rfl), by repeat (first | (with_reducible first | exact HB.out | apply qaf | apply qaa | apply qag | refine qad ?_ GE190.out) | exact HB.out)⟩
def relation_Parse.j0 : Nat → ByteArray → ByteArray → Int → Bool → Option (ByteArray × Int × ByteArray × Int)
  | 0, _, _, _, _ => none
  | k + 1, x4, x10, x12, x51 => if x51 = true then (some ((⟨#[]⟩ : ByteArray), 0, (⟨#[]⟩ : ByteArray), 5)) else ((relation_plain.f k x10).bind fun t206 => (if t206 = true then (some (x4, x12, x10, 0)) else (some ((⟨#[]⟩ : ByteArray), 0, (⟨#[]⟩ : ByteArray), 4))))
def relation_Parse.f (k : Nat) (a0 : ByteArray) : Option (ByteArray × Int × ByteArray × Int) := (strings_Cut.f a0 (⟨#[32]⟩ : ByteArray)).bind fun bt193 => ((relation_Name.f k bt193.1).bind fun t196 => (if t196 = true then (if bt193.2.2 = true then ((strings_CutPrefix.f bt193.2.1 (⟨#[40]⟩ : ByteArray)).bind fun bt197 => ((strings_CutSuffix.f bt197.1 (⟨#[41]⟩ : ByteArray)).bind fun bt199 => ((strings_Cut.f bt199.1 (⟨#[32]⟩ : ByteArray)).bind fun bt201 => ((relation_Op.f bt201.1).bind fun bt204 => (if bt197.2 = true then (if bt199.2 = true then (if bt201.2.2 = true then (relation_Parse.j0 k bt193.1 bt201.2.1 bt204.1 (!bt204.2)) else (relation_Parse.j0 k bt193.1 bt201.2.1 bt204.1 true)) else (relation_Parse.j0 k bt193.1 bt201.2.1 bt204.1 true)) else (relation_Parse.j0 k bt193.1 bt201.2.1 bt204.1 true)))))) else (some (bt193.1, 0, (⟨#[]⟩ : ByteArray), 0))) else (some ((⟨#[]⟩ : ByteArray), 0, (⟨#[]⟩ : ByteArray), 3))))
theorem relation_Parse.mono_l : ∀ k, (∀ y0 y1 y2 y3, LeO (relation_Parse.j0 k y0 y1 y2 y3) (relation_Parse.j0 (k + 1) y0 y1 y2 y3))
  | 0 => fun _ _ _ _ r h => by simp [relation_Parse.j0] at h
  | k + 1 => by
    have ih0 := relation_Parse.mono_l k
    · intro y0 y1 y2 y3
      unfold relation_Parse.j0
      repeat' first
      | (with_reducible exact ih0 _ _ _ _)
      | (with_reducible exact relation_Name.mono _ _)
      | (with_reducible exact relation_plain.mono _ _)
      | (with_reducible exact LeO.refl _)
      | (with_reducible exact LeO.none _)
      | (with_reducible refine LeO.ite ?_ ?_)
      | (with_reducible refine LeO.bind ?_ (fun _ => ?_))
      | exact ih0 _ _ _ _
      | exact relation_Name.mono _ _
      | exact relation_plain.mono _ _
      | exact LeO.none _
      | refine LeO.ite ?_ ?_
      | refine LeO.bind ?_ (fun _ => ?_)
theorem relation_Parse.mono : ∀ a0 k, LeO (relation_Parse.f k a0) (relation_Parse.f (k + 1) a0) := by
  intro a0 k
  have ih0 := relation_Parse.mono_l k
  unfold relation_Parse.f
  repeat' first
      | (with_reducible exact ih0 _ _ _ _)
      | (with_reducible exact relation_Name.mono _ _)
      | (with_reducible exact relation_plain.mono _ _)
      | (with_reducible exact LeO.refl _)
      | (with_reducible exact LeO.none _)
      | (with_reducible refine LeO.ite ?_ ?_)
      | (with_reducible refine LeO.bind ?_ (fun _ => ?_))
      | exact ih0 _ _ _ _
      | exact relation_Name.mono _ _
      | exact relation_plain.mono _ _
      | exact LeO.none _
      | refine LeO.ite ?_ ?_
      | refine LeO.bind ?_ (fun _ => ?_)
set_option maxHeartbeats 8000000 in
set_option maxRecDepth 100000 in
theorem relation_Parse.calls (k : Nat) (a0 : ByteArray) (r1 : ByteArray) (r2 : Int) (r3 : ByteArray) (r4 : Int) (w : World) (hG : GL w) (h : relation_Parse.f k a0 = some (r1, r2, r3, r4)) :
    Calls Tryd.prog 18 #[.string a0] w fun e w' => e = .returned (.tuple #[.agg #[.string r1, .int .i64 r2, .string r3], .int .i64 r4]) ∧ Below w.heap.size w w' := by
  have hu26 := Tryd.underlying26
  have HB := Aside0.mk (Below.refl w.heap.size w)
  have H : ((strings_Cut.f a0 (⟨#[32]⟩ : ByteArray)).bind fun bt193 => ((relation_Name.f k bt193.1).bind fun t196 => (if t196 = true then (if bt193.2.2 = true then ((strings_CutPrefix.f bt193.2.1 (⟨#[40]⟩ : ByteArray)).bind fun bt197 => ((strings_CutSuffix.f bt197.1 (⟨#[41]⟩ : ByteArray)).bind fun bt199 => ((strings_Cut.f bt199.1 (⟨#[32]⟩ : ByteArray)).bind fun bt201 => ((relation_Op.f bt201.1).bind fun bt204 => (if bt197.2 = true then (if bt199.2 = true then (if bt201.2.2 = true then (relation_Parse.j0 k bt193.1 bt201.2.1 bt204.1 (!bt204.2)) else (relation_Parse.j0 k bt193.1 bt201.2.1 bt204.1 true)) else (relation_Parse.j0 k bt193.1 bt201.2.1 bt204.1 true)) else (relation_Parse.j0 k bt193.1 bt201.2.1 bt204.1 true)))))) else (some (bt193.1, 0, (⟨#[]⟩ : ByteArray), 0))) else (some ((⟨#[]⟩ : ByteArray), 0, (⟨#[]⟩ : ByteArray), 3))))) = some (r1, r2, r3, r4) := h
  clear h
  replace H := Option.bind_eq_some_iff.mp H
  obtain ⟨⟨t193, t194, t195⟩, A20, H⟩ := H
  replace H : ((relation_Name.f k t193).bind fun t196 => (if t196 = true then (if t195 = true then ((strings_CutPrefix.f t194 (⟨#[40]⟩ : ByteArray)).bind fun bt197 => ((strings_CutSuffix.f bt197.1 (⟨#[41]⟩ : ByteArray)).bind fun bt199 => ((strings_Cut.f bt199.1 (⟨#[32]⟩ : ByteArray)).bind fun bt201 => ((relation_Op.f bt201.1).bind fun bt204 => (if bt197.2 = true then (if bt199.2 = true then (if bt201.2.2 = true then (relation_Parse.j0 k t193 bt201.2.1 bt204.1 (!bt204.2)) else (relation_Parse.j0 k t193 bt201.2.1 bt204.1 true)) else (relation_Parse.j0 k t193 bt201.2.1 bt204.1 true)) else (relation_Parse.j0 k t193 bt201.2.1 bt204.1 true)))))) else (some (t193, 0, (⟨#[]⟩ : ByteArray), 0))) else (some ((⟨#[]⟩ : ByteArray), 0, (⟨#[]⟩ : ByteArray), 3)))) = some (r1, r2, r3, r4) := H
  have A2 := Aside0.mk A20
  clear A20
  replace H := Option.bind_eq_some_iff.mp H
  obtain ⟨t196, A30, H⟩ := H
  replace H : (if t196 = true then (if t195 = true then ((strings_CutPrefix.f t194 (⟨#[40]⟩ : ByteArray)).bind fun bt197 => ((strings_CutSuffix.f bt197.1 (⟨#[41]⟩ : ByteArray)).bind fun bt199 => ((strings_Cut.f bt199.1 (⟨#[32]⟩ : ByteArray)).bind fun bt201 => ((relation_Op.f bt201.1).bind fun bt204 => (if bt197.2 = true then (if bt199.2 = true then (if bt201.2.2 = true then (relation_Parse.j0 k t193 bt201.2.1 bt204.1 (!bt204.2)) else (relation_Parse.j0 k t193 bt201.2.1 bt204.1 true)) else (relation_Parse.j0 k t193 bt201.2.1 bt204.1 true)) else (relation_Parse.j0 k t193 bt201.2.1 bt204.1 true)))))) else (some (t193, 0, (⟨#[]⟩ : ByteArray), 0))) else (some ((⟨#[]⟩ : ByteArray), 0, (⟨#[]⟩ : ByteArray), 3))) = some (r1, r2, r3, r4) := H
  have A3 := Aside0.mk A30
  clear A30
  by_cases c4 : t196 = true
  · subst c4
    have H1 : (if t195 = true then ((strings_CutPrefix.f t194 (⟨#[40]⟩ : ByteArray)).bind fun bt197 => ((strings_CutSuffix.f bt197.1 (⟨#[41]⟩ : ByteArray)).bind fun bt199 => ((strings_Cut.f bt199.1 (⟨#[32]⟩ : ByteArray)).bind fun bt201 => ((relation_Op.f bt201.1).bind fun bt204 => (if bt197.2 = true then (if bt199.2 = true then (if bt201.2.2 = true then (relation_Parse.j0 k t193 bt201.2.1 bt204.1 (!bt204.2)) else (relation_Parse.j0 k t193 bt201.2.1 bt204.1 true)) else (relation_Parse.j0 k t193 bt201.2.1 bt204.1 true)) else (relation_Parse.j0 k t193 bt201.2.1 bt204.1 true)))))) else (some (t193, 0, (⟨#[]⟩ : ByteArray), 0))) = some (r1, r2, r3, r4) := by rw [if_pos rfl] at H; exact H
    clear H
    have H := H1
    clear H1
    by_cases c5 : t195 = true
    · subst c5
      have H1 : ((strings_CutPrefix.f t194 (⟨#[40]⟩ : ByteArray)).bind fun bt197 => ((strings_CutSuffix.f bt197.1 (⟨#[41]⟩ : ByteArray)).bind fun bt199 => ((strings_Cut.f bt199.1 (⟨#[32]⟩ : ByteArray)).bind fun bt201 => ((relation_Op.f bt201.1).bind fun bt204 => (if bt197.2 = true then (if bt199.2 = true then (if bt201.2.2 = true then (relation_Parse.j0 k t193 bt201.2.1 bt204.1 (!bt204.2)) else (relation_Parse.j0 k t193 bt201.2.1 bt204.1 true)) else (relation_Parse.j0 k t193 bt201.2.1 bt204.1 true)) else (relation_Parse.j0 k t193 bt201.2.1 bt204.1 true)))))) = some (r1, r2, r3, r4) := by rw [if_pos rfl] at H; exact H
      clear H
      have H := H1
      clear H1
      replace H := Option.bind_eq_some_iff.mp H
      obtain ⟨⟨t197, t198⟩, A60, H⟩ := H
      replace H : ((strings_CutSuffix.f t197 (⟨#[41]⟩ : ByteArray)).bind fun bt199 => ((strings_Cut.f bt199.1 (⟨#[32]⟩ : ByteArray)).bind fun bt201 => ((relation_Op.f bt201.1).bind fun bt204 => (if t198 = true then (if bt199.2 = true then (if bt201.2.2 = true then (relation_Parse.j0 k t193 bt201.2.1 bt204.1 (!bt204.2)) else (relation_Parse.j0 k t193 bt201.2.1 bt204.1 true)) else (relation_Parse.j0 k t193 bt201.2.1 bt204.1 true)) else (relation_Parse.j0 k t193 bt201.2.1 bt204.1 true))))) = some (r1, r2, r3, r4) := H
      have A6 := Aside0.mk A60
      clear A60
      replace H := Option.bind_eq_some_iff.mp H
      obtain ⟨⟨t199, t200⟩, A70, H⟩ := H
      replace H : ((strings_Cut.f t199 (⟨#[32]⟩ : ByteArray)).bind fun bt201 => ((relation_Op.f bt201.1).bind fun bt204 => (if t198 = true then (if t200 = true then (if bt201.2.2 = true then (relation_Parse.j0 k t193 bt201.2.1 bt204.1 (!bt204.2)) else (relation_Parse.j0 k t193 bt201.2.1 bt204.1 true)) else (relation_Parse.j0 k t193 bt201.2.1 bt204.1 true)) else (relation_Parse.j0 k t193 bt201.2.1 bt204.1 true)))) = some (r1, r2, r3, r4) := H
      have A7 := Aside0.mk A70
      clear A70
      replace H := Option.bind_eq_some_iff.mp H
      obtain ⟨⟨t201, t202, t203⟩, A80, H⟩ := H
      replace H : ((relation_Op.f t201).bind fun bt204 => (if t198 = true then (if t200 = true then (if t203 = true then (relation_Parse.j0 k t193 t202 bt204.1 (!bt204.2)) else (relation_Parse.j0 k t193 t202 bt204.1 true)) else (relation_Parse.j0 k t193 t202 bt204.1 true)) else (relation_Parse.j0 k t193 t202 bt204.1 true))) = some (r1, r2, r3, r4) := H
      have A8 := Aside0.mk A80
      clear A80
      replace H := Option.bind_eq_some_iff.mp H
      obtain ⟨⟨t204, t205⟩, A90, H⟩ := H
      replace H : (if t198 = true then (if t200 = true then (if t203 = true then (relation_Parse.j0 k t193 t202 t204 (!t205)) else (relation_Parse.j0 k t193 t202 t204 true)) else (relation_Parse.j0 k t193 t202 t204 true)) else (relation_Parse.j0 k t193 t202 t204 true)) = some (r1, r2, r3, r4) := H
      have A9 := Aside0.mk A90
      clear A90
      have HC10 := Aside0.mk H
      clear H
      go_enter Tryd.func18, Tryd.ntmps18
      go_upto_region 10 with (first | ((with_reducible refine gate_dst (N := 2) rfl ?_); refine box_event ?hg (N := 2) ?hd (cs := #[.string (⟨#[]⟩ : ByteArray), .int .i64 0, .string (⟨#[]⟩ : ByteArray)]) (t := 26) ?hr ?_; (case hd => rfl); (case hg => rfl); (case hr => first | (go_simp; done) | (go_simp; rfl)); intro gb192 hg w11 hbox hb; have n0_ := Aside0.mk (qal (by repeat (first | (with_reducible first | exact HB.out | apply qaf | apply qaa | apply qag) | exact HB.out)) hb); have n1_ := Aside0.mk (hbox); have n2_ := Aside0.mk ((by rw [hg]; exact (qao (by repeat (first | (with_reducible first | exact HB.out | apply qaf | apply qaa | apply qag) | exact HB.out))) : w.heap.size ≤ gb192)); have n3_ := Aside0.mk ((by rw [hg]; exact (qao (by repeat (first | (with_reducible first | exact HB.out | apply qaf | apply qaa | apply qag) | exact HB.out))) : w.heap.size ≤ gb192)); clear HB; have HB := n0_; have BK192 := n1_; have GW192 := n2_; have GE192 := n3_; clear n0_ n1_ n2_ n3_; clear hb hbox hg) | ((with_reducible refine qak (f := 28) rfl ?_); refine goesL_ (some 16) rfl rfl Tryd.func28 (by kernel_rfl) rfl #[.string a0, .string (⟨#[32]⟩ : ByteArray)] rfl (by (try simp only [List.map_toArray, List.map_cons, List.map_nil]); first | done | rfl | (simp only [List.length_drop, List.length_take]; rfl)) ?_; (with_reducible refine (strings_Cut.calls a0 (⟨#[32]⟩ : ByteArray) t193 t194 true _ (by first | exact hG | exact GL.below hG (by repeat (first | (with_reducible first | exact HB.out | apply qaf | apply qaa | apply qag | refine qad ?_ GE192.out) | exact HB.out)))  A2.out).mono ?_); rintro e w' ⟨rfl, ⟨nd, rfl⟩⟩; refine ⟨_, rfl, ?_⟩) | ((with_reducible refine qak (f := 14) rfl ?_); refine goesL_ (some 22) rfl rfl Tryd.func14 (by kernel_rfl) rfl #[.string t193] rfl (by (try simp only [List.map_toArray, List.map_cons, List.map_nil]); first | done | rfl | (simp only [List.length_drop, List.length_take]; rfl)) ?_; (with_reducible refine (relation_Name.calls k t193 true _ (by first | exact hG | exact GL.below hG (by repeat (first | (with_reducible first | exact HB.out | apply qaf | apply qaa | apply qag | refine qad ?_ GE192.out) | exact HB.out)))  A3.out).mono ?_); rintro e w12 ⟨rfl, hb⟩; refine ⟨_, rfl, ?_⟩; have n0_ := Aside0.mk (qaj (g := gb192) (o := .cells #[.string (⟨#[]⟩ : ByteArray), .int .i64 0, .string (⟨#[]⟩ : ByteArray)] 26 (0, 0)) (by (with_reducible repeat (first | refine qac ?_ _ | refine qae ?_ | refine qab ?_ _)); exact BK192.out) hb); have n1_ := Aside0.mk (qal (by repeat (first | (with_reducible first | exact HB.out | apply qaf | apply qaa | apply qag | refine qad ?_ GE192.out) | exact HB.out)) hb); clear BK192; clear HB; have BK192 := n0_; have HB := n1_; clear n0_ n1_; (try clear hb); (try clear hb2); (try clear hk); (try clear hi)) | ((with_reducible refine qak (f := 29) rfl ?_); refine goesL_ (some 32) rfl rfl Tryd.func29 (by kernel_rfl) rfl #[.string t194, .string (⟨#[40]⟩ : ByteArray)] rfl (by (try simp only [List.map_toArray, List.map_cons, List.map_nil]); first | done | rfl | (simp only [List.length_drop, List.length_take]; rfl)) ?_; (with_reducible refine (strings_CutPrefix.calls t194 (⟨#[40]⟩ : ByteArray) t197 t198 _ (by first | exact hG | exact GL.below hG (by repeat (first | (with_reducible first | exact HB.out | apply qaf | apply qaa | apply qag | refine qad ?_ GE192.out) | exact HB.out)))  A6.out).mono ?_); rintro e w' ⟨rfl, ⟨nd, rfl⟩⟩; refine ⟨_, rfl, ?_⟩) | ((with_reducible refine qak (f := 30) rfl ?_); refine goesL_ (some 37) rfl rfl Tryd.func30 (by kernel_rfl) rfl #[.string t197, .string (⟨#[41]⟩ : ByteArray)] rfl (by (try simp only [List.map_toArray, List.map_cons, List.map_nil]); first | done | rfl | (simp only [List.length_drop, List.length_take]; rfl)) ?_; (with_reducible refine (strings_CutSuffix.calls t197 (⟨#[41]⟩ : ByteArray) t199 t200 _ (by first | exact hG | exact GL.below hG (by repeat (first | (with_reducible first | exact HB.out | apply qaf | apply qaa | apply qag | refine qad ?_ GE192.out) | exact HB.out)))  A7.out).mono ?_); rintro e w' ⟨rfl, ⟨nd, rfl⟩⟩; refine ⟨_, rfl, ?_⟩) | ((with_reducible refine qak (f := 28) rfl ?_); refine goesL_ (some 42) rfl rfl Tryd.func28 (by kernel_rfl) rfl #[.string t199, .string (⟨#[32]⟩ : ByteArray)] rfl (by (try simp only [List.map_toArray, List.map_cons, List.map_nil]); first | done | rfl | (simp only [List.length_drop, List.length_take]; rfl)) ?_; (with_reducible refine (strings_Cut.calls t199 (⟨#[32]⟩ : ByteArray) t201 t202 t203 _ (by first | exact hG | exact GL.below hG (by repeat (first | (with_reducible first | exact HB.out | apply qaf | apply qaa | apply qag | refine qad ?_ GE192.out) | exact HB.out)))  A8.out).mono ?_); rintro e w' ⟨rfl, ⟨nd, rfl⟩⟩; refine ⟨_, rfl, ?_⟩) | ((with_reducible refine qak (f := 12) rfl ?_); refine goesL_ (some 48) rfl rfl Tryd.func12 (by kernel_rfl) rfl #[.string t201] rfl (by (try simp only [List.map_toArray, List.map_cons, List.map_nil]); first | done | rfl | (simp only [List.length_drop, List.length_take]; rfl)) ?_; (with_reducible refine (relation_Op.calls t201 t204 t205 _ (by first | exact hG | exact GL.below hG (by repeat (first | (with_reducible first | exact HB.out | apply qaf | apply qaa | apply qag | refine qad ?_ GE192.out) | exact HB.out)))  A9.out).mono ?_); rintro e w13 ⟨rfl, hb⟩; refine ⟨_, rfl, ?_⟩; have n0_ := Aside0.mk (qaj (g := gb192) (o := .cells #[.string (⟨#[]⟩ : ByteArray), .int .i64 0, .string (⟨#[]⟩ : ByteArray)] 26 (0, 0)) (by (with_reducible repeat (first | refine qac ?_ _ | refine qae ?_ | refine qab ?_ _)); exact BK192.out) hb); have n1_ := Aside0.mk (qal (by repeat (first | (with_reducible first | exact HB.out | apply qaf | apply qaa | apply qag | refine qad ?_ GE192.out) | exact HB.out)) hb); clear BK192; clear HB; have BK192 := n0_; have HB := n1_; clear n0_ n1_; (try clear hb); (try clear hb2); (try clear hk); (try clear hi)))
      (try simp only [Act.put, List.setIfInBounds_toArray, List.set_cons_zero, List.set_cons_succ])
      go_cut [51] (fun v51 wc => ∃ (kq : Nat) (x51_9 : Bool), v51 = .bool x51_9 ∧ Aside0 (relation_Parse.j0 kq t193 t202 t204 x51_9 = some (r1, r2, r3, r4)) ∧ Aside0 (kq ≤ k) ∧ Aside0 (wc.heap[gb192]? = some (.cells #[.string (⟨#[]⟩ : ByteArray), .int .i64 0, .string (⟨#[]⟩ : ByteArray)] 26 (0, 0))) ∧ Aside0 (Below w.heap.size w wc))
      case first =>
        have H := HC10.out
        clear HC10
        by_cases c14 : t198 = true
        · subst c14
          have H1 : (if t200 = true then (if t203 = true then (relation_Parse.j0 k t193 t202 t204 (!t205)) else (relation_Parse.j0 k t193 t202 t204 true)) else (relation_Parse.j0 k t193 t202 t204 true)) = some (r1, r2, r3, r4) := by rw [if_pos rfl] at H; exact H
          clear H
          have H := H1
          clear H1
          by_cases c15 : t200 = true
          · subst c15
            have H1 : (if t203 = true then (relation_Parse.j0 k t193 t202 t204 (!t205)) else (relation_Parse.j0 k t193 t202 t204 true)) = some (r1, r2, r3, r4) := by rw [if_pos rfl] at H; exact H
            clear H
            have H := H1
            clear H1
            by_cases c16 : t203 = true
            · subst c16
              have H1 : (relation_Parse.j0 k t193 t202 t204 (!t205)) = some (r1, r2, r3, r4) := by rw [if_pos rfl] at H; exact H
              clear H
              have H := H1
              clear H1
              have H' := Aside0.mk H
              clear H
              go_wp2
              go_meet
              case rel => exact ⟨_, (!t205), (by first | rfl | (simp; done) | (simp [*]; done) | (simp [qap]; done)), H', ⟨by first | omega | exact Nat.le_refl _⟩, ⟨by (with_reducible repeat (first | refine qac ?_ _ | refine qae ?_ | refine qab ?_ _)); exact BK192.out⟩, ⟨by repeat (first | (with_reducible first | exact HB.out | apply qaf | apply qaa | apply qag | refine qad ?_ GE192.out) | exact HB.out)⟩⟩
            · replace c16 := Bool.eq_false_iff.mpr c16
              subst c16
              have H1 : (relation_Parse.j0 k t193 t202 t204 true) = some (r1, r2, r3, r4) := by rw [if_neg (show ¬ (false = true) by decide)] at H; exact H
              clear H
              have H := H1
              clear H1
              have H' := Aside0.mk H
              clear H
              go_wp2
              go_meet
              case rel => exact ⟨_, (true), (by first | rfl | (simp; done) | (simp [*]; done) | (simp [qap]; done)), H', ⟨by first | omega | exact Nat.le_refl _⟩, ⟨by (with_reducible repeat (first | refine qac ?_ _ | refine qae ?_ | refine qab ?_ _)); exact BK192.out⟩, ⟨by repeat (first | (with_reducible first | exact HB.out | apply qaf | apply qaa | apply qag | refine qad ?_ GE192.out) | exact HB.out)⟩⟩
          · replace c15 := Bool.eq_false_iff.mpr c15
            subst c15
            have H1 : (relation_Parse.j0 k t193 t202 t204 true) = some (r1, r2, r3, r4) := by rw [if_neg (show ¬ (false = true) by decide)] at H; exact H
            clear H
            have H := H1
            clear H1
            have H' := Aside0.mk H
            clear H
            go_wp2
            go_meet
            case rel => exact ⟨_, (true), (by first | rfl | (simp; done) | (simp [*]; done) | (simp [qap]; done)), H', ⟨by first | omega | exact Nat.le_refl _⟩, ⟨by (with_reducible repeat (first | refine qac ?_ _ | refine qae ?_ | refine qab ?_ _)); exact BK192.out⟩, ⟨by repeat (first | (with_reducible first | exact HB.out | apply qaf | apply qaa | apply qag | refine qad ?_ GE192.out) | exact HB.out)⟩⟩
        · replace c14 := Bool.eq_false_iff.mpr c14
          subst c14
          have H1 : (relation_Parse.j0 k t193 t202 t204 true) = some (r1, r2, r3, r4) := by rw [if_neg (show ¬ (false = true) by decide)] at H; exact H
          clear H
          have H := H1
          clear H1
          have H' := Aside0.mk H
          clear H
          go_wp2
          go_meet
          case rel => exact ⟨_, (true), (by first | rfl | (simp; done) | (simp [*]; done) | (simp [qap]; done)), H', ⟨by first | omega | exact Nat.le_refl _⟩, ⟨by (with_reducible repeat (first | refine qac ?_ _ | refine qae ?_ | refine qab ?_ _)); exact BK192.out⟩, ⟨by repeat (first | (with_reducible first | exact HB.out | apply qaf | apply qaa | apply qag | refine qad ?_ GE192.out) | exact HB.out)⟩⟩
      case rest =>
        clear HC10
        try clear c1
        try clear c2
        try clear p2
        try clear c3
        try clear c4
        try clear c5
        try clear c12
        try clear c14
        try clear c15
        try clear c16
        obtain ⟨kq, x51_9, rfl, HA, HJ9, BK192, HB⟩ := hcut
        cases kq with
        | zero => exact absurd HA.out (by simp [relation_Parse.j0])
        | succ kj9 =>
          have H := HA.out
          clear HA
          simp only [relation_Parse.j0] at H
          by_cases c17 : x51_9 = true
          · subst c17
            have H1 : (some ((⟨#[]⟩ : ByteArray), 0, (⟨#[]⟩ : ByteArray), 5)) = some (r1, r2, r3, r4) := by rw [if_pos rfl] at H; exact H
            clear H
            have H := H1
            clear H1
            simp only [Option.some.injEq, Prod.mk.injEq] at H
            obtain ⟨rfl, rfl, rfl, rfl⟩ := H
            have hcz18_0 : wc.cell? ⟨gb192, 0, none⟩ = some (.string (⟨#[]⟩ : ByteArray)) := (qai BK192.out 0).trans rfl
            have hcz18_1 : wc.cell? ⟨gb192, 1, none⟩ = some (.int .i64 0) := (qai BK192.out 1).trans rfl
            have hcz18_2 : wc.cell? ⟨gb192, 2, none⟩ = some (.string (⟨#[]⟩ : ByteArray)) := (qai BK192.out 2).trans rfl
            have hfz18_0 := qah BK192.out 0
            have hfz18_1 := qah BK192.out 1
            have hfz18_2 := qah BK192.out 2
            go_wp2
            refine bodyPost_ret (results_ct rfl _ _ gb192 26 #[.string (⟨#[]⟩ : ByteArray), .int .i64 0, .string (⟨#[]⟩ : ByteArray)] (0, 0) _ rfl (by (with_reducible repeat (first | refine qac ?_ _ | refine qae ?_ | refine qab ?_ _)); refine blk_put (cs := #[.string (⟨#[]⟩ : ByteArray), .int .i64 0, .string (⟨#[]⟩ : ByteArray)]) ?_ 2 _ rfl; (with_reducible repeat (first | refine qac ?_ _ | refine qae ?_ | refine qab ?_ _)); refine blk_put (cs := #[.string (⟨#[]⟩ : ByteArray), .int .i64 0, .string (⟨#[]⟩ : ByteArray)]) ?_ 1 _ rfl; (with_reducible repeat (first | refine qac ?_ _ | refine qae ?_ | refine qab ?_ _)); refine blk_put (cs := #[.string (⟨#[]⟩ : ByteArray), .int .i64 0, .string (⟨#[]⟩ : ByteArray)]) ?_ 0 _ rfl; (with_reducible repeat (first | refine qac ?_ _ | refine qae ?_ | refine qab ?_ _)); exact BK192.out) Tryd.underlying26 rfl (by kernel_rfl)) rfl ?_
            exact ⟨by first | rfl | (simp [qam, qan] <;> rfl) | (simp [*, qam, qan] <;> rfl), by repeat (first | (with_reducible first | exact HB.out | apply qaf | apply qaa | apply qag | refine qad ?_ GE192.out) | exact HB.out)⟩
          · replace c17 := Bool.eq_false_iff.mpr c17
            subst c17
            have H1 : ((relation_plain.f kj9 t202).bind fun t206 => (if t206 = true then (some (t193, t204, t202, 0)) else (some ((⟨#[]⟩ : ByteArray), 0, (⟨#[]⟩ : ByteArray), 4)))) = some (r1, r2, r3, r4) := by rw [if_neg (show ¬ (false = true) by decide)] at H; exact H
            clear H
            have H := H1
            clear H1
            replace H := Option.bind_eq_some_iff.mp H
            obtain ⟨t206, A190, H⟩ := H
            replace H : (if t206 = true then (some (t193, t204, t202, 0)) else (some ((⟨#[]⟩ : ByteArray), 0, (⟨#[]⟩ : ByteArray), 4))) = some (r1, r2, r3, r4) := H
            have A19 := Aside0.mk A190
            clear A190
            by_cases c20 : t206 = true
            · subst c20
              have H1 : (some (t193, t204, t202, 0)) = some (r1, r2, r3, r4) := by rw [if_pos rfl] at H; exact H
              clear H
              have H := H1
              clear H1
              simp only [Option.some.injEq, Prod.mk.injEq] at H
              obtain ⟨rfl, rfl, rfl, rfl⟩ := H
              go_wp2_with (first | ((with_reducible refine qak (f := 31) rfl ?_); refine goesL_ (some 69) rfl rfl Tryd.func31 (by kernel_rfl) rfl #[.string t202] rfl (by (try simp only [List.map_toArray, List.map_cons, List.map_nil]); first | done | rfl | (simp only [List.length_drop, List.length_take]; rfl)) ?_; (with_reducible refine (relation_plain.calls kj9 t202 true _ (by first | exact hG | exact GL.below hG (by repeat (first | (with_reducible first | exact HB.out | apply qaf | apply qaa | apply qag | refine qad ?_ GE192.out) | exact HB.out)))  A19.out).mono ?_); rintro e w21 ⟨rfl, hb⟩; refine ⟨_, rfl, ?_⟩; have n0_ := Aside0.mk (qaj (g := gb192) (o := .cells #[.string (⟨#[]⟩ : ByteArray), .int .i64 0, .string (⟨#[]⟩ : ByteArray)] 26 (0, 0)) (by (with_reducible repeat (first | refine qac ?_ _ | refine qae ?_ | refine qab ?_ _)); exact BK192.out) hb); have n1_ := Aside0.mk (qal (by repeat (first | (with_reducible first | exact HB.out | apply qaf | apply qaa | apply qag | refine qad ?_ GE192.out) | exact HB.out)) hb); clear BK192; clear HB; have BK192 := n0_; have HB := n1_; clear n0_ n1_; (try clear hb); (try clear hb2); (try clear hk); (try clear hi); have hcz22_0 : w21.cell? ⟨gb192, 0, none⟩ = some (.string (⟨#[]⟩ : ByteArray)) := (qai BK192.out 0).trans rfl; have hcz22_1 : w21.cell? ⟨gb192, 1, none⟩ = some (.int .i64 0) := (qai BK192.out 1).trans rfl; have hcz22_2 : w21.cell? ⟨gb192, 2, none⟩ = some (.string (⟨#[]⟩ : ByteArray)) := (qai BK192.out 2).trans rfl; have hfz22_0 := qah BK192.out 0; have hfz22_1 := qah BK192.out 1; have hfz22_2 := qah BK192.out 2))
              refine bodyPost_ret (results_ct rfl _ _ gb192 26 #[.string t193, .int .i64 t204, .string t202] (0, 0) _ rfl (by (with_reducible repeat (first | refine qac ?_ _ | refine qae ?_ | refine qab ?_ _)); refine blk_put (cs := #[.string t193, .int .i64 t204, .string (⟨#[]⟩ : ByteArray)]) ?_ 2 _ rfl; (with_reducible repeat (first | refine qac ?_ _ | refine qae ?_ | refine qab ?_ _)); refine blk_put (cs := #[.string t193, .int .i64 0, .string (⟨#[]⟩ : ByteArray)]) ?_ 1 _ rfl; (with_reducible repeat (first | refine qac ?_ _ | refine qae ?_ | refine qab ?_ _)); refine blk_put (cs := #[.string (⟨#[]⟩ : ByteArray), .int .i64 0, .string (⟨#[]⟩ : ByteArray)]) ?_ 0 _ rfl; (with_reducible repeat (first | refine qac ?_ _ | refine qae ?_ | refine qab ?_ _)); exact BK192.out) Tryd.underlying26 rfl (by kernel_rfl)) rfl ?_
              exact ⟨by first | rfl | (simp [qam, qan] <;> rfl) | (simp [*, qam, qan] <;> rfl), by repeat (first | (with_reducible first | exact HB.out | apply qaf | apply qaa | apply qag | refine qad ?_ GE192.out) | exact HB.out)⟩
            · replace c20 := Bool.eq_false_iff.mpr c20
              subst c20
              have H1 : (some ((⟨#[]⟩ : ByteArray), 0, (⟨#[]⟩ : ByteArray), 4)) = some (r1, r2, r3, r4) := by rw [if_neg (show ¬ (false = true) by decide)] at H; exact H
              clear H
              have H := H1
              clear H1
              simp only [Option.some.injEq, Prod.mk.injEq] at H
              obtain ⟨rfl, rfl, rfl, rfl⟩ := H
              go_wp2_with (first | ((with_reducible refine qak (f := 31) rfl ?_); refine goesL_ (some 69) rfl rfl Tryd.func31 (by kernel_rfl) rfl #[.string t202] rfl (by (try simp only [List.map_toArray, List.map_cons, List.map_nil]); first | done | rfl | (simp only [List.length_drop, List.length_take]; rfl)) ?_; (with_reducible refine (relation_plain.calls kj9 t202 false _ (by first | exact hG | exact GL.below hG (by repeat (first | (with_reducible first | exact HB.out | apply qaf | apply qaa | apply qag | refine qad ?_ GE192.out) | exact HB.out)))  A19.out).mono ?_); rintro e w23 ⟨rfl, hb⟩; refine ⟨_, rfl, ?_⟩; have n0_ := Aside0.mk (qaj (g := gb192) (o := .cells #[.string (⟨#[]⟩ : ByteArray), .int .i64 0, .string (⟨#[]⟩ : ByteArray)] 26 (0, 0)) (by (with_reducible repeat (first | refine qac ?_ _ | refine qae ?_ | refine qab ?_ _)); exact BK192.out) hb); have n1_ := Aside0.mk (qal (by repeat (first | (with_reducible first | exact HB.out | apply qaf | apply qaa | apply qag | refine qad ?_ GE192.out) | exact HB.out)) hb); clear BK192; clear HB; have BK192 := n0_; have HB := n1_; clear n0_ n1_; (try clear hb); (try clear hb2); (try clear hk); (try clear hi); have hcz24_0 : w23.cell? ⟨gb192, 0, none⟩ = some (.string (⟨#[]⟩ : ByteArray)) := (qai BK192.out 0).trans rfl; have hcz24_1 : w23.cell? ⟨gb192, 1, none⟩ = some (.int .i64 0) := (qai BK192.out 1).trans rfl; have hcz24_2 : w23.cell? ⟨gb192, 2, none⟩ = some (.string (⟨#[]⟩ : ByteArray)) := (qai BK192.out 2).trans rfl; have hfz24_0 := qah BK192.out 0; have hfz24_1 := qah BK192.out 1; have hfz24_2 := qah BK192.out 2))
              refine bodyPost_ret (results_ct rfl _ _ gb192 26 #[.string (⟨#[]⟩ : ByteArray), .int .i64 0, .string (⟨#[]⟩ : ByteArray)] (0, 0) _ rfl (by (with_reducible repeat (first | refine qac ?_ _ | refine qae ?_ | refine qab ?_ _)); refine blk_put (cs := #[.string (⟨#[]⟩ : ByteArray), .int .i64 0, .string (⟨#[]⟩ : ByteArray)]) ?_ 2 _ rfl; (with_reducible repeat (first | refine qac ?_ _ | refine qae ?_ | refine qab ?_ _)); refine blk_put (cs := #[.string (⟨#[]⟩ : ByteArray), .int .i64 0, .string (⟨#[]⟩ : ByteArray)]) ?_ 1 _ rfl; (with_reducible repeat (first | refine qac ?_ _ | refine qae ?_ | refine qab ?_ _)); refine blk_put (cs := #[.string (⟨#[]⟩ : ByteArray), .int .i64 0, .string (⟨#[]⟩ : ByteArray)]) ?_ 0 _ rfl; (with_reducible repeat (first | refine qac ?_ _ | refine qae ?_ | refine qab ?_ _)); exact BK192.out) Tryd.underlying26 rfl (by kernel_rfl)) rfl ?_
              exact ⟨by first | rfl | (simp [qam, qan] <;> rfl) | (simp [*, qam, qan] <;> rfl), by repeat (first | (with_reducible first | exact HB.out | apply qaf | apply qaa | apply qag | refine qad ?_ GE192.out) | exact HB.out)⟩
    · replace c5 := Bool.eq_false_iff.mpr c5
      subst c5
      have H1 : (some (t193, 0, (⟨#[]⟩ : ByteArray), 0)) = some (r1, r2, r3, r4) := by rw [if_neg (show ¬ (false = true) by decide)] at H; exact H
      clear H
      have H := H1
      clear H1
      simp only [Option.some.injEq, Prod.mk.injEq] at H
      obtain ⟨rfl, rfl, rfl, rfl⟩ := H
      go_enter Tryd.func18, Tryd.ntmps18
      go_wp2_with (first | ((with_reducible refine gate_dst (N := 2) rfl ?_); refine box_event ?hg (N := 2) ?hd (cs := #[.string (⟨#[]⟩ : ByteArray), .int .i64 0, .string (⟨#[]⟩ : ByteArray)]) (t := 26) ?hr ?_; (case hd => rfl); (case hg => rfl); (case hr => first | (go_simp; done) | (go_simp; rfl)); intro gb192 hg w25 hbox hb; have n0_ := Aside0.mk (qal (by repeat (first | (with_reducible first | exact HB.out | apply qaf | apply qaa | apply qag) | exact HB.out)) hb); have n1_ := Aside0.mk (hbox); have n2_ := Aside0.mk ((by rw [hg]; exact (qao (by repeat (first | (with_reducible first | exact HB.out | apply qaf | apply qaa | apply qag) | exact HB.out))) : w.heap.size ≤ gb192)); have n3_ := Aside0.mk ((by rw [hg]; exact (qao (by repeat (first | (with_reducible first | exact HB.out | apply qaf | apply qaa | apply qag) | exact HB.out))) : w.heap.size ≤ gb192)); clear HB; have HB := n0_; have BK192 := n1_; have GW192 := n2_; have GE192 := n3_; clear n0_ n1_ n2_ n3_; clear hb hbox hg) | ((with_reducible refine qak (f := 28) rfl ?_); refine goesL_ (some 16) rfl rfl Tryd.func28 (by kernel_rfl) rfl #[.string a0, .string (⟨#[32]⟩ : ByteArray)] rfl (by (try simp only [List.map_toArray, List.map_cons, List.map_nil]); first | done | rfl | (simp only [List.length_drop, List.length_take]; rfl)) ?_; (with_reducible refine (strings_Cut.calls a0 (⟨#[32]⟩ : ByteArray) t193 t194 false _ (by first | exact hG | exact GL.below hG (by repeat (first | (with_reducible first | exact HB.out | apply qaf | apply qaa | apply qag | refine qad ?_ GE192.out) | exact HB.out)))  A2.out).mono ?_); rintro e w' ⟨rfl, ⟨nd, rfl⟩⟩; refine ⟨_, rfl, ?_⟩; (try (rw [drewN_self w25]; generalize hq_ : World.drewN w25 _ = w25; have n0_ : Aside0 (w25.heap[gb192]? = some (.cells #[.string (⟨#[]⟩ : ByteArray), .int .i64 0, .string (⟨#[]⟩ : ByteArray)] 26 (0, 0))) := ⟨by rw [← hq_]; exact (by (with_reducible repeat (first | refine qac ?_ _ | refine qae ?_ | refine qab ?_ _)); exact BK192.out)⟩; have n1_ : Aside0 (Below w.heap.size w w25) := ⟨by rw [← hq_]; exact (by repeat (first | (with_reducible first | exact HB.out | apply qaf | apply qaa | apply qag | refine qad ?_ GE192.out) | exact HB.out))⟩; clear BK192 HB hq_; have BK192 := n0_; have HB := n1_; clear n0_ n1_))) | ((with_reducible refine qak (f := 14) rfl ?_); refine goesL_ (some 22) rfl rfl Tryd.func14 (by kernel_rfl) rfl #[.string t193] rfl (by (try simp only [List.map_toArray, List.map_cons, List.map_nil]); first | done | rfl | (simp only [List.length_drop, List.length_take]; rfl)) ?_; (with_reducible refine (relation_Name.calls k t193 true _ (by first | exact hG | exact GL.below hG (by repeat (first | (with_reducible first | exact HB.out | apply qaf | apply qaa | apply qag | refine qad ?_ GE192.out) | exact HB.out)))  A3.out).mono ?_); rintro e w26 ⟨rfl, hb⟩; refine ⟨_, rfl, ?_⟩; have n0_ := Aside0.mk (qaj (g := gb192) (o := .cells #[.string (⟨#[]⟩ : ByteArray), .int .i64 0, .string (⟨#[]⟩ : ByteArray)] 26 (0, 0)) (by (with_reducible repeat (first | refine qac ?_ _ | refine qae ?_ | refine qab ?_ _)); exact BK192.out) hb); have n1_ := Aside0.mk (qal (by repeat (first | (with_reducible first | exact HB.out | apply qaf | apply qaa | apply qag | refine qad ?_ GE192.out) | exact HB.out)) hb); clear BK192; clear HB; have BK192 := n0_; have HB := n1_; clear n0_ n1_; (try clear hb); (try clear hb2); (try clear hk); (try clear hi); have hcz27_0 : w26.cell? ⟨gb192, 0, none⟩ = some (.string (⟨#[]⟩ : ByteArray)) := (qai BK192.out 0).trans rfl; have hcz27_1 : w26.cell? ⟨gb192, 1, none⟩ = some (.int .i64 0) := (qai BK192.out 1).trans rfl; have hcz27_2 : w26.cell? ⟨gb192, 2, none⟩ = some (.string (⟨#[]⟩ : ByteArray)) := (qai BK192.out 2).trans rfl; have hfz27_0 := qah BK192.out 0; have hfz27_1 := qah BK192.out 1; have hfz27_2 := qah BK192.out 2))
      refine bodyPost_ret (results_ct rfl _ _ gb192 26 #[.string t193, .int .i64 0, .string (⟨#[]⟩ : ByteArray)] (0, 0) _ rfl (by (with_reducible repeat (first | refine qac ?_ _ | refine qae ?_ | refine qab ?_ _)); refine blk_put (cs := #[.string t193, .int .i64 0, .string (⟨#[]⟩ : ByteArray)]) ?_ 2 _ rfl; (with_reducible repeat (first | refine qac ?_ _ | refine qae ?_ | refine qab ?_ _)); refine blk_put (cs := #[.string t193, .int .i64 0, .string (⟨#[]⟩ : ByteArray)]) ?_ 1 _ rfl; (with_reducible repeat (first | refine qac ?_ _ | refine qae ?_ | refine qab ?_ _)); refine blk_put (cs := #[.string (⟨#[]⟩ : ByteArray), .int .i64 0, .string (⟨#[]⟩ : ByteArray)]) ?_ 0 _ rfl; (with_reducible repeat (first | refine qac ?_ _ | refine qae ?_ | refine qab ?_ _)); exact BK192.out) Tryd.underlying26 rfl (by kernel_rfl)) rfl ?_
      exact ⟨by first | rfl | (simp [qam, qan] <;> rfl) | (simp [*, qam, qan] <;> rfl), by repeat (first | (with_reducible first | exact HB.out | apply qaf | apply qaa | apply qag | refine qad ?_ GE192.out) | exact HB.out)⟩
  · replace c4 := Bool.eq_false_iff.mpr c4
    subst c4
    have H1 : (some ((⟨#[]⟩ : ByteArray), 0, (⟨#[]⟩ : ByteArray), 3)) = some (r1, r2, r3, r4) := by rw [if_neg (show ¬ (false = true) by decide)] at H; exact H
    clear H
    have H := H1
    clear H1
    simp only [Option.some.injEq, Prod.mk.injEq] at H
    obtain ⟨rfl, rfl, rfl, rfl⟩ := H
    go_enter Tryd.func18, Tryd.ntmps18
    go_wp2_with (first | ((with_reducible refine gate_dst (N := 2) rfl ?_); refine box_event ?hg (N := 2) ?hd (cs := #[.string (⟨#[]⟩ : ByteArray), .int .i64 0, .string (⟨#[]⟩ : ByteArray)]) (t := 26) ?hr ?_; (case hd => rfl); (case hg => rfl); (case hr => first | (go_simp; done) | (go_simp; rfl)); intro gb192 hg w28 hbox hb; have n0_ := Aside0.mk (qal (by repeat (first | (with_reducible first | exact HB.out | apply qaf | apply qaa | apply qag) | exact HB.out)) hb); have n1_ := Aside0.mk (hbox); have n2_ := Aside0.mk ((by rw [hg]; exact (qao (by repeat (first | (with_reducible first | exact HB.out | apply qaf | apply qaa | apply qag) | exact HB.out))) : w.heap.size ≤ gb192)); have n3_ := Aside0.mk ((by rw [hg]; exact (qao (by repeat (first | (with_reducible first | exact HB.out | apply qaf | apply qaa | apply qag) | exact HB.out))) : w.heap.size ≤ gb192)); clear HB; have HB := n0_; have BK192 := n1_; have GW192 := n2_; have GE192 := n3_; clear n0_ n1_ n2_ n3_; clear hb hbox hg) | ((with_reducible refine qak (f := 28) rfl ?_); refine goesL_ (some 16) rfl rfl Tryd.func28 (by kernel_rfl) rfl #[.string a0, .string (⟨#[32]⟩ : ByteArray)] rfl (by (try simp only [List.map_toArray, List.map_cons, List.map_nil]); first | done | rfl | (simp only [List.length_drop, List.length_take]; rfl)) ?_; (with_reducible refine (strings_Cut.calls a0 (⟨#[32]⟩ : ByteArray) t193 t194 t195 _ (by first | exact hG | exact GL.below hG (by repeat (first | (with_reducible first | exact HB.out | apply qaf | apply qaa | apply qag | refine qad ?_ GE192.out) | exact HB.out)))  A2.out).mono ?_); rintro e w' ⟨rfl, ⟨nd, rfl⟩⟩; refine ⟨_, rfl, ?_⟩; (try (rw [drewN_self w28]; generalize hq_ : World.drewN w28 _ = w28; have n0_ : Aside0 (w28.heap[gb192]? = some (.cells #[.string (⟨#[]⟩ : ByteArray), .int .i64 0, .string (⟨#[]⟩ : ByteArray)] 26 (0, 0))) := ⟨by rw [← hq_]; exact (by (with_reducible repeat (first | refine qac ?_ _ | refine qae ?_ | refine qab ?_ _)); exact BK192.out)⟩; have n1_ : Aside0 (Below w.heap.size w w28) := ⟨by rw [← hq_]; exact (by repeat (first | (with_reducible first | exact HB.out | apply qaf | apply qaa | apply qag | refine qad ?_ GE192.out) | exact HB.out))⟩; clear BK192 HB hq_; have BK192 := n0_; have HB := n1_; clear n0_ n1_))) | ((with_reducible refine qak (f := 14) rfl ?_); refine goesL_ (some 22) rfl rfl Tryd.func14 (by kernel_rfl) rfl #[.string t193] rfl (by (try simp only [List.map_toArray, List.map_cons, List.map_nil]); first | done | rfl | (simp only [List.length_drop, List.length_take]; rfl)) ?_; (with_reducible refine (relation_Name.calls k t193 false _ (by first | exact hG | exact GL.below hG (by repeat (first | (with_reducible first | exact HB.out | apply qaf | apply qaa | apply qag | refine qad ?_ GE192.out) | exact HB.out)))  A3.out).mono ?_); rintro e w29 ⟨rfl, hb⟩; refine ⟨_, rfl, ?_⟩; have n0_ := Aside0.mk (qaj (g := gb192) (o := .cells #[.string (⟨#[]⟩ : ByteArray), .int .i64 0, .string (⟨#[]⟩ : ByteArray)] 26 (0, 0)) (by (with_reducible repeat (first | refine qac ?_ _ | refine qae ?_ | refine qab ?_ _)); exact BK192.out) hb); have n1_ := Aside0.mk (qal (by repeat (first | (with_reducible first | exact HB.out | apply qaf | apply qaa | apply qag | refine qad ?_ GE192.out) | exact HB.out)) hb); clear BK192; clear HB; have BK192 := n0_; have HB := n1_; clear n0_ n1_; (try clear hb); (try clear hb2); (try clear hk); (try clear hi); have hcz30_0 : w29.cell? ⟨gb192, 0, none⟩ = some (.string (⟨#[]⟩ : ByteArray)) := (qai BK192.out 0).trans rfl; have hcz30_1 : w29.cell? ⟨gb192, 1, none⟩ = some (.int .i64 0) := (qai BK192.out 1).trans rfl; have hcz30_2 : w29.cell? ⟨gb192, 2, none⟩ = some (.string (⟨#[]⟩ : ByteArray)) := (qai BK192.out 2).trans rfl; have hfz30_0 := qah BK192.out 0; have hfz30_1 := qah BK192.out 1; have hfz30_2 := qah BK192.out 2))
    refine bodyPost_ret (results_ct rfl _ _ gb192 26 #[.string (⟨#[]⟩ : ByteArray), .int .i64 0, .string (⟨#[]⟩ : ByteArray)] (0, 0) _ rfl (by (with_reducible repeat (first | refine qac ?_ _ | refine qae ?_ | refine qab ?_ _)); refine blk_put (cs := #[.string (⟨#[]⟩ : ByteArray), .int .i64 0, .string (⟨#[]⟩ : ByteArray)]) ?_ 2 _ rfl; (with_reducible repeat (first | refine qac ?_ _ | refine qae ?_ | refine qab ?_ _)); refine blk_put (cs := #[.string (⟨#[]⟩ : ByteArray), .int .i64 0, .string (⟨#[]⟩ : ByteArray)]) ?_ 1 _ rfl; (with_reducible repeat (first | refine qac ?_ _ | refine qae ?_ | refine qab ?_ _)); refine blk_put (cs := #[.string (⟨#[]⟩ : ByteArray), .int .i64 0, .string (⟨#[]⟩ : ByteArray)]) ?_ 0 _ rfl; (with_reducible repeat (first | refine qac ?_ _ | refine qae ?_ | refine qab ?_ _)); exact BK192.out) Tryd.underlying26 rfl (by kernel_rfl)) rfl ?_
    exact ⟨by first | rfl | (simp [qam, qan] <;> rfl) | (simp [*, qam, qan] <;> rfl), by repeat (first | (with_reducible first | exact HB.out | apply qaf | apply qaa | apply qag | refine qad ?_ GE192.out) | exact HB.out)⟩
end Go.Proofs.YtohijjobmmibcaaDoor.PA
