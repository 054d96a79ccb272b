
import Derived.Test.YtjbbgekkombpnaaGreatDoorPAx0
import Derived.Test.YtjbbgekkombpnaaGreatDoorPAx6
import Derived.Test.YtjbbgekkombpnaaGreatDoorPAx7
import Derived.Test.YtjbbgekkombpnaaGreatDoorPAx8
import Derived.Test.YtjbbgekkombpnaaGreatDoorPAx10
noncomputable section
namespace Go.Proofs.YtjbbgekkombpnaaGreatDoor.PA
open Go.RowKit Go.Proofs.YtjbbgekkombpnaaGreatDoorW.PrintWords Go.Proofs.YtjbbgekkombpnaaGreatDoorW.PrintLast Go.Proofs.YtjbbgekkombpnaaGreatDoorW.PrintMore
attribute [local go_sem] max2_int min2_int max_two min_two max_three min_three max_four min_four
set_option maxHeartbeats 8000000
set_option maxRecDepth 100000
set_option linter.unusedVariables false
set_option linter.unusedSimpArgs false
section
def idxA (p : S39 → Option Bool) : List S39 → Nat → Option Int
 | [],_ => some (-1)
 | x :: r,i => (p x).bind fun t => if t = true then some (i : Int) else idxA p r (i + 1)
def anyA (p : S39 → Option Bool) : List S39 → Option Bool
 | [] => some false
 | x :: r => (p x).bind fun t => if t = true then some true else anyA p r
theorem anyA_mono {p q : S39 → Option Bool} (h : ∀ x,LeO (p x) (q x)) : ∀ l,LeO (anyA p l) (anyA q l)
 | [] => LeO.refl _
 | x :: r => LeO.bind (h x) (fun _ => LeO.ite (LeO.refl _) (anyA_mono h r))
theorem idxA_of_any {p : S39 → Option Bool} : ∀ (l : List S39) (i : Nat) (t : Bool),anyA p l = some t → ∃ r,idxA p l i = some r ∧ decide (r ≥ 0) = t
 | [],i,t,h => by
  obtain rfl : false = t := by simpa [anyA] using h
  exact ⟨-1,rfl,rfl⟩
 | x :: r,i,t,h => by
  obtain ⟨u,hu,h⟩ := Option.bind_eq_some_iff.1 (show (p x).bind _ = some t from h)
  cases u with
  | true =>
   obtain rfl : true = t := by simpa using h
   exact ⟨i,by simp [idxA,hu],by simp⟩
  | false =>
   obtain ⟨r',h1,h2⟩ := idxA_of_any r (i + 1) t (by simpa using h)
   exact ⟨r',by simp [idxA,hu,h1],h2⟩
def atomProv (k : Nat) (a b : S39) : Option Bool := relation_Provides.f k a.f0 a.f1 a.f2 b.f0 b.f1 b.f2
def groupMet (k : Nat) (have_ : List S39) (g : List S39) : Option Bool := if g.length < 1000000000000 then anyA (fun a => anyA (atomProv k a) have_) g else none
def openF (k : Nat) (have_ : List S39) : List (List S39) → Int → List Int → Option (List Int)
 | [],_,out => some out
 | g :: r,i,out => (groupMet k have_ g).bind fun t => if t = true then openF k have_ r (i + 1) out else openF k have_ r (i + 1) (out ++ [i])
def depends_Open.f (k : Nat) (l0 : List (List S39)) (l1 : List S39) : Option (List Int) := if l0.length < 1000000000000 ∧ l1.length < 1000000000000 then openF k l1 l0 0 [] else none
theorem atomProv_mono (k : Nat) (a b : S39) : LeO (atomProv k a b) (atomProv (k + 1) a b) := relation_Provides.mono _ _ _ _ _ _ _
theorem groupMet_mono (k : Nat) (hv : List S39) (l : List S39) : LeO (groupMet k hv l) (groupMet (k + 1) hv l) :=
 LeO.ite (anyA_mono (fun a => anyA_mono (fun b => atomProv_mono k a b) hv) l) (LeO.refl _)
theorem openF_mono (k : Nat) (hv : List S39) : ∀ l i out,LeO (openF k hv l i out) (openF (k + 1) hv l i out)
 | [],_,_ => LeO.refl _
 | g :: r,_,_ => LeO.bind (groupMet_mono k hv g) (fun _ => LeO.ite (openF_mono k hv r _ _) (openF_mono k hv r _ _))
theorem depends_Open.mono : ∀ k l0 l1,LeO (depends_Open.f k l0 l1) (depends_Open.f (k + 1) l0 l1) := fun k l0 l1 => LeO.ite (openF_mono k l1 l0 0 []) (LeO.refl _)
def PredO (p : S39 → Option Bool) (g : Nat) (lb : Array Value) (w : World) : Prop :=
 ∀ (W : World) (x : S39) (t : Bool),Below w.heap.size w W → p x = some t → Calls Tryz.prog g (#[.agg #[.string x.f0,.int .i64 x.f1,.string x.f2]] ++ lb) W fun e w' => e = .returned (.bool t) ∧ Below w.heap.size w w'
theorem indexRow (p : S39 → Option Bool) (g : Nat) (lb : Array Value) (eg : ∀ args w,(callFunc g args).run Tryz.prog w = .ok (.enter g args) w) (w : World) (hp : PredO p g lb w)
  (A0 : Option Addr) (c0 : Nat) (l0 : List S39) (hr0 : Kd.C k39 w A0 l0.length l0) (hl : l0.length < 1000000000000) (r : Int) (h : idxA p l0 0 = some r) :
  Calls Tryz.prog 72 #[.slice A0 l0.length c0,.func (.func g) #[] lb] w fun e w' => e = .returned (.int .i64 r) ∧ Below w.heap.size w w' := by
 have HR0 := Aside0.mk hr0
 have HL := Aside0.mk hl
 have HH := Aside0.mk h
 have HP := Aside0.mk hp
 clear hr0 hl h hp
 go_enter Tryz.func72,Tryz.ntmps72
 go_wp2
 go_loopg [5,8] l0.length (fun gg v5 v8 wr => ∃ i : Nat,i ≤ l0.length ∧ l0.length - i ≤ gg ∧ v8 = .int .i64 (i : Int) ∧ Aside0 (idxA p (l0.drop i) i = some r) ∧ Aside0 (Below w.heap.size w wr))
 case atStart => exact ⟨0,Nat.zero_le _,by omega,rfl,HH,⟨Below.refl _ _⟩⟩
 case round =>
  clear HH
  obtain ⟨i,hi,hg,rfl,HA,HB⟩ := hrel
  by_cases hlt : i < l0.length
  ·have b2 : decide ((i : Int) < (l0.length : Int)) = true := decide_eq_true (by omega)
   have p0 : (0 : Int) ≤ (i : Int) := by omega
   have p1 : (i : Int) < (l0.length : Int) := by omega
   obtain ⟨ad,rfl,hx0,hx1,hx2⟩ := at_T39 HR0.out (i : Int) p0 p1
   obtain ⟨x,hx,hrest⟩ : ∃ x,rd_T39 l0 (i : Int) = x ∧ l0.drop i = x :: l0.drop (i + 1) := ⟨_,rfl,by
    rw [List.drop_eq_getElem_cons hlt]
    congr 1
    rw [rd_T39,Int.toNat_natCast,List.getD_eq_getElem?_getD,List.getElem?_eq_getElem hlt]
    rfl⟩
   rw [hx,Int.toNat_natCast] at hx0 hx1 hx2
   replace hx0 := (HB.out.cell (World.block_lt_of_cell? _ _ hx0)).trans hx0
   replace hx1 := (HB.out.cell (World.block_lt_of_cell? _ _ hx1)).trans hx1
   replace hx2 := (HB.out.cell (World.block_lt_of_cell? _ _ hx2)).trans hx2
   have hA := HA.out
   rw [hrest] at hA
   obtain ⟨t,ht,hA⟩ := Option.bind_eq_some_iff.1 (show (p x).bind (fun t => if t = true then some (i : Int) else idxA p (l0.drop (i + 1)) (i + 1)) = some r from hA)
   have hcall := HP.out wr x t HB.out ht
   have bw : wrap64 ((i : Int) + 1) = ((i + 1 : Nat) : Int) := by have := HL.out;unfold wrap64;omega
   have HI := Aside0.mk hi
   have HG := Aside0.mk hg
   have HLT := Aside0.mk hlt
   have HT := Aside0.mk hA
   clear hA hrest hx ht hi hg hlt HA HP HL
   cases t with
   | true =>
    go_wp2_with (go_at_fn g;refine hcall.mono ?_;rintro e w' ⟨rfl,hb'⟩)
    go_ret
    have hr := HT.out
    rw [if_pos trivial] at hr
    obtain rfl := Option.some.inj hr
    exact ⟨rfl,hb'⟩
   | false =>
    go_wp2_with (go_at_fn g;refine hcall.mono ?_;rintro e w' ⟨rfl,hb'⟩)
    go_roundg (l0.length - (i + 1))
    case measure => have := HG.out;have := HLT.out;omega
    case rel => exact ⟨i + 1,HLT.out,Nat.le_refl _,by rw [bw],⟨by have hr := HT.out;rw [if_neg (by decide)] at hr;exact hr⟩,⟨hb'⟩⟩
  ·have b2 : decide ((i : Int) < (l0.length : Int)) = false := decide_eq_false (by omega)
   have hA := HA.out
   rw [List.drop_of_length_le (by omega)] at hA
   obtain rfl : (-1 : Int) = r := by simpa [idxA] using hA
   go_wp2
   go_ret
   exact ⟨rfl,HB.out⟩
theorem containsRow (p : S39 → Option Bool) (g : Nat) (lb : Array Value) (eg : ∀ args w,(callFunc g args).run Tryz.prog w = .ok (.enter g args) w) (w : World) (hp : PredO p g lb w)
  (A0 : Option Addr) (c0 : Nat) (l0 : List S39) (hr0 : Kd.C k39 w A0 l0.length l0) (hl : l0.length < 1000000000000) (t : Bool) (h : anyA p l0 = some t) :
  Calls Tryz.prog 46 #[.slice A0 l0.length c0,.func (.func g) #[] lb] w fun e w' => e = .returned (.bool t) ∧ Below w.heap.size w w' := by
 obtain ⟨r,hr,rfl⟩ := idxA_of_any l0 0 t h
 clear h
 have HI := Aside0.mk (indexRow p g lb eg w hp A0 c0 l0 hr0 hl r hr)
 clear hr0 hl hr hp
 go_enter Tryz.func46,Tryz.ntmps46
 go_wp2_with (go_at_call 72;refine HI.out.mono ?_;rintro e w' ⟨rfl,hb'⟩)
 go_ret
 exact ⟨rfl,hb'⟩
theorem indexGroup (p : S39 → Option Bool) (g : Nat) (lb : Array Value) (eg : ∀ args w,(callFunc g args).run Tryz.prog w = .ok (.enter g args) w) (w : World) (hp : PredO p g lb w)
  (A0 : Option Addr) (c0 : Nat) (l0 : List S39) (hr0 : Kd.C k39 w A0 l0.length l0) (hl : l0.length < 1000000000000) (r : Int) (h : idxA p l0 0 = some r) :
  Calls Tryz.prog 64 #[.slice A0 l0.length c0,.func (.func g) #[] lb] w fun e w' => e = .returned (.int .i64 r) ∧ Below w.heap.size w w' := by
 have HR0 := Aside0.mk hr0
 have HL := Aside0.mk hl
 have HH := Aside0.mk h
 have HP := Aside0.mk hp
 clear hr0 hl h hp
 go_enter Tryz.func64,Tryz.ntmps64
 go_wp2
 go_loopg [5,8] l0.length (fun gg v5 v8 wr => ∃ i : Nat,i ≤ l0.length ∧ l0.length - i ≤ gg ∧ v8 = .int .i64 (i : Int) ∧ Aside0 (idxA p (l0.drop i) i = some r) ∧ Aside0 (Below w.heap.size w wr))
 case atStart => exact ⟨0,Nat.zero_le _,by omega,rfl,HH,⟨Below.refl _ _⟩⟩
 case round =>
  clear HH
  obtain ⟨i,hi,hg,rfl,HA,HB⟩ := hrel
  by_cases hlt : i < l0.length
  ·have b2 : decide ((i : Int) < (l0.length : Int)) = true := decide_eq_true (by omega)
   have p0 : (0 : Int) ≤ (i : Int) := by omega
   have p1 : (i : Int) < (l0.length : Int) := by omega
   obtain ⟨ad,rfl,hx0,hx1,hx2⟩ := at_T39 HR0.out (i : Int) p0 p1
   obtain ⟨x,hx,hrest⟩ : ∃ x,rd_T39 l0 (i : Int) = x ∧ l0.drop i = x :: l0.drop (i + 1) := ⟨_,rfl,by
    rw [List.drop_eq_getElem_cons hlt]
    congr 1
    rw [rd_T39,Int.toNat_natCast,List.getD_eq_getElem?_getD,List.getElem?_eq_getElem hlt]
    rfl⟩
   rw [hx,Int.toNat_natCast] at hx0 hx1 hx2
   replace hx0 := (HB.out.cell (World.block_lt_of_cell? _ _ hx0)).trans hx0
   replace hx1 := (HB.out.cell (World.block_lt_of_cell? _ _ hx1)).trans hx1
   replace hx2 := (HB.out.cell (World.block_lt_of_cell? _ _ hx2)).trans hx2
   have hA := HA.out
   rw [hrest] at hA
   obtain ⟨t,ht,hA⟩ := Option.bind_eq_some_iff.1 (show (p x).bind (fun t => if t = true then some (i : Int) else idxA p (l0.drop (i + 1)) (i + 1)) = some r from hA)
   have hcall := HP.out wr x t HB.out ht
   have bw : wrap64 ((i : Int) + 1) = ((i + 1 : Nat) : Int) := by have := HL.out;unfold wrap64;omega
   have HI := Aside0.mk hi
   have HG := Aside0.mk hg
   have HLT := Aside0.mk hlt
   have HT := Aside0.mk hA
   clear hA hrest hx ht hi hg hlt HA HP HL
   cases t with
   | true =>
    go_wp2_with (go_at_fn g;refine hcall.mono ?_;rintro e w' ⟨rfl,hb'⟩)
    go_ret
    have hr := HT.out
    rw [if_pos trivial] at hr
    obtain rfl := Option.some.inj hr
    exact ⟨rfl,hb'⟩
   | false =>
    go_wp2_with (go_at_fn g;refine hcall.mono ?_;rintro e w' ⟨rfl,hb'⟩)
    go_roundg (l0.length - (i + 1))
    case measure => have := HG.out;have := HLT.out;omega
    case rel => exact ⟨i + 1,HLT.out,Nat.le_refl _,by rw [bw],⟨by have hr := HT.out;rw [if_neg (by decide)] at hr;exact hr⟩,⟨hb'⟩⟩
  ·have b2 : decide ((i : Int) < (l0.length : Int)) = false := decide_eq_false (by omega)
   have hA := HA.out
   rw [List.drop_of_length_le (by omega)] at hA
   obtain rfl : (-1 : Int) = r := by simpa [idxA] using hA
   go_wp2
   go_ret
   exact ⟨rfl,HB.out⟩
theorem containsGroup (p : S39 → Option Bool) (g : Nat) (lb : Array Value) (eg : ∀ args w,(callFunc g args).run Tryz.prog w = .ok (.enter g args) w) (w : World) (hp : PredO p g lb w)
  (A0 : Option Addr) (c0 : Nat) (l0 : List S39) (hr0 : Kd.C k39 w A0 l0.length l0) (hl : l0.length < 1000000000000) (t : Bool) (h : anyA p l0 = some t) :
  Calls Tryz.prog 37 #[.slice A0 l0.length c0,.func (.func g) #[] lb] w fun e w' => e = .returned (.bool t) ∧ Below w.heap.size w w' := by
 obtain ⟨r,hr,rfl⟩ := idxA_of_any l0 0 t h
 clear h
 have HI := Aside0.mk (indexGroup p g lb eg w hp A0 c0 l0 hr0 hl r hr)
 clear hr0 hl hr hp
 go_enter Tryz.func37,Tryz.ntmps37
 go_wp2_with (go_at_call 64;refine HI.out.mono ?_;rintro e w' ⟨rfl,hb'⟩)
 go_ret
 exact ⟨rfl,hb'⟩
theorem open11 (k : Nat) (a : S39) (B : Nat) (w : World) (hG : GL w) (h0 : w.cell? ⟨B,0,none⟩ = some (.string a.f0)) (h1 : w.cell? ⟨B,1,none⟩ = some (.int .i64 a.f1)) (h2 : w.cell? ⟨B,2,none⟩ = some (.string a.f2)) :
  PredO (atomProv k a) 47 #[.pointer (some ⟨B,0,none⟩)] w := by
 intro W x t hb ht
 have g0 := (hb.cell (World.block_lt_of_cell? _ _ h0)).trans h0
 have g1 := (hb.cell (World.block_lt_of_cell? _ _ h1)).trans h1
 have g2 := (hb.cell (World.block_lt_of_cell? _ _ h2)).trans h2
 have hBW : B < W.heap.size := World.block_lt_of_cell? _ _ g0
 have hne : B ≠ W.heap.size := by omega
 have HB := Aside0.mk hb
 have HT := Aside0.mk ht
 have HGW := Aside0.mk (hG.below hb)
 clear hb ht h0 h1 h2
 show Calls Tryz.prog 47 #[.agg #[.string x.f0,.int .i64 x.f1,.string x.f2],.pointer (some ⟨B,0,none⟩)] W _
 go_enter Tryz.func47,Tryz.ntmps47
 go_wp2_with (go_at_call 48;refine (relation_Provides.calls k a.f0 a.f1 a.f2 x.f0 x.f1 x.f2 t _ (HGW.out.below ((Below.refl _ W).alloc (Nat.le_refl _) _)) HT.out).mono ?_;rintro e w' ⟨rfl,hb'⟩)
 go_ret
 exact ⟨rfl,(HB.out.alloc HB.out.size _).trans (hb'.mono (by have := HB.out.size;simp;omega))⟩
theorem open1 (k : Nat) (hv : List S39) (A1 : Option Addr) (c1 : Nat) (D : Nat) (w : World) (hG : GL w) (hD : w.cell? ⟨D,0,none⟩ = some (.slice A1 hv.length c1)) (hC : Kd.C k39 w A1 hv.length hv) (hl : hv.length < 1000000000000) :
  PredO (fun a => anyA (atomProv k a) hv) 45 #[.pointer (some ⟨D,0,none⟩)] w := by
 intro W a t hb ht
 have gD := (hb.cell (World.block_lt_of_cell? _ _ hD)).trans hD
 have hDW : D < W.heap.size := World.block_lt_of_cell? _ _ gD
 have hne : D ≠ W.heap.size := by omega
 obtain ⟨W1,hW1⟩ : ∃ W1,W.alloc (.cells #[.string a.f0,.int .i64 a.f1,.string a.f2] 39) = W1 := ⟨_,rfl⟩
 have hb1 : Below W.heap.size W W1 := by rw [← hW1];exact (Below.refl _ W).alloc (Nat.le_refl _) _
 have hnew : W1.heap[W.heap.size]? = some (.cells #[.string a.f0,.int .i64 a.f1,.string a.f2] 39 (0,0)) := by rw [← hW1];exact World.alloc_heap_new W _
 have hcall := containsRow (atomProv k a) 47 #[.pointer (some ⟨W.heap.size,0,none⟩)] (enters_of Tryz.func47 (by kernel_rfl) rfl) W1
  (open11 k a W.heap.size W1 ((hG.below hb).below hb1) (by simp [World.cell?,hnew]) (by simp [World.cell?,hnew]) (by simp [World.cell?,hnew]))
  A1 c1 hv (Kd.C_below (Kd.C_below hC hb) hb1) hl t ht
 rw [← hW1] at hcall hb1
 have HB := Aside0.mk hb
 have HB1 := Aside0.mk hb1
 have HC := Aside0.mk hcall
 clear hb ht hD hC hcall hnew hW1 hb1
 show Calls Tryz.prog 45 #[.agg #[.string a.f0,.int .i64 a.f1,.string a.f2],.pointer (some ⟨D,0,none⟩)] W _
 go_enter Tryz.func45,Tryz.ntmps45
 go_wp2_with (go_at_call 46;refine HC.out.mono ?_;rintro e w' ⟨rfl,hb'⟩)
 go_ret
 exact ⟨rfl,HB.out.trans ((HB1.out.trans (hb'.mono HB1.out.size)).mono HB.out.size)⟩
theorem depends_Open.calls (k : Nat) (A0 : Option Addr) (c0 : Nat) (l0 : List (List (S39))) (A1 : Option Addr) (c1 : Nat) (l1 : List (S39)) (r : List Int) (w : World) (hG : GL w) (hr0 : Kd.C (Kd.slice 39 k39) w A0 l0.length l0) (hc0 : l0.length ≤ c0) (hr1 : Kd.C k39 w A1 l1.length l1) (hc1 : l1.length ≤ c1) (h : depends_Open.f k l0 l1 = some r) :
  Calls Tryz.prog 22 #[.slice A0 l0.length c0,.slice A1 l1.length c1] w fun e w' => ∃ v0_ : Value,e = .returned (v0_) ∧ Kd.R (Kd.int .i64) 3 w' w.heap.size (fun _ => True) v0_ r ∧ Below w.heap.size w w' := by
 unfold depends_Open.f at h
 split at h
 case isFalse => cases h
 case isTrue hlen =>
 obtain ⟨hl0,hl1⟩ := hlen
 obtain ⟨wb,hwb⟩ : ∃ wb,w.alloc (.cells #[.slice A1 l1.length c1] 27) = wb := ⟨_,rfl⟩
 have hbb : Below w.heap.size w wb := by rw [← hwb];exact (Below.refl _ w).alloc (Nat.le_refl _) _
 have hszb : wb.heap.size = w.heap.size + 1 := by rw [← hwb];simp
 have hD : wb.cell? ⟨w.heap.size,0,none⟩ = some (.slice A1 l1.length c1) := by
  have : wb.heap[w.heap.size]? = some (.cells #[.slice A1 l1.length c1] 27 (0,0)) := by rw [← hwb];exact World.alloc_heap_new w _
  simp [World.cell?,this]
 have HC0 := Aside0.mk (Kd.C_below hr0 hbb)
 have HC1 := Aside0.mk (Kd.C_below hr1 hbb)
 have HD := Aside0.mk hD
 have HBB := Aside0.mk hbb
 have HSZ := Aside0.mk hszb
 have HH := Aside0.mk h
 have HL0 := Aside0.mk hl0
 have HL1 := Aside0.mk hl1
 have HGB := Aside0.mk (hG.below hbb)
 have HW := Aside0.mk hwb
 clear hr0 hr1 hc0 hc1 h hD hbb hszb hl0 hl1 hwb
 go_enter Tryz.func22,Tryz.ntmps22
 go_wp2
 rw [HW.out]
 go_loopg [5,11] l0.length (fun gg v5 v11 wr => ∃ (i : Nat) (out : List Int),i ≤ l0.length ∧ l0.length - i ≤ gg ∧ v11 = .int .i64 (i : Int) ∧ Aside0 (out.length ≤ i) ∧ Aside0 (openF k l1 (l0.drop i) (i : Int) out = some r) ∧ Aside0 (Kd.R (Kd.int .i64) 3 wr wb.heap.size (fun _ => True) v5 out) ∧ Aside0 (Below wb.heap.size wb wr))
 case atStart => exact ⟨0,[],Nat.zero_le _,by omega,rfl,⟨Nat.le_refl _⟩,HH,⟨Kd.R_nil _ _ _ _ _⟩,⟨Below.refl _ _⟩⟩
 case round =>
  clear HH
  obtain ⟨i,out,hi,hg,rfl,HO,HA,HR,HBW⟩ := hrel
  by_cases hlt : i < l0.length
  ·have b2 : decide ((i : Int) < (l0.length : Int)) = true := decide_eq_true (by omega)
   obtain ⟨ad,cx,rfl,_,hK,hcx⟩ := Kd.C_get HC0.out ([] : List S39) (i : Int) (by omega) (by omega)
   obtain ⟨Ag,cg,rfl,lg,g0⟩ := hK
   have hx := hcx 0 _ rfl
   rw [show (i : Int).toNat * (Kd.slice 39 k39).sz + 0 = i by simp [Kd.slice]] at hx
   have hx1 := (HBW.out.cell (World.block_lt_of_cell? _ _ hx)).trans hx
   obtain ⟨g,hgl,hrest⟩ : ∃ g,l0.getD (i : Int).toNat ([] : List S39) = g ∧ l0.drop i = g :: l0.drop (i + 1) := ⟨_,rfl,by
    rw [List.drop_eq_getElem_cons hlt]
    congr 1
    rw [Int.toNat_natCast,List.getD_eq_getElem?_getD,List.getElem?_eq_getElem hlt]
    rfl⟩
   rw [hgl] at hx1 g0
   have hA := HA.out
   rw [hrest] at hA
   obtain ⟨t,ht,hA⟩ := Option.bind_eq_some_iff.1 (show (groupMet k l1 g).bind (fun t => if t = true then openF k l1 (l0.drop (i + 1)) ((i : Int) + 1) out else openF k l1 (l0.drop (i + 1)) ((i : Int) + 1) (out ++ [(i : Int)])) = some r from hA)
   unfold groupMet at ht
   split at ht
   case isFalse => cases ht
   case isTrue hgl2 =>
   have p0 : (0 : Int) ≤ (i : Int) := by omega
   have p1 : (i : Int) < (l0.length : Int) := by omega
   have ic : (i : Int) + 1 = ((i + 1 : Nat) : Int) := by omega
   have bw : wrap64 ((i : Int) + 1) = ((i + 1 : Nat) : Int) := by have := HL0.out;unfold wrap64;omega
   rw [ic] at hA
   have hcall := containsGroup (fun a => anyA (atomProv k a) l1) 45 #[.pointer (some ⟨w.heap.size,0,none⟩)] (enters_of Tryz.func45 (by kernel_rfl) rfl) wr
    (open1 k l1 A1 c1 w.heap.size wr (HGB.out.below HBW.out) ((HBW.out.cell (World.block_lt_of_cell? _ _ HD.out)).trans HD.out) (Kd.C_below HC1.out HBW.out) HL1.out) Ag cg g (Kd.C_below g0 HBW.out) hgl2 t ht
   have HCALL := Aside0.mk hcall
   have HT := Aside0.mk hA
   have HLT := Aside0.mk hlt
   have HI := Aside0.mk hi
   have HGG := Aside0.mk hg
   clear hgl hrest hx hcx lg g0 hlt hi hg hcall hA ht hgl2 HA ic
   obtain ⟨Ao,co,hv⟩ := Kd.R_slice HR.out
   subst hv
   cases t with
   | true =>
    go_wp2_with (go_at_call 37;refine HCALL.out.mono ?_;rintro e w' ⟨rfl,hb'⟩;have HB' := Aside0.mk hb';clear hb' HCALL)
    go_roundg (l0.length - (i + 1))
    case measure => have := HGG.out;have := HLT.out;omega
    case rel => exact ⟨i + 1,out,HLT.out,Nat.le_refl _,by rw [bw],⟨Nat.le_succ_of_le HO.out⟩,⟨by have hr := HT.out;rw [if_pos trivial] at hr;exact hr⟩,⟨Kd.R_below HR.out HB'.out⟩,⟨HBW.out.trans (HB'.out.mono HBW.out.size)⟩⟩
   | false =>
    go_wp2_with (first|(go_at_call 37;refine HCALL.out.mono ?_;rintro e w' ⟨rfl,hb'⟩;have HB' := Aside0.mk hb';clear hb' HCALL;have HR2 := Aside0.mk (Kd.R_below HR.out HB'.out);have HB2 := Aside0.mk (HBW.out.trans (HB'.out.mono HBW.out.size)))|(at_builtin;refine Dep.R_append_one (Kd.int .i64) (W := w'.alloc (.cells #[.int .i64 (i : Int)] 3)) (w0 := wb) wb.heap.size rfl _ _ 42 42 3 3 (.int .i64 0) 8 rfl Tryz.underlying42 Tryz.underlying42 info3 rfl (by decide) (by decide) (.slice Ao out.length co) out (i : Int) [.int .i64 (i : Int)] (fun _ => True) (fun _ => False) ⟨w'.heap.size,0,none⟩ 1 rfl rfl (cell_one_new _ _ _) rfl (fun _ hq => hq.elim) (fun _ _ => trivial) (Kd.R_below HR2.out ((Below.refl _ w').alloc (Nat.le_refl _) _)) (HB2.out.alloc HB2.out.size _) (Nat.le_trans HB2.out.size (by simp)) (by have := HO.out;have := HL0.out;have := HLT.out;omega) ?_;intro v1 wz hR1 hB1 hg1 hat1;have HR1 := Aside0.mk hR1;have HB1 := Aside0.mk hB1;clear hR1 hB1 hg1 hat1))
    go_roundg (l0.length - (i + 1))
    case measure => have := HGG.out;have := HLT.out;omega
    case rel => exact ⟨i + 1,out ++ [(i : Int)],HLT.out,Nat.le_refl _,by rw [bw],⟨by have := HO.out;simp;omega⟩,⟨by have hr := HT.out;rw [if_neg (by decide)] at hr;exact hr⟩,HR1,HB1⟩
  ·have b2 : decide ((i : Int) < (l0.length : Int)) = false := decide_eq_false (by omega)
   have hA := HA.out
   rw [List.drop_of_length_le (by omega)] at hA
   obtain rfl : out = r := by simpa [openF] using hA
   obtain ⟨Ao,co,hv⟩ := Kd.R_slice HR.out
   subst hv
   go_wp2
   go_ret
   exact ⟨_,rfl,Kd.R_lower HR.out (by have := HSZ.out;omega),HBB.out.trans (HBW.out.mono (by have := HSZ.out;omega))⟩
end
def keelsonlaw4_sameInts.l0 : Nat → List Int → List Int → Int → Option (Bool)
 | 0,_,_,_ => none
 | k + 1,x0,x1,x5 => if x5 < (x0.length : Int) then (if 0 ≤ x5 then (if x5 < (x1.length : Int) then (if (rd x0 x5) = (rd x1 x5) then (keelsonlaw4_sameInts.l0 k x0 x1 (wrap64 (x5 + 1))) else (some false)) else (none)) else (none)) else (some true)
def keelsonlaw4_sameInts.f (k : Nat) (l0 : List Int) (l1 : List Int) : Option (Bool) := if (l0.length : Int) = (l1.length : Int) then (keelsonlaw4_sameInts.l0 k l0 l1 0) else (some false)
theorem keelsonlaw4_sameInts.mono_l : ∀ k,(∀ y0 y1 y2,LeO (keelsonlaw4_sameInts.l0 k y0 y1 y2) (keelsonlaw4_sameInts.l0 (k + 1) y0 y1 y2))
 | 0 => fun _ _ _ r h => by simp [keelsonlaw4_sameInts.l0] at h
 | k + 1 => by
  have ih0 := keelsonlaw4_sameInts.mono_l k
  ·intro y0 y1 y2
   unfold keelsonlaw4_sameInts.l0
   repeat' first
   | (with_reducible exact ih0 _ _ _)
   | (with_reducible exact LeO.refl _)
   | (with_reducible exact LeO.none _)
   | (with_reducible refine LeO.ite ?_ ?_)
   | (with_reducible refine LeO.bind ?_ (fun _ => ?_))
   | exact ih0 _ _ _
   | exact LeO.none _
   | refine LeO.ite ?_ ?_
   | refine LeO.bind ?_ (fun _ => ?_)
theorem keelsonlaw4_sameInts.mono : ∀ a0 a1 k,LeO (keelsonlaw4_sameInts.f k a0 a1) (keelsonlaw4_sameInts.f (k + 1) a0 a1) := by
 intro a0 a1 k
 have ih0 := keelsonlaw4_sameInts.mono_l k
 unfold keelsonlaw4_sameInts.f
 repeat' first
   | (with_reducible exact ih0 _ _ _)
   | (with_reducible exact LeO.refl _)
   | (with_reducible exact LeO.none _)
   | (with_reducible refine LeO.ite ?_ ?_)
   | (with_reducible refine LeO.bind ?_ (fun _ => ?_))
   | exact ih0 _ _ _
   | exact LeO.none _
   | refine LeO.ite ?_ ?_
   | refine LeO.bind ?_ (fun _ => ?_)
theorem keelsonlaw4_sameInts.calls (k : Nat) (A0 : Option Addr) (c0 : Nat) (l0 : List Int) (A1 : Option Addr) (c1 : Nat) (l1 : List Int) (r : Bool) (w : World) (hG : GL w) (hr0 : Kd.C (Kd.int .i64) w A0 l0.length l0) (hc0 : l0.length ≤ c0) (hr1 : Kd.C (Kd.int .i64) w A1 l1.length l1) (hc1 : l1.length ≤ c1) (h : keelsonlaw4_sameInts.f k l0 l1 = some r) :
  Calls Tryz.prog 23 #[.slice A0 l0.length c0,.slice A1 l1.length c1] w fun e w' => e = .returned (.bool r) ∧ Drawn0 w w' := by
 have HR0 := Aside0.mk hr0
 have HC0 := Aside0.mk hc0
 clear hr0 hc0
 have HR1 := Aside0.mk hr1
 have HC1 := Aside0.mk hc1
 clear hr1 hc1
 have H : (if (l0.length : Int) = (l1.length : Int) then (keelsonlaw4_sameInts.l0 k l0 l1 0) else (some false)) = some r := h
 clear h
 by_cases c3 : (l0.length : Int) = (l1.length : Int)
 ·rw [if_pos c3] at H
  have c3b0 : ((l0.length : Int) == (l1.length : Int)) = true := beq_iff_eq.mpr c3
  have c3b1 : ((l0.length : Int) != (l1.length : Int)) = false := bne_eq_false_iff_eq.mpr c3
  have c3b2 : (l0.length == l1.length) = true := by first|simpa using c3|(simp at c3 ⊢;omega)
  clear c3
  have H' := Aside0.mk H
  clear H
  go_enter Tryz.func23,Tryz.ntmps23
  go_wp2
  repeat (go_quiet (fail);try go_wp2)
  go_loopg [5] k (fun kq v5 w' => ∃ (x5_1 : Int),v5 = .int .i64 x5_1 ∧ Aside0 (keelsonlaw4_sameInts.l0 kq l0 l1 x5_1 = some r) ∧ Aside0 (kq ≤ k) ∧ Drawn0 w w')
  case atStart => exact ⟨(0),(by first|rfl|(simp;done)|(simp [*];done)|(simp [qaj];done)),H',⟨Nat.le_refl _⟩,by repeat (first|exact Drawn0.refl _|apply Drawn0.step)⟩
  case round =>
   clear H'
   try clear c1
   try clear c2
   try clear p2
   try clear c3
   try clear c3b0
   try clear c3b1
   try clear c3b2
   obtain ⟨x5_1,rfl,HA,HK1,⟨m1,rfl⟩⟩ := hrel
   cases gk with
   | zero => exact absurd HA.out (by simp [keelsonlaw4_sameInts.l0])
   | succ k1 =>
    have H := HA.out
    clear HA
    simp only [keelsonlaw4_sameInts.l0] at H
    by_cases c4 : x5_1 < (l0.length : Int)
    ·rw [if_pos c4] at H
     have c4b0 : decide (x5_1 < (l0.length : Int)) = true := decide_eq_true c4
     clear c4
     by_cases c5 : 0 ≤ x5_1
     ·rw [if_pos c5] at H
      have c5b0 : decide (0 ≤ x5_1) = true := decide_eq_true c5
      clear c5
      by_cases c6 : x5_1 < (l1.length : Int)
      ·rw [if_pos c6] at H
       have c6b0 : decide (x5_1 < (l1.length : Int)) = true := decide_eq_true c6
       clear c6
       by_cases c7 : (rd l0 x5_1) = (rd l1 x5_1)
       ·rw [if_pos c7] at H
        have c7b0 : ((rd l0 x5_1) == (rd l1 x5_1)) = true := beq_iff_eq.mpr c7
        have c7b1 : ((rd l0 x5_1) != (rd l1 x5_1)) = false := bne_eq_false_iff_eq.mpr c7
        clear c7
        have H' := Aside0.mk H
        clear H
        have p244 : 0 ≤ (x5_1 : Int) := of_decide_eq_true (by assumption)
        have q244 : x5_1 < (l0.length : Int) := of_decide_eq_true (by assumption)
        obtain ⟨ad244,e244,hx244_0⟩ := Kd.at_int HR0.out x5_1 p244 q244
        cases e244
        replace p244 := eq_true p244
        replace q244 := eq_true q244
        have p245 : 0 ≤ (x5_1 : Int) := of_decide_eq_true (by assumption)
        have q245 : x5_1 < (l1.length : Int) := of_decide_eq_true (by assumption)
        obtain ⟨ad245,e245,hx245_0⟩ := Kd.at_int HR1.out x5_1 p245 q245
        cases e245
        replace p245 := eq_true p245
        replace q245 := eq_true q245
        go_wp2
        repeat (go_quiet (fail);try go_wp2)
        go_roundg k1
        case measure => have := HK1.out;omega
        case rel => exact ⟨(wrap64 (x5_1 + 1)),(by first|rfl|(simp;done)|(simp [*];done)|(simp [qaj];done)),H',⟨by have := HK1.out;omega⟩,by repeat (first|exact Drawn0.refl _|apply Drawn0.step)⟩
       ·rw [if_neg c7] at H
        have c7b0 : ((rd l0 x5_1) == (rd l1 x5_1)) = false := beq_eq_false_iff_ne.mpr c7
        have c7b1 : ((rd l0 x5_1) != (rd l1 x5_1)) = true := bne_iff_ne.mpr c7
        obtain rfl := Option.some.inj H
        have p244 : 0 ≤ (x5_1 : Int) := of_decide_eq_true (by assumption)
        have q244 : x5_1 < (l0.length : Int) := of_decide_eq_true (by assumption)
        obtain ⟨ad244,e244,hx244_0⟩ := Kd.at_int HR0.out x5_1 p244 q244
        cases e244
        replace p244 := eq_true p244
        replace q244 := eq_true q244
        have p245 : 0 ≤ (x5_1 : Int) := of_decide_eq_true (by assumption)
        have q245 : x5_1 < (l1.length : Int) := of_decide_eq_true (by assumption)
        obtain ⟨ad245,e245,hx245_0⟩ := Kd.at_int HR1.out x5_1 p245 q245
        cases e245
        replace p245 := eq_true p245
        replace q245 := eq_true q245
        go_wp2
        repeat (go_quiet (fail);try go_wp2)
        go_ret
        exact ⟨by first|rfl|(simp;done)|(simp [*];done)|(simp [qaj];done),by repeat (first|exact Drawn0.refl _|apply Drawn0.step)⟩
      ·rw [if_neg c6] at H
       exact absurd H (by simp)
     ·rw [if_neg c5] at H
      exact absurd H (by simp)
    ·rw [if_neg c4] at H
     have c4b0 : decide (x5_1 < (l0.length : Int)) = false := decide_eq_false c4
     clear c4
     obtain rfl := Option.some.inj H
     go_wp2
     repeat (go_quiet (fail);try go_wp2)
     go_ret
     exact ⟨by first|rfl|(simp;done)|(simp [*];done)|(simp [qaj];done),by repeat (first|exact Drawn0.refl _|apply Drawn0.step)⟩
 ·rw [if_neg c3] at H
  have c3b0 : ((l0.length : Int) == (l1.length : Int)) = false := beq_eq_false_iff_ne.mpr c3
  have c3b1 : ((l0.length : Int) != (l1.length : Int)) = true := bne_iff_ne.mpr c3
  have c3b2 : (l0.length == l1.length) = false := by first|simpa using c3|(simp at c3 ⊢;omega)
  obtain rfl := Option.some.inj H
  go_enter Tryz.func23,Tryz.ntmps23
  go_wp2
  repeat (go_quiet (fail);try go_wp2)
  go_ret
  exact ⟨by first|rfl|(simp;done)|(simp [*];done)|(simp [qaj];done),by repeat (first|exact Drawn0.refl _|apply Drawn0.step)⟩
section
theorem C_one {α : Type} (d : Kd α) {W : World} {b : Nat} {cs : List Value} {ty : TypeId} {x : α} (hb : W.heap[b]? = some (.cells cs.toArray ty (0,0))) (hx : d.K W x cs) : d.C W (some ⟨b,0,none⟩) 1 [x] := by
 refine ⟨rfl,by omega,fun _ => ⟨⟨b,0,none⟩,rfl,fun j p hj => ?_⟩⟩
 match j,hj with
 | 0,hj =>
  obtain rfl : x = p := by simpa using hj
  refine ⟨cs,d.K_len hx,hx,fun i u hi => ?_⟩
  rw [Addr.add_lit,Nat.zero_mul,Nat.zero_add,Nat.zero_add]
  simp [World.cell?,hb,hi]
theorem C_two {α : Type} (d : Kd α) {W : World} {b : Nat} {c1 c2 : List Value} {ty : TypeId} {x y : α} (hb : W.heap[b]? = some (.cells (c1 ++ c2).toArray ty (0,0))) (hx : d.K W x c1) (hy : d.K W y c2) : d.C W (some ⟨b,0,none⟩) 2 [x,y] := by
 have h1 := d.K_len hx
 have h2 := d.K_len hy
 refine ⟨rfl,by omega,fun _ => ⟨⟨b,0,none⟩,rfl,fun j p hj => ?_⟩⟩
 match j,hj with
 | 0,hj =>
  obtain rfl : x = p := by simpa using hj
  refine ⟨c1,h1,hx,fun i u hi => ?_⟩
  have hlt := (List.getElem?_eq_some_iff.1 hi).1
  rw [Addr.add_lit,Nat.zero_mul,Nat.zero_add,Nat.zero_add]
  simp [World.cell?,hb,List.getElem?_append_left hlt,hi]
 | 1,hj =>
  obtain rfl : y = p := by simpa using hj
  refine ⟨c2,h2,hy,fun i u hi => ?_⟩
  rw [Addr.add_lit,Nat.one_mul,Nat.zero_add,← h1]
  simp [World.cell?,hb,List.getElem?_append_right,hi]
def shL1 : List (List S39) := [[⟨⟨#[97,98]⟩,4,⟨#[49]⟩⟩,⟨⟨#[99,100]⟩,0,⟨#[]⟩⟩],[⟨⟨#[101,102]⟩,0,⟨#[]⟩⟩]]
def shL2 : List S39 := [⟨⟨#[97,98]⟩,0,⟨#[]⟩⟩,⟨⟨#[99,100]⟩,3,⟨#[49]⟩⟩]
structure ShownOk (k : Nat) : Prop where
 a : depends_Parse.f k (⟨#[97,98,32,40,62,61,32,49,41,32,124,32,99,100,32,44,32,101,102]⟩ : ByteArray) = some (shL1,0)
 b : depends_Parse.f k (⟨#[97,98,44]⟩ : ByteArray) = some ([],3)
 c : depends_Parse.f k (⟨#[]⟩ : ByteArray) = some ([],0)
 d : depends_Atoms.f k (⟨#[97,98,44,32,99,100,32,40,61,32,49,41]⟩ : ByteArray) = some (shL2,0)
 e : depends_Atoms.f k (⟨#[97,98,32,124,32,99,100]⟩ : ByteArray) = some ([],5)
 f : keelsonlaw4_same.f k shL1 shL1 = some true
 g : depends_Print.f k shL1 = some (⟨#[97,98,32,40,62,61,32,49,41,32,124,32,99,100,44,32,101,102]⟩ : ByteArray)
 h : keelsonlaw4_sameAtoms.f k shL2 shL2 = some true
 i : depends_Open.f k shL1 [⟨⟨#[99,100]⟩,0,⟨#[]⟩⟩] = some [1]
 j : keelsonlaw4_sameInts.f k [1] [1] = some true
theorem ShownOk.next {k : Nat} (h : ShownOk k) : ShownOk (k + 1) :=
 ⟨depends_Parse.mono _ _ _ h.a,depends_Parse.mono _ _ _ h.b,depends_Parse.mono _ _ _ h.c,depends_Atoms.mono _ _ _ h.d,depends_Atoms.mono _ _ _ h.e,keelsonlaw4_same.mono _ _ _ _ h.f,depends_Print.mono _ _ _ h.g,keelsonlaw4_sameAtoms.mono _ _ _ _ h.h,depends_Open.mono _ _ _ _ h.i,keelsonlaw4_sameInts.mono _ _ _ _ h.j⟩
open Classical in
noncomputable def keelsonlaw4_shown.f (k : Nat) : Option Bool := if ShownOk k then some true else none
theorem keelsonlaw4_shown.mono : ∀ k,LeO (keelsonlaw4_shown.f k) (keelsonlaw4_shown.f (k + 1)) := by
 intro k r h
 unfold keelsonlaw4_shown.f at h ⊢
 by_cases hk : ShownOk k
 ·rw [if_pos hk] at h
  rw [if_pos hk.next]
  exact h
 ·rw [if_neg hk] at h;cases h
abbrev shW1 (w : World) : World := ((w.alloc (.cells #[.string ⟨#[97,98]⟩,.int .i64 4,.string ⟨#[49]⟩,.string ⟨#[99,100]⟩,.int .i64 0,.string ⟨#[]⟩] 39)).alloc (.cells #[.string ⟨#[101,102]⟩,.int .i64 0,.string ⟨#[]⟩] 39)).alloc (.cells #[.slice (some ⟨w.heap.size,0,none⟩) 2 2,.slice (some ⟨w.heap.size + 1,0,none⟩) 1 1] 48)
abbrev shW2 (w : World) : World := w.alloc (.cells #[.string ⟨#[97,98]⟩,.int .i64 0,.string ⟨#[]⟩,.string ⟨#[99,100]⟩,.int .i64 3,.string ⟨#[49]⟩] 39)
abbrev shW3 (w : World) : World := w.alloc (.cells #[.string ⟨#[99,100]⟩,.int .i64 0,.string ⟨#[]⟩] 39)
abbrev shW4 (w : World) : World := w.alloc (.cells #[.int .i64 1] 3)
theorem shB1 (w : World) : Below w.heap.size w (shW1 w) := (((Below.refl _ w).alloc (Nat.le_refl _) _).alloc (by simp) _).alloc (by simp;omega) _
theorem shB2 (w : World) : Below w.heap.size w (shW2 w) := (Below.refl _ w).alloc (Nat.le_refl _) _
theorem shB3 (w : World) : Below w.heap.size w (shW3 w) := (Below.refl _ w).alloc (Nat.le_refl _) _
theorem shB4 (w : World) : Below w.heap.size w (shW4 w) := (Below.refl _ w).alloc (Nat.le_refl _) _
theorem shC1 (w : World) : Kd.C (Kd.slice 39 k39) (shW1 w) (some ⟨w.heap.size + 1 + 1,0,none⟩) shL1.length shL1 := by
 have e1 : (w.alloc (.cells #[.string ⟨#[97,98]⟩,.int .i64 4,.string ⟨#[49]⟩,.string ⟨#[99,100]⟩,.int .i64 0,.string ⟨#[]⟩] 39)).heap.size = w.heap.size + 1 := by simp
 have e2 : ((w.alloc (.cells #[.string ⟨#[97,98]⟩,.int .i64 4,.string ⟨#[49]⟩,.string ⟨#[99,100]⟩,.int .i64 0,.string ⟨#[]⟩] 39)).alloc (.cells #[.string ⟨#[101,102]⟩,.int .i64 0,.string ⟨#[]⟩] 39)).heap.size = w.heap.size + 1 + 1 := by simp
 have h1 := World.alloc_heap_new w (.cells #[.string ⟨#[97,98]⟩,.int .i64 4,.string ⟨#[49]⟩,.string ⟨#[99,100]⟩,.int .i64 0,.string ⟨#[]⟩] 39)
 have h2 := World.alloc_heap_new (w.alloc (.cells #[.string ⟨#[97,98]⟩,.int .i64 4,.string ⟨#[49]⟩,.string ⟨#[99,100]⟩,.int .i64 0,.string ⟨#[]⟩] 39)) (.cells #[.string ⟨#[101,102]⟩,.int .i64 0,.string ⟨#[]⟩] 39)
 have h3 := World.alloc_heap_new ((w.alloc (.cells #[.string ⟨#[97,98]⟩,.int .i64 4,.string ⟨#[49]⟩,.string ⟨#[99,100]⟩,.int .i64 0,.string ⟨#[]⟩] 39)).alloc (.cells #[.string ⟨#[101,102]⟩,.int .i64 0,.string ⟨#[]⟩] 39)) (.cells #[.slice (some ⟨w.heap.size,0,none⟩) 2 2,.slice (some ⟨w.heap.size + 1,0,none⟩) 1 1] 48)
 rw [e1] at h2
 rw [e2] at h3
 have g1 : (shW1 w).heap[w.heap.size]? = some (.cells #[.string ⟨#[97,98]⟩,.int .i64 4,.string ⟨#[49]⟩,.string ⟨#[99,100]⟩,.int .i64 0,.string ⟨#[]⟩] 39 (0,0)) := (Below.heap_alloc _ _ _ (by rw [e2];omega)).trans ((Below.heap_alloc _ _ _ (by rw [e1];omega)).trans h1)
 have g2 : (shW1 w).heap[w.heap.size + 1]? = some (.cells #[.string ⟨#[101,102]⟩,.int .i64 0,.string ⟨#[]⟩] 39 (0,0)) := (Below.heap_alloc _ _ _ (by rw [e2];omega)).trans h2
 exact C_two (Kd.slice 39 k39) (c1 := [.slice (some ⟨w.heap.size,0,none⟩) 2 2]) (c2 := [.slice (some ⟨w.heap.size + 1,0,none⟩) 1 1]) h3
  ⟨_,2,rfl,Nat.le_refl 2,C_two k39 (c1 := [.string ⟨#[97,98]⟩,.int .i64 4,.string ⟨#[49]⟩]) (c2 := [.string ⟨#[99,100]⟩,.int .i64 0,.string ⟨#[]⟩]) g1 (k39_mk _ ⟨_,_,_⟩) (k39_mk _ ⟨_,_,_⟩)⟩ ⟨_,1,rfl,Nat.le_refl 1,C_one k39 (cs := [.string ⟨#[101,102]⟩,.int .i64 0,.string ⟨#[]⟩]) g2 (k39_mk _ ⟨_,_,_⟩)⟩
theorem shC2 (w : World) : Kd.C k39 (shW2 w) (some ⟨w.heap.size,0,none⟩) shL2.length shL2 :=
 C_two k39 (c1 := [.string ⟨#[97,98]⟩,.int .i64 0,.string ⟨#[]⟩]) (c2 := [.string ⟨#[99,100]⟩,.int .i64 3,.string ⟨#[49]⟩]) (World.alloc_heap_new w _) (k39_mk _ ⟨_,_,_⟩) (k39_mk _ ⟨_,_,_⟩)
theorem shC3 (w : World) : Kd.C k39 (shW3 w) (some ⟨w.heap.size,0,none⟩) ([⟨⟨#[99,100]⟩,0,⟨#[]⟩⟩] : List S39).length [⟨⟨#[99,100]⟩,0,⟨#[]⟩⟩] :=
 C_one k39 (cs := [.string ⟨#[99,100]⟩,.int .i64 0,.string ⟨#[]⟩]) (World.alloc_heap_new w _) (k39_mk _ ⟨_,_,_⟩)
theorem shC4 (w : World) : Kd.C (Kd.int .i64) (shW4 w) (some ⟨w.heap.size,0,none⟩) ([1] : List Int).length [1] :=
 C_one (Kd.int .i64) (cs := [.int .i64 1]) (World.alloc_heap_new w _) rfl
theorem keelsonlaw4_shown.calls (k : Nat) (r : Bool) (w : World) (hG : GL w) (h : keelsonlaw4_shown.f k = some r) :
  Calls Tryz.prog 9 #[] w fun e w' => e = .returned (.bool r) ∧ Below w.heap.size w w' := by
 unfold keelsonlaw4_shown.f at h
 by_cases hk : ShownOk k
 case neg => rw [if_neg hk] at h;cases h
 rw [if_pos hk] at h
 obtain rfl := Option.some.inj h
 have HK := Aside0.mk hk
 have HB := Aside0.mk (Below.refl w.heap.size w)
 clear hk h
 go_enter Tryz.func9,Tryz.ntmps9
 go_wp2_with (first
  | (go_at_call 10;(with_reducible refine (depends_Parse.calls k _ shL1 0 _ (hG.below ((Below.refl _ w).alloc (Nat.le_refl _) _)) HK.out.a).mono ?_);rintro e w1 ⟨v1,rfl,hS1,hb1⟩;obtain ⟨A1,c1,rfl,hc1,hC1⟩ := Kd.S_reads hS1;have HA1 := Aside0.mk ((hb1.block w.heap.size (by simp)).trans (World.alloc_heap_new w _));have HC1 := Aside0.mk hC1;have Hc1 := Aside0.mk hc1;have HB1 := Aside0.mk (((Below.refl _ w).alloc (Nat.le_refl _) _).trans (hb1.mono (by simp)));have HG1 := Aside0.mk (hG.below HB1.out);clear hS1 hb1 hc1 hC1)
  | (go_at_call 10;(with_reducible refine (depends_Parse.calls k _ [] 3 w1 HG1.out HK.out.b).mono ?_);rintro e w2 ⟨v2,rfl,-,hb2⟩;have HX2 := Aside0.mk hb2;have HG2 := Aside0.mk (HG1.out.below hb2);clear hb2)
  | (go_at_call 10;(with_reducible refine (depends_Parse.calls k _ [] 0 w2 HG2.out HK.out.c).mono ?_);rintro e w3 ⟨v3,rfl,hS3,hb3⟩;obtain ⟨A3,c3,rfl⟩ := Kd.S_slice hS3;have HX3 := Aside0.mk hb3;have HG3 := Aside0.mk (HG2.out.below hb3);clear hb3 hS3)
  | (go_at_call 12;(with_reducible refine (depends_Atoms.calls k _ shL2 0 w3 HG3.out HK.out.d).mono ?_);rintro e w4 ⟨v4,rfl,hR4,hb4⟩;obtain ⟨A4,c4,rfl,hc4,hC4⟩ := Kd.R_reads hR4;have HC4 := Aside0.mk hC4;have Hc4 := Aside0.mk hc4;have HX4 := Aside0.mk hb4;have HG4 := Aside0.mk (HG3.out.below hb4);clear hb4 hR4 hc4 hC4)
  | (go_at_call 12;(with_reducible refine (depends_Atoms.calls k _ [] 5 w4 HG4.out HK.out.e).mono ?_);rintro e w5 ⟨v5,rfl,-,hb5⟩;have HX5 := Aside0.mk hb5;have HG5 := Aside0.mk (HG4.out.below hb5);have HX := Aside0.mk (qan (qan HX2.out HX3.out) HX4.out);have hx5 := qan HX.out hb5;have ha5 := (hx5.block w.heap.size (by have := HB1.out.size;have := (Array.getElem?_eq_some_iff.1 HA1.out).1;omega)).trans HA1.out;have g0 : w5.cell? ⟨w.heap.size,0,none⟩ = some (.string ⟨#[97,98]⟩) := (by simp [World.cell?,ha5]);have g1 : w5.cell? ⟨w.heap.size,1,none⟩ = some (.int .i64 4) := (by simp [World.cell?,ha5]);have g2 : w5.cell? ⟨w.heap.size,2,none⟩ = some (.string ⟨#[49]⟩) := (by simp [World.cell?,ha5]);have HB5 := Aside0.mk (HB1.out.trans (hx5.mono HB1.out.size));clear hb5 ha5 hx5)
  | (go_at_call 14;have hcall := keelsonlaw4_same.calls k A1 c1 shL1 (some ⟨w5.heap.size + 1 + 1,0,none⟩) 2 shL1 true (shW1 w5) (HG5.out.below (shB1 w5)) (Kd.C_below (Kd.C_below (Kd.C_below HC1.out HX.out) HX5.out) (shB1 w5)) Hc1.out (shC1 w5) (Nat.le_refl 2) HK.out.f;change Calls _ _ #[.slice A1 shL1.length c1,.slice (some ⟨w5.heap.size + 1 + 1,0,none⟩) 2 2] _ _ at hcall;(with_reducible refine hcall.mono ?_);rintro e w6 ⟨rfl,hd6⟩;have HX6 := Aside0.mk (qan (shB1 w5) hd6.below);have HG6 := Aside0.mk (HG5.out.below HX6.out);clear hd6 hcall)
  | (go_at_call 18;(with_reducible refine (depends_Print.calls k A1 c1 shL1 _ w6 HG6.out (Kd.C_below (Kd.C_below (Kd.C_below HC1.out HX.out) HX5.out) HX6.out) Hc1.out HK.out.g).mono ?_);rintro e w7 ⟨rfl,hb7⟩;have HX7 := Aside0.mk hb7;have HG7 := Aside0.mk (HG6.out.below hb7);clear hb7)
  | (go_at_call 15;have hcall := keelsonlaw4_sameAtoms.calls k A4 c4 shL2 (some ⟨w7.heap.size,0,none⟩) 2 shL2 true (shW2 w7) (HG7.out.below (shB2 w7)) (Kd.C_below (Kd.C_below (Kd.C_below (Kd.C_below HC4.out HX5.out) HX6.out) HX7.out) (shB2 w7)) Hc4.out (shC2 w7) (Nat.le_refl 2) HK.out.h;change Calls _ _ #[.slice A4 shL2.length c4,.slice (some ⟨w7.heap.size,0,none⟩) 2 2] _ _ at hcall;(with_reducible refine hcall.mono ?_);rintro e w8 ⟨rfl,hd8⟩;have HX8 := Aside0.mk (qan (shB2 w7) hd8.below);have HG8 := Aside0.mk (HG7.out.below HX8.out);clear hd8 hcall)
  | (go_at_call 22;have hcall := depends_Open.calls k A1 c1 shL1 (some ⟨w8.heap.size,0,none⟩) 1 [⟨⟨#[99,100]⟩,0,⟨#[]⟩⟩] [1] (shW3 w8) (HG8.out.below (shB3 w8)) (Kd.C_below (Kd.C_below (Kd.C_below (Kd.C_below (Kd.C_below (Kd.C_below HC1.out HX.out) HX5.out) HX6.out) HX7.out) HX8.out) (shB3 w8)) Hc1.out (shC3 w8) (Nat.le_refl 1) HK.out.i;change Calls _ _ #[.slice A1 shL1.length c1,.slice (some ⟨w8.heap.size,0,none⟩) 1 1] _ _ at hcall;(with_reducible refine hcall.mono ?_);rintro e w9 ⟨v9,rfl,hR9,hb9⟩;obtain ⟨A9,c9,rfl,hc9,hC9⟩ := Kd.R_reads hR9;have HC9 := Aside0.mk hC9;have Hc9 := Aside0.mk hc9;have HX9 := Aside0.mk (qan (shB3 w8) hb9);have HG9 := Aside0.mk (HG8.out.below HX9.out);clear hb9 hcall hR9 hC9 hc9)
  | (go_at_call 23;have hcall := keelsonlaw4_sameInts.calls k A9 c9 [1] (some ⟨w9.heap.size,0,none⟩) 1 [1] true (shW4 w9) (HG9.out.below (shB4 w9)) (Kd.C_below HC9.out (shB4 w9)) Hc9.out (shC4 w9) (Nat.le_refl 1) HK.out.j;change Calls _ _ #[.slice A9 1 c9,.slice (some ⟨w9.heap.size,0,none⟩) 1 1] _ _ at hcall;(with_reducible refine hcall.mono ?_);rintro e w10 ⟨rfl,hd10⟩;have HX10 := Aside0.mk (qan (shB4 w9) hd10.below);clear hd10 hcall))
 go_ret
 exact ⟨rfl,qan HB5.out (qan HX6.out (qan HX7.out (qan HX8.out (qan HX9.out HX10.out))))⟩
end
def keelsonref2_Digit.f (a0 : Int) : Option (Bool) := if a0 ≥ 48 then (some (decide (a0 ≤ 57))) else (some false)
theorem keelsonref2_Digit.calls (a0 : Int) (r : Bool) (w : World) (hG : GL w) (h : keelsonref2_Digit.f a0 = some r) :
  Calls Tryz.prog 69 #[.int .u8 a0] w fun e w' => e = .returned (.bool r) ∧ Drawn0 w w' := by
 have H : (if a0 ≥ 48 then (some (decide (a0 ≤ 57))) else (some false)) = some r := h
 clear h
 by_cases c2 : a0 ≥ 48
 ·rw [if_pos c2] at H
  have c2b0 : decide (48 ≤ a0) = true := decide_eq_true c2
  clear c2
  obtain rfl := Option.some.inj H
  go_enter Tryz.func69,Tryz.ntmps69
  go_wp2
  go_ret
  exact ⟨by first|rfl|(simp;done)|(simp [*];done)|(simp [qaj];done),by repeat (first|exact Drawn0.refl _|apply Drawn0.step)⟩
 ·rw [if_neg c2] at H
  have c2b0 : decide (48 ≤ a0) = false := decide_eq_false c2
  clear c2
  obtain rfl := Option.some.inj H
  go_enter Tryz.func69,Tryz.ntmps69
  go_wp2
  go_ret
  exact ⟨by first|rfl|(simp;done)|(simp [*];done)|(simp [qaj];done),by repeat (first|exact Drawn0.refl _|apply Drawn0.step)⟩
end Go.Proofs.YtjbbgekkombpnaaGreatDoor.PA
