import Derived.Test.YtiidmjmkgjfaeaaGreatDoorProg
import Derived.Below
import Derived.Deep.Draws
import Derived.Deep.AppendLies
import Derived.Maps.AppendAt
import Derived.OwnWalk
import Derived.Laws.BytesArg
import Derived.Laws.MakeOwn
import Derived.Laws.OwnMore
import Derived.Deep.OwnRows
import Derived.Tactics
import Derived.Lib.ConvBytes
import Derived.Laws.Slices
import Derived.WalkKit
import Derived.KernelRfl
import Derived.RowKit3
import Derived.Deep.LoopGhost
import Derived.Deep.QuietTactic
import Derived.BigQuiet
import Derived.WideLaws
import Derived.Deep.DeepCutAuto
import Derived.Deep.CutBlock
import Derived.Deep.RegionHeld3
import Derived.Laws.Rows
import Derived.Lib.AppendStr
import Derived.ArgAppend
import Derived.Laws.IdiomCopy
import Derived.OrdersHeld
import Derived.Laws.BitsLemmas
import Derived.RowKit
import Derived.Test.YtiidmjmkgjfaeaaGreatDoorLib
import Derived.Test.YtiidmjmkgjfaeaaGreatDoorWWords
import Derived.Test.YtiidmjmkgjfaeaaGreatDoorWLast
import Derived.Test.YtiidmjmkgjfaeaaGreatDoorWTab
import Derived.Test.YtiidmjmkgjfaeaaGreatDoorWFour
import Derived.Test.YtiidmjmkgjfaeaaGreatDoorWApart
import Derived.Test.YtiidmjmkgjfaeaaGreatDoorWArr
import Derived.Test.YtiidmjmkgjfaeaaGreatDoorWZeros
import Derived.Test.YtiidmjmkgjfaeaaGreatDoorWFoot
import Derived.Test.YtiidmjmkgjfaeaaGreatDoorWKept
import Derived.Test.YtiidmjmkgjfaeaaGreatDoorWShare
import Derived.Test.YtiidmjmkgjfaeaaGreatDoorWN
import Derived.Test.YtiidmjmkgjfaeaaGreatDoorWFootNe
import Derived.Test.YtiidmjmkgjfaeaaGreatDoorWEqStruct
import Derived.Test.YtiidmjmkgjfaeaaGreatDoorWRepsOne
import Derived.Test.YtiidmjmkgjfaeaaGreatDoorWGuard
import Derived.Test.YtiidmjmkgjfaeaaGreatDoorWMore
namespace Go.Proofs.YtiidmjmkgjfaeaaGreatDoor.PA
open Go.RowKit Go.Proofs.YtiidmjmkgjfaeaaGreatDoorW.PrintWords Go.Proofs.YtiidmjmkgjfaeaaGreatDoorW.PrintLast Go.Proofs.YtiidmjmkgjfaeaaGreatDoorW.PrintMore
attribute [local go_sem] max2_int min2_int max_two min_two max_three min_three max_four min_four
set_option linter.unusedVariables false
set_option linter.unusedSimpArgs false
def errW : Option Int → Value
 | none => .nilIface
 | some c => .iface 0 (.int .i64 c)
theorem qaj : errW none = .nilIface := rfl
theorem qak (c : Int) : errW (some c) = .iface 0 (.int .i64 c) := rfl
theorem info9 : (Tryz.prog.info? 9).map (fun i => (i.zero,i.size,i.bytes)) = some (some (.string ⟨#[]⟩),1,16) := by kernel_rfl
theorem info46 : (Tryz.prog.info? 46).map (fun i => (i.zero,i.size,i.bytes)) = some (some (.agg #[(.string ⟨#[]⟩),(.int .i64 0),(.string ⟨#[]⟩)]),3,40) := by kernel_rfl
theorem info47 : (Tryz.prog.info? 47).map (fun i => (i.zero,i.size,i.bytes)) = some (some (.slice none 0 0),1,24) := by kernel_rfl
structure S46 where
 f0 : ByteArray
 f1 : Int
 f2 : ByteArray
def z46 : S46 := ⟨(⟨#[]⟩ : ByteArray),(0 : Int),(⟨#[]⟩ : ByteArray)⟩
def k46 : Kd S46 := Kd.iso (Kd.pair Kd.string (Kd.pair (Kd.int .i64) Kd.string)) (fun x : S46 => (x.f0,x.f1,x.f2))
theorem k46_open {w : World} {x : S46} {cs : List Value} (h : k46.K w x cs) : cs = [.string x.f0,.int .i64 x.f1,.string x.f2] := by
 obtain ⟨_,_,rfl,rfl,⟨_,_,rfl,rfl,rfl⟩⟩ := h
 exact rfl
theorem k46_mk (w : World) (x : S46)  : k46.K w x [.string x.f0,.int .i64 x.f1,.string x.f2] := ⟨[.string x.f0],[.int .i64 x.f1,.string x.f2],rfl,rfl,⟨[.int .i64 x.f1],[.string x.f2],rfl,rfl,rfl⟩⟩
theorem k46_mkM (w : World) (base : Nat) (ok : Nat → Prop) (x : S46)  : k46.M w base ok x [.string x.f0,.int .i64 x.f1,.string x.f2] := ⟨[.string x.f0],[.int .i64 x.f1,.string x.f2],rfl,rfl,⟨[.int .i64 x.f1],[.string x.f2],rfl,rfl,rfl⟩⟩
def rd_T46 (xs : List S46) (i : Int) : S46 := xs.getD i.toNat z46
theorem at_T46 {w : World} {A : Option Addr} {n : Nat} {xs : List S46} (h : Kd.C k46 w A n xs) (i : Int) (h0 : 0 ≤ i) (h1 : i < n) : ∃ ad ,A = some ad ∧ w.cell? (ad.add (i.toNat * 3)) = some (.string (rd_T46 xs i).f0) ∧ w.cell? ⟨(ad.add (i.toNat * 3)).block,(ad.add (i.toNat * 3)).off + 1,none⟩ = some (.int .i64 (rd_T46 xs i).f1) ∧ w.cell? ⟨(ad.add (i.toNat * 3)).block,(ad.add (i.toNat * 3)).off + 2,none⟩ = some (.string (rd_T46 xs i).f2) := by
 obtain ⟨ad,c,e,_,hK,hc0⟩ := Kd.C_get h z46 i h0 h1
 have hc : ∀ j u,c[j]? = some u → w.cell? (ad.add (i.toNat * 3 + j)) = some u := hc0
 obtain rfl := k46_open hK
 exact ⟨ad,e,hc 0 _ rfl,by rw [← add_field _ _ 1 (by omega)];exact hc 1 _ rfl,by rw [← add_field _ _ 2 (by omega)];exact hc 2 _ rfl⟩
def rd_L4 (xs : List (List S46)) (i : Int) : (List S46) := xs.getD i.toNat ([] : List S46)
theorem at_L4 {w : World} {A : Option Addr} {n : Nat} {xs : List (List S46)} (h : Kd.C (Kd.slice 46 k46) w A n xs) (i : Int) (h0 : 0 ≤ i) (h1 : i < n) : ∃ ad A0 c0,A = some ad ∧ w.cell? (ad.add i.toNat) = some (.slice A0 (rd_L4 xs i).length c0) ∧ (rd_L4 xs i).length ≤ c0 ∧ k46.C w A0 (rd_L4 xs i).length (rd_L4 xs i) := by
 obtain ⟨ad,c,e,_,hK,hc0⟩ := Kd.C_get h ([] : List S46) i h0 h1
 have hc : ∀ j u,c[j]? = some u → w.cell? (ad.add (i.toNat * 1 + j)) = some u := hc0
 obtain ⟨A0,c0,rfl,l0,g0⟩ := hK
 exact ⟨ad,A0,c0,e,by have hq := hc 0 _ rfl;rwa [Nat.mul_one,Nat.add_zero] at hq,l0,g0⟩
structure S37 where
 f0 : ByteArray
 f1 : ByteArray
 f2 : (List (List S46))
 f3 : (List (List S46))
 f4 : (List S46)
 f5 : (List S46)
def z37 : S37 := ⟨(⟨#[]⟩ : ByteArray),(⟨#[]⟩ : ByteArray),([] : List (List S46)),([] : List (List S46)),([] : List S46),([] : List S46)⟩
def k37 : Kd S37 := Kd.iso (Kd.pair Kd.string (Kd.pair Kd.string (Kd.pair (Kd.slice 47 (Kd.slice 46 k46)) (Kd.pair (Kd.slice 47 (Kd.slice 46 k46)) (Kd.pair (Kd.slice 46 k46) (Kd.slice 46 k46)))))) (fun x : S37 => (x.f0,x.f1,x.f2,x.f3,x.f4,x.f5))
theorem k37_open {w : World} {x : S37} {cs : List Value} (h : k37.K w x cs) : ∃ A2 c2 A3 c3 A4 c4 A5 c5,cs = [.string x.f0,.string x.f1,.slice A2 x.f2.length c2,.slice A3 x.f3.length c3,.slice A4 x.f4.length c4,.slice A5 x.f5.length c5] ∧ x.f2.length ≤ c2 ∧ (Kd.slice 46 k46).C w A2 x.f2.length x.f2 ∧ x.f3.length ≤ c3 ∧ (Kd.slice 46 k46).C w A3 x.f3.length x.f3 ∧ x.f4.length ≤ c4 ∧ k46.C w A4 x.f4.length x.f4 ∧ x.f5.length ≤ c5 ∧ k46.C w A5 x.f5.length x.f5 := by
 obtain ⟨_,_,rfl,rfl,⟨_,_,rfl,rfl,⟨_,_,rfl,⟨A2,c2,rfl,l2,g2⟩,⟨_,_,rfl,⟨A3,c3,rfl,l3,g3⟩,⟨_,_,rfl,⟨A4,c4,rfl,l4,g4⟩,⟨A5,c5,rfl,l5,g5⟩⟩⟩⟩⟩⟩ := h
 exact ⟨A2,c2,A3,c3,A4,c4,A5,c5,rfl,l2,g2,l3,g3,l4,g4,l5,g5⟩
theorem k37_mk (w : World) (x : S37) {A2 : Option Addr} {c2 : Nat} (l2 : x.f2.length ≤ c2) (g2 : (Kd.slice 46 k46).C w A2 x.f2.length x.f2) {A3 : Option Addr} {c3 : Nat} (l3 : x.f3.length ≤ c3) (g3 : (Kd.slice 46 k46).C w A3 x.f3.length x.f3) {A4 : Option Addr} {c4 : Nat} (l4 : x.f4.length ≤ c4) (g4 : k46.C w A4 x.f4.length x.f4) {A5 : Option Addr} {c5 : Nat} (l5 : x.f5.length ≤ c5) (g5 : k46.C w A5 x.f5.length x.f5) : k37.K w x [.string x.f0,.string x.f1,.slice A2 x.f2.length c2,.slice A3 x.f3.length c3,.slice A4 x.f4.length c4,.slice A5 x.f5.length c5] := ⟨[.string x.f0],[.string x.f1,.slice A2 x.f2.length c2,.slice A3 x.f3.length c3,.slice A4 x.f4.length c4,.slice A5 x.f5.length c5],rfl,rfl,⟨[.string x.f1],[.slice A2 x.f2.length c2,.slice A3 x.f3.length c3,.slice A4 x.f4.length c4,.slice A5 x.f5.length c5],rfl,rfl,⟨[.slice A2 x.f2.length c2],[.slice A3 x.f3.length c3,.slice A4 x.f4.length c4,.slice A5 x.f5.length c5],rfl,⟨A2,c2,rfl,l2,g2⟩,⟨[.slice A3 x.f3.length c3],[.slice A4 x.f4.length c4,.slice A5 x.f5.length c5],rfl,⟨A3,c3,rfl,l3,g3⟩,⟨[.slice A4 x.f4.length c4],[.slice A5 x.f5.length c5],rfl,⟨A4,c4,rfl,l4,g4⟩,⟨A5,c5,rfl,l5,g5⟩⟩⟩⟩⟩⟩
def rd_T37 (xs : List S37) (i : Int) : S37 := xs.getD i.toNat z37
theorem at_T37 {w : World} {A : Option Addr} {n : Nat} {xs : List S37} (h : Kd.C k37 w A n xs) (i : Int) (h0 : 0 ≤ i) (h1 : i < n) : ∃ ad A2 c2 A3 c3 A4 c4 A5 c5,A = some ad ∧ w.cell? (ad.add (i.toNat * 6)) = some (.string (rd_T37 xs i).f0) ∧ w.cell? ⟨(ad.add (i.toNat * 6)).block,(ad.add (i.toNat * 6)).off + 1,none⟩ = some (.string (rd_T37 xs i).f1) ∧ w.cell? ⟨(ad.add (i.toNat * 6)).block,(ad.add (i.toNat * 6)).off + 2,none⟩ = some (.slice A2 (rd_T37 xs i).f2.length c2) ∧ w.cell? ⟨(ad.add (i.toNat * 6)).block,(ad.add (i.toNat * 6)).off + 3,none⟩ = some (.slice A3 (rd_T37 xs i).f3.length c3) ∧ w.cell? ⟨(ad.add (i.toNat * 6)).block,(ad.add (i.toNat * 6)).off + 4,none⟩ = some (.slice A4 (rd_T37 xs i).f4.length c4) ∧ w.cell? ⟨(ad.add (i.toNat * 6)).block,(ad.add (i.toNat * 6)).off + 5,none⟩ = some (.slice A5 (rd_T37 xs i).f5.length c5) ∧ (rd_T37 xs i).f2.length ≤ c2 ∧ (Kd.slice 46 k46).C w A2 (rd_T37 xs i).f2.length (rd_T37 xs i).f2 ∧ (rd_T37 xs i).f3.length ≤ c3 ∧ (Kd.slice 46 k46).C w A3 (rd_T37 xs i).f3.length (rd_T37 xs i).f3 ∧ (rd_T37 xs i).f4.length ≤ c4 ∧ k46.C w A4 (rd_T37 xs i).f4.length (rd_T37 xs i).f4 ∧ (rd_T37 xs i).f5.length ≤ c5 ∧ k46.C w A5 (rd_T37 xs i).f5.length (rd_T37 xs i).f5 := by
 obtain ⟨ad,c,e,_,hK,hc0⟩ := Kd.C_get h z37 i h0 h1
 have hc : ∀ j u,c[j]? = some u → w.cell? (ad.add (i.toNat * 6 + j)) = some u := hc0
 obtain ⟨A2,c2,A3,c3,A4,c4,A5,c5,rfl,l2,g2,l3,g3,l4,g4,l5,g5⟩ := k37_open hK
 exact ⟨ad,A2,c2,A3,c3,A4,c4,A5,c5,e,hc 0 _ rfl,by rw [← add_field _ _ 1 (by omega)];exact hc 1 _ rfl,by rw [← add_field _ _ 2 (by omega)];exact hc 2 _ rfl,by rw [← add_field _ _ 3 (by omega)];exact hc 3 _ rfl,by rw [← add_field _ _ 4 (by omega)];exact hc 4 _ rfl,by rw [← add_field _ _ 5 (by omega)];exact hc 5 _ rfl,l2,g2,l3,g3,l4,g4,l5,g5⟩
structure S39 where
 f0 : S37
 f1 : Bool
 f2 : Bool
def z39 : S39 := ⟨z37,false,false⟩
def k39 : Kd S39 := Kd.iso (Kd.pair k37 (Kd.pair Kd.bool Kd.bool)) (fun x : S39 => (x.f0,x.f1,x.f2))
theorem k39_open {w : World} {x : S39} {cs : List Value} (h : k39.K w x cs) : ∃ A2 c2 A3 c3 A4 c4 A5 c5,cs = [.string x.f0.f0,.string x.f0.f1,.slice A2 x.f0.f2.length c2,.slice A3 x.f0.f3.length c3,.slice A4 x.f0.f4.length c4,.slice A5 x.f0.f5.length c5,.bool x.f1,.bool x.f2] ∧ x.f0.f2.length ≤ c2 ∧ (Kd.slice 46 k46).C w A2 x.f0.f2.length x.f0.f2 ∧ x.f0.f3.length ≤ c3 ∧ (Kd.slice 46 k46).C w A3 x.f0.f3.length x.f0.f3 ∧ x.f0.f4.length ≤ c4 ∧ k46.C w A4 x.f0.f4.length x.f0.f4 ∧ x.f0.f5.length ≤ c5 ∧ k46.C w A5 x.f0.f5.length x.f0.f5 := by
 obtain ⟨_,_,rfl,s0,⟨_,_,rfl,rfl,rfl⟩⟩ := h
 obtain ⟨A2,c2,A3,c3,A4,c4,A5,c5,rfl,l2,g2,l3,g3,l4,g4,l5,g5⟩ := k37_open s0
 exact ⟨A2,c2,A3,c3,A4,c4,A5,c5,rfl,l2,g2,l3,g3,l4,g4,l5,g5⟩
theorem k39_mk (w : World) (x : S39) {A2 : Option Addr} {c2 : Nat} (l2 : x.f0.f2.length ≤ c2) (g2 : (Kd.slice 46 k46).C w A2 x.f0.f2.length x.f0.f2) {A3 : Option Addr} {c3 : Nat} (l3 : x.f0.f3.length ≤ c3) (g3 : (Kd.slice 46 k46).C w A3 x.f0.f3.length x.f0.f3) {A4 : Option Addr} {c4 : Nat} (l4 : x.f0.f4.length ≤ c4) (g4 : k46.C w A4 x.f0.f4.length x.f0.f4) {A5 : Option Addr} {c5 : Nat} (l5 : x.f0.f5.length ≤ c5) (g5 : k46.C w A5 x.f0.f5.length x.f0.f5) : k39.K w x [.string x.f0.f0,.string x.f0.f1,.slice A2 x.f0.f2.length c2,.slice A3 x.f0.f3.length c3,.slice A4 x.f0.f4.length c4,.slice A5 x.f0.f5.length c5,.bool x.f1,.bool x.f2] := ⟨[.string x.f0.f0,.string x.f0.f1,.slice A2 x.f0.f2.length c2,.slice A3 x.f0.f3.length c3,.slice A4 x.f0.f4.length c4,.slice A5 x.f0.f5.length c5],[.bool x.f1,.bool x.f2],rfl,(k37_mk w x.f0 l2 g2 l3 g3 l4 g4 l5 g5),⟨[.bool x.f1],[.bool x.f2],rfl,rfl,rfl⟩⟩
def rd_T39 (xs : List S39) (i : Int) : S39 := xs.getD i.toNat z39
theorem at_T39 {w : World} {A : Option Addr} {n : Nat} {xs : List S39} (h : Kd.C k39 w A n xs) (i : Int) (h0 : 0 ≤ i) (h1 : i < n) : ∃ ad A2 c2 A3 c3 A4 c4 A5 c5,A = some ad ∧ w.cell? (ad.add (i.toNat * 8)) = some (.string (rd_T39 xs i).f0.f0) ∧ w.cell? ⟨(ad.add (i.toNat * 8)).block,(ad.add (i.toNat * 8)).off + 1,none⟩ = some (.string (rd_T39 xs i).f0.f1) ∧ w.cell? ⟨(ad.add (i.toNat * 8)).block,(ad.add (i.toNat * 8)).off + 2,none⟩ = some (.slice A2 (rd_T39 xs i).f0.f2.length c2) ∧ w.cell? ⟨(ad.add (i.toNat * 8)).block,(ad.add (i.toNat * 8)).off + 3,none⟩ = some (.slice A3 (rd_T39 xs i).f0.f3.length c3) ∧ w.cell? ⟨(ad.add (i.toNat * 8)).block,(ad.add (i.toNat * 8)).off + 4,none⟩ = some (.slice A4 (rd_T39 xs i).f0.f4.length c4) ∧ w.cell? ⟨(ad.add (i.toNat * 8)).block,(ad.add (i.toNat * 8)).off + 5,none⟩ = some (.slice A5 (rd_T39 xs i).f0.f5.length c5) ∧ w.cell? ⟨(ad.add (i.toNat * 8)).block,(ad.add (i.toNat * 8)).off + 6,none⟩ = some (.bool (rd_T39 xs i).f1) ∧ w.cell? ⟨(ad.add (i.toNat * 8)).block,(ad.add (i.toNat * 8)).off + 7,none⟩ = some (.bool (rd_T39 xs i).f2) ∧ (rd_T39 xs i).f0.f2.length ≤ c2 ∧ (Kd.slice 46 k46).C w A2 (rd_T39 xs i).f0.f2.length (rd_T39 xs i).f0.f2 ∧ (rd_T39 xs i).f0.f3.length ≤ c3 ∧ (Kd.slice 46 k46).C w A3 (rd_T39 xs i).f0.f3.length (rd_T39 xs i).f0.f3 ∧ (rd_T39 xs i).f0.f4.length ≤ c4 ∧ k46.C w A4 (rd_T39 xs i).f0.f4.length (rd_T39 xs i).f0.f4 ∧ (rd_T39 xs i).f0.f5.length ≤ c5 ∧ k46.C w A5 (rd_T39 xs i).f0.f5.length (rd_T39 xs i).f0.f5 := by
 obtain ⟨ad,c,e,_,hK,hc0⟩ := Kd.C_get h z39 i h0 h1
 have hc : ∀ j u,c[j]? = some u → w.cell? (ad.add (i.toNat * 8 + j)) = some u := hc0
 obtain ⟨A2,c2,A3,c3,A4,c4,A5,c5,rfl,l2,g2,l3,g3,l4,g4,l5,g5⟩ := k39_open hK
 exact ⟨ad,A2,c2,A3,c3,A4,c4,A5,c5,e,hc 0 _ rfl,by rw [← add_field _ _ 1 (by omega)];exact hc 1 _ rfl,by rw [← add_field _ _ 2 (by omega)];exact hc 2 _ rfl,by rw [← add_field _ _ 3 (by omega)];exact hc 3 _ rfl,by rw [← add_field _ _ 4 (by omega)];exact hc 4 _ rfl,by rw [← add_field _ _ 5 (by omega)];exact hc 5 _ rfl,by rw [← add_field _ _ 6 (by omega)];exact hc 6 _ rfl,by rw [← add_field _ _ 7 (by omega)];exact hc 7 _ rfl,l2,g2,l3,g3,l4,g4,l5,g5⟩
structure S92 where
 f0 : ByteArray
 f1 : ByteArray
def z92 : S92 := ⟨(⟨#[]⟩ : ByteArray),(⟨#[]⟩ : ByteArray)⟩
def k92 : Kd S92 := Kd.iso (Kd.pair Kd.string Kd.string) (fun x : S92 => (x.f0,x.f1))
theorem k92_open {w : World} {x : S92} {cs : List Value} (h : k92.K w x cs) : cs = [.string x.f0,.string x.f1] := by
 obtain ⟨_,_,rfl,rfl,rfl⟩ := h
 exact rfl
theorem k92_mkM (w : World) (base : Nat) (ok : Nat → Prop) (x : S92)  : k92.M w base ok x [.string x.f0,.string x.f1] := ⟨[.string x.f0],[.string x.f1],rfl,rfl,rfl⟩
def rd_T92 (xs : List S92) (i : Int) : S92 := xs.getD i.toNat z92
theorem at_T92 {w : World} {A : Option Addr} {n : Nat} {xs : List S92} (h : Kd.C k92 w A n xs) (i : Int) (h0 : 0 ≤ i) (h1 : i < n) : ∃ ad ,A = some ad ∧ w.cell? (ad.add (i.toNat * 2)) = some (.string (rd_T92 xs i).f0) ∧ w.cell? ⟨(ad.add (i.toNat * 2)).block,(ad.add (i.toNat * 2)).off + 1,none⟩ = some (.string (rd_T92 xs i).f1) := by
 obtain ⟨ad,c,e,_,hK,hc0⟩ := Kd.C_get h z92 i h0 h1
 have hc : ∀ j u,c[j]? = some u → w.cell? (ad.add (i.toNat * 2 + j)) = some u := hc0
 obtain rfl := k92_open hK
 exact ⟨ad,e,hc 0 _ rfl,by rw [← add_field _ _ 1 (by omega)];exact hc 1 _ rfl⟩
structure S31 where
 f0 : Int
 f1 : ByteArray
 f2 : ByteArray
def z31 : S31 := ⟨(0 : Int),(⟨#[]⟩ : ByteArray),(⟨#[]⟩ : ByteArray)⟩
def k31 : Kd S31 := Kd.iso (Kd.pair (Kd.int .i64) (Kd.pair Kd.string Kd.string)) (fun x : S31 => (x.f0,x.f1,x.f2))
theorem k31_open {w : World} {x : S31} {cs : List Value} (h : k31.K w x cs) : cs = [.int .i64 x.f0,.string x.f1,.string x.f2] := by
 obtain ⟨_,_,rfl,rfl,⟨_,_,rfl,rfl,rfl⟩⟩ := h
 exact rfl
theorem k31_mk (w : World) (x : S31)  : k31.K w x [.int .i64 x.f0,.string x.f1,.string x.f2] := ⟨[.int .i64 x.f0],[.string x.f1,.string x.f2],rfl,rfl,⟨[.string x.f1],[.string x.f2],rfl,rfl,rfl⟩⟩
theorem k31_mkM (w : World) (base : Nat) (ok : Nat → Prop) (x : S31)  : k31.M w base ok x [.int .i64 x.f0,.string x.f1,.string x.f2] := ⟨[.int .i64 x.f0],[.string x.f1,.string x.f2],rfl,rfl,⟨[.string x.f1],[.string x.f2],rfl,rfl,rfl⟩⟩
def rd_T31 (xs : List S31) (i : Int) : S31 := xs.getD i.toNat z31
theorem at_T31 {w : World} {A : Option Addr} {n : Nat} {xs : List S31} (h : Kd.C k31 w A n xs) (i : Int) (h0 : 0 ≤ i) (h1 : i < n) : ∃ ad ,A = some ad ∧ w.cell? (ad.add (i.toNat * 3)) = some (.int .i64 (rd_T31 xs i).f0) ∧ w.cell? ⟨(ad.add (i.toNat * 3)).block,(ad.add (i.toNat * 3)).off + 1,none⟩ = some (.string (rd_T31 xs i).f1) ∧ w.cell? ⟨(ad.add (i.toNat * 3)).block,(ad.add (i.toNat * 3)).off + 2,none⟩ = some (.string (rd_T31 xs i).f2) := by
 obtain ⟨ad,c,e,_,hK,hc0⟩ := Kd.C_get h z31 i h0 h1
 have hc : ∀ j u,c[j]? = some u → w.cell? (ad.add (i.toNat * 3 + j)) = some u := hc0
 obtain rfl := k31_open hK
 exact ⟨ad,e,hc 0 _ rfl,by rw [← add_field _ _ 1 (by omega)];exact hc 1 _ rfl,by rw [← add_field _ _ 2 (by omega)];exact hc 2 _ rfl⟩
end Go.Proofs.YtiidmjmkgjfaeaaGreatDoor.PA
