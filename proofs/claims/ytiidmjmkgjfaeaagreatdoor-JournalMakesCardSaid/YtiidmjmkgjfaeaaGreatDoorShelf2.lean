import Derived.Shelf.Strings.Builder1
import Derived.Shelf.Strings.Builder2
import Derived.Shelf.Strings.OnBuilder
import Derived.Shelf.Strings.Trim
import Derived.Shelf.Small.Utf8
import Derived.Shelf.Small.Strs
import Derived.Shelf.Small.Wraps
import Derived.Shelf.Strings.BuilderF
import Derived.Shelf.Strings.BuilderK
import Derived.Shelf.Strconv.Atoi
import Derived.Shelf.Strconv.Itoa0
import Derived.Shelf.Strconv.Itoa1
import Derived.Shelf.LaysM
import Derived.Shelf.Strconv.Itoa2
import Derived.Shelf.Strconv.Itoa3
import Derived.Shelf.Strconv.AtoiErrFast
import Derived.Shelf.Strconv.ParseIntEmpty
import Derived.Shelf.Strconv.AtoiFail
import Derived.Shelf.Strconv.Clone
import Derived.Shelf.Strconv.SyntaxError
import Derived.Shelf.LaysC
import Derived.Shelf.Strconv.ToError
import Derived.Shelf.Strconv.Lower
import Derived.Shelf.Strconv.ParseUint10
import Derived.Shelf.Strconv.ParseUint10Empty
import Derived.Shelf.Strconv.ParseUint10Any
import Derived.Shelf.Strconv.ParseInt10
import Derived.Shelf.Strconv.AtoiLong
import Derived.Shelf.Strconv.AtoiInnerAll
import Derived.Shelf.Strconv.RangeError
import Derived.Shelf.Strconv.ToErrorRange
import Derived.Shelf.Strconv.AtoiAll
import Derived.Shelf.Strconv.ErrVarAll
import Derived.Shelf.Strings.Search1
import Derived.Shelf.Strings.Search2
import Derived.Shelf.Strings.Search3
import Derived.Shelf.Strings.Cut
import Derived.Shelf.Strings.Count
import Derived.Shelf.Strings.Shaped
import Derived.Shelf.Strings.LastIndex
import Derived.Shelf.Strings.Prefix
import Derived.Shelf.Strings.Split
import Derived.Shelf.Strings.Replace
import Derived.Shelf.Strings.SplitShaped
import Derived.Shelf.Strings.Runes
import Derived.Shelf.Strings.AsciiSet
import Derived.Shelf.Unicode.DecodeSlow
import Derived.Shelf.Unicode.DecodeAny
import Derived.Ground.Names2Prog
import Derived.Shelf.Slices.SearchI
import Derived.Test.YtiidmjmkgjfaeaaGreatDoorProg
import Derived.Test.YtiidmjmkgjfaeaaGreatDoorShelf
namespace Go.Proofs
open Go.Shelf
def Tryz.lays169_ren : Go.Shelf.Ren := ⟨fun | 169 => 122 | n => n,fun | 70 => 125 | 9 => 9 | 0 => 0 | 72 => 127 | 37 => 116 | 127 => 150 | 3 => 3 | 5 => 5 | n => n,fun | n => n⟩
theorem Tryz.lays169 : Go.Proofs.Lays.n169 Tryz.prog Tryz.lays169_ren := {
 mixed := by kernel_rfl
 f169 := Tryz.func122.trans (congrArg some (by kernel_rfl))
 t0 := Tryz.underlying0
 a0 := Tryz.isAgg0
 z0 := Tryz.sizeOf0
 v0 := Tryz.zeroValue0
 t3 := Tryz.underlying3
 a3 := Tryz.isAgg3
 z3 := Tryz.sizeOf3
 v3 := Tryz.zeroValue3
 t9 := Tryz.underlying9
 a9 := Tryz.isAgg9
 z9 := Tryz.sizeOf9
 v9 := Tryz.zeroValue9
 t37 := Tryz.underlying116
 a37 := Tryz.isAgg116
 z37 := Tryz.sizeOf116
 v37 := Tryz.zeroValue116
 t70 := Tryz.underlying125
 a70 := Tryz.isAgg125
 z70 := Tryz.sizeOf125
 v70 := Tryz.zeroValue125
 t72 := Tryz.underlying127
 a72 := Tryz.isAgg127
 z72 := Tryz.sizeOf127
 v72 := Tryz.zeroValue127
 t127 := Tryz.underlying150
 a127 := Tryz.isAgg150
 z127 := Tryz.sizeOf150
 v127 := Tryz.zeroValue150 }
theorem Tryz.Builder_Extra_169 : Builder.Extra Tryz.prog Tryz.lays169_ren := {
 sizeBuilder := by kernel_rfl
 liesBuilder := by kernel_rfl
 t5 := Tryz.underlying5
 a5 := Tryz.isAgg5
 z5 := Tryz.sizeOf5
 v5 := Tryz.zeroValue5
 infoByte := by kernel_rfl
 cellsByte := by kernel_rfl
 sizeByte := by kernel_rfl
 neB5 := by decide }
open Go.RowKit in
theorem Tryz.Builder_String_any_k (B b : Nat) (l : List UInt8) (w : World) (h : Lib.IsBuilderF 127 5 B b (Lib.byteCells l) w) (hBw : B ≤ w.heap.size) :
  Calls Tryz.prog 122 #[.pointer (some ⟨b,0,none⟩)] w fun e w' => e = .returned (.string ⟨l.toArray⟩) ∧ (Lib.IsBuilderF 127 5 B b (Lib.byteCells l) w' ∧ Below B w w' ∧ Lib.OthersKept 5 (some b) w w') := Any.Builder_String_any_k Tryz.lays169 Tryz.Builder_Extra_169 B b l w h hBw
def Tryz.lays146_ren : Go.Shelf.Ren := ⟨fun | 146 => 176 | 221 => 202 | 268 => 226 | 138 => 183 | 143 => 184 | 195 => 207 | 197 => 185 | 218 => 208 | 219 => 186 | 260 => 209 | 217 => 140 | 225 => 210 | 224 => 211 | 267 => 212 | 266 => 172 | 314 => 227 | n => n,fun | 9 => 9 | 31 => 33 | 3 => 3 | 4 => 4 | 0 => 0 | 105 => 166 | 21 => 21 | 5 => 5 | 46 => 182 | 119 => 203 | 139 => 206 | 138 => 205 | 146 => 208 | 51 => 207 | n => n,fun | 1 => 0 | 3 => 3 | 4 => 4 | n => n⟩
theorem Tryz.lays146 : Go.Proofs.Lays.n146 Tryz.prog Tryz.lays146_ren := {
 mixed := by kernel_rfl
 f138 := Tryz.func183.trans (congrArg some (by kernel_rfl))
 f143 := Tryz.func184.trans (congrArg some (by kernel_rfl))
 f146 := Tryz.func176.trans (congrArg some (by kernel_rfl))
 f195 := Tryz.func207.trans (congrArg some (by kernel_rfl))
 f197 := Tryz.func185.trans (congrArg some (by kernel_rfl))
 f217 := Tryz.func140.trans (congrArg some (by kernel_rfl))
 f218 := Tryz.func208.trans (congrArg some (by kernel_rfl))
 f219 := Tryz.func186.trans (congrArg some (by kernel_rfl))
 f221 := Tryz.func202.trans (congrArg some (by kernel_rfl))
 f224 := Tryz.func211.trans (congrArg some (by kernel_rfl))
 f225 := Tryz.func210.trans (congrArg some (by kernel_rfl))
 f260 := Tryz.func209.trans (congrArg some (by kernel_rfl))
 f266 := Tryz.func172.trans (congrArg some (by kernel_rfl))
 f267 := Tryz.func212.trans (congrArg some (by kernel_rfl))
 f268 := Tryz.func226.trans (congrArg some (by kernel_rfl))
 f314 := Tryz.func227.trans (congrArg some (by kernel_rfl))
 t0 := Tryz.underlying0
 a0 := Tryz.isAgg0
 z0 := Tryz.sizeOf0
 v0 := Tryz.zeroValue0
 t3 := Tryz.underlying3
 a3 := Tryz.isAgg3
 z3 := Tryz.sizeOf3
 v3 := Tryz.zeroValue3
 t4 := Tryz.underlying4
 a4 := Tryz.isAgg4
 z4 := Tryz.sizeOf4
 v4 := Tryz.zeroValue4
 t5 := Tryz.underlying5
 a5 := Tryz.isAgg5
 z5 := Tryz.sizeOf5
 v5 := Tryz.zeroValue5
 t9 := Tryz.underlying9
 a9 := Tryz.isAgg9
 z9 := Tryz.sizeOf9
 v9 := Tryz.zeroValue9
 t21 := Tryz.underlying21
 a21 := Tryz.isAgg21
 z21 := Tryz.sizeOf21
 v21 := Tryz.zeroValue21
 t31 := Tryz.underlying33
 a31 := Tryz.isAgg33
 z31 := Tryz.sizeOf33
 v31 := Tryz.zeroValue33
 t46 := Tryz.underlying182
 a46 := Tryz.isAgg182
 z46 := Tryz.sizeOf182
 v46 := Tryz.zeroValue182
 t51 := Tryz.underlying207
 a51 := Tryz.isAgg207
 z51 := Tryz.sizeOf207
 v51 := Tryz.zeroValue207
 t105 := Tryz.underlying166
 a105 := Tryz.isAgg166
 z105 := Tryz.sizeOf166
 v105 := Tryz.zeroValue166
 t119 := Tryz.underlying203
 a119 := Tryz.isAgg203
 z119 := Tryz.sizeOf203
 t138 := Tryz.underlying205
 a138 := Tryz.isAgg205
 z138 := Tryz.sizeOf205
 v138 := Tryz.zeroValue205
 t139 := Tryz.underlying206
 a139 := Tryz.isAgg206
 z139 := Tryz.sizeOf206
 v139 := Tryz.zeroValue206
 t146 := Tryz.underlying208
 a146 := Tryz.isAgg208
 z146 := Tryz.sizeOf208
 v146 := Tryz.zeroValue208
 g1 := by kernel_rfl
 g3 := by kernel_rfl
 g4 := by kernel_rfl }
open Go.RowKit Go.Lib in
theorem Tryz.strings_Split (s sep : ByteArray) (m : Int) (w : World) (hs : s.size < 4294967281) (hm : w.cell? ⟨0,0,none⟩ = some (.int .i64 m)) (h1 : 1 ≤ sep.size) :
  Calls Tryz.prog 176 #[.string s,.string sep] w fun e w' =>
   e = .returned (.slice (some ⟨w.heap.size,0,none⟩) (Lib.countB s sep + 1) (Lib.countB s sep + 1)) ∧ w' = w.alloc (.cells ((Lib.splitB sep 0 (Lib.countB s sep) s).map Value.string).toArray 9) := Any.strings_Split Tryz.lays146 (by kernel_rfl) s sep m w hs hm h1
def Tryz.lays155_ren : Go.Shelf.Ren := ⟨fun | 155 => 121 | 154 => 150 | 138 => 183 | 165 => 144 | 143 => 184 | 166 => 120 | 197 => 185 | 169 => 122 | 195 => 207 | 218 => 208 | 240 => 149 | 241 => 174 | 219 => 186 | 260 => 209 | 276 => 182 | 277 => 201 | 217 => 140 | 225 => 210 | 224 => 211 | 267 => 212 | 266 => 172 | 314 => 227 | n => n,fun | 9 => 9 | 3 => 3 | 4 => 4 | 72 => 127 | 0 => 0 | 76 => 131 | 105 => 166 | 21 => 21 | 5 => 5 | 70 => 125 | 20 => 20 | 37 => 116 | 75 => 129 | 127 => 150 | 164 => 164 | 46 => 182 | 119 => 203 | 139 => 206 | 138 => 205 | 146 => 208 | 51 => 207 | 80 => 134 | n => n,fun | 1 => 0 | 3 => 3 | 4 => 4 | n => n⟩
theorem Tryz.lays155 : Go.Proofs.Lays.n155 Tryz.prog Tryz.lays155_ren := {
 mixed := by kernel_rfl
 f138 := Tryz.func183.trans (congrArg some (by kernel_rfl))
 f143 := Tryz.func184.trans (congrArg some (by kernel_rfl))
 f154 := Tryz.func150.trans (congrArg some (by kernel_rfl))
 f155 := Tryz.func121.trans (congrArg some (by kernel_rfl))
 f165 := Tryz.func144.trans (congrArg some (by kernel_rfl))
 f166 := Tryz.func120.trans (congrArg some (by kernel_rfl))
 f169 := Tryz.func122.trans (congrArg some (by kernel_rfl))
 f195 := Tryz.func207.trans (congrArg some (by kernel_rfl))
 f197 := Tryz.func185.trans (congrArg some (by kernel_rfl))
 f217 := Tryz.func140.trans (congrArg some (by kernel_rfl))
 f218 := Tryz.func208.trans (congrArg some (by kernel_rfl))
 f219 := Tryz.func186.trans (congrArg some (by kernel_rfl))
 f224 := Tryz.func211.trans (congrArg some (by kernel_rfl))
 f225 := Tryz.func210.trans (congrArg some (by kernel_rfl))
 f240 := Tryz.func149.trans (congrArg some (by kernel_rfl))
 f241 := Tryz.func174.trans (congrArg some (by kernel_rfl))
 f260 := Tryz.func209.trans (congrArg some (by kernel_rfl))
 f266 := Tryz.func172.trans (congrArg some (by kernel_rfl))
 f267 := Tryz.func212.trans (congrArg some (by kernel_rfl))
 f276 := Tryz.func182.trans (congrArg some (by kernel_rfl))
 f277 := Tryz.func201.trans (congrArg some (by kernel_rfl))
 f314 := Tryz.func227.trans (congrArg some (by kernel_rfl))
 t0 := Tryz.underlying0
 a0 := Tryz.isAgg0
 z0 := Tryz.sizeOf0
 v0 := Tryz.zeroValue0
 t3 := Tryz.underlying3
 a3 := Tryz.isAgg3
 z3 := Tryz.sizeOf3
 v3 := Tryz.zeroValue3
 t4 := Tryz.underlying4
 a4 := Tryz.isAgg4
 z4 := Tryz.sizeOf4
 v4 := Tryz.zeroValue4
 t5 := Tryz.underlying5
 a5 := Tryz.isAgg5
 z5 := Tryz.sizeOf5
 v5 := Tryz.zeroValue5
 t9 := Tryz.underlying9
 a9 := Tryz.isAgg9
 z9 := Tryz.sizeOf9
 v9 := Tryz.zeroValue9
 t20 := Tryz.underlying20
 a20 := Tryz.isAgg20
 z20 := Tryz.sizeOf20
 v20 := Tryz.zeroValue20
 t21 := Tryz.underlying21
 a21 := Tryz.isAgg21
 z21 := Tryz.sizeOf21
 v21 := Tryz.zeroValue21
 t37 := Tryz.underlying116
 a37 := Tryz.isAgg116
 z37 := Tryz.sizeOf116
 v37 := Tryz.zeroValue116
 t46 := Tryz.underlying182
 a46 := Tryz.isAgg182
 z46 := Tryz.sizeOf182
 v46 := Tryz.zeroValue182
 t51 := Tryz.underlying207
 a51 := Tryz.isAgg207
 z51 := Tryz.sizeOf207
 v51 := Tryz.zeroValue207
 t70 := Tryz.underlying125
 a70 := Tryz.isAgg125
 z70 := Tryz.sizeOf125
 v70 := Tryz.zeroValue125
 t72 := Tryz.underlying127
 a72 := Tryz.isAgg127
 z72 := Tryz.sizeOf127
 v72 := Tryz.zeroValue127
 t75 := Tryz.underlying129
 a75 := Tryz.isAgg129
 z75 := Tryz.sizeOf129
 v75 := Tryz.zeroValue129
 t76 := Tryz.underlying131
 a76 := Tryz.isAgg131
 z76 := Tryz.sizeOf131
 v76 := Tryz.zeroValue131
 t105 := Tryz.underlying166
 a105 := Tryz.isAgg166
 z105 := Tryz.sizeOf166
 v105 := Tryz.zeroValue166
 t119 := Tryz.underlying203
 a119 := Tryz.isAgg203
 z119 := Tryz.sizeOf203
 t127 := Tryz.underlying150
 a127 := Tryz.isAgg150
 z127 := Tryz.sizeOf150
 v127 := Tryz.zeroValue150
 t138 := Tryz.underlying205
 a138 := Tryz.isAgg205
 z138 := Tryz.sizeOf205
 v138 := Tryz.zeroValue205
 t139 := Tryz.underlying206
 a139 := Tryz.isAgg206
 z139 := Tryz.sizeOf206
 v139 := Tryz.zeroValue206
 t146 := Tryz.underlying208
 a146 := Tryz.isAgg208
 z146 := Tryz.sizeOf208
 v146 := Tryz.zeroValue208
 t164 := Tryz.underlying164
 a164 := Tryz.isAgg164
 z164 := Tryz.sizeOf164
 v164 := Tryz.zeroValue164
 g1 := by kernel_rfl
 g3 := by kernel_rfl
 g4 := by kernel_rfl }
theorem Tryz.Builder_Extra_155 : Builder.Extra Tryz.prog Tryz.lays155_ren := {
 sizeBuilder := by kernel_rfl
 liesBuilder := by kernel_rfl
 t5 := Tryz.underlying5
 a5 := Tryz.isAgg5
 z5 := Tryz.sizeOf5
 v5 := Tryz.zeroValue5
 infoByte := by kernel_rfl
 cellsByte := by kernel_rfl
 sizeByte := by kernel_rfl
 neB5 := by decide }
open Go.RowKit Go.Lib in
theorem Tryz.strings_ReplaceAll (s old new : ByteArray) (m : Int) (w : World) (hs : s.size < 4294967281) (hm : w.cell? ⟨0,0,none⟩ = some (.int .i64 m)) (h1 : 1 ≤ old.size) (hlen : s.size + Lib.countB s old * new.size ≤ 140737488355328) :
  Calls Tryz.prog 121 #[.string s,.string old,.string new] w fun e w' =>
   e = .returned (.string ⟨(Lib.replaceAll s.data.toList old.data.toList new.data.toList).toArray⟩) ∧ Below w.heap.size w w' := Any.strings_ReplaceAll Tryz.lays155 Tryz.Builder_Extra_155 s old new m w hs hm h1 hlen
end Go.Proofs
