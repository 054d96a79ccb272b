import Derived.Test.YtooomjcdlfdnmaaGreatDoorWWords
import Derived.Lib.IndexMore
import Derived.Lib.TrimByte
import Derived.RangeFuncNested
import Derived.RangeFuncBound
import Derived.RangeFuncCalls
import Derived.RangeFuncLeaves
import Derived.Shelf.Abstract
import Derived.WalkKit
import Derived.Deep.Draws
import Derived.Test.YtooomjcdlfdnmaaGreatDoorLib
import Derived.OwnWalkIn
import Derived.TacticsInMore
import Derived.LoopNIn
import Derived.LoopIn
import Derived.RangeFuncBox
import Derived.Maps.AppendAt
import Derived.BigFrameIn
import Derived.Test.YtooomjcdlfdnmaaGreatDoorWApart
import Derived.Maps.OwnIn
namespace Go.Proofs.YtooomjcdlfdnmaaGreatDoor.Pure
open Go.RowKit Go.Proofs.YtooomjcdlfdnmaaGreatDoorW.PrintWords
abbrev Bs := List UInt8
def mk (l : Bs) : ByteArray := ⟨l.toArray⟩
theorem mk_data (s : ByteArray) : mk s.data.toList = s := by cases s; simp [mk]
theorem mk_ex (s : ByteArray) : ∃ l, s = mk l ∧ l.length = s.size := ⟨s.data.toList, (mk_data s).symm, by simp⟩
theorem mk_size (l : Bs) : (mk l).size = l.length := by simp [mk, ByteArray.size]
theorem toList_loop (s : ByteArray) : ∀ (n i : Nat) (r : List UInt8), s.size - i = n → ByteArray.toList.loop s i r = r.reverse ++ s.data.toList.drop i := by
  intro n
  induction n with
  | zero =>
    intro i r h
    unfold ByteArray.toList.loop
    rw [if_neg (by omega), List.drop_eq_nil_of_le (by simp; omega)]
    simp
  | succ n ih =>
    intro i r h
    unfold ByteArray.toList.loop
    have hi : i < s.size := by omega
    rw [if_pos hi, ih (i + 1) _ (by omega)]
    have h2 : i < s.data.toList.length := by simpa using hi
    have h3 : i < s.data.size := hi
    rw [List.drop_eq_getElem_cons h2]
    simp [ByteArray.get!]
    exact getElem!_pos s.data i h3
theorem toList_data (s : ByteArray) : s.toList = s.data.toList := by
  unfold ByteArray.toList
  rw [toList_loop s _ 0 [] rfl]
  simp
theorem mk_toList (l : Bs) : (mk l).toList = l := by rw [toList_data]; simp [mk]
theorem mk_dataList (l : Bs) : (mk l).data.toList = l := by simp [mk]
theorem mk_app (a b : Bs) : mk a ++ mk b = mk (a ++ b) := by
  have h : (mk a ++ mk b).data = (mk a).data ++ (mk b).data := ByteArray.data_append
  have : (mk a ++ mk b) = ⟨(mk a ++ mk b).data⟩ := rfl
  rw [this, h]
  simp [mk]
theorem mk_ext (l : Bs) (a b : Nat) : (mk l).extract a b = mk ((l.take b).drop a) := by
  have h : ((mk l).extract a b).data = (mk l).data.extract a b := ByteArray.data_extract
  have : (mk l).extract a b = ⟨((mk l).extract a b).data⟩ := rfl
  rw [this, h]
  simp only [mk, List.extract_toArray, List.extract_eq_take_drop]
  rw [List.drop_take]
theorem mk_ext_to (l : Bs) (a : Nat) : (mk l).extract a l.length = mk (l.drop a) := by rw [mk_ext, List.take_length]
theorem mk_ext_from (l : Bs) (b : Nat) : (mk l).extract 0 b = mk (l.take b) := by rw [mk_ext, List.drop_zero]
theorem mk_bt (l : Bs) (i : Nat) : bt (mk l) (i : Int) = ((l.getD i 0).toNat : Int) := by
  unfold bt
  split
  · rename_i h
    have h2 : i < l.length := by rw [mk_size] at h; simpa using h
    rw [List.getD_eq_getElem?_getD, List.getElem?_eq_getElem h2]
    simp [mk, ByteArray.getElem_eq_getElem_data]
  · rename_i h
    have h2 : ¬ i < l.length := by rw [mk_size] at h; simpa using h
    rw [List.getD_eq_getElem?_getD, List.getElem?_eq_none (by omega)]
    rfl
theorem mk_bt_at (p : Bs) (c : UInt8) (t : Bs) : bt (mk (p ++ c :: t)) (p.length : Int) = (c.toNat : Int) := by rw [mk_bt]; simp
theorem mk_bt_0 (c : UInt8) (t : Bs) : bt (mk (c :: t)) 0 = (c.toNat : Int) := mk_bt_at [] c t
section
variable {α β : Type} {c : Prop} [Decidable c] {g f : Nat → Option α} {r : α}
theorem Ev.pos (h : c) (hg : Ev g r) : Ev (fun k => if c then g k else f k) r := Ev.congr (fun _ => if_pos h) hg
theorem Ev.neg (h : ¬ c) (hf : Ev f r) : Ev (fun k => if c then g k else f k) r := Ev.congr (fun _ => if_neg h) hf
theorem Ev.some_ (r : α) : Ev (fun _ => some r) r := Ev.now r
theorem Ev.eq_ {r' : α} (h : r' = r) : Ev (fun _ => some r') r := h ▸ Ev.now r'
theorem Ev.bindc {x : Option β} {a : β} {f : Nat → β → Option α} (h : x = some a) (k : Ev (fun n => f n a) r) : Ev (fun n => x.bind (f n)) r := Ev.congr (fun n => by rw [h]; rfl) k
theorem Ev.shift (h : Ev (fun k => g (k + 1)) r) : Ev g r := by
  obtain ⟨K, hK⟩ := h
  exact ⟨K + 1, fun k hk => by obtain ⟨j, rfl⟩ : ∃ j, k = j + 1 := ⟨k - 1, by omega⟩; exact hK j (by omega)⟩
theorem Ev.const_ {x : Option α} (h : x = some r) : Ev (fun _ => x) r := ⟨0, fun _ _ => h⟩
end
theorem wrap_succ (n : Nat) (h : n + 1 < 9223372036854775808) : wrap64 ((n : Int) + 1) = ((n + 1 : Nat) : Int) := by unfold wrap64; omega
theorem wrap_in (i : Int) (h0 : -9223372036854775808 ≤ i) (h1 : i < 9223372036854775808) : wrap64 i = i := by unfold wrap64; omega
theorem byte_all {P : UInt8 → Prop} (h : ∀ n, n < 256 → P (UInt8.ofNat n)) (c : UInt8) : P c := by
  have := h c.toNat c.toNat_lt
  rwa [UInt8.ofNat_toNat] at this
end Go.Proofs.YtooomjcdlfdnmaaGreatDoor.Pure

namespace Go.Proofs.YtooomjcdlfdnmaaGreatDoor.Dep
open Go
abbrev Bs := List UInt8
def splitB (c : UInt8) : Bs → List Bs
  | [] => [[]]
  | x :: r => if x = c then [] :: splitB c r else match splitB c r with
    | [] => [[x]]
    | p :: ps => (x :: p) :: ps
theorem splitB_cons (c x : UInt8) (r : Bs) : splitB c (x :: r) = if x = c then [] :: splitB c r else match splitB c r with
    | [] => [[x]]
    | p :: ps => (x :: p) :: ps := rfl
theorem splitB_ne (c : UInt8) : ∀ l, splitB c l ≠ []
  | [] => by simp [splitB]
  | x :: r => by
    unfold splitB
    split
    · simp
    · split <;> simp
theorem cut_cons (c x : UInt8) (r : Bs) : Lib.cut (x :: r) [c] = if x = c then ([], r, true) else (if (Lib.cut r [c]).2.2 = true then (x :: (Lib.cut r [c]).1, (Lib.cut r [c]).2.1, true) else (x :: r, [], false)) := by
  unfold Lib.cut
  rw [Lib.index_one, Lib.index_one]
  by_cases h : x = c
  · subst h
    rw [if_pos rfl]
    have e : Lib.indexByte (x :: r) x = 0 := by unfold Lib.indexByte; simp
    rw [e]; rfl
  · rw [if_neg h]
    have h' : (x == c) = false := by simpa using h
    have hg := Lib.indexByte_ge r c
    by_cases hr : 0 ≤ Lib.indexByte r c
    · have e : Lib.indexByte (x :: r) c = Lib.indexByte r c + 1 := by
        have hx : (Lib.indexByte r c == -1) = false := by rw [beq_eq_false_iff_ne]; omega
        rw [Lib.indexByte.eq_def]
        simp only [h', Bool.false_eq_true, if_false, hx]
      rw [e, if_pos (by omega), if_pos hr]
      simp only [if_true]
      have e2 : (Lib.indexByte r c + 1).toNat = (Lib.indexByte r c).toNat + 1 := by omega
      rw [e2, List.take_succ_cons, show (Lib.indexByte r c).toNat + 1 + [c].length = ((Lib.indexByte r c).toNat + [c].length) + 1 by omega, List.drop_succ_cons]
    · have e0 : Lib.indexByte r c = -1 := by omega
      have e : Lib.indexByte (x :: r) c = -1 := by
        rw [Lib.indexByte.eq_def]
        simp [h', e0]
      rw [e, if_neg (by omega), if_neg hr]
      rfl
theorem cut_miss (c : UInt8) : ∀ l : Bs, (Lib.cut l [c]).2.2 = false → (Lib.cut l [c]).1 = l ∧ (Lib.cut l [c]).2.1 = []
  | [], _ => ⟨rfl, rfl⟩
  | x :: r, h => by
    rw [cut_cons] at h ⊢
    by_cases hx : x = c
    · rw [if_pos hx] at h; cases h
    · rw [if_neg hx] at h ⊢
      by_cases hr : (Lib.cut r [c]).2.2 = true
      · rw [if_pos hr] at h; cases h
      · rw [if_neg hr]; exact ⟨rfl, rfl⟩
theorem splitB_cut (c : UInt8) : ∀ l : Bs, splitB c l = if (Lib.cut l [c]).2.2 = true then (Lib.cut l [c]).1 :: splitB c (Lib.cut l [c]).2.1 else [l]
  | [] => rfl
  | x :: r => by
    have ih := splitB_cut c r
    rw [cut_cons, splitB_cons]
    by_cases hx : x = c
    · rw [if_pos hx, if_pos hx]; simp
    · rw [if_neg hx, if_neg hx, ih]
      by_cases hr : (Lib.cut r [c]).2.2 = true
      · rw [if_pos hr, if_pos hr]; simp
      · rw [if_neg hr, if_neg hr]; simp
theorem cut_len (c : UInt8) : ∀ l : Bs, (Lib.cut l [c]).2.2 = true → (Lib.cut l [c]).2.1.length < l.length
  | [], h => by cases h
  | x :: r, h => by
    rw [cut_cons] at h ⊢
    by_cases hx : x = c
    · rw [if_pos hx]; simp
    · rw [if_neg hx] at h ⊢
      by_cases hr : (Lib.cut r [c]).2.2 = true
      · rw [if_pos hr]
        have := cut_len c r hr
        simp; omega
      · rw [if_neg hr] at h; cases h
theorem splitB_len (c : UInt8) : ∀ l : Bs, (splitB c l).length ≤ l.length + 1
  | [] => by simp [splitB]
  | x :: r => by
    have ih := splitB_len c r
    unfold splitB
    split
    · simpa using ih
    · split <;> rename_i h
      · simp
      · rw [h] at ih; simp at ih ⊢; omega
theorem cut_fst_len (c : UInt8) : ∀ l : Bs, (Lib.cut l [c]).1.length ≤ l.length
  | [] => Nat.le_refl _
  | x :: r => by
    have ih := cut_fst_len c r
    rw [cut_cons]
    by_cases hx : x = c
    · rw [if_pos hx]; simp
    · rw [if_neg hx]
      by_cases hr : (Lib.cut r [c]).2.2 = true
      · rw [if_pos hr]; simpa using ih
      · rw [if_neg hr]; exact Nat.le_refl _
def trimS (x : Bs) : Bs := Lib.trimB x 32
def pcs (c : UInt8) (s : Bs) : List Bs := (splitB c s).map trimS
theorem pcs_cut (c : UInt8) (s : Bs) : pcs c s = if (Lib.cut s [c]).2.2 = true then trimS (Lib.cut s [c]).1 :: pcs c (Lib.cut s [c]).2.1 else [trimS s] := by
  unfold pcs
  rw [splitB_cut]
  split <;> rfl
theorem pcs_hit {c : UInt8} {s : Bs} (h : (Lib.cut s [c]).2.2 = true) : pcs c s = trimS (Lib.cut s [c]).1 :: pcs c (Lib.cut s [c]).2.1 := by rw [pcs_cut, if_pos h]
theorem pcs_miss {c : UInt8} {s : Bs} (h : (Lib.cut s [c]).2.2 = false) : pcs c s = [trimS (Lib.cut s [c]).1] := by rw [pcs_cut, if_neg (by rw [h]; simp), (cut_miss c s h).1]
theorem splitB_mem_len (c : UInt8) : ∀ (l p : Bs), p ∈ splitB c l → p.length ≤ l.length
  | [], p, h => by simp [splitB] at h; subst h; exact Nat.le_refl _
  | x :: r, p, h => by
    rw [splitB_cons] at h
    by_cases hx : x = c
    · rw [if_pos hx] at h
      rcases List.mem_cons.1 h with rfl | h
      · simp
      · have := splitB_mem_len c r p h; simp; omega
    · rw [if_neg hx] at h
      cases hs : splitB c r with
      | nil => exact absurd hs (splitB_ne c r)
      | cons q qs =>
        rw [hs] at h
        have ih := splitB_mem_len c r
        rw [hs] at ih
        rcases List.mem_cons.1 h with rfl | h
        · have := ih q (by simp); simpa using this
        · have := ih p (by simp [h]); simp; omega
theorem trimS_len (x : Bs) : (trimS x).length ≤ x.length := by
  unfold trimS Lib.trimB Lib.trimLeftB Lib.trimRightB
  have h1 := (List.dropWhile_sublist (fun b : UInt8 => b == 32) (l := (x.reverse.dropWhile (· == 32)).reverse)).length_le
  have h2 := (List.dropWhile_sublist (fun b : UInt8 => b == 32) (l := x.reverse)).length_le
  simp only [List.length_reverse] at h1 h2
  omega
theorem pcs_mem_len {c : UInt8} {s p : Bs} (h : p ∈ pcs c s) : p.length ≤ s.length := by
  obtain ⟨q, hq, rfl⟩ := List.mem_map.1 h
  exact Nat.le_trans (trimS_len q) (splitB_mem_len c s q hq)
theorem pcs_len (c : UInt8) (s : Bs) : (pcs c s).length ≤ s.length + 1 := by unfold pcs; rw [List.length_map]; exact splitB_len c s
end Go.Proofs.YtooomjcdlfdnmaaGreatDoor.Dep

namespace Go.Proofs.YtooomjcdlfdnmaaGreatDoor.Dep
open Go Go.RowKit
def AbW {β : Type} (b : Nat) (J : β → World → Prop) : Prop := ∀ s W W', J s W → W.grownBy W' (some b) → J s W'
def SeqW {α : Type} (F : Fence) (n : Nat) (P : Program) (g : Nat) (lb : Array Value) (encs : α → Array Value) (b : Nat) (G : World → Prop) (Kp : World → World → Prop) (S Sp : List α → Prop) (R : List α → α → Prop) (w : World) : Prop :=
  ∀ (l : Nat) (J Jx : List α → World → Prop) (W : World), Kp w W → AbW b J → AbW b Jx → (∀ pre W1, J pre W1 → G W1) →
    (∀ pre x W1, J pre W1 → R pre x → YieldAt F (n - 1) P l (encs x) W1 fun e W' =>
      (e = .returned (.bool true) ∧ J (pre ++ [x]) W' ∧ Kp W1 W') ∨ (e = .returned (.bool false) ∧ Jx (pre ++ [x]) W')) →
    J [] W →
    CallsIn F n P g (#[.func (.yield l) #[] #[]] ++ lb) W fun e W' => (∃ v, e = .returned v) ∧ ((∃ xs, S xs ∧ J xs W') ∨ (∃ pre, Sp pre ∧ Jx pre W'))
variable {F : Fence} {n : Nat} {P : Program}
theorem rangeW {α : Type} {g : Operand} {ps : Array Tmp} {assign body : Code} {Q : Exit → Act → World → Prop} {a : Act} {w : World}
    (hro : F.round = none) (h1 : 1 ≤ n) {gf : Nat} {lb : Array Value} (hg : a.eval g = .func (.func gf) #[] lb) (hFg : F.fn gf) (eg : ∀ args w, (callFunc gf args).run P w = .ok (.enter gf args) w)
    {encs : α → Array Value} {b : Nat} {G : World → Prop} {Kp : World → World → Prop} {S Sp : List α → Prop} {R : List α → α → Prop} (hseq : SeqW F (n - 1) P gf lb encs b G Kp S Sp R w) (hb : b < w.heap.size)
    (hKt : ∀ {A B C : World}, Kp A B → Kp B C → Kp A C) (hKb : ∀ (W W' : World) (row : Option Nat), W.grownBy W' row → (∀ r, row = some r → w.heap.size ≤ r) → w.heap.size ≤ W.heap.size → Kp W W') (hps : ∀ x, (encs x).size = ps.size)
    (I : List α → World → Prop) (Ix : Code → List α → World → Prop) (hI : OwnFrom w.heap.size I) (hIx : ∀ c, OwnFrom w.heap.size (Ix c)) (hIb : AbW b I) (hIxb : ∀ c, AbW b (Ix c)) (hIG : ∀ pre W, I pre W → G W) (h0 : I [] w) (a₁ : α → Act)
    (hassign : ∀ (l : Nat) (x : α) (W : World) (K : Act → World → Prop), K (a₁ x) W →
      assign.wpIn (F.inRound l) (n - 1 - 1) P (Exit.then K (fun _ _ _ => False)) { tmps := (ps.zip (encs x)).foldl (fun t (p, v) => t.setIfInBounds p v) a.tmps, defers := [] } W)
    (hbody : ∀ (l : Nat) (pre : List α) (x : α) (W : World), I pre W → R pre x → body.wpIn (F.inRound l) (n - 1 - 1) P (ownPostG w.heap.size Kp I Ix (pre ++ [x]) W) (a₁ x) W)
    (hdone : ∀ (D : Nat) (xs : List α) (W : World), w.heap.size ≤ D → S xs → I xs W → W.heap[D]? = some (.deferred (some [])) → Q .normal { a with defers := { target := .collected D, args := #[] } :: a.defers } W)
    (hstop : ∀ (D : Nat) (c : Code) (pre : List α) (W : World), w.heap.size ≤ D → Sp pre → Ix c pre W → W.heap[D]? = some (.deferred (some [])) → c.wpIn F n P Q { a with defers := { target := .collected D, args := #[] } :: a.defers } W) :
    (Code.rangeFunc g ps assign body).wpIn F n P Q a w := by
  refine wpIn_rangeFunc ?_
  intro fn hfn
  rw [hro]
  obtain ⟨rec, hrec⟩ : ∃ rec : LoopState → Option Code → Loop, rec = fun st pe => { state := st, pending := pe, fn, tmps := a.tmps, params := ps, assign, body, defers := w.heap.size } := ⟨_, rfl⟩
  obtain ⟨W1, hW1⟩ : ∃ W1, (w.alloc (.deferred (some []))).alloc (.loop (rec .ready none)) = W1 := ⟨_, rfl⟩
  have hL1 : W1.heap[w.heap.size + 1]? = some (.loop (rec .ready none)) := by
    rw [← hW1]; have := World.alloc_heap_new (w.alloc (.deferred (some []))) (.loop (rec .ready none)); rwa [World.size_alloc] at this
  have hK1 : W1.heap[w.heap.size]? = some (.deferred (some [])) := by
    rw [← hW1]; exact (Below.heap_alloc _ _ _ (by simp)).trans (World.alloc_heap_new w _)
  have hI1 : I [] W1 := by rw [← hW1]; exact hI.alloc _ (hI.alloc _ h0)
  have hg1 : Kp w W1 := by
    rw [← hW1]
    exact hKt (hKb _ _ none (World.grownBy_alloc w _ none) (fun r e => by cases e) (Nat.le_refl _)) (hKb _ _ none (World.grownBy_alloc _ _ none) (fun r e => by cases e) (by simp))
  refine ⟨w.heap.size + 1, [{ target := .collected w.heap.size, args := #[] }], W1, { target := .fn (.func gf) lb, args := #[.func (.yield (w.heap.size + 1)) #[] #[]] }, W1, gf,
    #[.func (.yield (w.heap.size + 1)) #[] #[]] ++ lb, W1, ?_, ?_, ?_, ?_, fun _ => h1, ?_⟩
  · rw [← hW1, hrec]; exact run_enterLoop_outer _ _ _ _ _
  · simp only [resolve, hg]
    simp [go_sem]
  · intro f' hf'; simp [Target.leads] at hf'; subst hf'; exact hFg
  · simp [invoke, go_sem, eg]
  · have hnb : ∀ {A B : World} {k : Nat} {o : Obj}, w.heap.size ≤ k → A.heap[k]? = some o → A.grownBy B (some b) → B.heap[k]? = some o := fun hk hA hgr =>
      (hgr.block _ (Array.getElem?_eq_some_iff.1 hA).1 (fun e => by have := Option.some.inj e; omega)).trans hA
    refine (hseq (w.heap.size + 1)
      (fun pre W => I pre W ∧ W.heap[w.heap.size + 1]? = some (.loop (rec .ready none)) ∧ W.heap[w.heap.size]? = some (.deferred (some [])))
      (fun pre W => ∃ c, Ix c pre W ∧ W.heap[w.heap.size + 1]? = some (.loop (rec .done (some c))) ∧ W.heap[w.heap.size]? = some (.deferred (some [])))
      W1 hg1
      (fun s A B hs hgr => ⟨hIb s A B hs.1 hgr, hnb (by omega) hs.2.1 hgr, hnb (by omega) hs.2.2 hgr⟩)
      (fun s A B hs hgr => by
        obtain ⟨c, hc, hl, hk⟩ := hs
        exact ⟨c, hIxb c s A B hc hgr, hnb (by omega) hl hgr, hnb (by omega) hk hgr⟩)
      (fun pre W h => hIG pre W h.1)
      ?_ ⟨hI1, hL1, hK1⟩).mono ?_
    · rintro pre x W ⟨hi, hl, hk⟩ hlen
      have hlt : w.heap.size + 1 < W.heap.size := (Array.getElem?_eq_some_iff.1 hl).1
      have hy := run_yield (P := P) (args := encs x) hl (by rw [hrec]; exact hps x)
      rw [hrec] at hy
      refine ⟨fn, _, assign, body, hy, roundIn_of_wpIn hfn (hassign _ x W _ ⟨_, run_beginRound hl (by rw [hrec]), ?_⟩)⟩
      have hl2 : (W.putObj (w.heap.size + 1) (.loop { rec .ready none with state := .busy })).heap[w.heap.size + 1]? = some (.loop { rec .ready none with state := .busy }) := World.putObj_heap_same hlt
      have hk2 : (W.putObj (w.heap.size + 1) (.loop { rec .ready none with state := .busy })).heap[w.heap.size]? = some (.deferred (some [])) := (World.putObj_heap_other (by omega)).trans hk
      have hw2 : Kp W (W.putObj (w.heap.size + 1) (.loop { rec .ready none with state := .busy })) := hKb _ _ _ (grownBy_putObj' W _ _) (fun r e => by cases e; omega) (by omega)
      refine wpIn_mono (hbody _ pre x _ (hI.putObj _ hi (by omega) hl rfl) hlen) ?_
      have fin : ∀ (jump : Option Code) (W3 : World), KeepsFrom w.heap.size (W.putObj (w.heap.size + 1) (.loop { rec .ready none with state := .busy })) W3 →
          (Instr.endRound (w.heap.size + 1) jump).run P W3 = .ok (.bool jump.isNone) (W3.putObj (w.heap.size + 1) (.loop (rec (if jump.isNone then .ready else .done) jump))) ∧
          W3.heap[w.heap.size + 1]? = some (.loop { rec .ready none with state := .busy }) ∧
          (W3.putObj (w.heap.size + 1) (.loop (rec (if jump.isNone then .ready else .done) jump))).heap[w.heap.size + 1]? = some (.loop (rec (if jump.isNone then .ready else .done) jump)) ∧
          (W3.putObj (w.heap.size + 1) (.loop (rec (if jump.isNone then .ready else .done) jump))).heap[w.heap.size]? = some (.deferred (some [])) := fun jump W3 hk3 => by
        have hl3 := hk3.same _ _ (by omega) hl2 rfl
        have := run_endRound (P := P) jump hl3
        rw [hrec] at this ⊢
        exact ⟨this, by rw [hrec] at hl3; exact hl3, World.putObj_heap_same (Array.getElem?_eq_some_iff.1 hl3).1, (World.putObj_heap_other (by omega)).trans (hk3.same _ _ (Nat.le_refl _) hk2 rfl)⟩
      rintro e a3 W3 hp
      cases e with
      | normal =>
        obtain ⟨hk3, hkp3, hi3⟩ := hp
        obtain ⟨hr, hl3, hl4, hk4⟩ := fin none W3 hk3
        have := (Array.getElem?_eq_some_iff.1 hl3).1
        exact ⟨_, _, hr, .inl ⟨rfl, ⟨hI.putObj _ hi3 (by omega) hl3 rfl, hl4, hk4⟩, hKt (hKt hw2 hkp3) (hKb _ _ _ (grownBy_putObj' W3 _ _) (fun r e => by cases e; omega) (by omega))⟩⟩
      | ret =>
        obtain ⟨hk3, hi3⟩ := hp
        obtain ⟨hr, hl3, hl4, hk4⟩ := fin (some .ret) W3 hk3
        exact ⟨_, _, hr, .inr ⟨rfl, .ret, (hIx _).putObj _ hi3 (by omega) hl3 rfl, hl4, hk4⟩⟩
      | exit id =>
        obtain ⟨hk3, hi3⟩ := hp
        obtain ⟨hr, hl3, hl4, hk4⟩ := fin (some (.exit id)) W3 hk3
        exact ⟨_, _, hr, .inr ⟨rfl, .exit id, (hIx _).putObj _ hi3 (by omega) hl3 rfl, hl4, hk4⟩⟩
      | goto t =>
        obtain ⟨hk3, hi3⟩ := hp
        obtain ⟨hr, hl3, hl4, hk4⟩ := fin (some (.goto t)) W3 hk3
        exact ⟨_, _, hr, .inr ⟨rfl, .goto t, (hIx _).putObj _ hi3 (by omega) hl3 rfl, hl4, hk4⟩⟩
      | panic ch => exact hp.elim
      | outgrown => exact hp.elim
    · rintro e W2 ⟨⟨v, rfl⟩, (⟨xs, hS, hi, hl, hk⟩ | ⟨pre, hSp, c, hi, hl, hk⟩)⟩
      · exact ⟨none, _, by have := run_endLoop (P := P) hl (by rw [hrec]; simp); rw [hrec] at this; exact this, hdone _ xs _ (Nat.le_refl _) hS (hI.putObj _ hi (by omega) hl rfl) ((World.putObj_heap_other (by omega)).trans hk)⟩
      · exact ⟨some c, _, by have := run_endLoop (P := P) hl (by rw [hrec]; simp); rw [hrec] at this; exact this, hstop _ c pre _ (Nat.le_refl _) hSp ((hIx c).putObj _ hi (by omega) hl rfl) ((World.putObj_heap_other (by omega)).trans hk)⟩
end Go.Proofs.YtooomjcdlfdnmaaGreatDoor.Dep

namespace Go.Proofs.YtooomjcdlfdnmaaGreatDoor.Dep
open Go Go.RowKit Go.Shelf Go.Proofs.YtooomjcdlfdnmaaGreatDoorW.PrintWords
open Go.Proofs.YtooomjcdlfdnmaaGreatDoor.Pure (mk mk_size mk_app mk_toList mk_dataList)
attribute [local go_sem] Oper.semAt_some
def box1 (v : Value) : Obj := .cells #[v] 9 (0, 0)
def KpB (b bg : Nat) (W W' : World) : Prop := W'.heap[b]? = W.heap[b]? ∧ W'.heap[bg]? = W.heap[bg]?
theorem KpB.trans {b bg : Nat} {A B C : World} (h : KpB b bg A B) (k : KpB b bg B C) : KpB b bg A C := ⟨k.1.trans h.1, k.2.trans h.2⟩
theorem box_cell {W : World} {b : Nat} {v : Value} (h : W.heap[b]? = some (box1 v)) : W.cell? ⟨b, 0, none⟩ = some v ∧ W.frozen? ⟨b, 0, none⟩ = false := by
  constructor <;> simp [World.cell?, World.frozen?, h, box1]
theorem box_set {W : World} {b : Nat} {v : Value} (v' : Value) (h : W.heap[b]? = some (box1 v)) : (W.setCell ⟨b, 0, none⟩ v').heap[b]? = some (box1 v') := by
  simp [World.setCell, Array.getElem?_modify, h, box1]
def leftOf (b : Nat) (v : Value) (W : World) : Nat := match v with
  | .bool true => (match W.cell? ⟨b, 0, none⟩ with
    | some (.string s) => s.size
    | _ => 0) + 1
  | _ => 0
theorem leftOf_true {b : Nat} {W : World} {s : Bs} (h : W.heap[b]? = some (box1 (.string (mk s)))) : leftOf b (.bool true) W = s.length + 1 := by
  unfold leftOf; rw [(box_cell h).1]; simp only [mk_size]
theorem cut_calls (rest : Bs) (c : UInt8) (hs : rest.length < 4294967281) (w : World) (hG : GL w) :
    Calls Tryz.prog 169 #[.string (mk rest), .string ⟨#[c]⟩] w fun e w' => e = .returned (.tuple #[.string (mk (Lib.cut rest [c]).1), .string (mk (Lib.cut rest [c]).2.1), .bool (Lib.cut rest [c]).2.2]) ∧ Aside0 (∃ nd, w' = w.drewN nd) := by
  obtain ⟨m, hm⟩ := hG.maxLen
  refine (Tryz.strings_Cut (mk rest) ⟨#[c]⟩ m w (by rw [mk_size]; exact hs) hm).mono ?_
  rintro e w' ⟨rfl, nd, rfl⟩
  rw [mk_dataList]
  exact ⟨rfl, ⟨nd, rfl⟩⟩
theorem trim_calls (x : Bs) (hs : x.length < 4294967281) (w : World) :
    Calls Tryz.prog 201 #[.string (mk x), .string ⟨#[32]⟩] w fun e w' => e = .returned (.string (mk (trimS x))) ∧ Aside0 (∃ nd, w' = w.drewN nd) := by
  refine (Tryz.strings_Trim_one (mk x) 32 (by decide) w (by rw [mk_size]; omega)).mono ?_
  rintro e w' ⟨rfl, hw⟩
  rw [mk_dataList]
  refine ⟨rfl, ?_⟩
  rcases hw with rfl | rfl
  · exact ⟨0, rfl⟩
  · exact ⟨1, rfl⟩
theorem grown_box (wr : World) (b : Nat) (v : Value) (n0 nd : Nat) : wr.grownBy (((wr.drewN n0).setCell ⟨b, 0, none⟩ v).drewN nd) (some b) :=
  ⟨rfl, rfl, rfl, by show wr.heap.size ≤ (wr.setCell ⟨b, 0, none⟩ v).heap.size; simp, fun k _ hk => Below.heap_setCell wr ⟨b, 0, none⟩ v k (fun e => hk (by rw [e]))⟩
set_option maxRecDepth 100000 in
set_option maxHeartbeats 2000000 in
theorem pieces_seq (n : Nat) (hn : 1 ≤ n) (b bg : Nat) (hbg : b ≠ bg) (s : Bs) (c : UInt8) (hs : s.length < 4294967281) (w : World) (hb : w.heap[b]? = some (box1 (.string (mk s)))) (hg : w.heap[bg]? = some (box1 (.string ⟨#[c]⟩))) :
    SeqW Fence.wide n Tryz.prog 200 #[.pointer (some ⟨b, 0, none⟩), .pointer (some ⟨bg, 0, none⟩)] (fun x : Bs => #[.string (mk x)]) b GL (KpB b bg) (fun xs => xs = pcs c s) (fun _ => True) (fun pre x => (pre ++ [x]) <+: pcs c s) w := by
  intro l J Jx W hW hJ hJx hG hY h0
  have hb0 := hW.1.trans hb
  have hg0 := hW.2.trans hg
  clear hW hb hg
  refine callsIn_of_wp Tryz.func200 rfl trivial ?_ rfl
  simp only [Tryz.ntmps200, List.size_toArray, List.length_cons, List.length_nil, Nat.reduceAdd, Nat.reduceSub, Array.replicate_succ, Array.replicate_zero, List.push_toArray, List.append_toArray, List.nil_append, List.cons_append]
  gi_wp2
  gi_loopw [4] (fun v4 wr => ∃ (pre : List Bs) (rest : Bs), Aside0 (J pre wr) ∧ Aside0 (wr.heap[b]? = some (box1 (.string (mk rest)))) ∧ Aside0 (wr.heap[bg]? = some (box1 (.string ⟨#[c]⟩))) ∧ Aside0 (rest.length < 4294967281) ∧ ((v4 = .bool true ∧ Aside0 (pcs c s = pre ++ pcs c rest)) ∨ (v4 = .bool false ∧ Aside0 (pre = pcs c s)))) (fun v4 wr => leftOf b v4 wr)
  case atStart => exact ⟨[], s, ⟨h0⟩, ⟨hb0⟩, ⟨hg0⟩, ⟨hs⟩, .inl ⟨rfl, ⟨rfl⟩⟩⟩
  case round =>
    obtain ⟨pre, rest, HJ, HB, HG, HS, ⟨rfl, HE⟩ | ⟨rfl, HE⟩⟩ := hrel
    · have hx1 := (box_cell HB.out).1
      have hx2 := (box_cell HB.out).2
      have hx3 := (box_cell HG.out).1
      have HGL := Aside0.mk (hG pre wr HJ.out)
      have HL1 := Aside0.mk (Nat.lt_of_le_of_lt (cut_fst_len c rest) HS.out)
      have HLEN := Aside0.mk (show (pre ++ [trimS (Lib.cut rest [c]).1]) <+: pcs c s by
        rw [HE.out]
        cases hc : (Lib.cut rest [c]).2.2
        · rw [pcs_miss hc]; exact List.prefix_refl _
        · rw [pcs_hit hc]; exact ⟨pcs c (Lib.cut rest [c]).2.1, by simp⟩)
      cases hc : (Lib.cut rest [c]).2.2
      all_goals (
        gi_wp2_with (first
          | (refine ⟨trivial, ?_⟩; gi_at_call 169; refine (callsIn_wide.2 (cut_calls rest c HS.out _ HGL.out)).mono ?_; rintro e w1 ⟨rfl, ⟨nd, hw1⟩⟩; have HW1 := Aside0.mk hw1; have hh1 : w1.heap = wr.heap := (by rw [hw1]; rfl); have hy1 : w1.cell? ⟨b, 0, none⟩ = some (.string (mk rest)) := (by rw [World.cell?_of_block (w := wr) (by rw [hh1])]; exact hx1); have hy2 : w1.frozen? ⟨b, 0, none⟩ = false := (by rw [World.frozen?_of_block (w := wr) (by rw [hh1])]; exact hx2); clear hw1 hh1; rw [hc]))
        refine ⟨trivial, ?_⟩
        gi_at_call 201
        refine (callsIn_wide.2 (trim_calls _ HL1.out _)).mono ?_
        rintro e w3 ⟨rfl, ⟨nd3, hw3⟩⟩
        have hgr : wr.grownBy w3 (some b) := (by rw [hw3, HW1.out]; exact grown_box wr b _ _ _)
        have hB3 : w3.heap[b]? = some (box1 (.string (mk (Lib.cut rest [c]).2.1))) := (by rw [hw3]; exact box_set _ (by rw [HW1.out]; exact HB.out))
        have HB3 := Aside0.mk hB3
        have HG3 := Aside0.mk ((hgr.block bg (Array.getElem?_eq_some_iff.1 HG.out).1 (fun e => hbg (Option.some.inj e).symm)).trans HG.out)
        obtain ⟨fn, tmps, assign, body, hy, hR⟩ := hY pre (trimS (Lib.cut rest [c]).1) w3 (hJ pre wr w3 HJ.out hgr) HLEN.out
        clear hw3 hgr hB3
        gi_wp2
        refine hR.mono ?_
        rintro e W' (⟨rfl, hJ', hk⟩ | ⟨rfl, hJx'⟩))
      · gi_wp2
        have hB4 := hk.1.trans HB3.out
        refine ⟨⟨pre ++ [trimS (Lib.cut rest [c]).1], (Lib.cut rest [c]).2.1, ⟨hJ'⟩, ⟨hB4⟩, ⟨hk.2.trans HG3.out⟩, ⟨by rw [(cut_miss c rest hc).2]; decide⟩, .inr ⟨rfl, ⟨by rw [HE.out, pcs_miss hc]⟩⟩⟩, ?_⟩
        rw [leftOf_true HB.out]
        exact Nat.succ_pos _
      · gi_wp2
        refine bodyPost_ret (v := .tuple #[]) (results_none rfl _ _ _) rfl ?_
        exact ⟨⟨_, rfl⟩, .inr ⟨_, trivial, hJx'⟩⟩
      · gi_wp2
        have hB4 := hk.1.trans HB3.out
        refine ⟨⟨pre ++ [trimS (Lib.cut rest [c]).1], (Lib.cut rest [c]).2.1, ⟨hJ'⟩, ⟨hB4⟩, ⟨hk.2.trans HG3.out⟩, ⟨Nat.lt_trans (cut_len c rest hc) HS.out⟩, .inl ⟨rfl, ⟨by rw [HE.out, pcs_hit hc, List.append_assoc]; rfl⟩⟩⟩, ?_⟩
        rw [leftOf_true HB.out, leftOf_true hB4]
        have := cut_len c rest hc
        omega
      · gi_wp2
        refine bodyPost_ret (v := .tuple #[]) (results_none rfl _ _ _) rfl ?_
        exact ⟨⟨_, rfl⟩, .inr ⟨_, trivial, hJx'⟩⟩
    · gi_wp2
      go_end0
      exact ⟨⟨_, rfl⟩, .inl ⟨_, rfl, HE.out ▸ HJ.out⟩⟩
end Go.Proofs.YtooomjcdlfdnmaaGreatDoor.Dep

namespace Go.Proofs.YtooomjcdlfdnmaaGreatDoor.Dep
open Go Go.RowKit Go.Shelf Go.Proofs.YtooomjcdlfdnmaaGreatDoorW.PrintWords
open Go.Proofs.YtooomjcdlfdnmaaGreatDoor.Pure (mk mk_size mk_app mk_toList mk_dataList)
attribute [local go_sem] Oper.semAt_some
structure One (b : Nat) (w w' : World) : Prop where
  os : w'.os = w.os
  tape : w'.tape = w.tape
  output : w'.output = w.output
  size : w.heap.size ≤ w'.heap.size
  block : ∀ k, k < w.heap.size → k ≠ b → w'.heap[k]? = w.heap[k]?
namespace One
variable {b : Nat} {w w1 w' : World}
theorem refl (b : Nat) (w : World) : One b w w := ⟨rfl, rfl, rfl, Nat.le_refl _, fun _ _ _ => rfl⟩
theorem trans (h : One b w w1) (k : One b w1 w') : One b w w' :=
  ⟨k.os.trans h.os, k.tape.trans h.tape, k.output.trans h.output, Nat.le_trans h.size k.size, fun i hi h1 => (k.block i (Nat.lt_of_lt_of_le hi h.size) h1).trans (h.block i hi h1)⟩
theorem below (h : Below w.heap.size w w') : One b w w' := ⟨h.os, h.tape, h.output, h.size, fun k hk _ => h.block k hk⟩
theorem alloc (h : One b w w') (o : Obj) : One b w (w'.alloc o) := h.trans (below ((Below.refl _ w').alloc (Nat.le_refl _) o))
theorem grown (h : One b w w1) {row : Option Nat} (hg : w1.grownBy w' row) (hr : ∀ r, row = some r → r = b ∨ w.heap.size ≤ r) : One b w w' :=
  ⟨hg.os.trans h.os, hg.tape.trans h.tape, hg.output.trans h.output, Nat.le_trans h.size hg.size, fun k hk h1 => (hg.block k (Nat.lt_of_lt_of_le hk h.size) (fun e => by
    rcases hr k e.symm with e | e
    · exact h1 e
    · omega)).trans (h.block k hk h1)⟩
theorem below' (h : One b w w1) (hb : Below w.heap.size w1 w') : One b w w' := ⟨hb.os.trans h.os, hb.tape.trans h.tape, hb.output.trans h.output, Nat.le_trans h.size hb.size, fun k hk h1 => (hb.block k hk).trans (h.block k hk h1)⟩
theorem under (h : One b w w') {B : Nat} (hw : B ≤ w.heap.size) (hb : B ≤ b) : Below B w w' := ⟨h.os, h.tape, h.output, h.size, fun k hk => h.block k (by omega) (by omega)⟩
theorem row (h : One b w w') {k : Nat} {o : Obj} (hk : w.heap[k]? = some o) (hb : k ≠ b) : w'.heap[k]? = some o := (h.block k (Array.getElem?_eq_some_iff.1 hk).1 hb).trans hk
end One
theorem gl_one {b : Nat} {w w' : World} (h : GL w) (ho : One b w w') (hb : 4 ≤ b) : GL w' := h.below' (Nat.le_refl _) (ho.under h.size hb)
theorem info9 : (Tryz.prog.info? 9).map (fun i => (i.zero, i.size, i.bytes)) = some (some (.string ⟨#[]⟩), 1, 16) := by kernel_rfl
def strV (x : Bs) : Value := .string (mk x)
def RowI (Bx : Nat) (b : Nat) (w : World) (pre : List Bs) (W : World) : Prop := (∃ v, Boxed W Bx 70 v ∧ W.ownsRow w.heap.size 9 1 v pre.length (pre.map strV) ∧ True) ∧ One b w W
theorem rowI_from {Bx b B : Nat} {w : World} (hB : w.heap.size ≤ B) : OwnFrom B (RowI Bx b w) := fun pre W W' row h hg hr =>
  ⟨(holdsRow_own w.heap.size Bx 70 9 1 (fun pre : List Bs => pre.length) (fun pre => pre.map strV) (fun _ _ => True)) pre W W' row h.1 hg (fun r e => (hr r e).2),
    h.2.grown hg (fun r e => .inr (Nat.le_trans hB (hr r e).1))⟩
theorem own_base' {W : World} {base e size k : Nat} {v : Value} {xs : List Value} (h : W.ownsRow base e size v k xs) {g : Nat} (hg : v.ownBlock = some g) : base ≤ g := by
  rcases h.2 with ⟨rfl, _⟩ | ⟨g', cap, cur, rfl, hb, _⟩
  · simp [Value.ownBlock] at hg
  · simp [Value.ownBlock] at hg; omega
theorem rowI_b {Bx b : Nat} {w : World} (hb : b < w.heap.size) (hx : Bx ≠ b) : AbW b (RowI Bx b w) := fun pre W W' h hg => by
  obtain ⟨⟨v, hv, hr, _⟩, ho⟩ := h
  refine ⟨⟨v, hv.kept hg (fun e => hx (Option.some.inj e)), hr.kept hg (.inr fun e => ?_), trivial⟩, ho.grown hg (fun r e => .inl (Option.some.inj e).symm)⟩
  have := own_base' hr e
  omega
theorem kpB_of {b bg B : Nat} {W W' : World} {row : Option Nat} (hg : W.grownBy W' row) (hr : ∀ r, row = some r → B ≤ r) (hb : b < B) (hbg : bg < B) (hW : B ≤ W.heap.size) : KpB b bg W W' :=
  ⟨hg.block b (by omega) (fun e => by have := hr b e.symm; omega), hg.block bg (by omega) (fun e => by have := hr bg e.symm; omega)⟩
set_option maxRecDepth 100000 in
set_option maxHeartbeats 4000000 in
theorem appendSeq_calls (n : Nat) (hn : 4 ≤ n) (b bg : Nat) (hbg : b ≠ bg) (s : Bs) (c : UInt8) (hs : s.length < 4294967281) (w : World) (hGL : GL w) (hbN : 4 ≤ b) (hb : w.heap[b]? = some (box1 (.string (mk s)))) (hg : w.heap[bg]? = some (box1 (.string ⟨#[c]⟩))) :
    CallsIn Fence.wide n Tryz.prog 199 #[.slice none 0 0, .func (.func 200) #[] #[.pointer (some ⟨b, 0, none⟩), .pointer (some ⟨bg, 0, none⟩)]] w fun e w' => ∃ v, e = .returned v ∧ w'.ownsRow w.heap.size 9 1 v (pcs c s).length ((pcs c s).map strV) ∧ One b w w' := by
  have h1 : 1 ≤ n := by omega
  have hblt := (Array.getElem?_eq_some_iff.1 hb).1
  have hglt := (Array.getElem?_eq_some_iff.1 hg).1
  refine callsIn_of_wp_marks Tryz.func199 rfl trivial ?_ rfl
  simp only [Tryz.ntmps199, List.size_toArray, List.length_cons, List.length_nil, Nat.reduceAdd, Nat.reduceSub, Array.replicate_succ, Array.replicate_zero, List.push_toArray, List.append_toArray, List.nil_append, List.cons_append]
  have hb1 := (Below.heap_alloc w (.cells #[.slice none 0 0] 70) b hblt).trans hb
  have hg1 := (Below.heap_alloc w (.cells #[.slice none 0 0] 70) bg hglt).trans hg
  have hsq := pieces_seq (n - 1) (by omega) b bg hbg s c hs _ hb1 hg1
  obtain ⟨i0, hi, hz0, hz1, hz2⟩ := info_parts info9
  have hlen := pcs_len c s
  have HB := Aside0.mk hb1
  have HG := Aside0.mk hg1
  have HLT := Aside0.mk (And.intro hblt hglt)
  have hX0 : Boxed (w.alloc (.cells #[.slice none 0 0] 70)) w.heap.size 70 (.slice none 0 0) := Boxed.new w _ _
  have hI0 : RowI w.heap.size b w [] (w.alloc (.cells #[.slice none 0 0] 70)) := ⟨⟨_, hX0, World.ownsRow_nil _ _ _ _, trivial⟩, (One.refl b w).alloc _⟩
  have hsz : (w.alloc (.cells #[.slice none 0 0] 70)).heap.size = w.heap.size + 1 := by simp
  have HSQ := Aside0.mk hsq
  have HI0 := Aside0.mk hI0
  clear hb hg hb1 hg1 hsq hI0 hX0
  gi_wp2
  refine rangeW (F := Fence.wide) (b := b) (G := GL) (Kp := KpB b bg) rfl h1 rfl trivial (enters_of Tryz.func200 (by kernel_rfl) rfl) HSQ.out (by rw [hsz]; omega) KpB.trans
    (fun W W' row hg hr hW => kpB_of hg hr (by rw [hsz]; omega) (by rw [hsz]; omega) hW) (fun _ => rfl)
    (RowI w.heap.size b w) (fun _ _ _ => False) (rowI_from (by rw [hsz]; omega)) (fun _ _ _ _ _ hs _ _ => hs) (rowI_b hblt (by omega)) (fun _ _ _ _ hs _ => hs) (fun _ _ h => gl_one hGL h.2 hbN) HI0.out
    (fun x => { tmps := #[.slice none 0 0, .func (.func 200) #[] #[.pointer (some ⟨b, 0, none⟩), .pointer (some ⟨bg, 0, none⟩)], .pointer (some ⟨w.heap.size, 0, none⟩), undef, .slice none 0 0, .string (mk x), .func (.func 200) #[] #[.pointer (some ⟨b, 0, none⟩), .pointer (some ⟨bg, 0, none⟩)], .string (mk x), undef, undef, undef, undef, undef], defers := [] }) ?assign ?body ?done ?stop
  case assign =>
    intro l x W K hK
    gi_wp2
    exact hK
  case body =>
    rintro l pre x W ⟨⟨v, hv, hrow, -⟩, hone⟩ hpx
    have hpl := hpx.length_le
    rw [List.length_append] at hpl
    simp only [List.length_cons, List.length_nil] at hpl
    clear hpx
    have hc0 := hv.cell
    gi_wp2_with (gi_at_builtin; refine wpListIn_append_own _ rfl _ _ 70 rfl w.heap.size 9 i0 (.string ⟨#[]⟩) 1 16 Tryz.underlying70 hi hz0 hz1 hz2 rfl (by decide) _ _ _ rfl (hrow.alloc _) ⟨W.heap.size, 0, none⟩ 1 1 [strV x] rfl rfl (cell_one_new _ _ _) (by simp [Value.oneCell', strV]) (by unfold maxLen; omega) (by omega) (by have := hone.size; simp; omega) ?_; intro v' w1 hown' hgrow _; obtain ⟨g', cap', rfl⟩ := ownsRow_succ hown'; obtain ⟨hv1, hv2, hr2, hk2, hb2⟩ := hv.appended (by decide) hrow hone.size (Nat.le_refl _) hown' hgrow; have hc1 := hv1.cell; have hf1 := hv1.frozen)
    exact ⟨hk2.from _, ⟨hb2.block b HLT.out.1, hb2.block bg HLT.out.2⟩, ⟨_, hv2, by simpa using hr2, trivial⟩, hone.below' hb2⟩
  case done =>
    rintro D ys W hD rfl ⟨⟨v, hv, hrow, -⟩, hone⟩ hK
    have hc0 := hv.cell
    gi_wp2
    refine ⟨by simp, .inl ⟨_, _, rfl, run_takeDeferred hK, ?_⟩⟩
    refine ⟨_, results_tmp rfl _ _ _, v, rfl, ownsRow_putObj hrow _ hK rfl, hone.grown (grownBy_putObj' _ _ _) (fun r e => .inr ?_)⟩
    have := Option.some.inj e
    rw [hsz] at hD
    omega
  case stop =>
    rintro D c' pre W hD _ hf
    exact hf.elim
set_option maxRecDepth 100000 in
set_option maxHeartbeats 1000000 in
theorem collect_calls (b bg : Nat) (hbg : b ≠ bg) (s : Bs) (c : UInt8) (hs : s.length < 4294967281) (w : World) (hGL : GL w) (hbN : 4 ≤ b) (hb : w.heap[b]? = some (box1 (.string (mk s)))) (hg : w.heap[bg]? = some (box1 (.string ⟨#[c]⟩))) :
    Calls Tryz.prog 139 #[.func (.func 200) #[] #[.pointer (some ⟨b, 0, none⟩), .pointer (some ⟨bg, 0, none⟩)]] w fun e w' => ∃ v, e = .returned v ∧ w'.ownsRow w.heap.size 9 1 v (pcs c s).length ((pcs c s).map strV) ∧ One b w w' := by
  have HA := fun W hG h1 h2 => (callsIn_wide (n := 8)).1 (appendSeq_calls 8 (by decide) b bg hbg s c hs W hG hbN h1 h2)
  have HB := Aside0.mk hb
  have HG := Aside0.mk hg
  clear hb hg
  go_enter Tryz.func139, Tryz.ntmps139
  go_wp2_with (first
    | (go_at_call 199; refine (HA _ hGL HB.out HG.out).mono ?_; rintro e w1 ⟨v, rfl, hr, ho⟩)
    | go_in)
  go_ret
  exact ⟨v, rfl, hr, ho⟩
theorem pieces_calls (s : Bs) (c : UInt8) (w : World) :
    Calls Tryz.prog 140 #[.string (mk s), .string ⟨#[c]⟩] w fun e w' => e = .returned (.func (.func 200) #[] #[.pointer (some ⟨w.heap.size, 0, none⟩), .pointer (some ⟨w.heap.size + 1, 0, none⟩)]) ∧ w' = (w.alloc (box1 (.string (mk s)))).alloc (box1 (.string ⟨#[c]⟩)) := by
  go_enter Tryz.func140, Tryz.ntmps140
  go_wp2
  go_ret
  exact ⟨rfl, rfl⟩
end Go.Proofs.YtooomjcdlfdnmaaGreatDoor.Dep

namespace Go.Proofs.YtooomjcdlfdnmaaGreatDoor.Dep
open Go Go.RowKit
theorem results_cell_cell {fn : Func} {p u : Tmp} {ty tu : TypeId} (h : fn.results = #[.cell p ty, .cell u tu]) (tmps : Array Value) (P : Program) (w : World) :
    (results fn tmps).run P w =
      ((asAddr (tmps.getD p undef)).run P w).andThen fun a w₁ => ((loadVar ty a).run P w₁).andThen fun v w₂ => ((asAddr (tmps.getD u undef)).run P w₂).andThen fun a' w₃ => ((loadVar tu a').run P w₃).andThen fun v' w₄ => .ok (.tuple #[v, v']) w₄ := by
  simp only [results, h]
  simp [Sem.run_bind, Result.andThen]
def markOf (D : Nat) : Deferred := { target := .collected D, args := #[] }
structure Taken (Ds : List Nat) (w w' : World) : Prop where
  os : w'.os = w.os
  tape : w'.tape = w.tape
  output : w'.output = w.output
  size : w'.heap.size = w.heap.size
  block : ∀ k, k ∉ Ds → w'.heap[k]? = w.heap[k]?
theorem Taken.refl (w : World) : Taken [] w w := ⟨rfl, rfl, rfl, rfl, fun _ _ => rfl⟩
theorem Taken.below {Ds : List Nat} {B : Nat} {w0 w w' : World} (h : Taken Ds w w') (hb : Below B w0 w) (hB : ∀ k, k < B → k ∉ Ds) : Below B w0 w' :=
  ⟨h.os.trans hb.os, h.tape.trans hb.tape, h.output.trans hb.output, by rw [h.size]; exact hb.size, fun k hk => (h.block k (hB k hk)).trans (hb.block k hk)⟩
variable {F : Fence} {n : Nat} {P : Program}
theorem leaves_marks {fn : Func} {tmps : Array Value} {R : Ending → World → Prop} : ∀ (Ds : List Nat) (W : World), Ds.Nodup → (∀ D ∈ Ds, W.heap[D]? = some (.deferred (some []))) →
    (∀ W', Taken Ds W W' → LeavesIn F n P fn tmps R [] .returning W') → LeavesInM F n P fn tmps R (Ds.map markOf) .returning W
  | [], W, _, _, h => h W (Taken.refl W)
  | D :: Ds, W, hn, hd, h => by
    obtain ⟨hn1, hn2⟩ := List.nodup_cons.1 hn
    refine ⟨by simp, .inl ⟨D, _, rfl, run_takeDeferred (hd D (by simp)), ?_⟩⟩
    have hlt := (Array.getElem?_eq_some_iff.1 (hd D (by simp))).1
    refine leaves_marks Ds _ hn2 (fun D' hD' => (World.putObj_heap_other (fun e => hn1 (by rw [← e]; exact hD'))).trans (hd D' (by simp [hD']))) (fun W' ht => h W' ?_)
    refine ⟨ht.os, ht.tape, ht.output, by rw [ht.size]; simp [World.putObj], fun k hk => ?_⟩
    simp only [List.mem_cons, not_or] at hk
    exact (ht.block k hk.2).trans (World.putObj_heap_other hk.1)
theorem boxC {W : World} {b : Nat} {v : Value} {t : TypeId} (h : W.heap[b]? = some (.cells #[v] t (0, 0))) : W.cell? ⟨b, 0, none⟩ = some v ∧ W.frozen? ⟨b, 0, none⟩ = false := by
  constructor <;> simp [World.cell?, World.frozen?, h]
theorem boxSet {W : World} {b : Nat} {v : Value} {t : TypeId} (v' : Value) (h : W.heap[b]? = some (.cells #[v] t (0, 0))) : (W.setCell ⟨b, 0, none⟩ v').heap[b]? = some (.cells #[v'] t (0, 0)) := by
  simp [World.setCell, Array.getElem?_modify, h]
end Go.Proofs.YtooomjcdlfdnmaaGreatDoor.Dep

namespace Go.Proofs.YtooomjcdlfdnmaaGreatDoor.Dep
open Go Go.RowKit Go.Proofs.YtooomjcdlfdnmaaGreatDoorW.PrintWords
variable {F : Fence} {n : Nat} {P : Program} {ops : Array Oper} {rest : List Oper} {o : Oper} {a : Act} {Q : Exit → Act → World → Prop} {α : Type}
theorem R_append_in (d : Kd α) {w0 W : World} (base : Nat) (hgd : o.guard = none) (s x : Operand) (t e : TypeId) (z : Value) (bytes : Nat)
    (ho : o.op = .call { callee := .builtin .append, args := #[s, x], argTypes := #[t, t] })
    (ht : P.underlying t = some (.slice e)) (hinfo : (P.info? e).map (fun i => (i.zero, i.size, i.bytes)) = some (some z, d.sz, bytes)) (hz : z.cells.size = d.sz) (hs0 : 0 < d.sz) (hb0 : 0 < bytes)
    (v : Value) (xs : List α) (p : α) (cs : List Value) (ok okp : Nat → Prop) (hs : a.eval s = v) (hx : a.eval x = .slice (some ⟨W.heap.size, 0, none⟩) 1 1) (hp : d.M W base okp p cs) (hokp : ∀ k, okp k → ok k ∧ some k ≠ v.ownBlock) (hfresh : ∀ k, W.heap.size ≤ k → ok k)
    (HO : d.R e W base ok v xs) (HB : Below base w0 W) (hbase : base ≤ W.heap.size) (hl : (xs.length + 1) * bytes ≤ 140737488355328)
    (h : ∀ v1 w1, d.R e w1 base ok v1 (xs ++ [p]) → Below base w0 w1 → W.grownBy w1 v.ownBlock → (v1.ownBlock = v.ownBlock ∨ ∃ b, v1.ownBlock = some b ∧ W.heap.size ≤ b) → wpListIn F n P ops Q rest (a.put o.dst v1) w1) :
    wpListIn F n P ops Q (o :: rest) a (W.alloc (.cells cs.toArray e)) := by
  obtain ⟨h0, inner, hown, hr⟩ := HO
  obtain ⟨i0, hi, hzz⟩ := Option.map_eq_some_iff.1 hinfo
  simp only [Prod.mk.injEq] at hzz
  obtain ⟨hz0, hz1, hz2⟩ := hzz
  have hlen : xs.length + 1 ≤ 140737488355328 := Nat.le_trans (Nat.le_mul_of_pos_right _ hb0) hl
  refine wpListIn_append_own_at (w := W.alloc (.cells cs.toArray e)) hgd s x t ho base e i0 z d.sz bytes ht hi hz0 hz1 hz2 hz hs0 v xs.length inner hs (hown.alloc _) ⟨W.heap.size, 0, none⟩ 1 1 cs hx (by rw [d.K_len (d.K_of_M hp)]; simp)
    (by simpa using World.news_of_block (cs := cs.toArray) (t := e) (fr := (0, 0)) (heap_alloc_new W (.cells cs.toArray e))) (d.K_one (d.K_of_M hp)) (by simp only [maxLen]; omega) hl (by simp; omega) ?_
  intro v1 w1 hown1 hg _ hat
  have hg1 : W.grownBy w1 v.ownBlock := World.grownBy.trans (World.grownBy_alloc W _ _) hg
  have hat1 : v1.ownBlock = v.ownBlock ∨ ∃ b, v1.ownBlock = some b ∧ W.heap.size ≤ b := by
    rcases hat with hat | hat
    · exact .inl hat
    · exact .inr ⟨_, hat, by simp⟩
  exact h v1 w1 (Kd.R_appended h0 hr hp hokp hfresh hown1 hg1 hat1) ((HB.alloc hbase _).grown hg (by simp; omega) (own_base hown)) hg1 hat1
theorem S_append_in (d : Kd α) {w0 W : World} (base : Nat) (hgd : o.guard = none) (s x : Operand) (t e : TypeId) (z : Value) (bytes : Nat)
    (ho : o.op = .call { callee := .builtin .append, args := #[s, x], argTypes := #[t, t] })
    (ht : P.underlying t = some (.slice e)) (hinfo : (P.info? e).map (fun i => (i.zero, i.size, i.bytes)) = some (some z, d.sz, bytes)) (hz : z.cells.size = d.sz) (hs0 : 0 < d.sz) (hb0 : 0 < bytes)
    (v : Value) (xs : List α) (p : α) (cs : List Value) (ok okp : Nat → Prop) (hs : a.eval s = v) (hx : a.eval x = .slice (some ⟨W.heap.size, 0, none⟩) 1 1) (hp : d.M W base okp p cs) (hokp : ∀ k, okp k → ok k ∧ some k ≠ v.ownBlock) (hfresh : ∀ k, W.heap.size ≤ k → ok k)
    (HO : Kd.S d e W base (fun k => ok k ∧ ¬ okp k) v xs) (HB : Below base w0 W) (hbase : base ≤ W.heap.size) (hl : (xs.length + 1) * bytes ≤ 140737488355328)
    (h : ∀ v1 w1, Kd.S d e w1 base ok v1 (xs ++ [p]) → Below base w0 w1 → W.grownBy w1 v.ownBlock → (v1.ownBlock = v.ownBlock ∨ ∃ b, v1.ownBlock = some b ∧ W.heap.size ≤ b) → wpListIn F n P ops Q rest (a.put o.dst v1) w1) :
    wpListIn F n P ops Q (o :: rest) a (W.alloc (.cells cs.toArray e)) := by
  obtain ⟨f, hf, hR⟩ := Kd.S_tag HO xs.length okp (fun _ hk h2 => h2.2 hk)
  refine R_append_in (Kd.tag f d) base hgd s x t e z bytes ho ht hinfo hz hs0 hb0 v xs.zipIdx (p, xs.length) cs ok okp hs hx (d.M_mono (fun k hk => ⟨hk, hf k hk⟩) hp) hokp hfresh (Kd.R_mono hR (fun _ hk => hk.1)) HB hbase (by rw [List.length_zipIdx]; exact hl) ?_
  intro v1 w1 hr
  rw [← Kd.zip_snoc] at hr
  exact h v1 w1 ⟨f, hr⟩
end Go.Proofs.YtooomjcdlfdnmaaGreatDoor.Dep

namespace Go.Proofs.YtooomjcdlfdnmaaGreatDoor.Dep
open Go Go.RowKit Go.Proofs.YtooomjcdlfdnmaaGreatDoorW.PrintWords
variable {P : Program} {ops : Array Oper} {rest : List Oper} {o : Oper} {a : Act} {Q : Exit → Act → World → Prop} {α : Type}
theorem run_append_two (t tx ty e e' : TypeId) (ht : P.underlying t = some (.slice e)) (hx : P.underlying tx = some (.slice e')) (v x : Value) (w : World) :
    (Builtin.append_ #[t, tx] ty #[v, x]).run P w = (Builtin.append_ #[t, t] ty #[v, x]).run P w := by
  cases v <;> simp [Builtin.append_, Sem.run_bind, run_underlying ht, run_underlying hx, Result.andThen_ok, Sem.run_pure]
theorem append_two_at (hgd : o.guard = none) (s x : Operand) (t tx : TypeId) {w : World}
    (ho : o.op = .call { callee := .builtin .append, args := #[s, x], argTypes := #[t, tx] }) (e' : TypeId) (hx' : P.underlying tx = some (.slice e'))
    (base : Nat) (e : TypeId) (i : TypeInfo) (z : Value) (size bytes : Nat) (ht : P.underlying t = some (.slice e)) (hi : P.info? e = some i) (hz : i.zero = some z)
    (hsize : i.size = size) (hby : i.bytes = bytes) (hzs : z.cells.size = size) (hsz : 0 < size)
    (v : Value) (n : Nat) (xs : List Value) (hs : a.eval s = v) (hown : w.ownsRow base e size v n xs)
    (ad : Addr) (m c : Nat) (news : List Value) (hx : a.eval x = .slice (some ad) m c) (hl : news.length = m * size) (hnews : ∀ j u, news[j]? = some u → w.cell? (ad.add j) = some u) (h1 : ∀ u ∈ news, u.oneCell' = true)
    (h63 : n + m ≤ maxLen) (hbytes : (n + m) * bytes ≤ 140737488355328) (hbase : base ≤ w.heap.size)
    (h : ∀ v' w', w'.ownsRow base e size v' (n + m) (xs ++ news) → w.grownBy w' v.ownBlock → (v'.ownBlock = v.ownBlock ∨ v'.ownBlock = some w.heap.size) → wpList P ops Q rest (a.put o.dst v') w') :
    wpList P ops Q (o :: rest) a w := by
  refine wpList_plain hgd fun K hK => ?_
  obtain ⟨v', w', hr, h2, h3, h4, h5⟩ := run_append_own_at (P := P) w base t o.type e i z size bytes ht hi hz hsize hby hzs hsz v n xs hown ad m c news hl hnews h1 h63 hbytes hbase
  rw [← run_append_two t tx o.type e e' ht hx'] at hr
  unfold Oper.wp execOp
  simp only [ho, resolve, invoke, builtin, Sem.run_bind, Sem.run_pure, Result.andThen_ok, List.map_toArray, List.map_cons, List.map_nil, hs, hx, hr]
  exact hK _ _ (h v' w' h2 h3 h5)
theorem R_append_one (d : Kd α) {w0 W : World} (base : Nat) (hgd : o.guard = none) (s x : Operand) (t tx e e' : TypeId) (z : Value) (bytes : Nat)
    (ho : o.op = .call { callee := .builtin .append, args := #[s, x], argTypes := #[t, tx] }) (hx' : P.underlying tx = some (.slice e'))
    (ht : P.underlying t = some (.slice e)) (hinfo : (P.info? e).map (fun i => (i.zero, i.size, i.bytes)) = some (some z, d.sz, bytes)) (hz : z.cells.size = d.sz) (hs0 : 0 < d.sz) (hb0 : 0 < bytes)
    (v : Value) (xs : List α) (p : α) (cs : List Value) (ok okp : Nat → Prop) (ad : Addr) (c : Nat) (hs : a.eval s = v) (hx : a.eval x = .slice (some ad) 1 c) (hcells : ∀ j u, cs[j]? = some u → W.cell? (ad.add j) = some u) (hp : d.M W base okp p cs) (hokp : ∀ k, okp k → ok k ∧ some k ≠ v.ownBlock) (hfresh : ∀ k, W.heap.size ≤ k → ok k)
    (HO : d.R e W base ok v xs) (HB : Below base w0 W) (hbase : base ≤ W.heap.size) (hl : (xs.length + 1) * bytes ≤ 140737488355328)
    (h : ∀ v1 w1, d.R e w1 base ok v1 (xs ++ [p]) → Below base w0 w1 → W.grownBy w1 v.ownBlock → (v1.ownBlock = v.ownBlock ∨ ∃ b, v1.ownBlock = some b ∧ W.heap.size ≤ b) → wpList P ops Q rest (a.put o.dst v1) w1) :
    wpList P ops Q (o :: rest) a W := by
  obtain ⟨h0, inner, hown, hr⟩ := HO
  obtain ⟨i0, hi, hzz⟩ := Option.map_eq_some_iff.1 hinfo
  simp only [Prod.mk.injEq] at hzz
  obtain ⟨hz0, hz1, hz2⟩ := hzz
  have hlen : xs.length + 1 ≤ 140737488355328 := Nat.le_trans (Nat.le_mul_of_pos_right _ hb0) hl
  refine append_two_at hgd s x t tx ho e' hx' base e i0 z d.sz bytes ht hi hz0 hz1 hz2 hz hs0 v xs.length inner hs hown ad 1 c cs hx (by rw [d.K_len (d.K_of_M hp)]; simp)
    hcells (d.K_one (d.K_of_M hp)) (by simp only [maxLen]; omega) hl hbase ?_
  intro v1 w1 hown1 hg hat
  have hat1 : v1.ownBlock = v.ownBlock ∨ ∃ b, v1.ownBlock = some b ∧ W.heap.size ≤ b := by
    rcases hat with hat | hat
    · exact .inl hat
    · exact .inr ⟨_, hat, Nat.le_refl _⟩
  exact h v1 w1 (Kd.R_appended h0 hr hp hokp hfresh hown1 hg hat1) (HB.grown hg hbase (own_base hown)) hg hat1
end Go.Proofs.YtooomjcdlfdnmaaGreatDoor.Dep

