import Derived.OrdersHeld
import Derived.StillTail
import Derived.Deep.RegionHeld
namespace Go.Proofs.Ytdkmdicmipcifaa.Disk
open Go
section
variable {P : Program} {ops : Array Oper} {Q : Exit → Act → World → Prop} {md : Region.Mode} {S : World → Prop} {L : Array Bool → Act → World → Prop}
def wpE (P : Program) (md : Region.Mode) (ops : Array Oper) (Q : Exit → Act → World → Prop) (S : World → Prop) (L : Array Bool → Act → World → Prop) : Nat → Array Bool → Act → World → Prop
  | 0, listed, a, w => L listed a w
  | f + 1, listed, a, w => Region.ready md ops listed ≠ [] ∧ ∀ i ∈ Region.ready md ops listed, wpOp P ops Q i (fun a' w' => S w' ∧ wpE P md ops Q S L f (listed.setIfInBounds i true) a' w') a w
theorem wpAny_of_E {g : Nat} (hL : ∀ listed a w, L listed a w → wpAny P md ops Q g listed a w) : ∀ (f : Nat) (listed : Array Bool) (a : Act) (w : World), wpE P md ops Q S L f listed a w → wpAny P md ops Q (g + f) listed a w
  | 0, _, _, _, h => hL _ _ _ h
  | f + 1, _, _, _, h => ⟨fun h0 => absurd h0 h.1, fun i hi => wpOp_mono (fun a' w' h' => wpAny_of_E hL f _ a' w' h'.2) (h.2 i hi)⟩
theorem wpE_first {i n : Nat} {oi : Oper} {v : Value} (hi : ops[i]? = some oi) (hsel : ∀ (j : Nat) (o : Oper) cs b, ops[j]? = some o → o.op ≠ .select cs b)
    (hQ : ∀ c a w, Q (.panic c) (a.put oi.dst v) w → Q (.panic c) a w) (hL : ∀ listed a w, L listed a w → ∀ j ∈ Region.ready md ops listed, n ≤ j)
    (hw : ∀ t, n ≤ t → t < ops.size → Region.waitsFor md ops t i = true) :
    ∀ (fuel : Nat) (listed : Array Bool) (a : Act) (w : World),
      (∀ j oj, ops[j]? = some oj → j ≠ i → listed.getD j true = false → (∀ e ∈ oj.after, Region.binds md e = true → e.on ≠ i) → oi.apart ops oj = true) →
      i ∈ Region.ready md ops listed → YieldsIf P ops S oi v a → S w →
      wpE P md ops Q S L fuel (listed.setIfInBounds i true) (a.put oi.dst v) w → wpE P md ops Q S L (fuel + 1) listed a w := by
  intro fuel
  induction fuel with
  | zero =>
    intro listed a w _ hr hy hS H
    refine ⟨fun h => (by rw [h] at hr; cases hr), fun j hj => ?_⟩
    by_cases hji : j = i
    · subst hji; exact hy.wpOp hi hS ⟨hS, H⟩
    · have h1 := hL _ _ _ H j (ready_mono hj hji)
      obtain ⟨_, oj, hoj, hall⟩ := mem_ready.1 hj
      obtain ⟨o', ho', e, he, hb, hon⟩ := Region.waitsFor_spec (hw j h1 (Array.getElem?_eq_some_iff.1 hoj).1)
      have : o' = oj := Option.some.inj (ho'.symm.trans hoj)
      subst this
      have h2 := hall e he hb
      rw [hon, getD_both (mem_ready.1 hr).1] at h2
      cases h2
  | succ fuel ih =>
    intro listed a w hfree hr hy hS H
    refine ⟨fun h => (by rw [h] at hr; cases hr), fun j hj => ?_⟩
    by_cases hji : j = i
    · subst hji; exact hy.wpOp hi hS ⟨hS, H⟩
    · have h1 := H.2 j (ready_mono hj hji)
      obtain ⟨hjun, oj, hoj, hall⟩ := mem_ready.1 hj
      have hnot : ∀ e ∈ oj.after, Region.binds md e = true → e.on ≠ i := fun e he hb heq => by
        have h1 := hall e he hb
        rw [heq, getD_both (mem_ready.1 hr).1] at h1
        cases h1
      have h2 := wpOp_putIf hoj (hfree j oj hoj hji hjun hnot) (fun cs b => hsel i oi cs b hi) (fun cs b => hsel j oj cs b hoj) hQ hy h1
      have hfree' : ∀ k ok, ops[k]? = some ok → k ≠ i → (listed.setIfInBounds j true).getD k true = false →
          (∀ e ∈ ok.after, Region.binds md e = true → e.on ≠ i) → oi.apart ops ok = true := fun k ok hk hki hun hno => by
        refine hfree k ok hk hki ?_ hno
        by_cases hjk : j = k
        · subst hjk; exact hjun
        · rw [getD_set_ne true hjk] at hun; exact hun
      refine wpOp_mono (fun a' w' h3 => ⟨h3.2.1, ih (listed.setIfInBounds j true) a' w' hfree' (ready_mono hr (Ne.symm hji)) h3.1 h3.2.1 ?_⟩) h2
      rw [Array.setIfInBounds_comm _ _ hji]
      exact h3.2.2
def Tail (P : Program) (l : List Oper) (Q : Exit → Act → World → Prop) (n : Nat) (listed : Array Bool) (a : Act) (w : World) : Prop :=
  Region.seqB .any l.toArray (l.length - n) n listed = true ∧ wpList P l.toArray Q (l.drop n) a w
def waitsAll (ops : Array Oper) (n i : Nat) : Bool := (List.range ops.size).all fun t => decide (t < n) || Region.waitsFor .any ops t i
variable {l : List Oper} {n : Nat}
theorem wpE_take {oi : Oper} {v : Value} {fuel : Nat} {listed : Array Bool} {a : Act} {w : World} (i : Nat) (hi0 : l[i]? = some oi)
    (hs : (Region.noSelect l.toArray && Region.free .any l.toArray listed i && (Region.ready .any l.toArray listed).contains i && waitsAll l.toArray n i) = true)
    (hQ : ∀ c a w, Q (.panic c) (a.put oi.dst v) w → Q (.panic c) a w) (hy : YieldsIf P l.toArray S oi v a) (hS : S w)
    (h : wpE P .any l.toArray Q S (Tail P l Q n) fuel (listed.setIfInBounds i true) (a.put oi.dst v) w) : wpE P .any l.toArray Q S (Tail P l Q n) (fuel + 1) listed a w := by
  simp only [Bool.and_eq_true] at hs
  obtain ⟨⟨⟨h1, h2⟩, h3⟩, h4⟩ := hs
  have hi : l.toArray[i]? = some oi := by simpa using hi0
  refine wpE_first (n := n) hi (Region.noSelect_spec h1) hQ (fun listed' a' w' hL => seqB_ready hL.1) (fun t ht hts => ?_) fuel listed a w (Region.free_spec hi h2) (by simpa using h3) hy hS h
  have := List.all_eq_true.1 h4 t (List.mem_range.2 hts)
  simp only [Bool.or_eq_true, decide_eq_true_eq] at this
  rcases this with h | h
  · omega
  · exact h
theorem wpE_ready {fuel : Nat} {listed : Array Bool} {a : Act} {w : World} (rs : List Nat) (hr : Region.ready .any l.toArray listed = rs) (hne : rs ≠ [])
    (h : ∀ i ∈ rs, wpOp P l.toArray Q i (fun a' w' => S w' ∧ wpE P .any l.toArray Q S L fuel (listed.setIfInBounds i true) a' w') a w) : wpE P .any l.toArray Q S L (fuel + 1) listed a w :=
  ⟨fun h0 => hne (hr ▸ h0), hr ▸ h⟩
theorem wpE_step {i : Nat} {o : Oper} {fuel : Nat} {listed : Array Bool} {a : Act} {w : World} (ho : l[i]? = some o)
    (h : ∀ K : Act → World → Prop, Shut (∀ a' w', S w' → wpE P .any l.toArray Q S L fuel (listed.setIfInBounds i true) a' w' → K a' w') → if Region.wanted o (yielded l.toArray a.tmps) = true then Oper.wp P o a w K Q else K (a.put o.dst undef) w) :
    wpOp P l.toArray Q i (fun a' w' => S w' ∧ wpE P .any l.toArray Q S L fuel (listed.setIfInBounds i true) a' w') a w :=
  wpOp_step (by simpa using ho) (fun K' hK => h K' (fun a w hS hW => hK a w ⟨hS, hW⟩))
theorem wpE_end {listed : Array Bool} {a : Act} {w : World} (h1 : Region.seqB .any l.toArray (l.length - n) n listed = true) (h2 : wpList P l.toArray Q (l.drop n) a w) : wpE P .any l.toArray Q S (Tail P l Q n) 0 listed a w := ⟨h1, h2⟩
theorem wp_region_E {id : Nat} {a : Act} {w : World} (S : World → Prop) (n : Nat) (hm : P.follows .mixedOrders = true) (hn : n ≤ l.length)
    (h : wpE P .any l.toArray Q S (Tail P l Q n) n (Array.replicate l.toArray.size false) a w.drew) : (Code.region id l.toArray true).wp P Q a w := by
  refine wp_region_any hm ?_
  have hd : (l.drop n).length = l.length - n := by simp
  have := wpAny_of_E (g := l.length - n) (fun listed a' w' hL => by
    have := wpAny_of_seq (md := .any) (Q' := Q) (l.drop n) n listed a' w' (fun j => by simp [List.getElem?_drop]) (by rw [hd]; exact hL.1) hL.2
    rwa [hd] at this) _ _ _ _ h
  rw [show l.length - n + n = l.toArray.size by simp; omega] at this
  exact this
end
end Go.Proofs.Ytdkmdicmipcifaa.Disk
