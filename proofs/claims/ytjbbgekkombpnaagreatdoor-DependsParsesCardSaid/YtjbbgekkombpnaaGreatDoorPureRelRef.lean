import Derived.Test.YtjbbgekkombpnaaGreatDoorPureRelParse
import Derived.Test.YtjbbgekkombpnaaGreatDoorPureRef4
import Derived.Test.YtjbbgekkombpnaaGreatDoorPAx15
import Derived.Test.YtjbbgekkombpnaaGreatDoorPAx16
import Derived.Test.YtjbbgekkombpnaaGreatDoorPAx0
import Derived.Test.YtjbbgekkombpnaaGreatDoorPAx6
import Derived.Test.YtjbbgekkombpnaaGreatDoorPAx7
import Derived.Test.YtjbbgekkombpnaaGreatDoorPAx8
import Derived.Test.YtjbbgekkombpnaaGreatDoorPAx11
import Derived.Test.YtjbbgekkombpnaaGreatDoorPAx12
import Derived.Test.YtjbbgekkombpnaaGreatDoorPAx18
namespace Go.Proofs.YtjbbgekkombpnaaGreatDoor.Pure
open Go.RowKit Go.Proofs.YtjbbgekkombpnaaGreatDoor.PA Go.Proofs.YtjbbgekkombpnaaGreatDoorW.PrintWords Go.Proofs.YtjbbgekkombpnaaGreatDoorW.PrintLast Go.Proofs.YtjbbgekkombpnaaGreatDoorW.PrintMore
theorem Print_r (e : Int) (u r : Bs) (hu : u.length < 2000000000000000000) (hr : r.length < 2000000000000000000) : Ev (fun k => keelsonref2_Print.f k e (mk u) (mk r)) (mk (printV e u r)) := by
  simp only [keelsonref2_Print.f]
  unfold printV
  refine Ev.bind (Right_r e u r hu hr) ?_
  cases h : rightV e u r
  · exact Ev.neg (by simp) (Ev.eq_ rfl)
  · have := rightV_e h
    exact Ev.pos (by trivial) (Ev.bind (text_r e u r (by omega) (by omega) hu hr) (Ev.eq_ rfl))
theorem plain_r (s : Bs) : Ev (fun k => keelsonref3_plain.f k (mk s)) (plainV s) := by
  simp only [keelsonref3_plain.f]
  have hl := parseV_len s
  refine Ev.bind (Parse_r s) ?_
  unfold plainV okV toB
  by_cases h : (parseV s).2.2.2 = 0
  · rw [decide_eq_true h, Bool.true_and]
    refine Ev.pos h (Ev.bind (Print_r _ _ _ (by omega) (by omega)) (Ev.eq_ ?_))
    rw [mk_toList, mk_toList, Bool.eq_iff_iff]; simp
  · rw [decide_eq_false h, Bool.false_and]
    exact Ev.neg h (Ev.some_ _)
def cutR (s : Bs) : Bs × Bs × Bool := match cutAt 32 s with | none => (s, [], false) | some (a, b) => (a, b, true)
theorem cut_l0 (s : Bs) (hs : s.length < 4611686018427387904) : ∀ (t p : Bs), s = p ++ t → 32 ∉ p → Ev (fun k => keelsonref3_cut.l0 k (mk s) (p.length : Int)) (mk (cutR s).1, mk (cutR s).2.1, (cutR s).2.2)
  | [], p, h, hp => by
    refine Ev.shift ?_
    simp only [keelsonref3_cut.l0, mk_size]
    have e : cutR s = (s, [], false) := by unfold cutR; rw [cutAt_none.2 (by rw [h]; simpa using hp)]
    rw [e]
    exact Ev.neg (by rw [h]; simp) (Ev.eq_ rfl)
  | c :: t, p, h, hp => by
    have hl : s.length = p.length + (t.length + 1) := by rw [h]; simp
    have ih := cut_l0 s hs t (p ++ [c]) (by rw [h]; simp)
    refine Ev.shift ?_
    simp only [keelsonref3_cut.l0, mk_size]
    have hb : bt (mk s) (p.length : Int) = (c.toNat : Int) := by rw [h]; exact mk_bt_at p c t
    have hw : wrap64 ((p.length : Int) + 1) = ((p.length + 1 : Nat) : Int) := wrap_succ _ (by omega)
    rw [hb, hw]
    refine Ev.pos (by omega) (Ev.pos (by omega) ?_)
    by_cases hc : c = 32
    · subst hc
      have e : cutR s = (p, t, true) := by unfold cutR; rw [cutAt_some.2 ⟨h, hp⟩]
      rw [e]
      refine Ev.pos (by rfl) (Ev.pos (by omega) (Ev.pos (by omega) (Ev.pos (by omega) (Ev.eq_ ?_))))
      have t1 : ((p.length : Int)).toNat = p.length := by omega
      have t2 : (((p.length + 1 : Nat) : Int)).toNat = p.length + 1 := by omega
      rw [t1, t2, mk_ext_from, mk_ext_to, h]
      simp
    · refine Ev.neg (byte_ne hc) ?_
      have := ih (by simp; exact ⟨hp, fun e => hc e.symm⟩)
      rw [List.length_append] at this
      exact this
theorem cut_r (s : Bs) (hs : s.length < 4611686018427387904) : Ev (fun k => keelsonref3_cut.f k (mk s)) (mk (cutR s).1, mk (cutR s).2.1, (cutR s).2.2) := cut_l0 s hs s [] rfl (by simp)
theorem pref_one (x a : UInt8) (r : Bs) : ([x] : Bs).isPrefixOf (a :: r) = (a == x) := by
  show (x == a && ([] : Bs).isPrefixOf r) = (a == x)
  rw [List.isPrefixOf_nil_left, Bool.and_true]; exact BEq.comm
theorem pref40 (r : Bs) : Lib.hasPrefix r [40] = (match r with | [] => false | c :: _ => c == 40) := by
  unfold Lib.hasPrefix
  cases r with
  | nil => rfl
  | cons a r => exact pref_one 40 a r
theorem Parse_Ar (s : Bs) (h : s.length < 1000000) : Ev (fun k => keelsonref3_Parse.f k (mk s)) (toA (parseA s)) := by
  have l0 : (⟨#[]⟩ : ByteArray) = mk [] := rfl
  have bad : ∀ a b, Ev (fun k => keelsonref3_Parse.j0 k a b true) (toA (badA 5)) := fun a b => by
    refine Ev.shift ?_
    simp only [keelsonref3_Parse.j0]
    exact Ev.pos trivial (Ev.eq_ rfl)
  have bad1 : ∀ a b c, Ev (fun k => keelsonref3_Parse.j1 k a b c true) (toA (badA 5)) := fun a b c => by
    refine Ev.shift ?_
    simp only [keelsonref3_Parse.j1]
    exact Ev.pos trivial (Ev.eq_ rfl)
  simp only [keelsonref3_Parse.f, l0]
  refine Ev.bind (cut_r s (by omega)) ?_
  unfold parseA cutR
  cases hc : cutAt 32 s with
  | none =>
    simp only []
    refine Ev.bind (Name_r s (by omega)) ?_
    cases hn : nameV s
    · exact Ev.neg (by simp) (Ev.eq_ rfl)
    · exact Ev.pos (by trivial) (Ev.neg (by simp) (Ev.eq_ rfl))
  | some p =>
    obtain ⟨n, r⟩ := p
    have hs := (cutAt_some.1 hc).1
    have hlen : s.length = n.length + (r.length + 1) := by rw [hs]; simp
    simp only []
    refine Ev.bind (Name_r n (by omega)) ?_
    cases hn : nameV n
    · exact Ev.neg (by simp) (Ev.eq_ rfl)
    · refine Ev.pos (by trivial) (Ev.pos (by trivial) ?_)
      rw [if_pos rfl, mk_size]
      unfold formA
      match r, hlen with
      | [], hlen => exact Ev.pos (by simp) (bad _ _)
      | c :: t, hlen =>
        simp only [List.length_cons] at hlen ⊢
        have hp : Lib.hasPrefix (c :: t) [40] = (c == 40) := pref40 _
        have hlast : t = [] ∨ ∃ u d, t = u ++ [d] := by
          rcases List.eq_nil_or_concat t with h | ⟨u, d, h⟩
          · exact .inl h
          · exact .inr ⟨u, d, by simpa using h⟩
        rcases hlast with rfl | ⟨u, d, rfl⟩
        · refine Ev.pos (by simp) ?_
          have : (if Lib.hasPrefix [c] [40] = true then (if Lib.hasSuffix (Lib.trimPrefix [c] [40]) [41] = true then inA n (Lib.trimSuffix (Lib.trimPrefix [c] [40]) [41]) else badA 5) else badA 5) = badA 5 := by
            rw [hp]
            by_cases hc' : c = 40
            · subst hc'; rfl
            · rw [if_neg (by simpa using hc')]
          rw [this]
          exact bad _ _
        · have hb : bt (mk (c :: (u ++ [d]))) 0 = (c.toNat : Int) := mk_bt_0 _ _
          have hu : (u ++ [d]).length = u.length + 1 := by simp
          rw [hb, hp]
          refine Ev.neg (by simp; omega) (Ev.pos (by omega) ?_)
          by_cases hc' : c = 40
          · subst hc'
            refine Ev.pos rfl ?_
            have hw : wrap64 (((u ++ [d]).length + 1 : Nat) - 1 : Int) = ((u.length + 1 : Nat) : Int) := by rw [wrap_in _ (by omega) (by omega)]; omega
            have hd : bt (mk (40 :: (u ++ [d]))) ((u.length + 1 : Nat) : Int) = (d.toNat : Int) := mk_bt_at (40 :: u) d []
            rw [hw, hd, if_pos (by rfl)]
            refine Ev.pos (by omega) (Ev.pos (by omega) ?_)
            have e1 : Lib.trimPrefix (40 :: (u ++ [d])) [40] = u ++ [d] := by unfold Lib.trimPrefix; rw [if_pos (by rw [pref40]; rfl)]; rfl
            have e2 : Lib.hasSuffix (u ++ [d]) [41] = (d == 41) := by
              unfold Lib.hasSuffix List.isSuffixOf; rw [List.reverse_append]; exact pref_one 41 d _
            rw [e1, e2]
            by_cases hd' : d = 41
            · subst hd'
              rw [if_pos (by rfl)]
              have e3 : Lib.trimSuffix (u ++ [41]) [41] = u := by unfold Lib.trimSuffix; rw [if_pos (by rw [e2]; rfl)]; simp
              rw [e3]
              refine Ev.shift ?_
              simp only [keelsonref3_Parse.j0, mk_size]
              have hw2 : wrap64 (((40 :: (u ++ [41])).length : Int) - 1) = ((u.length + 1 : Nat) : Int) := by
                rw [List.length_cons, wrap_in _ (by omega) (by omega)]; omega
              have hx : (mk (40 :: (u ++ [41]))).extract 1 (((u.length + 1 : Nat) : Int)).toNat = mk u := by
                rw [mk_ext]; congr 1; simp
              rw [hw2, hx]
              refine Ev.neg (by simp) (Ev.pos (by omega) (Ev.pos (by rw [List.length_cons]; omega) (Ev.bind (cut_r u (by omega)) ?_)))
              unfold inA cutR
              cases hq : cutAt 32 u with
              | none => exact Ev.bind (Op_r _) (Ev.neg (by simp) (bad1 _ _ _))
              | some q =>
                obtain ⟨g, v⟩ := q
                simp only []
                refine Ev.bind (Op_r (mk g)) (Ev.pos (by trivial) ?_)
                rw [mk_toList]
                cases hk : (opOf g).2
                · exact bad1 _ _ _
                · rw [if_pos rfl]
                  refine Ev.shift ?_
                  simp only [keelsonref3_Parse.j1]
                  refine Ev.neg (by simp) (Ev.bind (plain_r v) ?_)
                  cases hv : plainV v
                  · exact Ev.neg (by simp) (Ev.eq_ rfl)
                  · exact Ev.pos (by trivial) (Ev.eq_ rfl)
            · rw [if_neg (by simpa using hd')]
              have : (((d.toNat : Int)) != 41) = true := by
                rw [bne_iff_ne]; exact byte_ne hd'
              rw [this]; exact bad _ _
          · rw [if_neg (by simpa using hc')]
            exact Ev.neg (byte_ne hc') (bad _ _)
end Go.Proofs.YtjbbgekkombpnaaGreatDoor.Pure
