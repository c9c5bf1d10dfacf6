/- Walks: equal numbers, integers, sums. -/
import Derived.Test.YtofdlkgpgcnjhaaDoorWo
namespace Go.Proofs.YtofdlkgpgcnjhaaDoor
open Go.RowKit Fp

theorem cmpN_zero {a b : Nat} : cmpN a b = 0 ↔ a = b := by
  unfold cmpN
  by_cases h : a < b
  · rw [if_pos h]; omega
  · by_cases h' : b < a
    · rw [if_neg h, if_pos h']; omega
    · rw [if_neg h, if_neg h']; omega

set_option maxHeartbeats 2000000 in
theorem refEqual_any (s : Bool) (A : Option Addr) (c : Nat) (L : List Nat) (e : Int) (t : Bool) (B : Option Addr) (d : Nat) (M : List Nat) (f : Int) (w : World) (b : Bool)
    (hs : Sl w A c L) (hr : Sl w B d M) (tL : Trim L) (tM : Trim M) (h1 : L.length ≤ 100000) (_h2 : M.length ≤ 100000) (hb : b = true ↔ (s = t ∧ e = f ∧ L = M)) :
    Calls Tryd.prog 14 #[.agg #[.bool s, .slice A L.length c, .int .i64 e], .agg #[.bool t, .slice B M.length d, .int .i64 f]] w fun r w' => r = .returned (.bool b) ∧ Ext w w' := by
  have hE : Ext w ((w.alloc (.cells #[.bool s, .slice A L.length c, .int .i64 e] 24)).alloc (.cells #[.bool t, .slice B M.length d, .int .i64 f] 24)) := (Ext.alloc _ _).trans (Ext.alloc _ _)
  by_cases h : s = t
  · subst h
    by_cases h' : e = f
    · subst h'
      have hb' : b = true ↔ L = M := by rw [hb]; simp
      clear hb
      by_cases hl : L.length = M.length
      · have HC := Lib.hid (fun w (h : Sl w A c L) (k : Sl w B d M) => refCompare_any A B c d L M w h k tL tM (by omega) (by omega))
        have hv : Hid (b = (cmpN (val L) (val M) == 0)) := by
          show b = _
          refine b_eq hb' ?_
          rw [beq_iff_eq, cmpN_zero]
          exact ⟨fun h => by rw [h], fun h => Trim.ext tL tM hs.ok hr.ok h⟩
        generalize cmpN (val L) (val M) = v at *
        rw [← hl] at HC hE ⊢
        have hse : (e == e) = true := by simp
        have hs2 := (hs.alloc (.cells #[.bool s, .slice A L.length c, .int .i64 e] 24)).alloc (.cells #[.bool s, .slice B L.length d, .int .i64 e] 24)
        have hr2 := (hr.alloc (.cells #[.bool s, .slice A L.length c, .int .i64 e] 24)).alloc (.cells #[.bool s, .slice B L.length d, .int .i64 e] 24)
        clear hb' hl tL tM
        cases s
        · go_enter Tryd.func14, Tryd.ntmps14
          go_wp2_with fail
          refine (HC.out _ hs2 hr2).mono ?_
          rintro r w' ⟨rfl, hb1⟩
          go_wp2
          go_ret
          exact ⟨ret_bool hv.out.symm, hE.trans hb1⟩
        · go_enter Tryd.func14, Tryd.ntmps14
          go_wp2_with fail
          refine (HC.out _ hs2 hr2).mono ?_
          rintro r w' ⟨rfl, hb1⟩
          go_wp2
          go_ret
          exact ⟨ret_bool hv.out.symm, hE.trans hb1⟩
      · have := b_false hb' (fun h => hl (by rw [h]))
        clear hb'; subst this
        have hne : ((L.length : Int) == (M.length : Int)) = false := beq_eq_false_iff_ne.2 (by omega)
        generalize L.length = n at *
        generalize M.length = m at *
        cases s
        · go_enter Tryd.func14, Tryd.ntmps14
          go_wp2
          go_ret
          exact ⟨rfl, hE⟩
        · go_enter Tryd.func14, Tryd.ntmps14
          go_wp2
          go_ret
          exact ⟨rfl, hE⟩
    · have := b_false hb (fun h => h' h.2.1)
      clear hb; subst this
      have hne : (e == f) = false := beq_eq_false_iff_ne.2 h'
      cases s
      · go_enter Tryd.func14, Tryd.ntmps14
        go_wp2
        go_ret
        exact ⟨rfl, hE⟩
      · go_enter Tryd.func14, Tryd.ntmps14
        go_wp2
        go_ret
        exact ⟨rfl, hE⟩
  · have := b_false hb (fun h' => h h'.1)
    clear hb; subst this
    cases s <;> cases t
    · exact absurd rfl h
    · go_enter Tryd.func14, Tryd.ntmps14
      go_wp2
      go_ret
      exact ⟨rfl, hE⟩
    · go_enter Tryd.func14, Tryd.ntmps14
      go_wp2
      go_ret
      exact ⟨rfl, hE⟩
    · exact absurd rfl h

end Go.Proofs.YtofdlkgpgcnjhaaDoor
