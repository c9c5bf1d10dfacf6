/- Walks: the order of a configuration. -/
import Derived.Test.YtofdlkgpgcnjhaaDoorWy
namespace Go.Proofs.YtofdlkgpgcnjhaaDoor
open Go.RowKit Fp

set_option maxHeartbeats 4000000 in
theorem cfgOrder_yes (me o p : Int) (s : Bool) (A : Option Addr) (c : Nat) (L : List Nat) (e t mo : Int) (w : World) (hs : Sl w A c L) (hc : CfgOk me o p s L e t mo) :
    Calls Tryd.prog 8 #[.agg #[.int .i64 me, .int .i64 o, .int .i64 p, .bool s, .slice A L.length c, .int .i64 e, .int .i64 t, .int .i64 mo]] w fun r w' => r = .returned (.tuple #[.int .i64 (min o (2 + t.tdiv 4)), .int .i64 0]) ∧ Ext w w' := by
  obtain ⟨e1, e2⟩ := hc.2.2.2.2.2.1.exp
  have HV := Lib.hid (fun w (h : Sl w A c L) => cfgValid_any me o p s A c L e t mo w true h (by omega) (by omega) (by simp [hc]))
  have ht : 0 ≤ t ∧ t ≤ 200 := hc.2.2.2.1
  obtain ⟨t1, t2⟩ := ht
  have hw1 : IntKind.i64.wrap (t.tdiv 4) = t.tdiv 4 := i64_in _ (by rw [Int.tdiv_eq_ediv_of_nonneg t1]; omega) (by rw [Int.tdiv_eq_ediv_of_nonneg t1]; omega)
  have hw2 : IntKind.i64.wrap (2 + t.tdiv 4) = 2 + t.tdiv 4 := i64_in _ (by rw [Int.tdiv_eq_ediv_of_nonneg t1]; omega) (by rw [Int.tdiv_eq_ediv_of_nonneg t1]; omega)
  clear hc
  go_enter Tryd.func8, Tryd.ntmps8
  go_wp2_with fail
  refine (HV.out _ (hs.alloc _)).mono ?_
  rintro r w1 ⟨rfl, hb1⟩
  have bx := (Box8.new w me o p s A L.length c e t mo).ext hb1
  have b1 := bx.c1; have b6 := bx.c6
  go_wp2
  go_ret2
  exact ⟨rfl, (Ext.alloc _ _).trans hb1⟩

set_option maxHeartbeats 4000000 in
theorem cfgOrder_no (me o p : Int) (s : Bool) (A : Option Addr) (c : Nat) (L : List Nat) (e t mo : Int) (w : World) (hs : Sl w A c L) (e1 : -9223372036854775808 ≤ e) (e2 : e ≤ 9223372036854775807) (hc : ¬ CfgOk me o p s L e t mo) :
    Calls Tryd.prog 8 #[.agg #[.int .i64 me, .int .i64 o, .int .i64 p, .bool s, .slice A L.length c, .int .i64 e, .int .i64 t, .int .i64 mo]] w fun r w' => r = .returned (.tuple #[.int .i64 0, .int .i64 1]) ∧ Ext w w' := by
  have HV := Lib.hid (fun w (h : Sl w A c L) => cfgValid_any me o p s A c L e t mo w false h e1 e2 (by simp [hc]))
  clear hc
  go_enter Tryd.func8, Tryd.ntmps8
  go_wp2_with fail
  refine (HV.out _ (hs.alloc _)).mono ?_
  rintro r w1 ⟨rfl, hb1⟩
  go_wp2
  go_ret2
  exact ⟨rfl, (Ext.alloc _ _).trans hb1⟩

set_option maxHeartbeats 4000000 in
theorem refOrder_any (me o p : Int) (s : Bool) (A : Option Addr) (n c : Nat) (e t mo : Int) (w : World) (t1 : 0 ≤ t) (t2 : t ≤ 200) :
    Calls Tryd.prog 11 #[.agg #[.int .i64 me, .int .i64 o, .int .i64 p, .bool s, .slice A n c, .int .i64 e, .int .i64 t, .int .i64 mo]] w fun r w' => r = .returned (.int .i64 (min o (2 + t.tdiv 4))) ∧ Ext w w' := by
  have hw1 : IntKind.i64.wrap (t.tdiv 4) = t.tdiv 4 := i64_in _ (by rw [Int.tdiv_eq_ediv_of_nonneg t1]; omega) (by rw [Int.tdiv_eq_ediv_of_nonneg t1]; omega)
  have hw2 : IntKind.i64.wrap (2 + t.tdiv 4) = 2 + t.tdiv 4 := i64_in _ (by rw [Int.tdiv_eq_ediv_of_nonneg t1]; omega) (by rw [Int.tdiv_eq_ediv_of_nonneg t1]; omega)
  go_enter Tryd.func11, Tryd.ntmps11
  go_wp2
  go_ret
  exact ⟨rfl, Ext.alloc _ _⟩
end Go.Proofs.YtofdlkgpgcnjhaaDoor
