/- Walks: valid configurations, as the reference says: the tests of the numbers ahead of the step. -/
import Derived.Test.YtofdlkgpgcnjhaaDoorWx
namespace Go.Proofs.YtofdlkgpgcnjhaaDoor
open Go.RowKit Fp

set_option maxHeartbeats 4000000 in
theorem refCfg_no1 (me o p : Int) (s : Bool) (A : Option Addr) (c : Nat) (L : List Nat) (e t mo : Int) (w : World)  (h1 : ¬ 1 ≤ me) :
    Calls Tryd.prog 9 #[.agg #[.int .i64 me, .int .i64 o, .int .i64 p, .bool s, .slice A L.length c, .int .i64 e, .int .i64 t, .int .i64 mo]] w fun r w' => r = .returned (.bool false) ∧ Ext w w' := by
  have d1 : decide (1 ≤ me) = false := decide_eq_false h1
  have bx := (Box8.new w me o p s A L.length c e t mo).drew
  have b0 := bx.c0; have b1 := bx.c1; have b2 := bx.c2; have b3 := bx.c3; have b4 := bx.c4; have b5 := bx.c5; have b6 := bx.c6; have b7 := bx.c7
  go_enter Tryd.func9, Tryd.ntmps9
  go_wp2_with fail
  go_quiet (fail)
  go_wp2
  go_ret
  exact ⟨rfl, (Ext.alloc _ _).trans ⟨rfl, rfl, rfl, Nat.le_refl _, fun _ _ => rfl⟩⟩

set_option maxHeartbeats 4000000 in
theorem refCfg_no2 (me o p : Int) (s : Bool) (A : Option Addr) (c : Nat) (L : List Nat) (e t mo : Int) (w : World) (h1 : 1 ≤ me) (h2 : ¬ me ≤ 3) :
    Calls Tryd.prog 9 #[.agg #[.int .i64 me, .int .i64 o, .int .i64 p, .bool s, .slice A L.length c, .int .i64 e, .int .i64 t, .int .i64 mo]] w fun r w' => r = .returned (.bool false) ∧ Ext w w' := by
  have d1 : decide (1 ≤ me) = true := decide_eq_true h1
  have d2 : decide (me ≤ 3) = false := decide_eq_false h2
  have bx := (Box8.new w me o p s A L.length c e t mo).drew
  have b0 := bx.c0; have b1 := bx.c1; have b2 := bx.c2; have b3 := bx.c3; have b4 := bx.c4; have b5 := bx.c5; have b6 := bx.c6; have b7 := bx.c7
  go_enter Tryd.func9, Tryd.ntmps9
  go_wp2_with fail
  go_quiet (fail)
  go_wp2
  go_ret
  exact ⟨rfl, (Ext.alloc _ _).trans ⟨rfl, rfl, rfl, Nat.le_refl _, fun _ _ => rfl⟩⟩

set_option maxHeartbeats 4000000 in
theorem refCfg_no3 (me o p : Int) (s : Bool) (A : Option Addr) (c : Nat) (L : List Nat) (e t mo : Int) (w : World) (h1 : 1 ≤ me) (h2 : me ≤ 3) (h3 : ¬ 1 ≤ o) :
    Calls Tryd.prog 9 #[.agg #[.int .i64 me, .int .i64 o, .int .i64 p, .bool s, .slice A L.length c, .int .i64 e, .int .i64 t, .int .i64 mo]] w fun r w' => r = .returned (.bool false) ∧ Ext w w' := by
  have d1 : decide (1 ≤ me) = true := decide_eq_true h1
  have d2 : decide (me ≤ 3) = true := decide_eq_true h2
  have d3 : decide (1 ≤ o) = false := decide_eq_false h3
  have bx := (Box8.new w me o p s A L.length c e t mo).drew
  have b0 := bx.c0; have b1 := bx.c1; have b2 := bx.c2; have b3 := bx.c3; have b4 := bx.c4; have b5 := bx.c5; have b6 := bx.c6; have b7 := bx.c7
  go_enter Tryd.func9, Tryd.ntmps9
  go_wp2_with fail
  go_quiet (fail)
  go_wp2
  go_ret
  exact ⟨rfl, (Ext.alloc _ _).trans ⟨rfl, rfl, rfl, Nat.le_refl _, fun _ _ => rfl⟩⟩

set_option maxHeartbeats 4000000 in
theorem refCfg_no4 (me o p : Int) (s : Bool) (A : Option Addr) (c : Nat) (L : List Nat) (e t mo : Int) (w : World) (h1 : 1 ≤ me) (h2 : me ≤ 3) (h3 : 1 ≤ o) (h4 : ¬ o ≤ 15) :
    Calls Tryd.prog 9 #[.agg #[.int .i64 me, .int .i64 o, .int .i64 p, .bool s, .slice A L.length c, .int .i64 e, .int .i64 t, .int .i64 mo]] w fun r w' => r = .returned (.bool false) ∧ Ext w w' := by
  have d1 : decide (1 ≤ me) = true := decide_eq_true h1
  have d2 : decide (me ≤ 3) = true := decide_eq_true h2
  have d3 : decide (1 ≤ o) = true := decide_eq_true h3
  have d4 : decide (o ≤ 15) = false := decide_eq_false h4
  have bx := (Box8.new w me o p s A L.length c e t mo).drew
  have b0 := bx.c0; have b1 := bx.c1; have b2 := bx.c2; have b3 := bx.c3; have b4 := bx.c4; have b5 := bx.c5; have b6 := bx.c6; have b7 := bx.c7
  go_enter Tryd.func9, Tryd.ntmps9
  go_wp2_with fail
  go_quiet (fail)
  go_wp2
  go_ret
  exact ⟨rfl, (Ext.alloc _ _).trans ⟨rfl, rfl, rfl, Nat.le_refl _, fun _ _ => rfl⟩⟩

set_option maxHeartbeats 4000000 in
theorem refCfg_no5 (me o p : Int) (s : Bool) (A : Option Addr) (c : Nat) (L : List Nat) (e t mo : Int) (w : World) (h1 : 1 ≤ me) (h2 : me ≤ 3) (h3 : 1 ≤ o) (h4 : o ≤ 15) (h5 : ¬ 8 ≤ p) :
    Calls Tryd.prog 9 #[.agg #[.int .i64 me, .int .i64 o, .int .i64 p, .bool s, .slice A L.length c, .int .i64 e, .int .i64 t, .int .i64 mo]] w fun r w' => r = .returned (.bool false) ∧ Ext w w' := by
  have d1 : decide (1 ≤ me) = true := decide_eq_true h1
  have d2 : decide (me ≤ 3) = true := decide_eq_true h2
  have d3 : decide (1 ≤ o) = true := decide_eq_true h3
  have d4 : decide (o ≤ 15) = true := decide_eq_true h4
  have d5 : decide (8 ≤ p) = false := decide_eq_false h5
  have bx := (Box8.new w me o p s A L.length c e t mo).drew
  have b0 := bx.c0; have b1 := bx.c1; have b2 := bx.c2; have b3 := bx.c3; have b4 := bx.c4; have b5 := bx.c5; have b6 := bx.c6; have b7 := bx.c7
  go_enter Tryd.func9, Tryd.ntmps9
  go_wp2_with fail
  go_quiet (fail)
  go_wp2
  go_ret
  exact ⟨rfl, (Ext.alloc _ _).trans ⟨rfl, rfl, rfl, Nat.le_refl _, fun _ _ => rfl⟩⟩

set_option maxHeartbeats 4000000 in
theorem refCfg_no6 (me o p : Int) (s : Bool) (A : Option Addr) (c : Nat) (L : List Nat) (e t mo : Int) (w : World) (h1 : 1 ≤ me) (h2 : me ≤ 3) (h3 : 1 ≤ o) (h4 : o ≤ 15) (h5 : 8 ≤ p) (h6 : ¬ p ≤ 256) :
    Calls Tryd.prog 9 #[.agg #[.int .i64 me, .int .i64 o, .int .i64 p, .bool s, .slice A L.length c, .int .i64 e, .int .i64 t, .int .i64 mo]] w fun r w' => r = .returned (.bool false) ∧ Ext w w' := by
  have d1 : decide (1 ≤ me) = true := decide_eq_true h1
  have d2 : decide (me ≤ 3) = true := decide_eq_true h2
  have d3 : decide (1 ≤ o) = true := decide_eq_true h3
  have d4 : decide (o ≤ 15) = true := decide_eq_true h4
  have d5 : decide (8 ≤ p) = true := decide_eq_true h5
  have d6 : decide (p ≤ 256) = false := decide_eq_false h6
  have bx := (Box8.new w me o p s A L.length c e t mo).drew
  have b0 := bx.c0; have b1 := bx.c1; have b2 := bx.c2; have b3 := bx.c3; have b4 := bx.c4; have b5 := bx.c5; have b6 := bx.c6; have b7 := bx.c7
  go_enter Tryd.func9, Tryd.ntmps9
  go_wp2_with fail
  go_quiet (fail)
  go_wp2
  go_ret
  exact ⟨rfl, (Ext.alloc _ _).trans ⟨rfl, rfl, rfl, Nat.le_refl _, fun _ _ => rfl⟩⟩

end Go.Proofs.YtofdlkgpgcnjhaaDoor
