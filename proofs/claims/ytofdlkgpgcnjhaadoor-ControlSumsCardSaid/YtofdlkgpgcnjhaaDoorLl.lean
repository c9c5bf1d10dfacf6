/- Walks: the law's bound on the length of a number. -/
import Derived.Test.YtofdlkgpgcnjhaaDoorAw
namespace Go.Proofs.YtofdlkgpgcnjhaaDoor
open Go.RowKit Fp

theorem lawLong_any (s : Bool) (A : Option Addr) (n c : Nat) (e : Int) (w : World) :
    Calls Tryd.prog 7 #[.agg #[.bool s, .slice A n c, .int .i64 e]] w fun r w' => r = .returned (.bool (decide (300 < n))) ∧ Ext w w' := by
  go_enter Tryd.func7, Tryd.ntmps7
  go_wp2
  go_ret
  exact ⟨ret_bool (by rw [decide_eq_decide]; omega), Ext.alloc _ _⟩
end Go.Proofs.YtofdlkgpgcnjhaaDoor
