/- The reference's Valid, all cases in one. -/
import Derived.Test.YtofdlkgpgcnjhaaDoorWz
import Derived.Test.YtofdlkgpgcnjhaaDoorRa
import Derived.Test.YtofdlkgpgcnjhaaDoorRb
import Derived.Test.YtofdlkgpgcnjhaaDoorRc
import Derived.Test.YtofdlkgpgcnjhaaDoorRd
import Derived.Test.YtofdlkgpgcnjhaaDoorRe
import Derived.Test.YtofdlkgpgcnjhaaDoorRf
import Derived.Test.YtofdlkgpgcnjhaaDoorRg
namespace Go.Proofs.YtofdlkgpgcnjhaaDoor
open Go.RowKit Fp

theorem refCfgValid_any (me o p : Int) (s : Bool) (A : Option Addr) (c : Nat) (L : List Nat) (e t mo : Int) (w : World) (b : Bool) (hs : Sl w A c L) (he1 : -9223372036854775808 ≤ e) (he2 : e ≤ 9223372036854775807) (hb : b = true ↔ CfgOk me o p s L e t mo) :
    Calls Tryd.prog 9 #[.agg #[.int .i64 me, .int .i64 o, .int .i64 p, .bool s, .slice A L.length c, .int .i64 e, .int .i64 t, .int .i64 mo]] w fun r w' => r = .returned (.bool b) ∧ Ext w w' := by
  by_cases h1 : 1 ≤ me
  case neg => obtain rfl := b_false hb (fun h => h1 h.1.1); exact refCfg_no1 _ _ _ _ _ _ _ _ _ _ _ h1
  by_cases h2 : me ≤ 3
  case neg => obtain rfl := b_false hb (fun h => h2 h.1.2); exact refCfg_no2 _ _ _ _ _ _ _ _ _ _ _ h1 h2
  by_cases h3 : 1 ≤ o
  case neg => obtain rfl := b_false hb (fun h => h3 h.2.1.1); exact refCfg_no3 _ _ _ _ _ _ _ _ _ _ _ h1 h2 h3
  by_cases h4 : o ≤ 15
  case neg => obtain rfl := b_false hb (fun h => h4 h.2.1.2); exact refCfg_no4 _ _ _ _ _ _ _ _ _ _ _ h1 h2 h3 h4
  by_cases h5 : 8 ≤ p
  case neg => obtain rfl := b_false hb (fun h => h5 h.2.2.1.1); exact refCfg_no5 _ _ _ _ _ _ _ _ _ _ _ h1 h2 h3 h4 h5
  by_cases h6 : p ≤ 256
  case neg => obtain rfl := b_false hb (fun h => h6 h.2.2.1.2); exact refCfg_no6 _ _ _ _ _ _ _ _ _ _ _ h1 h2 h3 h4 h5 h6
  have hn1 : (1 ≤ me ∧ me ≤ 3) ∧ (1 ≤ o ∧ o ≤ 15) ∧ (8 ≤ p ∧ p ≤ 256) := ⟨⟨h1, h2⟩, ⟨h3, h4⟩, h5, h6⟩
  by_cases hp : Dok s L e ∧ 0 < Dy.sign ⟨s, val L, e⟩
  case neg => obtain rfl := b_false hb (fun h => hp ⟨h.2.2.2.2.2.1, h.2.2.2.2.2.2.1⟩); exact refCfg_pos _ _ _ _ _ _ _ _ _ _ _ hs he1 he2 hn1 hp
  obtain ⟨hd, hz⟩ := hp
  by_cases hc : cmpD ⟨s, val L, e⟩ ⟨false, 1, 20⟩ ≤ 0
  case neg => obtain rfl := b_false hb (fun h => hc h.2.2.2.2.2.2.2); exact refCfg_at0 _ _ _ _ _ _ _ _ _ _ _ hs he1 he2 hn1 hd hz hc
  by_cases j1 : 0 ≤ t
  case neg => obtain rfl := b_false hb (fun h => j1 h.2.2.2.1.1); exact refCfg_at1 _ _ _ _ _ _ _ _ _ _ _ hs he1 he2 hn1 hd hz hc j1
  by_cases j2 : t ≤ 200
  case neg => obtain rfl := b_false hb (fun h => j2 h.2.2.2.1.2); exact refCfg_at2 _ _ _ _ _ _ _ _ _ _ _ hs he1 he2 hn1 hd hz hc j1 j2
  by_cases j3 : 1 ≤ mo
  case neg => obtain rfl := b_false hb (fun h => j3 h.2.2.2.2.1.1); exact refCfg_at3 _ _ _ _ _ _ _ _ _ _ _ hs he1 he2 hn1 hd hz hc j1 j2 j3
  by_cases j4 : mo ≤ 1000
  case neg => obtain rfl := b_false hb (fun h => j4 h.2.2.2.2.1.2); exact refCfg_at4 _ _ _ _ _ _ _ _ _ _ _ hs he1 he2 hn1 hd hz hc j1 j2 j3 j4
  obtain rfl := hb.2 ⟨⟨h1, h2⟩, ⟨h3, h4⟩, ⟨h5, h6⟩, ⟨j1, j2⟩, ⟨j3, j4⟩, hd, hz, hc⟩
  exact refCfg_at5 _ _ _ _ _ _ _ _ _ _ _ hs he1 he2 hn1 hd hz hc j1 j2 j3 j4
end Go.Proofs.YtofdlkgpgcnjhaaDoor
