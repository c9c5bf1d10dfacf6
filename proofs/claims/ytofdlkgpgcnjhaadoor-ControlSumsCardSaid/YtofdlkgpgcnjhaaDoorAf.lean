/- Walks: sums and differences of numbers of limbs, with their errors. -/
import Derived.Test.YtofdlkgpgcnjhaaDoorAe
import Derived.Test.YtofdlkgpgcnjhaaDoorTj
namespace Go.Proofs.YtofdlkgpgcnjhaaDoor
open Go.RowKit Fp

theorem trimL_val {T : List Nat} {v : Nat} (h : Ok32 T) (hv : val T = v) : trimL T = limbs v := by rw [trimL_eq_limbs h, hv]

set_option maxHeartbeats 1000000 in
theorem natAdd_ok (A B : Option Addr) (c d : Nat) (L M : List Nat) (w : World) (hs : Sl w A c L) (hr : Sl w B d M) (h1 : L.length ≤ 256) (h2 : M.length ≤ 256) (hf : (limbs (val L + val M)).length ≤ 256) :
    Calls Tryd.prog 67 #[.slice A L.length c, .slice B M.length d] w (RetLE w (limbs (val L + val M)) 0) := by
  have H1 := Lib.hid (fun w (h : Sl w A c L) (k : Sl w B d M) => natadd_any A B c d L M w h k (by omega) (by omega))
  generalize val L + val M = v at *
  go_enter Tryd.func67, Tryd.ntmps67
  go_wp2_with fail
  refine (longB_any _ A B _ c _ d _ false (SlS2a _ _ _ _ _ _ _) (SlS2b _ _ _ _ _ _ _) (by simp; omega)).mono ?_
  rintro e w' ⟨rfl, rfl⟩
  go_wp2_with fail
  refine (H1.out _ (hs.alloc _) (hr.alloc _)).mono ?_
  rintro e w' ⟨T, hv, hk, hl, A', c', rfl, hs', hb⟩
  have ht := Lib.hid (trimL_val hk hv)
  go_wp2_with fail
  refine (natDone_ok A' c' T _ hs' (by rw [ht.out]; exact hf)).mono ?_
  rintro e w'' ⟨A'', c'', rfl, hs'', hb'⟩
  rw [ht.out] at hs'' ⊢
  go_wp2
  go_ret2
  exact ⟨A'', c'', rfl, hs'', (Ext.alloc _ _).trans (hb.trans hb')⟩

set_option maxHeartbeats 1000000 in
theorem natSub_ok (A B : Option Addr) (c d : Nat) (L M : List Nat) (w : World) (hs : Sl w A c L) (hr : Sl w B d M) (h1 : L.length ≤ 256) (h2 : M.length ≤ 256) (hle : val M ≤ val L) :
    Calls Tryd.prog 68 #[.slice A L.length c, .slice B M.length d] w (RetLE w (limbs (val L - val M)) 0) := by
  have H1 := Lib.hid (fun w (h : Sl w A c L) (k : Sl w B d M) => natsub_any A B c d L M w h k (by omega) (by omega) hle)
  have HC := Lib.hid (fun w (h : Sl w A c L) (k : Sl w B d M) => natCmp_any A B c d L M w h k (by omega) (by omega))
  have hc : decide (cmpN (val L) (val M) < 0) = false := by
    apply decide_eq_false
    unfold cmpN
    rw [if_neg (by omega)]
    split <;> decide
  have hf : (limbs (val L - val M)).length ≤ 256 := Nat.le_trans (limbs_len_mono (Nat.sub_le _ _)) (limbs_val_len hs.ok h1)
  generalize val L - val M = v at *
  generalize cmpN (val L) (val M) = q at *
  clear hle
  go_enter Tryd.func68, Tryd.ntmps68
  go_wp2_with fail
  refine (longB_any _ A B _ c _ d _ false (SlS2a _ _ _ _ _ _ _) (SlS2b _ _ _ _ _ _ _) (by simp; omega)).mono ?_
  rintro e w' ⟨rfl, rfl⟩
  go_wp2_with fail
  refine (HC.out _ (hs.alloc _) (hr.alloc _)).mono ?_
  rintro e w1 ⟨rfl, hb1⟩
  go_wp2_with fail
  refine (H1.out _ ((hs.alloc _).below hb1) ((hr.alloc _).below hb1)).mono ?_
  rintro e w' ⟨T, hv, hk, hl, A', c', rfl, hs', hb⟩
  have ht := Lib.hid (trimL_val hk hv)
  go_wp2_with fail
  refine (natDone_ok A' c' T _ hs' (by rw [ht.out]; exact hf)).mono ?_
  rintro e w'' ⟨A'', c'', rfl, hs'', hb'⟩
  rw [ht.out] at hs'' ⊢
  go_wp2
  go_ret2
  exact ⟨A'', c'', rfl, hs'', (Ext.alloc _ _).trans (hb1.trans (hb.trans hb'))⟩
end Go.Proofs.YtofdlkgpgcnjhaaDoor
