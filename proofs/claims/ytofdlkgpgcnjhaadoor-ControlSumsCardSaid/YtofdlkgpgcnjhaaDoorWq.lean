/- Walks: integers, sums. -/
import Derived.Test.YtofdlkgpgcnjhaaDoorWp
namespace Go.Proofs.YtofdlkgpgcnjhaaDoor
open Go.RowKit Fp

/-! ### integers -/
theorem Sl.two (w : World) (g : Nat) (hg : w.heap.size = g) (y z : Int) (p q : Nat) (e : y = (p : Int)) (e' : z = (q : Int)) (hp : p < 4294967296) (hq : q < 4294967296) :
    Sl (w.alloc (.cells #[.int .u32 y, .int .u32 z] 50)) (some ⟨g, 0, none⟩) 2 [p, q] := by
  subst e e' hg
  refine ⟨Nat.le_refl _, by decide, Ok32.cons hp (Ok32.cons hq Ok32.nil), (fun h => by cases h), fun i y hy => ?_⟩
  obtain ⟨h1, h2⟩ := List.getElem?_eq_some_iff.1 hy
  simp at h1
  refine ⟨_, _, rfl, by simp, ?_⟩
  rw [Nat.zero_add, World.cell?_alloc_at _ _ _ _ rfl]
  rcases i with _ | _ | i
  · simp at h2; subst h2; rfl
  · simp at h2; subst h2; rfl
  · omega

/-- The integers that occur here are small and not negative. -/
theorem refInt_any (n : Nat) (w : World) (hn : n < 4294967296) :
    Calls Tryd.prog 16 #[.int .i64 n] w (RetD w (canon false n 0)) := by
  have hm := and_mask n (by omega)
  have hm2 : (n : Int) % 4294967296 = n := by omega
  rw [hm2] at hm
  have hd : (n : Int) / 4294967296 = 0 := by omega
  have hlt : ¬ (n : Int) < 0 := by omega
  have hdl : decide ((n : Int) < 0) = false := decide_eq_false hlt
  have hu : IntKind.u64.wrap (n : Int) = n := by rw [IntKind.wrap_u64]; omega
  have HC := Lib.hid (fun (A : Option Addr) c w (h : Sl w A c [n, 0]) => refOf_any false A c [n, 0] 0 w h (by simp) (by decide) (by decide))
  have hv : val [n, 0] = n := by simp
  rw [hv] at HC
  clear hv
  generalize canon false n 0 = d at *
  go_enter Tryd.func16, Tryd.ntmps16
  go_wp2_with fail
  refine (HC.out _ _ _ (Sl.two _ _ (by simp) _ _ n 0 rfl rfl hn (by decide))).mono ?_
  rintro r w1 ⟨A1, c1, rfl, hs1, hb1⟩
  have hb0 : Ext (w.alloc (.cells #[.bool false, .slice none 0 0, .int .i64 0] 24)) w1 := (Ext.alloc _ _).trans hb1
  have bx := (Box3.new w false none 0 0 0).ext hb0
  have b0 := bx.c0; have b1 := bx.c1; have b2 := bx.c2; have f0 := bx.fr 0; have f1 := bx.fr 1; have f2 := bx.fr 2
  go_wp2
  exact dy_ret rfl rfl rfl (bx.set _ _ _ _ _) rfl (bx.set_sl hs1 _ _ _ _ _) (Box3.set_ext ((Ext.alloc _ _).trans hb0) (Nat.le_refl _) _ _ _ _ _)
end Go.Proofs.YtofdlkgpgcnjhaaDoor
