/- Walks: the reference's product of two numbers. -/
import Derived.Test.YtofdlkgpgcnjhaaDoorTi
import Derived.Test.YtofdlkgpgcnjhaaDoorWr
namespace Go.Proofs.YtofdlkgpgcnjhaaDoor
open Go.RowKit Fp

/-- The product, whether it is in range or not. -/
def mulD (a b : Dy) : Dy := canon (a.neg != b.neg) (a.m * b.m) (a.e + b.e)

theorem limbs_mul_len {a b k l : Nat} (ha : (limbs a).length ≤ k) (hb : (limbs b).length ≤ l) : (limbs (a * b)).length ≤ k + l := by
  have h1 := lt_of_limbs_length ha
  have h2 := lt_of_limbs_length hb
  refine limbs_length_le ?_
  rw [Nat.pow_add]
  exact Nat.mul_lt_mul'' h1 h2

theorem limbs_val_len {L : List Nat} {k : Nat} (h : Ok32 L) (hl : L.length ≤ k) : (limbs (val L)).length ≤ k :=
  limbs_length_le (Nat.lt_of_lt_of_le (val_lt h) (Nat.pow_le_pow_right (by decide) hl))

set_option maxHeartbeats 4000000 in
theorem refProduct_any (s : Bool) (A : Option Addr) (c : Nat) (L : List Nat) (e : Int) (t : Bool) (B : Option Addr) (d : Nat) (M : List Nat) (f : Int) (w : World)
    (hs : Sl w A c L) (hr : Sl w B d M) (h1 : L.length ≤ 1000) (h2 : M.length ≤ 1000) (e1 : -200000 ≤ e) (e2 : e ≤ 200000) (f1 : -200000 ≤ f) (f2 : f ≤ 200000) :
    Calls Tryd.prog 15 #[.agg #[.bool s, .slice A L.length c, .int .i64 e], .agg #[.bool t, .slice B M.length d, .int .i64 f]] w (RetD w (mulD ⟨s, val L, e⟩ ⟨t, val M, f⟩)) := by
  have hE : Ext w (((w.alloc (.cells #[.bool s, .slice A L.length c, .int .i64 e] 24)).alloc (.cells #[.bool t, .slice B M.length d, .int .i64 f] 24)).alloc (.cells #[.bool false, .slice none 0 0, .int .i64 0] 24)) := ((Ext.alloc _ _).trans (Ext.alloc _ _)).trans (Ext.alloc _ _)
  have hw : IntKind.i64.wrap (e + f) = e + f := i64_in _ (by omega) (by omega)
  have bx1 := (((Box3.new w s A L.length c e).alloc (.cells #[.bool t, .slice B M.length d, .int .i64 f] 24)).alloc (.cells #[.bool false, .slice none 0 0, .int .i64 0] 24)).drew
  have bx2 := ((Box3.newAt (W := w.alloc (.cells #[.bool s, .slice A L.length c, .int .i64 e] 24)) (g := w.heap.size + 1) (by simp) t B M.length d f).alloc (.cells #[.bool false, .slice none 0 0, .int .i64 0] 24)).drew
  have bx3 := (Box3.newAt (W := (w.alloc (.cells #[.bool s, .slice A L.length c, .int .i64 e] 24)).alloc (.cells #[.bool t, .slice B M.length d, .int .i64 f] 24)) (g := w.heap.size + 1 + 1) (by simp) false none 0 0 0).drew
  have hsW := (hs.below hE).drew
  have hrW := (hr.below hE).drew
  have HE := Lib.hid (hE.trans (Ext.drew _))
  clear hE
  have hlen := limbs_mul_len (a := val L) (b := val M) (k := 1000) (l := 1000) (limbs_val_len hs.ok h1) (limbs_val_len hr.ok h2)
  have HO := Lib.hid (fun A c w (h : Sl w A c (limbs (val L * val M))) => refOf_any (s != t) A c (limbs (val L * val M)) (e + f) w h (by omega) (by omega) (by omega))
  rw [val_limbs] at HO
  have hD : mulD ⟨s, val L, e⟩ ⟨t, val M, f⟩ = canon (s != t) (val L * val M) (e + f) := rfl
  rw [hD]
  have HT := Lib.hid (fun w (h : Sl w A c L) (k : Sl w B d M) => refTimes_any A B c d L M w h k (by omega) (by omega))
  clear hD hlen
  generalize canon (s != t) (val L * val M) (e + f) = D at *
  generalize val L * val M = x at *
  go_enter Tryd.func15, Tryd.ntmps15
  go_wp2_with fail
  go_region_held3 (fun w' => w'.cell? ⟨w.heap.size, 0, none⟩ = some (.bool s) ∧ w'.cell? ⟨w.heap.size, 1, none⟩ = some (.slice A L.length c) ∧ w'.cell? ⟨w.heap.size, 2, none⟩ = some (.int .i64 e) ∧ w'.cell? ⟨w.heap.size + 1, 0, none⟩ = some (.bool t) ∧ w'.cell? ⟨w.heap.size + 1, 1, none⟩ = some (.slice B M.length d) ∧ w'.cell? ⟨w.heap.size + 1, 2, none⟩ = some (.int .i64 f))
    (first
      | exact ⟨bx1.c0, bx1.c1, bx1.c2, bx2.c0, bx2.c1, bx2.c2⟩
      | exact ⟨(bx1.ext hbp).c0, (bx1.ext hbp).c1, (bx1.ext hbp).c2, (bx2.ext hbp).c0, (bx2.ext hbp).c1, (bx2.ext hbp).c2⟩
      | exact ⟨(bx1.ext (hbp.trans hbo)).c0, (bx1.ext (hbp.trans hbo)).c1, (bx1.ext (hbp.trans hbo)).c2, (bx2.ext (hbp.trans hbo)).c0, (bx2.ext (hbp.trans hbo)).c1, (bx2.ext (hbp.trans hbo)).c2⟩
      | exact ⟨set3_far (bx1.ext (hbp.trans hbo)).c0 (by omega), set3_far (bx1.ext (hbp.trans hbo)).c1 (by omega), set3_far (bx1.ext (hbp.trans hbo)).c2 (by omega), set3_far (bx2.ext (hbp.trans hbo)).c0 (by omega), set3_far (bx2.ext (hbp.trans hbo)).c1 (by omega), set3_far (bx2.ext (hbp.trans hbo)).c2 (by omega)⟩)
    (first
      | (go_at_call 38
         refine (HT.out _ hsW hrW).mono ?_
         rintro r wp ⟨Ap, cp, rfl, hsp, hbp⟩)
      | (go_at_call 36
         refine (HO.out _ _ _ hsp).mono ?_
         rintro r wo ⟨Ao, co, rfl, hso, hbo⟩
         have bz := bx3.ext (hbp.trans hbo)
         have z0 := bz.c0
         have z1 := bz.c1
         have z2 := bz.c2
         have y0 := bz.fr 0
         have y1 := bz.fr 1
         have y2 := bz.fr 2))
  go_wp2
  exact dy_ret rfl rfl rfl (bz.set _ _ _ _ _) rfl (bz.set_sl hso _ _ _ _ _) (Box3.set_ext (HE.out.trans (hbp.trans hbo)) (by omega) _ _ _ _ _)
end Go.Proofs.YtofdlkgpgcnjhaaDoor
