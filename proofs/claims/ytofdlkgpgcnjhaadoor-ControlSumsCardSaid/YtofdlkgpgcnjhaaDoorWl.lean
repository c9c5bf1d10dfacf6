/- Walks: signs, tops, and the numbers that are made. -/
import Derived.Test.YtofdlkgpgcnjhaaDoorWk
namespace Go.Proofs.YtofdlkgpgcnjhaaDoor
open Go.RowKit Fp

theorem limbs_len_of_bits {n k : Nat} (h : bitsN n ≤ 32 * k) : (limbs n).length ≤ k := limbs_length_le (by rw [pow32]; exact bitsN_le_iff.1 h)
theorem dok_limbs (d : Dy) : Dok d.neg (limbs d.m) d.e ↔ d.Valid := by
  unfold Dok
  rw [val_limbs]
  constructor
  · exact fun h => h.2.2
  · intro h
    refine ⟨trim_limbs _, ?_, h⟩
    rcases h.range with h0 | ⟨h1, _⟩
    · rw [h0, limbs_zero]; simp
    · exact limbs_len_of_bits (by omega)
theorem Dok.eq_limbs {s : Bool} {L : List Nat} {e : Int} (h : Dok s L e) (hk : Ok32 L) : L = limbs (val L) := h.1.eq_limbs hk
theorem Dok.len {s : Bool} {L : List Nat} {e : Int} (h : Dok s L e) : L.length ≤ 256 := h.2.1
theorem Dok.bits {s : Bool} {L : List Nat} {e : Int} (h : Dok s L e) : bitsN (val L) ≤ 4096 := by
  rcases h.2.2.range with h0 | ⟨h1, _⟩
  · simp only at h0; rw [h0]; decide
  · exact h1
theorem Dok.exp {s : Bool} {L : List Nat} {e : Int} (h : Dok s L e) : -16384 ≤ e ∧ e ≤ 16384 := by
  rcases h.2.2.range with h0 | ⟨_, h1, h2, _⟩
  · rcases h.2.2.canon with ⟨_, _, h3⟩ | h3
    · simp only at h3; omega
    · simp only at h0 h3; omega
  · exact ⟨h1, h2⟩
theorem Dok.top {s : Bool} {L : List Nat} {e : Int} (h : Dok s L e) (h0 : val L ≠ 0) : (bitsN (val L) : Int) + e ≤ 16384 := by
  rcases h.2.2.range with h0' | ⟨_, h1, h2, h3⟩
  · exact absurd h0' h0
  · exact h3

set_option maxHeartbeats 1000000 in
theorem dyTop_any (s : Bool) (A : Option Addr) (c : Nat) (L : List Nat) (e : Int) (w : World) (hs : Sl w A c L) (hd : Dok s L e) :
    Calls Tryd.prog 61 #[.agg #[.bool s, .slice A L.length c, .int .i64 e]] w fun r w' => r = .returned (.int .i64 (Dy.top ⟨s, val L, e⟩)) ∧ Ext w w' := by
  obtain ⟨he1, he2⟩ := hd.exp
  have hl := hd.len
  have hbt := hd.bits
  have HV := Lib.hid (fun w (h : Sl w A c L) => dyValid_any s A c L e w true h (by omega) (by omega) (by simp [hd]))
  have HS := Lib.hid (fun w (h : Sl w A c L) => dySize_any A c L w h (by omega))
  by_cases h0 : L = []
  · subst h0
    go_enter Tryd.func61, Tryd.ntmps61
    go_wp2_with fail
    refine (HV.out _ (hs.alloc _)).mono ?_
    rintro r w' ⟨rfl, hb⟩
    have bx := (Box3.new w s A 0 c e).ext hb
    have b0 := bx.c0; have b1 := bx.c1; have b2 := bx.c2
    go_wp2
    go_ret
    exact ⟨rfl, (Ext.alloc _ _).trans hb⟩
  · have hpos : 0 < L.length := List.length_pos_iff.2 h0
    have hv0 : val L ≠ 0 := by have := hd.1.val_pos h0; omega
    have ht := Lib.hid (show Dy.top ⟨s, val L, e⟩ = bitsN (val L) + e by unfold Dy.top; rw [if_neg hv0])
    clear h0 hv0
    generalize Dy.top ⟨s, val L, e⟩ = t at *
    generalize bitsN (val L) = q at *
    have hw : IntKind.i64.wrap ((q : Int) + e) = q + e := i64_in _ (by omega) (by omega)
    have hn0 : (((L.length : Nat) : Int) == 0) = false := beq_eq_false_iff_ne.2 (by omega)
    go_enter Tryd.func61, Tryd.ntmps61
    go_wp2_with fail
    refine (HV.out _ (hs.alloc _)).mono ?_
    rintro r w' ⟨rfl, hb⟩
    have bx := (Box3.new w s A L.length c e).ext hb
    have b0 := bx.c0; have b1 := bx.c1; have b2 := bx.c2
    have hs' := (hs.alloc _).below hb
    go_wp2_with fail
    go_region_held3 (fun w' => w'.cell? ⟨w.heap.size, 1, none⟩ = some (.slice A L.length c) ∧ w'.cell? ⟨w.heap.size, 2, none⟩ = some (.int .i64 e)) (go_keep)
      (first | (go_at_call 39; refine (HS.out _ ?_).mono ?_; (exact hs'.drew); rintro r w'' ⟨rfl, rfl⟩))
    go_wp2
    go_ret
    exact ⟨ret_int (by rw [ht.out]), Below.drew ((Ext.alloc _ _).trans hb)⟩

set_option maxHeartbeats 1000000 in
theorem dyBits_any (s : Bool) (A : Option Addr) (c : Nat) (L : List Nat) (e : Int) (w : World) (hs : Sl w A c L) (hd : Dok s L e) :
    Calls Tryd.prog 17 #[.agg #[.bool s, .slice A L.length c, .int .i64 e]] w fun r w' => r = .returned (.int .i64 (bitsN (val L))) ∧ Ext w w' := by
  obtain ⟨he1, he2⟩ := hd.exp
  have hl := hd.len
  have HV := Lib.hid (fun w (h : Sl w A c L) => dyValid_any s A c L e w true h (by omega) (by omega) (by simp [hd]))
  have HS := Lib.hid (fun w (h : Sl w A c L) => dySize_any A c L w h (by omega))
  go_enter Tryd.func17, Tryd.ntmps17
  go_wp2_with fail
  refine (HV.out _ (hs.alloc _)).mono ?_
  rintro r w' ⟨rfl, hb⟩
  have bx := (Box3.new w s A L.length c e).ext hb
  have b0 := bx.c0; have b1 := bx.c1; have b2 := bx.c2
  go_wp2_with fail
  refine (HS.out _ ((hs.alloc _).below hb)).mono ?_
  rintro r w' ⟨rfl, rfl⟩
  go_wp2
  go_ret
  exact ⟨rfl, (Ext.alloc _ _).trans hb⟩

set_option maxHeartbeats 1000000 in
theorem dySign_any (s : Bool) (A : Option Addr) (c : Nat) (L : List Nat) (e : Int) (w : World) (hs : Sl w A c L) (hd : Dok s L e) :
    Calls Tryd.prog 23 #[.agg #[.bool s, .slice A L.length c, .int .i64 e]] w fun r w' => r = .returned (.int .i64 (Dy.sign ⟨s, val L, e⟩)) ∧ Ext w w' := by
  obtain ⟨he1, he2⟩ := hd.exp
  have hl := hd.len
  have HV := Lib.hid (fun w (h : Sl w A c L) => dyValid_any s A c L e w true h (by omega) (by omega) (by simp [hd]))
  by_cases h0 : L = []
  · subst h0
    go_enter Tryd.func23, Tryd.ntmps23
    go_wp2_with fail
    refine (HV.out _ (hs.alloc _)).mono ?_
    rintro r w' ⟨rfl, hb⟩
    have bx := (Box3.new w s A 0 c e).ext hb
    have b0 := bx.c0; have b1 := bx.c1; have b2 := bx.c2
    go_wp2
    go_ret
    exact ⟨rfl, (Ext.alloc _ _).trans hb⟩
  · have hpos : 0 < L.length := List.length_pos_iff.2 h0
    have hv0 : val L ≠ 0 := by have := hd.1.val_pos h0; omega
    have ht := Lib.hid (show Dy.sign ⟨s, val L, e⟩ = if s then -1 else 1 by unfold Dy.sign; rw [if_neg hv0])
    clear h0 hv0
    generalize Dy.sign ⟨s, val L, e⟩ = t at *
    have hn0 : (((L.length : Nat) : Int) == 0) = false := beq_eq_false_iff_ne.2 (by omega)
    go_enter Tryd.func23, Tryd.ntmps23
    go_wp2_with fail
    refine (HV.out _ (hs.alloc _)).mono ?_
    rintro r w' ⟨rfl, hb⟩
    have bx := (Box3.new w s A L.length c e).ext hb
    have b0 := bx.c0; have b1 := bx.c1; have b2 := bx.c2
    cases s
    · go_wp2
      go_ret
      exact ⟨ret_int (by rw [ht.out]; rfl), (Ext.alloc _ _).trans hb⟩
    · go_wp2
      go_ret
      exact ⟨ret_int (by rw [ht.out]; rfl), (Ext.alloc _ _).trans hb⟩

/-- A number that is not valid has no sign. -/
theorem dySign_no (s : Bool) (A : Option Addr) (c : Nat) (L : List Nat) (e : Int) (w : World) (hs : Sl w A c L) (he1 : -9223372036854775808 ≤ e) (he2 : e ≤ 9223372036854775807) (hd : ¬ Dok s L e) :
    Calls Tryd.prog 23 #[.agg #[.bool s, .slice A L.length c, .int .i64 e]] w fun r w' => r = .returned (.int .i64 0) ∧ Ext w w' := by
  have HV := Lib.hid (fun w (h : Sl w A c L) => dyValid_any s A c L e w false h (by omega) (by omega) (by simp [hd]))
  go_enter Tryd.func23, Tryd.ntmps23
  go_wp2_with fail
  refine (HV.out _ (hs.alloc _)).mono ?_
  rintro r w' ⟨rfl, hb⟩
  go_wp2
  go_ret
  exact ⟨rfl, (Ext.alloc _ _).trans hb⟩
end Go.Proofs.YtofdlkgpgcnjhaaDoor
