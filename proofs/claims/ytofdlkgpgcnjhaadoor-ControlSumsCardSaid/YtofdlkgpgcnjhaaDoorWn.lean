/- Walks: the reference's numbers. -/
import Derived.Test.YtofdlkgpgcnjhaaDoorWm
namespace Go.Proofs.YtofdlkgpgcnjhaaDoor
open Go.RowKit Fp

theorem u32_and1 (x : Nat) (hx : x < 4294967296) : bits BinOp.and IntKind.u32 (x : Int) 1 = ((x % 2 : Nat) : Int) := by
  rw [show (1 : Int) = ((1 : Nat) : Int) from rfl, bits_and_u32_nat _ _ hx (by decide), Nat.and_one_is_mod]

theorem inRB_iff {m : Nat} (h0 : m ≠ 0) (e : Int) : inRB m e = true ↔ (bitsN m ≤ 4096 ∧ -16384 ≤ e ∧ e ≤ 16384 ∧ (bitsN m : Int) + e ≤ 16384) := by
  have h : inRB m e = true ↔ inRange ⟨false, m, e⟩ := decide_eq_true_iff
  rw [h]
  constructor
  · rintro (h | h)
    · exact absurd h h0
    · exact h
  · exact fun h => .inr h

set_option maxHeartbeats 4000000 in
theorem refValid_any (s : Bool) (A : Option Addr) (c : Nat) (L : List Nat) (e : Int) (w : World) (b : Bool) (hs : Sl w A c L) (he1 : -9223372036854775808 ≤ e) (he2 : e ≤ 9223372036854775807) (hb : b = true ↔ Dok s L e) :
    Calls Tryd.prog 20 #[.agg #[.bool s, .slice A L.length c, .int .i64 e]] w fun r w' => r = .returned (.bool b) ∧ Ext w w' := by
  have hcap := hs.cap
  have hlim := hs.lim
  by_cases hL : L = []
  · subst hL
    rw [dok_nil] at hb
    cases s
    · by_cases h : e = 0
      · subst h
        have : b = true := by simpa using hb
        clear hb; subst this
        go_enter Tryd.func20, Tryd.ntmps20
        go_wp2
        go_ret
        exact ⟨rfl, Ext.alloc _ _⟩
      · have : b = false := b_false hb (by simp [h])
        have h' : (e == 0) = false := by simp; omega
        clear hb; subst this
        go_enter Tryd.func20, Tryd.ntmps20
        go_wp2
        go_ret
        exact ⟨rfl, Ext.alloc _ _⟩
    · have : b = false := b_false hb (by simp)
      clear hb; subst this
      go_enter Tryd.func20, Tryd.ntmps20
      go_wp2
      go_ret
      exact ⟨rfl, Ext.alloc _ _⟩
  · have hpos : 0 < L.length := List.length_pos_iff.2 hL
    obtain ⟨ab, ao, rfl, _, c1⟩ := hs.at_ hpos
    obtain ⟨ab', ao', e', _, c2⟩ := hs.at_ (i := L.length - 1) (by omega)
    cases e'
    have hx32 := hs.ok.get hpos
    have hy32 := hs.ok.get (show L.length - 1 < L.length by omega)
    rw [dok_cons (List.getElem?_eq_getElem hpos) (List.getElem?_eq_getElem (show L.length - 1 < L.length by omega))] at hb
    have c1' : w.cell? ⟨ab, ao, none⟩ = some (.int .u32 (L[0] : Int)) := c1
    have hTr := Lib.hid (show L[L.length - 1] ≠ 0 → Trim L from fun h => (trim_iff L).2 (fun _ => h))
    have hV0 := Lib.hid (show L[L.length - 1] ≠ 0 → val L ≠ 0 from fun h => by have := ((trim_iff L).2 (fun _ => h)).val_pos hL; omega)
    clear c1 hL
    generalize L[0] = x at *
    generalize L[L.length - 1] = y at *
    have HB := Lib.hid hb; clear hb
    have H := Lib.hid (fun w (h : Sl w (some ⟨ab, ao, none⟩) c L) (hl : L.length ≤ 256) (ht : Trim L) => refBits_any _ c L w h ht (by omega))
    have hr : Hid (val L ≠ 0 → (inRB (val L) e = true ↔ (bitsN (val L) ≤ 4096 ∧ -16384 ≤ e ∧ e ≤ 16384 ∧ (bitsN (val L) : Int) + e ≤ 16384))) := fun h0 => by
      exact inRB_iff h0 e
    obtain ⟨n, hn⟩ : ∃ n, n = L.length := ⟨_, rfl⟩
    rw [← hn] at hpos c2 H HB hcap ⊢
    have HN := Lib.hid hn
    clear hn
    have hn0 : ((n : Int) == 0) = false := by simp; omega
    by_cases h1 : n ≤ 256
    · have hn1 : decide (256 < (n : Int)) = false := decide_eq_false (by omega)
      by_cases h3 : y = 0
      · have : b = false := b_false HB.out (by simp [h3])
        have hn3 : ((y : Int) == 0) = true := by simp; omega
        clear HB hr; subst this
        go_enter Tryd.func20, Tryd.ntmps20
        go_wp2
        go_ret
        exact ⟨rfl, Ext.alloc _ _⟩
      · have hn3 : ((y : Int) == 0) = false := beq_eq_false_iff_ne.2 (by omega)
        have hand := u32_and1 x hx32
        by_cases h2 : x % 2 = 1
        · have hn2 : (bits BinOp.and IntKind.u32 (x : Int) 1 == 0) = false := by rw [hand, h2]; rfl
          clear hand
          have h0 := hV0.out h3
          have htr := hTr.out h3
          have hbig : bitsN (val L) ≤ 32 * n := bitsN_le_iff.2 (by rw [← pow32, HN.out]; exact val_lt hs.ok)
          have HB2 : Hid (b = true ↔ (bitsN (val L) ≤ 4096 ∧ -16384 ≤ e ∧ e ≤ 16384 ∧ (bitsN (val L) : Int) + e ≤ 16384)) := by
            show b = true ↔ _
            rw [HB.out, hr.out h0]; simp [h1, h2, h3]
          have H2 := Lib.hid (fun w h => H.out w h h1 htr)
          clear HB hr h0 htr hTr hV0 H
          generalize bitsN (val L) = q at *
          by_cases h4 : -16384 ≤ e
          · have d4 : decide (e < -16384) = false := decide_eq_false (by omega)
            by_cases h5 : e ≤ 16384
            · have d5 : decide (16384 < e) = false := decide_eq_false (by omega)
              by_cases h6 : q ≤ 4096
              · have d6 : decide ((q : Int) ≤ 4096) = true := decide_eq_true (by omega)
                by_cases h7 : (q : Int) + e ≤ 16384
                · have d7 : decide ((q : Int) + e ≤ 16384) = true := decide_eq_true h7
                  have := b_true HB2.out ⟨h6, h4, h5, h7⟩
                  clear HB2; subst this
                  go_enter Tryd.func20, Tryd.ntmps20
                  go_wp2_with fail
                  refine (H2.out _ (hs.alloc _)).mono ?_
                  rintro r w' ⟨rfl, rfl⟩
                  go_wp2
                  go_ret
                  exact ⟨rfl, Ext.alloc _ _⟩
                · have d7 : decide ((q : Int) + e ≤ 16384) = false := decide_eq_false h7
                  have := b_false HB2.out (fun h => h7 h.2.2.2)
                  clear HB2; subst this
                  go_enter Tryd.func20, Tryd.ntmps20
                  go_wp2_with fail
                  refine (H2.out _ (hs.alloc _)).mono ?_
                  rintro r w' ⟨rfl, rfl⟩
                  go_wp2
                  go_ret
                  exact ⟨rfl, Ext.alloc _ _⟩
              · have d6 : decide ((q : Int) ≤ 4096) = false := decide_eq_false (by omega)
                have := b_false HB2.out (fun h => h6 h.1)
                clear HB2; subst this
                go_enter Tryd.func20, Tryd.ntmps20
                go_wp2_with fail
                refine (H2.out _ (hs.alloc _)).mono ?_
                rintro r w' ⟨rfl, rfl⟩
                go_wp2
                go_ret
                exact ⟨rfl, Ext.alloc _ _⟩
            · have d5 : decide (16384 < e) = true := decide_eq_true (by omega)
              have := b_false HB2.out (fun h => h5 h.2.2.1)
              clear HB2; subst this
              go_enter Tryd.func20, Tryd.ntmps20
              go_wp2
              go_ret
              exact ⟨rfl, Ext.alloc _ _⟩
          · have d4 : decide (e < -16384) = true := decide_eq_true (by omega)
            have := b_false HB2.out (fun h => h4 h.2.1)
            clear HB2; subst this
            go_enter Tryd.func20, Tryd.ntmps20
            go_wp2
            go_ret
            exact ⟨rfl, Ext.alloc _ _⟩
        · have hn2 : (bits BinOp.and IntKind.u32 (x : Int) 1 == 0) = true := by rw [hand, show x % 2 = 0 by omega]; rfl
          have : b = false := b_false HB.out (fun h => h2 h.2.1)
          clear HB hand hr; subst this
          go_enter Tryd.func20, Tryd.ntmps20
          go_wp2
          go_ret
          exact ⟨rfl, Ext.alloc _ _⟩
    · have : b = false := b_false HB.out (fun h => h1 h.1)
      have hn1 : decide (256 < (n : Int)) = true := decide_eq_true (by omega)
      clear HB hr; subst this
      go_enter Tryd.func20, Tryd.ntmps20
      go_wp2
      go_ret
      exact ⟨rfl, Ext.alloc _ _⟩
end Go.Proofs.YtofdlkgpgcnjhaaDoor
