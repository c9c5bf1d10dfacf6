/- Walks: which numbers are valid. -/
import Derived.Test.YtofdlkgpgcnjhaaDoorWj
namespace Go.Proofs.YtofdlkgpgcnjhaaDoor
open Go.RowKit Fp

theorem dySize_any (A : Option Addr) (c : Nat) (L : List Nat) (w : World) (hs : Sl w A c L) (hlen : L.length ≤ 100000000) :
    Calls Tryd.prog 39 #[.slice A L.length c] w fun e w' => e = .returned (.int .i64 (bitsN (val L))) ∧ w = w' := by
  have H := Lib.hid (natBits_any A c L w hs hlen)
  go_enter Tryd.func39, Tryd.ntmps39
  go_wp2_with fail
  refine H.out.mono ?_
  rintro e w' ⟨rfl, rfl⟩
  go_wp2
  go_ret
  exact ⟨rfl, rfl⟩

/-- In range, as a Bool. -/
def inRB (m : Nat) (e : Int) : Bool := decide (inRange ⟨false, m, e⟩)

set_option maxHeartbeats 1000000 in
theorem inRange_any (s : Bool) (A : Option Addr) (c : Nat) (L : List Nat) (e : Int) (w : World) (hs : Sl w A c L) (hlen : L.length ≤ 100000000) (he1 : -9223372036854775808 ≤ e) (he2 : e ≤ 9223372036854775807) :
    Calls Tryd.prog 49 #[.agg #[.bool s, .slice A L.length c, .int .i64 e]] w fun r w' => r = .returned (.bool (inRB (val L) e)) ∧ Ext w w' := by
  have H := Lib.hid (fun w (h : Sl w A c L) => dySize_any A c L w h hlen)
  have hn : Hid (inRB (val L) e = decide (bitsN (val L) = 0 ∨ bitsN (val L) ≤ 4096 ∧ -16384 ≤ e ∧ e ≤ 16384 ∧ (bitsN (val L) : Int) + e ≤ 16384)) := by
    have h : bitsN (val L) = 0 ↔ val L = 0 := by
      constructor
      · intro h; apply Classical.byContradiction; intro h0; have := bitsN_pos h0; omega
      · intro h; rw [h]; rfl
    exact decide_eq_decide.2 (or_congr h.symm Iff.rfl)
  have hbig : bitsN (val L) ≤ 32 * L.length := bitsN_le_iff.2 (by rw [← pow32]; exact val_lt hs.ok)
  generalize bitsN (val L) = n at *
  generalize inRB (val L) e = b at *
  have hcase : n = 0 ∨ (0 < n ∧ 4096 < n) ∨ (0 < n ∧ n ≤ 4096 ∧ e < -16384) ∨ (0 < n ∧ n ≤ 4096 ∧ -16384 ≤ e ∧ 16384 < e) ∨ (0 < n ∧ n ≤ 4096 ∧ -16384 ≤ e ∧ e ≤ 16384 ∧ 16384 < (n : Int) + e) ∨ (0 < n ∧ n ≤ 4096 ∧ -16384 ≤ e ∧ e ≤ 16384 ∧ (n : Int) + e ≤ 16384) := by omega
  rcases hcase with h | ⟨h, h1⟩ | ⟨h, h1, h2⟩ | ⟨h, h1, h2, h3⟩ | ⟨h, h1, h2, h3, h4⟩ | ⟨h, h1, h2, h3, h4⟩
  · subst h
    have hb : b = true := by rw [hn.out]; simp
    clear hn; subst hb
    go_enter Tryd.func49, Tryd.ntmps49
    go_wp2_with fail
    refine (H.out _ (hs.alloc _)).mono ?_
    rintro r w' ⟨rfl, rfl⟩
    go_wp2
    go_ret
    exact ⟨rfl, Ext.alloc _ _⟩
  · have hb : b = false := by rw [hn.out]; simp; omega
    have hn0 : ((n : Int) == 0) = false := by simp; omega
    have hn1 : decide ((n : Int) ≤ 4096) = false := by simp; omega
    clear hn; subst hb
    go_enter Tryd.func49, Tryd.ntmps49
    go_wp2_with fail
    refine (H.out _ (hs.alloc _)).mono ?_
    rintro r w' ⟨rfl, rfl⟩
    go_wp2
    go_ret
    exact ⟨rfl, Ext.alloc _ _⟩
  · have hb : b = false := by rw [hn.out]; simp; omega
    have hn0 : ((n : Int) == 0) = false := by simp; omega
    have hn1 : decide ((n : Int) ≤ 4096) = true := by simp; omega
    have hn2 : decide (-16384 ≤ e) = false := by simp; omega
    clear hn; subst hb
    go_enter Tryd.func49, Tryd.ntmps49
    go_wp2_with fail
    refine (H.out _ (hs.alloc _)).mono ?_
    rintro r w' ⟨rfl, rfl⟩
    go_wp2
    go_ret
    exact ⟨rfl, Ext.alloc _ _⟩
  · have hb : b = false := by rw [hn.out]; simp; omega
    have hn0 : ((n : Int) == 0) = false := by simp; omega
    have hn1 : decide ((n : Int) ≤ 4096) = true := by simp; omega
    have hn2 : decide (-16384 ≤ e) = true := by simp; omega
    have hn3 : decide (e ≤ 16384) = false := by simp; omega
    clear hn; subst hb
    go_enter Tryd.func49, Tryd.ntmps49
    go_wp2_with fail
    refine (H.out _ (hs.alloc _)).mono ?_
    rintro r w' ⟨rfl, rfl⟩
    go_wp2
    go_ret
    exact ⟨rfl, Ext.alloc _ _⟩
  · have hb : b = false := by rw [hn.out]; simp; omega
    have hn0 : ((n : Int) == 0) = false := by simp; omega
    have hn1 : decide ((n : Int) ≤ 4096) = true := by simp; omega
    have hn2 : decide (-16384 ≤ e) = true := by simp; omega
    have hn3 : decide (e ≤ 16384) = true := by simp; omega
    have hn4 : decide ((n : Int) + e ≤ 16384) = false := by simp; omega
    clear hn; subst hb
    go_enter Tryd.func49, Tryd.ntmps49
    go_wp2_with fail
    refine (H.out _ (hs.alloc _)).mono ?_
    rintro r w' ⟨rfl, rfl⟩
    go_wp2
    go_ret
    exact ⟨rfl, Ext.alloc _ _⟩
  · have hb : b = true := by rw [hn.out]; simp; omega
    have hn0 : ((n : Int) == 0) = false := by simp; omega
    have hn1 : decide ((n : Int) ≤ 4096) = true := by simp; omega
    have hn2 : decide (-16384 ≤ e) = true := by simp; omega
    have hn3 : decide (e ≤ 16384) = true := by simp; omega
    have hn4 : decide ((n : Int) + e ≤ 16384) = true := by simp; omega
    clear hn; subst hb
    go_enter Tryd.func49, Tryd.ntmps49
    go_wp2_with fail
    refine (H.out _ (hs.alloc _)).mono ?_
    rintro r w' ⟨rfl, rfl⟩
    go_wp2
    go_ret
    exact ⟨rfl, Ext.alloc _ _⟩

/-- A valid number, as it lies in memory. -/
def Dok (s : Bool) (L : List Nat) (e : Int) : Prop := Trim L ∧ L.length ≤ 256 ∧ Dy.Valid ⟨s, val L, e⟩

theorem dok_nil (s : Bool) (e : Int) : Dok s [] e ↔ s = false ∧ e = 0 := by
  unfold Dok
  constructor
  · rintro ⟨_, _, hc, _⟩
    rcases hc with ⟨_, h1, h2⟩ | h
    · exact ⟨h1, h2⟩
    · simp at h
  · rintro ⟨rfl, rfl⟩
    exact ⟨Trim.nil, by simp, zeroD_valid⟩

theorem dok_cons {s : Bool} {L : List Nat} {e : Int} {x y : Nat} (hx : L[0]? = some x) (hy : L[L.length - 1]? = some y) :
    Dok s L e ↔ L.length ≤ 256 ∧ x % 2 = 1 ∧ y ≠ 0 ∧ inRB (val L) e = true := by
  have hpar : val L % 2 = x % 2 := by
    cases L with
    | nil => simp at hx
    | cons z l => simp at hx; subst hx; simp only [val_cons]; omega
  have htr : Trim L ↔ y ≠ 0 := by
    rw [trim_iff]
    obtain ⟨h1, h2⟩ := List.getElem?_eq_some_iff.1 hy
    constructor
    · intro h; rw [← h2]; exact h (by omega)
    · intro h _; rw [h2]; exact h
  unfold Dok inRB
  rw [htr, decide_eq_true_iff]
  constructor
  · rintro ⟨h1, h2, hc, hr⟩
    have hr' : inRange ⟨false, val L, e⟩ := hr
    refine ⟨h2, ?_, h1, hr'⟩
    rcases hc with ⟨h, _, _⟩ | h
    · exfalso
      have := (htr.2 h1).val_pos (by intro h0; subst h0; simp at hx)
      simp only at h
      omega
    · rw [← hpar]; exact h
  · rintro ⟨h1, h2, h3, h4⟩
    exact ⟨h3, h1, .inr (by show val L % 2 = 1; rw [hpar]; exact h2), h4⟩

theorem b_false {b : Bool} {P : Prop} (h : b = true ↔ P) (hn : ¬ P) : b = false := by
  cases b
  · rfl
  · exact absurd (h.1 rfl) hn
theorem b_true {b : Bool} {P : Prop} (h : b = true ↔ P) (hn : P) : b = true := h.2 hn
theorem b_eq {b v : Bool} {P : Prop} (h : b = true ↔ P) (hn : P ↔ v = true) : b = v := by
  cases b <;> cases v <;> simp_all

set_option maxHeartbeats 2000000 in
theorem dyValid_any (s : Bool) (A : Option Addr) (c : Nat) (L : List Nat) (e : Int) (w : World) (b : Bool) (hs : Sl w A c L) (he1 : -9223372036854775808 ≤ e) (he2 : e ≤ 9223372036854775807) (hb : b = true ↔ Dok s L e) :
    Calls Tryd.prog 29 #[.agg #[.bool s, .slice A L.length c, .int .i64 e]] w fun r w' => r = .returned (.bool b) ∧ Ext w w' := by
  have hcap := hs.cap
  have hlim := hs.lim
  by_cases hL : L = []
  · subst hL
    rw [dok_nil] at hb
    cases s
    · by_cases h : e = 0
      · subst h
        have : b = true := by simpa using hb
        clear hb; subst this
        go_enter Tryd.func29, Tryd.ntmps29
        go_wp2
        go_ret
        exact ⟨rfl, Ext.alloc _ _⟩
      · have : b = false := b_false hb (by simp [h])
        have h' : (e == 0) = false := by simp; omega
        clear hb; subst this
        go_enter Tryd.func29, Tryd.ntmps29
        go_wp2
        go_ret
        exact ⟨rfl, Ext.alloc _ _⟩
    · have : b = false := b_false hb (by simp)
      clear hb; subst this
      go_enter Tryd.func29, Tryd.ntmps29
      go_wp2
      go_ret
      exact ⟨rfl, Ext.alloc _ _⟩
  · have hpos : 0 < L.length := List.length_pos_iff.2 hL
    clear hL
    obtain ⟨ab, ao, rfl, _, c1⟩ := hs.at_ hpos
    obtain ⟨ab', ao', e', _, c2⟩ := hs.at_ (i := L.length - 1) (by omega)
    cases e'
    have hx32 := hs.ok.get hpos
    have hy32 := hs.ok.get (show L.length - 1 < L.length by omega)
    rw [dok_cons (List.getElem?_eq_getElem hpos) (List.getElem?_eq_getElem (show L.length - 1 < L.length by omega))] at hb
    have c1' : w.cell? ⟨ab, ao, none⟩ = some (.int .u32 (L[0] : Int)) := c1
    clear c1
    generalize L[0] = x at *
    generalize L[L.length - 1] = y at *
    have HB := Lib.hid hb; clear hb
    have H := Lib.hid (fun w (h : Sl w (some ⟨ab, ao, none⟩) c L) (hl : L.length ≤ 256) => inRange_any s _ c L e w h (by omega) he1 he2)
    obtain ⟨n, hn⟩ : ∃ n, n = L.length := ⟨_, rfl⟩
    rw [← hn] at hpos c2 H HB hcap ⊢
    clear hn
    generalize inRB (val L) e = v at *
    have hn0 : ((n : Int) == 0) = false := by simp; omega
    by_cases h1 : n ≤ 256
    · have hn1 : decide ((n : Int) ≤ 256) = true := by simp; omega
      by_cases h2 : x % 2 = 1
      · have hn2 : ((x : Int) % 2 == 1) = true := by simp; omega
        by_cases h3 : y = 0
        · have : b = false := b_false HB.out (by simp [h3])
          have hn3 : ((y : Int) != 0) = false := by simp; omega
          clear HB; subst this
          go_enter Tryd.func29, Tryd.ntmps29
          go_wp2
          go_ret
          exact ⟨rfl, Ext.alloc _ _⟩
        · have : b = v := b_eq HB.out (by simp [h1, h2, h3])
          have hn3 : ((y : Int) != 0) = true := by simp; omega
          clear HB; subst this
          go_enter Tryd.func29, Tryd.ntmps29
          go_wp2_with fail
          refine (H.out _ (hs.alloc _) h1).mono ?_
          rintro r w' ⟨rfl, hb'⟩
          go_wp2
          go_ret
          exact ⟨rfl, (Ext.alloc _ _).trans hb'⟩
      · have : b = false := b_false HB.out (fun h => h2 h.2.1)
        have hn2 : ((x : Int) % 2 == 1) = false := by simp; omega
        clear HB; subst this
        go_enter Tryd.func29, Tryd.ntmps29
        go_wp2
        go_ret
        exact ⟨rfl, Ext.alloc _ _⟩
    · have : b = false := b_false HB.out (fun h => h1 h.1)
      have hn1 : decide ((n : Int) ≤ 256) = false := by simp; omega
      clear HB; subst this
      go_enter Tryd.func29, Tryd.ntmps29
      go_wp2
      go_ret
      exact ⟨rfl, Ext.alloc _ _⟩
end Go.Proofs.YtofdlkgpgcnjhaaDoor
