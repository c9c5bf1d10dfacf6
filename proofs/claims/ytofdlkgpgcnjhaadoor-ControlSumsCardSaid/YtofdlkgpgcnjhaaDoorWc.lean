/- Walks: copies, lengths, shifts to the right. -/
import Derived.Test.YtofdlkgpgcnjhaaDoorWb
namespace Go.Proofs.YtofdlkgpgcnjhaaDoor
open Go.RowKit Fp

theorem clip_any (A : Option Addr) (c : Nat) (L : List Nat) (w : World) (hs : Sl w A c L) :
    Calls Tryd.prog 74 #[.slice A L.length c] w fun e w' => e = .returned (.slice A L.length L.length) ∧ w = w' := by
  have hc := hs.cap
  have hl := hs.lim
  go_enter Tryd.func74, Tryd.ntmps74
  go_wp2
  go_ret
  exact ⟨rfl, rfl⟩

theorem Sl.clip {w : World} {A : Option Addr} {c : Nat} {L : List Nat} (h : Sl w A c L) : Sl w A L.length L :=
  ⟨Nat.le_refl _, Nat.le_trans h.cap h.lim, h.ok, (fun e => by have := h.none_ e; have := h.cap; omega), h.cell⟩

set_option maxHeartbeats 400000 in
theorem clone_any (A : Option Addr) (c : Nat) (L : List Nat) (w : World) (hs : Sl w A c L) (hlen : L.length ≤ 100000000) :
    Calls Tryd.prog 50 #[.slice A L.length c] w (RetL w L) := by
  have hc := hs.cap
  have hl := hs.lim
  rcases A with _ | ad
  · have h0 := hs.none_ rfl
    subst h0
    have : L = [] := List.eq_nil_of_length_eq_zero (by omega)
    subst this
    have q := fun (w : World) (n' c' : Nat) => Lib.run_eql_slice_nil (P := Tryd.prog) w 22 _ none 0 0 n' c' Tryd.underlying22
    simp only [Option.isNone_none] at q
    go_enter Tryd.func50, Tryd.ntmps50
    go_wp2
    go_ret
    exact ⟨none, 0, rfl, Sl.nil _, Ext.refl _⟩
  · have q := fun (w : World) (n' c' : Nat) => Lib.run_eql_slice_nil (P := Tryd.prog) w 22 _ (some ad) L.length c n' c' Tryd.underlying22
    simp only [Option.isNone_some] at q
    go_enter Tryd.func50, Tryd.ntmps50
    have hsz : ([] : List Nat).length + L.length ≤ 10000000000 := by simp; omega
    have h1 := Ow.empty w w.heap.size (Nat.le_refl _)
    have h2 := hs.alloc (.cells #[] 50)
    have h3 := le_alloc (w := w) (Nat.le_refl _) (.cells #[] 50)
    go_wp2_with (at_builtin; go_must (refine wpList_app (by rfl) _ _ (by rfl) w.heap.size _ [] (by rfl) h1 _ _ _ L (by rfl) (by rfl) h2 hsz h3 ?_); intro v' w' hown hg hat)
    obtain ⟨A', c', rfl, hs'⟩ := hown.sl
    go_ret
    exact ⟨A', c', rfl, hs', (Ext.alloc _ _).grown hg (le_alloc (Nat.le_refl _) _) (fun k hk => by simp [Value.ownBlock] at hk; omega)⟩

set_option maxHeartbeats 400000 in
theorem refTrim_any (A : Option Addr) (c : Nat) (L : List Nat) (w : World) (hs : Sl w A c L) (hlen : L.length ≤ 100000000) :
    Calls Tryd.prog 57 #[.slice A L.length c] w (RetL w (trimL L)) := by
  have hc := hs.cap
  have hl := hs.lim
  have fin : ∀ k : Nat, k = (trimL L).length → Hid (trimL L = L.take k) := fun k hk => by rw [hk]; exact trimL_eq_take L
  go_enter Tryd.func57, Tryd.ntmps57
  go_wp2
  go_loop [3] (fun i => ∃ k : Nat, k ≤ L.length ∧ i = .int .i64 k ∧ tlen L = tlen (L.take k)) (fun i => (intOf i).toNat)
  case atStart => exact ⟨L.length, Nat.le_refl _, rfl, by simp⟩
  case round =>
    obtain ⟨k, hk, rfl, ht⟩ := hrel
    have HT := Lib.hid ht; clear ht
    have hsz : ([] : List Nat).length + (L.take k).length ≤ 10000000000 := by rw [List.length_take]; simp; omega
    have HK := Lib.hid (show k = (L.take k).length by rw [List.length_take]; omega)
    have h1 := Ow.empty w w.heap.size (Nat.le_refl _)
    have h2 := (hs.take k).alloc (.cells #[] 50)
    have h3 := le_alloc (w := w) (Nat.le_refl _) (.cells #[] 50)
    by_cases h0 : 0 < k
    · obtain ⟨ab, ao, rfl, hb, hx1⟩ := hs.at_ (i := k - 1) (by omega)
      have e1 : ((k : Int) - 1).toNat = k - 1 := by omega
      have Z := Lib.hid (tlen_take_zero L (k - 1) (by omega))
      have NZ := Lib.hid (tlen_take_nz L (k - 1) (by omega))
      rw [Nat.sub_add_cancel h0] at Z NZ
      generalize L[k - 1] = x at *
      by_cases hx : x = 0
      · have Hx := Lib.hid hx; clear hx
        have hb : ((x : Int) == 0) = true := by have := Hx.out; simp; omega
        clear fin
        go_wp2
        go_round
        case rel => exact ⟨k - 1, by omega, by go_num, by rw [HT.out, Z.out Hx.out]⟩
        case measure => simp [intOf]; omega
      · have hb : ((x : Int) == 0) = false := by simp; omega
        have F := fin k (by show k = tlen L; rw [HT.out, NZ.out hx])
        clear fin
        go_wp2_with (at_builtin; go_must (refine wpList_app (by rfl) _ _ (by rfl) w.heap.size _ [] (by rfl) h1 _ _ _ (L.take k) (by rfl) HK.out h2 hsz h3 ?_); intro v' w' hown hg hat)
        obtain ⟨A', c', rfl, hs'⟩ := hown.sl
        go_ret
        rw [F.out]
        exact ⟨A', c', rfl, hs', (Ext.alloc _ _).grown hg (le_alloc (Nat.le_refl _) _) (fun k hk => by simp [Value.ownBlock] at hk; omega)⟩
    · have : k = 0 := by omega
      subst this
      have F := fin 0 (by show 0 = tlen L; rw [HT.out]; rfl)
      clear fin
      go_wp2_with (at_builtin; go_must (refine wpList_app (by rfl) _ _ (by rfl) w.heap.size _ [] (by rfl) h1 _ _ _ (L.take 0) (by rfl) HK.out h2 hsz h3 ?_); intro v' w' hown hg hat)
      obtain ⟨A', c', rfl, hs'⟩ := hown.sl
      go_ret
      rw [F.out]
      exact ⟨A', c', rfl, hs', (Ext.alloc _ _).grown hg (le_alloc (Nat.le_refl _) _) (fun k hk => by simp [Value.ownBlock] at hk; omega)⟩

/-! ### too long? -/
theorem long1_any (A : Option Addr) (n c : Nat) (w : World) :
    Calls Tryd.prog 72 #[.slice A n c] w fun e w' => e = .returned (.bool (decide (256 < n))) ∧ w = w' := by
  by_cases h : 256 < n
  · have h' : (256 : Int) < n := by omega
    go_enter Tryd.func72, Tryd.ntmps72
    go_wp2
    go_ret
    exact ⟨by simp [h], rfl⟩
  · have h' : ¬ (256 : Int) < n := by omega
    go_enter Tryd.func72, Tryd.ntmps72
    go_wp2
    go_ret
    exact ⟨by simp, rfl⟩

/-- A list of slices, in a block of the caller's. -/
def SlS (w : World) (g : Nat) (xs : List (Option Addr × Nat × Nat)) : Prop := ∀ i x, xs[i]? = some x → w.cell? ⟨g, i, none⟩ = some (.slice x.1 x.2.1 x.2.2)
def tooLong (xs : List (Option Addr × Nat × Nat)) : Bool := xs.any fun x => decide (256 < x.2.1)

def IdxOf (xs : List (Option Addr × Nat × Nat)) (w : World) (e : Ending) (w' : World) : Prop :=
  ∃ n : Int, e = .returned (.int .i64 n) ∧ (0 ≤ n ↔ tooLong xs = true) ∧ w = w'

set_option maxHeartbeats 400000 in
theorem indexFunc_any (g : Nat) (xs : List (Option Addr × Nat × Nat)) (w : World) (hs : SlS w g xs) (hn : xs.length ≤ 1000) :
    Calls Tryd.prog 81 #[.slice (some ⟨g, 0, none⟩) xs.length xs.length, .func (.func 72) #[] #[]] w (IdxOf xs w) := by
  go_enter Tryd.func81, Tryd.ntmps81
  go_wp2
  go_loop [8] (fun i => ∃ k : Nat, k ≤ xs.length ∧ i = .int .i64 k ∧ tooLong (xs.take k) = false) (fun i => xs.length - (intOf i).toNat)
  case atStart => exact ⟨0, Nat.zero_le _, rfl, rfl⟩
  case round =>
    obtain ⟨k, hk, rfl, ht⟩ := hrel
    have HT := Lib.hid ht; clear ht
    by_cases h0 : k < xs.length
    · have hc := hs k _ (List.getElem?_eq_getElem h0)
      have e1 : ((k : Int)).toNat = k := by omega
      have ec := add0 g k
      have HX := Lib.hid (show tooLong (xs.take (k + 1)) = (tooLong (xs.take k) || decide (256 < xs[k].2.1)) by
        unfold tooLong
        rw [List.take_succ_eq_append_getElem h0, List.any_append]; simp)
      have HM := Lib.hid (List.getElem_mem h0)
      generalize xs[k] = x at *
      obtain ⟨A, n, c⟩ := x
      simp only at hc HX
      by_cases hx : 256 < n
      · have hb : decide (256 < n) = true := by simp [hx]
        go_wp2_with (go_at_call 72; refine (long1_any A n c _).mono ?_; rw [hb]; rintro e w' ⟨rfl, rfl⟩)
        go_ret
        refine ⟨_, rfl, ⟨fun _ => ?_, fun _ => by omega⟩, rfl⟩
        unfold tooLong
        rw [List.any_eq_true]
        exact ⟨_, HM.out, by simpa using hx⟩
      · have hb : decide (256 < n) = false := by simp; omega
        go_wp2_with (go_at_call 72; refine (long1_any A n c _).mono ?_; rw [hb]; rintro e w' ⟨rfl, rfl⟩)
        go_round
        case rel => exact ⟨k + 1, by omega, by go_num, by rw [HX.out, HT.out, hb]; rfl⟩
        case measure => simp [intOf]; omega
    · go_wp2
      go_ret
      have e : xs.take k = xs := List.take_of_length_le (by omega)
      have := HT.out
      rw [e] at this
      exact ⟨_, rfl, by rw [this]; simp, rfl⟩

theorem containsFunc_any (g : Nat) (xs : List (Option Addr × Nat × Nat)) (w : World) (hs : SlS w g xs) (hn : xs.length ≤ 1000) :
    Calls Tryd.prog 71 #[.slice (some ⟨g, 0, none⟩) xs.length xs.length, .func (.func 72) #[] #[]] w fun e w' => e = .returned (.bool (tooLong xs)) ∧ w = w' := by
  have H := Lib.hid (indexFunc_any g xs w hs hn)
  go_enter Tryd.func71, Tryd.ntmps71
  go_wp2_with fail
  refine H.out.mono ?_
  rintro e w' ⟨n, rfl, hn, rfl⟩
  have HN := Lib.hid hn; clear hn
  go_wp2
  go_ret
  refine ⟨ret_bool ?_, rfl⟩
  have := HN.out
  cases h : tooLong xs <;> simp [h] at this ⊢ <;> omega

theorem long_any (g : Nat) (xs : List (Option Addr × Nat × Nat)) (w : World) (hs : SlS w g xs) (hn : xs.length ≤ 1000) :
    Calls Tryd.prog 51 #[.slice (some ⟨g, 0, none⟩) xs.length xs.length] w fun e w' => e = .returned (.bool (tooLong xs)) ∧ w = w' := by
  have H := Lib.hid (containsFunc_any g xs w hs hn)
  go_enter Tryd.func51, Tryd.ntmps51
  go_wp2_with fail
  refine H.out.mono ?_
  rintro e w' ⟨rfl, rfl⟩
  go_wp2
  go_ret
  exact ⟨rfl, rfl⟩
end Go.Proofs.YtofdlkgpgcnjhaaDoor
