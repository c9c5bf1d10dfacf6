/- Walks: sums and differences of lists of limbs, as the program makes them. -/
import Derived.Test.YtofdlkgpgcnjhaaDoorAd
import Derived.Test.YtofdlkgpgcnjhaaDoorTi
namespace Go.Proofs.YtofdlkgpgcnjhaaDoor
open Go.RowKit Fp

theorem add_row {O : List Nat} {k c x y P Q P' Q' : Nat} (ho : O[k]? = some 0) (h : val O + 4294967296 ^ k * c = P + Q)
    (hP : P' = P + 4294967296 ^ k * x) (hQ : Q' = Q + 4294967296 ^ k * y) :
    val (O.set k ((x + y + c) % 4294967296)) + 4294967296 ^ (k + 1) * ((x + y + c) / 4294967296) = P' + Q' := by
  have h1 := mul_step (a := 1) (b := x + y) (c := c) ho
  rw [Nat.one_mul, Nat.add_zero] at h1
  rw [h1, h, hP, hQ, Nat.mul_add]
  omega

theorem sub_row {O : List Nat} {k c x y d c' P Q P' Q' : Nat} (ho : O[k]? = some 0) (h : val O + Q = P + 4294967296 ^ k * c)
    (hP : P' = P + 4294967296 ^ k * x) (hQ : Q' = Q + 4294967296 ^ k * y) (hd : d + y + c = x + 4294967296 * c') :
    val (O.set k d) + Q' = P' + 4294967296 ^ (k + 1) * c' := by
  obtain ⟨hk, h0⟩ := List.getElem?_eq_some_iff.1 ho
  have h1 := val_set (x := d) hk
  rw [h0, Nat.mul_zero, Nat.add_zero] at h1
  have e := congrArg (4294967296 ^ k * ·) hd
  simp only [Nat.mul_add, ← Nat.mul_assoc] at e
  rw [Nat.pow_succ, h1, hP, hQ]
  omega

/-- Zeros from k on. -/
def ZeroFrom (O : List Nat) (k : Nat) : Prop := ∀ j, k ≤ j → j < O.length → O[j]? = some 0
theorem ZeroFrom.at {O : List Nat} {k : Nat} (h : ZeroFrom O k) (hk : k < O.length) : O[k]? = some 0 := h k (Nat.le_refl _) hk
theorem ZeroFrom.set {O : List Nat} {k : Nat} (h : ZeroFrom O k) (v : Nat) : ZeroFrom (O.set k v) (k + 1) := fun j h1 h2 => by
  rw [List.getElem?_set_ne (by omega)]
  exact h j (by omega) (by simpa using h2)
theorem ZeroFrom.zeros (n : Nat) : ZeroFrom (List.replicate n 0) 0 := fun j _ h => by
  rw [List.getElem?_replicate]; rw [if_pos (by simpa using h)]

/-- It returns a list of limbs of this value. -/
def RetV (w : World) (v n : Nat) (e : Ending) (w' : World) : Prop := ∃ T, val T = v ∧ Ok32 T ∧ T.length ≤ n ∧ RetL w T e w'

set_option maxHeartbeats 4000000 in
theorem natadd_ge (A B : Option Addr) (c d : Nat) (L M : List Nat) (w : World) (hs : Sl w A c L) (hr : Sl w B d M) (h1 : L.length ≤ 3000) (_h2 : M.length ≤ 3000) (hc : M.length ≤ L.length) :
    Calls Tryd.prog 79 #[.slice A L.length c, .slice B M.length d] w (RetV w (val L + val M) (L.length + 1)) := by
  obtain ⟨l, hl⟩ : ∃ l, l = L.length := ⟨_, rfl⟩
  obtain ⟨m, hm⟩ : ∃ m, m = M.length := ⟨_, rfl⟩
  rw [← hl, ← hm] at hc
  rw [← hl] at h1
  rw [← hm] at _h2
  have HL := Lib.hid hl
  have HM := Lib.hid hm
  rw [← hl, ← hm]
  clear hl hm
  have d0 : decide ((l : Int) < (m : Int)) = false := decide_eq_false (by omega)
  have d1 : decide (l < m) = false := decide_eq_false (by omega)
  have hmk := make32 (l + 1) (by omega)
  rw [show ((l + 1 : Nat) : Int) = (l : Int) + 1 by omega] at hmk
  have hR0 := Lib.hid (Rw.made w (l + 1))
  go_enter Tryd.func79, Tryd.ntmps79
  go_wp2
  go_loopw [6, 7, 8, 9, 23] (fun cy _ _ _ i wr => ∃ (k q : Nat) (O : List Nat), k ≤ l ∧ i = .int .i64 k ∧ cy = .int .u32 q ∧ q ≤ 1 ∧ O.length = l + 1 ∧ Ok32 O ∧ ZeroFrom O k ∧ val O + 4294967296 ^ k * q = val (L.take k) + val (M.take k) ∧ Rw wr w.heap.size O ∧ Ext w wr) (fun _ _ _ _ i _ => l - (intOf i).toNat)
  case atStart =>
    exact ⟨0, 0, List.replicate (l + 1) 0, Nat.zero_le _, rfl, rfl, by decide, by simp, Ok32.replicate0 _, ZeroFrom.zeros _, by simp [val_replicate0], hR0.out, Ext.alloc _ _⟩
  case round =>
    obtain ⟨k, q, O, hk, rfl, rfl, hq, hO, hok, hz, hval, hR, hb⟩ := hrel
    have HV := Lib.hid hval
    have HO := Lib.hid hO
    clear hval hO
    have HZ := Lib.hid hz
    clear hz
    by_cases hlt : k < l
    · have hkX : k < L.length := by have := HL.out; omega
      obtain ⟨ab, ao, e1, _, c1⟩ := (hs.below hb).at_ hkX
      have hx32 : L[k] < 4294967296 := hs.ok.get hkX
      have ho := HZ.out.at (by have := HO.out; omega)
      have c4 := hR.frozen k
      have hcz := hR.cell ho
      have HT := Lib.hid (val_take_succ L k hkX)
      have HY := Lib.hid (val_take_getD M k)
      have hy32 : M.getD k 0 < 4294967296 := hr.ok.getD k
      have HYc := Lib.hid (fun (h : k < M.length) => (hr.below hb).at_ h)
      have HYg := Lib.hid (fun (h : k < M.length) => getD_of_lt h)
      have HYn := Lib.hid (fun (h : ¬ k < M.length) => getD_of_ge h)
      have HX := Lib.hid (rfl : L[k] = L[k])
      obtain ⟨a, ha⟩ : ∃ a, a = L[k] := ⟨_, rfl⟩
      rw [← ha] at c1 hx32 HT
      clear ha HX hkX
      have HS := Lib.hid (add_row ho HV.out HT.out HY.out)
      have HN := Lib.hid (fun v => HZ.out.set v)
      have HOK := Lib.hid (fun v => hok.set' k v)
      have HR2 := Lib.hid (fun v : Nat => hR.set k v)
      have HE2 := Lib.hid (fun v : Value => hb.setCell (p := ⟨w.heap.size, k, none⟩) (Nat.le_refl _) v)
      clear ho hR hb hok
      subst e1
      by_cases hym : k < m
      · have hkY : k < M.length := by have := HM.out; omega
        obtain ⟨bb, bo, e2, _, c2⟩ := HYc.out hkY
        subst e2
        rw [← HYg.out hkY] at c2
        generalize M.getD k 0 = b at *
        clear HYc HYg HYn hkY
        have HA := Lib.hid (fun w => add32_any a b q w hx32 hy32 hq)
        go_wp2_with fail
        refine (HA.out _).mono ?_
        rintro e w1 ⟨rfl, rfl⟩
        go_wp2
        go_roundw
        case rel =>
          exact ⟨k + 1, (a + b + q) / 4294967296, O.set k ((a + b + q) % 4294967296), by omega, by go_num, rfl, by omega, by rw [List.length_set]; exact HO.out, HOK.out _, HN.out _, HS.out, HR2.out _, HE2.out _⟩
        case measure => simp [intOf]; omega
      · rw [HYn.out (by have := HM.out; omega)] at HS
        clear HYc HYg HYn hy32 HY
        have HA := Lib.hid (fun w => add32_any a 0 q w hx32 (by decide) hq)
        go_wp2_with fail
        refine (HA.out _).mono ?_
        rintro e w1 ⟨rfl, rfl⟩
        go_wp2
        go_roundw
        case rel =>
          exact ⟨k + 1, (a + 0 + q) / 4294967296, O.set k ((a + 0 + q) % 4294967296), by omega, by go_num, rfl, by omega, by rw [List.length_set]; exact HO.out, HOK.out _, HN.out _, HS.out, HR2.out _, HE2.out _⟩
        case measure => simp [intOf]; omega
    · obtain rfl : k = l := by omega
      have ho := HZ.out.at (by have := HO.out; omega)
      have c4 := hR.frozen k
      have hcz := hR.cell ho
      have HF := Lib.hid (show val (O.set k q) = val L + val M by
        have h := carry_step (c := q) ho
        rw [Nat.zero_add, Nat.mod_eq_of_lt (by omega), Nat.div_eq_of_lt (by omega), Nat.mul_zero, Nat.add_zero, HV.out, show L.take k = L from List.take_of_length_le (by rw [HL.out]; exact Nat.le_refl _), show M.take k = M from List.take_of_length_le (by rw [← HM.out]; omega)] at h
        omega)
      have HLn := Lib.hid (show (O.set k q).length = k + 1 by rw [List.length_set]; exact HO.out)
      have HOK : Hid (Ok32 (O.set k q)) := hok.set k (by omega)
      have HR2 := Lib.hid (hR.set k q)
      have HE2 := Lib.hid (fun v : Value => hb.setCell (p := ⟨w.heap.size, k, none⟩) (Nat.le_refl _) v)
      clear ho hR hb hok
      go_wp2
      go_ret
      have hsl := HR2.out.sl HOK.out (by rw [HLn.out]; omega)
      rw [HLn.out] at hsl
      exact ⟨_, HF.out, HOK.out, by rw [HLn.out]; exact Nat.le_refl _, _, _, (by rw [HLn.out]; rfl), hsl, HE2.out _⟩

set_option maxHeartbeats 4000000 in
theorem natadd_lt (A B : Option Addr) (c d : Nat) (L M : List Nat) (w : World) (hs : Sl w A c L) (hr : Sl w B d M) (h1 : L.length ≤ 3000) (h2 : M.length ≤ 3000) (hc : L.length < M.length) :
    Calls Tryd.prog 79 #[.slice A L.length c, .slice B M.length d] w (RetV w (val L + val M) (M.length + 1)) := by
  obtain ⟨l, hl⟩ : ∃ l, l = L.length := ⟨_, rfl⟩
  obtain ⟨m, hm⟩ : ∃ m, m = M.length := ⟨_, rfl⟩
  rw [← hl, ← hm] at hc
  rw [← hl] at h1
  rw [← hm] at h2
  have HL := Lib.hid hl
  have HM := Lib.hid hm
  rw [← hl, ← hm]
  clear hl hm
  have d0 : decide ((l : Int) < (m : Int)) = true := decide_eq_true (by omega)
  have d1 : decide (l < m) = true := decide_eq_true (by omega)
  have hmk := make32 (m + 1) (by omega)
  rw [show ((m + 1 : Nat) : Int) = (m : Int) + 1 by omega] at hmk
  have hR0 := Lib.hid (Rw.made w (m + 1))
  go_enter Tryd.func79, Tryd.ntmps79
  go_wp2
  go_loopw [6, 7, 8, 9, 23] (fun cy _ _ _ i wr => ∃ (k q : Nat) (O : List Nat), k ≤ m ∧ i = .int .i64 k ∧ cy = .int .u32 q ∧ q ≤ 1 ∧ O.length = m + 1 ∧ Ok32 O ∧ ZeroFrom O k ∧ val O + 4294967296 ^ k * q = val (M.take k) + val (L.take k) ∧ Rw wr w.heap.size O ∧ Ext w wr) (fun _ _ _ _ i _ => m - (intOf i).toNat)
  case atStart =>
    exact ⟨0, 0, List.replicate (m + 1) 0, Nat.zero_le _, rfl, rfl, by decide, by simp, Ok32.replicate0 _, ZeroFrom.zeros _, by simp [val_replicate0], hR0.out, Ext.alloc _ _⟩
  case round =>
    obtain ⟨k, q, O, hk, rfl, rfl, hq, hO, hok, hz, hval, hR, hb⟩ := hrel
    have HV := Lib.hid hval
    have HO := Lib.hid hO
    clear hval hO
    have HZ := Lib.hid hz
    clear hz
    by_cases hlt : k < m
    · have hkX : k < M.length := by have := HM.out; omega
      obtain ⟨ab, ao, e1, _, c1⟩ := (hr.below hb).at_ hkX
      have hx32 : M[k] < 4294967296 := hr.ok.get hkX
      have ho := HZ.out.at (by have := HO.out; omega)
      have c4 := hR.frozen k
      have hcz := hR.cell ho
      have HT := Lib.hid (val_take_succ M k hkX)
      have HY := Lib.hid (val_take_getD L k)
      have hy32 : L.getD k 0 < 4294967296 := hs.ok.getD k
      have HYc := Lib.hid (fun (h : k < L.length) => (hs.below hb).at_ h)
      have HYg := Lib.hid (fun (h : k < L.length) => getD_of_lt h)
      have HYn := Lib.hid (fun (h : ¬ k < L.length) => getD_of_ge h)
      have HX := Lib.hid (rfl : M[k] = M[k])
      obtain ⟨a, ha⟩ : ∃ a, a = M[k] := ⟨_, rfl⟩
      rw [← ha] at c1 hx32 HT
      clear ha HX hkX
      have HS := Lib.hid (add_row ho HV.out HT.out HY.out)
      have HN := Lib.hid (fun v => HZ.out.set v)
      have HOK := Lib.hid (fun v => hok.set' k v)
      have HR2 := Lib.hid (fun v : Nat => hR.set k v)
      have HE2 := Lib.hid (fun v : Value => hb.setCell (p := ⟨w.heap.size, k, none⟩) (Nat.le_refl _) v)
      clear ho hR hb hok
      subst e1
      by_cases hym : k < l
      · have hkY : k < L.length := by have := HL.out; omega
        obtain ⟨bb, bo, e2, _, c2⟩ := HYc.out hkY
        subst e2
        rw [← HYg.out hkY] at c2
        generalize L.getD k 0 = b at *
        clear HYc HYg HYn hkY
        have HA := Lib.hid (fun w => add32_any a b q w hx32 hy32 hq)
        go_wp2_with fail
        refine (HA.out _).mono ?_
        rintro e w1 ⟨rfl, rfl⟩
        go_wp2
        go_roundw
        case rel =>
          exact ⟨k + 1, (a + b + q) / 4294967296, O.set k ((a + b + q) % 4294967296), by omega, by go_num, rfl, by omega, by rw [List.length_set]; exact HO.out, HOK.out _, HN.out _, HS.out, HR2.out _, HE2.out _⟩
        case measure => simp [intOf]; omega
      · rw [HYn.out (by have := HL.out; omega)] at HS
        clear HYc HYg HYn hy32 HY
        have HA := Lib.hid (fun w => add32_any a 0 q w hx32 (by decide) hq)
        go_wp2_with fail
        refine (HA.out _).mono ?_
        rintro e w1 ⟨rfl, rfl⟩
        go_wp2
        go_roundw
        case rel =>
          exact ⟨k + 1, (a + 0 + q) / 4294967296, O.set k ((a + 0 + q) % 4294967296), by omega, by go_num, rfl, by omega, by rw [List.length_set]; exact HO.out, HOK.out _, HN.out _, HS.out, HR2.out _, HE2.out _⟩
        case measure => simp [intOf]; omega
    · obtain rfl : k = m := by omega
      have ho := HZ.out.at (by have := HO.out; omega)
      have c4 := hR.frozen k
      have hcz := hR.cell ho
      have HF := Lib.hid (show val (O.set k q) = val L + val M by
        have h := carry_step (c := q) ho
        rw [Nat.zero_add, Nat.mod_eq_of_lt (by omega), Nat.div_eq_of_lt (by omega), Nat.mul_zero, Nat.add_zero, HV.out, show M.take k = M from List.take_of_length_le (by rw [HM.out]; exact Nat.le_refl _), show L.take k = L from List.take_of_length_le (by rw [← HL.out]; omega)] at h
        omega)
      have HLn := Lib.hid (show (O.set k q).length = k + 1 by rw [List.length_set]; exact HO.out)
      have HOK : Hid (Ok32 (O.set k q)) := hok.set k (by omega)
      have HR2 := Lib.hid (hR.set k q)
      have HE2 := Lib.hid (fun v : Value => hb.setCell (p := ⟨w.heap.size, k, none⟩) (Nat.le_refl _) v)
      clear ho hR hb hok
      go_wp2
      go_ret
      have hsl := HR2.out.sl HOK.out (by rw [HLn.out]; omega)
      rw [HLn.out] at hsl
      exact ⟨_, HF.out, HOK.out, by rw [HLn.out]; exact Nat.le_refl _, _, _, (by rw [HLn.out]; rfl), hsl, HE2.out _⟩

theorem natadd_any (A B : Option Addr) (c d : Nat) (L M : List Nat) (w : World) (hs : Sl w A c L) (hr : Sl w B d M) (h1 : L.length ≤ 3000) (h2 : M.length ≤ 3000) :
    Calls Tryd.prog 79 #[.slice A L.length c, .slice B M.length d] w (RetV w (val L + val M) (max L.length M.length + 1)) := by
  by_cases hc : M.length ≤ L.length
  · rw [Nat.max_eq_left hc]; exact natadd_ge A B c d L M w hs hr h1 h2 hc
  · rw [Nat.max_eq_right (by omega)]; exact natadd_lt A B c d L M w hs hr h1 h2 (by omega)

set_option maxHeartbeats 4000000 in
theorem natsub_any (A B : Option Addr) (c d : Nat) (L M : List Nat) (w : World) (hs0 : Sl w A c L) (hr0 : Sl w B d M) (h1 : L.length ≤ 3000) (_h2 : M.length ≤ 3000) (hle : val M ≤ val L) :
    Calls Tryd.prog 80 #[.slice A L.length c, .slice B M.length d] w (RetV w (val L - val M) L.length) := by
  have hTL := Lib.hid (fun w (h : Sl w A c L) => natTrim_any A c L w h)
  have hTM := Lib.hid (fun w (h : Sl w B d M) => natTrim_any B d M w h)
  have hs := hs0.trim
  have hr := hr0.trim
  have hvl := val_trimL L
  have hvm := val_trimL M
  have hl1 := tlen_le L
  have hl2 := tlen_le M
  have hlt0 : (trimL M).length ≤ (trimL L).length := by
    apply Classical.byContradiction
    intro h
    have := val_lt_of_length hs.ok (trim_trimL M) (by omega)
    omega
  unfold tlen at hl1 hl2
  rw [← hvl, ← hvm] at hle ⊢
  clear hvl hvm
  obtain ⟨n1, hn1⟩ : ∃ n, n = L.length := ⟨_, rfl⟩
  obtain ⟨n2, hn2⟩ : ∃ n, n = M.length := ⟨_, rfl⟩
  rw [← hn1] at h1 hl1 hTL ⊢
  rw [← hn2] at _h2 hl2 hTM ⊢
  have HTL := Lib.hid (hTL.out w hs0)
  have HTM := Lib.hid (hTM.out w hr0)
  clear hTL hTM hs0 hr0 hn1 hn2
  generalize trimL L = L at *
  generalize trimL M = M at *
  obtain ⟨l, hl⟩ : ∃ l, l = L.length := ⟨_, rfl⟩
  obtain ⟨m, hm⟩ : ∃ m, m = M.length := ⟨_, rfl⟩
  rw [← hl] at hl1 HTL hlt0
  rw [← hm] at hl2 HTM hlt0
  have HL := Lib.hid hl
  have HM := Lib.hid hm
  have HLE := Lib.hid hle
  clear hl hm hle
  have hmk := make32 l (by omega)
  have hR0 := Lib.hid (Rw.made w l)
  go_enter Tryd.func80, Tryd.ntmps80
  go_wp2_with fail
  refine HTL.out.mono ?_
  rintro e w1 ⟨rfl, rfl⟩
  go_wp2_with fail
  refine HTM.out.mono ?_
  rintro e w1 ⟨rfl, rfl⟩
  go_wp2
  go_loopw [6, 7, 8, 9, 19] (fun cy _ _ _ i wr => ∃ (k q : Nat) (O : List Nat), k ≤ l ∧ i = .int .i64 k ∧ cy = .int .u32 q ∧ q ≤ 1 ∧ O.length = l ∧ Ok32 O ∧ ZeroFrom O k ∧ val O + val (M.take k) = val (L.take k) + 4294967296 ^ k * q ∧ Rw wr w.heap.size O ∧ Ext w wr) (fun _ _ _ _ i _ => l - (intOf i).toNat)
  case atStart =>
    exact ⟨0, 0, List.replicate l 0, Nat.zero_le _, rfl, rfl, by decide, by simp, Ok32.replicate0 _, ZeroFrom.zeros _, by simp [val_replicate0], hR0.out, Ext.alloc _ _⟩
  case round =>
    obtain ⟨k, q, O, hk, rfl, rfl, hq, hO, hok, hz, hval, hR, hb⟩ := hrel
    have HV := Lib.hid hval
    have HO := Lib.hid hO
    clear hval hO
    have HZ := Lib.hid hz
    clear hz
    by_cases hlt : k < l
    · have hkX : k < L.length := by have := HL.out; omega
      obtain ⟨ab, ao, e1, _, c1⟩ := (hs.below hb).at_ hkX
      have hx32 : L[k] < 4294967296 := hs.ok.get hkX
      have ho := HZ.out.at (by have := HO.out; omega)
      have c4 := hR.frozen k
      have hcz := hR.cell ho
      have HT := Lib.hid (val_take_succ L k hkX)
      have HY := Lib.hid (val_take_getD M k)
      have hy32 : M.getD k 0 < 4294967296 := hr.ok.getD k
      have HYc := Lib.hid (fun (h : k < M.length) => (hr.below hb).at_ h)
      have HYg := Lib.hid (fun (h : k < M.length) => getD_of_lt h)
      have HYn := Lib.hid (fun (h : ¬ k < M.length) => getD_of_ge h)
      obtain ⟨a, ha⟩ : ∃ a, a = L[k] := ⟨_, rfl⟩
      rw [← ha] at c1 hx32 HT
      clear ha hkX
      have HN := Lib.hid (fun v => HZ.out.set v)
      have HOK := Lib.hid (fun (v : Nat) (h : v < 4294967296) => hok.set k h)
      have HR2 := Lib.hid (fun v : Nat => hR.set k v)
      have HE2 := Lib.hid (fun v : Value => hb.setCell (p := ⟨w.heap.size, k, none⟩) (Nat.le_refl _) v)
      have HO0 := Lib.hid ho
      clear ho hR hb hok
      subst e1
      by_cases hym : k < m
      · have hkY : k < M.length := by have := HM.out; omega
        obtain ⟨bb, bo, e2, _, c2⟩ := HYc.out hkY
        subst e2
        rw [← HYg.out hkY] at c2
        generalize M.getD k 0 = b at *
        clear HYc HYg HYn hkY
        have HS := Lib.hid (sub_row HO0.out HV.out HT.out HY.out (dif_brw a b q hx32 hy32 hq).1)
        have HD := Lib.hid (dif_brw a b q hx32 hy32 hq).2
        have HA := Lib.hid (fun w => sub32_any a b q w hx32 hy32 hq)
        generalize dif a b q = dd at *
        generalize brw a b q = bb' at *
        go_wp2_with fail
        refine (HA.out _).mono ?_
        rintro e w1 ⟨rfl, rfl⟩
        go_wp2
        go_roundw
        case rel =>
          exact ⟨k + 1, bb', O.set k dd, by omega, by go_num, rfl, HD.out.1, by rw [List.length_set]; exact HO.out, HOK.out _ HD.out.2, HN.out _, HS.out, HR2.out _, HE2.out _⟩
        case measure => simp [intOf]; omega
      · rw [HYn.out (by have := HM.out; omega)] at HY
        clear HYc HYg HYn hy32
        have HS := Lib.hid (sub_row HO0.out HV.out HT.out HY.out (dif_brw a 0 q hx32 (by decide) hq).1)
        have HD := Lib.hid (dif_brw a 0 q hx32 (by decide) hq).2
        have HA := Lib.hid (fun w => sub32_any a 0 q w hx32 (by decide) hq)
        generalize dif a 0 q = dd at *
        generalize brw a 0 q = bb' at *
        go_wp2_with fail
        refine (HA.out _).mono ?_
        rintro e w1 ⟨rfl, rfl⟩
        go_wp2
        go_roundw
        case rel =>
          exact ⟨k + 1, bb', O.set k dd, by omega, by go_num, rfl, HD.out.1, by rw [List.length_set]; exact HO.out, HOK.out _ HD.out.2, HN.out _, HS.out, HR2.out _, HE2.out _⟩
        case measure => simp [intOf]; omega
    · obtain rfl : k = l := by omega
      have HF := Lib.hid (show val O = val L - val M by
        have h := HV.out
        rw [show L.take k = L from List.take_of_length_le (by rw [HL.out]; exact Nat.le_refl _), show M.take k = M from List.take_of_length_le (by rw [← HM.out]; exact hlt0)] at h
        exact (sub_last hok HO.out h HLE.out).2)
      go_wp2
      go_ret
      have hsl := hR.sl hok (by rw [HO.out]; omega)
      exact ⟨_, HF.out, hok, by rw [HO.out]; exact hl1, _, _, (by rw [HO.out]; rfl), hsl, hb⟩
end Go.Proofs.YtofdlkgpgcnjhaaDoor
