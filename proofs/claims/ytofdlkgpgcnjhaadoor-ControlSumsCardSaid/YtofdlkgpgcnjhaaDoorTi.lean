/- Walks: the reference's product of limbs. -/
import Derived.Test.YtofdlkgpgcnjhaaDoorWh
namespace Go.Proofs.YtofdlkgpgcnjhaaDoor
open Go.RowKit Fp

theorem mul_step {O : List Nat} {p a b c o : Nat} (ho : O[p]? = some o) :
    val (O.set p ((a * b + o + c) % 4294967296)) + 4294967296 ^ (p + 1) * ((a * b + o + c) / 4294967296) = val O + 4294967296 ^ p * c + 4294967296 ^ p * (a * b) := by
  obtain ⟨hp, rfl⟩ := List.getElem?_eq_some_iff.1 ho
  have h := val_set (x := (a * b + O[p] + c) % 4294967296) hp
  have e := congrArg (4294967296 ^ p * ·) (Nat.mod_add_div (a * b + O[p] + c) 4294967296)
  simp only [Nat.mul_add] at e
  rw [Nat.pow_succ, Nat.mul_assoc]
  omega

theorem carry_step {O : List Nat} {p c o : Nat} (ho : O[p]? = some o) :
    val (O.set p ((o + c) % 4294967296)) + 4294967296 ^ (p + 1) * ((o + c) / 4294967296) = val O + 4294967296 ^ p * c := by
  have h := mul_step (a := 0) (b := 0) (c := c) ho
  simpa using h

/-- A row of limbs, set at one place. -/
theorem carry_room {i n k N c : Nat} {O a b : List Nat} (hk : val O + 4294967296 ^ k * c = val (a.take (i + 1)) * val b) (ha : Ok32 a) (hb : Ok32 b) (hi : i < a.length) (hn : b.length = n) (hc : 0 < c) (hN : a.length + n < N) : k < N := by
  have h1 := val_lt (ha.take (i + 1))
  rw [List.length_take, Nat.min_eq_left (by omega)] at h1
  have h2 := val_lt hb
  rw [hn] at h2
  have h3 : val (a.take (i + 1)) * val b < 4294967296 ^ (i + 1 + n) := by
    rw [Nat.pow_add]
    exact Nat.mul_lt_mul'' h1 h2
  have h4 : 4294967296 ^ k * 1 ≤ 4294967296 ^ k * c := Nat.mul_le_mul_left _ hc
  have h5 : 4294967296 ^ k < 4294967296 ^ (i + 1 + n) := by omega
  have := (Nat.pow_lt_pow_iff_right (by decide : 1 < 4294967296)).1 h5
  omega

theorem u64_mul (x y : Nat) (hx : x < 4294967296) (hy : y < 4294967296) : IntKind.u64.wrap ((x : Int) * (y : Int)) = ((x * y : Nat) : Int) ∧ x * y ≤ 18446744065119617025 := by
  have h : x * y ≤ 4294967295 * 4294967295 := Nat.mul_le_mul (by omega) (by omega)
  refine ⟨?_, by omega⟩
  rw [IntKind.wrap_u64, ← Int.natCast_mul]
  omega

theorem u64_nat (x : Nat) (h : x < 18446744073709551616) : IntKind.u64.wrap (x : Int) = (x : Int) := by rw [IntKind.wrap_u64]; omega

theorem Fp.Ok32.set' {L : List Nat} (h : Ok32 L) (k : Nat) (x : Nat) : Ok32 (L.set k (x % 4294967296)) := h.set k (Nat.mod_lt _ (by decide))

set_option maxHeartbeats 4000000 in
theorem refTimes_any (A B : Option Addr) (c d : Nat) (L M : List Nat) (w : World) (hs : Sl w A c L) (hr : Sl w B d M) (h1 : L.length ≤ 3000) (h2 : M.length ≤ 3000) :
    Calls Tryd.prog 38 #[.slice A L.length c, .slice B M.length d] w (RetL w (limbs (val L * val M))) := by
  obtain ⟨l, hl⟩ : ∃ l, l = L.length := ⟨_, rfl⟩
  obtain ⟨m, hm⟩ : ∃ m, m = M.length := ⟨_, rfl⟩
  rw [← hl] at h1 ⊢
  rw [← hm] at h2 ⊢
  have HL := Lib.hid hl
  have HM := Lib.hid hm
  clear hl hm
  have hmk := make32 (l + m + 1) (by omega)
  rw [show ((l + m + 1 : Nat) : Int) = (l : Int) + (m : Int) + 1 by omega] at hmk
  have hR0 := Lib.hid (Rw.made w (l + m + 1))
  go_enter Tryd.func38, Tryd.ntmps38
  go_wp2
  go_loopw [6] (fun i wr => ∃ (k : Nat) (O : List Nat), k ≤ l ∧ i = .int .i64 k ∧ O.length = l + m + 1 ∧ Ok32 O ∧ val O = val (L.take k) * val M ∧ Rw wr w.heap.size O ∧ Ext w wr) (fun i _ => l - (intOf i).toNat)
  case atStart =>
    exact ⟨0, List.replicate (l + m + 1) 0, Nat.zero_le _, rfl, by simp, Ok32.replicate0 _, by simp [val_replicate0], hR0.out, Ext.alloc _ _⟩
  case round =>
    obtain ⟨i, O, hi, rfl, hO, hok, hval, hR, hb⟩ := hrel
    have HV := Lib.hid hval
    have HO := Lib.hid hO
    clear hval hO
    by_cases hlt : i < l
    · have hiL : i < L.length := by have := HL.out; omega
      obtain ⟨x, hx⟩ : ∃ x, x = L[i] := ⟨_, rfl⟩
      have HX := Lib.hid hx
      have hx32 : x < 4294967296 := by rw [hx]; exact hs.ok.get hiL
      have HXc := Lib.hid (fun w (h : Sl w A c L) => hx ▸ h.at_ hiL)
      clear hx
      have HST := Lib.hid (show val (L.take (i + 1)) = val (L.take i) + 4294967296 ^ i * x by rw [HX.out]; exact val_take_succ L i hiL)
      clear HX hiL
      go_wp2
      obtain ⟨wo, rfl⟩ : ∃ wo : World, wo = wr := ⟨_, rfl⟩
      go_loopw [7, 8] (fun cy k wr => ∃ (j q : Nat) (O : List Nat), j ≤ m ∧ k = .int .i64 j ∧ cy = .int .u64 q ∧ q < 4294967296 ∧ O.length = l + m + 1 ∧ Ok32 O ∧ val O + 4294967296 ^ (i + j) * q = val (L.take i) * val M + 4294967296 ^ i * (x * val (M.take j)) ∧ Rw wr w.heap.size O ∧ Ext w wr) (fun _ k _ => m - (intOf k).toNat)
      case atStart =>
        exact ⟨0, 0, O, Nat.zero_le _, rfl, rfl, by decide, HO.out, hok, by simp [HV.out], hR, hb⟩
      case round =>
        clear HO HV hok hR
        obtain ⟨j, q, O, hj, rfl, rfl, hq, hO, hok, hval, hR, hb⟩ := hrel
        have HV := Lib.hid hval
        have HO := Lib.hid hO
        clear hval hO
        by_cases hlt2 : j < m
        · have hjM : j < M.length := by have := HM.out; omega
          obtain ⟨y, hy⟩ : ∃ y, y = M[j] := ⟨_, rfl⟩
          have hy32 : y < 4294967296 := by rw [hy]; exact hr.ok.get hjM
          obtain ⟨ab, ao, e1, _, c1⟩ := HXc.out _ (hs.below hb)
          obtain ⟨bb, bo, e2, _, c2⟩ := (hr.below hb).at_ hjM
          have HYS := Lib.hid (show val (M.take (j + 1)) = val (M.take j) + 4294967296 ^ j * y by rw [hy]; exact val_take_succ M j hjM)
          rw [← hy] at c2
          clear hy hjM HXc
          subst e1 e2
          have hp : i + j < O.length := by have := HO.out; omega
          have ho := List.getElem?_eq_getElem hp
          have ho32 : O[i + j] < 4294967296 := hok.get hp
          have c3 := hR.cell ho
          have c4 := hR.frozen (i + j)
          have HS := Lib.hid (mul_step (a := x) (b := y) (c := q) ho)
          generalize O[i + j] = o at *
          clear ho hp
          have hok2 := fun v => hok.set' (i + j) v
          have HR2 := Lib.hid (fun v : Nat => hR.set (i + j) v)
          have HE2 := Lib.hid (fun (n : Nat) (v : Value) => (below_drewN hb n).setCell (p := ⟨w.heap.size, i + j, none⟩) (Nat.le_refl _) v)
          have HOK := Lib.hid hok2
          have HNEW := Lib.hid (show val (L.take i) * val M + 4294967296 ^ i * (x * val (M.take (j + 1))) = val (L.take i) * val M + 4294967296 ^ i * (x * val (M.take j)) + 4294967296 ^ (i + j) * (x * y) by
            rw [HYS.out, Nat.mul_add x, Nat.mul_add (4294967296 ^ i), Nat.pow_add, Nat.add_assoc]
            congr 2
            rw [Nat.mul_left_comm x, Nat.mul_assoc])
          obtain ⟨hz0, hzl⟩ := u64_mul x y hx32 hy32
          generalize x * y = z at *
          have hz1 : IntKind.u64.wrap ((z : Int) + (o : Int)) = (z : Int) + (o : Int) := by rw [IntKind.wrap_u64]; omega
          have hz2 : IntKind.u64.wrap ((z : Int) + (o : Int) + (q : Int)) = (z : Int) + (o : Int) + (q : Int) := by rw [IntKind.wrap_u64]; omega
          have hmask := and_mask (z + o + q) (by omega)
          simp only [Int.natCast_add] at hmask
          have hi1 : IntKind.i64.wrap ((i : Int) + (j : Int)) = (i : Int) + (j : Int) := i64_in _ (by omega) (by omega)
          have hi2 : (0 : Int) ≤ (i : Int) + (j : Int) := by omega
          have hi3 : ((i : Int) + (j : Int)).toNat = i + j := by omega
          have hi4 : (i : Int) + (j : Int) < (l : Int) + (m : Int) + 1 := by omega
          go_wp2
          go_quiet (fail)
          go_wp2
          go_roundw
          case rel =>
            exact ⟨j + 1, (z + o + q) / 4294967296, O.set (i + j) ((z + o + q) % 4294967296), by omega, by go_num, by go_num, by omega, by rw [List.length_set]; exact HO.out, HOK.out _, by rw [HNEW.out, ← HV.out]; exact HS.out, HR2.out _, HE2.out _ _⟩
          case measure => simp [intOf]; omega
        · obtain rfl : j = m := by omega
          have HV2 := Lib.hid (show val O + 4294967296 ^ (i + j) * q = val (L.take (i + 1)) * val M by
            rw [HST.out, HV.out, show M.take j = M from List.take_of_length_le (by rw [HM.out]; exact Nat.le_refl _), Nat.add_mul, Nat.mul_assoc])
          clear HV
          go_wp2
          obtain ⟨wo, rfl⟩ : ∃ wo : World, wo = wr := ⟨_, rfl⟩
          go_loopw [7, 10] (fun cy k wr => ∃ (p q : Nat) (O : List Nat), p ≤ l + j + 1 ∧ k = .int .i64 p ∧ cy = .int .u64 q ∧ q < 4294967296 ∧ O.length = l + j + 1 ∧ Ok32 O ∧ val O + 4294967296 ^ p * q = val (L.take (i + 1)) * val M ∧ Rw wr w.heap.size O ∧ Ext w wr) (fun _ k _ => l + j + 1 - (intOf k).toNat)
          case atStart =>
            exact ⟨i + j, q, O, by omega, by go_num, rfl, hq, HO.out, hok, HV2.out, hR, hb⟩
          case round =>
            clear HO HV2 hok hR hq
            obtain ⟨p, q, O, hp, rfl, rfl, hq, hO, hok, hval, hR, hb⟩ := hrel
            have HV := Lib.hid hval
            have HO := Lib.hid hO
            clear hval hO
            by_cases hc : 0 < q
            · have hpN : p < l + j + 1 := carry_room HV.out hs.ok hr.ok (by have := HL.out; omega) HM.out.symm hc (by have := HL.out; omega)
              have hpO : p < O.length := by have := HO.out; omega
              have ho := List.getElem?_eq_getElem hpO
              have ho32 : O[p] < 4294967296 := hok.get hpO
              have c3 := hR.cell ho
              have c4 := hR.frozen p
              have HS := Lib.hid (carry_step (c := q) ho)
              generalize O[p] = o at *
              clear ho hpO
              have HR2 := Lib.hid (fun v : Nat => hR.set p v)
              have HE2 := Lib.hid (fun v : Value => hb.setCell (p := ⟨w.heap.size, p, none⟩) (Nat.le_refl _) v)
              have HOK := Lib.hid (fun v => hok.set' p v)
              have hmask := and_mask (o + q) (by omega)
              simp only [Int.natCast_add] at hmask
              have hq1 : decide ((q : Int) > 0) = true := decide_eq_true (by omega)
              have hq2 : decide (0 < q) = true := decide_eq_true hc
              go_wp2
              go_roundw
              case rel =>
                exact ⟨p + 1, (o + q) / 4294967296, O.set p ((o + q) % 4294967296), by omega, by go_num, by go_num, by omega, by rw [List.length_set]; exact HO.out, HOK.out _, by rw [← HV.out]; exact HS.out, HR2.out _, HE2.out _⟩
              case measure => simp [intOf]; omega
            · obtain rfl : q = 0 := by omega
              go_wp2
              go_roundw
              case rel =>
                exact ⟨i + 1, O, by omega, by go_num, HO.out, hok, by rw [← HV.out]; simp, hR, hb⟩
              case measure => simp [intOf]; omega
    · obtain rfl : i = l := by omega
      have HF := Lib.hid (show trimL O = limbs (val L * val M) by
        rw [trimL_eq_limbs hok, HV.out, show L.take i = L from List.take_of_length_le (by rw [HL.out]; exact Nat.le_refl _)])
      have hsl := hR.sl hok (by rw [HO.out]; omega)
      obtain ⟨n, hn⟩ : ∃ n, n = O.length := ⟨_, rfl⟩
      have hn2 : i + m + 1 = n := by rw [hn]; exact HO.out.symm
      have hT := Lib.hid (refTrim_any _ _ O _ hsl (by rw [HO.out]; omega))
      rw [HO.out] at hT
      clear hn hn2
      go_wp2_with fail
      refine hT.out.mono ?_
      rintro e w' ⟨A'', c'', rfl, hs'', hb'⟩
      go_wp2
      go_ret
      rw [← HF.out]
      exact ⟨A'', c'', rfl, hs'', hb.trans hb'⟩
end Go.Proofs.YtofdlkgpgcnjhaaDoor
