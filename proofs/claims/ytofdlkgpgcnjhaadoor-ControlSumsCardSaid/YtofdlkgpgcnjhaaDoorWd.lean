/- Walks: results of natural numbers, and shifts. -/
import Derived.Test.YtofdlkgpgcnjhaaDoorWc
namespace Go.Proofs.YtofdlkgpgcnjhaaDoor
open Go.RowKit Fp

theorem longA_any (g : Nat) (A : Option Addr) (n c : Nat) (w : World) (b : Bool) (h : w.cell? ⟨g, 0, none⟩ = some (.slice A n c)) (hb : b = decide (256 < n)) :
    Calls Tryd.prog 51 #[.slice (some ⟨g, 0, none⟩) 1 1] w fun e w' => e = .returned (.bool b) ∧ w = w' := by
  have := long_any g [(A, n, c)] w (fun i x hx => by
    obtain ⟨h1, h2⟩ := List.getElem?_eq_some_iff.1 hx
    obtain rfl : i = 0 := by simp at h1; omega
    simp at h2
    subst h2
    exact h) (by simp)
  simpa [tooLong, hb] using this

theorem longB_any (g : Nat) (A B : Option Addr) (n c m d : Nat) (w : World) (b : Bool) (h : w.cell? ⟨g, 0, none⟩ = some (.slice A n c)) (k : w.cell? ⟨g, 1, none⟩ = some (.slice B m d)) (hb : b = (decide (256 < n) || decide (256 < m))) :
    Calls Tryd.prog 51 #[.slice (some ⟨g, 0, none⟩) 2 2] w fun e w' => e = .returned (.bool b) ∧ w = w' := by
  have := long_any g [(A, n, c), (B, m, d)] w (fun i x hx => by
    obtain ⟨h1, h2⟩ := List.getElem?_eq_some_iff.1 hx
    simp at h1
    rcases i with _ | _ | i
    · simp at h2; subst h2; exact h
    · simp at h2; subst h2; exact k
    · omega) (by simp)
  simpa [tooLong, hb] using this

set_option maxHeartbeats 400000 in
theorem natDone_ok (A : Option Addr) (c : Nat) (L : List Nat) (w : World) (hs : Sl w A c L) (hl : (trimL L).length ≤ 256) :
    Calls Tryd.prog 52 #[.slice A L.length c] w (RetLE w (trimL L) 0) := by
  have hT := Lib.hid (natTrim_any A c L w hs)
  have hs2 := hs.trim
  have hC := hs.cap
  have hL := hs.lim
  have H2 := Lib.hid (fun w' (h : Sl w' A c (trimL L)) => clip_any A c (trimL L) w' h)
  generalize trimL L = M at *
  obtain ⟨n, hn⟩ : ∃ n, n = M.length := ⟨_, rfl⟩
  rw [← hn] at hT hl H2
  have HN := Lib.hid hn; clear hn
  go_enter Tryd.func52, Tryd.ntmps52
  go_wp2_with fail
  refine hT.out.mono ?_; rintro e w' ⟨rfl, rfl⟩
  go_wp2_with fail
  refine (longA_any _ A n c _ false ?_ (by simp; omega)).mono ?_
  · go_simp
  rintro e w' ⟨rfl, rfl⟩
  go_wp2_with fail
  refine (H2.out _ (hs2.alloc _)).mono ?_; rintro e w' ⟨rfl, rfl⟩
  go_wp2
  go_ret2
  exact ⟨A, n, by rw [HN.out]; rfl, by have := hs2.clip.alloc (.cells #[.slice A n c] 22); rw [HN.out] at this ⊢; exact this, Ext.alloc _ _⟩

set_option maxHeartbeats 400000 in
theorem natDone_big (A : Option Addr) (c : Nat) (L : List Nat) (w : World) (hs : Sl w A c L) (hl : 256 < (trimL L).length) :
    Calls Tryd.prog 52 #[.slice A L.length c] w (RetLE w [] 9) := by
  have hT := Lib.hid (natTrim_any A c L w hs)
  have hs2 := hs.trim
  have hC := hs.cap
  have hL := hs.lim
  generalize trimL L = M at *
  obtain ⟨n, hn⟩ : ∃ n, n = M.length := ⟨_, rfl⟩
  rw [← hn] at hT hl
  clear hn
  go_enter Tryd.func52, Tryd.ntmps52
  go_wp2_with fail
  refine hT.out.mono ?_; rintro e w' ⟨rfl, rfl⟩
  go_wp2_with fail
  refine (longA_any _ A n c _ true ?_ (by simp; omega)).mono ?_
  · go_simp
  rintro e w' ⟨rfl, rfl⟩
  go_wp2
  go_ret2
  exact ⟨none, 0, rfl, Sl.nil _, Ext.alloc _ _⟩

/-! ### shr -/
theorem u64_or_nat (a b : Nat) (ha : a < 18446744073709551616) (hb : b < 18446744073709551616) : bits .or .u64 (a : Int) (b : Int) = ((a ||| b : Nat) : Int) := by
  have hx : a ||| b < 2 ^ 64 := Nat.or_lt_two_pow (by omega) (by omega)
  have h1 : (BitVec.ofInt 64 (a : Int)).toNat = a := by
    rw [BitVec.ofInt_natCast, BitVec.toNat_ofNat]; exact Nat.mod_eq_of_lt (by omega)
  have h2 : (BitVec.ofInt 64 (b : Int)).toNat = b := by
    rw [BitVec.ofInt_natCast, BitVec.toNat_ofNat]; exact Nat.mod_eq_of_lt (by omega)
  show IntKind.u64.wrap ((BitVec.ofInt 64 (a : Int) ||| BitVec.ofInt 64 (b : Int)).toNat : Int) = _
  rw [BitVec.toNat_or, h1, h2, IntKind.wrap_u64]
  omega
/-- Low and high bits that do not meet. -/
theorem or_add (a b k : Nat) (h : a < 2 ^ k) : a ||| b * 2 ^ k = a + b * 2 ^ k := by
  rw [Nat.mul_comm, Nat.or_comm, ← Nat.two_pow_add_eq_or_of_lt h]; omega

theorem Sl.drop {w : World} {A : Option Addr} {c : Nat} {L : List Nat} (h : Sl w A c L) (k : Nat) : Sl w (A.map (·.add k)) (c - k) (L.drop k) :=
  ⟨by have := h.cap; rw [List.length_drop]; omega, Nat.le_trans (Nat.sub_le _ _) h.lim, h.ok.drop k, (fun e => by
    rcases A with _ | ad
    · rw [h.none_ rfl]; omega
    · cases e), fun i x hx => by
    rw [List.getElem?_drop] at hx
    obtain ⟨b, o, rfl, h1, h2⟩ := h.cell _ _ hx
    exact ⟨b, o + k, by rw [Option.map_some, addr_add], h1, by rw [Nat.add_assoc]; exact h2⟩⟩

/-- What a loop has filled in, the rest still 0. -/
def part (T : List Nat) (k : Nat) : List Nat := T.take k ++ List.replicate (T.length - k) 0
theorem part_length (T : List Nat) (k : Nat) (h : k ≤ T.length) : (part T k).length = T.length := by
  unfold part; rw [List.length_append, List.length_take, List.length_replicate]; omega
theorem part_zero (T : List Nat) : part T 0 = List.replicate T.length 0 := by unfold part; simp
theorem part_all (T : List Nat) : part T T.length = T := by unfold part; simp
theorem part_get (T : List Nat) (k : Nat) (h : k < T.length) : (part T k)[k]? = some 0 := by
  unfold part
  rw [List.getElem?_append_right (by rw [List.length_take]; omega), List.length_take, List.getElem?_replicate, if_pos (by omega)]
theorem part_set (T : List Nat) (k x : Nat) (h : T[k]? = some x) : (part T k).set k x = part T (k + 1) := by
  obtain ⟨h1, rfl⟩ := List.getElem?_eq_some_iff.1 h
  unfold part
  rw [List.set_append_right _ _ (by rw [List.length_take]; omega), List.length_take, Nat.min_eq_left (by omega), Nat.sub_self,
    List.take_succ_eq_append_getElem h1, show T.length - k = (T.length - (k + 1)) + 1 by omega, List.replicate_succ, List.set_cons_zero, List.append_assoc]
  rfl

theorem shr_limb (x y s : Nat) (hx : x < 4294967296) (hy : y < 4294967296) :
    bits BinOp.or IntKind.u64 (x : Int) ((y : Int) * 4294967296) / 2 ^ s % 4294967296 = (((x + 4294967296 * y) / 2 ^ s % 4294967296 : Nat) : Int) := by
  have e : ((y : Int) * 4294967296) = ((y * 2 ^ 32 : Nat) : Int) := by simp
  rw [e, u64_or_nat x (y * 2 ^ 32) (by omega) (by omega), or_add x y 32 (by omega)]
  simp [Nat.mul_comm]
theorem shr_limb0 (x s : Nat) : (x : Int) / 2 ^ s % 4294967296 = (((x + 4294967296 * 0) / 2 ^ s % 4294967296 : Nat) : Int) := by
  simp

set_option maxHeartbeats 1000000 in
theorem natshr_any (A : Option Addr) (c : Nat) (L : List Nat) (n : Nat) (w : World) (hs : Sl w A c L) (hlen : L.length ≤ 100000000) (hn : n ≤ 65536) :
    Calls Tryd.prog 53 #[.slice A L.length c, .int .i64 n] w (RetL w (shrL (n % 32) ((trimL L).drop (n / 32)))) := by
  have hT := Lib.hid (natTrim_any A c L w hs)
  have hs2 := hs.trim
  have hl2 := tlen_le L
  have hC := hs2.cap
  have hL := hs.lim
  unfold tlen at hl2
  generalize trimL L = M at *
  obtain ⟨m, hm⟩ : ∃ m, m = M.length := ⟨_, rfl⟩
  rw [← hm] at hT hl2 hC
  have HM := Lib.hid hm; clear hm
  by_cases h0 : m ≤ n / 32
  · go_enter Tryd.func53, Tryd.ntmps53
    go_wp2_with fail
    refine hT.out.mono ?_; rintro e w' ⟨rfl, rfl⟩
    go_wp2
    go_ret
    have : M.drop (n / 32) = [] := List.drop_eq_nil_of_le (by rw [← HM.out]; exact h0)
    rw [this]
    exact ⟨none, 0, rfl, Sl.nil _, Ext.refl _⟩
  · obtain ⟨ab, ao, rfl, _, _⟩ := hs2.at_ (i := 0) (by have := HM.out; omega)
    have hK := hs2.drop (n / 32)
    have hNK := Lib.hid (show m - n / 32 = (M.drop (n / 32)).length by rw [List.length_drop, HM.out])
    have hcc : n / 32 < c := by omega
    have hmk := make32 (m - n / 32) (by omega)
    have hN0 : 0 < m - n / 32 := by omega
    have hN1 : m - n / 32 ≤ 100000000 := by omega
    generalize M.drop (n / 32) = K at *
    simp only [Option.map_some, addr_add] at hK
    have hT2 := Lib.hid (shrL_length (n % 32) K)
    have hTg := Lib.hid (shrL_get (n % 32) K)
    have hTo := Lib.hid (ok_shrL (n % 32) K)
    generalize shrL (n % 32) K = T at *
    go_enter Tryd.func53, Tryd.ntmps53
    go_wp2_with fail
    refine hT.out.mono ?_; rintro e w' ⟨rfl, rfl⟩
    go_wp2
    go_loopw [25] (fun i wr => ∃ k : Nat, k ≤ m - n / 32 ∧ i = .int .i64 k ∧ Rw wr w.heap.size (part T k) ∧ Ext w wr) (fun i _ => m - n / 32 - (intOf i).toNat)
    case atStart =>
      refine ⟨0, Nat.zero_le _, rfl, ?_, Ext.alloc _ _⟩
      rw [part_zero, hT2.out, ← hNK.out]
      exact Rw.made _ _
    case round =>
      obtain ⟨k, hk, rfl, hR, hb⟩ := hrel
      by_cases hlt : k < m - n / 32
      · have hkK : k < K.length := by have := hNK.out; omega
        obtain ⟨ab', ao', e', _, c1⟩ := (hK.below hb).at_ hkK
        cases e'
        have hg := hTg.out k hkK
        have hx32 : K[k] < 4294967296 := hK.ok.get hkK
        have HK := Lib.hid (List.getElem?_eq_getElem hkK)
        have c3 := hR.cell (part_get T k (by have := hT2.out; omega))
        have c4 := hR.frozen k
        by_cases hlt2 : k + 1 < m - n / 32
        · have hkK2 : k + 1 < K.length := by have := hNK.out; omega
          obtain ⟨ab', ao', e', _, c2⟩ := (hK.below hb).at_ hkK2
          cases e'
          have hy : K.getD (k + 1) 0 = K[k + 1] := by rw [List.getD_eq_getElem?_getD, List.getElem?_eq_getElem hkK2]; rfl
          rw [hy] at hg
          have hy32 : K[k + 1] < 4294967296 := hK.ok.get hkK2
          have HG := Lib.hid hg
          clear hg hy
          generalize K[k] = x at *
          generalize K[k + 1] = y at *
          clear hkK hkK2
          go_wp2
          go_roundw
          case rel =>
            rw [shr_limb x y (n % 32) hx32 hy32]
            exact ⟨k + 1, by omega, by go_num, by rw [← part_set T k _ HG.out]; exact hR.set k _, hb.setCell (Nat.le_refl _) _⟩
          case measure => simp [intOf]; omega
        · have hy : K.getD (k + 1) 0 = 0 := by rw [List.getD_eq_getElem?_getD, List.getElem?_eq_none (by have := hNK.out; omega)]; rfl
          rw [hy] at hg
          have HG := Lib.hid hg
          clear hg hy
          generalize K[k] = x at *
          clear hkK
          go_wp2
          go_roundw
          case rel =>
            rw [shr_limb0 x (n % 32)]
            exact ⟨k + 1, by omega, by go_num, by rw [← part_set T k _ HG.out]; exact hR.set k _, hb.setCell (Nat.le_refl _) _⟩
          case measure => simp [intOf]; omega
      · go_wp2
        go_ret
        obtain rfl : k = m - n / 32 := by omega
        rw [hNK.out, ← hT2.out, part_all] at hR
        have := hR.sl hTo.out (by have := hT2.out; have := hNK.out; omega)
        rw [hT2.out, ← hNK.out] at this
        exact ⟨_, _, by rw [hT2.out, ← hNK.out]; rfl, this, hb⟩

theorem shr_all {L : List Nat} (h : Ok32 L) (n : Nat) : trimL (shrL (n % 32) ((trimL L).drop (n / 32))) = limbs (val L / 2 ^ n) := by
  rw [trimL_eq_limbs (ok_shrL _ _), val_shr_all h.trimL, val_trimL]

theorem SlS1 (w : World) (A : Option Addr) (n c : Nat) : (w.alloc (.cells #[.slice A n c] 22)).cell? ⟨w.heap.size, 0, none⟩ = some (.slice A n c) := by
  rw [World.cell?_alloc_at _ _ _ _ rfl]; rfl
theorem SlS2a (w : World) (A B : Option Addr) (n c m d : Nat) : (w.alloc (.cells #[.slice A n c, .slice B m d] 22)).cell? ⟨w.heap.size, 0, none⟩ = some (.slice A n c) := by
  rw [World.cell?_alloc_at _ _ _ _ rfl]; rfl
theorem SlS2b (w : World) (A B : Option Addr) (n c m d : Nat) : (w.alloc (.cells #[.slice A n c, .slice B m d] 22)).cell? ⟨w.heap.size, 1, none⟩ = some (.slice B m d) := by
  rw [World.cell?_alloc_at _ _ _ _ rfl]; rfl

set_option maxHeartbeats 400000 in
theorem natShr_any (A : Option Addr) (c : Nat) (L : List Nat) (n : Nat) (w : World) (hs : Sl w A c L) (hlen : L.length ≤ 256) (hn : n ≤ 65536) :
    Calls Tryd.prog 32 #[.slice A L.length c, .int .i64 n] w (RetLE w (limbs (val L / 2 ^ n)) 0) := by
  have hf : decide (256 < L.length) = false := by simp; omega
  have h3 := Lib.hid (shr_all hs.ok n)
  have h4 : (trimL (shrL (n % 32) ((trimL L).drop (n / 32)))).length ≤ 256 := by
    have h1 := tlen_le (shrL (n % 32) ((trimL L).drop (n / 32)))
    unfold tlen at h1
    rw [shrL_length, List.length_drop] at h1
    have h2 := tlen_le L
    unfold tlen at h2
    omega
  have H1 := Lib.hid (fun w (h : Sl w A c L) => natshr_any A c L n w h (by omega) hn)
  generalize shrL (n % 32) ((trimL L).drop (n / 32)) = T at *
  go_enter Tryd.func32, Tryd.ntmps32
  go_wp2_with fail
  refine (longA_any _ A _ c _ false (SlS1 _ _ _ _) (by simp; omega)).mono ?_
  rintro e w' ⟨rfl, rfl⟩
  go_wp2_with fail
  refine (H1.out _ (hs.alloc _)).mono ?_
  rintro e w' ⟨A', c', rfl, hs', hb⟩
  go_wp2_with fail
  refine (natDone_ok A' c' T _ hs' h4).mono ?_
  rintro e w'' ⟨A'', c'', rfl, hs'', hb'⟩
  go_wp2
  go_ret2
  rw [← h3.out]
  exact ⟨A'', c'', rfl, hs'', (Ext.alloc _ _).trans (hb.trans hb')⟩

end Go.Proofs.YtofdlkgpgcnjhaaDoor
