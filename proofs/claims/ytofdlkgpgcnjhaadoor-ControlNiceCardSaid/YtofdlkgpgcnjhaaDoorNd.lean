/- Walks: the greatest nice number, as the reference makes it; plain laws on it. -/
import Derived.Test.YtofdlkgpgcnjhaaDoorNb
namespace Go.Proofs.YtofdlkgpgcnjhaaDoor
open Go.RowKit Fp

theorem quiet_same' {P : Program} {f : FuncId} {args : Array Value} {w : World} {n : Nat} {v : Value}
    (h : Calls P f args (w.drewN n) fun e w' => e = .returned v ∧ w.drewN n = w') : Calls P f args (w.drewN n) fun e w'' => e = .returned v ∧ ∃ m, w'' = w.drewN m :=
  h.mono fun _ _ ⟨he, hm⟩ => ⟨he, n, hm.symm⟩

theorem Sl.drewN {w : World} {A : Option Addr} {c : Nat} {L : List Nat} (h : Sl w A c L) (n : Nat) : Sl (w.drewN n) A c L := h.below (below_drewN (Below.refl _ _) n)
theorem Ext.drewN (w : World) (n : Nat) : Ext w (w.drewN n) := below_drewN (Below.refl _ _) n

/-- The three highest bits. -/
theorem nice_bits {m n : Nat} (h : bitsN m = n + 3) : m / 2 ^ n = 4 + 2 * (m / 2 ^ (n + 1) % 2) + m / 2 ^ n % 2 := by
  have hb := bits_div (m := m) (k := n) (by omega)
  rw [h, show n + 3 - n = 3 by omega] at hb
  have h0 : m / 2 ^ n ≠ 0 := by intro h; rw [h] at hb; simp [bitsN] at hb
  have h1 := lt_two_pow_bitsN (m / 2 ^ n)
  have h2 := two_pow_le_of_bitsN h0
  rw [hb] at h1 h2
  have e : m / 2 ^ (n + 1) = m / 2 ^ n / 2 := by rw [Nat.pow_succ, Nat.div_div_eq_div_mul]
  rw [e]
  generalize m / 2 ^ n = q at *
  have h1 : q < 8 := h1
  have h2 : 4 ≤ q := h2
  omega

set_option maxHeartbeats 4000000 in
theorem refNice_yes (s : Bool) (A : Option Addr) (c : Nat) (L : List Nat) (e : Int) (w : World) (hs : Sl w A c L) (hd : Dok s L e) (hp : 0 < Dy.sign ⟨s, val L, e⟩) :
    Calls Tryd.prog 13 #[.agg #[.bool s, .slice A L.length c, .int .i64 e]] w (RetDB w (niceD (val L) e) true) := by
  obtain ⟨he1, he2⟩ := hd.exp
  have hlen := hd.len
  have hbits := hd.bits
  have ht : Trim L := hd.1
  have hv0 : val L ≠ 0 := by intro h; unfold Dy.sign at hp; simp [h] at hp
  have hsf : s = false := by unfold Dy.sign at hp; rw [if_neg hv0] at hp; cases s <;> simp at hp ⊢
  subst hsf
  have HP := Lib.hid (fun w (h : Sl w A c L) => positive_any false A c L e w true h (by omega) (by omega) (by simp [hd, hp]))
  have HB := Lib.hid (fun w (h : Sl w A c L) => refBitsD_any false A c L e w h ht (by omega))
  have HLM := Lib.hid (ht.eq_limbs hs.ok)
  by_cases h3 : bitsN (val L) ≤ 3
  · have hD := Lib.hid (show niceD (val L) e = ⟨false, val L, e⟩ by unfold niceD; rw [if_pos h3])
    rw [hD.out]
    generalize bitsN (val L) = q at *
    clear hd hv0 hp ht
    go_enter Tryd.func13, Tryd.ntmps13
    go_wp2_with fail
    refine (HP.out _ ((hs.alloc _).alloc _)).mono ?_
    rintro r w1 ⟨rfl, hb1⟩
    have bx1 := ((Box3.new w false A L.length c e).alloc (.cells #[.bool false, .slice none 0 0, .int .i64 0] 24)).ext hb1
    have bx2 := (Box3.newAt (W := w.alloc (.cells #[.bool false, .slice A L.length c, .int .i64 e] 24)) (g := w.heap.size + 1) (by simp) false none 0 0 0).ext hb1
    have b0 := bx1.c0; have b1 := bx1.c1; have b2 := bx1.c2
    have hE := (((Ext.alloc w (.cells #[.bool false, .slice A L.length c, .int .i64 e] 24)).trans (Ext.alloc _ (.cells #[.bool false, .slice none 0 0, .int .i64 0] 24))).trans hb1)
    go_wp2_with fail
    refine (HB.out _ (hs.below hE)).mono ?_
    rintro r w2 ⟨rfl, hb2⟩
    have bx1 := bx1.ext hb2
    have c0 := bx1.c0; have c1 := bx1.c1; have c2 := bx1.c2
    have bz := bx2.ext hb2
    have z0 := bz.c0; have z1 := bz.c1; have z2 := bz.c2; have f0 := bz.fr 0; have f1 := bz.fr 1; have f2 := bz.fr 2
    have hS2 : Sl w2 A c L := hs.below (hE.trans hb2)
    clear b0 b1 b2
    go_wp2
    refine dy_retb (d := ⟨false, val L, e⟩) rfl rfl rfl rfl (bz.set _ _ _ _ _) (congrArg List.length HLM.out) ?_ (Box3.set_ext (hE.trans hb2) (by omega) _ _ _ _ _)
    show Sl _ _ _ (limbs (val L))
    rw [← HLM.out]
    exact bz.set_sl hS2 _ _ _ _ _
  · obtain ⟨n, hn⟩ : ∃ n, bitsN (val L) = n + 3 := ⟨bitsN (val L) - 3, by omega⟩
    have hn0 : 0 < n := by omega
    have hq := Lib.hid (nice_bits hn)
    have hD := Lib.hid (show niceD (val L) e = canon false (val L / 2 ^ n) (e + (n : Int)) by unfold niceD; rw [if_neg h3, hn, show n + 3 - 3 = n by omega])
    rw [hD.out]
    rw [hn] at HB hbits
    simp only [Int.natCast_add] at HB
    have hroom : (n + 1) / 32 < L.length := by
      have h1 := lt_two_pow_bitsN (val L)
      have h2 := val_lt hs.ok
      rw [pow32] at h2
      have h3 := bitsN_le_iff.2 h2
      rw [hn] at h3
      omega
    have HB1 := fun w (h : Sl w A c L) => refBit_any A c L (n + 1) w h hroom (by omega)
    rw [show ((n + 1 : Nat) : Int) = (n : Int) + 1 by omega] at HB1
    have HB1 := Lib.hid HB1
    have HB2 := Lib.hid (fun w (h : Sl w A c L) => refBit_any A c L n w h (by omega) (by omega))
    have h2b : val L / 2 ^ (n + 1) % 2 < 2 := Nat.mod_lt _ (by decide)
    have h1b : val L / 2 ^ n % 2 < 2 := Nat.mod_lt _ (by decide)
    have HQ : Hid (val L / 2 ^ n = 4 + 2 * (val L / 2 ^ (n + 1) % 2) + val L / 2 ^ n % 2) := hq
    obtain ⟨x, hx⟩ : ∃ x, x = val L / 2 ^ n := ⟨_, rfl⟩
    rw [← hx] at h1b HB2 HQ ⊢
    generalize val L / 2 ^ (n + 1) % 2 = p1 at *
    obtain ⟨p0, hp0⟩ : ∃ p0, p0 = x % 2 := ⟨_, rfl⟩
    rw [← hp0] at h1b HB2 HQ
    have hx4 : x = 4 + 2 * p1 + p0 := HQ.out
    clear hx hq hD HQ hp0
    have HO := Lib.hid (fun A c w (h : Sl w A c [x]) => refOf_any false A c [x] (e + (n : Int)) w h (by simp) (by omega) (by omega))
    rw [show val [x] = x by simp] at HO
    have hxi : (4 : Int) + 2 * (p1 : Int) + (p0 : Int) = (x : Int) := by omega
    have hx8 : x < 4294967296 := by omega
    have hw1 : IntKind.i64.wrap ((n : Int) + 1) = (n : Int) + 1 := i64_in _ (by omega) (by omega)
    have hw1' : IntKind.i64.wrap ((n : Int) + 3 - 2) = (n : Int) + 1 := by rw [i64_in _ (by omega) (by omega)]; omega
    have hw2 : IntKind.i64.wrap (n : Int) = (n : Int) := i64_in _ (by omega) (by omega)
    have hw3 : IntKind.i64.wrap (2 * (p1 : Int)) = 2 * (p1 : Int) := i64_in _ (by omega) (by omega)
    have hw4 : IntKind.i64.wrap (4 + 2 * (p1 : Int)) = 4 + 2 * (p1 : Int) := i64_in _ (by omega) (by omega)
    have hw5 : IntKind.i64.wrap (4 + 2 * (p1 : Int) + (p0 : Int)) = (x : Int) := by rw [i64_in _ (by omega) (by omega)]; exact hxi
    have hw6 : IntKind.i64.wrap (e + ((n : Int) + 3)) = e + (n : Int) + 3 := by rw [i64_in _ (by omega) (by omega)]; omega
    have hw7 : IntKind.i64.wrap (e + (n : Int) + 3 - 3) = e + (n : Int) := by rw [i64_in _ (by omega) (by omega)]; omega
    have hn4 : n ≤ 4096 := by omega
    have hd1 : decide ((n : Int) + 3 ≤ 3) = false := decide_eq_false (by omega)
    have hd2 : decide (n = 0) = false := decide_eq_false (by omega)
    have hd3 : decide ((n : Int) ≤ 0) = false := decide_eq_false (by omega)
    generalize canon false x (e + (n : Int)) = D at *
    clear hd hv0 hp ht hx4 hxi hn h3 hroom hbits
    go_enter Tryd.func13, Tryd.ntmps13
    go_wp2_with fail
    refine (HP.out _ ((hs.alloc _).alloc _)).mono ?_
    rintro r w1 ⟨rfl, hb1⟩
    have bx1 := ((Box3.new w false A L.length c e).alloc (.cells #[.bool false, .slice none 0 0, .int .i64 0] 24)).ext hb1
    have bx2 := (Box3.newAt (W := w.alloc (.cells #[.bool false, .slice A L.length c, .int .i64 e] 24)) (g := w.heap.size + 1) (by simp) false none 0 0 0).ext hb1
    have b0 := bx1.c0; have b1 := bx1.c1; have b2 := bx1.c2
    have hE := (((Ext.alloc w (.cells #[.bool false, .slice A L.length c, .int .i64 e] 24)).trans (Ext.alloc _ (.cells #[.bool false, .slice none 0 0, .int .i64 0] 24))).trans hb1)
    go_wp2_with fail
    refine (HB.out _ (hs.below hE)).mono ?_
    rintro r w2 ⟨rfl, hb2⟩
    have bx1 := bx1.ext hb2
    have c0 := bx1.c0; have c1 := bx1.c1; have c2 := bx1.c2
    have bx2 := bx2.ext hb2
    have hE := hE.trans hb2
    have hS2 : Sl w2 A c L := hs.below hE
    clear b0 b1 b2 hb2 hb1
    go_wp2
    go_quiet ((go_at_call 35; first | with_reducible exact quiet_same' (HB1.out _ (hS2.drewN _)) | with_reducible exact quiet_same' (HB2.out _ (hS2.drewN _))))
    have bx2 := bx2.ext (Ext.drewN _ nq)
    have bx1 := bx1.ext (Ext.drewN _ nq)
    have hE := hE.trans (Ext.drewN _ nq)
    have g2 := (bx1.alloc (.cells #[.int .u32 (x : Int)] 50)).c2
    go_wp2_with fail
    refine (HO.out _ _ _ (Sl.oneI _ _ x rfl hx8)).mono ?_
    rintro r w3 ⟨A3, c3, rfl, hs3, hb3⟩
    have hb3 := (Ext.alloc _ _).trans hb3
    have bz := bx2.ext hb3
    have z0 := bz.c0; have z1 := bz.c1; have z2 := bz.c2; have f0 := bz.fr 0; have f1 := bz.fr 1; have f2 := bz.fr 2
    go_wp2
    exact dy_retb rfl rfl rfl rfl (bz.set _ _ _ _ _) rfl (bz.set_sl hs3 _ _ _ _ _) (Box3.set_ext (hE.trans hb3) (by omega) _ _ _ _ _)
end Go.Proofs.YtofdlkgpgcnjhaaDoor
