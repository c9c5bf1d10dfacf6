/- Texts: Rs Rk Rl Ke Sm Pw Iv Iw Ix Ey Ip Pz Cv Cz Ja Jb Uc Um Ul Ur Us Ua Ut Uv Kn Kq Te Tf Dg Tg Dh Ud Tk Uq. -/
import Derived.Test.YtkbjkchapnjhgaaGreatDoorM02
import Derived.Deep.Slices
import Derived.Carry
import Derived.Scope
set_option linter.unusedSimpArgs false
set_option linter.unusedVariables false
namespace Go.Proofs.YtkbjkchapnjhgaaGreatDoor.Fp
def yOf (b:Dy) (low:Int):Nat:=if low ≤ b.e then b.m * 2 ^ (b.e - low).toNat else b.m / 2 ^ (low - b.e).toNat
def lostOf (b:Dy) (low:Int):Bool:=decide (¬ low ≤ b.e) && decide (b.m % 2 ^ (low - b.e).toNat ≠ 0)
theorem sumD_canonZ {a b:Dy} (ha:a.Canon) (hb:b.Canon) {K:Int} (h1:K ≤ a.e) (h2:K ≤ b.e):sumD a b=canonZ (a.num K+b.num K) K:=by
 refine dy_ext (k:=K) (canon_sumD ha hb) (canon_canon _ _ _) (above_sumD (.inr h1) (.inr h2)) (above_canonZ (Int.le_refl _)) ?_
 rw [sumD_num (.inr h1) (.inr h2),num_canonZ (Int.le_refl _),show (K - K).toNat=0 by omega]
 simp
theorem rnd_sumD {a b:Dy} (ha:a.Canon) (hb:b.Canon) {K:Int} (h1:K ≤ a.e) (h2:K ≤ b.e) (s:Bool) (Z:Nat) (h0:Z ≠ 0) (hz:a.num K+b.num K=if s then -(Z:Int) else (Z:Int)) (p:Nat) (up:Bool) :
  rndD (sumD a b) p up=cutD s Z K false p up ∧ rndE (sumD a b) p up=cutE s Z K false p up:=by
 have:sumD a b=canon s Z K:=by rw [sumD_canonZ ha hb h1 h2,hz,canonZ_of]
 rw [this]
 exact rnd_canon s up Z K p h0
theorem num_of_mag (d:Dy) (K:Int):d.num K=if d.neg then -(d.mag K:Int) else (d.mag K:Int):=rfl
section
variable {a b:Dy} {low:Int} {p:Nat}
theorem rsum_parts (a0:a.m ≠ 0) (b0:b.m ≠ 0) (h1:low ≤ a.e) (h2:low ≤ a.top - p - 8) (h3:low ≤ b.e ∨ 3 ≤ a.top - b.top) :
  ∃ (K:Int) (d:Nat),K ≤ a.e ∧ K ≤ b.e ∧ low=K+d ∧ a.mag K=a.m * 2 ^ (a.e - low).toNat * 2 ^ d ∧ yOf b low=b.mag K / 2 ^ d ∧ (lostOf b low=decide (b.mag K % 2 ^ d ≠ 0)) ∧
   (d=0 ∨ (p+8 ≤ bitsN (a.m * 2 ^ (a.e - low).toNat) ∧ bitsN (b.mag K / 2 ^ d)+3 ≤ bitsN (a.m * 2 ^ (a.e - low).toNat))):=by
 have ta:a.top=bitsN a.m+a.e:=by unfold Dy.top; rw [if_neg a0]
 have tb:b.top=bitsN b.m+b.e:=by unfold Dy.top; rw [if_neg b0]
 have hx:=bitsN_mul_pow a0 (a.e - low).toNat
 by_cases h:low ≤ b.e
 ·refine ⟨low,0,h1,h,by omega,by unfold Dy.mag; simp,?_,?_,.inl rfl⟩
  ·unfold yOf Dy.mag; rw [if_pos h]; simp
  ·unfold lostOf; simp [h,Nat.mod_one]
 ·refine ⟨b.e,(low - b.e).toNat,by omega,Int.le_refl _,by omega,?_,?_,?_,.inr ⟨by omega,?_⟩⟩
  ·unfold Dy.mag
   rw [Nat.mul_assoc,← Nat.pow_add]
   congr 2; omega
  ·unfold yOf Dy.mag; rw [if_neg h]; simp
  ·unfold lostOf Dy.mag; simp [h]
  ·have hm:b.mag b.e=b.m:=by unfold Dy.mag; simp
   rw [hm]
   have hd:bitsN (b.m / 2 ^ (low - b.e).toNat) ≤ bitsN b.m - (low - b.e).toNat:=by
    rw [bitsN_le_iff,Nat.div_lt_iff_lt_mul (Nat.pow_pos (by decide)),← Nat.pow_add]
    exact bitsN_le_iff.1 (by omega)
   have:=h3.resolve_left h
   omega
theorem rsum_same (ha:a.Canon) (hb:b.Canon) (a0:a.m ≠ 0) (b0:b.m ≠ 0) (h1:low ≤ a.e) (h2:low ≤ a.top - p - 8) (h3:low ≤ b.e ∨ 3 ≤ a.top - b.top) (hs:a.neg=b.neg) (up:Bool) :
  cutD a.neg (a.m * 2 ^ (a.e - low).toNat+yOf b low) low (lostOf b low) p up=rndD (sumD a b) p up ∧ cutE a.neg (a.m * 2 ^ (a.e - low).toNat+yOf b low) low (lostOf b low) p up=rndE (sumD a b) p up:=by
 obtain ⟨K,d,k1,k2,rfl,hx,hy,hl,hd⟩:=rsum_parts (p:=p) a0 b0 h1 h2 h3
 generalize a.m * 2 ^ (a.e - (K+d)).toNat=x at *
 have ma:=mag_pos a0 K
 have mb:=mag_pos b0 K
 obtain ⟨r1,r2⟩:=rnd_sumD ha hb k1 k2 a.neg (a.mag K+b.mag K) (by omega) (by
  rw [num_of_mag a,num_of_mag b,← hs]
  cases a.neg <;> simp <;> omega) p up
 rw [r1,r2,hy,hl]
 have e1:(a.mag K+b.mag K) / 2 ^ d=x+b.mag K / 2 ^ d:=by
  rw [hx,Nat.mul_comm x,Nat.mul_add_div (Nat.pow_pos (by decide))]
 have e2:(a.mag K+b.mag K) % 2 ^ d=b.mag K % 2 ^ d:=by
  rw [hx,Nat.mul_comm x,Nat.mul_add_mod]
 rcases hd with rfl | ⟨hd1,hd2⟩
 ·simp only [Nat.pow_zero,Nat.div_one,Nat.mod_one] at e1 ⊢
  rw [← e1]
  have:K+((0:Nat):Int)=K:=by omega
  rw [this]; simp
 ·have hb:p < bitsN ((a.mag K+b.mag K) / 2 ^ d):=by
   rw [e1]
   have:=bitsN_mono (show x ≤ x+b.mag K / 2 ^ d by omega)
   omega
  have h:=cutD_shift (E:=K) (more:=false) a.neg up hb
  rw [e1,e2,Bool.false_or] at h
  exact h
theorem sub_div_mod {x N D:Nat} (hD:0 < D) (h:N ≤ x * D):(x * D - N) / D=x - (N / D+if N % D ≠ 0 then 1 else 0) ∧ ((x * D - N) % D ≠ 0 ↔ N % D ≠ 0) ∧ N / D+(if N % D ≠ 0 then 1 else 0) ≤ x:=by
 have hN:=Nat.div_add_mod N D
 have hr:=Nat.mod_lt N hD
 generalize N / D=q at *
 generalize N % D=r at *
 by_cases h0:r=0
 ·subst h0
  simp only [ne_eq,not_true_eq_false,if_false,Nat.add_zero] at hN ⊢
  have hq:q ≤ x:=by
   apply Classical.byContradiction
   intro h'
   have:=Nat.mul_le_mul_right D (show x+1 ≤ q by omega)
   rw [Nat.add_mul,Nat.mul_comm q] at this
   omega
  have e:x * D - N=(x - q) * D:=by rw [Nat.sub_mul,← hN,Nat.mul_comm q]
  rw [e,Nat.mul_div_cancel _ hD,Nat.mul_mod_left]
  exact ⟨rfl,by simp,hq⟩
 ·have hq:q+1 ≤ x:=by
   apply Classical.byContradiction
   intro h'
   have:=Nat.mul_le_mul_right D (show x ≤ q by omega)
   rw [Nat.mul_comm q] at this
   omega
  have e:x * D - N=(D - r)+D * (x - (q+1)):=by
   have h1:D * (x - (q+1))=D * x - D * (q+1):=Nat.mul_sub _ _ _
   have h2:D * (q+1) ≤ D * x:=Nat.mul_le_mul_left _ hq
   rw [Nat.mul_add,Nat.mul_one] at h1 h2
   rw [Nat.mul_comm x]
   omega
  have hlt:D - r < D:=by omega
  rw [e,Nat.add_mul_div_left _ _ hD,Nat.div_eq_of_lt hlt,Nat.add_mul_mod_self_left,Nat.mod_eq_of_lt hlt]
  simp only [ne_eq,h0,not_false_eq_true,if_true]
  exact ⟨by omega,⟨fun _=>trivial,fun _=>by omega⟩,hq⟩
theorem rsum_diff (ha:a.Canon) (hb:b.Canon) (a0:a.m ≠ 0) (b0:b.m ≠ 0) (h1:low ≤ a.e) (h2:low ≤ a.top - p - 8) (h3:low ≤ b.e ∨ 3 ≤ a.top - b.top) (hs:a.neg ≠ b.neg) (up:Bool) :
  (a.m * 2 ^ (a.e - low).toNat < yOf b low+(if lostOf b low=true then 1 else 0) →
   cutD (!a.neg) (yOf b low+(if lostOf b low=true then 1 else 0) - a.m * 2 ^ (a.e - low).toNat) low false p up=rndD (sumD a b) p up ∧ cutE (!a.neg) (yOf b low+(if lostOf b low=true then 1 else 0) - a.m * 2 ^ (a.e - low).toNat) low false p up=rndE (sumD a b) p up) ∧
  (yOf b low+(if lostOf b low=true then 1 else 0) ≤ a.m * 2 ^ (a.e - low).toNat →
   (a.m * 2 ^ (a.e - low).toNat - (yOf b low+(if lostOf b low=true then 1 else 0))=0 ∧ lostOf b low=false → sumD a b=zeroD) ∧
   (¬ (a.m * 2 ^ (a.e - low).toNat - (yOf b low+(if lostOf b low=true then 1 else 0))=0 ∧ lostOf b low=false) →
    cutD a.neg (a.m * 2 ^ (a.e - low).toNat - (yOf b low+(if lostOf b low=true then 1 else 0))) low (lostOf b low) p up=rndD (sumD a b) p up ∧ cutE a.neg (a.m * 2 ^ (a.e - low).toNat - (yOf b low+(if lostOf b low=true then 1 else 0))) low (lostOf b low) p up=rndE (sumD a b) p up)):=by
 obtain ⟨K,d,k1,k2,rfl,hx,hy,hl,hd⟩:=rsum_parts (p:=p) a0 b0 h1 h2 h3
 generalize a.m * 2 ^ (a.e - (K+d)).toNat=x at *
 have ma:=mag_pos a0 K
 have mb:=mag_pos b0 K
 have hnum:a.num K+b.num K=if a.neg then (b.mag K:Int) - a.mag K else (a.mag K:Int) - b.mag K:=by
  rw [num_of_mag a,num_of_mag b]
  cases h:a.neg <;> cases h':b.neg <;> simp [h,h'] at hs ⊢ <;> omega
 rw [hy,hl]
 rcases hd with rfl | ⟨hd1,hd2⟩
 ·
  rw [Nat.pow_zero,Nat.mul_one] at hx
  have e0:K+((0:Nat):Int)=K:=by omega
  simp only [Nat.pow_zero,Nat.div_one,Nat.mod_one,ne_eq,not_true_eq_false,decide_false,Bool.false_eq_true,if_false,Nat.add_zero,e0,and_true]
  refine ⟨fun hlt=>?_,fun hle=>⟨fun hz=>?_,fun hz=>?_⟩⟩
  ·obtain ⟨r1,r2⟩:=rnd_sumD ha hb k1 k2 (!a.neg) (b.mag K - x) (by omega) (by
    rw [hnum,hx]; cases a.neg <;> simp <;> omega) p up
   exact ⟨r1.symm,r2.symm⟩
  ·rw [sumD_canonZ ha hb k1 k2,hnum,hx]
   have:x=b.mag K:=by omega
   rw [this]; cases a.neg <;> simp [canonZ,canon,zeroD]
  ·obtain ⟨r1,r2⟩:=rnd_sumD ha hb k1 k2 a.neg (x - b.mag K) (by omega) (by
    rw [hnum,hx]; cases a.neg <;> simp <;> omega) p up
   exact ⟨r1.symm,r2.symm⟩
 ·
  have hD:=Nat.pow_pos (n:=d) (by decide:0 < 2)
  have hx0:x ≠ 0:=by intro h; rw [h] at hd1; simp [bitsN] at hd1
  obtain ⟨j,hj⟩:∃ j,bitsN x=j+3:=⟨bitsN x - 3,by omega⟩
  have hxl:=two_pow_le_of_bitsN hx0
  rw [hj,show j+3 - 1=j+2 by omega,Nat.pow_add] at hxl
  have hyl:b.mag K / 2 ^ d < 2 ^ j:=bitsN_le_iff.1 (by omega)
  have hle:b.mag K ≤ x * 2 ^ d:=by
   have h5:=Nat.div_add_mod (b.mag K) (2 ^ d)
   have h6:=Nat.mod_lt (b.mag K) hD
   have h7:2 ^ d * (b.mag K / 2 ^ d+1) ≤ 2 ^ d * x:=Nat.mul_le_mul_left _ (by omega)
   rw [Nat.mul_add,Nat.mul_one,Nat.mul_comm _ x] at h7
   omega
  obtain ⟨e1,e2,e3⟩:=sub_div_mod hD hle
  have hc:(if decide (b.mag K % 2 ^ d ≠ 0)=true then 1 else 0)=(if b.mag K % 2 ^ d ≠ 0 then 1 else 0):=by simp only [decide_eq_true_eq]
  rw [hc]
  have hbig:p < bitsN (x - (b.mag K / 2 ^ d+if b.mag K % 2 ^ d ≠ 0 then 1 else 0)):=by
   have h8:2 ^ (j+1) ≤ x - (b.mag K / 2 ^ d+if b.mag K % 2 ^ d ≠ 0 then 1 else 0):=by
    rw [Nat.pow_succ]
    have h9:2 ^ j * 2 ^ 2 ≤ x:=hxl
    have h10:=Nat.pow_pos (n:=j) (by decide:0 < 2)
    split <;> omega
   have:=lt_bitsN_iff.2 h8
   omega
  refine ⟨fun hlt=>by omega,fun _=>⟨fun hz=>?_,fun _=>?_⟩⟩
  ·exfalso
   rw [hz.1] at hbig
   simp [bitsN] at hbig
  ·obtain ⟨r1,r2⟩:=rnd_sumD ha hb k1 k2 a.neg (a.mag K - b.mag K) (by
    intro h
    rw [← hx,h,Nat.zero_div] at e1
    rw [← e1] at hbig
    simp [bitsN] at hbig) (by
    rw [hnum]; cases a.neg <;> simp <;> omega) p up
   rw [r1,r2,hx]
   rw [← e1] at hbig ⊢
   have h:=cutD_shift (E:=K) (more:=false) a.neg up hbig
   rw [Bool.false_or] at h
   have e4:decide ((x * 2 ^ d - b.mag K) % 2 ^ d ≠ 0)=decide (b.mag K % 2 ^ d ≠ 0):=decide_eq_decide.2 e2
   rw [e4] at h
   exact h
end
def cutU (m:Nat) (e:Int) (p:Nat):Int:=max (e+bitsN m - p) (-16384)
def cutP (m:Nat) (e:Int) (more:Bool) (p:Nat) (up:Bool):Nat :=
 if cutU m e p ≤ e then m * 2 ^ (e - cutU m e p).toNat else m / 2 ^ (cutU m e p - e).toNat+if (up && (more || decide (m % 2 ^ (cutU m e p - e).toNat ≠ 0)))=true then 1 else 0
theorem cutP_spec {m:Nat} {e:Int} {more:Bool} {p:Nat} (up:Bool) (h0:m ≠ 0) (hm:more=true → p < bitsN m) (hp:1 ≤ p) :
  (bitsN (cutP m e more p up):Int)+cutU m e p ≤ 16384 ∧ cutD false m e more p up=canon false (cutP m e more p up) (cutU m e p) ∧ cutE false m e more p up=0 ∨
  16384 < (bitsN (cutP m e more p up):Int)+cutU m e p ∧ ((up=true ∧ cutD false m e more p up=zeroD ∧ cutE false m e more p up=9) ∨ (up=false ∧ cutD false m e more p up=canon false (2 ^ p - 1) (16384 - p) ∧ cutE false m e more p up=0)):=by
 have hout:(false != up)=up:=by cases up <;> rfl
 by_cases hU:cutU m e p ≤ e
 ·
  have hmf:more=false:=by
   cases hmore:more with
   | false=>rfl
   | true=>have:=hm hmore; unfold cutU at hU; omega
  subst hmf
  have hK:cutK m e p=0:=by unfold cutU at hU; unfold cutK; omega
  have hQ:cutQ m e false p up=m:=by unfold cutQ; rw [hK]; simp [Nat.mod_one]
  have hP:cutP m e false p up=m * 2 ^ (e - cutU m e p).toNat:=by unfold cutP; rw [if_pos hU]
  have hb:bitsN (cutP m e false p up)=bitsN m+(e - cutU m e p).toNat:=by rw [hP]; exact bitsN_mul_pow h0 _
  have hc:canon false (cutP m e false p up) (cutU m e p)=canon false m e:=by
   rw [hP]
   have:=canon_mul false m e (e - cutU m e p).toNat
   rwa [show e - ((e - cutU m e p).toNat:Int)=cutU m e p by omega] at this
  have hO:cutOver m e false p up=decide (16384 < (bitsN m:Int)+e):=by
   unfold cutOver; rw [hQ,hK]
   simp [h0]
  by_cases hov:16384 < (bitsN m:Int)+e
  ·refine .inr ⟨by omega,?_⟩
   unfold cutD cutE
   rw [hout,hO,decide_eq_true hov]
   cases up
   ·exact .inr ⟨rfl,rfl,rfl⟩
   ·exact .inl ⟨rfl,rfl,rfl⟩
  ·refine .inl ⟨by omega,?_,?_⟩
   ·unfold cutD
    rw [hout,hO,decide_eq_false hov,if_neg (by decide),hQ,hK,hc]
    simp
   ·unfold cutE
    rw [hout,hO,decide_eq_false hov]; simp
 ·have hK:cutK m e p=(cutU m e p - e).toNat:=by unfold cutU at hU ⊢; unfold cutK; omega
  have hQ:cutQ m e more p up=cutP m e more p up:=by
   unfold cutQ cutP
   rw [if_neg hU,hK]
   congr 1
   cases up <;> cases more <;> simp
  have heK:e+(cutK m e p:Int)=cutU m e p:=by rw [hK]; omega
  have hne:16384 < (bitsN (cutP m e more p up):Int)+cutU m e p → cutP m e more p up ≠ 0:=by
   intro h hz
   have hp0:m / 2 ^ (cutU m e p - e).toNat=0:=by
    unfold cutP at hz
    rw [if_neg hU] at hz
    exact (Nat.add_eq_zero_iff.1 hz).1
   have hlt:m < 2 ^ (cutU m e p - e).toNat:=by
    rcases Nat.div_eq_zero_iff.1 hp0 with h | h
    ·exact absurd h (Nat.ne_of_gt (Nat.pow_pos (by decide)))
    ·exact h
   have:=bitsN_le_iff.2 hlt
   rw [hz,bitsN_zero] at h
   have hpos:=bitsN_pos h0
   unfold cutU at h hU this
   omega
  have hO:cutOver m e more p up=decide (16384 < (bitsN (cutP m e more p up):Int)+cutU m e p):=by
   unfold cutOver
   rw [hQ,show (bitsN (cutP m e more p up):Int)+e+(cutK m e p:Int)=(bitsN (cutP m e more p up):Int)+cutU m e p by omega]
   by_cases hov:16384 < (bitsN (cutP m e more p up):Int)+cutU m e p
   ·simp [hne hov]
   ·simp [hov]
  by_cases hov:16384 < (bitsN (cutP m e more p up):Int)+cutU m e p
  ·refine .inr ⟨hov,?_⟩
   unfold cutD cutE
   rw [hout,hO,decide_eq_true hov]
   cases up
   ·exact .inr ⟨rfl,rfl,rfl⟩
   ·exact .inl ⟨rfl,rfl,rfl⟩
  ·refine .inl ⟨by omega,?_,?_⟩
   ·unfold cutD
    rw [hout,hO,decide_eq_false hov,if_neg (by decide),hQ,heK]
   ·unfold cutE
    rw [hout,hO,decide_eq_false hov]; simp
theorem cutP_bits {m:Nat} {e:Int} {more:Bool} {p:Nat} {up:Bool} (h0:m ≠ 0):bitsN (cutP m e more p up) ≤ p+1:=by
 unfold cutP
 split
 ·rename_i h
  rw [bitsN_mul_pow h0]
  unfold cutU at h ⊢; omega
 ·rename_i h
  have h1:m / 2 ^ (cutU m e p - e).toNat < 2 ^ p:=by
   rw [Nat.div_lt_iff_lt_mul (Nat.pow_pos (by decide)),← Nat.pow_add]
   refine bitsN_le_iff.1 ?_
   unfold cutU at h ⊢; omega
  refine bitsN_le_iff.2 ?_
  rw [Nat.pow_succ]
  have:0 < 2 ^ p:=Nat.pow_pos (by decide)
  split <;> omega
theorem limbs_of_bits {m k:Nat} (h:bitsN m ≤ 32 * k):(limbs m).length ≤ k:=by
 refine limbs_length_le ?_
 rw [pow32]
 exact bitsN_le_iff.1 h
theorem bits_of_limbs {m k:Nat} (h:(limbs m).length ≤ k):bitsN m ≤ 32 * k:=by
 have:=lt_of_limbs_length h
 rw [pow32] at this
 exact bitsN_le_iff.2 this
theorem div_pow_bits {m n:Nat} (h:bitsN m ≤ n):m / 2 ^ n=0 ∧ m % 2 ^ n=m:=by
 have:=bitsN_le_iff.1 h
 exact ⟨Nat.div_eq_of_lt this,Nat.mod_eq_of_lt this⟩
theorem lost_cmp (m n:Nat):(cmpN (m / 2 ^ n * 2 ^ n) m != 0)=decide (m % 2 ^ n ≠ 0):=by
 have h:=Nat.div_add_mod m (2 ^ n)
 rw [Nat.mul_comm] at h
 unfold cmpN
 by_cases h0:m % 2 ^ n=0
 ·rw [if_neg (by omega),if_neg (by omega)]; simp [h0]
 ·rw [if_pos (by omega)]; simp [h0]
theorem cut_signed (neg:Bool) (m:Nat) (e:Int) (more:Bool) (p:Nat) (up:Bool) :
  cutE neg m e more p up=cutE false m e more p (up != neg) ∧
  (cutE false m e more p (up != neg)=0 → neg=true → negD (cutD false m e more p (up != neg))=cutD neg m e more p up) ∧
  ((cutE false m e more p (up != neg) ≠ 0 ∨ neg=false) → cutD false m e more p (up != neg)=cutD neg m e more p up):=by
 have hout:(false != (up != neg))=(neg != up):=by cases up <;> cases neg <;> rfl
 have hE:cutE neg m e more p up=cutE false m e more p (up != neg):=by unfold cutE; rw [hout]
 refine ⟨hE,fun h hn=>?_,fun h=>?_⟩
 ·have h':=cutE_zero.1 h
  rw [hout] at h'
  have neg_canon:∀ q u,negD (canon false q u)=canon true q u:=by
   intro q u
   unfold canon negD
   by_cases hq:q=0
   ·simp [hq]
   ·rw [if_neg hq,if_neg hq]
    have:=odd_div_ctz hq
    have h0:q / 2 ^ ctzN q ≠ 0:=by omega
    simp [h0]
  subst hn
  unfold cutD
  rw [hout]
  by_cases ho:cutOver m e more p (true != up)=true
  ·have hu:(true != up)=false:=by
    cases hq:(true != up) with
    | false=>rfl
    | true=>exact absurd ⟨ho,hq⟩ h'
   rw [if_pos ho,if_pos ho,hu]
   simp only [Bool.false_eq_true,if_false]
   exact neg_canon _ _
  ·rw [if_neg ho,if_neg ho]
   exact neg_canon _ _
 ·rcases h with h | h
  ·have h1:cutOver m e more p (neg != up)=true ∧ (neg != up)=true:=by
    by_cases q:cutOver m e more p (neg != up)=true ∧ (neg != up)=true
    ·exact q
    ·exact absurd (cutE_zero.2 (by rw [hout]; exact q)) h
   unfold cutD
   rw [hout,if_pos h1.1,if_pos h1.2,if_pos h1.1,if_pos h1.2]
  ·subst h
   cases up <;> rfl
def rlow (a b:Dy) (p:Nat):Int:=if a.top - b.top ≤ 2 then min (min a.e (a.top - p - 8)) b.e else min a.e (a.top - p - 8)
def rsX (a b:Dy) (p:Nat):Nat:=a.m * 2 ^ (a.e - rlow a b p).toNat
def rsY (a b:Dy) (p:Nat):Nat:=yOf b (rlow a b p)+if (a.neg != b.neg && lostOf b (rlow a b p))=true then 1 else 0
def rsT (a b:Dy) (p:Nat):Bool:=(a.neg != b.neg) && decide (rsX a b p < rsY a b p)
def rsM (a b:Dy) (p:Nat):Nat:=if a.neg=b.neg then rsX a b p+rsY a b p else if rsX a b p < rsY a b p then rsY a b p - rsX a b p else rsX a b p - rsY a b p
def rsL (a b:Dy) (p:Nat):Bool:=lostOf b (rlow a b p) && !rsT a b p
theorem rlow_spec (a b:Dy) (p:Nat):rlow a b p ≤ a.e ∧ rlow a b p ≤ a.top - p - 8 ∧ (rlow a b p ≤ b.e ∨ 3 ≤ a.top - b.top):=by
 unfold rlow; split <;> omega
theorem top_of {a:Dy} (a0:a.m ≠ 0):a.top=bitsN a.m+a.e:=by unfold Dy.top; rw [if_neg a0]
structure SumSize (a b:Dy) (p:Nat):Prop where
 lo:-17000 ≤ rlow a b p
 hi:rlow a b p ≤ 16384
 x:bitsN (rsX a b p) ≤ 4100
 x0:rsX a b p ≠ 0
 sh:(a.e - rlow a b p).toNat ≤ 60000
 sh2:(b.e - rlow a b p).toNat ≤ 60000
 sh3:(rlow a b p - b.e).toNat ≤ 60000
 y:bitsN (yOf b (rlow a b p)) ≤ 4100
 l:lostOf b (rlow a b p)=true → p+8 ≤ bitsN (rsX a b p) ∧ bitsN (yOf b (rlow a b p))+3 ≤ bitsN (rsX a b p)
theorem sum_size {a b:Dy} {p:Nat} (ha:a.Valid) (hb:b.Valid) (a0:a.m ≠ 0) (b0:b.m ≠ 0) (ht:b.top ≤ a.top) (hp2:p ≤ 512):SumSize a b p:=by
 have ra:=ha.range.resolve_left a0
 have rb:=hb.range.resolve_left b0
 have ta:=top_of a0
 have tb:=top_of b0
 obtain ⟨h1,h2,h3⟩:=rlow_spec a b p
 have hx:bitsN (rsX a b p)=bitsN a.m+(a.e - rlow a b p).toNat:=bitsN_mul_pow a0 _
 have hlow:rlow a b p=a.e ∨ rlow a b p=a.top - p - 8 ∨ (a.top - b.top ≤ 2 ∧ rlow a b p=b.e):=by unfold rlow; split <;> omega
 have hy:bitsN (yOf b (rlow a b p)) ≤ bitsN (rsX a b p):=by
  unfold yOf
  split
  ·rw [bitsN_mul_pow b0]; omega
  ·have:bitsN (b.m / 2 ^ (rlow a b p - b.e).toNat) ≤ bitsN b.m - (rlow a b p - b.e).toNat:=by
    rw [bitsN_le_iff,Nat.div_lt_iff_lt_mul (Nat.pow_pos (by decide)),← Nat.pow_add]
    exact bitsN_le_iff.1 (by omega)
   omega
 have pa:=bitsN_pos a0
 have pb:=bitsN_pos b0
 refine ⟨by omega,by omega,by omega,?_,by omega,by omega,by omega,by omega,fun hl=>?_⟩
 ·intro h
  unfold rsX at h
  exact (Nat.mul_ne_zero a0 (Nat.ne_of_gt (Nat.pow_pos (by decide)))) h
 ·obtain ⟨K,d,k1,k2,k3,k4,k5,k6,k7⟩:=rsum_parts (p:=p) a0 b0 h1 h2 h3
  rcases k7 with rfl | ⟨k7,k8⟩
  ·rw [k6] at hl; simp [Nat.mod_one] at hl
  ·rw [k5]; exact ⟨k7,k8⟩
theorem sum_parts {a b:Dy} {p:Nat} (ha:a.Valid) (hb:b.Valid) (a0:a.m ≠ 0) (b0:b.m ≠ 0) (ht:b.top ≤ a.top) (hp2:p ≤ 512) :
  bitsN (rsY a b p) ≤ 4101 ∧ bitsN (rsM a b p) ≤ 4102 ∧ (rsL a b p=true → p < bitsN (rsM a b p)):=by
 obtain ⟨l1,l2,l3,l4,l5,l6,l7,l8,l9⟩:=sum_size ha hb a0 b0 ht hp2
 have hy:rsY a b p ≤ yOf b (rlow a b p)+1:=by unfold rsY; split <;> omega
 obtain ⟨K,hK⟩:∃ K:Nat,K=4100:=⟨_,rfl⟩
 have g1:4101=K+1:=by omega
 have g2:4102=K+2:=by omega
 rw [g1,g2]
 rw [← hK] at l3 l8
 have hy4:yOf b (rlow a b p) < 2 ^ K:=bitsN_le_iff.1 l8
 have hx4:rsX a b p < 2 ^ K:=bitsN_le_iff.1 l3
 have e1:(2:Nat) ^ (K+1)=2 * 2 ^ K:=by rw [Nat.pow_succ]; omega
 have e2:(2:Nat) ^ (K+2)=4 * 2 ^ K:=by rw [Nat.pow_add]; omega
 generalize (2:Nat) ^ K=Z at *
 refine ⟨bitsN_le_iff.2 (by omega),bitsN_le_iff.2 ?_,fun hl=>?_⟩
 ·unfold rsM; split
  ·omega
  ·split <;> omega
 ·unfold rsL at hl
  simp only [Bool.and_eq_true,Bool.not_eq_true'] at hl
  obtain ⟨q1,q2⟩:=l9 hl.1
  have hX:2 ^ (bitsN (rsX a b p) - 1) ≤ rsX a b p:=two_pow_le_of_bitsN l4
  rw [lt_bitsN_iff]
  have hY:yOf b (rlow a b p) < 2 ^ (bitsN (rsX a b p) - 3):=bitsN_le_iff.1 (by omega)
  have e3:(2:Nat) ^ (bitsN (rsX a b p) - 1)=4 * 2 ^ (bitsN (rsX a b p) - 3):=by
   rw [show bitsN (rsX a b p) - 1=(bitsN (rsX a b p) - 3)+2 by omega,Nat.pow_add]; omega
  have hp:(2:Nat) ^ p ≤ 2 ^ (bitsN (rsX a b p) - 3):=Nat.pow_le_pow_right (by decide) (by omega)
  unfold rsM
  split
  ·omega
  ·rename_i hs
   unfold rsT at hl
   rw [if_neg (by
    have:=hl.2
    simp [hs] at this
    omega)]
   omega
theorem sum_law {a b:Dy} {p:Nat} (ha:a.Valid) (hb:b.Valid) (a0:a.m ≠ 0) (b0:b.m ≠ 0) (up:Bool) :
  (rsM a b p=0 ∧ rsL a b p=false → sumD a b=zeroD) ∧
  (¬ (rsM a b p=0 ∧ rsL a b p=false) → cutD (a.neg != rsT a b p) (rsM a b p) (rlow a b p) (rsL a b p) p up=rndD (sumD a b) p up ∧ cutE (a.neg != rsT a b p) (rsM a b p) (rlow a b p) (rsL a b p) p up=rndE (sumD a b) p up):=by
 obtain ⟨h1,h2,h3⟩:=rlow_spec a b p
 by_cases hs:a.neg=b.neg
 ·have hn:(a.neg != b.neg)=false:=by rw [hs]; simp
  have e1:rsT a b p=false:=by unfold rsT; rw [hn]; rfl
  have e2:rsL a b p=lostOf b (rlow a b p):=by unfold rsL; rw [e1]; simp
  have e3:rsM a b p=a.m * 2 ^ (a.e - rlow a b p).toNat+yOf b (rlow a b p):=by unfold rsM; rw [if_pos hs]; unfold rsX rsY; rw [hn]; simp
  have hx:rsM a b p ≠ 0:=by
   rw [e3]
   have:=Nat.mul_ne_zero a0 (Nat.ne_of_gt (Nat.pow_pos (n:=(a.e - rlow a b p).toNat) (show 0 < 2 by decide)))
   omega
  refine ⟨fun h=>absurd h.1 hx,fun _=>?_⟩
  rw [e1,e2,e3]
  have:=rsum_same ha.canon hb.canon a0 b0 h1 h2 h3 hs up
  cases hA:a.neg <;> rw [hA] at this <;> exact this
 ·have hn:(a.neg != b.neg)=true:=by simpa using hs
  have eY:rsY a b p=yOf b (rlow a b p)+if lostOf b (rlow a b p)=true then 1 else 0:=by unfold rsY; rw [hn]; simp
  obtain ⟨r1,r2⟩:=rsum_diff (p:=p) ha.canon hb.canon a0 b0 h1 h2 h3 hs up
  rw [← eY] at r1 r2
  change rsX a b p < rsY a b p → _ at r1
  change rsY a b p ≤ rsX a b p → _ at r2
  by_cases hc:rsX a b p < rsY a b p
  ·have e1:rsT a b p=true:=by unfold rsT; rw [hn,decide_eq_true hc]; rfl
   have e2:rsL a b p=false:=by unfold rsL; rw [e1]; simp
   have e3:rsM a b p=rsY a b p - rsX a b p:=by unfold rsM; rw [if_neg hs,if_pos hc]
   rw [e1,e2,e3]
   refine ⟨fun h=>by omega,fun _=>?_⟩
   have:=r1 hc
   cases hA:a.neg <;> rw [hA] at this <;> exact this
  ·have e1:rsT a b p=false:=by unfold rsT; rw [hn,decide_eq_false hc]; rfl
   have e2:rsL a b p=lostOf b (rlow a b p):=by unfold rsL; rw [e1]; simp
   have e3:rsM a b p=rsX a b p - rsY a b p:=by unfold rsM; rw [if_neg hs,if_neg hc]
   rw [e1,e2,e3]
   obtain ⟨q1,q2⟩:=r2 (by omega)
   refine ⟨q1,fun h=>?_⟩
   have:=q2 h
   cases hA:a.neg <;> rw [hA] at this <;> exact this
end Go.Proofs.YtkbjkchapnjhgaaGreatDoor.Fp
namespace Go.Proofs.YtkbjkchapnjhgaaGreatDoor
open Go.RowKit Fp
theorem bitsN_mul_le (a b:Nat):bitsN (a * b) ≤ bitsN a+bitsN b:=by
 rw [bitsN_le_iff,Nat.pow_add]
 exact Nat.mul_lt_mul'' (lt_two_pow_bitsN a) (lt_two_pow_bitsN b)
theorem refValid_dy (a:Dy) (A:Option Addr) (c:Nat) (w:World) (h:Sl w A c (limbs a.m)) (ha:a.Valid) :
  Calls Tryz.prog 6 #[DV a A c] w fun e w'=>e = .returned (.bool true) ∧ Ext w w' :=
 refValid_any a.neg A c (limbs a.m) a.e w true h (by have:=ha.exp; omega) (by have:=ha.exp; omega) (by simp [ha.dok])
theorem refSign_dy (a:Dy) (A:Option Addr) (c:Nat) (w:World) (h:Sl w A c (limbs a.m)) :
  Calls Tryz.prog 7 #[DV a A c] w fun e w'=>e = .returned (.int .i64 a.sign) ∧ Ext w w':=by
 have:=refSign_any a.neg A c (limbs a.m) a.e w h (trim_limbs _)
 rw [val_limbs] at this
 exact this
theorem refTop_dy (a:Dy) (A:Option Addr) (c:Nat) (w:World) (h:Sl w A c (limbs a.m)) (ha:Near a) :
  Calls Tryz.prog 20 #[DV a A c] w fun e w'=>e = .returned (.int .i64 a.top) ∧ Ext w w':=by
 have:=refTop_any a.neg A c (limbs a.m) a.e w h (trim_limbs _) (by have:=ha.len; omega) (by have:=ha.lo; omega) (by have:=ha.hi; omega)
 rw [val_limbs] at this
 exact this
open Go.RowKit Fp
theorem checked_any (d:Dy) (A:Option Addr) (c:Nat) (w:World) (hs:Sl w A c (limbs d.m)) (hl:(limbs d.m).length ≤ 100000000) (he1:-10000000 ≤ d.e) (he2:d.e ≤ 10000000) :
  Calls Tryz.prog 75 #[DV d A c] w (RetDE w (chk d) (chkE d)):=by
 by_cases hd:inRange d
 ·rw [chk_yes hd,chkE_yes hd]; exact checked_yes d A c w hs hl he1 he2 hd
 ·rw [chk_no hd,chkE_no hd]; exact checked_no d A c w hs hl he1 he2 hd
theorem canon_le (s:Bool) (m:Nat) (e:Int) {n:Nat} (hm:(limbs m).length ≤ n):(limbs (canon s m e).m).length ≤ n ∧ e ≤ max (canon s m e).e e ∧ ((canon s m e).e ≤ max 0 (e+32 * n)) ∧ min 0 e ≤ (canon s m e).e:=by
 unfold canon
 by_cases h0:m=0
 ·rw [if_pos h0]; simp only [limbs_zero]
  exact ⟨Nat.zero_le _,by omega,by omega,by omega⟩
 ·rw [if_neg h0]
  have h1:ctzN m < 32 * n:=by
   have h1:=pow_ctz_le h0
   have h2:=lt_of_limbs_length hm
   rw [pow32] at h2
   exact (Nat.pow_lt_pow_iff_right (by decide:1 < 2)).1 (Nat.lt_of_le_of_lt h1 h2)
  exact ⟨Nat.le_trans (limbs_len_mono (Nat.div_le_self _ _)) hm,by omega,by simp only; omega,by simp only; omega⟩
theorem canonical_dy (s:Bool) (m:Nat) (e:Int) (A:Option Addr) (c:Nat) (w:World) (hs:Sl w A c (limbs m)) (hl:(limbs m).length ≤ 256) (he1:-1000000 ≤ e) (he2:e ≤ 1000000) (hTb:Tb w) :
  Calls Tryz.prog 76 #[.bool s,.slice A (limbs m).length c,.int .i64 e] w (RetD w (canon s m e)):=by
 have:=dyCanon_any s A c (limbs m) e w hs (by omega) (by have:=tlen_le (limbs m); unfold tlen at this; omega) he1 he2 hTb
 rw [val_limbs] at this
 exact this
theorem nil_len {m:Nat} (h:m=0):(((limbs m).length:Int) == 0)=true:=by rw [h,limbs_zero]; rfl
theorem pos_len {m:Nat} (h:m ≠ 0):(((limbs m).length:Int) == 0)=false:=by
 refine beq_eq_false_iff_ne.2 ?_
 have:limbs m ≠ []:=fun e=>h (limbs_eq_nil.1 e)
 have:=List.length_pos_iff.2 this
 omega
set_option maxHeartbeats 4000000 in
theorem dySum_a0 (a b:Dy) (A B:Option Addr) (c d:Nat) (w:World) (_hs:Sl w A c (limbs a.m)) (hr:Sl w B d (limbs b.m)) (hTb:Tb w) (hb:b.Valid) (h0:a.m=0) :
  Calls Tryz.prog 104 #[DV a A c,DV b B d] w (RetDE w (chk (sumD a b)) (chkE (sumD a b))):=by
 have hsum:sumD a b=b:=by unfold sumD; rw [if_pos h0]
 rw [hsum,chk_yes hb.range,chkE_yes hb.range]
 have hl:=hb.len
 obtain ⟨he1,he2⟩:=hb.exp
 have HC:=Lib.hid (fun w (h:Sl w B d (limbs b.m)) (ht:Tb w)=>canonical_dy b.neg b.m b.e B d w h hl (by omega) (by omega) ht)
 rw [hb.canon.canon_eq] at HC
 have n0:=nil_len h0
 clear hsum h0
 have hE:=((Ext.alloc w (.cells #[.bool b.neg,.slice B ((limbs b.m).length) d,.int .i64 b.e] 24)).trans (Ext.alloc (w.alloc (.cells #[.bool b.neg,.slice B ((limbs b.m).length) d,.int .i64 b.e] 24)) (.cells #[.bool b.neg,.slice B ((limbs b.m).length) d,.int .i64 b.e] 24))).trans (Ext.alloc ((w.alloc (.cells #[.bool b.neg,.slice B ((limbs b.m).length) d,.int .i64 b.e] 24)).alloc (.cells #[.bool b.neg,.slice B ((limbs b.m).length) d,.int .i64 b.e] 24)) (.cells #[.bool false,.slice none 0 0,.int .i64 0] 24))
 have b1:=((Box3.newAt (W:=w) (g:=w.heap.size) (by simp) b.neg B ((limbs b.m).length) d b.e).alloc (.cells #[.bool b.neg,.slice B ((limbs b.m).length) d,.int .i64 b.e] 24)).alloc (.cells #[.bool false,.slice none 0 0,.int .i64 0] 24)
 have b2:=(Box3.newAt (W:=(w.alloc (.cells #[.bool b.neg,.slice B ((limbs b.m).length) d,.int .i64 b.e] 24))) (g:=w.heap.size+1) (by simp) b.neg B ((limbs b.m).length) d b.e).alloc (.cells #[.bool false,.slice none 0 0,.int .i64 0] 24)
 have b3:=Box3.newAt (W:=((w.alloc (.cells #[.bool b.neg,.slice B ((limbs b.m).length) d,.int .i64 b.e] 24)).alloc (.cells #[.bool b.neg,.slice B ((limbs b.m).length) d,.int .i64 b.e] 24))) (g:=w.heap.size+2) (by simp) false none 0 0 0
 replace hr:=hr.below hE; replace hTb:=hTb.below hE
 go_enter Tryz.func104,Tryz.ntmps104
 go_wp2_with fail
 (with_reducible refine (HC.out _ hr hTb).mono ?_)
 rintro r w1 ⟨A_h4,c_h4,rfl,h4,hb⟩
 replace hE:=hE.trans hb; replace hr:=hr.below hb; replace hTb:=hTb.below hb; replace b1:=b1.ext hb; replace b2:=b2.ext hb; replace b3:=b3.ext hb
 clear hb
 have xb30:=b3.c0; have yb30:=b3.fr 0; have xb31:=b3.c1; have yb31:=b3.fr 1; have xb32:=b3.c2; have yb32:=b3.fr 2
 go_wp2
 exact dy_rete (d:=b) rfl rfl rfl rfl (b3.set _ _ _ _ _) rfl (b3.set_sl h4 _ _ _ _ _) (Box3.set_ext hE (by omega) _ _ _ _ _)
set_option maxHeartbeats 4000000 in
theorem dySum_b0 (a b:Dy) (A B:Option Addr) (c d:Nat) (w:World) (hs:Sl w A c (limbs a.m)) (hTb:Tb w) (ha:a.Valid) (h1:a.m ≠ 0) (h0:b.m=0) :
  Calls Tryz.prog 104 #[DV a A c,DV b B d] w (RetDE w (chk (sumD a b)) (chkE (sumD a b))):=by
 have hsum:sumD a b=a:=by unfold sumD; rw [if_neg h1,if_pos h0]
 rw [hsum,chk_yes ha.range,chkE_yes ha.range]
 have hl:=ha.len
 obtain ⟨he1,he2⟩:=ha.exp
 have HC:=Lib.hid (fun w (h:Sl w A c (limbs a.m)) (ht:Tb w)=>canonical_dy a.neg a.m a.e A c w h hl (by omega) (by omega) ht)
 rw [ha.canon.canon_eq] at HC
 have n0:=nil_len h0
 have n1:=pos_len h1
 clear hsum h0 h1
 have hE:=((Ext.alloc w (.cells #[.bool a.neg,.slice A ((limbs a.m).length) c,.int .i64 a.e] 24)).trans (Ext.alloc (w.alloc (.cells #[.bool a.neg,.slice A ((limbs a.m).length) c,.int .i64 a.e] 24)) (.cells #[.bool b.neg,.slice B ((limbs b.m).length) d,.int .i64 b.e] 24))).trans (Ext.alloc ((w.alloc (.cells #[.bool a.neg,.slice A ((limbs a.m).length) c,.int .i64 a.e] 24)).alloc (.cells #[.bool b.neg,.slice B ((limbs b.m).length) d,.int .i64 b.e] 24)) (.cells #[.bool false,.slice none 0 0,.int .i64 0] 24))
 have b1:=((Box3.newAt (W:=w) (g:=w.heap.size) (by simp) a.neg A ((limbs a.m).length) c a.e).alloc (.cells #[.bool b.neg,.slice B ((limbs b.m).length) d,.int .i64 b.e] 24)).alloc (.cells #[.bool false,.slice none 0 0,.int .i64 0] 24)
 have b2:=(Box3.newAt (W:=(w.alloc (.cells #[.bool a.neg,.slice A ((limbs a.m).length) c,.int .i64 a.e] 24))) (g:=w.heap.size+1) (by simp) b.neg B ((limbs b.m).length) d b.e).alloc (.cells #[.bool false,.slice none 0 0,.int .i64 0] 24)
 have b3:=Box3.newAt (W:=((w.alloc (.cells #[.bool a.neg,.slice A ((limbs a.m).length) c,.int .i64 a.e] 24)).alloc (.cells #[.bool b.neg,.slice B ((limbs b.m).length) d,.int .i64 b.e] 24))) (g:=w.heap.size+2) (by simp) false none 0 0 0
 replace hs:=hs.below hE; replace hTb:=hTb.below hE
 go_enter Tryz.func104,Tryz.ntmps104
 go_wp2_with fail
 (with_reducible refine (HC.out _ hs hTb).mono ?_)
 rintro r w1 ⟨A_h4,c_h4,rfl,h4,hb⟩
 replace hE:=hE.trans hb; replace hs:=hs.below hb; replace hTb:=hTb.below hb; replace b1:=b1.ext hb; replace b2:=b2.ext hb; replace b3:=b3.ext hb
 clear hb
 have xb30:=b3.c0; have yb30:=b3.fr 0; have xb31:=b3.c1; have yb31:=b3.fr 1; have xb32:=b3.c2; have yb32:=b3.fr 2
 go_wp2
 exact dy_rete (d:=a) rfl rfl rfl rfl (b3.set _ _ _ _ _) rfl (b3.set_sl h4 _ _ _ _ _) (Box3.set_ext hE (by omega) _ _ _ _ _)
theorem dyTop_dy (a:Dy) (A:Option Addr) (c:Nat) (w:World) (h:Sl w A c (limbs a.m)) (ha:a.Valid) :
  Calls Tryz.prog 119 #[DV a A c] w fun e w'=>e = .returned (.int .i64 a.top) ∧ Ext w w':=by
 have:=dyTop_any a.neg A c (limbs a.m) a.e w h ha.dok
 rw [val_limbs] at this
 exact this
def SlV (L:List Nat) (w:World) (v:Value):Prop:=∃ A c,v = .slice A L.length c ∧ Sl w A c L
theorem zero_rete {fn:Func} {p t:Tmp} (h:fn.results = #[.cell p 24,.tmp t]) {a:Act} {w W:World} {k:Int} {g:Nat}
  (hp:a.tmps.getD p undef = .pointer (some ⟨g,0,none⟩)) (ht:a.tmps.getD t undef = .int .i64 k) (hd:a.defers=[]) (hb:Box3 W g false none 0 0 0) (he:Ext w W) :
  bodyPost Tryz.prog fn (RetDE w zeroD k) .ret a W :=
 dy_rete (d:=zeroD) h hp ht hd hb (by rw [show zeroD.m=0 from rfl,limbs_zero]; rfl) (by rw [show zeroD.m=0 from rfl,limbs_zero]; exact Sl.nil _) he
set_option maxRecDepth 100000 in
set_option maxHeartbeats 8000000 in
theorem dySum_nz (a b:Dy) (A B:Option Addr) (c d:Nat) (w:World) (hs:Sl w A c (limbs a.m)) (hr:Sl w B d (limbs b.m)) (hTb:Tb w) (ha:a.Valid) (hb:b.Valid) (a0:a.m ≠ 0) (b0:b.m ≠ 0) :
  Calls Tryz.prog 104 #[DV a A c,DV b B d] w (RetDE w (chk (sumD a b)) (chkE (sumD a b))):=by
 have n1:=pos_len a0
 have n2:=pos_len b0
 have la:=ha.len
 have lb:=hb.len
 obtain ⟨ea1,ea2⟩:=ha.exp
 obtain ⟨eb1,eb2⟩:=hb.exp
 obtain ⟨k,hk⟩:∃ k,min a.e b.e=k:=⟨_,rfl⟩
 have hka:k ≤ a.e:=by omega
 have hkb:k ≤ b.e:=by omega
 have hk1:-16384 ≤ k:=by omega
 have hk2:k ≤ 16384:=by omega
 have HTa:=Lib.hid (fun w (h:Sl w A c (limbs a.m))=>dyTop_dy a A c w h ha)
 have HTb:=Lib.hid (fun w (h:Sl w B d (limbs b.m))=>dyTop_dy b B d w h hb)
 have HBIG:=Lib.hid (fun h1 h2=>sum_big ha hb a0 b0 hk h1 h2)
 have HFIT:=Lib.hid (fun h=>sum_fits ha hb a0 b0 hk h)
 have HS1:=Lib.hid (fun (h:a.neg=b.neg)=>show sumD a b=canon a.neg (a.m * 2 ^ (a.e - k).toNat+b.m * 2 ^ (b.e - k).toNat) k from by
  have:=sumD_same (s:=a.neg) a0 b0 hk
  rw [← this,show (⟨a.neg,b.m,b.e⟩:Dy)=b by rw [h]])
 have HS2:=Lib.hid (fun (h:a.neg ≠ b.neg) (hge:b.m * 2 ^ (b.e - k).toNat ≤ a.m * 2 ^ (a.e - k).toNat)=>sumD_ge a0 b0 hk h hge)
 have HS3:=Lib.hid (fun (h:a.neg ≠ b.neg) (hge:a.m * 2 ^ (a.e - k).toNat < b.m * 2 ^ (b.e - k).toNat)=>sumD_lt a0 b0 hk h hge)
 have hta:-16384 ≤ a.top ∧ a.top ≤ 16384:=by unfold Dy.top; rw [if_neg a0]; have:=ha.top_le a0; omega
 have htb:-16384 ≤ b.top ∧ b.top ≤ 16384:=by unfold Dy.top; rw [if_neg b0]; have:=hb.top_le b0; omega
 obtain ⟨hta1,hta2⟩:=hta
 obtain ⟨htb1,htb2⟩:=htb
 obtain ⟨S,hS⟩:∃ S,sumD a b=S:=⟨_,rfl⟩
 rw [hS] at HBIG HS1 ⊢
 have HS2:=Lib.hid (fun h h'=>hS ▸ HS2.out h h')
 have HS3:=Lib.hid (fun h h'=>hS ▸ HS3.out h h')
 have HXa:=Lib.hid (fun w (h:Sl w A c (limbs a.m)) (hf:(limbs (a.m * 2 ^ (a.e - k).toNat)).length ≤ 256)=>shifted_int A c (limbs a.m) (a.e - k) w h la (by omega) (by omega) (by rw [val_limbs]; exact hf))
 have HXb:=Lib.hid (fun w (h:Sl w B d (limbs b.m)) (hf:(limbs (b.m * 2 ^ (b.e - k).toNat)).length ≤ 256)=>shifted_int B d (limbs b.m) (b.e - k) w h lb (by omega) (by omega) (by rw [val_limbs]; exact hf))
 rw [val_limbs] at HXa HXb
 generalize a.m * 2 ^ (a.e - k).toNat=x at *
 generalize b.m * 2 ^ (b.e - k).toNat=y at *
 generalize a.top=ta at *
 generalize b.top=tb at *
 obtain ⟨mx,hmx⟩:∃ mx,max ta tb=mx:=⟨_,rfl⟩
 have hm1:-16384 ≤ mx ∧ mx ≤ 16384:=by omega
 obtain ⟨hm1,hm2⟩:=hm1
 rw [hmx] at HBIG HFIT
 have hTb0:=hTb
 have hs0:=hs
 have hr0:=hr
 clear a0 b0 hS
 have hE:=((Ext.alloc w (.cells #[.bool a.neg,.slice A ((limbs a.m).length) c,.int .i64 a.e] 24)).trans (Ext.alloc (w.alloc (.cells #[.bool a.neg,.slice A ((limbs a.m).length) c,.int .i64 a.e] 24)) (.cells #[.bool b.neg,.slice B ((limbs b.m).length) d,.int .i64 b.e] 24))).trans (Ext.alloc ((w.alloc (.cells #[.bool a.neg,.slice A ((limbs a.m).length) c,.int .i64 a.e] 24)).alloc (.cells #[.bool b.neg,.slice B ((limbs b.m).length) d,.int .i64 b.e] 24)) (.cells #[.bool false,.slice none 0 0,.int .i64 0] 24))
 have b1:=((Box3.newAt (W:=w) (g:=w.heap.size) (by simp) a.neg A ((limbs a.m).length) c a.e).alloc (.cells #[.bool b.neg,.slice B ((limbs b.m).length) d,.int .i64 b.e] 24)).alloc (.cells #[.bool false,.slice none 0 0,.int .i64 0] 24)
 have b2:=(Box3.newAt (W:=(w.alloc (.cells #[.bool a.neg,.slice A ((limbs a.m).length) c,.int .i64 a.e] 24))) (g:=w.heap.size+1) (by simp) b.neg B ((limbs b.m).length) d b.e).alloc (.cells #[.bool false,.slice none 0 0,.int .i64 0] 24)
 have b3:=Box3.newAt (W:=((w.alloc (.cells #[.bool a.neg,.slice A ((limbs a.m).length) c,.int .i64 a.e] 24)).alloc (.cells #[.bool b.neg,.slice B ((limbs b.m).length) d,.int .i64 b.e] 24))) (g:=w.heap.size+2) (by simp) false none 0 0 0
 replace hs:=hs.below hE; replace hr:=hr.below hE; replace hTb:=hTb.below hE
 go_enter Tryz.func104,Tryz.ntmps104
 have xb10:=b1.c0; have xb11:=b1.c1; have xb12:=b1.c2
 have xb20:=b2.c0; have xb21:=b2.c1; have xb22:=b2.c2
 go_upto_region 6 with fail
 clear xb10 xb11 xb12 xb20 xb21 xb22
 obtain ⟨W1,hW⟩:∃ W,(((w.alloc (.cells #[.bool a.neg,.slice A ((limbs a.m).length) c,.int .i64 a.e] 24)).alloc (.cells #[.bool b.neg,.slice B ((limbs b.m).length) d,.int .i64 b.e] 24)).alloc (.cells #[.bool false,.slice none 0 0,.int .i64 0] 24))=W:=⟨_,rfl⟩
 rw [hW] at hs hr hTb b1 b2 b3 hE ⊢
 clear hW
 go_cut [7,8] (fun s0 s1 wx=>s0=(.int .i64 ta) ∧ s1=(.int .i64 tb) ∧ Ext W1 wx)
 case first =>
  have b1':=b1.drew; have b2':=b2.drew; have hs':=hs.drew; have hr':=hr.drew
  go_region_held3 (fun w'=>w'.cell? ⟨w.heap.size,0,none⟩=some (.bool a.neg) ∧ w'.cell? ⟨w.heap.size,1,none⟩=some (.slice A ((limbs a.m).length) c) ∧ w'.cell? ⟨w.heap.size,2,none⟩=some (.int .i64 a.e) ∧ w'.cell? ⟨w.heap.size+1,0,none⟩=some (.bool b.neg) ∧ w'.cell? ⟨w.heap.size+1,1,none⟩=some (.slice B ((limbs b.m).length) d) ∧ w'.cell? ⟨w.heap.size+1,2,none⟩=some (.int .i64 b.e))
   (first | with_reducible exact ⟨(b1').c0,(b1').c1,(b1').c2,(b2').c0,(b2').c1,(b2').c2⟩ | with_reducible exact ⟨(b1'.ext hb0).c0,(b1'.ext hb0).c1,(b1'.ext hb0).c2,(b2'.ext hb0).c0,(b2'.ext hb0).c1,(b2'.ext hb0).c2⟩ | with_reducible exact ⟨(b1'.ext hb1).c0,(b1'.ext hb1).c1,(b1'.ext hb1).c2,(b2'.ext hb1).c0,(b2'.ext hb1).c1,(b2'.ext hb1).c2⟩ | with_reducible exact ⟨(b1'.ext (hb0.trans hb1)).c0,(b1'.ext (hb0.trans hb1)).c1,(b1'.ext (hb0.trans hb1)).c2,(b2'.ext (hb0.trans hb1)).c0,(b2'.ext (hb0.trans hb1)).c1,(b2'.ext (hb0.trans hb1)).c2⟩ | with_reducible exact ⟨(b1'.ext (hb1.trans hb0)).c0,(b1'.ext (hb1.trans hb0)).c1,(b1'.ext (hb1.trans hb0)).c2,(b2'.ext (hb1.trans hb0)).c0,(b2'.ext (hb1.trans hb0)).c1,(b2'.ext (hb1.trans hb0)).c2⟩)
   (first
    | (go_at_call_of 119 (Value.agg #[.bool a.neg,.slice A (limbs a.m).length c,.int .i64 a.e]); (first | (with_reducible refine (HTa.out _ hs').mono ?_) | (with_reducible refine (HTa.out _ (hs'.below hb1)).mono ?_)); rintro r wx0 ⟨rfl,hb0⟩)
    | (go_at_call_of 119 (Value.agg #[.bool b.neg,.slice B (limbs b.m).length d,.int .i64 b.e]); (first | (with_reducible refine (HTb.out _ hr').mono ?_) | (with_reducible refine (HTb.out _ (hr'.below hb0)).mono ?_)); rintro r wx1 ⟨rfl,hb1⟩))
  all_goals (go_wp2_with fail; go_meet; (first | exact ⟨rfl,rfl,(Ext.drew _).trans (hb0.trans hb1)⟩ | exact ⟨rfl,rfl,(Ext.drew _).trans (hb1.trans hb0)⟩))
 obtain ⟨rfl,rfl,hb⟩:=hcut
 replace hE:=hE.trans hb; replace hs:=hs.below hb; replace hr:=hr.below hb; replace hTb:=hTb.below hb; replace b1:=b1.ext hb; replace b2:=b2.ext hb; replace b3:=b3.ext hb
 clear hb
 go_upto_region 7 with fail
 go_cut [63] (fun s wx=>s = .bool (decide (4097 < mx - k ∧ (1 < ta - tb ∨ 1 < tb - ta))) ∧ wx=wc)
 case first =>
  by_cases c1:4097 < mx - k
  ·by_cases c2:1 < ta - tb
   ·go_wp2
    go_meet
    exact ⟨congrArg Value.bool (decide_eq_true ⟨c1,.inl c2⟩).symm,rfl⟩
   ·by_cases c3:1 < tb - ta
    ·go_wp2
     go_meet
     exact ⟨congrArg Value.bool (decide_eq_true ⟨c1,.inr c3⟩).symm,rfl⟩
    ·go_wp2
     go_meet
     exact ⟨congrArg Value.bool (decide_eq_false (by omega)).symm,rfl⟩
  ·go_wp2
   go_meet
   exact ⟨congrArg Value.bool (decide_eq_false (by omega)).symm,rfl⟩
 obtain ⟨rfl,hwc⟩:=hcut
 subst hwc
 by_cases hB:4097 < mx - k ∧ (1 < ta - tb ∨ 1 < tb - ta)
 ·have hd:decide (4097 < mx - k ∧ (1 < ta - tb ∨ 1 < tb - ta))=true:=decide_eq_true hB
  have hno:=Lib.hid (HBIG.out hB.1 hB.2)
  rw [hd]
  clear hB hd
  have xb30:=b3.c0; have yb30:=b3.fr 0; have xb31:=b3.c1; have yb31:=b3.fr 1; have xb32:=b3.c2; have yb32:=b3.fr 2
  go_wp2
  rw [chk_no hno.out,chkE_no hno.out]
  exact zero_rete rfl rfl rfl rfl (b3.set _ _ _ _ _) (Box3.set_ext hE (by omega) _ _ _ _ _)
 ·have hd:decide (4097 < mx - k ∧ (1 < ta - tb ∨ 1 < tb - ta))=false:=decide_eq_false hB
  obtain ⟨hx1,hy1⟩:=HFIT.out hB
  have HXY:=Lib.hid (limbs_len_bits (k:=129) (Nat.le_trans (bitsN_add hx1 hy1) (by decide)))
  have hx2:=limbs_len_bits (k:=129) (Nat.le_trans hx1 (by decide))
  have hy2:=limbs_len_bits (k:=129) (Nat.le_trans hy1 (by decide))
  have HXa2:=Lib.hid (fun w h=>HXa.out w h (by omega))
  have HXb2:=Lib.hid (fun w h=>HXb.out w h (by omega))
  rw [hd]
  clear hB hd hx1 hy1 hmx HBIG HFIT HXa HXb HTa HTb
  have hwe:IntKind.i64.wrap (a.e - k)=a.e - k:=i64_in _ (by omega) (by omega)
  have hwf:IntKind.i64.wrap (b.e - k)=b.e - k:=i64_in _ (by omega) (by omega)
  have xb10:=b1.c0; have xb11:=b1.c1; have xb12:=b1.c2
  have xb20:=b2.c0; have xb21:=b2.c1; have xb22:=b2.c2
  go_upto_region 9 with fail
  clear xb10 xb11 xb12 xb20 xb21 xb22
  go_cut [9,10] (fun s0 s1 wx=>SlV ((limbs x)) wx s0 ∧ SlV ((limbs y)) wx s1 ∧ Ext wc wx)
  case first =>
   have b1':=b1.drew; have b2':=b2.drew; have hs':=hs.drew; have hr':=hr.drew
   go_region_held3 (fun w'=>w'.cell? ⟨w.heap.size,0,none⟩=some (.bool a.neg) ∧ w'.cell? ⟨w.heap.size,1,none⟩=some (.slice A ((limbs a.m).length) c) ∧ w'.cell? ⟨w.heap.size,2,none⟩=some (.int .i64 a.e) ∧ w'.cell? ⟨w.heap.size+1,0,none⟩=some (.bool b.neg) ∧ w'.cell? ⟨w.heap.size+1,1,none⟩=some (.slice B ((limbs b.m).length) d) ∧ w'.cell? ⟨w.heap.size+1,2,none⟩=some (.int .i64 b.e))
    (first | with_reducible exact ⟨(b1').c0,(b1').c1,(b1').c2,(b2').c0,(b2').c1,(b2').c2⟩ | with_reducible exact ⟨(b1'.ext hb0).c0,(b1'.ext hb0).c1,(b1'.ext hb0).c2,(b2'.ext hb0).c0,(b2'.ext hb0).c1,(b2'.ext hb0).c2⟩ | with_reducible exact ⟨(b1'.ext hb1).c0,(b1'.ext hb1).c1,(b1'.ext hb1).c2,(b2'.ext hb1).c0,(b2'.ext hb1).c1,(b2'.ext hb1).c2⟩ | with_reducible exact ⟨(b1'.ext (hb0.trans hb1)).c0,(b1'.ext (hb0.trans hb1)).c1,(b1'.ext (hb0.trans hb1)).c2,(b2'.ext (hb0.trans hb1)).c0,(b2'.ext (hb0.trans hb1)).c1,(b2'.ext (hb0.trans hb1)).c2⟩ | with_reducible exact ⟨(b1'.ext (hb1.trans hb0)).c0,(b1'.ext (hb1.trans hb0)).c1,(b1'.ext (hb1.trans hb0)).c2,(b2'.ext (hb1.trans hb0)).c0,(b2'.ext (hb1.trans hb0)).c1,(b2'.ext (hb1.trans hb0)).c2⟩)
    (first
     | (go_at_call_of 121 (Value.slice A (limbs a.m).length c); (first | (with_reducible refine (HXa2.out _ hs').mono ?_) | (with_reducible refine (HXa2.out _ (hs'.below hb1)).mono ?_)); rintro r wx0 ⟨A0,c0,rfl,hn0,hb0⟩)
     | (go_at_call_of 121 (Value.slice B (limbs b.m).length d); (first | (with_reducible refine (HXb2.out _ hr').mono ?_) | (with_reducible refine (HXb2.out _ (hr'.below hb0)).mono ?_)); rintro r wx1 ⟨A1,c1,rfl,hn1,hb1⟩))
   all_goals (go_wp2_with fail; go_meet; (first | exact ⟨⟨_,_,rfl,hn0.below hb1⟩,⟨_,_,rfl,hn1⟩,(Ext.drew _).trans (hb0.trans hb1)⟩ | exact ⟨⟨_,_,rfl,hn0⟩,⟨_,_,rfl,hn1.below hb0⟩,(Ext.drew _).trans (hb1.trans hb0)⟩))
  obtain ⟨⟨A_hx,c_hx,rfl,hx⟩,⟨A_hy,c_hy,rfl,hy⟩,hb⟩:=hcut
  replace hE:=hE.trans hb; replace hs:=hs.below hb; replace hr:=hr.below hb; replace hTb:=hTb.below hb; replace b1:=b1.ext hb; replace b2:=b2.ext hb; replace b3:=b3.ext hb
  clear hb
  have HA:=Lib.hid (fun w A c B d (h:Sl w A c (limbs x)) (k:Sl w B d (limbs y))=>natAdd_ok A B c d (limbs x) (limbs y) w h k (by omega) (by omega) (by rw [val_limbs,val_limbs]; exact Nat.le_trans HXY.out (by decide)))
  rw [val_limbs,val_limbs] at HA
  by_cases hn:a.neg=b.neg
  ·have e1:(a.neg == b.neg)=true:=by rw [hn]; exact beq_self_eq_true _
   have hD:=Lib.hid (HS1.out hn)
   have HO:=Lib.hid (fun w A c (h:Sl w A c (limbs (x+y))) (ht:Tb w)=>canonical_dy a.neg (x+y) k A c w h (Nat.le_trans HXY.out (by decide)) (by omega) (by omega) ht)
   clear hn
   have hcl:=canon_le a.neg (x+y) k HXY.out
   have HK:=Lib.hid (fun w A c (h:Sl w A c (limbs (canon a.neg (x+y) k).m))=>checked_any (canon a.neg (x+y) k) A c w h (by omega) (by omega) (by omega))
   generalize canon a.neg (x+y) k=D at *
   clear hcl HS1 HS2 HS3
   have xb10:=b1.c0; have xb11:=b1.c1; have xb12:=b1.c2
   have xb20:=b2.c0; have xb21:=b2.c1; have xb22:=b2.c2
   go_wp2_with fail
   (with_reducible refine (HA.out _ _ _ _ _ hx hy).mono ?_)
   rintro r w2 ⟨A3,c3,rfl,h3,hb⟩
   clear xb10 xb11 xb12 xb20 xb21 xb22
   replace hE:=hE.trans hb; replace hs:=hs.below hb; replace hr:=hr.below hb; replace hTb:=hTb.below hb; replace hx:=hx.below hb; replace hy:=hy.below hb; replace b1:=b1.ext hb; replace b2:=b2.ext hb; replace b3:=b3.ext hb
   clear hb
   have xb10:=b1.c0; have xb11:=b1.c1; have xb12:=b1.c2
   go_wp2_with fail
   (with_reducible refine (HO.out _ _ _ h3 hTb).mono ?_)
   rintro r w3 ⟨A_h4,c_h4,rfl,h4,hb⟩
   clear xb10 xb11 xb12
   replace hE:=hE.trans hb; replace hs:=hs.below hb; replace hr:=hr.below hb; replace hTb:=hTb.below hb; replace hx:=hx.below hb; replace hy:=hy.below hb; replace h3:=h3.below hb; replace b1:=b1.ext hb; replace b2:=b2.ext hb; replace b3:=b3.ext hb
   clear hb
   have xb10:=b1.c0; have xb11:=b1.c1; have xb12:=b1.c2
   go_wp2_with fail
   (with_reducible refine (HK.out _ _ _ h4).mono ?_)
   rintro r w4 ⟨A_h5,c_h5,rfl,h5,hb⟩
   clear xb10 xb11 xb12
   replace hE:=hE.trans hb; replace hs:=hs.below hb; replace hr:=hr.below hb; replace hTb:=hTb.below hb; replace hx:=hx.below hb; replace hy:=hy.below hb; replace h3:=h3.below hb; replace h4:=h4.below hb; replace b1:=b1.ext hb; replace b2:=b2.ext hb; replace b3:=b3.ext hb
   clear hb
   have xb30:=b3.c0; have yb30:=b3.fr 0; have xb31:=b3.c1; have yb31:=b3.fr 1; have xb32:=b3.c2; have yb32:=b3.fr 2
   go_wp2
   rw [hD.out]
   exact dy_rete (d:=(chk D)) rfl rfl rfl rfl (b3.set _ _ _ _ _) rfl (b3.set_sl h5 _ _ _ _ _) (Box3.set_ext hE (by omega) _ _ _ _ _)
  ·have e1:(a.neg == b.neg)=false:=beq_eq_false_iff_ne.2 hn
   have HC:=Lib.hid (fun w A c B d (h:Sl w A c (limbs x)) (k:Sl w B d (limbs y))=>natCmp_any A B c d (limbs x) (limbs y) w h k (by omega) (by omega))
   rw [val_limbs,val_limbs] at HC
   by_cases hlt:x < y
   ·have hD:=Lib.hid (HS3.out hn hlt)
    have d0:decide (cmpN x y < 0)=true:=by unfold cmpN; rw [if_pos hlt]; rfl
    have HSb:=Lib.hid (fun w A c B d (h:Sl w A c (limbs y)) (k:Sl w B d (limbs x))=>natSub_ok A B c d (limbs y) (limbs x) w h k (by omega) (by omega) (by rw [val_limbs,val_limbs]; omega))
    rw [val_limbs,val_limbs] at HSb
    have hyl:=Nat.le_trans (limbs_len_mono (Nat.sub_le y x)) hy2
    have HO:=Lib.hid (fun w A c (h:Sl w A c (limbs (y - x))) (ht:Tb w)=>canonical_dy b.neg (y - x) k A c w h (by omega) (by omega) (by omega) ht)
    have hcl:=canon_le b.neg (y - x) k hyl
    have HK:=Lib.hid (fun w A c (h:Sl w A c (limbs (canon b.neg (y - x) k).m))=>checked_any (canon b.neg (y - x) k) A c w h (by omega) (by omega) (by omega))
    generalize canon b.neg (y - x) k=D at *
    generalize cmpN x y=q at *
    clear hcl HS1 HS2 HS3 hn hlt hyl HA
    have xb10:=b1.c0; have xb11:=b1.c1; have xb12:=b1.c2
    have xb20:=b2.c0; have xb21:=b2.c1; have xb22:=b2.c2
    go_wp2_with fail
    (with_reducible refine (HC.out _ _ _ _ _ hx hy).mono ?_)
    rintro r w2 ⟨rfl,hb⟩
    clear xb10 xb11 xb12 xb20 xb21 xb22
    replace hE:=hE.trans hb; replace hs:=hs.below hb; replace hr:=hr.below hb; replace hTb:=hTb.below hb; replace hx:=hx.below hb; replace hy:=hy.below hb; replace b1:=b1.ext hb; replace b2:=b2.ext hb; replace b3:=b3.ext hb
    clear hb
    have hlt1:w.heap.size ≤ w.heap.size:=Nat.le_refl _
    have xb10:=b1.c0; have xb11:=b1.c1; have xb12:=b1.c2
    have xb20:=b2.c0; have xb21:=b2.c1; have xb22:=b2.c2
    have fb0:=b1.fr 0; have fb1:=b1.fr 1; have fb2:=b1.fr 2
    have hx:=b1.set_sl hx b.neg b.e (limbs b.m).length d B
    have hy:=b1.set_sl hy b.neg b.e (limbs b.m).length d B
    have hE:=Box3.set_ext hE (Nat.le_refl _) b.neg B (limbs b.m).length d b.e
    have b3:=b3.far3 (g':=w.heap.size) (by omega) (.bool b.neg) (.slice B (limbs b.m).length d) (.int .i64 b.e)
    have b1:=b1.set b.neg B (limbs b.m).length d b.e
    have hTb:=hTb0.below hE
    clear hs hr b2
    go_wp2_with fail
    (with_reducible refine (HSb.out _ _ _ _ _ hy hx).mono ?_)
    rintro r w3 ⟨A3,c3,rfl,h3,hb⟩
    clear xb10 xb11 xb12 xb20 xb21 xb22
    replace hE:=hE.trans hb; replace hTb:=hTb.below hb; replace hx:=hx.below hb; replace hy:=hy.below hb; replace b1:=b1.ext hb; replace b3:=b3.ext hb
    clear hb
    have xb10:=b1.c0; have xb11:=b1.c1; have xb12:=b1.c2
    go_wp2_with fail
    (with_reducible refine (HO.out _ _ _ h3 hTb).mono ?_)
    rintro r w4 ⟨A_h4,c_h4,rfl,h4,hb⟩
    clear xb10 xb11 xb12
    replace hE:=hE.trans hb; replace hTb:=hTb.below hb; replace hx:=hx.below hb; replace hy:=hy.below hb; replace h3:=h3.below hb; replace b1:=b1.ext hb; replace b3:=b3.ext hb
    clear hb
    have xb10:=b1.c0; have xb11:=b1.c1; have xb12:=b1.c2
    go_wp2_with fail
    (with_reducible refine (HK.out _ _ _ h4).mono ?_)
    rintro r w5 ⟨A_h5,c_h5,rfl,h5,hb⟩
    clear xb10 xb11 xb12
    replace hE:=hE.trans hb; replace hTb:=hTb.below hb; replace hx:=hx.below hb; replace hy:=hy.below hb; replace h3:=h3.below hb; replace h4:=h4.below hb; replace b1:=b1.ext hb; replace b3:=b3.ext hb
    clear hb
    have xb30:=b3.c0; have yb30:=b3.fr 0; have xb31:=b3.c1; have yb31:=b3.fr 1; have xb32:=b3.c2; have yb32:=b3.fr 2
    go_wp2
    rw [hD.out]
    exact dy_rete (d:=(chk D)) rfl rfl rfl rfl (b3.set _ _ _ _ _) rfl (b3.set_sl h5 _ _ _ _ _) (Box3.set_ext hE (by omega) _ _ _ _ _)
   ·have hD:=Lib.hid (HS2.out hn (by omega))
    have d0:decide (cmpN x y < 0)=false:=by unfold cmpN; rw [if_neg hlt]; split <;> rfl
    have HSb:=Lib.hid (fun w A c B d (h:Sl w A c (limbs x)) (k:Sl w B d (limbs y))=>natSub_ok A B c d (limbs x) (limbs y) w h k (by omega) (by omega) (by rw [val_limbs,val_limbs]; omega))
    rw [val_limbs,val_limbs] at HSb
    have hyl:=Nat.le_trans (limbs_len_mono (Nat.sub_le x y)) hx2
    have HO:=Lib.hid (fun w A c (h:Sl w A c (limbs (x - y))) (ht:Tb w)=>canonical_dy a.neg (x - y) k A c w h (by omega) (by omega) (by omega) ht)
    have hcl:=canon_le a.neg (x - y) k hyl
    have HK:=Lib.hid (fun w A c (h:Sl w A c (limbs (canon a.neg (x - y) k).m))=>checked_any (canon a.neg (x - y) k) A c w h (by omega) (by omega) (by omega))
    generalize canon a.neg (x - y) k=D at *
    generalize cmpN x y=q at *
    clear hcl HS1 HS2 HS3 hn hlt hyl HA
    have xb10:=b1.c0; have xb11:=b1.c1; have xb12:=b1.c2
    have xb20:=b2.c0; have xb21:=b2.c1; have xb22:=b2.c2
    go_wp2_with fail
    (with_reducible refine (HC.out _ _ _ _ _ hx hy).mono ?_)
    rintro r w2 ⟨rfl,hb⟩
    clear xb10 xb11 xb12 xb20 xb21 xb22
    replace hE:=hE.trans hb; replace hs:=hs.below hb; replace hr:=hr.below hb; replace hTb:=hTb.below hb; replace hx:=hx.below hb; replace hy:=hy.below hb; replace b1:=b1.ext hb; replace b2:=b2.ext hb; replace b3:=b3.ext hb
    clear hb
    go_wp2_with fail
    (with_reducible refine (HSb.out _ _ _ _ _ hx hy).mono ?_)
    rintro r w3 ⟨A3,c3,rfl,h3,hb⟩
    replace hE:=hE.trans hb; replace hs:=hs.below hb; replace hr:=hr.below hb; replace hTb:=hTb.below hb; replace hx:=hx.below hb; replace hy:=hy.below hb; replace b1:=b1.ext hb; replace b2:=b2.ext hb; replace b3:=b3.ext hb
    clear hb
    have xb10:=b1.c0; have xb11:=b1.c1; have xb12:=b1.c2
    go_wp2_with fail
    (with_reducible refine (HO.out _ _ _ h3 hTb).mono ?_)
    rintro r w4 ⟨A_h4,c_h4,rfl,h4,hb⟩
    clear xb10 xb11 xb12
    replace hE:=hE.trans hb; replace hs:=hs.below hb; replace hr:=hr.below hb; replace hTb:=hTb.below hb; replace hx:=hx.below hb; replace hy:=hy.below hb; replace h3:=h3.below hb; replace b1:=b1.ext hb; replace b2:=b2.ext hb; replace b3:=b3.ext hb
    clear hb
    have xb10:=b1.c0; have xb11:=b1.c1; have xb12:=b1.c2
    go_wp2_with fail
    (with_reducible refine (HK.out _ _ _ h4).mono ?_)
    rintro r w5 ⟨A_h5,c_h5,rfl,h5,hb⟩
    clear xb10 xb11 xb12
    replace hE:=hE.trans hb; replace hs:=hs.below hb; replace hr:=hr.below hb; replace hTb:=hTb.below hb; replace hx:=hx.below hb; replace hy:=hy.below hb; replace h3:=h3.below hb; replace h4:=h4.below hb; replace b1:=b1.ext hb; replace b2:=b2.ext hb; replace b3:=b3.ext hb
    clear hb
    have xb30:=b3.c0; have yb30:=b3.fr 0; have xb31:=b3.c1; have yb31:=b3.fr 1; have xb32:=b3.c2; have yb32:=b3.fr 2
    go_wp2
    rw [hD.out]
    exact dy_rete (d:=(chk D)) rfl rfl rfl rfl (b3.set _ _ _ _ _) rfl (b3.set_sl h5 _ _ _ _ _) (Box3.set_ext hE (by omega) _ _ _ _ _)
theorem dySum_dy (a b:Dy) (A B:Option Addr) (c d:Nat) (w:World) (hs:Sl w A c (limbs a.m)) (hr:Sl w B d (limbs b.m)) (hTb:Tb w) (ha:a.Valid) (hb:b.Valid) :
  Calls Tryz.prog 104 #[DV a A c,DV b B d] w (RetDE w (chk (sumD a b)) (chkE (sumD a b))):=by
 by_cases a0:a.m=0
 ·exact dySum_a0 a b A B c d w hs hr hTb hb a0
 ·by_cases b0:b.m=0
  ·exact dySum_b0 a b A B c d w hs hTb ha a0 b0
  ·exact dySum_nz a b A B c d w hs hr hTb ha hb a0 b0
set_option maxHeartbeats 4000000 in
theorem dyNeg_dy (a : Dy) (A : Option Addr) (c : Nat) (w : World) (hs : Sl w A c (limbs a.m)) (ha : a.Valid) :
    Calls Tryz.prog 105 #[DV a A c] w (RetD w (negD a)) := by
  have HV := Lib.hid (fun w (h : Sl w A c (limbs a.m)) => dyValid_dy a A c w h ha)
  have hl := ha.len
  by_cases h0 : a.m = 0
  · have hz : Hid (negD a = zeroD) := by
      show negD a = zeroD
      obtain ⟨s, m, e⟩ := a
      rcases ha.canon with ⟨h1, h2, h3⟩ | h1
      · simp only at h1 h2 h3; subst h1 h2 h3; rfl
      · simp only at h0 h1; omega
    have n0 := nil_len h0
    clear h0
    have hE := (Ext.alloc w (.cells #[.bool a.neg, .slice A ((limbs a.m).length) c, .int .i64 a.e] 24)).trans (Ext.alloc (w.alloc (.cells #[.bool a.neg, .slice A ((limbs a.m).length) c, .int .i64 a.e] 24)) (.cells #[.bool false, .slice none 0 0, .int .i64 0] 24))
    have b1 := (Box3.newAt (W := w) (g := w.heap.size) (by simp) a.neg A ((limbs a.m).length) c a.e).alloc (.cells #[.bool false, .slice none 0 0, .int .i64 0] 24)
    have b2 := Box3.newAt (W := (w.alloc (.cells #[.bool a.neg, .slice A ((limbs a.m).length) c, .int .i64 a.e] 24))) (g := w.heap.size + 1) (by simp) false none 0 0 0
    replace hs := hs.below hE
    go_enter Tryz.func105, Tryz.ntmps105
    go_wp2_with fail
    (with_reducible refine (HV.out _ hs).mono ?_)
    rintro r w1 ⟨rfl, hb⟩
    replace hE := hE.trans hb; replace hs := hs.below hb; replace b1 := b1.ext hb; replace b2 := b2.ext hb
    clear hb
    have xb10 := b1.c0; have xb11 := b1.c1; have xb12 := b1.c2
    have xb20 := b2.c0; have yb20 := b2.fr 0; have xb21 := b2.c1; have yb21 := b2.fr 1; have xb22 := b2.c2; have yb22 := b2.fr 2
    go_wp2
    rw [hz.out]
    exact dy_ret (d := zeroD) rfl rfl rfl (b2.set _ _ _ _ _) (by rw [show zeroD.m = 0 from rfl, limbs_zero]; rfl) (by rw [show zeroD.m = 0 from rfl, limbs_zero]; exact Sl.nil _) (Box3.set_ext hE (by omega) _ _ _ _ _)
  · have n0 := pos_len h0
    have HN := Lib.hid (show negD a = ⟨!a.neg, a.m, a.e⟩ by unfold negD; simp [h0])
    have HC := Lib.hid (fun w (h : Sl w A c (limbs a.m)) => clone_any A c (limbs a.m) w h (by omega))
    clear h0
    have hE := (Ext.alloc w (.cells #[.bool a.neg, .slice A ((limbs a.m).length) c, .int .i64 a.e] 24)).trans (Ext.alloc (w.alloc (.cells #[.bool a.neg, .slice A ((limbs a.m).length) c, .int .i64 a.e] 24)) (.cells #[.bool false, .slice none 0 0, .int .i64 0] 24))
    have b1 := (Box3.newAt (W := w) (g := w.heap.size) (by simp) a.neg A ((limbs a.m).length) c a.e).alloc (.cells #[.bool false, .slice none 0 0, .int .i64 0] 24)
    have b2 := Box3.newAt (W := (w.alloc (.cells #[.bool a.neg, .slice A ((limbs a.m).length) c, .int .i64 a.e] 24))) (g := w.heap.size + 1) (by simp) false none 0 0 0
    replace hs := hs.below hE
    go_enter Tryz.func105, Tryz.ntmps105
    go_wp2_with fail
    (with_reducible refine (HV.out _ hs).mono ?_)
    rintro r w1 ⟨rfl, hb⟩
    replace hE := hE.trans hb; replace hs := hs.below hb; replace b1 := b1.ext hb; replace b2 := b2.ext hb
    clear hb
    have xb10 := b1.c0; have xb11 := b1.c1; have xb12 := b1.c2
    clear xb10 xb11 xb12
    have xb10 := b1.c0; have xb11 := b1.c1; have xb12 := b1.c2
    go_wp2_with fail
    clear xb10 xb11 xb12
    replace hs := hs.drew; replace b1 := b1.drew; replace b2 := b2.drew; replace hE := hE.trans (Ext.drew _)
    go_region_held3 (fun w' => w'.cell? ⟨w.heap.size, 0, none⟩ = some (.bool a.neg) ∧ w'.cell? ⟨w.heap.size, 1, none⟩ = some (.slice A ((limbs a.m).length) c) ∧ w'.cell? ⟨w.heap.size, 2, none⟩ = some (.int .i64 a.e))
      (first | with_reducible exact ⟨(b1).c0, (b1).c1, (b1).c2⟩ | with_reducible exact ⟨(b1.ext hb0).c0, (b1.ext hb0).c1, (b1.ext hb0).c2⟩ | with_reducible exact ⟨((b1.ext hb0).far3 (g' := w.heap.size + 1) (by omega) _ _ _).c0, ((b1.ext hb0).far3 (g' := w.heap.size + 1) (by omega) _ _ _).c1, ((b1.ext hb0).far3 (g' := w.heap.size + 1) (by omega) _ _ _).c2⟩)
      (first
        | (go_at_call 102
           (with_reducible refine (HC.out _ hs).mono ?_)
           rintro r wx0 ⟨A_h4, c_h4, rfl, h4, hb0⟩
           have bz := b2.ext hb0; have z0 := bz.c0; have z1 := bz.c1; have z2 := bz.c2; have y0 := bz.fr 0; have y1 := bz.fr 1; have y2 := bz.fr 2))
    replace hE := hE.trans hb0; replace hs := hs.below hb0; replace b1 := b1.ext hb0; replace b2 := b2.ext hb0
    go_wp2
    rw [HN.out]
    exact dy_ret (d := ⟨!a.neg,a.m,a.e⟩) rfl rfl rfl (bz.set _ _ _ _ _) rfl (bz.set_sl h4 _ _ _ _ _) (Box3.set_ext hE (by omega) _ _ _ _ _)
set_option maxHeartbeats 4000000 in
theorem dySub_dy (a b : Dy) (A B : Option Addr) (c d : Nat) (w : World) (hs : Sl w A c (limbs a.m)) (hr : Sl w B d (limbs b.m)) (hTb : Tb w) (ha : a.Valid) (hb : b.Valid) :
    Calls Tryz.prog 78 #[DV a A c, DV b B d] w (RetDE w (chk (sumD a (negD b))) (chkE (sumD a (negD b)))) := by
  have HVa := Lib.hid (fun w (h : Sl w A c (limbs a.m)) => dyValid_dy a A c w h ha)
  have HVb := Lib.hid (fun w (h : Sl w B d (limbs b.m)) => dyValid_dy b B d w h hb)
  have HN := Lib.hid (fun w (h : Sl w B d (limbs b.m)) => dyNeg_dy b B d w h hb)
  have HS := Lib.hid (fun w B d (h : Sl w A c (limbs a.m)) (k : Sl w B d (limbs (negD b).m)) (ht : Tb w) => dySum_dy a (negD b) A B c d w h k ht ha (negD_valid hb))
  generalize chkE (sumD a (negD b)) = E at *
  generalize chk (sumD a (negD b)) = D at *
  generalize negD b = nb at *
  have hE := ((Ext.alloc w (.cells #[.bool a.neg, .slice A ((limbs a.m).length) c, .int .i64 a.e] 24)).trans (Ext.alloc (w.alloc (.cells #[.bool a.neg, .slice A ((limbs a.m).length) c, .int .i64 a.e] 24)) (.cells #[.bool b.neg, .slice B ((limbs b.m).length) d, .int .i64 b.e] 24))).trans (Ext.alloc ((w.alloc (.cells #[.bool a.neg, .slice A ((limbs a.m).length) c, .int .i64 a.e] 24)).alloc (.cells #[.bool b.neg, .slice B ((limbs b.m).length) d, .int .i64 b.e] 24)) (.cells #[.bool false, .slice none 0 0, .int .i64 0] 24))
  have b1 := ((Box3.newAt (W := w) (g := w.heap.size) (by simp) a.neg A ((limbs a.m).length) c a.e).alloc (.cells #[.bool b.neg, .slice B ((limbs b.m).length) d, .int .i64 b.e] 24)).alloc (.cells #[.bool false, .slice none 0 0, .int .i64 0] 24)
  have b2 := (Box3.newAt (W := (w.alloc (.cells #[.bool a.neg, .slice A ((limbs a.m).length) c, .int .i64 a.e] 24))) (g := w.heap.size + 1) (by simp) b.neg B ((limbs b.m).length) d b.e).alloc (.cells #[.bool false, .slice none 0 0, .int .i64 0] 24)
  have b3 := Box3.newAt (W := ((w.alloc (.cells #[.bool a.neg, .slice A ((limbs a.m).length) c, .int .i64 a.e] 24)).alloc (.cells #[.bool b.neg, .slice B ((limbs b.m).length) d, .int .i64 b.e] 24))) (g := w.heap.size + 2) (by simp) false none 0 0 0
  replace hs := hs.below hE; replace hr := hr.below hE; replace hTb := hTb.below hE
  go_enter Tryz.func78, Tryz.ntmps78
  go_wp2_with fail
  (with_reducible refine (HVa.out _ hs).mono ?_)
  rintro r w1 ⟨rfl, hb⟩
  replace hE := hE.trans hb; replace hs := hs.below hb; replace hr := hr.below hb; replace hTb := hTb.below hb; replace b1 := b1.ext hb; replace b2 := b2.ext hb; replace b3 := b3.ext hb
  clear hb
  have xb10 := b1.c0; have xb11 := b1.c1; have xb12 := b1.c2
  have xb20 := b2.c0; have xb21 := b2.c1; have xb22 := b2.c2
  go_wp2_with fail
  (with_reducible refine (HVb.out _ hr).mono ?_)
  rintro r w2 ⟨rfl, hb⟩
  clear xb10 xb11 xb12 xb20 xb21 xb22
  replace hE := hE.trans hb; replace hs := hs.below hb; replace hr := hr.below hb; replace hTb := hTb.below hb; replace b1 := b1.ext hb; replace b2 := b2.ext hb; replace b3 := b3.ext hb
  clear hb
  have xb10 := b1.c0; have xb11 := b1.c1; have xb12 := b1.c2
  have xb20 := b2.c0; have xb21 := b2.c1; have xb22 := b2.c2
  go_wp2_with fail
  clear xb10 xb11 xb12 xb20 xb21 xb22
  replace hs := hs.drew; replace hr := hr.drew; replace hTb := hTb.drew; replace b1 := b1.drew; replace b2 := b2.drew; replace b3 := b3.drew; replace hE := hE.trans (Ext.drew _)
  go_region_held3 (fun w' => w'.cell? ⟨w.heap.size, 0, none⟩ = some (.bool a.neg) ∧ w'.cell? ⟨w.heap.size, 1, none⟩ = some (.slice A ((limbs a.m).length) c) ∧ w'.cell? ⟨w.heap.size, 2, none⟩ = some (.int .i64 a.e) ∧ w'.cell? ⟨w.heap.size + 1, 0, none⟩ = some (.bool b.neg) ∧ w'.cell? ⟨w.heap.size + 1, 1, none⟩ = some (.slice B ((limbs b.m).length) d) ∧ w'.cell? ⟨w.heap.size + 1, 2, none⟩ = some (.int .i64 b.e))
    (first | with_reducible exact ⟨(b1).c0, (b1).c1, (b1).c2, (b2).c0, (b2).c1, (b2).c2⟩ | with_reducible exact ⟨(b1.ext hb0).c0, (b1.ext hb0).c1, (b1.ext hb0).c2, (b2.ext hb0).c0, (b2.ext hb0).c1, (b2.ext hb0).c2⟩ | with_reducible exact ⟨(b1.ext (hb0.trans hb1)).c0, (b1.ext (hb0.trans hb1)).c1, (b1.ext (hb0.trans hb1)).c2, (b2.ext (hb0.trans hb1)).c0, (b2.ext (hb0.trans hb1)).c1, (b2.ext (hb0.trans hb1)).c2⟩ | with_reducible exact ⟨((b1.ext (hb0.trans hb1)).far3 (g' := w.heap.size + 2) (by omega) _ _ _).c0, ((b1.ext (hb0.trans hb1)).far3 (g' := w.heap.size + 2) (by omega) _ _ _).c1, ((b1.ext (hb0.trans hb1)).far3 (g' := w.heap.size + 2) (by omega) _ _ _).c2, ((b2.ext (hb0.trans hb1)).far3 (g' := w.heap.size + 2) (by omega) _ _ _).c0, ((b2.ext (hb0.trans hb1)).far3 (g' := w.heap.size + 2) (by omega) _ _ _).c1, ((b2.ext (hb0.trans hb1)).far3 (g' := w.heap.size + 2) (by omega) _ _ _).c2⟩)
    (first
      | (go_at_call 105
         (with_reducible refine (HN.out _ hr).mono ?_)
         rintro r wx0 ⟨A_h4, c_h4, rfl, h4, hb0⟩)
      | (go_at_call 104
         (with_reducible refine (HS.out _ _ _ (hs.below hb0) h4 (hTb.below hb0)).mono ?_)
         rintro r wx1 ⟨A_h5, c_h5, rfl, h5, hb1⟩
         have bz := b3.ext (hb0.trans hb1); have z0 := bz.c0; have z1 := bz.c1; have z2 := bz.c2; have y0 := bz.fr 0; have y1 := bz.fr 1; have y2 := bz.fr 2))
  replace h4 := h4.below hb1
  replace hE := hE.trans (hb0.trans hb1); replace hs := hs.below (hb0.trans hb1); replace hr := hr.below (hb0.trans hb1); replace hTb := hTb.below (hb0.trans hb1); replace b1 := b1.ext (hb0.trans hb1); replace b2 := b2.ext (hb0.trans hb1); replace b3 := b3.ext (hb0.trans hb1)
  go_wp2
  exact dy_rete (d := D) rfl rfl rfl rfl (bz.set _ _ _ _ _) rfl (bz.set_sl h5 _ _ _ _ _) (Box3.set_ext hE (by omega) _ _ _ _ _)
open Go.RowKit Fp Pu
section
variable {f:FuncId} {L M:List Nat} {res:E}
theorem pcS1 (hk:Ok32 L) (hc:∀ (vs:Array Value) (w:World),(callFunc f vs).run Tryz.prog w = .ok (.enter f vs) w)
  {R:Option Addr → Nat → World → Ending → World → Prop} (H:∀ A c w,Sl w A c L → Tb w → Calls Tryz.prog f #[.slice A L.length c] w (R A c w))
  (hR:∀ (A:Option Addr) (c:Nat) (B:Nat → Prop) w e w',Sl w A c L → (∀ b,B b → b < w.heap.size ∧ NoLim w b) → R A c w e w' → ∃ v,e = .returned v ∧ Below w.heap.size w w' ∧ Rep B (fun _=>True) w' res v):PCt f [slP L] res:=by
 refine ⟨hc,fun w B vs hK hB hr=>?_⟩
 obtain ⟨v1,vs,rfl,h1,hr⟩:=hr.uncons
 obtain rfl:=hr.nil_inv
 obtain ⟨A,c,rfl,s1⟩:=slP_inv hk h1
 exact (H A c w s1 hK).mono fun e w' h=>hR A c B w e w' s1 hB h
theorem pcS1i (hk:Ok32 L) {n:Int} (hc:∀ (vs:Array Value) (w:World),(callFunc f vs).run Tryz.prog w = .ok (.enter f vs) w)
  {R:Option Addr → Nat → World → Ending → World → Prop} (H:∀ A c w,Sl w A c L → Tb w → Calls Tryz.prog f #[.slice A L.length c,.int .i64 n] w (R A c w))
  (hR:∀ (A:Option Addr) (c:Nat) (B:Nat → Prop) w e w',Sl w A c L → (∀ b,B b → b < w.heap.size ∧ NoLim w b) → R A c w e w' → ∃ v,e = .returned v ∧ Below w.heap.size w w' ∧ Rep B (fun _=>True) w' res v):PCt f [slP L,iP n] res:=by
 refine ⟨hc,fun w B vs hK hB hr=>?_⟩
 obtain ⟨v1,vs,rfl,h1,hr⟩:=hr.uncons
 obtain ⟨v2,vs,rfl,h2,hr⟩:=hr.uncons
 obtain rfl:=hr.nil_inv
 obtain rfl:=Rep.v_inv h2
 obtain ⟨A,c,rfl,s1⟩:=slP_inv hk h1
 exact (H A c w s1 hK).mono fun e w' h=>hR A c B w e w' s1 hB h
theorem pcS2 (hk:Ok32 L) (hm:Ok32 M) (hc:∀ (vs:Array Value) (w:World),(callFunc f vs).run Tryz.prog w = .ok (.enter f vs) w)
  {R:World → Ending → World → Prop} (H:∀ A c B d w,Sl w A c L → Sl w B d M → Tb w → Calls Tryz.prog f #[.slice A L.length c,.slice B M.length d] w (R w))
  (hR:∀ (B:Nat → Prop) w e w',(∀ b,B b → b < w.heap.size ∧ NoLim w b) → R w e w' → ∃ v,e = .returned v ∧ Below w.heap.size w w' ∧ Rep B (fun _=>True) w' res v):PCt f [slP L,slP M] res:=by
 refine ⟨hc,fun w B vs hK hB hr=>?_⟩
 obtain ⟨v1,vs,rfl,h1,hr⟩:=hr.uncons
 obtain ⟨v2,vs,rfl,h2,hr⟩:=hr.uncons
 obtain rfl:=hr.nil_inv
 obtain ⟨A,c,rfl,s1⟩:=slP_inv hk h1
 obtain ⟨A',d,rfl,s2⟩:=slP_inv hm h2
 exact (H A c A' d w s1 s2 hK).mono fun e w' h=>hR B w e w' hB h
end
theorem rle {L:List Nat} {n:Int} (B:Nat → Prop) (w:World) (e:Ending) (w':World) (hB:∀ b,B b → b < w.heap.size ∧ NoLim w b) (h:RetLE w L n e w'):∃ v,e = .returned v ∧ Below w.heap.size w w' ∧ Rep B (fun _=>True) w' (.tup [slP L,iP n]) v :=
 let ⟨_,_,h1,h2,h3⟩:=h
 ⟨_,h1,h3,Reps.tup (.cons (slP_rep hB h3 h2) (.cons (.v _) (.nil _ _ _)))⟩
theorem rl {L:List Nat} (B:Nat → Prop) (w:World) (e:Ending) (w':World) (hB:∀ b,B b → b < w.heap.size ∧ NoLim w b) (h:RetL w L e w'):∃ v,e = .returned v ∧ Below w.heap.size w w' ∧ Rep B (fun _=>True) w' (slP L) v :=
 let ⟨_,_,h1,h2,h3⟩:=h
 ⟨_,h1,h3,slP_rep hB h3 h2⟩
theorem natTrim_pc (L:List Nat) (hk:Ok32 L):PCt 128 [slP L] (slP (trimL L)) :=
 pcS1 hk Tryz.call128 (fun A c w h _=>natTrim_any A c L w h) fun A c B w e w' h hB ⟨h1,h2⟩=>by subst h2; exact ⟨_,h1,Below.refl _ _,slP_rep hB (Below.refl _ _) h.trim⟩
theorem natDone_pc (L:List Nat) (hk:Ok32 L) (hl:(trimL L).length ≤ 256):PCt 124 [slP L] (.tup [slP (trimL L),iP 0]) :=
 pcS1 hk Tryz.call124 (fun A c w h _=>natDone_ok A c L w h hl) fun A c B w e w' h hB r=>rle B w e w' hB r
theorem natBits_pc (L:List Nat) (hk:Ok32 L) (hl:L.length ≤ 100000):PCt 108 [slP L] (iP (bitsN (val L))) :=
 pcS1 hk Tryz.call108 (fun A c w h _=>natBits_any A c L w h (by omega)) fun A c B w e w' h hB ⟨h1,h2⟩=>by subst h2; exact ⟨_,h1,Below.refl _ _,.v _⟩
theorem natCmp_pc (L M:List Nat) (hk:Ok32 L) (hm:Ok32 M) (hl:L.length ≤ 100000) (hl2:M.length ≤ 100000):PCt 120 [slP L,slP M] (iP (cmpN (val L) (val M))) :=
 pcS2 hk hm Tryz.call120 (fun A c B d w h k _=>natCmp_any A B c d L M w h k (by omega) (by omega)) rv
theorem natShl_pc (m n:Nat) (hl:(limbs m).length ≤ 256) (hn:n ≤ 65536) (hf:(limbs (m * 2 ^ n)).length ≤ 256):PCt 141 [slP (limbs m),iP (n:Int)] (.tup [slP (limbs (m * 2 ^ n)),iP 0]) :=
 pcS1i (ok_limbs m) Tryz.call141 (fun A c w h _=>natShl_ok A c (limbs m) n w h hl hn (by rw [val_limbs]; exact hf)) fun A c B w e w' h hB r=>by rw [val_limbs] at r; exact rle B w e w' hB r
theorem natShr_pc (m n:Nat) (hl:(limbs m).length ≤ 256) (hn:n ≤ 65536):PCt 100 [slP (limbs m),iP (n:Int)] (.tup [slP (limbs (m / 2 ^ n)),iP 0]) :=
 pcS1i (ok_limbs m) Tryz.call100 (fun A c w h _=>natShr_any A c (limbs m) n w h hl hn) fun A c B w e w' h hB r=>by rw [val_limbs] at r; exact rle B w e w' hB r
theorem natAdd_pc (m n:Nat) (h1:(limbs m).length ≤ 256) (h2:(limbs n).length ≤ 256) (hf:(limbs (m+n)).length ≤ 256):PCt 126 [slP (limbs m),slP (limbs n)] (.tup [slP (limbs (m+n)),iP 0]):=by
 refine pcS2 (ok_limbs m) (ok_limbs n) Tryz.call126 (fun A c B d w h k _=>natAdd_ok A B c d (limbs m) (limbs n) w h k h1 h2 (by rw [val_limbs,val_limbs]; exact hf)) ?_
 rw [val_limbs,val_limbs]; exact rle
theorem natSub_pc (m n:Nat) (h1:(limbs m).length ≤ 256) (h2:(limbs n).length ≤ 256) (hf:n ≤ m):PCt 127 [slP (limbs m),slP (limbs n)] (.tup [slP (limbs (m - n)),iP 0]):=by
 refine pcS2 (ok_limbs m) (ok_limbs n) Tryz.call127 (fun A c B d w h k _=>natSub_ok A B c d (limbs m) (limbs n) w h k h1 h2 (by rw [val_limbs,val_limbs]; exact hf)) ?_
 rw [val_limbs,val_limbs]; exact rle
theorem natBitsM_pc (m:Nat) (hl:(limbs m).length ≤ 100000):PCt 108 [slP (limbs m)] (iP (bitsN m)):=by
 have:=natBits_pc (limbs m) (ok_limbs m) hl
 rwa [val_limbs] at this
theorem natCmpM_pc (m n:Nat) (hl:(limbs m).length ≤ 100000) (hl2:(limbs n).length ≤ 100000):PCt 120 [slP (limbs m),slP (limbs n)] (iP (cmpN m n)):=by
 have:=natCmp_pc (limbs m) (limbs n) (ok_limbs m) (ok_limbs n) hl hl2
 rwa [val_limbs,val_limbs] at this
theorem dyNeg_pc (a:Dy) (ha:a.Valid):PCt 105 [dyP a] (dyP (negD a)):=pc1 Tryz.call105 (fun A c w h _=>dyNeg_dy a A c w h ha) rd
theorem dyTop_pc (a:Dy) (ha:a.Valid):PCt 119 [dyP a] (iP a.top):=pc1 Tryz.call119 (fun A c w h _=>dyTop_dy a A c w h ha) rv
theorem dyMake_pc (s:Bool) (m:Nat) (e:Int) (hl:(limbs m).length ≤ 256) (he1:-32768 ≤ e) (he2:e ≤ 32768) (hd:inRange (canon s m e)):PCt 190 [bP s,slP (limbs m),iP e] (.tup [dyP (canon s m e),iP 0]):=by
 refine ⟨Tryz.call190,fun w B vs hK hB hr=>?_⟩
 obtain ⟨v1,vs,rfl,h1,hr⟩:=hr.uncons
 obtain ⟨v2,vs,rfl,h2,hr⟩:=hr.uncons
 obtain ⟨v3,vs,rfl,h3,hr⟩:=hr.uncons
 obtain rfl:=hr.nil_inv
 obtain rfl:=Rep.v_inv h1
 obtain rfl:=Rep.v_inv h3
 obtain ⟨A,c,rfl,s1⟩:=slP_inv (ok_limbs m) h2
 have:=make_any s A c (limbs m) e w s1 hl he1 he2 hK (by rw [val_limbs]; exact hd)
 rw [val_limbs] at this
 exact this.mono fun e w' h=>rde B w e w' hB h
theorem one_le:E.le (.sl false 1 1 fun i j=>[E.v (.int .u32 1)].getD (i * 1+j) (.v (.bool false))) (slP (limbs 1)):=by
 have e1:limbs 1=[1]:=by rw [limbs_pos (by decide),show 1 / 4294967296=0 by decide,limbs_zero]
 rw [e1]
 refine .sl fun i j hi hj=>?_
 obtain rfl:i=0:=by omega
 obtain rfl:j=0:=by omega
 exact ⟨.refl _,rfl⟩
def dyL (d:Dy):List E:=[bP d.neg,slP (limbs d.m),iP d.e]
def dysP (l:List Dy):E:=.sl true l.length 3 fun i j=>(dyL (l.getD i zeroD)).getD j .any
theorem dys1_le (a:Dy):E.le (.sl true 1 3 fun i j=>[bP a.neg,slP (limbs a.m),iP a.e].getD (i * 3+j) (.v (.bool false))) (dysP [a]):=.sl fun i j hi hj=>by
 obtain rfl:i=0:=by omega
 rcases j with _ | _ | _ | j
 ·exact ⟨.refl _,rfl⟩
 ·exact ⟨.refl _,rfl⟩
 ·exact ⟨.refl _,rfl⟩
 ·omega
theorem dys2_le (a b:Dy):E.le (.sl true 2 3 fun i j=>[bP a.neg,slP (limbs a.m),iP a.e,bP b.neg,slP (limbs b.m),iP b.e].getD (i * 3+j) (.v (.bool false))) (dysP [a,b]):=.sl fun i j hi hj=>by
 obtain rfl | rfl:i=0 ∨ i=1:=by omega
 all_goals
  rcases j with _ | _ | _ | j
  ·exact ⟨.refl _,rfl⟩
  ·exact ⟨.refl _,rfl⟩
  ·exact ⟨.refl _,rfl⟩
  ·omega
theorem natZ_false {n:Nat} (h:n ≠ 0):(((n:Nat):Int) == 0)=false:=by simp; omega
theorem natZ_true {n:Nat} (h:n=0):(((n:Nat):Int) == 0)=true:=by subst h; rfl
theorem limbs_len0 {m:Nat}:(limbs m).length=0 ↔ m=0:=by rw [List.length_eq_zero_iff,limbs_eq_nil]
theorem limbs_len_ne {m:Nat} (h:m ≠ 0):(limbs m).length ≠ 0:=fun q=>h (limbs_len0.1 q)
theorem Fp.Dy.Valid.limbs {d:Dy} (h:d.Valid):(limbs d.m).length ≤ 256:=by have:=h.len; omega
end Go.Proofs.YtkbjkchapnjhgaaGreatDoor
namespace Go.Proofs.YtkbjkchapnjhgaaGreatDoor.Fp
structure Iv where
 lo:Dy
 hi:Dy
 all:Bool
def wholeI:Iv:=⟨zeroD,zeroD,true⟩
def Iv.Valid (x:Iv):Prop:=(x.all=true ∧ x.lo=zeroD ∧ x.hi=zeroD) ∨ (x.all=false ∧ x.lo.Valid ∧ x.hi.Valid ∧ cmpD x.lo x.hi ≤ 0)
theorem wholeI_valid:wholeI.Valid:=.inl ⟨rfl,rfl,rfl⟩
def madeI (lo:Dy) (e:Int) (hi:Dy) (f:Int):Iv:=if e ≠ 0 ∨ f ≠ 0 then wholeI else ⟨lo,hi,false⟩
def prodD (a b:Dy):Dy:=canon (a.neg != b.neg) (a.m * b.m) (a.e+b.e)
def negI (x:Iv):Iv:=if x.all then wholeI else ⟨negD x.hi,negD x.lo,false⟩
def addI (x y:Iv) (p:Nat):Iv :=
 if x.all || y.all then wholeI else madeI (rndD (sumD x.lo y.lo) p false) (rndE (sumD x.lo y.lo) p false) (rndD (sumD x.hi y.hi) p true) (rndE (sumD x.hi y.hi) p true)
def subI (x y:Iv) (p:Nat):Iv:=addI x (negI y) p
theorem cmpI_le_iff {x y:Int}:cmpI x y ≤ 0 ↔ x ≤ y:=by
 unfold cmpI
 split
 ·constructor <;> intro <;> omega
 ·split <;> constructor <;> intro <;> omega
theorem le_iff {a b:Dy} {k:Int} (ha:Above a k) (hb:Above b k):cmpD a b ≤ 0 ↔ a.num k ≤ b.num k:=by rw [cmpD_at ha hb,cmpI_le_iff]
theorem le_trans {a b c:Dy} (h1:cmpD a b ≤ 0) (h2:cmpD b c ≤ 0):cmpD a c ≤ 0:=by
 obtain ⟨k,ka,kb,kc⟩:∃ k:Int,k ≤ a.e ∧ k ≤ b.e ∧ k ≤ c.e:=⟨min a.e (min b.e c.e),by omega,by omega,by omega⟩
 rw [le_iff (.inr ka) (.inr kb)] at h1
 rw [le_iff (.inr kb) (.inr kc)] at h2
 rw [le_iff (.inr ka) (.inr kc)]
 omega
theorem le_refl' (a:Dy):cmpD a a ≤ 0:=by rw [le_iff (k:=a.e) (.inr (Int.le_refl _)) (.inr (Int.le_refl _))]; exact Int.le_refl _
theorem le_total' (a b:Dy):cmpD a b ≤ 0 ∨ cmpD b a ≤ 0:=by
 obtain ⟨k,ka,kb⟩:∃ k:Int,k ≤ a.e ∧ k ≤ b.e:=⟨min a.e b.e,by omega,by omega⟩
 rw [le_iff (.inr ka) (.inr kb),le_iff (.inr kb) (.inr ka)]
 omega
theorem neg_le {a b:Dy} (h:cmpD a b ≤ 0):cmpD (negD b) (negD a) ≤ 0:=by
 obtain ⟨k,ka,kb⟩:∃ k:Int,k ≤ a.e ∧ k ≤ b.e:=⟨min a.e b.e,by omega,by omega⟩
 rw [le_iff (.inr ka) (.inr kb)] at h
 rw [le_iff (k:=k) (above_negD (.inr kb)) (above_negD (.inr ka)),num_neg,num_neg]
 omega
theorem sum_le {a b c d:Dy} (h1:cmpD a b ≤ 0) (h2:cmpD c d ≤ 0):cmpD (sumD a c) (sumD b d) ≤ 0:=by
 obtain ⟨k,ka,kb,kc,kd⟩:∃ k:Int,k ≤ a.e ∧ k ≤ b.e ∧ k ≤ c.e ∧ k ≤ d.e:=⟨min (min a.e b.e) (min c.e d.e),by omega,by omega,by omega,by omega⟩
 rw [le_iff (.inr ka) (.inr kb)] at h1
 rw [le_iff (.inr kc) (.inr kd)] at h2
 rw [le_iff (k:=k) (above_sumD (.inr ka) (.inr kc)) (above_sumD (.inr kb) (.inr kd)),sumD_num (.inr ka) (.inr kc),sumD_num (.inr kb) (.inr kd)]
 omega
theorem cut_mag (m:Nat) (e:Int) (p:Nat) :
  cutQ m e false p false * 2 ^ cutK m e p ≤ m ∧ m ≤ cutQ m e false p true * 2 ^ cutK m e p:=by
 have h:=Nat.div_add_mod m (2 ^ cutK m e p)
 have hr:=Nat.mod_lt m (Nat.pow_pos (n:=cutK m e p) (by decide:0 < 2))
 unfold cutQ
 simp only [Bool.false_eq_true,false_and,if_false,Nat.add_zero,false_or,true_and]
 rw [Nat.mul_comm]
 generalize m / 2 ^ cutK m e p=q at *
 generalize 2 ^ cutK m e p=P at *
 refine ⟨by omega,?_⟩
 rw [Nat.add_mul,Nat.mul_comm q]
 split
 ·omega
 ·omega
theorem canon_le_mag {s:Bool} {m n:Nat} {e f K:Int} (h1:K ≤ e) (h2:K ≤ f) (h:m * 2 ^ (e - K).toNat ≤ n * 2 ^ (f - K).toNat) :
  (s=false → cmpD (canon s m e) (canon s n f) ≤ 0) ∧ (s=true → cmpD (canon s n f) (canon s m e) ≤ 0):=by
 constructor
 ·rintro rfl
  rw [le_iff (above_canon h1) (above_canon h2),num_canonF h1,num_canonF h2]
  exact_mod_cast h
 ·rintro rfl
  rw [le_iff (above_canon h2) (above_canon h1),num_canon h1,num_canon h2]
  simp only [if_true]
  omega
theorem cut_side (neg:Bool) (m:Nat) (e:Int) (p:Nat) (up:Bool) (he:cutE neg m e false p up=0) (_hp:1 ≤ p) :
  (up=true → cmpD (canon neg m e) (cutD neg m e false p up) ≤ 0) ∧ (up=false → cmpD (cutD neg m e false p up) (canon neg m e) ≤ 0):=by
 rw [cutE_zero] at he
 obtain ⟨c1,c2⟩:=cut_mag m e p
 have e1:(e - e).toNat=0:=by omega
 have e2:(e+(cutK m e p:Int) - e).toNat=cutK m e p:=by omega
 have hk:e ≤ e+(cutK m e p:Int):=by omega
 have A:=fun s:Bool=>canon_le_mag (s:=s) (m:=cutQ m e false p false) (n:=m) (e:=e+cutK m e p) (f:=e) (K:=e) hk (Int.le_refl _) (by rw [e1,e2]; simpa using c1)
 have B:=fun s:Bool=>canon_le_mag (s:=s) (m:=m) (n:=cutQ m e false p true) (e:=e) (f:=e+cutK m e p) (K:=e) (Int.le_refl _) hk (by rw [e1,e2]; simpa using c2)
 unfold cutD
 by_cases ho:cutOver m e false p (neg != up)=true
 ·have hn:¬ (neg != up)=true:=fun h=>he ⟨ho,h⟩
  rw [if_pos ho,if_neg hn]
  have hnu:neg=up:=by cases neg <;> cases up <;> simp at hn ⊢
  have hn2:(neg != up)=false:=by rw [hnu]; simp
  rw [hn2] at ho
  unfold cutOver at ho
  simp only [Bool.and_eq_true,decide_eq_true_eq] at ho
  obtain ⟨o1,o2⟩:=ho
  have hq:=two_pow_le_of_bitsN o1
  have hbp:=bitsN_pos o1
  obtain ⟨K,k1,k2⟩:∃ K:Int,K ≤ e ∧ K ≤ 16384 - p:=⟨min e (16384 - p),by omega,by omega⟩
  have C:(2 ^ p - 1) * 2 ^ ((16384:Int) - p - K).toNat ≤ m * 2 ^ (e - K).toNat:=by
   have h1:2 ^ (bitsN (cutQ m e false p false) - 1) * 2 ^ cutK m e p ≤ m:=Nat.le_trans (Nat.mul_le_mul_right _ hq) c1
   have h2:=Nat.mul_le_mul_right (2 ^ (e - K).toNat) h1
   rw [← Nat.pow_add,← Nat.pow_add] at h2
   refine Nat.le_trans (Nat.mul_le_mul_right _ (Nat.sub_le _ _)) (Nat.le_trans ?_ h2)
   rw [← Nat.pow_add]
   exact Nat.pow_le_pow_right (by decide) (by omega)
  have D:=canon_le_mag (s:=neg) k2 k1 C
  subst hnu
  cases neg
  ·exact ⟨fun h=>absurd h (by decide),fun _=>D.1 rfl⟩
  ·exact ⟨fun _=>D.2 rfl,fun h=>absurd h (by decide)⟩
 ·rw [if_neg ho]
  cases neg <;> cases up
  ·exact ⟨fun h=>absurd h (by decide),fun _=>(A false).1 rfl⟩
  ·exact ⟨fun _=>(B false).1 rfl,fun h=>absurd h (by decide)⟩
  ·exact ⟨fun h=>absurd h (by decide),fun _=>(B true).2 rfl⟩
  ·exact ⟨fun _=>(A true).2 rfl,fun h=>absurd h (by decide)⟩
theorem rnd_side {d:Dy} (hd:d.Canon) (p:Nat) (hp:1 ≤ p) :
  (rndE d p true=0 → cmpD d (rndD d p true) ≤ 0) ∧ (rndE d p false=0 → cmpD (rndD d p false) d ≤ 0):=by
 have h:=hd.canon_eq
 constructor
 ·intro he
  have:=(cut_side d.neg d.m d.e p true he hp).1 rfl
  rwa [h] at this
 ·intro he
  have:=(cut_side d.neg d.m d.e p false he hp).2 rfl
  rwa [h] at this
theorem addI_valid {x y:Iv} (hx:x.Valid) (hy:y.Valid) {p:Nat} (hp:1 ≤ p) (hp2:p ≤ 4096):(addI x y p).Valid:=by
 unfold addI
 rcases hx with ⟨h,_⟩ | ⟨h1,h2,h3,h4⟩
 ·rw [h]; exact wholeI_valid
 ·rcases hy with ⟨h,_⟩ | ⟨k1,k2,k3,k4⟩
  ·rw [h,h1]; exact wholeI_valid
  ·rw [h1,k1]
   simp only [Bool.or_self,Bool.false_eq_true,if_false]
   unfold madeI
   by_cases he:rndE (sumD x.lo y.lo) p false ≠ 0 ∨ rndE (sumD x.hi y.hi) p true ≠ 0
   ·rw [if_pos he]; exact wholeI_valid
   ·rw [if_neg he]
    have e1:rndE (sumD x.lo y.lo) p false=0:=by omega
    have e2:rndE (sumD x.hi y.hi) p true=0:=by omega
    refine .inr ⟨rfl,cut_valid _ _ _ _ _ _ hp hp2,cut_valid _ _ _ _ _ _ hp hp2,?_⟩
    exact le_trans ((rnd_side (canon_sumD h2.canon k2.canon) p hp).2 e1) (le_trans (sum_le h4 k4) ((rnd_side (canon_sumD h3.canon k3.canon) p hp).1 e2))
theorem negI_valid {x:Iv} (hx:x.Valid):(negI x).Valid:=by
 unfold negI
 rcases hx with ⟨h,_⟩ | ⟨h1,h2,h3,h4⟩
 ·rw [if_pos h]; exact wholeI_valid
 ·rw [h1]
  exact .inr ⟨rfl,negD_valid h3,negD_valid h2,neg_le h4⟩
def minD (a b:Dy):Dy:=if cmpD b a < 0 then b else a
def maxD (a b:Dy):Dy:=if 0 < cmpD b a then b else a
theorem minD_left (a b:Dy):cmpD (minD a b) a ≤ 0:=by
 unfold minD; split
 ·omega
 ·exact le_refl' a
theorem minD_right (a b:Dy):cmpD (minD a b) b ≤ 0:=by
 unfold minD; split
 ·exact le_refl' b
 ·rcases le_total' a b with h | h
  ·exact h
  ·have h0:cmpD b a=0:=by omega
   obtain ⟨k,ka,kb⟩:∃ k:Int,k ≤ a.e ∧ k ≤ b.e:=⟨min a.e b.e,by omega,by omega⟩
   rw [cmpD_at (k:=k) (.inr kb) (.inr ka)] at h0
   rw [le_iff (.inr ka) (.inr kb)]
   unfold cmpI at h0
   split at h0
   ·omega
   ·split at h0 <;> omega
theorem cmpD_neg (a b:Dy):cmpD a b = -cmpD b a:=by
 obtain ⟨k,ka,kb⟩:∃ k:Int,k ≤ a.e ∧ k ≤ b.e:=⟨min a.e b.e,by omega,by omega⟩
 rw [cmpD_at (k:=k) (.inr ka) (.inr kb),cmpD_at (k:=k) (.inr kb) (.inr ka)]
 unfold cmpI
 split <;> split <;> (try split) <;> omega
theorem maxD_left (a b:Dy):cmpD a (maxD a b) ≤ 0:=by
 unfold maxD; split
 ·rw [cmpD_neg]; omega
 ·exact le_refl' a
theorem maxD_right (a b:Dy):cmpD b (maxD a b) ≤ 0:=by
 unfold maxD; split
 ·exact le_refl' b
 ·omega
theorem minD_valid {a b:Dy} (ha:a.Valid) (hb:b.Valid):(minD a b).Valid:=by unfold minD; split; exact hb; exact ha
theorem maxD_valid {a b:Dy} (ha:a.Valid) (hb:b.Valid):(maxD a b).Valid:=by unfold maxD; split; exact hb; exact ha
def fourI (D : Dy → Dy → Bool → Dy) (E : Dy → Dy → Bool → Int) (x y : Iv) : Iv :=
  if (E x.lo y.lo false = 0 ∧ E x.lo y.lo true = 0) ∧ (E x.lo y.hi false = 0 ∧ E x.lo y.hi true = 0) ∧ (E x.hi y.lo false = 0 ∧ E x.hi y.lo true = 0) ∧ (E x.hi y.hi false = 0 ∧ E x.hi y.hi true = 0) then
    ⟨minD (minD (minD (D x.lo y.lo false) (D x.lo y.hi false)) (D x.hi y.lo false)) (D x.hi y.hi false),
     maxD (maxD (maxD (D x.lo y.lo true) (D x.lo y.hi true)) (D x.hi y.lo true)) (D x.hi y.hi true), false⟩
  else wholeI
theorem fourI_valid {D:Dy → Dy → Bool → Dy} {E:Dy → Dy → Bool → Int} {x y:Iv} (hv:∀ a b up,(D a b up).Valid)
  (hle:E x.lo y.lo false=0 → E x.lo y.lo true=0 → cmpD (D x.lo y.lo false) (D x.lo y.lo true) ≤ 0):(fourI D E x y).Valid:=by
 unfold fourI
 split
 ·rename_i h
  refine .inr ⟨rfl,minD_valid (minD_valid (minD_valid (hv _ _ _) (hv _ _ _)) (hv _ _ _)) (hv _ _ _),maxD_valid (maxD_valid (maxD_valid (hv _ _ _) (hv _ _ _)) (hv _ _ _)) (hv _ _ _),?_⟩
  refine le_trans (minD_left _ _) (le_trans (minD_left _ _) (le_trans (minD_left _ _) (le_trans (hle h.1.1 h.1.2) ?_)))
  exact le_trans (maxD_left _ _) (le_trans (maxD_left _ _) (maxD_left _ _))
 ·exact wholeI_valid
def mulI (x y:Iv) (p:Nat):Iv :=
 if x.all || y.all then wholeI else fourI (fun a b up=>rndD (prodD a b) p up) (fun a b up=>rndE (prodD a b) p up) x y
theorem mulI_valid (x y:Iv) {p:Nat} (hp:1 ≤ p) (hp2:p ≤ 4096):(mulI x y p).Valid:=by
 unfold mulI
 split
 ·exact wholeI_valid
 ·exact fourI_valid (fun _ _ _=>cut_valid _ _ _ _ _ _ hp hp2) (fun h1 h2=>cut_le _ _ _ _ _ h1 h2)
def divK (a b:Dy) (p:Nat) (g:Nat):Nat:=p+g+bitsN b.m - bitsN a.m
def divD (a b:Dy) (p:Nat) (up:Bool):Dy :=
 if a.m=0 then zeroD else cutD (a.neg != b.neg) (a.m * 2 ^ divK a b p 2 / b.m) (a.e - b.e - divK a b p 2) (decide (a.m * 2 ^ divK a b p 2 % b.m ≠ 0)) p up
def divE (a b:Dy) (p:Nat) (up:Bool):Int :=
 if a.m=0 then 0 else cutE (a.neg != b.neg) (a.m * 2 ^ divK a b p 2 / b.m) (a.e - b.e - divK a b p 2) (decide (a.m * 2 ^ divK a b p 2 % b.m ≠ 0)) p up
theorem div_bits {a b:Dy} (a0:a.m ≠ 0) (b0:b.m ≠ 0) (p g:Nat) (hg:2 ≤ g):p < bitsN (a.m * 2 ^ divK a b p g / b.m):=by
 have h1:=two_pow_le_of_bitsN a0
 have h2:=lt_two_pow_bitsN b.m
 have ha:=bitsN_pos a0
 have h3:2 ^ p ≤ a.m * 2 ^ divK a b p g / b.m:=by
  rw [Nat.le_div_iff_mul_le (by omega)]
  refine Nat.le_trans (Nat.mul_le_mul_left _ (Nat.le_of_lt h2)) (Nat.le_trans ?_ (Nat.mul_le_mul_right _ h1))
  rw [← Nat.pow_add,← Nat.pow_add]
  exact Nat.pow_le_pow_right (by decide) (by unfold divK; omega)
 exact lt_bitsN_iff.2 h3
theorem div_more {a b:Dy} (a0:a.m ≠ 0) (b0:b.m ≠ 0) (p:Nat) (up:Bool) :
  cutD (a.neg != b.neg) (a.m * 2 ^ divK a b p 3 / b.m) (a.e - divK a b p 3 - b.e) (decide (a.m * 2 ^ divK a b p 3 % b.m ≠ 0)) p up=divD a b p up ∧
  cutE (a.neg != b.neg) (a.m * 2 ^ divK a b p 3 / b.m) (a.e - divK a b p 3 - b.e) (decide (a.m * 2 ^ divK a b p 3 % b.m ≠ 0)) p up=divE a b p up:=by
 obtain ⟨d,hd⟩:∃ d,divK a b p 3=divK a b p 2+d:=⟨divK a b p 3 - divK a b p 2,by unfold divK; omega⟩
 have hb:=div_bits a0 b0 p 2 (by decide)
 unfold divD divE
 rw [if_neg a0,if_neg a0,hd]
 generalize divK a b p 2=k at *
 have hB:0 < b.m:=by omega
 have hP:=Nat.pow_pos (n:=d) (by decide:0 < 2)
 have e1:a.m * 2 ^ (k+d) / b.m / 2 ^ d=a.m * 2 ^ k / b.m:=by
  rw [Nat.div_div_eq_div_mul,Nat.pow_add,← Nat.mul_assoc,Nat.mul_div_mul_right _ _ hP]
 have e2:(decide (a.m * 2 ^ (k+d) % b.m ≠ 0) || decide (a.m * 2 ^ (k+d) / b.m % 2 ^ d ≠ 0))=decide (a.m * 2 ^ k % b.m ≠ 0):=by
  have h1:a.m * 2 ^ (k+d) % (b.m * 2 ^ d)=a.m * 2 ^ k % b.m * 2 ^ d:=by rw [Nat.pow_add,← Nat.mul_assoc,Nat.mul_mod_mul_right]
  have h2:a.m * 2 ^ (k+d) % (b.m * 2 ^ d)=a.m * 2 ^ (k+d) % b.m+b.m * (a.m * 2 ^ (k+d) / b.m % 2 ^ d):=Nat.mod_mul
  rw [h1] at h2
  rw [Bool.eq_iff_iff]
  simp only [Bool.or_eq_true,decide_eq_true_eq]
  constructor
  ·intro h h0
   rw [h0,Nat.zero_mul] at h2
   rcases h with h | h
   ·omega
   ·have:=Nat.mul_pos hB (Nat.pos_of_ne_zero h)
    omega
  ·intro h
   apply Classical.byContradiction
   intro hn
   have n1:a.m * 2 ^ (k+d) % b.m=0:=by
    apply Classical.byContradiction; intro h'; exact hn (.inl h')
   have n2:a.m * 2 ^ (k+d) / b.m % 2 ^ d=0:=by
    apply Classical.byContradiction; intro h'; exact hn (.inr h')
   rw [n1,n2,Nat.mul_zero] at h2
   have:=Nat.mul_pos (Nat.pos_of_ne_zero h) hP
   omega
 have h:=cutD_shift (N:=a.m * 2 ^ (k+d) / b.m) (E:=a.e - ((k+d:Nat):Int) - b.e) (more:=decide (a.m * 2 ^ (k+d) % b.m ≠ 0)) (d:=d) (p:=p) (a.neg != b.neg) up (by rw [e1]; exact hb)
 rw [e1,e2,show a.e - ((k+d:Nat):Int) - b.e+(d:Int)=a.e - b.e - (k:Int) by omega] at h
 exact ⟨h.1.symm,h.2.symm⟩
def signI (x:Iv):Int:=if x.all then 0 else if 0 < x.lo.sign then 1 else if x.hi.sign < 0 then -1 else 0
def divI (x y:Iv) (p:Nat):Iv :=
 if x.all || y.all || decide (signI y=0) then wholeI else fourI (fun a b up=>divD a b p up) (fun a b up=>divE a b p up) x y
theorem divI_valid (x y:Iv) {p:Nat} (hp:1 ≤ p) (hp2:p ≤ 4096):(divI x y p).Valid:=by
 unfold divI
 split
 ·exact wholeI_valid
 ·refine fourI_valid (fun a b up=>?_) (fun h1 h2=>?_)
  ·unfold divD; split
   ·exact zeroD_valid
   ·exact cut_valid _ _ _ _ _ _ hp hp2
  ·unfold divD divE at *
   split
   ·exact le_refl' _
   ·rename_i h
    rw [if_neg h] at h1 h2
    exact cut_le _ _ _ _ _ h1 h2
def absD (d:Dy):Dy:=⟨false,d.m,d.e⟩
theorem absD_valid {d:Dy} (h:d.Valid):(absD d).Valid:=by
 refine ⟨?_,h.range⟩
 rcases h.canon with ⟨h1,_,h3⟩ | h1
 ·exact .inl ⟨h1,rfl,h3⟩
 ·exact .inr h1
theorem absD_num (d:Dy) (k:Int):(absD d).num k=(d.mag k:Int):=by unfold Dy.num absD Dy.mag; simp
def magI (x:Iv):Dy:=maxD (absD x.lo) (absD x.hi)
def migI (x:Iv):Dy:=if signI x=0 then zeroD else minD (absD x.lo) (absD x.hi)
def absI (x:Iv):Iv:=if x.all then wholeI else ⟨migI x,magI x,false⟩
def pointI (d:Dy):Iv:=⟨d,d,false⟩
theorem pointI_valid {d:Dy} (h:d.Valid):(pointI d).Valid:=.inr ⟨rfl,h,h,le_refl' d⟩
theorem magI_valid {x:Iv} (h1:x.lo.Valid) (h2:x.hi.Valid):(magI x).Valid:=maxD_valid (absD_valid h1) (absD_valid h2)
theorem absI_valid {x:Iv} (h:x.Valid):(absI x).Valid:=by
 unfold absI
 rcases h with ⟨h,_⟩ | ⟨h,h1,h2,_⟩
 ·rw [h]; exact wholeI_valid
 ·rw [h]
  have v1:=absD_valid h1
  have v2:=absD_valid h2
  refine .inr ⟨rfl,?_,magI_valid h1 h2,?_⟩
  ·show (migI x).Valid
   unfold migI; split
   ·exact zeroD_valid
   ·exact minD_valid v1 v2
  ·show cmpD (migI x) (magI x) ≤ 0
   unfold migI; split
   ·refine le_trans (b:=absD x.lo) ?_ (maxD_left _ _)
    rw [le_iff (a:=zeroD) (b:=absD x.lo) (k:=x.lo.e) (.inl rfl) (.inr (Int.le_refl _)),num_zero rfl,absD_num]
    omega
   ·exact le_trans (minD_left _ _) (maxD_left _ _)
def intD (n:Int):Dy:=canonZ n 0
def exH:Iv:=pointI (canon false 1 (-1))
end Go.Proofs.YtkbjkchapnjhgaaGreatDoor.Fp
namespace Go.Proofs.YtkbjkchapnjhgaaGreatDoor
open Go.RowKit Fp Pu
def ivL (x:Iv):List E:=[bP x.lo.neg,slP (limbs x.lo.m),iP x.lo.e,bP x.hi.neg,slP (limbs x.hi.m),iP x.hi.e,bP x.all]
def ivP (x:Iv):E:=.agg (ivL x)
def ivsP (l:List Iv):E:=.sl true l.length 7 fun i j=>(ivL (l.getD i wholeI)).getD j .any
def matP (m:List (List Iv)):E:=.sl true m.length 1 fun i _=>ivsP (m.getD i [])
def insI (x y:Iv):Bool:=y.all || (!x.all && (decide (cmpD y.lo x.lo ≤ 0) && decide (cmpD x.hi y.hi ≤ 0)))
theorem nilLimb_le:E.le (.v (.slice none 0 0)) (slP (limbs 0)):=by
 have:slP (limbs 0) = .sl false 0 1 fun i _=>.v (.int .u32 (((limbs 0).getD i 0:Nat):Int)):=by unfold slP; rw [limbs_zero]; rfl
 rw [this]
 exact .nil _ _ _
theorem wholeP_le:E.le (.agg [bP false,.v (.slice none 0 0),iP 0,bP false,.v (.slice none 0 0),iP 0,bP true]) (ivP wholeI) :=
 .agg (.cons (.refl _) (.cons nilLimb_le (.cons (.refl _) (.cons (.refl _) (.cons nilLimb_le (.cons (.refl _) (.cons (.refl _) .nil)))))))
open Go.RowKit Fp Pu
structure RD where
 neg:Bool
 L:List Nat
 e:Int
structure RI where
 lo:RD
 hi:RD
 all:Bool
def rdL (d:RD):List E:=[bP d.neg,slP d.L,iP d.e]
def rdP (d:RD):E:=.agg (rdL d)
def riL (x:RI):List E:=[bP x.lo.neg,slP x.lo.L,iP x.lo.e,bP x.hi.neg,slP x.hi.L,iP x.hi.e,bP x.all]
def riP (x:RI):E:=.agg (riL x)
def rzero:RD:=⟨false,[],0⟩
def rwhole:RI:=⟨rzero,rzero,true⟩
def risP (l:List RI):E:=.sl true l.length 7 fun i j=>(riL (l.getD i rwhole)).getD j .any
structure RD.Good (d:RD):Prop where
 ok:Ok32 d.L
 lo:-9223372036854775808 ≤ d.e
 hi:d.e ≤ 9223372036854775807
structure RI.Good (x:RI):Prop where
 lo:x.lo.Good
 hi:x.hi.Good
theorem rzero_good:rzero.Good:=⟨Ok32.nil,by decide,by decide⟩
theorem rwhole_good:rwhole.Good:=⟨rzero_good,rzero_good⟩
def RD.dy (d:RD):Dy:=⟨d.neg,val d.L,d.e⟩
def RD.Ok (d:RD):Prop:=Dok d.neg d.L d.e
def RD.Zero (d:RD):Prop:=d.neg=false ∧ d.L=[] ∧ d.e=0
def RI.iv (x:RI):Iv:=⟨x.lo.dy,x.hi.dy,x.all⟩
def RI.Ok (x:RI):Prop:=(x.all=true ∧ x.lo.Zero ∧ x.hi.Zero) ∨ (x.all=false ∧ x.lo.Ok ∧ x.hi.Ok ∧ cmpD x.lo.dy x.hi.dy ≤ 0)
def Fp.Dy.raw (d:Dy):RD:=⟨d.neg,limbs d.m,d.e⟩
def Fp.Iv.raw (x:Iv):RI:=⟨x.lo.raw,x.hi.raw,x.all⟩
theorem RD.Ok.valid {d:RD} (h:d.Ok):d.dy.Valid:=h.2.2
theorem RD.Ok.eq {d:RD} (h:d.Ok) (g:d.Good):d.dy.raw=d:=by
 obtain ⟨n,L,e⟩:=d
 show RD.mk n (limbs (val L)) e=_
 rw [← Dok.eq_limbs h g.ok]
theorem RD.Zero.eq {d:RD} (h:d.Zero):d.dy=zeroD ∧ d.dy.raw=d:=by
 obtain ⟨n,L,e⟩:=d
 obtain ⟨rfl,rfl,rfl⟩:=h
 refine ⟨rfl,?_⟩
 show RD.mk false (limbs 0) 0=_
 rw [limbs_zero]
theorem RI.Ok.valid {x:RI} (h:x.Ok):x.iv.Valid:=by
 rcases h with ⟨h1,h2,h3⟩ | ⟨h1,h2,h3,h4⟩
 ·exact .inl ⟨h1,h2.eq.1,h3.eq.1⟩
 ·exact .inr ⟨h1,h2.valid,h3.valid,h4⟩
theorem RI.Ok.eq {x:RI} (h:x.Ok) (g:x.Good):x.iv.raw=x:=by
 obtain ⟨lo,hi,a⟩:=x
 rcases h with ⟨h1,h2,h3⟩ | ⟨h1,h2,h3,h4⟩
 ·show RI.mk lo.dy.raw hi.dy.raw a=_
  rw [h2.eq.2,h3.eq.2]
 ·show RI.mk lo.dy.raw hi.dy.raw a=_
  rw [h2.eq g.lo,h3.eq g.hi]
theorem Fp.Dy.raw_dy (d:Dy):d.raw.dy=d:=by show Dy.mk d.neg (val (limbs d.m)) d.e=d; rw [val_limbs]
theorem dyP_raw (d:Dy):rdP d.raw=dyP d:=rfl
theorem ivP_raw (x:Iv):riP x.raw=ivP x:=rfl
theorem Fp.Iv.Valid.ends {x:Iv} (h:x.Valid):x.lo.Valid ∧ x.hi.Valid:=by
 rcases h with ⟨_,h2,h3⟩ | ⟨_,h2,h3,_⟩
 ·rw [h2,h3]; exact ⟨zeroD_valid,zeroD_valid⟩
 ·exact ⟨h2,h3⟩
def MGood (m:List (List RI)):Prop:=∀ r,r ∈ m → ∀ x,x ∈ r → x.Good
theorem MGood.at {m:List (List RI)} (h:MGood m) (i j:Nat):((m.getD i []).getD j rwhole).Good:=by
 by_cases hi:i < m.length
 ·rw [List.getD_eq_getElem?_getD (l:=m),List.getElem?_eq_getElem hi]
  show (m[i].getD j rwhole).Good
  by_cases hj:j < m[i].length
  ·rw [List.getD_eq_getElem?_getD,List.getElem?_eq_getElem hj]
   exact h _ (List.getElem_mem hi) _ (List.getElem_mem hj)
  ·rw [List.getD_eq_getElem?_getD,List.getElem?_eq_none (by omega)]; exact rwhole_good
 ·rw [List.getD_eq_getElem?_getD (l:=m),List.getElem?_eq_none (by omega)]
  exact rwhole_good
theorem dyValidR_pc (d:RD) (g:d.Good) (b:Bool) (hb:b=true ↔ d.Ok):PCt 30 [rdP d] (bP b):=by
 refine ⟨Tryz.call30,fun w B vs hK hB hr=>?_⟩
 obtain ⟨v1,vs,rfl,h1,hr⟩:=hr.uncons
 obtain rfl:=hr.nil_inv
 obtain ⟨us,rfl,q⟩:=Rep.agg_inv (show Rep _ _ w (.agg _) v1 from h1)
 obtain ⟨u1,us,rfl,k1,q⟩:=q.uncons
 obtain ⟨u2,us,rfl,k2,q⟩:=q.uncons
 obtain ⟨u3,us,rfl,k3,q⟩:=q.uncons
 obtain rfl:=q.nil_inv
 obtain rfl:=Rep.v_inv k1
 obtain rfl:=Rep.v_inv k3
 obtain ⟨A,c,rfl,hs⟩:=slP_inv g.ok k2
 exact (dyValid_any d.neg A c d.L d.e w b hs g.lo g.hi hb).mono fun e w' h=>rv B w e w' hB h
theorem refValidR_pc (d:RD) (g:d.Good) (b:Bool) (hb:b=true ↔ d.Ok):PCt 6 [rdP d] (bP b):=by
 refine ⟨Tryz.call6,fun w B vs hK hB hr=>?_⟩
 obtain ⟨v1,vs,rfl,h1,hr⟩:=hr.uncons
 obtain rfl:=hr.nil_inv
 obtain ⟨us,rfl,q⟩:=Rep.agg_inv (show Rep _ _ w (.agg _) v1 from h1)
 obtain ⟨u1,us,rfl,k1,q⟩:=q.uncons
 obtain ⟨u2,us,rfl,k2,q⟩:=q.uncons
 obtain ⟨u3,us,rfl,k3,q⟩:=q.uncons
 obtain rfl:=q.nil_inv
 obtain rfl:=Rep.v_inv k1
 obtain rfl:=Rep.v_inv k3
 obtain ⟨A,c,rfl,hs⟩:=slP_inv g.ok k2
 exact (refValid_any d.neg A c d.L d.e w b hs g.lo g.hi hb).mono fun e w' h=>rv B w e w' hB h
theorem natNe_false {a b:Nat} (h:a=b):(((a:Nat):Int) != ((b:Nat):Int))=false:=by simp [h]
theorem natEq_true {a b:Nat} (h:a=b):(((a:Nat):Int) == ((b:Nat):Int))=true:=by simp [h]
open Classical in
noncomputable def okB (x:RI):Bool:=decide x.Ok
theorem okB_true {x:RI}:okB x=true ↔ x.Ok:=by unfold okB; simp
open Classical in
open Go.ChangeShapes Go.WideShapes Go.ChangeAt Go.RowKit Fp Pu
abbrev noB:Nat → Prop:=fun _=>False
def IsRd (W:World) (d:RD) (cs:List Value):Prop:=d.Good ∧ cs.length=3 ∧ ∀ j,j < 3 → ∃ v,cs[j]? = some v ∧ Rep noB noB W ((rdL d).getD j .any) v
def IsRi (W:World) (x:RI) (cs:List Value):Prop:=x.Good ∧ cs.length=7 ∧ ∀ j,j < 7 → ∃ v,cs[j]? = some v ∧ Rep noB noB W ((riL x).getD j .any) v
section
variable {H:Type} {enc:TypeId × Value → H} {W:World} {fuel:Nat} {cs:List Value} {x:DataW H × List MemPlace}
theorem open_rd (h:DataW.trod enc Tryz.prog W 0 (fun _=>true) true fuel 24 cs=some x) (hlt:∀ p ∈ x.2,p.block < W.heap.size):∃ d,IsRd W d cs:=by
 obtain ⟨s,A,L,cap,e,rfl,hsl,h1,h2⟩:=open_dy h hlt
 refine ⟨⟨s,L,e⟩,⟨hsl.ok,h1,h2⟩,rfl,fun j hj=>?_⟩
 rcases j with _ | _ | _ | j
 ·exact ⟨_,rfl,.v _⟩
 ·exact ⟨_,rfl,slP_rep (w:=W) (fun _ h=>h.elim) (.refl _) hsl⟩
 ·exact ⟨_,rfl,.v _⟩
 ·omega
theorem open_ri (h:DataW.trod enc Tryz.prog W 0 (fun _=>true) true fuel 26 cs=some x) (hlt:∀ p ∈ x.2,p.block < W.heap.size):∃ d,IsRi W d cs:=by
 obtain ⟨xs,n,rfl,rfl,hl,hxl,hf⟩:=DataW.trod_struct Tryz.underlying26 h
 have hC:Tryz.prog.cellsOf 26=7:=by kernel_rfl
 have hD:Tryz.prog.cellsOf 24=3:=by kernel_rfl
 have hB:Tryz.prog.cellsOf 4=1:=by kernel_rfl
 rw [hC] at hl
 obtain ⟨c0,c1,c2,c3,c4,c5,c6,rfl⟩:=list7 hl
 have h0:=hf 0 _ rfl
 have h1:=hf 1 _ rfl
 have h2:=hf 2 _ rfl
 simp only [List.getElem_toArray,List.getElem_cons_zero,List.getElem_cons_succ] at h0 h1 h2
 simp only [hD,hB,List.drop_zero,List.drop_succ_cons,List.take_succ_cons,List.take_zero] at h0 h1 h2
 rw [List.getElem?_eq_getElem (by rw [hxl]; decide)] at h0 h1 h2
 obtain ⟨lo,g1,_,k1⟩:=open_rd h0 (fun p hp=>hlt p (List.mem_flatMap.2 ⟨_,List.getElem_mem _,hp⟩))
 obtain ⟨hi,g2,_,k2⟩:=open_rd h1 (fun p hp=>hlt p (List.mem_flatMap.2 ⟨_,List.getElem_mem _,hp⟩))
 obtain ⟨al,e2,_⟩:=DataW.trod_bool Tryz.underlying4 h2
 simp at e2
 subst e2
 refine ⟨⟨lo,hi,al⟩,⟨g1,g2⟩,rfl,fun j hj=>?_⟩
 rcases j with _ | _ | _ | _ | _ | _ | _ | j
 ·exact k1 0 (by decide)
 ·exact k1 1 (by decide)
 ·exact k1 2 (by decide)
 ·exact k2 0 (by decide)
 ·exact k2 1 (by decide)
 ·exact k2 2 (by decide)
 ·exact ⟨_,rfl,.v _⟩
 ·omega
theorem ri_agg {x:RI} {cs:Array Value} (h:IsRi W x cs.toList):Rep noB noB W (riP x) (.agg cs):=by
 obtain ⟨_,hl,h⟩:=h
 have:=Rep.agg (bs:=noB) (br:=noB) (w:=W) (riL x) cs.toList (by rw [hl]; rfl) (fun i p v h1 h2=>by
  have hi:i < 7:=by have:=(List.getElem?_eq_some_iff.1 h2).1; omega
  obtain ⟨v',h3,h4⟩:=h i hi
  rw [h2] at h3
  cases h3
  rw [List.getD_eq_getElem?_getD,h1] at h4
  exact h4)
 unfold riP
 simpa using this
end
open Go.ChangeShapes Go.WideShapes Go.ChangeAt Go.RowKit Fp Pu
end Go.Proofs.YtkbjkchapnjhgaaGreatDoor
namespace Go.Proofs.YtkbjkchapnjhgaaGreatDoor.Pu
open Go.RowKit
inductive R where
 | nil
 | bad
 | a (p:Prop) (r:R)
 | w (p:Prop) (r1:p → R) (r2:¬ p → R)
def R.ok:R → Prop
 | .nil=>True
 | .bad=>False
 | .a p r=>p ∧ r.ok
 | .w p r1 r2=>(∀ h:p,(r1 h).ok) ∧ (∀ h:¬ p,(r2 h).ok)
inductive Tr (P:Program) (K:World → Prop) where
 | nil
 | c {f:FuncId} {args:List E} {res:E} (h:PC P K f args res) (t:Tr P K)
 | cf {f:FuncId} {args:List E} {res:E} (h:PCF P K f args res) (t:Tr P K)
 | cn {f:FuncId} {args:List E} {nl:Bool} {T:TypeId} {n sz:Nat} {el:Nat → Nat → E} (h:PCN P K f args nl T n sz el) (t:Tr P K)
 | g {op:BinOp} {ty:TypeId} {x y:E} {v:Value} (h:OpOK P op ty x y v) (t:Tr P K)
 | o (d:Nat) {p q:PV} (h:PV.le p q) (t:Tr P K)
 | bo (t:Tr P K)
 | a {p:Prop} (h:p) (t:Tr P K)
 | w (p:Prop) (t1:p → Tr P K) (t2:¬ p → Tr P K)
 | s {c:Code} {σ τ:PS} {e:Ex} (h:Sp P K c σ (fun e' τ'=>e'=e ∧ τ'=τ)) (l t:Tr P K)
 | j (c:Nat) (τ:PS) (tj t:Tr P K)
 | v (d:Nat) {p q:PV} (h:PV.le p q) (t:Tr P K)
 | b (d:Nat) {p q:Bx} (h:Bx.le p q) (t:Tr P K)
 | z (id:Nat) (t:Tr P K)
 | y (s id:Nat) (nl:Bool) (T:TypeId) (sz:Nat) (el:Nat → Nat → E) (t:Tr P K)
 | e (t:Tr P K)
 | k (ts bs:List Nat) (t:Tr P K)
 | u (n:Nat) (t:Tr P K)
 | x (h:False)
 | r {p q:E} (h:E.le p q)
 | rb {p q:Bx} (h:Bx.le p q)
section
variable {P:Program} {K:World → Prop}
def tEx:List (Nat × PV) → Tr P K → (Tr P K → R) → R
 | [],t,k=>k t
 | (d,q) :: l,t,k=>match t with
  | .o d' (p:=p) (q:=q') _ t'=>if Nat.beq d' d then .a (PV.le p q') (tEx l t' k) else .a (PV.le q q) (tEx l t k)
  | t=>.a (PV.le q q) (tEx l t k)
def bEx:List (Nat × Bx) → Tr P K → R → R
 | [],_,r=>r
 | (d,q) :: l,t,r=>match t with
  | .b d' (p:=p) (q:=q') _ t'=>if Nat.beq d' d then .a (Bx.le p q') (bEx l t' r) else .a (Bx.le q q) (bEx l t r)
  | t=>.a (Bx.le q q) (bEx l t r)
def stEx (σ:PS) (t:Tr P K) (r:R):R:=tEx σ.t t fun t=>bEx σ.b t r
def Tr.ex:Tr P K → (Tr P K → R) → R
 | .nil,fin=>fin .nil
 | .e t,fin=>fin t
 | @Tr.c _ _ f args res _ t,fin=>.a (PC P K f args res) (t.ex fin)
 | @Tr.cf _ _ f args res _ t,fin=>.a (PCF P K f args res) (t.ex fin)
 | @Tr.cn _ _ f args nl T n sz el _ t,fin=>.a (PCN P K f args nl T n sz el) (t.ex fin)
 | @Tr.g _ _ op₁ ty₁ xe₁ ye₁ ve₁ _ t,fin=>.a (OpOK P op₁ ty₁ xe₁ ye₁ ve₁) (t.ex fin)
 | .o _ (p:=p) (q:=q) _ t,fin=>.a (PV.le p q) (t.ex fin)
 | .bo t,fin=>.a True (t.ex fin)
 | .a (p:=p) _ t,fin=>.a p (t.ex fin)
 | .w p t1 t2,fin=>.w p (fun h=>(t1 h).ex fin) (fun h=>(t2 h).ex fin)
 | @Tr.s _ _ c₁ σ τ e₁ _ l t,fin=>stEx σ l (.a (Sp P K c₁ σ (fun e' τ'=>e'=e₁ ∧ τ'=τ)) (t.ex fin))
 | .j _ τ tj t,fin=>.a (tj.ex fun t=>stEx τ t .nil).ok (t.ex fin)
 | .v _ (p:=p) (q:=q) _ t,fin=>.a (PV.le p q) (t.ex fin)
 | .b _ _ t,fin=>t.ex fin
 | .z _ t,fin=>t.ex fin
 | .y _ _ _ _ _ _ t,fin=>t.ex fin
 | .k _ _ t,fin=>t.ex fin
 | .u _ t,fin=>t.ex fin
 | .x _,fin=>.a False .nil
 | .r (p:=p) (q:=q) _,fin=>.a (E.le p q) .nil
 | .rb (p:=p) (q:=q) _,fin=>.a (Bx.le p q) .nil
theorem tEx_ok {l:List (Nat × PV)} {t:Tr P K} {k:Tr P K → R} (hk:∀ t,(k t).ok):(tEx l t k).ok:=by
 induction l generalizing t with
 | nil=>exact hk t
 | cons x l ih =>
  obtain ⟨d,q⟩:=x
  cases t with
  | o d' h t' =>
   simp only [tEx]
   split
   ·exact ⟨h,ih⟩
   ·exact ⟨PV.le.refl q,ih⟩
  | _=>exact ⟨PV.le.refl q,ih⟩
theorem bEx_ok {l:List (Nat × Bx)} {t:Tr P K} {r:R} (hr:r.ok):(bEx l t r).ok:=by
 induction l generalizing t with
 | nil=>exact hr
 | cons x l ih =>
  obtain ⟨d,q⟩:=x
  cases t with
  | b d' h t' =>
   simp only [bEx]
   split
   ·exact ⟨h,ih⟩
   ·exact ⟨Bx.le.refl q,ih⟩
  | _=>exact ⟨Bx.le.refl q,ih⟩
theorem stEx_ok {σ:PS} {t:Tr P K} {r:R} (hr:r.ok):(stEx σ t r).ok:=tEx_ok fun _=>bEx_ok hr
theorem Tr.ex_ok {fin:Tr P K → R} (hf:∀ t,(fin t).ok) (t:Tr P K):(t.ex fin).ok:=by
 induction t generalizing fin with
 | nil=>exact hf _
 | e t=>exact hf _
 | c h t ih=>exact ⟨h,ih hf⟩
 | cf h t ih=>exact ⟨h,ih hf⟩
 | cn h t ih=>exact ⟨h,ih hf⟩
 | g h t ih=>exact ⟨h,ih hf⟩
 | o d h t ih=>exact ⟨h,ih hf⟩
 | bo t ih=>exact ⟨trivial,ih hf⟩
 | a h t ih=>exact ⟨h,ih hf⟩
 | w p t1 t2 ih1 ih2=>exact ⟨fun h=>ih1 h hf,fun h=>ih2 h hf⟩
 | s h l t ihl iht=>exact stEx_ok ⟨h,iht hf⟩
 | j c τ tj t ihj iht=>exact ⟨ihj fun _=>stEx_ok trivial,iht hf⟩
 | v d h t ih=>exact ⟨h,ih hf⟩
 | b d h t ih=>exact ih hf
 | z id t ih=>exact ih hf
 | y s id nl T sz el t ih=>exact ih hf
 | k ts bs t ih=>exact ih hf
 | u n t ih=>exact ih hf
 | x h=>exact h.elim
 | r h=>exact ⟨h,trivial⟩
 | rb h=>exact ⟨h,trivial⟩
def tRun (υ:PS):List (Nat × PV) → R → R
 | [],r=>r
 | (d,q) :: l,r=>.a (PV.le (υ.get d) q) (tRun υ l r)
def bRun (υ:PS):List (Nat × Bx) → R → R
 | [],r=>r
 | (d,q) :: l,r=>match υ.bo d with
  | some b=>.a (Bx.le b q) (bRun υ l r)
  | none=>.bad
def stRun (υ σ:PS) (r:R):R:=if Nat.beq υ.n σ.n && (σ.b.all (fun x=>x.2.nl) || (σ.nl == υ.nl)) && refsOk σ then tRun υ σ.t (bRun υ σ.b r) else .bad
def Tr.tail:Tr P K → Tr P K
 | .c _ t=>t
 | .cf _ t=>t
 | .cn _ t=>t
 | .g _ t=>t
 | .bo t=>t
 | .a _ t=>t
 | _=>.nil
def obsR:List Prop → Tr P K → (Tr P K → R) → R
 | [],t,k=>k t
 | p :: l,t,k=>.a p (obsR l t.tail k)
def clOf (d:Option Tmp) (t:Tr P K):Orc:=match d with
 | some d=>match t with
  | @Tr.c _ _ _ _ res _ _=>{ cl:=[(d,res)] }
  | @Tr.cf _ _ _ _ res _ _=>{ cl:=[(d,res)] }
  | @Tr.g _ _ _ _ _ _ ve₁ _ _=>{ cl:=[(d,.v ve₁)] }
  | @Tr.cn _ _ _ _ nl T n sz el _ _=>{ nw:=[(d,.row nl T n sz el)] }
  | .bo _=>{ nw:=[(d,.cells 0 [])] }
  | _=>{}
 | none=>{}
def peel:Tr P K → (Tr P K → R) → R
 | .w p t1 t2,k=>.w p (fun h=>peel (t1 h) k) (fun h=>peel (t2 h) k)
 | .x _,_=>.a False .nil
 | t,k=>k t
def ovT (o:Oper) (u:Out) (t:Tr P K) (k:Out → Tr P K → R):R:=match o.dst,t with
 | some d,.o d' (q:=q) _ t'=>if Nat.beq d' d then .a (PV.le u.r q) (k { u with r:=q,obs:=PV.le u.r q :: u.obs } t') else k u t
 | _,t=>k u t
def opT (T:List TI) (ops:Array Oper) (σ:PS) (o:Oper) (t:Tr P K) (k:Out → Tr P K → R):R :=
 if inB σ o.dst then match wantedE ops σ o with
  | some false=>k { r:=.e (.v (.tuple #[])),rd:=(looks ops o).map σ.get } t
  | some true=>peel t fun t=>match evop P K T (clOf o.dst t) σ o with
   | some u=>obsR u.obs t fun t=>peel t fun t=>ovT o u t fun u t=>k { u with rd:=(looks ops o).map σ.get } t
   | none=>.bad
  | none=>.bad
 else .bad
def opsT (T:List TI) (ops:Array Oper) (k:List (Oper × Out) → PS → Tr P K → R):List Oper → List (Oper × Out) → PS → Tr P K → R
 | [],us,σ,t=>k us σ t
 | o :: l,us,σ,t=>opT T ops σ o t fun u t'=>opsT T ops k l ((o,u) :: us) (σ.app o.dst u) t'
def peelS (c:Bool):Tr P K → PS → (Tr P K → PS → R) → R
 | .w p t1 t2,σ,k=>.w p (fun h=>peelS c (t1 h) σ k) (fun h=>peelS c (t2 h) σ k)
 | .x _,_,_=>.a False .nil
 | .v d (q:=q) _ t,σ,k=>match q with
  | .e x=>if inB σ (some d) then .a (PV.le (σ.get d) (.e x)) (peelS c t (σ.put (some d) (.e x)) k) else .bad
  | _=>.bad
 | .k ts bs t,σ,k=>if c then k (.k ts bs t) σ else if refsOk (σ.cut ts bs) then peelS c t (σ.cut ts bs) k else .bad
 | .z id t,σ,k=>if c then k (.z id t) σ else match σ.bo id with
  | some b=>match b.as with
   | some e=>peelS c t (σ.frz id e) k
   | none=>.bad
  | none=>.bad
 | .y s id nl T sz el t,σ,k=>if c then k (.y s id nl T sz el t) σ else match σ.bo id,σ.get s with
  | none,.e (.v (.slice none 0 0))=>if !σ.nl || nl then peelS c t (σ.ado s id (.row nl T 0 sz el)) k else .bad
  | _,_=>.bad
 | t,σ,k=>k t σ
def spT (c:Code) (σ:PS) (t:Tr P K) (k:Ex → PS → Tr P K → R):R:=match t with
 | @Tr.s _ _ _ σ' τ e _ _ t=>stRun σ σ' (.a (Sp P K c σ' (fun e' τ'=>e'=e ∧ τ'=τ)) (k e τ t))
 | _=>.bad
def Ex.same:Ex → Ex → Bool
 | .normal,.normal=>true
 | .ret,.ret=>true
 | .exit a,.exit b=>Nat.beq a b
 | _,_=>false
def endK (e:Ex) (τ:PS) (e':Ex) (υ:PS) (_:Tr P K):R:=if Ex.same e' e then stRun υ τ .nil else .bad
def condKey:Operand → Nat
 | .tmp t=>2 * t
 | _=>1
def jn (c:Nat) (g:PS → Tr P K → (Ex → PS → Tr P K → R) → R) (σ:PS) (t:Tr P K) (k:Ex → PS → Tr P K → R):R:=match t with
 | .j c' τ tj t'=>if Nat.beq c' c then .a (g σ tj (endK .normal τ)).ok (k .normal τ t') else g σ t k
 | t=>g σ t k
def unroll (f:PS → Tr P K → (Ex → PS → Tr P K → R) → R):Nat → PS → Tr P K → (Ex → PS → Tr P K → R) → R
 | 0,_,_,_=>.bad
 | n+1,σ,t,k=>peelS false t σ fun t σ=>f σ t fun e τ t=>match e with
  | .normal=>unroll f n τ t k
  | e=>k e τ t
def evT (T:List TI):Code → PS → Tr P K → (Ex → PS → Tr P K → R) → R
 | .skip,σ,t,k=>k .normal σ t
 | .region _ ops d,σ,t,k=>opsT T ops (fun us τ t=>if !d || pairsOk ops 0 us.reverse then k .normal τ t else .bad) ops.toList [] σ t
 | .seq a b,σ,t,k=>evT T a σ t fun e τ t=>match e with
  | .normal=>evT T b τ t k
  | e=>k e τ t
 | .cond c a b,σ,t,k=>peelS true t σ fun t σ=>jn (condKey c) (fun σ t k=>peelS true t σ fun t σ=>match σ.op c with
  | .e (.v (.bool true))=>evT T a σ t k
  | .e (.v (.bool false))=>evT T b σ t k
  | _=>.bad) σ t k
 | .block id b,σ,t,k=>peelS true t σ fun t σ=>jn (2 * id+1) (fun σ t k=>evT T b σ t fun e τ t=>match e with
  | .exit i=>if Nat.beq i id then k .normal τ t else k (.exit i) τ t
  | e=>k e τ t) σ t k
 | .exit id,σ,t,k=>peelS false t σ fun t σ=>k (.exit id) σ t
 | .ret,σ,t,k=>peelS false t σ fun t σ=>k .ret σ t
 | .loop b,σ,t,k=>peelS false t σ fun t σ=>match t with
  | .u n t=>unroll (evT T b) n σ t k
  | t=>spT (.loop b) σ t k
 | .label _,σ,t,k=>k .normal σ t
 | .scope b,σ,t,k=>evT T b σ t k
 | _,_,_,_=>.bad
theorem peel_ok {t:Tr P K} {k:Tr P K → R} (h:(peel t k).ok):∃ t',(k t').ok:=by
 induction t with
 | w p t1 t2 ih1 ih2 =>
  by_cases hp:p
  ·exact ih1 hp (h.1 hp)
  ·exact ih2 hp (h.2 hp)
 | x hf=>exact hf.elim
 | _=>exact ⟨_,h⟩
theorem obsR_ok {l:List Prop} {t:Tr P K} {k:Tr P K → R} (h:(obsR l t k).ok):(∀ q,q ∈ l → q) ∧ ∃ t',(k t').ok:=by
 induction l generalizing t with
 | nil=>exact ⟨fun q hq=>by simp at hq,t,h⟩
 | cons p l ih =>
  obtain ⟨h1,h2⟩:=ih h.2
  refine ⟨fun q hq=>?_,h2⟩
  rcases List.mem_cons.1 hq with hq | hq
  ·subst hq; exact h.1
  ·exact h1 q hq
variable {T:List TI} {ops:Array Oper} {σ:PS} {o:Oper}
theorem ovT_ok {O:Orc} {u:Out} {t:Tr P K} {k:Out → Tr P K → R} (hO:O.ov=[]) (hu:evop P K T O σ o=some u) (ho:∀ q,q ∈ u.obs → q) (h:(ovT o u t k).ok) :
  ∃ O' u' t',evov P K T O' σ o=some u' ∧ (∀ q,q ∈ u'.obs → q) ∧ (k u' t').ok:=by
 have plain:(k u t).ok → ∃ O' u' t',evov P K T O' σ o=some u' ∧ (∀ q,q ∈ u'.obs → q) ∧ (k u' t').ok:=by
  intro h
  refine ⟨O,u,t,?_,ho,h⟩
  unfold evov
  rw [hu,hO]
  cases o.dst <;> rfl
 unfold ovT at h
 split at h
 ·rename_i d d' p q hpq t' hd
  split at h
  ·obtain ⟨h1,h2⟩:=h
   refine ⟨⟨O.cl,[(d,q)],O.nw⟩,_,t',?_,fun x hx=>?_,h2⟩
   ·unfold evov
    have he:evop P K T ⟨O.cl,[(d,q)],O.nw⟩ σ o=evop P K T O σ o:=by cases O; rfl
    rw [he,hu,hd]
    simp [look]
   ·rcases List.mem_cons.1 hx with hx | hx
    ·subst hx; exact h1
    ·exact ho x hx
  ·exact plain h
 ·exact plain h
theorem opT_ok {t:Tr P K} {k:Out → Tr P K → R} (h:(opT T ops σ o t k).ok):∃ u t',(∃ O,evout P K T O ops σ o=some u) ∧ (∀ q,q ∈ u.obs → q) ∧ (k u t').ok:=by
 unfold opT at h
 split at h
 ·rename_i hi
  split at h
  ·rename_i hw
   refine ⟨_,t,⟨{},?_⟩,fun q hq=>by simp at hq,h⟩
   unfold evout
   rw [if_pos hi,hw]
  ·rename_i hw
   obtain ⟨t1,h1⟩:=peel_ok h
   split at h1
   ·rename_i u hu
    obtain ⟨ho,t2,h2⟩:=obsR_ok h1
    obtain ⟨t2,h2⟩:=peel_ok h2
    obtain ⟨O',u',t3,hu',ho',h3⟩:=ovT_ok (by
     unfold clOf
     cases o.dst with
     | none=>rfl
     | some d=>cases t1 <;> rfl) hu ho h2
    refine ⟨{ u' with rd:=(looks ops o).map σ.get },t3,⟨O',?_⟩,ho',h3⟩
    unfold evout
    rw [if_pos hi,hw,hu']
   ·exact h1.elim
  ·exact h.elim
 ·exact h.elim
theorem opsT_ok {k:List (Oper × Out) → PS → Tr P K → R} {l:List Oper} {us:List (Oper × Out)} {t:Tr P K} (h:(opsT T ops k l us σ t).ok) :
  ∃ vs τ t',Runs P K T ops vs σ τ ∧ vs.map (·.1)=l ∧ (∀ x,x ∈ vs → ∀ q,q ∈ x.2.obs → q) ∧ (k (vs.reverse ++ us) τ t').ok:=by
 induction l generalizing us σ t with
 | nil=>exact ⟨[],σ,t,Same.refl σ,rfl,fun x hx=>by simp at hx,h⟩
 | cons o l ih =>
  obtain ⟨u,t1,h1,h2,h3⟩:=opT_ok h
  obtain ⟨vs,τ,t',k1,k2,k3,k4⟩:=ih h3
  refine ⟨(o,u) :: vs,τ,t',⟨h1,k1⟩,by simp [k2],fun x hx=>?_,by simpa using k4⟩
  rcases List.mem_cons.1 hx with hx | hx
  ·subst hx; exact h2
  ·exact k3 x hx
theorem PS.le.set {σ:PS} {d:Nat} {x:E} (hd:inB σ (some d)=true) (h:PV.le (σ.get d) (.e x)):PS.le σ (σ.put (some d) (.e x)):=fun w0 B a w L _ r=>by
 have hd':d < σ.n:=by simpa [inB,Nat.blt_eq] using hd
 refine ⟨L,r.hd,by rw [PS.n_put]; exact r.hs,fun t=>?_,fun id b hb=>r.hb id b hb,r.hv,r.hn,r.hw,r.hi,r.he,r.hl⟩
 rw [PS.get_put]
 by_cases e:d=t
 ·subst e; rw [if_pos rfl]; exact h _ _ _ _ _ (r.ht d)
 ·rw [if_neg e]; exact r.ht t
theorem peelS_ok {c:Bool} {t:Tr P K} {σ:PS} {k:Tr P K → PS → R} (h:(peelS c t σ k).ok):∃ t' τ,PS.le σ τ ∧ (k t' τ).ok:=by
 induction t generalizing σ with
 | w p t1 t2 ih1 ih2 =>
  by_cases hp:p
  ·exact ih1 hp (h.1 hp)
  ·exact ih2 hp (h.2 hp)
 | k ts bs t ih =>
  simp only [peelS] at h
  split at h
  ·exact ⟨_,σ,PS.le.refl σ,h⟩
  split at h
  ·rename_i hr
   obtain ⟨t',τ,h1,h2⟩:=ih h
   exact ⟨t',τ,(PS.le.cut ts bs hr).trans h1,h2⟩
  ·exact h.elim
 | v d h0 t ih =>
  simp only [peelS] at h
  split at h
  ·rename_i x
   split at h
   ·rename_i hd
    obtain ⟨t',τ,h1,h2⟩:=ih h.2
    exact ⟨t',τ,(PS.le.set hd h.1).trans h1,h2⟩
   ·exact h.elim
  ·exact h.elim
 | z id t ih =>
  simp only [peelS] at h
  split at h
  ·exact ⟨_,σ,PS.le.refl σ,h⟩
  split at h
  ·rename_i b hb
   split at h
   ·rename_i e he
    obtain ⟨t',τ,h1,h2⟩:=ih h
    exact ⟨t',τ,(PS.le.freeze id hb he).trans h1,h2⟩
   ·exact h.elim
  ·exact h.elim
 | y s id nl T sz el t ih =>
  simp only [peelS] at h
  split at h
  ·exact ⟨_,σ,PS.le.refl σ,h⟩
  split at h
  ·rename_i hb hg
   split at h
   ·rename_i hn
    obtain ⟨t',τ,h1,h2⟩:=ih h
    exact ⟨t',τ,(PS.le.adopt s id hb hg (fun e=>by rw [e] at hn; simpa using hn)).trans h1,h2⟩
   ·exact h.elim
  ·exact h.elim
 | x hf=>exact hf.elim
 | _=>exact ⟨_,σ,PS.le.refl σ,h⟩
theorem tRun_ok {υ:PS} {l:List (Nat × PV)} {r:R} (h:(tRun υ l r).ok):LeT υ l ∧ r.ok:=by
 induction l with
 | nil=>exact ⟨trivial,h⟩
 | cons x l ih=>obtain ⟨d,q⟩:=x; exact ⟨⟨h.1,(ih h.2).1⟩,(ih h.2).2⟩
theorem bRun_ok {υ:PS} {l:List (Nat × Bx)} {r:R} (h:(bRun υ l r).ok):LeB υ l ∧ r.ok:=by
 induction l with
 | nil=>exact ⟨trivial,h⟩
 | cons x l ih =>
  obtain ⟨d,q⟩:=x
  simp only [bRun] at h
  split at h
  ·rename_i b hb
   exact ⟨⟨⟨b,hb,h.1⟩,(ih h.2).1⟩,(ih h.2).2⟩
  ·exact h.elim
theorem stRun_ok {υ σ:PS} {r:R} (h:(stRun υ σ r).ok):PS.le υ σ ∧ r.ok:=by
 unfold stRun at h
 split at h
 ·rename_i hc
  simp only [Bool.and_eq_true,Bool.or_eq_true,beq_iff_eq] at hc
  obtain ⟨⟨h1,h2⟩,h3⟩:=hc
  obtain ⟨h4,h5⟩:=tRun_ok h
  obtain ⟨h6,h7⟩:=bRun_ok h5
  refine ⟨?_,h7⟩
  rcases h2 with h2 | h2
  ·exact PS.le.keepN (beq_iff.1 h1) h2 h3 h4 h6
  ·exact PS.le.keep (beq_iff.1 h1) h2 h3 h4 h6
 ·exact h.elim
theorem runs_wp (hT:TyOk P T) {w0:World} {B:Nat → Prop} {a:Act} {w:World} {L:Lk} (g:Gd P K w0 B) {us:List (Oper × Out)} {τ:PS} {Q:Exit → Act → World → Prop} (h:Runs P K T ops us σ τ) (ho:∀ x,x ∈ us → ∀ q,q ∈ x.2.obs → q)
  (r:Rel w0 B σ a w L) (hq:∀ a' w' L',Rel w0 B τ a' w' L' → Q .normal a' w'):wpList P ops Q (us.map (·.1)) a w:=by
 induction us generalizing σ a w L with
 | nil=>exact hq a w L (r.same h)
 | cons x us ih =>
  obtain ⟨⟨O,h1⟩,h2⟩:=h
  rw [List.map_cons]
  unfold wpList
  rcases evout_step hT g r h1 (ho x (by simp)) (wpList P ops Q (us.map (·.1))) Q (fun a' w' L' hr=>ih h2 (fun y hy=>ho y (by simp [hy])) hr) with ⟨p1,p2⟩ | ⟨p1,p2⟩
  ·rw [if_pos p1]; exact .inl p2
  ·rw [if_neg (by rw [p1]; simp)]; exact p2
theorem regionT_wp (hT:TyOk P T) (hm:P.follows .mixedOrders=true) {w0:World} {B:Nat → Prop} {a:Act} {w:World} {L:Lk} (g:Gd P K w0 B) {id:Nat} {draw:Bool} {us:List (Oper × Out)} {τ:PS} {Q:Exit → Act → World → Prop}
  (h:Runs P K T ops us σ τ) (hl:us.map (·.1)=ops.toList) (ho:∀ x,x ∈ us → ∀ q,q ∈ x.2.obs → q) (hp:(!draw || pairsOk ops 0 us)=true) (r:Rel w0 B σ a w L)
  (hq:∀ a' w' L',Rel w0 B τ a' w' L' → Q .normal a' w'):(Code.region id ops draw).wp P Q a w:=by
 cases draw with
 | false=>exact wp_region_list (by rw [← hl]; exact runs_wp hT g h ho r hq)
 | true =>
  obtain ⟨R,r1,r2,r3⟩:=left_start hl (by simpa using hp)
  refine wp_region_any hm (any_wp hT g hq ops.size (Array.replicate ops.size false) R σ a w.drew L r2 (by simp) r3 (fun x hx=>ho x.2 ?_) (by rw [r1]; exact h) r.drew)
  rw [← r1]; exact List.mem_map.2 ⟨x,hx,rfl⟩
theorem spT_ok {c:Code} {t:Tr P K} {k:Ex → PS → Tr P K → R} (h:(spT c σ t k).ok):Sp P K c σ (fun e τ=>∃ t',(k e τ t').ok):=by
 unfold spT at h
 split at h
 ·obtain ⟨h1,h2,h3⟩:=stRun_ok h
  exact Sp.pre h1 (h2.mono fun e τ ⟨q1,q2⟩=>by subst q1 q2; exact ⟨_,h3⟩)
 ·exact h.elim
theorem Ex.same_eq {a b:Ex} (h:Ex.same a b=true):a=b:=by
 cases a <;> cases b <;> first | rfl | (cases h; done) | exact congrArg Ex.exit (beq_iff.1 h)
theorem endK_ok {e e':Ex} {τ υ:PS} {t:Tr P K} (h:(endK e τ e' υ t).ok):e'=e ∧ PS.le υ τ:=by
 unfold endK at h
 split at h
 ·rename_i he; exact ⟨Ex.same_eq he,(stRun_ok h).1⟩
 ·exact h.elim
theorem jn_ok {c:Code} {cb:Nat} {g:PS → Tr P K → (Ex → PS → Tr P K → R) → R} (hg:∀ σ t k,(g σ t k).ok → Sp P K c σ (fun e τ=>∃ t',(k e τ t').ok)) {σ:PS} {t:Tr P K} {k:Ex → PS → Tr P K → R} (h:(jn cb g σ t k).ok) :
  Sp P K c σ (fun e τ=>∃ t',(k e τ t').ok):=by
 unfold jn at h
 split at h
 ·rename_i c' τ tj t
  split at h
  ·refine (hg _ _ _ h.1).post fun e υ ⟨t',ht⟩=>?_
   obtain ⟨he,hl⟩:=endK_ok ht
   exact ⟨τ,hl,t,by rw [he]; exact h.2⟩
  ·exact hg _ _ _ h
 ·exact hg _ _ _ h
def SpL (P:Program) (K:World → Prop) (b:Code) (σ:PS) (Q:Ex → PS → Prop):Prop :=
 ∀ (w0:World) (B:Nat → Prop) (a:Act) (w:World) (L:Lk),Gd P K w0 B → Rel w0 B σ a w L → ∀ bf k cs,
  ∃ e a' w',(∃ ex τ L',e=Ex.to ex ∧ Q ex τ ∧ Rel w0 B τ a' w' L') ∧ Arrives P (lone (bf.at a (.code b :: .inLoop b :: k)) cs w) bf k cs e a' w'
theorem SpL.loop {b:Code} {σ:PS} {Q:Ex → PS → Prop} (h:SpL P K b σ Q):Sp P K (.loop b) σ Q:=by
 intro w0 B a w L g r bf k cs
 obtain ⟨e,a',w',hq,harr⟩:=h w0 B a w L g r bf k cs
 exact ⟨e,a',w',hq,.of_steps (.one step_loop) harr⟩
theorem SpL.pre {b:Code} {σ τ:PS} {Q:Ex → PS → Prop} (h:PS.le σ τ) (k:SpL P K b τ Q):SpL P K b σ Q:=fun w0 B a w L g r =>
 let ⟨L',r'⟩:=h w0 B a w L (fun b hb=>(g.hB b hb).1) r; k w0 B a w L' g r'
theorem SpL.step {b:Code} {σ:PS} {Q:Ex → PS → Prop} (h:Sp P K b σ (fun e τ=>(e = .normal ∧ SpL P K b τ Q) ∨ (e ≠ .normal ∧ Q e τ))):SpL P K b σ Q:=by
 intro w0 B a w L g r bf k cs
 obtain ⟨e,a₁,w₁,⟨ex,υ,L2,rfl,hq,hr2⟩,harr⟩:=h w0 B a w L g r bf (.inLoop b :: k) cs
 rcases hq with ⟨rfl,hs⟩ | ⟨hne,hq⟩
 ·obtain ⟨e₂,a₂,w₂,hq₂,harr₂⟩:=hs w0 B a₁ w₁ L2 g hr2 bf k cs
  exact ⟨e₂,a₂,w₂,hq₂,.of_steps (Steps.trans harr (.one step_inLoop)) harr₂⟩
 ·cases ex with
  | normal=>exact absurd rfl hne
  | exit i=>exact ⟨_,a₁,w₁,⟨.exit i,υ,L2,rfl,hq,hr2⟩,.pass (x:=.inLoop b) rfl (fun _ _=>.inl (by simp [Ex.to])) harr⟩
  | ret=>exact ⟨_,a₁,w₁,⟨.ret,υ,L2,rfl,hq,hr2⟩,.pass (x:=.inLoop b) rfl (fun _ _=>.inl (by simp [Ex.to])) harr⟩
theorem evT_ok (hT:TyOk P T) (hm:P.follows .mixedOrders=true) {c:Code} {σ:PS} {t:Tr P K} {k:Ex → PS → Tr P K → R} (h:(evT T c σ t k).ok):Sp P K c σ (fun e τ=>∃ t',(k e τ t').ok):=by
 induction c generalizing σ t k with
 | skip=>exact fun w0 B a w L g r=>wp_skip ⟨.normal,_,L,rfl,⟨t,h⟩,r⟩
 | region id ops d =>
  obtain ⟨vs,τ,t',h1,h2,h3,h4⟩:=opsT_ok h
  split at h4
  ·rename_i hp
   simp only [List.append_nil,List.reverse_reverse] at hp
   exact fun w0 B a w L g r=>regionT_wp hT hm g h1 h2 h3 hp r fun a' w' L' hr=>⟨.normal,τ,L',rfl,⟨t',h4⟩,hr⟩
  ·exact h4.elim
 | seq x y ihx ihy =>
  intro w0 B a w L g r
  refine wp_seq (Code.wp_mono ?_ (ihx h w0 B a w L g r))
  rintro ex a' w' ⟨e1,τ1,L',rfl,⟨t',ht⟩,hr⟩
  cases e1 with
  | normal=>exact ihy ht w0 B a' w' L' g hr
  | exit i=>exact ⟨.exit i,τ1,L',rfl,⟨t',ht⟩,hr⟩
  | ret=>exact ⟨.ret,τ1,L',rfl,⟨t',ht⟩,hr⟩
 | cond c x y ihx ihy =>
  obtain ⟨t1,τ,hle,h1⟩:=peelS_ok h
  refine Sp.pre hle (jn_ok (fun σ t k h=>?_) h1)
  obtain ⟨t1,τ,hle,h1⟩:=peelS_ok h
  refine Sp.pre hle ?_
  split at h1
  ·rename_i hc
   intro w0 B a w L g r
   have hv:=r.op c
   rw [hc] at hv
   exact wp_cond_true (Rep.v_inv hv) (ihx h1 w0 B a w L g r)
  ·rename_i hc
   intro w0 B a w L g r
   have hv:=r.op c
   rw [hc] at hv
   exact wp_cond_false (Rep.v_inv hv) (ihy h1 w0 B a w L g r)
  ·exact h1.elim
 | block id b ih =>
  obtain ⟨t1,τ,hle,h1⟩:=peelS_ok h
  refine Sp.pre hle (jn_ok (fun σ t k h=>?_) h1)
  intro w0 B a w L g r
  refine wp_block (Code.wp_mono ?_ (ih h w0 B a w L g r))
  rintro ex a' w' ⟨e1,τ1,L',rfl,⟨t',ht⟩,hr⟩
  cases e1 with
  | normal=>exact ⟨.normal,_,L',rfl,⟨t',ht⟩,hr⟩
  | ret=>exact ⟨.ret,_,L',rfl,⟨t',ht⟩,hr⟩
  | exit i =>
   simp only at ht
   show Exit.inBlock id _ (.exit i) a' w'
   split at ht
   ·rename_i hi
    have hi:=beq_iff.1 hi
    subst hi
    simp only [Exit.inBlock,if_true]
    exact ⟨.normal,_,L',rfl,⟨t',ht⟩,hr⟩
   ·rename_i hi
    have hi:i ≠ id:=fun e=>hi (beq_iff.2 e)
    simp only [Exit.inBlock,hi,if_false]
    exact ⟨.exit i,_,L',rfl,⟨t',ht⟩,hr⟩
 | label l=>exact fun w0 B a w L g r=>wp_label ⟨.normal,_,L,rfl,⟨t,h⟩,r⟩
 | scope b ih =>
  intro w0 B a w L g r
  refine wp_scope_straight (Code.wp_mono ?_ (ih h w0 B a w L g r))
  rintro ex a' w' ⟨e1,τ1,L',rfl,⟨t',ht⟩,hr⟩
  cases e1 with
  | normal=>exact ⟨.normal,τ1,L',rfl,⟨t',ht⟩,hr⟩
  | ret=>exact ⟨.ret,τ1,L',rfl,⟨t',ht⟩,hr⟩
  | exit i=>exact ⟨.exit i,τ1,L',rfl,⟨t',ht⟩,hr⟩
 | exit id =>
  obtain ⟨t1,τ,hle,h1⟩:=peelS_ok h
  exact Sp.pre hle fun w0 B a w L g r=>wp_exit ⟨.exit id,_,L,rfl,⟨t1,h1⟩,r⟩
 | ret =>
  obtain ⟨t1,τ,hle,h1⟩:=peelS_ok h
  exact Sp.pre hle fun w0 B a w L g r=>wp_ret ⟨.ret,_,L,rfl,⟨t1,h1⟩,r⟩
 | loop b ih =>
  obtain ⟨t1,τ,hle,h1⟩:=peelS_ok h
  refine Sp.pre hle ?_
  split at h1
  ·rename_i n t
   clear hle h
   refine SpL.loop ?_
   induction n generalizing τ t with
   | zero=>exact h1.elim
   | succ n ihn =>
    obtain ⟨t2,τ2,hle,h1⟩:=peelS_ok h1
    refine SpL.pre hle (SpL.step ((ih h1).mono fun e υ ⟨t',ht⟩=>?_))
    cases e with
    | normal=>exact .inl ⟨rfl,ihn _ _ ht⟩
    | exit i=>exact .inr ⟨by simp,t',ht⟩
    | ret=>exact .inr ⟨by simp,t',ht⟩
  ·exact spT_ok h1
 | _=>exact h.elim
theorem Sp.tr (hT:TyOk P T) (hm:P.follows .mixedOrders=true) {c:Code} {σ τ:PS} {e:Ex} (t:Tr P K) (h:evT T c σ t (endK e τ)=t.ex fun t=>stEx τ t .nil) :
  Sp P K c σ (fun e' τ'=>e'=e ∧ τ'=τ):=by
 have hk:=Tr.ex_ok (fin:=fun t=>stEx τ t .nil) (fun t=>stEx_ok trivial) t
 rw [← h] at hk
 refine (evT_ok hT hm hk).post fun e' υ ⟨t',ht⟩=>?_
 obtain ⟨he,hl⟩:=endK_ok ht
 exact ⟨τ,hl,he,rfl⟩
def finT (T:List TI) (fn:Func) (res:E) (e:Ex) (τ:PS) (_:Tr P K):R:=match e with
 | .exit _=>.bad
 | _=>match resE T fn τ with
  | some r=>.a (E.le r res) .nil
  | none=>.bad
def readT (T:List TI) (fn:Func) (nl:Bool) (args:List E) (res:E) (t:Tr P K):R:=match fn.body with
 | some c=>if Nat.ble args.length fn.ntmps then evT T c (initS fn nl args) t (finT T fn res) else .bad
 | none=>.bad
theorem PC.tr' (hT:TyOk P T) (hm:P.follows .mixedOrders=true) (hp:∀ w w',K w → Below w.heap.size w w' → K w') {f:FuncId} {fn:Func} {args:List E} {res:E} (hcall:∀ (vs:Array Value) (w:World),(callFunc f vs).run P w = .ok (.enter f vs) w)
  (hf:P.funcs[f]? = some fn) (nl:Bool) (t:Tr P K) (h:readT T fn nl args res t=t.ex fun _=>.a (E.le res res) .nil):PC P K f args res:=by
 have hk:=Tr.ex_ok (fin:=fun _=>.a (E.le res res) .nil) (fun t=>⟨E.le.refl res,trivial⟩) t
 rw [← h] at hk
 unfold readT at hk
 split at hk
 ·rename_i c hb
  split at hk
  ·rename_i hn
   refine PC.mkle hT hm hp hcall hf hb (Nat.le_of_ble_eq_true hn) nl ((evT_ok hT hm hk).mono fun e τ ⟨t',ht⟩=>?_)
   unfold finT at ht
   split at ht
   ·exact ht.elim
   ·rename_i hne
    split at ht
    ·rename_i r hr
     refine ⟨?_,r,hr,ht.1⟩
     cases e with
     | normal=>exact .inr rfl
     | ret=>exact .inl rfl
     | exit i=>exact absurd rfl (hne i)
    ·exact ht.elim
  ·exact hk.elim
 ·exact hk.elim
def finN (fn:Func) (b:Bx) (e:Ex) (τ:PS) (_:Tr P K):R:=match e with
 | .exit _=>.bad
 | _=>match fn.results.toList with
  | [.tmp t]=>match τ.get t with
   | .own id=>match τ.bo id with
    | some c=>.a (Bx.le c b) .nil
    | none=>.bad
   | _=>.bad
  | _=>.bad
def readN (T:List TI) (fn:Func) (args:List E) (b:Bx) (t:Tr P K):R:=match fn.body with
 | some c=>if Nat.ble args.length fn.ntmps then evT T c (initS fn true args) t (finN fn b) else .bad
 | none=>.bad
theorem PCN.tr' (hT:TyOk P T) (hm:P.follows .mixedOrders=true) (hp:∀ w w',K w → Below w.heap.size w w' → K w') {f:FuncId} {fn:Func} {args:List E} {nl:Bool} {T0:TypeId} {n sz:Nat} {el:Nat → Nat → E} (hcall:∀ (vs:Array Value) (w:World),(callFunc f vs).run P w = .ok (.enter f vs) w)
  (hf:P.funcs[f]? = some fn) (t:Tr P K) (h:readN T fn args (.row nl T0 n sz el) t=t.ex fun _=>.a (Bx.le (.row nl T0 n sz el) (.row nl T0 n sz el)) .nil):PCN P K f args nl T0 n sz el:=by
 have hk:=Tr.ex_ok (fin:=fun _=>.a (Bx.le (.row nl T0 n sz el) (.row nl T0 n sz el)) .nil) (fun t=>⟨Bx.le.refl _,trivial⟩) t
 rw [← h] at hk
 unfold readN at hk
 split at hk
 ·rename_i c hb
  split at hk
  ·rename_i hn
   refine PCN.mkle hT hm hp hcall hf hb (Nat.le_of_ble_eq_true hn) true ((evT_ok hT hm hk).mono fun e τ ⟨t',ht⟩=>?_)
   unfold finN at ht
   split at ht
   ·exact ht.elim
   ·rename_i hne
    split at ht
    ·rename_i t0 hr
     split at ht
     ·rename_i id hg
      split at ht
      ·rename_i c' hc
       refine ⟨?_,t0,id,c',hr,hg,hc,fun bs br L w hk=>ht.1.2 _ _ _ _ _ hk⟩
       cases e with
       | normal=>exact .inr rfl
       | ret=>exact .inl rfl
       | exit i=>exact absurd rfl (hne i)
      ·exact ht.elim
     ·exact ht.elim
    ·exact ht.elim
  ·exact hk.elim
 ·exact hk.elim
theorem Sp.upto {b:Code} {e:Ex} {τ:PS} (f:Nat → PS) (lo hi:Nat) (h0:lo ≤ hi) (go:∀ x,(lo ≤ x ∧ x ≤ hi) → x < hi → Sp P K b (f x) (fun e' υ=>e' = .normal ∧ υ=f (x+1)))
  (out:(lo ≤ hi ∧ hi ≤ hi) → Sp P K b (f hi) (fun e' υ=>e'=e ∧ υ=τ)) (he:e ≠ .normal):Sp P K (.loop b) (f lo) (fun e' υ=>e'=e ∧ υ=τ):=by
 refine Sp.fam f (fun x=>lo ≤ x ∧ x ≤ hi) (fun x=>hi - x) (fun x hx=>?_) lo ⟨Nat.le_refl _,h0⟩ (PS.le.refl _)
 rcases Nat.lt_or_eq_of_le hx.2 with hlt | heq
 ·exact Sp.fam_go (x+1) (go x hx hlt) ⟨by omega,by omega⟩ (by omega) (PS.le.refl _)
 ·subst heq
  exact Sp.fam_out (out hx) he (PS.le.refl _)
def r64 (z:Int) (h:-9223372036854775808 ≤ z ∧ z ≤ 9223372036854775807):Tr P K → Tr P K:=.a (p:=rng .i64 z) h
def ru64 (z:Int) (h:0 ≤ z ∧ z ≤ 18446744073709551615):Tr P K → Tr P K:=.a (p:=rng .u64 z) h
def iX (z:Int) (n:Nat) (h:0 ≤ z ∧ z < n):Tr P K → Tr P K:=.a h
def tB (d:Nat) {a b:Bool} (h:a=b):Tr P K → Tr P K:=.o d (PV.le.bool h)
def tT (d:Nat) (p:Prop) [Decidable p] (h:p):Tr P K → Tr P K:=.o d (PV.le.bool (decide_eq_true h))
def tF (d:Nat) (p:Prop) [Decidable p] (h:¬ p):Tr P K → Tr P K:=.o d (PV.le.bool (decide_eq_false h))
def rQ (p q:E) (h:p=q):Tr P K:=.r (E.le.of_eq h)
def rR (q:E) {p:E} (h:E.le p q):Tr P K:=.r h
def chain (l:List (Tr P K → Tr P K)) (t:Tr P K):Tr P K:=l.foldr (fun f t=>f t) t
end
end Go.Proofs.YtkbjkchapnjhgaaGreatDoor.Pu
namespace Go.Proofs.YtkbjkchapnjhgaaGreatDoor
open Go.RowKit Fp Pu
theorem tr (nl:Bool) {f:FuncId} {fn:Func} {args:List E} {res:E} (hcall:∀ (vs:Array Value) (w:World),(callFunc f vs).run Tryz.prog w = .ok (.enter f vs) w)
  (hf:Tryz.prog.funcs[f]? = some fn) (t:Tr Tryz.prog Tb) (h:readT TT fn nl args res t=t.ex fun _=>.a (E.le res res) .nil):PCt f args res :=
 PC.tr' TT_ok mixed Tb_pers hcall hf nl t h
theorem spt {c:Code} {σ τ:PS} {e:Ex} (t:Tr Tryz.prog Tb) (h:evT TT c σ t (endK e τ)=t.ex fun t=>stEx τ t .nil) :
  Sp Tryz.prog Tb c σ (fun e' τ'=>e'=e ∧ τ'=τ):=Sp.tr TT_ok mixed t h
abbrev LpT (k:Nat) (fn:Func) (σ:PS) (e:Ex) (τ:PS):Prop:=Sp Tryz.prog Tb (.loop (bodyOf k fn)) σ (fun e' τ'=>e'=e ∧ τ'=τ)
open Go.RowKit Fp Pu
def int_Fsome (nl:Bool) (n N:Nat) (el:Nat → Nat → E) (g:FuncId) (cap:List E) (i:Nat):PS:=⟨19,false,[(8,.e (iP i)),(7,.e (iP n)),(0,.e (.sl nl n 1 el)),(1,.e (.fn g cap))],[]⟩
def int_Fnone (nl:Bool) (n:Nat) (el:Nat → Nat → E) (g:FuncId) (cap:List E) (i:Nat):PS:=⟨19,false,[(8,.e (iP i)),(7,.e (iP n)),(0,.e (.sl nl n 1 el)),(1,.e (.fn g cap))],[]⟩
def limbs_Fnone (nl:Bool) (n:Nat) (el:Nat → Nat → E) (g:FuncId) (cap:List E) (i:Nat):PS:=⟨19,false,[(8,.e (iP i)),(7,.e (iP n)),(0,.e (.sl nl n 1 el)),(1,.e (.fn g cap))],[]⟩
def iv_Fsome (nl:Bool) (n N:Nat) (el:Nat → Nat → E) (g:FuncId) (cap:List E) (i:Nat):PS:=⟨19,false,[(8,.e (iP i)),(7,.e (iP n)),(0,.e (.sl nl n 7 el)),(1,.e (.fn g cap))],[]⟩
def iv_Fnone (nl:Bool) (n:Nat) (el:Nat → Nat → E) (g:FuncId) (cap:List E) (i:Nat):PS:=⟨19,false,[(8,.e (iP i)),(7,.e (iP n)),(0,.e (.sl nl n 7 el)),(1,.e (.fn g cap))],[]⟩
def row_Fnone (nl:Bool) (n:Nat) (el:Nat → Nat → E) (g:FuncId) (cap:List E) (i:Nat):PS:=⟨19,false,[(8,.e (iP i)),(7,.e (iP n)),(0,.e (.sl nl n 1 el)),(1,.e (.fn g cap))],[]⟩
theorem least_true {p:Nat → Bool} {n:Nat} (h:∃ i,i < n ∧ p i=true):∃ N,N < n ∧ p N=true ∧ ∀ i,i < N → p i=false:=by
 induction n with
 | zero=>obtain ⟨i,h1,_⟩:=h; omega
 | succ n ih =>
  by_cases hn:∃ i,i < n ∧ p i=true
  ·obtain ⟨N,h1,h2,h3⟩:=ih hn; exact ⟨N,by omega,h2,h3⟩
  ·obtain ⟨i,h1,h2⟩:=h
   have:i=n:=by
    by_cases q:i=n
    ·exact q
    ·exact absurd ⟨i,by omega,h2⟩ hn
   subst this
   exact ⟨i,h1,h2,fun j hj=>by simpa using fun q=>hn ⟨j,hj,q⟩⟩
theorem int_at (nl:Bool) (n:Nat) (el:Nat → Nat → E) (g:FuncId) (cap:List E) (p:Nat → Bool) (hp:∀ i,i < n → PCt g ((el i 0) :: cap) (bP (p i))) (N:Nat) (hl:n ≤ 1000000) (hN0:N < n) (hlo:∀ i,i < N → p i=false) (hN:p N=true):PCt 94 [.sl nl n 1 el,.fn g cap] (iP N):=by
 exact tr false Tryz.call94 Tryz.func94 (chain [.s (Sp.upto (int_Fsome nl n N el g cap) 0 N (by omega) (fun i hi hlti=>by
    exact spt (chain [tT 9 ((i:Int) < (n:Int)) (by omega),iX ((i:Int)) (n) (by omega),.c (hp i (by omega):PCt g ((el i 0) :: cap) _),tB 16 (hlo i (by omega):(p i)=false),r64 ((i:Int)+1) (by omega)] <| .nil) (by kernel_rfl))
  (fun hi=>by
    exact spt (chain [tT 9 ((N:Int) < (n:Int)) (by omega),iX ((N:Int)) (n) (by omega),.c (hp N (by omega):PCt g ((el N 0) :: cap) _),tB 16 (hN:(p N)=true)] <| .nil) (by kernel_rfl)) (by nofun):LpT 2 Tryz.f94 (int_Fsome nl n N el g cap 0) .ret ⟨19,false,[(4,.e (iP N))],[]⟩) .nil] <| .nil) (by kernel_rfl)
theorem int_none (nl:Bool) (n:Nat) (el:Nat → Nat → E) (g:FuncId) (cap:List E) (p:Nat → Bool) (hp:∀ i,i < n → PCt g ((el i 0) :: cap) (bP (p i))) (hl:n ≤ 1000000) (hlo:∀ i,i < n → p i=false):PCt 94 [.sl nl n 1 el,.fn g cap] (iP (-1)):=by
 exact tr false Tryz.call94 Tryz.func94 (chain [.s (Sp.upto (int_Fnone nl n el g cap) 0 n (by omega) (fun i hi hlti=>by
    exact spt (chain [tT 9 ((i:Int) < (n:Int)) (by omega),iX ((i:Int)) (n) (by omega),.c (hp i (by omega):PCt g ((el i 0) :: cap) _),tB 16 (hlo i (by omega):(p i)=false),r64 ((i:Int)+1) (by omega)] <| .nil) (by kernel_rfl))
  (fun hi=>by
    exact spt (chain [tF 9 ((n:Int) < (n:Int)) (by omega)] <| .nil) (by kernel_rfl)) (by nofun):LpT 2 Tryz.f94 (int_Fnone nl n el g cap 0) (.exit 0) ⟨19,false,[],[]⟩) .nil] <| .nil) (by kernel_rfl)
theorem int_has (nl:Bool) (n:Nat) (el:Nat → Nat → E) (g:FuncId) (cap:List E) (p:Nat → Bool) (hp:∀ i,i < n → PCt g ((el i 0) :: cap) (bP (p i))) (N:Nat) (hl:n ≤ 1000000) (hN0:N < n) (hlo:∀ i,i < N → p i=false) (hN:p N=true):PCt 67 [.sl nl n 1 el,.fn g cap] (bP true):=by
 exact tr false Tryz.call67 Tryz.func67 (chain [.c (int_at nl n el g cap p hp N hl hN0 hlo hN:PCt 94 [(.sl nl n 1 el),(.fn g cap)] _),tT 8 (0 ≤ (N:Int)) (by omega)] <| .nil) (by kernel_rfl)
theorem int_hasnt (nl:Bool) (n:Nat) (el:Nat → Nat → E) (g:FuncId) (cap:List E) (p:Nat → Bool) (hp:∀ i,i < n → PCt g ((el i 0) :: cap) (bP (p i))) (hl:n ≤ 1000000) (hlo:∀ i,i < n → p i=false):PCt 67 [.sl nl n 1 el,.fn g cap] (bP false):=by
 exact tr false Tryz.call67 Tryz.func67 (chain [.c (int_none nl n el g cap p hp hl hlo:PCt 94 [(.sl nl n 1 el),(.fn g cap)] _),tB 8 (by decide:(decide ((0:Int) ≤ (-1)))=false)] <| .nil) (by kernel_rfl)
theorem limbs_none (nl:Bool) (n:Nat) (el:Nat → Nat → E) (g:FuncId) (cap:List E) (p:Nat → Bool) (hp:∀ i,i < n → PCt g ((el i 0) :: cap) (bP (p i))) (hl:n ≤ 1000000) (hlo:∀ i,i < n → p i=false):PCt 161 [.sl nl n 1 el,.fn g cap] (iP (-1)):=by
 exact tr false Tryz.call161 Tryz.func161 (chain [.s (Sp.upto (limbs_Fnone nl n el g cap) 0 n (by omega) (fun i hi hlti=>by
    exact spt (chain [tT 9 ((i:Int) < (n:Int)) (by omega),iX ((i:Int)) (n) (by omega),.c (hp i (by omega):PCt g ((el i 0) :: cap) _),tB 16 (hlo i (by omega):(p i)=false),r64 ((i:Int)+1) (by omega)] <| .nil) (by kernel_rfl))
  (fun hi=>by
    exact spt (chain [tF 9 ((n:Int) < (n:Int)) (by omega)] <| .nil) (by kernel_rfl)) (by nofun):LpT 2 Tryz.f161 (limbs_Fnone nl n el g cap 0) (.exit 0) ⟨19,false,[],[]⟩) .nil] <| .nil) (by kernel_rfl)
theorem limbs_hasnt (nl:Bool) (n:Nat) (el:Nat → Nat → E) (g:FuncId) (cap:List E) (p:Nat → Bool) (hp:∀ i,i < n → PCt g ((el i 0) :: cap) (bP (p i))) (hl:n ≤ 1000000) (hlo:∀ i,i < n → p i=false):PCt 142 [.sl nl n 1 el,.fn g cap] (bP false):=by
 exact tr false Tryz.call142 Tryz.func142 (chain [.c (limbs_none nl n el g cap p hp hl hlo:PCt 161 [(.sl nl n 1 el),(.fn g cap)] _),tB 8 (by decide:(decide ((0:Int) ≤ (-1)))=false)] <| .nil) (by kernel_rfl)
theorem iv_at (nl:Bool) (n:Nat) (el:Nat → Nat → E) (g:FuncId) (cap:List E) (p:Nat → Bool) (hp:∀ i,i < n → PCt g ((.agg [(el i 0),(el i 1),(el i 2),(el i 3),(el i 4),(el i 5),(el i 6)]) :: cap) (bP (p i))) (N:Nat) (hl:n ≤ 1000000) (hN0:N < n) (hlo:∀ i,i < N → p i=false) (hN:p N=true):PCt 95 [.sl nl n 7 el,.fn g cap] (iP N):=by
 exact tr false Tryz.call95 Tryz.func95 (chain [.s (Sp.upto (iv_Fsome nl n N el g cap) 0 N (by omega) (fun i hi hlti=>by
    exact spt (chain [tT 9 ((i:Int) < (n:Int)) (by omega),iX ((i:Int)) (n) (by omega),.c (hp i (by omega):PCt g ((.agg [(el i 0),(el i 1),(el i 2),(el i 3),(el i 4),(el i 5),(el i 6)]) :: cap) _),
     tB 16 (hlo i (by omega):(p i)=false),r64 ((i:Int)+1) (by omega)] <| .nil) (by kernel_rfl))
  (fun hi=>by
    exact spt (chain [tT 9 ((N:Int) < (n:Int)) (by omega),iX ((N:Int)) (n) (by omega),.c (hp N (by omega):PCt g ((.agg [(el N 0),(el N 1),(el N 2),(el N 3),(el N 4),(el N 5),(el N 6)]) :: cap) _),tB 16 (hN:(p N)=true)] <| .nil) (by kernel_rfl)) (by nofun):LpT 2 Tryz.f95 (iv_Fsome nl n N el g cap 0) .ret ⟨19,false,[(4,.e (iP N))],[]⟩) .nil] <| .nil) (by kernel_rfl)
theorem iv_none (nl:Bool) (n:Nat) (el:Nat → Nat → E) (g:FuncId) (cap:List E) (p:Nat → Bool) (hp:∀ i,i < n → PCt g ((.agg [(el i 0),(el i 1),(el i 2),(el i 3),(el i 4),(el i 5),(el i 6)]) :: cap) (bP (p i))) (hl:n ≤ 1000000) (hlo:∀ i,i < n → p i=false):PCt 95 [.sl nl n 7 el,.fn g cap] (iP (-1)):=by
 exact tr false Tryz.call95 Tryz.func95 (chain [.s (Sp.upto (iv_Fnone nl n el g cap) 0 n (by omega) (fun i hi hlti=>by
    exact spt (chain [tT 9 ((i:Int) < (n:Int)) (by omega),iX ((i:Int)) (n) (by omega),.c (hp i (by omega):PCt g ((.agg [(el i 0),(el i 1),(el i 2),(el i 3),(el i 4),(el i 5),(el i 6)]) :: cap) _),
     tB 16 (hlo i (by omega):(p i)=false),r64 ((i:Int)+1) (by omega)] <| .nil) (by kernel_rfl))
  (fun hi=>by
    exact spt (chain [tF 9 ((n:Int) < (n:Int)) (by omega)] <| .nil) (by kernel_rfl)) (by nofun):LpT 2 Tryz.f95 (iv_Fnone nl n el g cap 0) (.exit 0) ⟨19,false,[],[]⟩) .nil] <| .nil) (by kernel_rfl)
theorem iv_has (nl:Bool) (n:Nat) (el:Nat → Nat → E) (g:FuncId) (cap:List E) (p:Nat → Bool) (hp:∀ i,i < n → PCt g ((.agg [(el i 0),(el i 1),(el i 2),(el i 3),(el i 4),(el i 5),(el i 6)]) :: cap) (bP (p i))) (N:Nat) (hl:n ≤ 1000000) (hN0:N < n) (hlo:∀ i,i < N → p i=false) (hN:p N=true):PCt 69 [.sl nl n 7 el,.fn g cap] (bP true):=by
 exact tr false Tryz.call69 Tryz.func69 (chain [.c (iv_at nl n el g cap p hp N hl hN0 hlo hN:PCt 95 [(.sl nl n 7 el),(.fn g cap)] _),tT 8 (0 ≤ (N:Int)) (by omega)] <| .nil) (by kernel_rfl)
theorem iv_hasnt (nl:Bool) (n:Nat) (el:Nat → Nat → E) (g:FuncId) (cap:List E) (p:Nat → Bool) (hp:∀ i,i < n → PCt g ((.agg [(el i 0),(el i 1),(el i 2),(el i 3),(el i 4),(el i 5),(el i 6)]) :: cap) (bP (p i))) (hl:n ≤ 1000000) (hlo:∀ i,i < n → p i=false):PCt 69 [.sl nl n 7 el,.fn g cap] (bP false):=by
 exact tr false Tryz.call69 Tryz.func69 (chain [.c (iv_none nl n el g cap p hp hl hlo:PCt 95 [(.sl nl n 7 el),(.fn g cap)] _),tB 8 (by decide:(decide ((0:Int) ≤ (-1)))=false)] <| .nil) (by kernel_rfl)
theorem iv_any (nl:Bool) (n:Nat) (el:Nat → Nat → E) (g:FuncId) (cap:List E) (p:Nat → Bool) (hp:∀ i,i < n → PCt g ((.agg [(el i 0),(el i 1),(el i 2),(el i 3),(el i 4),(el i 5),(el i 6)]) :: cap) (bP (p i))) (hl:n ≤ 1000000):PCt 69 [.sl nl n 7 el,.fn g cap] (bP ((List.range n).any p)):=by
 by_cases h:∃ i,i < n ∧ p i=true
 ·obtain ⟨N,h1,h2,h3⟩:∃ N,N < n ∧ p N=true ∧ ∀ i,i < N → p i=false:=least_true h
  refine (iv_has nl n el g cap p hp N hl h1 h3 h2).res (.of_eq ?_)
  rw [List.any_eq_true.2 ⟨N,List.mem_range.2 h1,h2⟩]
 ·refine (iv_hasnt nl n el g cap p hp hl fun i hi=>by simpa using fun q=>h ⟨i,hi,q⟩).res (.of_eq ?_)
  rw [List.any_eq_false.2 fun i hi q=>h ⟨i,List.mem_range.1 hi,q⟩]
theorem row_none (nl:Bool) (n:Nat) (el:Nat → Nat → E) (g:FuncId) (cap:List E) (p:Nat → Bool) (hp:∀ i,i < n → PCt g ((el i 0) :: cap) (bP (p i))) (hl:n ≤ 1000000) (hlo:∀ i,i < n → p i=false):PCt 135 [.sl nl n 1 el,.fn g cap] (iP (-1)):=by
 exact tr false Tryz.call135 Tryz.func135 (chain [.s (Sp.upto (row_Fnone nl n el g cap) 0 n (by omega) (fun i hi hlti=>by
    exact spt (chain [tT 9 ((i:Int) < (n:Int)) (by omega),iX ((i:Int)) (n) (by omega),.c (hp i (by omega):PCt g ((el i 0) :: cap) _),tB 16 (hlo i (by omega):(p i)=false),r64 ((i:Int)+1) (by omega)] <| .nil) (by kernel_rfl))
  (fun hi=>by
    exact spt (chain [tF 9 ((n:Int) < (n:Int)) (by omega)] <| .nil) (by kernel_rfl)) (by nofun):LpT 2 Tryz.f135 (row_Fnone nl n el g cap 0) (.exit 0) ⟨19,false,[],[]⟩) .nil] <| .nil) (by kernel_rfl)
theorem row_hasnt (nl:Bool) (n:Nat) (el:Nat → Nat → E) (g:FuncId) (cap:List E) (p:Nat → Bool) (hp:∀ i,i < n → PCt g ((el i 0) :: cap) (bP (p i))) (hl:n ≤ 1000000) (hlo:∀ i,i < n → p i=false):PCt 114 [.sl nl n 1 el,.fn g cap] (bP false):=by
 exact tr false Tryz.call114 Tryz.func114 (chain [.c (row_none nl n el g cap p hp hl hlo:PCt 135 [(.sl nl n 1 el),(.fn g cap)] _),tB 8 (by decide:(decide ((0:Int) ≤ (-1)))=false)] <| .nil) (by kernel_rfl)
open Go.RowKit Fp Pu
def mulFam (a b:List Nat) (x:Nat):PS:=⟨67,false,[(20,.e (iP x)),(19,.e (iP a.length)),(18,.e (slP a)),(5,.own 17),(1,.e (slP b))],[(17,.row false 50 (a.length+b.length) 1 (limbEl (mulOut a b x)))]⟩
def mulFamIn (a b:List Nat) (x:Nat) (k:Nat):PS:=⟨67,false,[(27,.e (iP k)),(26,.e (iP b.length)),(25,.e (slP b)),(8,.e (.v (.int .u64 (((mulIn (a.getD x 0) x b (mulOut a b x) k).2:Nat):Int)))),(7,.e (.v (.int .u32 (((a.getD x 0):Nat):Int)))),(6,.e (iP x)),(20,.e (iP x)),(19,.e (iP a.length)),(18,.e (slP a)),(5,.own 17),(1,.e (slP b))],[(17,.row false 50 (a.length+b.length) 1 (limbEl ((mulIn (a.getD x 0) x b (mulOut a b x) k).1)))]⟩
theorem natMulP (a b:List Nat) (ha:Ok32 a) (hb:Ok32 b) (h1:a.length ≤ 3000) (h2:b.length ≤ 3000):PCt 159 [slP a,slP b] (slP (mulOut a b a.length)):=by
 exact tr false Tryz.call159 Tryz.func159 (chain [r64 ((a.length:Int)+(b.length:Int)) (by omega),
  .a (by omega:0 ≤ (((a.length:Int)+(b.length:Int)):Int) ∧ (((a.length:Int)+(b.length:Int)):Int) ≤ (((a.length:Int)+(b.length:Int)):Int)),
  .a (by omega:((4:Nat):Int) * ((a.length:Int)+(b.length:Int)) ≤ 281474976710656 ∧ (((a.length:Int)+(b.length:Int)):Int) ≤ 9223372036854775807),
  .s (Sp.upto (mulFam a b) 0 a.length (by omega) (fun x hx hltx=>by
    have f1:=ha.getD x
    have so:=mulOut_spec ha hb x (by omega)
    have g1:=so.len
    have g2:=(mulIn_spec f1 hb so.ok (i:=x) (by omega) b.length (by omega)).len
    have g3:=(mulIn_spec f1 hb so.ok (i:=x) (by omega) b.length (by omega)).lt
    exact spt (chain [tT 21 ((x:Int) < (a.length:Int)) (by omega),iX ((x:Int)) (a.length) (by omega),
     .s (Sp.upto (mulFamIn a b x) 0 b.length (by omega) (fun k hk hltk=>by
    have f2:=hb.getD k
    have q:=mulIn_spec f1 hb so.ok (i:=x) (by omega) k (by omega)
    have f3:=q.ok.getD (x+k)
    have f4:=q.lt
    have f5:=q.len
    have f6:=mul_limb f1 f2
    exact spt (chain [tT 28 ((k:Int) < (b.length:Int)) (by omega),iX ((k:Int)) (b.length) (by omega),
     .o 33 (.int (u64_nat _ (by omega)):PV.le (.e (.v (.int .u64 (IntKind.u64.wrap (((a.getD x 0):Nat):Int))))) (.e (.v (.int .u64 (((a.getD x 0):Nat):Int))))),
     .o 35 (.int (u64_nat _ (by omega)):PV.le (.e (.v (.int .u64 (IntKind.u64.wrap (((b.getD k 0):Nat):Int))))) (.e (.v (.int .u64 (((b.getD k 0):Nat):Int))))),
     ru64 ((((a.getD x 0):Nat):Int) * (((b.getD k 0):Nat):Int)) (by omega),r64 ((x:Int)+(k:Int)) (by omega),iX ((((x+k):Nat):Int)) ((a.length+b.length)) (by omega),
     .a (by omega:(x+k) < (a.length+b.length)),
     .o 43 (.int (u64_nat _ (by omega)):PV.le (.e (.v (.int .u64 (IntKind.u64.wrap (((((mulIn (a.getD x 0) x b (mulOut a b x) k).1).getD (x+k) 0):Nat):Int))))) (.e (.v (.int .u64 (((((mulIn (a.getD x 0) x b (mulOut a b x) k).1).getD (x+k) 0):Nat):Int))))),
     ru64 (((((a.getD x 0) * (b.getD k 0)):Nat):Int)+(((((mulIn (a.getD x 0) x b (mulOut a b x) k).1).getD (x+k) 0):Nat):Int)) (by omega),
     ru64 ((((((a.getD x 0) * (b.getD k 0))+(((mulIn (a.getD x 0) x b (mulOut a b x) k).1).getD (x+k) 0)):Nat):Int)+(((mulIn (a.getD x 0) x b (mulOut a b x) k).2:Nat):Int)) (by omega),
     r64 ((x:Int)+(k:Int)) (by omega),
     .o 52 (.int (u32_nat _):PV.le (.e (.v (.int .u32 (IntKind.u32.wrap ((((((a.getD x 0) * (b.getD k 0))+(((mulIn (a.getD x 0) x b (mulOut a b x) k).1).getD (x+k) 0))+(mulIn (a.getD x 0) x b (mulOut a b x) k).2):Nat):Int))))) (.e (.v (.int .u32 (((((((a.getD x 0) * (b.getD k 0))+(((mulIn (a.getD x 0) x b (mulOut a b x) k).1).getD (x+k) 0))+(mulIn (a.getD x 0) x b (mulOut a b x) k).2) % 4294967296):Nat):Int))))),
     .a (by omega:0 ≤ (32:Int) ∧ (32:Int) ≤ ((64:Nat):Int)),
     .o 54 (.int (shr32_nat _):PV.le (.e (.v (.int .u64 (((((((a.getD x 0) * (b.getD k 0))+(((mulIn (a.getD x 0) x b (mulOut a b x) k).1).getD (x+k) 0))+(mulIn (a.getD x 0) x b (mulOut a b x) k).2):Nat):Int) / 2 ^ 32)))) (.e (.v (.int .u64 (((((((a.getD x 0) * (b.getD k 0))+(((mulIn (a.getD x 0) x b (mulOut a b x) k).1).getD (x+k) 0))+(mulIn (a.getD x 0) x b (mulOut a b x) k).2) / 4294967296):Nat):Int))))),
     iX ((((x+k):Nat):Int)) ((a.length+b.length)) (by omega),.a (by omega:(x+k) < (a.length+b.length)),r64 ((k:Int)+1) (by omega)] <| .e (chain [.o 8 (.int (by first | rfl | omega | (simp only [Nat.add_mul,Nat.one_mul]; omega)):PV.le (.e (.v (.int .u64 (((((((a.getD x 0) * (b.getD k 0))+(((mulIn (a.getD x 0) x b (mulOut a b x) k).1).getD (x+k) 0))+(mulIn (a.getD x 0) x b (mulOut a b x) k).2) / 4294967296):Nat):Int)))) (.e (.v (.int .u64 (((mulIn (a.getD x 0) x b (mulOut a b x) (k+1)).2:Nat):Int))))),
  .b 17 (row_set rfl (by omega):Bx.le (.row false 50 (a.length+b.length) 1 (fun i' j'=>if i'=(x+k) ∧ 0 ≤ j' ∧ j' < 0+1 then [(.v (.int .u32 (((((((a.getD x 0) * (b.getD k 0))+(((mulIn (a.getD x 0) x b (mulOut a b x) k).1).getD (x+k) 0))+(mulIn (a.getD x 0) x b (mulOut a b x) k).2) % 4294967296):Nat):Int)))].getD (j' - 0) .any else (limbEl ((mulIn (a.getD x 0) x b (mulOut a b x) k).1)) i' j')) (.row false 50 (a.length+b.length) 1 (limbEl ((mulIn (a.getD x 0) x b (mulOut a b x) (k+1)).1))))] <| .nil)) (by kernel_rfl))
  (fun hk=>by
    exact spt (chain [tF 28 ((b.length:Int) < (b.length:Int)) (by omega)] <| .nil) (by kernel_rfl)) (by nofun):LpT 7 Tryz.f159 (mulFamIn a b x 0) (.exit 2) ⟨67,false,[(8,.e (.v (.int .u64 (((mulIn (a.getD x 0) x b (mulOut a b x) b.length).2:Nat):Int)))),(6,.e (iP x)),(20,.e (iP x)),(19,.e (iP a.length)),(18,.e (slP a)),(5,.own 17),(1,.e (slP b))],[(17,.row false 50 (a.length+b.length) 1 (limbEl ((mulIn (a.getD x 0) x b (mulOut a b x) b.length).1)))]⟩) (chain [.o 8 (.int (by first | rfl | omega | (simp only [Nat.add_mul,Nat.one_mul]; omega)):PV.le (.e (.v (.int .u64 0))) (.e (.v (.int .u64 (((mulIn (a.getD x 0) x b (mulOut a b x) 0).2:Nat):Int))))),
  .b 17 (.of_eq rfl:Bx.le (.row false 50 (a.length+b.length) 1 (limbEl (mulOut a b x))) (.row false 50 (a.length+b.length) 1 (limbEl ((mulIn (a.getD x 0) x b (mulOut a b x) 0).1))))] <| .nil),
     r64 ((x:Int)+(b.length:Int)) (by omega),
     .o 63 (.int (u32_nat _):PV.le (.e (.v (.int .u32 (IntKind.u32.wrap (((mulIn (a.getD x 0) x b (mulOut a b x) b.length).2:Nat):Int))))) (.e (.v (.int .u32 ((((mulIn (a.getD x 0) x b (mulOut a b x) b.length).2 % 4294967296):Nat):Int))))),
     iX ((((x+b.length):Nat):Int)) ((a.length+b.length)) (by omega),.a (by omega:(x+b.length) < (a.length+b.length)),r64 ((x:Int)+1) (by omega)] <| .e (chain [.b 17 (row_set rfl (by omega):Bx.le (.row false 50 (a.length+b.length) 1 (fun i' j'=>if i'=(x+b.length) ∧ 0 ≤ j' ∧ j' < 0+1 then [(.v (.int .u32 ((((mulIn (a.getD x 0) x b (mulOut a b x) b.length).2 % 4294967296):Nat):Int)))].getD (j' - 0) .any else (limbEl ((mulIn (a.getD x 0) x b (mulOut a b x) b.length).1)) i' j')) (.row false 50 (a.length+b.length) 1 (limbEl (mulOut a b (x+1)))))] <| .nil)) (by kernel_rfl))
  (fun hx=>by
    exact spt (chain [tF 21 ((a.length:Int) < (a.length:Int)) (by omega)] <| .nil) (by kernel_rfl)) (by nofun):LpT 3 Tryz.f159 (mulFam a b 0) (.exit 0) ⟨67,false,[(5,.own 17)],[(17,.row false 50 (a.length+b.length) 1 (limbEl (mulOut a b a.length)))]⟩) (chain [.b 17 (row_zero rfl (fun i=>by simp [mulOut,List.getD_eq_getElem?_getD,List.getElem?_replicate]; split <;> rfl):Bx.le (.row false 50 (a.length+b.length) 1 (fun _ j_=>[(.v (.int .u32 0))].getD j_ .any)) (.row false 50 (a.length+b.length) 1 (limbEl (mulOut a b 0))))] <| .nil)] <| rR (slP (mulOut a b a.length)) (slRow_le (by rw [(mulOut_spec ha hb a.length (by omega)).len]):E.le (.sl false (a.length+b.length) 1 (limbEl (mulOut a b a.length))) (slP (mulOut a b a.length)))) (by kernel_rfl)
open Go.RowKit Fp Pu
theorem natLong1_pc (L:List Nat) (h:L.length ≤ 256):PCt 143 [slP L] (bP false):=by
 exact tr true Tryz.call143 Tryz.func143 (chain [tF 5 (256 < (L.length:Int)) (by omega)] <| .nil) (by kernel_rfl)
theorem natLongB_pc (L:List Nat) (M:List Nat) (h1:L.length ≤ 256) (h2:M.length ≤ 256):PCt 123 [(.sl true 2 1 fun i_ j_=>[(slP L),(slP M)].getD (i_ * 1+j_) (.v (.bool false)))] (bP false):=by
 exact tr true Tryz.call123 Tryz.func123 (chain [.c (limbs_hasnt true 2 _ 143 [] (fun _=>false) (fun i hi=>(match i,hi with | 0,_=>natLong1_pc _ h1 | 1,_=>natLong1_pc _ h2 | n+2,hi=>absurd hi (by omega))) (by omega) (fun _ _=>rfl):PCt 142 [(.sl true 2 1 fun i_ j_=>[(slP L),(slP M)].getD (i_ * 1+j_) (.v (.bool false))),(.fn 143 [])] _)] <| .nil) (by kernel_rfl)
theorem natMul_L (L M:List Nat) (hL:Ok32 L) (hM:Ok32 M) (h1:L.length ≤ 256) (h2:M.length ≤ 256) (hf:(limbs (val L * val M)).length ≤ 256):PCt 140 [slP L,slP M] (.tup [slP (limbs (val L * val M)),iP 0]):=by
 have ka:=hL.trimL
 have kb:=hM.trimL
 have ta:=tlen_le L
 have tb:=tlen_le M
 unfold tlen at ta tb
 have km:=(mulOut_spec ka kb _ (Nat.le_refl _)).ok
 have he:trimL (mulOut (trimL L) (trimL M) (trimL L).length)=limbs (val L * val M):=by rw [trimL_eq_limbs km,val_mulOut ka kb,val_trimL,val_trimL]
 have hd:(trimL (mulOut (trimL L) (trimL M) (trimL L).length)).length ≤ 256:=by rw [he]; exact hf
 exact tr true Tryz.call140 Tryz.func140 (chain [.c (natLongB_pc L M ‹_› ‹_›),.c (natTrim_pc _ hL:PCt 128 [(slP L)] _),.c (natTrim_pc _ hM:PCt 128 [(slP M)] _),.c (natMulP _ _ ka kb (by omega) (by omega):PCt 159 [(slP (trimL L)),(slP (trimL M))] _),
  .c (natDone_pc _ km hd:PCt 124 [(slP (mulOut (trimL L) (trimL M) (trimL L).length))] _)] <| rQ (.tup [(slP (trimL (mulOut (trimL L) (trimL M) (trimL L).length))),(iP 0)]) (.tup [slP (limbs (val L * val M)),iP 0]) (by rw [he])) (by kernel_rfl)
theorem natMul_pc (m n:Nat) (h1:(limbs m).length ≤ 256) (h2:(limbs n).length ≤ 256) (hf:(limbs (m * n)).length ≤ 256):PCt 140 [slP (limbs m),slP (limbs n)] (.tup [slP (limbs (m * n)),iP 0]):=by
 have:=natMul_L (limbs m) (limbs n) (ok_limbs m) (ok_limbs n) h1 h2 (by rw [val_limbs,val_limbs]; exact hf)
 rwa [val_limbs,val_limbs] at this
open Go.RowKit Fp Pu
theorem rdShl_pc (m n:Nat) (h1:(limbs m).length ≤ 256) (h2:n ≤ 65536) (h3:(limbs (m * 2 ^ n)).length ≤ 256):PCt 156 [(slP (limbs m)),(iP n)] (slP (limbs (m * 2 ^ n))):=by
 exact tr true Tryz.call156 Tryz.func156 (chain [.c (natShl_pc _ _ (by omega) (by omega) (by omega):PCt 141 [(slP (limbs m)),(iP n)] _)] <| .nil) (by kernel_rfl)
theorem rdShr_pc (m n:Nat) (h1:(limbs m).length ≤ 256) (h2:n ≤ 65536):PCt 157 [(slP (limbs m)),(iP n)] (.tup [(slP (limbs (m / 2 ^ n))),(bP (decide (m % 2 ^ n ≠ 0)))]):=by
 have hb:=bits_of_limbs h1
 have hq:(limbs (m / 2 ^ n)).length ≤ 256:=limbs_of_bits (by have:=bitsN_mono (Nat.div_le_self m (2 ^ n)); omega)
 have hq2:(limbs (m / 2 ^ n * 2 ^ n)).length ≤ 256:=limbs_of_bits (by have:=bitsN_mono (Nat.div_mul_le_self m (2 ^ n)); omega)
 have hr:(limbs (m / 2 ^ bitsN m)).length ≤ 256:=limbs_of_bits (by have:=bitsN_mono (Nat.div_le_self m (2 ^ bitsN m)); omega)
 have hr2:(limbs (m / 2 ^ bitsN m * 2 ^ bitsN m)).length ≤ 256:=limbs_of_bits (by have:=bitsN_mono (Nat.div_mul_le_self m (2 ^ bitsN m)); omega)
 by_cases hn:bitsN m < n
 ·have q1:=div_pow_bits (Nat.le_of_lt hn)
  have q2:=div_pow_bits (Nat.le_refl (bitsN m))
  exact tr true Tryz.call157 Tryz.func157 (chain [.c (natBitsM_pc _ (by omega):PCt 108 [(slP (limbs m))] _),tT 11 ((((bitsN m):Nat):Int) < (n:Int)) (by omega),.c (natBitsM_pc _ (by omega):PCt 108 [(slP (limbs m))] _),
   .c (natShr_pc _ _ (by omega) (by omega):PCt 100 [(slP (limbs m)),(iP (((bitsN m):Nat):Int))] _),.c (rdShl_pc (m / 2 ^ (bitsN m)) (bitsN m) (by omega) (by omega) (by omega)),
   .c (natCmpM_pc _ _ (by omega) (by omega):PCt 120 [(slP (limbs ((m / 2 ^ (bitsN m)) * 2 ^ (bitsN m)))),(slP (limbs m))] _)] <| rQ (.tup [(slP (limbs (m / 2 ^ (bitsN m)))),(bP ((cmpN ((m / 2 ^ (bitsN m)) * 2 ^ (bitsN m)) m) != 0))]) (.tup [(slP (limbs (m / 2 ^ n))),(bP (decide (m % 2 ^ n ≠ 0)))]) (by rw [lost_cmp,q1.1,q1.2,q2.1,q2.2])) (by kernel_rfl)
 ·exact tr true Tryz.call157 Tryz.func157 (chain [.c (natBitsM_pc _ (by omega):PCt 108 [(slP (limbs m))] _),tF 11 ((((bitsN m):Nat):Int) < (n:Int)) (by omega),.c (natShr_pc _ _ (by omega) (by omega):PCt 100 [(slP (limbs m)),(iP n)] _),
   .c (rdShl_pc (m / 2 ^ n) n (by omega) (by omega) (by omega)),.c (natCmpM_pc _ _ (by omega) (by omega):PCt 120 [(slP (limbs ((m / 2 ^ n) * 2 ^ n))),(slP (limbs m))] _)] <| rQ (.tup [(slP (limbs (m / 2 ^ n))),(bP ((cmpN ((m / 2 ^ n) * 2 ^ n) m) != 0))]) (.tup [(slP (limbs (m / 2 ^ n))),(bP (decide (m % 2 ^ n ≠ 0)))]) (by rw [lost_cmp])) (by kernel_rfl)
open Go.RowKit Fp Pu
abbrev usa0:E:=.sl false 1 1 fun i_ j_=>[(.v (.int .u32 1))].getD (i_ * 1+j_) (.v (.bool false))
abbrev usa1 (p):=slP (limbs (0 * 2 ^ ((0 - (cutU 0 0 p)).toNat)))
def cutA (m:Nat) (e:Int) (p:Nat):Nat:=if cutU m e p ≤ e then m * 2 ^ (e - cutU m e p).toNat else m / 2 ^ (cutU m e p - e).toNat
def cutM (m:Nat) (e:Int) (more:Bool) (p:Nat):Bool:=if cutU m e p ≤ e then more else (more || decide (m % 2 ^ (cutU m e p - e).toNat ≠ 0))
theorem cutP_down (m:Nat) (e:Int) (more:Bool) (p:Nat):cutP m e more p false=cutA m e p:=by unfold cutP cutA; simp
theorem cutP_up {m:Nat} {e:Int} {more:Bool} {p:Nat} (hm:more=true → p < bitsN m):cutP m e more p true=cutA m e p+if cutM m e more p=true then 1 else 0:=by
 unfold cutP cutA cutM
 by_cases hU:cutU m e p ≤ e
 ·have hmo:more=false:=by
   cases hmore:more with
   | false=>rfl
   | true=>have:=hm hmore; unfold cutU at hU; omega
  simp [hU,hmo]
 ·simp [hU]
theorem rdCut_pc (m:Nat) (e:Int) (more up:Bool) (p:Nat) (h1:(limbs m).length ≤ 256) (h0:m ≠ 0) (hp1:8 ≤ p) (hp2:p ≤ 512) (he1:-45000 ≤ e) (he2:e ≤ 45000) (hm:more=true → p < bitsN m):PCt 158 [(.agg [(slP (limbs m)),(iP e),(bP more)]),iP (p:Int),bP up] (.tup [dyP (cutD false m e more p up),iP (cutE false m e more p up)]):=by
 have hsu:=cutP_spec (e:=e) true h0 hm (show 1 ≤ p by omega)
 have hsd:=cutP_spec (e:=e) false h0 hm (show 1 ≤ p by omega)
 have hb:=bits_of_limbs h1
 have hbp:=bitsN_pos h0
 have hqb:=cutP_bits (e:=e) (more:=more) (p:=p) (up:=true) h0
 have hqa:=cutP_bits (e:=e) (more:=more) (p:=p) (up:=false) h0
 rw [cutP_down] at hsd hqa
 have hu1:-16384 ≤ (cutU m e p):=by unfold cutU; omega
 have hu2:(cutU m e p) ≤ 60000:=by unfold cutU; omega
 have hu3:(cutU m e p) ≤ max (e+8192) (-16384):=by unfold cutU; omega
 have fa:(limbs (cutA m e p)).length ≤ 256:=limbs_of_bits (by omega)
 have fb:(limbs (cutP m e more p true)).length ≤ 256:=limbs_of_bits (by omega)
 have f1:(limbs 1).length ≤ 256:=limbs_of_bits (by decide)
 cases up with
 | true =>
  exact tr true Tryz.call158 Tryz.func158 (chain [.c (natBitsM_pc _ (by omega):PCt 108 [(slP (limbs m))] _),r64 (e+(((bitsN m):Nat):Int)) (by omega),r64 ((e+(((bitsN m):Nat):Int)) - (p:Int)) (by omega),
   .o 21 (.int (by unfold cutU; split <;> omega):PV.le (.e (iP (if (-16384) > ((e+(((bitsN m):Nat):Int)) - (p:Int)) then (-16384) else ((e+(((bitsN m):Nat):Int)) - (p:Int))))) (.e (iP (cutU m e p)))),
   .j 58 ⟨84,true,[(9,.e (slP (limbs (cutA m e p)))),(10,.e (bP (cutM m e more p))),(8,.e (iP (cutU m e p))),(6,.box 6 0),(1,.e (iP p)),(2,.e (bP true))],[(6,.cells 24 [(bP false),(.v (.slice none 0 0)),(iP 0)])]⟩
   (.w ((cutU m e p) ≤ e)
    (fun m1=>by
     have fx:(limbs (m * 2 ^ (e - (cutU m e p)).toNat)).length ≤ 256:=by have:=fa; rwa [show cutA m e p=_ from if_pos m1] at this
     exact chain [.v 29 (.bool (decide_eq_true m1)),r64 (e - (cutU m e p)) (by omega),.o 35 (.int (by omega):PV.le (.e (iP (e - (cutU m e p)))) (.e (iP (((e - (cutU m e p)).toNat:Nat):Int)))),
      .c (rdShl_pc m ((e - (cutU m e p)).toNat:Nat) (by omega) (by omega) (by omega))] <| .e (chain [.o 9 (.e (.of_eq (by rw [show cutA m e p=_ from if_pos m1])):PV.le (.e (slP (limbs (m * 2 ^ ((e - (cutU m e p)).toNat))))) (.e (slP (limbs (cutA m e p))))),tB 10 (by simp [cutM,m1]:more=(cutM m e more p))] <| .nil))
    (fun m1=>chain [.v 29 (.bool (decide_eq_false m1)),r64 ((cutU m e p) - e) (by omega),.o 43 (.int (by omega):PV.le (.e (iP ((cutU m e p) - e))) (.e (iP ((((cutU m e p) - e).toNat:Nat):Int)))),
     .c (rdShr_pc m (((cutU m e p) - e).toNat:Nat) (by omega) (by omega))] <| .w (more=true)
     (fun m2=>chain [tB 48 (m2)] <| .e (chain [.o 9 (.e (.of_eq (by rw [show cutA m e p=_ from if_neg m1])):PV.le (.e (slP (limbs (m / 2 ^ (((cutU m e p) - e).toNat))))) (.e (slP (limbs (cutA m e p))))),tB 10 (by simp [cutM,m1,m2]:true=(cutM m e more p))] <| .nil))
     (fun m2=>chain [tB 48 (Bool.eq_false_iff.2 m2)] <| .e (chain [.o 9 (.e (.of_eq (by rw [show cutA m e p=_ from if_neg m1])):PV.le (.e (slP (limbs (m / 2 ^ (((cutU m e p) - e).toNat))))) (.e (slP (limbs (cutA m e p))))),
  tB 10 (by simp [cutM,m1,m2]:(decide (m % 2 ^ (((cutU m e p) - e).toNat) ≠ 0))=(cutM m e more p))] <| .nil)))),
   .j 110 ⟨84,true,[(9,.e (slP (limbs (cutP m e more p true)))),(8,.e (iP (cutU m e p))),(6,.box 6 0),(1,.e (iP p)),(2,.e (bP true))],[(6,.cells 24 [(bP false),(.v (.slice none 0 0)),(iP 0)])]⟩
   (.w (cutM m e more p=true)
    (fun m1=>by
     have fx:(limbs (cutA m e p+1)).length ≤ 256:=by have:=fb; rwa [cutP_up hm,if_pos m1] at this
     exact chain [.v 55 (.bool (m1)),.o 58 (.e one_le:PV.le (.e usa0) (.e (slP (limbs 1)))),
      .c (natAdd_pc _ _ (by omega) (by omega) (by omega):PCt 126 [(slP (limbs (cutA m e p))),(slP (limbs 1))] _)] <| .e (chain [.o 9 (.e (.of_eq (by rw [cutP_up hm,if_pos m1])):PV.le (.e (slP (limbs ((cutA m e p)+1)))) (.e (slP (limbs (cutP m e more p true)))))] <| .nil))
    (fun m1=>chain [.v 55 (.bool (Bool.eq_false_iff.2 m1))] <| .e (chain [.o 9 (.e (.of_eq (by rw [cutP_up hm,if_neg m1,Nat.add_zero])):PV.le (.e (slP (limbs (cutA m e p)))) (.e (slP (limbs (cutP m e more p true)))))] <| .nil))),
   .c (natBitsM_pc _ (by omega):PCt 108 [(slP (limbs (cutP m e more p true)))] _),r64 ((((bitsN (cutP m e more p true)):Nat):Int)+(cutU m e p)) (by omega)] <| .w (16384 < ((((bitsN (cutP m e more p true)):Nat):Int)+(cutU m e p)))
   (fun k1=>by
    have w1:=(hsu.resolve_left (fun h=>absurd k1 (by omega))).2.resolve_right (fun h=>absurd h.1 (by decide))
    exact chain [tB 66 (decide_eq_true k1),.o 68 (.e zeroP_le:PV.le (.e (.agg [(bP false),(.v (.slice none 0 0)),(iP 0)])) (.e (dyP zeroD)))] <| rQ (.tup [(dyP zeroD),(iP 9)]) (.tup [dyP (cutD false m e more p true),iP (cutE false m e more p true)]) (by rw [w1.2.1,w1.2.2]))
   (fun k1=>by
    have w1:=hsu.resolve_right (fun h=>k1 h.1)
    have hd:inRange (canon false (cutP m e more p true) (cutU m e p)):=by rw [← w1.2.1]; exact (cut_valid false m e more p true (by omega) (by omega)).range
    exact chain [tB 66 (decide_eq_false k1),.c (dyMake_pc _ _ _ (by omega) (by omega) (by omega) ‹_›:PCt 190 [(bP false),(slP (limbs (cutP m e more p true))),(iP (cutU m e p))] _)] <| rQ (.tup [(dyP (canon false (cutP m e more p true) (cutU m e p))),(iP 0)]) (.tup [dyP (cutD false m e more p true),iP (cutE false m e more p true)]) (by rw [w1.2.1,w1.2.2]))) (by kernel_rfl)
 | false =>
  exact tr true Tryz.call158 Tryz.func158 (chain [.c (natBitsM_pc _ (by omega):PCt 108 [(slP (limbs m))] _),r64 (e+(((bitsN m):Nat):Int)) (by omega),r64 ((e+(((bitsN m):Nat):Int)) - (p:Int)) (by omega),
   .o 21 (.int (by unfold cutU; split <;> omega):PV.le (.e (iP (if (-16384) > ((e+(((bitsN m):Nat):Int)) - (p:Int)) then (-16384) else ((e+(((bitsN m):Nat):Int)) - (p:Int))))) (.e (iP (cutU m e p)))),
   .j 58 ⟨84,true,[(9,.e (slP (limbs (cutA m e p)))),(10,.e (bP (cutM m e more p))),(8,.e (iP (cutU m e p))),(6,.box 6 0),(1,.e (iP p)),(2,.e (bP false))],[(6,.cells 24 [(bP false),(.v (.slice none 0 0)),(iP 0)])]⟩
   (.w ((cutU m e p) ≤ e)
    (fun m1=>by
     have fx:(limbs (m * 2 ^ (e - (cutU m e p)).toNat)).length ≤ 256:=by have:=fa; rwa [show cutA m e p=_ from if_pos m1] at this
     exact chain [.v 29 (.bool (decide_eq_true m1)),r64 (e - (cutU m e p)) (by omega),.o 35 (.int (by omega):PV.le (.e (iP (e - (cutU m e p)))) (.e (iP (((e - (cutU m e p)).toNat:Nat):Int)))),
      .c (rdShl_pc m ((e - (cutU m e p)).toNat:Nat) (by omega) (by omega) (by omega))] <| .e (chain [.o 9 (.e (.of_eq (by rw [show cutA m e p=_ from if_pos m1])):PV.le (.e (slP (limbs (m * 2 ^ ((e - (cutU m e p)).toNat))))) (.e (slP (limbs (cutA m e p))))),tB 10 (by simp [cutM,m1]:more=(cutM m e more p))] <| .nil))
    (fun m1=>chain [.v 29 (.bool (decide_eq_false m1)),r64 ((cutU m e p) - e) (by omega),.o 43 (.int (by omega):PV.le (.e (iP ((cutU m e p) - e))) (.e (iP ((((cutU m e p) - e).toNat:Nat):Int)))),
     .c (rdShr_pc m (((cutU m e p) - e).toNat:Nat) (by omega) (by omega))] <| .w (more=true)
     (fun m2=>chain [tB 48 (m2)] <| .e (chain [.o 9 (.e (.of_eq (by rw [show cutA m e p=_ from if_neg m1])):PV.le (.e (slP (limbs (m / 2 ^ (((cutU m e p) - e).toNat))))) (.e (slP (limbs (cutA m e p))))),tB 10 (by simp [cutM,m1,m2]:true=(cutM m e more p))] <| .nil))
     (fun m2=>chain [tB 48 (Bool.eq_false_iff.2 m2)] <| .e (chain [.o 9 (.e (.of_eq (by rw [show cutA m e p=_ from if_neg m1])):PV.le (.e (slP (limbs (m / 2 ^ (((cutU m e p) - e).toNat))))) (.e (slP (limbs (cutA m e p))))),
  tB 10 (by simp [cutM,m1,m2]:(decide (m % 2 ^ (((cutU m e p) - e).toNat) ≠ 0))=(cutM m e more p))] <| .nil)))),
   .c (natBitsM_pc _ (by omega):PCt 108 [(slP (limbs (cutA m e p)))] _),r64 ((((bitsN (cutA m e p)):Nat):Int)+(cutU m e p)) (by omega)] <| .w (16384 < ((((bitsN (cutA m e p)):Nat):Int)+(cutU m e p)))
   (fun k1=>by
    have w1:=(hsd.resolve_left (fun h=>absurd k1 (by omega))).2.resolve_left (fun h=>absurd h.1 (by decide))
    have hd:inRange (canon false ((1 * 2 ^ p) - 1) (16384 - (p:Int))):=by rw [Nat.one_mul,← w1.2.1]; exact (cut_valid false m e more p false (by omega) (by omega)).range
    have g0:bitsN (1 * 2 ^ p)=p+1:=by rw [Nat.one_mul]; exact bitsN_eq (Nat.le_refl _) (Nat.pow_lt_pow_right (by decide) (by omega))
    have g1:(limbs 1).length ≤ 256:=limbs_of_bits (by decide)
    have g2:(limbs (1 * 2 ^ p)).length ≤ 256:=limbs_of_bits (by omega)
    have g4:1 ≤ 1 * 2 ^ p:=by rw [Nat.one_mul]; exact Nat.pow_pos (by decide)
    have g3:(limbs ((1 * 2 ^ p) - 1)).length ≤ 256:=limbs_of_bits (by have:=bitsN_mono (Nat.sub_le (1 * 2 ^ p) 1); omega)
    exact chain [tB 66 (decide_eq_true k1),.o 70 (.e one_le:PV.le (.e usa0) (.e (slP (limbs 1)))),.c (rdShl_pc 1 p (by omega) (by omega) (by omega)),
     .o 73 (.e one_le:PV.le (.e usa0) (.e (slP (limbs 1)))),
     .c (natSub_pc _ _ (by omega) (by omega) (by omega):PCt 127 [(slP (limbs (1 * 2 ^ p))),(slP (limbs 1))] _),r64 (16384 - (p:Int)) (by omega),
     .c (dyMake_pc _ _ _ (by omega) (by omega) (by omega) ‹_›:PCt 190 [(bP false),(slP (limbs ((1 * 2 ^ p) - 1))),(iP (16384 - (p:Int)))] _)] <| rQ (.tup [(dyP (canon false ((1 * 2 ^ p) - 1) (16384 - (p:Int)))),(iP 0)]) (.tup [dyP (cutD false m e more p false),iP (cutE false m e more p false)]) (by rw [w1.2.1,w1.2.2,Nat.one_mul]))
   (fun k1=>by
    have w1:=hsd.resolve_right (fun h=>k1 h.1)
    have hd:inRange (canon false (cutA m e p) (cutU m e p)):=by rw [← w1.2.1]; exact (cut_valid false m e more p false (by omega) (by omega)).range
    exact chain [tB 66 (decide_eq_false k1),.c (dyMake_pc _ _ _ (by omega) (by omega) (by omega) ‹_›:PCt 190 [(bP false),(slP (limbs (cutA m e p))),(iP (cutU m e p))] _)] <| rQ (.tup [(dyP (canon false (cutA m e p) (cutU m e p))),(iP 0)]) (.tup [dyP (cutD false m e more p false),iP (cutE false m e more p false)]) (by rw [w1.2.1,w1.2.2]))) (by kernel_rfl)
theorem rdCut_zero (up:Bool) (p:Nat) (hp1:8 ≤ p) (hp2:p ≤ 512):PCt 158 [(.agg [(slP (limbs 0)),(iP 0),(bP false)]),iP (p:Int),bP up] (.tup [dyP (cutD false 0 0 false p up),iP (cutE false 0 0 false p up)]):=by
 have hU:cutU 0 0 p = -(p:Int):=by unfold cutU; rw [bitsN_zero]; omega
 have hK:cutK 0 0 p=0:=by unfold cutK; rw [bitsN_zero]; omega
 have hQ:cutQ 0 0 false p up=0:=by unfold cutQ; rw [hK]; simp
 have hO:cutOver 0 0 false p up=false:=by unfold cutOver; rw [hQ]; simp
 have hout:(false != up)=up:=by cases up <;> rfl
 have k2:cutD false 0 0 false p up=zeroD:=by unfold cutD; rw [hout,hO,if_neg (by decide),hQ]; rfl
 have k3:cutE false 0 0 false p up=0:=by unfold cutE; rw [hout,hO]; rfl
 have lz:bitsN 0=0:=rfl
 have l0:(limbs 0).length ≤ 256:=by rw [limbs_zero]; decide
 have l1:(limbs (0 * 2 ^ (0 - cutU 0 0 p).toNat)).length ≤ 256:=by rw [Nat.zero_mul]; exact l0
 have lb:bitsN (0 * 2 ^ (0 - cutU 0 0 p).toNat)=0:=by rw [Nat.zero_mul]; rfl
 have hd:inRange (canon false (0 * 2 ^ (0 - cutU 0 0 p).toNat) (cutU 0 0 p)):=by rw [Nat.zero_mul]; exact .inl rfl
 by_cases hup:up=true
 ·exact tr true Tryz.call158 Tryz.func158 (chain [.c (natBitsM_pc _ (by omega):PCt 108 [(slP (limbs 0))] _),r64 (0+(((bitsN 0):Nat):Int)) (by omega),r64 ((0+(((bitsN 0):Nat):Int)) - (p:Int)) (by omega),
   .o 21 (.int (by unfold cutU; rw [bitsN_zero]; split <;> omega):PV.le (.e (iP (if (-16384) > ((0+(((bitsN 0):Nat):Int)) - (p:Int)) then (-16384) else ((0+(((bitsN 0):Nat):Int)) - (p:Int))))) (.e (iP (cutU 0 0 p)))),
   tT 29 ((cutU 0 0 p) ≤ 0) (by omega),r64 (0 - (cutU 0 0 p)) (by omega),.o 35 (.int (by omega):PV.le (.e (iP (0 - (cutU 0 0 p)))) (.e (iP (((0 - (cutU 0 0 p)).toNat:Nat):Int)))),
   .c (rdShl_pc 0 ((0 - (cutU 0 0 p)).toNat:Nat) (by omega) (by omega) (by omega)),tB 52 (hup:up=true),.c (natBitsM_pc _ (by omega):PCt 108 [(usa1 p)] _),
   r64 ((((bitsN (0 * 2 ^ ((0 - (cutU 0 0 p)).toNat))):Nat):Int)+(cutU 0 0 p)) (by omega),tF 66 (16384 < ((((bitsN (0 * 2 ^ ((0 - (cutU 0 0 p)).toNat))):Nat):Int)+(cutU 0 0 p))) (by omega),
   .c (dyMake_pc _ _ _ (by omega) (by omega) (by omega) ‹_›:PCt 190 [(bP false),(usa1 p),(iP (cutU 0 0 p))] _)] <| rQ (.tup [(dyP (canon false (0 * 2 ^ ((0 - (cutU 0 0 p)).toNat)) (cutU 0 0 p))),(iP 0)]) (.tup [dyP (cutD false 0 0 false p up),iP (cutE false 0 0 false p up)]) (by rw [k2,k3,Nat.zero_mul]; rfl)) (by kernel_rfl)
 ·exact tr true Tryz.call158 Tryz.func158 (chain [.c (natBitsM_pc _ (by omega):PCt 108 [(slP (limbs 0))] _),r64 (0+(((bitsN 0):Nat):Int)) (by omega),r64 ((0+(((bitsN 0):Nat):Int)) - (p:Int)) (by omega),
   .o 21 (.int (by unfold cutU; rw [bitsN_zero]; split <;> omega):PV.le (.e (iP (if (-16384) > ((0+(((bitsN 0):Nat):Int)) - (p:Int)) then (-16384) else ((0+(((bitsN 0):Nat):Int)) - (p:Int))))) (.e (iP (cutU 0 0 p)))),
   tT 29 ((cutU 0 0 p) ≤ 0) (by omega),r64 (0 - (cutU 0 0 p)) (by omega),.o 35 (.int (by omega):PV.le (.e (iP (0 - (cutU 0 0 p)))) (.e (iP (((0 - (cutU 0 0 p)).toNat:Nat):Int)))),
   .c (rdShl_pc 0 ((0 - (cutU 0 0 p)).toNat:Nat) (by omega) (by omega) (by omega)),tB 52 (by simpa using hup:up=false),.c (natBitsM_pc _ (by omega):PCt 108 [(usa1 p)] _),
   r64 ((((bitsN (0 * 2 ^ ((0 - (cutU 0 0 p)).toNat))):Nat):Int)+(cutU 0 0 p)) (by omega),tF 66 (16384 < ((((bitsN (0 * 2 ^ ((0 - (cutU 0 0 p)).toNat))):Nat):Int)+(cutU 0 0 p))) (by omega),
   .c (dyMake_pc _ _ _ (by omega) (by omega) (by omega) ‹_›:PCt 190 [(bP false),(usa1 p),(iP (cutU 0 0 p))] _)] <| rQ (.tup [(dyP (canon false (0 * 2 ^ ((0 - (cutU 0 0 p)).toNat)) (cutU 0 0 p))),(iP 0)]) (.tup [dyP (cutD false 0 0 false p up),iP (cutE false 0 0 false p up)]) (by rw [k2,k3,Nat.zero_mul]; rfl)) (by kernel_rfl)
theorem rdCut_all (m:Nat) (e:Int) (more up:Bool) (p:Nat) (h1:(limbs m).length ≤ 256) (h0:m ≠ 0 ∨ m=0 ∧ e=0 ∧ more=false) (hp1:8 ≤ p) (hp2:p ≤ 512) (he1:-45000 ≤ e) (he2:e ≤ 45000) (hm:more=true → p < bitsN m):PCt 158 [(.agg [(slP (limbs m)),(iP e),(bP more)]),iP (p:Int),bP up] (.tup [dyP (cutD false m e more p up),iP (cutE false m e more p up)]):=by
 rcases h0 with h0 | ⟨rfl,rfl,rfl⟩
 ·exact rdCut_pc m e more up p h1 h0 hp1 hp2 he1 he2 hm
 ·exact rdCut_zero up p hp1 hp2
open Go.RowKit Fp Pu
def precB (p:Int):Bool:=decide (8 ≤ p) && decide (p ≤ 512)
theorem precB_true {p:Int}:precB p=true ↔ 8 ≤ p ∧ p ≤ 512:=by simp [precB]
theorem ivPermitted_pc (p:Int):PCt 86 [iP p] (bP (precB p)):=by
 by_cases h:8 ≤ p
 ·exact tr true Tryz.call86 Tryz.func86 (chain [tB 4 (decide_eq_true h)] <| rQ (bP (decide (p ≤ 512))) (bP (precB p)) (by simp [precB,h])) (by kernel_rfl)
 ·exact tr true Tryz.call86 Tryz.func86 (chain [tB 4 (decide_eq_false h)] <| rQ (bP false) (bP (precB p)) (by simp [precB,h])) (by kernel_rfl)
theorem rdPrecise_pc (p:Int):PCt 154 [iP p] (bP (precB p)):=by
 by_cases h:8 ≤ p
 ·exact tr true Tryz.call154 Tryz.func154 (chain [tB 4 (decide_eq_true h)] <| rQ (bP (decide (p ≤ 512))) (bP (precB p)) (by simp [precB,h])) (by kernel_rfl)
 ·exact tr true Tryz.call154 Tryz.func154 (chain [tB 4 (decide_eq_false h)] <| rQ (bP false) (bP (precB p)) (by simp [precB,h])) (by kernel_rfl)
open Go.RowKit Fp Pu
def rdFaultF (l:List Dy) (p:Nat) (i:Nat):PS:=⟨20,true,[(9,.e (iP i)),(8,.e (iP l.length)),(7,.e (dysP l)),(0,.e (iP p))],[]⟩
theorem rdSigned_pc (neg:Bool) (m:Nat) (e:Int) (more up:Bool) (p:Nat) (h1:(limbs m).length ≤ 256) (h0:m ≠ 0 ∨ m=0 ∧ e=0 ∧ more=false) (hp1:8 ≤ p) (hp2:p ≤ 512) (he1:-45000 ≤ e) (he2:e ≤ 45000) (hm:more=true → p < bitsN m):PCt 139 [(bP neg),(.agg [(slP (limbs m)),(iP e),(bP more)]),(iP p),(bP up)] (.tup [dyP (cutD neg m e more p up),iP (cutE neg m e more p up)]):=by
 cases neg with
 | true =>
  have hs:=cut_signed true m e more p up
  change _ ∧ (cutE false m e more p (!(up == true))=0 → _ → negD (cutD false m e more p (!(up == true)))=_) ∧ ((cutE false m e more p (!(up == true)) ≠ 0 ∨ _) → cutD false m e more p (!(up == true))=_) at hs
  have hE:cutE true m e more p up=cutE false m e more p (!(up == true)):=hs.1
  have hv:=cut_valid false m e more p (!(up == true)) (show 1 ≤ p by omega) (by omega)
  by_cases hz:cutE false m e more p (!(up == true))=0
  ·exact tr true Tryz.call139 Tryz.func139 (chain [.c (rdCut_all _ _ _ _ _ (by omega) ‹_› (by omega) (by omega) (by omega) (by omega) ‹_›:PCt 158 [(.agg [(slP (limbs m)),(iP e),(bP more)]),(iP p),(bP (!(up == true)))] _),
    tB 22 (by rw [hz]; rfl:((cutE false m e more p (!(up == true))) == 0)=true),.c (dyNeg_pc _ ‹_›:PCt 105 [(dyP (cutD false m e more p (!(up == true))))] _)] <| rQ (.tup [(dyP (negD (cutD false m e more p (!(up == true))))),(iP (cutE false m e more p (!(up == true))))]) (.tup [dyP (cutD true m e more p up),iP (cutE true m e more p up)]) (by rw [hs.2.1 hz rfl,hE])) (by kernel_rfl)
  ·exact tr true Tryz.call139 Tryz.func139 (chain [.c (rdCut_all _ _ _ _ _ (by omega) ‹_› (by omega) (by omega) (by omega) (by omega) ‹_›:PCt 158 [(.agg [(slP (limbs m)),(iP e),(bP more)]),(iP p),(bP (!(up == true)))] _),
    tB 22 (by simpa using hz:((cutE false m e more p (!(up == true))) == 0)=false)] <| rQ (.tup [(dyP (cutD false m e more p (!(up == true)))),(iP (cutE false m e more p (!(up == true))))]) (.tup [dyP (cutD true m e more p up),iP (cutE true m e more p up)]) (by rw [hs.2.2 (.inl hz),hE])) (by kernel_rfl)
 | false =>
  have hs:=cut_signed false m e more p up
  change _ ∧ (cutE false m e more p (!(up == false))=0 → _ → negD (cutD false m e more p (!(up == false)))=_) ∧ ((cutE false m e more p (!(up == false)) ≠ 0 ∨ _) → cutD false m e more p (!(up == false))=_) at hs
  have hE:cutE false m e more p up=cutE false m e more p (!(up == false)):=hs.1
  have hv:=cut_valid false m e more p (!(up == false)) (show 1 ≤ p by omega) (by omega)
  by_cases hz:cutE false m e more p (!(up == false))=0
  ·exact tr true Tryz.call139 Tryz.func139 (chain [.c (rdCut_all _ _ _ _ _ (by omega) ‹_› (by omega) (by omega) (by omega) (by omega) ‹_›:PCt 158 [(.agg [(slP (limbs m)),(iP e),(bP more)]),(iP p),(bP (!(up == false)))] _),
    tB 22 (by rw [hz]; rfl:((cutE false m e more p (!(up == false))) == 0)=true)] <| rQ (.tup [(dyP (cutD false m e more p (!(up == false)))),(iP (cutE false m e more p (!(up == false))))]) (.tup [dyP (cutD false m e more p up),iP (cutE false m e more p up)]) (by rw [hs.2.2 (.inr rfl),hE])) (by kernel_rfl)
  ·exact tr true Tryz.call139 Tryz.func139 (chain [.c (rdCut_all _ _ _ _ _ (by omega) ‹_› (by omega) (by omega) (by omega) (by omega) ‹_›:PCt 158 [(.agg [(slP (limbs m)),(iP e),(bP more)]),(iP p),(bP (!(up == false)))] _),
    tB 22 (by simpa using hz:((cutE false m e more p (!(up == false))) == 0)=false)] <| rQ (.tup [(dyP (cutD false m e more p (!(up == false)))),(iP (cutE false m e more p (!(up == false))))]) (.tup [dyP (cutD false m e more p up),iP (cutE false m e more p up)]) (by rw [hs.2.2 (.inl hz),hE])) (by kernel_rfl)
theorem rdOf_pc (d:Dy):PCt 155 [(dyP d)] (.agg [(slP (limbs d.m)),(iP d.e),(bP false)]):=by
 exact tr true Tryz.call155 Tryz.func155 (.nil) (by kernel_rfl)
theorem rdFault_pc (p:Nat) (l:List Dy) (hl:l.length ≤ 1000) (hv:∀ i,i < l.length → (l.getD i zeroD).Valid) (hp1:8 ≤ p) (hp2:p ≤ 512):PCt 136 [(iP p),(dysP l)] (iP 0):=by
 exact tr true Tryz.call136 Tryz.func136 (chain [.s (Sp.upto (rdFaultF l p) 0 l.length (by omega) (fun i hi hlti=>by
    have hvi:=hv i hlti
    exact spt (chain [tT 10 ((i:Int) < (l.length:Int)) (by omega),iX ((i:Int)) (l.length) (by omega),.c (dyValid_pc _ ‹_›:PCt 30 [(dyP (l.getD i zeroD))] _),r64 ((i:Int)+1) (by omega)] <| .nil) (by kernel_rfl))
  (fun hi=>by
    exact spt (chain [tF 10 ((l.length:Int) < (l.length:Int)) (by omega)] <| .nil) (by kernel_rfl)) (by nofun):LpT 2 Tryz.f136 (rdFaultF l p 0) (.exit 0) ⟨20,true,[(0,.e (iP p))],[]⟩) .nil,
  .c (rdPrecise_pc _:PCt 154 [(iP p)] _),tB 18 (precB_true.2 ⟨by omega,by omega⟩:(precB (p:Int))=true)] <| .nil) (by kernel_rfl)
theorem rdFault1_pc (p:Nat) (a:Dy) (ha:a.Valid) (hp1:8 ≤ p) (hp2:p ≤ 512):PCt 136 [iP (p:Int),dysP [a]] (iP 0) :=
 rdFault_pc p [a] (by simp) (fun i hi=>(match i,hi with
  | 0,_=>ha
  | n+1,hi=>absurd hi (by simp))) hp1 hp2
theorem rdFault2_pc (p:Nat) (a b:Dy) (ha:a.Valid) (hb:b.Valid) (hp1:8 ≤ p) (hp2:p ≤ 512):PCt 136 [iP (p:Int),dysP [a,b]] (iP 0) :=
 rdFault_pc p [a,b] (by simp) (fun i hi=>(match i,hi with
  | 0,_=>ha
  | 1,_=>hb
  | n+2,hi=>absurd hi (by simp))) hp1 hp2
theorem rdRound_pc (d:Dy) (p:Nat) (up:Bool) (hd:d.Valid) (hp1:8 ≤ p) (hp2:p ≤ 512):PCt 137 [(dyP d),(iP p),(bP up)] (.tup [dyP (rndD d p up),iP (rndE d p up)]):=by
 have hl:=hd.limbs
 have hz:d.m ≠ 0 ∨ d.m=0 ∧ d.e=0 ∧ false=false:=by
  by_cases h:d.m=0
  ·rcases hd.canon with q | q
   ·exact .inr ⟨h,q.2.2,rfl⟩
   ·omega
  ·exact .inl h
 have hx1:-45000 ≤ d.e:=by have:=hd.exp; omega
 have hx2:d.e ≤ 45000:=by have:=hd.exp; omega
 have hm:false=true → p < bitsN d.m:=fun h=>by cases h
 exact tr true Tryz.call137 Tryz.func137 (chain [.o 11 (.e (dys1_le _):PV.le (.e (.sl true 1 3 fun i_ j_=>(dyL d).getD (i_ * 3+j_) (.v (.bool false)))) (.e (dysP [d]))),.c (rdFault1_pc _ _ ‹_› (by omega) (by omega):PCt 136 [(iP p),(dysP [d])] _),
  tB 14 (by decide:((0:Int) != 0)=false),.c (rdOf_pc d),.c (rdSigned_pc d.neg d.m d.e false up p (by omega) ‹_› (by omega) (by omega) (by omega) (by omega) ‹_›)] <| .nil) (by kernel_rfl)
theorem cmpN_lt {a b:Nat}:cmpN a b < 0 ↔ a < b:=by
 unfold cmpN
 split
 ·simp_all
 ·split <;> simp_all
theorem rdSum_pc (a b:Dy) (p:Nat) (ha:a.Valid) (hb:b.Valid) (a0:a.m ≠ 0) (b0:b.m ≠ 0) (ht:b.top ≤ a.top) (hp1:8 ≤ p) (hp2:p ≤ 512):PCt 138 [(dyP a),(dyP b),(iP p)] (.tup [(.agg [(slP (limbs (rsM a b p))),(iP (rlow a b p)),(bP (rsL a b p))]),bP (rsT a b p)]):=by
 have sz:=sum_size ha hb a0 b0 ht hp2
 have sp:=sum_parts ha hb a0 b0 ht hp2
 obtain ⟨l1,l2,l3,l4,l5,l6,l7,l8,l9⟩:=sz
 obtain ⟨l10,l11,l12⟩:=sp
 obtain ⟨r1,r2,r3⟩:=rlow_spec a b p
 have va:=ha.limbs
 have vb:=hb.limbs
 have xa:=ha.exp
 have xb:=hb.exp
 have ta:=top_of a0
 have tb:=top_of b0
 have ba:=bits_of_limbs va
 have bb:=bits_of_limbs vb
 have z1:(limbs (a.m * 2 ^ ((a.e - (rlow a b p)).toNat))).length ≤ 256:=limbs_of_bits (show bitsN (rsX a b p) ≤ _ by omega)
 have zy:(limbs (yOf b (rlow a b p))).length ≤ 256:=limbs_of_bits (by omega)
 have z3:(limbs (rsY a b p)).length ≤ 256:=limbs_of_bits (by omega)
 have zm:(limbs (rsM a b p)).length ≤ 256:=limbs_of_bits (by omega)
 have z5:(limbs 1).length ≤ 256:=limbs_of_bits (by decide)
 exact tr true Tryz.call138 Tryz.func138 (chain [.c (dyTop_pc _ ‹_›:PCt 119 [(dyP a)] _),r64 ((Dy.top a) - (p:Int)) (by omega),r64 (((Dy.top a) - (p:Int)) - 8) (by omega),.c (dyTop_pc _ ‹_›:PCt 119 [(dyP a)] _),
  .c (dyTop_pc _ ‹_›:PCt 119 [(dyP b)] _),r64 ((Dy.top a) - (Dy.top b)) (by omega),
  .j 62 ⟨109,true,[(8,.e (iP (rlow a b p))),(6,.box 6 0),(4,.box 4 0),(3,.box 3 0)],[(6,.cells 145 [(.v (.slice none 0 0)),(iP 0),(bP false)]),(4,.cells 24 (dyL b)),(3,.cells 24 (dyL a))]⟩
   (.w (((Dy.top a) - (Dy.top b)) ≤ 2)
    (fun m1=>chain [.v 31 (.bool (decide_eq_true m1))] <| .e (chain [.o 8 (.int (by unfold rlow; rw [if_pos m1]; split <;> split <;> omega):PV.le (.e (iP (if b.e < (if (((Dy.top a) - (p:Int)) - 8) < a.e then (((Dy.top a) - (p:Int)) - 8) else a.e) then b.e else (if (((Dy.top a) - (p:Int)) - 8) < a.e then (((Dy.top a) - (p:Int)) - 8) else a.e)))) (.e (iP (rlow a b p))))] <| .nil))
    (fun m1=>chain [.v 31 (.bool (decide_eq_false m1))] <| .e (chain [.o 8 (.int (by unfold rlow; rw [if_neg m1]; split <;> omega):PV.le (.e (iP (if (((Dy.top a) - (p:Int)) - 8) < a.e then (((Dy.top a) - (p:Int)) - 8) else a.e))) (.e (iP (rlow a b p))))] <| .nil))),
  r64 (a.e - (rlow a b p)) (by omega),.o 41 (.int (by omega):PV.le (.e (iP (a.e - (rlow a b p)))) (.e (iP ((((a.e - (rlow a b p)).toNat):Nat):Int)))),.c (rdShl_pc a.m ((a.e - (rlow a b p)).toNat) (by omega) (by omega) (by omega)),
  .j 92 ⟨109,true,[(10,.e (slP (limbs (yOf b (rlow a b p))))),(11,.e (bP (lostOf b (rlow a b p)))),(9,.e (slP (limbs (a.m * 2 ^ ((a.e - (rlow a b p)).toNat))))),(8,.e (iP (rlow a b p))),(6,.box 6 0),(4,.box 4 0),(3,.box 3 0)],[(6,.cells 145 [(.v (.slice none 0 0)),(iP 0),(bP false)]),(4,.cells 24 (dyL b)),(3,.cells 24 (dyL a))]⟩
   (.w ((rlow a b p) ≤ b.e)
    (fun m1=>by
     have z2:(limbs (b.m * 2 ^ ((b.e - (rlow a b p)).toNat))).length ≤ 256:=by have:=zy; rwa [show yOf b (rlow a b p)=_ from if_pos m1] at this
     exact chain [.v 46 (.bool (decide_eq_true m1)),r64 (b.e - (rlow a b p)) (by omega),.o 52 (.int (by omega):PV.le (.e (iP (b.e - (rlow a b p)))) (.e (iP ((((b.e - (rlow a b p)).toNat):Nat):Int)))),
      .c (rdShl_pc b.m ((b.e - (rlow a b p)).toNat) (by omega) (by omega) (by omega))] <| .e (chain [.o 10 (.e (.of_eq (by rw [show yOf b (rlow a b p)=_ from if_pos m1])):PV.le (.e (slP (limbs (b.m * 2 ^ ((b.e - (rlow a b p)).toNat))))) (.e (slP (limbs (yOf b (rlow a b p)))))),
  tB 11 (by simp [lostOf,m1]:false=(lostOf b (rlow a b p)))] <| .nil))
    (fun m1=>chain [.v 46 (.bool (decide_eq_false m1)),r64 ((rlow a b p) - b.e) (by omega),.o 60 (.int (by omega):PV.le (.e (iP ((rlow a b p) - b.e))) (.e (iP (((((rlow a b p) - b.e).toNat):Nat):Int)))),
     .c (rdShr_pc b.m (((rlow a b p) - b.e).toNat) (by omega) (by omega))] <| .e (chain [.o 10 (.e (.of_eq (by rw [show yOf b (rlow a b p)=_ from if_neg m1])):PV.le (.e (slP (limbs (b.m / 2 ^ (((rlow a b p) - b.e).toNat))))) (.e (slP (limbs (yOf b (rlow a b p)))))),
  tB 11 (by simp [lostOf,m1]:(decide (b.m % 2 ^ (((rlow a b p) - b.e).toNat) ≠ 0))=(lostOf b (rlow a b p)))] <| .nil)))] <| .w (a.neg=b.neg)
  (fun k1=>by
   have eT:rsT a b p=false:=by unfold rsT; simp [k1]
   have eY:rsY a b p=yOf b (rlow a b p):=by unfold rsY; simp [k1]
   have eM:rsM a b p=rsX a b p+yOf b (rlow a b p):=by unfold rsM; rw [if_pos k1,eY]
   have eS:rsL a b p=lostOf b (rlow a b p):=by unfold rsL; rw [eT]; simp
   have z4:(limbs ((a.m * 2 ^ ((a.e - (rlow a b p)).toNat))+yOf b (rlow a b p))).length ≤ 256:=by have:=zm; rwa [eM] at this
   exact chain [tB 68 (beq_iff_eq.2 k1),.c (natAdd_pc _ _ (by omega) (by omega) (by omega):PCt 126 [(slP (limbs (a.m * 2 ^ ((a.e - (rlow a b p)).toNat)))),(slP (limbs (yOf b (rlow a b p))))] _)] <| rQ (.tup [(.agg [(slP (limbs ((a.m * 2 ^ ((a.e - (rlow a b p)).toNat))+(yOf b (rlow a b p))))),(iP (rlow a b p)),(bP (lostOf b (rlow a b p)))]),(bP false)]) (.tup [(.agg [(slP (limbs (rsM a b p))),(iP (rlow a b p)),(bP (rsL a b p))]),bP (rsT a b p)]) (by rw [eM,eS,eT]; rfl))
  (fun k1=>chain [tB 68 (beq_eq_false_iff_ne.2 k1),
   .j 158 ⟨109,true,[(10,.e (slP (limbs (rsY a b p)))),(11,.e (bP (lostOf b (rlow a b p)))),(9,.e (slP (limbs (a.m * 2 ^ ((a.e - (rlow a b p)).toNat))))),(8,.e (iP (rlow a b p))),(6,.box 6 0)],[(6,.cells 145 [(.v (.slice none 0 0)),(iP 0),(bP false)])]⟩
   (.w (lostOf b (rlow a b p)=true)
    (fun m1=>by
     have z6:(limbs ((yOf b (rlow a b p))+1)).length ≤ 256:=limbs_of_bits (by rw [show (yOf b (rlow a b p))+1=rsY a b p by (unfold rsY; simp [k1,m1])]; omega)
     exact chain [.v 79 (.bool (m1)),.o 82 (.e one_le:PV.le (.e (.sl false 1 1 fun i_ j_=>[(.v (.int .u32 1))].getD (i_ * 1+j_) (.v (.bool false)))) (.e (slP (limbs 1)))),
      .c (natAdd_pc _ _ (by omega) (by omega) (by omega):PCt 126 [(slP (limbs (yOf b (rlow a b p)))),(slP (limbs 1))] _)] <| .e (chain [.o 10 (.e (.of_eq (by unfold rsY; simp [k1,m1])):PV.le (.e (slP (limbs ((yOf b (rlow a b p))+1)))) (.e (slP (limbs (rsY a b p)))))] <| .nil))
    (fun m1=>chain [.v 79 (.bool (Bool.eq_false_iff.2 m1))] <| .e (chain [.o 10 (.e (.of_eq (by unfold rsY; simp [k1,m1])):PV.le (.e (slP (limbs (yOf b (rlow a b p))))) (.e (slP (limbs (rsY a b p)))))] <| .nil))),
   .c (natCmpM_pc _ _ (by omega) (by omega):PCt 120 [(slP (limbs (a.m * 2 ^ ((a.e - (rlow a b p)).toNat)))),(slP (limbs (rsY a b p)))] _)] <| .w ((cmpN (a.m * 2 ^ ((a.e - (rlow a b p)).toNat)) (rsY a b p)) < 0)
   (fun k2=>by
    have hc:rsX a b p < rsY a b p:=cmpN_lt.1 k2
    have eT:rsT a b p=true:=by unfold rsT; simp [k1,hc]
    have eM:rsM a b p=rsY a b p - rsX a b p:=by unfold rsM; rw [if_neg k1,if_pos hc]
    have eS:rsL a b p=false:=by unfold rsL; rw [eT]; simp
    have z4:(limbs (rsY a b p - (a.m * 2 ^ ((a.e - (rlow a b p)).toNat)))).length ≤ 256:=by have:=zm; rwa [eM] at this
    have z7:(a.m * 2 ^ ((a.e - (rlow a b p)).toNat)) ≤ rsY a b p:=Nat.le_of_lt hc
    exact chain [tB 89 (decide_eq_true k2),.c (natSub_pc _ _ (by omega) (by omega) (by omega):PCt 127 [(slP (limbs (rsY a b p))),(slP (limbs (a.m * 2 ^ ((a.e - (rlow a b p)).toNat))))] _)] <| rQ (.tup [(.agg [(slP (limbs ((rsY a b p) - (a.m * 2 ^ ((a.e - (rlow a b p)).toNat))))),(iP (rlow a b p)),(bP false)]),(bP true)]) (.tup [(.agg [(slP (limbs (rsM a b p))),(iP (rlow a b p)),(bP (rsL a b p))]),bP (rsT a b p)]) (by rw [eM,eS,eT]; rfl))
   (fun k2=>by
    have hc:¬ rsX a b p < rsY a b p:=fun h=>k2 (cmpN_lt.2 h)
    have eT:rsT a b p=false:=by unfold rsT; simp [hc]
    have eM:rsM a b p=rsX a b p - rsY a b p:=by unfold rsM; rw [if_neg k1,if_neg hc]
    have eS:rsL a b p=lostOf b (rlow a b p):=by unfold rsL; rw [eT]; simp
    have z4:(limbs ((a.m * 2 ^ ((a.e - (rlow a b p)).toNat)) - rsY a b p)).length ≤ 256:=by have:=zm; rwa [eM] at this
    have z7:rsY a b p ≤ (a.m * 2 ^ ((a.e - (rlow a b p)).toNat)):=Nat.le_of_not_lt hc
    exact chain [tB 89 (decide_eq_false k2),.c (natSub_pc _ _ (by omega) (by omega) (by omega):PCt 127 [(slP (limbs (a.m * 2 ^ ((a.e - (rlow a b p)).toNat)))),(slP (limbs (rsY a b p)))] _)] <| rQ (.tup [(.agg [(slP (limbs ((a.m * 2 ^ ((a.e - (rlow a b p)).toNat)) - (rsY a b p)))),(iP (rlow a b p)),(bP (lostOf b (rlow a b p)))]),(bP false)]) (.tup [(.agg [(slP (limbs (rsM a b p))),(iP (rlow a b p)),(bP (rsL a b p))]),bP (rsT a b p)]) (by rw [eM,eS,eT]; rfl)))) (by kernel_rfl)
open Go.RowKit Fp Pu
theorem rnd_zero (p:Nat) (up:Bool):rndD zeroD p up=zeroD ∧ rndE zeroD p up=0:=by
 have hK:cutK 0 0 p=0:=by unfold cutK; rw [bitsN_zero]; omega
 have hQ:∀ o,cutQ 0 0 false p o=0:=by intro o; unfold cutQ; rw [hK]; simp
 have hO:∀ o,cutOver 0 0 false p o=false:=by intro o; unfold cutOver; rw [hQ]; simp
 unfold rndD rndE cutD cutE
 simp only [zeroD,hO,hQ]
 exact ⟨rfl,rfl⟩
theorem rdAdd_pc (a b:Dy) (p:Nat) (up:Bool) (ha:a.Valid) (hb:b.Valid) (hp1:8 ≤ p) (hp2:p ≤ 512):PCt 115 [(dyP a),(dyP b),(iP p),(bP up)] (.tup [dyP (rndD (sumD a b) p up),iP (rndE (sumD a b) p up)]):=by
 by_cases a0:a.m=0
 ·have e1:sumD a b=b:=by unfold sumD; rw [if_pos a0]
  exact tr true Tryz.call115 Tryz.func115 (chain [.o 16 (.e (dys2_le _ _):PV.le (.e (.sl true 2 3 fun i_ j_=>(dyL a ++ dyL b).getD (i_ * 3+j_) (.v (.bool false)))) (.e (dysP [a,b]))),
   .c (rdFault2_pc _ _ _ ‹_› ‹_› (by omega) (by omega):PCt 136 [(iP p),(dysP [a,b])] _),tB 19 (by decide:((0:Int) != 0)=false),
   tB 26 (natZ_true (limbs_len0.2 a0):((((limbs a.m).length:Nat):Int) == 0)=true),.c (rdRound_pc b p up ‹_› (by omega) (by omega))] <| rQ (.tup [(dyP (rndD b p up)),(iP (rndE b p up))]) (.tup [dyP (rndD (sumD a b) p up),iP (rndE (sumD a b) p up)]) (by rw [e1])) (by kernel_rfl)
 ·by_cases b0:b.m=0
  ·have e1:sumD a b=a:=by unfold sumD; rw [if_neg a0,if_pos b0]
   exact tr true Tryz.call115 Tryz.func115 (chain [.o 16 (.e (dys2_le _ _):PV.le (.e (.sl true 2 3 fun i_ j_=>(dyL a ++ dyL b).getD (i_ * 3+j_) (.v (.bool false)))) (.e (dysP [a,b]))),
    .c (rdFault2_pc _ _ _ ‹_› ‹_› (by omega) (by omega):PCt 136 [(iP p),(dysP [a,b])] _),tB 19 (by decide:((0:Int) != 0)=false),
    tB 26 (natZ_false (limbs_len_ne a0):((((limbs a.m).length:Nat):Int) == 0)=false),tB 37 (natZ_true (limbs_len0.2 b0):((((limbs b.m).length:Nat):Int) == 0)=true),.c (rdRound_pc a p up ‹_› (by omega) (by omega))] <| rQ (.tup [(dyP (rndD a p up)),(iP (rndE a p up))]) (.tup [dyP (rndD (sumD a b) p up),iP (rndE (sumD a b) p up)]) (by rw [e1])) (by kernel_rfl)
  ·by_cases ht:a.top < b.top
   ·have ht2:a.top ≤ b.top:=by omega
    have law:=sum_law (p:=p) hb ha b0 a0 up
    have siz:=sum_size hb ha b0 a0 ht2 hp2
    have prt:=sum_parts hb ha b0 a0 ht2 hp2
    obtain ⟨l1,l2,_,_,_,_,_,_,_⟩:=siz
    have z1:(limbs (rsM b a p)).length ≤ 256:=limbs_of_bits (by omega)
    have hmm:=prt.2.2
    have y1:-45000 ≤ rlow b a p:=by omega
    have y2:rlow b a p ≤ 45000:=by omega
    by_cases hz:rsM b a p=0
    ·by_cases hl:rsL b a p=true
     ·have h0:rsM b a p ≠ 0:=by intro q; have:=hmm hl; rw [q,bitsN_zero] at this; omega
      exact absurd hz h0
     ·replace hz:rsM b a p=0 ∧ rsL b a p=false:=⟨hz,by simpa using hl⟩
      have hsum:sumD a b=zeroD:=by rw [sumD_comm a0 b0]; exact law.1 hz
      exact tr true Tryz.call115 Tryz.func115 (chain [.o 16 (.e (dys2_le _ _):PV.le (.e (.sl true 2 3 fun i_ j_=>(dyL a ++ dyL b).getD (i_ * 3+j_) (.v (.bool false)))) (.e (dysP [a,b]))),
       .c (rdFault2_pc _ _ _ ‹_› ‹_› (by omega) (by omega):PCt 136 [(iP p),(dysP [a,b])] _),tB 19 (by decide:((0:Int) != 0)=false),
       tB 26 (natZ_false (limbs_len_ne a0):((((limbs a.m).length:Nat):Int) == 0)=false),tB 37 (natZ_false (limbs_len_ne b0):((((limbs b.m).length:Nat):Int) == 0)=false),.c (dyTop_pc _ ‹_›:PCt 119 [(dyP a)] _),
       .c (dyTop_pc _ ‹_›:PCt 119 [(dyP b)] _),tB 48 (decide_eq_true ht),.c (rdSum_pc b a p ‹_› ‹_› ‹_› ‹_› ‹_› (by omega) (by omega)),
       tB 61 (natZ_true (limbs_len0.2 hz.1):((((limbs (rsM b a p)).length:Nat):Int) == 0)=true),tB 64 (hz.2:(rsL b a p)=false),.o 67 (.e zeroP_le:PV.le (.e (.agg [(bP false),(.v (.slice none 0 0)),(iP 0)])) (.e (dyP zeroD)))] <| rQ (.tup [(dyP zeroD),(iP 0)]) (.tup [dyP (rndD (sumD a b) p up),iP (rndE (sumD a b) p up)]) (by rw [hsum,(rnd_zero p up).1,(rnd_zero p up).2])) (by kernel_rfl)
    ·have h0:rsM b a p ≠ 0 ∨ rsM b a p=0 ∧ rlow b a p=0 ∧ rsL b a p=false:=.inl hz
     obtain ⟨q1,q2⟩:=law.2 (fun q=>hz q.1)
     rw [← sumD_comm a0 b0] at q1 q2
     exact tr true Tryz.call115 Tryz.func115 (chain [.o 16 (.e (dys2_le _ _):PV.le (.e (.sl true 2 3 fun i_ j_=>(dyL a ++ dyL b).getD (i_ * 3+j_) (.v (.bool false)))) (.e (dysP [a,b]))),
      .c (rdFault2_pc _ _ _ ‹_› ‹_› (by omega) (by omega):PCt 136 [(iP p),(dysP [a,b])] _),tB 19 (by decide:((0:Int) != 0)=false),
      tB 26 (natZ_false (limbs_len_ne a0):((((limbs a.m).length:Nat):Int) == 0)=false),tB 37 (natZ_false (limbs_len_ne b0):((((limbs b.m).length:Nat):Int) == 0)=false),.c (dyTop_pc _ ‹_›:PCt 119 [(dyP a)] _),
      .c (dyTop_pc _ ‹_›:PCt 119 [(dyP b)] _),tB 48 (decide_eq_true ht),.c (rdSum_pc b a p ‹_› ‹_› ‹_› ‹_› ‹_› (by omega) (by omega)),
      tB 61 (natZ_false (limbs_len_ne hz):((((limbs (rsM b a p)).length:Nat):Int) == 0)=false),
      .c (rdSigned_pc (! (b.neg == (rsT b a p))) (rsM b a p) (rlow b a p) (rsL b a p) up p (by omega) ‹_› (by omega) (by omega) (by omega) (by omega) ‹_›)] <| rQ (.tup [(dyP (cutD (!(b.neg == (rsT b a p))) (rsM b a p) (rlow b a p) (rsL b a p) p up)),(iP (cutE (!(b.neg == (rsT b a p))) (rsM b a p) (rlow b a p) (rsL b a p) p up))]) (.tup [dyP (rndD (sumD a b) p up),iP (rndE (sumD a b) p up)]) (by rw [← q1,← q2]; rfl)) (by kernel_rfl)
   ·have ht2:b.top ≤ a.top:=by omega
    have law:=sum_law (p:=p) ha hb a0 b0 up
    have siz:=sum_size ha hb a0 b0 ht2 hp2
    have prt:=sum_parts ha hb a0 b0 ht2 hp2
    obtain ⟨l1,l2,_,_,_,_,_,_,_⟩:=siz
    have z1:(limbs (rsM a b p)).length ≤ 256:=limbs_of_bits (by omega)
    have hmm:=prt.2.2
    have y1:-45000 ≤ rlow a b p:=by omega
    have y2:rlow a b p ≤ 45000:=by omega
    by_cases hz:rsM a b p=0
    ·by_cases hl:rsL a b p=true
     ·have h0:rsM a b p ≠ 0:=by intro q; have:=hmm hl; rw [q,bitsN_zero] at this; omega
      exact absurd hz h0
     ·replace hz:rsM a b p=0 ∧ rsL a b p=false:=⟨hz,by simpa using hl⟩
      have hsum:sumD a b=zeroD:=by exact law.1 hz
      exact tr true Tryz.call115 Tryz.func115 (chain [.o 16 (.e (dys2_le _ _):PV.le (.e (.sl true 2 3 fun i_ j_=>(dyL a ++ dyL b).getD (i_ * 3+j_) (.v (.bool false)))) (.e (dysP [a,b]))),
       .c (rdFault2_pc _ _ _ ‹_› ‹_› (by omega) (by omega):PCt 136 [(iP p),(dysP [a,b])] _),tB 19 (by decide:((0:Int) != 0)=false),
       tB 26 (natZ_false (limbs_len_ne a0):((((limbs a.m).length:Nat):Int) == 0)=false),tB 37 (natZ_false (limbs_len_ne b0):((((limbs b.m).length:Nat):Int) == 0)=false),.c (dyTop_pc _ ‹_›:PCt 119 [(dyP a)] _),
       .c (dyTop_pc _ ‹_›:PCt 119 [(dyP b)] _),tB 48 (decide_eq_false ht),.c (rdSum_pc a b p ‹_› ‹_› ‹_› ‹_› ‹_› (by omega) (by omega)),
       tB 61 (natZ_true (limbs_len0.2 hz.1):((((limbs (rsM a b p)).length:Nat):Int) == 0)=true),tB 64 (hz.2:(rsL a b p)=false),.o 67 (.e zeroP_le:PV.le (.e (.agg [(bP false),(.v (.slice none 0 0)),(iP 0)])) (.e (dyP zeroD)))] <| rQ (.tup [(dyP zeroD),(iP 0)]) (.tup [dyP (rndD (sumD a b) p up),iP (rndE (sumD a b) p up)]) (by rw [hsum,(rnd_zero p up).1,(rnd_zero p up).2])) (by kernel_rfl)
    ·have h0:rsM a b p ≠ 0 ∨ rsM a b p=0 ∧ rlow a b p=0 ∧ rsL a b p=false:=.inl hz
     obtain ⟨q1,q2⟩:=law.2 (fun q=>hz q.1)
     exact tr true Tryz.call115 Tryz.func115 (chain [.o 16 (.e (dys2_le _ _):PV.le (.e (.sl true 2 3 fun i_ j_=>(dyL a ++ dyL b).getD (i_ * 3+j_) (.v (.bool false)))) (.e (dysP [a,b]))),
      .c (rdFault2_pc _ _ _ ‹_› ‹_› (by omega) (by omega):PCt 136 [(iP p),(dysP [a,b])] _),tB 19 (by decide:((0:Int) != 0)=false),
      tB 26 (natZ_false (limbs_len_ne a0):((((limbs a.m).length:Nat):Int) == 0)=false),tB 37 (natZ_false (limbs_len_ne b0):((((limbs b.m).length:Nat):Int) == 0)=false),.c (dyTop_pc _ ‹_›:PCt 119 [(dyP a)] _),
      .c (dyTop_pc _ ‹_›:PCt 119 [(dyP b)] _),tB 48 (decide_eq_false ht),.c (rdSum_pc a b p ‹_› ‹_› ‹_› ‹_› ‹_› (by omega) (by omega)),
      tB 61 (natZ_false (limbs_len_ne hz):((((limbs (rsM a b p)).length:Nat):Int) == 0)=false),
      .c (rdSigned_pc (! (a.neg == (rsT a b p))) (rsM a b p) (rlow a b p) (rsL a b p) up p (by omega) ‹_› (by omega) (by omega) (by omega) (by omega) ‹_›)] <| rQ (.tup [(dyP (cutD (!(a.neg == (rsT a b p))) (rsM a b p) (rlow a b p) (rsL a b p) p up)),(iP (cutE (!(a.neg == (rsT a b p))) (rsM a b p) (rlow a b p) (rsL a b p) p up))]) (.tup [dyP (rndD (sumD a b) p up),iP (rndE (sumD a b) p up)]) (by rw [← q1,← q2]; rfl)) (by kernel_rfl)
theorem rdMul_pc (a b:Dy) (p:Nat) (up:Bool) (ha:a.Valid) (hb:b.Valid) (hp1:8 ≤ p) (hp2:p ≤ 512):PCt 116 [(dyP a),(dyP b),(iP p),(bP up)] (.tup [dyP (rndD (mulD a b) p up),iP (rndE (mulD a b) p up)]):=by
 by_cases a0:a.m=0
 ·have e1:mulD a b=zeroD:=by unfold mulD; rw [a0,Nat.zero_mul]; rfl
  exact tr true Tryz.call116 Tryz.func116 (chain [.o 16 (.e (dys2_le _ _):PV.le (.e (.sl true 2 3 fun i_ j_=>(dyL a ++ dyL b).getD (i_ * 3+j_) (.v (.bool false)))) (.e (dysP [a,b]))),
   .c (rdFault2_pc _ _ _ ‹_› ‹_› (by omega) (by omega):PCt 136 [(iP p),(dysP [a,b])] _),tB 19 (by decide:((0:Int) != 0)=false),
   tB 25 (natZ_true (limbs_len0.2 a0):((((limbs a.m).length:Nat):Int) == 0)=true),.o 32 (.e zeroP_le:PV.le (.e (.agg [(bP false),(.v (.slice none 0 0)),(iP 0)])) (.e (dyP zeroD)))] <| rQ (.tup [(dyP zeroD),(iP 0)]) (.tup [dyP (rndD (mulD a b) p up),iP (rndE (mulD a b) p up)]) (by rw [e1,(rnd_zero p up).1,(rnd_zero p up).2])) (by kernel_rfl)
 ·by_cases b0:b.m=0
  ·have e1:mulD a b=zeroD:=by unfold mulD; rw [b0,Nat.mul_zero]; rfl
   exact tr true Tryz.call116 Tryz.func116 (chain [.o 16 (.e (dys2_le _ _):PV.le (.e (.sl true 2 3 fun i_ j_=>(dyL a ++ dyL b).getD (i_ * 3+j_) (.v (.bool false)))) (.e (dysP [a,b]))),
    .c (rdFault2_pc _ _ _ ‹_› ‹_› (by omega) (by omega):PCt 136 [(iP p),(dysP [a,b])] _),tB 19 (by decide:((0:Int) != 0)=false),
    tB 25 (natZ_false (limbs_len_ne a0):((((limbs a.m).length:Nat):Int) == 0)=false),tB 30 (natZ_true (limbs_len0.2 b0):((((limbs b.m).length:Nat):Int) == 0)=true),
    .o 32 (.e zeroP_le:PV.le (.e (.agg [(bP false),(.v (.slice none 0 0)),(iP 0)])) (.e (dyP zeroD)))] <| rQ (.tup [(dyP zeroD),(iP 0)]) (.tup [dyP (rndD (mulD a b) p up),iP (rndE (mulD a b) p up)]) (by rw [e1,(rnd_zero p up).1,(rnd_zero p up).2])) (by kernel_rfl)
  ·have va:=ha.limbs
   have vb:=hb.limbs
   have xa:=ha.exp
   have xb:=hb.exp
   have ra:=ha.range.resolve_left a0
   have rb:=hb.range.resolve_left b0
   have bm:=bitsN_mul_le a.m b.m
   have z1:(limbs (a.m * b.m)).length ≤ 256:=limbs_of_bits (by omega)
   have m0:a.m * b.m ≠ 0:=Nat.mul_ne_zero a0 b0
   have h0:a.m * b.m ≠ 0 ∨ a.m * b.m=0 ∧ a.e+b.e=0 ∧ false=false:=.inl m0
   have hm:false=true → p < bitsN (a.m * b.m):=fun h=>by cases h
   obtain ⟨q1,q2⟩:=rnd_canon (a.neg != b.neg) up (a.m * b.m) (a.e+b.e) p m0
   change rndD (mulD a b) p up=_ at q1
   change rndE (mulD a b) p up=_ at q2
   exact tr true Tryz.call116 Tryz.func116 (chain [.o 16 (.e (dys2_le _ _):PV.le (.e (.sl true 2 3 fun i_ j_=>(dyL a ++ dyL b).getD (i_ * 3+j_) (.v (.bool false)))) (.e (dysP [a,b]))),
    .c (rdFault2_pc _ _ _ ‹_› ‹_› (by omega) (by omega):PCt 136 [(iP p),(dysP [a,b])] _),tB 19 (by decide:((0:Int) != 0)=false),
    tB 25 (natZ_false (limbs_len_ne a0):((((limbs a.m).length:Nat):Int) == 0)=false),tB 30 (natZ_false (limbs_len_ne b0):((((limbs b.m).length:Nat):Int) == 0)=false),
    .c (natMul_pc _ _ (by omega) (by omega) (by omega):PCt 140 [(slP (limbs a.m)),(slP (limbs b.m))] _),r64 (a.e+b.e) (by omega),
    .c (rdSigned_pc (! (a.neg == b.neg)) (a.m * b.m) (a.e+b.e) false up p (by omega) ‹_› (by omega) (by omega) (by omega) (by omega) ‹_›)] <| rQ (.tup [(dyP (cutD (!(a.neg == b.neg)) (a.m * b.m) (a.e+b.e) false p up)),(iP (cutE (!(a.neg == b.neg)) (a.m * b.m) (a.e+b.e) false p up))]) (.tup [dyP (rndD (mulD a b) p up),iP (rndE (mulD a b) p up)]) (by rw [q1,q2]; rfl)) (by kernel_rfl)
theorem rdAddDown_pc (a b:Dy) (p:Nat) (ha:a.Valid) (hb:b.Valid) (hp1:8 ≤ p) (hp2:p ≤ 512):PCt 87 [(dyP a),(dyP b),(iP p)] (.tup [dyP (rndD (sumD a b) p false),iP (rndE (sumD a b) p false)]):=by
 exact tr true Tryz.call87 Tryz.func87 (chain [.c (rdAdd_pc a b p false ‹_› ‹_› (by omega) (by omega))] <| .nil) (by kernel_rfl)
theorem rdAddUp_pc (a b:Dy) (p:Nat) (ha:a.Valid) (hb:b.Valid) (hp1:8 ≤ p) (hp2:p ≤ 512):PCt 88 [(dyP a),(dyP b),(iP p)] (.tup [dyP (rndD (sumD a b) p true),iP (rndE (sumD a b) p true)]):=by
 exact tr true Tryz.call88 Tryz.func88 (chain [.c (rdAdd_pc a b p true ‹_› ‹_› (by omega) (by omega))] <| .nil) (by kernel_rfl)
theorem rdMulDown_pc (a b:Dy) (p:Nat) (ha:a.Valid) (hb:b.Valid) (hp1:8 ≤ p) (hp2:p ≤ 512):PCt 91 [(dyP a),(dyP b),(iP p)] (.tup [dyP (rndD (mulD a b) p false),iP (rndE (mulD a b) p false)]):=by
 exact tr true Tryz.call91 Tryz.func91 (chain [.c (rdMul_pc a b p false ‹_› ‹_› (by omega) (by omega))] <| .nil) (by kernel_rfl)
theorem rdMulUp_pc (a b:Dy) (p:Nat) (ha:a.Valid) (hb:b.Valid) (hp1:8 ≤ p) (hp2:p ≤ 512):PCt 92 [(dyP a),(dyP b),(iP p)] (.tup [dyP (rndD (mulD a b) p true),iP (rndE (mulD a b) p true)]):=by
 exact tr true Tryz.call92 Tryz.func92 (chain [.c (rdMul_pc a b p true ‹_› ‹_› (by omega) (by omega))] <| .nil) (by kernel_rfl)
end Go.Proofs.YtkbjkchapnjhgaaGreatDoor
namespace Go.Proofs.YtkbjkchapnjhgaaGreatDoor.Fp
theorem knuth {U V P q:Nat} (hP:0 < P) (hV:9223372036854775808 ≤ V / P) (hUV:U < 4294967296 * V) (h1:q ≤ 4294967295) (h2:q ≤ U / P / (V / P)) (h3:q=4294967295 ∨ U / P / (V / P) ≤ q) :
  U / V ≤ q ∧ q ≤ U / V+1:=by
 have hV2:0 < V / P:=by omega
 have hV0:0 < V:=by
  apply Classical.byContradiction; intro h
  have:V=0:=by omega
  rw [this,Nat.zero_div] at hV2; omega
 have hVm:=Nat.div_add_mod V P
 have hVr:=Nat.mod_lt V hP
 have hUm:=Nat.div_add_mod U P
 have hUr:=Nat.mod_lt U hP
 constructor
 ·
  rcases h3 with h3 | h3
  ·have:U / V < 4294967296:=by rw [Nat.div_lt_iff_lt_mul hV0]; exact hUV
   omega
  ·refine Nat.le_trans ?_ h3
   rw [Nat.le_div_iff_mul_le hV2,Nat.le_div_iff_mul_le hP,Nat.mul_assoc]
   have h4:V / P * P ≤ V:=Nat.div_mul_le_self V P
   exact Nat.le_trans (Nat.mul_le_mul_left _ h4) (Nat.div_mul_le_self U V)
 ·
  have h4:q * (V / P) ≤ U / P:=(Nat.le_div_iff_mul_le hV2).1 h2
  have h5:q * V ≤ q * (V / P) * P+q * P:=by
   have:V ≤ V / P * P+P:=by rw [Nat.mul_comm]; omega
   have:=Nat.mul_le_mul_left q this
   rw [Nat.mul_add,← Nat.mul_assoc] at this
   exact this
  have h6:q * (V / P) * P ≤ U:=Nat.le_trans (Nat.mul_le_mul_right P h4) (Nat.div_mul_le_self U P)
  have h7:(q+1) * P ≤ V / P * P:=Nat.mul_le_mul_right P (by omega)
  have h8:V / P * P ≤ V:=Nat.div_mul_le_self V P
  have h9:q * V < U+V:=by
   rw [Nat.add_mul,Nat.one_mul] at h7
   omega
  apply Classical.byContradiction
  intro h
  have h10:(U / V+2) * V ≤ q * V:=Nat.mul_le_mul_right V (by omega)
  have h11:=Nat.div_add_mod U V
  have h12:=Nat.mod_lt U hV0
  rw [Nat.add_mul,Nat.mul_comm (U / V)] at h10
  omega
theorem digit_exit {x v w third q rest:Nat} (hx:q * v+rest=x) (hq:q ≤ 4294967295) (hw:w < 4294967296) (hv:0 < v)
  (h:4294967296 ≤ rest ∨ q * w ≤ rest * 4294967296+third):q ≤ (x * 4294967296+third) / (v * 4294967296+w):=by
 rw [Nat.le_div_iff_mul_le (by omega),Nat.mul_add,← hx]
 have e:q * (v * 4294967296)=q * v * 4294967296:=by rw [Nat.mul_assoc]
 rw [e,Nat.add_mul]
 rcases h with h | h
 ·have h1:q * w ≤ 4294967295 * 4294967295:=Nat.mul_le_mul hq (by omega)
  omega
 ·omega
theorem digit_keep {x v w third q rest:Nat} (hx:q * v+rest=x) (hv:0 < v) (h:rest * 4294967296+third < q * w) :
  (x * 4294967296+third) / (v * 4294967296+w) ≤ q - 1 ∧ 0 < q ∧ (q - 1) * v+(rest+v)=x:=by
 have hq:0 < q:=by
  apply Classical.byContradiction; intro h'
  have:q=0:=by omega
  subst this; rw [Nat.zero_mul] at h; omega
 obtain ⟨r,rfl⟩:∃ r,q=r+1:=⟨q - 1,by omega⟩
 refine ⟨?_,hq,?_⟩
 ·have e1:(r+1) * (v * 4294967296+w)=(r+1) * v * 4294967296+(r+1) * w:=by rw [Nat.mul_add,← Nat.mul_assoc]
  have e2:((r+1) * v+rest) * 4294967296=(r+1) * v * 4294967296+rest * 4294967296:=Nat.add_mul _ _ _
  have:(x * 4294967296+third) / (v * 4294967296+w) < r+1:=by
   have hd:0 < v * 4294967296+w:=by omega
   have e4:x * 4294967296=(r+1) * v * 4294967296+rest * 4294967296:=hx ▸ e2
   refine (Nat.div_lt_iff_lt_mul hd).2 ?_
   rw [e1,e4]
   clear e1 e2 e4 hd hx hq
   generalize (r+1) * v=a at *
   generalize (r+1) * w=z at *
   exact Nat.add_lt_add_left h _ |> fun h=>by rw [← Nat.add_assoc] at h; exact h
  omega
 ·have e3:(r+1) * v=r * v+v:=Nat.succ_mul r v
  rw [Nat.add_sub_cancel]
  rw [e3] at hx
  clear e3 h hq
  generalize r * v=a at *
  omega
theorem digit_start {x v w third:Nat} (hv:0 < v) (ht:third < 4294967296):(x * 4294967296+third) / (v * 4294967296+w) ≤ x / v:=by
 have h1:(x * 4294967296+third) / (v * 4294967296+w) ≤ (x * 4294967296+third) / (v * 4294967296):=Nat.div_le_div_left (by omega) (by omega)
 refine Nat.le_trans h1 ?_
 rw [Nat.mul_comm v,← Nat.div_div_eq_div_mul]
 have:(x * 4294967296+third) / 4294967296=x:=by omega
 rw [this]; exact Nat.le_refl _
structure Taken (O0:List Nat) (j q:Nat) (V:List Nat) (k:Nat) (O:List Nat) (c b:Nat):Prop where
 len:O.length=O0.length
 ok:Ok32 O
 vl:val O+q * (4294967296 ^ j * val (V.take k))=val O0+4294967296 ^ (j+k) * (c+b)
 same:∀ i,j+k ≤ i → O.getD i 0=O0.getD i 0
 c_lt:c < 4294967296
 b_le:b ≤ 1
theorem Taken.start {O0:List Nat} (h:Ok32 O0) (j q:Nat) (V:List Nat):Taken O0 j q V 0 O0 0 0 :=
 ⟨rfl,h,by simp [val],fun _ _=>rfl,by decide,by decide⟩
theorem take_word {q y c b u:Nat} (hq:q ≤ 4294967295) (hy:y < 4294967296) (hc:c < 4294967296) (hb:b ≤ 1) (hu:u < 4294967296) :
  q * y+c < 18446744073709551616 ∧ (q * y+c) / 4294967296 < 4294967296 ∧
  ((u+18446744073709551616 - (q * y+c) % 4294967296 - b) % 18446744073709551616) / 9223372036854775808 ≤ 1 ∧
  ((u+18446744073709551616 - (q * y+c) % 4294967296 - b) % 18446744073709551616) % 4294967296+(q * y+c) % 4294967296+b =
   u+4294967296 * (((u+18446744073709551616 - (q * y+c) % 4294967296 - b) % 18446744073709551616) / 9223372036854775808):=by
 have h1:q * y ≤ 4294967295 * 4294967295:=Nat.mul_le_mul hq (by omega)
 generalize q * y=z at *
 omega
theorem Taken.step {O0 V O:List Nat} {j q k c b:Nat} (h:Taken O0 j q V k O c b) {u' b':Nat} (hk:k < V.length) (hj:j+V.length < O0.length) (hu:u' < 4294967296) (hc:(q * V.getD k 0+c) / 4294967296 < 4294967296) (hb:b' ≤ 1)
  (hd:u'+(q * V.getD k 0+c) % 4294967296+b=O.getD (j+k) 0+4294967296 * b') :
  Taken O0 j q V (k+1) (O.set (j+k) u') ((q * V.getD k 0+c) / 4294967296) b':=by
 have hkO:j+k < O.length:=by rw [h.len]; omega
 refine ⟨by rw [List.length_set]; exact h.len,h.ok.set _ hu,?_,fun i hi=>?_,hc,hb⟩
 ·have e:=Nat.mod_add_div (q * V.getD k 0+c) 4294967296
  have h1:=val_setD (x:=u') hkO
  have h2:=h.vl
  have h3:u'+(q * V.getD k 0+c)+b=O.getD (j+k) 0+4294967296 * ((q * V.getD k 0+c) / 4294967296+b'):=by omega
  have h4:=congrArg (4294967296 ^ (j+k) * ·) h3
  simp only [Nat.mul_add] at h4
  rw [val_take_getD,Nat.mul_add (4294967296 ^ j),Nat.mul_add q,← Nat.mul_assoc (4294967296 ^ j),← Nat.pow_add,show q * (4294967296 ^ (j+k) * V.getD k 0)=4294967296 ^ (j+k) * (q * V.getD k 0) from Nat.mul_left_comm _ _ _,
   show j+(k+1)=j+k+1 from rfl,Nat.pow_succ,Nat.mul_assoc,Nat.mul_add 4294967296,Nat.mul_add (4294967296 ^ (j+k))]
  rw [Nat.mul_add] at h2
  omega
 ·rw [getD_set_ne (by omega)]; exact h.same i (by omega)
theorem Taken.last {O0 V O:List Nat} {j q c b:Nat} (h:Taken O0 j q V V.length O c b) (hj:j+V.length < O0.length) {t:Nat}
  (ht:t=(O.getD (j+V.length) 0+18446744073709551616 - c - b) % 18446744073709551616) :
  (O.set (j+V.length) (t % 4294967296)).length=O0.length ∧ Ok32 (O.set (j+V.length) (t % 4294967296)) ∧ t / 9223372036854775808 ≤ 1 ∧
  val (O.set (j+V.length) (t % 4294967296))+q * (4294967296 ^ j * val V)=val O0+4294967296 ^ (j+V.length+1) * (t / 9223372036854775808) ∧
  ∀ i,j+V.length < i → (O.set (j+V.length) (t % 4294967296)).getD i 0=O0.getD i 0:=by
 have hkO:j+V.length < O.length:=by rw [h.len]; omega
 have hc:=h.c_lt
 have hb:=h.b_le
 have hu:=h.ok.getD (j+V.length)
 have hd:t % 4294967296+c+b=O.getD (j+V.length) 0+4294967296 * (t / 9223372036854775808):=by omega
 refine ⟨by rw [List.length_set]; exact h.len,h.ok.set _ (Nat.mod_lt _ (by decide)),by omega,?_,fun i hi=>by rw [getD_set_ne (by omega)]; exact h.same i (by omega)⟩
 have h1:=val_setD (x:=t % 4294967296) hkO
 have h2:=h.vl
 rw [List.take_length] at h2
 have h4:=congrArg (4294967296 ^ (j+V.length) * ·) hd
 simp only [Nat.mul_add] at h4
 rw [Nat.pow_succ,Nat.mul_assoc]
 rw [Nat.mul_add] at h2
 omega
structure Put (O0:List Nat) (j:Nat) (V:List Nat) (k:Nat) (O:List Nat) (c:Nat):Prop where
 len:O.length=O0.length
 ok:Ok32 O
 vl:val O+4294967296 ^ (j+k) * c=val O0+4294967296 ^ j * val (V.take k)
 same:∀ i,j+k ≤ i → O.getD i 0=O0.getD i 0
 c_le:c ≤ 1
theorem Put.start {O0:List Nat} (h:Ok32 O0) (j:Nat) (V:List Nat):Put O0 j V 0 O0 0 :=
 ⟨rfl,h,by simp [val],fun _ _=>rfl,by decide⟩
theorem Put.step {O0 V O:List Nat} {j k c:Nat} (h:Put O0 j V k O c) (hV:Ok32 V) (hk:k < V.length) (hj:j+V.length < O0.length) :
  Put O0 j V (k+1) (O.set (j+k) ((O.getD (j+k) 0+V.getD k 0+c) % 4294967296)) ((O.getD (j+k) 0+V.getD k 0+c) / 4294967296):=by
 have hkO:j+k < O.length:=by rw [h.len]; omega
 have hu:=h.ok.getD (j+k)
 have hy:=hV.getD k
 have hc:=h.c_le
 refine ⟨by rw [List.length_set]; exact h.len,h.ok.set _ (Nat.mod_lt _ (by decide)),?_,fun i hi=>by rw [getD_set_ne (by omega)]; exact h.same i (by omega),by omega⟩
 have h1:=val_setD (x:=(O.getD (j+k) 0+V.getD k 0+c) % 4294967296) hkO
 have h2:=h.vl
 have h4:=congrArg (4294967296 ^ (j+k) * ·) (Nat.mod_add_div (O.getD (j+k) 0+V.getD k 0+c) 4294967296)
 simp only [Nat.mul_add] at h4
 rw [val_take_getD,Nat.mul_add (4294967296 ^ j),← Nat.mul_assoc (4294967296 ^ j),← Nat.pow_add,show j+(k+1)=j+k+1 from rfl,Nat.pow_succ,Nat.mul_assoc]
 omega
theorem Put.last {O0 V O:List Nat} {j c:Nat} (h:Put O0 j V V.length O c) (hj:j+V.length < O0.length) :
  (O.set (j+V.length) ((O.getD (j+V.length) 0+c) % 4294967296)).length=O0.length ∧ Ok32 (O.set (j+V.length) ((O.getD (j+V.length) 0+c) % 4294967296)) ∧
  (∃ κ,κ ≤ 1 ∧ val (O.set (j+V.length) ((O.getD (j+V.length) 0+c) % 4294967296))+4294967296 ^ (j+V.length+1) * κ=val O0+4294967296 ^ j * val V) ∧
  ∀ i,j+V.length < i → (O.set (j+V.length) ((O.getD (j+V.length) 0+c) % 4294967296)).getD i 0=O0.getD i 0:=by
 have hkO:j+V.length < O.length:=by rw [h.len]; omega
 have hu:=h.ok.getD (j+V.length)
 have hc:=h.c_le
 refine ⟨by rw [List.length_set]; exact h.len,h.ok.set _ (Nat.mod_lt _ (by decide)),⟨(O.getD (j+V.length) 0+c) / 4294967296,by omega,?_⟩,fun i hi=>by rw [getD_set_ne (by omega)]; exact h.same i (by omega)⟩
 have h1:=val_setD (x:=(O.getD (j+V.length) 0+c) % 4294967296) hkO
 have h2:=h.vl
 rw [List.take_length] at h2
 have h4:=congrArg (4294967296 ^ (j+V.length) * ·) (Nat.mod_add_div (O.getD (j+V.length) 0+c) 4294967296)
 simp only [Nat.mul_add] at h4
 rw [Nat.pow_succ,Nat.mul_assoc]
 omega
theorem val_lt_of_top {O:List Nat} (h:Ok32 O) {k:Nat} (hz:∀ i,k ≤ i → O.getD i 0=0):val O < 4294967296 ^ k:=by
 by_cases hk:O.length ≤ k
 ·exact Nat.lt_of_lt_of_le (val_lt h) (Nat.pow_le_pow_right (by decide) hk)
 ·rw [val_take_drop O k (by omega)]
  have:val (O.drop k)=0:=by
   rw [val_eq_zero_iff]
   intro x hx
   obtain ⟨i,hi⟩:=List.mem_iff_getElem?.1 hx
   rw [List.getElem?_drop] at hi
   have:=hz (k+i) (by omega)
   rw [List.getD_eq_getElem?_getD,hi] at this
   exact this
  rw [this,Nat.mul_zero,Nat.add_zero]
  have h1:=val_lt (h.take k)
  rw [List.length_take,Nat.min_eq_left (by omega)] at h1
  exact h1
theorem top_of_val {O:List Nat} (h:Ok32 O) {k:Nat} (hv:val O < 4294967296 ^ k) {i:Nat} (hi:k ≤ i):O.getD i 0=0:=by
 have h1:val (O.drop k)=0:=by rw [val_drop_div h,Nat.div_eq_of_lt hv]
 rw [val_eq_zero_iff] at h1
 rw [List.getD_eq_getElem?_getD]
 cases hg:O[i]? with
 | none=>rfl
 | some x=>exact h1 x (List.mem_iff_getElem?.2 ⟨i - k,by rw [List.getElem?_drop,show k+(i - k)=i by omega]; exact hg⟩)
theorem digit_right {u u' V P x:Nat} (hP:0 < P) (hV:0 < V) (h:u'+x * (P * V)=u) (hx:u / P / V ≤ x):x=u / P / V ∧ u' < V * P:=by
 have h1:x * V ≤ u / P:=by
  rw [Nat.le_div_iff_mul_le hP,Nat.mul_assoc,Nat.mul_comm V P]; omega
 have h2:x ≤ u / P / V:=(Nat.le_div_iff_mul_le hV).2 h1
 have h3:x=u / P / V:=by omega
 refine ⟨h3,?_⟩
 have e1:=Nat.div_add_mod u P
 have e2:=Nat.mod_lt u hP
 have e3:=Nat.div_add_mod (u / P) V
 have e4:=Nat.mod_lt (u / P) hV
 rw [← h3] at e3
 have e5:P * (u / P)=x * (P * V)+P * (u / P % V):=by
  rw [← e3,Nat.mul_add,e3,Nat.mul_comm V x,Nat.mul_left_comm]
 have e6:P * (u / P % V)+P ≤ V * P:=by
  rw [Nat.mul_comm V P,← Nat.mul_succ]; exact Nat.mul_le_mul_left P e4
 omega
theorem digit_great {u u' u'' V P R x κ:Nat} (hP:0 < P) (hV:0 < V) (h:u'+x * (P * V)=u+R) (h':u' < R) (hx:x ≤ u / P / V+1)
  (hk:κ ≤ 1) (h2:u''+R * κ=u'+P * V) (h3:u'' < R):0 < x ∧ x - 1=u / P / V ∧ u''+(x - 1) * (P * V)=u ∧ u'' < V * P:=by
 have hx0:u / P < x * V:=by
  rw [Nat.div_lt_iff_lt_mul hP,Nat.mul_assoc,Nat.mul_comm V P]; omega
 have hx1:u / P / V < x:=by rw [Nat.div_lt_iff_lt_mul hV]; exact hx0
 have hx2:x=u / P / V+1:=Nat.le_antisymm hx hx1
 obtain ⟨y,hy⟩:∃ y,y=u / P / V:=⟨_,rfl⟩
 rw [← hy] at hx2
 subst hx2
 rw [Nat.add_sub_cancel]
 have e0:(y+1) * (P * V)=y * (P * V)+P * V:=Nat.succ_mul _ _
 have e1:y * (P * V) ≤ u:=by
  have:y * V ≤ u / P:=by rw [hy]; exact Nat.div_mul_le_self _ _
  have:=(Nat.le_div_iff_mul_le hP).1 this
  rw [Nat.mul_assoc,Nat.mul_comm V P] at this
  exact this
 have hκ:κ=1:=by
  apply Classical.byContradiction
  intro q
  obtain rfl:κ=0:=by omega
  omega
 subst hκ
 have e2:u''+y * (P * V)=u:=by omega
 exact ⟨by omega,hy,e2,(digit_right hP hV e2 (by omega)).2⟩
def dcond (q rest third v w x:Nat):Prop:=rest+x * v < 4294967296 ∧ (rest+x * v) * 4294967296+third < (q - x) * w
theorem digit_N {X q rest third v w:Nat} (hx:q * v+rest=X) (hq:q ≤ 4294967295) (hv:2147483648 ≤ v) (hw:w < 4294967296) :
  ∃ N,N ≤ 2 ∧ N ≤ q ∧ (∀ x,x < N → dcond q rest third v w x) ∧ ¬ dcond q rest third v w N ∧ q - N ≤ (X * 4294967296+third) / (v * 4294967296+w) ∧ (N=0 ∨ (X * 4294967296+third) / (v * 4294967296+w) ≤ q - N):=by
 have stop:∀ {q' r':Nat},q' * v+r'=X → q' ≤ 4294967295 → ¬ (r' < 4294967296 ∧ r' * 4294967296+third < q' * w) → q' ≤ (X * 4294967296+third) / (v * 4294967296+w):=fun {q' r'} h1 h2 h3 =>
  digit_exit h1 h2 hw (by omega) (by
   by_cases hr:4294967296 ≤ r'
   ·exact .inl hr
   ·refine .inr (Nat.le_of_not_lt fun hn=>h3 ⟨Nat.lt_of_not_le hr,hn⟩))
 by_cases h0:dcond q rest third v w 0
 ·have g0:=h0
  unfold dcond at g0
  rw [Nat.zero_mul,Nat.add_zero,Nat.sub_zero] at g0
  obtain ⟨k1,k2,k3⟩:=digit_keep hx (by omega) g0.2
  by_cases h1:dcond q rest third v w 1
  ·have g1:=h1
   unfold dcond at g1
   rw [Nat.one_mul] at g1
   obtain ⟨l1,l2,l3⟩:=digit_keep k3 (by omega) g1.2
   have h2:¬ dcond q rest third v w 2:=fun h=>by unfold dcond at h; omega
   refine ⟨2,Nat.le_refl _,by omega,fun x hx=>?_,h2,?_,.inr l1⟩
   ·obtain rfl | rfl:x=0 ∨ x=1:=by omega
    ·exact h0
    ·exact h1
   ·refine stop (r':=rest+v+v) l3 (by omega) fun h=>by omega
  ·refine ⟨1,by decide,k2,fun x hx=>?_,h1,?_,.inr k1⟩
   ·obtain rfl:x=0:=by omega
    exact h0
   ·unfold dcond at h1
    rw [Nat.one_mul] at h1
    exact stop k3 (by omega) h1
 ·refine ⟨0,by decide,Nat.zero_le _,fun x hx=>absurd hx (Nat.not_lt_zero x),h0,?_,.inl rfl⟩
  unfold dcond at h0
  rw [Nat.zero_mul,Nat.add_zero,Nat.sub_zero] at h0
  exact stop hx hq h0
theorem div_end {a b s q r:Nat} (hb:0 < b) (h:r+b * 2 ^ s * q=a * 2 ^ s) (hr:r < b * 2 ^ s):q=a / b ∧ r=a % b * 2 ^ s:=by
 have hp:0 < 2 ^ s:=Nat.pow_pos (by decide)
 have h1:r % 2 ^ s=0:=by
  have:=congrArg (· % 2 ^ s) h
  simp only [Nat.mul_mod_left] at this
  rw [Nat.mul_assoc,Nat.mul_left_comm,Nat.add_mul_mod_self_left] at this
  exact this
 obtain ⟨t,ht⟩:∃ t,r=t * 2 ^ s:=⟨r / 2 ^ s,by rw [Nat.div_mul_cancel (Nat.dvd_of_mod_eq_zero h1)]⟩
 subst ht
 have h2:(t+b * q) * 2 ^ s=a * 2 ^ s:=by rw [Nat.add_mul,← h,Nat.mul_right_comm]
 have h3:=Nat.eq_of_mul_eq_mul_right hp h2
 have h4:t < b:=Nat.lt_of_mul_lt_mul_right hr
 constructor
 ·rw [← h3,Nat.add_mul_div_left _ _ hb,Nat.div_eq_of_lt h4,Nat.zero_add]
 ·rw [← h3,Nat.add_mul_mod_self_left,Nat.mod_eq_of_lt h4]
theorem top3 {O:List Nat} (h:Ok32 O) {j n:Nat} (hn:2 ≤ n) (hz:∀ i,j+n < i → O.getD i 0=0) :
  val O / 4294967296 ^ j / 4294967296 ^ (n - 2)=(O.getD (j+n) 0 * 4294967296+O.getD (j+n - 1) 0) * 4294967296+O.getD (j+n - 2) 0:=by
 rw [Nat.div_div_eq_div_mul,← Nat.pow_add,← val_drop_div h]
 have e:∀ (l:List Nat),Ok32 l → (∀ i,2 < i → l.getD i 0=0) → val l=(l.getD 2 0 * 4294967296+l.getD 1 0) * 4294967296+l.getD 0 0:=by
  intro l hl hz
  rcases l with _ | ⟨a,_ | ⟨b,_ | ⟨c,l⟩⟩⟩
  ·rfl
  ·simp [val]
  ·simp [val]; omega
  ·have:val l=0:=by
    rw [val_eq_zero_iff]
    intro x hx
    obtain ⟨i,hi⟩:=List.mem_iff_getElem?.1 hx
    have:=hz (i+3) (by omega)
    rw [List.getD_eq_getElem?_getD] at this
    simp only [List.getElem?_cons_succ,hi] at this
    exact this
   simp [val,this]; omega
 have g:∀ i,(O.drop (j+(n - 2))).getD i 0=O.getD (j+(n - 2)+i) 0:=fun i=>by
  rw [List.getD_eq_getElem?_getD,List.getElem?_drop,List.getD_eq_getElem?_getD]
 rw [e _ (h.drop _) (fun i hi=>by rw [g]; exact hz _ (by omega)),g,g,g]
 rw [show j+(n - 2)+2=j+n by omega,show j+(n - 2)+1=j+n - 1 by omega,show j+(n - 2)+0=j+n - 2 by omega]
theorem top2 {V:List Nat} (h:Ok32 V) {n:Nat} (hn:2 ≤ n) (hl:V.length=n):val V / 4294967296 ^ (n - 2)=V.getD (n - 1) 0 * 4294967296+V.getD (n - 2) 0:=by
 have:=top3 (O:=V) h (j:=0) (n:=n) hn (fun i hi=>by rw [List.getD_eq_getElem?_getD,List.getElem?_eq_none (by omega)]; rfl)
 rw [Nat.pow_zero,Nat.div_one,Nat.zero_add] at this
 rw [this,show V.getD n 0=0 by rw [List.getD_eq_getElem?_getD,List.getElem?_eq_none (by omega)]; rfl]
 omega
end Go.Proofs.YtkbjkchapnjhgaaGreatDoor.Fp
namespace Go.Proofs.YtkbjkchapnjhgaaGreatDoor
open Go.RowKit Fp
def Rx (w:World) (b:Nat) (L:List Nat) (R:List Value):Prop:=w.heap[b]? = some (.cells (u32s L ++ R).toArray 50 (0,0))
section
variable {w w':World} {b:Nat} {L:List Nat} {R:List Value}
theorem Rx.lt (h:Rx w b L R):b < w.heap.size:=(Array.getElem?_eq_some_iff.1 h).1
theorem Rx.cell (h:Rx w b L R) {i:Nat} (hi:i < L.length):w.cell? ⟨b,i,none⟩=some (.int .u32 ((L.getD i 0:Nat):Int)):=by
 unfold Rx at h
 simp only [World.cell?,h]
 simp [u32s,hi,List.getElem?_append]
theorem Rx.frozen (h:Rx w b L R) (i:Nat):w.frozen? ⟨b,i,none⟩=false:=by
 unfold Rx at h
 simp [World.frozen?,h]
theorem Rx.set (h:Rx w b L R) {i:Nat} (hi:i < L.length) (x:Nat):Rx (w.setCell ⟨b,i,none⟩ (.int .u32 (x:Int))) b (L.set i x) R:=by
 unfold Rx at h ⊢
 simp only [World.setCell,Array.getElem?_modify,h]
 simp [u32s,List.map_set,List.set_append,hi]
theorem Rx.same (h:Rx w b L R) (hb:w'.heap[b]? = w.heap[b]?):Rx w' b L R:=by unfold Rx at h ⊢; rw [hb]; exact h
end
structure Only (b:Nat) (w w':World):Prop where
 below:Below b w w'
 size:w'.heap.size=w.heap.size
 keep:∀ x,x ≠ b → w'.heap[x]? = w.heap[x]?
theorem Only.refl (b:Nat) (w:World):Only b w w:=⟨Below.refl _ _,rfl,fun _ _=>rfl⟩
theorem Only.set {b:Nat} {w w':World} (h:Only b w w') (n i:Nat) (v:Value):Only b w ((w'.drewN n).setCell ⟨b,i,none⟩ v) :=
 ⟨(below_drewN h.below n).setCell (p:=⟨b,i,none⟩) (Nat.le_refl _) v,by
  have:((w'.drewN n).setCell ⟨b,i,none⟩ v).heap.size=w'.heap.size:=by simp [World.setCell]
  rw [this,h.size],fun x hx=>by
  rw [← h.keep x hx]
  simp only [World.setCell,Array.getElem?_modify]
  rw [if_neg (fun e=>hx e.symm)]
  rfl⟩
theorem Only.set0 {b:Nat} {w w':World} (h:Only b w w') (i:Nat) (v:Value):Only b w (w'.setCell ⟨b,i,none⟩ v) :=
 ⟨h.below.setCell (p:=⟨b,i,none⟩) (Nat.le_refl _) v,by
  have:(w'.setCell ⟨b,i,none⟩ v).heap.size=w'.heap.size:=by simp [World.setCell]
  rw [this,h.size],fun x hx=>by
  rw [← h.keep x hx]
  simp only [World.setCell,Array.getElem?_modify]
  rw [if_neg (fun e=>hx e.symm)]⟩
def Apart (b:Nat) (A:Option Addr):Prop:=∀ b' o s,A=some ⟨b',o,s⟩ → b' ≠ b
theorem Sl.keep {w w':World} {A:Option Addr} {c b:Nat} {L:List Nat} (h:Sl w A c L) (ha:Apart b A) (ho:Only b w w'):Sl w' A c L :=
 ⟨h.cap,h.lim,h.ok,h.none_,fun i x hx=>by
  obtain ⟨b',o,e,h1,h2⟩:=h.cell i x hx
  refine ⟨b',o,e,by rw [ho.size]; exact h1,?_⟩
  rw [← h2]
  exact (World.cell?_of_block (w:=w) (w':=w') (ho.keep b' (ha _ _ _ e)))⟩
theorem wrap_sub {u m b:Nat} (hm:m < 4294967296) (hb:b ≤ 4294967296) :
  IntKind.u64.wrap (IntKind.u64.wrap ((u:Int) - (m:Int)) - (b:Int))=(((u+18446744073709551616 - m - b) % 18446744073709551616:Nat):Int):=by
 rw [IntKind.wrap_u64,IntKind.wrap_u64]; omega
set_option maxHeartbeats 4000000 in
theorem take_any (b j cu c q:Nat) (O V:List Nat) (R:List Value) (A:Option Addr) (w:World) (hu:Rx w b O R) (hv:Sl w A c V) (hA:Apart b A) (hok:Ok32 O) (hj:j+V.length < O.length) (hq:q ≤ 4294967295) (hl:O.length ≤ 1000000) :
  Calls Tryz.prog 248 #[.slice (some ⟨b,j,none⟩) (V.length+1) cu,.slice A V.length c,.int .u64 q] w fun e w'=>∃ (O':List Nat) (δ:Nat),e = .returned (.bool (decide (δ=1))) ∧ Rx w' b O' R ∧ O'.length=O.length ∧ Ok32 O' ∧ δ ≤ 1 ∧
   val O'+q * (4294967296 ^ j * val V)=val O+4294967296 ^ (j+V.length+1) * δ ∧ (∀ i,j+V.length < i → O'.getD i 0=O.getD i 0) ∧ Only b w w':=by
 obtain ⟨n,hn⟩:∃ n,n=V.length:=⟨_,rfl⟩
 rw [← hn] at hj ⊢
 have HN:=Lib.hid hn
 have HJ:=Lib.hid hj
 clear hn
 have hnl:n ≤ 1000000:=by omega
 have hjl:j ≤ 1000000:=by omega
 clear hj
 have HT0:=Lib.hid (Taken.start hok j q V)
 clear hok
 have HO:=Lib.hid (Only.refl b w)
 have HU:=Lib.hid hu
 clear hu
 go_enter Tryz.func248,Tryz.ntmps248
 go_wp2
 go_loopw [7,8,9,10,11,12,16] (fun cy bo _ _ _ _ i wr=>∃ (k c' b':Nat) (O':List Nat),k ≤ n ∧ i = .int .i64 k ∧ cy = .int .u64 c' ∧ bo = .int .u64 b' ∧ Taken O j q V k O' c' b' ∧ Rx wr b O' R ∧ Only b w wr) (fun _ _ _ _ _ _ i _=>n - (intOf i).toNat)
 case atStart =>
  exact ⟨0,0,0,O,Nat.zero_le _,rfl,rfl,rfl,HT0.out,HU.out,HO.out⟩
 case round =>
  obtain ⟨k,c',b',O',hk,rfl,rfl,rfl,ht,hR,ho⟩:=hrel
  clear HT0 HO HU
  have HTk:=Lib.hid ht
  have hb1:=ht.b_le
  have hc1:=ht.c_lt
  have HOl:=Lib.hid ht.len
  clear ht
  have hvw:=hv.keep hA ho
  by_cases hlt:k < n
  ·have hkV:k < V.length:=by rw [← HN.out]; exact hlt
   obtain ⟨ab,ao,e1,_,c1⟩:=hvw.at_ hkV
   have hy32:V.getD k 0 < 4294967296:=hv.ok.getD k
   have hyg:V[k]=V.getD k 0:=by simp [List.getD_eq_getElem?_getD,hkV]
   rw [hyg] at c1
   have hkO:j+k < O'.length:=by rw [HOl.out]; have:=HJ.out; omega
   have c2:=hR.cell hkO
   have c3:=hR.frozen (j+k)
   have hu32:O'.getD (j+k) 0 < 4294967296:=HTk.out.ok.getD _
   obtain ⟨hs1,hs2,hs3,hs4⟩:=take_word hq hy32 hc1 hb1 hu32
   have HST:=Lib.hid (HTk.out.step (b':=((O'.getD (j+k) 0+18446744073709551616 - (q * V.getD k 0+c') % 4294967296 - b') % 18446744073709551616) / 9223372036854775808) hkV (by rw [← HN.out]; exact HJ.out) (Nat.mod_lt _ (by decide)) hs2 hs3 hs4)
   have HRS:=Lib.hid (fun x:Nat=>hR.set hkO x)
   have HOS:=Lib.hid (fun (v:Value)=>ho.set0 (j+k) v)
   clear hR ho HTk hkO hyg hkV hs4 HOl hvw
   subst e1
   have hm1:q * V.getD k 0 ≤ 4294967295 * 4294967295:=Nat.mul_le_mul hq (by omega)
   have hw1:IntKind.u64.wrap ((q:Int) * ((V.getD k 0:Nat):Int))=((q * V.getD k 0:Nat):Int):=by rw [← Int.natCast_mul]; exact u64_nat _ (by omega)
   generalize V.getD k 0=y at *
   generalize q * y=z at *
   have hw2:IntKind.u64.wrap ((z:Int)+(c':Int))=((z+c':Nat):Int):=by rw [← Int.natCast_add]; exact u64_nat _ (by omega)
   generalize O'.getD (j+k) 0=u at *
   generalize z+c'=s at *
   have hmask:bits .and .u64 (s:Int) 4294967295=((s % 4294967296:Nat):Int):=by rw [and_mask s (by omega)]; omega
   have hm32:s % 4294967296 < 4294967296:=Nat.mod_lt _ (by decide)
   have hd:(s:Int) / 4294967296=((s / 4294967296:Nat):Int):=by omega
   generalize s % 4294967296=m at *
   generalize s / 4294967296=s2 at *
   have hsb:=wrap_sub (u:=u) (m:=m) (b:=b') (by omega) (by omega)
   generalize (u+18446744073709551616 - m - b') % 18446744073709551616=t at *
   have hi1:(j:Int)+(k:Int)=((j+k:Nat):Int):=by omega
   go_wp2
   go_roundw
   case rel =>
    have e1:((t:Int) % 4294967296)=((t % 4294967296:Nat):Int):=by omega
    exact ⟨k+1,s2,t / 9223372036854775808,O'.set (j+k) (t % 4294967296),by omega,by go_num,by go_num,by go_num,HST.out,by rw [e1]; exact HRS.out _,HOS.out _⟩
   case measure=>simp [intOf]; omega
  ·obtain rfl:k=n:=by omega
   have hjk:j+k < O.length:=HJ.out
   have HTk':=Lib.hid (show Taken O j q V V.length O' c' b' by rw [← HN.out]; exact HTk.out)
   have HL:=HTk'.out.last (t:=(O'.getD (j+k) 0+18446744073709551616 - c' - b') % 18446744073709551616) (by rw [← HN.out]; exact hjk) (by rw [← HN.out])
   rw [← HN.out] at HL
   have HT:=Lib.hid HL
   clear HL
   have hkO:j+k < O'.length:=by rw [HOl.out]; exact hjk
   have c2:=hR.cell hkO
   have c3:=hR.frozen (j+k)
   have hu32:O'.getD (j+k) 0 < 4294967296:=HTk.out.ok.getD _
   have HRS:=Lib.hid (fun x:Nat=>hR.set hkO x)
   have HOS:=Lib.hid (fun (v:Value)=>ho.set0 (j+k) v)
   clear hR ho HTk HTk' hkO hjk HOl hvw
   generalize O'.getD (j+k) 0=u at *
   have hsb:=wrap_sub (u:=u) (m:=c') (b:=b') hc1 (by omega)
   have htl:(u+18446744073709551616 - c' - b') % 18446744073709551616 < 18446744073709551616:=Nat.mod_lt _ (by decide)
   generalize (u+18446744073709551616 - c' - b') % 18446744073709551616=t at *
   have hi1:(j:Int)+(k:Int)=((j+k:Nat):Int):=by omega
   go_wp2
   go_ret
   have e1:((t:Int) % 4294967296)=((t % 4294967296:Nat):Int):=by omega
   obtain ⟨t1,t2,t3,t4,t5⟩:=HT.out
   exact ⟨O'.set (j+k) (t % 4294967296),t / 9223372036854775808,ret_bool (a:=(((t:Int) / 9223372036854775808) == 1)) (by rw [Bool.eq_iff_iff,beq_iff_eq,decide_eq_true_iff]; omega),by rw [e1]; exact HRS.out _,t1,t2,t3,t4,t5,HOS.out _⟩
open Go.RowKit Fp
set_option maxHeartbeats 1000000 in
theorem natshl_own (A:Option Addr) (c:Nat) (L:List Nat) (n:Nat) (w:World) (hs:Sl w A c L) (hlen:L.length ≤ 100000000) (hn:n ≤ 65536) :
  Calls Tryz.prog 160 #[.slice A L.length c,.int .i64 n] w (fun e w'=>∃ T v,e = .returned v ∧ val T=val L * 2 ^ n ∧ T.length=n / 32+(trimL L).length+1 ∧ Ow w' w.heap.size v T ∧ Ext w w'):=by
 have hT:=Lib.hid (natTrim_any A c L w hs)
 have hs2:=hs.trim
 have hl2:=tlen_le L
 have hC:=hs2.cap
 have hL:=hs.lim
 unfold tlen at hl2
 have hv:=Lib.hid (val_trimL L)
 generalize trimL L=M at *
 obtain ⟨m,hm⟩:∃ m,m=M.length:=⟨_,rfl⟩
 rw [← hm] at hT hl2 hC
 have HM:=Lib.hid hm; clear hm
 have hmk:=make32c (n / 32) (n / 32+m+1) (by omega) (by omega)
 rw [show ((n / 32:Nat):Int)=(n:Int) / 32 by omega,show ((n / 32+m+1:Nat):Int)=(n:Int) / 32+m+1 by omega] at hmk
 have hOw:=Lib.hid (Ow.made w w.heap.size (n / 32) (n / 32+m+1) (Nat.le_refl _) (by omega) (by omega))
 go_enter Tryz.func160,Tryz.ntmps160
 go_wp2_with fail
 refine hT.out.mono ?_; rintro e w' ⟨rfl,rfl⟩
 go_wp2
 go_loopw [5,6,23] (fun v cy i wr=>∃ (k q:Nat) (O:List Nat),k ≤ m ∧ i = .int .i64 k ∧ cy = .int .u64 q ∧ q < 2 ^ (n % 32) ∧ O.length=n / 32+k ∧ val O+4294967296 ^ (n / 32+k) * q=val (M.take k) * 2 ^ (n % 32) * 4294967296 ^ (n / 32) ∧ Ow wr w.heap.size v O ∧ Ext w wr) (fun _ _ i _=>m - (intOf i).toNat)
 case atStart =>
  exact ⟨0,0,List.replicate (n / 32) 0,Nat.zero_le _,rfl,rfl,Nat.pow_pos (by decide),by simp,by simp [val_replicate0],hOw.out,Ext.alloc _ _⟩
 case round =>
  obtain ⟨k,q,O,hk,rfl,rfl,hq,hO,hval,how,hb⟩:=hrel
  have HV:=Lib.hid hval
  have HO:=Lib.hid hO
  have hOl:O.length ≤ 200000000:=by omega
  have hq2:=Lib.hid hq
  clear hval hO hq
  obtain ⟨OA,Oc,rfl,hos⟩:=how.sl
  by_cases hlt:k < m
  ·have hkM:k < M.length:=by have:=HM.out; omega
   obtain ⟨ab,ao,rfl,_,c1⟩:=(hs2.below hb).at_ hkM
   have hx32:M[k] < 4294967296:=hs2.ok.get hkM
   have HX:=Lib.hid (shl_step (c:=q) (s:=n % 32) (n0:=n / 32) hkM HO.out HV.out)
   generalize M[k]=x at *
   obtain ⟨hw,hz1,hz2⟩:=shl_word x q (n % 32) hx32 (Nat.mod_lt _ (by decide)) hq2.out
   generalize x * 2 ^ (n % 32)+q=z at *
   have hz3:=Lib.hid hz2; clear hz2
   have hsz:O.length + [z % 4294967296].length ≤ 10000000000:=by simp; omega
   go_wp2_with (at_builtin; go_must (refine wpList_app (by rfl) _ _ (by rfl) w.heap.size _ O (by rfl) (how.alloc _) _ _ _ [z % 4294967296] (by rfl) (by rfl) (Sl.oneI _ _ (z % 4294967296) (by omega) (by omega)) hsz (le_alloc hb.size _) ?_); intro v' w1 how1 hg hat)
   go_roundw
   case rel =>
    exact ⟨k+1,z / 4294967296,O ++ [z % 4294967296],by omega,by go_num,by go_num,hz3.out,by rw [List.length_append,HO.out]; rfl,HX.out,how1,(hb.trans (Ext.alloc _ _)).own _ _ (how.alloc _) hg⟩
   case measure=>simp [intOf]; omega
  ·obtain rfl:k=m:=by omega
   have hsz:O.length + [q].length ≤ 10000000000:=by simp; omega
   have hq32:q < 4294967296:=by
    have:=hq2.out
    have hp:2 ^ (n % 32) ≤ 2 ^ 31:=Nat.pow_le_pow_right (by decide) (by omega)
    have e31:(2:Nat) ^ 31=2147483648:=by decide
    omega
   have hqm:(q:Int) % 4294967296=q:=by omega
   go_wp2_with (at_builtin; go_must (refine wpList_app (by rfl) _ _ (by rfl) w.heap.size _ O (by rfl) (how.alloc _) _ _ _ [q] (by rfl) (by rfl) (Sl.oneI _ _ q (by omega) (by omega)) hsz (le_alloc hb.size _) ?_); intro v' w1 how1 hg hat)
   go_ret
   refine ⟨O ++ [q],v',rfl,?_,by rw [List.length_append,HO.out,← HM.out]; rfl,how1,(hb.trans (Ext.alloc _ _)).own _ _ (how.alloc _) hg⟩
   have h:=HV.out
   rw [List.take_of_length_le (by rw [HM.out]; exact Nat.le_refl _)] at h
   rw [val_append,HO.out,val_cons,val_nil,Nat.mul_zero,Nat.add_zero,h,← hv.out,pow32,Nat.mul_assoc,← Nat.pow_add]
   congr 2
   omega
end Go.Proofs.YtkbjkchapnjhgaaGreatDoor
namespace Go.Proofs.YtkbjkchapnjhgaaGreatDoor.Fp
def dig (n k:Nat):Nat:=n / 4294967296 ^ k % 4294967296
theorem dig_lt (n k:Nat):dig n k < 4294967296:=Nat.mod_lt _ (by decide)
theorem dig_zero (k:Nat):dig 0 k=0:=by unfold dig; rw [Nat.zero_div]
theorem pw (k:Nat):0 < 4294967296 ^ k:=Nat.pow_pos (by decide)
theorem getD_dig {L:List Nat} (h:Ok32 L) (k:Nat):L.getD k 0=dig (val L) k:=by
 unfold dig
 rw [← val_drop_div h]
 by_cases hk:k < L.length
 ·rw [List.drop_eq_getElem_cons hk,show val (L[k] :: L.drop (k+1))=L[k]+4294967296 * val (L.drop (k+1)) from rfl,Nat.add_mul_mod_self_left,Nat.mod_eq_of_lt (h.get hk)]
  simp [List.getD_eq_getElem?_getD,hk]
 ·rw [List.drop_eq_nil_of_le (by omega),List.getD_eq_getElem?_getD,List.getElem?_eq_none (by omega)]; rfl
theorem mod_succ (n k:Nat):n % 4294967296 ^ (k+1)=n % 4294967296 ^ k+4294967296 ^ k * dig n k:=by
 rw [Nat.pow_succ,Nat.mod_mul]; rfl
def digs (n m:Nat):List Nat:=(List.range m).map (dig n)
theorem digs_len (n m:Nat):(digs n m).length=m:=by simp [digs]
theorem digs_ok (n m:Nat):Ok32 (digs n m):=fun x hx=>by
 obtain ⟨k,_,rfl⟩:=List.mem_map.1 hx
 exact dig_lt n k
theorem digs_getD {n m k:Nat} (h:k < m):(digs n m).getD k 0=dig n k:=by
 simp [digs,List.getD_eq_getElem?_getD,h]
theorem digs0_getD (m i:Nat):(digs 0 m).getD i 0=0:=by
 by_cases h:i < m
 ·rw [digs_getD h,dig_zero]
 ·rw [List.getD_eq_getElem?_getD,List.getElem?_eq_none (by rw [digs_len]; omega)]; rfl
theorem digs_succ (n m:Nat):digs n (m+1)=digs n m ++ [dig n m]:=by simp [digs,List.range_succ]
theorem val_digs (n m:Nat):val (digs n m)=n % 4294967296 ^ m:=by
 induction m with
 | zero=>simp [digs,val]; omega
 | succ m ih =>
  rw [digs_succ,val_append,ih,digs_len,mod_succ]
  rfl
theorem val_inj {L M:List Nat} (hL:Ok32 L) (hM:Ok32 M) (hl:L.length=M.length) (hv:val L=val M):L=M:=by
 apply List.ext_getElem hl
 intro i h1 h2
 have e1:=getD_dig hL i
 have e2:=getD_dig hM i
 rw [hv,← e2] at e1
 simpa [List.getD_eq_getElem?_getD,h1,h2] using e1
theorem digs_val {L:List Nat} (h:Ok32 L):digs (val L) L.length=L :=
 val_inj (digs_ok _ _) h (digs_len _ _) (by rw [val_digs,Nat.mod_eq_of_lt (val_lt h)])
theorem digs_eq {L:List Nat} {n m:Nat} (h:Ok32 L) (hl:L.length=m) (hv:val L=n):digs n m=L:=by subst hl hv; exact digs_val h
def mixL (a b k m:Nat):List Nat:=(List.range m).map fun j=>if j < k then dig a j else dig b j
theorem mixL_len (a b k m:Nat):(mixL a b k m).length=m:=by simp [mixL]
theorem mixL_zero (a b m:Nat):mixL a b 0 m=digs b m:=by simp [mixL,digs]
theorem mixL_all {a b k m:Nat} (h:m ≤ k):mixL a b k m=digs a m:=by
 unfold mixL digs
 exact List.map_congr_left fun j hj=>if_pos (Nat.lt_of_lt_of_le (List.mem_range.1 hj) h)
theorem mixL_set {a b k m:Nat}:(mixL a b k m).set k (dig a k)=mixL a b (k+1) m:=by
 apply List.ext_getElem
 ·simp [mixL]
 ·intro j h1 h2
  have hj:j < m:=by simpa [mixL] using h2
  rw [List.getElem_set]
  by_cases h:k=j
  ·subst h; simp [mixL]
  ·rw [if_neg h]
   simp only [mixL,List.getElem_map,List.getElem_range]
   by_cases q:j < k
   ·rw [if_pos q,if_pos (by omega)]
   ·rw [if_neg q,if_neg (by omega)]
theorem mixL_setD {a b k m:Nat}:(mixL a b (k+1) m).set k (dig b k)=mixL a b k m:=by
 apply List.ext_getElem
 ·simp [mixL]
 ·intro j h1 h2
  have hj:j < m:=by simpa [mixL] using h2
  rw [List.getElem_set]
  by_cases h:k=j
  ·subst h; simp [mixL]
  ·rw [if_neg h]
   simp only [mixL,List.getElem_map,List.getElem_range]
   by_cases q:j < k
   ·rw [if_pos q,if_pos (by omega)]
   ·rw [if_neg q,if_neg (by omega)]
theorem div_pw_step (a k:Nat):a / 4294967296 ^ k=4294967296 * (a / 4294967296 ^ (k+1))+dig a k:=by
 rw [Nat.pow_succ,← Nat.div_div_eq_div_mul]; unfold dig; omega
theorem short_dig {a d k:Nat} (hd:0 < d) (hd2:d < 4294967296):(a / 4294967296 ^ (k+1) % d * 4294967296+dig a k) / d=dig (a / d) k ∧ (a / 4294967296 ^ (k+1) % d * 4294967296+dig a k) % d=a / 4294967296 ^ k % d:=by
 have e1:=div_pw_step a k
 have e2:=Nat.div_add_mod (a / 4294967296 ^ (k+1)) d
 have e3:=Nat.mod_lt (a / 4294967296 ^ (k+1)) hd
 have e4:=dig_lt a k
 have e5:a / 4294967296 ^ k=d * (4294967296 * (a / 4294967296 ^ (k+1) / d))+(a / 4294967296 ^ (k+1) % d * 4294967296+dig a k):=by
  rw [e1,Nat.mul_left_comm]
  omega
 have e6:(a / 4294967296 ^ (k+1) % d * 4294967296+dig a k) / d < 4294967296:=by
  rw [Nat.div_lt_iff_lt_mul hd]
  have:=Nat.mul_le_mul_right 4294967296 (show a / 4294967296 ^ (k+1) % d+1 ≤ d from e3)
  omega
 constructor
 ·conv=>rhs; unfold dig
  rw [Nat.div_div_eq_div_mul,Nat.mul_comm d,← Nat.div_div_eq_div_mul,e5,Nat.mul_add_div hd,Nat.mul_add_mod,Nat.mod_eq_of_lt e6]
 ·rw [e5,Nat.mul_add_mod]
structure DInv (U0:Nat) (V:List Nat) (k m:Nat) (O Q:List Nat):Prop where
 lenO:O.length=m
 lenQ:Q.length=m - V.length
 okO:Ok32 O
 okQ:Ok32 Q
 eq:val O+val V * val Q=U0
 lt:val O < val V * 4294967296 ^ k
 qz:∀ i,i < k → Q.getD i 0=0
theorem DInv.step {U0 k m x:Nat} {V O Q O2:List Nat} (h:DInv U0 V (k+1) m O Q) (hk:k < m - V.length) (hl:O2.length=m) (hok:Ok32 O2) (hx:x < 4294967296)
  (he:val O2+x * (4294967296 ^ k * val V)=val O) (hlt:val O2 < val V * 4294967296 ^ k):DInv U0 V k m O2 (Q.set k x):=by
 have hkQ:k < Q.length:=by rw [h.lenQ]; exact hk
 have hv:=val_setD (x:=x) hkQ
 rw [h.qz k (Nat.lt_succ_self k),Nat.mul_zero,Nat.add_zero] at hv
 refine ⟨hl,by rw [List.length_set]; exact h.lenQ,hok,h.okQ.set _ hx,?_,hlt,fun i hi=>by rw [getD_set_ne (by omega)]; exact h.qz i (by omega)⟩
 rw [hv,Nat.mul_add,show val V * (4294967296 ^ k * x)=x * (4294967296 ^ k * val V) by simp only [Nat.mul_comm,Nat.mul_left_comm,Nat.mul_assoc]]
 have:=h.eq
 omega
theorem DInv.zero {U0 k m:Nat} {V O Q:List Nat} (h:DInv U0 V (k+1) m O Q) (hV:Ok32 V) {i:Nat} (hi:k+V.length < i):O.getD i 0=0:=by
 refine top_of_val h.okO (k:=k+V.length+1) ?_ hi
 refine Nat.lt_trans h.lt ?_
 have:=Nat.mul_lt_mul_of_pos_right (val_lt hV) (pw (k+1))
 rw [← Nat.pow_add,show V.length+(k+1)=k+V.length+1 by omega] at this
 exact this
theorem DInv.guess {U0 k m:Nat} {V O Q:List Nat} (h:DInv U0 V (k+1) m O Q) (hV:Ok32 V) (hn:2 ≤ V.length) (hN:2147483648 ≤ V.getD (V.length - 1) 0) :
  O.getD (k+V.length) 0 ≤ V.getD (V.length - 1) 0 ∧ ∀ g,g ≤ 4294967295 →
   g ≤ ((O.getD (k+V.length) 0 * 4294967296+O.getD (k+V.length - 1) 0) * 4294967296+O.getD (k+V.length - 2) 0) / (V.getD (V.length - 1) 0 * 4294967296+V.getD (V.length - 2) 0) →
   (g=4294967295 ∨ ((O.getD (k+V.length) 0 * 4294967296+O.getD (k+V.length - 1) 0) * 4294967296+O.getD (k+V.length - 2) 0) / (V.getD (V.length - 1) 0 * 4294967296+V.getD (V.length - 2) 0) ≤ g) →
   val O / 4294967296 ^ k / val V ≤ g ∧ g ≤ val O / 4294967296 ^ k / val V+1:=by
 have t3:=top3 h.okO (j:=k) hn (fun i hi=>h.zero hV hi)
 have t2:=top2 hV hn rfl
 have hU:val O / 4294967296 ^ k < 4294967296 * val V:=by
  rw [Nat.div_lt_iff_lt_mul (pw k)]
  have:=h.lt
  rw [Nat.pow_succ] at this
  rw [show 4294967296 * val V * 4294967296 ^ k=val V * (4294967296 ^ k * 4294967296) by simp only [Nat.mul_comm,Nat.mul_left_comm,Nat.mul_assoc]]
  exact this
 have w1:=h.okO.getD (k+V.length - 1)
 have w2:=h.okO.getD (k+V.length - 2)
 have w3:=hV.getD (V.length - 2)
 refine ⟨?_,fun g g1 g2 g3=>?_⟩
 ·have hP:=pw (V.length - 2)
  have h1:val V < (V.getD (V.length - 1) 0 * 4294967296+V.getD (V.length - 2) 0+1) * 4294967296 ^ (V.length - 2):=by
   rw [← t2,← Nat.div_lt_iff_lt_mul hP]; omega
  have h2:val O / 4294967296 ^ k / 4294967296 ^ (V.length - 2) < 4294967296 * (V.getD (V.length - 1) 0 * 4294967296+V.getD (V.length - 2) 0+1):=by
   rw [Nat.div_lt_iff_lt_mul hP]
   refine Nat.lt_of_lt_of_le hU ?_
   rw [Nat.mul_assoc]
   exact Nat.mul_le_mul_left _ (Nat.le_of_lt h1)
  rw [t3] at h2
  omega
 ·rw [← t3,← t2] at g2 g3
  exact knuth (pw _) (by rw [t2]; omega) hU g1 g2 g3
theorem DInv.over {U0 k m x:Nat} {V O Q O':List Nat} (h:DInv U0 V (k+1) m O Q) (hV:Ok32 V) (hok:Ok32 O') (hv:val O'+x * (4294967296 ^ k * val V)=val O+4294967296 ^ (k+V.length+1) * 1)
  (hs:∀ i,k+V.length < i → O'.getD i 0=O.getD i 0):val O' < 4294967296 ^ (k+V.length+1) ∧ 0 < x:=by
 have h1:val O' < 4294967296 ^ (k+V.length+1):=val_lt_of_top hok fun i hi=>by rw [hs i (by omega)]; exact h.zero hV (by omega)
 refine ⟨h1,?_⟩
 rcases Nat.eq_zero_or_pos x with h0 | h0
 ·subst h0; rw [Nat.zero_mul] at hv; omega
 ·exact h0
theorem DInv.back {U0 k m x κ:Nat} {V O Q O' O2:List Nat} (h:DInv U0 V (k+1) m O Q) (hV:Ok32 V) (hk:k < m - V.length) (hok:Ok32 O') (hv:val O'+x * (4294967296 ^ k * val V)=val O+4294967296 ^ (k+V.length+1) * 1)
  (hs:∀ i,k+V.length < i → O'.getD i 0=O.getD i 0) (hx:x ≤ 4294967295) (hx2:x ≤ val O / 4294967296 ^ k / val V+1) (hV0:0 < val V) (hl2:O2.length=m) (hok2:Ok32 O2) (hκ:κ ≤ 1)
  (h2:val O2+4294967296 ^ (k+V.length+1) * κ=val O'+4294967296 ^ k * val V) (hs2:∀ i,k+V.length < i → O2.getD i 0=O'.getD i 0):DInv U0 V k m O2 (Q.set k (x - 1)):=by
 obtain ⟨h1,h0⟩:=h.over hV hok hv hs
 have h3:val O2 < 4294967296 ^ (k+V.length+1):=val_lt_of_top hok2 fun i hi=>by rw [hs2 i (by omega),hs i (by omega)]; exact h.zero hV (by omega)
 rw [Nat.mul_one] at hv
 obtain ⟨_,_,e,l⟩:=digit_great (pw k) hV0 hv h1 hx2 hκ h2 h3
 exact h.step (x:=x - 1) hk hl2 hok2 (by omega) e l
theorem norm_div {L:List Nat} {x s l:Nat} (hk:Ok32 L) (hl:L.length=l+1) (hx:L.getD l 0=x) (hx0:x ≠ 0) (hs:s=32 - bitsN x) :
  s < 32 ∧ (limbs (val L * 2 ^ s)).length=l+1 ∧ 2147483648 ≤ (limbs (val L * 2 ^ s)).getD l 0 ∧ 4294967296 ^ l * 2147483648 ≤ val L * 2 ^ s ∧ val L * 2 ^ s < 4294967296 ^ (l+1):=by
 have hx32:x < 4294967296:=by rw [← hx]; exact hk.getD l
 have hb1:=bitsN_pos hx0
 have hb2:bitsN x ≤ 32:=bitsN_le_iff.2 hx32
 have h1:=two_pow_le_of_bitsN hx0
 have h2:=lt_two_pow_bitsN x
 have e1:2 ^ (bitsN x - 1) * 2 ^ s=2147483648:=by rw [← Nat.pow_add,show bitsN x - 1+s=31 by omega]
 have e2:2 ^ bitsN x * 2 ^ s=4294967296:=by rw [← Nat.pow_add,show bitsN x+s=32 by omega]
 have hp:0 < 2 ^ s:=Nat.pow_pos (by decide)
 have hv:val L=val (L.take l)+4294967296 ^ l * x:=by
  have:=val_take_getD L l
  rw [List.take_of_length_le (by omega),hx] at this
  exact this
 have hlow:val (L.take l) < 4294967296 ^ l:=by
  have:=val_lt (hk.take l)
  rw [List.length_take,Nat.min_eq_left (by omega)] at this
  exact this
 have g1:4294967296 ^ l * 2147483648 ≤ val L * 2 ^ s:=by
  rw [← e1,← Nat.mul_assoc]
  refine Nat.mul_le_mul_right _ ?_
  rw [hv]
  exact Nat.le_trans (Nat.mul_le_mul_left _ h1) (Nat.le_add_left _ _)
 have g2:val L * 2 ^ s < 4294967296 ^ (l+1):=by
  have e3:4294967296 ^ (l+1)=4294967296 ^ l * (2 ^ bitsN x * 2 ^ s):=by rw [Nat.pow_succ,e2]
  rw [e3,← Nat.mul_assoc]
  refine Nat.mul_lt_mul_of_pos_right ?_ hp
  rw [hv]
  have:=Nat.mul_le_mul_left (4294967296 ^ l) (show x+1 ≤ 2 ^ bitsN x from h2)
  rw [Nat.mul_add,Nat.mul_one] at this
  omega
 have hlen:(limbs (val L * 2 ^ s)).length=l+1:=by
  have u1:=limbs_length_le g2
  have u2:¬ (limbs (val L * 2 ^ s)).length ≤ l:=fun h=>by
   have:=lt_of_limbs_length h
   have:=pw l
   omega
  omega
 refine ⟨by omega,hlen,?_,g1,g2⟩
 rw [getD_dig (ok_limbs _),val_limbs]
 unfold dig
 rw [Nat.mod_eq_of_lt (by rw [Nat.div_lt_iff_lt_mul (pw l),Nat.mul_comm 4294967296,← Nat.pow_succ]; exact g2),Nat.le_div_iff_mul_le (pw l),Nat.mul_comm]
 exact g1
theorem DInv.start {A s:Nat} {V O:List Nat} (hO:Ok32 O) (hv:val O=A * 2 ^ s) {la:Nat} (hA:A < 4294967296 ^ la) (hl:O.length=la+1) (hs:s < 32) (hn:1 ≤ V.length) (hnl:V.length ≤ la) (hV:4294967296 ^ (V.length - 1) * 2147483648 ≤ val V) :
  DInv (A * 2 ^ s) V (la+1 - V.length) (la+1) O (List.replicate (la+1 - V.length) 0):=by
 refine ⟨hl,by simp,hO,Ok32.replicate0 _,by rw [val_replicate0,Nat.mul_zero,Nat.add_zero,hv],?_,fun i _=>?_⟩
 ·rw [hv]
  have h31:2 ^ s ≤ 2 ^ 31:=Nat.pow_le_pow_right (by decide) (by omega)
  have h31':(2:Nat) ^ 31=2147483648:=by decide
  rw [h31'] at h31
  have h1:A * 2 ^ s < 4294967296 ^ la * 2 ^ s:=Nat.mul_lt_mul_of_pos_right hA (Nat.pow_pos (by decide))
  have h2:=Nat.mul_le_mul_left (4294967296 ^ la) h31
  have h3:=Nat.mul_le_mul_right (4294967296 ^ (la+1 - V.length)) hV
  rw [Nat.mul_right_comm,← Nat.pow_add,show V.length - 1+(la+1 - V.length)=la by omega] at h3
  omega
 ·rw [List.getD_eq_getElem?_getD,List.getElem?_replicate]; split <;> rfl
end Go.Proofs.YtkbjkchapnjhgaaGreatDoor.Fp
namespace Go.Proofs.YtkbjkchapnjhgaaGreatDoor
open Go.RowKit Fp Pu
theorem shl32_nat (n:Nat) (h:n < 4294967296):IntKind.u64.wrap ((n:Int) * 2 ^ 32)=((n * 4294967296:Nat):Int):=by rw [IntKind.wrap_u64]; omega
theorem or32_nat (a b:Nat) (ha:a < 4294967296) (hb:b < 4294967296):bits .or .u64 ((a * 4294967296:Nat):Int) (b:Int)=((a * 4294967296+b:Nat):Int):=by
 rw [u64_or_nat _ _ (by omega) (by omega),Nat.or_comm,show a * 4294967296=a * 2 ^ 32 by rfl,or_add b a 32 (by simpa using hb),Nat.add_comm]
theorem row_set' {T n n' p:Nat} {L L':List Nat} {z:Nat} (hn:n=n') (hp:p < L.length) (hs:L.set p z=L'):Bx.le (.row false T n 1 fun i' j'=>if i'=p ∧ 0 ≤ j' ∧ j' < 0+1 then [.v (.int .u32 ((z:Nat):Int))].getD (j' - 0) .any else (limbEl L) i' j') (.row false T n' 1 (limbEl L')):=hs ▸ row_set hn hp
open Go.RowKit Fp Pu
def digFamA (q rest third v w:Nat) (x:Nat):PS:=⟨32,true,[(0,.e (.v (.int .u64 (((q - x):Nat):Int)))),(1,.e (.v (.int .u64 (((rest+(x * v)):Nat):Int)))),(2,.e (.v (.int .u32 (third:Int)))),(3,.e (.v (.int .u32 (v:Int)))),(4,.e (.v (.int .u32 (w:Int))))],[]⟩
def shortFam (L:List Nat) (d:Nat) (x:Nat):PS:=⟨34,false,[(8,.e (iP ((L.length:Int) - 1 - (x:Int)))),(7,.e (.v (.int .u32 (((val L / 4294967296 ^ (L.length - x) % d):Nat):Int)))),(6,.own 11),(0,.e (slP L)),(1,.e (.v (.int .u32 (d:Int))))],[(11,.row false 50 L.length 1 (limbEl (mixL 0 (val L / d) (L.length - x) L.length)))]⟩
theorem div32_pc (h l d:Nat) (h1:h < d) (h2:l < 4294967296) (h3:d < 4294967296):PCt 251 [(.v (.int .u32 (h:Int))),(.v (.int .u32 (l:Int))),(.v (.int .u32 (d:Int)))] (.tup [.v (.int .u32 ((((h * 4294967296+l) / d:Nat)):Int)),.v (.int .u32 ((((h * 4294967296+l) % d:Nat)):Int))]):=by
 have e1:(h * 4294967296+l) / d < 4294967296:=by rw [Nat.div_lt_iff_lt_mul (by omega)]; omega
 have e2:(h * 4294967296+l) % d < 4294967296:=Nat.lt_trans (Nat.mod_lt _ (by omega)) h3
 exact tr true Tryz.call251 Tryz.func251 (chain [tB 10 (by simp; omega:((d:Int) != 0)=true),tF 14 ((d:Int) ≤ (h:Int)) (by omega),
  .o 18 (.int (u64_nat _ (by omega)):PV.le (.e (.v (.int .u64 (IntKind.u64.wrap (h:Int))))) (.e (.v (.int .u64 (h:Int))))),.a (by omega:0 ≤ (32:Int) ∧ (32:Int) ≤ ((64:Nat):Int)),
  .o 19 (.int (shl32_nat _ (by omega)):PV.le (.e (.v (.int .u64 (IntKind.u64.wrap ((h:Int) * 2 ^ 32))))) (.e (.v (.int .u64 (((h * 4294967296):Nat):Int))))),
  .o 21 (.int (u64_nat _ (by omega)):PV.le (.e (.v (.int .u64 (IntKind.u64.wrap (l:Int))))) (.e (.v (.int .u64 (l:Int))))),
  .o 22 (.int (or32_nat _ _ (by omega) (by omega)):PV.le (.e (.v (.int .u64 (bits .or .u64 (((h * 4294967296):Nat):Int) (l:Int))))) (.e (.v (.int .u64 (((h * 4294967296+l):Nat):Int))))),
  .o 25 (.int (u64_nat _ (by omega)):PV.le (.e (.v (.int .u64 (IntKind.u64.wrap (d:Int))))) (.e (.v (.int .u64 (d:Int))))),
  .a (by omega:0 ≤ ((((h * 4294967296+l):Nat):Int):Int) ∧ 0 < ((d:Int):Int)),ru64 ((((h * 4294967296+l):Nat):Int)) (by omega),
  .o 27 (.int (u32_nat _):PV.le (.e (.v (.int .u32 (IntKind.u32.wrap ((((h * 4294967296+l) / d):Nat):Int))))) (.e (.v (.int .u32 (((((h * 4294967296+l) / d) % 4294967296):Nat):Int))))),
  .o 30 (.int (u64_nat _ (by omega)):PV.le (.e (.v (.int .u64 (IntKind.u64.wrap (d:Int))))) (.e (.v (.int .u64 (d:Int))))),.a (by omega:0 < ((d:Int):Int)),
  .o 32 (.int (u32_nat _):PV.le (.e (.v (.int .u32 (IntKind.u32.wrap ((((h * 4294967296+l) % d):Nat):Int))))) (.e (.v (.int .u32 (((((h * 4294967296+l) % d) % 4294967296):Nat):Int)))))] <| rQ (.tup [(.v (.int .u32 (((((h * 4294967296+l) / d) % 4294967296):Nat):Int))),(.v (.int .u32 (((((h * 4294967296+l) % d) % 4294967296):Nat):Int)))]) (.tup [.v (.int .u32 ((((h * 4294967296+l) / d:Nat)):Int)),.v (.int .u32 ((((h * 4294967296+l) % d:Nat)):Int))]) (by rw [Nat.mod_eq_of_lt e1,Nat.mod_eq_of_lt e2])) (by kernel_rfl)
theorem natDigit_A (q rest third v w N:Nat) (hq:q ≤ 4294967295) (hr:rest < 9223372036854775808) (ht:third < 4294967296) (hv:v < 4294967296) (hw:w < 4294967296) (hNq:N ≤ q) (hlo:∀ x,x < N → dcond q rest third v w x) (g1:¬ rest+N * v < 4294967296):PCt 252 [(.v (.int .u64 (q:Int))),(.v (.int .u64 (rest:Int))),(.v (.int .u32 (third:Int))),(.v (.int .u32 (v:Int))),(.v (.int .u32 (w:Int)))] (.v (.int .u64 (((q - N:Nat)):Int))):=by
 exact tr true Tryz.call252 Tryz.func252 (chain [.s (Sp.upto (digFamA q rest third v w) 0 N (by omega) (fun x hx hltx=>by
    obtain ⟨g1,g2⟩:=hlo x (by omega)
    have m1:(q - x) * w ≤ 4294967295 * 4294967295:=Nat.mul_le_mul (by omega) (by omega)
    have g3:0 < q - x:=by
     rcases Nat.eq_zero_or_pos (q - x) with h | h
     ·rw [h,Nat.zero_mul] at g2; omega
     ·exact h
    exact spt (chain [tT 12 ((((rest+(x * v)):Nat):Int) < 4294967296) (by omega),.o 16 (.int (u64_nat _ (by omega)):PV.le (.e (.v (.int .u64 (IntKind.u64.wrap (w:Int))))) (.e (.v (.int .u64 (w:Int))))),
     ru64 ((((q - x):Nat):Int) * (w:Int)) (by omega),.a (by omega:0 ≤ (32:Int) ∧ (32:Int) ≤ ((64:Nat):Int)),
     .o 19 (.int (shl32_nat _ (by omega)):PV.le (.e (.v (.int .u64 (IntKind.u64.wrap ((((rest+(x * v)):Nat):Int) * 2 ^ 32))))) (.e (.v (.int .u64 ((((rest+(x * v)) * 4294967296):Nat):Int))))),
     .o 21 (.int (u64_nat _ (by omega)):PV.le (.e (.v (.int .u64 (IntKind.u64.wrap (third:Int))))) (.e (.v (.int .u64 (third:Int))))),
     .o 22 (.int (or32_nat _ _ (by omega) (by omega)):PV.le (.e (.v (.int .u64 (bits .or .u64 ((((rest+(x * v)) * 4294967296):Nat):Int) (third:Int))))) (.e (.v (.int .u64 (((((rest+(x * v)) * 4294967296)+third):Nat):Int))))),
     tT 23 ((((((rest+(x * v)) * 4294967296)+third):Nat):Int) < ((((q - x) * w):Nat):Int)) (Int.ofNat_lt.2 g2),ru64 ((((q - x):Nat):Int) - 1) (by omega),
     .o 29 (.int (u64_nat _ (by omega)):PV.le (.e (.v (.int .u64 (IntKind.u64.wrap (v:Int))))) (.e (.v (.int .u64 (v:Int))))),ru64 ((((rest+(x * v)):Nat):Int)+(v:Int)) (by omega)] <| .e (chain [.o 0 (.int (by first | rfl | omega | (simp only [Nat.add_mul,Nat.one_mul]; omega)):PV.le (.e (.v (.int .u64 ((((q - x):Nat):Int) - 1)))) (.e (.v (.int .u64 (((q - (x+1)):Nat):Int))))),
  .o 1 (.int (by first | rfl | omega | (simp only [Nat.add_mul,Nat.one_mul]; omega)):PV.le (.e (.v (.int .u64 ((((rest+(x * v))+v):Nat):Int)))) (.e (.v (.int .u64 (((rest+((x+1) * v)):Nat):Int)))))] <| .nil)) (by kernel_rfl))
  (fun hx=>by
    have m1:(q - N) * w ≤ 4294967295 * 4294967295:=Nat.mul_le_mul (by omega) (by omega)
    exact spt (chain [tF 12 ((((rest+(N * v)):Nat):Int) < 4294967296) (by omega)] <| .nil) (by kernel_rfl)) (by nofun):LpT 1 Tryz.f252 (digFamA q rest third v w 0) (.exit 0) ⟨32,true,[(0,.e (.v (.int .u64 (((q - N):Nat):Int))))],[]⟩) (chain [.o 0 (.int (by first | rfl | omega | (simp only [Nat.add_mul,Nat.one_mul]; omega)):PV.le (.e (.v (.int .u64 (q:Int)))) (.e (.v (.int .u64 (((q - 0):Nat):Int))))),
  .o 1 (.int (by first | rfl | omega | (simp only [Nat.add_mul,Nat.one_mul]; omega)):PV.le (.e (.v (.int .u64 (rest:Int)))) (.e (.v (.int .u64 (((rest+(0 * v)):Nat):Int)))))] <| .nil)] <| .nil) (by kernel_rfl)
theorem natShort_pc (L:List Nat) (d:Nat) (hk:Ok32 L) (hl:L.length ≤ 1000000) (hd1:0 < d) (hd2:d < 4294967296):PCt 245 [(slP L),(.v (.int .u32 (d:Int)))] (.tup [slP (digs (val L / d) L.length),.v (.int .u32 (((val L % d:Nat)):Int))]):=by
 exact tr false Tryz.call245 Tryz.func245 (chain [.a (by omega:0 ≤ ((L.length:Int):Int) ∧ ((L.length:Int):Int) ≤ ((L.length:Int):Int)),
  .a (by omega:((4:Nat):Int) * (L.length:Int) ≤ 281474976710656 ∧ ((L.length:Int):Int) ≤ 9223372036854775807),r64 ((L.length:Int) - 1) (by omega),
  .s (Sp.upto (shortFam L d) 0 L.length (by omega) (fun x hx hltx=>by
    have hix:((L.length:Int) - 1 - (x:Int)).toNat=L.length - 1 - x:=by omega
    have hld:((L.getD ((L.length:Int) - 1 - (x:Int)).toNat 0:Nat):Int)=((dig (val L) (L.length - 1 - x):Nat):Int):=by rw [hix,getD_dig hk]
    have hsd:=short_dig (a:=val L) (k:=L.length - 1 - x) hd1 hd2
    have hn1:L.length - 1 - x+1=L.length - x:=by omega
    have hn2:L.length - (x+1)=L.length - 1 - x:=by omega
    rw [hn1] at hsd
    have hml:=Nat.mod_lt (val L / 4294967296 ^ (L.length - x)) hd1
    have hdl:=dig_lt (val L) (L.length - 1 - x)
    have hset:(mixL 0 (val L / d) (L.length - x) L.length).set ((L.length:Int) - 1 - (x:Int)).toNat ((val L / 4294967296 ^ (L.length - x) % d * 4294967296+dig (val L) (L.length - 1 - x)) / d)=mixL 0 (val L / d) (L.length - (x+1)) L.length:=by
     rw [hix,hsd.1,← hn1,mixL_setD,hn2]
    exact spt (chain [tT 16 (0 ≤ ((L.length:Int) - 1 - (x:Int))) (by omega),iX (((L.length:Int) - 1 - (x:Int))) (L.length) (by omega),
     .o 26 (.int hld:PV.le (.e (.v (.int .u32 (((L.getD (((L.length:Int) - 1 - (x:Int))).toNat 0):Nat):Int)))) (.e (.v (.int .u32 (((dig (val L) (L.length - 1 - x)):Nat):Int))))),
     .c (div32_pc (val L / 4294967296 ^ (L.length - x) % d) (dig (val L) (L.length - 1 - x)) d (by omega) (by omega) (by omega)),iX (((L.length:Int) - 1 - (x:Int))) (L.length) (by omega),
     .a (by omega:(((L.length:Int) - 1 - (x:Int))).toNat < L.length),r64 (((L.length:Int) - 1 - (x:Int)) - 1) (by omega)] <| .e (chain [.o 8 (.int (by first | rfl | omega | (simp only [Nat.add_mul,Nat.one_mul]; omega)):PV.le (.e (iP (((L.length:Int) - 1 - (x:Int)) - 1))) (.e (iP ((L.length:Int) - 1 - (((x+1):Nat):Int))))),
  .o 7 (.int (by rw [hsd.2,hn2]):PV.le (.e (.v (.int .u32 (((((val L / 4294967296 ^ (L.length - x) % d) * 4294967296+(dig (val L) (L.length - 1 - x))) % d):Nat):Int)))) (.e (.v (.int .u32 (((val L / 4294967296 ^ (L.length - (x+1)) % d):Nat):Int))))),
  .b 11 (row_set' rfl (by rw [mixL_len]; omega) hset:Bx.le (.row false 50 L.length 1 (fun i' j'=>if i'=(((L.length:Int) - 1 - (x:Int))).toNat ∧ 0 ≤ j' ∧ j' < 0+1 then [(.v (.int .u32 (((((val L / 4294967296 ^ (L.length - x) % d) * 4294967296+(dig (val L) (L.length - 1 - x))) / d):Nat):Int)))].getD (j' - 0) .any else (limbEl (mixL 0 (val L / d) (L.length - x) L.length)) i' j')) (.row false 50 L.length 1 (limbEl (mixL 0 (val L / d) (L.length - (x+1)) L.length))))] <| .nil)) (by kernel_rfl))
  (fun hx=>by
    exact spt (chain [tF 16 (0 ≤ ((L.length:Int) - 1 - (L.length:Int))) (by omega)] <| .nil) (by kernel_rfl)) (by nofun):LpT 4 Tryz.f245 (shortFam L d 0) (.exit 0) ⟨34,false,[(7,.e (.v (.int .u32 (((val L / 4294967296 ^ (L.length - L.length) % d):Nat):Int)))),(6,.own 11)],[(11,.row false 50 L.length 1 (limbEl (mixL 0 (val L / d) (L.length - L.length) L.length)))]⟩) (chain [.o 8 (.int (by first | rfl | omega | (simp only [Nat.add_mul,Nat.one_mul]; omega)):PV.le (.e (iP ((L.length:Int) - 1))) (.e (iP ((L.length:Int) - 1 - ((0:Nat):Int))))),
  .o 7 (.int (by rw [Nat.sub_zero,Nat.div_eq_of_lt (val_lt hk),Nat.zero_mod]; rfl):PV.le (.e (.v (.int .u32 0))) (.e (.v (.int .u32 (((val L / 4294967296 ^ (L.length - 0) % d):Nat):Int))))),
  .b 11 (row_zero rfl (fun i=>by rw [Nat.sub_zero,mixL_all (Nat.le_refl _),digs0_getD]):Bx.le (.row false 50 L.length 1 (fun _ j_=>[(.v (.int .u32 0))].getD j_ .any)) (.row false 50 L.length 1 (limbEl (mixL 0 (val L / d) (L.length - 0) L.length))))] <| .nil)] <| rR (.tup [slP (digs (val L / d) L.length),.v (.int .u32 (((val L % d:Nat)):Int))]) (.tup (.cons (by rw [Nat.sub_self,mixL_zero]; exact slRow_le (digs_len _ _).symm) (.cons (.of_eq (by rw [Nat.sub_self,Nat.pow_zero,Nat.div_one])) .nil)):E.le (.tup [(.sl false L.length 1 (limbEl (mixL 0 (val L / d) (L.length - L.length) L.length))),(.v (.int .u32 (((val L / 4294967296 ^ (L.length - L.length) % d):Nat):Int)))]) (.tup [slP (digs (val L / d) L.length),.v (.int .u32 (((val L % d:Nat)):Int))]))) (by kernel_rfl)
open Go.RowKit Fp
def RetLL (w:World) (T S:List Nat) (e:Ending) (w':World):Prop:=∃ A c B d,e = .returned (.tuple #[.slice A T.length c,.slice B S.length d]) ∧ Sl w' A c T ∧ Sl w' B d S ∧ Ext w w'
theorem Ow.rx {w:World} {base:Nat} {v:Value} {L:List Nat} (h:Ow w base v L) (hl:L ≠ []):∃ g cap R,v = .slice (some ⟨g,0,none⟩) L.length cap ∧ base ≤ g ∧ g < w.heap.size ∧ Rx w g L R ∧ L.length ≤ cap ∧ cap ≤ maxLen:=by
 rcases h.row.2 with ⟨_,h0⟩ | ⟨g,cap,cur,rfl,hb,hg,hnc,hcm,hcs,htake⟩
 ·exact absurd (List.eq_nil_of_length_eq_zero h0) hl
 ·refine ⟨g,cap,cur.toList.drop L.length,rfl,hb,(Array.getElem?_eq_some_iff.1 hg).1,?_,hnc,hcm⟩
  unfold Rx
  rw [hg]
  rw [Nat.mul_one] at htake
  rw [← htake,List.take_append_drop]
theorem Rx.sl {w:World} {b cap:Nat} {L:List Nat} {R:List Value} (h:Rx w b L R) (hk:Ok32 L) (hc:L.length ≤ cap) (hm:cap ≤ maxLen) (n:Nat):Sl w (some ⟨b,0,none⟩) cap (L.take n) :=
 ⟨by rw [List.length_take]; omega,by unfold maxLen at hm; omega,hk.take n,(fun h=>by cases h),fun i x hx=>by
  rw [List.getElem?_take] at hx
  split at hx
  ·obtain ⟨hi,hx'⟩:=List.getElem?_eq_some_iff.1 hx
   refine ⟨_,_,rfl,h.lt,?_⟩
   rw [Nat.zero_add,h.cell hi]
   simp [List.getD_eq_getElem?_getD,hx]
  ·cases hx⟩
theorem lz32_any (x:Nat) (hx:x < 4294967296) (w:World) :
  Calls Tryz.prog 246 #[.int .u32 x] w fun e w'=>e = .returned (.int .i64 ((32 - bitsN x:Nat):Int)) ∧ w=w':=by
 have hb2:bitsN x ≤ 32:=bitsN_le_iff.2 hx
 have H:=Lib.hid (fun w=>len32_any x hx w)
 go_enter Tryz.func246,Tryz.ntmps246
 go_wp2_with fail
 refine (H.out _).mono ?_
 rintro e w' ⟨rfl,rfl⟩
 go_wp2
 go_ret
 exact ⟨ret_int (by omega),rfl⟩
set_option maxHeartbeats 1000000 in
theorem digit_any (q rest third v w0 N:Nat) (w:World) (hq:q ≤ 4294967295) (hr:rest < 9223372036854775808) (ht:third < 4294967296) (hv:v < 4294967296) (hw:w0 < 4294967296) (hNq:N ≤ q) (hlo:∀ x,x < N → dcond q rest third v w0 x) (hN:¬ dcond q rest third v w0 N) :
  Calls Tryz.prog 252 #[.int .u64 q,.int .u64 rest,.int .u32 third,.int .u32 v,.int .u32 w0] w fun e w'=>e = .returned (.int .u64 ((q - N:Nat):Int)) ∧ w=w':=by
 have HLO:=Lib.hid hlo
 have HNN:=Lib.hid hN
 clear hlo hN
 go_enter Tryz.func252,Tryz.ntmps252
 go_wp2
 go_loop [0,1] (fun a b=>∃ k:Nat,k ≤ N ∧ a = .int .u64 ((q - k:Nat):Int) ∧ b = .int .u64 ((rest+k * v:Nat):Int)) (fun a _=>(intOf a).toNat+0 * N)
 case atStart=>exact ⟨0,Nat.zero_le _,by go_num,by go_num⟩
 case round =>
  obtain ⟨k,hk,rfl,rfl⟩:=hrel
  have m1:(q - k) * w0 ≤ 4294967295 * 4294967295:=Nat.mul_le_mul (by omega) (by omega)
  have m2:(q - k) * w0=(q - k) * w0:=rfl
  by_cases hlt:k < N
  ·have hc:=HLO.out k hlt
   have hqk:0 < q - k:=by omega
   have hnext:rest+(k+1) * v=rest+k * v+v:=by rw [Nat.add_mul,Nat.one_mul]; omega
   have HX:=Lib.hid hnext
   clear hnext
   unfold dcond at hc
   have hw1:IntKind.u64.wrap (((q - k:Nat):Int) * (w0:Int))=(((q - k) * w0:Nat):Int):=by rw [← Int.natCast_mul]; exact u64_nat _ (by omega)
   generalize rest+k * v=y at *
   generalize hz:(q - k) * w0=z at *
   have hq1:q - k=q - (k+1)+1:=by omega
   have HQ:=Lib.hid hq1
   obtain ⟨p,hp⟩:∃ p,p=q - k:=⟨_,rfl⟩
   rw [← hp] at hw1 hqk hq1 HQ ⊢
   have HP:=Lib.hid hp
   have hpl:p ≤ 4294967295:=by omega
   clear hp hz hq1
   have hsh:=shl32_nat y hc.1
   have hor:=or32_nat y third hc.1 ht
   have g2:=hc.2
   have g1:=hc.1
   clear hc
   rw [show ((y * 4294967296:Nat):Int)=(y:Int) * 4294967296 by omega] at hor hsh
   have d1:decide ((y:Int) < 4294967296)=true:=decide_eq_true (by omega)
   have d2:decide ((y:Int) * 4294967296+(third:Int) < (z:Int))=true:=decide_eq_true (by omega)
   have hm1:IntKind.u64.wrap ((p:Int) - 1)=((p - 1:Nat):Int):=by rw [IntKind.wrap_u64]; omega
   go_wp2
   go_round
   case rel =>
    have e1:=HP.out
    exact ⟨k+1,by omega,by go_num,by rw [HX.out]; go_num⟩
   case measure=>simp [intOf]; omega
  ·obtain rfl:k=N:=by omega
   have hn:=HNN.out
   clear HNN HLO
   unfold dcond at hn
   have hw1:IntKind.u64.wrap (((q - k:Nat):Int) * (w0:Int))=(((q - k) * w0:Nat):Int):=by rw [← Int.natCast_mul]; exact u64_nat _ (by omega)
   generalize rest+k * v=y at *
   generalize (q - k) * w0=z at *
   obtain ⟨p,hp⟩:∃ p,p=q - k:=⟨_,rfl⟩
   rw [← hp] at hw1 ⊢
   have HP:=Lib.hid hp
   clear hp
   by_cases g1:y < 4294967296
   ·have hsh:=shl32_nat y g1
    have hor:=or32_nat y third g1 ht
    rw [show ((y * 4294967296:Nat):Int)=(y:Int) * 4294967296 by omega] at hor hsh
    have d1:decide ((y:Int) < 4294967296)=true:=decide_eq_true (by omega)
    have d2:decide ((y:Int) * 4294967296+(third:Int) < (z:Int))=false:=decide_eq_false (by omega)
    clear hn
    go_wp2
    go_ret
    exact ⟨ret_int (by rw [← HP.out]),rfl⟩
   ·have d1:decide ((y:Int) < 4294967296)=false:=decide_eq_false (by omega)
    clear hn hw1
    go_wp2
    go_ret
    exact ⟨ret_int (by rw [← HP.out]),rfl⟩
set_option maxHeartbeats 1000000 in
theorem guess_any (top next third v w0:Nat) (hv:2147483648 ≤ v) (hv2:v < 4294967296) (hn:next < 4294967296) (ht:third < 4294967296) (hw:w0 < 4294967296) (htv:top ≤ v) :
  ∃ g,g ≤ 4294967295 ∧ g ≤ ((top * 4294967296+next) * 4294967296+third) / (v * 4294967296+w0) ∧ (g=4294967295 ∨ ((top * 4294967296+next) * 4294967296+third) / (v * 4294967296+w0) ≤ g) ∧
   ∀ w,Calls Tryz.prog 247 #[.int .u32 top,.int .u32 next,.int .u32 third,.int .u32 v,.int .u32 w0] w fun e w'=>e = .returned (.int .u64 ((g:Nat):Int)) ∧ ∃ m,w'=w.drewN m:=by
 by_cases k1:v ≤ top
 ·obtain ⟨N,hN3,hN0,hN1,hN2,g1,g2⟩:=digit_N (X:=top * 4294967296+next) (q:=4294967295) (rest:=(top - v) * 4294967296+next+v) (third:=third) (v:=v) (w:=w0) (by omega) (Nat.le_refl _) hv hw
  refine ⟨4294967295 - N,by omega,g1,g2.elim (fun h=>.inl (by rw [h])) .inr,fun w=>?_⟩
  clear g1 g2
  have H:=fun w=>digit_any 4294967295 ((top - v) * 4294967296+next+v) third v w0 N w (by omega) (by omega) ht hv2 hw hN0 hN1 hN2
  clear hN1 hN2
  obtain rfl:v=top:=by omega
  have hs0:(v - v) * 4294967296+next+v=next+v:=by omega
  rw [hs0,Int.natCast_add] at H
  have HD:=Lib.hid H
  clear H
  have d1:decide ((v:Int) ≤ (v:Int))=true:=decide_eq_true (by omega)
  go_enter Tryz.func247,Tryz.ntmps247
  go_wp2_with fail
  refine (HD.out _).mono ?_
  rintro e w' ⟨rfl,rfl⟩
  go_wp2
  go_ret
  exact ⟨rfl,0,rfl⟩
 ·have d1:=Nat.div_add_mod (top * 4294967296+next) v
  have d2:=Nat.mod_lt (top * 4294967296+next) (show 0 < v by omega)
  have d3:(top * 4294967296+next) / v < 4294967296:=by rw [Nat.div_lt_iff_lt_mul (by omega)]; omega
  obtain ⟨N,hN3,hN0,hN1,hN2,g1,g2⟩:=digit_N (X:=top * 4294967296+next) (q:=(top * 4294967296+next) / v) (rest:=(top * 4294967296+next) % v) (third:=third) (v:=v) (w:=w0) (by rw [Nat.mul_comm]; exact d1) (by omega) hv hw
  have g3:=digit_start (x:=top * 4294967296+next) (v:=v) (w:=w0) (third:=third) (by omega) ht
  refine ⟨(top * 4294967296+next) / v - N,by omega,g1,.inr ?_,fun w=>?_⟩
  ·rcases g2 with rfl | g2
   ·exact g3
   ·exact g2
  have H:=fun w=>digit_any ((top * 4294967296+next) / v) ((top * 4294967296+next) % v) third v w0 N w (Nat.le_of_lt_succ d3) (Nat.lt_trans d2 (by omega)) ht hv2 hw hN0 hN1 hN2
  rw [Int.natCast_ediv,Int.natCast_emod] at H
  have HD:=Lib.hid H
  clear H g1 g2 g3 hN0 hN1 hN2 d1 d2 d3
  have d1:decide ((v:Int) ≤ (top:Int))=false:=decide_eq_false (by omega)
  have hsh:=shl32_nat top (by omega)
  have hor:=or32_nat top next (by omega) hn
  rw [show ((top * 4294967296:Nat):Int)=(top:Int) * 4294967296 by omega] at hor hsh
  have hx0:((top * 4294967296+next:Nat):Int) < 18446744073709551616:=by omega
  rw [show ((top * 4294967296+next:Nat):Int)=(top:Int) * 4294967296+(next:Int) by omega] at hor hx0
  have hv0:((v:Int) == 0)=false:=by simp; omega
  go_enter Tryz.func247,Tryz.ntmps247
  go_wp2
  go_quiet (exact Calls.quiet_of_same ((HD.out _).mono fun _ _ ⟨h1,h2⟩=>⟨h1,h2.symm⟩))
  go_wp2
  go_ret
  exact ⟨rfl,_,rfl⟩
theorem Fp.Ext.trans' {w0 w w':World} {g n:Nat} (h:Ext w0 w) (k:Only g (w.drewN n) w') (hg:w0.heap.size ≤ g):Ext w0 w' :=
 (below_drewN h n).trans (k.below.mono hg)
theorem Fp.Ext.only {w0 w w':World} {g:Nat} (h:Ext w0 w) (k:Only g w w') (hg:w0.heap.size ≤ g):Ext w0 w' :=
 Below.trans h (k.below.mono hg)
theorem Sl.far2 {w:World} {g cap:Nat} {L:List Nat} (h:Sl w (some ⟨g,0,none⟩) cap L) {b:Nat} (hb:g ≠ b) (i:Nat) (v:Value):Sl (w.setCell ⟨b,i,none⟩ v) (some ⟨g,0,none⟩) cap L :=
 h.keep (fun b' o _ e=>by cases e; exact hb) (Only.set0 (Only.refl b w) i v)
theorem Sl.drewN {w:World} {A:Option Addr} {c:Nat} {L:List Nat} (h:Sl w A c L) (n:Nat):Sl (w.drewN n) A c L:=h.below (below_drewN (Below.refl _ _) n)
theorem quiet_more {P:Program} {f:FuncId} {args:Array Value} {w:World} {n:Nat} {v:Value}
  (h:Calls P f args (w.drewN n) fun e w'=>e = .returned v ∧ ∃ m,w'=(w.drewN n).drewN m):Calls P f args (w.drewN n) fun e w''=>e = .returned v ∧ ∃ m,w''=w.drewN m :=
 h.mono fun _ _ ⟨he,m,hm⟩=>⟨he,n+m,by rw [hm,World.drewN_drewN]⟩
set_option maxRecDepth 100000 in
set_option maxHeartbeats 8000000 in
theorem divide_long (A B:Option Addr) (c d:Nat) (L M:List Nat) (w:World) (lx ly s:Nat) (hlx:lx=(trimL L).length) (hly:ly=(trimL M).length) (hsd:s=32 - bitsN ((trimL M).getD (ly - 1) 0)) (hs:Sl w A c L) (hr:Sl w B d M) (hTb:Tb w) (h1:L.length ≤ 100000) (h2:M.length ≤ 100000) (hge:val M ≤ val L) (hlen:2 ≤ ly) :
  Calls Tryz.prog 226 #[.slice A L.length c,.slice B M.length d] w (RetLL w (digs (val L / val M) (lx+1 - ly)) (shrL (s % 32) ((limbs (val L % val M * 2 ^ s)).drop (s / 32)))):=by
 have H1:=natTrim_any A c L w hs
 have H2:=natTrim_any B d M w hr
 have hLt:=tlen_le L
 unfold tlen at hLt
 have hMt:=tlen_le M
 unfold tlen at hMt
 have eL:=val_trimL L
 have eM:=val_trimL M
 rw [← eL,← eM] at hge ⊢
 have hs2:=hs.trim
 have hr2:=hr.trim
 have hMtrim:=trim_trimL M
 have hXt:trimL (trimL L)=trimL L:=trim_trimL L
 have hYt:trimL (trimL M)=trimL M:=trim_trimL M
 have H3:=natCmp_any A B c d (trimL L) (trimL M) w hs2 hr2 (by omega) (by omega)
 generalize trimL L=X at *
 generalize trimL M=Y at *
 have hc0:0 ≤ cmpN (val X) (val Y):=by unfold cmpN; split <;> (try split) <;> omega
 generalize cmpN (val X) (val Y)=cm at *
 have hYX:Y.length ≤ X.length:=by
  apply Classical.byContradiction
  intro h
  have:=val_lt_of_length hs2.ok hMtrim (by omega:X.length < Y.length)
  omega
 clear eL eM hs hr hge
 rw [← hlx] at hYX H1 H3 hLt
 rw [← hly] at hYX H2 H3 hMt
 have hx0:Y.getD (ly - 1) 0 ≠ 0:=by
  have:=(trim_iff Y).1 hMtrim (by omega)
  have e:Y.getD (ly - 1) 0=Y[Y.length - 1]'(by omega):=by
   rw [List.getD_eq_getElem?_getD,show ly - 1=Y.length - 1 by omega]; simp [show Y.length - 1 < Y.length by omega]
  rw [e]; exact this
 have HN:=norm_div hr2.ok (l:=ly - 1) (by omega) rfl hx0 hsd
 rw [show ly - 1+1=ly by omega] at HN
 obtain ⟨x,hx⟩:∃ x,x=Y.getD (ly - 1) 0:=⟨_,rfl⟩
 have hx32:x < 4294967296:=by rw [hx]; exact hr2.ok.getD _
 have H4:=Lib.hid (fun w=>lz32_any x hx32 w)
 rw [← hx] at hsd
 rw [← hsd] at H4
 obtain ⟨ab,ao,rfl,hab,c1⟩:=hr2.at_ (i:=ly - 1) (by omega)
 have hxe:Y[ly - 1]'(by omega)=x:=by rw [hx]; simp [List.getD_eq_getElem?_getD,show ly - 1 < Y.length by omega]
 rw [hxe] at c1
 have hs32:s < 32:=HN.1
 have HNh:=Lib.hid HN
 have H5:=fun w (h:Sl w A c X)=>natshl_own A c X s w h (by omega) (by omega)
 have H6:=fun w (h:Sl w (some ⟨ab,ao,none⟩) d Y)=>natshl_own (some ⟨ab,ao,none⟩) d Y s w h (by omega) (by omega)
 rw [hXt,← hlx,show s / 32+lx+1=lx+1 by omega] at H5
 rw [hYt,← hly,show s / 32+ly+1=ly+1 by omega] at H6
 have H5h:=Lib.hid H5
 have H6h:=Lib.hid H6
 have HX:=Lib.hid hlx
 have HY:=Lib.hid hly
 have HS2:=Lib.hid hs2
 have HR2:=Lib.hid hr2
 have H1h:=Lib.hid H1
 have H2h:=Lib.hid H2
 have H3h:=Lib.hid H3
 clear H1 H2 H3 H5 H6 hXt hYt HN hlx hly hx hxe hsd hx0 hs2 hr2 hMtrim
 have hw1:(ly:Int) - 1=((ly - 1:Nat):Int):=by omega
 have d0:decide (cm < 0)=false:=decide_eq_false (by omega)
 have d2:decide ((lx:Int)+1 ≤ (lx:Int))=false:=decide_eq_false (by omega)
 have hmk:=make32 (lx+1 - ly) (by omega)
 rw [show ((lx+1 - ly:Nat):Int)=(lx:Int)+1 - (ly:Int) by omega] at hmk
 have d1:((ly:Int) == 1)=false:=by simp; omega
 go_enter Tryz.func226,Tryz.ntmps226
 go_wp2_with fail
 refine H1h.out.mono ?_; rintro e w' ⟨rfl,rfl⟩
 go_wp2_with fail
 refine H2h.out.mono ?_; rintro e w' ⟨rfl,rfl⟩
 go_wp2_with fail
 refine H3h.out.mono ?_; rintro e w1 ⟨rfl,hb1⟩
 have c2:=c1
 rw [← (hb1.cell (p:=⟨ab,ao+(ly - 1),none⟩) hab)] at c2
 go_wp2_with fail
 refine (H4.out _).mono ?_; rintro e w2 ⟨rfl,rfl⟩
 go_wp2_with fail
 refine (H5h.out _ (HS2.out.below hb1)).mono ?_
 rintro e w2 ⟨T,v1,he,hTv,hTl,how,hb2⟩
 obtain ⟨g,cap,R,hv1,hg1,hg2,hRx,hcap,hcapm⟩:=how.rx (by intro h; rw [h] at hTl; simp at hTl)
 have hTok:=Lib.hid how.ok
 rw [hTl] at hv1 hcap
 subst hv1
 subst he
 clear how
 have HTv:=Lib.hid hTv
 have HTl:=Lib.hid hTl
 clear hTv hTl
 go_wp2_with fail
 refine (H6h.out _ ((HR2.out.below hb1).below hb2)).mono ?_
 rintro e w3 ⟨S,v2,he,hSv,hSl,how,hb3⟩
 have hRx3:=hRx.same (hb3.block g hg2)
 obtain ⟨g',cap',R',hv2,hg1',hg2',_,hcap',_⟩:=how.rx (by intro h; rw [h] at hSl; simp at hSl)
 obtain ⟨_,_,e2,hSs⟩:=how.sl
 rw [hv2] at e2
 cases e2
 have hgg:g' ≠ g:=by omega
 have H7:=natTrim_any (some ⟨g',0,none⟩) cap' S w3 hSs
 have hV:trimL S=limbs (val Y * 2 ^ s):=by rw [trimL_eq_limbs how.ok,hSv]
 have hSV:=hSs.trim
 rw [hV] at H7 hSV
 rw [HNh.out.2.1,hSl] at H7
 rw [hSl] at hv2
 have hb13:Ext w w3:=(hb1.trans hb2).trans hb3
 subst hv2
 subst he
 have H7h:=Lib.hid H7
 clear how hSs hV hSv hSl H7 hRx hb2 hb3
 go_wp2_with fail
 refine H7h.out.mono ?_; rintro e w4 ⟨rfl,rfl⟩
 go_wp2
 go_loop [9] (fun u=>u = .slice (some ⟨g,0,none⟩) (lx+1) cap) (fun _=>0)
 case atStart=>rfl
 case round =>
  subst hrel
  go_wp2
  have hR0:=Rw.made w3 (lx+1 - ly)
  have hnV:=HNh.out.2.1
  have hN1:=HNh.out.2.2.1
  have hN2:=HNh.out.2.2.2.1
  have hVok:=ok_limbs (val Y * 2 ^ s)
  have hVv:=val_limbs (val Y * 2 ^ s)
  rw [← hVv] at hN2
  generalize limbs (val Y * 2 ^ s)=V at *
  have hD0:=DInv.start (A:=val X) (s:=s) (V:=V) (O:=T) hTok.out HTv.out (la:=lx) (by rw [HX.out]; exact val_lt HS2.out.ok) HTl.out hs32 (by omega) (by omega) (by rw [hnV]; exact hN2)
  have hSV1:=hSV.alloc (.cells (u32s (List.replicate (lx+1 - ly) 0)).toArray 50)
  have hRx4:Rx (w3.alloc (.cells (u32s (List.replicate (lx+1 - ly) 0)).toArray 50)) g T R:=hRx3.same ((Ext.alloc w3 _).block g (by have:=hRx3.lt; omega))
  rw [hnV] at hD0
  have HD0:=Lib.hid hD0
  have HR0:=Lib.hid hR0
  have HRx:=Lib.hid hRx4
  have HSV:=Lib.hid hSV1
  have HE0:=Lib.hid (hb13.trans (Ext.alloc w3 (.cells (u32s (List.replicate (lx+1 - ly) 0)).toArray 50)))
  have HnV:=Lib.hid hnV
  have HVok:=Lib.hid hVok
  have HVv:=Lib.hid hVv
  have HN1:=Lib.hid hN1
  have hgq:g < w3.heap.size:=hRx3.lt
  have hgb:w.heap.size ≤ g:=Nat.le_trans hb1.size hg1
  clear hD0 hR0 hRx4 hSV1 hSV hRx3 hnV hVok hVv hN1 hN2 HTv HTl hTok H1h H2h H3h H4 H5h H6h H7h c1 c2 d2 hmk hb1 hg1 hg1' hg2 HNh HS2 HR2
  go_loopw [13] (fun j wr=>∃ (k:Nat) (O Q:List Nat),k ≤ lx+1 - ly ∧ j = .int .i64 ((k:Int) - 1) ∧ DInv (val X * 2 ^ s) V k (lx+1) O Q ∧ Rx wr g O R ∧ Rw wr w3.heap.size Q ∧ Sl wr (some ⟨g',0,none⟩) cap' V ∧ Ext w wr) (fun j _=>(intOf j+1).toNat)
  case atStart =>
   exact ⟨lx+1 - ly,T,_,Nat.le_refl _,by go_num,HD0.out,HRx.out,HR0.out,HSV.out,HE0.out⟩
  case round =>
   clear HD0 HRx HR0 HSV HE0
   obtain ⟨k,O,Q,hk,rfl,hD,hRO,hRQ,hSV,hbw⟩:=hrel
   have HE:=Lib.hid hbw
   have HSV:=Lib.hid hSV
   have HRQ:=Lib.hid hRQ
   have HRO:=Lib.hid hRO
   have HD:=Lib.hid hD
   clear hD hbw
   rcases k with _ | t
   ·have hO:=HD.out.lenO
    have hslO:=HRO.out.sl HD.out.okO (cap:=cap) (by omega) hcapm ly
    have HZ:=natshr_any (some ⟨g,0,none⟩) cap (O.take ly) s wr hslO (by rw [List.length_take]; omega) (by omega)
    have e1:(O.take ly).length=ly:=by rw [List.length_take]; omega
    rw [e1] at HZ
    have HZh:=Lib.hid HZ
    have HQs:=Lib.hid (HRQ.out.sl HD.out.okQ (by rw [HD.out.lenQ]; omega))
    have hV0:0 < val V:=by
     have:=HD.out.lt
     rcases Nat.eq_zero_or_pos (val V) with h | h
     ·rw [h,Nat.zero_mul] at this; omega
     ·exact h
    have hY0:0 < val Y:=by
     rw [HVv.out] at hV0
     exact Nat.pos_of_mul_pos_right hV0
    have hend:=div_end (a:=val X) (b:=val Y) (s:=s) (q:=val Q) (r:=val O) hY0 (by rw [← HVv.out]; exact HD.out.eq) (by rw [← HVv.out]; have:=HD.out.lt; rw [Nat.pow_zero,Nat.mul_one] at this; exact this)
    have hlow:val (O.take ly)=val O:=by
     rw [val_take_mod HD.out.okO,Nat.mod_eq_of_lt]
     have:=HD.out.lt
     rw [Nat.pow_zero,Nat.mul_one] at this
     refine Nat.lt_trans this ?_
     have h:=val_lt HVok.out
     rw [HnV.out] at h
     exact h
    have hO2:trimL (O.take ly)=limbs (val X % val Y * 2 ^ s):=by rw [trimL_eq_limbs (HD.out.okO.take ly),hlow,hend.2]
    rw [hO2] at HZh
    have hQl:=HD.out.lenQ
    rw [HnV.out] at hQl
    have hQd:digs (val X / val Y) (lx+1 - ly)=Q:=digs_eq HD.out.okQ hQl hend.1
    have HQd:=Lib.hid hQd
    generalize shrL (s % 32) ((limbs (val X % val Y * 2 ^ s)).drop (s / 32))=Z at *
    have HQl:=Lib.hid hQl
    clear hend hlow hO2 hQd hslO HZ e1 hQl hO hV0 hY0 hSV hRO hRQ
    go_wp2_with fail
    refine HZh.out.mono ?_
    rintro e w5 ⟨AZ,cZ,rfl,hZs,hZb⟩
    go_wp2
    go_ret2
    have hq:=HQs.out.below hZb
    rw [HQl.out] at hq
    exact ⟨_,_,_,_,by rw [digs_len]; rfl,by rw [HQd.out]; exact hq,hZs,HE.out.trans hZb⟩
   ·have hO:=HD.out.lenO
    have c4:=hRO.cell (i:=t+ly) (by omega)
    have c5:=hRO.cell (i:=t+ly - 1) (by omega)
    have c6:=hRO.cell (i:=t+ly - 2) (by omega)
    obtain ⟨_,_,e1,_,c7⟩:=hSV.at_ (i:=ly - 1) (by rw [HnV.out]; omega)
    obtain ⟨_,_,e2,_,c8⟩:=hSV.at_ (i:=ly - 2) (by rw [HnV.out]; omega)
    cases e1
    cases e2
    rw [Nat.zero_add] at c7 c8
    have v7:V[ly - 1]'(by rw [HnV.out]; omega)=V.getD (ly - 1) 0:=by simp [List.getD_eq_getElem?_getD,HnV.out,show ly - 1 < ly by omega]
    have v8:V[ly - 2]'(by rw [HnV.out]; omega)=V.getD (ly - 2) 0:=by simp [List.getD_eq_getElem?_getD,HnV.out,show ly - 2 < ly by omega]
    rw [v7] at c7
    rw [v8] at c8
    clear v7 v8
    have hok:=HD.out.okO
    have o4:=hok.getD (t+ly)
    have o5:=hok.getD (t+ly - 1)
    have o6:=hok.getD (t+ly - 2)
    have o7:=HVok.out.getD (ly - 1)
    have o8:=HVok.out.getD (ly - 2)
    have hG:=HD.out.guess HVok.out (by rw [HnV.out]; omega) (by rw [HnV.out]; exact HN1.out)
    rw [HnV.out] at hG
    obtain ⟨gd,g1,g2,g3,g4⟩:=guess_any (O.getD (t+ly) 0) (O.getD (t+ly - 1) 0) (O.getD (t+ly - 2) 0) (V.getD (ly - 1) 0) (V.getD (ly - 2) 0) HN1.out o7 o5 o6 o8 hG.1
    have HGq:=Lib.hid (hG.2 gd g1 g2 g3)
    have HG:=Lib.hid g4
    clear hG g2 g3 g4 hok hSV hRO hRQ
    generalize O.getD (t+ly) 0=x4 at *
    generalize O.getD (t+ly - 1) 0=x5 at *
    generalize O.getD (t+ly - 2) 0=x6 at *
    have HV1:=Lib.hid (rfl:V.getD (ly - 1) 0=V.getD (ly - 1) 0)
    generalize hx7:V.getD (ly - 1) 0=x7 at *
    generalize V.getD (ly - 2) 0=x8 at *
    clear hx7 HV1
    have i1:(((t+1:Nat):Int) - 1)=(t:Int):=by omega
    have i2:((t:Int)+(ly:Int)).toNat=t+ly:=by omega
    have i3:((t:Int)+(ly:Int) - 1).toNat=t+ly - 1:=by omega
    have i4:((t:Int)+(ly:Int) - 2).toNat=t+ly - 2:=by omega
    have i6:((ly:Int) - 2)=((ly - 2:Nat):Int):=by omega
    have p1:IntKind.i64.wrap ((t:Int)+(ly:Int))=(t:Int)+(ly:Int):=i64_in _ (by omega) (by omega)
    have p2:IntKind.i64.wrap ((t:Int)+(ly:Int) - 1)=(t:Int)+(ly:Int) - 1:=i64_in _ (by omega) (by omega)
    have p3:IntKind.i64.wrap ((t:Int)+(ly:Int) - 2)=(t:Int)+(ly:Int) - 2:=i64_in _ (by omega) (by omega)
    have p4:IntKind.i64.wrap ((ly - 1:Nat):Int)=((ly - 1:Nat):Int):=i64_in _ (by omega) (by omega)
    have p5:IntKind.i64.wrap ((ly - 2:Nat):Int)=((ly - 2:Nat):Int):=i64_in _ (by omega) (by omega)
    have j6:((ly - 1:Nat):Int) < (ly:Int):=by omega
    have j7:((ly - 2:Nat):Int) < (ly:Int):=by omega
    have j0:0 ≤ (t:Int)+(ly:Int):=by omega
    have j1:0 ≤ (t:Int)+(ly:Int) - 1:=by omega
    have j2:0 ≤ (t:Int)+(ly:Int) - 2:=by omega
    have j3:(t:Int)+(ly:Int) < (lx:Int)+1:=by omega
    have j4:(t:Int)+(ly:Int) - 1 < (lx:Int)+1:=by omega
    have j5:(t:Int)+(ly:Int) - 2 < (lx:Int)+1:=by omega
    rw [i1]
    clear i1
    go_wp2
    go_quiet (exact quiet_more (HG.out _))
    go_wp2_with fail
    have HTk:=take_any g t (cap - t) cap' gd O V R (some ⟨g',0,none⟩) (wr.drewN nq) (HRO.out.same rfl) (HSV.out.drewN nq) (fun b' o _ e=>by cases e; exact hgg) HD.out.okO (by rw [HnV.out]; omega) g1 (by omega)
    rw [HnV.out,show ly+1=t+ly+1 - t by omega] at HTk
    refine HTk.mono ?_
    rintro e w5 ⟨O',δ,rfl,hRO',hl',hok',hδ,hval,hsame,hon⟩
    have HRO':=Lib.hid hRO'
    have HON:=Lib.hid hon
    have HSV5:=Lib.hid ((HSV.out.drewN nq).keep (fun b' o _ e=>by cases e; exact hgg) hon)
    have HRQ5:=Lib.hid (show Rw w5 w3.heap.size Q from (hon.keep _ (by omega)).trans HRQ.out)
    have HE5:=Lib.hid (show Ext w w5 from Fp.Ext.trans' HE.out hon hgb)
    have hPt:=pw t
    have hVp:0 < val V:=by
     have:=HD.out.lt
     rcases Nat.eq_zero_or_pos (val V) with h | h
     ·rw [h,Nat.zero_mul] at this; omega
     ·exact h
    have wg:IntKind.u32.wrap (gd:Int)=(gd:Int):=by rw [IntKind.wrap_u32]; omega
    have htm:(t:Int) < (lx:Int)+1 - (ly:Int):=by omega
    have htQ:t < Q.length:=by rw [HD.out.lenQ,HnV.out]; omega
    have hQg:=List.getElem?_eq_getElem htQ
    have cq:=HRQ5.out.cell hQg
    have fq:=HRQ5.out.frozen t
    generalize Q[t]=q0 at *
    have HQG:=Lib.hid hQg
    clear hQg htQ c4 c5 c6 c7 c8 HRO HRQ HSV HE HTk hRO' hon
    rcases Nat.lt_or_ge δ 1 with hδ0 | hδ1
    ·obtain rfl:δ=0:=by omega
     have hDR:=digit_right hPt hVp (by rw [hval,Nat.mul_zero,Nat.add_zero]) HGq.out.1
     have HDS:=Lib.hid (HD.out.step (x:=gd) (by rw [HnV.out]; omega) (by rw [hl',hO]) hok' (by omega) (by rw [hval,Nat.mul_zero,Nat.add_zero]) hDR.2)
     clear hDR hval hsame hok' hl' HD HGq
     have HRQ6:=Lib.hid (fun x:Nat=>HRQ5.out.set t x)
     have HRO6:=Lib.hid (fun v:Value=>HRO'.out.same (w':=w5.setCell ⟨w3.heap.size,t,none⟩ v) (by simp only [World.setCell,Array.getElem?_modify]; rw [if_neg (by omega)]))
     have HSV6:=Lib.hid (fun v:Value=>HSV5.out.far2 (b:=w3.heap.size) (by omega) t v)
     have HE6:=Lib.hid (fun v:Value=>HE5.out.setCell (p:=⟨w3.heap.size,t,none⟩) (by show w.heap.size ≤ w3.heap.size; omega) v)
     go_wp2
     go_roundw
     case rel=>exact ⟨t,O',Q.set t gd,by omega,by go_num,HDS.out,HRO6.out _,HRQ6.out _,HSV6.out _,HE6.out _⟩
     case measure=>simp [intOf]
    ·obtain rfl:δ=1:=by omega
     have hov:=HD.out.over (x:=gd) HVok.out hok' (by rw [HnV.out]; exact hval) (by rw [HnV.out]; exact hsame)
     have hgd:=hov.2
     have HB:=Lib.hid (fun (κ:Nat) (O2:List Nat)=>HD.out.back (x:=gd) (κ:=κ) (O2:=O2) HVok.out (by rw [HnV.out]; omega) hok' (by rw [HnV.out]; exact hval) (by rw [HnV.out]; exact hsame) g1 HGq.out.2 hVp)
     have HP0:=Lib.hid (Put.start hok' t V)
     have hlO':O'.length=lx+1:=by rw [hl',hO]
     have HL':=Lib.hid hlO'
     have hxm:IntKind.u64.wrap ((gd:Int) - 1)=((gd - 1:Nat):Int):=by rw [IntKind.wrap_u64]; omega
     have wg1:IntKind.u32.wrap ((gd - 1:Nat):Int)=((gd - 1:Nat):Int):=by rw [IntKind.wrap_u32]; omega
     clear hov hval hsame hok' hl' hlO' HD HGq wg cq fq
     go_wp2
     go_loopw [15,125] (fun cy i wr2=>∃ (k c':Nat) (O2:List Nat),k ≤ ly ∧ i = .int .i64 k ∧ cy = .int .u32 c' ∧ Put O' t V k O2 c' ∧ Rx wr2 g O2 R ∧ Only g w5 wr2) (fun _ i _=>ly - (intOf i).toNat)
     case atStart=>exact ⟨0,0,O',Nat.zero_le _,rfl,rfl,HP0.out,HRO'.out,Only.refl _ _⟩
     case round =>
      clear HP0 HRO'
      obtain ⟨k,c',O2,hk2,rfl,rfl,hP,hR2,ho2⟩:=hrel
      have HP:=Lib.hid hP
      have hc1:=hP.c_le
      have hl2:O2.length=lx+1:=by rw [hP.len]; exact HL'.out
      have HL2:=Lib.hid hl2
      clear hP
      by_cases hlt:k < ly
      ·have hkV:k < V.length:=by rw [HnV.out]; exact hlt
       obtain ⟨_,_,e1,_,c1⟩:=(HSV5.out.keep (fun b' o _ e=>by cases e; exact hgg) ho2).at_ hkV
       cases e1
       rw [Nat.zero_add] at c1
       have v7:V[k]=V.getD k 0:=by simp [List.getD_eq_getElem?_getD,hkV]
       rw [v7] at c1
       have hkO:t+k < O2.length:=by omega
       have c2:=hR2.cell hkO
       have c3:=hR2.frozen (t+k)
       have hy32:V.getD k 0 < 4294967296:=HVok.out.getD k
       have hu32:O2.getD (t+k) 0 < 4294967296:=HP.out.ok.getD _
       have HST:=Lib.hid (HP.out.step HVok.out hkV (by rw [HL'.out,HnV.out]; omega))
       have HRS:=Lib.hid (fun x:Nat=>hR2.set hkO x)
       have HOS:=Lib.hid (fun (v:Value)=>ho2.set0 (t+k) v)
       have HA:=Lib.hid (fun w=>add32_any (O2.getD (t+k) 0) (V.getD k 0) c' w hu32 hy32 hc1)
       clear hR2 ho2 HP v7 hkV hkO hl2 HL2
       generalize O2.getD (t+k) 0=u at *
       generalize V.getD k 0=y at *
       have hi1:((t:Int)+(k:Int)).toNat=t+k:=by omega
       have hi2:0 ≤ (t:Int)+(k:Int):=by omega
       have hi3:(t:Int)+(k:Int) < (lx:Int)+1:=by omega
       go_wp2_with fail
       refine (HA.out _).mono ?_
       rintro e w6 ⟨rfl,rfl⟩
       go_wp2
       go_roundw
       case rel =>
        exact ⟨k+1,(u+y+c') / 4294967296,O2.set (t+k) ((u+y+c') % 4294967296),by omega,by go_num,rfl,HST.out,HRS.out _,HOS.out _⟩
       case measure=>simp [intOf]; omega
      ·obtain rfl:k=ly:=by omega
       have hPl:=(show Put O' t V V.length O2 c' by rw [HnV.out]; exact HP.out).last (by rw [HL'.out,HnV.out]; omega)
       rw [HnV.out] at hPl
       obtain ⟨q1,q2,⟨κ,q3,q4⟩,q5⟩:=hPl
       have hkO:t+k < O2.length:=by omega
       have c2:=hR2.cell hkO
       have c3:=hR2.frozen (t+k)
       have hu32:O2.getD (t+k) 0 < 4294967296:=HP.out.ok.getD _
       have HDS:=Lib.hid (HB.out κ _ (by rw [q1]; exact HL'.out) q2 q3 (by rw [HnV.out]; exact q4) (by rw [HnV.out]; exact q5))
       have HRS:=Lib.hid (fun x:Nat=>hR2.set hkO x)
       have HOS:=Lib.hid (fun (v:Value)=>ho2.set0 (t+k) v)
       have hRQ7:∀ v:Value,Rw (wr.setCell ⟨g,t+k,none⟩ v) w3.heap.size Q:=fun v=>((HOS.out v).keep _ (by omega)).trans HRQ5.out
       have hcq:∀ v:Value,(wr.setCell ⟨g,t+k,none⟩ v).cell? ⟨w3.heap.size,t,none⟩=some (.int .u32 (q0:Int)):=fun v=>(hRQ7 v).cell HQG.out
       have hfq:∀ v:Value,(wr.setCell ⟨g,t+k,none⟩ v).frozen? ⟨w3.heap.size,t,none⟩=false:=fun v=>(hRQ7 v).frozen t
       have HRQ8:=Lib.hid (fun (v:Value) (x:Nat)=>(hRQ7 v).set t x)
       have HRO8:=Lib.hid (fun (x:Nat) (v:Value)=>(HRS.out x).same (w':=(wr.setCell ⟨g,t+k,none⟩ (.int .u32 (x:Int))).setCell ⟨w3.heap.size,t,none⟩ v) (by simp only [World.setCell,Array.getElem?_modify]; rw [if_neg (by omega)]))
       have HSV8:=Lib.hid (fun (v v2:Value)=>(HSV5.out.keep (fun b' o _ e=>by cases e; exact hgg) (HOS.out v)).far2 (b:=w3.heap.size) (by omega) t v2)
       have HE8:=Lib.hid (fun (v v2:Value)=>(Fp.Ext.only HE5.out (HOS.out v) hgb).setCell (p:=⟨w3.heap.size,t,none⟩) (by show w.heap.size ≤ w3.heap.size; omega) v2)
       clear hRQ7 HRS HOS hR2 ho2 HP q1 q2 q3 q4 q5 hkO hl2 HL2
       generalize O2.getD (t+k) 0=u at *
       have hi1:((t:Int)+(k:Int)).toNat=t+k:=by omega
       have hi2:0 ≤ (t:Int)+(k:Int):=by omega
       have hi3:(t:Int)+(k:Int) < (lx:Int)+1:=by omega
       have hi4:IntKind.u32.wrap ((u:Int)+(c':Int))=(((u+c') % 4294967296:Nat):Int):=by rw [IntKind.wrap_u32]; omega
       generalize (u+c') % 4294967296=uu at *
       go_wp2
       go_roundw
       case rel=>exact ⟨t,O2.set (t+k) uu,Q.set t (gd - 1),by omega,by go_num,HDS.out,HRO8.out _ _,HRQ8.out _ _,HSV8.out _ _,HE8.out _ _⟩
       case measure=>simp [intOf]
open Go.RowKit Fp Pu
theorem slNil_le:E.le (.v (.slice none 0 0)) (slP []):=fun bs br w v h=>by
 obtain rfl:=Rep.v_inv h
 exact .sl false 0 1 _ none 0 (fun _ _=>undef) (Nat.le_refl _) (by decide) (fun _=>rfl) (fun i j hi=>absurd hi (Nat.not_lt_zero i)) (fun i j hi=>absurd hi (Nat.not_lt_zero i)) (fun i j hi=>absurd hi (Nat.not_lt_zero i)) (fun i j hi=>absurd hi (Nat.not_lt_zero i))
theorem slOne_le {x:Nat}:E.le (.sl false 1 1 fun i_ j_=>[(.v (.int .u32 (x:Int)))].getD (i_ * 1+j_) (.v (.bool false))) (slP [x]):=.sl fun i j hi hj=>by
 obtain rfl:i=0:=by omega
 obtain rfl:j=0:=by omega
 exact ⟨.refl _,rfl⟩
theorem clip_pc (L:List Nat) (hk:Ok32 L):PCt 101 [slP L] (slP L):=pcS1 hk Tryz.call101 (fun A c w h _=>clip_any A c L w h) fun A c B w e w' h hB ⟨h1,h2⟩=>by
 subst h2
 exact ⟨_,h1,Below.refl _ _,slP_rep hB (Below.refl _ _) ⟨Nat.le_refl _,h.len,h.ok,fun hn=>by have:=h.none_ hn; have:=h.cap; omega,h.cell⟩⟩
theorem clone_pc (L:List Nat) (hk:Ok32 L) (hl:L.length ≤ 1000000):PCt 102 [slP L] (slP L):=pcS1 hk Tryz.call102 (fun A c w h _=>clone_any A c L w h (by omega)) fun A c B w e w' h hB r=>rl B w e w' hB r
theorem natDivide_less (L M:List Nat) (hL:Ok32 L) (hM:Ok32 M) (h1:L.length ≤ 100000) (h2:M.length ≤ 100000) (hc:cmpN (val (trimL L)) (val (trimL M)) < 0):PCt 226 [(slP L),(slP M)] (.tup [slP [],slP (trimL L)]):=by
 have ta:=tlen_le L
 have tb:=tlen_le M
 unfold tlen at ta tb
 exact tr true Tryz.call226 Tryz.func226 (chain [.c (natTrim_pc _ ‹_›:PCt 128 [(slP L)] _),.c (natTrim_pc _ ‹_›:PCt 128 [(slP M)] _),
  .c (natCmp_pc _ _ (Ok32.trimL ‹_›) (Ok32.trimL ‹_›) (by omega) (by omega):PCt 120 [(slP (trimL L)),(slP (trimL M))] _),tB 25 (decide_eq_true hc),
  .c (clone_pc _ (Ok32.trimL ‹_›) (by omega):PCt 102 [(slP (trimL L))] _)] <| rR (.tup [slP [],slP (trimL L)]) (.tup (.cons slNil_le (.cons (.refl _) .nil)):E.le (.tup [(.v (.slice none 0 0)),(slP (trimL L))]) (.tup [slP [],slP (trimL L)]))) (by kernel_rfl)
theorem natDivide_one (L M:List Nat) (hL:Ok32 L) (hM:Ok32 M) (h1:L.length ≤ 100000) (h2:M.length ≤ 100000) (hc:¬ cmpN (val (trimL L)) (val (trimL M)) < 0) (hl:(trimL M).length=1) (hd1:0 < (trimL M).getD 0 0) (hd2:(trimL M).getD 0 0 < 4294967296):PCt 226 [(slP L),(slP M)] (.tup [slP (digs (val (trimL L) / (trimL M).getD 0 0) (trimL L).length),slP [val (trimL L) % (trimL M).getD 0 0]]):=by
 have ta:=tlen_le L
 have tb:=tlen_le M
 unfold tlen at ta tb
 exact tr true Tryz.call226 Tryz.func226 (chain [.c (natTrim_pc _ ‹_›:PCt 128 [(slP L)] _),.c (natTrim_pc _ ‹_›:PCt 128 [(slP M)] _),
  .c (natCmp_pc _ _ (Ok32.trimL ‹_›) (Ok32.trimL ‹_›) (by omega) (by omega):PCt 120 [(slP (trimL L)),(slP (trimL M))] _),tB 25 (decide_eq_false hc),
  tB 30 (by rw [hl]; rfl:((((trimL M).length:Nat):Int) == 1)=true),iX (0) ((trimL M).length) (by omega),.c (natShort_pc (trimL L) ((trimL M).getD 0 0) (Ok32.trimL ‹_›) (by omega) hd1 hd2)] <| rR (.tup [slP (digs (val (trimL L) / (trimL M).getD 0 0) (trimL L).length),slP [val (trimL L) % (trimL M).getD 0 0]]) (.tup (.cons (.refl _) (.cons slOne_le .nil)):E.le (.tup [(slP (digs (val (trimL L) / ((trimL M).getD 0 0)) (trimL L).length)),(.sl false 1 1 fun i_ j_=>[(.v (.int .u32 (((val (trimL L) % ((trimL M).getD 0 0)):Nat):Int)))].getD (i_ * 1+j_) (.v (.bool false)))]) (.tup [slP (digs (val (trimL L) / (trimL M).getD 0 0) (trimL L).length),slP [val (trimL L) % (trimL M).getD 0 0]]))) (by kernel_rfl)
theorem natDivide_pc (L M:List Nat) (hL:Ok32 L) (hM:Ok32 M) (h1:L.length ≤ 100000) (h2:M.length ≤ 100000) (h0:val M ≠ 0):∃ T S:List Nat,PCt 226 [slP L,slP M] (.tup [slP T,slP S]) ∧ val T=val L / val M ∧ val S=val L % val M ∧ Ok32 T ∧ Ok32 S ∧ T.length ≤ L.length ∧ S.length ≤ L.length+1:=by
 have ta:=tlen_le L
 have tb:=tlen_le M
 unfold tlen at ta tb
 have e1:=val_trimL L
 have e2:=val_trimL M
 by_cases hc:cmpN (val (trimL L)) (val (trimL M)) < 0
 ·refine ⟨[],trimL L,natDivide_less L M hL hM h1 h2 hc,?_,?_,Ok32.nil,hL.trimL,Nat.zero_le _,by omega⟩
  ·rw [e1,e2] at hc
   have:val L < val M:=by unfold cmpN at hc; split at hc <;> (try split at hc) <;> omega
   rw [Nat.div_eq_of_lt this]; rfl
  ·rw [e1,e2] at hc
   have:val L < val M:=by unfold cmpN at hc; split at hc <;> (try split at hc) <;> omega
   rw [Nat.mod_eq_of_lt this,e1]
 ·have hge:val M ≤ val L:=by rw [e1,e2] at hc; unfold cmpN at hc; split at hc <;> (try split at hc) <;> omega
  have hne:trimL M ≠ []:=by intro h; rw [h] at e2; exact h0 e2.symm
  have hlen:(trimL M).length ≠ 0:=by simpa using hne
  by_cases hl:(trimL M).length=1
  ·obtain ⟨x,hx⟩:=List.length_eq_one_iff.1 hl
   have hok:=hM.trimL
   rw [hx] at hok
   have hxv:x=val M:=by rw [← e2,hx]; simp [val]
   have hg:(trimL M).getD 0 0=x:=by rw [hx]; rfl
   have:=natDivide_one L M hL hM h1 h2 hc hl (by rw [hg]; omega) (by rw [hg]; exact hok.head)
   rw [hg] at this
   refine ⟨_,_,this,?_,?_,digs_ok _ _,Ok32.cons (Nat.lt_trans (Nat.mod_lt _ (by omega)) hok.head) Ok32.nil,by rw [digs_len]; exact ta,by simp⟩
   ·rw [val_digs,Nat.mod_eq_of_lt,e1,hxv]
    exact Nat.lt_of_le_of_lt (Nat.div_le_self _ _) (val_lt hL.trimL)
   ·simp [val,e1,hxv]
  ·refine ⟨_,_,pcS2 hL hM Tryz.call226 (fun A c B d w h k hT=>divide_long A B c d L M w _ _ _ rfl rfl rfl h k hT h1 h2 hge (by omega)) (fun B w e w' hB ⟨A1,c1,B1,d1,q1,q2,q3,q4⟩=>⟨_,q1,q4,Reps.tup (.cons (slP_rep hB q4 q2) (.cons (slP_rep hB q4 q3) (.nil _ _ _)))⟩),?_,?_,digs_ok _ _,ok_shrL _ _,?_,?_⟩
   ·rw [val_digs,Nat.mod_eq_of_lt]
    rw [Nat.div_lt_iff_lt_mul (by omega)]
    have g1:=val_lt hL.trimL
    rw [e1] at g1
    refine Nat.lt_of_lt_of_le g1 ?_
    obtain ⟨l,hl'⟩:∃ l,(trimL M).length=l+1:=⟨(trimL M).length - 1,by omega⟩
    have g2:4294967296 ^ l ≤ val M:=by
     apply Classical.byContradiction
     intro q
     have q2:(limbs (val M)).length ≤ l:=limbs_length_le (by omega)
     rw [← trimL_eq_limbs hM] at q2
     omega
    have g3:=Nat.mul_le_mul_left (4294967296 ^ ((trimL L).length+1 - (trimL M).length)) g2
    rw [← Nat.pow_add] at g3
    refine Nat.le_trans ?_ g3
    exact Nat.pow_le_pow_right (by decide) (by omega)
   ·rw [val_shr_all (ok_limbs _),val_limbs,Nat.mul_div_cancel _ (Nat.pow_pos (by decide))]
   ·rw [digs_len]; omega
   ·rw [shrL_length,List.length_drop]
    have hb:32 - bitsN ((trimL M).getD ((trimL M).length - 1) 0) < 33:=by omega
    have:=limbs_mul_pow_len (ok_limbs (val L % val M)) (32 - bitsN ((trimL M).getD ((trimL M).length - 1) 0))
    rw [val_limbs] at this
    have h3:(limbs (val L % val M)).length ≤ (limbs (val L)).length:=limbs_len_mono (Nat.mod_le _ _)
    rw [← trimL_eq_limbs hL] at h3
    omega
theorem natDivMod_pc (m n:Nat) (h1:(limbs m).length ≤ 256) (h2:(limbs n).length ≤ 256) (h0:n ≠ 0):PCt 204 [slP (limbs m),slP (limbs n)] (.tup [slP (limbs (m / n)),slP (limbs (m % n)),iP 0]):=by
 obtain ⟨T,S,hdv,hT,hS,oT,oS,_,_⟩:=natDivide_pc (limbs m) (limbs n) (ok_limbs m) (ok_limbs n) (by omega) (by omega) (by rw [val_limbs]; exact h0)
 rw [val_limbs,val_limbs] at hT hS
 have hz:trimL (limbs n)=limbs n:=trim_limbs n
 have hl:=limbs_len_ne h0
 have hl2:((((trimL (limbs n)).length:Nat):Int) == 0)=false:=by rw [hz]; exact natZ_false hl
 exact tr true Tryz.call204 Tryz.func204 (chain [.c (natLongB_pc (limbs m) (limbs n) ‹_› ‹_›),.c (natTrim_pc _ (ok_limbs _):PCt 128 [(slP (limbs n))] _),tB 18 (hl2:((((trimL (limbs n)).length:Nat):Int) == 0)=false),
  .c (hdv:PCt 226 [(slP (limbs m)),(slP (limbs n))] _),.c (natTrim_pc _ ‹_›:PCt 128 [(slP T)] _),.c (clip_pc _ (Ok32.trimL ‹_›):PCt 101 [(slP (trimL T))] _),
  .c (natTrim_pc _ ‹_›:PCt 128 [(slP S)] _),.c (clip_pc _ (Ok32.trimL ‹_›):PCt 101 [(slP (trimL S))] _)] <| rQ (.tup [(slP (trimL T)),(slP (trimL S)),(iP 0)]) (.tup [slP (limbs (m / n)),slP (limbs (m % n)),iP 0]) (by rw [trimL_eq_limbs oT,trimL_eq_limbs oS,hT,hS])) (by kernel_rfl)
end Go.Proofs.YtkbjkchapnjhgaaGreatDoor
