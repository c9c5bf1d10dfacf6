/- VariationFunctions returns true: the flow matrices that Exp answers contain the partial sums of the exponential, cosine and sine series, and the references enclose their limits. -/
import Derived.Test.YtdppllbbgfekaaaGreatDoorM05
set_option linter.unusedSimpArgs false
set_option linter.unusedVariables false
namespace Go.Proofs.YtdppllbbgfekaaaGreatDoor
open Go.RowKit Fp Pu
def floorO (d:Dy) (x:Nat):PS:=⟨69,true,[(5,.e (iP ((((limbs d.m).length:Nat):Int) - 1 - (x:Int)))),(4,.e (bP (flR d (32 * ((limbs d.m).length - x))))),(3,.e (iP (((flN d (32 * ((limbs d.m).length - x))):Nat):Int))),(1,.box 1 0)],[(1,.cells 26 (dyL d))]⟩
def floorI (d:Dy) (x:Nat) (y:Nat):PS:=⟨69,true,[(6,.e (iP (31 - (y:Int)))),(5,.e (iP ((((limbs d.m).length:Nat):Int) - 1 - (x:Int)))),(4,.e (bP (flR d (32 * ((limbs d.m).length - x) - y)))),(3,.e (iP (((flN d (32 * ((limbs d.m).length - x) - y)):Nat):Int))),(1,.box 1 0)],[(1,.cells 26 (dyL d))]⟩
def floorE (d:Dy) (x:Nat):PS:=⟨69,true,[(8,.e (iP x)),(4,.e (bP (flR d (32 * ((limbs d.m).length - (limbs d.m).length))))),(3,.e (iP (((flN d 0 * 2 ^ x):Nat):Int))),(1,.box 1 0)],[(1,.cells 26 (dyL d))]⟩
theorem floor_a {d:Dy} (h:d.neg=true) (k:flR d 0=true):floorD d=0 - ((flN d 0 * 2 ^ d.e.toNat:Nat):Int) - 1:=by unfold floorD flA; rw [h,k]; simp
theorem floor_b {d:Dy} (h:d.neg=true) (k:¬ flR d 0=true):floorD d=0 - ((flN d 0 * 2 ^ d.e.toNat:Nat):Int):=by unfold floorD flA; rw [h,Bool.eq_false_iff.2 k]; simp
theorem floor_c {d:Dy} (h:¬ d.neg=true):floorD d=((flN d 0 * 2 ^ d.e.toNat:Nat):Int):=by unfold floorD flA; rw [Bool.eq_false_iff.2 h]; simp
theorem int_beq_one (n:Nat):((n:Int) == 1)=decide (n=1):=by
 rw [Bool.eq_iff_iff]
 simp only [beq_iff_eq,decide_eq_true_eq]
 omega
set_option maxHeartbeats 1000000 in
theorem r10Floor_pc (d:Dy) (hl:(limbs d.m).length ≤ 1000000) (he1:-1000000000 ≤ d.e) (he2:d.e ≤ 1000000000) (hA:flA d ≤ 1000000000000):PCt 167 [(dyP d)] (iP (floorD d)):=by
 have htop:d.m < 2 ^ (32 * ((limbs d.m).length - 0)):=by
  have:=val_lt (ok_limbs d.m)
  rw [val_limbs] at this
  rwa [Nat.sub_zero,Nat.pow_mul]
 have hn0:=flN_top htop
 have hr0:=flR_top htop
 have hz0:flN d (32 * ((limbs d.m).length - (limbs d.m).length))=flN d 0 * 2 ^ 0:=by rw [Nat.sub_self,Nat.mul_zero,Nat.pow_zero,Nat.mul_one]
 have hzR:flR d (32 * ((limbs d.m).length - (limbs d.m).length))=flR d 0:=by rw [Nat.sub_self,Nat.mul_zero]
 have hAA:flA d=flN d 0 * 2 ^ d.e.toNat:=rfl
 exact tr true Tryz.call167 Tryz.func167 (chain [r64 ((((limbs d.m).length:Nat):Int) - 1) (by omega),
  .s (Sp.upto (floorO d) 0 ((limbs d.m).length) (by omega) (fun x hx hltx=>by
    exact spt (chain [tT 14 (0 ≤ ((((limbs d.m).length:Nat):Int) - 1 - (x:Int))) (by omega),
     .s (Sp.upto (floorI d x) 0 32 (by omega) (fun y hy hlty=>by
    have hiT:(((((limbs d.m).length:Nat):Int) - 1 - (x:Int))).toNat=(limbs d.m).length - 1 - x:=by omega
    have hbit:=limb_bit d.m ((limbs d.m).length - 1 - x) (show 31 - y < 32 by omega)
    rw [show 32 * ((limbs d.m).length - 1 - x)+(31 - y)=(32 * ((limbs d.m).length - x) - (y+1)) by omega,← hiT] at hbit
    have hpp:(32 * ((limbs d.m).length - x) - (y+1))+1=32 * ((limbs d.m).length - x) - y:=by omega
    have hle:=flN_le d (32 * ((limbs d.m).length - x) - (y+1))
    have hlim:=(ok_limbs d.m).getD (((((limbs d.m).length:Nat):Int) - 1 - (x:Int))).toNat
    have hq:=Nat.div_le_self ((limbs d.m).getD (((((limbs d.m).length:Nat):Int) - 1 - (x:Int))).toNat 0) (2 ^ (31 - y))
    by_cases hc:(32 * ((limbs d.m).length - x) - (y+1)) < negE d
    ·by_cases hr:(flR d (32 * ((limbs d.m).length - x) - y))=true
     ·have hne:((d.e+(32 * ((((limbs d.m).length:Nat):Int) - 1 - (x:Int))))+(31 - (y:Int))) < 0:=by unfold negE at hc; omega
      have hns:=flN_low hc
      have hrs:=flR_low hc
      rw [hpp] at hns hrs
      exact spt (chain [tT 18 (0 ≤ (31 - (y:Int))) (by omega),iX (((((limbs d.m).length:Nat):Int) - 1 - (x:Int))) ((limbs d.m).length) (by omega),
       .o 27 (.int (by rw [IntKind.wrap_u64]; omega):PV.le (.e (.v (.int .u64 (IntKind.u64.wrap (31 - (y:Int)))))) (.e (.v (.int .u64 (((31 - y):Nat):Int))))),
       .a (by omega:0 ≤ ((((31 - y):Nat):Int):Int) ∧ ((((31 - y):Nat):Int):Int) ≤ ((32:Nat):Int)),
       .o 28 (.int (shr_nat _ _):PV.le (.e (.v (.int .u32 (((((limbs d.m).getD (((((limbs d.m).length:Nat):Int) - 1 - (x:Int))).toNat 0):Nat):Int) / 2 ^ (31 - y))))) (.e (.v (.int .u32 (((((limbs d.m).getD (((((limbs d.m).length:Nat):Int) - 1 - (x:Int))).toNat 0) / 2 ^ (31 - y)):Nat):Int))))),
       .o 29 (.int (u32_and1n _ (by omega)):PV.le (.e (.v (.int .u32 (bits .and .u32 (((((limbs d.m).getD (((((limbs d.m).length:Nat):Int) - 1 - (x:Int))).toNat 0) / 2 ^ (31 - y)):Nat):Int) 1)))) (.e (.v (.int .u32 ((((((limbs d.m).getD (((((limbs d.m).length:Nat):Int) - 1 - (x:Int))).toNat 0) / 2 ^ (31 - y)) % 2):Nat):Int))))),
       .o 30 (.int (i64_nat _ (by omega)):PV.le (.e (iP (IntKind.i64.wrap ((((((limbs d.m).getD (((((limbs d.m).length:Nat):Int) - 1 - (x:Int))).toNat 0) / 2 ^ (31 - y)) % 2):Nat):Int)))) (.e (iP ((((((limbs d.m).getD (((((limbs d.m).length:Nat):Int) - 1 - (x:Int))).toNat 0) / 2 ^ (31 - y)) % 2):Nat):Int)))),
       r64 (32 * ((((limbs d.m).length:Nat):Int) - 1 - (x:Int))) (by omega),r64 (d.e+(32 * ((((limbs d.m).length:Nat):Int) - 1 - (x:Int)))) (by omega),
       r64 ((d.e+(32 * ((((limbs d.m).length:Nat):Int) - 1 - (x:Int))))+(31 - (y:Int))) (by omega),tB 38 (decide_eq_true hne),tB 39 (hr:(flR d (32 * ((limbs d.m).length - x) - y))=true),
       r64 ((31 - (y:Int)) - 1) (by omega)] <| .e (chain [.o 6 (.int (by first | rfl | omega | (simp only [Nat.add_mul,Nat.one_mul]; omega)):PV.le (.e (iP ((31 - (y:Int)) - 1))) (.e (iP (31 - (((y+1):Nat):Int))))),
  .o 4 (.bool (by rw [hrs,hr]; rfl):PV.le (.e (bP true)) (.e (bP (flR d (32 * ((limbs d.m).length - x) - (y+1)))))),
  .o 3 (.int (by first | rfl | omega | (simp only [Nat.add_mul,Nat.one_mul]; omega)):PV.le (.e (iP (((flN d (32 * ((limbs d.m).length - x) - y)):Nat):Int))) (.e (iP (((flN d (32 * ((limbs d.m).length - x) - (y+1))):Nat):Int))))] <| .nil)) (by kernel_rfl)
     ·have hne:((d.e+(32 * ((((limbs d.m).length:Nat):Int) - 1 - (x:Int))))+(31 - (y:Int))) < 0:=by unfold negE at hc; omega
      have hns:=flN_low hc
      have hrs:=flR_low hc
      rw [hpp] at hns hrs
      exact spt (chain [tT 18 (0 ≤ (31 - (y:Int))) (by omega),iX (((((limbs d.m).length:Nat):Int) - 1 - (x:Int))) ((limbs d.m).length) (by omega),
       .o 27 (.int (by rw [IntKind.wrap_u64]; omega):PV.le (.e (.v (.int .u64 (IntKind.u64.wrap (31 - (y:Int)))))) (.e (.v (.int .u64 (((31 - y):Nat):Int))))),
       .a (by omega:0 ≤ ((((31 - y):Nat):Int):Int) ∧ ((((31 - y):Nat):Int):Int) ≤ ((32:Nat):Int)),
       .o 28 (.int (shr_nat _ _):PV.le (.e (.v (.int .u32 (((((limbs d.m).getD (((((limbs d.m).length:Nat):Int) - 1 - (x:Int))).toNat 0):Nat):Int) / 2 ^ (31 - y))))) (.e (.v (.int .u32 (((((limbs d.m).getD (((((limbs d.m).length:Nat):Int) - 1 - (x:Int))).toNat 0) / 2 ^ (31 - y)):Nat):Int))))),
       .o 29 (.int (u32_and1n _ (by omega)):PV.le (.e (.v (.int .u32 (bits .and .u32 (((((limbs d.m).getD (((((limbs d.m).length:Nat):Int) - 1 - (x:Int))).toNat 0) / 2 ^ (31 - y)):Nat):Int) 1)))) (.e (.v (.int .u32 ((((((limbs d.m).getD (((((limbs d.m).length:Nat):Int) - 1 - (x:Int))).toNat 0) / 2 ^ (31 - y)) % 2):Nat):Int))))),
       .o 30 (.int (i64_nat _ (by omega)):PV.le (.e (iP (IntKind.i64.wrap ((((((limbs d.m).getD (((((limbs d.m).length:Nat):Int) - 1 - (x:Int))).toNat 0) / 2 ^ (31 - y)) % 2):Nat):Int)))) (.e (iP ((((((limbs d.m).getD (((((limbs d.m).length:Nat):Int) - 1 - (x:Int))).toNat 0) / 2 ^ (31 - y)) % 2):Nat):Int)))),
       r64 (32 * ((((limbs d.m).length:Nat):Int) - 1 - (x:Int))) (by omega),r64 (d.e+(32 * ((((limbs d.m).length:Nat):Int) - 1 - (x:Int)))) (by omega),
       r64 ((d.e+(32 * ((((limbs d.m).length:Nat):Int) - 1 - (x:Int))))+(31 - (y:Int))) (by omega),tB 38 (decide_eq_true hne),tB 39 (Bool.eq_false_iff.2 hr),r64 ((31 - (y:Int)) - 1) (by omega)] <| .e (chain [.o 6 (.int (by first | rfl | omega | (simp only [Nat.add_mul,Nat.one_mul]; omega)):PV.le (.e (iP ((31 - (y:Int)) - 1))) (.e (iP (31 - (((y+1):Nat):Int))))),
  .o 4 (.bool (by rw [hrs,Bool.eq_false_iff.2 hr,Bool.false_or,← hbit]; exact int_beq_one _):PV.le (.e (bP (((((((limbs d.m).getD (((((limbs d.m).length:Nat):Int) - 1 - (x:Int))).toNat 0) / 2 ^ (31 - y)) % 2):Nat):Int) == 1))) (.e (bP (flR d (32 * ((limbs d.m).length - x) - (y+1)))))),
  .o 3 (.int (by first | rfl | omega | (simp only [Nat.add_mul,Nat.one_mul]; omega)):PV.le (.e (iP (((flN d (32 * ((limbs d.m).length - x) - y)):Nat):Int))) (.e (iP (((flN d (32 * ((limbs d.m).length - x) - (y+1))):Nat):Int))))] <| .nil)) (by kernel_rfl)
    ·have hne:¬ ((d.e+(32 * ((((limbs d.m).length:Nat):Int) - 1 - (x:Int))))+(31 - (y:Int))) < 0:=by unfold negE at hc; omega
     have hns:=flN_high (Nat.le_of_not_lt hc)
     have hrs:=flR_high (Nat.le_of_not_lt hc)
     rw [hpp] at hns hrs
     exact spt (chain [tT 18 (0 ≤ (31 - (y:Int))) (by omega),iX (((((limbs d.m).length:Nat):Int) - 1 - (x:Int))) ((limbs d.m).length) (by omega),
      .o 27 (.int (by rw [IntKind.wrap_u64]; omega):PV.le (.e (.v (.int .u64 (IntKind.u64.wrap (31 - (y:Int)))))) (.e (.v (.int .u64 (((31 - y):Nat):Int))))),
      .a (by omega:0 ≤ ((((31 - y):Nat):Int):Int) ∧ ((((31 - y):Nat):Int):Int) ≤ ((32:Nat):Int)),
      .o 28 (.int (shr_nat _ _):PV.le (.e (.v (.int .u32 (((((limbs d.m).getD (((((limbs d.m).length:Nat):Int) - 1 - (x:Int))).toNat 0):Nat):Int) / 2 ^ (31 - y))))) (.e (.v (.int .u32 (((((limbs d.m).getD (((((limbs d.m).length:Nat):Int) - 1 - (x:Int))).toNat 0) / 2 ^ (31 - y)):Nat):Int))))),
      .o 29 (.int (u32_and1n _ (by omega)):PV.le (.e (.v (.int .u32 (bits .and .u32 (((((limbs d.m).getD (((((limbs d.m).length:Nat):Int) - 1 - (x:Int))).toNat 0) / 2 ^ (31 - y)):Nat):Int) 1)))) (.e (.v (.int .u32 ((((((limbs d.m).getD (((((limbs d.m).length:Nat):Int) - 1 - (x:Int))).toNat 0) / 2 ^ (31 - y)) % 2):Nat):Int))))),
      .o 30 (.int (i64_nat _ (by omega)):PV.le (.e (iP (IntKind.i64.wrap ((((((limbs d.m).getD (((((limbs d.m).length:Nat):Int) - 1 - (x:Int))).toNat 0) / 2 ^ (31 - y)) % 2):Nat):Int)))) (.e (iP ((((((limbs d.m).getD (((((limbs d.m).length:Nat):Int) - 1 - (x:Int))).toNat 0) / 2 ^ (31 - y)) % 2):Nat):Int)))),
      r64 (32 * ((((limbs d.m).length:Nat):Int) - 1 - (x:Int))) (by omega),r64 (d.e+(32 * ((((limbs d.m).length:Nat):Int) - 1 - (x:Int)))) (by omega),
      r64 ((d.e+(32 * ((((limbs d.m).length:Nat):Int) - 1 - (x:Int))))+(31 - (y:Int))) (by omega),tB 38 (decide_eq_false hne),r64 (2 * (((flN d (32 * ((limbs d.m).length - x) - y)):Nat):Int)) (by omega),
      r64 ((((2 * (flN d (32 * ((limbs d.m).length - x) - y))):Nat):Int)+((((((limbs d.m).getD (((((limbs d.m).length:Nat):Int) - 1 - (x:Int))).toNat 0) / 2 ^ (31 - y)) % 2):Nat):Int)) (by omega),
      r64 ((31 - (y:Int)) - 1) (by omega)] <| .e (chain [.o 6 (.int (by first | omega | rfl | rw [hns] | (rw [hns,hbit]; omega)):PV.le (.e (iP ((31 - (y:Int)) - 1))) (.e (iP (31 - (((y+1):Nat):Int))))),
  .o 4 (.bool (by first | rfl | rw [hrs]):PV.le (.e (bP (flR d (32 * ((limbs d.m).length - x) - y)))) (.e (bP (flR d (32 * ((limbs d.m).length - x) - (y+1)))))),
  .o 3 (.int (by first | omega | rfl | rw [hns] | (rw [hns,hbit]; omega)):PV.le (.e (iP ((((2 * (flN d (32 * ((limbs d.m).length - x) - y)))+((((limbs d.m).getD (((((limbs d.m).length:Nat):Int) - 1 - (x:Int))).toNat 0) / 2 ^ (31 - y)) % 2)):Nat):Int))) (.e (iP (((flN d (32 * ((limbs d.m).length - x) - (y+1))):Nat):Int))))] <| .nil)) (by kernel_rfl))
  (fun hy=>by
    exact spt (chain [tF 18 (0 ≤ (31 - ((32:Nat):Int))) (by omega)] <| .nil) (by kernel_rfl)) (by nofun):LpT 6 Tryz.f167 (floorI d x 0) (.exit 2) ⟨69,true,[(5,.e (iP ((((limbs d.m).length:Nat):Int) - 1 - (x:Int)))),(4,.e (bP (flR d (32 * ((limbs d.m).length - x) - 32)))),(3,.e (iP (((flN d (32 * ((limbs d.m).length - x) - 32)):Nat):Int))),(1,.box 1 0)],[(1,.cells 26 (dyL d))]⟩) (chain [.o 6 (.int (by first | omega | rfl | rw [hns] | (rw [hns,hbit]; omega)):PV.le (.e (iP 31)) (.e (iP (31 - ((0:Nat):Int))))),
  .o 4 (.bool (by first | rfl | rw [hrs]):PV.le (.e (bP (flR d (32 * ((limbs d.m).length - x))))) (.e (bP (flR d (32 * ((limbs d.m).length - x) - 0))))),
  .o 3 (.int (by first | omega | rfl | rw [hns] | (rw [hns,hbit]; omega)):PV.le (.e (iP (((flN d (32 * ((limbs d.m).length - x))):Nat):Int))) (.e (iP (((flN d (32 * ((limbs d.m).length - x) - 0)):Nat):Int))))] <| .nil),
     r64 (((((limbs d.m).length:Nat):Int) - 1 - (x:Int)) - 1) (by omega)] <| .e (chain [.o 5 (.int (by first | omega | (rw [hn0]; rfl) | (congr 2; omega)):PV.le (.e (iP (((((limbs d.m).length:Nat):Int) - 1 - (x:Int)) - 1))) (.e (iP ((((limbs d.m).length:Nat):Int) - 1 - (((x+1):Nat):Int))))),
  .o 4 (.bool (by first | rw [hr0] | (congr 1; omega)):PV.le (.e (bP (flR d (32 * ((limbs d.m).length - x) - 32)))) (.e (bP (flR d (32 * ((limbs d.m).length - (x+1))))))),
  .o 3 (.int (by first | omega | (rw [hn0]; rfl) | (congr 2; omega)):PV.le (.e (iP (((flN d (32 * ((limbs d.m).length - x) - 32)):Nat):Int))) (.e (iP (((flN d (32 * ((limbs d.m).length - (x+1)))):Nat):Int))))] <| .nil)) (by kernel_rfl))
  (fun hx=>by
    exact spt (chain [tF 14 (0 ≤ ((((limbs d.m).length:Nat):Int) - 1 - (((limbs d.m).length:Nat):Int))) (by omega)] <| .nil) (by kernel_rfl)) (by nofun):LpT 3 Tryz.f167 (floorO d 0) (.exit 0) ⟨69,true,[(4,.e (bP (flR d (32 * ((limbs d.m).length - (limbs d.m).length))))),(3,.e (iP (((flN d (32 * ((limbs d.m).length - (limbs d.m).length))):Nat):Int))),(1,.box 1 0)],[(1,.cells 26 (dyL d))]⟩) (chain [.o 5 (.int (by first | omega | (rw [hn0]; rfl) | (congr 2; omega)):PV.le (.e (iP ((((limbs d.m).length:Nat):Int) - 1))) (.e (iP ((((limbs d.m).length:Nat):Int) - 1 - ((0:Nat):Int))))),
  .o 4 (.bool (by first | rw [hr0] | (congr 1; omega)):PV.le (.e (bP false)) (.e (bP (flR d (32 * ((limbs d.m).length - 0)))))),
  .o 3 (.int (by first | omega | (rw [hn0]; rfl) | (congr 2; omega)):PV.le (.e (iP 0)) (.e (iP (((flN d (32 * ((limbs d.m).length - 0))):Nat):Int))))] <| .nil),
  .s (Sp.upto (floorE d) 0 d.e.toNat (by omega) (fun x hx hltx=>by
    have hx2:flN d 0 * 2 ^ (x+1) ≤ flA d:=Nat.mul_le_mul_left _ (Nat.pow_le_pow_right (by decide) (by omega))
    have hx3:flN d 0 * 2 ^ (x+1)=2 * (flN d 0 * 2 ^ x):=by rw [Nat.pow_succ,Nat.mul_comm (2 ^ x),Nat.mul_left_comm]
    exact spt (chain [tT 51 ((x:Int) < d.e) (by omega),r64 (2 * (((flN d 0 * 2 ^ x):Nat):Int)) (by omega),r64 ((x:Int)+1) (by omega)] <| .e (chain [.o 3 (.int (by first | omega | (rw [hz0]) | (rw [hx3])):PV.le (.e (iP (((2 * (flN d 0 * 2 ^ x)):Nat):Int))) (.e (iP (((flN d 0 * 2 ^ (x+1)):Nat):Int))))] <| .nil)) (by kernel_rfl))
  (fun hx=>by
    exact spt (chain [tF 51 ((d.e.toNat:Int) < d.e) (by omega)] <| .nil) (by kernel_rfl)) (by nofun):LpT 13 Tryz.f167 (floorE d 0) (.exit 4) ⟨69,true,[(4,.e (bP (flR d (32 * ((limbs d.m).length - (limbs d.m).length))))),(3,.e (iP (((flN d 0 * 2 ^ d.e.toNat):Nat):Int))),(1,.box 1 0)],[(1,.cells 26 (dyL d))]⟩) (chain [.o 3 (.int (by first | omega | (rw [hz0]) | (rw [hx3])):PV.le (.e (iP (((flN d (32 * ((limbs d.m).length - (limbs d.m).length))):Nat):Int))) (.e (iP (((flN d 0 * 2 ^ 0):Nat):Int))))] <| .nil)] <| .w (d.neg=true)
  (fun k1=>chain [tB 57 (k1)] <| .w (flR d (32 * ((limbs d.m).length - (limbs d.m).length))=true)
   (fun k2=>chain [tB 59 (k2),r64 (0 - (((flN d 0 * 2 ^ d.e.toNat):Nat):Int)) (by omega),r64 ((0 - (((flN d 0 * 2 ^ d.e.toNat):Nat):Int)) - 1) (by omega)] <| rQ (iP ((0 - (((flN d 0 * 2 ^ d.e.toNat):Nat):Int)) - 1)) (iP (floorD d)) (congrArg iP (floor_a k1 (hzR ▸ k2)).symm))
   (fun k2=>chain [tB 59 (Bool.eq_false_iff.2 k2),tB 65 (k1),r64 (0 - (((flN d 0 * 2 ^ d.e.toNat):Nat):Int)) (by omega)] <| rQ (iP (0 - (((flN d 0 * 2 ^ d.e.toNat):Nat):Int))) (iP (floorD d)) (congrArg iP (floor_b k1 (hzR ▸ k2)).symm)))
  (fun k1=>chain [tB 57 (Bool.eq_false_iff.2 k1),tB 65 (Bool.eq_false_iff.2 k1)] <| rQ (iP (((flN d 0 * 2 ^ d.e.toNat):Nat):Int)) (iP (floorD d)) (congrArg iP (floor_c k1).symm))) (by kernel_rfl)
open Go.RowKit Fp Pu
def serF (r:Iv) (p:Nat) (x:Nat):PS:=⟨63,true,[(9,.e (iP (((x+1):Nat):Int))),(8,.box 8 0),(7,.box 7 0),(6,.box 6 0),(5,.box 5 0),(4,.box 4 0),(2,.box 2 0),(1,.e (iP p))],[(8,.cells 28 (ivL (serC r p x))),(7,.cells 28 (ivL (serS r p x))),(6,.cells 28 (ivL (serT r p x))),(5,.cells 28 [(bP false),(.v (.slice none 0 0)),(iP 0),(bP false),(.v (.slice none 0 0)),(iP 0),(bP false)]),(4,.cells 28 [(bP false),(.v (.slice none 0 0)),(iP 0),(bP false),(.v (.slice none 0 0)),(iP 0),(bP false)]),(2,.cells 28 (ivL r))]⟩
theorem natEqL_true {n:Nat} (h:n=1):((n:Int) == 1)=true:=by simp [h]
theorem natEqL_false {n:Nat} (h:¬ n=1):((n:Int) == 1)=false:=by simp; omega
theorem tmod4_eq (k:Int):Int.tmod k 4=k % 4 ∨ k < 0 ∧ Int.tmod k 4 = -((-k) % 4):=by
 by_cases h:0 ≤ k
 ·exact .inl (Int.tmod_eq_emod_of_nonneg h)
 ·refine .inr ⟨by omega,?_⟩
  have:=Int.neg_tmod (-k) 4
  rw [Int.neg_neg] at this
  rw [this,Int.tmod_eq_emod_of_nonneg (by omega)]
theorem tmod4_rng (k:Int):-3 ≤ Int.tmod k 4 ∧ Int.tmod k 4 ≤ 3:=by rcases tmod4_eq k with h | h <;> omega
theorem tmod4 (k:Int):Int.tmod (Int.tmod k 4+4) 4=k % 4:=by
 have h1:=tmod4_rng k
 rw [Int.tmod_eq_emod_of_nonneg (by omega)]
 rcases tmod4_eq k with h | h <;> omega
theorem halfK_valid:(Iv.mk (pow2 (-1)) (pow2 (-1)) false).Valid:=.inr ⟨rfl,pow2_valid (by decide) (by decide),pow2_valid (by decide) (by decide),by show cmpD _ _ ≤ 0; rw [q_le]; exact Rat.le_refl⟩
set_option maxHeartbeats 1000000 in
theorem r10Series_pc (r:Iv) (p N:Nat) (hr:r.Valid) (hp1:8 ≤ p) (hp2:p ≤ 512) (hN:7 ≤ N) (hN2:N ≤ 1000) (ha:∀ x,x ≤ N → (serT r p x).all=false) (hgo:∀ x,x < N → x < 7 ∨ ¬ cmpD (magI (serT r p x)) (pow2 (0 - (p:Int))) < 0) (hout:cmpD (magI (serT r p N)) (pow2 (0 - (p:Int))) < 0):PCt 168 [(ivP r),(iP p)] (.tup [ivP (serSin r p N),ivP (serCos r p N)]):=by
 exact tr true Tryz.call168 Tryz.func168 (chain [.c (r10Whole_pc 1 (by omega)),.c (r10Whole_pc 0 (by omega)),.c (r10Whole_pc 1 (by omega)),
  .s (Sp.upto (serF r p) 0 N (by omega) (fun x hx hltx=>by
    by_cases h2:(x+1) % 2=1
    ·by_cases h4:2 ≤ (x+1) % 4
     ·by_cases hb:cmpD (magI (serT r p x)) (pow2 (0 - (p:Int))) < 0
      ·have h7:=(hgo x hltx).resolve_right (fun q=>q hb)
       have hS:serS r p (x+1)=addI (serS r p x) (negI (divI (mulI (serT r p x) r p) (numI ((x+1:Nat):Int)) p)) p:=by simp only [serS]; rw [if_pos h2]; simp only [serA]; rw [if_pos h4]; rfl
       have hC:serC r p (x+1)=serC r p x:=by simp only [serC]; rw [if_pos h2]
       exact spt (chain [r64 (0 - (p:Int)) (by omega),.c (r10Below_pc (serT r p x) (0 - (p:Int)) (serT_valid hr (by omega) (by omega) _) (ha _ (by omega)) (by omega) (by omega)),tB 18 (decide_eq_true hb),
        tT 22 ((((x+1):Nat):Int) < 8) (by omega),.c (r5Mul_pc (serT r p x) r p (serT_valid hr (by omega) (by omega) _) ‹_› (by omega) (by omega)),.c (r10Whole_pc (((x+1):Nat):Int) (by omega)),
        .c (r5Div_pc (mulI (serT r p x) r p) (numI (((x+1):Nat):Int)) p (mulI_valid _ _ (by omega) (by omega)) (numZ_valid (by omega)) (by omega) (by omega)),.a (by omega:0 < (4:Int)),
        tT 37 (2 ≤ ((((x+1) % 4):Nat):Int)) (by omega),.c (r5Neg_pc (divI (mulI (serT r p x) r p) (numI (((x+1):Nat):Int)) p) (divI_valid _ _ (by omega) (by omega))),.a (by omega:0 < (2:Int)),
        tB 42 (natEqL_true h2:(((((x+1) % 2):Nat):Int) == 1)=true),
        .c (r5Add_pc (serS r p x) (negI (divI (mulI (serT r p x) r p) (numI (((x+1):Nat):Int)) p)) p (serS_valid hr (by omega) (by omega) _) (negI_valid (divI_valid _ _ (by omega) (by omega))) (by omega) (by omega)),
        r64 ((((x+1):Nat):Int)+1) (by omega)] <| .e (chain [.b 8 (.of_eq (by first | rfl | rw [hS] | rw [hC]):Bx.le (.cells 28 (ivL (serC r p x))) (.cells 28 (ivL (serC r p (x+1))))),
  .b 7 (.of_eq (by first | rfl | rw [hS] | rw [hC]):Bx.le (.cells 28 (ivL (addI (serS r p x) (negI (divI (mulI (serT r p x) r p) (numI (((x+1):Nat):Int)) p)) p))) (.cells 28 (ivL (serS r p (x+1))))),
  .b 6 (.of_eq (by first | rfl | rw [hS] | rw [hC]):Bx.le (.cells 28 (ivL (divI (mulI (serT r p x) r p) (numI (((x+1):Nat):Int)) p))) (.cells 28 (ivL (serT r p (x+1)))))] <| .nil)) (by kernel_rfl)
      ·have hS:serS r p (x+1)=addI (serS r p x) (negI (divI (mulI (serT r p x) r p) (numI ((x+1:Nat):Int)) p)) p:=by simp only [serS]; rw [if_pos h2]; simp only [serA]; rw [if_pos h4]; rfl
       have hC:serC r p (x+1)=serC r p x:=by simp only [serC]; rw [if_pos h2]
       exact spt (chain [r64 (0 - (p:Int)) (by omega),.c (r10Below_pc (serT r p x) (0 - (p:Int)) (serT_valid hr (by omega) (by omega) _) (ha _ (by omega)) (by omega) (by omega)),tB 18 (decide_eq_false hb),
        .c (r5Mul_pc (serT r p x) r p (serT_valid hr (by omega) (by omega) _) ‹_› (by omega) (by omega)),.c (r10Whole_pc (((x+1):Nat):Int) (by omega)),
        .c (r5Div_pc (mulI (serT r p x) r p) (numI (((x+1):Nat):Int)) p (mulI_valid _ _ (by omega) (by omega)) (numZ_valid (by omega)) (by omega) (by omega)),.a (by omega:0 < (4:Int)),
        tT 37 (2 ≤ ((((x+1) % 4):Nat):Int)) (by omega),.c (r5Neg_pc (divI (mulI (serT r p x) r p) (numI (((x+1):Nat):Int)) p) (divI_valid _ _ (by omega) (by omega))),.a (by omega:0 < (2:Int)),
        tB 42 (natEqL_true h2:(((((x+1) % 2):Nat):Int) == 1)=true),
        .c (r5Add_pc (serS r p x) (negI (divI (mulI (serT r p x) r p) (numI (((x+1):Nat):Int)) p)) p (serS_valid hr (by omega) (by omega) _) (negI_valid (divI_valid _ _ (by omega) (by omega))) (by omega) (by omega)),
        r64 ((((x+1):Nat):Int)+1) (by omega)] <| .e (chain [.b 8 (.of_eq (by first | rfl | rw [hS] | rw [hC]):Bx.le (.cells 28 (ivL (serC r p x))) (.cells 28 (ivL (serC r p (x+1))))),
  .b 7 (.of_eq (by first | rfl | rw [hS] | rw [hC]):Bx.le (.cells 28 (ivL (addI (serS r p x) (negI (divI (mulI (serT r p x) r p) (numI (((x+1):Nat):Int)) p)) p))) (.cells 28 (ivL (serS r p (x+1))))),
  .b 6 (.of_eq (by first | rfl | rw [hS] | rw [hC]):Bx.le (.cells 28 (ivL (divI (mulI (serT r p x) r p) (numI (((x+1):Nat):Int)) p))) (.cells 28 (ivL (serT r p (x+1)))))] <| .nil)) (by kernel_rfl)
     ·by_cases hb:cmpD (magI (serT r p x)) (pow2 (0 - (p:Int))) < 0
      ·have h7:=(hgo x hltx).resolve_right (fun q=>q hb)
       have hS:serS r p (x+1)=addI (serS r p x) (divI (mulI (serT r p x) r p) (numI ((x+1:Nat):Int)) p) p:=by simp only [serS]; rw [if_pos h2]; simp only [serA]; rw [if_neg h4]; rfl
       have hC:serC r p (x+1)=serC r p x:=by simp only [serC]; rw [if_pos h2]
       exact spt (chain [r64 (0 - (p:Int)) (by omega),.c (r10Below_pc (serT r p x) (0 - (p:Int)) (serT_valid hr (by omega) (by omega) _) (ha _ (by omega)) (by omega) (by omega)),tB 18 (decide_eq_true hb),
        tT 22 ((((x+1):Nat):Int) < 8) (by omega),.c (r5Mul_pc (serT r p x) r p (serT_valid hr (by omega) (by omega) _) ‹_› (by omega) (by omega)),.c (r10Whole_pc (((x+1):Nat):Int) (by omega)),
        .c (r5Div_pc (mulI (serT r p x) r p) (numI (((x+1):Nat):Int)) p (mulI_valid _ _ (by omega) (by omega)) (numZ_valid (by omega)) (by omega) (by omega)),.a (by omega:0 < (4:Int)),
        tF 37 (2 ≤ ((((x+1) % 4):Nat):Int)) (by omega),.a (by omega:0 < (2:Int)),tB 42 (natEqL_true h2:(((((x+1) % 2):Nat):Int) == 1)=true),
        .c (r5Add_pc (serS r p x) (divI (mulI (serT r p x) r p) (numI (((x+1):Nat):Int)) p) p (serS_valid hr (by omega) (by omega) _) (divI_valid _ _ (by omega) (by omega)) (by omega) (by omega)),r64 ((((x+1):Nat):Int)+1) (by omega)] <| .e (chain [.b 8 (.of_eq (by first | rfl | rw [hS] | rw [hC]):Bx.le (.cells 28 (ivL (serC r p x))) (.cells 28 (ivL (serC r p (x+1))))),
  .b 7 (.of_eq (by first | rfl | rw [hS] | rw [hC]):Bx.le (.cells 28 (ivL (addI (serS r p x) (divI (mulI (serT r p x) r p) (numI (((x+1):Nat):Int)) p) p))) (.cells 28 (ivL (serS r p (x+1))))),
  .b 6 (.of_eq (by first | rfl | rw [hS] | rw [hC]):Bx.le (.cells 28 (ivL (divI (mulI (serT r p x) r p) (numI (((x+1):Nat):Int)) p))) (.cells 28 (ivL (serT r p (x+1)))))] <| .nil)) (by kernel_rfl)
      ·have hS:serS r p (x+1)=addI (serS r p x) (divI (mulI (serT r p x) r p) (numI ((x+1:Nat):Int)) p) p:=by simp only [serS]; rw [if_pos h2]; simp only [serA]; rw [if_neg h4]; rfl
       have hC:serC r p (x+1)=serC r p x:=by simp only [serC]; rw [if_pos h2]
       exact spt (chain [r64 (0 - (p:Int)) (by omega),.c (r10Below_pc (serT r p x) (0 - (p:Int)) (serT_valid hr (by omega) (by omega) _) (ha _ (by omega)) (by omega) (by omega)),tB 18 (decide_eq_false hb),
        .c (r5Mul_pc (serT r p x) r p (serT_valid hr (by omega) (by omega) _) ‹_› (by omega) (by omega)),.c (r10Whole_pc (((x+1):Nat):Int) (by omega)),
        .c (r5Div_pc (mulI (serT r p x) r p) (numI (((x+1):Nat):Int)) p (mulI_valid _ _ (by omega) (by omega)) (numZ_valid (by omega)) (by omega) (by omega)),.a (by omega:0 < (4:Int)),
        tF 37 (2 ≤ ((((x+1) % 4):Nat):Int)) (by omega),.a (by omega:0 < (2:Int)),tB 42 (natEqL_true h2:(((((x+1) % 2):Nat):Int) == 1)=true),
        .c (r5Add_pc (serS r p x) (divI (mulI (serT r p x) r p) (numI (((x+1):Nat):Int)) p) p (serS_valid hr (by omega) (by omega) _) (divI_valid _ _ (by omega) (by omega)) (by omega) (by omega)),r64 ((((x+1):Nat):Int)+1) (by omega)] <| .e (chain [.b 8 (.of_eq (by first | rfl | rw [hS] | rw [hC]):Bx.le (.cells 28 (ivL (serC r p x))) (.cells 28 (ivL (serC r p (x+1))))),
  .b 7 (.of_eq (by first | rfl | rw [hS] | rw [hC]):Bx.le (.cells 28 (ivL (addI (serS r p x) (divI (mulI (serT r p x) r p) (numI (((x+1):Nat):Int)) p) p))) (.cells 28 (ivL (serS r p (x+1))))),
  .b 6 (.of_eq (by first | rfl | rw [hS] | rw [hC]):Bx.le (.cells 28 (ivL (divI (mulI (serT r p x) r p) (numI (((x+1):Nat):Int)) p))) (.cells 28 (ivL (serT r p (x+1)))))] <| .nil)) (by kernel_rfl)
    ·by_cases h4:2 ≤ (x+1) % 4
     ·by_cases hb:cmpD (magI (serT r p x)) (pow2 (0 - (p:Int))) < 0
      ·have h7:=(hgo x hltx).resolve_right (fun q=>q hb)
       have hS:serS r p (x+1)=serS r p x:=by simp only [serS]; rw [if_neg h2]
       have hC:serC r p (x+1)=addI (serC r p x) (negI (divI (mulI (serT r p x) r p) (numI ((x+1:Nat):Int)) p)) p:=by simp only [serC]; rw [if_neg h2]; simp only [serA]; rw [if_pos h4]; rfl
       exact spt (chain [r64 (0 - (p:Int)) (by omega),.c (r10Below_pc (serT r p x) (0 - (p:Int)) (serT_valid hr (by omega) (by omega) _) (ha _ (by omega)) (by omega) (by omega)),tB 18 (decide_eq_true hb),
        tT 22 ((((x+1):Nat):Int) < 8) (by omega),.c (r5Mul_pc (serT r p x) r p (serT_valid hr (by omega) (by omega) _) ‹_› (by omega) (by omega)),.c (r10Whole_pc (((x+1):Nat):Int) (by omega)),
        .c (r5Div_pc (mulI (serT r p x) r p) (numI (((x+1):Nat):Int)) p (mulI_valid _ _ (by omega) (by omega)) (numZ_valid (by omega)) (by omega) (by omega)),.a (by omega:0 < (4:Int)),
        tT 37 (2 ≤ ((((x+1) % 4):Nat):Int)) (by omega),.c (r5Neg_pc (divI (mulI (serT r p x) r p) (numI (((x+1):Nat):Int)) p) (divI_valid _ _ (by omega) (by omega))),.a (by omega:0 < (2:Int)),
        tB 42 (natEqL_false h2:(((((x+1) % 2):Nat):Int) == 1)=false),
        .c (r5Add_pc (serC r p x) (negI (divI (mulI (serT r p x) r p) (numI (((x+1):Nat):Int)) p)) p (serC_valid hr (by omega) (by omega) _) (negI_valid (divI_valid _ _ (by omega) (by omega))) (by omega) (by omega)),
        r64 ((((x+1):Nat):Int)+1) (by omega)] <| .e (chain [.b 8 (.of_eq (by first | rfl | rw [hS] | rw [hC]):Bx.le (.cells 28 (ivL (addI (serC r p x) (negI (divI (mulI (serT r p x) r p) (numI (((x+1):Nat):Int)) p)) p))) (.cells 28 (ivL (serC r p (x+1))))),
  .b 7 (.of_eq (by first | rfl | rw [hS] | rw [hC]):Bx.le (.cells 28 (ivL (serS r p x))) (.cells 28 (ivL (serS r p (x+1))))),
  .b 6 (.of_eq (by first | rfl | rw [hS] | rw [hC]):Bx.le (.cells 28 (ivL (divI (mulI (serT r p x) r p) (numI (((x+1):Nat):Int)) p))) (.cells 28 (ivL (serT r p (x+1)))))] <| .nil)) (by kernel_rfl)
      ·have hS:serS r p (x+1)=serS r p x:=by simp only [serS]; rw [if_neg h2]
       have hC:serC r p (x+1)=addI (serC r p x) (negI (divI (mulI (serT r p x) r p) (numI ((x+1:Nat):Int)) p)) p:=by simp only [serC]; rw [if_neg h2]; simp only [serA]; rw [if_pos h4]; rfl
       exact spt (chain [r64 (0 - (p:Int)) (by omega),.c (r10Below_pc (serT r p x) (0 - (p:Int)) (serT_valid hr (by omega) (by omega) _) (ha _ (by omega)) (by omega) (by omega)),tB 18 (decide_eq_false hb),
        .c (r5Mul_pc (serT r p x) r p (serT_valid hr (by omega) (by omega) _) ‹_› (by omega) (by omega)),.c (r10Whole_pc (((x+1):Nat):Int) (by omega)),
        .c (r5Div_pc (mulI (serT r p x) r p) (numI (((x+1):Nat):Int)) p (mulI_valid _ _ (by omega) (by omega)) (numZ_valid (by omega)) (by omega) (by omega)),.a (by omega:0 < (4:Int)),
        tT 37 (2 ≤ ((((x+1) % 4):Nat):Int)) (by omega),.c (r5Neg_pc (divI (mulI (serT r p x) r p) (numI (((x+1):Nat):Int)) p) (divI_valid _ _ (by omega) (by omega))),.a (by omega:0 < (2:Int)),
        tB 42 (natEqL_false h2:(((((x+1) % 2):Nat):Int) == 1)=false),
        .c (r5Add_pc (serC r p x) (negI (divI (mulI (serT r p x) r p) (numI (((x+1):Nat):Int)) p)) p (serC_valid hr (by omega) (by omega) _) (negI_valid (divI_valid _ _ (by omega) (by omega))) (by omega) (by omega)),
        r64 ((((x+1):Nat):Int)+1) (by omega)] <| .e (chain [.b 8 (.of_eq (by first | rfl | rw [hS] | rw [hC]):Bx.le (.cells 28 (ivL (addI (serC r p x) (negI (divI (mulI (serT r p x) r p) (numI (((x+1):Nat):Int)) p)) p))) (.cells 28 (ivL (serC r p (x+1))))),
  .b 7 (.of_eq (by first | rfl | rw [hS] | rw [hC]):Bx.le (.cells 28 (ivL (serS r p x))) (.cells 28 (ivL (serS r p (x+1))))),
  .b 6 (.of_eq (by first | rfl | rw [hS] | rw [hC]):Bx.le (.cells 28 (ivL (divI (mulI (serT r p x) r p) (numI (((x+1):Nat):Int)) p))) (.cells 28 (ivL (serT r p (x+1)))))] <| .nil)) (by kernel_rfl)
     ·by_cases hb:cmpD (magI (serT r p x)) (pow2 (0 - (p:Int))) < 0
      ·have h7:=(hgo x hltx).resolve_right (fun q=>q hb)
       have hS:serS r p (x+1)=serS r p x:=by simp only [serS]; rw [if_neg h2]
       have hC:serC r p (x+1)=addI (serC r p x) (divI (mulI (serT r p x) r p) (numI ((x+1:Nat):Int)) p) p:=by simp only [serC]; rw [if_neg h2]; simp only [serA]; rw [if_neg h4]; rfl
       exact spt (chain [r64 (0 - (p:Int)) (by omega),.c (r10Below_pc (serT r p x) (0 - (p:Int)) (serT_valid hr (by omega) (by omega) _) (ha _ (by omega)) (by omega) (by omega)),tB 18 (decide_eq_true hb),
        tT 22 ((((x+1):Nat):Int) < 8) (by omega),.c (r5Mul_pc (serT r p x) r p (serT_valid hr (by omega) (by omega) _) ‹_› (by omega) (by omega)),.c (r10Whole_pc (((x+1):Nat):Int) (by omega)),
        .c (r5Div_pc (mulI (serT r p x) r p) (numI (((x+1):Nat):Int)) p (mulI_valid _ _ (by omega) (by omega)) (numZ_valid (by omega)) (by omega) (by omega)),.a (by omega:0 < (4:Int)),
        tF 37 (2 ≤ ((((x+1) % 4):Nat):Int)) (by omega),.a (by omega:0 < (2:Int)),tB 42 (natEqL_false h2:(((((x+1) % 2):Nat):Int) == 1)=false),
        .c (r5Add_pc (serC r p x) (divI (mulI (serT r p x) r p) (numI (((x+1):Nat):Int)) p) p (serC_valid hr (by omega) (by omega) _) (divI_valid _ _ (by omega) (by omega)) (by omega) (by omega)),r64 ((((x+1):Nat):Int)+1) (by omega)] <| .e (chain [.b 8 (.of_eq (by first | rfl | rw [hS] | rw [hC]):Bx.le (.cells 28 (ivL (addI (serC r p x) (divI (mulI (serT r p x) r p) (numI (((x+1):Nat):Int)) p) p))) (.cells 28 (ivL (serC r p (x+1))))),
  .b 7 (.of_eq (by first | rfl | rw [hS] | rw [hC]):Bx.le (.cells 28 (ivL (serS r p x))) (.cells 28 (ivL (serS r p (x+1))))),
  .b 6 (.of_eq (by first | rfl | rw [hS] | rw [hC]):Bx.le (.cells 28 (ivL (divI (mulI (serT r p x) r p) (numI (((x+1):Nat):Int)) p))) (.cells 28 (ivL (serT r p (x+1)))))] <| .nil)) (by kernel_rfl)
      ·have hS:serS r p (x+1)=serS r p x:=by simp only [serS]; rw [if_neg h2]
       have hC:serC r p (x+1)=addI (serC r p x) (divI (mulI (serT r p x) r p) (numI ((x+1:Nat):Int)) p) p:=by simp only [serC]; rw [if_neg h2]; simp only [serA]; rw [if_neg h4]; rfl
       exact spt (chain [r64 (0 - (p:Int)) (by omega),.c (r10Below_pc (serT r p x) (0 - (p:Int)) (serT_valid hr (by omega) (by omega) _) (ha _ (by omega)) (by omega) (by omega)),tB 18 (decide_eq_false hb),
        .c (r5Mul_pc (serT r p x) r p (serT_valid hr (by omega) (by omega) _) ‹_› (by omega) (by omega)),.c (r10Whole_pc (((x+1):Nat):Int) (by omega)),
        .c (r5Div_pc (mulI (serT r p x) r p) (numI (((x+1):Nat):Int)) p (mulI_valid _ _ (by omega) (by omega)) (numZ_valid (by omega)) (by omega) (by omega)),.a (by omega:0 < (4:Int)),
        tF 37 (2 ≤ ((((x+1) % 4):Nat):Int)) (by omega),.a (by omega:0 < (2:Int)),tB 42 (natEqL_false h2:(((((x+1) % 2):Nat):Int) == 1)=false),
        .c (r5Add_pc (serC r p x) (divI (mulI (serT r p x) r p) (numI (((x+1):Nat):Int)) p) p (serC_valid hr (by omega) (by omega) _) (divI_valid _ _ (by omega) (by omega)) (by omega) (by omega)),r64 ((((x+1):Nat):Int)+1) (by omega)] <| .e (chain [.b 8 (.of_eq (by first | rfl | rw [hS] | rw [hC]):Bx.le (.cells 28 (ivL (addI (serC r p x) (divI (mulI (serT r p x) r p) (numI (((x+1):Nat):Int)) p) p))) (.cells 28 (ivL (serC r p (x+1))))),
  .b 7 (.of_eq (by first | rfl | rw [hS] | rw [hC]):Bx.le (.cells 28 (ivL (serS r p x))) (.cells 28 (ivL (serS r p (x+1))))),
  .b 6 (.of_eq (by first | rfl | rw [hS] | rw [hC]):Bx.le (.cells 28 (ivL (divI (mulI (serT r p x) r p) (numI (((x+1):Nat):Int)) p))) (.cells 28 (ivL (serT r p (x+1)))))] <| .nil)) (by kernel_rfl))
  (fun hx=>by
    exact spt (chain [r64 (0 - (p:Int)) (by omega),.c (r10Below_pc (serT r p N) (0 - (p:Int)) (serT_valid hr (by omega) (by omega) _) (ha _ (by omega)) (by omega) (by omega)),tB 18 (decide_eq_true hout),
    tF 22 ((((N+1):Nat):Int) < 8) (by omega)] <| .nil) (by kernel_rfl)) (by nofun):LpT 4 Tryz.f168 (serF r p 0) (.exit 0) ⟨63,true,[(8,.box 8 0),(7,.box 7 0),(5,.box 5 0),(4,.box 4 0),(1,.e (iP p))],[(8,.cells 28 (ivL (serC r p N))),(7,.cells 28 (ivL (serS r p N))),(5,.cells 28 [(bP false),(.v (.slice none 0 0)),(iP 0),(bP false),(.v (.slice none 0 0)),(iP 0),(bP false)]),(4,.cells 28 [(bP false),(.v (.slice none 0 0)),(iP 0),(bP false),(.v (.slice none 0 0)),(iP 0),(bP false)])]⟩) (chain [.o 9 (.int (by first | rfl | omega | (simp only [Nat.add_mul,Nat.one_mul]; omega)):PV.le (.e (iP 1)) (.e (iP (((0+1):Nat):Int)))),
  .b 8 (.of_eq (by first | rfl | rw [hS] | rw [hC]):Bx.le (.cells 28 (ivL (numI 1))) (.cells 28 (ivL (serC r p 0)))),.b 7 (.of_eq (by first | rfl | rw [hS] | rw [hC]):Bx.le (.cells 28 (ivL (numI 0))) (.cells 28 (ivL (serS r p 0)))),
  .b 6 (.of_eq (by first | rfl | rw [hS] | rw [hC]):Bx.le (.cells 28 (ivL (numI 1))) (.cells 28 (ivL (serT r p 0))))] <| .nil),
  r64 (1 - (p:Int)) (by omega),.c (r10Power_pc (1 - (p:Int)) (by omega) (by omega)),.c (r10Around_pc (pow2 (1 - (p:Int)))),
  .c (r5Add_pc (serS r p N) (Iv.mk (negD (pow2 (1 - (p:Int)))) (pow2 (1 - (p:Int))) false) p (serS_valid hr (by omega) (by omega) _) (around_val (by omega) (by omega)) (by omega) (by omega)),
  .c (r5Add_pc (serC r p N) (Iv.mk (negD (pow2 (1 - (p:Int)))) (pow2 (1 - (p:Int))) false) p (serC_valid hr (by omega) (by omega) _) (around_val (by omega) (by omega)) (by omega) (by omega))] <| rR (.tup [ivP (serSin r p N),ivP (serCos r p N)]) (.of_eq rfl:E.le (.tup [(ivP (addI (serS r p N) (Iv.mk (negD (pow2 (1 - (p:Int)))) (pow2 (1 - (p:Int))) false) p)),(ivP (addI (serC r p N) (Iv.mk (negD (pow2 (1 - (p:Int)))) (pow2 (1 - (p:Int))) false) p))]) (.tup [ivP (serSin r p N),ivP (serCos r p N)]))) (by kernel_rfl)
theorem pi_valid:piI.Valid:=by
 rw [← pi_eq]
 exact addI_valid (mulI_valid _ _ (by decide) (by decide)) (negI_valid (mulI_valid _ _ (by decide) (by decide))) (by decide) (by decide)
set_option maxHeartbeats 1000000 in
theorem r10SinCos_pc (d:Dy) (hd:d.Valid) (q r:Iv) (hq:addI (divI (pointI d) HF 380) ⟨pow2 (-1),pow2 (-1),false⟩ 380=q) (hqv:q.Valid) (hl:(limbs q.lo.m).length ≤ 1000000) (he1:-1000000000 ≤ q.lo.e) (he2:q.lo.e ≤ 1000000000) (hA:flA q.lo ≤ 1000000000000) (hk1:-1000000 ≤ floorD q.lo) (hk2:floorD q.lo ≤ 1000000) (hr0:subI (pointI d) (mulI (numI (floorD q.lo)) HF 380) 380=r) (hr:r.Valid) (N:Nat) (hN:7 ≤ N) (hN2:N ≤ 1000) (ha:∀ x,x ≤ N → (serT r 380 x).all=false) (hgo:∀ x,x < N → x < 7 ∨ ¬ cmpD (magI (serT r 380 x)) (pow2 (0 - ((380:Nat):Int))) < 0) (hout:cmpD (magI (serT r 380 N)) (pow2 (0 - ((380:Nat):Int))) < 0):PCt 95 [(dyP d),(iP 320)] (.tup [ivP (rotS (serSin r 380 N) (serCos r 380 N) (floorD q.lo % 4)),ivP (rotC (serSin r 380 N) (serCos r 380 N) (floorD q.lo % 4))]):=by
 have htm:=tmod4_rng (floorD q.lo)
 exact tr true Tryz.call95 Tryz.func95 (chain [r64 (320+60) (by omega),.o 15 (.int (by decide):PV.le (.e (iP (320+60))) (.e (iP 380))),.c r10Pi_pc,.c (r5Scale_pc piI (-1) pi_valid (by omega) (by omega)),
  .o 18 (.e (.of_eq (by rw [half_eq])):PV.le (.e (ivP (scaleI piI (-1)))) (.e (ivP HF))),.c (r5Point_pc d),.c (r5Div_pc (pointI d) HF 380 (pointI_valid hd) hf_valid (by omega) (by omega)),.c (r10Power_pc (-1) (by omega) (by omega)),
  .c (r10Power_pc (-1) (by omega) (by omega)),.c (r5Add_pc (divI (pointI d) HF 380) (Iv.mk (pow2 (-1)) (pow2 (-1)) false) 380 (divI_valid _ _ (by omega) (by omega)) halfK_valid (by omega) (by omega)),
  .o 29 (.e (.of_eq (congrArg ivP hq)):PV.le (.e (ivP (addI (divI (pointI d) HF 380) (Iv.mk (pow2 (-1)) (pow2 (-1)) false) 380))) (.e (ivP q))),.c (r10Floor_pc q.lo hl he1 he2 hA),.c (r10Whole_pc (floorD q.lo) (by omega)),
  .c (r5Mul_pc (numI (floorD q.lo)) HF 380 (numZ_valid (by omega)) hf_valid (by omega) (by omega)),
  .c (r5Sub_pc (pointI d) (mulI (numI (floorD q.lo)) HF 380) 380 (pointI_valid hd) (mulI_valid _ _ (by omega) (by omega)) (by omega) (by omega)),
  .o 40 (.e (.of_eq (congrArg ivP hr0)):PV.le (.e (ivP (subI (pointI d) (mulI (numI (floorD q.lo)) HF 380) 380))) (.e (ivP r))),.c (r10Series_pc r 380 N hr (by decide) (by decide) hN hN2 ha hgo hout),.a (by omega:0 < (4:Int)),
  r64 ((Int.tmod (floorD q.lo) 4)+4) (by omega),.a (by omega:0 < (4:Int)),.o 50 (.int (tmod4 _):PV.le (.e (iP (Int.tmod ((Int.tmod (floorD q.lo) 4)+4) 4))) (.e (iP (floorD q.lo % 4))))] <| .w ((floorD q.lo % 4)=0)
  (fun k1=>chain [tB 52 (beq_iff_eq.2 k1)] <| rQ (.tup [(ivP (serSin r 380 N)),(ivP (serCos r 380 N))]) (.tup [ivP (rotS (serSin r 380 N) (serCos r 380 N) (floorD q.lo % 4)),ivP (rotC (serSin r 380 N) (serCos r 380 N) (floorD q.lo % 4))]) (by unfold rotS rotC; simp [k1]))
  (fun k1=>chain [tB 52 (beq_eq_false_iff_ne.2 k1)] <| .w ((floorD q.lo % 4)=1)
   (fun k2=>chain [tB 56 (beq_iff_eq.2 k2),.c (r5Neg_pc (serSin r 380 N) (serSin_valid hr (by decide) (by decide) N))] <| rQ (.tup [(ivP (serCos r 380 N)),(ivP (negI (serSin r 380 N)))]) (.tup [ivP (rotS (serSin r 380 N) (serCos r 380 N) (floorD q.lo % 4)),ivP (rotC (serSin r 380 N) (serCos r 380 N) (floorD q.lo % 4))]) (by unfold rotS rotC; simp [k1,k2]))
   (fun k2=>chain [tB 56 (beq_eq_false_iff_ne.2 k2)] <| .w ((floorD q.lo % 4)=2)
    (fun k3=>chain [tB 61 (beq_iff_eq.2 k3),.c (r5Neg_pc (serSin r 380 N) (serSin_valid hr (by decide) (by decide) N)),.c (r5Neg_pc (serCos r 380 N) (serCos_valid hr (by decide) (by decide) N))] <| rQ (.tup [(ivP (negI (serSin r 380 N))),(ivP (negI (serCos r 380 N)))]) (.tup [ivP (rotS (serSin r 380 N) (serCos r 380 N) (floorD q.lo % 4)),ivP (rotC (serSin r 380 N) (serCos r 380 N) (floorD q.lo % 4))]) (by unfold rotS rotC; simp [k1,k2,k3]))
    (fun k3=>chain [tB 61 (beq_eq_false_iff_ne.2 k3),.c (r5Neg_pc (serCos r 380 N) (serCos_valid hr (by decide) (by decide) N))] <| rQ (.tup [(ivP (negI (serCos r 380 N))),(ivP (serSin r 380 N))]) (.tup [ivP (rotS (serSin r 380 N) (serCos r 380 N) (floorD q.lo % 4)),ivP (rotC (serSin r 380 N) (serCos r 380 N) (floorD q.lo % 4))]) (by unfold rotS rotC; simp [k1,k2,k3]))))) (by kernel_rfl)
set_option maxHeartbeats 1000000 in
theorem r10Sin_zero (d:Dy) (h:d.m=0):PCt 25 [(dyP d)] (ivP (numI 0)):=by
 exact tr true Tryz.call25 Tryz.func25 (chain [tB 8 (natZ_true (limbs_len0.2 h):((((limbs d.m).length:Nat):Int) == 0)=true),.c (r10Whole_pc 0 (by omega))] <| .nil) (by kernel_rfl)
set_option maxHeartbeats 1000000 in
theorem r10Sin_pos (d:Dy) (hd:d.Valid) (hm:d.m ≠ 0) (ht:d.top ≤ 30) (S Z:Iv) (h:PCt 95 [dyP d,iP 320] (.tup [ivP S,ivP Z])):PCt 25 [(dyP d)] (ivP S):=by
 exact tr true Tryz.call25 Tryz.func25 (chain [tB 8 (natZ_false (fun q=>hm (limbs_len0.1 q)):((((limbs d.m).length:Nat):Int) == 0)=false),.c (refTop_pc _ hd.near:PCt 84 [(dyP d)] _),tF 12 (30 < (Dy.top d)) (by omega),.c (h:PCt 95 [(dyP d),(iP 320)] _)] <| .nil) (by kernel_rfl)
set_option maxHeartbeats 1000000 in
theorem r10Cos_zero (d:Dy) (h:d.m=0):PCt 26 [(dyP d)] (ivP (numI 1)):=by
 exact tr true Tryz.call26 Tryz.func26 (chain [tB 8 (natZ_true (limbs_len0.2 h):((((limbs d.m).length:Nat):Int) == 0)=true),.c (r10Whole_pc 1 (by omega))] <| .nil) (by kernel_rfl)
set_option maxHeartbeats 1000000 in
theorem r10Cos_pos (d:Dy) (hd:d.Valid) (hm:d.m ≠ 0) (ht:d.top ≤ 30) (S Z:Iv) (h:PCt 95 [dyP d,iP 320] (.tup [ivP S,ivP Z])):PCt 26 [(dyP d)] (ivP Z):=by
 exact tr true Tryz.call26 Tryz.func26 (chain [tB 8 (natZ_false (fun q=>hm (limbs_len0.1 q)):((((limbs d.m).length:Nat):Int) == 0)=false),.c (refTop_pc _ hd.near:PCt 84 [(dyP d)] _),tF 12 (30 < (Dy.top d)) (by omega),.c (h:PCt 95 [(dyP d),(iP 320)] _)] <| .nil) (by kernel_rfl)
open Go.RowKit Fp Pu
theorem G_int {z e:Int} (hz:z.natAbs < 2 ^ 40) (h1:-100 ≤ e) (h2:e ≤ 100):G 380 ((z:Rat) * P2 e):=by
 have hb:bitsN z.natAbs ≤ 40:=bitsN_le_iff.2 hz
 by_cases h:0 ≤ z
 ·refine .inl ⟨z.natAbs,e,by omega,by omega,by omega,?_⟩
  have:(z:Rat)=((z.natAbs:Nat):Rat):=by
   have:z=((z.natAbs:Nat):Int):=by omega
   rw [← Rat.intCast_natCast,← this]
  rw [this]
 ·refine .inr ⟨z.natAbs,e,by omega,by omega,by omega,?_⟩
  have:(z:Rat) = -((z.natAbs:Nat):Rat):=by
   have:z = -((z.natAbs:Nat):Int):=by omega
   rw [← Rat.intCast_natCast,← Rat.intCast_neg,← this]
  rw [this]; grind
theorem P16:P2 (-16)=1 / 65536:=by decide +kernel
theorem P8:P2 (-8)=1 / 256:=by decide +kernel
theorem hf_lo:15707 / 10000 ≤ HF1.q:=by decide +kernel
theorem hf_hi:HF2.q ≤ 1571 / 1000:=by decide +kernel
theorem hf_has {θ:Rat} (h:HF.has θ):15707 / 10000 ≤ θ ∧ θ ≤ 1571 / 1000:=by
 obtain ⟨h1,h2⟩:=h.ends (x:=HF) rfl
 have h3:=hf_lo
 have h4:=hf_hi
 replace h1:HF1.q ≤ θ:=h1
 replace h2:θ ≤ HF2.q:=h2
 exact ⟨Rat.le_trans h3 h1,Rat.le_trans h2 h4⟩
theorem hf_some:∃ θ,HF.has θ:=⟨HF1.q,.inr ⟨Rat.le_refl,hf_le⟩⟩
theorem hf_sign:signI HF ≠ 0:=by decide +kernel
theorem point_has {d:Dy} {a:Rat} (h:(pointI d).has a):a=d.q:=by
 obtain ⟨h1,h2⟩:=h.ends rfl
 exact Rat.le_antisymm h2 h1
theorem div_le_of {a b c:Rat} (hc:0 < c) (h:a ≤ b * c):a / c ≤ b:=by
 have:=Rat.mul_le_mul_of_nonneg_right h (Rat.le_of_lt (Rat.inv_pos.2 hc))
 rw [Rat.div_def]
 rwa [Rat.mul_assoc,Rat.mul_inv_cancel c (by grind),Rat.mul_one] at this
theorem le_div_of {a b c:Rat} (hc:0 < c) (h:b * c ≤ a):b ≤ a / c:=by
 have:=Rat.mul_le_mul_of_nonneg_right h (Rat.le_of_lt (Rat.inv_pos.2 hc))
 rw [Rat.div_def]
 rwa [Rat.mul_assoc,Rat.mul_inv_cancel c (by grind),Rat.mul_one] at this
def lowT (n:Int):Int:=if 0 ≤ n then n * 162 else n * 163
theorem lowT_le {n:Int} (h1:-16384 ≤ n) (h2:n ≤ 16384) {θ:Rat} (t1:15707 / 10000 ≤ θ) (t2:θ ≤ 1571 / 1000) :
  (lowT n:Rat) * (1 / 65536) * θ ≤ (n:Rat) * (1 / 256) ∧ (n:Rat) * (1 / 256) - 1 / 2 ≤ (lowT n:Rat) * (1 / 65536) * θ:=by
 unfold lowT
 have hn1:(-16384:Rat) ≤ (n:Rat):=by have:=Rat.intCast_le_intCast (a:=-16384) (b:=n); exact this.2 h1
 have hn2:(n:Rat) ≤ (16384:Rat):=by have:=Rat.intCast_le_intCast (a:=n) (b:=16384); exact this.2 h2
 by_cases h:0 ≤ n
 ·rw [if_pos h,Rat.intCast_mul]
  have h0:(0:Rat) ≤ (n:Rat):=by have:=Rat.intCast_le_intCast (a:=0) (b:=n); exact this.2 h
  rw [show ((162:Int):Rat)=162 from rfl]
  generalize (n:Rat)=x at *
  have m1:=Rat.mul_nonneg h0 (show 0 ≤ 256 - 162 * θ by grind)
  have m2:=Rat.mul_nonneg (show 0 ≤ 16384 - x by grind) (show 0 ≤ 256 - 162 * θ by grind)
  constructor <;> grind
 ·rw [if_neg h,Rat.intCast_mul]
  have h0:(n:Rat) ≤ (0:Rat):=by have:=Rat.intCast_le_intCast (a:=n) (b:=0); exact this.2 (by omega)
  rw [show ((163:Int):Rat)=163 from rfl]
  generalize (n:Rat)=x at *
  have m1:=Rat.mul_nonneg (show 0 ≤ -x by grind) (show 0 ≤ 163 * θ - 256 by grind)
  have m2:=Rat.mul_nonneg (show 0 ≤ x+16384 by grind) (show 0 ≤ 163 * θ - 256 by grind)
  constructor <;> grind
theorem turns {d:Dy} (hd:d.Valid) {n:Int} (hn:d.q=(n:Rat) * (1 / 256)) (h1:-16384 ≤ n) (h2:n ≤ 16384) {q:Iv} (hq:addI (divI (pointI d) HF 380) ⟨pow2 (-1),pow2 (-1),false⟩ 380=q) :
  q.Valid ∧ (lowT n:Rat) * (1 / 65536)+1 / 2 ≤ q.lo.q ∧ q.lo.q ≤ 65 ∧ ∀ θ,HF.has θ → (q.lo.q - 1 / 2) * θ ≤ d.q:=by
 have hn1:(-16384:Rat) ≤ (n:Rat):=by have:=Rat.intCast_le_intCast (a:=-16384) (b:=n); exact this.2 h1
 have hn2:(n:Rat) ≤ (16384:Rat):=by have:=Rat.intCast_le_intCast (a:=n) (b:=16384); exact this.2 h2
 have B:=divI_best (pointI_valid hd) hf_valid rfl hf_sign (show 1 ≤ 380 by decide) (by decide)
 have hL:(lowT n).natAbs < 2 ^ 40:=by unfold lowT; split <;> omega
 have hL2:(lowT n+32768).natAbs < 2 ^ 40:=by unfold lowT; split <;> omega
 have G1:G 380 ((lowT n:Rat) * (1 / 65536)):=by rw [← P16]; exact G_int hL (by decide) (by decide)
 have G2:G 380 64:=by have:=G_int (z:=64) (e:=0) (by decide) (by decide) (by decide); rwa [P2_zero,show ((64:Int):Rat) * 1=64 by decide +kernel] at this
 have all:∀ r,(∃ a b,(pointI d).has a ∧ HF.has b ∧ r=a / b) → (lowT n:Rat) * (1 / 65536) ≤ r ∧ r ≤ 64:=by
  rintro r ⟨a,b,ha,hb,rfl⟩
  obtain ⟨t1,t2⟩:=hf_has hb
  obtain ⟨l1,_⟩:=lowT_le h1 h2 t1 t2
  rw [point_has ha,hn]
  exact ⟨le_div_of (by grind) l1,div_le_of (by grind) (by grind)⟩
 obtain ⟨da,d1,d2⟩:=B.least _ _ G1 G2 all
 have dv:(divI (pointI d) HF 380).Valid:=divI_valid _ _ (by decide) (by decide)
 have dhas:∀ θ,HF.has θ → (divI (pointI d) HF 380).has (d.q / θ):=fun θ hθ=>B.has _ ⟨_,_,pointI_has d,hθ,rfl⟩
 have e1:(pow2 (-1)).q=1 / 2:=by rw [pow2_q]; decide +kernel
 have hv:(Iv.mk (pow2 (-1)) (pow2 (-1)) false).Valid:=.inr ⟨rfl,pow2_valid (by decide) (by decide),pow2_valid (by decide) (by decide),by show cmpD _ _ ≤ 0; rw [q_le]; exact Rat.le_refl⟩
 have B2:=addI_best dv hv da rfl (show 1 ≤ 380 by decide) (by decide)
 rw [hq] at B2
 have G3:G 380 ((lowT n:Rat) * (1 / 65536)+1 / 2):=by
  have:=G_int (z:=lowT n+32768) (e:=-16) hL2 (by decide) (by decide)
  rw [P16,Rat.intCast_add,show ((32768:Int):Rat)=32768 from rfl] at this
  rwa [show ((lowT n:Rat)+32768) * (1 / 65536)=(lowT n:Rat) * (1 / 65536)+1 / 2 by grind] at this
 have G4:G 380 65:=by have:=G_int (z:=65) (e:=0) (by decide) (by decide) (by decide); rwa [P2_zero,show ((65:Int):Rat) * 1=65 by decide +kernel] at this
 have hhalf:∀ b,(Iv.mk (pow2 (-1)) (pow2 (-1)) false).has b → b=1 / 2:=fun b hb=>by
  obtain ⟨b1,b2⟩:=hb.ends rfl
  replace b1:(pow2 (-1)).q ≤ b:=b1
  replace b2:b ≤ (pow2 (-1)).q:=b2
  rw [e1] at b1 b2
  exact Rat.le_antisymm b2 b1
 obtain ⟨qa,q1,q2⟩:=B2.least _ _ G3 G4 (by
  rintro r ⟨a,b,ha,hb,rfl⟩
  obtain ⟨a1,a2⟩:=ha.ends da
  rw [hhalf b hb]
  constructor <;> grind)
 have qv:q.Valid:=by rw [← hq]; exact addI_valid dv hv (by decide) (by decide)
 refine ⟨qv,q1,Rat.le_trans qv.q q2,fun θ hθ=>?_⟩
 have hs:=B2.has _ ⟨_,_,dhas θ hθ,(show (Iv.mk (pow2 (-1)) (pow2 (-1)) false).has (1 / 2) from .inr ⟨by rw [e1]; exact Rat.le_refl,by rw [e1]; exact Rat.le_refl⟩),rfl⟩
 obtain ⟨s1,_⟩:=hs.ends qa
 obtain ⟨t1,_⟩:=hf_has hθ
 have hpos:0 < θ:=by grind
 have:=Rat.mul_le_mul_of_nonneg_right (show q.lo.q - 1 / 2 ≤ d.q / θ by grind) (Rat.le_of_lt hpos)
 rwa [Rat.div_mul_cancel (by grind)] at this
theorem left_angle {d:Dy} (hd:d.Valid) {n:Int} (hn:d.q=(n:Rat) * (1 / 256)) (h1:-16384 ≤ n) (h2:n ≤ 16384) {k:Int} (hk:k.natAbs < 4294967296)
  (hk1:∀ θ,HF.has θ → d.q - 2 ≤ (k:Rat) * θ ∧ (k:Rat) * θ ≤ d.q+2) {r:Iv} (hr:subI (pointI d) (mulI (numI k) HF 380) 380=r) :
  r.Valid ∧ Sub r twoI ∧ ∀ θ,HF.has θ → r.has (d.q - (k:Rat) * θ):=by
 have hkv:(numI k).Valid:=numZ_valid hk
 have B:=mulI_best hkv hf_valid rfl rfl (show 1 ≤ 380 by decide) (by decide)
 have hkq:∀ a,(numI k).has a → a=(k:Rat):=fun a ha=>by rw [point_has ha,q_intD]
 have G1:G 380 (d.q - 2):=by
  have:=G_int (z:=n - 512) (e:=-8) (by omega) (by decide) (by decide)
  rw [P8,Rat.intCast_sub,show ((512:Int):Rat)=512 from rfl] at this
  rwa [show ((n:Rat) - 512) * (1 / 256)=d.q - 2 by rw [hn]; grind] at this
 have G2:G 380 (d.q+2):=by
  have:=G_int (z:=n+512) (e:=-8) (by omega) (by decide) (by decide)
  rw [P8,Rat.intCast_add,show ((512:Int):Rat)=512 from rfl] at this
  rwa [show ((n:Rat)+512) * (1 / 256)=d.q+2 by rw [hn]; grind] at this
 obtain ⟨ma,m1,m2⟩:=B.least _ _ G1 G2 (by
  rintro r ⟨a,b,ha,hb,rfl⟩
  rw [hkq a ha]; exact hk1 b hb)
 have mv:(mulI (numI k) HF 380).Valid:=mulI_valid _ _ (by decide) (by decide)
 have nv:=negI_valid mv
 have na:(negI (mulI (numI k) HF 380)).all=false:=by unfold negI; rw [ma]; rfl
 have B2:=addI_best (pointI_valid hd) nv rfl na (show 1 ≤ 380 by decide) (by decide)
 have hr':addI (pointI d) (negI (mulI (numI k) HF 380)) 380=r:=hr
 rw [hr'] at B2
 have g2:G 380 2:=by have:=G_int (z:=2) (e:=0) (by decide) (by decide) (by decide); rwa [P2_zero,show ((2:Int):Rat) * 1=2 by decide +kernel] at this
 obtain ⟨ra,r1,r2⟩:=B2.least (-2) 2 g2.neg g2 (by
  rintro r ⟨a,b,ha,hb,rfl⟩
  rw [point_has ha]
  have e1:(negI (mulI (numI k) HF 380)).lo.q = -(mulI (numI k) HF 380).hi.q:=by unfold negI; rw [ma]; exact q_neg _
  have e2:(negI (mulI (numI k) HF 380)).hi.q = -(mulI (numI k) HF 380).lo.q:=by unfold negI; rw [ma]; exact q_neg _
  obtain ⟨b1,b2⟩:=hb.ends na
  rw [e1] at b1
  rw [e2] at b2
  constructor <;> grind)
 have t1:twoI.lo.q = -2:=by decide +kernel
 have t2:twoI.hi.q=2:=by decide +kernel
 refine ⟨by rw [← hr']; exact addI_valid (pointI_valid hd) nv (by decide) (by decide),.inr ⟨ra,by rw [t1]; exact r1,by rw [t2]; exact r2⟩,fun θ hθ=>?_⟩
 rw [← hr]
 exact subI_has (pointI_valid hd) mv (by decide) (by decide) (pointI_has d) (B.has _ ⟨_,_,by have:=numI_has k; exact this,hθ,rfl⟩)
theorem twoI_valid:twoI.Valid:=by
 have h1:canonZ (-2) 0=twoI.lo:=by decide +kernel
 have h2:canonZ 2 0=twoI.hi:=by decide +kernel
 have v1:=canonZ_valid (n:=-2) (e:=0) (by decide) (by decide) (by decide)
 have v2:=canonZ_valid (n:=2) (e:=0) (by decide) (by decide) (by decide)
 rw [h1] at v1
 rw [h2] at v2
 exact .inr ⟨rfl,v1,v2,by decide +kernel⟩
theorem serT_sub {r s:Iv} (hr:r.Valid) (hs:s.Valid) (h:Sub r s):∀ j,j < 4294967296 → Sub (serT r 380 j) (serT s 380 j)
 | 0,_=>Sub.refl _
 | j+1,hj=>divI_sub (mulI_valid _ _ (by decide) (by decide)) (numI_val (j+1) hj) (mulI_valid _ _ (by decide) (by decide)) (numI_val (j+1) hj) (by decide) (by decide)
   (mulI_sub (serT_valid hr (by decide) (by decide) j) hr (serT_valid hs (by decide) (by decide) j) hs (by decide) (by decide) (serT_sub hr hs h j (by omega)) h) (Sub.refl _)
theorem mag_sub {x y:Iv} (hx:x.Valid) (hy:y.Valid) (h:Sub x y) (ya:y.all=false):(magI x).q ≤ (magI y).q:=by
 obtain ⟨_,h1,h2⟩:=h.known ya
 obtain ⟨a1,a2,a3⟩:=magI_q hx.q
 obtain ⟨b1,b2,b3⟩:=magI_q hy.q
 rcases a3 with a3 | a3 <;> grind
theorem ser_ends {r:Iv} (hr:r.Valid) (h:Sub r twoI):∃ N,7 ≤ N ∧ N ≤ 1000 ∧ (∀ x,x ≤ N → (serT r 380 x).all=false) ∧ (∀ x,x < N → x < 7 ∨ ¬ cmpD (magI (serT r 380 x)) (pow2 (0 - ((380:Nat):Int))) < 0) ∧ cmpD (magI (serT r 380 N)) (pow2 (0 - ((380:Nat):Int))) < 0:=by
 obtain ⟨e1,e2⟩:=ser_end
 have hs:=serT_sub hr twoI_valid h 100 (by decide)
 have ha:=(hs.known e1).1
 have hm:=mag_sub (serT_valid hr (by decide) (by decide) 100) (serT_valid twoI_valid (by decide) (by decide) 100) hs e1
 rw [q_lt] at e2
 have hb:cmpD (magI (serT r 380 100)) (pow2 (0 - ((380:Nat):Int))) < 0:=by rw [q_lt]; grind
 obtain ⟨N,n1,n2,n3⟩:=least_true (p:=fun x=>decide (7 ≤ x ∧ cmpD (magI (serT r 380 x)) (pow2 (0 - ((380:Nat):Int))) < 0)) (n:=101) ⟨100,by decide,decide_eq_true ⟨by decide,hb⟩⟩
 have n2':=of_decide_eq_true n2
 refine ⟨N,n2'.1,by omega,fun x hx=>?_,fun x hx=>?_,n2'.2⟩
 ·obtain ⟨d,hd⟩:∃ d,100=x+d:=⟨100 - x,by omega⟩
  rw [hd] at ha
  exact serT_all ha
 ·have:=of_decide_eq_false (n3 x hx)
  by_cases h7:x < 7
  ·exact .inl h7
  ·exact .inr fun q=>this ⟨by omega,q⟩
theorem q_top_ge {d:Dy} (h:d.m ≠ 0):P2 (d.top - 1) ≤ absQ d.q:=by
 have hT:d.top=(bitsN d.m:Int)+d.e:=by unfold Dy.top; rw [if_neg h]
 have hb:0 < bitsN d.m:=lt_bitsN_iff.2 (by rw [Nat.pow_zero]; omega)
 have h1:2 ^ (bitsN d.m - 1) ≤ d.m:=lt_bitsN_iff.1 (by omega)
 have h2:((2 ^ (bitsN d.m - 1):Nat):Rat) ≤ (d.m:Rat):=Rat.natCast_le_natCast.2 h1
 have h3:=Rat.mul_le_mul_of_nonneg_right h2 (Rat.le_of_lt (P2_pos d.e))
 rw [← P2_nat,← P2_add,show ((bitsN d.m - 1:Nat):Int)+d.e=d.top - 1 by rw [hT]; omega] at h3
 have h4:absQ d.q=(d.m:Rat) * P2 d.e:=by
  have h0:0 ≤ (d.m:Rat) * P2 d.e:=Rat.mul_nonneg Rat.natCast_nonneg (Rat.le_of_lt (P2_pos _))
  rw [q_of]
  unfold absQ
  cases d.neg
  ·simp only [Bool.false_eq_true,if_false]; rw [if_pos h0]
  ·simp only [if_true]
   split <;> grind
 rw [h4]; exact h3
theorem r10_ex (d:Dy) (hd:d.Valid) {n:Int} (hn:d.q=(n:Rat) * (1 / 256)) (h1:-16384 ≤ n) (h2:n ≤ 16384) :
  ∃ S Z,S.Valid ∧ Z.Valid ∧ Lim (SN d.q) S ∧ Lim (CS d.q) Z ∧ PCt 25 [dyP d] (ivP S) ∧ PCt 26 [dyP d] (ivP Z):=by
 by_cases hm:d.m=0
 ·have hq:d.q=0:=by rw [q_of,hm]; simp
  have hs:=cs_small (c:=0) Rat.le_refl (by decide +kernel)
  refine ⟨numI 0,numI 1,numI_val 0 (by decide),numI_val 1 (by decide),?_,?_,r10Sin_zero d hm,r10Cos_zero d hm⟩
  ·rw [hq]
   refine Lim.of_has (k:=0) fun N _=>?_
   have:=(hs N).2
   obtain ⟨_,a2,a3,_⟩:=absQ_spec (SN 0 N)
   rw [show SN 0 N=0 by grind]; exact numI_has 0
  ·rw [hq]
   refine Lim.of_has (k:=0) fun N _=>?_
   have:=(hs N).1
   obtain ⟨_,a2,a3,_⟩:=absQ_spec (CS 0 N - 1)
   rw [show CS 0 N=1 by grind]; exact numI_has 1
 ·have hn1:(-16384:Rat) ≤ (n:Rat):=by have:=Rat.intCast_le_intCast (a:=-16384) (b:=n); exact this.2 h1
  have hn2:(n:Rat) ≤ (16384:Rat):=by have:=Rat.intCast_le_intCast (a:=n) (b:=16384); exact this.2 h2
  obtain ⟨q,hq⟩:∃ q,addI (divI (pointI d) HF 380) ⟨pow2 (-1),pow2 (-1),false⟩ 380=q:=⟨_,rfl⟩
  obtain ⟨qv,q1,q2,q3⟩:=turns hd hn h1 h2 hq
  obtain ⟨f1,f2⟩:=floor_q q.lo
  have hlow:(-50:Rat) ≤ (lowT n:Rat) * (1 / 65536):=by
   obtain ⟨θ,hθ⟩:=hf_some
   obtain ⟨t1,t2⟩:=hf_has hθ
   obtain ⟨_,l2⟩:=lowT_le h1 h2 t1 t2
   apply Rat.not_lt.1
   intro hlt
   have:=Rat.mul_lt_mul_of_pos_right hlt (show 0 < θ by grind)
   grind
  have k1:-1000000 ≤ floorD q.lo:=by
   have:=Rat.intCast_le_intCast (a:=-1000000) (b:=floorD q.lo)
   apply this.1
   rw [show ((-1000000:Int):Rat) = -1000000 from rfl]
   grind
  have k2:floorD q.lo ≤ 1000000:=by
   have:=Rat.intCast_le_intCast (a:=floorD q.lo) (b:=1000000)
   apply this.1
   rw [show ((1000000:Int):Rat)=1000000 from rfl]
   grind
  have hA:flA q.lo ≤ 1000000000000:=by
   have a1:=(flA_nat (d:=q.lo)).1
   have a2:(q.lo.m:Rat) * P2 q.lo.e ≤ 1000:=by
    have:=q_of q.lo
    cases hneg:q.lo.neg <;> rw [hneg] at this <;> simp only [Bool.false_eq_true,if_false,if_true] at this <;> grind
   have a3:((flA q.lo:Nat):Rat) ≤ ((1000000000000:Nat):Rat):=by
    rw [show ((1000000000000:Nat):Rat)=1000000000000 from rfl]; grind
   exact Rat.natCast_le_natCast.1 a3
  have hqv:=qv.ends.1
  obtain ⟨r,hr0⟩:∃ r,subI (pointI d) (mulI (numI (floorD q.lo)) HF 380) 380=r:=⟨_,rfl⟩
  obtain ⟨rv,rs,rh⟩:=left_angle hd hn h1 h2 (k:=floorD q.lo) (by omega) (fun θ hθ=>by
   obtain ⟨t1,t2⟩:=hf_has hθ
   obtain ⟨_,l2⟩:=lowT_le h1 h2 t1 t2
   have h3:=q3 θ hθ
   rw [← hn] at l2
   have hpos:0 ≤ θ:=by grind
   have m1:=Rat.mul_le_mul_of_nonneg_right f1 hpos
   have m2:=Rat.mul_le_mul_of_nonneg_right (show (lowT n:Rat) * (1 / 65536) - 1 / 2 ≤ ((floorD q.lo:Int):Rat) by grind) hpos
   constructor <;> grind) hr0
  obtain ⟨N,n1,n2,n3,n4,n5⟩:=ser_ends rv rs
  have hb:=hqv.bits
  have hex:=hqv.exp
  have hll:(limbs q.lo.m).length ≤ 1000000:=by have:=hqv.len; omega
  have hsc:=r10SinCos_pc d hd q r hq qv hll (by omega) (by omega) hA k1 k2 hr0 rv N n1 n2 n3 n4 n5
  have ht:d.top ≤ 30:=by
   apply Classical.byContradiction
   intro hlt
   have g1:=q_top_ge hm
   have g2:=P2_le (show 7 ≤ d.top - 1 by omega)
   have g3:P2 7=128:=by decide +kernel
   have g4:absQ d.q ≤ 64:=by rw [hn]; exact absQ_le (by grind) (by grind)
   grind
  have tb:∀ ρ,r.has ρ → absQ ρ ≤ 2:=fun ρ hρ=>by
   have:=rs.has hρ
   obtain ⟨b1,b2⟩:=this.ends rfl
   have t1:twoI.lo.q = -2:=by decide +kernel
   have t2:twoI.hi.q=2:=by decide +kernel
   rw [t1] at b1
   rw [t2] at b2
   exact absQ_le b2 (by grind)
  obtain ⟨L1,L2⟩:=turn_lim (H:=HF) hf_half rh tb (n0:=N) (S:=serSin r 380 N) (C:=serCos r 380 N) (fun ρ hρ M hM=>series_has rv (by decide) (by decide) n1 n2 (n3 N (Nat.le_refl _)) n5 hρ (tb ρ hρ) M hM)
  have v1:=serSin_valid rv (p:=380) (by decide) (by decide) N
  have v2:=serCos_valid rv (p:=380) (by decide) (by decide) N
  refine ⟨_,_,?_,?_,L1,L2,r10Sin_pos d hd hm ht _ _ hsc,r10Cos_pos d hd hm ht _ _ hsc⟩
  ·unfold rotS; split
   ·exact v1
   ·split
    ·exact v2
    ·split
     ·exact negI_valid v1
     ·exact negI_valid v2
  ·unfold rotC; split
   ·exact v2
   ·split
    ·exact negI_valid v1
    ·split
     ·exact negI_valid v2
     ·exact v1
open Go.RowKit Fp Pu
def fn1M (a:Int):List (List Iv):=[[(pointI (canonZ a (-4)))]]
def fn2M (a:Int):List (List Iv):=[[(pointI (canonZ 0 0)),negI (pointI (canonZ a (-4)))],[(pointI (canonZ a (-4))),(pointI (canonZ 0 0))]]
theorem ivsA_le (a:Iv):E.le (.sl true 1 7 fun i j=>(ivL a).getD (i * 7+j) (.v (.bool false))) (ivsP [a]):=.sl fun i j hi hj=>by
 obtain rfl:i=0:=by omega
 rcases j with _ | _ | _ | _ | _ | _ | _ | j
 all_goals first | exact ⟨.refl _,rfl⟩ | omega
theorem ivsB_le (a b:Iv):E.le (.sl true 2 7 fun i j=>(ivL a ++ ivL b).getD (i * 7+j) (.v (.bool false))) (ivsP [a,b]):=.sl fun i j hi hj=>by
 rcases i with _ | _ | i
 ·rcases j with _ | _ | _ | _ | _ | _ | _ | j
  all_goals first | exact ⟨.refl _,rfl⟩ | omega
 ·rcases j with _ | _ | _ | _ | _ | _ | _ | j
  all_goals first | exact ⟨.refl _,rfl⟩ | omega
 ·omega
theorem matA_le (a:List Iv):E.le (.sl true 1 1 fun i_ j_=>[(ivsP a)].getD (i_ * 1+j_) (.v (.bool false))) (matP [a]):=.sl fun i j hi hj=>by
 obtain rfl:j=0:=by omega
 obtain rfl:i=0:=by omega
 exact ⟨.refl _,rfl⟩
theorem matB_le (a b:List Iv):E.le (.sl true 2 1 fun i_ j_=>[(ivsP a),(ivsP b)].getD (i_ * 1+j_) (.v (.bool false))) (matP [a,b]):=.sl fun i j hi hj=>by
 obtain rfl:j=0:=by omega
 obtain rfl | rfl:i=0 ∨ i=1:=by omega
 ·exact ⟨.refl _,rfl⟩
 ·exact ⟨.refl _,rfl⟩
theorem sixt_valid {n:Int} (h1:-1000 ≤ n) (h2:n ≤ 1000):(pointI (canonZ n (-4))).Valid:=pointI_valid (canonZ_valid (by omega) (by decide) (by decide))
set_option maxHeartbeats 1000000 in
theorem lawF_nn (a h:Int) (k p:Nat) (ha1:-128 ≤ a) (ha2:a ≤ 127) (hh1:-128 ≤ h) (hh2:h ≤ 127) (hk:k ≤ 255) (hp:p ≤ 255)   (h1:PCt 12 [matP (fn1M a),ivP (pointI (canonZ h (-4))),iP (((1+(k % 16)):Nat):Int),iP (((8+(p % 100)):Nat):Int)] (.tup [.v (.slice none 0 0),iP 15])) (h2:PCt 12 [matP (fn2M a),ivP (pointI (canonZ h (-4))),iP (((1+(k % 16)):Nat):Int),iP (((8+(p % 100)):Nat):Int)] (.tup [.v (.slice none 0 0),iP 15])):PCt 5 [(.v (.int .i8 a)),(.v (.int .i8 h)),(.v (.int .u8 (k:Int))),(.v (.int .u8 (p:Int)))] (bP true):=by
 have m5:-16384 ≤ a * h ∧ a * h ≤ 16384:=mul8 ha1 ha2 hh1 hh2
 exact tr true Tryz.call5 Tryz.func5 (chain [.c awake_pc,.o 29 (.int (i64_nat _ (by omega)):PV.le (.e (iP (IntKind.i64.wrap (k:Int)))) (.e (iP k))),.a (by omega:0 < (16:Int)),r64 (1+(((k % 16):Nat):Int)) (by omega),
  .o 33 (.int (i64_nat _ (by omega)):PV.le (.e (iP (IntKind.i64.wrap (p:Int)))) (.e (iP p))),.a (by omega:0 < (100:Int)),r64 (8+(((p % 100):Nat):Int)) (by omega),
  .c (scaled_pc a (by omega) (by omega)),.o 39 (.e (ivsA_le _):PV.le (.e (.sl true 1 7 fun i_ j_=>(ivL (pointI (canonZ a (-4)))).getD (i_ * 7+j_) (.v (.bool false)))) (.e (ivsP [(pointI (canonZ a (-4)))]))),
  .o 40 (.e (matA_le _):PV.le (.e (.sl true 1 1 fun i_ j_=>[(ivsP [(pointI (canonZ a (-4)))])].getD (i_ * 1+j_) (.v (.bool false)))) (.e (matP (fn1M a)))),.c (scaled_pc h (by omega) (by omega)),
  .c (h1:PCt 12 [(matP (fn1M a)),(ivP (pointI (canonZ h (-4)))),(iP (((1+(k % 16)):Nat):Int)),(iP (((8+(p % 100)):Nat):Int))] _),
  .o 49 (.int (wrap_small _ (by omega) (by omega)):PV.le (.e (iP (IntKind.i64.wrap a))) (.e (iP a))),.o 51 (.int (wrap_small _ (by omega) (by omega)):PV.le (.e (iP (IntKind.i64.wrap h))) (.e (iP h))),r64 (a * h) (by omega),
  .c (lawD_pc (a * h) (-8) (by omega) (by omega) (by omega)),tB 55 (by decide:((15:Int) == 0)=false),.c (lawPoint_pc 0 0 (by omega) (by omega) (by omega)),.c (scaled_pc a (by omega) (by omega)),
  .c (ivNeg_pc (pointI (canonZ a (-4))) (sixt_valid (by omega) (by omega))),
  .o 84 (.e (ivsB_le _ _):PV.le (.e (.sl true 2 7 fun i_ j_=>(ivL (pointI (canonZ 0 0)) ++ ivL (negI (pointI (canonZ a (-4))))).getD (i_ * 7+j_) (.v (.bool false)))) (.e (ivsP [(pointI (canonZ 0 0)),(negI (pointI (canonZ a (-4))))]))),
  .c (scaled_pc a (by omega) (by omega)),.c (lawPoint_pc 0 0 (by omega) (by omega) (by omega)),
  .o 88 (.e (ivsB_le _ _):PV.le (.e (.sl true 2 7 fun i_ j_=>(ivL (pointI (canonZ a (-4))) ++ ivL (pointI (canonZ 0 0))).getD (i_ * 7+j_) (.v (.bool false)))) (.e (ivsP [(pointI (canonZ a (-4))),(pointI (canonZ 0 0))]))),
  .o 89 (.e (matB_le _ _):PV.le (.e (.sl true 2 1 fun i_ j_=>[(ivsP [(pointI (canonZ 0 0)),(negI (pointI (canonZ a (-4))))]),(ivsP [(pointI (canonZ a (-4))),(pointI (canonZ 0 0))])].getD (i_ * 1+j_) (.v (.bool false)))) (.e (matP (fn2M a)))),
  .c (scaled_pc h (by omega) (by omega)),.c (h2:PCt 12 [(matP (fn2M a)),(ivP (pointI (canonZ h (-4)))),(iP (((1+(k % 16)):Nat):Int)),(iP (((8+(p % 100)):Nat):Int))] _),tB 98 (by decide:((15:Int) == 0)=false),
  tB 162 (by decide:((15:Int) == 0)=false),tB 165 (by decide:((15:Int) == 15)=true),tB 169 (by decide:((15:Int) == 0)=false),tB 172 (by decide:((15:Int) == 15)=true)] <| .nil) (by kernel_rfl)
set_option maxHeartbeats 1000000 in
theorem lawF_ny (a h:Int) (k p:Nat) (ha1:-128 ≤ a) (ha2:a ≤ 127) (hh1:-128 ≤ h) (hh2:h ≤ 127) (hk:k ≤ 255) (hp:p ≤ 255)  (Y:List (List Iv)) (gY:MOk Y 2 2) (S Z:Iv) (vS:S.Valid) (hS:PCt 25 [dyP (canonZ (a * h) (-8))] (ivP S)) (hC:PCt 26 [dyP (canonZ (a * h) (-8))] (ivP Z)) (mC:PCt 22 [ivP ((Y.getD 0 []).getD 0 wholeI),ivP Z] (.tup [ivP (meetI ((Y.getD 0 []).getD 0 wholeI) Z),bP true])) (mS:PCt 22 [ivP ((Y.getD 1 []).getD 0 wholeI),ivP S] (.tup [ivP (meetI ((Y.getD 1 []).getD 0 wholeI) S),bP true])) (mN:PCt 22 [ivP ((Y.getD 0 []).getD 1 wholeI),ivP (negI S)] (.tup [ivP (meetI ((Y.getD 0 []).getD 1 wholeI) (negI S)),bP true])) (h1:PCt 12 [matP (fn1M a),ivP (pointI (canonZ h (-4))),iP (((1+(k % 16)):Nat):Int),iP (((8+(p % 100)):Nat):Int)] (.tup [.v (.slice none 0 0),iP 15])) (h2:PCt 12 [matP (fn2M a),ivP (pointI (canonZ h (-4))),iP (((1+(k % 16)):Nat):Int),iP (((8+(p % 100)):Nat):Int)] (.tup [matP Y,iP 0])):PCt 5 [(.v (.int .i8 a)),(.v (.int .i8 h)),(.v (.int .u8 (k:Int))),(.v (.int .u8 (p:Int)))] (bP true):=by
 have m5:-16384 ≤ a * h ∧ a * h ≤ 16384:=mul8 ha1 ha2 hh1 hh2
 have rY:=gY.rows
 have y0:=gY.len_at (show 0 < 2 by decide)
 have y1:=gY.len_at (show 1 < 2 by decide)
 exact tr true Tryz.call5 Tryz.func5 (chain [.c awake_pc,.o 29 (.int (i64_nat _ (by omega)):PV.le (.e (iP (IntKind.i64.wrap (k:Int)))) (.e (iP k))),.a (by omega:0 < (16:Int)),r64 (1+(((k % 16):Nat):Int)) (by omega),
  .o 33 (.int (i64_nat _ (by omega)):PV.le (.e (iP (IntKind.i64.wrap (p:Int)))) (.e (iP p))),.a (by omega:0 < (100:Int)),r64 (8+(((p % 100):Nat):Int)) (by omega),
  .c (scaled_pc a (by omega) (by omega)),.o 39 (.e (ivsA_le _):PV.le (.e (.sl true 1 7 fun i_ j_=>(ivL (pointI (canonZ a (-4)))).getD (i_ * 7+j_) (.v (.bool false)))) (.e (ivsP [(pointI (canonZ a (-4)))]))),
  .o 40 (.e (matA_le _):PV.le (.e (.sl true 1 1 fun i_ j_=>[(ivsP [(pointI (canonZ a (-4)))])].getD (i_ * 1+j_) (.v (.bool false)))) (.e (matP (fn1M a)))),.c (scaled_pc h (by omega) (by omega)),
  .c (h1:PCt 12 [(matP (fn1M a)),(ivP (pointI (canonZ h (-4)))),(iP (((1+(k % 16)):Nat):Int)),(iP (((8+(p % 100)):Nat):Int))] _),
  .o 49 (.int (wrap_small _ (by omega) (by omega)):PV.le (.e (iP (IntKind.i64.wrap a))) (.e (iP a))),.o 51 (.int (wrap_small _ (by omega) (by omega)):PV.le (.e (iP (IntKind.i64.wrap h))) (.e (iP h))),r64 (a * h) (by omega),
  .c (lawD_pc (a * h) (-8) (by omega) (by omega) (by omega)),tB 55 (by decide:((15:Int) == 0)=false),.c (lawPoint_pc 0 0 (by omega) (by omega) (by omega)),.c (scaled_pc a (by omega) (by omega)),
  .c (ivNeg_pc (pointI (canonZ a (-4))) (sixt_valid (by omega) (by omega))),
  .o 84 (.e (ivsB_le _ _):PV.le (.e (.sl true 2 7 fun i_ j_=>(ivL (pointI (canonZ 0 0)) ++ ivL (negI (pointI (canonZ a (-4))))).getD (i_ * 7+j_) (.v (.bool false)))) (.e (ivsP [(pointI (canonZ 0 0)),(negI (pointI (canonZ a (-4))))]))),
  .c (scaled_pc a (by omega) (by omega)),.c (lawPoint_pc 0 0 (by omega) (by omega) (by omega)),
  .o 88 (.e (ivsB_le _ _):PV.le (.e (.sl true 2 7 fun i_ j_=>(ivL (pointI (canonZ a (-4))) ++ ivL (pointI (canonZ 0 0))).getD (i_ * 7+j_) (.v (.bool false)))) (.e (ivsP [(pointI (canonZ a (-4))),(pointI (canonZ 0 0))]))),
  .o 89 (.e (matB_le _ _):PV.le (.e (.sl true 2 1 fun i_ j_=>[(ivsP [(pointI (canonZ 0 0)),(negI (pointI (canonZ a (-4))))]),(ivsP [(pointI (canonZ a (-4))),(pointI (canonZ 0 0))])].getD (i_ * 1+j_) (.v (.bool false)))) (.e (matP (fn2M a)))),
  .c (scaled_pc h (by omega) (by omega)),.c (h2:PCt 12 [(matP (fn2M a)),(ivP (pointI (canonZ h (-4)))),(iP (((1+(k % 16)):Nat):Int)),(iP (((8+(p % 100)):Nat):Int))] _),tB 98 (by decide:((0:Int) == 0)=true),
  tB 101 (natNe_false (by omega):((Y.length:Int) != 2)=false),iX (0) (Y.length) (by omega),tB 107 (natNe_false (by omega):((((Y.getD 0 []).length:Nat):Int) != 2)=false),iX (1) (Y.length) (by omega),
  tB 114 (natNe_false (by omega):((((Y.getD 1 []).length:Nat):Int) != 2)=false),.c (hS:PCt 25 [(dyP (canonZ (a * h) (-8)))] _),.c (hC:PCt 26 [(dyP (canonZ (a * h) (-8)))] _),iX (0) (Y.length) (by omega),
  iX (0) ((Y.getD 0 []).length) (by omega),.c (mC:PCt 22 [(ivP ((Y.getD 0 []).getD 0 wholeI)),(ivP Z)] _),iX (1) (Y.length) (by omega),iX (0) ((Y.getD 1 []).length) (by omega),
  .c (mS:PCt 22 [(ivP ((Y.getD 1 []).getD 0 wholeI)),(ivP S)] _),iX (0) (Y.length) (by omega),iX (1) ((Y.getD 0 []).length) (by omega),.c (ivNeg_pc S vS),.c (mN:PCt 22 [(ivP ((Y.getD 0 []).getD 1 wholeI)),(ivP (negI S))] _),
  tB 162 (by decide:((15:Int) == 0)=false),tB 165 (by decide:((15:Int) == 15)=true),tB 169 (by decide:((0:Int) == 0)=true)] <| .nil) (by kernel_rfl)
set_option maxHeartbeats 1000000 in
theorem lawF_yn (a h:Int) (k p:Nat) (ha1:-128 ≤ a) (ha2:a ≤ 127) (hh1:-128 ≤ h) (hh2:h ≤ 127) (hk:k ≤ 255) (hp:p ≤ 255) (X:List (List Iv)) (gX:MOk X 1 1) (E:Iv) (hX:PCt 23 [dyP (canonZ (a * h) (-8))] (ivP E)) (mE:PCt 22 [ivP ((X.getD 0 []).getD 0 wholeI),ivP E] (.tup [ivP (meetI ((X.getD 0 []).getD 0 wholeI) E),bP true]))  (h1:PCt 12 [matP (fn1M a),ivP (pointI (canonZ h (-4))),iP (((1+(k % 16)):Nat):Int),iP (((8+(p % 100)):Nat):Int)] (.tup [matP X,iP 0])) (h2:PCt 12 [matP (fn2M a),ivP (pointI (canonZ h (-4))),iP (((1+(k % 16)):Nat):Int),iP (((8+(p % 100)):Nat):Int)] (.tup [.v (.slice none 0 0),iP 15])):PCt 5 [(.v (.int .i8 a)),(.v (.int .i8 h)),(.v (.int .u8 (k:Int))),(.v (.int .u8 (p:Int)))] (bP true):=by
 have m5:-16384 ≤ a * h ∧ a * h ≤ 16384:=mul8 ha1 ha2 hh1 hh2
 have rX:=gX.rows
 have x0:=gX.len_at (show 0 < 1 by decide)
 exact tr true Tryz.call5 Tryz.func5 (chain [.c awake_pc,.o 29 (.int (i64_nat _ (by omega)):PV.le (.e (iP (IntKind.i64.wrap (k:Int)))) (.e (iP k))),.a (by omega:0 < (16:Int)),r64 (1+(((k % 16):Nat):Int)) (by omega),
  .o 33 (.int (i64_nat _ (by omega)):PV.le (.e (iP (IntKind.i64.wrap (p:Int)))) (.e (iP p))),.a (by omega:0 < (100:Int)),r64 (8+(((p % 100):Nat):Int)) (by omega),
  .c (scaled_pc a (by omega) (by omega)),.o 39 (.e (ivsA_le _):PV.le (.e (.sl true 1 7 fun i_ j_=>(ivL (pointI (canonZ a (-4)))).getD (i_ * 7+j_) (.v (.bool false)))) (.e (ivsP [(pointI (canonZ a (-4)))]))),
  .o 40 (.e (matA_le _):PV.le (.e (.sl true 1 1 fun i_ j_=>[(ivsP [(pointI (canonZ a (-4)))])].getD (i_ * 1+j_) (.v (.bool false)))) (.e (matP (fn1M a)))),.c (scaled_pc h (by omega) (by omega)),
  .c (h1:PCt 12 [(matP (fn1M a)),(ivP (pointI (canonZ h (-4)))),(iP (((1+(k % 16)):Nat):Int)),(iP (((8+(p % 100)):Nat):Int))] _),
  .o 49 (.int (wrap_small _ (by omega) (by omega)):PV.le (.e (iP (IntKind.i64.wrap a))) (.e (iP a))),.o 51 (.int (wrap_small _ (by omega) (by omega)):PV.le (.e (iP (IntKind.i64.wrap h))) (.e (iP h))),r64 (a * h) (by omega),
  .c (lawD_pc (a * h) (-8) (by omega) (by omega) (by omega)),tB 55 (by decide:((0:Int) == 0)=true),tB 58 (natNe_false (by omega):((X.length:Int) != 1)=false),iX (0) (X.length) (by omega),
  tB 64 (natNe_false (by omega):((((X.getD 0 []).length:Nat):Int) != 1)=false),iX (0) (X.length) (by omega),iX (0) ((X.getD 0 []).length) (by omega),.c (hX:PCt 23 [(dyP (canonZ (a * h) (-8)))] _),
  .c (mE:PCt 22 [(ivP ((X.getD 0 []).getD 0 wholeI)),(ivP E)] _),.c (lawPoint_pc 0 0 (by omega) (by omega) (by omega)),.c (scaled_pc a (by omega) (by omega)),.c (ivNeg_pc (pointI (canonZ a (-4))) (sixt_valid (by omega) (by omega))),
  .o 84 (.e (ivsB_le _ _):PV.le (.e (.sl true 2 7 fun i_ j_=>(ivL (pointI (canonZ 0 0)) ++ ivL (negI (pointI (canonZ a (-4))))).getD (i_ * 7+j_) (.v (.bool false)))) (.e (ivsP [(pointI (canonZ 0 0)),(negI (pointI (canonZ a (-4))))]))),
  .c (scaled_pc a (by omega) (by omega)),.c (lawPoint_pc 0 0 (by omega) (by omega) (by omega)),
  .o 88 (.e (ivsB_le _ _):PV.le (.e (.sl true 2 7 fun i_ j_=>(ivL (pointI (canonZ a (-4))) ++ ivL (pointI (canonZ 0 0))).getD (i_ * 7+j_) (.v (.bool false)))) (.e (ivsP [(pointI (canonZ a (-4))),(pointI (canonZ 0 0))]))),
  .o 89 (.e (matB_le _ _):PV.le (.e (.sl true 2 1 fun i_ j_=>[(ivsP [(pointI (canonZ 0 0)),(negI (pointI (canonZ a (-4))))]),(ivsP [(pointI (canonZ a (-4))),(pointI (canonZ 0 0))])].getD (i_ * 1+j_) (.v (.bool false)))) (.e (matP (fn2M a)))),
  .c (scaled_pc h (by omega) (by omega)),.c (h2:PCt 12 [(matP (fn2M a)),(ivP (pointI (canonZ h (-4)))),(iP (((1+(k % 16)):Nat):Int)),(iP (((8+(p % 100)):Nat):Int))] _),tB 98 (by decide:((15:Int) == 0)=false),
  tB 162 (by decide:((0:Int) == 0)=true),tB 169 (by decide:((15:Int) == 0)=false),tB 172 (by decide:((15:Int) == 15)=true)] <| .nil) (by kernel_rfl)
set_option maxHeartbeats 1000000 in
theorem lawF_yy (a h:Int) (k p:Nat) (ha1:-128 ≤ a) (ha2:a ≤ 127) (hh1:-128 ≤ h) (hh2:h ≤ 127) (hk:k ≤ 255) (hp:p ≤ 255) (X:List (List Iv)) (gX:MOk X 1 1) (E:Iv) (hX:PCt 23 [dyP (canonZ (a * h) (-8))] (ivP E)) (mE:PCt 22 [ivP ((X.getD 0 []).getD 0 wholeI),ivP E] (.tup [ivP (meetI ((X.getD 0 []).getD 0 wholeI) E),bP true])) (Y:List (List Iv)) (gY:MOk Y 2 2) (S Z:Iv) (vS:S.Valid) (hS:PCt 25 [dyP (canonZ (a * h) (-8))] (ivP S)) (hC:PCt 26 [dyP (canonZ (a * h) (-8))] (ivP Z)) (mC:PCt 22 [ivP ((Y.getD 0 []).getD 0 wholeI),ivP Z] (.tup [ivP (meetI ((Y.getD 0 []).getD 0 wholeI) Z),bP true])) (mS:PCt 22 [ivP ((Y.getD 1 []).getD 0 wholeI),ivP S] (.tup [ivP (meetI ((Y.getD 1 []).getD 0 wholeI) S),bP true])) (mN:PCt 22 [ivP ((Y.getD 0 []).getD 1 wholeI),ivP (negI S)] (.tup [ivP (meetI ((Y.getD 0 []).getD 1 wholeI) (negI S)),bP true])) (h1:PCt 12 [matP (fn1M a),ivP (pointI (canonZ h (-4))),iP (((1+(k % 16)):Nat):Int),iP (((8+(p % 100)):Nat):Int)] (.tup [matP X,iP 0])) (h2:PCt 12 [matP (fn2M a),ivP (pointI (canonZ h (-4))),iP (((1+(k % 16)):Nat):Int),iP (((8+(p % 100)):Nat):Int)] (.tup [matP Y,iP 0])):PCt 5 [(.v (.int .i8 a)),(.v (.int .i8 h)),(.v (.int .u8 (k:Int))),(.v (.int .u8 (p:Int)))] (bP true):=by
 have m5:-16384 ≤ a * h ∧ a * h ≤ 16384:=mul8 ha1 ha2 hh1 hh2
 have rX:=gX.rows
 have x0:=gX.len_at (show 0 < 1 by decide)
 have rY:=gY.rows
 have y0:=gY.len_at (show 0 < 2 by decide)
 have y1:=gY.len_at (show 1 < 2 by decide)
 exact tr true Tryz.call5 Tryz.func5 (chain [.c awake_pc,.o 29 (.int (i64_nat _ (by omega)):PV.le (.e (iP (IntKind.i64.wrap (k:Int)))) (.e (iP k))),.a (by omega:0 < (16:Int)),r64 (1+(((k % 16):Nat):Int)) (by omega),
  .o 33 (.int (i64_nat _ (by omega)):PV.le (.e (iP (IntKind.i64.wrap (p:Int)))) (.e (iP p))),.a (by omega:0 < (100:Int)),r64 (8+(((p % 100):Nat):Int)) (by omega),
  .c (scaled_pc a (by omega) (by omega)),.o 39 (.e (ivsA_le _):PV.le (.e (.sl true 1 7 fun i_ j_=>(ivL (pointI (canonZ a (-4)))).getD (i_ * 7+j_) (.v (.bool false)))) (.e (ivsP [(pointI (canonZ a (-4)))]))),
  .o 40 (.e (matA_le _):PV.le (.e (.sl true 1 1 fun i_ j_=>[(ivsP [(pointI (canonZ a (-4)))])].getD (i_ * 1+j_) (.v (.bool false)))) (.e (matP (fn1M a)))),.c (scaled_pc h (by omega) (by omega)),
  .c (h1:PCt 12 [(matP (fn1M a)),(ivP (pointI (canonZ h (-4)))),(iP (((1+(k % 16)):Nat):Int)),(iP (((8+(p % 100)):Nat):Int))] _),
  .o 49 (.int (wrap_small _ (by omega) (by omega)):PV.le (.e (iP (IntKind.i64.wrap a))) (.e (iP a))),.o 51 (.int (wrap_small _ (by omega) (by omega)):PV.le (.e (iP (IntKind.i64.wrap h))) (.e (iP h))),r64 (a * h) (by omega),
  .c (lawD_pc (a * h) (-8) (by omega) (by omega) (by omega)),tB 55 (by decide:((0:Int) == 0)=true),tB 58 (natNe_false (by omega):((X.length:Int) != 1)=false),iX (0) (X.length) (by omega),
  tB 64 (natNe_false (by omega):((((X.getD 0 []).length:Nat):Int) != 1)=false),iX (0) (X.length) (by omega),iX (0) ((X.getD 0 []).length) (by omega),.c (hX:PCt 23 [(dyP (canonZ (a * h) (-8)))] _),
  .c (mE:PCt 22 [(ivP ((X.getD 0 []).getD 0 wholeI)),(ivP E)] _),.c (lawPoint_pc 0 0 (by omega) (by omega) (by omega)),.c (scaled_pc a (by omega) (by omega)),.c (ivNeg_pc (pointI (canonZ a (-4))) (sixt_valid (by omega) (by omega))),
  .o 84 (.e (ivsB_le _ _):PV.le (.e (.sl true 2 7 fun i_ j_=>(ivL (pointI (canonZ 0 0)) ++ ivL (negI (pointI (canonZ a (-4))))).getD (i_ * 7+j_) (.v (.bool false)))) (.e (ivsP [(pointI (canonZ 0 0)),(negI (pointI (canonZ a (-4))))]))),
  .c (scaled_pc a (by omega) (by omega)),.c (lawPoint_pc 0 0 (by omega) (by omega) (by omega)),
  .o 88 (.e (ivsB_le _ _):PV.le (.e (.sl true 2 7 fun i_ j_=>(ivL (pointI (canonZ a (-4))) ++ ivL (pointI (canonZ 0 0))).getD (i_ * 7+j_) (.v (.bool false)))) (.e (ivsP [(pointI (canonZ a (-4))),(pointI (canonZ 0 0))]))),
  .o 89 (.e (matB_le _ _):PV.le (.e (.sl true 2 1 fun i_ j_=>[(ivsP [(pointI (canonZ 0 0)),(negI (pointI (canonZ a (-4))))]),(ivsP [(pointI (canonZ a (-4))),(pointI (canonZ 0 0))])].getD (i_ * 1+j_) (.v (.bool false)))) (.e (matP (fn2M a)))),
  .c (scaled_pc h (by omega) (by omega)),.c (h2:PCt 12 [(matP (fn2M a)),(ivP (pointI (canonZ h (-4)))),(iP (((1+(k % 16)):Nat):Int)),(iP (((8+(p % 100)):Nat):Int))] _),tB 98 (by decide:((0:Int) == 0)=true),
  tB 101 (natNe_false (by omega):((Y.length:Int) != 2)=false),iX (0) (Y.length) (by omega),tB 107 (natNe_false (by omega):((((Y.getD 0 []).length:Nat):Int) != 2)=false),iX (1) (Y.length) (by omega),
  tB 114 (natNe_false (by omega):((((Y.getD 1 []).length:Nat):Int) != 2)=false),.c (hS:PCt 25 [(dyP (canonZ (a * h) (-8)))] _),.c (hC:PCt 26 [(dyP (canonZ (a * h) (-8)))] _),iX (0) (Y.length) (by omega),
  iX (0) ((Y.getD 0 []).length) (by omega),.c (mC:PCt 22 [(ivP ((Y.getD 0 []).getD 0 wholeI)),(ivP Z)] _),iX (1) (Y.length) (by omega),iX (0) ((Y.getD 1 []).length) (by omega),
  .c (mS:PCt 22 [(ivP ((Y.getD 1 []).getD 0 wholeI)),(ivP S)] _),iX (0) (Y.length) (by omega),iX (1) ((Y.getD 0 []).length) (by omega),.c (ivNeg_pc S vS),.c (mN:PCt 22 [(ivP ((Y.getD 0 []).getD 1 wholeI)),(ivP (negI S))] _),
  tB 162 (by decide:((0:Int) == 0)=true),tB 169 (by decide:((0:Int) == 0)=true)] <| .nil) (by kernel_rfl)
theorem one_TQ (m t:Rat):∀ j,TQ 1 (fun _ _=>m) t j 0 0=eQ (t * m) j
 | 0=>rfl
 | j+1=>by
  show t / ((j+1:Nat):Rat) * mulQ 1 (TQ 1 (fun _ _=>m) t j) (fun _ _=>m) 0 0=eQ (t * m) j * (t * m / ((j+1:Nat):Rat))
  simp only [mulQ,sumQ]
  rw [one_TQ m t j]
  simp only [Rat.div_def]
  grind
theorem one_SQ (m t:Rat):∀ N,SQ 1 (fun _ _=>m) t N 0 0=EQ (t * m) N
 | 0=>by
  show TQ 1 (fun _ _=>m) t 0 0 0=0+eQ (t * m) 0
  rw [one_TQ]; grind
 | N+1=>by
  show SQ 1 (fun _ _=>m) t N 0 0+TQ 1 (fun _ _=>m) t (N+1) 0 0=EQ (t * m) N+eQ (t * m) (N+1)
  rw [one_SQ m t N,one_TQ]
theorem lim_neg {f:Nat → Rat} {X:Iv} (h:Lim f X):Lim (fun N=>-f N) (negI X):=fun ε hε=>by
 obtain ⟨N0,h0⟩:=h ε hε
 refine ⟨N0,fun N hN=>?_⟩
 obtain ⟨r,hr,hd⟩:=h0 N hN
 refine ⟨-r,negI_has hr,?_⟩
 obtain ⟨_,a2,a3,_⟩:=absQ_spec (f N - r)
 exact absQ_le (by grind) (by grind)
theorem zer_val:(pointI (canonZ 0 0)).Valid:=pointI_valid (canonZ_valid (by decide) (by decide) (by decide))
theorem fn1M_ok {a:Int} (h1:-128 ≤ a) (h2:a ≤ 127):MOk (fn1M a) 1 1:=by
 have va:=sixt_valid (n:=a) (by omega) (by omega)
 refine mok_of (by decide) (by decide) (by decide) (by decide) rfl fun r hr=>?_
 simp only [fn1M,List.mem_cons,List.not_mem_nil,or_false] at hr
 subst hr
 refine ⟨rfl,fun x hx=>?_⟩
 simp only [List.mem_cons,List.not_mem_nil,or_false] at hx
 subst hx; exact va
theorem fn2M_ok {a:Int} (h1:-128 ≤ a) (h2:a ≤ 127):MOk (fn2M a) 2 2:=by
 have va:=sixt_valid (n:=a) (by omega) (by omega)
 have vn:=negI_valid va
 have vz:=zer_val
 refine mok_of (by decide) (by decide) (by decide) (by decide) rfl fun r hr=>?_
 simp only [fn2M,List.mem_cons,List.not_mem_nil,or_false] at hr
 rcases hr with rfl | rfl <;> refine ⟨rfl,fun x hx=>?_⟩ <;> simp only [List.mem_cons,List.not_mem_nil,or_false] at hx <;> rcases hx with rfl | rfl <;> assumption
theorem fn1M_has (a:Int):HasM 1 1 (fn1M a) (fun _ _=>(a:Rat) * P2 (-4)):=by
 intro i j hi hj
 obtain rfl:i=0:=by omega
 obtain rfl:j=0:=by omega
 exact scale_has _ _
theorem fn2M_has (a:Int):HasM 2 2 (fn2M a) (rotQ ((a:Rat) * P2 (-4))):=by
 have hz:(pointI (canonZ 0 0)).has 0:=by have:=scale_has 0 0; simpa using this
 intro i j hi hj
 rcases two hi with rfl | rfl <;> rcases two hj with rfl | rfl
 ·exact hz
 ·exact negI_has (scale_has _ _)
 ·exact scale_has _ _
 ·exact hz
theorem law_functions (a h k p:Int) (ha:rng .i8 a) (hh:rng .i8 h) (hk:rng .u8 k) (hp:rng .u8 p) :
  PCt 5 [.v (.int .i8 a),.v (.int .i8 h),.v (.int .u8 k),.v (.int .u8 p)] (bP true):=by
 simp only [rng] at ha hh hk hp
 obtain ⟨k,rfl⟩:=Int.eq_ofNat_of_zero_le hk.1
 obtain ⟨p,rfl⟩:=Int.eq_ofNat_of_zero_le hp.1
 obtain ⟨ha1,ha2⟩:=ha
 obtain ⟨hh1,hh2⟩:=hh
 have m5:-16384 ≤ a * h ∧ a * h ≤ 16384:=mul8 ha1 ha2 hh1 hh2
 have hd:(canonZ (a * h) (-8)).Valid:=canonZ_valid (by omega) (by decide) (by decide)
 have hq:(canonZ (a * h) (-8)).q=((a * h:Int):Rat) * (1 / 256):=by rw [scale_q,P8]
 have hang:((h:Rat) * P2 (-4)) * ((a:Rat) * P2 (-4))=(canonZ (a * h) (-8)).q:=by
  have e:P2 (-4)=1 / 16:=by decide +kernel
  rw [hq,e,Rat.intCast_mul]; grind
 have g1:=fn1M_ok ha1 ha2
 have g2:=fn2M_ok ha1 ha2
 have vh:=sixt_valid (n:=h) (by omega) (by omega)
 have E1:=exp_pc (fn1M a) (pointI (canonZ h (-4))) 1 (1+(k % 16)) (8+(p % 100)) g1 vh rfl (by omega) (by omega) (by omega) (by omega)
 have E2:=exp_pc (fn2M a) (pointI (canonZ h (-4))) 2 (1+(k % 16)) (8+(p % 100)) g2 vh rfl (by omega) (by omega) (by omega) (by omega)
 obtain ⟨E,vE,lE,pE⟩:=r9Exp_ex (canonZ (a * h) (-8)) hd
 obtain ⟨S,Z,vS,vZ,lS,lC,pS,pC⟩:=r10_ex (canonZ (a * h) (-8)) hd (n:=a * h) hq m5.1 m5.2
 have side1:∀ X,expM (fn1M a) (pointI (canonZ h (-4))) (1+(k % 16)) (8+(p % 100))=some X → MOk X 1 1 ∧ PCt 22 [ivP ((X.getD 0 []).getD 0 wholeI),ivP E] (.tup [ivP (meetI ((X.getD 0 []).getD 0 wholeI) E),bP true]):=by
  intro X hx
  have gX:=expM_ok g1 vh (by omega) (by omega) (by omega) hx
  refine ⟨gX,ivMeet_yes _ _ (mok_at gX 0 0) vE (Lim.meet (f:=EQ (canonZ (a * h) (-8)).q) (k:=1+k % 16) (fun N hN=>?_) lE)⟩
  have:=expM_has g1 vh (by omega) (by omega) (fn1M_has a) (scale_has h (-4)) rfl (by omega) hx N hN 0 0 (by decide) (by decide)
  rw [one_SQ,hang] at this
  exact this
 have side2:∀ Y,expM (fn2M a) (pointI (canonZ h (-4))) (1+(k % 16)) (8+(p % 100))=some Y → MOk Y 2 2 ∧ PCt 22 [ivP ((Y.getD 0 []).getD 0 wholeI),ivP Z] (.tup [ivP (meetI ((Y.getD 0 []).getD 0 wholeI) Z),bP true]) ∧ PCt 22 [ivP ((Y.getD 1 []).getD 0 wholeI),ivP S] (.tup [ivP (meetI ((Y.getD 1 []).getD 0 wholeI) S),bP true]) ∧ PCt 22 [ivP ((Y.getD 0 []).getD 1 wholeI),ivP (negI S)] (.tup [ivP (meetI ((Y.getD 0 []).getD 1 wholeI) (negI S)),bP true]):=by
  intro Y hy
  have gY:=expM_ok g2 vh (by omega) (by omega) (by omega) hy
  have key:∀ N,1+k % 16 ≤ N → ∀ i j,i < 2 → j < 2 → (elM Y i j).has (rotE (CS (canonZ (a * h) (-8)).q N) (SN (canonZ (a * h) (-8)).q N) i j):=by
   intro N hN i j hi hj
   have:=expM_has g2 vh (by omega) (by omega) (fn2M_has a) (scale_has h (-4)) rfl (by omega) hy N hN i j hi hj
   rw [rot_SQ _ _ _ hi hj,hang] at this
   exact this
  refine ⟨gY,ivMeet_yes _ _ (mok_at gY 0 0) vZ (Lim.meet (k:=1+k % 16) (fun N hN=>key N hN 0 0 (by decide) (by decide)) lC),ivMeet_yes _ _ (mok_at gY 1 0) vS (Lim.meet (k:=1+k % 16) (fun N hN=>key N hN 1 0 (by decide) (by decide)) lS),ivMeet_yes _ _ (mok_at gY 0 1) (negI_valid vS) (Lim.meet (k:=1+k % 16) (fun N hN=>key N hN 0 1 (by decide) (by decide)) (lim_neg lS))⟩
 cases hx:expM (fn1M a) (pointI (canonZ h (-4))) (1+(k % 16)) (8+(p % 100)) with
 | none =>
  cases hy:expM (fn2M a) (pointI (canonZ h (-4))) (1+(k % 16)) (8+(p % 100)) with
  | none=>exact lawF_nn a h k p ha1 ha2 hh1 hh2 (by omega) (by omega) (E1.2 hx) (E2.2 hy)
  | some Y =>
   obtain ⟨gY,c1,c2,c3⟩:=side2 Y hy
   exact lawF_ny a h k p ha1 ha2 hh1 hh2 (by omega) (by omega) Y gY S Z vS pS pC c1 c2 c3 (E1.2 hx) (E2.1 Y hy)
 | some X =>
  obtain ⟨gX,b1⟩:=side1 X hx
  cases hy:expM (fn2M a) (pointI (canonZ h (-4))) (1+(k % 16)) (8+(p % 100)) with
  | none=>exact lawF_yn a h k p ha1 ha2 hh1 hh2 (by omega) (by omega) X gX E pE b1 (E1.1 X hx) (E2.2 hy)
  | some Y =>
   obtain ⟨gY,c1,c2,c3⟩:=side2 Y hy
   exact lawF_yy a h k p ha1 ha2 hh1 hh2 (by omega) (by omega) X gX E pE b1 Y gY S Z vS pS pC c1 c2 c3 (E1.1 X hx) (E2.1 Y hy)
open Go.ChangeShapes Go.WideShapes Go.ChangeAt Go.RowKit Fp Pu
def functionsArgs:Array Value:=#[.int .i8 0,.int .i8 0,.int .u8 0,.int .u8 0]
set_option maxRecDepth 100000 in
theorem functions_contract (H:Type) (enc:TypeId × Value → H) (W:World) (base:Nat) (args:Array Value) (ds gs:List (DataW H)) (before:List MemPlace)
  (hval:∀ (j:Nat) t v,Tryz.f5.params[j]? = some t → args[j]? = some v → Value.okWide Tryz.prog W .any base t v)
  (hW:DataW.Whole enc Tryz.prog Tryz.f5.params.toList Rows.variationFunctionsSpec.vars false W args.toList ds gs before) (hL:laidMetH Tryz.prog Rows.variationFunctionsRow.laid W) :
  Calls Tryz.prog 5 args W fun e W'=>∃ v,e = .returned v ∧ Rows.variationFunctionsSpec.post enc Tryz.prog Tryz.f5 false true false false W args v W':=by
 have hW':=hW
 obtain ⟨p,q,hA0,hV,rfl,hfz,hnd⟩:=hW
 have hA:DataW.TrodAll enc Tryz.prog W 0 (fun _=>true) true Tryz.f5.params.toList args.toList ds p:=hA0
 rw [Tryz.params5] at hA hval
 obtain ⟨v0,vs0,d0,ds0,p0,q0,hvs,rfl,rfl,h0,hA0⟩:=trodAll_cons hA
 obtain ⟨v1,vs1,d1,ds1,p1,q1,rfl,rfl,rfl,h1,hA1⟩:=trodAll_cons hA0
 obtain ⟨v2,vs2,d2,ds2,p2,q2,rfl,rfl,rfl,h2,hA2⟩:=trodAll_cons hA1
 obtain ⟨v3,vs3,d3,ds3,p3,q3,rfl,rfl,rfl,h3,hA3⟩:=trodAll_cons hA2
 obtain ⟨rfl,rfl,rfl⟩:=trodAll_nil hA3
 obtain rfl:args = #[v0,v1,v2,v3]:=by cases args; simp_all
 obtain ⟨rfl,rfl⟩:=trodVars_none hV
 obtain ⟨x0,rfl,rfl,rfl,b0⟩:=open_int Tryz.underlying22 (hval 0 22 v0 rfl rfl) h0
 obtain ⟨x1,rfl,rfl,rfl,b1⟩:=open_int Tryz.underlying22 (hval 1 22 v1 rfl rfl) h1
 obtain ⟨x2,rfl,rfl,rfl,b2⟩:=open_int Tryz.underlying5 (hval 2 5 v2 rfl rfl) h2
 obtain ⟨x3,rfl,rfl,rfl,b3⟩:=open_int Tryz.underlying5 (hval 3 5 v3 rfl rfl) h3
 clear hA0
 have hrun:=(law_functions x0 x1 x2 x3 (wf_rng b0) (wf_rng b1) (wf_rng b2) (wf_rng b3)).run W noB [.int .i8 x0,.int .i8 x1,.int .u8 x2,.int .u8 x3] (tb_of_laid rfl hL) (fun _ h=>h.elim) (.cons (.v _) (.cons (.v _) (.cons (.v _) (.cons (.v _) (.nil _ _ _)))))
 refine hrun.mono fun r W' ⟨v,hr,hb,hrep⟩=>?_
 obtain rfl:=Rep.v_inv hrep
 subst hr
 refine ⟨_,rfl,_,_,_,[],[] ++ ([] ++ ([] ++ ([]))),[],hW',?_,?_,rfl,hb.frame _,fun h=>by cases h⟩
 ·exact trodAll_mk1 (shut_bool Tryz.underlying4 _)
 ·exact ⟨[],_,(Below.trod laidOut (by kernel_rfl) (of_decide_eq_true (by kernel_rfl)) h0 hb (fun _ h=>by cases h)),⟨[],_,(Below.trod laidOut (by kernel_rfl) (of_decide_eq_true (by kernel_rfl)) h1 hb (fun _ h=>by cases h)),⟨[],_,(Below.trod laidOut (by kernel_rfl) (of_decide_eq_true (by kernel_rfl)) h2 hb (fun _ h=>by cases h)),trodAll_mk1 (Below.trod laidOut (by kernel_rfl) (of_decide_eq_true (by kernel_rfl)) h3 hb (fun _ h=>by cases h)),rfl⟩,rfl⟩,rfl⟩
theorem functions_met (os:Os):laidMet Tryz.prog Rows.variationFunctionsRow.laid ((laidWorld os functionsArgs).forCall (fun _ _=>0) ⟨#[],functionsArgs,[]⟩).memory :=
 laidMet_of_run' 8 (by kernel_rfl) (by kernel_rfl)
theorem functions_reads (os:Os) {H:Type} (enc:TypeId × Value → H):∃ places,DataW.whole enc Tryz.prog ((laidWorld os functionsArgs).forCall (fun _ _=>0) ⟨#[],functionsArgs,[]⟩).memory Tryz.f5.params.toList Rows.variationFunctionsSpec.vars false functionsArgs.toList 8=some ([.lit (.int .i8 0),.lit (.int .i8 0),.lit (.int .u8 0),.lit (.int .u8 0)],[],places) :=
 ⟨[],by kernel_rfl⟩
set_option maxRecDepth 100000 in
theorem functions_lifted (os:Os) (started:os.Started) (H:Type) (enc:TypeId × Value → H) (F:Stop.Interp) :
  ReturnsInHanded {} Tryz.checked os 5 .any ((OpenSpec.ofChange Rows.variationFunctionsSpec).preRow enc Tryz.prog Tryz.f5 Rows.variationFunctionsRow.domain false Rows.variationFunctionsRow.laid) (((OpenSpec.ofChange Rows.variationFunctionsSpec).at F).post enc Tryz.prog Tryz.f5 false true false false):=by
 obtain ⟨places,hx⟩:=functions_reads os enc
 refine returnsInHanded_of_row (C:=Tryz.checked) (s:=OpenSpec.ofChange Rows.variationFunctionsSpec) own started (by kernel_rfl) Tryz.func5
  (witness_row_at (enc:=enc) (C:=Tryz.checked) false (laidWorld os functionsArgs) functionsArgs rfl (by kernel_rfl) (by kernel_rfl) (by kernel_rfl)
   (OpenSpec.preRow_of_cond 8 hx (by kernel_rfl) (fun k hk=>by cases hk) (by kernel_rfl) (functions_met os))) ?_
 intro W base args ds gs before hval hW _ _ _ hL _ _
 exact functions_contract H enc W base args ds gs before hval hW hL
theorem functions_said:Rows.VariationFunctionsSaid :=
 OpenClaim.holds_of_cond 5 Tryz.f5 rfl rfl rfl rfl rfl rfl rfl ⟨rfl,rfl,rfl,rfl,rfl⟩ rfl rfl rfl rfl rfl (by kernel_rfl) Tryz.func5 (by kernel_rfl)
  (of_decide_eq_true (by kernel_rfl)) (by unfold Func.isWrapper; first | (rw [if_pos (by decide +kernel)]; kernel_rfl) | (rw [if_neg (by decide +kernel)]; exact ⟨rfl,rfl⟩))
  (fun os started H enc _ F=>by rw [OpenClaim.pre_eq_preRow]; exact functions_lifted os started H enc F)
theorem functions_plain (f:FuncId) (fn:Func) (hf:Tryz.pinned.checked.prog.funcNamed "flowpipe/flowpipelaw32.VariationFunctions" = some f) (hfn:Tryz.pinned.checked.prog.funcs[f]? = some fn) :
  false=Tryz.pinned.checked.prog.looks [] ∧ ∀ (j:Nat) t,fn.params[j]? = some t → Tryz.pinned.checked.prog.wantsStandIn t=false:=by
 obtain rfl:f=5:=Option.some.inj ((show Tryz.prog.funcNamed "flowpipe/flowpipelaw32.VariationFunctions" = some 5 by kernel_rfl).symm.trans hf) |>.symm
 obtain rfl:fn=Tryz.f5:=(Option.some.inj (Tryz.func5.symm.trans hfn)).symm
 refine ⟨by kernel_rfl,fun j t ht=>?_⟩
 rw [Tryz.params5] at ht
 have:t=22 ∨ t=5:=by
  have:=Array.mem_of_getElem? ht
  simp only [List.mem_toArray,List.mem_cons,List.not_mem_nil,or_false] at this
  rcases this with h | h | h | h <;> subst h <;> simp
 rcases this with rfl | rfl
 ·exact (show Tryz.prog.wantsStandIn 22=false by kernel_rfl)
 ·exact (show Tryz.prog.wantsStandIn 5=false by kernel_rfl)
theorem functions_card:Rows.VariationFunctionsCardSaid :=
 Claim7.holds_tied_plain_at .later [] _ _ _ _ functions_said (fun _ h=>by cases h) (by kernel_rfl) (fun _ h=>by cases h) variationFunctions_row_tie rfl ⟨rfl,rfl⟩ (by kernel_rfl) rfl functions_plain (by kernel_rfl)
end Go.Proofs.YtdppllbbgfekaaaGreatDoor
