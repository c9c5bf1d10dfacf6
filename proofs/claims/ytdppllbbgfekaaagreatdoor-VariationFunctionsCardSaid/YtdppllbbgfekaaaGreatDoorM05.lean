/- Texts: Qe Qf Qz Qg Qh Qi Qj Ve Vf Vg Qk Vh Vi Ql Vj Vk Qp Qs Qv Qu Qw Qx Ya Yd Me Ye Yg Yb Yc Jc Vl Vm Vo Yf Mg Mh Mi Mj Mp Mq Mr Ms Yh. -/
import Derived.Test.YtdppllbbgfekaaaGreatDoorM04
set_option linter.unusedSimpArgs false
set_option linter.unusedVariables false
namespace Go.Proofs.YtdppllbbgfekaaaGreatDoor
open Go.RowKit Fp Pu
def r1DivF (L M:List Nat) (n:Nat) (x:Nat):PS:=⟨106,false,[(8,.e (iP ((n:Int) - 1 - (x:Int)))),(7,.own 23),(6,.own 19),(1,.e (slP (trimL M))),(0,.e (slP L))],[(23,.row false 127 ((trimL M).length+1) 1 (limbEl (digs (dvR (val L) (val M) n x) ((trimL M).length+1)))),(19,.row false 127 L.length 1 (limbEl (digs ((dvQ (val L) (val M) n x) * 2 ^ (n - x)) L.length)))]⟩
def r1DivA (L M:List Nat) (n x:Nat) (k:Nat):PS:=⟨106,false,[(10,.e (iP k)),(9,.e (.v (.int .u32 (((dblC (dvR (val L) (val M) n x) (dvB (val L) n x) k):Nat):Int)))),(8,.e (iP ((n:Int) - 1 - (x:Int)))),(7,.own 23),(6,.own 19),(1,.e (slP (trimL M))),(0,.e (slP L))],[(23,.row false 127 ((trimL M).length+1) 1 (limbEl (mixL (2 * (dvR (val L) (val M) n x)+(dvB (val L) n x)) (dvR (val L) (val M) n x) k ((trimL M).length+1)))),(19,.row false 127 L.length 1 (limbEl (digs ((dvQ (val L) (val M) n x) * 2 ^ (n - x)) L.length)))]⟩
def r1DivB (L M:List Nat) (n x:Nat) (k:Nat):PS:=⟨106,false,[(13,.e (iP k)),(12,.e (.v (.int .u64 (((carryA ((2 * (dvR (val L) (val M) n x)+(dvB (val L) n x)) - val M) (val M) k):Nat):Int)))),(8,.e (iP ((n:Int) - 1 - (x:Int)))),(7,.own 23),(6,.own 19),(1,.e (slP (trimL M))),(0,.e (slP L))],[(23,.row false 127 ((trimL M).length+1) 1 (limbEl (mixL ((2 * (dvR (val L) (val M) n x)+(dvB (val L) n x)) - val M) (2 * (dvR (val L) (val M) n x)+(dvB (val L) n x)) k ((trimL M).length+1)))),(19,.row false 127 L.length 1 (limbEl (digs ((dvQ (val L) (val M) n x) * 2 ^ (n - x)) L.length)))]⟩
set_option maxHeartbeats 4000000 in
theorem r1DivMod_L (L M:List Nat) (n:Nat) (hL:Ok32 L) (hM:Ok32 M) (h1:L.length ≤ 10000) (h2:M.length ≤ 10000) (hB:0 < val M) (hn:n=bitsN (val L)):PCt 190 [(slP L),(slP M)] (.tup [slP (limbs (val L / val M)),slP (limbs (val L % val M))]):=by
 have tl:=tlen_le M
 unfold tlen at tl
 have h00:=dv_zero (a:=val L) (b:=val M) (n:=n) (by rw [hn]; exact lt_two_pow_bitsN _)
 have hbn:=bits_of_len hL
 have he:=dv_end (val L) (val M) n
 have f1:val L / val M * 2 ^ (n - n) < 4294967296 ^ L.length:=by
  rw [Nat.sub_self,Nat.pow_zero,Nat.mul_one]; exact Nat.lt_of_le_of_lt (Nat.div_le_self _ _) (val_lt hL)
 have f2:val L % val M < 4294967296 ^ ((trimL M).length+1):=by
  have h1:=val_lt hM.trimL
  rw [val_trimL] at h1
  refine Nat.lt_trans (Nat.mod_lt _ hB) (Nat.lt_of_lt_of_le h1 (Nat.pow_le_pow_right (by decide) (by omega)))
 exact tr false Tryz.call190 Tryz.func190 (chain [.cf (ref1Trim_pcf _ ‹_› (by first | omega | (simp only [digs_len]; omega)):PCFt 227 [(slP M)] _),.a (by omega:0 ≤ ((L.length:Int):Int) ∧ ((L.length:Int):Int) ≤ ((L.length:Int):Int)),
  .a (by omega:((4:Nat):Int) * (L.length:Int) ≤ 281474976710656 ∧ ((L.length:Int):Int) ≤ 9223372036854775807),r64 ((((trimL M).length:Nat):Int)+1) (by omega),
  .a (by omega:0 ≤ (((((trimL M).length+1):Nat):Int):Int) ∧ (((((trimL M).length+1):Nat):Int):Int) ≤ (((((trimL M).length+1):Nat):Int):Int)),
  .a (by omega:((4:Nat):Int) * ((((trimL M).length+1):Nat):Int) ≤ 281474976710656 ∧ (((((trimL M).length+1):Nat):Int):Int) ≤ 9223372036854775807),.c (r1Bits_pc _ ‹_› (by omega):PCt 189 [(slP L)] _),
  .o 25 (.int (by rw [hn]):PV.le (.e (iP (((bitsN (val L)):Nat):Int))) (.e (iP n))),r64 ((n:Int) - 1) (by omega),
  .s (Sp.upto (r1DivF L M n) 0 n (by omega) (fun x hx hltx=>by
    have hi32:(n - 1 - x) / 32 < L.length:=by
     have:=bits_of_len hL
     rw [← hn] at this
     omega
    have hbl:=dvB_le (val L) n x
    have hok1:=hL.getD ((n - 1 - x) / 32)
    have hsh:L.getD ((n - 1 - x) / 32) 0 / 2 ^ ((n - 1 - x) % 32) ≤ L.getD ((n - 1 - x) / 32) 0:=Nat.div_le_self _ _
    have hbit:bits .and .u32 ((L.getD ((n - 1 - x) / 32) 0 / 2 ^ ((n - 1 - x) % 32):Nat):Int) 1=(((dvB (val L) n x):Nat):Int):=by
     rw [u32_and1n _ (by omega)]
     have:=bit_val hL (n - 1 - x) hi32
     unfold dvB
     rw [this]
     simp [List.getD_eq_getElem?_getD,hi32]
    have hRl:(dvR (val L) (val M) n x) < val M:=Nat.mod_lt _ hB
    have hvd:val (digs (2 * (dvR (val L) (val M) n x)+(dvB (val L) n x)) ((trimL M).length+1))=(2 * (dvR (val L) (val M) n x)+(dvB (val L) n x)):=by
     rw [val_digs,Nat.mod_eq_of_lt]
     have h1:=val_lt hM.trimL
     rw [val_trimL] at h1
     rw [Nat.pow_succ]
     omega
    by_cases hless:(2 * (dvR (val L) (val M) n x)+(dvB (val L) n x)) < val M
    ·have hcm:cmpN (val (digs (2 * (dvR (val L) (val M) n x)+(dvB (val L) n x)) ((trimL M).length+1))) (val (trimL M)) < 0:=by rw [hvd,val_trimL]; unfold cmpN; rw [if_pos hless]; decide
     obtain ⟨g1,g2⟩:=dv_less hB hltx hless
     have hb23:digs (2 * (dvR (val L) (val M) n x)+(dvB (val L) n x)) ((trimL M).length+1)=digs (dvR (val L) (val M) n (x+1)) ((trimL M).length+1):=by rw [g1]
     have hb19:(digs ((dvQ (val L) (val M) n x) * 2 ^ (n - x)) L.length)=(digs ((dvQ (val L) (val M) n (x+1)) * 2 ^ (n - (x+1))) L.length):=by
      rw [g2]; congr 1
      rw [show n - x=n - (x+1)+1 by omega,Nat.pow_succ,Nat.mul_comm 2,Nat.mul_assoc,Nat.mul_comm 2]
     exact spt (chain [.o 27 (.int (by omega):PV.le (.e (iP ((n:Int) - 1 - (x:Int)))) (.e (iP (((n - 1 - x):Nat):Int)))),tT 28 (0 ≤ (((n - 1 - x):Nat):Int)) (by omega),
      .o 32 (.int (by omega):PV.le (.e (iP ((n:Int) - 1 - (x:Int)))) (.e (iP (((n - 1 - x):Nat):Int)))),.a (by omega:0 ≤ ((((n - 1 - x):Nat):Int):Int) ∧ 0 < (32:Int)),
      r64 ((((n - 1 - x):Nat):Int)) (by omega),iX (((((n - 1 - x) / 32):Nat):Int)) (L.length) (by omega),.o 36 (.int (by omega):PV.le (.e (iP ((n:Int) - 1 - (x:Int)))) (.e (iP (((n - 1 - x):Nat):Int)))),
      .a (by omega:0 < (32:Int)),.a (by omega:0 ≤ (((((n - 1 - x) % 32):Nat):Int):Int) ∧ (((((n - 1 - x) % 32):Nat):Int):Int) ≤ ((32:Nat):Int)),
      .o 38 (.int (shr_nat _ _):PV.le (.e (.v (.int .u32 ((((L.getD ((n - 1 - x) / 32) 0):Nat):Int) / 2 ^ ((n - 1 - x) % 32))))) (.e (.v (.int .u32 ((((L.getD ((n - 1 - x) / 32) 0) / 2 ^ ((n - 1 - x) % 32)):Nat):Int))))),
      .o 39 (.int hbit:PV.le (.e (.v (.int .u32 (bits .and .u32 ((((L.getD ((n - 1 - x) / 32) 0) / 2 ^ ((n - 1 - x) % 32)):Nat):Int) 1)))) (.e (.v (.int .u32 (((dvB (val L) n x):Nat):Int))))),
      .s (Sp.upto (r1DivA L M n x) 0 ((trimL M).length+1) (by omega) (fun k hk hltk=>by
    have hbl:=dvB_le (val L) n x
    have hdd:=dbl_dig (r:=(dvR (val L) (val M) n x)) hbl k
    have hdc:=dblC_le (r:=(dvR (val L) (val M) n x)) hbl k
    have hset:(mixL (2 * (dvR (val L) (val M) n x)+(dvB (val L) n x)) (dvR (val L) (val M) n x) k ((trimL M).length+1)).set k (2 * dig (dvR (val L) (val M) n x) k % 4294967296+dblC (dvR (val L) (val M) n x) (dvB (val L) n x) k)=(mixL (2 * (dvR (val L) (val M) n x)+(dvB (val L) n x)) (dvR (val L) (val M) n x) (k+1) ((trimL M).length+1)):=by rw [← hdd.1,mixL_set]
    exact spt (chain [tT 43 ((k:Int) < ((((trimL M).length+1):Nat):Int)) (by omega),iX ((k:Int)) (((trimL M).length+1)) (by omega),.a (by omega:k < ((trimL M).length+1)),
     .o 49 (.int (by rw [mixL_at (by omega)]):PV.le (.e (.v (.int .u32 ((((mixL (2 * (dvR (val L) (val M) n x)+(dvB (val L) n x)) (dvR (val L) (val M) n x) k ((trimL M).length+1)).getD k 0):Nat):Int)))) (.e (.v (.int .u32 (((dig (dvR (val L) (val M) n x) k):Nat):Int))))),
     .a (by omega:0 ≤ (1:Int) ∧ (1:Int) ≤ ((32:Nat):Int)),
     .o 53 (.int (shl1_nat _):PV.le (.e (.v (.int .u32 (IntKind.u32.wrap ((((dig (dvR (val L) (val M) n x) k):Nat):Int) * 2 ^ 1))))) (.e (.v (.int .u32 (((2 * dig (dvR (val L) (val M) n x) k % 4294967296):Nat):Int))))),
     .o 55 (.int (or1_nat _ _ hdc):PV.le (.e (.v (.int .u32 (bits .or .u32 (((2 * dig (dvR (val L) (val M) n x) k % 4294967296):Nat):Int) (((dblC (dvR (val L) (val M) n x) (dvB (val L) n x) k):Nat):Int))))) (.e (.v (.int .u32 (((2 * dig (dvR (val L) (val M) n x) k % 4294967296+dblC (dvR (val L) (val M) n x) (dvB (val L) n x) k):Nat):Int))))),
     iX ((k:Int)) (((trimL M).length+1)) (by omega),.a (by omega:k < ((trimL M).length+1)),.a (by omega:0 ≤ (31:Int) ∧ (31:Int) ≤ ((32:Nat):Int)),
     .o 58 (.int (shr_nat _ _):PV.le (.e (.v (.int .u32 ((((dig (dvR (val L) (val M) n x) k):Nat):Int) / 2 ^ 31)))) (.e (.v (.int .u32 ((((dig (dvR (val L) (val M) n x) k) / 2 ^ 31):Nat):Int))))),r64 ((k:Int)+1) (by omega)] <| .e (chain [.o 9 (.int (by rw [hdd.2]):PV.le (.e (.v (.int .u32 ((((dig (dvR (val L) (val M) n x) k) / 2 ^ 31):Nat):Int)))) (.e (.v (.int .u32 (((dblC (dvR (val L) (val M) n x) (dvB (val L) n x) (k+1)):Nat):Int))))),
  .b 23 (row_set' rfl (by rw [mixL_len]; omega) hset:Bx.le (.row false 127 ((trimL M).length+1) 1 (fun i' j'=>if i'=k ∧ 0 ≤ j' ∧ j' < 0+1 then [(.v (.int .u32 (((2 * dig (dvR (val L) (val M) n x) k % 4294967296+dblC (dvR (val L) (val M) n x) (dvB (val L) n x) k):Nat):Int)))].getD (j' - 0) .any else (limbEl (mixL (2 * (dvR (val L) (val M) n x)+(dvB (val L) n x)) (dvR (val L) (val M) n x) k ((trimL M).length+1))) i' j')) (.row false 127 ((trimL M).length+1) 1 (limbEl (mixL (2 * (dvR (val L) (val M) n x)+(dvB (val L) n x)) (dvR (val L) (val M) n x) (k+1) ((trimL M).length+1)))))] <| .nil)) (by kernel_rfl))
  (fun hk=>by
    exact spt (chain [tF 43 (((((trimL M).length+1):Nat):Int) < ((((trimL M).length+1):Nat):Int)) (by omega)] <| .e (chain [.b 23 (.of_eq (by rw [mixL_all (Nat.le_refl _)]):Bx.le (.row false 127 ((trimL M).length+1) 1 (limbEl (mixL (2 * (dvR (val L) (val M) n x)+(dvB (val L) n x)) (dvR (val L) (val M) n x) ((trimL M).length+1) ((trimL M).length+1)))) (.row false 127 ((trimL M).length+1) 1 (limbEl (digs (2 * (dvR (val L) (val M) n x)+(dvB (val L) n x)) ((trimL M).length+1)))))] <| .nil)) (by kernel_rfl)) (by nofun):LpT 9 Tryz.f190 (r1DivA L M n x 0) (.exit 2) ⟨106,false,[(8,.e (iP ((n:Int) - 1 - (x:Int)))),(7,.own 23),(6,.own 19),(1,.e (slP (trimL M))),(0,.e (slP L))],[(23,.row false 127 ((trimL M).length+1) 1 (limbEl (digs (2 * (dvR (val L) (val M) n x)+(dvB (val L) n x)) ((trimL M).length+1)))),(19,.row false 127 L.length 1 (limbEl (digs ((dvQ (val L) (val M) n x) * 2 ^ (n - x)) L.length)))]⟩) (chain [.o 9 (.int (by rw [dblC_zero]):PV.le (.e (.v (.int .u32 (((dvB (val L) n x):Nat):Int)))) (.e (.v (.int .u32 (((dblC (dvR (val L) (val M) n x) (dvB (val L) n x) 0):Nat):Int))))),
  .b 23 (.of_eq (by rw [mixL_zero]):Bx.le (.row false 127 ((trimL M).length+1) 1 (limbEl (digs (dvR (val L) (val M) n x) ((trimL M).length+1)))) (.row false 127 ((trimL M).length+1) 1 (limbEl (mixL (2 * (dvR (val L) (val M) n x)+(dvB (val L) n x)) (dvR (val L) (val M) n x) 0 ((trimL M).length+1)))))] <| .nil),
      .c (by rw [slPn (show ((trimL M).length+1)=(digs (2 * (dvR (val L) (val M) n x)+(dvB (val L) n x)) ((trimL M).length+1)).length by first | omega | (simp only [digs_len,mixL_len]; omega) | simp only [digs_len,mixL_len])]; exact (r1Less_pc _ _ (digs_ok _ _) (Ok32.trimL ‹_›) (by first | omega | (simp only [digs_len,mixL_len]; omega) | simp only [digs_len,mixL_len]) (by first | omega | (simp only [digs_len,mixL_len]; omega) | simp only [digs_len,mixL_len])):PCt 228 [(.sl false ((trimL M).length+1) 1 (limbEl (digs (2 * (dvR (val L) (val M) n x)+(dvB (val L) n x)) ((trimL M).length+1)))),(slP (trimL M))] (bP (decide ((cmpN (val (digs (2 * (dvR (val L) (val M) n x)+(dvB (val L) n x)) ((trimL M).length+1))) (val (trimL M))) < 0)))),
      tB 61 (decide_eq_true hcm),.o 29 (.int (by omega):PV.le (.e (iP ((n:Int) - 1 - (x:Int)))) (.e (iP (((n - 1 - x):Nat):Int)))),r64 ((((n - 1 - x):Nat):Int) - 1) (by omega)] <| .e (chain [.o 8 (.int (by first | rfl | omega | (simp only [Nat.add_mul,Nat.one_mul]; omega)):PV.le (.e (iP ((((n - 1 - x):Nat):Int) - 1))) (.e (iP ((n:Int) - 1 - (((x+1):Nat):Int))))),
  .b 23 (.of_eq (by rw [hb23]):Bx.le (.row false 127 ((trimL M).length+1) 1 (limbEl (digs (2 * (dvR (val L) (val M) n x)+(dvB (val L) n x)) ((trimL M).length+1)))) (.row false 127 ((trimL M).length+1) 1 (limbEl (digs (dvR (val L) (val M) n (x+1)) ((trimL M).length+1))))),
  .b 19 (.of_eq (by rw [hb19]):Bx.le (.row false 127 L.length 1 (limbEl (digs ((dvQ (val L) (val M) n x) * 2 ^ (n - x)) L.length))) (.row false 127 L.length 1 (limbEl (digs ((dvQ (val L) (val M) n (x+1)) * 2 ^ (n - (x+1))) L.length))))] <| .nil)) (by kernel_rfl)
    ·have hcm:¬ cmpN (val (digs (2 * (dvR (val L) (val M) n x)+(dvB (val L) n x)) ((trimL M).length+1))) (val (trimL M)) < 0:=by rw [hvd,val_trimL]; unfold cmpN; rw [if_neg hless]; split <;> decide
     obtain ⟨g1,g2⟩:=dv_more hB hltx hless
     have hb23:digs ((2 * (dvR (val L) (val M) n x)+(dvB (val L) n x)) - val M) ((trimL M).length+1)=digs (dvR (val L) (val M) n (x+1)) ((trimL M).length+1):=by rw [g1]
     have e3:n - x=(n - 1 - x)+1:=by omega
     have e4:n - (x+1)=(n - 1 - x):=by omega
     have hle:=dvQ_le (val L) (val M) n x
     rw [e3] at hle
     obtain ⟨⟨t,s1⟩,s2,s3⟩:=set_bit (q:=(dvQ (val L) (val M) n x)) (i:=(n - 1 - x)) (m:=L.length) hi32 (Nat.lt_of_le_of_lt hle (val_lt hL))
     have hset19:(digs ((dvQ (val L) (val M) n x) * 2 ^ (n - x)) L.length).set ((n - 1 - x) / 32) (dig ((dvQ (val L) (val M) n x) * 2 ^ ((n - 1 - x)+1)) ((n - 1 - x) / 32)+2 ^ ((n - 1 - x) % 32))=(digs ((dvQ (val L) (val M) n (x+1)) * 2 ^ (n - (x+1))) L.length):=by rw [e3,s3,g2,e4]
     have hlo:((((digs ((dvQ (val L) (val M) n x) * 2 ^ (n - x)) L.length).getD ((n - 1 - x) / 32) 0):Nat):Int)=((dig ((dvQ (val L) (val M) n x) * 2 ^ ((n - 1 - x)+1)) ((n - 1 - x) / 32):Nat):Int):=by rw [e3,digs_getD hi32]
     have hor:bits .or .u32 ((dig ((dvQ (val L) (val M) n x) * 2 ^ ((n - 1 - x)+1)) ((n - 1 - x) / 32):Nat):Int) (IntKind.u32.wrap (1 * 2 ^ ((n - 1 - x) % 32)))=((dig ((dvQ (val L) (val M) n x) * 2 ^ ((n - 1 - x)+1)) ((n - 1 - x) / 32)+2 ^ ((n - 1 - x) % 32):Nat):Int):=by
      rw [s1] at s2 ⊢
      exact or_bit _ _ (Nat.mod_lt _ (by decide)) s2
     exact spt (chain [.o 27 (.int (by omega):PV.le (.e (iP ((n:Int) - 1 - (x:Int)))) (.e (iP (((n - 1 - x):Nat):Int)))),tT 28 (0 ≤ (((n - 1 - x):Nat):Int)) (by omega),
      .o 32 (.int (by omega):PV.le (.e (iP ((n:Int) - 1 - (x:Int)))) (.e (iP (((n - 1 - x):Nat):Int)))),.a (by omega:0 ≤ ((((n - 1 - x):Nat):Int):Int) ∧ 0 < (32:Int)),
      r64 ((((n - 1 - x):Nat):Int)) (by omega),iX (((((n - 1 - x) / 32):Nat):Int)) (L.length) (by omega),.o 36 (.int (by omega):PV.le (.e (iP ((n:Int) - 1 - (x:Int)))) (.e (iP (((n - 1 - x):Nat):Int)))),
      .a (by omega:0 < (32:Int)),.a (by omega:0 ≤ (((((n - 1 - x) % 32):Nat):Int):Int) ∧ (((((n - 1 - x) % 32):Nat):Int):Int) ≤ ((32:Nat):Int)),
      .o 38 (.int (shr_nat _ _):PV.le (.e (.v (.int .u32 ((((L.getD ((n - 1 - x) / 32) 0):Nat):Int) / 2 ^ ((n - 1 - x) % 32))))) (.e (.v (.int .u32 ((((L.getD ((n - 1 - x) / 32) 0) / 2 ^ ((n - 1 - x) % 32)):Nat):Int))))),
      .o 39 (.int hbit:PV.le (.e (.v (.int .u32 (bits .and .u32 ((((L.getD ((n - 1 - x) / 32) 0) / 2 ^ ((n - 1 - x) % 32)):Nat):Int) 1)))) (.e (.v (.int .u32 (((dvB (val L) n x):Nat):Int))))),
      .s (Sp.upto (r1DivA L M n x) 0 ((trimL M).length+1) (by omega) (fun k hk hltk=>by
    have hbl:=dvB_le (val L) n x
    have hdd:=dbl_dig (r:=(dvR (val L) (val M) n x)) hbl k
    have hdc:=dblC_le (r:=(dvR (val L) (val M) n x)) hbl k
    have hset:(mixL (2 * (dvR (val L) (val M) n x)+(dvB (val L) n x)) (dvR (val L) (val M) n x) k ((trimL M).length+1)).set k (2 * dig (dvR (val L) (val M) n x) k % 4294967296+dblC (dvR (val L) (val M) n x) (dvB (val L) n x) k)=(mixL (2 * (dvR (val L) (val M) n x)+(dvB (val L) n x)) (dvR (val L) (val M) n x) (k+1) ((trimL M).length+1)):=by rw [← hdd.1,mixL_set]
    exact spt (chain [tT 43 ((k:Int) < ((((trimL M).length+1):Nat):Int)) (by omega),iX ((k:Int)) (((trimL M).length+1)) (by omega),.a (by omega:k < ((trimL M).length+1)),
     .o 49 (.int (by rw [mixL_at (by omega)]):PV.le (.e (.v (.int .u32 ((((mixL (2 * (dvR (val L) (val M) n x)+(dvB (val L) n x)) (dvR (val L) (val M) n x) k ((trimL M).length+1)).getD k 0):Nat):Int)))) (.e (.v (.int .u32 (((dig (dvR (val L) (val M) n x) k):Nat):Int))))),
     .a (by omega:0 ≤ (1:Int) ∧ (1:Int) ≤ ((32:Nat):Int)),
     .o 53 (.int (shl1_nat _):PV.le (.e (.v (.int .u32 (IntKind.u32.wrap ((((dig (dvR (val L) (val M) n x) k):Nat):Int) * 2 ^ 1))))) (.e (.v (.int .u32 (((2 * dig (dvR (val L) (val M) n x) k % 4294967296):Nat):Int))))),
     .o 55 (.int (or1_nat _ _ hdc):PV.le (.e (.v (.int .u32 (bits .or .u32 (((2 * dig (dvR (val L) (val M) n x) k % 4294967296):Nat):Int) (((dblC (dvR (val L) (val M) n x) (dvB (val L) n x) k):Nat):Int))))) (.e (.v (.int .u32 (((2 * dig (dvR (val L) (val M) n x) k % 4294967296+dblC (dvR (val L) (val M) n x) (dvB (val L) n x) k):Nat):Int))))),
     iX ((k:Int)) (((trimL M).length+1)) (by omega),.a (by omega:k < ((trimL M).length+1)),.a (by omega:0 ≤ (31:Int) ∧ (31:Int) ≤ ((32:Nat):Int)),
     .o 58 (.int (shr_nat _ _):PV.le (.e (.v (.int .u32 ((((dig (dvR (val L) (val M) n x) k):Nat):Int) / 2 ^ 31)))) (.e (.v (.int .u32 ((((dig (dvR (val L) (val M) n x) k) / 2 ^ 31):Nat):Int))))),r64 ((k:Int)+1) (by omega)] <| .e (chain [.o 9 (.int (by rw [hdd.2]):PV.le (.e (.v (.int .u32 ((((dig (dvR (val L) (val M) n x) k) / 2 ^ 31):Nat):Int)))) (.e (.v (.int .u32 (((dblC (dvR (val L) (val M) n x) (dvB (val L) n x) (k+1)):Nat):Int))))),
  .b 23 (row_set' rfl (by rw [mixL_len]; omega) hset:Bx.le (.row false 127 ((trimL M).length+1) 1 (fun i' j'=>if i'=k ∧ 0 ≤ j' ∧ j' < 0+1 then [(.v (.int .u32 (((2 * dig (dvR (val L) (val M) n x) k % 4294967296+dblC (dvR (val L) (val M) n x) (dvB (val L) n x) k):Nat):Int)))].getD (j' - 0) .any else (limbEl (mixL (2 * (dvR (val L) (val M) n x)+(dvB (val L) n x)) (dvR (val L) (val M) n x) k ((trimL M).length+1))) i' j')) (.row false 127 ((trimL M).length+1) 1 (limbEl (mixL (2 * (dvR (val L) (val M) n x)+(dvB (val L) n x)) (dvR (val L) (val M) n x) (k+1) ((trimL M).length+1)))))] <| .nil)) (by kernel_rfl))
  (fun hk=>by
    exact spt (chain [tF 43 (((((trimL M).length+1):Nat):Int) < ((((trimL M).length+1):Nat):Int)) (by omega)] <| .e (chain [.b 23 (.of_eq (by rw [mixL_all (Nat.le_refl _)]):Bx.le (.row false 127 ((trimL M).length+1) 1 (limbEl (mixL (2 * (dvR (val L) (val M) n x)+(dvB (val L) n x)) (dvR (val L) (val M) n x) ((trimL M).length+1) ((trimL M).length+1)))) (.row false 127 ((trimL M).length+1) 1 (limbEl (digs (2 * (dvR (val L) (val M) n x)+(dvB (val L) n x)) ((trimL M).length+1)))))] <| .nil)) (by kernel_rfl)) (by nofun):LpT 9 Tryz.f190 (r1DivA L M n x 0) (.exit 2) ⟨106,false,[(8,.e (iP ((n:Int) - 1 - (x:Int)))),(7,.own 23),(6,.own 19),(1,.e (slP (trimL M))),(0,.e (slP L))],[(23,.row false 127 ((trimL M).length+1) 1 (limbEl (digs (2 * (dvR (val L) (val M) n x)+(dvB (val L) n x)) ((trimL M).length+1)))),(19,.row false 127 L.length 1 (limbEl (digs ((dvQ (val L) (val M) n x) * 2 ^ (n - x)) L.length)))]⟩) (chain [.o 9 (.int (by rw [dblC_zero]):PV.le (.e (.v (.int .u32 (((dvB (val L) n x):Nat):Int)))) (.e (.v (.int .u32 (((dblC (dvR (val L) (val M) n x) (dvB (val L) n x) 0):Nat):Int))))),
  .b 23 (.of_eq (by rw [mixL_zero]):Bx.le (.row false 127 ((trimL M).length+1) 1 (limbEl (digs (dvR (val L) (val M) n x) ((trimL M).length+1)))) (.row false 127 ((trimL M).length+1) 1 (limbEl (mixL (2 * (dvR (val L) (val M) n x)+(dvB (val L) n x)) (dvR (val L) (val M) n x) 0 ((trimL M).length+1)))))] <| .nil),
      .c (by rw [slPn (show ((trimL M).length+1)=(digs (2 * (dvR (val L) (val M) n x)+(dvB (val L) n x)) ((trimL M).length+1)).length by first | omega | (simp only [digs_len,mixL_len]; omega) | simp only [digs_len,mixL_len])]; exact (r1Less_pc _ _ (digs_ok _ _) (Ok32.trimL ‹_›) (by first | omega | (simp only [digs_len,mixL_len]; omega) | simp only [digs_len,mixL_len]) (by first | omega | (simp only [digs_len,mixL_len]; omega) | simp only [digs_len,mixL_len])):PCt 228 [(.sl false ((trimL M).length+1) 1 (limbEl (digs (2 * (dvR (val L) (val M) n x)+(dvB (val L) n x)) ((trimL M).length+1)))),(slP (trimL M))] (bP (decide ((cmpN (val (digs (2 * (dvR (val L) (val M) n x)+(dvB (val L) n x)) ((trimL M).length+1))) (val (trimL M))) < 0)))),
      tB 61 (decide_eq_false hcm),
      .s (Sp.upto (r1DivB L M n x) 0 ((trimL M).length+1) (by omega) (fun k hk hltk=>by
    have ha:=sub_dig (show val M ≤ (2 * (dvR (val L) (val M) n x)+(dvB (val L) n x)) by omega) k
    have hMk:(trimL M).getD k 0=dig (val M) k:=by rw [getD_dig hM.trimL,val_trimL]
    have hok3:=hM.trimL
    rw [← hMk] at ha
    have b1:=dig_lt (2 * (dvR (val L) (val M) n x)+(dvB (val L) n x)) k
    have b2:=hok3.getD k
    have b3:=carryA_le ((2 * (dvR (val L) (val M) n x)+(dvB (val L) n x)) - val M) (val M) k
    have b5:=carryA_le ((2 * (dvR (val L) (val M) n x)+(dvB (val L) n x)) - val M) (val M) (k+1)
    have b4:=dig_lt ((2 * (dvR (val L) (val M) n x)+(dvB (val L) n x)) - val M) k
    have hzz:(((dig (2 * (dvR (val L) (val M) n x)+(dvB (val L) n x)) k+4294967296) - (trimL M).getD k 0) - (carryA ((2 * (dvR (val L) (val M) n x)+(dvB (val L) n x)) - val M) (val M) k)) % 4294967296 % 4294967296=dig ((2 * (dvR (val L) (val M) n x)+(dvB (val L) n x)) - val M) k:=by omega
    have hq:1 - (((dig (2 * (dvR (val L) (val M) n x)+(dvB (val L) n x)) k+4294967296) - (trimL M).getD k 0) - (carryA ((2 * (dvR (val L) (val M) n x)+(dvB (val L) n x)) - val M) (val M) k)) / 4294967296=(carryA ((2 * (dvR (val L) (val M) n x)+(dvB (val L) n x)) - val M) (val M) (k+1)):=by omega
    have hset:(mixL ((2 * (dvR (val L) (val M) n x)+(dvB (val L) n x)) - val M) (2 * (dvR (val L) (val M) n x)+(dvB (val L) n x)) k ((trimL M).length+1)).set k ((((dig (2 * (dvR (val L) (val M) n x)+(dvB (val L) n x)) k+4294967296) - (trimL M).getD k 0) - (carryA ((2 * (dvR (val L) (val M) n x)+(dvB (val L) n x)) - val M) (val M) k)) % 4294967296 % 4294967296)=(mixL ((2 * (dvR (val L) (val M) n x)+(dvB (val L) n x)) - val M) (2 * (dvR (val L) (val M) n x)+(dvB (val L) n x)) (k+1) ((trimL M).length+1)):=by rw [hzz,mixL_set]
    exact spt (chain [tT 65 ((k:Int) < ((((trimL M).length+1):Nat):Int)) (by omega),iX ((k:Int)) (((trimL M).length+1)) (by omega),.a (by omega:k < ((trimL M).length+1)),
     .o 71 (.int (by rw [mixL_at (by omega)]):PV.le (.e (.v (.int .u32 ((((mixL ((2 * (dvR (val L) (val M) n x)+(dvB (val L) n x)) - val M) (2 * (dvR (val L) (val M) n x)+(dvB (val L) n x)) k ((trimL M).length+1)).getD k 0):Nat):Int)))) (.e (.v (.int .u32 (((dig (2 * (dvR (val L) (val M) n x)+(dvB (val L) n x)) k):Nat):Int))))),
     .o 72 (.int (u64_nat _ (by omega)):PV.le (.e (.v (.int .u64 (IntKind.u64.wrap (((dig (2 * (dvR (val L) (val M) n x)+(dvB (val L) n x)) k):Nat):Int))))) (.e (.v (.int .u64 (((dig (2 * (dvR (val L) (val M) n x)+(dvB (val L) n x)) k):Nat):Int))))),
     ru64 ((((dig (2 * (dvR (val L) (val M) n x)+(dvB (val L) n x)) k):Nat):Int)+4294967296) (by omega),.c (r1At_pc _ _ (Ok32.trimL ‹_›):PCt 229 [(slP (trimL M)),(iP k)] _),
     ru64 (((((dig (2 * (dvR (val L) (val M) n x)+(dvB (val L) n x)) k)+4294967296):Nat):Int) - ((((trimL M).getD k 0):Nat):Int)) (by omega),
     .o 77 (.int (by omega):PV.le (.e (.v (.int .u64 (((((dig (2 * (dvR (val L) (val M) n x)+(dvB (val L) n x)) k)+4294967296):Nat):Int) - ((((trimL M).getD k 0):Nat):Int))))) (.e (.v (.int .u64 ((((dig (2 * (dvR (val L) (val M) n x)+(dvB (val L) n x)) k+4294967296) - (trimL M).getD k 0):Nat):Int))))),
     ru64 (((((dig (2 * (dvR (val L) (val M) n x)+(dvB (val L) n x)) k+4294967296) - (trimL M).getD k 0):Nat):Int) - (((carryA ((2 * (dvR (val L) (val M) n x)+(dvB (val L) n x)) - val M) (val M) k):Nat):Int)) (by omega),
     .o 79 (.int (by omega):PV.le (.e (.v (.int .u64 (((((dig (2 * (dvR (val L) (val M) n x)+(dvB (val L) n x)) k+4294967296) - (trimL M).getD k 0):Nat):Int) - (((carryA ((2 * (dvR (val L) (val M) n x)+(dvB (val L) n x)) - val M) (val M) k):Nat):Int))))) (.e (.v (.int .u64 (((((dig (2 * (dvR (val L) (val M) n x)+(dvB (val L) n x)) k+4294967296) - (trimL M).getD k 0) - (carryA ((2 * (dvR (val L) (val M) n x)+(dvB (val L) n x)) - val M) (val M) k)):Nat):Int))))),
     .o 83 (.int (u64_and32 _ (by omega)):PV.le (.e (.v (.int .u64 (bits .and .u64 (((((dig (2 * (dvR (val L) (val M) n x)+(dvB (val L) n x)) k+4294967296) - (trimL M).getD k 0) - (carryA ((2 * (dvR (val L) (val M) n x)+(dvB (val L) n x)) - val M) (val M) k)):Nat):Int) 4294967295)))) (.e (.v (.int .u64 ((((((dig (2 * (dvR (val L) (val M) n x)+(dvB (val L) n x)) k+4294967296) - (trimL M).getD k 0) - (carryA ((2 * (dvR (val L) (val M) n x)+(dvB (val L) n x)) - val M) (val M) k)) % 4294967296):Nat):Int))))),
     .o 84 (.int (u32_nat _):PV.le (.e (.v (.int .u32 (IntKind.u32.wrap ((((((dig (2 * (dvR (val L) (val M) n x)+(dvB (val L) n x)) k+4294967296) - (trimL M).getD k 0) - (carryA ((2 * (dvR (val L) (val M) n x)+(dvB (val L) n x)) - val M) (val M) k)) % 4294967296):Nat):Int))))) (.e (.v (.int .u32 (((((((dig (2 * (dvR (val L) (val M) n x)+(dvB (val L) n x)) k+4294967296) - (trimL M).getD k 0) - (carryA ((2 * (dvR (val L) (val M) n x)+(dvB (val L) n x)) - val M) (val M) k)) % 4294967296) % 4294967296):Nat):Int))))),
     iX ((k:Int)) (((trimL M).length+1)) (by omega),.a (by omega:k < ((trimL M).length+1)),.a (by omega:0 ≤ (32:Int) ∧ (32:Int) ≤ ((64:Nat):Int)),
     .o 87 (.int (shr32_nat _):PV.le (.e (.v (.int .u64 ((((((dig (2 * (dvR (val L) (val M) n x)+(dvB (val L) n x)) k+4294967296) - (trimL M).getD k 0) - (carryA ((2 * (dvR (val L) (val M) n x)+(dvB (val L) n x)) - val M) (val M) k)):Nat):Int) / 2 ^ 32)))) (.e (.v (.int .u64 ((((((dig (2 * (dvR (val L) (val M) n x)+(dvB (val L) n x)) k+4294967296) - (trimL M).getD k 0) - (carryA ((2 * (dvR (val L) (val M) n x)+(dvB (val L) n x)) - val M) (val M) k)) / 4294967296):Nat):Int))))),
     ru64 (1 - ((((((dig (2 * (dvR (val L) (val M) n x)+(dvB (val L) n x)) k+4294967296) - (trimL M).getD k 0) - (carryA ((2 * (dvR (val L) (val M) n x)+(dvB (val L) n x)) - val M) (val M) k)) / 4294967296):Nat):Int)) (by omega),
     .o 88 (.int (by omega):PV.le (.e (.v (.int .u64 (1 - ((((((dig (2 * (dvR (val L) (val M) n x)+(dvB (val L) n x)) k+4294967296) - (trimL M).getD k 0) - (carryA ((2 * (dvR (val L) (val M) n x)+(dvB (val L) n x)) - val M) (val M) k)) / 4294967296):Nat):Int))))) (.e (.v (.int .u64 (((1 - ((((dig (2 * (dvR (val L) (val M) n x)+(dvB (val L) n x)) k+4294967296) - (trimL M).getD k 0) - (carryA ((2 * (dvR (val L) (val M) n x)+(dvB (val L) n x)) - val M) (val M) k)) / 4294967296)):Nat):Int))))),
     r64 ((k:Int)+1) (by omega)] <| .e (chain [.o 12 (.int (by rw [hq]):PV.le (.e (.v (.int .u64 (((1 - ((((dig (2 * (dvR (val L) (val M) n x)+(dvB (val L) n x)) k+4294967296) - (trimL M).getD k 0) - (carryA ((2 * (dvR (val L) (val M) n x)+(dvB (val L) n x)) - val M) (val M) k)) / 4294967296)):Nat):Int)))) (.e (.v (.int .u64 (((carryA ((2 * (dvR (val L) (val M) n x)+(dvB (val L) n x)) - val M) (val M) (k+1)):Nat):Int))))),
  .b 23 (row_set' rfl (by rw [mixL_len]; omega) hset:Bx.le (.row false 127 ((trimL M).length+1) 1 (fun i' j'=>if i'=k ∧ 0 ≤ j' ∧ j' < 0+1 then [(.v (.int .u32 (((((((dig (2 * (dvR (val L) (val M) n x)+(dvB (val L) n x)) k+4294967296) - (trimL M).getD k 0) - (carryA ((2 * (dvR (val L) (val M) n x)+(dvB (val L) n x)) - val M) (val M) k)) % 4294967296) % 4294967296):Nat):Int)))].getD (j' - 0) .any else (limbEl (mixL ((2 * (dvR (val L) (val M) n x)+(dvB (val L) n x)) - val M) (2 * (dvR (val L) (val M) n x)+(dvB (val L) n x)) k ((trimL M).length+1))) i' j')) (.row false 127 ((trimL M).length+1) 1 (limbEl (mixL ((2 * (dvR (val L) (val M) n x)+(dvB (val L) n x)) - val M) (2 * (dvR (val L) (val M) n x)+(dvB (val L) n x)) (k+1) ((trimL M).length+1)))))] <| .nil)) (by kernel_rfl))
  (fun hk=>by
    exact spt (chain [tF 65 (((((trimL M).length+1):Nat):Int) < ((((trimL M).length+1):Nat):Int)) (by omega)] <| .e (chain [.b 23 (.of_eq (by rw [mixL_all (Nat.le_refl _)]):Bx.le (.row false 127 ((trimL M).length+1) 1 (limbEl (mixL ((2 * (dvR (val L) (val M) n x)+(dvB (val L) n x)) - val M) (2 * (dvR (val L) (val M) n x)+(dvB (val L) n x)) ((trimL M).length+1) ((trimL M).length+1)))) (.row false 127 ((trimL M).length+1) 1 (limbEl (digs ((2 * (dvR (val L) (val M) n x)+(dvB (val L) n x)) - val M) ((trimL M).length+1)))))] <| .nil)) (by kernel_rfl)) (by nofun):LpT 17 Tryz.f190 (r1DivB L M n x 0) (.exit 4) ⟨106,false,[(8,.e (iP ((n:Int) - 1 - (x:Int)))),(7,.own 23),(6,.own 19),(1,.e (slP (trimL M))),(0,.e (slP L))],[(23,.row false 127 ((trimL M).length+1) 1 (limbEl (digs ((2 * (dvR (val L) (val M) n x)+(dvB (val L) n x)) - val M) ((trimL M).length+1)))),(19,.row false 127 L.length 1 (limbEl (digs ((dvQ (val L) (val M) n x) * 2 ^ (n - x)) L.length)))]⟩) (chain [.o 12 (.int (by rw [carryA_zero]; rfl):PV.le (.e (.v (.int .u64 0))) (.e (.v (.int .u64 (((carryA ((2 * (dvR (val L) (val M) n x)+(dvB (val L) n x)) - val M) (val M) 0):Nat):Int))))),
  .b 23 (.of_eq (by rw [mixL_zero]):Bx.le (.row false 127 ((trimL M).length+1) 1 (limbEl (digs (2 * (dvR (val L) (val M) n x)+(dvB (val L) n x)) ((trimL M).length+1)))) (.row false 127 ((trimL M).length+1) 1 (limbEl (mixL ((2 * (dvR (val L) (val M) n x)+(dvB (val L) n x)) - val M) (2 * (dvR (val L) (val M) n x)+(dvB (val L) n x)) 0 ((trimL M).length+1)))))] <| .nil),
      .o 90 (.int (by omega):PV.le (.e (iP ((n:Int) - 1 - (x:Int)))) (.e (iP (((n - 1 - x):Nat):Int)))),.a (by omega:0 ≤ ((((n - 1 - x):Nat):Int):Int) ∧ 0 < (32:Int)),
      r64 ((((n - 1 - x):Nat):Int)) (by omega),.o 93 (.int (by omega):PV.le (.e (iP ((n:Int) - 1 - (x:Int)))) (.e (iP (((n - 1 - x):Nat):Int)))),
      .a (by omega:0 ≤ ((((n - 1 - x):Nat):Int):Int) ∧ 0 < (32:Int)),r64 ((((n - 1 - x):Nat):Int)) (by omega),iX (((((n - 1 - x) / 32):Nat):Int)) (L.length) (by omega),.a (by omega:((n - 1 - x) / 32) < L.length),
      .o 96 (.int hlo:PV.le (.e (.v (.int .u32 ((((digs ((dvQ (val L) (val M) n x) * 2 ^ (n - x)) L.length).getD ((n - 1 - x) / 32) 0):Nat):Int)))) (.e (.v (.int .u32 (((dig ((dvQ (val L) (val M) n x) * 2 ^ ((n - 1 - x)+1)) ((n - 1 - x) / 32)):Nat):Int))))),
      .o 97 (.int (by omega):PV.le (.e (iP ((n:Int) - 1 - (x:Int)))) (.e (iP (((n - 1 - x):Nat):Int)))),.a (by omega:0 < (32:Int)),
      .a (by omega:0 ≤ (((((n - 1 - x) % 32):Nat):Int):Int) ∧ (((((n - 1 - x) % 32):Nat):Int):Int) ≤ ((32:Nat):Int)),
      .o 100 (.int hor:PV.le (.e (.v (.int .u32 (bits .or .u32 (((dig ((dvQ (val L) (val M) n x) * 2 ^ ((n - 1 - x)+1)) ((n - 1 - x) / 32)):Nat):Int) (IntKind.u32.wrap (1 * 2 ^ ((n - 1 - x) % 32))))))) (.e (.v (.int .u32 (((dig ((dvQ (val L) (val M) n x) * 2 ^ ((n - 1 - x)+1)) ((n - 1 - x) / 32)+2 ^ ((n - 1 - x) % 32)):Nat):Int))))),
      iX (((((n - 1 - x) / 32):Nat):Int)) (L.length) (by omega),.a (by omega:((n - 1 - x) / 32) < L.length),.o 29 (.int (by omega):PV.le (.e (iP ((n:Int) - 1 - (x:Int)))) (.e (iP (((n - 1 - x):Nat):Int)))),
      r64 ((((n - 1 - x):Nat):Int) - 1) (by omega)] <| .e (chain [.o 8 (.int (by first | rfl | omega | (simp only [Nat.add_mul,Nat.one_mul]; omega)):PV.le (.e (iP ((((n - 1 - x):Nat):Int) - 1))) (.e (iP ((n:Int) - 1 - (((x+1):Nat):Int))))),
  .b 23 (.of_eq (by rw [hb23]):Bx.le (.row false 127 ((trimL M).length+1) 1 (limbEl (digs ((2 * (dvR (val L) (val M) n x)+(dvB (val L) n x)) - val M) ((trimL M).length+1)))) (.row false 127 ((trimL M).length+1) 1 (limbEl (digs (dvR (val L) (val M) n (x+1)) ((trimL M).length+1))))),
  .b 19 (row_set' rfl (by rw [digs_len]; omega) hset19:Bx.le (.row false 127 L.length 1 (fun i' j'=>if i'=((n - 1 - x) / 32) ∧ 0 ≤ j' ∧ j' < 0+1 then [(.v (.int .u32 (((dig ((dvQ (val L) (val M) n x) * 2 ^ ((n - 1 - x)+1)) ((n - 1 - x) / 32)+2 ^ ((n - 1 - x) % 32)):Nat):Int)))].getD (j' - 0) .any else (limbEl (digs ((dvQ (val L) (val M) n x) * 2 ^ (n - x)) L.length)) i' j')) (.row false 127 L.length 1 (limbEl (digs ((dvQ (val L) (val M) n (x+1)) * 2 ^ (n - (x+1))) L.length))))] <| .nil)) (by kernel_rfl))
  (fun hx=>by
    exact spt (chain [tF 28 (0 ≤ ((n:Int) - 1 - (n:Int))) (by omega),.z 19,.z 23] <| .e (chain [.o 7 (.e (slRow_le (digs_len _ _).symm):PV.le (.e (.sl false ((trimL M).length+1) 1 (limbEl (digs (dvR (val L) (val M) n n) ((trimL M).length+1))))) (.e (slP (digs (dvR (val L) (val M) n n) ((trimL M).length+1))))),
  .o 6 (.e (slRow_le (digs_len _ _).symm):PV.le (.e (.sl false L.length 1 (limbEl (digs ((dvQ (val L) (val M) n n) * 2 ^ (n - n)) L.length)))) (.e (slP (digs ((dvQ (val L) (val M) n n) * 2 ^ (n - n)) L.length))))] <| .nil)) (by kernel_rfl)) (by nofun):LpT 5 Tryz.f190 (r1DivF L M n 0) (.exit 0) ⟨106,false,[(7,.e (slP (digs (dvR (val L) (val M) n n) ((trimL M).length+1)))),(6,.e (slP (digs ((dvQ (val L) (val M) n n) * 2 ^ (n - n)) L.length)))],[]⟩) (chain [.o 8 (.int (by first | rfl | omega | (simp only [Nat.add_mul,Nat.one_mul]; omega)):PV.le (.e (iP ((n:Int) - 1))) (.e (iP ((n:Int) - 1 - ((0:Nat):Int))))),
  .b 23 (row_zero rfl (fun i=>by rw [h00.1,digs0_getD]):Bx.le (.row false 127 ((trimL M).length+1) 1 (fun _ j_=>[(.v (.int .u32 0))].getD j_ .any)) (.row false 127 ((trimL M).length+1) 1 (limbEl (digs (dvR (val L) (val M) n 0) ((trimL M).length+1))))),
  .b 19 (row_zero rfl (fun i=>by rw [h00.2,Nat.zero_mul,digs0_getD]):Bx.le (.row false 127 L.length 1 (fun _ j_=>[(.v (.int .u32 0))].getD j_ .any)) (.row false 127 L.length 1 (limbEl (digs ((dvQ (val L) (val M) n 0) * 2 ^ (n - 0)) L.length))))] <| .nil),
  .cf (ref1Trim_pcf _ (digs_ok _ _) (by first | omega | (simp only [digs_len]; omega)):PCFt 227 [(slP (digs ((dvQ (val L) (val M) n n) * 2 ^ (n - n)) L.length))] _),
  .cf (ref1Trim_pcf _ (digs_ok _ _) (by first | omega | (simp only [digs_len]; omega)):PCFt 227 [(slP (digs (dvR (val L) (val M) n n) ((trimL M).length+1)))] _)] <| rQ (.tup [(slP (trimL (digs ((dvQ (val L) (val M) n n) * 2 ^ (n - n)) L.length))),(slP (trimL (digs (dvR (val L) (val M) n n) ((trimL M).length+1))))]) (.tup [slP (limbs (val L / val M)),slP (limbs (val L % val M))]) (by rw [he.1,he.2,trimL_digs f1,trimL_digs f2,Nat.sub_self,Nat.pow_zero,Nat.mul_one])) (by kernel_rfl)
open Go.RowKit Fp Pu
theorem r1TrimM (m:Nat) (h:(limbs m).length ≤ 10000):PCt 227 [slP (limbs m)] (slP (limbs m)):=by
 have:=(ref1Trim_pcf (limbs m) (ok_limbs m) (by omega)).pc
 rwa [show trimL (limbs m)=limbs m from trim_limbs m] at this
theorem r1BitsM (m:Nat) (h:(limbs m).length ≤ 10000):PCt 189 [slP (limbs m)] (iP (bitsN m)):=by
 have:=r1Bits_pc (limbs m) (ok_limbs m) (by omega)
 rwa [val_limbs] at this
theorem r1CmpM (m n:Nat) (h:(limbs m).length ≤ 10000) (k:(limbs n).length ≤ 10000):PCt 231 [slP (limbs m),slP (limbs n)] (iP (cmpN m n)):=by
 have:=r1Cmp_pc (limbs m) (limbs n) (ok_limbs m) (ok_limbs n) (by omega) (by omega)
 rwa [val_limbs,val_limbs] at this
theorem r1AddM (m n:Nat) (h:(limbs m).length ≤ 10000) (k:(limbs n).length ≤ 10000):PCt 232 [slP (limbs m),slP (limbs n)] (slP (limbs (m+n))):=by
 have:=r1Add_pc (limbs m) (limbs n) (ok_limbs m) (ok_limbs n) (by omega) (by omega)
 rwa [val_limbs,val_limbs] at this
theorem r1SubM (m n:Nat) (h:(limbs m).length ≤ 10000) (k:n ≤ m):PCt 248 [slP (limbs m),slP (limbs n)] (slP (limbs (m - n))):=by
 have:=r1Sub_pc (limbs m) (limbs n) (ok_limbs m) (ok_limbs n) (by omega) (by rw [val_limbs,val_limbs]; exact k)
 rwa [val_limbs,val_limbs] at this
theorem r1ShlM (m n:Nat) (h:(limbs m).length ≤ 10000) (k:n ≤ 1000000):PCt 191 [slP (limbs m),iP (n:Int)] (slP (limbs (m * 2 ^ n))):=by
 have:=r1Shl_pc (limbs m) n (ok_limbs m) (by omega) (by omega)
 rwa [val_limbs] at this
theorem r1ShrM (m n:Nat) (h:(limbs m).length ≤ 10000) (k:n ≤ 1000000):PCt 230 [slP (limbs m),iP (n:Int)] (slP (limbs (m / 2 ^ n))):=by
 have:=r1Shr_pc (limbs m) n (ok_limbs m) (by omega) (by omega)
 rwa [val_limbs] at this
theorem r1DivModM (m n:Nat) (h:(limbs m).length ≤ 10000) (k:(limbs n).length ≤ 10000) (h0:0 < n):PCt 190 [slP (limbs m),slP (limbs n)] (.tup [slP (limbs (m / n)),slP (limbs (m % n))]):=by
 have:=r1DivMod_L (limbs m) (limbs n) _ (ok_limbs m) (ok_limbs n) (by omega) (by omega) (by rw [val_limbs]; exact h0) rfl
 rwa [val_limbs,val_limbs] at this
theorem r3Greatest_pc (neg:Bool) (p:Nat) (hp1:8 ≤ p) (hp2:p ≤ 512):PCt 233 [(bP neg),(iP p)] (dyP (canon neg (2 ^ p - 1) (16384 - (p:Int)))):=by
 have g0:bitsN (1 * 2 ^ p)=p+1:=by rw [Nat.one_mul]; exact bitsN_eq (Nat.le_refl _) (Nat.pow_lt_pow_right (by decide) (by omega))
 have g1:(limbs 1).length ≤ 256:=limbs_of_bits (by decide)
 have g2:(limbs (1 * 2 ^ p)).length ≤ 256:=limbs_of_bits (by omega)
 have g4:1 ≤ 1 * 2 ^ p:=by rw [Nat.one_mul]; exact Nat.pow_pos (by decide)
 have g3:(limbs ((1 * 2 ^ p) - 1)).length ≤ 256:=limbs_of_bits (by have:=bitsN_mono (Nat.sub_le (1 * 2 ^ p) 1); omega)
 exact tr true Tryz.call233 Tryz.func233 (chain [.o 6 (.e one_le:PV.le (.e (.sl false 1 1 fun i_ j_=>[(.v (.int .u32 1))].getD (i_ * 1+j_) (.v (.bool false)))) (.e (slP (limbs 1)))),.c (r1ShlM _ _ (by omega) (by omega):PCt 191 [(slP (limbs 1)),(iP p)] _),
  .o 9 (.e one_le:PV.le (.e (.sl false 1 1 fun i_ j_=>[(.v (.int .u32 1))].getD (i_ * 1+j_) (.v (.bool false)))) (.e (slP (limbs 1)))),
  .c (r1SubM _ _ (by omega) ‹_›:PCt 248 [(slP (limbs (1 * 2 ^ p))),(slP (limbs 1))] _),r64 (16384 - (p:Int)) (by omega),
  .c (refOf_pc _ _ _ (by omega) (by omega) (by omega):PCt 155 [(bP neg),(slP (limbs ((1 * 2 ^ p) - 1))),(iP (16384 - (p:Int)))] _)] <| rQ (dyP (canon neg ((1 * 2 ^ p) - 1) (16384 - (p:Int)))) (dyP (canon neg (2 ^ p - 1) (16384 - (p:Int)))) (by rw [Nat.one_mul])) (by kernel_rfl)
set_option maxHeartbeats 4000000 in
theorem r3Cut_pc (neg:Bool) (m:Nat) (e:Int) (more:Bool) (p:Nat) (up:Bool) (h1:(limbs m).length ≤ 2900) (he1:-200000 ≤ e) (he2:e ≤ 200000) (hp1:8 ≤ p) (hp2:p ≤ 512):PCt 192 [(bP neg),(slP (limbs m)),(iP e),(bP more),(iP p),(bP up)] (.tup [dyP (cutD neg m e more p up),iP (cutE neg m e more p up)]):=by
 have hb:=bits_of_limbs h1
 have hk1:cutK m e p ≤ 1000000:=by unfold cutK; omega
 have hk2:(cutK m e p:Int) ≤ max (bitsN m:Int) (-16384 - e):=by unfold cutK; omega
 have g1:=limbs_len_mono (Nat.div_le_self m (2 ^ cutK m e p))
 have g2:=limbs_len_mono (Nat.div_mul_le_self m (2 ^ cutK m e p))
 have l1:(limbs 1).length ≤ 256:=limbs_of_bits (by decide)
 have g3:(limbs ((m / 2 ^ cutK m e p)+1)).length ≤ 2901:=limbs_add_len (by omega) (by omega)
 have g4:=bits_of_limbs g3
 have g5:=bits_of_limbs (m:=m / 2 ^ cutK m e p) (Nat.le_trans g1 h1)
 exact tr true Tryz.call192 Tryz.func192 (chain [.c (r1TrimM _ (by omega):PCt 227 [(slP (limbs m))] _),.c (r1BitsM _ (by omega):PCt 189 [(slP (limbs m))] _),r64 ((((bitsN m):Nat):Int) - (p:Int)) (by omega),r64 ((-16384) - e) (by omega),
  .o 27 (.int (by unfold cutK; (repeat' split) <;> omega):PV.le (.e (iP (if 0 > (if ((-16384) - e) > ((((bitsN m):Nat):Int) - (p:Int)) then ((-16384) - e) else ((((bitsN m):Nat):Int) - (p:Int))) then 0 else (if ((-16384) - e) > ((((bitsN m):Nat):Int) - (p:Int)) then ((-16384) - e) else ((((bitsN m):Nat):Int) - (p:Int)))))) (.e (iP (((cutK m e p):Nat):Int)))),
  .c (r1ShrM _ _ (by omega) (by omega):PCt 230 [(slP (limbs m)),(iP (((cutK m e p):Nat):Int))] _)] <| .w (0 < (((cutK m e p):Nat):Int))
  (fun k1=>chain [tB 32 (decide_eq_true k1),.c (r1ShlM _ _ (by omega) (by omega):PCt 191 [(slP (limbs (m / 2 ^ (cutK m e p)))),(iP (((cutK m e p):Nat):Int))] _),
   .c (r1CmpM _ _ (by omega) (by omega):PCt 231 [(slP (limbs ((m / 2 ^ (cutK m e p)) * 2 ^ (cutK m e p)))),(slP (limbs m))] _)] <| .w ((cmpN ((m / 2 ^ (cutK m e p)) * 2 ^ (cutK m e p)) m)=0)
   (fun k2=>by
    have hlo:m % 2 ^ (cutK m e p)=0:=(lost_iff _ _).1 k2
    exact chain [tB 39 (bne_eq_false_iff_eq.2 k2)] <| .w (more=true)
     (fun k3=>.w (neg=up)
      (fun k4=>chain [tB 43 (bnt (beq_iff_eq.2 k4)),tB 44 (k3),.c (r1BitsM _ (by omega):PCt 189 [(slP (limbs (m / 2 ^ (cutK m e p))))] _)] <| .w (0 < (((bitsN (m / 2 ^ (cutK m e p))):Nat):Int))
       (fun k5=>chain [tB 53 (decide_eq_true k5),.c (r1BitsM _ (by omega):PCt 189 [(slP (limbs (m / 2 ^ (cutK m e p))))] _),r64 ((((bitsN (m / 2 ^ (cutK m e p))):Nat):Int)+e) (by omega),
        r64 (((((bitsN (m / 2 ^ (cutK m e p))):Nat):Int)+e)+(((cutK m e p):Nat):Int)) (by omega)] <| .w (16384 < (((((bitsN (m / 2 ^ (cutK m e p))):Nat):Int)+e)+(((cutK m e p):Nat):Int)))
        (fun k6=>chain [tB 61 (decide_eq_true k6),.c (r3Greatest_pc neg p (by omega) (by omega))] <| rR (.tup [dyP (cutD neg m e more p up),iP (cutE neg m e more p up)]) (by
      have hq:cutQ m e more p (neg != up)=(m / 2 ^ (cutK m e p)):=by unfold cutQ; simp [k3,k4,hlo]
      have h0:(m / 2 ^ (cutK m e p)) ≠ 0:=by intro h; rw [h] at k5; exact absurd k5 (by decide)
      obtain ⟨g1,g2⟩:=(cut_over (e:=e) hq h0 (by omega)).2 (by rw [k4]; simp)
      exact .of_eq (by rw [g1,g2]):E.le (.tup [(dyP (canon neg (2 ^ p - 1) (16384 - (p:Int)))),(iP 0)]) (.tup [dyP (cutD neg m e more p up),iP (cutE neg m e more p up)])))
        (fun k6=>chain [tB 61 (decide_eq_false k6),r64 (e+(((cutK m e p):Nat):Int)) (by omega),.c (refOf_pc _ _ _ (by omega) (by omega) (by omega):PCt 155 [(bP neg),(slP (limbs (m / 2 ^ (cutK m e p)))),(iP (e+(((cutK m e p):Nat):Int)))] _)] <| rR (.tup [dyP (cutD neg m e more p up),iP (cutE neg m e more p up)]) (by
      have hq:cutQ m e more p (neg != up)=(m / 2 ^ (cutK m e p)):=by unfold cutQ; simp [k3,k4,hlo]
      obtain ⟨g1,g2⟩:=cut_in (e:=e) hq (.inr (by omega))
      exact .of_eq (by rw [g1,g2]):E.le (.tup [(dyP (canon neg (m / 2 ^ (cutK m e p)) (e+(((cutK m e p):Nat):Int)))),(iP 0)]) (.tup [dyP (cutD neg m e more p up),iP (cutE neg m e more p up)]))))
       (fun k5=>chain [tB 53 (decide_eq_false k5),r64 (e+(((cutK m e p):Nat):Int)) (by omega),.c (refOf_pc _ _ _ (by omega) (by omega) (by omega):PCt 155 [(bP neg),(slP (limbs (m / 2 ^ (cutK m e p)))),(iP (e+(((cutK m e p):Nat):Int)))] _)] <| rR (.tup [dyP (cutD neg m e more p up),iP (cutE neg m e more p up)]) (by
      have hq:cutQ m e more p (neg != up)=(m / 2 ^ (cutK m e p)):=by unfold cutQ; simp [k3,k4,hlo]
      have h0:(m / 2 ^ (cutK m e p))=0:=by
       apply Classical.byContradiction; intro h; have:=bitsN_pos h; omega
      obtain ⟨g1,g2⟩:=cut_in (e:=e) hq (.inl h0)
      exact .of_eq (by rw [g1,g2]):E.le (.tup [(dyP (canon neg (m / 2 ^ (cutK m e p)) (e+(((cutK m e p):Nat):Int)))),(iP 0)]) (.tup [dyP (cutD neg m e more p up),iP (cutE neg m e more p up)]))))
      (fun k4=>chain [tB 43 (bnf (beq_eq_false_iff_ne.2 k4)),tB 44 (k3),.o 49 (.e one_le:PV.le (.e (.sl false 1 1 fun i_ j_=>[(.v (.int .u32 1))].getD (i_ * 1+j_) (.v (.bool false)))) (.e (slP (limbs 1)))),
       .c (r1AddM _ _ (by omega) (by omega):PCt 232 [(slP (limbs (m / 2 ^ (cutK m e p)))),(slP (limbs 1))] _),.c (r1BitsM _ (by omega):PCt 189 [(slP (limbs ((m / 2 ^ (cutK m e p))+1)))] _)] <| .w (0 < (((bitsN ((m / 2 ^ (cutK m e p))+1)):Nat):Int))
       (fun k5=>chain [tB 53 (decide_eq_true k5),.c (r1BitsM _ (by omega):PCt 189 [(slP (limbs ((m / 2 ^ (cutK m e p))+1)))] _),r64 ((((bitsN ((m / 2 ^ (cutK m e p))+1)):Nat):Int)+e) (by omega),
        r64 (((((bitsN ((m / 2 ^ (cutK m e p))+1)):Nat):Int)+e)+(((cutK m e p):Nat):Int)) (by omega)] <| .w (16384 < (((((bitsN ((m / 2 ^ (cutK m e p))+1)):Nat):Int)+e)+(((cutK m e p):Nat):Int)))
        (fun k6=>chain [tB 61 (decide_eq_true k6),.o 64 (.e zeroP_le:PV.le (.e (.agg [(bP false),(.v (.slice none 0 0)),(iP 0)])) (.e (dyP zeroD)))] <| rR (.tup [dyP (cutD neg m e more p up),iP (cutE neg m e more p up)]) (by
      have hq:cutQ m e more p (neg != up)=((m / 2 ^ (cutK m e p))+1):=by unfold cutQ; simp [k3,k4,hlo]
      have h0:((m / 2 ^ (cutK m e p))+1) ≠ 0:=by intro h; rw [h] at k5; exact absurd k5 (by decide)
      obtain ⟨g1,g2⟩:=(cut_over (e:=e) hq h0 (by omega)).1 (bne_iff_ne.2 k4)
      exact .of_eq (by rw [g1,g2]):E.le (.tup [(dyP zeroD),(iP 9)]) (.tup [dyP (cutD neg m e more p up),iP (cutE neg m e more p up)])))
        (fun k6=>chain [tB 61 (decide_eq_false k6),r64 (e+(((cutK m e p):Nat):Int)) (by omega),.c (refOf_pc _ _ _ (by omega) (by omega) (by omega):PCt 155 [(bP neg),(slP (limbs ((m / 2 ^ (cutK m e p))+1))),(iP (e+(((cutK m e p):Nat):Int)))] _)] <| rR (.tup [dyP (cutD neg m e more p up),iP (cutE neg m e more p up)]) (by
      have hq:cutQ m e more p (neg != up)=((m / 2 ^ (cutK m e p))+1):=by unfold cutQ; simp [k3,k4,hlo]
      obtain ⟨g1,g2⟩:=cut_in (e:=e) hq (.inr (by omega))
      exact .of_eq (by rw [g1,g2]):E.le (.tup [(dyP (canon neg ((m / 2 ^ (cutK m e p))+1) (e+(((cutK m e p):Nat):Int)))),(iP 0)]) (.tup [dyP (cutD neg m e more p up),iP (cutE neg m e more p up)]))))
       (fun k5=>chain [tB 53 (decide_eq_false k5),r64 (e+(((cutK m e p):Nat):Int)) (by omega),.c (refOf_pc _ _ _ (by omega) (by omega) (by omega):PCt 155 [(bP neg),(slP (limbs ((m / 2 ^ (cutK m e p))+1))),(iP (e+(((cutK m e p):Nat):Int)))] _)] <| rR (.tup [dyP (cutD neg m e more p up),iP (cutE neg m e more p up)]) (by
      have hq:cutQ m e more p (neg != up)=((m / 2 ^ (cutK m e p))+1):=by unfold cutQ; simp [k3,k4,hlo]
      have h0:((m / 2 ^ (cutK m e p))+1)=0:=by
       apply Classical.byContradiction; intro h; have:=bitsN_pos h; omega
      obtain ⟨g1,g2⟩:=cut_in (e:=e) hq (.inl h0)
      exact .of_eq (by rw [g1,g2]):E.le (.tup [(dyP (canon neg ((m / 2 ^ (cutK m e p))+1) (e+(((cutK m e p):Nat):Int)))),(iP 0)]) (.tup [dyP (cutD neg m e more p up),iP (cutE neg m e more p up)])))))
     (fun k3=>.w (0 < (((bitsN (m / 2 ^ (cutK m e p))):Nat):Int))
      (fun k4=>.w (16384 < (((((bitsN (m / 2 ^ (cutK m e p))):Nat):Int)+e)+(((cutK m e p):Nat):Int)))
       (fun k5=>.w (neg=up)
        (fun k6=>chain [tB 43 (bnt (beq_iff_eq.2 k6)),tB 44 (Bool.eq_false_iff.2 k3),.c (r1BitsM _ (by omega):PCt 189 [(slP (limbs (m / 2 ^ (cutK m e p))))] _),tB 53 (decide_eq_true k4),
         .c (r1BitsM _ (by omega):PCt 189 [(slP (limbs (m / 2 ^ (cutK m e p))))] _),r64 ((((bitsN (m / 2 ^ (cutK m e p))):Nat):Int)+e) (by omega),
         r64 (((((bitsN (m / 2 ^ (cutK m e p))):Nat):Int)+e)+(((cutK m e p):Nat):Int)) (by omega),tB 61 (decide_eq_true k5),.c (r3Greatest_pc neg p (by omega) (by omega))] <| rR (.tup [dyP (cutD neg m e more p up),iP (cutE neg m e more p up)]) (by
      have hq:cutQ m e more p (neg != up)=(m / 2 ^ (cutK m e p)):=by unfold cutQ; simp [k3,k6,hlo]
      have h0:(m / 2 ^ (cutK m e p)) ≠ 0:=by intro h; rw [h] at k4; exact absurd k4 (by decide)
      obtain ⟨g1,g2⟩:=(cut_over (e:=e) hq h0 (by omega)).2 (by rw [k6]; simp)
      exact .of_eq (by rw [g1,g2]):E.le (.tup [(dyP (canon neg (2 ^ p - 1) (16384 - (p:Int)))),(iP 0)]) (.tup [dyP (cutD neg m e more p up),iP (cutE neg m e more p up)])))
        (fun k6=>chain [tB 43 (bnf (beq_eq_false_iff_ne.2 k6)),tB 44 (Bool.eq_false_iff.2 k3),.c (r1BitsM _ (by omega):PCt 189 [(slP (limbs (m / 2 ^ (cutK m e p))))] _),tB 53 (decide_eq_true k4),
         .c (r1BitsM _ (by omega):PCt 189 [(slP (limbs (m / 2 ^ (cutK m e p))))] _),r64 ((((bitsN (m / 2 ^ (cutK m e p))):Nat):Int)+e) (by omega),
         r64 (((((bitsN (m / 2 ^ (cutK m e p))):Nat):Int)+e)+(((cutK m e p):Nat):Int)) (by omega),tB 61 (decide_eq_true k5),.o 64 (.e zeroP_le:PV.le (.e (.agg [(bP false),(.v (.slice none 0 0)),(iP 0)])) (.e (dyP zeroD)))] <| rR (.tup [dyP (cutD neg m e more p up),iP (cutE neg m e more p up)]) (by
      have hq:cutQ m e more p (neg != up)=(m / 2 ^ (cutK m e p)):=by unfold cutQ; simp [k3,k6,hlo]
      have h0:(m / 2 ^ (cutK m e p)) ≠ 0:=by intro h; rw [h] at k4; exact absurd k4 (by decide)
      obtain ⟨g1,g2⟩:=(cut_over (e:=e) hq h0 (by omega)).1 (bne_iff_ne.2 k6)
      exact .of_eq (by rw [g1,g2]):E.le (.tup [(dyP zeroD),(iP 9)]) (.tup [dyP (cutD neg m e more p up),iP (cutE neg m e more p up)]))))
       (fun k5=>chain [tB 44 (Bool.eq_false_iff.2 k3),.c (r1BitsM _ (by omega):PCt 189 [(slP (limbs (m / 2 ^ (cutK m e p))))] _),tB 53 (decide_eq_true k4),.c (r1BitsM _ (by omega):PCt 189 [(slP (limbs (m / 2 ^ (cutK m e p))))] _),
        r64 ((((bitsN (m / 2 ^ (cutK m e p))):Nat):Int)+e) (by omega),r64 (((((bitsN (m / 2 ^ (cutK m e p))):Nat):Int)+e)+(((cutK m e p):Nat):Int)) (by omega),tB 61 (decide_eq_false k5),
        r64 (e+(((cutK m e p):Nat):Int)) (by omega),.c (refOf_pc _ _ _ (by omega) (by omega) (by omega):PCt 155 [(bP neg),(slP (limbs (m / 2 ^ (cutK m e p)))),(iP (e+(((cutK m e p):Nat):Int)))] _)] <| rR (.tup [dyP (cutD neg m e more p up),iP (cutE neg m e more p up)]) (by
      have hq:cutQ m e more p (neg != up)=(m / 2 ^ (cutK m e p)):=by unfold cutQ; simp [k3,hlo]
      obtain ⟨g1,g2⟩:=cut_in (e:=e) hq (.inr (by omega))
      exact .of_eq (by rw [g1,g2]):E.le (.tup [(dyP (canon neg (m / 2 ^ (cutK m e p)) (e+(((cutK m e p):Nat):Int)))),(iP 0)]) (.tup [dyP (cutD neg m e more p up),iP (cutE neg m e more p up)]))))
      (fun k4=>chain [tB 44 (Bool.eq_false_iff.2 k3),.c (r1BitsM _ (by omega):PCt 189 [(slP (limbs (m / 2 ^ (cutK m e p))))] _),tB 53 (decide_eq_false k4),r64 (e+(((cutK m e p):Nat):Int)) (by omega),
       .c (refOf_pc _ _ _ (by omega) (by omega) (by omega):PCt 155 [(bP neg),(slP (limbs (m / 2 ^ (cutK m e p)))),(iP (e+(((cutK m e p):Nat):Int)))] _)] <| rR (.tup [dyP (cutD neg m e more p up),iP (cutE neg m e more p up)]) (by
      have hq:cutQ m e more p (neg != up)=(m / 2 ^ (cutK m e p)):=by unfold cutQ; simp [k3,hlo]
      have h0:(m / 2 ^ (cutK m e p))=0:=by
       apply Classical.byContradiction; intro h; have:=bitsN_pos h; omega
      obtain ⟨g1,g2⟩:=cut_in (e:=e) hq (.inl h0)
      exact .of_eq (by rw [g1,g2]):E.le (.tup [(dyP (canon neg (m / 2 ^ (cutK m e p)) (e+(((cutK m e p):Nat):Int)))),(iP 0)]) (.tup [dyP (cutD neg m e more p up),iP (cutE neg m e more p up)])))))
   (fun k2=>by
    have hlo:m % 2 ^ (cutK m e p) ≠ 0:=fun h=>k2 ((lost_iff _ _).2 h)
    exact chain [tB 39 (bne_iff_ne.2 k2)] <| .w (neg=up)
     (fun k3=>chain [tB 43 (bnt (beq_iff_eq.2 k3)),.c (r1BitsM _ (by omega):PCt 189 [(slP (limbs (m / 2 ^ (cutK m e p))))] _)] <| .w (0 < (((bitsN (m / 2 ^ (cutK m e p))):Nat):Int))
      (fun k4=>chain [tB 53 (decide_eq_true k4),.c (r1BitsM _ (by omega):PCt 189 [(slP (limbs (m / 2 ^ (cutK m e p))))] _),r64 ((((bitsN (m / 2 ^ (cutK m e p))):Nat):Int)+e) (by omega),
       r64 (((((bitsN (m / 2 ^ (cutK m e p))):Nat):Int)+e)+(((cutK m e p):Nat):Int)) (by omega)] <| .w (16384 < (((((bitsN (m / 2 ^ (cutK m e p))):Nat):Int)+e)+(((cutK m e p):Nat):Int)))
       (fun k5=>chain [tB 61 (decide_eq_true k5),.c (r3Greatest_pc neg p (by omega) (by omega))] <| rR (.tup [dyP (cutD neg m e more p up),iP (cutE neg m e more p up)]) (by
      have hq:cutQ m e more p (neg != up)=(m / 2 ^ (cutK m e p)):=by unfold cutQ; simp [k3,hlo]
      have h0:(m / 2 ^ (cutK m e p)) ≠ 0:=by intro h; rw [h] at k4; exact absurd k4 (by decide)
      obtain ⟨g1,g2⟩:=(cut_over (e:=e) hq h0 (by omega)).2 (by rw [k3]; simp)
      exact .of_eq (by rw [g1,g2]):E.le (.tup [(dyP (canon neg (2 ^ p - 1) (16384 - (p:Int)))),(iP 0)]) (.tup [dyP (cutD neg m e more p up),iP (cutE neg m e more p up)])))
       (fun k5=>chain [tB 61 (decide_eq_false k5),r64 (e+(((cutK m e p):Nat):Int)) (by omega),.c (refOf_pc _ _ _ (by omega) (by omega) (by omega):PCt 155 [(bP neg),(slP (limbs (m / 2 ^ (cutK m e p)))),(iP (e+(((cutK m e p):Nat):Int)))] _)] <| rR (.tup [dyP (cutD neg m e more p up),iP (cutE neg m e more p up)]) (by
      have hq:cutQ m e more p (neg != up)=(m / 2 ^ (cutK m e p)):=by unfold cutQ; simp [k3,hlo]
      obtain ⟨g1,g2⟩:=cut_in (e:=e) hq (.inr (by omega))
      exact .of_eq (by rw [g1,g2]):E.le (.tup [(dyP (canon neg (m / 2 ^ (cutK m e p)) (e+(((cutK m e p):Nat):Int)))),(iP 0)]) (.tup [dyP (cutD neg m e more p up),iP (cutE neg m e more p up)]))))
      (fun k4=>chain [tB 53 (decide_eq_false k4),r64 (e+(((cutK m e p):Nat):Int)) (by omega),.c (refOf_pc _ _ _ (by omega) (by omega) (by omega):PCt 155 [(bP neg),(slP (limbs (m / 2 ^ (cutK m e p)))),(iP (e+(((cutK m e p):Nat):Int)))] _)] <| rR (.tup [dyP (cutD neg m e more p up),iP (cutE neg m e more p up)]) (by
      have hq:cutQ m e more p (neg != up)=(m / 2 ^ (cutK m e p)):=by unfold cutQ; simp [k3,hlo]
      have h0:(m / 2 ^ (cutK m e p))=0:=by
       apply Classical.byContradiction; intro h; have:=bitsN_pos h; omega
      obtain ⟨g1,g2⟩:=cut_in (e:=e) hq (.inl h0)
      exact .of_eq (by rw [g1,g2]):E.le (.tup [(dyP (canon neg (m / 2 ^ (cutK m e p)) (e+(((cutK m e p):Nat):Int)))),(iP 0)]) (.tup [dyP (cutD neg m e more p up),iP (cutE neg m e more p up)]))))
     (fun k3=>chain [tB 43 (bnf (beq_eq_false_iff_ne.2 k3)),.o 49 (.e one_le:PV.le (.e (.sl false 1 1 fun i_ j_=>[(.v (.int .u32 1))].getD (i_ * 1+j_) (.v (.bool false)))) (.e (slP (limbs 1)))),
      .c (r1AddM _ _ (by omega) (by omega):PCt 232 [(slP (limbs (m / 2 ^ (cutK m e p)))),(slP (limbs 1))] _),.c (r1BitsM _ (by omega):PCt 189 [(slP (limbs ((m / 2 ^ (cutK m e p))+1)))] _)] <| .w (0 < (((bitsN ((m / 2 ^ (cutK m e p))+1)):Nat):Int))
      (fun k4=>chain [tB 53 (decide_eq_true k4),.c (r1BitsM _ (by omega):PCt 189 [(slP (limbs ((m / 2 ^ (cutK m e p))+1)))] _),r64 ((((bitsN ((m / 2 ^ (cutK m e p))+1)):Nat):Int)+e) (by omega),
       r64 (((((bitsN ((m / 2 ^ (cutK m e p))+1)):Nat):Int)+e)+(((cutK m e p):Nat):Int)) (by omega)] <| .w (16384 < (((((bitsN ((m / 2 ^ (cutK m e p))+1)):Nat):Int)+e)+(((cutK m e p):Nat):Int)))
       (fun k5=>chain [tB 61 (decide_eq_true k5),.o 64 (.e zeroP_le:PV.le (.e (.agg [(bP false),(.v (.slice none 0 0)),(iP 0)])) (.e (dyP zeroD)))] <| rR (.tup [dyP (cutD neg m e more p up),iP (cutE neg m e more p up)]) (by
      have hq:cutQ m e more p (neg != up)=((m / 2 ^ (cutK m e p))+1):=by unfold cutQ; simp [k3,hlo]
      have h0:((m / 2 ^ (cutK m e p))+1) ≠ 0:=by intro h; rw [h] at k4; exact absurd k4 (by decide)
      obtain ⟨g1,g2⟩:=(cut_over (e:=e) hq h0 (by omega)).1 (bne_iff_ne.2 k3)
      exact .of_eq (by rw [g1,g2]):E.le (.tup [(dyP zeroD),(iP 9)]) (.tup [dyP (cutD neg m e more p up),iP (cutE neg m e more p up)])))
       (fun k5=>chain [tB 61 (decide_eq_false k5),r64 (e+(((cutK m e p):Nat):Int)) (by omega),.c (refOf_pc _ _ _ (by omega) (by omega) (by omega):PCt 155 [(bP neg),(slP (limbs ((m / 2 ^ (cutK m e p))+1))),(iP (e+(((cutK m e p):Nat):Int)))] _)] <| rR (.tup [dyP (cutD neg m e more p up),iP (cutE neg m e more p up)]) (by
      have hq:cutQ m e more p (neg != up)=((m / 2 ^ (cutK m e p))+1):=by unfold cutQ; simp [k3,hlo]
      obtain ⟨g1,g2⟩:=cut_in (e:=e) hq (.inr (by omega))
      exact .of_eq (by rw [g1,g2]):E.le (.tup [(dyP (canon neg ((m / 2 ^ (cutK m e p))+1) (e+(((cutK m e p):Nat):Int)))),(iP 0)]) (.tup [dyP (cutD neg m e more p up),iP (cutE neg m e more p up)]))))
      (fun k4=>chain [tB 53 (decide_eq_false k4),r64 (e+(((cutK m e p):Nat):Int)) (by omega),.c (refOf_pc _ _ _ (by omega) (by omega) (by omega):PCt 155 [(bP neg),(slP (limbs ((m / 2 ^ (cutK m e p))+1))),(iP (e+(((cutK m e p):Nat):Int)))] _)] <| rR (.tup [dyP (cutD neg m e more p up),iP (cutE neg m e more p up)]) (by
      have hq:cutQ m e more p (neg != up)=((m / 2 ^ (cutK m e p))+1):=by unfold cutQ; simp [k3,hlo]
      have h0:((m / 2 ^ (cutK m e p))+1)=0:=by
       apply Classical.byContradiction; intro h; have:=bitsN_pos h; omega
      obtain ⟨g1,g2⟩:=cut_in (e:=e) hq (.inl h0)
      exact .of_eq (by rw [g1,g2]):E.le (.tup [(dyP (canon neg ((m / 2 ^ (cutK m e p))+1) (e+(((cutK m e p):Nat):Int)))),(iP 0)]) (.tup [dyP (cutD neg m e more p up),iP (cutE neg m e more p up)]))))))
  (fun k1=>by
   have hlo:m % 2 ^ (cutK m e p)=0:=by rw [show (cutK m e p)=0 by omega,Nat.pow_zero,Nat.mod_one]
   exact chain [tB 32 (decide_eq_false k1)] <| .w (more=true)
    (fun k2=>.w (neg=up)
     (fun k3=>chain [tB 43 (bnt (beq_iff_eq.2 k3)),tB 44 (k2),.c (r1BitsM _ (by omega):PCt 189 [(slP (limbs (m / 2 ^ (cutK m e p))))] _)] <| .w (0 < (((bitsN (m / 2 ^ (cutK m e p))):Nat):Int))
      (fun k4=>chain [tB 53 (decide_eq_true k4),.c (r1BitsM _ (by omega):PCt 189 [(slP (limbs (m / 2 ^ (cutK m e p))))] _),r64 ((((bitsN (m / 2 ^ (cutK m e p))):Nat):Int)+e) (by omega),
       r64 (((((bitsN (m / 2 ^ (cutK m e p))):Nat):Int)+e)+(((cutK m e p):Nat):Int)) (by omega)] <| .w (16384 < (((((bitsN (m / 2 ^ (cutK m e p))):Nat):Int)+e)+(((cutK m e p):Nat):Int)))
       (fun k5=>chain [tB 61 (decide_eq_true k5),.c (r3Greatest_pc neg p (by omega) (by omega))] <| rR (.tup [dyP (cutD neg m e more p up),iP (cutE neg m e more p up)]) (by
      have hq:cutQ m e more p (neg != up)=(m / 2 ^ (cutK m e p)):=by unfold cutQ; simp [k2,k3,hlo]
      have h0:(m / 2 ^ (cutK m e p)) ≠ 0:=by intro h; rw [h] at k4; exact absurd k4 (by decide)
      obtain ⟨g1,g2⟩:=(cut_over (e:=e) hq h0 (by omega)).2 (by rw [k3]; simp)
      exact .of_eq (by rw [g1,g2]):E.le (.tup [(dyP (canon neg (2 ^ p - 1) (16384 - (p:Int)))),(iP 0)]) (.tup [dyP (cutD neg m e more p up),iP (cutE neg m e more p up)])))
       (fun k5=>chain [tB 61 (decide_eq_false k5),r64 (e+(((cutK m e p):Nat):Int)) (by omega),.c (refOf_pc _ _ _ (by omega) (by omega) (by omega):PCt 155 [(bP neg),(slP (limbs (m / 2 ^ (cutK m e p)))),(iP (e+(((cutK m e p):Nat):Int)))] _)] <| rR (.tup [dyP (cutD neg m e more p up),iP (cutE neg m e more p up)]) (by
      have hq:cutQ m e more p (neg != up)=(m / 2 ^ (cutK m e p)):=by unfold cutQ; simp [k2,k3,hlo]
      obtain ⟨g1,g2⟩:=cut_in (e:=e) hq (.inr (by omega))
      exact .of_eq (by rw [g1,g2]):E.le (.tup [(dyP (canon neg (m / 2 ^ (cutK m e p)) (e+(((cutK m e p):Nat):Int)))),(iP 0)]) (.tup [dyP (cutD neg m e more p up),iP (cutE neg m e more p up)]))))
      (fun k4=>chain [tB 53 (decide_eq_false k4),r64 (e+(((cutK m e p):Nat):Int)) (by omega),.c (refOf_pc _ _ _ (by omega) (by omega) (by omega):PCt 155 [(bP neg),(slP (limbs (m / 2 ^ (cutK m e p)))),(iP (e+(((cutK m e p):Nat):Int)))] _)] <| rR (.tup [dyP (cutD neg m e more p up),iP (cutE neg m e more p up)]) (by
      have hq:cutQ m e more p (neg != up)=(m / 2 ^ (cutK m e p)):=by unfold cutQ; simp [k2,k3,hlo]
      have h0:(m / 2 ^ (cutK m e p))=0:=by
       apply Classical.byContradiction; intro h; have:=bitsN_pos h; omega
      obtain ⟨g1,g2⟩:=cut_in (e:=e) hq (.inl h0)
      exact .of_eq (by rw [g1,g2]):E.le (.tup [(dyP (canon neg (m / 2 ^ (cutK m e p)) (e+(((cutK m e p):Nat):Int)))),(iP 0)]) (.tup [dyP (cutD neg m e more p up),iP (cutE neg m e more p up)]))))
     (fun k3=>chain [tB 43 (bnf (beq_eq_false_iff_ne.2 k3)),tB 44 (k2),.o 49 (.e one_le:PV.le (.e (.sl false 1 1 fun i_ j_=>[(.v (.int .u32 1))].getD (i_ * 1+j_) (.v (.bool false)))) (.e (slP (limbs 1)))),
      .c (r1AddM _ _ (by omega) (by omega):PCt 232 [(slP (limbs (m / 2 ^ (cutK m e p)))),(slP (limbs 1))] _),.c (r1BitsM _ (by omega):PCt 189 [(slP (limbs ((m / 2 ^ (cutK m e p))+1)))] _)] <| .w (0 < (((bitsN ((m / 2 ^ (cutK m e p))+1)):Nat):Int))
      (fun k4=>chain [tB 53 (decide_eq_true k4),.c (r1BitsM _ (by omega):PCt 189 [(slP (limbs ((m / 2 ^ (cutK m e p))+1)))] _),r64 ((((bitsN ((m / 2 ^ (cutK m e p))+1)):Nat):Int)+e) (by omega),
       r64 (((((bitsN ((m / 2 ^ (cutK m e p))+1)):Nat):Int)+e)+(((cutK m e p):Nat):Int)) (by omega)] <| .w (16384 < (((((bitsN ((m / 2 ^ (cutK m e p))+1)):Nat):Int)+e)+(((cutK m e p):Nat):Int)))
       (fun k5=>chain [tB 61 (decide_eq_true k5),.o 64 (.e zeroP_le:PV.le (.e (.agg [(bP false),(.v (.slice none 0 0)),(iP 0)])) (.e (dyP zeroD)))] <| rR (.tup [dyP (cutD neg m e more p up),iP (cutE neg m e more p up)]) (by
      have hq:cutQ m e more p (neg != up)=((m / 2 ^ (cutK m e p))+1):=by unfold cutQ; simp [k2,k3,hlo]
      have h0:((m / 2 ^ (cutK m e p))+1) ≠ 0:=by intro h; rw [h] at k4; exact absurd k4 (by decide)
      obtain ⟨g1,g2⟩:=(cut_over (e:=e) hq h0 (by omega)).1 (bne_iff_ne.2 k3)
      exact .of_eq (by rw [g1,g2]):E.le (.tup [(dyP zeroD),(iP 9)]) (.tup [dyP (cutD neg m e more p up),iP (cutE neg m e more p up)])))
       (fun k5=>chain [tB 61 (decide_eq_false k5),r64 (e+(((cutK m e p):Nat):Int)) (by omega),.c (refOf_pc _ _ _ (by omega) (by omega) (by omega):PCt 155 [(bP neg),(slP (limbs ((m / 2 ^ (cutK m e p))+1))),(iP (e+(((cutK m e p):Nat):Int)))] _)] <| rR (.tup [dyP (cutD neg m e more p up),iP (cutE neg m e more p up)]) (by
      have hq:cutQ m e more p (neg != up)=((m / 2 ^ (cutK m e p))+1):=by unfold cutQ; simp [k2,k3,hlo]
      obtain ⟨g1,g2⟩:=cut_in (e:=e) hq (.inr (by omega))
      exact .of_eq (by rw [g1,g2]):E.le (.tup [(dyP (canon neg ((m / 2 ^ (cutK m e p))+1) (e+(((cutK m e p):Nat):Int)))),(iP 0)]) (.tup [dyP (cutD neg m e more p up),iP (cutE neg m e more p up)]))))
      (fun k4=>chain [tB 53 (decide_eq_false k4),r64 (e+(((cutK m e p):Nat):Int)) (by omega),.c (refOf_pc _ _ _ (by omega) (by omega) (by omega):PCt 155 [(bP neg),(slP (limbs ((m / 2 ^ (cutK m e p))+1))),(iP (e+(((cutK m e p):Nat):Int)))] _)] <| rR (.tup [dyP (cutD neg m e more p up),iP (cutE neg m e more p up)]) (by
      have hq:cutQ m e more p (neg != up)=((m / 2 ^ (cutK m e p))+1):=by unfold cutQ; simp [k2,k3,hlo]
      have h0:((m / 2 ^ (cutK m e p))+1)=0:=by
       apply Classical.byContradiction; intro h; have:=bitsN_pos h; omega
      obtain ⟨g1,g2⟩:=cut_in (e:=e) hq (.inl h0)
      exact .of_eq (by rw [g1,g2]):E.le (.tup [(dyP (canon neg ((m / 2 ^ (cutK m e p))+1) (e+(((cutK m e p):Nat):Int)))),(iP 0)]) (.tup [dyP (cutD neg m e more p up),iP (cutE neg m e more p up)])))))
    (fun k2=>.w (0 < (((bitsN (m / 2 ^ (cutK m e p))):Nat):Int))
     (fun k3=>.w (16384 < (((((bitsN (m / 2 ^ (cutK m e p))):Nat):Int)+e)+(((cutK m e p):Nat):Int)))
      (fun k4=>.w (neg=up)
       (fun k5=>chain [tB 43 (bnt (beq_iff_eq.2 k5)),tB 44 (Bool.eq_false_iff.2 k2),.c (r1BitsM _ (by omega):PCt 189 [(slP (limbs (m / 2 ^ (cutK m e p))))] _),tB 53 (decide_eq_true k3),
        .c (r1BitsM _ (by omega):PCt 189 [(slP (limbs (m / 2 ^ (cutK m e p))))] _),r64 ((((bitsN (m / 2 ^ (cutK m e p))):Nat):Int)+e) (by omega),
        r64 (((((bitsN (m / 2 ^ (cutK m e p))):Nat):Int)+e)+(((cutK m e p):Nat):Int)) (by omega),tB 61 (decide_eq_true k4),.c (r3Greatest_pc neg p (by omega) (by omega))] <| rR (.tup [dyP (cutD neg m e more p up),iP (cutE neg m e more p up)]) (by
      have hq:cutQ m e more p (neg != up)=(m / 2 ^ (cutK m e p)):=by unfold cutQ; simp [k2,k5,hlo]
      have h0:(m / 2 ^ (cutK m e p)) ≠ 0:=by intro h; rw [h] at k3; exact absurd k3 (by decide)
      obtain ⟨g1,g2⟩:=(cut_over (e:=e) hq h0 (by omega)).2 (by rw [k5]; simp)
      exact .of_eq (by rw [g1,g2]):E.le (.tup [(dyP (canon neg (2 ^ p - 1) (16384 - (p:Int)))),(iP 0)]) (.tup [dyP (cutD neg m e more p up),iP (cutE neg m e more p up)])))
       (fun k5=>chain [tB 43 (bnf (beq_eq_false_iff_ne.2 k5)),tB 44 (Bool.eq_false_iff.2 k2),.c (r1BitsM _ (by omega):PCt 189 [(slP (limbs (m / 2 ^ (cutK m e p))))] _),tB 53 (decide_eq_true k3),
        .c (r1BitsM _ (by omega):PCt 189 [(slP (limbs (m / 2 ^ (cutK m e p))))] _),r64 ((((bitsN (m / 2 ^ (cutK m e p))):Nat):Int)+e) (by omega),
        r64 (((((bitsN (m / 2 ^ (cutK m e p))):Nat):Int)+e)+(((cutK m e p):Nat):Int)) (by omega),tB 61 (decide_eq_true k4),.o 64 (.e zeroP_le:PV.le (.e (.agg [(bP false),(.v (.slice none 0 0)),(iP 0)])) (.e (dyP zeroD)))] <| rR (.tup [dyP (cutD neg m e more p up),iP (cutE neg m e more p up)]) (by
      have hq:cutQ m e more p (neg != up)=(m / 2 ^ (cutK m e p)):=by unfold cutQ; simp [k2,k5,hlo]
      have h0:(m / 2 ^ (cutK m e p)) ≠ 0:=by intro h; rw [h] at k3; exact absurd k3 (by decide)
      obtain ⟨g1,g2⟩:=(cut_over (e:=e) hq h0 (by omega)).1 (bne_iff_ne.2 k5)
      exact .of_eq (by rw [g1,g2]):E.le (.tup [(dyP zeroD),(iP 9)]) (.tup [dyP (cutD neg m e more p up),iP (cutE neg m e more p up)]))))
      (fun k4=>chain [tB 44 (Bool.eq_false_iff.2 k2),.c (r1BitsM _ (by omega):PCt 189 [(slP (limbs (m / 2 ^ (cutK m e p))))] _),tB 53 (decide_eq_true k3),.c (r1BitsM _ (by omega):PCt 189 [(slP (limbs (m / 2 ^ (cutK m e p))))] _),
       r64 ((((bitsN (m / 2 ^ (cutK m e p))):Nat):Int)+e) (by omega),r64 (((((bitsN (m / 2 ^ (cutK m e p))):Nat):Int)+e)+(((cutK m e p):Nat):Int)) (by omega),tB 61 (decide_eq_false k4),
       r64 (e+(((cutK m e p):Nat):Int)) (by omega),.c (refOf_pc _ _ _ (by omega) (by omega) (by omega):PCt 155 [(bP neg),(slP (limbs (m / 2 ^ (cutK m e p)))),(iP (e+(((cutK m e p):Nat):Int)))] _)] <| rR (.tup [dyP (cutD neg m e more p up),iP (cutE neg m e more p up)]) (by
      have hq:cutQ m e more p (neg != up)=(m / 2 ^ (cutK m e p)):=by unfold cutQ; simp [k2,hlo]
      obtain ⟨g1,g2⟩:=cut_in (e:=e) hq (.inr (by omega))
      exact .of_eq (by rw [g1,g2]):E.le (.tup [(dyP (canon neg (m / 2 ^ (cutK m e p)) (e+(((cutK m e p):Nat):Int)))),(iP 0)]) (.tup [dyP (cutD neg m e more p up),iP (cutE neg m e more p up)]))))
     (fun k3=>chain [tB 44 (Bool.eq_false_iff.2 k2),.c (r1BitsM _ (by omega):PCt 189 [(slP (limbs (m / 2 ^ (cutK m e p))))] _),tB 53 (decide_eq_false k3),r64 (e+(((cutK m e p):Nat):Int)) (by omega),
      .c (refOf_pc _ _ _ (by omega) (by omega) (by omega):PCt 155 [(bP neg),(slP (limbs (m / 2 ^ (cutK m e p)))),(iP (e+(((cutK m e p):Nat):Int)))] _)] <| rR (.tup [dyP (cutD neg m e more p up),iP (cutE neg m e more p up)]) (by
      have hq:cutQ m e more p (neg != up)=(m / 2 ^ (cutK m e p)):=by unfold cutQ; simp [k2,hlo]
      have h0:(m / 2 ^ (cutK m e p))=0:=by
       apply Classical.byContradiction; intro h; have:=bitsN_pos h; omega
      obtain ⟨g1,g2⟩:=cut_in (e:=e) hq (.inl h0)
      exact .of_eq (by rw [g1,g2]):E.le (.tup [(dyP (canon neg (m / 2 ^ (cutK m e p)) (e+(((cutK m e p):Nat):Int)))),(iP 0)]) (.tup [dyP (cutD neg m e more p up),iP (cutE neg m e more p up)])))))) (by kernel_rfl)
open Go.RowKit Fp Pu
theorem cmpN_ge {a b:Nat}:0 ≤ cmpN a b ↔ b ≤ a:=by
 unfold cmpN
 split
 ·simp; omega
 ·split <;> simp <;> omega
theorem r2Left_pc (m n:Nat) (hl:(limbs m).length ≤ 1000) (hn:n ≤ 65536):PCt 194 [slP (limbs m),iP (n:Int)] (slP (limbs (m * 2 ^ n))) :=
 pcS1i (ok_limbs m) Tryz.call194 (fun A c w h _=>refLeft_any A c (limbs m) n w h hl hn) fun A c B w e w' h hB r=>by rw [val_limbs] at r; exact rl B w e w' hB r
theorem r2Plus_pc (m n:Nat) (hl:(limbs m).length ≤ 3000) (hn:(limbs n).length ≤ 3000):PCt 195 [slP (limbs m),slP (limbs n)] (slP (limbs (m+n))) :=
 pcS2 (ok_limbs m) (ok_limbs n) Tryz.call195 (fun A c B d w h k _=>refPlus_any A B c d (limbs m) (limbs n) w h k hl hn) fun B w e w' hB r=>by rw [val_limbs,val_limbs] at r; exact rl B w e w' hB r
theorem r2Minus_pc (m n:Nat) (hl:(limbs m).length ≤ 3000) (hn:n ≤ m):PCt 197 [slP (limbs m),slP (limbs n)] (slP (limbs (m - n))) :=
 pcS2 (ok_limbs m) (ok_limbs n) Tryz.call197 (fun A c B d w h k _=>refMinus_any A B c d (limbs m) (limbs n) w h k hl (limbs_len_mono hn) (by rw [val_limbs,val_limbs]; exact hn)) fun B w e w' hB r=>by rw [val_limbs,val_limbs] at r; exact rl B w e w' hB r
theorem r2Compare_pc (m n:Nat) (hl:(limbs m).length ≤ 3000) (hn:(limbs n).length ≤ 3000):PCt 196 [slP (limbs m),slP (limbs n)] (iP (cmpN m n)):=by
 refine pcS2 (ok_limbs m) (ok_limbs n) Tryz.call196 (fun A c B d w h k _=>refCompare_any A B c d (limbs m) (limbs n) w h k (trim_limbs _) (trim_limbs _) (by omega) (by omega)) ?_
 rw [val_limbs,val_limbs]
 exact rv
theorem refSum_pc (a b:Dy) (ha:Near a) (hb:Near b):PCt 154 [(dyP a),(dyP b)] (dyP (sumD a b)):=by
 obtain ⟨ha1,ha2,ha3⟩:=ha
 obtain ⟨hb1,hb2,hb3⟩:=hb
 have ba:=bits_of_limbs ha1
 have bb:=bits_of_limbs hb1
 obtain ⟨k,hk⟩:∃ k,min a.e b.e=k:=⟨_,rfl⟩
 exact tr true Tryz.call154 Tryz.func154 (.w ((((limbs a.m).length:Nat):Int)=0)
  (fun k1=>by
   have a0:a.m=0:=limbs_len0.1 (by omega)
   exact chain [tB 11 (beq_iff_eq.2 k1)] <| rQ (dyP b) (dyP (sumD a b)) (by rw [show sumD a b=b by unfold sumD; rw [if_pos a0]]))
  (fun k1=>by
   have a0:a.m ≠ 0:=fun h=>k1 (by rw [limbs_len0.2 h]; rfl)
   exact chain [tB 11 (beq_eq_false_iff_ne.2 k1)] <| .w ((((limbs b.m).length:Nat):Int)=0)
    (fun k2=>by
     have b0:b.m=0:=limbs_len0.1 (by omega)
     exact chain [tB 16 (beq_iff_eq.2 k2)] <| rQ (dyP a) (dyP (sumD a b)) (by rw [show sumD a b=a by unfold sumD; rw [if_neg a0,if_pos b0]]))
    (fun k2=>by
     have b0:b.m ≠ 0:=fun h=>k2 (by rw [limbs_len0.2 h]; rfl)
     have hX:(limbs (a.m * 2 ^ ((a.e - k).toNat))).length ≤ 1400:=limbs_of_bits (by rw [bitsN_mul_pow a0]; omega)
     have hY:(limbs (b.m * 2 ^ ((b.e - k).toNat))).length ≤ 1400:=limbs_of_bits (by rw [bitsN_mul_pow b0]; omega)
     have hP:=limbs_add_len hX hY
     have hM:(limbs ((a.m * 2 ^ ((a.e - k).toNat)) - (b.m * 2 ^ ((b.e - k).toNat)))).length ≤ 1400:=Nat.le_trans (limbs_len_mono (Nat.sub_le _ _)) hX
     have hN:(limbs ((b.m * 2 ^ ((b.e - k).toNat)) - (a.m * 2 ^ ((a.e - k).toNat)))).length ≤ 1400:=Nat.le_trans (limbs_len_mono (Nat.sub_le _ _)) hY
     exact chain [tB 16 (beq_eq_false_iff_ne.2 k2),.o 22 (.int (by rw [← hk]; split <;> omega):PV.le (.e (iP (if b.e < a.e then b.e else a.e))) (.e (iP k))),r64 (a.e - k) (by omega),
      .o 28 (.int (by omega):PV.le (.e (iP (a.e - k))) (.e (iP ((((a.e - k).toNat):Nat):Int)))),.c (r2Left_pc _ _ (by omega) (by omega):PCt 194 [(slP (limbs a.m)),(iP ((((a.e - k).toNat):Nat):Int))] _),r64 (b.e - k) (by omega),
      .o 35 (.int (by omega):PV.le (.e (iP (b.e - k))) (.e (iP ((((b.e - k).toNat):Nat):Int)))),.c (r2Left_pc _ _ (by omega) (by omega):PCt 194 [(slP (limbs b.m)),(iP ((((b.e - k).toNat):Nat):Int))] _)] <| .w (a.neg=b.neg)
      (fun k3=>chain [tB 41 (beq_iff_eq.2 k3),.c (r2Plus_pc _ _ (by omega) (by omega):PCt 195 [(slP (limbs (a.m * 2 ^ ((a.e - k).toNat)))),(slP (limbs (b.m * 2 ^ ((b.e - k).toNat))))] _),
       .c (refOf_pc _ _ _ (by omega) (by omega) (by omega):PCt 155 [(bP a.neg),(slP (limbs ((a.m * 2 ^ ((a.e - k).toNat))+(b.m * 2 ^ ((b.e - k).toNat))))),(iP k)] _)] <| rQ (dyP (canon a.neg ((a.m * 2 ^ ((a.e - k).toNat))+(b.m * 2 ^ ((b.e - k).toNat))) k)) (dyP (sumD a b)) (by have h:=sumD_same (s:=a.neg) a0 b0 hk; rw [show (⟨a.neg,b.m,b.e⟩:Dy)=b by rw [k3]] at h; exact congrArg dyP h.symm))
      (fun k3=>chain [tB 41 (beq_eq_false_iff_ne.2 k3),.c (r2Compare_pc _ _ (by omega) (by omega):PCt 196 [(slP (limbs (a.m * 2 ^ ((a.e - k).toNat)))),(slP (limbs (b.m * 2 ^ ((b.e - k).toNat))))] _)] <| .w (0 ≤ (cmpN (a.m * 2 ^ ((a.e - k).toNat)) (b.m * 2 ^ ((b.e - k).toNat))))
       (fun k4=>by
        have hc:(b.m * 2 ^ ((b.e - k).toNat)) ≤ (a.m * 2 ^ ((a.e - k).toNat)):=cmpN_ge.1 k4
        exact chain [tB 52 (decide_eq_true k4),.c (r2Minus_pc _ _ (by omega) (by omega):PCt 197 [(slP (limbs (a.m * 2 ^ ((a.e - k).toNat)))),(slP (limbs (b.m * 2 ^ ((b.e - k).toNat))))] _),
         .c (refOf_pc _ _ _ (by omega) (by omega) (by omega):PCt 155 [(bP a.neg),(slP (limbs ((a.m * 2 ^ ((a.e - k).toNat)) - (b.m * 2 ^ ((b.e - k).toNat))))),(iP k)] _)] <| rQ (dyP (canon a.neg ((a.m * 2 ^ ((a.e - k).toNat)) - (b.m * 2 ^ ((b.e - k).toNat))) k)) (dyP (sumD a b)) (congrArg dyP (sumD_ge (s:=a.neg) (t:=b.neg) a0 b0 hk k3 hc).symm))
       (fun k4=>by
        have hc:(a.m * 2 ^ ((a.e - k).toNat)) < (b.m * 2 ^ ((b.e - k).toNat)):=Nat.lt_of_not_le fun h=>k4 (cmpN_ge.2 h)
        exact chain [tB 52 (decide_eq_false k4),.c (r2Minus_pc _ _ (by omega) (by omega):PCt 197 [(slP (limbs (b.m * 2 ^ ((b.e - k).toNat)))),(slP (limbs (a.m * 2 ^ ((a.e - k).toNat))))] _),
         .c (refOf_pc _ _ _ (by omega) (by omega) (by omega):PCt 155 [(bP b.neg),(slP (limbs ((b.m * 2 ^ ((b.e - k).toNat)) - (a.m * 2 ^ ((a.e - k).toNat))))),(iP k)] _)] <| rQ (dyP (canon b.neg ((b.m * 2 ^ ((b.e - k).toNat)) - (a.m * 2 ^ ((a.e - k).toNat))) k)) (dyP (sumD a b)) (congrArg dyP (sumD_lt (s:=a.neg) (t:=b.neg) a0 b0 hk k3 hc).symm)))))) (by kernel_rfl)
theorem refCmp_pc (a b:Dy) (ha:Near a) (hb:Near b):PCt 69 [(dyP a),(dyP b)] (iP (cmpD a b)):=by
 have hn:Near (negD b):=⟨hb.len,hb.lo,hb.hi⟩
 exact tr true Tryz.call69 Tryz.func69 (chain [.c (refSign_pc _:PCt 153 [(dyP a)] _),.c (refSign_pc _:PCt 153 [(dyP b)] _)] <| .w ((Dy.sign a)=(Dy.sign b))
  (fun k1=>chain [tB 13 (bne_eq_false_iff_eq.2 k1)] <| .w ((Dy.sign a)=0)
   (fun k2=>chain [tB 18 (beq_iff_eq.2 k2)] <| rQ (iP 0) (iP (cmpD a b)) (by rw [cmpD_ref,if_neg (by simpa using k1),if_pos k2]))
   (fun k2=>chain [tB 18 (beq_eq_false_iff_ne.2 k2),.c (refTop_pc _ ha:PCt 84 [(dyP a)] _),.c (refTop_pc _ hb:PCt 84 [(dyP b)] _)] <| .w ((Dy.top a)=(Dy.top b))
    (fun k3=>chain [tB 23 (bne_eq_false_iff_eq.2 k3),.c (refNeg_pc _:PCt 72 [(dyP b)] _),.c (refSum_pc a (negD b) ha hn),.c (refSign_pc _:PCt 153 [(dyP (sumD a (negD b)))] _)] <| rQ (iP (Dy.sign (sumD a (negD b)))) (iP (cmpD a b)) (by rw [cmpD_ref,if_neg (by simpa using k1),if_neg k2,if_neg (by simpa using k3)]))
    (fun k3=>chain [tB 23 (bne_iff_ne.2 k3),.c (refTop_pc _ ha:PCt 84 [(dyP a)] _),.c (refTop_pc _ hb:PCt 84 [(dyP b)] _)] <| .w ((decide ((Dy.top a) < (Dy.top b)))=(decide (0 < (Dy.sign a))))
     (fun k4=>chain [tB 31 (beq_iff_eq.2 k4)] <| rQ (iP (-1)) (iP (cmpD a b)) (by rw [cmpD_ref,if_neg (by simpa using k1),if_neg k2,if_pos k3,if_pos (by simpa using k4)]))
     (fun k4=>chain [tB 31 (beq_eq_false_iff_ne.2 k4)] <| rQ (iP 1) (iP (cmpD a b)) (by rw [cmpD_ref,if_neg (by simpa using k1),if_neg k2,if_pos k3,if_neg (by simpa using k4)])))))
  (fun k1=>chain [tB 13 (bne_iff_ne.2 k1)] <| .w ((Dy.sign a) < (Dy.sign b))
   (fun k2=>chain [tB 16 (decide_eq_true k2)] <| rQ (iP (-1)) (iP (cmpD a b)) (by rw [cmpD_ref,if_pos k1,if_pos k2]))
   (fun k2=>chain [tB 16 (decide_eq_false k2)] <| rQ (iP 1) (iP (cmpD a b)) (by rw [cmpD_ref,if_pos k1,if_neg k2])))) (by kernel_rfl)
open Go.RowKit Fp Pu
set_option maxHeartbeats 1000000 in
theorem r3Exact_pc (d:Dy) (p:Nat) (up:Bool) (h1:(limbs d.m).length ≤ 2900) (he1:-200000 ≤ d.e) (he2:d.e ≤ 200000) (hp1:8 ≤ p) (hp2:p ≤ 512):PCt 172 [(dyP d),(iP p),(bP up)] (.tup [dyP (rndD d p up),iP (rndE d p up)]):=by
 exact tr true Tryz.call172 Tryz.func172 (chain [.c (r3Cut_pc d.neg d.m d.e false p up (by omega) (by omega) (by omega) (by omega) (by omega))] <| .nil) (by kernel_rfl)
set_option maxHeartbeats 1000000 in
theorem r3Fault_pc (a b:Dy) (p:Nat) (ha:a.Valid) (hb:b.Valid) (hp1:8 ≤ p) (hp2:p ≤ 512):PCt 171 [(dyP a),(dyP b),(iP p)] (iP 0):=by
 exact tr true Tryz.call171 Tryz.func171 (chain [.c (refValid_pc _ ‹_›:PCt 159 [(dyP a)] _),.c (refValid_pc _ ‹_›:PCt 159 [(dyP b)] _),.c (refPrec_pc _:PCt 58 [(iP p)] _),
  tB 16 (precB_true.2 ⟨by omega,by omega⟩:(precB (p:Int))=true)] <| .nil) (by kernel_rfl)
set_option maxHeartbeats 1000000 in
theorem r3Add_pc (a b:Dy) (p:Nat) (up:Bool) (ha:a.Valid) (hb:b.Valid) (hp1:8 ≤ p) (hp2:p ≤ 512):PCt 101 [(dyP a),(dyP b),(iP p),(bP up)] (.tup [dyP (rndD (sumD a b) p up),iP (rndE (sumD a b) p up)]):=by
 have hx:=sum_far ha hb
 exact tr true Tryz.call101 Tryz.func101 (chain [.c (r3Fault_pc a b p ‹_› ‹_› (by omega) (by omega)),tB 16 (by decide:((0:Int) != 0)=false),.c (refSum_pc a b (Fp.Dy.Valid.near ‹_›) (Fp.Dy.Valid.near ‹_›)),
  .c (r3Exact_pc (sumD a b) p up hx.1 hx.2.1 hx.2.2 (by omega) (by omega))] <| .nil) (by kernel_rfl)
set_option maxHeartbeats 1000000 in
theorem r3Mul_pc (a b:Dy) (p:Nat) (up:Bool) (ha:a.Valid) (hb:b.Valid) (hp1:8 ≤ p) (hp2:p ≤ 512):PCt 151 [(dyP a),(dyP b),(iP p),(bP up)] (.tup [dyP (rndD (prodD a b) p up),iP (rndE (prodD a b) p up)]):=by
 have hx:=prod_far ha hb
 exact tr true Tryz.call151 Tryz.func151 (chain [.c (r3Fault_pc a b p ‹_› ‹_› (by omega) (by omega)),tB 16 (by decide:((0:Int) != 0)=false),
  .c (refProduct_pc _ _ (Fp.Dy.Valid.near ‹_›) (Fp.Dy.Valid.near ‹_›):PCt 193 [(dyP a),(dyP b)] _),.c (r3Exact_pc (prodD a b) p up hx.1 hx.2.1 hx.2.2 (by omega) (by omega))] <| .nil) (by kernel_rfl)
set_option maxHeartbeats 1000000 in
theorem r3Div_pc (a b:Dy) (p:Nat) (up:Bool) (ha:a.Valid) (hb:b.Valid) (b0:b.m ≠ 0) (hp1:8 ≤ p) (hp2:p ≤ 512):PCt 147 [(dyP a),(dyP b),(iP p),(bP up)] (.tup [dyP (divD a b p up),iP (divE a b p up)]):=by
 by_cases a0:a.m=0
 ·have e1:divD a b p up=zeroD ∧ divE a b p up=0:=by unfold divD divE; rw [if_pos a0,if_pos a0]; exact ⟨rfl,rfl⟩
  exact tr true Tryz.call147 Tryz.func147 (chain [.c (r3Fault_pc a b p ‹_› ‹_› (by omega) (by omega)),tB 19 (by decide:((0:Int) != 0)=false),tB 25 (natZ_false (limbs_len_ne b0):((((limbs b.m).length:Nat):Int) == 0)=false),
   tB 30 (natZ_true (limbs_len0.2 a0):((((limbs a.m).length:Nat):Int) == 0)=true),.o 31 (.e zeroP_le:PV.le (.e (.agg [(bP false),(.v (.slice none 0 0)),(iP 0)])) (.e (dyP zeroD)))] <| rQ (.tup [(dyP zeroD),(iP 0)]) (.tup [dyP (divD a b p up),iP (divE a b p up)]) (by rw [e1.1,e1.2])) (by kernel_rfl)
 ·have va:=ha.limbs
  have vb:=hb.limbs
  have xa:=ha.exp
  have xb:=hb.exp
  have ra:=ha.range.resolve_left a0
  have rb:=hb.range.resolve_left b0
  have pa:=bitsN_pos a0
  have pb:=bitsN_pos b0
  have hK:divK a b p 2=p+2+bitsN b.m - bitsN a.m:=rfl
  have bs:=bitsN_mul_pow a0 (divK a b p 2)
  have z1:(limbs (a.m * 2 ^ divK a b p 2)).length ≤ 2900:=limbs_of_bits (by omega)
  have z2:(limbs (a.m * 2 ^ divK a b p 2 / b.m)).length ≤ 2900:=limbs_of_bits (by have:=bitsN_mono (Nat.div_le_self (a.m * 2 ^ divK a b p 2) b.m); omega)
  have z3:(limbs (a.m * 2 ^ divK a b p 2 % b.m)).length ≤ 2900:=limbs_of_bits (by have:=bitsN_mono (Nat.le_of_lt (Nat.mod_lt (a.m * 2 ^ divK a b p 2) (Nat.pos_of_ne_zero b0))); omega)
  have hb0:decide (0 < ((bitsN (a.m * 2 ^ divK a b p 2 % b.m):Nat):Int))=decide (a.m * 2 ^ divK a b p 2 % b.m ≠ 0):=by
   by_cases h:a.m * 2 ^ divK a b p 2 % b.m=0
   ·rw [h,bitsN_zero]; rfl
   ·have:=bitsN_pos h
    rw [decide_eq_true h,decide_eq_true (by omega)]
  exact tr true Tryz.call147 Tryz.func147 (chain [.c (r3Fault_pc a b p ‹_› ‹_› (by omega) (by omega)),tB 19 (by decide:((0:Int) != 0)=false),tB 25 (natZ_false (limbs_len_ne b0):((((limbs b.m).length:Nat):Int) == 0)=false),
   tB 30 (natZ_false (limbs_len_ne a0):((((limbs a.m).length:Nat):Int) == 0)=false),r64 ((p:Int)+2) (by omega),.c (r1BitsM _ (by omega):PCt 189 [(slP (limbs b.m))] _),
   r64 (((p:Int)+2)+(((bitsN b.m):Nat):Int)) (by omega),.c (r1BitsM _ (by omega):PCt 189 [(slP (limbs a.m))] _),r64 ((((p:Int)+2)+(((bitsN b.m):Nat):Int)) - (((bitsN a.m):Nat):Int)) (by omega),
   .o 42 (.int (by split <;> omega):PV.le (.e (iP (if ((((p:Int)+2)+(((bitsN b.m):Nat):Int)) - (((bitsN a.m):Nat):Int)) > 0 then ((((p:Int)+2)+(((bitsN b.m):Nat):Int)) - (((bitsN a.m):Nat):Int)) else 0))) (.e (iP (((divK a b p 2):Nat):Int)))),
   .c (r1ShlM _ _ (by omega) (by omega):PCt 191 [(slP (limbs a.m)),(iP (((divK a b p 2):Nat):Int))] _),.c (r1DivModM _ _ (by omega) (by omega) (by omega):PCt 190 [(slP (limbs (a.m * 2 ^ (divK a b p 2)))),(slP (limbs b.m))] _),
   r64 (a.e - b.e) (by omega),r64 ((a.e - b.e) - (((divK a b p 2):Nat):Int)) (by omega),.c (r1BitsM _ (by omega):PCt 189 [(slP (limbs ((a.m * 2 ^ (divK a b p 2)) % b.m)))] _),
   .c (r3Cut_pc (! (a.neg == b.neg)) ((a.m * 2 ^ (divK a b p 2)) / b.m) ((a.e - b.e) - (((divK a b p 2):Nat):Int)) (decide (0 < (((bitsN ((a.m * 2 ^ (divK a b p 2)) % b.m)):Nat):Int))) p up (by omega) (by omega) (by omega) (by omega) (by omega))] <| rQ (.tup [(dyP (cutD (!(a.neg == b.neg)) ((a.m * 2 ^ (divK a b p 2)) / b.m) ((a.e - b.e) - (((divK a b p 2):Nat):Int)) (decide (0 < (((bitsN ((a.m * 2 ^ (divK a b p 2)) % b.m)):Nat):Int))) p up)),(iP (cutE (!(a.neg == b.neg)) ((a.m * 2 ^ (divK a b p 2)) / b.m) ((a.e - b.e) - (((divK a b p 2):Nat):Int)) (decide (0 < (((bitsN ((a.m * 2 ^ (divK a b p 2)) % b.m)):Nat):Int))) p up))]) (.tup [dyP (divD a b p up),iP (divE a b p up)]) (by unfold divD divE; rw [if_neg a0,if_neg a0,← hb0]; rfl)) (by kernel_rfl)
open Go.RowKit Fp Pu
abbrev qha0 (x:Iv) (y:Iv) (p):=minD (rndD (prodD x.lo y.lo) p false) (rndD (prodD x.lo y.lo) p false)
abbrev qha1 (x:Iv) (y:Iv) (p):=maxD (rndD (prodD x.lo y.lo) p true) (rndD (prodD x.lo y.lo) p true)
set_option maxHeartbeats 2000000 in
theorem r5Prec_pc (p:Int):PCt 99 [(iP p)] (bP (precB p)):=by
 exact tr true Tryz.call99 Tryz.func99 (.w (8 ≤ p)
  (fun k1=>chain [tB 4 (decide_eq_true k1)] <| rQ (bP (decide (p ≤ 512))) (bP (precB p)) (by simp [precB,k1]))
  (fun k1=>chain [tB 4 (decide_eq_false k1)] <| rQ (bP false) (bP (precB p)) (by simp [precB,k1]))) (by kernel_rfl)
set_option maxHeartbeats 2000000 in
theorem r5Whole_pc  : PCt 145 [] (ivP wholeI):=by
 exact tr true Tryz.call145 Tryz.func145 (chain [.o 1 (.e wholeP_le:PV.le (.e (.agg [(bP false),(.v (.slice none 0 0)),(iP 0),(bP false),(.v (.slice none 0 0)),(iP 0),(bP true)])) (.e (ivP wholeI)))] <| .nil) (by kernel_rfl)
set_option maxHeartbeats 2000000 in
theorem r5Point_pc (d:Dy):PCt 39 [(dyP d)] (ivP (pointI d)):=by
 exact tr true Tryz.call39 Tryz.func39 (.nil) (by kernel_rfl)
set_option maxHeartbeats 2000000 in
theorem r5Zero_pc  : PCt 169 [(dyP zeroD)] (bP true):=by
 exact tr true Tryz.call169 Tryz.func169 (chain [tB 4 (rfl:zeroD.neg=false),tB 10 (natZ_true (limbs_len0.2 rfl):((((limbs zeroD.m).length:Nat):Int) == 0)=true),tB 15 (rfl:(zeroD.e == 0)=true)] <| .nil) (by kernel_rfl)
set_option maxHeartbeats 2000000 in
theorem r5Valid_pc (x:Iv) (hx:x.Valid):PCt 97 [(ivP x)] (bP true):=by
 by_cases hxa:x.all=true
 ·obtain ⟨h1,h2⟩:=ivOn hx hxa
  exact tr true Tryz.call97 Tryz.func97 (chain [tB 4 (hxa:x.all=true),.c (by rw [h1]; exact r5Zero_pc:PCt 169 [(dyP x.lo)] (bP true)),.c (by rw [h2]; exact r5Zero_pc:PCt 169 [(dyP x.hi)] (bP true))] <| .nil) (by kernel_rfl)
 ·replace hxa:x.all=false:=by simpa using hxa
  obtain ⟨h1,h2,h3⟩:=ivOff hx hxa
  exact tr true Tryz.call97 Tryz.func97 (chain [tB 4 (hxa:x.all=false),.c (refValid_pc _ ‹_›:PCt 159 [(dyP x.lo)] _),.c (refValid_pc _ ‹_›:PCt 159 [(dyP x.hi)] _),
   .c (refCmp_pc x.lo x.hi (Fp.Dy.Valid.near ‹_›) (Fp.Dy.Valid.near ‹_›)),tB 27 (decide_eq_true h3)] <| .nil) (by kernel_rfl)
set_option maxHeartbeats 2000000 in
theorem r5Known_pc (x:Iv) (hx:x.Valid):PCt 100 [(ivP x)] (bP (!x.all)):=by
 exact tr true Tryz.call100 Tryz.func100 (chain [.c (r5Valid_pc x ‹_›)] <| .nil) (by kernel_rfl)
set_option maxHeartbeats 2000000 in
theorem r5Made_pc (lo hi:Dy) (e f:Int):PCt 157 [(dyP lo),(iP e),(dyP hi),(iP f)] (ivP (madeI lo e hi f)):=by
 exact tr true Tryz.call157 Tryz.func157 (.w (e=0)
  (fun k1=>chain [tB 10 (bne_eq_false_iff_eq.2 k1)] <| .w (f=0)
   (fun k2=>chain [tB 13 (bne_eq_false_iff_eq.2 k2)] <| rQ (ivP (Iv.mk lo hi false)) (ivP (madeI lo e hi f)) (by unfold madeI; simp [k1,k2]; try rfl))
   (fun k2=>chain [tB 13 (bne_iff_ne.2 k2),.c r5Whole_pc] <| rQ (ivP wholeI) (ivP (madeI lo e hi f)) (by unfold madeI; simp [k1,k2])))
  (fun k1=>chain [tB 10 (bne_iff_ne.2 k1),.c r5Whole_pc] <| rQ (ivP wholeI) (ivP (madeI lo e hi f)) (by unfold madeI; simp [k1]))) (by kernel_rfl)
set_option maxHeartbeats 2000000 in
theorem r5Add_pc (x y:Iv) (p:Nat) (hx:x.Valid) (hy:y.Valid) (hp1:8 ≤ p) (hp2:p ≤ 512):PCt 73 [(ivP x),(ivP y),(iP p)] (ivP (addI x y p)):=by
 exact tr true Tryz.call73 Tryz.func73 (chain [.c (r5Prec_pc (p:Int)),tB 12 (precB_true.2 ⟨by omega,by omega⟩:(precB (p:Int))=true),.c (r5Known_pc x ‹_›)] <| .w (x.all=true)
  (fun k1=>chain [tB 16 (bnt k1),.c r5Whole_pc] <| rQ (ivP wholeI) (ivP (addI x y p)) (by unfold addI; simp [k1]))
  (fun k1=>by
   have hh_:=ivOff hx (Bool.eq_false_iff.2 k1)
   have v1:=hh_.1
   have v2:=hh_.2.1
   have v3:=hh_.2.2
   exact chain [tB 16 (bnf (Bool.eq_false_iff.2 k1)),.c (r5Known_pc y ‹_›)] <| .w (y.all=true)
    (fun k2=>chain [tB 21 (bnt k2),.c r5Whole_pc] <| rQ (ivP wholeI) (ivP (addI x y p)) (by unfold addI; simp [k1,k2]))
    (fun k2=>by
     have hh_:=ivOff hy (Bool.eq_false_iff.2 k2)
     have v4:=hh_.1
     have v5:=hh_.2.1
     have v6:=hh_.2.2
     exact chain [tB 21 (bnf (Bool.eq_false_iff.2 k2)),.c (r3Add_pc x.lo y.lo p false ‹_› ‹_› (by omega) (by omega)),.c (r3Add_pc x.hi y.hi p true ‹_› ‹_› (by omega) (by omega)),
      .c (r5Made_pc (rndD (sumD x.lo y.lo) p false) (rndD (sumD x.hi y.hi) p true) (rndE (sumD x.lo y.lo) p false) (rndE (sumD x.hi y.hi) p true))] <| rQ (ivP (madeI (rndD (sumD x.lo y.lo) p false) (rndE (sumD x.lo y.lo) p false) (rndD (sumD x.hi y.hi) p true) (rndE (sumD x.hi y.hi) p true))) (ivP (addI x y p)) (by unfold addI; simp [k1,k2])))) (by kernel_rfl)
set_option maxHeartbeats 2000000 in
theorem r5Neg_pc (x:Iv) (hx:x.Valid):PCt 156 [(ivP x)] (ivP (negI x)):=by
 exact tr true Tryz.call156 Tryz.func156 (chain [.c (r5Known_pc x ‹_›)] <| .w (x.all=true)
  (fun k1=>chain [tB 4 (bnt k1),.c r5Whole_pc] <| rQ (ivP wholeI) (ivP (negI x)) (by unfold negI; simp [k1]))
  (fun k1=>by
   have hh_:=ivOff hx (Bool.eq_false_iff.2 k1)
   have v1:=hh_.1
   have v2:=hh_.2.1
   have v3:=hh_.2.2
   exact chain [tB 4 (bnf (Bool.eq_false_iff.2 k1)),.c (refNeg_pc _:PCt 72 [(dyP x.hi)] _),.c (refNeg_pc _:PCt 72 [(dyP x.lo)] _)] <| rQ (ivP (Iv.mk (negD x.hi) (negD x.lo) false)) (ivP (negI x)) (by unfold negI; simp [k1]; try rfl))) (by kernel_rfl)
set_option maxHeartbeats 2000000 in
theorem r5Sub_pc (x y:Iv) (p:Nat) (hx:x.Valid) (hy:y.Valid) (hp1:8 ≤ p) (hp2:p ≤ 512):PCt 71 [(ivP x),(ivP y),(iP p)] (ivP (subI x y p)):=by
 exact tr true Tryz.call71 Tryz.func71 (chain [.c (r5Neg_pc y ‹_›),.c (r5Add_pc x (negI y) p ‹_› (negI_valid ‹_›) (by omega) (by omega))] <| .nil) (by kernel_rfl)
set_option maxHeartbeats 2000000 in
theorem r5Least_pc (a b:Dy) (ha:a.Valid) (hb:b.Valid):PCt 148 [(dyP a),(dyP b)] (dyP (minD a b)):=by
 have hc:=cmpD_neg a b
 exact tr true Tryz.call148 Tryz.func148 (chain [.c (refCmp_pc a b (Fp.Dy.Valid.near ‹_›) (Fp.Dy.Valid.near ‹_›))] <| .w ((cmpD a b) ≤ 0)
  (fun k1=>chain [tB 8 (decide_eq_true k1)] <| rQ (dyP a) (dyP (minD a b)) (by unfold minD; rw [if_neg (by omega)]))
  (fun k1=>chain [tB 8 (decide_eq_false k1)] <| rQ (dyP b) (dyP (minD a b)) (by unfold minD; rw [if_pos (by omega)]))) (by kernel_rfl)
set_option maxHeartbeats 2000000 in
theorem r5Most_pc (a b:Dy) (ha:a.Valid) (hb:b.Valid):PCt 149 [(dyP a),(dyP b)] (dyP (maxD a b)):=by
 have hc:=cmpD_neg a b
 exact tr true Tryz.call149 Tryz.func149 (chain [.c (refCmp_pc a b (Fp.Dy.Valid.near ‹_›) (Fp.Dy.Valid.near ‹_›))] <| .w (0 ≤ (cmpD a b))
  (fun k1=>chain [tB 8 (decide_eq_true k1)] <| rQ (dyP a) (dyP (maxD a b)) (by unfold maxD; rw [if_neg (by omega)]))
  (fun k1=>chain [tB 8 (decide_eq_false k1)] <| rQ (dyP b) (dyP (maxD a b)) (by unfold maxD; rw [if_pos (by omega)]))) (by kernel_rfl)
set_option maxHeartbeats 2000000 in
theorem r5Sign_pc (x:Iv) (hx:x.Valid):PCt 144 [(ivP x)] (iP (signI x)):=by
 exact tr true Tryz.call144 Tryz.func144 (chain [.c (r5Known_pc x ‹_›)] <| .w (x.all=true)
  (fun k1=>chain [tB 4 (bnt k1)] <| rQ (iP 0) (iP (signI x)) (by unfold signI; simp [k1]))
  (fun k1=>by
   have hh_:=ivOff hx (Bool.eq_false_iff.2 k1)
   have v1:=hh_.1
   have v2:=hh_.2.1
   have v3:=hh_.2.2
   exact chain [tB 4 (bnf (Bool.eq_false_iff.2 k1)),.c (refSign_pc _:PCt 153 [(dyP x.lo)] _)] <| .w (0 < (Dy.sign x.lo))
    (fun k2=>chain [tB 9 (decide_eq_true k2)] <| rQ (iP 1) (iP (signI x)) (by unfold signI; simp [k1,k2]))
    (fun k2=>chain [tB 9 (decide_eq_false k2),.c (refSign_pc _:PCt 153 [(dyP x.hi)] _)] <| .w ((Dy.sign x.hi) < 0)
     (fun k3=>chain [tB 13 (decide_eq_true k3)] <| rQ (iP (-1)) (iP (signI x)) (by unfold signI; simp [k1,k2,k3]))
     (fun k3=>chain [tB 13 (decide_eq_false k3)] <| rQ (iP 0) (iP (signI x)) (by unfold signI; simp [k1,k2,k3]))))) (by kernel_rfl)
set_option maxHeartbeats 2000000 in
theorem r5Mag_pc (x:Iv) (hx:x.Valid) (hxa:x.all=false):PCt 150 [(ivP x)] (dyP (magI x)):=by
 obtain ⟨v1,v2,v3⟩:=ivOff hx hxa
 exact tr true Tryz.call150 Tryz.func150 (chain [.c (refNeg_pc _:PCt 72 [(dyP x.lo)] _),.c (r5Most_pc (negD x.lo) x.hi (negD_valid ‹_›) ‹_›)] <| rQ (dyP (maxD (negD x.lo) x.hi)) (dyP (magI x)) (by rw [mag_refS v1 v2 v3])) (by kernel_rfl)
set_option maxHeartbeats 2000000 in
theorem r5Mig_pc (x:Iv) (hx:x.Valid) (hxa:x.all=false):PCt 152 [(ivP x)] (dyP (migI x)):=by
 obtain ⟨v1,v2,v3⟩:=ivOff hx hxa
 have hm:=mig_refS hxa v1 v2 v3
 exact tr true Tryz.call152 Tryz.func152 (chain [.c (r5Sign_pc x ‹_›)] <| .w ((signI x)=0)
  (fun k1=>chain [tB 5 (beq_iff_eq.2 k1),.o 6 (.e zeroP_le:PV.le (.e (.agg [(bP false),(.v (.slice none 0 0)),(iP 0)])) (.e (dyP zeroD)))] <| rQ (dyP zeroD) (dyP (migI x)) (by rw [hm,if_pos k1]))
  (fun k1=>chain [tB 5 (beq_eq_false_iff_ne.2 k1),.c (refNeg_pc _:PCt 72 [(dyP x.hi)] _),.c (r5Most_pc x.lo (negD x.hi) ‹_› (negD_valid ‹_›))] <| rQ (dyP (maxD x.lo (negD x.hi))) (dyP (migI x)) (by rw [hm,if_neg k1]))) (by kernel_rfl)
set_option maxHeartbeats 2000000 in
theorem r5Abs_pc (x:Iv) (hx:x.Valid):PCt 68 [(ivP x)] (ivP (absI x)):=by
 exact tr true Tryz.call68 Tryz.func68 (chain [.c (r5Known_pc x ‹_›)] <| .w (x.all=true)
  (fun k1=>chain [tB 4 (bnt k1),.c r5Whole_pc] <| rQ (ivP wholeI) (ivP (absI x)) (by unfold absI; simp [k1]))
  (fun k1=>by
   have hh_:=ivOff hx (Bool.eq_false_iff.2 k1)
   have v1:=hh_.1
   have v2:=hh_.2.1
   have v3:=hh_.2.2
   exact chain [tB 4 (bnf (Bool.eq_false_iff.2 k1)),.c (r5Mig_pc x ‹_› (Bool.eq_false_iff.2 ‹_›)),.c (r5Mag_pc x ‹_› (Bool.eq_false_iff.2 ‹_›))] <| rQ (ivP (Iv.mk (migI x) (magI x) false)) (ivP (absI x)) (by unfold absI; simp [k1]; try rfl))) (by kernel_rfl)
theorem r5Ends_pc (x y:Iv):PCt 146 [(ivP x),(ivP y)] (.sl true 4 6 fun i_ j_=>(dyL x.lo ++ dyL y.lo ++ dyL x.lo ++ dyL y.hi ++ dyL x.hi ++ dyL y.lo ++ dyL x.hi ++ dyL y.hi).getD (i_ * 6+j_) (.v (.bool false))):=by
 exact tr true Tryz.call146 Tryz.func146 (.nil) (by kernel_rfl)
set_option maxHeartbeats 2000000 in
theorem r5Mul_pc (x y:Iv) (p:Nat) (hx:x.Valid) (hy:y.Valid) (hp1:8 ≤ p) (hp2:p ≤ 512):PCt 67 [(ivP x),(ivP y),(iP p)] (ivP (mulI x y p)):=by
 exact tr true Tryz.call67 Tryz.func67 (chain [.c (r5Prec_pc (p:Int)),tB 15 (precB_true.2 ⟨by omega,by omega⟩:(precB (p:Int))=true),.c (r5Known_pc x ‹_›)] <| .w (x.all=true)
  (fun k1=>chain [tB 19 (bnt k1),.c r5Whole_pc] <| rQ (ivP wholeI) (ivP (mulI x y p)) (by unfold mulI; simp [k1]))
  (fun k1=>by
   have hh_:=ivOff hx (Bool.eq_false_iff.2 k1)
   have v1:=hh_.1
   have v2:=hh_.2.1
   have v3:=hh_.2.2
   exact chain [tB 19 (bnf (Bool.eq_false_iff.2 k1)),.c (r5Known_pc y ‹_›)] <| .w (y.all=true)
    (fun k2=>chain [tB 24 (bnt k2),.c r5Whole_pc] <| rQ (ivP wholeI) (ivP (mulI x y p)) (by unfold mulI; simp [k1,k2]))
    (fun k2=>by
     have hh_:=ivOff hy (Bool.eq_false_iff.2 k2)
     have v4:=hh_.1
     have v5:=hh_.2.1
     have v6:=hh_.2.2
     exact chain [tB 24 (bnf (Bool.eq_false_iff.2 k2)),.c (r5Ends_pc x y),.u 70,tB 32 (by decide:(decide ((0:Int) < 4))=true),iX (0) (4) (by omega),iX (0) (2) (by omega),iX (0) (4) (by omega),iX (1) (2) (by omega),
      .c (r3Mul_pc x.lo y.lo p false ‹_› ‹_› (by omega) (by omega)),iX (0) (4) (by omega),iX (0) (2) (by omega),iX (0) (4) (by omega),iX (1) (2) (by omega),
      .c (r3Mul_pc x.lo y.lo p true ‹_› ‹_› (by omega) (by omega))] <| .w ((rndE (prodD x.lo y.lo) p false)=0)
      (fun k3=>chain [tB 66 (bne_eq_false_iff_eq.2 k3)] <| .w ((rndE (prodD x.lo y.lo) p true)=0)
       (fun k4=>chain [tB 69 (bne_eq_false_iff_eq.2 k4),tB 73 (by decide:((0:Int) == 0)=true),
        .c (r5Least_pc (rndD (prodD x.lo y.lo) p false) (rndD (prodD x.lo y.lo) p false) (cut_valid _ _ _ _ _ _ (by omega) (by omega)) (cut_valid _ _ _ _ _ _ (by omega) (by omega))),
        .c (r5Most_pc (rndD (prodD x.lo y.lo) p true) (rndD (prodD x.lo y.lo) p true) (cut_valid _ _ _ _ _ _ (by omega) (by omega)) (cut_valid _ _ _ _ _ _ (by omega) (by omega))),r64 (0+1) (by omega),.k [9,69,68,8,7,6,2] [8,6],
        tB 32 (by decide:(decide (((0+1):Int) < 4))=true),iX ((0+1)) (4) (by omega),iX (0) (2) (by omega),iX ((0+1)) (4) (by omega),iX (1) (2) (by omega),
        .c (r3Mul_pc x.lo y.hi p false ‹_› ‹_› (by omega) (by omega)),iX ((0+1)) (4) (by omega),iX (0) (2) (by omega),iX ((0+1)) (4) (by omega),iX (1) (2) (by omega),
        .c (r3Mul_pc x.lo y.hi p true ‹_› ‹_› (by omega) (by omega))] <| .w ((rndE (prodD x.lo y.hi) p false)=0)
        (fun k5=>chain [tB 66 (bne_eq_false_iff_eq.2 k5)] <| .w ((rndE (prodD x.lo y.hi) p true)=0)
         (fun k6=>chain [tB 69 (bne_eq_false_iff_eq.2 k6),tB 73 (by decide:(((0+1):Int) == 0)=false),
          .c (r5Least_pc (qha0 x y p) (rndD (prodD x.lo y.hi) p false) (minD_valid (cut_valid _ _ _ _ _ _ (by omega) (by omega)) (cut_valid _ _ _ _ _ _ (by omega) (by omega))) (cut_valid _ _ _ _ _ _ (by omega) (by omega))),
          .c (r5Most_pc (qha1 x y p) (rndD (prodD x.lo y.hi) p true) (maxD_valid (cut_valid _ _ _ _ _ _ (by omega) (by omega)) (cut_valid _ _ _ _ _ _ (by omega) (by omega))) (cut_valid _ _ _ _ _ _ (by omega) (by omega))),
          r64 ((0+1)+1) (by omega),.k [9,69,68,8,7,6,2] [8,6],tB 32 (by decide:(decide ((((0+1)+1):Int) < 4))=true),iX (((0+1)+1)) (4) (by omega),iX (0) (2) (by omega),iX (((0+1)+1)) (4) (by omega),
          iX (1) (2) (by omega),.c (r3Mul_pc x.hi y.lo p false ‹_› ‹_› (by omega) (by omega)),iX (((0+1)+1)) (4) (by omega),iX (0) (2) (by omega),iX (((0+1)+1)) (4) (by omega),iX (1) (2) (by omega),
          .c (r3Mul_pc x.hi y.lo p true ‹_› ‹_› (by omega) (by omega))] <| .w ((rndE (prodD x.hi y.lo) p false)=0)
          (fun k7=>chain [tB 66 (bne_eq_false_iff_eq.2 k7)] <| .w ((rndE (prodD x.hi y.lo) p true)=0)
           (fun k8=>chain [tB 69 (bne_eq_false_iff_eq.2 k8),tB 73 (by decide:((((0+1)+1):Int) == 0)=false),
            .c (r5Least_pc (minD (qha0 x y p) (rndD (prodD x.lo y.hi) p false)) (rndD (prodD x.hi y.lo) p false) (minD_valid (minD_valid (cut_valid _ _ _ _ _ _ (by omega) (by omega)) (cut_valid _ _ _ _ _ _ (by omega) (by omega))) (cut_valid _ _ _ _ _ _ (by omega) (by omega))) (cut_valid _ _ _ _ _ _ (by omega) (by omega))),
            .c (r5Most_pc (maxD (qha1 x y p) (rndD (prodD x.lo y.hi) p true)) (rndD (prodD x.hi y.lo) p true) (maxD_valid (maxD_valid (cut_valid _ _ _ _ _ _ (by omega) (by omega)) (cut_valid _ _ _ _ _ _ (by omega) (by omega))) (cut_valid _ _ _ _ _ _ (by omega) (by omega))) (cut_valid _ _ _ _ _ _ (by omega) (by omega))),
            r64 (((0+1)+1)+1) (by omega),.k [9,69,68,8,7,6,2] [8,6],tB 32 (by decide:(decide (((((0+1)+1)+1):Int) < 4))=true),iX ((((0+1)+1)+1)) (4) (by omega),iX (0) (2) (by omega),
            iX ((((0+1)+1)+1)) (4) (by omega),iX (1) (2) (by omega),.c (r3Mul_pc x.hi y.hi p false ‹_› ‹_› (by omega) (by omega)),iX ((((0+1)+1)+1)) (4) (by omega),iX (0) (2) (by omega),
            iX ((((0+1)+1)+1)) (4) (by omega),iX (1) (2) (by omega),.c (r3Mul_pc x.hi y.hi p true ‹_› ‹_› (by omega) (by omega))] <| .w ((rndE (prodD x.hi y.hi) p false)=0)
            (fun k9=>chain [tB 66 (bne_eq_false_iff_eq.2 k9)] <| .w ((rndE (prodD x.hi y.hi) p true)=0)
             (fun k10=>chain [tB 69 (bne_eq_false_iff_eq.2 k10),tB 73 (by decide:(((((0+1)+1)+1):Int) == 0)=false),
              .c (r5Least_pc (minD (minD (qha0 x y p) (rndD (prodD x.lo y.hi) p false)) (rndD (prodD x.hi y.lo) p false)) (rndD (prodD x.hi y.hi) p false) (minD_valid (minD_valid (minD_valid (cut_valid _ _ _ _ _ _ (by omega) (by omega)) (cut_valid _ _ _ _ _ _ (by omega) (by omega))) (cut_valid _ _ _ _ _ _ (by omega) (by omega))) (cut_valid _ _ _ _ _ _ (by omega) (by omega))) (cut_valid _ _ _ _ _ _ (by omega) (by omega))),
              .c (r5Most_pc (maxD (maxD (qha1 x y p) (rndD (prodD x.lo y.hi) p true)) (rndD (prodD x.hi y.lo) p true)) (rndD (prodD x.hi y.hi) p true) (maxD_valid (maxD_valid (maxD_valid (cut_valid _ _ _ _ _ _ (by omega) (by omega)) (cut_valid _ _ _ _ _ _ (by omega) (by omega))) (cut_valid _ _ _ _ _ _ (by omega) (by omega))) (cut_valid _ _ _ _ _ _ (by omega) (by omega))) (cut_valid _ _ _ _ _ _ (by omega) (by omega))),
              r64 ((((0+1)+1)+1)+1) (by omega),.k [9,69,68,8,7,6,2] [8,6],tB 32 (by decide:(decide ((((((0+1)+1)+1)+1):Int) < 4))=false)] <| rR (ivP (mulI x y p)) (by
      exact .of_eq (by
       unfold mulI; rw [if_neg (by simp [k1,k2])]
       rw [show fourI _ _ x y=_ from if_pos ⟨⟨k3,k4⟩,⟨k5,k6⟩,⟨k7,k8⟩,⟨k9,k10⟩⟩]
       rw [minD_self,maxD_self]; try rfl):E.le (ivP (Iv.mk (minD (minD (minD (minD (rndD (prodD x.lo y.lo) p false) (rndD (prodD x.lo y.lo) p false)) (rndD (prodD x.lo y.hi) p false)) (rndD (prodD x.hi y.lo) p false)) (rndD (prodD x.hi y.hi) p false)) (maxD (maxD (maxD (maxD (rndD (prodD x.lo y.lo) p true) (rndD (prodD x.lo y.lo) p true)) (rndD (prodD x.lo y.hi) p true)) (rndD (prodD x.hi y.lo) p true)) (rndD (prodD x.hi y.hi) p true)) false)) (ivP (mulI x y p))))
             (fun k10=>chain [tB 69 (bne_iff_ne.2 k10),.c r5Whole_pc] <| rR (ivP (mulI x y p)) (by
      exact .of_eq (by
       unfold mulI; rw [if_neg (by simp [k1,k2])]
       rw [show fourI _ _ x y=_ from if_neg (by rintro ⟨⟨_,_⟩,⟨_,_⟩,⟨_,_⟩,⟨_,q⟩⟩; exact k10 q)]):E.le (ivP wholeI) (ivP (mulI x y p)))))
            (fun k9=>chain [tB 66 (bne_iff_ne.2 k9),.c r5Whole_pc] <| rR (ivP (mulI x y p)) (by
      exact .of_eq (by
       unfold mulI; rw [if_neg (by simp [k1,k2])]
       rw [show fourI _ _ x y=_ from if_neg (by rintro ⟨⟨_,_⟩,⟨_,_⟩,⟨_,_⟩,⟨q,_⟩⟩; exact k9 q)]):E.le (ivP wholeI) (ivP (mulI x y p)))))
           (fun k8=>chain [tB 69 (bne_iff_ne.2 k8),.c r5Whole_pc] <| rR (ivP (mulI x y p)) (by
      exact .of_eq (by
       unfold mulI; rw [if_neg (by simp [k1,k2])]
       rw [show fourI _ _ x y=_ from if_neg (by rintro ⟨⟨_,_⟩,⟨_,_⟩,⟨_,q⟩,⟨_,_⟩⟩; exact k8 q)]):E.le (ivP wholeI) (ivP (mulI x y p)))))
          (fun k7=>chain [tB 66 (bne_iff_ne.2 k7),.c r5Whole_pc] <| rR (ivP (mulI x y p)) (by
      exact .of_eq (by
       unfold mulI; rw [if_neg (by simp [k1,k2])]
       rw [show fourI _ _ x y=_ from if_neg (by rintro ⟨⟨_,_⟩,⟨_,_⟩,⟨q,_⟩,⟨_,_⟩⟩; exact k7 q)]):E.le (ivP wholeI) (ivP (mulI x y p)))))
         (fun k6=>chain [tB 69 (bne_iff_ne.2 k6),.c r5Whole_pc] <| rR (ivP (mulI x y p)) (by
      exact .of_eq (by
       unfold mulI; rw [if_neg (by simp [k1,k2])]
       rw [show fourI _ _ x y=_ from if_neg (by rintro ⟨⟨_,_⟩,⟨_,q⟩,⟨_,_⟩,⟨_,_⟩⟩; exact k6 q)]):E.le (ivP wholeI) (ivP (mulI x y p)))))
        (fun k5=>chain [tB 66 (bne_iff_ne.2 k5),.c r5Whole_pc] <| rR (ivP (mulI x y p)) (by
      exact .of_eq (by
       unfold mulI; rw [if_neg (by simp [k1,k2])]
       rw [show fourI _ _ x y=_ from if_neg (by rintro ⟨⟨_,_⟩,⟨q,_⟩,⟨_,_⟩,⟨_,_⟩⟩; exact k5 q)]):E.le (ivP wholeI) (ivP (mulI x y p)))))
       (fun k4=>chain [tB 69 (bne_iff_ne.2 k4),.c r5Whole_pc] <| rR (ivP (mulI x y p)) (by
      exact .of_eq (by
       unfold mulI; rw [if_neg (by simp [k1,k2])]
       rw [show fourI _ _ x y=_ from if_neg (by rintro ⟨⟨_,q⟩,⟨_,_⟩,⟨_,_⟩,⟨_,_⟩⟩; exact k4 q)]):E.le (ivP wholeI) (ivP (mulI x y p)))))
      (fun k3=>chain [tB 66 (bne_iff_ne.2 k3),.c r5Whole_pc] <| rR (ivP (mulI x y p)) (by
      exact .of_eq (by
       unfold mulI; rw [if_neg (by simp [k1,k2])]
       rw [show fourI _ _ x y=_ from if_neg (by rintro ⟨⟨q,_⟩,⟨_,_⟩,⟨_,_⟩,⟨_,_⟩⟩; exact k3 q)]):E.le (ivP wholeI) (ivP (mulI x y p))))))) (by kernel_rfl)
set_option maxHeartbeats 2000000 in
theorem r5Div_pc (x y:Iv) (p:Nat) (hx:x.Valid) (hy:y.Valid) (hp1:8 ≤ p) (hp2:p ≤ 512):PCt 62 [(ivP x),(ivP y),(iP p)] (ivP (divI x y p)):=by
 exact tr true Tryz.call62 Tryz.func62 (chain [.c (r5Prec_pc (p:Int)),tB 15 (precB_true.2 ⟨by omega,by omega⟩:(precB (p:Int))=true),.c (r5Known_pc x ‹_›)] <| .w (x.all=true)
  (fun k1=>chain [tB 19 (bnt k1),.c r5Whole_pc] <| rQ (ivP wholeI) (ivP (divI x y p)) (by unfold divI; simp [k1]))
  (fun k1=>by
   have hh_:=ivOff hx (Bool.eq_false_iff.2 k1)
   have v1:=hh_.1
   have v2:=hh_.2.1
   have v3:=hh_.2.2
   exact chain [tB 19 (bnf (Bool.eq_false_iff.2 k1)),.c (r5Known_pc y ‹_›)] <| .w (y.all=true)
    (fun k2=>chain [tB 24 (bnt k2),.c r5Whole_pc] <| rQ (ivP wholeI) (ivP (divI x y p)) (by unfold divI; simp [k1,k2]))
    (fun k2=>by
     have hh_:=ivOff hy (Bool.eq_false_iff.2 k2)
     have v4:=hh_.1
     have v5:=hh_.2.1
     have v6:=hh_.2.2
     exact chain [tB 24 (bnf (Bool.eq_false_iff.2 k2)),.c (r5Sign_pc y ‹_›)] <| .w ((signI y)=0)
      (fun k3=>chain [tB 30 (beq_iff_eq.2 k3),.c r5Whole_pc] <| rQ (ivP wholeI) (ivP (divI x y p)) (by unfold divI; simp [k1,k2,k3]))
      (fun k3=>by
       have y0:=sign_ends hy k3
       exact chain [tB 30 (beq_eq_false_iff_ne.2 k3),.c (r5Ends_pc x y),.u 70,tB 37 (by decide:(decide ((0:Int) < 4))=true),iX (0) (4) (by omega),iX (0) (2) (by omega),iX (0) (4) (by omega),iX (1) (2) (by omega),
        .c (r3Div_pc x.lo y.lo p false ‹_› ‹_› y0.1 (by omega) (by omega)),iX (0) (4) (by omega),iX (0) (2) (by omega),iX (0) (4) (by omega),iX (1) (2) (by omega),
        .c (r3Div_pc x.lo y.lo p true ‹_› ‹_› y0.1 (by omega) (by omega))] <| .w ((divE x.lo y.lo p false)=0)
        (fun k4=>chain [tB 71 (bne_eq_false_iff_eq.2 k4)] <| .w ((divE x.lo y.lo p true)=0)
         (fun k5=>chain [tB 74 (bne_eq_false_iff_eq.2 k5),tB 78 (by decide:((0:Int) == 0)=true),.c (r5Least_pc (divD x.lo y.lo p false) (divD x.lo y.lo p false) (div_validD (by omega) (by omega)) (div_validD (by omega) (by omega))),
          .c (r5Most_pc (divD x.lo y.lo p true) (divD x.lo y.lo p true) (div_validD (by omega) (by omega)) (div_validD (by omega) (by omega))),r64 (0+1) (by omega),.k [9,74,73,8,7,6,2] [8,6],
          tB 37 (by decide:(decide (((0+1):Int) < 4))=true),iX ((0+1)) (4) (by omega),iX (0) (2) (by omega),iX ((0+1)) (4) (by omega),iX (1) (2) (by omega),
          .c (r3Div_pc x.lo y.hi p false ‹_› ‹_› y0.2 (by omega) (by omega)),iX ((0+1)) (4) (by omega),iX (0) (2) (by omega),iX ((0+1)) (4) (by omega),iX (1) (2) (by omega),
          .c (r3Div_pc x.lo y.hi p true ‹_› ‹_› y0.2 (by omega) (by omega))] <| .w ((divE x.lo y.hi p false)=0)
          (fun k6=>chain [tB 71 (bne_eq_false_iff_eq.2 k6)] <| .w ((divE x.lo y.hi p true)=0)
           (fun k7=>chain [tB 74 (bne_eq_false_iff_eq.2 k7),tB 78 (by decide:(((0+1):Int) == 0)=false),
            .c (r5Least_pc (minD (divD x.lo y.lo p false) (divD x.lo y.lo p false)) (divD x.lo y.hi p false) (minD_valid (div_validD (by omega) (by omega)) (div_validD (by omega) (by omega))) (div_validD (by omega) (by omega))),
            .c (r5Most_pc (maxD (divD x.lo y.lo p true) (divD x.lo y.lo p true)) (divD x.lo y.hi p true) (maxD_valid (div_validD (by omega) (by omega)) (div_validD (by omega) (by omega))) (div_validD (by omega) (by omega))),
            r64 ((0+1)+1) (by omega),.k [9,74,73,8,7,6,2] [8,6],tB 37 (by decide:(decide ((((0+1)+1):Int) < 4))=true),iX (((0+1)+1)) (4) (by omega),iX (0) (2) (by omega),iX (((0+1)+1)) (4) (by omega),
            iX (1) (2) (by omega),.c (r3Div_pc x.hi y.lo p false ‹_› ‹_› y0.1 (by omega) (by omega)),iX (((0+1)+1)) (4) (by omega),iX (0) (2) (by omega),iX (((0+1)+1)) (4) (by omega),iX (1) (2) (by omega),
            .c (r3Div_pc x.hi y.lo p true ‹_› ‹_› y0.1 (by omega) (by omega))] <| .w ((divE x.hi y.lo p false)=0)
            (fun k8=>chain [tB 71 (bne_eq_false_iff_eq.2 k8)] <| .w ((divE x.hi y.lo p true)=0)
             (fun k9=>chain [tB 74 (bne_eq_false_iff_eq.2 k9),tB 78 (by decide:((((0+1)+1):Int) == 0)=false),
              .c (r5Least_pc (minD (minD (divD x.lo y.lo p false) (divD x.lo y.lo p false)) (divD x.lo y.hi p false)) (divD x.hi y.lo p false) (minD_valid (minD_valid (div_validD (by omega) (by omega)) (div_validD (by omega) (by omega))) (div_validD (by omega) (by omega))) (div_validD (by omega) (by omega))),
              .c (r5Most_pc (maxD (maxD (divD x.lo y.lo p true) (divD x.lo y.lo p true)) (divD x.lo y.hi p true)) (divD x.hi y.lo p true) (maxD_valid (maxD_valid (div_validD (by omega) (by omega)) (div_validD (by omega) (by omega))) (div_validD (by omega) (by omega))) (div_validD (by omega) (by omega))),
              r64 (((0+1)+1)+1) (by omega),.k [9,74,73,8,7,6,2] [8,6],tB 37 (by decide:(decide (((((0+1)+1)+1):Int) < 4))=true),iX ((((0+1)+1)+1)) (4) (by omega),iX (0) (2) (by omega),
              iX ((((0+1)+1)+1)) (4) (by omega),iX (1) (2) (by omega),.c (r3Div_pc x.hi y.hi p false ‹_› ‹_› y0.2 (by omega) (by omega)),iX ((((0+1)+1)+1)) (4) (by omega),iX (0) (2) (by omega),
              iX ((((0+1)+1)+1)) (4) (by omega),iX (1) (2) (by omega),.c (r3Div_pc x.hi y.hi p true ‹_› ‹_› y0.2 (by omega) (by omega))] <| .w ((divE x.hi y.hi p false)=0)
              (fun k10=>chain [tB 71 (bne_eq_false_iff_eq.2 k10)] <| .w ((divE x.hi y.hi p true)=0)
               (fun k11=>chain [tB 74 (bne_eq_false_iff_eq.2 k11),tB 78 (by decide:(((((0+1)+1)+1):Int) == 0)=false),
                .c (r5Least_pc (minD (minD (minD (divD x.lo y.lo p false) (divD x.lo y.lo p false)) (divD x.lo y.hi p false)) (divD x.hi y.lo p false)) (divD x.hi y.hi p false) (minD_valid (minD_valid (minD_valid (div_validD (by omega) (by omega)) (div_validD (by omega) (by omega))) (div_validD (by omega) (by omega))) (div_validD (by omega) (by omega))) (div_validD (by omega) (by omega))),
                .c (r5Most_pc (maxD (maxD (maxD (divD x.lo y.lo p true) (divD x.lo y.lo p true)) (divD x.lo y.hi p true)) (divD x.hi y.lo p true)) (divD x.hi y.hi p true) (maxD_valid (maxD_valid (maxD_valid (div_validD (by omega) (by omega)) (div_validD (by omega) (by omega))) (div_validD (by omega) (by omega))) (div_validD (by omega) (by omega))) (div_validD (by omega) (by omega))),
                r64 ((((0+1)+1)+1)+1) (by omega),.k [9,74,73,8,7,6,2] [8,6],tB 37 (by decide:(decide ((((((0+1)+1)+1)+1):Int) < 4))=false)] <| rR (ivP (divI x y p)) (by
      exact .of_eq (by
       unfold divI; rw [if_neg (by simp [k1,k2,k3])]
       rw [show fourI _ _ x y=_ from if_pos ⟨⟨k4,k5⟩,⟨k6,k7⟩,⟨k8,k9⟩,⟨k10,k11⟩⟩]
       rw [minD_self,maxD_self]; try rfl):E.le (ivP (Iv.mk (minD (minD (minD (minD (divD x.lo y.lo p false) (divD x.lo y.lo p false)) (divD x.lo y.hi p false)) (divD x.hi y.lo p false)) (divD x.hi y.hi p false)) (maxD (maxD (maxD (maxD (divD x.lo y.lo p true) (divD x.lo y.lo p true)) (divD x.lo y.hi p true)) (divD x.hi y.lo p true)) (divD x.hi y.hi p true)) false)) (ivP (divI x y p))))
               (fun k11=>chain [tB 74 (bne_iff_ne.2 k11),.c r5Whole_pc] <| rR (ivP (divI x y p)) (by
      exact .of_eq (by
       unfold divI; rw [if_neg (by simp [k1,k2,k3])]
       rw [show fourI _ _ x y=_ from if_neg (by rintro ⟨⟨_,_⟩,⟨_,_⟩,⟨_,_⟩,⟨_,q⟩⟩; exact k11 q)]):E.le (ivP wholeI) (ivP (divI x y p)))))
              (fun k10=>chain [tB 71 (bne_iff_ne.2 k10),.c r5Whole_pc] <| rR (ivP (divI x y p)) (by
      exact .of_eq (by
       unfold divI; rw [if_neg (by simp [k1,k2,k3])]
       rw [show fourI _ _ x y=_ from if_neg (by rintro ⟨⟨_,_⟩,⟨_,_⟩,⟨_,_⟩,⟨q,_⟩⟩; exact k10 q)]):E.le (ivP wholeI) (ivP (divI x y p)))))
             (fun k9=>chain [tB 74 (bne_iff_ne.2 k9),.c r5Whole_pc] <| rR (ivP (divI x y p)) (by
      exact .of_eq (by
       unfold divI; rw [if_neg (by simp [k1,k2,k3])]
       rw [show fourI _ _ x y=_ from if_neg (by rintro ⟨⟨_,_⟩,⟨_,_⟩,⟨_,q⟩,⟨_,_⟩⟩; exact k9 q)]):E.le (ivP wholeI) (ivP (divI x y p)))))
            (fun k8=>chain [tB 71 (bne_iff_ne.2 k8),.c r5Whole_pc] <| rR (ivP (divI x y p)) (by
      exact .of_eq (by
       unfold divI; rw [if_neg (by simp [k1,k2,k3])]
       rw [show fourI _ _ x y=_ from if_neg (by rintro ⟨⟨_,_⟩,⟨_,_⟩,⟨q,_⟩,⟨_,_⟩⟩; exact k8 q)]):E.le (ivP wholeI) (ivP (divI x y p)))))
           (fun k7=>chain [tB 74 (bne_iff_ne.2 k7),.c r5Whole_pc] <| rR (ivP (divI x y p)) (by
      exact .of_eq (by
       unfold divI; rw [if_neg (by simp [k1,k2,k3])]
       rw [show fourI _ _ x y=_ from if_neg (by rintro ⟨⟨_,_⟩,⟨_,q⟩,⟨_,_⟩,⟨_,_⟩⟩; exact k7 q)]):E.le (ivP wholeI) (ivP (divI x y p)))))
          (fun k6=>chain [tB 71 (bne_iff_ne.2 k6),.c r5Whole_pc] <| rR (ivP (divI x y p)) (by
      exact .of_eq (by
       unfold divI; rw [if_neg (by simp [k1,k2,k3])]
       rw [show fourI _ _ x y=_ from if_neg (by rintro ⟨⟨_,_⟩,⟨q,_⟩,⟨_,_⟩,⟨_,_⟩⟩; exact k6 q)]):E.le (ivP wholeI) (ivP (divI x y p)))))
         (fun k5=>chain [tB 74 (bne_iff_ne.2 k5),.c r5Whole_pc] <| rR (ivP (divI x y p)) (by
      exact .of_eq (by
       unfold divI; rw [if_neg (by simp [k1,k2,k3])]
       rw [show fourI _ _ x y=_ from if_neg (by rintro ⟨⟨_,q⟩,⟨_,_⟩,⟨_,_⟩,⟨_,_⟩⟩; exact k5 q)]):E.le (ivP wholeI) (ivP (divI x y p)))))
        (fun k4=>chain [tB 71 (bne_iff_ne.2 k4),.c r5Whole_pc] <| rR (ivP (divI x y p)) (by
      exact .of_eq (by
       unfold divI; rw [if_neg (by simp [k1,k2,k3])]
       rw [show fourI _ _ x y=_ from if_neg (by rintro ⟨⟨q,_⟩,⟨_,_⟩,⟨_,_⟩,⟨_,_⟩⟩; exact k4 q)]):E.le (ivP wholeI) (ivP (divI x y p)))))))) (by kernel_rfl)
open Go.RowKit Fp Pu
open Go.RowKit Fp Pu
open Go.RowKit Fp Pu
def Fp.oneD:Dy:=⟨false,1,0⟩
theorem oneD_valid:oneD.Valid:=by have:=intD_valid 1 (by decide); rw [intD_nat] at this; exact this
def idFam (n:Nat) (x:Nat):PS:=⟨42,true,[(17,.e (iP x)),(16,.e (iP n)),(3,.own 14),(0,.e (iP n))],[(14,.rows true 31 28 n 7 (lnE (buildM n (fun _=>n) (fun i j=>pointI (if i=j then ⟨false,1,0⟩ else zeroD)) x 0)) (rowsE (buildM n (fun _=>n) (fun i j=>pointI (if i=j then ⟨false,1,0⟩ else zeroD)) x 0)) .none)]⟩
def idFamIn (n x:Nat) (k:Nat):PS:=⟨42,true,[(21,.e (iP k)),(20,.e (iP n)),(4,.e (iP x)),(17,.e (iP x)),(16,.e (iP n)),(3,.own 14),(0,.e (iP n))],[(14,.rows true 31 28 n 7 (lnE (buildM n (fun _=>n) (fun i j=>pointI (if i=j then ⟨false,1,0⟩ else zeroD)) x k)) (rowsE (buildM n (fun _=>n) (fun i j=>pointI (if i=j then ⟨false,1,0⟩ else zeroD)) x k)) .none)]⟩
theorem dyInt_pc (n:Nat) (h:n < 4294967296):PCt 112 [(iP n)] (dyP (intD (n:Int))):=by
 have ok2:Ok32 [n % 4294967296,n / 4294967296 % 4294967296]:=Ok32.cons (Nat.mod_lt _ (by decide)) (Ok32.cons (Nat.mod_lt _ (by decide)) Ok32.nil)
 exact tr true Tryz.call112 Tryz.func112 (chain [.o 5 (.int (u64_nat _ (by omega)):PV.le (.e (.v (.int .u64 (IntKind.u64.wrap (n:Int))))) (.e (.v (.int .u64 (n:Int))))),tF 7 ((n:Int) < 0) (by omega),tF 11 ((n:Int) < 0) (by omega),
  .o 13 (.int (u32_nat _):PV.le (.e (.v (.int .u32 (IntKind.u32.wrap (n:Int))))) (.e (.v (.int .u32 (((n % 4294967296):Nat):Int))))),.a (by omega:0 ≤ (32:Int) ∧ (32:Int) ≤ ((64:Nat):Int)),
  .o 15 (.int (shr32_nat _):PV.le (.e (.v (.int .u64 ((n:Int) / 2 ^ 32)))) (.e (.v (.int .u64 (((n / 4294967296):Nat):Int))))),
  .o 16 (.int (u32_nat _):PV.le (.e (.v (.int .u32 (IntKind.u32.wrap (((n / 4294967296):Nat):Int))))) (.e (.v (.int .u32 ((((n / 4294967296) % 4294967296):Nat):Int))))),
  .o 17 (.e (two_le _ _):PV.le (.e (.sl false 2 1 fun i_ j_=>[(.v (.int .u32 (((n % 4294967296):Nat):Int))),(.v (.int .u32 ((((n / 4294967296) % 4294967296):Nat):Int)))].getD (i_ * 1+j_) (.v (.bool false)))) (.e (slP [(n % 4294967296),((n / 4294967296) % 4294967296)]))),
  .c (dyCanonL_pc _ _ _ ok2 (by simp) (by decide) (by decide):PCt 174 [(bP false),(slP [(n % 4294967296),((n / 4294967296) % 4294967296)]),(iP 0)] _)] <| rQ (dyP (canon false (val [(n % 4294967296),((n / 4294967296) % 4294967296)]) 0)) (dyP (intD (n:Int))) (by rw [val_two,show n % 4294967296+4294967296 * (n / 4294967296 % 4294967296)=n by omega,intD_nat])) (by kernel_rfl)
theorem num_pc (n:Nat) (h:n < 4294967296):PCt 46 [(iP n)] (ivP (numI (n:Int))):=by
 have v:=intD_valid n h
 exact tr true Tryz.call46 Tryz.func46 (chain [.c (dyInt_pc n (by omega)),.c (ivPoint_pc (intD (n:Int)) ‹_›)] <| .nil) (by kernel_rfl)
theorem matId_pc (n:Nat) (h1:1 ≤ n) (h8:n ≤ 8):PCt 36 [(iP n)] (matP (identM n)):=by
 have v1:=oneD_valid
 have v0:=zeroD_valid
 have int1:PCt 112 [iP 1] (dyP oneD):=dyInt_pc 1 (by decide)
 have int0:PCt 112 [iP 0] (dyP zeroD):=dyInt_pc 0 (by decide)
 have ew:wholeM n (fun _=>n) (fun i j=>pointI (if i=j then ⟨false,1,0⟩ else zeroD))=identM n:=rfl
 exact tr true Tryz.call36 Tryz.func36 (chain [tF 8 ((n:Int) < 1) (by omega),tF 11 (8 < (n:Int)) (by omega),.a (by omega:0 ≤ ((n:Int):Int) ∧ ((n:Int):Int) ≤ ((n:Int):Int)),
  .a (by omega:((24:Nat):Int) * (n:Int) ≤ 281474976710656 ∧ ((n:Int):Int) ≤ 9223372036854775807),
  .s (Sp.upto (idFam n) 0 n (by omega) (fun x hx hltx=>by
    exact spt (chain [tT 18 ((x:Int) < (n:Int)) (by omega),
     .s (Sp.upto (idFamIn n x) 0 n (by omega) (fun k hk hltk=>by
    have hle:lnE (buildM n (fun _=>n) (fun i j=>pointI (if i=j then ⟨false,1,0⟩ else zeroD)) x k) x=k:=lnE_at (by omega)
    by_cases c1:x=k
    ·have h1:=one_len (pointI oneD)
     exact spt (chain [tT 22 ((k:Int) < (n:Int)) (by omega),tB 26 (natEq_true c1:((x:Int) == (k:Int))=true),iX ((x:Int)) (n) (by omega),.a (by omega:x < n),.c (int1:PCt 112 [(iP 1)] _),
      .c (ivPoint_pc oneD ‹_›),.o 36 (.e (ivs1_le _):PV.le (.e (.sl true 1 7 fun i_ j_=>(ivL (pointI oneD)).getD (i_ * 7+j_) (.v (.bool false)))) (.e (ivsP [(pointI oneD)]))),.a (by omega:x < n),
      .a (by omega:((lnE (buildM n (fun _=>n) (fun i j=>pointI (if i=j then ⟨false,1,0⟩ else zeroD)) x k)) x + [(pointI oneD)].length) * 88 ≤ 140737488355328),iX ((x:Int)) (n) (by omega),.a (rfl:x=x),.a (rfl:x=x),
      .a (by omega:x < n),r64 ((k:Int)+1) (by omega)] <| .e (chain [.b 14 (rows_push rfl (by omega) (by omega) (by rw [if_pos c1]; rfl):Bx.le (.rows true 31 28 n 7 (fun q=>if q=x then (lnE (buildM n (fun _=>n) (fun i j=>pointI (if i=j then ⟨false,1,0⟩ else zeroD)) x k)) q + [(pointI oneD)].length else (lnE (buildM n (fun _=>n) (fun i j=>pointI (if i=j then ⟨false,1,0⟩ else zeroD)) x k)) q) (fun q i j=>if q=x then (if i < (lnE (buildM n (fun _=>n) (fun i j=>pointI (if i=j then ⟨false,1,0⟩ else zeroD)) x k)) q then (rowsE (buildM n (fun _=>n) (fun i j=>pointI (if i=j then ⟨false,1,0⟩ else zeroD)) x k)) q i j else (E.elf (ivsP [(pointI oneD)])) (i - (lnE (buildM n (fun _=>n) (fun i j=>pointI (if i=j then ⟨false,1,0⟩ else zeroD)) x k)) q) j) else (rowsE (buildM n (fun _=>n) (fun i j=>pointI (if i=j then ⟨false,1,0⟩ else zeroD)) x k)) q i j) .none) (.rows true 31 28 n 7 (lnE (buildM n (fun _=>n) (fun i j=>pointI (if i=j then ⟨false,1,0⟩ else zeroD)) x (k+1))) (rowsE (buildM n (fun _=>n) (fun i j=>pointI (if i=j then ⟨false,1,0⟩ else zeroD)) x (k+1))) .none))] <| .nil)) (by kernel_rfl)
    ·have h1:=one_len (pointI zeroD)
     exact spt (chain [tT 22 ((k:Int) < (n:Int)) (by omega),tB 26 (natEq_false c1:((x:Int) == (k:Int))=false),iX ((x:Int)) (n) (by omega),.a (by omega:x < n),.c (int0:PCt 112 [(iP 0)] _),
      .c (ivPoint_pc zeroD ‹_›),.o 36 (.e (ivs1_le _):PV.le (.e (.sl true 1 7 fun i_ j_=>(ivL (pointI zeroD)).getD (i_ * 7+j_) (.v (.bool false)))) (.e (ivsP [(pointI zeroD)]))),.a (by omega:x < n),
      .a (by omega:((lnE (buildM n (fun _=>n) (fun i j=>pointI (if i=j then ⟨false,1,0⟩ else zeroD)) x k)) x + [(pointI zeroD)].length) * 88 ≤ 140737488355328),iX ((x:Int)) (n) (by omega),.a (rfl:x=x),.a (rfl:x=x),
      .a (by omega:x < n),r64 ((k:Int)+1) (by omega)] <| .e (chain [.b 14 (rows_push rfl (by omega) (by omega) (by rw [if_neg c1]):Bx.le (.rows true 31 28 n 7 (fun q=>if q=x then (lnE (buildM n (fun _=>n) (fun i j=>pointI (if i=j then ⟨false,1,0⟩ else zeroD)) x k)) q + [(pointI zeroD)].length else (lnE (buildM n (fun _=>n) (fun i j=>pointI (if i=j then ⟨false,1,0⟩ else zeroD)) x k)) q) (fun q i j=>if q=x then (if i < (lnE (buildM n (fun _=>n) (fun i j=>pointI (if i=j then ⟨false,1,0⟩ else zeroD)) x k)) q then (rowsE (buildM n (fun _=>n) (fun i j=>pointI (if i=j then ⟨false,1,0⟩ else zeroD)) x k)) q i j else (E.elf (ivsP [(pointI zeroD)])) (i - (lnE (buildM n (fun _=>n) (fun i j=>pointI (if i=j then ⟨false,1,0⟩ else zeroD)) x k)) q) j) else (rowsE (buildM n (fun _=>n) (fun i j=>pointI (if i=j then ⟨false,1,0⟩ else zeroD)) x k)) q i j) .none) (.rows true 31 28 n 7 (lnE (buildM n (fun _=>n) (fun i j=>pointI (if i=j then ⟨false,1,0⟩ else zeroD)) x (k+1))) (rowsE (buildM n (fun _=>n) (fun i j=>pointI (if i=j then ⟨false,1,0⟩ else zeroD)) x (k+1))) .none))] <| .nil)) (by kernel_rfl))
  (fun hk=>by
    exact spt (chain [tF 22 ((n:Int) < (n:Int)) (by omega)] <| .nil) (by kernel_rfl)) (by nofun):LpT 8 Tryz.f36 (idFamIn n x 0) (.exit 2) ⟨42,true,[(17,.e (iP x)),(16,.e (iP n)),(3,.own 14),(0,.e (iP n))],[(14,.rows true 31 28 n 7 (lnE (buildM n (fun _=>n) (fun i j=>pointI (if i=j then ⟨false,1,0⟩ else zeroD)) x n)) (rowsE (buildM n (fun _=>n) (fun i j=>pointI (if i=j then ⟨false,1,0⟩ else zeroD)) x n)) .none)]⟩) .nil,
     r64 ((x:Int)+1) (by omega)] <| .e (chain [.b 14 (rows_next rfl:Bx.le (.rows true 31 28 n 7 (lnE (buildM n (fun _=>n) (fun i j=>pointI (if i=j then ⟨false,1,0⟩ else zeroD)) x n)) (rowsE (buildM n (fun _=>n) (fun i j=>pointI (if i=j then ⟨false,1,0⟩ else zeroD)) x n)) .none) (.rows true 31 28 n 7 (lnE (buildM n (fun _=>n) (fun i j=>pointI (if i=j then ⟨false,1,0⟩ else zeroD)) (x+1) 0)) (rowsE (buildM n (fun _=>n) (fun i j=>pointI (if i=j then ⟨false,1,0⟩ else zeroD)) (x+1) 0)) .none))] <| .nil)) (by kernel_rfl))
  (fun hx=>by
    exact spt (chain [tF 18 ((n:Int) < (n:Int)) (by omega)] <| .nil) (by kernel_rfl)) (by nofun):LpT 5 Tryz.f36 (idFam n 0) (.exit 0) ⟨42,true,[(3,.own 14)],[(14,.rows true 31 28 n 7 (lnE (buildM n (fun _=>n) (fun i j=>pointI (if i=j then ⟨false,1,0⟩ else zeroD)) n 0)) (rowsE (buildM n (fun _=>n) (fun i j=>pointI (if i=j then ⟨false,1,0⟩ else zeroD)) n 0)) .none)]⟩) (chain [.b 14 (rows_init rfl:Bx.le (.rows true 31 28 n 7 (fun _=>0) (fun _ _ _=>.any) .none) (.rows true 31 28 n 7 (lnE (buildM n (fun _=>n) (fun i j=>pointI (if i=j then ⟨false,1,0⟩ else zeroD)) 0 0)) (rowsE (buildM n (fun _=>n) (fun i j=>pointI (if i=j then ⟨false,1,0⟩ else zeroD)) 0 0)) .none))] <| .nil)] <| rR (matP (identM n)) (by
      rw [← ew,← buildM_done]; exact matRows_le (buildM_len _ _ _ _ _).symm:E.le (.sl true n 1 fun k_ _=>.sl true ((lnE (buildM n (fun _=>n) (fun i j=>pointI (if i=j then ⟨false,1,0⟩ else zeroD)) n 0)) k_) 7 ((rowsE (buildM n (fun _=>n) (fun i j=>pointI (if i=j then ⟨false,1,0⟩ else zeroD)) n 0)) k_)) (matP (identM n)))) (by kernel_rfl)
open Go.RowKit Fp Pu
abbrev vfa0 (m:List (List Iv)) (x) (p):=nsum (m.getD x []) p ((m.getD x []).length)
abbrev vfa3 (m:List (List Iv)) (x) (k):=magI ((m.getD x []).getD k wholeI)
abbrev vfa1 (m:List (List Iv)) (x) (p) (k):=dyL (rndD (sumD (nsum (m.getD x []) p k) (vfa3 m x k)) p true)
abbrev vfa2:E:=.agg [(bP false),(.v (.slice none 0 0)),(iP 0)]
def normFam (m:List (List Iv)) (p:Nat) (x:Nat):PS:=⟨64,true,[(27,.e (iP x)),(26,.e (iP m.length)),(25,.e (matP m)),(6,.box 6 0),(4,.box 4 0),(1,.e (iP p))],[(6,.cells 26 (dyL (nmost m p x))),(4,.cells 26 [(bP false),(.v (.slice none 0 0)),(iP 0)])]⟩
def normFamIn (m:List (List Iv)) (p x:Nat) (k:Nat):PS:=⟨64,true,[(33,.e (iP k)),(32,.e (iP (((m.getD x []).length:Nat):Int))),(31,.e (ivsP (m.getD x []))),(9,.box 9 0),(27,.e (iP x)),(26,.e (iP m.length)),(25,.e (matP m)),(6,.box 6 0),(4,.box 4 0),(1,.e (iP p))],[(9,.cells 26 (dyL (nsum (m.getD x []) p k))),(6,.cells 26 (dyL (nmost m p x))),(4,.cells 26 [(bP false),(.v (.slice none 0 0)),(iP 0)])]⟩
def normFA (m:List (List Iv)) (p N:Nat) (x:Nat):PS:=⟨64,true,[(27,.e (iP x)),(26,.e (iP m.length)),(25,.e (matP m)),(6,.box 6 0),(4,.box 4 0),(1,.e (iP p))],[(6,.cells 26 (dyL (nmost m p x))),(4,.cells 26 [(bP false),(.v (.slice none 0 0)),(iP 0)])]⟩
def normFAIn (m:List (List Iv)) (p N K:Nat) (k:Nat):PS:=⟨64,true,[(33,.e (iP k)),(32,.e (iP (((m.getD N []).length:Nat):Int))),(31,.e (ivsP (m.getD N []))),(9,.box 9 0),(27,.e (iP N)),(26,.e (iP m.length)),(25,.e (matP m)),(6,.box 6 0),(4,.box 4 0),(1,.e (iP p))],[(9,.cells 26 (dyL (nsum (m.getD N []) p k))),(6,.cells 26 (dyL (nmost m p N))),(4,.cells 26 [(bP false),(.v (.slice none 0 0)),(iP 0)])]⟩
def normFB (m:List (List Iv)) (p N:Nat) (x:Nat):PS:=⟨64,true,[(27,.e (iP x)),(26,.e (iP m.length)),(25,.e (matP m)),(6,.box 6 0),(4,.box 4 0),(1,.e (iP p))],[(6,.cells 26 (dyL (nmost m p x))),(4,.cells 26 [(bP false),(.v (.slice none 0 0)),(iP 0)])]⟩
def normFBIn (m:List (List Iv)) (p N K:Nat) (k:Nat):PS:=⟨64,true,[(33,.e (iP k)),(32,.e (iP (((m.getD N []).length:Nat):Int))),(31,.e (ivsP (m.getD N []))),(9,.box 9 0),(27,.e (iP N)),(26,.e (iP m.length)),(25,.e (matP m)),(6,.box 6 0),(4,.box 4 0),(1,.e (iP p))],[(9,.cells 26 (dyL (nsum (m.getD N []) p k))),(6,.cells 26 (dyL (nmost m p N))),(4,.cells 26 [(bP false),(.v (.slice none 0 0)),(iP 0)])]⟩
theorem ivMag_all (x:Iv) (hx:x.Valid) (hxa:x.all=true):PCt 182 [(ivP x)] (.tup [dyP zeroD,bP false]):=by
 exact tr true Tryz.call182 Tryz.func182 (chain [.o 5 (.e (ivs1_le _):PV.le (.e (.sl true 1 7 fun i_ j_=>(ivL x).getD (i_ * 7+j_) (.v (.bool false)))) (.e (ivsP [x]))),.c (ivKnown1_pc _ ‹_›:PCt 90 [(ivsP [x])] _),tB 6 (by rw [hxa]; rfl:(!x.all)=false),
  .o 8 (.e zeroP_le:PV.le (.e vfa2) (.e (dyP zeroD)))] <| .nil) (by kernel_rfl)
theorem norm_some (m:List (List Iv)) (n c p:Nat) (ga:MOk m n c) (hp1:8 ≤ p) (hp2:p ≤ 512) (hg:∀ x,x < m.length → ∀ k,k < (m.getD x []).length → NGood (m.getD x []) p k):PCt 117 [(matP m),(iP p)] (.tup [dyP (nmost m p m.length),bP true]):=by
 have ra:=ga.rows
 have n8:=ga.n8
 have c8:=ga.k8
 exact tr true Tryz.call117 Tryz.func117 (chain [.c (matValid_pc _ _ _ ‹_›:PCt 103 [(matP m)] _),.c (mxPrecise_pc _:PCt 121 [(iP p)] _),tB 21 (precB_true.2 ⟨by omega,by omega⟩:(precB (p:Int))=true),
  .s (Sp.upto (normFam m p) 0 m.length (by omega) (fun x hx hltx=>by
    have lx:=ga.len_at (show x < n by omega)
    have u1:=nsum_valid (m.getD x []) (show 1 ≤ p by omega) (by omega) (m.getD x []).length
    have u2:=nmost_valid m (show 1 ≤ p by omega) (by omega) x
    by_cases c1:0 < cmpD (nsum (m.getD x []) p ((m.getD x []).length)) (nmost m p x)
    ·exact spt (chain [tT 28 ((x:Int) < (m.length:Int)) (by omega),iX ((x:Int)) (m.length) (by omega),
      .s (Sp.upto (normFamIn m p x) 0 ((m.getD x []).length) (by omega) (fun k hk hltk=>by
    have gg:=(hg x (by omega)) k (by omega)
    have v1:=nsum_valid (m.getD x []) (show 1 ≤ p by omega) (by omega) k
    have v2:=ga.val_at (show x < n by omega) (show k < c by omega)
    have gga:=gg.all
    have v3:=magI_valid v2.ends.1 v2.ends.2
    exact spt (chain [tT 34 ((k:Int) < (((m.getD x []).length:Nat):Int)) (by omega),iX ((k:Int)) ((m.getD x []).length) (by omega),.c (ivMag_pc ((m.getD x []).getD k wholeI) ‹_› gga),
     .c (rdAddUp_pc (nsum (m.getD x []) p k) (vfa3 m x k) p ‹_› ‹_› (by omega) (by omega)),
     tB 53 (by rw [gg.err]; rfl:((rndE (sumD (nsum (m.getD x []) p k) (magI ((m.getD x []).getD k wholeI))) p true) != 0)=false),r64 ((k:Int)+1) (by omega)] <| .e (chain [.b 9 (.of_eq rfl:Bx.le (.cells 26 (vfa1 m x p k)) (.cells 26 (dyL (nsum (m.getD x []) p (k+1)))))] <| .nil)) (by kernel_rfl))
  (fun hk=>by
    exact spt (chain [tF 34 ((((m.getD x []).length:Nat):Int) < (((m.getD x []).length:Nat):Int)) (by omega)] <| .nil) (by kernel_rfl)) (by nofun):LpT 9 Tryz.f117 (normFamIn m p x 0) (.exit 2) ⟨64,true,[(9,.box 9 0),(27,.e (iP x)),(26,.e (iP m.length)),(25,.e (matP m)),(6,.box 6 0),(4,.box 4 0),(1,.e (iP p))],[(9,.cells 26 (dyL (vfa0 m x p))),(6,.cells 26 (dyL (nmost m p x))),(4,.cells 26 [(bP false),(.v (.slice none 0 0)),(iP 0)])]⟩) (chain [.b 9 (.cells (fun _=>rfl) zero_cells:Bx.le (.cells 26 [(bP false),(.v (.slice none 0 0)),(iP 0)]) (.cells 26 (dyL (nsum (m.getD x []) p 0))))] <| .nil),
      .c (dyCmp_pc _ _ ‹_› ‹_›:PCt 82 [(dyP (vfa0 m x p)),(dyP (nmost m p x))] _),tB 60 (decide_eq_true c1),r64 ((x:Int)+1) (by omega)] <| .e (chain [.b 6 (.of_eq (by rw [show nmost m p (x+1)=(vfa0 m x p) from if_pos c1]):Bx.le (.cells 26 (dyL (vfa0 m x p))) (.cells 26 (dyL (nmost m p (x+1)))))] <| .nil)) (by kernel_rfl)
    ·exact spt (chain [tT 28 ((x:Int) < (m.length:Int)) (by omega),iX ((x:Int)) (m.length) (by omega),
      .s (Sp.upto (normFamIn m p x) 0 ((m.getD x []).length) (by omega) (fun k hk hltk=>by
    have gg:=(hg x (by omega)) k (by omega)
    have v1:=nsum_valid (m.getD x []) (show 1 ≤ p by omega) (by omega) k
    have v2:=ga.val_at (show x < n by omega) (show k < c by omega)
    have gga:=gg.all
    have v3:=magI_valid v2.ends.1 v2.ends.2
    exact spt (chain [tT 34 ((k:Int) < (((m.getD x []).length:Nat):Int)) (by omega),iX ((k:Int)) ((m.getD x []).length) (by omega),.c (ivMag_pc ((m.getD x []).getD k wholeI) ‹_› gga),
     .c (rdAddUp_pc (nsum (m.getD x []) p k) (vfa3 m x k) p ‹_› ‹_› (by omega) (by omega)),
     tB 53 (by rw [gg.err]; rfl:((rndE (sumD (nsum (m.getD x []) p k) (magI ((m.getD x []).getD k wholeI))) p true) != 0)=false),r64 ((k:Int)+1) (by omega)] <| .e (chain [.b 9 (.of_eq rfl:Bx.le (.cells 26 (vfa1 m x p k)) (.cells 26 (dyL (nsum (m.getD x []) p (k+1)))))] <| .nil)) (by kernel_rfl))
  (fun hk=>by
    exact spt (chain [tF 34 ((((m.getD x []).length:Nat):Int) < (((m.getD x []).length:Nat):Int)) (by omega)] <| .nil) (by kernel_rfl)) (by nofun):LpT 9 Tryz.f117 (normFamIn m p x 0) (.exit 2) ⟨64,true,[(9,.box 9 0),(27,.e (iP x)),(26,.e (iP m.length)),(25,.e (matP m)),(6,.box 6 0),(4,.box 4 0),(1,.e (iP p))],[(9,.cells 26 (dyL (vfa0 m x p))),(6,.cells 26 (dyL (nmost m p x))),(4,.cells 26 [(bP false),(.v (.slice none 0 0)),(iP 0)])]⟩) (chain [.b 9 (.cells (fun _=>rfl) zero_cells:Bx.le (.cells 26 [(bP false),(.v (.slice none 0 0)),(iP 0)]) (.cells 26 (dyL (nsum (m.getD x []) p 0))))] <| .nil),
      .c (dyCmp_pc _ _ ‹_› ‹_›:PCt 82 [(dyP (vfa0 m x p)),(dyP (nmost m p x))] _),tB 60 (decide_eq_false c1),r64 ((x:Int)+1) (by omega)] <| .e (chain [.b 6 (.of_eq (by rw [show nmost m p (x+1)=(nmost m p x) from if_neg c1]):Bx.le (.cells 26 (dyL (nmost m p x))) (.cells 26 (dyL (nmost m p (x+1)))))] <| .nil)) (by kernel_rfl))
  (fun hx=>by
    exact spt (chain [tF 28 ((m.length:Int) < (m.length:Int)) (by omega)] <| .nil) (by kernel_rfl)) (by nofun):LpT 5 Tryz.f117 (normFam m p 0) (.exit 0) ⟨64,true,[(6,.box 6 0),(4,.box 4 0)],[(6,.cells 26 (dyL (nmost m p m.length))),(4,.cells 26 [(bP false),(.v (.slice none 0 0)),(iP 0)])]⟩) (chain [.b 6 (.cells (fun _=>rfl) zero_cells:Bx.le (.cells 26 [(bP false),(.v (.slice none 0 0)),(iP 0)]) (.cells 26 (dyL (nmost m p 0))))] <| .nil)] <| .nil) (by kernel_rfl)
theorem norm_bad1 (m:List (List Iv)) (n c p:Nat) (ga:MOk m n c) (hp1:8 ≤ p) (hp2:p ≤ 512) (N K:Nat) (hN:N < m.length) (hK:K < (m.getD N []).length) (hg:∀ x,x < N → ∀ k,k < (m.getD x []).length → NGood (m.getD x []) p k) (hgN:∀ k,k < K → NGood (m.getD N []) p k) (hbad:((m.getD N []).getD K wholeI).all=true):PCt 117 [(matP m),(iP p)] (.tup [dyP zeroD,bP false]):=by
 have ra:=ga.rows
 have n8:=ga.n8
 have c8:=ga.k8
 exact tr true Tryz.call117 Tryz.func117 (chain [.c (matValid_pc _ _ _ ‹_›:PCt 103 [(matP m)] _),.c (mxPrecise_pc _:PCt 121 [(iP p)] _),tB 21 (precB_true.2 ⟨by omega,by omega⟩:(precB (p:Int))=true),
  .s (Sp.upto (normFA m p N) 0 N (by omega) (fun x hx hltx=>by
    have lx:=ga.len_at (show x < n by omega)
    have u1:=nsum_valid (m.getD x []) (show 1 ≤ p by omega) (by omega) (m.getD x []).length
    have u2:=nmost_valid m (show 1 ≤ p by omega) (by omega) x
    by_cases c1:0 < cmpD (nsum (m.getD x []) p ((m.getD x []).length)) (nmost m p x)
    ·exact spt (chain [tT 28 ((x:Int) < (m.length:Int)) (by omega),iX ((x:Int)) (m.length) (by omega),
      .s (Sp.upto (normFamIn m p x) 0 ((m.getD x []).length) (by omega) (fun k hk hltk=>by
    have gg:=(hg x (by omega)) k (by omega)
    have v1:=nsum_valid (m.getD x []) (show 1 ≤ p by omega) (by omega) k
    have v2:=ga.val_at (show x < n by omega) (show k < c by omega)
    have gga:=gg.all
    have v3:=magI_valid v2.ends.1 v2.ends.2
    exact spt (chain [tT 34 ((k:Int) < (((m.getD x []).length:Nat):Int)) (by omega),iX ((k:Int)) ((m.getD x []).length) (by omega),.c (ivMag_pc ((m.getD x []).getD k wholeI) ‹_› gga),
     .c (rdAddUp_pc (nsum (m.getD x []) p k) (vfa3 m x k) p ‹_› ‹_› (by omega) (by omega)),
     tB 53 (by rw [gg.err]; rfl:((rndE (sumD (nsum (m.getD x []) p k) (magI ((m.getD x []).getD k wholeI))) p true) != 0)=false),r64 ((k:Int)+1) (by omega)] <| .e (chain [.b 9 (.of_eq rfl:Bx.le (.cells 26 (vfa1 m x p k)) (.cells 26 (dyL (nsum (m.getD x []) p (k+1)))))] <| .nil)) (by kernel_rfl))
  (fun hk=>by
    exact spt (chain [tF 34 ((((m.getD x []).length:Nat):Int) < (((m.getD x []).length:Nat):Int)) (by omega)] <| .nil) (by kernel_rfl)) (by nofun):LpT 9 Tryz.f117 (normFamIn m p x 0) (.exit 2) ⟨64,true,[(9,.box 9 0),(27,.e (iP x)),(26,.e (iP m.length)),(25,.e (matP m)),(6,.box 6 0),(4,.box 4 0),(1,.e (iP p))],[(9,.cells 26 (dyL (vfa0 m x p))),(6,.cells 26 (dyL (nmost m p x))),(4,.cells 26 [(bP false),(.v (.slice none 0 0)),(iP 0)])]⟩) (chain [.b 9 (.cells (fun _=>rfl) zero_cells:Bx.le (.cells 26 [(bP false),(.v (.slice none 0 0)),(iP 0)]) (.cells 26 (dyL (nsum (m.getD x []) p 0))))] <| .nil),
      .c (dyCmp_pc _ _ ‹_› ‹_›:PCt 82 [(dyP (vfa0 m x p)),(dyP (nmost m p x))] _),tB 60 (decide_eq_true c1),r64 ((x:Int)+1) (by omega)] <| .e (chain [.b 6 (.of_eq (by rw [show nmost m p (x+1)=(vfa0 m x p) from if_pos c1]):Bx.le (.cells 26 (dyL (vfa0 m x p))) (.cells 26 (dyL (nmost m p (x+1)))))] <| .nil)) (by kernel_rfl)
    ·exact spt (chain [tT 28 ((x:Int) < (m.length:Int)) (by omega),iX ((x:Int)) (m.length) (by omega),
      .s (Sp.upto (normFamIn m p x) 0 ((m.getD x []).length) (by omega) (fun k hk hltk=>by
    have gg:=(hg x (by omega)) k (by omega)
    have v1:=nsum_valid (m.getD x []) (show 1 ≤ p by omega) (by omega) k
    have v2:=ga.val_at (show x < n by omega) (show k < c by omega)
    have gga:=gg.all
    have v3:=magI_valid v2.ends.1 v2.ends.2
    exact spt (chain [tT 34 ((k:Int) < (((m.getD x []).length:Nat):Int)) (by omega),iX ((k:Int)) ((m.getD x []).length) (by omega),.c (ivMag_pc ((m.getD x []).getD k wholeI) ‹_› gga),
     .c (rdAddUp_pc (nsum (m.getD x []) p k) (vfa3 m x k) p ‹_› ‹_› (by omega) (by omega)),
     tB 53 (by rw [gg.err]; rfl:((rndE (sumD (nsum (m.getD x []) p k) (magI ((m.getD x []).getD k wholeI))) p true) != 0)=false),r64 ((k:Int)+1) (by omega)] <| .e (chain [.b 9 (.of_eq rfl:Bx.le (.cells 26 (vfa1 m x p k)) (.cells 26 (dyL (nsum (m.getD x []) p (k+1)))))] <| .nil)) (by kernel_rfl))
  (fun hk=>by
    exact spt (chain [tF 34 ((((m.getD x []).length:Nat):Int) < (((m.getD x []).length:Nat):Int)) (by omega)] <| .nil) (by kernel_rfl)) (by nofun):LpT 9 Tryz.f117 (normFamIn m p x 0) (.exit 2) ⟨64,true,[(9,.box 9 0),(27,.e (iP x)),(26,.e (iP m.length)),(25,.e (matP m)),(6,.box 6 0),(4,.box 4 0),(1,.e (iP p))],[(9,.cells 26 (dyL (vfa0 m x p))),(6,.cells 26 (dyL (nmost m p x))),(4,.cells 26 [(bP false),(.v (.slice none 0 0)),(iP 0)])]⟩) (chain [.b 9 (.cells (fun _=>rfl) zero_cells:Bx.le (.cells 26 [(bP false),(.v (.slice none 0 0)),(iP 0)]) (.cells 26 (dyL (nsum (m.getD x []) p 0))))] <| .nil),
      .c (dyCmp_pc _ _ ‹_› ‹_›:PCt 82 [(dyP (vfa0 m x p)),(dyP (nmost m p x))] _),tB 60 (decide_eq_false c1),r64 ((x:Int)+1) (by omega)] <| .e (chain [.b 6 (.of_eq (by rw [show nmost m p (x+1)=(nmost m p x) from if_neg c1]):Bx.le (.cells 26 (dyL (nmost m p x))) (.cells 26 (dyL (nmost m p (x+1)))))] <| .nil)) (by kernel_rfl))
  (fun hx=>by
    have lN:=ga.len_at (show N < n by omega)
    exact spt (chain [tT 28 ((N:Int) < (m.length:Int)) (by omega),iX ((N:Int)) (m.length) (by omega),
    .s (Sp.upto (normFAIn m p N K) 0 K (by omega) (fun k hk hltk=>by
    have gg:=hgN k (by omega)
    have v1:=nsum_valid (m.getD N []) (show 1 ≤ p by omega) (by omega) k
    have v2:=ga.val_at (show N < n by omega) (show k < c by omega)
    have gga:=gg.all
    have v3:=magI_valid v2.ends.1 v2.ends.2
    exact spt (chain [tT 34 ((k:Int) < (((m.getD N []).length:Nat):Int)) (by omega),iX ((k:Int)) ((m.getD N []).length) (by omega),.c (ivMag_pc ((m.getD N []).getD k wholeI) ‹_› gga),
     .c (rdAddUp_pc (nsum (m.getD N []) p k) (magI ((m.getD N []).getD k wholeI)) p ‹_› ‹_› (by omega) (by omega)),
     tB 53 (by rw [gg.err]; rfl:((rndE (sumD (nsum (m.getD N []) p k) (magI ((m.getD N []).getD k wholeI))) p true) != 0)=false),r64 ((k:Int)+1) (by omega)] <| .e (chain [.b 9 (.of_eq rfl:Bx.le (.cells 26 (dyL (rndD (sumD (nsum (m.getD N []) p k) (magI ((m.getD N []).getD k wholeI))) p true))) (.cells 26 (dyL (nsum (m.getD N []) p (k+1)))))] <| .nil)) (by kernel_rfl))
  (fun hk=>by
    have v1:=nsum_valid (m.getD N []) (show 1 ≤ p by omega) (by omega) K
    have v2:=ga.val_at (show N < n by omega) (show K < c by omega)
    have v3:=magI_valid v2.ends.1 v2.ends.2
    exact spt (chain [tT 34 ((K:Int) < (((m.getD N []).length:Nat):Int)) (by omega),iX ((K:Int)) ((m.getD N []).length) (by omega),.c (ivMag_all ((m.getD N []).getD K wholeI) ‹_› hbad),
    .o 44 (.e zeroP_le:PV.le (.e vfa2) (.e (dyP zeroD)))] <| .nil) (by kernel_rfl)) (by nofun):LpT 9 Tryz.f117 (normFAIn m p N K 0) .ret ⟨64,true,[(5,.e (bP false)),(4,.box 4 0)],[(4,.cells 26 (dyL zeroD))]⟩) (chain [.b 9 (.cells (fun _=>rfl) zero_cells:Bx.le (.cells 26 [(bP false),(.v (.slice none 0 0)),(iP 0)]) (.cells 26 (dyL (nsum (m.getD N []) p 0))))] <| .nil)] <| .nil) (by kernel_rfl)) (by nofun):LpT 5 Tryz.f117 (normFA m p N 0) .ret ⟨64,true,[(5,.e (bP false)),(4,.box 4 0)],[(4,.cells 26 (dyL zeroD))]⟩) (chain [.b 6 (.cells (fun _=>rfl) zero_cells:Bx.le (.cells 26 [(bP false),(.v (.slice none 0 0)),(iP 0)]) (.cells 26 (dyL (nmost m p 0))))] <| .nil)] <| .nil) (by kernel_rfl)
theorem norm_bad2 (m:List (List Iv)) (n c p:Nat) (ga:MOk m n c) (hp1:8 ≤ p) (hp2:p ≤ 512) (N K:Nat) (hN:N < m.length) (hK:K < (m.getD N []).length) (hg:∀ x,x < N → ∀ k,k < (m.getD x []).length → NGood (m.getD x []) p k) (hgN:∀ k,k < K → NGood (m.getD N []) p k) (hall:((m.getD N []).getD K wholeI).all=false) (hbad:¬ rndE (sumD (nsum (m.getD N []) p K) (magI ((m.getD N []).getD K wholeI))) p true=0):PCt 117 [(matP m),(iP p)] (.tup [dyP zeroD,bP false]):=by
 have ra:=ga.rows
 have n8:=ga.n8
 have c8:=ga.k8
 exact tr true Tryz.call117 Tryz.func117 (chain [.c (matValid_pc _ _ _ ‹_›:PCt 103 [(matP m)] _),.c (mxPrecise_pc _:PCt 121 [(iP p)] _),tB 21 (precB_true.2 ⟨by omega,by omega⟩:(precB (p:Int))=true),
  .s (Sp.upto (normFB m p N) 0 N (by omega) (fun x hx hltx=>by
    have lx:=ga.len_at (show x < n by omega)
    have u1:=nsum_valid (m.getD x []) (show 1 ≤ p by omega) (by omega) (m.getD x []).length
    have u2:=nmost_valid m (show 1 ≤ p by omega) (by omega) x
    by_cases c1:0 < cmpD (nsum (m.getD x []) p ((m.getD x []).length)) (nmost m p x)
    ·exact spt (chain [tT 28 ((x:Int) < (m.length:Int)) (by omega),iX ((x:Int)) (m.length) (by omega),
      .s (Sp.upto (normFamIn m p x) 0 ((m.getD x []).length) (by omega) (fun k hk hltk=>by
    have gg:=(hg x (by omega)) k (by omega)
    have v1:=nsum_valid (m.getD x []) (show 1 ≤ p by omega) (by omega) k
    have v2:=ga.val_at (show x < n by omega) (show k < c by omega)
    have gga:=gg.all
    have v3:=magI_valid v2.ends.1 v2.ends.2
    exact spt (chain [tT 34 ((k:Int) < (((m.getD x []).length:Nat):Int)) (by omega),iX ((k:Int)) ((m.getD x []).length) (by omega),.c (ivMag_pc ((m.getD x []).getD k wholeI) ‹_› gga),
     .c (rdAddUp_pc (nsum (m.getD x []) p k) (vfa3 m x k) p ‹_› ‹_› (by omega) (by omega)),
     tB 53 (by rw [gg.err]; rfl:((rndE (sumD (nsum (m.getD x []) p k) (magI ((m.getD x []).getD k wholeI))) p true) != 0)=false),r64 ((k:Int)+1) (by omega)] <| .e (chain [.b 9 (.of_eq rfl:Bx.le (.cells 26 (vfa1 m x p k)) (.cells 26 (dyL (nsum (m.getD x []) p (k+1)))))] <| .nil)) (by kernel_rfl))
  (fun hk=>by
    exact spt (chain [tF 34 ((((m.getD x []).length:Nat):Int) < (((m.getD x []).length:Nat):Int)) (by omega)] <| .nil) (by kernel_rfl)) (by nofun):LpT 9 Tryz.f117 (normFamIn m p x 0) (.exit 2) ⟨64,true,[(9,.box 9 0),(27,.e (iP x)),(26,.e (iP m.length)),(25,.e (matP m)),(6,.box 6 0),(4,.box 4 0),(1,.e (iP p))],[(9,.cells 26 (dyL (vfa0 m x p))),(6,.cells 26 (dyL (nmost m p x))),(4,.cells 26 [(bP false),(.v (.slice none 0 0)),(iP 0)])]⟩) (chain [.b 9 (.cells (fun _=>rfl) zero_cells:Bx.le (.cells 26 [(bP false),(.v (.slice none 0 0)),(iP 0)]) (.cells 26 (dyL (nsum (m.getD x []) p 0))))] <| .nil),
      .c (dyCmp_pc _ _ ‹_› ‹_›:PCt 82 [(dyP (vfa0 m x p)),(dyP (nmost m p x))] _),tB 60 (decide_eq_true c1),r64 ((x:Int)+1) (by omega)] <| .e (chain [.b 6 (.of_eq (by rw [show nmost m p (x+1)=(vfa0 m x p) from if_pos c1]):Bx.le (.cells 26 (dyL (vfa0 m x p))) (.cells 26 (dyL (nmost m p (x+1)))))] <| .nil)) (by kernel_rfl)
    ·exact spt (chain [tT 28 ((x:Int) < (m.length:Int)) (by omega),iX ((x:Int)) (m.length) (by omega),
      .s (Sp.upto (normFamIn m p x) 0 ((m.getD x []).length) (by omega) (fun k hk hltk=>by
    have gg:=(hg x (by omega)) k (by omega)
    have v1:=nsum_valid (m.getD x []) (show 1 ≤ p by omega) (by omega) k
    have v2:=ga.val_at (show x < n by omega) (show k < c by omega)
    have gga:=gg.all
    have v3:=magI_valid v2.ends.1 v2.ends.2
    exact spt (chain [tT 34 ((k:Int) < (((m.getD x []).length:Nat):Int)) (by omega),iX ((k:Int)) ((m.getD x []).length) (by omega),.c (ivMag_pc ((m.getD x []).getD k wholeI) ‹_› gga),
     .c (rdAddUp_pc (nsum (m.getD x []) p k) (vfa3 m x k) p ‹_› ‹_› (by omega) (by omega)),
     tB 53 (by rw [gg.err]; rfl:((rndE (sumD (nsum (m.getD x []) p k) (magI ((m.getD x []).getD k wholeI))) p true) != 0)=false),r64 ((k:Int)+1) (by omega)] <| .e (chain [.b 9 (.of_eq rfl:Bx.le (.cells 26 (vfa1 m x p k)) (.cells 26 (dyL (nsum (m.getD x []) p (k+1)))))] <| .nil)) (by kernel_rfl))
  (fun hk=>by
    exact spt (chain [tF 34 ((((m.getD x []).length:Nat):Int) < (((m.getD x []).length:Nat):Int)) (by omega)] <| .nil) (by kernel_rfl)) (by nofun):LpT 9 Tryz.f117 (normFamIn m p x 0) (.exit 2) ⟨64,true,[(9,.box 9 0),(27,.e (iP x)),(26,.e (iP m.length)),(25,.e (matP m)),(6,.box 6 0),(4,.box 4 0),(1,.e (iP p))],[(9,.cells 26 (dyL (vfa0 m x p))),(6,.cells 26 (dyL (nmost m p x))),(4,.cells 26 [(bP false),(.v (.slice none 0 0)),(iP 0)])]⟩) (chain [.b 9 (.cells (fun _=>rfl) zero_cells:Bx.le (.cells 26 [(bP false),(.v (.slice none 0 0)),(iP 0)]) (.cells 26 (dyL (nsum (m.getD x []) p 0))))] <| .nil),
      .c (dyCmp_pc _ _ ‹_› ‹_›:PCt 82 [(dyP (vfa0 m x p)),(dyP (nmost m p x))] _),tB 60 (decide_eq_false c1),r64 ((x:Int)+1) (by omega)] <| .e (chain [.b 6 (.of_eq (by rw [show nmost m p (x+1)=(nmost m p x) from if_neg c1]):Bx.le (.cells 26 (dyL (nmost m p x))) (.cells 26 (dyL (nmost m p (x+1)))))] <| .nil)) (by kernel_rfl))
  (fun hx=>by
    have lN:=ga.len_at (show N < n by omega)
    exact spt (chain [tT 28 ((N:Int) < (m.length:Int)) (by omega),iX ((N:Int)) (m.length) (by omega),
    .s (Sp.upto (normFBIn m p N K) 0 K (by omega) (fun k hk hltk=>by
    have gg:=hgN k (by omega)
    have v1:=nsum_valid (m.getD N []) (show 1 ≤ p by omega) (by omega) k
    have v2:=ga.val_at (show N < n by omega) (show k < c by omega)
    have gga:=gg.all
    have v3:=magI_valid v2.ends.1 v2.ends.2
    exact spt (chain [tT 34 ((k:Int) < (((m.getD N []).length:Nat):Int)) (by omega),iX ((k:Int)) ((m.getD N []).length) (by omega),.c (ivMag_pc ((m.getD N []).getD k wholeI) ‹_› gga),
     .c (rdAddUp_pc (nsum (m.getD N []) p k) (magI ((m.getD N []).getD k wholeI)) p ‹_› ‹_› (by omega) (by omega)),
     tB 53 (by rw [gg.err]; rfl:((rndE (sumD (nsum (m.getD N []) p k) (magI ((m.getD N []).getD k wholeI))) p true) != 0)=false),r64 ((k:Int)+1) (by omega)] <| .e (chain [.b 9 (.of_eq rfl:Bx.le (.cells 26 (dyL (rndD (sumD (nsum (m.getD N []) p k) (magI ((m.getD N []).getD k wholeI))) p true))) (.cells 26 (dyL (nsum (m.getD N []) p (k+1)))))] <| .nil)) (by kernel_rfl))
  (fun hk=>by
    have v1:=nsum_valid (m.getD N []) (show 1 ≤ p by omega) (by omega) K
    have v2:=ga.val_at (show N < n by omega) (show K < c by omega)
    have v3:=magI_valid v2.ends.1 v2.ends.2
    exact spt (chain [tT 34 ((K:Int) < (((m.getD N []).length:Nat):Int)) (by omega),iX ((K:Int)) ((m.getD N []).length) (by omega),.c (ivMag_pc ((m.getD N []).getD K wholeI) ‹_› hall),
    .c (rdAddUp_pc (nsum (m.getD N []) p K) (magI ((m.getD N []).getD K wholeI)) p ‹_› ‹_› (by omega) (by omega)),
    tB 53 (by simpa using hbad:((rndE (sumD (nsum (m.getD N []) p K) (magI ((m.getD N []).getD K wholeI))) p true) != 0)=true),.o 54 (.e zeroP_le:PV.le (.e vfa2) (.e (dyP zeroD)))] <| .nil) (by kernel_rfl)) (by nofun):LpT 9 Tryz.f117 (normFBIn m p N K 0) .ret ⟨64,true,[(5,.e (bP false)),(4,.box 4 0)],[(4,.cells 26 (dyL zeroD))]⟩) (chain [.b 9 (.cells (fun _=>rfl) zero_cells:Bx.le (.cells 26 [(bP false),(.v (.slice none 0 0)),(iP 0)]) (.cells 26 (dyL (nsum (m.getD N []) p 0))))] <| .nil)] <| .nil) (by kernel_rfl)) (by nofun):LpT 5 Tryz.f117 (normFB m p N 0) .ret ⟨64,true,[(5,.e (bP false)),(4,.box 4 0)],[(4,.cells 26 (dyL zeroD))]⟩) (chain [.b 6 (.cells (fun _=>rfl) zero_cells:Bx.le (.cells 26 [(bP false),(.v (.slice none 0 0)),(iP 0)]) (.cells 26 (dyL (nmost m p 0))))] <| .nil)] <| .nil) (by kernel_rfl)
open Go.RowKit Fp Pu
abbrev vga0 (h) (d:Dy) (p) (k):=divI (mulI (absI h) (pointI d) p) (numI (((k+2):Nat):Int)) p
abbrev vga1 (h) (d:Dy) (p) (k):=powI (mulI (absI h) (pointI d) p) p (k+1)
abbrev vga2 (h) (d:Dy) (p) (x:Nat):=divI (mulI (absI h) (pointI d) p) (numI (((x+1):Nat):Int)) p
def restFam (m:List (List Iv)) (h:Iv) (d:Dy) (k p:Nat) (x:Nat):PS:=⟨79,true,[(14,.e (iP (((x+1):Nat):Int))),(13,.box 13 0),(12,.box 12 0),(8,.box 8 0),(2,.e (iP k)),(3,.e (iP p))],[(13,.cells 28 (ivL (powI (mulI (absI h) (pointI d) p) p x))),(12,.cells 28 (ivL (mulI (absI h) (pointI d) p))),(8,.cells 28 [(bP false),(.v (.slice none 0 0)),(iP 0),(bP false),(.v (.slice none 0 0)),(iP 0),(bP false)])]⟩
theorem first_bad {Q:Nat → Prop} {n:Nat} (h:¬ ∀ i,i < n → Q i):∃ N,N < n ∧ ¬ Q N ∧ ∀ i,i < N → Q i:=by
 induction n with
 | zero=>exact absurd (fun i hi=>absurd hi (Nat.not_lt_zero i)) h
 | succ n ih =>
  by_cases hn:∀ i,i < n → Q i
  ·refine ⟨n,by omega,fun q=>h fun i hi=>?_,hn⟩
   by_cases hin:i=n
   ·rw [hin]; exact q
   ·exact hn i (by omega)
  ·obtain ⟨N,h1,h2,h3⟩:=ih hn
   exact ⟨N,by omega,h2,h3⟩
theorem norm_yes (m:List (List Iv)) (n c p:Nat) (ga:MOk m n c) (hp1:8 ≤ p) (hp2:p ≤ 512) (d:Dy) (hd:normM m p=some d):PCt 117 [matP m,iP (p:Int)] (.tup [dyP d,bP true]) ∧ d.Valid:=by
 have hg:∀ x,x < m.length → ∀ k,k < (m.getD x []).length → NGood (m.getD x []) p k:=by
  intro x hx k hk
  apply Classical.byContradiction
  intro q
  rw [normM_none hx hk q] at hd
  cases hd
 rw [normM_some hg] at hd
 cases hd
 exact ⟨norm_some m n c p ga hp1 hp2 hg,nmost_valid m (by omega) (by omega) _⟩
theorem norm_no (m:List (List Iv)) (n c p:Nat) (ga:MOk m n c) (hp1:8 ≤ p) (hp2:p ≤ 512) (hd:normM m p=none):PCt 117 [matP m,iP (p:Int)] (.tup [dyP zeroD,bP false]):=by
 have hb:¬ ∀ x,x < m.length → ∀ k,k < (m.getD x []).length → NGood (m.getD x []) p k:=fun hg=>by rw [normM_some hg] at hd; cases hd
 obtain ⟨N,h1,h2,h3⟩:=first_bad (Q:=fun x=>∀ k,k < (m.getD x []).length → NGood (m.getD x []) p k) hb
 obtain ⟨K,k1,k2,k3⟩:=first_bad h2
 by_cases ha:((m.getD N []).getD K wholeI).all=true
 ·exact norm_bad1 m n c p ga hp1 hp2 N K h1 k1 h3 k3 ha
 ·exact norm_bad2 m n c p ga hp1 hp2 N K h1 k1 h3 k3 (by simpa using ha) (fun q=>k2 ⟨by simpa using ha,q⟩)
theorem numI_valid (n:Nat) (h:n < 4294967296):(numI (n:Int)).Valid:=pointI_valid (intD_valid n h)
theorem powI_valid (u:Iv) {p:Nat} (hp:1 ≤ p) (hp2:p ≤ 4096):∀ j,(powI u p j).Valid
 | 0=>numI_valid 1 (by decide)
 | j+1=>mulI_valid _ _ hp hp2
theorem zeroIv_le:E.le (.agg [bP false,.v (.slice none 0 0),iP 0,bP false,.v (.slice none 0 0),iP 0,bP false]) (ivP ⟨zeroD,zeroD,false⟩) :=
 .agg (.cons (.refl _) (.cons nilLimb_le (.cons (.refl _) (.cons (.refl _) (.cons nilLimb_le (.cons (.refl _) (.cons (.refl _) .nil)))))))
theorem rest_no1 (m:List (List Iv)) (h:Iv) (n c k p:Nat) (ga:MOk m n c) (hh:h.Valid) (hk:k ≤ 1000) (hp1:8 ≤ p) (hp2:p ≤ 512) (hd:normM m p=none):PCt 42 [(matP m),(ivP h),(iP k),(iP p)] (.tup [ivP ⟨zeroD,zeroD,false⟩,bP false]):=by
 exact tr true Tryz.call42 Tryz.func42 (chain [.c (norm_no _ _ _ _ ga hp1 hp2 hd:PCt 117 [(matP m),(iP p)] _)] <| rR (.tup [ivP ⟨zeroD,zeroD,false⟩,bP false]) (.tup (.cons zeroIv_le (.cons (.refl _) .nil)):E.le (.tup [(.agg [(bP false),(.v (.slice none 0 0)),(iP 0),(bP false),(.v (.slice none 0 0)),(iP 0),(bP false)]),(bP false)]) (.tup [ivP ⟨zeroD,zeroD,false⟩,bP false]))) (by kernel_rfl)
theorem rest_no2 (m:List (List Iv)) (h:Iv) (n c k p:Nat) (ga:MOk m n c) (hh:h.Valid) (hk:k ≤ 1000) (hp1:8 ≤ p) (hp2:p ≤ 512) (d:Dy) (hn:PCt 117 [matP m,iP (p:Int)] (.tup [dyP d,bP true])) (hd:d.Valid) (hu:(mulI (absI h) (pointI d) p).all=true):PCt 42 [(matP m),(ivP h),(iP k),(iP p)] (.tup [ivP ⟨zeroD,zeroD,false⟩,bP false]):=by
 have va:=absI_valid hh
 have vp:=pointI_valid hd
 have vu:=mulI_valid (absI h) (pointI d) (show 1 ≤ p by omega) (show p ≤ 4096 by omega)
 exact tr true Tryz.call42 Tryz.func42 (chain [.c (hn:PCt 117 [(matP m),(iP p)] _),.c (ivAbs_pc h ‹_›),.c (ivPoint_pc d ‹_›),.c (ivMul_pc (absI h) (pointI d) p ‹_› ‹_› (by omega) (by omega)),
  tB 32 (hu:(mulI (absI h) (pointI d) p).all=true)] <| rR (.tup [ivP ⟨zeroD,zeroD,false⟩,bP false]) (.tup (.cons zeroIv_le (.cons (.refl _) .nil)):E.le (.tup [(.agg [(bP false),(.v (.slice none 0 0)),(iP 0),(bP false),(.v (.slice none 0 0)),(iP 0),(bP false)]),(bP false)]) (.tup [ivP ⟨zeroD,zeroD,false⟩,bP false]))) (by kernel_rfl)
theorem rest_no3 (m:List (List Iv)) (h:Iv) (n c k p:Nat) (ga:MOk m n c) (hh:h.Valid) (hk:k ≤ 1000) (hp1:8 ≤ p) (hp2:p ≤ 512) (d:Dy) (hn:PCt 117 [matP m,iP (p:Int)] (.tup [dyP d,bP true])) (hd:d.Valid) (hu:(mulI (absI h) (pointI d) p).all=false) (hc:0 ≤ cmpD (mulI (absI h) (pointI d) p).hi (intD (((k+2):Nat):Int))):PCt 42 [(matP m),(ivP h),(iP k),(iP p)] (.tup [ivP ⟨zeroD,zeroD,false⟩,bP false]):=by
 have va:=absI_valid hh
 have vp:=pointI_valid hd
 have vu:=mulI_valid (absI h) (pointI d) (show 1 ≤ p by omega) (show p ≤ 4096 by omega)
 have vk:=intD_valid (k+2) (by omega)
 have ve:=vu.ends.2
 exact tr true Tryz.call42 Tryz.func42 (chain [.c (hn:PCt 117 [(matP m),(iP p)] _),.c (ivAbs_pc h ‹_›),.c (ivPoint_pc d ‹_›),.c (ivMul_pc (absI h) (pointI d) p ‹_› ‹_› (by omega) (by omega)),
  tB 32 (hu:(mulI (absI h) (pointI d) p).all=false),r64 ((k:Int)+2) (by omega),.c (dyInt_pc (k+2) (by omega)),
  .c (dyCmp_pc _ _ ‹_› ‹_›:PCt 82 [(dyP ((mulI (absI h) (pointI d) p).hi)),(dyP (intD (((k+2):Nat):Int)))] _),tB 40 (decide_eq_true hc)] <| rR (.tup [ivP ⟨zeroD,zeroD,false⟩,bP false]) (.tup (.cons zeroIv_le (.cons (.refl _) .nil)):E.le (.tup [(.agg [(bP false),(.v (.slice none 0 0)),(iP 0),(bP false),(.v (.slice none 0 0)),(iP 0),(bP false)]),(bP false)]) (.tup [ivP ⟨zeroD,zeroD,false⟩,bP false]))) (by kernel_rfl)
theorem rest_no4 (m:List (List Iv)) (h:Iv) (n c k p:Nat) (ga:MOk m n c) (hh:h.Valid) (hk:k ≤ 1000) (hp1:8 ≤ p) (hp2:p ≤ 512) (d:Dy) (hn:PCt 117 [matP m,iP (p:Int)] (.tup [dyP d,bP true])) (hd:d.Valid) (hu:(mulI (absI h) (pointI d) p).all=false) (hc:¬ 0 ≤ cmpD (mulI (absI h) (pointI d) p).hi (intD (((k+2):Nat):Int))) (he:(divI (powI (mulI (absI h) (pointI d) p) p (k+1)) (subI (numI 1) (divI (mulI (absI h) (pointI d) p) (numI (((k+2):Nat):Int)) p) p) p).all=true):PCt 42 [(matP m),(ivP h),(iP k),(iP p)] (.tup [ivP (divI (powI (mulI (absI h) (pointI d) p) p (k+1)) (subI (numI 1) (divI (mulI (absI h) (pointI d) p) (numI (((k+2):Nat):Int)) p) p) p),bP false]):=by
 have va:=absI_valid hh
 have vp:=pointI_valid hd
 have vu:=mulI_valid (absI h) (pointI d) (show 1 ≤ p by omega) (show p ≤ 4096 by omega)
 have vk:=intD_valid (k+2) (by omega)
 have ve:=vu.ends.2
 have w1:=powI_valid (mulI (absI h) (pointI d) p) (show 1 ≤ p by omega) (by omega) (k+1)
 have w2:=numI_valid (k+2) (by omega)
 have w3:(numI 1).Valid:=numI_valid 1 (by decide)
 have w4:=divI_valid (mulI (absI h) (pointI d) p) (numI (((k+2):Nat):Int)) (show 1 ≤ p by omega) (by omega)
 have w5:(subI (numI 1) (divI (mulI (absI h) (pointI d) p) (numI (((k+2):Nat):Int)) p) p).Valid:=addI_valid w3 (negI_valid w4) (by omega) (by omega)
 have w6:=divI_valid (powI (mulI (absI h) (pointI d) p) p (k+1)) (subI (numI 1) (divI (mulI (absI h) (pointI d) p) (numI (((k+2):Nat):Int)) p) p) (show 1 ≤ p by omega) (by omega)
 have w7:=w6.ends.2
 exact tr true Tryz.call42 Tryz.func42 (chain [.c (hn:PCt 117 [(matP m),(iP p)] _),.c (ivAbs_pc h ‹_›),.c (ivPoint_pc d ‹_›),.c (ivMul_pc (absI h) (pointI d) p ‹_› ‹_› (by omega) (by omega)),
  tB 32 (hu:(mulI (absI h) (pointI d) p).all=false),r64 ((k:Int)+2) (by omega),.c (dyInt_pc (k+2) (by omega)),
  .c (dyCmp_pc _ _ ‹_› ‹_›:PCt 82 [(dyP ((mulI (absI h) (pointI d) p).hi)),(dyP (intD (((k+2):Nat):Int)))] _),tB 40 (decide_eq_false hc),.c (num_pc 1 (by omega)),
  .s (Sp.upto (restFam m h d k p) 0 (k+1) (by omega) (fun x hx hltx=>by
    have w1:=powI_valid (mulI (absI h) (pointI d) p) (show 1 ≤ p by omega) (by omega) x
    have w2:=numI_valid (x+1) (by omega)
    have w3:=divI_valid (mulI (absI h) (pointI d) p) (numI (((x+1):Nat):Int)) (show 1 ≤ p by omega) (by omega)
    exact spt (chain [r64 ((k:Int)+1) (by omega),tT 47 ((((x+1):Nat):Int) ≤ (((k+1):Nat):Int)) (by omega),.c (num_pc (x+1) (by omega)),
     .c (ivDiv_pc (mulI (absI h) (pointI d) p) (numI (((x+1):Nat):Int)) p ‹_› ‹_› (by omega) (by omega)),
     .c (ivMul_pc (powI (mulI (absI h) (pointI d) p) p x) (vga2 h d p x) p ‹_› ‹_› (by omega) (by omega)),r64 ((((x+1):Nat):Int)+1) (by omega)] <| .e (chain [.b 13 (.of_eq rfl:Bx.le (.cells 28 (ivL (mulI (powI (mulI (absI h) (pointI d) p) p x) (vga2 h d p x) p))) (.cells 28 (ivL (powI (mulI (absI h) (pointI d) p) p (x+1)))))] <| .nil)) (by kernel_rfl))
  (fun hx=>by
    exact spt (chain [r64 ((k:Int)+1) (by omega),tF 47 (((((k+1)+1):Nat):Int) ≤ (((k+1):Nat):Int)) (by omega)] <| .nil) (by kernel_rfl)) (by nofun):LpT 9 Tryz.f42 (restFam m h d k p 0) (.exit 0) ⟨79,true,[(13,.box 13 0),(12,.box 12 0),(8,.box 8 0),(2,.e (iP k)),(3,.e (iP p))],[(13,.cells 28 (ivL (vga1 h d p k))),(12,.cells 28 (ivL (mulI (absI h) (pointI d) p))),(8,.cells 28 [(bP false),(.v (.slice none 0 0)),(iP 0),(bP false),(.v (.slice none 0 0)),(iP 0),(bP false)])]⟩) (chain [.o 14 (.int (by first | rfl | omega | (simp only [Nat.add_mul,Nat.one_mul]; omega)):PV.le (.e (iP 1)) (.e (iP (((0+1):Nat):Int)))),
  .b 13 (.of_eq rfl:Bx.le (.cells 28 (ivL (numI 1))) (.cells 28 (ivL (powI (mulI (absI h) (pointI d) p) p 0))))] <| .nil),
  .c (num_pc 1 (by omega)),r64 ((k:Int)+2) (by omega),.c (num_pc (k+2) (by omega)),.c (ivDiv_pc (mulI (absI h) (pointI d) p) (numI (((k+2):Nat):Int)) p ‹_› ‹_› (by omega) (by omega)),
  .c (ivSub_pc (numI 1) (vga0 h d p k) p ‹_› ‹_› (by omega) (by omega)),
  .c (ivDiv_pc (vga1 h d p k) (subI (numI 1) (vga0 h d p k) p) p ‹_› ‹_› (by omega) (by omega)),
  tB 71 (he:(divI (vga1 h d p k) (subI (numI 1) (vga0 h d p k) p) p).all=true)] <| .nil) (by kernel_rfl)
theorem rest_yes (m:List (List Iv)) (h:Iv) (n c k p:Nat) (ga:MOk m n c) (hh:h.Valid) (hk:k ≤ 1000) (hp1:8 ≤ p) (hp2:p ≤ 512) (d:Dy) (hn:PCt 117 [matP m,iP (p:Int)] (.tup [dyP d,bP true])) (hd:d.Valid) (hu:(mulI (absI h) (pointI d) p).all=false) (hc:¬ 0 ≤ cmpD (mulI (absI h) (pointI d) p).hi (intD (((k+2):Nat):Int))) (he:(divI (powI (mulI (absI h) (pointI d) p) p (k+1)) (subI (numI 1) (divI (mulI (absI h) (pointI d) p) (numI (((k+2):Nat):Int)) p) p) p).all=false):PCt 42 [(matP m),(ivP h),(iP k),(iP p)] (.tup [ivP ⟨negD (divI (powI (mulI (absI h) (pointI d) p) p (k+1)) (subI (numI 1) (divI (mulI (absI h) (pointI d) p) (numI (((k+2):Nat):Int)) p) p) p).hi,(divI (powI (mulI (absI h) (pointI d) p) p (k+1)) (subI (numI 1) (divI (mulI (absI h) (pointI d) p) (numI (((k+2):Nat):Int)) p) p) p).hi,false⟩,bP true]):=by
 have va:=absI_valid hh
 have vp:=pointI_valid hd
 have vu:=mulI_valid (absI h) (pointI d) (show 1 ≤ p by omega) (show p ≤ 4096 by omega)
 have vk:=intD_valid (k+2) (by omega)
 have ve:=vu.ends.2
 have w1:=powI_valid (mulI (absI h) (pointI d) p) (show 1 ≤ p by omega) (by omega) (k+1)
 have w2:=numI_valid (k+2) (by omega)
 have w3:(numI 1).Valid:=numI_valid 1 (by decide)
 have w4:=divI_valid (mulI (absI h) (pointI d) p) (numI (((k+2):Nat):Int)) (show 1 ≤ p by omega) (by omega)
 have w5:(subI (numI 1) (divI (mulI (absI h) (pointI d) p) (numI (((k+2):Nat):Int)) p) p).Valid:=addI_valid w3 (negI_valid w4) (by omega) (by omega)
 have w6:=divI_valid (powI (mulI (absI h) (pointI d) p) p (k+1)) (subI (numI 1) (divI (mulI (absI h) (pointI d) p) (numI (((k+2):Nat):Int)) p) p) (show 1 ≤ p by omega) (by omega)
 have w7:=w6.ends.2
 exact tr true Tryz.call42 Tryz.func42 (chain [.c (hn:PCt 117 [(matP m),(iP p)] _),.c (ivAbs_pc h ‹_›),.c (ivPoint_pc d ‹_›),.c (ivMul_pc (absI h) (pointI d) p ‹_› ‹_› (by omega) (by omega)),
  tB 32 (hu:(mulI (absI h) (pointI d) p).all=false),r64 ((k:Int)+2) (by omega),.c (dyInt_pc (k+2) (by omega)),
  .c (dyCmp_pc _ _ ‹_› ‹_›:PCt 82 [(dyP ((mulI (absI h) (pointI d) p).hi)),(dyP (intD (((k+2):Nat):Int)))] _),tB 40 (decide_eq_false hc),.c (num_pc 1 (by omega)),
  .s (Sp.upto (restFam m h d k p) 0 (k+1) (by omega) (fun x hx hltx=>by
    have w1:=powI_valid (mulI (absI h) (pointI d) p) (show 1 ≤ p by omega) (by omega) x
    have w2:=numI_valid (x+1) (by omega)
    have w3:=divI_valid (mulI (absI h) (pointI d) p) (numI (((x+1):Nat):Int)) (show 1 ≤ p by omega) (by omega)
    exact spt (chain [r64 ((k:Int)+1) (by omega),tT 47 ((((x+1):Nat):Int) ≤ (((k+1):Nat):Int)) (by omega),.c (num_pc (x+1) (by omega)),
     .c (ivDiv_pc (mulI (absI h) (pointI d) p) (numI (((x+1):Nat):Int)) p ‹_› ‹_› (by omega) (by omega)),
     .c (ivMul_pc (powI (mulI (absI h) (pointI d) p) p x) (vga2 h d p x) p ‹_› ‹_› (by omega) (by omega)),r64 ((((x+1):Nat):Int)+1) (by omega)] <| .e (chain [.b 13 (.of_eq rfl:Bx.le (.cells 28 (ivL (mulI (powI (mulI (absI h) (pointI d) p) p x) (vga2 h d p x) p))) (.cells 28 (ivL (powI (mulI (absI h) (pointI d) p) p (x+1)))))] <| .nil)) (by kernel_rfl))
  (fun hx=>by
    exact spt (chain [r64 ((k:Int)+1) (by omega),tF 47 (((((k+1)+1):Nat):Int) ≤ (((k+1):Nat):Int)) (by omega)] <| .nil) (by kernel_rfl)) (by nofun):LpT 9 Tryz.f42 (restFam m h d k p 0) (.exit 0) ⟨79,true,[(13,.box 13 0),(12,.box 12 0),(8,.box 8 0),(2,.e (iP k)),(3,.e (iP p))],[(13,.cells 28 (ivL (vga1 h d p k))),(12,.cells 28 (ivL (mulI (absI h) (pointI d) p))),(8,.cells 28 [(bP false),(.v (.slice none 0 0)),(iP 0),(bP false),(.v (.slice none 0 0)),(iP 0),(bP false)])]⟩) (chain [.o 14 (.int (by first | rfl | omega | (simp only [Nat.add_mul,Nat.one_mul]; omega)):PV.le (.e (iP 1)) (.e (iP (((0+1):Nat):Int)))),
  .b 13 (.of_eq rfl:Bx.le (.cells 28 (ivL (numI 1))) (.cells 28 (ivL (powI (mulI (absI h) (pointI d) p) p 0))))] <| .nil),
  .c (num_pc 1 (by omega)),r64 ((k:Int)+2) (by omega),.c (num_pc (k+2) (by omega)),.c (ivDiv_pc (mulI (absI h) (pointI d) p) (numI (((k+2):Nat):Int)) p ‹_› ‹_› (by omega) (by omega)),
  .c (ivSub_pc (numI 1) (vga0 h d p k) p ‹_› ‹_› (by omega) (by omega)),
  .c (ivDiv_pc (vga1 h d p k) (subI (numI 1) (vga0 h d p k) p) p ‹_› ‹_› (by omega) (by omega)),
  tB 71 (he:(divI (vga1 h d p k) (subI (numI 1) (vga0 h d p k) p) p).all=false),
  .c (dyNeg_pc _ ‹_›:PCt 92 [(dyP ((divI (vga1 h d p k) (subI (numI 1) (vga0 h d p k) p) p).hi))] _)] <| .nil) (by kernel_rfl)
open Go.RowKit Fp Pu
open Go.RowKit Fp Pu
theorem range_any (r:List Iv):((List.range (r.length)).any fun j_=>(r.getD j_ wholeI).all)=r.any fun x=>x.all:=by
 rw [Bool.eq_iff_iff,List.any_eq_true,List.any_eq_true]
 constructor
 ·rintro ⟨j,h1,h2⟩
  have hj:=List.mem_range.1 h1
  rw [getD_eq_getElem hj] at h2
  exact ⟨_,List.getElem_mem hj,h2⟩
 ·rintro ⟨x,h1,h2⟩
  obtain ⟨j,hj,rfl⟩:=List.mem_iff_getElem.1 h1
  exact ⟨j,List.mem_range.2 hj,by rw [getD_eq_getElem hj]; exact h2⟩
theorem range_anyM (m:List (List Iv)):((List.range (m.length)).any fun i_=>(m.getD i_ []).any fun x=>x.all)=m.any fun r=>r.any fun x=>x.all:=by
 rw [Bool.eq_iff_iff,List.any_eq_true,List.any_eq_true]
 constructor
 ·rintro ⟨j,h1,h2⟩
  have hj:=List.mem_range.1 h1
  rw [getD_eq_getElem hj] at h2
  exact ⟨_,List.getElem_mem hj,h2⟩
 ·rintro ⟨x,h1,h2⟩
  obtain ⟨j,hj,rfl⟩:=List.mem_iff_getElem.1 h1
  exact ⟨j,List.mem_range.2 hj,by rw [getD_eq_getElem hj]; exact h2⟩
theorem all11_pc (x:Iv):PCt 136 [(ivP x)] (bP x.all):=by
 exact tr true Tryz.call136 Tryz.func136 (.nil) (by kernel_rfl)
theorem all1_pc (r:List Iv) (hl:r.length ≤ 1000):PCt 135 [(ivsP r)] (bP (r.any fun x=>x.all)):=by
 exact tr true Tryz.call135 Tryz.func135 (chain [.c (iv_any true r.length (ivsE r) 136 [] (fun j_=>(r.getD j_ wholeI).all) (fun j hj=>all11_pc _) (by omega):PCt 55 [(ivsP r),(.fn 136 [])] _)] <| rQ (bP ((List.range (r.length)).any fun j_=>(r.getD j_ wholeI).all)) (bP (r.any fun x=>x.all)) (by rw [range_any])) (by kernel_rfl)
theorem all_pc (m:List (List Iv)) (hl:m.length ≤ 1000) (hr:∀ i,(m.getD i []).length ≤ 1000):PCt 49 [(matP m)] (bP (m.any fun r=>r.any fun x=>x.all)):=by
 exact tr true Tryz.call49 Tryz.func49 (chain [.c (row_any true m.length (matE m) 135 [] (fun i_=>(m.getD i_ []).any fun x=>x.all) (fun i hi=>all1_pc _ (hr i)) (by omega):PCt 53 [(matP m),(.fn 135 [])] _)] <| rQ (bP ((List.range (m.length)).any fun i_=>(m.getD i_ []).any fun x=>x.all)) (bP (m.any fun r=>r.any fun x=>x.all)) (by rw [range_anyM])) (by kernel_rfl)
theorem square_pc (m:List (List Iv)) (n c:Nat) (ga:MOk m n c):PCt 40 [(matP m)] (bP (decide (n=c))):=by
 have ra:=ga.rows
 have n1:=ga.n1
 have la:=ga.len_at (show 0 < n by omega)
 by_cases h:n=c
 ·exact tr true Tryz.call40 Tryz.func40 (chain [.c (matValid_pc _ _ _ ‹_›:PCt 103 [(matP m)] _),iX (0) (m.length) (by omega),tB 12 (natEq_true (by omega):((m.length:Int) == (((m.getD 0 []).length:Nat):Int))=true)] <| rQ (bP true) (bP (decide (n=c))) (by rw [decide_eq_true h])) (by kernel_rfl)
 ·exact tr true Tryz.call40 Tryz.func40 (chain [.c (matValid_pc _ _ _ ‹_›:PCt 103 [(matP m)] _),iX (0) (m.length) (by omega),tB 12 (natEq_false (by omega):((m.length:Int) == (((m.getD 0 []).length:Nat):Int))=false)] <| rQ (bP false) (bP (decide (n=c))) (by rw [decide_eq_false h])) (by kernel_rfl)
open Go.RowKit Fp Pu
theorem neg_le_self {d:Dy} (hd:d.neg=false):cmpD (negD d) d ≤ 0:=by
 rw [le_iff (k:=d.e) (.inr (show d.e ≤ (negD d).e from Int.le_refl _)) (.inr (Int.le_refl _))]
 have h1:=num_nn hd d.e
 by_cases h0:d.m=0
 ·have:(negD d).num d.e=0:=by unfold Dy.num Dy.mag negD; simp [h0]
  omega
 ·rw [num_negD d d.e h0]; omega
theorem rest_pc (m:List (List Iv)) (h:Iv) (n c k p:Nat) (ga:MOk m n c) (hh:h.Valid) (hk:k ≤ 1000) (hp1:8 ≤ p) (hp2:p ≤ 512) :
  (∀ e,restI m h k p=some e → PCt 42 [matP m,ivP h,iP (k:Int),iP (p:Int)] (.tup [ivP e,bP true]) ∧ e.Valid ∧ e.all=false) ∧
  (restI m h k p=none → ∃ x:Iv,PCt 42 [matP m,ivP h,iP (k:Int),iP (p:Int)] (.tup [ivP x,bP false])):=by
 cases hn:normM m p with
 | none =>
  refine ⟨fun e he=>?_,fun _=>⟨_,rest_no1 m h n c k p ga hh hk hp1 hp2 hn⟩⟩
  unfold restI at he; rw [hn] at he; cases he
 | some d =>
  obtain ⟨hp,hd⟩:=norm_yes m n c p ga hp1 hp2 d hn
  have hdn:d.neg=false:=by
   have hg:∀ i,i < m.length → ∀ k,k < (m.getD i []).length → NGood (m.getD i []) p k:=by
    intro i hi k hk
    apply Classical.byContradiction
    intro q
    rw [normM_none hi hk q] at hn
    cases hn
   rw [normM_some hg] at hn
   cases hn
   exact nmost_nn _ _ _
  have hun:(mulI (absI h) (pointI d) p).NN:=mulI_nn (absI_nn h) (pointI_nn hdn) p
  unfold restI
  rw [hn,Option.bind_some]
  simp only
  by_cases hu:(mulI (absI h) (pointI d) p).all=true
  ·rw [if_pos (by rw [hu]; rfl)]
   exact ⟨fun e hx=>(by cases hx),fun _=>⟨_,rest_no2 m h n c k p ga hh hk hp1 hp2 d hp hd hu⟩⟩
  ·replace hu:(mulI (absI h) (pointI d) p).all=false:=by simpa using hu
   by_cases hc:0 ≤ cmpD (mulI (absI h) (pointI d) p).hi (intD (((k+2):Nat):Int))
   ·rw [if_pos (by rw [hu,decide_eq_true hc]; rfl)]
    exact ⟨fun e hx=>(by cases hx),fun _=>⟨_,rest_no3 m h n c k p ga hh hk hp1 hp2 d hp hd hu hc⟩⟩
   ·rw [if_neg (by rw [hu,decide_eq_false hc]; decide)]
    by_cases he:(divI (powI (mulI (absI h) (pointI d) p) p (k+1)) (subI (numI 1) (divI (mulI (absI h) (pointI d) p) (numI (((k+2):Nat):Int)) p) p) p).all=true
    ·rw [if_pos he]
     exact ⟨fun e hx=>(by cases hx),fun _=>⟨_,rest_no4 m h n c k p ga hh hk hp1 hp2 d hp hd hu hc he⟩⟩
    ·rw [if_neg he]
     replace he:(divI (powI (mulI (absI h) (pointI d) p) p (k+1)) (subI (numI 1) (divI (mulI (absI h) (pointI d) p) (numI (((k+2):Nat):Int)) p) p) p).all=false:=by simpa using he
     have hv:=divI_valid (powI (mulI (absI h) (pointI d) p) p (k+1)) (subI (numI 1) (divI (mulI (absI h) (pointI d) p) (numI (((k+2):Nat):Int)) p) p) (show 1 ≤ p by omega) (show p ≤ 4096 by omega)
     have hnn:=rest_nn (c:=k+2) hun (by omega) hu (by omega) (powI_nn hun p (k+1)) he (show 1 ≤ p by omega) (by omega)
     refine ⟨fun e hx=>?_,fun hx=>(by cases hx)⟩
     cases hx
     exact ⟨rest_yes m h n c k p ga hh hk hp1 hp2 d hp hd hu hc he,.inr ⟨rfl,negD_valid hv.ends.2,hv.ends.2,neg_le_self hnn.hi⟩,rfl⟩
open Go.RowKit Fp Pu
open Go.RowKit Fp Pu
abbrev vja0 (m:List (List Iv)) (h:Iv) (p) (k) (e:Iv):=fun i_=>(List.range (((sumM m h p k).getD i_ []).length)).map (fun j_=>addI (((sumM m h p k).getD i_ []).getD j_ wholeI) e p)
abbrev vja1 (m:List (List Iv)) (h:Iv) (p) (k) (x) (e:Iv):=fun j_=>addI (((sumM m h p k).getD x []).getD j_ wholeI) e p
abbrev vja2 (m:List (List Iv)) (h:Iv) (p) (k) (e:Iv):=(List.range ((sumM m h p k).length)).map (vja0 m h p k e)
abbrev vja3 (m:List (List Iv)) (h:Iv) (p) (k) (x) (y) (e:Iv):=addI (((sumM m h p k).getD x []).getD y wholeI) e p
abbrev vja4 (m:List (List Iv)) (h:Iv) (p) (k) (x) (e:Iv):=ivsP ((List.range (((sumM m h p k).getD x []).length)).map (vja1 m h p k x e))
def expFamA (m:List (List Iv)) (h e:Iv) (k p:Nat) (x:Nat):PS:=⟨122,true,[(14,.e (iP (((x+1):Nat):Int))),(13,.e (matP (sumM m h p x))),(12,.e (matP (termM m h p x))),(10,.box 10 0),(5,.box 5 0),(0,.e (matP m)),(2,.e (iP k)),(3,.e (iP p))],[(10,.cells 28 (ivL e)),(5,.cells 28 (ivL h))]⟩
def expFamB (m:List (List Iv)) (h e:Iv) (k p:Nat) (x:Nat):PS:=⟨122,true,[(17,.own 17),(96,.e (iP x)),(95,.e (iP (((sumM m h p k).length:Nat):Int))),(94,.e (matP (sumM m h p k))),(10,.box 10 0),(3,.e (iP p))],[(17,.row true 31 x 1 (matE ((List.range x).map (vja0 m h p k e)))),(10,.cells 28 (ivL e))]⟩
def expFamC (m:List (List Iv)) (h e:Iv) (k p x:Nat) (y:Nat):PS:=⟨122,true,[(20,.own 20),(102,.e (iP y)),(101,.e (iP ((((sumM m h p k).getD x []).length:Nat):Int))),(100,.e (ivsP ((sumM m h p k).getD x []))),(17,.own 17),(96,.e (iP x)),(95,.e (iP (((sumM m h p k).length:Nat):Int))),(94,.e (matP (sumM m h p k))),(10,.box 10 0),(3,.e (iP p))],[(20,.row true 28 y 7 (ivsE ((List.range y).map (vja1 m h p k x e)))),(17,.row true 31 x 1 (matE ((List.range x).map (vja0 m h p k e)))),(10,.cells 28 (ivL e))]⟩
theorem exp_no1 (m:List (List Iv)) (h:Iv) (n k p:Nat) (ga:MOk m n n) (hh:h.Valid) (hha:h.all=false) (hk1:1 ≤ k) (hk:k ≤ 16) (hp1:8 ≤ p) (hp2:p ≤ 512) (hr:restI m h k p=none):PCt 12 [(matP m),(ivP h),(iP k),(iP p)] (.tup [.v (.slice none 0 0),iP 15]):=by
 have ra:=ga.rows
 have n1:=ga.n1
 have n8:=ga.n8
 obtain ⟨x0,hx0⟩:=(rest_pc m h n n k p ga hh (by omega) hp1 hp2).2 hr
 exact tr true Tryz.call12 Tryz.func12 (chain [.c (square_pc _ _ _ ga:PCt 40 [(matP m)] _),tT 24 (n=n) rfl,.c (ivValid_pc h ‹_›),tB 33 (hha:h.all=false),tF 36 ((p:Int) < 8) (by omega),tF 39 (512 < (p:Int)) (by omega),
  tF 43 ((k:Int) < 1) (by omega),tF 47 (16 < (k:Int)) (by omega),.c (hx0:PCt 42 [(matP m),(ivP h),(iP k),(iP p)] _)] <| .nil) (by kernel_rfl)
theorem exp_no2 (m:List (List Iv)) (h:Iv) (n k p:Nat) (ga:MOk m n n) (hh:h.Valid) (hha:h.all=false) (hk1:1 ≤ k) (hk:k ≤ 16) (hp1:8 ≤ p) (hp2:p ≤ 512) (e:Iv) (hr:restI m h k p=some e) (hall:(((List.range ((sumM m h p k).length)).map (fun i_=>(List.range (((sumM m h p k).getD i_ []).length)).map (fun j_=>addI (((sumM m h p k).getD i_ []).getD j_ wholeI) e p))).any fun r=>r.any fun x=>x.all)=true):PCt 12 [(matP m),(ivP h),(iP k),(iP p)] (.tup [.v (.slice none 0 0),iP 15]):=by
 have ra:=ga.rows
 have n1:=ga.n1
 have n8:=ga.n8
 obtain ⟨hr1,hev,hea⟩:=(rest_pc m h n n k p ga hh (by omega) hp1 hp2).1 e hr
 have gs:=sumM_ok (h:=h) (p:=p) ga (by omega) (by omega) k
 have rs:=gs.rows
 have hrows:∀ i,(((List.range ((sumM m h p k).length)).map (fun i_=>(List.range (((sumM m h p k).getD i_ []).length)).map (fun j_=>addI (((sumM m h p k).getD i_ []).getD j_ wholeI) e p))).getD i []).length ≤ 1000:=by
  intro i
  by_cases hi:i < (sumM m h p k).length
  ·rw [rows_getD hi]; have:=gs.len_le i; simp only [List.length_map,List.length_range]; omega
  ·rw [List.getD_eq_getElem?_getD,List.getElem?_eq_none (by simpa using hi)]; exact Nat.zero_le _
 exact tr true Tryz.call12 Tryz.func12 (chain [.c (square_pc _ _ _ ga:PCt 40 [(matP m)] _),tT 24 (n=n) rfl,.c (ivValid_pc h ‹_›),tB 33 (hha:h.all=false),tF 36 ((p:Int) < 8) (by omega),tF 39 (512 < (p:Int)) (by omega),
  tF 43 ((k:Int) < 1) (by omega),tF 47 (16 < (k:Int)) (by omega),.c (hr1:PCt 42 [(matP m),(ivP h),(iP k),(iP p)] _),.c (matId_pc m.length (by omega) (by omega)),
  .s (Sp.upto (expFamA m h e k p) 0 k (by omega) (fun x hx hltx=>by
    have w1:=termM_ok (h:=h) ga (show 1 ≤ p by omega) (by omega) x
    have w2:=mulM_ok w1 ga (show 1 ≤ p by omega) (show p ≤ 4096 by omega)
    have w3:=numI_valid (x+1) (by omega)
    have w4:=divI_valid h (numI (((x+1):Nat):Int)) (show 1 ≤ p by omega) (show p ≤ 4096 by omega)
    have w5:=sumM_ok (h:=h) ga (show 1 ≤ p by omega) (by omega) x
    have w6:MOk (scaleM (mulM (termM m h p x) m p) (divI h (numI (((x+1):Nat):Int)) p) p) n n:=scaleM_ok w2 (show 1 ≤ p by omega) (by omega)
    exact spt (chain [tT 65 ((((x+1):Nat):Int) ≤ (k:Int)) (by omega),.c (matMul_pc _ _ _ _ _ _ ‹_› ‹_› (by omega) (by omega):PCt 43 [(matP (termM m h p x)),(matP m),(iP p)] _),
     tB 76 (by decide:((0:Int) != 0)=false),.c (num_pc (x+1) (by omega)),.c (ivDiv_pc h (numI (((x+1):Nat):Int)) p ‹_› ‹_› (by omega) (by omega)),
     .c (matScale_pc _ _ _ _ _ ‹_› ‹_› (by omega) (by omega):PCt 44 [(matP (mulM (termM m h p x) m p)),(ivP (divI h (numI (((x+1):Nat):Int)) p)),(iP p)] _),
     .c (matAdd_pc _ _ _ _ _ ‹_› ‹_› (by omega) (by omega):PCt 47 [(matP (sumM m h p x)),(matP (scaleM (mulM (termM m h p x) m p) (divI h (numI (((x+1):Nat):Int)) p) p)),(iP p)] _),
     tB 93 (by decide:((0:Int) != 0)=false),r64 ((((x+1):Nat):Int)+1) (by omega)] <| .nil) (by kernel_rfl))
  (fun hx=>by
    exact spt (chain [tF 65 ((((k+1):Nat):Int) ≤ (k:Int)) (by omega)] <| .nil) (by kernel_rfl)) (by nofun):LpT 11 Tryz.f12 (expFamA m h e k p 0) (.exit 0) ⟨122,true,[(13,.e (matP (sumM m h p k))),(10,.box 10 0),(3,.e (iP p))],[(10,.cells 28 (ivL e))]⟩) (chain [.o 14 (.int (by first | rfl | omega | (simp only [Nat.add_mul,Nat.one_mul]; omega)):PV.le (.e (iP 1)) (.e (iP (((0+1):Nat):Int))))] <| .nil),
  .y 17 17 true 31 1 (matE ((List.range 0).map (vja0 m h p k e))),
  .s (Sp.upto (expFamB m h e k p) 0 ((sumM m h p k).length) (by omega) (fun x hx hltx=>by
    have lx:=gs.len_at (show x < n by omega)
    exact spt (chain [tT 97 ((x:Int) < (((sumM m h p k).length:Nat):Int)) (by omega),iX ((x:Int)) ((sumM m h p k).length) (by omega),
     .y 20 20 true 28 7 (ivsE ((List.range 0).map (vja1 m h p k x e))),
     .s (Sp.upto (expFamC m h e k p x) 0 (((sumM m h p k).getD x []).length) (by omega) (fun y hy hlty=>by
    have w1:=gs.val_at (show x < n by omega) (show y < n by omega)
    have h1:=one_len (addI (((sumM m h p k).getD x []).getD y wholeI) e p)
    exact spt (chain [tT 103 ((y:Int) < ((((sumM m h p k).getD x []).length:Nat):Int)) (by omega),iX ((y:Int)) (((sumM m h p k).getD x []).length) (by omega),
     .c (ivAdd_pc (((sumM m h p k).getD x []).getD y wholeI) e p ‹_› ‹_› (by omega) (by omega)),
     .o 111 (.e (ivs1_le _):PV.le (.e (.sl true 1 7 fun i_ j_=>(ivL (vja3 m h p k x y e)).getD (i_ * 7+j_) (.v (.bool false)))) (.e (ivsP [(vja3 m h p k x y e)]))),
     .a (by omega:(y + [(addI (((sumM m h p k).getD x []).getD y wholeI) e p)].length) * 88 ≤ 140737488355328),r64 ((y:Int)+1) (by omega)] <| .e (chain [.b 20 (ivs_pushR rfl rfl rfl:Bx.le (.row true 28 (y + [(vja3 m h p k x y e)].length) 7 (fun i_ j_=>if i_ < y then (ivsE ((List.range y).map (vja1 m h p k x e))) i_ j_ else (E.elf (ivsP [(vja3 m h p k x y e)])) (i_ - y) j_)) (.row true 28 (y+1) 7 (ivsE ((List.range (y+1)).map (vja1 m h p k x e)))))] <| .nil)) (by kernel_rfl))
  (fun hy=>by
    exact spt (chain [tF 103 (((((sumM m h p k).getD x []).length:Nat):Int) < ((((sumM m h p k).getD x []).length:Nat):Int)) (by omega),.z 20] <| .e (chain [.o 20 (.e (ivsRow_le (by simp)):PV.le (.e (.sl true (((sumM m h p k).getD x []).length) 7 (ivsE ((List.range (((sumM m h p k).getD x []).length)).map (fun j_=>addI (((sumM m h p k).getD x []).getD j_ wholeI) e p))))) (.e (ivsP ((List.range (((sumM m h p k).getD x []).length)).map (fun j_=>addI (((sumM m h p k).getD x []).getD j_ wholeI) e p)))))] <| .nil)) (by kernel_rfl)) (by nofun):LpT 26 Tryz.f12 (expFamC m h e k p x 0) (.exit 4) ⟨122,true,[(20,.e (vja4 m h p k x e)),(17,.own 17),(96,.e (iP x)),(95,.e (iP (((sumM m h p k).length:Nat):Int))),(94,.e (matP (sumM m h p k))),(10,.box 10 0),(3,.e (iP p))],[(17,.row true 31 x 1 (matE ((List.range x).map (vja0 m h p k e)))),(10,.cells 28 (ivL e))]⟩) .nil,
     .a (by omega:(x+1) * 24 ≤ 140737488355328),r64 ((x:Int)+1) (by omega)] <| .e (chain [.b 17 (mat_pushR rfl rfl rfl (fun j hj=>by cases Nat.lt_one_iff.1 hj; rfl):Bx.le (.row true 31 (x+1) 1 (fun i_ j_=>if i_ < x then (matE ((List.range x).map (vja0 m h p k e))) i_ j_ else (E.elf (.sl true 1 1 fun i_ j_=>[(vja4 m h p k x e)].getD (i_ * 1+j_) (.v (.bool false)))) (i_ - x) j_)) (.row true 31 (x+1) 1 (matE ((List.range (x+1)).map (vja0 m h p k e)))))] <| .nil)) (by kernel_rfl))
  (fun hx=>by
    exact spt (chain [tF 97 ((((sumM m h p k).length:Nat):Int) < (((sumM m h p k).length:Nat):Int)) (by omega),.z 17] <| .e (chain [.o 17 (.e (matRow_le (by simp)):PV.le (.e (.sl true ((sumM m h p k).length) 1 (matE ((List.range ((sumM m h p k).length)).map (fun i_=>(List.range (((sumM m h p k).getD i_ []).length)).map (fun j_=>addI (((sumM m h p k).getD i_ []).getD j_ wholeI) e p)))))) (.e (matP ((List.range ((sumM m h p k).length)).map (fun i_=>(List.range (((sumM m h p k).getD i_ []).length)).map (fun j_=>addI (((sumM m h p k).getD i_ []).getD j_ wholeI) e p))))))] <| .nil)) (by kernel_rfl)) (by nofun):LpT 22 Tryz.f12 (expFamB m h e k p 0) (.exit 2) ⟨122,true,[(17,.e (matP (vja2 m h p k e)))],[]⟩) .nil,
  .c (all_pc (vja2 m h p k e) (by simp; omega) hrows),
  tB 120 (hall:(((vja2 m h p k e)).any fun r=>r.any fun x=>x.all)=true)] <| .nil) (by kernel_rfl)
theorem exp_yes (m:List (List Iv)) (h:Iv) (n k p:Nat) (ga:MOk m n n) (hh:h.Valid) (hha:h.all=false) (hk1:1 ≤ k) (hk:k ≤ 16) (hp1:8 ≤ p) (hp2:p ≤ 512) (e:Iv) (hr:restI m h k p=some e) (hall:(((List.range ((sumM m h p k).length)).map (fun i_=>(List.range (((sumM m h p k).getD i_ []).length)).map (fun j_=>addI (((sumM m h p k).getD i_ []).getD j_ wholeI) e p))).any fun r=>r.any fun x=>x.all)=false):PCt 12 [(matP m),(ivP h),(iP k),(iP p)] (.tup [matP ((List.range ((sumM m h p k).length)).map (fun i_=>(List.range (((sumM m h p k).getD i_ []).length)).map (fun j_=>addI (((sumM m h p k).getD i_ []).getD j_ wholeI) e p))),iP 0]):=by
 have ra:=ga.rows
 have n1:=ga.n1
 have n8:=ga.n8
 obtain ⟨hr1,hev,hea⟩:=(rest_pc m h n n k p ga hh (by omega) hp1 hp2).1 e hr
 have gs:=sumM_ok (h:=h) (p:=p) ga (by omega) (by omega) k
 have rs:=gs.rows
 have hrows:∀ i,(((List.range ((sumM m h p k).length)).map (fun i_=>(List.range (((sumM m h p k).getD i_ []).length)).map (fun j_=>addI (((sumM m h p k).getD i_ []).getD j_ wholeI) e p))).getD i []).length ≤ 1000:=by
  intro i
  by_cases hi:i < (sumM m h p k).length
  ·rw [rows_getD hi]; have:=gs.len_le i; simp only [List.length_map,List.length_range]; omega
  ·rw [List.getD_eq_getElem?_getD,List.getElem?_eq_none (by simpa using hi)]; exact Nat.zero_le _
 exact tr true Tryz.call12 Tryz.func12 (chain [.c (square_pc _ _ _ ga:PCt 40 [(matP m)] _),tT 24 (n=n) rfl,.c (ivValid_pc h ‹_›),tB 33 (hha:h.all=false),tF 36 ((p:Int) < 8) (by omega),tF 39 (512 < (p:Int)) (by omega),
  tF 43 ((k:Int) < 1) (by omega),tF 47 (16 < (k:Int)) (by omega),.c (hr1:PCt 42 [(matP m),(ivP h),(iP k),(iP p)] _),.c (matId_pc m.length (by omega) (by omega)),
  .s (Sp.upto (expFamA m h e k p) 0 k (by omega) (fun x hx hltx=>by
    have w1:=termM_ok (h:=h) ga (show 1 ≤ p by omega) (by omega) x
    have w2:=mulM_ok w1 ga (show 1 ≤ p by omega) (show p ≤ 4096 by omega)
    have w3:=numI_valid (x+1) (by omega)
    have w4:=divI_valid h (numI (((x+1):Nat):Int)) (show 1 ≤ p by omega) (show p ≤ 4096 by omega)
    have w5:=sumM_ok (h:=h) ga (show 1 ≤ p by omega) (by omega) x
    have w6:MOk (scaleM (mulM (termM m h p x) m p) (divI h (numI (((x+1):Nat):Int)) p) p) n n:=scaleM_ok w2 (show 1 ≤ p by omega) (by omega)
    exact spt (chain [tT 65 ((((x+1):Nat):Int) ≤ (k:Int)) (by omega),.c (matMul_pc _ _ _ _ _ _ ‹_› ‹_› (by omega) (by omega):PCt 43 [(matP (termM m h p x)),(matP m),(iP p)] _),
     tB 76 (by decide:((0:Int) != 0)=false),.c (num_pc (x+1) (by omega)),.c (ivDiv_pc h (numI (((x+1):Nat):Int)) p ‹_› ‹_› (by omega) (by omega)),
     .c (matScale_pc _ _ _ _ _ ‹_› ‹_› (by omega) (by omega):PCt 44 [(matP (mulM (termM m h p x) m p)),(ivP (divI h (numI (((x+1):Nat):Int)) p)),(iP p)] _),
     .c (matAdd_pc _ _ _ _ _ ‹_› ‹_› (by omega) (by omega):PCt 47 [(matP (sumM m h p x)),(matP (scaleM (mulM (termM m h p x) m p) (divI h (numI (((x+1):Nat):Int)) p) p)),(iP p)] _),
     tB 93 (by decide:((0:Int) != 0)=false),r64 ((((x+1):Nat):Int)+1) (by omega)] <| .nil) (by kernel_rfl))
  (fun hx=>by
    exact spt (chain [tF 65 ((((k+1):Nat):Int) ≤ (k:Int)) (by omega)] <| .nil) (by kernel_rfl)) (by nofun):LpT 11 Tryz.f12 (expFamA m h e k p 0) (.exit 0) ⟨122,true,[(13,.e (matP (sumM m h p k))),(10,.box 10 0),(3,.e (iP p))],[(10,.cells 28 (ivL e))]⟩) (chain [.o 14 (.int (by first | rfl | omega | (simp only [Nat.add_mul,Nat.one_mul]; omega)):PV.le (.e (iP 1)) (.e (iP (((0+1):Nat):Int))))] <| .nil),
  .y 17 17 true 31 1 (matE ((List.range 0).map (vja0 m h p k e))),
  .s (Sp.upto (expFamB m h e k p) 0 ((sumM m h p k).length) (by omega) (fun x hx hltx=>by
    have lx:=gs.len_at (show x < n by omega)
    exact spt (chain [tT 97 ((x:Int) < (((sumM m h p k).length:Nat):Int)) (by omega),iX ((x:Int)) ((sumM m h p k).length) (by omega),
     .y 20 20 true 28 7 (ivsE ((List.range 0).map (vja1 m h p k x e))),
     .s (Sp.upto (expFamC m h e k p x) 0 (((sumM m h p k).getD x []).length) (by omega) (fun y hy hlty=>by
    have w1:=gs.val_at (show x < n by omega) (show y < n by omega)
    have h1:=one_len (addI (((sumM m h p k).getD x []).getD y wholeI) e p)
    exact spt (chain [tT 103 ((y:Int) < ((((sumM m h p k).getD x []).length:Nat):Int)) (by omega),iX ((y:Int)) (((sumM m h p k).getD x []).length) (by omega),
     .c (ivAdd_pc (((sumM m h p k).getD x []).getD y wholeI) e p ‹_› ‹_› (by omega) (by omega)),
     .o 111 (.e (ivs1_le _):PV.le (.e (.sl true 1 7 fun i_ j_=>(ivL (vja3 m h p k x y e)).getD (i_ * 7+j_) (.v (.bool false)))) (.e (ivsP [(vja3 m h p k x y e)]))),
     .a (by omega:(y + [(addI (((sumM m h p k).getD x []).getD y wholeI) e p)].length) * 88 ≤ 140737488355328),r64 ((y:Int)+1) (by omega)] <| .e (chain [.b 20 (ivs_pushR rfl rfl rfl:Bx.le (.row true 28 (y + [(vja3 m h p k x y e)].length) 7 (fun i_ j_=>if i_ < y then (ivsE ((List.range y).map (vja1 m h p k x e))) i_ j_ else (E.elf (ivsP [(vja3 m h p k x y e)])) (i_ - y) j_)) (.row true 28 (y+1) 7 (ivsE ((List.range (y+1)).map (vja1 m h p k x e)))))] <| .nil)) (by kernel_rfl))
  (fun hy=>by
    exact spt (chain [tF 103 (((((sumM m h p k).getD x []).length:Nat):Int) < ((((sumM m h p k).getD x []).length:Nat):Int)) (by omega),.z 20] <| .e (chain [.o 20 (.e (ivsRow_le (by simp)):PV.le (.e (.sl true (((sumM m h p k).getD x []).length) 7 (ivsE ((List.range (((sumM m h p k).getD x []).length)).map (fun j_=>addI (((sumM m h p k).getD x []).getD j_ wholeI) e p))))) (.e (ivsP ((List.range (((sumM m h p k).getD x []).length)).map (fun j_=>addI (((sumM m h p k).getD x []).getD j_ wholeI) e p)))))] <| .nil)) (by kernel_rfl)) (by nofun):LpT 26 Tryz.f12 (expFamC m h e k p x 0) (.exit 4) ⟨122,true,[(20,.e (vja4 m h p k x e)),(17,.own 17),(96,.e (iP x)),(95,.e (iP (((sumM m h p k).length:Nat):Int))),(94,.e (matP (sumM m h p k))),(10,.box 10 0),(3,.e (iP p))],[(17,.row true 31 x 1 (matE ((List.range x).map (vja0 m h p k e)))),(10,.cells 28 (ivL e))]⟩) .nil,
     .a (by omega:(x+1) * 24 ≤ 140737488355328),r64 ((x:Int)+1) (by omega)] <| .e (chain [.b 17 (mat_pushR rfl rfl rfl (fun j hj=>by cases Nat.lt_one_iff.1 hj; rfl):Bx.le (.row true 31 (x+1) 1 (fun i_ j_=>if i_ < x then (matE ((List.range x).map (vja0 m h p k e))) i_ j_ else (E.elf (.sl true 1 1 fun i_ j_=>[(vja4 m h p k x e)].getD (i_ * 1+j_) (.v (.bool false)))) (i_ - x) j_)) (.row true 31 (x+1) 1 (matE ((List.range (x+1)).map (vja0 m h p k e)))))] <| .nil)) (by kernel_rfl))
  (fun hx=>by
    exact spt (chain [tF 97 ((((sumM m h p k).length:Nat):Int) < (((sumM m h p k).length:Nat):Int)) (by omega),.z 17] <| .e (chain [.o 17 (.e (matRow_le (by simp)):PV.le (.e (.sl true ((sumM m h p k).length) 1 (matE ((List.range ((sumM m h p k).length)).map (fun i_=>(List.range (((sumM m h p k).getD i_ []).length)).map (fun j_=>addI (((sumM m h p k).getD i_ []).getD j_ wholeI) e p)))))) (.e (matP ((List.range ((sumM m h p k).length)).map (fun i_=>(List.range (((sumM m h p k).getD i_ []).length)).map (fun j_=>addI (((sumM m h p k).getD i_ []).getD j_ wholeI) e p))))))] <| .nil)) (by kernel_rfl)) (by nofun):LpT 22 Tryz.f12 (expFamB m h e k p 0) (.exit 2) ⟨122,true,[(17,.e (matP (vja2 m h p k e)))],[]⟩) .nil,
  .c (all_pc (vja2 m h p k e) (by simp; omega) hrows),
  tB 120 (hall:(((vja2 m h p k e)).any fun r=>r.any fun x=>x.all)=false)] <| .nil) (by kernel_rfl)
open Go.RowKit Fp Pu
theorem range_rows {s:List (List Iv)} {e:Iv} {p:Nat}:((List.range (s.length)).map (fun i_=>(List.range ((s.getD i_ []).length)).map (fun j_=>addI ((s.getD i_ []).getD j_ wholeI) e p)))=s.map fun r=>r.map fun x=>addI x e p:=by
 apply List.ext_getElem
 ·simp
 ·intro i h1 h2
  have hi:i < s.length:=by simpa using h2
  simp only [List.getElem_map,List.getElem_range]
  rw [getD_eq_getElem hi]
  apply List.ext_getElem
  ·simp
  ·intro j h3 h4
   have hj:j < s[i].length:=by simpa using h4
   simp only [List.getElem_map,List.getElem_range]
   rw [getD_eq_getElem hj]
theorem exp_pc (m:List (List Iv)) (h:Iv) (n k p:Nat) (ga:MOk m n n) (hh:h.Valid) (hha:h.all=false) (hk1:1 ≤ k) (hk:k ≤ 16) (hp1:8 ≤ p) (hp2:p ≤ 512) :
  (∀ x,expM m h k p=some x → PCt 12 [matP m,ivP h,iP (k:Int),iP (p:Int)] (.tup [matP x,iP 0])) ∧
  (expM m h k p=none → PCt 12 [matP m,ivP h,iP (k:Int),iP (p:Int)] (.tup [.v (.slice none 0 0),iP 15])):=by
 unfold expM
 cases hr:restI m h k p with
 | none=>exact ⟨fun x hx=>(by cases hx),fun _=>exp_no1 m h n k p ga hh hha hk1 hk hp1 hp2 hr⟩
 | some e =>
  rw [Option.bind_some]
  simp only
  cases hall:((sumM m h p k).map fun r=>r.map fun x=>addI x e p).any fun r=>r.any fun x=>x.all with
  | true =>
   rw [if_pos rfl]
   exact ⟨fun x hx=>(by cases hx),fun _=>exp_no2 m h n k p ga hh hha hk1 hk hp1 hp2 e hr (by rw [range_rows]; exact hall)⟩
  | false =>
   rw [if_neg (by decide)]
   refine ⟨fun x hx=>?_,fun hx=>(by cases hx)⟩
   cases hx
   have:=exp_yes m h n k p ga hh hha hk1 hk hp1 hp2 e hr (by rw [range_rows]; exact hall)
   rwa [range_rows] at this
open Go.RowKit Fp Pu
open Go.RowKit Fp Pu
theorem lawD_pc (n e:Int) (h1:n.natAbs < 4294967296) (h2:-1000 ≤ e) (h3:e ≤ 1000):PCt 21 [(iP n),(iP e)] (dyP (canonZ n e)):=by
 have hrg:inRange (canon (Dy.neg (intD n)) (Dy.m (intD n)) ((Dy.e (intD n))+e)):=by rw [canon_again]; exact (canonZ_valid h1 h2 h3).range
 exact tr true Tryz.call21 Tryz.func21 (chain [.c (refIntZ_pc _ (by omega):PCt 70 [(iP n)] _),.c (refScale_pc _ _ (intZ_valid (by omega)) (by omega) (by omega) hrg:PCt 79 [(dyP (intD n)),(iP e)] _)] <| rQ (dyP (canon (Dy.neg (intD n)) (Dy.m (intD n)) ((Dy.e (intD n))+e))) (dyP (canonZ n e)) (by rw [canon_again])) (by kernel_rfl)
theorem lawPoint_pc (n e:Int) (h1:n.natAbs < 4294967296) (h2:-1000 ≤ e) (h3:e ≤ 1000):PCt 10 [(iP n),(iP e)] (ivP (pointI (canonZ n e))):=by
 have hv:=canonZ_valid h1 h2 h3
 exact tr true Tryz.call10 Tryz.func10 (chain [.c (lawD_pc n e (by omega) (by omega) (by omega)),.c (r5Point_pc (canonZ n e))] <| .nil) (by kernel_rfl)
def insI (x y:Iv):Bool:=y.all || (!x.all && (decide (cmpD y.lo x.lo ≤ 0) && decide (cmpD x.hi y.hi ≤ 0)))
theorem ivInside_pc (x y:Iv) (hx:x.Valid) (hy:y.Valid):PCt 38 [(ivP x),(ivP y)] (bP (insI x y)):=by
 obtain ⟨v1,v2⟩:=hx.ends
 obtain ⟨v3,v4⟩:=hy.ends
 exact tr true Tryz.call38 Tryz.func38 (chain [.c (ivValid_pc x ‹_›),.c (ivValid_pc y ‹_›)] <| .w (y.all=true)
  (fun k1=>chain [tB 14 (k1)] <| rQ (bP true) (bP (insI x y)) (by unfold insI; simp [k1]))
  (fun k1=>chain [tB 14 (Bool.eq_false_iff.2 k1)] <| .w (x.all=true)
   (fun k2=>chain [tB 17 (k2)] <| rQ (bP false) (bP (insI x y)) (by unfold insI; simp [k1,k2]))
   (fun k2=>chain [tB 17 (Bool.eq_false_iff.2 k2),.c (dyCmp_pc _ _ ‹_› ‹_›:PCt 82 [(dyP y.lo),(dyP x.lo)] _)] <| .w ((cmpD y.lo x.lo) ≤ 0)
    (fun k3=>chain [tB 25 (decide_eq_true k3),.c (dyCmp_pc _ _ ‹_› ‹_›:PCt 82 [(dyP x.hi),(dyP y.hi)] _)] <| rQ (bP (decide ((cmpD x.hi y.hi) ≤ 0))) (bP (insI x y)) (by unfold insI; simp [k1,k2,k3]))
    (fun k3=>chain [tB 25 (decide_eq_false k3)] <| rQ (bP false) (bP (insI x y)) (by unfold insI; simp [k1,k2,k3]))))) (by kernel_rfl)
open Go.RowKit Fp Pu
theorem expM_ok {m x:List (List Iv)} {h:Iv} {n k p:Nat} (ga:MOk m n n) (hh:h.Valid) (hk:k ≤ 1000) (hp1:8 ≤ p) (hp2:p ≤ 512) (hx:expM m h k p=some x):MOk x n n:=by
 unfold expM at hx
 cases hr:restI m h k p with
 | none=>rw [hr] at hx; cases hx
 | some e =>
  rw [hr,Option.bind_some] at hx
  simp only at hx
  obtain ⟨_,hev,_⟩:=(rest_pc m h n n k p ga hh hk hp1 hp2).1 e hr
  have gs:=sumM_ok (h:=h) (p:=p) ga (by omega) (by omega) k
  split at hx
  ·cases hx
  ·cases hx
   refine ⟨by rw [List.length_map]; exact gs.rows,fun r hr=>?_,fun r hr y hy=>?_,gs.n1,gs.n8,gs.k1,gs.k8⟩
   ·obtain ⟨r',h1,rfl⟩:=List.mem_map.1 hr
    rw [List.length_map]; exact gs.row r' h1
   ·obtain ⟨r',h1,rfl⟩:=List.mem_map.1 hr
    obtain ⟨y',h2,rfl⟩:=List.mem_map.1 hy
    exact addI_valid (gs.ok r' h1 y' h2) hev (by omega) (by omega)
theorem mok_at {m:List (List Iv)} {n k:Nat} (g:MOk m n k) (i j:Nat):((m.getD i []).getD j wholeI).Valid:=by
 by_cases hi:i < m.length
 ·rw [getD_eq_getElem (d:=[]) hi]
  by_cases hj:j < m[i].length
  ·rw [getD_eq_getElem hj]
   exact g.ok _ (List.getElem_mem hi) _ (List.getElem_mem hj)
  ·rw [List.getD_eq_getElem?_getD,List.getElem?_eq_none (by omega)]; exact wholeI_valid
 ·rw [List.getD_eq_getElem?_getD (l:=m),List.getElem?_eq_none (by omega)]
  exact wholeI_valid
open Go.RowKit Fp Pu
open Go.RowKit Fp Pu
def awM:List (List Iv):=[[(pointI (canonZ 0 0)),(pointI (canonZ 1 0))],[(pointI (canonZ 0 0)),(pointI (canonZ 0 0))]]
def awH:Iv:=(pointI (canonZ 1 (-1)))
def awX:List (List Iv):=[[⟨⟨false,562735496296199119,-59⟩,⟨false,590186008310647857,-59⟩,false⟩,⟨⟨false,274505120144487375,-59⟩,⟨false,301955632158936113,-59⟩,false⟩],[⟨⟨true,439208192231179801,-64⟩,⟨false,439208192231179801,-64⟩,false⟩,⟨⟨false,562735496296199119,-59⟩,⟨false,590186008310647857,-59⟩,false⟩]]
theorem awM_ok:MOk awM 2 2 where
 rows:=rfl
 row:=by intro r hr; simp only [awM,List.mem_cons,List.not_mem_nil,or_false] at hr; rcases hr with rfl | rfl <;> rfl
 ok:=by
  intro r hr x hx
  simp only [awM,List.mem_cons,List.not_mem_nil,or_false] at hr
  rcases hr with rfl | rfl <;> simp only [List.mem_cons,List.not_mem_nil,or_false] at hx <;> rcases hx with rfl | rfl <;> exact pointI_valid (canonZ_valid (by decide) (by decide) (by decide))
 n1:=by decide
 n8:=by decide
 k1:=by decide
 k8:=by decide
theorem awH_ok:awH.Valid:=pointI_valid (canonZ_valid (by decide) (by decide) (by decide))
theorem awX_is:expM awM awH 2 60=some awX:=by kernel_rfl
theorem awExp_pc:PCt 12 [matP awM,ivP awH,iP 2,iP 60] (.tup [matP awX,iP 0]) :=
 (exp_pc awM awH 2 2 60 awM_ok awH_ok rfl (by decide) (by decide) (by decide) (by decide)).1 awX awX_is
theorem awX_ok:MOk awX 2 2:=expM_ok awM_ok awH_ok (by decide) (by decide) (by decide) awX_is
def awXx:Iv:=(awX.getD 0 []).getD 1 wholeI
theorem awXx_ok:awXx.Valid:=mok_at awX_ok 0 1
theorem awCmp_pc:PCt 37 [.agg [iP 11,iP 21],dyP awXx.hi] (.tup [iP (ratCmp 11 21 awXx.hi),iP 0]) :=
 ratCompare_pc 11 21 awXx.hi awXx_ok.ends.2 (by decide) (by decide) (by decide) (by decide) (by decide)
theorem mat2_le (a b:List Iv):E.le (.sl true 2 1 fun i_ j_=>[(ivsP a),(ivsP b)].getD (i_ * 1+j_) (.v (.bool false))) (matP [a,b]):=.sl fun i j hi hj=>by
 obtain rfl:j=0:=by omega
 obtain rfl | rfl:i=0 ∨ i=1:=by omega
 ·exact ⟨.refl _,rfl⟩
 ·exact ⟨.refl _,rfl⟩
theorem ivEx_ok:(Iv.mk (canonZ 120 (-8)) (canonZ 135 (-8)) false).Valid:=.inr ⟨rfl,canonZ_valid (n:=120) (e:=-8) (by decide) (by decide) (by decide),canonZ_valid (n:=135) (e:=-8) (by decide) (by decide) (by decide),by decide +kernel⟩
theorem insI_ex:insI awXx (Iv.mk (canonZ 120 (-8)) (canonZ 135 (-8)) false)=true:=by kernel_rfl
set_option maxHeartbeats 1000000 in
theorem awake_pc  : PCt 9 [] (bP true):=by
 have l1:awX.length=2:=rfl
 have l2:(awX.getD 0 []).length=2:=rfl
 exact tr true Tryz.call9 Tryz.func9 (chain [.c (lawPoint_pc 0 0 (by omega) (by omega) (by omega)),.c (lawPoint_pc 1 0 (by omega) (by omega) (by omega)),
  .o 8 (.e (ivs2_le _ _):PV.le (.e (.sl true 2 7 fun i_ j_=>(ivL (pointI (canonZ 0 0)) ++ ivL (pointI (canonZ 1 0))).getD (i_ * 7+j_) (.v (.bool false)))) (.e (ivsP [(pointI (canonZ 0 0)),(pointI (canonZ 1 0))]))),
  .c (lawPoint_pc 0 0 (by omega) (by omega) (by omega)),.c (lawPoint_pc 0 0 (by omega) (by omega) (by omega)),
  .o 11 (.e (ivs2_le _ _):PV.le (.e (.sl true 2 7 fun i_ j_=>(ivL (pointI (canonZ 0 0)) ++ ivL (pointI (canonZ 0 0))).getD (i_ * 7+j_) (.v (.bool false)))) (.e (ivsP [(pointI (canonZ 0 0)),(pointI (canonZ 0 0))]))),
  .o 12 (.e (mat2_le _ _):PV.le (.e (.sl true 2 1 fun i_ j_=>[(ivsP [(pointI (canonZ 0 0)),(pointI (canonZ 1 0))]),(ivsP [(pointI (canonZ 0 0)),(pointI (canonZ 0 0))])].getD (i_ * 1+j_) (.v (.bool false)))) (.e (matP awM))),
  .c (lawPoint_pc 1 (-1) (by omega) (by omega) (by omega)),.c (awExp_pc:PCt 12 [(matP awM),(ivP (pointI (canonZ 1 (-1)))),(iP 2),(iP 60)] _),tB 20 (by decide:((0:Int) != 0)=false),
  tB 24 (by kernel_rfl:((awX.length:Int) != 2)=false),iX (0) (awX.length) (by omega),tB 31 (by kernel_rfl:((((awX.getD 0 []).length:Nat):Int) != 2)=false),iX (0) (awX.length) (by omega),
  iX (1) ((awX.getD 0 []).length) (by omega),.c (awCmp_pc:PCt 37 [(.agg [(iP 11),(iP 21)]),(dyP (((awX.getD 0 []).getD 1 wholeI).hi))] _),tB 45 (by decide:((0:Int) == 0)=true),
  tB 48 (by kernel_rfl:(decide ((ratCmp 11 21 awXx.hi) ≤ 0))=true),iX (0) (awX.length) (by omega),iX (1) ((awX.getD 0 []).length) (by omega),.c (lawD_pc 120 (-8) (by omega) (by omega) (by omega)),
  .c (lawD_pc 135 (-8) (by omega) (by omega) (by omega)),.c (ivInside_pc ((awX.getD 0 []).getD 1 wholeI) (Iv.mk (canonZ 120 (-8)) (canonZ 135 (-8)) false) awXx_ok (ivEx_ok))] <| rQ (bP (insI ((awX.getD 0 []).getD 1 wholeI) (Iv.mk (canonZ 120 (-8)) (canonZ 135 (-8)) false))) (bP true) (congrArg bP insI_ex)) (by kernel_rfl)
open Go.RowKit Fp Pu
open Go.RowKit Fp Pu
open Classical in
noncomputable def Fp.scaleD (d:Dy) (k:Int):Dy:=if inRange (canon d.neg d.m (d.e+k)) then canon d.neg d.m (d.e+k) else zeroD
open Classical in
noncomputable def Fp.scaleE (d:Dy) (k:Int):Int:=if inRange (canon d.neg d.m (d.e+k)) then 0 else 9
theorem scaleD_valid (d:Dy) (k:Int):(scaleD d k).Valid:=by
 unfold scaleD
 split
 ·rename_i h; exact ⟨canon_canon _ _ _,h⟩
 ·exact zeroD_valid
theorem refValid_no (d:Dy) (hd:d.Valid → False) (h1:-10000000 ≤ d.e) (h2:d.e ≤ 10000000):PCt 159 [dyP d] (bP false):=by
 rw [← dyP_raw]
 exact refValidR_pc d.raw ⟨ok_limbs _,by show -9223372036854775808 ≤ d.e; omega,by show d.e ≤ 9223372036854775807; omega⟩ false ⟨fun h=>absurd h (by decide),fun h=>absurd (show d.Valid by have:=RD.Ok.valid h; rwa [Dy.raw_dy] at this) fun q=>hd q⟩
theorem r2Exponent_pc (k:Int) (h1:-32768 ≤ k) (h2:k ≤ 32768):PCt 160 [(iP k)] (bP true):=by
 exact tr true Tryz.call160 Tryz.func160 (chain [tT 4 ((-32768) ≤ k) (by omega),tT 7 (k ≤ 32768) (by omega)] <| .nil) (by kernel_rfl)
theorem r2Checked_yes (d:Dy) (hv:d.Valid):PCt 161 [(dyP d)] (.tup [dyP d,iP 0]):=by
 exact tr true Tryz.call161 Tryz.func161 (chain [.c (refValid_pc _ hv:PCt 159 [(dyP d)] _)] <| .nil) (by kernel_rfl)
theorem r2Checked_no (d:Dy) (hv:d.Valid → False) (h1:-10000000 ≤ d.e) (h2:d.e ≤ 10000000):PCt 161 [(dyP d)] (.tup [dyP zeroD,iP 9]):=by
 exact tr true Tryz.call161 Tryz.func161 (chain [.c (refValid_no _ hv h1 h2:PCt 159 [(dyP d)] _),.o 7 (.e zeroP_le:PV.le (.e (.agg [(bP false),(.v (.slice none 0 0)),(iP 0)])) (.e (dyP zeroD)))] <| .nil) (by kernel_rfl)
theorem r2Scale_pc (d:Dy) (k:Int) (hv:d.Valid) (hk1:-32768 ≤ k) (hk2:k ≤ 32768):PCt 79 [(dyP d),(iP k)] (.tup [dyP (scaleD d k),iP (scaleE d k)]):=by
 have hl:=hv.len
 have he:=hv.exp
 have hck:PCt 161 [dyP (canon d.neg d.m (d.e+k))] (.tup [dyP (scaleD d k),iP (scaleE d k)]):=by
  unfold scaleD scaleE
  by_cases h:inRange (canon d.neg d.m (d.e+k))
  ·rw [if_pos h,if_pos h]; exact r2Checked_yes _ ⟨canon_canon _ _ _,h⟩
  ·rw [if_neg h,if_neg h]
   have hb:=canon_exp (ok_limbs d.m) (show (limbs d.m).length ≤ 256 by omega) d.neg (d.e+k) (by omega) (by omega)
   rw [val_limbs] at hb
   exact r2Checked_no _ (fun hv=>h hv.range) (by omega) (by omega)
 exact tr true Tryz.call79 Tryz.func79 (chain [.c (refValid_pc _ hv:PCt 159 [(dyP d)] _),.c (r2Exponent_pc k (by omega) (by omega)),r64 (d.e+k) (by omega),.c (refOf_pc _ _ _ (by omega) (by omega) (by omega):PCt 155 [(bP d.neg),(slP (limbs d.m)),(iP (d.e+k))] _),
  .c (hck:PCt 161 [(dyP (canon d.neg d.m (d.e+k)))] _)] <| .nil) (by kernel_rfl)
open Go.RowKit Fp Pu
open Go.RowKit Fp Pu
section
variable (a b c t:Rat)
end
open Go.RowKit Fp Pu
theorem wrap_small (z:Int) (h1:-9223372036854775808 ≤ z) (h2:z ≤ 9223372036854775807):IntKind.i64.wrap z=z:=wrap_rng (k:=.i64) ⟨h1,h2⟩
set_option maxHeartbeats 1000000 in
theorem scaled_pc (n:Int) (h1:-128 ≤ n) (h2:n ≤ 127):PCt 11 [(.v (.int .i8 n))] (ivP (pointI (canonZ n (-4)))):=by
 exact tr true Tryz.call11 Tryz.func11 (chain [.o 4 (.int (wrap_small _ (by omega) (by omega)):PV.le (.e (iP (IntKind.i64.wrap n))) (.e (iP n))),.c (lawPoint_pc n (-4) (by omega) (by omega) (by omega))] <| .nil) (by kernel_rfl)
theorem mulB {x y:Int} {B:Int} (h1:-B ≤ x) (h2:x ≤ B) (h3:-128 ≤ y) (h4:y ≤ 127):-(B * 128) ≤ x * y ∧ x * y ≤ B * 128:=by
 have hB:0 ≤ B:=by omega
 have k:x.natAbs * y.natAbs ≤ B.natAbs * 128:=Nat.mul_le_mul (by omega) (by omega)
 have e:(x * y).natAbs=x.natAbs * y.natAbs:=Int.natAbs_mul x y
 omega
theorem mul8 {x y:Int} (h1:-128 ≤ x) (h2:x ≤ 127) (h3:-128 ≤ y) (h4:y ≤ 127):-16384 ≤ x * y ∧ x * y ≤ 16384:=mulB (B:=128) h1 (by omega) h3 h4
theorem scale_q (n:Int) (e:Int):(canonZ n e).q=(n:Rat) * P2 e:=by
 rw [q_at (k:=e) (above_canonZ (Int.le_refl e)),num_canonZ (Int.le_refl e)]
 simp
theorem scale_has (n:Int) (e:Int):(pointI (canonZ n e)).has ((n:Rat) * P2 e):=by have:=pointI_has (canonZ n e); rwa [scale_q] at this
theorem mok_of {M:List (List Iv)} {n k:Nat} (h1:1 ≤ n) (h2:n ≤ 8) (h3:1 ≤ k) (h4:k ≤ 8) (hr:M.length=n) (hv:∀ r,r ∈ M → r.length=k ∧ ∀ x,x ∈ r → x.Valid):MOk M n k:=⟨hr,fun r h=>(hv r h).1,fun r h=>(hv r h).2,h1,h2,h3,h4⟩
open Go.RowKit Fp Pu
noncomputable def Fp.scaleI (x:Iv) (k:Int):Iv:=if x.all then wholeI else madeI (scaleD x.lo k) (scaleE x.lo k) (scaleD x.hi k) (scaleE x.hi k)
def Fp.aroundI (x:Iv):Iv:=if x.all then x else ⟨negD (magI x),magI x,false⟩
def Fp.pow2 (n:Int):Dy:=canon false 1 n
def e9T (y:Iv):Nat → Iv
 | 0=>numI 1
 | j+1=>divI (mulI (e9T y j) y 320) (numI ((j+1:Nat):Int)) 320
def e9S (y:Iv):Nat → Iv
 | 0=>numI 1
 | j+1=>addI (e9S y j) (e9T y (j+1)) 320
def e9R (y:Iv):Iv:=addI (e9S y 20) (aroundI (mulI (divI (mulI (e9T y 20) y 320) (numI 21) 320) (numI 2) 320)) 320
def e9Q (y:Iv):Nat → Iv
 | 0=>e9R y
 | j+1=>mulI (e9Q y j) (e9Q y j) 320
def e9FA (d:Dy) (K:Nat) (y:Iv) (x:Nat):PS:=⟨57,true,[(7,.e (iP (((x+1):Nat):Int))),(6,.box 6 0),(5,.box 5 0),(4,.box 4 0),(3,.e (iP K)),(2,.box 2 0)],[(6,.cells 28 (ivL (e9T y x))),(5,.cells 28 (ivL (e9S y x))),(4,.cells 28 (ivL y)),(2,.cells 28 [(bP false),(.v (.slice none 0 0)),(iP 0),(bP false),(.v (.slice none 0 0)),(iP 0),(bP false)])]⟩
def e9FB (d:Dy) (K:Nat) (y:Iv) (x:Nat):PS:=⟨57,true,[(8,.e (iP x)),(5,.box 5 0),(3,.e (iP K)),(2,.box 2 0)],[(5,.cells 28 (ivL (e9Q y x))),(2,.cells 28 [(bP false),(.v (.slice none 0 0)),(iP 0),(bP false),(.v (.slice none 0 0)),(iP 0),(bP false)])]⟩
theorem numZ_valid {n:Int} (h:n.natAbs < 4294967296):(numI n).Valid:=pointI_valid (intZ_valid h)
theorem aroundI_valid {x:Iv} (hx:x.Valid):(aroundI x).Valid:=by
 unfold aroundI
 cases hxa:x.all
 ·have he:=hx.ends
  have hm:=magI_valid he.1 he.2
  simp only [Bool.false_eq_true,if_false]
  refine .inr ⟨rfl,negD_valid hm,hm,?_⟩
  show cmpD (negD (magI x)) (magI x) ≤ 0
  rw [q_le,q_neg]
  obtain ⟨a1,a2,_⟩:=magI_q hx.q
  have:=hx.q
  grind
 ·exact hx
theorem scaleE_ok {d:Dy} {k:Int} (h:scaleE d k=0):scaleD d k=canon d.neg d.m (d.e+k):=by
 unfold scaleE at h
 unfold scaleD
 split at h
 ·rename_i h1; rw [if_pos h1]
 ·cases h
theorem scaleD_q {d:Dy} {k:Int} (h:scaleE d k=0):(scaleD d k).q=d.q * P2 k:=by
 rw [scaleE_ok h,q_canon,q_of d,P2_add]
 cases d.neg <;> simp <;> grind
theorem scaleI_valid {x:Iv} (hx:x.Valid) (k:Int):(scaleI x k).Valid:=by
 unfold scaleI
 split
 ·exact wholeI_valid
 ·unfold madeI
  split
  ·exact wholeI_valid
  ·rename_i h
   refine .inr ⟨rfl,scaleD_valid _ _,scaleD_valid _ _,?_⟩
   rw [q_le,scaleD_q (by omega),scaleD_q (by omega),mul_P2_le]
   exact hx.q
theorem scaleI_has {x:Iv} {r:Rat} (h:x.has r) (k:Int):(scaleI x k).has (r * P2 k):=by
 unfold scaleI
 split
 ·exact .inl rfl
 ·rename_i ha
  unfold madeI
  split
  ·exact .inl rfl
  ·obtain ⟨h1,h2⟩:=h.ends (by simpa using ha)
   refine .inr ⟨?_,?_⟩
   ·show (scaleD x.lo k).q ≤ _
    rw [scaleD_q (by omega),mul_P2_le]; exact h1
   ·show _ ≤ (scaleD x.hi k).q
    rw [scaleD_q (by omega),mul_P2_le]; exact h2
theorem pow2_valid {n:Int} (h1:-1000 ≤ n) (h2:n ≤ 1000):(pow2 n).Valid:=by
 have:=canonZ_valid (n:=1) (e:=n) (by decide) h1 h2
 exact this
set_option maxHeartbeats 1000000 in
theorem r5Scale_pc (x:Iv) (k:Int) (hx:x.Valid) (hk1:-32768 ≤ k) (hk2:k ≤ 32768):PCt 85 [(ivP x),(iP k)] (ivP (scaleI x k)):=by
 obtain ⟨w1,w2⟩:=hx.ends
 exact tr true Tryz.call85 Tryz.func85 (chain [.c (r5Known_pc x ‹_›)] <| .w (x.all=true)
  (fun k1=>chain [tB 10 (bnt k1),.c r5Whole_pc] <| rQ (ivP wholeI) (ivP (scaleI x k)) (by unfold scaleI; simp [k1]))
  (fun k1=>chain [tB 10 (bnf (Bool.eq_false_iff.2 k1)),tF 14 (k < (-32768)) (by omega),tF 18 (32768 < k) (by omega),.c (r2Scale_pc x.lo k w1 (by omega) (by omega)),.c (r2Scale_pc x.hi k w2 (by omega) (by omega)),
   .c (r5Made_pc (scaleD x.lo k) (scaleD x.hi k) (scaleE x.lo k) (scaleE x.hi k))] <| rQ (ivP (madeI (scaleD x.lo k) (scaleE x.lo k) (scaleD x.hi k) (scaleE x.hi k))) (ivP (scaleI x k)) (by unfold scaleI; simp [k1]))) (by kernel_rfl)
set_option maxHeartbeats 1000000 in
theorem r5Square_pc (x:Iv) (p:Nat) (hx:x.Valid) (hp1:8 ≤ p) (hp2:p ≤ 512):PCt 235 [(ivP x),(iP p)] (ivP (mulI (absI x) (absI x) p)):=by
 exact tr true Tryz.call235 Tryz.func235 (chain [.c (r5Abs_pc x ‹_›),.c (r5Mul_pc (absI x) (absI x) p (absI_valid ‹_›) (absI_valid ‹_›) (by omega) (by omega))] <| .nil) (by kernel_rfl)
set_option maxHeartbeats 1000000 in
theorem r9Num_pc (n:Int) (h:n.natAbs < 4294967296):PCt 83 [(iP n)] (ivP (numI n)):=by
 exact tr true Tryz.call83 Tryz.func83 (chain [.c (refIntZ_pc _ (by omega):PCt 70 [(iP n)] _),.c (r5Point_pc (intD n))] <| rR (ivP (numI n)) (.of_eq rfl:E.le (ivP (pointI (intD n))) (ivP (numI n)))) (by kernel_rfl)
set_option maxHeartbeats 1000000 in
theorem r10Whole_pc (n:Int) (h:n.natAbs < 4294967296):PCt 93 [(iP n)] (ivP (numI n)):=by
 exact tr true Tryz.call93 Tryz.func93 (chain [.c (refIntZ_pc _ (by omega):PCt 70 [(iP n)] _),.c (r5Point_pc (intD n))] <| rR (ivP (numI n)) (.of_eq rfl:E.le (ivP (pointI (intD n))) (ivP (numI n)))) (by kernel_rfl)
set_option maxHeartbeats 1000000 in
theorem r2Make_pow (n:Int) (h1:-1000 ≤ n) (h2:n ≤ 1000):PCt 203 [(bP false),(slP (limbs 1)),(iP n)] (.tup [dyP (pow2 n),iP 0]):=by
 have hv:=pow2_valid h1 h2
 exact tr true Tryz.call203 Tryz.func203 (chain [tB 10 (by rw [limbs_one]; decide:(decide (256 < (((limbs 1).length:Nat):Int)))=false),.c (r2Exponent_pc n (by omega) (by omega)),
  .c (refOf_pc _ _ _ (by rw [limbs_one]; decide) (by omega) (by omega):PCt 155 [(bP false),(slP (limbs 1)),(iP n)] _),.c (r2Checked_yes (pow2 n) hv)] <| .nil) (by kernel_rfl)
set_option maxHeartbeats 1000000 in
theorem r10Power_pc (n:Int) (h1:-1000 ≤ n) (h2:n ≤ 1000):PCt 166 [(iP n)] (dyP (pow2 n)):=by
 exact tr true Tryz.call166 Tryz.func166 (chain [.o 6 (.e one_le:PV.le (.e (.sl false 1 1 fun i_ j_=>[(.v (.int .u32 1))].getD (i_ * 1+j_) (.v (.bool false)))) (.e (slP (limbs 1)))),.c (r2Make_pow n (by omega) (by omega))] <| .nil) (by kernel_rfl)
set_option maxHeartbeats 1000000 in
theorem r10Around_pc (d:Dy):PCt 94 [(dyP d)] (ivP ⟨negD d,d,false⟩):=by
 exact tr true Tryz.call94 Tryz.func94 (chain [.c (refNeg_pc _:PCt 72 [(dyP d)] _)] <| .nil) (by kernel_rfl)
set_option maxHeartbeats 1000000 in
theorem r10Below_pc (x:Iv) (n:Int) (hx:x.Valid) (ha:x.all=false) (h1:-1000 ≤ n) (h2:n ≤ 1000):PCt 204 [(ivP x),(iP n)] (bP (decide (cmpD (magI x) (pow2 n) < 0))):=by
 have hm1:=magI_valid hx.ends.1 hx.ends.2
 have hm2:=pow2_valid h1 h2
 exact tr true Tryz.call204 Tryz.func204 (chain [.c (r5Mag_pc x hx ha),.c (r10Power_pc n (by omega) (by omega)),.c (refCmp_pc (magI x) (pow2 n) hm1.near hm2.near)] <| .nil) (by kernel_rfl)
set_option maxHeartbeats 1000000 in
theorem r9Add_pc (x y:Iv) (hx:x.Valid) (hy:y.Valid):PCt 88 [(ivP x),(ivP y)] (ivP (addI x y 320)):=by
 exact tr true Tryz.call88 Tryz.func88 (chain [.c (r5Add_pc x y 320 ‹_› ‹_› (by omega) (by omega))] <| .nil) (by kernel_rfl)
set_option maxHeartbeats 1000000 in
theorem r9Mul_pc (x y:Iv) (hx:x.Valid) (hy:y.Valid):PCt 87 [(ivP x),(ivP y)] (ivP (mulI x y 320)):=by
 exact tr true Tryz.call87 Tryz.func87 (chain [.c (r5Mul_pc x y 320 ‹_› ‹_› (by omega) (by omega))] <| .nil) (by kernel_rfl)
set_option maxHeartbeats 1000000 in
theorem r9Div_pc (x y:Iv) (hx:x.Valid) (hy:y.Valid):PCt 86 [(ivP x),(ivP y)] (ivP (divI x y 320)):=by
 exact tr true Tryz.call86 Tryz.func86 (chain [.c (r5Div_pc x y 320 ‹_› ‹_› (by omega) (by omega))] <| .nil) (by kernel_rfl)
set_option maxHeartbeats 1000000 in
theorem r9Around_pc (x:Iv) (hx:x.Valid):PCt 89 [(ivP x)] (ivP (aroundI x)):=by
 exact tr true Tryz.call89 Tryz.func89 (.w (x.all=true)
  (fun k1=>chain [tB 5 (k1)] <| rQ (ivP x) (ivP (aroundI x)) (by unfold aroundI; simp [k1]))
  (fun k1=>chain [tB 5 (Bool.eq_false_iff.2 k1),.c (r5Mag_pc x hx (Bool.eq_false_iff.2 ‹_›)),.c (refNeg_pc _:PCt 72 [(dyP (magI x))] _)] <| rQ (ivP (Iv.mk (negD (magI x)) (magI x) false)) (ivP (aroundI x)) (by unfold aroundI; simp [k1]))) (by kernel_rfl)
theorem e9T_valid (y:Iv):∀ j,(e9T y j).Valid
 | 0=>numI_valid 1 (by decide)
 | j+1=>divI_valid _ _ (by decide) (by decide)
theorem e9S_valid (y:Iv):∀ j,(e9S y j).Valid
 | 0=>numI_valid 1 (by decide)
 | j+1=>addI_valid (e9S_valid y j) (e9T_valid y (j+1)) (by decide) (by decide)
theorem e9Q_valid (y:Iv):∀ j,(e9Q y j).Valid
 | 0=>addI_valid (e9S_valid y 20) (aroundI_valid (mulI_valid _ _ (by decide) (by decide))) (by decide) (by decide)
 | j+1=>mulI_valid _ _ (by decide) (by decide)
set_option maxHeartbeats 1000000 in
theorem r9Exp_zero (d:Dy) (h:d.m=0):PCt 23 [(dyP d)] (ivP (numI 1)):=by
 exact tr true Tryz.call23 Tryz.func23 (chain [tB 12 (natZ_true (limbs_len0.2 h):((((limbs d.m).length:Nat):Int) == 0)=true),.c (r9Num_pc 1 (by omega))] <| .nil) (by kernel_rfl)
set_option maxHeartbeats 1000000 in
theorem r9Exp_pos (d:Dy) (hd:d.Valid) (h:d.m ≠ 0) (K:Nat) (hK:max 0 (d.top+16)=(K:Int)) (y:Iv) (hy:(scaleI (pointI d) (0 - (K:Int)))=y):PCt 23 [(dyP d)] (ivP (e9Q y K)):=by
 have hT:=top_of h
 have hbits:=hd.bits
 have hexp:=hd.exp
 have vy:y.Valid:=by rw [← hy]; exact scaleI_valid (pointI_valid hd) _
 exact tr true Tryz.call23 Tryz.func23 (chain [tB 12 (natZ_false (fun q=>h (limbs_len0.1 q)):((((limbs d.m).length:Nat):Int) == 0)=false),.c (refTop_pc _ hd.near:PCt 84 [(dyP d)] _),r64 ((Dy.top d)+16) (by omega),
  .o 17 (.int (by omega):PV.le (.e (iP (if ((Dy.top d)+16) > 0 then ((Dy.top d)+16) else 0))) (.e (iP K))),.c (r5Point_pc d),r64 (0 - (K:Int)) (by omega),
  .c (r5Scale_pc (pointI d) (0 - (K:Int)) (pointI_valid hd) (by omega) (by omega)),.o 22 (.e (.of_eq (by rw [hy])):PV.le (.e (ivP (scaleI (pointI d) (0 - (K:Int))))) (.e (ivP y))),.c (r9Num_pc 1 (by omega)),
  .c (r9Num_pc 1 (by omega)),
  .s (Sp.upto (e9FA d K y) 0 20 (by omega) (fun x hx hltx=>by
    exact spt (chain [tT 26 ((((x+1):Nat):Int) ≤ 20) (by omega),.c (r9Mul_pc (e9T y x) y (e9T_valid _ _) ‹_›),.c (r9Num_pc (((x+1):Nat):Int) (by omega)),
     .c (r9Div_pc (mulI (e9T y x) y 320) (numI (((x+1):Nat):Int)) (mulI_valid _ _ (by decide) (by decide)) (numZ_valid (by omega))),
     .c (r9Add_pc (e9S y x) (divI (mulI (e9T y x) y 320) (numI (((x+1):Nat):Int)) 320) (e9S_valid _ _) (divI_valid _ _ (by decide) (by decide))),r64 ((((x+1):Nat):Int)+1) (by omega)] <| .e (chain [.b 6 (.of_eq rfl:Bx.le (.cells 28 (ivL (divI (mulI (e9T y x) y 320) (numI (((x+1):Nat):Int)) 320))) (.cells 28 (ivL (e9T y (x+1))))),
  .b 5 (.of_eq rfl:Bx.le (.cells 28 (ivL (addI (e9S y x) (divI (mulI (e9T y x) y 320) (numI (((x+1):Nat):Int)) 320) 320))) (.cells 28 (ivL (e9S y (x+1)))))] <| .nil)) (by kernel_rfl))
  (fun hx=>by
    exact spt (chain [tF 26 ((((20+1):Nat):Int) ≤ 20) (by omega)] <| .nil) (by kernel_rfl)) (by nofun):LpT 7 Tryz.f23 (e9FA d K y 0) (.exit 0) ⟨57,true,[(6,.box 6 0),(5,.box 5 0),(4,.box 4 0),(3,.e (iP K)),(2,.box 2 0)],[(6,.cells 28 (ivL (e9T y 20))),(5,.cells 28 (ivL (e9S y 20))),(4,.cells 28 (ivL y)),(2,.cells 28 [(bP false),(.v (.slice none 0 0)),(iP 0),(bP false),(.v (.slice none 0 0)),(iP 0),(bP false)])]⟩) (chain [.o 7 (.int (by first | rfl | omega | (simp only [Nat.add_mul,Nat.one_mul]; omega)):PV.le (.e (iP 1)) (.e (iP (((0+1):Nat):Int)))),.b 6 (.of_eq rfl:Bx.le (.cells 28 (ivL (numI 1))) (.cells 28 (ivL (e9T y 0)))),
  .b 5 (.of_eq rfl:Bx.le (.cells 28 (ivL (numI 1))) (.cells 28 (ivL (e9S y 0))))] <| .nil),
  .c (r9Mul_pc (e9T y 20) y (e9T_valid _ _) ‹_›),.c (r9Num_pc 21 (by omega)),.c (r9Div_pc (mulI (e9T y 20) y 320) (numI 21) (mulI_valid _ _ (by decide) (by decide)) (numZ_valid (by omega))),.c (r9Num_pc 2 (by omega)),
  .c (r9Mul_pc (divI (mulI (e9T y 20) y 320) (numI 21) 320) (numI 2) (divI_valid _ _ (by decide) (by decide)) (numZ_valid (by omega))),
  .c (r9Around_pc (mulI (divI (mulI (e9T y 20) y 320) (numI 21) 320) (numI 2) 320) (mulI_valid _ _ (by decide) (by decide))),
  .c (r9Add_pc (e9S y 20) (aroundI (mulI (divI (mulI (e9T y 20) y 320) (numI 21) 320) (numI 2) 320)) (e9S_valid _ _) (aroundI_valid (mulI_valid _ _ (by decide) (by decide)))),
  .s (Sp.upto (e9FB d K y) 0 K (by omega) (fun x hx hltx=>by
    exact spt (chain [tT 50 ((x:Int) < (K:Int)) (by omega),.c (r9Mul_pc (e9Q y x) (e9Q y x) (e9Q_valid _ _) (e9Q_valid _ _)),r64 ((x:Int)+1) (by omega)] <| .e (chain [.b 5 (.of_eq rfl:Bx.le (.cells 28 (ivL (mulI (e9Q y x) (e9Q y x) 320))) (.cells 28 (ivL (e9Q y (x+1)))))] <| .nil)) (by kernel_rfl))
  (fun hx=>by
    exact spt (chain [tF 50 ((K:Int) < (K:Int)) (by omega)] <| .nil) (by kernel_rfl)) (by nofun):LpT 13 Tryz.f23 (e9FB d K y 0) (.exit 2) ⟨57,true,[(5,.box 5 0),(2,.box 2 0)],[(5,.cells 28 (ivL (e9Q y K))),(2,.cells 28 [(bP false),(.v (.slice none 0 0)),(iP 0),(bP false),(.v (.slice none 0 0)),(iP 0),(bP false)])]⟩) (chain [.b 5 (.of_eq rfl:Bx.le (.cells 28 (ivL (addI (e9S y 20) (aroundI (mulI (divI (mulI (e9T y 20) y 320) (numI 21) 320) (numI 2) 320)) 320))) (.cells 28 (ivL (e9Q y 0))))] <| .nil)] <| .nil) (by kernel_rfl)
open Go.RowKit Fp Pu
open Go.RowKit Fp Pu
open Go.RowKit Fp Pu
open Go.RowKit Fp Pu
open Go.RowKit Fp Pu
open Go.RowKit Fp Pu
open Go.RowKit Fp Pu
def meetP (x y:Iv):Prop:=x.all=true ∨ y.all=true ∨ (cmpD x.lo y.hi ≤ 0 ∧ cmpD y.lo x.hi ≤ 0)
def meetI (x y:Iv):Iv:=if x.all then y else if y.all then x else ⟨maxD x.lo y.lo,minD x.hi y.hi,false⟩
theorem meet_cmp {x y:Iv} (hx:x.Valid) (hy:y.Valid) (h:meetP x y) (xa:x.all=false) (ya:y.all=false):cmpD (maxD x.lo y.lo) (minD x.hi y.hi) ≤ 0:=by
 have h1:=hx.q
 have h2:=hy.q
 rcases h with h | h | ⟨h3,h4⟩
 ·rw [h] at xa; cases xa
 ·rw [h] at ya; cases ya
 ·rw [q_le] at h3 h4 ⊢
  obtain ⟨_,_,a⟩:=q_max x.lo y.lo
  obtain ⟨_,_,b⟩:=q_min x.hi y.hi
  rcases a with a | a <;> rcases b with b | b <;> rw [a,b] <;> assumption
set_option maxHeartbeats 1000000 in
theorem ivMeet_yes (x y:Iv) (hx:x.Valid) (hy:y.Valid) (hm:meetP x y):PCt 22 [(ivP x),(ivP y)] (.tup [(ivP (meetI x y)),(bP true)]):=by
 obtain ⟨w1,w2⟩:=hx.ends
 obtain ⟨w3,w4⟩:=hy.ends
 exact tr true Tryz.call22 Tryz.func22 (chain [.c (ivValid_pc x ‹_›),.c (ivValid_pc y ‹_›)] <| .w (x.all=true)
  (fun k1=>chain [tB 19 (k1)] <| rQ (.tup [(ivP y),(bP true)]) (.tup [(ivP (meetI x y)),(bP true)]) (by unfold meetI; simp [k1]))
  (fun k1=>chain [tB 19 (Bool.eq_false_iff.2 k1)] <| .w (y.all=true)
   (fun k2=>chain [tB 23 (k2)] <| rQ (.tup [(ivP x),(bP true)]) (.tup [(ivP (meetI x y)),(bP true)]) (by unfold meetI; simp [k1,k2]))
   (fun k2=>by
    have hmc:=meet_cmp hx hy hm (Bool.eq_false_iff.2 k1) (Bool.eq_false_iff.2 k2)
    exact chain [tB 23 (Bool.eq_false_iff.2 k2),.c (ivMore_pc x.lo y.lo ‹_› ‹_›),.c (ivLess_pc x.hi y.hi ‹_› ‹_›),
     .c (dyCmp_pc _ _ (maxD_valid w1 w3) (minD_valid w2 w4):PCt 82 [(dyP (maxD x.lo y.lo)),(dyP (minD x.hi y.hi))] _)] <| .w (0 < (cmpD (maxD x.lo y.lo) (minD x.hi y.hi)))
     (fun k3=>.x (by exact absurd hmc (by omega)))
     (fun k3=>chain [tB 41 (decide_eq_false k3)] <| rQ (.tup [(ivP (Iv.mk (maxD x.lo y.lo) (minD x.hi y.hi) false)),(bP true)]) (.tup [(ivP (meetI x y)),(bP true)]) (by unfold meetI; simp [k1,k2]))))) (by kernel_rfl)
theorem meetP_of {W Z:Iv} (h:W.all=false → Z.all=false → W.lo.q ≤ Z.hi.q ∧ Z.lo.q ≤ W.hi.q):meetP W Z:=by
 unfold meetP
 cases hw:W.all
 ·cases hz:Z.all
  ·exact .inr (.inr ⟨(q_le _ _).2 (h hw hz).1,(q_le _ _).2 (h hw hz).2⟩)
  ·exact .inr (.inl rfl)
 ·exact .inl rfl
open Go.RowKit Fp Pu
def Lim (f:Nat → Rat) (X:Iv):Prop:=∀ ε,0 < ε → ∃ N0,∀ N,N0 ≤ N → ∃ r,X.has r ∧ absQ (f N - r) ≤ ε
theorem Lim.of_has {f:Nat → Rat} {X:Iv} {k:Nat} (h:∀ N,k ≤ N → X.has (f N)):Lim f X:=fun ε hε =>
 ⟨k,fun N hN=>⟨f N,h N hN,by rw [Rat.sub_self,absQ_zero]; exact Rat.le_of_lt hε⟩⟩
theorem Lim.all {f:Nat → Rat} {X:Iv} (h:X.all=true):Lim f X:=Lim.of_has (k:=0) fun _ _=>.inl h
theorem Lim.shift {f g:Nat → Rat} {X:Iv} (h:Lim f X) (k:∀ ε,0 < ε → ∃ N0,∀ N,N0 ≤ N → absQ (g N - f N) ≤ ε):Lim g X:=fun ε hε=>by
 obtain ⟨N1,h1⟩:=h (ε / 2) (by grind)
 obtain ⟨N2,h2⟩:=k (ε / 2) (by grind)
 refine ⟨max N1 N2,fun N hN=>?_⟩
 obtain ⟨r,hr,hd⟩:=h1 N (by omega)
 have hg:=h2 N (by omega)
 refine ⟨r,hr,?_⟩
 have:=absQ_add (g N - f N) (f N - r)
 rw [show g N - f N+(f N - r)=g N - r by grind] at this
 grind
theorem Lim.meet {f:Nat → Rat} {W R:Iv} {k:Nat} (hW:∀ N,k ≤ N → W.has (f N)) (hR:Lim f R):meetP W R:=by
 refine meetP_of fun wa ra=>?_
 have key:∀ ε,0 < ε → W.lo.q ≤ R.hi.q+ε ∧ R.lo.q ≤ W.hi.q+ε:=by
  intro ε hε
  obtain ⟨N0,h0⟩:=hR ε hε
  obtain ⟨r,hr,hd⟩:=h0 (max N0 k) (by omega)
  obtain ⟨w1,w2⟩:=(hW (max N0 k) (by omega)).ends wa
  obtain ⟨r1,r2⟩:=hr.ends ra
  obtain ⟨_,a2,a3,_⟩:=absQ_spec (f (max N0 k) - r)
  constructor <;> grind
 constructor
 ·apply Rat.not_lt.1; intro hlt
  have:=(key ((W.lo.q - R.hi.q) / 2) (by grind)).1
  grind
 ·apply Rat.not_lt.1; intro hlt
  have:=(key ((R.lo.q - W.hi.q) / 2) (by grind)).2
  grind
theorem Lim.sq {f:Nat → Rat} {X:Iv} (hx:X.Valid) (h:Lim f X) {p:Nat} (hp:1 ≤ p) (hp2:p ≤ 4096):Lim (fun N=>f N * f N) (mulI X X p):=by
 cases xa:X.all
 ·intro ε hε
  obtain ⟨B,hB⟩:∃ B,B=absQ X.lo.q+absQ X.hi.q+1:=⟨_,rfl⟩
  have a0:=absQ_spec X.lo.q
  have b0:=absQ_spec X.hi.q
  have hB1:1 ≤ B:=by grind
  have hBp:0 < 2 * B:=by grind
  obtain ⟨δ,hδ⟩:∃ δ,δ=min 1 (ε / (2 * B)):=⟨_,rfl⟩
  have hεB:0 < ε / (2 * B):=by rw [Rat.div_def]; exact Rat.mul_pos hε (Rat.inv_pos.2 hBp)
  have hδ0:0 < δ:=by rw [hδ]; grind
  have hδ1:δ ≤ 1:=by rw [hδ]; grind
  have hδ2:δ * (2 * B) ≤ ε:=by
   have h1:δ ≤ ε / (2 * B):=by rw [hδ]; grind
   have h2:=Rat.mul_le_mul_of_nonneg_right h1 (Rat.le_of_lt hBp)
   rwa [Rat.div_mul_cancel (by grind)] at h2
  obtain ⟨N0,h0⟩:=h δ hδ0
  refine ⟨N0,fun N hN=>?_⟩
  obtain ⟨r,hr,hd⟩:=h0 N hN
  refine ⟨r * r,mulI_has hx hx hp hp2 hr hr,?_⟩
  obtain ⟨r1,r2⟩:=hr.ends xa
  rw [show f N * f N - r * r=(f N - r) * (f N+r) by grind,absQ_mul]
  have hs:absQ (f N+r) ≤ 2 * B:=by
   obtain ⟨_,c2,c3,_⟩:=absQ_spec (f N - r)
   exact absQ_le (by grind) (by grind)
  have h3:=Rat.mul_le_mul_of_nonneg_left hs (absQ_spec (f N - r)).1
  have h4:=Rat.mul_le_mul_of_nonneg_right hd (Rat.le_of_lt hBp)
  grind
 ·exact Lim.all (by rw [mulI_wh p (.inl xa)]; rfl)
def EQ (c:Rat) (N:Nat):Rat:=sumQ (eQ c) (N+1)
theorem one_MP (j:Nat):MP 1 (fun _ _=>1) j 0 0=1:=by
 induction j with
 | zero=>rfl
 | succ j ih =>
  show sumQ (fun q=>MP 1 (fun _ _=>1) j 0 q * 1) 1=1
  simp only [sumQ]
  rw [ih]; grind
theorem EQ_SQ (c:Rat) (N:Nat):SQ 1 (fun _ _=>1) c N 0 0=EQ c N:=by
 rw [SQ_MP]
 exact sumQ_congr _ fun j _=>by rw [one_MP]; grind
theorem EQ_add (a b:Rat) {ε:Rat} (hε:0 < ε):∃ N0,∀ N,N0 ≤ N → absQ (EQ (a+b) N - EQ a N * EQ b N) ≤ ε:=by
 obtain ⟨N0,h0⟩:=group_lim 1 (fun _ _=>1) a b hε
 refine ⟨N0,fun N hN=>?_⟩
 have:=h0 N hN 0 0 (by decide) (by decide)
 rw [show mulQ 1 (SQ 1 (fun _ _=>1) b N) (SQ 1 (fun _ _=>1) a N) 0 0=EQ a N * EQ b N by
  show sumQ (fun q=>SQ 1 (fun _ _=>1) b N 0 q * SQ 1 (fun _ _=>1) a N q 0) 1=_
  simp only [sumQ]
  rw [EQ_SQ,EQ_SQ]; grind,EQ_SQ] at this
 obtain ⟨_,a2,a3,_⟩:=absQ_spec (EQ a N * EQ b N - EQ (a+b) N)
 exact absQ_le (by grind) (by grind)
theorem EQ_zero (N:Nat):EQ 0 N=1:=by
 rw [← EQ_SQ,SQ_zero]; rfl
theorem e9T_has {y:Iv} {r:Rat} (hy:y.Valid) (h:y.has r):∀ j,j < 4294967296 → (e9T y j).has (eQ r j)
 | 0,_=>numI_has 1
 | j+1,hj=>by
  have e:eQ r (j+1)=eQ r j * r / ((j+1:Nat):Rat):=by simp only [eQ,Rat.div_def]; grind
  rw [e]
  exact divI_has (mulI_valid _ _ (by decide) (by decide)) (numI_val (j+1) hj) (by decide) (by decide) (mulI_has (e9T_valid y j) hy (by decide) (by decide) (e9T_has hy h j (by omega)) h) (numN_has (j+1))
theorem e9S_has {y:Iv} {r:Rat} (hy:y.Valid) (h:y.has r):∀ j,j < 4294967296 → (e9S y j).has (EQ r j)
 | 0,_=>by
  have:EQ r 0=1:=by unfold EQ; simp only [sumQ,eQ]; grind
  rw [this]; exact numI_has 1
 | j+1,hj=>addI_has (e9S_valid y j) (e9T_valid y (j+1)) (by decide) (by decide) (e9S_has hy h j (by omega)) (e9T_has hy h (j+1) hj)
theorem aroundI_has {x:Iv} {r s:Rat} (hx:x.Valid) (h:x.has r) (hs:absQ s ≤ absQ r):(aroundI x).has s:=by
 unfold aroundI
 cases xa:x.all
 ·obtain ⟨h1,h2⟩:=h.ends xa
  obtain ⟨m1,m2,_⟩:=magI_q hx.q
  obtain ⟨_,a2,a3,a4⟩:=absQ_spec r
  obtain ⟨_,b2,b3,_⟩:=absQ_spec s
  have hr:absQ r ≤ (magI x).q:=by grind
  refine .inr ⟨?_,?_⟩
  ·show (negD (magI x)).q ≤ s
   rw [q_neg]; grind
  ·show s ≤ (magI x).q
   grind
 ·rw [if_pos rfl]; exact .inl xa
theorem e9R_has {y:Iv} {r:Rat} (hy:y.Valid) (h:y.has r) (hr:absQ r * 2 ≤ 1) (N:Nat) (hN:20 ≤ N):(e9R y).has (EQ r N):=by
 obtain ⟨d,rfl⟩:∃ d,N=20+d:=⟨N - 20,by omega⟩
 have e1:EQ r (20+d)=EQ r 20+sumQ (fun i=>eQ r (21+i)) d:=by
  unfold EQ
  rw [show 20+d+1=21+d by omega,sumQ_split]
 have hz:=(absQ_spec r).1
 have t:=tail_sum hz (J:=1) (by exact hr) (show 1 ≤ 21 by decide) d
 have p0:=eQ_nonneg hz (21+d)
 have b1:absQ (sumQ (fun i=>eQ r (21+i)) d) ≤ sumQ (fun i=>eQ (absQ r) (21+i)) d:=by
  have:=absQ_sum (fun i=>eQ r (21+i)) d
  rwa [sumQ_congr d fun i _=>eQ_abs r (21+i)] at this
 have hZ:(mulI (divI (mulI (e9T y 20) y 320) (numI 21) 320) (numI 2) 320).has (eQ r 21 * 2):=by
  have h1:=(e9T_has hy h 21 (by decide))
  exact mulI_has (divI_valid _ _ (by decide) (by decide)) (numI_val 2 (by decide)) (by decide) (by decide) h1 (numI_has 2)
 rw [e1]
 refine addI_has (e9S_valid y 20) (aroundI_valid (mulI_valid _ _ (by decide) (by decide))) (by decide) (by decide) (e9S_has hy h 20 (by decide)) (aroundI_has (mulI_valid _ _ (by decide) (by decide)) hZ ?_)
 have e2:absQ (eQ r 21 * 2)=eQ (absQ r) 21 * 2:=by rw [absQ_mul,eQ_abs]; rfl
 rw [e2]; grind
theorem e9Q_lim {y:Iv} {r:Rat} (hy:y.Valid) (h:y.has r) (hr:absQ r * 2 ≤ 1):∀ K,Lim (EQ (r * ((2 ^ K:Nat):Rat))) (e9Q y K)
 | 0=>by
  rw [show r * ((2 ^ 0:Nat):Rat)=r by simp]
  exact Lim.of_has (k:=20) fun N hN=>e9R_has hy h hr N hN
 | K+1=>by
  have ih:=(e9Q_lim hy h hr K).sq (e9Q_valid y K) (p:=320) (by decide) (by decide)
  refine ih.shift fun ε hε=>?_
  obtain ⟨N0,h0⟩:=EQ_add (r * ((2 ^ K:Nat):Rat)) (r * ((2 ^ K:Nat):Rat)) hε
  have e:r * ((2 ^ K:Nat):Rat)+r * ((2 ^ K:Nat):Rat)=r * ((2 ^ (K+1):Nat):Rat):=by
   rw [Nat.pow_succ,Rat.natCast_mul,show ((2:Nat):Rat)=2 from rfl]; grind
  rw [e] at h0
  exact ⟨N0,h0⟩
theorem q_top {d:Dy} (h:d.m ≠ 0):absQ d.q ≤ P2 d.top:=by
 have hT:d.top=(bitsN d.m:Int)+d.e:=by unfold Dy.top; rw [if_neg h]
 have h1:(d.m:Rat) ≤ ((2 ^ bitsN d.m:Nat):Rat):=Rat.natCast_le_natCast.2 (Nat.le_of_lt (lt_two_pow_bitsN d.m))
 have h2:=Rat.mul_le_mul_of_nonneg_right h1 (Rat.le_of_lt (P2_pos d.e))
 rw [← P2_nat,← P2_add] at h2
 have h0:0 ≤ (d.m:Rat) * P2 d.e:=Rat.mul_nonneg Rat.natCast_nonneg (Rat.le_of_lt (P2_pos _))
 rw [hT,q_of]
 cases d.neg
 ·exact absQ_le h2 (by simp only [Bool.false_eq_true,if_false]; grind)
 ·exact absQ_le (by simp only [if_true]; grind) (by simp only [if_true]; grind)
theorem P2_le {a b:Int} (h:a ≤ b):P2 a ≤ P2 b:=by
 rw [P2_split h]
 have h1:(1:Rat) ≤ ((2 ^ (b - a).toNat:Nat):Rat):=by
  have:=Rat.natCast_le_natCast.2 (Nat.one_le_two_pow (n:=(b - a).toNat))
  exact this
 have:=Rat.mul_le_mul_of_nonneg_right h1 (Rat.le_of_lt (P2_pos a))
 grind
theorem r9Exp_ex (d:Dy) (hd:d.Valid):∃ X,X.Valid ∧ Lim (EQ d.q) X ∧ PCt 23 [dyP d] (ivP X):=by
 by_cases h:d.m=0
 ·refine ⟨numI 1,numI_val 1 (by decide),?_,r9Exp_zero d h⟩
  have:d.q=0:=by rw [q_of,h]; simp
  rw [this]
  exact Lim.of_has (k:=0) fun N _=>by rw [EQ_zero]; exact numI_has 1
 ·obtain ⟨K,hK⟩:∃ K:Nat,max 0 (d.top+16)=(K:Int):=⟨(max 0 (d.top+16)).toNat,by omega⟩
  have vy:(scaleI (pointI d) (0 - (K:Int))).Valid:=scaleI_valid (pointI_valid hd) _
  have hy:=scaleI_has (pointI_has d) (0 - (K:Int))
  have hq:=q_top h
  have hp:P2 d.top * P2 (0 - (K:Int)) ≤ P2 (-1):=by rw [← P2_add]; exact P2_le (by omega)
  have hm:P2 (-1)=1 / 2:=by decide +kernel
  have habs:absQ (d.q * P2 (0 - (K:Int))) * 2 ≤ 1:=by
   rw [absQ_mul]
   have e:absQ (P2 (0 - (K:Int)))=P2 (0 - (K:Int)):=by unfold absQ; rw [if_pos (Rat.le_of_lt (P2_pos _))]
   rw [e]
   have:=Rat.mul_le_mul_of_nonneg_right hq (Rat.le_of_lt (P2_pos (0 - (K:Int))))
   rw [hm] at hp
   grind
  have hl:=e9Q_lim vy hy habs K
  have e:d.q * P2 (0 - (K:Int)) * ((2 ^ K:Nat):Rat)=d.q:=by
   rw [← P2_nat,Rat.mul_assoc,← P2_add,show (0 - (K:Int))+(K:Int)=0 by omega,P2_zero,Rat.mul_one]
  rw [e] at hl
  exact ⟨_,e9Q_valid _ K,hl,r9Exp_pos d hd h K hK _ rfl⟩
open Go.RowKit Fp Pu
def csT (c:Rat):Nat → Rat × Rat
 | 0=>(1,0)
 | j+1=>(-(c / ((j+1:Nat):Rat) * (csT c j).2),c / ((j+1:Nat):Rat) * (csT c j).1)
def CS (c:Rat) (N:Nat):Rat:=sumQ (fun j=>(csT c j).1) (N+1)
def SN (c:Rat) (N:Nat):Rat:=sumQ (fun j=>(csT c j).2) (N+1)
def rotQ (m:Rat):QM:=fun i j=>if i=0 ∧ j=1 then -m else if i=1 ∧ j=0 then m else 0
theorem two {i:Nat} (h:i < 2):i=0 ∨ i=1:=by omega
def rotE (u v:Rat):QM:=fun i j=>if i=j then u else if i=0 then -v else v
theorem rot_TQ (m t:Rat):∀ j,∀ {i l:Nat},i < 2 → l < 2 → TQ 2 (rotQ m) t j i l=rotE (csT (t * m) j).1 (csT (t * m) j).2 i l
 | 0,i,l,hi,hl=>by
  rcases two hi with rfl | rfl <;> rcases two hl with rfl | rfl <;> simp [TQ,oneQ,rotE,csT]
 | j+1,i,l,hi,hl=>by
  show t / ((j+1:Nat):Rat) * mulQ 2 (TQ 2 (rotQ m) t j) (rotQ m) i l=_
  simp only [mulQ,sumQ]
  rw [rot_TQ m t j hi (by decide),rot_TQ m t j hi (by decide)]
  have e:t * m / ((j+1:Nat):Rat)=t / ((j+1:Nat):Rat) * m:=by simp only [Rat.div_def]; grind
  rcases two hi with rfl | rfl <;> rcases two hl with rfl | rfl <;> simp [rotE,rotQ,csT,e] <;> grind
theorem rot_SQ (m t:Rat) (N:Nat) {i l:Nat} (hi:i < 2) (hl:l < 2):SQ 2 (rotQ m) t N i l=rotE (CS (t * m) N) (SN (t * m) N) i l:=by
 have:∀ N,SQ 2 (rotQ m) t N i l=sumQ (fun j=>TQ 2 (rotQ m) t j i l) (N+1):=by
  intro N
  induction N with
  | zero=>show TQ 2 (rotQ m) t 0 i l=0+TQ 2 (rotQ m) t 0 i l; grind
  | succ N ih=>show SQ 2 (rotQ m) t N i l+TQ 2 (rotQ m) t (N+1) i l=_; rw [ih]; rfl
 rw [this,sumQ_congr _ fun j _=>rot_TQ m t j hi hl]
 unfold CS SN
 have neg:∀ (f:Nat → Rat) n,sumQ (fun j=>-f j) n = -sumQ f n:=by
  intro f n
  induction n with
  | zero=>simp [sumQ]
  | succ n ih=>rw [sumQ,sumQ,ih]; grind
 rcases two hi with rfl | rfl <;> rcases two hl with rfl | rfl <;> simp [rotE,neg]
def Near' (d:Rat) (f g:Nat → Rat):Prop:=∃ N0,∀ N,N0 ≤ N → absQ (f N - g N) ≤ d
theorem Near'.mono {d e:Rat} {f g:Nat → Rat} (h:Near' d f g) (k:d ≤ e):Near' e f g:=by
 obtain ⟨N0,h⟩:=h
 exact ⟨N0,fun N hN=>Rat.le_trans (h N hN) k⟩
theorem cs_add (a b:Rat) {ε:Rat} (hε:0 < ε):Near' ε (CS (a+b)) (fun N=>CS a N * CS b N - SN a N * SN b N) ∧ Near' ε (SN (a+b)) (fun N=>SN a N * CS b N+CS a N * SN b N):=by
 obtain ⟨N0,h0⟩:=group_lim 2 (rotQ 1) a b hε
 have key:∀ N i l,i < 2 → l < 2 → mulQ 2 (SQ 2 (rotQ 1) b N) (SQ 2 (rotQ 1) a N) i l=rotE (CS b N) (SN b N) i 0 * rotE (CS a N) (SN a N) 0 l+rotE (CS b N) (SN b N) i 1 * rotE (CS a N) (SN a N) 1 l:=by
  intro N i l hi hl
  show sumQ (fun q=>SQ 2 (rotQ 1) b N i q * SQ 2 (rotQ 1) a N q l) 2=_
  simp only [sumQ]
  rw [rot_SQ 1 b N hi (by decide),rot_SQ 1 b N hi (by decide),rot_SQ 1 a N (by decide) hl,rot_SQ 1 a N (by decide) hl,Rat.mul_one,Rat.mul_one]
  grind
 constructor
 ·refine ⟨N0,fun N hN=>?_⟩
  have:=h0 N hN 0 0 (by decide) (by decide)
  rw [key N 0 0 (by decide) (by decide),rot_SQ 1 (a+b) N (by decide) (by decide),Rat.mul_one] at this
  simp [rotE] at this
  obtain ⟨_,a2,a3,_⟩:=absQ_spec (CS b N * CS a N + -(SN b N * SN a N) - CS (a+b) N)
  refine absQ_le ?_ ?_ <;> grind
 ·refine ⟨N0,fun N hN=>?_⟩
  have:=h0 N hN 1 0 (by decide) (by decide)
  rw [key N 1 0 (by decide) (by decide),rot_SQ 1 (a+b) N (by decide) (by decide),Rat.mul_one] at this
  simp [rotE] at this
  obtain ⟨_,a2,a3,_⟩:=absQ_spec (SN b N * CS a N+CS b N * SN a N - SN (a+b) N)
  refine absQ_le ?_ ?_ <;> grind
theorem csT_neg (c:Rat):∀ j,csT (-c) j=((csT c j).1,-(csT c j).2)
 | 0=>by simp [csT]
 | j+1=>by
  have e:-c / ((j+1:Nat):Rat) = -(c / ((j+1:Nat):Rat)):=by simp only [Rat.div_def]; grind
  simp only [csT,csT_neg c j,e]
  congr 1 <;> grind
theorem CS_neg (c:Rat) (N:Nat):CS (-c) N=CS c N:=sumQ_congr _ fun j _=>by rw [csT_neg]
theorem SN_neg (c:Rat) (N:Nat):SN (-c) N = -SN c N:=by
 have:∀ n,sumQ (fun j=>(csT (-c) j).2) n = -sumQ (fun j=>(csT c j).2) n:=by
  intro n
  induction n with
  | zero=>simp [sumQ]
  | succ n ih=>rw [sumQ,sumQ,ih,csT_neg]; grind
 exact this _
theorem csT_abs (c:Rat):∀ j,absQ (csT c j).1 ≤ eQ (absQ c) j ∧ absQ (csT c j).2 ≤ eQ (absQ c) j
 | 0=>by
  simp only [csT,eQ]
  exact ⟨by decide +kernel,by decide +kernel⟩
 | j+1=>by
  obtain ⟨h1,h2⟩:=csT_abs c j
  have hp:=Rat.inv_pos.2 (natPos j)
  have hd:absQ (c / ((j+1:Nat):Rat))=absQ c / ((j+1:Nat):Rat):=by
   rw [Rat.div_def,Rat.div_def,absQ_mul]
   congr 1
   unfold absQ; rw [if_pos (Rat.le_of_lt hp)]
  have h0:=div_nonneg' (absQ_spec c).1 (natPos j)
  have hn:∀ x,absQ (-x)=absQ x:=by
   intro x
   obtain ⟨a1,a2,a3,a4⟩:=absQ_spec x
   obtain ⟨b1,b2,b3,b4⟩:=absQ_spec (-x)
   grind
  simp only [csT,eQ]
  rw [hn,absQ_mul,absQ_mul,hd]
  have m1:=Rat.mul_le_mul_of_nonneg_left h1 h0
  have m2:=Rat.mul_le_mul_of_nonneg_left h2 h0
  constructor <;> grind
theorem sum_abs {f g:Nat → Rat} (h:∀ j,absQ (f j) ≤ g j) (n:Nat):absQ (sumQ f n) ≤ sumQ g n:=Rat.le_trans (absQ_sum f n) (sumQ_le n fun j _=>h j)
theorem CS_abs (c:Rat) (N:Nat):absQ (CS c N) ≤ EQ (absQ c) N ∧ absQ (SN c N) ≤ EQ (absQ c) N:=⟨sum_abs (fun j=>(csT_abs c j).1) _,sum_abs (fun j=>(csT_abs c j).2) _⟩
theorem eQ_mono {x y:Rat} (h0:0 ≤ x) (h:x ≤ y):∀ j,eQ x j ≤ eQ y j
 | 0=>Rat.le_refl
 | j+1=>by
  have h1:=eQ_mono h0 h j
  have hp:=Rat.le_of_lt (Rat.inv_pos.2 (natPos j))
  simp only [eQ,Rat.div_def]
  have m1:=Rat.mul_le_mul_of_nonneg_right h hp
  have m2:=Rat.mul_le_mul_of_nonneg_right h1 (Rat.mul_nonneg h0 hp)
  have m3:=Rat.mul_le_mul_of_nonneg_left m1 (eQ_nonneg (Rat.le_trans h0 h) j)
  grind
theorem EQ_mono {x y:Rat} (h0:0 ≤ x) (h:x ≤ y) (N:Nat):EQ x N ≤ EQ y N:=sumQ_le _ fun j _=>eQ_mono h0 h j
theorem EQ_two (N:Nat):EQ 2 N ≤ 8:=by
 have h:=tail_sum (z:=2) (J:=4) (by decide) (by decide +kernel) (Nat.le_refl 4)
 have n0:=fun m=>eQ_nonneg (c:=2) (by decide) m
 have e4:sumQ (eQ 2) 4=19 / 3:=by decide +kernel
 have e5:eQ 2 4=2 / 3:=by decide +kernel
 have e6:sumQ (eQ 2) (N+1) ≤ sumQ (eQ 2) (4+(N+1)):=sumQ_mono (fun i=>n0 i) (by omega)
 have h1:=h (N+1)
 have h2:=n0 (4+(N+1))
 unfold EQ
 rw [sumQ_split (eQ 2) 4 (N+1),e4] at e6
 rw [e5] at h1
 grind
theorem CS_le {c:Rat} (h:absQ c ≤ 2) (N:Nat):absQ (CS c N) ≤ 8 ∧ absQ (SN c N) ≤ 8:=by
 have h1:=CS_abs c N
 have h2:=EQ_mono (absQ_spec c).1 h N
 have h3:=EQ_two N
 exact ⟨by grind,by grind⟩
theorem cs_cauchy (c:Rat) {ε:Rat} (hε:0 < ε):∃ N0,∀ N,N0 ≤ N → ∀ d,absQ (CS c (N+d) - CS c N) ≤ ε:=by
 obtain ⟨m0,h0⟩:=tail_small (absQ_spec c).1 hε
 refine ⟨m0,fun N hN d=>?_⟩
 have e:CS c (N+d) - CS c N=sumQ (fun i=>(csT c (N+1+i)).1) d:=by
  unfold CS
  rw [show N+d+1=N+1+d by omega,sumQ_split]
  grind
 rw [e]
 exact Rat.le_trans (sum_abs (fun i=>(csT_abs c (N+1+i)).1) d) (h0 (N+1) (by omega) d)
theorem cs_small {c:Rat} (h0:0 ≤ c) (h:c * 2 ≤ 1) (N:Nat):absQ (CS c N - 1) ≤ c * 2 ∧ absQ (SN c N) ≤ c * 2:=by
 have ha:absQ c=c:=by unfold absQ; rw [if_pos h0]
 have t:=tail_sum (z:=c) (J:=1) h0 h (Nat.le_refl 1) N
 have p0:=eQ_nonneg h0 (1+N)
 have e1:eQ c 1=c:=by
  show 1 * (c / ((0+1:Nat):Rat))=c
  have:((0+1:Nat):Rat)=1:=rfl
  rw [this,Rat.div_def]
  have:(1:Rat)⁻¹=1:=by decide +kernel
  rw [this]; grind
 rw [e1] at t
 have b1:CS c N - 1=sumQ (fun i=>(csT c (1+i)).1) N:=by
  unfold CS
  rw [show N+1=1+N by omega,sumQ_split]
  show 0+1+_ - 1=_
  grind
 have b2:SN c N=sumQ (fun i=>(csT c (1+i)).2) N:=by
  unfold SN
  rw [show N+1=1+N by omega,sumQ_split]
  show 0+0+_=_
  grind
 rw [b1,b2]
 have s1:=sum_abs (fun i=>(csT_abs c (1+i)).1) N
 have s2:=sum_abs (fun i=>(csT_abs c (1+i)).2) N
 rw [ha] at s1 s2
 exact ⟨by grind,by grind⟩
open Go.RowKit Fp Pu
def Nng (f:Nat → Rat):Prop:=∀ ε,0 < ε → ∃ N0,∀ N,N0 ≤ N → -ε ≤ f N
def Nps (f:Nat → Rat):Prop:=∀ ε,0 < ε → ∃ N0,∀ N,N0 ≤ N → f N ≤ ε
theorem cs_side (c:Rat):Nng (CS c) ∨ Nps (CS c):=by
 by_cases h:Nng (CS c)
 ·exact .inl h
 ·right
  unfold Nng at h
  have ⟨ε,hε,hh⟩:∃ ε,0 < ε ∧ ∀ N0,∃ N,N0 ≤ N ∧ CS c N < -ε:=by
   apply Classical.byContradiction
   intro q
   apply h
   intro ε hε
   apply Classical.byContradiction
   intro q2
   apply q
   refine ⟨ε,hε,fun N0=>?_⟩
   apply Classical.byContradiction
   intro q3
   apply q2
   refine ⟨N0,fun N hN=>?_⟩
   apply Rat.not_lt.1
   intro hlt
   exact q3 ⟨N,hN,hlt⟩
  intro δ hδ
  obtain ⟨N1,h1⟩:=cs_cauchy c (show 0 < ε / 2 by grind)
  obtain ⟨N,hN,hlt⟩:=hh N1
  refine ⟨N,fun N' hN'=>?_⟩
  obtain ⟨d,rfl⟩:∃ d,N'=N+d:=⟨N' - N,by omega⟩
  obtain ⟨_,a2,_,_⟩:=absQ_spec (CS c (N+d) - CS c N)
  have:=h1 N hN d
  grind
theorem bisect {l u:Rat} (hlu:l ≤ u) (hl:Nng (CS l)) (hu:Nps (CS u)):∀ i:Nat,∃ l' u',l ≤ l' ∧ l' ≤ u' ∧ u' ≤ u ∧ (u' - l') * ((2 ^ i:Nat):Rat) ≤ u - l ∧ Nng (CS l') ∧ Nps (CS u')
 | 0=>⟨l,u,Rat.le_refl,hlu,Rat.le_refl,by simp,hl,hu⟩
 | i+1=>by
  obtain ⟨l',u',h1,h2,h3,h4,h5,h6⟩:=bisect hlu hl hu i
  have e:((2 ^ (i+1):Nat):Rat)=((2 ^ i:Nat):Rat) * 2:=by rw [Nat.pow_succ,Rat.natCast_mul]; rfl
  rcases cs_side ((l'+u') / 2) with h | h
  ·exact ⟨(l'+u') / 2,u',by grind,by grind,h3,by rw [e]; grind,h,h6⟩
  ·exact ⟨l',(l'+u') / 2,h1,by grind,by grind,by rw [e]; grind,h5,h⟩
def HalfPi (H:Iv):Prop:=∀ ε,0 < ε → ∃ θ,H.has θ ∧ Near' ε (CS θ) (fun _=>0) ∧ Near' ε (SN θ) (fun _=>1)
theorem eta_ex {ε:Rat} (hε:0 < ε):∃ η:Rat,0 < η ∧ η ≤ 1 / 4 ∧ η * 4 ≤ ε:=by
 by_cases h:1 ≤ ε
 ·exact ⟨1 / 4,by decide +kernel,Rat.le_refl,by grind⟩
 ·exact ⟨ε / 4,by grind,by grind,by grind⟩
def SinBig (l u:Rat):Prop:=∀ θ,l ≤ θ → θ ≤ u → ∃ N0,∀ N,N0 ≤ N → 1 / 2 ≤ SN θ N
theorem halfPi_of {l u:Rat} (hlu:l ≤ u) (h0:0 ≤ l) (h2:u ≤ 2) (hl:Nng (CS l)) (hu:Nps (CS u)) (hs:SinBig l u) {ε:Rat} (hε:0 < ε) :
  ∃ θ,l ≤ θ ∧ θ ≤ u ∧ Near' ε (CS θ) (fun _=>0) ∧ Near' ε (SN θ) (fun _=>1):=by
 obtain ⟨η,hη0,hη1,hη2⟩:=eta_ex hε
 obtain ⟨i,hi⟩:=arch ((u - l) * 64 / η+4)
 obtain ⟨l',u',k1,k2,k3,k4,k5,k6⟩:=bisect hlu hl hu i
 have hpow:(i:Rat) ≤ ((2 ^ i:Nat):Rat):=Rat.natCast_le_natCast.2 (Nat.le_of_lt Nat.lt_two_pow_self)
 obtain ⟨δ,hδ⟩:∃ δ,δ=u' - l':=⟨_,rfl⟩
 have hδ0:0 ≤ δ:=by rw [hδ]; grind
 have e1:(u - l) * 64 / η * η=(u - l) * 64:=Rat.div_mul_cancel (by grind)
 have hul:0 ≤ (u - l) * 64 / η:=div_nonneg' (by grind) hη0
 have hP:(u - l) * 64 / η+4 ≤ ((2 ^ i:Nat):Rat):=Rat.le_trans hi hpow
 have hδs:δ * 64 ≤ η ∧ δ * 2 ≤ 1:=by
  rw [← hδ] at k4
  have m1:=Rat.mul_le_mul_of_nonneg_left hP hδ0
  generalize ((2 ^ i:Nat):Rat)=P at *
  have m2:δ * ((u - l) * 64 / η)+δ * 4 ≤ u - l:=by grind
  have hx:=Rat.mul_nonneg hδ0 hul
  constructor
  ·by_cases hz:u - l=0
   ·have:δ * 4 ≤ 0:=by grind
    grind
   ·have hpos:0 < u - l:=by grind
    have m3:δ * ((u - l) * 64 / η) ≤ u - l:=by grind
    have m4:=Rat.mul_le_mul_of_nonneg_right m3 (Rat.le_of_lt hη0)
    have m5:δ * ((u - l) * 64 / η) * η=δ * 64 * (u - l):=by rw [Rat.mul_assoc,e1]; grind
    rw [m5] at m4
    apply Rat.le_of_mul_le_mul_right (c:=u - l) _ hpos
    grind
  ·have:u - l ≤ 2:=by grind
   grind
 have hab:∀ x,l ≤ x → x ≤ u → absQ x ≤ 2:=fun x h1 h2=>absQ_le (by grind) (by grind)
 have hu':u'=l'+δ:=by rw [hδ]; grind
 have hc:Near' η (CS l') (fun _=>0):=by
  obtain ⟨N1,a1⟩:=k5 (η / 8) (by grind)
  obtain ⟨N2,a2⟩:=k6 (η / 8) (by grind)
  obtain ⟨⟨N3,a3⟩,_⟩:=cs_add l' δ (show 0 < η / 8 by grind)
  refine ⟨max N1 (max N2 N3),fun N hN=>?_⟩
  have b1:=a1 N (by omega)
  have b2:=a2 N (by omega)
  have b3:=a3 N (by omega)
  rw [← hu'] at b3
  obtain ⟨c1,c2⟩:=CS_le (hab l' k1 (by grind)) N
  obtain ⟨d1,d2⟩:=cs_small hδ0 hδs.2 N
  obtain ⟨_,f2,f3,_⟩:=absQ_spec (CS u' N - (CS l' N * CS δ N - SN l' N * SN δ N))
  have g1:absQ (CS l' N * (CS δ N - 1)) ≤ 8 * (δ * 2):=by
   rw [absQ_mul]
   exact Rat.le_trans (Rat.mul_le_mul_of_nonneg_right c1 (absQ_spec _).1) (Rat.mul_le_mul_of_nonneg_left d1 (by decide))
  have g2:absQ (SN l' N * SN δ N) ≤ 8 * (δ * 2):=by
   rw [absQ_mul]
   exact Rat.le_trans (Rat.mul_le_mul_of_nonneg_right c2 (absQ_spec _).1) (Rat.mul_le_mul_of_nonneg_left d2 (by decide))
  obtain ⟨_,p2,p3,_⟩:=absQ_spec (CS l' N * (CS δ N - 1))
  obtain ⟨_,q2,q3,_⟩:=absQ_spec (SN l' N * SN δ N)
  have e:CS l' N * (CS δ N - 1)=CS l' N * CS δ N - CS l' N:=by grind
  have hd:=hδs.1
  refine absQ_le ?_ ?_ <;> grind
 refine ⟨l',k1,by grind,hc.mono (by grind),?_⟩
 obtain ⟨N1,a1⟩:=hc
 obtain ⟨N2,a2⟩:=hs l' k1 (by grind)
 obtain ⟨⟨N3,a3⟩,_⟩:=cs_add l' (-l') (show 0 < η by grind)
 refine ⟨max N1 (max N2 N3),fun N hN=>?_⟩
 have b1:=a1 N (by omega)
 have b2:=a2 N (by omega)
 have b3:=a3 N (by omega)
 show absQ (SN l' N - 1) ≤ ε
 replace b1:absQ (CS l' N - 0) ≤ η:=b1
 replace b3:absQ (CS (l' + -l') N - (CS l' N * CS (-l') N - SN l' N * SN (-l') N)) ≤ η:=b3
 rw [show l' + -l'=0 by grind,CS_neg,SN_neg] at b3
 have e0:CS 0 N=1:=by
  have:=(cs_small (c:=0) Rat.le_refl (by decide +kernel) N).1
  obtain ⟨_,x2,x3,_⟩:=absQ_spec (CS 0 N - 1)
  grind
 rw [e0] at b3
 obtain ⟨_,x2,x3,_⟩:=absQ_spec (1 - (CS l' N * CS l' N - SN l' N * -SN l' N))
 obtain ⟨_,y2,y3,_⟩:=absQ_spec (CS l' N - 0)
 have hcc:CS l' N * CS l' N ≤ η ∧ 0 ≤ CS l' N * CS l' N:=by
  have h1:=absQ_mul (CS l' N) (CS l' N)
  have e:CS l' N - 0=CS l' N:=by grind
  rw [e] at b1
  have h2:=(absQ_spec (CS l' N)).1
  have h3:=Rat.mul_le_mul_of_nonneg_left b1 h2
  have h4:=Rat.mul_le_mul_of_nonneg_right b1 (Rat.le_of_lt hη0)
  have h5:=Rat.mul_nonneg h2 h2
  obtain ⟨_,z2,_,z4⟩:=absQ_spec (CS l' N * CS l' N)
  have h6:η * η ≤ η:=by
   have:=Rat.mul_le_mul_of_nonneg_left hη1 (Rat.le_of_lt hη0)
   grind
  constructor <;> grind
 generalize SN l' N=s at *
 generalize CS l' N * CS l' N=cc at *
 have hss1:s * s ≤ 1+η:=by grind
 have hss2:1 - 2 * η ≤ s * s:=by grind
 have hs0:0 ≤ s+1:=by grind
 refine absQ_le ?_ ?_
 ·apply Rat.not_lt.1
  intro hlt
  have hs2:0 < s - 1:=by grind
  have:=Rat.mul_le_mul_of_nonneg_right (show 1 ≤ s+1 by grind) (Rat.le_of_lt hs2)
  grind
 ·apply Rat.not_lt.1
  intro hlt
  have hs2:0 < 1 - s:=by grind
  have:=Rat.mul_le_mul_of_nonneg_right (show 1 ≤ s+1 by grind) (Rat.le_of_lt hs2)
  grind
def ik:Nat → Rat × Rat
 | 0=>(1,0)
 | k+1=>(-(ik k).2,(ik k).1)
theorem ik_le:∀ k,absQ (ik k).1 ≤ 1 ∧ absQ (ik k).2 ≤ 1
 | 0=>⟨by decide +kernel,by decide +kernel⟩
 | k+1=>by
  obtain ⟨h1,h2⟩:=ik_le k
  obtain ⟨_,a2,a3,_⟩:=absQ_spec (ik k).2
  exact ⟨absQ_le (by show -(ik k).2 ≤ 1; grind) (by show - -(ik k).2 ≤ 1; grind),h1⟩
theorem near_mul {η e1:Rat} {f g:Nat → Rat} {a b:Rat} (ha:absQ a ≤ 1) (hb:absQ b ≤ 1) (he:e1 ≤ 1) (hf:Near' e1 f (fun _=>a)) (hg:Near' η g (fun _=>b)) (h0:0 ≤ η) (h1:0 ≤ e1):Near' (2 * η+e1) (fun N=>f N * g N) (fun _=>a * b):=by
 obtain ⟨N1,h1'⟩:=hf
 obtain ⟨N2,h2'⟩:=hg
 refine ⟨max N1 N2,fun N hN=>?_⟩
 have b1:=h1' N (by omega)
 have b2:=h2' N (by omega)
 have e:f N * g N - a * b=(f N - a) * (g N - b)+(f N - a) * b+a * (g N - b):=by grind
 rw [e]
 have t1:=absQ_add ((f N - a) * (g N - b)+(f N - a) * b) (a * (g N - b))
 have t2:=absQ_add ((f N - a) * (g N - b)) ((f N - a) * b)
 rw [absQ_mul,absQ_mul] at t2
 rw [absQ_mul a] at t1
 have n1:=(absQ_spec (f N - a)).1
 have n2:=(absQ_spec (g N - b)).1
 have n3:=(absQ_spec a).1
 have n4:=(absQ_spec b).1
 have m1:=Rat.mul_le_mul_of_nonneg_right b1 n2
 have m2:=Rat.mul_le_mul_of_nonneg_left b2 h1
 have m3:=Rat.mul_le_mul_of_nonneg_left hb n1
 have m4:=Rat.mul_le_mul_of_nonneg_right ha n2
 have m5:=Rat.mul_le_mul_of_nonneg_right he h0
 grind
theorem Near'.add {d e:Rat} {f g f' g':Nat → Rat} (h:Near' d f g) (k:Near' e f' g'):Near' (d+e) (fun N=>f N+f' N) (fun N=>g N+g' N):=by
 obtain ⟨N1,h1⟩:=h
 obtain ⟨N2,h2⟩:=k
 refine ⟨max N1 N2,fun N hN=>?_⟩
 have:=absQ_add (f N - g N) (f' N - g' N)
 have a:=h1 N (by omega)
 have b:=h2 N (by omega)
 rw [show f N+f' N - (g N+g' N)=f N - g N+(f' N - g' N) by grind]
 grind
theorem Near'.trans {d e:Rat} {f g k:Nat → Rat} (h:Near' d f g) (h':Near' e g k):Near' (d+e) f k:=by
 obtain ⟨N1,h1⟩:=h
 obtain ⟨N2,h2⟩:=h'
 refine ⟨max N1 N2,fun N hN=>?_⟩
 have:=absQ_add (f N - g N) (g N - k N)
 have a:=h1 N (by omega)
 have b:=h2 N (by omega)
 rw [show f N - k N=f N - g N+(g N - k N) by grind]
 grind
theorem Near'.neg {d:Rat} {f g:Nat → Rat} (h:Near' d f g):Near' d (fun N=>-f N) (fun N=>-g N):=by
 obtain ⟨N1,h1⟩:=h
 refine ⟨N1,fun N hN=>?_⟩
 obtain ⟨_,a2,a3,_⟩:=absQ_spec (f N - g N)
 have:=h1 N hN
 exact absQ_le (by grind) (by grind)
theorem turn_mul:∀ (k:Nat) {ε:Rat},0 < ε → ε ≤ 1 → ∃ η,0 < η ∧ η ≤ ε ∧ ∀ θ,Near' η (CS θ) (fun _=>0) → Near' η (SN θ) (fun _=>1) → Near' ε (CS ((k:Rat) * θ)) (fun _=>(ik k).1) ∧ Near' ε (SN ((k:Rat) * θ)) (fun _=>(ik k).2)
 | 0,ε,hε,h1=>by
  refine ⟨ε,hε,Rat.le_refl,fun θ _ _=>?_⟩
  have e:((0:Nat):Rat) * θ=0:=by rw [show ((0:Nat):Rat)=0 from rfl]; grind
  rw [e]
  have:=fun N=>cs_small (c:=0) Rat.le_refl (by decide +kernel) N
  refine ⟨⟨0,fun N _=>?_⟩,⟨0,fun N _=>?_⟩⟩
  ·have:=(this N).1; show absQ (CS 0 N - 1) ≤ ε; grind
  ·have:=(this N).2
   show absQ (SN 0 N - 0) ≤ ε
   rw [show SN 0 N - 0=SN 0 N by grind]; grind
 | k+1,ε,hε,h1=>by
  obtain ⟨η,p1,p2,p3⟩:=turn_mul k (ε:=ε / 16) (by grind) (by grind)
  refine ⟨η,p1,by grind,fun θ hc hs=>?_⟩
  obtain ⟨q1,q2⟩:=p3 θ hc hs
  have e:((k+1:Nat):Rat) * θ=(k:Rat) * θ+θ:=by rw [natCast_succ]; grind
  obtain ⟨i1,i2⟩:=ik_le k
  obtain ⟨a1,a2⟩:=cs_add ((k:Rat) * θ) θ (show 0 < ε / 16 by grind)
  have z0:absQ (0:Rat) ≤ 1:=by decide +kernel
  have z1:absQ (1:Rat) ≤ 1:=by decide +kernel
  have m1:=near_mul i1 z0 (show ε / 16 ≤ 1 by grind) q1 hc (Rat.le_of_lt p1) (by grind)
  have m2:=near_mul i2 z1 (show ε / 16 ≤ 1 by grind) q2 hs (Rat.le_of_lt p1) (by grind)
  have m3:=near_mul i2 z0 (show ε / 16 ≤ 1 by grind) q2 hc (Rat.le_of_lt p1) (by grind)
  have m4:=near_mul i1 z1 (show ε / 16 ≤ 1 by grind) q1 hs (Rat.le_of_lt p1) (by grind)
  rw [e]
  constructor
  ·have s:=(m1.add m2.neg)
   have t:=a1.trans (g:=fun N=>CS ((k:Rat) * θ) N * CS θ N - SN ((k:Rat) * θ) N * SN θ N) (k:=fun _=>(ik k).1 * 0 + -((ik k).2 * 1)) (by
    obtain ⟨N0,h0⟩:=s
    exact ⟨N0,fun N hN=>by have:=h0 N hN; show absQ (CS ((k:Rat) * θ) N * CS θ N - SN ((k:Rat) * θ) N * SN θ N - _) ≤ _; rwa [Rat.sub_eq_add_neg (CS ((k:Rat) * θ) N * CS θ N)]⟩)
   have e2:(fun _:Nat=>(ik k).1 * 0 + -((ik k).2 * 1))=fun _=>(ik (k+1)).1:=by funext _; simp only [ik]; grind
   rw [e2] at t
   exact t.mono (by grind)
  ·have s:=m3.add m4
   have t:=a2.trans (g:=fun N=>SN ((k:Rat) * θ) N * CS θ N+CS ((k:Rat) * θ) N * SN θ N) (k:=fun _=>(ik k).2 * 0+(ik k).1 * 1) s
   have e2:(fun _:Nat=>(ik k).2 * 0+(ik k).1 * 1)=fun _=>(ik (k+1)).2:=by funext _; simp only [ik]; grind
   rw [e2] at t
   exact t.mono (by grind)
open Go.RowKit Fp Pu
def arcQ (y:Iv) (p:Nat):Iv:=mulI (absI y) (absI y) p
def arcP (y:Iv) (p:Nat):Nat → Iv
 | 0=>y
 | x+1=>negI (mulI (arcP y p x) (arcQ y p) p)
def arcS (y:Iv) (p:Nat):Nat → Iv
 | 0=>y
 | x+1=>addI (arcS y p x) (divI (arcP y p (x+1)) (numI ((2 * x+3:Nat):Int)) p) p
def arcR (y:Iv) (p N:Nat):Iv:=addI (arcS y p N) ⟨negD (pow2 (0 - p)),pow2 (0 - p),false⟩ p
def arcB (p:Nat) (w:Iv):Prop:=w.all=false ∧ cmpD (magI w) (pow2 (0 - p)) < 0
def arcL (p:Nat) (w:Iv):Prop:=w.all=false ∧ ¬ cmpD (magI w) (pow2 (0 - p)) < 0
instance (p:Nat) (w:Iv):Decidable (arcB p w):=inferInstanceAs (Decidable (_ ∧ _))
instance (p:Nat) (w:Iv):Decidable (arcL p w):=inferInstanceAs (Decidable (_ ∧ _))
def arcGo (q:Iv) (p:Nat):Nat → Nat → Iv → Iv → Option Iv
 | 0,_,w,s=>if arcB p w then some (addI s ⟨negD (pow2 (0 - p)),pow2 (0 - p),false⟩ p) else none
 | f+1,x,w,s=>if arcL p w then arcGo q p f (x+1) (negI (mulI w q p)) (addI s (divI (negI (mulI w q p)) (numI ((2 * x+3:Nat):Int)) p) p) else none
structure ArcOk (y:Iv) (p N:Nat) (R:Iv):Prop where
 go:∀ x,x < N → arcL p (arcP y p x)
 out:arcB p (arcP y p N)
 val:arcR y p N=R
theorem arcGo_ok {y:Iv} {p:Nat} {R:Iv}:∀ f x,arcGo (arcQ y p) p f x (arcP y p x) (arcS y p x)=some R → (∀ i,x ≤ i → i < x+f → arcL p (arcP y p i)) ∧ arcB p (arcP y p (x+f)) ∧ arcR y p (x+f)=R
 | 0,x,h=>by
  unfold arcGo at h
  split at h
  ·rename_i hb
   exact ⟨fun i h1 h2=>by omega,hb,by simpa [arcR] using h⟩
  ·cases h
 | f+1,x,h=>by
  unfold arcGo at h
  split at h
  ·rename_i hl
   obtain ⟨h1,h2,h3⟩:=arcGo_ok f (x+1) h
   have e:x+1+f=x+(f+1):=by omega
   rw [e] at h2 h3
   refine ⟨fun i k1 k2=>?_,h2,h3⟩
   rcases Nat.eq_or_lt_of_le k1 with rfl | k
   ·exact hl
   ·exact h1 i k (by omega)
  ·cases h
theorem arcOk_of {y:Iv} {p N:Nat} {R:Iv} (h:arcGo (arcQ y p) p N 0 y y=some R):ArcOk y p N R:=by
 obtain ⟨h1,h2,h3⟩:=arcGo_ok N 0 h
 rw [Nat.zero_add] at h2 h3
 exact ⟨fun x hx=>h1 x (by omega) (by omega),h2,h3⟩
def HF1:Dy:=⟨false,1014047155841371404857783918912611814895143950022408150448898879701903863171748812343190420115852101928445847465915947005,-398⟩
def HF2:Dy:=⟨false,2028094311682742809715567837825223629790287900044816300897797759403807726343497624686380840231704203856891694931831894109,-399⟩
def HF:Iv:=⟨HF1,HF2,false⟩
theorem cs_tail {c:Rat} (h0:0 ≤ c) (h2:c ≤ 2) (d:Nat):absQ (CS c (100+d) - CS c 100) ≤ eQ c 101 * 2 ∧ absQ (SN c (100+d) - SN c 100) ≤ eQ c 101 * 2:=by
 have t:=tail_sum (z:=c) (J:=4) h0 (by show c * 2 ≤ 4; grind) (show 4 ≤ 101 by decide) d
 have p0:=eQ_nonneg h0 (101+d)
 have ha:absQ c=c:=by unfold absQ; rw [if_pos h0]
 have s1:=sum_abs (fun i=>(csT_abs c (101+i)).1) d
 have s2:=sum_abs (fun i=>(csT_abs c (101+i)).2) d
 rw [ha] at s1 s2
 have e1:CS c (100+d) - CS c 100=sumQ (fun i=>(csT c (101+i)).1) d:=by
  unfold CS
  rw [show 100+d+1=101+d by omega,sumQ_split]
  grind
 have e2:SN c (100+d) - SN c 100=sumQ (fun i=>(csT c (101+i)).2) d:=by
  unfold SN
  rw [show 100+d+1=101+d by omega,sumQ_split]
  grind
 rw [e1,e2]
 exact ⟨by grind,by grind⟩
theorem hf1_cs:eQ HF1.q 101 * 2 < CS HF1.q 100:=by decide +kernel
theorem hf2_cs:CS HF2.q 100 < -(eQ HF2.q 101 * 2):=by decide +kernel
theorem hf1_sn:9 / 10+eQ HF1.q 101 * 2 < SN HF1.q 100:=by decide +kernel
theorem hf_le:HF1.q ≤ HF2.q:=by decide +kernel
theorem hf_0:0 ≤ HF1.q:=by decide +kernel
theorem hf_2:HF2.q ≤ 2:=by decide +kernel
theorem hf_w:(HF2.q - HF1.q) * 400 ≤ 1:=by decide +kernel
theorem after {N:Nat} (h:100 ≤ N):∃ d,N=100+d:=⟨N - 100,by omega⟩
theorem hf_nng:Nng (CS HF1.q):=fun ε hε=>by
 refine ⟨100,fun N hN=>?_⟩
 obtain ⟨d,rfl⟩:=after hN
 have h:=(cs_tail hf_0 (Rat.le_trans hf_le hf_2) d).1
 have h1:=hf1_cs
 generalize HF1.q=c at *
 obtain ⟨_,a2,a3,_⟩:=absQ_spec (CS c (100+d) - CS c 100)
 grind
theorem hf_nps:Nps (CS HF2.q):=fun ε hε=>by
 refine ⟨100,fun N hN=>?_⟩
 obtain ⟨d,rfl⟩:=after hN
 have h:=(cs_tail (Rat.le_trans hf_0 hf_le) hf_2 d).1
 have h1:=hf2_cs
 generalize HF2.q=c at *
 obtain ⟨_,a2,a3,_⟩:=absQ_spec (CS c (100+d) - CS c 100)
 grind
theorem hf_sin:SinBig HF1.q HF2.q:=fun θ h1 h2=>by
 have hw:=hf_w
 have h0:=hf_0
 have h3:=hf_2
 have hle:=hf_le
 have hsn:=hf1_sn
 have htail:=fun d=>(cs_tail hf_0 (Rat.le_trans hf_le hf_2) d).2
 generalize HF2.q=u at *
 generalize HF1.q=l at *
 obtain ⟨δ,hδ⟩:∃ δ,δ=θ - l:=⟨_,rfl⟩
 have hθ:θ=l+δ:=by rw [hδ]; grind
 have d0:0 ≤ δ:=by rw [hδ]; grind
 have d1:δ * 400 ≤ 1:=by rw [hδ]; grind
 obtain ⟨_,⟨N0,a⟩⟩:=cs_add l δ (show (0:Rat) < 1 / 10 by decide +kernel)
 refine ⟨max N0 100,fun N hN=>?_⟩
 have hs:=a N (by omega)
 obtain ⟨d,rfl⟩:=after (show 100 ≤ N by omega)
 have ht:=htail d
 rw [hθ]
 replace hs:absQ (SN (l+δ) (100+d) - (SN l (100+d) * CS δ (100+d)+CS l (100+d) * SN δ (100+d))) ≤ 1 / 10:=hs
 obtain ⟨b1,b2⟩:=cs_small d0 (by grind) (100+d)
 obtain ⟨c1,c2⟩:=CS_le (show absQ l ≤ 2 from absQ_le (by grind) (by grind)) (100+d)
 generalize SN (l+δ) (100+d)=s at *
 obtain ⟨_,t2,t3,_⟩:=absQ_spec (SN l (100+d) - SN l 100)
 generalize eQ l 101=q at *
 generalize SN l 100=s1 at *
 generalize SN l (100+d)=sl at *
 generalize CS l (100+d)=cl at *
 generalize CS δ (100+d)=cd at *
 generalize SN δ (100+d)=sd at *
 have g1:absQ (sl * (cd - 1)) ≤ 8 * (δ * 2):=by
  rw [absQ_mul]
  exact Rat.le_trans (Rat.mul_le_mul_of_nonneg_right c2 (absQ_spec _).1) (Rat.mul_le_mul_of_nonneg_left b1 (by decide))
 have g2:absQ (cl * sd) ≤ 8 * (δ * 2):=by
  rw [absQ_mul]
  exact Rat.le_trans (Rat.mul_le_mul_of_nonneg_right c1 (absQ_spec _).1) (Rat.mul_le_mul_of_nonneg_left b2 (by decide))
 obtain ⟨_,p2,p3,_⟩:=absQ_spec (sl * (cd - 1))
 obtain ⟨_,q2,q3,_⟩:=absQ_spec (cl * sd)
 obtain ⟨_,f2,f3,_⟩:=absQ_spec (s - (sl * cd+cl * sd))
 have e:sl * (cd - 1)=sl * cd - sl:=by grind
 grind
theorem hf_half:HalfPi HF:=fun ε hε=>by
 obtain ⟨θ,h1,h2,h3,h4⟩:=halfPi_of hf_le hf_0 hf_2 hf_nng hf_nps hf_sin hε
 exact ⟨θ,.inr ⟨h1,h2⟩,h3,h4⟩
def zq (k:Int):Rat × Rat:=if k % 4=0 then (1,0) else if k % 4=1 then (0,1) else if k % 4=2 then (-1,0) else (0,-1)
theorem ik_zq:∀ n:Nat,ik n=zq n
 | 0=>rfl
 | n+1=>by
  have ih:=ik_zq n
  simp only [ik,ih]
  have:(n:Int) % 4=0 ∨ (n:Int) % 4=1 ∨ (n:Int) % 4=2 ∨ (n:Int) % 4=3:=by omega
  rcases this with h | h | h | h
  ·have h':((n:Int)+1) % 4=1:=by omega
   simp [zq,h,h']
  ·have h':((n:Int)+1) % 4=2:=by omega
   simp [zq,h,h']
  ·have h':((n:Int)+1) % 4=3:=by omega
   simp [zq,h,h']
  ·have h':((n:Int)+1) % 4=0:=by omega
   simp [zq,h,h']
theorem zq_neg (k:Int):zq (-k)=((zq k).1,-(zq k).2):=by
 have:k % 4=0 ∨ k % 4=1 ∨ k % 4=2 ∨ k % 4=3:=by omega
 rcases this with h | h | h | h
 ·have h':(-k) % 4=0:=by omega
  simp [zq,h,h']
 ·have h':(-k) % 4=3:=by omega
  simp [zq,h,h']
 ·have h':(-k) % 4=2:=by omega
  simp [zq,h,h']
 ·have h':(-k) % 4=1:=by omega
  simp [zq,h,h']
theorem turn_int (k:Int) {ε:Rat} (hε:0 < ε) (h1:ε ≤ 1):∃ η,0 < η ∧ ∀ θ,Near' η (CS θ) (fun _=>0) → Near' η (SN θ) (fun _=>1) → Near' ε (CS ((k:Rat) * θ)) (fun _=>(zq k).1) ∧ Near' ε (SN ((k:Rat) * θ)) (fun _=>(zq k).2):=by
 obtain ⟨n,hn⟩:∃ n:Nat,k=n ∨ k = -n:=⟨k.natAbs,by omega⟩
 obtain ⟨η,p1,_,p3⟩:=turn_mul n hε h1
 refine ⟨η,p1,fun θ hc hs=>?_⟩
 obtain ⟨q1,q2⟩:=p3 θ hc hs
 rw [ik_zq] at q1 q2
 rcases hn with rfl | rfl
 ·have:((n:Int):Rat)=(n:Rat):=rfl
  rw [this]; exact ⟨q1,q2⟩
 ·have e:((-(n:Int):Int):Rat) * θ = -((n:Rat) * θ):=by
   rw [Rat.intCast_neg]
   have:((n:Int):Rat)=(n:Rat):=rfl
   rw [this]; grind
  rw [e,zq_neg]
  refine ⟨?_,?_⟩
  ·obtain ⟨N0,h⟩:=q1
   exact ⟨N0,fun N hN=>by rw [CS_neg]; exact h N hN⟩
  ·obtain ⟨N0,h⟩:=q2.neg
   exact ⟨N0,fun N hN=>by rw [SN_neg]; exact h N hN⟩
def rotS (S C:Iv) (j:Int):Iv:=if j=0 then S else if j=1 then C else if j=2 then negI S else negI C
def rotC (S C:Iv) (j:Int):Iv:=if j=0 then C else if j=1 then negI S else if j=2 then negI C else S
theorem small_ex {ε:Rat} (hε:0 < ε):∃ η:Rat,0 < η ∧ η ≤ 1 ∧ η * 64 ≤ ε:=by
 by_cases h:64 ≤ ε
 ·exact ⟨1,by decide +kernel,Rat.le_refl,by grind⟩
 ·exact ⟨ε / 64,by grind,by grind,by grind⟩
theorem turn_err {c s zc zs η f ck sk:Rat} (hc:absQ c ≤ 8) (hs:absQ s ≤ 8) (h1:absQ (ck - zc) ≤ η) (h2:absQ (sk - zs) ≤ η) (h:absQ (f - (c * ck - s * sk)) ≤ η):absQ (f - (c * zc - s * zs)) ≤ η * 17:=by
 have e:f - (c * zc - s * zs)=(f - (c * ck - s * sk))+(c * (ck - zc) + -s * (sk - zs)):=by grind
 rw [e]
 have t1:=absQ_add (f - (c * ck - s * sk)) (c * (ck - zc) + -s * (sk - zs))
 have t2:=absQ_add (c * (ck - zc)) (-s * (sk - zs))
 rw [absQ_mul,absQ_mul] at t2
 have hn:absQ (-s)=absQ s:=by
  obtain ⟨a1,a2,a3,a4⟩:=absQ_spec s
  obtain ⟨b1,b2,b3,b4⟩:=absQ_spec (-s)
  grind
 rw [hn] at t2
 have m1:=Rat.le_trans (Rat.mul_le_mul_of_nonneg_right hc (absQ_spec (ck - zc)).1) (Rat.mul_le_mul_of_nonneg_left h1 (show (0:Rat) ≤ 8 by decide))
 have m2:=Rat.le_trans (Rat.mul_le_mul_of_nonneg_right hs (absQ_spec (sk - zs)).1) (Rat.mul_le_mul_of_nonneg_left h2 (show (0:Rat) ≤ 8 by decide))
 grind
theorem turn_lim {H r S C:Iv} {x:Rat} {k:Int} (hp:HalfPi H) (hr:∀ θ,H.has θ → r.has (x - k * θ)) (hb:∀ ρ,r.has ρ → absQ ρ ≤ 2) {n0:Nat} (hs:∀ ρ,r.has ρ → ∀ N,n0 ≤ N → S.has (SN ρ N) ∧ C.has (CS ρ N)) :
  Lim (SN x) (rotS S C (k % 4)) ∧ Lim (CS x) (rotC S C (k % 4)):=by
 have key:∀ ε,0 < ε → ∃ ρ N0,r.has ρ ∧ n0 ≤ N0 ∧ ∀ N,N0 ≤ N → absQ (CS x N - (CS ρ N * (zq k).1 - SN ρ N * (zq k).2)) ≤ ε ∧ absQ (SN x N - (SN ρ N * (zq k).1+CS ρ N * (zq k).2)) ≤ ε:=by
  intro ε hε
  obtain ⟨η,e0,e1,e2⟩:=small_ex hε
  obtain ⟨η',f0,f⟩:=turn_int k e0 e1
  obtain ⟨θ,hθ,hc,hsn⟩:=hp η' f0
  obtain ⟨⟨N1,a1⟩,⟨N2,a2⟩⟩:=f θ hc hsn
  obtain ⟨⟨N3,a3⟩,⟨N4,a4⟩⟩:=cs_add (x - k * θ) (k * θ) e0
  have hρ:=hr θ hθ
  refine ⟨x - k * θ,max (max N1 N2) (max (max N3 N4) n0),hρ,by omega,fun N hN=>?_⟩
  have b1:absQ (CS (k * θ) N - (zq k).1) ≤ η:=a1 N (by omega)
  have b2:absQ (SN (k * θ) N - (zq k).2) ≤ η:=a2 N (by omega)
  have b3:=a3 N (by omega)
  have b4:=a4 N (by omega)
  have e:x - k * θ+k * θ=x:=by grind
  rw [e] at b3 b4
  obtain ⟨c1,c2⟩:=CS_le (hb _ hρ) N
  have r1:=turn_err c1 c2 b1 b2 b3
  have r2:=turn_err (c:=SN (x - k * θ) N) (s:=-CS (x - k * θ) N) c2 (by
   obtain ⟨u1,u2,u3,u4⟩:=absQ_spec (CS (x - k * θ) N)
   exact absQ_le (by grind) (by grind)) b1 b2 (f:=SN x N) (by
    have:SN (x - k * θ) N * CS (k * θ) N - -CS (x - k * θ) N * SN (k * θ) N=SN (x - k * θ) N * CS (k * θ) N+CS (x - k * θ) N * SN (k * θ) N:=by grind
    rw [this]; exact b4)
  have:SN (x - k * θ) N * (zq k).1 - -CS (x - k * θ) N * (zq k).2=SN (x - k * θ) N * (zq k).1+CS (x - k * θ) N * (zq k).2:=by grind
  rw [this] at r2
  exact ⟨by grind,by grind⟩
 have hz:k % 4=0 ∧ zq k=(1,0) ∨ k % 4=1 ∧ zq k=(0,1) ∨ k % 4=2 ∧ zq k=(-1,0) ∨ k % 4=3 ∧ zq k=(0,-1):=by
  have:k % 4=0 ∨ k % 4=1 ∨ k % 4=2 ∨ k % 4=3:=by omega
  rcases this with h | h | h | h <;> simp [zq,h]
 constructor
 ·intro ε hε
  obtain ⟨ρ,N0,hρ,hn,h⟩:=key ε hε
  refine ⟨N0,fun N hN=>⟨_,?_,(h N hN).2⟩⟩
  obtain ⟨s1,s2⟩:=hs ρ hρ N (by omega)
  rcases hz with ⟨h4,hz⟩ | ⟨h4,hz⟩ | ⟨h4,hz⟩ | ⟨h4,hz⟩ <;> rw [h4,hz]
  ·show Iv.has S (SN ρ N * 1+CS ρ N * 0)
   rw [show SN ρ N * 1+CS ρ N * 0=SN ρ N by grind]; exact s1
  ·show Iv.has C (SN ρ N * 0+CS ρ N * 1)
   rw [show SN ρ N * 0+CS ρ N * 1=CS ρ N by grind]; exact s2
  ·show Iv.has (negI S) (SN ρ N * -1+CS ρ N * 0)
   rw [show SN ρ N * -1+CS ρ N * 0 = -SN ρ N by grind]; exact negI_has s1
  ·show Iv.has (negI C) (SN ρ N * 0+CS ρ N * -1)
   rw [show SN ρ N * 0+CS ρ N * -1 = -CS ρ N by grind]; exact negI_has s2
 ·intro ε hε
  obtain ⟨ρ,N0,hρ,hn,h⟩:=key ε hε
  refine ⟨N0,fun N hN=>⟨_,?_,(h N hN).1⟩⟩
  obtain ⟨s1,s2⟩:=hs ρ hρ N (by omega)
  rcases hz with ⟨h4,hz⟩ | ⟨h4,hz⟩ | ⟨h4,hz⟩ | ⟨h4,hz⟩ <;> rw [h4,hz]
  ·show Iv.has C (CS ρ N * 1 - SN ρ N * 0)
   rw [show CS ρ N * 1 - SN ρ N * 0=CS ρ N by grind]; exact s2
  ·show Iv.has (negI S) (CS ρ N * 0 - SN ρ N * 1)
   rw [show CS ρ N * 0 - SN ρ N * 1 = -SN ρ N by grind]; exact negI_has s1
  ·show Iv.has (negI C) (CS ρ N * -1 - SN ρ N * 0)
   rw [show CS ρ N * -1 - SN ρ N * 0 = -CS ρ N by grind]; exact negI_has s2
  ·show Iv.has S (CS ρ N * 0 - SN ρ N * -1)
   rw [show CS ρ N * 0 - SN ρ N * -1=SN ρ N by grind]; exact s1
open Go.RowKit Fp Pu
instance decDy:DecidableEq Dy:=fun a b=>decidable_of_iff (a.neg=b.neg ∧ a.m=b.m ∧ a.e=b.e) ⟨fun ⟨h1,h2,h3⟩=>by cases a; cases b; simp_all,fun h=>by subst h; exact ⟨rfl,rfl,rfl⟩⟩
instance decIv:DecidableEq Iv:=fun a b=>decidable_of_iff (a.lo=b.lo ∧ a.hi=b.hi ∧ a.all=b.all) ⟨fun ⟨h1,h2,h3⟩=>by cases a; cases b; simp_all,fun h=>by subst h; exact ⟨rfl,rfl,rfl⟩⟩
def fifthI:Iv:=divI (numI 1) (numI 5) 400
def f239I:Iv:=divI (numI 1) (numI 239) 400
def arcA:Iv:=⟨⟨false,2038898641429006625306008822920686433567184956444374692847362694551907229075534915770360243478528509376667046613509239807,-402⟩,⟨false,2038898641429006625306008822920686433567184956444374692847362694551907229075534915770360243478528509376667046613509239903,-402⟩,false⟩
def arcC:Iv:=⟨⟨false,1382954207521768395576446092219238883442823219143474169544311698956736349700773258749363615593511106531245015254700261675,-407⟩,⟨false,1382954207521768395576446092219238883442823219143474169544311698956736349700773258749363615593511106531245015254700261957,-407⟩,false⟩
def piI:Iv:=⟨⟨false,1014047155841371404857783918912611814895143950022408150448898879701903863171748812343190420115852101928445847465915947005,-397⟩,⟨false,2028094311682742809715567837825223629790287900044816300897797759403807726343497624686380840231704203856891694931831894109,-398⟩,false⟩
set_option maxRecDepth 100000 in
theorem arc_a:ArcOk fifthI 400 86 arcA:=arcOk_of (by decide +kernel)
set_option maxRecDepth 100000 in
theorem arc_c:ArcOk f239I 400 25 arcC:=arcOk_of (by decide +kernel)
set_option maxRecDepth 100000 in
theorem pi_eq:subI (mulI (numI 16) arcA 400) (mulI (numI 4) arcC 400) 400=piI:=by decide +kernel
theorem half_eq:scaleI piI (-1)=HF:=by
 unfold scaleI
 rw [if_neg (by decide)]
 have e1:scaleE piI.lo (-1)=0:=by decide +kernel
 have e2:scaleE piI.hi (-1)=0:=by decide +kernel
 rw [e1,e2,scaleE_ok e1,scaleE_ok e2]
 decide +kernel
theorem hf_valid:HF.Valid:=by
 rw [← half_eq,← pi_eq]
 exact scaleI_valid (addI_valid (mulI_valid _ _ (by decide) (by decide)) (negI_valid (mulI_valid _ _ (by decide) (by decide))) (by decide) (by decide)) _
open Go.RowKit Fp Pu
def negE (d:Dy):Nat:=(-d.e).toNat
def flN (d:Dy) (P:Nat):Nat:=d.m / 2 ^ max P (negE d)
def flR (d:Dy) (P:Nat):Bool:=decide (d.m % 2 ^ negE d / 2 ^ P ≠ 0)
def flA (d:Dy):Nat:=flN d 0 * 2 ^ d.e.toNat
def floorD (d:Dy):Int:=if d.neg && flR d 0 then -((flA d:Nat):Int) - 1 else if d.neg then -((flA d:Nat):Int) else ((flA d:Nat):Int)
theorem half_step (n p:Nat):n / 2 ^ p=2 * (n / 2 ^ (p+1))+n / 2 ^ p % 2:=by
 rw [Nat.pow_succ,← Nat.div_div_eq_div_mul]
 omega
theorem bit_mod (n:Nat) {p N:Nat} (h:p < N):n % 2 ^ N / 2 ^ p % 2=n / 2 ^ p % 2:=by
 have h1:=Nat.testBit_mod_two_pow n N p
 rw [Nat.testBit_eq_decide_div_mod_eq,Nat.testBit_eq_decide_div_mod_eq,decide_eq_true h,Bool.true_and] at h1
 have h2:(n % 2 ^ N / 2 ^ p % 2=1) ↔ (n / 2 ^ p % 2=1):=by simpa using h1
 omega
theorem flN_low {d:Dy} {p:Nat} (h:p < negE d):flN d p=flN d (p+1):=by
 unfold flN; congr 2; omega
theorem flN_high {d:Dy} {p:Nat} (h:negE d ≤ p):flN d p=2 * flN d (p+1)+d.m / 2 ^ p % 2:=by
 unfold flN
 rw [show max p (negE d)=p by omega,show max (p+1) (negE d)=p+1 by omega]
 exact half_step _ _
theorem flR_low {d:Dy} {p:Nat} (h:p < negE d):flR d p=(flR d (p+1) || decide (d.m / 2 ^ p % 2=1)):=by
 unfold flR
 have h1:=half_step (d.m % 2 ^ negE d) p
 rw [bit_mod _ h] at h1
 rw [← Bool.decide_or]
 apply decide_eq_decide.2
 omega
theorem flR_high {d:Dy} {p:Nat} (h:negE d ≤ p):flR d p=flR d (p+1):=by
 unfold flR
 have h1:d.m % 2 ^ negE d < 2 ^ negE d:=Nat.mod_lt _ (Nat.pow_pos (by decide))
 have h2:2 ^ negE d ≤ 2 ^ p:=Nat.pow_le_pow_right (by decide) h
 have h3:2 ^ p ≤ 2 ^ (p+1):=Nat.pow_le_pow_right (by decide) (by omega)
 rw [Nat.div_eq_of_lt (by omega),Nat.div_eq_of_lt (by omega)]
theorem flN_top {d:Dy} {P:Nat} (h:d.m < 2 ^ P):flN d P=0:=by
 unfold flN
 exact Nat.div_eq_of_lt (Nat.lt_of_lt_of_le h (Nat.pow_le_pow_right (by decide) (by omega)))
theorem flR_top {d:Dy} {P:Nat} (h:d.m < 2 ^ P):flR d P=false:=by
 unfold flR
 rw [Nat.div_eq_of_lt (Nat.lt_of_le_of_lt (Nat.mod_le _ _) h)]
 rfl
theorem flN_le (d:Dy) (P:Nat):flN d P ≤ flA d:=by
 have h1:flN d P ≤ flN d 0:=Nat.div_le_div_left (Nat.pow_le_pow_right (by decide) (by omega)) (Nat.pow_pos (by decide))
 have h2:flN d 0 * 1 ≤ flA d:=Nat.mul_le_mul_left _ (Nat.pow_pos (by decide))
 omega
theorem limb_bit (m i:Nat) {k:Nat} (h:k < 32):(limbs m).getD i 0 / 2 ^ k % 2=m / 2 ^ (32 * i+k) % 2:=by
 rw [getD_dig (ok_limbs _),val_limbs]
 unfold dig
 rw [show (4294967296:Nat)=2 ^ 32 from rfl,bit_mod _ h,← Nat.pow_mul,Nat.div_div_eq_div_mul,← Nat.pow_add]
theorem flA_nat {d:Dy}:((flA d:Nat):Rat) ≤ (d.m:Rat) * P2 d.e ∧ (d.m:Rat) * P2 d.e < ((flA d:Nat):Rat)+1 ∧ (flR d 0=false → (d.m:Rat) * P2 d.e=((flA d:Nat):Rat)) ∧ (flR d 0=true → ((flA d:Nat):Rat) < (d.m:Rat) * P2 d.e):=by
 by_cases he:0 ≤ d.e
 ·have hN:negE d=0:=by unfold negE; omega
  have hr:flR d 0=false:=by unfold flR; rw [hN,Nat.pow_zero,Nat.mod_one]; rfl
  have hA:flA d=d.m * 2 ^ d.e.toNat:=by unfold flA flN; rw [hN,Nat.max_self,Nat.pow_zero,Nat.div_one]
  have e:(d.m:Rat) * P2 d.e=((flA d:Nat):Rat):=by
   rw [hA,Rat.natCast_mul,← P2_nat,Int.toNat_of_nonneg he]
  rw [e,hr]
  exact ⟨Rat.le_refl,by grind,fun _=>rfl,by nofun⟩
 ·have hN:d.e = -((negE d:Nat):Int):=by unfold negE; omega
  have hT:d.e.toNat=0:=by omega
  have hA:flA d=d.m / 2 ^ negE d:=by unfold flA flN; rw [hT,Nat.pow_zero,Nat.mul_one,Nat.zero_max]
  have hm:((d.m:Nat):Rat)=((2 ^ negE d:Nat):Rat) * ((flA d:Nat):Rat)+((d.m % 2 ^ negE d:Nat):Rat):=by
   rw [hA,← Rat.natCast_mul,← Rat.natCast_add,Nat.div_add_mod]
  have hlt:d.m % 2 ^ negE d < 2 ^ negE d:=Nat.mod_lt _ (Nat.pow_pos (by decide))
  have hlt':((d.m % 2 ^ negE d:Nat):Rat) < ((2 ^ negE d:Nat):Rat):=Rat.natCast_lt_natCast.2 hlt
  have h0:(0:Rat) ≤ ((d.m % 2 ^ negE d:Nat):Rat):=Rat.natCast_nonneg
  have hp:=P2_pos d.e
  have hpp:((2 ^ negE d:Nat):Rat) * P2 d.e=1:=by
   rw [← P2_nat,← P2_add,hN,show ((negE d:Nat):Int) + -((negE d:Nat):Int)=0 by omega,P2_zero]
  have key:(d.m:Rat) * P2 d.e=((flA d:Nat):Rat)+((d.m % 2 ^ negE d:Nat):Rat) * P2 d.e:=by
   rw [hm]; grind
  have k0:=Rat.mul_nonneg h0 (Rat.le_of_lt hp)
  have k1:=Rat.mul_lt_mul_of_pos_right hlt' hp
  rw [hpp] at k1
  have hR:flR d 0=decide (d.m % 2 ^ negE d ≠ 0):=by unfold flR; rw [Nat.pow_zero,Nat.div_one]
  refine ⟨by grind,by grind,fun hr=>?_,fun hr=>?_⟩
  ·rw [hR] at hr
   have:d.m % 2 ^ negE d=0:=by simpa using hr
   rw [key,this,show ((0:Nat):Rat)=0 from rfl]; grind
  ·rw [hR] at hr
   have hne:d.m % 2 ^ negE d ≠ 0:=by simpa using hr
   have:(0:Rat) < ((d.m % 2 ^ negE d:Nat):Rat):=by
    have:=Rat.natCast_lt_natCast (a:=0) (b:=d.m % 2 ^ negE d)
    exact this.2 (Nat.pos_of_ne_zero hne)
   have:=Rat.mul_pos this hp
   grind
theorem floor_q (d:Dy):((floorD d:Int):Rat) ≤ d.q ∧ d.q < ((floorD d:Int):Rat)+1:=by
 obtain ⟨h1,h2,h3,h4⟩:=flA_nat (d:=d)
 have hc:(((flA d:Nat):Int):Rat)=((flA d:Nat):Rat):=rfl
 have e1:((-((flA d:Nat):Int):Int):Rat) = -((flA d:Nat):Rat):=by rw [Rat.intCast_neg,hc]
 have e2:((-((flA d:Nat):Int) - 1:Int):Rat) = -((flA d:Nat):Rat) - 1:=by rw [Rat.intCast_sub,e1]; rfl
 rw [q_of]
 unfold floorD
 cases hn:d.neg
 ·simp only [Bool.false_and,Bool.false_eq_true,if_false]
  rw [hc]; exact ⟨h1,h2⟩
 ·simp only [Bool.true_and,if_true]
  cases hr:flR d 0
  ·have:=h3 hr
   simp only [Bool.false_eq_true,if_false]
   rw [e1]; constructor <;> grind
  ·have:=h4 hr
   simp only [if_true]
   rw [e2]; constructor <;> grind
open Go.RowKit Fp Pu
def serT (r:Iv) (p:Nat):Nat → Iv
 | 0=>numI 1
 | j+1=>divI (mulI (serT r p j) r p) (numI ((j+1:Nat):Int)) p
def serA (r:Iv) (p j:Nat):Iv:=if 2 ≤ j % 4 then negI (serT r p j) else serT r p j
def serS (r:Iv) (p:Nat):Nat → Iv
 | 0=>numI 0
 | j+1=>if (j+1) % 2=1 then addI (serS r p j) (serA r p (j+1)) p else serS r p j
def serC (r:Iv) (p:Nat):Nat → Iv
 | 0=>numI 1
 | j+1=>if (j+1) % 2=1 then serC r p j else addI (serC r p j) (serA r p (j+1)) p
def restJ (p:Nat):Iv:=⟨negD (pow2 (1 - p)),pow2 (1 - p),false⟩
def serSin (r:Iv) (p N:Nat):Iv:=addI (serS r p N) (restJ p) p
def serCos (r:Iv) (p N:Nat):Iv:=addI (serC r p N) (restJ p) p
theorem pow2_q (n:Int):(pow2 n).q=P2 n:=by unfold pow2; rw [q_canon]; simp
theorem around_val {n:Int} (h1:-1000 ≤ n) (h2:n ≤ 1000):(Iv.mk (negD (pow2 n)) (pow2 n) false).Valid:=by
 have hm:=pow2_valid h1 h2
 refine .inr ⟨rfl,negD_valid hm,hm,?_⟩
 show cmpD (negD (pow2 n)) (pow2 n) ≤ 0
 rw [q_le,q_neg]
 have:0 ≤ (pow2 n).q:=by rw [pow2_q]; exact Rat.le_of_lt (P2_pos n)
 grind
theorem serT_valid {r:Iv} {p:Nat} (_hr:r.Valid) (hp1:8 ≤ p) (hp2:p ≤ 512):∀ j,(serT r p j).Valid
 | 0=>numI_valid 1 (by decide)
 | j+1=>divI_valid _ _ (by omega) (by omega)
theorem serA_valid {r:Iv} {p:Nat} (hr:r.Valid) (hp1:8 ≤ p) (hp2:p ≤ 512) (j:Nat):(serA r p j).Valid:=by
 unfold serA; split
 ·exact negI_valid (serT_valid hr hp1 hp2 j)
 ·exact serT_valid hr hp1 hp2 j
theorem serS_valid {r:Iv} {p:Nat} (hr:r.Valid) (hp1:8 ≤ p) (hp2:p ≤ 512):∀ j,(serS r p j).Valid
 | 0=>numI_valid 0 (by decide)
 | j+1=>by
  unfold serS; split
  ·exact addI_valid (serS_valid hr hp1 hp2 j) (serA_valid hr hp1 hp2 _) (by omega) (by omega)
  ·exact serS_valid hr hp1 hp2 j
theorem serC_valid {r:Iv} {p:Nat} (hr:r.Valid) (hp1:8 ≤ p) (hp2:p ≤ 512):∀ j,(serC r p j).Valid
 | 0=>numI_valid 1 (by decide)
 | j+1=>by
  unfold serC; split
  ·exact serC_valid hr hp1 hp2 j
  ·exact addI_valid (serC_valid hr hp1 hp2 j) (serA_valid hr hp1 hp2 _) (by omega) (by omega)
theorem restJ_valid {r:Iv} {p:Nat} (_hr:r.Valid) (hp1:8 ≤ p) (hp2:p ≤ 512):(restJ p).Valid:=around_val (by omega) (by omega)
theorem serSin_valid {r:Iv} {p:Nat} (hr:r.Valid) (hp1:8 ≤ p) (hp2:p ≤ 512) (N:Nat):(serSin r p N).Valid:=addI_valid (serS_valid hr hp1 hp2 N) (restJ_valid hr hp1 hp2) (by omega) (by omega)
theorem serCos_valid {r:Iv} {p:Nat} (hr:r.Valid) (hp1:8 ≤ p) (hp2:p ≤ 512) (N:Nat):(serCos r p N).Valid:=addI_valid (serC_valid hr hp1 hp2 N) (restJ_valid hr hp1 hp2) (by omega) (by omega)
theorem serT_has {r:Iv} {p:Nat} (hr:r.Valid) (hp1:8 ≤ p) (hp2:p ≤ 512) {ρ:Rat} (h:r.has ρ):∀ j,j < 4294967296 → (serT r p j).has (eQ ρ j)
 | 0,_=>numI_has 1
 | j+1,hj=>by
  have e:eQ ρ (j+1)=eQ ρ j * ρ / ((j+1:Nat):Rat):=by simp only [eQ,Rat.div_def]; grind
  rw [e]
  exact divI_has (mulI_valid _ _ (by omega) (by omega)) (numI_val (j+1) hj) (by omega) (by omega) (mulI_has (serT_valid hr hp1 hp2 j) hr (by omega) (by omega) (serT_has hr hp1 hp2 h j (by omega)) h) (numN_has (j+1))
theorem serT_all {r:Iv} {p:Nat}:∀ {j d:Nat},(serT r p (j+d)).all=false → (serT r p j).all=false
 | _,0,h=>h
 | j,d+1,h=>by
  apply serT_all (d:=d)
  cases ha:(serT r p (j+d)).all
  ·rfl
  ·exfalso
   have:serT r p (j+(d+1))=wholeI:=by
    show divI (mulI (serT r p (j+d)) r p) _ p=_
    rw [mulI_wh p (.inl ha),divI_wh p (.inl rfl)]
   rw [this] at h; cases h
theorem csT_eq (c:Rat):∀ j,csT c j=(if j % 4=0 then eQ c j else if j % 4=2 then -eQ c j else 0,if j % 4=1 then eQ c j else if j % 4=3 then -eQ c j else 0)
 | 0=>by simp [csT,eQ]
 | j+1=>by
  have e:eQ c (j+1)=c / ((j+1:Nat):Rat) * eQ c j:=by simp only [eQ]; grind
  simp only [csT,csT_eq c j]
  rw [e]
  generalize c / ((j+1:Nat):Rat)=u
  generalize eQ c j=v
  have:j % 4=0 ∨ j % 4=1 ∨ j % 4=2 ∨ j % 4=3:=by omega
  rcases this with h | h | h | h
  ·have h':(j+1) % 4=1:=by omega
   simp [h,h']
  ·have h':(j+1) % 4=2:=by omega
   simp [h,h']
  ·have h':(j+1) % 4=3:=by omega
   simp [h,h']; grind
  ·have h':(j+1) % 4=0:=by omega
   simp [h,h']; grind
theorem sum_succ (f:Nat → Rat) (n:Nat):sumQ f (n+1)=sumQ f n+f n:=rfl
theorem ser_has {r:Iv} {p:Nat} (hr:r.Valid) (hp1:8 ≤ p) (hp2:p ≤ 512) {ρ:Rat} (h:r.has ρ):∀ j,j < 4294967296 → (serS r p j).has (SN ρ j) ∧ (serC r p j).has (CS ρ j)
 | 0,_=>by
  have e1:SN ρ 0=0:=by unfold SN; simp only [sumQ,csT]; grind
  have e2:CS ρ 0=1:=by unfold CS; simp only [sumQ,csT]; grind
  rw [e1,e2]; exact ⟨numI_has 0,numI_has 1⟩
 | j+1,hj=>by
  obtain ⟨i1,i2⟩:=ser_has hr hp1 hp2 h j (by omega)
  have ht:=serT_has hr hp1 hp2 h (j+1) hj
  have e1:SN ρ (j+1)=SN ρ j+(csT ρ (j+1)).2:=sum_succ _ _
  have e2:CS ρ (j+1)=CS ρ j+(csT ρ (j+1)).1:=sum_succ _ _
  rw [e1,e2,csT_eq]
  simp only [serS,serC,serA]
  have:(j+1) % 4=0 ∨ (j+1) % 4=1 ∨ (j+1) % 4=2 ∨ (j+1) % 4=3:=by omega
  have hv:=serT_valid hr hp1 hp2 (j+1)
  rcases this with h4 | h4 | h4 | h4
  ·have h2:(j+1) % 2=0:=by omega
   rw [h4,h2]; simp only [Nat.zero_ne_one,if_false,if_true,Nat.reduceLeDiff,reduceIte,Nat.reduceEqDiff]
   exact ⟨by rw [show SN ρ j+0=SN ρ j by grind]; exact i1,addI_has (serC_valid hr hp1 hp2 j) hv (by omega) (by omega) i2 ht⟩
  ·have h2:(j+1) % 2=1:=by omega
   rw [h4,h2]; simp only [if_true,Nat.reduceLeDiff,reduceIte,Nat.reduceEqDiff]
   exact ⟨addI_has (serS_valid hr hp1 hp2 j) hv (by omega) (by omega) i1 ht,by rw [show CS ρ j+0=CS ρ j by grind]; exact i2⟩
  ·have h2:(j+1) % 2=0:=by omega
   rw [h4,h2]; simp only [Nat.zero_ne_one,if_false,if_true,Nat.reduceLeDiff,reduceIte,Nat.reduceEqDiff]
   exact ⟨by rw [show SN ρ j+0=SN ρ j by grind]; exact i1,addI_has (serC_valid hr hp1 hp2 j) (negI_valid hv) (by omega) (by omega) i2 (negI_has ht)⟩
  ·have h2:(j+1) % 2=1:=by omega
   rw [h4,h2]; simp only [if_true,Nat.reduceLeDiff,reduceIte,Nat.reduceEqDiff]
   exact ⟨addI_has (serS_valid hr hp1 hp2 j) (negI_valid hv) (by omega) (by omega) i1 (negI_has ht),by rw [show CS ρ j+0=CS ρ j by grind]; exact i2⟩
theorem ser_tail {c:Rat} (h2:absQ c ≤ 2) {N:Nat} (hN:7 ≤ N) (d:Nat):absQ (CS c (N+d) - CS c N) ≤ absQ (eQ c N) ∧ absQ (SN c (N+d) - SN c N) ≤ absQ (eQ c N):=by
 have hz:=(absQ_spec c).1
 have t:=tail_sum (z:=absQ c) (J:=4) hz (by show absQ c * 2 ≤ 4; grind) (show 4 ≤ N+1 by omega) d
 have p0:=eQ_nonneg hz (N+1+d)
 have s1:=sum_abs (fun i=>(csT_abs c (N+1+i)).1) d
 have s2:=sum_abs (fun i=>(csT_abs c (N+1+i)).2) d
 have e1:CS c (N+d) - CS c N=sumQ (fun i=>(csT c (N+1+i)).1) d:=by
  unfold CS
  rw [show N+d+1=N+1+d by omega,sumQ_split]
  grind
 have e2:SN c (N+d) - SN c N=sumQ (fun i=>(csT c (N+1+i)).2) d:=by
  unfold SN
  rw [show N+d+1=N+1+d by omega,sumQ_split]
  grind
 have e3:eQ (absQ c) (N+1) * 2 ≤ eQ (absQ c) N:=tail_half hz (J:=4) (by show absQ c * 2 ≤ 4; grind) (show 4 ≤ N by omega)
 rw [e1,e2,eQ_abs]
 exact ⟨by grind,by grind⟩
theorem has_mag {x:Iv} {r:Rat} (h:x.has r) (ha:x.all=false) (hv:x.Valid):absQ r ≤ (magI x).q:=by
 obtain ⟨h1,h2⟩:=h.ends ha
 obtain ⟨m1,m2,_⟩:=magI_q hv.q
 exact absQ_le (by grind) (by grind)
theorem series_has {r:Iv} {p N:Nat} (hr:r.Valid) (hp1:8 ≤ p) (hp2:p ≤ 512) (hN:7 ≤ N) (hN2:N ≤ 1000) (ha:(serT r p N).all=false) (hb:cmpD (magI (serT r p N)) (pow2 (0 - p)) < 0) {ρ:Rat} (h:r.has ρ) (h2:absQ ρ ≤ 2) :
  ∀ M,N ≤ M → (serSin r p N).has (SN ρ M) ∧ (serCos r p N).has (CS ρ M):=by
 intro M hM
 obtain ⟨d,rfl⟩:∃ d,M=N+d:=⟨M - N,by omega⟩
 have hm:=has_mag (serT_has hr hp1 hp2 h N (by omega)) ha (serT_valid hr hp1 hp2 N)
 rw [q_lt,pow2_q] at hb
 have hpp:P2 (0 - (p:Int)) ≤ P2 (1 - (p:Int)):=P2_le (by omega)
 obtain ⟨t1,t2⟩:=ser_tail h2 hN d
 obtain ⟨s1,s2⟩:=ser_has hr hp1 hp2 h N (by omega)
 have hrest:∀ t,absQ t ≤ absQ (eQ ρ N) → (restJ p).has t:=by
  intro t ht
  obtain ⟨_,a2,a3,_⟩:=absQ_spec t
  refine .inr ⟨?_,?_⟩
  ·show (negD (pow2 _)).q ≤ t
   rw [q_neg,pow2_q]; grind
  ·show t ≤ (pow2 _).q
   rw [pow2_q]; grind
 have hv:=restJ_valid hr hp1 hp2
 constructor
 ·have:=addI_has (serS_valid hr hp1 hp2 N) hv (p:=p) (by omega) (by omega) s1 (hrest _ t2)
  rwa [show SN ρ N+(SN ρ (N+d) - SN ρ N)=SN ρ (N+d) by grind] at this
 ·have:=addI_has (serC_valid hr hp1 hp2 N) hv (p:=p) (by omega) (by omega) s2 (hrest _ t1)
  rwa [show CS ρ N+(CS ρ (N+d) - CS ρ N)=CS ρ (N+d) by grind] at this
open Go.RowKit Fp Pu
def twoI:Iv:=⟨⟨true,1,1⟩,⟨false,1,1⟩,false⟩
set_option maxRecDepth 100000 in
theorem ser_end:(serT twoI 380 100).all=false ∧ cmpD (magI (serT twoI 380 100)) (pow2 (0 - ((380:Nat):Int))) < 0:=by decide +kernel
open Go.RowKit Fp Pu
def arcF (y:Iv) (p:Nat) (x:Nat):PS:=⟨41,true,[(8,.e (iP (((2 * x+3):Nat):Int))),(7,.box 7 0),(6,.box 6 0),(5,.box 5 0),(4,.box 4 0),(1,.e (iP p))],[(7,.cells 28 (ivL (arcS y p x))),(6,.cells 28 (ivL (arcP y p x))),(5,.cells 28 (ivL (arcQ y p))),(4,.cells 28 [(bP false),(.v (.slice none 0 0)),(iP 0),(bP false),(.v (.slice none 0 0)),(iP 0),(bP false)])]⟩
theorem arcP_valid {y:Iv} (hy:y.Valid) {p:Nat} (hp1:1 ≤ p) (hp2:p ≤ 1000):∀ x,(arcP y p x).Valid
 | 0=>hy
 | x+1=>negI_valid (mulI_valid _ _ hp1 (by omega))
theorem arcS_valid {y:Iv} (hy:y.Valid) {p:Nat} (hp1:1 ≤ p) (hp2:p ≤ 1000):∀ x,(arcS y p x).Valid
 | 0=>hy
 | x+1=>addI_valid (arcS_valid hy hp1 hp2 x) (divI_valid _ _ hp1 (by omega)) hp1 (by omega)
theorem around_valid {n:Int} (h1:-1000 ≤ n) (h2:n ≤ 1000):(Iv.mk (negD (pow2 n)) (pow2 n) false).Valid:=by
 have hm:=pow2_valid h1 h2
 refine .inr ⟨rfl,negD_valid hm,hm,?_⟩
 show cmpD (negD (pow2 n)) (pow2 n) ≤ 0
 rw [q_le,q_neg]
 have:0 ≤ (pow2 n).q:=by
  have e:(pow2 n).q=P2 n:=by unfold pow2; rw [q_canon]; simp
  rw [e]; exact Rat.le_of_lt (P2_pos n)
 grind
set_option maxHeartbeats 1000000 in
theorem r10Arc_pc (y:Iv) (p N:Nat) (R:Iv) (hy:y.Valid) (hp1:8 ≤ p) (hp2:p ≤ 512) (hN:N ≤ 1000) (ok:ArcOk y p N R):PCt 202 [(ivP y),(iP p)] (ivP R):=by
 exact tr true Tryz.call202 Tryz.func202 (chain [.c (r5Square_pc y p ‹_› (by omega) (by omega)),
  .s (Sp.upto (arcF y p) 0 N (by omega) (fun x hx hltx=>by
    have hw:=ok.go x hltx
    exact spt (chain [r64 (0 - (p:Int)) (by omega),.c (r10Below_pc (arcP y p x) (0 - (p:Int)) (arcP_valid hy (by omega) (by omega) _) hw.1 (by omega) (by omega)),tB 17 (decide_eq_false hw.2),
     .c (r5Mul_pc (arcP y p x) (arcQ y p) p (arcP_valid hy (by omega) (by omega) _) (mulI_valid _ _ (by omega) (by omega)) (by omega) (by omega)),.c (r5Neg_pc (mulI (arcP y p x) (arcQ y p) p) (mulI_valid _ _ (by omega) (by omega))),
     .c (r10Whole_pc (((2 * x+3):Nat):Int) (by omega)),
     .c (r5Div_pc (negI (mulI (arcP y p x) (arcQ y p) p)) (numI (((2 * x+3):Nat):Int)) p (negI_valid (mulI_valid _ _ (by omega) (by omega))) (numZ_valid (by omega)) (by omega) (by omega)),
     .c (r5Add_pc (arcS y p x) (divI (negI (mulI (arcP y p x) (arcQ y p) p)) (numI (((2 * x+3):Nat):Int)) p) p (arcS_valid hy (by omega) (by omega) _) (divI_valid _ _ (by omega) (by omega)) (by omega) (by omega)),
     r64 ((((2 * x+3):Nat):Int)+2) (by omega)] <| .e (chain [.o 8 (.int (by first | rfl | omega | (simp only [Nat.add_mul,Nat.one_mul]; omega)):PV.le (.e (iP ((((2 * x+3)+2):Nat):Int))) (.e (iP (((2 * (x+1)+3):Nat):Int)))),
  .b 7 (.of_eq rfl:Bx.le (.cells 28 (ivL (addI (arcS y p x) (divI (negI (mulI (arcP y p x) (arcQ y p) p)) (numI (((2 * x+3):Nat):Int)) p) p))) (.cells 28 (ivL (arcS y p (x+1))))),
  .b 6 (.of_eq rfl:Bx.le (.cells 28 (ivL (negI (mulI (arcP y p x) (arcQ y p) p)))) (.cells 28 (ivL (arcP y p (x+1)))))] <| .nil)) (by kernel_rfl))
  (fun hx=>by
    have hw:=ok.out
    exact spt (chain [r64 (0 - (p:Int)) (by omega),.c (r10Below_pc (arcP y p N) (0 - (p:Int)) (arcP_valid hy (by omega) (by omega) _) hw.1 (by omega) (by omega)),tB 17 (decide_eq_true hw.2)] <| .nil) (by kernel_rfl)) (by nofun):LpT 4 Tryz.f202 (arcF y p 0) (.exit 0) ⟨41,true,[(7,.box 7 0),(4,.box 4 0),(1,.e (iP p))],[(7,.cells 28 (ivL (arcS y p N))),(4,.cells 28 [(bP false),(.v (.slice none 0 0)),(iP 0),(bP false),(.v (.slice none 0 0)),(iP 0),(bP false)])]⟩) (chain [.o 8 (.int (by first | rfl | omega | (simp only [Nat.add_mul,Nat.one_mul]; omega)):PV.le (.e (iP 3)) (.e (iP (((2 * 0+3):Nat):Int)))),.b 7 (.of_eq rfl:Bx.le (.cells 28 (ivL y)) (.cells 28 (ivL (arcS y p 0)))),
  .b 6 (.of_eq rfl:Bx.le (.cells 28 (ivL y)) (.cells 28 (ivL (arcP y p 0))))] <| .nil),
  r64 (0 - (p:Int)) (by omega),.c (r10Power_pc (0 - (p:Int)) (by omega) (by omega)),.c (r10Around_pc (pow2 (0 - (p:Int)))),
  .c (r5Add_pc (arcS y p N) (Iv.mk (negD (pow2 (0 - (p:Int)))) (pow2 (0 - (p:Int))) false) p (arcS_valid hy (by omega) (by omega) _) (around_valid (by omega) (by omega)) (by omega) (by omega))] <| rQ (ivP (addI (arcS y p N) (Iv.mk (negD (pow2 (0 - (p:Int)))) (pow2 (0 - (p:Int))) false) p)) (ivP R) (congrArg ivP ok.val)) (by kernel_rfl)
theorem arcR_valid {y:Iv} (hy:y.Valid) {p:Nat} (hp1:1 ≤ p) (hp2:p ≤ 1000) (N:Nat):(arcR y p N).Valid:=addI_valid (arcS_valid hy hp1 hp2 N) (around_valid (by omega) (by omega)) hp1 (by omega)
theorem arcA_valid:arcA.Valid:=by rw [← arc_a.val]; exact arcR_valid (divI_valid _ _ (by decide) (by decide)) (by decide) (by decide) _
theorem arcC_valid:arcC.Valid:=by rw [← arc_c.val]; exact arcR_valid (divI_valid _ _ (by decide) (by decide)) (by decide) (by decide) _
set_option maxHeartbeats 1000000 in
theorem r10Pi_pc  : PCt 165 [(iP 380)] (ivP piI):=by
 exact tr true Tryz.call165 Tryz.func165 (chain [r64 (380+20) (by omega),.o 7 (.int (by decide):PV.le (.e (iP (380+20))) (.e (iP 400))),.c (r10Whole_pc 1 (by omega)),.c (r10Whole_pc 5 (by omega)),
  .c (r5Div_pc (numI 1) (numI 5) 400 (numZ_valid (by omega)) (numZ_valid (by omega)) (by omega) (by omega)),.c (r10Arc_pc fifthI 400 86 arcA (divI_valid _ _ (by decide) (by decide)) (by decide) (by decide) (by decide) arc_a),
  .c (r10Whole_pc 1 (by omega)),.c (r10Whole_pc 239 (by omega)),.c (r5Div_pc (numI 1) (numI 239) 400 (numZ_valid (by omega)) (numZ_valid (by omega)) (by omega) (by omega)),
  .c (r10Arc_pc f239I 400 25 arcC (divI_valid _ _ (by decide) (by decide)) (by decide) (by decide) (by decide) arc_c),.c (r10Whole_pc 16 (by omega)),.c (r5Mul_pc (numI 16) arcA 400 (numZ_valid (by omega)) arcA_valid (by omega) (by omega)),
  .c (r10Whole_pc 4 (by omega)),.c (r5Mul_pc (numI 4) arcC 400 (numZ_valid (by omega)) arcC_valid (by omega) (by omega)),
  .c (r5Sub_pc (mulI (numI 16) arcA 400) (mulI (numI 4) arcC 400) 400 (mulI_valid _ _ (by omega) (by omega)) (mulI_valid _ _ (by omega) (by omega)) (by omega) (by omega))] <| rQ (ivP (subI (mulI (numI 16) arcA 400) (mulI (numI 4) arcC 400) 400)) (ivP piI) (congrArg ivP pi_eq)) (by kernel_rfl)
end Go.Proofs.YtdppllbbgfekaaaGreatDoor
