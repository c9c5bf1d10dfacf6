/- Texts: Nat Kit Ca Pa Pb Pc Pd Pe Pf Pg Ph Pi Pj Pk Pl Pm Pn Po Py Pp Pq Wa Wb Wc. -/
import Derived.Test.YtdgnpeddgdclhaaGreatDoorProg
import Derived.WalkKit
import Derived.BigQuiet
import Derived.WalkSpells
import Derived.WalkLawsBesides
import Derived.Lib.Hide
import Derived.Deep.RegionHeld3
import Derived.Maps.AppendAt
import Derived.Deep.AppendLies
import Derived.Deep.Draws
import Derived.Deep.DeepFit
import Derived.Laws.AppendOwnNone
import Derived.Shelf.Small.Bits
import Derived.Shelf.Spec.TrailingZeros
import Derived.Test.YtdgnpeddgdclhaaGreatDoorCards
import Derived.Test.YtdgnpeddgdclhaaGreatDoorTie
import Derived.ProofKit
import Derived.OpenShut
import Derived.Deep.DeepHandedRow
import Derived.Lib.LaidTab
import Derived.Laws.AppendOwn
import Derived.Laws.MakeOwn
import Derived.Laws.Slices
import Derived.Orders
import Derived.Laws.Build
set_option linter.unusedSimpArgs false
set_option linter.unusedVariables false
set_option linter.defProp false
set_option maxHeartbeats 4000000
namespace Go.Proofs.YtdgnpeddgdclhaaGreatDoor
theorem ae{p:Prop}(h:p:=by omega):p:=h
theorem af{p:Prop}(h:p:=by assumption):p:=h
theorem ag{p:Prop}(h:p:=by decide):p:=h
theorem ah{p:Prop}(h:p:=by kernel_rfl):p:=h
theorem ai{p:Prop}(h:p:=by rfl):p:=h
theorem aj{p:Prop}(h:p:=by simp):p:=h
theorem ak{p:Prop}(h:p:=by nofun):p:=h
theorem an{p:Prop}(h:p:=by simp<;>omega):p:=h
theorem aq{p:Prop}(h:p:=by grind):p:=h
theorem ar{p:Prop}(h:p:=by decide +kernel):p:=h
theorem au{p:Prop}(h:p:=by split<;>omega):p:=h
theorem av{p:Prop}(h:p:=by simp;omega):p:=h
theorem aw{α:Type _}[BEq α][LawfulBEq α]{a b:α}(h:a≠b):(a==b)=false:=beq_eq_false_iff_ne.2 h
theorem ax{α:Type _}[BEq α][LawfulBEq α]{a b:α}(h:a=b):(a==b)=true:=beq_iff_eq.2 h
theorem ay{b:Bool}(h:¬b=true):b=false:=Bool.eq_false_iff.2 h
theorem az{α:Type _}[BEq α][LawfulBEq α]{a b:α}(h:a=b):(a != b)=false:=bne_eq_false_iff_eq.2 h
theorem aA{α:Type _}[BEq α][LawfulBEq α]{a b:α}(h:a≠b):(a != b)=true:=bne_iff_ne.2 h
def aB:=@if_neg
def aC:=@if_pos
def aD:=@decide_eq_false
def aE:=@decide_eq_true
def aF:=@List.getD_eq_getElem?_getD
def aG:=@Nat.le_refl
def aH:=@Nat.pow_add
def aI:=@Nat.le_trans
def aJ:=@Nat.pow_pos
def aK:=@Nat.one_mul
def aL:=@if_false
def aM:=@List.getElem?_eq_getElem
def aN:=@Nat.pow_succ
def aO:=@Nat.add_mul
def aP:=@Nat.mul_assoc
def aQ:=@Nat.mul_comm
def aR:=@Nat.pow_le_pow_right
def aS:=@Nat.mod_lt
def aT:=@Bool.false_eq_true
def aU:=@Rat.le_trans
def aV:=@Nat.not_lt_zero
def aW:=@if_true
def aX:=@Bool.and_eq_true
def aY:=@Nat.mul_add
def aZ:=@Rat.le_of_lt
def a6:=@Nat.mul_le_mul_right
def a7:=@Nat.lt_of_lt_of_le
def bc:=@Option.some.injEq
def bd:=@Nat.add_zero
def bg:=@List.all_eq_true
def bh:=@Classical.byContradiction
def bj:=@Nat.div_le_self
def bk:=@Rat.mul_nonneg
def bn:=@Nat.mod_eq_of_lt
def bq:=@Nat.zero_le
def bt:=@List.mem_range
def bu:=@List.getElem?_eq_none
def bw:=@Rat.le_refl
def bA:=@List.getElem?_eq_some_iff
def bB:=@List.length_take
def bC:=@Nat.div_lt_iff_lt_mul
def bD:=@Nat.mul_one
def bE:=@Nat.lt_of_le_of_lt
def bF:=@decide_eq_true_eq
def bG:=@Nat.pow_zero
def bH:=@Prod.mk.injEq
def bI:=@Int.le_refl
def bJ:=@Rat.mul_le_mul_of_nonneg_right
def bK:=@Nat.zero_add
def bL:=@List.getElem?_map
def bM:=@Nat.div_add_mod
def bN:=@Nat.mul_le_mul_left
def bO:=@List.length_append
def bQ:=@Nat.mul_zero
def bR:=@List.getElem_mem
def bS:=@Nat.zero_mul
def bT:=@Rat.mul_le_mul_of_nonneg_left
def bU:=@List.take_of_length_le
def bV:=@of_decide_eq_true
def bW:=@Nat.div_eq_of_lt
def bX:=@List.length_map
def bY:=@Nat.div_div_eq_div_mul
def bZ:=@List.length_set
def b6:=@Option.map_eq_some_iff
def b7:=@Nat.le_of_ble_eq_true
def b8:=@Option.map_some
def b9:=@Rat.div_def
def ca:=@Nat.mul_lt_mul_of_pos_right
def cg:=@Classical.choose_spec
def ch:=@Nat.div_mul_le_self
def cj:=@Rat.natCast_nonneg
def ck:=@Nat.add_assoc
def cr:=@Array.getElem?_eq_some_iff
def ct:=@Nat.le_div_iff_mul_le
def cv:=@List.mem_cons
def cw:=@Nat.min_eq_left
def cz:=@Nat.mul_le_mul
def cA:=@Rat.natCast_mul
def cB:=@List.mem_map
def cC:=@Nat.mul_left_comm
def cD:=@List.length_cons
def cE:=@List.eq_nil_of_length_eq_zero
def cF:=@Nat.mod_one
def cG:=@List.mem_iff_getElem?
def cH:=@Array.ext'
def cI:=@Nat.sub_le
def cJ:=@Nat.le_of_lt
def cK:=@Rat.natCast_le_natCast
def cL:=@Rat.not_lt
def cM:=@Nat.mod_add_div
def cN:=@Nat.mul_ne_zero
def cO:=@Nat.beq_refl
def cP:=@beq_false
def cQ:=@Array.length_toList
def cR:=@Array.mem_of_getElem?
def cS:=@Rat.div_mul_cancel
def cT:=@List.mem_append
def cU:=@Nat.mul_div_cancel
def cV:=@Bool.not_false
def cW:=@Nat.sub_self
def cX:=@List.any_eq_true
def cY:=@Nat.pos_of_ne_zero
def c9:=@Bool.eq_iff_iff
def dc:=@Rat.intCast_natCast
def de:=@Rat.mul_pos
def df:=@Rat.natCast_add
def dg:=@Rat.mul_lt_mul_of_pos_right
def dh:=@Nat.add_mul_mod_self_left
def di:=@List.drop_eq_nil_of_le
def dj:=@Nat.add_sub_cancel
def dk:=@List.getElem_cons_succ
def dm:=@Nat.ne_of_gt
def dp:=@List.getElem?_take
def dq:=@List.mem_of_getElem?
def dr:=@Bool.not_true
def dt:=@Nat.eq_zero_or_pos
def du:=@List.getElem?_append_left
def dv:=@List.any_eq_false
def dw:=@Nat.sub_zero
def dx:=@List.length_pos_iff
def dz:=@Int.natAbs_natCast
def dA:=@Nat.mod_le
def dB:=@Rat.mul_assoc
def dC:=@Int.toNat_of_nonneg
def dD:=@List.mem_of_mem_take
def dE:=@List.take_succ_cons
def dF:=@List.getElem?_drop
def dG:=@List.getElem?_append_right
def dH:=@List.length_drop
def dI:=@not_false_eq_true
def dJ:=@Bool.not_eq_true'
def dK:=@Int.natCast_mul
def dL:=@Int.eq_ofNat_of_zero_le
def ado:=@Nat.xor_lt_two_pow
def agy:=@Nat.div_one
def agz:=@List.mem_of_mem_drop
def agA:=@Nat.add_mul_div_left
def agB:=@Nat.sub_add_cancel
def agC:=@List.drop_eq_getElem_cons
def agD:=@Array.getElem?_modify
def agE:=@List.getElem_toArray
def agF:=@List.getElem_cons_zero
def agG:=@List.drop_zero
def agH:=@List.drop_succ_cons
def agI:=@List.take_zero
def agJ:=@List.mem_flatMap
def agK:=@List.map_cons
def agL:=@Nat.mul_add_div
def agM:=@Nat.mul_add_mod
def agN:=@List.ext_getElem?
def agO:=@Array.mem_append
def agP:=@getElem!_pos
def agQ:=@Nat.and_lt_two_pow
def agR:=@List.take_length
def agS:=@BitVec.toNat_ofInt
def agT:=@Bool.true_and
def agU:=@Rat.le_of_mul_le_mul_right
def agV:=@Rat.mul_comm
def agW:=@Rat.le_antisymm
def agX:=@List.take_succ_eq_append_getElem
def agY:=@Nat.mul_right_comm
def agZ:=@Nat.mul_mod_left
def ag0:=@Int.toNat_natCast
def ag1:=@List.getElem?_append
def ag2:=@List.size_toArray
def ag3:=@Array.mem_range
def ag4:=@List.map_congr_left
def ag5:=@Bool.or_eq_true
def ag6:=@List.getElem?_replicate
def ag7:=@Int.natCast_add
def ag8:=@Nat.pow_lt_pow_right
def ag9:=@Int.natAbs_neg
def aha:=@Rat.intCast_le_intCast
def ahb:=@Rat.natCast_pos
def ahc:=@List.length_singleton
def ahd:=@Nat.le_mul_of_pos_left
def ahe:=@Nat.le_mul_of_pos_right
def ahf:=@Array.getElem_mem
def ahg:=@List.getElem?_toArray
def ahh:=@Option.bind_eq_some_iff
def ahi:=@Option.isSome_iff_exists
def ahj:=@BitVec.ofInt_natCast
def ahk:=@BitVec.toNat_ofNat
def ahl:=@decide_eq_true_iff
def ahm:=@Nat.div_le_div_left
def ahn:=@Rat.inv_mul_cancel
def aho:=@of_decide_eq_false
def ahp:=@Array.getElem_setIfInBounds_ne
def ahq:=@Nat.and_two_pow_sub_one_eq_mod
end Go.Proofs.YtdgnpeddgdclhaaGreatDoor
namespace Go.Proofs.YtdgnpeddgdclhaaGreatDoor.Fp
def val:List Nat->Nat
 | []=>0
 | x::l=>x+4294967296*val l
def ej(L:List Nat):Prop:=∀ x,x ∈ L->x<4294967296
theorem ej.nil:ej []:=by intro x h;cases h
theorem ej.cons{x:Nat}{l:List Nat}(hx:x<4294967296)(h:ej l):ej (x::l):=by
 intro y hy;rcases cv.1 hy with rfl|hy;exact hx;exact h _ hy
theorem ej.head{x:Nat}{l:List Nat}(h:ej (x::l)):x<4294967296:=h x aj 
theorem ej.tail{x:Nat}{l:List Nat}(h:ej (x::l)):ej l:=fun y hy=>h y (by simp[hy])
theorem ej.append{l m:List Nat}(h:ej l)(k:ej m):ej (l++m):=by
 intro x hx;rcases cT.1 hx with hx|hx;exact h _ hx;exact k _ hx
theorem ej.take{l:List Nat}(h:ej l)(n:Nat):ej (l.take n):=fun x hx=>h x (dD hx)
theorem ej.drop{l:List Nat}(h:ej l)(n:Nat):ej (l.drop n):=fun x hx=>h x (agz hx)
theorem ej.get{l:List Nat}(h:ej l){i:Nat}(hi:i<l.length):l[i]<4294967296:=h _ (bR hi)
theorem ej.getD{l:List Nat}(h:ej l)(i:Nat):l.getD i 0<4294967296:=by
 rw[aF];by_cases hi:i<l.length
 .rw [aM hi];exact h.get hi
 .rw [bu ae];decide
theorem ej.yW(n:Nat):ej (List.replicate n 0):=by
 intro x hx;rw[List.mem_replicate]at hx;rw[hx.2];decide
@[simp] theorem tS:val []=0:=rfl
@[simp] theorem lZ (x:Nat) (l:List Nat):val (x::l)=x+4294967296*val l:=rfl
theorem pX(l m:List Nat):val (l++m)=val l+4294967296^l.length*val m:=by
 induction l with
 | nil=>simp
 | cons x l ih=>
  simp only[List.cons_append,lZ,ih,cD,aN];rw[aY,aQ (4294967296^l.length) 4294967296,aP];omega
theorem iG{l:List Nat}(h:ej l):val l<4294967296^l.length:=by
 induction l with
 | nil=>simp
 | cons x l ih=>
  have h1:=h.head;have h2:=ih h.tail;simp only[lZ,cD,aN];have:val l+1<=4294967296^l.length:=h2;have:=bN 4294967296 this;rw[aQ (4294967296^l.length)];omega
theorem vc(n:Nat):val (List.replicate n 0)=0:=by
 induction n with
 | zero=>rfl
 | succ n ih=>simp[List.replicate_succ,ih]
theorem zg(l:List Nat)(n:Nat)(hn:n<=l.length):val l=val (l.take n)+4294967296^n*val (l.drop n):=by
 conv=>lhs;rw[<-List.take_append_drop n l,pX]
 rw[bB,cw hn]
theorem vd(l:List Nat)(n:Nat)(hn:n<l.length):val (l.take (n+1))=val (l.take n)+4294967296^n*l[n]:=by
 rw[agX hn,pX,bB,cw ae];simp
theorem afK{l:List Nat}(h:ej l)(n:Nat):val (l.take n)=val l%4294967296^n:=by
 by_cases hn:n<=l.length
 .rw [zg l n hn,dh,bn]
  have:=iG (h.take n);rwa[bB,cw hn]at this
 .rw [bU ae,bn]
  refine a7 (iG h) (aR ag ae)
theorem BW{l:List Nat}(h:ej l)(n:Nat):val (l.drop n)=val l/4294967296^n:=by
 by_cases hn:n<=l.length
 .rw [zg l n hn]
  have:=iG (h.take n);rw[bB,cw hn]at this;rw[agA _ _ (aJ ag),bW this,bK]
 .rw [di ae,bW];rfl
  exact a7 (iG h) (aR ag ae)
def dZ:List Nat->List Nat
 | []=>[]
 | x::l=>match dZ l with
  | []=>if x=0 then[]else[x]
  | y::m=>x::y::m
def ig(L:List Nat):Nat:=(dZ L).length
theorem RB(l:List Nat):dZ (l++[0])=dZ l:=by
 induction l with
 | nil=>rfl
 | cons x l ih=>simp only[List.cons_append,dZ,ih]
theorem RA(l:List Nat)(x:Nat)(hx:x≠0):dZ (l++[x])=l++[x]:=by
 induction l with
 | nil=>simp[dZ,hx]
 | cons y l ih=>
  simp only[List.cons_append,dZ,ih];cases l<;>rfl
theorem BU(L:List Nat):dZ L=L.take (ig L):=by
 unfold ig
 induction L with
 | nil=>rfl
 | cons x l ih=>
  simp only[dZ];cases h:dZ l with
  | nil=>by_cases hx:x=0<;>simp[hx]
  | cons y m=>
   rw[h]at ih;simp only[cD,dE];rw[cD]at ih;rw[<-ih]
theorem ky(L:List Nat):ig L<=L.length:=by
 have h:=congrArg List.length (BU L);rw[bB]at h;unfold ig at h ⊢;omega
theorem kS(L:List Nat):val (dZ L)=val L:=by
 induction L with
 | nil=>rfl
 | cons x l ih=>
  simp only[dZ];cases h:dZ l with
  | nil=>rw[h]at ih;by_cases hx:x=0<;>simp[hx,<-ih]
  | cons y m=>rw[h]at ih;simp only[lZ]at ih ⊢;rw[ih]
theorem ej.dZ{L:List Nat}(h:ej L):ej (Fp.dZ L):=by rw[BU];exact h.take _
def Trim(L:List Nat):Prop:=dZ L=L
theorem tO(L:List Nat):Trim (dZ L):=by
 unfold Trim
 induction L with
 | nil=>rfl
 | cons x l ih=>
  simp only[dZ];cases h:dZ l with
  | nil=>by_cases hx:x=0<;>simp[hx,dZ]
  | cons y m=>rw[h]at ih;simp only[dZ]at ih ⊢;rw[ih]
theorem Trim.nil:Trim []:=rfl
theorem u9(L:List Nat):Trim L↔∀ h:0<L.length,L[L.length-1]≠0:=by
 rcases List.eq_nil_or_concat L with rfl|⟨l,x,rfl⟩
 .simp [Trim,dZ]
 .simp only[List.concat_eq_append,bO,ahc,dj,List.getElem_concat_length]
  constructor
  .intro h _ hx
   subst hx;have:=congrArg List.length h;rw[RB]at this;have h2:=ky l;unfold ig at h2;rw[bO]at this;simp at this;omega
  .intro h
   exact RA l x (h ae)
theorem Es(L:List Nat)(n:Nat)(hn:n<L.length)(h0:L[n]=0):ig (L.take (n+1))=ig (L.take n):=by
 unfold ig;rw[agX hn,h0,RB]
theorem Er(L:List Nat)(n:Nat)(hn:n<L.length)(h0:L[n]≠0):ig (L.take (n+1))=n+1:=by
 unfold ig;rw[agX hn,RA _ _ h0];simp;omega
theorem Trim.Fu{x:Nat}{l:List Nat}(h:Trim (x::l)):Trim l:=by
 rw[u9]at h ⊢;intro hl;have:=h aj;simp only[cD,dj]at this;have e:(x::l)[l.length]'( aj)=l[l.length-1]:=by
  rw[List.getElem_cons];rw[dif_neg ae]
 rwa[e]at this
theorem Trim.tU{L:List Nat}(h:Trim L)(hl:L≠[]):0<val L:=by
 induction L with
 | nil=>exact absurd rfl hl
 | cons x l ih=>
  simp only[lZ];by_cases mB:l=[]
  .subst mB
   have:=(u9 _).1 h aj;simp at this;simp;omega
  .have:=ih h.Fu mB
   omega
theorem Trim.ext{L M:List Nat}(hL:Trim L)(hM:Trim M)(kL:ej L)(kM:ej M)(h:val L=val M):L=M:=by
 induction L generalizing M with
 | nil=>
  by_cases hm:M=[]
  .exact hm.symm
  .have:=hM.tU hm;rw[<-h]at this;simp at this
 | cons x l ih=>
  cases M with
  | nil=>have:=hL.tU aj;rw[h]at this;simp at this
  | cons y m=>
   simp only[lZ]at h;have h1:=kL.head;have h2:=kM.head;have e:x=y:= ae ;subst e;rw[ih hL.Fu hM.Fu kL.tail kM.tail ae]
def dN(n:Nat):List Nat:=if n=0 then[]else n%4294967296::dN (n/4294967296)
termination_by n
decreasing_by exact Nat.div_lt_self ae ag 
theorem j8:dN 0=[]:=by rw[dN];rfl
theorem yE{n:Nat}(h:n≠0):dN n=n%4294967296::dN (n/4294967296):=by rw[dN,aB h]
theorem eV(n:Nat):val (dN n)=n:=by
 induction n using Nat.strongRecOn with
 | _ n ih=>
  by_cases h:n=0
  .subst h;rw[j8];rfl
  .rw [yE h,lZ,ih _ (Nat.div_lt_self ae ag)]
   exact cM n 4294967296
theorem gr(n:Nat):ej (dN n):=by
 induction n using Nat.strongRecOn with
 | _ n ih=>
  by_cases h:n=0
  .subst h;rw[j8];exact ej.nil
  .rw [yE h]
   exact ej.cons (aS _ ag) (ih _ (Nat.div_lt_self ae ag))
theorem qK(n:Nat):Trim (dN n):=by
 induction n using Nat.strongRecOn with
 | _ n ih=>
  by_cases h:n=0
  .subst h;rw[j8];exact Trim.nil
  .rw [yE h]
   have h1:=ih _ (Nat.div_lt_self ae ( ag :1<4294967296));unfold Trim at h1 ⊢;simp only[dZ,h1];by_cases h2:n/4294967296=0
   .rw [h2,j8]
    have:n%4294967296≠0:= ae ;simp[this]
   .rw [yE h2]
theorem mu{L:List Nat}(h:ej L):dZ L=dN (val L):=
 Trim.ext (tO L) (qK _) h.dZ (gr _) (by rw[kS,eV])
theorem Trim.Aa{L:List Nat}(h:Trim L)(k:ej L):L=dN (val L):=by
 rw[<-mu k];exact h.symm
theorem Oj{n:Nat}:dN n=[]↔n=0:=by
 constructor
 .intro h;have:=eV n;rw[h]at this;exact this.symm
 .rintro rfl;exact j8
theorem qA{n k:Nat}(h:n<4294967296^k):(dN n).length<=k:=by
 induction k generalizing n with
 | zero=>simp at h;subst h;rw[j8];simp
 | succ k ih=>
  by_cases h0:n=0
  .subst h0;rw[j8];simp
  .rw [yE h0,cD]
   have:n/4294967296<4294967296^k:=by
    rw[bC ag];rwa[aN]at h
   have:=ih this;omega
theorem yG{n k:Nat}(h:(dN n).length<=k):n<4294967296^k:=by
 have h1:=iG (gr n);rw[eV]at h1;exact a7 h1 (aR ag h)
def dU(n:Nat):Nat:=if n=0 then 0 else n.log2+1
theorem nP:dU 0=0:=rfl
theorem gS{n k:Nat}:dU n<=k↔n<2^k:=by
 unfold dU;by_cases h:n=0
 .subst h;simp[aJ]
 .rw [aB h,<-Nat.log2_lt h];omega
theorem pM{n k:Nat}:k<dU n↔2^k<=n:=by
 have:=@gS n k;omega
theorem qQ{n k:Nat}(h1:2^k<=n)(h2:n<2^(k+1)):dU n=k+1:=by
 have a:=pM.2 h1;have b:=gS.2 h2;omega
theorem mE(n:Nat):n<2^dU n:=gS.1 (aG _)
theorem oh{n:Nat}(h:n≠0):2^(dU n-1)<=n:=by
 have:dU n-1<dU n:=by
  have:dU n≠0:=by unfold dU;simp[h]
  omega
 exact pM.1 this
theorem jK{n:Nat}(h:n≠0):0<dU n:=by unfold dU;simp[h]
theorem qd{m n:Nat}(h:m<=n):dU m<=dU n:=gS.2 (bE h (mE n))
theorem mg{n:Nat}(h:n≠0)(k:Nat):dU (n*2^k)=dU n+k:=by
 have h1:=mE n;have h2:=oh h;have h3:=jK h;have e:dU n+k=(dU n-1+k)+1:= ae ;rw[e];apply qQ
 .rw [aH];exact a6 _ h2
 .rw [<-e,aH];exact ca h1 (aJ ag)
theorem kQ(k:Nat):(4294967296:Nat)^k=2^(32*k):=by
 rw[Nat.pow_mul]
theorem TG{l:List Nat}{x:Nat}(h:ej (l++[x]))(hx:x≠0):dU (val (l++[x]))=32*l.length+dU x:=by
 rw[pX];simp only[lZ,tS,bQ,bd];have hl:val l<4294967296^l.length:=iG (fun y hy=>h y (by simp[hy]));rw[kQ]at hl ⊢;have h1:=mE x;have h2:=oh hx;have h3:=jK hx;have e:32*l.length+dU x=(32*l.length+(dU x-1))+1:= ae ;rw[e];apply qQ
 .rw [aH]
  have:=bN (2^(32*l.length)) h2;omega
 .rw [<-e,aH]
  have:=bN (2^(32*l.length)) (show x+1<=2^dU x from h1);rw[aY]at this;omega
def fN(a b:Nat):Int:=if a<b then -1 else if b<a then 1 else 0
theorem Ez{L M:List Nat}(kL:ej L)(hM:Trim M)(h:L.length<M.length):val L<val M:=by
 rcases List.eq_nil_or_concat M with rfl|⟨m,x,rfl⟩
 .simp at h
 .simp only[List.concat_eq_append,bO,ahc]at h hM ⊢
  have hx:x≠0:=by
   have:=(u9 _).1 hM aj;simpa using this
  have h1:=iG kL;rw[pX];have h2:(4294967296:Nat)^L.length<=4294967296^m.length:=aR ag ae;have h3:(4294967296:Nat)^m.length*1<=4294967296^m.length*val [x]:=bN _ av;omega
theorem afG{L M:List Nat}(kL:ej L)(i:Nat)(hi:i<L.length)(hlen:L.length=M.length)(Zr:L.drop (i+1)=M.drop (i+1))(ek:L[i]<M[i]'( ae)):val L<val M:=by
 rw[zg L (i+1) ae,zg M (i+1) ae,Zr,vd L i hi,vd M i ae];have h1:=iG (kL.take i);rw[bB,cw ae]at h1;have h2:=bN (4294967296^i) (show L[i]+1<=M[i]'( ae)from ek);rw[aY]at h2;omega
theorem afI(L:List Nat)(k:Nat)(h:ej L):val (L.drop k)=val L/2^(32*k):=by
 rw[BW h,kQ]
def lX(s:Nat):List Nat->List Nat
 | []=>[]
 | x::l=>((x+4294967296*l.getD 0 0)/2^s)%4294967296::lX s l
theorem Ei(s:Nat)(L:List Nat):(lX s L).length=L.length:=by
 induction L with
 | nil=>rfl
 | cons x l ih=>simp[lX,ih]
theorem QY(s:Nat)(L:List Nat)(i:Nat)(h:i<L.length):(lX s L)[i]? = some (((L[i]+4294967296*L.getD (i+1) 0)/2^s)%4294967296):=by
 induction L generalizing i with
 | nil=>simp at h
 | cons x l ih=>
  cases i with
  | zero=>simp[lX]
  | succ i=>
   simp only[cD]at h;simp only[lX,List.getElem?_cons_succ,ih i ae,dk];congr 1
theorem uO(s:Nat)(L:List Nat):ej (lX s L):=by
 induction L with
 | nil=>exact ej.nil
 | cons x l ih=>exact ej.cons (aS _ ag) ih
theorem afJ{L:List Nat}(h:ej L)(s:Nat)(hs:s<32):val (lX s L)=val L/2^s:=by
 induction L with
 | nil=>simp[lX]
 | cons x l ih=>
  have e:32=s+(32-s):= ae ;have e2:(4294967296:Nat)=2^s*2^(32-s):=by rw[<-aH,<-e]
  have hp:0<2^s:=aJ ag;have hx:=h.head;simp only[lX,lZ,ih h.tail];generalize hv:val l=v;have hh:l.getD 0 0=v%4294967296:=by
   rw[<-hv];cases l with
   | nil=>simp
   | cons y m=>
    have:=h.tail.head;simp[lZ];omega
  rw[hh];have f1:(x+4294967296*(v%4294967296))/2^s=x/2^s+2^(32-s)*(v%4294967296):=by
   rw[show x+4294967296*(v%4294967296)=x+2^s*(2^(32-s)*(v%4294967296))by rw[<-aP,<-e2],agA _ _ hp]
  have f2:(x+4294967296*v)/2^s=x/2^s+2^(32-s)*v:=by
   rw[show x+4294967296*v=x+2^s*(2^(32-s)*v)by rw[<-aP,<-e2],agA _ _ hp]
  rw[f1,f2];have ln:x/2^s<2^(32-s):=by
   rw[bC hp,aQ,<-e2];exact hx
  generalize x/2^s=q at ln ⊢;have g1:(4294967296:Nat)=2^(32-s)*2^s:=by rw[aQ];exact e2
  have g2:v=2^s*(v/2^s)+v%2^s:=(bM v (2^s)).symm;have g3:(q+2^(32-s)*(v%4294967296))%4294967296=q+2^(32-s)*(v%2^s):=by
   have k1:v%4294967296%2^s=v%2^s:=by
    rw[e2,Nat.mod_mul_right_mod]
   have k2:(v%4294967296)=2^s*(v%4294967296/2^s)+v%2^s:=by
    rw[<-k1];exact(bM _ _).symm
   conv=>lhs;rw[k2]
   rw[aY,<-aP,<-g1];rw[show q+(4294967296*(v%4294967296/2^s)+2^(32-s)*(v%2^s))=(q+2^(32-s)*(v%2^s))+4294967296*(v%4294967296/2^s)by omega,dh];apply bn;have:v%2^s+1<=2^s:=aS _ hp;have:=bN (2^(32-s)) this;rw[<-g1,aY]at this;omega
  rw[g3]
  conv=>rhs;rw[g2,aY,<-aP,<-g1]
  omega
theorem EB{L:List Nat}(h:ej L)(n:Nat):val (lX (n%32) (L.drop (n/32)))=val L/2^n:=by
 rw[afJ (h.drop _) _ (aS _ ag),afI _ _ h,bY,<-aH];congr 2;omega
theorem Jn{out a:List Nat}{i c s n0:Nat}(hi:i<a.length)(hlen:out.length=n0+i)
 (h:val out+4294967296^(n0+i)*c=val (a.take i)*2^s*4294967296^n0):
 val (out++[(a[i]*2^s+c)%4294967296])+4294967296^(n0+(i+1))*((a[i]*2^s+c)/4294967296)=val (a.take (i+1))*2^s*4294967296^n0:=by
 rw[pX,vd a i hi,hlen];simp only[lZ,tS,bQ,bd];generalize hx:a[i]*2^s+c=x;have e:=cM x 4294967296;have p:4294967296^(n0+(i+1))=4294967296^(n0+i)*4294967296:=by rw[<-ck,aN]
 rw[p,ck,aP (4294967296^(n0+i)),<-aY,e,<-hx,aY,<-ck,Nat.add_right_comm,h,aO,aO];congr 1;rw[aH]
 ac_rfl
theorem pY(b:List Nat)(i:Nat):val (b.take (i+1))=val (b.take i)+4294967296^i*b.getD i 0:=by
 by_cases hi:i<b.length
 .rw [vd b i hi,aF,aM hi];rfl
 .rw [bU ae,bU ae,aF,bu ae];simp
theorem agx{out a b:List Nat}{i c y d c':Nat}(hi:i<a.length)(hlen:out.length=i)
 (hb:val (b.take (i+1))=val (b.take i)+4294967296^i*y)
 (hd:d+y+c=a[i]+4294967296*c')
 (h:val out+val (b.take i)=val (a.take i)+4294967296^i*c):
 val (out++[d])+val (b.take (i+1))=val (a.take (i+1))+4294967296^(i+1)*c':=by
 rw[pX,vd a i hi,hb,hlen];simp only[lZ,tS,bQ,bd];have e:=congrArg (4294967296^i * ·) hd;simp only[aY,<-aP]at e;rw[aN];omega
def fk(n:Nat):Nat:=if n=0 then 0 else(Nat.gcd n (2^(Nat.log2 n+1))).log2
theorem Fv{m:Nat}(hm:m%2=1)(k:Nat):fk (m*2^k)=k:=by
 have h0:m*2^k≠0:=cN ae (dm (aJ ag));unfold fk;rw[aB h0];have hk:k<=Nat.log2 (m*2^k):=by
  apply bh;intro h;have h1:m*2^k<2^k:=(Nat.log2_lt h0).1 ae;have:1*2^k<=m*2^k:=a6 _ ae;omega
 obtain⟨j,hj⟩:∃ j,Nat.log2 (m*2^k)+1=j+k:=⟨Nat.log2 (m*2^k)+1-k, ae⟩
 rw[hj,aH,Nat.gcd_mul_right];have hg:Nat.gcd m (2^j)=1:=by
  have hc:Nat.Coprime m 2:=by
   unfold Nat.Coprime;rw[Nat.gcd_comm,Nat.gcd_rec,hm];rfl
  exact Nat.Coprime.pow_right j hc
 rw[hg,aK,Nat.log2_two_pow]
theorem Fw{n:Nat}(h:n%2=1):fk n=0:=by have:=Fv h 0;simpa using this
theorem afp{n:Nat}(h:n≠0):∃ m k,m%2=1/\n=m*2^k:=by
 induction n using Nat.strongRecOn with
 | _ n ih=>
  by_cases h2:n%2=1
  .exact ⟨n,0,h2, aj⟩
  .obtain ⟨m,k,hm,he⟩:=ih (n/2) ae ae 
   exact⟨m,k+1,hm,by rw[aN,<-aP,<-he];omega⟩
theorem K9{n:Nat}(h:n≠0)(h2:n%2=0):fk n=fk (n/2)+1:=by
 obtain⟨m,k,hm,he⟩:=afp (n:=n/2) ae;have e:n=m*2^(k+1):=by rw[aN,<-aP,<-he];omega
 rw[he,Fv hm]
 conv=>lhs;rw[e]
 exact Fv hm _
theorem vv{n:Nat}(h:n≠0):∃ m,m%2=1/\n=m*2^fk n:=by
 induction n using Nat.strongRecOn with
 | _ n ih=>
  by_cases h2:n%2=1
  .exact ⟨n,h2,by rw[Fw h2];omega⟩
  .obtain ⟨m,hm,he⟩:=ih (n/2) ae ae 
   refine⟨m,hm,?_⟩;rw[K9 h ae,aN,<-aP,<-he];omega
theorem sN{m:Nat}(hm:m%2=1)(k:Nat):fk (m*2^k)=k:=by
 induction k with
 | zero=>rw[bG,bD,Fw hm]
 | succ k ih=>
  have hp:0<m*2^k:=Nat.mul_pos ae (aJ ag);have e:m*2^(k+1)=m*2^k*2:=by rw[aN,aP]
  rw[e,K9 ae ae,cU _ ag,ih]
theorem yO{n:Nat}(h:n≠0):(n/2^fk n)%2=1:=by
 obtain⟨m,hm,he⟩:=vv h;have:n/2^fk n=m:=by conv=>lhs;rw[he,sN hm];rw[cU _ (aJ ag)]
 rw[this];exact hm
theorem zW{n:Nat}(h:n≠0):(n/2^fk n)*2^fk n=n:=by
 obtain⟨m,hm,he⟩:=vv h;have:n/2^fk n=m:=by conv=>lhs;rw[he,sN hm];rw[cU _ (aJ ag)]
 rw[this];exact he.symm
theorem Bv{n:Nat}(h:n≠0):2^fk n<=n:=by
 obtain⟨m,hm,he⟩:=vv h
 conv=>rhs;rw[he]
 exact ahd _ ae 
theorem Vf{x v:Nat}(hx:x≠0)(ek:x<4294967296):fk (x+4294967296*v)=fk x:=by
 obtain⟨m,hm,he⟩:=vv hx;have hk:fk x<32:=by
  have h1:=Bv hx;rcases Nat.lt_or_ge (fk x) 32 with h|h
  .exact h
  .have:=aR (n:=2) ag h
   have e:(2:Nat)^32=4294967296:= ag ;omega
 have e:x+4294967296*v=(m+2^(32-fk x)*v)*2^fk x:=by
  rw[aO,<-he,agY,<-aH,agB ae]
 conv=>lhs;rw[e]
 apply sN;have:2^(32-fk x)=2*2^(31-fk x):=by rw[show 32-fk x=(31-fk x)+1 by omega,aN,aQ]
 rw[this,aP,dh];exact hm
theorem Vg{v:Nat}(hv:v≠0)(k:Nat):fk (2^k*v)=k+fk v:=by
 obtain⟨m,hm,he⟩:=vv hv
 conv=>lhs;rw[he,<-aP,aQ (2^k),aP,<-aH]
 exact sN hm _
theorem val_eq_zero_iff{L:List Nat}:val L=0↔∀ x,x ∈ L->x=0:=by
 induction L with
 | nil=>simp
 | cons x l ih=>
  simp only[lZ,cv];constructor
  .intro h y hy
   rcases hy with rfl|hy
   .omega
   .exact ih.1 ae y hy
  .intro h
   have h1:=h x (.inl rfl);have h2:=ih.2 (fun y hy=>h y (.inr hy));omega
theorem Vh{L:List Nat}(h:ej L)(i:Nat)(hi:i<L.length)(h0:∀ j,(hj:j<i)->L[j]=0)(hx:L[i]≠0):fk (val L)=32*i+fk L[i]:=by
 rw[zg L i ae];have:val (L.take i)=0:=by
  rw[val_eq_zero_iff];intro y hy;obtain⟨j,hj,rfl⟩:=List.getElem_of_mem hy;rw[bB]at hj;rw[List.getElem_take];exact h0 j ae 
 rw[this,bK,kQ,agC hi,lZ];rw[Vg ae,Vf hx (h.get hi)]
theorem JF{L:List Nat}{k x:Nat}(hk:k<L.length):val (L.set k x)+4294967296^k*L[k]=val L+4294967296^k*x:=by
 induction L generalizing k with
 | nil=>simp at hk
 | cons y l ih=>
  cases k with
  | zero=>simp;omega
  | succ k=>
   simp only[cD]at hk;have:=ih (k:=k) ae;simp only[List.set_cons_succ,lZ,dk,aN];have e1:(4294967296^k*4294967296*l[k])=4294967296*(4294967296^k*l[k]):=by ac_rfl
   have e2:(4294967296^k*4294967296*x)=4294967296*(4294967296^k*x):=by ac_rfl
   rw[e1,e2];omega
theorem ej.set{L:List Nat}(h:ej L)(k:Nat){x:Nat}(hx:x<4294967296):ej (L.set k x):=by
 intro y hy;rcases List.mem_or_eq_of_mem_set hy with hy|rfl
 .exact h _ hy
 .exact hx
structure Dy where
 neg:Bool
 m:Nat
 e:Int
def Dy.Canon(d:Dy):Prop:=(d.m=0/\d.neg=false/\d.e=0)\/d.m%2=1
def canon(neg:Bool)(m:Nat)(e:Int):Dy:=if m=0 then⟨false,0,0⟩else⟨neg,m/2^fk m,e+fk m⟩
theorem oq(neg:Bool)(m:Nat)(e:Int):(canon neg m e).Canon:=by
 unfold canon;split
 .exact .inl ⟨rfl,rfl,rfl⟩
 .rename_i h;exact .inr (yO h)
theorem Dy.Canon.xn{d:Dy}(h:d.Canon):canon d.neg d.m d.e=d:=by
 obtain⟨s,m,e⟩:=d;rcases h with⟨h1,h2,h3⟩|h
 .simp only at h1 h2 h3;subst h1 h2 h3;rfl
 .simp only at h ⊢
  unfold canon;rw[aB ae,Fw h];simp
def iM(d:Dy):Prop:=d.m=0\/dU d.m<=4096 /\ -16384<=d.e/\d.e<=16384/\(dU d.m:Int)+d.e<=16384
instance (d:Dy):Decidable (iM d):=by unfold iM;infer_instance
structure Dy.Valid(d:Dy):Prop where
 canon:d.Canon
 range:iM d
def eW:Dy:=⟨false,0,0⟩
theorem oO:eW.Valid:=⟨.inl ⟨rfl,rfl,rfl⟩,.inl rfl⟩
def Dy.sign(d:Dy):Int:=if d.m=0 then 0 else if d.neg then -1 else 1
def Dy.dX(d:Dy):Int:=if d.m=0 then 0 else dU d.m+d.e
def Dy.fm(d:Dy)(e:Int):Nat:=d.m*2^(d.e-e).toNat
def Dy.num(d:Dy)(e:Int):Int:=if d.neg then -(d.fm e:Int)else d.fm e
def ew(a b:Dy):Int:=
 if a.num (min a.e b.e)<b.num (min a.e b.e)then -1 else if b.num (min a.e b.e)<a.num (min a.e b.e)then 1 else 0
theorem sn{d:Dy}(h:d.m≠0)(e:Int):0<d.fm e:=Nat.mul_pos ae (aJ ag)
theorem OG{d:Dy}(h:d.m=0)(e:Int):d.fm e=0:=by unfold Dy.fm;rw[h,bS]
theorem Cp{d:Dy}(h:d.m≠0){e:Int}(he:e<=d.e):(dU (d.fm e):Int)=dU d.m+d.e-e:=by
 unfold Dy.fm;rw[mg h];omega
theorem OF{a b:Dy}(ha:a.m≠0)(hb:b.m≠0){e:Int}(h1:e<=a.e)(h2:e<=b.e)(h:a.dX<b.dX):a.fm e<b.fm e:=by
 have k1:=Cp ha h1;have k2:=Cp hb h2;unfold Dy.dX at h;rw[aB ha,aB hb]at h;rcases Nat.lt_or_ge (a.fm e) (b.fm e)with h'|h'
 .exact h'
 .have:=qd h';omega
def ot(a b:Dy):Int:=fN (a.fm (min a.e b.e)) (b.fm (min a.e b.e))
theorem K3{a b:Dy}(ha:a.m≠0)(hb:b.m≠0)(h:a.dX<b.dX):ot a b = -1:=by
 unfold ot fN;rw[aC (OF ha hb (Int.min_le_left _ _) (Int.min_le_right _ _) h)]
theorem K2{a b:Dy}(ha:a.m≠0)(hb:b.m≠0)(h:b.dX<a.dX):ot a b=1:=by
 have:=OF hb ha (Int.min_le_right a.e b.e) (Int.min_le_left _ _) h;unfold ot fN;rw[aB ae,aC this]
theorem y7(d:Dy):(d.m=0/\d.sign=0)\/(d.m≠0/\d.neg=true/\d.sign = -1)\/(d.m≠0/\d.neg=false/\d.sign=1):=by
 unfold Dy.sign;by_cases h:d.m=0
 .exact .inl ⟨h,aC h⟩
 .cases hn:d.neg
  .exact .inr (.inr ⟨h,rfl,by simp[h]⟩)
  .exact .inr (.inl ⟨h,rfl,by simp[h]⟩)
theorem Pt{d:Dy}(e:Int):(d.sign=0->d.num e=0)/\(d.sign = -1->d.num e<0/\d.num e = -(d.fm e))/\(d.sign=1->0<d.num e/\d.num e=d.fm e):=by
 unfold Dy.num;rcases y7 d with⟨h1,h2⟩|⟨h1,h2,h3⟩|⟨h1,h2,h3⟩
 .rw [h2,OG h1];simp
 .have:=sn h1 e;rw[h3,h2];simp;omega
 .have:=sn h1 e;rw[h3,h2];simp;omega
theorem xt(a b:Dy):ew a b=if a.sign<b.sign then -1 else if b.sign<a.sign then 1 else if a.sign=0 then 0 else a.sign*ot a b:=by
 unfold ew ot fN;generalize min a.e b.e=e;obtain⟨p1,p2,p3⟩:=Pt (d:=a) e;obtain⟨q1,q2,q3⟩:=Pt (d:=b) e;generalize a.num e=x at *
 generalize b.num e=y at *
 generalize a.fm e=x' at *
 generalize b.fm e=y' at *
 have ha:a.sign=0\/a.sign = -1\/a.sign=1:=by rcases y7 a with⟨_,h⟩|⟨_,_,h⟩|⟨_,_,h⟩<;>simp[h]
 have hb:b.sign=0\/b.sign = -1\/b.sign=1:=by rcases y7 b with⟨_,h⟩|⟨_,_,h⟩|⟨_,_,h⟩<;>simp[h]
 generalize a.sign=s at *
 generalize b.sign=t at *
 rcases ha with rfl|rfl|rfl<;>rcases hb with rfl|rfl|rfl<;>simp at p1 p2 p3 q1 q2 q3<;>(repeat' split)<;>omega
def gp(z:Int)(e:Int):Dy:=canon (decide (z<0)) z.natAbs e
def ep(a b:Dy):Dy:=
 if a.m=0 then b else if b.m=0 then a else gp (a.num (min a.e b.e)+b.num (min a.e b.e)) (min a.e b.e)
def eD(d:Dy):Dy:=⟨!d.neg&&decide (d.m≠0),d.m,d.e⟩
theorem sr{d:Dy}(h:d.Canon):(eD d).Canon:=by
 rcases h with⟨h1,h2,h3⟩|h
 .exact .inl ⟨h1,by simp[eD,h1],h3⟩
 .exact .inr h
theorem tA{d:Dy}(h:d.Valid):(eD d).Valid:=⟨sr h.canon,h.range⟩
theorem aej(n:Bool)(m:Nat)(e:Int):(canon n m e).sign=if m=0 then 0 else if n then -1 else 1:=by
 unfold canon;by_cases h:m=0
 .simp [h,Dy.sign]
 .have:(canon n m e).m≠0:=by unfold canon;rw[aB h];have:=yO h;simp only;omega
  unfold canon at this;rw[aB h]at this ⊢;unfold Dy.sign;rw[aB this,aB h]
theorem aek(z e:Int):(gp z e).sign=if z<0 then -1 else if 0<z then 1 else 0:=by
 unfold gp;rw[aej];by_cases h:z<0
 .rw [aB ae,aC h];simp[h]
 .rw [aB h]
  by_cases h0:0<z
  .rw [aB ae,aC h0];simp[h]
  .rw [aB h0,aC ae]
theorem Ps(d:Dy)(e:Int)(hd:d.m≠0):(eD d).num e = -(d.num e):=by
 unfold Dy.num eD Dy.fm;cases d.neg<;>simp[hd]
theorem U8{a b:Dy}(ha:a.m≠0)(hb:b.m≠0):(ep a (eD b)).sign=ew a b:=by
 unfold ep;rw[aB ha,aB (by simpa[eD]using hb),aek];have e1:(eD b).e=b.e:=rfl;rw[e1,Ps _ _ hb];unfold ew;generalize a.num _=x;generalize b.num _=y
 repeat' split
 all_goals omega
theorem Va{a b:Dy}(ha:a.m≠0)(hb:b.m≠0)(hs:a.sign=b.sign)(h:a.dX<b.dX):ew a b = -a.sign:=by
 rw[xt,aB ae,aB ae,K3 ha hb h];split<;>omega
theorem U9{a b:Dy}(ha:a.m≠0)(hb:b.m≠0)(hs:a.sign=b.sign)(h:b.dX<a.dX):ew a b=a.sign:=by
 rw[xt,aB ae,aB ae,K2 ha hb h];split<;>omega
theorem xv(a b:Dy):ew a b=if a.sign≠b.sign then(if a.sign<b.sign then -1 else 1)else if a.sign=0 then 0 else
 if a.dX≠b.dX then(if(a.dX<b.dX)=(0<a.sign)then -1 else 1)else(ep a (eD b)).sign:=by
 by_cases hs:a.sign=b.sign
 .rw [aB (by simpa using hs)]
  by_cases h0:a.sign=0
  .rw [aC h0,xt,aB ae,aB ae,aC h0]
  .rw [aB h0]
   have ha:a.m≠0:=by intro h;exact h0 (by unfold Dy.sign;rw[aC h])
   have hb:b.m≠0:=by intro h;exact h0 (by rw[hs];unfold Dy.sign;rw[aC h])
   have hc:a.sign = -1\/a.sign=1:=by rcases y7 a with⟨_,h⟩|⟨_,_,h⟩|⟨_,_,h⟩<;>simp_all
   by_cases ht:a.dX=b.dX
   .rw [aB (by simpa using ht),U8 ha hb]
   .rw [aC (by simpa using ht)]
    rcases Int.lt_or_gt_of_ne ht with h|h
    .rw [Va ha hb hs h];rcases hc with h'|h'<;>rw[h']<;>simp[h]
    .rw [U9 ha hb hs h];rcases hc with h'|h'<;>rw[h']<;>simp[show ¬a.dX<b.dX by omega]
 .rw [aC (by simpa using hs),xt]
  by_cases h:a.sign<b.sign
  .rw [aC h,aC h]
  .rw [aB h,aB h,aC ae]
theorem Sy{out:List Nat}{k c x y P Q P' Q':Nat}(hlen:out.length=k)(h:val out+4294967296^k*c=P+Q)
 (hP:P'=P+4294967296^k*x) (hQ:Q'=Q+4294967296^k*y):
 val (out++[(c+x+y)%4294967296])+4294967296^(k+1)*((c+x+y)/4294967296)=P'+Q':=by
 rw[pX,hlen,hP,hQ];simp only[lZ,tS,bQ,bd];generalize hx:c+x+y=z;have e:=cM z 4294967296;rw[aN,ck,aP,<-aY,e,<-hx,aY,aY];omega
theorem aeM{out:List Nat}{k c x y d c' P Q P' Q':Nat}(hlen:out.length=k)(h:val out+Q=P+4294967296^k*c)
 (hP:P'=P+4294967296^k*x) (hQ:Q'=Q+4294967296^k*y) (hd:d+y+c=x+4294967296*c'):
 val (out++[d])+Q'=P'+4294967296^(k+1)*c':=by
 rw[pX,hlen,hP,hQ];simp only[lZ,tS,bQ,bd];have e:=congrArg (4294967296^k * ·) hd;simp only[aY,<-aP]at e;rw[aN];omega
theorem Rc{out:List Nat}{n c P Q:Nat}(ho:ej out)(hlen:out.length=n)(h:val out+Q=P+4294967296^n*c)(hle:Q<=P):c=0/\val out=P-Q:=by
 have h1:=iG ho;rw[hlen]at h1;rcases c with _|c
 .exact ⟨rfl, ae⟩
 .exfalso
  have:4294967296^n*1<=4294967296^n*(c+1):=bN _ ae;omega
theorem TA{L:List Nat}(h:ej L)(k:Nat)(hk:k/32<L.length):val L/2^k%2=L[k/32]/2^(k%32)%2:=by
 have e:k=32*(k/32)+k%32:= ae 
 conv=>lhs;rw[e,aH,<-bY,<-kQ,<-BW h,agC hk,lZ]
 have hs:k%32<32:=aS _ ag;have e2:(4294967296:Nat)=2^(k%32)*(2*2^(31-k%32)):=by
  rw[<-Nat.pow_succ',<-aH,show k%32+(31-k%32).succ=32 by omega]
 conv=>lhs;rw[e2,aP,agA _ _ (aJ ag),aP,dh]
theorem Tz{n k:Nat}(h:n≠0)(hk:k<fk n):n/2^k%2=0:=by
 obtain⟨m,hm,he⟩:=vv h;generalize fk n=c at *
 rw[he,show c=k+(c-k)by omega,aH,<-aP,agY,cU _ (aJ ag),show c-k=(c-k-1)+1 by omega,aN,<-aP,agZ]
theorem Ty{n:Nat}(h:n≠0):n/2^fk n%2=1:=yO h
theorem zO{L:List Nat}(h:ej L)(h0:val L≠0):fk (val L)/32<L.length:=by
 have h1:=Bv h0;have h2:=iG h;rw[kQ]at h2;have h3:2^fk (val L)<2^(32*L.length):=bE h1 h2;have:=(Nat.pow_lt_pow_iff_right ( ag :1<2)).1 h3;omega
end Go.Proofs.YtdgnpeddgdclhaaGreatDoor.Fp
namespace Go.Proofs.YtdgnpeddgdclhaaGreatDoor
open Go.RowKit Fp
structure Sl(w:World)(A:Option Addr)(c:Nat)(L:List Nat):Prop where
 cap:L.length<=c
 lq:c<=9223372036854775807
 ok:ej L
 none_:A=none->c=0
 cell:∀ (i x:Nat),L[i]? = some x->∃ b o,A=some ⟨b,o,none⟩/\b<w.heap.size/\w.cell? ⟨b,o+i,none⟩=some (.int .u32 (x:Int))
theorem TK(a:Addr)(n:Nat):(a.add n).block=a.block:=by unfold Addr.add;split<;>rfl
section
variable {w w':World} {A:Option Addr} {c:Nat} {L:List Nat}
theorem Sl.at_(h:Sl w A c L){i:Nat}(hi:i<L.length):∃ b o,A=some ⟨b,o,none⟩/\b<w.heap.size/\w.cell? ⟨b,o+i,none⟩=some (.int .u32 (L[i]:Int)):=
 h.cell i _ (aM hi)
theorem Sl.nil(w:World):Sl w none 0 []:=⟨aG _, ag,ej.nil,fun _=>rfl,fun i x h=>by simp at h⟩
theorem Sl.below(h:Sl w A c L)(hb:Below w.heap.size w w'):Sl w' A c L:=
 ⟨h.cap,h.lq,h.ok,h.none_,fun i x hx=>by
  obtain⟨b,o,e,h1,h2⟩:=h.cell i x hx;exact⟨b,o,e,a7 h1 hb.size,(hb.cell h1).trans h2⟩⟩
theorem Sl.alloc(h:Sl w A c L)(o:Obj):Sl (w.alloc o) A c L:=h.below ((Below.refl _ _).alloc (aG _) _)
theorem Sl.drew(h:Sl w A c L):Sl w.drew A c L:=h.below ((Below.refl _ _).drew)
theorem Sl.take(h:Sl w A c L)(n:Nat):Sl w A c (L.take n):=
 ⟨by have:=h.cap;rw[bB];omega,h.lq,h.ok.take n,h.none_,fun i x hx=>h.cell i x (by
  rw[dp]at hx;split at hx
  .exact hx
  .cases hx)⟩
theorem Sl.len(h:Sl w A c L):L.length<=9223372036854775807:=aI h.cap h.lq
theorem Sl.eqv{L':List Nat}(h:Sl w A c L)(e:L=L'):Sl w A c L':=e▸h
end
theorem vh(b o i:Nat):(⟨b,o,none⟩:Addr).add i=⟨b,o+i,none⟩:=by
 unfold Addr.add;split
 .rename_i h0;rw[h0];rfl
 .simp
abbrev Ext(w w':World):Prop:=Below w.heap.size w w'
theorem Ext.trans{a b c:World}(h:Ext a b)(k:Ext b c):Ext a c:=Below.trans h (k.mono h.size)
theorem Ext.alloc(w:World)(o:Obj):Ext w (w.alloc o):=(Below.refl _ _).alloc (aG _) _
theorem Ext.drew(w:World):Ext w w.drew:=(Below.refl _ _).drew
theorem Ext.refl(w:World):Ext w w:=Below.refl _ _
theorem D9{A:Option Addr}{n m c:Nat}(h:n=m):Ending.returned (.slice A n c) = .returned (.slice A m c):=by rw[h]
theorem jW{k:IntKind}{a b:Int}(h:a=b):Ending.returned (.int k a) = .returned (.int k b):=by rw[h]
theorem Qt{a b:Bool}(h:a=b):Ending.returned (.bool a) = .returned (.bool b):=by rw[h]
def pr(w:World)(L:List Nat)(e:Ending)(w':World):Prop:=∃ A c,e = .returned (.slice A L.length c)/\Sl w' A c L/\Ext w w'
def w8(w:World)(L:List Nat)(n:Int)(e:Ending)(w':World):Prop:=∃ A c,e = .returned (.tuple #[.slice A L.length c,.int .i64 n])/\Sl w' A c L/\Ext w w'
def Tb(w:World):Prop:=TabAt 0 Lib.deBruijn32tab w
theorem Tb.below{w w':World}(h:Tb w)(hb:Ext w w'):Tb w':=fun j hj=>by
 have h1:=h j hj;rw[hb.cell (block_lt_of_cell h1)];exact h1
theorem Tb.alloc{w:World}(h:Tb w)(o:Obj):Tb (w.alloc o):=h.below (Ext.alloc _ _)
theorem Tb.drew{w:World}(h:Tb w):Tb w.drew:=h.below (Ext.drew _)
theorem Tx(x:Nat)(h:x<4294967296):Lib.bitLen x=dU x:=by
 induction x using Nat.strongRecOn with
 | _ x ih=>
  by_cases h0:x=0
  .subst h0;rfl
  .rw [Lib.bitLen_half x h0 ae,ih (x/2) ae ae]
   by_cases h1:x/2=0
   .have:x=1:= ae 
    subst this;rfl
   .have e1:=oh h1
    have e2:=mE (x/2);have e3:=jK h1;generalize dU (x/2)=k at *
    obtain⟨j,rfl⟩:∃ j,k=j+1:=⟨k-1, ae⟩
    rw[dj]at e1;rw[Nat.add_comm];refine(qQ ?_ ?_).symm
    .rw [aN];omega
    .rw [aN];omega
theorem Vi(x:Nat)(h0:x≠0)(h:x<4294967296):Lib.ctz 32 x=fk x:=by
 unfold Lib.ctz;rw[aB h0];obtain⟨m,hm,_⟩:=Lib.ctzFrom_spec 32 x ae h
 conv=>rhs;rw[hm,aQ]
 exact(sN ae _).symm
def jT(L:List Nat):List Value:=L.map fun(n:Nat)=>Value.int .u32 (n:Int)
theorem afv{L:List Nat}{j:Nat}{u:Value}(h:(jT L)[j]? = some u):∃ n,L[j]? = some n/\u = .int .u32 (n:Int):=by
 unfold jT at h;rw[bL]at h;obtain⟨n,hn,rfl⟩:=b6.1 h;exact⟨n,hn,rfl⟩
theorem afu(L M:List Nat):jT (L++M)=jT L++jT M:=List.map_append
theorem afw(L:List Nat):∀ u ∈ jT L,u.oneCell'=true:=by
 intro u hu;obtain⟨n,_,rfl⟩:=cB.1 hu;rfl
structure Ow(w:World)(base:Nat)(v:Value)(L:List Nat):Prop where
 row:w.ownsRow base 79 1 v L.length (jT L)
 ok:ej L
theorem Ow.sl{w:World}{base:Nat}{v:Value}{L:List Nat}(h:Ow w base v L):∃ A c,v = .slice A L.length c/\Sl w A c L:=by
 have hr:=h.row;rcases hr.2 with⟨rfl,h0⟩|⟨g,cap,cur,rfl,hb,hg,lj,kv,jB,AL⟩
 .have:L=[]:=cE h0
  subst this;exact⟨none,0,rfl,Sl.nil w⟩
 .refine ⟨_,_,rfl,lj,(by simpa[maxLen]using kv),h.ok,(fun h=>by cases h),fun i x hx=>⟨_,_,rfl,(cr.1 hg).1,?_⟩⟩
  have h:=hr.cells (g:=g) rfl i (.int .u32 (x:Int)) (by unfold jT;rw[bL,hx];rfl);rw[vh]at h;exact h
theorem Ow.nil(w:World)(base:Nat):Ow w base (.slice none 0 0) []:=⟨World.ownsRow_nil w base _ _,ej.nil⟩
theorem Ow.alloc{w:World}{base:Nat}{v:Value}{L:List Nat}(h:Ow w base v L)(o:Obj):Ow (w.alloc o) base v L:=⟨h.row.alloc o,h.ok⟩
theorem Ow.empty(w:World)(base:Nat)(hb:base<=w.heap.size):Ow (w.alloc (.cells #[] 79)) base (.slice (some ⟨w.heap.size,0,none⟩) 0 0) []:=
 ⟨World.ownsRow_made w #[] 0 hb ag rfl,ej.nil⟩
theorem lQ{w:World}{n:Nat}(h:n<=w.heap.size)(o:Obj):n<=(w.alloc o).heap.size:= av 
theorem Sl.one(w:World)(x:Nat)(hx:x<4294967296):Sl (w.alloc (.cells #[.int .u32 x] 79)) (some ⟨w.heap.size,0,none⟩) 1 [x]:=
 ⟨aG _, ag,ej.cons hx ej.nil,(fun h=>by cases h),fun i y hy=>by
  obtain⟨h1,h2⟩:=bA.1 hy;obtain rfl:i=0:=by simp at h1;omega
  simp at h2;subst h2;refine⟨_,_,rfl, aj,?_⟩;exact World.cell?_alloc_at _ _ _ _ rfl⟩
theorem Sl.pn(w:World)(y:Int)(x:Nat)(e:y=(x:Int))(hx:x<4294967296):Sl (w.alloc (.cells #[.int .u32 y] 79)) (some ⟨w.heap.size,0,none⟩) 1 [x]:=by
 subst e;exact Sl.one w x hx
theorem Hg:(Tryz.prog.info? 79).map (fun i=>(i.zero,i.size,i.bytes))=some (some (.int .u32 0),1,4):= ah 
theorem mU{ops:Array Oper}{rest:List Oper}{o:Oper}{a:Act}{Q:Exit->Act->World->Prop}{w:World}(vK:o.guard=none)(s x:Operand)
 (ho:o.op = .call { callee:=.builtin .append,args:=#[s,x],argTypes:=#[29,29] })
 (base:Nat) (v:Value) (L:List Nat) (hs:a.eval s=v) (jZ:Ow w base v L)
 (A:Option Addr) (m c:Nat) (M:List Nat) (hx:a.eval x = .slice A m c) (hm:m=M.length) (hr:Sl w A c M)
 (ie:L.length+M.length<=10000000000) (Yo:base<=w.heap.size)
 (h:∀ v' w',Ow w' base v' (L++M)->w.grownBy w' v.ownBlock->(v'.ownBlock=v.ownBlock\/v'.ownBlock=some w.heap.size)->wpList Tryz.prog ops Q rest (a.put o.dst v') w'):
 wpList Tryz.prog ops Q (o::rest) a w:=by
 obtain⟨i,hi,hz,h1,h2⟩:=info_parts Hg;subst hm;rcases A with _|ad
 .have hc:=hr.none_ rfl
  subst hc;have hM:M=[]:=cE (by have:=hr.cap;omega);subst hM;refine wpList_append_own_none vK s x _ ho base _ i 1 Tryz.underlying29 hi v _ _ hs jZ.row hx ?_;have:=h v w (by rw[List.append_nil];exact jZ) ⟨rfl,rfl,rfl,aG _,fun _ _ _=>rfl⟩ (.inl rfl);exact this
 .refine wpList_append_own_at w vK s x _ ho base _ i _ 1 4 Tryz.underlying29 hi hz h1 h2 rfl ag v L.length (jT L) hs jZ.row ad M.length c (jT M) hx (by simp[jT]) ?_ (afw M)
   (by simp only[maxLen];omega) ae Yo ?_
  .intro j u hu
   obtain⟨n,hn,rfl⟩:=afv hu;obtain⟨b,o,e,_,hc⟩:=hr.cell j n hn;cases e;rw[vh];exact hc
  .intro v' w' Za hg _ kB
   exact h v' w' ⟨by rw[bO,afu];exact Za,jZ.ok.append hr.ok⟩ hg kB
def Rw(w:World)(b:Nat)(L:List Nat):Prop:=w.heap[b]? = some (.cells (jT L).toArray 79 (0,0))
section
variable {w w':World} {b:Nat} {L:List Nat}
theorem Rw.lt(h:Rw w b L):b<w.heap.size:=(cr.1 h).1
theorem Rw.cell(h:Rw w b L){i x:Nat}(hx:L[i]? = some x):w.cell? ⟨b,i,none⟩=some (.int .u32 (x:Int)):=by
 unfold Rw at h;simp only[World.cell?,h];simp[jT,hx]
theorem Rw.frozen(h:Rw w b L)(i:Nat):w.frozen? ⟨b,i,none⟩=false:=by
 unfold Rw at h;simp[World.frozen?,h]
theorem Rw.set(h:Rw w b L)(i x:Nat):Rw (w.setCell ⟨b,i,none⟩ (.int .u32 (x:Int))) b (L.set i x):=by
 unfold Rw at h ⊢;simp only[World.setCell,agD,h];simp[jT,List.map_set]
theorem Rw.sl(h:Rw w b L)(hk:ej L)(hl:L.length<=10000000000):Sl w (some ⟨b,0,none⟩) L.length L:=
 ⟨aG _, ae,hk,(fun h=>by cases h),fun i x hx=>⟨_,_,rfl,h.lt,by
  rw[bK];exact h.cell hx⟩⟩
theorem Rw.made(w:World)(n:Nat):Rw (w.alloc (.cells (jT (List.replicate n 0)).toArray 79)) w.heap.size (List.replicate n 0):=heap_alloc_new w _
end
theorem Sx(b i:Nat):(⟨b,0,none⟩:Addr).add i=⟨b,i,none⟩:=by
 unfold Addr.add;split
 .rename_i h0;rw[h0]
 .simp
theorem A8(n:Nat)(hn:n<=10000000000)(w:World):
 (Instr.makeSlice 29 (.int .i64 (n:Int)) (.int .i64 (n:Int))).run Tryz.prog w = .ok (.slice (some ⟨w.heap.size,0,none⟩) n n) (w.alloc (.cells (jT (List.replicate n 0)).toArray 79)):=by
 obtain⟨i,hi,hz,h1,h2⟩:=info_parts Hg;have hr:=run_make (P:=Tryz.prog) w 29 79 i _ Tryz.underlying29 hi hz .i64 .i64 n n ae ae (by rw[h2];omega) ae;rw[hr,ag0,h1,bD];refine congrArg (fun cs=>Result.ok (Value.slice (some ⟨w.heap.size,0,none⟩) n n) (w.alloc (.cells cs 79))) ?_;apply Array.ext
 .simp [madeCells,jT]
 .intro i h1 h2
  simp[madeCells,jT,Value.cells,cF]
def rK(w:World)(d:Dy)(e:Ending)(w':World):Prop:=
 ∃ A c,e = .returned (.agg #[.bool d.neg,.slice A (dN d.m).length c,.int .i64 d.e])/\Sl w' A c (dN d.m)/\Ext w w'
def oQ(w:World)(d:Dy)(n:Int)(e:Ending)(w':World):Prop:=
 ∃ A c,e = .returned (.tuple #[.agg #[.bool d.neg,.slice A (dN d.m).length c,.int .i64 d.e],.int .i64 n])/\Sl w' A c (dN d.m)/\Ext w w'
def sE(w:World)(g:Nat):Prop:=∀ o x,w.cell? ⟨g,o,none⟩≠some (.int .u32 x)
theorem Sl.vF{w:World}{A:Option Addr}{c:Nat}{L:List Nat}(h:Sl w A c L){g i:Nat}(hg:sE w g)(u:Value):Sl (w.setCell ⟨g,i,none⟩ u) A c L:=
 ⟨h.cap,h.lq,h.ok,h.none_,fun j x hx=>by
  obtain⟨b,o,e,h1,h2⟩:=h.cell j x hx;refine⟨b,o,e,by simpa[World.setCell]using h1,?_⟩;rw[World.cell?_setCell_other w _ _ u]
  .exact h2
  .intro e'
   simp only[Addr.mk.injEq]at e';exact hg (o+j) x (by rw[e'.1];exact h2)⟩
theorem sE.yP{w:World}{g:Nat}{cs:Array Value}{t:TypeId}{fr:Nat×Nat}(h:w.heap[g]? = some (.cells cs t fr))(hc:∀ (i:Nat) (x:Int),cs[i]? ≠ some (.int .u32 x)):sE w g:=fun o x e=>by
 simp only[World.cell?,h]at e;simp at e;exact hc o x (by simpa using e)
def eJ(w:World)(g:Nat)(s:Bool)(A:Option Addr)(n c:Nat)(e:Int):Prop:=w.heap[g]? = some (.cells #[.bool s,.slice A n c,.int .i64 e] 31 (0,0))
section
variable {w w':World} {g n c:Nat} {s:Bool} {A:Option Addr} {e:Int}
theorem eJ.new(W:World)(s:Bool)(A:Option Addr)(n c:Nat)(e:Int):eJ (W.alloc (.cells #[.bool s,.slice A n c,.int .i64 e] 31)) W.heap.size s A n c e:=heap_alloc_new W _
theorem eJ.newAt{W:World}{g:Nat}(hg:W.heap.size=g)(s:Bool)(A:Option Addr)(n c:Nat)(e:Int):eJ (W.alloc (.cells #[.bool s,.slice A n c,.int .i64 e] 31)) g s A n c e:=hg▸heap_alloc_new W _
theorem eJ.lt(h:eJ w g s A n c e):g<w.heap.size:=(cr.1 h).1
theorem eJ.ext(h:eJ w g s A n c e)(hb:Ext w w'):eJ w' g s A n c e:=(hb.block g h.lt).trans h
theorem eJ.alloc(h:eJ w g s A n c e)(o:Obj):eJ (w.alloc o) g s A n c e:=h.ext (Ext.alloc _ _)
theorem eJ.drew(h:eJ w g s A n c e):eJ w.drew g s A n c e:=h
theorem eJ.jj(h:eJ w g s A n c e):sE w g:=sE.yP h (fun i x=>by rcases i with _|_|_|i<;>simp)
theorem eJ.c0(h:eJ w g s A n c e):w.cell? ⟨g,0,none⟩=some (.bool s):=by unfold eJ at h;simp[World.cell?,h]
theorem eJ.c1(h:eJ w g s A n c e):w.cell? ⟨g,1,none⟩=some (.slice A n c):=by unfold eJ at h;simp[World.cell?,h]
theorem eJ.c2(h:eJ w g s A n c e):w.cell? ⟨g,2,none⟩=some (.int .i64 e):=by unfold eJ at h;simp[World.cell?,h]
theorem eJ.fr(h:eJ w g s A n c e)(i:Nat):w.frozen? ⟨g,i,none⟩=false:=by unfold eJ at h;simp[World.frozen?,h]
theorem eJ.set(h:eJ w g s A n c e)(s':Bool)(A':Option Addr)(n' c':Nat)(e':Int):
 eJ (((w.setCell ⟨g,0,none⟩ (.bool s')).setCell ⟨g,1,none⟩ (.slice A' n' c')).setCell ⟨g,2,none⟩ (.int .i64 e')) g s' A' n' c' e':=by
 have h1:=heap_setCell_same w g 0 _ _ (.bool s') h;have h2:=heap_setCell_same _ g 1 _ _ (.slice A' n' c') h1;have h3:=heap_setCell_same _ g 2 _ _ (.int .i64 e') h2;exact h3
theorem eJ.mH{L:List Nat}{A':Option Addr}{c':Nat}(h:eJ w g s A n c e)(hs:Sl w A' c' L)(s':Bool)(e':Int)(n' c2:Nat)(A2:Option Addr):
 Sl (((w.setCell ⟨g,0,none⟩ (.bool s')).setCell ⟨g,1,none⟩ (.slice A2 n' c2)).setCell ⟨g,2,none⟩ (.int .i64 e')) A' c' L:=by
 have h1:=heap_setCell_same w g 0 _ _ (.bool s') h;have h2:=heap_setCell_same _ g 1 _ _ (.slice A2 n' c2) h1;have k1:sE (w.setCell ⟨g,0,none⟩ (.bool s')) g:=sE.yP h1 (fun i x=>by rcases i with _|_|_|i<;>simp);have k2:sE ((w.setCell ⟨g,0,none⟩ (.bool s')).setCell ⟨g,1,none⟩ (.slice A2 n' c2)) g:=sE.yP h2 (fun i x=>by rcases i with _|_|_|i<;>simp);exact((hs.vF h.jj _).vF k1 _).vF k2 _
theorem eJ.mr{w0:World}(hb:Ext w0 w)(hg:w0.heap.size<=g)(s':Bool)(A':Option Addr)(n' c':Nat)(e':Int):
 Ext w0 (((w.setCell ⟨g,0,none⟩ (.bool s')).setCell ⟨g,1,none⟩ (.slice A' n' c')).setCell ⟨g,2,none⟩ (.int .i64 e')):=
 ((hb.setCell hg _).setCell hg _).setCell hg _
end
theorem LB:(Tryz.prog.info? 31).map (·.size)=some 3:= ah 
theorem adB{fn:Func}{p:Tmp}(h:fn.results = #[.cell p 31])(tmps:Array Value){w:World}{g n c:Nat}{s:Bool}{A:Option Addr}{e:Int}
 (hp:tmps.getD p undef = .pointer (some ⟨g,0,none⟩)) (hb:eJ w g s A n c e):
 (results fn tmps).run Tryz.prog w = .ok (.agg #[.bool s,.slice A n c,.int .i64 e]) w:=
 results_cell_row h tmps w g _ _ _ _ hp hb Tryz.underlying31 rfl LB
theorem adC{fn:Func}{p t:Tmp}(h:fn.results = #[.cell p 31,.tmp t])(tmps:Array Value){w:World}{g n c:Nat}{s:Bool}{A:Option Addr}{e:Int}
 (hp:tmps.getD p undef = .pointer (some ⟨g,0,none⟩)) (hb:eJ w g s A n c e):
 (results fn tmps).run Tryz.prog w = .ok (.tuple #[.agg #[.bool s,.slice A n c,.int .i64 e],tmps.getD t undef]) w:=by
 have Zb:tmps[p]?.getD undef = .pointer (some ⟨g,0,none⟩):=by simpa using hp
 simp[results,h,Zb,asAddr,run_loadVar_row w g _ _ _ _ _ hb Tryz.underlying31 rfl LB]
theorem px{fn:Func}{p:Tmp}(h:fn.results = #[.cell p 31]){a:Act}{w W:World}{d:Dy}{g:Nat}{A:Option Addr}{c n:Nat}
 (hp:a.tmps.getD p undef = .pointer (some ⟨g,0,none⟩)) (hd:a.defers=[]) (hb:eJ W g d.neg A n c d.e) (hn:n=(dN d.m).length) (hs:Sl W A c (dN d.m)) (he:Ext w W):
 bodyPost Tryz.prog fn (rK w d) .ret a W:=by
 subst hn;exact bodyPost_ret (adB h _ hp hb) hd ⟨A,c,rfl,hs,he⟩
theorem qf{fn:Func}{p t:Tmp}(h:fn.results = #[.cell p 31,.tmp t]){a:Act}{w W:World}{d:Dy}{k:Int}{g:Nat}{A:Option Addr}{c n:Nat}
 (hp:a.tmps.getD p undef = .pointer (some ⟨g,0,none⟩)) (ht:a.tmps.getD t undef = .int .i64 k) (hd:a.defers=[]) (hb:eJ W g d.neg A n c d.e) (hn:n=(dN d.m).length) (hs:Sl W A c (dN d.m)) (he:Ext w W):
 bodyPost Tryz.prog fn (oQ w d k) .ret a W:=by
 subst hn;exact bodyPost_ret ((adC h _ hp hb).trans (by rw[ht])) hd ⟨A,c,rfl,hs,he⟩
open Go.ChangeShapes Go.WideShapes Go.ChangeAt Go.RowKit Fp
theorem own:ownKnob Tryz.prog.godebug=none:= ah 
theorem laidOut:laidOutB Tryz.prog=true:= ah 
theorem Md:Tryz.prog.globalNamed "math/bits.deBruijn32tab" = some 0:= ah 
theorem W0:(Tryz.prog.globals[0]?).map (·.type)=some 160:= ah 
theorem U4:Tryz.prog.cellsOf 160=32:= ah 
theorem U3:Tryz.prog.cellsOf 5=1:= ah 
theorem U2:Tryz.prog.cellsOf 79=1:= ah 
theorem afg {l:List (String×DataW Unit)} (hl:l=[("math/bits.deBruijn32tab", Rows.laid_math_bits_deBruijn32tab)]) {W:World} (h:laidMet Tryz.prog l W):Tb W:=by
 subst hl;have ht:Lib.TabIs Tryz.prog W "math/bits.deBruijn32tab" .u8 (Lib.deBruijn32tab.map fun(n:Nat)=>(n:Int)):=
  Lib.tabIs_of_head (rest:=[]) Md W0 Tryz.underlying160 Tryz.underlying5 U3 U4 h
 intro j hj;have:=ht.cell Md j (by simpa using hj);rw[this];simp[aF];rw[aM hj];simp
theorem ZE{n:Int}(h:(Lit.int .i64 n).wf=true):-9223372036854775808<=n/\n<=9223372036854775807:=by
 have h1:IntKind.i64.min = -9223372036854775808:=rfl;have h2:IntKind.i64.max=9223372036854775807:=rfl;simp[Lit.wf,h1,h2]at h;omega
theorem abx{H:Type}{enc:TypeId×Value->H}{W:World}{fuel:Nat}{c:Value}{x:DataW H×List MemPlace}
 (h:DataW.trod enc Tryz.prog W 0 (fun _=>true) true fuel 29 [c]=some x) (_hlt:∀ p ∈ x.2,p.block<W.heap.size):
 ∃ A L cap,c = .slice A L.length cap/\Sl W A cap L:=by
 rcases open_ints Tryz.underlying29 Tryz.underlying79 U2 h with⟨jB,hx⟩|⟨a,len,cap,zs,jB,_,hl,hm,hz,hx,gG,Zv⟩
 .simp at jB
  exact⟨none,[],0,jB,Sl.nil W⟩
 .simp at jB
  simp only[aW]at hz;refine⟨some a,(zs.take len).map Int.toNat,cap,?_,?_⟩
  .rw [jB,bX,bB,cw ae]
  .have Nz:∀ n ∈ zs,0<=n/\n<4294967296:=fun n hn=>by
    have:=Zv n hn;have h1:IntKind.u32.min=0:=rfl;have h2:IntKind.u32.max=4294967295:=rfl;simp[Lit.wf,h1,h2]at this;omega
   refine⟨by rw[bX,bB];omega,by simpa[maxLen]using hm,?_,(fun h=>by cases h),?_⟩
   .intro y hy
    obtain⟨z,sd,rfl⟩:=cB.1 hy;have:=Nz z (dD sd);omega
   .intro i y hy
    rw[bL]at hy;obtain⟨z,sd,rfl⟩:=b6.1 hy;rw[dp]at sd;split at sd
    .rename_i hi
     have hc:=gG i ae;rw[aF,sd]at hc;obtain⟨b,off,spot⟩:=a;have Zn:spot=none:=by
      rcases spot with _|q
      .rfl
      .exfalso
       have nu:=gG 0 ae;rw[show(⟨b,off,some q⟩:Addr).add 0=⟨b,off,some q⟩from rfl]at nu;unfold World.cell? at nu;split at nu<;>simp at nu
     subst Zn;refine⟨b,off,rfl,?_,?_⟩
     .have:=block_lt_of_cell hc
      rwa[TK]at this
     .rw [vh]at hc
      rw[hc];have:=Nz z (dq sd);simp;omega
    .cases sd
theorem On{α:Type}{l:List α}(h:l.length=3):∃ a b c,l=[a,b,c]:=by
 match l,h with
 | [a,b,c],_=>exact⟨a,b,c,rfl⟩
theorem aaI{α:Type}{l:List α}(h:l.length=7):∃ a b c d e f g,l=[a,b,c,d,e,f,g]:=by
 match l,h with
 | [a,b,c,d,e,f,g],_=>exact⟨a,b,c,d,e,f,g,rfl⟩
theorem abw{H:Type}{enc:TypeId×Value->H}{W:World}{fuel:Nat}{cs:List Value}{x:DataW H×List MemPlace}
 (h:DataW.trod enc Tryz.prog W 0 (fun _=>true) true fuel 31 cs=some x) (ek:∀ p ∈ x.2,p.block<W.heap.size):
 ∃ s A L cap e,cs=[.bool s,.slice A L.length cap,.int .i64 e]/\Sl W A cap L/\(-9223372036854775808<=e/\e<=9223372036854775807):=by
 obtain⟨xs,n,rfl,rfl,hl,iA,hf⟩:=DataW.trod_struct Tryz.underlying31 h;have hC:Tryz.prog.cellsOf 31=3:= ah ;have hB:Tryz.prog.cellsOf 4=1:= ah ;have hS:Tryz.prog.cellsOf 29=1:= ah ;have hI:Tryz.prog.cellsOf 3=1:= ah ;rw[hC]at hl;obtain⟨a,b,c,rfl⟩:=On hl;have h0:=hf 0 _ rfl;have h1:=hf 1 _ rfl;have h2:=hf 2 _ rfl;simp only[agE,agF,dk]at h0 h1 h2;simp only[hB,hS,hI,agG,agH,dE,agI]at h0 h1 h2;rw[aM (by rw[iA];decide)]at h0 h1 h2;obtain⟨s,hs,_⟩:=DataW.trod_bool Tryz.underlying4 h0;obtain⟨A,L,cap,hc,qv⟩:=abx h1 (fun p hp=>ek p (agJ.2 ⟨_,bR _,hp⟩));obtain⟨e,he,_,hw⟩:=DataW.trod_int Tryz.underlying3 h2;simp at hs he;subst hs he hc;exact⟨s,A,L,cap,e,rfl,qv,ZE hw⟩
noncomputable def Hz(os:Os)(args:Array Value):World:=
 {World.holding Tryz.prog os ⟨#[],args,[]⟩with heap:=(World.holding Tryz.prog os ⟨#[],args,[]⟩).heap.modify 0 fun
   | .cells _ t frozen=>.cells (Lib.deBruijn32tab.map fun(n:Nat)=>Value.int .u8 (n:Int)).toArray t frozen
   | o=>o }
end Go.Proofs.YtdgnpeddgdclhaaGreatDoor
namespace Go.Proofs.YtdgnpeddgdclhaaGreatDoor.Pu
open Go.RowKit
inductive E where
 | any
 | v (x:Value)
 | agg (l:List E)
 | ef (l:List E)
 | sl (nl:Bool) (n sz:Nat) (el:Nat->Nat->E)
 | ref (m:Nat) (el:Nat->E)
 | fn (f:FuncId) (cap:List E)
def nY:Value->Bool
 | .int .u32 _=>true
 | _=>false
def E.nr:Nat->E->Bool
 | _,.any=>true
 | _,.v _=>true
 | _,.sl ..=>true
 | d+1,.agg l=>l.all (E.nr d)
 | d+1,.ef l=>l.all (E.nr d)
 | d+1,.fn _ l=>l.all (E.nr d)
 | _,_=>false
inductive eo(bs br:Nat->Prop)(w:World):E->Value->Prop
 | any (x:Value):eo bs br w .any x
 | v (x:Value):eo bs br w (.v x) x
 | agg (l:List E) (vs:List Value) (h:vs.length=l.length) (k:∀ (i:Nat) (p:E) (x:Value),l[i]? = some p->vs[i]? = some x->eo bs br w p x):eo bs br w (.agg l) (.agg vs.toArray)
 | ef (l:List E) (vs:List Value) (h:vs.length=l.length) (k:∀ (i:Nat) (p:E) (x:Value),l[i]? = some p->vs[i]? = some x->eo bs br w p x):eo bs br w (.ef l) (.tuple vs.toArray)
 | sl (nl:Bool) (n sz:Nat) (el:Nat->Nat->E) (A:Option Addr) (c:Nat) (f:Nat->Nat->Value) (hc:n<=c) (hm:c<=9223372036854775807) (h0:A=none->c=0)
  (hl:∀ i j,i<n->j<sz->(f i j).oneCell'=true/\(nl=true->nY (f i j)=false))
  (hr:∀ i j,i<n->j<sz->(el i j).nr 2=true)
  (cell:∀ i j,i<n->j<sz->∃ b o,A=some ⟨b,o,none⟩/\¬bs b/\b<w.heap.size/\w.cell? ⟨b,o+(i*sz+j),none⟩=some (f i j))
  (k:∀ i j,i<n->j<sz->eo bs br w (el i j) (f i j)):eo bs br w (.sl nl n sz el) (.slice A n c)
 | ref (m:Nat) (el:Nat->E) (b o:Nat) (f:Nat->Value) (hb:¬br b) (ek:b<w.heap.size) (hl:∀ j,j<m->(f j).oneCell'=true)
  (cell:∀ j,j<m->w.cell? ⟨b,o+j,none⟩=some (f j))
  (k:∀ j,j<m->eo bs br w (el j) (f j)):eo bs br w (.ref m el) (.pointer (some ⟨b,o,none⟩))
 | fn (f:FuncId) (l:List E) (vs:List Value) (h:vs.length=l.length) (k:∀ (i:Nat) (p:E) (x:Value),l[i]? = some p->vs[i]? = some x->eo bs br w p x):eo bs br w (.fn f l) (.func (.func f) #[] vs.toArray)
theorem eo.mono{bs br bs' br':Nat->Prop}{w w':World}(ie:w.heap.size<=w'.heap.size)
 (h1:∀ b,b<w.heap.size->bs' b->bs b) (h2:∀ b,b<w.heap.size->br' b->br b)
 (hc:∀ b o x,b<w.heap.size->(¬bs b\/¬br b)->w.cell? ⟨b,o,none⟩=some x->w'.cell? ⟨b,o,none⟩=some x)
 {e:E} {v:Value} (h:eo bs br w e v):eo bs' br' w' e v:=by
 induction h with
 | any x=>exact .any x
 | v x=>exact .v x
 | agg l vs h k ih=>exact .agg l vs h ih
 | ef l vs h k ih=>exact .ef l vs h ih
 | sl nl n sz el A c f hn hm h0 hl hr cell k ih=>
  refine .sl nl n sz el A c f hn hm h0 hl hr (fun i j hi hj=>?_) ih;obtain⟨b,o,e,hb,ek,gG⟩:=cell i j hi hj;exact⟨b,o,e,fun hx=>hb (h1 b ek hx),a7 ek ie,hc b _ _ ek (.inl hb) gG⟩
 | ref m el b o f hb ek hl cell k ih=>
  exact .ref m el b o f (fun hx=>hb (h2 b ek hx)) (a7 ek ie) hl (fun j hj=>hc b _ _ ek (.inr hb) (cell j hj)) ih
 | fn f l vs h k ih=>exact .fn f l vs h ih
theorem eo.ni{bs br bs' br':Nat->Prop}{w:World}(h1:∀ b,bs' b->bs b)(h2:∀ b,br' b->br b){e:E}{v:Value}(h:eo bs br w e v):eo bs' br' w e v:=
 h.mono (aG _) (fun b _=>h1 b) (fun b _=>h2 b) (fun _ _ _ _ _ h=>h)
def E.plain:Nat->E->Bool
 | _,.any=>true
 | _,.v _=>true
 | d+1,.agg l=>l.all (E.plain d)
 | d+1,.ef l=>l.all (E.plain d)
 | _,_=>false
theorem eo.plain{bs br bs' br':Nat->Prop}{w w':World}{e:E}{v:Value}(h:eo bs br w e v):∀ d,e.plain d=true->eo bs' br' w' e v:=by
 induction h with
 | any x=>exact fun _ _=>.any x
 | v x=>exact fun _ _=>.v x
 | agg l vs h k ih=>
  intro d hd;cases d with
  | zero=>simp[E.plain]at hd
  | succ d=>
   simp only[E.plain,bg]at hd;exact .agg l vs h fun i p x hp hx=>ih i p x hp hx d (hd p (dq hp))
 | ef l vs h k ih=>
  intro d hd;cases d with
  | zero=>simp[E.plain]at hd
  | succ d=>
   simp only[E.plain,bg]at hd;exact .ef l vs h fun i p x hp hx=>ih i p x hp hx d (hd p (dq hp))
 | sl=>intro d hd;cases d<;>simp[E.plain]at hd
 | ref=>intro d hd;cases d<;>simp[E.plain]at hd
 | fn=>intro d hd;cases d<;>simp[E.plain]at hd
theorem eo.nr{bs br br':Nat->Prop}{w:World}{e:E}{v:Value}(h:eo bs br w e v):∀ d,e.nr d=true->eo bs br' w e v:=by
 induction h with
 | any x=>exact fun _ _=>.any x
 | v x=>exact fun _ _=>.v x
 | agg l vs h k ih=>
  intro d hd;cases d with
  | zero=>simp[E.nr]at hd
  | succ d=>
   simp only[E.nr,bg]at hd;exact .agg l vs h fun i p x hp hx=>ih i p x hp hx d (hd p (dq hp))
 | ef l vs h k ih=>
  intro d hd;cases d with
  | zero=>simp[E.nr]at hd
  | succ d=>
   simp only[E.nr,bg]at hd;exact .ef l vs h fun i p x hp hx=>ih i p x hp hx d (hd p (dq hp))
 | fn f l vs h k ih=>
  intro d hd;cases d with
  | zero=>simp[E.nr]at hd
  | succ d=>
   simp only[E.nr,bg]at hd;exact .fn f l vs h fun i p x hp hx=>ih i p x hp hx d (hd p (dq hp))
 | ref=>intro d hd;cases d<;>simp[E.nr]at hd
 | sl nl n sz el A c f hn hm h0 hl hr cell k ih=>
  exact fun _ _=>.sl nl n sz el A c f hn hm h0 hl hr cell fun i j hi hj=>ih i j hi hj 2 (hr i j hi hj)
def E.one:E->Bool
 | .v x=>x.oneCell'
 | .sl ..=>true
 | .ref ..=>true
 | .fn ..=>true
 | _=>false
def E.jj:E->Bool
 | .v x=>!nY x
 | .sl ..=>true
 | .ref ..=>true
 | .fn ..=>true
 | _=>false
theorem eo.one{bs br:Nat->Prop}{w:World}{e:E}{v:Value}(h:eo bs br w e v)(h1:e.one=true):v.oneCell'=true:=by
 cases h<;>first|exact h1|rfl|(simp[E.one]at h1)
theorem eo.jj{bs br:Nat->Prop}{w:World}{e:E}{v:Value}(h:eo bs br w e v)(h1:e.jj=true):nY v=false:=by
 cases h with
 | v=>unfold E.jj at h1;cases hb:nY v<;>simp_all
 | any=>cases h1
 | agg=>cases h1
 | ef=>cases h1
 | sl=>rfl
 | ref=>rfl
 | fn=>rfl
structure fM(bs br:Nat->Prop)(w:World)(l:List E)(vs:List Value):Prop where
 len:vs.length=l.length
 rep:∀ (i:Nat) (p:E) (x:Value),l[i]? = some p->vs[i]? = some x->eo bs br w p x
theorem fM.nil(bs br:Nat->Prop)(w:World):fM bs br w [] []:=⟨rfl,fun i p x h=>by simp at h⟩
theorem fM.cons{bs br:Nat->Prop}{w:World}{p:E}{x:Value}{l:List E}{vs:List Value}(h:eo bs br w p x)(k:fM bs br w l vs):fM bs br w (p::l) (x::vs):=
 ⟨by simp[k.len],fun i q y hq hy=>by
  cases i with
  | zero=>simp at hq hy;subst hq hy;exact h
  | succ i=>simp at hq hy;exact k.rep i q y hq hy⟩
theorem fM.head{bs br:Nat->Prop}{w:World}{p:E}{x:Value}{l:List E}{vs:List Value}(h:fM bs br w (p::l) (x::vs)):eo bs br w p x:=h.rep 0 p x rfl rfl
theorem fM.tail{bs br:Nat->Prop}{w:World}{p:E}{x:Value}{l:List E}{vs:List Value}(h:fM bs br w (p::l) (x::vs)):fM bs br w l vs:=
 ⟨by have:=h.len;simpa using this,fun i q y hq hy=>h.rep (i+1) q y (by simpa using hq) (by simpa using hy)⟩
theorem fM.iw{bs br:Nat->Prop}{w:World}{p:E}{l:List E}{vs:List Value}(h:fM bs br w (p::l) vs):∃ x ys,vs=x::ys/\eo bs br w p x/\fM bs br w l ys:=by
 cases vs with
 | nil=>have:=h.len;simp at this
 | cons x ys=>exact⟨x,ys,rfl,h.head,h.tail⟩
theorem fM.lV{bs br:Nat->Prop}{w:World}{vs:List Value}(h:fM bs br w [] vs):vs=[]:=cE h.len
theorem fM.mono{bs br bs' br':Nat->Prop}{w w':World}{l:List E}{vs:List Value}(h:fM bs br w l vs)(k:∀ e v,eo bs br w e v->eo bs' br' w' e v):fM bs' br' w' l vs:=
 ⟨h.len,fun i p x hp hx=>k _ _ (h.rep i p x hp hx)⟩
theorem fM.take{bs br:Nat->Prop}{w:World}{l:List E}{vs:List Value}(h:fM bs br w l vs)(n:Nat):fM bs br w (l.take n) (vs.take n):=
 ⟨by simp[h.len],fun i p x hp hx=>by
  rw[dp]at hp hx;split at hp
  .rename_i hi;rw[aC hi]at hx;exact h.rep i p x hp hx
  .cases hp⟩
theorem fM.drop{bs br:Nat->Prop}{w:World}{l:List E}{vs:List Value}(h:fM bs br w l vs)(n:Nat):fM bs br w (l.drop n) (vs.drop n):=
 ⟨by simp[h.len],fun i p x hp hx=>by
  rw[dF]at hp hx;exact h.rep _ p x hp hx⟩
theorem fM.app{bs br:Nat->Prop}{w:World}{l m:List E}{vs us:List Value}(h:fM bs br w l vs)(k:fM bs br w m us):fM bs br w (l++m) (vs++us):=
 ⟨by simp[h.len,k.len],fun i p x hp hx=>by
  rw[ag1]at hp hx;rw[h.len]at hx;split at hp
  .rename_i hi;rw[aC hi]at hx;exact h.rep i p x hp hx
  .rename_i hi;rw[aB hi]at hx;exact k.rep _ p x hp hx⟩
theorem fM.consts(bs br:Nat->Prop)(w:World)(vs:List Value):fM bs br w (vs.map .v) vs:=
 ⟨ aj,fun i p x hp hx=>by
  rw[bL,hx]at hp;simp at hp;subst hp;exact .v x⟩
theorem eo.xh{bs br:Nat->Prop}{w:World}{l:List E}{v:Value}(h:eo bs br w (.agg l) v):∃ vs:List Value,v = .agg vs.toArray/\fM bs br w l vs:=by
 cases h with
 | agg _ vs h k=>exact⟨vs,rfl,h,k⟩
theorem eo.RG{bs br:Nat->Prop}{w:World}{l:List E}{v:Value}(h:eo bs br w (.ef l) v):∃ vs:List Value,v = .tuple vs.toArray/\fM bs br w l vs:=by
 cases h with
 | ef _ vs h k=>exact⟨vs,rfl,h,k⟩
theorem eo.gn{bs br:Nat->Prop}{w:World}{x v:Value}(h:eo bs br w (.v x) v):v=x:=by cases h;rfl
theorem eo.L5{bs br:Nat->Prop}{w:World}{f:FuncId}{l:List E}{v:Value}(h:eo bs br w (.fn f l) v):∃ vs:List Value,v = .func (.func f) #[] vs.toArray/\fM bs br w l vs:=by
 cases h with
 | fn _ _ vs h k=>exact⟨vs,rfl,h,k⟩
theorem fM.agg{bs br:Nat->Prop}{w:World}{l:List E}{vs:List Value}(h:fM bs br w l vs):eo bs br w (.agg l) (.agg vs.toArray):=.agg l vs h.len h.rep
theorem fM.ef{bs br:Nat->Prop}{w:World}{l:List E}{vs:List Value}(h:fM bs br w l vs):eo bs br w (.ef l) (.tuple vs.toArray):=.ef l vs h.len h.rep
def E.cells?:E->Option (List E)
 | .agg l=>if l.all E.one then some l else none
 | .v (.agg cs)=>if cs.toList.all Value.oneCell' then some (cs.toList.map .v)else none
 | .v x=>if x.oneCell' then some [.v x]else none
 | .sl nl n sz el=>some [.sl nl n sz el]
 | .ref m el=>some [.ref m el]
 | .fn f c=>some [.fn f c]
 | _=>none
theorem eo.cells{bs br:Nat->Prop}{w:World}{e:E}{v:Value}(h:eo bs br w e v){l:List E}(hl:e.cells? = some l):
 fM bs br w l v.cells.toList/\∀ u ∈ v.cells.toList,u.oneCell'=true:=by
 have single:∀ {e:E} {v:Value},eo bs br w e v->v.oneCell'=true->v.cells = #[v]->fM bs br w [e] v.cells.toList/\∀ u ∈ v.cells.toList,u.oneCell'=true:=by
  intro e v h h1 hc;rw[hc];exact⟨.cons h (.nil _ _ _),by simpa using h1⟩
 cases h with
 | any x=>simp[E.cells?]at hl
 | v=>
  by_cases ha:∃ cs,v = .agg cs
  .obtain ⟨cs,rfl⟩:=ha
   simp only[E.cells?]at hl;split at hl
   .rename_i h1
    cases hl;exact⟨fM.consts _ _ _ _,fun u hu=>bg.1 h1 u hu⟩
   .cases hl
  .have hx:(E.v v).cells? = if v.oneCell' then some [.v v]else none:=by
    cases v<;>first|rfl|exact absurd ⟨_,rfl⟩ ha
   rw[hx]at hl;split at hl
   .rename_i h1
    cases hl;exact single (.v v) h1 (by cases v<;>first|rfl|exact absurd ⟨_,rfl⟩ ha)
   .cases hl
 | agg l vs h k=>
  simp only[E.cells?]at hl;split at hl
  .rename_i h1
   cases hl;refine⟨⟨h,k⟩,?_⟩;intro u hu;obtain⟨i,hi⟩:=cG.1 hu;have vN:i<l.length:=by
    obtain⟨hi,_⟩:=bA.1 hi;simp[Value.cells]at hi;omega
   exact(k i _ u (aM vN) (by simpa[Value.cells]using hi)).one (bg.1 h1 _ (bR vN))
  .cases hl
 | ef=>simp[E.cells?]at hl
 | sl nl n sz el A c f hc hm h0 mB hr cell k=>simp only[E.cells?]at hl;cases hl;exact single (.sl nl n sz el A c f hc hm h0 mB hr cell k) rfl rfl
 | ref m el b o f hb ek mB cell k=>simp only[E.cells?]at hl;cases hl;exact single (.ref m el b o f hb ek mB cell k) rfl rfl
 | fn f l' vs h k=>simp only[E.cells?]at hl;cases hl;exact single (.fn f l' vs h k) rfl rfl
open Go.RowKit
structure TI where
 id:TypeId
 d:TypeDesc
 i:TypeInfo
def iC(P:Program)(T:List TI):Prop:=∀ x,x ∈ T->P.underlying x.id=some x.d/\P.info? x.id=some x.i
def iT:List TI->TypeId->Option TI
 | [],_=>none
 | x::l,t=>if Nat.beq x.id t then some x else iT l t
def descOf(T:List TI)(t:TypeId):Option TypeDesc:=match iT T t with
 | some x=>some x.d
 | none=>none
def TI.isAgg(x:TI):Bool:=match x.d with
 | .struct _ | .array _ _=>true
 | _=>false
inductive CV where
 | e (x:E)
 | box (id:Nat)
inductive PV where
 | e (x:E)
 | box (id off:Nat)
 | own (id:Nat)
 | lr (id sz i j:Nat)
 | eK (id k:Nat)
 | oX (f:FuncId) (cap:List CV)
def CV.refs:CV->List Nat
 | .e _=>[]
 | .box id=>[id]
def PV.refs:PV->List Nat
 | .e _=>[]
 | .box id _ | .own id | .lr id _ _ _ | .eK id _=>[id]
 | .oX _ cap=>cap.flatMap CV.refs
inductive Bx where
 | cells (T:TypeId) (l:List E)
 | row (nl:Bool) (T:TypeId) (n sz:Nat) (el:Nat->Nat->E)
 | rows (nl:Bool) (T1 T0:TypeId) (n sz:Nat) (len:Nat->Nat) (el:Nat->Nat->Nat->E) (pend:Option Nat)
def Bx.nl:Bx->Bool
 | .cells _ l=>l.all E.jj
 | .row nl ..=>nl
 | .rows nl ..=>nl
structure PS where
 n:Nat
 nl:Bool
 t:List (Nat×PV)
 b:List (Nat×Bx)
def look{α:Type}:List (Nat×α)->Nat->Option α
 | [],_=>none
 | (k,x)::l,t=>if Nat.beq k t then some x else look l t
def PS.get(σ:PS)(t:Nat):PV:=(look σ.t t).getD (.e .any)
def PS.bo(σ:PS)(id:Nat):Option Bx:=look σ.b id
def PS.op(σ:PS):Operand->PV
 | .tmp t=>σ.get t
 | .const v=>.e (.v v)
 | .global g=>.e (.v (.pointer (some ⟨g,0,none⟩)))
 | .func f=>.e (.fn f [])
inductive mV where
 | none
 | new (id:Nat) (b:Bx)
 | pW (id:Nat) (b:Bx)
 | grow (id:Nat) (b:Bx)
 | qX (id:Nat) (b:Bx)
 | fin (id:Nat)
structure Out where
 r:PV
 f:mV:=.none
 rb:List Nat:=[]
 fo:List Prop:=[]
 rd:List PV:=[]
def PV.kT:mV->PV->PV
 | .grow id _,.own i=>if Nat.beq i id then .e .any else .own i
 | .grow id _,.lr i s x j=>if Nat.beq i id then .e .any else .lr i s x j
 | .qX id _,.eK i k=>if Nat.beq i id then .e .any else .eK i k
 | .fin id,p=>if p.refs.any (Nat.beq id)then .e .any else p
 | _,p=>p
def y4(l:List (Nat×Bx))(id:Nat)(b:Bx):List (Nat×Bx):=(id,b)::l.filter fun x=>!Nat.beq x.1 id
def mV.boxes:mV->List (Nat×Bx)->List (Nat×Bx)
 | .none,l=>l
 | .new id b,l | .pW id b,l | .grow id b,l | .qX id b,l=>y4 l id b
 | .fin id,l=>l.filter fun x=>!Nat.beq x.1 id
def mV.EC:mV->Bool
 | .grow .. | .qX .. | .fin ..=>true
 | _=>false
def PS.mz(σ:PS)(f:mV):PS:={ σ with t:=if f.EC then σ.t.map fun x=>(x.1,x.2.kT f)else σ.t,b:=f.boxes σ.b }
def PS.put(σ:PS)(d:Option Tmp)(p:PV):PS:=match d with
 | some d=>{ σ with t:=(d,p)::σ.t.filter fun x=>!Nat.beq x.1 d }
 | none=>σ
def gI:IntKind->Int->Prop
 | .i8,z=>-128<=z/\z<=127
 | .i16,z=>-32768<=z/\z<=32767
 | .i32,z=>-2147483648<=z/\z<=2147483647
 | .i64,z=>-9223372036854775808<=z/\z<=9223372036854775807
 | .u8,z=>0<=z/\z<=255
 | .u16,z=>0<=z/\z<=65535
 | .u32,z=>0<=z/\z<=4294967295
 | .u64,z=>0<=z/\z<=18446744073709551615
def sameKind(op:BinOp)(k k':IntKind):Bool:=match op with
 | .shl=>true
 | .shr=>true
 | _=>decide (k=k')
def EU(k:IntKind)(x y:Int):Int:=match k with
 | .u32=>IntKind.u32.wrap (x+y)
 | _=>x+y
def J6(k:IntKind)(x y:Int):List Prop:=match k with
 | .u32=>[]
 | _=>[gI k (x+y)]
def FK(op:BinOp)(k:IntKind)(x:Int)(y:Int):Option (Value×List Prop):=match op with
 | .add=>some (.int k (EU k x y),J6 k x y)
 | .sub=>some (.int k (x-y),[gI k (x-y)])
 | .mul=>some (.int k (x*y),[gI k (x*y)])
 | .quo=>some (.int k (x.tdiv y),[0<y,gI k x])
 | .rem=>some (.int k (x.tmod y),[0<y])
 | .and=>some (.int k (bits .and k x y),[])
 | .or=>some (.int k (bits .or k x y),[])
 | .shl=>some (.int k (k.wrap (x*2^y.toNat)),[0<=y/\y<=k.bits])
 | .shr=>some (.int k (x/2^y.toNat),[0<=y/\y<=k.bits])
 | .eql=>some (.bool (x==y),[])
 | .neq=>some (.bool (x != y),[])
 | .lss=>some (.bool (decide (x<y)),[])
 | .leq=>some (.bool (decide (x<=y)),[])
 | .gtr=>some (.bool (decide (y<x)),[])
 | .geq=>some (.bool (decide (y<=x)),[])
 | _=>none
def PS.read(σ:PS)(p:PV)(m:Nat):Option (List E×List Nat×List Prop):=match p with
 | .box id off=>match σ.bo id with
  | some (.cells _ l)=>if Nat.ble (off+m) l.length then some ((l.drop off).take m,[id],[])else none
  | _=>none
 | .lr id sz i j=>match σ.bo id with
  | some (.row _ _ n s el)=>if Nat.beq s sz&&Nat.ble (j+m) sz then some ((List.range m).map fun q=>el i (j+q),[id],[i<n])else none
  | _=>none
 | .e (.ref k el)=>if Nat.ble m k then some ((List.range m).map el,[],[])else none
 | _=>none
def CV.ext(σ:PS):CV->Option (E×List Nat)
 | .e x=>some (x,[])
 | .box id=>match σ.bo id with
  | some (.cells _ l)=>some (.ref l.length fun j=>l.getD j .any,[id])
  | _=>none
def rP(σ:PS):List CV->Option (List E×List Nat)
 | []=>some ([],[])
 | c::l=>match c.ext σ,rP σ l with
  | some (x,i),some (xs,is)=>some (x::xs,i++is)
  | _,_=>none
def PV.wq:PV->Bool
 | .own _=>true
 | _=>false
def PV.ext(σ:PS):PV->Option (E×List Nat)
 | .e x=>some (x,[])
 | .own id=>match σ.bo id with
  | some (.row nl _ n sz el)=>some (.sl nl n sz el,[id])
  | _=>none
 | .box id 0=>match σ.bo id with
  | some (.cells _ l)=>some (.ref l.length fun j=>l.getD j .any,[id])
  | _=>none
 | .oX f cap=>match rP σ cap with
  | some (xs,is)=>some (.fn f xs,is)
  | none=>none
 | _=>none
def qc(σ:PS):List Operand->Option (List E×List Nat)
 | []=>some ([],[])
 | o::l=>match(σ.op o).ext σ,qc σ l with
  | some (x,i),some (xs,is)=>some (x::xs,i++is)
  | _,_=>none
def sM:List PV->Option (List CV)
 | []=>some []
 | .e x::l=>(sM l).map (.e x :: ·)
 | .box id 0::l=>(sM l).map (.box id :: ·)
 | _::_=>none
def ks(w:World)(b:Nat):Prop:=∀ o x,w.cell? ⟨b,o,none⟩≠some (.int .u32 x)
structure PC(P:Program)(K:World->Prop)(f:FuncId)(args:List E)(fu:E):Prop where
 call:∀ (vs:Array Value) (w:World),(callFunc f vs).run P w = .ok (.enter f vs) w
 run:∀ (w:World) (B:Nat->Prop) (vs:List Value),K w->(∀ b,B b->b<w.heap.size/\ks w b)->fM B (fun _=>False) w args vs ->
  Calls P f vs.toArray w (fun e w'=>∃ v,e = .returned v/\Below w.heap.size w w'/\eo B (fun _=>True) w' fu v)
structure vg(P:Program)(K:World->Prop)(f:FuncId)(args:List E)(fu:E):Prop where
 call:∀ (vs:Array Value) (w:World),(callFunc f vs).run P w = .ok (.enter f vs) w
 run:∀ (w:World) (B:Nat->Prop) (vs:List Value),K w->(∀ b,B b->b<w.heap.size)->fM B (fun _=>False) w args vs ->
  Calls P f vs.toArray w (fun e w'=>∃ v,e = .returned v/\Below w.heap.size w w'/\eo B (fun _=>True) w' fu v)
theorem vg.pc{P:Program}{K:World->Prop}{f:FuncId}{args:List E}{fu:E}(h:vg P K f args fu):PC P K f args fu:=
 ⟨h.call,fun w B vs hK hB hr=>h.run w B vs hK (fun b hb=>(hB b hb).1) hr⟩
def me(w:World)(v:Value)(T:TypeId)(n sz:Nat)(f:Nat->Nat->Value)(nl:Bool):Prop:=
 (v = .slice none 0 0/\n=0) \/
 ∃ (b c:Nat) (cur:Array Value),v = .slice (some ⟨b,0,none⟩) n c/\w.heap[b]? = some (.cells cur T (0,0))/\n<=c/\c<=maxLen/\cur.size=c*sz /\
  (∀ i j,i<n->j<sz->cur[i*sz+j]? = some (f i j)/\(f i j).oneCell'=true)/\(nl=true->∀ u,u ∈ cur->nY u=false)
structure pZ(P:Program)(K:World->Prop)(f:FuncId)(args:List E)(nl:Bool)(T:TypeId)(n sz:Nat)(el:Nat->Nat->E):Prop where
 call:∀ (vs:Array Value) (w:World),(callFunc f vs).run P w = .ok (.enter f vs) w
 run:∀ (w:World) (B:Nat->Prop) (vs:List Value),K w->(∀ b,B b->b<w.heap.size/\ks w b)->fM B (fun _=>False) w args vs ->
  Calls P f vs.toArray w (fun e w'=>∃ v,e = .returned v/\Below w.heap.size w w'/\∃ g,me w' v T n sz g nl/\(∀ x,v.ownBlock=some x->w.heap.size<=x/\x<w'.heap.size) /\
   ∀ i j,i<n->j<sz->eo (fun b=>B b\/v.ownBlock=some b) (fun _=>True) w' (el i j) (g i j)/\(el i j).nr 2=true)
structure mc where
 cl:List (Nat×E):=[]
 ov:List (Nat×PV):=[]
 nw:List (Nat×Bx):=[]
def Bu(T:List TI):List Field->Option (List (Nat×Nat))
 | []=>some []
 | f::fs=>match iT T f.type,Bu T fs with
  | some ti,some l=>some ((f.offset,ti.i.size)::l)
  | _,_=>none
def uR(l:List E)(off:Nat)(m:List E):List E:=l.take off++m++l.drop (off+m.length)
def ns(σ:PS)(place:Nat->Option (Nat×Nat)):List E->List (Nat×Operand)->Option (List E)
 | l,[]=>some l
 | l,(i,x)::ps=>match place i,σ.op x with
  | some (off,size),.e e=>match e.cells? with
   | some m=>if Nat.beq m.length size&&Nat.ble (off+m.length) l.length then ns σ place (uR l off m) ps else none
   | none=>none
  | _,_=>none
def tX(ti:TI):Option (List E):=match ti.i.zero with
 | some z=>(E.v z).cells?
 | none=>none
def rep{α:Type}:Nat->List α->List α
 | 0,_=>[]
 | n+1,l=>l++rep n l
def mX(P:Program)(op:BinOp)(t:TypeId)(x y:E)(v:Value):Prop:=∀ (bs br:Nat->Prop) (w:World) (a b:Value) (ox oy:Operand),eo bs br w x a->eo bs br w y b->(eqGuard op t ox oy a b).run P w = .ok () w/\(binOp op t a b).run P w = .ok v w
def W8(O:mc)(d:Option Tmp):Option Value:=match d with
 | some d=>match look O.cl d with
  | some (.v v)=>some v
  | _=>none
 | none=>none
def uk(P:Program)(K:World->Prop)(O:mc)(σ:PS)(d:Option Tmp)(f:FuncId)(xs:List E)(is:List Nat)(ow:Bool):Option Out:=
 match(match d with
  | some d=>look O.cl d
  | none=>some .any)with
 | some fu=>if fu.plain 3||(σ.nl && !ow)then some { r:=.e fu,rb:=is,fo:=[PC P K f xs fu] }else if !ow then some { r:=.e fu,rb:=is,fo:=[vg P K f xs fu] }else none
 | none=>match d with
  | some d=>match look O.nw d,σ.bo d with
   | some (.row nl T n sz el),none=>if(σ.nl&&nl) && !ow then some { r:=.own d,f:=.new d (.row nl T n sz el),rb:=is,fo:=[pZ P K f xs nl T n sz el] }else none
   | _,_=>none
  | none=>none
def rp(σ:PS)(d:Option Tmp)(b:Bx)(r:Nat->PV)(fo:List Prop):Option Out:=match d with
 | some d=>match σ.bo d with
  | none=>if !σ.nl||b.nl then some { r:=r d,f:=.new d b,fo:=fo }else none
  | some _=>none
 | none=>none
def uj(T:List TI)(σ:PS)(d:Option Tmp)(t:TypeId)(s x:PV):Option Out:=match x with
 | .e (.sl nl2 m sz2 el2)=>match iT T t with
  | some tt=>match tt.d with
   | .slice e=>match iT T e with
    | some te=>match tX te with
     | some z=>if Nat.beq te.i.size sz2&&Nat.ble 1 sz2&&Nat.ble 1 te.i.bytes&&Nat.beq z.length sz2 then match s with
      | .own id=>match σ.bo id with
       | some (.row nl T1 n sz el)=>if Nat.beq T1 e&&Nat.beq sz sz2&&(!σ.nl||(nl&&(nl2&&z.all E.jj)))then
        some { r:=.own id,f:=.grow id (.row (nl&&(nl2&&z.all E.jj)) T1 (n+m) sz fun i j=>if i<n then el i j else el2 (i-n) j),rb:=[id],fo:=[(n+m)*te.i.bytes<=140737488355328] }
        else none
       | _=>none
      | .eK id k=>match σ.bo id with
       | some (.rows nl T1 T0 n sz len el none)=>if Nat.beq T0 e&&Nat.beq sz sz2&&(!nl||(nl2&&z.all E.jj))then
        some { r:=.eK id k,f:=.qX id (.rows nl T1 T0 n sz (fun q=>if q=k then len q+m else len q) (fun q i j=>if q=k then(if i<len q then el q i j else el2 (i-len q) j)else el q i j) (some k)),rb:=[id],fo:=[k<n,(len k+m)*te.i.bytes<=140737488355328] }
        else none
       | _=>none
      | .e (.v (.slice none 0 0))=>rp σ d (.row (nl2&&z.all E.jj) e m sz2 el2) .own [m*te.i.bytes<=140737488355328]
      | _=>none
     else none
     | none=>none
    | none=>none
   | _=>none
  | none=>none
 | _=>none
def vE(T:List TI)(σ:PS)(d:Option Tmp)(t:TypeId)(s x:PV):Option Out:=match uj T { σ with nl:=false } d t s x with
 | some u=>match u.f,u.r with
  | .grow id (.row nl _ n sz el),.own id'=>if Nat.beq id' id then some { r:=.e (.sl nl n sz el),f:=.fin id,rb:=u.rb,fo:=True::u.fo }else none
  | _,_=>none
 | none=>none
def LO(T:List TI)(t:TypeId)(l c:PV):Option (Bx×List Prop):=match l,c with
 | .e (.v (.int _ l)),.e (.v (.int _ c))=>match iT T t with
  | some tt=>match tt.d with
   | .slice e=>match iT T e with
    | some te=>match tX te with
     | some z=>if Nat.beq te.i.size z.length&&Nat.ble 1 te.i.size then
      let fo:=[0<=l/\l<=c,(te.i.bytes:Int)*c<=281474976710656/\c<=9223372036854775807]
      match te.d with
      | .slice e0=>match iT T e0,z with
       | some t0,[.v (.slice none 0 0)]=>some (.rows true e e0 l.toNat t0.i.size (fun _=>0) (fun _ _ _=>.any) none,fo)
       | _,_=>none
      | _=>some (.row (z.all E.jj) e l.toNat te.i.size (fun _ j=>z.getD j .any),fo)
      else none
     | none=>none
    | none=>none
   | _=>none
  | none=>none
 | _,_=>none
def CJ(T:List TI)(σ:PS)(d:Option Tmp)(t:TypeId)(l c:PV):Option Out:=match LO T t l c with
 | some (b,fo)=>rp σ d b .own fo
 | none=>none
def CK(T:List TI)(t:TypeId)(x:PV)(lo hi:Option PV):Option Out:=match x with
 | .e (.sl nl n sz el)=>match iT T t with
  | some tt=>match tt.d with
   | .slice e=>match iT T e with
    | some te=>if Nat.beq te.i.size sz then match lo,hi with
     | none,some (.e (.v (.int _ h)))=>some { r:=.e (.sl nl h.toNat sz el),fo:=[0<=h/\h<=n] }
     | some (.e (.v (.int _ l))),none=>some { r:=.e (.sl nl (n-l.toNat) sz fun i j=>el (l.toNat+i) j),fo:=[0<=l/\l<=n] }
     | some (.e (.v (.int _ l))),some (.e (.v (.int _ h)))=>some { r:=.e (.sl nl (h.toNat-l.toNat) sz fun i j=>el (l.toNat+i) j),fo:=[0<=l/\l<=h/\h<=n] }
     | _,_=>none
     else none
    | none=>none
   | _=>none
  | none=>none
 | _=>none
def CH(T:List TI)(σ:PS)(t:TypeId)(x i:PV):Option Out:=match i with
 | .e (.v (.int _ z))=>match iT T t with
  | some tt=>match tt.d with
   | .slice e=>match iT T e with
    | some te=>match x with
     | .e (.sl _ n sz el)=>if Nat.beq te.i.size sz&&Nat.ble 1 sz then some { r:=.e (.ref sz (el z.toNat)),fo:=[0<=z/\z<n] }else none
     | .own id=>match σ.bo id with
      | some (.row _ _ n sz _)=>if Nat.beq te.i.size sz then some { r:=.lr id sz z.toNat 0,rb:=[id],fo:=[0<=z/\z<n] }else none
      | some (.rows _ _ _ n _ _ _ _)=>if Nat.beq te.i.size 1 then some { r:=.lr id 1 z.toNat 0,rb:=[id],fo:=[0<=z/\z<n] }else none
      | _=>none
     | _=>none
    | none=>none
   | .array n e=>match iT T e with
    | some te=>match x with
     | .box id off=>some { r:=.box id (off+z.toNat*te.i.size),fo:=[0<=z/\z<n] }
     | .e (.ref m el)=>if Nat.beq (n*te.i.size) m then some { r:=.e (.ref te.i.size fun j=>el (z.toNat*te.i.size+j)),fo:=[0<=z/\z<n] }else none
     | _=>none
    | none=>none
   | _=>none
  | none=>none
 | _=>none
def CL(T:List TI)(σ:PS)(t:TypeId)(a x:PV):Option Out:=match iT T t with
 | some ti=>match a,x with
  | .box id off,.e e=>match σ.bo id,e.cells? with
   | some (.cells T1 l),some m=>if Nat.beq m.length ti.i.size&&Nat.ble (off+m.length) l.length&&(!σ.nl||m.all E.jj)then
    some { r:=.e .any,f:=.pW id (.cells T1 (uR l off m)),rb:=[id] }else none
   | _,_=>none
  | .lr id sz i j,.e e=>match σ.bo id,e.cells? with
   | some (.row nl T1 n s el),some m=>if Nat.beq m.length ti.i.size&&Nat.beq s sz&&Nat.ble (j+m.length) sz&&(!nl||m.all E.jj)&&m.all (E.nr 2)then
    some { r:=.e .any,f:=.pW id (.row nl T1 n s fun i' j'=>if i'=i/\j<=j'/\j'<j+m.length then m.getD (j'-j) .any else el i' j'),rb:=[id],fo:=[i<n] }else none
   | _,_=>none
  | .lr id 1 i 0,.eK id' k=>match σ.bo id with
   | some (.rows nl T1 T0 n sz len el (some k'))=>if Nat.beq id id'&&Nat.beq ti.i.size 1 then
    some { r:=.e .any,f:=.pW id (.rows nl T1 T0 n sz len el none),rb:=[id],fo:=[i=k',k=k',k'<n] }else none
   | _=>none
  | _,_=>none
 | none=>none
def qh:PV->PS->Option (Value×List Nat)
 | .e (.sl _ n _ _),_=>some (.int .i64 (n:Int),[])
 | .e (.v (.slice _ n _)),_=>some (.int .i64 (n:Int),[])
 | .own id,σ=>match σ.bo id with
  | some (.row _ _ n _ _)=>some (.int .i64 (n:Int),[id])
  | some (.rows _ _ _ n _ _ _ _)=>some (.int .i64 (n:Int),[id])
  | _=>none
 | _,_=>none
def A6(ti:TI):Option (List E×List Nat×List Prop)->Option Out
 | some (l,is,fo)=>if ti.isAgg then some { r:=.e (.agg l),rb:=is,fo:=fo }else match l with
  | [e]=>some { r:=.e e,rb:=is,fo:=fo }
  | _=>none
 | none=>none
def wT(σ:PS):PV->Option (Nat×Nat×Nat)
 | .lr id sz i j=>match σ.bo id with
  | some (.rows _ _ _ n _ _ _ none)=>if Nat.beq sz 1&&Nat.beq j 0 then some (id,i,n)else none
  | _=>none
 | _=>none
def CI(T:List TI)(σ:PS)(t:TypeId)(p:PV):Option Out:=match iT T t with
 | some ti=>match wT σ p with
  | some (id,i,n)=>if ti.isAgg then none else some { r:=.eK id i,rb:=[id],fo:=[i<n] }
  | none=>A6 ti (σ.read p ti.i.size)
 | none=>none
def Ci(O:mc):Option Tmp->Bool
 | some d=>(look O.nw d).isSome
 | none=>false
def eX(P:Program)(K:World->Prop)(T:List TI)(O:mc)(σ:PS)(o:Oper):Option Out:=match o.op with
 | .move x=>some { r:=σ.op x }
 | .assign x=>some { r:=σ.op x }
 | .pick c a b=>match σ.op c with
  | .e (.v (.bool true))=>some { r:=σ.op a }
  | .e (.v (.bool false))=>some { r:=σ.op b }
  | _=>none
 | .alloc t=>match iT T t with
  | some ti=>match tX ti with
   | some z=>rp σ o.dst (.cells t z) (.box · 0) []
   | none=>none
  | none=>none
 | .box t x=>match σ.op x with
  | .e e=>match e.cells? with
   | some l=>rp σ o.dst (.cells t l) (.box · 0) []
   | none=>none
  | _=>none
 | .build t ps=>match iT T t with
  | some ti=>match tX ti with
   | some z=>match ti.d with
    | .struct fs=>match Bu T fs.toList with
     | some pl=>(ns σ (fun i=>pl[i]?) z ps.toList).map fun l=>{ r:=.e (.agg l) }
     | none=>none
    | .array _ e=>match iT T e with
     | some te=>(ns σ (fun i=>some (i*te.i.size,te.i.size)) z ps.toList).map fun l=>{ r:=.e (.agg l) }
     | none=>none
    | _=>none
   | none=>none
  | none=>none
 | .buildSlice t n ps=>match iT T t with
  | some tt=>match tt.d with
   | .slice e=>match iT T e with
    | some te=>match tX te with
     | some z=>if Nat.beq z.length te.i.size&&Nat.ble 1 te.i.size&&Nat.ble (n*te.i.size) 16777216 then
      (ns σ (fun i=>some (i*te.i.size,te.i.size)) (rep n z) ps.toList).bind fun l=>
       if !(l.all (E.nr 2))then none else if Ci O o.dst then rp σ o.dst (.row (l.all E.jj) e n te.i.size fun i j=>l.getD (i*te.i.size+j) (.v (.bool false))) .own [True]
       else if l.all E.jj then some { r:=.e (.sl true n te.i.size fun i j=>l.getD (i*te.i.size+j) (.v (.bool false))) }
       else some { r:=.e (.sl false n te.i.size fun i j=>l.getD (i*te.i.size+j) (.v (.bool false))) }
      else none
     | none=>none
    | none=>none
   | _=>none
  | none=>none
 | .load t a=>CI T σ t (σ.op a)
 | .store t a x=>CL T σ t (σ.op a) (σ.op x)
 | .nilCheck x=>match σ.op x with
  | .box id off=>some { r:=.box id off }
  | .e (.ref m el)=>some { r:=.e (.ref m el) }
  | .e (.fn f c)=>some { r:=.e (.fn f c) }
  | .oX f c=>some { r:=.oX f c }
  | _=>none
 | .binOp op t x y _=>match σ.op x,σ.op y with
  | .e (.v (.int k a)),.e (.v (.int k' b))=>
   if sameKind op k k' then(FK op k a b).map fun r=>{ r:=.e (.v r.1),fo:=r.2 }else none
  | .e (.v (.bool a)),.e (.v (.bool b))=>match descOf T t with
   | some .bool=>match op with
    | .eql=>some { r:=.e (.v (.bool (a==b))) }
    | .neq=>some { r:=.e (.v (.bool (!(a==b)))) }
    | _=>none
   | _=>none
  | .e (.sl _ n _ _),.e (.v (.slice none 0 0))=>match descOf T t with
   | some (.slice _)=>match op with
    | .eql=>some { r:=.e (.v (.bool false)),fo:=[0<n] }
    | .neq=>some { r:=.e (.v (.bool true)),fo:=[0<n] }
    | _=>none
   | _=>none
  | .e a,.e b=>match W8 O o.dst with
   | some v=>some { r:=.e (.v v),fo:=[mX P op t a b v] }
   | none=>none
  | _,_=>none
 | .unOp op _ x=>match op,σ.op x with
  | .not,.e (.v (.bool b))=>some { r:=.e (.v (.bool (!b))) }
  | .neg,.e (.v (.int k z))=>some { r:=.e (.v (.int k (0-z))),fo:=[gI k (0-z)] }
  | _,_=>none
 | .convert src dst x=>match descOf T dst,iT T src,σ.op x with
  | some (.int k),some _,.e (.v (.int _ z))=>some { r:=.e (.v (.int k (k.wrap z))) }
  | _,_,_=>none
 | .makeFunc (.func f) first cap=>if first.isEmpty then match sM (cap.toList.map σ.op)with
  | some l=>some { r:=.oX f l }
  | none=>none
  else none
 | .makeSlice t l c=>CJ T σ o.dst t (σ.op l) (σ.op c)
 | .slice t x lo hi none=>CK T t (σ.op x) (lo.map σ.op) (hi.map σ.op)
 | .fieldAddr t x f=>match descOf T t with
  | some (.struct fs)=>match fs[f]? with
   | some fd=>match iT T fd.type with
    | some ft=>if Nat.beq ft.i.size 0 then none else match σ.op x with
     | .box id off=>some { r:=.box id (off+fd.offset) }
     | .lr id sz i j=>some { r:=.lr id sz i (j+fd.offset) }
     | .e (.ref m el)=>if Nat.ble fd.offset m then some { r:=.e (.ref (m-fd.offset) fun j=>el (fd.offset+j)) }else none
     | _=>none
    | none=>none
   | none=>none
  | _=>none
 | .indexAddr t x i=>CH T σ t (σ.op x) (σ.op i)
 | .index t x i=>match σ.op x,σ.op i with
  | .e (.agg l),.e (.v (.int _ z))=>match iT T t with
   | some tt=>match tt.d with
    | .array n e=>match iT T e with
     | some te=>if te.isAgg&&Nat.beq (n*te.i.size) l.length then some { r:=.e (.agg ((l.drop (z.toNat*te.i.size)).take te.i.size)),fo:=[0<=z/\z<n] }else none
     | none=>none
    | _=>none
   | none=>none
  | _,_=>none
 | .field t x f=>match σ.op x,descOf T t with
  | .e (.agg l),some (.struct fs)=>match fs[f]? with
   | some fd=>match iT T fd.type with
    | some ft=>if ft.isAgg then none else match l[fd.offset]? with
     | some e=>some { r:=.e e }
     | none=>none
    | none=>none
   | none=>none
  | _,_=>none
 | .extract x i=>match σ.op x with
  | .e (.ef l)=>match l[i]? with
   | some e=>some { r:=.e e }
   | none=>none
  | _=>none
 | .call c=>match c.callee with
  | .builtin .len=>match c.args.toList,c.argTypes.toList with
   | [x],[t]=>match descOf T t with
    | some (.slice _)=>(qh (σ.op x) σ).map fun r=>{ r:=.e (.v r.1),rb:=r.2 }
    | _=>none
   | _,_=>none
  | .builtin .append=>match c.args.toList,c.argTypes.toList with
   | [s,x],[t,t']=>if Nat.beq t t' then(if Ci O o.dst then vE T σ o.dst t (σ.op s) (σ.op x)else uj T σ o.dst t (σ.op s) (σ.op x))else none
   | _,_=>none
  | .builtin .max=>match c.args.toList.map σ.op with
   | [.e (.v (.int k a)),.e (.v (.int _ b))]=>some { r:=.e (.v (.int k (if b>a then b else a))) }
   | [.e (.v (.int k a)),.e (.v (.int _ b)),.e (.v (.int _ z))]=>some { r:=.e (.v (.int k (if z>(if b>a then b else a)then z else(if b>a then b else a)))) }
   | _=>none
  | .builtin .min=>match c.args.toList.map σ.op with
   | [.e (.v (.int k a)),.e (.v (.int _ b))]=>some { r:=.e (.v (.int k (if b<a then b else a))) }
   | _=>none
  | .value f=>match σ.op f,qc σ c.args.toList with
   | .e (.fn g cap),some (xs,is)=>uk P K O σ o.dst g (xs++cap) is ((c.args.toList.map σ.op).any PV.wq)
   | .oX g cap,some (xs,is)=>match rP σ cap with
    | some (ys,js)=>uk P K O σ o.dst g (xs++ys) (is++js) ((c.args.toList.map σ.op).any PV.wq)
    | none=>none
   | _,_=>none
  | _=>none
 | _=>none
structure Lk where
 live:Nat->Prop
 own:Nat->Nat->Prop
 val:Nat->Value
 eK:Nat->Nat->Value
def fH(L:Lk)(x:Nat):Prop:=∃ id,L.own id x
def bad(B:Nat->Prop)(L:Lk)(x:Nat):Prop:=B x\/fH L x
def sF(bs br:Nat->Prop)(L:Lk)(w:World):CV->Value->Prop
 | .e x,v=>eo bs br w x v
 | .box id,v=>L.live id/\∃ b,L.val id = .pointer (some ⟨b,0,none⟩)/\v = .pointer (some ⟨b,0,none⟩)
def jA(bs br:Nat->Prop)(L:Lk)(w:World):PV->Value->Prop
 | .e x,v=>eo bs br w x v
 | .box id off,v=>L.live id/\∃ b,L.val id = .pointer (some ⟨b,0,none⟩)/\v = .pointer (some ⟨b,off,none⟩)
 | .own id,v=>L.live id/\v=L.val id
 | .lr id sz i j,v=>L.live id/\∃ b n c,L.val id = .slice (some ⟨b,0,none⟩) n c/\v = .pointer (some ⟨b,i*sz+j,none⟩)
 | .eK id k,v=>L.live id/\v=L.eK id k
 | .oX f cap,v=>∃ vs:List Value,v = .func (.func f) #[] vs.toArray/\vs.length=cap.length/\∀ (i:Nat) (c:CV) (x:Value),cap[i]? = some c->vs[i]? = some x->sF bs br L w c x
def PV.le(p q:PV):Prop:=∀ (bs br:Nat->Prop) (L:Lk) (w:World) (v:Value),jA bs br L w p v->jA bs br L w q v
def pz(P:Program)(K:World->Prop)(T:List TI)(O:mc)(σ:PS)(o:Oper):Option Out:=match eX P K T O σ o with
 | some u=>match o.dst with
  | some d=>match look O.ov d with
   | some p=>some { u with r:=p,fo:=PV.le u.r p::u.fo }
   | none=>some u
  | none=>some u
 | none=>none
def tW(ops:Array Oper)(σ:PS)(o:Oper):Option Bool:=match o.guard with
 | none=>some true
 | some (j,want)=>match(ops[j]?).bind (·.dst)with
  | some t=>match σ.get t with
   | .e (.v (.bool true))=>some want
   | .e (.v (.bool false))=>some (!want)
   | .e (.v (.tuple _))=>some false
   | _=>none
  | none=>none
def PS.app(σ:PS)(d:Option Tmp)(u:Out):PS:=(σ.mz u.f).put d u.r
def qx(σ:PS):Option Tmp->Bool
 | some d=>Nat.blt d σ.n
 | none=>true
def Bo:Op->List Operand
 | .move x | .assign x | .box _ x | .load _ x | .nilCheck x | .unOp _ _ x | .convert _ _ x | .fieldAddr _ x _ | .field _ x _ | .extract x _=>[x]
 | .pick c a b=>[c,a,b]
 | .build _ ps | .buildSlice _ _ ps=>ps.toList.map (·.2)
 | .store _ a v | .binOp _ _ a v _ | .makeSlice _ a v | .indexAddr _ a v | .index _ a v=>[a,v]
 | .makeFunc _ first captured=>first.toList++captured.toList
 | .slice _ x l h m=>x::(l.toList++h.toList++m.toList)
 | .call c=>(match c.callee with | .value f=>[f] | .invoke r _=>[r] | .builtin _=>[])++c.args.toList
 | _=>[]
def tmpsOf:List Operand->List Tmp
 | []=>[]
 | .tmp t::l=>t::tmpsOf l
 | _::l=>tmpsOf l
def looks(ops:Array Oper)(o:Oper):List Tmp:=tmpsOf (Bo o.op)++(match o.guard with
 | some (g,_)=>((ops[g]?).bind (·.dst)).toList
 | none=>[])
def mI(P:Program)(K:World->Prop)(T:List TI)(O:mc)(ops:Array Oper)(σ:PS)(o:Oper):Option Out:=
 if qx σ o.dst then match tW ops σ o with
  | some true=>match pz P K T O σ o with
   | some u=>some { u with rd:=(looks ops o).map σ.get }
   | none=>none
  | some false=>some { r:=.e (.v (.tuple #[])),rd:=(looks ops o).map σ.get }
  | none=>none
 else none
def Gq(l:List Nat)(n:Nat):Bool:=l.any (Nat.beq n)
def mV.id:mV->Option Nat
 | .none=>Option.none
 | .new i _ | .pW i _ | .grow i _ | .qX i _ | .fin i=>some i
def keeps:mV->PV->Bool
 | .grow id _,.own i=>!Nat.beq i id
 | .grow id _,.lr i _ _ _=>!Nat.beq i id
 | .qX id _,.eK i _=>!Nat.beq i id
 | .fin id,p=>!p.refs.any (Nat.beq id)
 | _,_=>true
def yN(l:List Nat):Option Nat->Bool
 | some d=>!Gq l d
 | none=>true
def Ev:Option Nat->Option Nat->Bool
 | some a,some b=>!Nat.beq a b
 | _,_=>true
def Is:PV->Bool
 | .e .any=>false
 | _=>true
def indep(ops:Array Oper)(x y:Oper×Out):Bool:=
 yN (looks ops y.1) x.1.dst&&Ev x.1.dst y.1.dst&&yN (looks ops x.1) y.1.dst &&
 yN y.2.rb x.2.f.id&&yN x.2.rb y.2.f.id&&Ev x.2.f.id y.2.f.id&&keeps x.2.f y.2.r&&keeps y.2.f x.2.r &&
 (!x.2.f.EC||y.2.rd.all Is)&&x.2.rd.all (keeps y.2.f)
def wo(o:Oper)(i:Nat):Bool:=o.after.toList.any fun e=>Region.binds .any e&&Nat.beq e.on i
def reach(ops:Array Oper):Nat->Oper->Nat->Bool
 | 0,o,i=>wo o i
 | n+1,o,i=>wo o i||o.after.toList.any fun e=>Region.binds .any e&&(match ops[e.on]? with
  | some z=>reach ops n z i
  | none=>false)
def yR(ops:Array Oper):Nat->List (Oper×Out)->Bool
 | _,[]=>true
 | i,x::l=>x.1.after.toList.all (fun e=>!Region.binds .any e||Nat.blt e.on i)&&l.all (fun y=>reach ops 3 y.1 i||indep ops x y)&&yR ops (i+1) l
def Et(σ:PS):PV->Option E
 | .e x=>if x.nr 3 then some x else none
 | .own id=>match σ.bo id with
  | some (.row nl _ n sz el)=>some (.sl nl n sz el)
  | some (.rows nl _ _ n sz len el none)=>some (.sl true n 1 fun k _=>.sl nl (len k) sz (el k))
  | _=>none
 | _=>none
def I7(T:List TI)(σ:PS):ResultVar->Option E
 | .tmp t=>Et σ (σ.get t)
 | .cell a t=>match iT T t with
  | some ti=>match σ.read (σ.get a) ti.i.size with
   | some (l,_,[])=>if ti.isAgg then(if(E.agg l).nr 3 then some (.agg l)else none)else match l with
    | [e]=>if e.nr 3 then some e else none
    | _=>none
   | _=>none
  | none=>none
def yX(T:List TI)(σ:PS):List ResultVar->Option (List E)
 | []=>some []
 | x::l=>match I7 T σ x,yX T σ l with
  | some e,some es=>some (e::es)
  | _,_=>none
def D8(T:List TI)(fn:Func)(σ:PS):Option E:=match yX T σ fn.results.toList with
 | some [e]=>some e
 | some l=>some (.ef l)
 | none=>none
inductive Ex where
 | normal
 | exit (id:Nat)
 | ret
def Ae:Code->Nat
 | .region id _ _=>id
 | .seq a _=>Ae a
 | .cond _ a _=>Ae a
 | .block _ b=>Ae b
 | .loop b=>Ae b
 | _=>0
def AU:Nat->List E->List (Nat×PV)
 | _,[]=>[]
 | i,x::l=>(i,.e x)::AU (i+1) l
def uH(fn:Func)(nl:Bool)(args:List E):PS:={ n:=fn.ntmps,nl:=nl,t:=AU 0 args,b:=[] }
open Go.RowKit
theorem beq_iff{a b:Nat}:Nat.beq a b=true↔a=b:=⟨Nat.eq_of_beq_eq_true,fun h=>by subst h;exact cO a⟩
theorem cP{a b:Nat}(h:a≠b):Nat.beq a b=false:=by
 cases hb:Nat.beq a b with
 | false=>rfl
 | true=>exact absurd (beq_iff.1 hb) h
theorem pg{α:Type}(k:Nat)(x:α)(l:List (Nat×α))(t:Nat):look ((k,x)::l) t=if k=t then some x else look l t:=by
 by_cases h:k=t
 .subst h;simp[look]
 .simp [look,h,cP h]
theorem A7{α:Type}(l:List (Nat×α))(d t:Nat)(h:d≠t):look (l.filter fun x=>!Nat.beq x.1 d) t=look l t:=by
 induction l with
 | nil=>rfl
 | cons y l ih=>
  obtain⟨k,x⟩:=y;rw[List.filter_cons];by_cases hk:k=d
  .subst hk
   simp only[cO,dr,aT,aL];rw[ih,pg,aB h]
  .simp only[cP hk,cV,aW]
   rw[pg,pg,ih]
theorem Ov{α:Type}(l:List (Nat×α))(f:α->α)(t:Nat):look (l.map fun x=>(x.1,f x.2)) t=(look l t).map f:=by
 induction l with
 | nil=>rfl
 | cons y l ih=>
  obtain⟨k,x⟩:=y;rw[agK,pg,pg,ih];split<;>rfl
theorem PS.F5(σ:PS)(d:Nat)(p:PV)(t:Nat):(σ.put (some d) p).get t=if d=t then p else σ.get t:=by
 unfold PS.get PS.put;simp only[pg];by_cases h:d=t
 .rw [aC h,aC h];rfl
 .rw [aB h,aB h,A7 _ _ _ h]
theorem PS.TL(σ:PS)(d:Option Tmp)(p:PV)(id:Nat):(σ.put d p).bo id=σ.bo id:=by cases d<;>rfl
theorem PS.Ii(σ:PS)(d:Option Tmp)(p:PV):(σ.put d p).n=σ.n:=by cases d<;>rfl
theorem PS.abm(σ:PS)(d:Option Tmp)(p:PV):(σ.put d p).nl=σ.nl:=by cases d<;>rfl
theorem DJ(l:List (Nat×Bx))(id:Nat)(b:Bx)(t:Nat):look (y4 l id b) t=if id=t then some b else look l t:=by
 unfold y4;rw[pg];by_cases h:id=t
 .rw [aC h,aC h]
 .rw [aB h,aB h,A7 _ _ _ h]
theorem Ou{α:Type}(l:List (Nat×α))(d:Nat):look (l.filter fun x=>!Nat.beq x.1 d) d=none:=by
 induction l with
 | nil=>rfl
 | cons y l ih=>
  obtain⟨k,x⟩:=y;rw[List.filter_cons];by_cases hk:k=d
  .subst hk
   simpa only[cO,dr,aT,aL]using ih
  .simp only[cP hk,cV,aW]
   rw[pg,aB hk,ih]
theorem Ia{α:Type}(l:List (Nat×α))(i id:Nat):look (l.filter fun x=>!Nat.beq x.1 i) id=if i=id then none else look l id:=by
 by_cases h:i=id
 .subst h;rw[aC rfl];exact Ou _ _
 .rw [aB h];exact A7 _ _ _ h
theorem PS.CT(σ:PS)(f:mV)(t:Nat):(σ.mz f).get t=(σ.get t).kT f:=by
 unfold PS.get PS.mz;by_cases h:f.EC=true
 .simp only[h,aW]
  rw[Ov];cases look σ.t t with
  | none=>cases f<;>rfl
  | some p=>rfl
 .have hv:∀ p:PV,p.kT f=p:=by
   intro p;cases f<;>first|exact absurd rfl h|(cases p<;>rfl)
  simp only[h,hv];rfl
def nj(bs br:Nat->Prop)(L:Lk)(w:World)(id:Nat):Bx->Prop
 | .cells T l=>∃ b vs,L.val id = .pointer (some ⟨b,0,none⟩)/\(∀ x,L.own id x↔x=b)/\w.heap[b]? = some (.cells vs.toArray T (0,0))/\fM bs br w l vs/\∀ u,u ∈ vs->u.oneCell'=true
 | .row nl T n sz el=>∃ f:Nat->Nat->Value,me w (L.val id) T n sz f nl/\(∀ x,L.own id x↔(L.val id).ownBlock=some x)/\∀ i j,i<n->j<sz->eo bs br w (el i j) (f i j)/\(el i j).nr 2=true
 | .rows nl T1 T0 n sz len el pend=>∃ (b c:Nat) (cur:Array Value) (f:Nat->Nat->Nat->Value),L.val id = .slice (some ⟨b,0,none⟩) n c/\w.heap[b]? = some (.cells cur T1 (0,0))/\n<=c/\c<=maxLen/\cur.size=c /\
  (∀ k,k<n->pend≠some k->cur[k]? = some (L.eK id k))/\(∀ u,u ∈ cur->u.oneCell'=true/\nY u=false) /\
  (∀ k,k<n->me w (L.eK id k) T0 (len k) sz (f k) nl/\∀ i j,i<len k->j<sz->eo bs br w (el k i j) (f k i j)/\(el k i j).nr 2=true) /\
  (∀ x,L.own id x↔x=b\/∃ k,k<n/\(L.eK id k).ownBlock=some x) /\
  (∀ k k' x,k<n->k'<n->(L.eK id k).ownBlock=some x->(L.eK id k').ownBlock=some x->k=k')/\(∀ k,k<n->(L.eK id k).ownBlock≠some b)
structure Rel(w0:World)(B:Nat->Prop)(σ:PS)(a:Act)(w:World)(L:Lk):Prop where
 hd:a.defers=[]
 hs:a.tmps.size=σ.n
 ht:∀ t,jA (bad B L) (fH L) L w (σ.get t) (a.tmps.getD t undef)
 hb:∀ id b,σ.bo id=some b->nj (bad B L) (fH L) L w id b
 hv:∀ id,L.live id↔(σ.bo id).isSome=true
 hn:∀ id x,L.own id x->L.live id
 hw:∀ id x,L.own id x->w0.heap.size<=x/\x<w.heap.size
 hi:∀ id id' x,L.own id x->L.own id' x->id=id'
 he:Below w0.heap.size w0 w
 hl:σ.nl=true->∀ id b,σ.bo id=some b->b.nl=true
structure oP(L:Lk)(w:World)(L':Lk)(w':World):Prop where
 size:w.heap.size<=w'.heap.size
 fH:∀ x,x<w.heap.size->Pu.fH L' x->Pu.fH L x
 lf:∀ x,x<w.heap.size->¬Pu.fH L x->w'.heap[x]? = w.heap[x]?
theorem oP.rep{B:Nat->Prop}{L L':Lk}{w w':World}(h:oP L w L' w'){e:E}{v:Value}(k:eo (bad B L) (Pu.fH L) w e v):eo (bad B L') (Pu.fH L') w' e v:=by
 refine k.mono h.size (fun b hb hx=>?_) (fun b hb hx=>h.fH b hb hx) (fun b o x hb qs hc=>?_)
 .rcases hx with hx|hx
  .exact .inl hx
  .exact .inr (h.fH b hb hx)
 .have hm:¬Pu.fH L b:=by
   rcases qs with qs|qs
   .exact fun hm=>qs (.inr hm)
   .exact qs
  rw[<-hc];exact World.cell?_of_block (w:=w) (h.lf b hb hm)
theorem me.block{w w':World}{v:Value}{T:TypeId}{n sz:Nat}{f:Nat->Nat->Value}{nl:Bool}(h:me w v T n sz f nl)
 (hk:∀ x,v.ownBlock=some x->w'.heap[x]? = w.heap[x]?):me w' v T n sz f nl:=by
 rcases h with h|⟨b,c,cur,rfl,hg,r⟩
 .exact .inl h
 .exact .inr ⟨b,c,cur,rfl,by rw[hk b rfl];exact hg,r⟩
theorem nj.later{B:Nat->Prop}{L L':Lk}{w w':World}(h:oP L w L' w'){id:Nat}{b:Bx}(k:nj (bad B L) (fH L) L w id b)
 (hv:L'.val id=L.val id) (ho:∀ x,L'.own id x↔L.own id x) (ik:∀ j,L'.eK id j=L.eK id j) (hk:∀ x,L.own id x->w'.heap[x]? = w.heap[x]?):nj (bad B L') (fH L') L' w' id b:=by
 cases b with
 | cells T l=>
  obtain⟨b,vs,h1,h2,h3,h4,h5⟩:=k;exact⟨b,vs,by rw[hv];exact h1,fun x=>(ho x).trans (h2 x),by rw[hk b ((h2 b).2 rfl)];exact h3,h4.mono fun _ _=>h.rep,h5⟩
 | row nl T n sz el=>
  obtain⟨f,h1,h2,h3⟩:=k;exact⟨f,by rw[hv];exact h1.block fun x hx=>hk x ((h2 x).2 hx),fun x=>by rw[ho,hv];exact h2 x,fun i j hi hj=>⟨h.rep (h3 i j hi hj).1,(h3 i j hi hj).2⟩⟩
 | rows nl T1 T0 n sz len el pend=>
  obtain⟨b,c,cur,f,h1,h2,h3,h4,h5,h6,h7,h8,h9,qY,rW⟩:=k;have e:L'.eK id=L.eK id:=funext ik;refine⟨b,c,cur,f,by rw[hv];exact h1,by rw[hk b ((h9 b).2 (.inl rfl))];exact h2,h3,h4,h5,by rw[e];exact h6,h7,?_,?_,by rw[e];exact qY,by rw[e];exact rW⟩
  .intro k Da
   obtain⟨q1,q2⟩:=h8 k Da;rw[e];exact⟨q1.block fun x hx=>hk x ((h9 x).2 (.inr ⟨k,Da,hx⟩)),fun i j hi hj=>⟨h.rep (q2 i j hi hj).1,(q2 i j hi hj).2⟩⟩
  .intro x
   rw[ho,e];exact h9 x
theorem sF.later{B:Nat->Prop}{L L':Lk}{w w':World}(h:oP L w L' w'){c:CV}{v:Value}(k:sF (bad B L) (fH L) L w c v)
 (hv:∀ id,L.live id->L'.live id/\L'.val id=L.val id):sF (bad B L') (fH L') L' w' c v:=by
 cases c with
 | e x=>exact h.rep k
 | box id=>obtain⟨k1,b,k2,k3⟩:=k;exact⟨(hv id k1).1,b,by rw[(hv id k1).2];exact k2,k3⟩
theorem jA.later{B:Nat->Prop}{L L':Lk}{w w':World}(h:oP L w L' w'){p:PV}{v:Value}(k:jA (bad B L) (fH L) L w p v)
 (hv:∀ id,L.live id->L'.live id/\L'.val id=L.val id/\∀ j,L'.eK id j=L.eK id j):jA (bad B L') (fH L') L' w' p v:=by
 cases p with
 | e x=>exact h.rep k
 | box id off=>obtain⟨k1,b,k2,k3⟩:=k;exact⟨(hv id k1).1,b,by rw[(hv id k1).2.1];exact k2,k3⟩
 | own id=>obtain⟨k1,k2⟩:=k;exact⟨(hv id k1).1,by rw[(hv id k1).2.1];exact k2⟩
 | lr id sz i j=>obtain⟨k1,b,n,c,k2,k3⟩:=k;exact⟨(hv id k1).1,b,n,c,by rw[(hv id k1).2.1];exact k2,k3⟩
 | eK id q=>obtain⟨k1,k2⟩:=k;exact⟨(hv id k1).1,by rw[(hv id k1).2.2];exact k2⟩
 | oX f cap=>
  obtain⟨vs,k1,k2,k3⟩:=k;exact⟨vs,k1,k2,fun i c x hc hx=>(k3 i c x hc hx).later h fun id hl=>⟨(hv id hl).1,(hv id hl).2.1⟩⟩
theorem Rel.later{w0:World}{B:Nat->Prop}{σ:PS}{a:Act}{w w':World}{L:Lk}(r:Rel w0 B σ a w L)(h:Below w.heap.size w w'):Rel w0 B σ a w' L:=by
 have hl:oP L w L w':=⟨h.size,fun _ _ h=>h,fun x hx _=>h.block x hx⟩
 refine⟨r.hd,r.hs,fun t=>(r.ht t).later hl fun id k=>⟨k,rfl,fun _=>rfl⟩,fun id b hb=>(r.hb id b hb).later hl rfl (fun _=>Iff.rfl) (fun _=>rfl) fun x hx=>h.block x (r.hw id x hx).2,r.hv,r.hn,
  fun id x hx=>⟨(r.hw id x hx).1,a7 (r.hw id x hx).2 h.size⟩,r.hi,r.he.trans (h.mono r.he.size),r.hl⟩
theorem Rel.drew{w0:World}{B:Nat->Prop}{σ:PS}{a:Act}{w:World}{L:Lk}(r:Rel w0 B σ a w L):Rel w0 B σ a w.drew L:=r.later (Below.refl _ _).drew
theorem Rel.put{w0:World}{B:Nat->Prop}{σ:PS}{a:Act}{w:World}{L:Lk}(r:Rel w0 B σ a w L)(d:Option Tmp)(p:PV)(v:Value)(hd:qx σ d=true)(hp:jA (bad B L) (fH L) L w p v):Rel w0 B (σ.put d p) (a.put d v) w L:=by
 cases d with
 | none=>exact r
 | some d=>
  have q9:d<σ.n:=by simpa[qx,Nat.blt_eq]using hd
  refine⟨r.hd,by simp[Act.put,r.hs,PS.Ii],fun t=>?_,fun id b hb=>r.hb id b hb,r.hv,r.hn,r.hw,r.hi,r.he,r.hl⟩;rw[PS.F5];by_cases h:d=t
  .subst h
   rw[aC rfl];have:(a.put (some d) v).tmps.getD d undef=v:=by
    simp[Act.put,Array.getElem?_setIfInBounds,r.hs,q9]
   rw[this];exact hp
  .rw [aB h]
   have:(a.put (some d) v).tmps.getD t undef=a.tmps.getD t undef:=by
    simp[Act.put,Array.getElem?_setIfInBounds_ne h]
   rw[this];exact r.ht t
theorem Rel.op{w0:World}{B:Nat->Prop}{σ:PS}{a:Act}{w:World}{L:Lk}(r:Rel w0 B σ a w L)(x:Operand):jA (bad B L) (fH L) L w (σ.op x) (a.eval x):=by
 cases x with
 | tmp t=>exact r.ht t
 | const v=>exact .v v
 | global g=>exact .v _
 | func f=>exact .fn f [] [] rfl (fun i p x h=>by simp at h)
open Go.RowKit
def Lk.set(L:Lk)(id:Nat)(O:Nat->Prop)(v:Value)(eK:Nat->Value):Lk:=
 {live:=fun i=>i=id\/L.live i
  own:=fun i x=>if i=id then O x else L.own i x
  val:=fun i=>if i=id then v else L.val i
  eK:=fun i=>if i=id then eK else L.eK i }
section
variable {L:Lk} {id:Nat} {O:Nat->Prop} {v:Value} {eK:Nat->Value}
theorem Lk.oe(x:Nat):(L.set id O v eK).own id x↔O x:=by simp[Lk.set]
theorem Lk.kH:(L.set id O v eK).val id=v:=by simp[Lk.set]
theorem Lk.nh(k:Nat):(L.set id O v eK).eK id k=eK k:=by simp[Lk.set]
theorem Lk.uY:(L.set id O v eK).live id:=.inl rfl
theorem Lk.uZ{i:Nat}(h:i≠id)(x:Nat):(L.set id O v eK).own i x↔L.own i x:=by simp[Lk.set,h]
theorem Lk.u4{i:Nat}(h:i≠id):(L.set id O v eK).val i=L.val i:=by simp[Lk.set,h]
theorem Lk.BJ{i:Nat}(h:i≠id)(k:Nat):(L.set id O v eK).eK i k=L.eK i k:=by simp[Lk.set,h]
end
structure Touch(L:Lk)(w:World)(id:Nat)(O:Nat->Prop)(w':World):Prop where
 own:∀ x,O x->(L.own id x\/w.heap.size<=x)/\x<w'.heap.size
 size:w.heap.size<=w'.heap.size
 lf:∀ x,x<w.heap.size->¬L.own id x->w'.heap[x]? = w.heap[x]?
 os:w'.os=w.os
 tape:w'.tape=w.tape
 output:w'.output=w.output
theorem Touch.later{L:Lk}{w:World}{id:Nat}{O:Nat->Prop}{w':World}(h:Touch L w id O w')(v:Value)(eK:Nat->Value):oP L w (L.set id O v eK) w':=by
 refine⟨h.size,fun x hx hm=>?_,fun x hx hm=>h.lf x hx fun ho=>hm ⟨id,ho⟩⟩;obtain⟨i,hi⟩:=hm;by_cases e:i=id
 .subst e
  rcases(h.own x ((Lk.oe x).1 hi)).1 with k|k
  .exact ⟨i,k⟩
  .omega
 .exact ⟨i,(Lk.uZ e x).1 hi⟩
theorem Rel.set{w0:World}{B:Nat->Prop}{σ:PS}{a:Act}{w:World}{L:Lk}(r:Rel w0 B σ a w L)(id:Nat)(b':Bx)(O:Nat->Prop)(v:Value)(eK:Nat->Value)(w':World)(f:mV)
 (hf:f.boxes σ.b=y4 σ.b id b') (ht:Touch L w id O w')
 (hB:nj (bad B (L.set id O v eK)) (fH (L.set id O v eK)) (L.set id O v eK) w' id b')
 (hT:∀ p v0,jA (bad B L) (fH L) L w p v0->jA (bad B (L.set id O v eK)) (fH (L.set id O v eK)) (L.set id O v eK) w' (p.kT f) v0)
 (fE:σ.nl=true->b'.nl=true):Rel w0 B (σ.mz f) a w' (L.set id O v eK):=by
 have hl:=ht.later v eK;have fQ:∀ i,(σ.mz f).bo i=if id=i then some b' else σ.bo i:=by
  intro i;show look (f.boxes σ.b) i=_;rw[hf,DJ];rfl
 have pD:Below w0.heap.size w w':=⟨ht.os,ht.tape,ht.output,ht.size,fun x hx=>ht.lf x (a7 hx r.he.size) fun ho=>by have:=(r.hw id x ho).1;omega⟩
 refine⟨r.hd,r.hs,fun t=>?_,fun i b hb=>?_,fun i=>?_,fun i x hx=>?_,fun i x hx=>?_,fun i j x hi hj=>?_,r.he.trans pD,fun Dh i b hb=>?_⟩
 .rw [PS.CT];exact hT _ _ (r.ht t)
 .rw [fQ]at hb
  by_cases e:id=i
  .subst e
   rw[aC rfl]at hb;cases hb;exact hB
  .rw [aB e]at hb
   have e':i≠id:=fun h=>e h.symm
   exact(r.hb i b hb).later hl (Lk.u4 e') (Lk.uZ e') (Lk.BJ e') fun x hx=>ht.lf x (r.hw i x hx).2 fun ho=>e (r.hi id i x ho hx)
 .rw [fQ]
  by_cases e:id=i
  .subst e;rw[aC rfl];simp[Lk.set]
  .rw [aB e]
   have e':i≠id:=fun h=>e h.symm
   simp only[Lk.set,e',false_or];exact r.hv i
 .by_cases e:i=id
  .exact .inl e
  .exact .inr (r.hn i x ((Lk.uZ e x).1 hx))
 .by_cases e:i=id
  .subst e
   obtain⟨k1,k2⟩:=ht.own x ((Lk.oe x).1 hx);refine⟨?_,k2⟩;rcases k1 with k1|k1
   .exact (r.hw i x k1).1
   .exact aI r.he.size k1
  .have:=r.hw i x ((Lk.uZ e x).1 hx)
   exact⟨this.1,a7 this.2 ht.size⟩
 .by_cases e1:i=id
  .by_cases e2:j=id
   .rw [e1,e2]
   .have k2:=(Lk.uZ e2 x).1 hj
    subst e1;rcases(ht.own x ((Lk.oe x).1 hi)).1 with k|k
    .exact r.hi _ _ x k k2
    .have:=(r.hw j x k2).2;omega
  .have k1:=(Lk.uZ e1 x).1 hi
   by_cases e2:j=id
   .subst e2
    rcases(ht.own x ((Lk.oe x).1 hj)).1 with k|k
    .exact r.hi _ _ x k1 k
    .have:=(r.hw i x k1).2;omega
   .exact r.hi _ _ x k1 ((Lk.uZ e2 x).1 hj)
 .rw [fQ]at hb
  by_cases e:id=i
  .rw [aC e]at hb;cases hb;exact fE Dh
  .rw [aB e]at hb;exact r.hl Dh i b hb
theorem Rel.new{w0:World}{B:Nat->Prop}{σ:PS}{a:Act}{w:World}{L:Lk}(r:Rel w0 B σ a w L)(id:Nat)(b':Bx)(O:Nat->Prop)(v:Value)(eK:Nat->Value)(w':World)
 (iz:σ.bo id=none) (hO:∀ x,O x->w.heap.size<=x/\x<w'.heap.size) (hb:Below w.heap.size w w')
 (hB:nj (bad B (L.set id O v eK)) (fH (L.set id O v eK)) (L.set id O v eK) w' id b')
 (fE:(!σ.nl||b'.nl)=true):Rel w0 B (σ.mz (.new id b')) a w' (L.set id O v eK):=by
 have MR:¬L.live id:=fun h=>by have:=(r.hv id).1 h;rw[iz]at this;simp at this
 have ht:Touch L w id O w':=⟨fun x hx=>⟨.inr (hO x hx).1,(hO x hx).2⟩,hb.size,fun x hx _=>hb.block x hx,hb.os,hb.tape,hb.output⟩
 refine r.set id b' O v eK w' (.new id b') rfl ht hB (fun p v0 hp=>?_) (fun h=>by simpa[h]using fE);have fK:∀ {i},L.live i->i≠id:=fun h e=>MR (e▸h)
 have:p.kT (.new id b')=p:=by cases p<;>rfl
 rw[this];exact hp.later (ht.later v eK) fun i hi=>⟨.inr hi,Lk.u4 (fK hi),fun j=>Lk.BJ (fK hi) j⟩
theorem Rel.pW{w0:World}{B:Nat->Prop}{σ:PS}{a:Act}{w:World}{L:Lk}(r:Rel w0 B σ a w L)(id:Nat)(b':Bx)(w':World)
 (qp:L.live id) (ht:Touch L w id (L.own id) w')
 (hB:nj (bad B (L.set id (L.own id) (L.val id) (L.eK id))) (fH (L.set id (L.own id) (L.val id) (L.eK id))) (L.set id (L.own id) (L.val id) (L.eK id)) w' id b')
 (fE:σ.nl=true->b'.nl=true):Rel w0 B (σ.mz (.pW id b')) a w' (L.set id (L.own id) (L.val id) (L.eK id)):=by
 refine r.set id b' _ _ _ w' (.pW id b') rfl ht hB (fun p v0 hp=>?_) fE;have:p.kT (.pW id b')=p:=by cases p<;>rfl
 rw[this];refine hp.later (ht.later _ _) fun i hi=>⟨.inr hi,?_,fun j=>?_⟩
 .by_cases e:i=id
  .subst e;exact Lk.kH
  .exact Lk.u4 e
 .by_cases e:i=id
  .subst e;exact Lk.nh j
  .exact Lk.BJ e j
theorem Rel.grow{w0:World}{B:Nat->Prop}{σ:PS}{a:Act}{w:World}{L:Lk}(r:Rel w0 B σ a w L)(id:Nat)(b':Bx)(O:Nat->Prop)(v:Value)(w':World)
 (hp:∀ b,L.val id ≠ .pointer (some b)) (ht:Touch L w id O w')
 (hB:nj (bad B (L.set id O v (L.eK id))) (fH (L.set id O v (L.eK id))) (L.set id O v (L.eK id)) w' id b')
 (fE:σ.nl=true->b'.nl=true):Rel w0 B (σ.mz (.grow id b')) a w' (L.set id O v (L.eK id)):=by
 have hl:=ht.later v (L.eK id);refine r.set id b' O v (L.eK id) w' (.grow id b') rfl ht hB (fun p v0 lk=>?_) fE;have YP:∀ i j,(L.set id O v (L.eK id)).eK i j=L.eK i j:=fun i j=>by
  by_cases e:i=id
  .subst e;exact Lk.nh j
  .exact Lk.BJ e j
 cases p with
 | e x=>exact hl.rep lk
 | box i off=>
  obtain⟨k1,b,k2,k3⟩:=lk;have e:i≠id:=fun e=>by subst e;exact hp _ k2
  exact⟨.inr k1,b,by rw[Lk.u4 e];exact k2,k3⟩
 | own i=>
  by_cases e:i=id
  .subst e;simp only[PV.kT,cO,aW];exact .any _
  .simp only[PV.kT,cP e,aT,aL]
   exact⟨.inr lk.1,by rw[Lk.u4 e];exact lk.2⟩
 | lr i s x j=>
  by_cases e:i=id
  .subst e;simp only[PV.kT,cO,aW];exact .any _
  .simp only[PV.kT,cP e,aT,aL]
   obtain⟨k1,b,n,c,k2,k3⟩:=lk;exact⟨.inr k1,b,n,c,by rw[Lk.u4 e];exact k2,k3⟩
 | eK i k=>exact⟨.inr lk.1,by rw[YP];exact lk.2⟩
 | oX f cap=>
  obtain⟨vs,k1,k2,k3⟩:=lk;refine⟨vs,k1,k2,fun i c x hc hx=>?_⟩;have hk:=k3 i c x hc hx;cases c with
  | e y=>exact hl.rep hk
  | box q=>
   obtain⟨q1,b,q2,q3⟩:=hk;have e:q≠id:=fun e=>by subst e;exact hp _ q2
   exact⟨.inr q1,b,by rw[Lk.u4 e];exact q2,q3⟩
theorem Rel.qX{w0:World}{B:Nat->Prop}{σ:PS}{a:Act}{w:World}{L:Lk}(r:Rel w0 B σ a w L)(id:Nat)(b':Bx)(O:Nat->Prop)(eK:Nat->Value)(w':World)
 (ht:Touch L w id O w')
 (hB:nj (bad B (L.set id O (L.val id) eK)) (fH (L.set id O (L.val id) eK)) (L.set id O (L.val id) eK) w' id b')
 (fE:σ.nl=true->b'.nl=true):Rel w0 B (σ.mz (.qX id b')) a w' (L.set id O (L.val id) eK):=by
 have hl:=ht.later (L.val id) eK;refine r.set id b' O (L.val id) eK w' (.qX id b') rfl ht hB (fun p v0 lk=>?_) fE;have gM:∀ i,(L.set id O (L.val id) eK).val i=L.val i:=fun i=>by
  by_cases e:i=id
  .subst e;exact Lk.kH
  .exact Lk.u4 e
 cases p with
 | e x=>exact hl.rep lk
 | box i off=>obtain⟨k1,b,k2,k3⟩:=lk;exact⟨.inr k1,b,by rw[gM];exact k2,k3⟩
 | own i=>exact⟨.inr lk.1,by rw[gM];exact lk.2⟩
 | lr i s x j=>obtain⟨k1,b,n,c,k2,k3⟩:=lk;exact⟨.inr k1,b,n,c,by rw[gM];exact k2,k3⟩
 | eK i k=>
  by_cases e:i=id
  .subst e;simp only[PV.kT,cO,aW];exact .any _
  .simp only[PV.kT,cP e,aT,aL]
   exact⟨.inr lk.1,by rw[Lk.BJ e];exact lk.2⟩
 | oX f cap=>
  obtain⟨vs,k1,k2,k3⟩:=lk;refine⟨vs,k1,k2,fun i c x hc hx=>(k3 i c x hc hx).later hl fun j hj=>⟨.inr hj,gM j⟩⟩
structure JP(w:World)(v:Value)(T:TypeId)(n sz m:Nat)(f g:Nat->Nat->Value)(nl:Bool)(v':Value)(w':World):Prop where
 own:me w' v' T (n+m) sz (fun i j=>if i<n then f i j else g (i-n) j) nl
 E9:∀ x,v'.ownBlock=some x->v.ownBlock=some x\/(w.heap.size<=x/\x<w'.heap.size)
 size:w.heap.size<=w'.heap.size
 lf:∀ x,x<w.heap.size->v.ownBlock≠some x->w'.heap[x]? = w.heap[x]?
 os:w'.os=w.os
 tape:w'.tape=w.tape
 output:w'.output=w.output
def flat(n sz:Nat)(f:Nat->Nat->Value):List Value:=(List.range (n*sz)).map fun q=>f (q/sz) (q%sz)
theorem qk(n sz:Nat)(f:Nat->Nat->Value):(flat n sz f).length=n*sz:=by simp[flat]
theorem FZ{n sz:Nat}{f:Nat->Nat->Value}{i j:Nat}(hi:i<n)(hj:j<sz):(flat n sz f)[i*sz+j]? = some (f i j):=by
 have h1:i*sz+j<n*sz:=by
  have:=a6 sz (show i+1<=n from hi);rw[aO,aK]at this;omega
 have h2:(i*sz+j)/sz=i:=by rw[aQ,agL ae,bW hj,bd]
 have h3:(i*sz+j)%sz=j:=by rw[aQ,agM,bn hj]
 simp[flat,h1,h2,h3]
theorem CQ{n sz:Nat}{f:Nat->Nat->Value}{q:Nat}{u:Value}(h:(flat n sz f)[q]? = some u):q/sz<n/\q%sz<sz/\u=f (q/sz) (q%sz)/\q/sz*sz+q%sz=q:=by
 unfold flat at h;rw[bL]at h;obtain⟨x,hx,rfl⟩:=b6.1 h;obtain⟨h1,h2⟩:=bA.1 hx;simp at h1 h2;subst h2;have hz:0<sz:=by
  rcases dt sz with h0|h0
  .subst h0;simp at h1
  .exact h0
 exact⟨(bC hz).2 h1,aS _ hz,rfl,by rw[aQ];exact bM q sz⟩
theorem me.row{w:World}{v:Value}{T:TypeId}{n sz:Nat}{f:Nat->Nat->Value}{nl:Bool}(h:me w v T n sz f nl):w.ownsRow 0 T sz v n (flat n sz f):=by
 rcases h with⟨rfl,rfl⟩|⟨b,c,cur,rfl,hg,lj,kv,jB,gG,_⟩
 .exact ⟨qk _ _ _,.inl ⟨rfl,rfl⟩⟩
 .refine ⟨qk _ _ _,.inr ⟨b,c,cur,rfl,bq _,hg,lj,kv,jB,?_⟩⟩
  apply agN;intro q;by_cases hq:q<n*sz
  .have hz:0<sz:=by
    rcases dt sz with h0|h0
    .subst h0;simp at hq
    .exact h0
   have h1:q/sz<n:=(bC hz).2 hq;have h2:=aS q hz;have h3:q/sz*sz+q%sz=q:=by rw[aQ];exact bM q sz
   have h4:=(gG _ _ h1 h2).1;have h5:=FZ (f:=f) h1 h2;rw[h3]at h4 h5;rw[dp,aC hq,h5];simpa using h4
  .rw [dp,aB hq,bu (by rw[qk];omega)]
theorem ad0(P:Program)(w:World)(t ty e:TypeId)(i:TypeInfo)(z:Value)(sz:Nat)(ht:P.underlying t=some (.slice e))(hi:P.info? e=some i)(hz:i.zero=some z)
 (r9:i.size=sz) (NI:z.cells.size=sz) (ie:0<sz) (eR:1<=i.bytes) (agt:∀ u,u ∈ z.cells->u.oneCell'=true)
 (v:Value) (n:Nat) (f:Nat->Nat->Value) (nl:Bool) (jZ:me w v e n sz f nl)
 (A:Option Addr) (m c:Nat) (g:Nat->Nat->Value) (hA:∀ k j,k<m->j<sz->∃ b o,A=some ⟨b,o,none⟩/\w.cell? ⟨b,o+(k*sz+j),none⟩=some (g k j)) (pA:A=none->m=0)
 (h1:∀ k j,k<m->j<sz->(g k j).oneCell'=true/\(nl=true->nY (g k j)=false)) (NH:nl=true->∀ u,u ∈ z.cells->nY u=false)
 (MO:(n+m)*i.bytes<=140737488355328):
 ∃ v' w',(Builtin.append_ #[t,t] ty #[v,.slice A m c]).run P w = .ok v' w'/\JP w v e n sz m f g nl v' w':=by
 have hle:n+m<=(n+m)*i.bytes:=ahe _ eR;have F7:n+m<=maxLen:=by unfold maxLen;omega
 have r7:∀ i j,i<n+m->j<sz->(flat n sz f++flat m sz g)[i*sz+j]? = some (if i<n then f i j else g (i-n) j):=by
  intro i j hi hj;by_cases ik:i<n
  .rw [aC ik,du,FZ ik hj]
   rw[qk];have:=a6 sz (show i+1<=n from ik);rw[aO,aK]at this;omega
  .rw [aB ik,dG,qk]
   .have:i*sz+j-n*sz=(i-n)*sz+j:=by
     have:=Nat.sub_mul i n sz;have:=a6 sz (show n<=i by omega);omega
    rw[this,FZ ae hj]
   .rw [qk]
    have:=a6 sz (show n<=i by omega);omega
 have uD:∀ i j,i<n+m->j<sz->(if i<n then f i j else g (i-n) j).oneCell'=true:=by
  intro i j hi hj;split
  .rename_i ik
   rcases jZ with⟨_,h0⟩|⟨b,c,cur,_,_,_,_,_,hc,_⟩
   .omega
   .exact (hc i j ik hj).2
  .rename_i ik
   exact(h1 (i-n) j ae hj).1
 have XL:∀ u ∈ flat m sz g,u.oneCell'=true:=by
  intro u hu;obtain⟨q,hq⟩:=cG.1 hu;obtain⟨q1,q2,rfl,_⟩:=CQ hq;exact(h1 _ _ q1 q2).1
 have gnl:nl=true->∀ u,u ∈ flat m sz g->nY u=false:=by
  intro hn u hu;obtain⟨q,hq⟩:=cG.1 hu;obtain⟨q1,q2,rfl,_⟩:=CQ hq;exact(h1 _ _ q1 q2).2 hn
 rcases A with _|ad
 .have hm:=pA rfl
  subst hm;rcases jZ with⟨rfl,rfl⟩|⟨b,cc,cur,rfl,hg,lj,kv,jB,gG,fE⟩
  .refine ⟨.slice none 0 0,w,?_,.inl ⟨rfl,rfl⟩,fun x hx=>.inl hx,aG _,fun _ _ _=>rfl,rfl,rfl,rfl⟩
   simp[Builtin.append_,run_underlying ht,sizeOf,typeInfo,hi,Builtin.lenOf,Builtin.firstCells,loadCells,loadCellsFrom]
  .refine ⟨.slice (some ⟨b,0,none⟩) n cc,w,?_,.inr ⟨b,cc,cur,rfl,hg,lj,kv,jB,?_,fE⟩,fun x hx=>.inl hx,aG _,fun _ _ _=>rfl,rfl,rfl,rfl⟩
   .simp [Builtin.append_,run_underlying ht,sizeOf,typeInfo,hi,Builtin.lenOf,Builtin.firstCells,lj,storeCells]
   .intro i j hi hj
    have ik:i<n:= ae ;simp only[ik,aW];exact gG i j ik hj
 .have GQ:∀ j u,(flat m sz g)[j]? = some u->w.cell? (ad.add j)=some u:=by
   intro q u hq;obtain⟨q1,q2,rfl,q4⟩:=CQ hq;obtain⟨b,o,e,hc⟩:=hA _ _ q1 q2;cases e;rw[q4]at hc;rw[show(⟨b,o,none⟩:Addr).add q=⟨b,o+q,none⟩from Addr.add_lit _ _ _];exact hc
  rcases jZ with⟨rfl,rfl⟩|⟨b,cc,cur,rfl,hg,lj,kv,jB,gG,fE⟩
  .by_cases hm:m=0
   .subst hm
    refine⟨.slice none 0 0,w,?_,.inl ⟨rfl,rfl⟩,fun x hx=>.inl hx,aG _,fun _ _ _=>rfl,rfl,rfl,rfl⟩;simp[Builtin.append_,run_underlying ht,sizeOf,typeInfo,hi,Builtin.lenOf,Builtin.firstCells,loadCells,loadCellsFrom]
   .have hr:=run_append_nil (P:=P) w t ty e i z ht hi hz ad m c (flat m sz g) (by rw[qk,r9]) GQ ae (by unfold maxLen at F7;omega) (by have hb:=MO;simp only[bK]at hb;omega)
    have mA:=grownCap_ge w m 0 e;have kv:grownCap w m 0 e<=maxLen:=grownCap_le_maxLen w m 0 e ae;refine⟨_,_,hr,.inr ⟨w.heap.size,_,_, aj,heap_alloc_new w.drew _, ae,kv,?_,?_,?_⟩,fun x hx=>.inr ?_, aj,fun x hx _=>Below.heap_alloc w.drew _ x hx,rfl,rfl,rfl⟩
    .simp only[Array.size_append,ag2,size_zeroCells,NI,qk,<-aO]
     congr 1;omega
    .intro i j hi hj
     have:=r7 i j hi hj;refine⟨?_,uD i j hi hj⟩;simp only[flat,bS,List.range_zero,List.map_nil,List.nil_append]at this;rw[<-this,Array.getElem?_append_left]
     .simp [flat]
     .obtain ⟨q,_⟩:=bA.1 this
      simpa[flat]using q
    .intro hn u hu
     rcases agO.1 hu with hu|hu
     .exact gnl hn u (by simpa using hu)
     .simp only[Builtin.zeroCells,Array.mem_map,ag3]at hu
      obtain⟨q,hq,rfl⟩:=hu;have ek:q%z.cells.size<z.cells.size:=aS _ ae;rw[agP z.cells _ ek];exact NH hn _ (ahf ek)
    .simp [Value.ownBlock]at hx
     subst hx;simp
  .by_cases GW:n+m<=cc
   .have xV:(flat m sz g).length=m*i.size:=by rw[qk,r9]
    have jV:n*i.size+(flat m sz g).length<=cur.size:=by rw[xV,jB,r9,<-aO];exact a6 _ GW
    have hr:=run_append_room (P:=P) w t ty e i ht hi b n cc cur hg ad m c (flat m sz g) xV GQ XL GW jV;have AL:cur.toList.take (n*i.size)=flat n sz f:=by
     have GX:w.ownsRow 0 e sz (.slice (some ⟨b,0,none⟩) n cc) n (flat n sz f):=me.row (nl:=nl) (.inr ⟨b,cc,cur,rfl,hg,lj,kv,jB,gG,fE⟩);rcases GX.2 with⟨hh,_⟩|⟨b',c',cur',hh,_,MW,_,_,_,Dr⟩
     .cases hh
     .cases hh
      rw[hg]at MW;cases MW;rw[r9];exact Dr
    refine⟨_,_,hr,.inr ⟨b,cc,_,rfl,setRow_heap w b cur _ e _ hg,GW,kv,?_,?_,?_⟩,fun x hx=>.inl hx, aj,fun x hx fK=>setRow_other w b x _ (fun q=>fK (by simp[Value.ownBlock,q])),rfl,rfl,rfl⟩
    .simp only[ag2,bO,bB,dH,cQ]
     omega
    .intro k j hk hj
     refine⟨?_,uD k j hk hj⟩;rw[AL,<-r7 k j hk hj];have hq:k*sz+j<(flat n sz f++flat m sz g).length:=by
      obtain⟨q,_⟩:=bA.1 (r7 k j hk hj);exact q
     rw[ahg,du hq]
    .intro hn u hu
     simp only[List.mem_toArray,cT]at hu;rcases hu with(hu|hu)|hu
     .exact fE hn u (by have:=dD hu;simpa using this)
     .exact gnl hn u hu
     .exact fE hn u (by have:=agz hu;simpa using this)
   .have GX:w.ownsRow 0 e sz (.slice (some ⟨b,0,none⟩) n cc) n (flat n sz f):=me.row (nl:=nl) (.inr ⟨b,cc,cur,rfl,hg,lj,kv,jB,gG,fE⟩)
    have holds:∀ j u,(flat n sz f)[j]? = some u->w.cell? ((⟨b,0,none⟩:Addr).add j)=some u:=GX.cells (g:=b) rfl;have hr:=run_append_grow (P:=P) w t ty e i z ht hi hz ⟨b,0,none⟩ n cc (flat n sz f) (by rw[qk,r9]) holds ad m c (flat m sz g) (by rw[qk,r9]) GQ ae (by unfold maxLen at F7;omega) (growslice_fits ae MO);have mA:=grownCap_ge w (n+m) cc e;have Yv:grownCap w (n+m) cc e<=maxLen:=grownCap_le_maxLen w (n+m) cc e F7;refine⟨_,_,hr,.inr ⟨w.heap.size,_,_, aj,heap_alloc_new w.drew _, ae,Yv,?_,?_,?_⟩,fun x hx=>.inr ?_, aj,fun x hx _=>Below.heap_alloc w.drew _ x hx,rfl,rfl,rfl⟩
    .simp only[Array.size_append,ag2,size_zeroCells,NI,qk,<-aO]
     congr 1;omega
    .intro k j hk hj
     refine⟨?_,uD k j hk hj⟩;rw[<-r7 k j hk hj];have hq:k*sz+j<(flat n sz f++flat m sz g).length:=by
      obtain⟨q,_⟩:=bA.1 (r7 k j hk hj);exact q
     rw[Array.getElem?_append_left (by simpa using hq)];simp
    .intro hn u hu
     rcases agO.1 hu with hu|hu
     .rcases agO.1 hu with hu|hu
      .obtain ⟨q,hq⟩:=cG.1 (show u ∈ flat n sz f by simpa using hu)
       obtain⟨q1,q2,rfl,_⟩:=CQ hq;exact fE hn _ (cR (gG _ _ q1 q2).1)
      .exact gnl hn u (by simpa using hu)
     .simp only[Builtin.zeroCells,Array.mem_map,ag3]at hu
      obtain⟨q,hq,rfl⟩:=hu;have ek:q%z.cells.size<z.cells.size:=aS _ ae;rw[agP z.cells _ ek];exact NH hn _ (ahf ek)
    .simp [Value.ownBlock]at hx
     subst hx;simp
theorem jA.move{B:Nat->Prop}{L L':Lk}{w:World}(h:oP L w L' w){p:PV}{v:Value}(k:jA (bad B L) (fH L) L w p v)
 (hv:∀ id,id ∈ p.refs->L.live id->L'.live id/\L'.val id=L.val id/\∀ j,L'.eK id j=L.eK id j):jA (bad B L') (fH L') L' w p v:=by
 cases p with
 | e x=>exact h.rep k
 | box id off=>obtain⟨k1,b,k2,k3⟩:=k;have q:=hv id (by simp[PV.refs]) k1;exact⟨q.1,b,by rw[q.2.1];exact k2,k3⟩
 | own id=>obtain⟨k1,k2⟩:=k;have q:=hv id (by simp[PV.refs]) k1;exact⟨q.1,by rw[q.2.1];exact k2⟩
 | lr id sz i j=>obtain⟨k1,b,n,c,k2,k3⟩:=k;have q:=hv id (by simp[PV.refs]) k1;exact⟨q.1,b,n,c,by rw[q.2.1];exact k2,k3⟩
 | eK id r=>obtain⟨k1,k2⟩:=k;have q:=hv id (by simp[PV.refs]) k1;exact⟨q.1,by rw[q.2.2];exact k2⟩
 | oX f cap=>
  obtain⟨vs,k1,k2,k3⟩:=k;refine⟨vs,k1,k2,fun i c x hc hx=>?_⟩;have q:=k3 i c x hc hx;cases c with
  | e y=>exact h.rep q
  | box id=>
   obtain⟨q1,b,q2,q3⟩:=q;have r:=hv id (by simp only[PV.refs,agJ];exact⟨.box id,dq hc,by simp[CV.refs]⟩) q1;exact⟨r.1,b,by rw[r.2.1];exact q2,q3⟩
theorem afL{id:Nat}{b:Bx}{p:PV}(h:p.refs.any (Nat.beq id)=false):p.kT (.grow id b)=p:=by
 cases p with
 | own i=>
  have:Nat.beq i id=false:=by
   simp only[PV.refs,List.any_cons,List.any_nil,Bool.or_false]at h;exact cP fun e=>by rw[e,cO]at h;cases h
  simp[PV.kT,this]
 | lr i s x j=>
  have:Nat.beq i id=false:=by
   simp only[PV.refs,List.any_cons,List.any_nil,Bool.or_false]at h;exact cP fun e=>by rw[e,cO]at h;cases h
  simp[PV.kT,this]
 | _=>rfl
theorem Rel.fin{w0:World}{B:Nat->Prop}{σ:PS}{a:Act}{w:World}{L:Lk}{id:Nat}{nl:Bool}{T n sz:Nat}{el:Nat->Nat->E}(hB:∀ b,B b->b<w0.heap.size)
 (r:Rel w0 B (σ.mz (.grow id (.row nl T n sz el))) a w L):∃ L',Rel w0 B (σ.mz (.fin id)) a w L'/\eo (bad B L') (fH L') w (.sl nl n sz el) (L.val id):=by
 let L':Lk:=⟨fun i=>L.live i/\i≠id,fun i x=>L.own i x/\i≠id,L.val,L.eK⟩
 have ek:oP L w L' w:=⟨aG _,fun x _ ⟨i,h,_⟩=>⟨i,h⟩,fun _ _ _=>rfl⟩
 have q7:∀ i,(σ.mz (.fin id)).bo i=if i=id then none else(σ.mz (.grow id (.row nl T n sz el))).bo i:=by
  intro i;show look (σ.b.filter fun x=>!Nat.beq x.1 id) i=if i=id then none else look (y4 σ.b id (.row nl T n sz el)) i
  rw[Ia,DJ];by_cases h:i=id
  .subst h;simp
  .rw [aB h,aB (fun e=>h e.symm),aB (fun e=>h e.symm)]
 have Yp:(σ.mz (.grow id (.row nl T n sz el))).bo id=some (.row nl T n sz el):=by
  show look (y4 σ.b id (.row nl T n sz el)) id=_;rw[DJ,aC rfl]
 have r6:∀ x,L.own id x->¬bad B L' x:=by
  rintro x hx (h|⟨i,h1,h2⟩)
  .have:=hB x h;have:=(r.hw id x hx).1;omega
  .exact h2 (r.hi i id x h1 hx)
 have hold:eo (bad B L') (fH L') w (.sl nl n sz el) (L.val id):=by
  obtain⟨f,h1,h2,h3⟩:=r.hb id _ Yp;rcases h1 with⟨h0,rfl⟩|⟨b,c,cur,h0,hg,lj,kv,jB,gG,fE⟩
  .rw [h0]
   exact .sl nl 0 sz el none 0 f (aG _) ag (fun _=>rfl) (fun i j hi=>absurd hi (aV i)) (fun i j hi=>absurd hi (aV i)) (fun i j hi=>absurd hi (aV i)) (fun i j hi=>absurd hi (aV i))
  .have mZ:=(h2 b).2 (by rw[h0];rfl)
   rw[h0];refine .sl nl n sz el _ c f lj (by unfold maxLen at kv;omega) (fun h=>by cases h) (fun i j hi hj=>⟨(gG i j hi hj).2,fun hn=>fE hn _ (cR (gG i j hi hj).1)⟩) (fun i j hi hj=>(h3 i j hi hj).2)
    (fun i j hi hj=>⟨b,0,rfl,r6 b mZ,(r.hw id b mZ).2,?_⟩) (fun i j hi hj=>ek.rep (h3 i j hi hj).1)
   rw[bK];simp only[World.cell?,hg];simpa using(gG i j hi hj).1
 refine⟨L',⟨r.hd,r.hs,fun t=>?_,fun i b' h=>?_,fun i=>?_,fun i x h=>⟨r.hn i x h.1,h.2⟩,fun i x h=>r.hw i x h.1,fun i i' x h k=>r.hi i i' x h.1 k.1,r.he,fun h i b' k=>?_⟩,hold⟩
 .have k:=r.ht t
  rw[PS.CT]at k ⊢;generalize σ.get t=p at k ⊢;show jA _ _ _ _ (if p.refs.any (Nat.beq id)then .e .any else p) _;cases hp:p.refs.any (Nat.beq id)with
  | true=>exact .any _
  | false=>
   rw[afL hp]at k;refine jA.move ek k fun i hi qp=>⟨⟨qp,?_⟩,rfl,fun _=>rfl⟩
   rintro rfl;have:=dv.1 hp i hi;simp at this
 .rw [q7]at h
  split at h
  .cases h
  .rename_i hi
   exact(r.hb i b' h).later ek rfl (fun x=>⟨fun q=>q.1,fun q=>⟨q,hi⟩⟩) (fun _=>rfl) fun _ _=>rfl
 .rw [q7]
  show L.live i/\i≠id↔_;by_cases hi:i=id
  .subst hi;simp
  .simp only[hi,ne_eq,dI,and_true,aL]
   exact r.hv i
 .rw [q7]at k
  split at k
  .cases k
  .exact r.hl h i b' k
open Go.RowKit
theorem RK{T:List TI}{t:TypeId}{x:TI}(h:iT T t=some x):x ∈ T/\x.id=t:=by
 induction T with
 | nil=>cases h
 | cons y l ih=>
  unfold iT at h;split at h
  .rename_i hb
   cases h;exact⟨ aj,beq_iff.1 hb⟩
  .obtain ⟨h1,h2⟩:=ih h
   exact⟨by simp[h1],h2⟩
theorem iC.nK{P:Program}{T:List TI}(hT:iC P T){t:TypeId}{x:TI}(h:iT T t=some x):P.underlying t=some x.d:=by
 obtain⟨h1,h2⟩:=RK h;rw[<-h2];exact(hT x h1).1
theorem iC.inf{P:Program}{T:List TI}(hT:iC P T){t:TypeId}{x:TI}(h:iT T t=some x):P.info? t=some x.i:=by
 obtain⟨h1,h2⟩:=RK h;rw[<-h2];exact(hT x h1).2
theorem xy{T:List TI}{t:TypeId}{d:TypeDesc}(h:descOf T t=some d):∃ x,iT T t=some x/\x.d=d:=by
 unfold descOf at h;split at h
 .rename_i x hx;exact⟨x,hx,by simpa using h⟩
 .cases h
section
variable {P:Program} {T:List TI} (hT:iC P T) (w:World)
include hT
theorem rB{t:TypeId}{x:TI}(h:iT T t=some x):(sizeOf t).run P w = .ok x.i.size w:=by
 simp[sizeOf,typeInfo,hT.inf h]
theorem QI{t:TypeId}{x:TI}(h:iT T t=some x){z:Value}(hz:x.i.zero=some z):(zeroValue t).run P w = .ok z w:=by
 simp[zeroValue,typeInfo,hT.inf h,hz]
theorem Ee{t:TypeId}{x:TI}(h:iT T t=some x):(isAgg t).run P w = .ok x.isAgg w:=by
 unfold isAgg TI.isAgg;rw[Sem.run_bind,run_underlying (hT.nK h) w];cases x.d<;>simp
theorem QH{t:TypeId}{x:TI}(h:iT T t=some x)(ha:x.isAgg=true)(b o:Nat)(vs:List Value)(hl:vs.length=x.i.size)
 (hc:∀ (j:Nat) (u:Value),vs[j]? = some u->w.cell? ⟨b,o+j,none⟩=some u):(loadVar t ⟨b,o,none⟩).run P w = .ok (.agg vs.toArray) w:=by
 have hr:=run_loadCells_list (P:=P) w ⟨b,o,none⟩ vs (fun j v hv=>by rw[Addr.add_lit];exact hc j v hv);rw[hl]at hr;simp[loadVar,Ee hT w h,ha,rB hT w h,hr]
theorem Ji{t:TypeId}{x:TI}(h:iT T t=some x)(ha:x.isAgg=false)(b o:Nat)(u:Value)(hc:w.cell? ⟨b,o,none⟩=some u):(loadVar t ⟨b,o,none⟩).run P w = .ok u w:=by
 simp[loadVar,Ee hT w h,ha,hc]
theorem Jj{t:TypeId}{x:TI}(h:iT T t=some x)(b o:Nat)(E:TypeId)(cur:Array Value)(hg:w.heap[b]? = some (.cells cur E (0,0)))(v:Value)(hl:v.cells.toList.length=x.i.size)
 (jV:o+v.cells.toList.length<=cur.size) (h1:∀ u ∈ v.cells.toList,u.oneCell'=true):
 (storeVar t ⟨b,o,none⟩ v).run P w = .ok () (w.setRow b (cur.toList.take o++v.cells.toList++cur.toList.drop (o+v.cells.toList.length)).toArray):=by
 have hr:=run_storeCells_at P b o E v.cells.toList 0 cur w hg (by simpa using jV) h1;simp only[bd]at hr;have mB:v.cells.size=x.i.size:=by simpa using hl
 simp only[storeVar,Sem.run_bind,rB hT w h,Result.andThen,mB,ne_eq,not_true_eq_false,aL,hr,Sem.run_ite,Sem.run_pure]
end
theorem Touch.setRow{L:Lk}{w:World}{id b:Nat}(hb:L.own id b)(ek:∀ x,L.own id x->x<w.heap.size)(cs:Array Value):Touch L w id (L.own id) (w.setRow b cs):=
 ⟨fun x hx=>⟨.inl hx,by simpa using ek x hx⟩, aj,fun x _ fK=>setRow_other w b x cs (fun e=>fK (e▸hb)),rfl,rfl,rfl⟩
def fL(P:Program)(K:World->Prop)(w0:World)(B:Nat->Prop)(σ:PS)(o:Oper)(a:Act)(w:World)(u:Out):Prop:=
 ∃ v w' L',((execOp a.eval o).run P w = .ok (.value v) w'\/((execOp a.eval o).run P w = .ok .skip w'/\v=undef))/\Rel w0 B (σ.mz u.f) a w' L'/\jA (bad B L') (fH L') L' w' u.r v
section
variable {P:Program} {K:World->Prop} {w0:World} {B:Nat->Prop} {σ:PS} {o:Oper} {a:Act} {w:World} {L:Lk} {u:Out}
theorem fL.pure(r:Rel w0 B σ a w L){v:Value}(gV:(execOp a.eval o).run P w = .ok (.value v) w)(hf:u.f = .none)(hp:jA (bad B L) (fH L) L w u.r v):fL P K w0 B σ o a w u:=
 ⟨v,w,L,.inl gV,by rw[hf];exact r,hp⟩
theorem Rel.read(r:Rel w0 B σ a w L){p:PV}{v:Value}(hp:jA (bad B L) (fH L) L w p v){m:Nat}{l:List E}{is:List Nat}{fo:List Prop}(h:σ.read p m=some (l,is,fo))(ho:∀ q,q ∈ fo->q):
 ∃ b q vs,v = .pointer (some ⟨b,q,none⟩)/\fM (bad B L) (fH L) w l vs/\vs.length=m/\∀ (j:Nat) (u:Value),vs[j]? = some u->w.cell? ⟨b,q+j,none⟩=some u:=by
 have tab:∀ (b q:Nat) (g:Nat->E) (f:Nat->Value),(∀ j,j<m->w.cell? ⟨b,q+j,none⟩=some (f j)/\eo (bad B L) (fH L) w (g j) (f j)) ->
  ∃ vs:List Value,fM (bad B L) (fH L) w ((List.range m).map g) vs/\vs.length=m/\∀ (j:Nat) (u:Value),vs[j]? = some u->w.cell? ⟨b,q+j,none⟩=some u:=by
  intro b q g f hc;refine⟨(List.range m).map f,⟨ aj,fun i p x hp hx=>?_⟩, aj,fun j u hu=>?_⟩
  .rw [bL]at hp hx
   obtain⟨i1,sY,rfl⟩:=b6.1 hp;obtain⟨i2,xW,rfl⟩:=b6.1 hx;rw[sY]at xW;cases xW;obtain⟨ek,rfl⟩:=bA.1 sY;simp at ek;simpa using(hc i ek).2
  .rw [bL]at hu
   obtain⟨i1,sY,rfl⟩:=b6.1 hu;obtain⟨ek,rfl⟩:=bA.1 sY;simp at ek;simpa using(hc j ek).1
 cases p with
 | box id off=>
  simp only[PS.read]at h;split at h
  .rename_i T l0 fQ
   split at h
   .rename_i hle
    simp only[bc,bH]at h;obtain⟨rfl,rfl,rfl⟩:=h;obtain⟨b,vs,h1,h2,h3,h4,h5⟩:=r.hb id _ fQ;obtain⟨_,b',k2,rfl⟩:=hp;rw[h1]at k2;cases k2;have M8:=b7 hle;refine⟨b,off,(vs.drop off).take m,rfl,(h4.drop off).take m,by simp[h4.len];omega,fun j u hu=>?_⟩;rw[dp]at hu;split at hu
    .rw [dF]at hu
     simp only[World.cell?,h3];simpa using hu
    .cases hu
   .cases h
  .cases h
 | lr id sz i j=>
  simp only[PS.read]at h;split at h
  .rename_i nl T n s el fQ
   split at h
   .rename_i hle
    simp only[bc,bH]at h;obtain⟨rfl,rfl,rfl⟩:=h;simp only[aX]at hle;have e1:=beq_iff.1 hle.1;have e2:=b7 hle.2;subst e1;have hi:i<n:=ho _ aj;obtain⟨f,h1,h2,h3⟩:=r.hb id _ fQ;obtain⟨_,b,n',c',k2,rfl⟩:=hp;rcases h1 with⟨h1,_⟩|⟨b',c,cur,h1,hg,lj,kv,jB,gG,fE⟩
    .rw [k2]at h1;cases h1
    .rw [k2]at h1
     cases h1;obtain⟨vs,q1,q2,q3⟩:=tab b (i*s+j) (fun q=>el i (j+q)) (fun q=>f i (j+q)) (fun q hq=>⟨by
      simp only[World.cell?,hg];have:=(gG i (j+q) hi ae).1;rw[<-ck]at this;simpa using this,(h3 i (j+q) hi ae).1⟩)
     exact⟨b,i*s+j,vs,rfl,q1,q2,q3⟩
   .cases h
  .cases h
 | e x=>
  cases x with
  | ref k el=>
   simp only[PS.read]at h;split at h
   .rename_i hle
    simp only[bc,bH]at h;obtain⟨rfl,rfl,rfl⟩:=h;have M8:=b7 hle;cases hp with
    | ref _ _ b q f hb ek hl cell kk=>
     obtain⟨vs,q1,q2,q3⟩:=tab b q el f (fun j hj=>⟨cell j ae,kk j ae⟩);exact⟨b,q,vs,rfl,q1,q2,q3⟩
   .cases h
  | _=>cases h
 | _=>cases h
theorem B6{ti:TI}{l:List E}(h:tX ti=some l):∃ z,ti.i.zero=some z/\∀ (bs br:Nat->Prop) (w:World),fM bs br w l z.cells.toList/\∀ u ∈ z.cells.toList,u.oneCell'=true:=by
 unfold tX at h;split at h
 .rename_i z hz;exact⟨z,hz,fun bs br w=>(eo.v (bs:=bs) (br:=br) (w:=w) z).cells h⟩
 .cases h
theorem Rel.Pk(r:Rel w0 B σ a w L)(id:Nat)(T:TypeId)(l:List E)(v:Value)(iz:σ.bo id=none)(hv:fM (bad B L) (fH L) w l v.cells.toList)(h1:∀ u ∈ v.cells.toList,u.oneCell'=true)
 (fE:(!σ.nl||l.all E.jj)=true):
 ∃ L',Rel w0 B (σ.mz (.new id (.cells T l))) a (w.alloc (.cells v.cells T)) L'/\jA (bad B L') (fH L') L' (w.alloc (.cells v.cells T)) (.box id 0) (.pointer (some ⟨w.heap.size,0,none⟩)):=by
 have hb:Below w.heap.size w (w.alloc (.cells v.cells T)):=(Below.refl _ _).alloc (aG _) _;have MR:∀ x,¬L.own id x:=fun x hx=>by have:=(r.hv id).1 (r.hn id x hx);rw[iz]at this;simp at this
 have ht:Touch L w id (fun x=>x=w.heap.size) (w.alloc (.cells v.cells T)):=⟨fun x hx=>⟨.inr ae, av⟩,hb.size,fun x hx _=>hb.block x hx,rfl,rfl,rfl⟩
 have hl:=ht.later (.pointer (some ⟨w.heap.size,0,none⟩)) (fun _=>undef);refine⟨_,r.new id (.cells T l) (fun x=>x=w.heap.size) (.pointer (some ⟨w.heap.size,0,none⟩)) (fun _=>undef) _ iz (fun x hx=>by subst hx;simp) hb
  ⟨w.heap.size,v.cells.toList,Lk.kH,fun x=>Lk.oe x,by rw[Array.toArray_toList];exact heap_alloc_new w _,hv.mono fun _ _=>hl.rep,h1⟩ fE,Lk.uY,w.heap.size,Lk.kH,rfl⟩
theorem wF{d:Option Tmp}{b:Bx}{rr:Nat->PV}{fo:List Prop}(h:rp σ d b rr fo=some u):∃ id,d=some id/\σ.bo id=none/\(!σ.nl||b.nl)=true/\u={ r:=rr id,f:=.new id b,fo:=fo }:=by
 unfold rp at h;split at h
 .rename_i id
  split at h
  .rename_i iz
   split at h
   .rename_i hc
    cases h;exact⟨id,rfl,iz,hc,rfl⟩
   .cases h
  .cases h
 .cases h
end
open Go.RowKit
theorem B0{k:IntKind}{z:Int}(h:gI k z):k.wrap z=z:=by
 cases k<;>simp only[gI]at h<;>simp only[IntKind.wrap,IntKind.bits,IntKind.signed]<;>simp<;>(try split)<;>omega
theorem adE{k:IntKind}{x y:Int}(h:gI k x)(hy:0<y):gI k (x.tdiv y):=by
 by_cases h0:0<=x
 .have h1:0<=x/y:=Int.ediv_nonneg h0 ae 
  have h2:x/y<=x:=Int.ediv_le_self y h0;rw[Int.tdiv_eq_ediv_of_nonneg h0];cases k<;>simp only[gI]at h ⊢ <;> omega
 .obtain ⟨z,rfl⟩:∃ z,x = -z:=⟨-x, ae⟩
  have h0:0<=z:= ae ;have h1:0<=z/y:=Int.ediv_nonneg h0 ae;have h2:z/y<=z:=Int.ediv_le_self y h0;rw[Int.neg_tdiv,Int.tdiv_eq_ediv_of_nonneg h0];cases k<;>simp only[gI]at h ⊢ <;> omega
theorem VW{P:Program}{op:BinOp}{k k':IntKind}{x y:Int}{v:Value}{fo:List Prop}(h:FK op k x y=some (v,fo))(ho:∀ q,q ∈ fo->q)
 (hk:sameKind op k k'=true) (t:TypeId) (w:World):(binOp op t (.int k x) (.int k' y)).run P w = .ok v w:=by
 cases op<;>simp only[FK,bc,bH,reduceCtorEq]at h<;>(obtain⟨rfl,rfl⟩:=h)<;>(try (have M3:=bV hk;subst M3))
 case add=>
  rw[binOp_add];by_cases CU:k = .u32
  .subst CU;simp[Op.intArith,EU]
  .have e:EU k x y=x+y:=by cases k<;>first|rfl|exact absurd rfl CU
   have e2:J6 k x y=[gI k (x+y)]:=by cases k<;>first|rfl|exact absurd rfl CU
   rw[e];simp[Op.intArith,B0 (ho (gI k (x+y)) (by rw[e2];simp))]
 case sub=>rw[binOp_sub];simp[Op.intArith,B0 (ho (gI k (x-y)) aj)]
 case mul=>rw[binOp_mul];simp[Op.intArith,B0 (ho (gI k (x*y)) aj)]
 case quo=>
  have h1:=ho (0<y) aj;have h2:=ho (gI k x) aj;rw[binOp_quo];have hy:¬y=0:= ae ;simp[Op.intDiv,hy,B0 (adE h2 h1)]
 case rem=>
  have h1:=ho (0<y) aj;rw[binOp_rem];have hy:¬y=0:= ae ;simp[Op.intDiv,hy]
 case and=>rw[binOp_and,intBits_and];rfl
 case or=>rw[binOp_or,intBits_or];rfl
 case shl=>
  have h1:=ho (0<=y/\y<=k.bits) aj;rw[binOp_shl,shift_shl k k' x y h1.1 h1.2];rfl
 case shr=>
  have h1:=ho (0<=y/\y<=k.bits) aj;rw[binOp_shr,shift_shr k k' x y h1.1 h1.2];rfl
 case eql=>rw[binOp_eql];rfl
 case neq=>rw[binOp_neq];rfl
 case lss=>rw[binOp_lss];rfl
 case leq=>rw[binOp_leq];rfl
 case gtr=>rw[binOp_gtr];rfl
 case geq=>rw[binOp_geq];rfl
section
variable {P:Program} {K:World->Prop} {T:List TI} {O:mc} {w0:World} {B:Nat->Prop} {σ:PS} {o:Oper} {a:Act} {w:World} {L:Lk} {u:Out}
theorem Xt{x:Operand}(en:o.op = .move x)(r:Rel w0 B σ a w L)(h:eX P K T O σ o=some u):fL P K w0 B σ o a w u:=by
 simp only[eX,en]at h;cases h;exact fL.pure r (by simp only[execOp,en];rfl) rfl (r.op x)
theorem Xb{x:Operand}(en:o.op = .assign x)(r:Rel w0 B σ a w L)(h:eX P K T O σ o=some u):fL P K w0 B σ o a w u:=by
 simp only[eX,en]at h;cases h;exact fL.pure r (by simp only[execOp,en];rfl) rfl (r.op x)
theorem Xv{c x y:Operand}(en:o.op = .pick c x y)(r:Rel w0 B σ a w L)(h:eX P K T O σ o=some u):fL P K w0 B σ o a w u:=by
 simp only[eX,en]at h;have hc:=r.op c;split at h
 .rename_i hv
  rw[hv]at hc;have hc:=eo.gn hc;cases h;exact fL.pure r (by simp[execOp,en,hc,asBool]) rfl (r.op x)
 .rename_i hv
  rw[hv]at hc;have hc:=eo.gn hc;cases h;exact fL.pure r (by simp[execOp,en,hc,asBool]) rfl (r.op y)
 .cases h
theorem Xu{x:Operand}(en:o.op = .nilCheck x)(r:Rel w0 B σ a w L)(h:eX P K T O σ o=some u):fL P K w0 B σ o a w u:=by
 simp only[eX,en]at h;have hc:=r.op x;split at h
 .rename_i hv
  rw[hv]at hc;cases h;obtain⟨k1,b,k2,k3⟩:=hc;exact fL.pure r (v:=a.eval x) (by simp[execOp,en,k3]) rfl ⟨k1,b,k2,k3⟩
 .rename_i hv
  rw[hv]at hc;cases h;generalize hq:a.eval x=q at hc;refine fL.pure r (v:=q) ?_ rfl hc;cases hc;simp only[execOp,en,hq];rfl
 .rename_i hv
  rw[hv]at hc;cases h;refine fL.pure r (v:=a.eval x) ?_ rfl hc;obtain⟨vs,e,_⟩:=eo.L5 hc;simp only[execOp,en,e];rfl
 .rename_i hv
  rw[hv]at hc;cases h;refine fL.pure r (v:=a.eval x) ?_ rfl hc;obtain⟨vs,e,_⟩:=hc;simp only[execOp,en,e];rfl
 .cases h
theorem Xc(hT:iC P T){op:BinOp}{t yt:TypeId}{x y:Operand}(en:o.op = .binOp op t x y yt)(r:Rel w0 B σ a w L)(h:eX P K T O σ o=some u)(ho:∀ q,q ∈ u.fo->q):fL P K w0 B σ o a w u:=by
 simp only[eX,en]at h;have hx:=r.op x;have hy:=r.op y;split at h
 .rename_i k z k' z' sc wh
  rw[sc]at hx;rw[wh]at hy;have hx:=eo.gn hx;have hy:=eo.gn hy;split at h
  .rename_i hk
   obtain⟨rr,hr,rfl⟩:=b6.1 h;have gV:=VW (P:=P) (k':=k') hr ho hk t w;refine fL.pure r (v:=rr.1) ?_ rfl (.v _);simp only[execOp,en,hx,hy,Sem.run_bind,eqGuard_at_int,Sem.run_pure,Result.andThen_ok,gV]
  .cases h
 .rename_i z z' sc wh
  rw[sc]at hx;rw[wh]at hy;have hx:=eo.gn hx;have hy:=eo.gn hy;split at h
  .rename_i hd
   obtain⟨ti,h1,h2⟩:=xy hd;have hu:P.underlying t=some .bool:=by rw[hT.nK h1,h2]
   split at h
   .cases h
    refine fL.pure r (v:=.bool (z==z')) ?_ rfl (.v _);simp only[execOp,en,hx,hy,Sem.run_bind,eqGuard_at_bool,Sem.run_pure,Result.andThen_ok,run_eql_bool w t z z' hu]
   .cases h
    refine fL.pure r (v:=.bool (!(z==z'))) ?_ rfl (.v _);simp only[execOp,en,hx,hy,Sem.run_bind,eqGuard_at_bool,Sem.run_pure,Result.andThen_ok];have:(binOp .neq t (.bool z) (.bool z')).run P w = .ok (.bool (!(z==z'))) w:=by
     simp only[binOp,Sem.run_bind,run_equal_bool w t z z' hu,Result.andThen_ok,Sem.run_pure]
    rw[this];rfl
   .cases h
  .cases h
 .rename_i nl n sz el sc wh
  rw[sc]at hx;rw[wh]at hy;have hy:=eo.gn hy;have hx:eo (bad B L) (fH L) w (.sl nl n sz el) (a.eval x):=hx;split at h
  .rename_i e hd
   obtain⟨ti,h1,h2⟩:=xy hd;have hu:P.underlying t=some (.slice e):=by rw[hT.nK h1,h2]
   have key:∀ A c,0<n->a.eval x = .slice A n c->eo (bad B L) (fH L) w (.sl nl n sz el) (.slice A n c)->A.isNone=false:=by
    intro A c hn e1 hr;cases A with
    | some ad=>rfl
    | none=>
     cases hr with
     | sl _ _ _ _ _ _ f hc hm h0=>have:=h0 rfl;omega
   generalize hv:a.eval x=vx at hx;cases hx with
   | sl _ _ _ _ A c f hc hm h0 hl hr cell k=>
    have rm:eo (bad B L) (fH L) w (.sl nl n sz el) (.slice A n c):=.sl nl n sz el A c f hc hm h0 hl hr cell k;split at h
    .cases h
     have hn:0<n:=ho _ aj;refine fL.pure r (v:=.bool false) ?_ rfl (.v _);simp only[execOp,en,hv,hy,Sem.run_bind,eqGuard_at_slice,Sem.run_pure,Result.andThen_ok,Lib.run_eql_slice_nil w t e A n c 0 0 hu,key A c hn hv rm]
    .cases h
     have hn:0<n:=ho _ aj;refine fL.pure r (v:=.bool true) ?_ rfl (.v _);simp only[execOp,en,hv,hy,Sem.run_bind,eqGuard_at_slice,Sem.run_pure,Result.andThen_ok,run_neq_slice_nil_any w t e A n c 0 0 hu,key A c hn hv rm,cV]
    .cases h
  .cases h
 .rename_i xe ye sc wh
  rw[sc]at hx;rw[wh]at hy;split at h
  .rename_i v hv
   cases h;obtain⟨h1,h2⟩:=ho _ (List.mem_singleton.2 rfl) _ _ w _ _ x y hx hy;refine fL.pure r (v:=v) ?_ rfl (.v _);simp only[execOp,en,Sem.run_bind,h1,Result.andThen_ok,h2,Sem.run_pure]
  .cases h
 .cases h
theorem Xy{op:UnOp}{t:TypeId}{x:Operand}(en:o.op = .unOp op t x)(r:Rel w0 B σ a w L)(h:eX P K T O σ o=some u)(ho:∀ q,q ∈ u.fo->q):fL P K w0 B σ o a w u:=by
 simp only[eX,en]at h;have hx:=r.op x;split at h
 .rename_i z hv
  rw[hv]at hx;have hx:=eo.gn hx;cases h;exact fL.pure r (v:=.bool (!z)) (by simp[execOp,en,hx,Op.unary]) rfl (.v _)
 .rename_i k z hv
  rw[hv]at hx;have hx:=eo.gn hx;cases h;have:=B0 (ho (gI k (0-z)) aj);refine fL.pure r (v:=.int k (0-z)) ?_ rfl (.v _);simp only[execOp,en,hx,Op.unary,Op.intArith,this];rfl
 .cases h
theorem Xg(hT:iC P T){src dst:TypeId}{x:Operand}(en:o.op = .convert src dst x)(r:Rel w0 B σ a w L)(h:eX P K T O σ o=some u):fL P K w0 B σ o a w u:=by
 simp only[eX,en]at h;have hx:=r.op x;split at h
 .rename_i k ts k' z hd hs hv
  rw[hv]at hx;have hx:=eo.gn hx;obtain⟨td,h1,h2⟩:=xy hd;have hu:P.underlying dst=some (.int k):=by rw[hT.nK h1,h2]
  have hk:P.intKind dst=k:=by simp[Program.intKind,hu]
  have gV:=run_convert_int (P:=P) w src dst k' z (by rw[hT.nK hs];rfl) (by rw[hk];exact hu);rw[hk]at gV;cases h;exact fL.pure r (v:=.int k (k.wrap z)) (by simp only[execOp,en,hx,Sem.run_bind,gV];rfl) rfl (.v _)
 .cases h
theorem Xh{x:Operand}{i:Nat}(en:o.op = .extract x i)(r:Rel w0 B σ a w L)(h:eX P K T O σ o=some u):fL P K w0 B σ o a w u:=by
 simp only[eX,en]at h;have hx:=r.op x;split at h
 .rename_i l hv
  rw[hv]at hx;obtain⟨vs,e,hr⟩:=eo.RG hx;split at h
  .rename_i y hy
   cases h;have ek:i<vs.length:=by rw[hr.len];exact(bA.1 hy).1
   have yo:=aM ek;refine fL.pure r (v:=vs[i]) ?_ rfl (hr.rep i y _ hy yo);simp only[execOp,en,e,Instr.extract,ahg,yo];rfl
  .cases h
 .cases h
theorem Xi(hT:iC P T){t:TypeId}{x:Operand}{f:Nat}(en:o.op = .field t x f)(r:Rel w0 B σ a w L)(h:eX P K T O σ o=some u):fL P K w0 B σ o a w u:=by
 simp only[eX,en]at h;have hx:=r.op x;split at h
 .rename_i l fs hv hd
  obtain⟨ti,h1,h2⟩:=xy hd;have hu:P.underlying t=some (.struct fs):=by rw[hT.nK h1,h2]
  rw[hv]at hx;obtain⟨vs,e,hr⟩:=eo.xh hx;split at h
  .rename_i fd GA
   split at h
   .rename_i ft GD
    split at h
    .cases h
    .rename_i Ye
     split at h
     .rename_i y hy
      cases h;have ek:fd.offset<vs.length:=by rw[hr.len];exact(bA.1 hy).1
      have yo:=aM ek;refine fL.pure r (v:=vs[fd.offset]) ?_ rfl (hr.rep fd.offset y _ hy yo);simp only[execOp,en,e,Instr.field,asAgg,Sem.run_bind,Sem.run_pure,Result.andThen_ok,run_underlying hu,GA,part,Ee hT w GD,Ye,ahg,yo];rfl
     .cases h
   .cases h
  .cases h
 .cases h
theorem UX{ps:List PV}{l:List CV}{vs:List Value}(h:sM ps=some l)(hlen:vs.length=ps.length)(hr:∀ (i:Nat) (p:PV) (x:Value),ps[i]? = some p->vs[i]? = some x->jA (bad B L) (fH L) L w p x):
 vs.length=l.length/\∀ (i:Nat) (c:CV) (x:Value),l[i]? = some c->vs[i]? = some x->sF (bad B L) (fH L) L w c x:=by
 induction ps generalizing l vs with
 | nil=>cases h;exact⟨hlen,fun i c x hc=>by simp at hc⟩
 | cons p ps ih=>
  cases vs with
  | nil=>simp at hlen
  | cons y vs=>
   have step:∀ (c0:CV) (l':List CV),sM ps=some l'->sF (bad B L) (fH L) L w c0 y->l=c0::l' ->
    (y::vs).length=l.length/\∀ (i:Nat) (c:CV) (x:Value),l[i]? = some c->(y::vs)[i]? = some x->sF (bad B L) (fH L) L w c x:=by
    intro c0 l' mB nu hl;obtain⟨i1,i2⟩:=ih mB (by simpa using hlen) (fun i p x hp hx=>hr (i+1) p x (by simpa using hp) (by simpa using hx));subst hl;refine⟨by simp[i1],fun i c x hc hx=>?_⟩;cases i with
    | zero=>simp at hc hx;subst hc hx;exact nu
    | succ i=>simp at hc hx;exact i2 i c x hc hx
   have h0:=hr 0 p y rfl rfl;cases p with
   | e x=>
    simp only[sM]at h;obtain⟨l',mB,rfl⟩:=b6.1 h;exact step (.e x) l' mB h0 rfl
   | box id off=>
    cases off with
    | zero=>
     simp only[sM]at h;obtain⟨l',mB,rfl⟩:=b6.1 h;exact step (.box id) l' mB h0 rfl
    | succ=>simp[sM]at h
   | _=>simp[sM]at h
theorem Xo{fn:Fn}{first cap:Array Operand}(en:o.op = .makeFunc fn first cap)(r:Rel w0 B σ a w L)(h:eX P K T O σ o=some u):fL P K w0 B σ o a w u:=by
 cases fn with
 | func f=>
  simp only[eX,en]at h;split at h
  .rename_i Yy
   have hf:first = #[]:=by simpa using Yy
   subst hf;split at h
   .rename_i l hl
    cases h;have hc:=UX (B:=B) (L:=L) (w:=w) (vs:=cap.toList.map a.eval) hl aj (fun i p x hp hx=>by
     rw[bL]at hp hx;obtain⟨q,hq,rfl⟩:=b6.1 hp;rw[hq]at hx;simp at hx;subst hx;exact r.op q)
    refine fL.pure r (v:=.func (.func f) #[] (cap.toList.map a.eval).toArray) ?_ rfl ⟨cap.toList.map a.eval,rfl,hc.1,hc.2⟩;have e1:cap.map a.eval=(cap.toList.map a.eval).toArray:=by apply cH;simp
    have e2:(#[]:Array Operand).map a.eval = #[]:= aj ;simp only[execOp,en,Instr.makeFunc,e1,e2,Sem.run_bind,Sem.run_pure,Result.andThen_ok]
   .cases h
  .cases h
 | _=>simp[eX,en]at h
theorem Xk(hT:iC P T){t:TypeId}{x i:Operand}(en:o.op = .index t x i)(r:Rel w0 B σ a w L)(h:eX P K T O σ o=some u)(ho:∀ q,q ∈ u.fo->q):fL P K w0 B σ o a w u:=by
 simp only[eX,en]at h;have hx:=r.op x;have hi:=r.op i;split at h
 .rename_i l k z hv hw
  rw[hv]at hx;rw[hw]at hi;have ei:=eo.gn hi;obtain⟨vs,e,hr⟩:=eo.xh hx;split at h
  .rename_i tt na
   split at h
   .rename_i n e' hd
    have hu:P.underlying t=some (.array n e'):=by rw[hT.nK na,hd]
    split at h
    .rename_i te kZ
     split at h
     .rename_i hc
      simp only[aX,beq_iff]at hc;cases h;obtain⟨AO,se⟩:=ho (0<=z/\z<n) aj;refine fL.pure r (v:=.agg ((vs.drop (z.toNat*te.i.size)).take te.i.size).toArray) ?_ rfl ((hr.drop _).take _).agg;simp only[execOp,en,e,ei,Instr.index,asIntOf,Sem.run_bind,Sem.run_pure,Result.andThen_ok,run_underlying hu,AO,se,and_self,aW,rB hT w kZ,part,Ee hT w kZ,hc.1];simp
     .cases h
    .cases h
   .cases h
  .cases h
 .cases h
theorem Xj(hT:iC P T){t:TypeId}{x:Operand}{f:Nat}(en:o.op = .fieldAddr t x f)(r:Rel w0 B σ a w L)(h:eX P K T O σ o=some u):fL P K w0 B σ o a w u:=by
 simp only[eX,en]at h;have hx:=r.op x;split at h
 .rename_i fs hd
  obtain⟨ti,h1,h2⟩:=xy hd;have hu:P.underlying t=some (.struct fs):=by rw[hT.nK h1,h2]
  split at h
  .rename_i fd GA
   split at h
   .rename_i ft GD
    split at h
    .cases h
    .rename_i fK
     have Y3:¬ft.i.size=0:=fun e=>fK (beq_iff.2 e)
     have gV:∀ b off,a.eval x = .pointer (some ⟨b,off,none⟩)->(execOp a.eval o).run P w = .ok (.value (.pointer (some ⟨b,off+fd.offset,none⟩))) w:=by
      intro b off e;simp only[execOp,en,e,Instr.fieldAt,Instr.sureAddr,fieldPlace,Sem.run_bind,run_underlying hu,Result.andThen_ok,GA,Sem.run_pure,rB hT w GD,Y3,aL,Addr.add_lit]
     split at h
     .rename_i id off hv
      rw[hv]at hx;obtain⟨k1,b,k2,k3⟩:=hx;cases h;exact fL.pure r (gV b off k3) rfl ⟨k1,b,k2,rfl⟩
     .rename_i id sz i j hv
      rw[hv]at hx;obtain⟨k1,b,n,c,k2,k3⟩:=hx;cases h;exact fL.pure r (gV b _ k3) rfl ⟨k1,b,n,c,k2,by rw[ck]⟩
     .rename_i m el hv
      rw[hv]at hx;split at h
      .rename_i hle
       have M8:=b7 hle;cases h;generalize hq:a.eval x=q at hx;cases hx with
       | ref _ _ b off g hb ek hl cell kk=>
        refine fL.pure r (gV b off hq) rfl (.ref _ _ b _ (fun j=>g (fd.offset+j)) hb ek (fun j hj=>hl _ ae) (fun j hj=>?_) (fun j hj=>kk _ ae));have:=cell (fd.offset+j) ae;rwa[<-ck]at this
      .cases h
     .cases h
   .cases h
  .cases h
 .cases h
end
open Go.RowKit
section
variable {P:Program} {K:World->Prop} {T:List TI} {O:mc} {w0:World} {B:Nat->Prop} {σ:PS} {o:Oper} {a:Act} {w:World} {L:Lk} {u:Out}
theorem aaK(hT:iC P T){t:TypeId}{x:Operand}{ti:TI}(mC:iT T t=some ti)(en:o.op = .load t x)(r:Rel w0 B σ a w L)(h:A6 ti (σ.read (σ.op x) ti.i.size)=some u)(ho:∀ q,q ∈ u.fo->q):fL P K w0 B σ o a w u:=by
 cases hr:σ.read (σ.op x) ti.i.size with
 | none=>rw[hr]at h;cases h
 | some y=>
  obtain⟨l,is,fo⟩:=y;rw[hr]at h;simp only[A6]at h;by_cases ha:ti.isAgg=true
  .rw [aC ha]at h
   cases h;obtain⟨b,q,vs,e,h1,h2,h3⟩:=r.read (r.op x) hr ho;refine fL.pure r (v:=.agg vs.toArray) ?_ rfl h1.agg;simp only[execOp,en,e,Instr.loadAt,Instr.sureAddr,Sem.run_bind,Sem.run_pure,Result.andThen_ok,QH hT w mC ha b q vs h2 h3]
  .rw [aB ha]at h
   have C1:ti.isAgg=false:=by simpa using ha
   split at h
   .rename_i p
    cases h;obtain⟨b,q,vs,e,h1,h2,h3⟩:=r.read (r.op x) hr ho;obtain⟨y,ys,rfl,hy,yr⟩:=h1.iw;refine fL.pure r (v:=y) ?_ rfl hy;have hc:=h3 0 y rfl;simp only[execOp,en,e,Instr.loadAt,Instr.sureAddr,Sem.run_bind,Sem.run_pure,Result.andThen_ok,Ji hT w mC C1 b q y (by simpa using hc)]
   .cases h
theorem Xn(hT:iC P T){t:TypeId}{x:Operand}(en:o.op = .load t x)(r:Rel w0 B σ a w L)(h:eX P K T O σ o=some u)(ho:∀ q,q ∈ u.fo->q):fL P K w0 B σ o a w u:=by
 simp only[eX,en,CI]at h;split at h
 .rename_i ti mC
  split at h
  .rename_i id i n kY
   by_cases ha:ti.isAgg=true
   .rw [aC ha]at h;cases h
   .rw [aB ha]at h
    have C1:ti.isAgg=false:=by simpa using ha
    cases h;have hx:=r.op x;cases hp:σ.op x with
    | lr id' sz i' j=>
     rw[hp]at kY hx;simp only[wT]at kY;split at kY
     .rename_i nl T1 T0 n' sz' len el fQ
      split at kY
      .rename_i hc
       simp only[bc,bH]at kY;obtain⟨rfl,rfl,rfl⟩:=kY;simp only[aX]at hc;have e1:=beq_iff.1 hc.1;have e2:=beq_iff.1 hc.2;subst e1 e2;have hi:i'<n':=ho _ aj;obtain⟨b,c,cur,f,h1,h2,h3,h4,h5,h6,h7,h8,h9,qY,rW⟩:=r.hb id' _ fQ;obtain⟨k1,b',n2,c2,k2,k3⟩:=hx;rw[h1]at k2;cases k2;refine fL.pure r (v:=L.eK id' i') ?_ rfl ⟨k1,rfl⟩;have gG:w.cell? ⟨b,i'*1+0,none⟩=some (L.eK id' i'):=by
        simp only[World.cell?,h2];simpa using h6 i' hi aj 
       simp only[execOp,en,k3,Instr.loadAt,Instr.sureAddr,Sem.run_bind,Sem.run_pure,Result.andThen_ok,Ji hT w mC C1 b _ _ gG]
      .cases kY
     .cases kY
    | _=>rw[hp]at kY;cases kY
  .exact aaK hT mC en r h ho
 .cases h
theorem PL{bs br:Nat->Prop}{l m:List E}{vs us:List Value}(h:fM bs br w l vs)(k:fM bs br w m us)(off:Nat):fM bs br w (uR l off m) (vs.take off++us++vs.drop (off+us.length)):=by
 unfold uR;rw[k.len];exact((h.take off).app k).app (h.drop _)
theorem ab3{q:E->Bool}{l m:List E}(h:l.all q=true)(k:m.all q=true)(off:Nat):(uR l off m).all q=true:=by
 unfold uR;rw[List.all_append,List.all_append,k];have h1:(l.take off).all q=true:=bg.2 fun x hx=>bg.1 h x (dD hx)
 have h2:(l.drop (off+m.length)).all q=true:=bg.2 fun x hx=>bg.1 h x (agz hx)
 rw[h1,h2];rfl
theorem Xx(hT:iC P T){t:TypeId}{x y:Operand}(en:o.op = .store t x y)(r:Rel w0 B σ a w L)(h:eX P K T O σ o=some u)(ho:∀ q,q ∈ u.fo->q):fL P K w0 B σ o a w u:=by
 simp only[eX,en,CL]at h;have hx:=r.op x;have hy:=r.op y;split at h
 .rename_i ti mC
  split at h
  .
   rename_i id off e ny AF;rw[ny]at hx;rw[AF]at hy;split at h
   .rename_i T1 l m fQ hm
    split at h
    .rename_i hc
     cases h;simp only[aX]at hc;have c1:=beq_iff.1 hc.1.1;have c2:=b7 hc.1.2;obtain⟨b,vs,h1,h2,h3,h4,h5⟩:=r.hb id _ fQ;obtain⟨k1,b',k2,k3⟩:=hx;rw[h1]at k2;cases k2;obtain⟨q1,q2⟩:=hy.cells hm;have ht:=Touch.setRow (L:=L) ((h2 b).2 rfl) (fun x hx=>(r.hw id x hx).2) (vs.take off++(a.eval y).cells.toList++vs.drop (off+(a.eval y).cells.toList.length)).toArray;have hl:=ht.later (L.val id) (L.eK id);refine⟨undef,_,_,.inr ⟨?_,rfl⟩,r.pW id (.cells T1 (uR l off m)) _ k1 ht ⟨b,_,by rw[Lk.kH];exact h1,fun x=>(Lk.oe x).trans (h2 x),setRow_heap w b _ _ T1 _ h3,(PL h4 q1 off).mono fun _ _=>hl.rep,?_⟩ ?_,.any _⟩
     .have hr:=Jj hT w mC b off T1 vs.toArray h3 (a.eval y) (by rw[q1.len,c1]) (by rw[q1.len,ag2,h4.len];exact c2) q2
      simp only[execOp,en,k3,Instr.storeAt,Instr.sureAddr,Sem.run_bind,Sem.run_pure,Result.andThen_ok,hr]
     .intro v hv
      simp only[cT]at hv;rcases hv with(hv|hv)|hv
      .exact h5 v (dD hv)
      .exact q2 v hv
      .exact h5 v (agz hv)
     .intro hn
      have:=hc.2;rw[hn]at this;exact ab3 (r.hl hn id _ fQ) (by simpa using this) off
    .cases h
   .cases h
  .
   rename_i id sz i j e ny AF;rw[ny]at hx;rw[AF]at hy;split at h
   .rename_i nl T1 n s el m fQ hm
    split at h
    .rename_i hc
     cases h;simp only[aX]at hc;have c1:=beq_iff.1 hc.1.1.1.1;have c2:=beq_iff.1 hc.1.1.1.2;have c3:=b7 hc.1.1.2;subst c2;have hi:i<n:=ho _ aj;obtain⟨f,h1,h2,h3⟩:=r.hb id _ fQ;obtain⟨k1,b',n',c',k2,k3⟩:=hx;rcases h1 with⟨h1,_⟩|⟨b,c,cur,h1,hg,lj,kv,jB,gG,fE⟩
     .rw [k2]at h1;cases h1
     .rw [k2]at h1
      cases h1;obtain⟨q1,q2⟩:=hy.cells hm;have jZ:L.own id b':=(h2 b').2 (by rw[k2];rfl);have agj:i*s+s<=cur.size:=by
       rw[jB];have:=a6 s (show i+1<=c' by omega);rwa[aO,aK]at this
      have jV:i*s+j+(a.eval y).cells.toList.length<=cur.size:=by rw[q1.len];omega
      have ht:=Touch.setRow (L:=L) jZ (fun x hx=>(r.hw id x hx).2) (cur.toList.take (i*s+j)++(a.eval y).cells.toList++cur.toList.drop (i*s+j+(a.eval y).cells.toList.length)).toArray;have hl:=ht.later (L.val id) (L.eK id);refine⟨undef,_,_,.inr ⟨?_,rfl⟩,r.pW id _ _ k1 ht ⟨fun i' j'=>if i'=i/\j<=j'/\j'<j+m.length then(a.eval y).cells.toList.getD (j'-j) undef else f i' j',?_,fun x=>?_,?_⟩ ?_,.any _⟩
      .have hr:=Jj hT w mC b' (i*s+j) T1 cur hg (a.eval y) (by rw[q1.len,c1]) jV q2
       simp only[execOp,en,k3,Instr.storeAt,Instr.sureAddr,Sem.run_bind,Sem.run_pure,Result.andThen_ok,hr]
      .rw [Lk.kH]
       refine .inr ⟨b',c',_,k2,setRow_heap w b' _ _ T1 _ hg,lj,kv,?_,?_,?_⟩
       .simp only[ag2,bO,bB,dH,cQ]
        have YD:=jV;simp only[cQ]at YD;rw[cw ae];omega
       .intro i' j' kx nS
        obtain⟨o1,o2⟩:=gG i' j' kx nS;have hlen:i'*s+j'<cur.size:=by
         rw[jB];have:=a6 s (show i'+1<=c' by omega);rw[aO,aK]at this;omega
        have same:i'≠i->i'*s+j'<i*s\/i*s+s<=i'*s+j':=by
         intro fK;rcases Nat.lt_or_gt_of_ne fK with ek|ek
         .left
          have:=a6 s (show i'+1<=i from ek);rw[aO,aK]at this;omega
         .right
          have:=a6 s (show i+1<=i' from ek);rw[aO,aK]at this;omega
        simp only[ahg];rw[List.append_assoc,ag1,bB,cQ,cw ae];by_cases ik:i'=i/\j<=j'/\j'<j+m.length
        .obtain ⟨rfl,p1,p2⟩:=ik
         rw[aB ae,du (by rw[q1.len];omega)];have e1:i'*s+j'-(i'*s+j)=j'-j:= ae ;have ek:j'-j<(a.eval y).cells.toList.length:=by rw[q1.len];omega
         rw[aC ⟨rfl,p1,p2⟩,e1,aF,aM ek];exact⟨rfl,q2 _ (bR ek)⟩
        .rw [aB ik]
         refine⟨?_,o2⟩;by_cases eB:i'*s+j'<i*s+j
         .rw [aC eB,dp,aC eB]
          simpa using o1
         .rw [aB eB,dG,dF]
          .have:i*s+j+(a.eval y).cells.toList.length+(i'*s+j'-(i*s+j)-(a.eval y).cells.toList.length)=i'*s+j':=by
            rw[q1.len];by_cases As:i'=i
            .subst As;omega
            .have:=same As;omega
           rw[this];simpa using o1
          .rw [q1.len]
           by_cases As:i'=i
           .subst As;omega
           .have:=same As;omega
       .intro hn v hv
        simp only[List.mem_toArray,cT]at hv;rcases hv with(hv|hv)|hv
        .exact fE hn v (by have:=dD hv;simpa using this)
        .obtain ⟨q,hq⟩:=cG.1 hv
         have rk:q<m.length:=by rw[<-q1.len];exact(bA.1 hq).1
         have Y0:m.all E.jj=true:=by have:=hc.1.2;rw[hn]at this;simpa using this
         exact(q1.rep q _ v (aM rk) hq).jj (bg.1 Y0 _ (bR rk))
        .exact fE hn v (by have:=agz hv;simpa using this)
      .rw [Lk.kH]
       exact(Lk.oe x).trans (h2 x)
      .intro i' j' kx nS
       refine(fun(q:eo _ _ _ _ _/\_)=>⟨hl.rep q.1,q.2⟩) (?_:_/\_);dsimp only;by_cases ik:i'=i/\j<=j'/\j'<j+m.length
       .rw [aC ik,aC ik]
        have Df:j'-j<m.length:= ae ;have AN:j'-j<(a.eval y).cells.toList.length:=by rw[q1.len];omega
        rw[aF,aM Df,aF,aM AN];exact⟨q1.rep _ _ _ (aM Df) (aM AN),bg.1 hc.2 _ (bR Df)⟩
       .rw [aB ik,aB ik]
        exact h3 i' j' kx nS
      .intro hn
       have:=r.hl hn id _ fQ;exact this
    .cases h
   .cases h
  .
   rename_i id i id' k ny AF;rw[ny]at hx;rw[AF]at hy;split at h
   .rename_i nl T1 T0 n sz len el k' fQ
    split at h
    .rename_i hc
     cases h;simp only[aX]at hc;have c1:=beq_iff.1 hc.1;have c2:=beq_iff.1 hc.2;subst c1;have e1:i=k':=ho _ aj;have e2:k=k':=ho _ aj;have hk:k'<n:=ho _ aj;subst e1 e2;obtain⟨b,c,cur,f,h1,h2,h3,h4,h5,h6,h7,h8,h9,qY,rW⟩:=r.hb id _ fQ;obtain⟨k1,b',n',c',k2,k3⟩:=hx;obtain⟨_,Du⟩:=hy;rw[h1]at k2;cases k2;have uD:(L.eK id k).oneCell'=true/\nY (L.eK id k)=false/\(L.eK id k).cells = #[L.eK id k]:=by
      rcases(h8 k hk).1 with⟨e,_⟩|⟨_,_,_,e,_⟩<;>rw[e]<;>exact⟨rfl,rfl,rfl⟩
     have jZ:L.own id b:=(h9 b).2 (.inl rfl);have ht:=Touch.setRow (L:=L) jZ (fun x hx=>(r.hw id x hx).2) (cur.toList.take (k*1+0)++(a.eval y).cells.toList++cur.toList.drop (k*1+0+(a.eval y).cells.toList.length)).toArray;have hl:=ht.later (L.val id) (L.eK id);have r7:(a.eval y).cells.toList=[L.eK id k]:=by rw[Du,uD.2.2]
     have MQ:(cur.toList.take (k*1+0)++(a.eval y).cells.toList++cur.toList.drop (k*1+0+(a.eval y).cells.toList.length)).toArray=cur.setIfInBounds k (L.eK id k):=by
      rw[r7];apply cH;simp only[bD,bd,ahc,Array.toList_setIfInBounds];rw[List.set_eq_take_append_cons_drop,aC (by simpa using( ae :k<cur.size))];simp
     rw[MQ]at ht hl;have C9:∀ x,x≠b->(w.setRow b (cur.setIfInBounds k (L.eK id k))).heap[x]? = w.heap[x]?:=fun x hx=>setRow_other w b x _ hx
     refine⟨undef,_,_,.inr ⟨?_,rfl⟩,r.pW id _ _ k1 ht ⟨b,c,cur.setIfInBounds k (L.eK id k),f,by rw[Lk.kH];exact h1,setRow_heap w b _ _ T1 _ h2,h3,h4,by simpa using h5,?_,?_,?_,?_,?_,?_⟩ ?_,.any _⟩
     .have hr:=Jj hT w mC b (k*1+0) T1 cur h2 (a.eval y) (by rw[r7];simpa using c2.symm) (by rw[r7];simp;omega) (by rw[r7];simpa using uD.1)
      rw[MQ]at hr;simp only[execOp,en,k3,Instr.storeAt,Instr.sureAddr,Sem.run_bind,Sem.run_pure,Result.andThen_ok,hr]
     .intro q hq _
      rw[Lk.nh];by_cases pe:q=k
      .subst pe
       have:q<cur.size:= ae ;simp[this]
      .rw [Array.getElem?_setIfInBounds_ne (fun e=>pe e.symm)]
       exact h6 q hq (by simpa using fun e=>pe e.symm)
     .intro v hv
      rcases Array.mem_or_eq_of_mem_setIfInBounds hv with hv|hv
      .exact h7 v hv
      .subst hv;exact⟨uD.1,uD.2.1⟩
     .intro q hq
      obtain⟨p1,p2⟩:=h8 q hq;rw[Lk.nh];exact⟨p1.block fun x hx=>C9 x fun e=>rW q hq (e▸hx),fun i j hi hj=>⟨hl.rep (p2 i j hi hj).1,(p2 i j hi hj).2⟩⟩
     .intro x
      rw[Lk.oe];refine(h9 x).trans ?_;simp only[Lk.nh]
     .simp only[Lk.nh];exact qY
     .simp only[Lk.nh];exact rW
     .intro hn
      have:=r.hl hn id _ fQ;exact this
    .cases h
   .cases h
  .cases h
 .cases h
theorem W9(hT:iC P T){t:TypeId}(en:o.op = .alloc t)(r:Rel w0 B σ a w L)(h:eX P K T O σ o=some u):fL P K w0 B σ o a w u:=by
 simp only[eX,en]at h;split at h
 .rename_i ti mC
  split at h
  .rename_i z hz
   obtain⟨id,hd,iz,fE,rfl⟩:=wF h;obtain⟨zv,si,nB⟩:=B6 hz;obtain⟨q1,q2⟩:=nB (bad B L) (fH L) w;obtain⟨L',r',hp⟩:=r.Pk id t z zv iz q1 q2 (by simpa[Bx.nl]using fE);refine⟨_,_,L',.inl ?_,r',hp⟩;simp only[execOp,en,Instr.alloc,Sem.run_bind,QI hT w mC si,Result.andThen_ok,newVar,newRow,run_newObj_alloc,Sem.run_pure]
  .cases h
 .cases h
theorem Xd{t:TypeId}{x:Operand}(en:o.op = .box t x)(r:Rel w0 B σ a w L)(h:eX P K T O σ o=some u):fL P K w0 B σ o a w u:=by
 simp only[eX,en]at h;have hx:=r.op x;split at h
 .rename_i e hv
  rw[hv]at hx;split at h
  .rename_i l hl
   obtain⟨id,hd,iz,fE,rfl⟩:=wF h;obtain⟨q1,q2⟩:=hx.cells hl;obtain⟨L',r',hp⟩:=r.Pk id t l (a.eval x) iz q1 q2 (by simpa[Bx.nl]using fE);refine⟨_,_,L',.inl ?_,r',hp⟩;simp only[execOp,en,Instr.box,Sem.run_bind,Result.andThen_ok,newVar,newRow,run_newObj_alloc,Sem.run_pure]
  .cases h
 .cases h
end
open Go.RowKit
theorem WO(us:List Value):∀ (off k:Nat) (cs:Array Value),off+k+us.length<=cs.size ->
 (us.zipIdx k).foldl (fun cs (c:Value×Nat)=>cs.setIfInBounds (off+c.2) c.1) cs=(cs.toList.take (off+k)++us++cs.toList.drop (off+k+us.length)).toArray:=by
 induction us with
 | nil=>intro off k cs h;simp
 | cons x us ih=>
  intro off k cs h;simp only[List.zipIdx_cons,List.foldl_cons];rw[ih off (k+1) _ (by simp at h ⊢;omega)];apply cH;simp only[cD]at h;obtain⟨A,y,D,jB,hA⟩:∃ A y D,cs.toList=A++y::D/\A.length=off+k:=by
   have ek:off+k<cs.toList.length:= av ;refine⟨cs.toList.take (off+k),cs.toList[off+k],cs.toList.drop (off+k+1),?_,by rw[bB];omega⟩;rw[<-agC ek,List.take_append_drop]
  simp only[Array.toList_setIfInBounds,cD,jB,<-hA];rw[List.set_append_right _ _ (aG _),cW,List.set_cons_zero,
   show off+(k+1)+us.length=A.length+(us.length+1)by omega,show off+(k+1)=A.length+1 by omega,
   List.take_length_add_append,List.drop_length_add_append,List.take_left,List.drop_length_add_append]
  simp
theorem WK(place:Nat->Option (Nat×Nat))(cs:Array Value)(i:Nat)(v:Value)(rest:List (Nat×Value))(off:Nat)(hp:place i=some (off,v.cells.toList.length))(jV:off+v.cells.toList.length<=cs.size):
 Instr.fill place cs ((i,v)::rest)=Instr.fill place (cs.toList.take off++v.cells.toList++cs.toList.drop (off+v.cells.toList.length)).toArray rest:=by
 have h1:¬(v.cells.size≠v.cells.toList.length\/off+v.cells.size>cs.size):=by simp at jV ⊢;omega
 have hf:=WO v.cells.toList off 0 cs (by simpa using jV);simp only[bd]at hf;have h2:(v.cells.zipIdx.foldl (fun cs (c,j)=>cs.setIfInBounds (off+j) c) cs)=(cs.toList.take off++v.cells.toList++cs.toList.drop (off+v.cells.toList.length)).toArray:=by
  rw[<-hf,<-Array.foldl_toList,Array.toList_zipIdx]
 rw[Instr.fill,hp];simp only;rw[aB (by simpa using h1),h2]
section
variable {P:Program} {K:World->Prop} {T:List TI} {O:mc} {w0:World} {B:Nat->Prop} {σ:PS} {o:Oper} {a:Act} {w:World} {L:Lk} {u:Out}
theorem FY(r:Rel w0 B σ a w L){place:Nat->Option (Nat×Nat)}{ps:List (Nat×Operand)}{l m:List E}{cs:Array Value}(h:ns σ place l ps=some m)
 (hr:fM (bad B L) (fH L) w l cs.toList) (h1:∀ u ∈ cs,u.oneCell'=true):
 ∃ cs',Instr.fill place cs (ps.map fun x=>(x.1,a.eval x.2))=some cs'/\fM (bad B L) (fH L) w m cs'.toList/\(∀ u ∈ cs',u.oneCell'=true):=by
 induction ps generalizing l cs with
 | nil=>
  simp only[ns]at h;cases h;exact⟨cs,rfl,hr,h1⟩
 | cons p ps ih=>
  obtain⟨i,x⟩:=p;simp only[ns]at h;have hx:=r.op x;split at h
  .rename_i off size e hp hv
   rw[hv]at hx;split at h
   .rename_i q hq
    split at h
    .rename_i hc
     simp only[aX]at hc;have c1:=beq_iff.1 hc.1;have c2:=b7 hc.2;obtain⟨q1,q2⟩:=hx.cells hq;have hlen:(a.eval x).cells.toList.length=size:=by rw[q1.len,c1]
     have vJ:=hr.len;rw[agK,WK place cs i (a.eval x) _ off (by rw[hlen];exact hp) (by rw[q1.len];simp at vJ;omega)];refine ih h (PL hr q1 off) fun v hv=>?_
     simp only[List.mem_toArray,cT]at hv;rcases hv with(hv|hv)|hv
     .exact h1 v (by have:=dD hv;simpa using this)
     .exact q2 v hv
     .exact h1 v (by have:=agz hv;simpa using this)
    .cases h
   .cases h
  .cases h
theorem PF(ps:Array (Nat×Operand))(a:Act):(ps.map fun(x:Nat×Operand)=>(x.1,a.eval x.2)).toList=ps.toList.map fun x=>(x.1,a.eval x.2):= aj 
theorem abN{P:Program}(hT:iC P T){fs:List Field}{pl:List (Nat×Nat)}(h:Bu T fs=some pl):fs.mapM (fun f=>(P.info? f.type).map fun i=>(f.offset,i.size))=some pl:=by
 induction fs generalizing pl with
 | nil=>simp only[Bu]at h;cases h;rfl
 | cons f fs ih=>
  simp only[Bu]at h;split at h
  .rename_i ti l h1 h2
   cases h;simp[List.mapM_cons,hT.inf h1,ih h2]
  .cases h
theorem Xe(hT:iC P T){t:TypeId}{ps:Array (Nat×Operand)}(en:o.op = .build t ps)(r:Rel w0 B σ a w L)(h:eX P K T O σ o=some u):fL P K w0 B σ o a w u:=by
 simp only[eX,en]at h;have main:∀ (l:List E) (cs:Array Value),P.built t (ps.toList.map fun x=>(x.1,a.eval x.2))=some cs->fM (bad B L) (fH L) w l cs.toList->u={ r:=.e (.agg l) }->fL P K w0 B σ o a w u:=by
  intro l cs hb hr hu;subst hu;have gV:=run_build (P:=P) w t (ps.map fun(x:Nat×Operand)=>(x.1,a.eval x.2)) cs (by rw[PF];exact hb);refine fL.pure r (v:=.agg cs) ?_ rfl (by have:=hr.agg;rwa[Array.toArray_toList]at this);simp only[execOp,en,Sem.run_bind,gV,Result.andThen_ok,Sem.run_pure]
 split at h
 .rename_i ti mC
  split at h
  .rename_i z hz
   obtain⟨zv,si,nB⟩:=B6 hz;obtain⟨q1,q2⟩:=nB (bad B L) (fH L) w;split at h
   .rename_i fs hd
    split at h
    .rename_i pl vV
     obtain⟨l,hl,rfl⟩:=b6.1 h;obtain⟨cs,p1,p2,_⟩:=FY r hl q1 (fun u hu=>q2 u (by simpa using hu));refine main l cs ?_ p2 rfl;unfold Program.built;rw[hT.inf mC,hT.nK mC,hd];simp only[si,abN hT vV];have:(fun x:Nat=>pl.toArray[x]?)=fun x=>pl[x]?:=by funext x;simp
     rw[this];exact p1
    .cases h
   .rename_i n e hd
    split at h
    .rename_i te kZ
     obtain⟨l,hl,rfl⟩:=b6.1 h;obtain⟨cs,p1,p2,_⟩:=FY r hl q1 (fun u hu=>q2 u (by simpa using hu));refine main l cs ?_ p2 rfl;unfold Program.built;rw[hT.inf mC,hT.nK mC,hd];simp only[si,hT.inf kZ];exact p1
    .cases h
   .cases h
  .cases h
 .cases h
theorem Qr{α:Type}(n:Nat)(l:List α):(rep n l).length=n*l.length:=by
 induction n with
 | zero=>simp[rep]
 | succ n ih=>simp only[rep,bO,ih,aO,aK];omega
theorem adv{α:Type}(n:Nat)(l:List α)(q:Nat)(h:q<n*l.length):(rep n l)[q]? = l[q%l.length]?:=by
 induction n generalizing q with
 | zero=>simp at h
 | succ n ih=>
  simp only[rep];rw[aO,aK]at h;by_cases hq:q<l.length
  .rw [du hq,bn hq]
  .rw [dG ae,ih _ ae]
   congr 1;exact(Nat.mod_eq_sub_mod ae).symm
theorem adw{bs br:Nat->Prop}{z:List E}{zs:Array Value}(h:fM bs br w z zs.toList)(n:Nat):fM bs br w (rep n z) ((Array.range (n*zs.size)).map (zs[· % zs.size]!)).toList:=by
 have hl:=h.len;simp only[cQ]at hl;refine⟨by simp[Qr,hl],fun i p x hp hx=>?_⟩;have hi:i<n*zs.size:=by
  have:=(bA.1 hx).1;simpa using this
 have hz:0<zs.size:=by
  rcases dt zs.size with h0|h0
  .rw [h0]at hi;simp at hi
  .exact h0
 rw[adv _ _ _ (by rw[<-hl];exact hi),<-hl]at hp;have ek:=aS i hz;simp[hi]at hx;subst hx;rw[agP zs _ ek];exact h.rep _ p _ hp (by simp[ek])
theorem Q3(hB:∀ b,B b->b<w0.heap.size)(r:Rel w0 B σ a w L)(e:TypeId)(n sz:Nat)(l:List E)(cs:Array Value)(nl:Bool)(hr:fM (bad B L) (fH L) w l cs.toList)(h1:∀ u ∈ cs,u.oneCell'=true)(hlen:cs.size=n*sz)
 (pG:n<=9223372036854775807) (fE:nl=true->l.all E.jj=true) (rh:l.all (E.nr 2)=true):
 Rel w0 B σ a (w.alloc (.cells cs e)) L/\eo (bad B L) (fH L) (w.alloc (.cells cs e)) (.sl nl n sz fun i j=>l.getD (i*sz+j) (.v (.bool false))) (.slice (some ⟨w.heap.size,0,none⟩) n n):=by
 have hb:Below w.heap.size w (w.alloc (.cells cs e)):=(Below.refl _ _).alloc (aG _) _;have hl:oP L w L (w.alloc (.cells cs e)):=⟨hb.size,fun _ _ h=>h,fun x hx _=>hb.block x hx⟩
 refine⟨r.later hb,?_⟩;have ik:∀ i j,i<n->j<sz->i*sz+j<cs.size:=by
  intro i j hi hj;rw[hlen];have:=a6 sz (show i+1<=n from hi);rw[aO,aK]at this;omega
 have YV:=hr.len;simp only[cQ]at YV;refine .sl nl n sz _ _ n (fun i j=>cs.getD (i*sz+j) undef) (aG _) pG (fun h=>by cases h) (fun i j hi hj=>?_) (fun i j hi hj=>?_) (fun i j hi hj=>?_) (fun i j hi hj=>?_)
 .have hq:=ik i j hi hj
  have e1:cs.getD (i*sz+j) undef=cs[i*sz+j]:=by simp[hq]
  rw[e1];refine⟨h1 _ (ahf hq),fun lN=>?_⟩;have pH:i*sz+j<l.length:= ae ;exact(hr.rep (i*sz+j) _ _ (aM pH) (by simp[hq])).jj (bg.1 (fE lN) _ (bR pH))
 .have hq:=ik i j hi hj
  have pH:i*sz+j<l.length:= ae ;rw[aF,aM pH];exact bg.1 rh _ (bR pH)
 .have hq:=ik i j hi hj
  refine⟨w.heap.size,0,rfl,fun r6=>?_, aj,?_⟩
  .rcases r6 with hx|⟨id,hx⟩
   .have:=hB _ hx;have:=r.he.size;omega
   .have:=(r.hw id _ hx).2;omega
  .rw [bK,World.cell?_alloc_new]
   simp[hq]
 .have hq:=ik i j hi hj
  have pH:i*sz+j<l.length:= ae ;have e1:cs.getD (i*sz+j) undef=cs[i*sz+j]:=by simp[hq]
  rw[e1,aF,aM pH];exact hl.rep (hr.rep (i*sz+j) _ _ (aM pH) (by simp[hq]))
theorem aaB{l:List E}{vs:List Value}{bs br:Nat->Prop}{w:World}(h:fM bs br w l vs)(hl:l.all E.jj=true):∀ v ∈ vs,nY v=false:=by
 intro v hv;obtain⟨i,hi⟩:=cG.1 hv;obtain⟨sY,_⟩:=bA.1 hi;have vN:i<l.length:=by have:=h.len;omega
 exact(h.rep i _ v (aM vN) hi).jj (bg.1 hl _ (bR vN))
theorem Xf(hT:iC P T)(hB:∀ b,B b->b<w0.heap.size){t:TypeId}{n:Nat}{ps:Array (Nat×Operand)}(en:o.op = .buildSlice t n ps)(r:Rel w0 B σ a w L)(h:eX P K T O σ o=some u):fL P K w0 B σ o a w u:=by
 simp only[eX,en]at h;split at h
 .rename_i tt na
  split at h
  .rename_i e hd
   split at h
   .rename_i te kZ
    split at h
    .rename_i z hz
     split at h
     .rename_i hc
      simp only[aX]at hc;have c1:=beq_iff.1 hc.1.1;have c2:=b7 hc.2;obtain⟨zv,si,nB⟩:=B6 hz;obtain⟨q1,q2⟩:=nB (bad B L) (fH L) w;have hu:P.underlying t=some (.slice e):=by rw[hT.nK na,hd]
      have wj:zv.cells.size=te.i.size:=by have:=q1.len;simp only[cQ]at this;omega
      obtain⟨l,hl,h⟩:=ahh.1 h;obtain⟨cs,p1,p2,p3⟩:=FY r hl (adw q1 n) (fun v hv=>by
       simp only[Array.mem_map,ag3]at hv;obtain⟨q,hq,rfl⟩:=hv;have yx:0<zv.cells.size:=by
        rcases dt zv.cells.size with h0|h0
        .rw [h0]at hq;simp at hq
        .exact h0
       rw[agP zv.cells _ (aS q yx)];exact q2 _ aj)
      have hlen:l.length=n*te.i.size:=by
       have:∀ (ps:List (Nat×Operand)) (l m:List E),ns σ (fun i=>some (i*te.i.size,te.i.size)) l ps=some m->m.length=l.length:=by
        intro ps
        induction ps with
        | nil=>intro l m h;simp only[ns]at h;cases h;rfl
        | cons p ps ih=>
         intro l m h;obtain⟨i,x⟩:=p;simp only[ns]at h;split at h
         .split at h
          .split at h
           .rename_i hc
            simp only[aX]at hc;have:=b7 hc.2;rw[ih _ _ h];simp[uR];omega
           .cases h
          .cases h
         .cases h
       rw[this _ _ _ hl,Qr,c1]
      have jB:cs.size=n*te.i.size:=by have:=p2.len;simp only[cQ]at this;omega
      have MU:Instr.fill (fun i=>some (i*te.i.size,te.i.size)) ((Array.range (n*te.i.size)).map (zv.cells[· % zv.cells.size]!)) (ps.map fun(x:Nat×Operand)=>(x.1,a.eval x.2)).toList=some cs:=by
       rw[PF,<-wj];rw[<-wj]at p1;exact p1
      have gV:(execOp a.eval o).run P w = .ok (.value (.slice (some ⟨w.heap.size,0,none⟩) n n)) (w.alloc (.cells cs e)):=by
       have uz:¬(n*te.i.size>16777216):= ae ;by_cases h0:n*te.i.size=0
       .have e0:∀ g:Nat->Value,(Array.range 0).map g = #[]:=fun g=>by simp[Array.range]
        have MV:=MU;rw[h0,e0]at MV;have z24:¬(0>2^24):= ag ;simp only[execOp,en,Instr.buildSlice,Sem.run_bind,run_underlying hu,Result.andThen_ok,rB hT w kZ,uz,aL,h0,z24,aW,Sem.run_pure,e0,MV,newRow,run_newObj_alloc]
       .simp only[execOp,en,Instr.buildSlice,Sem.run_bind,run_underlying hu,Result.andThen_ok,rB hT w kZ,uz,aL,h0,Sem.run_pure,QI hT w kZ si,MU,newRow,run_newObj_alloc]
      have iq:n<=9223372036854775807:=by
       have:=ahe n (b7 hc.1.2);omega
      by_cases rh:l.all (E.nr 2)=true
      .simp only[rh,dr,aT,aL]at h
       split at h
       .
        obtain⟨id,MS,iz,fE,rfl⟩:=wF h;have hb:Below w.heap.size w (w.alloc (.cells cs e)):=(Below.refl _ _).alloc (aG _) _;have ht:Touch L w id (fun x=>x=w.heap.size) (w.alloc (.cells cs e)):=⟨fun x hx=>⟨.inr ae, av⟩,hb.size,fun x hx _=>hb.block x hx,rfl,rfl,rfl⟩
        have ek:=ht.later (.slice (some ⟨w.heap.size,0,none⟩) n n) (fun _=>undef);have vP:∀ i j,i<n->j<te.i.size->i*te.i.size+j<n*te.i.size:=by
         intro i j hi hj;have:=a6 te.i.size (show i+1<=n from hi);rw[aO,aK]at this;omega
        refine⟨_,_,_,.inl gV,r.new id _ (fun x=>x=w.heap.size) (.slice (some ⟨w.heap.size,0,none⟩) n n) (fun _=>undef) _ iz (fun x hx=>by subst hx;simp) hb
         ⟨fun i j=>cs.getD (i*te.i.size+j) undef,.inr ⟨w.heap.size,n,cs,Lk.kH,heap_alloc_new w _,aG _,by unfold maxLen;omega,jB,fun i j hi hj=>?_,fun hn u hu=>?_⟩,fun x=>?_,fun i j hi hj=>?_⟩ fE,Lk.uY,Lk.kH.symm⟩
        .have hq:i*te.i.size+j<cs.size:=by rw[jB];exact vP i j hi hj
         have e1:cs.getD (i*te.i.size+j) undef=cs[i*te.i.size+j]:=by simp[hq]
         show cs[i*te.i.size+j]? = some (cs.getD (i*te.i.size+j) undef)/\(cs.getD (i*te.i.size+j) undef).oneCell'=true;rw[e1];exact⟨by simp[hq],p3 _ aj⟩
        .exact aaB p2 hn u (by simpa using hu)
        .rw [Lk.oe,Lk.kH]
         simp only[Value.ownBlock,bc];exact eq_comm
        .have hq:i*te.i.size+j<cs.size:=by rw[jB];exact vP i j hi hj
         have rk:i*te.i.size+j<l.length:=by rw[hlen];exact vP i j hi hj
         have e1:cs.getD (i*te.i.size+j) undef=cs[i*te.i.size+j]:=by simp[hq]
         simp only[aF,aM rk,Option.getD_some,e1];exact⟨ek.rep (p2.rep _ _ _ (aM rk) (by simp[hq])),bg.1 rh _ (bR rk)⟩
       split at h
       .rename_i C2
        cases h;obtain⟨r',hp⟩:=Q3 hB r e n te.i.size l cs true p2 p3 jB iq (fun _=>C2) rh;exact⟨_,_,L,.inl gV,r',hp⟩
       .cases h
        obtain⟨r',hp⟩:=Q3 hB r e n te.i.size l cs false p2 p3 jB iq (fun h=>by cases h) rh;exact⟨_,_,L,.inl gV,r',hp⟩
      .simp [rh]at h
     .cases h
    .cases h
   .cases h
  .cases h
 .cases h
end
open Go.RowKit
theorem FH{P:Program}{t e:TypeId}(h:P.underlying t=some (.slice e)):P.elem t=e:=by simp[Program.elem,h]
theorem VR{P:Program}{t e:TypeId}{n:Nat}(h:P.underlying t=some (.array n e)):P.elem t=e/\P.arrayLen t=n:=by simp[Program.elem,Program.arrayLen,h]
section
variable {P:Program} {K:World->Prop} {T:List TI} {O:mc} {w0:World} {B:Nat->Prop} {σ:PS} {o:Oper} {a:Act} {w:World} {L:Lk} {u:Out}
theorem Xl(hT:iC P T){t:TypeId}{x i:Operand}(en:o.op = .indexAddr t x i)(r:Rel w0 B σ a w L)(h:eX P K T O σ o=some u)(ho:∀ q,q ∈ u.fo->q):fL P K w0 B σ o a w u:=by
 simp only[eX,en,CH]at h;have hx:=r.op x;have hi:=r.op i;split at h
 .rename_i k z Zd
  rw[Zd]at hi;have hi:=eo.gn hi;split at h
  .rename_i tt na
   split at h
   .
    rename_i e hd;have hu:P.underlying t=some (.slice e):=by rw[hT.nK na,hd]
    have he:=FH hu;split at h
    .rename_i te kZ
     have gV:∀ (ad:Addr) (n c:Nat),a.eval x = .slice (some ad) n c->0<=z->z<n->(execOp a.eval o).run P w = .ok (.value (.pointer (some (ad.add (z.toNat*te.i.size))))) w:=by
      intro ad n c e1 h0 h1;have hr:=run_indexAt_slice (P:=P) w t ad n c k z (by rw[he];exact hu);rw[aC ⟨h0,h1⟩,he,rB hT w kZ]at hr;simp only[execOp,en,e1,hi,Sem.run_bind,hr,Result.andThen_ok,Sem.run_pure]
     split at h
     .rename_i nl n sz el ny
      rw[ny]at hx;split at h
      .rename_i hs
       simp only[aX]at hs;have pI:=b7 hs.2;have hs:=beq_iff.1 hs.1;cases h;have hz:0<=z/\z<n:=ho _ aj;have Dw:z.toNat<n:= ae ;generalize hq:a.eval x=q at hx;cases hx with
       | sl _ _ _ _ A c f hc hm h0 hl rh cell kk=>
        obtain⟨b,of,e1,hb,ek,_⟩:=cell z.toNat 0 Dw pI;subst e1;refine fL.pure r (gV ⟨b,of,none⟩ n c hq hz.1 hz.2) rfl ?_;rw[Addr.add_lit,hs];refine .ref sz _ b _ (fun j=>f z.toNat j) (fun hm=>hb (.inr hm)) ek (fun j hj=>(hl _ _ Dw hj).1) (fun j hj=>?_) (fun j hj=>kk _ _ Dw hj);obtain⟨b',of',e2,_,_,Gt⟩:=cell z.toNat j Dw hj;cases e2;rwa[<-ck]at Gt
      .cases h
     .rename_i id ny
      rw[ny]at hx;split at h
      .rename_i nl T1 n sz el fQ
       split at h
       .rename_i hs
        have hs:=beq_iff.1 hs;cases h;have hz:0<=z/\z<n:=ho _ aj;obtain⟨f,h1,h2,h3⟩:=r.hb id _ fQ;obtain⟨k1,k2⟩:=hx;rcases h1 with⟨h1,lN⟩|⟨b,c,cur,h1,hg,lj,kv,jB,gG,fE⟩
        .omega
        .rw [h1]at k2
         refine fL.pure r (gV ⟨b,0,none⟩ n c k2 hz.1 hz.2) rfl ⟨k1,b,n,c,h1,?_⟩;rw[Addr.add_lit,hs,bK,bd]
       .cases h
      .rename_i nl T1 T0 n sz len el pend fQ
       split at h
       .rename_i hs
        have hs:=beq_iff.1 hs;cases h;have hz:0<=z/\z<n:=ho _ aj;obtain⟨b,c,cur,f,h1,h2,h3,h4,h5,h6,h7,h8,h9,qY,rW⟩:=r.hb id _ fQ;obtain⟨k1,k2⟩:=hx;rw[h1]at k2;refine fL.pure r (gV ⟨b,0,none⟩ n c k2 hz.1 hz.2) rfl ⟨k1,b,n,c,h1,?_⟩;rw[Addr.add_lit,hs,bK,bd]
       .cases h
      .cases h
     .cases h
    .cases h
   .
    rename_i n e hd;have hu:P.underlying t=some (.array n e):=by rw[hT.nK na,hd]
    obtain⟨he,hn⟩:=VR hu;split at h
    .rename_i te kZ
     have gV:∀ (ad:Addr),a.eval x = .pointer (some ad)->0<=z->z<n->(execOp a.eval o).run P w = .ok (.value (.pointer (some (ad.add (z.toNat*te.i.size))))) w:=by
      intro ad e1 h0 h1;have hr:=run_indexAt_array (P:=P) w t ad k z (by rw[he,hn];exact hu);rw[hn,aC ⟨h0,h1⟩,he,rB hT w kZ]at hr;simp only[execOp,en,e1,hi,Sem.run_bind,hr,Result.andThen_ok,Sem.run_pure]
     split at h
     .rename_i id off ny
      rw[ny]at hx;cases h;have hz:0<=z/\z<n:=ho _ aj;obtain⟨k1,b,k2,k3⟩:=hx;refine fL.pure r (gV _ k3 hz.1 hz.2) rfl ⟨k1,b,k2,?_⟩;rw[Addr.add_lit]
     .rename_i m el ny
      rw[ny]at hx;split at h
      .rename_i hs
       have hs:=beq_iff.1 hs;cases h;have hz:0<=z/\z<n:=ho _ aj;have ik:∀ j,j<te.i.size->z.toNat*te.i.size+j<m:=by
        intro j hj;rw[<-hs];have:=a6 te.i.size (show z.toNat+1<=n by omega);rw[aO,aK]at this;omega
       generalize hq:a.eval x=q at hx;cases hx with
       | ref _ _ b of f hb ek hl cell kk=>
        refine fL.pure r (gV _ hq hz.1 hz.2) rfl ?_;rw[Addr.add_lit];refine .ref te.i.size _ b _ (fun j=>f (z.toNat*te.i.size+j)) hb ek (fun j hj=>hl _ (ik j hj)) (fun j hj=>?_) (fun j hj=>kk _ (ik j hj));have:=cell _ (ik j hj);rwa[<-ck]at this
      .cases h
     .cases h
    .cases h
   .cases h
  .cases h
 .cases h
theorem Xw(hT:iC P T){t:TypeId}{x:Operand}{lo hi:Option Operand}(en:o.op = .slice t x lo hi none)(r:Rel w0 B σ a w L)(h:eX P K T O σ o=some u)(ho:∀ q,q ∈ u.fo->q):fL P K w0 B σ o a w u:=by
 simp only[eX,en,CK]at h;have hx:=r.op x;split at h
 .rename_i nl n sz el ny
  rw[ny]at hx;split at h
  .rename_i tt na
   split at h
   .rename_i e hd
    have hu:P.underlying t=some (.slice e):=by rw[hT.nK na,hd]
    have he:=FH hu;have yj:P.underlying t=some (.slice (P.elem t)):=by rw[he];exact hu
    split at h
    .rename_i te kZ
     split at h
     .rename_i hs
      have hs:=beq_iff.1 hs;generalize hq:a.eval x=q at hx;cases hx with
      | sl _ _ _ _ A c f hc hm h0 hl rh cell kk=>
       have fin:∀ l h':Nat,l<=h'->h'<=n->eo (bad B L) (fH L) w (.sl nl (h'-l) sz fun i j=>el (l+i) j) (sliced A l h' c te.i.size):=by
        intro l h' hlh hhn;unfold sliced;refine .sl nl (h'-l) sz _ _ (c-l) (fun i j=>f (l+i) j) ae ae (fun hA=>?_) (fun i j hi hj=>hl _ _ ae hj) (fun i j hi hj=>rh _ _ ae hj) (fun i j hi hj=>?_) (fun i j hi hj=>kk _ _ ae hj)
        .split at hA
         .have:=h0 hA;omega
         .have:=h0 (by simpa using hA);omega
        .obtain ⟨b,of,e1,hb,ek,gG⟩:=cell (l+i) j ae hj
         subst e1;rw[aB ae];refine⟨b,of+l*te.i.size,by rw[b8,Addr.add_lit],hb,ek,?_⟩;rw[hs];rw[aO]at gG;rw[<-gG];congr 2;omega
       have run:∀ (l h':Nat) (lo' kx:Option Value),lo.map a.eval=lo'->hi.map a.eval=kx->(Instr.slice t (.slice A n c) lo' kx none).run P w = .ok (sliced A l h' c te.i.size) w ->
        (execOp a.eval o).run P w = .ok (.value (sliced A l h' c te.i.size)) w:=by
        intro l h' lo' kx e1 e2 hr;simp only[execOp,en,Sem.run_bind,hq,e1,e2,Option.map_none,run_sliceAt_slice (P:=P) w t _ _ _ _ yj,hr,Result.andThen_ok,Sem.run_pure]
       split at h
       .rename_i kh hh qo sX
        cases h;have hb:0<=hh/\hh<=n:=ho _ aj;cases lo with
        | some _=>simp at qo
        | none=>
         cases hi with
         | none=>simp at sX
         | some hi=>
          simp only[b8,bc]at sX;have hv:=r.op hi;rw[sX]at hv;have hv:=eo.gn hv;have hr:=run_slice_h (P:=P) w t A n c yj kh hh hb.1 ae;rw[he,rB hT w kZ]at hr;have hf:=fin 0 hh.toNat (bq _) ae ;simp only[dw,bK]at hf;exact fL.pure r (run 0 hh.toNat none (some (.int kh hh)) rfl (by rw[b8,hv]) hr) rfl hf
       .rename_i kl ll qo sX
        cases h;have hb:0<=ll/\ll<=n:=ho _ aj;cases hi with
        | some _=>simp at sX
        | none=>
         cases lo with
         | none=>simp at qo
         | some lo=>
          simp only[b8,bc]at qo;have hv:=r.op lo;rw[qo]at hv;have hv:=eo.gn hv;have hr:=run_slice_l (P:=P) w t A n c yj kl ll hb.1 hb.2;rw[he,rB hT w kZ]at hr;exact fL.pure r (run ll.toNat n (some (.int kl ll)) none (by rw[b8,hv]) rfl hr) rfl (fin ll.toNat n ae (aG _))
       .rename_i kl ll kh hh qo sX
        cases h;have hb:0<=ll/\ll<=hh/\hh<=n:=ho _ aj;cases hi with
        | none=>simp at sX
        | some hi=>
         cases lo with
         | none=>simp at qo
         | some lo=>
          simp only[b8,bc]at qo sX;have hv:=r.op lo;rw[qo]at hv;have hv:=eo.gn hv;have nX:=r.op hi;rw[sX]at nX;have nX:=eo.gn nX;have hr:=run_slice_lh (P:=P) w t A n c yj kl kh ll hh hb.1 hb.2.1 ae;rw[he,rB hT w kZ]at hr;exact fL.pure r (run ll.toNat hh.toNat (some (.int kl ll)) (some (.int kh hh)) (by rw[b8,hv]) (by rw[b8,nX]) hr) rfl (fin ll.toNat hh.toNat ae ae)
       .cases h
     .cases h
    .cases h
   .cases h
  .cases h
 .cases h
end
open Go.RowKit
section
variable {P:Program} {K:World->Prop} {T:List TI} {O:mc} {w0:World} {B:Nat->Prop} {σ:PS} {o:Oper} {a:Act} {w:World} {L:Lk} {u:Out}
theorem U5{x:Value}{l:List E}(h:(E.v x).cells? = some l):∀ e,e ∈ l->e.nr 2=true:=by
 intro e he;cases x<;>simp only[E.cells?]at h
 case agg cs=>
  split at h
  .cases h
   obtain⟨q,_,rfl⟩:=cB.1 he;rfl
  .cases h
 all_goals
  split at h
  .cases h
   simp only[List.mem_singleton]at he;subst he;rfl
  .cases h
theorem agc{ti:TI}{l:List E}(h:tX ti=some l):∀ e,e ∈ l->e.nr 2=true:=by
 unfold tX at h;split at h
 .exact U5 h
 .cases h
theorem HW{l:List E}{vs:List Value}{bs br:Nat->Prop}(h:fM bs br w l vs)(hl:l.all E.jj=true):∀ v ∈ vs,nY v=false:=by
 intro v hv;obtain⟨q,hq⟩:=cG.1 hv;have rk:q<l.length:=by rw[<-h.len];exact(bA.1 hq).1
 exact(h.rep q _ v (aM rk) hq).jj (bg.1 hl _ (bR rk))
theorem OB{z:Array Value}{n q:Nat}(hz:0<z.size)(hq:q<n):(madeCells z n)[q]? = some (z[q%z.size]'(aS _ hz)):=by
 unfold madeCells;simp[hq];rw[agP z _ (aS _ hz)]
theorem OC{z:Array Value}{n:Nat}(hz:0<z.size){v:Value}(hv:v ∈ madeCells z n):v ∈ z:=by
 unfold madeCells at hv;simp only[Array.mem_map,ag3]at hv;obtain⟨q,hq,rfl⟩:=hv;rw[agP z _ (aS _ hz)];exact ahf _
theorem Xp(hT:iC P T){t:TypeId}{l c:Operand}(en:o.op = .makeSlice t l c)(r:Rel w0 B σ a w L)(h:eX P K T O σ o=some u)(ho:∀ q,q ∈ u.fo->q):fL P K w0 B σ o a w u:=by
 simp only[eX,en,CJ]at h;have hl:=r.op l;have hc:=r.op c;split at h
 .rename_i bx fo eH
  obtain⟨id,MS,iz,fE,rfl⟩:=wF h;clear h;simp only[LO]at eH;split at eH
  rotate_left
  .cases eH
  rename_i kl zl kc zc vV Zc;rw[vV]at hl;rw[Zc]at hc;have hl:=eo.gn hl;have hc:=eo.gn hc;split at eH
  .rename_i tt na
   split at eH
   .rename_i e hd
    have hu:P.underlying t=some (.slice e):=by rw[hT.nK na,hd]
    split at eH
    .rename_i te kZ
     split at eH
     .rename_i z hz
      split at eH
      .rename_i sV
       simp only[aX]at sV;have c1:=beq_iff.1 sV.1;have c2:=b7 sV.2;obtain⟨zv,si,nB⟩:=B6 hz;obtain⟨q1,q2⟩:=nB (bad B L) (fH L) w;have wj:zv.cells.size=te.i.size:=by have:=q1.len;simp only[cQ]at this;omega
       have yx:0<zv.cells.size:= ae ;have key:∀ (h1:0<=zl/\zl<=zc) (h2:(te.i.bytes:Int)*zc<=281474976710656/\zc<=9223372036854775807),
        (execOp a.eval o).run P w = .ok (.value (.slice (some ⟨w.heap.size,0,none⟩) zl.toNat zc.toNat)) (w.alloc (.cells (madeCells zv.cells (zc.toNat*te.i.size)) e)):=by
        intro h1 h2;have hr:=run_make (P:=P) w t e te.i zv hu (hT.inf kZ) si kl kc zl zc h1.1 h1.2 h2.1 h2.2;simp only[execOp,en,hl,hc,Sem.run_bind,hr,Result.andThen_ok,Sem.run_pure]
       have hb:∀ o':Obj,Below w.heap.size w (w.alloc o'):=fun o'=>(Below.refl _ _).alloc (aG _) _
       have lens:zl<=zc->zc<=9223372036854775807->zl.toNat<=zc.toNat/\zc.toNat<=maxLen:=by intro h1 h2;unfold maxLen;omega
       split at eH
       .
        rename_i e0 hd0;split at eH
        .rename_i t0 G3
         obtain⟨y,ys,yr,hy,vR⟩:=q1.iw;have hy:=eo.gn hy;have vR:=vR.lV;subst hy vR;have NG:zv.cells = #[.slice none 0 0]:=by apply cH;rw[yr]
         have ie:te.i.size=1:=by rw[<-wj,NG];rfl
         cases eH;have h1:0<=zl/\zl<=zc:=ho _ aj;have h2:(te.i.bytes:Int)*zc<=281474976710656/\zc<=9223372036854775807:=ho _ aj;have hlen:=lens h1.2 h2.2;have C2:∀ v,v ∈ madeCells zv.cells (zc.toNat*te.i.size)->v = .slice none 0 0:=fun v hv=>by
          have:=OC yx hv;rw[NG]at this;simpa using this
         refine⟨_,_,_,.inl (key h1 h2),r.new id _ (fun x=>x=w.heap.size) (.slice (some ⟨w.heap.size,0,none⟩) zl.toNat zc.toNat) (fun _=>.slice none 0 0) _ iz (fun x hx=>by subst hx;simp) (hb _)
          ⟨w.heap.size,zc.toNat,_,fun _ _ _=>undef,Lk.kH,heap_alloc_new w _,hlen.1,hlen.2,by rw[size_madeCells,ie,bD],fun k hk _=>?_,fun v hv=>?_,fun k hk=>?_,fun x=>?_,fun k k' x hk M3 h1=>?_,fun k hk=>?_⟩ fE,Lk.uY,Lk.kH.symm⟩
         .rw [Lk.nh]
          have hq:k<zc.toNat*te.i.size:=by rw[ie];omega
          have hg:=OB yx hq;rw[hg];exact congrArg some (C2 _ (cR hg))
         .rw [C2 v hv];exact⟨rfl,rfl⟩
         .rw [Lk.nh]
          exact⟨.inl ⟨rfl,rfl⟩,fun i j hi=>absurd hi (aV i)⟩
         .rw [Lk.oe]
          simp only[Lk.nh,Value.ownBlock];simp
         .rw [Lk.nh]at h1
          simp[Value.ownBlock]at h1
         .rw [Lk.nh]
          simp[Value.ownBlock]
        .cases eH
       .cases eH
        have h1:0<=zl/\zl<=zc:=ho _ aj;have h2:(te.i.bytes:Int)*zc<=281474976710656/\zc<=9223372036854775807:=ho _ aj;have hlen:=lens h1.2 h2.2;refine⟨_,_,_,.inl (key h1 h2),r.new id _ (fun x=>x=w.heap.size) (.slice (some ⟨w.heap.size,0,none⟩) zl.toNat zc.toNat) (fun _=>undef) _ iz (fun x hx=>by subst hx;simp) (hb _)
         ⟨fun _ j=>zv.cells.getD j undef,.inr ⟨w.heap.size,zc.toNat,_,Lk.kH,heap_alloc_new w _,hlen.1,hlen.2,size_madeCells _ _,fun i j hi hj=>?_,fun hn v hv=>?_⟩,fun x=>?_,fun i j hi hj=>?_⟩ fE,Lk.uY,Lk.kH.symm⟩
        .have hq:i*te.i.size+j<zc.toNat*te.i.size:=by
          have:=a6 te.i.size (show i+1<=zc.toNat by omega);rw[aO,aK]at this;omega
         have GO:(i*te.i.size+j)%zv.cells.size=j:=by rw[wj,aQ,agM,bn hj]
         have nS:j<zv.cells.size:= ae ;rw[OB yx hq];simp only[GO];have e1:zv.cells.getD j undef=zv.cells[j]:=by simp[nS]
         rw[e1];exact⟨rfl,q2 _ aj⟩
        .exact HW q1 hn v (by have:=OC yx hv;simpa using this)
        .rw [Lk.oe,Lk.kH]
         simp only[Value.ownBlock,bc];exact eq_comm
        .have nS:j<zv.cells.size:= ae 
         have GJ:j<z.length:= ae ;have e1:zv.cells.getD j undef=zv.cells[j]:=by simp[nS]
         simp only[e1];rw[aF,aM GJ];obtain⟨p1,_⟩:=nB (bad B (L.set id (fun x=>x=w.heap.size) (.slice (some ⟨w.heap.size,0,none⟩) zl.toNat zc.toNat) (fun _=>undef))) (fH (L.set id (fun x=>x=w.heap.size) (.slice (some ⟨w.heap.size,0,none⟩) zl.toNat zc.toNat) (fun _=>undef))) (w.alloc (.cells (madeCells zv.cells (zc.toNat*te.i.size)) e));exact⟨p1.rep j _ _ (aM GJ) (by simp[nS]),agc hz _ (bR GJ)⟩
      .cases eH
     .cases eH
    .cases eH
   .cases eH
  .cases eH
 .cases h
theorem Xm(hT:iC P T){x:Operand}{t:TypeId}{c:Call}(hc:c={ callee:=.builtin .len,args:=#[x],argTypes:=#[t] })(en:o.op = .call c){e:TypeId}(hd:descOf T t=some (.slice e))(r:Rel w0 B σ a w L){rr:Value×List Nat}(h:qh (σ.op x) σ=some rr)(hu:u={ r:=.e (.v rr.1),rb:=rr.2 }):fL P K w0 B σ o a w u:=by
 obtain⟨ti,h1,h2⟩:=xy hd;have Nu:P.underlying t=some (.slice e):=by rw[hT.nK h1,h2]
 have he:=FH Nu;have hx:=r.op x;have key:∀ (A:Option Addr) (n cp:Nat),a.eval x = .slice A n cp->rr.1 = .int .i64 (n:Int)->fL P K w0 B σ o a w u:=by
  intro A n cp e1 e2;have hr:=run_len_slice (P:=P) w t o.type A n cp (by rw[he];exact Nu);subst hu;refine fL.pure r (v:=.int .i64 (n:Int)) ?_ rfl (by rw[e2];exact .v _);subst hc;have em:(#[x]:Array Operand).map a.eval = #[a.eval x]:= aj ;simp only[execOp,en,resolve,em,e1,Sem.run_bind,Sem.run_pure,Result.andThen_ok,invoke,builtin,hr];rfl
 cases hp:σ.op x with
 | e y=>
  rw[hp]at h hx;cases y with
  | sl nl n sz el=>
   simp only[qh,bc]at h;generalize hq:a.eval x=q at hx;cases hx with
   | sl _ _ _ _ A c f hc hm h0 hl rh cell kk=>exact key A n c hq (by rw[<-h])
  | v y=>
   have hx:=eo.gn hx;cases y with
   | slice A n cp=>
    simp only[qh,bc]at h;exact key A n cp hx (by rw[<-h])
   | _=>simp[qh]at h
  | _=>simp[qh]at h
 | own id=>
  rw[hp]at h hx;obtain⟨_,k2⟩:=hx;simp only[qh]at h;split at h
  .rename_i nl T1 n sz el fQ
   simp only[bc]at h;obtain⟨f,q1,_,_⟩:=r.hb id _ fQ;rcases q1 with⟨q1,q0⟩|⟨b,c,cur,q1,_⟩
   .rw [q1]at k2
    exact key none 0 0 k2 (by rw[<-h,q0])
   .rw [q1]at k2
    exact key _ n c k2 (by rw[<-h])
  .rename_i nl T1 T0 n sz len el pend fQ
   simp only[bc]at h;obtain⟨b,c,cur,f,q1,_⟩:=r.hb id _ fQ;rw[q1]at k2;exact key _ n c k2 (by rw[<-h])
  .cases h
 | _=>rw[hp]at h;simp[qh]at h
end
open Go.RowKit
section
variable {P:Program} {K:World->Prop} {T:List TI} {O:mc} {w0:World} {B:Nat->Prop} {σ:PS} {o:Oper} {a:Act} {w:World} {L:Lk} {u:Out}
theorem me.ni{v:Value}{T:TypeId}{n sz:Nat}{f:Nat->Nat->Value}{nl nl':Bool}(h:me w v T n sz f nl)(k:nl'=true->nl=true):me w v T n sz f nl':=by
 rcases h with h|⟨b,c,cur,h1,h2,h3,h4,h5,h6,h7⟩
 .exact .inl h
 .exact .inr ⟨b,c,cur,h1,h2,h3,h4,h5,h6,fun q=>h7 (k q)⟩
theorem Mj(hT:iC P T){s x:Operand}{t:TypeId}{c:Call}(hc:c={ callee:=.builtin .append,args:=#[s,x],argTypes:=#[t,t] })(en:o.op = .call c)(r:Rel w0 B σ a w L)
 (h:uj T σ o.dst t (σ.op s) (σ.op x)=some u) (ho:∀ q,q ∈ u.fo->q):fL P K w0 B σ o a w u:=by
 have hs:=r.op s;have hx:=r.op x;simp only[uj]at h;split at h
 .rename_i nl2 m sz2 el2 ny
  rw[ny]at hx;split at h
  .rename_i tt na
   split at h
   .rename_i e hd
    have hu:P.underlying t=some (.slice e):=by rw[hT.nK na,hd]
    split at h
    .rename_i te kZ
     split at h
     .rename_i z hz
      split at h
      .rename_i sV
       simp only[aX]at sV;have c1:=beq_iff.1 sV.1.1.1;have c2:=b7 sV.1.1.2;have c3:=b7 sV.1.2;have c4:=beq_iff.1 sV.2;obtain⟨zv,si,nB⟩:=B6 hz;obtain⟨q1,q2⟩:=nB (bad B L) (fH L) w;have wj:zv.cells.size=sz2:=by have:=q1.len;simp only[cQ]at this;omega
       generalize Zg:a.eval x=vx at hx;cases hx with
       | sl _ _ _ _ A cx g hgc hgm YF M0 gnr gcell gk0=>
       have gk:=fun i j hi hj=>And.intro (gk0 i j hi hj) (gnr i j hi hj)
       have key:∀ (v:Value) (n:Nat) (f:Nat->Nat->Value) (nl:Bool),a.eval s=v->me w v e n sz2 f nl->(nl=true->nl2=true/\z.all E.jj=true)->(n+m)*te.i.bytes<=140737488355328 ->
        ∃ v' w',(execOp a.eval o).run P w = .ok (.value v') w'/\JP w v e n sz2 m f g nl v' w':=by
        intro v n f nl hv jZ fE eR;obtain⟨v',w',hr,jU⟩:=ad0 P w t o.type e te.i zv sz2 hu (hT.inf kZ) si c1 wj ae c3 (fun u hu=>q2 u (by simpa using hu)) v n f nl jZ A m cx g
         (fun k j hk hj=>by obtain⟨b,of,e1,_,_,nv⟩:=gcell k j hk hj;exact⟨b,of,e1,nv⟩) (fun hA=>by have:=YF hA;omega)
         (fun k j hk hj=>⟨(M0 k j hk hj).1,fun hn=>(M0 k j hk hj).2 (fE hn).1⟩) (fun hn u hu=>HW q1 (fE hn).2 u (by simpa using hu)) eR
        refine⟨v',w',?_,jU⟩;subst hc;have em:(#[s,x]:Array Operand).map a.eval = #[a.eval s,a.eval x]:= aj ;simp only[execOp,en,resolve,em,hv,Zg,Sem.run_bind,Sem.run_pure,Result.andThen_ok,invoke,builtin,hr]
       split at h
       .
        rename_i id AE;rw[AE]at hs;split at h
        .rename_i nl T1 n sz el fQ
         split at h
         .rename_i nv
          simp only[aX]at nv;have d1:=beq_iff.1 nv.1.1;have d2:=beq_iff.1 nv.1.2;subst d1 d2;cases h;have eR:(n+m)*te.i.bytes<=140737488355328:=ho _ aj;obtain⟨f,p1,p2,p3⟩:=r.hb id _ fQ;obtain⟨k1,k2⟩:=hs;have fE:(nl&&(nl2&&z.all E.jj))=true->nl2=true/\z.all E.jj=true:=fun hn=>by simp only[aX]at hn;exact hn.2
          obtain⟨v',w',gV,jU⟩:=key (L.val id) n f _ k2 (p1.ni fun hn=>by simp only[aX]at hn;exact hn.1) fE eR;have ht:Touch L w id (fun y=>v'.ownBlock=some y) w':=by
           refine⟨fun y hy=>?_,jU.size,fun y hy iz=>jU.lf y hy fun e1=>iz ((p2 y).2 e1),jU.os,jU.tape,jU.output⟩;rcases jU.E9 y hy with e1|⟨e1,e2⟩
           .have:=(p2 y).2 e1
            exact⟨.inl this,a7 (r.hw id y this).2 jU.size⟩
           .exact ⟨.inr e1,e2⟩
          have hl:=ht.later v' (L.eK id);have Ze:∀ b,L.val id ≠ .pointer (some b):=fun b e1=>by
           rcases p1 with⟨e2,_⟩|⟨_,_,_,e2,_⟩<;>rw[e1]at e2<;>cases e2
          refine⟨v',w',_,.inl gV,r.grow id _ _ v' w' Ze ht ⟨fun i j=>if i<n then f i j else g (i-n) j,by rw[Lk.kH];exact jU.own,fun y=>by rw[Lk.oe,Lk.kH],fun i j hi hj=>(fun(q:eo _ _ _ _ _/\_)=>⟨hl.rep q.1,q.2⟩) (?_:_/\_)⟩ (fun hn=>?_),Lk.uY,Lk.kH.symm⟩
          .by_cases ik:i<n
           .simp only[ik,aW];exact p3 i j ik hj
           .simp only[ik,aL];exact gk _ _ ae hj
          .have:=nv.2
           rw[hn]at this;simpa[Bx.nl]using this
         .cases h
        .cases h
       .
        rename_i id k AE;rw[AE]at hs;split at h
        .rename_i nl T1 T0 n sz len el fQ
         split at h
         .rename_i nv
          simp only[aX]at nv;have d1:=beq_iff.1 nv.1.1;have d2:=beq_iff.1 nv.1.2;subst d1 d2;cases h;have hk:k<n:=ho _ aj;have eR:(len k+m)*te.i.bytes<=140737488355328:=ho _ aj;obtain⟨b,cp,cur,f,p1,p2,p3,p4,p5,p6,p7,p8,p9,p10,p11⟩:=r.hb id _ fQ;obtain⟨k1,k2⟩:=hs;have fE:nl=true->nl2=true/\z.all E.jj=true:=fun hn=>by have:=nv.2;rw[hn]at this;simpa using this
          obtain⟨v',w',gV,jU⟩:=key (L.eK id k) (len k) (f k) nl k2 (p8 k hk).1 fE eR;have xR:∀ y,v'.ownBlock=some y->(L.eK id k).ownBlock=some y\/(w.heap.size<=y/\y<w'.heap.size):=jU.E9;have MM:b<w.heap.size:=(r.hw id b ((p9 b).2 (.inl rfl))).2;have GH:∀ q y,q<n->(L.eK id q).ownBlock=some y->y<w.heap.size:=fun q y hq hy=>(r.hw id y ((p9 y).2 (.inr ⟨q,hq,hy⟩))).2
          have ht:Touch L w id (fun y=>y=b\/∃ q,q<n/\(if q=k then v' else L.eK id q).ownBlock=some y) w':=by
           refine⟨fun y hy=>?_,jU.size,fun y hy iz=>jU.lf y hy fun e1=>iz ((p9 y).2 (.inr ⟨k,hk,e1⟩)),jU.os,jU.tape,jU.output⟩;rcases hy with rfl|⟨q,hq,hy⟩
           .exact ⟨.inl ((p9 y).2 (.inl rfl)),a7 MM jU.size⟩
           .by_cases pe:q=k
            .subst pe
             rw[aC rfl]at hy;rcases xR y hy with e1|⟨e1,e2⟩
             .have:=(p9 y).2 (.inr ⟨q,hq,e1⟩)
              exact⟨.inl this,a7 (r.hw id y this).2 jU.size⟩
             .exact ⟨.inr e1,e2⟩
            .rw [aB pe]at hy
             have:=(p9 y).2 (.inr ⟨q,hq,hy⟩);exact⟨.inl this,a7 (r.hw id y this).2 jU.size⟩
          have hl:=ht.later (L.val id) (fun q=>if q=k then v' else L.eK id q);have C9:∀ y,y<w.heap.size->(L.eK id k).ownBlock≠some y->w'.heap[y]? = w.heap[y]?:=jU.lf;refine⟨v',w',_,.inl gV,r.qX id _ _ (fun q=>if q=k then v' else L.eK id q) w' ht
           ⟨b,cp,cur,fun q i j=>if q=k then(if i<len q then f q i j else g (i-len q) j)else f q i j,by rw[Lk.kH];exact p1,by rw[C9 b MM (p11 k hk)];exact p2,p3,p4,p5,fun q hq pe=>?_,p7,fun q hq=>?_,fun y=>?_,fun q q' y hq pH hy lP=>?_,fun q hq hy=>?_⟩ (fun hn=>?_),Lk.uY,?_⟩
          .have fK:q≠k:=fun e1=>pe (by rw[e1])
           rw[Lk.nh,aB fK];exact p6 q hq aj 
          .rw [Lk.nh]
           by_cases pe:q=k
           .subst pe
            simp only[aW];refine⟨jU.own,fun i j hi hj=>(fun(q:eo _ _ _ _ _/\_)=>⟨hl.rep q.1,q.2⟩) (?_:_/\_)⟩;by_cases ik:i<len q
            .simp only[ik,aW];exact(p8 q hq).2 i j ik hj
            .simp only[ik,aL];exact gk _ _ ae hj
           .simp only[pe,aL]
            obtain⟨s1,s2⟩:=p8 q hq;exact⟨s1.block fun y hy=>C9 y (GH q y hq hy) fun e1=>pe (p10 q k y hq hk hy e1),fun i j hi hj=>⟨hl.rep (s2 i j hi hj).1,(s2 i j hi hj).2⟩⟩
          .rw [Lk.oe]
           simp only[Lk.nh]
          .simp only[Lk.nh]at hy lP
           by_cases h1:q=k
           .subst h1
            by_cases h2:q'=q
            .exact h2.symm
            .rw [aC rfl]at hy
             rw[aB h2]at lP;rcases xR y hy with e1|⟨e1,_⟩
             .exact p10 q q' y hq pH e1 lP
             .have:=GH q' y pH lP;omega
           .rw [aB h1]at hy
            by_cases h2:q'=k
            .subst h2
             rw[aC rfl]at lP;rcases xR y lP with e1|⟨e1,_⟩
             .exact p10 q q' y hq pH hy e1
             .have:=GH q y hq hy;omega
            .rw [aB h2]at lP
             exact p10 q q' y hq pH hy lP
          .simp only[Lk.nh]at hy
           by_cases h1:q=k
           .subst h1
            rw[aC rfl]at hy;rcases xR b hy with e1|⟨e1,_⟩
            .exact p11 q hq e1
            .omega
           .rw [aB h1]at hy
            exact p11 q hq hy
          .have:=r.hl hn id _ fQ
           exact this
          .rw [Lk.nh,aC rfl]
         .cases h
        .cases h
       .
        rename_i AE;rw[AE]at hs;have hs:=eo.gn hs;obtain⟨id,MS,iz,Dh,rfl⟩:=wF h;have eR:m*te.i.bytes<=140737488355328:=ho _ aj;obtain⟨v',w',gV,jU⟩:=key _ 0 g (nl2&&z.all E.jj) hs (.inl ⟨rfl,rfl⟩) (fun hn=>by simpa using hn) (by simpa using eR);have hb:Below w.heap.size w w':=⟨jU.os,jU.tape,jU.output,jU.size,fun y hy=>jU.lf y hy (by simp[Value.ownBlock])⟩
        have hO:∀ y,v'.ownBlock=some y->w.heap.size<=y/\y<w'.heap.size:=fun y hy=>by
         rcases jU.E9 y hy with e1|e1
         .simp [Value.ownBlock]at e1
         .exact e1
        have ht:Touch L w id (fun y=>v'.ownBlock=some y) w':=⟨fun y hy=>⟨.inr (hO y hy).1,(hO y hy).2⟩,hb.size,fun y hy _=>hb.block y hy,hb.os,hb.tape,hb.output⟩
        have hl:=ht.later v' (fun _=>undef);have jZ:=jU.own;rw[bK]at jZ;refine⟨v',w',_,.inl gV,r.new id _ (fun y=>v'.ownBlock=some y) v' (fun _=>undef) w' iz hO hb ⟨fun i j=>if i<0 then g i j else g (i-0) j,by rw[Lk.kH];exact jZ,fun y=>by rw[Lk.oe,Lk.kH],fun i j hi hj=>(fun(q:eo _ _ _ _ _/\_)=>⟨hl.rep q.1,q.2⟩) (?_:_/\_)⟩ Dh,Lk.uY,Lk.kH.symm⟩;simp only[aV,aL,dw];exact gk i j hi hj
       .cases h
      .cases h
     .cases h
    .cases h
   .cases h
  .cases h
 .cases h
theorem Xa(hT:iC P T)(hB:∀ b,B b->b<w0.heap.size){s x:Operand}{t:TypeId}{c:Call}(hc:c={ callee:=.builtin .append,args:=#[s,x],argTypes:=#[t,t] })(en:o.op = .call c)(r:Rel w0 B σ a w L)
 (h:vE T σ o.dst t (σ.op s) (σ.op x)=some u) (ho:∀ q,q ∈ u.fo->q):fL P K w0 B σ o a w u:=by
 unfold vE at h;split at h
 .rename_i u0 h0
  split at h
  .rename_i id nl T1 n sz el id' hf hr
   split at h
   .rename_i hid
    have hid:=beq_iff.1 hid;subst hid;cases h;have r2:Rel w0 B { σ with nl:=false } a w L:=⟨r.hd,r.hs,r.ht,r.hb,r.hv,r.hn,r.hw,r.hi,r.he,fun h=>by cases h⟩
    obtain⟨v,w',L1,gV,hrel,nB⟩:=Mj (K:=K) hT hc en r2 h0 fun q hq=>ho q (List.mem_cons_of_mem _ hq)
    rw[hf]at hrel;rw[hr]at nB;obtain⟨L',k1,k2⟩:=Rel.fin hB hrel;refine⟨v,w',L',gV,⟨k1.hd,k1.hs,k1.ht,k1.hb,k1.hv,k1.hn,k1.hw,k1.hi,k1.he,fun hn i b hb=>r.hl hn i b ?_⟩,?_⟩
    .have hb:look (σ.b.filter fun x=>!Nat.beq x.1 id') i=some b:=hb
     rw[Ia]at hb;split at hb
     .cases hb
     .exact hb
    rw[nB.2];exact k2
   .cases h
  .cases h
 .cases h
theorem Xq{x y:Operand}{c:Call}(hc:c.callee = .builtin .max/\c.args = #[x,y])(en:o.op = .call c)(r:Rel w0 B σ a w L){k k':IntKind}{p q:Int}(hx:σ.op x = .e (.v (.int k p)))(hy:σ.op y = .e (.v (.int k' q)))
 (hu:u={ r:=.e (.v (.int k (if q>p then q else p))) }):fL P K w0 B σ o a w u:=by
 have h1:=r.op x;have h2:=r.op y;rw[hx]at h1;rw[hy]at h2;have h1:=eo.gn h1;have h2:=eo.gn h2;subst hu;refine fL.pure r (v:=.int k (if q>p then q else p)) ?_ rfl (.v _);have em:(#[x,y]:Array Operand).map a.eval = #[.int k p,.int k' q]:=by simp[h1,h2]
 simp only[execOp,en,resolve,hc.1,hc.2,em,Sem.run_bind,Sem.run_pure,Result.andThen_ok,invoke,builtin,run_max_int2]
theorem Xr{x y z:Operand}{c:Call}(hc:c.callee = .builtin .max/\c.args = #[x,y,z])(en:o.op = .call c)(r:Rel w0 B σ a w L){k k' k'':IntKind}{p q s:Int}(hx:σ.op x = .e (.v (.int k p)))(hy:σ.op y = .e (.v (.int k' q)))(hz:σ.op z = .e (.v (.int k'' s)))
 (hu:u={ r:=.e (.v (.int k (if s>(if q>p then q else p)then s else(if q>p then q else p)))) }):fL P K w0 B σ o a w u:=by
 have h1:=r.op x;have h2:=r.op y;have h3:=r.op z;rw[hx]at h1;rw[hy]at h2;rw[hz]at h3;have h1:=eo.gn h1;have h2:=eo.gn h2;have h3:=eo.gn h3;subst hu;refine fL.pure r (v:=.int k (if s>(if q>p then q else p)then s else(if q>p then q else p))) ?_ rfl (.v _);have em:(#[x,y,z]:Array Operand).map a.eval = #[.int k p,.int k' q,.int k'' s]:=by simp[h1,h2,h3]
 simp only[execOp,en,resolve,hc.1,hc.2,em,Sem.run_bind,Sem.run_pure,Result.andThen_ok,invoke,builtin,run_max_int3]
theorem Xs{x y:Operand}{c:Call}(hc:c.callee = .builtin .min/\c.args = #[x,y])(en:o.op = .call c)(r:Rel w0 B σ a w L){k k':IntKind}{p q:Int}(hx:σ.op x = .e (.v (.int k p)))(hy:σ.op y = .e (.v (.int k' q)))
 (hu:u={ r:=.e (.v (.int k (if q<p then q else p))) }):fL P K w0 B σ o a w u:=by
 have h1:=r.op x;have h2:=r.op y;rw[hx]at h1;rw[hy]at h2;have h1:=eo.gn h1;have h2:=eo.gn h2;subst hu;refine fL.pure r (v:=.int k (if q<p then q else p)) ?_ rfl (.v _);have em:(#[x,y]:Array Operand).map a.eval = #[.int k p,.int k' q]:=by simp[h1,h2]
 simp only[execOp,en,resolve,hc.1,hc.2,em,Sem.run_bind,Sem.run_pure,Result.andThen_ok,invoke,builtin,run_min_int2]
end
open Go.RowKit
structure Gd(P:Program)(K:World->Prop)(w0:World)(B:Nat->Prop):Prop where
 k:K w0
 IJ:∀ w w',K w->Below w.heap.size w w'->K w'
 hB:∀ b,B b->b<w0.heap.size/\ks w0 b
theorem ks.yP{w w':World}{b:Nat}(h:ks w b)(hb:w'.heap[b]? = w.heap[b]?):ks w' b:=by
 intro o x e;exact h o x (by rw[<-e];exact(World.cell?_of_block (w:=w) (w':=w') hb).symm)
theorem ks.Iy{w:World}{b:Nat}{cs:Array Value}{T:TypeId}{fr:Nat×Nat}(hg:w.heap[b]? = some (.cells cs T fr))(h:∀ v,v ∈ cs->nY v=false):ks w b:=by
 intro o x e;simp only[World.cell?,hg]at e;simp only[Option.isSome_none,aT,aL]at e;have:=h _ (cR e);cases this
section
variable {P:Program} {K:World->Prop} {T:List TI} {O:mc} {w0:World} {B:Nat->Prop} {σ:PS} {o:Oper} {a:Act} {w:World} {L:Lk} {u:Out}
theorem me.DP{v:Value}{T:TypeId}{n sz:Nat}{f:Nat->Nat->Value}(h:me w v T n sz f true){x:Nat}(hx:v.ownBlock=some x):ks w x:=by
 rcases h with⟨rfl,_⟩|⟨b,c,cur,rfl,hg,_,_,_,_,fE⟩
 .simp [Value.ownBlock]at hx
 .simp [Value.ownBlock]at hx
  subst hx;exact ks.Iy hg (fE rfl)
theorem nj.DP{id:Nat}{b:Bx}(h:nj (bad B L) (fH L) L w id b)(hn:b.nl=true){x:Nat}(hx:L.own id x):ks w x:=by
 cases b with
 | cells T l=>
  obtain⟨b,vs,h1,h2,h3,h4,h5⟩:=h;obtain rfl:=(h2 x).1 hx;exact ks.Iy h3 fun v hv=>HW h4 hn v (by simpa using hv)
 | row nl T n sz el=>
  obtain⟨f,h1,h2,h3⟩:=h;have hn:nl=true:=hn;subst hn;exact h1.DP ((h2 x).1 hx)
 | rows nl T1 T0 n sz len el pend=>
  obtain⟨b,c,cur,f,h1,h2,h3,h4,h5,h6,h7,h8,h9,qY,rW⟩:=h;have hn:nl=true:=hn;subst hn;rcases(h9 x).1 hx with rfl|⟨k,hk,YS⟩
  .exact ks.Iy h2 fun v hv=>(h7 v hv).2
  .exact (h8 k hk).1.DP YS
theorem Rel.KD(g:Gd P K w0 B)(r:Rel w0 B σ a w L)(hn:σ.nl=true):∀ b,bad B L b->b<w.heap.size/\ks w b:=by
 intro b hb;rcases hb with hb|⟨id,hb⟩
 .obtain ⟨h1,h2⟩:=g.hB b hb
  exact⟨a7 h1 r.he.size,h2.yP (r.he.block b h1)⟩
 .refine ⟨(r.hw id b hb).2,?_⟩
  have hl:=(r.hv id).1 (r.hn id b hb);obtain⟨bx,eH⟩:=ahi.1 hl;exact(r.hb id bx eH).DP (r.hl hn id bx eH) hb
theorem nj.ref{id:Nat}{Tt:TypeId}{l:List E}(h:nj (bad B L) (fH L) L w id (.cells Tt l)){b:Nat}(hv:L.val id = .pointer (some ⟨b,0,none⟩))(ek:∀ x,L.own id x->x<w.heap.size):
 eo (bad B L) (fun _=>False) w (.ref l.length fun j=>l.getD j .any) (.pointer (some ⟨b,0,none⟩)):=by
 obtain⟨b',vs,h1,h2,h3,h4,h5⟩:=h;rw[hv]at h1;cases h1;refine .ref _ _ b 0 (fun j=>vs.getD j undef) (fun h=>h) (ek b ((h2 b).2 rfl)) (fun j hj=>?_) (fun j hj=>?_) (fun j hj=>?_)
 .have nS:j<vs.length:=by rw[h4.len];exact hj
  rw[aF,aM nS];exact h5 _ (bR nS)
 .have nS:j<vs.length:=by rw[h4.len];exact hj
  simp only[World.cell?,h3];simp[nS]
 .have nS:j<vs.length:=by rw[h4.len];exact hj
  rw[aF,aM hj,aF,aM nS];exact(h4.rep j _ _ (aM hj) (aM nS)).ni (fun _ h=>h) (fun _ h=>h.elim)
theorem CV.CO(r:Rel w0 B σ a w L){c:CV}{e:E}{is:List Nat}(h:c.ext σ=some (e,is)){v:Value}(hv:sF (bad B L) (fH L) L w c v):eo (bad B L) (fun _=>False) w e v:=by
 cases c with
 | e x=>simp only[CV.ext,bc,bH]at h;obtain⟨rfl,_⟩:=h;exact hv.ni (fun _ h=>h) (fun _ h=>h.elim)
 | box id=>
  simp only[CV.ext]at h;split at h
  .rename_i Tt l fQ
   simp only[bc,bH]at h;obtain⟨rfl,_⟩:=h;obtain⟨_,b,k2,rfl⟩:=hv;exact(r.hb id _ fQ).ref k2 fun x hx=>(r.hw id x hx).2
  .cases h
theorem LU(r:Rel w0 B σ a w L){l:List CV}{es:List E}{is:List Nat}(h:rP σ l=some (es,is)){vs:List Value}(hlen:vs.length=l.length)
 (hv:∀ (i:Nat) (c:CV) (x:Value),l[i]? = some c->vs[i]? = some x->sF (bad B L) (fH L) L w c x):fM (bad B L) (fun _=>False) w es vs:=by
 induction l generalizing es is vs with
 | nil=>simp only[rP,bc,bH]at h;obtain⟨rfl,_⟩:=h;obtain rfl:=cE hlen;exact .nil _ _ _
 | cons c l ih=>
  cases vs with
  | nil=>simp at hlen
  | cons v vs=>
   simp only[rP]at h;split at h
   .rename_i x i xs js h1 h2
    simp only[bc,bH]at h;obtain⟨rfl,_⟩:=h;exact .cons (CV.CO r h1 (hv 0 c v rfl rfl)) (ih h2 (by simpa using hlen) fun i c x hc hx=>hv (i+1) c x (by simpa using hc) (by simpa using hx))
   .cases h
theorem PV.CO(r:Rel w0 B σ a w L){p:PV}{e:E}{is:List Nat}(h:p.ext σ=some (e,is))(iz:p.wq=false){v:Value}(hv:jA (bad B L) (fH L) L w p v):eo (bad B L) (fun _=>False) w e v:=by
 cases p with
 | e x=>simp only[PV.ext,bc,bH]at h;obtain⟨rfl,_⟩:=h;exact eo.ni (fun _ h=>h) (fun _ h=>h.elim) hv
 | box id off=>
  cases off with
  | succ=>simp[PV.ext]at h
  | zero=>
   simp only[PV.ext]at h;split at h
   .rename_i Tt l fQ
    simp only[bc,bH]at h;obtain⟨rfl,_⟩:=h;obtain⟨_,b,k2,rfl⟩:=hv;exact(r.hb id _ fQ).ref k2 fun x hx=>(r.hw id x hx).2
   .cases h
 | oX f cap=>
  simp only[PV.ext]at h;split at h
  .rename_i xs js h1
   simp only[bc,bH]at h;obtain⟨rfl,_⟩:=h;obtain⟨vs,rfl,k2,k3⟩:=hv;have:=LU r h1 k2 k3;exact .fn f xs vs this.len this.rep
  .cases h
 | own id=>cases iz
 | _=>simp[PV.ext]at h
theorem PV.Wo(r:Rel w0 B σ a w L){p:PV}{e:E}{is:List Nat}(h:p.ext σ=some (e,is)){v:Value}(hv:jA (bad B L) (fH L) L w p v):eo (fun _=>False) (fun _=>False) w e v:=by
 by_cases iz:p.wq=false
 .exact (PV.CO r h iz hv).ni (fun _ h=>h.elim) (fun _ h=>h)
 .cases p with
  | own id=>
   obtain⟨_,rfl⟩:=hv;simp only[PV.ext]at h;split at h
   .rename_i nl T n sz el fQ
    simp only[bc,bH]at h;obtain⟨rfl,_⟩:=h;obtain⟨f,h1,h2,h3⟩:=r.hb id _ fQ;generalize hvv:L.val id=v at *
    rcases h1 with⟨rfl,rfl⟩|⟨b,c,cur,rfl,hg,lj,kv,jB,gG,fE⟩
    .exact .sl nl 0 sz el none 0 f (aG _) ag (fun _=>rfl) (fun i j hi=>absurd hi (aV i)) (fun i j hi=>absurd hi (aV i)) (fun i j hi=>absurd hi (aV i)) (fun i j hi=>absurd hi (aV i))
    .have mZ:=(h2 b).2 rfl
     refine .sl nl n sz el _ c f lj (by unfold maxLen at kv;omega) (fun h=>by cases h) (fun i j hi hj=>⟨(gG i j hi hj).2,fun hn=>fE hn _ (cR (gG i j hi hj).1)⟩) (fun i j hi hj=>(h3 i j hi hj).2)
      (fun i j hi hj=>⟨b,0,rfl,fun h=>h,(r.hw id b mZ).2,?_⟩) (fun i j hi hj=>((h3 i j hi hj).1.ni (fun _ h=>h.elim) (fun _ h=>h)).nr 2 (h3 i j hi hj).2)
     rw[bK];simp only[World.cell?,hg];simpa using(gG i j hi hj).1
   .cases h
  | _=>exact absurd rfl iz
theorem Kj(r:Rel w0 B σ a w L){l:List Operand}{es:List E}{is:List Nat}(h:qc σ l=some (es,is)):fM (fun _=>False) (fun _=>False) w es (l.map a.eval):=by
 induction l generalizing es is with
 | nil=>simp only[qc,bc,bH]at h;obtain⟨rfl,_⟩:=h;exact .nil _ _ _
 | cons x l ih=>
  simp only[qc]at h;split at h
  .rename_i y i xs js h1 h2
   simp only[bc,bH]at h;obtain⟨rfl,_⟩:=h;exact .cons (PV.Wo r h1 (r.op x)) (ih h2)
  .cases h
theorem Ki(r:Rel w0 B σ a w L){l:List Operand}{es:List E}{is:List Nat}(h:qc σ l=some (es,is))(iz:(l.map σ.op).any PV.wq=false):fM (bad B L) (fun _=>False) w es (l.map a.eval):=by
 induction l generalizing es is with
 | nil=>simp only[qc,bc,bH]at h;obtain⟨rfl,_⟩:=h;exact .nil _ _ _
 | cons x l ih=>
  simp only[qc]at h;split at h
  .rename_i y i xs js h1 h2
   simp only[bc,bH]at h;obtain⟨rfl,_⟩:=h;simp only[agK,List.any_cons,Bool.or_eq_false_iff]at iz;exact .cons (PV.CO r h1 iz.1 (r.op x)) (ih h2 iz.2)
  .cases h
def B8(P:Program)(K:World->Prop)(w0:World)(B:Nat->Prop)(σ:PS)(o:Oper)(a:Act)(w:World)(u:Out):Prop:=
 ∀ (Kc:Act->World->Prop) (Q:Exit->Act->World->Prop),(∀ v w' L',Rel w0 B (σ.mz u.f) a w' L'->jA (bad B L') (fH L') L' w' u.r v->Kc (a.put o.dst v) w')->o.wp P a w Kc Q
theorem fL.kt(h:fL P K w0 B σ o a w u):B8 P K w0 B σ o a w u:=by
 intro Kc Q hk;obtain⟨v,w',L',gV,hr,hp⟩:=h;unfold Oper.wp;rcases gV with gV|⟨gV,rfl⟩
 .rw [gV];exact hk v w' L' hr hp
 .rw [gV];exact hk _ w' L' hr hp
theorem Lv(g:Gd P K w0 B)(r:Rel w0 B σ a w L){c:Call}{f:Operand}(en:o.op = .call c)(hf:c.callee = .value f){gf:FuncId}{xs ys:List E}{is:List Nat}{us:List Value}
 {ow:Bool} (uy:a.eval f = .func (.func gf) #[] us.toArray) (Zx:fM (fun _=>False) (fun _=>False) w xs (c.args.toList.map a.eval)) (ln:ow=false->fM (bad B L) (fun _=>False) w xs (c.args.toList.map a.eval)) (tg:fM (bad B L) (fun _=>False) w ys us)
 (h:uk P K O σ o.dst gf (xs++ys) is ow=some u) (ho:∀ q,q ∈ u.fo->q):B8 P K w0 B σ o a w u:=by
 intro Kc Q hk;simp only[uk]at h;split at h
 .rename_i fu AH
  split at h
  .rename_i hc
   cases h;have pc:PC P K gf (xs++ys) fu:=ho _ aj;have Yj:=Zx.app (tg.mono fun _ _=>eo.ni (bs':=fun _=>False) (fun _ h=>h.elim) (fun _ h=>h));have gV:(execOp a.eval o).run P w = .ok (.enter gf ((c.args.toList.map a.eval)++us).toArray) w:=by
    have e1:c.args.map a.eval=(c.args.toList.map a.eval).toArray:=by apply cH;simp
    have e2:#[]++(c.args.toList.map a.eval).toArray++us.toArray=((c.args.toList.map a.eval)++us).toArray:= aj ;simp only[execOp,en,resolve,hf,uy,Deferred.ofValue,Sem.run_bind,Sem.run_pure,Result.andThen_ok,invoke,e1,e2,pc.call]
   unfold Oper.wp;rw[gV];show Calls P gf _ w _;have hK:K w:=g.IJ _ _ g.k r.he;by_cases vV:fu.plain 3=true
   .refine (pc.run w (fun _=>False) _ hK (fun _ h=>h.elim) Yj).mono ?_
    rintro e w' ⟨v,rfl,hb,hv⟩;exact hk v w' L (r.later hb) (eo.plain (w:=w') hv 3 vV)
   .have hn:σ.nl=true/\ow=false:=by simpa[vV]using hc
    refine(pc.run w (bad B L) _ hK (r.KD g hn.1) ((ln hn.2).app tg)).mono ?_;rintro e w' ⟨v,rfl,hb,hv⟩;exact hk v w' L (r.later hb) (eo.ni (fun _ h=>h) (fun _ _=>trivial) hv)
  .split at h
   .rename_i hc
    cases h;have pc:vg P K gf (xs++ys) fu:=ho _ aj;have gV:(execOp a.eval o).run P w = .ok (.enter gf ((c.args.toList.map a.eval)++us).toArray) w:=by
     have e1:c.args.map a.eval=(c.args.toList.map a.eval).toArray:=by apply cH;simp
     have e2:#[]++(c.args.toList.map a.eval).toArray++us.toArray=((c.args.toList.map a.eval)++us).toArray:= aj ;simp only[execOp,en,resolve,hf,uy,Deferred.ofValue,Sem.run_bind,Sem.run_pure,Result.andThen_ok,invoke,e1,e2,pc.call]
    unfold Oper.wp;rw[gV];show Calls P gf _ w _;have hK:K w:=g.IJ _ _ g.k r.he;have hn:ow=false:=by simpa using hc
    refine(pc.run w (bad B L) _ hK (fun b hb=>?_) ((ln hn).app tg)).mono ?_
    .rcases hb with hb|⟨id,hb⟩
     .exact a7 (g.hB b hb).1 r.he.size
     .exact (r.hw id b hb).2
    .rintro e w' ⟨v,rfl,hb,hv⟩
     exact hk v w' L (r.later hb) (eo.ni (fun _ h=>h) (fun _ _=>trivial) hv)
   .cases h
 .split at h
  .rename_i d hd
   split at h
   .rename_i nl T n sz el hnw iz
    split at h
    .rename_i hc
     cases h;simp only[aX]at hc;have pc:pZ P K gf (xs++ys) nl T n sz el:=ho _ aj;have gV:(execOp a.eval o).run P w = .ok (.enter gf ((c.args.toList.map a.eval)++us).toArray) w:=by
      have e1:c.args.map a.eval=(c.args.toList.map a.eval).toArray:=by apply cH;simp
      have e2:#[]++(c.args.toList.map a.eval).toArray++us.toArray=((c.args.toList.map a.eval)++us).toArray:= aj ;simp only[execOp,en,resolve,hf,uy,Deferred.ofValue,Sem.run_bind,Sem.run_pure,Result.andThen_ok,invoke,e1,e2,pc.call]
     unfold Oper.wp;rw[gV];show Calls P gf _ w _;have hK:K w:=g.IJ _ _ g.k r.he;have hn:ow=false:=by simpa using hc.2
     refine(pc.run w (bad B L) _ hK (r.KD g hc.1.1) ((ln hn).app tg)).mono ?_
     .rintro e w' ⟨v,rfl,hb,gg,jZ,xR,MT⟩
      have hl:=(r.later hb)
      have Y4:=r.new d (.row nl T n sz el) (fun x=>v.ownBlock=some x) v (fun _=>undef) w' iz xR hb
       ⟨gg,by rw[Lk.kH];exact jZ,fun x=>by rw[Lk.oe,Lk.kH],fun i j hi hj=>⟨?_,(MT i j hi hj).2⟩⟩ (by simp[Bx.nl,hc.1.2])
      .exact hk v w' _ Y4 ⟨Lk.uY,Lk.kH.symm⟩
      .refine (MT i j hi hj).1.ni (fun b h=>?_) (fun _ _=>trivial)
       rcases h with h|⟨id,h⟩
       .exact .inl (.inl h)
       .by_cases e:id=d
        .subst e;exact .inr ((Lk.oe b).1 h)
        .exact .inl (.inr ⟨id,(Lk.uZ e b).1 h⟩)
    .cases h
   .cases h
  .cases h
theorem FM(hT:iC P T)(g:Gd P K w0 B)(r:Rel w0 B σ a w L)(h:eX P K T O σ o=some u)(ho:∀ q,q ∈ u.fo->q):B8 P K w0 B σ o a w u:=by
 cases en:o.op with
 | move x=>exact(Xt (P:=P) (K:=K) en r h).kt
 | assign x=>exact(Xb (P:=P) (K:=K) en r h).kt
 | pick c x y=>exact(Xv (P:=P) (K:=K) en r h).kt
 | alloc t=>exact(W9 hT en r h).kt
 | box t x=>exact(Xd (P:=P) (K:=K) en r h).kt
 | build t ps=>exact(Xe hT en r h).kt
 | buildSlice t n ps=>exact(Xf hT (fun b hb=>(g.hB b hb).1) en r h).kt
 | load t x=>exact(Xn hT en r h ho).kt
 | store t x y=>exact(Xx hT en r h ho).kt
 | nilCheck x=>exact(Xu (P:=P) (K:=K) en r h).kt
 | binOp op t x y yt=>exact(Xc hT en r h ho).kt
 | unOp op t x=>exact(Xy (P:=P) (K:=K) en r h ho).kt
 | convert s d x=>exact(Xg hT en r h).kt
 | makeFunc fn first cap=>exact(Xo (P:=P) (K:=K) en r h).kt
 | makeSlice t l c=>exact(Xp hT en r h ho).kt
 | slice t x lo hi mx=>
  cases mx with
  | none=>exact(Xw hT en r h ho).kt
  | some=>simp[eX,en]at h
 | fieldAddr t x f=>exact(Xj hT en r h).kt
 | indexAddr t x i=>exact(Xl hT en r h ho).kt
 | index t x i=>exact(Xk hT en r h ho).kt
 | field t x f=>exact(Xi hT en r h).kt
 | extract x i=>exact(Xh (P:=P) (K:=K) en r h).kt
 | call c=>
  obtain⟨callee,args,ats⟩:=c;cases callee with
  | builtin b=>
   simp only[eX,en]at h;cases b
   case len=>
    dsimp only at h;split at h
    .rename_i x t hx ht
     have ha:args = #[x]:=by apply cH;simpa using hx
     have yi:ats = #[t]:=by apply cH;simpa using ht
     split at h
     .rename_i e hd
      obtain⟨rr,hr,rfl⟩:=b6.1 h;exact(Xm hT (by rw[ha,yi]) en hd r hr rfl).kt
     .cases h
    .cases h
   case append=>
    dsimp only at h;split at h
    .rename_i s x t t' hx ht
     have ha:args = #[s,x]:=by apply cH;simpa using hx
     have yi:ats = #[t,t']:=by apply cH;simpa using ht
     split at h
     .rename_i na
      have na:=beq_iff.1 na;subst na;split at h
      .exact (Xa hT (fun b hb=>(g.hB b hb).1) (by rw[ha,yi]) en r h ho).kt
      .exact (Mj hT (by rw[ha,yi]) en r h ho).kt
     .cases h
    .cases h
   case max=>
    dsimp only at h;split at h
    .rename_i k p k' q hx
     rcases args with⟨l⟩
     rcases l with _|⟨x,_|⟨y,_|⟨z,l⟩⟩⟩<;>simp at hx
     cases h;exact(Xq (P:=P) (K:=K) ⟨rfl,rfl⟩ en r hx.1 hx.2 rfl).kt
    .rename_i k p k' q k'' s hx
     rcases args with⟨l⟩
     rcases l with _|⟨x,_|⟨y,_|⟨z,_|⟨z',l⟩⟩⟩⟩<;>simp at hx
     cases h;exact(Xr (P:=P) (K:=K) ⟨rfl,rfl⟩ en r hx.1 hx.2.1 hx.2.2 rfl).kt
    .cases h
   case min=>
    dsimp only at h;split at h
    .rename_i k p k' q hx
     rcases args with⟨l⟩
     rcases l with _|⟨x,_|⟨y,_|⟨z,l⟩⟩⟩<;>simp at hx
     cases h;exact(Xs (P:=P) (K:=K) ⟨rfl,rfl⟩ en r hx.1 hx.2 rfl).kt
    .cases h
   all_goals cases h
  | value f=>
   simp only[eX,en]at h;have uy:=r.op f;split at h
   .rename_i gf cap xs is vU ln
    rw[vU]at uy;obtain⟨us,e1,tg⟩:=eo.L5 uy;exact Lv g r en rfl e1 (Kj r ln) (fun iz=>Ki r ln iz) (tg.mono fun _ _=>eo.ni (fun _ h=>h) (fun _ h=>h.elim)) h ho
   .rename_i gf cap xs is vU ln
    rw[vU]at uy;obtain⟨us,e1,k2,k3⟩:=uy;split at h
    .rename_i ys js yr
     exact Lv g r en rfl e1 (Kj r ln) (fun iz=>Ki r ln iz) (LU r yr k2 k3) h ho
    .cases h
   .cases h
  | invoke _ _=>simp[eX,en]at h
 | _=>simp[eX,en]at h
theorem V2(hT:iC P T)(g:Gd P K w0 B)(r:Rel w0 B σ a w L)(h:pz P K T O σ o=some u)(ho:∀ q,q ∈ u.fo->q):B8 P K w0 B σ o a w u:=by
 unfold pz at h;split at h
 .rename_i u0 h0
  split at h
  .split at h
   .rename_i p hp
    cases h;have he:PV.le u0.r p:=ho _ aj;have:=FM hT g r h0 (fun q hq=>ho q (by simp[hq]));intro Kc Q hk;exact this Kc Q fun v w' L' hr hv=>hk v w' L' hr (he _ _ _ _ _ hv)
   .cases h
    exact FM hT g r h0 ho
  .cases h
   exact FM hT g r h0 ho
 .cases h
end
open Go.RowKit
section
variable {P:Program} {K:World->Prop} {T:List TI} {O:mc} {σ τ:PS} {o:Oper} {u:Out}
theorem abu{x:Operand}(h:∀ t,x = .tmp t->σ.get t=τ.get t):τ.op x=σ.op x:=by
 cases x with
 | tmp t=>exact(h t rfl).symm
 | _=>rfl
theorem acY{p:PV}{m:Nat}{l:List E}{is:List Nat}{fo:List Prop}(h:σ.read p m=some (l,is,fo))(hb:∀ id,id ∈ is->σ.bo id=τ.bo id):τ.read p m=some (l,is,fo):=by
 cases p with
 | box id off=>
  have h0:=h;simp only[PS.read]at h;split at h
  .split at h
   .simp only[bc,bH]at h
    obtain⟨_,rfl,_⟩:=h;simp only[PS.read,<-hb id aj];exact h0
   .cases h
  .cases h
 | lr id sz i j=>
  have h0:=h;simp only[PS.read]at h;split at h
  .split at h
   .simp only[bc,bH]at h
    obtain⟨_,rfl,_⟩:=h;simp only[PS.read,<-hb id aj];exact h0
   .cases h
  .cases h
 | e x=>cases x<;>exact h
 | _=>exact h
theorem U6{c:CV}{e:E}{is:List Nat}(h:c.ext σ=some (e,is))(hb:∀ id,id ∈ is->σ.bo id=τ.bo id):c.ext τ=some (e,is):=by
 cases c with
 | e x=>exact h
 | box id=>
  have h0:=h;simp only[CV.ext]at h;split at h
  .simp only[bc,bH]at h
   obtain⟨_,rfl⟩:=h;simp only[CV.ext,<-hb id aj];exact h0
  .cases h
theorem LS{l:List CV}{es:List E}{is:List Nat}(h:rP σ l=some (es,is))(hb:∀ id,id ∈ is->σ.bo id=τ.bo id):rP τ l=some (es,is):=by
 induction l generalizing es is with
 | nil=>exact h
 | cons c l ih=>
  simp only[rP]at h;split at h
  .rename_i x i xs js h1 h2
   simp only[bc,bH]at h;obtain⟨rfl,rfl⟩:=h;simp only[rP,U6 h1 fun id hi=>hb id (by simp[hi]),ih h2 fun id hi=>hb id (by simp[hi])]
  .cases h
theorem abL{p:PV}{e:E}{is:List Nat}(h:p.ext σ=some (e,is))(hb:∀ id,id ∈ is->σ.bo id=τ.bo id):p.ext τ=some (e,is):=by
 cases p with
 | e x=>exact h
 | box id off=>
  cases off with
  | succ=>exact h
  | zero=>
   have h0:=h;simp only[PV.ext]at h;split at h
   .simp only[bc,bH]at h
    obtain⟨_,rfl⟩:=h;simp only[PV.ext,<-hb id aj];exact h0
   .cases h
 | oX f cap=>
  simp only[PV.ext]at h;split at h
  .rename_i xs js h1
   simp only[bc,bH]at h;obtain⟨rfl,rfl⟩:=h;simp only[PV.ext,LS h1 hb]
  .cases h
 | own id=>
  have h0:=h;simp only[PV.ext]at h;split at h
  .simp only[bc,bH]at h
   obtain⟨_,rfl⟩:=h;simp only[PV.ext,<-hb id aj];exact h0
  .cases h
 | _=>exact h
theorem Kh{l:List Operand}{es:List E}{is:List Nat}(h:qc σ l=some (es,is))(hg:∀ x,x ∈ l->τ.op x=σ.op x)(hb:∀ id,id ∈ is->σ.bo id=τ.bo id):qc τ l=some (es,is):=by
 induction l generalizing es is with
 | nil=>exact h
 | cons c l ih=>
  simp only[qc]at h;split at h
  .rename_i x i xs js h1 h2
   simp only[bc,bH]at h;obtain⟨rfl,rfl⟩:=h;simp only[qc,hg c aj,abL h1 fun id hi=>hb id (by simp[hi]),ih h2 (fun x hx=>hg x (by simp[hx])) fun id hi=>hb id (by simp[hi])]
  .cases h
theorem LW{place:Nat->Option (Nat×Nat)}{ps:List (Nat×Operand)}(hg:∀ x,x ∈ ps.map (·.2)->τ.op x=σ.op x):∀ l,ns τ place l ps=ns σ place l ps:=by
 induction ps with
 | nil=>intro l;rfl
 | cons p ps ih=>
  intro l;obtain⟨i,x⟩:=p;simp only[ns,hg x aj,ih fun x hx=>hg x (by simp only[agK,cv];exact .inr hx)]
theorem Ba{d:Option Tmp}{b:Bx}{rr:Nat->PV}{fo:List Prop}(h:rp σ d b rr fo=some u)(fE:σ.nl=τ.nl)(hn:∀ id b,u.f = .new id b->τ.bo id=none):rp τ d b rr fo=some u:=by
 obtain⟨id,rfl,iz,hc,rfl⟩:=wF h;rw[fE]at hc;simp only[rp,hn id b rfl,hc,aW]
theorem LN{d:Option Tmp}{t:TypeId}{s x:PV}{u:Out}(h:uj T σ d t s x=some u)(hb:∀ id,id ∈ u.rb->σ.bo id=τ.bo id)(fE:σ.nl=τ.nl)(hn:∀ id b,u.f = .new id b->τ.bo id=none):uj T τ d t s x=some u:=by
 simp only[uj]at h ⊢;split at h
 .split at h
  .split at h
   .split at h
    .split at h
     .split at h
      .rename_i hc
       simp only[hc,aW];split at h
       .rename_i id
        split at h
        .rename_i fQ
         split at h
         .rename_i nv
          cases h;simp only[<-hb id aj,<-fE,fQ,nv,aW]
         .cases h
        .cases h
       .rename_i id k
        split at h
        .rename_i fQ
         split at h
         .rename_i nv
          cases h;simp only[<-hb id aj,fQ,nv,aW]
         .cases h
        .cases h
       .exact Ba h fE hn
       .cases h
      .cases h
     .cases h
    .cases h
   .cases h
  .cases h
 .cases h
theorem VV{d:Option Tmp}{t:TypeId}{s x:PV}{u:Out}(h:vE T σ d t s x=some u)(hb:∀ id,id ∈ u.rb->σ.bo id=τ.bo id)(fE:σ.nl=τ.nl):vE T τ d t s x=some u:=by
 unfold vE at h ⊢;split at h
 .rename_i u0 h0
  split at h
  .rename_i id nl T1 n sz el id' hf hr
   split at h
   .rename_i hid
    cases h;have:=LN (σ:={ σ with nl:=false }) (τ:={ τ with nl:=false }) h0 hb rfl fun i b e=>by rw[hf]at e;cases e
    rw[this];simp only[hf,hr,hid,aW]
   .cases h
  .cases h
 .cases h
theorem VX(h:eX P K T O σ o=some u)(hg:∀ x,x ∈ o.op.operands->τ.op x=σ.op x)(hb:∀ id,id ∈ u.rb->σ.bo id=τ.bo id)(fE:σ.nl=τ.nl)(hn:∀ id b,u.f = .new id b->τ.bo id=none):
 eX P K T O τ o=some u:=by
 cases en:o.op with
 | move x=>rw[en]at hg;simp only[eX,en]at h ⊢;rw[hg x (by simp[Op.operands])];exact h
 | assign x=>rw[en]at hg;simp only[eX,en]at h ⊢;rw[hg x (by simp[Op.operands])];exact h
 | pick c x y=>rw[en]at hg;simp only[eX,en]at h ⊢;rw[hg c (by simp[Op.operands]),hg x (by simp[Op.operands]),hg y (by simp[Op.operands])];exact h
 | nilCheck x=>rw[en]at hg;simp only[eX,en]at h ⊢;rw[hg x (by simp[Op.operands])];exact h
 | binOp op t x y yt=>rw[en]at hg;simp only[eX,en]at h ⊢;rw[hg x (by simp[Op.operands]),hg y (by simp[Op.operands])];exact h
 | unOp op t x=>rw[en]at hg;simp only[eX,en]at h ⊢;rw[hg x (by simp[Op.operands])];exact h
 | convert s d x=>rw[en]at hg;simp only[eX,en]at h ⊢;rw[hg x (by simp[Op.operands])];exact h
 | index t x i=>rw[en]at hg;simp only[eX,en]at h ⊢;rw[hg x (by simp[Op.operands]),hg i (by simp[Op.operands])];exact h
 | extract x i=>rw[en]at hg;simp only[eX,en]at h ⊢;rw[hg x (by simp[Op.operands])];exact h
 | fieldAddr t x f=>rw[en]at hg;simp only[eX,en]at h ⊢;rw[hg x (by simp[Op.operands])];exact h
 | field t x f=>rw[en]at hg;simp only[eX,en]at h ⊢;rw[hg x (by simp[Op.operands])];exact h
 | makeFunc fn first cap=>
  rw[en]at hg;cases fn with
  | func f=>
   simp only[eX,en]at h ⊢;have:cap.toList.map τ.op=cap.toList.map σ.op:=ag4 fun x hx=>hg x (by simp only[Op.operands,agO];exact .inr (by simpa using hx))
   rw[this];exact h
  | _=>simp[eX,en]at h
 | slice t x lo hi mx=>
  rw[en]at hg;cases mx with
  | some=>simp[eX,en]at h
  | none=>
   simp only[eX,en]at h ⊢;have e1:lo.map τ.op=lo.map σ.op:=by cases lo with
    | none=>rfl
    | some y=>simp only[b8];rw[hg y (by simp[Op.operands])]
   have e2:hi.map τ.op=hi.map σ.op:=by cases hi with
    | none=>rfl
    | some y=>simp only[b8];rw[hg y (by simp[Op.operands])]
   rw[hg x (by simp[Op.operands]),e1,e2];exact h
 | alloc t=>
  simp only[eX,en]at h ⊢;split at h
  .split at h
   .exact Ba h fE hn
   .cases h
  .cases h
 | box t x=>
  rw[en]at hg;simp only[eX,en]at h ⊢;rw[hg x (by simp[Op.operands])];split at h
  .split at h
   .exact Ba h fE hn
   .cases h
  .cases h
 | build t ps=>
  rw[en]at hg;simp only[eX,en]at h ⊢;have hf:∀ place l,ns τ place l ps.toList=ns σ place l ps.toList:=fun place=>LW fun x hx=>hg x (by simpa[Op.operands]using hx)
  simp only[hf];exact h
 | buildSlice t n ps=>
  rw[en]at hg;simp only[eX,en]at h ⊢;have hf:∀ place l,ns τ place l ps.toList=ns σ place l ps.toList:=fun place=>LW fun x hx=>hg x (by simpa[Op.operands]using hx)
  simp only[hf];split at h
  .split at h
   .split at h
    .split at h
     .split at h
      .rename_i YM
       rw[aC YM];obtain⟨l,hl,h⟩:=ahh.1 h;refine ahh.2 ⟨l,hl,?_⟩;split at h
       .cases h
       .rename_i h1
        rw[aB h1];split at h
        .rename_i h2
         rw[aC h2];exact Ba h fE hn
        .rename_i h2
         rw[aB h2];exact h
      .cases h
     .cases h
    .cases h
   .cases h
  .cases h
 | load t x=>
  rw[en]at hg;simp only[eX,en,CI]at h ⊢;rw[hg x (by simp[Op.operands])];split at h
  .rename_i ti mC
   split at h
   .rename_i id i n kY
    have Zh:wT τ (σ.op x)=some (id,i,n):=by
     have hid:σ.bo id=τ.bo id:=by
      split at h
      .cases h
      .cases h;exact hb id aj 
     cases hp:σ.op x with
     | lr id' sz i' j=>
      rw[hp]at kY;have h0:=kY;simp only[wT]at kY;split at kY
      .split at kY
       .simp only[bc,bH]at kY
        obtain⟨rfl,_,_⟩:=kY;simp only[wT,<-hid];exact h0
       .cases kY
      .cases kY
     | _=>rw[hp]at kY;cases kY
    simp only[Zh];exact h
   .rename_i kY
    have key:∀ is,(∃ l fo,σ.read (σ.op x) ti.i.size=some (l,is,fo))->(∀ id,id ∈ is->σ.bo id=τ.bo id)->wT τ (σ.op x)=none:=by
     rintro is ⟨l,fo,hr⟩ jm;cases hp:σ.op x with
     | lr id sz i j=>
      rw[hp]at hr kY;simp only[PS.read]at hr;split at hr
      .rename_i fQ
       split at hr
       .simp only[bc,bH]at hr
        obtain⟨_,rfl,_⟩:=hr;simp only[wT,<-jm id aj,fQ]
       .cases hr
      .cases hr
     | _=>rfl
    cases hr:σ.read (σ.op x) ti.i.size with
    | none=>rw[hr]at h;cases h
    | some y=>
     obtain⟨l,is,fo⟩:=y;have vX:u.rb=is:=by
      rw[hr]at h;simp only[A6]at h;split at h
      .cases h;rfl
      .split at h
       .cases h;rfl
       .cases h
     have jm:∀ id,id ∈ is->σ.bo id=τ.bo id:=fun id hi=>hb id (by rw[vX];exact hi)
     rw[key is ⟨l,fo,hr⟩ jm];simp only;rw[acY hr jm];rw[hr]at h;exact h
  .cases h
 | store t x y=>
  rw[en]at hg;simp only[eX,en,CL]at h ⊢;rw[hg x (by simp[Op.operands]),hg y (by simp[Op.operands])];split at h
  .split at h
   .rename_i id off e _ _
    split at h
    .rename_i fQ hm
     split at h
     .rename_i hc
      cases h;rw[fE]at hc;simp only[<-hb id aj,fQ,hm,hc,aW]
     .cases h
    .cases h
   .rename_i id sz i j e _ _
    split at h
    .rename_i fQ hm
     split at h
     .rename_i hc
      cases h;simp only[<-hb id aj,fQ,hm,hc,aW]
     .cases h
    .cases h
   .rename_i id i id' k _ _
    split at h
    .rename_i fQ
     split at h
     .rename_i hc
      cases h;simp only[<-hb id aj,fQ,hc,aW]
     .cases h
    .cases h
   .cases h
  .cases h
 | makeSlice t l c=>
  rw[en]at hg;simp only[eX,en,CJ]at h ⊢;rw[hg l (by simp[Op.operands]),hg c (by simp[Op.operands])];split at h
  .exact Ba h fE hn
  .cases h
 | indexAddr t x i=>
  rw[en]at hg;simp only[eX,en,CH]at h ⊢;rw[hg x (by simp[Op.operands]),hg i (by simp[Op.operands])];split at h
  .split at h
   .split at h
    .split at h
     .split at h
      .exact h
      .rename_i id _
       split at h
       .rename_i fQ
        split at h
        .rename_i hc
         cases h;simp only[<-hb id aj,fQ,hc,aW]
        .cases h
       .rename_i fQ
        split at h
        .rename_i hc
         cases h;simp only[<-hb id aj,fQ,hc,aW]
        .cases h
       .cases h
      .cases h
     .cases h
    .exact h
    .cases h
   .cases h
  .cases h
 | call c=>
  rw[en]at hg;obtain⟨callee,args,ats⟩:=c;have ha:∀ x,x ∈ args.toList->τ.op x=σ.op x:=fun x hx=>hg x (by simp only[Op.operands,Call.operands,agO];exact .inr (by simpa using hx))
  have GN:args.toList.map τ.op=args.toList.map σ.op:=ag4 ha;cases callee with
  | builtin b=>
   simp only[eX,en]at h ⊢;cases b
   case len=>
    dsimp only at h ⊢;split at h
    .rename_i x t hx ht
     split at h
     .obtain ⟨rr,hr,rfl⟩:=b6.1 h
      rw[ha x (by rw[hx];simp)];have:qh (σ.op x) τ=some rr:=by
       cases hp:σ.op x with
       | own id=>
        rw[hp]at hr;have h0:=hr;simp only[qh]at hr;split at hr
        .simp only[bc]at hr
         subst hr;simp only[qh,<-hb id aj];exact h0
        .simp only[bc]at hr
         subst hr;simp only[qh,<-hb id aj];exact h0
        .cases hr
       | e y=>
        rw[hp]at hr;cases y with
        | v z=>cases z<;>exact hr
        | _=>exact hr
       | _=>rw[hp]at hr;exact hr
      rw[this];rfl
     .cases h
    .cases h
   case append=>
    dsimp only at h ⊢;split at h
    .rename_i s x t t' hx ht
     split at h
     .rename_i na
      simp only[na,aW];rw[ha x (by rw[hx];simp),ha s (by rw[hx];simp)];have nu:Ci O o.dst=Ci O o.dst:=rfl;split at h
      .rename_i Gn
       simp only[Gn,aW];exact VV h hb fE
      .rename_i Gn
       simp only[Gn,aL,aT];exact LN h hb fE hn
     .cases h
    .cases h
   case max=>dsimp only at h ⊢;rw[GN];exact h
   case min=>dsimp only at h ⊢;rw[GN];exact h
   all_goals cases h
  | value f=>
   have hf:τ.op f=σ.op f:=hg f (by simp[Op.operands,Call.operands]);simp only[eX,en]at h ⊢;have gy:(args.toList.map τ.op).any PV.wq=(args.toList.map σ.op).any PV.wq:=by rw[GN]
   rw[hf,gy];have ec:∀ {gf:FuncId} {zs:List E} {is:List Nat} {ow:Bool},uk P K O σ o.dst gf zs is ow=some u->u.rb=is/\uk P K O τ o.dst gf zs is ow=some u:=by
    intro gf zs is ow hh;simp only[uk]at hh ⊢;rw[fE]at hh;split at hh
    .rename_i fu AH
     refine⟨?_,hh⟩;split at hh
     .cases hh;rfl
     .split at hh
      .cases hh;rfl
      .cases hh
    .split at hh
     .rename_i d hd
      split at hh
      .rename_i nl T n sz el h1 h2
       split at hh
       .rename_i hc
        cases hh;have h3:=hn _ _ rfl;rw[h1,h3];simp only[hc,aW];constructor<;>first|rfl|trivial
       .cases hh
      .cases hh
     .cases hh
   split at h
   .rename_i gf cap xs is vU ln
    obtain⟨e1,e2⟩:=ec h;rw[Kh ln ha fun id hi=>hb id (by rw[e1];exact hi),vU];exact e2
   .rename_i gf cap xs is vU ln
    split at h
    .rename_i ys js yr
     obtain⟨e1,e2⟩:=ec h;rw[Kh ln ha fun id hi=>hb id (by rw[e1];simp[hi]),vU];simp only;rw[LS yr fun id hi=>hb id (by rw[e1];simp[hi])];exact e2
    .cases h
   .cases h
  | invoke _ _=>simp[eX,en]at h
 | _=>simp[eX,en]at h
end
open Go.RowKit
theorem aaX{l:List Operand}{t:Tmp}(h:Operand.tmp t ∈ l):t ∈ tmpsOf l:=by
 induction l with
 | nil=>simp at h
 | cons x l ih=>
  rcases cv.1 h with h|h
  .subst h;simp[tmpsOf]
  .have:=ih h
   cases x<;>simp[tmpsOf,this]
theorem Yl{l:List Nat}{n:Nat}:Gq l n=true↔n ∈ l:=by
 unfold Gq;rw[cX];constructor
 .rintro ⟨x,hx,hb⟩;have:=beq_iff.1 hb;subst this;exact hx
 .intro h;exact⟨n,h,cO n⟩
theorem DQ{l:List Nat}{d:Option Nat}(h:yN l d=true){x:Nat}(hx:d=some x):x ∉ l:=by
 subst hx;simp only[yN,dJ]at h;intro hm;rw[Yl.2 hm]at h;cases h
theorem Ew{a b:Option Nat}(h:Ev a b=true){x y:Nat}(hx:a=some x)(hy:b=some y):x≠y:=by
 subst hx hy;simp only[Ev,dJ]at h;intro e;rw[beq_iff.2 e]at h;cases h
theorem BY(f:mV)(p:PV):p.kT f=if keeps f p then p else .e .any:=by
 cases f<;>cases p<;>simp only[PV.kT,keeps,aW]
 all_goals (split<;>rename_i h<;>simp[h])
theorem Hv{f:mV}{p:PV}(h:keeps f p=true):p.kT f=p:=by rw[BY,aC h]
theorem aao(f:mV):keeps f (.e .any)=true:=by cases f<;>rfl
theorem afM(p:PV)(f g:mV):(p.kT f).kT g=(p.kT g).kT f:=by
 rw[BY f p,BY g p];cases h1:keeps f p<;>cases h2:keeps g p<;>simp only[aW,aT,aL,BY,aao,h1,h2]
structure nm(σ τ:PS):Prop where
 n:σ.n=τ.n
 nl:σ.nl=τ.nl
 get:∀ t,σ.get t=τ.get t
 bo:∀ id,σ.bo id=τ.bo id
theorem nm.refl(σ:PS):nm σ σ:=⟨rfl,rfl,fun _=>rfl,fun _=>rfl⟩
theorem nm.symm{σ τ:PS}(h:nm σ τ):nm τ σ:=⟨h.n.symm,h.nl.symm,fun t=>(h.get t).symm,fun i=>(h.bo i).symm⟩
theorem nm.trans{σ τ υ:PS}(h:nm σ τ)(k:nm τ υ):nm σ υ:=⟨h.n.trans k.n,h.nl.trans k.nl,fun t=>(h.get t).trans (k.get t),fun i=>(h.bo i).trans (k.bo i)⟩
theorem Rel.same{w0:World}{B:Nat->Prop}{σ τ:PS}{a:Act}{w:World}{L:Lk}(r:Rel w0 B σ a w L)(h:nm σ τ):Rel w0 B τ a w L:=
 ⟨r.hd,r.hs.trans h.n,fun t=>by rw[<-h.get];exact r.ht t,fun id b hb=>r.hb id b (by rw[h.bo];exact hb),fun id=>by rw[<-h.bo];exact r.hv id,r.hn,r.hw,r.hi,r.he,fun hn id b hb=>r.hl (by rw[h.nl];exact hn) id b (by rw[h.bo];exact hb)⟩
theorem vk(σ:PS)(f:mV)(id:Nat):(σ.mz f).bo id=match f with
 | .none=>σ.bo id
 | .new i b | .pW i b | .grow i b | .qX i b=>if i=id then some b else σ.bo id
 | .fin i=>if i=id then none else σ.bo id:=by
 cases f<;>first|rfl|exact DJ _ _ _ _|exact Ia _ _ _
theorem Ah(σ:PS)(d:Option Tmp)(u:Out)(t:Nat):(σ.app d u).get t=if d=some t then u.r else(σ.get t).kT u.f:=by
 unfold PS.app;cases d with
 | none=>
  rw[aB aj];exact PS.CT σ u.f t
 | some d=>
  rw[PS.F5,PS.CT];simp only[bc]
theorem vj(σ:PS)(d:Option Tmp)(u:Out)(id:Nat):(σ.app d u).bo id=(σ.mz u.f).bo id:=PS.TL _ _ _ _
theorem Bf(σ:PS)(d:Option Tmp)(u:Out):(σ.app d u).n=σ.n:=by unfold PS.app;rw[PS.Ii];rfl
theorem Bk(σ:PS)(d:Option Tmp)(u:Out):(σ.app d u).nl=σ.nl:=by unfold PS.app;rw[PS.abm];rfl
theorem ug(σ:PS)(d:Option Tmp)(u:Out)(id:Nat)(h:u.f.id≠some id):(σ.app d u).bo id=σ.bo id:=by
 rw[vj,vk];cases hf:u.f<;>rw[hf]at h<;>simp only[mV.id,ne_eq,bc]at h<;>first|rfl|exact aB h
section
variable {P:Program} {K:World->Prop} {T:List TI} {O:mc} {ops:Array Oper} {σ τ:PS} {o:Oper} {u:Out}
theorem VZ(h:eX P K T O σ o=some u){x:Operand}(hx:x ∈ o.op.operands):x ∈ Bo o.op:=by
 obtain⟨dst,op,ty,pos,after,guard⟩:=o;simp only at hx ⊢;cases op<;>first
  | (simp only[eX]at h;cases h;done)
  | (exfalso;simp[Op.operands]at hx;done)
  | (simpa[Op.operands,Bo]using hx)
  | (simpa[Op.operands,Bo,or_assoc]using hx)
  | skip
 case call c=>
  obtain⟨callee,args,ats⟩:=c;cases callee<;>simpa[Op.operands,Bo,Call.operands]using hx
theorem Bb{d:Option Tmp}{b:Bx}{rr:Nat->PV}{fo:List Prop}(h:rp σ d b rr fo=some u){id:Nat}{b':Bx}(hf:u.f = .new id b'):σ.bo id=none:=by
 obtain⟨i,_,iz,_,rfl⟩:=wF h;cases hf;exact iz
theorem VY(h:eX P K T O σ o=some u){id:Nat}{b:Bx}(hf:u.f = .new id b):σ.bo id=none:=by
 cases en:o.op
 case alloc=>
  simp only[eX,en]at h;split at h
  .split at h
   .exact Bb h hf
   .cases h
  .cases h
 case box=>
  simp only[eX,en]at h;split at h
  .split at h
   .exact Bb h hf
   .cases h
  .cases h
 case makeSlice=>
  simp only[eX,en,CJ]at h;split at h
  .exact Bb h hf
  .cases h
 case makeFunc fn first cap=>
  cases fn with
  | func f=>
   simp only[eX,en]at h
   repeat' split at h
   all_goals first
    | (cases h;done)
    | (cases h;cases hf;done)
  | _=>simp[eX,en]at h
 case slice t x lo hi mx=>
  cases mx with
  | none=>
   simp only[eX,en,CK]at h
   repeat' split at h
   all_goals first
    | (cases h;done)
    | (cases h;cases hf;done)
  | some=>simp[eX,en]at h
 case call c=>
  obtain⟨callee,args,ats⟩:=c;cases callee with
  | builtin b=>
   simp only[eX,en]at h;cases b
   case append=>
    dsimp only at h;split at h
    .split at h
     .split at h
      .unfold vE at h
       split at h
       .split at h
        .split at h
         .cases h;cases hf
         .cases h
        .cases h
       .cases h
      .simp only[uj]at h
       repeat' split at h
       all_goals first
        | (cases h;done)
        | exact Bb h hf
        | (cases h;cases hf;done)
     .cases h
    .cases h
   all_goals
    dsimp only at h
    repeat' split at h
    all_goals first
     | (cases h;done)
     | (cases h;cases hf;done)
     | (obtain⟨_,_,rfl⟩:=b6.1 h;cases hf)
  | value f=>
   simp only[eX,en]at h
   repeat' split at h
   all_goals first
    | (cases h;done)
    | (simp only[uk]at h;repeat' split at h)
   all_goals first
    | (cases h;done)
    | (cases h;cases hf;done)
    | (cases h;cases hf;assumption)
  | invoke _ _=>simp[eX,en]at h
 all_goals
  simp only[eX,en,CL,CH,CK,CI,A6]at h
  repeat' split at h
  all_goals first
   | (cases h;done)
   | (cases h;cases hf;done)
   | (obtain⟨_,_,rfl⟩:=b6.1 h;cases hf)
   | skip
 all_goals first
  | (obtain⟨_,_,h⟩:=ahh.1 h;repeat' split at h)
  | skip
 all_goals first
  | exact Bb h hf
  | (cases h;done)
  | (cases h;cases hf;done)
theorem FP(h:pz P K T O σ o=some u):∃ u0,eX P K T O σ o=some u0/\u0.rb=u.rb/\u0.f=u.f:=by
 unfold pz at h;split at h
 .rename_i u0 h0
  split at h
  .split at h
   .cases h;exact⟨u0,h0,rfl,rfl⟩
   .cases h;exact⟨_,h0,rfl,rfl⟩
  .cases h;exact⟨_,h0,rfl,rfl⟩
 .cases h
theorem V1(h:pz P K T O σ o=some u)(hg:∀ x,x ∈ o.op.operands->τ.op x=σ.op x)(hb:∀ id,id ∈ u.rb->σ.bo id=τ.bo id)(fE:σ.nl=τ.nl)(hn:∀ id b,u.f = .new id b->τ.bo id=none):
 pz P K T O τ o=some u:=by
 obtain⟨u0,h0,e1,e2⟩:=FP h;have:=VX (τ:=τ) h0 hg (by rw[e1];exact hb) fE (by rw[e2];exact hn);unfold pz at h ⊢;rw[h0]at h;rw[this];exact h
theorem Ab(h:mI P K T O ops σ o=some u):qx σ o.dst=true/\u.rd=(looks ops o).map σ.get/\((tW ops σ o=some true/\∃ u0,pz P K T O σ o=some u0/\u={ u0 with rd:=(looks ops o).map σ.get })\/(tW ops σ o=some false/\u={ r:=.e (.v (.tuple #[])),rd:=(looks ops o).map σ.get })):=by
 unfold mI at h;split at h
 .rename_i hi
  split at h
  .rename_i hw
   split at h
   .rename_i u0 h0
    cases h;exact⟨hi,rfl,.inl ⟨hw,u0,h0,rfl⟩⟩
   .cases h
  .rename_i hw
   cases h;exact⟨hi,rfl,.inr ⟨hw,rfl⟩⟩
  .cases h
 .cases h
theorem FN(h:mI P K T O ops σ o=some u)(hg:∀ t,t ∈ looks ops o->σ.get t=τ.get t)(hb:∀ id,id ∈ u.rb->σ.bo id=τ.bo id)(fE:σ.nl=τ.nl)(ie:σ.n=τ.n)(hn:∀ id b,u.f = .new id b->τ.bo id=none):
 mI P K T O ops τ o=some u:=by
 obtain⟨hi,_,hw⟩:=Ab h;have ik:qx τ o.dst=qx σ o.dst:=by cases o.dst<;>simp[qx,ie]
 have G7:tW ops τ o=tW ops σ o:=by
  unfold tW;cases vK:o.guard with
  | none=>rfl
  | some jw=>
   obtain⟨j,want⟩:=jw;cases hd:(ops[j]?).bind (·.dst)with
   | none=>simp[hd]
   | some t=>
    simp only[hd];rw[hg t (by unfold looks;rw[vK];simp[hd])]
 have GV:(looks ops o).map τ.get=(looks ops o).map σ.get:=ag4 fun t ht=>(hg t ht).symm
 unfold mI;rw[ik,hi,G7,GV];simp only[aW];rcases hw with⟨hw,u0,h0,rfl⟩|⟨hw,rfl⟩
 .rw [hw]
  have en:∀ x,x ∈ o.op.operands->τ.op x=σ.op x:=by
   intro x hx;obtain⟨u1,h1,_,_⟩:=FP h0;have hm:=VZ h1 hx;refine abu fun t ht=>hg t ?_
   subst ht;unfold looks;exact List.mem_append_left _ (aaX hm)
  simp only[V1 h0 en hb fE hn]
 .rw [hw]
theorem FO(h:mI P K T O ops σ o=some u){id:Nat}{b:Bx}(hf:u.f = .new id b):σ.bo id=none:=by
 obtain⟨_,_,⟨_,u0,h0,rfl⟩|⟨_,rfl⟩⟩:=Ab h
 .obtain ⟨u1,h1,_,e2⟩:=FP h0
  exact VY h1 (by rw[e2];exact hf)
 .cases hf
theorem V0(h:mI P K T O ops σ o=some u)(hs:nm σ τ):mI P K T O ops τ o=some u:=
 FN h (fun t _=>hs.get t) (fun id _=>hs.bo id) hs.nl hs.n fun id b hf=>by rw[<-hs.bo];exact FO h hf
theorem SH(hs:nm σ τ)(d:Option Tmp)(u:Out):nm (σ.app d u) (τ.app d u):=
 ⟨by rw[Bf,Bf];exact hs.n,by rw[Bk,Bk];exact hs.nl,fun t=>by rw[Ah,Ah,hs.get],fun id=>by rw[vj,vj,vk,vk,hs.bo]⟩
theorem swap{O':mc}{x y:Oper×Out}(hi:indep ops x y=true)(h1:mI P K T O ops σ x.1=some x.2)(h2:mI P K T O' ops (σ.app x.1.dst x.2) y.1=some y.2):
 mI P K T O' ops σ y.1=some y.2/\mI P K T O ops (σ.app y.1.dst y.2) x.1=some x.2/\nm ((σ.app x.1.dst x.2).app y.1.dst y.2) ((σ.app y.1.dst y.2).app x.1.dst x.2):=by
 simp only[indep,aX]at hi;obtain⟨⟨⟨⟨⟨⟨⟨⟨⟨i1,i2⟩,i3⟩,i4⟩,i5⟩,i6⟩,i7⟩,i8⟩,i9⟩,i10⟩:=hi;obtain⟨_,rx,_⟩:=Ab h1;obtain⟨_,ry,_⟩:=Ab h2;have r1:mI P K T O' ops σ y.1=some y.2:=by
  refine FN h2 (fun t ht=>?_) (fun id hid=>ug _ _ _ _ fun e=>DQ i4 e hid) (Bk _ _ _) (Bf _ _ _) fun id b hf=>?_
  .have hg:(σ.app x.1.dst x.2).get t=(σ.get t).kT x.2.f:=by
    rw[Ah,aB fun e=>DQ i1 e ht]
   rw[hg];by_cases hv:x.2.f.EC=true
   .have vQ:Is ((σ.get t).kT x.2.f)=true:=by
     have h9:y.2.rd.all Is=true:=by simpa[hv]using i9
     rw[ry]at h9;exact bg.1 h9 _ (cB.2 ⟨t,ht,hg⟩)
    rw[BY]at vQ ⊢;split at vQ
    .rename_i hk;rw[aC hk]
    .cases vQ
   .cases hf:x.2.f<;>rw[hf]at hv<;>first|exact absurd rfl hv|(cases σ.get t<;>rfl)
  .have:=FO h2 hf
   rwa[ug _ _ _ _ fun e=>Ew i6 e (by rw[hf];rfl) rfl]at this
 refine⟨r1,?_,?_⟩
 .refine FN h1 (fun t ht=>?_) (fun id hid=>(ug _ _ _ _ fun e=>DQ i5 e hid).symm) (Bk _ _ _).symm (Bf _ _ _).symm fun id b hf=>?_
  .rw [Ah,aB fun e=>DQ i3 e ht]
   rw[rx]at i10;exact(Hv (bg.1 i10 _ (cB.2 ⟨t,ht,rfl⟩))).symm
  .rw [ug _ _ _ _ fun e=>Ew i6 (by rw[hf];rfl) e rfl]
   exact FO h1 hf
 .refine ⟨by simp only[Bf],by simp only[Bk],fun t=>?_,fun id=>?_⟩
  .simp only[Ah]
   by_cases hx:x.1.dst=some t
   .have hy:¬y.1.dst=some t:=fun e=>Ew i2 hx e rfl
    rw[aB hy,aC hx,aC hx,Hv i8]
   .by_cases hy:y.1.dst=some t
    .rw [aC hy,aB hx,aC hy,Hv i7]
    .rw [aB hy,aB hx,aB hx,aB hy,afM]
  .by_cases hx:x.2.f.id=some id
   .have hy:y.2.f.id≠some id:=fun e=>Ew i6 hx e rfl
    rw[ug _ _ _ _ hy,vj,vj,vk,vk,ug _ _ _ _ hy]
   .rw [ug _ _ x.2 _ hx]
    rw[vj,vj,vk,vk,ug _ _ _ _ hx]
end
section
variable {P:Program} {K:World->Prop} {T:List TI} {O:mc} {ops:Array Oper}
def qO(P:Program)(K:World->Prop)(T:List TI)(ops:Array Oper):List (Oper×Out)->PS->PS->Prop
 | [],σ,τ=>nm σ τ
 | x::l,σ,τ=>(∃ O,mI P K T O ops σ x.1=some x.2)/\qO P K T ops l (σ.app x.1.dst x.2) τ
theorem qO.same{l:List (Oper×Out)}{σ σ2 τ:PS}(h:qO P K T ops l σ τ)(hs:nm σ σ2):qO P K T ops l σ2 τ:=by
 induction l generalizing σ σ2 with
 | nil=>exact hs.symm.trans h
 | cons x l ih=>exact⟨h.1.imp fun _ h=>V0 h hs,ih h.2 (SH hs _ _)⟩
theorem qO.front{A C:List (Oper×Out)}{y:Oper×Out}{σ τ:PS}(h:qO P K T ops (A++y::C) σ τ)(hi:∀ x,x ∈ A->indep ops x y=true):
 (∃ O,mI P K T O ops σ y.1=some y.2)/\qO P K T ops (A++C) (σ.app y.1.dst y.2) τ:=by
 induction A generalizing σ with
 | nil=>exact h
 | cons x A ih=>
  obtain⟨⟨O1,h1⟩,h2⟩:=h;obtain⟨⟨O2,k1⟩,k2⟩:=ih h2 fun z hz=>hi z (by simp[hz])
  obtain⟨s1,s2,s3⟩:=swap (hi x aj) h1 k1;exact⟨⟨O2,s1⟩,⟨O1,s2⟩,k2.same s3⟩
end
open Go.RowKit
section
variable {P:Program} {K:World->Prop} {T:List TI} {O:mc} {w0:World} {B:Nat->Prop} {σ τ:PS} {o:Oper} {a:Act} {w:World} {L:Lk} {u:Out} {ops:Array Oper}
theorem RY(r:Rel w0 B σ a w L){b:Bool}(h:tW ops σ o=some b):Region.wanted o (yielded ops a.tmps)=b:=by
 unfold tW at h;unfold Region.wanted;split at h
 .rename_i hg
  rw[hg];simpa using h
 .rename_i j want hg
  rw[hg];simp only;split at h
  .rename_i t ht
   have hv:=r.ht t;have key:∀ q:Bool,σ.get t = .e (.v (.bool q))->yielded ops a.tmps j=some q:=by
    intro q hq;rw[hq]at hv;have hv:=eo.gn hv;unfold yielded;rw[ht];simp only[Option.bind_some];have ek:a.tmps[t]? = some (.bool q):=by
     by_cases hs:t<a.tmps.size
     .simpa [hs]using hv
     .simp [hs,undef]at hv
    rw[ek]
   split at h
   .rename_i hq
    rw[key true hq];simp only[bc]at h;subst h;cases want<;>rfl
   .rename_i hq
    rw[key false hq];simp only[bc]at h;subst h;cases want<;>rfl
   .rename_i q hq
    rw[hq]at hv;have hv:=eo.gn hv;have hn:yielded ops a.tmps j=none:=by
     unfold yielded;rw[ht];simp only[Option.bind_some];by_cases hs:t<a.tmps.size
     .rw [show a.tmps[t]? = some (.tuple q)by simpa[hs]using hv]
     .simp [hs]
    rw[hn];simp only[bc]at h;subst h;cases want<;>rfl
   .cases h
  .cases h
theorem LP(hT:iC P T)(g:Gd P K w0 B)(r:Rel w0 B σ a w L)(h:mI P K T O ops σ o=some u)(ho:∀ q,q ∈ u.fo->q)(Kc:Act->World->Prop)(Q:Exit->Act->World->Prop)
 (hk:∀ a' w' L',Rel w0 B (σ.app o.dst u) a' w' L'->Kc a' w'):
 (Region.wanted o (yielded ops a.tmps)=true/\o.wp P a w Kc Q)\/(Region.wanted o (yielded ops a.tmps)=false/\Kc (a.put o.dst undef) w):=by
 obtain⟨hi,_,⟨hw,u0,h0,rfl⟩|⟨hw,rfl⟩⟩:=Ab h
 .refine .inl ⟨RY r hw,V2 hT g r h0 ho Kc Q fun v w' L' hr hp=>hk _ w' L' ?_⟩
  have kx:qx (σ.mz u0.f) o.dst=true:=by cases hd:o.dst<;>rw[hd]at hi<;>exact hi
  exact hr.put o.dst u0.r v kx hp
 .exact .inr ⟨RY r hw,hk _ w L (r.put o.dst (.e (.v (.tuple #[]))) undef hi (.v _))⟩
structure Left(ops:Array Oper)(listed:Array Bool)(R:List (Nat×Oper×Out)):Prop where
 at_:∀ x,x ∈ R->ops[x.1]? = some x.2.1/\listed.getD x.1 true=false
 all:∀ i,i<ops.size->listed.getD i true=false->∃ x,x ∈ R/\x.1=i
 pw:R.Pairwise fun x y=>x.1<y.1/\(reach ops 3 y.2.1 x.1||indep ops x.2 y.2)=true
 ed:∀ x,x ∈ R->∀ e,e ∈ x.2.1.after->Region.binds .any e=true->e.on<x.1
 up:∀ x,x ∈ R->∀ j z,ops[j]? = some z->wo z x.1=true->listed.getD j true=false
theorem Left.reach{listed:Array Bool}{R:List (Nat×Oper×Out)}(h:Left ops listed R){x:Nat×Oper×Out}(hx:x ∈ R):∀ (n:Nat) (j:Nat) (z:Oper),ops[j]? = some z->Pu.reach ops n z x.1=true ->
 listed.getD j true=false/\∃ e,e ∈ z.after/\Region.binds .any e=true/\listed.getD e.on true=false/\e.on<ops.size:=by
 have direct:∀ (j:Nat) (z:Oper),ops[j]? = some z->wo z x.1=true->listed.getD j true=false/\∃ e,e ∈ z.after/\Region.binds .any e=true/\listed.getD e.on true=false/\e.on<ops.size:=by
  intro j z hz he;refine⟨h.up x hx j z hz he,?_⟩;unfold wo at he;obtain⟨e,gq,fV⟩:=cX.1 he;simp only[aX]at fV;have kB:=h.at_ x hx;refine⟨e,by simpa using gq,fV.1,?_,?_⟩
  .rw [beq_iff.1 fV.2];exact kB.2
  .rw [beq_iff.1 fV.2];exact(cr.1 kB.1).1
 intro n
 induction n with
 | zero=>exact direct
 | succ n ih=>
  intro j z hz hr;simp only[Pu.reach,ag5]at hr;rcases hr with hr|hr
  .exact direct j z hz hr
  .obtain ⟨e,gq,fV⟩:=cX.1 hr
   simp only[aX]at fV;obtain⟨fV,Gw⟩:=fV;split at Gw
   .rename_i z' sd
    obtain⟨k1,_⟩:=ih e.on z' sd Gw;have ek:=(cr.1 sd).1;obtain⟨x',jD,Dt⟩:=h.all e.on ek k1;refine⟨h.up x' jD j z hz ?_,e,by simpa using gq,fV,k1,ek⟩;unfold wo;refine cX.2 ⟨e,gq,?_⟩;rw[fV,Dt];simp
   .cases Gw
theorem I3{md:Region.Mode}{listed:Array Bool}{i:Nat}:i ∈ Region.ready md ops listed↔i<ops.size/\listed.getD i true=false/\∃ o,ops[i]? = some o/\∀ e,e ∈ o.after->Region.binds md e=true->listed.getD e.on false=true:=by
 unfold Region.ready;rw[List.mem_filter];simp only[bt,aX,dJ];constructor
 .rintro ⟨h1,h2,h3⟩
  refine⟨h1,h2,ops[i],by simp[h1],fun e he hb=>?_⟩;rw[Array.getElem?_eq_getElem h1]at h3;simp only[b8,Option.getD_some,Array.all_eq_true_iff_forall_mem]at h3;have:=h3 e he;simpa[hb]using this
 .rintro ⟨h1,h2,o,h3,h4⟩
  refine⟨h1,h2,?_⟩;rw[h3];simp only[b8,Option.getD_some,Array.all_eq_true_iff_forall_mem];intro e he;cases hb:Region.binds md e with
  | false=>rfl
  | true=>simpa using h4 e he hb
theorem SC(hT:iC P T)(g:Gd P K w0 B){Q:Exit->Act->World->Prop}(hq:∀ a' w' L',Rel w0 B τ a' w' L'->Q .normal a' w'):
 ∀ (fuel:Nat) (listed:Array Bool) (R:List (Nat×Oper×Out)) (σ:PS) (a:Act) (w:World) (L:Lk),R.length=fuel->listed.size=ops.size->Left ops listed R->(∀ x,x ∈ R->∀ q,q ∈ x.2.2.fo->q) ->
  qO P K T ops (R.map (·.2)) σ τ->Rel w0 B σ a w L->wpAny P .any ops Q fuel listed a w:=by
 intro fuel
 induction fuel with
 | zero=>
  intro listed R σ a w L hlen xY hleft ho Dl r;have hR:=cE hlen;subst hR;refine⟨?_,hq a w L (r.same Dl)⟩;apply List.eq_nil_iff_forall_not_mem.2;intro i hi;obtain⟨h1,h2,_⟩:=I3.1 hi;obtain⟨x,hx,_⟩:=hleft.all i h1 h2;simp at hx
 | succ fuel ih=>
  intro listed R σ a w L hlen xY hleft ho Dl r;refine⟨fun vR=>?_,fun i hi=>?_⟩
  .
   exfalso;cases R with
   | nil=>simp at hlen
   | cons x R=>
    have hx:=hleft.at_ x aj;have ek:x.1<ops.size:=(cr.1 hx.1).1;have:x.1 ∈ Region.ready .any ops listed:=I3.2 ⟨ek,hx.2,x.2.1,hx.1,fun e he hb=>by
     have yh:=hleft.ed x aj e he hb;cases hl:listed.getD e.on true with
     | true=>
      have:e.on<listed.size:= ae ;simp[this]at hl ⊢;exact hl
     | false=>
      exfalso;obtain⟨y,hy,Du⟩:=hleft.all e.on ae hl;rcases cv.1 hy with hy|hy
      .subst hy;omega
      .have:=(List.pairwise_cons.1 hleft.pw).1 y hy;omega⟩
    rw[vR]at this;simp at this
  .obtain ⟨h1,h2,o,h3,h4⟩:=I3.1 hi
   obtain⟨y,hy,Zz⟩:=hleft.all i h1 h2;subst Zz;obtain⟨A,C,rfl⟩:=List.append_of_mem hy;have Dv:=hleft.at_ y hy;have YO:∀ x,x ∈ A->indep ops x.2 y.2=true:=by
    intro x hx;have hp:=(List.pairwise_append.1 hleft.pw).2.2 x hx y aj;rcases Bool.or_eq_true_iff.1 hp.2 with he|he
    .exfalso
     obtain⟨_,e,gq,fV,iA,ek⟩:=hleft.reach (show x ∈ A++y::C by simp[hx]) 3 y.1 y.2.1 Dv.1 he;have mZ:o=y.2.1:=by rw[Dv.1]at h3;exact(Option.some.inj h3).symm
     have hl:=h4 e (by rw[mZ];exact gq) fV;have ln:e.on<listed.size:=by rw[xY];exact ek
     simp[ln]at hl iA;rw[hl]at iA;cases iA
    .exact he
   rw[List.map_append,agK]at Dl;obtain⟨⟨O,k1⟩,k2⟩:=Dl.front (fun x hx=>by
    obtain⟨z,hz,rfl⟩:=cB.1 hx;exact YO z hz)
   have YU:Left ops (listed.setIfInBounds y.1 true) (A++C):=by
    have fK:∀ x,x ∈ A++C->x.1≠y.1:=by
     intro x hx;rcases cT.1 hx with hx|hx
     .have:=((List.pairwise_append.1 hleft.pw).2.2 x hx y aj).1;omega
     .have:=((List.pairwise_cons.1 (List.pairwise_append.1 hleft.pw).2.1).1 x hx).1;omega
    have Dq:∀ x,x ∈ A++C->x ∈ A++y::C:=fun x hx=>by
     rcases cT.1 hx with hx|hx<;>simp[hx]
    refine⟨fun x hx=>?_,fun j hj hl=>?_,?_,fun x hx=>hleft.ed x (Dq x hx),fun x hx j z hz he=>?_⟩
    .obtain ⟨q1,q2⟩:=hleft.at_ x (Dq x hx)
     refine⟨q1,?_⟩;have ln:x.1<listed.size:=by rw[xY];exact(cr.1 q1).1
     simp[ln]at q2 ⊢;rw[ahp _ (fun e=>fK x hx e.symm)];exact q2
    .have C8:j<listed.size:= ae 
     by_cases xX:j=y.1
     .subst xX
      simp[C8]at hl
     .have:listed.getD j true=false:=by
       simp[C8]at hl ⊢;rw[ahp _ (fun e=>xX e.symm)]at hl;exact hl
      obtain⟨x,hx,NB⟩:=hleft.all j hj this;refine⟨x,?_,NB⟩;rcases cT.1 hx with hx|hx
      .simp [hx]
      .rcases cv.1 hx with hx|hx
       .subst hx;exact absurd NB.symm xX
       .simp [hx]
    .exact hleft.pw.sublist (List.Sublist.append (List.Sublist.refl A) (List.sublist_cons_self y C))
    .have q:=hleft.up x (Dq x hx) j z hz he
     have C8:j<listed.size:=by rw[xY];exact(cr.1 hz).1
     by_cases xX:j=y.1
     .exfalso
      subst xX;rw[Dv.1]at hz h3;cases hz;cases h3;unfold wo at he;obtain⟨e,gq,fV⟩:=cX.1 he;simp only[aX]at fV;have hl:=h4 e (by simpa using gq) fV.1;rw[beq_iff.1 fV.2]at hl;have iA:=(hleft.at_ x (Dq x hx))
      have ln:x.1<listed.size:=by rw[xY];exact(cr.1 iA.1).1
      have iA:=iA.2;simp[ln]at hl iA;rw[hl]at iA;cases iA
     .simp [C8]at q ⊢
      rw[ahp _ (fun e=>xX e.symm)];exact q
   unfold wpOp;rw[Dv.1];simp only;rcases LP hT g r k1 (ho y aj) (wpAny P .any ops Q fuel (listed.setIfInBounds y.1 true)) Q (fun a' w' L' hr=>ih _ (A++C) _ a' w' L' (by simp at hlen ⊢;omega) (by simpa using xY) YU (fun x hx=>ho x (by
    rcases cT.1 hx with hx|hx<;>simp[hx])) (by rw[List.map_append];exact k2) hr)with⟨p1,p2⟩|⟨p1,p2⟩
   .rw [aC p1];exact .inl p2
   .rw [aB (by rw[p1];simp)];exact p2
theorem aau{us:List (Oper×Out)}(tg:us.map (·.1)=ops.toList)(hp:yR ops 0 us=true):
 ∃ R:List (Nat×Oper×Out),R.map (·.2)=us/\R.length=ops.size/\Left ops (Array.replicate ops.size false) R:=by
 have key:∀ (us:List (Oper×Out)) (k:Nat),yR ops k us=true->(∀ j x,us[j]? = some x->ops[k+j]? = some x.1) ->
  ∃ R:List (Nat×Oper×Out),R.map (·.2)=us/\(∀ j x,R[j]? = some x->x.1=k+j)/\(∀ x,x ∈ R->ops[x.1]? = some x.2.1)/\(R.Pairwise fun x y=>x.1<y.1/\(reach ops 3 y.2.1 x.1||indep ops x.2 y.2)=true) /\
   (∀ x,x ∈ R->∀ e,e ∈ x.2.1.after->Region.binds .any e=true->e.on<x.1):=by
  intro us
  induction us with
  | nil=>exact fun k _ _=>⟨[],rfl,fun j x h=>by simp at h,fun x h=>by simp at h,List.Pairwise.nil,fun x h=>by simp at h⟩
  | cons x us ih=>
   intro k hp kB;simp only[yR,aX]at hp;obtain⟨R,r1,r2,r3,r4,r5⟩:=ih (k+1) hp.2 (fun j y hy=>by have:=kB (j+1) y (by simpa using hy);rwa[show k+(j+1)=k+1+j by omega]at this);have mA:∀ y,y ∈ R->k<y.1/\y.2 ∈ us:=by
    intro y hy;obtain⟨j,hj⟩:=cG.1 hy;have:=r2 j y hj;exact⟨ ae,by rw[<-r1];exact cB.2 ⟨y,hy,rfl⟩⟩
   refine⟨(k,x)::R,by simp[r1],fun j y hy=>?_,fun y hy=>?_,?_,fun y hy=>?_⟩
   .cases j with
    | zero=>simp at hy;subst hy;rfl
    | succ j=>have:=r2 j y (by simpa using hy);omega
   .rcases cv.1 hy with hy|hy
    .subst hy;have:=kB 0 x rfl;simpa using this
    .exact r3 y hy
   .rw [List.pairwise_cons]
    refine⟨fun y hy=>⟨(mA y hy).1,?_⟩,r4⟩;exact bg.1 hp.1.2 y.2 (mA y hy).2
   .rcases cv.1 hy with hy|hy
    .subst hy
     intro e he hb;have:=bg.1 hp.1.1 e (by simpa using he);simpa[hb]using this
    .exact r5 y hy
 obtain⟨R,r1,r2,r3,r4,r5⟩:=key us 0 hp (fun j x hx=>by
  rw[bK];have:=congrArg (·[j]?) tg;simp only[bL,hx,b8]at this;simpa using this.symm)
 have hlen:R.length=ops.size:=by
  have h1:=congrArg List.length r1;have h2:=congrArg List.length tg;simp at h1 h2;omega
 refine⟨R,r1,hlen,fun x hx=>⟨r3 x hx,?_⟩,fun i hi _=>?_,r4,r5,fun x hx j z hz _=>by have:=(cr.1 hz).1;simp[this]⟩
 .have:=(cr.1 (r3 x hx)).1
  simp[this]
 .have kx:i<R.length:= ae 
  exact⟨R[i],bR kx,by have:=r2 i R[i] (aM kx);omega⟩
end
open Go.RowKit
def PS.le(σ τ:PS):Prop:=∀ (w0:World) (B:Nat->Prop) (a:Act) (w:World) (L:Lk),(∀ b,B b->b<w0.heap.size)->Rel w0 B σ a w L->∃ L',Rel w0 B τ a w L'
theorem PS.le.refl(σ:PS):PS.le σ σ:=fun _ _ _ _ L _ r=>⟨L,r⟩
theorem PS.le.trans{σ τ υ:PS}(h:PS.le σ τ)(k:PS.le τ υ):PS.le σ υ:=fun w0 B a w L g r=>let⟨L',r'⟩:=h w0 B a w L g r;k w0 B a w L' g r'
theorem PV.le.refl(p:PV):PV.le p p:=fun _ _ _ _ _ h=>h
def Bx.le(a b:Bx):Prop:=(a.nl=true->b.nl=true)/\∀ (bs br:Nat->Prop) (L:Lk) (w:World) (id:Nat),nj bs br L w id a->nj bs br L w id b
theorem Bx.le.refl(a:Bx):Bx.le a a:=⟨id,fun _ _ _ _ _ h=>h⟩
def rH(σ:PS):List (Nat×PV)->Prop
 | []=>True
 | (k,p)::l=>PV.le (σ.get k) p/\rH σ l
def qN(σ:PS):List (Nat×Bx)->Prop
 | []=>True
 | (id,b)::l=>(∃ b',σ.bo id=some b'/\Bx.le b' b)/\qN σ l
def BC(τ:PS):Bool:=τ.t.all fun x=>x.2.refs.all fun id=>(look τ.b id).isSome
theorem Ib{α:Type}{l:List (Nat×α)}{t:Nat}{x:α}(h:look l t=some x):(t,x) ∈ l:=by
 induction l with
 | nil=>cases h
 | cons y l ih=>
  obtain⟨k,z⟩:=y;rw[pg]at h;split at h
  .rename_i e;cases h;subst e;exact .head _
  .exact .tail _ (ih h)
theorem rH.get{σ:PS}{l:List (Nat×PV)}(h:rH σ l){t:Nat}{p:PV}(k:look l t=some p):PV.le (σ.get t) p:=by
 induction l with
 | nil=>cases k
 | cons y l ih=>
  obtain⟨q,z⟩:=y;rw[pg]at k;split at k
  .rename_i e;cases k;subst e;exact h.1
  .exact ih h.2 k
theorem qN.get{σ:PS}{l:List (Nat×Bx)}(h:qN σ l){t:Nat}{b:Bx}(k:look l t=some b):∃ b',σ.bo t=some b'/\Bx.le b' b:=by
 induction l with
 | nil=>cases k
 | cons y l ih=>
  obtain⟨q,z⟩:=y;rw[pg]at k;split at k
  .rename_i e;cases k;subst e;exact h.1
  .exact ih h.2 k
theorem PS.le.lf{σ τ:PS}(hn:σ.n=τ.n)(fE:τ.nl=σ.nl)(hr:BC τ=true)(ht:rH σ τ.t)(hb:qN σ τ.b):PS.le σ τ:=fun w0 B a w L _ r=>by
 let L':Lk:=⟨fun id=>L.live id/\(τ.bo id).isSome=true,fun id x=>L.own id x/\(τ.bo id).isSome=true,L.val,L.eK⟩
 have ek:oP L w L' w:=⟨aG _,fun x _ ⟨id,h,_⟩=>⟨id,h⟩,fun _ _ _=>rfl⟩
 refine⟨L',r.hd,by rw[<-hn];exact r.hs,fun t=>?_,fun id b h=>?_,fun id=>?_,fun id x h=>⟨r.hn id x h.1,h.2⟩,fun id x h=>r.hw id x h.1,fun id id' x h k=>r.hi id id' x h.1 k.1,r.he,fun h id b k=>?_⟩
 .have hg:τ.get t=((look τ.t t)).getD (.e .any):=rfl
  cases hl:look τ.t t with
  | none=>rw[hg,hl];exact .any _
  | some p=>
   rw[hg,hl];have:=ht.get hl _ _ _ _ _ (r.ht t);refine jA.move ek this fun id hid qp=>⟨⟨qp,?_⟩,rfl,fun _=>rfl⟩
   have q:=bg.1 hr _ (Ib hl);exact bg.1 q id hid
 .obtain ⟨b',h1,h2⟩:=hb.get h
  have hs:(τ.bo id).isSome=true:=by rw[h];rfl
  exact(h2.2 _ _ _ _ _ (r.hb id b' h1)).later ek rfl (fun x=>⟨fun q=>q.1,fun q=>⟨q,hs⟩⟩) (fun _=>rfl) fun _ _=>rfl
 .show L.live id/\(τ.bo id).isSome=true↔(τ.bo id).isSome=true
  refine⟨fun h=>h.2,fun h=>⟨(r.hv id).2 ?_,h⟩⟩;obtain⟨b,fQ⟩:=ahi.1 h;obtain⟨b',h1,_⟩:=hb.get fQ;rw[h1];rfl
 .obtain ⟨b',h1,h2⟩:=hb.get k
  exact h2.1 (r.hl (by rw[<-fE];exact h) id b' h1)
def zP(σ:PS):List Nat->List (Nat×Bx)
 | []=>[]
 | i::l=>match σ.bo i with
  | some b=>(i,b)::zP σ l
  | none=>zP σ l
def PS.cut(ts bs:List Nat)(σ:PS):PS:={ n:=σ.n,nl:=σ.nl,t:=ts.map fun t=>(t,σ.get t),b:=zP σ bs }
theorem rH.cut(σ:PS):∀ ts:List Nat,rH σ (ts.map fun t=>(t,σ.get t))
 | []=>trivial
 | _::l=>⟨PV.le.refl _,rH.cut σ l⟩
theorem qN.cut(σ:PS):∀ bs:List Nat,qN σ (zP σ bs)
 | []=>trivial
 | i::l=>by
  unfold zP;split
  .rename_i b h
   exact⟨⟨b,h,Bx.le.refl b⟩,qN.cut σ l⟩
  .exact qN.cut σ l
theorem PS.le.cut{σ:PS}(ts bs:List Nat)(hr:BC (σ.cut ts bs)=true):PS.le σ (σ.cut ts bs):=PS.le.lf rfl rfl hr (rH.cut σ ts) (qN.cut σ bs)
open Go.RowKit
def Ex.to:Ex->Exit
 | .normal=>.normal
 | .exit id=>.exit id
 | .ret=>.ret
def Sp(P:Program)(K:World->Prop)(c:Code)(σ:PS)(Q:Ex->PS->Prop):Prop:=
 ∀ (w0:World) (B:Nat->Prop) (a:Act) (w:World) (L:Lk),Gd P K w0 B->Rel w0 B σ a w L->c.wp P (fun e a' w'=>∃ ex τ L',e=ex.to/\Q ex τ/\Rel w0 B τ a' w' L') a w
theorem Sp.mono{P:Program}{K:World->Prop}{c:Code}{σ:PS}{Q Q':Ex->PS->Prop}(h:Sp P K c σ Q)(hq:∀ e τ,Q e τ->Q' e τ):Sp P K c σ Q':=
 fun w0 B a w L g r=>Code.wp_mono (fun _ _ _ ⟨ex,τ,L',h1,h2,h3⟩=>⟨ex,τ,L',h1,hq _ _ h2,h3⟩) (h w0 B a w L g r)
abbrev Lo:=List (Nat×(Ex×PS×List Nat×List Nat))
section
variable {P:Program} {K:World->Prop} {T:List TI} {O:mc} {lo:Lo}
theorem Sp.loop{b:Code}{Q:Ex->PS->Prop}(J:Nat->PS->Prop)(vY:∀ n σ,J n σ->Sp P K b σ (fun e τ=>(e = .normal/\∃ m,m<n/\J m τ)\/(e ≠ .normal/\Q e τ))):
 ∀ n σ,J n σ->Sp P K (.loop b) σ Q:=by
 intro n0 σ0 X1 w0 B a0 w1 L0 g r0 bf k cs;have key:∀ n σ a w L,J n σ->Rel w0 B σ a w L ->
  ∃ e a' w',(∃ ex τ L',e=ex.to/\Q ex τ/\Rel w0 B τ a' w' L')/\Arrives P (lone (bf.at a (.code b :: .inLoop b::k)) cs w) bf k cs e a' w':=by
  intro n
  induction n using Nat.strongRecOn with
  | _ n ih=>
   intro σ a w L hJ r;obtain⟨e,a₁,w₁,⟨ex,υ,L2,rfl,hq,jO⟩,q6⟩:=vY n σ hJ w0 B a w L g r bf (.inLoop b::k) cs;rcases hq with⟨rfl,m,hm,Ga⟩|⟨fK,hq⟩
   .obtain ⟨e₂,a₂,w₂,GS,Gp⟩:=ih m hm υ a₁ w₁ L2 Ga jO
    exact⟨e₂,a₂,w₂,GS,.of_steps (Steps.trans q6 (.one step_inLoop)) Gp⟩
   .cases ex with
    | normal=>exact absurd rfl fK
    | exit i=>exact⟨_,a₁,w₁,⟨.exit i,υ,L2,rfl,hq,jO⟩,.pass (x:=.inLoop b) rfl (fun _ _=>.inl (by simp[Ex.to])) q6⟩
    | ret=>exact⟨_,a₁,w₁,⟨.ret,υ,L2,rfl,hq,jO⟩,.pass (x:=.inLoop b) rfl (fun _ _=>.inl (by simp[Ex.to])) q6⟩
 obtain⟨e,a',w',hq,q6⟩:=key n0 σ0 a0 w1 L0 X1 r0;exact⟨e,a',w',hq,.of_steps (.one step_loop) q6⟩
theorem afi{w0:World}{B:Nat->Prop}{σ:PS}{a:Act}{w:World}{L:Lk}(hB:∀ b,B b->b<w0.heap.size)(r:Rel w0 B σ a w L){p:PV}{e:E}(h:Et σ p=some e){v:Value}(hv:jA (bad B L) (fH L) L w p v):
 eo B (fun _=>True) w e v:=by
 have ML:∀ id x,L.own id x->¬B x:=fun id x hx hb=>by have:=hB x hb;have:=(r.hw id x hx).1;omega
 have own:∀ (v:Value) (T:TypeId) (n sz:Nat) (f:Nat->Nat->Value) (nl:Bool) (el:Nat->Nat->E) (id:Nat),me w v T n sz f nl->(∀ x,v.ownBlock=some x->L.own id x) ->
  (∀ i j,i<n->j<sz->eo (bad B L) (fH L) w (el i j) (f i j)/\(el i j).nr 2=true)->eo B (fun _=>True) w (.sl nl n sz el) v:=by
  intro v T n sz f nl el id h1 h2 h3;rcases h1 with⟨rfl,rfl⟩|⟨b,c,cur,rfl,hg,lj,kv,jB,gG,fE⟩
  .exact .sl nl 0 sz el none 0 f (aG _) ag (fun _=>rfl) (fun i j hi=>absurd hi (aV i)) (fun i j hi=>absurd hi (aV i)) (fun i j hi=>absurd hi (aV i)) (fun i j hi=>absurd hi (aV i))
  .have mZ:=h2 b rfl
   refine .sl nl n sz el _ c f lj (by unfold maxLen at kv;omega) (fun h=>by cases h) (fun i j hi hj=>⟨(gG i j hi hj).2,fun hn=>fE hn _ (cR (gG i j hi hj).1)⟩) (fun i j hi hj=>(h3 i j hi hj).2)
    (fun i j hi hj=>⟨b,0,rfl,ML id b mZ,(r.hw id b mZ).2,?_⟩) (fun i j hi hj=>((h3 i j hi hj).1.ni (fun _ h=>.inl h) (fun _ h=>h)).nr 2 (h3 i j hi hj).2)
   rw[bK];simp only[World.cell?,hg];simpa using(gG i j hi hj).1
 cases p with
 | e x=>
  simp only[Et]at h;split at h
  .rename_i hn
   cases h;exact(eo.ni (bs':=B) (br':=fH L) (fun _ h=>.inl h) (fun _ h=>h) hv).nr 3 hn
  .cases h
 | own id=>
  obtain⟨_,rfl⟩:=hv;simp only[Et]at h;split at h
  .rename_i nl T n sz el fQ
   cases h;obtain⟨f,h1,h2,h3⟩:=r.hb id _ fQ;exact own _ T n sz f nl el id h1 (fun x hx=>(h2 x).2 hx) h3
  .rename_i nl T1 T0 n sz len el fQ
   cases h;obtain⟨b,c,cur,f,h1,h2,h3,h4,h5,h6,h7,h8,h9,qY,rW⟩:=r.hb id _ fQ;have mZ:L.own id b:=(h9 b).2 (.inl rfl);rw[h1];refine .sl true n 1 _ _ c (fun k _=>L.eK id k) h3 (by unfold maxLen at h4;omega) (fun h=>by cases h) (fun k j hk hj=>?_) (fun k j hk hj=>rfl)
    (fun k j hk hj=>⟨b,0,rfl,ML id b mZ,(r.hw id b mZ).2,?_⟩) (fun k j hk hj=>own _ T0 (len k) sz (f k) nl (el k) id (h8 k hk).1 (fun x hx=>(h9 x).2 (.inr ⟨k,hk,hx⟩)) (h8 k hk).2)
   .obtain ⟨q1,q2⟩:=h7 _ (cR (h6 k hk aj))
    exact⟨q1,fun _=>q2⟩
   .rw [bK,bD]
    obtain rfl:j=0:= ae ;simp only[World.cell?,h2];simpa using h6 k hk aj 
  .cases h
 | _=>cases h
def wR(tmps:Array Value):ResultVar->Sem Value
 | .tmp t=>Pure.pure (tmps.getD t undef)
 | .cell q t=>do loadVar t (<-asAddr (tmps.getD q undef))
theorem I8(fn:Func)(tmps:Array Value):results fn tmps=(do
 let vs <-fn.results.mapM (wR tmps)
 Pure.pure (if h:vs.size=1 then vs[0]else .tuple vs)):=by
 unfold results;congr 1
theorem adA{w0:World}{B:Nat->Prop}{σ:PS}{a:Act}{w:World}{L:Lk}(hT:iC P T)(hB:∀ b,B b->b<w0.heap.size)(r:Rel w0 B σ a w L){x:ResultVar}{e:E}(h:I7 T σ x=some e):
 ∃ v,(wR a.tmps x).run P w = .ok v w/\eo B (fun _=>True) w e v:=by
 cases x with
 | tmp t=>exact⟨_,rfl,afi hB r h (r.ht t)⟩
 | cell q t=>
  simp only[I7]at h;split at h
  .rename_i ti mC
   split at h
   .rename_i l is GV
    obtain⟨b,of,vs,e1,h1,h2,h3⟩:=r.read (r.ht q) GV (fun q hq=>by simp at hq);by_cases ha:ti.isAgg=true
    .rw [aC ha]at h
     split at h
     .rename_i hn
      cases h;refine⟨.agg vs.toArray,?_,(eo.ni (bs':=B) (br':=fH L) (fun _ h=>.inl h) (fun _ h=>h) h1.agg).nr 3 hn⟩;simp only[wR,e1,asAddr,Sem.run_bind,Sem.run_pure,Result.andThen_ok,QH hT w mC ha b of vs h2 h3]
     .cases h
    .rw [aB ha]at h
     split at h
     .rename_i y
      split at h
      .rename_i hn
       cases h;obtain⟨z,zs,rfl,hz,_⟩:=h1.iw;refine⟨z,?_,(eo.ni (bs':=B) (br':=fH L) (fun _ h=>.inl h) (fun _ h=>h) hz).nr 3 hn⟩;simp only[wR,e1,asAddr,Sem.run_bind,Sem.run_pure,Result.andThen_ok,Ji hT w mC (by simpa using ha) b of z (by simpa using h3 0 z rfl)]
      .cases h
     .cases h
   .cases h
  .cases h
theorem ady{w0:World}{B:Nat->Prop}{σ:PS}{a:Act}{w:World}{L:Lk}(hT:iC P T)(hB:∀ b,B b->b<w0.heap.size)(r:Rel w0 B σ a w L){l:List ResultVar}{es:List E}(h:yX T σ l=some es):
 ∃ vs,(l.mapM (wR a.tmps)).run P w = .ok vs w/\fM B (fun _=>True) w es vs:=by
 induction l generalizing es with
 | nil=>simp only[yX,bc]at h;subst h;exact⟨[],rfl,.nil _ _ _⟩
 | cons x l ih=>
  simp only[yX]at h;split at h
  .rename_i e es' h1 h2
   cases h;obtain⟨v,q1,q2⟩:=adA hT hB r h1;obtain⟨vs,p1,p2⟩:=ih h2;refine⟨v::vs,?_,.cons q2 p2⟩;rw[List.mapM_cons];simp only[Sem.run_bind,q1,Result.andThen_ok,p1,Sem.run_pure]
  .cases h
theorem adz{w0:World}{B:Nat->Prop}{σ:PS}{a:Act}{w:World}{L:Lk}(hT:iC P T)(hB:∀ b,B b->b<w0.heap.size)(r:Rel w0 B σ a w L){fn:Func}{e:E}(h:D8 T fn σ=some e):
 ∃ v,(results fn a.tmps).run P w = .ok v w/\eo B (fun _=>True) w e v:=by
 unfold D8 at h;have main:∀ es,yX T σ fn.results.toList=some es->∃ vs:List Value,(fn.results.mapM (wR a.tmps)).run P w = .ok vs.toArray w/\fM B (fun _=>True) w es vs:=by
  intro es Yz;obtain⟨vs,h1,h2⟩:=ady hT hB r Yz;refine⟨vs,?_,h2⟩;rw[Array.mapM_eq_mapM_toList];simp only[Sem.run_map,h1,Result.andThen_ok]
 split at h
 .rename_i y hy
  cases h;obtain⟨vs,h1,h2⟩:=main _ hy;obtain⟨v,vs',rfl,hv,vR⟩:=h2.iw;have:=vR.lV;subst this;refine⟨v,?_,hv⟩;rw[I8,Sem.run_bind,h1];simp
 .rename_i l fK hl
  cases h;obtain⟨vs,h1,h2⟩:=main _ hl;refine⟨.tuple vs.toArray,?_,h2.ef⟩;rw[I8,Sem.run_bind,h1];have hlen:¬vs.length=1:=by
   rw[h2.len];intro e1
   match l,e1 with
   | [y],_=>exact fK y rfl
  simp[hlen]
 .cases h
theorem ZT(args:List E):∀ (k t:Nat),look (AU k args) t=if k<=t then(args[t-k]?).map .e else none:=by
 induction args with
 | nil=>intro k t;simp[AU,look]
 | cons x l ih=>
  intro k t;simp only[AU];rw[pg,ih (k+1) t];by_cases h:k=t
  .subst h;simp
  .rw [aB h]
   by_cases h2:k<=t
   .rw [aC ae,aC h2,show t-k=(t-(k+1))+1 by omega]
    simp
   .rw [aB ae,aB h2]
theorem Rel.init{B:Nat->Prop}{w:World}{fn:Func}{args:List E}{vs:List Value}(hr:fM B (fun _=>False) w args vs)(hn:args.length<=fn.ntmps)(nl:Bool)(_hB:∀ b,B b->b<w.heap.size/\ks w b):
 Rel w B (uH fn nl args) { tmps:=vs.toArray++Array.replicate (fn.ntmps-vs.toArray.size) undef,defers:=[] } w ⟨fun _=>False,fun _ _=>False,fun _=>undef,fun _ _=>undef⟩:=by
 have hlen:=hr.len;refine⟨rfl,by simp[uH];omega,fun t=>?_,fun id b hb=>(by cases hb),fun id=>⟨fun h=>h.elim,fun h=>(by cases h)⟩,fun _ _ h=>h.elim,fun _ _ h=>h.elim,fun _ _ _ h=>h.elim,Below.refl _ _,fun _ id b hb=>(by cases hb)⟩;have hg:(uH fn nl args).get t=((args[t]?).map PV.e).getD (.e .any):=by
  unfold PS.get uH;rw[ZT];simp
 rw[hg];by_cases ht:t<args.length
 .have Dr:t<vs.length:= ae 
  rw[aM ht];have hv:(vs.toArray++Array.replicate (fn.ntmps-vs.toArray.size) undef).getD t undef=vs[t]:=by
   simp[Array.getElem?_append,Dr]
  show eo _ _ _ _ _;rw[hv];exact(hr.rep t _ _ (aM ht) (aM Dr)).ni (fun b h=>h.elim id fun⟨_,h⟩=>h.elim) (fun _ ⟨_,h⟩=>h.elim)
 .rw [bu ae]
  exact .any _
theorem PC.Ih(hT:iC P T)(hm:P.follows .mixedOrders=true)(hp:∀ w w',K w->Below w.heap.size w w'->K w'){f:FuncId}{fn:Func}{c:Code}{args:List E}{fu:E}(q8:∀ (vs:Array Value) (w:World),(callFunc f vs).run P w = .ok (.enter f vs) w)
 (hf:P.funcs[f]? = some fn) (hb:fn.body=some c) (hn:args.length<=fn.ntmps) (nl:Bool)
 (h:Sp P K c (uH fn nl args) (fun e τ=>(e = .ret\/e = .normal)/\∃ r,D8 T fn τ=some r/\∀ (bs br:Nat->Prop) (w:World) (v:Value),eo bs br w r v->eo bs br w fu v)):PC P K f args fu:=by
 refine⟨q8,fun w B vs hK hB hr=>calls_of_wp hf hb ?_⟩;have rm:=Rel.init (fn:=fn) hr hn nl hB;refine Code.wp_mono ?_ (h w B _ w _ ⟨hK,hp,hB⟩ rm);rintro e a' w' ⟨ex,τ,L',rfl,⟨he,r,AH,hle⟩,nA⟩;obtain⟨v,h1,h2⟩:=adz hT (fun b hb=>(hB b hb).1) nA AH;have AD:a'.defers=[]/\∃ v,(results fn a'.tmps).run P w' = .ok v w'/\∃ v',Ending.returned v = .returned v'/\Below w.heap.size w w'/\eo B (fun _=>True) w' fu v':=⟨nA.hd,v,h1,v,rfl,nA.he,hle _ _ _ _ h2⟩
 rcases he with rfl|rfl
 .exact AD
 .exact AD
theorem pZ.Ih(hT:iC P T)(hm:P.follows .mixedOrders=true)(hp:∀ w w',K w->Below w.heap.size w w'->K w'){f:FuncId}{fn:Func}{c:Code}{args:List E}(q8:∀ (vs:Array Value) (w:World),(callFunc f vs).run P w = .ok (.enter f vs) w)
 (hf:P.funcs[f]? = some fn) (hb:fn.body=some c) (hn:args.length<=fn.ntmps) (nl:Bool) {nl':Bool} {T0:TypeId} {n sz:Nat} {el:Nat->Nat->E}
 (h:Sp P K c (uH fn nl args) (fun e τ=>(e = .ret\/e = .normal)/\∃ t id b,fn.results.toList=[.tmp t]/\τ.get t = .own id/\τ.bo id=some b/\∀ (bs br:Nat->Prop) (L:Lk) (w:World),nj bs br L w id b->nj bs br L w id (.row nl' T0 n sz el))):pZ P K f args nl' T0 n sz el:=by
 refine⟨q8,fun w B vs hK hB hr=>calls_of_wp hf hb ?_⟩;have rm:=Rel.init (fn:=fn) hr hn nl hB;refine Code.wp_mono ?_ (h w B _ w _ ⟨hK,hp,hB⟩ rm);rintro e a' w' ⟨ex,τ,L',rfl,⟨he,t,id,b,AH,hg,fQ,hle⟩,nA⟩;have ho:=nA.ht t;rw[hg]at ho;obtain⟨qp,hv⟩:=ho;obtain⟨f0,h1,h2,h3⟩:=hle _ _ _ _ (nA.hb id b fQ);have gV:(results fn a'.tmps).run P w' = .ok (L'.val id) w':=by
  rw[I8,Sem.run_bind,Array.mapM_eq_mapM_toList,AH,Sem.run_map,List.mapM_cons];simp only[wR,Sem.run_bind,Sem.run_pure,Result.andThen_ok,List.mapM_nil,hv];simp
 have AD:a'.defers=[]/\∃ v,(results fn a'.tmps).run P w' = .ok v w'/\∃ v',Ending.returned v = .returned v'/\Below w.heap.size w w'/\∃ g,me w' v' T0 n sz g nl'/\(∀ x,v'.ownBlock=some x->w.heap.size<=x/\x<w'.heap.size) /\
  ∀ i j,i<n->j<sz->eo (fun b=>B b\/v'.ownBlock=some b) (fun _=>True) w' (el i j) (g i j)/\(el i j).nr 2=true:=by
  refine⟨nA.hd,_,gV,_,rfl,nA.he,f0,h1,fun x hx=>nA.hw id x ((h2 x).2 hx),fun i j hi hj=>⟨?_,(h3 i j hi hj).2⟩⟩;refine((h3 i j hi hj).1.ni (bs':=fun b=>B b\/(L'.val id).ownBlock=some b) (br':=fH L') (fun b hb=>?_) (fun _ h=>h)).nr 2 (h3 i j hi hj).2;rcases hb with hb|hb
  .exact .inl hb
  .exact .inr ⟨id,(h2 b).2 hb⟩
 rcases he with rfl|rfl
 .exact AD
 .exact AD
end
open Go.RowKit
def Cb(P:Program):List TI->Prop
 | []=>True
 | x::l=>(P.underlying x.id=some x.d/\P.info? x.id=some x.i)/\Cb P l
theorem Cb.ok{P:Program}{T:List TI}(h:Cb P T):iC P T:=by
 induction T with
 | nil=>intro x hx;simp at hx
 | cons y l ih=>
  intro x hx;rcases cv.1 hx with hx|hx
  .subst hx;exact h.1
  .exact ih h.2 x hx
def E.le(p q:E):Prop:=∀ (bs br:Nat->Prop) (w:World) (v:Value),eo bs br w p v->eo bs br w q v
theorem E.le.refl(p:E):E.le p p:=fun _ _ _ _ h=>h
theorem E.le.of_eq{p q:E}(h:p=q):E.le p q:=h▸E.le.refl p
theorem E.le.trans{p q r:E}(h:E.le p q)(k:E.le q r):E.le p r:=fun _ _ _ _ x=>k _ _ _ _ (h _ _ _ _ x)
theorem PV.le.e{p q:E}(h:E.le p q):PV.le (.e p) (.e q):=fun bs br _ w v k=>h bs br w v k
theorem PV.le.bool{a b:Bool}(h:a=b):PV.le (.e (.v (.bool a))) (.e (.v (.bool b))):=PV.le.e (.of_eq (by rw[h]))
theorem PV.le.int{k:IntKind}{a b:Int}(h:a=b):PV.le (.e (.v (.int k a))) (.e (.v (.int k b))):=PV.le.e (.of_eq (by rw[h]))
inductive pq:List E->List E->Prop
 | nil:pq [] []
 | cons {p q:E} {l m:List E} (h:E.le p q) (k:pq l m):pq (p::l) (q::m)
theorem pq.refl:∀ l:List E,pq l l
 | []=>.nil
 | p::l=>.cons (.refl p) (pq.refl l)
theorem pq.D7{l m:List E}(h:pq l m){bs br:Nat->Prop}{w:World}{vs:List Value}(k:fM bs br w l vs):fM bs br w m vs:=by
 induction h generalizing vs with
 | nil=>exact k
 | cons h _ ih=>
  obtain⟨x,ys,rfl,h1,h2⟩:=k.iw;exact .cons (h _ _ _ _ h1) (ih h2)
theorem E.le.agg{l m:List E}(h:pq l m):E.le (.agg l) (.agg m):=fun _ _ _ _ k=>by
 obtain⟨vs,rfl,hr⟩:=eo.xh k;exact(h.D7 hr).agg
theorem E.le.ef{l m:List E}(h:pq l m):E.le (.ef l) (.ef m):=fun _ _ _ _ k=>by
 obtain⟨vs,rfl,hr⟩:=eo.RG k;exact(h.D7 hr).ef
theorem E.le.nil(nl:Bool)(sz:Nat)(el:Nat->Nat->E):E.le (.v (.slice none 0 0)) (.sl nl 0 sz el):=fun _ _ _ _ k=>by
 obtain rfl:=eo.gn k;exact .sl nl 0 sz el none 0 (fun _ _=>undef) (aG _) ag (fun _=>rfl) (fun i j h=>absurd h (aV i)) (fun i j h=>absurd h (aV i)) (fun i j h=>absurd h (aV i)) (fun i j h=>absurd h (aV i))
theorem E.le.sl{nl:Bool}{n sz:Nat}{el el':Nat->Nat->E}(h:∀ i j,i<n->j<sz->E.le (el i j) (el' i j)/\(el' i j).nr 2=true):E.le (.sl nl n sz el) (.sl nl n sz el'):=fun bs br w v k=>by
 cases k with
 | sl _ _ _ _ A c f hc hm h0 hl hr cell kk=>
  exact .sl nl n sz el' A c f hc hm h0 hl (fun i j hi hj=>(h i j hi hj).2) cell fun i j hi hj=>(h i j hi hj).1 _ _ _ _ (kk i j hi hj)
theorem PC.le{P:Program}{K:World->Prop}{f:FuncId}{args args':List E}{fu res':E}(h:PC P K f args fu)(ha:pq args' args)(hr:E.le fu res'):PC P K f args' res':=
 ⟨h.call,fun w B vs hK hB nB=>(h.run w B vs hK hB (ha.D7 nB)).mono fun _ _ ⟨v,h1,h2,h3⟩=>⟨v,h1,h2,hr _ _ _ _ h3⟩⟩
theorem PC.fu{P:Program}{K:World->Prop}{f:FuncId}{args:List E}{fu res':E}(h:PC P K f args fu)(hr:E.le fu res'):PC P K f args res':=h.le (pq.refl _) hr
end Go.Proofs.YtdgnpeddgdclhaaGreatDoor.Pu
namespace Go.Proofs.YtdgnpeddgdclhaaGreatDoor
open Go.RowKit Fp
theorem pO(A:Option Addr)(c:Nat)(L:List Nat)(w:World)(hs:Sl w A c L):
 Calls Tryz.prog 167 #[.slice A L.length c] w fun e w'=>e = .returned (.slice A (dZ L).length c)/\w=w':=by
 have hc:=hs.cap;have hl:=hs.lq;go_enter Tryz.func167,Tryz.ntmps167;go_wp2;go_loop [3] (fun i=>∃ k:Nat,k<=L.length/\i = .int .i64 k/\ig L=ig (L.take k)) (fun i=>(intOf i).toNat)
 case atStart=>exact⟨L.length,aG _,rfl, aj⟩
 case round=>
  obtain⟨k,hk,rfl,ht⟩:=hrel;have HT:=Lib.hid ht;clear ht;by_cases h0:0<k
  .obtain ⟨ab,ao,rfl,hb,h1⟩:=hs.at_ (i:=k-1) ae 
   have e1:((k:Int)-1).toNat=k-1:= ae ;have Z:=Lib.hid (Es L (k-1) ae);have NZ:=Lib.hid (Er L (k-1) ae);rw[agB h0]at Z NZ;generalize L[k-1]=x at *
   by_cases hx:x=0
   .have Hx:=Lib.hid hx;clear hx
    have hb:((x:Int)==0)=true:=by have:=Hx.out;simp;omega
    go_wp2;go_round
    case rel=>exact⟨k-1, ae,by go_num,by rw[HT.out,Z.out Hx.out]⟩
    case measure=>simp[intOf];omega
   .have hb:((x:Int)==0)=false:= av 
    go_wp2;go_ret;exact⟨D9 (by show _=ig L;rw[HT.out,NZ.out hx]),rfl⟩
  .go_wp2
   go_ret;have:k=0:= ae ;subst this;exact⟨D9 (by show _=ig L;rw[HT.out];rfl),rfl⟩
theorem VQ(A:Option Addr)(c:Nat)(L:List Nat)(w:World)(hs:Sl w A c L):
 Calls Tryz.prog 125 #[.slice A L.length c] w fun e w'=>e = .returned (.slice A (dZ L).length c)/\w=w':=by
 have hc:=hs.cap;have hl:=hs.lq;go_enter Tryz.func125,Tryz.ntmps125;go_wp2;go_loop [3] (fun i=>∃ k:Nat,k<=L.length/\i = .int .i64 k/\ig L=ig (L.take k)) (fun i=>(intOf i).toNat)
 case atStart=>exact⟨L.length,aG _,rfl, aj⟩
 case round=>
  obtain⟨k,hk,rfl,ht⟩:=hrel;have HT:=Lib.hid ht;clear ht;by_cases h0:0<k
  .obtain ⟨ab,ao,rfl,hb,h1⟩:=hs.at_ (i:=k-1) ae 
   have e1:((k:Int)-1).toNat=k-1:= ae ;have Z:=Lib.hid (Es L (k-1) ae);have NZ:=Lib.hid (Er L (k-1) ae);rw[agB h0]at Z NZ;generalize L[k-1]=x at *
   by_cases hx:x=0
   .have Hx:=Lib.hid hx;clear hx
    have hb:((x:Int)==0)=true:=by have:=Hx.out;simp;omega
    go_wp2;go_round
    case rel=>exact⟨k-1, ae,by go_num,by rw[HT.out,Z.out Hx.out]⟩
    case measure=>simp[intOf];omega
   .have hb:((x:Int)==0)=false:= av 
    go_wp2;go_ret;exact⟨D9 (by show _=ig L;rw[HT.out,NZ.out hx]),rfl⟩
  .go_wp2
   go_ret;have:k=0:= ae ;subst this;exact⟨D9 (by show _=ig L;rw[HT.out];rfl),rfl⟩
theorem Sl.trim{w:World}{A:Option Addr}{c:Nat}{L:List Nat}(h:Sl w A c L):Sl w A c (dZ L):=(h.take (ig L)).eqv (BU L).symm
def TH:Go.Shelf.Ren:=⟨fun|128=>230|n=>n,fun|51=>79|3=>3|4=>4|46=>124|5=>5|9=>9|n=>n,fun|n=>n⟩
theorem TB:Go.Proofs.Lays.n128 Tryz.prog TH:={
 mixed:= ah 
 f128:=Tryz.func230.trans (congrArg some ah)
 t3:=Tryz.underlying3
 a3:=Tryz.isAgg3
 z3:=Tryz.sizeOf3
 v3:=Tryz.zeroValue3
 t4:=Tryz.underlying4
 a4:=Tryz.isAgg4
 z4:=Tryz.sizeOf4
 v4:=Tryz.zeroValue4
 t5:=Tryz.underlying5
 a5:=Tryz.isAgg5
 z5:=Tryz.sizeOf5
 v5:=Tryz.zeroValue5
 t9:=Tryz.underlying9
 a9:=Tryz.isAgg9
 z9:=Tryz.sizeOf9
 v9:=Tryz.zeroValue9
 t46:=Tryz.underlying124
 a46:=Tryz.isAgg124
 z46:=Tryz.sizeOf124
 v46:=Tryz.zeroValue124
 t51:=Tryz.underlying79
 a51:=Tryz.isAgg79
 z51:=Tryz.sizeOf79
 v51:=Tryz.zeroValue79 }
theorem Od(x:Nat)(hx:x<4294967296)(w:World):
 Calls Tryz.prog 230 #[.int .u32 x] w fun e w'=>e = .returned (.int .i64 (dU x))/\w=w':=by
 refine(Any.bits_Len32 TB x w ae ae).mono ?_;rintro e w' ⟨rfl,rfl⟩;rw[ag0,Tx x hx];exact⟨rfl,rfl⟩
theorem tz32_core(x k idx:Nat)(w:World)(kn:((x:Int)==0)=false)
 (key:bits BinOp.and IntKind.u32 (x:Int) (-(x:Int)%4294967296)*125613361%4294967296/134217728=(idx:Int))
 (hi:idx<32) (hk:k<32) (gG:w.cell? ⟨0,idx,none⟩=some (.int .u8 k)):
 Calls Tryz.prog 163 #[.int .u32 x] w fun e w'=>e = .returned (.int .i64 k)/\w=w':=by
 go_enter Tryz.func163,Tryz.ntmps163;go_wp2_with (simp only[key])
 go_ret;exact⟨rfl,rfl⟩
theorem afr(x:Nat)(h0:x≠0)(hx:x<4294967296)(w:World)(hT:Tb w):
 Calls Tryz.prog 163 #[.int .u32 x] w fun e w'=>e = .returned (.int .i64 (fk x))/\w=w':=by
 rw[<-Vi x h0 hx];obtain⟨uA,hk⟩:=Lib.lowest_bit 32 x h0 hx;obtain⟨hi,Zp⟩:=Lib.deBruijn32_at _ hk;have gG:=hT _ hi;rw[Zp]at gG;exact tz32_core x _ _ w av (tz32_key x _ hx h0 uA) hi hk gG
open Go.RowKit Fp
theorem i64_in(n:Int)(h0:-9223372036854775808<=n)(h1:n<=9223372036854775807):IntKind.i64.wrap n=n:=by rw[IntKind.wrap_i64];omega
theorem KH{L M:List Nat}{n:Nat}(hs:ej L)(hM:dZ L=M)(hn:M.length=n+1):
 ∃ x,M[n]? = some x/\x<4294967296/\(32*(n:Int)+(dU x:Int))=(dU (val L):Int)/\dU x<=32:=by
 have hk:ej M:=hM▸hs.dZ;have ht:Trim M:=hM▸tO L;rcases List.eq_nil_or_concat M with rfl|⟨l,x,rfl⟩
 .simp at hn
 .simp only[List.concat_eq_append,bO,ahc,Nat.add_right_cancel_iff]at hn hk ht hM ⊢
  subst hn;have hx:x≠0:=by simpa using(u9 _).1 ht aj 
  have ek:x<4294967296:=hk x aj;refine⟨x, aj,ek,?_,gS.2 ek⟩;have:=TG hk hx;rw[<-hM,kS]at this;omega
theorem O4(A:Option Addr)(c:Nat)(L:List Nat)(w:World)(hs:Sl w A c L)(hlen:L.length<=100000000):
 Calls Tryz.prog 194 #[.slice A L.length c] w fun e w'=>e = .returned (.int .i64 (dU (val L)))/\w=w':=by
 have hT:=Lib.hid (pO A c L w hs);have fX:=hs.trim;have jC:=ky L;unfold ig at jC;generalize hM:dZ L=M at *
 obtain⟨n,hn⟩:∃ n,n=M.length:=⟨_,rfl⟩
 rw[<-hn]at hT jC;rcases n with _|n
 .have hv:dU (val L)=0:=by rw[<-kS,hM,cE hn.symm];rfl
  have HV:=Lib.hid hv;clear hv hM hn;go_enter Tryz.func194,Tryz.ntmps194;go_wp2_with (go_at_call 167;refine hT.out.mono ?_;rintro e w' ⟨rfl,rfl⟩)
  go_ret;exact⟨by rw[HV.out];rfl,rfl⟩
 .obtain ⟨x,hx,ek,hb,Yn⟩:=KH hs.ok hM hn.symm
  obtain⟨ab,ao,rfl,_,gG⟩:=fX.cell _ _ hx;have HB:=Lib.hid hb;clear hb hM hn hx;go_enter Tryz.func194,Tryz.ntmps194;go_wp2_with (first|(go_at_call 167;refine hT.out.mono ?_;rintro e w' ⟨rfl,rfl⟩)|(go_at_call 230;refine(Od x ek _).mono ?_;rintro e w' ⟨rfl,rfl⟩))
  go_ret;exact⟨jW HB.out,rfl⟩
theorem TE{x:Nat}(h:x≠0):dU x=dU (x/2)+1:=by
 by_cases h1:x/2=0
 .have:x=1:= ae 
  subst this;rfl
 .have e1:=oh h1
  have e2:=mE (x/2);have e3:=jK h1;generalize dU (x/2)=k at *
  obtain⟨j,rfl⟩:∃ j,k=j+1:=⟨k-1, ae⟩
  rw[dj]at e1;refine qQ ?_ ?_
  .rw [aN];omega
  .rw [aN];omega
theorem Qp(A:Option Addr)(c:Nat)(L:List Nat)(w:World)(hs:Sl w A c L)(ht:Trim L)(hlen:L.length<=100000000):
 Calls Tryz.prog 94 #[.slice A L.length c] w fun e w'=>e = .returned (.int .i64 (dU (val L)))/\w=w':=by
 obtain⟨n,hn⟩:∃ n,n=L.length:=⟨_,rfl⟩
 rcases n with _|n
 .have hv:dU (val L)=0:=by rw[cE hn.symm];rfl
  have HV:=Lib.hid hv;rw[<-hn];clear hv ht hn;go_enter Tryz.func94,Tryz.ntmps94;go_wp2;go_ret;exact⟨by rw[HV.out];rfl,rfl⟩
 .obtain ⟨x,hx,ek,hb,Yn⟩:=KH hs.ok ht hn.symm
  obtain⟨ab,ao,rfl,_,gG⟩:=hs.cell _ _ hx;have HB:=Lib.hid hb;rw[<-hn]at hlen ⊢;clear hb ht hn hx;go_enter Tryz.func94,Tryz.ntmps94;go_wp2;go_loop [3,4] (fun m y=>∃ (k z:Nat),z<4294967296/\y = .int .u32 z/\m = .int .i64 k/\k<=10000000000/\k+dU z=dU (val L)) (fun _ y=>(intOf y).toNat)
  case atStart=>exact⟨32*n,x,ek,rfl,by go_num, ae,by have:=HB.out;omega⟩
  case round=>
   obtain⟨k,z,hz,rfl,rfl,hk,he⟩:=hrel;have HE:=Lib.hid he;clear he;by_cases h0:0<z
   .have hh:=Lib.hid (TE (x:=z) ae)
    have nU:k<=3300000000:=by have:=HE.out;have:=HB.out;omega
    go_wp2;go_round
    case rel=>exact⟨k+1,z/2, ae,by go_num,by go_num, ae,by rw[<-HE.out,hh.out];omega⟩
    case measure=>simp[intOf];omega
   .obtain rfl:z=0:= ae 
    go_wp2;go_ret;exact⟨jW (by rw[<-HE.out];rfl),rfl⟩
theorem K6{L M:List Nat}(hL:ej L)(h:(dZ L).length<(dZ M).length):fN (val L) (val M) = -1:=by
 have:=Ez hL.dZ (tO M) h;rw[kS,kS]at this;unfold fN;rw[aC this]
theorem K5{L M:List Nat}(hM:ej M)(h:(dZ M).length<(dZ L).length):fN (val L) (val M)=1:=by
 have:=Ez hM.dZ (tO L) h;rw[kS,kS]at this;unfold fN;rw[aB ae,aC this]
theorem Cx{M N:List Nat}(hM:ej M){k x y:Nat}(hl:M.length=N.length)(hx:M[k]? = some x)(hy:N[k]? = some y)(hd:M.drop (k+1)=N.drop (k+1))(h:x<y):val M<val N:=by
 obtain⟨h1,rfl⟩:=bA.1 hx;obtain⟨h2,rfl⟩:=bA.1 hy;exact afG hM k h1 hl hd h
theorem Ly{M N:List Nat}{k x:Nat}(hx:M[k]? = some x)(hy:N[k]? = some x)(hd:M.drop (k+1)=N.drop (k+1)):M.drop k=N.drop k:=by
 obtain⟨h1,e1⟩:=bA.1 hx;obtain⟨h2,e2⟩:=bA.1 hy;rw[agC h1,agC h2,e1,e2,hd]
theorem Bg(A B:Option Addr)(c d:Nat)(L M:List Nat)(w:World)(hs:Sl w A c L)(hr:Sl w B d M)(h1:L.length<=100000000)(_h2:M.length<=100000000):
 Calls Tryz.prog 131 #[.slice A L.length c,.slice B M.length d] w fun e w'=>e = .returned (.int .i64 (fN (val L) (val M)))/\Ext w w':=by
 have hT:=Lib.hid (pO A c L w hs);have hU:=Lib.hid (pO B d M w hr);have fX:=hs.trim;have jO:=hr.trim;have jC:=ky L;have qq:=ky M;unfold ig at jC qq;by_cases ek:(dZ L).length<(dZ M).length
 .have HV:=Lib.hid (K6 hs.ok ek)
  have fK:(((dZ L).length:Int) != ((dZ M).length:Nat))=true:= av ;generalize (dZ L).length=n at *
  generalize (dZ M).length=m at *
  clear fX jO;go_enter Tryz.func131,Tryz.ntmps131;go_wp2_with fail;refine hT.out.mono ?_;rintro e w' ⟨rfl,rfl⟩;go_wp2_with fail;refine hU.out.mono ?_;rintro e w' ⟨rfl,rfl⟩;go_wp2;go_ret;exact⟨jW (by rw[HV.out]),Ext.refl _⟩
 .by_cases Ar:(dZ M).length<(dZ L).length
  .have HV:=Lib.hid (K5 hr.ok Ar)
   have fK:(((dZ L).length:Int) != ((dZ M).length:Nat))=true:= av ;generalize (dZ L).length=n at *
   generalize (dZ M).length=m at *
   clear fX jO;go_enter Tryz.func131,Tryz.ntmps131;go_wp2_with fail;refine hT.out.mono ?_;rintro e w' ⟨rfl,rfl⟩;go_wp2_with fail;refine hU.out.mono ?_;rintro e w' ⟨rfl,rfl⟩;go_wp2;go_ret;exact⟨jW (by rw[HV.out]),Ext.refl _⟩
  .have hl:(dZ L).length=(dZ M).length:= ae 
   have HL:=Lib.hid hl;rw[<-hl]at hU qq;have e1:=kS L;have e2:=kS M;generalize dZ L=P at *
   generalize dZ M=Q at *
   have E1:=Lib.hid e1;have E2:=Lib.hid e2;clear e1 e2 hl Ar ek;obtain⟨n,hn⟩:∃ n,n=P.length:=⟨_,rfl⟩
   rw[<-hn]at hT hU qq jC;have HN:=Lib.hid hn;clear hn;have fK:((n:Int) != (n:Int))=false:= aj ;have okP:=fX.ok;have wJ:=jO.ok;go_enter Tryz.func131,Tryz.ntmps131;go_wp2_with fail;refine hT.out.mono ?_;rintro e w' ⟨rfl,rfl⟩;go_wp2_with fail;refine hU.out.mono ?_;rintro e w' ⟨rfl,rfl⟩;go_wp2;go_loopw [5] (fun i wr=>∃ k:Nat,k<=n/\i = .int .i64 ((k:Int)-1)/\P.drop k=Q.drop k/\Ext w wr) (fun i _=>(intOf i+1).toNat)
   case atStart=>exact⟨n,aG _,rfl,by rw[di (by rw[<-HN.out];exact aG _),di (by rw[<-HL.out,<-HN.out];exact aG _)],Ext.refl _⟩
   case round=>
    obtain⟨k,hk,rfl,hd,hb⟩:=hrel;have HD:=Lib.hid hd;clear hd;rcases k with _|k
    .go_wp2
     go_ret;have e:P=Q:=by simpa using HD.out
     exact⟨jW (by rw[<-E1.out,<-E2.out,e];unfold fN;simp),hb⟩
    .have vO:k<P.length:=by have:=HN.out;omega
     have s5:k<Q.length:=by have:=HN.out;have:=HL.out;omega
     have HP:=Lib.hid (aM vO);have HQ:=Lib.hid (aM s5);obtain⟨ab,ao,rfl,_,c1⟩:=(fX.below hb).at_ vO;obtain⟨bb,bo,rfl,_,c2⟩:=(jO.below hb).at_ s5;have Da:(k:Int)<n:= ae ;have nT:(0:Int)<=k:= ae ;have x0:(0:Int)<=P[k]:= ae ;have y0:(0:Int)<=Q[k]:= ae ;generalize P[k]=x at *
     generalize Q[k]=y at *
     clear vO s5;by_cases lO:x<y
     .have G8:(x:Int)<y:= ae 
      go_wp2;go_quiet (fail);go_wp2;go_ret;have h:=Cx okP HL.out HP.out HQ.out HD.out lO;rw[E1.out,E2.out]at h;exact⟨jW (by unfold fN;rw[aC h]),below_drewN hb _⟩
     .have G8:¬(x:Int)<y:= ae 
      by_cases Ha:y<x
      .have Hb:(y:Int)<x:= ae 
       go_wp2;go_quiet (fail);go_wp2;go_quiet (fail);go_wp2;go_ret;have h:=Cx wJ HL.out.symm HQ.out HP.out HD.out.symm Ha;rw[E1.out,E2.out]at h;exact⟨jW (by unfold fN;rw[aB ae,aC h]),below_drewN (below_drewN hb _) _⟩
      .have Hb:¬(y:Int)<x:= ae 
       have HX:=Lib.hid (show x=y by omega);go_wp2;go_quiet (fail);go_wp2;go_quiet (fail);go_wp2;go_roundw
       case rel=>exact⟨k, ae,by go_num,Ly HP.out (by rw[HX.out];exact HQ.out) HD.out,by repeat (first|exact hb|refine below_drewN ?_ _)⟩
       case measure=>simp[intOf];try omega
theorem ac4(A B:Option Addr)(c d:Nat)(P Q:List Nat)(w:World)(fX:Sl w A c P)(jO:Sl w B d Q)(tP:Trim P)(tQ:Trim Q)(h1:P.length<=100000000)(_h2:Q.length<=100000000):
 Calls Tryz.prog 150 #[.slice A P.length c,.slice B Q.length d] w fun e w'=>e = .returned (.int .i64 (fN (val P) (val Q)))/\Ext w w':=by
 have tP':dZ P=P:=tP;have tQ':dZ Q=Q:=tQ;by_cases ek:P.length<Q.length
 .have HV:=Lib.hid (K6 (M:=Q) fX.ok (by rw[tP',tQ'];exact ek))
  have fK:((P.length:Int) != (Q.length:Nat))=true:= av ;generalize P.length=n at *
  generalize Q.length=m at *
  clear fX jO tP' tQ' tP tQ;go_enter Tryz.func150,Tryz.ntmps150;go_wp2;go_ret;exact⟨jW (by rw[HV.out]),Ext.refl _⟩
 .by_cases Ar:Q.length<P.length
  .have HV:=Lib.hid (K5 (L:=P) jO.ok (by rw[tP',tQ'];exact Ar))
   have fK:((P.length:Int) != (Q.length:Nat))=true:= av ;generalize P.length=n at *
   generalize Q.length=m at *
   clear fX jO tP' tQ' tP tQ;go_enter Tryz.func150,Tryz.ntmps150;go_wp2;go_ret;exact⟨jW (by rw[HV.out]),Ext.refl _⟩
  .have hl:P.length=Q.length:= ae 
   have HL:=Lib.hid hl;rw[<-hl];clear hl Ar ek tP' tQ' tP tQ _h2;obtain⟨n,hn⟩:∃ n,n=P.length:=⟨_,rfl⟩
   rw[<-hn]at h1 ⊢;have HN:=Lib.hid hn;clear hn;have fK:((n:Int) != (n:Int))=false:= aj ;have okP:=fX.ok;have wJ:=jO.ok;go_enter Tryz.func150,Tryz.ntmps150;go_wp2;go_loopw [5] (fun i wr=>∃ k:Nat,k<=n/\i = .int .i64 ((k:Int)-1)/\P.drop k=Q.drop k/\Ext w wr) (fun i _=>(intOf i+1).toNat)
   case atStart=>exact⟨n,aG _,rfl,by rw[di (by rw[<-HN.out];exact aG _),di (by rw[<-HL.out,<-HN.out];exact aG _)],Ext.refl _⟩
   case round=>
    obtain⟨k,hk,rfl,hd,hb⟩:=hrel;have HD:=Lib.hid hd;clear hd;rcases k with _|k
    .go_wp2
     go_ret;have e:P=Q:=by simpa using HD.out
     exact⟨jW (by rw[e];unfold fN;simp),hb⟩
    .have vO:k<P.length:=by have:=HN.out;omega
     have s5:k<Q.length:=by have:=HN.out;have:=HL.out;omega
     have HP:=Lib.hid (aM vO);have HQ:=Lib.hid (aM s5);obtain⟨ab,ao,rfl,_,c1⟩:=(fX.below hb).at_ vO;obtain⟨bb,bo,rfl,_,c2⟩:=(jO.below hb).at_ s5;have Da:(k:Int)<n:= ae ;have nT:(0:Int)<=k:= ae ;have x0:(0:Int)<=P[k]:= ae ;have y0:(0:Int)<=Q[k]:= ae ;generalize P[k]=x at *
     generalize Q[k]=y at *
     clear vO s5;by_cases lO:x<y
     .have G8:(x:Int)<y:= ae 
      go_wp2;go_quiet (fail);go_wp2;go_ret;have h:=Cx okP HL.out HP.out HQ.out HD.out lO;exact⟨jW (by unfold fN;rw[aC h]),below_drewN hb _⟩
     .have G8:¬(x:Int)<y:= ae 
      by_cases Ha:y<x
      .have Hb:(y:Int)<x:= ae 
       go_wp2;go_quiet (fail);go_wp2;go_quiet (fail);go_wp2;go_ret;have h:=Cx wJ HL.out.symm HQ.out HP.out HD.out.symm Ha;exact⟨jW (by unfold fN;rw[aB ae,aC h]),below_drewN (below_drewN hb _) _⟩
      .have Hb:¬(y:Int)<x:= ae 
       have HX:=Lib.hid (show x=y by omega);go_wp2;go_quiet (fail);go_wp2;go_quiet (fail);go_wp2;go_roundw
       case rel=>exact⟨k, ae,by go_num,Ly HP.out (by rw[HX.out];exact HQ.out) HD.out,by repeat (first|exact hb|refine below_drewN ?_ _)⟩
       case measure=>simp[intOf];try omega
open Go.RowKit Fp
theorem Fs(A:Option Addr)(c:Nat)(L:List Nat)(w:World)(hs:Sl w A c L):
 Calls Tryz.prog 128 #[.slice A L.length c] w fun e w'=>e = .returned (.slice A L.length L.length)/\w=w':=by
 have hc:=hs.cap;have hl:=hs.lq;go_enter Tryz.func128,Tryz.ntmps128;go_wp2;go_ret;exact⟨rfl,rfl⟩
theorem Sl.clip{w:World}{A:Option Addr}{c:Nat}{L:List Nat}(h:Sl w A c L):Sl w A L.length L:=
 ⟨aG _,aI h.cap h.lq,h.ok,(fun e=>by have:=h.none_ e;have:=h.cap;omega),h.cell⟩
theorem Ft(A:Option Addr)(c:Nat)(L:List Nat)(w:World)(hs:Sl w A c L)(hlen:L.length<=100000000):
 Calls Tryz.prog 129 #[.slice A L.length c] w (pr w L):=by
 have hc:=hs.cap;have hl:=hs.lq;rcases A with _|ad
 .have h0:=hs.none_ rfl
  subst h0;have:L=[]:=cE ae;subst this;have q:=fun(w:World) (n' c':Nat)=>Lib.run_eql_slice_nil (P:=Tryz.prog) w 29 _ none 0 0 n' c' Tryz.underlying29
  simp only[Option.isNone_none]at q;go_enter Tryz.func129,Tryz.ntmps129;go_wp2;go_ret;exact⟨none,0,rfl,Sl.nil _,Ext.refl _⟩
 .have q:=fun(w:World) (n' c':Nat)=>Lib.run_eql_slice_nil (P:=Tryz.prog) w 29 _ (some ad) L.length c n' c' Tryz.underlying29
  simp only[Option.isNone_some]at q;go_enter Tryz.func129,Tryz.ntmps129;have ie:([]:List Nat).length+L.length<=10000000000:= av ;have h1:=Ow.empty w w.heap.size (aG _);have h2:=hs.alloc (.cells #[] 79);have h3:=lQ (w:=w) (aG _) (.cells #[] 79);go_wp2_with (at_builtin;go_must (refine mU ai _ _ ai w.heap.size _ [] ai h1 _ _ _ L ai ai h2 ie h3 ?_);intro v' w' jZ hg kB)
  obtain⟨A',c',rfl,iK⟩:=jZ.sl;go_ret;exact⟨A',c',rfl,iK,(Ext.alloc _ _).grown hg (lQ (aG _) _) (fun k hk=>by simp[Value.ownBlock]at hk;omega)⟩
theorem yV(A:Option Addr)(c:Nat)(L:List Nat)(w:World)(hs:Sl w A c L)(hlen:L.length<=100000000):
 Calls Tryz.prog 122 #[.slice A L.length c] w (pr w (dZ L)):=by
 have hc:=hs.cap;have hl:=hs.lq;have fin:∀ k:Nat,k=(dZ L).length->Hid (dZ L=L.take k):=fun k hk=>by rw[hk];exact BU L
 go_enter Tryz.func122,Tryz.ntmps122;go_wp2;go_loop [3] (fun i=>∃ k:Nat,k<=L.length/\i = .int .i64 k/\ig L=ig (L.take k)) (fun i=>(intOf i).toNat)
 case atStart=>exact⟨L.length,aG _,rfl, aj⟩
 case round=>
  obtain⟨k,hk,rfl,ht⟩:=hrel;have HT:=Lib.hid ht;clear ht;have ie:([]:List Nat).length+(L.take k).length<=10000000000:=by rw[bB];simp;omega
  have HK:=Lib.hid (show k=(L.take k).length by rw[bB];omega);have h1:=Ow.empty w w.heap.size (aG _);have h2:=(hs.take k).alloc (.cells #[] 79);have h3:=lQ (w:=w) (aG _) (.cells #[] 79);by_cases h0:0<k
  .obtain ⟨ab,ao,rfl,hb,th⟩:=hs.at_ (i:=k-1) ae 
   have e1:((k:Int)-1).toNat=k-1:= ae ;have Z:=Lib.hid (Es L (k-1) ae);have NZ:=Lib.hid (Er L (k-1) ae);rw[agB h0]at Z NZ;generalize L[k-1]=x at *
   by_cases hx:x=0
   .have Hx:=Lib.hid hx;clear hx
    have hb:((x:Int)==0)=true:=by have:=Hx.out;simp;omega
    clear fin;go_wp2;go_round
    case rel=>exact⟨k-1, ae,by go_num,by rw[HT.out,Z.out Hx.out]⟩
    case measure=>simp[intOf];omega
   .have hb:((x:Int)==0)=false:= av 
    have F:=fin k (by show k=ig L;rw[HT.out,NZ.out hx]);clear fin;go_wp2_with (at_builtin;go_must (refine mU ai _ _ ai w.heap.size _ [] ai h1 _ _ _ (L.take k) ai HK.out h2 ie h3 ?_);intro v' w' jZ hg kB)
    obtain⟨A',c',rfl,iK⟩:=jZ.sl;go_ret;rw[F.out];exact⟨A',c',rfl,iK,(Ext.alloc _ _).grown hg (lQ (aG _) _) (fun k hk=>by simp[Value.ownBlock]at hk;omega)⟩
  .have:k=0:= ae 
   subst this;have F:=fin 0 (by show 0=ig L;rw[HT.out];rfl);clear fin;go_wp2_with (at_builtin;go_must (refine mU ai _ _ ai w.heap.size _ [] ai h1 _ _ _ (L.take 0) ai HK.out h2 ie h3 ?_);intro v' w' jZ hg kB)
   obtain⟨A',c',rfl,iK⟩:=jZ.sl;go_ret;rw[F.out];exact⟨A',c',rfl,iK,(Ext.alloc _ _).grown hg (lQ (aG _) _) (fun k hk=>by simp[Value.ownBlock]at hk;omega)⟩
theorem Oo(A:Option Addr)(n c:Nat)(w:World):
 Calls Tryz.prog 203 #[.slice A n c] w fun e w'=>e = .returned (.bool (decide (256<n)))/\w=w':=by
 by_cases h:256<n
 .have h':(256:Int)<n:= ae 
  go_enter Tryz.func203,Tryz.ntmps203;go_wp2;go_ret;exact⟨by simp[h],rfl⟩
 .have h':¬(256:Int)<n:= ae 
  go_enter Tryz.func203,Tryz.ntmps203;go_wp2;go_ret;exact⟨ aj,rfl⟩
def EM(w:World)(g:Nat)(xs:List (Option Addr×Nat×Nat)):Prop:=∀ i x,xs[i]? = some x->w.cell? ⟨g,i,none⟩=some (.slice x.1 x.2.1 x.2.2)
def rD(xs:List (Option Addr×Nat×Nat)):Bool:=xs.any fun x=>decide (256<x.2.1)
def Sh(xs:List (Option Addr×Nat×Nat))(w:World)(e:Ending)(w':World):Prop:=
 ∃ n:Int,e = .returned (.int .i64 n)/\(0<=n↔rD xs=true)/\w=w'
theorem ZR(g:Nat)(xs:List (Option Addr×Nat×Nat))(w:World)(hs:EM w g xs)(hn:xs.length<=1000):
 Calls Tryz.prog 233 #[.slice (some ⟨g,0,none⟩) xs.length xs.length,.func (.func 203) #[] #[]] w (Sh xs w):=by
 go_enter Tryz.func233,Tryz.ntmps233;go_wp2;go_loop [8] (fun i=>∃ k:Nat,k<=xs.length/\i = .int .i64 k/\rD (xs.take k)=false) (fun i=>xs.length-(intOf i).toNat)
 case atStart=>exact⟨0,bq _,rfl,rfl⟩
 case round=>
  obtain⟨k,hk,rfl,ht⟩:=hrel;have HT:=Lib.hid ht;clear ht;by_cases h0:k<xs.length
  .have hc:=hs k _ (aM h0)
   have e1:((k:Int)).toNat=k:= ae ;have ec:=Sx g k;have HX:=Lib.hid (show rD (xs.take (k+1))=(rD (xs.take k)||decide (256<xs[k].2.1))by
    unfold rD;rw[agX h0,List.any_append];simp)
   have HM:=Lib.hid (bR h0);generalize xs[k]=x at *
   obtain⟨A,n,c⟩:=x;simp only at hc HX;by_cases hx:256<n
   .have hb:decide (256<n)=true:=by simp[hx]
    go_wp2_with (go_at_call 203;refine(Oo A n c _).mono ?_;rw[hb];rintro e w' ⟨rfl,rfl⟩)
    go_ret;refine⟨_,rfl,⟨fun _=>?_,fun _=> ae⟩,rfl⟩;unfold rD;rw[cX];exact⟨_,HM.out,by simpa using hx⟩
   .have hb:decide (256<n)=false:= av 
    go_wp2_with (go_at_call 203;refine(Oo A n c _).mono ?_;rw[hb];rintro e w' ⟨rfl,rfl⟩)
    go_round
    case rel=>exact⟨k+1, ae,by go_num,by rw[HX.out,HT.out,hb];rfl⟩
    case measure=>simp[intOf];omega
  .go_wp2
   go_ret;have e:xs.take k=xs:=bU ae;have:=HT.out;rw[e]at this;exact⟨_,rfl,by rw[this];simp,rfl⟩
theorem Ve(g:Nat)(xs:List (Option Addr×Nat×Nat))(w:World)(hs:EM w g xs)(hn:xs.length<=1000):
 Calls Tryz.prog 202 #[.slice (some ⟨g,0,none⟩) xs.length xs.length,.func (.func 203) #[] #[]] w fun e w'=>e = .returned (.bool (rD xs))/\w=w':=by
 have H:=Lib.hid (ZR g xs w hs hn);go_enter Tryz.func202,Tryz.ntmps202;go_wp2_with fail;refine H.out.mono ?_;rintro e w' ⟨n,rfl,hn,rfl⟩;have HN:=Lib.hid hn;clear hn;go_wp2;go_ret;refine⟨Qt ?_,rfl⟩;have:=HN.out;cases h:rD xs<;>simp[h]at this ⊢ <;> omega
theorem Ot(g:Nat)(xs:List (Option Addr×Nat×Nat))(w:World)(hs:EM w g xs)(hn:xs.length<=1000):
 Calls Tryz.prog 164 #[.slice (some ⟨g,0,none⟩) xs.length xs.length] w fun e w'=>e = .returned (.bool (rD xs))/\w=w':=by
 have H:=Lib.hid (Ve g xs w hs hn);go_enter Tryz.func164,Tryz.ntmps164;go_wp2_with fail;refine H.out.mono ?_;rintro e w' ⟨rfl,rfl⟩;go_wp2;go_ret;exact⟨rfl,rfl⟩
end Go.Proofs.YtdgnpeddgdclhaaGreatDoor
