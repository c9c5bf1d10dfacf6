/- Lemmas that the last file uses. -/
import Derived.Test.YtgdahmmlddfimaaGreatDoorProg
import Derived.WalkKit
import Derived.BigQuiet
import Derived.WalkSpells
import Derived.WalkLawsBesides
import Derived.Lib.Hide
import Derived.Deep.RegionHeld3
import Derived.Maps.AppendAt
import Derived.Deep.AppendLies
import Derived.Deep.Draws
import Derived.Deep.DeepFit
import Derived.Laws.AppendOwnNone
import Derived.Shelf.Small.Bits
import Derived.Shelf.Spec.TrailingZeros
import Derived.Test.YtgdahmmlddfimaaGreatDoorCards
import Derived.Test.YtgdahmmlddfimaaGreatDoorTie
import Derived.ProofKit
import Derived.OpenShut
import Derived.Deep.DeepHandedRow
import Derived.Lib.LaidTab
import Derived.Laws.AppendOwn
import Derived.Laws.MakeOwn
import Derived.Laws.Slices
import Derived.Orders
import Derived.Laws.Build
set_option linter.unusedSimpArgs false
set_option linter.unusedVariables false
set_option linter.defProp false
set_option maxHeartbeats 4000000
open Go.Proofs.Tryz
namespace Go.Proofs.YtgdahmmlddfimaaGreatDoor
theorem aC{p:Prop}(h:p:=by omega):p:=h
theorem aD{p:Prop}(h:p:=by assumption):p:=h
theorem aE{p:Prop}(h:p:=by decide):p:=h
theorem aF{p:Prop}(h:p:=by kernel_rfl):p:=h
theorem aG{p:Prop}(h:p:=by rfl):p:=h
theorem aH{p:Prop}(h:p:=by simp):p:=h
theorem aI{p:Prop}(h:p:=by nofun):p:=h
theorem aJ{p:Prop}(h:p:=by simp<;>omega):p:=h
theorem aK{p:Prop}(h:p:=by grind):p:=h
theorem aL{p:Prop}(h:p:=by decide +kernel):p:=h
theorem aM{p:Prop}(h:p:=by split<;>omega):p:=h
theorem aN{p:Prop}(h:p:=by simp;omega):p:=h
theorem aO{p:Prop}(h:p:=by first|rfl|omega|(simp only[Nat.add_mul,Nat.one_mul];omega)):p:=h
theorem aP{p:Prop}(h:p:=by simp[Op.operands]):p:=h
theorem aQ{p:Prop}(h:p:=by first|assumption|decide):p:=h
theorem aR{p:Prop}(h:p:=by rw[List.length_take];omega):p:=h
theorem aS{p:Prop}(h:p:=by unfold sK;simp_all<;>omega):p:=h
theorem aT{p:Prop}(h:p:=by unfold kA;omega):p:=h
theorem aU{α:Type _}[BEq α][LawfulBEq α]{a b:α}(h:a≠b):(a==b)=false:=beq_eq_false_iff_ne.2 h
theorem aV{α:Type _}[BEq α][LawfulBEq α]{a b:α}(h:a=b):(a==b)=true:=beq_iff_eq.2 h
theorem aW{b:Bool}(h:¬b=true):b=false:=Bool.eq_false_iff.2 h
theorem aX{α:Type _}[BEq α][LawfulBEq α]{a b:α}(h:a=b):(a != b)=false:=bne_eq_false_iff_eq.2 h
theorem aY{α:Type _}[BEq α][LawfulBEq α]{a b:α}(h:a≠b):(a != b)=true:=bne_iff_ne.2 h
def aZ:=@if_neg
def a6:=@if_pos
def a7:=@decide_eq_true
def bc:=@decide_eq_false
def bg:=@Nat.le_refl
def bh:=@List.getD_eq_getElem?_getD
def bj:=@Nat.not_lt_zero
def bk:=@Nat.le_trans
def bn:=@if_false
def bt:=@Nat.pow_add
def bu:=@List.getElem?_eq_getElem
def bw:=@Nat.pow_pos
def bA:=@Option.some.injEq
def bB:=@if_true
def bC:=@Nat.mul_assoc
def bD:=@Nat.pow_succ
def bE:=@Bool.false_eq_true
def bF:=@Bool.and_eq_true
def bG:=@Nat.mul_comm
def bH:=@Nat.mod_lt
def bI:=@Prod.mk.injEq
def bJ:=@Rat.le_of_lt
def bK:=@Nat.pow_le_pow_right
def bL:=@Nat.mul_le_mul_right
def bM:=@List.all_eq_true
def bN:=@Rat.le_trans
def bO:=@Nat.mul_add
def bQ:=@Nat.lt_of_lt_of_le
def bR:=@Nat.add_zero
def bS:=@List.mem_range
def bT:=@Option.map_eq_some_iff
def bU:=@Classical.byContradiction
def bV:=@Nat.zero_le
def bW:=@Rat.mul_nonneg
def bX:=@Nat.add_mul
def bY:=@Nat.div_le_self
def bZ:=@Nat.one_mul
def b5:=@Nat.zero_add
def b6:=@List.getElem?_map
def b7:=@List.getElem?_eq_some_iff
def b8:=@Nat.mul_one
def b9:=@List.length_take
def ca:=@Nat.mod_eq_of_lt
def cg:=@List.length_append
def ch:=@Nat.beq_refl
def cj:=@List.getElem?_eq_none
def ck:=@List.length_map
def cr:=@Rat.le_refl
def ct:=@Option.map_some
def cv:=@Int.le_refl
def cw:=@Rat.mul_le_mul_of_nonneg_right
def cz:=@Nat.lt_of_le_of_lt
def cA:=@List.getElem_mem
def cB:=@of_decide_eq_true
def cC:=@decide_eq_true_eq
def cD:=@Nat.div_lt_iff_lt_mul
def cE:=@Nat.pow_zero
def cF:=@Nat.mul_zero
def cG:=@Nat.le_of_ble_eq_true
def cH:=@List.take_of_length_le
def cI:=@Nat.div_add_mod
def cJ:=@Nat.zero_mul
def cK:=@List.any_eq_false
def cL:=@Nat.mul_le_mul_left
def cM:=@beq_false
def cN:=@Rat.mul_le_mul_of_nonneg_left
def cO:=@Classical.choose_spec
def cP:=@Rat.div_def
def cQ:=@List.length_cons
def cR:=@Nat.add_assoc
def cS:=@Rat.natCast_nonneg
def cT:=@Array.getElem?_eq_some_iff
def cU:=@ne_eq
def cV:=@List.mem_cons
def cW:=@Nat.div_eq_of_lt
def cX:=@List.mem_map
def cY:=@Bool.true_and
def c9:=@List.length_set
def dc:=@Nat.le_div_iff_mul_le
def de:=@Nat.div_mul_le_self
def df:=@Rat.natCast_mul
def dg:=@Nat.min_eq_left
def dh:=@Nat.mul_lt_mul_of_pos_right
def di:=@List.eq_nil_of_length_eq_zero
def dj:=@List.mem_flatMap
def dk:=@List.mem_iff_getElem?
def dm:=@Array.ext'
def dp:=@Nat.sub_self
def dq:=@Nat.le_of_lt
def dr:=@List.mem_append
def dt:=@Nat.div_div_eq_div_mul
def du:=@List.getElem?_take
def dv:=@List.getElem?_drop
def dw:=@Array.length_toList
def dx:=@Nat.sub_zero
def dz:=@List.any_eq_true
def dA:=@Nat.mul_le_mul
def dB:=@Rat.natCast_le_natCast
def dC:=@Rat.not_lt
def dD:=@Nat.mul_ne_zero
def dE:=@Nat.mod_one
def dF:=@List.mem_of_getElem?
def dG:=@Array.mem_of_getElem?
def dH:=@List.any_cons
def dI:=@Bool.eq_iff_iff
def dJ:=@Rat.div_mul_cancel
def dK:=@List.mem_of_mem_take
def dL:=@Nat.mul_div_cancel
def dM:=@List.getElem?_append
def dN:=@List.getElem?_append_left
def dO:=@Bool.not_eq_true'
def dP:=@Nat.sub_le
def dQ:=@Nat.mul_left_comm
def dR:=@Nat.pos_of_ne_zero
def dU:=@Rat.intCast_natCast
def dV:=@Rat.natCast_add
def dW:=@Rat.mul_lt_mul_of_pos_right
def dX:=@List.mem_of_mem_drop
def dY:=@Nat.add_mul_mod_self_left
def dZ:=@List.drop_eq_nil_of_le
def ef:=@Nat.mod_add_div
def eh:=@List.getElem_cons_succ
def ej:=@Nat.ne_of_gt
def ek:=@Bool.not_false
def eo:=@List.map_cons
def ep:=@Nat.eq_zero_or_pos
def er:=@List.length_drop
def et:=@Bool.or_false
def eu:=@not_false_eq_true
def ev:=@Bool.or_eq_true
def ew:=@Nat.lt_succ_self
def ez:=@List.length_pos_iff
def eB:=@Int.natAbs_natCast
def eC:=@Nat.mod_le
def eD:=@Rat.mul_pos
def eE:=@of_decide_eq_false
def eF:=@List.take_succ_cons
def eG:=@Nat.add_sub_cancel
def eH:=@List.map_congr_left
def eI:=@Option.isSome_map
def eJ:=@List.size_toArray
def eK:=@Array.mem_append
def eN:=@List.any_nil
def eO:=@Bool.or_eq_false_iff
def eP:=@List.getElem?_replicate
def eR:=@Int.natCast_mul
def eU:=@Int.eq_ofNat_of_zero_le
def eV:=@List.take_length
def eW:=@Nat.xor_lt_two_pow
def eX:=@Rat.mul_assoc
def eZ:=@Int.toNat_of_nonneg
def e9:=@Nat.add_mul_div_left
def fc:=@List.drop_eq_getElem_cons
def fe:=@Array.getElem?_modify
def ff:=@List.getElem_toArray
def fg:=@List.getElem_cons_zero
def fh:=@List.drop_zero
def fi:=@List.drop_succ_cons
def fj:=@List.take_zero
def fk:=@Bool.not_true
def fm:=@Nat.blt_eq
def fo:=@Array.mem_map
def fp:=@Array.mem_range
def fu:=@getElem!_pos
def fw:=@and_true
def fz:=@List.mem_singleton
def fA:=@List.mapM_cons
def fB:=@Nat.lt_trans
def fC:=@Nat.and_lt_two_pow
def fD:=@decide_true
def fE:=@BitVec.toNat_ofInt
def fF:=@Nat.div_one
def fG:=@Rat.le_of_mul_le_mul_right
def fH:=@Rat.neg_neg
def fI:=@Rat.one_mul
def fJ:=@Rat.mul_comm
def fK:=@dif_pos
def fL:=@Rat.inv_pos
def fM:=@Rat.le_antisymm
def fN:=@List.take_succ_eq_append_getElem
def fO:=@List.length_singleton
def fP:=@Nat.mul_pos
def fQ:=@Nat.lt_or_ge
def fR:=@Nat.mul_mod_left
def fS:=@List.append_nil
def fT:=@Int.toNat_natCast
def fU:=@Nat.mul_add_mod
def fV:=@List.ext_getElem?
def fW:=@List.getElem?_append_right
def fX:=@Int.natCast_add
def fY:=@Int.natAbs_neg
def fZ:=@List.ext_getElem
def gh:=@Rat.intCast_le_intCast
def gj:=@Rat.natCast_pos
def gl:=@Nat.lt_irrefl
def gn:=@Nat.div_lt_self
def gp:=@Nat.le_mul_of_pos_left
def gq:=@Nat.mul_right_comm
def gr:=@Nat.sub_add_cancel
def gv:=@List.map_append
def gw:=@Nat.le_mul_of_pos_right
def gy:=@Array.size_append
def gz:=@Array.getElem_mem
def gE:=@List.getElem?_toArray
def gF:=@List.mem_toArray
def gG:=@Option.bind_eq_some_iff
def gI:=@Option.isSome_iff_exists
def gJ:=@Bool.and_eq_true_iff
def gK:=@BitVec.ofInt_natCast
def gL:=@BitVec.toNat_ofNat
def gM:=@Nat.pow_lt_pow_right
def gN:=@decide_eq_true_iff
def gO:=@decide_false
def gP:=@Nat.le_of_eq
def gQ:=@List.length_eq_zero_iff
def gR:=@Bool.or_self
def gS:=@List.getElem?_range
def gU:=@Nat.succ_mul
def gV:=@Nat.div_le_div_left
def ado:=@Rat.intCast_neg
def aoh:=@Rat.neg_mul
def aoi:=@Rat.inv_mul_cancel
def aoj:=@Nat.one_ne_zero
def aok:=@List.all_eq_false
def aol:=@List.cons_append
def aom:=@List.take_append_drop
def aon:=@List.eq_nil_or_concat
def aoo:=@List.concat_eq_append
def aop:=@List.getElem?_cons_succ
def aoq:=@Nat.mul_add_div
def aor:=@not_true_eq_false
def aos:=@List.append_assoc
def aot:=@List.length_nil
def aou:=@Option.getD_some
def aov:=@List.pairwise_cons
def aow:=@List.pairwise_append
def aox:=@Option.some.inj
def aoy:=@Array.getElem_setIfInBounds_ne
def aoz:=@Nat.or_lt_two_pow
def aoA:=@List.take_add_one
def aoB:=@decide_eq_decide
def aoC:=@List.getElem?_set
def aoD:=@Nat.testBit_xor
def aoE:=@Bool.false_or
def aoF:=@Rat.mul_div_cancel
def aoG:=@Nat.pow_lt_pow_iff_right
def aoH:=@Array.getElem?_setIfInBounds_ne
def aoI:=@Array.getElem?_append_left
def aoJ:=@Int.tdiv_eq_ediv_of_nonneg
def aoK:=@Array.toList_setIfInBounds
def aoL:=@List.drop_length_add_append
def aoM:=@Array.all_eq_true_iff_forall_mem
def aoN:=@Array.mapM_eq_mapM_toList
def aoO:=@Nat.and_two_pow_sub_one_eq_mod
def aoP:=@Nat.eq_of_mul_eq_mul_right
def aoQ:=@Nat.lt_of_mul_lt_mul_right
def aoR:=@Rat.lt_of_mul_lt_mul_right
def aoS:=@Int.tmod_eq_emod_of_nonneg
def aoT:=@Int.mul_tdiv_cancel_left
def aoU:=@Nat.mul_div_cancel_left
def aoV:=@Nat.mod_two_eq_zero_or_one
def aoW:=@Nat.mul_lt_mul_of_lt_of_lt
def aoX:=@Lib.hid
end Go.Proofs.YtgdahmmlddfimaaGreatDoor
namespace Go.Proofs.YtgdahmmlddfimaaGreatDoor.Fp
def val:List Nat->Nat
 | []=>0
 |x::l=>x+4294967296*val l
def iN(L:List Nat):Prop:=∀ x,x ∈ L->x<4294967296
def iN.nil:iN []:=by intro x h;cases h
def iN.cons{x:Nat}{l:List Nat}(hx:x<4294967296)(h:iN l):iN (x::l):=by
 intro y hy;rcases cV.1 hy with rfl|hy;exact hx;exact h _ hy
def iN.head{x:Nat}{l:List Nat}(h:iN (x::l)):x<4294967296:=h x aH 
def iN.tail{x:Nat}{l:List Nat}(h:iN (x::l)):iN l:=λy hy=>h y (by simp[hy])
def iN.append{l m:List Nat}(h:iN l)(k:iN m):iN (l++m):=by
 intro x hx;rcases dr.1 hx with hx|hx;exact h _ hx;exact k _ hx
def iN.take{l:List Nat}(h:iN l)(n:Nat):iN (l.take n):=λx hx=>h x (dK hx)
def iN.drop{l:List Nat}(h:iN l)(n:Nat):iN (l.drop n):=λx hx=>h x (dX hx)
def iN.get{l:List Nat}(h:iN l){i:Nat}(hi:i<l.length):l[i]<4294967296:=h _ (cA hi)
def iN.getD{l:List Nat}(h:iN l)(i:Nat):l.getD i 0<4294967296:=by
 rw[bh];by_cases hi:i<l.length
 .rw [bu hi];exact h.get hi
 .rw [cj aC];decide
def iN.EL(n:Nat):iN (List.replicate n 0):=by
 intro x hx;rw[List.mem_replicate]at hx;rw[hx.2];decide
@[simp] theorem Ap:val []=0:=rfl
@[simp] theorem qX (x:Nat) (l:List Nat):val (x::l)=x+4294967296*val l:=rfl
def vE(l m:List Nat):val (l++m)=val l+4294967296^l.length*val m:=by
 induction l with
 |nil=>simp
 |cons x l ih=>
  simp only[aol,qX,ih,cQ,bD];rw[bO,bG (4294967296^l.length) 4294967296,bC];omega
def oL{l:List Nat}(h:iN l):val l<4294967296^l.length:=by
 induction l with
 |nil=>simp
 |cons x l ih=>
  have h1:=h.head;have h2:=ih h.tail;simp only[qX,cQ,bD];have:val l+1<=4294967296^l.length:=h2;have:=cL 4294967296 this;rw[bG (4294967296^l.length)];omega
def BP(n:Nat):val (List.replicate n 0)=0:=by
 induction n with
 |zero=>rfl
 |succ n ih=>simp[List.replicate_succ,ih]
def E5(l:List Nat)(n:Nat)(hn:n<=l.length):val l=val (l.take n)+4294967296^n*val (l.drop n):=by
 conv=>lhs;rw[<-aom n l,vE]
 rw[b9,dg hn]
def BQ(l:List Nat)(n:Nat)(hn:n<l.length):val (l.take (n+1))=val (l.take n)+4294967296^n*l[n]:=by
 rw[fN hn,vE,b9,dg aC];simp
def anc{l:List Nat}(h:iN l)(n:Nat):val (l.take n)=val l%4294967296^n:=by
 by_cases hn:n<=l.length
 .rw [E5 l n hn,dY,ca];have:=oL (h.take n);rwa[b9,dg hn]at this
 .rw [cH aC,ca];refine bQ (oL h) (bK aE aC)
def Hy{l:List Nat}(h:iN l)(n:Nat):val (l.drop n)=val l/4294967296^n:=by
 by_cases hn:n<=l.length
 .rw [E5 l n hn];have:=oL (h.take n);rw[b9,dg hn]at this;rw[e9 _ _ (bw aE),cW this,b5]
 .rw [dZ aC,cW];rfl;exact bQ (oL h) (bK aE aC)
def iG:List Nat->List Nat
 | []=>[]
 |x::l=>match iG l with
  | []=>if x=0 then[]else[x]
  |y::m=>x::y::m
def mR(L:List Nat):Nat:=(iG L).length
def ZF(l:List Nat):iG (l++[0])=iG l:=by
 induction l with
 |nil=>rfl
 |cons x l ih=>simp only[aol,iG,ih]
def ZE(l:List Nat)(x:Nat)(hx:x≠0):iG (l++[x])=l++[x]:=by
 induction l with
 |nil=>simp[iG,hx]
 |cons y l ih=>
  simp only[aol,iG,ih];cases l<;>rfl
def K1(L:List Nat):iG L=L.take (mR L):=by
 unfold mR
 induction L with
 |nil=>rfl
 |cons x l ih=>
  simp only[iG];cases h:iG l with
  |nil=>by_cases hx:x=0<;>simp[hx]
  |cons y m=>
   rw[h]at ih;simp only[cQ,eF];rw[cQ]at ih;rw[<-ih]
def pV(L:List Nat):mR L<=L.length:=by
 have h:=congrArg List.length (K1 L);rw[b9]at h;unfold mR at h ⊢;omega
def qs(L:List Nat):val (iG L)=val L:=by
 induction L with
 |nil=>rfl
 |cons x l ih=>
  simp only[iG];cases h:iG l with
  |nil=>rw[h]at ih;by_cases hx:x=0<;>simp[hx,<-ih]
  |cons y m=>rw[h]at ih;simp only[qX]at ih ⊢;rw[ih]
def iN.iG{L:List Nat}(h:iN L):iN (Fp.iG L):=by rw[K1];exact h.take _
def ny(L:List Nat):Prop:=iG L=L
def An(L:List Nat):ny (iG L):=by
 unfold ny
 induction L with
 |nil=>rfl
 |cons x l ih=>
  simp only[iG];cases h:iG l with
  |nil=>by_cases hx:x=0<;>simp[hx,iG]
  |cons y m=>rw[h]at ih;simp only[iG]at ih ⊢;rw[ih]
def ny.nil:ny []:=rfl
def BO(L:List Nat):ny L↔∀ h:0<L.length,L[L.length-1]≠0:=by
 rcases aon L with rfl|⟨l,x,rfl⟩
 .simp [ny,iG]
 .simp only[aoo,cg,fO,eG,List.getElem_concat_length];constructor
  .intro h _ hx;subst hx;have:=congrArg List.length h;rw[ZF]at this;have h2:=pV l;unfold mR at h2;rw[cg]at this;simp at this;omega
  .intro h;exact ZE l x (h aC)
def PQ(L:List Nat)(n:Nat)(hn:n<L.length)(h0:L[n]=0):mR (L.take (n+1))=mR (L.take n):=by
 unfold mR;rw[fN hn,h0,ZF]
def PO(L:List Nat)(n:Nat)(hn:n<L.length)(h0:L[n]≠0):mR (L.take (n+1))=n+1:=by
 unfold mR;rw[fN hn,ZE _ _ h0];simp;omega
def ny.LU{x:Nat}{l:List Nat}(h:ny (x::l)):ny l:=by
 rw[BO]at h ⊢;intro hl;have:=h aH;simp only[cQ,eG]at this;have e:(x::l)[l.length]'(aH)=l[l.length-1]:=by
  rw[List.getElem_cons];rw[dif_neg aC]
 rwa[e]at this
def ny.Aq{L:List Nat}(h:ny L)(hl:L≠[]):0<val L:=by
 induction L with
 |nil=>exact absurd rfl hl
 |cons x l ih=>
  simp only[qX];by_cases qL:l=[]
  .subst qL;have:=(BO _).1 h aH;simp at this;simp;omega
  .have:=ih h.LU qL;omega
def ny.ext{L M:List Nat}(hL:ny L)(hM:ny M)(kL:iN L)(kM:iN M)(h:val L=val M):L=M:=by
 induction L generalizing M with
 |nil=>
  by_cases hm:M=[]
  .exact hm.symm
  .have:=hM.Aq hm;rw[<-h]at this;simp at this
 |cons x l ih=>
  cases M with
  |nil=>have:=hL.Aq aH;rw[h]at this;simp at this
  |cons y m=>
   simp only[qX]at h;have h1:=kL.head;have h2:=kM.head;have e:x=y:= aC ;subst e;rw[ih hL.LU hM.LU kL.tail kM.tail aC]
def gY(n:Nat):List Nat:=if n=0 then[]else n%4294967296::gY (n/4294967296)
termination_by n
decreasing_by exact gn aC aE 
def oB:gY 0=[]:=by rw[gY];rfl
def Eo{n:Nat}(h:n≠0):gY n=n%4294967296::gY (n/4294967296):=by rw[gY,aZ h]
def kr(n:Nat):val (gY n)=n:=by
 induction n using Nat.strongRecOn with
 |_ n ih=>
  by_cases h:n=0
  .subst h;rw[oB];rfl
  .rw [Eo h,qX,ih _ (gn aC aE)];exact ef n 4294967296
def mz(n:Nat):iN (gY n):=by
 induction n using Nat.strongRecOn with
 |_ n ih=>
  by_cases h:n=0
  .subst h;rw[oB];exact iN.nil
  .rw [Eo h];exact iN.cons (bH _ aE) (ih _ (gn aC aE))
def vD(n:Nat):ny (gY n):=by
 induction n using Nat.strongRecOn with
 |_ n ih=>
  by_cases h:n=0
  .subst h;rw[oB];exact ny.nil
  .rw [Eo h];have h1:=ih _ (gn aC (aE:1<4294967296));unfold ny at h1 ⊢;simp only[iG,h1];by_cases h2:n/4294967296=0
   .rw [h2,oB];have:n%4294967296≠0:= aC ;simp[this]
   .rw [Eo h2]
def rS{L:List Nat}(h:iN L):iG L=gY (val L):=
 ny.ext (An L) (vD _) h.iG (mz _) (by rw[qs,kr])
def ny.FI{L:List Nat}(h:ny L)(k:iN L):L=gY (val L):=by
 rw[<-rS k];exact h.symm
def VQ{n:Nat}:gY n=[]↔n=0:=by
 constructor
 .intro h;have:=kr n;rw[h]at this;exact this.symm
 .rintro rfl;exact oB
def wk{n k:Nat}(h:n<4294967296^k):(gY n).length<=k:=by
 induction k generalizing n with
 |zero=>simp at h;subst h;rw[oB];simp
 |succ k ih=>
  by_cases h0:n=0
  .subst h0;rw[oB];simp
  .rw [Eo h0,cQ];have:n/4294967296<4294967296^k:=by
    rw[cD aE];rwa[bD]at h
   have:=ih this;omega
def Es{n k:Nat}(h:(gY n).length<=k):n<4294967296^k:=by
 have h1:=oL (mz n);rw[kr]at h1;exact bQ h1 (bK aE h)
def iq(n:Nat):Nat:=if n=0 then 0 else n.log2+1
def sJ:iq 0=0:=rfl
def mj{n k:Nat}:iq n<=k↔n<2^k:=by
 unfold iq;by_cases h:n=0
 .subst h;simp[bw]
 .rw [aZ h,<-Nat.log2_lt h];omega
def wm{n k:Nat}:k<iq n↔2^k<=n:=by
 have:=@mj n k;omega
def yR{n k:Nat}(h1:2^k<=n)(h2:n<2^(k+1)):iq n=k+1:=by
 have a:=wm.2 h1;have b:=mj.2 h2;omega
def sf(n:Nat):n<2^iq n:=mj.1 (bg _)
def tV{n:Nat}(h:n≠0):2^(iq n-1)<=n:=by
 have:iq n-1<iq n:=by
  have:iq n≠0:=by unfold iq;simp[h]
  omega
 exact wm.1 this
def o0{n:Nat}(h:n≠0):0<iq n:=by unfold iq;simp[h]
def uH{m n:Nat}(h:m<=n):iq m<=iq n:=mj.2 (cz h (sf n))
def q7{n:Nat}(h:n≠0)(k:Nat):iq (n*2^k)=iq n+k:=by
 have h1:=sf n;have h2:=tV h;have h3:=o0 h;have e:iq n+k=(iq n-1+k)+1:= aC ;rw[e];apply yR
 .rw [bt];exact bL _ h2
 .rw [<-e,bt];exact dh h1 (bw aE)
def sF(k:Nat):(4294967296:Nat)^k=2^(32*k):=by
 rw[Nat.pow_mul]
def abu{l:List Nat}{x:Nat}(h:iN (l++[x]))(hx:x≠0):iq (val (l++[x]))=32*l.length+iq x:=by
 rw[vE];simp only[qX,Ap,cF,bR];have hl:val l<4294967296^l.length:=oL (λy hy=>h y (by simp[hy]));rw[sF]at hl ⊢;have h1:=sf x;have h2:=tV hx;have h3:=o0 hx;have e:32*l.length+iq x=(32*l.length+(iq x-1))+1:= aC ;rw[e];apply yR
 .rw [bt];have:=cL (2^(32*l.length)) h2;omega
 .rw [<-e,bt];have:=cL (2^(32*l.length)) (show x+1<=2^iq x from h1);rw[bO]at this;omega
def kE(a b:Nat):Int:=if a<b then -1 else if b<a then 1 else 0
def K6{L M:List Nat}(kL:iN L)(hM:ny M)(h:L.length<M.length):val L<val M:=by
 rcases aon M with rfl|⟨m,x,rfl⟩
 .simp at h
 .simp only[aoo,cg,fO]at h hM ⊢;have hx:x≠0:=by
   have:=(BO _).1 hM aH;simpa using this
  have h1:=oL kL;rw[vE];have h2:(4294967296:Nat)^L.length<=4294967296^m.length:=bK aE aC;have h3:(4294967296:Nat)^m.length*1<=4294967296^m.length*val [x]:=cL _ aN;omega
def am8{L M:List Nat}(kL:iN L)(i:Nat)(hi:i<L.length)(hlen:L.length=M.length)(agi:L.drop (i+1)=M.drop (i+1))(iB:L[i]<M[i]'(aC)):val L<val M:=by
 rw[E5 L (i+1) aC,E5 M (i+1) aC,agi,BQ L i hi,BQ M i aC];have h1:=oL (kL.take i);rw[b9,dg aC]at h1;have h2:=cL (4294967296^i) (show L[i]+1<=M[i]'(aC)from iB);rw[bO]at h2;omega
def ana(L:List Nat)(k:Nat)(h:iN L):val (L.drop k)=val L/2^(32*k):=by
 rw[Hy h,sF]
def qW(s:Nat):List Nat->List Nat
 | []=>[]
 |x::l=>((x+4294967296*l.getD 0 0)/2^s)%4294967296::qW s l
def KP(s:Nat)(L:List Nat):(qW s L).length=L.length:=by
 induction L with
 |nil=>rfl
 |cons x l ih=>simp[qW,ih]
def YY(s:Nat)(L:List Nat)(i:Nat)(h:i<L.length):(qW s L)[i]? = some (((L[i]+4294967296*L.getD (i+1) 0)/2^s)%4294967296):=by
 induction L generalizing i with
 |nil=>simp at h
 |cons x l ih=>
  cases i with
  |zero=>simp[qW]
  |succ i=>
   simp only[cQ]at h;simp only[qW,aop,ih i aC,eh];congr 1
def Bq(s:Nat)(L:List Nat):iN (qW s L):=by
 induction L with
 |nil=>exact iN.nil
 |cons x l ih=>exact iN.cons (bH _ aE) ih
def anb{L:List Nat}(h:iN L)(s:Nat)(hs:s<32):val (qW s L)=val L/2^s:=by
 induction L with
 |nil=>simp[qW]
 |cons x l ih=>
  have e:32=s+(32-s):= aC ;have e2:(4294967296:Nat)=2^s*2^(32-s):=by rw[<-bt,<-e]
  have hp:0<2^s:=bw aE;have hx:=h.head;simp only[qW,qX,ih h.tail];generalize hv:val l=v;have hh:l.getD 0 0=v%4294967296:=by
   rw[<-hv];cases l with
   |nil=>simp
   |cons y m=>
    have:=h.tail.head;simp[qX];omega
  rw[hh];have f1:(x+4294967296*(v%4294967296))/2^s=x/2^s+2^(32-s)*(v%4294967296):=by
   rw[show x+4294967296*(v%4294967296)=x+2^s*(2^(32-s)*(v%4294967296))by rw[<-bC,<-e2],e9 _ _ hp]
  have f2:(x+4294967296*v)/2^s=x/2^s+2^(32-s)*v:=by
   rw[show x+4294967296*v=x+2^s*(2^(32-s)*v)by rw[<-bC,<-e2],e9 _ _ hp]
  rw[f1,f2];have qc:x/2^s<2^(32-s):=by
   rw[cD hp,bG,<-e2];exact hx
  generalize x/2^s=q at qc ⊢;have g1:(4294967296:Nat)=2^(32-s)*2^s:=by rw[bG];exact e2
  have g2:v=2^s*(v/2^s)+v%2^s:=(cI v (2^s)).symm;have g3:(q+2^(32-s)*(v%4294967296))%4294967296=q+2^(32-s)*(v%2^s):=by
   have k1:v%4294967296%2^s=v%2^s:=by
    rw[e2,Nat.mod_mul_right_mod]
   have k2:(v%4294967296)=2^s*(v%4294967296/2^s)+v%2^s:=by
    rw[<-k1];exact(cI _ _).symm
   conv=>lhs;rw[k2]
   rw[bO,<-bC,<-g1];rw[(aC:q+(4294967296*(v%4294967296/2^s)+2^(32-s)*(v%2^s))=(q+2^(32-s)*(v%2^s))+4294967296*(v%4294967296/2^s)),dY];apply ca;have:v%2^s+1<=2^s:=bH _ hp;have:=cL (2^(32-s)) this;rw[<-g1,bO]at this;omega
  rw[g3]
  conv=>rhs;rw[g2,bO,<-bC,<-g1]
  omega
def K7{L:List Nat}(h:iN L)(n:Nat):val (qW (n%32) (L.drop (n/32)))=val L/2^n:=by
 rw[anb (h.drop _) _ (bH _ aE),ana _ _ h,dt,<-bt];congr 2;omega
def Pz{out a:List Nat}{i c s n0:Nat}(hi:i<a.length)(hlen:out.length=n0+i)
 (h:val out+4294967296^(n0+i)*c=val (a.take i)*2^s*4294967296^n0):
 val (out++[(a[i]*2^s+c)%4294967296])+4294967296^(n0+(i+1))*((a[i]*2^s+c)/4294967296)=val (a.take (i+1))*2^s*4294967296^n0:=by
 rw[vE,BQ a i hi,hlen];simp only[qX,Ap,cF,bR];generalize hx:a[i]*2^s+c=x;have e:=ef x 4294967296;have p:4294967296^(n0+(i+1))=4294967296^(n0+i)*4294967296:=by rw[<-cR,bD]
 rw[p,cR,bC (4294967296^(n0+i)),<-bO,e,<-hx,bO,<-cR,Nat.add_right_comm,h,bX,bX];congr 1;rw[bt]
 ac_rfl
def wJ(b:List Nat)(i:Nat):val (b.take (i+1))=val (b.take i)+4294967296^i*b.getD i 0:=by
 by_cases hi:i<b.length
 .rw [BQ b i hi,bh,bu hi];rfl
 .rw [cH aC,cH aC,bh,cj aC];simp
def aoa{out a b:List Nat}{i c y d c':Nat}(hi:i<a.length)(hlen:out.length=i)
 (hb:val (b.take (i+1))=val (b.take i)+4294967296^i*y)
 (hd:d+y+c=a[i]+4294967296*c')
 (h:val out+val (b.take i)=val (a.take i)+4294967296^i*c):
 val (out++[d])+val (b.take (i+1))=val (a.take (i+1))+4294967296^(i+1)*c':=by
 rw[vE,BQ a i hi,hb,hlen];simp only[qX,Ap,cF,bR];have e:=congrArg (4294967296^i * ·) hd;simp only[bO,<-bC]at e;rw[bD];omega
def jN(n:Nat):Nat:=if n=0 then 0 else(Nat.gcd n (2^(Nat.log2 n+1))).log2
def LW{m:Nat}(hm:m%2=1)(k:Nat):jN (m*2^k)=k:=by
 have h0:m*2^k≠0:=dD aC (ej (bw aE));unfold jN;rw[aZ h0];have hk:k<=Nat.log2 (m*2^k):=by
  apply bU;intro h;have h1:m*2^k<2^k:=(Nat.log2_lt h0).1 aC;have:1*2^k<=m*2^k:=bL _ aC;omega
 obtain⟨j,hj⟩:∃ j,Nat.log2 (m*2^k)+1=j+k:=⟨Nat.log2 (m*2^k)+1-k,aC⟩
 rw[hj,bt,Nat.gcd_mul_right];have hg:Nat.gcd m (2^j)=1:=by
  have hc:Nat.Coprime m 2:=by
   unfold Nat.Coprime;rw[Nat.gcd_comm,Nat.gcd_rec,hm];rfl
  exact Nat.Coprime.pow_right j hc
 rw[hg,bZ,Nat.log2_two_pow]
def LX{n:Nat}(h:n%2=1):jN n=0:=by have:=LW h 0;simpa using this
def amU{n:Nat}(h:n≠0):∃ m k,m%2=1/\n=m*2^k:=by
 induction n using Nat.strongRecOn with
 |_ n ih=>
  by_cases h2:n%2=1
  .exact ⟨n,0,h2,aH⟩
  .obtain ⟨m,k,hm,he⟩:=ih (n/2) aC aC ;exact⟨m,k+1,hm,by rw[bD,<-bC,<-he];omega⟩
def RZ{n:Nat}(h:n≠0)(h2:n%2=0):jN n=jN (n/2)+1:=by
 obtain⟨m,k,hm,he⟩:=amU (n:=n/2) aC;have e:n=m*2^(k+1):=by rw[bD,<-bC,<-he];omega
 rw[he,LW hm]
 conv=>lhs;rw[e]
 exact LW hm _
def B3{n:Nat}(h:n≠0):∃ m,m%2=1/\n=m*2^jN n:=by
 induction n using Nat.strongRecOn with
 |_ n ih=>
  by_cases h2:n%2=1
  .exact ⟨n,h2,by rw[LX h2];omega⟩
  .obtain ⟨m,hm,he⟩:=ih (n/2) aC aC ;refine⟨m,hm,?_⟩;rw[RZ h aC,bD,<-bC,<-he];omega
def yZ{m:Nat}(hm:m%2=1)(k:Nat):jN (m*2^k)=k:=by
 induction k with
 |zero=>rw[cE,b8,LX hm]
 |succ k ih=>
  have hp:0<m*2^k:=fP aC (bw aE);have e:m*2^(k+1)=m*2^k*2:=by rw[bD,bC]
  rw[e,RZ aC aC,dL _ aE,ih]
def Ez{n:Nat}(h:n≠0):(n/2^jN n)%2=1:=by
 obtain⟨m,hm,he⟩:=B3 h;have:n/2^jN n=m:=by conv=>lhs;rw[he,yZ hm];rw[dL _ (bw aE)]
 rw[this];exact hm
def FD{n:Nat}(h:n≠0):(n/2^jN n)*2^jN n=n:=by
 obtain⟨m,hm,he⟩:=B3 h;have:n/2^jN n=m:=by conv=>lhs;rw[he,yZ hm];rw[dL _ (bw aE)]
 rw[this];exact he.symm
def GZ{n:Nat}(h:n≠0):2^jN n<=n:=by
 obtain⟨m,hm,he⟩:=B3 h
 conv=>rhs;rw[he]
 exact gp _ aC 
def acT{x v:Nat}(hx:x≠0)(iB:x<4294967296):jN (x+4294967296*v)=jN x:=by
 obtain⟨m,hm,he⟩:=B3 hx;have hk:jN x<32:=by
  have h1:=GZ hx;rcases fQ (jN x) 32 with h|h
  .exact h
  .have:=bK (n:=2) aE h;have e:(2:Nat)^32=4294967296:= aE ;omega
 have e:x+4294967296*v=(m+2^(32-jN x)*v)*2^jN x:=by
  rw[bX,<-he,gq,<-bt,gr aC]
 conv=>lhs;rw[e]
 apply yZ;have:2^(32-jN x)=2*2^(31-jN x):=by rw[(aC:32-jN x=(31-jN x)+1),bD,bG]
 rw[this,bC,dY];exact hm
def acU{v:Nat}(hv:v≠0)(k:Nat):jN (2^k*v)=k+jN v:=by
 obtain⟨m,hm,he⟩:=B3 hv
 conv=>lhs;rw[he,<-bC,bG (2^k),bC,<-bt]
 exact yZ hm _
def Hz{L:List Nat}:val L=0↔∀ x,x ∈ L->x=0:=by
 induction L with
 |nil=>simp
 |cons x l ih=>
  simp only[qX,cV];constructor
  .intro h y hy;rcases hy with rfl|hy
   .omega
   .exact ih.1 aC y hy
  .intro h;have h1:=h x (.inl rfl);have h2:=ih.2 (λy hy=>h y (.inr hy));omega
def acV{L:List Nat}(h:iN L)(i:Nat)(hi:i<L.length)(h0:∀ j,(hj:j<i)->L[j]=0)(hx:L[i]≠0):jN (val L)=32*i+jN L[i]:=by
 rw[E5 L i aC];have:val (L.take i)=0:=by
  rw[Hz];intro y hy;obtain⟨j,hj,rfl⟩:=List.getElem_of_mem hy;rw[b9]at hj;rw[List.getElem_take];exact h0 j aC 
 rw[this,b5,sF,fc hi,qX];rw[acU aC,acT hx (h.get hi)]
def PY{L:List Nat}{k x:Nat}(hk:k<L.length):val (L.set k x)+4294967296^k*L[k]=val L+4294967296^k*x:=by
 induction L generalizing k with
 |nil=>simp at hk
 |cons y l ih=>
  cases k with
  |zero=>simp;omega
  |succ k=>
   simp only[cQ]at hk;have:=ih (k:=k) aC;simp only[List.set_cons_succ,qX,eh,bD];have e1:(4294967296^k*4294967296*l[k])=4294967296*(4294967296^k*l[k]):=by ac_rfl
   have e2:(4294967296^k*4294967296*x)=4294967296*(4294967296^k*x):=by ac_rfl
   rw[e1,e2];omega
def iN.set{L:List Nat}(h:iN L)(k:Nat){x:Nat}(hx:x<4294967296):iN (L.set k x):=by
 intro y hy;rcases List.mem_or_eq_of_mem_set hy with hy|rfl
 .exact h _ hy
 .exact hx
structure Dy where
 neg:Bool
 m:Nat
 e:Int
def Dy.nn(d:Dy):Prop:=(d.m=0/\d.neg=false/\d.e=0)\/d.m%2=1
def canon(neg:Bool)(m:Nat)(e:Int):Dy:=if m=0 then⟨false,0,0⟩else⟨neg,m/2^jN m,e+jN m⟩
def tl(neg:Bool)(m:Nat)(e:Int):(canon neg m e).nn:=by
 unfold canon;split
 .exact .inl ⟨rfl,rfl,rfl⟩
 .rename_i h;exact .inr (Ez h)
def Dy.nn.B0{d:Dy}(h:d.nn):canon d.neg d.m d.e=d:=by
 obtain⟨s,m,e⟩:=d;rcases h with⟨h1,h2,h3⟩|h
 .simp only at h1 h2 h3;subst h1 h2 h3;rfl
 .simp only at h ⊢;unfold canon;rw[aZ aC,LX h];simp
def mZ(d:Dy):Prop:=d.m=0\/iq d.m<=4096 /\ -16384<=d.e/\d.e<=16384/\(iq d.m:Int)+d.e<=16384
instance (d:Dy):Decidable (mZ d):=by unfold mZ;infer_instance
structure Dy.ij(d:Dy):Prop where
 canon:d.nn
 range:mZ d
def ju:Dy:=⟨false,0,0⟩
def rU:ju.ij:=⟨.inl ⟨rfl,rfl,rfl⟩,.inl rfl⟩
def Dy.iM(d:Dy):Int:=if d.m=0 then 0 else if d.neg then -1 else 1
def Dy.iw(d:Dy):Int:=if d.m=0 then 0 else iq d.m+d.e
def Dy.jO(d:Dy)(e:Int):Nat:=d.m*2^(d.e-e).toNat
def Dy.num(d:Dy)(e:Int):Int:=if d.neg then -(d.jO e:Int)else d.jO e
def jj(a b:Dy):Int:=
 if a.num (min a.e b.e)<b.num (min a.e b.e)then -1 else if b.num (min a.e b.e)<a.num (min a.e b.e)then 1 else 0
def yi{d:Dy}(h:d.m≠0)(e:Int):0<d.jO e:=fP aC (bw aE)
def V6{d:Dy}(h:d.m=0)(e:Int):d.jO e=0:=by unfold Dy.jO;rw[h,cJ]
def IF{d:Dy}(h:d.m≠0){e:Int}(he:e<=d.e):(iq (d.jO e):Int)=iq d.m+d.e-e:=by
 unfold Dy.jO;rw[q7 h];omega
def V5{a b:Dy}(ha:a.m≠0)(hb:b.m≠0){e:Int}(h1:e<=a.e)(h2:e<=b.e)(h:a.iw<b.iw):a.jO e<b.jO e:=by
 have k1:=IF ha h1;have k2:=IF hb h2;unfold Dy.iw at h;rw[aZ ha,aZ hb]at h;rcases fQ (a.jO e) (b.jO e)with h'|h'
 .exact h'
 .have:=uH h';omega
def tn(a b:Dy):Int:=kE (a.jO (min a.e b.e)) (b.jO (min a.e b.e))
def RS{a b:Dy}(ha:a.m≠0)(hb:b.m≠0)(h:a.iw<b.iw):tn a b = -1:=by
 unfold tn kE;rw[a6 (V5 ha hb (Int.min_le_left _ _) (Int.min_le_right _ _) h)]
def RR{a b:Dy}(ha:a.m≠0)(hb:b.m≠0)(h:b.iw<a.iw):tn a b=1:=by
 have:=V5 hb ha (Int.min_le_right a.e b.e) (Int.min_le_left _ _) h;unfold tn kE;rw[aZ aC,a6 this]
def ES(d:Dy):(d.m=0/\d.iM=0)\/(d.m≠0/\d.neg=true/\d.iM = -1)\/(d.m≠0/\d.neg=false/\d.iM=1):=by
 unfold Dy.iM;by_cases h:d.m=0
 .exact .inl ⟨h,a6 h⟩
 .cases hn:d.neg
  .exact .inr (.inr ⟨h,rfl,by simp[h]⟩)
  .exact .inr (.inl ⟨h,rfl,by simp[h]⟩)
def WW{d:Dy}(e:Int):(d.iM=0->d.num e=0)/\(d.iM = -1->d.num e<0/\d.num e = -(d.jO e))/\(d.iM=1->0<d.num e/\d.num e=d.jO e):=by
 unfold Dy.num;rcases ES d with⟨h1,h2⟩|⟨h1,h2,h3⟩|⟨h1,h2,h3⟩
 .rw [h2,V6 h1];simp
 .have:=yi h1 e;rw[h3,h2];simp;omega
 .have:=yi h1 e;rw[h3,h2];simp;omega
def DG(a b:Dy):jj a b=if a.iM<b.iM then -1 else if b.iM<a.iM then 1 else if a.iM=0 then 0 else a.iM*tn a b:=by
 unfold jj tn kE;generalize min a.e b.e=e;obtain⟨p1,p2,p3⟩:=WW (d:=a) e;obtain⟨q1,q2,q3⟩:=WW (d:=b) e;generalize a.num e=x at *
 generalize b.num e=y at *
 generalize a.jO e=x' at *
 generalize b.jO e=y' at *
 have ha:a.iM=0\/a.iM = -1\/a.iM=1:=by rcases ES a with⟨_,h⟩|⟨_,_,h⟩|⟨_,_,h⟩<;>simp[h]
 have hb:b.iM=0\/b.iM = -1\/b.iM=1:=by rcases ES b with⟨_,h⟩|⟨_,_,h⟩|⟨_,_,h⟩<;>simp[h]
 generalize a.iM=s at *
 generalize b.iM=t at *
 rcases ha with rfl|rfl|rfl<;>rcases hb with rfl|rfl|rfl<;>simp at p1 p2 p3 q1 q2 q3<;>(repeat' split)<;>omega
def j8(z:Int)(e:Int):Dy:=canon (decide (z<0)) z.natAbs e
def iL(a b:Dy):Dy:=
 if a.m=0 then b else if b.m=0 then a else j8 (a.num (min a.e b.e)+b.num (min a.e b.e)) (min a.e b.e)
def jt(d:Dy):Dy:=⟨!d.neg&&decide (d.m≠0),d.m,d.e⟩
def Oo{d:Dy}(h:d.nn):(jt d).nn:=by
 rcases h with⟨h1,h2,h3⟩|h
 .exact .inl ⟨h1,by simp[jt,h1],h3⟩
 .exact .inr h
def zZ{d:Dy}(h:d.ij):(jt d).ij:=⟨Oo h.canon,h.range⟩
def alG(n:Bool)(m:Nat)(e:Int):(canon n m e).iM=if m=0 then 0 else if n then -1 else 1:=by
 unfold canon;by_cases h:m=0
 .simp [h,Dy.iM]
 .have:(canon n m e).m≠0:=by unfold canon;rw[aZ h];have:=Ez h;simp only;omega
  unfold canon at this;rw[aZ h]at this ⊢;unfold Dy.iM;rw[aZ this,aZ h]
def alH(z e:Int):(j8 z e).iM=if z<0 then -1 else if 0<z then 1 else 0:=by
 unfold j8;rw[alG];by_cases h:z<0
 .rw [aZ aC,a6 h];simp[h]
 .rw [aZ h];by_cases h0:0<z
  .rw [aZ aC,a6 h0];simp[h]
  .rw [aZ h0,a6 aC]
def WV(d:Dy)(e:Int)(hd:d.m≠0):(jt d).num e = -(d.num e):=by
 unfold Dy.num jt Dy.jO;cases d.neg<;>simp[hd]
def acJ{a b:Dy}(ha:a.m≠0)(hb:b.m≠0):(iL a (jt b)).iM=jj a b:=by
 unfold iL;rw[aZ ha,aZ (by simpa[jt]using hb),alH];have e1:(jt b).e=b.e:=rfl;rw[e1,WV _ _ hb];unfold jj;generalize a.num _=x;generalize b.num _=y
 repeat' split
 all_goals omega
def acL{a b:Dy}(ha:a.m≠0)(hb:b.m≠0)(hs:a.iM=b.iM)(h:a.iw<b.iw):jj a b = -a.iM:=by
 rw[DG,aZ aC,aZ aC,RS ha hb h];split<;>omega
def acK{a b:Dy}(ha:a.m≠0)(hb:b.m≠0)(hs:a.iM=b.iM)(h:b.iw<a.iw):jj a b=a.iM:=by
 rw[DG,aZ aC,aZ aC,RR ha hb h];split<;>omega
def DH(a b:Dy):jj a b=if a.iM≠b.iM then(if a.iM<b.iM then -1 else 1)else if a.iM=0 then 0 else
 if a.iw≠b.iw then(if(a.iw<b.iw)=(0<a.iM)then -1 else 1)else(iL a (jt b)).iM:=by
 by_cases hs:a.iM=b.iM
 .rw [aZ (by simpa using hs)];by_cases h0:a.iM=0
  .rw [a6 h0,DG,aZ aC,aZ aC,a6 h0]
  .rw [aZ h0];have ha:a.m≠0:=by intro h;exact h0 (by unfold Dy.iM;rw[a6 h])
   have hb:b.m≠0:=by intro h;exact h0 (by rw[hs];unfold Dy.iM;rw[a6 h])
   have hc:a.iM = -1\/a.iM=1:=by rcases ES a with⟨_,h⟩|⟨_,_,h⟩|⟨_,_,h⟩<;>simp_all
   by_cases ht:a.iw=b.iw
   .rw [aZ (by simpa using ht),acJ ha hb]
   .rw [a6 (by simpa using ht)];rcases Int.lt_or_gt_of_ne ht with h|h
    .rw [acL ha hb hs h];rcases hc with h'|h'<;>rw[h']<;>simp[h]
    .rw [acK ha hb hs h];rcases hc with h'|h'<;>rw[h']<;>simp[(aC:¬a.iw<b.iw)]
 .rw [a6 (by simpa using hs),DG];by_cases h:a.iM<b.iM
  .rw [a6 h,a6 h]
  .rw [aZ h,aZ h,a6 aC]
def aaw{out:List Nat}{k c x y P Q P' Q':Nat}(hlen:out.length=k)(h:val out+4294967296^k*c=P+Q)
 (hP:P'=P+4294967296^k*x) (hQ:Q'=Q+4294967296^k*y):
 val (out++[(c+x+y)%4294967296])+4294967296^(k+1)*((c+x+y)/4294967296)=P'+Q':=by
 rw[vE,hlen,hP,hQ];simp only[qX,Ap,cF,bR];generalize hx:c+x+y=z;have e:=ef z 4294967296;rw[bD,cR,bC,<-bO,e,<-hx,bO,bO];omega
def amb{out:List Nat}{k c x y d c' P Q P' Q':Nat}(hlen:out.length=k)(h:val out+Q=P+4294967296^k*c)
 (hP:P'=P+4294967296^k*x) (hQ:Q'=Q+4294967296^k*y) (hd:d+y+c=x+4294967296*c'):
 val (out++[d])+Q'=P'+4294967296^(k+1)*c':=by
 rw[vE,hlen,hP,hQ];simp only[qX,Ap,cF,bR];have e:=congrArg (4294967296^k * ·) hd;simp only[bO,<-bC]at e;rw[bD];omega
def Zf{out:List Nat}{n c P Q:Nat}(ho:iN out)(hlen:out.length=n)(h:val out+Q=P+4294967296^n*c)(hle:Q<=P):c=0/\val out=P-Q:=by
 have h1:=oL ho;rw[hlen]at h1;rcases c with _|c
 .exact ⟨rfl,aC⟩
 .exfalso;have:4294967296^n*1<=4294967296^n*(c+1):=cL _ aC;omega
def abo{L:List Nat}(h:iN L)(k:Nat)(hk:k/32<L.length):val L/2^k%2=L[k/32]/2^(k%32)%2:=by
 have e:k=32*(k/32)+k%32:= aC 
 conv=>lhs;rw[e,bt,<-dt,<-sF,<-Hy h,fc hk,qX]
 have hs:k%32<32:=bH _ aE;have e2:(4294967296:Nat)=2^(k%32)*(2*2^(31-k%32)):=by
  rw[<-Nat.pow_succ',<-bt,(aC:k%32+(31-k%32).succ=32)]
 conv=>lhs;rw[e2,bC,e9 _ _ (bw aE),bC,dY]
def abn{n k:Nat}(h:n≠0)(hk:k<jN n):n/2^k%2=0:=by
 obtain⟨m,hm,he⟩:=B3 h;generalize jN n=c at *
 rw[he,(aC:c=k+(c-k)),bt,<-bC,gq,dL _ (bw aE),(aC:c-k=(c-k-1)+1),bD,<-bC,fR]
def abm{n:Nat}(h:n≠0):n/2^jN n%2=1:=Ez h
def Fv{L:List Nat}(h:iN L)(h0:val L≠0):jN (val L)/32<L.length:=by
 have h1:=GZ h0;have h2:=oL h;rw[sF]at h2;have h3:2^jN (val L)<2^(32*L.length):=cz h1 h2;have:=(aoG (aE:1<2)).1 h3;omega
end Go.Proofs.YtgdahmmlddfimaaGreatDoor.Fp
namespace Go.Proofs.YtgdahmmlddfimaaGreatDoor
open Go.RowKit Fp
structure Sl(w:World)(A:Option Addr)(c:Nat)(L:List Nat):Prop where
 cap:L.length<=c
 ri:c<=9223372036854775807
 ok:iN L
 yo:A=none->c=0
 cell:∀ (i x:Nat),L[i]? = some x->∃ b o,A=some ⟨b,o,none⟩/\b<w.heap.size/\w.cell? ⟨b,o+i,none⟩=some (.int .u32 (x:Int))
def abx(a:Addr)(n:Nat):(a.add n).block=a.block:=by unfold Addr.add;split<;>rfl
section
variable {w w':World} {A:Option Addr} {c:Nat} {L:List Nat}
def Sl.mv(h:Sl w A c L){i:Nat}(hi:i<L.length):∃ b o,A=some ⟨b,o,none⟩/\b<w.heap.size/\w.cell? ⟨b,o+i,none⟩=some (.int .u32 (L[i]:Int)):=
 h.cell i _ (bu hi)
def Sl.nil(w:World):Sl w none 0 []:=⟨bg _,aE,iN.nil,λ_=>rfl,λi x h=>by simp at h⟩
def Sl.below(h:Sl w A c L)(hb:Below w.heap.size w w'):Sl w' A c L:=
 ⟨h.cap,h.ri,h.ok,h.yo,λi x hx=>by
  obtain⟨b,o,e,h1,h2⟩:=h.cell i x hx;exact⟨b,o,e,bQ h1 hb.size,(hb.cell h1).trans h2⟩⟩
def Sl.alloc(h:Sl w A c L)(o:Obj):Sl (w.alloc o) A c L:=h.below ((Below.refl _ _).alloc (bg _) _)
def Sl.drew(h:Sl w A c L):Sl w.drew A c L:=h.below ((Below.refl _ _).drew)
def Sl.take(h:Sl w A c L)(n:Nat):Sl w A c (L.take n):=
 ⟨by have:=h.cap;rw[b9];omega,h.ri,h.ok.take n,h.yo,λi x hx=>h.cell i x (by
  rw[du]at hx;split at hx
  .exact hx
  .cases hx)⟩
def Sl.len(h:Sl w A c L):L.length<=9223372036854775807:=bk h.cap h.ri
def Sl.eqv{L':List Nat}(h:Sl w A c L)(e:L=L'):Sl w A c L':=e▸h
end
def BU(b o i:Nat):(⟨b,o,none⟩:Addr).add i=⟨b,o+i,none⟩:=by
 unfold Addr.add;split
 .rename_i h0;rw[h0];rfl
 .simp
abbrev iI(w w':World):Prop:=Below w.heap.size w w'
def iI.trans{a b c:World}(h:iI a b)(k:iI b c):iI a c:=Below.trans h (k.mono h.size)
def iI.alloc(w:World)(o:Obj):iI w (w.alloc o):=(Below.refl _ _).alloc (bg _) _
def iI.drew(w:World):iI w w.drew:=(Below.refl _ _).drew
def iI.refl(w:World):iI w w:=Below.refl _ _
def KG{A:Option Addr}{n m c:Nat}(h:n=m):Ending.returned (.slice A n c) = .returned (.slice A m c):=by rw[h]
def oQ{k:IntKind}{a b:Int}(h:a=b):Ending.returned (.int k a) = .returned (.int k b):=by rw[h]
def KF{a b:Bool}(h:a=b):Ending.returned (.bool a) = .returned (.bool b):=by rw[h]
def uE(w:World)(L:List Nat)(e:Ending)(w':World):Prop:=∃ A c,e = .returned (.slice A L.length c)/\Sl w' A c L/\iI w w'
def Dq(w:World)(L:List Nat)(n:Int)(e:Ending)(w':World):Prop:=∃ A c,e = .returned (.tuple #[.slice A L.length c,.int .i64 n])/\Sl w' A c L/\iI w w'
def Tb(w:World):Prop:=TabAt 0 Lib.deBruijn32tab w
def Tb.below{w w':World}(h:Tb w)(hb:iI w w'):Tb w':=λj hj=>by
 have h1:=h j hj;rw[hb.cell (block_lt_of_cell h1)];exact h1
def Tb.alloc{w:World}(h:Tb w)(o:Obj):Tb (w.alloc o):=h.below (iI.alloc _ _)
def abl(x:Nat)(h:x<4294967296):Lib.bitLen x=iq x:=by
 induction x using Nat.strongRecOn with
 |_ x ih=>
  by_cases h0:x=0
  .subst h0;rfl
  .rw [Lib.bitLen_half x h0 aC,ih (x/2) aC aC];by_cases h1:x/2=0
   .have:x=1:= aC ;subst this;rfl
   .have e1:=tV h1;have e2:=sf (x/2);have e3:=o0 h1;generalize iq (x/2)=k at *
    obtain⟨j,rfl⟩:∃ j,k=j+1:=⟨k-1,aC⟩
    rw[eG]at e1;rw[Nat.add_comm];refine(yR ?_ ?_).symm
    .rw [bD];omega
    .rw [bD];omega
def acW(x:Nat)(h0:x≠0)(h:x<4294967296):Lib.ctz 32 x=jN x:=by
 unfold Lib.ctz;rw[aZ h0];obtain⟨m,hm,_⟩:=Lib.ctzFrom_spec 32 x aC h
 conv=>rhs;rw[hm,bG]
 exact(yZ aC _).symm
def oK(L:List Nat):List Value:=L.map λ(n:Nat)=>Value.int .u32 (n:Int)
def am2{L:List Nat}{j:Nat}{u:Value}(h:(oK L)[j]? = some u):∃ n,L[j]? = some n/\u = .int .u32 (n:Int):=by
 unfold oK at h;rw[b6]at h;obtain⟨n,hn,rfl⟩:=bT.1 h;exact⟨n,hn,rfl⟩
def am1(L M:List Nat):oK (L++M)=oK L++oK M:=gv
def am3(L:List Nat):∀ u ∈ oK L,u.oneCell'=true:=by
 intro u hu;obtain⟨n,_,rfl⟩:=cX.1 hu;rfl
structure Ow(w:World)(base:Nat)(v:Value)(L:List Nat):Prop where
 row:w.ownsRow base 171 1 v L.length (oK L)
 ok:iN L
def Ow.sl{w:World}{base:Nat}{v:Value}{L:List Nat}(h:Ow w base v L):∃ A c,v = .slice A L.length c/\Sl w A c L:=by
 have hr:=h.row;rcases hr.2 with⟨rfl,h0⟩|⟨g,cap,cur,rfl,hb,hg,oG,nI,mJ,Gl⟩
 .have:L=[]:=di h0;subst this;exact⟨none,0,rfl,Sl.nil w⟩
 .refine ⟨_,_,rfl,oG,(by simpa[maxLen]using nI),h.ok,(λh=>by cases h),λi x hx=>⟨_,_,rfl,(cT.1 hg).1,?_⟩⟩;have h:=hr.cells (g:=g) rfl i (.int .u32 (x:Int)) (by unfold oK;rw[b6,hx];rfl);rw[BU]at h;exact h
def Ow.nil(w:World)(base:Nat):Ow w base (.slice none 0 0) []:=⟨World.ownsRow_nil w base _ _,iN.nil⟩
def Ow.alloc{w:World}{base:Nat}{v:Value}{L:List Nat}(h:Ow w base v L)(o:Obj):Ow (w.alloc o) base v L:=⟨h.row.alloc o,h.ok⟩
def Ow.empty(w:World)(base:Nat)(hb:base<=w.heap.size):Ow (w.alloc (.cells #[] 171)) base (.slice (some ⟨w.heap.size,0,none⟩) 0 0) []:=
 ⟨World.ownsRow_made w #[] 0 hb aE rfl,iN.nil⟩
def r8{w:World}{n:Nat}(h:n<=w.heap.size)(o:Obj):n<=(w.alloc o).heap.size:= aN 
def Sl.one(w:World)(x:Nat)(hx:x<4294967296):Sl (w.alloc (.cells #[.int .u32 x] 171)) (some ⟨w.heap.size,0,none⟩) 1 [x]:=
 ⟨bg _,aE,iN.cons hx iN.nil,(λh=>by cases h),λi y hy=>by
  obtain⟨h1,h2⟩:=b7.1 hy;obtain rfl:i=0:=by simp at h1;omega
  simp at h2;subst h2;refine⟨_,_,rfl,aH,?_⟩;exact World.cell?_alloc_at _ _ _ _ rfl⟩
def Sl.ux(w:World)(y:Int)(x:Nat)(e:y=(x:Int))(hx:x<4294967296):Sl (w.alloc (.cells #[.int .u32 y] 171)) (some ⟨w.heap.size,0,none⟩) 1 [x]:=by
 subst e;exact Sl.one w x hx
def NJ:(prog.info? 171).map (λi=>(i.zero,i.size,i.bytes))=some (some (.int .u32 0),1,4):= aF 
def sG{gZ:Array Oper}{rest:List Oper}{o:Oper}{a:Act}{Q:Exit->Act->World->Prop}{w:World}(Ck:o.guard=none)(s x:Operand)
 (ho:o.op = .call { callee:=.builtin .append,args:=#[s,x],argTypes:=#[29,29] })
 (base:Nat) (v:Value) (L:List Nat) (hs:a.eval s=v) (lM:Ow w base v L)
 (A:Option Addr) (m c:Nat) (M:List Nat) (hx:a.eval x = .slice A m c) (hm:m=M.length) (hr:Sl w A c M)
 (kY:L.length+M.length<=10000000000) (afO:base<=w.heap.size)
 (h:∀ v' w',Ow w' base v' (L++M)->w.grownBy w' v.ownBlock->(v'.ownBlock=v.ownBlock\/v'.ownBlock=some w.heap.size)->wpList prog gZ Q rest (a.put o.dst v') w'):
 wpList prog gZ Q (o::rest) a w:=by
 obtain⟨i,hi,hz,h1,h2⟩:=info_parts NJ;subst hm;rcases A with _|ad
 .have hc:=hr.yo rfl;subst hc;have hM:M=[]:=di (by have:=hr.cap;omega);subst hM;refine wpList_append_own_none Ck s x _ ho base _ i 1 underlying29 hi v _ _ hs lM.row hx ?_;have:=h v w (by rw[fS];exact lM) ⟨rfl,rfl,rfl,bg _,λ_ _ _=>rfl⟩ (.inl rfl);exact this
 .refine wpList_append_own_at w Ck s x _ ho base _ i _ 1 4 underlying29 hi hz h1 h2 rfl aE v L.length (oK L) hs lM.row ad M.length c (oK M) hx (by simp[oK]) ?_ (am3 M)
   (by simp only[maxLen];omega) aC afO ?_
  .intro j u hu;obtain⟨n,hn,rfl⟩:=am2 hu;obtain⟨b,o,e,_,hc⟩:=hr.cell j n hn;cases e;rw[BU];exact hc
  .intro v' w' agc hg _ qi;exact h v' w' ⟨by rw[cg,am1];exact agc,lM.ok.append hr.ok⟩ hg qi
def Rw(w:World)(b:Nat)(L:List Nat):Prop:=w.heap[b]? = some (.cells (oK L).toArray 171 (0,0))
section
variable {w w':World} {b:Nat} {L:List Nat}
def Rw.lt(h:Rw w b L):b<w.heap.size:=(cT.1 h).1
def Rw.cell(h:Rw w b L){i x:Nat}(hx:L[i]? = some x):w.cell? ⟨b,i,none⟩=some (.int .u32 (x:Int)):=by
 unfold Rw at h;simp only[World.cell?,h];simp[oK,hx]
def Rw.frozen(h:Rw w b L)(i:Nat):w.frozen? ⟨b,i,none⟩=false:=by
 unfold Rw at h;simp[World.frozen?,h]
def Rw.set(h:Rw w b L)(i x:Nat):Rw (w.setCell ⟨b,i,none⟩ (.int .u32 (x:Int))) b (L.set i x):=by
 unfold Rw at h ⊢;simp only[World.setCell,fe,h];simp[oK,List.map_set]
def Rw.sl(h:Rw w b L)(hk:iN L)(hl:L.length<=10000000000):Sl w (some ⟨b,0,none⟩) L.length L:=
 ⟨bg _,aC,hk,(λh=>by cases h),λi x hx=>⟨_,_,rfl,h.lt,by
  rw[b5];exact h.cell hx⟩⟩
def Rw.zS(w:World)(n:Nat):Rw (w.alloc (.cells (oK (List.replicate n 0)).toArray 171)) w.heap.size (List.replicate n 0):=heap_alloc_new w _
end
def aau(b i:Nat):(⟨b,0,none⟩:Addr).add i=⟨b,i,none⟩:=by
 unfold Addr.add;split
 .rename_i h0;rw[h0]
 .simp
def GD(n:Nat)(hn:n<=10000000000)(w:World):
 (Instr.makeSlice 29 (.int .i64 (n:Int)) (.int .i64 (n:Int))).run prog w = .ok (.slice (some ⟨w.heap.size,0,none⟩) n n) (w.alloc (.cells (oK (List.replicate n 0)).toArray 171)):=by
 obtain⟨i,hi,hz,h1,h2⟩:=info_parts NJ;have hr:=run_make (P:=prog) w 29 171 i _ underlying29 hi hz .i64 .i64 n n aC aC (by rw[h2];omega) aC;rw[hr,fT,h1,b8];refine congrArg (λcs=>Result.ok (Value.slice (some ⟨w.heap.size,0,none⟩) n n) (w.alloc (.cells cs 171))) ?_;apply Array.ext
 .simp [madeCells,oK]
 .intro i h1 h2;simp[madeCells,oK,Value.cells,dE]
def xD(w:World)(d:Dy)(e:Ending)(w':World):Prop:=
 ∃ A c,e = .returned (.agg #[.bool d.neg,.slice A (gY d.m).length c,.int .i64 d.e])/\Sl w' A c (gY d.m)/\iI w w'
def yL(w:World)(d:Dy)(n:Int)(e:Ending)(w':World):Prop:=
 ∃ A c,e = .returned (.tuple #[.agg #[.bool d.neg,.slice A (gY d.m).length c,.int .i64 d.e],.int .i64 n])/\Sl w' A c (gY d.m)/\iI w w'
def yJ(w:World)(g:Nat):Prop:=∀ o x,w.cell? ⟨g,o,none⟩≠some (.int .u32 x)
def Sl.Ca{w:World}{A:Option Addr}{c:Nat}{L:List Nat}(h:Sl w A c L){g i:Nat}(hg:yJ w g)(u:Value):Sl (w.setCell ⟨g,i,none⟩ u) A c L:=
 ⟨h.cap,h.ri,h.ok,h.yo,λj x hx=>by
  obtain⟨b,o,e,h1,h2⟩:=h.cell j x hx;refine⟨b,o,e,by simpa[World.setCell]using h1,?_⟩;rw[World.cell?_setCell_other w _ _ u]
  .exact h2
  .intro e';simp only[Addr.mk.injEq]at e';exact hg (o+j) x (by rw[e'.1];exact h2)⟩
def yJ.EA{w:World}{g:Nat}{cs:Array Value}{t:TypeId}{fr:Nat×Nat}(h:w.heap[g]? = some (.cells cs t fr))(hc:∀ (i:Nat) (x:Int),cs[i]? ≠ some (.int .u32 x)):yJ w g:=λo x e=>by
 simp only[World.cell?,h]at e;simp at e;exact hc o x (by simpa using e)
def jI(w:World)(g:Nat)(s:Bool)(A:Option Addr)(n c:Nat)(e:Int):Prop:=w.heap[g]? = some (.cells #[.bool s,.slice A n c,.int .i64 e] 31 (0,0))
section
variable {w w':World} {g n c:Nat} {s:Bool} {A:Option Addr} {e:Int}
def jI.new(W:World)(s:Bool)(A:Option Addr)(n c:Nat)(e:Int):jI (W.alloc (.cells #[.bool s,.slice A n c,.int .i64 e] 31)) W.heap.size s A n c e:=heap_alloc_new W _
def jI.ur{W:World}{g:Nat}(hg:W.heap.size=g)(s:Bool)(A:Option Addr)(n c:Nat)(e:Int):jI (W.alloc (.cells #[.bool s,.slice A n c,.int .i64 e] 31)) g s A n c e:=hg▸heap_alloc_new W _
def jI.lt(h:jI w g s A n c e):g<w.heap.size:=(cT.1 h).1
def jI.ext(h:jI w g s A n c e)(hb:iI w w'):jI w' g s A n c e:=(hb.block g h.lt).trans h
def jI.alloc(h:jI w g s A n c e)(o:Obj):jI (w.alloc o) g s A n c e:=h.ext (iI.alloc _ _)
def jI.drew(h:jI w g s A n c e):jI w.drew g s A n c e:=h
def jI.mN(h:jI w g s A n c e):yJ w g:=yJ.EA h (λi x=>by rcases i with _|_|_|i<;>simp)
def jI.c0(h:jI w g s A n c e):w.cell? ⟨g,0,none⟩=some (.bool s):=by unfold jI at h;simp[World.cell?,h]
def jI.c1(h:jI w g s A n c e):w.cell? ⟨g,1,none⟩=some (.slice A n c):=by unfold jI at h;simp[World.cell?,h]
def jI.c2(h:jI w g s A n c e):w.cell? ⟨g,2,none⟩=some (.int .i64 e):=by unfold jI at h;simp[World.cell?,h]
def jI.fr(h:jI w g s A n c e)(i:Nat):w.frozen? ⟨g,i,none⟩=false:=by unfold jI at h;simp[World.frozen?,h]
def jI.set(h:jI w g s A n c e)(s':Bool)(A':Option Addr)(n' c':Nat)(e':Int):
 jI (((w.setCell ⟨g,0,none⟩ (.bool s')).setCell ⟨g,1,none⟩ (.slice A' n' c')).setCell ⟨g,2,none⟩ (.int .i64 e')) g s' A' n' c' e':=by
 have h1:=heap_setCell_same w g 0 _ _ (.bool s') h;have h2:=heap_setCell_same _ g 1 _ _ (.slice A' n' c') h1;have h3:=heap_setCell_same _ g 2 _ _ (.int .i64 e') h2;exact h3
def jI.vv{L:List Nat}{A':Option Addr}{c':Nat}(h:jI w g s A n c e)(hs:Sl w A' c' L)(s':Bool)(e':Int)(n' c2:Nat)(A2:Option Addr):
 Sl (((w.setCell ⟨g,0,none⟩ (.bool s')).setCell ⟨g,1,none⟩ (.slice A2 n' c2)).setCell ⟨g,2,none⟩ (.int .i64 e')) A' c' L:=by
 have h1:=heap_setCell_same w g 0 _ _ (.bool s') h;have h2:=heap_setCell_same _ g 1 _ _ (.slice A2 n' c2) h1;have k1:yJ (w.setCell ⟨g,0,none⟩ (.bool s')) g:=yJ.EA h1 (λi x=>by rcases i with _|_|_|i<;>simp);have k2:yJ ((w.setCell ⟨g,0,none⟩ (.bool s')).setCell ⟨g,1,none⟩ (.slice A2 n' c2)) g:=yJ.EA h2 (λi x=>by rcases i with _|_|_|i<;>simp);exact((hs.Ca h.mN _).Ca k1 _).Ca k2 _
def jI.uA{w0:World}(hb:iI w0 w)(hg:w0.heap.size<=g)(s':Bool)(A':Option Addr)(n' c':Nat)(e':Int):
 iI w0 (((w.setCell ⟨g,0,none⟩ (.bool s')).setCell ⟨g,1,none⟩ (.slice A' n' c')).setCell ⟨g,2,none⟩ (.int .i64 e')):=
 ((hb.setCell hg _).setCell hg _).setCell hg _
end
def Sr:(prog.info? 31).map (·.size)=some 3:= aF 
def akd{fn:Func}{p:Tmp}(h:fn.results = #[.cell p 31])(tmps:Array Value){w:World}{g n c:Nat}{s:Bool}{A:Option Addr}{e:Int}
 (hp:tmps.getD p undef = .pointer (some ⟨g,0,none⟩)) (hb:jI w g s A n c e):
 (results fn tmps).run prog w = .ok (.agg #[.bool s,.slice A n c,.int .i64 e]) w:=
 results_cell_row h tmps w g _ _ _ _ hp hb underlying31 rfl Sr
def ake{fn:Func}{p t:Tmp}(h:fn.results = #[.cell p 31,.tmp t])(tmps:Array Value){w:World}{g n c:Nat}{s:Bool}{A:Option Addr}{e:Int}
 (hp:tmps.getD p undef = .pointer (some ⟨g,0,none⟩)) (hb:jI w g s A n c e):
 (results fn tmps).run prog w = .ok (.tuple #[.agg #[.bool s,.slice A n c,.int .i64 e],tmps.getD t undef]) w:=by
 have zz:tmps[p]?.getD undef = .pointer (some ⟨g,0,none⟩):=by simpa using hp
 simp[results,h,zz,asAddr,run_loadVar_row w g _ _ _ _ _ hb underlying31 rfl Sr]
def uI{fn:Func}{p:Tmp}(h:fn.results = #[.cell p 31]){a:Act}{w W:World}{d:Dy}{g:Nat}{A:Option Addr}{c n:Nat}
 (hp:a.tmps.getD p undef = .pointer (some ⟨g,0,none⟩)) (hd:a.defers=[]) (hb:jI W g d.neg A n c d.e) (hn:n=(gY d.m).length) (hs:Sl W A c (gY d.m)) (he:iI w W):
 bodyPost prog fn (xD w d) .ret a W:=by
 subst hn;exact bodyPost_ret (akd h _ hp hb) hd ⟨A,c,rfl,hs,he⟩
def DK{fn:Func}{p t:Tmp}(h:fn.results = #[.cell p 31,.tmp t]){a:Act}{w W:World}{d:Dy}{k:Int}{g:Nat}{A:Option Addr}{c n:Nat}
 (hp:a.tmps.getD p undef = .pointer (some ⟨g,0,none⟩)) (ht:a.tmps.getD t undef = .int .i64 k) (hd:a.defers=[]) (hb:jI W g d.neg A n c d.e) (hn:n=(gY d.m).length) (hs:Sl W A c (gY d.m)) (he:iI w W):
 bodyPost prog fn (yL w d k) .ret a W:=by
 subst hn;exact bodyPost_ret ((ake h _ hp hb).trans (by rw[ht])) hd ⟨A,c,rfl,hs,he⟩
open Go.ChangeShapes Go.WideShapes Go.ChangeAt
def own:ownKnob prog.godebug=none:= aF 
def Gy:laidOutB prog=true:= aF 
def Tj:prog.globalNamed "math/bits.deBruijn32tab" = some 0:= aF 
def aeC:(prog.globals[0]?).map (·.type)=some 256:= aF 
def acD:prog.cellsOf 256=32:= aF 
def acC:prog.cellsOf 5=1:= aF 
def acB:prog.cellsOf 171=1:= aF 
def amH {l:List (String×DataW Unit)} (hl:l=[("math/bits.deBruijn32tab", Rows.laid_math_bits_deBruijn32tab)]) {W:World} (h:laidMet prog l W):Tb W:=by
 subst hl;have ht:Lib.TabIs prog W "math/bits.deBruijn32tab" .u8 (Lib.deBruijn32tab.map λ(n:Nat)=>(n:Int)):=
  Lib.tabIs_of_head (rest:=[]) Tj aeC underlying256 underlying5 acC acD h
 intro j hj;have:=ht.cell Tj j (by simpa using hj);rw[this];simp[bh];rw[bu hj];simp
def agk{n:Int}(h:(Lit.int .i64 n).wf=true):-9223372036854775808<=n/\n<=9223372036854775807:=by
 have h1:IntKind.i64.min = -9223372036854775808:=rfl;have h2:IntKind.i64.max=9223372036854775807:=rfl;simp[Lit.wf,h1,h2]at h;omega
def aiD{H:Type}{enc:TypeId×Value->H}{W:World}{fuel:Nat}{c:Value}{x:DataW H×List MemPlace}
 (h:DataW.trod enc prog W 0 (λ_=>true) true fuel 29 [c]=some x) (_hlt:∀ p ∈ x.2,p.block<W.heap.size):
 ∃ A L cap,c = .slice A L.length cap/\Sl W A cap L:=by
 rcases open_ints underlying29 underlying171 acB h with⟨mJ,hx⟩|⟨a,len,cap,zs,mJ,_,hl,hm,hz,hx,ke,hwz⟩
 .simp at mJ;exact⟨none,[],0,mJ,Sl.nil W⟩
 .simp at mJ;simp only[bB]at hz;refine⟨some a,(zs.take len).map Int.toNat,cap,?_,?_⟩
  .rw [mJ,ck,b9,dg aC]
  .have UR:∀ n ∈ zs,0<=n/\n<4294967296:=λn hn=>by
    have:=hwz n hn;have h1:IntKind.u32.min=0:=rfl;have h2:IntKind.u32.max=4294967295:=rfl;simp[Lit.wf,h1,h2]at this;omega
   refine⟨by rw[ck,b9];omega,by simpa[maxLen]using hm,?_,(λh=>by cases h),?_⟩
   .intro y hy;obtain⟨z,xY,rfl⟩:=cX.1 hy;have:=UR z (dK xY);omega
   .intro i y hy;rw[b6]at hy;obtain⟨z,xY,rfl⟩:=bT.1 hy;rw[du]at xY;split at xY
    .rename_i hi;have hc:=ke i aC;rw[bh,xY]at hc;obtain⟨b,off,spot⟩:=a;have hsp:spot=none:=by
      rcases spot with _|q
      .rfl
      .exfalso;have px:=ke 0 aC;rw[show(⟨b,off,some q⟩:Addr).add 0=⟨b,off,some q⟩from rfl]at px;unfold World.cell? at px;split at px<;>simp at px
     subst hsp;refine⟨b,off,rfl,?_,?_⟩
     .have:=block_lt_of_cell hc;rwa[abx]at this
     .rw [BU]at hc;rw[hc];have:=UR z (dF xY);simp;omega
    .cases xY
def VV{α:Type}{l:List α}(h:l.length=3):∃ a b c,l=[a,b,c]:=by
 match l,h with
 | [a,b,c],_=>exact⟨a,b,c,rfl⟩
def ahx{α:Type}{l:List α}(h:l.length=7):∃ a b c d e f g,l=[a,b,c,d,e,f,g]:=by
 match l,h with
 | [a,b,c,d,e,f,g],_=>exact⟨a,b,c,d,e,f,g,rfl⟩
def aiB{H:Type}{enc:TypeId×Value->H}{W:World}{fuel:Nat}{cs:List Value}{x:DataW H×List MemPlace}
 (h:DataW.trod enc prog W 0 (λ_=>true) true fuel 31 cs=some x) (iB:∀ p ∈ x.2,p.block<W.heap.size):
 ∃ s A L cap e,cs=[.bool s,.slice A L.length cap,.int .i64 e]/\Sl W A cap L/\(-9223372036854775808<=e/\e<=9223372036854775807):=by
 obtain⟨xs,n,rfl,rfl,hl,lW,hf⟩:=DataW.trod_struct underlying31 h;have hC:prog.cellsOf 31=3:= aF ;have hB:prog.cellsOf 4=1:= aF ;have hS:prog.cellsOf 29=1:= aF ;have hI:prog.cellsOf 3=1:= aF ;rw[hC]at hl;obtain⟨a,b,c,rfl⟩:=VV hl;have h0:=hf 0 _ rfl;have h1:=hf 1 _ rfl;have h2:=hf 2 _ rfl;simp only[ff,fg,eh]at h0 h1 h2;simp only[hB,hS,hI,fh,fi,eF,fj]at h0 h1 h2;rw[bu (by rw[lW];decide)]at h0 h1 h2;obtain⟨s,hs,_⟩:=DataW.trod_bool underlying4 h0;obtain⟨A,L,cap,hc,rf⟩:=aiD h1 (λp hp=>iB p (dj.2 ⟨_,cA _,hp⟩));obtain⟨e,he,_,hw⟩:=DataW.trod_int underlying3 h2;simp at hs he;subst hs he hc;exact⟨s,A,L,cap,e,rfl,rf,agk hw⟩
noncomputable def NT(os:Os)(args:Array Value):World:=
 {World.holding prog os ⟨#[],args,[]⟩with heap:=(World.holding prog os ⟨#[],args,[]⟩).heap.modify 0 fun
   | .cells _ t frozen=>.cells (Lib.deBruijn32tab.map λ(n:Nat)=>Value.int .u8 (n:Int)).toArray t frozen
   |o=>o }
end Go.Proofs.YtgdahmmlddfimaaGreatDoor
namespace Go.Proofs.YtgdahmmlddfimaaGreatDoor.Pu
open Go.RowKit
inductive E where
 |any
 |v (x:Value)
 |agg (l:List E)
 |ix (l:List E)
 |sl (nl:Bool) (n sz:Nat) (el:Nat->Nat->E)
 |iQ (m:Nat) (el:Nat->E)
 |fn (f:FuncId) (cap:List E)
 |mp (l:List (Int×FuncId×List FuncId))
 |nB (fl nl:Bool) (n sz:Nat) (el:Nat->Nat->E)
def pQ:Value->Bool
 | .int .u32 _=>true
 |_=>false
def E.nr:Nat->E->Bool
 |_,.any=>true
 |_,.v _=>true
 |_,.sl ..=>true
 |_,.mp _=>true
 |d+1,.agg l=>l.all (E.nr d)
 |d+1,.ix l=>l.all (E.nr d)
 |d+1,.fn _ l=>l.all (E.nr d)
 |_,_=>false
def BS(bs:Nat->Prop)(w:World):List (Int×FuncId×List FuncId)->List MapEntry->Prop
 | [],[]=>True
 |x::l,e::es=>(e.key = .int .i64 x.1/\∃ vs:List Value,e.val = .func (.func x.2.1) #[] vs.toArray/\vs.length=x.2.2.length /\
  ∀ (i:Nat) (g:FuncId) (v:Value),x.2.2[i]? = some g->vs[i]? = some v->∃ b,v = .pointer (some ⟨b,0,none⟩)/\¬bs b/\b<w.heap.size/\w.cell? ⟨b,0,none⟩=some (.func (.func g) #[] #[]))/\BS bs w l es
 |_,_=>False
def BS.mono{bs bs':Nat->Prop}{w w':World}(kY:w.heap.size<=w'.heap.size)(h1:∀ b,b<w.heap.size->bs' b->bs b)(hc:∀ b,b<w.heap.size->¬bs b->w'.heap[b]? = w.heap[b]?):
 ∀ {l:List (Int×FuncId×List FuncId)} {es:List MapEntry},BS bs w l es->BS bs' w' l es
 | [],[],_=>trivial
 | [],_::_,h=>h
 |_::_,[],h=>h
 |_::_,_::_,⟨⟨k1,vs,k2,k3,k4⟩,h⟩=>⟨⟨k1,vs,k2,k3,λi g v hg hv=>by
  obtain⟨b,q1,q2,q3,q4⟩:=k4 i g v hg hv;exact⟨b,q1,λx=>q2 (h1 b q3 x),bQ q3 kY,by rw[World.cell?_of_block (w:=w) (hc b q3 q2)];exact q4⟩⟩,BS.mono kY h1 hc h⟩
inductive iC(bs br:Nat->Prop)(w:World):E->Value->Prop
 |any (x:Value):iC bs br w .any x
 |v (x:Value):iC bs br w (.v x) x
 |agg (l:List E) (vs:List Value) (h:vs.length=l.length) (k:∀ (i:Nat) (p:E) (x:Value),l[i]? = some p->vs[i]? = some x->iC bs br w p x):iC bs br w (.agg l) (.agg vs.toArray)
 |ix (l:List E) (vs:List Value) (h:vs.length=l.length) (k:∀ (i:Nat) (p:E) (x:Value),l[i]? = some p->vs[i]? = some x->iC bs br w p x):iC bs br w (.ix l) (.tuple vs.toArray)
 |sl (nl:Bool) (n sz:Nat) (el:Nat->Nat->E) (A:Option Addr) (c:Nat) (f:Nat->Nat->Value) (hc:n<=c) (hm:c<=9223372036854775807) (h0:A=none->c=0)
  (hl:∀ i j,i<n->j<sz->(f i j).oneCell'=true/\(nl=true->pQ (f i j)=false))
  (hr:∀ i j,i<n->j<sz->(el i j).nr 2=true)
  (cell:∀ i j,i<n->j<sz->∃ b o,A=some ⟨b,o,none⟩/\¬bs b/\b<w.heap.size/\w.cell? ⟨b,o+(i*sz+j),none⟩=some (f i j))
  (k:∀ i j,i<n->j<sz->iC bs br w (el i j) (f i j)):iC bs br w (.sl nl n sz el) (.slice A n c)
 |iQ (m:Nat) (el:Nat->E) (b o:Nat) (f:Nat->Value) (hb:¬br b) (iB:b<w.heap.size) (hl:∀ j,j<m->(f j).oneCell'=true)
  (cell:∀ j,j<m->w.cell? ⟨b,o+j,none⟩=some (f j))
  (k:∀ j,j<m->iC bs br w (el j) (f j)):iC bs br w (.iQ m el) (.pointer (some ⟨b,o,none⟩))
 |fn (f:FuncId) (l:List E) (vs:List Value) (h:vs.length=l.length) (k:∀ (i:Nat) (p:E) (x:Value),l[i]? = some p->vs[i]? = some x->iC bs br w p x):iC bs br w (.fn f l) (.func (.func f) #[] vs.toArray)
 |mp (l:List (Int×FuncId×List FuncId)) (b clk:Nat) (es:Array MapEntry) (hb:¬bs b) (iB:b<w.heap.size) (hh:w.heap[b]? = some (.map es clk)) (ho:BS bs w l es.toList):iC bs br w (.mp l) (.map (some b))
 |nB (fl nl:Bool) (n sz:Nat) (el:Nat->Nat->E) (A:Option Addr) (c:Nat) (f:Nat->Nat->Value) (hc:n<=c) (hm:c<=9223372036854775807) (h0:A=none->c=0)
  (hl:∀ i j,i<n->j<sz->(f i j).oneCell'=true/\(nl=true->pQ (f i j)=false))
  (hr:fl=true->∀ i j,i<n->j<sz->(el i j).nr 2=true)
  (cell:∀ i j,i<n->j<sz->∃ b o,A=some ⟨b,o,none⟩/\¬br b/\b<w.heap.size/\w.cell? ⟨b,o+(i*sz+j),none⟩=some (f i j))
  (k:∀ i j,i<n->j<sz->iC bs br w (el i j) (f i j)):iC bs br w (.nB fl nl n sz el) (.slice A n c)
def iC.mono{bs br bs' br':Nat->Prop}{w w':World}(kY:w.heap.size<=w'.heap.size)
 (h1:∀ b,b<w.heap.size->bs' b->bs b) (h2:∀ b,b<w.heap.size->br' b->br b)
 (hc:∀ b,b<w.heap.size->(¬bs b\/¬br b)->w'.heap[b]? = w.heap[b]?)
 {e:E} {v:Value} (h:iC bs br w e v):iC bs' br' w' e v:=by
 induction h with
 |any x=>exact .any x
 |v x=>exact .v x
 |agg l vs h k ih=>exact .agg l vs h ih
 |ix l vs h k ih=>exact .ix l vs h ih
 |sl nl n sz el A c f hn hm h0 hl hr cell k ih=>
  refine .sl nl n sz el A c f hn hm h0 hl hr (λi j hi hj=>?_) ih;obtain⟨b,o,e,hb,iB,ke⟩:=cell i j hi hj;exact⟨b,o,e,λhx=>hb (h1 b iB hx),bQ iB kY,by rw[World.cell?_of_block (w:=w) (hc b iB (.inl hb))];exact ke⟩
 |iQ m el b o f hb iB hl cell k ih=>
  exact .iQ m el b o f (λhx=>hb (h2 b iB hx)) (bQ iB kY) hl (λj hj=>by rw[World.cell?_of_block (w:=w) (hc b iB (.inr hb))];exact cell j hj) ih
 |fn f l vs h k ih=>exact .fn f l vs h ih
 |mp l b clk es hb iB hh ho=>exact .mp l b clk es (λx=>hb (h1 b iB x)) (bQ iB kY) (by rw[hc b iB (.inl hb)];exact hh) (ho.mono kY h1 λb iB hb=>hc b iB (.inl hb))
 |nB fl nl n sz el A c f hn hm h0 hl hr cell k ih=>
  refine .nB fl nl n sz el A c f hn hm h0 hl hr (λi j hi hj=>?_) ih;obtain⟨b,o,e,hb,iB,ke⟩:=cell i j hi hj;exact⟨b,o,e,λhx=>hb (h2 b iB hx),bQ iB kY,by rw[World.cell?_of_block (w:=w) (hc b iB (.inr hb))];exact ke⟩
def iC.qt{bs br bs' br':Nat->Prop}{w:World}(h1:∀ b,bs' b->bs b)(h2:∀ b,br' b->br b){e:E}{v:Value}(h:iC bs br w e v):iC bs' br' w e v:=
 h.mono (bg _) (λb _=>h1 b) (λb _=>h2 b) (λ_ _ _=>rfl)
def E.plain:Nat->E->Bool
 |_,.any=>true
 |_,.v _=>true
 |d+1,.agg l=>l.all (E.plain d)
 |d+1,.ix l=>l.all (E.plain d)
 |_,_=>false
def iC.plain{bs br bs' br':Nat->Prop}{w w':World}{e:E}{v:Value}(h:iC bs br w e v):∀ d,e.plain d=true->iC bs' br' w' e v:=by
 induction h with
 |any x=>exact λ_ _=>.any x
 |v x=>exact λ_ _=>.v x
 |agg l vs h k ih=>
  intro d hd;cases d with
  |zero=>simp[E.plain]at hd
  |succ d=>
   simp only[E.plain,bM]at hd;exact .agg l vs h λi p x hp hx=>ih i p x hp hx d (hd p (dF hp))
 |ix l vs h k ih=>
  intro d hd;cases d with
  |zero=>simp[E.plain]at hd
  |succ d=>
   simp only[E.plain,bM]at hd;exact .ix l vs h λi p x hp hx=>ih i p x hp hx d (hd p (dF hp))
 |sl=>intro d hd;cases d<;>simp[E.plain]at hd
 |iQ=>intro d hd;cases d<;>simp[E.plain]at hd
 |fn=>intro d hd;cases d<;>simp[E.plain]at hd
 |mp=>intro d hd;cases d<;>simp[E.plain]at hd
 |nB=>intro d hd;cases d<;>simp[E.plain]at hd
def iC.nr{bs br br':Nat->Prop}{w:World}{e:E}{v:Value}(h:iC bs br w e v):∀ d,e.nr d=true->iC bs br' w e v:=by
 induction h with
 |any x=>exact λ_ _=>.any x
 |v x=>exact λ_ _=>.v x
 |agg l vs h k ih=>
  intro d hd;cases d with
  |zero=>simp[E.nr]at hd
  |succ d=>
   simp only[E.nr,bM]at hd;exact .agg l vs h λi p x hp hx=>ih i p x hp hx d (hd p (dF hp))
 |ix l vs h k ih=>
  intro d hd;cases d with
  |zero=>simp[E.nr]at hd
  |succ d=>
   simp only[E.nr,bM]at hd;exact .ix l vs h λi p x hp hx=>ih i p x hp hx d (hd p (dF hp))
 |fn f l vs h k ih=>
  intro d hd;cases d with
  |zero=>simp[E.nr]at hd
  |succ d=>
   simp only[E.nr,bM]at hd;exact .fn f l vs h λi p x hp hx=>ih i p x hp hx d (hd p (dF hp))
 |iQ=>intro d hd;cases d<;>simp[E.nr]at hd
 |nB=>intro d hd;cases d<;>simp[E.nr]at hd
 |mp l b clk es hb iB hh ho=>exact λ_ _=>.mp l b clk es hb iB hh ho
 |sl nl n sz el A c f hn hm h0 hl hr cell k ih=>
  exact λ_ _=>.sl nl n sz el A c f hn hm h0 hl hr cell λi j hi hj=>ih i j hi hj 2 (hr i j hi hj)
def E.one:E->Bool
 | .v x=>x.oneCell'
 | .sl ..=>true
 | .iQ ..=>true
 | .fn ..=>true
 |_=>false
def E.mN:E->Bool
 | .v x=>!pQ x
 | .sl ..=>true
 | .iQ ..=>true
 | .fn ..=>true
 |_=>false
def iC.one{bs br:Nat->Prop}{w:World}{e:E}{v:Value}(h:iC bs br w e v)(h1:e.one=true):v.oneCell'=true:=by
 cases h<;>first|exact h1|rfl|(simp[E.one]at h1)
def iC.mN{bs br:Nat->Prop}{w:World}{e:E}{v:Value}(h:iC bs br w e v)(h1:e.mN=true):pQ v=false:=by
 cases h with
 |v=>unfold E.mN at h1;cases hb:pQ v<;>simp_all
 |any=>cases h1
 |agg=>cases h1
 |ix=>cases h1
 |sl=>rfl
 |iQ=>rfl
 |fn=>rfl
 |mp=>cases h1
 |nB=>cases h1
structure ki(bs br:Nat->Prop)(w:World)(l:List E)(vs:List Value):Prop where
 len:vs.length=l.length
 kH:∀ (i:Nat) (p:E) (x:Value),l[i]? = some p->vs[i]? = some x->iC bs br w p x
def ki.nil(bs br:Nat->Prop)(w:World):ki bs br w [] []:=⟨rfl,λi p x h=>by simp at h⟩
def ki.cons{bs br:Nat->Prop}{w:World}{p:E}{x:Value}{l:List E}{vs:List Value}(h:iC bs br w p x)(k:ki bs br w l vs):ki bs br w (p::l) (x::vs):=
 ⟨by simp[k.len],λi q y hq hy=>by
  cases i with
  |zero=>simp at hq hy;subst hq hy;exact h
  |succ i=>simp at hq hy;exact k.kH i q y hq hy⟩
def ki.head{bs br:Nat->Prop}{w:World}{p:E}{x:Value}{l:List E}{vs:List Value}(h:ki bs br w (p::l) (x::vs)):iC bs br w p x:=h.kH 0 p x rfl rfl
def ki.tail{bs br:Nat->Prop}{w:World}{p:E}{x:Value}{l:List E}{vs:List Value}(h:ki bs br w (p::l) (x::vs)):ki bs br w l vs:=
 ⟨by have:=h.len;simpa using this,λi q y hq hy=>h.kH (i+1) q y (by simpa using hq) (by simpa using hy)⟩
def ki.mG{bs br:Nat->Prop}{w:World}{p:E}{l:List E}{vs:List Value}(h:ki bs br w (p::l) vs):∃ x ys,vs=x::ys/\iC bs br w p x/\ki bs br w l ys:=by
 cases vs with
 |nil=>have:=h.len;simp at this
 |cons x ys=>exact⟨x,ys,rfl,h.head,h.tail⟩
def ki.qU{bs br:Nat->Prop}{w:World}{vs:List Value}(h:ki bs br w [] vs):vs=[]:=di h.len
def ki.mono{bs br bs' br':Nat->Prop}{w w':World}{l:List E}{vs:List Value}(h:ki bs br w l vs)(k:∀ e v,iC bs br w e v->iC bs' br' w' e v):ki bs' br' w' l vs:=
 ⟨h.len,λi p x hp hx=>k _ _ (h.kH i p x hp hx)⟩
def ki.take{bs br:Nat->Prop}{w:World}{l:List E}{vs:List Value}(h:ki bs br w l vs)(n:Nat):ki bs br w (l.take n) (vs.take n):=
 ⟨by simp[h.len],λi p x hp hx=>by
  rw[du]at hp hx;split at hp
  .rename_i hi;rw[a6 hi]at hx;exact h.kH i p x hp hx
  .cases hp⟩
def ki.drop{bs br:Nat->Prop}{w:World}{l:List E}{vs:List Value}(h:ki bs br w l vs)(n:Nat):ki bs br w (l.drop n) (vs.drop n):=
 ⟨by simp[h.len],λi p x hp hx=>by
  rw[dv]at hp hx;exact h.kH _ p x hp hx⟩
def ki.app{bs br:Nat->Prop}{w:World}{l m:List E}{vs us:List Value}(h:ki bs br w l vs)(k:ki bs br w m us):ki bs br w (l++m) (vs++us):=
 ⟨by simp[h.len,k.len],λi p x hp hx=>by
  rw[dM]at hp hx;rw[h.len]at hx;split at hp
  .rename_i hi;rw[a6 hi]at hx;exact h.kH i p x hp hx
  .rename_i hi;rw[aZ hi]at hx;exact k.kH _ p x hp hx⟩
def ki.acR(bs br:Nat->Prop)(w:World)(vs:List Value):ki bs br w (vs.map .v) vs:=
 ⟨aH,λi p x hp hx=>by
  rw[b6,hx]at hp;simp at hp;subst hp;exact .v x⟩
def iC.BV{bs br:Nat->Prop}{w:World}{l:List E}{v:Value}(h:iC bs br w (.agg l) v):∃ vs:List Value,v = .agg vs.toArray/\ki bs br w l vs:=by
 cases h with
 |agg _ vs h k=>exact⟨vs,rfl,h,k⟩
def iC.ZK{bs br:Nat->Prop}{w:World}{l:List E}{v:Value}(h:iC bs br w (.ix l) v):∃ vs:List Value,v = .tuple vs.toArray/\ki bs br w l vs:=by
 cases h with
 |ix _ vs h k=>exact⟨vs,rfl,h,k⟩
def iC.kC{bs br:Nat->Prop}{w:World}{x v:Value}(h:iC bs br w (.v x) v):v=x:=by cases h;rfl
def iC.S9{bs br:Nat->Prop}{w:World}{f:FuncId}{l:List E}{v:Value}(h:iC bs br w (.fn f l) v):∃ vs:List Value,v = .func (.func f) #[] vs.toArray/\ki bs br w l vs:=by
 cases h with
 |fn _ _ vs h k=>exact⟨vs,rfl,h,k⟩
def ki.agg{bs br:Nat->Prop}{w:World}{l:List E}{vs:List Value}(h:ki bs br w l vs):iC bs br w (.agg l) (.agg vs.toArray):=.agg l vs h.len h.kH
def ki.ix{bs br:Nat->Prop}{w:World}{l:List E}{vs:List Value}(h:ki bs br w l vs):iC bs br w (.ix l) (.tuple vs.toArray):=.ix l vs h.len h.kH
def E.cells?:E->Option (List E)
 | .agg l=>if l.all E.one then some l else none
 | .v (.agg cs)=>if cs.toList.all Value.oneCell' then some (cs.toList.map .v)else none
 | .v x=>if x.oneCell' then some [.v x]else none
 | .sl nl n sz el=>some [.sl nl n sz el]
 | .iQ m el=>some [.iQ m el]
 | .fn f c=>some [.fn f c]
 |_=>none
def iC.cells{bs br:Nat->Prop}{w:World}{e:E}{v:Value}(h:iC bs br w e v){l:List E}(hl:e.cells? = some l):
 ki bs br w l v.cells.toList/\∀ u ∈ v.cells.toList,u.oneCell'=true:=by
 have single:∀ {e:E} {v:Value},iC bs br w e v->v.oneCell'=true->v.cells = #[v]->ki bs br w [e] v.cells.toList/\∀ u ∈ v.cells.toList,u.oneCell'=true:=by
  intro e v h h1 hc;rw[hc];exact⟨.cons h (.nil _ _ _),by simpa using h1⟩
 cases h with
 |any x=>simp[E.cells?]at hl
 |v=>
  by_cases ha:∃ cs,v = .agg cs
  .obtain ⟨cs,rfl⟩:=ha;simp only[E.cells?]at hl;split at hl
   .rename_i h1;cases hl;exact⟨ki.acR _ _ _ _,λu hu=>bM.1 h1 u hu⟩
   .cases hl
  .have hx:(E.v v).cells? = if v.oneCell' then some [.v v]else none:=by
    cases v<;>first|rfl|exact absurd ⟨_,rfl⟩ ha
   rw[hx]at hl;split at hl
   .rename_i h1;cases hl;exact single (.v v) h1 (by cases v<;>first|rfl|exact absurd ⟨_,rfl⟩ ha)
   .cases hl
 |agg l vs h k=>
  simp only[E.cells?]at hl;split at hl
  .rename_i h1;cases hl;refine⟨⟨h,k⟩,?_⟩;intro u hu;obtain⟨i,hi⟩:=dk.1 hu;have F7:i<l.length:=by
    obtain⟨hi,_⟩:=b7.1 hi;simp[Value.cells]at hi;omega
   exact(k i _ u (bu F7) (by simpa[Value.cells]using hi)).one (bM.1 h1 _ (cA F7))
  .cases hl
 |ix=>simp[E.cells?]at hl
 |mp=>simp[E.cells?]at hl
 |nB=>simp[E.cells?]at hl
 |sl nl n sz el A c f hc hm h0 qL hr cell k=>simp only[E.cells?]at hl;cases hl;exact single (.sl nl n sz el A c f hc hm h0 qL hr cell k) rfl rfl
 |iQ m el b o f hb iB qL cell k=>simp only[E.cells?]at hl;cases hl;exact single (.iQ m el b o f hb iB qL cell k) rfl rfl
 |fn f l' vs h k=>simp only[E.cells?]at hl;cases hl;exact single (.fn f l' vs h k) rfl rfl
structure TI where
 id:TypeId
 d:TypeDesc
 i:TypeInfo
def mH(P:Program)(T:List TI):Prop:=∀ x,x ∈ T->P.underlying x.id=some x.d/\P.info? x.id=some x.i
def mO:List TI->TypeId->Option TI
 | [],_=>none
 |x::l,t=>if Nat.beq x.id t then some x else mO l t
def wQ(T:List TI)(t:TypeId):Option TypeDesc:=match mO T t with
 |some x=>some x.d
 |none=>none
def TI.isAgg(x:TI):Bool:=match x.d with
 | .struct _ | .array _ _=>true
 |_=>false
inductive CV where
 |e (x:E)
 |box (id:Nat)
 |row (id:Nat)
inductive PV where
 |e (x:E)
 |box (id off:Nat)
 |own (id:Nat)
 |nm (id sz i j:Nat)
 |iH (id k:Nat)
 |qQ (id sz k i j:Nat)
 |pC (f:FuncId) (cap:List CV)
def CV.kV:CV->List Nat
 | .e _=>[]
 | .box id=>[id]
 | .row id=>[id]
def PV.kV:PV->List Nat
 | .e _=>[]
 | .box id _ | .own id | .nm id _ _ _ | .iH id _ | .qQ id _ _ _ _=>[id]
 | .pC _ cap=>cap.flatMap CV.kV
inductive Bx where
 |cells (T:TypeId) (l:List E)
 |row (nl:Bool) (T:TypeId) (n sz:Nat) (el:Nat->Nat->E)
 |jH (nl:Bool) (T1 T0:TypeId) (n sz:Nat) (len:Nat->Nat) (el:Nat->Nat->Nat->E) (pend:Option Nat)
 |oE (nl:Bool) (T:TypeId) (l:List PV)
def Bx.Kq:Bx->List PV
 | .oE _ _ l=>l
 |_=>[]
def Bx.kV(b:Bx):List Nat:=b.Kq.flatMap PV.kV
def Bx.qS(g:PV->PV):Bx->Bx
 | .oE nl T l=>.oE nl T (l.map g)
 |b=>b
def Bx.nl:Bx->Bool
 | .cells _ l=>l.all E.mN
 | .row nl ..=>nl
 | .jH nl ..=>nl
 | .oE nl ..=>nl
structure PS where
 n:Nat
 nl:Bool
 t:List (Nat×PV)
 b:List (Nat×Bx)
def look{α:Type}:List (Nat×α)->Nat->Option α
 | [],_=>none
 | (k,x)::l,t=>if Nat.beq k t then some x else look l t
def PS.get(σ:PS)(t:Nat):PV:=(look σ.t t).getD (.e .any)
def PS.bo(σ:PS)(id:Nat):Option Bx:=look σ.b id
def PS.op(σ:PS):Operand->PV
 | .tmp t=>σ.get t
 | .const v=>.e (.v v)
 | .global g=>.e (.v (.pointer (some ⟨g,0,none⟩)))
 | .func f=>.e (.fn f [])
inductive mr where
 |none
 |new (id:Nat) (b:Bx)
 |rT (id:Nat) (b:Bx)
 |pE (id:Nat) (b:Bx)
 |sM (id:Nat) (b:Bx)
 |fin (id:Nat)
 |oH (id r:Nat) (b:Bx)
 |wD (id:Nat) (b:Bx)
structure kq where
 r:PV
 f:mr:=.none
 rb:List Nat:=[]
 jB:List Prop:=[]
 rd:List PV:=[]
 hb:Bool:=false
 ob:List Nat:=[]
def CV.Gu(id:Nat):CV->Bool
 | .row i=>Nat.beq i id
 |_=>false
def PV.kW:mr->PV->PV
 | .pE id _,.own i=>if Nat.beq i id then .e .any else .own i
 | .pE id _,.nm i s x j=>if Nat.beq i id then .e .any else .nm i s x j
 | .pE id _,.pC f cap=>if cap.any (CV.Gu id)then .e .any else .pC f cap
 | .sM id _,.iH i k=>if Nat.beq i id then .e .any else .iH i k
 | .sM id _,.qQ i s k x j=>if Nat.beq i id then .e .any else .qQ i s k x j
 | .fin id,p=>if p.kV.any (Nat.beq id)then .e .any else p
 | .wD id _,p=>if p.kV.any (Nat.beq id)then .e .any else p
 | .oH id r _,.box i off=>if Nat.beq i id then(if Nat.beq off 0 then .nm id 1 0 0 else .e .any)else if Nat.beq i r then .e .any else .box i off
 | .oH id r _,p=>if p.kV.any (λx=>Nat.beq id x||Nat.beq r x)then .e .any else p
 |_,p=>p
def tU(l:List (Nat×Bx))(id:Nat)(b:Bx):List (Nat×Bx):=(id,b)::l.filter λx=>!Nat.beq x.1 id
def mr.LH:mr->List (Nat×Bx)->List (Nat×Bx)
 | .none,l=>l
 | .new id b,l | .rT id b,l | .pE id b,l | .sM id b,l | .wD id b,l=>tU l id b
 | .fin id,l=>l.filter λx=>!Nat.beq x.1 id
 | .oH id r b,l=>tU (l.filter λx=>!Nat.beq x.1 r) id b
def mr.vF:mr->Bool
 | .pE .. | .sM .. | .fin .. | .oH .. | .wD ..=>true
 |_=>false
def PS.pre(σ:PS)(f:mr):List (Nat×Bx):=if f.vF then σ.b.map λx=>(x.1,x.2.qS (PV.kW f))else σ.b
def PS.oe(σ:PS)(f:mr):PS:={ σ with t:=if f.vF then σ.t.map λx=>(x.1,x.2.kW f)else σ.t,b:=f.LH (σ.pre f) }
def PS.put(σ:PS)(d:Option Tmp)(p:PV):PS:=match d with
 |some d=>{ σ with t:=(d,p)::σ.t.filter λx=>!Nat.beq x.1 d }
 |none=>σ
def kA:IntKind->Int->Prop
 | .i8,z=>-128<=z/\z<=127
 | .i16,z=>-32768<=z/\z<=32767
 | .i32,z=>-2147483648<=z/\z<=2147483647
 | .i64,z=>-9223372036854775808<=z/\z<=9223372036854775807
 | .u8,z=>0<=z/\z<=255
 | .u16,z=>0<=z/\z<=65535
 | .u32,z=>0<=z/\z<=4294967295
 | .u64,z=>0<=z/\z<=18446744073709551615
def Yj(op:BinOp)(k k':IntKind):Bool:=match op with
 | .shl=>true
 | .shr=>true
 |_=>decide (k=k')
def Ly(k:IntKind)(x y:Int):Int:=match k with
 | .u32=>IntKind.u32.wrap (x+y)
 |_=>x+y
def Qq(k:IntKind)(x y:Int):List Prop:=match k with
 | .u32=>[]
 |_=>[kA k (x+y)]
def Mc(op:BinOp)(k:IntKind)(x:Int)(y:Int):Option (Value×List Prop):=match op with
 | .add=>some (.int k (Ly k x y),Qq k x y)
 | .sub=>some (.int k (x-y),[kA k (x-y)])
 | .mul=>some (.int k (x*y),[kA k (x*y)])
 | .quo=>some (.int k (x.tdiv y),[0<y,kA k x])
 | .rem=>some (.int k (x.tmod y),[0<y])
 | .and=>some (.int k (bits .and k x y),[])
 | .or=>some (.int k (bits .or k x y),[])
 | .shl=>some (.int k (k.wrap (x*2^y.toNat)),[0<=y/\y<=k.bits])
 | .shr=>some (.int k (x/2^y.toNat),[0<=y/\y<=k.bits])
 | .eql=>some (.bool (x==y),[])
 | .neq=>some (.bool (x != y),[])
 | .lss=>some (.bool (decide (x<y)),[])
 | .leq=>some (.bool (decide (x<=y)),[])
 | .gtr=>some (.bool (decide (y<x)),[])
 | .geq=>some (.bool (decide (y<=x)),[])
 |_=>none
def Kp:List PV->Option (List E)
 | []=>some []
 | .e x::l=>(Kp l).map (x :: ·)
 |_::_=>none
def PS.read(σ:PS)(p:PV)(m:Nat):Option (List E×List Nat×List Prop):=match p with
 | .box id off=>match σ.bo id with
  |some (.cells _ l)=>if Nat.ble (off+m) l.length then some ((l.drop off).take m,[id],[])else none
  |some (.oE _ _ l)=>if Nat.ble (off+m) l.length then(Kp ((l.drop off).take m)).map λes=>(es,[id],[])else none
  |_=>none
 | .nm id sz i j=>match σ.bo id with
  |some (.row _ _ n s el)=>if Nat.beq s sz&&Nat.ble (j+m) sz then some ((List.range m).map λq=>el i (j+q),[id],[i<n])else none
  |_=>none
 | .qQ id sz k i j=>match σ.bo id with
  |some (.jH _ _ _ n s len el _)=>if Nat.beq s sz&&Nat.ble (j+m) sz then some ((List.range m).map λq=>el k i (j+q),[id],[k<n,i<len k])else none
  |_=>none
 | .e (.iQ k el)=>if Nat.ble m k then some ((List.range m).map el,[],[])else none
 |_=>none
def CV.ext(σ:PS):CV->Option (E×List Nat)
 | .e x=>some (x,[])
 | .box id=>match σ.bo id with
  |some (.cells _ l)=>some (.iQ l.length λj=>l.getD j .any,[id])
  |_=>none
 | .row id=>match σ.bo id with
  |some (.jH nl _ _ n sz len el none)=>if Nat.beq n 1 then some (.iQ 1 λ_=>.sl nl (len 0) sz (el 0),[id])else none
  |_=>none
def CV.Gt:CV->Bool
 | .row _=>true
 |_=>false
def uL(σ:PS):List CV->Option (List E×List Nat)
 | []=>some ([],[])
 |c::l=>match c.ext σ,uL σ l with
  |some (x,i),some (xs,is)=>some (x::xs,i++is)
  |_,_=>none
def PV.we(σ:PS):PV->Bool
 | .own id=>match σ.bo id with
  |some (.jH ..)=>false
  |_=>true
 | .iH _ _=>true
 | .pC _ cap=>cap.any CV.Gt
 |_=>false
def PV.ext(σ:PS):PV->Option (E×List Nat)
 | .e x=>some (x,[])
 | .own id=>match σ.bo id with
  |some (.row nl _ n sz el)=>some (.sl nl n sz el,[id])
  |some (.jH nl _ _ n sz len el none)=>some (.nB false true n 1 λk _=>.nB true nl (len k) sz (el k),[id])
  |_=>none
 | .box id 0=>match σ.bo id with
  |some (.cells _ l)=>some (.iQ l.length λj=>l.getD j .any,[id])
  |_=>none
 | .iH id k=>match σ.bo id with
  |some (.jH nl _ _ n sz len el none)=>if Nat.blt k n then some (.sl nl (len k) sz (el k),[id])else none
  |_=>none
 | .pC f cap=>match uL σ cap with
  |some (xs,is)=>some (.fn f xs,is)
  |none=>none
 |_=>none
def tX(σ:PS):List Operand->Option (List E×List Nat)
 | []=>some ([],[])
 |o::l=>match(σ.op o).ext σ,tX σ l with
  |some (x,i),some (xs,is)=>some (x::xs,i++is)
  |_,_=>none
def wP:List PV->Option (List CV)
 | []=>some []
 | .e x::l=>(wP l).map (.e x :: ·)
 | .box id 0::l=>(wP l).map (.box id :: ·)
 | .nm id sz i j::l=>if Nat.beq sz 1&&Nat.beq i 0&&Nat.beq j 0 then(wP l).map (.row id :: ·)else none
 |_::_=>none
def oX(w:World)(b:Nat):Prop:=∀ o x,w.cell? ⟨b,o,none⟩≠some (.int .u32 x)
structure PC(P:Program)(K:World->Prop)(f:FuncId)(args:List E)(jQ:E):Prop where
 call:∀ (vs:Array Value) (w:World),(callFunc f vs).run P w = .ok (.enter f vs) w
 run:∀ (w:World) (B:Nat->Prop) (vs:List Value),K w->(∀ b,B b->b<w.heap.size/\oX w b)->ki B (λ_=>False) w args vs ->
  Calls P f vs.toArray w (λe w'=>∃ v,e = .returned v/\Below w.heap.size w w'/\iC B (λ_=>True) w' jQ v)
structure Ih(P:Program)(K:World->Prop)(f:FuncId)(args:List E)(jQ:E):Prop where
 call:∀ (vs:Array Value) (w:World),(callFunc f vs).run P w = .ok (.enter f vs) w
 run:∀ (w:World) (B:Nat->Prop) (vs:List Value),K w->(∀ b,B b->b<w.heap.size)->ki B (λ_=>False) w args vs ->
  Calls P f vs.toArray w (λe w'=>∃ v,e = .returned v/\Below w.heap.size w w'/\iC B (λ_=>True) w' jQ v)
def nE(w:World)(v:Value)(T:TypeId)(n sz:Nat)(f:Nat->Nat->Value)(nl:Bool):Prop:=
 (v = .slice none 0 0/\n=0) \/
 ∃ (b c:Nat) (cur:Array Value),v = .slice (some ⟨b,0,none⟩) n c/\w.heap[b]? = some (.cells cur T (0,0))/\n<=c/\c<=maxLen/\cur.size=c*sz /\
  (∀ i j,i<n->j<sz->cur[i*sz+j]? = some (f i j)/\(f i j).oneCell'=true)/\(nl=true->∀ u,u ∈ cur->pQ u=false)
structure tW(P:Program)(K:World->Prop)(f:FuncId)(args:List E)(nl:Bool)(T:TypeId)(n sz:Nat)(el:Nat->Nat->E):Prop where
 call:∀ (vs:Array Value) (w:World),(callFunc f vs).run P w = .ok (.enter f vs) w
 run:∀ (w:World) (B:Nat->Prop) (vs:List Value),K w->(∀ b,B b->b<w.heap.size/\oX w b)->ki B (λ_=>False) w args vs ->
  Calls P f vs.toArray w (λe w'=>∃ v,e = .returned v/\Below w.heap.size w w'/\∃ g,nE w' v T n sz g nl/\(∀ x,v.ownBlock=some x->w.heap.size<=x/\x<w'.heap.size) /\
   ∀ i j,i<n->j<sz->iC (λb=>B b\/v.ownBlock=some b) (λ_=>True) w' (el i j) (g i j)/\(el i j).nr 2=true)
structure qu where
 cl:List (Nat×E):=[]
 ov:List (Nat×PV):=[]
 nw:List (Nat×Bx):=[]
 gi:List (Nat×Value):=[]
def GY(T:List TI):List Field->Option (List (Nat×Nat))
 | []=>some []
 |f::fs=>match mO T f.type,GY T fs with
  |some ti,some l=>some ((f.offset,ti.i.size)::l)
  |_,_=>none
def Bu(l:List E)(off:Nat)(m:List E):List E:=l.take off++m++l.drop (off+m.length)
def sy(σ:PS)(place:Nat->Option (Nat×Nat)):List E->List (Nat×Operand)->Option (List E)
 |l,[]=>some l
 |l,(i,x)::ps=>match place i,σ.op x with
  |some (off,size),.e e=>match e.cells? with
   |some m=>if Nat.beq m.length size&&Nat.ble (off+m.length) l.length then sy σ place (Bu l off m) ps else none
   |none=>none
  |_,_=>none
def yG(ti:TI):Option (List E):=match ti.i.zero with
 |some z=>(E.v z).cells?
 |none=>none
def kH{α:Type}:Nat->List α->List α
 | 0,_=>[]
 |n+1,l=>l++kH n l
def pB(P:Program)(op:BinOp)(t:TypeId)(x y:E)(v:Value):Prop:=∀ (bs br:Nat->Prop) (w:World) (a b:Value) (ox oy:Operand),iC bs br w x a->iC bs br w y b->(eqGuard op t ox oy a b).run P w = .ok () w/\(binOp op t a b).run P w = .ok v w
def aeN(O:qu)(d:Option Tmp):Option Value:=match d with
 |some d=>match look O.cl d with
  |some (.v v)=>some v
  |_=>none
 |none=>none
def aeM(O:qu)(d:Option Tmp):Option Value:=match d with
 |some d=>look O.gi d
 |none=>none
def vH(e:E):Prop:=∀ (bs bs' br:Nat->Prop) (w:World) (v:Value),(∀ x,bs' x->bs x\/oX w x)->iC bs br w e v->iC bs' br w e v
def uw(σ:PS)(d:Nat)(b:Bx):mr:=match σ.bo d with
 |none=>.new d b
 |some _=>.wD d b
def z8(σ:PS)(d:Nat)(is:List Nat):List Nat:=match σ.bo d with
 |none=>is
 |some _=>d::is
def E9(n sz:Nat)(el:Nat->Nat->E):Prop:=∀ i j,i<n->j<sz->vH (el i j)
def AR(P:Program)(K:World->Prop)(O:qu)(σ:PS)(d:Option Tmp)(f:FuncId)(xs:List E)(is:List Nat)(ow:Bool):Option kq:=
 match(match d with
  |some d=>look O.cl d
  |none=>some .any)with
 |some jQ=>if jQ.plain 3||(σ.nl && !ow)then some { r:=.e jQ,rb:=is,jB:=[PC P K f xs jQ] }else if !ow then some { r:=.e jQ,rb:=is,jB:=[Ih P K f xs jQ] }
  else if σ.nl then some { r:=.e jQ,rb:=is,jB:=[PC P K f xs jQ,vH jQ] }else none
 |none=>match d with
  |some d=>match look O.nw d with
   |some (.row nl T n sz el)=>if σ.nl&&nl then some { r:=.own d,f:=uw σ d (.row nl T n sz el),rb:=z8 σ d is,jB:=tW P K f xs nl T n sz el::(if ow then[E9 n sz el]else[]) }else none
   |_=>none
  |none=>none
def zU(σ:PS)(d:Option Tmp)(b:Bx)(r:Nat->PV)(jB:List Prop):Option kq:=match d with
 |some d=>match σ.bo d with
  |none=>if !σ.nl||b.nl then some { r:=r d,f:=.new d b,jB:=jB }else none
  |some _=>none
 |none=>none
def PV.LB:PV->Option (Bool×Nat×Nat×(Nat->Nat->E))
 | .e (.sl nl n sz el)=>some (nl,n,sz,el)
 | .e (.nB true nl n sz el)=>some (nl,n,sz,el)
 |_=>none
def Bo(σ:PS)(d:Option Tmp)(b:Bx)(r:Nat->PV):Option kq:=match d with
 |some d=>if !σ.nl||b.nl then some { r:=r d,f:=uw σ d b,rb:=z8 σ d [] }else none
 |none=>none
def AP(T:List TI)(σ:PS)(d:Option Tmp)(t:TypeId)(s x:PV):Option kq:=match x.LB with
 |some (nl2,m,sz2,el2)=>match mO T t with
  |some tt=>match tt.d with
   | .slice e=>match mO T e with
    |some te=>match yG te with
     |some z=>if Nat.beq te.i.size sz2&&Nat.ble 1 sz2&&Nat.ble 1 te.i.bytes&&Nat.beq z.length sz2 then match s with
      | .own id=>match σ.bo id with
       |some (.row nl T1 n sz el)=>if Nat.beq T1 e&&Nat.beq sz sz2&&(!σ.nl||(nl&&(nl2&&z.all E.mN)))then
        some { r:=.own id,f:=.pE id (.row (nl&&(nl2&&z.all E.mN)) T1 (n+m) sz λi j=>if i<n then el i j else el2 (i-n) j),rb:=[id],jB:=[(n+m)*te.i.bytes<=140737488355328] }
        else none
       |_=>none
      | .iH id k=>match σ.bo id with
       |some (.jH nl T1 T0 n sz len el none)=>if Nat.beq T0 e&&Nat.beq sz sz2&&(!nl||(nl2&&z.all E.mN))then
        some { r:=.iH id k,f:=.sM id (.jH nl T1 T0 n sz (λq=>if q=k then len q+m else len q) (λq i j=>if q=k then(if i<len q then el q i j else el2 (i-len q) j)else el q i j) (some k)),rb:=[id],jB:=[k<n,(len k+m)*te.i.bytes<=140737488355328] }
        else none
       |_=>none
      | .e (.v (.slice none 0 0))=>zU σ d (.row (nl2&&z.all E.mN) e m sz2 el2) .own [m*te.i.bytes<=140737488355328]
      |_=>none
     else none
     |none=>none
    |none=>none
   |_=>none
  |none=>none
 |_=>none
def B7(T:List TI)(σ:PS)(d:Option Tmp)(t:TypeId)(s x:PV):Option kq:=match AP T { σ with nl:=false } d t s x with
 |some u=>match u.f,u.r with
  | .pE id (.row nl _ n sz el),.own id'=>if Nat.beq id' id then some { r:=.e (.sl nl n sz el),f:=.fin id,rb:=u.rb,jB:=True::u.jB }else none
  |_,_=>none
 |none=>none
def PV.ED:PV->Option Nat
 | .own q=>some q
 |_=>none
def Bs(σ:PS):List (Nat×Operand)->Option Nat
 | [(0,x)]=>(σ.op x).ED
 |_=>none
def IK(T:List TI)(t:TypeId):Option (TypeId×Nat):=match mO T t with
 |some tt=>match tt.d with
  | .slice e=>match mO T e with
   |some te=>match yG te with
    |some [z]=>if Nat.beq te.i.size 1&&Nat.ble 1 te.i.bytes&&z.mN then some (e,te.i.bytes)else none
    |_=>none
   |none=>none
  |_=>none
 |none=>none
def B9(T:List TI)(σ:PS)(d:Option Tmp)(t:TypeId)(n q:Nat):Option kq:=match d with
 |some id=>match σ.bo id,σ.bo q,IK T t with
  |none,some (.row nl T0 m sz el),some (e,_)=>if Nat.beq n 1 && !Nat.beq id q then
   some { r:=.own id,f:=.oH id q (.jH nl e T0 1 sz (λ_=>m) (λ_=>el) none),rb:=[id,q] }else none
  |_,_,_=>none
 |none=>none
def B8(T:List TI)(σ:PS)(d:Option Tmp)(t:TypeId)(s:PV)(q:Nat):Option kq:=match σ.bo q,IK T t with
 |some (.jH nl2 T2 T0 m sz len2 el2 none),some (e,by_)=>match s,d with
  | .own id,_=>match σ.bo id with
   |some (.jH nl T1 T0' n sz' len el none)=>if Nat.beq T1 e&&Nat.beq T2 e&&Nat.beq T0' T0&&Nat.beq sz' sz && !Nat.beq id q then
    some { r:=.own id,f:=.oH id q (.jH (nl&&nl2) T1 T0 (n+m) sz (λk=>if k<n then len k else len2 (k-n)) (λk=>if k<n then el k else el2 (k-n)) none),rb:=[id,q],jB:=[0<m,(n+m)*by_<=140737488355328] }else none
   |_=>none
  | .e (.v (.slice none 0 0)),some id=>match σ.bo id with
   |none=>if Nat.beq T2 e && !Nat.beq id q then
    some { r:=.own id,f:=.oH id q (.jH nl2 T2 T0 m sz len2 el2 none),rb:=[id,q],jB:=[0<m,m*by_<=140737488355328] }else none
   |_=>none
  |_,_=>none
 |_,_=>none
def SL(T:List TI)(t:TypeId)(l c:PV):Option (Bx×List Prop):=match l,c with
 | .e (.v (.int _ l)),.e (.v (.int _ c))=>match mO T t with
  |some tt=>match tt.d with
   | .slice e=>match mO T e with
    |some te=>match yG te with
     |some z=>if Nat.beq te.i.size z.length&&Nat.ble 1 te.i.size then
      let jB:=[0<=l/\l<=c,(te.i.bytes:Int)*c<=281474976710656/\c<=9223372036854775807]
      match te.d with
      | .slice e0=>match mO T e0,z with
       |some t0,[.v (.slice none 0 0)]=>some (.jH true e e0 l.toNat t0.i.size (λ_=>0) (λ_ _ _=>.any) none,jB)
       |_,_=>none
      |_=>some (.row (z.all E.mN) e l.toNat te.i.size (λ_ j=>z.getD j .any),jB)
      else none
     |none=>none
    |none=>none
   |_=>none
  |none=>none
 |_,_=>none
def I2(T:List TI)(σ:PS)(d:Option Tmp)(t:TypeId)(l c:PV):Option kq:=match SL T t l c with
 |some (b,jB)=>zU σ d b .own jB
 |none=>none
def I3(T:List TI)(t:TypeId)(x:PV)(lo hi:Option PV):Option kq:=match x with
 | .e (.sl nl n sz el)=>match mO T t with
  |some tt=>match tt.d with
   | .slice e=>match mO T e with
    |some te=>if Nat.beq te.i.size sz then match lo,hi with
     |none,some (.e (.v (.int _ h)))=>some { r:=.e (.sl nl h.toNat sz el),jB:=[0<=h/\h<=n] }
     |some (.e (.v (.int _ l))),none=>some { r:=.e (.sl nl (n-l.toNat) sz λi j=>el (l.toNat+i) j),jB:=[0<=l/\l<=n] }
     |some (.e (.v (.int _ l))),some (.e (.v (.int _ h)))=>some { r:=.e (.sl nl (h.toNat-l.toNat) sz λi j=>el (l.toNat+i) j),jB:=[0<=l/\l<=h/\h<=n] }
     |_,_=>none
     else none
    |none=>none
   |_=>none
  |none=>none
 | .e (.nB fl nl n sz el)=>match mO T t with
  |some tt=>match tt.d with
   | .slice e=>match mO T e with
    |some te=>if Nat.beq te.i.size sz then match lo,hi with
     |none,some (.e (.v (.int _ h)))=>some { r:=.e (.nB fl nl h.toNat sz el),jB:=[0<=h/\h<=n] }
     |some (.e (.v (.int _ l))),none=>some { r:=.e (.nB fl nl (n-l.toNat) sz λi j=>el (l.toNat+i) j),jB:=[0<=l/\l<=n] }
     |some (.e (.v (.int _ l))),some (.e (.v (.int _ h)))=>some { r:=.e (.nB fl nl (h.toNat-l.toNat) sz λi j=>el (l.toNat+i) j),jB:=[0<=l/\l<=h/\h<=n] }
     |_,_=>none
     else none
    |none=>none
   |_=>none
  |none=>none
 |_=>none
def IZ(T:List TI)(σ:PS)(t:TypeId)(x i:PV):Option kq:=match i with
 | .e (.v (.int _ z))=>match mO T t with
  |some tt=>match tt.d with
   | .slice e=>match mO T e with
    |some te=>match x with
     | .e (.sl _ n sz el)=>if Nat.beq te.i.size sz&&Nat.ble 1 sz then some { r:=.e (.iQ sz (el z.toNat)),jB:=[0<=z/\z<n] }else none
     | .e (.nB _ _ n sz el)=>if Nat.beq te.i.size sz&&Nat.ble 1 sz then some { r:=.e (.iQ sz (el z.toNat)),jB:=[0<=z/\z<n] }else none
     | .own id=>match σ.bo id with
      |some (.row _ _ n sz _)=>if Nat.beq te.i.size sz then some { r:=.nm id sz z.toNat 0,rb:=[id],jB:=[0<=z/\z<n] }else none
      |some (.jH _ _ _ n _ _ _ _)=>if Nat.beq te.i.size 1 then some { r:=.nm id 1 z.toNat 0,rb:=[id],jB:=[0<=z/\z<n] }else none
      |_=>none
     | .iH id k=>match σ.bo id with
      |some (.jH _ _ _ n sz len _ _)=>if Nat.beq te.i.size sz then some { r:=.qQ id sz k z.toNat 0,rb:=[id],jB:=[k<n,0<=z/\z<len k] }else none
      |_=>none
     |_=>none
    |none=>none
   | .array n e=>match mO T e with
    |some te=>match x with
     | .box id off=>some { r:=.box id (off+z.toNat*te.i.size),jB:=[0<=z/\z<n] }
     | .e (.iQ m el)=>if Nat.beq (n*te.i.size) m then some { r:=.e (.iQ te.i.size λj=>el (z.toNat*te.i.size+j)),jB:=[0<=z/\z<n] }else none
     |_=>none
    |none=>none
   |_=>none
  |none=>none
 |_=>none
def C6(l:List PV)(off:Nat)(m:List PV):List PV:=l.take off++m++l.drop (off+m.length)
def Bx.Vi:Bx->Bool
 | .row ..=>true
 | .jH ..=>true
 |_=>false
def I6(ti:TI)(bi bq:Option Bx)(id off q:Nat):Option kq:=match bi,bq with
 |some (.cells T1 [_]),some (.row nl T0 n sz el)=>if(!Nat.beq id q&&Nat.beq ti.i.size 1)&&Nat.beq off 0 then
  some { r:=.e .any,f:=.oH id q (.jH nl T1 T0 1 sz (λ_=>n) (λ_=>el) none),rb:=[id,q] }else none
 |_,_=>none
def I5(ti:TI)(bi bq:Option Bx)(id off q:Nat):Option kq:=match bi,bq with
 |some (.oE nl T1 l),some b=>if b.Vi&&Nat.beq ti.i.size 1&&Nat.blt off l.length then
  some { r:=.e .any,f:=.rT id (.oE nl T1 (C6 l off [.own q])),rb:=[id,q] }else none
 |_,_=>none
def DM(ti:TI)(bi bq:Option Bx)(id off q:Nat):Option kq:=match I6 ti bi bq id off q with
 |some u=>some u
 |none=>I5 ti bi bq id off q
def I4(T:List TI)(σ:PS)(t:TypeId)(a x:PV):Option kq:=match mO T t with
 |some ti=>match a,x with
  | .box id off,.e e=>match σ.bo id,e.cells? with
   |some (.cells T1 l),some m=>if Nat.beq m.length ti.i.size&&Nat.ble (off+m.length) l.length&&(!σ.nl||m.all E.mN)then
    some { r:=.e .any,f:=.rT id (.cells T1 (Bu l off m)),rb:=[id] }else none
   |some (.oE nl T1 l),some m=>if Nat.beq m.length ti.i.size&&Nat.ble (off+m.length) l.length&&(!nl||m.all E.mN)then
    some { r:=.e .any,f:=.rT id (.oE nl T1 (C6 l off (m.map .e))),rb:=[id] }else none
   |_,_=>none
  | .box id off,.own q=>DM ti (σ.bo id) (σ.bo q) id off q
  | .nm id sz i j,.e e=>match σ.bo id,e.cells? with
   |some (.row nl T1 n s el),some m=>if Nat.beq m.length ti.i.size&&Nat.beq s sz&&Nat.ble (j+m.length) sz&&(!nl||m.all E.mN)&&m.all (E.nr 2)then
    some { r:=.e .any,f:=.rT id (.row nl T1 n s λi' j'=>if i'=i/\j<=j'/\j'<j+m.length then m.getD (j'-j) .any else el i' j'),rb:=[id],jB:=[i<n] }else none
   |_,_=>none
  | .nm id 1 i 0,.iH id' k=>match σ.bo id with
   |some (.jH nl T1 T0 n sz len el (some k'))=>if Nat.beq id id'&&Nat.beq ti.i.size 1 then
    some { r:=.e .any,f:=.rT id (.jH nl T1 T0 n sz len el none),rb:=[id],jB:=[i=k',k=k',k'<n] }else none
   |_=>none
  |_,_=>none
 |none=>none
def sL:PV->PS->Option (Value×List Nat)
 | .e (.nB _ _ n _ _),_=>some (.int .i64 (n:Int),[])
 | .e (.sl _ n _ _),_=>some (.int .i64 (n:Int),[])
 | .e (.v (.slice _ n _)),_=>some (.int .i64 (n:Int),[])
 | .own id,σ=>match σ.bo id with
  |some (.row _ _ n _ _)=>some (.int .i64 (n:Int),[id])
  |some (.jH _ _ _ n _ _ _ _)=>some (.int .i64 (n:Int),[id])
  |_=>none
 | .iH id k,σ=>match σ.bo id with
  |some (.jH _ _ _ n _ len _ _)=>if Nat.blt k n then some (.int .i64 (len k:Int),[id])else none
  |_=>none
 |_,_=>none
def Bk(ti:TI):Option (List E×List Nat×List Prop)->Option kq
 |some (l,is,jB)=>if ti.isAgg then some { r:=.e (.agg l),rb:=is,jB:=jB }else match l with
  | [e]=>some { r:=.e e,rb:=is,jB:=jB }
  |_=>none
 |none=>none
def Db(σ:PS):PV->Option (Nat×Nat×Nat)
 | .nm id sz i j=>match σ.bo id with
  |some (.jH _ _ _ n _ _ _ none)=>if Nat.beq sz 1&&Nat.beq j 0 then some (id,i,n)else none
  |_=>none
 |_=>none
def Km:List PV->Nat->Option Nat
 | [],_=>none
 | .own q::_,0=>some q
 |_::_,0=>none
 |_::l,n+1=>Km l n
def Cc(σ:PS):PV->Option (Nat×Nat)
 | .box id off=>match σ.bo id with
  |some (.oE _ _ l)=>(Km l off).map λq=>(id,q)
  |_=>none
 |_=>none
def I1(ti:TI)(σ:PS)(p:PV):Option kq:=match Db σ p with
 |some (id,i,n)=>if ti.isAgg then none else some { r:=.iH id i,rb:=[id],jB:=[i<n] }
 |none=>Bk ti (σ.read p ti.i.size)
def I0(T:List TI)(σ:PS)(t:TypeId)(p:PV):Option kq:=match mO T t with
 |some ti=>match Cc σ p with
  |some (id,q)=>if ti.isAgg then none else some { r:=.own q,rb:=[id] }
  |none=>I1 ti σ p
 |none=>none
def It(O:qu):Option Tmp->Bool
 |some d=>(look O.nw d).isSome
 |none=>false
def CW:List (Int×FuncId×List FuncId)->Int->Option E
 | [],_=>none
 |x::l,z=>if x.1=z then some (.fn x.2.1 (x.2.2.map λg=>.iQ 1 λ_=>.fn g []))else CW l z
def aeL(O:qu):Option Tmp->Option E
 |some d=>look O.cl d
 |none=>none
def jD(P:Program)(K:World->Prop)(T:List TI)(O:qu)(σ:PS)(o:Oper):Option kq:=match o.op with
 | .move x=>some { r:=σ.op x }
 | .assign x=>some { r:=σ.op x }
 | .pick c a b=>match σ.op c with
  | .e (.v (.bool true))=>some { r:=σ.op a }
  | .e (.v (.bool false))=>some { r:=σ.op b }
  |_=>none
 | .alloc t=>match mO T t with
  |some ti=>match yG ti with
   |some z=>Bo σ o.dst (.cells t z) (.box · 0)
   |none=>none
  |none=>none
 | .box t x=>match σ.op x with
  | .e e=>match e.cells? with
   |some l=>Bo σ o.dst (.cells t l) (.box · 0)
   |none=>none
  |_=>none
 | .build t ps=>match mO T t with
  |some ti=>match yG ti with
   |some z=>match ti.d with
    | .struct fs=>match GY T fs.toList with
     |some pl=>(sy σ (λi=>pl[i]?) z ps.toList).map λl=>{ r:=.e (.agg l) }
     |none=>none
    | .array _ e=>match mO T e with
     |some te=>(sy σ (λi=>some (i*te.i.size,te.i.size)) z ps.toList).map λl=>{ r:=.e (.agg l) }
     |none=>none
    |_=>none
   |none=>none
  |none=>none
 | .buildSlice t n ps=>match Bs σ ps.toList with|some q=>B9 T σ o.dst t n q|none=>match mO T t with
  |some tt=>match tt.d with
   | .slice e=>match mO T e with
    |some te=>match yG te with
     |some z=>if Nat.beq z.length te.i.size&&Nat.ble 1 te.i.size&&Nat.ble (n*te.i.size) 16777216 then
      (sy σ (λi=>some (i*te.i.size,te.i.size)) (kH n z) ps.toList).bind λl=>
       if !(l.all (E.nr 2))then none else if It O o.dst then zU σ o.dst (.row (l.all E.mN) e n te.i.size λi j=>l.getD (i*te.i.size+j) (.v (.bool false))) .own [True]
       else if l.all E.mN then some { r:=.e (.sl true n te.i.size λi j=>l.getD (i*te.i.size+j) (.v (.bool false))) }
       else some { r:=.e (.sl false n te.i.size λi j=>l.getD (i*te.i.size+j) (.v (.bool false))) }
      else none
     |none=>none
    |none=>none
   |_=>none
  |none=>none
 | .load t a=>I0 T σ t (σ.op a)
 | .store t a x=>I4 T σ t (σ.op a) (σ.op x)
 | .nilCheck x=>match σ.op x with
  | .box id off=>some { r:=.box id off }
  | .e (.iQ m el)=>some { r:=.e (.iQ m el) }
  | .e (.fn f c)=>some { r:=.e (.fn f c) }
  | .pC f c=>some { r:=.pC f c }
  |_=>none
 | .binOp op t x y _=>match σ.op x,σ.op y with
  | .e (.v (.int k a)),.e (.v (.int k' b))=>
   match aeM O o.dst with
   |some v=>some { r:=.e (.v v),jB:=[pB P op t (.v (.int k a)) (.v (.int k' b)) v] }
   |none=>if Yj op k k' then(Mc op k a b).map λr=>{ r:=.e (.v r.1),jB:=r.2 }else none
  | .e (.v (.bool a)),.e (.v (.bool b))=>match wQ T t with
   |some .bool=>match op with
    | .eql=>some { r:=.e (.v (.bool (a==b))) }
    | .neq=>some { r:=.e (.v (.bool (!(a==b)))) }
    |_=>none
   |_=>none
  | .e (.sl _ n _ _),.e (.v (.slice none 0 0))=>match wQ T t with
   |some (.slice _)=>match op with
    | .eql=>some { r:=.e (.v (.bool false)),jB:=[0<n] }
    | .neq=>some { r:=.e (.v (.bool true)),jB:=[0<n] }
    |_=>none
   |_=>none
  | .e a,.e b=>match aeN O o.dst with
   |some v=>some { r:=.e (.v v),jB:=[pB P op t a b v] }
   |none=>none
  |_,_=>none
 | .unOp op _ x=>match op,σ.op x with
  | .not,.e (.v (.bool b))=>some { r:=.e (.v (.bool (!b))) }
  | .neg,.e (.v (.int k z))=>some { r:=.e (.v (.int k (0-z))),jB:=[kA k (0-z)] }
  |_,_=>none
 | .convert src dst x=>match wQ T dst,mO T src,σ.op x with
  |some (.int k),some _,.e (.v (.int _ z))=>some { r:=.e (.v (.int k (k.wrap z))) }
  |_,_,_=>none
 | .makeFunc (.func f) first cap=>if first.isEmpty then match wP (cap.toList.map σ.op)with
  |some l=>some { r:=.pC f l }
  |none=>none
  else none
 | .makeSlice t l c=>I2 T σ o.dst t (σ.op l) (σ.op c)
 | .slice t x lo hi none=>I3 T t (σ.op x) (lo.map σ.op) (hi.map σ.op)
 | .fieldAddr t x f=>match wQ T t with
  |some (.struct fs)=>match fs[f]? with
   |some fd=>match mO T fd.type with
    |some ft=>if Nat.beq ft.i.size 0 then none else match σ.op x with
     | .box id off=>some { r:=.box id (off+fd.offset) }
     | .nm id sz i j=>some { r:=.nm id sz i (j+fd.offset) }
     | .qQ id sz k i j=>some { r:=.qQ id sz k i (j+fd.offset) }
     | .e (.iQ m el)=>if Nat.ble fd.offset m then some { r:=.e (.iQ (m-fd.offset) λj=>el (fd.offset+j)) }else none
     |_=>none
    |none=>none
   |none=>none
  |_=>none
 | .indexAddr t x i=>IZ T σ t (σ.op x) (σ.op i)
 | .index t x i=>match σ.op x,σ.op i with
  | .e (.agg l),.e (.v (.int _ z))=>match mO T t with
   |some tt=>match tt.d with
    | .array n e=>match mO T e with
     |some te=>if te.isAgg&&Nat.beq (n*te.i.size) l.length then some { r:=.e (.agg ((l.drop (z.toNat*te.i.size)).take te.i.size)),jB:=[0<=z/\z<n] }else none
     |none=>none
    |_=>none
   |none=>none
  |_,_=>none
 | .field t x f=>match σ.op x,wQ T t with
  | .e (.agg l),some (.struct fs)=>match fs[f]? with
   |some fd=>match mO T fd.type with
    |some ft=>if ft.isAgg then none else match l[fd.offset]? with
     |some e=>some { r:=.e e }
     |none=>none
    |none=>none
   |none=>none
  |_,_=>none
 | .lookup t x i false=>match σ.op x,σ.op i,wQ T t with
  | .e (.mp l),.e (.v (.int .i64 z)),some (.map k _)=>match wQ T k,aeL O o.dst with
   |some (.int .i64),some e=>some { r:=.e e,jB:=[CW l z=some e] }
   |_,_=>none
  |_,_,_=>none
 | .extract x i=>match σ.op x with
  | .e (.ix l)=>match l[i]? with
   |some e=>some { r:=.e e }
   |none=>none
  |_=>none
 | .call c=>match c.callee with
  | .builtin .len=>match c.args.toList,c.argTypes.toList with
   | [x],[t]=>match wQ T t with
    |some (.slice _)=>(sL (σ.op x) σ).map λr=>{ r:=.e (.v r.1),rb:=r.2 }
    |_=>none
   |_,_=>none
  | .builtin .append=>match c.args.toList,c.argTypes.toList with
   | [s,x],[t,t']=>if Nat.beq t t' then(match(σ.op x).ED with|some q=>B8 T σ o.dst t (σ.op s) q|none=>if It O o.dst then B7 T σ o.dst t (σ.op s) (σ.op x)else AP T σ o.dst t (σ.op s) (σ.op x))else none
   |_,_=>none
  | .builtin .max=>match c.args.toList.map σ.op with
   | [.e (.v (.int k a)),.e (.v (.int _ b))]=>some { r:=.e (.v (.int k (if b>a then b else a))) }
   | [.e (.v (.int k a)),.e (.v (.int _ b)),.e (.v (.int _ z))]=>some { r:=.e (.v (.int k (if z>(if b>a then b else a)then z else(if b>a then b else a)))) }
   |_=>none
  | .builtin .min=>match c.args.toList.map σ.op with
   | [.e (.v (.int k a)),.e (.v (.int _ b))]=>some { r:=.e (.v (.int k (if b<a then b else a))) }
   |_=>none
  | .value f=>match σ.op f,tX σ c.args.toList with
   | .e (.fn g cap),some (xs,is)=>AR P K O σ o.dst g (xs++cap) is ((c.args.toList.map σ.op).any (PV.we σ))
   | .pC g cap,some (xs,is)=>match uL σ cap with
    |some (ys,js)=>AR P K O σ o.dst g (xs++ys) (is++js) ((c.args.toList.map σ.op).any (PV.we σ)||cap.any CV.Gt)
    |none=>none
   |_,_=>none
  |_=>none
 |_=>none
structure Lk where
 me:Nat->Prop
 own:Nat->Nat->Prop
 val:Nat->Value
 iH:Nat->Nat->Value
def jm(L:Lk)(x:Nat):Prop:=∃ id,L.own id x
def iS(B:Nat->Prop)(L:Lk)(x:Nat):Prop:=B x\/jm L x
def wM(bs br:Nat->Prop)(L:Lk)(w:World):CV->Value->Prop
 | .e x,v=>iC bs br w x v
 | .box id,v=>L.me id/\∃ b,L.val id = .pointer (some ⟨b,0,none⟩)/\v = .pointer (some ⟨b,0,none⟩)
 | .row id,v=>L.me id/\∃ b n c,L.val id = .slice (some ⟨b,0,none⟩) n c/\v = .pointer (some ⟨b,0,none⟩)
def kQ(bs br:Nat->Prop)(L:Lk)(w:World):PV->Value->Prop
 | .e x,v=>iC bs br w x v
 | .box id off,v=>L.me id/\∃ b,L.val id = .pointer (some ⟨b,0,none⟩)/\v = .pointer (some ⟨b,off,none⟩)
 | .own id,v=>L.me id/\v=L.val id
 | .nm id sz i j,v=>L.me id/\∃ b n c,L.val id = .slice (some ⟨b,0,none⟩) n c/\v = .pointer (some ⟨b,i*sz+j,none⟩)
 | .iH id k,v=>L.me id/\v=L.iH id k
 | .qQ id sz k i j,v=>L.me id/\∃ b n c,L.iH id k = .slice (some ⟨b,0,none⟩) n c/\v = .pointer (some ⟨b,i*sz+j,none⟩)
 | .pC f cap,v=>∃ vs:List Value,v = .func (.func f) #[] vs.toArray/\vs.length=cap.length/\∀ (i:Nat) (c:CV) (x:Value),cap[i]? = some c->vs[i]? = some x->wM bs br L w c x
def PV.le(p q:PV):Prop:=∀ (bs br:Nat->Prop) (L:Lk) (w:World) (v:Value),kQ bs br L w p v->kQ bs br L w q v
abbrev aj(a b:E):Prop:=PV.le (.e a) (.e b)
def uK(P:Program)(K:World->Prop)(T:List TI)(O:qu)(σ:PS)(o:Oper):Option kq:=match jD P K T O σ o with
 |some u=>match o.dst with
  |some d=>match look O.ov d with
   |some p=>some { u with r:=p,jB:=PV.le u.r p::u.jB }
   |none=>some u
  |none=>some u
 |none=>none
def Ar(gZ:Array Oper)(σ:PS)(o:Oper):Option Bool:=match o.guard with
 |none=>some true
 |some (j,want)=>match(gZ[j]?).bind (·.dst)with
  |some t=>match σ.get t with
   | .e (.v (.bool true))=>some want
   | .e (.v (.bool false))=>some (!want)
   | .e (.v (.tuple _))=>some false
   |_=>none
  |none=>none
def PS.app(σ:PS)(d:Option Tmp)(u:kq):PS:=(σ.oe u.f).put d u.r
def wc(σ:PS):Option Tmp->Bool
 |some d=>Nat.blt d σ.n
 |none=>true
def GS:Op->List Operand
 | .move x | .assign x | .box _ x | .load _ x | .nilCheck x | .unOp _ _ x | .convert _ _ x | .fieldAddr _ x _ | .field _ x _ | .extract x _=>[x]
 | .pick c a b=>[c,a,b]
 | .build _ ps | .buildSlice _ _ ps=>ps.toList.map (·.2)
 | .store _ a v | .binOp _ _ a v _ | .makeSlice _ a v | .indexAddr _ a v | .index _ a v | .lookup _ a v _=>[a,v]
 | .makeFunc _ first captured=>first.toList++captured.toList
 | .slice _ x l h m=>x::(l.toList++h.toList++m.toList)
 | .call c=>(match c.callee with | .value f=>[f] | .invoke r _=>[r] | .builtin _=>[])++c.args.toList
 |_=>[]
def EZ:List Operand->List Tmp
 | []=>[]
 | .tmp t::l=>t::EZ l
 |_::l=>EZ l
def looks(gZ:Array Oper)(o:Oper):List Tmp:=EZ (GS o.op)++(match o.guard with
 |some (g,_)=>((gZ[g]?).bind (·.dst)).toList
 |none=>[])
def mr.zG:mr->List Nat
 | .none=>[]
 | .new i _ | .rT i _ | .pE i _ | .sM i _ | .fin i | .wD i _=>[i]
 | .oH i r _=>[i,r]
def Bx.pd(f:mr)(b:Bx):Bool:=f.vF&&b.kV.any λr=>f.zG.any λi=>Nat.beq i r
def PS.pd(σ:PS)(f:mr):Bool:=f.vF&&σ.b.any λx=>match σ.bo x.1 with
 |some b=>b.pd f
 |none=>false
def mr.LV:mr->List Nat
 | .new _ b | .rT _ b | .pE _ b | .sM _ b | .wD _ b | .oH _ _ b=>b.kV
 |_=>[]
def mr.id:mr->Option Nat
 | .none=>Option.none
 | .new i _ | .rT i _ | .pE i _ | .sM i _ | .fin i | .oH i _ _ | .wD i _=>some i
def PS.xq(σ:PS)(f:mr):List Nat:=match f.id with
 |some i=>(match σ.bo i with
  |some b=>b.kV
  |none=>[])
 |none=>[]
def rE(P:Program)(K:World->Prop)(T:List TI)(O:qu)(gZ:Array Oper)(σ:PS)(o:Oper):Option kq:=
 if wc σ o.dst then match Ar gZ σ o with
  |some true=>match uK P K T O σ o with
   |some u=>some { u with rd:=(looks gZ o).map σ.get,hb:=σ.pd u.f,ob:=σ.xq u.f }
   |none=>none
  |some false=>some { r:=.e (.v (.tuple #[])),rd:=(looks gZ o).map σ.get }
  |none=>none
 else none
def MW(l:List Nat)(n:Nat):Bool:=l.any (Nat.beq n)
def mr.xk:mr->Bool
 | .oH ..=>true
 | .wD ..=>true
 |_=>false
def zQ:mr->PV->Bool
 | .pE id _,.own i=>!Nat.beq i id
 | .pE id _,.nm i _ _ _=>!Nat.beq i id
 | .pE id _,.pC _ cap=>!cap.any (CV.Gu id)
 | .sM id _,.iH i _=>!Nat.beq i id
 | .sM id _,.qQ i _ _ _ _=>!Nat.beq i id
 | .fin id,p=>!p.kV.any (Nat.beq id)
 |_,_=>true
def xp(l:List Nat):Option Nat->Bool
 |some d=>!MW l d
 |none=>true
def K4:Option Nat->Option Nat->Bool
 |some a,some b=>!Nat.beq a b
 |_,_=>true
def Oq:PV->Bool
 | .e .any=>false
 |_=>true
def CH(gZ:Array Oper)(x y:Oper×kq):Bool:=
 xp (looks gZ y.1) x.1.dst&&K4 x.1.dst y.1.dst&&xp (looks gZ x.1) y.1.dst &&
 xp y.2.rb x.2.f.id&&xp x.2.rb y.2.f.id&&K4 x.2.f.id y.2.f.id&&zQ x.2.f y.2.r&&zQ y.2.f x.2.r &&
 (!x.2.f.vF||y.2.rd.all Oq)&&x.2.rd.all (zQ y.2.f) && !x.2.f.xk && !y.2.f.xk &&
 !x.2.hb && !y.2.hb&&xp x.2.ob y.2.f.id&&xp y.2.ob x.2.f.id&&xp x.2.f.LV y.2.f.id&&xp y.2.f.LV x.2.f.id
def CJ(o:Oper)(i:Nat):Bool:=o.after.toList.any λe=>Region.binds .any e&&Nat.beq e.on i
def Bz(gZ:Array Oper):Nat->Oper->Nat->Bool
 | 0,o,i=>CJ o i
 |n+1,o,i=>CJ o i||o.after.toList.any λe=>Region.binds .any e&&(match gZ[e.on]? with
  |some z=>Bz gZ n z i
  |none=>false)
def EF(gZ:Array Oper):Nat->List (Oper×kq)->Bool
 |_,[]=>true
 |i,x::l=>x.1.after.toList.all (λe=>!Region.binds .any e||Nat.blt e.on i)&&l.all (λy=>Bz gZ 3 y.1 i||CH gZ x y)&&EF gZ (i+1) l
def Hr(σ:PS):PV->Option E
 | .e x=>if x.nr 3 then some x else none
 | .own id=>match σ.bo id with
  |some (.row nl _ n sz el)=>some (.sl nl n sz el)
  |some (.jH nl _ _ n sz len el none)=>some (.sl true n 1 λk _=>.sl nl (len k) sz (el k))
  |_=>none
 | .iH id k=>match σ.bo id with
  |some (.jH nl _ _ n sz len el none)=>if Nat.blt k n then some (.sl nl (len k) sz (el k))else none
  |_=>none
 |_=>none
def O7(T:List TI)(σ:PS):ResultVar->Option E
 | .tmp t=>Hr σ (σ.get t)
 | .cell a t=>match mO T t with
  |some ti=>match σ.read (σ.get a) ti.i.size with
   |some (l,_,[])=>if ti.isAgg then(if(E.agg l).nr 3 then some (.agg l)else none)else match l with
    | [e]=>if e.nr 3 then some e else none
    |_=>none
   |_=>none
  |none=>none
def EM(T:List TI)(σ:PS):List ResultVar->Option (List E)
 | []=>some []
 |x::l=>match O7 T σ x,EM T σ l with
  |some e,some es=>some (e::es)
  |_,_=>none
def KD(T:List TI)(fn:Func)(σ:PS):Option E:=match EM T σ fn.results.toList with
 |some [e]=>some e
 |some l=>some (.ix l)
 |none=>none
inductive Ex where
 |normal
 |exit (id:Nat)
 |ret
def FN:Code->Nat
 | .region id _ _=>id
 | .seq a _=>FN a
 | .cond _ a _=>FN a
 | .block _ b=>FN b
 | .loop b=>FN b
 |_=>0
def Gs:Nat->List E->List (Nat×PV)
 |_,[]=>[]
 |i,x::l=>(i,.e x)::Gs (i+1) l
def Bi(fn:Func)(nl:Bool)(args:List E):PS:={ n:=fn.ntmps,nl:=nl,t:=Gs 0 args,b:=[] }
def kO{a b:Nat}:Nat.beq a b=true↔a=b:=⟨Nat.eq_of_beq_eq_true,λh=>by subst h;exact ch a⟩
def cM{a b:Nat}(h:a≠b):Nat.beq a b=false:=by
 cases hb:Nat.beq a b with
 |false=>rfl
 |true=>exact absurd (kO.1 hb) h
def sX{α:Type}(k:Nat)(x:α)(l:List (Nat×α))(t:Nat):look ((k,x)::l) t=if k=t then some x else look l t:=by
 by_cases h:k=t
 .subst h;simp[look]
 .simp [look,h,cM h]
def GB{α:Type}(l:List (Nat×α))(d t:Nat)(h:d≠t):look (l.filter λx=>!Nat.beq x.1 d) t=look l t:=by
 induction l with
 |nil=>rfl
 |cons y l ih=>
  obtain⟨k,x⟩:=y;rw[List.filter_cons];by_cases hk:k=d
  .subst hk;simp only[ch,fk,bE,bn];rw[ih,sX,aZ h]
  .simp only[cM hk,ek,bB];rw[sX,sX,ih]
def J5{α:Type}(l:List (Nat×α))(f:α->α)(t:Nat):look (l.map λx=>(x.1,f x.2)) t=(look l t).map f:=by
 induction l with
 |nil=>rfl
 |cons y l ih=>
  obtain⟨k,x⟩:=y;rw[eo,sX,sX,ih];split<;>rfl
def PS.Mz(σ:PS)(d:Nat)(p:PV)(t:Nat):(σ.put (some d) p).get t=if d=t then p else σ.get t:=by
 unfold PS.get PS.put;simp only[sX];by_cases h:d=t
 .rw [a6 h,a6 h];rfl
 .rw [aZ h,aZ h,GB _ _ _ h]
def PS.aby(σ:PS)(d:Option Tmp)(p:PV)(id:Nat):(σ.put d p).bo id=σ.bo id:=by cases d<;>rfl
def PS.Og(σ:PS)(d:Option Tmp)(p:PV):(σ.put d p).n=σ.n:=by cases d<;>rfl
def PS.aio(σ:PS)(d:Option Tmp)(p:PV):(σ.put d p).nl=σ.nl:=by cases d<;>rfl
def CR(l:List (Nat×Bx))(id:Nat)(b:Bx)(t:Nat):look (tU l id b) t=if id=t then some b else look l t:=by
 unfold tU;rw[sX];by_cases h:id=t
 .rw [a6 h,a6 h]
 .rw [aZ h,aZ h,GB _ _ _ h]
def VZ{α:Type}(l:List (Nat×α))(d:Nat):look (l.filter λx=>!Nat.beq x.1 d) d=none:=by
 induction l with
 |nil=>rfl
 |cons y l ih=>
  obtain⟨k,x⟩:=y;rw[List.filter_cons];by_cases hk:k=d
  .subst hk;simpa only[ch,fk,bE,bn]using ih
  .simp only[cM hk,ek,bB];rw[sX,aZ hk,ih]
def CQ{α:Type}(l:List (Nat×α))(i id:Nat):look (l.filter λx=>!Nat.beq x.1 i) id=if i=id then none else look l id:=by
 by_cases h:i=id
 .subst h;rw[a6 rfl];exact VZ _ _
 .rw [aZ h];exact GB _ _ _ h
def CT(b:Bx):b.qS (λp=>p)=b:=by cases b<;>simp[Bx.qS]
def V7{b:Bx}{g:PV->PV}(h:∀ p,p ∈ b.Kq->g p=p):b.qS g=b:=by
 cases b with
 |oE nl T l=>
  simp only[Bx.qS,Bx.oE.injEq,true_and]
  conv=>rhs;rw[<-List.map_id l]
  exact eH h
 |_=>rfl
def CU(b:Bx)(g:PV->PV):(b.qS g).nl=b.nl:=by cases b<;>rfl
def ZS{f:mr}(h:f.vF=false)(p:PV):p.kW f=p:=by
 cases f<;>first|(exact Bool.noConfusion h)|(cases p<;>rfl)
def PS.AG(σ:PS)(f:mr)(i:Nat):look (σ.pre f) i=(σ.bo i).map (Bx.qS (PV.kW f)):=by
 unfold PS.pre PS.bo;by_cases h:f.vF=true
 .rw [a6 h,J5]
 .rw [aZ h];cases look σ.b i with
  |none=>rfl
  |some b=>simp only[ct];rw[V7 λp _=>ZS (by simpa using h) p]
def PS.Ce(σ:PS)(f:mr)(t:Nat):(σ.oe f).get t=(σ.get t).kW f:=by
 unfold PS.get PS.oe;by_cases h:f.vF=true
 .simp only[h,bB];rw[J5];cases look σ.t t with
  |none=>cases f<;>rfl
  |some p=>rfl
 .have hv:∀ p:PV,p.kW f=p:=by
   intro p;cases f<;>first|exact absurd rfl h|(cases p<;>rfl)
  simp only[h,hv];rfl
def Qh(bs br:Nat->Prop)(L:Lk)(w:World)(id:Nat)(nl:Bool)(T1 T0:TypeId)(n sz:Nat)(len:Nat->Nat)(el:Nat->Nat->Nat->E)(pend:Option Nat):Prop:=∃ (b c:Nat) (cur:Array Value) (f:Nat->Nat->Nat->Value),L.val id = .slice (some ⟨b,0,none⟩) n c/\w.heap[b]? = some (.cells cur T1 (0,0))/\n<=c/\c<=maxLen/\cur.size=c /\
 (∀ k,k<n->pend≠some k->cur[k]? = some (L.iH id k))/\(∀ u,u ∈ cur->pQ u=false) /\
 (∀ k,k<n->nE w (L.iH id k) T0 (len k) sz (f k) nl/\∀ i j,i<len k->j<sz->iC bs br w (el k i j) (f k i j)/\(el k i j).nr 2=true) /\
 (∀ x,L.own id x↔x=b\/∃ k,k<n/\(L.iH id k).ownBlock=some x) /\
 (∀ k k' x,k<n->k'<n->(L.iH id k).ownBlock=some x->(L.iH id k').ownBlock=some x->k=k')/\(∀ k,k<n->(L.iH id k).ownBlock≠some b)
def nx(bs br:Nat->Prop)(L:Lk)(w:World)(id:Nat):Bx->Prop
 | .cells T l=>∃ b vs,L.val id = .pointer (some ⟨b,0,none⟩)/\(∀ x,L.own id x↔x=b)/\w.heap[b]? = some (.cells vs.toArray T (0,0))/\ki bs br w l vs/\∀ u,u ∈ vs->u.oneCell'=true
 | .row nl T n sz el=>∃ f:Nat->Nat->Value,nE w (L.val id) T n sz f nl/\(∀ x,L.own id x↔(L.val id).ownBlock=some x)/\∀ i j,i<n->j<sz->iC bs br w (el i j) (f i j)/\(el i j).nr 2=true
 | .jH nl T1 T0 n sz len el pend=>(L.val id = .slice none 0 0/\n=0/\∀ x,¬L.own id x)\/Qh bs br L w id nl T1 T0 n sz len el pend
 | .oE nl T l=>∃ (b:Nat) (vs:List Value),L.val id = .pointer (some ⟨b,0,none⟩)/\(∀ x,L.own id x↔x=b)/\w.heap[b]? = some (.cells vs.toArray T (0,0))/\vs.length=l.length /\
  (∀ (i:Nat) (p:PV) (v:Value),l[i]? = some p->vs[i]? = some v->kQ bs br L w p v)/\∀ u,u ∈ vs->u.oneCell'=true/\(nl=true->pQ u=false)
def nx.wG{bs br:Nat->Prop}{L:Lk}{w:World}{id:Nat}{nl:Bool}{T1 T0 n sz:Nat}{len:Nat->Nat}{el:Nat->Nat->Nat->E}{pend:Option Nat}(h:nx bs br L w id (.jH nl T1 T0 n sz len el pend))(hn:0<n):
 Qh bs br L w id nl T1 T0 n sz len el pend:=by
 rcases h with⟨_,h,_⟩|h
 .omega
 .exact h
structure iZ(w0:World)(B:Nat->Prop)(σ:PS)(a:Act)(w:World)(L:Lk):Prop where
 hd:a.defers=[]
 hs:a.tmps.size=σ.n
 ht:∀ t,kQ (iS B L) (jm L) L w (σ.get t) (a.tmps.getD t undef)
 hb:∀ id b,σ.bo id=some b->nx (iS B L) (jm L) L w id b
 hv:∀ id,L.me id↔(σ.bo id).isSome=true
 hn:∀ id x,L.own id x->L.me id
 hw:∀ id x,L.own id x->w0.heap.size<=x/\x<w.heap.size
 hi:∀ id id' x,L.own id x->L.own id' x->id=id'
 he:Below w0.heap.size w0 w
 hl:σ.nl=true->∀ id b,σ.bo id=some b->b.nl=true
structure rz(L:Lk)(w:World)(L':Lk)(w':World):Prop where
 size:w.heap.size<=w'.heap.size
 jm:∀ x,x<w.heap.size->Pu.jm L' x->Pu.jm L x
 pj:∀ x,x<w.heap.size->¬Pu.jm L x->w'.heap[x]? = w.heap[x]?
def rz.kH{B:Nat->Prop}{L L':Lk}{w w':World}(h:rz L w L' w'){e:E}{v:Value}(k:iC (iS B L) (Pu.jm L) w e v):iC (iS B L') (Pu.jm L') w' e v:=by
 refine k.mono h.size (λb hb hx=>?_) (λb hb hx=>h.jm b hb hx) (λb hb vW=>h.pj b hb ?_)
 .rcases hx with hx|hx
  .exact .inl hx
  .exact .inr (h.jm b hb hx)
 .rcases vW with vW|vW
  .exact λhm=>vW (.inr hm)
  .exact vW
def nE.block{w w':World}{v:Value}{T:TypeId}{n sz:Nat}{f:Nat->Nat->Value}{nl:Bool}(h:nE w v T n sz f nl)
 (hk:∀ x,v.ownBlock=some x->w'.heap[x]? = w.heap[x]?):nE w' v T n sz f nl:=by
 rcases h with h|⟨b,c,cur,rfl,hg,r⟩
 .exact .inl h
 .exact .inr ⟨b,c,cur,rfl,by rw[hk b rfl];exact hg,r⟩
def nx.map{B:Nat->Prop}{L L':Lk}{w w':World}(h:rz L w L' w'){id:Nat}{b:Bx}{g g':PV->PV}(k:nx (iS B L) (jm L) L w id (b.qS g))
 (hv:L'.val id=L.val id) (ho:∀ x,L'.own id x↔L.own id x) (lG:∀ j,L'.iH id j=L.iH id j) (hk:∀ x,L.own id x->w'.heap[x]? = w.heap[x]?)
 (hT:∀ p v,p ∈ b.Kq->kQ (iS B L) (jm L) L w (g p) v->kQ (iS B L') (jm L') L' w' (g' p) v):nx (iS B L') (jm L') L' w' id (b.qS g'):=by
 cases b with
 |oE nl T l=>
  obtain⟨b,vs,h1,h2,h3,h4,h5,h6⟩:=k;refine⟨b,vs,by rw[hv];exact h1,λx=>(ho x).trans (h2 x),by rw[hk b ((h2 b).2 rfl)];exact h3,by simpa using h4,λi p v hp hx=>?_,h6⟩;rw[b6]at hp;obtain⟨q,hq,rfl⟩:=bT.1 hp;exact hT q v (dF hq) (h5 i (g q) v (by rw[b6,hq];rfl) hx)
 |cells T l=>
  obtain⟨b,vs,h1,h2,h3,h4,h5⟩:=k;exact⟨b,vs,by rw[hv];exact h1,λx=>(ho x).trans (h2 x),by rw[hk b ((h2 b).2 rfl)];exact h3,h4.mono λ_ _=>h.kH,h5⟩
 |row nl T n sz el=>
  obtain⟨f,h1,h2,h3⟩:=k;exact⟨f,by rw[hv];exact h1.block λx hx=>hk x ((h2 x).2 hx),λx=>by rw[ho,hv];exact h2 x,λi j hi hj=>⟨h.kH (h3 i j hi hj).1,(h3 i j hi hj).2⟩⟩
 |jH nl T1 T0 n sz len el pend=>
  rcases k with⟨h1,h2,h3⟩|k
  .exact .inl ⟨by rw[hv];exact h1,h2,λx hx=>h3 x ((ho x).1 hx)⟩
  obtain⟨b,c,cur,f,h1,h2,h3,h4,h5,h6,h7,h8,h9,qw,se⟩:=k;have e:L'.iH id=L.iH id:=funext lG;refine .inr ⟨b,c,cur,f,by rw[hv];exact h1,by rw[hk b ((h9 b).2 (.inl rfl))];exact h2,h3,h4,h5,by rw[e];exact h6,h7,?_,?_,by rw[e];exact qw,by rw[e];exact se⟩
  .intro k Jz;obtain⟨q1,q2⟩:=h8 k Jz;rw[e];exact⟨q1.block λx hx=>hk x ((h9 x).2 (.inr ⟨k,Jz,hx⟩)),λi j hi hj=>⟨h.kH (q2 i j hi hj).1,(q2 i j hi hj).2⟩⟩
  .intro x;rw[ho,e];exact h9 x
def nx.later{B:Nat->Prop}{L L':Lk}{w w':World}(h:rz L w L' w'){id:Nat}{b:Bx}(k:nx (iS B L) (jm L) L w id b)
 (hv:L'.val id=L.val id) (ho:∀ x,L'.own id x↔L.own id x) (lG:∀ j,L'.iH id j=L.iH id j) (hk:∀ x,L.own id x->w'.heap[x]? = w.heap[x]?)
 (hT:∀ p v,p ∈ b.Kq->kQ (iS B L) (jm L) L w p v->kQ (iS B L') (jm L') L' w' p v):nx (iS B L') (jm L') L' w' id b:=by
 have:=nx.map (g:=λp=>p) (g':=λp=>p) h (b:=b) (by rw[CT];exact k) hv ho lG hk hT;rwa[CT]at this
def wM.later{B:Nat->Prop}{L L':Lk}{w w':World}(h:rz L w L' w'){c:CV}{v:Value}(k:wM (iS B L) (jm L) L w c v)
 (hv:∀ id,L.me id->L'.me id/\L'.val id=L.val id):wM (iS B L') (jm L') L' w' c v:=by
 cases c with
 |e x=>exact h.kH k
 |box id=>obtain⟨k1,b,k2,k3⟩:=k;exact⟨(hv id k1).1,b,by rw[(hv id k1).2];exact k2,k3⟩
 |row id=>obtain⟨k1,b,n,c,k2,k3⟩:=k;exact⟨(hv id k1).1,b,n,c,by rw[(hv id k1).2];exact k2,k3⟩
def kQ.later{B:Nat->Prop}{L L':Lk}{w w':World}(h:rz L w L' w'){p:PV}{v:Value}(k:kQ (iS B L) (jm L) L w p v)
 (hv:∀ id,L.me id->L'.me id/\L'.val id=L.val id/\∀ j,L'.iH id j=L.iH id j):kQ (iS B L') (jm L') L' w' p v:=by
 cases p with
 |e x=>exact h.kH k
 |box id off=>obtain⟨k1,b,k2,k3⟩:=k;exact⟨(hv id k1).1,b,by rw[(hv id k1).2.1];exact k2,k3⟩
 |own id=>obtain⟨k1,k2⟩:=k;exact⟨(hv id k1).1,by rw[(hv id k1).2.1];exact k2⟩
 |nm id sz i j=>obtain⟨k1,b,n,c,k2,k3⟩:=k;exact⟨(hv id k1).1,b,n,c,by rw[(hv id k1).2.1];exact k2,k3⟩
 |iH id q=>obtain⟨k1,k2⟩:=k;exact⟨(hv id k1).1,by rw[(hv id k1).2.2];exact k2⟩
 |qQ id sz q i j=>obtain⟨k1,b,n,c,k2,k3⟩:=k;exact⟨(hv id k1).1,b,n,c,by rw[(hv id k1).2.2];exact k2,k3⟩
 |pC f cap=>
  obtain⟨vs,k1,k2,k3⟩:=k;exact⟨vs,k1,k2,λi c x hc hx=>(k3 i c x hc hx).later h λid hl=>⟨(hv id hl).1,(hv id hl).2.1⟩⟩
def kQ.move{B:Nat->Prop}{L L':Lk}{w w':World}(h:rz L w L' w'){p:PV}{v:Value}(k:kQ (iS B L) (jm L) L w p v)
 (hv:∀ id,id ∈ p.kV->L.me id->L'.me id/\L'.val id=L.val id/\∀ j,L'.iH id j=L.iH id j):kQ (iS B L') (jm L') L' w' p v:=by
 cases p with
 |e x=>exact h.kH k
 |box id off=>obtain⟨k1,b,k2,k3⟩:=k;have q:=hv id (by simp[PV.kV]) k1;exact⟨q.1,b,by rw[q.2.1];exact k2,k3⟩
 |own id=>obtain⟨k1,k2⟩:=k;have q:=hv id (by simp[PV.kV]) k1;exact⟨q.1,by rw[q.2.1];exact k2⟩
 |nm id sz i j=>obtain⟨k1,b,n,c,k2,k3⟩:=k;have q:=hv id (by simp[PV.kV]) k1;exact⟨q.1,b,n,c,by rw[q.2.1];exact k2,k3⟩
 |iH id r=>obtain⟨k1,k2⟩:=k;have q:=hv id (by simp[PV.kV]) k1;exact⟨q.1,by rw[q.2.2];exact k2⟩
 |qQ id sz r i j=>obtain⟨k1,b,n,c,k2,k3⟩:=k;have q:=hv id (by simp[PV.kV]) k1;exact⟨q.1,b,n,c,by rw[q.2.2];exact k2,k3⟩
 |pC f cap=>
  obtain⟨vs,k1,k2,k3⟩:=k;refine⟨vs,k1,k2,λi c x hc hx=>?_⟩;have q:=k3 i c x hc hx;cases c with
  |e y=>exact h.kH q
  |box id=>
   obtain⟨q1,b,q2,q3⟩:=q;have r:=hv id (by simp only[PV.kV,dj];exact⟨.box id,dF hc,by simp[CV.kV]⟩) q1;exact⟨r.1,b,by rw[r.2.1];exact q2,q3⟩
  |row id=>
   obtain⟨q1,b,n,c,q2,q3⟩:=q;have r:=hv id (by simp only[PV.kV,dj];exact⟨.row id,dF hc,by simp[CV.kV]⟩) q1;exact⟨r.1,b,n,c,by rw[r.2.1];exact q2,q3⟩
def iZ.later{w0:World}{B:Nat->Prop}{σ:PS}{a:Act}{w w':World}{L:Lk}(r:iZ w0 B σ a w L)(h:Below w.heap.size w w'):iZ w0 B σ a w' L:=by
 have hl:rz L w L w':=⟨h.size,λ_ _ h=>h,λx hx _=>h.block x hx⟩
 refine⟨r.hd,r.hs,λt=>(r.ht t).later hl λid k=>⟨k,rfl,λ_=>rfl⟩,λid b hb=>(r.hb id b hb).later hl rfl (λ_=>Iff.rfl) (λ_=>rfl) (λx hx=>h.block x (r.hw id x hx).2) (λp v _ k=>k.later hl λid k=>⟨k,rfl,λ_=>rfl⟩),r.hv,r.hn,
  λid x hx=>⟨(r.hw id x hx).1,bQ (r.hw id x hx).2 h.size⟩,r.hi,r.he.trans (h.mono r.he.size),r.hl⟩
def iZ.drew{w0:World}{B:Nat->Prop}{σ:PS}{a:Act}{w:World}{L:Lk}(r:iZ w0 B σ a w L):iZ w0 B σ a w.drew L:=r.later (Below.refl _ _).drew
def iZ.put{w0:World}{B:Nat->Prop}{σ:PS}{a:Act}{w:World}{L:Lk}(r:iZ w0 B σ a w L)(d:Option Tmp)(p:PV)(v:Value)(hd:wc σ d=true)(hp:kQ (iS B L) (jm L) L w p v):iZ w0 B (σ.put d p) (a.put d v) w L:=by
 cases d with
 |none=>exact r
 |some d=>
  have Cj:d<σ.n:=by simpa[wc,fm]using hd
  refine⟨r.hd,by simp[Act.put,r.hs,PS.Og],λt=>?_,λid b hb=>r.hb id b hb,r.hv,r.hn,r.hw,r.hi,r.he,r.hl⟩;rw[PS.Mz];by_cases h:d=t
  .subst h;rw[a6 rfl];have:(a.put (some d) v).tmps.getD d undef=v:=by
    simp[Act.put,Array.getElem?_setIfInBounds,r.hs,Cj]
   rw[this];exact hp
  .rw [aZ h];have:(a.put (some d) v).tmps.getD t undef=a.tmps.getD t undef:=by
    simp[Act.put,aoH h]
   rw[this];exact r.ht t
def iZ.op{w0:World}{B:Nat->Prop}{σ:PS}{a:Act}{w:World}{L:Lk}(r:iZ w0 B σ a w L)(x:Operand):kQ (iS B L) (jm L) L w (σ.op x) (a.eval x):=by
 cases x with
 |tmp t=>exact r.ht t
 |const v=>exact .v v
 |global g=>exact .v _
 |func f=>exact .fn f [] [] rfl (λi p x h=>by simp at h)
def Lk.set(L:Lk)(id:Nat)(O:Nat->Prop)(v:Value)(iH:Nat->Value):Lk:=
 {me:=λi=>i=id\/L.me i
  own:=λi x=>if i=id then O x else L.own i x
  val:=λi=>if i=id then v else L.val i
  iH:=λi=>if i=id then iH else L.iH i }
section
variable {L:Lk} {id:Nat} {O:Nat->Prop} {v:Value} {iH:Nat->Value}
def Lk.sr(x:Nat):(L.set id O v iH).own id x↔O x:=by simp[Lk.set]
def Lk.pn:(L.set id O v iH).val id=v:=by simp[Lk.set]
def Lk.sc(k:Nat):(L.set id O v iH).iH id k=iH k:=by simp[Lk.set]
def Lk.BI:(L.set id O v iH).me id:=.inl rfl
def Lk.BJ{i:Nat}(h:i≠id)(x:Nat):(L.set id O v iH).own i x↔L.own i x:=by simp[Lk.set,h]
def Lk.yD{i:Nat}(h:i≠id):(L.set id O v iH).val i=L.val i:=by simp[Lk.set,h]
def Lk.Dh{i:Nat}(h:i≠id)(k:Nat):(L.set id O v iH).iH i k=L.iH i k:=by simp[Lk.set,h]
end
structure qY(L:Lk)(w:World)(id:Nat)(O:Nat->Prop)(w':World):Prop where
 own:∀ x,O x->(L.own id x\/w.heap.size<=x)/\x<w'.heap.size
 size:w.heap.size<=w'.heap.size
 pj:∀ x,x<w.heap.size->¬L.own id x->w'.heap[x]? = w.heap[x]?
 os:w'.os=w.os
 tape:w'.tape=w.tape
 output:w'.output=w.output
def qY.later{L:Lk}{w:World}{id:Nat}{O:Nat->Prop}{w':World}(h:qY L w id O w')(v:Value)(iH:Nat->Value):rz L w (L.set id O v iH) w':=by
 refine⟨h.size,λx hx hm=>?_,λx hx hm=>h.pj x hx λho=>hm ⟨id,ho⟩⟩;obtain⟨i,hi⟩:=hm;by_cases e:i=id
 .subst e;rcases(h.own x ((Lk.sr x).1 hi)).1 with k|k
  .exact ⟨i,k⟩
  .omega
 .exact ⟨i,(Lk.BJ e x).1 hi⟩
def iZ.set{w0:World}{B:Nat->Prop}{σ:PS}{a:Act}{w:World}{L:Lk}(r:iZ w0 B σ a w L)(id:Nat)(b':Bx)(O:Nat->Prop)(v:Value)(iH:Nat->Value)(w':World)(f:mr)
 (hf:f.LH (σ.pre f)=tU (σ.pre f) id b') (ht:qY L w id O w')
 (hB:nx (iS B (L.set id O v iH)) (jm (L.set id O v iH)) (L.set id O v iH) w' id b')
 (hT:∀ p v0,kQ (iS B L) (jm L) L w p v0->kQ (iS B (L.set id O v iH)) (jm (L.set id O v iH)) (L.set id O v iH) w' (p.kW f) v0)
 (jG:σ.nl=true->b'.nl=true):iZ w0 B (σ.oe f) a w' (L.set id O v iH):=by
 have hl:=ht.later v iH;have jg:∀ i,(σ.oe f).bo i=if id=i then some b' else(σ.bo i).map (Bx.qS (PV.kW f)):=by
  intro i;show look (f.LH (σ.pre f)) i=_;rw[hf,CR,PS.AG]
 have oF:Below w0.heap.size w w':=⟨ht.os,ht.tape,ht.output,ht.size,λx hx=>ht.pj x (bQ hx r.he.size) λho=>by have:=(r.hw id x ho).1;omega⟩
 refine⟨r.hd,r.hs,λt=>?_,λi b hb=>?_,λi=>?_,λi x hx=>?_,λi x hx=>?_,λi j x hi hj=>?_,r.he.trans oF,λxV i b hb=>?_⟩
 .rw [PS.Ce];exact hT _ _ (r.ht t)
 .rw [jg]at hb;by_cases e:id=i
  .subst e;rw[a6 rfl]at hb;cases hb;exact hB
  .rw [aZ e]at hb;have e':i≠id:=λh=>e h.symm
   obtain⟨b0,lV,rfl⟩:=bT.1 hb;exact nx.map (g:=λp=>p) hl (by rw[CT];exact r.hb i b0 lV) (Lk.yD e') (Lk.BJ e') (Lk.Dh e') (λx hx=>ht.pj x (r.hw i x hx).2 λho=>e (r.hi id i x ho hx)) λp v _ k=>hT p v k
 .rw [jg];by_cases e:id=i
  .subst e;rw[a6 rfl];simp[Lk.set]
  .rw [aZ e];have e':i≠id:=λh=>e h.symm
   simp only[Lk.set,e',false_or,eI];exact r.hv i
 .by_cases e:i=id
  .exact .inl e
  .exact .inr (r.hn i x ((Lk.BJ e x).1 hx))
 .by_cases e:i=id
  .subst e;obtain⟨k1,k2⟩:=ht.own x ((Lk.sr x).1 hx);refine⟨?_,k2⟩;rcases k1 with k1|k1
   .exact (r.hw i x k1).1
   .exact bk r.he.size k1
  .have:=r.hw i x ((Lk.BJ e x).1 hx);exact⟨this.1,bQ this.2 ht.size⟩
 .by_cases e1:i=id
  .by_cases e2:j=id
   .rw [e1,e2]
   .have k2:=(Lk.BJ e2 x).1 hj;subst e1;rcases(ht.own x ((Lk.sr x).1 hi)).1 with k|k
    .exact r.hi _ _ x k k2
    .have:=(r.hw j x k2).2;omega
  .have k1:=(Lk.BJ e1 x).1 hi;by_cases e2:j=id
   .subst e2;rcases(ht.own x ((Lk.sr x).1 hj)).1 with k|k
    .exact r.hi _ _ x k1 k
    .have:=(r.hw i x k1).2;omega
   .exact r.hi _ _ x k1 ((Lk.BJ e2 x).1 hj)
 .rw [jg]at hb;by_cases e:id=i
  .rw [a6 e]at hb;cases hb;exact jG xV
  .rw [aZ e]at hb;obtain⟨b0,lV,rfl⟩:=bT.1 hb;rw[CU];exact r.hl xV i b0 lV
def iZ.new{w0:World}{B:Nat->Prop}{σ:PS}{a:Act}{w:World}{L:Lk}(r:iZ w0 B σ a w L)(id:Nat)(b':Bx)(O:Nat->Prop)(v:Value)(iH:Nat->Value)(w':World)
 (kp:σ.bo id=none) (hO:∀ x,O x->w.heap.size<=x/\x<w'.heap.size) (hb:Below w.heap.size w w')
 (hB:nx (iS B (L.set id O v iH)) (jm (L.set id O v iH)) (L.set id O v iH) w' id b')
 (jG:(!σ.nl||b'.nl)=true):iZ w0 B (σ.oe (.new id b')) a w' (L.set id O v iH):=by
 have Ub:¬L.me id:=λh=>by have:=(r.hv id).1 h;rw[kp]at this;simp at this
 have ht:qY L w id O w':=⟨λx hx=>⟨.inr (hO x hx).1,(hO x hx).2⟩,hb.size,λx hx _=>hb.block x hx,hb.os,hb.tape,hb.output⟩
 refine r.set id b' O v iH w' (.new id b') rfl ht hB (λp v0 hp=>?_) (λh=>by simpa[h]using jG);have jl:∀ {i},L.me i->i≠id:=λh e=>Ub (e▸h)
 have:p.kW (.new id b')=p:=by cases p<;>rfl
 rw[this];exact hp.later (ht.later v iH) λi hi=>⟨.inr hi,Lk.yD (jl hi),λj=>Lk.Dh (jl hi) j⟩
def iZ.rT{w0:World}{B:Nat->Prop}{σ:PS}{a:Act}{w:World}{L:Lk}(r:iZ w0 B σ a w L)(id:Nat)(b':Bx)(w':World)
 (pH:L.me id) (ht:qY L w id (L.own id) w')
 (hB:nx (iS B (L.set id (L.own id) (L.val id) (L.iH id))) (jm (L.set id (L.own id) (L.val id) (L.iH id))) (L.set id (L.own id) (L.val id) (L.iH id)) w' id b')
 (jG:σ.nl=true->b'.nl=true):iZ w0 B (σ.oe (.rT id b')) a w' (L.set id (L.own id) (L.val id) (L.iH id)):=by
 refine r.set id b' _ _ _ w' (.rT id b') rfl ht hB (λp v0 hp=>?_) jG;have:p.kW (.rT id b')=p:=by cases p<;>rfl
 rw[this];refine hp.later (ht.later _ _) λi hi=>⟨.inr hi,?_,λj=>?_⟩
 .by_cases e:i=id
  .subst e;exact Lk.pn
  .exact Lk.yD e
 .by_cases e:i=id
  .subst e;exact Lk.sc j
  .exact Lk.Dh e j
def iZ.pE{w0:World}{B:Nat->Prop}{σ:PS}{a:Act}{w:World}{L:Lk}(r:iZ w0 B σ a w L)(id:Nat)(b':Bx)(O:Nat->Prop)(v:Value)(w':World)
 (hp:∀ b,L.val id ≠ .pointer (some b)) (ht:qY L w id O w')
 (hB:nx (iS B (L.set id O v (L.iH id))) (jm (L.set id O v (L.iH id))) (L.set id O v (L.iH id)) w' id b')
 (jG:σ.nl=true->b'.nl=true):iZ w0 B (σ.oe (.pE id b')) a w' (L.set id O v (L.iH id)):=by
 have hl:=ht.later v (L.iH id);refine r.set id b' O v (L.iH id) w' (.pE id b') rfl ht hB (λp v0 qM=>?_) jG;have Be:∀ i j,(L.set id O v (L.iH id)).iH i j=L.iH i j:=λi j=>by
  by_cases e:i=id
  .subst e;exact Lk.sc j
  .exact Lk.Dh e j
 cases p with
 |e x=>exact hl.kH qM
 |box i off=>
  obtain⟨k1,b,k2,k3⟩:=qM;have e:i≠id:=λe=>by subst e;exact hp _ k2
  exact⟨.inr k1,b,by rw[Lk.yD e];exact k2,k3⟩
 |own i=>
  by_cases e:i=id
  .subst e;simp only[PV.kW,ch,bB];exact .any _
  .simp only[PV.kW,cM e,bE,bn];exact⟨.inr qM.1,by rw[Lk.yD e];exact qM.2⟩
 |nm i s x j=>
  by_cases e:i=id
  .subst e;simp only[PV.kW,ch,bB];exact .any _
  .simp only[PV.kW,cM e,bE,bn];obtain⟨k1,b,n,c,k2,k3⟩:=qM;exact⟨.inr k1,b,n,c,by rw[Lk.yD e];exact k2,k3⟩
 |iH i k=>exact⟨.inr qM.1,by rw[Be];exact qM.2⟩
 |qQ i s k x j=>obtain⟨k1,b,n,c,k2,k3⟩:=qM;exact⟨.inr k1,b,n,c,by rw[Be];exact k2,k3⟩
 |pC f cap=>
  cases px:cap.any (CV.Gu id)with
  |true=>simp only[PV.kW,px,bB];exact .any _
  |false=>
   simp only[PV.kW,px,bE,bn];obtain⟨vs,k1,k2,k3⟩:=qM;refine⟨vs,k1,k2,λi c x hc hx=>?_⟩;have hk:=k3 i c x hc hx;cases c with
   |e y=>exact hl.kH hk
   |box q=>
    obtain⟨q1,b,q2,q3⟩:=hk;have e:q≠id:=λe=>by subst e;exact hp _ q2
    exact⟨.inr q1,b,by rw[Lk.yD e];exact q2,q3⟩
   |row q=>
    obtain⟨q1,b,n,c,q2,q3⟩:=hk;have e:q≠id:=λe=>by
     have:=cK.1 px (.row q) (dF hc);subst e;simp[CV.Gu]at this
    exact⟨.inr q1,b,n,c,by rw[Lk.yD e];exact q2,q3⟩
def iZ.sM{w0:World}{B:Nat->Prop}{σ:PS}{a:Act}{w:World}{L:Lk}(r:iZ w0 B σ a w L)(id:Nat)(b':Bx)(O:Nat->Prop)(iH:Nat->Value)(w':World)
 (ht:qY L w id O w')
 (hB:nx (iS B (L.set id O (L.val id) iH)) (jm (L.set id O (L.val id) iH)) (L.set id O (L.val id) iH) w' id b')
 (jG:σ.nl=true->b'.nl=true):iZ w0 B (σ.oe (.sM id b')) a w' (L.set id O (L.val id) iH):=by
 have hl:=ht.later (L.val id) iH;refine r.set id b' O (L.val id) iH w' (.sM id b') rfl ht hB (λp v0 qM=>?_) jG;have lq:∀ i,(L.set id O (L.val id) iH).val i=L.val i:=λi=>by
  by_cases e:i=id
  .subst e;exact Lk.pn
  .exact Lk.yD e
 cases p with
 |e x=>exact hl.kH qM
 |box i off=>obtain⟨k1,b,k2,k3⟩:=qM;exact⟨.inr k1,b,by rw[lq];exact k2,k3⟩
 |own i=>exact⟨.inr qM.1,by rw[lq];exact qM.2⟩
 |nm i s x j=>obtain⟨k1,b,n,c,k2,k3⟩:=qM;exact⟨.inr k1,b,n,c,by rw[lq];exact k2,k3⟩
 |iH i k=>
  by_cases e:i=id
  .subst e;simp only[PV.kW,ch,bB];exact .any _
  .simp only[PV.kW,cM e,bE,bn];exact⟨.inr qM.1,by rw[Lk.Dh e];exact qM.2⟩
 |qQ i s k x j=>
  by_cases e:i=id
  .subst e;simp only[PV.kW,ch,bB];exact .any _
  .simp only[PV.kW,cM e,bE,bn];obtain⟨k1,b,n,c,k2,k3⟩:=qM;exact⟨.inr k1,b,n,c,by rw[Lk.Dh e];exact k2,k3⟩
 |pC f cap=>
  obtain⟨vs,k1,k2,k3⟩:=qM;refine⟨vs,k1,k2,λi c x hc hx=>(k3 i c x hc hx).later hl λj hj=>⟨.inr hj,lq j⟩⟩
structure Li(w:World)(v:Value)(T:TypeId)(n sz m:Nat)(f g:Nat->Nat->Value)(nl:Bool)(v':Value)(w':World):Prop where
 own:nE w' v' T (n+m) sz (λi j=>if i<n then f i j else g (i-n) j) nl
 Fo:∀ x,v'.ownBlock=some x->v.ownBlock=some x\/(w.heap.size<=x/\x<w'.heap.size)
 size:w.heap.size<=w'.heap.size
 pj:∀ x,x<w.heap.size->v.ownBlock≠some x->w'.heap[x]? = w.heap[x]?
 os:w'.os=w.os
 tape:w'.tape=w.tape
 output:w'.output=w.output
def oM(n sz:Nat)(f:Nat->Nat->Value):List Value:=(List.range (n*sz)).map λq=>f (q/sz) (q%sz)
def vQ(n sz:Nat)(f:Nat->Nat->Value):(oM n sz f).length=n*sz:=by simp[oM]
def Mt{n sz:Nat}{f:Nat->Nat->Value}{i j:Nat}(hi:i<n)(hj:j<sz):(oM n sz f)[i*sz+j]? = some (f i j):=by
 have h1:i*sz+j<n*sz:=by
  have:=bL sz (show i+1<=n from hi);rw[bX,bZ]at this;omega
 have h2:(i*sz+j)/sz=i:=by rw[bG,aoq aC,cW hj,bR]
 have h3:(i*sz+j)%sz=j:=by rw[bG,fU,ca hj]
 simp[oM,h1,h2,h3]
def I8{n sz:Nat}{f:Nat->Nat->Value}{q:Nat}{u:Value}(h:(oM n sz f)[q]? = some u):q/sz<n/\q%sz<sz/\u=f (q/sz) (q%sz)/\q/sz*sz+q%sz=q:=by
 unfold oM at h;rw[b6]at h;obtain⟨x,hx,rfl⟩:=bT.1 h;obtain⟨h1,h2⟩:=b7.1 hx;simp at h1 h2;subst h2;have hz:0<sz:=by
  rcases ep sz with h0|h0
  .subst h0;simp at h1
  .exact h0
 exact⟨(cD hz).2 h1,bH _ hz,rfl,by rw[bG];exact cI q sz⟩
def nE.row{w:World}{v:Value}{T:TypeId}{n sz:Nat}{f:Nat->Nat->Value}{nl:Bool}(h:nE w v T n sz f nl):w.ownsRow 0 T sz v n (oM n sz f):=by
 rcases h with⟨rfl,rfl⟩|⟨b,c,cur,rfl,hg,oG,nI,mJ,ke,_⟩
 .exact ⟨vQ _ _ _,.inl ⟨rfl,rfl⟩⟩
 .refine ⟨vQ _ _ _,.inr ⟨b,c,cur,rfl,bV _,hg,oG,nI,mJ,?_⟩⟩;apply fV;intro q;by_cases hq:q<n*sz
  .have hz:0<sz:=by
    rcases ep sz with h0|h0
    .subst h0;simp at hq
    .exact h0
   have h1:q/sz<n:=(cD hz).2 hq;have h2:=bH q hz;have h3:q/sz*sz+q%sz=q:=by rw[bG];exact cI q sz
   have h4:=(ke _ _ h1 h2).1;have h5:=Mt (f:=f) h1 h2;rw[h3]at h4 h5;rw[du,a6 hq,h5];simpa using h4
  .rw [du,aZ hq,cj (by rw[vQ];omega)]
def Ye(P:Program)(w:World)(t ty e:TypeId)(i:TypeInfo)(z:Value)(sz:Nat)(ht:P.underlying t=some (.slice e))(hi:P.info? e=some i)(hz:i.zero=some z)
 (tH:i.size=sz) (U4:z.cells.size=sz) (kY:0<sz) (jy:1<=i.bytes) (an7:∀ u,u ∈ z.cells->u.oneCell'=true)
 (v:Value) (n:Nat) (f:Nat->Nat->Value) (nl:Bool) (lM:nE w v e n sz f nl)
 (A:Option Addr) (m c:Nat) (g:Nat->Nat->Value) (hA:∀ k j,k<m->j<sz->∃ b o,A=some ⟨b,o,none⟩/\w.cell? ⟨b,o+(k*sz+j),none⟩=some (g k j)) (uR:A=none->m=0)
 (h1:∀ k j,k<m->j<sz->(g k j).oneCell'=true/\(nl=true->pQ (g k j)=false)) (U3:nl=true->∀ u,u ∈ z.cells->pQ u=false)
 (Jq:(n+m)*i.bytes<=140737488355328):
 ∃ v' w',(Builtin.append_ #[t,t] ty #[v,.slice A m c]).run P w = .ok v' w'/\Li w v e n sz m f g nl v' w':=by
 have hle:n+m<=(n+m)*i.bytes:=gw _ jy;have MC:n+m<=maxLen:=by unfold maxLen;omega
 have xT:∀ i j,i<n+m->j<sz->(oM n sz f++oM m sz g)[i*sz+j]? = some (if i<n then f i j else g (i-n) j):=by
  intro i j hi hj;by_cases lG:i<n
  .rw [a6 lG,dN,Mt lG hj];rw[vQ];have:=bL sz (show i+1<=n from lG);rw[bX,bZ]at this;omega
  .rw [aZ lG,fW,vQ]
   .have:i*sz+j-n*sz=(i-n)*sz+j:=by
     have:=Nat.sub_mul i n sz;have:=bL sz (aC:n<=i);omega
    rw[this,Mt aC hj]
   .rw [vQ];have:=bL sz (aC:n<=i);omega
 have Ct:∀ i j,i<n+m->j<sz->(if i<n then f i j else g (i-n) j).oneCell'=true:=by
  intro i j hi hj;split
  .rename_i lG;rcases lM with⟨_,h0⟩|⟨b,c,cur,_,_,_,_,_,hc,_⟩
   .omega
   .exact (hc i j lG hj).2
  .rename_i lG;exact(h1 (i-n) j aC hj).1
 have h1':∀ u ∈ oM m sz g,u.oneCell'=true:=by
  intro u hu;obtain⟨q,hq⟩:=dk.1 hu;obtain⟨q1,q2,rfl,_⟩:=I8 hq;exact(h1 _ _ q1 q2).1
 have gnl:nl=true->∀ u,u ∈ oM m sz g->pQ u=false:=by
  intro hn u hu;obtain⟨q,hq⟩:=dk.1 hu;obtain⟨q1,q2,rfl,_⟩:=I8 hq;exact(h1 _ _ q1 q2).2 hn
 rcases A with _|ad
 .have hm:=uR rfl;subst hm;rcases lM with⟨rfl,rfl⟩|⟨b,cc,cur,rfl,hg,oG,nI,mJ,ke,jG⟩
  .refine ⟨.slice none 0 0,w,?_,.inl ⟨rfl,rfl⟩,λx hx=>.inl hx,bg _,λ_ _ _=>rfl,rfl,rfl,rfl⟩;simp[Builtin.append_,run_underlying ht,sizeOf,typeInfo,hi,Builtin.lenOf,Builtin.firstCells,loadCells,loadCellsFrom]
  .refine ⟨.slice (some ⟨b,0,none⟩) n cc,w,?_,.inr ⟨b,cc,cur,rfl,hg,oG,nI,mJ,?_,jG⟩,λx hx=>.inl hx,bg _,λ_ _ _=>rfl,rfl,rfl,rfl⟩
   .simp [Builtin.append_,run_underlying ht,sizeOf,typeInfo,hi,Builtin.lenOf,Builtin.firstCells,oG,storeCells]
   .intro i j hi hj;have lG:i<n:= aC ;simp only[lG,bB];exact ke i j lG hj
 .have Nn:∀ j u,(oM m sz g)[j]? = some u->w.cell? (ad.add j)=some u:=by
   intro q u hq;obtain⟨q1,q2,rfl,q4⟩:=I8 hq;obtain⟨b,o,e,hc⟩:=hA _ _ q1 q2;cases e;rw[q4]at hc;rw[show(⟨b,o,none⟩:Addr).add q=⟨b,o+q,none⟩from Addr.add_lit _ _ _];exact hc
  rcases lM with⟨rfl,rfl⟩|⟨b,cc,cur,rfl,hg,oG,nI,mJ,ke,jG⟩
  .by_cases hm:m=0
   .subst hm;refine⟨.slice none 0 0,w,?_,.inl ⟨rfl,rfl⟩,λx hx=>.inl hx,bg _,λ_ _ _=>rfl,rfl,rfl,rfl⟩;simp[Builtin.append_,run_underlying ht,sizeOf,typeInfo,hi,Builtin.lenOf,Builtin.firstCells,loadCells,loadCellsFrom]
   .have hr:=run_append_nil (P:=P) w t ty e i z ht hi hz ad m c (oM m sz g) (by rw[vQ,tH]) Nn aC (by unfold maxLen at MC;omega) (by have hb:=Jq;simp only[b5]at hb;omega);have sO:=grownCap_ge w m 0 e;have nI:grownCap w m 0 e<=maxLen:=grownCap_le_maxLen w m 0 e aC;refine⟨_,_,hr,.inr ⟨w.heap.size,_,_,aH,heap_alloc_new w.drew _,aC,nI,?_,?_,?_⟩,λx hx=>.inr ?_,aH,λx hx _=>Below.heap_alloc w.drew _ x hx,rfl,rfl,rfl⟩
    .simp only[gy,eJ,size_zeroCells,U4,vQ,<-bX];congr 1;omega
    .intro i j hi hj;have:=xT i j hi hj;refine⟨?_,Ct i j hi hj⟩;simp only[oM,cJ,List.range_zero,List.map_nil,List.nil_append]at this;rw[<-this,aoI]
     .simp [oM]
     .obtain ⟨q,_⟩:=b7.1 this;simpa[oM]using q
    .intro hn u hu;rcases eK.1 hu with hu|hu
     .exact gnl hn u (by simpa using hu)
     .simp only[Builtin.zeroCells,fo,fp]at hu;obtain⟨q,hq,rfl⟩:=hu;have iB:q%z.cells.size<z.cells.size:=bH _ aC;rw[fu z.cells _ iB];exact U3 hn _ (gz iB)
    .simp [Value.ownBlock]at hx;subst hx;simp
  .by_cases Ns:n+m<=cc
   .have Bc:(oM m sz g).length=m*i.size:=by rw[vQ,tH]
    have rH:n*i.size+(oM m sz g).length<=cur.size:=by rw[Bc,mJ,tH,<-bX];exact bL _ Ns
    have hr:=run_append_room (P:=P) w t ty e i ht hi b n cc cur hg ad m c (oM m sz g) Bc Nn h1' Ns rH;have Gl:cur.toList.take (n*i.size)=oM n sz f:=by
     have Nt:w.ownsRow 0 e sz (.slice (some ⟨b,0,none⟩) n cc) n (oM n sz f):=nE.row (nl:=nl) (.inr ⟨b,cc,cur,rfl,hg,oG,nI,mJ,ke,jG⟩);rcases Nt.2 with⟨hh,_⟩|⟨b',c',cur',hh,_,Ue,_,_,_,JO⟩
     .cases hh
     .cases hh;rw[hg]at Ue;cases Ue;rw[tH];exact JO
    refine⟨_,_,hr,.inr ⟨b,cc,_,rfl,setRow_heap w b cur _ e _ hg,Ns,nI,?_,?_,?_⟩,λx hx=>.inl hx,aH,λx hx jl=>setRow_other w b x _ (λq=>jl (by simp[Value.ownBlock,q])),rfl,rfl,rfl⟩
    .simp only[eJ,cg,b9,er,dw];omega
    .intro k j hk hj;refine⟨?_,Ct k j hk hj⟩;rw[Gl,<-xT k j hk hj];have hq:k*sz+j<(oM n sz f++oM m sz g).length:=by
      obtain⟨q,_⟩:=b7.1 (xT k j hk hj);exact q
     rw[gE,dN hq]
    .intro hn u hu;simp only[gF,dr]at hu;rcases hu with(hu|hu)|hu
     .exact jG hn u (by have:=dK hu;simpa using this)
     .exact gnl hn u hu
     .exact jG hn u (by have:=dX hu;simpa using this)
   .have Nt:w.ownsRow 0 e sz (.slice (some ⟨b,0,none⟩) n cc) n (oM n sz f):=nE.row (nl:=nl) (.inr ⟨b,cc,cur,rfl,hg,oG,nI,mJ,ke,jG⟩);have holds:∀ j u,(oM n sz f)[j]? = some u->w.cell? ((⟨b,0,none⟩:Addr).add j)=some u:=Nt.cells (g:=b) rfl;have hr:=run_append_grow (P:=P) w t ty e i z ht hi hz ⟨b,0,none⟩ n cc (oM n sz f) (by rw[vQ,tH]) holds ad m c (oM m sz g) (by rw[vQ,tH]) Nn aC (by unfold maxLen at MC;omega) (growslice_fits aC Jq);have sO:=grownCap_ge w (n+m) cc e;have afS:grownCap w (n+m) cc e<=maxLen:=grownCap_le_maxLen w (n+m) cc e MC;refine⟨_,_,hr,.inr ⟨w.heap.size,_,_,aH,heap_alloc_new w.drew _,aC,afS,?_,?_,?_⟩,λx hx=>.inr ?_,aH,λx hx _=>Below.heap_alloc w.drew _ x hx,rfl,rfl,rfl⟩
    .simp only[gy,eJ,size_zeroCells,U4,vQ,<-bX];congr 1;omega
    .intro k j hk hj;refine⟨?_,Ct k j hk hj⟩;rw[<-xT k j hk hj];have hq:k*sz+j<(oM n sz f++oM m sz g).length:=by
      obtain⟨q,_⟩:=b7.1 (xT k j hk hj);exact q
     rw[aoI (by simpa using hq)];simp
    .intro hn u hu;rcases eK.1 hu with hu|hu
     .rcases eK.1 hu with hu|hu
      .obtain ⟨q,hq⟩:=dk.1 (show u ∈ oM n sz f by simpa using hu);obtain⟨q1,q2,rfl,_⟩:=I8 hq;exact jG hn _ (dG (ke _ _ q1 q2).1)
      .exact gnl hn u (by simpa using hu)
     .simp only[Builtin.zeroCells,fo,fp]at hu;obtain⟨q,hq,rfl⟩:=hu;have iB:q%z.cells.size<z.cells.size:=bH _ aC;rw[fu z.cells _ iB];exact U3 hn _ (gz iB)
    .simp [Value.ownBlock]at hx;subst hx;simp
def ZQ{id:Nat}{b:Bx}{p:PV}(h:p.kV.any (Nat.beq id)=false):p.kW (.pE id b)=p:=by
 cases p with
 |own i=>
  have:Nat.beq i id=false:=by
   simp only[PV.kV,dH,eN,et]at h;exact cM λe=>by rw[e,ch]at h;cases h
  simp[PV.kW,this]
 |nm i s x j=>
  have:Nat.beq i id=false:=by
   simp only[PV.kV,dH,eN,et]at h;exact cM λe=>by rw[e,ch]at h;cases h
  simp[PV.kW,this]
 |pC f cap=>
  have:cap.any (CV.Gu id)=false:=by
   rw[cK];intro c hc hr;cases c with
   |row i=>
    have hi:i=id:=kO.1 hr;have:=cK.1 h i (by simp only[PV.kV,dj];exact⟨.row i,hc,by simp[CV.kV]⟩);rw[hi,ch]at this;exact this rfl
   |_=>cases hr
  simp[PV.kW,this]
 |_=>rfl
def iZ.fin{w0:World}{B:Nat->Prop}{σ:PS}{a:Act}{w:World}{L:Lk}{id:Nat}{nl:Bool}{T n sz:Nat}{el:Nat->Nat->E}(hB:∀ b,B b->b<w0.heap.size)
 (r:iZ w0 B (σ.oe (.pE id (.row nl T n sz el))) a w L):∃ L',iZ w0 B (σ.oe (.fin id)) a w L'/\iC (iS B L') (jm L') w (.sl nl n sz el) (L.val id):=by
 let L':Lk:=⟨λi=>L.me i/\i≠id,λi x=>L.own i x/\i≠id,L.val,L.iH⟩
 have iB:rz L w L' w:=⟨bg _,λx _ ⟨i,h,_⟩=>⟨i,h⟩,λ_ _ _=>rfl⟩
 have rG:∀ i,(σ.oe (.fin id)).bo i=if i=id then none else(σ.bo i).map (Bx.qS (PV.kW (.fin id))):=by
  intro i;show look ((σ.pre (.fin id)).filter λx=>!Nat.beq x.1 id) i=_;rw[CQ,PS.AG];by_cases h:i=id
  .subst h;simp
  .rw [aZ h,aZ (λe=>h e.symm)]
 have MY:∀ i,i≠id->(σ.oe (.pE id (.row nl T n sz el))).bo i=(σ.bo i).map (Bx.qS (PV.kW (.pE id (.row nl T n sz el)))):=by
  intro i h;show look (tU (σ.pre (.pE id (.row nl T n sz el))) id (.row nl T n sz el)) i=_;rw[CR,PS.AG,aZ (λe=>h e.symm)]
 have afP:(σ.oe (.pE id (.row nl T n sz el))).bo id=some (.row nl T n sz el):=by
  show look (tU (σ.pre (.pE id (.row nl T n sz el))) id (.row nl T n sz el)) id=_;rw[CR,a6 rfl]
 have A8:∀ x,L.own id x->¬iS B L' x:=by
  rintro x hx (h|⟨i,h1,h2⟩)
  .have:=hB x h;have:=(r.hw id x hx).1;omega
  .exact h2 (r.hi i id x h1 hx)
 have hold:iC (iS B L') (jm L') w (.sl nl n sz el) (L.val id):=by
  obtain⟨f,h1,h2,h3⟩:=r.hb id _ afP;rcases h1 with⟨h0,rfl⟩|⟨b,c,cur,h0,hg,oG,nI,mJ,ke,jG⟩
  .rw [h0];exact .sl nl 0 sz el none 0 f (bg _) aE (λ_=>rfl) (λi j hi=>absurd hi (bj i)) (λi j hi=>absurd hi (bj i)) (λi j hi=>absurd hi (bj i)) (λi j hi=>absurd hi (bj i))
  .have sQ:=(h2 b).2 (by rw[h0];rfl);rw[h0];refine .sl nl n sz el _ c f oG (by unfold maxLen at nI;omega) (λh=>by cases h) (λi j hi hj=>⟨(ke i j hi hj).2,λhn=>jG hn _ (dG (ke i j hi hj).1)⟩) (λi j hi hj=>(h3 i j hi hj).2)
    (λi j hi hj=>⟨b,0,rfl,A8 b sQ,(r.hw id b sQ).2,?_⟩) (λi j hi hj=>iB.kH (h3 i j hi hj).1)
   rw[b5];simp only[World.cell?,hg];simpa using(ke i j hi hj).1
 have hT:∀ (p:PV) (v:Value),kQ (iS B L) (jm L) L w (p.kW (.pE id (.row nl T n sz el))) v->kQ (iS B L') (jm L') L' w (p.kW (.fin id)) v:=by
  intro p v k;show kQ _ _ _ _ (if p.kV.any (Nat.beq id)then .e .any else p) _;cases hp:p.kV.any (Nat.beq id)with
  |true=>exact .any _
  |false=>
   rw[ZQ hp]at k;refine kQ.move iB k λi hi pH=>⟨⟨pH,?_⟩,rfl,λ_=>rfl⟩
   rintro rfl;have:=cK.1 hp i hi;simp at this
 refine⟨L',⟨r.hd,r.hs,λt=>?_,λi b' h=>?_,λi=>?_,λi x h=>⟨r.hn i x h.1,h.2⟩,λi x h=>r.hw i x h.1,λi i' x h k=>r.hi i i' x h.1 k.1,r.he,λh i b' k=>?_⟩,hold⟩
 .have k:=r.ht t;rw[PS.Ce]at k ⊢;exact hT _ _ k
 .rw [rG]at h;split at h
  .cases h
  .rename_i hi;obtain⟨b0,lV,rfl⟩:=bT.1 h;exact nx.map iB (r.hb i _ (by rw[MY i hi,lV];rfl)) rfl (λx=>⟨λq=>q.1,λq=>⟨q,hi⟩⟩) (λ_=>rfl) (λ_ _=>rfl) λp v _ k=>hT p v k
 .rw [rG];show L.me i/\i≠id↔_;by_cases hi:i=id
  .subst hi;simp
  .simp only[hi,cU,eu,fw,bn];rw[r.hv i,MY i hi,eI,eI]
 .rw [rG]at k;split at k
  .cases k
  .rename_i hi;obtain⟨b0,lV,rfl⟩:=bT.1 k;have:=r.hl h i _ (by rw[MY i hi,lV];rfl);rw[CU]at this ⊢;exact this
def P4{id q:Nat}{b:Bx}{p:PV}(h:p.kV.any (λx=>Nat.beq id x||Nat.beq q x)=false):p.kW (.oH id q b)=p:=by
 cases p with
 |box i off=>
  simp only[PV.kV,dH,eN,et,eO]at h;have h1:Nat.beq i id=false:=cM λe=>by rw[e,ch]at h;cases h.1
  have h2:Nat.beq i q=false:=cM λe=>by rw[e,ch]at h;cases h.2
  simp[PV.kW,h1,h2]
 |e x=>simp[PV.kW,PV.kV]
 |own i=>show(if(PV.kV (.own i)).any _=true then _ else _)=_;rw[h];rfl
 |nm i a b c=>show(if(PV.kV (.nm i a b c)).any _=true then _ else _)=_;rw[h];rfl
 |iH i k=>show(if(PV.kV (.iH i k)).any _=true then _ else _)=_;rw[h];rfl
 |qQ i s k x j=>show(if(PV.kV (.qQ i s k x j)).any _=true then _ else _)=_;rw[h];rfl
 |pC f cap=>show(if(PV.kV (.pC f cap)).any _=true then _ else _)=_;rw[h];rfl
def ZR{id q:Nat}{b:Bx}{p:PV}(h:p.kV.any (λx=>Nat.beq id x||Nat.beq q x)=true)(hb:∀ i off,p ≠ .box i off):p.kW (.oH id q b) = .e .any:=by
 cases p with
 |box i off=>exact absurd rfl (hb i off)
 |e x=>simp[PV.kV]at h
 |own i=>show(if(PV.kV (.own i)).any _=true then _ else _)=_;rw[h];rfl
 |nm i a b c=>show(if(PV.kV (.nm i a b c)).any _=true then _ else _)=_;rw[h];rfl
 |iH i k=>show(if(PV.kV (.iH i k)).any _=true then _ else _)=_;rw[h];rfl
 |qQ i s k x j=>show(if(PV.kV (.qQ i s k x j)).any _=true then _ else _)=_;rw[h];rfl
 |pC f cap=>show(if(PV.kV (.pC f cap)).any _=true then _ else _)=_;rw[h];rfl
def iZ.oH{w0:World}{B:Nat->Prop}{σ:PS}{a:Act}{w:World}{L:Lk}(r:iZ w0 B σ a w L){id q T1 T0 n sz:Nat}{nl:Bool}{el:Nat->Nat->E}{x:E}
 (hid:σ.bo id=some (.cells T1 [x])) (hq:σ.bo q=some (.row nl T0 n sz el)) (jl:id≠q) {b:Nat} (hv:L.val id = .pointer (some ⟨b,0,none⟩)) {w':World} (hw:w'.heap[b]? = some (.cells #[L.val q] T1 (0,0)))
 (ht:qY L w id (L.own id) w'):∃ L',iZ w0 B (σ.oe (.oH id q (.jH nl T1 T0 1 sz (λ_=>n) (λ_=>el) none))) a w' L':=by
 let L':Lk:=⟨λi=>L.me i/\i≠q,λi y=>if i=id then L.own id y\/L.own q y else L.own i y/\i≠q,λi=>if i=id then .slice (some ⟨b,0,none⟩) 1 1 else L.val i,λi j=>if i=id then L.val q else L.iH i j⟩
 have af4:∀ y,jm L' y->jm L y:=by
  rintro y ⟨i,hi⟩;by_cases e:i=id
  .have hi:L.own id y\/L.own q y:=by simpa[L',e]using hi
   rcases hi with h|h
   .exact ⟨id,h⟩
   .exact ⟨q,h⟩
  .have hi:L.own i y/\i≠q:=by simpa[L',e]using hi
   exact⟨i,hi.1⟩
 have an1:∀ y,jm L y->jm L' y:=by
  rintro y ⟨i,hi⟩;by_cases e:i=id\/i=q
  .refine ⟨id,?_⟩;show if id=id then L.own id y\/L.own q y else _
   rw[a6 rfl];rcases e with e|e<;>subst e
   .exact .inl hi
   .exact .inr hi
  .have e1:i≠id:=λh=>e (.inl h)
   have e2:i≠q:=λh=>e (.inr h)
   refine⟨i,?_⟩;show if i=id then _ else L.own i y/\i≠q
   rw[aZ e1];exact⟨hi,e2⟩
 have iB:rz L w L' w':=⟨ht.size,λy _ h=>af4 y h,λy hy hm=>ht.pj y hy λho=>hm ⟨id,ho⟩⟩
 have lq:∀ i,i≠id->L'.val i=L.val i:=λi e=>by show(if i=id then _ else _)=_;rw[aZ e]
 have Be:∀ i,i≠id->∀ j,L'.iH i j=L.iH i j:=λi e j=>by show(if i=id then _ else _)=_;rw[aZ e]
 have lM:∀ i,i≠id->∀ y,L'.own i y↔L.own i y/\i≠q:=λi e y=>by show(if i=id then _ else _)↔_;rw[aZ e]
 have zw:∀ y,L'.own id y↔L.own id y\/L.own q y:=λy=>by show(if id=id then _ else _)↔_;rw[a6 rfl]
 obtain⟨b0,vs,i1,i2,i3,i4,i5⟩:=r.hb id _ hid;rw[hv]at i1;cases i1;obtain⟨f,q1,q2,q3⟩:=r.hb q _ hq;have pH:L.me id:=(r.hv id).2 (by rw[hid];rfl);have JH:∀ i y,i≠id->L.own i y->w'.heap[y]? = w.heap[y]?:=λi y e hy=>ht.pj y (r.hw i y hy).2 λho=>e (r.hi i id y hy ho)
 have jg:∀ i,(σ.oe (.oH id q (.jH nl T1 T0 1 sz (λ_=>n) (λ_=>el) none))).bo i=if id=i then some (.jH nl T1 T0 1 sz (λ_=>n) (λ_=>el) none)else if i=q then none else(σ.bo i).map (Bx.qS (PV.kW (.oH id q (.jH nl T1 T0 1 sz (λ_=>n) (λ_=>el) none)))):=by
  intro i;show look (tU ((σ.pre (.oH id q (.jH nl T1 T0 1 sz (λ_=>n) (λ_=>el) none))).filter λy=>!Nat.beq y.1 q) id _) i=_;rw[CR];by_cases e:id=i
  .rw [a6 e,a6 e]
  .rw [aZ e,aZ e,CQ,PS.AG];by_cases e2:q=i
   .rw [a6 e2,a6 e2.symm]
   .rw [aZ e2,aZ λh=>e2 h.symm]
 have oF:Below w0.heap.size w w':=⟨ht.os,ht.tape,ht.output,ht.size,λy hy=>ht.pj y (bQ hy r.he.size) λho=>by have:=(r.hw id y ho).1;omega⟩
 have ke:(L.val q).oneCell'=true/\pQ (L.val q)=false:=by
  rcases q1 with⟨h,_⟩|⟨b1,c1,cur,h,_⟩<;>rw[h]<;>exact⟨rfl,rfl⟩
 have hT:∀ (p:PV) (v:Value),kQ (iS B L) (jm L) L w p v->kQ (iS B L') (jm L') L' w' (p.kW (.oH id q (.jH nl T1 T0 1 sz (λ_=>n) (λ_=>el) none))) v:=by
  intro p v k;cases hp:p.kV.any (λy=>Nat.beq id y||Nat.beq q y)with
  |false=>
   rw[P4 hp];refine k.move iB λi hi hl=>?_
   have:=cK.1 hp i hi;simp only[ev,not_or]at this;have e1:i≠id:=λe=>this.1 (by rw[e];exact ch _)
   have e2:i≠q:=λe=>this.2 (by rw[e];exact ch _)
   exact⟨⟨hl,e2⟩,lq i e1,Be i e1⟩
  |true=>
   by_cases ji:∃ i off,p = .box i off
   .obtain ⟨i,off,rfl⟩:=ji;obtain⟨k1,b1,k2,k3⟩:=k;by_cases e1:i=id
    .subst e1;by_cases e0:off=0
     .subst e0;simp only[PV.kW,ch,bB];rw[hv]at k2;cases k2;exact⟨⟨k1,jl⟩,b,1,1,by show(if i=i then _ else _)=_;rw[a6 rfl],k3⟩
     .simp only[PV.kW,ch,bB,cM e0,bE,bn];exact .any _
    .have e2:i=q:=by
      simp only[PV.kV,dH,eN,et,ev]at hp;rcases hp with hp|hp
      .exact absurd (kO.1 hp).symm e1
      .exact (kO.1 hp).symm
     simp only[PV.kW,cM e1,bE,bn,e2,ch,bB];have e3:Nat.beq q id=false:=cM λh=>jl h.symm
     simp only[e3,bE,bn];exact .any _
   .rw [ZR hp λi off h=>ji ⟨i,off,h⟩];exact .any _
 refine⟨L',r.hd,r.hs,λt=>?_,λi b' hb=>?_,λi=>?_,λi y hy=>?_,λi y hy=>?_,λi j y hi hj=>?_,r.he.trans oF,λxV i b' hb=>?_⟩
 .rw [PS.Ce];exact hT _ _ (r.ht t)
 .rw [jg]at hb;by_cases e:id=i
  .subst e;rw[a6 rfl]at hb;cases hb;have F8:∀ j,L'.iH id j=L.val q:=λj=>by show(if id=id then _ else _)=_;rw[a6 rfl]
   refine .inr ⟨b,1,#[L.val q],λ_=>f,by show(if id=id then _ else _)=_;rw[a6 rfl],hw,bg _,aE,rfl,λk hk _=>?_,λu hu=>?_,λk hk=>?_,λy=>?_,λk k' y hk Cl _ _=> aC,λk hk=>?_⟩
   .obtain rfl:k=0:= aC ;rw[F8];rfl
   .have:u=L.val q:=by simpa using hu
    rw[this];exact ke.2
   .rw [F8];exact⟨q1.block λy hy=>JH q y (λh=>jl h.symm) ((q2 y).2 hy),λi j hi hj=>⟨iB.kH (q3 i j hi hj).1,(q3 i j hi hj).2⟩⟩
   .rw [zw];constructor
    .rintro (h|h)
     .exact .inl ((i2 y).1 h)
     .exact .inr ⟨0,aE,by rw[F8];exact(q2 y).1 h⟩
    .rintro (h|⟨k,_,h⟩)
     .exact .inl ((i2 y).2 h)
     .rw [F8]at h;exact .inr ((q2 y).2 h)
   .rw [F8];intro h;exact jl (r.hi id q b ((i2 b).2 rfl) ((q2 b).2 h))
  .rw [aZ e]at hb;by_cases e2:i=q
   .rw [a6 e2]at hb;cases hb
   .rw [aZ e2]at hb;have e':i≠id:=λh=>e h.symm
    obtain⟨b0',lV,rfl⟩:=bT.1 hb;exact nx.map (g:=λp=>p) iB (by rw[CT];exact r.hb i b0' lV) (lq i e') (λy=>(lM i e' y).trans ⟨λh=>h.1,λh=>⟨h,e2⟩⟩) (Be i e') (λy hy=>JH i y e' hy) λp v _ k=>hT p v k
 .rw [jg];show L.me i/\i≠q↔_;by_cases e:id=i
  .subst e;rw[a6 rfl];exact⟨λ_=>rfl,λ_=>⟨pH,jl⟩⟩
  .rw [aZ e];by_cases e2:i=q
   .subst e2;simp
   .rw [aZ e2];rw[eI];exact⟨λh=>(r.hv i).1 h.1,λh=>⟨(r.hv i).2 h,e2⟩⟩
 .by_cases e:i=id
  .subst e;exact⟨pH,jl⟩
  .have:=(lM i e y).1 hy;exact⟨r.hn i y this.1,this.2⟩
 .by_cases e:i=id
  .subst e;rcases(zw y).1 hy with h|h
   .exact ⟨(r.hw _ y h).1,bQ (r.hw _ y h).2 ht.size⟩
   .exact ⟨(r.hw _ y h).1,bQ (r.hw _ y h).2 ht.size⟩
  .have h:=((lM i e y).1 hy).1;exact⟨(r.hw _ y h).1,bQ (r.hw _ y h).2 ht.size⟩
 .by_cases e1:i=id
  .by_cases e2:j=id
   .rw [e1,e2]
   .exfalso;subst e1;have h2:=(lM j e2 y).1 hj;rcases(zw y).1 hi with h|h
    .exact e2 (r.hi j _ y h2.1 h)
    .exact h2.2 (r.hi j q y h2.1 h)
  .by_cases e2:j=id
   .exfalso;subst e2;have h1:=(lM i e1 y).1 hi;rcases(zw y).1 hj with h|h
    .exact e1 (r.hi i _ y h1.1 h)
    .exact h1.2 (r.hi i q y h1.1 h)
   .exact r.hi i j y ((lM i e1 y).1 hi).1 ((lM j e2 y).1 hj).1
 .rw [jg]at hb;by_cases e:id=i
  .rw [a6 e]at hb;cases hb;show nl=true;exact r.hl xV q (.row nl T0 n sz el) hq
  .rw [aZ e]at hb;by_cases e2:i=q
   .rw [a6 e2]at hb;cases hb
   .rw [aZ e2]at hb;obtain⟨b0',lV,rfl⟩:=bT.1 hb;rw[CU];exact r.hl xV i b0' lV
def Lk.qo(L:Lk)(id q:Nat)(O:Nat->Prop)(v:Value)(iH:Nat->Value):Lk:=
 {me:=λi=>(i=id\/L.me i)/\i≠q
  own:=λi x=>if i=id then O x else L.own i x/\i≠q
  val:=λi=>if i=id then v else L.val i
  iH:=λi j=>if i=id then iH j else L.iH i j }
def iZ.qo{w0:World}{B:Nat->Prop}{σ:PS}{a:Act}{w:World}{L:Lk}(r:iZ w0 B σ a w L){id q:Nat}(jl:id≠q)(b':Bx)(O:Nat->Prop)(v:Value)(iH:Nat->Value)(w':World)
 (hO:∀ x,O x->(L.own id x\/L.own q x\/w.heap.size<=x)/\x<w'.heap.size) (kY:w.heap.size<=w'.heap.size) (w8:∀ x,x<w.heap.size->¬L.own id x->w'.heap[x]? = w.heap[x]?)
 (xd:w'.os=w.os) (Nw:w'.tape=w.tape) (qa:w'.output=w.output)
 (hB:rz L w (L.qo id q O v iH) w'->nx (iS B (L.qo id q O v iH)) (jm (L.qo id q O v iH)) (L.qo id q O v iH) w' id b')
 (kp:L.me id->∀ b,L.val id ≠ .pointer (some b)) (jG:σ.nl=true->b'.nl=true):iZ w0 B (σ.oe (.oH id q b')) a w' (L.qo id q O v iH):=by
 have lq:∀ i,i≠id->(L.qo id q O v iH).val i=L.val i:=λi e=>by show(if i=id then _ else _)=_;rw[aZ e]
 have Be:∀ i,i≠id->∀ j,(L.qo id q O v iH).iH i j=L.iH i j:=λi e j=>by show(if i=id then _ else _)=_;rw[aZ e]
 have lM:∀ i,i≠id->∀ y,(L.qo id q O v iH).own i y↔L.own i y/\i≠q:=λi e y=>by show(if i=id then _ else _)↔_;rw[aZ e]
 have zw:∀ y,(L.qo id q O v iH).own id y↔O y:=λy=>by show(if id=id then _ else _)↔_;rw[a6 rfl]
 have iB:rz L w (L.qo id q O v iH) w':=by
  refine⟨kY,λy hy h=>?_,λy hy hm=>w8 y hy λho=>hm ⟨id,ho⟩⟩;obtain⟨i,hi⟩:=h;by_cases e:i=id
  .subst e;rcases(hO y ((zw y).1 hi)).1 with h|h|h
   .exact ⟨i,h⟩
   .exact ⟨q,h⟩
   .omega
  .exact ⟨i,((lM i e y).1 hi).1⟩
 have jg:∀ i,(σ.oe (.oH id q b')).bo i=if id=i then some b' else if i=q then none else(σ.bo i).map (Bx.qS (PV.kW (.oH id q b'))):=by
  intro i;show look (tU ((σ.pre (.oH id q b')).filter λy=>!Nat.beq y.1 q) id _) i=_;rw[CR];by_cases e:id=i
  .rw [a6 e,a6 e]
  .rw [aZ e,aZ e,CQ,PS.AG];by_cases e2:q=i
   .rw [a6 e2,a6 e2.symm]
   .rw [aZ e2,aZ λh=>e2 h.symm]
 have oF:Below w0.heap.size w w':=⟨xd,Nw,qa,kY,λy hy=>w8 y (bQ hy r.he.size) λho=>by have:=(r.hw id y ho).1;omega⟩
 have JH:∀ i y,i≠id->L.own i y->w'.heap[y]? = w.heap[y]?:=λi y e hy=>w8 y (r.hw i y hy).2 λho=>e (r.hi i id y hy ho)
 have hwl:∀ i y,L.own i y->w0.heap.size<=y/\y<w'.heap.size:=λi y h=>⟨(r.hw i y h).1,bQ (r.hw i y h).2 kY⟩
 have hT:∀ (p:PV) (v0:Value),kQ (iS B L) (jm L) L w p v0->kQ (iS B (L.qo id q O v iH)) (jm (L.qo id q O v iH)) (L.qo id q O v iH) w' (p.kW (.oH id q b')) v0:=by
  intro p v0 k;cases hp:p.kV.any (λy=>Nat.beq id y||Nat.beq q y)with
  |false=>
   rw[P4 hp];refine k.move iB λi hi hl=>?_
   have:=cK.1 hp i hi;simp only[ev,not_or]at this;have e1:i≠id:=λe=>this.1 (by rw[e];exact ch _)
   have e2:i≠q:=λe=>this.2 (by rw[e];exact ch _)
   exact⟨⟨.inr hl,e2⟩,lq i e1,Be i e1⟩
  |true=>
   by_cases ji:∃ i off,p = .box i off
   .obtain ⟨i,off,rfl⟩:=ji;obtain⟨k1,b1,k2,k3⟩:=k;by_cases e1:i=id
    .subst e1;exact absurd k2 (kp k1 _)
    .have e2:i=q:=by
      simp only[PV.kV,dH,eN,et,ev]at hp;rcases hp with hp|hp
      .exact absurd (kO.1 hp).symm e1
      .exact (kO.1 hp).symm
     have e3:Nat.beq q id=false:=cM λh=>jl h.symm
     simp only[PV.kW,e2,e3,ch,bB,bE,bn];exact .any _
   .rw [ZR hp λi off h=>ji ⟨i,off,h⟩];exact .any _
 refine⟨r.hd,r.hs,λt=>?_,λi b hb=>?_,λi=>?_,λi y hy=>?_,λi y hy=>?_,λi j y hi hj=>?_,r.he.trans oF,λxV i b hb=>?_⟩
 .rw [PS.Ce];exact hT _ _ (r.ht t)
 .rw [jg]at hb;by_cases e:id=i
  .subst e;rw[a6 rfl]at hb;cases hb;exact hB iB
  .rw [aZ e]at hb;by_cases e2:i=q
   .rw [a6 e2]at hb;cases hb
   .rw [aZ e2]at hb;have e':i≠id:=λh=>e h.symm
    obtain⟨b0',lV,rfl⟩:=bT.1 hb;exact nx.map (g:=λp=>p) iB (by rw[CT];exact r.hb i b0' lV) (lq i e') (λy=>(lM i e' y).trans ⟨λh=>h.1,λh=>⟨h,e2⟩⟩) (Be i e') (λy hy=>JH i y e' hy) λp v _ k=>hT p v k
 .rw [jg];show(i=id\/L.me i)/\i≠q↔_;by_cases e:id=i
  .subst e;rw[a6 rfl];exact⟨λ_=>rfl,λ_=>⟨.inl rfl,jl⟩⟩
  .rw [aZ e];have e':i≠id:=λh=>e h.symm
   by_cases e2:i=q
   .subst e2;simp
   .rw [aZ e2];rw[eI];exact⟨λh=>(r.hv i).1 (h.1.resolve_left e'),λh=>⟨.inr ((r.hv i).2 h),e2⟩⟩
 .by_cases e:i=id
  .subst e;exact⟨.inl rfl,jl⟩
  .have:=(lM i e y).1 hy;exact⟨.inr (r.hn i y this.1),this.2⟩
 .by_cases e:i=id
  .subst e;obtain⟨h,h2⟩:=hO y ((zw y).1 hy);rcases h with h|h|h
   .exact ⟨(r.hw _ y h).1,h2⟩
   .exact ⟨(r.hw _ y h).1,h2⟩
   .exact ⟨bk r.he.size h,h2⟩
  .exact hwl i y ((lM i e y).1 hy).1
 .have cross:∀ j,j≠id->L.own j y/\j≠q->O y->False:=by
   intro j e h2 h;rcases(hO y h).1 with h|h|h
   .exact e (r.hi j _ y h2.1 h)
   .exact h2.2 (r.hi j q y h2.1 h)
   .have:=(r.hw j y h2.1).2;omega
  by_cases e1:i=id
  .by_cases e2:j=id
   .rw [e1,e2]
   .subst e1;exact(cross j e2 ((lM j e2 y).1 hj) ((zw y).1 hi)).elim
  .by_cases e2:j=id
   .subst e2;exact(cross i e1 ((lM i e1 y).1 hi) ((zw y).1 hj)).elim
   .exact r.hi i j y ((lM i e1 y).1 hi).1 ((lM j e2 y).1 hj).1
 .rw [jg]at hb;by_cases e:id=i
  .rw [a6 e]at hb;cases hb;exact jG xV
  .rw [aZ e]at hb;by_cases e2:i=q
   .rw [a6 e2]at hb;cases hb
   .rw [aZ e2]at hb;obtain⟨b0',lV,rfl⟩:=bT.1 hb;rw[CU];exact r.hl xV i b0' lV
def Lk.VE{L:Lk}{id q:Nat}{O:Nat->Prop}{v:Value}{iH:Nat->Value}(x:Nat):(L.qo id q O v iH).own id x↔O x:=by simp[Lk.qo]
def Lk.Gw{L:Lk}{id q:Nat}{O:Nat->Prop}{v:Value}{iH:Nat->Value}:(L.qo id q O v iH).val id=v:=by simp[Lk.qo]
def Lk.yb{L:Lk}{id q:Nat}{O:Nat->Prop}{v:Value}{iH:Nat->Value}(k:Nat):(L.qo id q O v iH).iH id k=iH k:=by simp[Lk.qo]
def Lk.NQ{L:Lk}{id q:Nat}(jl:id≠q){O:Nat->Prop}{v:Value}{iH:Nat->Value}:(L.qo id q O v iH).me id:=⟨.inl rfl,jl⟩
def iZ.Sk{w0:World}{B:Nat->Prop}{σ:PS}{a:Act}{w:World}{L:Lk}(r:iZ w0 B σ a w L)(id:Nat):∃ L',iZ w0 B (σ.oe (.fin id)) a w L'/\(∀ i x,L'.own i x->L.own i x)/\(σ.oe (.fin id)).bo id=none:=by
 let L':Lk:=⟨λi=>L.me i/\i≠id,λi x=>L.own i x/\i≠id,L.val,L.iH⟩
 have iB:rz L w L' w:=⟨bg _,λx _ ⟨i,h,_⟩=>⟨i,h⟩,λ_ _ _=>rfl⟩
 have rG:∀ i,(σ.oe (.fin id)).bo i=if i=id then none else(σ.bo i).map (Bx.qS (PV.kW (.fin id))):=by
  intro i;show look ((σ.pre (.fin id)).filter λx=>!Nat.beq x.1 id) i=_;rw[CQ,PS.AG];by_cases h:i=id
  .rw [a6 h,a6 h.symm]
  .rw [aZ h,aZ (λe=>h e.symm)]
 have hT:∀ (p:PV) (v:Value),kQ (iS B L) (jm L) L w p v->kQ (iS B L') (jm L') L' w (p.kW (.fin id)) v:=by
  intro p v k;show kQ _ _ _ _ (if p.kV.any (Nat.beq id)then .e .any else p) _;cases hp:p.kV.any (Nat.beq id)with
  |true=>exact .any _
  |false=>
   refine kQ.move iB k λi hi pH=>⟨⟨pH,?_⟩,rfl,λ_=>rfl⟩
   rintro rfl;have:=cK.1 hp i hi;simp at this
 refine⟨L',⟨r.hd,r.hs,λt=>?_,λi b' h=>?_,λi=>?_,λi x h=>⟨r.hn i x h.1,h.2⟩,λi x h=>r.hw i x h.1,λi i' x h k=>r.hi i i' x h.1 k.1,r.he,λh i b' k=>?_⟩,λi x h=>h.1,by rw[rG,a6 rfl]⟩
 .rw [PS.Ce];exact hT _ _ (r.ht t)
 .rw [rG]at h;split at h
  .cases h
  .rename_i hi;obtain⟨b0',lV,rfl⟩:=bT.1 h;exact nx.map (g:=λp=>p) iB (by rw[CT];exact r.hb i b0' lV) rfl (λx=>⟨λq=>q.1,λq=>⟨q,hi⟩⟩) (λ_=>rfl) (λ_ _=>rfl) λp v _ k=>hT p v k
 .rw [rG];show L.me i/\i≠id↔_;by_cases hi:i=id
  .subst hi;simp
  .simp only[hi,cU,eu,fw,bn,eI];exact r.hv i
 .rw [rG]at k;split at k
  .cases k
  .obtain ⟨b0',lV,rfl⟩:=bT.1 k;rw[CU];exact r.hl h i b0' lV
def Su(σ:PS)(id:Nat)(b:Bx):(σ.oe (.fin id)).oe (.new id b)=σ.oe (.wD id b):=by
 have h:∀ l:List (Nat×Bx),tU (l.filter λx=>!Nat.beq x.1 id) id b=tU l id b:=by
  intro l;unfold tU;rw[List.filter_filter];congr 2;funext x;cases Nat.beq x.1 id<;>rfl
 show PS.mk σ.n σ.nl (σ.t.map _) (tU ((σ.pre (.fin id)).filter λx=>!Nat.beq x.1 id) id b)=PS.mk σ.n σ.nl (σ.t.map _) (tU (σ.pre (.wD id b)) id b);rw[h];rfl
def ZL{T:List TI}{t:TypeId}{x:TI}(h:mO T t=some x):x ∈ T/\x.id=t:=by
 induction T with
 |nil=>cases h
 |cons y l ih=>
  unfold mO at h;split at h
  .rename_i hb;cases h;exact⟨aH,kO.1 hb⟩
  .obtain ⟨h1,h2⟩:=ih h;exact⟨by simp[h1],h2⟩
def mH.rq{P:Program}{T:List TI}(hT:mH P T){t:TypeId}{x:TI}(h:mO T t=some x):P.underlying t=some x.d:=by
 obtain⟨h1,h2⟩:=ZL h;rw[<-h2];exact(hT x h1).1
def mH.zJ{P:Program}{T:List TI}(hT:mH P T){t:TypeId}{x:TI}(h:mO T t=some x):P.info? t=some x.i:=by
 obtain⟨h1,h2⟩:=ZL h;rw[<-h2];exact(hT x h1).2
def AM{T:List TI}{t:TypeId}{d:TypeDesc}(h:wQ T t=some d):∃ x,mO T t=some x/\x.d=d:=by
 unfold wQ at h;split at h
 .rename_i x hx;exact⟨x,hx,by simpa using h⟩
 .cases h
section
variable {P:Program} {T:List TI} (hT:mH P T) (w:World)
include hT
def tR{t:TypeId}{x:TI}(h:mO T t=some x):(sizeOf t).run P w = .ok x.i.size w:=by
 simp[sizeOf,typeInfo,hT.zJ h]
def Pm{t:TypeId}{x:TI}(h:mO T t=some x){z:Value}(hz:x.i.zero=some z):(zeroValue t).run P w = .ok z w:=by
 simp[zeroValue,typeInfo,hT.zJ h,hz]
def KK{t:TypeId}{x:TI}(h:mO T t=some x):(isAgg t).run P w = .ok x.isAgg w:=by
 unfold isAgg TI.isAgg;rw[Sem.run_bind,run_underlying (hT.rq h) w];cases x.d<;>simp
def Yf{t:TypeId}{x:TI}(h:mO T t=some x)(ha:x.isAgg=true)(b o:Nat)(vs:List Value)(hl:vs.length=x.i.size)
 (hc:∀ (j:Nat) (u:Value),vs[j]? = some u->w.cell? ⟨b,o+j,none⟩=some u):(loadVar t ⟨b,o,none⟩).run P w = .ok (.agg vs.toArray) w:=by
 have hr:=run_loadCells_list (P:=P) w ⟨b,o,none⟩ vs (λj v hv=>by rw[Addr.add_lit];exact hc j v hv);rw[hl]at hr;simp[loadVar,KK hT w h,ha,tR hT w h,hr]
def KL{t:TypeId}{x:TI}(h:mO T t=some x)(ha:x.isAgg=false)(b o:Nat)(u:Value)(hc:w.cell? ⟨b,o,none⟩=some u):(loadVar t ⟨b,o,none⟩).run P w = .ok u w:=by
 simp[loadVar,KK hT w h,ha,hc]
def ER{t:TypeId}{x:TI}(h:mO T t=some x)(b o:Nat)(E:TypeId)(cur:Array Value)(hg:w.heap[b]? = some (.cells cur E (0,0)))(v:Value)(hl:v.cells.toList.length=x.i.size)
 (rH:o+v.cells.toList.length<=cur.size) (h1:∀ u ∈ v.cells.toList,u.oneCell'=true):
 (storeVar t ⟨b,o,none⟩ v).run P w = .ok () (w.setRow b (cur.toList.take o++v.cells.toList++cur.toList.drop (o+v.cells.toList.length)).toArray):=by
 have hr:=run_storeCells_at P b o E v.cells.toList 0 cur w hg (by simpa using rH) h1;simp only[bR]at hr;have qL:v.cells.size=x.i.size:=by simpa using hl
 simp only[storeVar,Sem.run_bind,tR hT w h,Result.andThen,qL,cU,aor,bn,hr,Sem.run_ite,Sem.run_pure]
end
def qY.setRow{L:Lk}{w:World}{id b:Nat}(hb:L.own id b)(iB:∀ x,L.own id x->x<w.heap.size)(cs:Array Value):qY L w id (L.own id) (w.setRow b cs):=
 ⟨λx hx=>⟨.inl hx,by simpa using iB x hx⟩,aH,λx _ jl=>setRow_other w b x cs (λe=>jl (e▸hb)),rfl,rfl,rfl⟩
def jT(P:Program)(K:World->Prop)(w0:World)(B:Nat->Prop)(σ:PS)(o:Oper)(a:Act)(w:World)(u:kq):Prop:=
 ∃ v w' L',((execOp a.eval o).run P w = .ok (.value v) w'\/((execOp a.eval o).run P w = .ok .skip w'/\v=undef))/\iZ w0 B (σ.oe u.f) a w' L'/\kQ (iS B L') (jm L') L' w' u.r v
section
variable {P:Program} {K:World->Prop} {w0:World} {B:Nat->Prop} {σ:PS} {o:Oper} {a:Act} {w:World} {L:Lk} {u:kq}
def jT.pure(r:iZ w0 B σ a w L){v:Value}(kP:(execOp a.eval o).run P w = .ok (.value v) w)(hf:u.f = .none)(hp:kQ (iS B L) (jm L) L w u.r v):jT P K w0 B σ o a w u:=
 ⟨v,w,L,.inl kP,by rw[hf];exact r,hp⟩
def ai5{l:List PV}{es:List E}(h:Kp l=some es):l=es.map .e:=by
 induction l generalizing es with
 |nil=>cases h;rfl
 |cons p l ih=>
  cases p with
  |e x=>
   simp only[Kp]at h;obtain⟨t,ht,rfl⟩:=bT.1 h;rw[ih ht];rfl
  |_=>cases h
def iZ.read(r:iZ w0 B σ a w L){p:PV}{v:Value}(hp:kQ (iS B L) (jm L) L w p v){m:Nat}{l:List E}{is:List Nat}{jB:List Prop}(h:σ.read p m=some (l,is,jB))(ho:∀ q,q ∈ jB->q):
 ∃ b q vs,v = .pointer (some ⟨b,q,none⟩)/\ki (iS B L) (jm L) w l vs/\vs.length=m/\∀ (j:Nat) (u:Value),vs[j]? = some u->w.cell? ⟨b,q+j,none⟩=some u:=by
 have tab:∀ (b q:Nat) (g:Nat->E) (f:Nat->Value),(∀ j,j<m->w.cell? ⟨b,q+j,none⟩=some (f j)/\iC (iS B L) (jm L) w (g j) (f j)) ->
  ∃ vs:List Value,ki (iS B L) (jm L) w ((List.range m).map g) vs/\vs.length=m/\∀ (j:Nat) (u:Value),vs[j]? = some u->w.cell? ⟨b,q+j,none⟩=some u:=by
  intro b q g f hc;refine⟨(List.range m).map f,⟨aH,λi p x hp hx=>?_⟩,aH,λj u hu=>?_⟩
  .rw [b6]at hp hx;obtain⟨i1,zf,rfl⟩:=bT.1 hp;obtain⟨i2,D0,rfl⟩:=bT.1 hx;rw[zf]at D0;cases D0;obtain⟨iB,rfl⟩:=b7.1 zf;simp at iB;simpa using(hc i iB).2
  .rw [b6]at hu;obtain⟨i1,zf,rfl⟩:=bT.1 hu;obtain⟨iB,rfl⟩:=b7.1 zf;simp at iB;simpa using(hc j iB).1
 cases p with
 |box id off=>
  simp only[PS.read]at h;split at h
  .rename_i T l0 jg;split at h
   .rename_i hle;simp only[bA,bI]at h;obtain⟨rfl,rfl,rfl⟩:=h;obtain⟨b,vs,h1,h2,h3,h4,h5⟩:=r.hb id _ jg;obtain⟨_,b',k2,rfl⟩:=hp;rw[h1]at k2;cases k2;have Nf:=cG hle;refine⟨b,off,(vs.drop off).take m,rfl,(h4.drop off).take m,by simp[h4.len];omega,λj u hu=>?_⟩;rw[du]at hu;split at hu
    .rw [dv]at hu;simp only[World.cell?,h3];simpa using hu
    .cases hu
   .cases h
  .rename_i nl T l0 jg;split at h
   .rename_i hle;obtain⟨es,F4,h⟩:=bT.1 h;simp only[bI]at h;obtain⟨rfl,rfl,rfl⟩:=h;obtain⟨b,vs,h1,h2,h3,h4,h5,h6⟩:=r.hb id _ jg;obtain⟨_,b',k2,rfl⟩:=hp;rw[h1]at k2;cases k2;have Nf:=cG hle;have hm:=ai5 F4;have hlen:es.length=m:=by
     have:=congrArg List.length hm;simp only[b9,er,ck]at this;omega
    refine⟨b,off,(vs.drop off).take m,rfl,⟨by simp[h4,hlen];omega,λi p x hp hx=>?_⟩,by simp[h4];omega,λj u hu=>?_⟩
    .have hq:((l0.drop off).take m)[i]? = some (.e p):=by rw[hm,b6,hp];rfl
     rw[du]at hq hx;split at hq
     .rename_i hi;rw[a6 hi,dv]at hx;rw[dv]at hq;exact h5 _ _ _ hq hx
     .cases hq
    .rw [du]at hu;split at hu
     .rw [dv]at hu;simp only[World.cell?,h3];simpa using hu
     .cases hu
   .cases h
  .cases h
 |nm id sz i j=>
  simp only[PS.read]at h;split at h
  .rename_i nl T n s el jg;split at h
   .rename_i hle;simp only[bA,bI]at h;obtain⟨rfl,rfl,rfl⟩:=h;simp only[bF]at hle;have e1:=kO.1 hle.1;have e2:=cG hle.2;subst e1;have hi:i<n:=ho _ aH;obtain⟨f,h1,h2,h3⟩:=r.hb id _ jg;obtain⟨_,b,n',c',k2,rfl⟩:=hp;rcases h1 with⟨h1,_⟩|⟨b',c,cur,h1,hg,oG,nI,mJ,ke,jG⟩
    .rw [k2]at h1;cases h1
    .rw [k2]at h1;cases h1;obtain⟨vs,q1,q2,q3⟩:=tab b (i*s+j) (λq=>el i (j+q)) (λq=>f i (j+q)) (λq hq=>⟨by
      simp only[World.cell?,hg];have:=(ke i (j+q) hi aC).1;rw[<-cR]at this;simpa using this,(h3 i (j+q) hi aC).1⟩)
     exact⟨b,i*s+j,vs,rfl,q1,q2,q3⟩
   .cases h
  .cases h
 |qQ id sz k i j=>
  simp only[PS.read]at h;split at h
  .rename_i nl T1 T0 n s len el pend jg;split at h
   .rename_i hle;simp only[bA,bI]at h;obtain⟨rfl,rfl,rfl⟩:=h;simp only[bF]at hle;have e1:=kO.1 hle.1;have e2:=cG hle.2;subst e1;have hk:k<n:=ho _ aH;have hi:i<len k:=ho _ aH;obtain⟨b0,c0,cur0,f,g1,g2,g3,g4,g5,g6,g7,g8,_⟩:=(r.hb id _ jg).wG aC;obtain⟨h1,h3⟩:=g8 k hk;obtain⟨_,b,n',c',k2,rfl⟩:=hp;rcases h1 with⟨h1,_⟩|⟨b',c,cur,h1,hg,oG,nI,mJ,ke,jG⟩
    .rw [k2]at h1;cases h1
    .rw [k2]at h1;cases h1;obtain⟨vs,q1,q2,q3⟩:=tab b (i*s+j) (λq=>el k i (j+q)) (λq=>f k i (j+q)) (λq hq=>⟨by
      simp only[World.cell?,hg];have:=(ke i (j+q) hi aC).1;rw[<-cR]at this;simpa using this,(h3 i (j+q) hi aC).1⟩)
     exact⟨b,i*s+j,vs,rfl,q1,q2,q3⟩
   .cases h
  .cases h
 |e x=>
  cases x with
  |iQ k el=>
   simp only[PS.read]at h;split at h
   .rename_i hle;simp only[bA,bI]at h;obtain⟨rfl,rfl,rfl⟩:=h;have Nf:=cG hle;cases hp with
    |iQ _ _ b q f hb iB hl cell kk=>
     obtain⟨vs,q1,q2,q3⟩:=tab b q el f (λj hj=>⟨cell j aC,kk j aC⟩);exact⟨b,q,vs,rfl,q1,q2,q3⟩
   .cases h
  |_=>cases h
 |_=>cases h
def E7{ti:TI}{l:List E}(h:yG ti=some l):∃ z,ti.i.zero=some z/\∀ (bs br:Nat->Prop) (w:World),ki bs br w l z.cells.toList/\∀ u ∈ z.cells.toList,u.oneCell'=true:=by
 unfold yG at h;split at h
 .rename_i z hz;exact⟨z,hz,λbs br w=>(iC.v (bs:=bs) (br:=br) (w:=w) z).cells h⟩
 .cases h
def iZ.WH(r:iZ w0 B σ a w L)(id:Nat)(T:TypeId)(l:List E)(v:Value)(kp:σ.bo id=none)(hv:ki (iS B L) (jm L) w l v.cells.toList)(h1:∀ u ∈ v.cells.toList,u.oneCell'=true)
 (jG:(!σ.nl||l.all E.mN)=true):
 ∃ L',iZ w0 B (σ.oe (.new id (.cells T l))) a (w.alloc (.cells v.cells T)) L'/\kQ (iS B L') (jm L') L' (w.alloc (.cells v.cells T)) (.box id 0) (.pointer (some ⟨w.heap.size,0,none⟩)):=by
 have hb:Below w.heap.size w (w.alloc (.cells v.cells T)):=(Below.refl _ _).alloc (bg _) _;have Ub:∀ x,¬L.own id x:=λx hx=>by have:=(r.hv id).1 (r.hn id x hx);rw[kp]at this;simp at this
 have ht:qY L w id (λx=>x=w.heap.size) (w.alloc (.cells v.cells T)):=⟨λx hx=>⟨.inr aC,aN⟩,hb.size,λx hx _=>hb.block x hx,rfl,rfl,rfl⟩
 have hl:=ht.later (.pointer (some ⟨w.heap.size,0,none⟩)) (λ_=>undef);refine⟨_,r.new id (.cells T l) (λx=>x=w.heap.size) (.pointer (some ⟨w.heap.size,0,none⟩)) (λ_=>undef) _ kp (λx hx=>by subst hx;simp) hb
  ⟨w.heap.size,v.cells.toList,Lk.pn,λx=>Lk.sr x,by rw[Array.toArray_toList];exact heap_alloc_new w _,hv.mono λ_ _=>hl.kH,h1⟩ jG,Lk.BI,w.heap.size,Lk.pn,rfl⟩
def J7{d:Option Tmp}{b:Bx}{rr:Nat->PV}(h:Bo σ d b rr=some u):∃ id,d=some id/\(!σ.nl||b.nl)=true/\u={ r:=rr id,f:=uw σ id b,rb:=z8 σ id [] }:=by
 unfold Bo at h;split at h
 .rename_i id;split at h
  .rename_i hc;cases h;exact⟨id,rfl,hc,rfl⟩
  .cases h
 .cases h
def iZ.WI(r:iZ w0 B σ a w L)(id:Nat)(T:TypeId)(l:List E)(v:Value)(hv:ki (iS B L) (jm L) w l v.cells.toList)(h1:∀ u ∈ v.cells.toList,u.oneCell'=true)
 (jG:(!σ.nl||l.all E.mN)=true):
 ∃ L',iZ w0 B (σ.oe (uw σ id (.cells T l))) a (w.alloc (.cells v.cells T)) L'/\kQ (iS B L') (jm L') L' (w.alloc (.cells v.cells T)) (.box id 0) (.pointer (some ⟨w.heap.size,0,none⟩)):=by
 unfold uw;split
 .rename_i kp;exact r.WH id T l v kp hv h1 jG
 .obtain ⟨L1,r1,ho,kp⟩:=r.Sk id;have hm:∀ x,jm L1 x->jm L x:=λx ⟨i,hi⟩=>⟨i,ho i x hi⟩
  obtain⟨L',r',hp⟩:=r1.WH id T l v kp (hv.mono λ_ _=>iC.qt (λx h=>h.elim .inl λh=>.inr (hm x h)) hm) h1 jG;rw[Su]at r';exact⟨L',r',hp⟩
def GG{d:Option Tmp}{b:Bx}{rr:Nat->PV}{jB:List Prop}(h:zU σ d b rr jB=some u):∃ id,d=some id/\σ.bo id=none/\(!σ.nl||b.nl)=true/\u={ r:=rr id,f:=.new id b,jB:=jB }:=by
 unfold zU at h;split at h
 .rename_i id;split at h
  .rename_i kp;split at h
   .rename_i hc;cases h;exact⟨id,rfl,kp,hc,rfl⟩
   .cases h
  .cases h
 .cases h
end
def H9{k:IntKind}{z:Int}(h:kA k z):k.wrap z=z:=by
 cases k<;>simp only[kA]at h<;>simp only[IntKind.wrap,IntKind.bits,IntKind.signed]<;>simp<;>(try split)<;>omega
def akg{k:IntKind}{x y:Int}(h:kA k x)(hy:0<y):kA k (x.tdiv y):=by
 by_cases h0:0<=x
 .have h1:0<=x/y:=Int.ediv_nonneg h0 aC ;have h2:x/y<=x:=Int.ediv_le_self y h0;rw[aoJ h0];cases k<;>simp only[kA]at h ⊢ <;> omega
 .obtain ⟨z,rfl⟩:∃ z,x = -z:=⟨-x,aC⟩
  have h0:0<=z:= aC ;have h1:0<=z/y:=Int.ediv_nonneg h0 aC;have h2:z/y<=z:=Int.ediv_le_self y h0;rw[Int.neg_tdiv,aoJ h0];cases k<;>simp only[kA]at h ⊢ <;> omega
def adM{P:Program}{op:BinOp}{k k':IntKind}{x y:Int}{v:Value}{jB:List Prop}(h:Mc op k x y=some (v,jB))(ho:∀ q,q ∈ jB->q)
 (hk:Yj op k k'=true) (t:TypeId) (w:World):(binOp op t (.int k x) (.int k' y)).run P w = .ok v w:=by
 cases op<;>simp only[Mc,bA,bI,reduceCtorEq]at h<;>(obtain⟨rfl,rfl⟩:=h)<;>(try (have Cl:=cB hk;subst Cl))
 case add=>
  rw[binOp_add];by_cases Jd:k = .u32
  .subst Jd;simp[Op.intArith,Ly]
  .have e:Ly k x y=x+y:=by cases k<;>first|rfl|exact absurd rfl Jd
   have e2:Qq k x y=[kA k (x+y)]:=by cases k<;>first|rfl|exact absurd rfl Jd
   rw[e];simp[Op.intArith,H9 (ho (kA k (x+y)) (by rw[e2];simp))]
 case sub=>rw[binOp_sub];simp[Op.intArith,H9 (ho (kA k (x-y)) aH)]
 case mul=>rw[binOp_mul];simp[Op.intArith,H9 (ho (kA k (x*y)) aH)]
 case quo=>
  have h1:=ho (0<y) aH;have h2:=ho (kA k x) aH;rw[binOp_quo];have hy:¬y=0:= aC ;simp[Op.intDiv,hy,H9 (akg h2 h1)]
 case rem=>
  have h1:=ho (0<y) aH;rw[binOp_rem];have hy:¬y=0:= aC ;simp[Op.intDiv,hy]
 case and=>rw[binOp_and,intBits_and];rfl
 case or=>rw[binOp_or,intBits_or];rfl
 case shl=>
  have h1:=ho (0<=y/\y<=k.bits) aH;rw[binOp_shl,shift_shl k k' x y h1.1 h1.2];rfl
 case shr=>
  have h1:=ho (0<=y/\y<=k.bits) aH;rw[binOp_shr,shift_shr k k' x y h1.1 h1.2];rfl
 case eql=>rw[binOp_eql];rfl
 case neq=>rw[binOp_neq];rfl
 case lss=>rw[binOp_lss];rfl
 case leq=>rw[binOp_leq];rfl
 case gtr=>rw[binOp_gtr];rfl
 case geq=>rw[binOp_geq];rfl
section
variable {P:Program} {K:World->Prop} {T:List TI} {O:qu} {w0:World} {B:Nat->Prop} {σ:PS} {o:Oper} {a:Act} {w:World} {L:Lk} {u:kq}
def afa{x:Operand}(iA:o.op = .move x)(r:iZ w0 B σ a w L)(h:jD P K T O σ o=some u):jT P K w0 B σ o a w u:=by
 simp only[jD,iA]at h;cases h;exact jT.pure r (by simp only[execOp,iA];rfl) rfl (r.op x)
def aeQ{x:Operand}(iA:o.op = .assign x)(r:iZ w0 B σ a w L)(h:jD P K T O σ o=some u):jT P K w0 B σ o a w u:=by
 simp only[jD,iA]at h;cases h;exact jT.pure r (by simp only[execOp,iA];rfl) rfl (r.op x)
def afc{c x y:Operand}(iA:o.op = .pick c x y)(r:iZ w0 B σ a w L)(h:jD P K T O σ o=some u):jT P K w0 B σ o a w u:=by
 simp only[jD,iA]at h;have hc:=r.op c;split at h
 .rename_i hv;rw[hv]at hc;have hc:=iC.kC hc;cases h;exact jT.pure r (by simp[execOp,iA,hc,asBool]) rfl (r.op x)
 .rename_i hv;rw[hv]at hc;have hc:=iC.kC hc;cases h;exact jT.pure r (by simp[execOp,iA,hc,asBool]) rfl (r.op y)
 .cases h
def afb{x:Operand}(iA:o.op = .nilCheck x)(r:iZ w0 B σ a w L)(h:jD P K T O σ o=some u):jT P K w0 B σ o a w u:=by
 simp only[jD,iA]at h;have hc:=r.op x;split at h
 .rename_i hv;rw[hv]at hc;cases h;obtain⟨k1,b,k2,k3⟩:=hc;exact jT.pure r (v:=a.eval x) (by simp[execOp,iA,k3]) rfl ⟨k1,b,k2,k3⟩
 .rename_i hv;rw[hv]at hc;cases h;generalize hq:a.eval x=q at hc;refine jT.pure r (v:=q) ?_ rfl hc;cases hc;simp only[execOp,iA,hq];rfl
 .rename_i hv;rw[hv]at hc;cases h;refine jT.pure r (v:=a.eval x) ?_ rfl hc;obtain⟨vs,e,_⟩:=iC.S9 hc;simp only[execOp,iA,e];rfl
 .rename_i hv;rw[hv]at hc;cases h;refine jT.pure r (v:=a.eval x) ?_ rfl hc;obtain⟨vs,e,_⟩:=hc;simp only[execOp,iA,e];rfl
 .cases h
def aeR(hT:mH P T){op:BinOp}{t yt:TypeId}{x y:Operand}(iA:o.op = .binOp op t x y yt)(r:iZ w0 B σ a w L)(h:jD P K T O σ o=some u)(ho:∀ q,q ∈ u.jB->q):jT P K w0 B σ o a w u:=by
 simp only[jD,iA]at h;have hx:=r.op x;have hy:=r.op y;split at h
 .rename_i k z k' z' xX CB;rw[xX]at hx;rw[CB]at hy;split at h
  .rename_i v hv;cases h;obtain⟨h1,h2⟩:=ho _ (fz.2 rfl) _ _ w _ _ x y hx hy;refine jT.pure r (v:=v) ?_ rfl (.v _);simp only[execOp,iA,Sem.run_bind,h1,Result.andThen_ok,h2,Sem.run_pure]
  have hx:=iC.kC hx;have hy:=iC.kC hy;split at h
  .rename_i hk;obtain⟨rr,hr,rfl⟩:=bT.1 h;have kP:=adM (P:=P) (k':=k') hr ho hk t w;refine jT.pure r (v:=rr.1) ?_ rfl (.v _);simp only[execOp,iA,hx,hy,Sem.run_bind,eqGuard_at_int,Sem.run_pure,Result.andThen_ok,kP]
  .cases h
 .rename_i z z' xX CB;rw[xX]at hx;rw[CB]at hy;have hx:=iC.kC hx;have hy:=iC.kC hy;split at h
  .rename_i hd;obtain⟨ti,h1,h2⟩:=AM hd;have hu:P.underlying t=some .bool:=by rw[hT.rq h1,h2]
   split at h
   .cases h;refine jT.pure r (v:=.bool (z==z')) ?_ rfl (.v _);simp only[execOp,iA,hx,hy,Sem.run_bind,eqGuard_at_bool,Sem.run_pure,Result.andThen_ok,run_eql_bool w t z z' hu]
   .cases h;refine jT.pure r (v:=.bool (!(z==z'))) ?_ rfl (.v _);simp only[execOp,iA,hx,hy,Sem.run_bind,eqGuard_at_bool,Sem.run_pure,Result.andThen_ok];have:(binOp .neq t (.bool z) (.bool z')).run P w = .ok (.bool (!(z==z'))) w:=by
     simp only[binOp,Sem.run_bind,run_equal_bool w t z z' hu,Result.andThen_ok,Sem.run_pure]
    rw[this];rfl
   .cases h
  .cases h
 .rename_i nl n sz el xX CB;rw[xX]at hx;rw[CB]at hy;have hy:=iC.kC hy;have hx:iC (iS B L) (jm L) w (.sl nl n sz el) (a.eval x):=hx;split at h
  .rename_i e hd;obtain⟨ti,h1,h2⟩:=AM hd;have hu:P.underlying t=some (.slice e):=by rw[hT.rq h1,h2]
   have key:∀ A c,0<n->a.eval x = .slice A n c->iC (iS B L) (jm L) w (.sl nl n sz el) (.slice A n c)->A.isNone=false:=by
    intro A c hn e1 hr;cases A with
    |some ad=>rfl
    |none=>
     cases hr with
     |sl _ _ _ _ _ _ f hc hm h0=>have:=h0 rfl;omega
   generalize hv:a.eval x=vx at hx;cases hx with
   |sl _ _ _ _ A c f hc hm h0 hl hr cell k=>
    have xW:iC (iS B L) (jm L) w (.sl nl n sz el) (.slice A n c):=.sl nl n sz el A c f hc hm h0 hl hr cell k;split at h
    .cases h;have hn:0<n:=ho _ aH;refine jT.pure r (v:=.bool false) ?_ rfl (.v _);simp only[execOp,iA,hv,hy,Sem.run_bind,eqGuard_at_slice,Sem.run_pure,Result.andThen_ok,Lib.run_eql_slice_nil w t e A n c 0 0 hu,key A c hn hv xW]
    .cases h;have hn:0<n:=ho _ aH;refine jT.pure r (v:=.bool true) ?_ rfl (.v _);simp only[execOp,iA,hv,hy,Sem.run_bind,eqGuard_at_slice,Sem.run_pure,Result.andThen_ok,run_neq_slice_nil_any w t e A n c 0 0 hu,key A c hn hv xW,ek]
    .cases h
  .cases h
 .rename_i xe ye xX CB;rw[xX]at hx;rw[CB]at hy;split at h
  .rename_i v hv;cases h;obtain⟨h1,h2⟩:=ho _ (fz.2 rfl) _ _ w _ _ x y hx hy;refine jT.pure r (v:=v) ?_ rfl (.v _);simp only[execOp,iA,Sem.run_bind,h1,Result.andThen_ok,h2,Sem.run_pure]
  .cases h
 .cases h
def aff{op:UnOp}{t:TypeId}{x:Operand}(iA:o.op = .unOp op t x)(r:iZ w0 B σ a w L)(h:jD P K T O σ o=some u)(ho:∀ q,q ∈ u.jB->q):jT P K w0 B σ o a w u:=by
 simp only[jD,iA]at h;have hx:=r.op x;split at h
 .rename_i z hv;rw[hv]at hx;have hx:=iC.kC hx;cases h;exact jT.pure r (v:=.bool (!z)) (by simp[execOp,iA,hx,Op.unary]) rfl (.v _)
 .rename_i k z hv;rw[hv]at hx;have hx:=iC.kC hx;cases h;have:=H9 (ho (kA k (0-z)) aH);refine jT.pure r (v:=.int k (0-z)) ?_ rfl (.v _);simp only[execOp,iA,hx,Op.unary,Op.intArith,this];rfl
 .cases h
def aeV(hT:mH P T){src dst:TypeId}{x:Operand}(iA:o.op = .convert src dst x)(r:iZ w0 B σ a w L)(h:jD P K T O σ o=some u):jT P K w0 B σ o a w u:=by
 simp only[jD,iA]at h;have hx:=r.op x;split at h
 .rename_i k ts k' z hd hs hv;rw[hv]at hx;have hx:=iC.kC hx;obtain⟨td,h1,h2⟩:=AM hd;have hu:P.underlying dst=some (.int k):=by rw[hT.rq h1,h2]
  have hk:P.intKind dst=k:=by simp[Program.intKind,hu]
  have kP:=run_convert_int (P:=P) w src dst k' z (by rw[hT.rq hs];rfl) (by rw[hk];exact hu);rw[hk]at kP;cases h;exact jT.pure r (v:=.int k (k.wrap z)) (by simp only[execOp,iA,hx,Sem.run_bind,kP];rfl) rfl (.v _)
 .cases h
def aeW{x:Operand}{i:Nat}(iA:o.op = .extract x i)(r:iZ w0 B σ a w L)(h:jD P K T O σ o=some u):jT P K w0 B σ o a w u:=by
 simp only[jD,iA]at h;have hx:=r.op x;split at h
 .rename_i l hv;rw[hv]at hx;obtain⟨vs,e,hr⟩:=iC.ZK hx;split at h
  .rename_i y hy;cases h;have iB:i<vs.length:=by rw[hr.len];exact(b7.1 hy).1
   have Ef:=bu iB;refine jT.pure r (v:=vs[i]) ?_ rfl (hr.kH i y _ hy Ef);simp only[execOp,iA,e,Instr.extract,gE,Ef];rfl
  .cases h
 .cases h
def Wh{bs:Nat->Prop}{z:Int}{e:E}:∀ {l:List (Int×FuncId×List FuncId)} {es:List MapEntry} (i:Nat),BS bs w l es->CW l z=some e->(∀ b,jm L b->bs b) ->
 ∃ j v,Instr.findNow (.int .i64) (.int .i64 z) es i=some (some (j,v))/\iC bs (jm L) w e v
 | [],_,_,_,h,_=>by cases h
 |_::_,[],_,k,_,_=>k.elim
 |x::l,y::es,i,⟨⟨k1,vs,k2,k3,k4⟩,k⟩,h,hm=>by
  unfold CW at h;have e0:Instr.sameNow (.int .i64) (.int .i64 z) y.key=some (z==x.1):=by rw[k1];rfl
  by_cases hz:x.1=z
  .rw [a6 hz]at h;cases h;have e1:(z==x.1)=true:=by simp[hz]
   refine⟨i,y.val,?_,?_⟩
   .rw [Instr.findNow,e0,e1]
   .rw [k2];refine .fn _ _ vs (by simpa using k3) λj p v hp hv=>?_
    rw[b6]at hp;obtain⟨g,hg,rfl⟩:=bT.1 hp;obtain⟨b,rfl,q2,q3,q4⟩:=k4 j g v hg hv;have hc:∀ q,q<1->w.cell? ⟨b,0+q,none⟩=some (.func (.func g) #[] #[]):=λq hq=>by
     obtain rfl:q=0:= aC ;exact q4
    exact .iQ 1 _ b 0 (λ_=>.func (.func g) #[] #[]) (λh=>q2 (hm b h)) q3 (λ_ _=>rfl) hc λ_ _=>.fn g [] [] rfl (λi p x h=>by simp at h)
  .rw [aZ hz]at h;have e1:(z==x.1)=false:=by simp;exact λe=>hz e.symm
   obtain⟨j,v,q1,q2⟩:=Wh (i+1) k h hm;exact⟨j,v,by rw[Instr.findNow,e0,e1];exact q1,q2⟩
def acG{k:TypeId}(hk:P.underlying k=some (.int .i64))(e:Bool)(n:Nat)(z:Int):(Instr.checkKey e (n+1) k (.int .i64 z)).run P w = .ok () w:=by
 unfold Instr.checkKey;simp only[Sem.run_bind,run_underlying hk,Result.andThen];rfl
def ae4(hT:mH P T){t:TypeId}{x i:Operand}{ok:Bool}(iA:o.op = .lookup t x i ok)(r:iZ w0 B σ a w L)(h:jD P K T O σ o=some u)(ho:∀ q,q ∈ u.jB->q):jT P K w0 B σ o a w u:=by
 cases ok with
 |true=>simp[jD,iA]at h
 |false=>
 simp only[jD,iA]at h;have hx:=r.op x;have hi:=r.op i;split at h
 .rename_i l z k e0 hv hw hd;obtain⟨ti,h1,h2⟩:=AM hd;have hu:P.underlying t=some (.map k e0):=by rw[hT.rq h1,h2]
  rw[hv]at hx;rw[hw]at hi;have hi:=iC.kC hi;split at h
  .rename_i e Bb hg;obtain⟨tk,h3,h4⟩:=AM Bb;have hk:P.underlying k=some (.int .i64):=by rw[hT.rq h3,h4]
   cases h;have y9:CW l z=some e:=ho _ aH;generalize hq:a.eval x=q at hx;cases hx with
   |mp _ b clk es hb iB hh kj=>
    obtain⟨j,v,q1,q2⟩:=Wh (w:=w) (L:=L) 0 kj y9 λb h=>.inr h
    refine jT.pure r (v:=v) ?_ rfl q2;have pG:(getObj b).run P w = .ok (.map es clk) w:=by simp[getObj,Sem.run,hh]
    have hck:=acG (P:=P) (w:=w) hk es.isEmpty 9999 z;have hfk:(Instr.findKey k (.int .i64 z) es.toList).run P w = .ok (some (j,v)) w:=by unfold Instr.findKey;simp[run_underlying hk,Result.andThen,q1]
    have hl:(Instr.lookup t (.map (some b)) (.int .i64 z) false).run P w = .ok v w:=by
     unfold Instr.lookup;simp[run_underlying hu,pG,hck,hfk,Result.andThen]
    simp only[execOp,iA,hq,hi,Sem.run_bind,hl,Result.andThen_ok,Sem.run_pure]
  .cases h
 .cases h
def aeX(hT:mH P T){t:TypeId}{x:Operand}{f:Nat}(iA:o.op = .field t x f)(r:iZ w0 B σ a w L)(h:jD P K T O σ o=some u):jT P K w0 B σ o a w u:=by
 simp only[jD,iA]at h;have hx:=r.op x;split at h
 .rename_i l fs hv hd;obtain⟨ti,h1,h2⟩:=AM hd;have hu:P.underlying t=some (.struct fs):=by rw[hT.rq h1,h2]
  rw[hv]at hx;obtain⟨vs,e,hr⟩:=iC.BV hx;split at h
  .rename_i fd M8;split at h
   .rename_i ft M9;split at h
    .cases h
    .rename_i hag;split at h
     .rename_i y hy;cases h;have iB:fd.offset<vs.length:=by rw[hr.len];exact(b7.1 hy).1
      have Ef:=bu iB;refine jT.pure r (v:=vs[fd.offset]) ?_ rfl (hr.kH fd.offset y _ hy Ef);simp only[execOp,iA,e,Instr.field,asAgg,Sem.run_bind,Sem.run_pure,Result.andThen_ok,run_underlying hu,M8,part,KK hT w M9,hag,gE,Ef];rfl
     .cases h
   .cases h
  .cases h
 .cases h
def acy{ps:List PV}{l:List CV}{vs:List Value}(h:wP ps=some l)(hlen:vs.length=ps.length)(hr:∀ (i:Nat) (p:PV) (x:Value),ps[i]? = some p->vs[i]? = some x->kQ (iS B L) (jm L) L w p x):
 vs.length=l.length/\∀ (i:Nat) (c:CV) (x:Value),l[i]? = some c->vs[i]? = some x->wM (iS B L) (jm L) L w c x:=by
 induction ps generalizing l vs with
 |nil=>cases h;exact⟨hlen,λi c x hc=>by simp at hc⟩
 |cons p ps ih=>
  cases vs with
  |nil=>simp at hlen
  |cons y vs=>
   have step:∀ (c0:CV) (l':List CV),wP ps=some l'->wM (iS B L) (jm L) L w c0 y->l=c0::l' ->
    (y::vs).length=l.length/\∀ (i:Nat) (c:CV) (x:Value),l[i]? = some c->(y::vs)[i]? = some x->wM (iS B L) (jm L) L w c x:=by
    intro c0 l' qL px hl;obtain⟨i1,i2⟩:=ih qL (by simpa using hlen) (λi p x hp hx=>hr (i+1) p x (by simpa using hp) (by simpa using hx));subst hl;refine⟨by simp[i1],λi c x hc hx=>?_⟩;cases i with
    |zero=>simp at hc hx;subst hc hx;exact px
    |succ i=>simp at hc hx;exact i2 i c x hc hx
   have h0:=hr 0 p y rfl rfl;cases p with
   |e x=>
    simp only[wP]at h;obtain⟨l',qL,rfl⟩:=bT.1 h;exact step (.e x) l' qL h0 rfl
   |box id off=>
    cases off with
    |zero=>
     simp only[wP]at h;obtain⟨l',qL,rfl⟩:=bT.1 h;exact step (.box id) l' qL h0 rfl
    |succ=>simp[wP]at h
   |nm id sz i j=>
    simp only[wP]at h;split at h
    .rename_i hc;simp only[bF]at hc;obtain rfl:=kO.1 hc.1.1;obtain rfl:=kO.1 hc.1.2;obtain rfl:=kO.1 hc.2;obtain⟨l',qL,rfl⟩:=bT.1 h;obtain⟨k1,b,n,c,k2,k3⟩:=h0;exact step (.row id) l' qL ⟨k1,b,n,c,k2,by simpa using k3⟩ rfl
    .cases h
   |_=>simp[wP]at h
def ae5{fn:Fn}{first cap:Array Operand}(iA:o.op = .makeFunc fn first cap)(r:iZ w0 B σ a w L)(h:jD P K T O σ o=some u):jT P K w0 B σ o a w u:=by
 cases fn with
 |func f=>
  simp only[jD,iA]at h;split at h
  .rename_i afU;have hf:first = #[]:=by simpa using afU
   subst hf;split at h
   .rename_i l hl;cases h;have hc:=acy (B:=B) (L:=L) (w:=w) (vs:=cap.toList.map a.eval) hl aH (λi p x hp hx=>by
     rw[b6]at hp hx;obtain⟨q,hq,rfl⟩:=bT.1 hp;rw[hq]at hx;simp at hx;subst hx;exact r.op q)
    refine jT.pure r (v:=.func (.func f) #[] (cap.toList.map a.eval).toArray) ?_ rfl ⟨cap.toList.map a.eval,rfl,hc.1,hc.2⟩;have e1:cap.map a.eval=(cap.toList.map a.eval).toArray:=by apply dm;simp
    have e2:(#[]:Array Operand).map a.eval = #[]:= aH ;simp only[execOp,iA,Instr.makeFunc,e1,e2,Sem.run_bind,Sem.run_pure,Result.andThen_ok]
   .cases h
  .cases h
 |_=>simp[jD,iA]at h
def aeZ(hT:mH P T){t:TypeId}{x i:Operand}(iA:o.op = .index t x i)(r:iZ w0 B σ a w L)(h:jD P K T O σ o=some u)(ho:∀ q,q ∈ u.jB->q):jT P K w0 B σ o a w u:=by
 simp only[jD,iA]at h;have hx:=r.op x;have hi:=r.op i;split at h
 .rename_i l k z hv hw;rw[hv]at hx;rw[hw]at hi;have ei:=iC.kC hi;obtain⟨vs,e,hr⟩:=iC.BV hx;split at h
  .rename_i tt qN;split at h
   .rename_i n e' hd;have hu:P.underlying t=some (.array n e'):=by rw[hT.rq qN,hd]
    split at h
    .rename_i te nJ;split at h
     .rename_i hc;simp only[bF,kO]at hc;cases h;obtain⟨wa,wb⟩:=ho (0<=z/\z<n) aH;refine jT.pure r (v:=.agg ((vs.drop (z.toNat*te.i.size)).take te.i.size).toArray) ?_ rfl ((hr.drop _).take _).agg;simp only[execOp,iA,e,ei,Instr.index,asIntOf,Sem.run_bind,Sem.run_pure,Result.andThen_ok,run_underlying hu,wa,wb,and_self,bB,tR hT w nJ,part,KK hT w nJ,hc.1];simp
     .cases h
    .cases h
   .cases h
  .cases h
 .cases h
def aeY(hT:mH P T){t:TypeId}{x:Operand}{f:Nat}(iA:o.op = .fieldAddr t x f)(r:iZ w0 B σ a w L)(h:jD P K T O σ o=some u):jT P K w0 B σ o a w u:=by
 simp only[jD,iA]at h;have hx:=r.op x;split at h
 .rename_i fs hd;obtain⟨ti,h1,h2⟩:=AM hd;have hu:P.underlying t=some (.struct fs):=by rw[hT.rq h1,h2]
  split at h
  .rename_i fd M8;split at h
   .rename_i ft M9;split at h
    .cases h
    .rename_i jl;have af5:¬ft.i.size=0:=λe=>jl (kO.2 e)
     have kP:∀ b off,a.eval x = .pointer (some ⟨b,off,none⟩)->(execOp a.eval o).run P w = .ok (.value (.pointer (some ⟨b,off+fd.offset,none⟩))) w:=by
      intro b off e;simp only[execOp,iA,e,Instr.fieldAt,Instr.sureAddr,fieldPlace,Sem.run_bind,run_underlying hu,Result.andThen_ok,M8,Sem.run_pure,tR hT w M9,af5,bn,Addr.add_lit]
     split at h
     .rename_i id off hv;rw[hv]at hx;obtain⟨k1,b,k2,k3⟩:=hx;cases h;exact jT.pure r (kP b off k3) rfl ⟨k1,b,k2,rfl⟩
     .rename_i id sz i j hv;rw[hv]at hx;obtain⟨k1,b,n,c,k2,k3⟩:=hx;cases h;exact jT.pure r (kP b _ k3) rfl ⟨k1,b,n,c,k2,by rw[cR]⟩
     .rename_i id sz k i j hv;rw[hv]at hx;obtain⟨k1,b,n,c,k2,k3⟩:=hx;cases h;exact jT.pure r (kP b _ k3) rfl ⟨k1,b,n,c,k2,by rw[cR]⟩
     .rename_i m el hv;rw[hv]at hx;split at h
      .rename_i hle;have Nf:=cG hle;cases h;generalize hq:a.eval x=q at hx;cases hx with
       |iQ _ _ b off g hb iB hl cell kk=>
        refine jT.pure r (kP b off hq) rfl (.iQ _ _ b _ (λj=>g (fd.offset+j)) hb iB (λj hj=>hl _ aC) (λj hj=>?_) (λj hj=>kk _ aC));have:=cell (fd.offset+j) aC;rwa[<-cR]at this
      .cases h
     .cases h
   .cases h
  .cases h
 .cases h
end
section
variable {P:Program} {K:World->Prop} {T:List TI} {O:qu} {w0:World} {B:Nat->Prop} {σ:PS} {o:Oper} {a:Act} {w:World} {L:Lk} {u:kq}
def ahy(hT:mH P T){t:TypeId}{x:Operand}{ti:TI}(qm:mO T t=some ti)(iA:o.op = .load t x)(r:iZ w0 B σ a w L)(h:Bk ti (σ.read (σ.op x) ti.i.size)=some u)(ho:∀ q,q ∈ u.jB->q):jT P K w0 B σ o a w u:=by
 cases hr:σ.read (σ.op x) ti.i.size with
 |none=>rw[hr]at h;cases h
 |some y=>
  obtain⟨l,is,jB⟩:=y;rw[hr]at h;simp only[Bk]at h;by_cases ha:ti.isAgg=true
  .rw [a6 ha]at h;cases h;obtain⟨b,q,vs,e,h1,h2,h3⟩:=r.read (r.op x) hr ho;refine jT.pure r (v:=.agg vs.toArray) ?_ rfl h1.agg;simp only[execOp,iA,e,Instr.loadAt,Instr.sureAddr,Sem.run_bind,Sem.run_pure,Result.andThen_ok,Yf hT w qm ha b q vs h2 h3]
  .rw [aZ ha]at h;have A6:ti.isAgg=false:=by simpa using ha
   split at h
   .rename_i p;cases h;obtain⟨b,q,vs,e,h1,h2,h3⟩:=r.read (r.op x) hr ho;obtain⟨y,ys,rfl,hy,CD⟩:=h1.mG;refine jT.pure r (v:=y) ?_ rfl hy;have hc:=h3 0 y rfl;simp only[execOp,iA,e,Instr.loadAt,Instr.sureAddr,Sem.run_bind,Sem.run_pure,Result.andThen_ok,KL hT w qm A6 b q y (by simpa using hc)]
   .cases h
def aiN{l:List PV}{off q:Nat}(h:Km l off=some q):l[off]? = some (.own q):=by
 induction l generalizing off with
 |nil=>cases h
 |cons p l ih=>
  cases off with
  |zero=>cases p<;>first|(cases h;rfl)|cases h
  |succ n=>
   have h':Km l n=some q:=by cases p<;>exact h
   simpa using ih h'
def ae3(hT:mH P T){t:TypeId}{x:Operand}(iA:o.op = .load t x)(r:iZ w0 B σ a w L)(h:jD P K T O σ o=some u)(ho:∀ q,q ∈ u.jB->q):jT P K w0 B σ o a w u:=by
 simp only[jD,iA,I0]at h;split at h
 .rename_i ti qm;split at h
  .rename_i id q pF;by_cases ha:ti.isAgg=true
   .rw [a6 ha]at h;cases h
   .rw [aZ ha]at h;have A6:ti.isAgg=false:=by simpa using ha
    cases h;have hx:=r.op x;cases hp:σ.op x with
    |box id' off=>
     rw[hp]at pF hx;simp only[Cc]at pF;split at pF
     .rename_i nl T0 l jg;obtain⟨q',hq,pF⟩:=bT.1 pF;simp only[bI]at pF;obtain⟨rfl,rfl⟩:=pF;obtain⟨b,vs,h1,h2,h3,h4,h5,h6⟩:=r.hb id' _ jg;obtain⟨k1,b',k2,k3⟩:=hx;rw[h1]at k2;cases k2;have hl:=aiN hq;obtain⟨v,hv⟩:∃ v,vs[off]? = some v:=⟨_,bu (by rw[h4];exact(b7.1 hl).1)⟩
      have hr:=h5 off _ v hl hv;refine jT.pure r (v:=v) ?_ rfl hr;have ke:w.cell? ⟨b,off,none⟩=some v:=by
       simp only[World.cell?,h3];simpa using hv
      simp only[execOp,iA,k3,Instr.loadAt,Instr.sureAddr,Sem.run_bind,Sem.run_pure,Result.andThen_ok,KL hT w qm A6 b _ _ ke]
     .cases pF
    |_=>rw[hp]at pF;cases pF
  unfold I1 at h;split at h
  .rename_i id i n ql;by_cases ha:ti.isAgg=true
   .rw [a6 ha]at h;cases h
   .rw [aZ ha]at h;have A6:ti.isAgg=false:=by simpa using ha
    cases h;have hx:=r.op x;cases hp:σ.op x with
    |nm id' sz i' j=>
     rw[hp]at ql hx;simp only[Db]at ql;split at ql
     .rename_i nl T1 T0 n' sz' len el jg;split at ql
      .rename_i hc;simp only[bA,bI]at ql;obtain⟨rfl,rfl,rfl⟩:=ql;simp only[bF]at hc;have e1:=kO.1 hc.1;have e2:=kO.1 hc.2;subst e1 e2;have hi:i'<n':=ho _ aH;obtain⟨b,c,cur,f,h1,h2,h3,h4,h5,h6,h7,h8,h9,qw,se⟩:=(r.hb id' _ jg).wG aC;obtain⟨k1,b',n2,c2,k2,k3⟩:=hx;rw[h1]at k2;cases k2;refine jT.pure r (v:=L.iH id' i') ?_ rfl ⟨k1,rfl⟩;have ke:w.cell? ⟨b,i'*1+0,none⟩=some (L.iH id' i'):=by
        simp only[World.cell?,h2];simpa using h6 i' hi aH 
       simp only[execOp,iA,k3,Instr.loadAt,Instr.sureAddr,Sem.run_bind,Sem.run_pure,Result.andThen_ok,KL hT w qm A6 b _ _ ke]
      .cases ql
     .cases ql
    |_=>rw[hp]at ql;cases ql
  .exact ahy hT qm iA r h ho
 .cases h
def Xg{bs br:Nat->Prop}{l m:List E}{vs us:List Value}(h:ki bs br w l vs)(k:ki bs br w m us)(off:Nat):ki bs br w (Bu l off m) (vs.take off++us++vs.drop (off+us.length)):=by
 unfold Bu;rw[k.len];exact((h.take off).app k).app (h.drop _)
def ai4{q:E->Bool}{l m:List E}(h:l.all q=true)(k:m.all q=true)(off:Nat):(Bu l off m).all q=true:=by
 unfold Bu;rw[List.all_append,List.all_append,k];have h1:(l.take off).all q=true:=bM.2 λx hx=>bM.1 h x (dK hx)
 have h2:(l.drop (off+m.length)).all q=true:=bM.2 λx hx=>bM.1 h x (dX hx)
 rw[h1,h2];rfl
def Xh{R R':PV->Value->Prop}{l m:List PV}{vs us:List Value}(h:vs.length=l.length)(k:us.length=m.length)(off:Nat)
 (hl:∀ (i:Nat) (p:PV) (v:Value),l[i]? = some p->vs[i]? = some v->R p v) (hm:∀ (i:Nat) (p:PV) (v:Value),m[i]? = some p->us[i]? = some v->R' p v) (hR:∀ p v,R p v->R' p v):
 (vs.take off++us++vs.drop (off+us.length)).length=(C6 l off m).length/\∀ (i:Nat) (p:PV) (v:Value),(C6 l off m)[i]? = some p->(vs.take off++us++vs.drop (off+us.length))[i]? = some v->R' p v:=by
 unfold C6;rw[k];refine⟨by simp[h,k],λi p v hp hv=>?_⟩;rw[dM,dM]at hp hv;simp only[cg,b9,h,k]at hp hv;by_cases h1:i<min off l.length+m.length
 .rw [a6 h1]at hp hv;by_cases h2:i<min off l.length
  .rw [a6 h2]at hp hv;rw[du]at hp hv;split at hp
   .rename_i h3;rw[a6 h3]at hv;exact hR _ _ (hl i p v hp hv)
   .cases hp
  .rw [aZ h2]at hp hv;exact hm _ p v hp hv
 .rw [aZ h1]at hp hv;rw[dv]at hp hv;exact hR _ _ (hl _ p v hp hv)
def nE.M1{w:World}{v:Value}{T:TypeId}{n sz:Nat}{f:Nat->Nat->Value}{nl:Bool}(h:nE w v T n sz f nl):v.cells.toList=[v]/\v.oneCell'=true/\pQ v=false:=by
 rcases h with⟨rfl,_⟩|⟨b,c,cur,rfl,_⟩<;>exact⟨rfl,rfl,rfl⟩
def nx.M1{bs br:Nat->Prop}{id:Nat}{b:Bx}(h:nx bs br L w id b)(hs:b.Vi=true):(L.val id).cells.toList=[L.val id]/\(L.val id).oneCell'=true/\pQ (L.val id)=false:=by
 cases b with
 |row nl T n sz el=>obtain⟨f,h1,_⟩:=h;exact h1.M1
 |jH nl T1 T0 n sz len el pend=>
  rcases h with⟨h,_⟩|⟨b,c,cur,f,h,_⟩<;>rw[h]<;>exact⟨rfl,rfl,rfl⟩
 |cells _ _=>cases hs
 |oE _ _ _=>cases hs
def Py{id:Nat}:∀ i,L.me i->(L.set id (L.own id) (L.val id) (L.iH id)).me i/\(L.set id (L.own id) (L.val id) (L.iH id)).val i=L.val i/\∀ j,(L.set id (L.own id) (L.val id) (L.iH id)).iH i j=L.iH i j:=by
 intro i hi;by_cases e:i=id
 .subst e;exact⟨.inr hi,Lk.pn,λj=>Lk.sc j⟩
 .exact ⟨.inr hi,Lk.yD e,λj=>Lk.Dh e j⟩
def afe(hT:mH P T){t:TypeId}{x y:Operand}(iA:o.op = .store t x y)(r:iZ w0 B σ a w L)(h:jD P K T O σ o=some u)(ho:∀ q,q ∈ u.jB->q):jT P K w0 B σ o a w u:=by
 simp only[jD,iA,I4]at h;have hx:=r.op x;have hy:=r.op y;split at h
 .rename_i ti qm;split at h
  .
   rename_i id off e pg Cw;rw[pg]at hx;rw[Cw]at hy;split at h
   .rename_i T1 l m jg hm;split at h
    .rename_i hc;cases h;simp only[bF]at hc;have c1:=kO.1 hc.1.1;have c2:=cG hc.1.2;obtain⟨b,vs,h1,h2,h3,h4,h5⟩:=r.hb id _ jg;obtain⟨k1,b',k2,k3⟩:=hx;rw[h1]at k2;cases k2;obtain⟨q1,q2⟩:=hy.cells hm;have ht:=qY.setRow (L:=L) ((h2 b).2 rfl) (λx hx=>(r.hw id x hx).2) (vs.take off++(a.eval y).cells.toList++vs.drop (off+(a.eval y).cells.toList.length)).toArray;have hl:=ht.later (L.val id) (L.iH id);refine⟨undef,_,_,.inr ⟨?_,rfl⟩,r.rT id (.cells T1 (Bu l off m)) _ k1 ht ⟨b,_,by rw[Lk.pn];exact h1,λx=>(Lk.sr x).trans (h2 x),setRow_heap w b _ _ T1 _ h3,(Xg h4 q1 off).mono λ_ _=>hl.kH,?_⟩ ?_,.any _⟩
     .have hr:=ER hT w qm b off T1 vs.toArray h3 (a.eval y) (by rw[q1.len,c1]) (by rw[q1.len,eJ,h4.len];exact c2) q2;simp only[execOp,iA,k3,Instr.storeAt,Instr.sureAddr,Sem.run_bind,Sem.run_pure,Result.andThen_ok,hr]
     .intro v hv;simp only[dr]at hv;rcases hv with(hv|hv)|hv
      .exact h5 v (dK hv)
      .exact q2 v hv
      .exact h5 v (dX hv)
     .intro hn;have:=hc.2;rw[hn]at this;exact ai4 (r.hl hn id _ jg) (by simpa using this) off
    .cases h
   .rename_i nl T1 l m jg hm;split at h
    .rename_i hc;cases h;simp only[bF]at hc;have c1:=kO.1 hc.1.1;have c2:=cG hc.1.2;obtain⟨b,vs,h1,h2,h3,h4,h5,h6⟩:=r.hb id _ jg;obtain⟨k1,b',k2,k3⟩:=hx;rw[h1]at k2;cases k2;obtain⟨q1,q2⟩:=hy.cells hm;have ht:=qY.setRow (L:=L) ((h2 b).2 rfl) (λx hx=>(r.hw id x hx).2) (vs.take off++(a.eval y).cells.toList++vs.drop (off+(a.eval y).cells.toList.length)).toArray;have hl:=ht.later (L.val id) (L.iH id);obtain⟨p1,p2⟩:=Xh (R:=kQ (iS B L) (jm L) L w) (R':=kQ (iS B (L.set id (L.own id) (L.val id) (L.iH id))) (jm (L.set id (L.own id) (L.val id) (L.iH id))) (L.set id (L.own id) (L.val id) (L.iH id)) (w.setRow b (vs.take off++(a.eval y).cells.toList++vs.drop (off+(a.eval y).cells.toList.length)).toArray))
      h4 (us:=(a.eval y).cells.toList) (m:=m.map .e) (by rw[q1.len,ck]) off h5 (λi p v hp hv=>by
       rw[b6]at hp;obtain⟨e0,he,rfl⟩:=bT.1 hp;exact hl.kH (q1.kH i e0 v he hv)) λp v k=>k.later hl Py
     refine⟨undef,_,_,.inr ⟨?_,rfl⟩,r.rT id (.oE nl T1 (C6 l off (m.map .e))) _ k1 ht ⟨b,_,by rw[Lk.pn];exact h1,λx=>(Lk.sr x).trans (h2 x),setRow_heap w b _ _ T1 _ h3,p1,p2,?_⟩ ?_,.any _⟩
     .have hr:=ER hT w qm b off T1 vs.toArray h3 (a.eval y) (by rw[q1.len,c1]) (by rw[q1.len,eJ,h4];exact c2) q2;simp only[execOp,iA,k3,Instr.storeAt,Instr.sureAddr,Sem.run_bind,Sem.run_pure,Result.andThen_ok,hr]
     .intro v hv;simp only[dr]at hv;rcases hv with(hv|hv)|hv
      .exact h6 v (dK hv)
      .refine ⟨q2 v hv,λhn=>?_⟩;have:=hc.2;rw[hn]at this;have DX:m.all E.mN=true:=by simpa using this
       obtain⟨i,hi⟩:=dk.1 hv;have iB:i<m.length:=by rw[<-q1.len];exact(b7.1 hi).1
       exact(q1.kH i _ v (bu iB) hi).mN (bM.1 DX _ (cA iB))
      .exact h6 v (dX hv)
     .intro hn;exact r.hl hn id (.oE nl T1 l) jg
    .cases h
   .cases h
  .
   rename_i id off q pg Cw;rw[pg]at hx;rw[Cw]at hy;unfold DM at h;split at h
   rotate_left
   .unfold I5 at h;split at h
    .rename_i nl T1 l bq jg tC;split at h
     .rename_i hc;cases h;simp only[bF]at hc;have c1:=kO.1 hc.1.2;have c2:off<l.length:=by simpa[fm]using hc.2
      obtain⟨b,vs,h1,h2,h3,h4,h5,h6⟩:=r.hb id _ jg;obtain⟨k1,b',k2,k3⟩:=hx;rw[h1]at k2;cases k2;obtain⟨UZ,zE⟩:=hy;obtain⟨d1,d2,d3⟩:=(r.hb q _ tC).M1 hc.1.1;have mJ:(a.eval y).cells.toList=[L.val q]:=by rw[zE,d1]
      have ht:=qY.setRow (L:=L) ((h2 b).2 rfl) (λx hx=>(r.hw id x hx).2) (vs.take off++[L.val q]++vs.drop (off+[L.val q].length)).toArray;have hl:=ht.later (L.val id) (L.iH id);obtain⟨p1,p2⟩:=Xh (R:=kQ (iS B L) (jm L) L w) (R':=kQ (iS B (L.set id (L.own id) (L.val id) (L.iH id))) (jm (L.set id (L.own id) (L.val id) (L.iH id))) (L.set id (L.own id) (L.val id) (L.iH id)) (w.setRow b (vs.take off++[L.val q]++vs.drop (off+[L.val q].length)).toArray))
       h4 (us:=[L.val q]) (m:=[.own q]) rfl off h5 (λi p v hp hv=>by
        cases i with
        |zero=>
         simp at hp hv;subst hp hv;have:=Py (L:=L) (id:=id) q UZ;exact⟨this.1,this.2.1.symm⟩
        |succ i=>simp at hp) λp v k=>k.later hl Py
      refine⟨undef,_,_,.inr ⟨?_,rfl⟩,r.rT id (.oE nl T1 (C6 l off [.own q])) _ k1 ht ⟨b,_,by rw[Lk.pn];exact h1,λx=>(Lk.sr x).trans (h2 x),setRow_heap w b _ _ T1 _ h3,p1,p2,?_⟩ ?_,.any _⟩
      .have hr:=ER hT w qm b off T1 vs.toArray h3 (a.eval y) (by rw[mJ,c1];rfl) (by rw[mJ,eJ,h4];exact c2) (by rw[mJ];exact λu hu=>by rw[fz.1 hu];exact d2);rw[mJ]at hr;simp only[execOp,iA,k3,Instr.storeAt,Instr.sureAddr,Sem.run_bind,Sem.run_pure,Result.andThen_ok,hr]
      .intro v hv;simp only[dr]at hv;rcases hv with(hv|hv)|hv
       .exact h6 v (dK hv)
       .rw [fz.1 hv];exact⟨d2,λ_=>d3⟩
       .exact h6 v (dX hv)
      .intro hn;exact r.hl hn id (.oE nl T1 l) jg
     .cases h
    .cases h
   rename_i u' hM;cases h;unfold I6 at hM;have h:=hM;clear hM;split at h
   .rename_i T1 x0 nl T0 n sz el jg tC;split at h
    .rename_i hc;cases h;rw[bF]at hc;obtain⟨hc,px⟩:=hc;have e0:=kO.1 px;subst e0;simp only[bF,dO]at hc;have jl:id≠q:=λe=>by rw[e,ch]at hc;cases hc.1
     have c1:=kO.1 hc.2;obtain⟨b,vs,h1,h2,h3,h4,h5⟩:=r.hb id _ jg;obtain⟨k1,b',k2,k3⟩:=hx;rw[h1]at k2;cases k2;obtain⟨_,zE⟩:=hy;obtain⟨v0,rfl⟩:∃ v0,vs=[v0]:=by
      have:=h4.len;rcases vs with _|⟨v0,_|⟨v1,vs⟩⟩
      .simp at this
      .exact ⟨v0,rfl⟩
      .simp at this
     obtain⟨f,g1,_⟩:=r.hb q _ tC;have ke:(L.val q).cells.toList=[L.val q]/\(L.val q).oneCell'=true:=by
      rcases g1 with⟨g,_⟩|⟨b1,c1,cur,g,_⟩<;>rw[g]<;>exact⟨rfl,rfl⟩
     have ht:=qY.setRow (L:=L) ((h2 b).2 rfl) (λx hx=>(r.hw id x hx).2) #[L.val q];obtain⟨L',hr⟩:=r.oH jg tC jl h1 (setRow_heap w b _ _ T1 _ h3) ht;refine⟨undef,_,L',.inr ⟨?_,rfl⟩,hr,.any _⟩;have kP:=ER hT w qm b 0 T1 #[v0] h3 (a.eval y) (by rw[zE,ke.1,c1];rfl) (by rw[zE,ke.1];exact bg 1) (by rw[zE,ke.1];exact λu hu=>by rw[fz.1 hu];exact ke.2);rw[zE,ke.1]at kP;simp only[execOp,iA,k3,Instr.storeAt,Instr.sureAddr,Sem.run_bind,Sem.run_pure,Result.andThen_ok,zE,kP];rfl
    .cases h
   .cases h
  .
   rename_i id sz i j e pg Cw;rw[pg]at hx;rw[Cw]at hy;split at h
   .rename_i nl T1 n s el m jg hm;split at h
    .rename_i hc;cases h;simp only[bF]at hc;have c1:=kO.1 hc.1.1.1.1;have c2:=kO.1 hc.1.1.1.2;have c3:=cG hc.1.1.2;subst c2;have hi:i<n:=ho _ aH;obtain⟨f,h1,h2,h3⟩:=r.hb id _ jg;obtain⟨k1,b',n',c',k2,k3⟩:=hx;rcases h1 with⟨h1,_⟩|⟨b,c,cur,h1,hg,oG,nI,mJ,ke,jG⟩
     .rw [k2]at h1;cases h1
     .rw [k2]at h1;cases h1;obtain⟨q1,q2⟩:=hy.cells hm;have lM:L.own id b':=(h2 b').2 (by rw[k2];rfl);have anU:i*s+s<=cur.size:=by
       rw[mJ];have:=bL s (aC:i+1<=c');rwa[bX,bZ]at this
      have rH:i*s+j+(a.eval y).cells.toList.length<=cur.size:=by rw[q1.len];omega
      have ht:=qY.setRow (L:=L) lM (λx hx=>(r.hw id x hx).2) (cur.toList.take (i*s+j)++(a.eval y).cells.toList++cur.toList.drop (i*s+j+(a.eval y).cells.toList.length)).toArray;have hl:=ht.later (L.val id) (L.iH id);refine⟨undef,_,_,.inr ⟨?_,rfl⟩,r.rT id _ _ k1 ht ⟨λi' j'=>if i'=i/\j<=j'/\j'<j+m.length then(a.eval y).cells.toList.getD (j'-j) undef else f i' j',?_,λx=>?_,?_⟩ ?_,.any _⟩
      .have hr:=ER hT w qm b' (i*s+j) T1 cur hg (a.eval y) (by rw[q1.len,c1]) rH q2;simp only[execOp,iA,k3,Instr.storeAt,Instr.sureAddr,Sem.run_bind,Sem.run_pure,Result.andThen_ok,hr]
      .rw [Lk.pn];refine .inr ⟨b',c',_,k2,setRow_heap w b' _ _ T1 _ hg,oG,nI,?_,?_,?_⟩
       .simp only[eJ,cg,b9,er,dw];have afV:=rH;simp only[dw]at afV;rw[dg aC];omega
       .intro i' j' mC sP;obtain⟨o1,o2⟩:=ke i' j' mC sP;have hlen:i'*s+j'<cur.size:=by
         rw[mJ];have:=bL s (aC:i'+1<=c');rw[bX,bZ]at this;omega
        have qE:i'≠i->i'*s+j'<i*s\/i*s+s<=i'*s+j':=by
         intro jl;rcases Nat.lt_or_gt_of_ne jl with iB|iB
         .left;have:=bL s (show i'+1<=i from iB);rw[bX,bZ]at this;omega
         .right;have:=bL s (show i+1<=i' from iB);rw[bX,bZ]at this;omega
        simp only[gE];rw[aos,dM,b9,dw,dg aC];by_cases lG:i'=i/\j<=j'/\j'<j+m.length
        .obtain ⟨rfl,p1,p2⟩:=lG;rw[aZ aC,dN (by rw[q1.len];omega)];have e1:i'*s+j'-(i'*s+j)=j'-j:= aC ;have iB:j'-j<(a.eval y).cells.toList.length:=by rw[q1.len];omega
         rw[a6 ⟨rfl,p1,p2⟩,e1,bh,bu iB];exact⟨rfl,q2 _ (cA iB)⟩
        .rw [aZ lG];refine⟨?_,o2⟩;by_cases jK:i'*s+j'<i*s+j
         .rw [a6 jK,du,a6 jK];simpa using o1
         .rw [aZ jK,fW,dv]
          .have:i*s+j+(a.eval y).cells.toList.length+(i'*s+j'-(i*s+j)-(a.eval y).cells.toList.length)=i'*s+j':=by
            rw[q1.len];by_cases F6:i'=i
            .subst F6;omega
            .have:=qE F6;omega
           rw[this];simpa using o1
          .rw [q1.len];by_cases F6:i'=i
           .subst F6;omega
           .have:=qE F6;omega
       .intro hn v hv;simp only[gF,dr]at hv;rcases hv with(hv|hv)|hv
        .exact jG hn v (by have:=dK hv;simpa using this)
        .obtain ⟨q,hq⟩:=dk.1 hv;have xg:q<m.length:=by rw[<-q1.len];exact(b7.1 hq).1
         have hmn:m.all E.mN=true:=by have:=hc.1.2;rw[hn]at this;simpa using this
         exact(q1.kH q _ v (bu xg) hq).mN (bM.1 hmn _ (cA xg))
        .exact jG hn v (by have:=dX hv;simpa using this)
      .rw [Lk.pn];exact(Lk.sr x).trans (h2 x)
      .intro i' j' mC sP;refine(λ(q:iC _ _ _ _ _/\_)=>⟨hl.kH q.1,q.2⟩) (?_:_/\_);dsimp only;by_cases lG:i'=i/\j<=j'/\j'<j+m.length
       .rw [a6 lG,a6 lG];have D8:j'-j<m.length:= aC ;have Gp:j'-j<(a.eval y).cells.toList.length:=by rw[q1.len];omega
        rw[bh,bu D8,bh,bu Gp];exact⟨q1.kH _ _ _ (bu D8) (bu Gp),bM.1 hc.2 _ (cA D8)⟩
       .rw [aZ lG,aZ lG];exact h3 i' j' mC sP
      .intro hn;have:=r.hl hn id _ jg;exact this
    .cases h
   .cases h
  .
   rename_i id i id' k pg Cw;rw[pg]at hx;rw[Cw]at hy;split at h
   .rename_i nl T1 T0 n sz len el k' jg;split at h
    .rename_i hc;cases h;simp only[bF]at hc;have c1:=kO.1 hc.1;have c2:=kO.1 hc.2;subst c1;have e1:i=k':=ho _ aH;have e2:k=k':=ho _ aH;have hk:k'<n:=ho _ aH;subst e1 e2;obtain⟨b,c,cur,f,h1,h2,h3,h4,h5,h6,h7,h8,h9,qw,se⟩:=(r.hb id _ jg).wG aC;obtain⟨k1,b',n',c',k2,k3⟩:=hx;obtain⟨_,Eh⟩:=hy;rw[h1]at k2;cases k2;have Ct:(L.iH id k).oneCell'=true/\pQ (L.iH id k)=false/\(L.iH id k).cells = #[L.iH id k]:=by
      rcases(h8 k hk).1 with⟨e,_⟩|⟨_,_,_,e,_⟩<;>rw[e]<;>exact⟨rfl,rfl,rfl⟩
     have lM:L.own id b:=(h9 b).2 (.inl rfl);have ht:=qY.setRow (L:=L) lM (λx hx=>(r.hw id x hx).2) (cur.toList.take (k*1+0)++(a.eval y).cells.toList++cur.toList.drop (k*1+0+(a.eval y).cells.toList.length)).toArray;have hl:=ht.later (L.val id) (L.iH id);have xT:(a.eval y).cells.toList=[L.iH id k]:=by rw[Eh,Ct.2.2]
     have Ua:(cur.toList.take (k*1+0)++(a.eval y).cells.toList++cur.toList.drop (k*1+0+(a.eval y).cells.toList.length)).toArray=cur.setIfInBounds k (L.iH id k):=by
      rw[xT];apply dm;simp only[b8,bR,fO,aoK];rw[List.set_eq_take_append_cons_drop,a6 (by simpa using(aC:k<cur.size))];simp
     rw[Ua]at ht hl;have w8:∀ x,x≠b->(w.setRow b (cur.setIfInBounds k (L.iH id k))).heap[x]? = w.heap[x]?:=λx hx=>setRow_other w b x _ hx
     refine⟨undef,_,_,.inr ⟨?_,rfl⟩,r.rT id _ _ k1 ht (.inr ⟨b,c,cur.setIfInBounds k (L.iH id k),f,by rw[Lk.pn];exact h1,setRow_heap w b _ _ T1 _ h2,h3,h4,by simpa using h5,?_,?_,?_,?_,?_,?_⟩) ?_,.any _⟩
     .have hr:=ER hT w qm b (k*1+0) T1 cur h2 (a.eval y) (by rw[xT];simpa using c2.symm) (by rw[xT];simp;omega) (by rw[xT];simpa using Ct.1);rw[Ua]at hr;simp only[execOp,iA,k3,Instr.storeAt,Instr.sureAddr,Sem.run_bind,Sem.run_pure,Result.andThen_ok,hr]
     .intro q hq _;rw[Lk.sc];by_cases uf:q=k
      .subst uf;have:q<cur.size:= aC ;simp[this]
      .rw [aoH (λe=>uf e.symm)];exact h6 q hq (by simpa using λe=>uf e.symm)
     .intro v hv;rcases Array.mem_or_eq_of_mem_setIfInBounds hv with hv|hv
      .exact h7 v hv
      .subst hv;exact Ct.2.1
     .intro q hq;obtain⟨p1,p2⟩:=h8 q hq;rw[Lk.sc];exact⟨p1.block λx hx=>w8 x λe=>se q hq (e▸hx),λi j hi hj=>⟨hl.kH (p2 i j hi hj).1,(p2 i j hi hj).2⟩⟩
     .intro x;rw[Lk.sr];refine(h9 x).trans ?_;simp only[Lk.sc]
     .simp only[Lk.sc];exact qw
     .simp only[Lk.sc];exact se
     .intro hn;have:=r.hl hn id _ jg;exact this
    .cases h
   .cases h
  .cases h
 .cases h
def aeO(hT:mH P T){t:TypeId}(iA:o.op = .alloc t)(r:iZ w0 B σ a w L)(h:jD P K T O σ o=some u):jT P K w0 B σ o a w u:=by
 simp only[jD,iA]at h;split at h
 .rename_i ti qm;split at h
  .rename_i z hz;obtain⟨id,hd,jG,rfl⟩:=J7 h;obtain⟨zv,sU,rZ⟩:=E7 hz;obtain⟨q1,q2⟩:=rZ (iS B L) (jm L) w;obtain⟨L',r',hp⟩:=r.WI id t z zv q1 q2 (by simpa[Bx.nl]using jG);refine⟨_,_,L',.inl ?_,r',hp⟩;simp only[execOp,iA,Instr.alloc,Sem.run_bind,Pm hT w qm sU,Result.andThen_ok,newVar,newRow,run_newObj_alloc,Sem.run_pure]
  .cases h
 .cases h
def aeS{t:TypeId}{x:Operand}(iA:o.op = .box t x)(r:iZ w0 B σ a w L)(h:jD P K T O σ o=some u):jT P K w0 B σ o a w u:=by
 simp only[jD,iA]at h;have hx:=r.op x;split at h
 .rename_i e hv;rw[hv]at hx;split at h
  .rename_i l hl;obtain⟨id,hd,jG,rfl⟩:=J7 h;obtain⟨q1,q2⟩:=hx.cells hl;obtain⟨L',r',hp⟩:=r.WI id t l (a.eval x) q1 q2 (by simpa[Bx.nl]using jG);refine⟨_,_,L',.inl ?_,r',hp⟩;simp only[execOp,iA,Instr.box,Sem.run_bind,Result.andThen_ok,newVar,newRow,run_newObj_alloc,Sem.run_pure]
  .cases h
 .cases h
end
def aeo(us:List Value):∀ (off k:Nat) (cs:Array Value),off+k+us.length<=cs.size ->
 (us.zipIdx k).foldl (λcs (c:Value×Nat)=>cs.setIfInBounds (off+c.2) c.1) cs=(cs.toList.take (off+k)++us++cs.toList.drop (off+k+us.length)).toArray:=by
 induction us with
 |nil=>intro off k cs h;simp
 |cons x us ih=>
  intro off k cs h;simp only[List.zipIdx_cons,List.foldl_cons];rw[ih off (k+1) _ (by simp at h ⊢;omega)];apply dm;simp only[cQ]at h;obtain⟨A,y,D,mJ,hA⟩:∃ A y D,cs.toList=A++y::D/\A.length=off+k:=by
   have iB:off+k<cs.toList.length:= aN ;refine⟨cs.toList.take (off+k),cs.toList[off+k],cs.toList.drop (off+k+1),?_,by rw[b9];omega⟩;rw[<-fc iB,aom]
  simp only[aoK,cQ,mJ,<-hA];rw[List.set_append_right _ _ (bg _),dp,List.set_cons_zero,
   show off+(k+1)+us.length=A.length+(us.length+1)by omega,(aC:off+(k+1)=A.length+1),
   List.take_length_add_append,aoL,List.take_left,aoL]
  simp
def S5(place:Nat->Option (Nat×Nat))(cs:Array Value)(i:Nat)(v:Value)(rest:List (Nat×Value))(off:Nat)(hp:place i=some (off,v.cells.toList.length))(rH:off+v.cells.toList.length<=cs.size):
 Instr.fill place cs ((i,v)::rest)=Instr.fill place (cs.toList.take off++v.cells.toList++cs.toList.drop (off+v.cells.toList.length)).toArray rest:=by
 have h1:¬(v.cells.size≠v.cells.toList.length\/off+v.cells.size>cs.size):=by simp at rH ⊢;omega
 have hf:=aeo v.cells.toList off 0 cs (by simpa using rH);simp only[bR]at hf;have h2:(v.cells.zipIdx.foldl (λcs (c,j)=>cs.setIfInBounds (off+j) c) cs)=(cs.toList.take off++v.cells.toList++cs.toList.drop (off+v.cells.toList.length)).toArray:=by
  rw[<-hf,<-Array.foldl_toList,Array.toList_zipIdx]
 rw[Instr.fill,hp];simp only;rw[aZ (by simpa using h1),h2]
section
variable {P:Program} {K:World->Prop} {T:List TI} {O:qu} {w0:World} {B:Nat->Prop} {σ:PS} {o:Oper} {a:Act} {w:World} {L:Lk} {u:kq}
def Ms(r:iZ w0 B σ a w L){place:Nat->Option (Nat×Nat)}{ps:List (Nat×Operand)}{l m:List E}{cs:Array Value}(h:sy σ place l ps=some m)
 (hr:ki (iS B L) (jm L) w l cs.toList) (h1:∀ u ∈ cs,u.oneCell'=true):
 ∃ cs',Instr.fill place cs (ps.map λx=>(x.1,a.eval x.2))=some cs'/\ki (iS B L) (jm L) w m cs'.toList/\(∀ u ∈ cs',u.oneCell'=true):=by
 induction ps generalizing l cs with
 |nil=>
  simp only[sy]at h;cases h;exact⟨cs,rfl,hr,h1⟩
 |cons p ps ih=>
  obtain⟨i,x⟩:=p;simp only[sy]at h;have hx:=r.op x;split at h
  .rename_i off size e hp hv;rw[hv]at hx;split at h
   .rename_i q hq;split at h
    .rename_i hc;simp only[bF]at hc;have c1:=kO.1 hc.1;have c2:=cG hc.2;obtain⟨q1,q2⟩:=hx.cells hq;have hlen:(a.eval x).cells.toList.length=size:=by rw[q1.len,c1]
     have hcl:=hr.len;rw[eo,S5 place cs i (a.eval x) _ off (by rw[hlen];exact hp) (by rw[q1.len];simp at hcl;omega)];refine ih h (Xg hr q1 off) λv hv=>?_
     simp only[gF,dr]at hv;rcases hv with(hv|hv)|hv
     .exact h1 v (by have:=dK hv;simpa using this)
     .exact q2 v hv
     .exact h1 v (by have:=dX hv;simpa using this)
    .cases h
   .cases h
  .cases h
def OK(ps:Array (Nat×Operand))(a:Act):(ps.map λ(x:Nat×Operand)=>(x.1,a.eval x.2)).toList=ps.toList.map λx=>(x.1,a.eval x.2):= aH 
def aiW{P:Program}(hT:mH P T){fs:List Field}{pl:List (Nat×Nat)}(h:GY T fs=some pl):fs.mapM (λf=>(P.info? f.type).map λi=>(f.offset,i.size))=some pl:=by
 induction fs generalizing pl with
 |nil=>simp only[GY]at h;cases h;rfl
 |cons f fs ih=>
  simp only[GY]at h;split at h
  .rename_i ti l h1 h2;cases h;simp[fA,hT.zJ h1,ih h2]
  .cases h
def aeT(hT:mH P T){t:TypeId}{ps:Array (Nat×Operand)}(iA:o.op = .build t ps)(r:iZ w0 B σ a w L)(h:jD P K T O σ o=some u):jT P K w0 B σ o a w u:=by
 simp only[jD,iA]at h;have main:∀ (l:List E) (cs:Array Value),P.built t (ps.toList.map λx=>(x.1,a.eval x.2))=some cs->ki (iS B L) (jm L) w l cs.toList->u={ r:=.e (.agg l) }->jT P K w0 B σ o a w u:=by
  intro l cs hb hr hu;subst hu;have kP:=run_build (P:=P) w t (ps.map λ(x:Nat×Operand)=>(x.1,a.eval x.2)) cs (by rw[OK];exact hb);refine jT.pure r (v:=.agg cs) ?_ rfl (by have:=hr.agg;rwa[Array.toArray_toList]at this);simp only[execOp,iA,Sem.run_bind,kP,Result.andThen_ok,Sem.run_pure]
 split at h
 .rename_i ti qm;split at h
  .rename_i z hz;obtain⟨zv,sU,rZ⟩:=E7 hz;obtain⟨q1,q2⟩:=rZ (iS B L) (jm L) w;split at h
   .rename_i fs hd;split at h
    .rename_i pl Cv;obtain⟨l,hl,rfl⟩:=bT.1 h;obtain⟨cs,p1,p2,_⟩:=Ms r hl q1 (λu hu=>q2 u (by simpa using hu));refine main l cs ?_ p2 rfl;unfold Program.built;rw[hT.zJ qm,hT.rq qm,hd];simp only[sU,aiW hT Cv];have:(λx:Nat=>pl.toArray[x]?)=λx=>pl[x]?:=by funext x;simp
     rw[this];exact p1
    .cases h
   .rename_i n e hd;split at h
    .rename_i te nJ;obtain⟨l,hl,rfl⟩:=bT.1 h;obtain⟨cs,p1,p2,_⟩:=Ms r hl q1 (λu hu=>q2 u (by simpa using hu));refine main l cs ?_ p2 rfl;unfold Program.built;rw[hT.zJ qm,hT.rq qm,hd];simp only[sU,hT.zJ nJ];exact p1
    .cases h
   .cases h
  .cases h
 .cases h
def XS{α:Type}(n:Nat)(l:List α):(kH n l).length=n*l.length:=by
 induction n with
 |zero=>simp[kH]
 |succ n ih=>simp only[kH,cg,ih,bX,bZ];omega
def aj7{α:Type}(n:Nat)(l:List α)(q:Nat)(h:q<n*l.length):(kH n l)[q]? = l[q%l.length]?:=by
 induction n generalizing q with
 |zero=>simp at h
 |succ n ih=>
  simp only[kH];rw[bX,bZ]at h;by_cases hq:q<l.length
  .rw [dN hq,ca hq]
  .rw [fW aC,ih _ aC];congr 1;exact(Nat.mod_eq_sub_mod aC).symm
def aj8{bs br:Nat->Prop}{z:List E}{zs:Array Value}(h:ki bs br w z zs.toList)(n:Nat):ki bs br w (kH n z) ((Array.range (n*zs.size)).map (zs[· % zs.size]!)).toList:=by
 have hl:=h.len;simp only[dw]at hl;refine⟨by simp[XS,hl],λi p x hp hx=>?_⟩;have hi:i<n*zs.size:=by
  have:=(b7.1 hx).1;simpa using this
 have hz:0<zs.size:=by
  rcases ep zs.size with h0|h0
  .rw [h0]at hi;simp at hi
  .exact h0
 rw[aj7 _ _ _ (by rw[<-hl];exact hi),<-hl]at hp;have iB:=bH i hz;simp[hi]at hx;subst hx;rw[fu zs _ iB];exact h.kH _ p _ hp (by simp[iB])
def Y4(hB:∀ b,B b->b<w0.heap.size)(r:iZ w0 B σ a w L)(e:TypeId)(n sz:Nat)(l:List E)(cs:Array Value)(nl:Bool)(hr:ki (iS B L) (jm L) w l cs.toList)(h1:∀ u ∈ cs,u.oneCell'=true)(hlen:cs.size=n*sz)
 (uW:n<=9223372036854775807) (jG:nl=true->l.all E.mN=true) (tE:l.all (E.nr 2)=true):
 iZ w0 B σ a (w.alloc (.cells cs e)) L/\iC (iS B L) (jm L) (w.alloc (.cells cs e)) (.sl nl n sz λi j=>l.getD (i*sz+j) (.v (.bool false))) (.slice (some ⟨w.heap.size,0,none⟩) n n):=by
 have hb:Below w.heap.size w (w.alloc (.cells cs e)):=(Below.refl _ _).alloc (bg _) _;have hl:rz L w L (w.alloc (.cells cs e)):=⟨hb.size,λ_ _ h=>h,λx hx _=>hb.block x hx⟩
 refine⟨r.later hb,?_⟩;have lG:∀ i j,i<n->j<sz->i*sz+j<cs.size:=by
  intro i j hi hj;rw[hlen];have:=bL sz (show i+1<=n from hi);rw[bX,bZ]at this;omega
 have hll:=hr.len;simp only[dw]at hll;refine .sl nl n sz _ _ n (λi j=>cs.getD (i*sz+j) undef) (bg _) uW (λh=>by cases h) (λi j hi hj=>?_) (λi j hi hj=>?_) (λi j hi hj=>?_) (λi j hi hj=>?_)
 .have hq:=lG i j hi hj;have e1:cs.getD (i*sz+j) undef=cs[i*sz+j]:=by simp[hq]
  rw[e1];refine⟨h1 _ (gz hq),λrI=>?_⟩;have uX:i*sz+j<l.length:= aC ;exact(hr.kH (i*sz+j) _ _ (bu uX) (by simp[hq])).mN (bM.1 (jG rI) _ (cA uX))
 .have hq:=lG i j hi hj;have uX:i*sz+j<l.length:= aC ;rw[bh,bu uX];exact bM.1 tE _ (cA uX)
 .have hq:=lG i j hi hj;refine⟨w.heap.size,0,rfl,λA8=>?_,aH,?_⟩
  .rcases A8 with hx|⟨id,hx⟩
   .have:=hB _ hx;have:=r.he.size;omega
   .have:=(r.hw id _ hx).2;omega
  .rw [b5,World.cell?_alloc_new];simp[hq]
 .have hq:=lG i j hi hj;have uX:i*sz+j<l.length:= aC ;have e1:cs.getD (i*sz+j) undef=cs[i*sz+j]:=by simp[hq]
  rw[e1,bh,bu uX];exact hl.kH (hr.kH (i*sz+j) _ _ (bu uX) (by simp[hq]))
def ahn{l:List E}{vs:List Value}{bs br:Nat->Prop}{w:World}(h:ki bs br w l vs)(hl:l.all E.mN=true):∀ v ∈ vs,pQ v=false:=by
 intro v hv;obtain⟨i,hi⟩:=dk.1 hv;obtain⟨zf,_⟩:=b7.1 hi;have F7:i<l.length:=by have:=h.len;omega
 exact(h.kH i _ v (bu F7) hi).mN (bM.1 hl _ (cA F7))
def RK(w:World)(hT:mH P T){t e:TypeId}{by_:Nat}(h:IK T t=some (e,by_)):∃ te zv uz,P.underlying t=some (.slice e)/\mO T e=some te/\te.i.size=1/\te.i.bytes=by_/\1<=by_/\te.i.zero=some zv/\zv.cells = #[uz]/\uz.oneCell'=true/\pQ uz=false:=by
 unfold IK at h;split at h
 .rename_i tt qN;split at h
  .rename_i e' hd;split at h
   .rename_i te nJ;split at h
    .rename_i z hz;split at h
     .rename_i hc;simp only[bA,bI]at h;obtain⟨rfl,rfl⟩:=h;simp only[bF]at hc;obtain⟨zv,sU,rZ⟩:=E7 hz;obtain⟨q1,q2⟩:=rZ (λ_=>False) (λ_=>False) w;have hl:=q1.len;simp only[dw,cQ,aot]at hl;obtain⟨uz,UN⟩:∃ uz,zv.cells = #[uz]:=by
       refine⟨zv.cells[0],?_⟩;apply Array.ext
       .simpa using hl
       .intro i h1 h2;obtain rfl:i=0:=by simp at h2;omega
        rfl
      rw[UN]at q1 q2;exact⟨te,zv,uz,by rw[hT.rq qN,hd],nJ,kO.1 hc.1.1,rfl,cG hc.1.2,sU,UN,q2 uz aH,(q1.kH 0 z uz rfl rfl).mN hc.2⟩
     .cases h
    .cases h
   .cases h
  .cases h
 .cases h
def nE.head{v:Value}{T:TypeId}{n sz:Nat}{f:Nat->Nat->Value}{nl:Bool}(h:nE w v T n sz f nl):v.cells.toList=[v]/\v.oneCell'=true/\pQ v=false:=by
 rcases h with⟨g,_⟩|⟨b1,c1,cur,g,_⟩<;>rw[g]<;>exact⟨rfl,rfl,rfl⟩
def afg(hT:mH P T){t:TypeId}{n q:Nat}{ps:Array (Nat×Operand)}(iA:o.op = .buildSlice t n ps)(sR:Bs σ ps.toList=some q)(r:iZ w0 B σ a w L)(h:B9 T σ o.dst t n q=some u):jT P K w0 B σ o a w u:=by
 obtain⟨x,pg,hx⟩:∃ x,ps.toList=[(0,x)]/\σ.op x = .own q:=by
  unfold Bs at sR;split at sR
  .rename_i x pg;refine⟨x,pg,?_⟩;generalize σ.op x=p at sR ⊢;cases p<;>simp only[PV.ED,reduceCtorEq,bA]at sR;rw[sR]
  .cases sR
 have UW:=r.op x;rw[hx]at UW;obtain⟨k1,k2⟩:=UW;unfold B9 at h;split at h
 .rename_i id Js;split at h
  .rename_i nl T0 m sz el e by_ kp tC A9;split at h
   .rename_i hc;cases h;simp only[bF,dO]at hc;obtain rfl:=kO.1 hc.1;have jl:id≠q:=λe=>by have:=hc.2;rw[e,ch]at this;cases this
    obtain⟨te,zv,uz,hu,nJ,tH,_,_,sU,wa,_,_⟩:=RK w hT A9;obtain⟨f,g1,g2,g3⟩:=r.hb q _ tC;obtain⟨d1,d2,d3⟩:=g1.head;have kP:(execOp a.eval o).run P w = .ok (.value (.slice (some ⟨w.heap.size,0,none⟩) 1 1)) (w.alloc (.cells #[L.val q] e)):=by
     have mJ:(Array.range (1*te.i.size)).map (zv.cells[· % zv.cells.size]!) = #[uz]:=by
      rw[tH,wa];refine Array.ext aH λi h1 h2=>?_
      have:i=0:=by simp at h2;omega
      subst this;simp
     have Jt:Instr.fill (λi=>some (i*te.i.size,te.i.size)) #[uz] (ps.map λ(x:Nat×Operand)=>(x.1,a.eval x.2)).toList=some #[L.val q]:=by
      rw[OK,pg];simp only[eo,List.map_nil];rw[S5 _ _ _ _ _ 0 (by rw[k2,d1,tH];rfl) (by rw[k2,d1];simp)];rw[k2,d1];rfl
     have ud:¬(1*te.i.size>16777216):= aC ;have h0:¬(1*te.i.size=0):= aC ;simp only[execOp,iA,Instr.buildSlice,Sem.run_bind,run_underlying hu,Result.andThen_ok,tR hT w nJ,ud,bn,h0,Sem.run_pure,Pm hT w nJ sU,mJ,Jt,newRow,run_newObj_alloc]
    have iB:w.heap.size<(w.alloc (.cells #[L.val q] e)).heap.size:= aH ;have hb:Below w.heap.size w (w.alloc (.cells #[L.val q] e)):=(Below.refl _ _).alloc (bg _) _;refine⟨_,_,_,.inl kP,r.qo jl _ (λx=>x=w.heap.size\/L.own q x) (.slice (some ⟨w.heap.size,0,none⟩) 1 1) (λ_=>L.val q) _ (λy hy=>?_) hb.size (λy hy _=>hb.block y hy) rfl rfl rfl (λhl=>?_) (λNi=>?_) (λhn=>?_),Lk.NQ jl,Lk.Gw.symm⟩
    .rcases hy with rfl|hy
     .exact ⟨.inr (.inr (bg _)),iB⟩
     .exact ⟨.inr (.inl hy),fB (r.hw q y hy).2 iB⟩
    .refine .inr ⟨w.heap.size,1,#[L.val q],λ_=>f,Lk.Gw,heap_alloc_new w _,bg _,aE,rfl,λk hk _=>?_,λv hv=>?_,λk hk=>?_,λy=>?_,λk k' y hk Cl _ _=> aC,λk hk=>?_⟩
     .obtain rfl:k=0:= aC ;rw[Lk.yb];rfl
     .have:v=L.val q:=by simpa using hv
      rw[this];exact d3
     .rw [Lk.yb];exact⟨g1.block λy hy=>hb.block y (r.hw q y ((g2 y).2 hy)).2,λi j hi hj=>⟨hl.kH (g3 i j hi hj).1,(g3 i j hi hj).2⟩⟩
     .rw [Lk.VE];constructor
      .rintro (h|h)
       .exact .inl h
       .exact .inr ⟨0,aE,by rw[Lk.yb];exact(g2 y).1 h⟩
      .rintro (h|⟨k,_,h⟩)
       .exact .inl h
       .rw [Lk.yb]at h;exact .inr ((g2 y).2 h)
     .rw [Lk.yb];intro h;have:=(r.hw q _ ((g2 _).2 h)).2;omega
    .have:=(r.hv id).1 Ni;rw[kp]at this;cases this
    .have:=r.hl hn q _ tC;exact this
   .cases h
  .cases h
 .cases h
def aeU(hT:mH P T)(hB:∀ b,B b->b<w0.heap.size){t:TypeId}{n:Nat}{ps:Array (Nat×Operand)}(iA:o.op = .buildSlice t n ps)(r:iZ w0 B σ a w L)(h:jD P K T O σ o=some u):jT P K w0 B σ o a w u:=by
 simp only[jD,iA]at h;split at h
 .rename_i q hq;exact afg hT iA hq r h
 split at h
 .rename_i tt qN;split at h
  .rename_i e hd;split at h
   .rename_i te nJ;split at h
    .rename_i z hz;split at h
     .rename_i hc;simp only[bF]at hc;have c1:=kO.1 hc.1.1;have c2:=cG hc.2;obtain⟨zv,sU,rZ⟩:=E7 hz;obtain⟨q1,q2⟩:=rZ (iS B L) (jm L) w;have hu:P.underlying t=some (.slice e):=by rw[hT.rq qN,hd]
      have CF:zv.cells.size=te.i.size:=by have:=q1.len;simp only[dw]at this;omega
      obtain⟨l,hl,h⟩:=gG.1 h;obtain⟨cs,p1,p2,p3⟩:=Ms r hl (aj8 q1 n) (λv hv=>by
       simp only[fo,fp]at hv;obtain⟨q,hq,rfl⟩:=hv;have Ei:0<zv.cells.size:=by
        rcases ep zv.cells.size with h0|h0
        .rw [h0]at hq;simp at hq
        .exact h0
       rw[fu zv.cells _ (bH q Ei)];exact q2 _ aH)
      have hlen:l.length=n*te.i.size:=by
       have:∀ (ps:List (Nat×Operand)) (l m:List E),sy σ (λi=>some (i*te.i.size,te.i.size)) l ps=some m->m.length=l.length:=by
        intro ps
        induction ps with
        |nil=>intro l m h;simp only[sy]at h;cases h;rfl
        |cons p ps ih=>
         intro l m h;obtain⟨i,x⟩:=p;simp only[sy]at h;split at h
         .split at h
          .split at h
           .rename_i hc;simp only[bF]at hc;have:=cG hc.2;rw[ih _ _ h];simp[Bu];omega
           .cases h
          .cases h
         .cases h
       rw[this _ _ _ hl,XS,c1]
      have mJ:cs.size=n*te.i.size:=by have:=p2.len;simp only[dw]at this;omega
      have Jt:Instr.fill (λi=>some (i*te.i.size,te.i.size)) ((Array.range (n*te.i.size)).map (zv.cells[· % zv.cells.size]!)) (ps.map λ(x:Nat×Operand)=>(x.1,a.eval x.2)).toList=some cs:=by
       rw[OK,<-CF];rw[<-CF]at p1;exact p1
      have kP:(execOp a.eval o).run P w = .ok (.value (.slice (some ⟨w.heap.size,0,none⟩) n n)) (w.alloc (.cells cs e)):=by
       have ud:¬(n*te.i.size>16777216):= aC ;by_cases h0:n*te.i.size=0
       .have e0:∀ g:Nat->Value,(Array.range 0).map g = #[]:=λg=>by simp[Array.range]
        have Uc:=Jt;rw[h0,e0]at Uc;have z24:¬(0>2^24):= aE ;simp only[execOp,iA,Instr.buildSlice,Sem.run_bind,run_underlying hu,Result.andThen_ok,tR hT w nJ,ud,bn,h0,z24,bB,Sem.run_pure,e0,Uc,newRow,run_newObj_alloc]
       .simp only[execOp,iA,Instr.buildSlice,Sem.run_bind,run_underlying hu,Result.andThen_ok,tR hT w nJ,ud,bn,h0,Sem.run_pure,Pm hT w nJ sU,Jt,newRow,run_newObj_alloc]
      have mK:n<=9223372036854775807:=by
       have:=gw n (cG hc.1.2);omega
      by_cases tE:l.all (E.nr 2)=true
      .simp only[tE,fk,bE,bn]at h;split at h
       .
        obtain⟨id,Js,kp,jG,rfl⟩:=GG h;have hb:Below w.heap.size w (w.alloc (.cells cs e)):=(Below.refl _ _).alloc (bg _) _;have ht:qY L w id (λx=>x=w.heap.size) (w.alloc (.cells cs e)):=⟨λx hx=>⟨.inr aC,aN⟩,hb.size,λx hx _=>hb.block x hx,rfl,rfl,rfl⟩
        have iB:=ht.later (.slice (some ⟨w.heap.size,0,none⟩) n n) (λ_=>undef);have D6:∀ i j,i<n->j<te.i.size->i*te.i.size+j<n*te.i.size:=by
         intro i j hi hj;have:=bL te.i.size (show i+1<=n from hi);rw[bX,bZ]at this;omega
        refine⟨_,_,_,.inl kP,r.new id _ (λx=>x=w.heap.size) (.slice (some ⟨w.heap.size,0,none⟩) n n) (λ_=>undef) _ kp (λx hx=>by subst hx;simp) hb
         ⟨λi j=>cs.getD (i*te.i.size+j) undef,.inr ⟨w.heap.size,n,cs,Lk.pn,heap_alloc_new w _,bg _,by unfold maxLen;omega,mJ,λi j hi hj=>?_,λhn u hu=>?_⟩,λx=>?_,λi j hi hj=>?_⟩ jG,Lk.BI,Lk.pn.symm⟩
        .have hq:i*te.i.size+j<cs.size:=by rw[mJ];exact D6 i j hi hj
         have e1:cs.getD (i*te.i.size+j) undef=cs[i*te.i.size+j]:=by simp[hq]
         show cs[i*te.i.size+j]? = some (cs.getD (i*te.i.size+j) undef)/\(cs.getD (i*te.i.size+j) undef).oneCell'=true;rw[e1];exact⟨by simp[hq],p3 _ aH⟩
        .exact ahn p2 hn u (by simpa using hu)
        .rw [Lk.sr,Lk.pn];simp only[Value.ownBlock,bA];exact eq_comm
        .have hq:i*te.i.size+j<cs.size:=by rw[mJ];exact D6 i j hi hj
         have xg:i*te.i.size+j<l.length:=by rw[hlen];exact D6 i j hi hj
         have e1:cs.getD (i*te.i.size+j) undef=cs[i*te.i.size+j]:=by simp[hq]
         simp only[bh,bu xg,aou,e1];exact⟨iB.kH (p2.kH _ _ _ (bu xg) (by simp[hq])),bM.1 tE _ (cA xg)⟩
       split at h
       .rename_i DX;cases h;obtain⟨r',hp⟩:=Y4 hB r e n te.i.size l cs true p2 p3 mJ mK (λ_=>DX) tE;exact⟨_,_,L,.inl kP,r',hp⟩
       .cases h;obtain⟨r',hp⟩:=Y4 hB r e n te.i.size l cs false p2 p3 mJ mK (λh=>by cases h) tE;exact⟨_,_,L,.inl kP,r',hp⟩
      .simp [tE]at h
     .cases h
    .cases h
   .cases h
  .cases h
 .cases h
end
def IY{P:Program}{t e:TypeId}(h:P.underlying t=some (.slice e)):P.elem t=e:=by simp[Program.elem,h]
def adF{P:Program}{t e:TypeId}{n:Nat}(h:P.underlying t=some (.array n e)):P.elem t=e/\P.arrayLen t=n:=by simp[Program.elem,Program.arrayLen,h]
section
variable {P:Program} {K:World->Prop} {T:List TI} {O:qu} {w0:World} {B:Nat->Prop} {σ:PS} {o:Oper} {a:Act} {w:World} {L:Lk} {u:kq}
def ae0(hT:mH P T){t:TypeId}{x i:Operand}(iA:o.op = .indexAddr t x i)(r:iZ w0 B σ a w L)(h:jD P K T O σ o=some u)(ho:∀ q,q ∈ u.jB->q):jT P K w0 B σ o a w u:=by
 simp only[jD,iA,IZ]at h;have hx:=r.op x;have hi:=r.op i;split at h
 .rename_i k z hpi;rw[hpi]at hi;have hi:=iC.kC hi;split at h
  .rename_i tt qN;split at h
   .
    rename_i e hd;have hu:P.underlying t=some (.slice e):=by rw[hT.rq qN,hd]
    have he:=IY hu;split at h
    .rename_i te nJ;have kP:∀ (ad:Addr) (n c:Nat),a.eval x = .slice (some ad) n c->0<=z->z<n->(execOp a.eval o).run P w = .ok (.value (.pointer (some (ad.add (z.toNat*te.i.size))))) w:=by
      intro ad n c e1 h0 h1;have hr:=run_indexAt_slice (P:=P) w t ad n c k z (by rw[he];exact hu);rw[a6 ⟨h0,h1⟩,he,tR hT w nJ]at hr;simp only[execOp,iA,e1,hi,Sem.run_bind,hr,Result.andThen_ok,Sem.run_pure]
     split at h
     .rename_i nl n sz el pg;rw[pg]at hx;split at h
      .rename_i hs;simp only[bF]at hs;have ug:=cG hs.2;have hs:=kO.1 hs.1;cases h;have hz:0<=z/\z<n:=ho _ aH;have zF:z.toNat<n:= aC ;generalize hq:a.eval x=q at hx;cases hx with
       |sl _ _ _ _ A c f hc hm h0 hl tE cell kk=>
        obtain⟨b,of,e1,hb,iB,_⟩:=cell z.toNat 0 zF ug;subst e1;refine jT.pure r (kP ⟨b,of,none⟩ n c hq hz.1 hz.2) rfl ?_;rw[Addr.add_lit,hs];refine .iQ sz _ b _ (λj=>f z.toNat j) (λhm=>hb (.inr hm)) iB (λj hj=>(hl _ _ zF hj).1) (λj hj=>?_) (λj hj=>kk _ _ zF hj);obtain⟨b',of',e2,_,_,Ch⟩:=cell z.toNat j zF hj;cases e2;rwa[<-cR]at Ch
      .cases h
     .rename_i fl nl n sz el pg;rw[pg]at hx;split at h
      .rename_i hs;simp only[bF]at hs;have ug:=cG hs.2;have hs:=kO.1 hs.1;cases h;have hz:0<=z/\z<n:=ho _ aH;have zF:z.toNat<n:= aC ;generalize hq:a.eval x=q at hx;cases hx with
       |nB _ _ _ _ _ A c f hc hm h0 hl tE cell kk=>
        obtain⟨b,of,e1,hb,iB,_⟩:=cell z.toNat 0 zF ug;subst e1;refine jT.pure r (kP ⟨b,of,none⟩ n c hq hz.1 hz.2) rfl ?_;rw[Addr.add_lit,hs];refine .iQ sz _ b _ (λj=>f z.toNat j) hb iB (λj hj=>(hl _ _ zF hj).1) (λj hj=>?_) (λj hj=>kk _ _ zF hj);obtain⟨b',of',e2,_,_,Ch⟩:=cell z.toNat j zF hj;cases e2;rwa[<-cR]at Ch
      .cases h
     .rename_i id pg;rw[pg]at hx;split at h
      .rename_i nl T1 n sz el jg;split at h
       .rename_i hs;have hs:=kO.1 hs;cases h;have hz:0<=z/\z<n:=ho _ aH;obtain⟨f,h1,h2,h3⟩:=r.hb id _ jg;obtain⟨k1,k2⟩:=hx;rcases h1 with⟨h1,rI⟩|⟨b,c,cur,h1,hg,oG,nI,mJ,ke,jG⟩
        .omega
        .rw [h1]at k2;refine jT.pure r (kP ⟨b,0,none⟩ n c k2 hz.1 hz.2) rfl ⟨k1,b,n,c,h1,?_⟩;rw[Addr.add_lit,hs,b5,bR]
       .cases h
      .rename_i nl T1 T0 n sz len el pend jg;split at h
       .rename_i hs;have hs:=kO.1 hs;cases h;have hz:0<=z/\z<n:=ho _ aH;obtain⟨b,c,cur,f,h1,h2,h3,h4,h5,h6,h7,h8,h9,qw,se⟩:=(r.hb id _ jg).wG aC;obtain⟨k1,k2⟩:=hx;rw[h1]at k2;refine jT.pure r (kP ⟨b,0,none⟩ n c k2 hz.1 hz.2) rfl ⟨k1,b,n,c,h1,?_⟩;rw[Addr.add_lit,hs,b5,bR]
       .cases h
      .cases h
     .rename_i id k pg;rw[pg]at hx;split at h
      .rename_i nl T1 T0 n sz len el pend jg;split at h
       .rename_i hs;have hs:=kO.1 hs;cases h;have hk:k<n:=ho _ aH;have hz:0<=z/\z<len k:=ho _ aH;obtain⟨b0,c0,cur0,f,g1,g2,g3,g4,g5,g6,g7,g8,_⟩:=(r.hb id _ jg).wG aC;obtain⟨k1,k2⟩:=hx;rcases(g8 k hk).1 with⟨h1,rI⟩|⟨b,c,cur,h1,hg,oG,nI,mJ,ke,jG⟩
        .omega
        .rw [h1]at k2;refine jT.pure r (kP ⟨b,0,none⟩ (len k) c k2 hz.1 hz.2) rfl ⟨k1,b,len k,c,h1,?_⟩;rw[Addr.add_lit,hs,b5,bR]
       .cases h
      .cases h
     .cases h
    .cases h
   .
    rename_i n e hd;have hu:P.underlying t=some (.array n e):=by rw[hT.rq qN,hd]
    obtain⟨he,hn⟩:=adF hu;split at h
    .rename_i te nJ;have kP:∀ (ad:Addr),a.eval x = .pointer (some ad)->0<=z->z<n->(execOp a.eval o).run P w = .ok (.value (.pointer (some (ad.add (z.toNat*te.i.size))))) w:=by
      intro ad e1 h0 h1;have hr:=run_indexAt_array (P:=P) w t ad k z (by rw[he,hn];exact hu);rw[hn,a6 ⟨h0,h1⟩,he,tR hT w nJ]at hr;simp only[execOp,iA,e1,hi,Sem.run_bind,hr,Result.andThen_ok,Sem.run_pure]
     split at h
     .rename_i id off pg;rw[pg]at hx;cases h;have hz:0<=z/\z<n:=ho _ aH;obtain⟨k1,b,k2,k3⟩:=hx;refine jT.pure r (kP _ k3 hz.1 hz.2) rfl ⟨k1,b,k2,?_⟩;rw[Addr.add_lit]
     .rename_i m el pg;rw[pg]at hx;split at h
      .rename_i hs;have hs:=kO.1 hs;cases h;have hz:0<=z/\z<n:=ho _ aH;have lG:∀ j,j<te.i.size->z.toNat*te.i.size+j<m:=by
        intro j hj;rw[<-hs];have:=bL te.i.size (aC:z.toNat+1<=n);rw[bX,bZ]at this;omega
       generalize hq:a.eval x=q at hx;cases hx with
       |iQ _ _ b of f hb iB hl cell kk=>
        refine jT.pure r (kP _ hq hz.1 hz.2) rfl ?_;rw[Addr.add_lit];refine .iQ te.i.size _ b _ (λj=>f (z.toNat*te.i.size+j)) hb iB (λj hj=>hl _ (lG j hj)) (λj hj=>?_) (λj hj=>kk _ (lG j hj));have:=cell _ (lG j hj);rwa[<-cR]at this
      .cases h
     .cases h
    .cases h
   .cases h
  .cases h
 .cases h
def afd(hT:mH P T){t:TypeId}{x:Operand}{lo hi:Option Operand}(iA:o.op = .slice t x lo hi none)(r:iZ w0 B σ a w L)(h:jD P K T O σ o=some u)(ho:∀ q,q ∈ u.jB->q):jT P K w0 B σ o a w u:=by
 simp only[jD,iA,I3]at h;have hx:=r.op x;split at h
 .rename_i nl n sz el pg;rw[pg]at hx;split at h
  .rename_i tt qN;split at h
   .rename_i e hd;have hu:P.underlying t=some (.slice e):=by rw[hT.rq qN,hd]
    have he:=IY hu;have xi:P.underlying t=some (.slice (P.elem t)):=by rw[he];exact hu
    split at h
    .rename_i te nJ;split at h
     .rename_i hs;have hs:=kO.1 hs;generalize hq:a.eval x=q at hx;cases hx with
      |sl _ _ _ _ A c f hc hm h0 hl tE cell kk=>
       have fin:∀ l h':Nat,l<=h'->h'<=n->iC (iS B L) (jm L) w (.sl nl (h'-l) sz λi j=>el (l+i) j) (sliced A l h' c te.i.size):=by
        intro l h' hlh hhn;unfold sliced;refine .sl nl (h'-l) sz _ _ (c-l) (λi j=>f (l+i) j) aC aC (λhA=>?_) (λi j hi hj=>hl _ _ aC hj) (λi j hi hj=>tE _ _ aC hj) (λi j hi hj=>?_) (λi j hi hj=>kk _ _ aC hj)
        .split at hA
         .have:=h0 hA;omega
         .have:=h0 (by simpa using hA);omega
        .obtain ⟨b,of,e1,hb,iB,ke⟩:=cell (l+i) j aC hj;subst e1;rw[aZ aC];refine⟨b,of+l*te.i.size,by rw[ct,Addr.add_lit],hb,iB,?_⟩;rw[hs];rw[bX]at ke;rw[<-ke];congr 2;omega
       have run:∀ (l h':Nat) (lo' mC:Option Value),lo.map a.eval=lo'->hi.map a.eval=mC->(Instr.slice t (.slice A n c) lo' mC none).run P w = .ok (sliced A l h' c te.i.size) w ->
        (execOp a.eval o).run P w = .ok (.value (sliced A l h' c te.i.size)) w:=by
        intro l h' lo' mC e1 e2 hr;simp only[execOp,iA,Sem.run_bind,hq,e1,e2,Option.map_none,run_sliceAt_slice (P:=P) w t _ _ _ _ xi,hr,Result.andThen_ok,Sem.run_pure]
       split at h
       .rename_i kh hh pP rX;cases h;have hb:0<=hh/\hh<=n:=ho _ aH;cases lo with
        |some _=>simp at pP
        |none=>
         cases hi with
         |none=>simp at rX
         |some hi=>
          simp only[ct,bA]at rX;have hv:=r.op hi;rw[rX]at hv;have hv:=iC.kC hv;have hr:=run_slice_h (P:=P) w t A n c xi kh hh hb.1 aC;rw[he,tR hT w nJ]at hr;have hf:=fin 0 hh.toNat (bV _) aC ;simp only[dx,b5]at hf;exact jT.pure r (run 0 hh.toNat none (some (.int kh hh)) rfl (by rw[ct,hv]) hr) rfl hf
       .rename_i kl ll pP rX;cases h;have hb:0<=ll/\ll<=n:=ho _ aH;cases hi with
        |some _=>simp at rX
        |none=>
         cases lo with
         |none=>simp at pP
         |some lo=>
          simp only[ct,bA]at pP;have hv:=r.op lo;rw[pP]at hv;have hv:=iC.kC hv;have hr:=run_slice_l (P:=P) w t A n c xi kl ll hb.1 hb.2;rw[he,tR hT w nJ]at hr;exact jT.pure r (run ll.toNat n (some (.int kl ll)) none (by rw[ct,hv]) rfl hr) rfl (fin ll.toNat n aC (bg _))
       .rename_i kl ll kh hh pP rX;cases h;have hb:0<=ll/\ll<=hh/\hh<=n:=ho _ aH;cases hi with
        |none=>simp at rX
        |some hi=>
         cases lo with
         |none=>simp at pP
         |some lo=>
          simp only[ct,bA]at pP rX;have hv:=r.op lo;rw[pP]at hv;have hv:=iC.kC hv;have r7:=r.op hi;rw[rX]at r7;have r7:=iC.kC r7;have hr:=run_slice_lh (P:=P) w t A n c xi kl kh ll hh hb.1 hb.2.1 aC;rw[he,tR hT w nJ]at hr;exact jT.pure r (run ll.toNat hh.toNat (some (.int kl ll)) (some (.int kh hh)) (by rw[ct,hv]) (by rw[ct,r7]) hr) rfl (fin ll.toNat hh.toNat aC aC)
       .cases h
     .cases h
    .cases h
   .cases h
  .cases h
 .rename_i fl nl n sz el pg;rw[pg]at hx;split at h
  .rename_i tt qN;split at h
   .rename_i e hd;have hu:P.underlying t=some (.slice e):=by rw[hT.rq qN,hd]
    have he:=IY hu;have xi:P.underlying t=some (.slice (P.elem t)):=by rw[he];exact hu
    split at h
    .rename_i te nJ;split at h
     .rename_i hs;have hs:=kO.1 hs;generalize hq:a.eval x=q at hx;cases hx with
      |nB _ _ _ _ _ A c f hc hm h0 hl tE cell kk=>
       have fin:∀ l h':Nat,l<=h'->h'<=n->iC (iS B L) (jm L) w (.nB fl nl (h'-l) sz λi j=>el (l+i) j) (sliced A l h' c te.i.size):=by
        intro l h' hlh hhn;unfold sliced;refine .nB fl nl (h'-l) sz _ _ (c-l) (λi j=>f (l+i) j) aC aC (λhA=>?_) (λi j hi hj=>hl _ _ aC hj) (λhf i j hi hj=>tE hf _ _ aC hj) (λi j hi hj=>?_) (λi j hi hj=>kk _ _ aC hj)
        .split at hA
         .have:=h0 hA;omega
         .have:=h0 (by simpa using hA);omega
        .obtain ⟨b,of,e1,hb,iB,ke⟩:=cell (l+i) j aC hj;subst e1;rw[aZ aC];refine⟨b,of+l*te.i.size,by rw[ct,Addr.add_lit],hb,iB,?_⟩;rw[hs];rw[bX]at ke;rw[<-ke];congr 2;omega
       have run:∀ (l h':Nat) (lo' mC:Option Value),lo.map a.eval=lo'->hi.map a.eval=mC->(Instr.slice t (.slice A n c) lo' mC none).run P w = .ok (sliced A l h' c te.i.size) w ->
        (execOp a.eval o).run P w = .ok (.value (sliced A l h' c te.i.size)) w:=by
        intro l h' lo' mC e1 e2 hr;simp only[execOp,iA,Sem.run_bind,hq,e1,e2,Option.map_none,run_sliceAt_slice (P:=P) w t _ _ _ _ xi,hr,Result.andThen_ok,Sem.run_pure]
       split at h
       .rename_i kh hh pP rX;cases h;have hb:0<=hh/\hh<=n:=ho _ aH;cases lo with
        |some _=>simp at pP
        |none=>
         cases hi with
         |none=>simp at rX
         |some hi=>
          simp only[ct,bA]at rX;have hv:=r.op hi;rw[rX]at hv;have hv:=iC.kC hv;have hr:=run_slice_h (P:=P) w t A n c xi kh hh hb.1 aC;rw[he,tR hT w nJ]at hr;have hf:=fin 0 hh.toNat (bV _) aC ;simp only[dx,b5]at hf;exact jT.pure r (run 0 hh.toNat none (some (.int kh hh)) rfl (by rw[ct,hv]) hr) rfl hf
       .rename_i kl ll pP rX;cases h;have hb:0<=ll/\ll<=n:=ho _ aH;cases hi with
        |some _=>simp at rX
        |none=>
         cases lo with
         |none=>simp at pP
         |some lo=>
          simp only[ct,bA]at pP;have hv:=r.op lo;rw[pP]at hv;have hv:=iC.kC hv;have hr:=run_slice_l (P:=P) w t A n c xi kl ll hb.1 hb.2;rw[he,tR hT w nJ]at hr;exact jT.pure r (run ll.toNat n (some (.int kl ll)) none (by rw[ct,hv]) rfl hr) rfl (fin ll.toNat n aC (bg _))
       .rename_i kl ll kh hh pP rX;cases h;have hb:0<=ll/\ll<=hh/\hh<=n:=ho _ aH;cases hi with
        |none=>simp at rX
        |some hi=>
         cases lo with
         |none=>simp at pP
         |some lo=>
          simp only[ct,bA]at pP rX;have hv:=r.op lo;rw[pP]at hv;have hv:=iC.kC hv;have r7:=r.op hi;rw[rX]at r7;have r7:=iC.kC r7;have hr:=run_slice_lh (P:=P) w t A n c xi kl kh ll hh hb.1 hb.2.1 aC;rw[he,tR hT w nJ]at hr;exact jT.pure r (run ll.toNat hh.toNat (some (.int kl ll)) (some (.int kh hh)) (by rw[ct,hv]) (by rw[ct,r7]) hr) rfl (fin ll.toNat hh.toNat aC aC)
       .cases h
     .cases h
    .cases h
   .cases h
  .cases h
 .cases h
end
section
variable {P:Program} {K:World->Prop} {T:List TI} {O:qu} {w0:World} {B:Nat->Prop} {σ:PS} {o:Oper} {a:Act} {w:World} {L:Lk} {u:kq}
def acE{x:Value}{l:List E}(h:(E.v x).cells? = some l):∀ e,e ∈ l->e.nr 2=true:=by
 intro e he;cases x<;>simp only[E.cells?]at h
 case agg cs=>
  split at h
  .cases h;obtain⟨q,_,rfl⟩:=cX.1 he;rfl
  .cases h
 all_goals
  split at h
  .cases h;simp only[fz]at he;subst he;rfl
  .cases h
def anK{ti:TI}{l:List E}(h:yG ti=some l):∀ e,e ∈ l->e.nr 2=true:=by
 unfold yG at h;split at h
 .exact acE h
 .cases h
def J3{l:List E}{vs:List Value}{bs br:Nat->Prop}(h:ki bs br w l vs)(hl:l.all E.mN=true):∀ v ∈ vs,pQ v=false:=by
 intro v hv;obtain⟨q,hq⟩:=dk.1 hv;have xg:q<l.length:=by rw[<-h.len];exact(b7.1 hq).1
 exact(h.kH q _ v (bu xg) hq).mN (bM.1 hl _ (cA xg))
def V1{z:Array Value}{n q:Nat}(hz:0<z.size)(hq:q<n):(madeCells z n)[q]? = some (z[q%z.size]'(bH _ hz)):=by
 unfold madeCells;simp[hq];rw[fu z _ (bH _ hz)]
def V2{z:Array Value}{n:Nat}(hz:0<z.size){v:Value}(hv:v ∈ madeCells z n):v ∈ z:=by
 unfold madeCells at hv;simp only[fo,fp]at hv;obtain⟨q,hq,rfl⟩:=hv;rw[fu z _ (bH _ hz)];exact gz _
def ae6(hT:mH P T){t:TypeId}{l c:Operand}(iA:o.op = .makeSlice t l c)(r:iZ w0 B σ a w L)(h:jD P K T O σ o=some u)(ho:∀ q,q ∈ u.jB->q):jT P K w0 B σ o a w u:=by
 simp only[jD,iA,I2]at h;have hl:=r.op l;have hc:=r.op c;split at h
 .rename_i bx jB ji;obtain⟨id,Js,kp,jG,rfl⟩:=GG h;clear h;simp only[SL]at ji;split at ji
  rotate_left
  .cases ji
  rename_i kl zl kc zc Cv hpc;rw[Cv]at hl;rw[hpc]at hc;have hl:=iC.kC hl;have hc:=iC.kC hc;split at ji
  .rename_i tt qN;split at ji
   .rename_i e hd;have hu:P.underlying t=some (.slice e):=by rw[hT.rq qN,hd]
    split at ji
    .rename_i te nJ;split at ji
     .rename_i z hz;split at ji
      .rename_i y7;simp only[bF]at y7;have c1:=kO.1 y7.1;have c2:=cG y7.2;obtain⟨zv,sU,rZ⟩:=E7 hz;obtain⟨q1,q2⟩:=rZ (iS B L) (jm L) w;have CF:zv.cells.size=te.i.size:=by have:=q1.len;simp only[dw]at this;omega
       have Ei:0<zv.cells.size:= aC ;have key:∀ (h1:0<=zl/\zl<=zc) (h2:(te.i.bytes:Int)*zc<=281474976710656/\zc<=9223372036854775807),
        (execOp a.eval o).run P w = .ok (.value (.slice (some ⟨w.heap.size,0,none⟩) zl.toNat zc.toNat)) (w.alloc (.cells (madeCells zv.cells (zc.toNat*te.i.size)) e)):=by
        intro h1 h2;have hr:=run_make (P:=P) w t e te.i zv hu (hT.zJ nJ) sU kl kc zl zc h1.1 h1.2 h2.1 h2.2;simp only[execOp,iA,hl,hc,Sem.run_bind,hr,Result.andThen_ok,Sem.run_pure]
       have hb:∀ o':Obj,Below w.heap.size w (w.alloc o'):=λo'=>(Below.refl _ _).alloc (bg _) _
       have lens:zl<=zc->zc<=9223372036854775807->zl.toNat<=zc.toNat/\zc.toNat<=maxLen:=by intro h1 h2;unfold maxLen;omega
       split at ji
       .
        rename_i e0 hd0;split at ji
        .rename_i t0 Nu;obtain⟨y,ys,CD,hy,Cq⟩:=q1.mG;have hy:=iC.kC hy;have Cq:=Cq.qU;subst hy Cq;have U2:zv.cells = #[.slice none 0 0]:=by apply dm;rw[CD]
         have kY:te.i.size=1:=by rw[<-CF,U2];rfl
         cases ji;have h1:0<=zl/\zl<=zc:=ho _ aH;have h2:(te.i.bytes:Int)*zc<=281474976710656/\zc<=9223372036854775807:=ho _ aH;have hlen:=lens h1.2 h2.2;have DX:∀ v,v ∈ madeCells zv.cells (zc.toNat*te.i.size)->v = .slice none 0 0:=λv hv=>by
          have:=V2 Ei hv;rw[U2]at this;simpa using this
         refine⟨_,_,_,.inl (key h1 h2),r.new id _ (λx=>x=w.heap.size) (.slice (some ⟨w.heap.size,0,none⟩) zl.toNat zc.toNat) (λ_=>.slice none 0 0) _ kp (λx hx=>by subst hx;simp) (hb _)
          (.inr ⟨w.heap.size,zc.toNat,_,λ_ _ _=>undef,Lk.pn,heap_alloc_new w _,hlen.1,hlen.2,by rw[size_madeCells,kY,b8],λk hk _=>?_,λv hv=>?_,λk hk=>?_,λx=>?_,λk k' x hk Cl h1=>?_,λk hk=>?_⟩) jG,Lk.BI,Lk.pn.symm⟩
         .rw [Lk.sc];have hq:k<zc.toNat*te.i.size:=by rw[kY];omega
          have hg:=V1 Ei hq;rw[hg];exact congrArg some (DX _ (dG hg))
         .rw [DX v hv];rfl
         .rw [Lk.sc];exact⟨.inl ⟨rfl,rfl⟩,λi j hi=>absurd hi (bj i)⟩
         .rw [Lk.sr];simp only[Lk.sc,Value.ownBlock];simp
         .rw [Lk.sc]at h1;simp[Value.ownBlock]at h1
         .rw [Lk.sc];simp[Value.ownBlock]
        .cases ji
       .cases ji;have h1:0<=zl/\zl<=zc:=ho _ aH;have h2:(te.i.bytes:Int)*zc<=281474976710656/\zc<=9223372036854775807:=ho _ aH;have hlen:=lens h1.2 h2.2;refine⟨_,_,_,.inl (key h1 h2),r.new id _ (λx=>x=w.heap.size) (.slice (some ⟨w.heap.size,0,none⟩) zl.toNat zc.toNat) (λ_=>undef) _ kp (λx hx=>by subst hx;simp) (hb _)
         ⟨λ_ j=>zv.cells.getD j undef,.inr ⟨w.heap.size,zc.toNat,_,Lk.pn,heap_alloc_new w _,hlen.1,hlen.2,size_madeCells _ _,λi j hi hj=>?_,λhn v hv=>?_⟩,λx=>?_,λi j hi hj=>?_⟩ jG,Lk.BI,Lk.pn.symm⟩
        .have hq:i*te.i.size+j<zc.toNat*te.i.size:=by
          have:=bL te.i.size (aC:i+1<=zc.toNat);rw[bX,bZ]at this;omega
         have Nj:(i*te.i.size+j)%zv.cells.size=j:=by rw[CF,bG,fU,ca hj]
         have sP:j<zv.cells.size:= aC ;rw[V1 Ei hq];simp only[Nj];have e1:zv.cells.getD j undef=zv.cells[j]:=by simp[sP]
         rw[e1];exact⟨rfl,q2 _ aH⟩
        .exact J3 q1 hn v (by have:=V2 Ei hv;simpa using this)
        .rw [Lk.sr,Lk.pn];simp only[Value.ownBlock,bA];exact eq_comm
        .have sP:j<zv.cells.size:= aC ;have Nb:j<z.length:= aC ;have e1:zv.cells.getD j undef=zv.cells[j]:=by simp[sP]
         simp only[e1];rw[bh,bu Nb];obtain⟨p1,_⟩:=rZ (iS B (L.set id (λx=>x=w.heap.size) (.slice (some ⟨w.heap.size,0,none⟩) zl.toNat zc.toNat) (λ_=>undef))) (jm (L.set id (λx=>x=w.heap.size) (.slice (some ⟨w.heap.size,0,none⟩) zl.toNat zc.toNat) (λ_=>undef))) (w.alloc (.cells (madeCells zv.cells (zc.toNat*te.i.size)) e));exact⟨p1.kH j _ _ (bu Nb) (by simp[sP]),anK hz _ (cA Nb)⟩
      .cases ji
     .cases ji
    .cases ji
   .cases ji
  .cases ji
 .cases h
def ae2(hT:mH P T){x:Operand}{t:TypeId}{c:Call}(hc:c={ callee:=.builtin .len,args:=#[x],argTypes:=#[t] })(iA:o.op = .call c){e:TypeId}(hd:wQ T t=some (.slice e))(r:iZ w0 B σ a w L){rr:Value×List Nat}(h:sL (σ.op x) σ=some rr)(hu:u={ r:=.e (.v rr.1),rb:=rr.2 }):jT P K w0 B σ o a w u:=by
 obtain⟨ti,h1,h2⟩:=AM hd;have UM:P.underlying t=some (.slice e):=by rw[hT.rq h1,h2]
 have he:=IY UM;have hx:=r.op x;have key:∀ (A:Option Addr) (n cp:Nat),a.eval x = .slice A n cp->rr.1 = .int .i64 (n:Int)->jT P K w0 B σ o a w u:=by
  intro A n cp e1 e2;have hr:=run_len_slice (P:=P) w t o.type A n cp (by rw[he];exact UM);subst hu;refine jT.pure r (v:=.int .i64 (n:Int)) ?_ rfl (by rw[e2];exact .v _);subst hc;have em:(#[x]:Array Operand).map a.eval = #[a.eval x]:= aH ;simp only[execOp,iA,resolve,em,e1,Sem.run_bind,Sem.run_pure,Result.andThen_ok,invoke,builtin,hr];rfl
 cases hp:σ.op x with
 |e y=>
  rw[hp]at h hx;cases y with
  |sl nl n sz el=>
   simp only[sL,bA]at h;generalize hq:a.eval x=q at hx;cases hx with
   |sl _ _ _ _ A c f hc hm h0 hl tE cell kk=>exact key A n c hq (by rw[<-h])
  |nB fl nl n sz el=>
   simp only[sL,bA]at h;generalize hq:a.eval x=q at hx;cases hx with
   |nB _ _ _ _ _ A c f hc hm h0 hl tE cell kk=>exact key A n c hq (by rw[<-h])
  |v y=>
   have hx:=iC.kC hx;cases y with
   |slice A n cp=>
    simp only[sL,bA]at h;exact key A n cp hx (by rw[<-h])
   |_=>simp[sL]at h
  |_=>simp[sL]at h
 |own id=>
  rw[hp]at h hx;obtain⟨_,k2⟩:=hx;simp only[sL]at h;split at h
  .rename_i nl T1 n sz el jg;simp only[bA]at h;obtain⟨f,q1,_,_⟩:=r.hb id _ jg;rcases q1 with⟨q1,q0⟩|⟨b,c,cur,q1,_⟩
   .rw [q1]at k2;exact key none 0 0 k2 (by rw[<-h,q0])
   .rw [q1]at k2;exact key _ n c k2 (by rw[<-h])
  .rename_i nl T1 T0 n sz len el pend jg;simp only[bA]at h;rcases r.hb id _ jg with⟨q1,q0,_⟩|⟨b,c,cur,f,q1,_⟩
   .rw [q1]at k2;exact key none 0 0 k2 (by rw[<-h,q0])
   rw[q1]at k2;exact key _ n c k2 (by rw[<-h])
  .cases h
 |iH id k=>
  rw[hp]at h hx;obtain⟨_,k2⟩:=hx;simp only[sL]at h;split at h
  .rename_i nl T1 T0 n sz len el pend jg;split at h
   .rename_i hk;have hk:k<n:=by simpa[fm]using hk
    simp only[bA]at h;obtain⟨b0,c0,cur0,f,g1,g2,g3,g4,g5,g6,g7,g8,_⟩:=(r.hb id _ jg).wG aC;rcases(g8 k hk).1 with⟨q1,q0⟩|⟨b,c,cur,q1,_⟩
    .rw [q1]at k2;exact key none 0 0 k2 (by rw[<-h,q0])
    .rw [q1]at k2;exact key _ (len k) c k2 (by rw[<-h])
   .cases h
  .cases h
 |_=>rw[hp]at h;simp[sL]at h
end
section
variable {P:Program} {K:World->Prop} {T:List TI} {O:qu} {w0:World} {B:Nat->Prop} {σ:PS} {o:Oper} {a:Act} {w:World} {L:Lk} {u:kq}
def nE.qt{v:Value}{T:TypeId}{n sz:Nat}{f:Nat->Nat->Value}{nl nl':Bool}(h:nE w v T n sz f nl)(k:nl'=true->nl=true):nE w v T n sz f nl':=by
 rcases h with h|⟨b,c,cur,h1,h2,h3,h4,h5,h6,h7⟩
 .exact .inl h
 .exact .inr ⟨b,c,cur,h1,h2,h3,h4,h5,h6,λq=>h7 (k q)⟩
def aaE{p:PV}{nl:Bool}{n sz:Nat}{el:Nat->Nat->E}(h:p.LB=some (nl,n,sz,el)){v:Value}(hv:kQ (iS B L) (jm L) L w p v):∃ (A:Option Addr) (c:Nat) (f:Nat->Nat->Value),v = .slice A n c/\(A=none->c=0)/\n<=c /\
 (∀ i j,i<n->j<sz->(f i j).oneCell'=true/\(nl=true->pQ (f i j)=false))/\(∀ i j,i<n->j<sz->∃ b o,A=some ⟨b,o,none⟩/\w.cell? ⟨b,o+(i*sz+j),none⟩=some (f i j)) /\
 ∀ i j,i<n->j<sz->iC (iS B L) (jm L) w (el i j) (f i j)/\(el i j).nr 2=true:=by
 unfold PV.LB at h;split at h
 .cases h;cases hv with
  |sl _ _ _ _ A c f hc hm h0 hl hr cell k=>exact⟨A,c,f,rfl,h0,hc,hl,λi j hi hj=>by obtain⟨b,o,e,_,_,oN⟩:=cell i j hi hj;exact⟨b,o,e,oN⟩,λi j hi hj=>⟨k i j hi hj,hr i j hi hj⟩⟩
 .cases h;cases hv with
  |nB _ _ _ _ _ A c f hc hm h0 hl hr cell k=>exact⟨A,c,f,rfl,h0,hc,hl,λi j hi hj=>by obtain⟨b,o,e,_,_,oN⟩:=cell i j hi hj;exact⟨b,o,e,oN⟩,λi j hi hj=>⟨k i j hi hj,hr rfl i j hi hj⟩⟩
 .cases h
def Ts(hT:mH P T){s x:Operand}{t:TypeId}{c:Call}(hc:c={ callee:=.builtin .append,args:=#[s,x],argTypes:=#[t,t] })(iA:o.op = .call c)(r:iZ w0 B σ a w L)
 (h:AP T σ o.dst t (σ.op s) (σ.op x)=some u) (ho:∀ q,q ∈ u.jB->q):jT P K w0 B σ o a w u:=by
 have hs:=r.op s;have hx:=r.op x;simp only[AP]at h;split at h
 .rename_i nl2 m sz2 el2 pg;obtain⟨A,cx,g,hqx,hg0,hgc,Ui,gcell,gk⟩:=aaE pg hx;split at h
  .rename_i tt qN;split at h
   .rename_i e hd;have hu:P.underlying t=some (.slice e):=by rw[hT.rq qN,hd]
    split at h
    .rename_i te nJ;split at h
     .rename_i z hz;split at h
      .rename_i y7;simp only[bF]at y7;have c1:=kO.1 y7.1.1.1;have c2:=cG y7.1.1.2;have c3:=cG y7.1.2;have c4:=kO.1 y7.2;obtain⟨zv,sU,rZ⟩:=E7 hz;obtain⟨q1,q2⟩:=rZ (iS B L) (jm L) w;have CF:zv.cells.size=sz2:=by have:=q1.len;simp only[dw]at this;omega
       have key:∀ (v:Value) (n:Nat) (f:Nat->Nat->Value) (nl:Bool),a.eval s=v->nE w v e n sz2 f nl->(nl=true->nl2=true/\z.all E.mN=true)->(n+m)*te.i.bytes<=140737488355328 ->
        ∃ v' w',(execOp a.eval o).run P w = .ok (.value v') w'/\Li w v e n sz2 m f g nl v' w':=by
        intro v n f nl hv lM jG jy;obtain⟨v',w',hr,mn⟩:=Ye P w t o.type e te.i zv sz2 hu (hT.zJ nJ) sU c1 CF aC c3 (λu hu=>q2 u (by simpa using hu)) v n f nl lM A m cx g
         gcell (λhA=>by have:=hg0 hA;omega)
         (λk j hk hj=>⟨(Ui k j hk hj).1,λhn=>(Ui k j hk hj).2 (jG hn).1⟩) (λhn u hu=>J3 q1 (jG hn).2 u (by simpa using hu)) jy
        refine⟨v',w',?_,mn⟩;subst hc;have em:(#[s,x]:Array Operand).map a.eval = #[a.eval s,a.eval x]:= aH ;simp only[execOp,iA,resolve,em,hv,hqx,Sem.run_bind,Sem.run_pure,Result.andThen_ok,invoke,builtin,hr]
       split at h
       .
        rename_i id sR;rw[sR]at hs;split at h
        .rename_i nl T1 n sz el jg;split at h
         .rename_i oN;simp only[bF]at oN;have d1:=kO.1 oN.1.1;have d2:=kO.1 oN.1.2;subst d1 d2;cases h;have jy:(n+m)*te.i.bytes<=140737488355328:=ho _ aH;obtain⟨f,p1,p2,p3⟩:=r.hb id _ jg;obtain⟨k1,k2⟩:=hs;have jG:(nl&&(nl2&&z.all E.mN))=true->nl2=true/\z.all E.mN=true:=λhn=>by simp only[bF]at hn;exact hn.2
          obtain⟨v',w',kP,mn⟩:=key (L.val id) n f _ k2 (p1.qt λhn=>by simp only[bF]at hn;exact hn.1) jG jy;have ht:qY L w id (λy=>v'.ownBlock=some y) w':=by
           refine⟨λy hy=>?_,mn.size,λy hy kp=>mn.pj y hy λe1=>kp ((p2 y).2 e1),mn.os,mn.tape,mn.output⟩;rcases mn.Fo y hy with e1|⟨e1,e2⟩
           .have:=(p2 y).2 e1;exact⟨.inl this,bQ (r.hw id y this).2 mn.size⟩
           .exact ⟨.inr e1,e2⟩
          have hl:=ht.later v' (L.iH id);have hpt:∀ b,L.val id ≠ .pointer (some b):=λb e1=>by
           rcases p1 with⟨e2,_⟩|⟨_,_,_,e2,_⟩<;>rw[e1]at e2<;>cases e2
          refine⟨v',w',_,.inl kP,r.pE id _ _ v' w' hpt ht ⟨λi j=>if i<n then f i j else g (i-n) j,by rw[Lk.pn];exact mn.own,λy=>by rw[Lk.sr,Lk.pn],λi j hi hj=>(λ(q:iC _ _ _ _ _/\_)=>⟨hl.kH q.1,q.2⟩) (?_:_/\_)⟩ (λhn=>?_),Lk.BI,Lk.pn.symm⟩
          .by_cases lG:i<n
           .simp only[lG,bB];exact p3 i j lG hj
           .simp only[lG,bn];exact gk _ _ aC hj
          .have:=oN.2;rw[hn]at this;simpa[Bx.nl]using this
         .cases h
        .cases h
       .
        rename_i id k sR;rw[sR]at hs;split at h
        .rename_i nl T1 T0 n sz len el jg;split at h
         .rename_i oN;simp only[bF]at oN;have d1:=kO.1 oN.1.1;have d2:=kO.1 oN.1.2;subst d1 d2;cases h;have hk:k<n:=ho _ aH;have jy:(len k+m)*te.i.bytes<=140737488355328:=ho _ aH;obtain⟨b,cp,cur,f,p1,p2,p3,p4,p5,p6,p7,p8,p9,p10,p11⟩:=(r.hb id _ jg).wG aC;obtain⟨k1,k2⟩:=hs;have jG:nl=true->nl2=true/\z.all E.mN=true:=λhn=>by have:=oN.2;rw[hn]at this;simpa using this
          obtain⟨v',w',kP,mn⟩:=key (L.iH id k) (len k) (f k) nl k2 (p8 k hk).1 jG jy;have tA:∀ y,v'.ownBlock=some y->(L.iH id k).ownBlock=some y\/(w.heap.size<=y/\y<w'.heap.size):=mn.Fo;have ub:b<w.heap.size:=(r.hw id b ((p9 b).2 (.inl rfl))).2;have Bd:∀ q y,q<n->(L.iH id q).ownBlock=some y->y<w.heap.size:=λq y hq hy=>(r.hw id y ((p9 y).2 (.inr ⟨q,hq,hy⟩))).2
          have ht:qY L w id (λy=>y=b\/∃ q,q<n/\(if q=k then v' else L.iH id q).ownBlock=some y) w':=by
           refine⟨λy hy=>?_,mn.size,λy hy kp=>mn.pj y hy λe1=>kp ((p9 y).2 (.inr ⟨k,hk,e1⟩)),mn.os,mn.tape,mn.output⟩;rcases hy with rfl|⟨q,hq,hy⟩
           .exact ⟨.inl ((p9 y).2 (.inl rfl)),bQ ub mn.size⟩
           .by_cases uf:q=k
            .subst uf;rw[a6 rfl]at hy;rcases tA y hy with e1|⟨e1,e2⟩
             .have:=(p9 y).2 (.inr ⟨q,hq,e1⟩);exact⟨.inl this,bQ (r.hw id y this).2 mn.size⟩
             .exact ⟨.inr e1,e2⟩
            .rw [aZ uf]at hy;have:=(p9 y).2 (.inr ⟨q,hq,hy⟩);exact⟨.inl this,bQ (r.hw id y this).2 mn.size⟩
          have hl:=ht.later (L.val id) (λq=>if q=k then v' else L.iH id q);have w8:∀ y,y<w.heap.size->(L.iH id k).ownBlock≠some y->w'.heap[y]? = w.heap[y]?:=mn.pj;refine⟨v',w',_,.inl kP,r.sM id _ _ (λq=>if q=k then v' else L.iH id q) w' ht
           (.inr ⟨b,cp,cur,λq i j=>if q=k then(if i<len q then f q i j else g (i-len q) j)else f q i j,by rw[Lk.pn];exact p1,by rw[w8 b ub (p11 k hk)];exact p2,p3,p4,p5,λq hq uf=>?_,p7,λq hq=>?_,λy=>?_,λq q' y hq uX hy qP=>?_,λq hq hy=>?_⟩) (λhn=>?_),Lk.BI,?_⟩
          .have jl:q≠k:=λe1=>uf (by rw[e1])
           rw[Lk.sc,aZ jl];exact p6 q hq aH 
          .rw [Lk.sc];by_cases uf:q=k
           .subst uf;simp only[bB];refine⟨mn.own,λi j hi hj=>(λ(q:iC _ _ _ _ _/\_)=>⟨hl.kH q.1,q.2⟩) (?_:_/\_)⟩;by_cases lG:i<len q
            .simp only[lG,bB];exact(p8 q hq).2 i j lG hj
            .simp only[lG,bn];exact gk _ _ aC hj
           .simp only[uf,bn];obtain⟨s1,s2⟩:=p8 q hq;exact⟨s1.block λy hy=>w8 y (Bd q y hq hy) λe1=>uf (p10 q k y hq hk hy e1),λi j hi hj=>⟨hl.kH (s2 i j hi hj).1,(s2 i j hi hj).2⟩⟩
          .rw [Lk.sr];simp only[Lk.sc]
          .simp only[Lk.sc]at hy qP;by_cases h1:q=k
           .subst h1;by_cases h2:q'=q
            .exact h2.symm
            .rw [a6 rfl]at hy;rw[aZ h2]at qP;rcases tA y hy with e1|⟨e1,_⟩
             .exact p10 q q' y hq uX e1 qP
             .have:=Bd q' y uX qP;omega
           .rw [aZ h1]at hy;by_cases h2:q'=k
            .subst h2;rw[a6 rfl]at qP;rcases tA y qP with e1|⟨e1,_⟩
             .exact p10 q q' y hq uX hy e1
             .have:=Bd q y hq hy;omega
            .rw [aZ h2]at qP;exact p10 q q' y hq uX hy qP
          .simp only[Lk.sc]at hy;by_cases h1:q=k
           .subst h1;rw[a6 rfl]at hy;rcases tA b hy with e1|⟨e1,_⟩
            .exact p11 q hq e1
            .omega
           .rw [aZ h1]at hy;exact p11 q hq hy
          .have:=r.hl hn id _ jg;exact this
          .rw [Lk.sc,a6 rfl]
         .cases h
        .cases h
       .
        rename_i sR;rw[sR]at hs;have hs:=iC.kC hs;obtain⟨id,Js,kp,xV,rfl⟩:=GG h;have jy:m*te.i.bytes<=140737488355328:=ho _ aH;obtain⟨v',w',kP,mn⟩:=key _ 0 g (nl2&&z.all E.mN) hs (.inl ⟨rfl,rfl⟩) (λhn=>by simpa using hn) (by simpa using jy);have hb:Below w.heap.size w w':=⟨mn.os,mn.tape,mn.output,mn.size,λy hy=>mn.pj y hy (by simp[Value.ownBlock])⟩
        have hO:∀ y,v'.ownBlock=some y->w.heap.size<=y/\y<w'.heap.size:=λy hy=>by
         rcases mn.Fo y hy with e1|e1
         .simp [Value.ownBlock]at e1
         .exact e1
        have ht:qY L w id (λy=>v'.ownBlock=some y) w':=⟨λy hy=>⟨.inr (hO y hy).1,(hO y hy).2⟩,hb.size,λy hy _=>hb.block y hy,hb.os,hb.tape,hb.output⟩
        have hl:=ht.later v' (λ_=>undef);have lM:=mn.own;rw[b5]at lM;refine⟨v',w',_,.inl kP,r.new id _ (λy=>v'.ownBlock=some y) v' (λ_=>undef) w' kp hO hb ⟨λi j=>if i<0 then g i j else g (i-0) j,by rw[Lk.pn];exact lM,λy=>by rw[Lk.sr,Lk.pn],λi j hi hj=>(λ(q:iC _ _ _ _ _/\_)=>⟨hl.kH q.1,q.2⟩) (?_:_/\_)⟩ xV,Lk.BI,Lk.pn.symm⟩;simp only[bj,bn,dx];exact gk i j hi hj
       .cases h
      .cases h
     .cases h
    .cases h
   .cases h
  .cases h
 .cases h
def VD{id q T0 T1 n m sz:Nat}{nl nl2:Bool}{len len2:Nat->Nat}{el el2:Nat->Nat->Nat->E}(jl:id≠q)(r:iZ w0 B σ a w L){v':Value}{w':World}(hm:0<m)
 (hq:nx (iS B L) (jm L) L w q (.jH nl2 T1 T0 m sz len2 el2 none))
 (f1:Nat->Nat->Nat->Value)
 (h8:∀ k,k<n->nE w (L.iH id k) T0 (len k) sz (f1 k) nl/\∀ i j,i<len k->j<sz->iC (iS B L) (jm L) w (el k i j) (f1 k i j)/\(el k i j).nr 2=true)
 (h9:∀ k x,k<n->(L.iH id k).ownBlock=some x->L.own id x) (qw:∀ k k' x,k<n->k'<n->(L.iH id k).ownBlock=some x->(L.iH id k').ownBlock=some x->k=k')
 {v:Value} (Ee:∀ y,v.ownBlock=some y->L.own id y) (se:∀ k y,k<n->(L.iH id k).ownBlock=some y->v.ownBlock≠some y)
 (lM:nE w' v' T1 (n+m) 1 (λk _=>if k<n then L.iH id k else L.iH q (k-n)) true)
 (tA:∀ y,v'.ownBlock=some y->v.ownBlock=some y\/(w.heap.size<=y/\y<w'.heap.size))
 (kY:w.heap.size<=w'.heap.size) (w8:∀ y,y<w.heap.size->v.ownBlock≠some y->w'.heap[y]? = w.heap[y]?) (xd:w'.os=w.os) (Nw:w'.tape=w.tape) (qa:w'.output=w.output)
 (kp:L.me id->∀ b,L.val id ≠ .pointer (some b)) (jG:σ.nl=true->(nl&&nl2)=true):
 iZ w0 B (σ.oe (.oH id q (.jH (nl&&nl2) T1 T0 (n+m) sz (λk=>if k<n then len k else len2 (k-n)) (λk=>if k<n then el k else el2 (k-n)) none))) a w'
  (L.qo id q (λy=>v'.ownBlock=some y\/∃ k,k<n+m/\(if k<n then L.iH id k else L.iH q (k-n)).ownBlock=some y) v' (λk=>if k<n then L.iH id k else L.iH q (k-n))):=by
 obtain⟨b,c,cur,f,g1,g2,g3,g4,g5,g6,g7,g8,g9,g10,g11⟩:=hq.wG hm;have No:∀ k x,k<m->(L.iH q k).ownBlock=some x->L.own q x:=λk x hk hx=>(g9 x).2 (.inr ⟨k,hk,hx⟩)
 have Bd:∀ k y,k<n+m->(if k<n then L.iH id k else L.iH q (k-n)).ownBlock=some y->(L.own id y\/L.own q y)/\v.ownBlock≠some y:=by
  intro k y hk hy;by_cases e:k<n
  .rw [a6 e]at hy;exact⟨.inl (h9 k y e hy),se k y e hy⟩
  .rw [aZ e]at hy;have:=No _ _ aC hy;exact⟨.inr this,λh=>jl (r.hi id q y (Ee y h) this)⟩
 have iB:∀ y,L.own id y\/L.own q y->y<w.heap.size:=λy h=>by
  rcases h with h|h
  .exact (r.hw id y h).2
  .exact (r.hw q y h).2
 refine r.qo jl _ _ v' _ w' (λy hy=>?_) kY (λy hy af7=>w8 y hy λh=>af7 (Ee y h)) xd Nw qa (λhl=>?_) kp jG
 .rcases hy with hy|⟨k,hk,hy⟩
  .rcases tA y hy with h|⟨h1,h2⟩
   .exact ⟨.inl (Ee y h),bQ (r.hw id y (Ee y h)).2 kY⟩
   .exact ⟨.inr (.inr h1),h2⟩
  .have h:=(Bd k y hk hy).1;exact⟨h.elim .inl λh=>.inr (.inl h),bQ (iB y h) kY⟩
 .rcases lM with⟨_,h0⟩|⟨b',c',cur',k1,k2,k3,k4,k5,k6,k7⟩
  .omega
  .have Um:∀ k y,k<n+m->(if k<n then L.iH id k else L.iH q (k-n)).ownBlock=some y->w'.heap[y]? = w.heap[y]?:=λk y hk hy=>w8 y (iB y (Bd k y hk hy).1) (Bd k y hk hy).2
   refine .inr ⟨b',c',cur',λk=>if k<n then f1 k else f (k-n),by rw[Lk.Gw];exact k1,k2,k3,k4,aC,λk hk _=>?_,λu hu=>?_,λk hk=>?_,λy=>?_,λk k' y hk Cl hy qP=>?_,λk hk hy=>?_⟩
   .rw [Lk.yb];have:=(k6 k 0 hk aE).1;rwa[b8,bR]at this
   .exact k7 rfl u hu
   .rw [Lk.yb];by_cases e:k<n
    .simp only[e,bB];obtain⟨s1,s2⟩:=h8 k e;refine⟨(s1.qt λh=>?_).block λy hy=>Um k y hk (by rw[a6 e];exact hy),λi j hi hj=>⟨hl.kH (s2 i j hi hj).1,(s2 i j hi hj).2⟩⟩;simp only[bF]at h;exact h.1
    .simp only[e,bn];obtain⟨s1,s2⟩:=g8 (k-n) aC;refine⟨(s1.qt λh=>?_).block λy hy=>Um k y hk (by rw[aZ e];exact hy),λi j hi hj=>⟨hl.kH (s2 i j hi hj).1,(s2 i j hi hj).2⟩⟩;simp only[bF]at h;exact h.2
   .rw [Lk.VE,k1];simp only[Lk.yb,Value.ownBlock,bA];constructor
    .rintro (h|h)
     .exact .inl h.symm
     .exact .inr h
    .rintro (h|h)
     .exact .inl h.symm
     .exact .inr h
   .simp only[Lk.yb]at hy qP;by_cases e:k<n
    .rw [a6 e]at hy;by_cases e':k'<n
     .rw [a6 e']at qP;exact qw k k' y e e' hy qP
     .rw [aZ e']at qP;exact absurd (r.hi id q y (h9 k y e hy) (No _ _ aC qP)) jl
    .rw [aZ e]at hy;by_cases e':k'<n
     .rw [a6 e']at qP;exact absurd (r.hi id q y (h9 k' y e' qP) (No _ _ aC hy)) jl
     .rw [aZ e']at qP;have:=g10 (k-n) (k'-n) y aC aC hy qP;omega
   .rw [Lk.yb]at hy;have h:=Bd k b' hk hy;rcases tA b' (by rw[k1];rfl)with h2|⟨h2,_⟩
    .exact h.2 h2
    .have:=iB b' h.1;omega
def aiO{p:PV}{q:Nat}(h:p.ED=some q):p = .own q:=by
 cases p<;>simp only[PV.ED,reduceCtorEq,bA]at h;rw[h]
def ae1(hT:mH P T){s x:Operand}{t:TypeId}{q:Nat}{c:Call}(hc:c={ callee:=.builtin .append,args:=#[s,x],argTypes:=#[t,t] })(iA:o.op = .call c)(r:iZ w0 B σ a w L)
  (hq:(σ.op x).ED=some q) (h:B8 T σ o.dst t (σ.op s) q=some u) (ho:∀ q,q ∈ u.jB->q):jT P K w0 B σ o a w u:=by
 have hx:=r.op x;rw[aiO hq]at hx;obtain⟨kx,kv⟩:=hx;have hs:=r.op s;unfold B8 at h;split at h
 .rename_i nl2 T2 T0 m sz len2 el2 e by_ tC A9;obtain⟨te,zv,uz,hu,nJ,tH,Jq,jK,sU,wa,wb,CE⟩:=RK w hT A9;have U5:∀ v,v ∈ zv.cells->v.oneCell'=true/\pQ v=false:=λv hv=>by
   rw[wa]at hv;have:v=uz:=by simpa using hv
   rw[this];exact⟨wb,CE⟩
  have key:∀ (v:Value) (n:Nat) (f:Nat->Nat->Value),0<m->a.eval s=v->nE w v e n 1 f true->(n+m)*by_<=140737488355328 ->
    ∃ v' w',(execOp a.eval o).run P w = .ok (.value v') w'/\Li w v e n 1 m f (λk _=>L.iH q k) true v' w':=by
   intro v n f hm hv lM jy;obtain⟨bq,cq,curq,fq,g1,g2,g3,g4,g5,g6,g7,g8,g9,g10,g11⟩:=(r.hb q _ tC).wG hm;have Eg:a.eval x = .slice (some ⟨bq,0,none⟩) m cq:=by rw[kv,g1]
   obtain⟨v',w',hr,mn⟩:=Ye P w t o.type e te.i zv 1 hu (hT.zJ nJ) sU tH (by rw[wa];rfl) aE aC (λv hv=>(U5 v hv).1) v n f true lM (some ⟨bq,0,none⟩) m cq (λk _=>L.iH q k)
    (λk j hk hj=>⟨bq,0,rfl,by
     obtain rfl:j=0:= aC ;have:=g6 k hk aH;simp only[World.cell?,g2];simpa using this⟩) (λhA=>by cases hA)
    (λk j hk hj=>⟨(g8 k hk).1.head.2.1,λ_=>(g8 k hk).1.head.2.2⟩) (λ_ v hv=>(U5 v hv).2) (by rw[Jq];exact jy)
   refine⟨v',w',?_,mn⟩;subst hc;have em:(#[s,x]:Array Operand).map a.eval = #[a.eval s,a.eval x]:= aH ;simp only[execOp,iA,resolve,em,hv,Eg,Sem.run_bind,Sem.run_pure,Result.andThen_ok,invoke,builtin,hr]
  split at h
  .
   rename_i id sR;rw[sR]at hs;obtain⟨ks,ks2⟩:=hs;split at h
   .rename_i nl T1 T0' n sz' len el jg;split at h
    .rename_i oN;cases h;simp only[bF,dO]at oN;obtain rfl:=kO.1 oN.1.1.1.1;obtain rfl:=kO.1 oN.1.1.1.2;obtain rfl:=kO.1 oN.1.1.2;obtain rfl:=kO.1 oN.1.2;have jl:id≠q:=λe=>by have:=oN.2;rw[e,ch]at this;cases this
     have hm:0<m:=ho _ aH;have jy:(n+m)*by_<=140737488355328:=ho _ aH;obtain⟨f,pown,p8,p9,p10,Ee,p11,pno⟩:∃ f:Nat->Nat->Nat->Value,nE w (L.val id) _ n 1 (λk _=>L.iH id k) true /\
       (∀ k,k<n->nE w (L.iH id k) T0' (len k) sz' (f k) nl/\∀ i j,i<len k->j<sz'->iC (iS B L) (jm L) w (el k i j) (f k i j)/\(el k i j).nr 2=true) /\
       (∀ k x,k<n->(L.iH id k).ownBlock=some x->L.own id x)/\(∀ k k' x,k<n->k'<n->(L.iH id k).ownBlock=some x->(L.iH id k').ownBlock=some x->k=k') /\
       (∀ y,(L.val id).ownBlock=some y->L.own id y)/\(∀ k y,k<n->(L.iH id k).ownBlock=some y->(L.val id).ownBlock≠some y)/\∀ b,L.val id ≠ .pointer (some b):=by
      rcases r.hb id _ jg with⟨h1,h2,h3⟩|⟨b,cp,cur,f,p1,p2,p3,p4,p5,p6,p7,p8,p9,p10,p11⟩
      .refine ⟨λ_ _ _=>undef,.inl ⟨h1,h2⟩,λk hk=> aC,λk x hk=> aC,λk k' x hk=> aC,λy hy=>?_,λk y hk=> aC,λb hb=>?_⟩
       .rw [h1]at hy;simp[Value.ownBlock]at hy
       .rw [h1]at hb;cases hb
      .refine ⟨f,.inr ⟨b,cp,cur,p1,p2,p3,p4,aC,λk j hk hj=>?_,λ_=>p7⟩,p8,λk y hk hy=>(p9 y).2 (.inr ⟨k,hk,hy⟩),p10,λy hy=>?_,λk y hk hy Eh=>?_,λb1 jK=>?_⟩
       .obtain rfl:j=0:= aC ;rw[b8,bR];exact⟨p6 k hk aH,(p8 k hk).1.head.2.1⟩
       .rw [p1]at hy;simp only[Value.ownBlock,bA]at hy;exact(p9 y).2 (.inl hy.symm)
       .rw [p1]at Eh;simp only[Value.ownBlock,bA]at Eh;exact p11 k hk (Eh▸hy)
       .rw [p1]at jK;cases jK
     obtain⟨v',w',kP,mn⟩:=key (L.val id) n (λk _=>L.iH id k) hm ks2 pown jy;refine⟨v',w',_,.inl kP,VD jl r hm (r.hb q _ tC) f p8 p9 p10 Ee p11 mn.own mn.Fo mn.size mn.pj mn.os mn.tape mn.output (λ_=>pno) (λhn=>?_),Lk.NQ jl,Lk.Gw.symm⟩
     .have h1:nl=true:=r.hl hn id _ jg;have h2:nl2=true:=r.hl hn q _ tC;rw[h1,h2];rfl
    .cases h
   .cases h
  .
   rename_i id sR Js;rw[sR]at hs;have hs:=iC.kC hs;split at h
   .rename_i kp;split at h
    .rename_i oN;cases h;simp only[bF,dO]at oN;obtain rfl:=kO.1 oN.1;have jl:id≠q:=λe=>by have:=oN.2;rw[e,ch]at this;cases this
     have hm:0<m:=ho _ aH;have jy:m*by_<=140737488355328:=ho _ aH;obtain⟨v',w',kP,mn⟩:=key _ 0 (λk _=>L.iH id k) hm hs (.inl ⟨rfl,rfl⟩) (by simpa using jy);have Ni:¬L.me id:=λh=>by have:=(r.hv id).1 h;rw[kp]at this;cases this
     have hj:=VD (n:=0) (nl:=true) (len:=λ_=>0) (el:=λ_ _ _=>.any) jl r hm (r.hb q _ tC) (λ_ _ _=>undef) (λk hk=>absurd hk (bj k)) (λk y hk=>absurd hk (bj k)) (λk k' y hk=>absurd hk (bj k))
      (v:=.slice none 0 0) (λy hy=>by simp[Value.ownBlock]at hy) (λk y hk=>absurd hk (bj k)) mn.own mn.Fo mn.size mn.pj mn.os mn.tape mn.output (λh=>absurd h Ni) (λhn=>r.hl hn q _ tC)
     simp only[bj,bn,dx,b5,cY]at hj;exact⟨v',w',_,.inl kP,hj,Lk.NQ jl,Lk.Gw.symm⟩
    .cases h
   .cases h
  .cases h
 .cases h
def aeP(hT:mH P T)(hB:∀ b,B b->b<w0.heap.size){s x:Operand}{t:TypeId}{c:Call}(hc:c={ callee:=.builtin .append,args:=#[s,x],argTypes:=#[t,t] })(iA:o.op = .call c)(r:iZ w0 B σ a w L)
 (h:B7 T σ o.dst t (σ.op s) (σ.op x)=some u) (ho:∀ q,q ∈ u.jB->q):jT P K w0 B σ o a w u:=by
 unfold B7 at h;split at h
 .rename_i u0 h0;split at h
  .rename_i id nl T1 n sz el id' hf hr;split at h
   .rename_i hid;have hid:=kO.1 hid;subst hid;cases h;have r2:iZ w0 B { σ with nl:=false } a w L:=⟨r.hd,r.hs,r.ht,r.hb,r.hv,r.hn,r.hw,r.hi,r.he,λh=>by cases h⟩
    obtain⟨v,w',L1,kP,hrel,rZ⟩:=Ts (K:=K) hT hc iA r2 h0 λq hq=>ho q (List.mem_cons_of_mem _ hq)
    rw[hf]at hrel;rw[hr]at rZ;obtain⟨L',k1,k2⟩:=iZ.fin hB hrel;refine⟨v,w',L',kP,⟨k1.hd,k1.hs,k1.ht,k1.hb,k1.hv,k1.hn,k1.hw,k1.hi,k1.he,λhn i b hb=>?_⟩,?_⟩
    .have hb:look ((σ.pre (.fin id')).filter λx=>!Nat.beq x.1 id') i=some b:=hb;rw[CQ,PS.AG]at hb;split at hb
     .cases hb
     .obtain ⟨b0,lV,rfl⟩:=bT.1 hb;rw[CU];exact r.hl hn i b0 lV
    rw[rZ.2];exact k2
   .cases h
  .cases h
 .cases h
def ae7{x y:Operand}{c:Call}(hc:c.callee = .builtin .max/\c.args = #[x,y])(iA:o.op = .call c)(r:iZ w0 B σ a w L){k k':IntKind}{p q:Int}(hx:σ.op x = .e (.v (.int k p)))(hy:σ.op y = .e (.v (.int k' q)))
 (hu:u={ r:=.e (.v (.int k (if q>p then q else p))) }):jT P K w0 B σ o a w u:=by
 have h1:=r.op x;have h2:=r.op y;rw[hx]at h1;rw[hy]at h2;have h1:=iC.kC h1;have h2:=iC.kC h2;subst hu;refine jT.pure r (v:=.int k (if q>p then q else p)) ?_ rfl (.v _);have em:(#[x,y]:Array Operand).map a.eval = #[.int k p,.int k' q]:=by simp[h1,h2]
 simp only[execOp,iA,resolve,hc.1,hc.2,em,Sem.run_bind,Sem.run_pure,Result.andThen_ok,invoke,builtin,run_max_int2]
def ae8{x y z:Operand}{c:Call}(hc:c.callee = .builtin .max/\c.args = #[x,y,z])(iA:o.op = .call c)(r:iZ w0 B σ a w L){k k' k'':IntKind}{p q s:Int}(hx:σ.op x = .e (.v (.int k p)))(hy:σ.op y = .e (.v (.int k' q)))(hz:σ.op z = .e (.v (.int k'' s)))
 (hu:u={ r:=.e (.v (.int k (if s>(if q>p then q else p)then s else(if q>p then q else p)))) }):jT P K w0 B σ o a w u:=by
 have h1:=r.op x;have h2:=r.op y;have h3:=r.op z;rw[hx]at h1;rw[hy]at h2;rw[hz]at h3;have h1:=iC.kC h1;have h2:=iC.kC h2;have h3:=iC.kC h3;subst hu;refine jT.pure r (v:=.int k (if s>(if q>p then q else p)then s else(if q>p then q else p))) ?_ rfl (.v _);have em:(#[x,y,z]:Array Operand).map a.eval = #[.int k p,.int k' q,.int k'' s]:=by simp[h1,h2,h3]
 simp only[execOp,iA,resolve,hc.1,hc.2,em,Sem.run_bind,Sem.run_pure,Result.andThen_ok,invoke,builtin,run_max_int3]
def ae9{x y:Operand}{c:Call}(hc:c.callee = .builtin .min/\c.args = #[x,y])(iA:o.op = .call c)(r:iZ w0 B σ a w L){k k':IntKind}{p q:Int}(hx:σ.op x = .e (.v (.int k p)))(hy:σ.op y = .e (.v (.int k' q)))
 (hu:u={ r:=.e (.v (.int k (if q<p then q else p))) }):jT P K w0 B σ o a w u:=by
 have h1:=r.op x;have h2:=r.op y;rw[hx]at h1;rw[hy]at h2;have h1:=iC.kC h1;have h2:=iC.kC h2;subst hu;refine jT.pure r (v:=.int k (if q<p then q else p)) ?_ rfl (.v _);have em:(#[x,y]:Array Operand).map a.eval = #[.int k p,.int k' q]:=by simp[h1,h2]
 simp only[execOp,iA,resolve,hc.1,hc.2,em,Sem.run_bind,Sem.run_pure,Result.andThen_ok,invoke,builtin,run_min_int2]
end
structure Gd(P:Program)(K:World->Prop)(w0:World)(B:Nat->Prop):Prop where
 k:K w0
 Kn:∀ w w',K w->Below w.heap.size w w'->K w'
 hB:∀ b,B b->b<w0.heap.size/\oX w0 b
def oX.EA{w w':World}{b:Nat}(h:oX w b)(hb:w'.heap[b]? = w.heap[b]?):oX w' b:=by
 intro o x e;exact h o x (by rw[<-e];exact(World.cell?_of_block (w:=w) (w':=w') hb).symm)
def oX.Kg{w:World}{b:Nat}{cs:Array Value}{T:TypeId}{fr:Nat×Nat}(hg:w.heap[b]? = some (.cells cs T fr))(h:∀ v,v ∈ cs->pQ v=false):oX w b:=by
 intro o x e;simp only[World.cell?,hg]at e;simp only[Option.isSome_none,bE,bn]at e;have:=h _ (dG e);cases this
section
variable {P:Program} {K:World->Prop} {T:List TI} {O:qu} {w0:World} {B:Nat->Prop} {σ:PS} {o:Oper} {a:Act} {w:World} {L:Lk} {u:kq}
def nE.Kb{v:Value}{T:TypeId}{n sz:Nat}{f:Nat->Nat->Value}(h:nE w v T n sz f true){x:Nat}(hx:v.ownBlock=some x):oX w x:=by
 rcases h with⟨rfl,_⟩|⟨b,c,cur,rfl,hg,_,_,_,_,jG⟩
 .simp [Value.ownBlock]at hx
 .simp [Value.ownBlock]at hx;subst hx;exact oX.Kg hg (jG rfl)
def nx.Kb{id:Nat}{b:Bx}(h:nx (iS B L) (jm L) L w id b)(hn:b.nl=true){x:Nat}(hx:L.own id x):oX w x:=by
 cases b with
 |cells T l=>
  obtain⟨b,vs,h1,h2,h3,h4,h5⟩:=h;obtain rfl:=(h2 x).1 hx;exact oX.Kg h3 λv hv=>J3 h4 hn v (by simpa using hv)
 |row nl T n sz el=>
  obtain⟨f,h1,h2,h3⟩:=h;have hn:nl=true:=hn;subst hn;exact h1.Kb ((h2 x).1 hx)
 |jH nl T1 T0 n sz len el pend=>
  rcases h with⟨_,_,h⟩|h
  .exact absurd hx (h x)
  obtain⟨b,c,cur,f,h1,h2,h3,h4,h5,h6,h7,h8,h9,qw,se⟩:=h;have hn:nl=true:=hn;subst hn;rcases(h9 x).1 hx with rfl|⟨k,hk,hkx⟩
  .exact oX.Kg h2 λv hv=>h7 v hv
  .exact (h8 k hk).1.Kb hkx
 |oE nl T l=>
  obtain⟨b,vs,h1,h2,h3,h4,h5,h6⟩:=h;obtain rfl:=(h2 x).1 hx;exact oX.Kg h3 λv hv=>(h6 v (by simpa using hv)).2 hn
def iZ.IC(g:Gd P K w0 B)(r:iZ w0 B σ a w L)(hn:σ.nl=true):∀ b,iS B L b->b<w.heap.size/\oX w b:=by
 intro b hb;rcases hb with hb|⟨id,hb⟩
 .obtain ⟨h1,h2⟩:=g.hB b hb;exact⟨bQ h1 r.he.size,h2.EA (r.he.block b h1)⟩
 .refine ⟨(r.hw id b hb).2,?_⟩;have hl:=(r.hv id).1 (r.hn id b hb);obtain⟨bx,ji⟩:=gI.1 hl;exact(r.hb id bx ji).Kb (r.hl hn id bx ji) hb
def nx.iQ{id:Nat}{Tt:TypeId}{l:List E}(h:nx (iS B L) (jm L) L w id (.cells Tt l)){b:Nat}(hv:L.val id = .pointer (some ⟨b,0,none⟩))(iB:∀ x,L.own id x->x<w.heap.size):
 iC (iS B L) (λ_=>False) w (.iQ l.length λj=>l.getD j .any) (.pointer (some ⟨b,0,none⟩)):=by
 obtain⟨b',vs,h1,h2,h3,h4,h5⟩:=h;rw[hv]at h1;cases h1;refine .iQ _ _ b 0 (λj=>vs.getD j undef) (λh=>h) (iB b ((h2 b).2 rfl)) (λj hj=>?_) (λj hj=>?_) (λj hj=>?_)
 .have sP:j<vs.length:=by rw[h4.len];exact hj
  rw[bh,bu sP];exact h5 _ (cA sP)
 .have sP:j<vs.length:=by rw[h4.len];exact hj
  simp only[World.cell?,h3];simp[sP]
 .have sP:j<vs.length:=by rw[h4.len];exact hj
  rw[bh,bu hj,bh,bu sP];exact(h4.kH j _ _ (bu hj) (bu sP)).qt (λ_ h=>h) (λ_ h=>h.elim)
def nE.XR{v:Value}{T:TypeId}{n sz:Nat}{f:Nat->Nat->Value}{nl:Bool}{el:Nat->Nat->E}{bs br:Nat->Prop}(h1:nE w v T n sz f nl)(iB:∀ x,v.ownBlock=some x->x<w.heap.size)
 (h3:∀ i j,i<n->j<sz->iC bs br w (el i j) (f i j)/\(el i j).nr 2=true):iC (λ_=>False) (λ_=>False) w (.sl nl n sz el) v:=by
 rcases h1 with⟨rfl,rfl⟩|⟨b,c,cur,rfl,hg,oG,nI,mJ,ke,jG⟩
 .exact .sl nl 0 sz el none 0 f (bg _) aE (λ_=>rfl) (λi j hi=>absurd hi (bj i)) (λi j hi=>absurd hi (bj i)) (λi j hi=>absurd hi (bj i)) (λi j hi=>absurd hi (bj i))
 .refine .sl nl n sz el _ c f oG (by unfold maxLen at nI;omega) (λh=>by cases h) (λi j hi hj=>⟨(ke i j hi hj).2,λhn=>jG hn _ (dG (ke i j hi hj).1)⟩) (λi j hi hj=>(h3 i j hi hj).2)
   (λi j hi hj=>⟨b,0,rfl,λh=>h,iB b rfl,?_⟩) (λi j hi hj=>(iC.nr ((h3 i j hi hj).1.qt (λ_ h=>h.elim) (λ_ h=>h)) 2 (h3 i j hi hj).2))
  rw[b5];simp only[World.cell?,hg];simpa using(ke i j hi hj).1
def iZ.Va(r:iZ w0 B σ a w L){id T1 T0 n sz k:Nat}{nl:Bool}{len:Nat->Nat}{el:Nat->Nat->Nat->E}{pend:Option Nat}(jg:σ.bo id=some (.jH nl T1 T0 n sz len el pend))(hk:k<n):
 iC (λ_=>False) (λ_=>False) w (.sl nl (len k) sz (el k)) (L.iH id k):=by
 obtain⟨b,c,cur,f,h1,h2,h3,h4,h5,h6,h7,h8,h9,qw,se⟩:=(r.hb id _ jg).wG aC;exact(h8 k hk).1.XR (λx hx=>(r.hw id x ((h9 x).2 (.inr ⟨k,hk,hx⟩))).2) (h8 k hk).2
def CV.FJ(r:iZ w0 B σ a w L){c:CV}{e:E}{is:List Nat}(h:c.ext σ=some (e,is))(kp:c.Gt=false){v:Value}(hv:wM (iS B L) (jm L) L w c v):iC (iS B L) (λ_=>False) w e v:=by
 cases c with
 |e x=>simp only[CV.ext,bA,bI]at h;obtain⟨rfl,_⟩:=h;exact hv.qt (λ_ h=>h) (λ_ h=>h.elim)
 |box id=>
  simp only[CV.ext]at h;split at h
  .rename_i Tt l jg;simp only[bA,bI]at h;obtain⟨rfl,_⟩:=h;obtain⟨_,b,k2,rfl⟩:=hv;exact(r.hb id _ jg).iQ k2 λx hx=>(r.hw id x hx).2
  .cases h
 |row id=>cases kp
def CV.Ml(r:iZ w0 B σ a w L){c:CV}{e:E}{is:List Nat}(h:c.ext σ=some (e,is)){v:Value}(hv:wM (iS B L) (jm L) L w c v):iC (λ_=>False) (λ_=>False) w e v:=by
 cases kp:c.Gt with
 |false=>exact(CV.FJ r h kp hv).qt (λ_ h=>h.elim) (λ_ h=>h)
 |true=>
  cases c with
  |row id=>
   simp only[CV.ext]at h;split at h
   .rename_i nl T1 T0 n sz len el jg;split at h
    .rename_i hn;have hn:=kO.1 hn;subst hn;simp only[bA,bI]at h;obtain⟨rfl,_⟩:=h;obtain⟨_,b,n',c,k2,rfl⟩:=hv;have lG:=r.Va jg (ew 0);obtain⟨b',c',cur,f,h1,h2,h3,h4,h5,h6,h7,h8,h9,qw,se⟩:=(r.hb id _ jg).wG aE;rw[k2]at h1;cases h1;have px:=h6 0 (ew 0) aH;refine .iQ 1 _ b 0 (λ_=>L.iH id 0) (λh=>h) (r.hw id b ((h9 b).2 (.inl rfl))).2 (λj hj=>(h8 0 (ew 0)).1.head.2.1) (λj hj=>?_) (λj hj=>lG);obtain rfl:j=0:= aC ;simp only[World.cell?,h2];simpa using px
    .cases h
   .cases h
  |_=>cases kp
def SR(r:iZ w0 B σ a w L){l:List CV}{es:List E}{is:List Nat}(h:uL σ l=some (es,is))(kp:l.any CV.Gt=false){vs:List Value}(hlen:vs.length=l.length)
 (hv:∀ (i:Nat) (c:CV) (x:Value),l[i]? = some c->vs[i]? = some x->wM (iS B L) (jm L) L w c x):ki (iS B L) (λ_=>False) w es vs:=by
 induction l generalizing es is vs with
 |nil=>simp only[uL,bA,bI]at h;obtain⟨rfl,_⟩:=h;obtain rfl:=di hlen;exact .nil _ _ _
 |cons c l ih=>
  cases vs with
  |nil=>simp at hlen
  |cons v vs=>
   simp only[uL]at h;split at h
   .rename_i x i xs js h1 h2;simp only[bA,bI]at h;obtain⟨rfl,_⟩:=h;simp only[dH,eO]at kp;exact .cons (CV.FJ r h1 kp.1 (hv 0 c v rfl rfl)) (ih h2 kp.2 (by simpa using hlen) λi c x hc hx=>hv (i+1) c x (by simpa using hc) (by simpa using hx))
   .cases h
def SS(r:iZ w0 B σ a w L){l:List CV}{es:List E}{is:List Nat}(h:uL σ l=some (es,is)){vs:List Value}(hlen:vs.length=l.length)
 (hv:∀ (i:Nat) (c:CV) (x:Value),l[i]? = some c->vs[i]? = some x->wM (iS B L) (jm L) L w c x):ki (λ_=>False) (λ_=>False) w es vs:=by
 induction l generalizing es is vs with
 |nil=>simp only[uL,bA,bI]at h;obtain⟨rfl,_⟩:=h;obtain rfl:=di hlen;exact .nil _ _ _
 |cons c l ih=>
  cases vs with
  |nil=>simp at hlen
  |cons v vs=>
   simp only[uL]at h;split at h
   .rename_i x i xs js h1 h2;simp only[bA,bI]at h;obtain⟨rfl,_⟩:=h;exact .cons (CV.Ml r h1 (hv 0 c v rfl rfl)) (ih h2 (by simpa using hlen) λi c x hc hx=>hv (i+1) c x (by simpa using hc) (by simpa using hx))
   .cases h
def nE.ahg{v:Value}{T:TypeId}{n sz:Nat}{f:Nat->Nat->Value}{nl:Bool}{el:Nat->Nat->E}{bs br:Nat->Prop}(h1:nE w v T n sz f nl)(iB:∀ x,v.ownBlock=some x->x<w.heap.size)
 (h3:∀ i j,i<n->j<sz->iC bs br w (el i j) (f i j)/\(el i j).nr 2=true):iC bs (λ_=>False) w (.nB true nl n sz el) v:=by
 rcases h1 with⟨rfl,rfl⟩|⟨b,c,cur,rfl,hg,oG,nI,mJ,ke,jG⟩
 .exact .nB true nl 0 sz el none 0 f (bg _) aE (λ_=>rfl) (λi j hi=>absurd hi (bj i)) (λ_ i j hi=>absurd hi (bj i)) (λi j hi=>absurd hi (bj i)) (λi j hi=>absurd hi (bj i))
 .refine .nB true nl n sz el _ c f oG (by unfold maxLen at nI;omega) (λh=>by cases h) (λi j hi hj=>⟨(ke i j hi hj).2,λhn=>jG hn _ (dG (ke i j hi hj).1)⟩) (λ_ i j hi hj=>(h3 i j hi hj).2)
   (λi j hi hj=>⟨b,0,rfl,λh=>h,iB b rfl,?_⟩) (λi j hi hj=>iC.nr (h3 i j hi hj).1 2 (h3 i j hi hj).2)
  rw[b5];simp only[World.cell?,hg];simpa using(ke i j hi hj).1
def PV.FJ(r:iZ w0 B σ a w L){p:PV}{e:E}{is:List Nat}(h:p.ext σ=some (e,is))(kp:p.we σ=false){v:Value}(hv:kQ (iS B L) (jm L) L w p v):iC (iS B L) (λ_=>False) w e v:=by
 cases p with
 |e x=>simp only[PV.ext,bA,bI]at h;obtain⟨rfl,_⟩:=h;exact iC.qt (λ_ h=>h) (λ_ h=>h.elim) hv
 |box id off=>
  cases off with
  |succ=>simp[PV.ext]at h
  |zero=>
   simp only[PV.ext]at h;split at h
   .rename_i Tt l jg;simp only[bA,bI]at h;obtain⟨rfl,_⟩:=h;obtain⟨_,b,k2,rfl⟩:=hv;exact(r.hb id _ jg).iQ k2 λx hx=>(r.hw id x hx).2
   .cases h
 |pC f cap=>
  simp only[PV.ext]at h;split at h
  .rename_i xs js h1;simp only[bA,bI]at h;obtain⟨rfl,_⟩:=h;obtain⟨vs,rfl,k2,k3⟩:=hv;have:=SR r h1 kp k2 k3;exact .fn f xs vs this.len this.kH
  .cases h
 |own id=>
  obtain⟨_,rfl⟩:=hv;simp only[PV.we]at kp;split at kp
  .rename_i nl T1 T0 n sz len el pend jg;simp only[PV.ext,jg]at h;cases pend with
   |some k=>cases h
   |none=>
    simp only[bA,bI]at h;obtain⟨rfl,_⟩:=h;rcases r.hb id _ jg with⟨h1,h2,_⟩|⟨b,c,cur,f,h1,h2,h3,h4,h5,h6,h7,h8,h9,qw,se⟩
    .subst h2;rw[h1];exact .nB false true 0 1 _ none 0 (λ_ _=>undef) (bg _) aE (λ_=>rfl) (λi j hi=>absurd hi (bj i)) (λh=>by cases h) (λi j hi=>absurd hi (bj i)) (λi j hi=>absurd hi (bj i))
    .rw [h1];refine .nB false true n 1 _ _ c (λk _=>L.iH id k) h3 (by unfold maxLen at h4;omega) (λh=>by cases h) (λk j hk hj=>⟨(h8 k hk).1.head.2.1,λ_=>(h8 k hk).1.head.2.2⟩) (λh=>by cases h)
      (λk j hk hj=>⟨b,0,rfl,λh=>h,(r.hw id b ((h9 b).2 (.inl rfl))).2,?_⟩) (λk j hk hj=>(h8 k hk).1.ahg (λx hx=>(r.hw id x ((h9 x).2 (.inr ⟨k,hk,hx⟩))).2) (h8 k hk).2)
     rw[b5,b8];obtain rfl:j=0:= aC ;simp only[World.cell?,h2];simpa using h6 k hk aH 
  .cases kp
 |iH id k=>cases kp
 |nm=>simp[PV.ext]at h
 |qQ=>simp[PV.ext]at h
def PV.Ml(r:iZ w0 B σ a w L){p:PV}{e:E}{is:List Nat}(h:p.ext σ=some (e,is)){v:Value}(hv:kQ (iS B L) (jm L) L w p v):iC (λ_=>False) (λ_=>False) w e v:=by
 by_cases kp:p.we σ=false
 .exact (PV.FJ r h kp hv).qt (λ_ h=>h.elim) (λ_ h=>h)
 .cases p with
  |own id=>
   obtain⟨_,rfl⟩:=hv;simp only[PV.ext]at h;split at h
   .rename_i nl T n sz el jg;simp only[bA,bI]at h;obtain⟨rfl,_⟩:=h;obtain⟨f,h1,h2,h3⟩:=r.hb id _ jg;exact h1.XR (λx hx=>(r.hw id x ((h2 x).2 hx)).2) h3
   .rename_i nl T1 T0 n sz len el jg;exact absurd (by simp only[PV.we,jg]) kp
   .cases h
  |iH id k=>
   obtain⟨_,rfl⟩:=hv;simp only[PV.ext]at h;split at h
   .rename_i nl T1 T0 n sz len el jg;split at h
    .rename_i hk;simp only[bA,bI]at h;obtain⟨rfl,_⟩:=h;exact r.Va jg (by simpa[fm]using hk)
    .cases h
   .cases h
  |pC f cap=>
   simp only[PV.ext]at h;split at h
   .rename_i xs js h1;simp only[bA,bI]at h;obtain⟨rfl,_⟩:=h;obtain⟨vs,rfl,k2,k3⟩:=hv;have:=SS r h1 k2 k3;exact .fn f xs vs this.len this.kH
   .cases h
  |e x=>exact absurd rfl kp
  |box id off=>exact absurd rfl kp
  |nm id sz i j=>exact absurd rfl kp
  |qQ id sz k i j=>exact absurd rfl kp
def QE(r:iZ w0 B σ a w L){l:List Operand}{es:List E}{is:List Nat}(h:tX σ l=some (es,is)):ki (λ_=>False) (λ_=>False) w es (l.map a.eval):=by
 induction l generalizing es is with
 |nil=>simp only[tX,bA,bI]at h;obtain⟨rfl,_⟩:=h;exact .nil _ _ _
 |cons x l ih=>
  simp only[tX]at h;split at h
  .rename_i y i xs js h1 h2;simp only[bA,bI]at h;obtain⟨rfl,_⟩:=h;exact .cons (PV.Ml r h1 (r.op x)) (ih h2)
  .cases h
def QD(r:iZ w0 B σ a w L){l:List Operand}{es:List E}{is:List Nat}(h:tX σ l=some (es,is))(kp:(l.map σ.op).any (PV.we σ)=false):ki (iS B L) (λ_=>False) w es (l.map a.eval):=by
 induction l generalizing es is with
 |nil=>simp only[tX,bA,bI]at h;obtain⟨rfl,_⟩:=h;exact .nil _ _ _
 |cons x l ih=>
  simp only[tX]at h;split at h
  .rename_i y i xs js h1 h2;simp only[bA,bI]at h;obtain⟨rfl,_⟩:=h;simp only[eo,dH,eO]at kp;exact .cons (PV.FJ r h1 kp.1 (r.op x)) (ih h2 kp.2)
  .cases h
def Ie(P:Program)(K:World->Prop)(w0:World)(B:Nat->Prop)(σ:PS)(o:Oper)(a:Act)(w:World)(u:kq):Prop:=
 ∀ (Kc:Act->World->Prop) (Q:Exit->Act->World->Prop),(∀ v w' L',iZ w0 B (σ.oe u.f) a w' L'->kQ (iS B L') (jm L') L' w' u.r v->Kc (a.put o.dst v) w')->o.wp P a w Kc Q
def jT.o9(h:jT P K w0 B σ o a w u):Ie P K w0 B σ o a w u:=by
 intro Kc Q hk;obtain⟨v,w',L',kP,hr,hp⟩:=h;unfold Oper.wp;rcases kP with kP|⟨kP,rfl⟩
 .rw [kP];exact hk v w' L' hr hp
 .rw [kP];exact hk _ w' L' hr hp
def Sg(g:Gd P K w0 B)(r:iZ w0 B σ a w L){c:Call}{f:Operand}(iA:o.op = .call c)(hf:c.callee = .value f){gf:FuncId}{xs ys:List E}{is:List Nat}{us:List Value}
 {ow:Bool} (y8:a.eval f = .func (.func gf) #[] us.toArray) (Nz:ki (λ_=>False) (λ_=>False) w xs (c.args.toList.map a.eval)) (qc:ow=false->ki (iS B L) (λ_=>False) w xs (c.args.toList.map a.eval)) (Nx:ki (λ_=>False) (λ_=>False) w ys us) (zD:ow=false->ki (iS B L) (λ_=>False) w ys us)
 (h:AR P K O σ o.dst gf (xs++ys) is ow=some u) (ho:∀ q,q ∈ u.jB->q):Ie P K w0 B σ o a w u:=by
 intro Kc Q hk;simp only[AR]at h;split at h
 .rename_i jQ Gg;split at h
  .rename_i hc;cases h;have pc:PC P K gf (xs++ys) jQ:=ho _ aH;have MU:=Nz.app Nx;have kP:(execOp a.eval o).run P w = .ok (.enter gf ((c.args.toList.map a.eval)++us).toArray) w:=by
    have e1:c.args.map a.eval=(c.args.toList.map a.eval).toArray:=by apply dm;simp
    have e2:#[]++(c.args.toList.map a.eval).toArray++us.toArray=((c.args.toList.map a.eval)++us).toArray:= aH ;simp only[execOp,iA,resolve,hf,y8,Deferred.ofValue,Sem.run_bind,Sem.run_pure,Result.andThen_ok,invoke,e1,e2,pc.call]
   unfold Oper.wp;rw[kP];show Calls P gf _ w _;have hK:K w:=g.Kn _ _ g.k r.he;by_cases Cv:jQ.plain 3=true
   .refine (pc.run w (λ_=>False) _ hK (λ_ h=>h.elim) MU).mono ?_;rintro e w' ⟨v,rfl,hb,hv⟩;exact hk v w' L (r.later hb) (iC.plain (w:=w') hv 3 Cv)
   .have hn:σ.nl=true/\ow=false:=by simpa[Cv]using hc
    refine(pc.run w (iS B L) _ hK (r.IC g hn.1) ((qc hn.2).app (zD hn.2))).mono ?_;rintro e w' ⟨v,rfl,hb,hv⟩;exact hk v w' L (r.later hb) (iC.qt (λ_ h=>h) (λ_ _=>trivial) hv)
  .split at h
   .rename_i hc;cases h;have pc:Ih P K gf (xs++ys) jQ:=ho _ aH;have kP:(execOp a.eval o).run P w = .ok (.enter gf ((c.args.toList.map a.eval)++us).toArray) w:=by
     have e1:c.args.map a.eval=(c.args.toList.map a.eval).toArray:=by apply dm;simp
     have e2:#[]++(c.args.toList.map a.eval).toArray++us.toArray=((c.args.toList.map a.eval)++us).toArray:= aH ;simp only[execOp,iA,resolve,hf,y8,Deferred.ofValue,Sem.run_bind,Sem.run_pure,Result.andThen_ok,invoke,e1,e2,pc.call]
    unfold Oper.wp;rw[kP];show Calls P gf _ w _;have hK:K w:=g.Kn _ _ g.k r.he;have hn:ow=false:=by simpa using hc
    refine(pc.run w (iS B L) _ hK (λb hb=>?_) ((qc hn).app (zD hn))).mono ?_
    .rcases hb with hb|⟨id,hb⟩
     .exact bQ (g.hB b hb).1 r.he.size
     .exact (r.hw id b hb).2
    .rintro e w' ⟨v,rfl,hb,hv⟩;exact hk v w' L (r.later hb) (iC.qt (λ_ h=>h) (λ_ _=>trivial) hv)
   .split at h
    .rename_i jG;cases h;have pc:PC P K gf (xs++ys) jQ:=ho _ aH;have ud:vH jQ:=ho _ aH;have MU:=Nz.app Nx;have kP:(execOp a.eval o).run P w = .ok (.enter gf ((c.args.toList.map a.eval)++us).toArray) w:=by
      have e1:c.args.map a.eval=(c.args.toList.map a.eval).toArray:=by apply dm;simp
      have e2:#[]++(c.args.toList.map a.eval).toArray++us.toArray=((c.args.toList.map a.eval)++us).toArray:= aH ;simp only[execOp,iA,resolve,hf,y8,Deferred.ofValue,Sem.run_bind,Sem.run_pure,Result.andThen_ok,invoke,e1,e2,pc.call]
     unfold Oper.wp;rw[kP];show Calls P gf _ w _;have hK:K w:=g.Kn _ _ g.k r.he;refine(pc.run w (λ_=>False) _ hK (λ_ h=>h.elim) MU).mono ?_;rintro e w' ⟨v,rfl,hb,hv⟩;have r':=r.later hb;exact hk v w' L r' (iC.qt (λ_ h=>h) (λ_ _=>trivial) (ud _ _ _ _ _ (λx hx=>.inr (r'.IC g jG x hx).2) hv))
    .cases h
 .split at h
  .rename_i d hd;split at h
   .rename_i nl T n sz el hnw;split at h
    .rename_i hc;cases h;simp only[bF]at hc;have pc:tW P K gf (xs++ys) nl T n sz el:=ho _ aH;have kP:(execOp a.eval o).run P w = .ok (.enter gf ((c.args.toList.map a.eval)++us).toArray) w:=by
      have e1:c.args.map a.eval=(c.args.toList.map a.eval).toArray:=by apply dm;simp
      have e2:#[]++(c.args.toList.map a.eval).toArray++us.toArray=((c.args.toList.map a.eval)++us).toArray:= aH ;simp only[execOp,iA,resolve,hf,y8,Deferred.ofValue,Sem.run_bind,Sem.run_pure,Result.andThen_ok,invoke,e1,e2,pc.call]
     unfold Oper.wp;rw[kP];show Calls P gf _ w _;have hK:K w:=g.Kn _ _ g.k r.he;have fin:∀ (v:Value) (w':World) (gg:Nat->Nat->Value),Below w.heap.size w w'->nE w' v T n sz gg nl->(∀ x,v.ownBlock=some x->w.heap.size<=x/\x<w'.heap.size) ->
      (∀ i j,i<n->j<sz->iC (λb=>iS B L b\/v.ownBlock=some b) (λ_=>True) w' (el i j) (gg i j)/\(el i j).nr 2=true)->Kc (a.put o.dst v) w':=by
      intro v w' gg hb lM tA xU;have key:∀ (σ1:PS) (L1:Lk),iZ w0 B σ1 a w L1->(∀ i x,L1.own i x->L.own i x)->σ1.bo d=none->σ1.nl=σ.nl->∃ L',iZ w0 B (σ1.oe (.new d (.row nl T n sz el))) a w' L'/\kQ (iS B L') (jm L') L' w' (.own d) v:=by
       intro σ1 L1 r1 Bg kp an3;have af6:=r1.new d (.row nl T n sz el) (λx=>v.ownBlock=some x) v (λ_=>undef) w' kp tA hb
        ⟨gg,by rw[Lk.pn];exact lM,λx=>by rw[Lk.sr,Lk.pn],λi j hi hj=>⟨?_,(xU i j hi hj).2⟩⟩ (by simp[Bx.nl,hc.2])
       .exact ⟨_,af6,Lk.BI,Lk.pn.symm⟩
       .refine (xU i j hi hj).1.qt (λb h=>?_) (λ_ _=>trivial);rcases h with h|⟨id,h⟩
        .exact .inl (.inl h)
        .by_cases e:id=d
         .subst e;exact .inr ((Lk.sr b).1 h)
         .exact .inl (.inr ⟨id,Bg _ _ ((Lk.BJ e b).1 h)⟩)
      cases jg:σ.bo d with
      |none=>
       obtain⟨L',k1,k2⟩:=key σ L r (λ_ _ h=>h) jg rfl;exact hk v w' L' (by simpa only[uw,jg]using k1) k2
      |some b=>
       obtain⟨L1,r1,Bg,kp⟩:=r.Sk d;obtain⟨L',k1,k2⟩:=key _ L1 r1 Bg kp rfl;rw[Su]at k1;exact hk v w' L' (by simpa only[uw,jg]using k1) k2
     cases lk:ow with
     |false=>
      refine(pc.run w (iS B L) _ hK (r.IC g hc.1) ((qc lk).app (zD lk))).mono ?_;rintro e w' ⟨v,rfl,hb,gg,lM,tA,xU⟩;exact fin v w' gg hb lM tA xU
     |true=>
      have ud:E9 n sz el:=ho _ (by simp[lk]);refine(pc.run w (λ_=>False) _ hK (λ_ h=>h.elim) (Nz.app Nx)).mono ?_;rintro e w' ⟨v,rfl,hb,gg,lM,tA,xU⟩;have r':=r.later hb;refine fin v w' gg hb lM tA λi j hi hj=>⟨ud i j hi hj _ _ _ _ _ (λx hx=>?_) (xU i j hi hj).1,(xU i j hi hj).2⟩
      rcases hx with hx|hx
      .exact .inr (r'.IC g hc.1 x hx).2
      .exact .inl (.inr hx)
    .cases h
   .cases h
  .cases h
def Mf(hT:mH P T)(g:Gd P K w0 B)(r:iZ w0 B σ a w L)(h:jD P K T O σ o=some u)(ho:∀ q,q ∈ u.jB->q):Ie P K w0 B σ o a w u:=by
 cases iA:o.op with
 |move x=>exact(afa (P:=P) (K:=K) iA r h).o9
 |assign x=>exact(aeQ (P:=P) (K:=K) iA r h).o9
 |pick c x y=>exact(afc (P:=P) (K:=K) iA r h).o9
 |alloc t=>exact(aeO hT iA r h).o9
 |box t x=>exact(aeS (P:=P) (K:=K) iA r h).o9
 |build t ps=>exact(aeT hT iA r h).o9
 |buildSlice t n ps=>exact(aeU hT (λb hb=>(g.hB b hb).1) iA r h).o9
 |load t x=>exact(ae3 hT iA r h ho).o9
 |store t x y=>exact(afe hT iA r h ho).o9
 |nilCheck x=>exact(afb (P:=P) (K:=K) iA r h).o9
 |binOp op t x y yt=>exact(aeR hT iA r h ho).o9
 |unOp op t x=>exact(aff (P:=P) (K:=K) iA r h ho).o9
 |convert s d x=>exact(aeV hT iA r h).o9
 |makeFunc fn first cap=>exact(ae5 (P:=P) (K:=K) iA r h).o9
 |makeSlice t l c=>exact(ae6 hT iA r h ho).o9
 |slice t x lo hi mx=>
  cases mx with
  |none=>exact(afd hT iA r h ho).o9
  |some=>simp[jD,iA]at h
 |fieldAddr t x f=>exact(aeY hT iA r h).o9
 |indexAddr t x i=>exact(ae0 hT iA r h ho).o9
 |index t x i=>exact(aeZ hT iA r h ho).o9
 |field t x f=>exact(aeX hT iA r h).o9
 |lookup t x i ok=>exact(ae4 hT iA r h ho).o9
 |extract x i=>exact(aeW (P:=P) (K:=K) iA r h).o9
 |call c=>
  obtain⟨callee,args,ats⟩:=c;cases callee with
  |builtin b=>
   simp only[jD,iA]at h;cases b
   case len=>
    dsimp only at h;split at h
    .rename_i x t hx ht;have ha:args = #[x]:=by apply dm;simpa using hx
     have Gk:ats = #[t]:=by apply dm;simpa using ht
     split at h
     .rename_i e hd;obtain⟨rr,hr,rfl⟩:=bT.1 h;exact(ae2 hT (by rw[ha,Gk]) iA hd r hr rfl).o9
     .cases h
    .cases h
   case append=>
    dsimp only at h;split at h
    .rename_i s x t t' hx ht;have ha:args = #[s,x]:=by apply dm;simpa using hx
     have Gk:ats = #[t,t']:=by apply dm;simpa using ht
     split at h
     .rename_i qN;have qN:=kO.1 qN;subst qN;split at h
      .rename_i q hq;exact(ae1 hT (by rw[ha,Gk]) iA r hq h ho).o9
      split at h
      .exact (aeP hT (λb hb=>(g.hB b hb).1) (by rw[ha,Gk]) iA r h ho).o9
      .exact (Ts hT (by rw[ha,Gk]) iA r h ho).o9
     .cases h
    .cases h
   case max=>
    dsimp only at h;split at h
    .rename_i k p k' q hx;rcases args with⟨l⟩
     rcases l with _|⟨x,_|⟨y,_|⟨z,l⟩⟩⟩<;>simp at hx
     cases h;exact(ae7 (P:=P) (K:=K) ⟨rfl,rfl⟩ iA r hx.1 hx.2 rfl).o9
    .rename_i k p k' q k'' s hx;rcases args with⟨l⟩
     rcases l with _|⟨x,_|⟨y,_|⟨z,_|⟨z',l⟩⟩⟩⟩<;>simp at hx
     cases h;exact(ae8 (P:=P) (K:=K) ⟨rfl,rfl⟩ iA r hx.1 hx.2.1 hx.2.2 rfl).o9
    .cases h
   case min=>
    dsimp only at h;split at h
    .rename_i k p k' q hx;rcases args with⟨l⟩
     rcases l with _|⟨x,_|⟨y,_|⟨z,l⟩⟩⟩<;>simp at hx
     cases h;exact(ae9 (P:=P) (K:=K) ⟨rfl,rfl⟩ iA r hx.1 hx.2 rfl).o9
    .cases h
   all_goals cases h
  |value f=>
   simp only[jD,iA]at h;have y8:=r.op f;split at h
   .rename_i gf cap xs is Cu qc;rw[Cu]at y8;obtain⟨us,e1,zD⟩:=iC.S9 y8;exact Sg g r iA rfl e1 (QE r qc) (λkp=>QD r qc kp) (zD.mono λ_ _=>iC.qt (λ_ h=>h.elim) (λ_ h=>h.elim)) (λ_=>zD.mono λ_ _=>iC.qt (λ_ h=>h) (λ_ h=>h.elim)) h ho
   .rename_i gf cap xs is Cu qc;rw[Cu]at y8;obtain⟨us,e1,k2,k3⟩:=y8;split at h
    .rename_i ys js CD;exact Sg g r iA rfl e1 (QE r qc) (λkp=>QD r qc (eO.1 kp).1) (SS r CD k2 k3) (λkp=>SR r CD (eO.1 kp).2 k2 k3) h ho
    .cases h
   .cases h
  |invoke _ _=>simp[jD,iA]at h
 |_=>simp[jD,iA]at h
def adW(hT:mH P T)(g:Gd P K w0 B)(r:iZ w0 B σ a w L)(h:uK P K T O σ o=some u)(ho:∀ q,q ∈ u.jB->q):Ie P K w0 B σ o a w u:=by
 unfold uK at h;split at h
 .rename_i u0 h0;split at h
  .split at h
   .rename_i p hp;cases h;have he:PV.le u0.r p:=ho _ aH;have:=Mf hT g r h0 (λq hq=>ho q (by simp[hq]));intro Kc Q hk;exact this Kc Q λv w' L' hr hv=>hk v w' L' hr (he _ _ _ _ _ hv)
   .cases h;exact Mf hT g r h0 ho
  .cases h;exact Mf hT g r h0 ho
 .cases h
end
end Go.Proofs.YtgdahmmlddfimaaGreatDoor.Pu
