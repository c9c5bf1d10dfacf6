/- Lemmas that the last file uses. -/
import Derived.Test.YtkdddbdjilcofaaGreatDoorProg
import Derived.WalkKit
import Derived.BigQuiet
import Derived.WalkSpells
import Derived.WalkLawsBesides
import Derived.Lib.Hide
import Derived.Deep.RegionHeld3
import Derived.Maps.AppendAt
import Derived.Deep.AppendLies
import Derived.Deep.Draws
import Derived.Deep.DeepFit
import Derived.Laws.AppendOwnNone
import Derived.Shelf.Small.Bits
import Derived.Shelf.Spec.TrailingZeros
import Derived.Test.YtkdddbdjilcofaaGreatDoorCards
import Derived.Test.YtkdddbdjilcofaaGreatDoorTie
import Derived.ProofKit
import Derived.OpenShut
import Derived.Deep.DeepHandedRow
import Derived.Lib.LaidTab
import Derived.Laws.AppendOwn
import Derived.Laws.MakeOwn
import Derived.Laws.Slices
import Derived.Orders
import Derived.Laws.Build
set_option linter.unusedSimpArgs false
set_option linter.unusedVariables false
set_option linter.defProp false
set_option maxHeartbeats 4000000
open Go.Proofs.Tryz
namespace Go.Proofs.YtkdddbdjilcofaaGreatDoor
theorem aC{p:Prop}(h:p:=by omega):p:=h
theorem aD{p:Prop}(h:p:=by assumption):p:=h
theorem aE{p:Prop}(h:p:=by decide):p:=h
theorem aF{p:Prop}(h:p:=by kernel_rfl):p:=h
theorem aG{p:Prop}(h:p:=by rfl):p:=h
theorem aH{p:Prop}(h:p:=by simp):p:=h
theorem aI{p:Prop}(h:p:=by nofun):p:=h
theorem aJ{p:Prop}(h:p:=by simp<;>omega):p:=h
theorem aK{p:Prop}(h:p:=by grind):p:=h
theorem aL{p:Prop}(h:p:=by decide +kernel):p:=h
theorem aM{p:Prop}(h:p:=by split<;>omega):p:=h
theorem aN{p:Prop}(h:p:=by simp;omega):p:=h
theorem aO{p:Prop}(h:p:=by first|rfl|omega|(simp only[Nat.add_mul,Nat.one_mul];omega)):p:=h
theorem aP{p:Prop}(h:p:=by simp[Op.operands]):p:=h
theorem aQ{p:Prop}(h:p:=by rw[List.length_take];omega):p:=h
theorem aR{p:Prop}(h:p:=by unfold tN;simp_all<;>omega):p:=h
theorem aS{p:Prop}(h:p:=by unfold kP;omega):p:=h
theorem aT{α:Type _}[BEq α][LawfulBEq α]{a b:α}(h:a≠b):(a==b)=false:=beq_eq_false_iff_ne.2 h
theorem aU{α:Type _}[BEq α][LawfulBEq α]{a b:α}(h:a=b):(a==b)=true:=beq_iff_eq.2 h
theorem aV{b:Bool}(h:¬b=true):b=false:=Bool.eq_false_iff.2 h
theorem aW{α:Type _}[BEq α][LawfulBEq α]{a b:α}(h:a=b):(a != b)=false:=bne_eq_false_iff_eq.2 h
theorem aX{α:Type _}[BEq α][LawfulBEq α]{a b:α}(h:a≠b):(a != b)=true:=bne_iff_ne.2 h
def aY:=@if_neg
def aZ:=@if_pos
def a6:=@decide_eq_true
def a7:=@decide_eq_false
def bc:=@Nat.le_refl
def bd:=@List.getD_eq_getElem?_getD
def bg:=@Nat.le_trans
def bh:=@Nat.pow_add
def bj:=@Nat.pow_pos
def bk:=@if_false
def bn:=@Nat.not_lt_zero
def bt:=@List.getElem?_eq_getElem
def bu:=@Option.some.injEq
def bw:=@if_true
def bA:=@Nat.mul_assoc
def bB:=@Bool.false_eq_true
def bC:=@Nat.pow_succ
def bD:=@Nat.mul_comm
def bE:=@Nat.mod_lt
def bF:=@Bool.and_eq_true
def bG:=@Rat.le_of_lt
def bH:=@Rat.le_trans
def bI:=@Nat.pow_le_pow_right
def bJ:=@Nat.lt_of_lt_of_le
def bK:=@Nat.mul_le_mul_right
def bL:=@Classical.byContradiction
def bM:=@Prod.mk.injEq
def bN:=@List.all_eq_true
def bO:=@Nat.mul_add
def bQ:=@Rat.mul_nonneg
def bR:=@Nat.add_mul
def bS:=@Nat.add_zero
def bT:=@Nat.div_le_self
def bU:=@Nat.one_mul
def bV:=@Nat.zero_le
def bW:=@List.mem_range
def bX:=@Nat.mod_eq_of_lt
def bY:=@List.getElem?_eq_some_iff
def bZ:=@Nat.zero_add
def b5:=@Nat.mul_one
def b6:=@Rat.le_refl
def b7:=@List.getElem?_eq_none
def b8:=@List.length_take
def b9:=@decide_eq_true_eq
def ca:=@List.length_map
def cg:=@Nat.beq_refl
def ch:=@Int.le_refl
def cj:=@Rat.mul_le_mul_of_nonneg_right
def ck:=@Nat.lt_of_le_of_lt
def cr:=@List.getElem?_map
def ct:=@Nat.div_lt_iff_lt_mul
def cv:=@Option.map_some
def cw:=@Nat.pow_zero
def cz:=@List.getElem_mem
def cA:=@List.length_append
def cB:=@Nat.div_add_mod
def cC:=@of_decide_eq_true
def cD:=@Nat.zero_mul
def cE:=@Nat.mul_le_mul_left
def cF:=@Nat.le_of_ble_eq_true
def cG:=@Rat.mul_le_mul_of_nonneg_left
def cH:=@Option.map_eq_some_iff
def cI:=@Nat.mul_zero
def cJ:=@beq_false
def cK:=@Classical.choose_spec
def cL:=@Rat.div_def
def cM:=@List.length_cons
def cN:=@List.take_of_length_le
def cO:=@Nat.div_eq_of_lt
def cP:=@Nat.le_div_iff_mul_le
def cQ:=@Rat.natCast_nonneg
def cR:=@Nat.add_assoc
def cS:=@Array.getElem?_eq_some_iff
def cT:=@ne_eq
def cU:=@Nat.div_mul_le_self
def cV:=@List.mem_cons
def cW:=@List.any_eq_false
def cX:=@Nat.sub_self
def cY:=@List.length_set
def c9:=@Rat.natCast_mul
def dc:=@Rat.not_lt
def de:=@Nat.min_eq_left
def df:=@Nat.mul_lt_mul_of_pos_right
def dg:=@Nat.mul_ne_zero
def dh:=@List.mem_map
def di:=@List.eq_nil_of_length_eq_zero
def dj:=@Array.ext'
def dk:=@Nat.mul_le_mul
def dm:=@Rat.mul_lt_mul_of_pos_right
def dp:=@Nat.div_div_eq_div_mul
def dq:=@List.mem_iff_getElem?
def dr:=@Array.length_toList
def dt:=@Nat.sub_zero
def du:=@Nat.le_of_lt
def dv:=@Rat.natCast_le_natCast
def dw:=@List.getElem?_append_left
def dx:=@Bool.or_eq_true
def dz:=@Bool.eq_iff_iff
def dA:=@Rat.div_mul_cancel
def dB:=@List.mem_append
def dC:=@List.getElem_cons_succ
def dD:=@Nat.mul_div_cancel
def dE:=@Nat.mod_one
def dF:=@List.mem_of_getElem?
def dG:=@List.mem_flatMap
def dH:=@Array.mem_of_getElem?
def dI:=@Bool.not_eq_true'
def dJ:=@List.any_eq_true
def dK:=@Nat.mul_left_comm
def dL:=@Nat.pos_of_ne_zero
def dM:=@Rat.mul_assoc
def dN:=@Rat.intCast_natCast
def dO:=@Rat.mul_pos
def dP:=@Rat.natCast_add
def dQ:=@Nat.add_mul_mod_self_left
def dR:=@List.drop_eq_nil_of_le
def dU:=@List.take_succ_cons
def dV:=@Nat.ne_of_gt
def dW:=@List.getElem?_take
def dX:=@Bool.not_false
def dY:=@List.map_cons
def dZ:=@Nat.eq_zero_or_pos
def ef:=@List.any_cons
def eh:=@not_false_eq_true
def ej:=@Nat.lt_succ_self
def ek:=@Int.natCast_mul
def en:=@Int.eq_ofNat_of_zero_le
def eo:=@Nat.mod_le
def ep:=@List.mem_of_mem_take
def er:=@Nat.add_sub_cancel
def et:=@Nat.mod_add_div
def eu:=@List.getElem_toArray
def ev:=@List.getElem_cons_zero
def ew:=@List.drop_zero
def ey:=@List.drop_succ_cons
def ez:=@List.take_zero
def eA:=@List.getElem?_drop
def eB:=@List.getElem?_append
def eC:=@List.length_drop
def eD:=@Bool.or_eq_false_iff
def eE:=@Nat.sub_le
def eF:=@List.getElem?_replicate
def eG:=@List.take_length
def eH:=@Nat.xor_lt_two_pow
def eI:=@Nat.div_one
def eJ:=@Int.toNat_of_nonneg
def eK:=@List.mem_of_mem_drop
def eN:=@Nat.add_mul_div_left
def eO:=@List.drop_eq_getElem_cons
def eP:=@Array.getElem?_modify
def eR:=@Bool.not_true
def eU:=@Array.mem_append
def eV:=@getElem!_pos
def eW:=@Bool.or_false
def eX:=@and_true
def eZ:=@Nat.lt_trans
def e9:=@Bool.true_and
def fc:=@List.map_congr_left
def fe:=@Nat.and_lt_two_pow
def ff:=@decide_true
def fg:=@BitVec.toNat_ofInt
def fh:=@Rat.le_of_mul_le_mul_right
def fi:=@Rat.neg_neg
def fj:=@Rat.one_mul
def fk:=@Rat.mul_comm
def fm:=@dif_pos
def fo:=@Rat.inv_pos
def fp:=@Rat.le_antisymm
def fu:=@List.take_succ_eq_append_getElem
def fw:=@List.length_singleton
def fz:=@Nat.mul_pos
def fA:=@Nat.lt_or_ge
def fB:=@Nat.mul_mod_left
def fC:=@List.map_append
def fD:=@List.append_nil
def fE:=@Int.toNat_natCast
def fF:=@Nat.blt_eq
def fG:=@Nat.mul_add_mod
def fH:=@List.ext_getElem?
def fI:=@List.getElem?_append_right
def fJ:=@List.size_toArray
def fK:=@Array.mem_map
def fL:=@Array.mem_range
def fM:=@List.any_nil
def fN:=@Option.isSome_iff_exists
def fO:=@List.length_pos_iff
def fP:=@beq_iff_eq
def fQ:=@Int.natAbs_natCast
def fR:=@List.ext_getElem
def fS:=@Rat.intCast_le_intCast
def fT:=@Rat.natCast_pos
def fU:=@of_decide_eq_false
def fV:=@Nat.div_lt_self
def fW:=@Nat.le_mul_of_pos_left
def fX:=@Nat.mul_right_comm
def fY:=@Nat.sub_add_cancel
def fZ:=@Nat.le_mul_of_pos_right
def gh:=@Array.getElem_mem
def gj:=@List.getElem?_toArray
def gl:=@List.mem_toArray
def gn:=@Int.tdiv_eq_ediv_of_nonneg
def gp:=@List.mem_singleton
def gq:=@List.mapM_cons
def gr:=@Option.bind_eq_some_iff
def gv:=@BitVec.ofInt_natCast
def gy:=@BitVec.toNat_ofNat
def gz:=@Nat.pow_lt_pow_right
def gE:=@decide_eq_true_iff
def gF:=@decide_false
def gG:=@Nat.le_of_eq
def gH:=@Bool.or_self
def gI:=@Nat.succ_mul
def gJ:=@Nat.div_le_div_left
def gK:=@Rat.not_le
def gL:=@Rat.intCast_neg
def gM:=@Rat.neg_mul
def gN:=@Rat.inv_mul_cancel
def gO:=@Nat.one_ne_zero
def gP:=@Rat.lt_irrefl
def gQ:=@List.cons_append
def ado:=@List.take_append_drop
def amK:=@List.eq_nil_or_concat
def amL:=@List.concat_eq_append
def amM:=@List.getElem?_cons_succ
def amN:=@Nat.mul_add_div
def amO:=@Array.size_append
def amP:=@not_true_eq_false
def amQ:=@List.append_assoc
def amR:=@List.length_nil
def amS:=@Option.getD_some
def amT:=@List.pairwise_cons
def amU:=@List.pairwise_append
def amV:=@Option.some.inj
def amW:=@Array.getElem_setIfInBounds_ne
def amX:=@Nat.or_lt_two_pow
def amY:=@List.take_add_one
def amZ:=@decide_eq_decide
def am0:=@Int.natAbs_neg
def am1:=@Nat.testBit_xor
def am2:=@Bool.false_or
def am3:=@List.length_eq_zero_iff
def am4:=@List.getElem?_range
def am5:=@List.range_succ
def am6:=@Rat.mul_div_cancel
def am7:=@Int.tmod_eq_emod_of_nonneg
def am8:=@List.all_eq_false
def am9:=@Nat.pow_lt_pow_iff_right
def ana:=@Array.getElem?_setIfInBounds_ne
def anb:=@Array.getElem?_append_left
def anc:=@Array.toList_setIfInBounds
def ane:=@List.drop_length_add_append
def anf:=@Array.all_eq_true_iff_forall_mem
def ang:=@Array.mapM_eq_mapM_toList
def anh:=@Nat.and_two_pow_sub_one_eq_mod
def ani:=@Nat.eq_of_mul_eq_mul_right
def anj:=@Nat.lt_of_mul_lt_mul_right
def ank:=@Rat.lt_of_mul_lt_mul_right
def anl:=@decide_eq_false_iff_not
def anm:=@Int.mul_tdiv_cancel_left
def ann:=@Nat.mul_div_cancel_left
def ano:=@Nat.mod_two_eq_zero_or_one
def anp:=@Nat.mul_lt_mul_of_lt_of_lt
def anq:=@Lib.hid
end Go.Proofs.YtkdddbdjilcofaaGreatDoor
namespace Go.Proofs.YtkdddbdjilcofaaGreatDoor.Fp
def val:List Nat->Nat
 | []=>0
 |x::l=>x+4294967296*val l
def iE(L:List Nat):Prop:=∀ x,x ∈ L->x<4294967296
def iE.nil:iE []:=by intro x h;cases h
def iE.cons{x:Nat}{l:List Nat}(hx:x<4294967296)(h:iE l):iE (x::l):=by
 intro y hy;rcases cV.1 hy with rfl|hy;exact hx;exact h _ hy
def iE.head{x:Nat}{l:List Nat}(h:iE (x::l)):x<4294967296:=h x aH 
def iE.tail{x:Nat}{l:List Nat}(h:iE (x::l)):iE l:=λy hy=>h y (by simp[hy])
def iE.append{l m:List Nat}(h:iE l)(k:iE m):iE (l++m):=by
 intro x hx;rcases dB.1 hx with hx|hx;exact h _ hx;exact k _ hx
def iE.take{l:List Nat}(h:iE l)(n:Nat):iE (l.take n):=λx hx=>h x (ep hx)
def iE.drop{l:List Nat}(h:iE l)(n:Nat):iE (l.drop n):=λx hx=>h x (eK hx)
def iE.get{l:List Nat}(h:iE l){i:Nat}(hi:i<l.length):l[i]<4294967296:=h _ (cz hi)
def iE.getD{l:List Nat}(h:iE l)(i:Nat):l.getD i 0<4294967296:=by
 rw[bd];by_cases hi:i<l.length
 .rw [bt hi];exact h.get hi
 .rw [b7 aC];decide
def iE.Eb(n:Nat):iE (List.replicate n 0):=by
 intro x hx;rw[List.mem_replicate]at hx;rw[hx.2];decide
@[simp] theorem KI:val []=0:=rfl
@[simp] theorem su (x:Nat) (l:List Nat):val (x::l)=x+4294967296*val l:=rfl
def Bk(l m:List Nat):val (l++m)=val l+4294967296^l.length*val m:=by
 induction l with
 |nil=>simp
 |cons x l ih=>
  simp only[gQ,su,ih,cM,bC];rw[bO,bD (4294967296^l.length) 4294967296,bA];omega
def oA{l:List Nat}(h:iE l):val l<4294967296^l.length:=by
 induction l with
 |nil=>simp
 |cons x l ih=>
  have h1:=h.head;have h2:=ih h.tail;simp only[su,cM,bC];have:val l+1<=4294967296^l.length:=h2;have:=cE 4294967296 this;rw[bD (4294967296^l.length)];omega
def CQ(n:Nat):val (List.replicate n 0)=0:=by
 induction n with
 |zero=>rfl
 |succ n ih=>simp[List.replicate_succ,ih]
def Eo(l:List Nat)(n:Nat)(hn:n<=l.length):val l=val (l.take n)+4294967296^n*val (l.drop n):=by
 conv=>lhs;rw[<-ado n l,Bk]
 rw[b8,de hn]
def CS(l:List Nat)(n:Nat)(hn:n<l.length):val (l.take (n+1))=val (l.take n)+4294967296^n*l[n]:=by
 rw[fu hn,Bk,b8,de aC];simp
def alH{l:List Nat}(h:iE l)(n:Nat):val (l.take n)=val l%4294967296^n:=by
 by_cases hn:n<=l.length
 .rw [Eo l n hn,dQ,bX];have:=oA (h.take n);rwa[b8,de hn]at this
 .rw [cN aC,bX];refine bJ (oA h) (bI aE aC)
def G5{l:List Nat}(h:iE l)(n:Nat):val (l.drop n)=val l/4294967296^n:=by
 by_cases hn:n<=l.length
 .rw [Eo l n hn];have:=oA (h.take n);rw[b8,de hn]at this;rw[eN _ _ (bj aE),cO this,bZ]
 .rw [dR aC,cO];rfl;exact bJ (oA h) (bI aE aC)
def iA:List Nat->List Nat
 | []=>[]
 |x::l=>match iA l with
  | []=>if x=0 then[]else[x]
  |y::m=>x::y::m
def mz(L:List Nat):Nat:=(iA L).length
def YN(l:List Nat):iA (l++[0])=iA l:=by
 induction l with
 |nil=>rfl
 |cons x l ih=>simp only[gQ,iA,ih]
def YM(l:List Nat)(x:Nat)(hx:x≠0):iA (l++[x])=l++[x]:=by
 induction l with
 |nil=>simp[iA,hx]
 |cons y l ih=>
  simp only[gQ,iA,ih];cases l<;>rfl
def KA(L:List Nat):iA L=L.take (mz L):=by
 unfold mz
 induction L with
 |nil=>rfl
 |cons x l ih=>
  simp only[iA];cases h:iA l with
  |nil=>by_cases hx:x=0<;>simp[hx]
  |cons y m=>
   rw[h]at ih;simp only[cM,dU];rw[cM]at ih;rw[<-ih]
def pq(L:List Nat):mz L<=L.length:=by
 have h:=congrArg List.length (KA L);rw[b8]at h;unfold mz at h ⊢;omega
def pQ(L:List Nat):val (iA L)=val L:=by
 induction L with
 |nil=>rfl
 |cons x l ih=>
  simp only[iA];cases h:iA l with
  |nil=>rw[h]at ih;by_cases hx:x=0<;>simp[hx,<-ih]
  |cons y m=>rw[h]at ih;simp only[su]at ih ⊢;rw[ih]
def iE.iA{L:List Nat}(h:iE L):iE (Fp.iA L):=by rw[KA];exact h.take _
def nI(L:List Nat):Prop:=iA L=L
def zJ(L:List Nat):nI (iA L):=by
 unfold nI
 induction L with
 |nil=>rfl
 |cons x l ih=>
  simp only[iA];cases h:iA l with
  |nil=>by_cases hx:x=0<;>simp[hx,iA]
  |cons y m=>rw[h]at ih;simp only[iA]at ih ⊢;rw[ih]
def nI.nil:nI []:=rfl
def Bi(L:List Nat):nI L↔∀ h:0<L.length,L[L.length-1]≠0:=by
 rcases amK L with rfl|⟨l,x,rfl⟩
 .simp [nI,iA]
 .simp only[amL,cA,fw,er,List.getElem_concat_length];constructor
  .intro h _ hx;subst hx;have:=congrArg List.length h;rw[YN]at this;have h2:=pq l;unfold mz at h2;rw[cA]at this;simp at this;omega
  .intro h;exact YM l x (h aC)
def Pv(L:List Nat)(n:Nat)(hn:n<L.length)(h0:L[n]=0):mz (L.take (n+1))=mz (L.take n):=by
 unfold mz;rw[fu hn,h0,YN]
def Pt(L:List Nat)(n:Nat)(hn:n<L.length)(h0:L[n]≠0):mz (L.take (n+1))=n+1:=by
 unfold mz;rw[fu hn,YM _ _ h0];simp;omega
def nI.Lw{x:Nat}{l:List Nat}(h:nI (x::l)):nI l:=by
 rw[Bi]at h ⊢;intro hl;have:=h aH;simp only[cM,er]at this;have e:(x::l)[l.length]'(aH)=l[l.length-1]:=by
  rw[List.getElem_cons];rw[dif_neg aC]
 rwa[e]at this
def nI.En{L:List Nat}(h:nI L)(hl:L≠[]):0<val L:=by
 induction L with
 |nil=>exact absurd rfl hl
 |cons x l ih=>
  simp only[su];by_cases qf:l=[]
  .subst qf;have:=(Bi _).1 h aH;simp at this;simp;omega
  .have:=ih h.Lw qf;omega
def nI.ext{L M:List Nat}(hL:nI L)(hM:nI M)(kL:iE L)(kM:iE M)(h:val L=val M):L=M:=by
 induction L generalizing M with
 |nil=>
  by_cases hm:M=[]
  .exact hm.symm
  .have:=hM.En hm;rw[<-h]at this;simp at this
 |cons x l ih=>
  cases M with
  |nil=>have:=hL.En aH;rw[h]at this;simp at this
  |cons y m=>
   simp only[su]at h;have h1:=kL.head;have h2:=kM.head;have e:x=y:= aC ;subst e;rw[ih hL.Lw hM.Lw kL.tail kM.tail aC]
def gS(n:Nat):List Nat:=if n=0 then[]else n%4294967296::gS (n/4294967296)
termination_by n
decreasing_by exact fV aC aE 
def nU:gS 0=[]:=by rw[gS];rfl
def AM{n:Nat}(h:n≠0):gS n=n%4294967296::gS (n/4294967296):=by rw[gS,aY h]
def kf(n:Nat):val (gS n)=n:=by
 induction n using Nat.strongRecOn with
 |_ n ih=>
  by_cases h:n=0
  .subst h;rw[nU];rfl
  .rw [AM h,su,ih _ (fV aC aE)];exact et n 4294967296
def mH(n:Nat):iE (gS n):=by
 induction n using Nat.strongRecOn with
 |_ n ih=>
  by_cases h:n=0
  .subst h;rw[nU];exact iE.nil
  .rw [AM h];exact iE.cons (bE _ aE) (ih _ (fV aC aE))
def Bj(n:Nat):nI (gS n):=by
 induction n using Nat.strongRecOn with
 |_ n ih=>
  by_cases h:n=0
  .subst h;rw[nU];exact nI.nil
  .rw [AM h];have h1:=ih _ (fV aC (aE:1<4294967296));unfold nI at h1 ⊢;simp only[iA,h1];by_cases h2:n/4294967296=0
   .rw [h2,nU];have:n%4294967296≠0:= aC ;simp[this]
   .rw [AM h2]
def sr{L:List Nat}(h:iE L):iA L=gS (val L):=
 nI.ext (zJ L) (Bj _) h.iA (mH _) (by rw[pQ,kf])
def nI.E7{L:List Nat}(h:nI L)(k:iE L):L=gS (val L):=by
 rw[<-sr k];exact h.symm
def Vx{n:Nat}:gS n=[]↔n=0:=by
 constructor
 .intro h;have:=kf n;rw[h]at this;exact this.symm
 .rintro rfl;exact nU
def uX{n k:Nat}(h:n<4294967296^k):(gS n).length<=k:=by
 induction k generalizing n with
 |zero=>simp at h;subst h;rw[nU];simp
 |succ k ih=>
  by_cases h0:n=0
  .subst h0;rw[nU];simp
  .rw [AM h0,cM];have:n/4294967296<4294967296^k:=by
    rw[ct aE];rwa[bC]at h
   have:=ih this;omega
def JI{n k:Nat}(h:(gS n).length<=k):n<4294967296^k:=by
 have h1:=oA (mH n);rw[kf]at h1;exact bJ h1 (bI aE h)
def ia(n:Nat):Nat:=if n=0 then 0 else n.log2+1
def rO:ia 0=0:=rfl
def lZ{n k:Nat}:ia n<=k↔n<2^k:=by
 unfold ia;by_cases h:n=0
 .subst h;simp[bj]
 .rw [aY h,<-Nat.log2_lt h];omega
def wb{n k:Nat}:k<ia n↔2^k<=n:=by
 have:=@lZ n k;omega
def yr{n k:Nat}(h1:2^k<=n)(h2:n<2^(k+1)):ia n=k+1:=by
 have a:=wb.2 h1;have b:=lZ.2 h2;omega
def ql(n:Nat):n<2^ia n:=lZ.1 (bc _)
def rK{n:Nat}(h:n≠0):2^(ia n-1)<=n:=by
 have:ia n-1<ia n:=by
  have:ia n≠0:=by unfold ia;simp[h]
  omega
 exact wb.1 this
def nR{n:Nat}(h:n≠0):0<ia n:=by unfold ia;simp[h]
def wF{m n:Nat}(h:m<=n):ia m<=ia n:=lZ.2 (ck h (ql n))
def rN{n:Nat}(h:n≠0)(k:Nat):ia (n*2^k)=ia n+k:=by
 have h1:=ql n;have h2:=rK h;have h3:=nR h;have e:ia n+k=(ia n-1+k)+1:= aC ;rw[e];apply yr
 .rw [bh];exact bK _ h2
 .rw [<-e,bh];exact df h1 (bj aE)
def tz(k:Nat):(4294967296:Nat)^k=2^(32*k):=by
 rw[Nat.pow_mul]
def aaB{l:List Nat}{x:Nat}(h:iE (l++[x]))(hx:x≠0):ia (val (l++[x]))=32*l.length+ia x:=by
 rw[Bk];simp only[su,KI,cI,bS];have hl:val l<4294967296^l.length:=oA (λy hy=>h y (by simp[hy]));rw[tz]at hl ⊢;have h1:=ql x;have h2:=rK hx;have h3:=nR hx;have e:32*l.length+ia x=(32*l.length+(ia x-1))+1:= aC ;rw[e];apply yr
 .rw [bh];have:=cE (2^(32*l.length)) h2;omega
 .rw [<-e,bh];have:=cE (2^(32*l.length)) (show x+1<=2^ia x from h1);rw[bO]at this;omega
def ky(a b:Nat):Int:=if a<b then -1 else if b<a then 1 else 0
def KH{L M:List Nat}(kL:iE L)(hM:nI M)(h:L.length<M.length):val L<val M:=by
 rcases amK M with rfl|⟨m,x,rfl⟩
 .simp at h
 .simp only[amL,cA,fw]at h hM ⊢;have hx:x≠0:=by
   have:=(Bi _).1 hM aH;simpa using this
  have h1:=oA kL;rw[Bk];have h2:(4294967296:Nat)^L.length<=4294967296^m.length:=bI aE aC;have h3:(4294967296:Nat)^m.length*1<=4294967296^m.length*val [x]:=cE _ aN;omega
def alD{L M:List Nat}(kL:iE L)(i:Nat)(hi:i<L.length)(hlen:L.length=M.length)(afE:L.drop (i+1)=M.drop (i+1))(im:L[i]<M[i]'(aC)):val L<val M:=by
 rw[Eo L (i+1) aC,Eo M (i+1) aC,afE,CS L i hi,CS M i aC];have h1:=oA (kL.take i);rw[b8,de aC]at h1;have h2:=cE (4294967296^i) (show L[i]+1<=M[i]'(aC)from im);rw[bO]at h2;omega
def alF(L:List Nat)(k:Nat)(h:iE L):val (L.drop k)=val L/2^(32*k):=by
 rw[G5 h,tz]
def qo(s:Nat):List Nat->List Nat
 | []=>[]
 |x::l=>((x+4294967296*l.getD 0 0)/2^s)%4294967296::qo s l
def Kq(s:Nat)(L:List Nat):(qo s L).length=L.length:=by
 induction L with
 |nil=>rfl
 |cons x l ih=>simp[qo,ih]
def Yf(s:Nat)(L:List Nat)(i:Nat)(h:i<L.length):(qo s L)[i]? = some (((L[i]+4294967296*L.getD (i+1) 0)/2^s)%4294967296):=by
 induction L generalizing i with
 |nil=>simp at h
 |cons x l ih=>
  cases i with
  |zero=>simp[qo]
  |succ i=>
   simp only[cM]at h;simp only[qo,amM,ih i aC,dC];congr 1
def AW(s:Nat)(L:List Nat):iE (qo s L):=by
 induction L with
 |nil=>exact iE.nil
 |cons x l ih=>exact iE.cons (bE _ aE) ih
def alG{L:List Nat}(h:iE L)(s:Nat)(hs:s<32):val (qo s L)=val L/2^s:=by
 induction L with
 |nil=>simp[qo]
 |cons x l ih=>
  have e:32=s+(32-s):= aC ;have e2:(4294967296:Nat)=2^s*2^(32-s):=by rw[<-bh,<-e]
  have hp:0<2^s:=bj aE;have hx:=h.head;simp only[qo,su,ih h.tail];generalize hv:val l=v;have hh:l.getD 0 0=v%4294967296:=by
   rw[<-hv];cases l with
   |nil=>simp
   |cons y m=>
    have:=h.tail.head;simp[su];omega
  rw[hh];have f1:(x+4294967296*(v%4294967296))/2^s=x/2^s+2^(32-s)*(v%4294967296):=by
   rw[show x+4294967296*(v%4294967296)=x+2^s*(2^(32-s)*(v%4294967296))by rw[<-bA,<-e2],eN _ _ hp]
  have f2:(x+4294967296*v)/2^s=x/2^s+2^(32-s)*v:=by
   rw[show x+4294967296*v=x+2^s*(2^(32-s)*v)by rw[<-bA,<-e2],eN _ _ hp]
  rw[f1,f2];have pC:x/2^s<2^(32-s):=by
   rw[ct hp,bD,<-e2];exact hx
  generalize x/2^s=q at pC ⊢;have g1:(4294967296:Nat)=2^(32-s)*2^s:=by rw[bD];exact e2
  have g2:v=2^s*(v/2^s)+v%2^s:=(cB v (2^s)).symm;have g3:(q+2^(32-s)*(v%4294967296))%4294967296=q+2^(32-s)*(v%2^s):=by
   have k1:v%4294967296%2^s=v%2^s:=by
    rw[e2,Nat.mod_mul_right_mod]
   have k2:(v%4294967296)=2^s*(v%4294967296/2^s)+v%2^s:=by
    rw[<-k1];exact(cB _ _).symm
   conv=>lhs;rw[k2]
   rw[bO,<-bA,<-g1];rw[(aC:q+(4294967296*(v%4294967296/2^s)+2^(32-s)*(v%2^s))=(q+2^(32-s)*(v%2^s))+4294967296*(v%4294967296/2^s)),dQ];apply bX;have:v%2^s+1<=2^s:=bE _ hp;have:=cE (2^(32-s)) this;rw[<-g1,bO]at this;omega
  rw[g3]
  conv=>rhs;rw[g2,bO,<-bA,<-g1]
  omega
def KJ{L:List Nat}(h:iE L)(n:Nat):val (qo (n%32) (L.drop (n/32)))=val L/2^n:=by
 rw[alG (h.drop _) _ (bE _ aE),alF _ _ h,dp,<-bh];congr 2;omega
def Ya{out a:List Nat}{i c s n0:Nat}(hi:i<a.length)(hlen:out.length=n0+i)
 (h:val out+4294967296^(n0+i)*c=val (a.take i)*2^s*4294967296^n0):
 val (out++[(a[i]*2^s+c)%4294967296])+4294967296^(n0+(i+1))*((a[i]*2^s+c)/4294967296)=val (a.take (i+1))*2^s*4294967296^n0:=by
 rw[Bk,CS a i hi,hlen];simp only[su,KI,cI,bS];generalize hx:a[i]*2^s+c=x;have e:=et x 4294967296;have p:4294967296^(n0+(i+1))=4294967296^(n0+i)*4294967296:=by rw[<-cR,bC]
 rw[p,cR,bA (4294967296^(n0+i)),<-bO,e,<-hx,bO,<-cR,Nat.add_right_comm,h,bR,bR];congr 1;rw[bh]
 ac_rfl
def Bl(b:List Nat)(i:Nat):val (b.take (i+1))=val (b.take i)+4294967296^i*b.getD i 0:=by
 by_cases hi:i<b.length
 .rw [CS b i hi,bd,bt hi];rfl
 .rw [cN aC,cN aC,bd,b7 aC];simp
def jl(n:Nat):Nat:=if n=0 then 0 else(Nat.gcd n (2^(Nat.log2 n+1))).log2
def Lx{m:Nat}(hm:m%2=1)(k:Nat):jl (m*2^k)=k:=by
 have h0:m*2^k≠0:=dg aC (dV (bj aE));unfold jl;rw[aY h0];have hk:k<=Nat.log2 (m*2^k):=by
  apply bL;intro h;have h1:m*2^k<2^k:=(Nat.log2_lt h0).1 aC;have:1*2^k<=m*2^k:=bK _ aC;omega
 obtain⟨j,hj⟩:∃ j,Nat.log2 (m*2^k)+1=j+k:=⟨Nat.log2 (m*2^k)+1-k,aC⟩
 rw[hj,bh,Nat.gcd_mul_right];have hg:Nat.gcd m (2^j)=1:=by
  have hc:Nat.Coprime m 2:=by
   unfold Nat.Coprime;rw[Nat.gcd_comm,Nat.gcd_rec,hm];rfl
  exact Nat.Coprime.pow_right j hc
 rw[hg,bU,Nat.log2_two_pow]
def Ip{n:Nat}(h:n%2=1):jl n=0:=by have:=Lx h 0;simpa using this
def alp{n:Nat}(h:n≠0):∃ m k,m%2=1/\n=m*2^k:=by
 induction n using Nat.strongRecOn with
 |_ n ih=>
  by_cases h2:n%2=1
  .exact ⟨n,0,h2,aH⟩
  .obtain ⟨m,k,hm,he⟩:=ih (n/2) aC aC ;exact⟨m,k+1,hm,by rw[bC,<-bA,<-he];omega⟩
def RE{n:Nat}(h:n≠0)(h2:n%2=0):jl n=jl (n/2)+1:=by
 obtain⟨m,k,hm,he⟩:=alp (n:=n/2) aC;have e:n=m*2^(k+1):=by rw[bC,<-bA,<-he];omega
 rw[he,Lx hm]
 conv=>lhs;rw[e]
 exact Lx hm _
def BC{n:Nat}(h:n≠0):∃ m,m%2=1/\n=m*2^jl n:=by
 induction n using Nat.strongRecOn with
 |_ n ih=>
  by_cases h2:n%2=1
  .exact ⟨n,h2,by rw[Ip h2];omega⟩
  .obtain ⟨m,hm,he⟩:=ih (n/2) aC aC ;refine⟨m,hm,?_⟩;rw[RE h aC,bC,<-bA,<-he];omega
def yA{m:Nat}(hm:m%2=1)(k:Nat):jl (m*2^k)=k:=by
 induction k with
 |zero=>rw[cw,b5,Ip hm]
 |succ k ih=>
  have hp:0<m*2^k:=fz aC (bj aE);have e:m*2^(k+1)=m*2^k*2:=by rw[bC,bA]
  rw[e,RE aC aC,dD _ aE,ih]
def Gp{n:Nat}(h:n≠0):(n/2^jl n)%2=1:=by
 obtain⟨m,hm,he⟩:=BC h;have:n/2^jl n=m:=by conv=>lhs;rw[he,yA hm];rw[dD _ (bj aE)]
 rw[this];exact hm
def E3{n:Nat}(h:n≠0):(n/2^jl n)*2^jl n=n:=by
 obtain⟨m,hm,he⟩:=BC h;have:n/2^jl n=m:=by conv=>lhs;rw[he,yA hm];rw[dD _ (bj aE)]
 rw[this];exact he.symm
def Gy{n:Nat}(h:n≠0):2^jl n<=n:=by
 obtain⟨m,hm,he⟩:=BC h
 conv=>rhs;rw[he]
 exact fW _ aC 
def acv{x v:Nat}(hx:x≠0)(im:x<4294967296):jl (x+4294967296*v)=jl x:=by
 obtain⟨m,hm,he⟩:=BC hx;have hk:jl x<32:=by
  have h1:=Gy hx;rcases fA (jl x) 32 with h|h
  .exact h
  .have:=bI (n:=2) aE h;have e:(2:Nat)^32=4294967296:= aE ;omega
 have e:x+4294967296*v=(m+2^(32-jl x)*v)*2^jl x:=by
  rw[bR,<-he,fX,<-bh,fY aC]
 conv=>lhs;rw[e]
 apply yA;have:2^(32-jl x)=2*2^(31-jl x):=by rw[(aC:32-jl x=(31-jl x)+1),bC,bD]
 rw[this,bA,dQ];exact hm
def acw{v:Nat}(hv:v≠0)(k:Nat):jl (2^k*v)=k+jl v:=by
 obtain⟨m,hm,he⟩:=BC hv
 conv=>lhs;rw[he,<-bA,bD (2^k),bA,<-bh]
 exact yA hm _
def G6{L:List Nat}:val L=0↔∀ x,x ∈ L->x=0:=by
 induction L with
 |nil=>simp
 |cons x l ih=>
  simp only[su,cV];constructor
  .intro h y hy;rcases hy with rfl|hy
   .omega
   .exact ih.1 aC y hy
  .intro h;have h1:=h x (.inl rfl);have h2:=ih.2 (λy hy=>h y (.inr hy));omega
def acx{L:List Nat}(h:iE L)(i:Nat)(hi:i<L.length)(h0:∀ j,(hj:j<i)->L[j]=0)(hx:L[i]≠0):jl (val L)=32*i+jl L[i]:=by
 rw[Eo L i aC];have:val (L.take i)=0:=by
  rw[G6];intro y hy;obtain⟨j,hj,rfl⟩:=List.getElem_of_mem hy;rw[b8]at hj;rw[List.getElem_take];exact h0 j aC 
 rw[this,bZ,tz,eO hi,su];rw[acw aC,acv hx (h.get hi)]
def PB{L:List Nat}{k x:Nat}(hk:k<L.length):val (L.set k x)+4294967296^k*L[k]=val L+4294967296^k*x:=by
 induction L generalizing k with
 |nil=>simp at hk
 |cons y l ih=>
  cases k with
  |zero=>simp;omega
  |succ k=>
   simp only[cM]at hk;have:=ih (k:=k) aC;simp only[List.set_cons_succ,su,dC,bC];have e1:(4294967296^k*4294967296*l[k])=4294967296*(4294967296^k*l[k]):=by ac_rfl
   have e2:(4294967296^k*4294967296*x)=4294967296*(4294967296^k*x):=by ac_rfl
   rw[e1,e2];omega
def iE.set{L:List Nat}(h:iE L)(k:Nat){x:Nat}(hx:x<4294967296):iE (L.set k x):=by
 intro y hy;rcases List.mem_or_eq_of_mem_set hy with hy|rfl
 .exact h _ hy
 .exact hx
structure Dy where
 neg:Bool
 m:Nat
 e:Int
def Dy.nc(d:Dy):Prop:=(d.m=0/\d.neg=false/\d.e=0)\/d.m%2=1
def canon(neg:Bool)(m:Nat)(e:Int):Dy:=if m=0 then⟨false,0,0⟩else⟨neg,m/2^jl m,e+jl m⟩
def rq(neg:Bool)(m:Nat)(e:Int):(canon neg m e).nc:=by
 unfold canon;split
 .exact .inl ⟨rfl,rfl,rfl⟩
 .rename_i h;exact .inr (Gp h)
def Dy.nc.De{d:Dy}(h:d.nc):canon d.neg d.m d.e=d:=by
 obtain⟨s,m,e⟩:=d;rcases h with⟨h1,h2,h3⟩|h
 .simp only at h1 h2 h3;subst h1 h2 h3;rfl
 .simp only at h ⊢;unfold canon;rw[aY aC,Ip h];simp
def mB(d:Dy):Prop:=d.m=0\/ia d.m<=4096 /\ -16384<=d.e/\d.e<=16384/\(ia d.m:Int)+d.e<=16384
instance (d:Dy):Decidable (mB d):=by unfold mB;infer_instance
structure Dy.gY(d:Dy):Prop where
 canon:d.nc
 range:mB d
def iq:Dy:=⟨false,0,0⟩
def rn:iq.gY:=⟨.inl ⟨rfl,rfl,rfl⟩,.inl rfl⟩
def Dy.iK(d:Dy):Int:=if d.m=0 then 0 else if d.neg then -1 else 1
def Dy.ij(d:Dy):Int:=if d.m=0 then 0 else ia d.m+d.e
def Dy.jK(d:Dy)(e:Int):Nat:=d.m*2^(d.e-e).toNat
def Dy.num(d:Dy)(e:Int):Int:=if d.neg then -(d.jK e:Int)else d.jK e
def iO(a b:Dy):Int:=
 if a.num (min a.e b.e)<b.num (min a.e b.e)then -1 else if b.num (min a.e b.e)<a.num (min a.e b.e)then 1 else 0
def xU{d:Dy}(h:d.m≠0)(e:Int):0<d.jK e:=fz aC (bj aE)
def VQ{d:Dy}(h:d.m=0)(e:Int):d.jK e=0:=by unfold Dy.jK;rw[h,cD]
def Ic{d:Dy}(h:d.m≠0){e:Int}(he:e<=d.e):(ia (d.jK e):Int)=ia d.m+d.e-e:=by
 unfold Dy.jK;rw[rN h];omega
def VP{a b:Dy}(ha:a.m≠0)(hb:b.m≠0){e:Int}(h1:e<=a.e)(h2:e<=b.e)(h:a.ij<b.ij):a.jK e<b.jK e:=by
 have k1:=Ic ha h1;have k2:=Ic hb h2;unfold Dy.ij at h;rw[aY ha,aY hb]at h;rcases fA (a.jK e) (b.jK e)with h'|h'
 .exact h'
 .have:=wF h';omega
def sY(a b:Dy):Int:=ky (a.jK (min a.e b.e)) (b.jK (min a.e b.e))
def aca{a b:Dy}(ha:a.m≠0)(hb:b.m≠0)(h:a.ij<b.ij):sY a b = -1:=by
 unfold sY ky;rw[aZ (VP ha hb (Int.min_le_left _ _) (Int.min_le_right _ _) h)]
def ab9{a b:Dy}(ha:a.m≠0)(hb:b.m≠0)(h:b.ij<a.ij):sY a b=1:=by
 have:=VP hb ha (Int.min_le_right a.e b.e) (Int.min_le_left _ _) h;unfold sY ky;rw[aY aC,aZ this]
def CN(d:Dy):(d.m=0/\d.iK=0)\/(d.m≠0/\d.neg=true/\d.iK = -1)\/(d.m≠0/\d.neg=false/\d.iK=1):=by
 unfold Dy.iK;by_cases h:d.m=0
 .exact .inl ⟨h,aZ h⟩
 .cases hn:d.neg
  .exact .inr (.inr ⟨h,rfl,by simp[h]⟩)
  .exact .inr (.inl ⟨h,rfl,by simp[h]⟩)
def WI{d:Dy}(e:Int):(d.iK=0->d.num e=0)/\(d.iK = -1->d.num e<0/\d.num e = -(d.jK e))/\(d.iK=1->0<d.num e/\d.num e=d.jK e):=by
 unfold Dy.num;rcases CN d with⟨h1,h2⟩|⟨h1,h2,h3⟩|⟨h1,h2,h3⟩
 .rw [h2,VQ h1];simp
 .have:=xU h1 e;rw[h3,h2];simp;omega
 .have:=xU h1 e;rw[h3,h2];simp;omega
def Rt(a b:Dy):iO a b=if a.iK<b.iK then -1 else if b.iK<a.iK then 1 else if a.iK=0 then 0 else a.iK*sY a b:=by
 unfold iO sY ky;generalize min a.e b.e=e;obtain⟨p1,p2,p3⟩:=WI (d:=a) e;obtain⟨q1,q2,q3⟩:=WI (d:=b) e;generalize a.num e=x at *
 generalize b.num e=y at *
 generalize a.jK e=x' at *
 generalize b.jK e=y' at *
 have ha:a.iK=0\/a.iK = -1\/a.iK=1:=by rcases CN a with⟨_,h⟩|⟨_,_,h⟩|⟨_,_,h⟩<;>simp[h]
 have hb:b.iK=0\/b.iK = -1\/b.iK=1:=by rcases CN b with⟨_,h⟩|⟨_,_,h⟩|⟨_,_,h⟩<;>simp[h]
 generalize a.iK=s at *
 generalize b.iK=t at *
 rcases ha with rfl|rfl|rfl<;>rcases hb with rfl|rfl|rfl<;>simp at p1 p2 p3 q1 q2 q3<;>(repeat' split)<;>omega
def jW(z:Int)(e:Int):Dy:=canon (decide (z<0)) z.natAbs e
def iJ(a b:Dy):Dy:=
 if a.m=0 then b else if b.m=0 then a else jW (a.num (min a.e b.e)+b.num (min a.e b.e)) (min a.e b.e)
def jo(d:Dy):Dy:=⟨!d.neg&&decide (d.m≠0),d.m,d.e⟩
def Oa{d:Dy}(h:d.nc):(jo d).nc:=by
 rcases h with⟨h1,h2,h3⟩|h
 .exact .inl ⟨h1,by simp[jo,h1],h3⟩
 .exact .inr h
def zf{d:Dy}(h:d.gY):(jo d).gY:=⟨Oa h.canon,h.range⟩
def ahT(d:Dy)(e:Int)(hd:d.m≠0):(jo d).num e = -(d.num e):=by
 unfold Dy.num jo Dy.jK;cases d.neg<;>simp[hd]
def akv{out:List Nat}{n c P Q:Nat}(ho:iE out)(hlen:out.length=n)(h:val out+Q=P+4294967296^n*c)(hle:Q<=P):c=0/\val out=P-Q:=by
 have h1:=oA ho;rw[hlen]at h1;rcases c with _|c
 .exact ⟨rfl,aC⟩
 .exfalso;have:4294967296^n*1<=4294967296^n*(c+1):=cE _ aC;omega
def aaw{L:List Nat}(h:iE L)(k:Nat)(hk:k/32<L.length):val L/2^k%2=L[k/32]/2^(k%32)%2:=by
 have e:k=32*(k/32)+k%32:= aC 
 conv=>lhs;rw[e,bh,<-dp,<-tz,<-G5 h,eO hk,su]
 have hs:k%32<32:=bE _ aE;have e2:(4294967296:Nat)=2^(k%32)*(2*2^(31-k%32)):=by
  rw[<-Nat.pow_succ',<-bh,(aC:k%32+(31-k%32).succ=32)]
 conv=>lhs;rw[e2,bA,eN _ _ (bj aE),bA,dQ]
def aav{n k:Nat}(h:n≠0)(hk:k<jl n):n/2^k%2=0:=by
 obtain⟨m,hm,he⟩:=BC h;generalize jl n=c at *
 rw[he,(aC:c=k+(c-k)),bh,<-bA,fX,dD _ (bj aE),(aC:c-k=(c-k-1)+1),bC,<-bA,fB]
def aau{n:Nat}(h:n≠0):n/2^jl n%2=1:=Gp h
def ES{L:List Nat}(h:iE L)(h0:val L≠0):jl (val L)/32<L.length:=by
 have h1:=Gy h0;have h2:=oA h;rw[tz]at h2;have h3:2^jl (val L)<2^(32*L.length):=ck h1 h2;have:=(am9 (aE:1<2)).1 h3;omega
end Go.Proofs.YtkdddbdjilcofaaGreatDoor.Fp
namespace Go.Proofs.YtkdddbdjilcofaaGreatDoor
open Go.RowKit Fp
structure Sl(w:World)(A:Option Addr)(c:Nat)(L:List Nat):Prop where
 cap:L.length<=c
 rf:c<=9223372036854775807
 ok:iE L
 xW:A=none->c=0
 cell:∀ (i x:Nat),L[i]? = some x->∃ b o,A=some ⟨b,o,none⟩/\b<w.heap.size/\w.cell? ⟨b,o+i,none⟩=some (.int .u32 (x:Int))
def aaE(a:Addr)(n:Nat):(a.add n).block=a.block:=by unfold Addr.add;split<;>rfl
section
variable {w w':World} {A:Option Addr} {c:Nat} {L:List Nat}
def Sl.mA(h:Sl w A c L){i:Nat}(hi:i<L.length):∃ b o,A=some ⟨b,o,none⟩/\b<w.heap.size/\w.cell? ⟨b,o+i,none⟩=some (.int .u32 (L[i]:Int)):=
 h.cell i _ (bt hi)
def Sl.nil(w:World):Sl w none 0 []:=⟨bc _,aE,iE.nil,λ_=>rfl,λi x h=>by simp at h⟩
def Sl.below(h:Sl w A c L)(hb:Below w.heap.size w w'):Sl w' A c L:=
 ⟨h.cap,h.rf,h.ok,h.xW,λi x hx=>by
  obtain⟨b,o,e,h1,h2⟩:=h.cell i x hx;exact⟨b,o,e,bJ h1 hb.size,(hb.cell h1).trans h2⟩⟩
def Sl.alloc(h:Sl w A c L)(o:Obj):Sl (w.alloc o) A c L:=h.below ((Below.refl _ _).alloc (bc _) _)
def Sl.drew(h:Sl w A c L):Sl w.drew A c L:=h.below ((Below.refl _ _).drew)
def Sl.take(h:Sl w A c L)(n:Nat):Sl w A c (L.take n):=
 ⟨by have:=h.cap;rw[b8];omega,h.rf,h.ok.take n,h.xW,λi x hx=>h.cell i x (by
  rw[dW]at hx;split at hx
  .exact hx
  .cases hx)⟩
def Sl.len(h:Sl w A c L):L.length<=9223372036854775807:=bg h.cap h.rf
def Sl.eqv{L':List Nat}(h:Sl w A c L)(e:L=L'):Sl w A c L':=e▸h
end
def Bp(b o i:Nat):(⟨b,o,none⟩:Addr).add i=⟨b,o+i,none⟩:=by
 unfold Addr.add;split
 .rename_i h0;rw[h0];rfl
 .simp
abbrev iC(w w':World):Prop:=Below w.heap.size w w'
def iC.trans{a b c:World}(h:iC a b)(k:iC b c):iC a c:=Below.trans h (k.mono h.size)
def iC.alloc(w:World)(o:Obj):iC w (w.alloc o):=(Below.refl _ _).alloc (bc _) _
def iC.drew(w:World):iC w w.drew:=(Below.refl _ _).drew
def iC.refl(w:World):iC w w:=Below.refl _ _
def Kh{A:Option Addr}{n m c:Nat}(h:n=m):Ending.returned (.slice A n c) = .returned (.slice A m c):=by rw[h]
def oZ{k:IntKind}{a b:Int}(h:a=b):Ending.returned (.int k a) = .returned (.int k b):=by rw[h]
def Kg{a b:Bool}(h:a=b):Ending.returned (.bool a) = .returned (.bool b):=by rw[h]
def xp(w:World)(L:List Nat)(e:Ending)(w':World):Prop:=∃ A c,e = .returned (.slice A L.length c)/\Sl w' A c L/\iC w w'
def C0(w:World)(L:List Nat)(n:Int)(e:Ending)(w':World):Prop:=∃ A c,e = .returned (.tuple #[.slice A L.length c,.int .i64 n])/\Sl w' A c L/\iC w w'
def Tb(w:World):Prop:=TabAt 0 Lib.deBruijn32tab w
def Tb.below{w w':World}(h:Tb w)(hb:iC w w'):Tb w':=λj hj=>by
 have h1:=h j hj;rw[hb.cell (block_lt_of_cell h1)];exact h1
def Tb.alloc{w:World}(h:Tb w)(o:Obj):Tb (w.alloc o):=h.below (iC.alloc _ _)
def Tb.drew{w:World}(h:Tb w):Tb w.drew:=h.below (iC.drew _)
def aat(x:Nat)(h:x<4294967296):Lib.bitLen x=ia x:=by
 induction x using Nat.strongRecOn with
 |_ x ih=>
  by_cases h0:x=0
  .subst h0;rfl
  .rw [Lib.bitLen_half x h0 aC,ih (x/2) aC aC];by_cases h1:x/2=0
   .have:x=1:= aC ;subst this;rfl
   .have e1:=rK h1;have e2:=ql (x/2);have e3:=nR h1;generalize ia (x/2)=k at *
    obtain⟨j,rfl⟩:∃ j,k=j+1:=⟨k-1,aC⟩
    rw[er]at e1;rw[Nat.add_comm];refine(yr ?_ ?_).symm
    .rw [bC];omega
    .rw [bC];omega
def acy(x:Nat)(h0:x≠0)(h:x<4294967296):Lib.ctz 32 x=jl x:=by
 unfold Lib.ctz;rw[aY h0];obtain⟨m,hm,_⟩:=Lib.ctzFrom_spec 32 x aC h
 conv=>rhs;rw[hm,bD]
 exact(yA aC _).symm
def oj(L:List Nat):List Value:=L.map λ(n:Nat)=>Value.int .u32 (n:Int)
def aly{L:List Nat}{j:Nat}{u:Value}(h:(oj L)[j]? = some u):∃ n,L[j]? = some n/\u = .int .u32 (n:Int):=by
 unfold oj at h;rw[cr]at h;obtain⟨n,hn,rfl⟩:=cH.1 h;exact⟨n,hn,rfl⟩
def alx(L M:List Nat):oj (L++M)=oj L++oj M:=fC
def alz(L:List Nat):∀ u ∈ oj L,u.oneCell'=true:=by
 intro u hu;obtain⟨n,_,rfl⟩:=dh.1 hu;rfl
structure Ow(w:World)(base:Nat)(v:Value)(L:List Nat):Prop where
 row:w.ownsRow base 96 1 v L.length (oj L)
 ok:iE L
def Ow.sl{w:World}{base:Nat}{v:Value}{L:List Nat}(h:Ow w base v L):∃ A c,v = .slice A L.length c/\Sl w A c L:=by
 have hr:=h.row;rcases hr.2 with⟨rfl,h0⟩|⟨g,cap,cur,rfl,hb,hg,oF,nM,mR,FL⟩
 .have:L=[]:=di h0;subst this;exact⟨none,0,rfl,Sl.nil w⟩
 .refine ⟨_,_,rfl,oF,(by simpa[maxLen]using nM),h.ok,(λh=>by cases h),λi x hx=>⟨_,_,rfl,(cS.1 hg).1,?_⟩⟩;have h:=hr.cells (g:=g) rfl i (.int .u32 (x:Int)) (by unfold oj;rw[cr,hx];rfl);rw[Bp]at h;exact h
def Ow.nil(w:World)(base:Nat):Ow w base (.slice none 0 0) []:=⟨World.ownsRow_nil w base _ _,iE.nil⟩
def Ow.alloc{w:World}{base:Nat}{v:Value}{L:List Nat}(h:Ow w base v L)(o:Obj):Ow (w.alloc o) base v L:=⟨h.row.alloc o,h.ok⟩
def Ow.empty(w:World)(base:Nat)(hb:base<=w.heap.size):Ow (w.alloc (.cells #[] 96)) base (.slice (some ⟨w.heap.size,0,none⟩) 0 0) []:=
 ⟨World.ownsRow_made w #[] 0 hb aE rfl,iE.nil⟩
def wZ{w:World}{n:Nat}(h:n<=w.heap.size)(o:Obj):n<=(w.alloc o).heap.size:= aN 
def Sl.one(w:World)(x:Nat)(hx:x<4294967296):Sl (w.alloc (.cells #[.int .u32 x] 96)) (some ⟨w.heap.size,0,none⟩) 1 [x]:=
 ⟨bc _,aE,iE.cons hx iE.nil,(λh=>by cases h),λi y hy=>by
  obtain⟨h1,h2⟩:=bY.1 hy;obtain rfl:i=0:=by simp at h1;omega
  simp at h2;subst h2;refine⟨_,_,rfl,aH,?_⟩;exact World.cell?_alloc_at _ _ _ _ rfl⟩
def Sl.D1(w:World)(y:Int)(x:Nat)(e:y=(x:Int))(hx:x<4294967296):Sl (w.alloc (.cells #[.int .u32 y] 96)) (some ⟨w.heap.size,0,none⟩) 1 [x]:=by
 subst e;exact Sl.one w x hx
def Nq:(prog.info? 96).map (λi=>(i.zero,i.size,i.bytes))=some (some (.int .u32 0),1,4):= aF 
def zO{gT:Array Oper}{rest:List Oper}{o:Oper}{a:Act}{Q:Exit->Act->World->Prop}{w:World}(BQ:o.guard=none)(s x:Operand)
 (ho:o.op = .call { callee:=.builtin .append,args:=#[s,x],argTypes:=#[29,29] })
 (base:Nat) (v:Value) (L:List Nat) (hs:a.eval s=v) (lr:Ow w base v L)
 (A:Option Addr) (m c:Nat) (M:List Nat) (hx:a.eval x = .slice A m c) (hm:m=M.length) (hr:Sl w A c M)
 (my:L.length+M.length<=10000000000) (afc:base<=w.heap.size)
 (h:∀ v' w',Ow w' base v' (L++M)->w.grownBy w' v.ownBlock->(v'.ownBlock=v.ownBlock\/v'.ownBlock=some w.heap.size)->wpList prog gT Q rest (a.put o.dst v') w'):
 wpList prog gT Q (o::rest) a w:=by
 obtain⟨i,hi,hz,h1,h2⟩:=info_parts Nq;subst hm;rcases A with _|ad
 .have hc:=hr.xW rfl;subst hc;have hM:M=[]:=di (by have:=hr.cap;omega);subst hM;refine wpList_append_own_none BQ s x _ ho base _ i 1 underlying29 hi v _ _ hs lr.row hx ?_;have:=h v w (by rw[fD];exact lr) ⟨rfl,rfl,rfl,bc _,λ_ _ _=>rfl⟩ (.inl rfl);exact this
 .refine wpList_append_own_at w BQ s x _ ho base _ i _ 1 4 underlying29 hi hz h1 h2 rfl aE v L.length (oj L) hs lr.row ad M.length c (oj M) hx (by simp[oj]) ?_ (alz M)
   (by simp only[maxLen];omega) aC afc ?_
  .intro j u hu;obtain⟨n,hn,rfl⟩:=aly hu;obtain⟨b,o,e,_,hc⟩:=hr.cell j n hn;cases e;rw[Bp];exact hc
  .intro v' w' afy hg _ sB;exact h v' w' ⟨by rw[cA,alx];exact afy,lr.ok.append hr.ok⟩ hg sB
def Rw(w:World)(b:Nat)(L:List Nat):Prop:=w.heap[b]? = some (.cells (oj L).toArray 96 (0,0))
section
variable {w w':World} {b:Nat} {L:List Nat}
def Rw.lt(h:Rw w b L):b<w.heap.size:=(cS.1 h).1
def Rw.cell(h:Rw w b L){i x:Nat}(hx:L[i]? = some x):w.cell? ⟨b,i,none⟩=some (.int .u32 (x:Int)):=by
 unfold Rw at h;simp only[World.cell?,h];simp[oj,hx]
def Rw.frozen(h:Rw w b L)(i:Nat):w.frozen? ⟨b,i,none⟩=false:=by
 unfold Rw at h;simp[World.frozen?,h]
def Rw.set(h:Rw w b L)(i x:Nat):Rw (w.setCell ⟨b,i,none⟩ (.int .u32 (x:Int))) b (L.set i x):=by
 unfold Rw at h ⊢;simp only[World.setCell,eP,h];simp[oj,List.map_set]
def Rw.sl(h:Rw w b L)(hk:iE L)(hl:L.length<=10000000000):Sl w (some ⟨b,0,none⟩) L.length L:=
 ⟨bc _,aC,hk,(λh=>by cases h),λi x hx=>⟨_,_,rfl,h.lt,by
  rw[bZ];exact h.cell hx⟩⟩
def Rw.AO(w:World)(n:Nat):Rw (w.alloc (.cells (oj (List.replicate n 0)).toArray 96)) w.heap.size (List.replicate n 0):=heap_alloc_new w _
end
def Zy(b i:Nat):(⟨b,0,none⟩:Addr).add i=⟨b,i,none⟩:=by
 unfold Addr.add;split
 .rename_i h0;rw[h0]
 .simp
def F7(n:Nat)(hn:n<=10000000000)(w:World):
 (Instr.makeSlice 29 (.int .i64 (n:Int)) (.int .i64 (n:Int))).run prog w = .ok (.slice (some ⟨w.heap.size,0,none⟩) n n) (w.alloc (.cells (oj (List.replicate n 0)).toArray 96)):=by
 obtain⟨i,hi,hz,h1,h2⟩:=info_parts Nq;have hr:=run_make (P:=prog) w 29 96 i _ underlying29 hi hz .i64 .i64 n n aC aC (by rw[h2];omega) aC;rw[hr,fE,h1,b5];refine congrArg (λcs=>Result.ok (Value.slice (some ⟨w.heap.size,0,none⟩) n n) (w.alloc (.cells cs 96))) ?_;apply Array.ext
 .simp [madeCells,oj]
 .intro i h1 h2;simp[madeCells,oj,Value.cells,dE]
def yj(w:World)(d:Dy)(e:Ending)(w':World):Prop:=
 ∃ A c,e = .returned (.agg #[.bool d.neg,.slice A (gS d.m).length c,.int .i64 d.e])/\Sl w' A c (gS d.m)/\iC w w'
def tI(w:World)(d:Dy)(n:Int)(e:Ending)(w':World):Prop:=
 ∃ A c,e = .returned (.tuple #[.agg #[.bool d.neg,.slice A (gS d.m).length c,.int .i64 d.e],.int .i64 n])/\Sl w' A c (gS d.m)/\iC w w'
def yi(w:World)(g:Nat):Prop:=∀ o x,w.cell? ⟨g,o,none⟩≠some (.int .u32 x)
def Sl.BH{w:World}{A:Option Addr}{c:Nat}{L:List Nat}(h:Sl w A c L){g i:Nat}(hg:yi w g)(u:Value):Sl (w.setCell ⟨g,i,none⟩ u) A c L:=
 ⟨h.cap,h.rf,h.ok,h.xW,λj x hx=>by
  obtain⟨b,o,e,h1,h2⟩:=h.cell j x hx;refine⟨b,o,e,by simpa[World.setCell]using h1,?_⟩;rw[World.cell?_setCell_other w _ _ u]
  .exact h2
  .intro e';simp only[Addr.mk.injEq]at e';exact hg (o+j) x (by rw[e'.1];exact h2)⟩
def yi.D0{w:World}{g:Nat}{cs:Array Value}{t:TypeId}{fr:Nat×Nat}(h:w.heap[g]? = some (.cells cs t fr))(hc:∀ (i:Nat) (x:Int),cs[i]? ≠ some (.int .u32 x)):yi w g:=λo x e=>by
 simp only[World.cell?,h]at e;simp at e;exact hc o x (by simpa using e)
def jg(w:World)(g:Nat)(s:Bool)(A:Option Addr)(n c:Nat)(e:Int):Prop:=w.heap[g]? = some (.cells #[.bool s,.slice A n c,.int .i64 e] 31 (0,0))
section
variable {w w':World} {g n c:Nat} {s:Bool} {A:Option Addr} {e:Int}
def jg.new(W:World)(s:Bool)(A:Option Addr)(n c:Nat)(e:Int):jg (W.alloc (.cells #[.bool s,.slice A n c,.int .i64 e] 31)) W.heap.size s A n c e:=heap_alloc_new W _
def jg.rG{W:World}{g:Nat}(hg:W.heap.size=g)(s:Bool)(A:Option Addr)(n c:Nat)(e:Int):jg (W.alloc (.cells #[.bool s,.slice A n c,.int .i64 e] 31)) g s A n c e:=hg▸heap_alloc_new W _
def jg.lt(h:jg w g s A n c e):g<w.heap.size:=(cS.1 h).1
def jg.ext(h:jg w g s A n c e)(hb:iC w w'):jg w' g s A n c e:=(hb.block g h.lt).trans h
def jg.alloc(h:jg w g s A n c e)(o:Obj):jg (w.alloc o) g s A n c e:=h.ext (iC.alloc _ _)
def jg.drew(h:jg w g s A n c e):jg w.drew g s A n c e:=h
def jg.mS(h:jg w g s A n c e):yi w g:=yi.D0 h (λi x=>by rcases i with _|_|_|i<;>simp)
def jg.c0(h:jg w g s A n c e):w.cell? ⟨g,0,none⟩=some (.bool s):=by unfold jg at h;simp[World.cell?,h]
def jg.c1(h:jg w g s A n c e):w.cell? ⟨g,1,none⟩=some (.slice A n c):=by unfold jg at h;simp[World.cell?,h]
def jg.c2(h:jg w g s A n c e):w.cell? ⟨g,2,none⟩=some (.int .i64 e):=by unfold jg at h;simp[World.cell?,h]
def jg.fr(h:jg w g s A n c e)(i:Nat):w.frozen? ⟨g,i,none⟩=false:=by unfold jg at h;simp[World.frozen?,h]
def jg.set(h:jg w g s A n c e)(s':Bool)(A':Option Addr)(n' c':Nat)(e':Int):
 jg (((w.setCell ⟨g,0,none⟩ (.bool s')).setCell ⟨g,1,none⟩ (.slice A' n' c')).setCell ⟨g,2,none⟩ (.int .i64 e')) g s' A' n' c' e':=by
 have h1:=heap_setCell_same w g 0 _ _ (.bool s') h;have h2:=heap_setCell_same _ g 1 _ _ (.slice A' n' c') h1;have h3:=heap_setCell_same _ g 2 _ _ (.int .i64 e') h2;exact h3
def jg.rm{L:List Nat}{A':Option Addr}{c':Nat}(h:jg w g s A n c e)(hs:Sl w A' c' L)(s':Bool)(e':Int)(n' c2:Nat)(A2:Option Addr):
 Sl (((w.setCell ⟨g,0,none⟩ (.bool s')).setCell ⟨g,1,none⟩ (.slice A2 n' c2)).setCell ⟨g,2,none⟩ (.int .i64 e')) A' c' L:=by
 have h1:=heap_setCell_same w g 0 _ _ (.bool s') h;have h2:=heap_setCell_same _ g 1 _ _ (.slice A2 n' c2) h1;have k1:yi (w.setCell ⟨g,0,none⟩ (.bool s')) g:=yi.D0 h1 (λi x=>by rcases i with _|_|_|i<;>simp);have k2:yi ((w.setCell ⟨g,0,none⟩ (.bool s')).setCell ⟨g,1,none⟩ (.slice A2 n' c2)) g:=yi.D0 h2 (λi x=>by rcases i with _|_|_|i<;>simp);exact((hs.BH h.mS _).BH k1 _).BH k2 _
def jg.qL{w0:World}(hb:iC w0 w)(hg:w0.heap.size<=g)(s':Bool)(A':Option Addr)(n' c':Nat)(e':Int):
 iC w0 (((w.setCell ⟨g,0,none⟩ (.bool s')).setCell ⟨g,1,none⟩ (.slice A' n' c')).setCell ⟨g,2,none⟩ (.int .i64 e')):=
 ((hb.setCell hg _).setCell hg _).setCell hg _
end
def R5:(prog.info? 31).map (·.size)=some 3:= aF 
def ajd{fn:Func}{p:Tmp}(h:fn.results = #[.cell p 31])(tmps:Array Value){w:World}{g n c:Nat}{s:Bool}{A:Option Addr}{e:Int}
 (hp:tmps.getD p undef = .pointer (some ⟨g,0,none⟩)) (hb:jg w g s A n c e):
 (results fn tmps).run prog w = .ok (.agg #[.bool s,.slice A n c,.int .i64 e]) w:=
 results_cell_row h tmps w g _ _ _ _ hp hb underlying31 rfl R5
def aje{fn:Func}{p t:Tmp}(h:fn.results = #[.cell p 31,.tmp t])(tmps:Array Value){w:World}{g n c:Nat}{s:Bool}{A:Option Addr}{e:Int}
 (hp:tmps.getD p undef = .pointer (some ⟨g,0,none⟩)) (hb:jg w g s A n c e):
 (results fn tmps).run prog w = .ok (.tuple #[.agg #[.bool s,.slice A n c,.int .i64 e],tmps.getD t undef]) w:=by
 have hp':tmps[p]?.getD undef = .pointer (some ⟨g,0,none⟩):=by simpa using hp
 simp[results,h,hp',asAddr,run_loadVar_row w g _ _ _ _ _ hb underlying31 rfl R5]
def yC{fn:Func}{p:Tmp}(h:fn.results = #[.cell p 31]){a:Act}{w W:World}{d:Dy}{g:Nat}{A:Option Addr}{c n:Nat}
 (hp:a.tmps.getD p undef = .pointer (some ⟨g,0,none⟩)) (hd:a.defers=[]) (hb:jg W g d.neg A n c d.e) (hn:n=(gS d.m).length) (hs:Sl W A c (gS d.m)) (he:iC w W):
 bodyPost prog fn (yj w d) .ret a W:=by
 subst hn;exact bodyPost_ret (ajd h _ hp hb) hd ⟨A,c,rfl,hs,he⟩
def vF{fn:Func}{p t:Tmp}(h:fn.results = #[.cell p 31,.tmp t]){a:Act}{w W:World}{d:Dy}{k:Int}{g:Nat}{A:Option Addr}{c n:Nat}
 (hp:a.tmps.getD p undef = .pointer (some ⟨g,0,none⟩)) (ht:a.tmps.getD t undef = .int .i64 k) (hd:a.defers=[]) (hb:jg W g d.neg A n c d.e) (hn:n=(gS d.m).length) (hs:Sl W A c (gS d.m)) (he:iC w W):
 bodyPost prog fn (tI w d k) .ret a W:=by
 subst hn;exact bodyPost_ret ((aje h _ hp hb).trans (by rw[ht])) hd ⟨A,c,rfl,hs,he⟩
open Go.ChangeShapes Go.WideShapes Go.ChangeAt
def own:ownKnob prog.godebug=none:= aF 
def FZ:laidOutB prog=true:= aF 
def Tc:prog.globalNamed "math/bits.deBruijn32tab" = some 0:= aF 
def aea:(prog.globals[0]?).map (·.type)=some 175:= aF 
def abW:prog.cellsOf 175=32:= aF 
def abV:prog.cellsOf 5=1:= aF 
def abU:prog.cellsOf 96=1:= aF 
def ak3 {l:List (String×DataW Unit)} (hl:l=[("math/bits.deBruijn32tab", Rows.laid_math_bits_deBruijn32tab)]) {W:World} (h:laidMet prog l W):Tb W:=by
 subst hl;have ht:Lib.TabIs prog W "math/bits.deBruijn32tab" .u8 (Lib.deBruijn32tab.map λ(n:Nat)=>(n:Int)):=
  Lib.tabIs_of_head (rest:=[]) Tc aea underlying175 underlying5 abV abW h
 intro j hj;have:=ht.cell Tc j (by simpa using hj);rw[this];simp[bd];rw[bt hj];simp
def afG{n:Int}(h:(Lit.int .i64 n).wf=true):-9223372036854775808<=n/\n<=9223372036854775807:=by
 have h1:IntKind.i64.min = -9223372036854775808:=rfl;have h2:IntKind.i64.max=9223372036854775807:=rfl;simp[Lit.wf,h1,h2]at h;omega
def ah6{H:Type}{enc:TypeId×Value->H}{W:World}{fuel:Nat}{c:Value}{x:DataW H×List MemPlace}
 (h:DataW.trod enc prog W 0 (λ_=>true) true fuel 29 [c]=some x) (_hlt:∀ p ∈ x.2,p.block<W.heap.size):
 ∃ A L cap,c = .slice A L.length cap/\Sl W A cap L:=by
 rcases open_ints underlying29 underlying96 abU h with⟨mR,hx⟩|⟨a,len,cap,zs,mR,_,hl,hm,hz,hx,ki,hwz⟩
 .simp at mR;exact⟨none,[],0,mR,Sl.nil W⟩
 .simp at mR;simp only[bw]at hz;refine⟨some a,(zs.take len).map Int.toNat,cap,?_,?_⟩
  .rw [mR,ca,b8,de aC]
  .have UC:∀ n ∈ zs,0<=n/\n<4294967296:=λn hn=>by
    have:=hwz n hn;have h1:IntKind.u32.min=0:=rfl;have h2:IntKind.u32.max=4294967295:=rfl;simp[Lit.wf,h1,h2]at this;omega
   refine⟨by rw[ca,b8];omega,by simpa[maxLen]using hm,?_,(λh=>by cases h),?_⟩
   .intro y hy;obtain⟨z,xO,rfl⟩:=dh.1 hy;have:=UC z (ep xO);omega
   .intro i y hy;rw[cr]at hy;obtain⟨z,xO,rfl⟩:=cH.1 hy;rw[dW]at xO;split at xO
    .rename_i hi;have hc:=ki i aC;rw[bd,xO]at hc;obtain⟨b,off,spot⟩:=a;have hsp:spot=none:=by
      rcases spot with _|q
      .rfl
      .exfalso;have pf:=ki 0 aC;rw[show(⟨b,off,some q⟩:Addr).add 0=⟨b,off,some q⟩from rfl]at pf;unfold World.cell? at pf;split at pf<;>simp at pf
     subst hsp;refine⟨b,off,rfl,?_,?_⟩
     .have:=block_lt_of_cell hc;rwa[aaE]at this
     .rw [Bp]at hc;rw[hc];have:=UC z (dF xO);simp;omega
    .cases xO
def VC{α:Type}{l:List α}(h:l.length=3):∃ a b c,l=[a,b,c]:=by
 match l,h with
 | [a,b,c],_=>exact⟨a,b,c,rfl⟩
def agS{α:Type}{l:List α}(h:l.length=7):∃ a b c d e f g,l=[a,b,c,d,e,f,g]:=by
 match l,h with
 | [a,b,c,d,e,f,g],_=>exact⟨a,b,c,d,e,f,g,rfl⟩
def ah4{H:Type}{enc:TypeId×Value->H}{W:World}{fuel:Nat}{cs:List Value}{x:DataW H×List MemPlace}
 (h:DataW.trod enc prog W 0 (λ_=>true) true fuel 31 cs=some x) (im:∀ p ∈ x.2,p.block<W.heap.size):
 ∃ s A L cap e,cs=[.bool s,.slice A L.length cap,.int .i64 e]/\Sl W A cap L/\(-9223372036854775808<=e/\e<=9223372036854775807):=by
 obtain⟨xs,n,rfl,rfl,hl,mF,hf⟩:=DataW.trod_struct underlying31 h;have hC:prog.cellsOf 31=3:= aF ;have hB:prog.cellsOf 4=1:= aF ;have hS:prog.cellsOf 29=1:= aF ;have hI:prog.cellsOf 3=1:= aF ;rw[hC]at hl;obtain⟨a,b,c,rfl⟩:=VC hl;have h0:=hf 0 _ rfl;have h1:=hf 1 _ rfl;have h2:=hf 2 _ rfl;simp only[eu,ev,dC]at h0 h1 h2;simp only[hB,hS,hI,ew,ey,dU,ez]at h0 h1 h2;rw[bt (by rw[mF];decide)]at h0 h1 h2;obtain⟨s,hs,_⟩:=DataW.trod_bool underlying4 h0;obtain⟨A,L,cap,hc,vW⟩:=ah6 h1 (λp hp=>im p (dG.2 ⟨_,cz _,hp⟩));obtain⟨e,he,_,hw⟩:=DataW.trod_int underlying3 h2;simp at hs he;subst hs he hc;exact⟨s,A,L,cap,e,rfl,vW,afG hw⟩
noncomputable def NB(os:Os)(args:Array Value):World:=
 {World.holding prog os ⟨#[],args,[]⟩with heap:=(World.holding prog os ⟨#[],args,[]⟩).heap.modify 0 fun
   | .cells _ t frozen=>.cells (Lib.deBruijn32tab.map λ(n:Nat)=>Value.int .u8 (n:Int)).toArray t frozen
   |o=>o }
end Go.Proofs.YtkdddbdjilcofaaGreatDoor
namespace Go.Proofs.YtkdddbdjilcofaaGreatDoor.Pu
open Go.RowKit
inductive E where
 |any
 |v (x:Value)
 |agg (l:List E)
 |ig (l:List E)
 |sl (nl:Bool) (n sz:Nat) (el:Nat->Nat->E)
 |iN (m:Nat) (el:Nat->E)
 |fn (f:FuncId) (cap:List E)
 |mp (l:List (Int×FuncId×List FuncId))
 |nf (fl nl:Bool) (n sz:Nat) (el:Nat->Nat->E)
def qk:Value->Bool
 | .int .u32 _=>true
 |_=>false
def E.nr:Nat->E->Bool
 |_,.any=>true
 |_,.v _=>true
 |_,.sl ..=>true
 |_,.mp _=>true
 |d+1,.agg l=>l.all (E.nr d)
 |d+1,.ig l=>l.all (E.nr d)
 |d+1,.fn _ l=>l.all (E.nr d)
 |_,_=>false
def Bn(bs:Nat->Prop)(w:World):List (Int×FuncId×List FuncId)->List MapEntry->Prop
 | [],[]=>True
 |x::l,e::es=>(e.key = .int .i64 x.1/\∃ vs:List Value,e.val = .func (.func x.2.1) #[] vs.toArray/\vs.length=x.2.2.length /\
  ∀ (i:Nat) (g:FuncId) (v:Value),x.2.2[i]? = some g->vs[i]? = some v->∃ b,v = .pointer (some ⟨b,0,none⟩)/\¬bs b/\b<w.heap.size/\w.cell? ⟨b,0,none⟩=some (.func (.func g) #[] #[]))/\Bn bs w l es
 |_,_=>False
def Bn.mono{bs bs':Nat->Prop}{w w':World}(my:w.heap.size<=w'.heap.size)(h1:∀ b,b<w.heap.size->bs' b->bs b)(hc:∀ b,b<w.heap.size->¬bs b->w'.heap[b]? = w.heap[b]?):
 ∀ {l:List (Int×FuncId×List FuncId)} {es:List MapEntry},Bn bs w l es->Bn bs' w' l es
 | [],[],_=>trivial
 | [],_::_,h=>h
 |_::_,[],h=>h
 |_::_,_::_,⟨⟨k1,vs,k2,k3,k4⟩,h⟩=>⟨⟨k1,vs,k2,k3,λi g v hg hv=>by
  obtain⟨b,q1,q2,q3,q4⟩:=k4 i g v hg hv;exact⟨b,q1,λx=>q2 (h1 b q3 x),bJ q3 my,by rw[World.cell?_of_block (w:=w) (hc b q3 q2)];exact q4⟩⟩,Bn.mono my h1 hc h⟩
inductive ix(bs br:Nat->Prop)(w:World):E->Value->Prop
 |any (x:Value):ix bs br w .any x
 |v (x:Value):ix bs br w (.v x) x
 |agg (l:List E) (vs:List Value) (h:vs.length=l.length) (k:∀ (i:Nat) (p:E) (x:Value),l[i]? = some p->vs[i]? = some x->ix bs br w p x):ix bs br w (.agg l) (.agg vs.toArray)
 |ig (l:List E) (vs:List Value) (h:vs.length=l.length) (k:∀ (i:Nat) (p:E) (x:Value),l[i]? = some p->vs[i]? = some x->ix bs br w p x):ix bs br w (.ig l) (.tuple vs.toArray)
 |sl (nl:Bool) (n sz:Nat) (el:Nat->Nat->E) (A:Option Addr) (c:Nat) (f:Nat->Nat->Value) (hc:n<=c) (hm:c<=9223372036854775807) (h0:A=none->c=0)
  (hl:∀ i j,i<n->j<sz->(f i j).oneCell'=true/\(nl=true->qk (f i j)=false))
  (hr:∀ i j,i<n->j<sz->(el i j).nr 2=true)
  (cell:∀ i j,i<n->j<sz->∃ b o,A=some ⟨b,o,none⟩/\¬bs b/\b<w.heap.size/\w.cell? ⟨b,o+(i*sz+j),none⟩=some (f i j))
  (k:∀ i j,i<n->j<sz->ix bs br w (el i j) (f i j)):ix bs br w (.sl nl n sz el) (.slice A n c)
 |iN (m:Nat) (el:Nat->E) (b o:Nat) (f:Nat->Value) (hb:¬br b) (im:b<w.heap.size) (hl:∀ j,j<m->(f j).oneCell'=true)
  (cell:∀ j,j<m->w.cell? ⟨b,o+j,none⟩=some (f j))
  (k:∀ j,j<m->ix bs br w (el j) (f j)):ix bs br w (.iN m el) (.pointer (some ⟨b,o,none⟩))
 |fn (f:FuncId) (l:List E) (vs:List Value) (h:vs.length=l.length) (k:∀ (i:Nat) (p:E) (x:Value),l[i]? = some p->vs[i]? = some x->ix bs br w p x):ix bs br w (.fn f l) (.func (.func f) #[] vs.toArray)
 |mp (l:List (Int×FuncId×List FuncId)) (b clk:Nat) (es:Array MapEntry) (hb:¬bs b) (im:b<w.heap.size) (hh:w.heap[b]? = some (.map es clk)) (ho:Bn bs w l es.toList):ix bs br w (.mp l) (.map (some b))
 |nf (fl nl:Bool) (n sz:Nat) (el:Nat->Nat->E) (A:Option Addr) (c:Nat) (f:Nat->Nat->Value) (hc:n<=c) (hm:c<=9223372036854775807) (h0:A=none->c=0)
  (hl:∀ i j,i<n->j<sz->(f i j).oneCell'=true/\(nl=true->qk (f i j)=false))
  (hr:fl=true->∀ i j,i<n->j<sz->(el i j).nr 2=true)
  (cell:∀ i j,i<n->j<sz->∃ b o,A=some ⟨b,o,none⟩/\¬br b/\b<w.heap.size/\w.cell? ⟨b,o+(i*sz+j),none⟩=some (f i j))
  (k:∀ i j,i<n->j<sz->ix bs br w (el i j) (f i j)):ix bs br w (.nf fl nl n sz el) (.slice A n c)
def ix.mono{bs br bs' br':Nat->Prop}{w w':World}(my:w.heap.size<=w'.heap.size)
 (h1:∀ b,b<w.heap.size->bs' b->bs b) (h2:∀ b,b<w.heap.size->br' b->br b)
 (hc:∀ b,b<w.heap.size->(¬bs b\/¬br b)->w'.heap[b]? = w.heap[b]?)
 {e:E} {v:Value} (h:ix bs br w e v):ix bs' br' w' e v:=by
 induction h with
 |any x=>exact .any x
 |v x=>exact .v x
 |agg l vs h k ih=>exact .agg l vs h ih
 |ig l vs h k ih=>exact .ig l vs h ih
 |sl nl n sz el A c f hn hm h0 hl hr cell k ih=>
  refine .sl nl n sz el A c f hn hm h0 hl hr (λi j hi hj=>?_) ih;obtain⟨b,o,e,hb,im,ki⟩:=cell i j hi hj;exact⟨b,o,e,λhx=>hb (h1 b im hx),bJ im my,by rw[World.cell?_of_block (w:=w) (hc b im (.inl hb))];exact ki⟩
 |iN m el b o f hb im hl cell k ih=>
  exact .iN m el b o f (λhx=>hb (h2 b im hx)) (bJ im my) hl (λj hj=>by rw[World.cell?_of_block (w:=w) (hc b im (.inr hb))];exact cell j hj) ih
 |fn f l vs h k ih=>exact .fn f l vs h ih
 |mp l b clk es hb im hh ho=>exact .mp l b clk es (λx=>hb (h1 b im x)) (bJ im my) (by rw[hc b im (.inl hb)];exact hh) (ho.mono my h1 λb im hb=>hc b im (.inl hb))
 |nf fl nl n sz el A c f hn hm h0 hl hr cell k ih=>
  refine .nf fl nl n sz el A c f hn hm h0 hl hr (λi j hi hj=>?_) ih;obtain⟨b,o,e,hb,im,ki⟩:=cell i j hi hj;exact⟨b,o,e,λhx=>hb (h2 b im hx),bJ im my,by rw[World.cell?_of_block (w:=w) (hc b im (.inr hb))];exact ki⟩
def ix.pZ{bs br bs' br':Nat->Prop}{w:World}(h1:∀ b,bs' b->bs b)(h2:∀ b,br' b->br b){e:E}{v:Value}(h:ix bs br w e v):ix bs' br' w e v:=
 h.mono (bc _) (λb _=>h1 b) (λb _=>h2 b) (λ_ _ _=>rfl)
def E.plain:Nat->E->Bool
 |_,.any=>true
 |_,.v _=>true
 |d+1,.agg l=>l.all (E.plain d)
 |d+1,.ig l=>l.all (E.plain d)
 |_,_=>false
def ix.plain{bs br bs' br':Nat->Prop}{w w':World}{e:E}{v:Value}(h:ix bs br w e v):∀ d,e.plain d=true->ix bs' br' w' e v:=by
 induction h with
 |any x=>exact λ_ _=>.any x
 |v x=>exact λ_ _=>.v x
 |agg l vs h k ih=>
  intro d hd;cases d with
  |zero=>simp[E.plain]at hd
  |succ d=>
   simp only[E.plain,bN]at hd;exact .agg l vs h λi p x hp hx=>ih i p x hp hx d (hd p (dF hp))
 |ig l vs h k ih=>
  intro d hd;cases d with
  |zero=>simp[E.plain]at hd
  |succ d=>
   simp only[E.plain,bN]at hd;exact .ig l vs h λi p x hp hx=>ih i p x hp hx d (hd p (dF hp))
 |sl=>intro d hd;cases d<;>simp[E.plain]at hd
 |iN=>intro d hd;cases d<;>simp[E.plain]at hd
 |fn=>intro d hd;cases d<;>simp[E.plain]at hd
 |mp=>intro d hd;cases d<;>simp[E.plain]at hd
 |nf=>intro d hd;cases d<;>simp[E.plain]at hd
def ix.nr{bs br br':Nat->Prop}{w:World}{e:E}{v:Value}(h:ix bs br w e v):∀ d,e.nr d=true->ix bs br' w e v:=by
 induction h with
 |any x=>exact λ_ _=>.any x
 |v x=>exact λ_ _=>.v x
 |agg l vs h k ih=>
  intro d hd;cases d with
  |zero=>simp[E.nr]at hd
  |succ d=>
   simp only[E.nr,bN]at hd;exact .agg l vs h λi p x hp hx=>ih i p x hp hx d (hd p (dF hp))
 |ig l vs h k ih=>
  intro d hd;cases d with
  |zero=>simp[E.nr]at hd
  |succ d=>
   simp only[E.nr,bN]at hd;exact .ig l vs h λi p x hp hx=>ih i p x hp hx d (hd p (dF hp))
 |fn f l vs h k ih=>
  intro d hd;cases d with
  |zero=>simp[E.nr]at hd
  |succ d=>
   simp only[E.nr,bN]at hd;exact .fn f l vs h λi p x hp hx=>ih i p x hp hx d (hd p (dF hp))
 |iN=>intro d hd;cases d<;>simp[E.nr]at hd
 |nf=>intro d hd;cases d<;>simp[E.nr]at hd
 |mp l b clk es hb im hh ho=>exact λ_ _=>.mp l b clk es hb im hh ho
 |sl nl n sz el A c f hn hm h0 hl hr cell k ih=>
  exact λ_ _=>.sl nl n sz el A c f hn hm h0 hl hr cell λi j hi hj=>ih i j hi hj 2 (hr i j hi hj)
def E.one:E->Bool
 | .v x=>x.oneCell'
 | .sl ..=>true
 | .iN ..=>true
 | .fn ..=>true
 |_=>false
def E.mS:E->Bool
 | .v x=>!qk x
 | .sl ..=>true
 | .iN ..=>true
 | .fn ..=>true
 |_=>false
def ix.one{bs br:Nat->Prop}{w:World}{e:E}{v:Value}(h:ix bs br w e v)(h1:e.one=true):v.oneCell'=true:=by
 cases h<;>first|exact h1|rfl|(simp[E.one]at h1)
def ix.mS{bs br:Nat->Prop}{w:World}{e:E}{v:Value}(h:ix bs br w e v)(h1:e.mS=true):qk v=false:=by
 cases h with
 |v=>unfold E.mS at h1;cases hb:qk v<;>simp_all
 |any=>cases h1
 |agg=>cases h1
 |ig=>cases h1
 |sl=>rfl
 |iN=>rfl
 |fn=>rfl
 |mp=>cases h1
 |nf=>cases h1
structure j9(bs br:Nat->Prop)(w:World)(l:List E)(vs:List Value):Prop where
 len:vs.length=l.length
 kD:∀ (i:Nat) (p:E) (x:Value),l[i]? = some p->vs[i]? = some x->ix bs br w p x
def j9.nil(bs br:Nat->Prop)(w:World):j9 bs br w [] []:=⟨rfl,λi p x h=>by simp at h⟩
def j9.cons{bs br:Nat->Prop}{w:World}{p:E}{x:Value}{l:List E}{vs:List Value}(h:ix bs br w p x)(k:j9 bs br w l vs):j9 bs br w (p::l) (x::vs):=
 ⟨by simp[k.len],λi q y hq hy=>by
  cases i with
  |zero=>simp at hq hy;subst hq hy;exact h
  |succ i=>simp at hq hy;exact k.kD i q y hq hy⟩
def j9.head{bs br:Nat->Prop}{w:World}{p:E}{x:Value}{l:List E}{vs:List Value}(h:j9 bs br w (p::l) (x::vs)):ix bs br w p x:=h.kD 0 p x rfl rfl
def j9.tail{bs br:Nat->Prop}{w:World}{p:E}{x:Value}{l:List E}{vs:List Value}(h:j9 bs br w (p::l) (x::vs)):j9 bs br w l vs:=
 ⟨by have:=h.len;simpa using this,λi q y hq hy=>h.kD (i+1) q y (by simpa using hq) (by simpa using hy)⟩
def j9.nj{bs br:Nat->Prop}{w:World}{p:E}{l:List E}{vs:List Value}(h:j9 bs br w (p::l) vs):∃ x ys,vs=x::ys/\ix bs br w p x/\j9 bs br w l ys:=by
 cases vs with
 |nil=>have:=h.len;simp at this
 |cons x ys=>exact⟨x,ys,rfl,h.head,h.tail⟩
def j9.rW{bs br:Nat->Prop}{w:World}{vs:List Value}(h:j9 bs br w [] vs):vs=[]:=di h.len
def j9.mono{bs br bs' br':Nat->Prop}{w w':World}{l:List E}{vs:List Value}(h:j9 bs br w l vs)(k:∀ e v,ix bs br w e v->ix bs' br' w' e v):j9 bs' br' w' l vs:=
 ⟨h.len,λi p x hp hx=>k _ _ (h.kD i p x hp hx)⟩
def j9.take{bs br:Nat->Prop}{w:World}{l:List E}{vs:List Value}(h:j9 bs br w l vs)(n:Nat):j9 bs br w (l.take n) (vs.take n):=
 ⟨by simp[h.len],λi p x hp hx=>by
  rw[dW]at hp hx;split at hp
  .rename_i hi;rw[aZ hi]at hx;exact h.kD i p x hp hx
  .cases hp⟩
def j9.drop{bs br:Nat->Prop}{w:World}{l:List E}{vs:List Value}(h:j9 bs br w l vs)(n:Nat):j9 bs br w (l.drop n) (vs.drop n):=
 ⟨by simp[h.len],λi p x hp hx=>by
  rw[eA]at hp hx;exact h.kD _ p x hp hx⟩
def j9.app{bs br:Nat->Prop}{w:World}{l m:List E}{vs us:List Value}(h:j9 bs br w l vs)(k:j9 bs br w m us):j9 bs br w (l++m) (vs++us):=
 ⟨by simp[h.len,k.len],λi p x hp hx=>by
  rw[eB]at hp hx;rw[h.len]at hx;split at hp
  .rename_i hi;rw[aZ hi]at hx;exact h.kD i p x hp hx
  .rename_i hi;rw[aY hi]at hx;exact k.kD _ p x hp hx⟩
def j9.acj(bs br:Nat->Prop)(w:World)(vs:List Value):j9 bs br w (vs.map .v) vs:=
 ⟨aH,λi p x hp hx=>by
  rw[cr,hx]at hp;simp at hp;subst hp;exact .v x⟩
def ix.C6{bs br:Nat->Prop}{w:World}{l:List E}{v:Value}(h:ix bs br w (.agg l) v):∃ vs:List Value,v = .agg vs.toArray/\j9 bs br w l vs:=by
 cases h with
 |agg _ vs h k=>exact⟨vs,rfl,h,k⟩
def ix.YS{bs br:Nat->Prop}{w:World}{l:List E}{v:Value}(h:ix bs br w (.ig l) v):∃ vs:List Value,v = .tuple vs.toArray/\j9 bs br w l vs:=by
 cases h with
 |ig _ vs h k=>exact⟨vs,rfl,h,k⟩
def ix.kz{bs br:Nat->Prop}{w:World}{x v:Value}(h:ix bs br w (.v x) v):v=x:=by cases h;rfl
def ix.S3{bs br:Nat->Prop}{w:World}{f:FuncId}{l:List E}{v:Value}(h:ix bs br w (.fn f l) v):∃ vs:List Value,v = .func (.func f) #[] vs.toArray/\j9 bs br w l vs:=by
 cases h with
 |fn _ _ vs h k=>exact⟨vs,rfl,h,k⟩
def j9.agg{bs br:Nat->Prop}{w:World}{l:List E}{vs:List Value}(h:j9 bs br w l vs):ix bs br w (.agg l) (.agg vs.toArray):=.agg l vs h.len h.kD
def j9.ig{bs br:Nat->Prop}{w:World}{l:List E}{vs:List Value}(h:j9 bs br w l vs):ix bs br w (.ig l) (.tuple vs.toArray):=.ig l vs h.len h.kD
def E.cells?:E->Option (List E)
 | .agg l=>if l.all E.one then some l else none
 | .v (.agg cs)=>if cs.toList.all Value.oneCell' then some (cs.toList.map .v)else none
 | .v x=>if x.oneCell' then some [.v x]else none
 | .sl nl n sz el=>some [.sl nl n sz el]
 | .iN m el=>some [.iN m el]
 | .fn f c=>some [.fn f c]
 |_=>none
def ix.cells{bs br:Nat->Prop}{w:World}{e:E}{v:Value}(h:ix bs br w e v){l:List E}(hl:e.cells? = some l):
 j9 bs br w l v.cells.toList/\∀ u ∈ v.cells.toList,u.oneCell'=true:=by
 have single:∀ {e:E} {v:Value},ix bs br w e v->v.oneCell'=true->v.cells = #[v]->j9 bs br w [e] v.cells.toList/\∀ u ∈ v.cells.toList,u.oneCell'=true:=by
  intro e v h h1 hc;rw[hc];exact⟨.cons h (.nil _ _ _),by simpa using h1⟩
 cases h with
 |any x=>simp[E.cells?]at hl
 |v=>
  by_cases ha:∃ cs,v = .agg cs
  .obtain ⟨cs,rfl⟩:=ha;simp only[E.cells?]at hl;split at hl
   .rename_i h1;cases hl;exact⟨j9.acj _ _ _ _,λu hu=>bN.1 h1 u hu⟩
   .cases hl
  .have hx:(E.v v).cells? = if v.oneCell' then some [.v v]else none:=by
    cases v<;>first|rfl|exact absurd ⟨_,rfl⟩ ha
   rw[hx]at hl;split at hl
   .rename_i h1;cases hl;exact single (.v v) h1 (by cases v<;>first|rfl|exact absurd ⟨_,rfl⟩ ha)
   .cases hl
 |agg l vs h k=>
  simp only[E.cells?]at hl;split at hl
  .rename_i h1;cases hl;refine⟨⟨h,k⟩,?_⟩;intro u hu;obtain⟨i,hi⟩:=dq.1 hu;have Fv:i<l.length:=by
    obtain⟨hi,_⟩:=bY.1 hi;simp[Value.cells]at hi;omega
   exact(k i _ u (bt Fv) (by simpa[Value.cells]using hi)).one (bN.1 h1 _ (cz Fv))
  .cases hl
 |ig=>simp[E.cells?]at hl
 |mp=>simp[E.cells?]at hl
 |nf=>simp[E.cells?]at hl
 |sl nl n sz el A c f hc hm h0 qf hr cell k=>simp only[E.cells?]at hl;cases hl;exact single (.sl nl n sz el A c f hc hm h0 qf hr cell k) rfl rfl
 |iN m el b o f hb im qf cell k=>simp only[E.cells?]at hl;cases hl;exact single (.iN m el b o f hb im qf cell k) rfl rfl
 |fn f l' vs h k=>simp only[E.cells?]at hl;cases hl;exact single (.fn f l' vs h k) rfl rfl
structure TI where
 id:TypeId
 d:TypeDesc
 i:TypeInfo
def mf(P:Program)(T:List TI):Prop:=∀ x,x ∈ T->P.underlying x.id=some x.d/\P.info? x.id=some x.i
def mr:List TI->TypeId->Option TI
 | [],_=>none
 |x::l,t=>if Nat.beq x.id t then some x else mr l t
def wI(T:List TI)(t:TypeId):Option TypeDesc:=match mr T t with
 |some x=>some x.d
 |none=>none
def TI.isAgg(x:TI):Bool:=match x.d with
 | .struct _ | .array _ _=>true
 |_=>false
inductive CV where
 |e (x:E)
 |box (id:Nat)
 |row (id:Nat)
inductive PV where
 |e (x:E)
 |box (id off:Nat)
 |own (id:Nat)
 |mT (id sz i j:Nat)
 |iD (id k:Nat)
 |qC (id sz k i j:Nat)
 |oW (f:FuncId) (cap:List CV)
def CV.lI:CV->List Nat
 | .e _=>[]
 | .box id=>[id]
 | .row id=>[id]
def PV.lI:PV->List Nat
 | .e _=>[]
 | .box id _ | .own id | .mT id _ _ _ | .iD id _ | .qC id _ _ _ _=>[id]
 | .oW _ cap=>cap.flatMap CV.lI
inductive Bx where
 |cells (T:TypeId) (l:List E)
 |row (nl:Bool) (T:TypeId) (n sz:Nat) (el:Nat->Nat->E)
 |jC (nl:Bool) (T1 T0:TypeId) (n sz:Nat) (len:Nat->Nat) (el:Nat->Nat->Nat->E) (pend:Option Nat)
def Bx.nl:Bx->Bool
 | .cells _ l=>l.all E.mS
 | .row nl ..=>nl
 | .jC nl ..=>nl
structure PS where
 n:Nat
 nl:Bool
 t:List (Nat×PV)
 b:List (Nat×Bx)
def look{α:Type}:List (Nat×α)->Nat->Option α
 | [],_=>none
 | (k,x)::l,t=>if Nat.beq k t then some x else look l t
def PS.get(σ:PS)(t:Nat):PV:=(look σ.t t).getD (.e .any)
def PS.bo(σ:PS)(id:Nat):Option Bx:=look σ.b id
def PS.op(σ:PS):Operand->PV
 | .tmp t=>σ.get t
 | .const v=>.e (.v v)
 | .global g=>.e (.v (.pointer (some ⟨g,0,none⟩)))
 | .func f=>.e (.fn f [])
inductive qq where
 |none
 |new (id:Nat) (b:Bx)
 |vu (id:Nat) (b:Bx)
 |qU (id:Nat) (b:Bx)
 |uG (id:Nat) (b:Bx)
 |fin (id:Nat)
 |ri (id r:Nat) (b:Bx)
 |A8 (id:Nat) (b:Bx)
structure ku where
 r:PV
 f:qq:=.none
 rb:List Nat:=[]
 jr:List Prop:=[]
 rd:List PV:=[]
def CV.FV(id:Nat):CV->Bool
 | .row i=>Nat.beq i id
 |_=>false
def PV.mW:qq->PV->PV
 | .qU id _,.own i=>if Nat.beq i id then .e .any else .own i
 | .qU id _,.mT i s x j=>if Nat.beq i id then .e .any else .mT i s x j
 | .qU id _,.oW f cap=>if cap.any (CV.FV id)then .e .any else .oW f cap
 | .uG id _,.iD i k=>if Nat.beq i id then .e .any else .iD i k
 | .uG id _,.qC i s k x j=>if Nat.beq i id then .e .any else .qC i s k x j
 | .fin id,p=>if p.lI.any (Nat.beq id)then .e .any else p
 | .A8 id _,p=>if p.lI.any (Nat.beq id)then .e .any else p
 | .ri id r _,.box i off=>if Nat.beq i id then(if Nat.beq off 0 then .mT id 1 0 0 else .e .any)else if Nat.beq i r then .e .any else .box i off
 | .ri id r _,p=>if p.lI.any (λx=>Nat.beq id x||Nat.beq r x)then .e .any else p
 |_,p=>p
def tE(l:List (Nat×Bx))(id:Nat)(b:Bx):List (Nat×Bx):=(id,b)::l.filter λx=>!Nat.beq x.1 id
def qq.Ld:qq->List (Nat×Bx)->List (Nat×Bx)
 | .none,l=>l
 | .new id b,l | .vu id b,l | .qU id b,l | .uG id b,l | .A8 id b,l=>tE l id b
 | .fin id,l=>l.filter λx=>!Nat.beq x.1 id
 | .ri id r b,l=>tE (l.filter λx=>!Nat.beq x.1 r) id b
def qq.KL:qq->Bool
 | .qU .. | .uG .. | .fin .. | .ri .. | .A8 ..=>true
 |_=>false
def PS.nL(σ:PS)(f:qq):PS:={ σ with t:=if f.KL then σ.t.map λx=>(x.1,x.2.mW f)else σ.t,b:=f.Ld σ.b }
def PS.put(σ:PS)(d:Option Tmp)(p:PV):PS:=match d with
 |some d=>{ σ with t:=(d,p)::σ.t.filter λx=>!Nat.beq x.1 d }
 |none=>σ
def kP:IntKind->Int->Prop
 | .i8,z=>-128<=z/\z<=127
 | .i16,z=>-32768<=z/\z<=32767
 | .i32,z=>-2147483648<=z/\z<=2147483647
 | .i64,z=>-9223372036854775808<=z/\z<=9223372036854775807
 | .u8,z=>0<=z/\z<=255
 | .u16,z=>0<=z/\z<=65535
 | .u32,z=>0<=z/\z<=4294967295
 | .u64,z=>0<=z/\z<=18446744073709551615
def XC(op:BinOp)(k k':IntKind):Bool:=match op with
 | .shl=>true
 | .shr=>true
 |_=>decide (k=k')
def K6(k:IntKind)(x y:Int):Int:=match k with
 | .u32=>IntKind.u32.wrap (x+y)
 |_=>x+y
def P9(k:IntKind)(x y:Int):List Prop:=match k with
 | .u32=>[]
 |_=>[kP k (x+y)]
def LJ(op:BinOp)(k:IntKind)(x:Int)(y:Int):Option (Value×List Prop):=match op with
 | .add=>some (.int k (K6 k x y),P9 k x y)
 | .sub=>some (.int k (x-y),[kP k (x-y)])
 | .mul=>some (.int k (x*y),[kP k (x*y)])
 | .quo=>some (.int k (x.tdiv y),[0<y,kP k x])
 | .rem=>some (.int k (x.tmod y),[0<y])
 | .and=>some (.int k (bits .and k x y),[])
 | .or=>some (.int k (bits .or k x y),[])
 | .shl=>some (.int k (k.wrap (x*2^y.toNat)),[0<=y/\y<=k.bits])
 | .shr=>some (.int k (x/2^y.toNat),[0<=y/\y<=k.bits])
 | .eql=>some (.bool (x==y),[])
 | .neq=>some (.bool (x != y),[])
 | .lss=>some (.bool (decide (x<y)),[])
 | .leq=>some (.bool (decide (x<=y)),[])
 | .gtr=>some (.bool (decide (y<x)),[])
 | .geq=>some (.bool (decide (y<=x)),[])
 |_=>none
def PS.read(σ:PS)(p:PV)(m:Nat):Option (List E×List Nat×List Prop):=match p with
 | .box id off=>match σ.bo id with
  |some (.cells _ l)=>if Nat.ble (off+m) l.length then some ((l.drop off).take m,[id],[])else none
  |_=>none
 | .mT id sz i j=>match σ.bo id with
  |some (.row _ _ n s el)=>if Nat.beq s sz&&Nat.ble (j+m) sz then some ((List.range m).map λq=>el i (j+q),[id],[i<n])else none
  |_=>none
 | .qC id sz k i j=>match σ.bo id with
  |some (.jC _ _ _ n s len el _)=>if Nat.beq s sz&&Nat.ble (j+m) sz then some ((List.range m).map λq=>el k i (j+q),[id],[k<n,i<len k])else none
  |_=>none
 | .e (.iN k el)=>if Nat.ble m k then some ((List.range m).map el,[],[])else none
 |_=>none
def CV.ext(σ:PS):CV->Option (E×List Nat)
 | .e x=>some (x,[])
 | .box id=>match σ.bo id with
  |some (.cells _ l)=>some (.iN l.length λj=>l.getD j .any,[id])
  |_=>none
 | .row id=>match σ.bo id with
  |some (.jC nl _ _ n sz len el none)=>if Nat.beq n 1 then some (.iN 1 λ_=>.sl nl (len 0) sz (el 0),[id])else none
  |_=>none
def CV.FU:CV->Bool
 | .row _=>true
 |_=>false
def uB(σ:PS):List CV->Option (List E×List Nat)
 | []=>some ([],[])
 |c::l=>match c.ext σ,uB σ l with
  |some (x,i),some (xs,is)=>some (x::xs,i++is)
  |_,_=>none
def PV.vY(σ:PS):PV->Bool
 | .own id=>match σ.bo id with
  |some (.jC ..)=>false
  |_=>true
 | .iD _ _=>true
 | .oW _ cap=>cap.any CV.FU
 |_=>false
def PV.ext(σ:PS):PV->Option (E×List Nat)
 | .e x=>some (x,[])
 | .own id=>match σ.bo id with
  |some (.row nl _ n sz el)=>some (.sl nl n sz el,[id])
  |some (.jC nl _ _ n sz len el none)=>some (.nf false true n 1 λk _=>.nf true nl (len k) sz (el k),[id])
  |_=>none
 | .box id 0=>match σ.bo id with
  |some (.cells _ l)=>some (.iN l.length λj=>l.getD j .any,[id])
  |_=>none
 | .iD id k=>match σ.bo id with
  |some (.jC nl _ _ n sz len el none)=>if Nat.blt k n then some (.sl nl (len k) sz (el k),[id])else none
  |_=>none
 | .oW f cap=>match uB σ cap with
  |some (xs,is)=>some (.fn f xs,is)
  |none=>none
 |_=>none
def tJ(σ:PS):List Operand->Option (List E×List Nat)
 | []=>some ([],[])
 |o::l=>match(σ.op o).ext σ,tJ σ l with
  |some (x,i),some (xs,is)=>some (x::xs,i++is)
  |_,_=>none
def wH:List PV->Option (List CV)
 | []=>some []
 | .e x::l=>(wH l).map (.e x :: ·)
 | .box id 0::l=>(wH l).map (.box id :: ·)
 | .mT id sz i j::l=>if Nat.beq sz 1&&Nat.beq i 0&&Nat.beq j 0 then(wH l).map (.row id :: ·)else none
 |_::_=>none
def oM(w:World)(b:Nat):Prop:=∀ o x,w.cell? ⟨b,o,none⟩≠some (.int .u32 x)
structure PC(P:Program)(K:World->Prop)(f:FuncId)(args:List E)(jT:E):Prop where
 call:∀ (vs:Array Value) (w:World),(callFunc f vs).run P w = .ok (.enter f vs) w
 run:∀ (w:World) (B:Nat->Prop) (vs:List Value),K w->(∀ b,B b->b<w.heap.size/\oM w b)->j9 B (λ_=>False) w args vs ->
  Calls P f vs.toArray w (λe w'=>∃ v,e = .returned v/\Below w.heap.size w w'/\ix B (λ_=>True) w' jT v)
structure Hk(P:Program)(K:World->Prop)(f:FuncId)(args:List E)(jT:E):Prop where
 call:∀ (vs:Array Value) (w:World),(callFunc f vs).run P w = .ok (.enter f vs) w
 run:∀ (w:World) (B:Nat->Prop) (vs:List Value),K w->(∀ b,B b->b<w.heap.size)->j9 B (λ_=>False) w args vs ->
  Calls P f vs.toArray w (λe w'=>∃ v,e = .returned v/\Below w.heap.size w w'/\ix B (λ_=>True) w' jT v)
def nG(w:World)(v:Value)(T:TypeId)(n sz:Nat)(f:Nat->Nat->Value)(nl:Bool):Prop:=
 (v = .slice none 0 0/\n=0) \/
 ∃ (b c:Nat) (cur:Array Value),v = .slice (some ⟨b,0,none⟩) n c/\w.heap[b]? = some (.cells cur T (0,0))/\n<=c/\c<=maxLen/\cur.size=c*sz /\
  (∀ i j,i<n->j<sz->cur[i*sz+j]? = some (f i j)/\(f i j).oneCell'=true)/\(nl=true->∀ u,u ∈ cur->qk u=false)
structure vz(P:Program)(K:World->Prop)(f:FuncId)(args:List E)(nl:Bool)(T:TypeId)(n sz:Nat)(el:Nat->Nat->E):Prop where
 call:∀ (vs:Array Value) (w:World),(callFunc f vs).run P w = .ok (.enter f vs) w
 run:∀ (w:World) (B:Nat->Prop) (vs:List Value),K w->(∀ b,B b->b<w.heap.size/\oM w b)->j9 B (λ_=>False) w args vs ->
  Calls P f vs.toArray w (λe w'=>∃ v,e = .returned v/\Below w.heap.size w w'/\∃ g,nG w' v T n sz g nl/\(∀ x,v.ownBlock=some x->w.heap.size<=x/\x<w'.heap.size) /\
   ∀ i j,i<n->j<sz->ix (λb=>B b\/v.ownBlock=some b) (λ_=>True) w' (el i j) (g i j)/\(el i j).nr 2=true)
structure pR where
 cl:List (Nat×E):=[]
 ov:List (Nat×PV):=[]
 nw:List (Nat×Bx):=[]
 gi:List (Nat×Value):=[]
def Gx(T:List TI):List Field->Option (List (Nat×Nat))
 | []=>some []
 |f::fs=>match mr T f.type,Gx T fs with
  |some ti,some l=>some ((f.offset,ti.i.size)::l)
  |_,_=>none
def AY(l:List E)(off:Nat)(m:List E):List E:=l.take off++m++l.drop (off+m.length)
def r9(σ:PS)(place:Nat->Option (Nat×Nat)):List E->List (Nat×Operand)->Option (List E)
 |l,[]=>some l
 |l,(i,x)::ps=>match place i,σ.op x with
  |some (off,size),.e e=>match e.cells? with
   |some m=>if Nat.beq m.length size&&Nat.ble (off+m.length) l.length then r9 σ place (AY l off m) ps else none
   |none=>none
  |_,_=>none
def yd(ti:TI):Option (List E):=match ti.i.zero with
 |some z=>(E.v z).cells?
 |none=>none
def kD{α:Type}:Nat->List α->List α
 | 0,_=>[]
 |n+1,l=>l++kD n l
def oN(P:Program)(op:BinOp)(t:TypeId)(x y:E)(v:Value):Prop:=∀ (bs br:Nat->Prop) (w:World) (a b:Value) (ox oy:Operand),ix bs br w x a->ix bs br w y b->(eqGuard op t ox oy a b).run P w = .ok () w/\(binOp op t a b).run P w = .ok v w
def aej(O:pR)(d:Option Tmp):Option Value:=match d with
 |some d=>match look O.cl d with
  |some (.v v)=>some v
  |_=>none
 |none=>none
def aei(O:pR)(d:Option Tmp):Option Value:=match d with
 |some d=>look O.gi d
 |none=>none
def vy(e:E):Prop:=∀ (bs bs' br:Nat->Prop) (w:World) (v:Value),(∀ x,bs' x->bs x\/oM w x)->ix bs br w e v->ix bs' br w e v
def uj(σ:PS)(d:Nat)(b:Bx):qq:=match σ.bo d with
 |none=>.new d b
 |some _=>.A8 d b
def zg(σ:PS)(d:Nat)(is:List Nat):List Nat:=match σ.bo d with
 |none=>is
 |some _=>d::is
def Et(n sz:Nat)(el:Nat->Nat->E):Prop:=∀ i j,i<n->j<sz->vy (el i j)
def Ah(P:Program)(K:World->Prop)(O:pR)(σ:PS)(d:Option Tmp)(f:FuncId)(xs:List E)(is:List Nat)(ow:Bool):Option ku:=
 match(match d with
  |some d=>look O.cl d
  |none=>some .any)with
 |some jT=>if jT.plain 3||(σ.nl && !ow)then some { r:=.e jT,rb:=is,jr:=[PC P K f xs jT] }else if !ow then some { r:=.e jT,rb:=is,jr:=[Hk P K f xs jT] }
  else if σ.nl then some { r:=.e jT,rb:=is,jr:=[PC P K f xs jT,vy jT] }else none
 |none=>match d with
  |some d=>match look O.nw d with
   |some (.row nl T n sz el)=>if σ.nl&&nl then some { r:=.own d,f:=uj σ d (.row nl T n sz el),rb:=zg σ d is,jr:=vz P K f xs nl T n sz el::(if ow then[Et n sz el]else[]) }else none
   |_=>none
  |none=>none
def y8(σ:PS)(d:Option Tmp)(b:Bx)(r:Nat->PV)(jr:List Prop):Option ku:=match d with
 |some d=>match σ.bo d with
  |none=>if !σ.nl||b.nl then some { r:=r d,f:=.new d b,jr:=jr }else none
  |some _=>none
 |none=>none
def PV.K8:PV->Option (Bool×Nat×Nat×(Nat->Nat->E))
 | .e (.sl nl n sz el)=>some (nl,n,sz,el)
 | .e (.nf true nl n sz el)=>some (nl,n,sz,el)
 |_=>none
def AR(σ:PS)(d:Option Tmp)(b:Bx)(r:Nat->PV):Option ku:=match d with
 |some d=>if !σ.nl||b.nl then some { r:=r d,f:=uj σ d b,rb:=zg σ d [] }else none
 |none=>none
def Ag(T:List TI)(σ:PS)(d:Option Tmp)(t:TypeId)(s x:PV):Option ku:=match x.K8 with
 |some (nl2,m,sz2,el2)=>match mr T t with
  |some tt=>match tt.d with
   | .slice e=>match mr T e with
    |some te=>match yd te with
     |some z=>if Nat.beq te.i.size sz2&&Nat.ble 1 sz2&&Nat.ble 1 te.i.bytes&&Nat.beq z.length sz2 then match s with
      | .own id=>match σ.bo id with
       |some (.row nl T1 n sz el)=>if Nat.beq T1 e&&Nat.beq sz sz2&&(!σ.nl||(nl&&(nl2&&z.all E.mS)))then
        some { r:=.own id,f:=.qU id (.row (nl&&(nl2&&z.all E.mS)) T1 (n+m) sz λi j=>if i<n then el i j else el2 (i-n) j),rb:=[id],jr:=[(n+m)*te.i.bytes<=140737488355328] }
        else none
       |_=>none
      | .iD id k=>match σ.bo id with
       |some (.jC nl T1 T0 n sz len el none)=>if Nat.beq T0 e&&Nat.beq sz sz2&&(!nl||(nl2&&z.all E.mS))then
        some { r:=.iD id k,f:=.uG id (.jC nl T1 T0 n sz (λq=>if q=k then len q+m else len q) (λq i j=>if q=k then(if i<len q then el q i j else el2 (i-len q) j)else el q i j) (some k)),rb:=[id],jr:=[k<n,(len k+m)*te.i.bytes<=140737488355328] }
        else none
       |_=>none
      | .e (.v (.slice none 0 0))=>y8 σ d (.row (nl2&&z.all E.mS) e m sz2 el2) .own [m*te.i.bytes<=140737488355328]
      |_=>none
     else none
     |none=>none
    |none=>none
   |_=>none
  |none=>none
 |_=>none
def BE(T:List TI)(σ:PS)(d:Option Tmp)(t:TypeId)(s x:PV):Option ku:=match Ag T { σ with nl:=false } d t s x with
 |some u=>match u.f,u.r with
  | .qU id (.row nl _ n sz el),.own id'=>if Nat.beq id' id then some { r:=.e (.sl nl n sz el),f:=.fin id,rb:=u.rb,jr:=True::u.jr }else none
  |_,_=>none
 |none=>none
def PV.D4:PV->Option Nat
 | .own q=>some q
 |_=>none
def AX(σ:PS):List (Nat×Operand)->Option Nat
 | [(0,x)]=>(σ.op x).D4
 |_=>none
def Ii(T:List TI)(t:TypeId):Option (TypeId×Nat):=match mr T t with
 |some tt=>match tt.d with
  | .slice e=>match mr T e with
   |some te=>match yd te with
    |some [z]=>if Nat.beq te.i.size 1&&Nat.ble 1 te.i.bytes&&z.mS then some (e,te.i.bytes)else none
    |_=>none
   |none=>none
  |_=>none
 |none=>none
def BG(T:List TI)(σ:PS)(d:Option Tmp)(t:TypeId)(n q:Nat):Option ku:=match d with
 |some id=>match σ.bo id,σ.bo q,Ii T t with
  |none,some (.row nl T0 m sz el),some (e,_)=>if Nat.beq n 1 && !Nat.beq id q then
   some { r:=.own id,f:=.ri id q (.jC nl e T0 1 sz (λ_=>m) (λ_=>el) none),rb:=[id,q] }else none
  |_,_,_=>none
 |none=>none
def BF(T:List TI)(σ:PS)(d:Option Tmp)(t:TypeId)(s:PV)(q:Nat):Option ku:=match σ.bo q,Ii T t with
 |some (.jC nl2 T2 T0 m sz len2 el2 none),some (e,by_)=>match s,d with
  | .own id,_=>match σ.bo id with
   |some (.jC nl T1 T0' n sz' len el none)=>if Nat.beq T1 e&&Nat.beq T2 e&&Nat.beq T0' T0&&Nat.beq sz' sz && !Nat.beq id q then
    some { r:=.own id,f:=.ri id q (.jC (nl&&nl2) T1 T0 (n+m) sz (λk=>if k<n then len k else len2 (k-n)) (λk=>if k<n then el k else el2 (k-n)) none),rb:=[id,q],jr:=[0<m,(n+m)*by_<=140737488355328] }else none
   |_=>none
  | .e (.v (.slice none 0 0)),some id=>match σ.bo id with
   |none=>if Nat.beq T2 e && !Nat.beq id q then
    some { r:=.own id,f:=.ri id q (.jC nl2 T2 T0 m sz len2 el2 none),rb:=[id,q],jr:=[0<m,m*by_<=140737488355328] }else none
   |_=>none
  |_,_=>none
 |_,_=>none
def St(T:List TI)(t:TypeId)(l c:PV):Option (Bx×List Prop):=match l,c with
 | .e (.v (.int _ l)),.e (.v (.int _ c))=>match mr T t with
  |some tt=>match tt.d with
   | .slice e=>match mr T e with
    |some te=>match yd te with
     |some z=>if Nat.beq te.i.size z.length&&Nat.ble 1 te.i.size then
      let jr:=[0<=l/\l<=c,(te.i.bytes:Int)*c<=281474976710656/\c<=9223372036854775807]
      match te.d with
      | .slice e0=>match mr T e0,z with
       |some t0,[.v (.slice none 0 0)]=>some (.jC true e e0 l.toNat t0.i.size (λ_=>0) (λ_ _ _=>.any) none,jr)
       |_,_=>none
      |_=>some (.row (z.all E.mS) e l.toNat te.i.size (λ_ j=>z.getD j .any),jr)
      else none
     |none=>none
    |none=>none
   |_=>none
  |none=>none
 |_,_=>none
def IE(T:List TI)(σ:PS)(d:Option Tmp)(t:TypeId)(l c:PV):Option ku:=match St T t l c with
 |some (b,jr)=>y8 σ d b .own jr
 |none=>none
def IF(T:List TI)(t:TypeId)(x:PV)(lo hi:Option PV):Option ku:=match x with
 | .e (.sl nl n sz el)=>match mr T t with
  |some tt=>match tt.d with
   | .slice e=>match mr T e with
    |some te=>if Nat.beq te.i.size sz then match lo,hi with
     |none,some (.e (.v (.int _ h)))=>some { r:=.e (.sl nl h.toNat sz el),jr:=[0<=h/\h<=n] }
     |some (.e (.v (.int _ l))),none=>some { r:=.e (.sl nl (n-l.toNat) sz λi j=>el (l.toNat+i) j),jr:=[0<=l/\l<=n] }
     |some (.e (.v (.int _ l))),some (.e (.v (.int _ h)))=>some { r:=.e (.sl nl (h.toNat-l.toNat) sz λi j=>el (l.toNat+i) j),jr:=[0<=l/\l<=h/\h<=n] }
     |_,_=>none
     else none
    |none=>none
   |_=>none
  |none=>none
 | .e (.nf fl nl n sz el)=>match mr T t with
  |some tt=>match tt.d with
   | .slice e=>match mr T e with
    |some te=>if Nat.beq te.i.size sz then match lo,hi with
     |none,some (.e (.v (.int _ h)))=>some { r:=.e (.nf fl nl h.toNat sz el),jr:=[0<=h/\h<=n] }
     |some (.e (.v (.int _ l))),none=>some { r:=.e (.nf fl nl (n-l.toNat) sz λi j=>el (l.toNat+i) j),jr:=[0<=l/\l<=n] }
     |some (.e (.v (.int _ l))),some (.e (.v (.int _ h)))=>some { r:=.e (.nf fl nl (h.toNat-l.toNat) sz λi j=>el (l.toNat+i) j),jr:=[0<=l/\l<=h/\h<=n] }
     |_,_=>none
     else none
    |none=>none
   |_=>none
  |none=>none
 |_=>none
def IC(T:List TI)(σ:PS)(t:TypeId)(x i:PV):Option ku:=match i with
 | .e (.v (.int _ z))=>match mr T t with
  |some tt=>match tt.d with
   | .slice e=>match mr T e with
    |some te=>match x with
     | .e (.sl _ n sz el)=>if Nat.beq te.i.size sz&&Nat.ble 1 sz then some { r:=.e (.iN sz (el z.toNat)),jr:=[0<=z/\z<n] }else none
     | .e (.nf _ _ n sz el)=>if Nat.beq te.i.size sz&&Nat.ble 1 sz then some { r:=.e (.iN sz (el z.toNat)),jr:=[0<=z/\z<n] }else none
     | .own id=>match σ.bo id with
      |some (.row _ _ n sz _)=>if Nat.beq te.i.size sz then some { r:=.mT id sz z.toNat 0,rb:=[id],jr:=[0<=z/\z<n] }else none
      |some (.jC _ _ _ n _ _ _ _)=>if Nat.beq te.i.size 1 then some { r:=.mT id 1 z.toNat 0,rb:=[id],jr:=[0<=z/\z<n] }else none
      |_=>none
     | .iD id k=>match σ.bo id with
      |some (.jC _ _ _ n sz len _ _)=>if Nat.beq te.i.size sz then some { r:=.qC id sz k z.toNat 0,rb:=[id],jr:=[k<n,0<=z/\z<len k] }else none
      |_=>none
     |_=>none
    |none=>none
   | .array n e=>match mr T e with
    |some te=>match x with
     | .box id off=>some { r:=.box id (off+z.toNat*te.i.size),jr:=[0<=z/\z<n] }
     | .e (.iN m el)=>if Nat.beq (n*te.i.size) m then some { r:=.e (.iN te.i.size λj=>el (z.toNat*te.i.size+j)),jr:=[0<=z/\z<n] }else none
     |_=>none
    |none=>none
   |_=>none
  |none=>none
 |_=>none
def IG(T:List TI)(σ:PS)(t:TypeId)(a x:PV):Option ku:=match mr T t with
 |some ti=>match a,x with
  | .box id off,.e e=>match σ.bo id,e.cells? with
   |some (.cells T1 l),some m=>if Nat.beq m.length ti.i.size&&Nat.ble (off+m.length) l.length&&(!σ.nl||m.all E.mS)then
    some { r:=.e .any,f:=.vu id (.cells T1 (AY l off m)),rb:=[id] }else none
   |_,_=>none
  | .box id 0,.own q=>match σ.bo id,σ.bo q with
   |some (.cells T1 [_]),some (.row nl T0 n sz el)=>if !Nat.beq id q&&Nat.beq ti.i.size 1 then
    some { r:=.e .any,f:=.ri id q (.jC nl T1 T0 1 sz (λ_=>n) (λ_=>el) none),rb:=[id,q] }else none
   |_,_=>none
  | .mT id sz i j,.e e=>match σ.bo id,e.cells? with
   |some (.row nl T1 n s el),some m=>if Nat.beq m.length ti.i.size&&Nat.beq s sz&&Nat.ble (j+m.length) sz&&(!nl||m.all E.mS)&&m.all (E.nr 2)then
    some { r:=.e .any,f:=.vu id (.row nl T1 n s λi' j'=>if i'=i/\j<=j'/\j'<j+m.length then m.getD (j'-j) .any else el i' j'),rb:=[id],jr:=[i<n] }else none
   |_,_=>none
  | .mT id 1 i 0,.iD id' k=>match σ.bo id with
   |some (.jC nl T1 T0 n sz len el (some k'))=>if Nat.beq id id'&&Nat.beq ti.i.size 1 then
    some { r:=.e .any,f:=.vu id (.jC nl T1 T0 n sz len el none),rb:=[id],jr:=[i=k',k=k',k'<n] }else none
   |_=>none
  |_,_=>none
 |none=>none
def sx:PV->PS->Option (Value×List Nat)
 | .e (.nf _ _ n _ _),_=>some (.int .i64 (n:Int),[])
 | .e (.sl _ n _ _),_=>some (.int .i64 (n:Int),[])
 | .e (.v (.slice _ n _)),_=>some (.int .i64 (n:Int),[])
 | .own id,σ=>match σ.bo id with
  |some (.row _ _ n _ _)=>some (.int .i64 (n:Int),[id])
  |some (.jC _ _ _ n _ _ _ _)=>some (.int .i64 (n:Int),[id])
  |_=>none
 | .iD id k,σ=>match σ.bo id with
  |some (.jC _ _ _ n _ len _ _)=>if Nat.blt k n then some (.int .i64 (len k:Int),[id])else none
  |_=>none
 |_,_=>none
def F3(ti:TI):Option (List E×List Nat×List Prop)->Option ku
 |some (l,is,jr)=>if ti.isAgg then some { r:=.e (.agg l),rb:=is,jr:=jr }else match l with
  | [e]=>some { r:=.e e,rb:=is,jr:=jr }
  |_=>none
 |none=>none
def CI(σ:PS):PV->Option (Nat×Nat×Nat)
 | .mT id sz i j=>match σ.bo id with
  |some (.jC _ _ _ n _ _ _ none)=>if Nat.beq sz 1&&Nat.beq j 0 then some (id,i,n)else none
  |_=>none
 |_=>none
def ID(T:List TI)(σ:PS)(t:TypeId)(p:PV):Option ku:=match mr T t with
 |some ti=>match CI σ p with
  |some (id,i,n)=>if ti.isAgg then none else some { r:=.iD id i,rb:=[id],jr:=[i<n] }
  |none=>F3 ti (σ.read p ti.i.size)
 |none=>none
def Hu(O:pR):Option Tmp->Bool
 |some d=>(look O.nw d).isSome
 |none=>false
def Cu:List (Int×FuncId×List FuncId)->Int->Option E
 | [],_=>none
 |x::l,z=>if x.1=z then some (.fn x.2.1 (x.2.2.map λg=>.iN 1 λ_=>.fn g []))else Cu l z
def aeh(O:pR):Option Tmp->Option E
 |some d=>look O.cl d
 |none=>none
def jm(P:Program)(K:World->Prop)(T:List TI)(O:pR)(σ:PS)(o:Oper):Option ku:=match o.op with
 | .move x=>some { r:=σ.op x }
 | .assign x=>some { r:=σ.op x }
 | .pick c a b=>match σ.op c with
  | .e (.v (.bool true))=>some { r:=σ.op a }
  | .e (.v (.bool false))=>some { r:=σ.op b }
  |_=>none
 | .alloc t=>match mr T t with
  |some ti=>match yd ti with
   |some z=>AR σ o.dst (.cells t z) (.box · 0)
   |none=>none
  |none=>none
 | .box t x=>match σ.op x with
  | .e e=>match e.cells? with
   |some l=>AR σ o.dst (.cells t l) (.box · 0)
   |none=>none
  |_=>none
 | .build t ps=>match mr T t with
  |some ti=>match yd ti with
   |some z=>match ti.d with
    | .struct fs=>match Gx T fs.toList with
     |some pl=>(r9 σ (λi=>pl[i]?) z ps.toList).map λl=>{ r:=.e (.agg l) }
     |none=>none
    | .array _ e=>match mr T e with
     |some te=>(r9 σ (λi=>some (i*te.i.size,te.i.size)) z ps.toList).map λl=>{ r:=.e (.agg l) }
     |none=>none
    |_=>none
   |none=>none
  |none=>none
 | .buildSlice t n ps=>match AX σ ps.toList with|some q=>BG T σ o.dst t n q|none=>match mr T t with
  |some tt=>match tt.d with
   | .slice e=>match mr T e with
    |some te=>match yd te with
     |some z=>if Nat.beq z.length te.i.size&&Nat.ble 1 te.i.size&&Nat.ble (n*te.i.size) 16777216 then
      (r9 σ (λi=>some (i*te.i.size,te.i.size)) (kD n z) ps.toList).bind λl=>
       if !(l.all (E.nr 2))then none else if Hu O o.dst then y8 σ o.dst (.row (l.all E.mS) e n te.i.size λi j=>l.getD (i*te.i.size+j) (.v (.bool false))) .own [True]
       else if l.all E.mS then some { r:=.e (.sl true n te.i.size λi j=>l.getD (i*te.i.size+j) (.v (.bool false))) }
       else some { r:=.e (.sl false n te.i.size λi j=>l.getD (i*te.i.size+j) (.v (.bool false))) }
      else none
     |none=>none
    |none=>none
   |_=>none
  |none=>none
 | .load t a=>ID T σ t (σ.op a)
 | .store t a x=>IG T σ t (σ.op a) (σ.op x)
 | .nilCheck x=>match σ.op x with
  | .box id off=>some { r:=.box id off }
  | .e (.iN m el)=>some { r:=.e (.iN m el) }
  | .e (.fn f c)=>some { r:=.e (.fn f c) }
  | .oW f c=>some { r:=.oW f c }
  |_=>none
 | .binOp op t x y _=>match σ.op x,σ.op y with
  | .e (.v (.int k a)),.e (.v (.int k' b))=>
   match aei O o.dst with
   |some v=>some { r:=.e (.v v),jr:=[oN P op t (.v (.int k a)) (.v (.int k' b)) v] }
   |none=>if XC op k k' then(LJ op k a b).map λr=>{ r:=.e (.v r.1),jr:=r.2 }else none
  | .e (.v (.bool a)),.e (.v (.bool b))=>match wI T t with
   |some .bool=>match op with
    | .eql=>some { r:=.e (.v (.bool (a==b))) }
    | .neq=>some { r:=.e (.v (.bool (!(a==b)))) }
    |_=>none
   |_=>none
  | .e (.sl _ n _ _),.e (.v (.slice none 0 0))=>match wI T t with
   |some (.slice _)=>match op with
    | .eql=>some { r:=.e (.v (.bool false)),jr:=[0<n] }
    | .neq=>some { r:=.e (.v (.bool true)),jr:=[0<n] }
    |_=>none
   |_=>none
  | .e a,.e b=>match aej O o.dst with
   |some v=>some { r:=.e (.v v),jr:=[oN P op t a b v] }
   |none=>none
  |_,_=>none
 | .unOp op _ x=>match op,σ.op x with
  | .not,.e (.v (.bool b))=>some { r:=.e (.v (.bool (!b))) }
  | .neg,.e (.v (.int k z))=>some { r:=.e (.v (.int k (0-z))),jr:=[kP k (0-z)] }
  |_,_=>none
 | .convert src dst x=>match wI T dst,mr T src,σ.op x with
  |some (.int k),some _,.e (.v (.int _ z))=>some { r:=.e (.v (.int k (k.wrap z))) }
  |_,_,_=>none
 | .makeFunc (.func f) first cap=>if first.isEmpty then match wH (cap.toList.map σ.op)with
  |some l=>some { r:=.oW f l }
  |none=>none
  else none
 | .makeSlice t l c=>IE T σ o.dst t (σ.op l) (σ.op c)
 | .slice t x lo hi none=>IF T t (σ.op x) (lo.map σ.op) (hi.map σ.op)
 | .fieldAddr t x f=>match wI T t with
  |some (.struct fs)=>match fs[f]? with
   |some fd=>match mr T fd.type with
    |some ft=>if Nat.beq ft.i.size 0 then none else match σ.op x with
     | .box id off=>some { r:=.box id (off+fd.offset) }
     | .mT id sz i j=>some { r:=.mT id sz i (j+fd.offset) }
     | .qC id sz k i j=>some { r:=.qC id sz k i (j+fd.offset) }
     | .e (.iN m el)=>if Nat.ble fd.offset m then some { r:=.e (.iN (m-fd.offset) λj=>el (fd.offset+j)) }else none
     |_=>none
    |none=>none
   |none=>none
  |_=>none
 | .indexAddr t x i=>IC T σ t (σ.op x) (σ.op i)
 | .index t x i=>match σ.op x,σ.op i with
  | .e (.agg l),.e (.v (.int _ z))=>match mr T t with
   |some tt=>match tt.d with
    | .array n e=>match mr T e with
     |some te=>if te.isAgg&&Nat.beq (n*te.i.size) l.length then some { r:=.e (.agg ((l.drop (z.toNat*te.i.size)).take te.i.size)),jr:=[0<=z/\z<n] }else none
     |none=>none
    |_=>none
   |none=>none
  |_,_=>none
 | .field t x f=>match σ.op x,wI T t with
  | .e (.agg l),some (.struct fs)=>match fs[f]? with
   |some fd=>match mr T fd.type with
    |some ft=>if ft.isAgg then none else match l[fd.offset]? with
     |some e=>some { r:=.e e }
     |none=>none
    |none=>none
   |none=>none
  |_,_=>none
 | .lookup t x i false=>match σ.op x,σ.op i,wI T t with
  | .e (.mp l),.e (.v (.int .i64 z)),some (.map k _)=>match wI T k,aeh O o.dst with
   |some (.int .i64),some e=>some { r:=.e e,jr:=[Cu l z=some e] }
   |_,_=>none
  |_,_,_=>none
 | .extract x i=>match σ.op x with
  | .e (.ig l)=>match l[i]? with
   |some e=>some { r:=.e e }
   |none=>none
  |_=>none
 | .call c=>match c.callee with
  | .builtin .len=>match c.args.toList,c.argTypes.toList with
   | [x],[t]=>match wI T t with
    |some (.slice _)=>(sx (σ.op x) σ).map λr=>{ r:=.e (.v r.1),rb:=r.2 }
    |_=>none
   |_,_=>none
  | .builtin .append=>match c.args.toList,c.argTypes.toList with
   | [s,x],[t,t']=>if Nat.beq t t' then(match(σ.op x).D4 with|some q=>BF T σ o.dst t (σ.op s) q|none=>if Hu O o.dst then BE T σ o.dst t (σ.op s) (σ.op x)else Ag T σ o.dst t (σ.op s) (σ.op x))else none
   |_,_=>none
  | .builtin .max=>match c.args.toList.map σ.op with
   | [.e (.v (.int k a)),.e (.v (.int _ b))]=>some { r:=.e (.v (.int k (if b>a then b else a))) }
   | [.e (.v (.int k a)),.e (.v (.int _ b)),.e (.v (.int _ z))]=>some { r:=.e (.v (.int k (if z>(if b>a then b else a)then z else(if b>a then b else a)))) }
   |_=>none
  | .builtin .min=>match c.args.toList.map σ.op with
   | [.e (.v (.int k a)),.e (.v (.int _ b))]=>some { r:=.e (.v (.int k (if b<a then b else a))) }
   |_=>none
  | .value f=>match σ.op f,tJ σ c.args.toList with
   | .e (.fn g cap),some (xs,is)=>Ah P K O σ o.dst g (xs++cap) is ((c.args.toList.map σ.op).any (PV.vY σ))
   | .oW g cap,some (xs,is)=>match uB σ cap with
    |some (ys,js)=>Ah P K O σ o.dst g (xs++ys) (is++js) ((c.args.toList.map σ.op).any (PV.vY σ)||cap.any CV.FU)
    |none=>none
   |_,_=>none
  |_=>none
 |_=>none
structure Lk where
 mj:Nat->Prop
 own:Nat->Nat->Prop
 val:Nat->Value
 iD:Nat->Nat->Value
def jx(L:Lk)(x:Nat):Prop:=∃ id,L.own id x
def ja(B:Nat->Prop)(L:Lk)(x:Nat):Prop:=B x\/jx L x
def wB(bs br:Nat->Prop)(L:Lk)(w:World):CV->Value->Prop
 | .e x,v=>ix bs br w x v
 | .box id,v=>L.mj id/\∃ b,L.val id = .pointer (some ⟨b,0,none⟩)/\v = .pointer (some ⟨b,0,none⟩)
 | .row id,v=>L.mj id/\∃ b n c,L.val id = .slice (some ⟨b,0,none⟩) n c/\v = .pointer (some ⟨b,0,none⟩)
def mY(bs br:Nat->Prop)(L:Lk)(w:World):PV->Value->Prop
 | .e x,v=>ix bs br w x v
 | .box id off,v=>L.mj id/\∃ b,L.val id = .pointer (some ⟨b,0,none⟩)/\v = .pointer (some ⟨b,off,none⟩)
 | .own id,v=>L.mj id/\v=L.val id
 | .mT id sz i j,v=>L.mj id/\∃ b n c,L.val id = .slice (some ⟨b,0,none⟩) n c/\v = .pointer (some ⟨b,i*sz+j,none⟩)
 | .iD id k,v=>L.mj id/\v=L.iD id k
 | .qC id sz k i j,v=>L.mj id/\∃ b n c,L.iD id k = .slice (some ⟨b,0,none⟩) n c/\v = .pointer (some ⟨b,i*sz+j,none⟩)
 | .oW f cap,v=>∃ vs:List Value,v = .func (.func f) #[] vs.toArray/\vs.length=cap.length/\∀ (i:Nat) (c:CV) (x:Value),cap[i]? = some c->vs[i]? = some x->wB bs br L w c x
def PV.le(p q:PV):Prop:=∀ (bs br:Nat->Prop) (L:Lk) (w:World) (v:Value),mY bs br L w p v->mY bs br L w q v
abbrev aj(a b:E):Prop:=PV.le (.e a) (.e b)
def uA(P:Program)(K:World->Prop)(T:List TI)(O:pR)(σ:PS)(o:Oper):Option ku:=match jm P K T O σ o with
 |some u=>match o.dst with
  |some d=>match look O.ov d with
   |some p=>some { u with r:=p,jr:=PV.le u.r p::u.jr }
   |none=>some u
  |none=>some u
 |none=>none
def zL(gT:Array Oper)(σ:PS)(o:Oper):Option Bool:=match o.guard with
 |none=>some true
 |some (j,want)=>match(gT[j]?).bind (·.dst)with
  |some t=>match σ.get t with
   | .e (.v (.bool true))=>some want
   | .e (.v (.bool false))=>some (!want)
   | .e (.v (.tuple _))=>some false
   |_=>none
  |none=>none
def PS.app(σ:PS)(d:Option Tmp)(u:ku):PS:=(σ.nL u.f).put d u.r
def vX(σ:PS):Option Tmp->Bool
 |some d=>Nat.blt d σ.n
 |none=>true
def Gs:Op->List Operand
 | .move x | .assign x | .box _ x | .load _ x | .nilCheck x | .unOp _ _ x | .convert _ _ x | .fieldAddr _ x _ | .field _ x _ | .extract x _=>[x]
 | .pick c a b=>[c,a,b]
 | .build _ ps | .buildSlice _ _ ps=>ps.toList.map (·.2)
 | .store _ a v | .binOp _ _ a v _ | .makeSlice _ a v | .indexAddr _ a v | .index _ a v | .lookup _ a v _=>[a,v]
 | .makeFunc _ first captured=>first.toList++captured.toList
 | .slice _ x l h m=>x::(l.toList++h.toList++m.toList)
 | .call c=>(match c.callee with | .value f=>[f] | .invoke r _=>[r] | .builtin _=>[])++c.args.toList
 |_=>[]
def El:List Operand->List Tmp
 | []=>[]
 | .tmp t::l=>t::El l
 |_::l=>El l
def looks(gT:Array Oper)(o:Oper):List Tmp:=El (Gs o.op)++(match o.guard with
 |some (g,_)=>((gT[g]?).bind (·.dst)).toList
 |none=>[])
def rz(P:Program)(K:World->Prop)(T:List TI)(O:pR)(gT:Array Oper)(σ:PS)(o:Oper):Option ku:=
 if vX σ o.dst then match zL gT σ o with
  |some true=>match uA P K T O σ o with
   |some u=>some { u with rd:=(looks gT o).map σ.get }
   |none=>none
  |some false=>some { r:=.e (.v (.tuple #[])),rd:=(looks gT o).map σ.get }
  |none=>none
 else none
def Mx(l:List Nat)(n:Nat):Bool:=l.any (Nat.beq n)
def qq.id:qq->Option Nat
 | .none=>Option.none
 | .new i _ | .vu i _ | .qU i _ | .uG i _ | .fin i | .ri i _ _ | .A8 i _=>some i
def qq.Ck:qq->Bool
 | .ri ..=>true
 | .A8 ..=>true
 |_=>false
def y6:qq->PV->Bool
 | .qU id _,.own i=>!Nat.beq i id
 | .qU id _,.mT i _ _ _=>!Nat.beq i id
 | .qU id _,.oW _ cap=>!cap.any (CV.FV id)
 | .uG id _,.iD i _=>!Nat.beq i id
 | .uG id _,.qC i _ _ _ _=>!Nat.beq i id
 | .fin id,p=>!p.lI.any (Nat.beq id)
 |_,_=>true
def DZ(l:List Nat):Option Nat->Bool
 |some d=>!Mx l d
 |none=>true
def KE:Option Nat->Option Nat->Bool
 |some a,some b=>!Nat.beq a b
 |_,_=>true
def Oe:PV->Bool
 | .e .any=>false
 |_=>true
def Ch(gT:Array Oper)(x y:Oper×ku):Bool:=
 DZ (looks gT y.1) x.1.dst&&KE x.1.dst y.1.dst&&DZ (looks gT x.1) y.1.dst &&
 DZ y.2.rb x.2.f.id&&DZ x.2.rb y.2.f.id&&KE x.2.f.id y.2.f.id&&y6 x.2.f y.2.r&&y6 y.2.f x.2.r &&
 (!x.2.f.KL||y.2.rd.all Oe)&&x.2.rd.all (y6 y.2.f) && !x.2.f.Ck && !y.2.f.Ck
def Cj(o:Oper)(i:Nat):Bool:=o.after.toList.any λe=>Region.binds .any e&&Nat.beq e.on i
def A6(gT:Array Oper):Nat->Oper->Nat->Bool
 | 0,o,i=>Cj o i
 |n+1,o,i=>Cj o i||o.after.toList.any λe=>Region.binds .any e&&(match gT[e.on]? with
  |some z=>A6 gT n z i
  |none=>false)
def D5(gT:Array Oper):Nat->List (Oper×ku)->Bool
 |_,[]=>true
 |i,x::l=>x.1.after.toList.all (λe=>!Region.binds .any e||Nat.blt e.on i)&&l.all (λy=>A6 gT 3 y.1 i||Ch gT x y)&&D5 gT (i+1) l
def GX(σ:PS):PV->Option E
 | .e x=>if x.nr 3 then some x else none
 | .own id=>match σ.bo id with
  |some (.row nl _ n sz el)=>some (.sl nl n sz el)
  |some (.jC nl _ _ n sz len el none)=>some (.sl true n 1 λk _=>.sl nl (len k) sz (el k))
  |_=>none
 | .iD id k=>match σ.bo id with
  |some (.jC nl _ _ n sz len el none)=>if Nat.blt k n then some (.sl nl (len k) sz (el k))else none
  |_=>none
 |_=>none
def OV(T:List TI)(σ:PS):ResultVar->Option E
 | .tmp t=>GX σ (σ.get t)
 | .cell a t=>match mr T t with
  |some ti=>match σ.read (σ.get a) ti.i.size with
   |some (l,_,[])=>if ti.isAgg then(if(E.agg l).nr 3 then some (.agg l)else none)else match l with
    | [e]=>if e.nr 3 then some e else none
    |_=>none
   |_=>none
  |none=>none
def Ec(T:List TI)(σ:PS):List ResultVar->Option (List E)
 | []=>some []
 |x::l=>match OV T σ x,Ec T σ l with
  |some e,some es=>some (e::es)
  |_,_=>none
def Kf(T:List TI)(fn:Func)(σ:PS):Option E:=match Ec T σ fn.results.toList with
 |some [e]=>some e
 |some l=>some (.ig l)
 |none=>none
inductive Ex where
 |normal
 |exit (id:Nat)
 |ret
def Fe:Code->Nat
 | .region id _ _=>id
 | .seq a _=>Fe a
 | .cond _ a _=>Fe a
 | .block _ b=>Fe b
 | .loop b=>Fe b
 |_=>0
def FT:Nat->List E->List (Nat×PV)
 |_,[]=>[]
 |i,x::l=>(i,.e x)::FT (i+1) l
def AI(fn:Func)(nl:Bool)(args:List E):PS:={ n:=fn.ntmps,nl:=nl,t:=FT 0 args,b:=[] }
def kK{a b:Nat}:Nat.beq a b=true↔a=b:=⟨Nat.eq_of_beq_eq_true,λh=>by subst h;exact cg a⟩
def cJ{a b:Nat}(h:a≠b):Nat.beq a b=false:=by
 cases hb:Nat.beq a b with
 |false=>rfl
 |true=>exact absurd (kK.1 hb) h
def uf{α:Type}(k:Nat)(x:α)(l:List (Nat×α))(t:Nat):look ((k,x)::l) t=if k=t then some x else look l t:=by
 by_cases h:k=t
 .subst h;simp[look]
 .simp [look,h,cJ h]
def F5{α:Type}(l:List (Nat×α))(d t:Nat)(h:d≠t):look (l.filter λx=>!Nat.beq x.1 d) t=look l t:=by
 induction l with
 |nil=>rfl
 |cons y l ih=>
  obtain⟨k,x⟩:=y;rw[List.filter_cons];by_cases hk:k=d
  .subst hk;simp only[cg,eR,bB,bk];rw[ih,uf,aY h]
  .simp only[cJ hk,dX,bw];rw[uf,uf,ih]
def VH{α:Type}(l:List (Nat×α))(f:α->α)(t:Nat):look (l.map λx=>(x.1,f x.2)) t=(look l t).map f:=by
 induction l with
 |nil=>rfl
 |cons y l ih=>
  obtain⟨k,x⟩:=y;rw[dY,uf,uf,ih];split<;>rfl
def PS.Mb(σ:PS)(d:Nat)(p:PV)(t:Nat):(σ.put (some d) p).get t=if d=t then p else σ.get t:=by
 unfold PS.get PS.put;simp only[uf];by_cases h:d=t
 .rw [aZ h,aZ h];rfl
 .rw [aY h,aY h,F5 _ _ _ h]
def PS.aaF(σ:PS)(d:Option Tmp)(p:PV)(id:Nat):(σ.put d p).bo id=σ.bo id:=by cases d<;>rfl
def PS.NY(σ:PS)(d:Option Tmp)(p:PV):(σ.put d p).n=σ.n:=by cases d<;>rfl
def PS.ahQ(σ:PS)(d:Option Tmp)(p:PV):(σ.put d p).nl=σ.nl:=by cases d<;>rfl
def Cr(l:List (Nat×Bx))(id:Nat)(b:Bx)(t:Nat):look (tE l id b) t=if id=t then some b else look l t:=by
 unfold tE;rw[uf];by_cases h:id=t
 .rw [aZ h,aZ h]
 .rw [aY h,aY h,F5 _ _ _ h]
def VG{α:Type}(l:List (Nat×α))(d:Nat):look (l.filter λx=>!Nat.beq x.1 d) d=none:=by
 induction l with
 |nil=>rfl
 |cons y l ih=>
  obtain⟨k,x⟩:=y;rw[List.filter_cons];by_cases hk:k=d
  .subst hk;simpa only[cg,eR,bB,bk]using ih
  .simp only[cJ hk,dX,bw];rw[uf,aY hk,ih]
def Cq{α:Type}(l:List (Nat×α))(i id:Nat):look (l.filter λx=>!Nat.beq x.1 i) id=if i=id then none else look l id:=by
 by_cases h:i=id
 .subst h;rw[aZ rfl];exact VG _ _
 .rw [aY h];exact F5 _ _ _ h
def PS.BJ(σ:PS)(f:qq)(t:Nat):(σ.nL f).get t=(σ.get t).mW f:=by
 unfold PS.get PS.nL;by_cases h:f.KL=true
 .simp only[h,bw];rw[VH];cases look σ.t t with
  |none=>cases f<;>rfl
  |some p=>rfl
 .have hv:∀ p:PV,p.mW f=p:=by
   intro p;cases f<;>first|exact absurd rfl h|(cases p<;>rfl)
  simp only[h,hv];rfl
def PX(bs br:Nat->Prop)(L:Lk)(w:World)(id:Nat)(nl:Bool)(T1 T0:TypeId)(n sz:Nat)(len:Nat->Nat)(el:Nat->Nat->Nat->E)(pend:Option Nat):Prop:=∃ (b c:Nat) (cur:Array Value) (f:Nat->Nat->Nat->Value),L.val id = .slice (some ⟨b,0,none⟩) n c/\w.heap[b]? = some (.cells cur T1 (0,0))/\n<=c/\c<=maxLen/\cur.size=c /\
 (∀ k,k<n->pend≠some k->cur[k]? = some (L.iD id k))/\(∀ u,u ∈ cur->qk u=false) /\
 (∀ k,k<n->nG w (L.iD id k) T0 (len k) sz (f k) nl/\∀ i j,i<len k->j<sz->ix bs br w (el k i j) (f k i j)/\(el k i j).nr 2=true) /\
 (∀ x,L.own id x↔x=b\/∃ k,k<n/\(L.iD id k).ownBlock=some x) /\
 (∀ k k' x,k<n->k'<n->(L.iD id k).ownBlock=some x->(L.iD id k').ownBlock=some x->k=k')/\(∀ k,k<n->(L.iD id k).ownBlock≠some b)
def qp(bs br:Nat->Prop)(L:Lk)(w:World)(id:Nat):Bx->Prop
 | .cells T l=>∃ b vs,L.val id = .pointer (some ⟨b,0,none⟩)/\(∀ x,L.own id x↔x=b)/\w.heap[b]? = some (.cells vs.toArray T (0,0))/\j9 bs br w l vs/\∀ u,u ∈ vs->u.oneCell'=true
 | .row nl T n sz el=>∃ f:Nat->Nat->Value,nG w (L.val id) T n sz f nl/\(∀ x,L.own id x↔(L.val id).ownBlock=some x)/\∀ i j,i<n->j<sz->ix bs br w (el i j) (f i j)/\(el i j).nr 2=true
 | .jC nl T1 T0 n sz len el pend=>(L.val id = .slice none 0 0/\n=0/\∀ x,¬L.own id x)\/PX bs br L w id nl T1 T0 n sz len el pend
def qp.wq{bs br:Nat->Prop}{L:Lk}{w:World}{id:Nat}{nl:Bool}{T1 T0 n sz:Nat}{len:Nat->Nat}{el:Nat->Nat->Nat->E}{pend:Option Nat}(h:qp bs br L w id (.jC nl T1 T0 n sz len el pend))(hn:0<n):
 PX bs br L w id nl T1 T0 n sz len el pend:=by
 rcases h with⟨_,h,_⟩|h
 .omega
 .exact h
structure iT(w0:World)(B:Nat->Prop)(σ:PS)(a:Act)(w:World)(L:Lk):Prop where
 hd:a.defers=[]
 hs:a.tmps.size=σ.n
 ht:∀ t,mY (ja B L) (jx L) L w (σ.get t) (a.tmps.getD t undef)
 hb:∀ id b,σ.bo id=some b->qp (ja B L) (jx L) L w id b
 hv:∀ id,L.mj id↔(σ.bo id).isSome=true
 hn:∀ id x,L.own id x->L.mj id
 hw:∀ id x,L.own id x->w0.heap.size<=x/\x<w.heap.size
 hi:∀ id id' x,L.own id x->L.own id' x->id=id'
 he:Below w0.heap.size w0 w
 hl:σ.nl=true->∀ id b,σ.bo id=some b->b.nl=true
structure rL(L:Lk)(w:World)(L':Lk)(w':World):Prop where
 size:w.heap.size<=w'.heap.size
 jx:∀ x,x<w.heap.size->Pu.jx L' x->Pu.jx L x
 oH:∀ x,x<w.heap.size->¬Pu.jx L x->w'.heap[x]? = w.heap[x]?
def rL.kD{B:Nat->Prop}{L L':Lk}{w w':World}(h:rL L w L' w'){e:E}{v:Value}(k:ix (ja B L) (Pu.jx L) w e v):ix (ja B L') (Pu.jx L') w' e v:=by
 refine k.mono h.size (λb hb hx=>?_) (λb hb hx=>h.jx b hb hx) (λb hb vS=>h.oH b hb ?_)
 .rcases hx with hx|hx
  .exact .inl hx
  .exact .inr (h.jx b hb hx)
 .rcases vS with vS|vS
  .exact λhm=>vS (.inr hm)
  .exact vS
def nG.block{w w':World}{v:Value}{T:TypeId}{n sz:Nat}{f:Nat->Nat->Value}{nl:Bool}(h:nG w v T n sz f nl)
 (hk:∀ x,v.ownBlock=some x->w'.heap[x]? = w.heap[x]?):nG w' v T n sz f nl:=by
 rcases h with h|⟨b,c,cur,rfl,hg,r⟩
 .exact .inl h
 .exact .inr ⟨b,c,cur,rfl,by rw[hk b rfl];exact hg,r⟩
def qp.later{B:Nat->Prop}{L L':Lk}{w w':World}(h:rL L w L' w'){id:Nat}{b:Bx}(k:qp (ja B L) (jx L) L w id b)
 (hv:L'.val id=L.val id) (ho:∀ x,L'.own id x↔L.own id x) (lg:∀ j,L'.iD id j=L.iD id j) (hk:∀ x,L.own id x->w'.heap[x]? = w.heap[x]?):qp (ja B L') (jx L') L' w' id b:=by
 cases b with
 |cells T l=>
  obtain⟨b,vs,h1,h2,h3,h4,h5⟩:=k;exact⟨b,vs,by rw[hv];exact h1,λx=>(ho x).trans (h2 x),by rw[hk b ((h2 b).2 rfl)];exact h3,h4.mono λ_ _=>h.kD,h5⟩
 |row nl T n sz el=>
  obtain⟨f,h1,h2,h3⟩:=k;exact⟨f,by rw[hv];exact h1.block λx hx=>hk x ((h2 x).2 hx),λx=>by rw[ho,hv];exact h2 x,λi j hi hj=>⟨h.kD (h3 i j hi hj).1,(h3 i j hi hj).2⟩⟩
 |jC nl T1 T0 n sz len el pend=>
  rcases k with⟨h1,h2,h3⟩|k
  .exact .inl ⟨by rw[hv];exact h1,h2,λx hx=>h3 x ((ho x).1 hx)⟩
  obtain⟨b,c,cur,f,h1,h2,h3,h4,h5,h6,h7,h8,h9,pT,rS⟩:=k;have e:L'.iD id=L.iD id:=funext lg;refine .inr ⟨b,c,cur,f,by rw[hv];exact h1,by rw[hk b ((h9 b).2 (.inl rfl))];exact h2,h3,h4,h5,by rw[e];exact h6,h7,?_,?_,by rw[e];exact pT,by rw[e];exact rS⟩
  .intro k Jc;obtain⟨q1,q2⟩:=h8 k Jc;rw[e];exact⟨q1.block λx hx=>hk x ((h9 x).2 (.inr ⟨k,Jc,hx⟩)),λi j hi hj=>⟨h.kD (q2 i j hi hj).1,(q2 i j hi hj).2⟩⟩
  .intro x;rw[ho,e];exact h9 x
def wB.later{B:Nat->Prop}{L L':Lk}{w w':World}(h:rL L w L' w'){c:CV}{v:Value}(k:wB (ja B L) (jx L) L w c v)
 (hv:∀ id,L.mj id->L'.mj id/\L'.val id=L.val id):wB (ja B L') (jx L') L' w' c v:=by
 cases c with
 |e x=>exact h.kD k
 |box id=>obtain⟨k1,b,k2,k3⟩:=k;exact⟨(hv id k1).1,b,by rw[(hv id k1).2];exact k2,k3⟩
 |row id=>obtain⟨k1,b,n,c,k2,k3⟩:=k;exact⟨(hv id k1).1,b,n,c,by rw[(hv id k1).2];exact k2,k3⟩
def mY.later{B:Nat->Prop}{L L':Lk}{w w':World}(h:rL L w L' w'){p:PV}{v:Value}(k:mY (ja B L) (jx L) L w p v)
 (hv:∀ id,L.mj id->L'.mj id/\L'.val id=L.val id/\∀ j,L'.iD id j=L.iD id j):mY (ja B L') (jx L') L' w' p v:=by
 cases p with
 |e x=>exact h.kD k
 |box id off=>obtain⟨k1,b,k2,k3⟩:=k;exact⟨(hv id k1).1,b,by rw[(hv id k1).2.1];exact k2,k3⟩
 |own id=>obtain⟨k1,k2⟩:=k;exact⟨(hv id k1).1,by rw[(hv id k1).2.1];exact k2⟩
 |mT id sz i j=>obtain⟨k1,b,n,c,k2,k3⟩:=k;exact⟨(hv id k1).1,b,n,c,by rw[(hv id k1).2.1];exact k2,k3⟩
 |iD id q=>obtain⟨k1,k2⟩:=k;exact⟨(hv id k1).1,by rw[(hv id k1).2.2];exact k2⟩
 |qC id sz q i j=>obtain⟨k1,b,n,c,k2,k3⟩:=k;exact⟨(hv id k1).1,b,n,c,by rw[(hv id k1).2.2];exact k2,k3⟩
 |oW f cap=>
  obtain⟨vs,k1,k2,k3⟩:=k;exact⟨vs,k1,k2,λi c x hc hx=>(k3 i c x hc hx).later h λid hl=>⟨(hv id hl).1,(hv id hl).2.1⟩⟩
def iT.later{w0:World}{B:Nat->Prop}{σ:PS}{a:Act}{w w':World}{L:Lk}(r:iT w0 B σ a w L)(h:Below w.heap.size w w'):iT w0 B σ a w' L:=by
 have hl:rL L w L w':=⟨h.size,λ_ _ h=>h,λx hx _=>h.block x hx⟩
 refine⟨r.hd,r.hs,λt=>(r.ht t).later hl λid k=>⟨k,rfl,λ_=>rfl⟩,λid b hb=>(r.hb id b hb).later hl rfl (λ_=>Iff.rfl) (λ_=>rfl) λx hx=>h.block x (r.hw id x hx).2,r.hv,r.hn,
  λid x hx=>⟨(r.hw id x hx).1,bJ (r.hw id x hx).2 h.size⟩,r.hi,r.he.trans (h.mono r.he.size),r.hl⟩
def iT.drew{w0:World}{B:Nat->Prop}{σ:PS}{a:Act}{w:World}{L:Lk}(r:iT w0 B σ a w L):iT w0 B σ a w.drew L:=r.later (Below.refl _ _).drew
def iT.put{w0:World}{B:Nat->Prop}{σ:PS}{a:Act}{w:World}{L:Lk}(r:iT w0 B σ a w L)(d:Option Tmp)(p:PV)(v:Value)(hd:vX σ d=true)(hp:mY (ja B L) (jx L) L w p v):iT w0 B (σ.put d p) (a.put d v) w L:=by
 cases d with
 |none=>exact r
 |some d=>
  have As:d<σ.n:=by simpa[vX,fF]using hd
  refine⟨r.hd,by simp[Act.put,r.hs,PS.NY],λt=>?_,λid b hb=>r.hb id b hb,r.hv,r.hn,r.hw,r.hi,r.he,r.hl⟩;rw[PS.Mb];by_cases h:d=t
  .subst h;rw[aZ rfl];have:(a.put (some d) v).tmps.getD d undef=v:=by
    simp[Act.put,Array.getElem?_setIfInBounds,r.hs,As]
   rw[this];exact hp
  .rw [aY h];have:(a.put (some d) v).tmps.getD t undef=a.tmps.getD t undef:=by
    simp[Act.put,ana h]
   rw[this];exact r.ht t
def iT.op{w0:World}{B:Nat->Prop}{σ:PS}{a:Act}{w:World}{L:Lk}(r:iT w0 B σ a w L)(x:Operand):mY (ja B L) (jx L) L w (σ.op x) (a.eval x):=by
 cases x with
 |tmp t=>exact r.ht t
 |const v=>exact .v v
 |global g=>exact .v _
 |func f=>exact .fn f [] [] rfl (λi p x h=>by simp at h)
def Lk.set(L:Lk)(id:Nat)(O:Nat->Prop)(v:Value)(iD:Nat->Value):Lk:=
 {mj:=λi=>i=id\/L.mj i
  own:=λi x=>if i=id then O x else L.own i x
  val:=λi=>if i=id then v else L.val i
  iD:=λi=>if i=id then iD else L.iD i }
section
variable {L:Lk} {id:Nat} {O:Nat->Prop} {v:Value} {iD:Nat->Value}
def Lk.sR(x:Nat):(L.set id O v iD).own id x↔O x:=by simp[Lk.set]
def Lk.po:(L.set id O v iD).val id=v:=by simp[Lk.set]
def Lk.rZ(k:Nat):(L.set id O v iD).iD id k=iD k:=by simp[Lk.set]
def Lk.Bd:(L.set id O v iD).mj id:=.inl rfl
def Lk.Be{i:Nat}(h:i≠id)(x:Nat):(L.set id O v iD).own i x↔L.own i x:=by simp[Lk.set,h]
def Lk.zD{i:Nat}(h:i≠id):(L.set id O v iD).val i=L.val i:=by simp[Lk.set,h]
def Lk.Ef{i:Nat}(h:i≠id)(k:Nat):(L.set id O v iD).iD i k=L.iD i k:=by simp[Lk.set,h]
end
structure rp(L:Lk)(w:World)(id:Nat)(O:Nat->Prop)(w':World):Prop where
 own:∀ x,O x->(L.own id x\/w.heap.size<=x)/\x<w'.heap.size
 size:w.heap.size<=w'.heap.size
 oH:∀ x,x<w.heap.size->¬L.own id x->w'.heap[x]? = w.heap[x]?
 os:w'.os=w.os
 tape:w'.tape=w.tape
 output:w'.output=w.output
def rp.later{L:Lk}{w:World}{id:Nat}{O:Nat->Prop}{w':World}(h:rp L w id O w')(v:Value)(iD:Nat->Value):rL L w (L.set id O v iD) w':=by
 refine⟨h.size,λx hx hm=>?_,λx hx hm=>h.oH x hx λho=>hm ⟨id,ho⟩⟩;obtain⟨i,hi⟩:=hm;by_cases e:i=id
 .subst e;rcases(h.own x ((Lk.sR x).1 hi)).1 with k|k
  .exact ⟨i,k⟩
  .omega
 .exact ⟨i,(Lk.Be e x).1 hi⟩
def iT.set{w0:World}{B:Nat->Prop}{σ:PS}{a:Act}{w:World}{L:Lk}(r:iT w0 B σ a w L)(id:Nat)(b':Bx)(O:Nat->Prop)(v:Value)(iD:Nat->Value)(w':World)(f:qq)
 (hf:f.Ld σ.b=tE σ.b id b') (ht:rp L w id O w')
 (hB:qp (ja B (L.set id O v iD)) (jx (L.set id O v iD)) (L.set id O v iD) w' id b')
 (hT:∀ p v0,mY (ja B L) (jx L) L w p v0->mY (ja B (L.set id O v iD)) (jx (L.set id O v iD)) (L.set id O v iD) w' (p.mW f) v0)
 (jA:σ.nl=true->b'.nl=true):iT w0 B (σ.nL f) a w' (L.set id O v iD):=by
 have hl:=ht.later v iD;have jf:∀ i,(σ.nL f).bo i=if id=i then some b' else σ.bo i:=by
  intro i;show look (f.Ld σ.b) i=_;rw[hf,Cr];rfl
 have Aq:Below w0.heap.size w w':=⟨ht.os,ht.tape,ht.output,ht.size,λx hx=>ht.oH x (bJ hx r.he.size) λho=>by have:=(r.hw id x ho).1;omega⟩
 refine⟨r.hd,r.hs,λt=>?_,λi b hb=>?_,λi=>?_,λi x hx=>?_,λi x hx=>?_,λi j x hi hj=>?_,r.he.trans Aq,λxM i b hb=>?_⟩
 .rw [PS.BJ];exact hT _ _ (r.ht t)
 .rw [jf]at hb;by_cases e:id=i
  .subst e;rw[aZ rfl]at hb;cases hb;exact hB
  .rw [aY e]at hb;have e':i≠id:=λh=>e h.symm
   exact(r.hb i b hb).later hl (Lk.zD e') (Lk.Be e') (Lk.Ef e') λx hx=>ht.oH x (r.hw i x hx).2 λho=>e (r.hi id i x ho hx)
 .rw [jf];by_cases e:id=i
  .subst e;rw[aZ rfl];simp[Lk.set]
  .rw [aY e];have e':i≠id:=λh=>e h.symm
   simp only[Lk.set,e',false_or];exact r.hv i
 .by_cases e:i=id
  .exact .inl e
  .exact .inr (r.hn i x ((Lk.Be e x).1 hx))
 .by_cases e:i=id
  .subst e;obtain⟨k1,k2⟩:=ht.own x ((Lk.sR x).1 hx);refine⟨?_,k2⟩;rcases k1 with k1|k1
   .exact (r.hw i x k1).1
   .exact bg r.he.size k1
  .have:=r.hw i x ((Lk.Be e x).1 hx);exact⟨this.1,bJ this.2 ht.size⟩
 .by_cases e1:i=id
  .by_cases e2:j=id
   .rw [e1,e2]
   .have k2:=(Lk.Be e2 x).1 hj;subst e1;rcases(ht.own x ((Lk.sR x).1 hi)).1 with k|k
    .exact r.hi _ _ x k k2
    .have:=(r.hw j x k2).2;omega
  .have k1:=(Lk.Be e1 x).1 hi;by_cases e2:j=id
   .subst e2;rcases(ht.own x ((Lk.sR x).1 hj)).1 with k|k
    .exact r.hi _ _ x k1 k
    .have:=(r.hw i x k1).2;omega
   .exact r.hi _ _ x k1 ((Lk.Be e2 x).1 hj)
 .rw [jf]at hb;by_cases e:id=i
  .rw [aZ e]at hb;cases hb;exact jA xM
  .rw [aY e]at hb;exact r.hl xM i b hb
def iT.new{w0:World}{B:Nat->Prop}{σ:PS}{a:Act}{w:World}{L:Lk}(r:iT w0 B σ a w L)(id:Nat)(b':Bx)(O:Nat->Prop)(v:Value)(iD:Nat->Value)(w':World)
 (kr:σ.bo id=none) (hO:∀ x,O x->w.heap.size<=x/\x<w'.heap.size) (hb:Below w.heap.size w w')
 (hB:qp (ja B (L.set id O v iD)) (jx (L.set id O v iD)) (L.set id O v iD) w' id b')
 (jA:(!σ.nl||b'.nl)=true):iT w0 B (σ.nL (.new id b')) a w' (L.set id O v iD):=by
 have TS:¬L.mj id:=λh=>by have:=(r.hv id).1 h;rw[kr]at this;simp at this
 have ht:rp L w id O w':=⟨λx hx=>⟨.inr (hO x hx).1,(hO x hx).2⟩,hb.size,λx hx _=>hb.block x hx,hb.os,hb.tape,hb.output⟩
 refine r.set id b' O v iD w' (.new id b') rfl ht hB (λp v0 hp=>?_) (λh=>by simpa[h]using jA);have jh:∀ {i},L.mj i->i≠id:=λh e=>TS (e▸h)
 have:p.mW (.new id b')=p:=by cases p<;>rfl
 rw[this];exact hp.later (ht.later v iD) λi hi=>⟨.inr hi,Lk.zD (jh hi),λj=>Lk.Ef (jh hi) j⟩
def iT.vu{w0:World}{B:Nat->Prop}{σ:PS}{a:Act}{w:World}{L:Lk}(r:iT w0 B σ a w L)(id:Nat)(b':Bx)(w':World)
 (sc:L.mj id) (ht:rp L w id (L.own id) w')
 (hB:qp (ja B (L.set id (L.own id) (L.val id) (L.iD id))) (jx (L.set id (L.own id) (L.val id) (L.iD id))) (L.set id (L.own id) (L.val id) (L.iD id)) w' id b')
 (jA:σ.nl=true->b'.nl=true):iT w0 B (σ.nL (.vu id b')) a w' (L.set id (L.own id) (L.val id) (L.iD id)):=by
 refine r.set id b' _ _ _ w' (.vu id b') rfl ht hB (λp v0 hp=>?_) jA;have:p.mW (.vu id b')=p:=by cases p<;>rfl
 rw[this];refine hp.later (ht.later _ _) λi hi=>⟨.inr hi,?_,λj=>?_⟩
 .by_cases e:i=id
  .subst e;exact Lk.po
  .exact Lk.zD e
 .by_cases e:i=id
  .subst e;exact Lk.rZ j
  .exact Lk.Ef e j
def iT.qU{w0:World}{B:Nat->Prop}{σ:PS}{a:Act}{w:World}{L:Lk}(r:iT w0 B σ a w L)(id:Nat)(b':Bx)(O:Nat->Prop)(v:Value)(w':World)
 (hp:∀ b,L.val id ≠ .pointer (some b)) (ht:rp L w id O w')
 (hB:qp (ja B (L.set id O v (L.iD id))) (jx (L.set id O v (L.iD id))) (L.set id O v (L.iD id)) w' id b')
 (jA:σ.nl=true->b'.nl=true):iT w0 B (σ.nL (.qU id b')) a w' (L.set id O v (L.iD id)):=by
 have hl:=ht.later v (L.iD id);refine r.set id b' O v (L.iD id) w' (.qU id b') rfl ht hB (λp v0 qh=>?_) jA;have Az:∀ i j,(L.set id O v (L.iD id)).iD i j=L.iD i j:=λi j=>by
  by_cases e:i=id
  .subst e;exact Lk.rZ j
  .exact Lk.Ef e j
 cases p with
 |e x=>exact hl.kD qh
 |box i off=>
  obtain⟨k1,b,k2,k3⟩:=qh;have e:i≠id:=λe=>by subst e;exact hp _ k2
  exact⟨.inr k1,b,by rw[Lk.zD e];exact k2,k3⟩
 |own i=>
  by_cases e:i=id
  .subst e;simp only[PV.mW,cg,bw];exact .any _
  .simp only[PV.mW,cJ e,bB,bk];exact⟨.inr qh.1,by rw[Lk.zD e];exact qh.2⟩
 |mT i s x j=>
  by_cases e:i=id
  .subst e;simp only[PV.mW,cg,bw];exact .any _
  .simp only[PV.mW,cJ e,bB,bk];obtain⟨k1,b,n,c,k2,k3⟩:=qh;exact⟨.inr k1,b,n,c,by rw[Lk.zD e];exact k2,k3⟩
 |iD i k=>exact⟨.inr qh.1,by rw[Az];exact qh.2⟩
 |qC i s k x j=>obtain⟨k1,b,n,c,k2,k3⟩:=qh;exact⟨.inr k1,b,n,c,by rw[Az];exact k2,k3⟩
 |oW f cap=>
  cases pf:cap.any (CV.FV id)with
  |true=>simp only[PV.mW,pf,bw];exact .any _
  |false=>
   simp only[PV.mW,pf,bB,bk];obtain⟨vs,k1,k2,k3⟩:=qh;refine⟨vs,k1,k2,λi c x hc hx=>?_⟩;have hk:=k3 i c x hc hx;cases c with
   |e y=>exact hl.kD hk
   |box q=>
    obtain⟨q1,b,q2,q3⟩:=hk;have e:q≠id:=λe=>by subst e;exact hp _ q2
    exact⟨.inr q1,b,by rw[Lk.zD e];exact q2,q3⟩
   |row q=>
    obtain⟨q1,b,n,c,q2,q3⟩:=hk;have e:q≠id:=λe=>by
     have:=cW.1 pf (.row q) (dF hc);subst e;simp[CV.FV]at this
    exact⟨.inr q1,b,n,c,by rw[Lk.zD e];exact q2,q3⟩
def iT.uG{w0:World}{B:Nat->Prop}{σ:PS}{a:Act}{w:World}{L:Lk}(r:iT w0 B σ a w L)(id:Nat)(b':Bx)(O:Nat->Prop)(iD:Nat->Value)(w':World)
 (ht:rp L w id O w')
 (hB:qp (ja B (L.set id O (L.val id) iD)) (jx (L.set id O (L.val id) iD)) (L.set id O (L.val id) iD) w' id b')
 (jA:σ.nl=true->b'.nl=true):iT w0 B (σ.nL (.uG id b')) a w' (L.set id O (L.val id) iD):=by
 have hl:=ht.later (L.val id) iD;refine r.set id b' O (L.val id) iD w' (.uG id b') rfl ht hB (λp v0 qh=>?_) jA;have kE:∀ i,(L.set id O (L.val id) iD).val i=L.val i:=λi=>by
  by_cases e:i=id
  .subst e;exact Lk.po
  .exact Lk.zD e
 cases p with
 |e x=>exact hl.kD qh
 |box i off=>obtain⟨k1,b,k2,k3⟩:=qh;exact⟨.inr k1,b,by rw[kE];exact k2,k3⟩
 |own i=>exact⟨.inr qh.1,by rw[kE];exact qh.2⟩
 |mT i s x j=>obtain⟨k1,b,n,c,k2,k3⟩:=qh;exact⟨.inr k1,b,n,c,by rw[kE];exact k2,k3⟩
 |iD i k=>
  by_cases e:i=id
  .subst e;simp only[PV.mW,cg,bw];exact .any _
  .simp only[PV.mW,cJ e,bB,bk];exact⟨.inr qh.1,by rw[Lk.Ef e];exact qh.2⟩
 |qC i s k x j=>
  by_cases e:i=id
  .subst e;simp only[PV.mW,cg,bw];exact .any _
  .simp only[PV.mW,cJ e,bB,bk];obtain⟨k1,b,n,c,k2,k3⟩:=qh;exact⟨.inr k1,b,n,c,by rw[Lk.Ef e];exact k2,k3⟩
 |oW f cap=>
  obtain⟨vs,k1,k2,k3⟩:=qh;refine⟨vs,k1,k2,λi c x hc hx=>(k3 i c x hc hx).later hl λj hj=>⟨.inr hj,kE j⟩⟩
structure KS(w:World)(v:Value)(T:TypeId)(n sz m:Nat)(f g:Nat->Nat->Value)(nl:Bool)(v':Value)(w':World):Prop where
 own:nG w' v' T (n+m) sz (λi j=>if i<n then f i j else g (i-n) j) nl
 EJ:∀ x,v'.ownBlock=some x->v.ownBlock=some x\/(w.heap.size<=x/\x<w'.heap.size)
 size:w.heap.size<=w'.heap.size
 oH:∀ x,x<w.heap.size->v.ownBlock≠some x->w'.heap[x]? = w.heap[x]?
 os:w'.os=w.os
 tape:w'.tape=w.tape
 output:w'.output=w.output
def om(n sz:Nat)(f:Nat->Nat->Value):List Value:=(List.range (n*sz)).map λq=>f (q/sz) (q%sz)
def vI(n sz:Nat)(f:Nat->Nat->Value):(om n sz f).length=n*sz:=by simp[om]
def L3{n sz:Nat}{f:Nat->Nat->Value}{i j:Nat}(hi:i<n)(hj:j<sz):(om n sz f)[i*sz+j]? = some (f i j):=by
 have h1:i*sz+j<n*sz:=by
  have:=bK sz (show i+1<=n from hi);rw[bR,bU]at this;omega
 have h2:(i*sz+j)/sz=i:=by rw[bD,amN aC,cO hj,bS]
 have h3:(i*sz+j)%sz=j:=by rw[bD,fG,bX hj]
 simp[om,h1,h2,h3]
def IK{n sz:Nat}{f:Nat->Nat->Value}{q:Nat}{u:Value}(h:(om n sz f)[q]? = some u):q/sz<n/\q%sz<sz/\u=f (q/sz) (q%sz)/\q/sz*sz+q%sz=q:=by
 unfold om at h;rw[cr]at h;obtain⟨x,hx,rfl⟩:=cH.1 h;obtain⟨h1,h2⟩:=bY.1 hx;simp at h1 h2;subst h2;have hz:0<sz:=by
  rcases dZ sz with h0|h0
  .subst h0;simp at h1
  .exact h0
 exact⟨(ct hz).2 h1,bE _ hz,rfl,by rw[bD];exact cB q sz⟩
def nG.row{w:World}{v:Value}{T:TypeId}{n sz:Nat}{f:Nat->Nat->Value}{nl:Bool}(h:nG w v T n sz f nl):w.ownsRow 0 T sz v n (om n sz f):=by
 rcases h with⟨rfl,rfl⟩|⟨b,c,cur,rfl,hg,oF,nM,mR,ki,_⟩
 .exact ⟨vI _ _ _,.inl ⟨rfl,rfl⟩⟩
 .refine ⟨vI _ _ _,.inr ⟨b,c,cur,rfl,bV _,hg,oF,nM,mR,?_⟩⟩;apply fH;intro q;by_cases hq:q<n*sz
  .have hz:0<sz:=by
    rcases dZ sz with h0|h0
    .subst h0;simp at hq
    .exact h0
   have h1:q/sz<n:=(ct hz).2 hq;have h2:=bE q hz;have h3:q/sz*sz+q%sz=q:=by rw[bD];exact cB q sz
   have h4:=(ki _ _ h1 h2).1;have h5:=L3 (f:=f) h1 h2;rw[h3]at h4 h5;rw[dW,aZ hq,h5];simpa using h4
  .rw [dW,aY hq,b7 (by rw[vI];omega)]
def Xy(P:Program)(w:World)(t ty e:TypeId)(i:TypeInfo)(z:Value)(sz:Nat)(ht:P.underlying t=some (.slice e))(hi:P.info? e=some i)(hz:i.zero=some z)
 (tg:i.size=sz) (UL:z.cells.size=sz) (my:0<sz) (ji:1<=i.bytes) (amH:∀ u,u ∈ z.cells->u.oneCell'=true)
 (v:Value) (n:Nat) (f:Nat->Nat->Value) (nl:Bool) (lr:nG w v e n sz f nl)
 (A:Option Addr) (m c:Nat) (g:Nat->Nat->Value) (hA:∀ k j,k<m->j<sz->∃ b o,A=some ⟨b,o,none⟩/\w.cell? ⟨b,o+(k*sz+j),none⟩=some (g k j)) (uH:A=none->m=0)
 (h1:∀ k j,k<m->j<sz->(g k j).oneCell'=true/\(nl=true->qk (g k j)=false)) (UK:nl=true->∀ u,u ∈ z.cells->qk u=false)
 (I2:(n+m)*i.bytes<=140737488355328):
 ∃ v' w',(Builtin.append_ #[t,t] ty #[v,.slice A m c]).run P w = .ok v' w'/\KS w v e n sz m f g nl v' w':=by
 have hle:n+m<=(n+m)*i.bytes:=fZ _ ji;have Me:n+m<=maxLen:=by unfold maxLen;omega
 have xL:∀ i j,i<n+m->j<sz->(om n sz f++om m sz g)[i*sz+j]? = some (if i<n then f i j else g (i-n) j):=by
  intro i j hi hj;by_cases lg:i<n
  .rw [aZ lg,dw,L3 lg hj];rw[vI];have:=bK sz (show i+1<=n from lg);rw[bR,bU]at this;omega
  .rw [aY lg,fI,vI]
   .have:i*sz+j-n*sz=(i-n)*sz+j:=by
     have:=Nat.sub_mul i n sz;have:=bK sz (aC:n<=i);omega
    rw[this,L3 aC hj]
   .rw [vI];have:=bK sz (aC:n<=i);omega
 have B0:∀ i j,i<n+m->j<sz->(if i<n then f i j else g (i-n) j).oneCell'=true:=by
  intro i j hi hj;split
  .rename_i lg;rcases lr with⟨_,h0⟩|⟨b,c,cur,_,_,_,_,_,hc,_⟩
   .omega
   .exact (hc i j lg hj).2
  .rename_i lg;exact(h1 (i-n) j aC hj).1
 have h1':∀ u ∈ om m sz g,u.oneCell'=true:=by
  intro u hu;obtain⟨q,hq⟩:=dq.1 hu;obtain⟨q1,q2,rfl,_⟩:=IK hq;exact(h1 _ _ q1 q2).1
 have gnl:nl=true->∀ u,u ∈ om m sz g->qk u=false:=by
  intro hn u hu;obtain⟨q,hq⟩:=dq.1 hu;obtain⟨q1,q2,rfl,_⟩:=IK hq;exact(h1 _ _ q1 q2).2 hn
 rcases A with _|ad
 .have hm:=uH rfl;subst hm;rcases lr with⟨rfl,rfl⟩|⟨b,cc,cur,rfl,hg,oF,nM,mR,ki,jA⟩
  .refine ⟨.slice none 0 0,w,?_,.inl ⟨rfl,rfl⟩,λx hx=>.inl hx,bc _,λ_ _ _=>rfl,rfl,rfl,rfl⟩;simp[Builtin.append_,run_underlying ht,sizeOf,typeInfo,hi,Builtin.lenOf,Builtin.firstCells,loadCells,loadCellsFrom]
  .refine ⟨.slice (some ⟨b,0,none⟩) n cc,w,?_,.inr ⟨b,cc,cur,rfl,hg,oF,nM,mR,?_,jA⟩,λx hx=>.inl hx,bc _,λ_ _ _=>rfl,rfl,rfl,rfl⟩
   .simp [Builtin.append_,run_underlying ht,sizeOf,typeInfo,hi,Builtin.lenOf,Builtin.firstCells,oF,storeCells]
   .intro i j hi hj;have lg:i<n:= aC ;simp only[lg,bw];exact ki i j lg hj
 .have MX:∀ j u,(om m sz g)[j]? = some u->w.cell? (ad.add j)=some u:=by
   intro q u hq;obtain⟨q1,q2,rfl,q4⟩:=IK hq;obtain⟨b,o,e,hc⟩:=hA _ _ q1 q2;cases e;rw[q4]at hc;rw[show(⟨b,o,none⟩:Addr).add q=⟨b,o+q,none⟩from Addr.add_lit _ _ _];exact hc
  rcases lr with⟨rfl,rfl⟩|⟨b,cc,cur,rfl,hg,oF,nM,mR,ki,jA⟩
  .by_cases hm:m=0
   .subst hm;refine⟨.slice none 0 0,w,?_,.inl ⟨rfl,rfl⟩,λx hx=>.inl hx,bc _,λ_ _ _=>rfl,rfl,rfl,rfl⟩;simp[Builtin.append_,run_underlying ht,sizeOf,typeInfo,hi,Builtin.lenOf,Builtin.firstCells,loadCells,loadCellsFrom]
   .have hr:=run_append_nil (P:=P) w t ty e i z ht hi hz ad m c (om m sz g) (by rw[vI,tg]) MX aC (by unfold maxLen at Me;omega) (by have hb:=I2;simp only[bZ]at hb;omega);have qX:=grownCap_ge w m 0 e;have nM:grownCap w m 0 e<=maxLen:=grownCap_le_maxLen w m 0 e aC;refine⟨_,_,hr,.inr ⟨w.heap.size,_,_,aH,heap_alloc_new w.drew _,aC,nM,?_,?_,?_⟩,λx hx=>.inr ?_,aH,λx hx _=>Below.heap_alloc w.drew _ x hx,rfl,rfl,rfl⟩
    .simp only[amO,fJ,size_zeroCells,UL,vI,<-bR];congr 1;omega
    .intro i j hi hj;have:=xL i j hi hj;refine⟨?_,B0 i j hi hj⟩;simp only[om,cD,List.range_zero,List.map_nil,List.nil_append]at this;rw[<-this,anb]
     .simp [om]
     .obtain ⟨q,_⟩:=bY.1 this;simpa[om]using q
    .intro hn u hu;rcases eU.1 hu with hu|hu
     .exact gnl hn u (by simpa using hu)
     .simp only[Builtin.zeroCells,fK,fL]at hu;obtain⟨q,hq,rfl⟩:=hu;have im:q%z.cells.size<z.cells.size:=bE _ aC;rw[eV z.cells _ im];exact UK hn _ (gh im)
    .simp [Value.ownBlock]at hx;subst hx;simp
  .by_cases M1:n+m<=cc
   .have Av:(om m sz g).length=m*i.size:=by rw[vI,tg]
    have qW:n*i.size+(om m sz g).length<=cur.size:=by rw[Av,mR,tg,<-bR];exact bK _ M1
    have hr:=run_append_room (P:=P) w t ty e i ht hi b n cc cur hg ad m c (om m sz g) Av MX h1' M1 qW;have FL:cur.toList.take (n*i.size)=om n sz f:=by
     have M3:w.ownsRow 0 e sz (.slice (some ⟨b,0,none⟩) n cc) n (om n sz f):=nG.row (nl:=nl) (.inr ⟨b,cc,cur,rfl,hg,oF,nM,mR,ki,jA⟩);rcases M3.2 with⟨hh,_⟩|⟨b',c',cur',hh,_,TW,_,_,_,DI⟩
     .cases hh
     .cases hh;rw[hg]at TW;cases TW;rw[tg];exact DI
    refine⟨_,_,hr,.inr ⟨b,cc,_,rfl,setRow_heap w b cur _ e _ hg,M1,nM,?_,?_,?_⟩,λx hx=>.inl hx,aH,λx hx jh=>setRow_other w b x _ (λq=>jh (by simp[Value.ownBlock,q])),rfl,rfl,rfl⟩
    .simp only[fJ,cA,b8,eC,dr];omega
    .intro k j hk hj;refine⟨?_,B0 k j hk hj⟩;rw[FL,<-xL k j hk hj];have hq:k*sz+j<(om n sz f++om m sz g).length:=by
      obtain⟨q,_⟩:=bY.1 (xL k j hk hj);exact q
     rw[gj,dw hq]
    .intro hn u hu;simp only[gl,dB]at hu;rcases hu with(hu|hu)|hu
     .exact jA hn u (by have:=ep hu;simpa using this)
     .exact gnl hn u hu
     .exact jA hn u (by have:=eK hu;simpa using this)
   .have M3:w.ownsRow 0 e sz (.slice (some ⟨b,0,none⟩) n cc) n (om n sz f):=nG.row (nl:=nl) (.inr ⟨b,cc,cur,rfl,hg,oF,nM,mR,ki,jA⟩);have holds:∀ j u,(om n sz f)[j]? = some u->w.cell? ((⟨b,0,none⟩:Addr).add j)=some u:=M3.cells (g:=b) rfl;have hr:=run_append_grow (P:=P) w t ty e i z ht hi hz ⟨b,0,none⟩ n cc (om n sz f) (by rw[vI,tg]) holds ad m c (om m sz g) (by rw[vI,tg]) MX aC (by unfold maxLen at Me;omega) (growslice_fits aC I2);have qX:=grownCap_ge w (n+m) cc e;have afg:grownCap w (n+m) cc e<=maxLen:=grownCap_le_maxLen w (n+m) cc e Me;refine⟨_,_,hr,.inr ⟨w.heap.size,_,_,aH,heap_alloc_new w.drew _,aC,afg,?_,?_,?_⟩,λx hx=>.inr ?_,aH,λx hx _=>Below.heap_alloc w.drew _ x hx,rfl,rfl,rfl⟩
    .simp only[amO,fJ,size_zeroCells,UL,vI,<-bR];congr 1;omega
    .intro k j hk hj;refine⟨?_,B0 k j hk hj⟩;rw[<-xL k j hk hj];have hq:k*sz+j<(om n sz f++om m sz g).length:=by
      obtain⟨q,_⟩:=bY.1 (xL k j hk hj);exact q
     rw[anb (by simpa using hq)];simp
    .intro hn u hu;rcases eU.1 hu with hu|hu
     .rcases eU.1 hu with hu|hu
      .obtain ⟨q,hq⟩:=dq.1 (show u ∈ om n sz f by simpa using hu);obtain⟨q1,q2,rfl,_⟩:=IK hq;exact jA hn _ (dH (ki _ _ q1 q2).1)
      .exact gnl hn u (by simpa using hu)
     .simp only[Builtin.zeroCells,fK,fL]at hu;obtain⟨q,hq,rfl⟩:=hu;have im:q%z.cells.size<z.cells.size:=bE _ aC;rw[eV z.cells _ im];exact UK hn _ (gh im)
    .simp [Value.ownBlock]at hx;subst hx;simp
def mY.move{B:Nat->Prop}{L L':Lk}{w w':World}(h:rL L w L' w'){p:PV}{v:Value}(k:mY (ja B L) (jx L) L w p v)
 (hv:∀ id,id ∈ p.lI->L.mj id->L'.mj id/\L'.val id=L.val id/\∀ j,L'.iD id j=L.iD id j):mY (ja B L') (jx L') L' w' p v:=by
 cases p with
 |e x=>exact h.kD k
 |box id off=>obtain⟨k1,b,k2,k3⟩:=k;have q:=hv id (by simp[PV.lI]) k1;exact⟨q.1,b,by rw[q.2.1];exact k2,k3⟩
 |own id=>obtain⟨k1,k2⟩:=k;have q:=hv id (by simp[PV.lI]) k1;exact⟨q.1,by rw[q.2.1];exact k2⟩
 |mT id sz i j=>obtain⟨k1,b,n,c,k2,k3⟩:=k;have q:=hv id (by simp[PV.lI]) k1;exact⟨q.1,b,n,c,by rw[q.2.1];exact k2,k3⟩
 |iD id r=>obtain⟨k1,k2⟩:=k;have q:=hv id (by simp[PV.lI]) k1;exact⟨q.1,by rw[q.2.2];exact k2⟩
 |qC id sz r i j=>obtain⟨k1,b,n,c,k2,k3⟩:=k;have q:=hv id (by simp[PV.lI]) k1;exact⟨q.1,b,n,c,by rw[q.2.2];exact k2,k3⟩
 |oW f cap=>
  obtain⟨vs,k1,k2,k3⟩:=k;refine⟨vs,k1,k2,λi c x hc hx=>?_⟩;have q:=k3 i c x hc hx;cases c with
  |e y=>exact h.kD q
  |box id=>
   obtain⟨q1,b,q2,q3⟩:=q;have r:=hv id (by simp only[PV.lI,dG];exact⟨.box id,dF hc,by simp[CV.lI]⟩) q1;exact⟨r.1,b,by rw[r.2.1];exact q2,q3⟩
  |row id=>
   obtain⟨q1,b,n,c,q2,q3⟩:=q;have r:=hv id (by simp only[PV.lI,dG];exact⟨.row id,dF hc,by simp[CV.lI]⟩) q1;exact⟨r.1,b,n,c,by rw[r.2.1];exact q2,q3⟩
def alJ{id:Nat}{b:Bx}{p:PV}(h:p.lI.any (Nat.beq id)=false):p.mW (.qU id b)=p:=by
 cases p with
 |own i=>
  have:Nat.beq i id=false:=by
   simp only[PV.lI,ef,fM,eW]at h;exact cJ λe=>by rw[e,cg]at h;cases h
  simp[PV.mW,this]
 |mT i s x j=>
  have:Nat.beq i id=false:=by
   simp only[PV.lI,ef,fM,eW]at h;exact cJ λe=>by rw[e,cg]at h;cases h
  simp[PV.mW,this]
 |oW f cap=>
  have:cap.any (CV.FV id)=false:=by
   rw[cW];intro c hc hr;cases c with
   |row i=>
    have hi:i=id:=kK.1 hr;have:=cW.1 h i (by simp only[PV.lI,dG];exact⟨.row i,hc,by simp[CV.lI]⟩);rw[hi,cg]at this;exact this rfl
   |_=>cases hr
  simp[PV.mW,this]
 |_=>rfl
def iT.fin{w0:World}{B:Nat->Prop}{σ:PS}{a:Act}{w:World}{L:Lk}{id:Nat}{nl:Bool}{T n sz:Nat}{el:Nat->Nat->E}(hB:∀ b,B b->b<w0.heap.size)
 (r:iT w0 B (σ.nL (.qU id (.row nl T n sz el))) a w L):∃ L',iT w0 B (σ.nL (.fin id)) a w L'/\ix (ja B L') (jx L') w (.sl nl n sz el) (L.val id):=by
 let L':Lk:=⟨λi=>L.mj i/\i≠id,λi x=>L.own i x/\i≠id,L.val,L.iD⟩
 have im:rL L w L' w:=⟨bc _,λx _ ⟨i,h,_⟩=>⟨i,h⟩,λ_ _ _=>rfl⟩
 have sC:∀ i,(σ.nL (.fin id)).bo i=if i=id then none else(σ.nL (.qU id (.row nl T n sz el))).bo i:=by
  intro i;show look (σ.b.filter λx=>!Nat.beq x.1 id) i=if i=id then none else look (tE σ.b id (.row nl T n sz el)) i
  rw[Cq,Cr];by_cases h:i=id
  .subst h;simp
  .rw [aY h,aY (λe=>h e.symm),aY (λe=>h e.symm)]
 have afd:(σ.nL (.qU id (.row nl T n sz el))).bo id=some (.row nl T n sz el):=by
  show look (tE σ.b id (.row nl T n sz el)) id=_;rw[Cr,aZ rfl]
 have Ao:∀ x,L.own id x->¬ja B L' x:=by
  rintro x hx (h|⟨i,h1,h2⟩)
  .have:=hB x h;have:=(r.hw id x hx).1;omega
  .exact h2 (r.hi i id x h1 hx)
 have hold:ix (ja B L') (jx L') w (.sl nl n sz el) (L.val id):=by
  obtain⟨f,h1,h2,h3⟩:=r.hb id _ afd;rcases h1 with⟨h0,rfl⟩|⟨b,c,cur,h0,hg,oF,nM,mR,ki,jA⟩
  .rw [h0];exact .sl nl 0 sz el none 0 f (bc _) aE (λ_=>rfl) (λi j hi=>absurd hi (bn i)) (λi j hi=>absurd hi (bn i)) (λi j hi=>absurd hi (bn i)) (λi j hi=>absurd hi (bn i))
  .have sE:=(h2 b).2 (by rw[h0];rfl);rw[h0];refine .sl nl n sz el _ c f oF (by unfold maxLen at nM;omega) (λh=>by cases h) (λi j hi hj=>⟨(ki i j hi hj).2,λhn=>jA hn _ (dH (ki i j hi hj).1)⟩) (λi j hi hj=>(h3 i j hi hj).2)
    (λi j hi hj=>⟨b,0,rfl,Ao b sE,(r.hw id b sE).2,?_⟩) (λi j hi hj=>im.kD (h3 i j hi hj).1)
   rw[bZ];simp only[World.cell?,hg];simpa using(ki i j hi hj).1
 refine⟨L',⟨r.hd,r.hs,λt=>?_,λi b' h=>?_,λi=>?_,λi x h=>⟨r.hn i x h.1,h.2⟩,λi x h=>r.hw i x h.1,λi i' x h k=>r.hi i i' x h.1 k.1,r.he,λh i b' k=>?_⟩,hold⟩
 .have k:=r.ht t;rw[PS.BJ]at k ⊢;generalize σ.get t=p at k ⊢;show mY _ _ _ _ (if p.lI.any (Nat.beq id)then .e .any else p) _;cases hp:p.lI.any (Nat.beq id)with
  |true=>exact .any _
  |false=>
   rw[alJ hp]at k;refine mY.move im k λi hi sc=>⟨⟨sc,?_⟩,rfl,λ_=>rfl⟩
   rintro rfl;have:=cW.1 hp i hi;simp at this
 .rw [sC]at h;split at h
  .cases h
  .rename_i hi;exact(r.hb i b' h).later im rfl (λx=>⟨λq=>q.1,λq=>⟨q,hi⟩⟩) (λ_=>rfl) λ_ _=>rfl
 .rw [sC];show L.mj i/\i≠id↔_;by_cases hi:i=id
  .subst hi;simp
  .simp only[hi,cT,eh,eX,bk];exact r.hv i
 .rw [sC]at k;split at k
  .cases k
  .exact r.hl h i b' k
def YZ{id q:Nat}{b:Bx}{p:PV}(h:p.lI.any (λx=>Nat.beq id x||Nat.beq q x)=false):p.mW (.ri id q b)=p:=by
 cases p with
 |box i off=>
  simp only[PV.lI,ef,fM,eW,eD]at h;have h1:Nat.beq i id=false:=cJ λe=>by rw[e,cg]at h;cases h.1
  have h2:Nat.beq i q=false:=cJ λe=>by rw[e,cg]at h;cases h.2
  simp[PV.mW,h1,h2]
 |e x=>simp[PV.mW,PV.lI]
 |own i=>show(if(PV.lI (.own i)).any _=true then _ else _)=_;rw[h];rfl
 |mT i a b c=>show(if(PV.lI (.mT i a b c)).any _=true then _ else _)=_;rw[h];rfl
 |iD i k=>show(if(PV.lI (.iD i k)).any _=true then _ else _)=_;rw[h];rfl
 |qC i s k x j=>show(if(PV.lI (.qC i s k x j)).any _=true then _ else _)=_;rw[h];rfl
 |oW f cap=>show(if(PV.lI (.oW f cap)).any _=true then _ else _)=_;rw[h];rfl
def YY{id q:Nat}{b:Bx}{p:PV}(h:p.lI.any (λx=>Nat.beq id x||Nat.beq q x)=true)(hb:∀ i off,p ≠ .box i off):p.mW (.ri id q b) = .e .any:=by
 cases p with
 |box i off=>exact absurd rfl (hb i off)
 |e x=>simp[PV.lI]at h
 |own i=>show(if(PV.lI (.own i)).any _=true then _ else _)=_;rw[h];rfl
 |mT i a b c=>show(if(PV.lI (.mT i a b c)).any _=true then _ else _)=_;rw[h];rfl
 |iD i k=>show(if(PV.lI (.iD i k)).any _=true then _ else _)=_;rw[h];rfl
 |qC i s k x j=>show(if(PV.lI (.qC i s k x j)).any _=true then _ else _)=_;rw[h];rfl
 |oW f cap=>show(if(PV.lI (.oW f cap)).any _=true then _ else _)=_;rw[h];rfl
def iT.ri{w0:World}{B:Nat->Prop}{σ:PS}{a:Act}{w:World}{L:Lk}(r:iT w0 B σ a w L){id q T1 T0 n sz:Nat}{nl:Bool}{el:Nat->Nat->E}{x:E}
 (hid:σ.bo id=some (.cells T1 [x])) (hq:σ.bo q=some (.row nl T0 n sz el)) (jh:id≠q) {b:Nat} (hv:L.val id = .pointer (some ⟨b,0,none⟩)) {w':World} (hw:w'.heap[b]? = some (.cells #[L.val q] T1 (0,0)))
 (ht:rp L w id (L.own id) w'):∃ L',iT w0 B (σ.nL (.ri id q (.jC nl T1 T0 1 sz (λ_=>n) (λ_=>el) none))) a w' L':=by
 let L':Lk:=⟨λi=>L.mj i/\i≠q,λi y=>if i=id then L.own id y\/L.own q y else L.own i y/\i≠q,λi=>if i=id then .slice (some ⟨b,0,none⟩) 1 1 else L.val i,λi j=>if i=id then L.val q else L.iD i j⟩
 have afq:∀ y,jx L' y->jx L y:=by
  rintro y ⟨i,hi⟩;by_cases e:i=id
  .have hi:L.own id y\/L.own q y:=by simpa[L',e]using hi
   rcases hi with h|h
   .exact ⟨id,h⟩
   .exact ⟨q,h⟩
  .have hi:L.own i y/\i≠q:=by simpa[L',e]using hi
   exact⟨i,hi.1⟩
 have amv:∀ y,jx L y->jx L' y:=by
  rintro y ⟨i,hi⟩;by_cases e:i=id\/i=q
  .refine ⟨id,?_⟩;show if id=id then L.own id y\/L.own q y else _
   rw[aZ rfl];rcases e with e|e<;>subst e
   .exact .inl hi
   .exact .inr hi
  .have e1:i≠id:=λh=>e (.inl h)
   have e2:i≠q:=λh=>e (.inr h)
   refine⟨i,?_⟩;show if i=id then _ else L.own i y/\i≠q
   rw[aY e1];exact⟨hi,e2⟩
 have im:rL L w L' w':=⟨ht.size,λy _ h=>afq y h,λy hy hm=>ht.oH y hy λho=>hm ⟨id,ho⟩⟩
 have kE:∀ i,i≠id->L'.val i=L.val i:=λi e=>by show(if i=id then _ else _)=_;rw[aY e]
 have Az:∀ i,i≠id->∀ j,L'.iD i j=L.iD i j:=λi e j=>by show(if i=id then _ else _)=_;rw[aY e]
 have lr:∀ i,i≠id->∀ y,L'.own i y↔L.own i y/\i≠q:=λi e y=>by show(if i=id then _ else _)↔_;rw[aY e]
 have yR:∀ y,L'.own id y↔L.own id y\/L.own q y:=λy=>by show(if id=id then _ else _)↔_;rw[aZ rfl]
 obtain⟨b0,vs,i1,i2,i3,i4,i5⟩:=r.hb id _ hid;rw[hv]at i1;cases i1;obtain⟨f,q1,q2,q3⟩:=r.hb q _ hq;have sc:L.mj id:=(r.hv id).2 (by rw[hid];rfl);have Jn:∀ i y,i≠id->L.own i y->w'.heap[y]? = w.heap[y]?:=λi y e hy=>ht.oH y (r.hw i y hy).2 λho=>e (r.hi i id y hy ho)
 have jf:∀ i,(σ.nL (.ri id q (.jC nl T1 T0 1 sz (λ_=>n) (λ_=>el) none))).bo i=if id=i then some (.jC nl T1 T0 1 sz (λ_=>n) (λ_=>el) none)else if i=q then none else σ.bo i:=by
  intro i;show look (tE (σ.b.filter λy=>!Nat.beq y.1 q) id _) i=_;rw[Cr];by_cases e:id=i
  .rw [aZ e,aZ e]
  .rw [aY e,aY e,Cq];by_cases e2:q=i
   .rw [aZ e2,aZ e2.symm]
   .rw [aY e2,aY λh=>e2 h.symm];rfl
 have Aq:Below w0.heap.size w w':=⟨ht.os,ht.tape,ht.output,ht.size,λy hy=>ht.oH y (bJ hy r.he.size) λho=>by have:=(r.hw id y ho).1;omega⟩
 have ki:(L.val q).oneCell'=true/\qk (L.val q)=false:=by
  rcases q1 with⟨h,_⟩|⟨b1,c1,cur,h,_⟩<;>rw[h]<;>exact⟨rfl,rfl⟩
 refine⟨L',r.hd,r.hs,λt=>?_,λi b' hb=>?_,λi=>?_,λi y hy=>?_,λi y hy=>?_,λi j y hi hj=>?_,r.he.trans Aq,λxM i b' hb=>?_⟩
 .rw [PS.BJ];have k:=r.ht t;generalize σ.get t=p at k ⊢;cases hp:p.lI.any (λy=>Nat.beq id y||Nat.beq q y)with
  |false=>
   rw[YZ hp];refine k.move im λi hi hl=>?_
   have:=cW.1 hp i hi;simp only[dx,not_or]at this;have e1:i≠id:=λe=>this.1 (by rw[e];exact cg _)
   have e2:i≠q:=λe=>this.2 (by rw[e];exact cg _)
   exact⟨⟨hl,e2⟩,kE i e1,Az i e1⟩
  |true=>
   by_cases iW:∃ i off,p = .box i off
   .obtain ⟨i,off,rfl⟩:=iW;obtain⟨k1,b1,k2,k3⟩:=k;by_cases e1:i=id
    .subst e1;by_cases e0:off=0
     .subst e0;simp only[PV.mW,cg,bw];rw[hv]at k2;cases k2;exact⟨⟨k1,jh⟩,b,1,1,by show(if i=i then _ else _)=_;rw[aZ rfl],k3⟩
     .simp only[PV.mW,cg,bw,cJ e0,bB,bk];exact .any _
    .have e2:i=q:=by
      simp only[PV.lI,ef,fM,eW,dx]at hp;rcases hp with hp|hp
      .exact absurd (kK.1 hp).symm e1
      .exact (kK.1 hp).symm
     simp only[PV.mW,cJ e1,bB,bk,e2,cg,bw];have e3:Nat.beq q id=false:=cJ λh=>jh h.symm
     simp only[e3,bB,bk];exact .any _
   .rw [YY hp λi off h=>iW ⟨i,off,h⟩];exact .any _
 .rw [jf]at hb;by_cases e:id=i
  .subst e;rw[aZ rfl]at hb;cases hb;have Fw:∀ j,L'.iD id j=L.val q:=λj=>by show(if id=id then _ else _)=_;rw[aZ rfl]
   refine .inr ⟨b,1,#[L.val q],λ_=>f,by show(if id=id then _ else _)=_;rw[aZ rfl],hw,bc _,aE,rfl,λk hk _=>?_,λu hu=>?_,λk hk=>?_,λy=>?_,λk k' y hk Fy _ _=> aC,λk hk=>?_⟩
   .obtain rfl:k=0:= aC ;rw[Fw];rfl
   .have:u=L.val q:=by simpa using hu
    rw[this];exact ki.2
   .rw [Fw];exact⟨q1.block λy hy=>Jn q y (λh=>jh h.symm) ((q2 y).2 hy),λi j hi hj=>⟨im.kD (q3 i j hi hj).1,(q3 i j hi hj).2⟩⟩
   .rw [yR];constructor
    .rintro (h|h)
     .exact .inl ((i2 y).1 h)
     .exact .inr ⟨0,aE,by rw[Fw];exact(q2 y).1 h⟩
    .rintro (h|⟨k,_,h⟩)
     .exact .inl ((i2 y).2 h)
     .rw [Fw]at h;exact .inr ((q2 y).2 h)
   .rw [Fw];intro h;exact jh (r.hi id q b ((i2 b).2 rfl) ((q2 b).2 h))
  .rw [aY e]at hb;by_cases e2:i=q
   .rw [aZ e2]at hb;cases hb
   .rw [aY e2]at hb;have e':i≠id:=λh=>e h.symm
    exact(r.hb i b' hb).later im (kE i e') (λy=>(lr i e' y).trans ⟨λh=>h.1,λh=>⟨h,e2⟩⟩) (Az i e') λy hy=>Jn i y e' hy
 .rw [jf];show L.mj i/\i≠q↔_;by_cases e:id=i
  .subst e;rw[aZ rfl];exact⟨λ_=>rfl,λ_=>⟨sc,jh⟩⟩
  .rw [aY e];by_cases e2:i=q
   .subst e2;simp
   .rw [aY e2];exact⟨λh=>(r.hv i).1 h.1,λh=>⟨(r.hv i).2 h,e2⟩⟩
 .by_cases e:i=id
  .subst e;exact⟨sc,jh⟩
  .have:=(lr i e y).1 hy;exact⟨r.hn i y this.1,this.2⟩
 .by_cases e:i=id
  .subst e;rcases(yR y).1 hy with h|h
   .exact ⟨(r.hw _ y h).1,bJ (r.hw _ y h).2 ht.size⟩
   .exact ⟨(r.hw _ y h).1,bJ (r.hw _ y h).2 ht.size⟩
  .have h:=((lr i e y).1 hy).1;exact⟨(r.hw _ y h).1,bJ (r.hw _ y h).2 ht.size⟩
 .by_cases e1:i=id
  .by_cases e2:j=id
   .rw [e1,e2]
   .exfalso;subst e1;have h2:=(lr j e2 y).1 hj;rcases(yR y).1 hi with h|h
    .exact e2 (r.hi j _ y h2.1 h)
    .exact h2.2 (r.hi j q y h2.1 h)
  .by_cases e2:j=id
   .exfalso;subst e2;have h1:=(lr i e1 y).1 hi;rcases(yR y).1 hj with h|h
    .exact e1 (r.hi i _ y h1.1 h)
    .exact h1.2 (r.hi i q y h1.1 h)
   .exact r.hi i j y ((lr i e1 y).1 hi).1 ((lr j e2 y).1 hj).1
 .rw [jf]at hb;by_cases e:id=i
  .rw [aZ e]at hb;cases hb;show nl=true;exact r.hl xM q (.row nl T0 n sz el) hq
  .rw [aY e]at hb;by_cases e2:i=q
   .rw [aZ e2]at hb;cases hb
   .rw [aY e2]at hb;exact r.hl xM i b' hb
def Lk.qD(L:Lk)(id q:Nat)(O:Nat->Prop)(v:Value)(iD:Nat->Value):Lk:=
 {mj:=λi=>(i=id\/L.mj i)/\i≠q
  own:=λi x=>if i=id then O x else L.own i x/\i≠q
  val:=λi=>if i=id then v else L.val i
  iD:=λi j=>if i=id then iD j else L.iD i j }
def iT.qD{w0:World}{B:Nat->Prop}{σ:PS}{a:Act}{w:World}{L:Lk}(r:iT w0 B σ a w L){id q:Nat}(jh:id≠q)(b':Bx)(O:Nat->Prop)(v:Value)(iD:Nat->Value)(w':World)
 (hO:∀ x,O x->(L.own id x\/L.own q x\/w.heap.size<=x)/\x<w'.heap.size) (my:w.heap.size<=w'.heap.size) (wP:∀ x,x<w.heap.size->¬L.own id x->w'.heap[x]? = w.heap[x]?)
 (B2:w'.os=w.os) (M6:w'.tape=w.tape) (py:w'.output=w.output)
 (hB:rL L w (L.qD id q O v iD) w'->qp (ja B (L.qD id q O v iD)) (jx (L.qD id q O v iD)) (L.qD id q O v iD) w' id b')
 (kr:L.mj id->∀ b,L.val id ≠ .pointer (some b)) (jA:σ.nl=true->b'.nl=true):iT w0 B (σ.nL (.ri id q b')) a w' (L.qD id q O v iD):=by
 have kE:∀ i,i≠id->(L.qD id q O v iD).val i=L.val i:=λi e=>by show(if i=id then _ else _)=_;rw[aY e]
 have Az:∀ i,i≠id->∀ j,(L.qD id q O v iD).iD i j=L.iD i j:=λi e j=>by show(if i=id then _ else _)=_;rw[aY e]
 have lr:∀ i,i≠id->∀ y,(L.qD id q O v iD).own i y↔L.own i y/\i≠q:=λi e y=>by show(if i=id then _ else _)↔_;rw[aY e]
 have yR:∀ y,(L.qD id q O v iD).own id y↔O y:=λy=>by show(if id=id then _ else _)↔_;rw[aZ rfl]
 have im:rL L w (L.qD id q O v iD) w':=by
  refine⟨my,λy hy h=>?_,λy hy hm=>wP y hy λho=>hm ⟨id,ho⟩⟩;obtain⟨i,hi⟩:=h;by_cases e:i=id
  .subst e;rcases(hO y ((yR y).1 hi)).1 with h|h|h
   .exact ⟨i,h⟩
   .exact ⟨q,h⟩
   .omega
  .exact ⟨i,((lr i e y).1 hi).1⟩
 have jf:∀ i,(σ.nL (.ri id q b')).bo i=if id=i then some b' else if i=q then none else σ.bo i:=by
  intro i;show look (tE (σ.b.filter λy=>!Nat.beq y.1 q) id _) i=_;rw[Cr];by_cases e:id=i
  .rw [aZ e,aZ e]
  .rw [aY e,aY e,Cq];by_cases e2:q=i
   .rw [aZ e2,aZ e2.symm]
   .rw [aY e2,aY λh=>e2 h.symm];rfl
 have Aq:Below w0.heap.size w w':=⟨B2,M6,py,my,λy hy=>wP y (bJ hy r.he.size) λho=>by have:=(r.hw id y ho).1;omega⟩
 have Jn:∀ i y,i≠id->L.own i y->w'.heap[y]? = w.heap[y]?:=λi y e hy=>wP y (r.hw i y hy).2 λho=>e (r.hi i id y hy ho)
 have hwl:∀ i y,L.own i y->w0.heap.size<=y/\y<w'.heap.size:=λi y h=>⟨(r.hw i y h).1,bJ (r.hw i y h).2 my⟩
 refine⟨r.hd,r.hs,λt=>?_,λi b hb=>?_,λi=>?_,λi y hy=>?_,λi y hy=>?_,λi j y hi hj=>?_,r.he.trans Aq,λxM i b hb=>?_⟩
 .rw [PS.BJ];have k:=r.ht t;generalize σ.get t=p at k ⊢;cases hp:p.lI.any (λy=>Nat.beq id y||Nat.beq q y)with
  |false=>
   rw[YZ hp];refine k.move im λi hi hl=>?_
   have:=cW.1 hp i hi;simp only[dx,not_or]at this;have e1:i≠id:=λe=>this.1 (by rw[e];exact cg _)
   have e2:i≠q:=λe=>this.2 (by rw[e];exact cg _)
   exact⟨⟨.inr hl,e2⟩,kE i e1,Az i e1⟩
  |true=>
   by_cases iW:∃ i off,p = .box i off
   .obtain ⟨i,off,rfl⟩:=iW;obtain⟨k1,b1,k2,k3⟩:=k;by_cases e1:i=id
    .subst e1;exact absurd k2 (kr k1 _)
    .have e2:i=q:=by
      simp only[PV.lI,ef,fM,eW,dx]at hp;rcases hp with hp|hp
      .exact absurd (kK.1 hp).symm e1
      .exact (kK.1 hp).symm
     have e3:Nat.beq q id=false:=cJ λh=>jh h.symm
     simp only[PV.mW,e2,e3,cg,bw,bB,bk];exact .any _
   .rw [YY hp λi off h=>iW ⟨i,off,h⟩];exact .any _
 .rw [jf]at hb;by_cases e:id=i
  .subst e;rw[aZ rfl]at hb;cases hb;exact hB im
  .rw [aY e]at hb;by_cases e2:i=q
   .rw [aZ e2]at hb;cases hb
   .rw [aY e2]at hb;have e':i≠id:=λh=>e h.symm
    exact(r.hb i b hb).later im (kE i e') (λy=>(lr i e' y).trans ⟨λh=>h.1,λh=>⟨h,e2⟩⟩) (Az i e') λy hy=>Jn i y e' hy
 .rw [jf];show(i=id\/L.mj i)/\i≠q↔_;by_cases e:id=i
  .subst e;rw[aZ rfl];exact⟨λ_=>rfl,λ_=>⟨.inl rfl,jh⟩⟩
  .rw [aY e];have e':i≠id:=λh=>e h.symm
   by_cases e2:i=q
   .subst e2;simp
   .rw [aY e2];exact⟨λh=>(r.hv i).1 (h.1.resolve_left e'),λh=>⟨.inr ((r.hv i).2 h),e2⟩⟩
 .by_cases e:i=id
  .subst e;exact⟨.inl rfl,jh⟩
  .have:=(lr i e y).1 hy;exact⟨.inr (r.hn i y this.1),this.2⟩
 .by_cases e:i=id
  .subst e;obtain⟨h,h2⟩:=hO y ((yR y).1 hy);rcases h with h|h|h
   .exact ⟨(r.hw _ y h).1,h2⟩
   .exact ⟨(r.hw _ y h).1,h2⟩
   .exact ⟨bg r.he.size h,h2⟩
  .exact hwl i y ((lr i e y).1 hy).1
 .have cross:∀ j,j≠id->L.own j y/\j≠q->O y->False:=by
   intro j e h2 h;rcases(hO y h).1 with h|h|h
   .exact e (r.hi j _ y h2.1 h)
   .exact h2.2 (r.hi j q y h2.1 h)
   .have:=(r.hw j y h2.1).2;omega
  by_cases e1:i=id
  .by_cases e2:j=id
   .rw [e1,e2]
   .subst e1;exact(cross j e2 ((lr j e2 y).1 hj) ((yR y).1 hi)).elim
  .by_cases e2:j=id
   .subst e2;exact(cross i e1 ((lr i e1 y).1 hi) ((yR y).1 hj)).elim
   .exact r.hi i j y ((lr i e1 y).1 hi).1 ((lr j e2 y).1 hj).1
 .rw [jf]at hb;by_cases e:id=i
  .rw [aZ e]at hb;cases hb;exact jA xM
  .rw [aY e]at hb;by_cases e2:i=q
   .rw [aZ e2]at hb;cases hb
   .rw [aY e2]at hb;exact r.hl xM i b hb
def Lk.Vm{L:Lk}{id q:Nat}{O:Nat->Prop}{v:Value}{iD:Nat->Value}(x:Nat):(L.qD id q O v iD).own id x↔O x:=by simp[Lk.qD]
def Lk.FY{L:Lk}{id q:Nat}{O:Nat->Prop}{v:Value}{iD:Nat->Value}:(L.qD id q O v iD).val id=v:=by simp[Lk.qD]
def Lk.xP{L:Lk}{id q:Nat}{O:Nat->Prop}{v:Value}{iD:Nat->Value}(k:Nat):(L.qD id q O v iD).iD id k=iD k:=by simp[Lk.qD]
def Lk.Ny{L:Lk}{id q:Nat}(jh:id≠q){O:Nat->Prop}{v:Value}{iD:Nat->Value}:(L.qD id q O v iD).mj id:=⟨.inl rfl,jh⟩
def iT.R0{w0:World}{B:Nat->Prop}{σ:PS}{a:Act}{w:World}{L:Lk}(r:iT w0 B σ a w L)(id:Nat):∃ L',iT w0 B (σ.nL (.fin id)) a w L'/\(∀ i x,L'.own i x->L.own i x)/\(σ.nL (.fin id)).bo id=none:=by
 let L':Lk:=⟨λi=>L.mj i/\i≠id,λi x=>L.own i x/\i≠id,L.val,L.iD⟩
 have im:rL L w L' w:=⟨bc _,λx _ ⟨i,h,_⟩=>⟨i,h⟩,λ_ _ _=>rfl⟩
 have sC:∀ i,(σ.nL (.fin id)).bo i=if i=id then none else σ.bo i:=by
  intro i;show look (σ.b.filter λx=>!Nat.beq x.1 id) i=_;rw[Cq];by_cases h:i=id
  .rw [aZ h,aZ h.symm]
  .rw [aY h,aY (λe=>h e.symm)];rfl
 refine⟨L',⟨r.hd,r.hs,λt=>?_,λi b' h=>?_,λi=>?_,λi x h=>⟨r.hn i x h.1,h.2⟩,λi x h=>r.hw i x h.1,λi i' x h k=>r.hi i i' x h.1 k.1,r.he,λh i b' k=>?_⟩,λi x h=>h.1,by rw[sC,aZ rfl]⟩
 .rw [PS.BJ];have k:=r.ht t;generalize σ.get t=p at k ⊢;show mY _ _ _ _ (if p.lI.any (Nat.beq id)then .e .any else p) _;cases hp:p.lI.any (Nat.beq id)with
  |true=>exact .any _
  |false=>
   refine mY.move im k λi hi sc=>⟨⟨sc,?_⟩,rfl,λ_=>rfl⟩
   rintro rfl;have:=cW.1 hp i hi;simp at this
 .rw [sC]at h;split at h
  .cases h
  .rename_i hi;exact(r.hb i b' h).later im rfl (λx=>⟨λq=>q.1,λq=>⟨q,hi⟩⟩) (λ_=>rfl) λ_ _=>rfl
 .rw [sC];show L.mj i/\i≠id↔_;by_cases hi:i=id
  .subst hi;simp
  .simp only[hi,cT,eh,eX,bk];exact r.hv i
 .rw [sC]at k;split at k
  .cases k
  .exact r.hl h i b' k
def Sb(σ:PS)(id:Nat)(b:Bx):(σ.nL (.fin id)).nL (.new id b)=σ.nL (.A8 id b):=by
 have h:tE (σ.b.filter λx=>!Nat.beq x.1 id) id b=tE σ.b id b:=by
  unfold tE;rw[List.filter_filter];congr 2;funext x;cases Nat.beq x.1 id<;>rfl
 show PS.mk σ.n σ.nl (σ.t.map _) (tE (σ.b.filter λx=>!Nat.beq x.1 id) id b)=PS.mk σ.n σ.nl (σ.t.map _) (tE σ.b id b);rw[h];rfl
def YT{T:List TI}{t:TypeId}{x:TI}(h:mr T t=some x):x ∈ T/\x.id=t:=by
 induction T with
 |nil=>cases h
 |cons y l ih=>
  unfold mr at h;split at h
  .rename_i hb;cases h;exact⟨aH,kK.1 hb⟩
  .obtain ⟨h1,h2⟩:=ih h;exact⟨by simp[h1],h2⟩
def mf.qM{P:Program}{T:List TI}(hT:mf P T){t:TypeId}{x:TI}(h:mr T t=some x):P.underlying t=some x.d:=by
 obtain⟨h1,h2⟩:=YT h;rw[<-h2];exact(hT x h1).1
def mf.yY{P:Program}{T:List TI}(hT:mf P T){t:TypeId}{x:TI}(h:mr T t=some x):P.info? t=some x.i:=by
 obtain⟨h1,h2⟩:=YT h;rw[<-h2];exact(hT x h1).2
def Ac{T:List TI}{t:TypeId}{d:TypeDesc}(h:wI T t=some d):∃ x,mr T t=some x/\x.d=d:=by
 unfold wI at h;split at h
 .rename_i x hx;exact⟨x,hx,by simpa using h⟩
 .cases h
section
variable {P:Program} {T:List TI} (hT:mf P T) (w:World)
include hT
def tC{t:TypeId}{x:TI}(h:mr T t=some x):(sizeOf t).run P w = .ok x.i.size w:=by
 simp[sizeOf,typeInfo,hT.yY h]
def Pa{t:TypeId}{x:TI}(h:mr T t=some x){z:Value}(hz:x.i.zero=some z):(zeroValue t).run P w = .ok z w:=by
 simp[zeroValue,typeInfo,hT.yY h,hz]
def Kk{t:TypeId}{x:TI}(h:mr T t=some x):(isAgg t).run P w = .ok x.isAgg w:=by
 unfold isAgg TI.isAgg;rw[Sem.run_bind,run_underlying (hT.qM h) w];cases x.d<;>simp
def Xz{t:TypeId}{x:TI}(h:mr T t=some x)(ha:x.isAgg=true)(b o:Nat)(vs:List Value)(hl:vs.length=x.i.size)
 (hc:∀ (j:Nat) (u:Value),vs[j]? = some u->w.cell? ⟨b,o+j,none⟩=some u):(loadVar t ⟨b,o,none⟩).run P w = .ok (.agg vs.toArray) w:=by
 have hr:=run_loadCells_list (P:=P) w ⟨b,o,none⟩ vs (λj v hv=>by rw[Addr.add_lit];exact hc j v hv);rw[hl]at hr;simp[loadVar,Kk hT w h,ha,tC hT w h,hr]
def O9{t:TypeId}{x:TI}(h:mr T t=some x)(ha:x.isAgg=false)(b o:Nat)(u:Value)(hc:w.cell? ⟨b,o,none⟩=some u):(loadVar t ⟨b,o,none⟩).run P w = .ok u w:=by
 simp[loadVar,Kk hT w h,ha,hc]
def Kl{t:TypeId}{x:TI}(h:mr T t=some x)(b o:Nat)(E:TypeId)(cur:Array Value)(hg:w.heap[b]? = some (.cells cur E (0,0)))(v:Value)(hl:v.cells.toList.length=x.i.size)
 (qW:o+v.cells.toList.length<=cur.size) (h1:∀ u ∈ v.cells.toList,u.oneCell'=true):
 (storeVar t ⟨b,o,none⟩ v).run P w = .ok () (w.setRow b (cur.toList.take o++v.cells.toList++cur.toList.drop (o+v.cells.toList.length)).toArray):=by
 have hr:=run_storeCells_at P b o E v.cells.toList 0 cur w hg (by simpa using qW) h1;simp only[bS]at hr;have qf:v.cells.size=x.i.size:=by simpa using hl
 simp only[storeVar,Sem.run_bind,tC hT w h,Result.andThen,qf,cT,amP,bk,hr,Sem.run_ite,Sem.run_pure]
end
def rp.setRow{L:Lk}{w:World}{id b:Nat}(hb:L.own id b)(im:∀ x,L.own id x->x<w.heap.size)(cs:Array Value):rp L w id (L.own id) (w.setRow b cs):=
 ⟨λx hx=>⟨.inl hx,by simpa using im x hx⟩,aH,λx _ jh=>setRow_other w b x cs (λe=>jh (e▸hb)),rfl,rfl,rfl⟩
def jP(P:Program)(K:World->Prop)(w0:World)(B:Nat->Prop)(σ:PS)(o:Oper)(a:Act)(w:World)(u:ku):Prop:=
 ∃ v w' L',((execOp a.eval o).run P w = .ok (.value v) w'\/((execOp a.eval o).run P w = .ok .skip w'/\v=undef))/\iT w0 B (σ.nL u.f) a w' L'/\mY (ja B L') (jx L') L' w' u.r v
section
variable {P:Program} {K:World->Prop} {w0:World} {B:Nat->Prop} {σ:PS} {o:Oper} {a:Act} {w:World} {L:Lk} {u:ku}
def jP.pure(r:iT w0 B σ a w L){v:Value}(kC:(execOp a.eval o).run P w = .ok (.value v) w)(hf:u.f = .none)(hp:mY (ja B L) (jx L) L w u.r v):jP P K w0 B σ o a w u:=
 ⟨v,w,L,.inl kC,by rw[hf];exact r,hp⟩
def iT.read(r:iT w0 B σ a w L){p:PV}{v:Value}(hp:mY (ja B L) (jx L) L w p v){m:Nat}{l:List E}{is:List Nat}{jr:List Prop}(h:σ.read p m=some (l,is,jr))(ho:∀ q,q ∈ jr->q):
 ∃ b q vs,v = .pointer (some ⟨b,q,none⟩)/\j9 (ja B L) (jx L) w l vs/\vs.length=m/\∀ (j:Nat) (u:Value),vs[j]? = some u->w.cell? ⟨b,q+j,none⟩=some u:=by
 have tab:∀ (b q:Nat) (g:Nat->E) (f:Nat->Value),(∀ j,j<m->w.cell? ⟨b,q+j,none⟩=some (f j)/\ix (ja B L) (jx L) w (g j) (f j)) ->
  ∃ vs:List Value,j9 (ja B L) (jx L) w ((List.range m).map g) vs/\vs.length=m/\∀ (j:Nat) (u:Value),vs[j]? = some u->w.cell? ⟨b,q+j,none⟩=some u:=by
  intro b q g f hc;refine⟨(List.range m).map f,⟨aH,λi p x hp hx=>?_⟩,aH,λj u hu=>?_⟩
  .rw [cr]at hp hx;obtain⟨i1,yL,rfl⟩:=cH.1 hp;obtain⟨i2,Dt,rfl⟩:=cH.1 hx;rw[yL]at Dt;cases Dt;obtain⟨im,rfl⟩:=bY.1 yL;simp at im;simpa using(hc i im).2
  .rw [cr]at hu;obtain⟨i1,yL,rfl⟩:=cH.1 hu;obtain⟨im,rfl⟩:=bY.1 yL;simp at im;simpa using(hc j im).1
 cases p with
 |box id off=>
  simp only[PS.read]at h;split at h
  .rename_i T l0 jf;split at h
   .rename_i hle;simp only[bu,bM]at h;obtain⟨rfl,rfl,rfl⟩:=h;obtain⟨b,vs,h1,h2,h3,h4,h5⟩:=r.hb id _ jf;obtain⟨_,b',k2,rfl⟩:=hp;rw[h1]at k2;cases k2;have Ub:=cF hle;refine⟨b,off,(vs.drop off).take m,rfl,(h4.drop off).take m,by simp[h4.len];omega,λj u hu=>?_⟩;rw[dW]at hu;split at hu
    .rw [eA]at hu;simp only[World.cell?,h3];simpa using hu
    .cases hu
   .cases h
  .cases h
 |mT id sz i j=>
  simp only[PS.read]at h;split at h
  .rename_i nl T n s el jf;split at h
   .rename_i hle;simp only[bu,bM]at h;obtain⟨rfl,rfl,rfl⟩:=h;simp only[bF]at hle;have e1:=kK.1 hle.1;have e2:=cF hle.2;subst e1;have hi:i<n:=ho _ aH;obtain⟨f,h1,h2,h3⟩:=r.hb id _ jf;obtain⟨_,b,n',c',k2,rfl⟩:=hp;rcases h1 with⟨h1,_⟩|⟨b',c,cur,h1,hg,oF,nM,mR,ki,jA⟩
    .rw [k2]at h1;cases h1
    .rw [k2]at h1;cases h1;obtain⟨vs,q1,q2,q3⟩:=tab b (i*s+j) (λq=>el i (j+q)) (λq=>f i (j+q)) (λq hq=>⟨by
      simp only[World.cell?,hg];have:=(ki i (j+q) hi aC).1;rw[<-cR]at this;simpa using this,(h3 i (j+q) hi aC).1⟩)
     exact⟨b,i*s+j,vs,rfl,q1,q2,q3⟩
   .cases h
  .cases h
 |qC id sz k i j=>
  simp only[PS.read]at h;split at h
  .rename_i nl T1 T0 n s len el pend jf;split at h
   .rename_i hle;simp only[bu,bM]at h;obtain⟨rfl,rfl,rfl⟩:=h;simp only[bF]at hle;have e1:=kK.1 hle.1;have e2:=cF hle.2;subst e1;have hk:k<n:=ho _ aH;have hi:i<len k:=ho _ aH;obtain⟨b0,c0,cur0,f,g1,g2,g3,g4,g5,g6,g7,g8,_⟩:=(r.hb id _ jf).wq aC;obtain⟨h1,h3⟩:=g8 k hk;obtain⟨_,b,n',c',k2,rfl⟩:=hp;rcases h1 with⟨h1,_⟩|⟨b',c,cur,h1,hg,oF,nM,mR,ki,jA⟩
    .rw [k2]at h1;cases h1
    .rw [k2]at h1;cases h1;obtain⟨vs,q1,q2,q3⟩:=tab b (i*s+j) (λq=>el k i (j+q)) (λq=>f k i (j+q)) (λq hq=>⟨by
      simp only[World.cell?,hg];have:=(ki i (j+q) hi aC).1;rw[<-cR]at this;simpa using this,(h3 i (j+q) hi aC).1⟩)
     exact⟨b,i*s+j,vs,rfl,q1,q2,q3⟩
   .cases h
  .cases h
 |e x=>
  cases x with
  |iN k el=>
   simp only[PS.read]at h;split at h
   .rename_i hle;simp only[bu,bM]at h;obtain⟨rfl,rfl,rfl⟩:=h;have Ub:=cF hle;cases hp with
    |iN _ _ b q f hb im hl cell kk=>
     obtain⟨vs,q1,q2,q3⟩:=tab b q el f (λj hj=>⟨cell j aC,kk j aC⟩);exact⟨b,q,vs,rfl,q1,q2,q3⟩
   .cases h
  |_=>cases h
 |_=>cases h
def Er{ti:TI}{l:List E}(h:yd ti=some l):∃ z,ti.i.zero=some z/\∀ (bs br:Nat->Prop) (w:World),j9 bs br w l z.cells.toList/\∀ u ∈ z.cells.toList,u.oneCell'=true:=by
 unfold yd at h;split at h
 .rename_i z hz;exact⟨z,hz,λbs br w=>(ix.v (bs:=bs) (br:=br) (w:=w) z).cells h⟩
 .cases h
def iT.Ww(r:iT w0 B σ a w L)(id:Nat)(T:TypeId)(l:List E)(v:Value)(kr:σ.bo id=none)(hv:j9 (ja B L) (jx L) w l v.cells.toList)(h1:∀ u ∈ v.cells.toList,u.oneCell'=true)
 (jA:(!σ.nl||l.all E.mS)=true):
 ∃ L',iT w0 B (σ.nL (.new id (.cells T l))) a (w.alloc (.cells v.cells T)) L'/\mY (ja B L') (jx L') L' (w.alloc (.cells v.cells T)) (.box id 0) (.pointer (some ⟨w.heap.size,0,none⟩)):=by
 have hb:Below w.heap.size w (w.alloc (.cells v.cells T)):=(Below.refl _ _).alloc (bc _) _;have TS:∀ x,¬L.own id x:=λx hx=>by have:=(r.hv id).1 (r.hn id x hx);rw[kr]at this;simp at this
 have ht:rp L w id (λx=>x=w.heap.size) (w.alloc (.cells v.cells T)):=⟨λx hx=>⟨.inr aC,aN⟩,hb.size,λx hx _=>hb.block x hx,rfl,rfl,rfl⟩
 have hl:=ht.later (.pointer (some ⟨w.heap.size,0,none⟩)) (λ_=>undef);refine⟨_,r.new id (.cells T l) (λx=>x=w.heap.size) (.pointer (some ⟨w.heap.size,0,none⟩)) (λ_=>undef) _ kr (λx hx=>by subst hx;simp) hb
  ⟨w.heap.size,v.cells.toList,Lk.po,λx=>Lk.sR x,by rw[Array.toArray_toList];exact heap_alloc_new w _,hv.mono λ_ _=>hl.kD,h1⟩ jA,Lk.Bd,w.heap.size,Lk.po,rfl⟩
def JJ{d:Option Tmp}{b:Bx}{rr:Nat->PV}(h:AR σ d b rr=some u):∃ id,d=some id/\(!σ.nl||b.nl)=true/\u={ r:=rr id,f:=uj σ id b,rb:=zg σ id [] }:=by
 unfold AR at h;split at h
 .rename_i id;split at h
  .rename_i hc;cases h;exact⟨id,rfl,hc,rfl⟩
  .cases h
 .cases h
def iT.Wx(r:iT w0 B σ a w L)(id:Nat)(T:TypeId)(l:List E)(v:Value)(hv:j9 (ja B L) (jx L) w l v.cells.toList)(h1:∀ u ∈ v.cells.toList,u.oneCell'=true)
 (jA:(!σ.nl||l.all E.mS)=true):
 ∃ L',iT w0 B (σ.nL (uj σ id (.cells T l))) a (w.alloc (.cells v.cells T)) L'/\mY (ja B L') (jx L') L' (w.alloc (.cells v.cells T)) (.box id 0) (.pointer (some ⟨w.heap.size,0,none⟩)):=by
 unfold uj;split
 .rename_i kr;exact r.Ww id T l v kr hv h1 jA
 .obtain ⟨L1,r1,ho,kr⟩:=r.R0 id;have hm:∀ x,jx L1 x->jx L x:=λx ⟨i,hi⟩=>⟨i,ho i x hi⟩
  obtain⟨L',r',hp⟩:=r1.Ww id T l v kr (hv.mono λ_ _=>ix.pZ (λx h=>h.elim .inl λh=>.inr (hm x h)) hm) h1 jA;rw[Sb]at r';exact⟨L',r',hp⟩
def F9{d:Option Tmp}{b:Bx}{rr:Nat->PV}{jr:List Prop}(h:y8 σ d b rr jr=some u):∃ id,d=some id/\σ.bo id=none/\(!σ.nl||b.nl)=true/\u={ r:=rr id,f:=.new id b,jr:=jr }:=by
 unfold y8 at h;split at h
 .rename_i id;split at h
  .rename_i kr;split at h
   .rename_i hc;cases h;exact⟨id,rfl,kr,hc,rfl⟩
   .cases h
  .cases h
 .cases h
end
def Ha{k:IntKind}{z:Int}(h:kP k z):k.wrap z=z:=by
 cases k<;>simp only[kP]at h<;>simp only[IntKind.wrap,IntKind.bits,IntKind.signed]<;>simp<;>(try split)<;>omega
def ajg{k:IntKind}{x y:Int}(h:kP k x)(hy:0<y):kP k (x.tdiv y):=by
 by_cases h0:0<=x
 .have h1:0<=x/y:=Int.ediv_nonneg h0 aC ;have h2:x/y<=x:=Int.ediv_le_self y h0;rw[gn h0];cases k<;>simp only[kP]at h ⊢ <;> omega
 .obtain ⟨z,rfl⟩:∃ z,x = -z:=⟨-x,aC⟩
  have h0:0<=z:= aC ;have h1:0<=z/y:=Int.ediv_nonneg h0 aC;have h2:z/y<=z:=Int.ediv_le_self y h0;rw[Int.neg_tdiv,gn h0];cases k<;>simp only[kP]at h ⊢ <;> omega
def adp{P:Program}{op:BinOp}{k k':IntKind}{x y:Int}{v:Value}{jr:List Prop}(h:LJ op k x y=some (v,jr))(ho:∀ q,q ∈ jr->q)
 (hk:XC op k k'=true) (t:TypeId) (w:World):(binOp op t (.int k x) (.int k' y)).run P w = .ok v w:=by
 cases op<;>simp only[LJ,bu,bM,reduceCtorEq]at h<;>(obtain⟨rfl,rfl⟩:=h)<;>(try (have Fy:=cC hk;subst Fy))
 case add=>
  rw[binOp_add];by_cases IS:k = .u32
  .subst IS;simp[Op.intArith,K6]
  .have e:K6 k x y=x+y:=by cases k<;>first|rfl|exact absurd rfl IS
   have e2:P9 k x y=[kP k (x+y)]:=by cases k<;>first|rfl|exact absurd rfl IS
   rw[e];simp[Op.intArith,Ha (ho (kP k (x+y)) (by rw[e2];simp))]
 case sub=>rw[binOp_sub];simp[Op.intArith,Ha (ho (kP k (x-y)) aH)]
 case mul=>rw[binOp_mul];simp[Op.intArith,Ha (ho (kP k (x*y)) aH)]
 case quo=>
  have h1:=ho (0<y) aH;have h2:=ho (kP k x) aH;rw[binOp_quo];have hy:¬y=0:= aC ;simp[Op.intDiv,hy,Ha (ajg h2 h1)]
 case rem=>
  have h1:=ho (0<y) aH;rw[binOp_rem];have hy:¬y=0:= aC ;simp[Op.intDiv,hy]
 case and=>rw[binOp_and,intBits_and];rfl
 case or=>rw[binOp_or,intBits_or];rfl
 case shl=>
  have h1:=ho (0<=y/\y<=k.bits) aH;rw[binOp_shl,shift_shl k k' x y h1.1 h1.2];rfl
 case shr=>
  have h1:=ho (0<=y/\y<=k.bits) aH;rw[binOp_shr,shift_shr k k' x y h1.1 h1.2];rfl
 case eql=>rw[binOp_eql];rfl
 case neq=>rw[binOp_neq];rfl
 case lss=>rw[binOp_lss];rfl
 case leq=>rw[binOp_leq];rfl
 case gtr=>rw[binOp_gtr];rfl
 case geq=>rw[binOp_geq];rfl
section
variable {P:Program} {K:World->Prop} {T:List TI} {O:pR} {w0:World} {B:Nat->Prop} {σ:PS} {o:Oper} {a:Act} {w:World} {L:Lk} {u:ku}
def aeG{x:Operand}(il:o.op = .move x)(r:iT w0 B σ a w L)(h:jm P K T O σ o=some u):jP P K w0 B σ o a w u:=by
 simp only[jm,il]at h;cases h;exact jP.pure r (by simp only[execOp,il];rfl) rfl (r.op x)
def aem{x:Operand}(il:o.op = .assign x)(r:iT w0 B σ a w L)(h:jm P K T O σ o=some u):jP P K w0 B σ o a w u:=by
 simp only[jm,il]at h;cases h;exact jP.pure r (by simp only[execOp,il];rfl) rfl (r.op x)
def aeI{c x y:Operand}(il:o.op = .pick c x y)(r:iT w0 B σ a w L)(h:jm P K T O σ o=some u):jP P K w0 B σ o a w u:=by
 simp only[jm,il]at h;have hc:=r.op c;split at h
 .rename_i hv;rw[hv]at hc;have hc:=ix.kz hc;cases h;exact jP.pure r (by simp[execOp,il,hc,asBool]) rfl (r.op x)
 .rename_i hv;rw[hv]at hc;have hc:=ix.kz hc;cases h;exact jP.pure r (by simp[execOp,il,hc,asBool]) rfl (r.op y)
 .cases h
def aeH{x:Operand}(il:o.op = .nilCheck x)(r:iT w0 B σ a w L)(h:jm P K T O σ o=some u):jP P K w0 B σ o a w u:=by
 simp only[jm,il]at h;have hc:=r.op x;split at h
 .rename_i hv;rw[hv]at hc;cases h;obtain⟨k1,b,k2,k3⟩:=hc;exact jP.pure r (v:=a.eval x) (by simp[execOp,il,k3]) rfl ⟨k1,b,k2,k3⟩
 .rename_i hv;rw[hv]at hc;cases h;generalize hq:a.eval x=q at hc;refine jP.pure r (v:=q) ?_ rfl hc;cases hc;simp only[execOp,il,hq];rfl
 .rename_i hv;rw[hv]at hc;cases h;refine jP.pure r (v:=a.eval x) ?_ rfl hc;obtain⟨vs,e,_⟩:=ix.S3 hc;simp only[execOp,il,e];rfl
 .rename_i hv;rw[hv]at hc;cases h;refine jP.pure r (v:=a.eval x) ?_ rfl hc;obtain⟨vs,e,_⟩:=hc;simp only[execOp,il,e];rfl
 .cases h
def aen(hT:mf P T){op:BinOp}{t yt:TypeId}{x y:Operand}(il:o.op = .binOp op t x y yt)(r:iT w0 B σ a w L)(h:jm P K T O σ o=some u)(ho:∀ q,q ∈ u.jr->q):jP P K w0 B σ o a w u:=by
 simp only[jm,il]at h;have hx:=r.op x;have hy:=r.op y;split at h
 .rename_i k z k' z' th Cc;rw[th]at hx;rw[Cc]at hy;split at h
  .rename_i v hv;cases h;obtain⟨h1,h2⟩:=ho _ (gp.2 rfl) _ _ w _ _ x y hx hy;refine jP.pure r (v:=v) ?_ rfl (.v _);simp only[execOp,il,Sem.run_bind,h1,Result.andThen_ok,h2,Sem.run_pure]
  have hx:=ix.kz hx;have hy:=ix.kz hy;split at h
  .rename_i hk;obtain⟨rr,hr,rfl⟩:=cH.1 h;have kC:=adp (P:=P) (k':=k') hr ho hk t w;refine jP.pure r (v:=rr.1) ?_ rfl (.v _);simp only[execOp,il,hx,hy,Sem.run_bind,eqGuard_at_int,Sem.run_pure,Result.andThen_ok,kC]
  .cases h
 .rename_i z z' th Cc;rw[th]at hx;rw[Cc]at hy;have hx:=ix.kz hx;have hy:=ix.kz hy;split at h
  .rename_i hd;obtain⟨ti,h1,h2⟩:=Ac hd;have hu:P.underlying t=some .bool:=by rw[hT.qM h1,h2]
   split at h
   .cases h;refine jP.pure r (v:=.bool (z==z')) ?_ rfl (.v _);simp only[execOp,il,hx,hy,Sem.run_bind,eqGuard_at_bool,Sem.run_pure,Result.andThen_ok,run_eql_bool w t z z' hu]
   .cases h;refine jP.pure r (v:=.bool (!(z==z'))) ?_ rfl (.v _);simp only[execOp,il,hx,hy,Sem.run_bind,eqGuard_at_bool,Sem.run_pure,Result.andThen_ok];have:(binOp .neq t (.bool z) (.bool z')).run P w = .ok (.bool (!(z==z'))) w:=by
     simp only[binOp,Sem.run_bind,run_equal_bool w t z z' hu,Result.andThen_ok,Sem.run_pure]
    rw[this];rfl
   .cases h
  .cases h
 .rename_i nl n sz el th Cc;rw[th]at hx;rw[Cc]at hy;have hy:=ix.kz hy;have hx:ix (ja B L) (jx L) w (.sl nl n sz el) (a.eval x):=hx;split at h
  .rename_i e hd;obtain⟨ti,h1,h2⟩:=Ac hd;have hu:P.underlying t=some (.slice e):=by rw[hT.qM h1,h2]
   have key:∀ A c,0<n->a.eval x = .slice A n c->ix (ja B L) (jx L) w (.sl nl n sz el) (.slice A n c)->A.isNone=false:=by
    intro A c hn e1 hr;cases A with
    |some ad=>rfl
    |none=>
     cases hr with
     |sl _ _ _ _ _ _ f hc hm h0=>have:=h0 rfl;omega
   generalize hv:a.eval x=vx at hx;cases hx with
   |sl _ _ _ _ A c f hc hm h0 hl hr cell k=>
    have wV:ix (ja B L) (jx L) w (.sl nl n sz el) (.slice A n c):=.sl nl n sz el A c f hc hm h0 hl hr cell k;split at h
    .cases h;have hn:0<n:=ho _ aH;refine jP.pure r (v:=.bool false) ?_ rfl (.v _);simp only[execOp,il,hv,hy,Sem.run_bind,eqGuard_at_slice,Sem.run_pure,Result.andThen_ok,Lib.run_eql_slice_nil w t e A n c 0 0 hu,key A c hn hv wV]
    .cases h;have hn:0<n:=ho _ aH;refine jP.pure r (v:=.bool true) ?_ rfl (.v _);simp only[execOp,il,hv,hy,Sem.run_bind,eqGuard_at_slice,Sem.run_pure,Result.andThen_ok,run_neq_slice_nil_any w t e A n c 0 0 hu,key A c hn hv wV,dX]
    .cases h
  .cases h
 .rename_i xe ye th Cc;rw[th]at hx;rw[Cc]at hy;split at h
  .rename_i v hv;cases h;obtain⟨h1,h2⟩:=ho _ (gp.2 rfl) _ _ w _ _ x y hx hy;refine jP.pure r (v:=v) ?_ rfl (.v _);simp only[execOp,il,Sem.run_bind,h1,Result.andThen_ok,h2,Sem.run_pure]
  .cases h
 .cases h
def aeL{op:UnOp}{t:TypeId}{x:Operand}(il:o.op = .unOp op t x)(r:iT w0 B σ a w L)(h:jm P K T O σ o=some u)(ho:∀ q,q ∈ u.jr->q):jP P K w0 B σ o a w u:=by
 simp only[jm,il]at h;have hx:=r.op x;split at h
 .rename_i z hv;rw[hv]at hx;have hx:=ix.kz hx;cases h;exact jP.pure r (v:=.bool (!z)) (by simp[execOp,il,hx,Op.unary]) rfl (.v _)
 .rename_i k z hv;rw[hv]at hx;have hx:=ix.kz hx;cases h;have:=Ha (ho (kP k (0-z)) aH);refine jP.pure r (v:=.int k (0-z)) ?_ rfl (.v _);simp only[execOp,il,hx,Op.unary,Op.intArith,this];rfl
 .cases h
def aer(hT:mf P T){src dst:TypeId}{x:Operand}(il:o.op = .convert src dst x)(r:iT w0 B σ a w L)(h:jm P K T O σ o=some u):jP P K w0 B σ o a w u:=by
 simp only[jm,il]at h;have hx:=r.op x;split at h
 .rename_i k ts k' z hd hs hv;rw[hv]at hx;have hx:=ix.kz hx;obtain⟨td,h1,h2⟩:=Ac hd;have hu:P.underlying dst=some (.int k):=by rw[hT.qM h1,h2]
  have hk:P.intKind dst=k:=by simp[Program.intKind,hu]
  have kC:=run_convert_int (P:=P) w src dst k' z (by rw[hT.qM hs];rfl) (by rw[hk];exact hu);rw[hk]at kC;cases h;exact jP.pure r (v:=.int k (k.wrap z)) (by simp only[execOp,il,hx,Sem.run_bind,kC];rfl) rfl (.v _)
 .cases h
def aes{x:Operand}{i:Nat}(il:o.op = .extract x i)(r:iT w0 B σ a w L)(h:jm P K T O σ o=some u):jP P K w0 B σ o a w u:=by
 simp only[jm,il]at h;have hx:=r.op x;split at h
 .rename_i l hv;rw[hv]at hx;obtain⟨vs,e,hr⟩:=ix.YS hx;split at h
  .rename_i y hy;cases h;have im:i<vs.length:=by rw[hr.len];exact(bY.1 hy).1
   have DL:=bt im;refine jP.pure r (v:=vs[i]) ?_ rfl (hr.kD i y _ hy DL);simp only[execOp,il,e,Instr.extract,gj,DL];rfl
  .cases h
 .cases h
def V1{bs:Nat->Prop}{z:Int}{e:E}:∀ {l:List (Int×FuncId×List FuncId)} {es:List MapEntry} (i:Nat),Bn bs w l es->Cu l z=some e->(∀ b,jx L b->bs b) ->
 ∃ j v,Instr.findNow (.int .i64) (.int .i64 z) es i=some (some (j,v))/\ix bs (jx L) w e v
 | [],_,_,_,h,_=>by cases h
 |_::_,[],_,k,_,_=>k.elim
 |x::l,y::es,i,⟨⟨k1,vs,k2,k3,k4⟩,k⟩,h,hm=>by
  unfold Cu at h;have e0:Instr.sameNow (.int .i64) (.int .i64 z) y.key=some (z==x.1):=by rw[k1];rfl
  by_cases hz:x.1=z
  .rw [aZ hz]at h;cases h;have e1:(z==x.1)=true:=by simp[hz]
   refine⟨i,y.val,?_,?_⟩
   .rw [Instr.findNow,e0,e1]
   .rw [k2];refine .fn _ _ vs (by simpa using k3) λj p v hp hv=>?_
    rw[cr]at hp;obtain⟨g,hg,rfl⟩:=cH.1 hp;obtain⟨b,rfl,q2,q3,q4⟩:=k4 j g v hg hv;have hc:∀ q,q<1->w.cell? ⟨b,0+q,none⟩=some (.func (.func g) #[] #[]):=λq hq=>by
     obtain rfl:q=0:= aC ;exact q4
    exact .iN 1 _ b 0 (λ_=>.func (.func g) #[] #[]) (λh=>q2 (hm b h)) q3 (λ_ _=>rfl) hc λ_ _=>.fn g [] [] rfl (λi p x h=>by simp at h)
  .rw [aY hz]at h;have e1:(z==x.1)=false:=by simp;exact λe=>hz e.symm
   obtain⟨j,v,q1,q2⟩:=V1 (i+1) k h hm;exact⟨j,v,by rw[Instr.findNow,e0,e1];exact q1,q2⟩
def ab5{k:TypeId}(hk:P.underlying k=some (.int .i64))(e:Bool)(n:Nat)(z:Int):(Instr.checkKey e (n+1) k (.int .i64 z)).run P w = .ok () w:=by
 unfold Instr.checkKey;simp only[Sem.run_bind,run_underlying hk,Result.andThen];rfl
def aeA(hT:mf P T){t:TypeId}{x i:Operand}{ok:Bool}(il:o.op = .lookup t x i ok)(r:iT w0 B σ a w L)(h:jm P K T O σ o=some u)(ho:∀ q,q ∈ u.jr->q):jP P K w0 B σ o a w u:=by
 cases ok with
 |true=>simp[jm,il]at h
 |false=>
 simp only[jm,il]at h;have hx:=r.op x;have hi:=r.op i;split at h
 .rename_i l z k e0 hv hw hd;obtain⟨ti,h1,h2⟩:=Ac hd;have hu:P.underlying t=some (.map k e0):=by rw[hT.qM h1,h2]
  rw[hv]at hx;rw[hw]at hi;have hi:=ix.kz hi;split at h
  .rename_i e Au hg;obtain⟨tk,h3,h4⟩:=Ac Au;have hk:P.underlying k=some (.int .i64):=by rw[hT.qM h3,h4]
   cases h;have BR:Cu l z=some e:=ho _ aH;generalize hq:a.eval x=q at hx;cases hx with
   |mp _ b clk es hb im hh mi=>
    obtain⟨j,v,q1,q2⟩:=V1 (w:=w) (L:=L) 0 mi BR λb h=>.inr h
    refine jP.pure r (v:=v) ?_ rfl q2;have uM:(getObj b).run P w = .ok (.map es clk) w:=by simp[getObj,Sem.run,hh]
    have hck:=ab5 (P:=P) (w:=w) hk es.isEmpty 9999 z;have hfk:(Instr.findKey k (.int .i64 z) es.toList).run P w = .ok (some (j,v)) w:=by unfold Instr.findKey;simp[run_underlying hk,Result.andThen,q1]
    have hl:(Instr.lookup t (.map (some b)) (.int .i64 z) false).run P w = .ok v w:=by
     unfold Instr.lookup;simp[run_underlying hu,uM,hck,hfk,Result.andThen]
    simp only[execOp,il,hq,hi,Sem.run_bind,hl,Result.andThen_ok,Sem.run_pure]
  .cases h
 .cases h
def aet(hT:mf P T){t:TypeId}{x:Operand}{f:Nat}(il:o.op = .field t x f)(r:iT w0 B σ a w L)(h:jm P K T O σ o=some u):jP P K w0 B σ o a w u:=by
 simp only[jm,il]at h;have hx:=r.op x;split at h
 .rename_i l fs hv hd;obtain⟨ti,h1,h2⟩:=Ac hd;have hu:P.underlying t=some (.struct fs):=by rw[hT.qM h1,h2]
  rw[hv]at hx;obtain⟨vs,e,hr⟩:=ix.C6 hx;split at h
  .rename_i fd MF;split at h
   .rename_i ft MH;split at h
    .cases h
    .rename_i hag;split at h
     .rename_i y hy;cases h;have im:fd.offset<vs.length:=by rw[hr.len];exact(bY.1 hy).1
      have DL:=bt im;refine jP.pure r (v:=vs[fd.offset]) ?_ rfl (hr.kD fd.offset y _ hy DL);simp only[execOp,il,e,Instr.field,asAgg,Sem.run_bind,Sem.run_pure,Result.andThen_ok,run_underlying hu,MF,part,Kk hT w MH,hag,gj,DL];rfl
     .cases h
   .cases h
  .cases h
 .cases h
def abS{ps:List PV}{l:List CV}{vs:List Value}(h:wH ps=some l)(hlen:vs.length=ps.length)(hr:∀ (i:Nat) (p:PV) (x:Value),ps[i]? = some p->vs[i]? = some x->mY (ja B L) (jx L) L w p x):
 vs.length=l.length/\∀ (i:Nat) (c:CV) (x:Value),l[i]? = some c->vs[i]? = some x->wB (ja B L) (jx L) L w c x:=by
 induction ps generalizing l vs with
 |nil=>cases h;exact⟨hlen,λi c x hc=>by simp at hc⟩
 |cons p ps ih=>
  cases vs with
  |nil=>simp at hlen
  |cons y vs=>
   have step:∀ (c0:CV) (l':List CV),wH ps=some l'->wB (ja B L) (jx L) L w c0 y->l=c0::l' ->
    (y::vs).length=l.length/\∀ (i:Nat) (c:CV) (x:Value),l[i]? = some c->(y::vs)[i]? = some x->wB (ja B L) (jx L) L w c x:=by
    intro c0 l' qf pf hl;obtain⟨i1,i2⟩:=ih qf (by simpa using hlen) (λi p x hp hx=>hr (i+1) p x (by simpa using hp) (by simpa using hx));subst hl;refine⟨by simp[i1],λi c x hc hx=>?_⟩;cases i with
    |zero=>simp at hc hx;subst hc hx;exact pf
    |succ i=>simp at hc hx;exact i2 i c x hc hx
   have h0:=hr 0 p y rfl rfl;cases p with
   |e x=>
    simp only[wH]at h;obtain⟨l',qf,rfl⟩:=cH.1 h;exact step (.e x) l' qf h0 rfl
   |box id off=>
    cases off with
    |zero=>
     simp only[wH]at h;obtain⟨l',qf,rfl⟩:=cH.1 h;exact step (.box id) l' qf h0 rfl
    |succ=>simp[wH]at h
   |mT id sz i j=>
    simp only[wH]at h;split at h
    .rename_i hc;simp only[bF]at hc;obtain rfl:=kK.1 hc.1.1;obtain rfl:=kK.1 hc.1.2;obtain rfl:=kK.1 hc.2;obtain⟨l',qf,rfl⟩:=cH.1 h;obtain⟨k1,b,n,c,k2,k3⟩:=h0;exact step (.row id) l' qf ⟨k1,b,n,c,k2,by simpa using k3⟩ rfl
    .cases h
   |_=>simp[wH]at h
def aeB{fn:Fn}{first cap:Array Operand}(il:o.op = .makeFunc fn first cap)(r:iT w0 B σ a w L)(h:jm P K T O σ o=some u):jP P K w0 B σ o a w u:=by
 cases fn with
 |func f=>
  simp only[jm,il]at h;split at h
  .rename_i afi;have hf:first = #[]:=by simpa using afi
   subst hf;split at h
   .rename_i l hl;cases h;have hc:=abS (B:=B) (L:=L) (w:=w) (vs:=cap.toList.map a.eval) hl aH (λi p x hp hx=>by
     rw[cr]at hp hx;obtain⟨q,hq,rfl⟩:=cH.1 hp;rw[hq]at hx;simp at hx;subst hx;exact r.op q)
    refine jP.pure r (v:=.func (.func f) #[] (cap.toList.map a.eval).toArray) ?_ rfl ⟨cap.toList.map a.eval,rfl,hc.1,hc.2⟩;have e1:cap.map a.eval=(cap.toList.map a.eval).toArray:=by apply dj;simp
    have e2:(#[]:Array Operand).map a.eval = #[]:= aH ;simp only[execOp,il,Instr.makeFunc,e1,e2,Sem.run_bind,Sem.run_pure,Result.andThen_ok]
   .cases h
  .cases h
 |_=>simp[jm,il]at h
def aev(hT:mf P T){t:TypeId}{x i:Operand}(il:o.op = .index t x i)(r:iT w0 B σ a w L)(h:jm P K T O σ o=some u)(ho:∀ q,q ∈ u.jr->q):jP P K w0 B σ o a w u:=by
 simp only[jm,il]at h;have hx:=r.op x;have hi:=r.op i;split at h
 .rename_i l k z hv hw;rw[hv]at hx;rw[hw]at hi;have ei:=ix.kz hi;obtain⟨vs,e,hr⟩:=ix.C6 hx;split at h
  .rename_i tt pL;split at h
   .rename_i n e' hd;have hu:P.underlying t=some (.array n e'):=by rw[hT.qM pL,hd]
    split at h
    .rename_i te nk;split at h
     .rename_i hc;simp only[bF,kK]at hc;cases h;obtain⟨AH,yV⟩:=ho (0<=z/\z<n) aH;refine jP.pure r (v:=.agg ((vs.drop (z.toNat*te.i.size)).take te.i.size).toArray) ?_ rfl ((hr.drop _).take _).agg;simp only[execOp,il,e,ei,Instr.index,asIntOf,Sem.run_bind,Sem.run_pure,Result.andThen_ok,run_underlying hu,AH,yV,and_self,bw,tC hT w nk,part,Kk hT w nk,hc.1];simp
     .cases h
    .cases h
   .cases h
  .cases h
 .cases h
def aeu(hT:mf P T){t:TypeId}{x:Operand}{f:Nat}(il:o.op = .fieldAddr t x f)(r:iT w0 B σ a w L)(h:jm P K T O σ o=some u):jP P K w0 B σ o a w u:=by
 simp only[jm,il]at h;have hx:=r.op x;split at h
 .rename_i fs hd;obtain⟨ti,h1,h2⟩:=Ac hd;have hu:P.underlying t=some (.struct fs):=by rw[hT.qM h1,h2]
  split at h
  .rename_i fd MF;split at h
   .rename_i ft MH;split at h
    .cases h
    .rename_i jh;have afr:¬ft.i.size=0:=λe=>jh (kK.2 e)
     have kC:∀ b off,a.eval x = .pointer (some ⟨b,off,none⟩)->(execOp a.eval o).run P w = .ok (.value (.pointer (some ⟨b,off+fd.offset,none⟩))) w:=by
      intro b off e;simp only[execOp,il,e,Instr.fieldAt,Instr.sureAddr,fieldPlace,Sem.run_bind,run_underlying hu,Result.andThen_ok,MF,Sem.run_pure,tC hT w MH,afr,bk,Addr.add_lit]
     split at h
     .rename_i id off hv;rw[hv]at hx;obtain⟨k1,b,k2,k3⟩:=hx;cases h;exact jP.pure r (kC b off k3) rfl ⟨k1,b,k2,rfl⟩
     .rename_i id sz i j hv;rw[hv]at hx;obtain⟨k1,b,n,c,k2,k3⟩:=hx;cases h;exact jP.pure r (kC b _ k3) rfl ⟨k1,b,n,c,k2,by rw[cR]⟩
     .rename_i id sz k i j hv;rw[hv]at hx;obtain⟨k1,b,n,c,k2,k3⟩:=hx;cases h;exact jP.pure r (kC b _ k3) rfl ⟨k1,b,n,c,k2,by rw[cR]⟩
     .rename_i m el hv;rw[hv]at hx;split at h
      .rename_i hle;have Ub:=cF hle;cases h;generalize hq:a.eval x=q at hx;cases hx with
       |iN _ _ b off g hb im hl cell kk=>
        refine jP.pure r (kC b off hq) rfl (.iN _ _ b _ (λj=>g (fd.offset+j)) hb im (λj hj=>hl _ aC) (λj hj=>?_) (λj hj=>kk _ aC));have:=cell (fd.offset+j) aC;rwa[<-cR]at this
      .cases h
     .cases h
   .cases h
  .cases h
 .cases h
end
section
variable {P:Program} {K:World->Prop} {T:List TI} {O:pR} {w0:World} {B:Nat->Prop} {σ:PS} {o:Oper} {a:Act} {w:World} {L:Lk} {u:ku}
def agU(hT:mf P T){t:TypeId}{x:Operand}{ti:TI}(qB:mr T t=some ti)(il:o.op = .load t x)(r:iT w0 B σ a w L)(h:F3 ti (σ.read (σ.op x) ti.i.size)=some u)(ho:∀ q,q ∈ u.jr->q):jP P K w0 B σ o a w u:=by
 cases hr:σ.read (σ.op x) ti.i.size with
 |none=>rw[hr]at h;cases h
 |some y=>
  obtain⟨l,is,jr⟩:=y;rw[hr]at h;simp only[F3]at h;by_cases ha:ti.isAgg=true
  .rw [aZ ha]at h;cases h;obtain⟨b,q,vs,e,h1,h2,h3⟩:=r.read (r.op x) hr ho;refine jP.pure r (v:=.agg vs.toArray) ?_ rfl h1.agg;simp only[execOp,il,e,Instr.loadAt,Instr.sureAddr,Sem.run_bind,Sem.run_pure,Result.andThen_ok,Xz hT w qB ha b q vs h2 h3]
  .rw [aY ha]at h;have IX:ti.isAgg=false:=by simpa using ha
   split at h
   .rename_i p;cases h;obtain⟨b,q,vs,e,h1,h2,h3⟩:=r.read (r.op x) hr ho;obtain⟨y,ys,rfl,hy,Ce⟩:=h1.nj;refine jP.pure r (v:=y) ?_ rfl hy;have hc:=h3 0 y rfl;simp only[execOp,il,e,Instr.loadAt,Instr.sureAddr,Sem.run_bind,Sem.run_pure,Result.andThen_ok,O9 hT w qB IX b q y (by simpa using hc)]
   .cases h
def aez(hT:mf P T){t:TypeId}{x:Operand}(il:o.op = .load t x)(r:iT w0 B σ a w L)(h:jm P K T O σ o=some u)(ho:∀ q,q ∈ u.jr->q):jP P K w0 B σ o a w u:=by
 simp only[jm,il,ID]at h;split at h
 .rename_i ti qB;split at h
  .rename_i id i n pK;by_cases ha:ti.isAgg=true
   .rw [aZ ha]at h;cases h
   .rw [aY ha]at h;have IX:ti.isAgg=false:=by simpa using ha
    cases h;have hx:=r.op x;cases hp:σ.op x with
    |mT id' sz i' j=>
     rw[hp]at pK hx;simp only[CI]at pK;split at pK
     .rename_i nl T1 T0 n' sz' len el jf;split at pK
      .rename_i hc;simp only[bu,bM]at pK;obtain⟨rfl,rfl,rfl⟩:=pK;simp only[bF]at hc;have e1:=kK.1 hc.1;have e2:=kK.1 hc.2;subst e1 e2;have hi:i'<n':=ho _ aH;obtain⟨b,c,cur,f,h1,h2,h3,h4,h5,h6,h7,h8,h9,pT,rS⟩:=(r.hb id' _ jf).wq aC;obtain⟨k1,b',n2,c2,k2,k3⟩:=hx;rw[h1]at k2;cases k2;refine jP.pure r (v:=L.iD id' i') ?_ rfl ⟨k1,rfl⟩;have ki:w.cell? ⟨b,i'*1+0,none⟩=some (L.iD id' i'):=by
        simp only[World.cell?,h2];simpa using h6 i' hi aH 
       simp only[execOp,il,k3,Instr.loadAt,Instr.sureAddr,Sem.run_bind,Sem.run_pure,Result.andThen_ok,O9 hT w qB IX b _ _ ki]
      .cases pK
     .cases pK
    |_=>rw[hp]at pK;cases pK
  .exact agU hT qB il r h ho
 .cases h
def WZ{bs br:Nat->Prop}{l m:List E}{vs us:List Value}(h:j9 bs br w l vs)(k:j9 bs br w m us)(off:Nat):j9 bs br w (AY l off m) (vs.take off++us++vs.drop (off+us.length)):=by
 unfold AY;rw[k.len];exact((h.take off).app k).app (h.drop _)
def aiu{q:E->Bool}{l m:List E}(h:l.all q=true)(k:m.all q=true)(off:Nat):(AY l off m).all q=true:=by
 unfold AY;rw[List.all_append,List.all_append,k];have h1:(l.take off).all q=true:=bN.2 λx hx=>bN.1 h x (ep hx)
 have h2:(l.drop (off+m.length)).all q=true:=bN.2 λx hx=>bN.1 h x (eK hx)
 rw[h1,h2];rfl
def aeK(hT:mf P T){t:TypeId}{x y:Operand}(il:o.op = .store t x y)(r:iT w0 B σ a w L)(h:jm P K T O σ o=some u)(ho:∀ q,q ∈ u.jr->q):jP P K w0 B σ o a w u:=by
 simp only[jm,il,IG]at h;have hx:=r.op x;have hy:=r.op y;split at h
 .rename_i ti qB;split at h
  .
   rename_i id off e oG B5;rw[oG]at hx;rw[B5]at hy;split at h
   .rename_i T1 l m jf hm;split at h
    .rename_i hc;cases h;simp only[bF]at hc;have c1:=kK.1 hc.1.1;have c2:=cF hc.1.2;obtain⟨b,vs,h1,h2,h3,h4,h5⟩:=r.hb id _ jf;obtain⟨k1,b',k2,k3⟩:=hx;rw[h1]at k2;cases k2;obtain⟨q1,q2⟩:=hy.cells hm;have ht:=rp.setRow (L:=L) ((h2 b).2 rfl) (λx hx=>(r.hw id x hx).2) (vs.take off++(a.eval y).cells.toList++vs.drop (off+(a.eval y).cells.toList.length)).toArray;have hl:=ht.later (L.val id) (L.iD id);refine⟨undef,_,_,.inr ⟨?_,rfl⟩,r.vu id (.cells T1 (AY l off m)) _ k1 ht ⟨b,_,by rw[Lk.po];exact h1,λx=>(Lk.sR x).trans (h2 x),setRow_heap w b _ _ T1 _ h3,(WZ h4 q1 off).mono λ_ _=>hl.kD,?_⟩ ?_,.any _⟩
     .have hr:=Kl hT w qB b off T1 vs.toArray h3 (a.eval y) (by rw[q1.len,c1]) (by rw[q1.len,fJ,h4.len];exact c2) q2;simp only[execOp,il,k3,Instr.storeAt,Instr.sureAddr,Sem.run_bind,Sem.run_pure,Result.andThen_ok,hr]
     .intro v hv;simp only[dB]at hv;rcases hv with(hv|hv)|hv
      .exact h5 v (ep hv)
      .exact q2 v hv
      .exact h5 v (eK hv)
     .intro hn;have:=hc.2;rw[hn]at this;exact aiu (r.hl hn id _ jf) (by simpa using this) off
    .cases h
   .cases h
  .
   rename_i id q oG B5;rw[oG]at hx;rw[B5]at hy;split at h
   .rename_i T1 x0 nl T0 n sz el jf uL;split at h
    .rename_i hc;cases h;simp only[bF,dI]at hc;have jh:id≠q:=λe=>by rw[e,cg]at hc;cases hc.1
     have c1:=kK.1 hc.2;obtain⟨b,vs,h1,h2,h3,h4,h5⟩:=r.hb id _ jf;obtain⟨k1,b',k2,k3⟩:=hx;rw[h1]at k2;cases k2;obtain⟨_,Cf⟩:=hy;obtain⟨v0,rfl⟩:∃ v0,vs=[v0]:=by
      have:=h4.len;rcases vs with _|⟨v0,_|⟨v1,vs⟩⟩
      .simp at this
      .exact ⟨v0,rfl⟩
      .simp at this
     obtain⟨f,g1,_⟩:=r.hb q _ uL;have ki:(L.val q).cells.toList=[L.val q]/\(L.val q).oneCell'=true:=by
      rcases g1 with⟨g,_⟩|⟨b1,c1,cur,g,_⟩<;>rw[g]<;>exact⟨rfl,rfl⟩
     have ht:=rp.setRow (L:=L) ((h2 b).2 rfl) (λx hx=>(r.hw id x hx).2) #[L.val q];obtain⟨L',hr⟩:=r.ri jf uL jh h1 (setRow_heap w b _ _ T1 _ h3) ht;refine⟨undef,_,L',.inr ⟨?_,rfl⟩,hr,.any _⟩;have kC:=Kl hT w qB b 0 T1 #[v0] h3 (a.eval y) (by rw[Cf,ki.1,c1];rfl) (by rw[Cf,ki.1];exact bc 1) (by rw[Cf,ki.1];exact λu hu=>by rw[gp.1 hu];exact ki.2);rw[Cf,ki.1]at kC;simp only[execOp,il,k3,Instr.storeAt,Instr.sureAddr,Sem.run_bind,Sem.run_pure,Result.andThen_ok,Cf,kC];rfl
    .cases h
   .cases h
  .
   rename_i id sz i j e oG B5;rw[oG]at hx;rw[B5]at hy;split at h
   .rename_i nl T1 n s el m jf hm;split at h
    .rename_i hc;cases h;simp only[bF]at hc;have c1:=kK.1 hc.1.1.1.1;have c2:=kK.1 hc.1.1.1.2;have c3:=cF hc.1.1.2;subst c2;have hi:i<n:=ho _ aH;obtain⟨f,h1,h2,h3⟩:=r.hb id _ jf;obtain⟨k1,b',n',c',k2,k3⟩:=hx;rcases h1 with⟨h1,_⟩|⟨b,c,cur,h1,hg,oF,nM,mR,ki,jA⟩
     .rw [k2]at h1;cases h1
     .rw [k2]at h1;cases h1;obtain⟨q1,q2⟩:=hy.cells hm;have lr:L.own id b':=(h2 b').2 (by rw[k2];rfl);have amp:i*s+s<=cur.size:=by
       rw[mR];have:=bK s (aC:i+1<=c');rwa[bR,bU]at this
      have qW:i*s+j+(a.eval y).cells.toList.length<=cur.size:=by rw[q1.len];omega
      have ht:=rp.setRow (L:=L) lr (λx hx=>(r.hw id x hx).2) (cur.toList.take (i*s+j)++(a.eval y).cells.toList++cur.toList.drop (i*s+j+(a.eval y).cells.toList.length)).toArray;have hl:=ht.later (L.val id) (L.iD id);refine⟨undef,_,_,.inr ⟨?_,rfl⟩,r.vu id _ _ k1 ht ⟨λi' j'=>if i'=i/\j<=j'/\j'<j+m.length then(a.eval y).cells.toList.getD (j'-j) undef else f i' j',?_,λx=>?_,?_⟩ ?_,.any _⟩
      .have hr:=Kl hT w qB b' (i*s+j) T1 cur hg (a.eval y) (by rw[q1.len,c1]) qW q2;simp only[execOp,il,k3,Instr.storeAt,Instr.sureAddr,Sem.run_bind,Sem.run_pure,Result.andThen_ok,hr]
      .rw [Lk.po];refine .inr ⟨b',c',_,k2,setRow_heap w b' _ _ T1 _ hg,oF,nM,?_,?_,?_⟩
       .simp only[fJ,cA,b8,eC,dr];have afj:=qW;simp only[dr]at afj;rw[de aC];omega
       .intro i' j' mo qY;obtain⟨o1,o2⟩:=ki i' j' mo qY;have hlen:i'*s+j'<cur.size:=by
         rw[mR];have:=bK s (aC:i'+1<=c');rw[bR,bU]at this;omega
        have pX:i'≠i->i'*s+j'<i*s\/i*s+s<=i'*s+j':=by
         intro jh;rcases Nat.lt_or_gt_of_ne jh with im|im
         .left;have:=bK s (show i'+1<=i from im);rw[bR,bU]at this;omega
         .right;have:=bK s (show i+1<=i' from im);rw[bR,bU]at this;omega
        simp only[gj];rw[amQ,eB,b8,dr,de aC];by_cases lg:i'=i/\j<=j'/\j'<j+m.length
        .obtain ⟨rfl,p1,p2⟩:=lg;rw[aY aC,dw (by rw[q1.len];omega)];have e1:i'*s+j'-(i'*s+j)=j'-j:= aC ;have im:j'-j<(a.eval y).cells.toList.length:=by rw[q1.len];omega
         rw[aZ ⟨rfl,p1,p2⟩,e1,bd,bt im];exact⟨rfl,q2 _ (cz im)⟩
        .rw [aY lg];refine⟨?_,o2⟩;by_cases iQ:i'*s+j'<i*s+j
         .rw [aZ iQ,dW,aZ iQ];simpa using o1
         .rw [aY iQ,fI,eA]
          .have:i*s+j+(a.eval y).cells.toList.length+(i'*s+j'-(i*s+j)-(a.eval y).cells.toList.length)=i'*s+j':=by
            rw[q1.len];by_cases Fu:i'=i
            .subst Fu;omega
            .have:=pX Fu;omega
           rw[this];simpa using o1
          .rw [q1.len];by_cases Fu:i'=i
           .subst Fu;omega
           .have:=pX Fu;omega
       .intro hn v hv;simp only[gl,dB]at hv;rcases hv with(hv|hv)|hv
        .exact jA hn v (by have:=ep hv;simpa using this)
        .obtain ⟨q,hq⟩:=dq.1 hv;have wU:q<m.length:=by rw[<-q1.len];exact(bY.1 hq).1
         have MU:m.all E.mS=true:=by have:=hc.1.2;rw[hn]at this;simpa using this
         exact(q1.kD q _ v (bt wU) hq).mS (bN.1 MU _ (cz wU))
        .exact jA hn v (by have:=eK hv;simpa using this)
      .rw [Lk.po];exact(Lk.sR x).trans (h2 x)
      .intro i' j' mo qY;refine(λ(q:ix _ _ _ _ _/\_)=>⟨hl.kD q.1,q.2⟩) (?_:_/\_);dsimp only;by_cases lg:i'=i/\j<=j'/\j'<j+m.length
       .rw [aZ lg,aZ lg];have DB:j'-j<m.length:= aC ;have FO:j'-j<(a.eval y).cells.toList.length:=by rw[q1.len];omega
        rw[bd,bt DB,bd,bt FO];exact⟨q1.kD _ _ _ (bt DB) (bt FO),bN.1 hc.2 _ (cz DB)⟩
       .rw [aY lg,aY lg];exact h3 i' j' mo qY
      .intro hn;have:=r.hl hn id _ jf;exact this
    .cases h
   .cases h
  .
   rename_i id i id' k oG B5;rw[oG]at hx;rw[B5]at hy;split at h
   .rename_i nl T1 T0 n sz len el k' jf;split at h
    .rename_i hc;cases h;simp only[bF]at hc;have c1:=kK.1 hc.1;have c2:=kK.1 hc.2;subst c1;have e1:i=k':=ho _ aH;have e2:k=k':=ho _ aH;have hk:k'<n:=ho _ aH;subst e1 e2;obtain⟨b,c,cur,f,h1,h2,h3,h4,h5,h6,h7,h8,h9,pT,rS⟩:=(r.hb id _ jf).wq aC;obtain⟨k1,b',n',c',k2,k3⟩:=hx;obtain⟨_,AF⟩:=hy;rw[h1]at k2;cases k2;have B0:(L.iD id k).oneCell'=true/\qk (L.iD id k)=false/\(L.iD id k).cells = #[L.iD id k]:=by
      rcases(h8 k hk).1 with⟨e,_⟩|⟨_,_,_,e,_⟩<;>rw[e]<;>exact⟨rfl,rfl,rfl⟩
     have lr:L.own id b:=(h9 b).2 (.inl rfl);have ht:=rp.setRow (L:=L) lr (λx hx=>(r.hw id x hx).2) (cur.toList.take (k*1+0)++(a.eval y).cells.toList++cur.toList.drop (k*1+0+(a.eval y).cells.toList.length)).toArray;have hl:=ht.later (L.val id) (L.iD id);have xL:(a.eval y).cells.toList=[L.iD id k]:=by rw[AF,B0.2.2]
     have TR:(cur.toList.take (k*1+0)++(a.eval y).cells.toList++cur.toList.drop (k*1+0+(a.eval y).cells.toList.length)).toArray=cur.setIfInBounds k (L.iD id k):=by
      rw[xL];apply dj;simp only[b5,bS,fw,anc];rw[List.set_eq_take_append_cons_drop,aZ (by simpa using(aC:k<cur.size))];simp
     rw[TR]at ht hl;have wP:∀ x,x≠b->(w.setRow b (cur.setIfInBounds k (L.iD id k))).heap[x]? = w.heap[x]?:=λx hx=>setRow_other w b x _ hx
     refine⟨undef,_,_,.inr ⟨?_,rfl⟩,r.vu id _ _ k1 ht (.inr ⟨b,c,cur.setIfInBounds k (L.iD id k),f,by rw[Lk.po];exact h1,setRow_heap w b _ _ T1 _ h2,h3,h4,by simpa using h5,?_,?_,?_,?_,?_,?_⟩) ?_,.any _⟩
     .have hr:=Kl hT w qB b (k*1+0) T1 cur h2 (a.eval y) (by rw[xL];simpa using c2.symm) (by rw[xL];simp;omega) (by rw[xL];simpa using B0.1);rw[TR]at hr;simp only[execOp,il,k3,Instr.storeAt,Instr.sureAddr,Sem.run_bind,Sem.run_pure,Result.andThen_ok,hr]
     .intro q hq _;rw[Lk.rZ];by_cases ub:q=k
      .subst ub;have:q<cur.size:= aC ;simp[this]
      .rw [ana (λe=>ub e.symm)];exact h6 q hq (by simpa using λe=>ub e.symm)
     .intro v hv;rcases Array.mem_or_eq_of_mem_setIfInBounds hv with hv|hv
      .exact h7 v hv
      .subst hv;exact B0.2.1
     .intro q hq;obtain⟨p1,p2⟩:=h8 q hq;rw[Lk.rZ];exact⟨p1.block λx hx=>wP x λe=>rS q hq (e▸hx),λi j hi hj=>⟨hl.kD (p2 i j hi hj).1,(p2 i j hi hj).2⟩⟩
     .intro x;rw[Lk.sR];refine(h9 x).trans ?_;simp only[Lk.rZ]
     .simp only[Lk.rZ];exact pT
     .simp only[Lk.rZ];exact rS
     .intro hn;have:=r.hl hn id _ jf;exact this
    .cases h
   .cases h
  .cases h
 .cases h
def aek(hT:mf P T){t:TypeId}(il:o.op = .alloc t)(r:iT w0 B σ a w L)(h:jm P K T O σ o=some u):jP P K w0 B σ o a w u:=by
 simp only[jm,il]at h;split at h
 .rename_i ti qB;split at h
  .rename_i z hz;obtain⟨id,hd,jA,rfl⟩:=JJ h;obtain⟨zv,sI,rF⟩:=Er hz;obtain⟨q1,q2⟩:=rF (ja B L) (jx L) w;obtain⟨L',r',hp⟩:=r.Wx id t z zv q1 q2 (by simpa[Bx.nl]using jA);refine⟨_,_,L',.inl ?_,r',hp⟩;simp only[execOp,il,Instr.alloc,Sem.run_bind,Pa hT w qB sI,Result.andThen_ok,newVar,newRow,run_newObj_alloc,Sem.run_pure]
  .cases h
 .cases h
def aeo{t:TypeId}{x:Operand}(il:o.op = .box t x)(r:iT w0 B σ a w L)(h:jm P K T O σ o=some u):jP P K w0 B σ o a w u:=by
 simp only[jm,il]at h;have hx:=r.op x;split at h
 .rename_i e hv;rw[hv]at hx;split at h
  .rename_i l hl;obtain⟨id,hd,jA,rfl⟩:=JJ h;obtain⟨q1,q2⟩:=hx.cells hl;obtain⟨L',r',hp⟩:=r.Wx id t l (a.eval x) q1 q2 (by simpa[Bx.nl]using jA);refine⟨_,_,L',.inl ?_,r',hp⟩;simp only[execOp,il,Instr.box,Sem.run_bind,Result.andThen_ok,newVar,newRow,run_newObj_alloc,Sem.run_pure]
  .cases h
 .cases h
end
def adX(us:List Value):∀ (off k:Nat) (cs:Array Value),off+k+us.length<=cs.size ->
 (us.zipIdx k).foldl (λcs (c:Value×Nat)=>cs.setIfInBounds (off+c.2) c.1) cs=(cs.toList.take (off+k)++us++cs.toList.drop (off+k+us.length)).toArray:=by
 induction us with
 |nil=>intro off k cs h;simp
 |cons x us ih=>
  intro off k cs h;simp only[List.zipIdx_cons,List.foldl_cons];rw[ih off (k+1) _ (by simp at h ⊢;omega)];apply dj;simp only[cM]at h;obtain⟨A,y,D,mR,hA⟩:∃ A y D,cs.toList=A++y::D/\A.length=off+k:=by
   have im:off+k<cs.toList.length:= aN ;refine⟨cs.toList.take (off+k),cs.toList[off+k],cs.toList.drop (off+k+1),?_,by rw[b8];omega⟩;rw[<-eO im,ado]
  simp only[anc,cM,mR,<-hA];rw[List.set_append_right _ _ (bc _),cX,List.set_cons_zero,
   show off+(k+1)+us.length=A.length+(us.length+1)by omega,(aC:off+(k+1)=A.length+1),
   List.take_length_add_append,ane,List.take_left,ane]
  simp
def SK(place:Nat->Option (Nat×Nat))(cs:Array Value)(i:Nat)(v:Value)(rest:List (Nat×Value))(off:Nat)(hp:place i=some (off,v.cells.toList.length))(qW:off+v.cells.toList.length<=cs.size):
 Instr.fill place cs ((i,v)::rest)=Instr.fill place (cs.toList.take off++v.cells.toList++cs.toList.drop (off+v.cells.toList.length)).toArray rest:=by
 have h1:¬(v.cells.size≠v.cells.toList.length\/off+v.cells.size>cs.size):=by simp at qW ⊢;omega
 have hf:=adX v.cells.toList off 0 cs (by simpa using qW);simp only[bS]at hf;have h2:(v.cells.zipIdx.foldl (λcs (c,j)=>cs.setIfInBounds (off+j) c) cs)=(cs.toList.take off++v.cells.toList++cs.toList.drop (off+v.cells.toList.length)).toArray:=by
  rw[<-hf,<-Array.foldl_toList,Array.toList_zipIdx]
 rw[Instr.fill,hp];simp only;rw[aY (by simpa using h1),h2]
section
variable {P:Program} {K:World->Prop} {T:List TI} {O:pR} {w0:World} {B:Nat->Prop} {σ:PS} {o:Oper} {a:Act} {w:World} {L:Lk} {u:ku}
def LY(r:iT w0 B σ a w L){place:Nat->Option (Nat×Nat)}{ps:List (Nat×Operand)}{l m:List E}{cs:Array Value}(h:r9 σ place l ps=some m)
 (hr:j9 (ja B L) (jx L) w l cs.toList) (h1:∀ u ∈ cs,u.oneCell'=true):
 ∃ cs',Instr.fill place cs (ps.map λx=>(x.1,a.eval x.2))=some cs'/\j9 (ja B L) (jx L) w m cs'.toList/\(∀ u ∈ cs',u.oneCell'=true):=by
 induction ps generalizing l cs with
 |nil=>
  simp only[r9]at h;cases h;exact⟨cs,rfl,hr,h1⟩
 |cons p ps ih=>
  obtain⟨i,x⟩:=p;simp only[r9]at h;have hx:=r.op x;split at h
  .rename_i off size e hp hv;rw[hv]at hx;split at h
   .rename_i q hq;split at h
    .rename_i hc;simp only[bF]at hc;have c1:=kK.1 hc.1;have c2:=cF hc.2;obtain⟨q1,q2⟩:=hx.cells hq;have hlen:(a.eval x).cells.toList.length=size:=by rw[q1.len,c1]
     have BN:=hr.len;rw[dY,SK place cs i (a.eval x) _ off (by rw[hlen];exact hp) (by rw[q1.len];simp at BN;omega)];refine ih h (WZ hr q1 off) λv hv=>?_
     simp only[gl,dB]at hv;rcases hv with(hv|hv)|hv
     .exact h1 v (by have:=ep hv;simpa using this)
     .exact q2 v hv
     .exact h1 v (by have:=eK hv;simpa using this)
    .cases h
   .cases h
  .cases h
def Oz(ps:Array (Nat×Operand))(a:Act):(ps.map λ(x:Nat×Operand)=>(x.1,a.eval x.2)).toList=ps.toList.map λx=>(x.1,a.eval x.2):= aH 
def ain{P:Program}(hT:mf P T){fs:List Field}{pl:List (Nat×Nat)}(h:Gx T fs=some pl):fs.mapM (λf=>(P.info? f.type).map λi=>(f.offset,i.size))=some pl:=by
 induction fs generalizing pl with
 |nil=>simp only[Gx]at h;cases h;rfl
 |cons f fs ih=>
  simp only[Gx]at h;split at h
  .rename_i ti l h1 h2;cases h;simp[gq,hT.yY h1,ih h2]
  .cases h
def aep(hT:mf P T){t:TypeId}{ps:Array (Nat×Operand)}(il:o.op = .build t ps)(r:iT w0 B σ a w L)(h:jm P K T O σ o=some u):jP P K w0 B σ o a w u:=by
 simp only[jm,il]at h;have main:∀ (l:List E) (cs:Array Value),P.built t (ps.toList.map λx=>(x.1,a.eval x.2))=some cs->j9 (ja B L) (jx L) w l cs.toList->u={ r:=.e (.agg l) }->jP P K w0 B σ o a w u:=by
  intro l cs hb hr hu;subst hu;have kC:=run_build (P:=P) w t (ps.map λ(x:Nat×Operand)=>(x.1,a.eval x.2)) cs (by rw[Oz];exact hb);refine jP.pure r (v:=.agg cs) ?_ rfl (by have:=hr.agg;rwa[Array.toArray_toList]at this);simp only[execOp,il,Sem.run_bind,kC,Result.andThen_ok,Sem.run_pure]
 split at h
 .rename_i ti qB;split at h
  .rename_i z hz;obtain⟨zv,sI,rF⟩:=Er hz;obtain⟨q1,q2⟩:=rF (ja B L) (jx L) w;split at h
   .rename_i fs hd;split at h
    .rename_i pl B4;obtain⟨l,hl,rfl⟩:=cH.1 h;obtain⟨cs,p1,p2,_⟩:=LY r hl q1 (λu hu=>q2 u (by simpa using hu));refine main l cs ?_ p2 rfl;unfold Program.built;rw[hT.yY qB,hT.qM qB,hd];simp only[sI,ain hT B4];have:(λx:Nat=>pl.toArray[x]?)=λx=>pl[x]?:=by funext x;simp
     rw[this];exact p1
    .cases h
   .rename_i n e hd;split at h
    .rename_i te nk;obtain⟨l,hl,rfl⟩:=cH.1 h;obtain⟨cs,p1,p2,_⟩:=LY r hl q1 (λu hu=>q2 u (by simpa using hu));refine main l cs ?_ p2 rfl;unfold Program.built;rw[hT.yY qB,hT.qM qB,hd];simp only[sI,hT.yY nk];exact p1
    .cases h
   .cases h
  .cases h
 .cases h
def Xj{α:Type}(n:Nat)(l:List α):(kD n l).length=n*l.length:=by
 induction n with
 |zero=>simp[kD]
 |succ n ih=>simp only[kD,cA,ih,bR,bU];omega
def ai7{α:Type}(n:Nat)(l:List α)(q:Nat)(h:q<n*l.length):(kD n l)[q]? = l[q%l.length]?:=by
 induction n generalizing q with
 |zero=>simp at h
 |succ n ih=>
  simp only[kD];rw[bR,bU]at h;by_cases hq:q<l.length
  .rw [dw hq,bX hq]
  .rw [fI aC,ih _ aC];congr 1;exact(Nat.mod_eq_sub_mod aC).symm
def ai8{bs br:Nat->Prop}{z:List E}{zs:Array Value}(h:j9 bs br w z zs.toList)(n:Nat):j9 bs br w (kD n z) ((Array.range (n*zs.size)).map (zs[· % zs.size]!)).toList:=by
 have hl:=h.len;simp only[dr]at hl;refine⟨by simp[Xj,hl],λi p x hp hx=>?_⟩;have hi:i<n*zs.size:=by
  have:=(bY.1 hx).1;simpa using this
 have hz:0<zs.size:=by
  rcases dZ zs.size with h0|h0
  .rw [h0]at hi;simp at hi
  .exact h0
 rw[ai7 _ _ _ (by rw[<-hl];exact hi),<-hl]at hp;have im:=bE i hz;simp[hi]at hx;subst hx;rw[eV zs _ im];exact h.kD _ p _ hp (by simp[im])
def Ym(hB:∀ b,B b->b<w0.heap.size)(r:iT w0 B σ a w L)(e:TypeId)(n sz:Nat)(l:List E)(cs:Array Value)(nl:Bool)(hr:j9 (ja B L) (jx L) w l cs.toList)(h1:∀ u ∈ cs,u.oneCell'=true)(hlen:cs.size=n*sz)
 (tX:n<=9223372036854775807) (jA:nl=true->l.all E.mS=true) (tc:l.all (E.nr 2)=true):
 iT w0 B σ a (w.alloc (.cells cs e)) L/\ix (ja B L) (jx L) (w.alloc (.cells cs e)) (.sl nl n sz λi j=>l.getD (i*sz+j) (.v (.bool false))) (.slice (some ⟨w.heap.size,0,none⟩) n n):=by
 have hb:Below w.heap.size w (w.alloc (.cells cs e)):=(Below.refl _ _).alloc (bc _) _;have hl:rL L w L (w.alloc (.cells cs e)):=⟨hb.size,λ_ _ h=>h,λx hx _=>hb.block x hx⟩
 refine⟨r.later hb,?_⟩;have lg:∀ i j,i<n->j<sz->i*sz+j<cs.size:=by
  intro i j hi hj;rw[hlen];have:=bK sz (show i+1<=n from hi);rw[bR,bU]at this;omega
 have sd:=hr.len;simp only[dr]at sd;refine .sl nl n sz _ _ n (λi j=>cs.getD (i*sz+j) undef) (bc _) tX (λh=>by cases h) (λi j hi hj=>?_) (λi j hi hj=>?_) (λi j hi hj=>?_) (λi j hi hj=>?_)
 .have hq:=lg i j hi hj;have e1:cs.getD (i*sz+j) undef=cs[i*sz+j]:=by simp[hq]
  rw[e1];refine⟨h1 _ (gh hq),λqA=>?_⟩;have uO:i*sz+j<l.length:= aC ;exact(hr.kD (i*sz+j) _ _ (bt uO) (by simp[hq])).mS (bN.1 (jA qA) _ (cz uO))
 .have hq:=lg i j hi hj;have uO:i*sz+j<l.length:= aC ;rw[bd,bt uO];exact bN.1 tc _ (cz uO)
 .have hq:=lg i j hi hj;refine⟨w.heap.size,0,rfl,λAo=>?_,aH,?_⟩
  .rcases Ao with hx|⟨id,hx⟩
   .have:=hB _ hx;have:=r.he.size;omega
   .have:=(r.hw id _ hx).2;omega
  .rw [bZ,World.cell?_alloc_new];simp[hq]
 .have hq:=lg i j hi hj;have uO:i*sz+j<l.length:= aC ;have e1:cs.getD (i*sz+j) undef=cs[i*sz+j]:=by simp[hq]
  rw[e1,bd,bt uO];exact hl.kD (hr.kD (i*sz+j) _ _ (bt uO) (by simp[hq]))
def agJ{l:List E}{vs:List Value}{bs br:Nat->Prop}{w:World}(h:j9 bs br w l vs)(hl:l.all E.mS=true):∀ v ∈ vs,qk v=false:=by
 intro v hv;obtain⟨i,hi⟩:=dq.1 hv;obtain⟨yL,_⟩:=bY.1 hi;have Fv:i<l.length:=by have:=h.len;omega
 exact(h.kD i _ v (bt Fv) hi).mS (bN.1 hl _ (cz Fv))
def Q9(w:World)(hT:mf P T){t e:TypeId}{by_:Nat}(h:Ii T t=some (e,by_)):∃ te zv uz,P.underlying t=some (.slice e)/\mr T e=some te/\te.i.size=1/\te.i.bytes=by_/\1<=by_/\te.i.zero=some zv/\zv.cells = #[uz]/\uz.oneCell'=true/\qk uz=false:=by
 unfold Ii at h;split at h
 .rename_i tt pL;split at h
  .rename_i e' hd;split at h
   .rename_i te nk;split at h
    .rename_i z hz;split at h
     .rename_i hc;simp only[bu,bM]at h;obtain⟨rfl,rfl⟩:=h;simp only[bF]at hc;obtain⟨zv,sI,rF⟩:=Er hz;obtain⟨q1,q2⟩:=rF (λ_=>False) (λ_=>False) w;have hl:=q1.len;simp only[dr,cM,amR]at hl;obtain⟨uz,UA⟩:∃ uz,zv.cells = #[uz]:=by
       refine⟨zv.cells[0],?_⟩;apply Array.ext
       .simpa using hl
       .intro i h1 h2;obtain rfl:i=0:=by simp at h2;omega
        rfl
      rw[UA]at q1 q2;exact⟨te,zv,uz,by rw[hT.qM pL,hd],nk,kK.1 hc.1.1,rfl,cF hc.1.2,sI,UA,q2 uz aH,(q1.kD 0 z uz rfl rfl).mS hc.2⟩
     .cases h
    .cases h
   .cases h
  .cases h
 .cases h
def nG.head{v:Value}{T:TypeId}{n sz:Nat}{f:Nat->Nat->Value}{nl:Bool}(h:nG w v T n sz f nl):v.cells.toList=[v]/\v.oneCell'=true/\qk v=false:=by
 rcases h with⟨g,_⟩|⟨b1,c1,cur,g,_⟩<;>rw[g]<;>exact⟨rfl,rfl,rfl⟩
def aeM(hT:mf P T){t:TypeId}{n q:Nat}{ps:Array (Nat×Operand)}(il:o.op = .buildSlice t n ps)(sF:AX σ ps.toList=some q)(r:iT w0 B σ a w L)(h:BG T σ o.dst t n q=some u):jP P K w0 B σ o a w u:=by
 obtain⟨x,oG,hx⟩:∃ x,ps.toList=[(0,x)]/\σ.op x = .own q:=by
  unfold AX at sF;split at sF
  .rename_i x oG;refine⟨x,oG,?_⟩;generalize σ.op x=p at sF ⊢;cases p<;>simp only[PV.D4,reduceCtorEq,bu]at sF;rw[sF]
  .cases sF
 have UF:=r.op x;rw[hx]at UF;obtain⟨k1,k2⟩:=UF;unfold BG at h;split at h
 .rename_i id I4;split at h
  .rename_i nl T0 m sz el e by_ kr uL Ar;split at h
   .rename_i hc;cases h;simp only[bF,dI]at hc;obtain rfl:=kK.1 hc.1;have jh:id≠q:=λe=>by have:=hc.2;rw[e,cg]at this;cases this
    obtain⟨te,zv,uz,hu,nk,tg,_,_,sI,AH,_,_⟩:=Q9 w hT Ar;obtain⟨f,g1,g2,g3⟩:=r.hb q _ uL;obtain⟨d1,d2,d3⟩:=g1.head;have kC:(execOp a.eval o).run P w = .ok (.value (.slice (some ⟨w.heap.size,0,none⟩) 1 1)) (w.alloc (.cells #[L.val q] e)):=by
     have mR:(Array.range (1*te.i.size)).map (zv.cells[· % zv.cells.size]!) = #[uz]:=by
      rw[tg,AH];refine Array.ext aH λi h1 h2=>?_
      have:i=0:=by simp at h2;omega
      subst this;simp
     have I5:Instr.fill (λi=>some (i*te.i.size,te.i.size)) #[uz] (ps.map λ(x:Nat×Operand)=>(x.1,a.eval x.2)).toList=some #[L.val q]:=by
      rw[Oz,oG];simp only[dY,List.map_nil];rw[SK _ _ _ _ _ 0 (by rw[k2,d1,tg];rfl) (by rw[k2,d1];simp)];rw[k2,d1];rfl
     have tW:¬(1*te.i.size>16777216):= aC ;have h0:¬(1*te.i.size=0):= aC ;simp only[execOp,il,Instr.buildSlice,Sem.run_bind,run_underlying hu,Result.andThen_ok,tC hT w nk,tW,bk,h0,Sem.run_pure,Pa hT w nk sI,mR,I5,newRow,run_newObj_alloc]
    have im:w.heap.size<(w.alloc (.cells #[L.val q] e)).heap.size:= aH ;have hb:Below w.heap.size w (w.alloc (.cells #[L.val q] e)):=(Below.refl _ _).alloc (bc _) _;refine⟨_,_,_,.inl kC,r.qD jh _ (λx=>x=w.heap.size\/L.own q x) (.slice (some ⟨w.heap.size,0,none⟩) 1 1) (λ_=>L.val q) _ (λy hy=>?_) hb.size (λy hy _=>hb.block y hy) rfl rfl rfl (λhl=>?_) (λMT=>?_) (λhn=>?_),Lk.Ny jh,Lk.FY.symm⟩
    .rcases hy with rfl|hy
     .exact ⟨.inr (.inr (bc _)),im⟩
     .exact ⟨.inr (.inl hy),eZ (r.hw q y hy).2 im⟩
    .refine .inr ⟨w.heap.size,1,#[L.val q],λ_=>f,Lk.FY,heap_alloc_new w _,bc _,aE,rfl,λk hk _=>?_,λv hv=>?_,λk hk=>?_,λy=>?_,λk k' y hk Fy _ _=> aC,λk hk=>?_⟩
     .obtain rfl:k=0:= aC ;rw[Lk.xP];rfl
     .have:v=L.val q:=by simpa using hv
      rw[this];exact d3
     .rw [Lk.xP];exact⟨g1.block λy hy=>hb.block y (r.hw q y ((g2 y).2 hy)).2,λi j hi hj=>⟨hl.kD (g3 i j hi hj).1,(g3 i j hi hj).2⟩⟩
     .rw [Lk.Vm];constructor
      .rintro (h|h)
       .exact .inl h
       .exact .inr ⟨0,aE,by rw[Lk.xP];exact(g2 y).1 h⟩
      .rintro (h|⟨k,_,h⟩)
       .exact .inl h
       .rw [Lk.xP]at h;exact .inr ((g2 y).2 h)
     .rw [Lk.xP];intro h;have:=(r.hw q _ ((g2 _).2 h)).2;omega
    .have:=(r.hv id).1 MT;rw[kr]at this;cases this
    .have:=r.hl hn q _ uL;exact this
   .cases h
  .cases h
 .cases h
def aeq(hT:mf P T)(hB:∀ b,B b->b<w0.heap.size){t:TypeId}{n:Nat}{ps:Array (Nat×Operand)}(il:o.op = .buildSlice t n ps)(r:iT w0 B σ a w L)(h:jm P K T O σ o=some u):jP P K w0 B σ o a w u:=by
 simp only[jm,il]at h;split at h
 .rename_i q hq;exact aeM hT il hq r h
 split at h
 .rename_i tt pL;split at h
  .rename_i e hd;split at h
   .rename_i te nk;split at h
    .rename_i z hz;split at h
     .rename_i hc;simp only[bF]at hc;have c1:=kK.1 hc.1.1;have c2:=cF hc.2;obtain⟨zv,sI,rF⟩:=Er hz;obtain⟨q1,q2⟩:=rF (ja B L) (jx L) w;have hu:P.underlying t=some (.slice e):=by rw[hT.qM pL,hd]
      have Cg:zv.cells.size=te.i.size:=by have:=q1.len;simp only[dr]at this;omega
      obtain⟨l,hl,h⟩:=gr.1 h;obtain⟨cs,p1,p2,p3⟩:=LY r hl (ai8 q1 n) (λv hv=>by
       simp only[fK,fL]at hv;obtain⟨q,hq,rfl⟩:=hv;have DO:0<zv.cells.size:=by
        rcases dZ zv.cells.size with h0|h0
        .rw [h0]at hq;simp at hq
        .exact h0
       rw[eV zv.cells _ (bE q DO)];exact q2 _ aH)
      have hlen:l.length=n*te.i.size:=by
       have:∀ (ps:List (Nat×Operand)) (l m:List E),r9 σ (λi=>some (i*te.i.size,te.i.size)) l ps=some m->m.length=l.length:=by
        intro ps
        induction ps with
        |nil=>intro l m h;simp only[r9]at h;cases h;rfl
        |cons p ps ih=>
         intro l m h;obtain⟨i,x⟩:=p;simp only[r9]at h;split at h
         .split at h
          .split at h
           .rename_i hc;simp only[bF]at hc;have:=cF hc.2;rw[ih _ _ h];simp[AY];omega
           .cases h
          .cases h
         .cases h
       rw[this _ _ _ hl,Xj,c1]
      have mR:cs.size=n*te.i.size:=by have:=p2.len;simp only[dr]at this;omega
      have I5:Instr.fill (λi=>some (i*te.i.size,te.i.size)) ((Array.range (n*te.i.size)).map (zv.cells[· % zv.cells.size]!)) (ps.map λ(x:Nat×Operand)=>(x.1,a.eval x.2)).toList=some cs:=by
       rw[Oz,<-Cg];rw[<-Cg]at p1;exact p1
      have kC:(execOp a.eval o).run P w = .ok (.value (.slice (some ⟨w.heap.size,0,none⟩) n n)) (w.alloc (.cells cs e)):=by
       have tW:¬(n*te.i.size>16777216):= aC ;by_cases h0:n*te.i.size=0
       .have e0:∀ g:Nat->Value,(Array.range 0).map g = #[]:=λg=>by simp[Array.range]
        have TU:=I5;rw[h0,e0]at TU;have z24:¬(0>2^24):= aE ;simp only[execOp,il,Instr.buildSlice,Sem.run_bind,run_underlying hu,Result.andThen_ok,tC hT w nk,tW,bk,h0,z24,bw,Sem.run_pure,e0,TU,newRow,run_newObj_alloc]
       .simp only[execOp,il,Instr.buildSlice,Sem.run_bind,run_underlying hu,Result.andThen_ok,tC hT w nk,tW,bk,h0,Sem.run_pure,Pa hT w nk sI,I5,newRow,run_newObj_alloc]
      have mh:n<=9223372036854775807:=by
       have:=fZ n (cF hc.1.2);omega
      by_cases tc:l.all (E.nr 2)=true
      .simp only[tc,eR,bB,bk]at h;split at h
       .
        obtain⟨id,I4,kr,jA,rfl⟩:=F9 h;have hb:Below w.heap.size w (w.alloc (.cells cs e)):=(Below.refl _ _).alloc (bc _) _;have ht:rp L w id (λx=>x=w.heap.size) (w.alloc (.cells cs e)):=⟨λx hx=>⟨.inr aC,aN⟩,hb.size,λx hx _=>hb.block x hx,rfl,rfl,rfl⟩
        have im:=ht.later (.slice (some ⟨w.heap.size,0,none⟩) n n) (λ_=>undef);have BU:∀ i j,i<n->j<te.i.size->i*te.i.size+j<n*te.i.size:=by
         intro i j hi hj;have:=bK te.i.size (show i+1<=n from hi);rw[bR,bU]at this;omega
        refine⟨_,_,_,.inl kC,r.new id _ (λx=>x=w.heap.size) (.slice (some ⟨w.heap.size,0,none⟩) n n) (λ_=>undef) _ kr (λx hx=>by subst hx;simp) hb
         ⟨λi j=>cs.getD (i*te.i.size+j) undef,.inr ⟨w.heap.size,n,cs,Lk.po,heap_alloc_new w _,bc _,by unfold maxLen;omega,mR,λi j hi hj=>?_,λhn u hu=>?_⟩,λx=>?_,λi j hi hj=>?_⟩ jA,Lk.Bd,Lk.po.symm⟩
        .have hq:i*te.i.size+j<cs.size:=by rw[mR];exact BU i j hi hj
         have e1:cs.getD (i*te.i.size+j) undef=cs[i*te.i.size+j]:=by simp[hq]
         show cs[i*te.i.size+j]? = some (cs.getD (i*te.i.size+j) undef)/\(cs.getD (i*te.i.size+j) undef).oneCell'=true;rw[e1];exact⟨by simp[hq],p3 _ aH⟩
        .exact agJ p2 hn u (by simpa using hu)
        .rw [Lk.sR,Lk.po];simp only[Value.ownBlock,bu];exact eq_comm
        .have hq:i*te.i.size+j<cs.size:=by rw[mR];exact BU i j hi hj
         have wU:i*te.i.size+j<l.length:=by rw[hlen];exact BU i j hi hj
         have e1:cs.getD (i*te.i.size+j) undef=cs[i*te.i.size+j]:=by simp[hq]
         simp only[bd,bt wU,amS,e1];exact⟨im.kD (p2.kD _ _ _ (bt wU) (by simp[hq])),bN.1 tc _ (cz wU)⟩
       split at h
       .rename_i IZ;cases h;obtain⟨r',hp⟩:=Ym hB r e n te.i.size l cs true p2 p3 mR mh (λ_=>IZ) tc;exact⟨_,_,L,.inl kC,r',hp⟩
       .cases h;obtain⟨r',hp⟩:=Ym hB r e n te.i.size l cs false p2 p3 mR mh (λh=>by cases h) tc;exact⟨_,_,L,.inl kC,r',hp⟩
      .simp [tc]at h
     .cases h
    .cases h
   .cases h
  .cases h
 .cases h
end
def IB{P:Program}{t e:TypeId}(h:P.underlying t=some (.slice e)):P.elem t=e:=by simp[Program.elem,h]
def adf{P:Program}{t e:TypeId}{n:Nat}(h:P.underlying t=some (.array n e)):P.elem t=e/\P.arrayLen t=n:=by simp[Program.elem,Program.arrayLen,h]
section
variable {P:Program} {K:World->Prop} {T:List TI} {O:pR} {w0:World} {B:Nat->Prop} {σ:PS} {o:Oper} {a:Act} {w:World} {L:Lk} {u:ku}
def aew(hT:mf P T){t:TypeId}{x i:Operand}(il:o.op = .indexAddr t x i)(r:iT w0 B σ a w L)(h:jm P K T O σ o=some u)(ho:∀ q,q ∈ u.jr->q):jP P K w0 B σ o a w u:=by
 simp only[jm,il,IC]at h;have hx:=r.op x;have hi:=r.op i;split at h
 .rename_i k z hpi;rw[hpi]at hi;have hi:=ix.kz hi;split at h
  .rename_i tt pL;split at h
   .
    rename_i e hd;have hu:P.underlying t=some (.slice e):=by rw[hT.qM pL,hd]
    have he:=IB hu;split at h
    .rename_i te nk;have kC:∀ (ad:Addr) (n c:Nat),a.eval x = .slice (some ad) n c->0<=z->z<n->(execOp a.eval o).run P w = .ok (.value (.pointer (some (ad.add (z.toNat*te.i.size))))) w:=by
      intro ad n c e1 h0 h1;have hr:=run_indexAt_slice (P:=P) w t ad n c k z (by rw[he];exact hu);rw[aZ ⟨h0,h1⟩,he,tC hT w nk]at hr;simp only[execOp,il,e1,hi,Sem.run_bind,hr,Result.andThen_ok,Sem.run_pure]
     split at h
     .rename_i nl n sz el oG;rw[oG]at hx;split at h
      .rename_i hs;simp only[bF]at hs;have tf:=cF hs.2;have hs:=kK.1 hs.1;cases h;have hz:0<=z/\z<n:=ho _ aH;have yW:z.toNat<n:= aC ;generalize hq:a.eval x=q at hx;cases hx with
       |sl _ _ _ _ A c f hc hm h0 hl tc cell kk=>
        obtain⟨b,of,e1,hb,im,_⟩:=cell z.toNat 0 yW tf;subst e1;refine jP.pure r (kC ⟨b,of,none⟩ n c hq hz.1 hz.2) rfl ?_;rw[Addr.add_lit,hs];refine .iN sz _ b _ (λj=>f z.toNat j) (λhm=>hb (.inr hm)) im (λj hj=>(hl _ _ yW hj).1) (λj hj=>?_) (λj hj=>kk _ _ yW hj);obtain⟨b',of',e2,_,_,Fq⟩:=cell z.toNat j yW hj;cases e2;rwa[<-cR]at Fq
      .cases h
     .rename_i fl nl n sz el oG;rw[oG]at hx;split at h
      .rename_i hs;simp only[bF]at hs;have tf:=cF hs.2;have hs:=kK.1 hs.1;cases h;have hz:0<=z/\z<n:=ho _ aH;have yW:z.toNat<n:= aC ;generalize hq:a.eval x=q at hx;cases hx with
       |nf _ _ _ _ _ A c f hc hm h0 hl tc cell kk=>
        obtain⟨b,of,e1,hb,im,_⟩:=cell z.toNat 0 yW tf;subst e1;refine jP.pure r (kC ⟨b,of,none⟩ n c hq hz.1 hz.2) rfl ?_;rw[Addr.add_lit,hs];refine .iN sz _ b _ (λj=>f z.toNat j) hb im (λj hj=>(hl _ _ yW hj).1) (λj hj=>?_) (λj hj=>kk _ _ yW hj);obtain⟨b',of',e2,_,_,Fq⟩:=cell z.toNat j yW hj;cases e2;rwa[<-cR]at Fq
      .cases h
     .rename_i id oG;rw[oG]at hx;split at h
      .rename_i nl T1 n sz el jf;split at h
       .rename_i hs;have hs:=kK.1 hs;cases h;have hz:0<=z/\z<n:=ho _ aH;obtain⟨f,h1,h2,h3⟩:=r.hb id _ jf;obtain⟨k1,k2⟩:=hx;rcases h1 with⟨h1,qA⟩|⟨b,c,cur,h1,hg,oF,nM,mR,ki,jA⟩
        .omega
        .rw [h1]at k2;refine jP.pure r (kC ⟨b,0,none⟩ n c k2 hz.1 hz.2) rfl ⟨k1,b,n,c,h1,?_⟩;rw[Addr.add_lit,hs,bZ,bS]
       .cases h
      .rename_i nl T1 T0 n sz len el pend jf;split at h
       .rename_i hs;have hs:=kK.1 hs;cases h;have hz:0<=z/\z<n:=ho _ aH;obtain⟨b,c,cur,f,h1,h2,h3,h4,h5,h6,h7,h8,h9,pT,rS⟩:=(r.hb id _ jf).wq aC;obtain⟨k1,k2⟩:=hx;rw[h1]at k2;refine jP.pure r (kC ⟨b,0,none⟩ n c k2 hz.1 hz.2) rfl ⟨k1,b,n,c,h1,?_⟩;rw[Addr.add_lit,hs,bZ,bS]
       .cases h
      .cases h
     .rename_i id k oG;rw[oG]at hx;split at h
      .rename_i nl T1 T0 n sz len el pend jf;split at h
       .rename_i hs;have hs:=kK.1 hs;cases h;have hk:k<n:=ho _ aH;have hz:0<=z/\z<len k:=ho _ aH;obtain⟨b0,c0,cur0,f,g1,g2,g3,g4,g5,g6,g7,g8,_⟩:=(r.hb id _ jf).wq aC;obtain⟨k1,k2⟩:=hx;rcases(g8 k hk).1 with⟨h1,qA⟩|⟨b,c,cur,h1,hg,oF,nM,mR,ki,jA⟩
        .omega
        .rw [h1]at k2;refine jP.pure r (kC ⟨b,0,none⟩ (len k) c k2 hz.1 hz.2) rfl ⟨k1,b,len k,c,h1,?_⟩;rw[Addr.add_lit,hs,bZ,bS]
       .cases h
      .cases h
     .cases h
    .cases h
   .
    rename_i n e hd;have hu:P.underlying t=some (.array n e):=by rw[hT.qM pL,hd]
    obtain⟨he,hn⟩:=adf hu;split at h
    .rename_i te nk;have kC:∀ (ad:Addr),a.eval x = .pointer (some ad)->0<=z->z<n->(execOp a.eval o).run P w = .ok (.value (.pointer (some (ad.add (z.toNat*te.i.size))))) w:=by
      intro ad e1 h0 h1;have hr:=run_indexAt_array (P:=P) w t ad k z (by rw[he,hn];exact hu);rw[hn,aZ ⟨h0,h1⟩,he,tC hT w nk]at hr;simp only[execOp,il,e1,hi,Sem.run_bind,hr,Result.andThen_ok,Sem.run_pure]
     split at h
     .rename_i id off oG;rw[oG]at hx;cases h;have hz:0<=z/\z<n:=ho _ aH;obtain⟨k1,b,k2,k3⟩:=hx;refine jP.pure r (kC _ k3 hz.1 hz.2) rfl ⟨k1,b,k2,?_⟩;rw[Addr.add_lit]
     .rename_i m el oG;rw[oG]at hx;split at h
      .rename_i hs;have hs:=kK.1 hs;cases h;have hz:0<=z/\z<n:=ho _ aH;have lg:∀ j,j<te.i.size->z.toNat*te.i.size+j<m:=by
        intro j hj;rw[<-hs];have:=bK te.i.size (aC:z.toNat+1<=n);rw[bR,bU]at this;omega
       generalize hq:a.eval x=q at hx;cases hx with
       |iN _ _ b of f hb im hl cell kk=>
        refine jP.pure r (kC _ hq hz.1 hz.2) rfl ?_;rw[Addr.add_lit];refine .iN te.i.size _ b _ (λj=>f (z.toNat*te.i.size+j)) hb im (λj hj=>hl _ (lg j hj)) (λj hj=>?_) (λj hj=>kk _ (lg j hj));have:=cell _ (lg j hj);rwa[<-cR]at this
      .cases h
     .cases h
    .cases h
   .cases h
  .cases h
 .cases h
def aeJ(hT:mf P T){t:TypeId}{x:Operand}{lo hi:Option Operand}(il:o.op = .slice t x lo hi none)(r:iT w0 B σ a w L)(h:jm P K T O σ o=some u)(ho:∀ q,q ∈ u.jr->q):jP P K w0 B σ o a w u:=by
 simp only[jm,il,IF]at h;have hx:=r.op x;split at h
 .rename_i nl n sz el oG;rw[oG]at hx;split at h
  .rename_i tt pL;split at h
   .rename_i e hd;have hu:P.underlying t=some (.slice e):=by rw[hT.qM pL,hd]
    have he:=IB hu;have wW:P.underlying t=some (.slice (P.elem t)):=by rw[he];exact hu
    split at h
    .rename_i te nk;split at h
     .rename_i hs;have hs:=kK.1 hs;generalize hq:a.eval x=q at hx;cases hx with
      |sl _ _ _ _ A c f hc hm h0 hl tc cell kk=>
       have fin:∀ l h':Nat,l<=h'->h'<=n->ix (ja B L) (jx L) w (.sl nl (h'-l) sz λi j=>el (l+i) j) (sliced A l h' c te.i.size):=by
        intro l h' hlh hhn;unfold sliced;refine .sl nl (h'-l) sz _ _ (c-l) (λi j=>f (l+i) j) aC aC (λhA=>?_) (λi j hi hj=>hl _ _ aC hj) (λi j hi hj=>tc _ _ aC hj) (λi j hi hj=>?_) (λi j hi hj=>kk _ _ aC hj)
        .split at hA
         .have:=h0 hA;omega
         .have:=h0 (by simpa using hA);omega
        .obtain ⟨b,of,e1,hb,im,ki⟩:=cell (l+i) j aC hj;subst e1;rw[aY aC];refine⟨b,of+l*te.i.size,by rw[cv,Addr.add_lit],hb,im,?_⟩;rw[hs];rw[bR]at ki;rw[<-ki];congr 2;omega
       have run:∀ (l h':Nat) (lo' mo:Option Value),lo.map a.eval=lo'->hi.map a.eval=mo->(Instr.slice t (.slice A n c) lo' mo none).run P w = .ok (sliced A l h' c te.i.size) w ->
        (execOp a.eval o).run P w = .ok (.value (sliced A l h' c te.i.size)) w:=by
        intro l h' lo' mo e1 e2 hr;simp only[execOp,il,Sem.run_bind,hq,e1,e2,Option.map_none,run_sliceAt_slice (P:=P) w t _ _ _ _ wW,hr,Result.andThen_ok,Sem.run_pure]
       split at h
       .rename_i kh hh qg rD;cases h;have hb:0<=hh/\hh<=n:=ho _ aH;cases lo with
        |some _=>simp at qg
        |none=>
         cases hi with
         |none=>simp at rD
         |some hi=>
          simp only[cv,bu]at rD;have hv:=r.op hi;rw[rD]at hv;have hv:=ix.kz hv;have hr:=run_slice_h (P:=P) w t A n c wW kh hh hb.1 aC;rw[he,tC hT w nk]at hr;have hf:=fin 0 hh.toNat (bV _) aC ;simp only[dt,bZ]at hf;exact jP.pure r (run 0 hh.toNat none (some (.int kh hh)) rfl (by rw[cv,hv]) hr) rfl hf
       .rename_i kl ll qg rD;cases h;have hb:0<=ll/\ll<=n:=ho _ aH;cases hi with
        |some _=>simp at rD
        |none=>
         cases lo with
         |none=>simp at qg
         |some lo=>
          simp only[cv,bu]at qg;have hv:=r.op lo;rw[qg]at hv;have hv:=ix.kz hv;have hr:=run_slice_l (P:=P) w t A n c wW kl ll hb.1 hb.2;rw[he,tC hT w nk]at hr;exact jP.pure r (run ll.toNat n (some (.int kl ll)) none (by rw[cv,hv]) rfl hr) rfl (fin ll.toNat n aC (bc _))
       .rename_i kl ll kh hh qg rD;cases h;have hb:0<=ll/\ll<=hh/\hh<=n:=ho _ aH;cases hi with
        |none=>simp at rD
        |some hi=>
         cases lo with
         |none=>simp at qg
         |some lo=>
          simp only[cv,bu]at qg rD;have hv:=r.op lo;rw[qg]at hv;have hv:=ix.kz hv;have qZ:=r.op hi;rw[rD]at qZ;have qZ:=ix.kz qZ;have hr:=run_slice_lh (P:=P) w t A n c wW kl kh ll hh hb.1 hb.2.1 aC;rw[he,tC hT w nk]at hr;exact jP.pure r (run ll.toNat hh.toNat (some (.int kl ll)) (some (.int kh hh)) (by rw[cv,hv]) (by rw[cv,qZ]) hr) rfl (fin ll.toNat hh.toNat aC aC)
       .cases h
     .cases h
    .cases h
   .cases h
  .cases h
 .rename_i fl nl n sz el oG;rw[oG]at hx;split at h
  .rename_i tt pL;split at h
   .rename_i e hd;have hu:P.underlying t=some (.slice e):=by rw[hT.qM pL,hd]
    have he:=IB hu;have wW:P.underlying t=some (.slice (P.elem t)):=by rw[he];exact hu
    split at h
    .rename_i te nk;split at h
     .rename_i hs;have hs:=kK.1 hs;generalize hq:a.eval x=q at hx;cases hx with
      |nf _ _ _ _ _ A c f hc hm h0 hl tc cell kk=>
       have fin:∀ l h':Nat,l<=h'->h'<=n->ix (ja B L) (jx L) w (.nf fl nl (h'-l) sz λi j=>el (l+i) j) (sliced A l h' c te.i.size):=by
        intro l h' hlh hhn;unfold sliced;refine .nf fl nl (h'-l) sz _ _ (c-l) (λi j=>f (l+i) j) aC aC (λhA=>?_) (λi j hi hj=>hl _ _ aC hj) (λhf i j hi hj=>tc hf _ _ aC hj) (λi j hi hj=>?_) (λi j hi hj=>kk _ _ aC hj)
        .split at hA
         .have:=h0 hA;omega
         .have:=h0 (by simpa using hA);omega
        .obtain ⟨b,of,e1,hb,im,ki⟩:=cell (l+i) j aC hj;subst e1;rw[aY aC];refine⟨b,of+l*te.i.size,by rw[cv,Addr.add_lit],hb,im,?_⟩;rw[hs];rw[bR]at ki;rw[<-ki];congr 2;omega
       have run:∀ (l h':Nat) (lo' mo:Option Value),lo.map a.eval=lo'->hi.map a.eval=mo->(Instr.slice t (.slice A n c) lo' mo none).run P w = .ok (sliced A l h' c te.i.size) w ->
        (execOp a.eval o).run P w = .ok (.value (sliced A l h' c te.i.size)) w:=by
        intro l h' lo' mo e1 e2 hr;simp only[execOp,il,Sem.run_bind,hq,e1,e2,Option.map_none,run_sliceAt_slice (P:=P) w t _ _ _ _ wW,hr,Result.andThen_ok,Sem.run_pure]
       split at h
       .rename_i kh hh qg rD;cases h;have hb:0<=hh/\hh<=n:=ho _ aH;cases lo with
        |some _=>simp at qg
        |none=>
         cases hi with
         |none=>simp at rD
         |some hi=>
          simp only[cv,bu]at rD;have hv:=r.op hi;rw[rD]at hv;have hv:=ix.kz hv;have hr:=run_slice_h (P:=P) w t A n c wW kh hh hb.1 aC;rw[he,tC hT w nk]at hr;have hf:=fin 0 hh.toNat (bV _) aC ;simp only[dt,bZ]at hf;exact jP.pure r (run 0 hh.toNat none (some (.int kh hh)) rfl (by rw[cv,hv]) hr) rfl hf
       .rename_i kl ll qg rD;cases h;have hb:0<=ll/\ll<=n:=ho _ aH;cases hi with
        |some _=>simp at rD
        |none=>
         cases lo with
         |none=>simp at qg
         |some lo=>
          simp only[cv,bu]at qg;have hv:=r.op lo;rw[qg]at hv;have hv:=ix.kz hv;have hr:=run_slice_l (P:=P) w t A n c wW kl ll hb.1 hb.2;rw[he,tC hT w nk]at hr;exact jP.pure r (run ll.toNat n (some (.int kl ll)) none (by rw[cv,hv]) rfl hr) rfl (fin ll.toNat n aC (bc _))
       .rename_i kl ll kh hh qg rD;cases h;have hb:0<=ll/\ll<=hh/\hh<=n:=ho _ aH;cases hi with
        |none=>simp at rD
        |some hi=>
         cases lo with
         |none=>simp at qg
         |some lo=>
          simp only[cv,bu]at qg rD;have hv:=r.op lo;rw[qg]at hv;have hv:=ix.kz hv;have qZ:=r.op hi;rw[rD]at qZ;have qZ:=ix.kz qZ;have hr:=run_slice_lh (P:=P) w t A n c wW kl kh ll hh hb.1 hb.2.1 aC;rw[he,tC hT w nk]at hr;exact jP.pure r (run ll.toNat hh.toNat (some (.int kl ll)) (some (.int kh hh)) (by rw[cv,hv]) (by rw[cv,qZ]) hr) rfl (fin ll.toNat hh.toNat aC aC)
       .cases h
     .cases h
    .cases h
   .cases h
  .cases h
 .cases h
end
section
variable {P:Program} {K:World->Prop} {T:List TI} {O:pR} {w0:World} {B:Nat->Prop} {σ:PS} {o:Oper} {a:Act} {w:World} {L:Lk} {u:ku}
def abX{x:Value}{l:List E}(h:(E.v x).cells? = some l):∀ e,e ∈ l->e.nr 2=true:=by
 intro e he;cases x<;>simp only[E.cells?]at h
 case agg cs=>
  split at h
  .cases h;obtain⟨q,_,rfl⟩:=dh.1 he;rfl
  .cases h
 all_goals
  split at h
  .cases h;simp only[gp]at he;subst he;rfl
  .cases h
def ame{ti:TI}{l:List E}(h:yd ti=some l):∀ e,e ∈ l->e.nr 2=true:=by
 unfold yd at h;split at h
 .exact abX h
 .cases h
def NG{l:List E}{vs:List Value}{bs br:Nat->Prop}(h:j9 bs br w l vs)(hl:l.all E.mS=true):∀ v ∈ vs,qk v=false:=by
 intro v hv;obtain⟨q,hq⟩:=dq.1 hv;have wU:q<l.length:=by rw[<-h.len];exact(bY.1 hq).1
 exact(h.kD q _ v (bt wU) hq).mS (bN.1 hl _ (cz wU))
def VJ{z:Array Value}{n q:Nat}(hz:0<z.size)(hq:q<n):(madeCells z n)[q]? = some (z[q%z.size]'(bE _ hz)):=by
 unfold madeCells;simp[hq];rw[eV z _ (bE _ hz)]
def VK{z:Array Value}{n:Nat}(hz:0<z.size){v:Value}(hv:v ∈ madeCells z n):v ∈ z:=by
 unfold madeCells at hv;simp only[fK,fL]at hv;obtain⟨q,hq,rfl⟩:=hv;rw[eV z _ (bE _ hz)];exact gh _
def aeC(hT:mf P T){t:TypeId}{l c:Operand}(il:o.op = .makeSlice t l c)(r:iT w0 B σ a w L)(h:jm P K T O σ o=some u)(ho:∀ q,q ∈ u.jr->q):jP P K w0 B σ o a w u:=by
 simp only[jm,il,IE]at h;have hl:=r.op l;have hc:=r.op c;split at h
 .rename_i bx jr iW;obtain⟨id,I4,kr,jA,rfl⟩:=F9 h;clear h;simp only[St]at iW;split at iW
  rotate_left
  .cases iW
  rename_i kl zl kc zc B4 hpc;rw[B4]at hl;rw[hpc]at hc;have hl:=ix.kz hl;have hc:=ix.kz hc;split at iW
  .rename_i tt pL;split at iW
   .rename_i e hd;have hu:P.underlying t=some (.slice e):=by rw[hT.qM pL,hd]
    split at iW
    .rename_i te nk;split at iW
     .rename_i z hz;split at iW
      .rename_i yJ;simp only[bF]at yJ;have c1:=kK.1 yJ.1;have c2:=cF yJ.2;obtain⟨zv,sI,rF⟩:=Er hz;obtain⟨q1,q2⟩:=rF (ja B L) (jx L) w;have Cg:zv.cells.size=te.i.size:=by have:=q1.len;simp only[dr]at this;omega
       have DO:0<zv.cells.size:= aC ;have key:∀ (h1:0<=zl/\zl<=zc) (h2:(te.i.bytes:Int)*zc<=281474976710656/\zc<=9223372036854775807),
        (execOp a.eval o).run P w = .ok (.value (.slice (some ⟨w.heap.size,0,none⟩) zl.toNat zc.toNat)) (w.alloc (.cells (madeCells zv.cells (zc.toNat*te.i.size)) e)):=by
        intro h1 h2;have hr:=run_make (P:=P) w t e te.i zv hu (hT.yY nk) sI kl kc zl zc h1.1 h1.2 h2.1 h2.2;simp only[execOp,il,hl,hc,Sem.run_bind,hr,Result.andThen_ok,Sem.run_pure]
       have hb:∀ o':Obj,Below w.heap.size w (w.alloc o'):=λo'=>(Below.refl _ _).alloc (bc _) _
       have lens:zl<=zc->zc<=9223372036854775807->zl.toNat<=zc.toNat/\zc.toNat<=maxLen:=by intro h1 h2;unfold maxLen;omega
       split at iW
       .
        rename_i e0 hd0;split at iW
        .rename_i t0 M4;obtain⟨y,ys,Ce,hy,BX⟩:=q1.nj;have hy:=ix.kz hy;have BX:=BX.rW;subst hy BX;have UJ:zv.cells = #[.slice none 0 0]:=by apply dj;rw[Ce]
         have my:te.i.size=1:=by rw[<-Cg,UJ];rfl
         cases iW;have h1:0<=zl/\zl<=zc:=ho _ aH;have h2:(te.i.bytes:Int)*zc<=281474976710656/\zc<=9223372036854775807:=ho _ aH;have hlen:=lens h1.2 h2.2;have IZ:∀ v,v ∈ madeCells zv.cells (zc.toNat*te.i.size)->v = .slice none 0 0:=λv hv=>by
          have:=VK DO hv;rw[UJ]at this;simpa using this
         refine⟨_,_,_,.inl (key h1 h2),r.new id _ (λx=>x=w.heap.size) (.slice (some ⟨w.heap.size,0,none⟩) zl.toNat zc.toNat) (λ_=>.slice none 0 0) _ kr (λx hx=>by subst hx;simp) (hb _)
          (.inr ⟨w.heap.size,zc.toNat,_,λ_ _ _=>undef,Lk.po,heap_alloc_new w _,hlen.1,hlen.2,by rw[size_madeCells,my,b5],λk hk _=>?_,λv hv=>?_,λk hk=>?_,λx=>?_,λk k' x hk Fy h1=>?_,λk hk=>?_⟩) jA,Lk.Bd,Lk.po.symm⟩
         .rw [Lk.rZ];have hq:k<zc.toNat*te.i.size:=by rw[my];omega
          have hg:=VJ DO hq;rw[hg];exact congrArg some (IZ _ (dH hg))
         .rw [IZ v hv];rfl
         .rw [Lk.rZ];exact⟨.inl ⟨rfl,rfl⟩,λi j hi=>absurd hi (bn i)⟩
         .rw [Lk.sR];simp only[Lk.rZ,Value.ownBlock];simp
         .rw [Lk.rZ]at h1;simp[Value.ownBlock]at h1
         .rw [Lk.rZ];simp[Value.ownBlock]
        .cases iW
       .cases iW;have h1:0<=zl/\zl<=zc:=ho _ aH;have h2:(te.i.bytes:Int)*zc<=281474976710656/\zc<=9223372036854775807:=ho _ aH;have hlen:=lens h1.2 h2.2;refine⟨_,_,_,.inl (key h1 h2),r.new id _ (λx=>x=w.heap.size) (.slice (some ⟨w.heap.size,0,none⟩) zl.toNat zc.toNat) (λ_=>undef) _ kr (λx hx=>by subst hx;simp) (hb _)
         ⟨λ_ j=>zv.cells.getD j undef,.inr ⟨w.heap.size,zc.toNat,_,Lk.po,heap_alloc_new w _,hlen.1,hlen.2,size_madeCells _ _,λi j hi hj=>?_,λhn v hv=>?_⟩,λx=>?_,λi j hi hj=>?_⟩ jA,Lk.Bd,Lk.po.symm⟩
        .have hq:i*te.i.size+j<zc.toNat*te.i.size:=by
          have:=bK te.i.size (aC:i+1<=zc.toNat);rw[bR,bU]at this;omega
         have MV:(i*te.i.size+j)%zv.cells.size=j:=by rw[Cg,bD,fG,bX hj]
         have qY:j<zv.cells.size:= aC ;rw[VJ DO hq];simp only[MV];have e1:zv.cells.getD j undef=zv.cells[j]:=by simp[qY]
         rw[e1];exact⟨rfl,q2 _ aH⟩
        .exact NG q1 hn v (by have:=VK DO hv;simpa using this)
        .rw [Lk.sR,Lk.po];simp only[Value.ownBlock,bu];exact eq_comm
        .have qY:j<zv.cells.size:= aC ;have MN:j<z.length:= aC ;have e1:zv.cells.getD j undef=zv.cells[j]:=by simp[qY]
         simp only[e1];rw[bd,bt MN];obtain⟨p1,_⟩:=rF (ja B (L.set id (λx=>x=w.heap.size) (.slice (some ⟨w.heap.size,0,none⟩) zl.toNat zc.toNat) (λ_=>undef))) (jx (L.set id (λx=>x=w.heap.size) (.slice (some ⟨w.heap.size,0,none⟩) zl.toNat zc.toNat) (λ_=>undef))) (w.alloc (.cells (madeCells zv.cells (zc.toNat*te.i.size)) e));exact⟨p1.kD j _ _ (bt MN) (by simp[qY]),ame hz _ (cz MN)⟩
      .cases iW
     .cases iW
    .cases iW
   .cases iW
  .cases iW
 .cases h
def aey(hT:mf P T){x:Operand}{t:TypeId}{c:Call}(hc:c={ callee:=.builtin .len,args:=#[x],argTypes:=#[t] })(il:o.op = .call c){e:TypeId}(hd:wI T t=some (.slice e))(r:iT w0 B σ a w L){rr:Value×List Nat}(h:sx (σ.op x) σ=some rr)(hu:u={ r:=.e (.v rr.1),rb:=rr.2 }):jP P K w0 B σ o a w u:=by
 obtain⟨ti,h1,h2⟩:=Ac hd;have Uz:P.underlying t=some (.slice e):=by rw[hT.qM h1,h2]
 have he:=IB Uz;have hx:=r.op x;have key:∀ (A:Option Addr) (n cp:Nat),a.eval x = .slice A n cp->rr.1 = .int .i64 (n:Int)->jP P K w0 B σ o a w u:=by
  intro A n cp e1 e2;have hr:=run_len_slice (P:=P) w t o.type A n cp (by rw[he];exact Uz);subst hu;refine jP.pure r (v:=.int .i64 (n:Int)) ?_ rfl (by rw[e2];exact .v _);subst hc;have em:(#[x]:Array Operand).map a.eval = #[a.eval x]:= aH ;simp only[execOp,il,resolve,em,e1,Sem.run_bind,Sem.run_pure,Result.andThen_ok,invoke,builtin,hr];rfl
 cases hp:σ.op x with
 |e y=>
  rw[hp]at h hx;cases y with
  |sl nl n sz el=>
   simp only[sx,bu]at h;generalize hq:a.eval x=q at hx;cases hx with
   |sl _ _ _ _ A c f hc hm h0 hl tc cell kk=>exact key A n c hq (by rw[<-h])
  |nf fl nl n sz el=>
   simp only[sx,bu]at h;generalize hq:a.eval x=q at hx;cases hx with
   |nf _ _ _ _ _ A c f hc hm h0 hl tc cell kk=>exact key A n c hq (by rw[<-h])
  |v y=>
   have hx:=ix.kz hx;cases y with
   |slice A n cp=>
    simp only[sx,bu]at h;exact key A n cp hx (by rw[<-h])
   |_=>simp[sx]at h
  |_=>simp[sx]at h
 |own id=>
  rw[hp]at h hx;obtain⟨_,k2⟩:=hx;simp only[sx]at h;split at h
  .rename_i nl T1 n sz el jf;simp only[bu]at h;obtain⟨f,q1,_,_⟩:=r.hb id _ jf;rcases q1 with⟨q1,q0⟩|⟨b,c,cur,q1,_⟩
   .rw [q1]at k2;exact key none 0 0 k2 (by rw[<-h,q0])
   .rw [q1]at k2;exact key _ n c k2 (by rw[<-h])
  .rename_i nl T1 T0 n sz len el pend jf;simp only[bu]at h;rcases r.hb id _ jf with⟨q1,q0,_⟩|⟨b,c,cur,f,q1,_⟩
   .rw [q1]at k2;exact key none 0 0 k2 (by rw[<-h,q0])
   rw[q1]at k2;exact key _ n c k2 (by rw[<-h])
  .cases h
 |iD id k=>
  rw[hp]at h hx;obtain⟨_,k2⟩:=hx;simp only[sx]at h;split at h
  .rename_i nl T1 T0 n sz len el pend jf;split at h
   .rename_i hk;have hk:k<n:=by simpa[fF]using hk
    simp only[bu]at h;obtain⟨b0,c0,cur0,f,g1,g2,g3,g4,g5,g6,g7,g8,_⟩:=(r.hb id _ jf).wq aC;rcases(g8 k hk).1 with⟨q1,q0⟩|⟨b,c,cur,q1,_⟩
    .rw [q1]at k2;exact key none 0 0 k2 (by rw[<-h,q0])
    .rw [q1]at k2;exact key _ (len k) c k2 (by rw[<-h])
   .cases h
  .cases h
 |_=>rw[hp]at h;simp[sx]at h
end
section
variable {P:Program} {K:World->Prop} {T:List TI} {O:pR} {w0:World} {B:Nat->Prop} {σ:PS} {o:Oper} {a:Act} {w:World} {L:Lk} {u:ku}
def nG.pZ{v:Value}{T:TypeId}{n sz:Nat}{f:Nat->Nat->Value}{nl nl':Bool}(h:nG w v T n sz f nl)(k:nl'=true->nl=true):nG w v T n sz f nl':=by
 rcases h with h|⟨b,c,cur,h1,h2,h3,h4,h5,h6,h7⟩
 .exact .inl h
 .exact .inr ⟨b,c,cur,h1,h2,h3,h4,h5,h6,λq=>h7 (k q)⟩
def ZJ{p:PV}{nl:Bool}{n sz:Nat}{el:Nat->Nat->E}(h:p.K8=some (nl,n,sz,el)){v:Value}(hv:mY (ja B L) (jx L) L w p v):∃ (A:Option Addr) (c:Nat) (f:Nat->Nat->Value),v = .slice A n c/\(A=none->c=0)/\n<=c /\
 (∀ i j,i<n->j<sz->(f i j).oneCell'=true/\(nl=true->qk (f i j)=false))/\(∀ i j,i<n->j<sz->∃ b o,A=some ⟨b,o,none⟩/\w.cell? ⟨b,o+(i*sz+j),none⟩=some (f i j)) /\
 ∀ i j,i<n->j<sz->ix (ja B L) (jx L) w (el i j) (f i j)/\(el i j).nr 2=true:=by
 unfold PV.K8 at h;split at h
 .cases h;cases hv with
  |sl _ _ _ _ A c f hc hm h0 hl hr cell k=>exact⟨A,c,f,rfl,h0,hc,hl,λi j hi hj=>by obtain⟨b,o,e,_,_,oo⟩:=cell i j hi hj;exact⟨b,o,e,oo⟩,λi j hi hj=>⟨k i j hi hj,hr i j hi hj⟩⟩
 .cases h;cases hv with
  |nf _ _ _ _ _ A c f hc hm h0 hl hr cell k=>exact⟨A,c,f,rfl,h0,hc,hl,λi j hi hj=>by obtain⟨b,o,e,_,_,oo⟩:=cell i j hi hj;exact⟨b,o,e,oo⟩,λi j hi hj=>⟨k i j hi hj,hr rfl i j hi hj⟩⟩
 .cases h
def Th(hT:mf P T){s x:Operand}{t:TypeId}{c:Call}(hc:c={ callee:=.builtin .append,args:=#[s,x],argTypes:=#[t,t] })(il:o.op = .call c)(r:iT w0 B σ a w L)
 (h:Ag T σ o.dst t (σ.op s) (σ.op x)=some u) (ho:∀ q,q ∈ u.jr->q):jP P K w0 B σ o a w u:=by
 have hs:=r.op s;have hx:=r.op x;simp only[Ag]at h;split at h
 .rename_i nl2 m sz2 el2 oG;obtain⟨A,cx,g,hqx,hg0,hgc,T3,gcell,gk⟩:=ZJ oG hx;split at h
  .rename_i tt pL;split at h
   .rename_i e hd;have hu:P.underlying t=some (.slice e):=by rw[hT.qM pL,hd]
    split at h
    .rename_i te nk;split at h
     .rename_i z hz;split at h
      .rename_i yJ;simp only[bF]at yJ;have c1:=kK.1 yJ.1.1.1;have c2:=cF yJ.1.1.2;have c3:=cF yJ.1.2;have c4:=kK.1 yJ.2;obtain⟨zv,sI,rF⟩:=Er hz;obtain⟨q1,q2⟩:=rF (ja B L) (jx L) w;have Cg:zv.cells.size=sz2:=by have:=q1.len;simp only[dr]at this;omega
       have key:∀ (v:Value) (n:Nat) (f:Nat->Nat->Value) (nl:Bool),a.eval s=v->nG w v e n sz2 f nl->(nl=true->nl2=true/\z.all E.mS=true)->(n+m)*te.i.bytes<=140737488355328 ->
        ∃ v' w',(execOp a.eval o).run P w = .ok (.value v') w'/\KS w v e n sz2 m f g nl v' w':=by
        intro v n f nl hv lr jA ji;obtain⟨v',w',hr,lP⟩:=Xy P w t o.type e te.i zv sz2 hu (hT.yY nk) sI c1 Cg aC c3 (λu hu=>q2 u (by simpa using hu)) v n f nl lr A m cx g
         gcell (λhA=>by have:=hg0 hA;omega)
         (λk j hk hj=>⟨(T3 k j hk hj).1,λhn=>(T3 k j hk hj).2 (jA hn).1⟩) (λhn u hu=>NG q1 (jA hn).2 u (by simpa using hu)) ji
        refine⟨v',w',?_,lP⟩;subst hc;have em:(#[s,x]:Array Operand).map a.eval = #[a.eval s,a.eval x]:= aH ;simp only[execOp,il,resolve,em,hv,hqx,Sem.run_bind,Sem.run_pure,Result.andThen_ok,invoke,builtin,hr]
       split at h
       .
        rename_i id sF;rw[sF]at hs;split at h
        .rename_i nl T1 n sz el jf;split at h
         .rename_i oo;simp only[bF]at oo;have d1:=kK.1 oo.1.1;have d2:=kK.1 oo.1.2;subst d1 d2;cases h;have ji:(n+m)*te.i.bytes<=140737488355328:=ho _ aH;obtain⟨f,p1,p2,p3⟩:=r.hb id _ jf;obtain⟨k1,k2⟩:=hs;have jA:(nl&&(nl2&&z.all E.mS))=true->nl2=true/\z.all E.mS=true:=λhn=>by simp only[bF]at hn;exact hn.2
          obtain⟨v',w',kC,lP⟩:=key (L.val id) n f _ k2 (p1.pZ λhn=>by simp only[bF]at hn;exact hn.1) jA ji;have ht:rp L w id (λy=>v'.ownBlock=some y) w':=by
           refine⟨λy hy=>?_,lP.size,λy hy kr=>lP.oH y hy λe1=>kr ((p2 y).2 e1),lP.os,lP.tape,lP.output⟩;rcases lP.EJ y hy with e1|⟨e1,e2⟩
           .have:=(p2 y).2 e1;exact⟨.inl this,bJ (r.hw id y this).2 lP.size⟩
           .exact ⟨.inr e1,e2⟩
          have hl:=ht.later v' (L.iD id);have hpt:∀ b,L.val id ≠ .pointer (some b):=λb e1=>by
           rcases p1 with⟨e2,_⟩|⟨_,_,_,e2,_⟩<;>rw[e1]at e2<;>cases e2
          refine⟨v',w',_,.inl kC,r.qU id _ _ v' w' hpt ht ⟨λi j=>if i<n then f i j else g (i-n) j,by rw[Lk.po];exact lP.own,λy=>by rw[Lk.sR,Lk.po],λi j hi hj=>(λ(q:ix _ _ _ _ _/\_)=>⟨hl.kD q.1,q.2⟩) (?_:_/\_)⟩ (λhn=>?_),Lk.Bd,Lk.po.symm⟩
          .by_cases lg:i<n
           .simp only[lg,bw];exact p3 i j lg hj
           .simp only[lg,bk];exact gk _ _ aC hj
          .have:=oo.2;rw[hn]at this;simpa[Bx.nl]using this
         .cases h
        .cases h
       .
        rename_i id k sF;rw[sF]at hs;split at h
        .rename_i nl T1 T0 n sz len el jf;split at h
         .rename_i oo;simp only[bF]at oo;have d1:=kK.1 oo.1.1;have d2:=kK.1 oo.1.2;subst d1 d2;cases h;have hk:k<n:=ho _ aH;have ji:(len k+m)*te.i.bytes<=140737488355328:=ho _ aH;obtain⟨b,cp,cur,f,p1,p2,p3,p4,p5,p6,p7,p8,p9,p10,p11⟩:=(r.hb id _ jf).wq aC;obtain⟨k1,k2⟩:=hs;have jA:nl=true->nl2=true/\z.all E.mS=true:=λhn=>by have:=oo.2;rw[hn]at this;simpa using this
          obtain⟨v',w',kC,lP⟩:=key (L.iD id k) (len k) (f k) nl k2 (p8 k hk).1 jA ji;have uK:∀ y,v'.ownBlock=some y->(L.iD id k).ownBlock=some y\/(w.heap.size<=y/\y<w'.heap.size):=lP.EJ;have tU:b<w.heap.size:=(r.hw id b ((p9 b).2 (.inl rfl))).2;have Aw:∀ q y,q<n->(L.iD id q).ownBlock=some y->y<w.heap.size:=λq y hq hy=>(r.hw id y ((p9 y).2 (.inr ⟨q,hq,hy⟩))).2
          have ht:rp L w id (λy=>y=b\/∃ q,q<n/\(if q=k then v' else L.iD id q).ownBlock=some y) w':=by
           refine⟨λy hy=>?_,lP.size,λy hy kr=>lP.oH y hy λe1=>kr ((p9 y).2 (.inr ⟨k,hk,e1⟩)),lP.os,lP.tape,lP.output⟩;rcases hy with rfl|⟨q,hq,hy⟩
           .exact ⟨.inl ((p9 y).2 (.inl rfl)),bJ tU lP.size⟩
           .by_cases ub:q=k
            .subst ub;rw[aZ rfl]at hy;rcases uK y hy with e1|⟨e1,e2⟩
             .have:=(p9 y).2 (.inr ⟨q,hq,e1⟩);exact⟨.inl this,bJ (r.hw id y this).2 lP.size⟩
             .exact ⟨.inr e1,e2⟩
            .rw [aY ub]at hy;have:=(p9 y).2 (.inr ⟨q,hq,hy⟩);exact⟨.inl this,bJ (r.hw id y this).2 lP.size⟩
          have hl:=ht.later (L.val id) (λq=>if q=k then v' else L.iD id q);have wP:∀ y,y<w.heap.size->(L.iD id k).ownBlock≠some y->w'.heap[y]? = w.heap[y]?:=lP.oH;refine⟨v',w',_,.inl kC,r.uG id _ _ (λq=>if q=k then v' else L.iD id q) w' ht
           (.inr ⟨b,cp,cur,λq i j=>if q=k then(if i<len q then f q i j else g (i-len q) j)else f q i j,by rw[Lk.po];exact p1,by rw[wP b tU (p11 k hk)];exact p2,p3,p4,p5,λq hq ub=>?_,p7,λq hq=>?_,λy=>?_,λq q' y hq uO hy rV=>?_,λq hq hy=>?_⟩) (λhn=>?_),Lk.Bd,?_⟩
          .have jh:q≠k:=λe1=>ub (by rw[e1])
           rw[Lk.rZ,aY jh];exact p6 q hq aH 
          .rw [Lk.rZ];by_cases ub:q=k
           .subst ub;simp only[bw];refine⟨lP.own,λi j hi hj=>(λ(q:ix _ _ _ _ _/\_)=>⟨hl.kD q.1,q.2⟩) (?_:_/\_)⟩;by_cases lg:i<len q
            .simp only[lg,bw];exact(p8 q hq).2 i j lg hj
            .simp only[lg,bk];exact gk _ _ aC hj
           .simp only[ub,bk];obtain⟨s1,s2⟩:=p8 q hq;exact⟨s1.block λy hy=>wP y (Aw q y hq hy) λe1=>ub (p10 q k y hq hk hy e1),λi j hi hj=>⟨hl.kD (s2 i j hi hj).1,(s2 i j hi hj).2⟩⟩
          .rw [Lk.sR];simp only[Lk.rZ]
          .simp only[Lk.rZ]at hy rV;by_cases h1:q=k
           .subst h1;by_cases h2:q'=q
            .exact h2.symm
            .rw [aZ rfl]at hy;rw[aY h2]at rV;rcases uK y hy with e1|⟨e1,_⟩
             .exact p10 q q' y hq uO e1 rV
             .have:=Aw q' y uO rV;omega
           .rw [aY h1]at hy;by_cases h2:q'=k
            .subst h2;rw[aZ rfl]at rV;rcases uK y rV with e1|⟨e1,_⟩
             .exact p10 q q' y hq uO hy e1
             .have:=Aw q y hq hy;omega
            .rw [aY h2]at rV;exact p10 q q' y hq uO hy rV
          .simp only[Lk.rZ]at hy;by_cases h1:q=k
           .subst h1;rw[aZ rfl]at hy;rcases uK b hy with e1|⟨e1,_⟩
            .exact p11 q hq e1
            .omega
           .rw [aY h1]at hy;exact p11 q hq hy
          .have:=r.hl hn id _ jf;exact this
          .rw [Lk.rZ,aZ rfl]
         .cases h
        .cases h
       .
        rename_i sF;rw[sF]at hs;have hs:=ix.kz hs;obtain⟨id,I4,kr,xM,rfl⟩:=F9 h;have ji:m*te.i.bytes<=140737488355328:=ho _ aH;obtain⟨v',w',kC,lP⟩:=key _ 0 g (nl2&&z.all E.mS) hs (.inl ⟨rfl,rfl⟩) (λhn=>by simpa using hn) (by simpa using ji);have hb:Below w.heap.size w w':=⟨lP.os,lP.tape,lP.output,lP.size,λy hy=>lP.oH y hy (by simp[Value.ownBlock])⟩
        have hO:∀ y,v'.ownBlock=some y->w.heap.size<=y/\y<w'.heap.size:=λy hy=>by
         rcases lP.EJ y hy with e1|e1
         .simp [Value.ownBlock]at e1
         .exact e1
        have ht:rp L w id (λy=>v'.ownBlock=some y) w':=⟨λy hy=>⟨.inr (hO y hy).1,(hO y hy).2⟩,hb.size,λy hy _=>hb.block y hy,hb.os,hb.tape,hb.output⟩
        have hl:=ht.later v' (λ_=>undef);have lr:=lP.own;rw[bZ]at lr;refine⟨v',w',_,.inl kC,r.new id _ (λy=>v'.ownBlock=some y) v' (λ_=>undef) w' kr hO hb ⟨λi j=>if i<0 then g i j else g (i-0) j,by rw[Lk.po];exact lr,λy=>by rw[Lk.sR,Lk.po],λi j hi hj=>(λ(q:ix _ _ _ _ _/\_)=>⟨hl.kD q.1,q.2⟩) (?_:_/\_)⟩ xM,Lk.Bd,Lk.po.symm⟩;simp only[bn,bk,dt];exact gk i j hi hj
       .cases h
      .cases h
     .cases h
    .cases h
   .cases h
  .cases h
 .cases h
def Vl{id q T0 T1 n m sz:Nat}{nl nl2:Bool}{len len2:Nat->Nat}{el el2:Nat->Nat->Nat->E}(jh:id≠q)(r:iT w0 B σ a w L){v':Value}{w':World}(hm:0<m)
 (hq:qp (ja B L) (jx L) L w q (.jC nl2 T1 T0 m sz len2 el2 none))
 (f1:Nat->Nat->Nat->Value)
 (h8:∀ k,k<n->nG w (L.iD id k) T0 (len k) sz (f1 k) nl/\∀ i j,i<len k->j<sz->ix (ja B L) (jx L) w (el k i j) (f1 k i j)/\(el k i j).nr 2=true)
 (h9:∀ k x,k<n->(L.iD id k).ownBlock=some x->L.own id x) (pT:∀ k k' x,k<n->k'<n->(L.iD id k).ownBlock=some x->(L.iD id k').ownBlock=some x->k=k')
 {v:Value} (DK:∀ y,v.ownBlock=some y->L.own id y) (rS:∀ k y,k<n->(L.iD id k).ownBlock=some y->v.ownBlock≠some y)
 (lr:nG w' v' T1 (n+m) 1 (λk _=>if k<n then L.iD id k else L.iD q (k-n)) true)
 (uK:∀ y,v'.ownBlock=some y->v.ownBlock=some y\/(w.heap.size<=y/\y<w'.heap.size))
 (my:w.heap.size<=w'.heap.size) (wP:∀ y,y<w.heap.size->v.ownBlock≠some y->w'.heap[y]? = w.heap[y]?) (B2:w'.os=w.os) (M6:w'.tape=w.tape) (py:w'.output=w.output)
 (kr:L.mj id->∀ b,L.val id ≠ .pointer (some b)) (jA:σ.nl=true->(nl&&nl2)=true):
 iT w0 B (σ.nL (.ri id q (.jC (nl&&nl2) T1 T0 (n+m) sz (λk=>if k<n then len k else len2 (k-n)) (λk=>if k<n then el k else el2 (k-n)) none))) a w'
  (L.qD id q (λy=>v'.ownBlock=some y\/∃ k,k<n+m/\(if k<n then L.iD id k else L.iD q (k-n)).ownBlock=some y) v' (λk=>if k<n then L.iD id k else L.iD q (k-n))):=by
 obtain⟨b,c,cur,f,g1,g2,g3,g4,g5,g6,g7,g8,g9,g10,g11⟩:=hq.wq hm;have MY:∀ k x,k<m->(L.iD q k).ownBlock=some x->L.own q x:=λk x hk hx=>(g9 x).2 (.inr ⟨k,hk,hx⟩)
 have Aw:∀ k y,k<n+m->(if k<n then L.iD id k else L.iD q (k-n)).ownBlock=some y->(L.own id y\/L.own q y)/\v.ownBlock≠some y:=by
  intro k y hk hy;by_cases e:k<n
  .rw [aZ e]at hy;exact⟨.inl (h9 k y e hy),rS k y e hy⟩
  .rw [aY e]at hy;have:=MY _ _ aC hy;exact⟨.inr this,λh=>jh (r.hi id q y (DK y h) this)⟩
 have im:∀ y,L.own id y\/L.own q y->y<w.heap.size:=λy h=>by
  rcases h with h|h
  .exact (r.hw id y h).2
  .exact (r.hw q y h).2
 refine r.qD jh _ _ v' _ w' (λy hy=>?_) my (λy hy aft=>wP y hy λh=>aft (DK y h)) B2 M6 py (λhl=>?_) kr jA
 .rcases hy with hy|⟨k,hk,hy⟩
  .rcases uK y hy with h|⟨h1,h2⟩
   .exact ⟨.inl (DK y h),bJ (r.hw id y (DK y h)).2 my⟩
   .exact ⟨.inr (.inr h1),h2⟩
  .have h:=(Aw k y hk hy).1;exact⟨h.elim .inl λh=>.inr (.inl h),bJ (im y h) my⟩
 .rcases lr with⟨_,h0⟩|⟨b',c',cur',k1,k2,k3,k4,k5,k6,k7⟩
  .omega
  .have T8:∀ k y,k<n+m->(if k<n then L.iD id k else L.iD q (k-n)).ownBlock=some y->w'.heap[y]? = w.heap[y]?:=λk y hk hy=>wP y (im y (Aw k y hk hy).1) (Aw k y hk hy).2
   refine .inr ⟨b',c',cur',λk=>if k<n then f1 k else f (k-n),by rw[Lk.FY];exact k1,k2,k3,k4,aC,λk hk _=>?_,λu hu=>?_,λk hk=>?_,λy=>?_,λk k' y hk Fy hy rV=>?_,λk hk hy=>?_⟩
   .rw [Lk.xP];have:=(k6 k 0 hk aE).1;rwa[b5,bS]at this
   .exact k7 rfl u hu
   .rw [Lk.xP];by_cases e:k<n
    .simp only[e,bw];obtain⟨s1,s2⟩:=h8 k e;refine⟨(s1.pZ λh=>?_).block λy hy=>T8 k y hk (by rw[aZ e];exact hy),λi j hi hj=>⟨hl.kD (s2 i j hi hj).1,(s2 i j hi hj).2⟩⟩;simp only[bF]at h;exact h.1
    .simp only[e,bk];obtain⟨s1,s2⟩:=g8 (k-n) aC;refine⟨(s1.pZ λh=>?_).block λy hy=>T8 k y hk (by rw[aY e];exact hy),λi j hi hj=>⟨hl.kD (s2 i j hi hj).1,(s2 i j hi hj).2⟩⟩;simp only[bF]at h;exact h.2
   .rw [Lk.Vm,k1];simp only[Lk.xP,Value.ownBlock,bu];constructor
    .rintro (h|h)
     .exact .inl h.symm
     .exact .inr h
    .rintro (h|h)
     .exact .inl h.symm
     .exact .inr h
   .simp only[Lk.xP]at hy rV;by_cases e:k<n
    .rw [aZ e]at hy;by_cases e':k'<n
     .rw [aZ e']at rV;exact pT k k' y e e' hy rV
     .rw [aY e']at rV;exact absurd (r.hi id q y (h9 k y e hy) (MY _ _ aC rV)) jh
    .rw [aY e]at hy;by_cases e':k'<n
     .rw [aZ e']at rV;exact absurd (r.hi id q y (h9 k' y e' rV) (MY _ _ aC hy)) jh
     .rw [aY e']at rV;have:=g10 (k-n) (k'-n) y aC aC hy rV;omega
   .rw [Lk.xP]at hy;have h:=Aw k b' hk hy;rcases uK b' (by rw[k1];rfl)with h2|⟨h2,_⟩
    .exact h.2 h2
    .have:=im b' h.1;omega
def aif{p:PV}{q:Nat}(h:p.D4=some q):p = .own q:=by
 cases p<;>simp only[PV.D4,reduceCtorEq,bu]at h;rw[h]
def aex(hT:mf P T){s x:Operand}{t:TypeId}{q:Nat}{c:Call}(hc:c={ callee:=.builtin .append,args:=#[s,x],argTypes:=#[t,t] })(il:o.op = .call c)(r:iT w0 B σ a w L)
  (hq:(σ.op x).D4=some q) (h:BF T σ o.dst t (σ.op s) q=some u) (ho:∀ q,q ∈ u.jr->q):jP P K w0 B σ o a w u:=by
 have hx:=r.op x;rw[aif hq]at hx;obtain⟨kx,kv⟩:=hx;have hs:=r.op s;unfold BF at h;split at h
 .rename_i nl2 T2 T0 m sz len2 el2 e by_ uL Ar;obtain⟨te,zv,uz,hu,nk,tg,I2,iQ,sI,AH,yV,FP⟩:=Q9 w hT Ar;have UM:∀ v,v ∈ zv.cells->v.oneCell'=true/\qk v=false:=λv hv=>by
   rw[AH]at hv;have:v=uz:=by simpa using hv
   rw[this];exact⟨yV,FP⟩
  have key:∀ (v:Value) (n:Nat) (f:Nat->Nat->Value),0<m->a.eval s=v->nG w v e n 1 f true->(n+m)*by_<=140737488355328 ->
    ∃ v' w',(execOp a.eval o).run P w = .ok (.value v') w'/\KS w v e n 1 m f (λk _=>L.iD q k) true v' w':=by
   intro v n f hm hv lr ji;obtain⟨bq,cq,curq,fq,g1,g2,g3,g4,g5,g6,g7,g8,g9,g10,g11⟩:=(r.hb q _ uL).wq hm;have DM:a.eval x = .slice (some ⟨bq,0,none⟩) m cq:=by rw[kv,g1]
   obtain⟨v',w',hr,lP⟩:=Xy P w t o.type e te.i zv 1 hu (hT.yY nk) sI tg (by rw[AH];rfl) aE aC (λv hv=>(UM v hv).1) v n f true lr (some ⟨bq,0,none⟩) m cq (λk _=>L.iD q k)
    (λk j hk hj=>⟨bq,0,rfl,by
     obtain rfl:j=0:= aC ;have:=g6 k hk aH;simp only[World.cell?,g2];simpa using this⟩) (λhA=>by cases hA)
    (λk j hk hj=>⟨(g8 k hk).1.head.2.1,λ_=>(g8 k hk).1.head.2.2⟩) (λ_ v hv=>(UM v hv).2) (by rw[I2];exact ji)
   refine⟨v',w',?_,lP⟩;subst hc;have em:(#[s,x]:Array Operand).map a.eval = #[a.eval s,a.eval x]:= aH ;simp only[execOp,il,resolve,em,hv,DM,Sem.run_bind,Sem.run_pure,Result.andThen_ok,invoke,builtin,hr]
  split at h
  .
   rename_i id sF;rw[sF]at hs;obtain⟨ks,ks2⟩:=hs;split at h
   .rename_i nl T1 T0' n sz' len el jf;split at h
    .rename_i oo;cases h;simp only[bF,dI]at oo;obtain rfl:=kK.1 oo.1.1.1.1;obtain rfl:=kK.1 oo.1.1.1.2;obtain rfl:=kK.1 oo.1.1.2;obtain rfl:=kK.1 oo.1.2;have jh:id≠q:=λe=>by have:=oo.2;rw[e,cg]at this;cases this
     have hm:0<m:=ho _ aH;have ji:(n+m)*by_<=140737488355328:=ho _ aH;obtain⟨f,pown,p8,p9,p10,DK,p11,pno⟩:∃ f:Nat->Nat->Nat->Value,nG w (L.val id) _ n 1 (λk _=>L.iD id k) true /\
       (∀ k,k<n->nG w (L.iD id k) T0' (len k) sz' (f k) nl/\∀ i j,i<len k->j<sz'->ix (ja B L) (jx L) w (el k i j) (f k i j)/\(el k i j).nr 2=true) /\
       (∀ k x,k<n->(L.iD id k).ownBlock=some x->L.own id x)/\(∀ k k' x,k<n->k'<n->(L.iD id k).ownBlock=some x->(L.iD id k').ownBlock=some x->k=k') /\
       (∀ y,(L.val id).ownBlock=some y->L.own id y)/\(∀ k y,k<n->(L.iD id k).ownBlock=some y->(L.val id).ownBlock≠some y)/\∀ b,L.val id ≠ .pointer (some b):=by
      rcases r.hb id _ jf with⟨h1,h2,h3⟩|⟨b,cp,cur,f,p1,p2,p3,p4,p5,p6,p7,p8,p9,p10,p11⟩
      .refine ⟨λ_ _ _=>undef,.inl ⟨h1,h2⟩,λk hk=> aC,λk x hk=> aC,λk k' x hk=> aC,λy hy=>?_,λk y hk=> aC,λb hb=>?_⟩
       .rw [h1]at hy;simp[Value.ownBlock]at hy
       .rw [h1]at hb;cases hb
      .refine ⟨f,.inr ⟨b,cp,cur,p1,p2,p3,p4,aC,λk j hk hj=>?_,λ_=>p7⟩,p8,λk y hk hy=>(p9 y).2 (.inr ⟨k,hk,hy⟩),p10,λy hy=>?_,λk y hk hy AF=>?_,λb1 iQ=>?_⟩
       .obtain rfl:j=0:= aC ;rw[b5,bS];exact⟨p6 k hk aH,(p8 k hk).1.head.2.1⟩
       .rw [p1]at hy;simp only[Value.ownBlock,bu]at hy;exact(p9 y).2 (.inl hy.symm)
       .rw [p1]at AF;simp only[Value.ownBlock,bu]at AF;exact p11 k hk (AF▸hy)
       .rw [p1]at iQ;cases iQ
     obtain⟨v',w',kC,lP⟩:=key (L.val id) n (λk _=>L.iD id k) hm ks2 pown ji;refine⟨v',w',_,.inl kC,Vl jh r hm (r.hb q _ uL) f p8 p9 p10 DK p11 lP.own lP.EJ lP.size lP.oH lP.os lP.tape lP.output (λ_=>pno) (λhn=>?_),Lk.Ny jh,Lk.FY.symm⟩
     .have h1:nl=true:=r.hl hn id _ jf;have h2:nl2=true:=r.hl hn q _ uL;rw[h1,h2];rfl
    .cases h
   .cases h
  .
   rename_i id sF I4;rw[sF]at hs;have hs:=ix.kz hs;split at h
   .rename_i kr;split at h
    .rename_i oo;cases h;simp only[bF,dI]at oo;obtain rfl:=kK.1 oo.1;have jh:id≠q:=λe=>by have:=oo.2;rw[e,cg]at this;cases this
     have hm:0<m:=ho _ aH;have ji:m*by_<=140737488355328:=ho _ aH;obtain⟨v',w',kC,lP⟩:=key _ 0 (λk _=>L.iD id k) hm hs (.inl ⟨rfl,rfl⟩) (by simpa using ji);have MT:¬L.mj id:=λh=>by have:=(r.hv id).1 h;rw[kr]at this;cases this
     have hj:=Vl (n:=0) (nl:=true) (len:=λ_=>0) (el:=λ_ _ _=>.any) jh r hm (r.hb q _ uL) (λ_ _ _=>undef) (λk hk=>absurd hk (bn k)) (λk y hk=>absurd hk (bn k)) (λk k' y hk=>absurd hk (bn k))
      (v:=.slice none 0 0) (λy hy=>by simp[Value.ownBlock]at hy) (λk y hk=>absurd hk (bn k)) lP.own lP.EJ lP.size lP.oH lP.os lP.tape lP.output (λh=>absurd h MT) (λhn=>r.hl hn q _ uL)
     simp only[bn,bk,dt,bZ,e9]at hj;exact⟨v',w',_,.inl kC,hj,Lk.Ny jh,Lk.FY.symm⟩
    .cases h
   .cases h
  .cases h
 .cases h
def ael(hT:mf P T)(hB:∀ b,B b->b<w0.heap.size){s x:Operand}{t:TypeId}{c:Call}(hc:c={ callee:=.builtin .append,args:=#[s,x],argTypes:=#[t,t] })(il:o.op = .call c)(r:iT w0 B σ a w L)
 (h:BE T σ o.dst t (σ.op s) (σ.op x)=some u) (ho:∀ q,q ∈ u.jr->q):jP P K w0 B σ o a w u:=by
 unfold BE at h;split at h
 .rename_i u0 h0;split at h
  .rename_i id nl T1 n sz el id' hf hr;split at h
   .rename_i hid;have hid:=kK.1 hid;subst hid;cases h;have r2:iT w0 B { σ with nl:=false } a w L:=⟨r.hd,r.hs,r.ht,r.hb,r.hv,r.hn,r.hw,r.hi,r.he,λh=>by cases h⟩
    obtain⟨v,w',L1,kC,hrel,rF⟩:=Th (K:=K) hT hc il r2 h0 λq hq=>ho q (List.mem_cons_of_mem _ hq)
    rw[hf]at hrel;rw[hr]at rF;obtain⟨L',k1,k2⟩:=iT.fin hB hrel;refine⟨v,w',L',kC,⟨k1.hd,k1.hs,k1.ht,k1.hb,k1.hv,k1.hn,k1.hw,k1.hi,k1.he,λhn i b hb=>r.hl hn i b ?_⟩,?_⟩
    .have hb:look (σ.b.filter λx=>!Nat.beq x.1 id') i=some b:=hb;rw[Cq]at hb;split at hb
     .cases hb
     .exact hb
    rw[rF.2];exact k2
   .cases h
  .cases h
 .cases h
def aeD{x y:Operand}{c:Call}(hc:c.callee = .builtin .max/\c.args = #[x,y])(il:o.op = .call c)(r:iT w0 B σ a w L){k k':IntKind}{p q:Int}(hx:σ.op x = .e (.v (.int k p)))(hy:σ.op y = .e (.v (.int k' q)))
 (hu:u={ r:=.e (.v (.int k (if q>p then q else p))) }):jP P K w0 B σ o a w u:=by
 have h1:=r.op x;have h2:=r.op y;rw[hx]at h1;rw[hy]at h2;have h1:=ix.kz h1;have h2:=ix.kz h2;subst hu;refine jP.pure r (v:=.int k (if q>p then q else p)) ?_ rfl (.v _);have em:(#[x,y]:Array Operand).map a.eval = #[.int k p,.int k' q]:=by simp[h1,h2]
 simp only[execOp,il,resolve,hc.1,hc.2,em,Sem.run_bind,Sem.run_pure,Result.andThen_ok,invoke,builtin,run_max_int2]
def aeE{x y z:Operand}{c:Call}(hc:c.callee = .builtin .max/\c.args = #[x,y,z])(il:o.op = .call c)(r:iT w0 B σ a w L){k k' k'':IntKind}{p q s:Int}(hx:σ.op x = .e (.v (.int k p)))(hy:σ.op y = .e (.v (.int k' q)))(hz:σ.op z = .e (.v (.int k'' s)))
 (hu:u={ r:=.e (.v (.int k (if s>(if q>p then q else p)then s else(if q>p then q else p)))) }):jP P K w0 B σ o a w u:=by
 have h1:=r.op x;have h2:=r.op y;have h3:=r.op z;rw[hx]at h1;rw[hy]at h2;rw[hz]at h3;have h1:=ix.kz h1;have h2:=ix.kz h2;have h3:=ix.kz h3;subst hu;refine jP.pure r (v:=.int k (if s>(if q>p then q else p)then s else(if q>p then q else p))) ?_ rfl (.v _);have em:(#[x,y,z]:Array Operand).map a.eval = #[.int k p,.int k' q,.int k'' s]:=by simp[h1,h2,h3]
 simp only[execOp,il,resolve,hc.1,hc.2,em,Sem.run_bind,Sem.run_pure,Result.andThen_ok,invoke,builtin,run_max_int3]
def aeF{x y:Operand}{c:Call}(hc:c.callee = .builtin .min/\c.args = #[x,y])(il:o.op = .call c)(r:iT w0 B σ a w L){k k':IntKind}{p q:Int}(hx:σ.op x = .e (.v (.int k p)))(hy:σ.op y = .e (.v (.int k' q)))
 (hu:u={ r:=.e (.v (.int k (if q<p then q else p))) }):jP P K w0 B σ o a w u:=by
 have h1:=r.op x;have h2:=r.op y;rw[hx]at h1;rw[hy]at h2;have h1:=ix.kz h1;have h2:=ix.kz h2;subst hu;refine jP.pure r (v:=.int k (if q<p then q else p)) ?_ rfl (.v _);have em:(#[x,y]:Array Operand).map a.eval = #[.int k p,.int k' q]:=by simp[h1,h2]
 simp only[execOp,il,resolve,hc.1,hc.2,em,Sem.run_bind,Sem.run_pure,Result.andThen_ok,invoke,builtin,run_min_int2]
end
structure Gd(P:Program)(K:World->Prop)(w0:World)(B:Nat->Prop):Prop where
 k:K w0
 J5:∀ w w',K w->Below w.heap.size w w'->K w'
 hB:∀ b,B b->b<w0.heap.size/\oM w0 b
def oM.D0{w w':World}{b:Nat}(h:oM w b)(hb:w'.heap[b]? = w.heap[b]?):oM w' b:=by
 intro o x e;exact h o x (by rw[<-e];exact(World.cell?_of_block (w:=w) (w':=w') hb).symm)
def oM.Oj{w:World}{b:Nat}{cs:Array Value}{T:TypeId}{fr:Nat×Nat}(hg:w.heap[b]? = some (.cells cs T fr))(h:∀ v,v ∈ cs->qk v=false):oM w b:=by
 intro o x e;simp only[World.cell?,hg]at e;simp only[Option.isSome_none,bB,bk]at e;have:=h _ (dH e);cases this
section
variable {P:Program} {K:World->Prop} {T:List TI} {O:pR} {w0:World} {B:Nat->Prop} {σ:PS} {o:Oper} {a:Act} {w:World} {L:Lk} {u:ku}
def nG.JR{v:Value}{T:TypeId}{n sz:Nat}{f:Nat->Nat->Value}(h:nG w v T n sz f true){x:Nat}(hx:v.ownBlock=some x):oM w x:=by
 rcases h with⟨rfl,_⟩|⟨b,c,cur,rfl,hg,_,_,_,_,jA⟩
 .simp [Value.ownBlock]at hx
 .simp [Value.ownBlock]at hx;subst hx;exact oM.Oj hg (jA rfl)
def qp.JR{id:Nat}{b:Bx}(h:qp (ja B L) (jx L) L w id b)(hn:b.nl=true){x:Nat}(hx:L.own id x):oM w x:=by
 cases b with
 |cells T l=>
  obtain⟨b,vs,h1,h2,h3,h4,h5⟩:=h;obtain rfl:=(h2 x).1 hx;exact oM.Oj h3 λv hv=>NG h4 hn v (by simpa using hv)
 |row nl T n sz el=>
  obtain⟨f,h1,h2,h3⟩:=h;have hn:nl=true:=hn;subst hn;exact h1.JR ((h2 x).1 hx)
 |jC nl T1 T0 n sz len el pend=>
  rcases h with⟨_,_,h⟩|h
  .exact absurd hx (h x)
  obtain⟨b,c,cur,f,h1,h2,h3,h4,h5,h6,h7,h8,h9,pT,rS⟩:=h;have hn:nl=true:=hn;subst hn;rcases(h9 x).1 hx with rfl|⟨k,hk,hkx⟩
  .exact oM.Oj h2 λv hv=>h7 v hv
  .exact (h8 k hk).1.JR hkx
def iT.H9(g:Gd P K w0 B)(r:iT w0 B σ a w L)(hn:σ.nl=true):∀ b,ja B L b->b<w.heap.size/\oM w b:=by
 intro b hb;rcases hb with hb|⟨id,hb⟩
 .obtain ⟨h1,h2⟩:=g.hB b hb;exact⟨bJ h1 r.he.size,h2.D0 (r.he.block b h1)⟩
 .refine ⟨(r.hw id b hb).2,?_⟩;have hl:=(r.hv id).1 (r.hn id b hb);obtain⟨bx,iW⟩:=fN.1 hl;exact(r.hb id bx iW).JR (r.hl hn id bx iW) hb
def qp.iN{id:Nat}{Tt:TypeId}{l:List E}(h:qp (ja B L) (jx L) L w id (.cells Tt l)){b:Nat}(hv:L.val id = .pointer (some ⟨b,0,none⟩))(im:∀ x,L.own id x->x<w.heap.size):
 ix (ja B L) (λ_=>False) w (.iN l.length λj=>l.getD j .any) (.pointer (some ⟨b,0,none⟩)):=by
 obtain⟨b',vs,h1,h2,h3,h4,h5⟩:=h;rw[hv]at h1;cases h1;refine .iN _ _ b 0 (λj=>vs.getD j undef) (λh=>h) (im b ((h2 b).2 rfl)) (λj hj=>?_) (λj hj=>?_) (λj hj=>?_)
 .have qY:j<vs.length:=by rw[h4.len];exact hj
  rw[bd,bt qY];exact h5 _ (cz qY)
 .have qY:j<vs.length:=by rw[h4.len];exact hj
  simp only[World.cell?,h3];simp[qY]
 .have qY:j<vs.length:=by rw[h4.len];exact hj
  rw[bd,bt hj,bd,bt qY];exact(h4.kD j _ _ (bt hj) (bt qY)).pZ (λ_ h=>h) (λ_ h=>h.elim)
def nG.Xi{v:Value}{T:TypeId}{n sz:Nat}{f:Nat->Nat->Value}{nl:Bool}{el:Nat->Nat->E}{bs br:Nat->Prop}(h1:nG w v T n sz f nl)(im:∀ x,v.ownBlock=some x->x<w.heap.size)
 (h3:∀ i j,i<n->j<sz->ix bs br w (el i j) (f i j)/\(el i j).nr 2=true):ix (λ_=>False) (λ_=>False) w (.sl nl n sz el) v:=by
 rcases h1 with⟨rfl,rfl⟩|⟨b,c,cur,rfl,hg,oF,nM,mR,ki,jA⟩
 .exact .sl nl 0 sz el none 0 f (bc _) aE (λ_=>rfl) (λi j hi=>absurd hi (bn i)) (λi j hi=>absurd hi (bn i)) (λi j hi=>absurd hi (bn i)) (λi j hi=>absurd hi (bn i))
 .refine .sl nl n sz el _ c f oF (by unfold maxLen at nM;omega) (λh=>by cases h) (λi j hi hj=>⟨(ki i j hi hj).2,λhn=>jA hn _ (dH (ki i j hi hj).1)⟩) (λi j hi hj=>(h3 i j hi hj).2)
   (λi j hi hj=>⟨b,0,rfl,λh=>h,im b rfl,?_⟩) (λi j hi hj=>(ix.nr ((h3 i j hi hj).1.pZ (λ_ h=>h.elim) (λ_ h=>h)) 2 (h3 i j hi hj).2))
  rw[bZ];simp only[World.cell?,hg];simpa using(ki i j hi hj).1
def iT.UQ(r:iT w0 B σ a w L){id T1 T0 n sz k:Nat}{nl:Bool}{len:Nat->Nat}{el:Nat->Nat->Nat->E}{pend:Option Nat}(jf:σ.bo id=some (.jC nl T1 T0 n sz len el pend))(hk:k<n):
 ix (λ_=>False) (λ_=>False) w (.sl nl (len k) sz (el k)) (L.iD id k):=by
 obtain⟨b,c,cur,f,h1,h2,h3,h4,h5,h6,h7,h8,h9,pT,rS⟩:=(r.hb id _ jf).wq aC;exact(h8 k hk).1.Xi (λx hx=>(r.hw id x ((h9 x).2 (.inr ⟨k,hk,hx⟩))).2) (h8 k hk).2
def CV.E9(r:iT w0 B σ a w L){c:CV}{e:E}{is:List Nat}(h:c.ext σ=some (e,is))(kr:c.FU=false){v:Value}(hv:wB (ja B L) (jx L) L w c v):ix (ja B L) (λ_=>False) w e v:=by
 cases c with
 |e x=>simp only[CV.ext,bu,bM]at h;obtain⟨rfl,_⟩:=h;exact hv.pZ (λ_ h=>h) (λ_ h=>h.elim)
 |box id=>
  simp only[CV.ext]at h;split at h
  .rename_i Tt l jf;simp only[bu,bM]at h;obtain⟨rfl,_⟩:=h;obtain⟨_,b,k2,rfl⟩:=hv;exact(r.hb id _ jf).iN k2 λx hx=>(r.hw id x hx).2
  .cases h
 |row id=>cases kr
def CV.LS(r:iT w0 B σ a w L){c:CV}{e:E}{is:List Nat}(h:c.ext σ=some (e,is)){v:Value}(hv:wB (ja B L) (jx L) L w c v):ix (λ_=>False) (λ_=>False) w e v:=by
 cases kr:c.FU with
 |false=>exact(CV.E9 r h kr hv).pZ (λ_ h=>h.elim) (λ_ h=>h)
 |true=>
  cases c with
  |row id=>
   simp only[CV.ext]at h;split at h
   .rename_i nl T1 T0 n sz len el jf;split at h
    .rename_i hn;have hn:=kK.1 hn;subst hn;simp only[bu,bM]at h;obtain⟨rfl,_⟩:=h;obtain⟨_,b,n',c,k2,rfl⟩:=hv;have lg:=r.UQ jf (ej 0);obtain⟨b',c',cur,f,h1,h2,h3,h4,h5,h6,h7,h8,h9,pT,rS⟩:=(r.hb id _ jf).wq aE;rw[k2]at h1;cases h1;have pf:=h6 0 (ej 0) aH;refine .iN 1 _ b 0 (λ_=>L.iD id 0) (λh=>h) (r.hw id b ((h9 b).2 (.inl rfl))).2 (λj hj=>(h8 0 (ej 0)).1.head.2.1) (λj hj=>?_) (λj hj=>lg);obtain rfl:j=0:= aC ;simp only[World.cell?,h2];simpa using pf
    .cases h
   .cases h
  |_=>cases kr
def Sx(r:iT w0 B σ a w L){l:List CV}{es:List E}{is:List Nat}(h:uB σ l=some (es,is))(kr:l.any CV.FU=false){vs:List Value}(hlen:vs.length=l.length)
 (hv:∀ (i:Nat) (c:CV) (x:Value),l[i]? = some c->vs[i]? = some x->wB (ja B L) (jx L) L w c x):j9 (ja B L) (λ_=>False) w es vs:=by
 induction l generalizing es is vs with
 |nil=>simp only[uB,bu,bM]at h;obtain⟨rfl,_⟩:=h;obtain rfl:=di hlen;exact .nil _ _ _
 |cons c l ih=>
  cases vs with
  |nil=>simp at hlen
  |cons v vs=>
   simp only[uB]at h;split at h
   .rename_i x i xs js h1 h2;simp only[bu,bM]at h;obtain⟨rfl,_⟩:=h;simp only[ef,eD]at kr;exact .cons (CV.E9 r h1 kr.1 (hv 0 c v rfl rfl)) (ih h2 kr.2 (by simpa using hlen) λi c x hc hx=>hv (i+1) c x (by simpa using hc) (by simpa using hx))
   .cases h
def Sy(r:iT w0 B σ a w L){l:List CV}{es:List E}{is:List Nat}(h:uB σ l=some (es,is)){vs:List Value}(hlen:vs.length=l.length)
 (hv:∀ (i:Nat) (c:CV) (x:Value),l[i]? = some c->vs[i]? = some x->wB (ja B L) (jx L) L w c x):j9 (λ_=>False) (λ_=>False) w es vs:=by
 induction l generalizing es is vs with
 |nil=>simp only[uB,bu,bM]at h;obtain⟨rfl,_⟩:=h;obtain rfl:=di hlen;exact .nil _ _ _
 |cons c l ih=>
  cases vs with
  |nil=>simp at hlen
  |cons v vs=>
   simp only[uB]at h;split at h
   .rename_i x i xs js h1 h2;simp only[bu,bM]at h;obtain⟨rfl,_⟩:=h;exact .cons (CV.LS r h1 (hv 0 c v rfl rfl)) (ih h2 (by simpa using hlen) λi c x hc hx=>hv (i+1) c x (by simpa using hc) (by simpa using hx))
   .cases h
def nG.agC{v:Value}{T:TypeId}{n sz:Nat}{f:Nat->Nat->Value}{nl:Bool}{el:Nat->Nat->E}{bs br:Nat->Prop}(h1:nG w v T n sz f nl)(im:∀ x,v.ownBlock=some x->x<w.heap.size)
 (h3:∀ i j,i<n->j<sz->ix bs br w (el i j) (f i j)/\(el i j).nr 2=true):ix bs (λ_=>False) w (.nf true nl n sz el) v:=by
 rcases h1 with⟨rfl,rfl⟩|⟨b,c,cur,rfl,hg,oF,nM,mR,ki,jA⟩
 .exact .nf true nl 0 sz el none 0 f (bc _) aE (λ_=>rfl) (λi j hi=>absurd hi (bn i)) (λ_ i j hi=>absurd hi (bn i)) (λi j hi=>absurd hi (bn i)) (λi j hi=>absurd hi (bn i))
 .refine .nf true nl n sz el _ c f oF (by unfold maxLen at nM;omega) (λh=>by cases h) (λi j hi hj=>⟨(ki i j hi hj).2,λhn=>jA hn _ (dH (ki i j hi hj).1)⟩) (λ_ i j hi hj=>(h3 i j hi hj).2)
   (λi j hi hj=>⟨b,0,rfl,λh=>h,im b rfl,?_⟩) (λi j hi hj=>ix.nr (h3 i j hi hj).1 2 (h3 i j hi hj).2)
  rw[bZ];simp only[World.cell?,hg];simpa using(ki i j hi hj).1
def PV.E9(r:iT w0 B σ a w L){p:PV}{e:E}{is:List Nat}(h:p.ext σ=some (e,is))(kr:p.vY σ=false){v:Value}(hv:mY (ja B L) (jx L) L w p v):ix (ja B L) (λ_=>False) w e v:=by
 cases p with
 |e x=>simp only[PV.ext,bu,bM]at h;obtain⟨rfl,_⟩:=h;exact ix.pZ (λ_ h=>h) (λ_ h=>h.elim) hv
 |box id off=>
  cases off with
  |succ=>simp[PV.ext]at h
  |zero=>
   simp only[PV.ext]at h;split at h
   .rename_i Tt l jf;simp only[bu,bM]at h;obtain⟨rfl,_⟩:=h;obtain⟨_,b,k2,rfl⟩:=hv;exact(r.hb id _ jf).iN k2 λx hx=>(r.hw id x hx).2
   .cases h
 |oW f cap=>
  simp only[PV.ext]at h;split at h
  .rename_i xs js h1;simp only[bu,bM]at h;obtain⟨rfl,_⟩:=h;obtain⟨vs,rfl,k2,k3⟩:=hv;have:=Sx r h1 kr k2 k3;exact .fn f xs vs this.len this.kD
  .cases h
 |own id=>
  obtain⟨_,rfl⟩:=hv;simp only[PV.vY]at kr;split at kr
  .rename_i nl T1 T0 n sz len el pend jf;simp only[PV.ext,jf]at h;cases pend with
   |some k=>cases h
   |none=>
    simp only[bu,bM]at h;obtain⟨rfl,_⟩:=h;rcases r.hb id _ jf with⟨h1,h2,_⟩|⟨b,c,cur,f,h1,h2,h3,h4,h5,h6,h7,h8,h9,pT,rS⟩
    .subst h2;rw[h1];exact .nf false true 0 1 _ none 0 (λ_ _=>undef) (bc _) aE (λ_=>rfl) (λi j hi=>absurd hi (bn i)) (λh=>by cases h) (λi j hi=>absurd hi (bn i)) (λi j hi=>absurd hi (bn i))
    .rw [h1];refine .nf false true n 1 _ _ c (λk _=>L.iD id k) h3 (by unfold maxLen at h4;omega) (λh=>by cases h) (λk j hk hj=>⟨(h8 k hk).1.head.2.1,λ_=>(h8 k hk).1.head.2.2⟩) (λh=>by cases h)
      (λk j hk hj=>⟨b,0,rfl,λh=>h,(r.hw id b ((h9 b).2 (.inl rfl))).2,?_⟩) (λk j hk hj=>(h8 k hk).1.agC (λx hx=>(r.hw id x ((h9 x).2 (.inr ⟨k,hk,hx⟩))).2) (h8 k hk).2)
     rw[bZ,b5];obtain rfl:j=0:= aC ;simp only[World.cell?,h2];simpa using h6 k hk aH 
  .cases kr
 |iD id k=>cases kr
 |mT=>simp[PV.ext]at h
 |qC=>simp[PV.ext]at h
def PV.LS(r:iT w0 B σ a w L){p:PV}{e:E}{is:List Nat}(h:p.ext σ=some (e,is)){v:Value}(hv:mY (ja B L) (jx L) L w p v):ix (λ_=>False) (λ_=>False) w e v:=by
 by_cases kr:p.vY σ=false
 .exact (PV.E9 r h kr hv).pZ (λ_ h=>h.elim) (λ_ h=>h)
 .cases p with
  |own id=>
   obtain⟨_,rfl⟩:=hv;simp only[PV.ext]at h;split at h
   .rename_i nl T n sz el jf;simp only[bu,bM]at h;obtain⟨rfl,_⟩:=h;obtain⟨f,h1,h2,h3⟩:=r.hb id _ jf;exact h1.Xi (λx hx=>(r.hw id x ((h2 x).2 hx)).2) h3
   .rename_i nl T1 T0 n sz len el jf;exact absurd (by simp only[PV.vY,jf]) kr
   .cases h
  |iD id k=>
   obtain⟨_,rfl⟩:=hv;simp only[PV.ext]at h;split at h
   .rename_i nl T1 T0 n sz len el jf;split at h
    .rename_i hk;simp only[bu,bM]at h;obtain⟨rfl,_⟩:=h;exact r.UQ jf (by simpa[fF]using hk)
    .cases h
   .cases h
  |oW f cap=>
   simp only[PV.ext]at h;split at h
   .rename_i xs js h1;simp only[bu,bM]at h;obtain⟨rfl,_⟩:=h;obtain⟨vs,rfl,k2,k3⟩:=hv;have:=Sy r h1 k2 k3;exact .fn f xs vs this.len this.kD
   .cases h
  |e x=>exact absurd rfl kr
  |box id off=>exact absurd rfl kr
  |mT id sz i j=>exact absurd rfl kr
  |qC id sz k i j=>exact absurd rfl kr
def Qm(r:iT w0 B σ a w L){l:List Operand}{es:List E}{is:List Nat}(h:tJ σ l=some (es,is)):j9 (λ_=>False) (λ_=>False) w es (l.map a.eval):=by
 induction l generalizing es is with
 |nil=>simp only[tJ,bu,bM]at h;obtain⟨rfl,_⟩:=h;exact .nil _ _ _
 |cons x l ih=>
  simp only[tJ]at h;split at h
  .rename_i y i xs js h1 h2;simp only[bu,bM]at h;obtain⟨rfl,_⟩:=h;exact .cons (PV.LS r h1 (r.op x)) (ih h2)
  .cases h
def Ql(r:iT w0 B σ a w L){l:List Operand}{es:List E}{is:List Nat}(h:tJ σ l=some (es,is))(kr:(l.map σ.op).any (PV.vY σ)=false):j9 (ja B L) (λ_=>False) w es (l.map a.eval):=by
 induction l generalizing es is with
 |nil=>simp only[tJ,bu,bM]at h;obtain⟨rfl,_⟩:=h;exact .nil _ _ _
 |cons x l ih=>
  simp only[tJ]at h;split at h
  .rename_i y i xs js h1 h2;simp only[bu,bM]at h;obtain⟨rfl,_⟩:=h;simp only[dY,ef,eD]at kr;exact .cons (PV.E9 r h1 kr.1 (r.op x)) (ih h2 kr.2)
  .cases h
def Hh(P:Program)(K:World->Prop)(w0:World)(B:Nat->Prop)(σ:PS)(o:Oper)(a:Act)(w:World)(u:ku):Prop:=
 ∀ (Kc:Act->World->Prop) (Q:Exit->Act->World->Prop),(∀ v w' L',iT w0 B (σ.nL u.f) a w' L'->mY (ja B L') (jx L') L' w' u.r v->Kc (a.put o.dst v) w')->o.wp P a w Kc Q
def jP.oD(h:jP P K w0 B σ o a w u):Hh P K w0 B σ o a w u:=by
 intro Kc Q hk;obtain⟨v,w',L',kC,hr,hp⟩:=h;unfold Oper.wp;rcases kC with kC|⟨kC,rfl⟩
 .rw [kC];exact hk v w' L' hr hp
 .rw [kC];exact hk _ w' L' hr hp
def RW(g:Gd P K w0 B)(r:iT w0 B σ a w L){c:Call}{f:Operand}(il:o.op = .call c)(hf:c.callee = .value f){gf:FuncId}{xs ys:List E}{is:List Nat}{us:List Value}
 {ow:Bool} (yK:a.eval f = .func (.func gf) #[] us.toArray) (Nd:j9 (λ_=>False) (λ_=>False) w xs (c.args.toList.map a.eval)) (pC:ow=false->j9 (ja B L) (λ_=>False) w xs (c.args.toList.map a.eval)) (M7:j9 (λ_=>False) (λ_=>False) w ys us) (yU:ow=false->j9 (ja B L) (λ_=>False) w ys us)
 (h:Ah P K O σ o.dst gf (xs++ys) is ow=some u) (ho:∀ q,q ∈ u.jr->q):Hh P K w0 B σ o a w u:=by
 intro Kc Q hk;simp only[Ah]at h;split at h
 .rename_i jT FH;split at h
  .rename_i hc;cases h;have pc:PC P K gf (xs++ys) jT:=ho _ aH;have Mv:=Nd.app M7;have kC:(execOp a.eval o).run P w = .ok (.enter gf ((c.args.toList.map a.eval)++us).toArray) w:=by
    have e1:c.args.map a.eval=(c.args.toList.map a.eval).toArray:=by apply dj;simp
    have e2:#[]++(c.args.toList.map a.eval).toArray++us.toArray=((c.args.toList.map a.eval)++us).toArray:= aH ;simp only[execOp,il,resolve,hf,yK,Deferred.ofValue,Sem.run_bind,Sem.run_pure,Result.andThen_ok,invoke,e1,e2,pc.call]
   unfold Oper.wp;rw[kC];show Calls P gf _ w _;have hK:K w:=g.J5 _ _ g.k r.he;by_cases B4:jT.plain 3=true
   .refine (pc.run w (λ_=>False) _ hK (λ_ h=>h.elim) Mv).mono ?_;rintro e w' ⟨v,rfl,hb,hv⟩;exact hk v w' L (r.later hb) (ix.plain (w:=w') hv 3 B4)
   .have hn:σ.nl=true/\ow=false:=by simpa[B4]using hc
    refine(pc.run w (ja B L) _ hK (r.H9 g hn.1) ((pC hn.2).app (yU hn.2))).mono ?_;rintro e w' ⟨v,rfl,hb,hv⟩;exact hk v w' L (r.later hb) (ix.pZ (λ_ h=>h) (λ_ _=>trivial) hv)
  .split at h
   .rename_i hc;cases h;have pc:Hk P K gf (xs++ys) jT:=ho _ aH;have kC:(execOp a.eval o).run P w = .ok (.enter gf ((c.args.toList.map a.eval)++us).toArray) w:=by
     have e1:c.args.map a.eval=(c.args.toList.map a.eval).toArray:=by apply dj;simp
     have e2:#[]++(c.args.toList.map a.eval).toArray++us.toArray=((c.args.toList.map a.eval)++us).toArray:= aH ;simp only[execOp,il,resolve,hf,yK,Deferred.ofValue,Sem.run_bind,Sem.run_pure,Result.andThen_ok,invoke,e1,e2,pc.call]
    unfold Oper.wp;rw[kC];show Calls P gf _ w _;have hK:K w:=g.J5 _ _ g.k r.he;have hn:ow=false:=by simpa using hc
    refine(pc.run w (ja B L) _ hK (λb hb=>?_) ((pC hn).app (yU hn))).mono ?_
    .rcases hb with hb|⟨id,hb⟩
     .exact bJ (g.hB b hb).1 r.he.size
     .exact (r.hw id b hb).2
    .rintro e w' ⟨v,rfl,hb,hv⟩;exact hk v w' L (r.later hb) (ix.pZ (λ_ h=>h) (λ_ _=>trivial) hv)
   .split at h
    .rename_i jA;cases h;have pc:PC P K gf (xs++ys) jT:=ho _ aH;have tW:vy jT:=ho _ aH;have Mv:=Nd.app M7;have kC:(execOp a.eval o).run P w = .ok (.enter gf ((c.args.toList.map a.eval)++us).toArray) w:=by
      have e1:c.args.map a.eval=(c.args.toList.map a.eval).toArray:=by apply dj;simp
      have e2:#[]++(c.args.toList.map a.eval).toArray++us.toArray=((c.args.toList.map a.eval)++us).toArray:= aH ;simp only[execOp,il,resolve,hf,yK,Deferred.ofValue,Sem.run_bind,Sem.run_pure,Result.andThen_ok,invoke,e1,e2,pc.call]
     unfold Oper.wp;rw[kC];show Calls P gf _ w _;have hK:K w:=g.J5 _ _ g.k r.he;refine(pc.run w (λ_=>False) _ hK (λ_ h=>h.elim) Mv).mono ?_;rintro e w' ⟨v,rfl,hb,hv⟩;have r':=r.later hb;exact hk v w' L r' (ix.pZ (λ_ h=>h) (λ_ _=>trivial) (tW _ _ _ _ _ (λx hx=>.inr (r'.H9 g jA x hx).2) hv))
    .cases h
 .split at h
  .rename_i d hd;split at h
   .rename_i nl T n sz el hnw;split at h
    .rename_i hc;cases h;simp only[bF]at hc;have pc:vz P K gf (xs++ys) nl T n sz el:=ho _ aH;have kC:(execOp a.eval o).run P w = .ok (.enter gf ((c.args.toList.map a.eval)++us).toArray) w:=by
      have e1:c.args.map a.eval=(c.args.toList.map a.eval).toArray:=by apply dj;simp
      have e2:#[]++(c.args.toList.map a.eval).toArray++us.toArray=((c.args.toList.map a.eval)++us).toArray:= aH ;simp only[execOp,il,resolve,hf,yK,Deferred.ofValue,Sem.run_bind,Sem.run_pure,Result.andThen_ok,invoke,e1,e2,pc.call]
     unfold Oper.wp;rw[kC];show Calls P gf _ w _;have hK:K w:=g.J5 _ _ g.k r.he;have fin:∀ (v:Value) (w':World) (gg:Nat->Nat->Value),Below w.heap.size w w'->nG w' v T n sz gg nl->(∀ x,v.ownBlock=some x->w.heap.size<=x/\x<w'.heap.size) ->
      (∀ i j,i<n->j<sz->ix (λb=>ja B L b\/v.ownBlock=some b) (λ_=>True) w' (el i j) (gg i j)/\(el i j).nr 2=true)->Kc (a.put o.dst v) w':=by
      intro v w' gg hb lr uK BO;have key:∀ (σ1:PS) (L1:Lk),iT w0 B σ1 a w L1->(∀ i x,L1.own i x->L.own i x)->σ1.bo d=none->σ1.nl=σ.nl->∃ L',iT w0 B (σ1.nL (.new d (.row nl T n sz el))) a w' L'/\mY (ja B L') (jx L') L' w' (.own d) v:=by
       intro σ1 L1 r1 AB kr amx;have afs:=r1.new d (.row nl T n sz el) (λx=>v.ownBlock=some x) v (λ_=>undef) w' kr uK hb
        ⟨gg,by rw[Lk.po];exact lr,λx=>by rw[Lk.sR,Lk.po],λi j hi hj=>⟨?_,(BO i j hi hj).2⟩⟩ (by simp[Bx.nl,hc.2])
       .exact ⟨_,afs,Lk.Bd,Lk.po.symm⟩
       .refine (BO i j hi hj).1.pZ (λb h=>?_) (λ_ _=>trivial);rcases h with h|⟨id,h⟩
        .exact .inl (.inl h)
        .by_cases e:id=d
         .subst e;exact .inr ((Lk.sR b).1 h)
         .exact .inl (.inr ⟨id,AB _ _ ((Lk.Be e b).1 h)⟩)
      cases jf:σ.bo d with
      |none=>
       obtain⟨L',k1,k2⟩:=key σ L r (λ_ _ h=>h) jf rfl;exact hk v w' L' (by simpa only[uj,jf]using k1) k2
      |some b=>
       obtain⟨L1,r1,AB,kr⟩:=r.R0 d;obtain⟨L',k1,k2⟩:=key _ L1 r1 AB kr rfl;rw[Sb]at k1;exact hk v w' L' (by simpa only[uj,jf]using k1) k2
     cases oq:ow with
     |false=>
      refine(pc.run w (ja B L) _ hK (r.H9 g hc.1) ((pC oq).app (yU oq))).mono ?_;rintro e w' ⟨v,rfl,hb,gg,lr,uK,BO⟩;exact fin v w' gg hb lr uK BO
     |true=>
      have tW:Et n sz el:=ho _ (by simp[oq]);refine(pc.run w (λ_=>False) _ hK (λ_ h=>h.elim) (Nd.app M7)).mono ?_;rintro e w' ⟨v,rfl,hb,gg,lr,uK,BO⟩;have r':=r.later hb;refine fin v w' gg hb lr uK λi j hi hj=>⟨tW i j hi hj _ _ _ _ _ (λx hx=>?_) (BO i j hi hj).1,(BO i j hi hj).2⟩
      rcases hx with hx|hx
      .exact .inr (r'.H9 g hc.1 x hx).2
      .exact .inl (.inr hx)
    .cases h
   .cases h
  .cases h
def LL(hT:mf P T)(g:Gd P K w0 B)(r:iT w0 B σ a w L)(h:jm P K T O σ o=some u)(ho:∀ q,q ∈ u.jr->q):Hh P K w0 B σ o a w u:=by
 cases il:o.op with
 |move x=>exact(aeG (P:=P) (K:=K) il r h).oD
 |assign x=>exact(aem (P:=P) (K:=K) il r h).oD
 |pick c x y=>exact(aeI (P:=P) (K:=K) il r h).oD
 |alloc t=>exact(aek hT il r h).oD
 |box t x=>exact(aeo (P:=P) (K:=K) il r h).oD
 |build t ps=>exact(aep hT il r h).oD
 |buildSlice t n ps=>exact(aeq hT (λb hb=>(g.hB b hb).1) il r h).oD
 |load t x=>exact(aez hT il r h ho).oD
 |store t x y=>exact(aeK hT il r h ho).oD
 |nilCheck x=>exact(aeH (P:=P) (K:=K) il r h).oD
 |binOp op t x y yt=>exact(aen hT il r h ho).oD
 |unOp op t x=>exact(aeL (P:=P) (K:=K) il r h ho).oD
 |convert s d x=>exact(aer hT il r h).oD
 |makeFunc fn first cap=>exact(aeB (P:=P) (K:=K) il r h).oD
 |makeSlice t l c=>exact(aeC hT il r h ho).oD
 |slice t x lo hi mx=>
  cases mx with
  |none=>exact(aeJ hT il r h ho).oD
  |some=>simp[jm,il]at h
 |fieldAddr t x f=>exact(aeu hT il r h).oD
 |indexAddr t x i=>exact(aew hT il r h ho).oD
 |index t x i=>exact(aev hT il r h ho).oD
 |field t x f=>exact(aet hT il r h).oD
 |lookup t x i ok=>exact(aeA hT il r h ho).oD
 |extract x i=>exact(aes (P:=P) (K:=K) il r h).oD
 |call c=>
  obtain⟨callee,args,ats⟩:=c;cases callee with
  |builtin b=>
   simp only[jm,il]at h;cases b
   case len=>
    dsimp only at h;split at h
    .rename_i x t hx ht;have ha:args = #[x]:=by apply dj;simpa using hx
     have B9:ats = #[t]:=by apply dj;simpa using ht
     split at h
     .rename_i e hd;obtain⟨rr,hr,rfl⟩:=cH.1 h;exact(aey hT (by rw[ha,B9]) il hd r hr rfl).oD
     .cases h
    .cases h
   case append=>
    dsimp only at h;split at h
    .rename_i s x t t' hx ht;have ha:args = #[s,x]:=by apply dj;simpa using hx
     have B9:ats = #[t,t']:=by apply dj;simpa using ht
     split at h
     .rename_i pL;have pL:=kK.1 pL;subst pL;split at h
      .rename_i q hq;exact(aex hT (by rw[ha,B9]) il r hq h ho).oD
      split at h
      .exact (ael hT (λb hb=>(g.hB b hb).1) (by rw[ha,B9]) il r h ho).oD
      .exact (Th hT (by rw[ha,B9]) il r h ho).oD
     .cases h
    .cases h
   case max=>
    dsimp only at h;split at h
    .rename_i k p k' q hx;rcases args with⟨l⟩
     rcases l with _|⟨x,_|⟨y,_|⟨z,l⟩⟩⟩<;>simp at hx
     cases h;exact(aeD (P:=P) (K:=K) ⟨rfl,rfl⟩ il r hx.1 hx.2 rfl).oD
    .rename_i k p k' q k'' s hx;rcases args with⟨l⟩
     rcases l with _|⟨x,_|⟨y,_|⟨z,_|⟨z',l⟩⟩⟩⟩<;>simp at hx
     cases h;exact(aeE (P:=P) (K:=K) ⟨rfl,rfl⟩ il r hx.1 hx.2.1 hx.2.2 rfl).oD
    .cases h
   case min=>
    dsimp only at h;split at h
    .rename_i k p k' q hx;rcases args with⟨l⟩
     rcases l with _|⟨x,_|⟨y,_|⟨z,l⟩⟩⟩<;>simp at hx
     cases h;exact(aeF (P:=P) (K:=K) ⟨rfl,rfl⟩ il r hx.1 hx.2 rfl).oD
    .cases h
   all_goals cases h
  |value f=>
   simp only[jm,il]at h;have yK:=r.op f;split at h
   .rename_i gf cap xs is B3 pC;rw[B3]at yK;obtain⟨us,e1,yU⟩:=ix.S3 yK;exact RW g r il rfl e1 (Qm r pC) (λkr=>Ql r pC kr) (yU.mono λ_ _=>ix.pZ (λ_ h=>h.elim) (λ_ h=>h.elim)) (λ_=>yU.mono λ_ _=>ix.pZ (λ_ h=>h) (λ_ h=>h.elim)) h ho
   .rename_i gf cap xs is B3 pC;rw[B3]at yK;obtain⟨us,e1,k2,k3⟩:=yK;split at h
    .rename_i ys js Ce;exact RW g r il rfl e1 (Qm r pC) (λkr=>Ql r pC (eD.1 kr).1) (Sy r Ce k2 k3) (λkr=>Sx r Ce (eD.1 kr).2 k2 k3) h ho
    .cases h
   .cases h
  |invoke _ _=>simp[jm,il]at h
 |_=>simp[jm,il]at h
def adx(hT:mf P T)(g:Gd P K w0 B)(r:iT w0 B σ a w L)(h:uA P K T O σ o=some u)(ho:∀ q,q ∈ u.jr->q):Hh P K w0 B σ o a w u:=by
 unfold uA at h;split at h
 .rename_i u0 h0;split at h
  .split at h
   .rename_i p hp;cases h;have he:PV.le u0.r p:=ho _ aH;have:=LL hT g r h0 (λq hq=>ho q (by simp[hq]));intro Kc Q hk;exact this Kc Q λv w' L' hr hv=>hk v w' L' hr (he _ _ _ _ _ hv)
   .cases h;exact LL hT g r h0 ho
  .cases h;exact LL hT g r h0 ho
 .cases h
end
section
variable {P:Program} {K:World->Prop} {T:List TI} {O:pR} {σ τ:PS} {o:Oper} {u:ku}
def ah2{x:Operand}(h:∀ t,x = .tmp t->σ.get t=τ.get t):τ.op x=σ.op x:=by
 cases x with
 |tmp t=>exact(h t rfl).symm
 |_=>rfl
def aiL{p:PV}{m:Nat}{l:List E}{is:List Nat}{jr:List Prop}(h:σ.read p m=some (l,is,jr))(hb:∀ id,id ∈ is->σ.bo id=τ.bo id):τ.read p m=some (l,is,jr):=by
 cases p with
 |box id off=>
  have h0:=h;simp only[PS.read]at h;split at h
  .split at h
   .simp only[bu,bM]at h;obtain⟨_,rfl,_⟩:=h;simp only[PS.read,<-hb id aH];exact h0
   .cases h
  .cases h
 |mT id sz i j=>
  have h0:=h;simp only[PS.read]at h;split at h
  .split at h
   .simp only[bu,bM]at h;obtain⟨_,rfl,_⟩:=h;simp only[PS.read,<-hb id aH];exact h0
   .cases h
  .cases h
 |qC id sz k i j=>
  have h0:=h;simp only[PS.read]at h;split at h
  .split at h
   .simp only[bu,bM]at h;obtain⟨_,rfl,_⟩:=h;simp only[PS.read,<-hb id aH];exact h0
   .cases h
  .cases h
 |e x=>cases x<;>exact h
 |_=>exact h
def abY{c:CV}{e:E}{is:List Nat}(h:c.ext σ=some (e,is))(hb:∀ id,id ∈ is->σ.bo id=τ.bo id):c.ext τ=some (e,is):=by
 cases c with
 |e x=>exact h
 |box id=>
  have h0:=h;simp only[CV.ext]at h;split at h
  .simp only[bu,bM]at h;obtain⟨_,rfl⟩:=h;simp only[CV.ext,<-hb id aH];exact h0
  .cases h
 |row id=>
  have h0:=h;simp only[CV.ext]at h;split at h
  .split at h
   .simp only[bu,bM]at h;obtain⟨_,rfl⟩:=h;simp only[CV.ext,<-hb id aH];exact h0
   .cases h
  .cases h
def Sw{l:List CV}{es:List E}{is:List Nat}(h:uB σ l=some (es,is))(hb:∀ id,id ∈ is->σ.bo id=τ.bo id):uB τ l=some (es,is):=by
 induction l generalizing es is with
 |nil=>exact h
 |cons c l ih=>
  simp only[uB]at h;split at h
  .rename_i x i xs js h1 h2;simp only[bu,bM]at h;obtain⟨rfl,rfl⟩:=h;simp only[uB,abY h1 λid hi=>hb id (by simp[hi]),ih h2 λid hi=>hb id (by simp[hi])]
  .cases h
def ail{p:PV}{e:E}{is:List Nat}(h:p.ext σ=some (e,is))(hb:∀ id,id ∈ is->σ.bo id=τ.bo id):p.ext τ=some (e,is):=by
 cases p with
 |e x=>exact h
 |box id off=>
  cases off with
  |succ=>exact h
  |zero=>
   have h0:=h;simp only[PV.ext]at h;split at h
   .simp only[bu,bM]at h;obtain⟨_,rfl⟩:=h;simp only[PV.ext,<-hb id aH];exact h0
   .cases h
 |oW f cap=>
  simp only[PV.ext]at h;split at h
  .rename_i xs js h1;simp only[bu,bM]at h;obtain⟨rfl,rfl⟩:=h;simp only[PV.ext,Sw h1 hb]
  .cases h
 |own id=>
  have h0:=h;simp only[PV.ext]at h;split at h
  .simp only[bu,bM]at h;obtain⟨_,rfl⟩:=h;simp only[PV.ext,<-hb id aH];exact h0
  .simp only[bu,bM]at h;obtain⟨_,rfl⟩:=h;simp only[PV.ext,<-hb id aH];exact h0
  .cases h
 |iD id k=>
  have h0:=h;simp only[PV.ext]at h;split at h
  .split at h
   .simp only[bu,bM]at h;obtain⟨_,rfl⟩:=h;simp only[PV.ext,<-hb id aH];exact h0
   .cases h
  .cases h
 |_=>exact h
def Qk{l:List Operand}{es:List E}{is:List Nat}(h:tJ σ l=some (es,is))(hg:∀ x,x ∈ l->τ.op x=σ.op x)(hb:∀ id,id ∈ is->σ.bo id=τ.bo id):tJ τ l=some (es,is):=by
 induction l generalizing es is with
 |nil=>exact h
 |cons c l ih=>
  simp only[tJ]at h;split at h
  .rename_i x i xs js h1 h2;simp only[bu,bM]at h;obtain⟨rfl,rfl⟩:=h;simp only[tJ,hg c aH,ail h1 λid hi=>hb id (by simp[hi]),ih h2 (λx hx=>hg x (by simp[hx])) λid hi=>hb id (by simp[hi])]
  .cases h
def af0{p:PV}{e:E}{is:List Nat}(h:p.ext σ=some (e,is))(hb:∀ id,id ∈ is->σ.bo id=τ.bo id):p.vY τ=p.vY σ:=by
 cases p with
 |own id=>
  have hid:σ.bo id=τ.bo id:=by
   simp only[PV.ext]at h;split at h
   .simp only[bu,bM]at h;obtain⟨_,rfl⟩:=h;exact hb id aH 
   .simp only[bu,bM]at h;obtain⟨_,rfl⟩:=h;exact hb id aH 
   .cases h
  simp only[PV.vY,hid]
 |_=>rfl
def Qf{l:List Operand}{es:List E}{is:List Nat}(h:tJ σ l=some (es,is))(hg:∀ x,x ∈ l->τ.op x=σ.op x)(hb:∀ id,id ∈ is->σ.bo id=τ.bo id):(l.map τ.op).any (PV.vY τ)=(l.map σ.op).any (PV.vY σ):=by
 induction l generalizing es is with
 |nil=>rfl
 |cons c l ih=>
  simp only[tJ]at h;split at h
  .rename_i x i xs js h1 h2;simp only[bu,bM]at h;obtain⟨rfl,rfl⟩:=h;simp only[dY,ef,hg c aH,af0 h1 λid hi=>hb id (by simp[hi]),ih h2 (λx hx=>hg x (by simp[hx])) λid hi=>hb id (by simp[hi])]
  .cases h
def SJ{place:Nat->Option (Nat×Nat)}{ps:List (Nat×Operand)}(hg:∀ x,x ∈ ps.map (·.2)->τ.op x=σ.op x):∀ l,r9 τ place l ps=r9 σ place l ps:=by
 induction ps with
 |nil=>intro l;rfl
 |cons p ps ih=>
  intro l;obtain⟨i,x⟩:=p;simp only[r9,hg x aH,ih λx hx=>hg x (by simp only[dY,cV];exact .inr hx)]
def NM{d:Option Tmp}{b:Bx}{rr:Nat->PV}{jr:List Prop}(h:y8 σ d b rr jr=some u)(jA:σ.nl=τ.nl)(hn:∀ id b,u.f = .new id b->τ.bo id=none):y8 τ d b rr jr=some u:=by
 obtain⟨id,rfl,kr,hc,rfl⟩:=F9 h;rw[jA]at hc;simp only[y8,hn id b rfl,hc,bw]
def Wy{d:Nat}{b:Bx}(h:σ.bo d=τ.bo d):uj τ d b=uj σ d b:=by unfold uj;rw[h]
def WA{d:Nat}{is:List Nat}(h:σ.bo d=τ.bo d):zg τ d is=zg σ d is:=by unfold zg;rw[h]
def WB{d:Nat}{b:Bx}{is:List Nat}{u:ku}(hf:u.f=uj σ d b)(hr:u.rb=zg σ d is)(hb:∀ id,id ∈ u.rb->σ.bo id=τ.bo id)(hn:∀ id b,u.f = .new id b->τ.bo id=none):σ.bo d=τ.bo d:=by
 cases jf:σ.bo d with
 |none=>exact(hn d b (by rw[hf,uj,jf])).symm
 |some x=>rw[<-jf];exact hb d (by rw[hr,zg,jf];simp)
def VW{d:Option Tmp}{b:Bx}{rr:Nat->PV}(h:AR σ d b rr=some u)(hb:∀ id,id ∈ u.rb->σ.bo id=τ.bo id)(jA:σ.nl=τ.nl)(hn:∀ id b,u.f = .new id b->τ.bo id=none):AR τ d b rr=some u:=by
 obtain⟨id,rfl,hc,rfl⟩:=JJ h;have e:σ.bo id=τ.bo id:=WB (b:=b) (is:=[]) rfl rfl hb hn;rw[jA]at hc;simp only[AR,hc,bw,Wy e,WA e]
def Ss{d:Option Tmp}{t:TypeId}{s x:PV}{u:ku}(h:Ag T σ d t s x=some u)(hb:∀ id,id ∈ u.rb->σ.bo id=τ.bo id)(jA:σ.nl=τ.nl)(hn:∀ id b,u.f = .new id b->τ.bo id=none):Ag T τ d t s x=some u:=by
 simp only[Ag]at h ⊢;split at h
 .split at h
  .split at h
   .split at h
    .split at h
     .split at h
      .rename_i hc;simp only[hc,bw];split at h
       .rename_i id;split at h
        .rename_i jf;split at h
         .rename_i oo;cases h;simp only[<-hb id aH,<-jA,jf,oo,bw]
         .cases h
        .cases h
       .rename_i id k;split at h
        .rename_i jf;split at h
         .rename_i oo;cases h;simp only[<-hb id aH,jf,oo,bw]
         .cases h
        .cases h
       .exact NM h jA hn
       .cases h
      .cases h
     .cases h
    .cases h
   .cases h
  .cases h
 .cases h
def adn{d:Option Tmp}{t:TypeId}{s x:PV}{u:ku}(h:BE T σ d t s x=some u)(hb:∀ id,id ∈ u.rb->σ.bo id=τ.bo id)(jA:σ.nl=τ.nl):BE T τ d t s x=some u:=by
 unfold BE at h ⊢;split at h
 .rename_i u0 h0;split at h
  .rename_i id nl T1 n sz el id' hf hr;split at h
   .rename_i hid;cases h;have:=Ss (σ:={ σ with nl:=false }) (τ:={ τ with nl:=false }) h0 hb rfl λi b e=>by rw[hf]at e;cases e
    rw[this];simp only[hf,hr,hid,bw]
   .cases h
  .cases h
 .cases h
def adr{d:Option Tmp}{t:TypeId}{n q:Nat}{u:ku}(h:BG T σ d t n q=some u)(hb:∀ id,id ∈ u.rb->σ.bo id=τ.bo id):BG T τ d t n q=some u:=by
 unfold BG at h ⊢;split at h
 .rename_i id;have h0:=h;split at h
  .rename_i h1 h2 h3;split at h
   .rename_i hc;cases h;simp only[<-hb id aH,<-hb q aH];exact h0
   .cases h
  .cases h
 .cases h
def adq{d:Option Tmp}{t:TypeId}{s:PV}{q:Nat}{u:ku}(h:BF T σ d t s q=some u)(hb:∀ id,id ∈ u.rb->σ.bo id=τ.bo id):BF T τ d t s q=some u:=by
 unfold BF at h ⊢;have h0:=h;split at h
 .rename_i h1 h2;split at h
  .rename_i id;split at h
   .rename_i h3;split at h
    .rename_i hc;cases h;simp only[<-hb id aH,<-hb q aH];exact h0
    .cases h
   .cases h
  .rename_i id;split at h
   .rename_i h3;split at h
    .rename_i hc;cases h;simp only[<-hb id aH,<-hb q aH];exact h0
    .cases h
   .cases h
  .cases h
 .cases h
def aih{ps:List (Nat×Operand)}(hg:∀ x,x ∈ ps.map (·.2)->τ.op x=σ.op x):AX τ ps=AX σ ps:=by
 unfold AX;split
 .rw [hg _ aH]
 .rfl
def ads(h:jm P K T O σ o=some u)(hg:∀ x,x ∈ o.op.operands->τ.op x=σ.op x)(hb:∀ id,id ∈ u.rb->σ.bo id=τ.bo id)(jA:σ.nl=τ.nl)(hn:∀ id b,u.f = .new id b->τ.bo id=none):
 jm P K T O τ o=some u:=by
 cases il:o.op with
 |move x=>rw[il]at hg;simp only[jm,il]at h ⊢;rw[hg x aP];exact h
 |assign x=>rw[il]at hg;simp only[jm,il]at h ⊢;rw[hg x aP];exact h
 |pick c x y=>rw[il]at hg;simp only[jm,il]at h ⊢;rw[hg c aP,hg x aP,hg y aP];exact h
 |nilCheck x=>rw[il]at hg;simp only[jm,il]at h ⊢;rw[hg x aP];exact h
 |binOp op t x y yt=>rw[il]at hg;simp only[jm,il]at h ⊢;rw[hg x aP,hg y aP];exact h
 |unOp op t x=>rw[il]at hg;simp only[jm,il]at h ⊢;rw[hg x aP];exact h
 |convert s d x=>rw[il]at hg;simp only[jm,il]at h ⊢;rw[hg x aP];exact h
 |index t x i=>rw[il]at hg;simp only[jm,il]at h ⊢;rw[hg x aP,hg i aP];exact h
 |extract x i=>rw[il]at hg;simp only[jm,il]at h ⊢;rw[hg x aP];exact h
 |fieldAddr t x f=>rw[il]at hg;simp only[jm,il]at h ⊢;rw[hg x aP];exact h
 |field t x f=>rw[il]at hg;simp only[jm,il]at h ⊢;rw[hg x aP];exact h
 |lookup t x i ok=>
  rw[il]at hg;cases ok with
  |true=>simp[jm,il]at h
  |false=>simp only[jm,il]at h ⊢;rw[hg x aP,hg i aP];exact h
 |makeFunc fn first cap=>
  rw[il]at hg;cases fn with
  |func f=>
   simp only[jm,il]at h ⊢;have:cap.toList.map τ.op=cap.toList.map σ.op:=fc λx hx=>hg x (by simp only[Op.operands,eU];exact .inr (by simpa using hx))
   rw[this];exact h
  |_=>simp[jm,il]at h
 |slice t x lo hi mx=>
  rw[il]at hg;cases mx with
  |some=>simp[jm,il]at h
  |none=>
   simp only[jm,il]at h ⊢;have e1:lo.map τ.op=lo.map σ.op:=by cases lo with
    |none=>rfl
    |some y=>simp only[cv];rw[hg y aP]
   have e2:hi.map τ.op=hi.map σ.op:=by cases hi with
    |none=>rfl
    |some y=>simp only[cv];rw[hg y aP]
   rw[hg x aP,e1,e2];exact h
 |alloc t=>
  simp only[jm,il]at h ⊢;split at h
  .split at h
   .exact VW h hb jA hn
   .cases h
  .cases h
 |box t x=>
  rw[il]at hg;simp only[jm,il]at h ⊢;rw[hg x aP];split at h
  .split at h
   .exact VW h hb jA hn
   .cases h
  .cases h
 |build t ps=>
  rw[il]at hg;simp only[jm,il]at h ⊢;have hf:∀ place l,r9 τ place l ps.toList=r9 σ place l ps.toList:=λplace=>SJ λx hx=>hg x (by simpa[Op.operands]using hx)
  simp only[hf];exact h
 |buildSlice t n ps=>
  rw[il]at hg;simp only[jm,il]at h ⊢;have hf:∀ place l,r9 τ place l ps.toList=r9 σ place l ps.toList:=λplace=>SJ λx hx=>hg x (by simpa[Op.operands]using hx)
  have ho:AX τ ps.toList=AX σ ps.toList:=aih λx hx=>hg x (by simpa[Op.operands]using hx)
  simp only[hf,ho];split at h
  .exact adr h hb
  split at h
  .split at h
   .split at h
    .split at h
     .split at h
      .rename_i hif;rw[aZ hif];obtain⟨l,hl,h⟩:=gr.1 h;refine gr.2 ⟨l,hl,?_⟩;split at h
       .cases h
       .rename_i h1;rw[aY h1];split at h
        .rename_i h2;rw[aZ h2];exact NM h jA hn
        .rename_i h2;rw[aY h2];exact h
      .cases h
     .cases h
    .cases h
   .cases h
  .cases h
 |load t x=>
  rw[il]at hg;simp only[jm,il,ID]at h ⊢;rw[hg x aP];split at h
  .rename_i ti qB;split at h
   .rename_i id i n pK;have afA:CI τ (σ.op x)=some (id,i,n):=by
     have hid:σ.bo id=τ.bo id:=by
      split at h
      .cases h
      .cases h;exact hb id aH 
     cases hp:σ.op x with
     |mT id' sz i' j=>
      rw[hp]at pK;have h0:=pK;simp only[CI]at pK;split at pK
      .split at pK
       .simp only[bu,bM]at pK;obtain⟨rfl,_,_⟩:=pK;simp only[CI,<-hid];exact h0
       .cases pK
      .cases pK
     |_=>rw[hp]at pK;cases pK
    simp only[afA];exact h
   .rename_i pK;have key:∀ is,(∃ l jr,σ.read (σ.op x) ti.i.size=some (l,is,jr))->(∀ id,id ∈ is->σ.bo id=τ.bo id)->CI τ (σ.op x)=none:=by
     rintro is ⟨l,jr,hr⟩ nh;cases hp:σ.op x with
     |mT id sz i j=>
      rw[hp]at hr pK;simp only[PS.read]at hr;split at hr
      .rename_i jf;split at hr
       .simp only[bu,bM]at hr;obtain⟨_,rfl,_⟩:=hr;simp only[CI,<-nh id aH,jf]
       .cases hr
      .cases hr
     |_=>rfl
    cases hr:σ.read (σ.op x) ti.i.size with
    |none=>rw[hr]at h;cases h
    |some y=>
     obtain⟨l,is,jr⟩:=y;have B7:u.rb=is:=by
      rw[hr]at h;simp only[F3]at h;split at h
      .cases h;rfl
      .split at h
       .cases h;rfl
       .cases h
     have nh:∀ id,id ∈ is->σ.bo id=τ.bo id:=λid hi=>hb id (by rw[B7];exact hi)
     rw[key is ⟨l,jr,hr⟩ nh];simp only;rw[aiL hr nh];rw[hr]at h;exact h
  .cases h
 |store t x y=>
  rw[il]at hg;simp only[jm,il,IG]at h ⊢;rw[hg x aP,hg y aP];split at h
  .split at h
   .rename_i id off e _ _;split at h
    .rename_i jf hm;split at h
     .rename_i hc;cases h;rw[jA]at hc;simp only[<-hb id aH,jf,hm,hc,bw]
     .cases h
    .cases h
   .rename_i id q _ _;split at h
    .rename_i jf hm;split at h
     .rename_i hc;cases h;simp only[<-hb id aH,<-hb q aH,jf,hm,hc,bw]
     .cases h
    .cases h
   .rename_i id sz i j e _ _;split at h
    .rename_i jf hm;split at h
     .rename_i hc;cases h;simp only[<-hb id aH,jf,hm,hc,bw]
     .cases h
    .cases h
   .rename_i id i id' k _ _;split at h
    .rename_i jf;split at h
     .rename_i hc;cases h;simp only[<-hb id aH,jf,hc,bw]
     .cases h
    .cases h
   .cases h
  .cases h
 |makeSlice t l c=>
  rw[il]at hg;simp only[jm,il,IE]at h ⊢;rw[hg l aP,hg c aP];split at h
  .exact NM h jA hn
  .cases h
 |indexAddr t x i=>
  rw[il]at hg;simp only[jm,il,IC]at h ⊢;rw[hg x aP,hg i aP];split at h
  .split at h
   .split at h
    .split at h
     .split at h
      .exact h
      .exact h
      .rename_i id _;split at h
       .rename_i jf;split at h
        .rename_i hc;cases h;simp only[<-hb id aH,jf,hc,bw]
        .cases h
       .rename_i jf;split at h
        .rename_i hc;cases h;simp only[<-hb id aH,jf,hc,bw]
        .cases h
       .cases h
      .rename_i id _ _;split at h
       .rename_i jf;split at h
        .rename_i hc;cases h;simp only[<-hb id aH,jf,hc,bw]
        .cases h
       .cases h
      .cases h
     .cases h
    .exact h
    .cases h
   .cases h
  .cases h
 |call c=>
  rw[il]at hg;obtain⟨callee,args,ats⟩:=c;have ha:∀ x,x ∈ args.toList->τ.op x=σ.op x:=λx hx=>hg x (by simp only[Op.operands,Call.operands,eU];exact .inr (by simpa using hx))
  have Ug:args.toList.map τ.op=args.toList.map σ.op:=fc ha;cases callee with
  |builtin b=>
   simp only[jm,il]at h ⊢;cases b
   case len=>
    dsimp only at h ⊢;split at h
    .rename_i x t hx ht;split at h
     .obtain ⟨rr,hr,rfl⟩:=cH.1 h;rw[ha x (by rw[hx];simp)];have:sx (σ.op x) τ=some rr:=by
       cases hp:σ.op x with
       |own id=>
        rw[hp]at hr;have h0:=hr;simp only[sx]at hr;split at hr
        .simp only[bu]at hr;subst hr;simp only[sx,<-hb id aH];exact h0
        .simp only[bu]at hr;subst hr;simp only[sx,<-hb id aH];exact h0
        .cases hr
       |iD id k=>
        rw[hp]at hr;have h0:=hr;simp only[sx]at hr;split at hr
        .split at hr
         .simp only[bu]at hr;subst hr;simp only[sx,<-hb id aH];exact h0
         .cases hr
        .cases hr
       |e y=>
        rw[hp]at hr;cases y with
        |v z=>cases z<;>exact hr
        |_=>exact hr
       |_=>rw[hp]at hr;exact hr
      rw[this];rfl
     .cases h
    .cases h
   case append=>
    dsimp only at h ⊢;split at h
    .rename_i s x t t' hx ht;split at h
     .rename_i pL;simp only[pL,bw];rw[ha x (by rw[hx];simp),ha s (by rw[hx];simp)];have pf:Hu O o.dst=Hu O o.dst:=rfl;split at h
      .exact adq h hb
      split at h
      .rename_i Mu;simp only[Mu,bw];exact adn h hb jA
      .rename_i Mu;simp only[Mu,bk,bB];exact Ss h hb jA hn
     .cases h
    .cases h
   case max=>dsimp only at h ⊢;rw[Ug];exact h
   case min=>dsimp only at h ⊢;rw[Ug];exact h
   all_goals cases h
  |value f=>
   have hf:τ.op f=σ.op f:=hg f (by simp[Op.operands,Call.operands]);simp only[jm,il]at h ⊢;rw[hf];have ec:∀ {gf:FuncId} {zs:List E} {is:List Nat} {ow:Bool},Ah P K O σ o.dst gf zs is ow=some u->(∀ id,id ∈ is->id ∈ u.rb)/\Ah P K O τ o.dst gf zs is ow=some u:=by
    intro gf zs is ow hh;simp only[Ah]at hh ⊢;rw[jA]at hh;split at hh
    .rename_i jT FH;refine⟨?_,hh⟩;split at hh
     .cases hh;exact λ_ h=>h
     .split at hh
      .cases hh;exact λ_ h=>h
      .split at hh
       .cases hh;exact λ_ h=>h
       .cases hh
    .split at hh
     .rename_i d hd;split at hh
      .rename_i nl T n sz el h1;split at hh
       .rename_i hc;cases hh;have e:=WB (σ:=σ) (τ:=τ) (b:=.row nl T n sz el) (is:=is) rfl rfl hb hn;refine⟨λid hid=>?_,?_⟩
        .unfold zg;split
         .exact hid
         .simp [hid]
        .simp only[hc,bw,Wy e,WA e]
       .cases hh
      .cases hh
     .cases hh
   split at h
   .rename_i gf cap xs is B3 pC;obtain⟨e1,e2⟩:=ec h;rw[Qf pC ha λid hi=>hb id (e1 id hi),Qk pC ha λid hi=>hb id (e1 id hi),B3];exact e2
   .rename_i gf cap xs is B3 pC;split at h
    .rename_i ys js Ce;obtain⟨e1,e2⟩:=ec h;rw[Qf pC ha λid hi=>hb id (e1 id (by simp[hi])),Qk pC ha λid hi=>hb id (e1 id (by simp[hi])),B3];simp only;rw[Sw Ce λid hi=>hb id (e1 id (by simp[hi]))];exact e2
    .cases h
   .cases h
  |invoke _ _=>simp[jm,il]at h
 |_=>simp[jm,il]at h
end
def ahe{l:List Operand}{t:Tmp}(h:Operand.tmp t ∈ l):t ∈ El l:=by
 induction l with
 |nil=>simp at h
 |cons x l ih=>
  rcases cV.1 h with h|h
  .subst h;simp[El]
  .have:=ih h;cases x<;>simp[El,this]
def ae9{l:List Nat}{n:Nat}:Mx l n=true↔n ∈ l:=by
 unfold Mx;rw[dJ];constructor
 .rintro ⟨x,hx,hb⟩;have:=kK.1 hb;subst this;exact hx
 .intro h;exact⟨n,h,cg n⟩
def JS{l:List Nat}{d:Option Nat}(h:DZ l d=true){x:Nat}(hx:d=some x):x ∉ l:=by
 subst hx;simp only[DZ,dI]at h;intro hm;rw[ae9.2 hm]at h;cases h
def KF{a b:Option Nat}(h:KE a b=true){x y:Nat}(hx:a=some x)(hy:b=some y):x≠y:=by
 subst hx hy;simp only[KE,dI]at h;intro e;rw[kK.2 e]at h;cases h
def Ep{f:qq}(hf:f.Ck=false)(p:PV):p.mW f=if y6 f p then p else .e .any:=by
 cases f<;>first|(cases hf;done)|skip
 all_goals (cases p<;>simp only[PV.mW,y6,bw])
 all_goals (split<;>rename_i h<;>simp[h])
def Nz{f:qq}(hf:f.Ck=false){p:PV}(h:y6 f p=true):p.mW f=p:=by rw[Ep hf,aZ h]
def agw(f:qq):y6 f (.e .any)=true:=by cases f<;>rfl
def alK(p:PV){f g:qq}(hf:f.Ck=false)(hg:g.Ck=false):(p.mW f).mW g=(p.mW g).mW f:=by
 rw[Ep hf p,Ep hg p];cases h1:y6 f p<;>cases h2:y6 g p<;>simp only[bw,bB,bk,Ep hf,Ep hg,agw,h1,h2]
structure r7(σ τ:PS):Prop where
 n:σ.n=τ.n
 nl:σ.nl=τ.nl
 get:∀ t,σ.get t=τ.get t
 bo:∀ id,σ.bo id=τ.bo id
def r7.refl(σ:PS):r7 σ σ:=⟨rfl,rfl,λ_=>rfl,λ_=>rfl⟩
def r7.symm{σ τ:PS}(h:r7 σ τ):r7 τ σ:=⟨h.n.symm,h.nl.symm,λt=>(h.get t).symm,λi=>(h.bo i).symm⟩
def r7.trans{σ τ υ:PS}(h:r7 σ τ)(k:r7 τ υ):r7 σ υ:=⟨h.n.trans k.n,h.nl.trans k.nl,λt=>(h.get t).trans (k.get t),λi=>(h.bo i).trans (k.bo i)⟩
def iT.pX{w0:World}{B:Nat->Prop}{σ τ:PS}{a:Act}{w:World}{L:Lk}(r:iT w0 B σ a w L)(h:r7 σ τ):iT w0 B τ a w L:=
 ⟨r.hd,r.hs.trans h.n,λt=>by rw[<-h.get];exact r.ht t,λid b hb=>r.hb id b (by rw[h.bo];exact hb),λid=>by rw[<-h.bo];exact r.hv id,r.hn,r.hw,r.hi,r.he,λhn id b hb=>r.hl (by rw[h.nl];exact hn) id b (by rw[h.bo];exact hb)⟩
def Bt(σ:PS)(f:qq)(id:Nat):(σ.nL f).bo id=match f with
 | .none=>σ.bo id
 | .new i b | .vu i b | .qU i b | .uG i b | .A8 i b=>if i=id then some b else σ.bo id
 | .fin i=>if i=id then none else σ.bo id
 | .ri i r b=>if i=id then some b else if r=id then none else σ.bo id:=by
 cases f<;>first|rfl|exact Cr _ _ _ _|exact Cq _ _ _|skip
 rename_i i r b;show look (tE (σ.b.filter λx=>!Nat.beq x.1 r) i b) id=_;rw[Cr,Cq];rfl
def Fj(σ:PS)(d:Option Tmp)(u:ku)(t:Nat):(σ.app d u).get t=if d=some t then u.r else(σ.get t).mW u.f:=by
 unfold PS.app;cases d with
 |none=>
  rw[aY aH];exact PS.BJ σ u.f t
 |some d=>
  rw[PS.Mb,PS.BJ];simp only[bu]
def Bs(σ:PS)(d:Option Tmp)(u:ku)(id:Nat):(σ.app d u).bo id=(σ.nL u.f).bo id:=PS.aaF _ _ _ _
def Gi(σ:PS)(d:Option Tmp)(u:ku):(σ.app d u).n=σ.n:=by unfold PS.app;rw[PS.NY];rfl
def Gm(σ:PS)(d:Option Tmp)(u:ku):(σ.app d u).nl=σ.nl:=by unfold PS.app;rw[PS.ahQ];rfl
def zW(σ:PS)(d:Option Tmp)(u:ku)(id:Nat)(hm:u.f.Ck=false)(h:u.f.id≠some id):(σ.app d u).bo id=σ.bo id:=by
 rw[Bs,Bt];cases hf:u.f<;>rw[hf]at h hm<;>simp only[qq.id,cT,bu]at h<;>first|rfl|exact aY h|cases hm
section
variable {P:Program} {K:World->Prop} {T:List TI} {O:pR} {gT:Array Oper} {σ τ:PS} {o:Oper} {u:ku}
def adu(h:jm P K T O σ o=some u){x:Operand}(hx:x ∈ o.op.operands):x ∈ Gs o.op:=by
 obtain⟨dst,op,ty,pos,after,guard⟩:=o;simp only at hx ⊢;cases op<;>first
  | (simp only[jm]at h;cases h;done)
  | (exfalso;simp[Op.operands]at hx;done)
  | (simpa[Op.operands,Gs]using hx)
  | (simpa[Op.operands,Gs,or_assoc]using hx)
  |skip
 case call c=>
  obtain⟨callee,args,ats⟩:=c;cases callee<;>simpa[Op.operands,Gs,Call.operands]using hx
def NN{d:Option Tmp}{b:Bx}{rr:Nat->PV}{jr:List Prop}(h:y8 σ d b rr jr=some u){id:Nat}{b':Bx}(hf:u.f = .new id b'):σ.bo id=none:=by
 obtain⟨i,_,kr,_,rfl⟩:=F9 h;cases hf;exact kr
def Wz{d:Nat}{b:Bx}{id:Nat}{b':Bx}(hf:uj σ d b = .new id b'):σ.bo id=none:=by
 unfold uj at hf;split at hf
 .rename_i h;cases hf;exact h
 .cases hf
def VX{d:Option Tmp}{b:Bx}{rr:Nat->PV}(h:AR σ d b rr=some u){id:Nat}{b':Bx}(hf:u.f = .new id b'):σ.bo id=none:=by
 obtain⟨i,_,_,rfl⟩:=JJ h;exact Wz hf
def adt(h:jm P K T O σ o=some u){id:Nat}{b:Bx}(hf:u.f = .new id b):σ.bo id=none:=by
 cases il:o.op
 case alloc=>
  simp only[jm,il]at h;split at h
  .split at h
   .exact VX h hf
   .cases h
  .cases h
 case box=>
  simp only[jm,il]at h;split at h
  .split at h
   .exact VX h hf
   .cases h
  .cases h
 case makeSlice=>
  simp only[jm,il,IE]at h;split at h
  .exact NN h hf
  .cases h
 case makeFunc fn first cap=>
  cases fn with
  |func f=>
   simp only[jm,il]at h
   repeat' split at h
   all_goals first
    | (cases h;done)
    | (cases h;cases hf;done)
  |_=>simp[jm,il]at h
 case lookup t x i ok=>
  cases ok with
  |true=>simp[jm,il]at h
  |false=>
   simp only[jm,il]at h
   repeat' split at h
   all_goals first
    | (cases h;done)
    | (cases h;cases hf;done)
 case slice t x lo hi mx=>
  cases mx with
  |none=>
   simp only[jm,il,IF]at h
   repeat' split at h
   all_goals first
    | (cases h;done)
    | (cases h;cases hf;done)
  |some=>simp[jm,il]at h
 case call c=>
  obtain⟨callee,args,ats⟩:=c;cases callee with
  |builtin b=>
   simp only[jm,il]at h;cases b
   case append=>
    dsimp only at h;split at h
    .split at h
     .split at h
      .unfold BF at h
       repeat' split at h
       all_goals first
        | (cases h;done)
        | (cases h;cases hf;done)
      split at h
      .unfold BE at h;split at h
       .split at h
        .split at h
         .cases h;cases hf
         .cases h
        .cases h
       .cases h
      .simp only[Ag]at h
       repeat' split at h
       all_goals first
        | (cases h;done)
        |exact NN h hf
        | (cases h;cases hf;done)
     .cases h
    .cases h
   all_goals
    dsimp only at h
    repeat' split at h
    all_goals first
     | (cases h;done)
     | (cases h;cases hf;done)
     | (obtain⟨_,_,rfl⟩:=cH.1 h;cases hf)
  |value f=>
   simp only[jm,il]at h
   repeat' split at h
   all_goals first
    | (cases h;done)
    | (simp only[Ah]at h;repeat' split at h)
   all_goals first
    | (cases h;done)
    | (cases h;cases hf;done)
    | (cases h;cases hf;assumption)
    | (cases h;exact Wz hf)
  |invoke _ _=>simp[jm,il]at h
 all_goals
  simp only[jm,il,IG,IC,IF,ID,F3,BG]at h
  repeat' split at h
  all_goals first
   | (cases h;done)
   | (cases h;cases hf;done)
   | (obtain⟨_,_,rfl⟩:=cH.1 h;cases hf)
   |skip
 all_goals first
  | (obtain⟨_,_,h⟩:=gr.1 h;repeat' split at h)
  |skip
 all_goals first
  |exact NN h hf
  | (cases h;done)
  | (cases h;cases hf;done)
def LO(h:uA P K T O σ o=some u):∃ u0,jm P K T O σ o=some u0/\u0.rb=u.rb/\u0.f=u.f:=by
 unfold uA at h;split at h
 .rename_i u0 h0;split at h
  .split at h
   .cases h;exact⟨u0,h0,rfl,rfl⟩
   .cases h;exact⟨_,h0,rfl,rfl⟩
  .cases h;exact⟨_,h0,rfl,rfl⟩
 .cases h
def adw(h:uA P K T O σ o=some u)(hg:∀ x,x ∈ o.op.operands->τ.op x=σ.op x)(hb:∀ id,id ∈ u.rb->σ.bo id=τ.bo id)(jA:σ.nl=τ.nl)(hn:∀ id b,u.f = .new id b->τ.bo id=none):
 uA P K T O τ o=some u:=by
 obtain⟨u0,h0,e1,e2⟩:=LO h;have:=ads (τ:=τ) h0 hg (by rw[e1];exact hb) jA (by rw[e2];exact hn);unfold uA at h ⊢;rw[h0]at h;rw[this];exact h
def E8(h:rz P K T O gT σ o=some u):vX σ o.dst=true/\u.rd=(looks gT o).map σ.get/\((zL gT σ o=some true/\∃ u0,uA P K T O σ o=some u0/\u={ u0 with rd:=(looks gT o).map σ.get })\/(zL gT σ o=some false/\u={ r:=.e (.v (.tuple #[])),rd:=(looks gT o).map σ.get })):=by
 unfold rz at h;split at h
 .rename_i hi;split at h
  .rename_i hw;split at h
   .rename_i u0 h0;cases h;exact⟨hi,rfl,.inl ⟨hw,u0,h0,rfl⟩⟩
   .cases h
  .rename_i hw;cases h;exact⟨hi,rfl,.inr ⟨hw,rfl⟩⟩
  .cases h
 .cases h
def LM(h:rz P K T O gT σ o=some u)(hg:∀ t,t ∈ looks gT o->σ.get t=τ.get t)(hb:∀ id,id ∈ u.rb->σ.bo id=τ.bo id)(jA:σ.nl=τ.nl)(my:σ.n=τ.n)(hn:∀ id b,u.f = .new id b->τ.bo id=none):
 rz P K T O gT τ o=some u:=by
 obtain⟨hi,_,hw⟩:=E8 h;have lg:vX τ o.dst=vX σ o.dst:=by cases o.dst<;>simp[vX,my]
 have Nc:zL gT τ o=zL gT σ o:=by
  unfold zL;cases BQ:o.guard with
  |none=>rfl
  |some jw=>
   obtain⟨j,want⟩:=jw;cases hd:(gT[j]?).bind (·.dst)with
   |none=>simp[hd]
   |some t=>
    simp only[hd];rw[hg t (by unfold looks;rw[BQ];simp[hd])]
 have M0:(looks gT o).map τ.get=(looks gT o).map σ.get:=fc λt ht=>(hg t ht).symm
 unfold rz;rw[lg,hi,Nc,M0];simp only[bw];rcases hw with⟨hw,u0,h0,rfl⟩|⟨hw,rfl⟩
 .rw [hw];have il:∀ x,x ∈ o.op.operands->τ.op x=σ.op x:=by
   intro x hx;obtain⟨u1,h1,_,_⟩:=LO h0;have hm:=adu h1 hx;refine ah2 λt ht=>hg t ?_
   subst ht;unfold looks;exact List.mem_append_left _ (ahe hm)
  simp only[adw h0 il hb jA hn]
 .rw [hw]
def LN(h:rz P K T O gT σ o=some u){id:Nat}{b:Bx}(hf:u.f = .new id b):σ.bo id=none:=by
 obtain⟨_,_,⟨_,u0,h0,rfl⟩|⟨_,rfl⟩⟩:=E8 h
 .obtain ⟨u1,h1,_,e2⟩:=LO h0;exact adt h1 (by rw[e2];exact hf)
 .cases hf
def adv(h:rz P K T O gT σ o=some u)(hs:r7 σ τ):rz P K T O gT τ o=some u:=
 LM h (λt _=>hs.get t) (λid _=>hs.bo id) hs.nl hs.n λid b hf=>by rw[<-hs.bo];exact LN h hf
def ZI(hs:r7 σ τ)(d:Option Tmp)(u:ku):r7 (σ.app d u) (τ.app d u):=
 ⟨by rw[Gi,Gi];exact hs.n,by rw[Gm,Gm];exact hs.nl,λt=>by rw[Fj,Fj,hs.get],λid=>by rw[Bs,Bs,Bt,Bt,hs.bo]⟩
def akD{O':pR}{x y:Oper×ku}(hi:Ch gT x y=true)(h1:rz P K T O gT σ x.1=some x.2)(h2:rz P K T O' gT (σ.app x.1.dst x.2) y.1=some y.2):
 rz P K T O' gT σ y.1=some y.2/\rz P K T O gT (σ.app y.1.dst y.2) x.1=some x.2/\r7 ((σ.app x.1.dst x.2).app y.1.dst y.2) ((σ.app y.1.dst y.2).app x.1.dst x.2):=by
 simp only[Ch,bF]at hi;obtain⟨⟨⟨⟨⟨⟨⟨⟨⟨⟨⟨i1,i2⟩,i3⟩,i4⟩,i5⟩,i6⟩,i7⟩,i8⟩,i9⟩,i10⟩,m1⟩,m2⟩:=hi;simp only[dI]at m1 m2;obtain⟨_,rx,_⟩:=E8 h1;obtain⟨_,ry,_⟩:=E8 h2;have r1:rz P K T O' gT σ y.1=some y.2:=by
  refine LM h2 (λt ht=>?_) (λid hid=>zW _ _ _ _ m1 λe=>JS i4 e hid) (Gm _ _ _) (Gi _ _ _) λid b hf=>?_
  .have hg:(σ.app x.1.dst x.2).get t=(σ.get t).mW x.2.f:=by
    rw[Fj,aY λe=>JS i1 e ht]
   rw[hg];by_cases hv:x.2.f.KL=true
   .have BW:Oe ((σ.get t).mW x.2.f)=true:=by
     have h9:y.2.rd.all Oe=true:=by simpa[hv]using i9
     rw[ry]at h9;exact bN.1 h9 _ (dh.2 ⟨t,ht,hg⟩)
    rw[Ep m1]at BW ⊢;split at BW
    .rename_i hk;rw[aZ hk]
    .cases BW
   .cases hf:x.2.f<;>rw[hf]at hv<;>first|exact absurd rfl hv|(cases σ.get t<;>rfl)
  .have:=LN h2 hf;rwa[zW _ _ _ _ m1 λe=>KF i6 e (by rw[hf];rfl) rfl]at this
 refine⟨r1,?_,?_⟩
 .refine LM h1 (λt ht=>?_) (λid hid=>(zW _ _ _ _ m2 λe=>JS i5 e hid).symm) (Gm _ _ _).symm (Gi _ _ _).symm λid b hf=>?_
  .rw [Fj,aY λe=>JS i3 e ht];rw[rx]at i10;exact(Nz m2 (bN.1 i10 _ (dh.2 ⟨t,ht,rfl⟩))).symm
  .rw [zW _ _ _ _ m2 λe=>KF i6 (by rw[hf];rfl) e rfl];exact LN h1 hf
 .refine ⟨by simp only[Gi],by simp only[Gm],λt=>?_,λid=>?_⟩
  .simp only[Fj];by_cases hx:x.1.dst=some t
   .have hy:¬y.1.dst=some t:=λe=>KF i2 hx e rfl
    rw[aY hy,aZ hx,aZ hx,Nz m2 i8]
   .by_cases hy:y.1.dst=some t
    .rw [aZ hy,aY hx,aZ hy,Nz m1 i7]
    .rw [aY hy,aY hx,aY hx,aY hy,alK _ m1 m2]
  .by_cases hx:x.2.f.id=some id
   .have hy:y.2.f.id≠some id:=λe=>KF i6 hx e rfl
    rw[zW _ _ _ _ m2 hy,Bs,Bs,Bt,Bt,zW _ _ _ _ m2 hy]
   .rw [zW _ _ x.2 _ m1 hx];rw[Bs,Bs,Bt,Bt,zW _ _ _ _ m1 hx]
end
section
variable {P:Program} {K:World->Prop} {T:List TI} {O:pR} {gT:Array Oper}
def wC(P:Program)(K:World->Prop)(T:List TI)(gT:Array Oper):List (Oper×ku)->PS->PS->Prop
 | [],σ,τ=>r7 σ τ
 |x::l,σ,τ=>(∃ O,rz P K T O gT σ x.1=some x.2)/\wC P K T gT l (σ.app x.1.dst x.2) τ
def wC.pX{l:List (Oper×ku)}{σ σ2 τ:PS}(h:wC P K T gT l σ τ)(hs:r7 σ σ2):wC P K T gT l σ2 τ:=by
 induction l generalizing σ σ2 with
 |nil=>exact hs.symm.trans h
 |cons x l ih=>exact⟨h.1.imp λ_ h=>adv h hs,ih h.2 (ZI hs _ _)⟩
def wC.adY{A C:List (Oper×ku)}{y:Oper×ku}{σ τ:PS}(h:wC P K T gT (A++y::C) σ τ)(hi:∀ x,x ∈ A->Ch gT x y=true):
 (∃ O,rz P K T O gT σ y.1=some y.2)/\wC P K T gT (A++C) (σ.app y.1.dst y.2) τ:=by
 induction A generalizing σ with
 |nil=>exact h
 |cons x A ih=>
  obtain⟨⟨O1,h1⟩,h2⟩:=h;obtain⟨⟨O2,k1⟩,k2⟩:=ih h2 λz hz=>hi z (by simp[hz])
  obtain⟨s1,s2,s3⟩:=akD (hi x aH) h1 k1;exact⟨⟨O2,s1⟩,⟨O1,s2⟩,k2.pX s3⟩
end
end Go.Proofs.YtkdddbdjilcofaaGreatDoor.Pu
