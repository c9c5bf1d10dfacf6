/- Lemmas that the last file uses. -/
import Derived.Test.YtgdahmmlddfimaaGreatDoorProg
import Derived.WalkKit
import Derived.BigQuiet
import Derived.WalkSpells
import Derived.WalkLawsBesides
import Derived.Lib.Hide
import Derived.Deep.RegionHeld3
import Derived.Maps.AppendAt
import Derived.Deep.AppendLies
import Derived.Deep.Draws
import Derived.Deep.DeepFit
import Derived.Laws.AppendOwnNone
import Derived.Shelf.Small.Bits
import Derived.Shelf.Spec.TrailingZeros
import Derived.Test.YtgdahmmlddfimaaGreatDoorCards
import Derived.Test.YtgdahmmlddfimaaGreatDoorTie
import Derived.ProofKit
import Derived.OpenShut
import Derived.Deep.DeepHandedRow
import Derived.Lib.LaidTab
import Derived.Laws.AppendOwn
import Derived.Laws.MakeOwn
import Derived.Laws.Slices
import Derived.Orders
import Derived.Laws.Build
set_option linter.unusedSimpArgs false
set_option linter.unusedVariables false
set_option linter.defProp false
set_option maxHeartbeats 4000000
open Go.Proofs.Tryz
namespace Go.Proofs.YtgdahmmlddfimaaGreatDoor
theorem aE{p:Prop}(h:p:=by omega):p:=h
theorem aF{p:Prop}(h:p:=by assumption):p:=h
theorem aG{p:Prop}(h:p:=by decide):p:=h
theorem aI{p:Prop}(h:p:=by kernel_rfl):p:=h
theorem aJ{p:Prop}(h:p:=by rfl):p:=h
theorem aK{p:Prop}(h:p:=by simp):p:=h
theorem aM{p:Prop}(h:p:=by nofun):p:=h
theorem aO{p:Prop}(h:p:=by simp<;>omega):p:=h
theorem aP{p:Prop}(h:p:=by grind):p:=h
theorem aQ{p:Prop}(h:p:=by decide +kernel):p:=h
theorem aR{p:Prop}(h:p:=by split<;>omega):p:=h
theorem aS{p:Prop}(h:p:=by simp;omega):p:=h
theorem aT{p:Prop}(h:p:=by first|rfl|omega|(simp only[Nat.add_mul,Nat.one_mul];omega)):p:=h
theorem aU{p:Prop}(h:p:=by simp[Op.operands]):p:=h
theorem aV{p:Prop}(h:p:=by rw[IntKind.wrap_u32];omega):p:=h
theorem aW{p:Prop}(h:p:=by rw[uB];omega):p:=h
theorem aX{p:Prop}(h:p:=by rw[List.length_take];omega):p:=h
theorem aY{p:Prop}(h:p:=by unfold sN;simp_all<;>omega):p:=h
theorem aZ{p:Prop}(h:p:=by unfold qR;simp_all):p:=h
theorem a6{p:Prop}(h:p:=by unfold ku;omega):p:=h
theorem a7{α:Type _}[BEq α][LawfulBEq α]{a b:α}(h:a≠b):(a==b)=false:=beq_eq_false_iff_ne.2 h
theorem bc{α:Type _}[BEq α][LawfulBEq α]{a b:α}(h:a=b):(a==b)=true:=beq_iff_eq.2 h
theorem bd{b:Bool}(h:¬b=true):b=false:=Bool.eq_false_iff.2 h
theorem bg{α:Type _}[BEq α][LawfulBEq α]{a b:α}(h:a=b):(a != b)=false:=bne_eq_false_iff_eq.2 h
theorem bh{α:Type _}[BEq α][LawfulBEq α]{a b:α}(h:a≠b):(a != b)=true:=bne_iff_ne.2 h
def bj:=@if_neg
def bk:=@if_pos
def bn:=@decide_eq_true
def bt:=@decide_eq_false
def bu:=@Nat.le_refl
def bw:=@List.getD_eq_getElem?_getD
def bA:=@Nat.le_trans
def bB:=@Nat.pow_add
def bC:=@if_false
def bD:=@Nat.pow_pos
def bE:=@Nat.not_lt_zero
def bF:=@List.getElem?_eq_getElem
def bG:=@Option.some.injEq
def bH:=@Nat.mul_assoc
def bI:=@Nat.pow_succ
def bJ:=@if_true
def bK:=@Bool.false_eq_true
def bL:=@Nat.mul_comm
def bM:=@Nat.mod_lt
def bN:=@Rat.le_of_lt
def bO:=@Bool.and_eq_true
def bQ:=@Rat.le_trans
def bR:=@Nat.pow_le_pow_right
def bS:=@Nat.zero_le
def bT:=@Classical.byContradiction
def bU:=@Nat.mul_add
def bV:=@Nat.lt_of_lt_of_le
def bW:=@Nat.mul_le_mul_right
def bX:=@List.all_eq_true
def bY:=@Nat.add_zero
def bZ:=@Prod.mk.injEq
def b5:=@List.mem_range
def b6:=@Rat.mul_nonneg
def b7:=@Nat.div_le_self
def b8:=@Nat.add_mul
def b9:=@Nat.one_mul
def ca:=@Nat.mod_eq_of_lt
def cg:=@Rat.le_refl
def ch:=@List.getElem?_eq_none
def cj:=@Nat.zero_add
def ck:=@Nat.mul_one
def cr:=@List.getElem?_eq_some_iff
def ct:=@Rat.mul_le_mul_of_nonneg_right
def cv:=@decide_eq_true_eq
def cw:=@List.length_take
def cz:=@List.length_append
def cA:=@Nat.div_lt_iff_lt_mul
def cB:=@List.length_map
def cC:=@Nat.lt_of_le_of_lt
def cD:=@Nat.beq_refl
def cE:=@Int.le_refl
def cF:=@List.getElem?_map
def cG:=@List.getElem_mem
def cH:=@Option.map_some
def cI:=@Nat.pow_zero
def cJ:=@Rat.mul_le_mul_of_nonneg_left
def cK:=@List.take_of_length_le
def cL:=@Nat.mul_zero
def cM:=@Nat.zero_mul
def cN:=@Nat.div_add_mod
def cO:=@Nat.mul_le_mul_left
def cP:=@Nat.le_of_ble_eq_true
def cQ:=@Option.map_eq_some_iff
def cR:=@Nat.add_assoc
def cS:=@beq_false
def cT:=@of_decide_eq_true
def cU:=@Classical.choose_spec
def cV:=@Rat.natCast_nonneg
def cW:=@Nat.le_div_iff_mul_le
def cX:=@Rat.div_def
def cY:=@List.length_cons
def c9:=@Nat.div_eq_of_lt
def dc:=@List.length_set
def de:=@Array.getElem?_eq_some_iff
def df:=@ne_eq
def dg:=@Rat.natCast_mul
def dh:=@Nat.div_mul_le_self
def di:=@List.mem_cons
def dj:=@Nat.min_eq_left
def dk:=@Nat.div_div_eq_div_mul
def dm:=@Nat.mul_ne_zero
def dp:=@List.any_eq_false
def dq:=@Nat.sub_self
def dr:=@Nat.mul_le_mul
def dt:=@Nat.le_of_lt
def du:=@Nat.mul_lt_mul_of_pos_right
def dv:=@List.mem_map
def dw:=@List.eq_nil_of_length_eq_zero
def dx:=@Array.ext'
def dz:=@Nat.sub_le
def dA:=@Bool.eq_iff_iff
def dB:=@Rat.not_lt
def dC:=@List.mem_iff_getElem?
def dD:=@Array.length_toList
def dE:=@Nat.sub_zero
def dF:=@Rat.natCast_le_natCast
def dG:=@Rat.mul_lt_mul_of_pos_right
def dH:=@List.getElem?_append_left
def dI:=@Bool.or_eq_true
def dJ:=@Int.natCast_add
def dK:=@Nat.mul_left_comm
def dL:=@Int.natAbs_natCast
def dM:=@Rat.div_mul_cancel
def dN:=@List.mem_append
def dO:=@List.getElem_cons_succ
def dP:=@Nat.mul_div_cancel
def dQ:=@Nat.mod_one
def dR:=@List.mem_of_getElem?
def dU:=@List.mem_flatMap
def dV:=@Array.mem_of_getElem?
def dW:=@Bool.not_eq_true'
def dX:=@Bool.true_and
def dY:=@List.any_eq_true
def dZ:=@Int.natCast_mul
def ef:=@Nat.pos_of_ne_zero
def eh:=@Rat.intCast_natCast
def ej:=@Rat.mul_pos
def ek:=@Rat.natCast_add
def en:=@Nat.add_mul_mod_self_left
def eo:=@List.drop_eq_nil_of_le
def ep:=@List.take_succ_cons
def er:=@Nat.add_sub_cancel
def et:=@Nat.mod_add_div
def eu:=@Nat.ne_of_gt
def ev:=@List.getElem?_take
def ew:=@Bool.not_false
def ey:=@List.map_cons
def ez:=@Nat.eq_zero_or_pos
def eA:=@List.any_cons
def eB:=@not_false_eq_true
def eC:=@Nat.lt_succ_self
def eD:=@List.length_pos_iff
def eE:=@Int.eq_ofNat_of_zero_le
def eF:=@Rat.mul_assoc
def eG:=@Nat.mod_le
def eH:=@List.mem_of_mem_take
def eI:=@Nat.add_mul_div_left
def eJ:=@List.getElem_toArray
def eK:=@List.getElem_cons_zero
def eN:=@List.drop_zero
def eO:=@List.drop_succ_cons
def eP:=@List.take_zero
def eR:=@List.getElem?_drop
def eU:=@List.getElem?_append
def eV:=@List.length_drop
def eW:=@Bool.or_eq_false_iff
def eX:=@List.map_congr_left
def eZ:=@List.getElem?_replicate
def e9:=@List.take_length
def fc:=@Nat.xor_lt_two_pow
def fe:=@Nat.div_one
def ff:=@Rat.not_le
def fg:=@Rat.le_antisymm
def fh:=@Int.toNat_of_nonneg
def fi:=@List.mem_of_mem_drop
def fj:=@List.drop_eq_getElem_cons
def fk:=@Nat.add_comm
def fm:=@Array.getElem?_modify
def fo:=@Bool.not_true
def fp:=@Nat.mul_add_mod
def fu:=@List.getElem?_append_right
def fw:=@Array.mem_append
def fz:=@getElem!_pos
def fA:=@Bool.or_false
def fB:=@and_true
def fC:=@Int.tdiv_eq_ediv_of_nonneg
def fD:=@List.mapM_cons
def fE:=@Nat.lt_trans
def fF:=@Option.isSome_iff_exists
def fG:=@Nat.and_lt_two_pow
def fH:=@Int.natAbs_neg
def fI:=@decide_true
def fJ:=@BitVec.toNat_ofInt
def fK:=@Rat.le_of_mul_le_mul_right
def fL:=@Rat.neg_neg
def fM:=@Rat.one_mul
def fN:=@Rat.mul_comm
def fO:=@dif_pos
def fP:=@Rat.inv_pos
def fQ:=@List.take_succ_eq_append_getElem
def fR:=@List.length_singleton
def fS:=@Nat.mul_pos
def fT:=@Nat.lt_or_ge
def fU:=@Nat.mul_mod_left
def fV:=@List.map_append
def fW:=@List.append_nil
def fX:=@Int.toNat_natCast
def fY:=@Nat.blt_eq
def fZ:=@List.ext_getElem?
def gh:=@List.size_toArray
def gj:=@Array.mem_map
def gl:=@Array.mem_range
def gn:=@List.any_nil
def gp:=@decide_eq_true_iff
def gq:=@beq_iff_eq
def gr:=@Rat.intCast_le_intCast
def gv:=@Rat.natCast_pos
def gw:=@List.ext_getElem
def gy:=@of_decide_eq_false
def gz:=@Nat.div_lt_self
def gE:=@Nat.le_mul_of_pos_left
def gF:=@Nat.mul_right_comm
def gG:=@Nat.sub_add_cancel
def gH:=@Nat.le_mul_of_pos_right
def gI:=@Array.getElem_mem
def gJ:=@List.getElem?_toArray
def gK:=@List.mem_toArray
def gL:=@List.mem_singleton
def gM:=@Option.bind_eq_some_iff
def gN:=@BitVec.ofInt_natCast
def gO:=@BitVec.toNat_ofNat
def gP:=@Nat.pow_lt_pow_right
def gQ:=@decide_false
def gR:=@Int.add_mul
def gS:=@Nat.le_of_eq
def gT:=@List.length_eq_zero_iff
def gU:=@Bool.or_self
def ado:=@Rat.intCast_neg
def apI:=@Rat.neg_mul
def apS:=@Rat.inv_mul_cancel
def apV:=@Nat.succ_mul
def aqn:=@Nat.div_le_div_left
def aqo:=@Nat.lt_of_not_le
def aqp:=@Nat.one_ne_zero
def aqq:=@List.cons_append
def aqr:=@List.take_append_drop
def aqs:=@List.eq_nil_or_concat
def aqt:=@List.concat_eq_append
def aqu:=@List.getElem?_cons_succ
def aqv:=@Nat.pow_lt_pow_iff_right
def aqw:=@Nat.mul_add_div
def aqx:=@Array.size_append
def aqy:=@not_true_eq_false
def aqz:=@List.append_assoc
def aqA:=@List.length_nil
def aqB:=@Option.getD_some
def aqC:=@List.pairwise_cons
def aqD:=@List.pairwise_append
def aqE:=@Option.some.inj
def aqF:=@Array.getElem_setIfInBounds_ne
def aqG:=@Nat.or_lt_two_pow
def aqH:=@List.take_add_one
def aqI:=@Nat.and_one_is_mod
def aqJ:=@Nat.mul_lt_mul''
def aqK:=@decide_eq_decide
def aqL:=@Nat.testBit_xor
def aqM:=@Bool.false_or
def aqN:=@List.getElem?_range
def aqO:=@Rat.mul_div_cancel
def aqP:=@Nat.le_of_not_lt
def aqQ:=@List.range_succ
def aqR:=@Int.tmod_eq_emod_of_nonneg
def aqS:=@List.all_eq_false
def aqT:=@List.length_range
def aqU:=@Array.getElem?_setIfInBounds_ne
def aqV:=@Array.getElem?_append_left
def aqW:=@Array.toList_setIfInBounds
def aqX:=@List.drop_length_add_append
def aqY:=@Array.all_eq_true_iff_forall_mem
def aqZ:=@Array.mapM_eq_mapM_toList
def aq0:=@Nat.and_two_pow_sub_one_eq_mod
def aq1:=@Nat.eq_of_mul_eq_mul_right
def aq2:=@Nat.lt_of_mul_lt_mul_right
def aq3:=@Rat.lt_of_mul_lt_mul_right
def aq4:=@decide_eq_false_iff_not
def aq5:=@Int.mul_tdiv_cancel_left
def aq6:=@Nat.mul_div_cancel_left
def aq7:=@Nat.mod_two_eq_zero_or_one
def aq8:=@Nat.mul_lt_mul_of_lt_of_lt
def aq9:=@Lib.hid
end Go.Proofs.YtgdahmmlddfimaaGreatDoor
namespace Go.Proofs.YtgdahmmlddfimaaGreatDoor.Fp
def val:List Nat->Nat
 | []=>0
 |x::l=>x+4294967296*val l
def iK(L:List Nat):Prop:=∀ x,x ∈ L->x<4294967296
def iK.nil:iK []:=by intro x h;cases h
def iK.cons{x:Nat}{l:List Nat}(hx:x<4294967296)(h:iK l):iK (x::l):=by
 intro y hy;rcases di.1 hy with rfl|hy;exact hx;exact h _ hy
def iK.head{x:Nat}{l:List Nat}(h:iK (x::l)):x<4294967296:=h x aK 
def iK.tail{x:Nat}{l:List Nat}(h:iK (x::l)):iK l:=λy hy=>h y (by simp[hy])
def iK.append{l m:List Nat}(h:iK l)(k:iK m):iK (l++m):=by
 intro x hx;rcases dN.1 hx with hx|hx;exact h _ hx;exact k _ hx
def iK.take{l:List Nat}(h:iK l)(n:Nat):iK (l.take n):=λx hx=>h x (eH hx)
def iK.drop{l:List Nat}(h:iK l)(n:Nat):iK (l.drop n):=λx hx=>h x (fi hx)
def iK.get{l:List Nat}(h:iK l){i:Nat}(hi:i<l.length):l[i]<4294967296:=h _ (cG hi)
def iK.getD{l:List Nat}(h:iK l)(i:Nat):l.getD i 0<4294967296:=by
 rw[bw];by_cases hi:i<l.length
 .rw [bF hi];exact h.get hi
 .rw [ch aE];decide
def iK.DN(n:Nat):iK (List.replicate n 0):=by
 intro x hx;rw[List.mem_replicate]at hx;rw[hx.2];decide
@[simp] theorem AO:val []=0:=rfl
@[simp] theorem rm (x:Nat) (l:List Nat):val (x::l)=x+4294967296*val l:=rfl
def wI(l m:List Nat):val (l++m)=val l+4294967296^l.length*val m:=by
 induction l with
 |nil=>simp
 |cons x l ih=>
  simp only[aqq,rm,ih,cY,bI];rw[bU,bL (4294967296^l.length) 4294967296,bH];omega
def oE{l:List Nat}(h:iK l):val l<4294967296^l.length:=by
 induction l with
 |nil=>simp
 |cons x l ih=>
  have h1:=h.head;have h2:=ih h.tail;simp only[rm,cY,bI];have:val l+1<=4294967296^l.length:=h2;have:=cO 4294967296 this;rw[bL (4294967296^l.length)];omega
def AR(n:Nat):val (List.replicate n 0)=0:=by
 induction n with
 |zero=>rfl
 |succ n ih=>simp[List.replicate_succ,ih]
def FJ(l:List Nat)(n:Nat)(hn:n<=l.length):val l=val (l.take n)+4294967296^n*val (l.drop n):=by
 conv=>lhs;rw[<-aqr n l,wI]
 rw[cw,dj hn]
def zz(l:List Nat)(n:Nat)(hn:n<l.length):val (l.take (n+1))=val (l.take n)+4294967296^n*l[n]:=by
 rw[fQ hn,wI,cw,dj aE];simp
def apd{l:List Nat}(h:iK l)(n:Nat):val (l.take n)=val l%4294967296^n:=by
 by_cases hn:n<=l.length
 .rw [FJ l n hn,en,ca];have:=oE (h.take n);rwa[cw,dj hn]at this
 .rw [cK aE,ca];refine bV (oE h) (bR aG aE)
def IU{l:List Nat}(h:iK l)(n:Nat):val (l.drop n)=val l/4294967296^n:=by
 by_cases hn:n<=l.length
 .rw [FJ l n hn];have:=oE (h.take n);rw[cw,dj hn]at this;rw[eI _ _ (bD aG),c9 this,cj]
 .rw [eo aE,c9];rfl;exact bV (oE h) (bR aG aE)
def iG:List Nat->List Nat
 | []=>[]
 |x::l=>match iG l with
  | []=>if x=0 then[]else[x]
  |y::m=>x::y::m
def mX(L:List Nat):Nat:=(iG L).length
def abi(l:List Nat):iG (l++[0])=iG l:=by
 induction l with
 |nil=>rfl
 |cons x l ih=>simp only[aqq,iG,ih]
def abh(l:List Nat)(x:Nat)(hx:x≠0):iG (l++[x])=l++[x]:=by
 induction l with
 |nil=>simp[iG,hx]
 |cons y l ih=>
  simp only[aqq,iG,ih];cases l<;>rfl
def L6(L:List Nat):iG L=L.take (mX L):=by
 unfold mX
 induction L with
 |nil=>rfl
 |cons x l ih=>
  simp only[iG];cases h:iG l with
  |nil=>by_cases hx:x=0<;>simp[hx]
  |cons y m=>
   rw[h]at ih;simp only[cY,ep];rw[cY]at ih;rw[<-ih]
def pY(L:List Nat):mX L<=L.length:=by
 have h:=congrArg List.length (L6 L);rw[cw]at h;unfold mX at h ⊢;omega
def qA(L:List Nat):val (iG L)=val L:=by
 induction L with
 |nil=>rfl
 |cons x l ih=>
  simp only[iG];cases h:iG l with
  |nil=>rw[h]at ih;by_cases hx:x=0<;>simp[hx,<-ih]
  |cons y m=>rw[h]at ih;simp only[rm]at ih ⊢;rw[ih]
def iK.iG{L:List Nat}(h:iK L):iK (Fp.iG L):=by rw[L6];exact h.take _
def nJ(L:List Nat):Prop:=iG L=L
def AM(L:List Nat):nJ (iG L):=by
 unfold nJ
 induction L with
 |nil=>rfl
 |cons x l ih=>
  simp only[iG];cases h:iG l with
  |nil=>by_cases hx:x=0<;>simp[hx,iG]
  |cons y m=>rw[h]at ih;simp only[iG]at ih ⊢;rw[ih]
def nJ.nil:nJ []:=rfl
def Cg(L:List Nat):nJ L↔∀ h:0<L.length,L[L.length-1]≠0:=by
 rcases aqs L with rfl|⟨l,x,rfl⟩
 .simp [nJ,iG]
 .simp only[aqt,cz,fR,er,List.getElem_concat_length];constructor
  .intro h _ hx;subst hx;have:=congrArg List.length h;rw[abi]at this;have h2:=pY l;unfold mX at h2;rw[cz]at this;simp at this;omega
  .intro h;exact abh l x (h aE)
def Rg(L:List Nat)(n:Nat)(hn:n<L.length)(h0:L[n]=0):mX (L.take (n+1))=mX (L.take n):=by
 unfold mX;rw[fQ hn,h0,abi]
def Rf(L:List Nat)(n:Nat)(hn:n<L.length)(h0:L[n]≠0):mX (L.take (n+1))=n+1:=by
 unfold mX;rw[fQ hn,abh _ _ h0];simp;omega
def nJ.M6{x:Nat}{l:List Nat}(h:nJ (x::l)):nJ l:=by
 rw[Cg]at h ⊢;intro hl;have:=h aK;simp only[cY,er]at this;have e:(x::l)[l.length]'(aK)=l[l.length-1]:=by
  rw[List.getElem_cons];rw[dif_neg aE]
 rwa[e]at this
def nJ.AP{L:List Nat}(h:nJ L)(hl:L≠[]):0<val L:=by
 induction L with
 |nil=>exact absurd rfl hl
 |cons x l ih=>
  simp only[rm];by_cases qW:l=[]
  .subst qW;have:=(Cg _).1 h aK;simp at this;simp;omega
  .have:=ih h.M6 qW;omega
def nJ.ext{L M:List Nat}(hL:nJ L)(hM:nJ M)(kL:iK L)(kM:iK M)(h:val L=val M):L=M:=by
 induction L generalizing M with
 |nil=>
  by_cases hm:M=[]
  .exact hm.symm
  .have:=hM.AP hm;rw[<-h]at this;simp at this
 |cons x l ih=>
  cases M with
  |nil=>have:=hL.AP aK;rw[h]at this;simp at this
  |cons y m=>
   simp only[rm]at h;have h1:=kL.head;have h2:=kM.head;have e:x=y:= aE ;subst e;rw[ih hL.M6 hM.M6 kL.tail kM.tail aE]
def gW(n:Nat):List Nat:=if n=0 then[]else n%4294967296::gW (n/4294967296)
termination_by n
decreasing_by exact gz aE aG 
def oz:gW 0=[]:=by rw[gW];rfl
def BO{n:Nat}(h:n≠0):gW n=n%4294967296::gW (n/4294967296):=by rw[gW,bj h]
def kq(n:Nat):val (gW n)=n:=by
 induction n using Nat.strongRecOn with
 |_ n ih=>
  by_cases h:n=0
  .subst h;rw[oz];rfl
  .rw [BO h,rm,ih _ (gz aE aG)];exact et n 4294967296
def ml(n:Nat):iK (gW n):=by
 induction n using Nat.strongRecOn with
 |_ n ih=>
  by_cases h:n=0
  .subst h;rw[oz];exact iK.nil
  .rw [BO h];exact iK.cons (bM _ aG) (ih _ (gz aE aG))
def uI(n:Nat):nJ (gW n):=by
 induction n using Nat.strongRecOn with
 |_ n ih=>
  by_cases h:n=0
  .subst h;rw[oz];exact nJ.nil
  .rw [BO h];have h1:=ih _ (gz aE (aG:1<4294967296));unfold nJ at h1 ⊢;simp only[iG,h1];by_cases h2:n/4294967296=0
   .rw [h2,oz];have:n%4294967296≠0:= aE ;simp[this]
   .rw [BO h2]
def rO{L:List Nat}(h:iK L):iG L=gW (val L):=
 nJ.ext (AM L) (uI _) h.iG (ml _) (by rw[qA,kq])
def nJ.Eo{L:List Nat}(h:nJ L)(k:iK L):L=gW (val L):=by
 rw[<-rO k];exact h.symm
def Xz{n:Nat}:gW n=[]↔n=0:=by
 constructor
 .intro h;have:=kq n;rw[h]at this;exact this.symm
 .rintro rfl;exact oz
def s9{n k:Nat}(h:n<4294967296^k):(gW n).length<=k:=by
 induction k generalizing n with
 |zero=>simp at h;subst h;rw[oz];simp
 |succ k ih=>
  by_cases h0:n=0
  .subst h0;rw[oz];simp
  .rw [BO h0,cY];have:n/4294967296<4294967296^k:=by
    rw[cA aG];rwa[bI]at h
   have:=ih this;omega
def y7{n k:Nat}(h:(gW n).length<=k):n<4294967296^k:=by
 have h1:=oE (ml n);rw[kq]at h1;exact bV h1 (bR aG h)
def ie(n:Nat):Nat:=if n=0 then 0 else n.log2+1
def rX:ie 0=0:=rfl
def lY{n k:Nat}:ie n<=k↔n<2^k:=by
 unfold ie;by_cases h:n=0
 .subst h;simp[bD]
 .rw [bj h,<-Nat.log2_lt h];omega
def xg{n k:Nat}:k<ie n↔2^k<=n:=by
 have:=@lY n k;omega
def yH{n k:Nat}(h1:2^k<=n)(h2:n<2^(k+1)):ie n=k+1:=by
 have a:=xg.2 h1;have b:=lY.2 h2;omega
def qw(n:Nat):n<2^ie n:=lY.1 (bu _)
def rP{n:Nat}(h:n≠0):2^(ie n-1)<=n:=by
 have:ie n-1<ie n:=by
  have:ie n≠0:=by unfold ie;simp[h]
  omega
 exact xg.1 this
def ny{n:Nat}(h:n≠0):0<ie n:=by unfold ie;simp[h]
def vz{m n:Nat}(h:m<=n):ie m<=ie n:=lY.2 (cC h (qw n))
def qC{n:Nat}(h:n≠0)(k:Nat):ie (n*2^k)=ie n+k:=by
 have h1:=qw n;have h2:=rP h;have h3:=ny h;have e:ie n+k=(ie n-1+k)+1:= aE ;rw[e];apply yH
 .rw [bB];exact bW _ h2
 .rw [<-e,bB];exact du h1 (bD aG)
def ss(k:Nat):(4294967296:Nat)^k=2^(32*k):=by
 rw[Nat.pow_mul]
def adg{l:List Nat}{x:Nat}(h:iK (l++[x]))(hx:x≠0):ie (val (l++[x]))=32*l.length+ie x:=by
 rw[wI];simp only[rm,AO,cL,bY];have hl:val l<4294967296^l.length:=oE (λy hy=>h y (by simp[hy]));rw[ss]at hl ⊢;have h1:=qw x;have h2:=rP hx;have h3:=ny hx;have e:32*l.length+ie x=(32*l.length+(ie x-1))+1:= aE ;rw[e];apply yH
 .rw [bB];have:=cO (2^(32*l.length)) h2;omega
 .rw [<-e,bB];have:=cO (2^(32*l.length)) (show x+1<=2^ie x from h1);rw[bU]at this;omega
def kI(a b:Nat):Int:=if a<b then -1 else if b<a then 1 else 0
def Md{L M:List Nat}(kL:iK L)(hM:nJ M)(h:L.length<M.length):val L<val M:=by
 rcases aqs M with rfl|⟨m,x,rfl⟩
 .simp at h
 .simp only[aqt,cz,fR]at h hM ⊢;have hx:x≠0:=by
   have:=(Cg _).1 hM aK;simpa using this
  have h1:=oE kL;rw[wI];have h2:(4294967296:Nat)^L.length<=4294967296^m.length:=bR aG aE;have h3:(4294967296:Nat)^m.length*1<=4294967296^m.length*val [x]:=cO _ aS;omega
def ao9{L M:List Nat}(kL:iK L)(i:Nat)(hi:i<L.length)(hlen:L.length=M.length)(aii:L.drop (i+1)=M.drop (i+1))(iC:L[i]<M[i]'(aE)):val L<val M:=by
 rw[FJ L (i+1) aE,FJ M (i+1) aE,aii,zz L i hi,zz M i aE];have h1:=oE (kL.take i);rw[cw,dj aE]at h1;have h2:=cO (4294967296^i) (show L[i]+1<=M[i]'(aE)from iC);rw[bU]at h2;omega
def apb(L:List Nat)(k:Nat)(h:iK L):val (L.drop k)=val L/2^(32*k):=by
 rw[IU h,ss]
def rk(s:Nat):List Nat->List Nat
 | []=>[]
 |x::l=>((x+4294967296*l.getD 0 0)/2^s)%4294967296::rk s l
def LS(s:Nat)(L:List Nat):(rk s L).length=L.length:=by
 induction L with
 |nil=>rfl
 |cons x l ih=>simp[rk,ih]
def aaE(s:Nat)(L:List Nat)(i:Nat)(h:i<L.length):(rk s L)[i]? = some (((L[i]+4294967296*L.getD (i+1) 0)/2^s)%4294967296):=by
 induction L generalizing i with
 |nil=>simp at h
 |cons x l ih=>
  cases i with
  |zero=>simp[rk]
  |succ i=>
   simp only[cY]at h;simp only[rk,aqu,ih i aE,dO];congr 1
def BU(s:Nat)(L:List Nat):iK (rk s L):=by
 induction L with
 |nil=>exact iK.nil
 |cons x l ih=>exact iK.cons (bM _ aG) ih
def apc{L:List Nat}(h:iK L)(s:Nat)(hs:s<32):val (rk s L)=val L/2^s:=by
 induction L with
 |nil=>simp[rk]
 |cons x l ih=>
  have e:32=s+(32-s):= aE ;have e2:(4294967296:Nat)=2^s*2^(32-s):=by rw[<-bB,<-e]
  have hp:0<2^s:=bD aG;have hx:=h.head;simp only[rk,rm,ih h.tail];generalize hv:val l=v;have hh:l.getD 0 0=v%4294967296:=by
   rw[<-hv];cases l with
   |nil=>simp
   |cons y m=>
    have:=h.tail.head;simp[rm];omega
  rw[hh];have f1:(x+4294967296*(v%4294967296))/2^s=x/2^s+2^(32-s)*(v%4294967296):=by
   rw[show x+4294967296*(v%4294967296)=x+2^s*(2^(32-s)*(v%4294967296))by rw[<-bH,<-e2],eI _ _ hp]
  have f2:(x+4294967296*v)/2^s=x/2^s+2^(32-s)*v:=by
   rw[show x+4294967296*v=x+2^s*(2^(32-s)*v)by rw[<-bH,<-e2],eI _ _ hp]
  rw[f1,f2];have qf:x/2^s<2^(32-s):=by
   rw[cA hp,bL,<-e2];exact hx
  generalize x/2^s=q at qf ⊢;have g1:(4294967296:Nat)=2^(32-s)*2^s:=by rw[bL];exact e2
  have g2:v=2^s*(v/2^s)+v%2^s:=(cN v (2^s)).symm;have g3:(q+2^(32-s)*(v%4294967296))%4294967296=q+2^(32-s)*(v%2^s):=by
   have k1:v%4294967296%2^s=v%2^s:=by
    rw[e2,Nat.mod_mul_right_mod]
   have k2:(v%4294967296)=2^s*(v%4294967296/2^s)+v%2^s:=by
    rw[<-k1];exact(cN _ _).symm
   conv=>lhs;rw[k2]
   rw[bU,<-bH,<-g1];rw[(aE:q+(4294967296*(v%4294967296/2^s)+2^(32-s)*(v%2^s))=(q+2^(32-s)*(v%2^s))+4294967296*(v%4294967296/2^s)),en];apply ca;have:v%2^s+1<=2^s:=bM _ hp;have:=cO (2^(32-s)) this;rw[<-g1,bU]at this;omega
  rw[g3]
  conv=>rhs;rw[g2,bU,<-bH,<-g1]
  omega
def Me{L:List Nat}(h:iK L)(n:Nat):val (rk (n%32) (L.drop (n/32)))=val L/2^n:=by
 rw[apc (h.drop _) _ (bM _ aG),apb _ _ h,dk,<-bB];congr 2;omega
def QZ{out a:List Nat}{i c s n0:Nat}(hi:i<a.length)(hlen:out.length=n0+i)
 (h:val out+4294967296^(n0+i)*c=val (a.take i)*2^s*4294967296^n0):
 val (out++[(a[i]*2^s+c)%4294967296])+4294967296^(n0+(i+1))*((a[i]*2^s+c)/4294967296)=val (a.take (i+1))*2^s*4294967296^n0:=by
 rw[wI,zz a i hi,hlen];simp only[rm,AO,cL,bY];generalize hx:a[i]*2^s+c=x;have e:=et x 4294967296;have p:4294967296^(n0+(i+1))=4294967296^(n0+i)*4294967296:=by rw[<-cR,bI]
 rw[p,cR,bH (4294967296^(n0+i)),<-bU,e,<-hx,bU,<-cR,Nat.add_right_comm,h,b8,b8];congr 1;rw[bB]
 ac_rfl
def xw(b:List Nat)(i:Nat):val (b.take (i+1))=val (b.take i)+4294967296^i*b.getD i 0:=by
 by_cases hi:i<b.length
 .rw [zz b i hi,bw,bF hi];rfl
 .rw [cK aE,cK aE,bw,ch aE];simp
def aqf{out a b:List Nat}{i c y d c':Nat}(hi:i<a.length)(hlen:out.length=i)
 (hb:val (b.take (i+1))=val (b.take i)+4294967296^i*y)
 (hd:d+y+c=a[i]+4294967296*c')
 (h:val out+val (b.take i)=val (a.take i)+4294967296^i*c):
 val (out++[d])+val (b.take (i+1))=val (a.take (i+1))+4294967296^(i+1)*c':=by
 rw[wI,zz a i hi,hb,hlen];simp only[rm,AO,cL,bY];have e:=congrArg (4294967296^i * ·) hd;simp only[bU,<-bH]at e;rw[bI];omega
def jz(n:Nat):Nat:=if n=0 then 0 else(Nat.gcd n (2^(Nat.log2 n+1))).log2
def M7{m:Nat}(hm:m%2=1)(k:Nat):jz (m*2^k)=k:=by
 have h0:m*2^k≠0:=dm aE (eu (bD aG));unfold jz;rw[bj h0];have hk:k<=Nat.log2 (m*2^k):=by
  apply bT;intro h;have h1:m*2^k<2^k:=(Nat.log2_lt h0).1 aE;have:1*2^k<=m*2^k:=bW _ aE;omega
 obtain⟨j,hj⟩:∃ j,Nat.log2 (m*2^k)+1=j+k:=⟨Nat.log2 (m*2^k)+1-k,aE⟩
 rw[hj,bB,Nat.gcd_mul_right];have hg:Nat.gcd m (2^j)=1:=by
  have hc:Nat.Coprime m 2:=by
   unfold Nat.Coprime;rw[Nat.gcd_comm,Nat.gcd_rec,hm];rfl
  exact Nat.Coprime.pow_right j hc
 rw[hg,b9,Nat.log2_two_pow]
def JH{n:Nat}(h:n%2=1):jz n=0:=by have:=M7 h 0;simpa using this
def aoT{n:Nat}(h:n≠0):∃ m k,m%2=1/\n=m*2^k:=by
 induction n using Nat.strongRecOn with
 |_ n ih=>
  by_cases h2:n%2=1
  .exact ⟨n,0,h2,aK⟩
  .obtain ⟨m,k,hm,he⟩:=ih (n/2) aE aE ;exact⟨m,k+1,hm,by rw[bI,<-bH,<-he];omega⟩
def TA{n:Nat}(h:n≠0)(h2:n%2=0):jz n=jz (n/2)+1:=by
 obtain⟨m,k,hm,he⟩:=aoT (n:=n/2) aE;have e:n=m*2^(k+1):=by rw[bI,<-bH,<-he];omega
 rw[he,M7 hm]
 conv=>lhs;rw[e]
 exact M7 hm _
def Cz{n:Nat}(h:n≠0):∃ m,m%2=1/\n=m*2^jz n:=by
 induction n using Nat.strongRecOn with
 |_ n ih=>
  by_cases h2:n%2=1
  .exact ⟨n,h2,by rw[JH h2];omega⟩
  .obtain ⟨m,hm,he⟩:=ih (n/2) aE aE ;refine⟨m,hm,?_⟩;rw[TA h aE,bI,<-bH,<-he];omega
def zU{m:Nat}(hm:m%2=1)(k:Nat):jz (m*2^k)=k:=by
 induction k with
 |zero=>rw[cI,ck,JH hm]
 |succ k ih=>
  have hp:0<m*2^k:=fS aE (bD aG);have e:m*2^(k+1)=m*2^k*2:=by rw[bI,bH]
  rw[e,TA aE aE,dP _ aG,ih]
def Fe{n:Nat}(h:n≠0):(n/2^jz n)%2=1:=by
 obtain⟨m,hm,he⟩:=Cz h;have:n/2^jz n=m:=by conv=>lhs;rw[he,zU hm];rw[dP _ (bD aG)]
 rw[this];exact hm
def Gc{n:Nat}(h:n≠0):(n/2^jz n)*2^jz n=n:=by
 obtain⟨m,hm,he⟩:=Cz h;have:n/2^jz n=m:=by conv=>lhs;rw[he,zU hm];rw[dP _ (bD aG)]
 rw[this];exact he.symm
def Io{n:Nat}(h:n≠0):2^jz n<=n:=by
 obtain⟨m,hm,he⟩:=Cz h
 conv=>rhs;rw[he]
 exact gE _ aE 
def afd{x v:Nat}(hx:x≠0)(iC:x<4294967296):jz (x+4294967296*v)=jz x:=by
 obtain⟨m,hm,he⟩:=Cz hx;have hk:jz x<32:=by
  have h1:=Io hx;rcases fT (jz x) 32 with h|h
  .exact h
  .have:=bR (n:=2) aG h;have e:(2:Nat)^32=4294967296:= aG ;omega
 have e:x+4294967296*v=(m+2^(32-jz x)*v)*2^jz x:=by
  rw[b8,<-he,gF,<-bB,gG aE]
 conv=>lhs;rw[e]
 apply zU;have:2^(32-jz x)=2*2^(31-jz x):=by rw[(aE:32-jz x=(31-jz x)+1),bI,bL]
 rw[this,bH,en];exact hm
def afe{v:Nat}(hv:v≠0)(k:Nat):jz (2^k*v)=k+jz v:=by
 obtain⟨m,hm,he⟩:=Cz hv
 conv=>lhs;rw[he,<-bH,bL (2^k),bH,<-bB]
 exact zU hm _
def IV{L:List Nat}:val L=0↔∀ x,x ∈ L->x=0:=by
 induction L with
 |nil=>simp
 |cons x l ih=>
  simp only[rm,di];constructor
  .intro h y hy;rcases hy with rfl|hy
   .omega
   .exact ih.1 aE y hy
  .intro h;have h1:=h x (.inl rfl);have h2:=ih.2 (λy hy=>h y (.inr hy));omega
def aff{L:List Nat}(h:iK L)(i:Nat)(hi:i<L.length)(h0:∀ j,(hj:j<i)->L[j]=0)(hx:L[i]≠0):jz (val L)=32*i+jz L[i]:=by
 rw[FJ L i aE];have:val (L.take i)=0:=by
  rw[IV];intro y hy;obtain⟨j,hj,rfl⟩:=List.getElem_of_mem hy;rw[cw]at hj;rw[List.getElem_take];exact h0 j aE 
 rw[this,cj,ss,fj hi,rm];rw[afe aE,afd hx (h.get hi)]
def Rp{L:List Nat}{k x:Nat}(hk:k<L.length):val (L.set k x)+4294967296^k*L[k]=val L+4294967296^k*x:=by
 induction L generalizing k with
 |nil=>simp at hk
 |cons y l ih=>
  cases k with
  |zero=>simp;omega
  |succ k=>
   simp only[cY]at hk;have:=ih (k:=k) aE;simp only[List.set_cons_succ,rm,dO,bI];have e1:(4294967296^k*4294967296*l[k])=4294967296*(4294967296^k*l[k]):=by ac_rfl
   have e2:(4294967296^k*4294967296*x)=4294967296*(4294967296^k*x):=by ac_rfl
   rw[e1,e2];omega
def iK.set{L:List Nat}(h:iK L)(k:Nat){x:Nat}(hx:x<4294967296):iK (L.set k x):=by
 intro y hy;rcases List.mem_or_eq_of_mem_set hy with hy|rfl
 .exact h _ hy
 .exact hx
structure Dy where
 neg:Bool
 m:Nat
 e:Int
def Dy.nx(d:Dy):Prop:=(d.m=0/\d.neg=false/\d.e=0)\/d.m%2=1
def canon(neg:Bool)(m:Nat)(e:Int):Dy:=if m=0 then⟨false,0,0⟩else⟨neg,m/2^jz m,e+jz m⟩
def rY(neg:Bool)(m:Nat)(e:Int):(canon neg m e).nx:=by
 unfold canon;split
 .exact .inl ⟨rfl,rfl,rfl⟩
 .rename_i h;exact .inr (Fe h)
def Dy.nx.Cv{d:Dy}(h:d.nx):canon d.neg d.m d.e=d:=by
 obtain⟨s,m,e⟩:=d;rcases h with⟨h1,h2,h3⟩|h
 .simp only at h1 h2 h3;subst h1 h2 h3;rfl
 .simp only at h ⊢;unfold canon;rw[bj aE,JH h];simp
def mT(d:Dy):Prop:=d.m=0\/ie d.m<=4096 /\ -16384<=d.e/\d.e<=16384/\(ie d.m:Int)+d.e<=16384
instance (d:Dy):Decidable (mT d):=by unfold mT;infer_instance
structure Dy.ib(d:Dy):Prop where
 canon:d.nx
 range:mT d
def iA:Dy:=⟨false,0,0⟩
def su:iA.ib:=⟨.inl ⟨rfl,rfl,rfl⟩,.inl rfl⟩
def Dy.iI(d:Dy):Int:=if d.m=0 then 0 else if d.neg then -1 else 1
def Dy.im(d:Dy):Int:=if d.m=0 then 0 else ie d.m+d.e
def Dy.jO(d:Dy)(e:Int):Nat:=d.m*2^(d.e-e).toNat
def Dy.num(d:Dy)(e:Int):Int:=if d.neg then -(d.jO e:Int)else d.jO e
def iL(a b:Dy):Int:=
 if a.num (min a.e b.e)<b.num (min a.e b.e)then -1 else if b.num (min a.e b.e)<a.num (min a.e b.e)then 1 else 0
def xh{d:Dy}(h:d.m≠0)(e:Int):0<d.jO e:=fS aE (bD aG)
def XS{d:Dy}(h:d.m=0)(e:Int):d.jO e=0:=by unfold Dy.jO;rw[h,cM]
def Ju{d:Dy}(h:d.m≠0){e:Int}(he:e<=d.e):(ie (d.jO e):Int)=ie d.m+d.e-e:=by
 unfold Dy.jO;rw[qC h];omega
def XR{a b:Dy}(ha:a.m≠0)(hb:b.m≠0){e:Int}(h1:e<=a.e)(h2:e<=b.e)(h:a.im<b.im):a.jO e<b.jO e:=by
 have k1:=Ju ha h1;have k2:=Ju hb h2;unfold Dy.im at h;rw[bj ha,bj hb]at h;rcases fT (a.jO e) (b.jO e)with h'|h'
 .exact h'
 .have:=vz h';omega
def tZ(a b:Dy):Int:=kI (a.jO (min a.e b.e)) (b.jO (min a.e b.e))
def Ts{a b:Dy}(ha:a.m≠0)(hb:b.m≠0)(h:a.im<b.im):tZ a b = -1:=by
 unfold tZ kI;rw[bk (XR ha hb (Int.min_le_left _ _) (Int.min_le_right _ _) h)]
def Tp{a b:Dy}(ha:a.m≠0)(hb:b.m≠0)(h:b.im<a.im):tZ a b=1:=by
 have:=XR hb ha (Int.min_le_right a.e b.e) (Int.min_le_left _ _) h;unfold tZ kI;rw[bj aE,bk this]
def AJ(d:Dy):(d.m=0/\d.iI=0)\/(d.m≠0/\d.neg=true/\d.iI = -1)\/(d.m≠0/\d.neg=false/\d.iI=1):=by
 unfold Dy.iI;by_cases h:d.m=0
 .exact .inl ⟨h,bk h⟩
 .cases hn:d.neg
  .exact .inr (.inr ⟨h,rfl,by simp[h]⟩)
  .exact .inr (.inl ⟨h,rfl,by simp[h]⟩)
def YQ{d:Dy}(e:Int):(d.iI=0->d.num e=0)/\(d.iI = -1->d.num e<0/\d.num e = -(d.jO e))/\(d.iI=1->0<d.num e/\d.num e=d.jO e):=by
 unfold Dy.num;rcases AJ d with⟨h1,h2⟩|⟨h1,h2,h3⟩|⟨h1,h2,h3⟩
 .rw [h2,XS h1];simp
 .have:=xh h1 e;rw[h3,h2];simp;omega
 .have:=xh h1 e;rw[h3,h2];simp;omega
def Ei(a b:Dy):iL a b=if a.iI<b.iI then -1 else if b.iI<a.iI then 1 else if a.iI=0 then 0 else a.iI*tZ a b:=by
 unfold iL tZ kI;generalize min a.e b.e=e;obtain⟨p1,p2,p3⟩:=YQ (d:=a) e;obtain⟨q1,q2,q3⟩:=YQ (d:=b) e;generalize a.num e=x at *
 generalize b.num e=y at *
 generalize a.jO e=x' at *
 generalize b.jO e=y' at *
 have ha:a.iI=0\/a.iI = -1\/a.iI=1:=by rcases AJ a with⟨_,h⟩|⟨_,_,h⟩|⟨_,_,h⟩<;>simp[h]
 have hb:b.iI=0\/b.iI = -1\/b.iI=1:=by rcases AJ b with⟨_,h⟩|⟨_,_,h⟩|⟨_,_,h⟩<;>simp[h]
 generalize a.iI=s at *
 generalize b.iI=t at *
 rcases ha with rfl|rfl|rfl<;>rcases hb with rfl|rfl|rfl<;>simp at p1 p2 p3 q1 q2 q3<;>(repeat' split)<;>omega
def ki(z:Int)(e:Int):Dy:=canon (decide (z<0)) z.natAbs e
def iJ(a b:Dy):Dy:=
 if a.m=0 then b else if b.m=0 then a else ki (a.num (min a.e b.e)+b.num (min a.e b.e)) (min a.e b.e)
def jf(d:Dy):Dy:=⟨!d.neg&&decide (d.m≠0),d.m,d.e⟩
def PX{d:Dy}(h:d.nx):(jf d).nx:=by
 rcases h with⟨h1,h2,h3⟩|h
 .exact .inl ⟨h1,by simp[jf,h1],h3⟩
 .exact .inr h
def yg{d:Dy}(h:d.ib):(jf d).ib:=⟨PX h.canon,h.range⟩
def anR(n:Bool)(m:Nat)(e:Int):(canon n m e).iI=if m=0 then 0 else if n then -1 else 1:=by
 unfold canon;by_cases h:m=0
 .simp [h,Dy.iI]
 .have:(canon n m e).m≠0:=by unfold canon;rw[bj h];have:=Fe h;simp only;omega
  unfold canon at this;rw[bj h]at this ⊢;unfold Dy.iI;rw[bj this,bj h]
def anS(z e:Int):(ki z e).iI=if z<0 then -1 else if 0<z then 1 else 0:=by
 unfold ki;rw[anR];by_cases h:z<0
 .rw [bj aE,bk h];simp[h]
 .rw [bj h];by_cases h0:0<z
  .rw [bj aE,bk h0];simp[h]
  .rw [bj h0,bk aE]
def YP(d:Dy)(e:Int)(hd:d.m≠0):(jf d).num e = -(d.num e):=by
 unfold Dy.num jf Dy.jO;cases d.neg<;>simp[hd]
def ae2{a b:Dy}(ha:a.m≠0)(hb:b.m≠0):(iJ a (jf b)).iI=iL a b:=by
 unfold iJ;rw[bj ha,bj (by simpa[jf]using hb),anS];have e1:(jf b).e=b.e:=rfl;rw[e1,YP _ _ hb];unfold iL;generalize a.num _=x;generalize b.num _=y
 repeat' split
 all_goals omega
def ae4{a b:Dy}(ha:a.m≠0)(hb:b.m≠0)(hs:a.iI=b.iI)(h:a.im<b.im):iL a b = -a.iI:=by
 rw[Ei,bj aE,bj aE,Ts ha hb h];split<;>omega
def ae3{a b:Dy}(ha:a.m≠0)(hb:b.m≠0)(hs:a.iI=b.iI)(h:b.im<a.im):iL a b=a.iI:=by
 rw[Ei,bj aE,bj aE,Tp ha hb h];split<;>omega
def wO(a b:Dy):iL a b=if a.iI≠b.iI then(if a.iI<b.iI then -1 else 1)else if a.iI=0 then 0 else
 if a.im≠b.im then(if(a.im<b.im)=(0<a.iI)then -1 else 1)else(iJ a (jf b)).iI:=by
 by_cases hs:a.iI=b.iI
 .rw [bj (by simpa using hs)];by_cases h0:a.iI=0
  .rw [bk h0,Ei,bj aE,bj aE,bk h0]
  .rw [bj h0];have ha:a.m≠0:=by intro h;exact h0 (by unfold Dy.iI;rw[bk h])
   have hb:b.m≠0:=by intro h;exact h0 (by rw[hs];unfold Dy.iI;rw[bk h])
   have hc:a.iI = -1\/a.iI=1:=by rcases AJ a with⟨_,h⟩|⟨_,_,h⟩|⟨_,_,h⟩<;>simp_all
   by_cases ht:a.im=b.im
   .rw [bj (by simpa using ht),ae2 ha hb]
   .rw [bk (by simpa using ht)];rcases Int.lt_or_gt_of_ne ht with h|h
    .rw [ae4 ha hb hs h];rcases hc with h'|h'<;>rw[h']<;>simp[h]
    .rw [ae3 ha hb hs h];rcases hc with h'|h'<;>rw[h']<;>simp[(aE:¬a.im<b.im)]
 .rw [bk (by simpa using hs),Ei];by_cases h:a.iI<b.iI
  .rw [bk h,bk h]
  .rw [bj h,bj h,bk aE]
def ab8{out:List Nat}{k c x y P Q P' Q':Nat}(hlen:out.length=k)(h:val out+4294967296^k*c=P+Q)
 (hP:P'=P+4294967296^k*x) (hQ:Q'=Q+4294967296^k*y):
 val (out++[(c+x+y)%4294967296])+4294967296^(k+1)*((c+x+y)/4294967296)=P'+Q':=by
 rw[wI,hlen,hP,hQ];simp only[rm,AO,cL,bY];generalize hx:c+x+y=z;have e:=et z 4294967296;rw[bI,cR,bH,<-bU,e,<-hx,bU,bU];omega
def aod{out:List Nat}{k c x y d c' P Q P' Q':Nat}(hlen:out.length=k)(h:val out+Q=P+4294967296^k*c)
 (hP:P'=P+4294967296^k*x) (hQ:Q'=Q+4294967296^k*y) (hd:d+y+c=x+4294967296*c'):
 val (out++[d])+Q'=P'+4294967296^(k+1)*c':=by
 rw[wI,hlen,hP,hQ];simp only[rm,AO,cL,bY];have e:=congrArg (4294967296^k * ·) hd;simp only[bU,<-bH]at e;rw[bI];omega
def aaZ{out:List Nat}{n c P Q:Nat}(ho:iK out)(hlen:out.length=n)(h:val out+Q=P+4294967296^n*c)(hle:Q<=P):c=0/\val out=P-Q:=by
 have h1:=oE ho;rw[hlen]at h1;rcases c with _|c
 .exact ⟨rfl,aE⟩
 .exfalso;have:4294967296^n*1<=4294967296^n*(c+1):=cO _ aE;omega
def ac8{L:List Nat}(h:iK L)(k:Nat)(hk:k/32<L.length):val L/2^k%2=L[k/32]/2^(k%32)%2:=by
 have e:k=32*(k/32)+k%32:= aE 
 conv=>lhs;rw[e,bB,<-dk,<-ss,<-IU h,fj hk,rm]
 have hs:k%32<32:=bM _ aG;have e2:(4294967296:Nat)=2^(k%32)*(2*2^(31-k%32)):=by
  rw[<-Nat.pow_succ',<-bB,(aE:k%32+(31-k%32).succ=32)]
 conv=>lhs;rw[e2,bH,eI _ _ (bD aG),bH,en]
def ac7{n k:Nat}(h:n≠0)(hk:k<jz n):n/2^k%2=0:=by
 obtain⟨m,hm,he⟩:=Cz h;generalize jz n=c at *
 rw[he,(aE:c=k+(c-k)),bB,<-bH,gF,dP _ (bD aG),(aE:c-k=(c-k-1)+1),bI,<-bH,fU]
def ac6{n:Nat}(h:n≠0):n/2^jz n%2=1:=Fe h
def F4{L:List Nat}(h:iK L)(h0:val L≠0):jz (val L)/32<L.length:=by
 have h1:=Io h0;have h2:=oE h;rw[ss]at h2;have h3:2^jz (val L)<2^(32*L.length):=cC h1 h2;have:=(aqv (aG:1<2)).1 h3;omega
end Go.Proofs.YtgdahmmlddfimaaGreatDoor.Fp
namespace Go.Proofs.YtgdahmmlddfimaaGreatDoor
open Go.RowKit Fp
structure Sl(w:World)(A:Option Addr)(c:Nat)(L:List Nat):Prop where
 cap:L.length<=c
 rH:c<=9223372036854775807
 ok:iK L
 zf:A=none->c=0
 cell:∀ (i x:Nat),L[i]? = some x->∃ b o,A=some ⟨b,o,none⟩/\b<w.heap.size/\w.cell? ⟨b,o+i,none⟩=some (.int .u32 (x:Int))
def adj(a:Addr)(n:Nat):(a.add n).block=a.block:=by unfold Addr.add;split<;>rfl
section
variable {w w':World} {A:Option Addr} {c:Nat} {L:List Nat}
def Sl.mi(h:Sl w A c L){i:Nat}(hi:i<L.length):∃ b o,A=some ⟨b,o,none⟩/\b<w.heap.size/\w.cell? ⟨b,o+i,none⟩=some (.int .u32 (L[i]:Int)):=
 h.cell i _ (bF hi)
def Sl.nil(w:World):Sl w none 0 []:=⟨bu _,aG,iK.nil,λ_=>rfl,λi x h=>by simp at h⟩
def Sl.below(h:Sl w A c L)(hb:Below w.heap.size w w'):Sl w' A c L:=
 ⟨h.cap,h.rH,h.ok,h.zf,λi x hx=>by
  obtain⟨b,o,e,h1,h2⟩:=h.cell i x hx;exact⟨b,o,e,bV h1 hb.size,(hb.cell h1).trans h2⟩⟩
def Sl.alloc(h:Sl w A c L)(o:Obj):Sl (w.alloc o) A c L:=h.below ((Below.refl _ _).alloc (bu _) _)
def Sl.drew(h:Sl w A c L):Sl w.drew A c L:=h.below ((Below.refl _ _).drew)
def Sl.take(h:Sl w A c L)(n:Nat):Sl w A c (L.take n):=
 ⟨by have:=h.cap;rw[cw];omega,h.rH,h.ok.take n,h.zf,λi x hx=>h.cell i x (by
  rw[ev]at hx;split at hx
  .exact hx
  .cases hx)⟩
def Sl.len(h:Sl w A c L):L.length<=9223372036854775807:=bA h.cap h.rH
def Sl.eqv{L':List Nat}(h:Sl w A c L)(e:L=L'):Sl w A c L':=e▸h
end
def Cl(b o i:Nat):(⟨b,o,none⟩:Addr).add i=⟨b,o+i,none⟩:=by
 unfold Addr.add;split
 .rename_i h0;rw[h0];rfl
 .simp
abbrev iF(w w':World):Prop:=Below w.heap.size w w'
def iF.trans{a b c:World}(h:iF a b)(k:iF b c):iF a c:=Below.trans h (k.mono h.size)
def iF.alloc(w:World)(o:Obj):iF w (w.alloc o):=(Below.refl _ _).alloc (bu _) _
def iF.drew(w:World):iF w w.drew:=(Below.refl _ _).drew
def iF.refl(w:World):iF w w:=Below.refl _ _
def LF{A:Option Addr}{n m c:Nat}(h:n=m):Ending.returned (.slice A n c) = .returned (.slice A m c):=by rw[h]
def oZ{k:IntKind}{a b:Int}(h:a=b):Ending.returned (.int k a) = .returned (.int k b):=by rw[h]
def LD{a b:Bool}(h:a=b):Ending.returned (.bool a) = .returned (.bool b):=by rw[h]
def uL(w:World)(L:List Nat)(e:Ending)(w':World):Prop:=∃ A c,e = .returned (.slice A L.length c)/\Sl w' A c L/\iF w w'
def D3(w:World)(L:List Nat)(n:Int)(e:Ending)(w':World):Prop:=∃ A c,e = .returned (.tuple #[.slice A L.length c,.int .i64 n])/\Sl w' A c L/\iF w w'
def Tb(w:World):Prop:=TabAt 0 Lib.deBruijn32tab w
def Tb.below{w w':World}(h:Tb w)(hb:iF w w'):Tb w':=λj hj=>by
 have h1:=h j hj;rw[hb.cell (block_lt_of_cell h1)];exact h1
def Tb.alloc{w:World}(h:Tb w)(o:Obj):Tb (w.alloc o):=h.below (iF.alloc _ _)
def ac5(x:Nat)(h:x<4294967296):Lib.bitLen x=ie x:=by
 induction x using Nat.strongRecOn with
 |_ x ih=>
  by_cases h0:x=0
  .subst h0;rfl
  .rw [Lib.bitLen_half x h0 aE,ih (x/2) aE aE];by_cases h1:x/2=0
   .have:x=1:= aE ;subst this;rfl
   .have e1:=rP h1;have e2:=qw (x/2);have e3:=ny h1;generalize ie (x/2)=k at *
    obtain⟨j,rfl⟩:∃ j,k=j+1:=⟨k-1,aE⟩
    rw[er]at e1;rw[fk];refine(yH ?_ ?_).symm
    .rw [bI];omega
    .rw [bI];omega
def afg(x:Nat)(h0:x≠0)(h:x<4294967296):Lib.ctz 32 x=jz x:=by
 unfold Lib.ctz;rw[bj h0];obtain⟨m,hm,_⟩:=Lib.ctzFrom_spec 32 x aE h
 conv=>rhs;rw[hm,bL]
 exact(zU aE _).symm
def oN(L:List Nat):List Value:=L.map λ(n:Nat)=>Value.int .u32 (n:Int)
def ao2{L:List Nat}{j:Nat}{u:Value}(h:(oN L)[j]? = some u):∃ n,L[j]? = some n/\u = .int .u32 (n:Int):=by
 unfold oN at h;rw[cF]at h;obtain⟨n,hn,rfl⟩:=cQ.1 h;exact⟨n,hn,rfl⟩
def ao1(L M:List Nat):oN (L++M)=oN L++oN M:=fV
def ao3(L:List Nat):∀ u ∈ oN L,u.oneCell'=true:=by
 intro u hu;obtain⟨n,_,rfl⟩:=dv.1 hu;rfl
structure Ow(w:World)(base:Nat)(v:Value)(L:List Nat):Prop where
 row:w.ownsRow base 171 1 v L.length (oN L)
 ok:iK L
def Ow.sl{w:World}{base:Nat}{v:Value}{L:List Nat}(h:Ow w base v L):∃ A c,v = .slice A L.length c/\Sl w A c L:=by
 have hr:=h.row;rcases hr.2 with⟨rfl,h0⟩|⟨g,cap,cur,rfl,hb,hg,pj,oq,nC,G8⟩
 .have:L=[]:=dw h0;subst this;exact⟨none,0,rfl,Sl.nil w⟩
 .refine ⟨_,_,rfl,pj,(by simpa[maxLen]using oq),h.ok,(λh=>by cases h),λi x hx=>⟨_,_,rfl,(de.1 hg).1,?_⟩⟩;have h:=hr.cells (g:=g) rfl i (.int .u32 (x:Int)) (by unfold oN;rw[cF,hx];rfl);rw[Cl]at h;exact h
def Ow.nil(w:World)(base:Nat):Ow w base (.slice none 0 0) []:=⟨World.ownsRow_nil w base _ _,iK.nil⟩
def Ow.alloc{w:World}{base:Nat}{v:Value}{L:List Nat}(h:Ow w base v L)(o:Obj):Ow (w.alloc o) base v L:=⟨h.row.alloc o,h.ok⟩
def Ow.empty(w:World)(base:Nat)(hb:base<=w.heap.size):Ow (w.alloc (.cells #[] 171)) base (.slice (some ⟨w.heap.size,0,none⟩) 0 0) []:=
 ⟨World.ownsRow_made w #[] 0 hb aG rfl,iK.nil⟩
def sH{w:World}{n:Nat}(h:n<=w.heap.size)(o:Obj):n<=(w.alloc o).heap.size:= aS 
def Sl.one(w:World)(x:Nat)(hx:x<4294967296):Sl (w.alloc (.cells #[.int .u32 x] 171)) (some ⟨w.heap.size,0,none⟩) 1 [x]:=
 ⟨bu _,aG,iK.cons hx iK.nil,(λh=>by cases h),λi y hy=>by
  obtain⟨h1,h2⟩:=cr.1 hy;obtain rfl:i=0:=by simp at h1;omega
  simp at h2;subst h2;refine⟨_,_,rfl,aK,?_⟩;exact World.cell?_alloc_at _ _ _ _ rfl⟩
def Sl.vj(w:World)(y:Int)(x:Nat)(e:y=(x:Int))(hx:x<4294967296):Sl (w.alloc (.cells #[.int .u32 y] 171)) (some ⟨w.heap.size,0,none⟩) 1 [x]:=by
 subst e;exact Sl.one w x hx
def O9:(prog.info? 171).map (λi=>(i.zero,i.size,i.bytes))=some (some (.int .u32 0),1,4):= aI 
def tg{gX:Array Oper}{rest:List Oper}{o:Oper}{a:Act}{Q:Exit->Act->World->Prop}{w:World}(CR:o.guard=none)(s x:Operand)
 (ho:o.op = .call { callee:=.builtin .append,args:=#[s,x],argTypes:=#[29,29] })
 (base:Nat) (v:Value) (L:List Nat) (hs:a.eval s=v) (mc:Ow w base v L)
 (A:Option Addr) (m c:Nat) (M:List Nat) (hx:a.eval x = .slice A m c) (hm:m=M.length) (hr:Sl w A c M)
 (lk:L.length+M.length<=10000000000) (ahP:base<=w.heap.size)
 (h:∀ v' w',Ow w' base v' (L++M)->w.grownBy w' v.ownBlock->(v'.ownBlock=v.ownBlock\/v'.ownBlock=some w.heap.size)->wpList prog gX Q rest (a.put o.dst v') w'):
 wpList prog gX Q (o::rest) a w:=by
 obtain⟨i,hi,hz,h1,h2⟩:=info_parts O9;subst hm;rcases A with _|ad
 .have hc:=hr.zf rfl;subst hc;have hM:M=[]:=dw (by have:=hr.cap;omega);subst hM;refine wpList_append_own_none CR s x _ ho base _ i 1 underlying29 hi v _ _ hs mc.row hx ?_;have:=h v w (by rw[fW];exact mc) ⟨rfl,rfl,rfl,bu _,λ_ _ _=>rfl⟩ (.inl rfl);exact this
 .refine wpList_append_own_at w CR s x _ ho base _ i _ 1 4 underlying29 hi hz h1 h2 rfl aG v L.length (oN L) hs mc.row ad M.length c (oN M) hx (by simp[oN]) ?_ (ao3 M)
   (by simp only[maxLen];omega) aE ahP ?_
  .intro j u hu;obtain⟨n,hn,rfl⟩:=ao2 hu;obtain⟨b,o,e,_,hc⟩:=hr.cell j n hn;cases e;rw[Cl];exact hc
  .intro v' w' aic hg _ pC;exact h v' w' ⟨by rw[cz,ao1];exact aic,mc.ok.append hr.ok⟩ hg pC
def Rw(w:World)(b:Nat)(L:List Nat):Prop:=w.heap[b]? = some (.cells (oN L).toArray 171 (0,0))
section
variable {w w':World} {b:Nat} {L:List Nat}
def Rw.lt(h:Rw w b L):b<w.heap.size:=(de.1 h).1
def Rw.cell(h:Rw w b L){i x:Nat}(hx:L[i]? = some x):w.cell? ⟨b,i,none⟩=some (.int .u32 (x:Int)):=by
 unfold Rw at h;simp only[World.cell?,h];simp[oN,hx]
def Rw.frozen(h:Rw w b L)(i:Nat):w.frozen? ⟨b,i,none⟩=false:=by
 unfold Rw at h;simp[World.frozen?,h]
def Rw.set(h:Rw w b L)(i x:Nat):Rw (w.setCell ⟨b,i,none⟩ (.int .u32 (x:Int))) b (L.set i x):=by
 unfold Rw at h ⊢;simp only[World.setCell,fm,h];simp[oN,List.map_set]
def Rw.sl(h:Rw w b L)(hk:iK L)(hl:L.length<=10000000000):Sl w (some ⟨b,0,none⟩) L.length L:=
 ⟨bu _,aE,hk,(λh=>by cases h),λi x hx=>⟨_,_,rfl,h.lt,by
  rw[cj];exact h.cell hx⟩⟩
def Rw.y8(w:World)(n:Nat):Rw (w.alloc (.cells (oN (List.replicate n 0)).toArray 171)) w.heap.size (List.replicate n 0):=heap_alloc_new w _
end
def ab6(b i:Nat):(⟨b,0,none⟩:Addr).add i=⟨b,i,none⟩:=by
 unfold Addr.add;split
 .rename_i h0;rw[h0]
 .simp
def E4(n:Nat)(hn:n<=10000000000)(w:World):
 (Instr.makeSlice 29 (.int .i64 (n:Int)) (.int .i64 (n:Int))).run prog w = .ok (.slice (some ⟨w.heap.size,0,none⟩) n n) (w.alloc (.cells (oN (List.replicate n 0)).toArray 171)):=by
 obtain⟨i,hi,hz,h1,h2⟩:=info_parts O9;have hr:=run_make (P:=prog) w 29 171 i _ underlying29 hi hz .i64 .i64 n n aE aE (by rw[h2];omega) aE;rw[hr,fX,h1,ck];refine congrArg (λcs=>Result.ok (Value.slice (some ⟨w.heap.size,0,none⟩) n n) (w.alloc (.cells cs 171))) ?_;apply Array.ext
 .simp [madeCells,oN]
 .intro i h1 h2;simp[madeCells,oN,Value.cells,dQ]
def xz(w:World)(d:Dy)(e:Ending)(w':World):Prop:=
 ∃ A c,e = .returned (.agg #[.bool d.neg,.slice A (gW d.m).length c,.int .i64 d.e])/\Sl w' A c (gW d.m)/\iF w w'
def zI(w:World)(d:Dy)(n:Int)(e:Ending)(w':World):Prop:=
 ∃ A c,e = .returned (.tuple #[.agg #[.bool d.neg,.slice A (gW d.m).length c,.int .i64 d.e],.int .i64 n])/\Sl w' A c (gW d.m)/\iF w w'
def zG(w:World)(g:Nat):Prop:=∀ o x,w.cell? ⟨g,o,none⟩≠some (.int .u32 x)
def Sl.CE{w:World}{A:Option Addr}{c:Nat}{L:List Nat}(h:Sl w A c L){g i:Nat}(hg:zG w g)(u:Value):Sl (w.setCell ⟨g,i,none⟩ u) A c L:=
 ⟨h.cap,h.rH,h.ok,h.zf,λj x hx=>by
  obtain⟨b,o,e,h1,h2⟩:=h.cell j x hx;refine⟨b,o,e,by simpa[World.setCell]using h1,?_⟩;rw[World.cell?_setCell_other w _ _ u]
  .exact h2
  .intro e';simp only[Addr.mk.injEq]at e';exact hg (o+j) x (by rw[e'.1];exact h2)⟩
def zG.Ff{w:World}{g:Nat}{cs:Array Value}{t:TypeId}{fr:Nat×Nat}(h:w.heap[g]? = some (.cells cs t fr))(hc:∀ (i:Nat) (x:Int),cs[i]? ≠ some (.int .u32 x)):zG w g:=λo x e=>by
 simp only[World.cell?,h]at e;simp at e;exact hc o x (by simpa using e)
def jG(w:World)(g:Nat)(s:Bool)(A:Option Addr)(n c:Nat)(e:Int):Prop:=w.heap[g]? = some (.cells #[.bool s,.slice A n c,.int .i64 e] 31 (0,0))
section
variable {w w':World} {g n c:Nat} {s:Bool} {A:Option Addr} {e:Int}
def jG.new(W:World)(s:Bool)(A:Option Addr)(n c:Nat)(e:Int):jG (W.alloc (.cells #[.bool s,.slice A n c,.int .i64 e] 31)) W.heap.size s A n c e:=heap_alloc_new W _
def jG.tO{W:World}{g:Nat}(hg:W.heap.size=g)(s:Bool)(A:Option Addr)(n c:Nat)(e:Int):jG (W.alloc (.cells #[.bool s,.slice A n c,.int .i64 e] 31)) g s A n c e:=hg▸heap_alloc_new W _
def jG.lt(h:jG w g s A n c e):g<w.heap.size:=(de.1 h).1
def jG.ext(h:jG w g s A n c e)(hb:iF w w'):jG w' g s A n c e:=(hb.block g h.lt).trans h
def jG.alloc(h:jG w g s A n c e)(o:Obj):jG (w.alloc o) g s A n c e:=h.ext (iF.alloc _ _)
def jG.drew(h:jG w g s A n c e):jG w.drew g s A n c e:=h
def jG.nE(h:jG w g s A n c e):zG w g:=zG.Ff h (λi x=>by rcases i with _|_|_|i<;>simp)
def jG.c0(h:jG w g s A n c e):w.cell? ⟨g,0,none⟩=some (.bool s):=by unfold jG at h;simp[World.cell?,h]
def jG.c1(h:jG w g s A n c e):w.cell? ⟨g,1,none⟩=some (.slice A n c):=by unfold jG at h;simp[World.cell?,h]
def jG.c2(h:jG w g s A n c e):w.cell? ⟨g,2,none⟩=some (.int .i64 e):=by unfold jG at h;simp[World.cell?,h]
def jG.fr(h:jG w g s A n c e)(i:Nat):w.frozen? ⟨g,i,none⟩=false:=by unfold jG at h;simp[World.frozen?,h]
def jG.set(h:jG w g s A n c e)(s':Bool)(A':Option Addr)(n' c':Nat)(e':Int):
 jG (((w.setCell ⟨g,0,none⟩ (.bool s')).setCell ⟨g,1,none⟩ (.slice A' n' c')).setCell ⟨g,2,none⟩ (.int .i64 e')) g s' A' n' c' e':=by
 have h1:=heap_setCell_same w g 0 _ _ (.bool s') h;have h2:=heap_setCell_same _ g 1 _ _ (.slice A' n' c') h1;have h3:=heap_setCell_same _ g 2 _ _ (.int .i64 e') h2;exact h3
def jG.vq{L:List Nat}{A':Option Addr}{c':Nat}(h:jG w g s A n c e)(hs:Sl w A' c' L)(s':Bool)(e':Int)(n' c2:Nat)(A2:Option Addr):
 Sl (((w.setCell ⟨g,0,none⟩ (.bool s')).setCell ⟨g,1,none⟩ (.slice A2 n' c2)).setCell ⟨g,2,none⟩ (.int .i64 e')) A' c' L:=by
 have h1:=heap_setCell_same w g 0 _ _ (.bool s') h;have h2:=heap_setCell_same _ g 1 _ _ (.slice A2 n' c2) h1;have k1:zG (w.setCell ⟨g,0,none⟩ (.bool s')) g:=zG.Ff h1 (λi x=>by rcases i with _|_|_|i<;>simp);have k2:zG ((w.setCell ⟨g,0,none⟩ (.bool s')).setCell ⟨g,1,none⟩ (.slice A2 n' c2)) g:=zG.Ff h2 (λi x=>by rcases i with _|_|_|i<;>simp);exact((hs.CE h.nE _).CE k1 _).CE k2 _
def jG.uH{w0:World}(hb:iF w0 w)(hg:w0.heap.size<=g)(s':Bool)(A':Option Addr)(n' c':Nat)(e':Int):
 iF w0 (((w.setCell ⟨g,0,none⟩ (.bool s')).setCell ⟨g,1,none⟩ (.slice A' n' c')).setCell ⟨g,2,none⟩ (.int .i64 e')):=
 ((hb.setCell hg _).setCell hg _).setCell hg _
end
def T3:(prog.info? 31).map (·.size)=some 3:= aI 
def amN{fn:Func}{p:Tmp}(h:fn.results = #[.cell p 31])(tmps:Array Value){w:World}{g n c:Nat}{s:Bool}{A:Option Addr}{e:Int}
 (hp:tmps.getD p undef = .pointer (some ⟨g,0,none⟩)) (hb:jG w g s A n c e):
 (results fn tmps).run prog w = .ok (.agg #[.bool s,.slice A n c,.int .i64 e]) w:=
 results_cell_row h tmps w g _ _ _ _ hp hb underlying31 rfl T3
def amO{fn:Func}{p t:Tmp}(h:fn.results = #[.cell p 31,.tmp t])(tmps:Array Value){w:World}{g n c:Nat}{s:Bool}{A:Option Addr}{e:Int}
 (hp:tmps.getD p undef = .pointer (some ⟨g,0,none⟩)) (hb:jG w g s A n c e):
 (results fn tmps).run prog w = .ok (.tuple #[.agg #[.bool s,.slice A n c,.int .i64 e],tmps.getD t undef]) w:=by
 have hp':tmps[p]?.getD undef = .pointer (some ⟨g,0,none⟩):=by simpa using hp
 simp[results,h,hp',asAddr,run_loadVar_row w g _ _ _ _ _ hb underlying31 rfl T3]
def uO{fn:Func}{p:Tmp}(h:fn.results = #[.cell p 31]){a:Act}{w W:World}{d:Dy}{g:Nat}{A:Option Addr}{c n:Nat}
 (hp:a.tmps.getD p undef = .pointer (some ⟨g,0,none⟩)) (hd:a.defers=[]) (hb:jG W g d.neg A n c d.e) (hn:n=(gW d.m).length) (hs:Sl W A c (gW d.m)) (he:iF w W):
 bodyPost prog fn (xz w d) .ret a W:=by
 subst hn;exact bodyPost_ret (amN h _ hp hb) hd ⟨A,c,rfl,hs,he⟩
def En{fn:Func}{p t:Tmp}(h:fn.results = #[.cell p 31,.tmp t]){a:Act}{w W:World}{d:Dy}{k:Int}{g:Nat}{A:Option Addr}{c n:Nat}
 (hp:a.tmps.getD p undef = .pointer (some ⟨g,0,none⟩)) (ht:a.tmps.getD t undef = .int .i64 k) (hd:a.defers=[]) (hb:jG W g d.neg A n c d.e) (hn:n=(gW d.m).length) (hs:Sl W A c (gW d.m)) (he:iF w W):
 bodyPost prog fn (zI w d k) .ret a W:=by
 subst hn;exact bodyPost_ret ((amO h _ hp hb).trans (by rw[ht])) hd ⟨A,c,rfl,hs,he⟩
open Go.ChangeShapes Go.WideShapes Go.ChangeAt
def own:ownKnob prog.godebug=none:= aI 
def Pk:laidOutB prog=true:= aI 
def Ve:prog.globalNamed "math/bits.deBruijn32tab" = some 0:= aI 
def agM:(prog.globals[0]?).map (·.type)=some 256:= aI 
def aeI:prog.cellsOf 256=32:= aI 
def aeH:prog.cellsOf 5=1:= aI 
def aeG:prog.cellsOf 171=1:= aI 
def aoI {l:List (String×DataW Unit)} (hl:l=[("math/bits.deBruijn32tab", Rows.laid_math_bits_deBruijn32tab)]) {W:World} (h:laidMet prog l W):Tb W:=by
 subst hl;have ht:Lib.TabIs prog W "math/bits.deBruijn32tab" .u8 (Lib.deBruijn32tab.map λ(n:Nat)=>(n:Int)):=
  Lib.tabIs_of_head (rest:=[]) Ve agM underlying256 underlying5 aeH aeI h
 intro j hj;have:=ht.cell Ve j (by simpa using hj);rw[this];simp[bw];rw[bF hj];simp
def aik{n:Int}(h:(Lit.int .i64 n).wf=true):-9223372036854775808<=n/\n<=9223372036854775807:=by
 have h1:IntKind.i64.min = -9223372036854775808:=rfl;have h2:IntKind.i64.max=9223372036854775807:=rfl;simp[Lit.wf,h1,h2]at h;omega
def alh{H:Type}{enc:TypeId×Value->H}{W:World}{fuel:Nat}{c:Value}{x:DataW H×List MemPlace}
 (h:DataW.trod enc prog W 0 (λ_=>true) true fuel 29 [c]=some x) (_hlt:∀ p ∈ x.2,p.block<W.heap.size):
 ∃ A L cap,c = .slice A L.length cap/\Sl W A cap L:=by
 rcases open_ints underlying29 underlying171 aeG h with⟨nC,hx⟩|⟨a,len,cap,zs,nC,_,hl,hm,hz,hx,ky,hwz⟩
 .simp at nC;exact⟨none,[],0,nC,Sl.nil W⟩
 .simp at nC;simp only[bJ]at hz;refine⟨some a,(zs.take len).map Int.toNat,cap,?_,?_⟩
  .rw [nC,cB,cw,dj aE]
  .have Wv:∀ n ∈ zs,0<=n/\n<4294967296:=λn hn=>by
    have:=hwz n hn;have h1:IntKind.u32.min=0:=rfl;have h2:IntKind.u32.max=4294967295:=rfl;simp[Lit.wf,h1,h2]at this;omega
   refine⟨by rw[cB,cw];omega,by simpa[maxLen]using hm,?_,(λh=>by cases h),?_⟩
   .intro y hy;obtain⟨z,y3,rfl⟩:=dv.1 hy;have:=Wv z (eH y3);omega
   .intro i y hy;rw[cF]at hy;obtain⟨z,y3,rfl⟩:=cQ.1 hy;rw[ev]at y3;split at y3
    .rename_i hi;have hc:=ky i aE;rw[bw,y3]at hc;obtain⟨b,off,spot⟩:=a;have ON:spot=none:=by
      rcases spot with _|q
      .rfl
      .exfalso;have pQ:=ky 0 aE;rw[show(⟨b,off,some q⟩:Addr).add 0=⟨b,off,some q⟩from rfl]at pQ;unfold World.cell? at pQ;split at pQ<;>simp at pQ
     subst ON;refine⟨b,off,rfl,?_,?_⟩
     .have:=block_lt_of_cell hc;rwa[adj]at this
     .rw [Cl]at hc;rw[hc];have:=Wv z (dR y3);simp;omega
    .cases y3
def XE{α:Type}{l:List α}(h:l.length=3):∃ a b c,l=[a,b,c]:=by
 match l,h with
 | [a,b,c],_=>exact⟨a,b,c,rfl⟩
def aj1{α:Type}{l:List α}(h:l.length=7):∃ a b c d e f g,l=[a,b,c,d,e,f,g]:=by
 match l,h with
 | [a,b,c,d,e,f,g],_=>exact⟨a,b,c,d,e,f,g,rfl⟩
def alf{H:Type}{enc:TypeId×Value->H}{W:World}{fuel:Nat}{cs:List Value}{x:DataW H×List MemPlace}
 (h:DataW.trod enc prog W 0 (λ_=>true) true fuel 31 cs=some x) (iC:∀ p ∈ x.2,p.block<W.heap.size):
 ∃ s A L cap e,cs=[.bool s,.slice A L.length cap,.int .i64 e]/\Sl W A cap L/\(-9223372036854775808<=e/\e<=9223372036854775807):=by
 obtain⟨xs,n,rfl,rfl,hl,ng,hf⟩:=DataW.trod_struct underlying31 h;have hC:prog.cellsOf 31=3:= aI ;have hB:prog.cellsOf 4=1:= aI ;have hS:prog.cellsOf 29=1:= aI ;have hI:prog.cellsOf 3=1:= aI ;rw[hC]at hl;obtain⟨a,b,c,rfl⟩:=XE hl;have h0:=hf 0 _ rfl;have h1:=hf 1 _ rfl;have h2:=hf 2 _ rfl;simp only[eJ,eK,dO]at h0 h1 h2;simp only[hB,hS,hI,eN,eO,ep,eP]at h0 h1 h2;rw[bF (by rw[ng];decide)]at h0 h1 h2;obtain⟨s,hs,_⟩:=DataW.trod_bool underlying4 h0;obtain⟨A,L,cap,hc,tD⟩:=alh h1 (λp hp=>iC p (dU.2 ⟨_,cG _,hp⟩));obtain⟨e,he,_,hw⟩:=DataW.trod_int underlying3 h2;simp at hs he;subst hs he hc;exact⟨s,A,L,cap,e,rfl,tD,aik hw⟩
noncomputable def Pm(os:Os)(args:Array Value):World:=
 {World.holding prog os ⟨#[],args,[]⟩with heap:=(World.holding prog os ⟨#[],args,[]⟩).heap.modify 0 fun
   | .cells _ t frozen=>.cells (Lib.deBruijn32tab.map λ(n:Nat)=>Value.int .u8 (n:Int)).toArray t frozen
   |o=>o }
end Go.Proofs.YtgdahmmlddfimaaGreatDoor
namespace Go.Proofs.YtgdahmmlddfimaaGreatDoor.Pu
open Go.RowKit
inductive E where
 |any
 |v (x:Value)
 |agg (l:List E)
 |iw (l:List E)
 |sl (nl:Bool) (n sz:Nat) (el:Nat->Nat->E)
 |iV (m:Nat) (el:Nat->E)
 |fn (f:FuncId) (cap:List E)
 |mp (l:List (Int×FuncId×List FuncId))
 |nO (fl nl:Bool) (n sz:Nat) (el:Nat->Nat->E)
def rf:Value->Bool
 | .int .u32 _=>true
 |_=>false
def E.nr:Nat->E->Bool
 |_,.any=>true
 |_,.v _=>true
 |_,.sl ..=>true
 |_,.mp _=>true
 |d+1,.agg l=>l.all (E.nr d)
 |d+1,.iw l=>l.all (E.nr d)
 |d+1,.fn _ l=>l.all (E.nr d)
 |_,_=>false
def Ci(bs:Nat->Prop)(w:World):List (Int×FuncId×List FuncId)->List MapEntry->Prop
 | [],[]=>True
 |x::l,e::es=>(e.key = .int .i64 x.1/\∃ vs:List Value,e.val = .func (.func x.2.1) #[] vs.toArray/\vs.length=x.2.2.length /\
  ∀ (i:Nat) (g:FuncId) (v:Value),x.2.2[i]? = some g->vs[i]? = some v->∃ b,v = .pointer (some ⟨b,0,none⟩)/\¬bs b/\b<w.heap.size/\w.cell? ⟨b,0,none⟩=some (.func (.func g) #[] #[]))/\Ci bs w l es
 |_,_=>False
def Ci.mono{bs bs':Nat->Prop}{w w':World}(lk:w.heap.size<=w'.heap.size)(h1:∀ b,b<w.heap.size->bs' b->bs b)(hc:∀ b,b<w.heap.size->¬bs b->w'.heap[b]? = w.heap[b]?):
 ∀ {l:List (Int×FuncId×List FuncId)} {es:List MapEntry},Ci bs w l es->Ci bs' w' l es
 | [],[],_=>trivial
 | [],_::_,h=>h
 |_::_,[],h=>h
 |_::_,_::_,⟨⟨k1,vs,k2,k3,k4⟩,h⟩=>⟨⟨k1,vs,k2,k3,λi g v hg hv=>by
  obtain⟨b,q1,q2,q3,q4⟩:=k4 i g v hg hv;exact⟨b,q1,λx=>q2 (h1 b q3 x),bV q3 lk,by rw[World.cell?_of_block (w:=w) (hc b q3 q2)];exact q4⟩⟩,Ci.mono lk h1 hc h⟩
inductive iD(bs br:Nat->Prop)(w:World):E->Value->Prop
 |any (x:Value):iD bs br w .any x
 |v (x:Value):iD bs br w (.v x) x
 |agg (l:List E) (vs:List Value) (h:vs.length=l.length) (k:∀ (i:Nat) (p:E) (x:Value),l[i]? = some p->vs[i]? = some x->iD bs br w p x):iD bs br w (.agg l) (.agg vs.toArray)
 |iw (l:List E) (vs:List Value) (h:vs.length=l.length) (k:∀ (i:Nat) (p:E) (x:Value),l[i]? = some p->vs[i]? = some x->iD bs br w p x):iD bs br w (.iw l) (.tuple vs.toArray)
 |sl (nl:Bool) (n sz:Nat) (el:Nat->Nat->E) (A:Option Addr) (c:Nat) (f:Nat->Nat->Value) (hc:n<=c) (hm:c<=9223372036854775807) (h0:A=none->c=0)
  (hl:∀ i j,i<n->j<sz->(f i j).oneCell'=true/\(nl=true->rf (f i j)=false))
  (hr:∀ i j,i<n->j<sz->(el i j).nr 2=true)
  (cell:∀ i j,i<n->j<sz->∃ b o,A=some ⟨b,o,none⟩/\¬bs b/\b<w.heap.size/\w.cell? ⟨b,o+(i*sz+j),none⟩=some (f i j))
  (k:∀ i j,i<n->j<sz->iD bs br w (el i j) (f i j)):iD bs br w (.sl nl n sz el) (.slice A n c)
 |iV (m:Nat) (el:Nat->E) (b o:Nat) (f:Nat->Value) (hb:¬br b) (iC:b<w.heap.size) (hl:∀ j,j<m->(f j).oneCell'=true)
  (cell:∀ j,j<m->w.cell? ⟨b,o+j,none⟩=some (f j))
  (k:∀ j,j<m->iD bs br w (el j) (f j)):iD bs br w (.iV m el) (.pointer (some ⟨b,o,none⟩))
 |fn (f:FuncId) (l:List E) (vs:List Value) (h:vs.length=l.length) (k:∀ (i:Nat) (p:E) (x:Value),l[i]? = some p->vs[i]? = some x->iD bs br w p x):iD bs br w (.fn f l) (.func (.func f) #[] vs.toArray)
 |mp (l:List (Int×FuncId×List FuncId)) (b clk:Nat) (es:Array MapEntry) (hb:¬bs b) (iC:b<w.heap.size) (hh:w.heap[b]? = some (.map es clk)) (ho:Ci bs w l es.toList):iD bs br w (.mp l) (.map (some b))
 |nO (fl nl:Bool) (n sz:Nat) (el:Nat->Nat->E) (A:Option Addr) (c:Nat) (f:Nat->Nat->Value) (hc:n<=c) (hm:c<=9223372036854775807) (h0:A=none->c=0)
  (hl:∀ i j,i<n->j<sz->(f i j).oneCell'=true/\(nl=true->rf (f i j)=false))
  (hr:fl=true->∀ i j,i<n->j<sz->(el i j).nr 2=true)
  (cell:∀ i j,i<n->j<sz->∃ b o,A=some ⟨b,o,none⟩/\¬br b/\b<w.heap.size/\w.cell? ⟨b,o+(i*sz+j),none⟩=some (f i j))
  (k:∀ i j,i<n->j<sz->iD bs br w (el i j) (f i j)):iD bs br w (.nO fl nl n sz el) (.slice A n c)
def iD.mono{bs br bs' br':Nat->Prop}{w w':World}(lk:w.heap.size<=w'.heap.size)
 (h1:∀ b,b<w.heap.size->bs' b->bs b) (h2:∀ b,b<w.heap.size->br' b->br b)
 (hc:∀ b,b<w.heap.size->(¬bs b\/¬br b)->w'.heap[b]? = w.heap[b]?)
 {e:E} {v:Value} (h:iD bs br w e v):iD bs' br' w' e v:=by
 induction h with
 |any x=>exact .any x
 |v x=>exact .v x
 |agg l vs h k ih=>exact .agg l vs h ih
 |iw l vs h k ih=>exact .iw l vs h ih
 |sl nl n sz el A c f hn hm h0 hl hr cell k ih=>
  refine .sl nl n sz el A c f hn hm h0 hl hr (λi j hi hj=>?_) ih;obtain⟨b,o,e,hb,iC,ky⟩:=cell i j hi hj;exact⟨b,o,e,λhx=>hb (h1 b iC hx),bV iC lk,by rw[World.cell?_of_block (w:=w) (hc b iC (.inl hb))];exact ky⟩
 |iV m el b o f hb iC hl cell k ih=>
  exact .iV m el b o f (λhx=>hb (h2 b iC hx)) (bV iC lk) hl (λj hj=>by rw[World.cell?_of_block (w:=w) (hc b iC (.inr hb))];exact cell j hj) ih
 |fn f l vs h k ih=>exact .fn f l vs h ih
 |mp l b clk es hb iC hh ho=>exact .mp l b clk es (λx=>hb (h1 b iC x)) (bV iC lk) (by rw[hc b iC (.inl hb)];exact hh) (ho.mono lk h1 λb iC hb=>hc b iC (.inl hb))
 |nO fl nl n sz el A c f hn hm h0 hl hr cell k ih=>
  refine .nO fl nl n sz el A c f hn hm h0 hl hr (λi j hi hj=>?_) ih;obtain⟨b,o,e,hb,iC,ky⟩:=cell i j hi hj;exact⟨b,o,e,λhx=>hb (h2 b iC hx),bV iC lk,by rw[World.cell?_of_block (w:=w) (hc b iC (.inr hb))];exact ky⟩
def iD.qN{bs br bs' br':Nat->Prop}{w:World}(h1:∀ b,bs' b->bs b)(h2:∀ b,br' b->br b){e:E}{v:Value}(h:iD bs br w e v):iD bs' br' w e v:=
 h.mono (bu _) (λb _=>h1 b) (λb _=>h2 b) (λ_ _ _=>rfl)
def E.plain:Nat->E->Bool
 |_,.any=>true
 |_,.v _=>true
 |d+1,.agg l=>l.all (E.plain d)
 |d+1,.iw l=>l.all (E.plain d)
 |_,_=>false
def iD.plain{bs br bs' br':Nat->Prop}{w w':World}{e:E}{v:Value}(h:iD bs br w e v):∀ d,e.plain d=true->iD bs' br' w' e v:=by
 induction h with
 |any x=>exact λ_ _=>.any x
 |v x=>exact λ_ _=>.v x
 |agg l vs h k ih=>
  intro d hd;cases d with
  |zero=>simp[E.plain]at hd
  |succ d=>
   simp only[E.plain,bX]at hd;exact .agg l vs h λi p x hp hx=>ih i p x hp hx d (hd p (dR hp))
 |iw l vs h k ih=>
  intro d hd;cases d with
  |zero=>simp[E.plain]at hd
  |succ d=>
   simp only[E.plain,bX]at hd;exact .iw l vs h λi p x hp hx=>ih i p x hp hx d (hd p (dR hp))
 |sl=>intro d hd;cases d<;>simp[E.plain]at hd
 |iV=>intro d hd;cases d<;>simp[E.plain]at hd
 |fn=>intro d hd;cases d<;>simp[E.plain]at hd
 |mp=>intro d hd;cases d<;>simp[E.plain]at hd
 |nO=>intro d hd;cases d<;>simp[E.plain]at hd
def iD.nr{bs br br':Nat->Prop}{w:World}{e:E}{v:Value}(h:iD bs br w e v):∀ d,e.nr d=true->iD bs br' w e v:=by
 induction h with
 |any x=>exact λ_ _=>.any x
 |v x=>exact λ_ _=>.v x
 |agg l vs h k ih=>
  intro d hd;cases d with
  |zero=>simp[E.nr]at hd
  |succ d=>
   simp only[E.nr,bX]at hd;exact .agg l vs h λi p x hp hx=>ih i p x hp hx d (hd p (dR hp))
 |iw l vs h k ih=>
  intro d hd;cases d with
  |zero=>simp[E.nr]at hd
  |succ d=>
   simp only[E.nr,bX]at hd;exact .iw l vs h λi p x hp hx=>ih i p x hp hx d (hd p (dR hp))
 |fn f l vs h k ih=>
  intro d hd;cases d with
  |zero=>simp[E.nr]at hd
  |succ d=>
   simp only[E.nr,bX]at hd;exact .fn f l vs h λi p x hp hx=>ih i p x hp hx d (hd p (dR hp))
 |iV=>intro d hd;cases d<;>simp[E.nr]at hd
 |nO=>intro d hd;cases d<;>simp[E.nr]at hd
 |mp l b clk es hb iC hh ho=>exact λ_ _=>.mp l b clk es hb iC hh ho
 |sl nl n sz el A c f hn hm h0 hl hr cell k ih=>
  exact λ_ _=>.sl nl n sz el A c f hn hm h0 hl hr cell λi j hi hj=>ih i j hi hj 2 (hr i j hi hj)
def E.one:E->Bool
 | .v x=>x.oneCell'
 | .sl ..=>true
 | .iV ..=>true
 | .fn ..=>true
 |_=>false
def E.nE:E->Bool
 | .v x=>!rf x
 | .sl ..=>true
 | .iV ..=>true
 | .fn ..=>true
 |_=>false
def iD.one{bs br:Nat->Prop}{w:World}{e:E}{v:Value}(h:iD bs br w e v)(h1:e.one=true):v.oneCell'=true:=by
 cases h<;>first|exact h1|rfl|(simp[E.one]at h1)
def iD.nE{bs br:Nat->Prop}{w:World}{e:E}{v:Value}(h:iD bs br w e v)(h1:e.nE=true):rf v=false:=by
 cases h with
 |v=>unfold E.nE at h1;cases hb:rf v<;>simp_all
 |any=>cases h1
 |agg=>cases h1
 |iw=>cases h1
 |sl=>rfl
 |iV=>rfl
 |fn=>rfl
 |mp=>cases h1
 |nO=>cases h1
structure kr(bs br:Nat->Prop)(w:World)(l:List E)(vs:List Value):Prop where
 len:vs.length=l.length
 kT:∀ (i:Nat) (p:E) (x:Value),l[i]? = some p->vs[i]? = some x->iD bs br w p x
def kr.nil(bs br:Nat->Prop)(w:World):kr bs br w [] []:=⟨rfl,λi p x h=>by simp at h⟩
def kr.cons{bs br:Nat->Prop}{w:World}{p:E}{x:Value}{l:List E}{vs:List Value}(h:iD bs br w p x)(k:kr bs br w l vs):kr bs br w (p::l) (x::vs):=
 ⟨by simp[k.len],λi q y hq hy=>by
  cases i with
  |zero=>simp at hq hy;subst hq hy;exact h
  |succ i=>simp at hq hy;exact k.kT i q y hq hy⟩
def kr.head{bs br:Nat->Prop}{w:World}{p:E}{x:Value}{l:List E}{vs:List Value}(h:kr bs br w (p::l) (x::vs)):iD bs br w p x:=h.kT 0 p x rfl rfl
def kr.tail{bs br:Nat->Prop}{w:World}{p:E}{x:Value}{l:List E}{vs:List Value}(h:kr bs br w (p::l) (x::vs)):kr bs br w l vs:=
 ⟨by have:=h.len;simpa using this,λi q y hq hy=>h.kT (i+1) q y (by simpa using hq) (by simpa using hy)⟩
def kr.mG{bs br:Nat->Prop}{w:World}{p:E}{l:List E}{vs:List Value}(h:kr bs br w (p::l) vs):∃ x ys,vs=x::ys/\iD bs br w p x/\kr bs br w l ys:=by
 cases vs with
 |nil=>have:=h.len;simp at this
 |cons x ys=>exact⟨x,ys,rfl,h.head,h.tail⟩
def kr.rj{bs br:Nat->Prop}{w:World}{vs:List Value}(h:kr bs br w [] vs):vs=[]:=dw h.len
def kr.mono{bs br bs' br':Nat->Prop}{w w':World}{l:List E}{vs:List Value}(h:kr bs br w l vs)(k:∀ e v,iD bs br w e v->iD bs' br' w' e v):kr bs' br' w' l vs:=
 ⟨h.len,λi p x hp hx=>k _ _ (h.kT i p x hp hx)⟩
def kr.take{bs br:Nat->Prop}{w:World}{l:List E}{vs:List Value}(h:kr bs br w l vs)(n:Nat):kr bs br w (l.take n) (vs.take n):=
 ⟨by simp[h.len],λi p x hp hx=>by
  rw[ev]at hp hx;split at hp
  .rename_i hi;rw[bk hi]at hx;exact h.kT i p x hp hx
  .cases hp⟩
def kr.drop{bs br:Nat->Prop}{w:World}{l:List E}{vs:List Value}(h:kr bs br w l vs)(n:Nat):kr bs br w (l.drop n) (vs.drop n):=
 ⟨by simp[h.len],λi p x hp hx=>by
  rw[eR]at hp hx;exact h.kT _ p x hp hx⟩
def kr.app{bs br:Nat->Prop}{w:World}{l m:List E}{vs us:List Value}(h:kr bs br w l vs)(k:kr bs br w m us):kr bs br w (l++m) (vs++us):=
 ⟨by simp[h.len,k.len],λi p x hp hx=>by
  rw[eU]at hp hx;rw[h.len]at hx;split at hp
  .rename_i hi;rw[bk hi]at hx;exact h.kT i p x hp hx
  .rename_i hi;rw[bj hi]at hx;exact k.kT _ p x hp hx⟩
def kr.afb(bs br:Nat->Prop)(w:World)(vs:List Value):kr bs br w (vs.map .v) vs:=
 ⟨aK,λi p x hp hx=>by
  rw[cF,hx]at hp;simp at hp;subst hp;exact .v x⟩
def iD.Cm{bs br:Nat->Prop}{w:World}{l:List E}{v:Value}(h:iD bs br w (.agg l) v):∃ vs:List Value,v = .agg vs.toArray/\kr bs br w l vs:=by
 cases h with
 |agg _ vs h k=>exact⟨vs,rfl,h,k⟩
def iD.abm{bs br:Nat->Prop}{w:World}{l:List E}{v:Value}(h:iD bs br w (.iw l) v):∃ vs:List Value,v = .tuple vs.toArray/\kr bs br w l vs:=by
 cases h with
 |iw _ vs h k=>exact⟨vs,rfl,h,k⟩
def iD.kJ{bs br:Nat->Prop}{w:World}{x v:Value}(h:iD bs br w (.v x) v):v=x:=by cases h;rfl
def iD.U6{bs br:Nat->Prop}{w:World}{f:FuncId}{l:List E}{v:Value}(h:iD bs br w (.fn f l) v):∃ vs:List Value,v = .func (.func f) #[] vs.toArray/\kr bs br w l vs:=by
 cases h with
 |fn _ _ vs h k=>exact⟨vs,rfl,h,k⟩
def kr.agg{bs br:Nat->Prop}{w:World}{l:List E}{vs:List Value}(h:kr bs br w l vs):iD bs br w (.agg l) (.agg vs.toArray):=.agg l vs h.len h.kT
def kr.iw{bs br:Nat->Prop}{w:World}{l:List E}{vs:List Value}(h:kr bs br w l vs):iD bs br w (.iw l) (.tuple vs.toArray):=.iw l vs h.len h.kT
def E.cells?:E->Option (List E)
 | .agg l=>if l.all E.one then some l else none
 | .v (.agg cs)=>if cs.toList.all Value.oneCell' then some (cs.toList.map .v)else none
 | .v x=>if x.oneCell' then some [.v x]else none
 | .sl nl n sz el=>some [.sl nl n sz el]
 | .iV m el=>some [.iV m el]
 | .fn f c=>some [.fn f c]
 |_=>none
def iD.cells{bs br:Nat->Prop}{w:World}{e:E}{v:Value}(h:iD bs br w e v){l:List E}(hl:e.cells? = some l):
 kr bs br w l v.cells.toList/\∀ u ∈ v.cells.toList,u.oneCell'=true:=by
 have single:∀ {e:E} {v:Value},iD bs br w e v->v.oneCell'=true->v.cells = #[v]->kr bs br w [e] v.cells.toList/\∀ u ∈ v.cells.toList,u.oneCell'=true:=by
  intro e v h h1 hc;rw[hc];exact⟨.cons h (.nil _ _ _),by simpa using h1⟩
 cases h with
 |any x=>simp[E.cells?]at hl
 |v=>
  by_cases ha:∃ cs,v = .agg cs
  .obtain ⟨cs,rfl⟩:=ha;simp only[E.cells?]at hl;split at hl
   .rename_i h1;cases hl;exact⟨kr.afb _ _ _ _,λu hu=>bX.1 h1 u hu⟩
   .cases hl
  .have hx:(E.v v).cells? = if v.oneCell' then some [.v v]else none:=by
    cases v<;>first|rfl|exact absurd ⟨_,rfl⟩ ha
   rw[hx]at hl;split at hl
   .rename_i h1;cases hl;exact single (.v v) h1 (by cases v<;>first|rfl|exact absurd ⟨_,rfl⟩ ha)
   .cases hl
 |agg l vs h k=>
  simp only[E.cells?]at hl;split at hl
  .rename_i h1;cases hl;refine⟨⟨h,k⟩,?_⟩;intro u hu;obtain⟨i,hi⟩:=dC.1 hu;have GJ:i<l.length:=by
    obtain⟨hi,_⟩:=cr.1 hi;simp[Value.cells]at hi;omega
   exact(k i _ u (bF GJ) (by simpa[Value.cells]using hi)).one (bX.1 h1 _ (cG GJ))
  .cases hl
 |iw=>simp[E.cells?]at hl
 |mp=>simp[E.cells?]at hl
 |nO=>simp[E.cells?]at hl
 |sl nl n sz el A c f hc hm h0 qW hr cell k=>simp only[E.cells?]at hl;cases hl;exact single (.sl nl n sz el A c f hc hm h0 qW hr cell k) rfl rfl
 |iV m el b o f hb iC qW cell k=>simp only[E.cells?]at hl;cases hl;exact single (.iV m el b o f hb iC qW cell k) rfl rfl
 |fn f l' vs h k=>simp only[E.cells?]at hl;cases hl;exact single (.fn f l' vs h k) rfl rfl
structure TI where
 id:TypeId
 d:TypeDesc
 i:TypeInfo
def mL(P:Program)(T:List TI):Prop:=∀ x,x ∈ T->P.underlying x.id=some x.d/\P.info? x.id=some x.i
def mU:List TI->TypeId->Option TI
 | [],_=>none
 |x::l,t=>if Nat.beq x.id t then some x else mU l t
def xG(T:List TI)(t:TypeId):Option TypeDesc:=match mU T t with
 |some x=>some x.d
 |none=>none
def TI.isAgg(x:TI):Bool:=match x.d with
 | .struct _ | .array _ _=>true
 |_=>false
inductive CV where
 |e (x:E)
 |box (id:Nat)
 |row (id:Nat)
inductive PV where
 |e (x:E)
 |box (id off:Nat)
 |own (id:Nat)
 |nF (id sz i j:Nat)
 |iN (id k:Nat)
 |rF (id sz k i j:Nat)
 |pI (f:FuncId) (cap:List CV)
def CV.mo:CV->List Nat
 | .e _=>[]
 | .box id=>[id]
 | .row id=>[id]
def PV.mo:PV->List Nat
 | .e _=>[]
 | .box id _ | .own id | .nF id _ _ _ | .iN id _ | .rF id _ _ _ _=>[id]
 | .pI _ cap=>cap.flatMap CV.mo
inductive Bx where
 |cells (T:TypeId) (l:List E)
 |row (nl:Bool) (T:TypeId) (n sz:Nat) (el:Nat->Nat->E)
 |jR (nl:Bool) (T1 T0:TypeId) (n sz:Nat) (len:Nat->Nat) (el:Nat->Nat->Nat->E) (pend:Option Nat)
def Bx.nl:Bx->Bool
 | .cells _ l=>l.all E.nE
 | .row nl ..=>nl
 | .jR nl ..=>nl
structure PS where
 n:Nat
 nl:Bool
 t:List (Nat×PV)
 b:List (Nat×Bx)
def look{α:Type}:List (Nat×α)->Nat->Option α
 | [],_=>none
 | (k,x)::l,t=>if Nat.beq k t then some x else look l t
def PS.get(σ:PS)(t:Nat):PV:=(look σ.t t).getD (.e .any)
def PS.bo(σ:PS)(id:Nat):Option Bx:=look σ.b id
def PS.op(σ:PS):Operand->PV
 | .tmp t=>σ.get t
 | .const v=>.e (.v v)
 | .global g=>.e (.v (.pointer (some ⟨g,0,none⟩)))
 | .func f=>.e (.fn f [])
inductive rp where
 |none
 |new (id:Nat) (b:Bx)
 |wH (id:Nat) (b:Bx)
 |r7 (id:Nat) (b:Bx)
 |vK (id:Nat) (b:Bx)
 |fin (id:Nat)
 |sj (id r:Nat) (b:Bx)
 |B6 (id:Nat) (b:Bx)
structure kO where
 r:PV
 f:rp:=.none
 rb:List Nat:=[]
 jE:List Prop:=[]
 rd:List PV:=[]
def CV.Hg(id:Nat):CV->Bool
 | .row i=>Nat.beq i id
 |_=>false
def PV.nG:rp->PV->PV
 | .r7 id _,.own i=>if Nat.beq i id then .e .any else .own i
 | .r7 id _,.nF i s x j=>if Nat.beq i id then .e .any else .nF i s x j
 | .r7 id _,.pI f cap=>if cap.any (CV.Hg id)then .e .any else .pI f cap
 | .vK id _,.iN i k=>if Nat.beq i id then .e .any else .iN i k
 | .vK id _,.rF i s k x j=>if Nat.beq i id then .e .any else .rF i s k x j
 | .fin id,p=>if p.mo.any (Nat.beq id)then .e .any else p
 | .B6 id _,p=>if p.mo.any (Nat.beq id)then .e .any else p
 | .sj id r _,.box i off=>if Nat.beq i id then(if Nat.beq off 0 then .nF id 1 0 0 else .e .any)else if Nat.beq i r then .e .any else .box i off
 | .sj id r _,p=>if p.mo.any (λx=>Nat.beq id x||Nat.beq r x)then .e .any else p
 |_,p=>p
def uG(l:List (Nat×Bx))(id:Nat)(b:Bx):List (Nat×Bx):=(id,b)::l.filter λx=>!Nat.beq x.1 id
def rp.MM:rp->List (Nat×Bx)->List (Nat×Bx)
 | .none,l=>l
 | .new id b,l | .wH id b,l | .r7 id b,l | .vK id b,l | .B6 id b,l=>uG l id b
 | .fin id,l=>l.filter λx=>!Nat.beq x.1 id
 | .sj id r b,l=>uG (l.filter λx=>!Nat.beq x.1 r) id b
def rp.Mg:rp->Bool
 | .r7 .. | .vK .. | .fin .. | .sj .. | .B6 ..=>true
 |_=>false
def PS.oo(σ:PS)(f:rp):PS:={ σ with t:=if f.Mg then σ.t.map λx=>(x.1,x.2.nG f)else σ.t,b:=f.MM σ.b }
def PS.put(σ:PS)(d:Option Tmp)(p:PV):PS:=match d with
 |some d=>{ σ with t:=(d,p)::σ.t.filter λx=>!Nat.beq x.1 d }
 |none=>σ
def ku:IntKind->Int->Prop
 | .i8,z=>-128<=z/\z<=127
 | .i16,z=>-32768<=z/\z<=32767
 | .i32,z=>-2147483648<=z/\z<=2147483647
 | .i64,z=>-9223372036854775808<=z/\z<=9223372036854775807
 | .u8,z=>0<=z/\z<=255
 | .u16,z=>0<=z/\z<=65535
 | .u32,z=>0<=z/\z<=4294967295
 | .u64,z=>0<=z/\z<=18446744073709551615
def Z0(op:BinOp)(k k':IntKind):Bool:=match op with
 | .shl=>true
 | .shr=>true
 |_=>decide (k=k')
def MF(k:IntKind)(x y:Int):Int:=match k with
 | .u32=>IntKind.u32.wrap (x+y)
 |_=>x+y
def RU(k:IntKind)(x y:Int):List Prop:=match k with
 | .u32=>[]
 |_=>[ku k (x+y)]
def Nk(op:BinOp)(k:IntKind)(x:Int)(y:Int):Option (Value×List Prop):=match op with
 | .add=>some (.int k (MF k x y),RU k x y)
 | .sub=>some (.int k (x-y),[ku k (x-y)])
 | .mul=>some (.int k (x*y),[ku k (x*y)])
 | .quo=>some (.int k (x.tdiv y),[0<y,ku k x])
 | .rem=>some (.int k (x.tmod y),[0<y])
 | .and=>some (.int k (bits .and k x y),[])
 | .or=>some (.int k (bits .or k x y),[])
 | .shl=>some (.int k (k.wrap (x*2^y.toNat)),[0<=y/\y<=k.bits])
 | .shr=>some (.int k (x/2^y.toNat),[0<=y/\y<=k.bits])
 | .eql=>some (.bool (x==y),[])
 | .neq=>some (.bool (x != y),[])
 | .lss=>some (.bool (decide (x<y)),[])
 | .leq=>some (.bool (decide (x<=y)),[])
 | .gtr=>some (.bool (decide (y<x)),[])
 | .geq=>some (.bool (decide (y<=x)),[])
 |_=>none
def PS.read(σ:PS)(p:PV)(m:Nat):Option (List E×List Nat×List Prop):=match p with
 | .box id off=>match σ.bo id with
  |some (.cells _ l)=>if Nat.ble (off+m) l.length then some ((l.drop off).take m,[id],[])else none
  |_=>none
 | .nF id sz i j=>match σ.bo id with
  |some (.row _ _ n s el)=>if Nat.beq s sz&&Nat.ble (j+m) sz then some ((List.range m).map λq=>el i (j+q),[id],[i<n])else none
  |_=>none
 | .rF id sz k i j=>match σ.bo id with
  |some (.jR _ _ _ n s len el _)=>if Nat.beq s sz&&Nat.ble (j+m) sz then some ((List.range m).map λq=>el k i (j+q),[id],[k<n,i<len k])else none
  |_=>none
 | .e (.iV k el)=>if Nat.ble m k then some ((List.range m).map el,[],[])else none
 |_=>none
def CV.ext(σ:PS):CV->Option (E×List Nat)
 | .e x=>some (x,[])
 | .box id=>match σ.bo id with
  |some (.cells _ l)=>some (.iV l.length λj=>l.getD j .any,[id])
  |_=>none
 | .row id=>match σ.bo id with
  |some (.jR nl _ _ n sz len el none)=>if Nat.beq n 1 then some (.iV 1 λ_=>.sl nl (len 0) sz (el 0),[id])else none
  |_=>none
def CV.Hf:CV->Bool
 | .row _=>true
 |_=>false
def vF(σ:PS):List CV->Option (List E×List Nat)
 | []=>some ([],[])
 |c::l=>match c.ext σ,vF σ l with
  |some (x,i),some (xs,is)=>some (x::xs,i++is)
  |_,_=>none
def PV.xd(σ:PS):PV->Bool
 | .own id=>match σ.bo id with
  |some (.jR ..)=>false
  |_=>true
 | .iN _ _=>true
 | .pI _ cap=>cap.any CV.Hf
 |_=>false
def PV.ext(σ:PS):PV->Option (E×List Nat)
 | .e x=>some (x,[])
 | .own id=>match σ.bo id with
  |some (.row nl _ n sz el)=>some (.sl nl n sz el,[id])
  |some (.jR nl _ _ n sz len el none)=>some (.nO false true n 1 λk _=>.nO true nl (len k) sz (el k),[id])
  |_=>none
 | .box id 0=>match σ.bo id with
  |some (.cells _ l)=>some (.iV l.length λj=>l.getD j .any,[id])
  |_=>none
 | .iN id k=>match σ.bo id with
  |some (.jR nl _ _ n sz len el none)=>if Nat.blt k n then some (.sl nl (len k) sz (el k),[id])else none
  |_=>none
 | .pI f cap=>match vF σ cap with
  |some (xs,is)=>some (.fn f xs,is)
  |none=>none
 |_=>none
def uM(σ:PS):List Operand->Option (List E×List Nat)
 | []=>some ([],[])
 |o::l=>match(σ.op o).ext σ,uM σ l with
  |some (x,i),some (xs,is)=>some (x::xs,i++is)
  |_,_=>none
def xE:List PV->Option (List CV)
 | []=>some []
 | .e x::l=>(xE l).map (.e x :: ·)
 | .box id 0::l=>(xE l).map (.box id :: ·)
 | .nF id sz i j::l=>if Nat.beq sz 1&&Nat.beq i 0&&Nat.beq j 0 then(xE l).map (.row id :: ·)else none
 |_::_=>none
def py(w:World)(b:Nat):Prop:=∀ o x,w.cell? ⟨b,o,none⟩≠some (.int .u32 x)
structure PC(P:Program)(K:World->Prop)(f:FuncId)(args:List E)(kf:E):Prop where
 call:∀ (vs:Array Value) (w:World),(callFunc f vs).run P w = .ok (.enter f vs) w
 run:∀ (w:World) (B:Nat->Prop) (vs:List Value),K w->(∀ b,B b->b<w.heap.size/\py w b)->kr B (λ_=>False) w args vs ->
  Calls P f vs.toArray w (λe w'=>∃ v,e = .returned v/\Below w.heap.size w w'/\iD B (λ_=>True) w' kf v)
structure I6(P:Program)(K:World->Prop)(f:FuncId)(args:List E)(kf:E):Prop where
 call:∀ (vs:Array Value) (w:World),(callFunc f vs).run P w = .ok (.enter f vs) w
 run:∀ (w:World) (B:Nat->Prop) (vs:List Value),K w->(∀ b,B b->b<w.heap.size)->kr B (λ_=>False) w args vs ->
  Calls P f vs.toArray w (λe w'=>∃ v,e = .returned v/\Below w.heap.size w w'/\iD B (λ_=>True) w' kf v)
def oi(w:World)(v:Value)(T:TypeId)(n sz:Nat)(f:Nat->Nat->Value)(nl:Bool):Prop:=
 (v = .slice none 0 0/\n=0) \/
 ∃ (b c:Nat) (cur:Array Value),v = .slice (some ⟨b,0,none⟩) n c/\w.heap[b]? = some (.cells cur T (0,0))/\n<=c/\c<=maxLen/\cur.size=c*sz /\
  (∀ i j,i<n->j<sz->cur[i*sz+j]? = some (f i j)/\(f i j).oneCell'=true)/\(nl=true->∀ u,u ∈ cur->rf u=false)
structure wL(P:Program)(K:World->Prop)(f:FuncId)(args:List E)(nl:Bool)(T:TypeId)(n sz:Nat)(el:Nat->Nat->E):Prop where
 call:∀ (vs:Array Value) (w:World),(callFunc f vs).run P w = .ok (.enter f vs) w
 run:∀ (w:World) (B:Nat->Prop) (vs:List Value),K w->(∀ b,B b->b<w.heap.size/\py w b)->kr B (λ_=>False) w args vs ->
  Calls P f vs.toArray w (λe w'=>∃ v,e = .returned v/\Below w.heap.size w w'/\∃ g,oi w' v T n sz g nl/\(∀ x,v.ownBlock=some x->w.heap.size<=x/\x<w'.heap.size) /\
   ∀ i j,i<n->j<sz->iD (λb=>B b\/v.ownBlock=some b) (λ_=>True) w' (el i j) (g i j)/\(el i j).nr 2=true)
structure qB where
 cl:List (Nat×E):=[]
 ov:List (Nat×PV):=[]
 nw:List (Nat×Bx):=[]
 gi:List (Nat×Value):=[]
def Im(T:List TI):List Field->Option (List (Nat×Nat))
 | []=>some []
 |f::fs=>match mU T f.type,Im T fs with
  |some ti,some l=>some ((f.offset,ti.i.size)::l)
  |_,_=>none
def BX(l:List E)(off:Nat)(m:List E):List E:=l.take off++m++l.drop (off+m.length)
def sZ(σ:PS)(place:Nat->Option (Nat×Nat)):List E->List (Nat×Operand)->Option (List E)
 |l,[]=>some l
 |l,(i,x)::ps=>match place i,σ.op x with
  |some (off,size),.e e=>match e.cells? with
   |some m=>if Nat.beq m.length size&&Nat.ble (off+m.length) l.length then sZ σ place (BX l off m) ps else none
   |none=>none
  |_,_=>none
def zD(ti:TI):Option (List E):=match ti.i.zero with
 |some z=>(E.v z).cells?
 |none=>none
def kT{α:Type}:Nat->List α->List α
 | 0,_=>[]
 |n+1,l=>l++kT n l
def pH(P:Program)(op:BinOp)(t:TypeId)(x y:E)(v:Value):Prop:=∀ (bs br:Nat->Prop) (w:World) (a b:Value) (ox oy:Operand),iD bs br w x a->iD bs br w y b->(eqGuard op t ox oy a b).run P w = .ok () w/\(binOp op t a b).run P w = .ok v w
def agX(O:qB)(d:Option Tmp):Option Value:=match d with
 |some d=>match look O.cl d with
  |some (.v v)=>some v
  |_=>none
 |none=>none
def agW(O:qB)(d:Option Tmp):Option Value:=match d with
 |some d=>look O.gi d
 |none=>none
def wK(e:E):Prop:=∀ (bs bs' br:Nat->Prop) (w:World) (v:Value),(∀ x,bs' x->bs x\/py w x)->iD bs br w e v->iD bs' br w e v
def vi(σ:PS)(d:Nat)(b:Bx):rp:=match σ.bo d with
 |none=>.new d b
 |some _=>.B6 d b
def Aw(σ:PS)(d:Nat)(is:List Nat):List Nat:=match σ.bo d with
 |none=>is
 |some _=>d::is
def FN(n sz:Nat)(el:Nat->Nat->E):Prop:=∀ i j,i<n->j<sz->wK (el i j)
def Bi(P:Program)(K:World->Prop)(O:qB)(σ:PS)(d:Option Tmp)(f:FuncId)(xs:List E)(is:List Nat)(ow:Bool):Option kO:=
 match(match d with
  |some d=>look O.cl d
  |none=>some .any)with
 |some kf=>if kf.plain 3||(σ.nl && !ow)then some { r:=.e kf,rb:=is,jE:=[PC P K f xs kf] }else if !ow then some { r:=.e kf,rb:=is,jE:=[I6 P K f xs kf] }
  else if σ.nl then some { r:=.e kf,rb:=is,jE:=[PC P K f xs kf,wK kf] }else none
 |none=>match d with
  |some d=>match look O.nw d with
   |some (.row nl T n sz el)=>if σ.nl&&nl then some { r:=.own d,f:=vi σ d (.row nl T n sz el),rb:=Aw σ d is,jE:=wL P K f xs nl T n sz el::(if ow then[FN n sz el]else[]) }else none
   |_=>none
  |none=>none
def Au(σ:PS)(d:Option Tmp)(b:Bx)(r:Nat->PV)(jE:List Prop):Option kO:=match d with
 |some d=>match σ.bo d with
  |none=>if !σ.nl||b.nl then some { r:=r d,f:=.new d b,jE:=jE }else none
  |some _=>none
 |none=>none
def PV.MH:PV->Option (Bool×Nat×Nat×(Nat->Nat->E))
 | .e (.sl nl n sz el)=>some (nl,n,sz,el)
 | .e (.nO true nl n sz el)=>some (nl,n,sz,el)
 |_=>none
def BQ(σ:PS)(d:Option Tmp)(b:Bx)(r:Nat->PV):Option kO:=match d with
 |some d=>if !σ.nl||b.nl then some { r:=r d,f:=vi σ d b,rb:=Aw σ d [] }else none
 |none=>none
def Bh(T:List TI)(σ:PS)(d:Option Tmp)(t:TypeId)(s x:PV):Option kO:=match x.MH with
 |some (nl2,m,sz2,el2)=>match mU T t with
  |some tt=>match tt.d with
   | .slice e=>match mU T e with
    |some te=>match zD te with
     |some z=>if Nat.beq te.i.size sz2&&Nat.ble 1 sz2&&Nat.ble 1 te.i.bytes&&Nat.beq z.length sz2 then match s with
      | .own id=>match σ.bo id with
       |some (.row nl T1 n sz el)=>if Nat.beq T1 e&&Nat.beq sz sz2&&(!σ.nl||(nl&&(nl2&&z.all E.nE)))then
        some { r:=.own id,f:=.r7 id (.row (nl&&(nl2&&z.all E.nE)) T1 (n+m) sz λi j=>if i<n then el i j else el2 (i-n) j),rb:=[id],jE:=[(n+m)*te.i.bytes<=140737488355328] }
        else none
       |_=>none
      | .iN id k=>match σ.bo id with
       |some (.jR nl T1 T0 n sz len el none)=>if Nat.beq T0 e&&Nat.beq sz sz2&&(!nl||(nl2&&z.all E.nE))then
        some { r:=.iN id k,f:=.vK id (.jR nl T1 T0 n sz (λq=>if q=k then len q+m else len q) (λq i j=>if q=k then(if i<len q then el q i j else el2 (i-len q) j)else el q i j) (some k)),rb:=[id],jE:=[k<n,(len k+m)*te.i.bytes<=140737488355328] }
        else none
       |_=>none
      | .e (.v (.slice none 0 0))=>Au σ d (.row (nl2&&z.all E.nE) e m sz2 el2) .own [m*te.i.bytes<=140737488355328]
      |_=>none
     else none
     |none=>none
    |none=>none
   |_=>none
  |none=>none
 |_=>none
def CB(T:List TI)(σ:PS)(d:Option Tmp)(t:TypeId)(s x:PV):Option kO:=match Bh T { σ with nl:=false } d t s x with
 |some u=>match u.f,u.r with
  | .r7 id (.row nl _ n sz el),.own id'=>if Nat.beq id' id then some { r:=.e (.sl nl n sz el),f:=.fin id,rb:=u.rb,jE:=True::u.jE }else none
  |_,_=>none
 |none=>none
def PV.Fi:PV->Option Nat
 | .own q=>some q
 |_=>none
def BV(σ:PS):List (Nat×Operand)->Option Nat
 | [(0,x)]=>(σ.op x).Fi
 |_=>none
def JA(T:List TI)(t:TypeId):Option (TypeId×Nat):=match mU T t with
 |some tt=>match tt.d with
  | .slice e=>match mU T e with
   |some te=>match zD te with
    |some [z]=>if Nat.beq te.i.size 1&&Nat.ble 1 te.i.bytes&&z.nE then some (e,te.i.bytes)else none
    |_=>none
   |none=>none
  |_=>none
 |none=>none
def CD(T:List TI)(σ:PS)(d:Option Tmp)(t:TypeId)(n q:Nat):Option kO:=match d with
 |some id=>match σ.bo id,σ.bo q,JA T t with
  |none,some (.row nl T0 m sz el),some (e,_)=>if Nat.beq n 1 && !Nat.beq id q then
   some { r:=.own id,f:=.sj id q (.jR nl e T0 1 sz (λ_=>m) (λ_=>el) none),rb:=[id,q] }else none
  |_,_,_=>none
 |none=>none
def CC(T:List TI)(σ:PS)(d:Option Tmp)(t:TypeId)(s:PV)(q:Nat):Option kO:=match σ.bo q,JA T t with
 |some (.jR nl2 T2 T0 m sz len2 el2 none),some (e,by_)=>match s,d with
  | .own id,_=>match σ.bo id with
   |some (.jR nl T1 T0' n sz' len el none)=>if Nat.beq T1 e&&Nat.beq T2 e&&Nat.beq T0' T0&&Nat.beq sz' sz && !Nat.beq id q then
    some { r:=.own id,f:=.sj id q (.jR (nl&&nl2) T1 T0 (n+m) sz (λk=>if k<n then len k else len2 (k-n)) (λk=>if k<n then el k else el2 (k-n)) none),rb:=[id,q],jE:=[0<m,(n+m)*by_<=140737488355328] }else none
   |_=>none
  | .e (.v (.slice none 0 0)),some id=>match σ.bo id with
   |none=>if Nat.beq T2 e && !Nat.beq id q then
    some { r:=.own id,f:=.sj id q (.jR nl2 T2 T0 m sz len2 el2 none),rb:=[id,q],jE:=[0<m,m*by_<=140737488355328] }else none
   |_=>none
  |_,_=>none
 |_,_=>none
def Um(T:List TI)(t:TypeId)(l c:PV):Option (Bx×List Prop):=match l,c with
 | .e (.v (.int _ l)),.e (.v (.int _ c))=>match mU T t with
  |some tt=>match tt.d with
   | .slice e=>match mU T e with
    |some te=>match zD te with
     |some z=>if Nat.beq te.i.size z.length&&Nat.ble 1 te.i.size then
      let jE:=[0<=l/\l<=c,(te.i.bytes:Int)*c<=281474976710656/\c<=9223372036854775807]
      match te.d with
      | .slice e0=>match mU T e0,z with
       |some t0,[.v (.slice none 0 0)]=>some (.jR true e e0 l.toNat t0.i.size (λ_=>0) (λ_ _ _=>.any) none,jE)
       |_,_=>none
      |_=>some (.row (z.all E.nE) e l.toNat te.i.size (λ_ j=>z.getD j .any),jE)
      else none
     |none=>none
    |none=>none
   |_=>none
  |none=>none
 |_,_=>none
def JV(T:List TI)(σ:PS)(d:Option Tmp)(t:TypeId)(l c:PV):Option kO:=match Um T t l c with
 |some (b,jE)=>Au σ d b .own jE
 |none=>none
def JW(T:List TI)(t:TypeId)(x:PV)(lo hi:Option PV):Option kO:=match x with
 | .e (.sl nl n sz el)=>match mU T t with
  |some tt=>match tt.d with
   | .slice e=>match mU T e with
    |some te=>if Nat.beq te.i.size sz then match lo,hi with
     |none,some (.e (.v (.int _ h)))=>some { r:=.e (.sl nl h.toNat sz el),jE:=[0<=h/\h<=n] }
     |some (.e (.v (.int _ l))),none=>some { r:=.e (.sl nl (n-l.toNat) sz λi j=>el (l.toNat+i) j),jE:=[0<=l/\l<=n] }
     |some (.e (.v (.int _ l))),some (.e (.v (.int _ h)))=>some { r:=.e (.sl nl (h.toNat-l.toNat) sz λi j=>el (l.toNat+i) j),jE:=[0<=l/\l<=h/\h<=n] }
     |_,_=>none
     else none
    |none=>none
   |_=>none
  |none=>none
 | .e (.nO fl nl n sz el)=>match mU T t with
  |some tt=>match tt.d with
   | .slice e=>match mU T e with
    |some te=>if Nat.beq te.i.size sz then match lo,hi with
     |none,some (.e (.v (.int _ h)))=>some { r:=.e (.nO fl nl h.toNat sz el),jE:=[0<=h/\h<=n] }
     |some (.e (.v (.int _ l))),none=>some { r:=.e (.nO fl nl (n-l.toNat) sz λi j=>el (l.toNat+i) j),jE:=[0<=l/\l<=n] }
     |some (.e (.v (.int _ l))),some (.e (.v (.int _ h)))=>some { r:=.e (.nO fl nl (h.toNat-l.toNat) sz λi j=>el (l.toNat+i) j),jE:=[0<=l/\l<=h/\h<=n] }
     |_,_=>none
     else none
    |none=>none
   |_=>none
  |none=>none
 |_=>none
def JT(T:List TI)(σ:PS)(t:TypeId)(x i:PV):Option kO:=match i with
 | .e (.v (.int _ z))=>match mU T t with
  |some tt=>match tt.d with
   | .slice e=>match mU T e with
    |some te=>match x with
     | .e (.sl _ n sz el)=>if Nat.beq te.i.size sz&&Nat.ble 1 sz then some { r:=.e (.iV sz (el z.toNat)),jE:=[0<=z/\z<n] }else none
     | .e (.nO _ _ n sz el)=>if Nat.beq te.i.size sz&&Nat.ble 1 sz then some { r:=.e (.iV sz (el z.toNat)),jE:=[0<=z/\z<n] }else none
     | .own id=>match σ.bo id with
      |some (.row _ _ n sz _)=>if Nat.beq te.i.size sz then some { r:=.nF id sz z.toNat 0,rb:=[id],jE:=[0<=z/\z<n] }else none
      |some (.jR _ _ _ n _ _ _ _)=>if Nat.beq te.i.size 1 then some { r:=.nF id 1 z.toNat 0,rb:=[id],jE:=[0<=z/\z<n] }else none
      |_=>none
     | .iN id k=>match σ.bo id with
      |some (.jR _ _ _ n sz len _ _)=>if Nat.beq te.i.size sz then some { r:=.rF id sz k z.toNat 0,rb:=[id],jE:=[k<n,0<=z/\z<len k] }else none
      |_=>none
     |_=>none
    |none=>none
   | .array n e=>match mU T e with
    |some te=>match x with
     | .box id off=>some { r:=.box id (off+z.toNat*te.i.size),jE:=[0<=z/\z<n] }
     | .e (.iV m el)=>if Nat.beq (n*te.i.size) m then some { r:=.e (.iV te.i.size λj=>el (z.toNat*te.i.size+j)),jE:=[0<=z/\z<n] }else none
     |_=>none
    |none=>none
   |_=>none
  |none=>none
 |_=>none
def JX(T:List TI)(σ:PS)(t:TypeId)(a x:PV):Option kO:=match mU T t with
 |some ti=>match a,x with
  | .box id off,.e e=>match σ.bo id,e.cells? with
   |some (.cells T1 l),some m=>if Nat.beq m.length ti.i.size&&Nat.ble (off+m.length) l.length&&(!σ.nl||m.all E.nE)then
    some { r:=.e .any,f:=.wH id (.cells T1 (BX l off m)),rb:=[id] }else none
   |_,_=>none
  | .box id 0,.own q=>match σ.bo id,σ.bo q with
   |some (.cells T1 [_]),some (.row nl T0 n sz el)=>if !Nat.beq id q&&Nat.beq ti.i.size 1 then
    some { r:=.e .any,f:=.sj id q (.jR nl T1 T0 1 sz (λ_=>n) (λ_=>el) none),rb:=[id,q] }else none
   |_,_=>none
  | .nF id sz i j,.e e=>match σ.bo id,e.cells? with
   |some (.row nl T1 n s el),some m=>if Nat.beq m.length ti.i.size&&Nat.beq s sz&&Nat.ble (j+m.length) sz&&(!nl||m.all E.nE)&&m.all (E.nr 2)then
    some { r:=.e .any,f:=.wH id (.row nl T1 n s λi' j'=>if i'=i/\j<=j'/\j'<j+m.length then m.getD (j'-j) .any else el i' j'),rb:=[id],jE:=[i<n] }else none
   |_,_=>none
  | .nF id 1 i 0,.iN id' k=>match σ.bo id with
   |some (.jR nl T1 T0 n sz len el (some k'))=>if Nat.beq id id'&&Nat.beq ti.i.size 1 then
    some { r:=.e .any,f:=.wH id (.jR nl T1 T0 n sz len el none),rb:=[id],jE:=[i=k',k=k',k'<n] }else none
   |_=>none
  |_,_=>none
 |none=>none
def tl:PV->PS->Option (Value×List Nat)
 | .e (.nO _ _ n _ _),_=>some (.int .i64 (n:Int),[])
 | .e (.sl _ n _ _),_=>some (.int .i64 (n:Int),[])
 | .e (.v (.slice _ n _)),_=>some (.int .i64 (n:Int),[])
 | .own id,σ=>match σ.bo id with
  |some (.row _ _ n _ _)=>some (.int .i64 (n:Int),[id])
  |some (.jR _ _ _ n _ _ _ _)=>some (.int .i64 (n:Int),[id])
  |_=>none
 | .iN id k,σ=>match σ.bo id with
  |some (.jR _ _ _ n _ len _ _)=>if Nat.blt k n then some (.int .i64 (len k:Int),[id])else none
  |_=>none
 |_,_=>none
def Hq(ti:TI):Option (List E×List Nat×List Prop)->Option kO
 |some (l,is,jE)=>if ti.isAgg then some { r:=.e (.agg l),rb:=is,jE:=jE }else match l with
  | [e]=>some { r:=.e e,rb:=is,jE:=jE }
  |_=>none
 |none=>none
def DQ(σ:PS):PV->Option (Nat×Nat×Nat)
 | .nF id sz i j=>match σ.bo id with
  |some (.jR _ _ _ n _ _ _ none)=>if Nat.beq sz 1&&Nat.beq j 0 then some (id,i,n)else none
  |_=>none
 |_=>none
def JU(T:List TI)(σ:PS)(t:TypeId)(p:PV):Option kO:=match mU T t with
 |some ti=>match DQ σ p with
  |some (id,i,n)=>if ti.isAgg then none else some { r:=.iN id i,rb:=[id],jE:=[i<n] }
  |none=>Hq ti (σ.read p ti.i.size)
 |none=>none
def Jj(O:qB):Option Tmp->Bool
 |some d=>(look O.nw d).isSome
 |none=>false
def Dv:List (Int×FuncId×List FuncId)->Int->Option E
 | [],_=>none
 |x::l,z=>if x.1=z then some (.fn x.2.1 (x.2.2.map λg=>.iV 1 λ_=>.fn g []))else Dv l z
def agV(O:qB):Option Tmp->Option E
 |some d=>look O.cl d
 |none=>none
def jA(P:Program)(K:World->Prop)(T:List TI)(O:qB)(σ:PS)(o:Oper):Option kO:=match o.op with
 | .move x=>some { r:=σ.op x }
 | .assign x=>some { r:=σ.op x }
 | .pick c a b=>match σ.op c with
  | .e (.v (.bool true))=>some { r:=σ.op a }
  | .e (.v (.bool false))=>some { r:=σ.op b }
  |_=>none
 | .alloc t=>match mU T t with
  |some ti=>match zD ti with
   |some z=>BQ σ o.dst (.cells t z) (.box · 0)
   |none=>none
  |none=>none
 | .box t x=>match σ.op x with
  | .e e=>match e.cells? with
   |some l=>BQ σ o.dst (.cells t l) (.box · 0)
   |none=>none
  |_=>none
 | .build t ps=>match mU T t with
  |some ti=>match zD ti with
   |some z=>match ti.d with
    | .struct fs=>match Im T fs.toList with
     |some pl=>(sZ σ (λi=>pl[i]?) z ps.toList).map λl=>{ r:=.e (.agg l) }
     |none=>none
    | .array _ e=>match mU T e with
     |some te=>(sZ σ (λi=>some (i*te.i.size,te.i.size)) z ps.toList).map λl=>{ r:=.e (.agg l) }
     |none=>none
    |_=>none
   |none=>none
  |none=>none
 | .buildSlice t n ps=>match BV σ ps.toList with|some q=>CD T σ o.dst t n q|none=>match mU T t with
  |some tt=>match tt.d with
   | .slice e=>match mU T e with
    |some te=>match zD te with
     |some z=>if Nat.beq z.length te.i.size&&Nat.ble 1 te.i.size&&Nat.ble (n*te.i.size) 16777216 then
      (sZ σ (λi=>some (i*te.i.size,te.i.size)) (kT n z) ps.toList).bind λl=>
       if !(l.all (E.nr 2))then none else if Jj O o.dst then Au σ o.dst (.row (l.all E.nE) e n te.i.size λi j=>l.getD (i*te.i.size+j) (.v (.bool false))) .own [True]
       else if l.all E.nE then some { r:=.e (.sl true n te.i.size λi j=>l.getD (i*te.i.size+j) (.v (.bool false))) }
       else some { r:=.e (.sl false n te.i.size λi j=>l.getD (i*te.i.size+j) (.v (.bool false))) }
      else none
     |none=>none
    |none=>none
   |_=>none
  |none=>none
 | .load t a=>JU T σ t (σ.op a)
 | .store t a x=>JX T σ t (σ.op a) (σ.op x)
 | .nilCheck x=>match σ.op x with
  | .box id off=>some { r:=.box id off }
  | .e (.iV m el)=>some { r:=.e (.iV m el) }
  | .e (.fn f c)=>some { r:=.e (.fn f c) }
  | .pI f c=>some { r:=.pI f c }
  |_=>none
 | .binOp op t x y _=>match σ.op x,σ.op y with
  | .e (.v (.int k a)),.e (.v (.int k' b))=>
   match agW O o.dst with
   |some v=>some { r:=.e (.v v),jE:=[pH P op t (.v (.int k a)) (.v (.int k' b)) v] }
   |none=>if Z0 op k k' then(Nk op k a b).map λr=>{ r:=.e (.v r.1),jE:=r.2 }else none
  | .e (.v (.bool a)),.e (.v (.bool b))=>match xG T t with
   |some .bool=>match op with
    | .eql=>some { r:=.e (.v (.bool (a==b))) }
    | .neq=>some { r:=.e (.v (.bool (!(a==b)))) }
    |_=>none
   |_=>none
  | .e (.sl _ n _ _),.e (.v (.slice none 0 0))=>match xG T t with
   |some (.slice _)=>match op with
    | .eql=>some { r:=.e (.v (.bool false)),jE:=[0<n] }
    | .neq=>some { r:=.e (.v (.bool true)),jE:=[0<n] }
    |_=>none
   |_=>none
  | .e a,.e b=>match agX O o.dst with
   |some v=>some { r:=.e (.v v),jE:=[pH P op t a b v] }
   |none=>none
  |_,_=>none
 | .unOp op _ x=>match op,σ.op x with
  | .not,.e (.v (.bool b))=>some { r:=.e (.v (.bool (!b))) }
  | .neg,.e (.v (.int k z))=>some { r:=.e (.v (.int k (0-z))),jE:=[ku k (0-z)] }
  |_,_=>none
 | .convert src dst x=>match xG T dst,mU T src,σ.op x with
  |some (.int k),some _,.e (.v (.int _ z))=>some { r:=.e (.v (.int k (k.wrap z))) }
  |_,_,_=>none
 | .makeFunc (.func f) first cap=>if first.isEmpty then match xE (cap.toList.map σ.op)with
  |some l=>some { r:=.pI f l }
  |none=>none
  else none
 | .makeSlice t l c=>JV T σ o.dst t (σ.op l) (σ.op c)
 | .slice t x lo hi none=>JW T t (σ.op x) (lo.map σ.op) (hi.map σ.op)
 | .fieldAddr t x f=>match xG T t with
  |some (.struct fs)=>match fs[f]? with
   |some fd=>match mU T fd.type with
    |some ft=>if Nat.beq ft.i.size 0 then none else match σ.op x with
     | .box id off=>some { r:=.box id (off+fd.offset) }
     | .nF id sz i j=>some { r:=.nF id sz i (j+fd.offset) }
     | .rF id sz k i j=>some { r:=.rF id sz k i (j+fd.offset) }
     | .e (.iV m el)=>if Nat.ble fd.offset m then some { r:=.e (.iV (m-fd.offset) λj=>el (fd.offset+j)) }else none
     |_=>none
    |none=>none
   |none=>none
  |_=>none
 | .indexAddr t x i=>JT T σ t (σ.op x) (σ.op i)
 | .index t x i=>match σ.op x,σ.op i with
  | .e (.agg l),.e (.v (.int _ z))=>match mU T t with
   |some tt=>match tt.d with
    | .array n e=>match mU T e with
     |some te=>if te.isAgg&&Nat.beq (n*te.i.size) l.length then some { r:=.e (.agg ((l.drop (z.toNat*te.i.size)).take te.i.size)),jE:=[0<=z/\z<n] }else none
     |none=>none
    |_=>none
   |none=>none
  |_,_=>none
 | .field t x f=>match σ.op x,xG T t with
  | .e (.agg l),some (.struct fs)=>match fs[f]? with
   |some fd=>match mU T fd.type with
    |some ft=>if ft.isAgg then none else match l[fd.offset]? with
     |some e=>some { r:=.e e }
     |none=>none
    |none=>none
   |none=>none
  |_,_=>none
 | .lookup t x i false=>match σ.op x,σ.op i,xG T t with
  | .e (.mp l),.e (.v (.int .i64 z)),some (.map k _)=>match xG T k,agV O o.dst with
   |some (.int .i64),some e=>some { r:=.e e,jE:=[Dv l z=some e] }
   |_,_=>none
  |_,_,_=>none
 | .extract x i=>match σ.op x with
  | .e (.iw l)=>match l[i]? with
   |some e=>some { r:=.e e }
   |none=>none
  |_=>none
 | .call c=>match c.callee with
  | .builtin .len=>match c.args.toList,c.argTypes.toList with
   | [x],[t]=>match xG T t with
    |some (.slice _)=>(tl (σ.op x) σ).map λr=>{ r:=.e (.v r.1),rb:=r.2 }
    |_=>none
   |_,_=>none
  | .builtin .append=>match c.args.toList,c.argTypes.toList with
   | [s,x],[t,t']=>if Nat.beq t t' then(match(σ.op x).Fi with|some q=>CC T σ o.dst t (σ.op s) q|none=>if Jj O o.dst then CB T σ o.dst t (σ.op s) (σ.op x)else Bh T σ o.dst t (σ.op s) (σ.op x))else none
   |_,_=>none
  | .builtin .max=>match c.args.toList.map σ.op with
   | [.e (.v (.int k a)),.e (.v (.int _ b))]=>some { r:=.e (.v (.int k (if b>a then b else a))) }
   | [.e (.v (.int k a)),.e (.v (.int _ b)),.e (.v (.int _ z))]=>some { r:=.e (.v (.int k (if z>(if b>a then b else a)then z else(if b>a then b else a)))) }
   |_=>none
  | .builtin .min=>match c.args.toList.map σ.op with
   | [.e (.v (.int k a)),.e (.v (.int _ b))]=>some { r:=.e (.v (.int k (if b<a then b else a))) }
   |_=>none
  | .value f=>match σ.op f,uM σ c.args.toList with
   | .e (.fn g cap),some (xs,is)=>Bi P K O σ o.dst g (xs++cap) is ((c.args.toList.map σ.op).any (PV.xd σ))
   | .pI g cap,some (xs,is)=>match vF σ cap with
    |some (ys,js)=>Bi P K O σ o.dst g (xs++ys) (is++js) ((c.args.toList.map σ.op).any (PV.xd σ)||cap.any CV.Hf)
    |none=>none
   |_,_=>none
  |_=>none
 |_=>none
structure Lk where
 mP:Nat->Prop
 own:Nat->Nat->Prop
 val:Nat->Value
 iN:Nat->Nat->Value
def jJ(L:Lk)(x:Nat):Prop:=∃ id,L.own id x
def jl(B:Nat->Prop)(L:Lk)(x:Nat):Prop:=B x\/jJ L x
def xy(bs br:Nat->Prop)(L:Lk)(w:World):CV->Value->Prop
 | .e x,v=>iD bs br w x v
 | .box id,v=>L.mP id/\∃ b,L.val id = .pointer (some ⟨b,0,none⟩)/\v = .pointer (some ⟨b,0,none⟩)
 | .row id,v=>L.mP id/\∃ b n c,L.val id = .slice (some ⟨b,0,none⟩) n c/\v = .pointer (some ⟨b,0,none⟩)
def nI(bs br:Nat->Prop)(L:Lk)(w:World):PV->Value->Prop
 | .e x,v=>iD bs br w x v
 | .box id off,v=>L.mP id/\∃ b,L.val id = .pointer (some ⟨b,0,none⟩)/\v = .pointer (some ⟨b,off,none⟩)
 | .own id,v=>L.mP id/\v=L.val id
 | .nF id sz i j,v=>L.mP id/\∃ b n c,L.val id = .slice (some ⟨b,0,none⟩) n c/\v = .pointer (some ⟨b,i*sz+j,none⟩)
 | .iN id k,v=>L.mP id/\v=L.iN id k
 | .rF id sz k i j,v=>L.mP id/\∃ b n c,L.iN id k = .slice (some ⟨b,0,none⟩) n c/\v = .pointer (some ⟨b,i*sz+j,none⟩)
 | .pI f cap,v=>∃ vs:List Value,v = .func (.func f) #[] vs.toArray/\vs.length=cap.length/\∀ (i:Nat) (c:CV) (x:Value),cap[i]? = some c->vs[i]? = some x->xy bs br L w c x
def PV.le(p q:PV):Prop:=∀ (bs br:Nat->Prop) (L:Lk) (w:World) (v:Value),nI bs br L w p v->nI bs br L w q v
abbrev aj(a b:E):Prop:=PV.le (.e a) (.e b)
def vE(P:Program)(K:World->Prop)(T:List TI)(O:qB)(σ:PS)(o:Oper):Option kO:=match jA P K T O σ o with
 |some u=>match o.dst with
  |some d=>match look O.ov d with
   |some p=>some { u with r:=p,jE:=PV.le u.r p::u.jE }
   |none=>some u
  |none=>some u
 |none=>none
def AS(gX:Array Oper)(σ:PS)(o:Oper):Option Bool:=match o.guard with
 |none=>some true
 |some (j,want)=>match(gX[j]?).bind (·.dst)with
  |some t=>match σ.get t with
   | .e (.v (.bool true))=>some want
   | .e (.v (.bool false))=>some (!want)
   | .e (.v (.tuple _))=>some false
   |_=>none
  |none=>none
def PS.app(σ:PS)(d:Option Tmp)(u:kO):PS:=(σ.oo u.f).put d u.r
def w9(σ:PS):Option Tmp->Bool
 |some d=>Nat.blt d σ.n
 |none=>true
def Ih:Op->List Operand
 | .move x | .assign x | .box _ x | .load _ x | .nilCheck x | .unOp _ _ x | .convert _ _ x | .fieldAddr _ x _ | .field _ x _ | .extract x _=>[x]
 | .pick c a b=>[c,a,b]
 | .build _ ps | .buildSlice _ _ ps=>ps.toList.map (·.2)
 | .store _ a v | .binOp _ _ a v _ | .makeSlice _ a v | .indexAddr _ a v | .index _ a v | .lookup _ a v _=>[a,v]
 | .makeFunc _ first captured=>first.toList++captured.toList
 | .slice _ x l h m=>x::(l.toList++h.toList++m.toList)
 | .call c=>(match c.callee with | .value f=>[f] | .invoke r _=>[r] | .builtin _=>[])++c.args.toList
 |_=>[]
def FH:List Operand->List Tmp
 | []=>[]
 | .tmp t::l=>t::FH l
 |_::l=>FH l
def looks(gX:Array Oper)(o:Oper):List Tmp:=FH (Ih o.op)++(match o.guard with
 |some (g,_)=>((gX[g]?).bind (·.dst)).toList
 |none=>[])
def sy(P:Program)(K:World->Prop)(T:List TI)(O:qB)(gX:Array Oper)(σ:PS)(o:Oper):Option kO:=
 if w9 σ o.dst then match AS gX σ o with
  |some true=>match vE P K T O σ o with
   |some u=>some { u with rd:=(looks gX o).map σ.get }
   |none=>none
  |some false=>some { r:=.e (.v (.tuple #[])),rd:=(looks gX o).map σ.get }
  |none=>none
 else none
def Od(l:List Nat)(n:Nat):Bool:=l.any (Nat.beq n)
def rp.id:rp->Option Nat
 | .none=>Option.none
 | .new i _ | .wH i _ | .r7 i _ | .vK i _ | .fin i | .sj i _ _ | .B6 i _=>some i
def rp.Dg:rp->Bool
 | .sj ..=>true
 | .B6 ..=>true
 |_=>false
def As:rp->PV->Bool
 | .r7 id _,.own i=>!Nat.beq i id
 | .r7 id _,.nF i _ _ _=>!Nat.beq i id
 | .r7 id _,.pI _ cap=>!cap.any (CV.Hg id)
 | .vK id _,.iN i _=>!Nat.beq i id
 | .vK id _,.rF i _ _ _ _=>!Nat.beq i id
 | .fin id,p=>!p.mo.any (Nat.beq id)
 |_,_=>true
def Fc(l:List Nat):Option Nat->Bool
 |some d=>!Od l d
 |none=>true
def Ma:Option Nat->Option Nat->Bool
 |some a,some b=>!Nat.beq a b
 |_,_=>true
def PY:PV->Bool
 | .e .any=>false
 |_=>true
def De(gX:Array Oper)(x y:Oper×kO):Bool:=
 Fc (looks gX y.1) x.1.dst&&Ma x.1.dst y.1.dst&&Fc (looks gX x.1) y.1.dst &&
 Fc y.2.rb x.2.f.id&&Fc x.2.rb y.2.f.id&&Ma x.2.f.id y.2.f.id&&As x.2.f y.2.r&&As y.2.f x.2.r &&
 (!x.2.f.Mg||y.2.rd.all PY)&&x.2.rd.all (As y.2.f) && !x.2.f.Dg && !y.2.f.Dg
def Df(o:Oper)(i:Nat):Bool:=o.after.toList.any λe=>Region.binds .any e&&Nat.beq e.on i
def B2(gX:Array Oper):Nat->Oper->Nat->Bool
 | 0,o,i=>Df o i
 |n+1,o,i=>Df o i||o.after.toList.any λe=>Region.binds .any e&&(match gX[e.on]? with
  |some z=>B2 gX n z i
  |none=>false)
def Fj(gX:Array Oper):Nat->List (Oper×kO)->Bool
 |_,[]=>true
 |i,x::l=>x.1.after.toList.all (λe=>!Region.binds .any e||Nat.blt e.on i)&&l.all (λy=>B2 gX 3 y.1 i||De gX x y)&&Fj gX (i+1) l
def IM(σ:PS):PV->Option E
 | .e x=>if x.nr 3 then some x else none
 | .own id=>match σ.bo id with
  |some (.row nl _ n sz el)=>some (.sl nl n sz el)
  |some (.jR nl _ _ n sz len el none)=>some (.sl true n 1 λk _=>.sl nl (len k) sz (el k))
  |_=>none
 | .iN id k=>match σ.bo id with
  |some (.jR nl _ _ n sz len el none)=>if Nat.blt k n then some (.sl nl (len k) sz (el k))else none
  |_=>none
 |_=>none
def QF(T:List TI)(σ:PS):ResultVar->Option E
 | .tmp t=>IM σ (σ.get t)
 | .cell a t=>match mU T t with
  |some ti=>match σ.read (σ.get a) ti.i.size with
   |some (l,_,[])=>if ti.isAgg then(if(E.agg l).nr 3 then some (.agg l)else none)else match l with
    | [e]=>if e.nr 3 then some e else none
    |_=>none
   |_=>none
  |none=>none
def Fu(T:List TI)(σ:PS):List ResultVar->Option (List E)
 | []=>some []
 |x::l=>match QF T σ x,Fu T σ l with
  |some e,some es=>some (e::es)
  |_,_=>none
def LC(T:List TI)(fn:Func)(σ:PS):Option E:=match Fu T σ fn.results.toList with
 |some [e]=>some e
 |some l=>some (.iw l)
 |none=>none
inductive Ex where
 |normal
 |exit (id:Nat)
 |ret
def Gp:Code->Nat
 | .region id _ _=>id
 | .seq a _=>Gp a
 | .cond _ a _=>Gp a
 | .block _ b=>Gp b
 | .loop b=>Gp b
 |_=>0
def He:Nat->List E->List (Nat×PV)
 |_,[]=>[]
 |i,x::l=>(i,.e x)::He (i+1) l
def BH(fn:Func)(nl:Bool)(args:List E):PS:={ n:=fn.ntmps,nl:=nl,t:=He 0 args,b:=[] }
def lg{a b:Nat}:Nat.beq a b=true↔a=b:=⟨Nat.eq_of_beq_eq_true,λh=>by subst h;exact cD a⟩
def cS{a b:Nat}(h:a≠b):Nat.beq a b=false:=by
 cases hb:Nat.beq a b with
 |false=>rfl
 |true=>exact absurd (lg.1 hb) h
def ve{α:Type}(k:Nat)(x:α)(l:List (Nat×α))(t:Nat):look ((k,x)::l) t=if k=t then some x else look l t:=by
 by_cases h:k=t
 .subst h;simp[look]
 .simp [look,h,cS h]
def Hs{α:Type}(l:List (Nat×α))(d t:Nat)(h:d≠t):look (l.filter λx=>!Nat.beq x.1 d) t=look l t:=by
 induction l with
 |nil=>rfl
 |cons y l ih=>
  obtain⟨k,x⟩:=y;rw[List.filter_cons];by_cases hk:k=d
  .subst hk;simp only[cD,fo,bK,bC];rw[ih,ve,bj h]
  .simp only[cS hk,ew,bJ];rw[ve,ve,ih]
def XJ{α:Type}(l:List (Nat×α))(f:α->α)(t:Nat):look (l.map λx=>(x.1,f x.2)) t=(look l t).map f:=by
 induction l with
 |nil=>rfl
 |cons y l ih=>
  obtain⟨k,x⟩:=y;rw[ey,ve,ve,ih];split<;>rfl
def PS.NH(σ:PS)(d:Nat)(p:PV)(t:Nat):(σ.put (some d) p).get t=if d=t then p else σ.get t:=by
 unfold PS.get PS.put;simp only[ve];by_cases h:d=t
 .rw [bk h,bk h];rfl
 .rw [bj h,bj h,Hs _ _ _ h]
def PS.adk(σ:PS)(d:Option Tmp)(p:PV)(id:Nat):(σ.put d p).bo id=σ.bo id:=by cases d<;>rfl
def PS.PN(σ:PS)(d:Option Tmp)(p:PV):(σ.put d p).n=σ.n:=by cases d<;>rfl
def PS.ak1(σ:PS)(d:Option Tmp)(p:PV):(σ.put d p).nl=σ.nl:=by cases d<;>rfl
def Dr(l:List (Nat×Bx))(id:Nat)(b:Bx)(t:Nat):look (uG l id b) t=if id=t then some b else look l t:=by
 unfold uG;rw[ve];by_cases h:id=t
 .rw [bk h,bk h]
 .rw [bj h,bj h,Hs _ _ _ h]
def XI{α:Type}(l:List (Nat×α))(d:Nat):look (l.filter λx=>!Nat.beq x.1 d) d=none:=by
 induction l with
 |nil=>rfl
 |cons y l ih=>
  obtain⟨k,x⟩:=y;rw[List.filter_cons];by_cases hk:k=d
  .subst hk;simpa only[cD,fo,bK,bC]using ih
  .simp only[cS hk,ew,bJ];rw[ve,bj hk,ih]
def Dq{α:Type}(l:List (Nat×α))(i id:Nat):look (l.filter λx=>!Nat.beq x.1 i) id=if i=id then none else look l id:=by
 by_cases h:i=id
 .subst h;rw[bk rfl];exact XI _ _
 .rw [bj h];exact Hs _ _ _ h
def PS.CG(σ:PS)(f:rp)(t:Nat):(σ.oo f).get t=(σ.get t).nG f:=by
 unfold PS.get PS.oo;by_cases h:f.Mg=true
 .simp only[h,bJ];rw[XJ];cases look σ.t t with
  |none=>cases f<;>rfl
  |some p=>rfl
 .have hv:∀ p:PV,p.nG f=p:=by
   intro p;cases f<;>first|exact absurd rfl h|(cases p<;>rfl)
  simp only[h,hv];rfl
def RL(bs br:Nat->Prop)(L:Lk)(w:World)(id:Nat)(nl:Bool)(T1 T0:TypeId)(n sz:Nat)(len:Nat->Nat)(el:Nat->Nat->Nat->E)(pend:Option Nat):Prop:=∃ (b c:Nat) (cur:Array Value) (f:Nat->Nat->Nat->Value),L.val id = .slice (some ⟨b,0,none⟩) n c/\w.heap[b]? = some (.cells cur T1 (0,0))/\n<=c/\c<=maxLen/\cur.size=c /\
 (∀ k,k<n->pend≠some k->cur[k]? = some (L.iN id k))/\(∀ u,u ∈ cur->rf u=false) /\
 (∀ k,k<n->oi w (L.iN id k) T0 (len k) sz (f k) nl/\∀ i j,i<len k->j<sz->iD bs br w (el k i j) (f k i j)/\(el k i j).nr 2=true) /\
 (∀ x,L.own id x↔x=b\/∃ k,k<n/\(L.iN id k).ownBlock=some x) /\
 (∀ k k' x,k<n->k'<n->(L.iN id k).ownBlock=some x->(L.iN id k').ownBlock=some x->k=k')/\(∀ k,k<n->(L.iN id k).ownBlock≠some b)
def rn(bs br:Nat->Prop)(L:Lk)(w:World)(id:Nat):Bx->Prop
 | .cells T l=>∃ b vs,L.val id = .pointer (some ⟨b,0,none⟩)/\(∀ x,L.own id x↔x=b)/\w.heap[b]? = some (.cells vs.toArray T (0,0))/\kr bs br w l vs/\∀ u,u ∈ vs->u.oneCell'=true
 | .row nl T n sz el=>∃ f:Nat->Nat->Value,oi w (L.val id) T n sz f nl/\(∀ x,L.own id x↔(L.val id).ownBlock=some x)/\∀ i j,i<n->j<sz->iD bs br w (el i j) (f i j)/\(el i j).nr 2=true
 | .jR nl T1 T0 n sz len el pend=>(L.val id = .slice none 0 0/\n=0/\∀ x,¬L.own id x)\/RL bs br L w id nl T1 T0 n sz len el pend
def rn.xr{bs br:Nat->Prop}{L:Lk}{w:World}{id:Nat}{nl:Bool}{T1 T0 n sz:Nat}{len:Nat->Nat}{el:Nat->Nat->Nat->E}{pend:Option Nat}(h:rn bs br L w id (.jR nl T1 T0 n sz len el pend))(hn:0<n):
 RL bs br L w id nl T1 T0 n sz len el pend:=by
 rcases h with⟨_,h,_⟩|h
 .omega
 .exact h
structure jd(w0:World)(B:Nat->Prop)(σ:PS)(a:Act)(w:World)(L:Lk):Prop where
 hd:a.defers=[]
 hs:a.tmps.size=σ.n
 ht:∀ t,nI (jl B L) (jJ L) L w (σ.get t) (a.tmps.getD t undef)
 hb:∀ id b,σ.bo id=some b->rn (jl B L) (jJ L) L w id b
 hv:∀ id,L.mP id↔(σ.bo id).isSome=true
 hn:∀ id x,L.own id x->L.mP id
 hw:∀ id x,L.own id x->w0.heap.size<=x/\x<w.heap.size
 hi:∀ id id' x,L.own id x->L.own id' x->id=id'
 he:Below w0.heap.size w0 w
 hl:σ.nl=true->∀ id b,σ.bo id=some b->b.nl=true
structure sL(L:Lk)(w:World)(L':Lk)(w':World):Prop where
 size:w.heap.size<=w'.heap.size
 jJ:∀ x,x<w.heap.size->Pu.jJ L' x->Pu.jJ L x
 pr:∀ x,x<w.heap.size->¬Pu.jJ L x->w'.heap[x]? = w.heap[x]?
def sL.kT{B:Nat->Prop}{L L':Lk}{w w':World}(h:sL L w L' w'){e:E}{v:Value}(k:iD (jl B L) (Pu.jJ L) w e v):iD (jl B L') (Pu.jJ L') w' e v:=by
 refine k.mono h.size (λb hb hx=>?_) (λb hb hx=>h.jJ b hb hx) (λb hb w7=>h.pr b hb ?_)
 .rcases hx with hx|hx
  .exact .inl hx
  .exact .inr (h.jJ b hb hx)
 .rcases w7 with w7|w7
  .exact λhm=>w7 (.inr hm)
  .exact w7
def oi.block{w w':World}{v:Value}{T:TypeId}{n sz:Nat}{f:Nat->Nat->Value}{nl:Bool}(h:oi w v T n sz f nl)
 (hk:∀ x,v.ownBlock=some x->w'.heap[x]? = w.heap[x]?):oi w' v T n sz f nl:=by
 rcases h with h|⟨b,c,cur,rfl,hg,r⟩
 .exact .inl h
 .exact .inr ⟨b,c,cur,rfl,by rw[hk b rfl];exact hg,r⟩
def rn.later{B:Nat->Prop}{L L':Lk}{w w':World}(h:sL L w L' w'){id:Nat}{b:Bx}(k:rn (jl B L) (jJ L) L w id b)
 (hv:L'.val id=L.val id) (ho:∀ x,L'.own id x↔L.own id x) (lO:∀ j,L'.iN id j=L.iN id j) (hk:∀ x,L.own id x->w'.heap[x]? = w.heap[x]?):rn (jl B L') (jJ L') L' w' id b:=by
 cases b with
 |cells T l=>
  obtain⟨b,vs,h1,h2,h3,h4,h5⟩:=k;exact⟨b,vs,by rw[hv];exact h1,λx=>(ho x).trans (h2 x),by rw[hk b ((h2 b).2 rfl)];exact h3,h4.mono λ_ _=>h.kT,h5⟩
 |row nl T n sz el=>
  obtain⟨f,h1,h2,h3⟩:=k;exact⟨f,by rw[hv];exact h1.block λx hx=>hk x ((h2 x).2 hx),λx=>by rw[ho,hv];exact h2 x,λi j hi hj=>⟨h.kT (h3 i j hi hj).1,(h3 i j hi hj).2⟩⟩
 |jR nl T1 T0 n sz len el pend=>
  rcases k with⟨h1,h2,h3⟩|k
  .exact .inl ⟨by rw[hv];exact h1,h2,λx hx=>h3 x ((ho x).1 hx)⟩
  obtain⟨b,c,cur,f,h1,h2,h3,h4,h5,h6,h7,h8,h9,qF,sP⟩:=k;have e:L'.iN id=L.iN id:=funext lO;refine .inr ⟨b,c,cur,f,by rw[hv];exact h1,by rw[hk b ((h9 b).2 (.inl rfl))];exact h2,h3,h4,h5,by rw[e];exact h6,h7,?_,?_,by rw[e];exact qF,by rw[e];exact sP⟩
  .intro k Ku;obtain⟨q1,q2⟩:=h8 k Ku;rw[e];exact⟨q1.block λx hx=>hk x ((h9 x).2 (.inr ⟨k,Ku,hx⟩)),λi j hi hj=>⟨h.kT (q2 i j hi hj).1,(q2 i j hi hj).2⟩⟩
  .intro x;rw[ho,e];exact h9 x
def xy.later{B:Nat->Prop}{L L':Lk}{w w':World}(h:sL L w L' w'){c:CV}{v:Value}(k:xy (jl B L) (jJ L) L w c v)
 (hv:∀ id,L.mP id->L'.mP id/\L'.val id=L.val id):xy (jl B L') (jJ L') L' w' c v:=by
 cases c with
 |e x=>exact h.kT k
 |box id=>obtain⟨k1,b,k2,k3⟩:=k;exact⟨(hv id k1).1,b,by rw[(hv id k1).2];exact k2,k3⟩
 |row id=>obtain⟨k1,b,n,c,k2,k3⟩:=k;exact⟨(hv id k1).1,b,n,c,by rw[(hv id k1).2];exact k2,k3⟩
def nI.later{B:Nat->Prop}{L L':Lk}{w w':World}(h:sL L w L' w'){p:PV}{v:Value}(k:nI (jl B L) (jJ L) L w p v)
 (hv:∀ id,L.mP id->L'.mP id/\L'.val id=L.val id/\∀ j,L'.iN id j=L.iN id j):nI (jl B L') (jJ L') L' w' p v:=by
 cases p with
 |e x=>exact h.kT k
 |box id off=>obtain⟨k1,b,k2,k3⟩:=k;exact⟨(hv id k1).1,b,by rw[(hv id k1).2.1];exact k2,k3⟩
 |own id=>obtain⟨k1,k2⟩:=k;exact⟨(hv id k1).1,by rw[(hv id k1).2.1];exact k2⟩
 |nF id sz i j=>obtain⟨k1,b,n,c,k2,k3⟩:=k;exact⟨(hv id k1).1,b,n,c,by rw[(hv id k1).2.1];exact k2,k3⟩
 |iN id q=>obtain⟨k1,k2⟩:=k;exact⟨(hv id k1).1,by rw[(hv id k1).2.2];exact k2⟩
 |rF id sz q i j=>obtain⟨k1,b,n,c,k2,k3⟩:=k;exact⟨(hv id k1).1,b,n,c,by rw[(hv id k1).2.2];exact k2,k3⟩
 |pI f cap=>
  obtain⟨vs,k1,k2,k3⟩:=k;exact⟨vs,k1,k2,λi c x hc hx=>(k3 i c x hc hx).later h λid hl=>⟨(hv id hl).1,(hv id hl).2.1⟩⟩
def jd.later{w0:World}{B:Nat->Prop}{σ:PS}{a:Act}{w w':World}{L:Lk}(r:jd w0 B σ a w L)(h:Below w.heap.size w w'):jd w0 B σ a w' L:=by
 have hl:sL L w L w':=⟨h.size,λ_ _ h=>h,λx hx _=>h.block x hx⟩
 refine⟨r.hd,r.hs,λt=>(r.ht t).later hl λid k=>⟨k,rfl,λ_=>rfl⟩,λid b hb=>(r.hb id b hb).later hl rfl (λ_=>Iff.rfl) (λ_=>rfl) λx hx=>h.block x (r.hw id x hx).2,r.hv,r.hn,
  λid x hx=>⟨(r.hw id x hx).1,bV (r.hw id x hx).2 h.size⟩,r.hi,r.he.trans (h.mono r.he.size),r.hl⟩
def jd.drew{w0:World}{B:Nat->Prop}{σ:PS}{a:Act}{w:World}{L:Lk}(r:jd w0 B σ a w L):jd w0 B σ a w.drew L:=r.later (Below.refl _ _).drew
def jd.put{w0:World}{B:Nat->Prop}{σ:PS}{a:Act}{w:World}{L:Lk}(r:jd w0 B σ a w L)(d:Option Tmp)(p:PV)(v:Value)(hd:w9 σ d=true)(hp:nI (jl B L) (jJ L) L w p v):jd w0 B (σ.put d p) (a.put d v) w L:=by
 cases d with
 |none=>exact r
 |some d=>
  have CO:d<σ.n:=by simpa[w9,fY]using hd
  refine⟨r.hd,by simp[Act.put,r.hs,PS.PN],λt=>?_,λid b hb=>r.hb id b hb,r.hv,r.hn,r.hw,r.hi,r.he,r.hl⟩;rw[PS.NH];by_cases h:d=t
  .subst h;rw[bk rfl];have:(a.put (some d) v).tmps.getD d undef=v:=by
    simp[Act.put,Array.getElem?_setIfInBounds,r.hs,CO]
   rw[this];exact hp
  .rw [bj h];have:(a.put (some d) v).tmps.getD t undef=a.tmps.getD t undef:=by
    simp[Act.put,aqU h]
   rw[this];exact r.ht t
def jd.op{w0:World}{B:Nat->Prop}{σ:PS}{a:Act}{w:World}{L:Lk}(r:jd w0 B σ a w L)(x:Operand):nI (jl B L) (jJ L) L w (σ.op x) (a.eval x):=by
 cases x with
 |tmp t=>exact r.ht t
 |const v=>exact .v v
 |global g=>exact .v _
 |func f=>exact .fn f [] [] rfl (λi p x h=>by simp at h)
def Lk.set(L:Lk)(id:Nat)(O:Nat->Prop)(v:Value)(iN:Nat->Value):Lk:=
 {mP:=λi=>i=id\/L.mP i
  own:=λi x=>if i=id then O x else L.own i x
  val:=λi=>if i=id then v else L.val i
  iN:=λi=>if i=id then iN else L.iN i }
section
variable {L:Lk} {id:Nat} {O:Nat->Prop} {v:Value} {iN:Nat->Value}
def Lk.tU(x:Nat):(L.set id O v iN).own id x↔O x:=by simp[Lk.set]
def Lk.pX:(L.set id O v iN).val id=v:=by simp[Lk.set]
def Lk.sU(k:Nat):(L.set id O v iN).iN id k=iN k:=by simp[Lk.set]
def Lk.Cb:(L.set id O v iN).mP id:=.inl rfl
def Lk.Cc{i:Nat}(h:i≠id)(x:Nat):(L.set id O v iN).own i x↔L.own i x:=by simp[Lk.set,h]
def Lk.AH{i:Nat}(h:i≠id):(L.set id O v iN).val i=L.val i:=by simp[Lk.set,h]
def Lk.FB{i:Nat}(h:i≠id)(k:Nat):(L.set id O v iN).iN i k=L.iN i k:=by simp[Lk.set,h]
end
structure sw(L:Lk)(w:World)(id:Nat)(O:Nat->Prop)(w':World):Prop where
 own:∀ x,O x->(L.own id x\/w.heap.size<=x)/\x<w'.heap.size
 size:w.heap.size<=w'.heap.size
 pr:∀ x,x<w.heap.size->¬L.own id x->w'.heap[x]? = w.heap[x]?
 os:w'.os=w.os
 tape:w'.tape=w.tape
 output:w'.output=w.output
def sw.later{L:Lk}{w:World}{id:Nat}{O:Nat->Prop}{w':World}(h:sw L w id O w')(v:Value)(iN:Nat->Value):sL L w (L.set id O v iN) w':=by
 refine⟨h.size,λx hx hm=>?_,λx hx hm=>h.pr x hx λho=>hm ⟨id,ho⟩⟩;obtain⟨i,hi⟩:=hm;by_cases e:i=id
 .subst e;rcases(h.own x ((Lk.tU x).1 hi)).1 with k|k
  .exact ⟨i,k⟩
  .omega
 .exact ⟨i,(Lk.Cc e x).1 hi⟩
def jd.set{w0:World}{B:Nat->Prop}{σ:PS}{a:Act}{w:World}{L:Lk}(r:jd w0 B σ a w L)(id:Nat)(b':Bx)(O:Nat->Prop)(v:Value)(iN:Nat->Value)(w':World)(f:rp)
 (hf:f.MM σ.b=uG σ.b id b') (ht:sw L w id O w')
 (hB:rn (jl B (L.set id O v iN)) (jJ (L.set id O v iN)) (L.set id O v iN) w' id b')
 (hT:∀ p v0,nI (jl B L) (jJ L) L w p v0->nI (jl B (L.set id O v iN)) (jJ (L.set id O v iN)) (L.set id O v iN) w' (p.nG f) v0)
 (jL:σ.nl=true->b'.nl=true):jd w0 B (σ.oo f) a w' (L.set id O v iN):=by
 have hl:=ht.later v iN;have jg:∀ i,(σ.oo f).bo i=if id=i then some b' else σ.bo i:=by
  intro i;show look (f.MM σ.b) i=_;rw[hf,Dr];rfl
 have Bs:Below w0.heap.size w w':=⟨ht.os,ht.tape,ht.output,ht.size,λx hx=>ht.pr x (bV hx r.he.size) λho=>by have:=(r.hw id x ho).1;omega⟩
 refine⟨r.hd,r.hs,λt=>?_,λi b hb=>?_,λi=>?_,λi x hx=>?_,λi x hx=>?_,λi j x hi hj=>?_,r.he.trans Bs,λyY i b hb=>?_⟩
 .rw [PS.CG];exact hT _ _ (r.ht t)
 .rw [jg]at hb;by_cases e:id=i
  .subst e;rw[bk rfl]at hb;cases hb;exact hB
  .rw [bj e]at hb;have e':i≠id:=λh=>e h.symm
   exact(r.hb i b hb).later hl (Lk.AH e') (Lk.Cc e') (Lk.FB e') λx hx=>ht.pr x (r.hw i x hx).2 λho=>e (r.hi id i x ho hx)
 .rw [jg];by_cases e:id=i
  .subst e;rw[bk rfl];simp[Lk.set]
  .rw [bj e];have e':i≠id:=λh=>e h.symm
   simp only[Lk.set,e',false_or];exact r.hv i
 .by_cases e:i=id
  .exact .inl e
  .exact .inr (r.hn i x ((Lk.Cc e x).1 hx))
 .by_cases e:i=id
  .subst e;obtain⟨k1,k2⟩:=ht.own x ((Lk.tU x).1 hx);refine⟨?_,k2⟩;rcases k1 with k1|k1
   .exact (r.hw i x k1).1
   .exact bA r.he.size k1
  .have:=r.hw i x ((Lk.Cc e x).1 hx);exact⟨this.1,bV this.2 ht.size⟩
 .by_cases e1:i=id
  .by_cases e2:j=id
   .rw [e1,e2]
   .have k2:=(Lk.Cc e2 x).1 hj;subst e1;rcases(ht.own x ((Lk.tU x).1 hi)).1 with k|k
    .exact r.hi _ _ x k k2
    .have:=(r.hw j x k2).2;omega
  .have k1:=(Lk.Cc e1 x).1 hi;by_cases e2:j=id
   .subst e2;rcases(ht.own x ((Lk.tU x).1 hj)).1 with k|k
    .exact r.hi _ _ x k1 k
    .have:=(r.hw i x k1).2;omega
   .exact r.hi _ _ x k1 ((Lk.Cc e2 x).1 hj)
 .rw [jg]at hb;by_cases e:id=i
  .rw [bk e]at hb;cases hb;exact jL yY
  .rw [bj e]at hb;exact r.hl yY i b hb
def jd.new{w0:World}{B:Nat->Prop}{σ:PS}{a:Act}{w:World}{L:Lk}(r:jd w0 B σ a w L)(id:Nat)(b':Bx)(O:Nat->Prop)(v:Value)(iN:Nat->Value)(w':World)
 (kE:σ.bo id=none) (hO:∀ x,O x->w.heap.size<=x/\x<w'.heap.size) (hb:Below w.heap.size w w')
 (hB:rn (jl B (L.set id O v iN)) (jJ (L.set id O v iN)) (L.set id O v iN) w' id b')
 (jL:(!σ.nl||b'.nl)=true):jd w0 B (σ.oo (.new id b')) a w' (L.set id O v iN):=by
 have VR:¬L.mP id:=λh=>by have:=(r.hv id).1 h;rw[kE]at this;simp at this
 have ht:sw L w id O w':=⟨λx hx=>⟨.inr (hO x hx).1,(hO x hx).2⟩,hb.size,λx hx _=>hb.block x hx,hb.os,hb.tape,hb.output⟩
 refine r.set id b' O v iN w' (.new id b') rfl ht hB (λp v0 hp=>?_) (λh=>by simpa[h]using jL);have ju:∀ {i},L.mP i->i≠id:=λh e=>VR (e▸h)
 have:p.nG (.new id b')=p:=by cases p<;>rfl
 rw[this];exact hp.later (ht.later v iN) λi hi=>⟨.inr hi,Lk.AH (ju hi),λj=>Lk.FB (ju hi) j⟩
def jd.wH{w0:World}{B:Nat->Prop}{σ:PS}{a:Act}{w:World}{L:Lk}(r:jd w0 B σ a w L)(id:Nat)(b':Bx)(w':World)
 (s6:L.mP id) (ht:sw L w id (L.own id) w')
 (hB:rn (jl B (L.set id (L.own id) (L.val id) (L.iN id))) (jJ (L.set id (L.own id) (L.val id) (L.iN id))) (L.set id (L.own id) (L.val id) (L.iN id)) w' id b')
 (jL:σ.nl=true->b'.nl=true):jd w0 B (σ.oo (.wH id b')) a w' (L.set id (L.own id) (L.val id) (L.iN id)):=by
 refine r.set id b' _ _ _ w' (.wH id b') rfl ht hB (λp v0 hp=>?_) jL;have:p.nG (.wH id b')=p:=by cases p<;>rfl
 rw[this];refine hp.later (ht.later _ _) λi hi=>⟨.inr hi,?_,λj=>?_⟩
 .by_cases e:i=id
  .subst e;exact Lk.pX
  .exact Lk.AH e
 .by_cases e:i=id
  .subst e;exact Lk.sU j
  .exact Lk.FB e j
def jd.r7{w0:World}{B:Nat->Prop}{σ:PS}{a:Act}{w:World}{L:Lk}(r:jd w0 B σ a w L)(id:Nat)(b':Bx)(O:Nat->Prop)(v:Value)(w':World)
 (hp:∀ b,L.val id ≠ .pointer (some b)) (ht:sw L w id O w')
 (hB:rn (jl B (L.set id O v (L.iN id))) (jJ (L.set id O v (L.iN id))) (L.set id O v (L.iN id)) w' id b')
 (jL:σ.nl=true->b'.nl=true):jd w0 B (σ.oo (.r7 id b')) a w' (L.set id O v (L.iN id)):=by
 have hl:=ht.later v (L.iN id);refine r.set id b' O v (L.iN id) w' (.r7 id b') rfl ht hB (λp v0 qY=>?_) jL;have Bz:∀ i j,(L.set id O v (L.iN id)).iN i j=L.iN i j:=λi j=>by
  by_cases e:i=id
  .subst e;exact Lk.sU j
  .exact Lk.FB e j
 cases p with
 |e x=>exact hl.kT qY
 |box i off=>
  obtain⟨k1,b,k2,k3⟩:=qY;have e:i≠id:=λe=>by subst e;exact hp _ k2
  exact⟨.inr k1,b,by rw[Lk.AH e];exact k2,k3⟩
 |own i=>
  by_cases e:i=id
  .subst e;simp only[PV.nG,cD,bJ];exact .any _
  .simp only[PV.nG,cS e,bK,bC];exact⟨.inr qY.1,by rw[Lk.AH e];exact qY.2⟩
 |nF i s x j=>
  by_cases e:i=id
  .subst e;simp only[PV.nG,cD,bJ];exact .any _
  .simp only[PV.nG,cS e,bK,bC];obtain⟨k1,b,n,c,k2,k3⟩:=qY;exact⟨.inr k1,b,n,c,by rw[Lk.AH e];exact k2,k3⟩
 |iN i k=>exact⟨.inr qY.1,by rw[Bz];exact qY.2⟩
 |rF i s k x j=>obtain⟨k1,b,n,c,k2,k3⟩:=qY;exact⟨.inr k1,b,n,c,by rw[Bz];exact k2,k3⟩
 |pI f cap=>
  cases pQ:cap.any (CV.Hg id)with
  |true=>simp only[PV.nG,pQ,bJ];exact .any _
  |false=>
   simp only[PV.nG,pQ,bK,bC];obtain⟨vs,k1,k2,k3⟩:=qY;refine⟨vs,k1,k2,λi c x hc hx=>?_⟩;have hk:=k3 i c x hc hx;cases c with
   |e y=>exact hl.kT hk
   |box q=>
    obtain⟨q1,b,q2,q3⟩:=hk;have e:q≠id:=λe=>by subst e;exact hp _ q2
    exact⟨.inr q1,b,by rw[Lk.AH e];exact q2,q3⟩
   |row q=>
    obtain⟨q1,b,n,c,q2,q3⟩:=hk;have e:q≠id:=λe=>by
     have:=dp.1 pQ (.row q) (dR hc);subst e;simp[CV.Hg]at this
    exact⟨.inr q1,b,n,c,by rw[Lk.AH e];exact q2,q3⟩
def jd.vK{w0:World}{B:Nat->Prop}{σ:PS}{a:Act}{w:World}{L:Lk}(r:jd w0 B σ a w L)(id:Nat)(b':Bx)(O:Nat->Prop)(iN:Nat->Value)(w':World)
 (ht:sw L w id O w')
 (hB:rn (jl B (L.set id O (L.val id) iN)) (jJ (L.set id O (L.val id) iN)) (L.set id O (L.val id) iN) w' id b')
 (jL:σ.nl=true->b'.nl=true):jd w0 B (σ.oo (.vK id b')) a w' (L.set id O (L.val id) iN):=by
 have hl:=ht.later (L.val id) iN;refine r.set id b' O (L.val id) iN w' (.vK id b') rfl ht hB (λp v0 qY=>?_) jL;have jQ:∀ i,(L.set id O (L.val id) iN).val i=L.val i:=λi=>by
  by_cases e:i=id
  .subst e;exact Lk.pX
  .exact Lk.AH e
 cases p with
 |e x=>exact hl.kT qY
 |box i off=>obtain⟨k1,b,k2,k3⟩:=qY;exact⟨.inr k1,b,by rw[jQ];exact k2,k3⟩
 |own i=>exact⟨.inr qY.1,by rw[jQ];exact qY.2⟩
 |nF i s x j=>obtain⟨k1,b,n,c,k2,k3⟩:=qY;exact⟨.inr k1,b,n,c,by rw[jQ];exact k2,k3⟩
 |iN i k=>
  by_cases e:i=id
  .subst e;simp only[PV.nG,cD,bJ];exact .any _
  .simp only[PV.nG,cS e,bK,bC];exact⟨.inr qY.1,by rw[Lk.FB e];exact qY.2⟩
 |rF i s k x j=>
  by_cases e:i=id
  .subst e;simp only[PV.nG,cD,bJ];exact .any _
  .simp only[PV.nG,cS e,bK,bC];obtain⟨k1,b,n,c,k2,k3⟩:=qY;exact⟨.inr k1,b,n,c,by rw[Lk.FB e];exact k2,k3⟩
 |pI f cap=>
  obtain⟨vs,k1,k2,k3⟩:=qY;refine⟨vs,k1,k2,λi c x hc hx=>(k3 i c x hc hx).later hl λj hj=>⟨.inr hj,jQ j⟩⟩
structure Mq(w:World)(v:Value)(T:TypeId)(n sz m:Nat)(f g:Nat->Nat->Value)(nl:Bool)(v':Value)(w':World):Prop where
 own:oi w' v' T (n+m) sz (λi j=>if i<n then f i j else g (i-n) j) nl
 F0:∀ x,v'.ownBlock=some x->v.ownBlock=some x\/(w.heap.size<=x/\x<w'.heap.size)
 size:w.heap.size<=w'.heap.size
 pr:∀ x,x<w.heap.size->v.ownBlock≠some x->w'.heap[x]? = w.heap[x]?
 os:w'.os=w.os
 tape:w'.tape=w.tape
 output:w'.output=w.output
def oQ(n sz:Nat)(f:Nat->Nat->Value):List Value:=(List.range (n*sz)).map λq=>f (q/sz) (q%sz)
def wS(n sz:Nat)(f:Nat->Nat->Value):(oQ n sz f).length=n*sz:=by simp[oQ]
def NB{n sz:Nat}{f:Nat->Nat->Value}{i j:Nat}(hi:i<n)(hj:j<sz):(oQ n sz f)[i*sz+j]? = some (f i j):=by
 have h1:i*sz+j<n*sz:=by
  have:=bW sz (show i+1<=n from hi);rw[b8,b9]at this;omega
 have h2:(i*sz+j)/sz=i:=by rw[bL,aqw aE,c9 hj,bY]
 have h3:(i*sz+j)%sz=j:=by rw[bL,fp,ca hj]
 simp[oQ,h1,h2,h3]
def J1{n sz:Nat}{f:Nat->Nat->Value}{q:Nat}{u:Value}(h:(oQ n sz f)[q]? = some u):q/sz<n/\q%sz<sz/\u=f (q/sz) (q%sz)/\q/sz*sz+q%sz=q:=by
 unfold oQ at h;rw[cF]at h;obtain⟨x,hx,rfl⟩:=cQ.1 h;obtain⟨h1,h2⟩:=cr.1 hx;simp at h1 h2;subst h2;have hz:0<sz:=by
  rcases ez sz with h0|h0
  .subst h0;simp at h1
  .exact h0
 exact⟨(cA hz).2 h1,bM _ hz,rfl,by rw[bL];exact cN q sz⟩
def oi.row{w:World}{v:Value}{T:TypeId}{n sz:Nat}{f:Nat->Nat->Value}{nl:Bool}(h:oi w v T n sz f nl):w.ownsRow 0 T sz v n (oQ n sz f):=by
 rcases h with⟨rfl,rfl⟩|⟨b,c,cur,rfl,hg,pj,oq,nC,ky,_⟩
 .exact ⟨wS _ _ _,.inl ⟨rfl,rfl⟩⟩
 .refine ⟨wS _ _ _,.inr ⟨b,c,cur,rfl,bS _,hg,pj,oq,nC,?_⟩⟩;apply fZ;intro q;by_cases hq:q<n*sz
  .have hz:0<sz:=by
    rcases ez sz with h0|h0
    .subst h0;simp at hq
    .exact h0
   have h1:q/sz<n:=(cA hz).2 hq;have h2:=bM q hz;have h3:q/sz*sz+q%sz=q:=by rw[bL];exact cN q sz
   have h4:=(ky _ _ h1 h2).1;have h5:=NB (f:=f) h1 h2;rw[h3]at h4 h5;rw[ev,bk hq,h5];simpa using h4
  .rw [ev,bj hq,ch (by rw[wS];omega)]
def ZX(P:Program)(w:World)(t ty e:TypeId)(i:TypeInfo)(z:Value)(sz:Nat)(ht:P.underlying t=some (.slice e))(hi:P.info? e=some i)(hz:i.zero=some z)
 (uj:i.size=sz) (WG:z.cells.size=sz) (lk:0<sz) (jx:1<=i.bytes) (aqc:∀ u,u ∈ z.cells->u.oneCell'=true)
 (v:Value) (n:Nat) (f:Nat->Nat->Value) (nl:Bool) (mc:oi w v e n sz f nl)
 (A:Option Addr) (m c:Nat) (g:Nat->Nat->Value) (hA:∀ k j,k<m->j<sz->∃ b o,A=some ⟨b,o,none⟩/\w.cell? ⟨b,o+(k*sz+j),none⟩=some (g k j)) (vL:A=none->m=0)
 (h1:∀ k j,k<m->j<sz->(g k j).oneCell'=true/\(nl=true->rf (g k j)=false)) (WE:nl=true->∀ u,u ∈ z.cells->rf u=false)
 (Ki:(n+m)*i.bytes<=140737488355328):
 ∃ v' w',(Builtin.append_ #[t,t] ty #[v,.slice A m c]).run P w = .ok v' w'/\Mq w v e n sz m f g nl v' w':=by
 have hle:n+m<=(n+m)*i.bytes:=gH _ jx;have NL:n+m<=maxLen:=by unfold maxLen;omega
 have yU:∀ i j,i<n+m->j<sz->(oQ n sz f++oQ m sz g)[i*sz+j]? = some (if i<n then f i j else g (i-n) j):=by
  intro i j hi hj;by_cases lO:i<n
  .rw [bk lO,dH,NB lO hj];rw[wS];have:=bW sz (show i+1<=n from lO);rw[b8,b9]at this;omega
  .rw [bj lO,fu,wS]
   .have:i*sz+j-n*sz=(i-n)*sz+j:=by
     have:=Nat.sub_mul i n sz;have:=bW sz (aE:n<=i);omega
    rw[this,NB aE hj]
   .rw [wS];have:=bW sz (aE:n<=i);omega
 have C1:∀ i j,i<n+m->j<sz->(if i<n then f i j else g (i-n) j).oneCell'=true:=by
  intro i j hi hj;split
  .rename_i lO;rcases mc with⟨_,h0⟩|⟨b,c,cur,_,_,_,_,_,hc,_⟩
   .omega
   .exact (hc i j lO hj).2
  .rename_i lO;exact(h1 (i-n) j aE hj).1
 have h1':∀ u ∈ oQ m sz g,u.oneCell'=true:=by
  intro u hu;obtain⟨q,hq⟩:=dC.1 hu;obtain⟨q1,q2,rfl,_⟩:=J1 hq;exact(h1 _ _ q1 q2).1
 have gnl:nl=true->∀ u,u ∈ oQ m sz g->rf u=false:=by
  intro hn u hu;obtain⟨q,hq⟩:=dC.1 hu;obtain⟨q1,q2,rfl,_⟩:=J1 hq;exact(h1 _ _ q1 q2).2 hn
 rcases A with _|ad
 .have hm:=vL rfl;subst hm;rcases mc with⟨rfl,rfl⟩|⟨b,cc,cur,rfl,hg,pj,oq,nC,ky,jL⟩
  .refine ⟨.slice none 0 0,w,?_,.inl ⟨rfl,rfl⟩,λx hx=>.inl hx,bu _,λ_ _ _=>rfl,rfl,rfl,rfl⟩;simp[Builtin.append_,run_underlying ht,sizeOf,typeInfo,hi,Builtin.lenOf,Builtin.firstCells,loadCells,loadCellsFrom]
  .refine ⟨.slice (some ⟨b,0,none⟩) n cc,w,?_,.inr ⟨b,cc,cur,rfl,hg,pj,oq,nC,?_,jL⟩,λx hx=>.inl hx,bu _,λ_ _ _=>rfl,rfl,rfl,rfl⟩
   .simp [Builtin.append_,run_underlying ht,sizeOf,typeInfo,hi,Builtin.lenOf,Builtin.firstCells,pj,storeCells]
   .intro i j hi hj;have lO:i<n:= aE ;simp only[lO,bJ];exact ky i j lO hj
 .have OF:∀ j u,(oQ m sz g)[j]? = some u->w.cell? (ad.add j)=some u:=by
   intro q u hq;obtain⟨q1,q2,rfl,q4⟩:=J1 hq;obtain⟨b,o,e,hc⟩:=hA _ _ q1 q2;cases e;rw[q4]at hc;rw[show(⟨b,o,none⟩:Addr).add q=⟨b,o+q,none⟩from Addr.add_lit _ _ _];exact hc
  rcases mc with⟨rfl,rfl⟩|⟨b,cc,cur,rfl,hg,pj,oq,nC,ky,jL⟩
  .by_cases hm:m=0
   .subst hm;refine⟨.slice none 0 0,w,?_,.inl ⟨rfl,rfl⟩,λx hx=>.inl hx,bu _,λ_ _ _=>rfl,rfl,rfl,rfl⟩;simp[Builtin.append_,run_underlying ht,sizeOf,typeInfo,hi,Builtin.lenOf,Builtin.firstCells,loadCells,loadCellsFrom]
   .have hr:=run_append_nil (P:=P) w t ty e i z ht hi hz ad m c (oQ m sz g) (by rw[wS,uj]) OF aE (by unfold maxLen at NL;omega) (by have hb:=Ki;simp only[cj]at hb;omega);have s5:=grownCap_ge w m 0 e;have oq:grownCap w m 0 e<=maxLen:=grownCap_le_maxLen w m 0 e aE;refine⟨_,_,hr,.inr ⟨w.heap.size,_,_,aK,heap_alloc_new w.drew _,aE,oq,?_,?_,?_⟩,λx hx=>.inr ?_,aK,λx hx _=>Below.heap_alloc w.drew _ x hx,rfl,rfl,rfl⟩
    .simp only[aqx,gh,size_zeroCells,WG,wS,<-b8];congr 1;omega
    .intro i j hi hj;have:=yU i j hi hj;refine⟨?_,C1 i j hi hj⟩;simp only[oQ,cM,List.range_zero,List.map_nil,List.nil_append]at this;rw[<-this,aqV]
     .simp [oQ]
     .obtain ⟨q,_⟩:=cr.1 this;simpa[oQ]using q
    .intro hn u hu;rcases fw.1 hu with hu|hu
     .exact gnl hn u (by simpa using hu)
     .simp only[Builtin.zeroCells,gj,gl]at hu;obtain⟨q,hq,rfl⟩:=hu;have iC:q%z.cells.size<z.cells.size:=bM _ aE;rw[fz z.cells _ iC];exact WE hn _ (gI iC)
    .simp [Value.ownBlock]at hx;subst hx;simp
  .by_cases OL:n+m<=cc
   .have Bw:(oQ m sz g).length=m*i.size:=by rw[wS,uj]
    have r9:n*i.size+(oQ m sz g).length<=cur.size:=by rw[Bw,nC,uj,<-b8];exact bW _ OL
    have hr:=run_append_room (P:=P) w t ty e i ht hi b n cc cur hg ad m c (oQ m sz g) Bw OF h1' OL r9;have G8:cur.toList.take (n*i.size)=oQ n sz f:=by
     have OM:w.ownsRow 0 e sz (.slice (some ⟨b,0,none⟩) n cc) n (oQ n sz f):=oi.row (nl:=nl) (.inr ⟨b,cc,cur,rfl,hg,pj,oq,nC,ky,jL⟩);rcases OM.2 with⟨hh,_⟩|⟨b',c',cur',hh,_,VT,_,_,_,G6⟩
     .cases hh
     .cases hh;rw[hg]at VT;cases VT;rw[uj];exact G6
    refine⟨_,_,hr,.inr ⟨b,cc,_,rfl,setRow_heap w b cur _ e _ hg,OL,oq,?_,?_,?_⟩,λx hx=>.inl hx,aK,λx hx ju=>setRow_other w b x _ (λq=>ju (by simp[Value.ownBlock,q])),rfl,rfl,rfl⟩
    .simp only[gh,cz,cw,eV,dD];omega
    .intro k j hk hj;refine⟨?_,C1 k j hk hj⟩;rw[G8,<-yU k j hk hj];have hq:k*sz+j<(oQ n sz f++oQ m sz g).length:=by
      obtain⟨q,_⟩:=cr.1 (yU k j hk hj);exact q
     rw[gJ,dH hq]
    .intro hn u hu;simp only[gK,dN]at hu;rcases hu with(hu|hu)|hu
     .exact jL hn u (by have:=eH hu;simpa using this)
     .exact gnl hn u hu
     .exact jL hn u (by have:=fi hu;simpa using this)
   .have OM:w.ownsRow 0 e sz (.slice (some ⟨b,0,none⟩) n cc) n (oQ n sz f):=oi.row (nl:=nl) (.inr ⟨b,cc,cur,rfl,hg,pj,oq,nC,ky,jL⟩);have holds:∀ j u,(oQ n sz f)[j]? = some u->w.cell? ((⟨b,0,none⟩:Addr).add j)=some u:=OM.cells (g:=b) rfl;have hr:=run_append_grow (P:=P) w t ty e i z ht hi hz ⟨b,0,none⟩ n cc (oQ n sz f) (by rw[wS,uj]) holds ad m c (oQ m sz g) (by rw[wS,uj]) OF aE (by unfold maxLen at NL;omega) (growslice_fits aE Ki);have s5:=grownCap_ge w (n+m) cc e;have ahU:grownCap w (n+m) cc e<=maxLen:=grownCap_le_maxLen w (n+m) cc e NL;refine⟨_,_,hr,.inr ⟨w.heap.size,_,_,aK,heap_alloc_new w.drew _,aE,ahU,?_,?_,?_⟩,λx hx=>.inr ?_,aK,λx hx _=>Below.heap_alloc w.drew _ x hx,rfl,rfl,rfl⟩
    .simp only[aqx,gh,size_zeroCells,WG,wS,<-b8];congr 1;omega
    .intro k j hk hj;refine⟨?_,C1 k j hk hj⟩;rw[<-yU k j hk hj];have hq:k*sz+j<(oQ n sz f++oQ m sz g).length:=by
      obtain⟨q,_⟩:=cr.1 (yU k j hk hj);exact q
     rw[aqV (by simpa using hq)];simp
    .intro hn u hu;rcases fw.1 hu with hu|hu
     .rcases fw.1 hu with hu|hu
      .obtain ⟨q,hq⟩:=dC.1 (show u ∈ oQ n sz f by simpa using hu);obtain⟨q1,q2,rfl,_⟩:=J1 hq;exact jL hn _ (dV (ky _ _ q1 q2).1)
      .exact gnl hn u (by simpa using hu)
     .simp only[Builtin.zeroCells,gj,gl]at hu;obtain⟨q,hq,rfl⟩:=hu;have iC:q%z.cells.size<z.cells.size:=bM _ aE;rw[fz z.cells _ iC];exact WE hn _ (gI iC)
    .simp [Value.ownBlock]at hx;subst hx;simp
def nI.move{B:Nat->Prop}{L L':Lk}{w w':World}(h:sL L w L' w'){p:PV}{v:Value}(k:nI (jl B L) (jJ L) L w p v)
 (hv:∀ id,id ∈ p.mo->L.mP id->L'.mP id/\L'.val id=L.val id/\∀ j,L'.iN id j=L.iN id j):nI (jl B L') (jJ L') L' w' p v:=by
 cases p with
 |e x=>exact h.kT k
 |box id off=>obtain⟨k1,b,k2,k3⟩:=k;have q:=hv id (by simp[PV.mo]) k1;exact⟨q.1,b,by rw[q.2.1];exact k2,k3⟩
 |own id=>obtain⟨k1,k2⟩:=k;have q:=hv id (by simp[PV.mo]) k1;exact⟨q.1,by rw[q.2.1];exact k2⟩
 |nF id sz i j=>obtain⟨k1,b,n,c,k2,k3⟩:=k;have q:=hv id (by simp[PV.mo]) k1;exact⟨q.1,b,n,c,by rw[q.2.1];exact k2,k3⟩
 |iN id r=>obtain⟨k1,k2⟩:=k;have q:=hv id (by simp[PV.mo]) k1;exact⟨q.1,by rw[q.2.2];exact k2⟩
 |rF id sz r i j=>obtain⟨k1,b,n,c,k2,k3⟩:=k;have q:=hv id (by simp[PV.mo]) k1;exact⟨q.1,b,n,c,by rw[q.2.2];exact k2,k3⟩
 |pI f cap=>
  obtain⟨vs,k1,k2,k3⟩:=k;refine⟨vs,k1,k2,λi c x hc hx=>?_⟩;have q:=k3 i c x hc hx;cases c with
  |e y=>exact h.kT q
  |box id=>
   obtain⟨q1,b,q2,q3⟩:=q;have r:=hv id (by simp only[PV.mo,dU];exact⟨.box id,dR hc,by simp[CV.mo]⟩) q1;exact⟨r.1,b,by rw[r.2.1];exact q2,q3⟩
  |row id=>
   obtain⟨q1,b,n,c,q2,q3⟩:=q;have r:=hv id (by simp only[PV.mo,dU];exact⟨.row id,dR hc,by simp[CV.mo]⟩) q1;exact⟨r.1,b,n,c,by rw[r.2.1];exact q2,q3⟩
def apf{id:Nat}{b:Bx}{p:PV}(h:p.mo.any (Nat.beq id)=false):p.nG (.r7 id b)=p:=by
 cases p with
 |own i=>
  have:Nat.beq i id=false:=by
   simp only[PV.mo,eA,gn,fA]at h;exact cS λe=>by rw[e,cD]at h;cases h
  simp[PV.nG,this]
 |nF i s x j=>
  have:Nat.beq i id=false:=by
   simp only[PV.mo,eA,gn,fA]at h;exact cS λe=>by rw[e,cD]at h;cases h
  simp[PV.nG,this]
 |pI f cap=>
  have:cap.any (CV.Hg id)=false:=by
   rw[dp];intro c hc hr;cases c with
   |row i=>
    have hi:i=id:=lg.1 hr;have:=dp.1 h i (by simp only[PV.mo,dU];exact⟨.row i,hc,by simp[CV.mo]⟩);rw[hi,cD]at this;exact this rfl
   |_=>cases hr
  simp[PV.nG,this]
 |_=>rfl
def jd.fin{w0:World}{B:Nat->Prop}{σ:PS}{a:Act}{w:World}{L:Lk}{id:Nat}{nl:Bool}{T n sz:Nat}{el:Nat->Nat->E}(hB:∀ b,B b->b<w0.heap.size)
 (r:jd w0 B (σ.oo (.r7 id (.row nl T n sz el))) a w L):∃ L',jd w0 B (σ.oo (.fin id)) a w L'/\iD (jl B L') (jJ L') w (.sl nl n sz el) (L.val id):=by
 let L':Lk:=⟨λi=>L.mP i/\i≠id,λi x=>L.own i x/\i≠id,L.val,L.iN⟩
 have iC:sL L w L' w:=⟨bu _,λx _ ⟨i,h,_⟩=>⟨i,h⟩,λ_ _ _=>rfl⟩
 have tu:∀ i,(σ.oo (.fin id)).bo i=if i=id then none else(σ.oo (.r7 id (.row nl T n sz el))).bo i:=by
  intro i;show look (σ.b.filter λx=>!Nat.beq x.1 id) i=if i=id then none else look (uG σ.b id (.row nl T n sz el)) i
  rw[Dq,Dr];by_cases h:i=id
  .subst h;simp
  .rw [bj h,bj (λe=>h e.symm),bj (λe=>h e.symm)]
 have ahR:(σ.oo (.r7 id (.row nl T n sz el))).bo id=some (.row nl T n sz el):=by
  show look (uG σ.b id (.row nl T n sz el)) id=_;rw[Dr,bk rfl]
 have Br:∀ x,L.own id x->¬jl B L' x:=by
  rintro x hx (h|⟨i,h1,h2⟩)
  .have:=hB x h;have:=(r.hw id x hx).1;omega
  .exact h2 (r.hi i id x h1 hx)
 have hold:iD (jl B L') (jJ L') w (.sl nl n sz el) (L.val id):=by
  obtain⟨f,h1,h2,h3⟩:=r.hb id _ ahR;rcases h1 with⟨h0,rfl⟩|⟨b,c,cur,h0,hg,pj,oq,nC,ky,jL⟩
  .rw [h0];exact .sl nl 0 sz el none 0 f (bu _) aG (λ_=>rfl) (λi j hi=>absurd hi (bE i)) (λi j hi=>absurd hi (bE i)) (λi j hi=>absurd hi (bE i)) (λi j hi=>absurd hi (bE i))
  .have tz:=(h2 b).2 (by rw[h0];rfl);rw[h0];refine .sl nl n sz el _ c f pj (by unfold maxLen at oq;omega) (λh=>by cases h) (λi j hi hj=>⟨(ky i j hi hj).2,λhn=>jL hn _ (dV (ky i j hi hj).1)⟩) (λi j hi hj=>(h3 i j hi hj).2)
    (λi j hi hj=>⟨b,0,rfl,Br b tz,(r.hw id b tz).2,?_⟩) (λi j hi hj=>iC.kT (h3 i j hi hj).1)
   rw[cj];simp only[World.cell?,hg];simpa using(ky i j hi hj).1
 refine⟨L',⟨r.hd,r.hs,λt=>?_,λi b' h=>?_,λi=>?_,λi x h=>⟨r.hn i x h.1,h.2⟩,λi x h=>r.hw i x h.1,λi i' x h k=>r.hi i i' x h.1 k.1,r.he,λh i b' k=>?_⟩,hold⟩
 .have k:=r.ht t;rw[PS.CG]at k ⊢;generalize σ.get t=p at k ⊢;show nI _ _ _ _ (if p.mo.any (Nat.beq id)then .e .any else p) _;cases hp:p.mo.any (Nat.beq id)with
  |true=>exact .any _
  |false=>
   rw[apf hp]at k;refine nI.move iC k λi hi s6=>⟨⟨s6,?_⟩,rfl,λ_=>rfl⟩
   rintro rfl;have:=dp.1 hp i hi;simp at this
 .rw [tu]at h;split at h
  .cases h
  .rename_i hi;exact(r.hb i b' h).later iC rfl (λx=>⟨λq=>q.1,λq=>⟨q,hi⟩⟩) (λ_=>rfl) λ_ _=>rfl
 .rw [tu];show L.mP i/\i≠id↔_;by_cases hi:i=id
  .subst hi;simp
  .simp only[hi,df,eB,fB,bC];exact r.hv i
 .rw [tu]at k;split at k
  .cases k
  .exact r.hl h i b' k
def abv{id q:Nat}{b:Bx}{p:PV}(h:p.mo.any (λx=>Nat.beq id x||Nat.beq q x)=false):p.nG (.sj id q b)=p:=by
 cases p with
 |box i off=>
  simp only[PV.mo,eA,gn,fA,eW]at h;have h1:Nat.beq i id=false:=cS λe=>by rw[e,cD]at h;cases h.1
  have h2:Nat.beq i q=false:=cS λe=>by rw[e,cD]at h;cases h.2
  simp[PV.nG,h1,h2]
 |e x=>simp[PV.nG,PV.mo]
 |own i=>show(if(PV.mo (.own i)).any _=true then _ else _)=_;rw[h];rfl
 |nF i a b c=>show(if(PV.mo (.nF i a b c)).any _=true then _ else _)=_;rw[h];rfl
 |iN i k=>show(if(PV.mo (.iN i k)).any _=true then _ else _)=_;rw[h];rfl
 |rF i s k x j=>show(if(PV.mo (.rF i s k x j)).any _=true then _ else _)=_;rw[h];rfl
 |pI f cap=>show(if(PV.mo (.pI f cap)).any _=true then _ else _)=_;rw[h];rfl
def abu{id q:Nat}{b:Bx}{p:PV}(h:p.mo.any (λx=>Nat.beq id x||Nat.beq q x)=true)(hb:∀ i off,p ≠ .box i off):p.nG (.sj id q b) = .e .any:=by
 cases p with
 |box i off=>exact absurd rfl (hb i off)
 |e x=>simp[PV.mo]at h
 |own i=>show(if(PV.mo (.own i)).any _=true then _ else _)=_;rw[h];rfl
 |nF i a b c=>show(if(PV.mo (.nF i a b c)).any _=true then _ else _)=_;rw[h];rfl
 |iN i k=>show(if(PV.mo (.iN i k)).any _=true then _ else _)=_;rw[h];rfl
 |rF i s k x j=>show(if(PV.mo (.rF i s k x j)).any _=true then _ else _)=_;rw[h];rfl
 |pI f cap=>show(if(PV.mo (.pI f cap)).any _=true then _ else _)=_;rw[h];rfl
def jd.sj{w0:World}{B:Nat->Prop}{σ:PS}{a:Act}{w:World}{L:Lk}(r:jd w0 B σ a w L){id q T1 T0 n sz:Nat}{nl:Bool}{el:Nat->Nat->E}{x:E}
 (hid:σ.bo id=some (.cells T1 [x])) (hq:σ.bo q=some (.row nl T0 n sz el)) (ju:id≠q) {b:Nat} (hv:L.val id = .pointer (some ⟨b,0,none⟩)) {w':World} (hw:w'.heap[b]? = some (.cells #[L.val q] T1 (0,0)))
 (ht:sw L w id (L.own id) w'):∃ L',jd w0 B (σ.oo (.sj id q (.jR nl T1 T0 1 sz (λ_=>n) (λ_=>el) none))) a w' L':=by
 let L':Lk:=⟨λi=>L.mP i/\i≠q,λi y=>if i=id then L.own id y\/L.own q y else L.own i y/\i≠q,λi=>if i=id then .slice (some ⟨b,0,none⟩) 1 1 else L.val i,λi j=>if i=id then L.val q else L.iN i j⟩
 have ah3:∀ y,jJ L' y->jJ L y:=by
  rintro y ⟨i,hi⟩;by_cases e:i=id
  .have hi:L.own id y\/L.own q y:=by simpa[L',e]using hi
   rcases hi with h|h
   .exact ⟨id,h⟩
   .exact ⟨q,h⟩
  .have hi:L.own i y/\i≠q:=by simpa[L',e]using hi
   exact⟨i,hi.1⟩
 have ap5:∀ y,jJ L y->jJ L' y:=by
  rintro y ⟨i,hi⟩;by_cases e:i=id\/i=q
  .refine ⟨id,?_⟩;show if id=id then L.own id y\/L.own q y else _
   rw[bk rfl];rcases e with e|e<;>subst e
   .exact .inl hi
   .exact .inr hi
  .have e1:i≠id:=λh=>e (.inl h)
   have e2:i≠q:=λh=>e (.inr h)
   refine⟨i,?_⟩;show if i=id then _ else L.own i y/\i≠q
   rw[bj e1];exact⟨hi,e2⟩
 have iC:sL L w L' w':=⟨ht.size,λy _ h=>ah3 y h,λy hy hm=>ht.pr y hy λho=>hm ⟨id,ho⟩⟩
 have jQ:∀ i,i≠id->L'.val i=L.val i:=λi e=>by show(if i=id then _ else _)=_;rw[bj e]
 have Bz:∀ i,i≠id->∀ j,L'.iN i j=L.iN i j:=λi e j=>by show(if i=id then _ else _)=_;rw[bj e]
 have mc:∀ i,i≠id->∀ y,L'.own i y↔L.own i y/\i≠q:=λi e y=>by show(if i=id then _ else _)↔_;rw[bj e]
 have Ag:∀ y,L'.own id y↔L.own id y\/L.own q y:=λy=>by show(if id=id then _ else _)↔_;rw[bk rfl]
 obtain⟨b0,vs,i1,i2,i3,i4,i5⟩:=r.hb id _ hid;rw[hv]at i1;cases i1;obtain⟨f,q1,q2,q3⟩:=r.hb q _ hq;have s6:L.mP id:=(r.hv id).2 (by rw[hid];rfl);have KC:∀ i y,i≠id->L.own i y->w'.heap[y]? = w.heap[y]?:=λi y e hy=>ht.pr y (r.hw i y hy).2 λho=>e (r.hi i id y hy ho)
 have jg:∀ i,(σ.oo (.sj id q (.jR nl T1 T0 1 sz (λ_=>n) (λ_=>el) none))).bo i=if id=i then some (.jR nl T1 T0 1 sz (λ_=>n) (λ_=>el) none)else if i=q then none else σ.bo i:=by
  intro i;show look (uG (σ.b.filter λy=>!Nat.beq y.1 q) id _) i=_;rw[Dr];by_cases e:id=i
  .rw [bk e,bk e]
  .rw [bj e,bj e,Dq];by_cases e2:q=i
   .rw [bk e2,bk e2.symm]
   .rw [bj e2,bj λh=>e2 h.symm];rfl
 have Bs:Below w0.heap.size w w':=⟨ht.os,ht.tape,ht.output,ht.size,λy hy=>ht.pr y (bV hy r.he.size) λho=>by have:=(r.hw id y ho).1;omega⟩
 have ky:(L.val q).oneCell'=true/\rf (L.val q)=false:=by
  rcases q1 with⟨h,_⟩|⟨b1,c1,cur,h,_⟩<;>rw[h]<;>exact⟨rfl,rfl⟩
 refine⟨L',r.hd,r.hs,λt=>?_,λi b' hb=>?_,λi=>?_,λi y hy=>?_,λi y hy=>?_,λi j y hi hj=>?_,r.he.trans Bs,λyY i b' hb=>?_⟩
 .rw [PS.CG];have k:=r.ht t;generalize σ.get t=p at k ⊢;cases hp:p.mo.any (λy=>Nat.beq id y||Nat.beq q y)with
  |false=>
   rw[abv hp];refine k.move iC λi hi hl=>?_
   have:=dp.1 hp i hi;simp only[dI,not_or]at this;have e1:i≠id:=λe=>this.1 (by rw[e];exact cD _)
   have e2:i≠q:=λe=>this.2 (by rw[e];exact cD _)
   exact⟨⟨hl,e2⟩,jQ i e1,Bz i e1⟩
  |true=>
   by_cases jh:∃ i off,p = .box i off
   .obtain ⟨i,off,rfl⟩:=jh;obtain⟨k1,b1,k2,k3⟩:=k;by_cases e1:i=id
    .subst e1;by_cases e0:off=0
     .subst e0;simp only[PV.nG,cD,bJ];rw[hv]at k2;cases k2;exact⟨⟨k1,ju⟩,b,1,1,by show(if i=i then _ else _)=_;rw[bk rfl],k3⟩
     .simp only[PV.nG,cD,bJ,cS e0,bK,bC];exact .any _
    .have e2:i=q:=by
      simp only[PV.mo,eA,gn,fA,dI]at hp;rcases hp with hp|hp
      .exact absurd (lg.1 hp).symm e1
      .exact (lg.1 hp).symm
     simp only[PV.nG,cS e1,bK,bC,e2,cD,bJ];have e3:Nat.beq q id=false:=cS λh=>ju h.symm
     simp only[e3,bK,bC];exact .any _
   .rw [abu hp λi off h=>jh ⟨i,off,h⟩];exact .any _
 .rw [jg]at hb;by_cases e:id=i
  .subst e;rw[bk rfl]at hb;cases hb;have GK:∀ j,L'.iN id j=L.val q:=λj=>by show(if id=id then _ else _)=_;rw[bk rfl]
   refine .inr ⟨b,1,#[L.val q],λ_=>f,by show(if id=id then _ else _)=_;rw[bk rfl],hw,bu _,aG,rfl,λk hk _=>?_,λu hu=>?_,λk hk=>?_,λy=>?_,λk k' y hk GQ _ _=> aE,λk hk=>?_⟩
   .obtain rfl:k=0:= aE ;rw[GK];rfl
   .have:u=L.val q:=by simpa using hu
    rw[this];exact ky.2
   .rw [GK];exact⟨q1.block λy hy=>KC q y (λh=>ju h.symm) ((q2 y).2 hy),λi j hi hj=>⟨iC.kT (q3 i j hi hj).1,(q3 i j hi hj).2⟩⟩
   .rw [Ag];constructor
    .rintro (h|h)
     .exact .inl ((i2 y).1 h)
     .exact .inr ⟨0,aG,by rw[GK];exact(q2 y).1 h⟩
    .rintro (h|⟨k,_,h⟩)
     .exact .inl ((i2 y).2 h)
     .rw [GK]at h;exact .inr ((q2 y).2 h)
   .rw [GK];intro h;exact ju (r.hi id q b ((i2 b).2 rfl) ((q2 b).2 h))
  .rw [bj e]at hb;by_cases e2:i=q
   .rw [bk e2]at hb;cases hb
   .rw [bj e2]at hb;have e':i≠id:=λh=>e h.symm
    exact(r.hb i b' hb).later iC (jQ i e') (λy=>(mc i e' y).trans ⟨λh=>h.1,λh=>⟨h,e2⟩⟩) (Bz i e') λy hy=>KC i y e' hy
 .rw [jg];show L.mP i/\i≠q↔_;by_cases e:id=i
  .subst e;rw[bk rfl];exact⟨λ_=>rfl,λ_=>⟨s6,ju⟩⟩
  .rw [bj e];by_cases e2:i=q
   .subst e2;simp
   .rw [bj e2];exact⟨λh=>(r.hv i).1 h.1,λh=>⟨(r.hv i).2 h,e2⟩⟩
 .by_cases e:i=id
  .subst e;exact⟨s6,ju⟩
  .have:=(mc i e y).1 hy;exact⟨r.hn i y this.1,this.2⟩
 .by_cases e:i=id
  .subst e;rcases(Ag y).1 hy with h|h
   .exact ⟨(r.hw _ y h).1,bV (r.hw _ y h).2 ht.size⟩
   .exact ⟨(r.hw _ y h).1,bV (r.hw _ y h).2 ht.size⟩
  .have h:=((mc i e y).1 hy).1;exact⟨(r.hw _ y h).1,bV (r.hw _ y h).2 ht.size⟩
 .by_cases e1:i=id
  .by_cases e2:j=id
   .rw [e1,e2]
   .exfalso;subst e1;have h2:=(mc j e2 y).1 hj;rcases(Ag y).1 hi with h|h
    .exact e2 (r.hi j _ y h2.1 h)
    .exact h2.2 (r.hi j q y h2.1 h)
  .by_cases e2:j=id
   .exfalso;subst e2;have h1:=(mc i e1 y).1 hi;rcases(Ag y).1 hj with h|h
    .exact e1 (r.hi i _ y h1.1 h)
    .exact h1.2 (r.hi i q y h1.1 h)
   .exact r.hi i j y ((mc i e1 y).1 hi).1 ((mc j e2 y).1 hj).1
 .rw [jg]at hb;by_cases e:id=i
  .rw [bk e]at hb;cases hb;show nl=true;exact r.hl yY q (.row nl T0 n sz el) hq
  .rw [bj e]at hb;by_cases e2:i=q
   .rw [bk e2]at hb;cases hb
   .rw [bj e2]at hb;exact r.hl yY i b' hb
def Lk.rG(L:Lk)(id q:Nat)(O:Nat->Prop)(v:Value)(iN:Nat->Value):Lk:=
 {mP:=λi=>(i=id\/L.mP i)/\i≠q
  own:=λi x=>if i=id then O x else L.own i x/\i≠q
  val:=λi=>if i=id then v else L.val i
  iN:=λi j=>if i=id then iN j else L.iN i j }
def jd.rG{w0:World}{B:Nat->Prop}{σ:PS}{a:Act}{w:World}{L:Lk}(r:jd w0 B σ a w L){id q:Nat}(ju:id≠q)(b':Bx)(O:Nat->Prop)(v:Value)(iN:Nat->Value)(w':World)
 (hO:∀ x,O x->(L.own id x\/L.own q x\/w.heap.size<=x)/\x<w'.heap.size) (lk:w.heap.size<=w'.heap.size) (xO:∀ x,x<w.heap.size->¬L.own id x->w'.heap[x]? = w.heap[x]?)
 (xR:w'.os=w.os) (OR:w'.tape=w.tape) (qd:w'.output=w.output)
 (hB:sL L w (L.rG id q O v iN) w'->rn (jl B (L.rG id q O v iN)) (jJ (L.rG id q O v iN)) (L.rG id q O v iN) w' id b')
 (kE:L.mP id->∀ b,L.val id ≠ .pointer (some b)) (jL:σ.nl=true->b'.nl=true):jd w0 B (σ.oo (.sj id q b')) a w' (L.rG id q O v iN):=by
 have jQ:∀ i,i≠id->(L.rG id q O v iN).val i=L.val i:=λi e=>by show(if i=id then _ else _)=_;rw[bj e]
 have Bz:∀ i,i≠id->∀ j,(L.rG id q O v iN).iN i j=L.iN i j:=λi e j=>by show(if i=id then _ else _)=_;rw[bj e]
 have mc:∀ i,i≠id->∀ y,(L.rG id q O v iN).own i y↔L.own i y/\i≠q:=λi e y=>by show(if i=id then _ else _)↔_;rw[bj e]
 have Ag:∀ y,(L.rG id q O v iN).own id y↔O y:=λy=>by show(if id=id then _ else _)↔_;rw[bk rfl]
 have iC:sL L w (L.rG id q O v iN) w':=by
  refine⟨lk,λy hy h=>?_,λy hy hm=>xO y hy λho=>hm ⟨id,ho⟩⟩;obtain⟨i,hi⟩:=h;by_cases e:i=id
  .subst e;rcases(hO y ((Ag y).1 hi)).1 with h|h|h
   .exact ⟨i,h⟩
   .exact ⟨q,h⟩
   .omega
  .exact ⟨i,((mc i e y).1 hi).1⟩
 have jg:∀ i,(σ.oo (.sj id q b')).bo i=if id=i then some b' else if i=q then none else σ.bo i:=by
  intro i;show look (uG (σ.b.filter λy=>!Nat.beq y.1 q) id _) i=_;rw[Dr];by_cases e:id=i
  .rw [bk e,bk e]
  .rw [bj e,bj e,Dq];by_cases e2:q=i
   .rw [bk e2,bk e2.symm]
   .rw [bj e2,bj λh=>e2 h.symm];rfl
 have Bs:Below w0.heap.size w w':=⟨xR,OR,qd,lk,λy hy=>xO y (bV hy r.he.size) λho=>by have:=(r.hw id y ho).1;omega⟩
 have KC:∀ i y,i≠id->L.own i y->w'.heap[y]? = w.heap[y]?:=λi y e hy=>xO y (r.hw i y hy).2 λho=>e (r.hi i id y hy ho)
 have hwl:∀ i y,L.own i y->w0.heap.size<=y/\y<w'.heap.size:=λi y h=>⟨(r.hw i y h).1,bV (r.hw i y h).2 lk⟩
 refine⟨r.hd,r.hs,λt=>?_,λi b hb=>?_,λi=>?_,λi y hy=>?_,λi y hy=>?_,λi j y hi hj=>?_,r.he.trans Bs,λyY i b hb=>?_⟩
 .rw [PS.CG];have k:=r.ht t;generalize σ.get t=p at k ⊢;cases hp:p.mo.any (λy=>Nat.beq id y||Nat.beq q y)with
  |false=>
   rw[abv hp];refine k.move iC λi hi hl=>?_
   have:=dp.1 hp i hi;simp only[dI,not_or]at this;have e1:i≠id:=λe=>this.1 (by rw[e];exact cD _)
   have e2:i≠q:=λe=>this.2 (by rw[e];exact cD _)
   exact⟨⟨.inr hl,e2⟩,jQ i e1,Bz i e1⟩
  |true=>
   by_cases jh:∃ i off,p = .box i off
   .obtain ⟨i,off,rfl⟩:=jh;obtain⟨k1,b1,k2,k3⟩:=k;by_cases e1:i=id
    .subst e1;exact absurd k2 (kE k1 _)
    .have e2:i=q:=by
      simp only[PV.mo,eA,gn,fA,dI]at hp;rcases hp with hp|hp
      .exact absurd (lg.1 hp).symm e1
      .exact (lg.1 hp).symm
     have e3:Nat.beq q id=false:=cS λh=>ju h.symm
     simp only[PV.nG,e2,e3,cD,bJ,bK,bC];exact .any _
   .rw [abu hp λi off h=>jh ⟨i,off,h⟩];exact .any _
 .rw [jg]at hb;by_cases e:id=i
  .subst e;rw[bk rfl]at hb;cases hb;exact hB iC
  .rw [bj e]at hb;by_cases e2:i=q
   .rw [bk e2]at hb;cases hb
   .rw [bj e2]at hb;have e':i≠id:=λh=>e h.symm
    exact(r.hb i b hb).later iC (jQ i e') (λy=>(mc i e' y).trans ⟨λh=>h.1,λh=>⟨h,e2⟩⟩) (Bz i e') λy hy=>KC i y e' hy
 .rw [jg];show(i=id\/L.mP i)/\i≠q↔_;by_cases e:id=i
  .subst e;rw[bk rfl];exact⟨λ_=>rfl,λ_=>⟨.inl rfl,ju⟩⟩
  .rw [bj e];have e':i≠id:=λh=>e h.symm
   by_cases e2:i=q
   .subst e2;simp
   .rw [bj e2];exact⟨λh=>(r.hv i).1 (h.1.resolve_left e'),λh=>⟨.inr ((r.hv i).2 h),e2⟩⟩
 .by_cases e:i=id
  .subst e;exact⟨.inl rfl,ju⟩
  .have:=(mc i e y).1 hy;exact⟨.inr (r.hn i y this.1),this.2⟩
 .by_cases e:i=id
  .subst e;obtain⟨h,h2⟩:=hO y ((Ag y).1 hy);rcases h with h|h|h
   .exact ⟨(r.hw _ y h).1,h2⟩
   .exact ⟨(r.hw _ y h).1,h2⟩
   .exact ⟨bA r.he.size h,h2⟩
  .exact hwl i y ((mc i e y).1 hy).1
 .have cross:∀ j,j≠id->L.own j y/\j≠q->O y->False:=by
   intro j e h2 h;rcases(hO y h).1 with h|h|h
   .exact e (r.hi j _ y h2.1 h)
   .exact h2.2 (r.hi j q y h2.1 h)
   .have:=(r.hw j y h2.1).2;omega
  by_cases e1:i=id
  .by_cases e2:j=id
   .rw [e1,e2]
   .subst e1;exact(cross j e2 ((mc j e2 y).1 hj) ((Ag y).1 hi)).elim
  .by_cases e2:j=id
   .subst e2;exact(cross i e1 ((mc i e1 y).1 hi) ((Ag y).1 hj)).elim
   .exact r.hi i j y ((mc i e1 y).1 hi).1 ((mc j e2 y).1 hj).1
 .rw [jg]at hb;by_cases e:id=i
  .rw [bk e]at hb;cases hb;exact jL yY
  .rw [bj e]at hb;by_cases e2:i=q
   .rw [bk e2]at hb;cases hb
   .rw [bj e2]at hb;exact r.hl yY i b hb
def Lk.Xf{L:Lk}{id q:Nat}{O:Nat->Prop}{v:Value}{iN:Nat->Value}(x:Nat):(L.rG id q O v iN).own id x↔O x:=by simp[Lk.rG]
def Lk.Hj{L:Lk}{id q:Nat}{O:Nat->Prop}{v:Value}{iN:Nat->Value}:(L.rG id q O v iN).val id=v:=by simp[Lk.rG]
def Lk.y4{L:Lk}{id q:Nat}{O:Nat->Prop}{v:Value}{iN:Nat->Value}(k:Nat):(L.rG id q O v iN).iN id k=iN k:=by simp[Lk.rG]
def Lk.Pg{L:Lk}{id q:Nat}(ju:id≠q){O:Nat->Prop}{v:Value}{iN:Nat->Value}:(L.rG id q O v iN).mP id:=⟨.inl rfl,ju⟩
def jd.TX{w0:World}{B:Nat->Prop}{σ:PS}{a:Act}{w:World}{L:Lk}(r:jd w0 B σ a w L)(id:Nat):∃ L',jd w0 B (σ.oo (.fin id)) a w L'/\(∀ i x,L'.own i x->L.own i x)/\(σ.oo (.fin id)).bo id=none:=by
 let L':Lk:=⟨λi=>L.mP i/\i≠id,λi x=>L.own i x/\i≠id,L.val,L.iN⟩
 have iC:sL L w L' w:=⟨bu _,λx _ ⟨i,h,_⟩=>⟨i,h⟩,λ_ _ _=>rfl⟩
 have tu:∀ i,(σ.oo (.fin id)).bo i=if i=id then none else σ.bo i:=by
  intro i;show look (σ.b.filter λx=>!Nat.beq x.1 id) i=_;rw[Dq];by_cases h:i=id
  .rw [bk h,bk h.symm]
  .rw [bj h,bj (λe=>h e.symm)];rfl
 refine⟨L',⟨r.hd,r.hs,λt=>?_,λi b' h=>?_,λi=>?_,λi x h=>⟨r.hn i x h.1,h.2⟩,λi x h=>r.hw i x h.1,λi i' x h k=>r.hi i i' x h.1 k.1,r.he,λh i b' k=>?_⟩,λi x h=>h.1,by rw[tu,bk rfl]⟩
 .rw [PS.CG];have k:=r.ht t;generalize σ.get t=p at k ⊢;show nI _ _ _ _ (if p.mo.any (Nat.beq id)then .e .any else p) _;cases hp:p.mo.any (Nat.beq id)with
  |true=>exact .any _
  |false=>
   refine nI.move iC k λi hi s6=>⟨⟨s6,?_⟩,rfl,λ_=>rfl⟩
   rintro rfl;have:=dp.1 hp i hi;simp at this
 .rw [tu]at h;split at h
  .cases h
  .rename_i hi;exact(r.hb i b' h).later iC rfl (λx=>⟨λq=>q.1,λq=>⟨q,hi⟩⟩) (λ_=>rfl) λ_ _=>rfl
 .rw [tu];show L.mP i/\i≠id↔_;by_cases hi:i=id
  .subst hi;simp
  .simp only[hi,df,eB,fB,bC];exact r.hv i
 .rw [tu]at k;split at k
  .cases k
  .exact r.hl h i b' k
def T7(σ:PS)(id:Nat)(b:Bx):(σ.oo (.fin id)).oo (.new id b)=σ.oo (.B6 id b):=by
 have h:uG (σ.b.filter λx=>!Nat.beq x.1 id) id b=uG σ.b id b:=by
  unfold uG;rw[List.filter_filter];congr 2;funext x;cases Nat.beq x.1 id<;>rfl
 show PS.mk σ.n σ.nl (σ.t.map _) (uG (σ.b.filter λx=>!Nat.beq x.1 id) id b)=PS.mk σ.n σ.nl (σ.t.map _) (uG σ.b id b);rw[h];rfl
def abo{T:List TI}{t:TypeId}{x:TI}(h:mU T t=some x):x ∈ T/\x.id=t:=by
 induction T with
 |nil=>cases h
 |cons y l ih=>
  unfold mU at h;split at h
  .rename_i hb;cases h;exact⟨aK,lg.1 hb⟩
  .obtain ⟨h1,h2⟩:=ih h;exact⟨by simp[h1],h2⟩
def mL.rS{P:Program}{T:List TI}(hT:mL P T){t:TypeId}{x:TI}(h:mU T t=some x):P.underlying t=some x.d:=by
 obtain⟨h1,h2⟩:=abo h;rw[<-h2];exact(hT x h1).1
def mL.Al{P:Program}{T:List TI}(hT:mL P T){t:TypeId}{x:TI}(h:mU T t=some x):P.info? t=some x.i:=by
 obtain⟨h1,h2⟩:=abo h;rw[<-h2];exact(hT x h1).2
def Bb{T:List TI}{t:TypeId}{d:TypeDesc}(h:xG T t=some d):∃ x,mU T t=some x/\x.d=d:=by
 unfold xG at h;split at h
 .rename_i x hx;exact⟨x,hx,by simpa using h⟩
 .cases h
section
variable {P:Program} {T:List TI} (hT:mL P T) (w:World)
include hT
def uE{t:TypeId}{x:TI}(h:mU T t=some x):(sizeOf t).run P w = .ok x.i.size w:=by
 simp[sizeOf,typeInfo,hT.Al h]
def QS{t:TypeId}{x:TI}(h:mU T t=some x){z:Value}(hz:x.i.zero=some z):(zeroValue t).run P w = .ok z w:=by
 simp[zeroValue,typeInfo,hT.Al h,hz]
def LJ{t:TypeId}{x:TI}(h:mU T t=some x):(isAgg t).run P w = .ok x.isAgg w:=by
 unfold isAgg TI.isAgg;rw[Sem.run_bind,run_underlying (hT.rS h) w];cases x.d<;>simp
def ZY{t:TypeId}{x:TI}(h:mU T t=some x)(ha:x.isAgg=true)(b o:Nat)(vs:List Value)(hl:vs.length=x.i.size)
 (hc:∀ (j:Nat) (u:Value),vs[j]? = some u->w.cell? ⟨b,o+j,none⟩=some u):(loadVar t ⟨b,o,none⟩).run P w = .ok (.agg vs.toArray) w:=by
 have hr:=run_loadCells_list (P:=P) w ⟨b,o,none⟩ vs (λj v hv=>by rw[Addr.add_lit];exact hc j v hv);rw[hl]at hr;simp[loadVar,LJ hT w h,ha,uE hT w h,hr]
def QR{t:TypeId}{x:TI}(h:mU T t=some x)(ha:x.isAgg=false)(b o:Nat)(u:Value)(hc:w.cell? ⟨b,o,none⟩=some u):(loadVar t ⟨b,o,none⟩).run P w = .ok u w:=by
 simp[loadVar,LJ hT w h,ha,hc]
def LK{t:TypeId}{x:TI}(h:mU T t=some x)(b o:Nat)(E:TypeId)(cur:Array Value)(hg:w.heap[b]? = some (.cells cur E (0,0)))(v:Value)(hl:v.cells.toList.length=x.i.size)
 (r9:o+v.cells.toList.length<=cur.size) (h1:∀ u ∈ v.cells.toList,u.oneCell'=true):
 (storeVar t ⟨b,o,none⟩ v).run P w = .ok () (w.setRow b (cur.toList.take o++v.cells.toList++cur.toList.drop (o+v.cells.toList.length)).toArray):=by
 have hr:=run_storeCells_at P b o E v.cells.toList 0 cur w hg (by simpa using r9) h1;simp only[bY]at hr;have qW:v.cells.size=x.i.size:=by simpa using hl
 simp only[storeVar,Sem.run_bind,uE hT w h,Result.andThen,qW,df,aqy,bC,hr,Sem.run_ite,Sem.run_pure]
end
def sw.setRow{L:Lk}{w:World}{id b:Nat}(hb:L.own id b)(iC:∀ x,L.own id x->x<w.heap.size)(cs:Array Value):sw L w id (L.own id) (w.setRow b cs):=
 ⟨λx hx=>⟨.inl hx,by simpa using iC x hx⟩,aK,λx _ ju=>setRow_other w b x cs (λe=>ju (e▸hb)),rfl,rfl,rfl⟩
def j9(P:Program)(K:World->Prop)(w0:World)(B:Nat->Prop)(σ:PS)(o:Oper)(a:Act)(w:World)(u:kO):Prop:=
 ∃ v w' L',((execOp a.eval o).run P w = .ok (.value v) w'\/((execOp a.eval o).run P w = .ok .skip w'/\v=undef))/\jd w0 B (σ.oo u.f) a w' L'/\nI (jl B L') (jJ L') L' w' u.r v
section
variable {P:Program} {K:World->Prop} {w0:World} {B:Nat->Prop} {σ:PS} {o:Oper} {a:Act} {w:World} {L:Lk} {u:kO}
def j9.pure(r:jd w0 B σ a w L){v:Value}(kS:(execOp a.eval o).run P w = .ok (.value v) w)(hf:u.f = .none)(hp:nI (jl B L) (jJ L) L w u.r v):j9 P K w0 B σ o a w u:=
 ⟨v,w,L,.inl kS,by rw[hf];exact r,hp⟩
def jd.read(r:jd w0 B σ a w L){p:PV}{v:Value}(hp:nI (jl B L) (jJ L) L w p v){m:Nat}{l:List E}{is:List Nat}{jE:List Prop}(h:σ.read p m=some (l,is,jE))(ho:∀ q,q ∈ jE->q):
 ∃ b q vs,v = .pointer (some ⟨b,q,none⟩)/\kr (jl B L) (jJ L) w l vs/\vs.length=m/\∀ (j:Nat) (u:Value),vs[j]? = some u->w.cell? ⟨b,q+j,none⟩=some u:=by
 have tab:∀ (b q:Nat) (g:Nat->E) (f:Nat->Value),(∀ j,j<m->w.cell? ⟨b,q+j,none⟩=some (f j)/\iD (jl B L) (jJ L) w (g j) (f j)) ->
  ∃ vs:List Value,kr (jl B L) (jJ L) w ((List.range m).map g) vs/\vs.length=m/\∀ (j:Nat) (u:Value),vs[j]? = some u->w.cell? ⟨b,q+j,none⟩=some u:=by
  intro b q g f hc;refine⟨(List.range m).map f,⟨aK,λi p x hp hx=>?_⟩,aK,λj u hu=>?_⟩
  .rw [cF]at hp hx;obtain⟨i1,yV,rfl⟩:=cQ.1 hp;obtain⟨i2,CT,rfl⟩:=cQ.1 hx;rw[yV]at CT;cases CT;obtain⟨iC,rfl⟩:=cr.1 yV;simp at iC;simpa using(hc i iC).2
  .rw [cF]at hu;obtain⟨i1,yV,rfl⟩:=cQ.1 hu;obtain⟨iC,rfl⟩:=cr.1 yV;simp at iC;simpa using(hc j iC).1
 cases p with
 |box id off=>
  simp only[PS.read]at h;split at h
  .rename_i T l0 jg;split at h
   .rename_i hle;simp only[bG,bZ]at h;obtain⟨rfl,rfl,rfl⟩:=h;obtain⟨b,vs,h1,h2,h3,h4,h5⟩:=r.hb id _ jg;obtain⟨_,b',k2,rfl⟩:=hp;rw[h1]at k2;cases k2;have V5:=cP hle;refine⟨b,off,(vs.drop off).take m,rfl,(h4.drop off).take m,by simp[h4.len];omega,λj u hu=>?_⟩;rw[ev]at hu;split at hu
    .rw [eR]at hu;simp only[World.cell?,h3];simpa using hu
    .cases hu
   .cases h
  .cases h
 |nF id sz i j=>
  simp only[PS.read]at h;split at h
  .rename_i nl T n s el jg;split at h
   .rename_i hle;simp only[bG,bZ]at h;obtain⟨rfl,rfl,rfl⟩:=h;simp only[bO]at hle;have e1:=lg.1 hle.1;have e2:=cP hle.2;subst e1;have hi:i<n:=ho _ aK;obtain⟨f,h1,h2,h3⟩:=r.hb id _ jg;obtain⟨_,b,n',c',k2,rfl⟩:=hp;rcases h1 with⟨h1,_⟩|⟨b',c,cur,h1,hg,pj,oq,nC,ky,jL⟩
    .rw [k2]at h1;cases h1
    .rw [k2]at h1;cases h1;obtain⟨vs,q1,q2,q3⟩:=tab b (i*s+j) (λq=>el i (j+q)) (λq=>f i (j+q)) (λq hq=>⟨by
      simp only[World.cell?,hg];have:=(ky i (j+q) hi aE).1;rw[<-cR]at this;simpa using this,(h3 i (j+q) hi aE).1⟩)
     exact⟨b,i*s+j,vs,rfl,q1,q2,q3⟩
   .cases h
  .cases h
 |rF id sz k i j=>
  simp only[PS.read]at h;split at h
  .rename_i nl T1 T0 n s len el pend jg;split at h
   .rename_i hle;simp only[bG,bZ]at h;obtain⟨rfl,rfl,rfl⟩:=h;simp only[bO]at hle;have e1:=lg.1 hle.1;have e2:=cP hle.2;subst e1;have hk:k<n:=ho _ aK;have hi:i<len k:=ho _ aK;obtain⟨b0,c0,cur0,f,g1,g2,g3,g4,g5,g6,g7,g8,_⟩:=(r.hb id _ jg).xr aE;obtain⟨h1,h3⟩:=g8 k hk;obtain⟨_,b,n',c',k2,rfl⟩:=hp;rcases h1 with⟨h1,_⟩|⟨b',c,cur,h1,hg,pj,oq,nC,ky,jL⟩
    .rw [k2]at h1;cases h1
    .rw [k2]at h1;cases h1;obtain⟨vs,q1,q2,q3⟩:=tab b (i*s+j) (λq=>el k i (j+q)) (λq=>f k i (j+q)) (λq hq=>⟨by
      simp only[World.cell?,hg];have:=(ky i (j+q) hi aE).1;rw[<-cR]at this;simpa using this,(h3 i (j+q) hi aE).1⟩)
     exact⟨b,i*s+j,vs,rfl,q1,q2,q3⟩
   .cases h
  .cases h
 |e x=>
  cases x with
  |iV k el=>
   simp only[PS.read]at h;split at h
   .rename_i hle;simp only[bG,bZ]at h;obtain⟨rfl,rfl,rfl⟩:=h;have V5:=cP hle;cases hp with
    |iV _ _ b q f hb iC hl cell kk=>
     obtain⟨vs,q1,q2,q3⟩:=tab b q el f (λj hj=>⟨cell j aE,kk j aE⟩);exact⟨b,q,vs,rfl,q1,q2,q3⟩
   .cases h
  |_=>cases h
 |_=>cases h
def FL{ti:TI}{l:List E}(h:zD ti=some l):∃ z,ti.i.zero=some z/\∀ (bs br:Nat->Prop) (w:World),kr bs br w l z.cells.toList/\∀ u ∈ z.cells.toList,u.oneCell'=true:=by
 unfold zD at h;split at h
 .rename_i z hz;exact⟨z,hz,λbs br w=>(iD.v (bs:=bs) (br:=br) (w:=w) z).cells h⟩
 .cases h
def jd.Yz(r:jd w0 B σ a w L)(id:Nat)(T:TypeId)(l:List E)(v:Value)(kE:σ.bo id=none)(hv:kr (jl B L) (jJ L) w l v.cells.toList)(h1:∀ u ∈ v.cells.toList,u.oneCell'=true)
 (jL:(!σ.nl||l.all E.nE)=true):
 ∃ L',jd w0 B (σ.oo (.new id (.cells T l))) a (w.alloc (.cells v.cells T)) L'/\nI (jl B L') (jJ L') L' (w.alloc (.cells v.cells T)) (.box id 0) (.pointer (some ⟨w.heap.size,0,none⟩)):=by
 have hb:Below w.heap.size w (w.alloc (.cells v.cells T)):=(Below.refl _ _).alloc (bu _) _;have VR:∀ x,¬L.own id x:=λx hx=>by have:=(r.hv id).1 (r.hn id x hx);rw[kE]at this;simp at this
 have ht:sw L w id (λx=>x=w.heap.size) (w.alloc (.cells v.cells T)):=⟨λx hx=>⟨.inr aE,aS⟩,hb.size,λx hx _=>hb.block x hx,rfl,rfl,rfl⟩
 have hl:=ht.later (.pointer (some ⟨w.heap.size,0,none⟩)) (λ_=>undef);refine⟨_,r.new id (.cells T l) (λx=>x=w.heap.size) (.pointer (some ⟨w.heap.size,0,none⟩)) (λ_=>undef) _ kE (λx hx=>by subst hx;simp) hb
  ⟨w.heap.size,v.cells.toList,Lk.pX,λx=>Lk.tU x,by rw[Array.toArray_toList];exact heap_alloc_new w _,hv.mono λ_ _=>hl.kT,h1⟩ jL,Lk.Cb,w.heap.size,Lk.pX,rfl⟩
def K1{d:Option Tmp}{b:Bx}{rr:Nat->PV}(h:BQ σ d b rr=some u):∃ id,d=some id/\(!σ.nl||b.nl)=true/\u={ r:=rr id,f:=vi σ id b,rb:=Aw σ id [] }:=by
 unfold BQ at h;split at h
 .rename_i id;split at h
  .rename_i hc;cases h;exact⟨id,rfl,hc,rfl⟩
  .cases h
 .cases h
def jd.YA(r:jd w0 B σ a w L)(id:Nat)(T:TypeId)(l:List E)(v:Value)(hv:kr (jl B L) (jJ L) w l v.cells.toList)(h1:∀ u ∈ v.cells.toList,u.oneCell'=true)
 (jL:(!σ.nl||l.all E.nE)=true):
 ∃ L',jd w0 B (σ.oo (vi σ id (.cells T l))) a (w.alloc (.cells v.cells T)) L'/\nI (jl B L') (jJ L') L' (w.alloc (.cells v.cells T)) (.box id 0) (.pointer (some ⟨w.heap.size,0,none⟩)):=by
 unfold vi;split
 .rename_i kE;exact r.Yz id T l v kE hv h1 jL
 .obtain ⟨L1,r1,ho,kE⟩:=r.TX id;have hm:∀ x,jJ L1 x->jJ L x:=λx ⟨i,hi⟩=>⟨i,ho i x hi⟩
  obtain⟨L',r',hp⟩:=r1.Yz id T l v kE (hv.mono λ_ _=>iD.qN (λx h=>h.elim .inl λh=>.inr (hm x h)) hm) h1 jL;rw[T7]at r';exact⟨L',r',hp⟩
def Hu{d:Option Tmp}{b:Bx}{rr:Nat->PV}{jE:List Prop}(h:Au σ d b rr jE=some u):∃ id,d=some id/\σ.bo id=none/\(!σ.nl||b.nl)=true/\u={ r:=rr id,f:=.new id b,jE:=jE }:=by
 unfold Au at h;split at h
 .rename_i id;split at h
  .rename_i kE;split at h
   .rename_i hc;cases h;exact⟨id,rfl,kE,hc,rfl⟩
   .cases h
  .cases h
 .cases h
end
def IZ{k:IntKind}{z:Int}(h:ku k z):k.wrap z=z:=by
 cases k<;>simp only[ku]at h<;>simp only[IntKind.wrap,IntKind.bits,IntKind.signed]<;>simp<;>(try split)<;>omega
def amQ{k:IntKind}{x y:Int}(h:ku k x)(hy:0<y):ku k (x.tdiv y):=by
 by_cases h0:0<=x
 .have h1:0<=x/y:=Int.ediv_nonneg h0 aE ;have h2:x/y<=x:=Int.ediv_le_self y h0;rw[fC h0];cases k<;>simp only[ku]at h ⊢ <;> omega
 .obtain ⟨z,rfl⟩:∃ z,x = -z:=⟨-x,aE⟩
  have h0:0<=z:= aE ;have h1:0<=z/y:=Int.ediv_nonneg h0 aE;have h2:z/y<=z:=Int.ediv_le_self y h0;rw[Int.neg_tdiv,fC h0];cases k<;>simp only[ku]at h ⊢ <;> omega
def af2{P:Program}{op:BinOp}{k k':IntKind}{x y:Int}{v:Value}{jE:List Prop}(h:Nk op k x y=some (v,jE))(ho:∀ q,q ∈ jE->q)
 (hk:Z0 op k k'=true) (t:TypeId) (w:World):(binOp op t (.int k x) (.int k' y)).run P w = .ok v w:=by
 cases op<;>simp only[Nk,bG,bZ,reduceCtorEq]at h<;>(obtain⟨rfl,rfl⟩:=h)<;>(try (have GQ:=cT hk;subst GQ))
 case add=>
  rw[binOp_add];by_cases J5:k = .u32
  .subst J5;simp[Op.intArith,MF]
  .have e:MF k x y=x+y:=by cases k<;>first|rfl|exact absurd rfl J5
   have e2:RU k x y=[ku k (x+y)]:=by cases k<;>first|rfl|exact absurd rfl J5
   rw[e];simp[Op.intArith,IZ (ho (ku k (x+y)) (by rw[e2];simp))]
 case sub=>rw[binOp_sub];simp[Op.intArith,IZ (ho (ku k (x-y)) aK)]
 case mul=>rw[binOp_mul];simp[Op.intArith,IZ (ho (ku k (x*y)) aK)]
 case quo=>
  have h1:=ho (0<y) aK;have h2:=ho (ku k x) aK;rw[binOp_quo];have hy:¬y=0:= aE ;simp[Op.intDiv,hy,IZ (amQ h2 h1)]
 case rem=>
  have h1:=ho (0<y) aK;rw[binOp_rem];have hy:¬y=0:= aE ;simp[Op.intDiv,hy]
 case and=>rw[binOp_and,intBits_and];rfl
 case or=>rw[binOp_or,intBits_or];rfl
 case shl=>
  have h1:=ho (0<=y/\y<=k.bits) aK;rw[binOp_shl,shift_shl k k' x y h1.1 h1.2];rfl
 case shr=>
  have h1:=ho (0<=y/\y<=k.bits) aK;rw[binOp_shr,shift_shr k k' x y h1.1 h1.2];rfl
 case eql=>rw[binOp_eql];rfl
 case neq=>rw[binOp_neq];rfl
 case lss=>rw[binOp_lss];rfl
 case leq=>rw[binOp_leq];rfl
 case gtr=>rw[binOp_gtr];rfl
 case geq=>rw[binOp_geq];rfl
section
variable {P:Program} {K:World->Prop} {T:List TI} {O:qB} {w0:World} {B:Nat->Prop} {σ:PS} {o:Oper} {a:Act} {w:World} {L:Lk} {u:kO}
def ahk{x:Operand}(iB:o.op = .move x)(r:jd w0 B σ a w L)(h:jA P K T O σ o=some u):j9 P K w0 B σ o a w u:=by
 simp only[jA,iB]at h;cases h;exact j9.pure r (by simp only[execOp,iB];rfl) rfl (r.op x)
def ag0{x:Operand}(iB:o.op = .assign x)(r:jd w0 B σ a w L)(h:jA P K T O σ o=some u):j9 P K w0 B σ o a w u:=by
 simp only[jA,iB]at h;cases h;exact j9.pure r (by simp only[execOp,iB];rfl) rfl (r.op x)
def ahm{c x y:Operand}(iB:o.op = .pick c x y)(r:jd w0 B σ a w L)(h:jA P K T O σ o=some u):j9 P K w0 B σ o a w u:=by
 simp only[jA,iB]at h;have hc:=r.op c;split at h
 .rename_i hv;rw[hv]at hc;have hc:=iD.kJ hc;cases h;exact j9.pure r (by simp[execOp,iB,hc,asBool]) rfl (r.op x)
 .rename_i hv;rw[hv]at hc;have hc:=iD.kJ hc;cases h;exact j9.pure r (by simp[execOp,iB,hc,asBool]) rfl (r.op y)
 .cases h
def ahl{x:Operand}(iB:o.op = .nilCheck x)(r:jd w0 B σ a w L)(h:jA P K T O σ o=some u):j9 P K w0 B σ o a w u:=by
 simp only[jA,iB]at h;have hc:=r.op x;split at h
 .rename_i hv;rw[hv]at hc;cases h;obtain⟨k1,b,k2,k3⟩:=hc;exact j9.pure r (v:=a.eval x) (by simp[execOp,iB,k3]) rfl ⟨k1,b,k2,k3⟩
 .rename_i hv;rw[hv]at hc;cases h;generalize hq:a.eval x=q at hc;refine j9.pure r (v:=q) ?_ rfl hc;cases hc;simp only[execOp,iB,hq];rfl
 .rename_i hv;rw[hv]at hc;cases h;refine j9.pure r (v:=a.eval x) ?_ rfl hc;obtain⟨vs,e,_⟩:=iD.U6 hc;simp only[execOp,iB,e];rfl
 .rename_i hv;rw[hv]at hc;cases h;refine j9.pure r (v:=a.eval x) ?_ rfl hc;obtain⟨vs,e,_⟩:=hc;simp only[execOp,iB,e];rfl
 .cases h
def ag1(hT:mL P T){op:BinOp}{t yt:TypeId}{x y:Operand}(iB:o.op = .binOp op t x y yt)(r:jd w0 B σ a w L)(h:jA P K T O σ o=some u)(ho:∀ q,q ∈ u.jE->q):j9 P K w0 B σ o a w u:=by
 simp only[jA,iB]at h;have hx:=r.op x;have hy:=r.op y;split at h
 .rename_i k z k' z' sG C8;rw[sG]at hx;rw[C8]at hy;split at h
  .rename_i v hv;cases h;obtain⟨h1,h2⟩:=ho _ (gL.2 rfl) _ _ w _ _ x y hx hy;refine j9.pure r (v:=v) ?_ rfl (.v _);simp only[execOp,iB,Sem.run_bind,h1,Result.andThen_ok,h2,Sem.run_pure]
  have hx:=iD.kJ hx;have hy:=iD.kJ hy;split at h
  .rename_i hk;obtain⟨rr,hr,rfl⟩:=cQ.1 h;have kS:=af2 (P:=P) (k':=k') hr ho hk t w;refine j9.pure r (v:=rr.1) ?_ rfl (.v _);simp only[execOp,iB,hx,hy,Sem.run_bind,eqGuard_at_int,Sem.run_pure,Result.andThen_ok,kS]
  .cases h
 .rename_i z z' sG C8;rw[sG]at hx;rw[C8]at hy;have hx:=iD.kJ hx;have hy:=iD.kJ hy;split at h
  .rename_i hd;obtain⟨ti,h1,h2⟩:=Bb hd;have hu:P.underlying t=some .bool:=by rw[hT.rS h1,h2]
   split at h
   .cases h;refine j9.pure r (v:=.bool (z==z')) ?_ rfl (.v _);simp only[execOp,iB,hx,hy,Sem.run_bind,eqGuard_at_bool,Sem.run_pure,Result.andThen_ok,run_eql_bool w t z z' hu]
   .cases h;refine j9.pure r (v:=.bool (!(z==z'))) ?_ rfl (.v _);simp only[execOp,iB,hx,hy,Sem.run_bind,eqGuard_at_bool,Sem.run_pure,Result.andThen_ok];have:(binOp .neq t (.bool z) (.bool z')).run P w = .ok (.bool (!(z==z'))) w:=by
     simp only[binOp,Sem.run_bind,run_equal_bool w t z z' hu,Result.andThen_ok,Sem.run_pure]
    rw[this];rfl
   .cases h
  .cases h
 .rename_i nl n sz el sG C8;rw[sG]at hx;rw[C8]at hy;have hy:=iD.kJ hy;have hx:iD (jl B L) (jJ L) w (.sl nl n sz el) (a.eval x):=hx;split at h
  .rename_i e hd;obtain⟨ti,h1,h2⟩:=Bb hd;have hu:P.underlying t=some (.slice e):=by rw[hT.rS h1,h2]
   have key:∀ A c,0<n->a.eval x = .slice A n c->iD (jl B L) (jJ L) w (.sl nl n sz el) (.slice A n c)->A.isNone=false:=by
    intro A c hn e1 hr;cases A with
    |some ad=>rfl
    |none=>
     cases hr with
     |sl _ _ _ _ _ _ f hc hm h0=>have:=h0 rfl;omega
   generalize hv:a.eval x=vx at hx;cases hx with
   |sl _ _ _ _ A c f hc hm h0 hl hr cell k=>
    have yZ:iD (jl B L) (jJ L) w (.sl nl n sz el) (.slice A n c):=.sl nl n sz el A c f hc hm h0 hl hr cell k;split at h
    .cases h;have hn:0<n:=ho _ aK;refine j9.pure r (v:=.bool false) ?_ rfl (.v _);simp only[execOp,iB,hv,hy,Sem.run_bind,eqGuard_at_slice,Sem.run_pure,Result.andThen_ok,Lib.run_eql_slice_nil w t e A n c 0 0 hu,key A c hn hv yZ]
    .cases h;have hn:0<n:=ho _ aK;refine j9.pure r (v:=.bool true) ?_ rfl (.v _);simp only[execOp,iB,hv,hy,Sem.run_bind,eqGuard_at_slice,Sem.run_pure,Result.andThen_ok,run_neq_slice_nil_any w t e A n c 0 0 hu,key A c hn hv yZ,ew]
    .cases h
  .cases h
 .rename_i xe ye sG C8;rw[sG]at hx;rw[C8]at hy;split at h
  .rename_i v hv;cases h;obtain⟨h1,h2⟩:=ho _ (gL.2 rfl) _ _ w _ _ x y hx hy;refine j9.pure r (v:=v) ?_ rfl (.v _);simp only[execOp,iB,Sem.run_bind,h1,Result.andThen_ok,h2,Sem.run_pure]
  .cases h
 .cases h
def ahp{op:UnOp}{t:TypeId}{x:Operand}(iB:o.op = .unOp op t x)(r:jd w0 B σ a w L)(h:jA P K T O σ o=some u)(ho:∀ q,q ∈ u.jE->q):j9 P K w0 B σ o a w u:=by
 simp only[jA,iB]at h;have hx:=r.op x;split at h
 .rename_i z hv;rw[hv]at hx;have hx:=iD.kJ hx;cases h;exact j9.pure r (v:=.bool (!z)) (by simp[execOp,iB,hx,Op.unary]) rfl (.v _)
 .rename_i k z hv;rw[hv]at hx;have hx:=iD.kJ hx;cases h;have:=IZ (ho (ku k (0-z)) aK);refine j9.pure r (v:=.int k (0-z)) ?_ rfl (.v _);simp only[execOp,iB,hx,Op.unary,Op.intArith,this];rfl
 .cases h
def ag5(hT:mL P T){src dst:TypeId}{x:Operand}(iB:o.op = .convert src dst x)(r:jd w0 B σ a w L)(h:jA P K T O σ o=some u):j9 P K w0 B σ o a w u:=by
 simp only[jA,iB]at h;have hx:=r.op x;split at h
 .rename_i k ts k' z hd hs hv;rw[hv]at hx;have hx:=iD.kJ hx;obtain⟨td,h1,h2⟩:=Bb hd;have hu:P.underlying dst=some (.int k):=by rw[hT.rS h1,h2]
  have hk:P.intKind dst=k:=by simp[Program.intKind,hu]
  have kS:=run_convert_int (P:=P) w src dst k' z (by rw[hT.rS hs];rfl) (by rw[hk];exact hu);rw[hk]at kS;cases h;exact j9.pure r (v:=.int k (k.wrap z)) (by simp only[execOp,iB,hx,Sem.run_bind,kS];rfl) rfl (.v _)
 .cases h
def ag6{x:Operand}{i:Nat}(iB:o.op = .extract x i)(r:jd w0 B σ a w L)(h:jA P K T O σ o=some u):j9 P K w0 B σ o a w u:=by
 simp only[jA,iB]at h;have hx:=r.op x;split at h
 .rename_i l hv;rw[hv]at hx;obtain⟨vs,e,hr⟩:=iD.abm hx;split at h
  .rename_i y hy;cases h;have iC:i<vs.length:=by rw[hr.len];exact(cr.1 hy).1
   have ER:=bF iC;refine j9.pure r (v:=vs[i]) ?_ rfl (hr.kT i y _ hy ER);simp only[execOp,iB,e,Instr.extract,gJ,ER];rfl
  .cases h
 .cases h
def X3{bs:Nat->Prop}{z:Int}{e:E}:∀ {l:List (Int×FuncId×List FuncId)} {es:List MapEntry} (i:Nat),Ci bs w l es->Dv l z=some e->(∀ b,jJ L b->bs b) ->
 ∃ j v,Instr.findNow (.int .i64) (.int .i64 z) es i=some (some (j,v))/\iD bs (jJ L) w e v
 | [],_,_,_,h,_=>by cases h
 |_::_,[],_,k,_,_=>k.elim
 |x::l,y::es,i,⟨⟨k1,vs,k2,k3,k4⟩,k⟩,h,hm=>by
  unfold Dv at h;have e0:Instr.sameNow (.int .i64) (.int .i64 z) y.key=some (z==x.1):=by rw[k1];rfl
  by_cases hz:x.1=z
  .rw [bk hz]at h;cases h;have e1:(z==x.1)=true:=by simp[hz]
   refine⟨i,y.val,?_,?_⟩
   .rw [Instr.findNow,e0,e1]
   .rw [k2];refine .fn _ _ vs (by simpa using k3) λj p v hp hv=>?_
    rw[cF]at hp;obtain⟨g,hg,rfl⟩:=cQ.1 hp;obtain⟨b,rfl,q2,q3,q4⟩:=k4 j g v hg hv;have hc:∀ q,q<1->w.cell? ⟨b,0+q,none⟩=some (.func (.func g) #[] #[]):=λq hq=>by
     obtain rfl:q=0:= aE ;exact q4
    exact .iV 1 _ b 0 (λ_=>.func (.func g) #[] #[]) (λh=>q2 (hm b h)) q3 (λ_ _=>rfl) hc λ_ _=>.fn g [] [] rfl (λi p x h=>by simp at h)
  .rw [bj hz]at h;have e1:(z==x.1)=false:=by simp;exact λe=>hz e.symm
   obtain⟨j,v,q1,q2⟩:=X3 (i+1) k h hm;exact⟨j,v,by rw[Instr.findNow,e0,e1];exact q1,q2⟩
def aeX{k:TypeId}(hk:P.underlying k=some (.int .i64))(e:Bool)(n:Nat)(z:Int):(Instr.checkKey e (n+1) k (.int .i64 z)).run P w = .ok () w:=by
 unfold Instr.checkKey;simp only[Sem.run_bind,run_underlying hk,Result.andThen];rfl
def ahe(hT:mL P T){t:TypeId}{x i:Operand}{ok:Bool}(iB:o.op = .lookup t x i ok)(r:jd w0 B σ a w L)(h:jA P K T O σ o=some u)(ho:∀ q,q ∈ u.jE->q):j9 P K w0 B σ o a w u:=by
 cases ok with
 |true=>simp[jA,iB]at h
 |false=>
 simp only[jA,iB]at h;have hx:=r.op x;have hi:=r.op i;split at h
 .rename_i l z k e0 hv hw hd;obtain⟨ti,h1,h2⟩:=Bb hd;have hu:P.underlying t=some (.map k e0):=by rw[hT.rS h1,h2]
  rw[hv]at hx;rw[hw]at hi;have hi:=iD.kJ hi;split at h
  .rename_i e Bv hg;obtain⟨tk,h3,h4⟩:=Bb Bv;have hk:P.underlying k=some (.int .i64):=by rw[hT.rS h3,h4]
   cases h;have CS:Dv l z=some e:=ho _ aK;generalize hq:a.eval x=q at hx;cases hx with
   |mp _ b clk es hb iC hh lj=>
    obtain⟨j,v,q1,q2⟩:=X3 (w:=w) (L:=L) 0 lj CS λb h=>.inr h
    refine j9.pure r (v:=v) ?_ rfl q2;have pJ:(getObj b).run P w = .ok (.map es clk) w:=by simp[getObj,Sem.run,hh]
    have hck:=aeX (P:=P) (w:=w) hk es.isEmpty 9999 z;have hfk:(Instr.findKey k (.int .i64 z) es.toList).run P w = .ok (some (j,v)) w:=by unfold Instr.findKey;simp[run_underlying hk,Result.andThen,q1]
    have hl:(Instr.lookup t (.map (some b)) (.int .i64 z) false).run P w = .ok v w:=by
     unfold Instr.lookup;simp[run_underlying hu,pJ,hck,hfk,Result.andThen]
    simp only[execOp,iB,hq,hi,Sem.run_bind,hl,Result.andThen_ok,Sem.run_pure]
  .cases h
 .cases h
def ag7(hT:mL P T){t:TypeId}{x:Operand}{f:Nat}(iB:o.op = .field t x f)(r:jd w0 B σ a w L)(h:jA P K T O σ o=some u):j9 P K w0 B σ o a w u:=by
 simp only[jA,iB]at h;have hx:=r.op x;split at h
 .rename_i l fs hv hd;obtain⟨ti,h1,h2⟩:=Bb hd;have hu:P.underlying t=some (.struct fs):=by rw[hT.rS h1,h2]
  rw[hv]at hx;obtain⟨vs,e,hr⟩:=iD.Cm hx;split at h
  .rename_i fd Om;split at h
   .rename_i ft On;split at h
    .cases h
    .rename_i hag;split at h
     .rename_i y hy;cases h;have iC:fd.offset<vs.length:=by rw[hr.len];exact(cr.1 hy).1
      have ER:=bF iC;refine j9.pure r (v:=vs[fd.offset]) ?_ rfl (hr.kT fd.offset y _ hy ER);simp only[execOp,iB,e,Instr.field,asAgg,Sem.run_bind,Sem.run_pure,Result.andThen_ok,run_underlying hu,Om,part,LJ hT w On,hag,gJ,ER];rfl
     .cases h
   .cases h
  .cases h
 .cases h
def aew{ps:List PV}{l:List CV}{vs:List Value}(h:xE ps=some l)(hlen:vs.length=ps.length)(hr:∀ (i:Nat) (p:PV) (x:Value),ps[i]? = some p->vs[i]? = some x->nI (jl B L) (jJ L) L w p x):
 vs.length=l.length/\∀ (i:Nat) (c:CV) (x:Value),l[i]? = some c->vs[i]? = some x->xy (jl B L) (jJ L) L w c x:=by
 induction ps generalizing l vs with
 |nil=>cases h;exact⟨hlen,λi c x hc=>by simp at hc⟩
 |cons p ps ih=>
  cases vs with
  |nil=>simp at hlen
  |cons y vs=>
   have step:∀ (c0:CV) (l':List CV),xE ps=some l'->xy (jl B L) (jJ L) L w c0 y->l=c0::l' ->
    (y::vs).length=l.length/\∀ (i:Nat) (c:CV) (x:Value),l[i]? = some c->(y::vs)[i]? = some x->xy (jl B L) (jJ L) L w c x:=by
    intro c0 l' qW pQ hl;obtain⟨i1,i2⟩:=ih qW (by simpa using hlen) (λi p x hp hx=>hr (i+1) p x (by simpa using hp) (by simpa using hx));subst hl;refine⟨by simp[i1],λi c x hc hx=>?_⟩;cases i with
    |zero=>simp at hc hx;subst hc hx;exact pQ
    |succ i=>simp at hc hx;exact i2 i c x hc hx
   have h0:=hr 0 p y rfl rfl;cases p with
   |e x=>
    simp only[xE]at h;obtain⟨l',qW,rfl⟩:=cQ.1 h;exact step (.e x) l' qW h0 rfl
   |box id off=>
    cases off with
    |zero=>
     simp only[xE]at h;obtain⟨l',qW,rfl⟩:=cQ.1 h;exact step (.box id) l' qW h0 rfl
    |succ=>simp[xE]at h
   |nF id sz i j=>
    simp only[xE]at h;split at h
    .rename_i hc;simp only[bO]at hc;obtain rfl:=lg.1 hc.1.1;obtain rfl:=lg.1 hc.1.2;obtain rfl:=lg.1 hc.2;obtain⟨l',qW,rfl⟩:=cQ.1 h;obtain⟨k1,b,n,c,k2,k3⟩:=h0;exact step (.row id) l' qW ⟨k1,b,n,c,k2,by simpa using k3⟩ rfl
    .cases h
   |_=>simp[xE]at h
def ahf{fn:Fn}{first cap:Array Operand}(iB:o.op = .makeFunc fn first cap)(r:jd w0 B σ a w L)(h:jA P K T O σ o=some u):j9 P K w0 B σ o a w u:=by
 cases fn with
 |func f=>
  simp only[jA,iB]at h;split at h
  .rename_i ahW;have hf:first = #[]:=by simpa using ahW
   subst hf;split at h
   .rename_i l hl;cases h;have hc:=aew (B:=B) (L:=L) (w:=w) (vs:=cap.toList.map a.eval) hl aK (λi p x hp hx=>by
     rw[cF]at hp hx;obtain⟨q,hq,rfl⟩:=cQ.1 hp;rw[hq]at hx;simp at hx;subst hx;exact r.op q)
    refine j9.pure r (v:=.func (.func f) #[] (cap.toList.map a.eval).toArray) ?_ rfl ⟨cap.toList.map a.eval,rfl,hc.1,hc.2⟩;have e1:cap.map a.eval=(cap.toList.map a.eval).toArray:=by apply dx;simp
    have e2:(#[]:Array Operand).map a.eval = #[]:= aK ;simp only[execOp,iB,Instr.makeFunc,e1,e2,Sem.run_bind,Sem.run_pure,Result.andThen_ok]
   .cases h
  .cases h
 |_=>simp[jA,iB]at h
def ag9(hT:mL P T){t:TypeId}{x i:Operand}(iB:o.op = .index t x i)(r:jd w0 B σ a w L)(h:jA P K T O σ o=some u)(ho:∀ q,q ∈ u.jE->q):j9 P K w0 B σ o a w u:=by
 simp only[jA,iB]at h;have hx:=r.op x;have hi:=r.op i;split at h
 .rename_i l k z hv hw;rw[hv]at hx;rw[hw]at hi;have ei:=iD.kJ hi;obtain⟨vs,e,hr⟩:=iD.Cm hx;split at h
  .rename_i tt qZ;split at h
   .rename_i n e' hd;have hu:P.underlying t=some (.array n e'):=by rw[hT.rS qZ,hd]
    split at h
    .rename_i te nT;split at h
     .rename_i hc;simp only[bO,lg]at hc;cases h;obtain⟨xX,wb⟩:=ho (0<=z/\z<n) aK;refine j9.pure r (v:=.agg ((vs.drop (z.toNat*te.i.size)).take te.i.size).toArray) ?_ rfl ((hr.drop _).take _).agg;simp only[execOp,iB,e,ei,Instr.index,asIntOf,Sem.run_bind,Sem.run_pure,Result.andThen_ok,run_underlying hu,xX,wb,and_self,bJ,uE hT w nT,part,LJ hT w nT,hc.1];simp
     .cases h
    .cases h
   .cases h
  .cases h
 .cases h
def ag8(hT:mL P T){t:TypeId}{x:Operand}{f:Nat}(iB:o.op = .fieldAddr t x f)(r:jd w0 B σ a w L)(h:jA P K T O σ o=some u):j9 P K w0 B σ o a w u:=by
 simp only[jA,iB]at h;have hx:=r.op x;split at h
 .rename_i fs hd;obtain⟨ti,h1,h2⟩:=Bb hd;have hu:P.underlying t=some (.struct fs):=by rw[hT.rS h1,h2]
  split at h
  .rename_i fd Om;split at h
   .rename_i ft On;split at h
    .cases h
    .rename_i ju;have ah4:¬ft.i.size=0:=λe=>ju (lg.2 e)
     have kS:∀ b off,a.eval x = .pointer (some ⟨b,off,none⟩)->(execOp a.eval o).run P w = .ok (.value (.pointer (some ⟨b,off+fd.offset,none⟩))) w:=by
      intro b off e;simp only[execOp,iB,e,Instr.fieldAt,Instr.sureAddr,fieldPlace,Sem.run_bind,run_underlying hu,Result.andThen_ok,Om,Sem.run_pure,uE hT w On,ah4,bC,Addr.add_lit]
     split at h
     .rename_i id off hv;rw[hv]at hx;obtain⟨k1,b,k2,k3⟩:=hx;cases h;exact j9.pure r (kS b off k3) rfl ⟨k1,b,k2,rfl⟩
     .rename_i id sz i j hv;rw[hv]at hx;obtain⟨k1,b,n,c,k2,k3⟩:=hx;cases h;exact j9.pure r (kS b _ k3) rfl ⟨k1,b,n,c,k2,by rw[cR]⟩
     .rename_i id sz k i j hv;rw[hv]at hx;obtain⟨k1,b,n,c,k2,k3⟩:=hx;cases h;exact j9.pure r (kS b _ k3) rfl ⟨k1,b,n,c,k2,by rw[cR]⟩
     .rename_i m el hv;rw[hv]at hx;split at h
      .rename_i hle;have V5:=cP hle;cases h;generalize hq:a.eval x=q at hx;cases hx with
       |iV _ _ b off g hb iC hl cell kk=>
        refine j9.pure r (kS b off hq) rfl (.iV _ _ b _ (λj=>g (fd.offset+j)) hb iC (λj hj=>hl _ aE) (λj hj=>?_) (λj hj=>kk _ aE));have:=cell (fd.offset+j) aE;rwa[<-cR]at this
      .cases h
     .cases h
   .cases h
  .cases h
 .cases h
end
section
variable {P:Program} {K:World->Prop} {T:List TI} {O:qB} {w0:World} {B:Nat->Prop} {σ:PS} {o:Oper} {a:Act} {w:World} {L:Lk} {u:kO}
def aj3(hT:mL P T){t:TypeId}{x:Operand}{ti:TI}(rE:mU T t=some ti)(iB:o.op = .load t x)(r:jd w0 B σ a w L)(h:Hq ti (σ.read (σ.op x) ti.i.size)=some u)(ho:∀ q,q ∈ u.jE->q):j9 P K w0 B σ o a w u:=by
 cases hr:σ.read (σ.op x) ti.i.size with
 |none=>rw[hr]at h;cases h
 |some y=>
  obtain⟨l,is,jE⟩:=y;rw[hr]at h;simp only[Hq]at h;by_cases ha:ti.isAgg=true
  .rw [bk ha]at h;cases h;obtain⟨b,q,vs,e,h1,h2,h3⟩:=r.read (r.op x) hr ho;refine j9.pure r (v:=.agg vs.toArray) ?_ rfl h1.agg;simp only[execOp,iB,e,Instr.loadAt,Instr.sureAddr,Sem.run_bind,Sem.run_pure,Result.andThen_ok,ZY hT w rE ha b q vs h2 h3]
  .rw [bj ha]at h;have Ew:ti.isAgg=false:=by simpa using ha
   split at h
   .rename_i p;cases h;obtain⟨b,q,vs,e,h1,h2,h3⟩:=r.read (r.op x) hr ho;obtain⟨y,ys,rfl,hy,Da⟩:=h1.mG;refine j9.pure r (v:=y) ?_ rfl hy;have hc:=h3 0 y rfl;simp only[execOp,iB,e,Instr.loadAt,Instr.sureAddr,Sem.run_bind,Sem.run_pure,Result.andThen_ok,QR hT w rE Ew b q y (by simpa using hc)]
   .cases h
def ahd(hT:mL P T){t:TypeId}{x:Operand}(iB:o.op = .load t x)(r:jd w0 B σ a w L)(h:jA P K T O σ o=some u)(ho:∀ q,q ∈ u.jE->q):j9 P K w0 B σ o a w u:=by
 simp only[jA,iB,JU]at h;split at h
 .rename_i ti rE;split at h
  .rename_i id i n qs;by_cases ha:ti.isAgg=true
   .rw [bk ha]at h;cases h
   .rw [bj ha]at h;have Ew:ti.isAgg=false:=by simpa using ha
    cases h;have hx:=r.op x;cases hp:σ.op x with
    |nF id' sz i' j=>
     rw[hp]at qs hx;simp only[DQ]at qs;split at qs
     .rename_i nl T1 T0 n' sz' len el jg;split at qs
      .rename_i hc;simp only[bG,bZ]at qs;obtain⟨rfl,rfl,rfl⟩:=qs;simp only[bO]at hc;have e1:=lg.1 hc.1;have e2:=lg.1 hc.2;subst e1 e2;have hi:i'<n':=ho _ aK;obtain⟨b,c,cur,f,h1,h2,h3,h4,h5,h6,h7,h8,h9,qF,sP⟩:=(r.hb id' _ jg).xr aE;obtain⟨k1,b',n2,c2,k2,k3⟩:=hx;rw[h1]at k2;cases k2;refine j9.pure r (v:=L.iN id' i') ?_ rfl ⟨k1,rfl⟩;have ky:w.cell? ⟨b,i'*1+0,none⟩=some (L.iN id' i'):=by
        simp only[World.cell?,h2];simpa using h6 i' hi aK 
       simp only[execOp,iB,k3,Instr.loadAt,Instr.sureAddr,Sem.run_bind,Sem.run_pure,Result.andThen_ok,QR hT w rE Ew b _ _ ky]
      .cases qs
     .cases qs
    |_=>rw[hp]at qs;cases qs
  .exact aj3 hT rE iB r h ho
 .cases h
def Za{bs br:Nat->Prop}{l m:List E}{vs us:List Value}(h:kr bs br w l vs)(k:kr bs br w m us)(off:Nat):kr bs br w (BX l off m) (vs.take off++us++vs.drop (off+us.length)):=by
 unfold BX;rw[k.len];exact((h.take off).app k).app (h.drop _)
def alJ{q:E->Bool}{l m:List E}(h:l.all q=true)(k:m.all q=true)(off:Nat):(BX l off m).all q=true:=by
 unfold BX;rw[List.all_append,List.all_append,k];have h1:(l.take off).all q=true:=bX.2 λx hx=>bX.1 h x (eH hx)
 have h2:(l.drop (off+m.length)).all q=true:=bX.2 λx hx=>bX.1 h x (fi hx)
 rw[h1,h2];rfl
def aho(hT:mL P T){t:TypeId}{x y:Operand}(iB:o.op = .store t x y)(r:jd w0 B σ a w L)(h:jA P K T O σ o=some u)(ho:∀ q,q ∈ u.jE->q):j9 P K w0 B σ o a w u:=by
 simp only[jA,iB,JX]at h;have hx:=r.op x;have hy:=r.op y;split at h
 .rename_i ti rE;split at h
  .
   rename_i id off e pn C4;rw[pn]at hx;rw[C4]at hy;split at h
   .rename_i T1 l m jg hm;split at h
    .rename_i hc;cases h;simp only[bO]at hc;have c1:=lg.1 hc.1.1;have c2:=cP hc.1.2;obtain⟨b,vs,h1,h2,h3,h4,h5⟩:=r.hb id _ jg;obtain⟨k1,b',k2,k3⟩:=hx;rw[h1]at k2;cases k2;obtain⟨q1,q2⟩:=hy.cells hm;have ht:=sw.setRow (L:=L) ((h2 b).2 rfl) (λx hx=>(r.hw id x hx).2) (vs.take off++(a.eval y).cells.toList++vs.drop (off+(a.eval y).cells.toList.length)).toArray;have hl:=ht.later (L.val id) (L.iN id);refine⟨undef,_,_,.inr ⟨?_,rfl⟩,r.wH id (.cells T1 (BX l off m)) _ k1 ht ⟨b,_,by rw[Lk.pX];exact h1,λx=>(Lk.tU x).trans (h2 x),setRow_heap w b _ _ T1 _ h3,(Za h4 q1 off).mono λ_ _=>hl.kT,?_⟩ ?_,.any _⟩
     .have hr:=LK hT w rE b off T1 vs.toArray h3 (a.eval y) (by rw[q1.len,c1]) (by rw[q1.len,gh,h4.len];exact c2) q2;simp only[execOp,iB,k3,Instr.storeAt,Instr.sureAddr,Sem.run_bind,Sem.run_pure,Result.andThen_ok,hr]
     .intro v hv;simp only[dN]at hv;rcases hv with(hv|hv)|hv
      .exact h5 v (eH hv)
      .exact q2 v hv
      .exact h5 v (fi hv)
     .intro hn;have:=hc.2;rw[hn]at this;exact alJ (r.hl hn id _ jg) (by simpa using this) off
    .cases h
   .cases h
  .
   rename_i id q pn C4;rw[pn]at hx;rw[C4]at hy;split at h
   .rename_i T1 x0 nl T0 n sz el jg vQ;split at h
    .rename_i hc;cases h;simp only[bO,dW]at hc;have ju:id≠q:=λe=>by rw[e,cD]at hc;cases hc.1
     have c1:=lg.1 hc.2;obtain⟨b,vs,h1,h2,h3,h4,h5⟩:=r.hb id _ jg;obtain⟨k1,b',k2,k3⟩:=hx;rw[h1]at k2;cases k2;obtain⟨_,Db⟩:=hy;obtain⟨v0,rfl⟩:∃ v0,vs=[v0]:=by
      have:=h4.len;rcases vs with _|⟨v0,_|⟨v1,vs⟩⟩
      .simp at this
      .exact ⟨v0,rfl⟩
      .simp at this
     obtain⟨f,g1,_⟩:=r.hb q _ vQ;have ky:(L.val q).cells.toList=[L.val q]/\(L.val q).oneCell'=true:=by
      rcases g1 with⟨g,_⟩|⟨b1,c1,cur,g,_⟩<;>rw[g]<;>exact⟨rfl,rfl⟩
     have ht:=sw.setRow (L:=L) ((h2 b).2 rfl) (λx hx=>(r.hw id x hx).2) #[L.val q];obtain⟨L',hr⟩:=r.sj jg vQ ju h1 (setRow_heap w b _ _ T1 _ h3) ht;refine⟨undef,_,L',.inr ⟨?_,rfl⟩,hr,.any _⟩;have kS:=LK hT w rE b 0 T1 #[v0] h3 (a.eval y) (by rw[Db,ky.1,c1];rfl) (by rw[Db,ky.1];exact bu 1) (by rw[Db,ky.1];exact λu hu=>by rw[gL.1 hu];exact ky.2);rw[Db,ky.1]at kS;simp only[execOp,iB,k3,Instr.storeAt,Instr.sureAddr,Sem.run_bind,Sem.run_pure,Result.andThen_ok,Db,kS];rfl
    .cases h
   .cases h
  .
   rename_i id sz i j e pn C4;rw[pn]at hx;rw[C4]at hy;split at h
   .rename_i nl T1 n s el m jg hm;split at h
    .rename_i hc;cases h;simp only[bO]at hc;have c1:=lg.1 hc.1.1.1.1;have c2:=lg.1 hc.1.1.1.2;have c3:=cP hc.1.1.2;subst c2;have hi:i<n:=ho _ aK;obtain⟨f,h1,h2,h3⟩:=r.hb id _ jg;obtain⟨k1,b',n',c',k2,k3⟩:=hx;rcases h1 with⟨h1,_⟩|⟨b,c,cur,h1,hg,pj,oq,nC,ky,jL⟩
     .rw [k2]at h1;cases h1
     .rw [k2]at h1;cases h1;obtain⟨q1,q2⟩:=hy.cells hm;have mc:L.own id b':=(h2 b').2 (by rw[k2];rfl);have ap0:i*s+s<=cur.size:=by
       rw[nC];have:=bW s (aE:i+1<=c');rwa[b8,b9]at this
      have r9:i*s+j+(a.eval y).cells.toList.length<=cur.size:=by rw[q1.len];omega
      have ht:=sw.setRow (L:=L) mc (λx hx=>(r.hw id x hx).2) (cur.toList.take (i*s+j)++(a.eval y).cells.toList++cur.toList.drop (i*s+j+(a.eval y).cells.toList.length)).toArray;have hl:=ht.later (L.val id) (L.iN id);refine⟨undef,_,_,.inr ⟨?_,rfl⟩,r.wH id _ _ k1 ht ⟨λi' j'=>if i'=i/\j<=j'/\j'<j+m.length then(a.eval y).cells.toList.getD (j'-j) undef else f i' j',?_,λx=>?_,?_⟩ ?_,.any _⟩
      .have hr:=LK hT w rE b' (i*s+j) T1 cur hg (a.eval y) (by rw[q1.len,c1]) r9 q2;simp only[execOp,iB,k3,Instr.storeAt,Instr.sureAddr,Sem.run_bind,Sem.run_pure,Result.andThen_ok,hr]
      .rw [Lk.pX];refine .inr ⟨b',c',_,k2,setRow_heap w b' _ _ T1 _ hg,pj,oq,?_,?_,?_⟩
       .simp only[gh,cz,cw,eV,dD];have ahX:=r9;simp only[dD]at ahX;rw[dj aE];omega
       .intro i' j' mS tv;obtain⟨o1,o2⟩:=ky i' j' mS tv;have hlen:i'*s+j'<cur.size:=by
         rw[nC];have:=bW s (aE:i'+1<=c');rw[b8,b9]at this;omega
        have qL:i'≠i->i'*s+j'<i*s\/i*s+s<=i'*s+j':=by
         intro ju;rcases Nat.lt_or_gt_of_ne ju with iC|iC
         .left;have:=bW s (show i'+1<=i from iC);rw[b8,b9]at this;omega
         .right;have:=bW s (show i+1<=i' from iC);rw[b8,b9]at this;omega
        simp only[gJ];rw[aqz,eU,cw,dD,dj aE];by_cases lO:i'=i/\j<=j'/\j'<j+m.length
        .obtain ⟨rfl,p1,p2⟩:=lO;rw[bj aE,dH (by rw[q1.len];omega)];have e1:i'*s+j'-(i'*s+j)=j'-j:= aE ;have iC:j'-j<(a.eval y).cells.toList.length:=by rw[q1.len];omega
         rw[bk ⟨rfl,p1,p2⟩,e1,bw,bF iC];exact⟨rfl,q2 _ (cG iC)⟩
        .rw [bj lO];refine⟨?_,o2⟩;by_cases kD:i'*s+j'<i*s+j
         .rw [bk kD,ev,bk kD];simpa using o1
         .rw [bj kD,fu,eR]
          .have:i*s+j+(a.eval y).cells.toList.length+(i'*s+j'-(i*s+j)-(a.eval y).cells.toList.length)=i'*s+j':=by
            rw[q1.len];by_cases GI:i'=i
            .subst GI;omega
            .have:=qL GI;omega
           rw[this];simpa using o1
          .rw [q1.len];by_cases GI:i'=i
           .subst GI;omega
           .have:=qL GI;omega
       .intro hn v hv;simp only[gK,dN]at hv;rcases hv with(hv|hv)|hv
        .exact jL hn v (by have:=eH hv;simpa using this)
        .obtain ⟨q,hq⟩:=dC.1 hv;have xT:q<m.length:=by rw[<-q1.len];exact(cr.1 hq).1
         have OC:m.all E.nE=true:=by have:=hc.1.2;rw[hn]at this;simpa using this
         exact(q1.kT q _ v (bF xT) hq).nE (bX.1 OC _ (cG xT))
        .exact jL hn v (by have:=fi hv;simpa using this)
      .rw [Lk.pX];exact(Lk.tU x).trans (h2 x)
      .intro i' j' mS tv;refine(λ(q:iD _ _ _ _ _/\_)=>⟨hl.kT q.1,q.2⟩) (?_:_/\_);dsimp only;by_cases lO:i'=i/\j<=j'/\j'<j+m.length
       .rw [bk lO,bk lO];have EJ:j'-j<m.length:= aE ;have Hb:j'-j<(a.eval y).cells.toList.length:=by rw[q1.len];omega
        rw[bw,bF EJ,bw,bF Hb];exact⟨q1.kT _ _ _ (bF EJ) (bF Hb),bX.1 hc.2 _ (cG EJ)⟩
       .rw [bj lO,bj lO];exact h3 i' j' mS tv
      .intro hn;have:=r.hl hn id _ jg;exact this
    .cases h
   .cases h
  .
   rename_i id i id' k pn C4;rw[pn]at hx;rw[C4]at hy;split at h
   .rename_i nl T1 T0 n sz len el k' jg;split at h
    .rename_i hc;cases h;simp only[bO]at hc;have c1:=lg.1 hc.1;have c2:=lg.1 hc.2;subst c1;have e1:i=k':=ho _ aK;have e2:k=k':=ho _ aK;have hk:k'<n:=ho _ aK;subst e1 e2;obtain⟨b,c,cur,f,h1,h2,h3,h4,h5,h6,h7,h8,h9,qF,sP⟩:=(r.hb id _ jg).xr aE;obtain⟨k1,b',n',c',k2,k3⟩:=hx;obtain⟨_,ET⟩:=hy;rw[h1]at k2;cases k2;have C1:(L.iN id k).oneCell'=true/\rf (L.iN id k)=false/\(L.iN id k).cells = #[L.iN id k]:=by
      rcases(h8 k hk).1 with⟨e,_⟩|⟨_,_,_,e,_⟩<;>rw[e]<;>exact⟨rfl,rfl,rfl⟩
     have mc:L.own id b:=(h9 b).2 (.inl rfl);have ht:=sw.setRow (L:=L) mc (λx hx=>(r.hw id x hx).2) (cur.toList.take (k*1+0)++(a.eval y).cells.toList++cur.toList.drop (k*1+0+(a.eval y).cells.toList.length)).toArray;have hl:=ht.later (L.val id) (L.iN id);have yU:(a.eval y).cells.toList=[L.iN id k]:=by rw[ET,C1.2.2]
     have VP:(cur.toList.take (k*1+0)++(a.eval y).cells.toList++cur.toList.drop (k*1+0+(a.eval y).cells.toList.length)).toArray=cur.setIfInBounds k (L.iN id k):=by
      rw[yU];apply dx;simp only[ck,bY,fR,aqW];rw[List.set_eq_take_append_cons_drop,bk (by simpa using(aE:k<cur.size))];simp
     rw[VP]at ht hl;have xO:∀ x,x≠b->(w.setRow b (cur.setIfInBounds k (L.iN id k))).heap[x]? = w.heap[x]?:=λx hx=>setRow_other w b x _ hx
     refine⟨undef,_,_,.inr ⟨?_,rfl⟩,r.wH id _ _ k1 ht (.inr ⟨b,c,cur.setIfInBounds k (L.iN id k),f,by rw[Lk.pX];exact h1,setRow_heap w b _ _ T1 _ h2,h3,h4,by simpa using h5,?_,?_,?_,?_,?_,?_⟩) ?_,.any _⟩
     .have hr:=LK hT w rE b (k*1+0) T1 cur h2 (a.eval y) (by rw[yU];simpa using c2.symm) (by rw[yU];simp;omega) (by rw[yU];simpa using C1.1);rw[VP]at hr;simp only[execOp,iB,k3,Instr.storeAt,Instr.sureAddr,Sem.run_bind,Sem.run_pure,Result.andThen_ok,hr]
     .intro q hq _;rw[Lk.sU];by_cases uY:q=k
      .subst uY;have:q<cur.size:= aE ;simp[this]
      .rw [aqU (λe=>uY e.symm)];exact h6 q hq (by simpa using λe=>uY e.symm)
     .intro v hv;rcases Array.mem_or_eq_of_mem_setIfInBounds hv with hv|hv
      .exact h7 v hv
      .subst hv;exact C1.2.1
     .intro q hq;obtain⟨p1,p2⟩:=h8 q hq;rw[Lk.sU];exact⟨p1.block λx hx=>xO x λe=>sP q hq (e▸hx),λi j hi hj=>⟨hl.kT (p2 i j hi hj).1,(p2 i j hi hj).2⟩⟩
     .intro x;rw[Lk.tU];refine(h9 x).trans ?_;simp only[Lk.sU]
     .simp only[Lk.sU];exact qF
     .simp only[Lk.sU];exact sP
     .intro hn;have:=r.hl hn id _ jg;exact this
    .cases h
   .cases h
  .cases h
 .cases h
def agY(hT:mL P T){t:TypeId}(iB:o.op = .alloc t)(r:jd w0 B σ a w L)(h:jA P K T O σ o=some u):j9 P K w0 B σ o a w u:=by
 simp only[jA,iB]at h;split at h
 .rename_i ti rE;split at h
  .rename_i z hz;obtain⟨id,hd,jL,rfl⟩:=K1 h;obtain⟨zv,tG,sF⟩:=FL hz;obtain⟨q1,q2⟩:=sF (jl B L) (jJ L) w;obtain⟨L',r',hp⟩:=r.YA id t z zv q1 q2 (by simpa[Bx.nl]using jL);refine⟨_,_,L',.inl ?_,r',hp⟩;simp only[execOp,iB,Instr.alloc,Sem.run_bind,QS hT w rE tG,Result.andThen_ok,newVar,newRow,run_newObj_alloc,Sem.run_pure]
  .cases h
 .cases h
def ag2{t:TypeId}{x:Operand}(iB:o.op = .box t x)(r:jd w0 B σ a w L)(h:jA P K T O σ o=some u):j9 P K w0 B σ o a w u:=by
 simp only[jA,iB]at h;have hx:=r.op x;split at h
 .rename_i e hv;rw[hv]at hx;split at h
  .rename_i l hl;obtain⟨id,hd,jL,rfl⟩:=K1 h;obtain⟨q1,q2⟩:=hx.cells hl;obtain⟨L',r',hp⟩:=r.YA id t l (a.eval x) q1 q2 (by simpa[Bx.nl]using jL);refine⟨_,_,L',.inl ?_,r',hp⟩;simp only[execOp,iB,Instr.box,Sem.run_bind,Result.andThen_ok,newVar,newRow,run_newObj_alloc,Sem.run_pure]
  .cases h
 .cases h
end
def agz(us:List Value):∀ (off k:Nat) (cs:Array Value),off+k+us.length<=cs.size ->
 (us.zipIdx k).foldl (λcs (c:Value×Nat)=>cs.setIfInBounds (off+c.2) c.1) cs=(cs.toList.take (off+k)++us++cs.toList.drop (off+k+us.length)).toArray:=by
 induction us with
 |nil=>intro off k cs h;simp
 |cons x us ih=>
  intro off k cs h;simp only[List.zipIdx_cons,List.foldl_cons];rw[ih off (k+1) _ (by simp at h ⊢;omega)];apply dx;simp only[cY]at h;obtain⟨A,y,D,nC,hA⟩:∃ A y D,cs.toList=A++y::D/\A.length=off+k:=by
   have iC:off+k<cs.toList.length:= aS ;refine⟨cs.toList.take (off+k),cs.toList[off+k],cs.toList.drop (off+k+1),?_,by rw[cw];omega⟩;rw[<-fj iC,aqr]
  simp only[aqW,cY,nC,<-hA];rw[List.set_append_right _ _ (bu _),dq,List.set_cons_zero,
   show off+(k+1)+us.length=A.length+(us.length+1)by omega,(aE:off+(k+1)=A.length+1),
   List.take_length_add_append,aqX,List.take_left,aqX]
  simp
def UE(place:Nat->Option (Nat×Nat))(cs:Array Value)(i:Nat)(v:Value)(rest:List (Nat×Value))(off:Nat)(hp:place i=some (off,v.cells.toList.length))(r9:off+v.cells.toList.length<=cs.size):
 Instr.fill place cs ((i,v)::rest)=Instr.fill place (cs.toList.take off++v.cells.toList++cs.toList.drop (off+v.cells.toList.length)).toArray rest:=by
 have h1:¬(v.cells.size≠v.cells.toList.length\/off+v.cells.size>cs.size):=by simp at r9 ⊢;omega
 have hf:=agz v.cells.toList off 0 cs (by simpa using r9);simp only[bY]at hf;have h2:(v.cells.zipIdx.foldl (λcs (c,j)=>cs.setIfInBounds (off+j) c) cs)=(cs.toList.take off++v.cells.toList++cs.toList.drop (off+v.cells.toList.length)).toArray:=by
  rw[<-hf,<-Array.foldl_toList,Array.toList_zipIdx]
 rw[Instr.fill,hp];simp only;rw[bj (by simpa using h1),h2]
section
variable {P:Program} {K:World->Prop} {T:List TI} {O:qB} {w0:World} {B:Nat->Prop} {σ:PS} {o:Oper} {a:Act} {w:World} {L:Lk} {u:kO}
def Nz(r:jd w0 B σ a w L){place:Nat->Option (Nat×Nat)}{ps:List (Nat×Operand)}{l m:List E}{cs:Array Value}(h:sZ σ place l ps=some m)
 (hr:kr (jl B L) (jJ L) w l cs.toList) (h1:∀ u ∈ cs,u.oneCell'=true):
 ∃ cs',Instr.fill place cs (ps.map λx=>(x.1,a.eval x.2))=some cs'/\kr (jl B L) (jJ L) w m cs'.toList/\(∀ u ∈ cs',u.oneCell'=true):=by
 induction ps generalizing l cs with
 |nil=>
  simp only[sZ]at h;cases h;exact⟨cs,rfl,hr,h1⟩
 |cons p ps ih=>
  obtain⟨i,x⟩:=p;simp only[sZ]at h;have hx:=r.op x;split at h
  .rename_i off size e hp hv;rw[hv]at hx;split at h
   .rename_i q hq;split at h
    .rename_i hc;simp only[bO]at hc;have c1:=lg.1 hc.1;have c2:=cP hc.2;obtain⟨q1,q2⟩:=hx.cells hq;have hlen:(a.eval x).cells.toList.length=size:=by rw[q1.len,c1]
     have hcl:=hr.len;rw[ey,UE place cs i (a.eval x) _ off (by rw[hlen];exact hp) (by rw[q1.len];simp at hcl;omega)];refine ih h (Za hr q1 off) λv hv=>?_
     simp only[gK,dN]at hv;rcases hv with(hv|hv)|hv
     .exact h1 v (by have:=eH hv;simpa using this)
     .exact q2 v hv
     .exact h1 v (by have:=fi hv;simpa using this)
    .cases h
   .cases h
  .cases h
def Qg(ps:Array (Nat×Operand))(a:Act):(ps.map λ(x:Nat×Operand)=>(x.1,a.eval x.2)).toList=ps.toList.map λx=>(x.1,a.eval x.2):= aK 
def alz{P:Program}(hT:mL P T){fs:List Field}{pl:List (Nat×Nat)}(h:Im T fs=some pl):fs.mapM (λf=>(P.info? f.type).map λi=>(f.offset,i.size))=some pl:=by
 induction fs generalizing pl with
 |nil=>simp only[Im]at h;cases h;rfl
 |cons f fs ih=>
  simp only[Im]at h;split at h
  .rename_i ti l h1 h2;cases h;simp[fD,hT.Al h1,ih h2]
  .cases h
def ag3(hT:mL P T){t:TypeId}{ps:Array (Nat×Operand)}(iB:o.op = .build t ps)(r:jd w0 B σ a w L)(h:jA P K T O σ o=some u):j9 P K w0 B σ o a w u:=by
 simp only[jA,iB]at h;have main:∀ (l:List E) (cs:Array Value),P.built t (ps.toList.map λx=>(x.1,a.eval x.2))=some cs->kr (jl B L) (jJ L) w l cs.toList->u={ r:=.e (.agg l) }->j9 P K w0 B σ o a w u:=by
  intro l cs hb hr hu;subst hu;have kS:=run_build (P:=P) w t (ps.map λ(x:Nat×Operand)=>(x.1,a.eval x.2)) cs (by rw[Qg];exact hb);refine j9.pure r (v:=.agg cs) ?_ rfl (by have:=hr.agg;rwa[Array.toArray_toList]at this);simp only[execOp,iB,Sem.run_bind,kS,Result.andThen_ok,Sem.run_pure]
 split at h
 .rename_i ti rE;split at h
  .rename_i z hz;obtain⟨zv,tG,sF⟩:=FL hz;obtain⟨q1,q2⟩:=sF (jl B L) (jJ L) w;split at h
   .rename_i fs hd;split at h
    .rename_i pl C3;obtain⟨l,hl,rfl⟩:=cQ.1 h;obtain⟨cs,p1,p2,_⟩:=Nz r hl q1 (λu hu=>q2 u (by simpa using hu));refine main l cs ?_ p2 rfl;unfold Program.built;rw[hT.Al rE,hT.rS rE,hd];simp only[tG,alz hT C3];have:(λx:Nat=>pl.toArray[x]?)=λx=>pl[x]?:=by funext x;simp
     rw[this];exact p1
    .cases h
   .rename_i n e hd;split at h
    .rename_i te nT;obtain⟨l,hl,rfl⟩:=cQ.1 h;obtain⟨cs,p1,p2,_⟩:=Nz r hl q1 (λu hu=>q2 u (by simpa using hu));refine main l cs ?_ p2 rfl;unfold Program.built;rw[hT.Al rE,hT.rS rE,hd];simp only[tG,hT.Al nT];exact p1
    .cases h
   .cases h
  .cases h
 .cases h
def ZJ{α:Type}(n:Nat)(l:List α):(kT n l).length=n*l.length:=by
 induction n with
 |zero=>simp[kT]
 |succ n ih=>simp only[kT,cz,ih,b8,b9];omega
def amH{α:Type}(n:Nat)(l:List α)(q:Nat)(h:q<n*l.length):(kT n l)[q]? = l[q%l.length]?:=by
 induction n generalizing q with
 |zero=>simp at h
 |succ n ih=>
  simp only[kT];rw[b8,b9]at h;by_cases hq:q<l.length
  .rw [dH hq,ca hq]
  .rw [fu aE,ih _ aE];congr 1;exact(Nat.mod_eq_sub_mod aE).symm
def amI{bs br:Nat->Prop}{z:List E}{zs:Array Value}(h:kr bs br w z zs.toList)(n:Nat):kr bs br w (kT n z) ((Array.range (n*zs.size)).map (zs[· % zs.size]!)).toList:=by
 have hl:=h.len;simp only[dD]at hl;refine⟨by simp[ZJ,hl],λi p x hp hx=>?_⟩;have hi:i<n*zs.size:=by
  have:=(cr.1 hx).1;simpa using this
 have hz:0<zs.size:=by
  rcases ez zs.size with h0|h0
  .rw [h0]at hi;simp at hi
  .exact h0
 rw[amH _ _ _ (by rw[<-hl];exact hi),<-hl]at hp;have iC:=bM i hz;simp[hi]at hx;subst hx;rw[fz zs _ iC];exact h.kT _ p _ hp (by simp[iC])
def aaL(hB:∀ b,B b->b<w0.heap.size)(r:jd w0 B σ a w L)(e:TypeId)(n sz:Nat)(l:List E)(cs:Array Value)(nl:Bool)(hr:kr (jl B L) (jJ L) w l cs.toList)(h1:∀ u ∈ cs,u.oneCell'=true)(hlen:cs.size=n*sz)
 (vW:n<=9223372036854775807) (jL:nl=true->l.all E.nE=true) (oW:l.all (E.nr 2)=true):
 jd w0 B σ a (w.alloc (.cells cs e)) L/\iD (jl B L) (jJ L) (w.alloc (.cells cs e)) (.sl nl n sz λi j=>l.getD (i*sz+j) (.v (.bool false))) (.slice (some ⟨w.heap.size,0,none⟩) n n):=by
 have hb:Below w.heap.size w (w.alloc (.cells cs e)):=(Below.refl _ _).alloc (bu _) _;have hl:sL L w L (w.alloc (.cells cs e)):=⟨hb.size,λ_ _ h=>h,λx hx _=>hb.block x hx⟩
 refine⟨r.later hb,?_⟩;have lO:∀ i j,i<n->j<sz->i*sz+j<cs.size:=by
  intro i j hi hj;rw[hlen];have:=bW sz (show i+1<=n from hi);rw[b8,b9]at this;omega
 have nP:=hr.len;simp only[dD]at nP;refine .sl nl n sz _ _ n (λi j=>cs.getD (i*sz+j) undef) (bu _) vW (λh=>by cases h) (λi j hi hj=>?_) (λi j hi hj=>?_) (λi j hi hj=>?_) (λi j hi hj=>?_)
 .have hq:=lO i j hi hj;have e1:cs.getD (i*sz+j) undef=cs[i*sz+j]:=by simp[hq]
  rw[e1];refine⟨h1 _ (gI hq),λsc=>?_⟩;have vY:i*sz+j<l.length:= aE ;exact(hr.kT (i*sz+j) _ _ (bF vY) (by simp[hq])).nE (bX.1 (jL sc) _ (cG vY))
 .have hq:=lO i j hi hj;have vY:i*sz+j<l.length:= aE ;rw[bw,bF vY];exact bX.1 oW _ (cG vY)
 .have hq:=lO i j hi hj;refine⟨w.heap.size,0,rfl,λBr=>?_,aK,?_⟩
  .rcases Br with hx|⟨id,hx⟩
   .have:=hB _ hx;have:=r.he.size;omega
   .have:=(r.hw id _ hx).2;omega
  .rw [cj,World.cell?_alloc_new];simp[hq]
 .have hq:=lO i j hi hj;have vY:i*sz+j<l.length:= aE ;have e1:cs.getD (i*sz+j) undef=cs[i*sz+j]:=by simp[hq]
  rw[e1,bw,bF vY];exact hl.kT (hr.kT (i*sz+j) _ _ (bF vY) (by simp[hq]))
def ajQ{l:List E}{vs:List Value}{bs br:Nat->Prop}{w:World}(h:kr bs br w l vs)(hl:l.all E.nE=true):∀ v ∈ vs,rf v=false:=by
 intro v hv;obtain⟨i,hi⟩:=dC.1 hv;obtain⟨yV,_⟩:=cr.1 hi;have GJ:i<l.length:=by have:=h.len;omega
 exact(h.kT i _ v (bF GJ) hi).nE (bX.1 hl _ (cG GJ))
def S1(w:World)(hT:mL P T){t e:TypeId}{by_:Nat}(h:JA T t=some (e,by_)):∃ te zv uz,P.underlying t=some (.slice e)/\mU T e=some te/\te.i.size=1/\te.i.bytes=by_/\1<=by_/\te.i.zero=some zv/\zv.cells = #[uz]/\uz.oneCell'=true/\rf uz=false:=by
 unfold JA at h;split at h
 .rename_i tt qZ;split at h
  .rename_i e' hd;split at h
   .rename_i te nT;split at h
    .rename_i z hz;split at h
     .rename_i hc;simp only[bG,bZ]at h;obtain⟨rfl,rfl⟩:=h;simp only[bO]at hc;obtain⟨zv,tG,sF⟩:=FL hz;obtain⟨q1,q2⟩:=sF (λ_=>False) (λ_=>False) w;have hl:=q1.len;simp only[dD,cY,aqA]at hl;obtain⟨uz,Ws⟩:∃ uz,zv.cells = #[uz]:=by
       refine⟨zv.cells[0],?_⟩;apply Array.ext
       .simpa using hl
       .intro i h1 h2;obtain rfl:i=0:=by simp at h2;omega
        rfl
      rw[Ws]at q1 q2;exact⟨te,zv,uz,by rw[hT.rS qZ,hd],nT,lg.1 hc.1.1,rfl,cP hc.1.2,tG,Ws,q2 uz aK,(q1.kT 0 z uz rfl rfl).nE hc.2⟩
     .cases h
    .cases h
   .cases h
  .cases h
 .cases h
def oi.head{v:Value}{T:TypeId}{n sz:Nat}{f:Nat->Nat->Value}{nl:Bool}(h:oi w v T n sz f nl):v.cells.toList=[v]/\v.oneCell'=true/\rf v=false:=by
 rcases h with⟨g,_⟩|⟨b1,c1,cur,g,_⟩<;>rw[g]<;>exact⟨rfl,rfl,rfl⟩
def ahq(hT:mL P T){t:TypeId}{n q:Nat}{ps:Array (Nat×Operand)}(iB:o.op = .buildSlice t n ps)(tA:BV σ ps.toList=some q)(r:jd w0 B σ a w L)(h:CD T σ o.dst t n q=some u):j9 P K w0 B σ o a w u:=by
 obtain⟨x,pn,hx⟩:∃ x,ps.toList=[(0,x)]/\σ.op x = .own q:=by
  unfold BV at tA;split at tA
  .rename_i x pn;refine⟨x,pn,?_⟩;generalize σ.op x=p at tA ⊢;cases p<;>simp only[PV.Fi,reduceCtorEq,bG]at tA;rw[tA]
  .cases tA
 have Wz:=r.op x;rw[hx]at Wz;obtain⟨k1,k2⟩:=Wz;unfold CD at h;split at h
 .rename_i id Kk;split at h
  .rename_i nl T0 m sz el e by_ kE vQ Bt;split at h
   .rename_i hc;cases h;simp only[bO,dW]at hc;obtain rfl:=lg.1 hc.1;have ju:id≠q:=λe=>by have:=hc.2;rw[e,cD]at this;cases this
    obtain⟨te,zv,uz,hu,nT,uj,_,_,tG,xX,_,_⟩:=S1 w hT Bt;obtain⟨f,g1,g2,g3⟩:=r.hb q _ vQ;obtain⟨d1,d2,d3⟩:=g1.head;have kS:(execOp a.eval o).run P w = .ok (.value (.slice (some ⟨w.heap.size,0,none⟩) 1 1)) (w.alloc (.cells #[L.val q] e)):=by
     have nC:(Array.range (1*te.i.size)).map (zv.cells[· % zv.cells.size]!) = #[uz]:=by
      rw[uj,xX];refine Array.ext aK λi h1 h2=>?_
      have:i=0:=by simp at h2;omega
      subst this;simp
     have Kl:Instr.fill (λi=>some (i*te.i.size,te.i.size)) #[uz] (ps.map λ(x:Nat×Operand)=>(x.1,a.eval x.2)).toList=some #[L.val q]:=by
      rw[Qg,pn];simp only[ey,List.map_nil];rw[UE _ _ _ _ _ 0 (by rw[k2,d1,uj];rfl) (by rw[k2,d1];simp)];rw[k2,d1];rfl
     have uU:¬(1*te.i.size>16777216):= aE ;have h0:¬(1*te.i.size=0):= aE ;simp only[execOp,iB,Instr.buildSlice,Sem.run_bind,run_underlying hu,Result.andThen_ok,uE hT w nT,uU,bC,h0,Sem.run_pure,QS hT w nT tG,nC,Kl,newRow,run_newObj_alloc]
    have iC:w.heap.size<(w.alloc (.cells #[L.val q] e)).heap.size:= aK ;have hb:Below w.heap.size w (w.alloc (.cells #[L.val q] e)):=(Below.refl _ _).alloc (bu _) _;refine⟨_,_,_,.inl kS,r.rG ju _ (λx=>x=w.heap.size\/L.own q x) (.slice (some ⟨w.heap.size,0,none⟩) 1 1) (λ_=>L.val q) _ (λy hy=>?_) hb.size (λy hy _=>hb.block y hy) rfl rfl rfl (λhl=>?_) (λOB=>?_) (λhn=>?_),Lk.Pg ju,Lk.Hj.symm⟩
    .rcases hy with rfl|hy
     .exact ⟨.inr (.inr (bu _)),iC⟩
     .exact ⟨.inr (.inl hy),fE (r.hw q y hy).2 iC⟩
    .refine .inr ⟨w.heap.size,1,#[L.val q],λ_=>f,Lk.Hj,heap_alloc_new w _,bu _,aG,rfl,λk hk _=>?_,λv hv=>?_,λk hk=>?_,λy=>?_,λk k' y hk GQ _ _=> aE,λk hk=>?_⟩
     .obtain rfl:k=0:= aE ;rw[Lk.y4];rfl
     .have:v=L.val q:=by simpa using hv
      rw[this];exact d3
     .rw [Lk.y4];exact⟨g1.block λy hy=>hb.block y (r.hw q y ((g2 y).2 hy)).2,λi j hi hj=>⟨hl.kT (g3 i j hi hj).1,(g3 i j hi hj).2⟩⟩
     .rw [Lk.Xf];constructor
      .rintro (h|h)
       .exact .inl h
       .exact .inr ⟨0,aG,by rw[Lk.y4];exact(g2 y).1 h⟩
      .rintro (h|⟨k,_,h⟩)
       .exact .inl h
       .rw [Lk.y4]at h;exact .inr ((g2 y).2 h)
     .rw [Lk.y4];intro h;have:=(r.hw q _ ((g2 _).2 h)).2;omega
    .have:=(r.hv id).1 OB;rw[kE]at this;cases this
    .have:=r.hl hn q _ vQ;exact this
   .cases h
  .cases h
 .cases h
def ag4(hT:mL P T)(hB:∀ b,B b->b<w0.heap.size){t:TypeId}{n:Nat}{ps:Array (Nat×Operand)}(iB:o.op = .buildSlice t n ps)(r:jd w0 B σ a w L)(h:jA P K T O σ o=some u):j9 P K w0 B σ o a w u:=by
 simp only[jA,iB]at h;split at h
 .rename_i q hq;exact ahq hT iB hq r h
 split at h
 .rename_i tt qZ;split at h
  .rename_i e hd;split at h
   .rename_i te nT;split at h
    .rename_i z hz;split at h
     .rename_i hc;simp only[bO]at hc;have c1:=lg.1 hc.1.1;have c2:=cP hc.2;obtain⟨zv,tG,sF⟩:=FL hz;obtain⟨q1,q2⟩:=sF (jl B L) (jJ L) w;have hu:P.underlying t=some (.slice e):=by rw[hT.rS qZ,hd]
      have BG:zv.cells.size=te.i.size:=by have:=q1.len;simp only[dD]at this;omega
      obtain⟨l,hl,h⟩:=gM.1 h;obtain⟨cs,p1,p2,p3⟩:=Nz r hl (amI q1 n) (λv hv=>by
       simp only[gj,gl]at hv;obtain⟨q,hq,rfl⟩:=hv;have Dc:0<zv.cells.size:=by
        rcases ez zv.cells.size with h0|h0
        .rw [h0]at hq;simp at hq
        .exact h0
       rw[fz zv.cells _ (bM q Dc)];exact q2 _ aK)
      have hlen:l.length=n*te.i.size:=by
       have:∀ (ps:List (Nat×Operand)) (l m:List E),sZ σ (λi=>some (i*te.i.size,te.i.size)) l ps=some m->m.length=l.length:=by
        intro ps
        induction ps with
        |nil=>intro l m h;simp only[sZ]at h;cases h;rfl
        |cons p ps ih=>
         intro l m h;obtain⟨i,x⟩:=p;simp only[sZ]at h;split at h
         .split at h
          .split at h
           .rename_i hc;simp only[bO]at hc;have:=cP hc.2;rw[ih _ _ h];simp[BX];omega
           .cases h
          .cases h
         .cases h
       rw[this _ _ _ hl,ZJ,c1]
      have nC:cs.size=n*te.i.size:=by have:=p2.len;simp only[dD]at this;omega
      have Kl:Instr.fill (λi=>some (i*te.i.size,te.i.size)) ((Array.range (n*te.i.size)).map (zv.cells[· % zv.cells.size]!)) (ps.map λ(x:Nat×Operand)=>(x.1,a.eval x.2)).toList=some cs:=by
       rw[Qg,<-BG];rw[<-BG]at p1;exact p1
      have kS:(execOp a.eval o).run P w = .ok (.value (.slice (some ⟨w.heap.size,0,none⟩) n n)) (w.alloc (.cells cs e)):=by
       have uU:¬(n*te.i.size>16777216):= aE ;by_cases h0:n*te.i.size=0
       .have e0:∀ g:Nat->Value,(Array.range 0).map g = #[]:=λg=>by simp[Array.range]
        have VS:=Kl;rw[h0,e0]at VS;have z24:¬(0>2^24):= aG ;simp only[execOp,iB,Instr.buildSlice,Sem.run_bind,run_underlying hu,Result.andThen_ok,uE hT w nT,uU,bC,h0,z24,bJ,Sem.run_pure,e0,VS,newRow,run_newObj_alloc]
       .simp only[execOp,iB,Instr.buildSlice,Sem.run_bind,run_underlying hu,Result.andThen_ok,uE hT w nT,uU,bC,h0,Sem.run_pure,QS hT w nT tG,Kl,newRow,run_newObj_alloc]
      have lR:n<=9223372036854775807:=by
       have:=gH n (cP hc.1.2);omega
      by_cases oW:l.all (E.nr 2)=true
      .simp only[oW,fo,bK,bC]at h;split at h
       .
        obtain⟨id,Kk,kE,jL,rfl⟩:=Hu h;have hb:Below w.heap.size w (w.alloc (.cells cs e)):=(Below.refl _ _).alloc (bu _) _;have ht:sw L w id (λx=>x=w.heap.size) (w.alloc (.cells cs e)):=⟨λx hx=>⟨.inr aE,aS⟩,hb.size,λx hx _=>hb.block x hx,rfl,rfl,rfl⟩
        have iC:=ht.later (.slice (some ⟨w.heap.size,0,none⟩) n n) (λ_=>undef);have EH:∀ i j,i<n->j<te.i.size->i*te.i.size+j<n*te.i.size:=by
         intro i j hi hj;have:=bW te.i.size (show i+1<=n from hi);rw[b8,b9]at this;omega
        refine⟨_,_,_,.inl kS,r.new id _ (λx=>x=w.heap.size) (.slice (some ⟨w.heap.size,0,none⟩) n n) (λ_=>undef) _ kE (λx hx=>by subst hx;simp) hb
         ⟨λi j=>cs.getD (i*te.i.size+j) undef,.inr ⟨w.heap.size,n,cs,Lk.pX,heap_alloc_new w _,bu _,by unfold maxLen;omega,nC,λi j hi hj=>?_,λhn u hu=>?_⟩,λx=>?_,λi j hi hj=>?_⟩ jL,Lk.Cb,Lk.pX.symm⟩
        .have hq:i*te.i.size+j<cs.size:=by rw[nC];exact EH i j hi hj
         have e1:cs.getD (i*te.i.size+j) undef=cs[i*te.i.size+j]:=by simp[hq]
         show cs[i*te.i.size+j]? = some (cs.getD (i*te.i.size+j) undef)/\(cs.getD (i*te.i.size+j) undef).oneCell'=true;rw[e1];exact⟨by simp[hq],p3 _ aK⟩
        .exact ajQ p2 hn u (by simpa using hu)
        .rw [Lk.tU,Lk.pX];simp only[Value.ownBlock,bG];exact eq_comm
        .have hq:i*te.i.size+j<cs.size:=by rw[nC];exact EH i j hi hj
         have xT:i*te.i.size+j<l.length:=by rw[hlen];exact EH i j hi hj
         have e1:cs.getD (i*te.i.size+j) undef=cs[i*te.i.size+j]:=by simp[hq]
         simp only[bw,bF xT,aqB,e1];exact⟨iC.kT (p2.kT _ _ _ (bF xT) (by simp[hq])),bX.1 oW _ (cG xT)⟩
       split at h
       .rename_i Kg;cases h;obtain⟨r',hp⟩:=aaL hB r e n te.i.size l cs true p2 p3 nC lR (λ_=>Kg) oW;exact⟨_,_,L,.inl kS,r',hp⟩
       .cases h;obtain⟨r',hp⟩:=aaL hB r e n te.i.size l cs false p2 p3 nC lR (λh=>by cases h) oW;exact⟨_,_,L,.inl kS,r',hp⟩
      .simp [oW]at h
     .cases h
    .cases h
   .cases h
  .cases h
 .cases h
end
def JS{P:Program}{t e:TypeId}(h:P.underlying t=some (.slice e)):P.elem t=e:=by simp[Program.elem,h]
def afU{P:Program}{t e:TypeId}{n:Nat}(h:P.underlying t=some (.array n e)):P.elem t=e/\P.arrayLen t=n:=by simp[Program.elem,Program.arrayLen,h]
section
variable {P:Program} {K:World->Prop} {T:List TI} {O:qB} {w0:World} {B:Nat->Prop} {σ:PS} {o:Oper} {a:Act} {w:World} {L:Lk} {u:kO}
def aha(hT:mL P T){t:TypeId}{x i:Operand}(iB:o.op = .indexAddr t x i)(r:jd w0 B σ a w L)(h:jA P K T O σ o=some u)(ho:∀ q,q ∈ u.jE->q):j9 P K w0 B σ o a w u:=by
 simp only[jA,iB,JT]at h;have hx:=r.op x;have hi:=r.op i;split at h
 .rename_i k z hpi;rw[hpi]at hi;have hi:=iD.kJ hi;split at h
  .rename_i tt qZ;split at h
   .
    rename_i e hd;have hu:P.underlying t=some (.slice e):=by rw[hT.rS qZ,hd]
    have he:=JS hu;split at h
    .rename_i te nT;have kS:∀ (ad:Addr) (n c:Nat),a.eval x = .slice (some ad) n c->0<=z->z<n->(execOp a.eval o).run P w = .ok (.value (.pointer (some (ad.add (z.toNat*te.i.size))))) w:=by
      intro ad n c e1 h0 h1;have hr:=run_indexAt_slice (P:=P) w t ad n c k z (by rw[he];exact hu);rw[bk ⟨h0,h1⟩,he,uE hT w nT]at hr;simp only[execOp,iB,e1,hi,Sem.run_bind,hr,Result.andThen_ok,Sem.run_pure]
     split at h
     .rename_i nl n sz el pn;rw[pn]at hx;split at h
      .rename_i hs;simp only[bO]at hs;have uZ:=cP hs.2;have hs:=lg.1 hs.1;cases h;have hz:0<=z/\z<n:=ho _ aK;have Aj:z.toNat<n:= aE ;generalize hq:a.eval x=q at hx;cases hx with
       |sl _ _ _ _ A c f hc hm h0 hl oW cell kk=>
        obtain⟨b,of,e1,hb,iC,_⟩:=cell z.toNat 0 Aj uZ;subst e1;refine j9.pure r (kS ⟨b,of,none⟩ n c hq hz.1 hz.2) rfl ?_;rw[Addr.add_lit,hs];refine .iV sz _ b _ (λj=>f z.toNat j) (λhm=>hb (.inr hm)) iC (λj hj=>(hl _ _ Aj hj).1) (λj hj=>?_) (λj hj=>kk _ _ Aj hj);obtain⟨b',of',e2,_,_,CN⟩:=cell z.toNat j Aj hj;cases e2;rwa[<-cR]at CN
      .cases h
     .rename_i fl nl n sz el pn;rw[pn]at hx;split at h
      .rename_i hs;simp only[bO]at hs;have uZ:=cP hs.2;have hs:=lg.1 hs.1;cases h;have hz:0<=z/\z<n:=ho _ aK;have Aj:z.toNat<n:= aE ;generalize hq:a.eval x=q at hx;cases hx with
       |nO _ _ _ _ _ A c f hc hm h0 hl oW cell kk=>
        obtain⟨b,of,e1,hb,iC,_⟩:=cell z.toNat 0 Aj uZ;subst e1;refine j9.pure r (kS ⟨b,of,none⟩ n c hq hz.1 hz.2) rfl ?_;rw[Addr.add_lit,hs];refine .iV sz _ b _ (λj=>f z.toNat j) hb iC (λj hj=>(hl _ _ Aj hj).1) (λj hj=>?_) (λj hj=>kk _ _ Aj hj);obtain⟨b',of',e2,_,_,CN⟩:=cell z.toNat j Aj hj;cases e2;rwa[<-cR]at CN
      .cases h
     .rename_i id pn;rw[pn]at hx;split at h
      .rename_i nl T1 n sz el jg;split at h
       .rename_i hs;have hs:=lg.1 hs;cases h;have hz:0<=z/\z<n:=ho _ aK;obtain⟨f,h1,h2,h3⟩:=r.hb id _ jg;obtain⟨k1,k2⟩:=hx;rcases h1 with⟨h1,sc⟩|⟨b,c,cur,h1,hg,pj,oq,nC,ky,jL⟩
        .omega
        .rw [h1]at k2;refine j9.pure r (kS ⟨b,0,none⟩ n c k2 hz.1 hz.2) rfl ⟨k1,b,n,c,h1,?_⟩;rw[Addr.add_lit,hs,cj,bY]
       .cases h
      .rename_i nl T1 T0 n sz len el pend jg;split at h
       .rename_i hs;have hs:=lg.1 hs;cases h;have hz:0<=z/\z<n:=ho _ aK;obtain⟨b,c,cur,f,h1,h2,h3,h4,h5,h6,h7,h8,h9,qF,sP⟩:=(r.hb id _ jg).xr aE;obtain⟨k1,k2⟩:=hx;rw[h1]at k2;refine j9.pure r (kS ⟨b,0,none⟩ n c k2 hz.1 hz.2) rfl ⟨k1,b,n,c,h1,?_⟩;rw[Addr.add_lit,hs,cj,bY]
       .cases h
      .cases h
     .rename_i id k pn;rw[pn]at hx;split at h
      .rename_i nl T1 T0 n sz len el pend jg;split at h
       .rename_i hs;have hs:=lg.1 hs;cases h;have hk:k<n:=ho _ aK;have hz:0<=z/\z<len k:=ho _ aK;obtain⟨b0,c0,cur0,f,g1,g2,g3,g4,g5,g6,g7,g8,_⟩:=(r.hb id _ jg).xr aE;obtain⟨k1,k2⟩:=hx;rcases(g8 k hk).1 with⟨h1,sc⟩|⟨b,c,cur,h1,hg,pj,oq,nC,ky,jL⟩
        .omega
        .rw [h1]at k2;refine j9.pure r (kS ⟨b,0,none⟩ (len k) c k2 hz.1 hz.2) rfl ⟨k1,b,len k,c,h1,?_⟩;rw[Addr.add_lit,hs,cj,bY]
       .cases h
      .cases h
     .cases h
    .cases h
   .
    rename_i n e hd;have hu:P.underlying t=some (.array n e):=by rw[hT.rS qZ,hd]
    obtain⟨he,hn⟩:=afU hu;split at h
    .rename_i te nT;have kS:∀ (ad:Addr),a.eval x = .pointer (some ad)->0<=z->z<n->(execOp a.eval o).run P w = .ok (.value (.pointer (some (ad.add (z.toNat*te.i.size))))) w:=by
      intro ad e1 h0 h1;have hr:=run_indexAt_array (P:=P) w t ad k z (by rw[he,hn];exact hu);rw[hn,bk ⟨h0,h1⟩,he,uE hT w nT]at hr;simp only[execOp,iB,e1,hi,Sem.run_bind,hr,Result.andThen_ok,Sem.run_pure]
     split at h
     .rename_i id off pn;rw[pn]at hx;cases h;have hz:0<=z/\z<n:=ho _ aK;obtain⟨k1,b,k2,k3⟩:=hx;refine j9.pure r (kS _ k3 hz.1 hz.2) rfl ⟨k1,b,k2,?_⟩;rw[Addr.add_lit]
     .rename_i m el pn;rw[pn]at hx;split at h
      .rename_i hs;have hs:=lg.1 hs;cases h;have hz:0<=z/\z<n:=ho _ aK;have lO:∀ j,j<te.i.size->z.toNat*te.i.size+j<m:=by
        intro j hj;rw[<-hs];have:=bW te.i.size (aE:z.toNat+1<=n);rw[b8,b9]at this;omega
       generalize hq:a.eval x=q at hx;cases hx with
       |iV _ _ b of f hb iC hl cell kk=>
        refine j9.pure r (kS _ hq hz.1 hz.2) rfl ?_;rw[Addr.add_lit];refine .iV te.i.size _ b _ (λj=>f (z.toNat*te.i.size+j)) hb iC (λj hj=>hl _ (lO j hj)) (λj hj=>?_) (λj hj=>kk _ (lO j hj));have:=cell _ (lO j hj);rwa[<-cR]at this
      .cases h
     .cases h
    .cases h
   .cases h
  .cases h
 .cases h
def ahn(hT:mL P T){t:TypeId}{x:Operand}{lo hi:Option Operand}(iB:o.op = .slice t x lo hi none)(r:jd w0 B σ a w L)(h:jA P K T O σ o=some u)(ho:∀ q,q ∈ u.jE->q):j9 P K w0 B σ o a w u:=by
 simp only[jA,iB,JW]at h;have hx:=r.op x;split at h
 .rename_i nl n sz el pn;rw[pn]at hx;split at h
  .rename_i tt qZ;split at h
   .rename_i e hd;have hu:P.underlying t=some (.slice e):=by rw[hT.rS qZ,hd]
    have he:=JS hu;have xW:P.underlying t=some (.slice (P.elem t)):=by rw[he];exact hu
    split at h
    .rename_i te nT;split at h
     .rename_i hs;have hs:=lg.1 hs;generalize hq:a.eval x=q at hx;cases hx with
      |sl _ _ _ _ A c f hc hm h0 hl oW cell kk=>
       have fin:∀ l h':Nat,l<=h'->h'<=n->iD (jl B L) (jJ L) w (.sl nl (h'-l) sz λi j=>el (l+i) j) (sliced A l h' c te.i.size):=by
        intro l h' hlh hhn;unfold sliced;refine .sl nl (h'-l) sz _ _ (c-l) (λi j=>f (l+i) j) aE aE (λhA=>?_) (λi j hi hj=>hl _ _ aE hj) (λi j hi hj=>oW _ _ aE hj) (λi j hi hj=>?_) (λi j hi hj=>kk _ _ aE hj)
        .split at hA
         .have:=h0 hA;omega
         .have:=h0 (by simpa using hA);omega
        .obtain ⟨b,of,e1,hb,iC,ky⟩:=cell (l+i) j aE hj;subst e1;rw[bj aE];refine⟨b,of+l*te.i.size,by rw[cH,Addr.add_lit],hb,iC,?_⟩;rw[hs];rw[b8]at ky;rw[<-ky];congr 2;omega
       have run:∀ (l h':Nat) (lo' mS:Option Value),lo.map a.eval=lo'->hi.map a.eval=mS->(Instr.slice t (.slice A n c) lo' mS none).run P w = .ok (sliced A l h' c te.i.size) w ->
        (execOp a.eval o).run P w = .ok (.value (sliced A l h' c te.i.size)) w:=by
        intro l h' lo' mS e1 e2 hr;simp only[execOp,iB,Sem.run_bind,hq,e1,e2,Option.map_none,run_sliceAt_slice (P:=P) w t _ _ _ _ xW,hr,Result.andThen_ok,Sem.run_pure]
       split at h
       .rename_i kh hh qX sD;cases h;have hb:0<=hh/\hh<=n:=ho _ aK;cases lo with
        |some _=>simp at qX
        |none=>
         cases hi with
         |none=>simp at sD
         |some hi=>
          simp only[cH,bG]at sD;have hv:=r.op hi;rw[sD]at hv;have hv:=iD.kJ hv;have hr:=run_slice_h (P:=P) w t A n c xW kh hh hb.1 aE;rw[he,uE hT w nT]at hr;have hf:=fin 0 hh.toNat (bS _) aE ;simp only[dE,cj]at hf;exact j9.pure r (run 0 hh.toNat none (some (.int kh hh)) rfl (by rw[cH,hv]) hr) rfl hf
       .rename_i kl ll qX sD;cases h;have hb:0<=ll/\ll<=n:=ho _ aK;cases hi with
        |some _=>simp at sD
        |none=>
         cases lo with
         |none=>simp at qX
         |some lo=>
          simp only[cH,bG]at qX;have hv:=r.op lo;rw[qX]at hv;have hv:=iD.kJ hv;have hr:=run_slice_l (P:=P) w t A n c xW kl ll hb.1 hb.2;rw[he,uE hT w nT]at hr;exact j9.pure r (run ll.toNat n (some (.int kl ll)) none (by rw[cH,hv]) rfl hr) rfl (fin ll.toNat n aE (bu _))
       .rename_i kl ll kh hh qX sD;cases h;have hb:0<=ll/\ll<=hh/\hh<=n:=ho _ aK;cases hi with
        |none=>simp at sD
        |some hi=>
         cases lo with
         |none=>simp at qX
         |some lo=>
          simp only[cH,bG]at qX sD;have hv:=r.op lo;rw[qX]at hv;have hv:=iD.kJ hv;have sd:=r.op hi;rw[sD]at sd;have sd:=iD.kJ sd;have hr:=run_slice_lh (P:=P) w t A n c xW kl kh ll hh hb.1 hb.2.1 aE;rw[he,uE hT w nT]at hr;exact j9.pure r (run ll.toNat hh.toNat (some (.int kl ll)) (some (.int kh hh)) (by rw[cH,hv]) (by rw[cH,sd]) hr) rfl (fin ll.toNat hh.toNat aE aE)
       .cases h
     .cases h
    .cases h
   .cases h
  .cases h
 .rename_i fl nl n sz el pn;rw[pn]at hx;split at h
  .rename_i tt qZ;split at h
   .rename_i e hd;have hu:P.underlying t=some (.slice e):=by rw[hT.rS qZ,hd]
    have he:=JS hu;have xW:P.underlying t=some (.slice (P.elem t)):=by rw[he];exact hu
    split at h
    .rename_i te nT;split at h
     .rename_i hs;have hs:=lg.1 hs;generalize hq:a.eval x=q at hx;cases hx with
      |nO _ _ _ _ _ A c f hc hm h0 hl oW cell kk=>
       have fin:∀ l h':Nat,l<=h'->h'<=n->iD (jl B L) (jJ L) w (.nO fl nl (h'-l) sz λi j=>el (l+i) j) (sliced A l h' c te.i.size):=by
        intro l h' hlh hhn;unfold sliced;refine .nO fl nl (h'-l) sz _ _ (c-l) (λi j=>f (l+i) j) aE aE (λhA=>?_) (λi j hi hj=>hl _ _ aE hj) (λhf i j hi hj=>oW hf _ _ aE hj) (λi j hi hj=>?_) (λi j hi hj=>kk _ _ aE hj)
        .split at hA
         .have:=h0 hA;omega
         .have:=h0 (by simpa using hA);omega
        .obtain ⟨b,of,e1,hb,iC,ky⟩:=cell (l+i) j aE hj;subst e1;rw[bj aE];refine⟨b,of+l*te.i.size,by rw[cH,Addr.add_lit],hb,iC,?_⟩;rw[hs];rw[b8]at ky;rw[<-ky];congr 2;omega
       have run:∀ (l h':Nat) (lo' mS:Option Value),lo.map a.eval=lo'->hi.map a.eval=mS->(Instr.slice t (.slice A n c) lo' mS none).run P w = .ok (sliced A l h' c te.i.size) w ->
        (execOp a.eval o).run P w = .ok (.value (sliced A l h' c te.i.size)) w:=by
        intro l h' lo' mS e1 e2 hr;simp only[execOp,iB,Sem.run_bind,hq,e1,e2,Option.map_none,run_sliceAt_slice (P:=P) w t _ _ _ _ xW,hr,Result.andThen_ok,Sem.run_pure]
       split at h
       .rename_i kh hh qX sD;cases h;have hb:0<=hh/\hh<=n:=ho _ aK;cases lo with
        |some _=>simp at qX
        |none=>
         cases hi with
         |none=>simp at sD
         |some hi=>
          simp only[cH,bG]at sD;have hv:=r.op hi;rw[sD]at hv;have hv:=iD.kJ hv;have hr:=run_slice_h (P:=P) w t A n c xW kh hh hb.1 aE;rw[he,uE hT w nT]at hr;have hf:=fin 0 hh.toNat (bS _) aE ;simp only[dE,cj]at hf;exact j9.pure r (run 0 hh.toNat none (some (.int kh hh)) rfl (by rw[cH,hv]) hr) rfl hf
       .rename_i kl ll qX sD;cases h;have hb:0<=ll/\ll<=n:=ho _ aK;cases hi with
        |some _=>simp at sD
        |none=>
         cases lo with
         |none=>simp at qX
         |some lo=>
          simp only[cH,bG]at qX;have hv:=r.op lo;rw[qX]at hv;have hv:=iD.kJ hv;have hr:=run_slice_l (P:=P) w t A n c xW kl ll hb.1 hb.2;rw[he,uE hT w nT]at hr;exact j9.pure r (run ll.toNat n (some (.int kl ll)) none (by rw[cH,hv]) rfl hr) rfl (fin ll.toNat n aE (bu _))
       .rename_i kl ll kh hh qX sD;cases h;have hb:0<=ll/\ll<=hh/\hh<=n:=ho _ aK;cases hi with
        |none=>simp at sD
        |some hi=>
         cases lo with
         |none=>simp at qX
         |some lo=>
          simp only[cH,bG]at qX sD;have hv:=r.op lo;rw[qX]at hv;have hv:=iD.kJ hv;have sd:=r.op hi;rw[sD]at sd;have sd:=iD.kJ sd;have hr:=run_slice_lh (P:=P) w t A n c xW kl kh ll hh hb.1 hb.2.1 aE;rw[he,uE hT w nT]at hr;exact j9.pure r (run ll.toNat hh.toNat (some (.int kl ll)) (some (.int kh hh)) (by rw[cH,hv]) (by rw[cH,sd]) hr) rfl (fin ll.toNat hh.toNat aE aE)
       .cases h
     .cases h
    .cases h
   .cases h
  .cases h
 .cases h
end
section
variable {P:Program} {K:World->Prop} {T:List TI} {O:qB} {w0:World} {B:Nat->Prop} {σ:PS} {o:Oper} {a:Act} {w:World} {L:Lk} {u:kO}
def aeJ{x:Value}{l:List E}(h:(E.v x).cells? = some l):∀ e,e ∈ l->e.nr 2=true:=by
 intro e he;cases x<;>simp only[E.cells?]at h
 case agg cs=>
  split at h
  .cases h;obtain⟨q,_,rfl⟩:=dv.1 he;rfl
  .cases h
 all_goals
  split at h
  .cases h;simp only[gL]at he;subst he;rfl
  .cases h
def apN{ti:TI}{l:List E}(h:zD ti=some l):∀ e,e ∈ l->e.nr 2=true:=by
 unfold zD at h;split at h
 .exact aeJ h
 .cases h
def Pq{l:List E}{vs:List Value}{bs br:Nat->Prop}(h:kr bs br w l vs)(hl:l.all E.nE=true):∀ v ∈ vs,rf v=false:=by
 intro v hv;obtain⟨q,hq⟩:=dC.1 hv;have xT:q<l.length:=by rw[<-h.len];exact(cr.1 hq).1
 exact(h.kT q _ v (bF xT) hq).nE (bX.1 hl _ (cG xT))
def XL{z:Array Value}{n q:Nat}(hz:0<z.size)(hq:q<n):(madeCells z n)[q]? = some (z[q%z.size]'(bM _ hz)):=by
 unfold madeCells;simp[hq];rw[fz z _ (bM _ hz)]
def XM{z:Array Value}{n:Nat}(hz:0<z.size){v:Value}(hv:v ∈ madeCells z n):v ∈ z:=by
 unfold madeCells at hv;simp only[gj,gl]at hv;obtain⟨q,hq,rfl⟩:=hv;rw[fz z _ (bM _ hz)];exact gI _
def ahg(hT:mL P T){t:TypeId}{l c:Operand}(iB:o.op = .makeSlice t l c)(r:jd w0 B σ a w L)(h:jA P K T O σ o=some u)(ho:∀ q,q ∈ u.jE->q):j9 P K w0 B σ o a w u:=by
 simp only[jA,iB,JV]at h;have hl:=r.op l;have hc:=r.op c;split at h
 .rename_i bx jE jh;obtain⟨id,Kk,kE,jL,rfl⟩:=Hu h;clear h;simp only[Um]at jh;split at jh
  rotate_left
  .cases jh
  rename_i kl zl kc zc C3 hpc;rw[C3]at hl;rw[hpc]at hc;have hl:=iD.kJ hl;have hc:=iD.kJ hc;split at jh
  .rename_i tt qZ;split at jh
   .rename_i e hd;have hu:P.underlying t=some (.slice e):=by rw[hT.rS qZ,hd]
    split at jh
    .rename_i te nT;split at jh
     .rename_i z hz;split at jh
      .rename_i z8;simp only[bO]at z8;have c1:=lg.1 z8.1;have c2:=cP z8.2;obtain⟨zv,tG,sF⟩:=FL hz;obtain⟨q1,q2⟩:=sF (jl B L) (jJ L) w;have BG:zv.cells.size=te.i.size:=by have:=q1.len;simp only[dD]at this;omega
       have Dc:0<zv.cells.size:= aE ;have key:∀ (h1:0<=zl/\zl<=zc) (h2:(te.i.bytes:Int)*zc<=281474976710656/\zc<=9223372036854775807),
        (execOp a.eval o).run P w = .ok (.value (.slice (some ⟨w.heap.size,0,none⟩) zl.toNat zc.toNat)) (w.alloc (.cells (madeCells zv.cells (zc.toNat*te.i.size)) e)):=by
        intro h1 h2;have hr:=run_make (P:=P) w t e te.i zv hu (hT.Al nT) tG kl kc zl zc h1.1 h1.2 h2.1 h2.2;simp only[execOp,iB,hl,hc,Sem.run_bind,hr,Result.andThen_ok,Sem.run_pure]
       have hb:∀ o':Obj,Below w.heap.size w (w.alloc o'):=λo'=>(Below.refl _ _).alloc (bu _) _
       have lens:zl<=zc->zc<=9223372036854775807->zl.toNat<=zc.toNat/\zc.toNat<=maxLen:=by intro h1 h2;unfold maxLen;omega
       split at jh
       .
        rename_i e0 hd0;split at jh
        .rename_i t0 OP;obtain⟨y,ys,Da,hy,CZ⟩:=q1.mG;have hy:=iD.kJ hy;have CZ:=CZ.rj;subst hy CZ;have WD:zv.cells = #[.slice none 0 0]:=by apply dx;rw[Da]
         have lk:te.i.size=1:=by rw[<-BG,WD];rfl
         cases jh;have h1:0<=zl/\zl<=zc:=ho _ aK;have h2:(te.i.bytes:Int)*zc<=281474976710656/\zc<=9223372036854775807:=ho _ aK;have hlen:=lens h1.2 h2.2;have Kg:∀ v,v ∈ madeCells zv.cells (zc.toNat*te.i.size)->v = .slice none 0 0:=λv hv=>by
          have:=XM Dc hv;rw[WD]at this;simpa using this
         refine⟨_,_,_,.inl (key h1 h2),r.new id _ (λx=>x=w.heap.size) (.slice (some ⟨w.heap.size,0,none⟩) zl.toNat zc.toNat) (λ_=>.slice none 0 0) _ kE (λx hx=>by subst hx;simp) (hb _)
          (.inr ⟨w.heap.size,zc.toNat,_,λ_ _ _=>undef,Lk.pX,heap_alloc_new w _,hlen.1,hlen.2,by rw[size_madeCells,lk,ck],λk hk _=>?_,λv hv=>?_,λk hk=>?_,λx=>?_,λk k' x hk GQ h1=>?_,λk hk=>?_⟩) jL,Lk.Cb,Lk.pX.symm⟩
         .rw [Lk.sU];have hq:k<zc.toNat*te.i.size:=by rw[lk];omega
          have hg:=XL Dc hq;rw[hg];exact congrArg some (Kg _ (dV hg))
         .rw [Kg v hv];rfl
         .rw [Lk.sU];exact⟨.inl ⟨rfl,rfl⟩,λi j hi=>absurd hi (bE i)⟩
         .rw [Lk.tU];simp only[Lk.sU,Value.ownBlock];simp
         .rw [Lk.sU]at h1;simp[Value.ownBlock]at h1
         .rw [Lk.sU];simp[Value.ownBlock]
        .cases jh
       .cases jh;have h1:0<=zl/\zl<=zc:=ho _ aK;have h2:(te.i.bytes:Int)*zc<=281474976710656/\zc<=9223372036854775807:=ho _ aK;have hlen:=lens h1.2 h2.2;refine⟨_,_,_,.inl (key h1 h2),r.new id _ (λx=>x=w.heap.size) (.slice (some ⟨w.heap.size,0,none⟩) zl.toNat zc.toNat) (λ_=>undef) _ kE (λx hx=>by subst hx;simp) (hb _)
         ⟨λ_ j=>zv.cells.getD j undef,.inr ⟨w.heap.size,zc.toNat,_,Lk.pX,heap_alloc_new w _,hlen.1,hlen.2,size_madeCells _ _,λi j hi hj=>?_,λhn v hv=>?_⟩,λx=>?_,λi j hi hj=>?_⟩ jL,Lk.Cb,Lk.pX.symm⟩
        .have hq:i*te.i.size+j<zc.toNat*te.i.size:=by
          have:=bW te.i.size (aE:i+1<=zc.toNat);rw[b8,b9]at this;omega
         have OD:(i*te.i.size+j)%zv.cells.size=j:=by rw[BG,bL,fp,ca hj]
         have tv:j<zv.cells.size:= aE ;rw[XL Dc hq];simp only[OD];have e1:zv.cells.getD j undef=zv.cells[j]:=by simp[tv]
         rw[e1];exact⟨rfl,q2 _ aK⟩
        .exact Pq q1 hn v (by have:=XM Dc hv;simpa using this)
        .rw [Lk.tU,Lk.pX];simp only[Value.ownBlock,bG];exact eq_comm
        .have tv:j<zv.cells.size:= aE ;have Ou:j<z.length:= aE ;have e1:zv.cells.getD j undef=zv.cells[j]:=by simp[tv]
         simp only[e1];rw[bw,bF Ou];obtain⟨p1,_⟩:=sF (jl B (L.set id (λx=>x=w.heap.size) (.slice (some ⟨w.heap.size,0,none⟩) zl.toNat zc.toNat) (λ_=>undef))) (jJ (L.set id (λx=>x=w.heap.size) (.slice (some ⟨w.heap.size,0,none⟩) zl.toNat zc.toNat) (λ_=>undef))) (w.alloc (.cells (madeCells zv.cells (zc.toNat*te.i.size)) e));exact⟨p1.kT j _ _ (bF Ou) (by simp[tv]),apN hz _ (cG Ou)⟩
      .cases jh
     .cases jh
    .cases jh
   .cases jh
  .cases jh
 .cases h
def ahc(hT:mL P T){x:Operand}{t:TypeId}{c:Call}(hc:c={ callee:=.builtin .len,args:=#[x],argTypes:=#[t] })(iB:o.op = .call c){e:TypeId}(hd:xG T t=some (.slice e))(r:jd w0 B σ a w L){rr:Value×List Nat}(h:tl (σ.op x) σ=some rr)(hu:u={ r:=.e (.v rr.1),rb:=rr.2 }):j9 P K w0 B σ o a w u:=by
 obtain⟨ti,h1,h2⟩:=Bb hd;have Wr:P.underlying t=some (.slice e):=by rw[hT.rS h1,h2]
 have he:=JS Wr;have hx:=r.op x;have key:∀ (A:Option Addr) (n cp:Nat),a.eval x = .slice A n cp->rr.1 = .int .i64 (n:Int)->j9 P K w0 B σ o a w u:=by
  intro A n cp e1 e2;have hr:=run_len_slice (P:=P) w t o.type A n cp (by rw[he];exact Wr);subst hu;refine j9.pure r (v:=.int .i64 (n:Int)) ?_ rfl (by rw[e2];exact .v _);subst hc;have em:(#[x]:Array Operand).map a.eval = #[a.eval x]:= aK ;simp only[execOp,iB,resolve,em,e1,Sem.run_bind,Sem.run_pure,Result.andThen_ok,invoke,builtin,hr];rfl
 cases hp:σ.op x with
 |e y=>
  rw[hp]at h hx;cases y with
  |sl nl n sz el=>
   simp only[tl,bG]at h;generalize hq:a.eval x=q at hx;cases hx with
   |sl _ _ _ _ A c f hc hm h0 hl oW cell kk=>exact key A n c hq (by rw[<-h])
  |nO fl nl n sz el=>
   simp only[tl,bG]at h;generalize hq:a.eval x=q at hx;cases hx with
   |nO _ _ _ _ _ A c f hc hm h0 hl oW cell kk=>exact key A n c hq (by rw[<-h])
  |v y=>
   have hx:=iD.kJ hx;cases y with
   |slice A n cp=>
    simp only[tl,bG]at h;exact key A n cp hx (by rw[<-h])
   |_=>simp[tl]at h
  |_=>simp[tl]at h
 |own id=>
  rw[hp]at h hx;obtain⟨_,k2⟩:=hx;simp only[tl]at h;split at h
  .rename_i nl T1 n sz el jg;simp only[bG]at h;obtain⟨f,q1,_,_⟩:=r.hb id _ jg;rcases q1 with⟨q1,q0⟩|⟨b,c,cur,q1,_⟩
   .rw [q1]at k2;exact key none 0 0 k2 (by rw[<-h,q0])
   .rw [q1]at k2;exact key _ n c k2 (by rw[<-h])
  .rename_i nl T1 T0 n sz len el pend jg;simp only[bG]at h;rcases r.hb id _ jg with⟨q1,q0,_⟩|⟨b,c,cur,f,q1,_⟩
   .rw [q1]at k2;exact key none 0 0 k2 (by rw[<-h,q0])
   rw[q1]at k2;exact key _ n c k2 (by rw[<-h])
  .cases h
 |iN id k=>
  rw[hp]at h hx;obtain⟨_,k2⟩:=hx;simp only[tl]at h;split at h
  .rename_i nl T1 T0 n sz len el pend jg;split at h
   .rename_i hk;have hk:k<n:=by simpa[fY]using hk
    simp only[bG]at h;obtain⟨b0,c0,cur0,f,g1,g2,g3,g4,g5,g6,g7,g8,_⟩:=(r.hb id _ jg).xr aE;rcases(g8 k hk).1 with⟨q1,q0⟩|⟨b,c,cur,q1,_⟩
    .rw [q1]at k2;exact key none 0 0 k2 (by rw[<-h,q0])
    .rw [q1]at k2;exact key _ (len k) c k2 (by rw[<-h])
   .cases h
  .cases h
 |_=>rw[hp]at h;simp[tl]at h
end
section
variable {P:Program} {K:World->Prop} {T:List TI} {O:qB} {w0:World} {B:Nat->Prop} {σ:PS} {o:Oper} {a:Act} {w:World} {L:Lk} {u:kO}
def oi.qN{v:Value}{T:TypeId}{n sz:Nat}{f:Nat->Nat->Value}{nl nl':Bool}(h:oi w v T n sz f nl)(k:nl'=true->nl=true):oi w v T n sz f nl':=by
 rcases h with h|⟨b,c,cur,h1,h2,h3,h4,h5,h6,h7⟩
 .exact .inl h
 .exact .inr ⟨b,c,cur,h1,h2,h3,h4,h5,h6,λq=>h7 (k q)⟩
def aci{p:PV}{nl:Bool}{n sz:Nat}{el:Nat->Nat->E}(h:p.MH=some (nl,n,sz,el)){v:Value}(hv:nI (jl B L) (jJ L) L w p v):∃ (A:Option Addr) (c:Nat) (f:Nat->Nat->Value),v = .slice A n c/\(A=none->c=0)/\n<=c /\
 (∀ i j,i<n->j<sz->(f i j).oneCell'=true/\(nl=true->rf (f i j)=false))/\(∀ i j,i<n->j<sz->∃ b o,A=some ⟨b,o,none⟩/\w.cell? ⟨b,o+(i*sz+j),none⟩=some (f i j)) /\
 ∀ i j,i<n->j<sz->iD (jl B L) (jJ L) w (el i j) (f i j)/\(el i j).nr 2=true:=by
 unfold PV.MH at h;split at h
 .cases h;cases hv with
  |sl _ _ _ _ A c f hc hm h0 hl hr cell k=>exact⟨A,c,f,rfl,h0,hc,hl,λi j hi hj=>by obtain⟨b,o,e,_,_,oV⟩:=cell i j hi hj;exact⟨b,o,e,oV⟩,λi j hi hj=>⟨k i j hi hj,hr i j hi hj⟩⟩
 .cases h;cases hv with
  |nO _ _ _ _ _ A c f hc hm h0 hl hr cell k=>exact⟨A,c,f,rfl,h0,hc,hl,λi j hi hj=>by obtain⟨b,o,e,_,_,oV⟩:=cell i j hi hj;exact⟨b,o,e,oV⟩,λi j hi hj=>⟨k i j hi hj,hr rfl i j hi hj⟩⟩
 .cases h
def Vk(hT:mL P T){s x:Operand}{t:TypeId}{c:Call}(hc:c={ callee:=.builtin .append,args:=#[s,x],argTypes:=#[t,t] })(iB:o.op = .call c)(r:jd w0 B σ a w L)
 (h:Bh T σ o.dst t (σ.op s) (σ.op x)=some u) (ho:∀ q,q ∈ u.jE->q):j9 P K w0 B σ o a w u:=by
 have hs:=r.op s;have hx:=r.op x;simp only[Bh]at h;split at h
 .rename_i nl2 m sz2 el2 pn;obtain⟨A,cx,g,hqx,hg0,hgc,VX,gcell,gk⟩:=aci pn hx;split at h
  .rename_i tt qZ;split at h
   .rename_i e hd;have hu:P.underlying t=some (.slice e):=by rw[hT.rS qZ,hd]
    split at h
    .rename_i te nT;split at h
     .rename_i z hz;split at h
      .rename_i z8;simp only[bO]at z8;have c1:=lg.1 z8.1.1.1;have c2:=cP z8.1.1.2;have c3:=cP z8.1.2;have c4:=lg.1 z8.2;obtain⟨zv,tG,sF⟩:=FL hz;obtain⟨q1,q2⟩:=sF (jl B L) (jJ L) w;have BG:zv.cells.size=sz2:=by have:=q1.len;simp only[dD]at this;omega
       have key:∀ (v:Value) (n:Nat) (f:Nat->Nat->Value) (nl:Bool),a.eval s=v->oi w v e n sz2 f nl->(nl=true->nl2=true/\z.all E.nE=true)->(n+m)*te.i.bytes<=140737488355328 ->
        ∃ v' w',(execOp a.eval o).run P w = .ok (.value v') w'/\Mq w v e n sz2 m f g nl v' w':=by
        intro v n f nl hv mc jL jx;obtain⟨v',w',hr,mu⟩:=ZX P w t o.type e te.i zv sz2 hu (hT.Al nT) tG c1 BG aE c3 (λu hu=>q2 u (by simpa using hu)) v n f nl mc A m cx g
         gcell (λhA=>by have:=hg0 hA;omega)
         (λk j hk hj=>⟨(VX k j hk hj).1,λhn=>(VX k j hk hj).2 (jL hn).1⟩) (λhn u hu=>Pq q1 (jL hn).2 u (by simpa using hu)) jx
        refine⟨v',w',?_,mu⟩;subst hc;have em:(#[s,x]:Array Operand).map a.eval = #[a.eval s,a.eval x]:= aK ;simp only[execOp,iB,resolve,em,hv,hqx,Sem.run_bind,Sem.run_pure,Result.andThen_ok,invoke,builtin,hr]
       split at h
       .
        rename_i id tA;rw[tA]at hs;split at h
        .rename_i nl T1 n sz el jg;split at h
         .rename_i oV;simp only[bO]at oV;have d1:=lg.1 oV.1.1;have d2:=lg.1 oV.1.2;subst d1 d2;cases h;have jx:(n+m)*te.i.bytes<=140737488355328:=ho _ aK;obtain⟨f,p1,p2,p3⟩:=r.hb id _ jg;obtain⟨k1,k2⟩:=hs;have jL:(nl&&(nl2&&z.all E.nE))=true->nl2=true/\z.all E.nE=true:=λhn=>by simp only[bO]at hn;exact hn.2
          obtain⟨v',w',kS,mu⟩:=key (L.val id) n f _ k2 (p1.qN λhn=>by simp only[bO]at hn;exact hn.1) jL jx;have ht:sw L w id (λy=>v'.ownBlock=some y) w':=by
           refine⟨λy hy=>?_,mu.size,λy hy kE=>mu.pr y hy λe1=>kE ((p2 y).2 e1),mu.os,mu.tape,mu.output⟩;rcases mu.F0 y hy with e1|⟨e1,e2⟩
           .have:=(p2 y).2 e1;exact⟨.inl this,bV (r.hw id y this).2 mu.size⟩
           .exact ⟨.inr e1,e2⟩
          have hl:=ht.later v' (L.iN id);have hpt:∀ b,L.val id ≠ .pointer (some b):=λb e1=>by
           rcases p1 with⟨e2,_⟩|⟨_,_,_,e2,_⟩<;>rw[e1]at e2<;>cases e2
          refine⟨v',w',_,.inl kS,r.r7 id _ _ v' w' hpt ht ⟨λi j=>if i<n then f i j else g (i-n) j,by rw[Lk.pX];exact mu.own,λy=>by rw[Lk.tU,Lk.pX],λi j hi hj=>(λ(q:iD _ _ _ _ _/\_)=>⟨hl.kT q.1,q.2⟩) (?_:_/\_)⟩ (λhn=>?_),Lk.Cb,Lk.pX.symm⟩
          .by_cases lO:i<n
           .simp only[lO,bJ];exact p3 i j lO hj
           .simp only[lO,bC];exact gk _ _ aE hj
          .have:=oV.2;rw[hn]at this;simpa[Bx.nl]using this
         .cases h
        .cases h
       .
        rename_i id k tA;rw[tA]at hs;split at h
        .rename_i nl T1 T0 n sz len el jg;split at h
         .rename_i oV;simp only[bO]at oV;have d1:=lg.1 oV.1.1;have d2:=lg.1 oV.1.2;subst d1 d2;cases h;have hk:k<n:=ho _ aK;have jx:(len k+m)*te.i.bytes<=140737488355328:=ho _ aK;obtain⟨b,cp,cur,f,p1,p2,p3,p4,p5,p6,p7,p8,p9,p10,p11⟩:=(r.hb id _ jg).xr aE;obtain⟨k1,k2⟩:=hs;have jL:nl=true->nl2=true/\z.all E.nE=true:=λhn=>by have:=oV.2;rw[hn]at this;simpa using this
          obtain⟨v',w',kS,mu⟩:=key (L.iN id k) (len k) (f k) nl k2 (p8 k hk).1 jL jx;have vP:∀ y,v'.ownBlock=some y->(L.iN id k).ownBlock=some y\/(w.heap.size<=y/\y<w'.heap.size):=mu.F0;have uS:b<w.heap.size:=(r.hw id b ((p9 b).2 (.inl rfl))).2;have By:∀ q y,q<n->(L.iN id q).ownBlock=some y->y<w.heap.size:=λq y hq hy=>(r.hw id y ((p9 y).2 (.inr ⟨q,hq,hy⟩))).2
          have ht:sw L w id (λy=>y=b\/∃ q,q<n/\(if q=k then v' else L.iN id q).ownBlock=some y) w':=by
           refine⟨λy hy=>?_,mu.size,λy hy kE=>mu.pr y hy λe1=>kE ((p9 y).2 (.inr ⟨k,hk,e1⟩)),mu.os,mu.tape,mu.output⟩;rcases hy with rfl|⟨q,hq,hy⟩
           .exact ⟨.inl ((p9 y).2 (.inl rfl)),bV uS mu.size⟩
           .by_cases uY:q=k
            .subst uY;rw[bk rfl]at hy;rcases vP y hy with e1|⟨e1,e2⟩
             .have:=(p9 y).2 (.inr ⟨q,hq,e1⟩);exact⟨.inl this,bV (r.hw id y this).2 mu.size⟩
             .exact ⟨.inr e1,e2⟩
            .rw [bj uY]at hy;have:=(p9 y).2 (.inr ⟨q,hq,hy⟩);exact⟨.inl this,bV (r.hw id y this).2 mu.size⟩
          have hl:=ht.later (L.val id) (λq=>if q=k then v' else L.iN id q);have xO:∀ y,y<w.heap.size->(L.iN id k).ownBlock≠some y->w'.heap[y]? = w.heap[y]?:=mu.pr;refine⟨v',w',_,.inl kS,r.vK id _ _ (λq=>if q=k then v' else L.iN id q) w' ht
           (.inr ⟨b,cp,cur,λq i j=>if q=k then(if i<len q then f q i j else g (i-len q) j)else f q i j,by rw[Lk.pX];exact p1,by rw[xO b uS (p11 k hk)];exact p2,p3,p4,p5,λq hq uY=>?_,p7,λq hq=>?_,λy=>?_,λq q' y hq vY hy sR=>?_,λq hq hy=>?_⟩) (λhn=>?_),Lk.Cb,?_⟩
          .have ju:q≠k:=λe1=>uY (by rw[e1])
           rw[Lk.sU,bj ju];exact p6 q hq aK 
          .rw [Lk.sU];by_cases uY:q=k
           .subst uY;simp only[bJ];refine⟨mu.own,λi j hi hj=>(λ(q:iD _ _ _ _ _/\_)=>⟨hl.kT q.1,q.2⟩) (?_:_/\_)⟩;by_cases lO:i<len q
            .simp only[lO,bJ];exact(p8 q hq).2 i j lO hj
            .simp only[lO,bC];exact gk _ _ aE hj
           .simp only[uY,bC];obtain⟨s1,s2⟩:=p8 q hq;exact⟨s1.block λy hy=>xO y (By q y hq hy) λe1=>uY (p10 q k y hq hk hy e1),λi j hi hj=>⟨hl.kT (s2 i j hi hj).1,(s2 i j hi hj).2⟩⟩
          .rw [Lk.tU];simp only[Lk.sU]
          .simp only[Lk.sU]at hy sR;by_cases h1:q=k
           .subst h1;by_cases h2:q'=q
            .exact h2.symm
            .rw [bk rfl]at hy;rw[bj h2]at sR;rcases vP y hy with e1|⟨e1,_⟩
             .exact p10 q q' y hq vY e1 sR
             .have:=By q' y vY sR;omega
           .rw [bj h1]at hy;by_cases h2:q'=k
            .subst h2;rw[bk rfl]at sR;rcases vP y sR with e1|⟨e1,_⟩
             .exact p10 q q' y hq vY hy e1
             .have:=By q y hq hy;omega
            .rw [bj h2]at sR;exact p10 q q' y hq vY hy sR
          .simp only[Lk.sU]at hy;by_cases h1:q=k
           .subst h1;rw[bk rfl]at hy;rcases vP b hy with e1|⟨e1,_⟩
            .exact p11 q hq e1
            .omega
           .rw [bj h1]at hy;exact p11 q hq hy
          .have:=r.hl hn id _ jg;exact this
          .rw [Lk.sU,bk rfl]
         .cases h
        .cases h
       .
        rename_i tA;rw[tA]at hs;have hs:=iD.kJ hs;obtain⟨id,Kk,kE,yY,rfl⟩:=Hu h;have jx:m*te.i.bytes<=140737488355328:=ho _ aK;obtain⟨v',w',kS,mu⟩:=key _ 0 g (nl2&&z.all E.nE) hs (.inl ⟨rfl,rfl⟩) (λhn=>by simpa using hn) (by simpa using jx);have hb:Below w.heap.size w w':=⟨mu.os,mu.tape,mu.output,mu.size,λy hy=>mu.pr y hy (by simp[Value.ownBlock])⟩
        have hO:∀ y,v'.ownBlock=some y->w.heap.size<=y/\y<w'.heap.size:=λy hy=>by
         rcases mu.F0 y hy with e1|e1
         .simp [Value.ownBlock]at e1
         .exact e1
        have ht:sw L w id (λy=>v'.ownBlock=some y) w':=⟨λy hy=>⟨.inr (hO y hy).1,(hO y hy).2⟩,hb.size,λy hy _=>hb.block y hy,hb.os,hb.tape,hb.output⟩
        have hl:=ht.later v' (λ_=>undef);have mc:=mu.own;rw[cj]at mc;refine⟨v',w',_,.inl kS,r.new id _ (λy=>v'.ownBlock=some y) v' (λ_=>undef) w' kE hO hb ⟨λi j=>if i<0 then g i j else g (i-0) j,by rw[Lk.pX];exact mc,λy=>by rw[Lk.tU,Lk.pX],λi j hi hj=>(λ(q:iD _ _ _ _ _/\_)=>⟨hl.kT q.1,q.2⟩) (?_:_/\_)⟩ yY,Lk.Cb,Lk.pX.symm⟩;simp only[bE,bC,dE];exact gk i j hi hj
       .cases h
      .cases h
     .cases h
    .cases h
   .cases h
  .cases h
 .cases h
def Xe{id q T0 T1 n m sz:Nat}{nl nl2:Bool}{len len2:Nat->Nat}{el el2:Nat->Nat->Nat->E}(ju:id≠q)(r:jd w0 B σ a w L){v':Value}{w':World}(hm:0<m)
 (hq:rn (jl B L) (jJ L) L w q (.jR nl2 T1 T0 m sz len2 el2 none))
 (f1:Nat->Nat->Nat->Value)
 (h8:∀ k,k<n->oi w (L.iN id k) T0 (len k) sz (f1 k) nl/\∀ i j,i<len k->j<sz->iD (jl B L) (jJ L) w (el k i j) (f1 k i j)/\(el k i j).nr 2=true)
 (h9:∀ k x,k<n->(L.iN id k).ownBlock=some x->L.own id x) (qF:∀ k k' x,k<n->k'<n->(L.iN id k).ownBlock=some x->(L.iN id k').ownBlock=some x->k=k')
 {v:Value} (EP:∀ y,v.ownBlock=some y->L.own id y) (sP:∀ k y,k<n->(L.iN id k).ownBlock=some y->v.ownBlock≠some y)
 (mc:oi w' v' T1 (n+m) 1 (λk _=>if k<n then L.iN id k else L.iN q (k-n)) true)
 (vP:∀ y,v'.ownBlock=some y->v.ownBlock=some y\/(w.heap.size<=y/\y<w'.heap.size))
 (lk:w.heap.size<=w'.heap.size) (xO:∀ y,y<w.heap.size->v.ownBlock≠some y->w'.heap[y]? = w.heap[y]?) (xR:w'.os=w.os) (OR:w'.tape=w.tape) (qd:w'.output=w.output)
 (kE:L.mP id->∀ b,L.val id ≠ .pointer (some b)) (jL:σ.nl=true->(nl&&nl2)=true):
 jd w0 B (σ.oo (.sj id q (.jR (nl&&nl2) T1 T0 (n+m) sz (λk=>if k<n then len k else len2 (k-n)) (λk=>if k<n then el k else el2 (k-n)) none))) a w'
  (L.rG id q (λy=>v'.ownBlock=some y\/∃ k,k<n+m/\(if k<n then L.iN id k else L.iN q (k-n)).ownBlock=some y) v' (λk=>if k<n then L.iN id k else L.iN q (k-n))):=by
 obtain⟨b,c,cur,f,g1,g2,g3,g4,g5,g6,g7,g8,g9,g10,g11⟩:=hq.xr hm;have OI:∀ k x,k<m->(L.iN q k).ownBlock=some x->L.own q x:=λk x hk hx=>(g9 x).2 (.inr ⟨k,hk,hx⟩)
 have By:∀ k y,k<n+m->(if k<n then L.iN id k else L.iN q (k-n)).ownBlock=some y->(L.own id y\/L.own q y)/\v.ownBlock≠some y:=by
  intro k y hk hy;by_cases e:k<n
  .rw [bk e]at hy;exact⟨.inl (h9 k y e hy),sP k y e hy⟩
  .rw [bj e]at hy;have:=OI _ _ aE hy;exact⟨.inr this,λh=>ju (r.hi id q y (EP y h) this)⟩
 have iC:∀ y,L.own id y\/L.own q y->y<w.heap.size:=λy h=>by
  rcases h with h|h
  .exact (r.hw id y h).2
  .exact (r.hw q y h).2
 refine r.rG ju _ _ v' _ w' (λy hy=>?_) lk (λy hy ah6=>xO y hy λh=>ah6 (EP y h)) xR OR qd (λhl=>?_) kE jL
 .rcases hy with hy|⟨k,hk,hy⟩
  .rcases vP y hy with h|⟨h1,h2⟩
   .exact ⟨.inl (EP y h),bV (r.hw id y (EP y h)).2 lk⟩
   .exact ⟨.inr (.inr h1),h2⟩
  .have h:=(By k y hk hy).1;exact⟨h.elim .inl λh=>.inr (.inl h),bV (iC y h) lk⟩
 .rcases mc with⟨_,h0⟩|⟨b',c',cur',k1,k2,k3,k4,k5,k6,k7⟩
  .omega
  .have V2:∀ k y,k<n+m->(if k<n then L.iN id k else L.iN q (k-n)).ownBlock=some y->w'.heap[y]? = w.heap[y]?:=λk y hk hy=>xO y (iC y (By k y hk hy).1) (By k y hk hy).2
   refine .inr ⟨b',c',cur',λk=>if k<n then f1 k else f (k-n),by rw[Lk.Hj];exact k1,k2,k3,k4,aE,λk hk _=>?_,λu hu=>?_,λk hk=>?_,λy=>?_,λk k' y hk GQ hy sR=>?_,λk hk hy=>?_⟩
   .rw [Lk.y4];have:=(k6 k 0 hk aG).1;rwa[ck,bY]at this
   .exact k7 rfl u hu
   .rw [Lk.y4];by_cases e:k<n
    .simp only[e,bJ];obtain⟨s1,s2⟩:=h8 k e;refine⟨(s1.qN λh=>?_).block λy hy=>V2 k y hk (by rw[bk e];exact hy),λi j hi hj=>⟨hl.kT (s2 i j hi hj).1,(s2 i j hi hj).2⟩⟩;simp only[bO]at h;exact h.1
    .simp only[e,bC];obtain⟨s1,s2⟩:=g8 (k-n) aE;refine⟨(s1.qN λh=>?_).block λy hy=>V2 k y hk (by rw[bj e];exact hy),λi j hi hj=>⟨hl.kT (s2 i j hi hj).1,(s2 i j hi hj).2⟩⟩;simp only[bO]at h;exact h.2
   .rw [Lk.Xf,k1];simp only[Lk.y4,Value.ownBlock,bG];constructor
    .rintro (h|h)
     .exact .inl h.symm
     .exact .inr h
    .rintro (h|h)
     .exact .inl h.symm
     .exact .inr h
   .simp only[Lk.y4]at hy sR;by_cases e:k<n
    .rw [bk e]at hy;by_cases e':k'<n
     .rw [bk e']at sR;exact qF k k' y e e' hy sR
     .rw [bj e']at sR;exact absurd (r.hi id q y (h9 k y e hy) (OI _ _ aE sR)) ju
    .rw [bj e]at hy;by_cases e':k'<n
     .rw [bk e']at sR;exact absurd (r.hi id q y (h9 k' y e' sR) (OI _ _ aE hy)) ju
     .rw [bj e']at sR;have:=g10 (k-n) (k'-n) y aE aE hy sR;omega
   .rw [Lk.y4]at hy;have h:=By k b' hk hy;rcases vP b' (by rw[k1];rfl)with h2|⟨h2,_⟩
    .exact h.2 h2
    .have:=iC b' h.1;omega
def alr{p:PV}{q:Nat}(h:p.Fi=some q):p = .own q:=by
 cases p<;>simp only[PV.Fi,reduceCtorEq,bG]at h;rw[h]
def ahb(hT:mL P T){s x:Operand}{t:TypeId}{q:Nat}{c:Call}(hc:c={ callee:=.builtin .append,args:=#[s,x],argTypes:=#[t,t] })(iB:o.op = .call c)(r:jd w0 B σ a w L)
  (hq:(σ.op x).Fi=some q) (h:CC T σ o.dst t (σ.op s) q=some u) (ho:∀ q,q ∈ u.jE->q):j9 P K w0 B σ o a w u:=by
 have hx:=r.op x;rw[alr hq]at hx;obtain⟨kx,kv⟩:=hx;have hs:=r.op s;unfold CC at h;split at h
 .rename_i nl2 T2 T0 m sz len2 el2 e by_ vQ Bt;obtain⟨te,zv,uz,hu,nT,uj,Ki,kD,tG,xX,wb,Dd⟩:=S1 w hT Bt;have WH:∀ v,v ∈ zv.cells->v.oneCell'=true/\rf v=false:=λv hv=>by
   rw[xX]at hv;have:v=uz:=by simpa using hv
   rw[this];exact⟨wb,Dd⟩
  have key:∀ (v:Value) (n:Nat) (f:Nat->Nat->Value),0<m->a.eval s=v->oi w v e n 1 f true->(n+m)*by_<=140737488355328 ->
    ∃ v' w',(execOp a.eval o).run P w = .ok (.value v') w'/\Mq w v e n 1 m f (λk _=>L.iN q k) true v' w':=by
   intro v n f hm hv mc jx;obtain⟨bq,cq,curq,fq,g1,g2,g3,g4,g5,g6,g7,g8,g9,g10,g11⟩:=(r.hb q _ vQ).xr hm;have ES:a.eval x = .slice (some ⟨bq,0,none⟩) m cq:=by rw[kv,g1]
   obtain⟨v',w',hr,mu⟩:=ZX P w t o.type e te.i zv 1 hu (hT.Al nT) tG uj (by rw[xX];rfl) aG aE (λv hv=>(WH v hv).1) v n f true mc (some ⟨bq,0,none⟩) m cq (λk _=>L.iN q k)
    (λk j hk hj=>⟨bq,0,rfl,by
     obtain rfl:j=0:= aE ;have:=g6 k hk aK;simp only[World.cell?,g2];simpa using this⟩) (λhA=>by cases hA)
    (λk j hk hj=>⟨(g8 k hk).1.head.2.1,λ_=>(g8 k hk).1.head.2.2⟩) (λ_ v hv=>(WH v hv).2) (by rw[Ki];exact jx)
   refine⟨v',w',?_,mu⟩;subst hc;have em:(#[s,x]:Array Operand).map a.eval = #[a.eval s,a.eval x]:= aK ;simp only[execOp,iB,resolve,em,hv,ES,Sem.run_bind,Sem.run_pure,Result.andThen_ok,invoke,builtin,hr]
  split at h
  .
   rename_i id tA;rw[tA]at hs;obtain⟨ks,ks2⟩:=hs;split at h
   .rename_i nl T1 T0' n sz' len el jg;split at h
    .rename_i oV;cases h;simp only[bO,dW]at oV;obtain rfl:=lg.1 oV.1.1.1.1;obtain rfl:=lg.1 oV.1.1.1.2;obtain rfl:=lg.1 oV.1.1.2;obtain rfl:=lg.1 oV.1.2;have ju:id≠q:=λe=>by have:=oV.2;rw[e,cD]at this;cases this
     have hm:0<m:=ho _ aK;have jx:(n+m)*by_<=140737488355328:=ho _ aK;obtain⟨f,pown,p8,p9,p10,EP,p11,pno⟩:∃ f:Nat->Nat->Nat->Value,oi w (L.val id) _ n 1 (λk _=>L.iN id k) true /\
       (∀ k,k<n->oi w (L.iN id k) T0' (len k) sz' (f k) nl/\∀ i j,i<len k->j<sz'->iD (jl B L) (jJ L) w (el k i j) (f k i j)/\(el k i j).nr 2=true) /\
       (∀ k x,k<n->(L.iN id k).ownBlock=some x->L.own id x)/\(∀ k k' x,k<n->k'<n->(L.iN id k).ownBlock=some x->(L.iN id k').ownBlock=some x->k=k') /\
       (∀ y,(L.val id).ownBlock=some y->L.own id y)/\(∀ k y,k<n->(L.iN id k).ownBlock=some y->(L.val id).ownBlock≠some y)/\∀ b,L.val id ≠ .pointer (some b):=by
      rcases r.hb id _ jg with⟨h1,h2,h3⟩|⟨b,cp,cur,f,p1,p2,p3,p4,p5,p6,p7,p8,p9,p10,p11⟩
      .refine ⟨λ_ _ _=>undef,.inl ⟨h1,h2⟩,λk hk=> aE,λk x hk=> aE,λk k' x hk=> aE,λy hy=>?_,λk y hk=> aE,λb hb=>?_⟩
       .rw [h1]at hy;simp[Value.ownBlock]at hy
       .rw [h1]at hb;cases hb
      .refine ⟨f,.inr ⟨b,cp,cur,p1,p2,p3,p4,aE,λk j hk hj=>?_,λ_=>p7⟩,p8,λk y hk hy=>(p9 y).2 (.inr ⟨k,hk,hy⟩),p10,λy hy=>?_,λk y hk hy ET=>?_,λb1 kD=>?_⟩
       .obtain rfl:j=0:= aE ;rw[ck,bY];exact⟨p6 k hk aK,(p8 k hk).1.head.2.1⟩
       .rw [p1]at hy;simp only[Value.ownBlock,bG]at hy;exact(p9 y).2 (.inl hy.symm)
       .rw [p1]at ET;simp only[Value.ownBlock,bG]at ET;exact p11 k hk (ET▸hy)
       .rw [p1]at kD;cases kD
     obtain⟨v',w',kS,mu⟩:=key (L.val id) n (λk _=>L.iN id k) hm ks2 pown jx;refine⟨v',w',_,.inl kS,Xe ju r hm (r.hb q _ vQ) f p8 p9 p10 EP p11 mu.own mu.F0 mu.size mu.pr mu.os mu.tape mu.output (λ_=>pno) (λhn=>?_),Lk.Pg ju,Lk.Hj.symm⟩
     .have h1:nl=true:=r.hl hn id _ jg;have h2:nl2=true:=r.hl hn q _ vQ;rw[h1,h2];rfl
    .cases h
   .cases h
  .
   rename_i id tA Kk;rw[tA]at hs;have hs:=iD.kJ hs;split at h
   .rename_i kE;split at h
    .rename_i oV;cases h;simp only[bO,dW]at oV;obtain rfl:=lg.1 oV.1;have ju:id≠q:=λe=>by have:=oV.2;rw[e,cD]at this;cases this
     have hm:0<m:=ho _ aK;have jx:m*by_<=140737488355328:=ho _ aK;obtain⟨v',w',kS,mu⟩:=key _ 0 (λk _=>L.iN id k) hm hs (.inl ⟨rfl,rfl⟩) (by simpa using jx);have OB:¬L.mP id:=λh=>by have:=(r.hv id).1 h;rw[kE]at this;cases this
     have hj:=Xe (n:=0) (nl:=true) (len:=λ_=>0) (el:=λ_ _ _=>.any) ju r hm (r.hb q _ vQ) (λ_ _ _=>undef) (λk hk=>absurd hk (bE k)) (λk y hk=>absurd hk (bE k)) (λk k' y hk=>absurd hk (bE k))
      (v:=.slice none 0 0) (λy hy=>by simp[Value.ownBlock]at hy) (λk y hk=>absurd hk (bE k)) mu.own mu.F0 mu.size mu.pr mu.os mu.tape mu.output (λh=>absurd h OB) (λhn=>r.hl hn q _ vQ)
     simp only[bE,bC,dE,cj,dX]at hj;exact⟨v',w',_,.inl kS,hj,Lk.Pg ju,Lk.Hj.symm⟩
    .cases h
   .cases h
  .cases h
 .cases h
def agZ(hT:mL P T)(hB:∀ b,B b->b<w0.heap.size){s x:Operand}{t:TypeId}{c:Call}(hc:c={ callee:=.builtin .append,args:=#[s,x],argTypes:=#[t,t] })(iB:o.op = .call c)(r:jd w0 B σ a w L)
 (h:CB T σ o.dst t (σ.op s) (σ.op x)=some u) (ho:∀ q,q ∈ u.jE->q):j9 P K w0 B σ o a w u:=by
 unfold CB at h;split at h
 .rename_i u0 h0;split at h
  .rename_i id nl T1 n sz el id' hf hr;split at h
   .rename_i hid;have hid:=lg.1 hid;subst hid;cases h;have r2:jd w0 B { σ with nl:=false } a w L:=⟨r.hd,r.hs,r.ht,r.hb,r.hv,r.hn,r.hw,r.hi,r.he,λh=>by cases h⟩
    obtain⟨v,w',L1,kS,hrel,sF⟩:=Vk (K:=K) hT hc iB r2 h0 λq hq=>ho q (List.mem_cons_of_mem _ hq)
    rw[hf]at hrel;rw[hr]at sF;obtain⟨L',k1,k2⟩:=jd.fin hB hrel;refine⟨v,w',L',kS,⟨k1.hd,k1.hs,k1.ht,k1.hb,k1.hv,k1.hn,k1.hw,k1.hi,k1.he,λhn i b hb=>r.hl hn i b ?_⟩,?_⟩
    .have hb:look (σ.b.filter λx=>!Nat.beq x.1 id') i=some b:=hb;rw[Dq]at hb;split at hb
     .cases hb
     .exact hb
    rw[sF.2];exact k2
   .cases h
  .cases h
 .cases h
def ahh{x y:Operand}{c:Call}(hc:c.callee = .builtin .max/\c.args = #[x,y])(iB:o.op = .call c)(r:jd w0 B σ a w L){k k':IntKind}{p q:Int}(hx:σ.op x = .e (.v (.int k p)))(hy:σ.op y = .e (.v (.int k' q)))
 (hu:u={ r:=.e (.v (.int k (if q>p then q else p))) }):j9 P K w0 B σ o a w u:=by
 have h1:=r.op x;have h2:=r.op y;rw[hx]at h1;rw[hy]at h2;have h1:=iD.kJ h1;have h2:=iD.kJ h2;subst hu;refine j9.pure r (v:=.int k (if q>p then q else p)) ?_ rfl (.v _);have em:(#[x,y]:Array Operand).map a.eval = #[.int k p,.int k' q]:=by simp[h1,h2]
 simp only[execOp,iB,resolve,hc.1,hc.2,em,Sem.run_bind,Sem.run_pure,Result.andThen_ok,invoke,builtin,run_max_int2]
def ahi{x y z:Operand}{c:Call}(hc:c.callee = .builtin .max/\c.args = #[x,y,z])(iB:o.op = .call c)(r:jd w0 B σ a w L){k k' k'':IntKind}{p q s:Int}(hx:σ.op x = .e (.v (.int k p)))(hy:σ.op y = .e (.v (.int k' q)))(hz:σ.op z = .e (.v (.int k'' s)))
 (hu:u={ r:=.e (.v (.int k (if s>(if q>p then q else p)then s else(if q>p then q else p)))) }):j9 P K w0 B σ o a w u:=by
 have h1:=r.op x;have h2:=r.op y;have h3:=r.op z;rw[hx]at h1;rw[hy]at h2;rw[hz]at h3;have h1:=iD.kJ h1;have h2:=iD.kJ h2;have h3:=iD.kJ h3;subst hu;refine j9.pure r (v:=.int k (if s>(if q>p then q else p)then s else(if q>p then q else p))) ?_ rfl (.v _);have em:(#[x,y,z]:Array Operand).map a.eval = #[.int k p,.int k' q,.int k'' s]:=by simp[h1,h2,h3]
 simp only[execOp,iB,resolve,hc.1,hc.2,em,Sem.run_bind,Sem.run_pure,Result.andThen_ok,invoke,builtin,run_max_int3]
def ahj{x y:Operand}{c:Call}(hc:c.callee = .builtin .min/\c.args = #[x,y])(iB:o.op = .call c)(r:jd w0 B σ a w L){k k':IntKind}{p q:Int}(hx:σ.op x = .e (.v (.int k p)))(hy:σ.op y = .e (.v (.int k' q)))
 (hu:u={ r:=.e (.v (.int k (if q<p then q else p))) }):j9 P K w0 B σ o a w u:=by
 have h1:=r.op x;have h2:=r.op y;rw[hx]at h1;rw[hy]at h2;have h1:=iD.kJ h1;have h2:=iD.kJ h2;subst hu;refine j9.pure r (v:=.int k (if q<p then q else p)) ?_ rfl (.v _);have em:(#[x,y]:Array Operand).map a.eval = #[.int k p,.int k' q]:=by simp[h1,h2]
 simp only[execOp,iB,resolve,hc.1,hc.2,em,Sem.run_bind,Sem.run_pure,Result.andThen_ok,invoke,builtin,run_min_int2]
end
structure Gd(P:Program)(K:World->Prop)(w0:World)(B:Nat->Prop):Prop where
 k:K w0
 Lm:∀ w w',K w->Below w.heap.size w w'->K w'
 hB:∀ b,B b->b<w0.heap.size/\py w0 b
def py.Ff{w w':World}{b:Nat}(h:py w b)(hb:w'.heap[b]? = w.heap[b]?):py w' b:=by
 intro o x e;exact h o x (by rw[<-e];exact(World.cell?_of_block (w:=w) (w':=w') hb).symm)
def py.P3{w:World}{b:Nat}{cs:Array Value}{T:TypeId}{fr:Nat×Nat}(hg:w.heap[b]? = some (.cells cs T fr))(h:∀ v,v ∈ cs->rf v=false):py w b:=by
 intro o x e;simp only[World.cell?,hg]at e;simp only[Option.isSome_none,bK,bC]at e;have:=h _ (dV e);cases this
section
variable {P:Program} {K:World->Prop} {T:List TI} {O:qB} {w0:World} {B:Nat->Prop} {σ:PS} {o:Oper} {a:Act} {w:World} {L:Lk} {u:kO}
def oi.K8{v:Value}{T:TypeId}{n sz:Nat}{f:Nat->Nat->Value}(h:oi w v T n sz f true){x:Nat}(hx:v.ownBlock=some x):py w x:=by
 rcases h with⟨rfl,_⟩|⟨b,c,cur,rfl,hg,_,_,_,_,jL⟩
 .simp [Value.ownBlock]at hx
 .simp [Value.ownBlock]at hx;subst hx;exact py.P3 hg (jL rfl)
def rn.K8{id:Nat}{b:Bx}(h:rn (jl B L) (jJ L) L w id b)(hn:b.nl=true){x:Nat}(hx:L.own id x):py w x:=by
 cases b with
 |cells T l=>
  obtain⟨b,vs,h1,h2,h3,h4,h5⟩:=h;obtain rfl:=(h2 x).1 hx;exact py.P3 h3 λv hv=>Pq h4 hn v (by simpa using hv)
 |row nl T n sz el=>
  obtain⟨f,h1,h2,h3⟩:=h;have hn:nl=true:=hn;subst hn;exact h1.K8 ((h2 x).1 hx)
 |jR nl T1 T0 n sz len el pend=>
  rcases h with⟨_,_,h⟩|h
  .exact absurd hx (h x)
  obtain⟨b,c,cur,f,h1,h2,h3,h4,h5,h6,h7,h8,h9,qF,sP⟩:=h;have hn:nl=true:=hn;subst hn;rcases(h9 x).1 hx with rfl|⟨k,hk,hkx⟩
  .exact py.P3 h2 λv hv=>h7 v hv
  .exact (h8 k hk).1.K8 hkx
def jd.Jr(g:Gd P K w0 B)(r:jd w0 B σ a w L)(hn:σ.nl=true):∀ b,jl B L b->b<w.heap.size/\py w b:=by
 intro b hb;rcases hb with hb|⟨id,hb⟩
 .obtain ⟨h1,h2⟩:=g.hB b hb;exact⟨bV h1 r.he.size,h2.Ff (r.he.block b h1)⟩
 .refine ⟨(r.hw id b hb).2,?_⟩;have hl:=(r.hv id).1 (r.hn id b hb);obtain⟨bx,jh⟩:=fF.1 hl;exact(r.hb id bx jh).K8 (r.hl hn id bx jh) hb
def rn.iV{id:Nat}{Tt:TypeId}{l:List E}(h:rn (jl B L) (jJ L) L w id (.cells Tt l)){b:Nat}(hv:L.val id = .pointer (some ⟨b,0,none⟩))(iC:∀ x,L.own id x->x<w.heap.size):
 iD (jl B L) (λ_=>False) w (.iV l.length λj=>l.getD j .any) (.pointer (some ⟨b,0,none⟩)):=by
 obtain⟨b',vs,h1,h2,h3,h4,h5⟩:=h;rw[hv]at h1;cases h1;refine .iV _ _ b 0 (λj=>vs.getD j undef) (λh=>h) (iC b ((h2 b).2 rfl)) (λj hj=>?_) (λj hj=>?_) (λj hj=>?_)
 .have tv:j<vs.length:=by rw[h4.len];exact hj
  rw[bw,bF tv];exact h5 _ (cG tv)
 .have tv:j<vs.length:=by rw[h4.len];exact hj
  simp only[World.cell?,h3];simp[tv]
 .have tv:j<vs.length:=by rw[h4.len];exact hj
  rw[bw,bF hj,bw,bF tv];exact(h4.kT j _ _ (bF hj) (bF tv)).qN (λ_ h=>h) (λ_ h=>h.elim)
def oi.ZI{v:Value}{T:TypeId}{n sz:Nat}{f:Nat->Nat->Value}{nl:Bool}{el:Nat->Nat->E}{bs br:Nat->Prop}(h1:oi w v T n sz f nl)(iC:∀ x,v.ownBlock=some x->x<w.heap.size)
 (h3:∀ i j,i<n->j<sz->iD bs br w (el i j) (f i j)/\(el i j).nr 2=true):iD (λ_=>False) (λ_=>False) w (.sl nl n sz el) v:=by
 rcases h1 with⟨rfl,rfl⟩|⟨b,c,cur,rfl,hg,pj,oq,nC,ky,jL⟩
 .exact .sl nl 0 sz el none 0 f (bu _) aG (λ_=>rfl) (λi j hi=>absurd hi (bE i)) (λi j hi=>absurd hi (bE i)) (λi j hi=>absurd hi (bE i)) (λi j hi=>absurd hi (bE i))
 .refine .sl nl n sz el _ c f pj (by unfold maxLen at oq;omega) (λh=>by cases h) (λi j hi hj=>⟨(ky i j hi hj).2,λhn=>jL hn _ (dV (ky i j hi hj).1)⟩) (λi j hi hj=>(h3 i j hi hj).2)
   (λi j hi hj=>⟨b,0,rfl,λh=>h,iC b rfl,?_⟩) (λi j hi hj=>(iD.nr ((h3 i j hi hj).1.qN (λ_ h=>h.elim) (λ_ h=>h)) 2 (h3 i j hi hj).2))
  rw[cj];simp only[World.cell?,hg];simpa using(ky i j hi hj).1
def jd.WL(r:jd w0 B σ a w L){id T1 T0 n sz k:Nat}{nl:Bool}{len:Nat->Nat}{el:Nat->Nat->Nat->E}{pend:Option Nat}(jg:σ.bo id=some (.jR nl T1 T0 n sz len el pend))(hk:k<n):
 iD (λ_=>False) (λ_=>False) w (.sl nl (len k) sz (el k)) (L.iN id k):=by
 obtain⟨b,c,cur,f,h1,h2,h3,h4,h5,h6,h7,h8,h9,qF,sP⟩:=(r.hb id _ jg).xr aE;exact(h8 k hk).1.ZI (λx hx=>(r.hw id x ((h9 x).2 (.inr ⟨k,hk,hx⟩))).2) (h8 k hk).2
def CV.Gk(r:jd w0 B σ a w L){c:CV}{e:E}{is:List Nat}(h:c.ext σ=some (e,is))(kE:c.Hf=false){v:Value}(hv:xy (jl B L) (jJ L) L w c v):iD (jl B L) (λ_=>False) w e v:=by
 cases c with
 |e x=>simp only[CV.ext,bG,bZ]at h;obtain⟨rfl,_⟩:=h;exact hv.qN (λ_ h=>h) (λ_ h=>h.elim)
 |box id=>
  simp only[CV.ext]at h;split at h
  .rename_i Tt l jg;simp only[bG,bZ]at h;obtain⟨rfl,_⟩:=h;obtain⟨_,b,k2,rfl⟩:=hv;exact(r.hb id _ jg).iV k2 λx hx=>(r.hw id x hx).2
  .cases h
 |row id=>cases kE
def CV.Nt(r:jd w0 B σ a w L){c:CV}{e:E}{is:List Nat}(h:c.ext σ=some (e,is)){v:Value}(hv:xy (jl B L) (jJ L) L w c v):iD (λ_=>False) (λ_=>False) w e v:=by
 cases kE:c.Hf with
 |false=>exact(CV.Gk r h kE hv).qN (λ_ h=>h.elim) (λ_ h=>h)
 |true=>
  cases c with
  |row id=>
   simp only[CV.ext]at h;split at h
   .rename_i nl T1 T0 n sz len el jg;split at h
    .rename_i hn;have hn:=lg.1 hn;subst hn;simp only[bG,bZ]at h;obtain⟨rfl,_⟩:=h;obtain⟨_,b,n',c,k2,rfl⟩:=hv;have lO:=r.WL jg (eC 0);obtain⟨b',c',cur,f,h1,h2,h3,h4,h5,h6,h7,h8,h9,qF,sP⟩:=(r.hb id _ jg).xr aG;rw[k2]at h1;cases h1;have pQ:=h6 0 (eC 0) aK;refine .iV 1 _ b 0 (λ_=>L.iN id 0) (λh=>h) (r.hw id b ((h9 b).2 (.inl rfl))).2 (λj hj=>(h8 0 (eC 0)).1.head.2.1) (λj hj=>?_) (λj hj=>lO);obtain rfl:j=0:= aE ;simp only[World.cell?,h2];simpa using pQ
    .cases h
   .cases h
  |_=>cases kE
def Us(r:jd w0 B σ a w L){l:List CV}{es:List E}{is:List Nat}(h:vF σ l=some (es,is))(kE:l.any CV.Hf=false){vs:List Value}(hlen:vs.length=l.length)
 (hv:∀ (i:Nat) (c:CV) (x:Value),l[i]? = some c->vs[i]? = some x->xy (jl B L) (jJ L) L w c x):kr (jl B L) (λ_=>False) w es vs:=by
 induction l generalizing es is vs with
 |nil=>simp only[vF,bG,bZ]at h;obtain⟨rfl,_⟩:=h;obtain rfl:=dw hlen;exact .nil _ _ _
 |cons c l ih=>
  cases vs with
  |nil=>simp at hlen
  |cons v vs=>
   simp only[vF]at h;split at h
   .rename_i x i xs js h1 h2;simp only[bG,bZ]at h;obtain⟨rfl,_⟩:=h;simp only[eA,eW]at kE;exact .cons (CV.Gk r h1 kE.1 (hv 0 c v rfl rfl)) (ih h2 kE.2 (by simpa using hlen) λi c x hc hx=>hv (i+1) c x (by simpa using hc) (by simpa using hx))
   .cases h
def Ut(r:jd w0 B σ a w L){l:List CV}{es:List E}{is:List Nat}(h:vF σ l=some (es,is)){vs:List Value}(hlen:vs.length=l.length)
 (hv:∀ (i:Nat) (c:CV) (x:Value),l[i]? = some c->vs[i]? = some x->xy (jl B L) (jJ L) L w c x):kr (λ_=>False) (λ_=>False) w es vs:=by
 induction l generalizing es is vs with
 |nil=>simp only[vF,bG,bZ]at h;obtain⟨rfl,_⟩:=h;obtain rfl:=dw hlen;exact .nil _ _ _
 |cons c l ih=>
  cases vs with
  |nil=>simp at hlen
  |cons v vs=>
   simp only[vF]at h;split at h
   .rename_i x i xs js h1 h2;simp only[bG,bZ]at h;obtain⟨rfl,_⟩:=h;exact .cons (CV.Nt r h1 (hv 0 c v rfl rfl)) (ih h2 (by simpa using hlen) λi c x hc hx=>hv (i+1) c x (by simpa using hc) (by simpa using hx))
   .cases h
def oi.ajI{v:Value}{T:TypeId}{n sz:Nat}{f:Nat->Nat->Value}{nl:Bool}{el:Nat->Nat->E}{bs br:Nat->Prop}(h1:oi w v T n sz f nl)(iC:∀ x,v.ownBlock=some x->x<w.heap.size)
 (h3:∀ i j,i<n->j<sz->iD bs br w (el i j) (f i j)/\(el i j).nr 2=true):iD bs (λ_=>False) w (.nO true nl n sz el) v:=by
 rcases h1 with⟨rfl,rfl⟩|⟨b,c,cur,rfl,hg,pj,oq,nC,ky,jL⟩
 .exact .nO true nl 0 sz el none 0 f (bu _) aG (λ_=>rfl) (λi j hi=>absurd hi (bE i)) (λ_ i j hi=>absurd hi (bE i)) (λi j hi=>absurd hi (bE i)) (λi j hi=>absurd hi (bE i))
 .refine .nO true nl n sz el _ c f pj (by unfold maxLen at oq;omega) (λh=>by cases h) (λi j hi hj=>⟨(ky i j hi hj).2,λhn=>jL hn _ (dV (ky i j hi hj).1)⟩) (λ_ i j hi hj=>(h3 i j hi hj).2)
   (λi j hi hj=>⟨b,0,rfl,λh=>h,iC b rfl,?_⟩) (λi j hi hj=>iD.nr (h3 i j hi hj).1 2 (h3 i j hi hj).2)
  rw[cj];simp only[World.cell?,hg];simpa using(ky i j hi hj).1
def PV.Gk(r:jd w0 B σ a w L){p:PV}{e:E}{is:List Nat}(h:p.ext σ=some (e,is))(kE:p.xd σ=false){v:Value}(hv:nI (jl B L) (jJ L) L w p v):iD (jl B L) (λ_=>False) w e v:=by
 cases p with
 |e x=>simp only[PV.ext,bG,bZ]at h;obtain⟨rfl,_⟩:=h;exact iD.qN (λ_ h=>h) (λ_ h=>h.elim) hv
 |box id off=>
  cases off with
  |succ=>simp[PV.ext]at h
  |zero=>
   simp only[PV.ext]at h;split at h
   .rename_i Tt l jg;simp only[bG,bZ]at h;obtain⟨rfl,_⟩:=h;obtain⟨_,b,k2,rfl⟩:=hv;exact(r.hb id _ jg).iV k2 λx hx=>(r.hw id x hx).2
   .cases h
 |pI f cap=>
  simp only[PV.ext]at h;split at h
  .rename_i xs js h1;simp only[bG,bZ]at h;obtain⟨rfl,_⟩:=h;obtain⟨vs,rfl,k2,k3⟩:=hv;have:=Us r h1 kE k2 k3;exact .fn f xs vs this.len this.kT
  .cases h
 |own id=>
  obtain⟨_,rfl⟩:=hv;simp only[PV.xd]at kE;split at kE
  .rename_i nl T1 T0 n sz len el pend jg;simp only[PV.ext,jg]at h;cases pend with
   |some k=>cases h
   |none=>
    simp only[bG,bZ]at h;obtain⟨rfl,_⟩:=h;rcases r.hb id _ jg with⟨h1,h2,_⟩|⟨b,c,cur,f,h1,h2,h3,h4,h5,h6,h7,h8,h9,qF,sP⟩
    .subst h2;rw[h1];exact .nO false true 0 1 _ none 0 (λ_ _=>undef) (bu _) aG (λ_=>rfl) (λi j hi=>absurd hi (bE i)) (λh=>by cases h) (λi j hi=>absurd hi (bE i)) (λi j hi=>absurd hi (bE i))
    .rw [h1];refine .nO false true n 1 _ _ c (λk _=>L.iN id k) h3 (by unfold maxLen at h4;omega) (λh=>by cases h) (λk j hk hj=>⟨(h8 k hk).1.head.2.1,λ_=>(h8 k hk).1.head.2.2⟩) (λh=>by cases h)
      (λk j hk hj=>⟨b,0,rfl,λh=>h,(r.hw id b ((h9 b).2 (.inl rfl))).2,?_⟩) (λk j hk hj=>(h8 k hk).1.ajI (λx hx=>(r.hw id x ((h9 x).2 (.inr ⟨k,hk,hx⟩))).2) (h8 k hk).2)
     rw[cj,ck];obtain rfl:j=0:= aE ;simp only[World.cell?,h2];simpa using h6 k hk aK 
  .cases kE
 |iN id k=>cases kE
 |nF=>simp[PV.ext]at h
 |rF=>simp[PV.ext]at h
def PV.Nt(r:jd w0 B σ a w L){p:PV}{e:E}{is:List Nat}(h:p.ext σ=some (e,is)){v:Value}(hv:nI (jl B L) (jJ L) L w p v):iD (λ_=>False) (λ_=>False) w e v:=by
 by_cases kE:p.xd σ=false
 .exact (PV.Gk r h kE hv).qN (λ_ h=>h.elim) (λ_ h=>h)
 .cases p with
  |own id=>
   obtain⟨_,rfl⟩:=hv;simp only[PV.ext]at h;split at h
   .rename_i nl T n sz el jg;simp only[bG,bZ]at h;obtain⟨rfl,_⟩:=h;obtain⟨f,h1,h2,h3⟩:=r.hb id _ jg;exact h1.ZI (λx hx=>(r.hw id x ((h2 x).2 hx)).2) h3
   .rename_i nl T1 T0 n sz len el jg;exact absurd (by simp only[PV.xd,jg]) kE
   .cases h
  |iN id k=>
   obtain⟨_,rfl⟩:=hv;simp only[PV.ext]at h;split at h
   .rename_i nl T1 T0 n sz len el jg;split at h
    .rename_i hk;simp only[bG,bZ]at h;obtain⟨rfl,_⟩:=h;exact r.WL jg (by simpa[fY]using hk)
    .cases h
   .cases h
  |pI f cap=>
   simp only[PV.ext]at h;split at h
   .rename_i xs js h1;simp only[bG,bZ]at h;obtain⟨rfl,_⟩:=h;obtain⟨vs,rfl,k2,k3⟩:=hv;have:=Ut r h1 k2 k3;exact .fn f xs vs this.len this.kT
   .cases h
  |e x=>exact absurd rfl kE
  |box id off=>exact absurd rfl kE
  |nF id sz i j=>exact absurd rfl kE
  |rF id sz k i j=>exact absurd rfl kE
def R6(r:jd w0 B σ a w L){l:List Operand}{es:List E}{is:List Nat}(h:uM σ l=some (es,is)):kr (λ_=>False) (λ_=>False) w es (l.map a.eval):=by
 induction l generalizing es is with
 |nil=>simp only[uM,bG,bZ]at h;obtain⟨rfl,_⟩:=h;exact .nil _ _ _
 |cons x l ih=>
  simp only[uM]at h;split at h
  .rename_i y i xs js h1 h2;simp only[bG,bZ]at h;obtain⟨rfl,_⟩:=h;exact .cons (PV.Nt r h1 (r.op x)) (ih h2)
  .cases h
def R5(r:jd w0 B σ a w L){l:List Operand}{es:List E}{is:List Nat}(h:uM σ l=some (es,is))(kE:(l.map σ.op).any (PV.xd σ)=false):kr (jl B L) (λ_=>False) w es (l.map a.eval):=by
 induction l generalizing es is with
 |nil=>simp only[uM,bG,bZ]at h;obtain⟨rfl,_⟩:=h;exact .nil _ _ _
 |cons x l ih=>
  simp only[uM]at h;split at h
  .rename_i y i xs js h1 h2;simp only[bG,bZ]at h;obtain⟨rfl,_⟩:=h;simp only[ey,eA,eW]at kE;exact .cons (PV.Gk r h1 kE.1 (r.op x)) (ih h2 kE.2)
  .cases h
def I3(P:Program)(K:World->Prop)(w0:World)(B:Nat->Prop)(σ:PS)(o:Oper)(a:Act)(w:World)(u:kO):Prop:=
 ∀ (Kc:Act->World->Prop) (Q:Exit->Act->World->Prop),(∀ v w' L',jd w0 B (σ.oo u.f) a w' L'->nI (jl B L') (jJ L') L' w' u.r v->Kc (a.put o.dst v) w')->o.wp P a w Kc Q
def j9.pg(h:j9 P K w0 B σ o a w u):I3 P K w0 B σ o a w u:=by
 intro Kc Q hk;obtain⟨v,w',L',kS,hr,hp⟩:=h;unfold Oper.wp;rcases kS with kS|⟨kS,rfl⟩
 .rw [kS];exact hk v w' L' hr hp
 .rw [kS];exact hk _ w' L' hr hp
def TS(g:Gd P K w0 B)(r:jd w0 B σ a w L){c:Call}{f:Operand}(iB:o.op = .call c)(hf:c.callee = .value f){gf:FuncId}{xs ys:List E}{is:List Nat}{us:List Value}
 {ow:Bool} (Aa:a.eval f = .func (.func gf) #[] us.toArray) (OW:kr (λ_=>False) (λ_=>False) w xs (c.args.toList.map a.eval)) (qf:ow=false->kr (jl B L) (λ_=>False) w xs (c.args.toList.map a.eval)) (OS:kr (λ_=>False) (λ_=>False) w ys us) (Ai:ow=false->kr (jl B L) (λ_=>False) w ys us)
 (h:Bi P K O σ o.dst gf (xs++ys) is ow=some u) (ho:∀ q,q ∈ u.jE->q):I3 P K w0 B σ o a w u:=by
 intro Kc Q hk;simp only[Bi]at h;split at h
 .rename_i kf GZ;split at h
  .rename_i hc;cases h;have pc:PC P K gf (xs++ys) kf:=ho _ aK;have Oa:=OW.app OS;have kS:(execOp a.eval o).run P w = .ok (.enter gf ((c.args.toList.map a.eval)++us).toArray) w:=by
    have e1:c.args.map a.eval=(c.args.toList.map a.eval).toArray:=by apply dx;simp
    have e2:#[]++(c.args.toList.map a.eval).toArray++us.toArray=((c.args.toList.map a.eval)++us).toArray:= aK ;simp only[execOp,iB,resolve,hf,Aa,Deferred.ofValue,Sem.run_bind,Sem.run_pure,Result.andThen_ok,invoke,e1,e2,pc.call]
   unfold Oper.wp;rw[kS];show Calls P gf _ w _;have hK:K w:=g.Lm _ _ g.k r.he;by_cases C3:kf.plain 3=true
   .refine (pc.run w (λ_=>False) _ hK (λ_ h=>h.elim) Oa).mono ?_;rintro e w' ⟨v,rfl,hb,hv⟩;exact hk v w' L (r.later hb) (iD.plain (w:=w') hv 3 C3)
   .have hn:σ.nl=true/\ow=false:=by simpa[C3]using hc
    refine(pc.run w (jl B L) _ hK (r.Jr g hn.1) ((qf hn.2).app (Ai hn.2))).mono ?_;rintro e w' ⟨v,rfl,hb,hv⟩;exact hk v w' L (r.later hb) (iD.qN (λ_ h=>h) (λ_ _=>trivial) hv)
  .split at h
   .rename_i hc;cases h;have pc:I6 P K gf (xs++ys) kf:=ho _ aK;have kS:(execOp a.eval o).run P w = .ok (.enter gf ((c.args.toList.map a.eval)++us).toArray) w:=by
     have e1:c.args.map a.eval=(c.args.toList.map a.eval).toArray:=by apply dx;simp
     have e2:#[]++(c.args.toList.map a.eval).toArray++us.toArray=((c.args.toList.map a.eval)++us).toArray:= aK ;simp only[execOp,iB,resolve,hf,Aa,Deferred.ofValue,Sem.run_bind,Sem.run_pure,Result.andThen_ok,invoke,e1,e2,pc.call]
    unfold Oper.wp;rw[kS];show Calls P gf _ w _;have hK:K w:=g.Lm _ _ g.k r.he;have hn:ow=false:=by simpa using hc
    refine(pc.run w (jl B L) _ hK (λb hb=>?_) ((qf hn).app (Ai hn))).mono ?_
    .rcases hb with hb|⟨id,hb⟩
     .exact bV (g.hB b hb).1 r.he.size
     .exact (r.hw id b hb).2
    .rintro e w' ⟨v,rfl,hb,hv⟩;exact hk v w' L (r.later hb) (iD.qN (λ_ h=>h) (λ_ _=>trivial) hv)
   .split at h
    .rename_i jL;cases h;have pc:PC P K gf (xs++ys) kf:=ho _ aK;have uU:wK kf:=ho _ aK;have Oa:=OW.app OS;have kS:(execOp a.eval o).run P w = .ok (.enter gf ((c.args.toList.map a.eval)++us).toArray) w:=by
      have e1:c.args.map a.eval=(c.args.toList.map a.eval).toArray:=by apply dx;simp
      have e2:#[]++(c.args.toList.map a.eval).toArray++us.toArray=((c.args.toList.map a.eval)++us).toArray:= aK ;simp only[execOp,iB,resolve,hf,Aa,Deferred.ofValue,Sem.run_bind,Sem.run_pure,Result.andThen_ok,invoke,e1,e2,pc.call]
     unfold Oper.wp;rw[kS];show Calls P gf _ w _;have hK:K w:=g.Lm _ _ g.k r.he;refine(pc.run w (λ_=>False) _ hK (λ_ h=>h.elim) Oa).mono ?_;rintro e w' ⟨v,rfl,hb,hv⟩;have r':=r.later hb;exact hk v w' L r' (iD.qN (λ_ h=>h) (λ_ _=>trivial) (uU _ _ _ _ _ (λx hx=>.inr (r'.Jr g jL x hx).2) hv))
    .cases h
 .split at h
  .rename_i d hd;split at h
   .rename_i nl T n sz el hnw;split at h
    .rename_i hc;cases h;simp only[bO]at hc;have pc:wL P K gf (xs++ys) nl T n sz el:=ho _ aK;have kS:(execOp a.eval o).run P w = .ok (.enter gf ((c.args.toList.map a.eval)++us).toArray) w:=by
      have e1:c.args.map a.eval=(c.args.toList.map a.eval).toArray:=by apply dx;simp
      have e2:#[]++(c.args.toList.map a.eval).toArray++us.toArray=((c.args.toList.map a.eval)++us).toArray:= aK ;simp only[execOp,iB,resolve,hf,Aa,Deferred.ofValue,Sem.run_bind,Sem.run_pure,Result.andThen_ok,invoke,e1,e2,pc.call]
     unfold Oper.wp;rw[kS];show Calls P gf _ w _;have hK:K w:=g.Lm _ _ g.k r.he;have fin:∀ (v:Value) (w':World) (gg:Nat->Nat->Value),Below w.heap.size w w'->oi w' v T n sz gg nl->(∀ x,v.ownBlock=some x->w.heap.size<=x/\x<w'.heap.size) ->
      (∀ i j,i<n->j<sz->iD (λb=>jl B L b\/v.ownBlock=some b) (λ_=>True) w' (el i j) (gg i j)/\(el i j).nr 2=true)->Kc (a.put o.dst v) w':=by
      intro v w' gg hb mc vP CP;have key:∀ (σ1:PS) (L1:Lk),jd w0 B σ1 a w L1->(∀ i x,L1.own i x->L.own i x)->σ1.bo d=none->σ1.nl=σ.nl->∃ L',jd w0 B (σ1.oo (.new d (.row nl T n sz el))) a w' L'/\nI (jl B L') (jJ L') L' w' (.own d) v:=by
       intro σ1 L1 r1 BD kE ap7;have ah5:=r1.new d (.row nl T n sz el) (λx=>v.ownBlock=some x) v (λ_=>undef) w' kE vP hb
        ⟨gg,by rw[Lk.pX];exact mc,λx=>by rw[Lk.tU,Lk.pX],λi j hi hj=>⟨?_,(CP i j hi hj).2⟩⟩ (by simp[Bx.nl,hc.2])
       .exact ⟨_,ah5,Lk.Cb,Lk.pX.symm⟩
       .refine (CP i j hi hj).1.qN (λb h=>?_) (λ_ _=>trivial);rcases h with h|⟨id,h⟩
        .exact .inl (.inl h)
        .by_cases e:id=d
         .subst e;exact .inr ((Lk.tU b).1 h)
         .exact .inl (.inr ⟨id,BD _ _ ((Lk.Cc e b).1 h)⟩)
      cases jg:σ.bo d with
      |none=>
       obtain⟨L',k1,k2⟩:=key σ L r (λ_ _ h=>h) jg rfl;exact hk v w' L' (by simpa only[vi,jg]using k1) k2
      |some b=>
       obtain⟨L1,r1,BD,kE⟩:=r.TX d;obtain⟨L',k1,k2⟩:=key _ L1 r1 BD kE rfl;rw[T7]at k1;exact hk v w' L' (by simpa only[vi,jg]using k1) k2
     cases lv:ow with
     |false=>
      refine(pc.run w (jl B L) _ hK (r.Jr g hc.1) ((qf lv).app (Ai lv))).mono ?_;rintro e w' ⟨v,rfl,hb,gg,mc,vP,CP⟩;exact fin v w' gg hb mc vP CP
     |true=>
      have uU:FN n sz el:=ho _ (by simp[lv]);refine(pc.run w (λ_=>False) _ hK (λ_ h=>h.elim) (OW.app OS)).mono ?_;rintro e w' ⟨v,rfl,hb,gg,mc,vP,CP⟩;have r':=r.later hb;refine fin v w' gg hb mc vP λi j hi hj=>⟨uU i j hi hj _ _ _ _ _ (λx hx=>?_) (CP i j hi hj).1,(CP i j hi hj).2⟩
      rcases hx with hx|hx
      .exact .inr (r'.Jr g hc.1 x hx).2
      .exact .inl (.inr hx)
    .cases h
   .cases h
  .cases h
def Nn(hT:mL P T)(g:Gd P K w0 B)(r:jd w0 B σ a w L)(h:jA P K T O σ o=some u)(ho:∀ q,q ∈ u.jE->q):I3 P K w0 B σ o a w u:=by
 cases iB:o.op with
 |move x=>exact(ahk (P:=P) (K:=K) iB r h).pg
 |assign x=>exact(ag0 (P:=P) (K:=K) iB r h).pg
 |pick c x y=>exact(ahm (P:=P) (K:=K) iB r h).pg
 |alloc t=>exact(agY hT iB r h).pg
 |box t x=>exact(ag2 (P:=P) (K:=K) iB r h).pg
 |build t ps=>exact(ag3 hT iB r h).pg
 |buildSlice t n ps=>exact(ag4 hT (λb hb=>(g.hB b hb).1) iB r h).pg
 |load t x=>exact(ahd hT iB r h ho).pg
 |store t x y=>exact(aho hT iB r h ho).pg
 |nilCheck x=>exact(ahl (P:=P) (K:=K) iB r h).pg
 |binOp op t x y yt=>exact(ag1 hT iB r h ho).pg
 |unOp op t x=>exact(ahp (P:=P) (K:=K) iB r h ho).pg
 |convert s d x=>exact(ag5 hT iB r h).pg
 |makeFunc fn first cap=>exact(ahf (P:=P) (K:=K) iB r h).pg
 |makeSlice t l c=>exact(ahg hT iB r h ho).pg
 |slice t x lo hi mx=>
  cases mx with
  |none=>exact(ahn hT iB r h ho).pg
  |some=>simp[jA,iB]at h
 |fieldAddr t x f=>exact(ag8 hT iB r h).pg
 |indexAddr t x i=>exact(aha hT iB r h ho).pg
 |index t x i=>exact(ag9 hT iB r h ho).pg
 |field t x f=>exact(ag7 hT iB r h).pg
 |lookup t x i ok=>exact(ahe hT iB r h ho).pg
 |extract x i=>exact(ag6 (P:=P) (K:=K) iB r h).pg
 |call c=>
  obtain⟨callee,args,ats⟩:=c;cases callee with
  |builtin b=>
   simp only[jA,iB]at h;cases b
   case len=>
    dsimp only at h;split at h
    .rename_i x t hx ht;have ha:args = #[x]:=by apply dx;simpa using hx
     have G7:ats = #[t]:=by apply dx;simpa using ht
     split at h
     .rename_i e hd;obtain⟨rr,hr,rfl⟩:=cQ.1 h;exact(ahc hT (by rw[ha,G7]) iB hd r hr rfl).pg
     .cases h
    .cases h
   case append=>
    dsimp only at h;split at h
    .rename_i s x t t' hx ht;have ha:args = #[s,x]:=by apply dx;simpa using hx
     have G7:ats = #[t,t']:=by apply dx;simpa using ht
     split at h
     .rename_i qZ;have qZ:=lg.1 qZ;subst qZ;split at h
      .rename_i q hq;exact(ahb hT (by rw[ha,G7]) iB r hq h ho).pg
      split at h
      .exact (agZ hT (λb hb=>(g.hB b hb).1) (by rw[ha,G7]) iB r h ho).pg
      .exact (Vk hT (by rw[ha,G7]) iB r h ho).pg
     .cases h
    .cases h
   case max=>
    dsimp only at h;split at h
    .rename_i k p k' q hx;rcases args with⟨l⟩
     rcases l with _|⟨x,_|⟨y,_|⟨z,l⟩⟩⟩<;>simp at hx
     cases h;exact(ahh (P:=P) (K:=K) ⟨rfl,rfl⟩ iB r hx.1 hx.2 rfl).pg
    .rename_i k p k' q k'' s hx;rcases args with⟨l⟩
     rcases l with _|⟨x,_|⟨y,_|⟨z,_|⟨z',l⟩⟩⟩⟩<;>simp at hx
     cases h;exact(ahi (P:=P) (K:=K) ⟨rfl,rfl⟩ iB r hx.1 hx.2.1 hx.2.2 rfl).pg
    .cases h
   case min=>
    dsimp only at h;split at h
    .rename_i k p k' q hx;rcases args with⟨l⟩
     rcases l with _|⟨x,_|⟨y,_|⟨z,l⟩⟩⟩<;>simp at hx
     cases h;exact(ahj (P:=P) (K:=K) ⟨rfl,rfl⟩ iB r hx.1 hx.2 rfl).pg
    .cases h
   all_goals cases h
  |value f=>
   simp only[jA,iB]at h;have Aa:=r.op f;split at h
   .rename_i gf cap xs is C2 qf;rw[C2]at Aa;obtain⟨us,e1,Ai⟩:=iD.U6 Aa;exact TS g r iB rfl e1 (R6 r qf) (λkE=>R5 r qf kE) (Ai.mono λ_ _=>iD.qN (λ_ h=>h.elim) (λ_ h=>h.elim)) (λ_=>Ai.mono λ_ _=>iD.qN (λ_ h=>h) (λ_ h=>h.elim)) h ho
   .rename_i gf cap xs is C2 qf;rw[C2]at Aa;obtain⟨us,e1,k2,k3⟩:=Aa;split at h
    .rename_i ys js Da;exact TS g r iB rfl e1 (R6 r qf) (λkE=>R5 r qf (eW.1 kE).1) (Ut r Da k2 k3) (λkE=>Us r Da (eW.1 kE).2 k2 k3) h ho
    .cases h
   .cases h
  |invoke _ _=>simp[jA,iB]at h
 |_=>simp[jA,iB]at h
def aga(hT:mL P T)(g:Gd P K w0 B)(r:jd w0 B σ a w L)(h:vE P K T O σ o=some u)(ho:∀ q,q ∈ u.jE->q):I3 P K w0 B σ o a w u:=by
 unfold vE at h;split at h
 .rename_i u0 h0;split at h
  .split at h
   .rename_i p hp;cases h;have he:PV.le u0.r p:=ho _ aK;have:=Nn hT g r h0 (λq hq=>ho q (by simp[hq]));intro Kc Q hk;exact this Kc Q λv w' L' hr hv=>hk v w' L' hr (he _ _ _ _ _ hv)
   .cases h;exact Nn hT g r h0 ho
  .cases h;exact Nn hT g r h0 ho
 .cases h
end
section
variable {P:Program} {K:World->Prop} {T:List TI} {O:qB} {σ τ:PS} {o:Oper} {u:kO}
def ald{x:Operand}(h:∀ t,x = .tmp t->σ.get t=τ.get t):τ.op x=σ.op x:=by
 cases x with
 |tmp t=>exact(h t rfl).symm
 |_=>rfl
def ama{p:PV}{m:Nat}{l:List E}{is:List Nat}{jE:List Prop}(h:σ.read p m=some (l,is,jE))(hb:∀ id,id ∈ is->σ.bo id=τ.bo id):τ.read p m=some (l,is,jE):=by
 cases p with
 |box id off=>
  have h0:=h;simp only[PS.read]at h;split at h
  .split at h
   .simp only[bG,bZ]at h;obtain⟨_,rfl,_⟩:=h;simp only[PS.read,<-hb id aK];exact h0
   .cases h
  .cases h
 |nF id sz i j=>
  have h0:=h;simp only[PS.read]at h;split at h
  .split at h
   .simp only[bG,bZ]at h;obtain⟨_,rfl,_⟩:=h;simp only[PS.read,<-hb id aK];exact h0
   .cases h
  .cases h
 |rF id sz k i j=>
  have h0:=h;simp only[PS.read]at h;split at h
  .split at h
   .simp only[bG,bZ]at h;obtain⟨_,rfl,_⟩:=h;simp only[PS.read,<-hb id aK];exact h0
   .cases h
  .cases h
 |e x=>cases x<;>exact h
 |_=>exact h
def aeK{c:CV}{e:E}{is:List Nat}(h:c.ext σ=some (e,is))(hb:∀ id,id ∈ is->σ.bo id=τ.bo id):c.ext τ=some (e,is):=by
 cases c with
 |e x=>exact h
 |box id=>
  have h0:=h;simp only[CV.ext]at h;split at h
  .simp only[bG,bZ]at h;obtain⟨_,rfl⟩:=h;simp only[CV.ext,<-hb id aK];exact h0
  .cases h
 |row id=>
  have h0:=h;simp only[CV.ext]at h;split at h
  .split at h
   .simp only[bG,bZ]at h;obtain⟨_,rfl⟩:=h;simp only[CV.ext,<-hb id aK];exact h0
   .cases h
  .cases h
def Ur{l:List CV}{es:List E}{is:List Nat}(h:vF σ l=some (es,is))(hb:∀ id,id ∈ is->σ.bo id=τ.bo id):vF τ l=some (es,is):=by
 induction l generalizing es is with
 |nil=>exact h
 |cons c l ih=>
  simp only[vF]at h;split at h
  .rename_i x i xs js h1 h2;simp only[bG,bZ]at h;obtain⟨rfl,rfl⟩:=h;simp only[vF,aeK h1 λid hi=>hb id (by simp[hi]),ih h2 λid hi=>hb id (by simp[hi])]
  .cases h
def alx{p:PV}{e:E}{is:List Nat}(h:p.ext σ=some (e,is))(hb:∀ id,id ∈ is->σ.bo id=τ.bo id):p.ext τ=some (e,is):=by
 cases p with
 |e x=>exact h
 |box id off=>
  cases off with
  |succ=>exact h
  |zero=>
   have h0:=h;simp only[PV.ext]at h;split at h
   .simp only[bG,bZ]at h;obtain⟨_,rfl⟩:=h;simp only[PV.ext,<-hb id aK];exact h0
   .cases h
 |pI f cap=>
  simp only[PV.ext]at h;split at h
  .rename_i xs js h1;simp only[bG,bZ]at h;obtain⟨rfl,rfl⟩:=h;simp only[PV.ext,Ur h1 hb]
  .cases h
 |own id=>
  have h0:=h;simp only[PV.ext]at h;split at h
  .simp only[bG,bZ]at h;obtain⟨_,rfl⟩:=h;simp only[PV.ext,<-hb id aK];exact h0
  .simp only[bG,bZ]at h;obtain⟨_,rfl⟩:=h;simp only[PV.ext,<-hb id aK];exact h0
  .cases h
 |iN id k=>
  have h0:=h;simp only[PV.ext]at h;split at h
  .split at h
   .simp only[bG,bZ]at h;obtain⟨_,rfl⟩:=h;simp only[PV.ext,<-hb id aK];exact h0
   .cases h
  .cases h
 |_=>exact h
def R4{l:List Operand}{es:List E}{is:List Nat}(h:uM σ l=some (es,is))(hg:∀ x,x ∈ l->τ.op x=σ.op x)(hb:∀ id,id ∈ is->σ.bo id=τ.bo id):uM τ l=some (es,is):=by
 induction l generalizing es is with
 |nil=>exact h
 |cons c l ih=>
  simp only[uM]at h;split at h
  .rename_i x i xs js h1 h2;simp only[bG,bZ]at h;obtain⟨rfl,rfl⟩:=h;simp only[uM,hg c aK,alx h1 λid hi=>hb id (by simp[hi]),ih h2 (λx hx=>hg x (by simp[hx])) λid hi=>hb id (by simp[hi])]
  .cases h
def aiE{p:PV}{e:E}{is:List Nat}(h:p.ext σ=some (e,is))(hb:∀ id,id ∈ is->σ.bo id=τ.bo id):p.xd τ=p.xd σ:=by
 cases p with
 |own id=>
  have hid:σ.bo id=τ.bo id:=by
   simp only[PV.ext]at h;split at h
   .simp only[bG,bZ]at h;obtain⟨_,rfl⟩:=h;exact hb id aK 
   .simp only[bG,bZ]at h;obtain⟨_,rfl⟩:=h;exact hb id aK 
   .cases h
  simp only[PV.xd,hid]
 |_=>rfl
def RZ{l:List Operand}{es:List E}{is:List Nat}(h:uM σ l=some (es,is))(hg:∀ x,x ∈ l->τ.op x=σ.op x)(hb:∀ id,id ∈ is->σ.bo id=τ.bo id):(l.map τ.op).any (PV.xd τ)=(l.map σ.op).any (PV.xd σ):=by
 induction l generalizing es is with
 |nil=>rfl
 |cons c l ih=>
  simp only[uM]at h;split at h
  .rename_i x i xs js h1 h2;simp only[bG,bZ]at h;obtain⟨rfl,rfl⟩:=h;simp only[ey,eA,hg c aK,aiE h1 λid hi=>hb id (by simp[hi]),ih h2 (λx hx=>hg x (by simp[hx])) λid hi=>hb id (by simp[hi])]
  .cases h
def UD{place:Nat->Option (Nat×Nat)}{ps:List (Nat×Operand)}(hg:∀ x,x ∈ ps.map (·.2)->τ.op x=σ.op x):∀ l,sZ τ place l ps=sZ σ place l ps:=by
 induction ps with
 |nil=>intro l;rfl
 |cons p ps ih=>
  intro l;obtain⟨i,x⟩:=p;simp only[sZ,hg x aK,ih λx hx=>hg x (by simp only[ey,di];exact .inr hx)]
def PB{d:Option Tmp}{b:Bx}{rr:Nat->PV}{jE:List Prop}(h:Au σ d b rr jE=some u)(jL:σ.nl=τ.nl)(hn:∀ id b,u.f = .new id b->τ.bo id=none):Au τ d b rr jE=some u:=by
 obtain⟨id,rfl,kE,hc,rfl⟩:=Hu h;rw[jL]at hc;simp only[Au,hn id b rfl,hc,bJ]
def YB{d:Nat}{b:Bx}(h:σ.bo d=τ.bo d):vi τ d b=vi σ d b:=by unfold vi;rw[h]
def YD{d:Nat}{is:List Nat}(h:σ.bo d=τ.bo d):Aw τ d is=Aw σ d is:=by unfold Aw;rw[h]
def YE{d:Nat}{b:Bx}{is:List Nat}{u:kO}(hf:u.f=vi σ d b)(hr:u.rb=Aw σ d is)(hb:∀ id,id ∈ u.rb->σ.bo id=τ.bo id)(hn:∀ id b,u.f = .new id b->τ.bo id=none):σ.bo d=τ.bo d:=by
 cases jg:σ.bo d with
 |none=>exact(hn d b (by rw[hf,vi,jg])).symm
 |some x=>rw[<-jg];exact hb d (by rw[hr,Aw,jg];simp)
def XY{d:Option Tmp}{b:Bx}{rr:Nat->PV}(h:BQ σ d b rr=some u)(hb:∀ id,id ∈ u.rb->σ.bo id=τ.bo id)(jL:σ.nl=τ.nl)(hn:∀ id b,u.f = .new id b->τ.bo id=none):BQ τ d b rr=some u:=by
 obtain⟨id,rfl,hc,rfl⟩:=K1 h;have e:σ.bo id=τ.bo id:=YE (b:=b) (is:=[]) rfl rfl hb hn;rw[jL]at hc;simp only[BQ,hc,bJ,YB e,YD e]
def Ul{d:Option Tmp}{t:TypeId}{s x:PV}{u:kO}(h:Bh T σ d t s x=some u)(hb:∀ id,id ∈ u.rb->σ.bo id=τ.bo id)(jL:σ.nl=τ.nl)(hn:∀ id b,u.f = .new id b->τ.bo id=none):Bh T τ d t s x=some u:=by
 simp only[Bh]at h ⊢;split at h
 .split at h
  .split at h
   .split at h
    .split at h
     .split at h
      .rename_i hc;simp only[hc,bJ];split at h
       .rename_i id;split at h
        .rename_i jg;split at h
         .rename_i oV;cases h;simp only[<-hb id aK,<-jL,jg,oV,bJ]
         .cases h
        .cases h
       .rename_i id k;split at h
        .rename_i jg;split at h
         .rename_i oV;cases h;simp only[<-hb id aK,jg,oV,bJ]
         .cases h
        .cases h
       .exact PB h jL hn
       .cases h
      .cases h
     .cases h
    .cases h
   .cases h
  .cases h
 .cases h
def af1{d:Option Tmp}{t:TypeId}{s x:PV}{u:kO}(h:CB T σ d t s x=some u)(hb:∀ id,id ∈ u.rb->σ.bo id=τ.bo id)(jL:σ.nl=τ.nl):CB T τ d t s x=some u:=by
 unfold CB at h ⊢;split at h
 .rename_i u0 h0;split at h
  .rename_i id nl T1 n sz el id' hf hr;split at h
   .rename_i hid;cases h;have:=Ul (σ:={ σ with nl:=false }) (τ:={ τ with nl:=false }) h0 hb rfl λi b e=>by rw[hf]at e;cases e
    rw[this];simp only[hf,hr,hid,bJ]
   .cases h
  .cases h
 .cases h
def af4{d:Option Tmp}{t:TypeId}{n q:Nat}{u:kO}(h:CD T σ d t n q=some u)(hb:∀ id,id ∈ u.rb->σ.bo id=τ.bo id):CD T τ d t n q=some u:=by
 unfold CD at h ⊢;split at h
 .rename_i id;have h0:=h;split at h
  .rename_i h1 h2 h3;split at h
   .rename_i hc;cases h;simp only[<-hb id aK,<-hb q aK];exact h0
   .cases h
  .cases h
 .cases h
def af3{d:Option Tmp}{t:TypeId}{s:PV}{q:Nat}{u:kO}(h:CC T σ d t s q=some u)(hb:∀ id,id ∈ u.rb->σ.bo id=τ.bo id):CC T τ d t s q=some u:=by
 unfold CC at h ⊢;have h0:=h;split at h
 .rename_i h1 h2;split at h
  .rename_i id;split at h
   .rename_i h3;split at h
    .rename_i hc;cases h;simp only[<-hb id aK,<-hb q aK];exact h0
    .cases h
   .cases h
  .rename_i id;split at h
   .rename_i h3;split at h
    .rename_i hc;cases h;simp only[<-hb id aK,<-hb q aK];exact h0
    .cases h
   .cases h
  .cases h
 .cases h
def als{ps:List (Nat×Operand)}(hg:∀ x,x ∈ ps.map (·.2)->τ.op x=σ.op x):BV τ ps=BV σ ps:=by
 unfold BV;split
 .rw [hg _ aK]
 .rfl
def af5(h:jA P K T O σ o=some u)(hg:∀ x,x ∈ o.op.operands->τ.op x=σ.op x)(hb:∀ id,id ∈ u.rb->σ.bo id=τ.bo id)(jL:σ.nl=τ.nl)(hn:∀ id b,u.f = .new id b->τ.bo id=none):
 jA P K T O τ o=some u:=by
 cases iB:o.op with
 |move x=>rw[iB]at hg;simp only[jA,iB]at h ⊢;rw[hg x aU];exact h
 |assign x=>rw[iB]at hg;simp only[jA,iB]at h ⊢;rw[hg x aU];exact h
 |pick c x y=>rw[iB]at hg;simp only[jA,iB]at h ⊢;rw[hg c aU,hg x aU,hg y aU];exact h
 |nilCheck x=>rw[iB]at hg;simp only[jA,iB]at h ⊢;rw[hg x aU];exact h
 |binOp op t x y yt=>rw[iB]at hg;simp only[jA,iB]at h ⊢;rw[hg x aU,hg y aU];exact h
 |unOp op t x=>rw[iB]at hg;simp only[jA,iB]at h ⊢;rw[hg x aU];exact h
 |convert s d x=>rw[iB]at hg;simp only[jA,iB]at h ⊢;rw[hg x aU];exact h
 |index t x i=>rw[iB]at hg;simp only[jA,iB]at h ⊢;rw[hg x aU,hg i aU];exact h
 |extract x i=>rw[iB]at hg;simp only[jA,iB]at h ⊢;rw[hg x aU];exact h
 |fieldAddr t x f=>rw[iB]at hg;simp only[jA,iB]at h ⊢;rw[hg x aU];exact h
 |field t x f=>rw[iB]at hg;simp only[jA,iB]at h ⊢;rw[hg x aU];exact h
 |lookup t x i ok=>
  rw[iB]at hg;cases ok with
  |true=>simp[jA,iB]at h
  |false=>simp only[jA,iB]at h ⊢;rw[hg x aU,hg i aU];exact h
 |makeFunc fn first cap=>
  rw[iB]at hg;cases fn with
  |func f=>
   simp only[jA,iB]at h ⊢;have:cap.toList.map τ.op=cap.toList.map σ.op:=eX λx hx=>hg x (by simp only[Op.operands,fw];exact .inr (by simpa using hx))
   rw[this];exact h
  |_=>simp[jA,iB]at h
 |slice t x lo hi mx=>
  rw[iB]at hg;cases mx with
  |some=>simp[jA,iB]at h
  |none=>
   simp only[jA,iB]at h ⊢;have e1:lo.map τ.op=lo.map σ.op:=by cases lo with
    |none=>rfl
    |some y=>simp only[cH];rw[hg y aU]
   have e2:hi.map τ.op=hi.map σ.op:=by cases hi with
    |none=>rfl
    |some y=>simp only[cH];rw[hg y aU]
   rw[hg x aU,e1,e2];exact h
 |alloc t=>
  simp only[jA,iB]at h ⊢;split at h
  .split at h
   .exact XY h hb jL hn
   .cases h
  .cases h
 |box t x=>
  rw[iB]at hg;simp only[jA,iB]at h ⊢;rw[hg x aU];split at h
  .split at h
   .exact XY h hb jL hn
   .cases h
  .cases h
 |build t ps=>
  rw[iB]at hg;simp only[jA,iB]at h ⊢;have hf:∀ place l,sZ τ place l ps.toList=sZ σ place l ps.toList:=λplace=>UD λx hx=>hg x (by simpa[Op.operands]using hx)
  simp only[hf];exact h
 |buildSlice t n ps=>
  rw[iB]at hg;simp only[jA,iB]at h ⊢;have hf:∀ place l,sZ τ place l ps.toList=sZ σ place l ps.toList:=λplace=>UD λx hx=>hg x (by simpa[Op.operands]using hx)
  have ho:BV τ ps.toList=BV σ ps.toList:=als λx hx=>hg x (by simpa[Op.operands]using hx)
  simp only[hf,ho];split at h
  .exact af4 h hb
  split at h
  .split at h
   .split at h
    .split at h
     .split at h
      .rename_i hif;rw[bk hif];obtain⟨l,hl,h⟩:=gM.1 h;refine gM.2 ⟨l,hl,?_⟩;split at h
       .cases h
       .rename_i h1;rw[bj h1];split at h
        .rename_i h2;rw[bk h2];exact PB h jL hn
        .rename_i h2;rw[bj h2];exact h
      .cases h
     .cases h
    .cases h
   .cases h
  .cases h
 |load t x=>
  rw[iB]at hg;simp only[jA,iB,JU]at h ⊢;rw[hg x aU];split at h
  .rename_i ti rE;split at h
   .rename_i id i n qs;have aid:DQ τ (σ.op x)=some (id,i,n):=by
     have hid:σ.bo id=τ.bo id:=by
      split at h
      .cases h
      .cases h;exact hb id aK 
     cases hp:σ.op x with
     |nF id' sz i' j=>
      rw[hp]at qs;have h0:=qs;simp only[DQ]at qs;split at qs
      .split at qs
       .simp only[bG,bZ]at qs;obtain⟨rfl,_,_⟩:=qs;simp only[DQ,<-hid];exact h0
       .cases qs
      .cases qs
     |_=>rw[hp]at qs;cases qs
    simp only[aid];exact h
   .rename_i qs;have key:∀ is,(∃ l jE,σ.read (σ.op x) ti.i.size=some (l,is,jE))->(∀ id,id ∈ is->σ.bo id=τ.bo id)->DQ τ (σ.op x)=none:=by
     rintro is ⟨l,jE,hr⟩ mR;cases hp:σ.op x with
     |nF id sz i j=>
      rw[hp]at hr qs;simp only[PS.read]at hr;split at hr
      .rename_i jg;split at hr
       .simp only[bG,bZ]at hr;obtain⟨_,rfl,_⟩:=hr;simp only[DQ,<-mR id aK,jg]
       .cases hr
      .cases hr
     |_=>rfl
    cases hr:σ.read (σ.op x) ti.i.size with
    |none=>rw[hr]at h;cases h
    |some y=>
     obtain⟨l,is,jE⟩:=y;have C5:u.rb=is:=by
      rw[hr]at h;simp only[Hq]at h;split at h
      .cases h;rfl
      .split at h
       .cases h;rfl
       .cases h
     have mR:∀ id,id ∈ is->σ.bo id=τ.bo id:=λid hi=>hb id (by rw[C5];exact hi)
     rw[key is ⟨l,jE,hr⟩ mR];simp only;rw[ama hr mR];rw[hr]at h;exact h
  .cases h
 |store t x y=>
  rw[iB]at hg;simp only[jA,iB,JX]at h ⊢;rw[hg x aU,hg y aU];split at h
  .split at h
   .rename_i id off e _ _;split at h
    .rename_i jg hm;split at h
     .rename_i hc;cases h;rw[jL]at hc;simp only[<-hb id aK,jg,hm,hc,bJ]
     .cases h
    .cases h
   .rename_i id q _ _;split at h
    .rename_i jg hm;split at h
     .rename_i hc;cases h;simp only[<-hb id aK,<-hb q aK,jg,hm,hc,bJ]
     .cases h
    .cases h
   .rename_i id sz i j e _ _;split at h
    .rename_i jg hm;split at h
     .rename_i hc;cases h;simp only[<-hb id aK,jg,hm,hc,bJ]
     .cases h
    .cases h
   .rename_i id i id' k _ _;split at h
    .rename_i jg;split at h
     .rename_i hc;cases h;simp only[<-hb id aK,jg,hc,bJ]
     .cases h
    .cases h
   .cases h
  .cases h
 |makeSlice t l c=>
  rw[iB]at hg;simp only[jA,iB,JV]at h ⊢;rw[hg l aU,hg c aU];split at h
  .exact PB h jL hn
  .cases h
 |indexAddr t x i=>
  rw[iB]at hg;simp only[jA,iB,JT]at h ⊢;rw[hg x aU,hg i aU];split at h
  .split at h
   .split at h
    .split at h
     .split at h
      .exact h
      .exact h
      .rename_i id _;split at h
       .rename_i jg;split at h
        .rename_i hc;cases h;simp only[<-hb id aK,jg,hc,bJ]
        .cases h
       .rename_i jg;split at h
        .rename_i hc;cases h;simp only[<-hb id aK,jg,hc,bJ]
        .cases h
       .cases h
      .rename_i id _ _;split at h
       .rename_i jg;split at h
        .rename_i hc;cases h;simp only[<-hb id aK,jg,hc,bJ]
        .cases h
       .cases h
      .cases h
     .cases h
    .exact h
    .cases h
   .cases h
  .cases h
 |call c=>
  rw[iB]at hg;obtain⟨callee,args,ats⟩:=c;have ha:∀ x,x ∈ args.toList->τ.op x=σ.op x:=λx hx=>hg x (by simp only[Op.operands,Call.operands,fw];exact .inr (by simpa using hx))
  have Wa:args.toList.map τ.op=args.toList.map σ.op:=eX ha;cases callee with
  |builtin b=>
   simp only[jA,iB]at h ⊢;cases b
   case len=>
    dsimp only at h ⊢;split at h
    .rename_i x t hx ht;split at h
     .obtain ⟨rr,hr,rfl⟩:=cQ.1 h;rw[ha x (by rw[hx];simp)];have:tl (σ.op x) τ=some rr:=by
       cases hp:σ.op x with
       |own id=>
        rw[hp]at hr;have h0:=hr;simp only[tl]at hr;split at hr
        .simp only[bG]at hr;subst hr;simp only[tl,<-hb id aK];exact h0
        .simp only[bG]at hr;subst hr;simp only[tl,<-hb id aK];exact h0
        .cases hr
       |iN id k=>
        rw[hp]at hr;have h0:=hr;simp only[tl]at hr;split at hr
        .split at hr
         .simp only[bG]at hr;subst hr;simp only[tl,<-hb id aK];exact h0
         .cases hr
        .cases hr
       |e y=>
        rw[hp]at hr;cases y with
        |v z=>cases z<;>exact hr
        |_=>exact hr
       |_=>rw[hp]at hr;exact hr
      rw[this];rfl
     .cases h
    .cases h
   case append=>
    dsimp only at h ⊢;split at h
    .rename_i s x t t' hx ht;split at h
     .rename_i qZ;simp only[qZ,bJ];rw[ha x (by rw[hx];simp),ha s (by rw[hx];simp)];have pQ:Jj O o.dst=Jj O o.dst:=rfl;split at h
      .exact af3 h hb
      split at h
      .rename_i N9;simp only[N9,bJ];exact af1 h hb jL
      .rename_i N9;simp only[N9,bC,bK];exact Ul h hb jL hn
     .cases h
    .cases h
   case max=>dsimp only at h ⊢;rw[Wa];exact h
   case min=>dsimp only at h ⊢;rw[Wa];exact h
   all_goals cases h
  |value f=>
   have hf:τ.op f=σ.op f:=hg f (by simp[Op.operands,Call.operands]);simp only[jA,iB]at h ⊢;rw[hf];have ec:∀ {gf:FuncId} {zs:List E} {is:List Nat} {ow:Bool},Bi P K O σ o.dst gf zs is ow=some u->(∀ id,id ∈ is->id ∈ u.rb)/\Bi P K O τ o.dst gf zs is ow=some u:=by
    intro gf zs is ow hh;simp only[Bi]at hh ⊢;rw[jL]at hh;split at hh
    .rename_i kf GZ;refine⟨?_,hh⟩;split at hh
     .cases hh;exact λ_ h=>h
     .split at hh
      .cases hh;exact λ_ h=>h
      .split at hh
       .cases hh;exact λ_ h=>h
       .cases hh
    .split at hh
     .rename_i d hd;split at hh
      .rename_i nl T n sz el h1;split at hh
       .rename_i hc;cases hh;have e:=YE (σ:=σ) (τ:=τ) (b:=.row nl T n sz el) (is:=is) rfl rfl hb hn;refine⟨λid hid=>?_,?_⟩
        .unfold Aw;split
         .exact hid
         .simp [hid]
        .simp only[hc,bJ,YB e,YD e]
       .cases hh
      .cases hh
     .cases hh
   split at h
   .rename_i gf cap xs is C2 qf;obtain⟨e1,e2⟩:=ec h;rw[RZ qf ha λid hi=>hb id (e1 id hi),R4 qf ha λid hi=>hb id (e1 id hi),C2];exact e2
   .rename_i gf cap xs is C2 qf;split at h
    .rename_i ys js Da;obtain⟨e1,e2⟩:=ec h;rw[RZ qf ha λid hi=>hb id (e1 id (by simp[hi])),R4 qf ha λid hi=>hb id (e1 id (by simp[hi])),C2];simp only;rw[Ur Da λid hi=>hb id (e1 id (by simp[hi]))];exact e2
    .cases h
   .cases h
  |invoke _ _=>simp[jA,iB]at h
 |_=>simp[jA,iB]at h
end
def akp{l:List Operand}{t:Tmp}(h:Operand.tmp t ∈ l):t ∈ FH l:=by
 induction l with
 |nil=>simp at h
 |cons x l ih=>
  rcases di.1 h with h|h
  .subst h;simp[FH]
  .have:=ih h;cases x<;>simp[FH,this]
def ahM{l:List Nat}{n:Nat}:Od l n=true↔n ∈ l:=by
 unfold Od;rw[dY];constructor
 .rintro ⟨x,hx,hb⟩;have:=lg.1 hb;subst this;exact hx
 .intro h;exact⟨n,h,cD n⟩
def K9{l:List Nat}{d:Option Nat}(h:Fc l d=true){x:Nat}(hx:d=some x):x ∉ l:=by
 subst hx;simp only[Fc,dW]at h;intro hm;rw[ahM.2 hm]at h;cases h
def Mb{a b:Option Nat}(h:Ma a b=true){x y:Nat}(hx:a=some x)(hy:b=some y):x≠y:=by
 subst hx hy;simp only[Ma,dW]at h;intro e;rw[lg.2 e]at h;cases h
def FK{f:rp}(hf:f.Dg=false)(p:PV):p.nG f=if As f p then p else .e .any:=by
 cases f<;>first|(cases hf;done)|skip
 all_goals (cases p<;>simp only[PV.nG,As,bJ])
 all_goals (split<;>rename_i h<;>simp[h])
def Ph{f:rp}(hf:f.Dg=false){p:PV}(h:As f p=true):p.nG f=p:=by rw[FK hf,bk h]
def ajC(f:rp):As f (.e .any)=true:=by cases f<;>rfl
def apg(p:PV){f g:rp}(hf:f.Dg=false)(hg:g.Dg=false):(p.nG f).nG g=(p.nG g).nG f:=by
 rw[FK hf p,FK hg p];cases h1:As f p<;>cases h2:As g p<;>simp only[bJ,bK,bC,FK hf,FK hg,ajC,h1,h2]
structure sX(σ τ:PS):Prop where
 n:σ.n=τ.n
 nl:σ.nl=τ.nl
 get:∀ t,σ.get t=τ.get t
 bo:∀ id,σ.bo id=τ.bo id
def sX.refl(σ:PS):sX σ σ:=⟨rfl,rfl,λ_=>rfl,λ_=>rfl⟩
def sX.symm{σ τ:PS}(h:sX σ τ):sX τ σ:=⟨h.n.symm,h.nl.symm,λt=>(h.get t).symm,λi=>(h.bo i).symm⟩
def sX.trans{σ τ υ:PS}(h:sX σ τ)(k:sX τ υ):sX σ υ:=⟨h.n.trans k.n,h.nl.trans k.nl,λt=>(h.get t).trans (k.get t),λi=>(h.bo i).trans (k.bo i)⟩
def jd.qL{w0:World}{B:Nat->Prop}{σ τ:PS}{a:Act}{w:World}{L:Lk}(r:jd w0 B σ a w L)(h:sX σ τ):jd w0 B τ a w L:=
 ⟨r.hd,r.hs.trans h.n,λt=>by rw[<-h.get];exact r.ht t,λid b hb=>r.hb id b (by rw[h.bo];exact hb),λid=>by rw[<-h.bo];exact r.hv id,r.hn,r.hw,r.hi,r.he,λhn id b hb=>r.hl (by rw[h.nl];exact hn) id b (by rw[h.bo];exact hb)⟩
def Cr(σ:PS)(f:rp)(id:Nat):(σ.oo f).bo id=match f with
 | .none=>σ.bo id
 | .new i b | .wH i b | .r7 i b | .vK i b | .B6 i b=>if i=id then some b else σ.bo id
 | .fin i=>if i=id then none else σ.bo id
 | .sj i r b=>if i=id then some b else if r=id then none else σ.bo id:=by
 cases f<;>first|rfl|exact Dr _ _ _ _|exact Dq _ _ _|skip
 rename_i i r b;show look (uG (σ.b.filter λx=>!Nat.beq x.1 r) i b) id=_;rw[Dr,Dq];rfl
def Gx(σ:PS)(d:Option Tmp)(u:kO)(t:Nat):(σ.app d u).get t=if d=some t then u.r else(σ.get t).nG u.f:=by
 unfold PS.app;cases d with
 |none=>
  rw[bj aK];exact PS.CG σ u.f t
 |some d=>
  rw[PS.NH,PS.CG];simp only[bG]
def Cq(σ:PS)(d:Option Tmp)(u:kO)(id:Nat):(σ.app d u).bo id=(σ.oo u.f).bo id:=PS.adk _ _ _ _
def H8(σ:PS)(d:Option Tmp)(u:kO):(σ.app d u).n=σ.n:=by unfold PS.app;rw[PS.PN];rfl
def Ib(σ:PS)(d:Option Tmp)(u:kO):(σ.app d u).nl=σ.nl:=by unfold PS.app;rw[PS.ak1];rfl
def A4(σ:PS)(d:Option Tmp)(u:kO)(id:Nat)(hm:u.f.Dg=false)(h:u.f.id≠some id):(σ.app d u).bo id=σ.bo id:=by
 rw[Cq,Cr];cases hf:u.f<;>rw[hf]at h hm<;>simp only[rp.id,df,bG]at h<;>first|rfl|exact bj h|cases hm
section
variable {P:Program} {K:World->Prop} {T:List TI} {O:qB} {gX:Array Oper} {σ τ:PS} {o:Oper} {u:kO}
def af7(h:jA P K T O σ o=some u){x:Operand}(hx:x ∈ o.op.operands):x ∈ Ih o.op:=by
 obtain⟨dst,op,ty,pos,after,guard⟩:=o;simp only at hx ⊢;cases op<;>first
  | (simp only[jA]at h;cases h;done)
  | (exfalso;simp[Op.operands]at hx;done)
  | (simpa[Op.operands,Ih]using hx)
  | (simpa[Op.operands,Ih,or_assoc]using hx)
  |skip
 case call c=>
  obtain⟨callee,args,ats⟩:=c;cases callee<;>simpa[Op.operands,Ih,Call.operands]using hx
def PD{d:Option Tmp}{b:Bx}{rr:Nat->PV}{jE:List Prop}(h:Au σ d b rr jE=some u){id:Nat}{b':Bx}(hf:u.f = .new id b'):σ.bo id=none:=by
 obtain⟨i,_,kE,_,rfl⟩:=Hu h;cases hf;exact kE
def YC{d:Nat}{b:Bx}{id:Nat}{b':Bx}(hf:vi σ d b = .new id b'):σ.bo id=none:=by
 unfold vi at hf;split at hf
 .rename_i h;cases hf;exact h
 .cases hf
def XZ{d:Option Tmp}{b:Bx}{rr:Nat->PV}(h:BQ σ d b rr=some u){id:Nat}{b':Bx}(hf:u.f = .new id b'):σ.bo id=none:=by
 obtain⟨i,_,_,rfl⟩:=K1 h;exact YC hf
def af6(h:jA P K T O σ o=some u){id:Nat}{b:Bx}(hf:u.f = .new id b):σ.bo id=none:=by
 cases iB:o.op
 case alloc=>
  simp only[jA,iB]at h;split at h
  .split at h
   .exact XZ h hf
   .cases h
  .cases h
 case box=>
  simp only[jA,iB]at h;split at h
  .split at h
   .exact XZ h hf
   .cases h
  .cases h
 case makeSlice=>
  simp only[jA,iB,JV]at h;split at h
  .exact PD h hf
  .cases h
 case makeFunc fn first cap=>
  cases fn with
  |func f=>
   simp only[jA,iB]at h
   repeat' split at h
   all_goals first
    | (cases h;done)
    | (cases h;cases hf;done)
  |_=>simp[jA,iB]at h
 case lookup t x i ok=>
  cases ok with
  |true=>simp[jA,iB]at h
  |false=>
   simp only[jA,iB]at h
   repeat' split at h
   all_goals first
    | (cases h;done)
    | (cases h;cases hf;done)
 case slice t x lo hi mx=>
  cases mx with
  |none=>
   simp only[jA,iB,JW]at h
   repeat' split at h
   all_goals first
    | (cases h;done)
    | (cases h;cases hf;done)
  |some=>simp[jA,iB]at h
 case call c=>
  obtain⟨callee,args,ats⟩:=c;cases callee with
  |builtin b=>
   simp only[jA,iB]at h;cases b
   case append=>
    dsimp only at h;split at h
    .split at h
     .split at h
      .unfold CC at h
       repeat' split at h
       all_goals first
        | (cases h;done)
        | (cases h;cases hf;done)
      split at h
      .unfold CB at h;split at h
       .split at h
        .split at h
         .cases h;cases hf
         .cases h
        .cases h
       .cases h
      .simp only[Bh]at h
       repeat' split at h
       all_goals first
        | (cases h;done)
        |exact PD h hf
        | (cases h;cases hf;done)
     .cases h
    .cases h
   all_goals
    dsimp only at h
    repeat' split at h
    all_goals first
     | (cases h;done)
     | (cases h;cases hf;done)
     | (obtain⟨_,_,rfl⟩:=cQ.1 h;cases hf)
  |value f=>
   simp only[jA,iB]at h
   repeat' split at h
   all_goals first
    | (cases h;done)
    | (simp only[Bi]at h;repeat' split at h)
   all_goals first
    | (cases h;done)
    | (cases h;cases hf;done)
    | (cases h;cases hf;assumption)
    | (cases h;exact YC hf)
  |invoke _ _=>simp[jA,iB]at h
 all_goals
  simp only[jA,iB,JX,JT,JW,JU,Hq,CD]at h
  repeat' split at h
  all_goals first
   | (cases h;done)
   | (cases h;cases hf;done)
   | (obtain⟨_,_,rfl⟩:=cQ.1 h;cases hf)
   |skip
 all_goals first
  | (obtain⟨_,_,h⟩:=gM.1 h;repeat' split at h)
  |skip
 all_goals first
  |exact PD h hf
  | (cases h;done)
  | (cases h;cases hf;done)
def Nq(h:vE P K T O σ o=some u):∃ u0,jA P K T O σ o=some u0/\u0.rb=u.rb/\u0.f=u.f:=by
 unfold vE at h;split at h
 .rename_i u0 h0;split at h
  .split at h
   .cases h;exact⟨u0,h0,rfl,rfl⟩
   .cases h;exact⟨_,h0,rfl,rfl⟩
  .cases h;exact⟨_,h0,rfl,rfl⟩
 .cases h
def af9(h:vE P K T O σ o=some u)(hg:∀ x,x ∈ o.op.operands->τ.op x=σ.op x)(hb:∀ id,id ∈ u.rb->σ.bo id=τ.bo id)(jL:σ.nl=τ.nl)(hn:∀ id b,u.f = .new id b->τ.bo id=none):
 vE P K T O τ o=some u:=by
 obtain⟨u0,h0,e1,e2⟩:=Nq h;have:=af5 (τ:=τ) h0 hg (by rw[e1];exact hb) jL (by rw[e2];exact hn);unfold vE at h ⊢;rw[h0]at h;rw[this];exact h
def Gj(h:sy P K T O gX σ o=some u):w9 σ o.dst=true/\u.rd=(looks gX o).map σ.get/\((AS gX σ o=some true/\∃ u0,vE P K T O σ o=some u0/\u={ u0 with rd:=(looks gX o).map σ.get })\/(AS gX σ o=some false/\u={ r:=.e (.v (.tuple #[])),rd:=(looks gX o).map σ.get })):=by
 unfold sy at h;split at h
 .rename_i hi;split at h
  .rename_i hw;split at h
   .rename_i u0 h0;cases h;exact⟨hi,rfl,.inl ⟨hw,u0,h0,rfl⟩⟩
   .cases h
  .rename_i hw;cases h;exact⟨hi,rfl,.inr ⟨hw,rfl⟩⟩
  .cases h
 .cases h
def No(h:sy P K T O gX σ o=some u)(hg:∀ t,t ∈ looks gX o->σ.get t=τ.get t)(hb:∀ id,id ∈ u.rb->σ.bo id=τ.bo id)(jL:σ.nl=τ.nl)(lk:σ.n=τ.n)(hn:∀ id b,u.f = .new id b->τ.bo id=none):
 sy P K T O gX τ o=some u:=by
 obtain⟨hi,_,hw⟩:=Gj h;have lO:w9 τ o.dst=w9 σ o.dst:=by cases o.dst<;>simp[w9,lk]
 have Wx:AS gX τ o=AS gX σ o:=by
  unfold AS;cases CR:o.guard with
  |none=>rfl
  |some jw=>
   obtain⟨j,want⟩:=jw;cases hd:(gX[j]?).bind (·.dst)with
   |none=>simp[hd]
   |some t=>
    simp only[hd];rw[hg t (by unfold looks;rw[CR];simp[hd])]
 have OK:(looks gX o).map τ.get=(looks gX o).map σ.get:=eX λt ht=>(hg t ht).symm
 unfold sy;rw[lO,hi,Wx,OK];simp only[bJ];rcases hw with⟨hw,u0,h0,rfl⟩|⟨hw,rfl⟩
 .rw [hw];have iB:∀ x,x ∈ o.op.operands->τ.op x=σ.op x:=by
   intro x hx;obtain⟨u1,h1,_,_⟩:=Nq h0;have hm:=af7 h1 hx;refine ald λt ht=>hg t ?_
   subst ht;unfold looks;exact List.mem_append_left _ (akp hm)
  simp only[af9 h0 iB hb jL hn]
 .rw [hw]
def Np(h:sy P K T O gX σ o=some u){id:Nat}{b:Bx}(hf:u.f = .new id b):σ.bo id=none:=by
 obtain⟨_,_,⟨_,u0,h0,rfl⟩|⟨_,rfl⟩⟩:=Gj h
 .obtain ⟨u1,h1,_,e2⟩:=Nq h0;exact af6 h1 (by rw[e2];exact hf)
 .cases hf
def af8(h:sy P K T O gX σ o=some u)(hs:sX σ τ):sy P K T O gX τ o=some u:=
 No h (λt _=>hs.get t) (λid _=>hs.bo id) hs.nl hs.n λid b hf=>by rw[<-hs.bo];exact Np h hf
def ach(hs:sX σ τ)(d:Option Tmp)(u:kO):sX (σ.app d u) (τ.app d u):=
 ⟨by rw[H8,H8];exact hs.n,by rw[Ib,Ib];exact hs.nl,λt=>by rw[Gx,Gx,hs.get],λid=>by rw[Cq,Cq,Cr,Cr,hs.bo]⟩
def aoi{O':qB}{x y:Oper×kO}(hi:De gX x y=true)(h1:sy P K T O gX σ x.1=some x.2)(h2:sy P K T O' gX (σ.app x.1.dst x.2) y.1=some y.2):
 sy P K T O' gX σ y.1=some y.2/\sy P K T O gX (σ.app y.1.dst y.2) x.1=some x.2/\sX ((σ.app x.1.dst x.2).app y.1.dst y.2) ((σ.app y.1.dst y.2).app x.1.dst x.2):=by
 simp only[De,bO]at hi;obtain⟨⟨⟨⟨⟨⟨⟨⟨⟨⟨⟨i1,i2⟩,i3⟩,i4⟩,i5⟩,i6⟩,i7⟩,i8⟩,i9⟩,i10⟩,m1⟩,m2⟩:=hi;simp only[dW]at m1 m2;obtain⟨_,rx,_⟩:=Gj h1;obtain⟨_,ry,_⟩:=Gj h2;have r1:sy P K T O' gX σ y.1=some y.2:=by
  refine No h2 (λt ht=>?_) (λid hid=>A4 _ _ _ _ m1 λe=>K9 i4 e hid) (Ib _ _ _) (H8 _ _ _) λid b hf=>?_
  .have hg:(σ.app x.1.dst x.2).get t=(σ.get t).nG x.2.f:=by
    rw[Gx,bj λe=>K9 i1 e ht]
   rw[hg];by_cases hv:x.2.f.Mg=true
   .have CY:PY ((σ.get t).nG x.2.f)=true:=by
     have h9:y.2.rd.all PY=true:=by simpa[hv]using i9
     rw[ry]at h9;exact bX.1 h9 _ (dv.2 ⟨t,ht,hg⟩)
    rw[FK m1]at CY ⊢;split at CY
    .rename_i hk;rw[bk hk]
    .cases CY
   .cases hf:x.2.f<;>rw[hf]at hv<;>first|exact absurd rfl hv|(cases σ.get t<;>rfl)
  .have:=Np h2 hf;rwa[A4 _ _ _ _ m1 λe=>Mb i6 e (by rw[hf];rfl) rfl]at this
 refine⟨r1,?_,?_⟩
 .refine No h1 (λt ht=>?_) (λid hid=>(A4 _ _ _ _ m2 λe=>K9 i5 e hid).symm) (Ib _ _ _).symm (H8 _ _ _).symm λid b hf=>?_
  .rw [Gx,bj λe=>K9 i3 e ht];rw[rx]at i10;exact(Ph m2 (bX.1 i10 _ (dv.2 ⟨t,ht,rfl⟩))).symm
  .rw [A4 _ _ _ _ m2 λe=>Mb i6 (by rw[hf];rfl) e rfl];exact Np h1 hf
 .refine ⟨by simp only[H8],by simp only[Ib],λt=>?_,λid=>?_⟩
  .simp only[Gx];by_cases hx:x.1.dst=some t
   .have hy:¬y.1.dst=some t:=λe=>Mb i2 hx e rfl
    rw[bj hy,bk hx,bk hx,Ph m2 i8]
   .by_cases hy:y.1.dst=some t
    .rw [bk hy,bj hx,bk hy,Ph m1 i7]
    .rw [bj hy,bj hx,bj hx,bj hy,apg _ m1 m2]
  .by_cases hx:x.2.f.id=some id
   .have hy:y.2.f.id≠some id:=λe=>Mb i6 hx e rfl
    rw[A4 _ _ _ _ m2 hy,Cq,Cq,Cr,Cr,A4 _ _ _ _ m2 hy]
   .rw [A4 _ _ x.2 _ m1 hx];rw[Cq,Cq,Cr,Cr,A4 _ _ _ _ m1 hx]
end
section
variable {P:Program} {K:World->Prop} {T:List TI} {O:qB} {gX:Array Oper}
def xA(P:Program)(K:World->Prop)(T:List TI)(gX:Array Oper):List (Oper×kO)->PS->PS->Prop
 | [],σ,τ=>sX σ τ
 |x::l,σ,τ=>(∃ O,sy P K T O gX σ x.1=some x.2)/\xA P K T gX l (σ.app x.1.dst x.2) τ
def xA.qL{l:List (Oper×kO)}{σ σ2 τ:PS}(h:xA P K T gX l σ τ)(hs:sX σ σ2):xA P K T gX l σ2 τ:=by
 induction l generalizing σ σ2 with
 |nil=>exact hs.symm.trans h
 |cons x l ih=>exact⟨h.1.imp λ_ h=>af8 h hs,ih h.2 (ach hs _ _)⟩
def xA.agA{A C:List (Oper×kO)}{y:Oper×kO}{σ τ:PS}(h:xA P K T gX (A++y::C) σ τ)(hi:∀ x,x ∈ A->De gX x y=true):
 (∃ O,sy P K T O gX σ y.1=some y.2)/\xA P K T gX (A++C) (σ.app y.1.dst y.2) τ:=by
 induction A generalizing σ with
 |nil=>exact h
 |cons x A ih=>
  obtain⟨⟨O1,h1⟩,h2⟩:=h;obtain⟨⟨O2,k1⟩,k2⟩:=ih h2 λz hz=>hi z (by simp[hz])
  obtain⟨s1,s2,s3⟩:=aoi (hi x aK) h1 k1;exact⟨⟨O2,s1⟩,⟨O1,s2⟩,k2.qL s3⟩
end
end Go.Proofs.YtgdahmmlddfimaaGreatDoor.Pu
