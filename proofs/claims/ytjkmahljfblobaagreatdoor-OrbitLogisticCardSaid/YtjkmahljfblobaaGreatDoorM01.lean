/- Lemmas that the last file uses. -/
import Derived.Test.YtjkmahljfblobaaGreatDoorProg
import Derived.WalkKit
import Derived.BigQuiet
import Derived.WalkSpells
import Derived.WalkLawsBesides
import Derived.Lib.Hide
import Derived.Deep.RegionHeld3
import Derived.Maps.AppendAt
import Derived.Deep.AppendLies
import Derived.Deep.Draws
import Derived.Deep.DeepFit
import Derived.Laws.AppendOwnNone
import Derived.Shelf.Small.Bits
import Derived.Shelf.Spec.TrailingZeros
import Derived.Test.YtjkmahljfblobaaGreatDoorCards
import Derived.Test.YtjkmahljfblobaaGreatDoorTie
import Derived.ProofKit
import Derived.OpenShut
import Derived.Deep.DeepHandedRow
import Derived.Lib.LaidTab
import Derived.Laws.AppendOwn
import Derived.Laws.MakeOwn
import Derived.Laws.Slices
import Derived.Orders
import Derived.Laws.Build
set_option linter.unusedSimpArgs false
set_option linter.unusedVariables false
set_option linter.defProp false
set_option maxHeartbeats 4000000
open Go.Proofs.Tryz
namespace Go.Proofs.YtjkmahljfblobaaGreatDoor
theorem aA{p:Prop}(h:p:=by omega):p:=h
theorem aB{p:Prop}(h:p:=by assumption):p:=h
theorem aC{p:Prop}(h:p:=by decide):p:=h
theorem aD{p:Prop}(h:p:=by kernel_rfl):p:=h
theorem aE{p:Prop}(h:p:=by rfl):p:=h
theorem aF{p:Prop}(h:p:=by simp):p:=h
theorem aG{p:Prop}(h:p:=by nofun):p:=h
theorem aH{p:Prop}(h:p:=by simp<;>omega):p:=h
theorem aI{p:Prop}(h:p:=by grind):p:=h
theorem aJ{p:Prop}(h:p:=by decide +kernel):p:=h
theorem aK{p:Prop}(h:p:=by split<;>omega):p:=h
theorem aL{p:Prop}(h:p:=by simp;omega):p:=h
theorem aM{p:Prop}(h:p:=by first|rfl|omega|(simp only[Nat.add_mul,Nat.one_mul];omega)):p:=h
theorem aN{p:Prop}(h:p:=by simp[Op.operands]):p:=h
theorem aO{p:Prop}(h:p:=by first|omega|decide):p:=h
theorem aP{p:Prop}(h:p:=by unfold kQ;omega):p:=h
theorem aQ{p:Prop}(h:p:=by rw[List.length_append,List.length_singleton];omega):p:=h
theorem aR{p:Prop}(h:p:=by unfold uD;simp_all<;>omega):p:=h
theorem aS{p:Prop}(h:p:=by unfold wi;(repeat' split)<;>omega):p:=h
theorem aT{p:Prop}(h:p:=by unfold mV nH Af;simp_all):p:=h
theorem aU{p:Prop}(h:p:=by first|assumption|omega):p:=h
theorem aV{p:Prop}(h:p:=by rw[List.length_take];omega):p:=h
theorem aW{p:Prop}(h:p:=by unfold j9;simp_all):p:=h
theorem aX{α:Type _}[BEq α][LawfulBEq α]{a b:α}(h:a≠b):(a==b)=false:=beq_eq_false_iff_ne.2 h
theorem aY{α:Type _}[BEq α][LawfulBEq α]{a b:α}(h:a=b):(a==b)=true:=beq_iff_eq.2 h
theorem aZ{b:Bool}(h:¬b=true):b=false:=Bool.eq_false_iff.2 h
theorem bc{α:Type _}[BEq α][LawfulBEq α]{a b:α}(h:a=b):(a != b)=false:=bne_eq_false_iff_eq.2 h
theorem bg{α:Type _}[BEq α][LawfulBEq α]{a b:α}(h:a≠b):(a != b)=true:=bne_iff_ne.2 h
def bh:=@if_neg
def bj:=@if_pos
def bk:=@List.getD_eq_getElem?_getD
def bl:=@Nat.le_refl
def bn:=@decide_eq_true
def bp:=@decide_eq_false
def bt:=@Option.some.injEq
def bu:=@Nat.not_lt_zero
def bw:=@List.getElem?_eq_getElem
def bA:=@Nat.pow_add
def bB:=@if_false
def bC:=@if_true
def bD:=@Nat.pow_pos
def bE:=@Nat.mul_assoc
def bF:=@Bool.and_eq_true
def bG:=@List.all_eq_true
def bH:=@Prod.mk.injEq
def bI:=@Nat.mod_lt
def bJ:=@List.mem_range
def bK:=@Nat.le_trans
def bM:=@Nat.mul_comm
def bN:=@Nat.mul_le_mul_right
def bO:=@Nat.lt_of_lt_of_le
def bQ:=@Option.map_eq_some_iff
def bR:=@List.getElem?_eq_none
def bS:=@Nat.add_mul
def bT:=@Nat.pow_succ
def bU:=@Nat.mul_add
def bV:=@Bool.false_eq_true
def bW:=@Nat.add_zero
def bX:=@Nat.zero_add
def bY:=@List.length_append
def bZ:=@Option.map_some
def b9:=@Nat.pow_le_pow_right
def ca:=@List.getElem?_eq_some_iff
def cg:=@Nat.zero_le
def ch:=@Classical.byContradiction
def cj:=@Nat.one_mul
def ck:=@Nat.beq_refl
def ct:=@Nat.mod_eq_of_lt
def cv:=@Nat.mul_one
def cw:=@List.any_eq_false
def cz:=@List.getElem_mem
def cA:=@Nat.le_of_ble_eq_true
def cB:=@Int.le_refl
def cC:=@List.length_take
def cD:=@List.getElem?_map
def cE:=@List.length_cons
def cF:=@Nat.div_lt_iff_lt_mul
def cG:=@List.length_drop
def cH:=@Nat.zero_mul
def cI:=@List.mem_map
def cJ:=@beq_false
def cK:=@of_decide_eq_true
def cL:=@List.length_set
def cM:=@Nat.mul_le_mul_left
def cN:=@Nat.add_assoc
def cO:=@ne_eq
def cQ:=@Nat.div_add_mod
def cR:=@Nat.pow_zero
def cS:=@List.mem_append
def cT:=@Nat.mul_zero
def cU:=@List.length_map
def cV:=@Nat.sub_self
def cW:=@List.mem_cons
def cX:=@Array.getElem?_eq_some_iff
def cY:=@Array.getElem?_modify
def c9:=@List.mem_singleton
def dc:=@Array.ext'
def de:=@Bool.not_eq_true'
def df:=@List.take_of_length_le
def dg:=@List.getElem?_append_left
def dh:=@List.mem_iff_getElem?
def di:=@decide_eq_true_eq
def dj:=@Nat.min_eq_left
def dk:=@Nat.div_eq_of_lt
def dn:=@List.eq_nil_of_length_eq_zero
def dp:=@List.getElem?_drop
def dq:=@Nat.le_div_iff_mul_le
def dr:=@Rat.le_refl
def dt:=@Rat.le_trans
def du:=@Nat.lt_of_le_of_lt
def dv:=@Nat.div_div_eq_div_mul
def dw:=@List.mem_of_getElem?
def dx:=@List.map_congr_left
def dz:=@Array.length_toList
def dA:=@Nat.div_le_self
def dB:=@List.length_range
def dC:=@Array.size_push
def dD:=@Array.getElem?_push
def dE:=@List.mem_of_mem_drop
def dF:=@Nat.mul_lt_mul_of_pos_right
def dG:=@List.getElem?_take
def dH:=@List.getElem?_append_right
def dI:=@Array.mem_of_getElem?
def dJ:=@List.any_cons
def dK:=@Bool.or_eq_true
def dL:=@Classical.choose_spec
def dM:=@List.mem_of_mem_take
def dN:=@Nat.mul_div_cancel
def dO:=@Nat.mod_one
def dP:=@Bool.or_false
def dQ:=@Bool.or_eq_false_iff
def dR:=@List.length_nil
def dS:=@Nat.sub_zero
def dT:=@List.any_eq_true
def dU:=@Nat.le_of_lt
def dV:=@Rat.le_of_lt
def dW:=@Array.size_modify
def dX:=@Nat.add_mul_mod_self_left
def dY:=@List.getElem?_append
def dZ:=@Bool.not_false
def ee:=@List.map_cons
def ef:=@List.size_toArray
def eg:=@not_false_eq_true
def eh:=@List.mapM_cons
def ej:=@Bool.true_and
def ek:=@Nat.add_sub_cancel
def en:=@Nat.mod_add_div
def eo:=@Nat.mul_ne_zero
def ep:=@List.append_nil
def eu:=@Option.isSome_map
def ev:=@Nat.eq_zero_or_pos
def ez:=@List.any_nil
def eA:=@Nat.sub_le
def eB:=@Int.natCast_mul
def eC:=@Nat.mul_le_mul
def eD:=@Nat.zero_lt_succ
def eE:=@Nat.mul_left_comm
def eF:=@Nat.xor_lt_two_pow
def eG:=@Bool.false_or
def eH:=@Rat.natCast_mul
def eI:=@Rat.mul_nonneg
def eJ:=@Nat.div_mul_le_self
def eK:=@Nat.add_mul_div_left
def eN:=@List.drop_eq_nil_of_le
def eO:=@Nat.ne_of_gt
def eP:=@List.drop_eq_getElem_cons
def eQ:=@Bool.not_true
def eR:=@true_and
def eU:=@List.mem_flatMap
def eV:=@Nat.blt_eq
def eW:=@Array.mem_append
def eX:=@getElem!_pos
def eZ:=@and_true
def e9:=@Nat.lt_trans
def fc:=@Nat.and_lt_two_pow
def fe:=@BitVec.toNat_ofInt
def ff:=@Rat.neg_neg
def fg:=@List.take_succ_eq_append_getElem
def fh:=@List.length_singleton
def fi:=@Nat.mul_pos
def fj:=@Nat.mul_mod_left
def fk:=@Nat.add_comm
def fm:=@Array.getElem?_setIfInBounds_ne
def fo:=@Nat.mul_add_mod
def fp:=@Nat.le_of_eq
def fu:=@Array.mem_map
def fw:=@Array.mem_range
def fz:=@Option.getD_some
def fA:=@Nat.lt_succ_self
def fB:=@List.getElem?_replicate
def fC:=@List.length_pos_iff
def fD:=@Int.natAbs_natCast
def fE:=@decide_true
def fF:=@Nat.pos_of_ne_zero
def fG:=@Nat.div_one
def fH:=@Rat.mul_le_mul_of_nonneg_right
def fI:=@Rat.natCast_nonneg
def fJ:=@Rat.mul_pos
def fK:=@Rat.natCast_add
def fL:=@List.mem_append_right
def fM:=@Nat.div_lt_self
def fN:=@Nat.lt_or_ge
def fO:=@Nat.mul_right_comm
def fP:=@Nat.sub_add_cancel
def fQ:=@List.getElem_of_mem
def fR:=@Int.toNat_natCast
def fS:=@Nat.le_mul_of_pos_right
def fT:=@Array.getElem_mem
def fU:=@List.getElem?_toArray
def fV:=@List.mem_toArray
def fW:=@Option.bind_eq_some_iff
def fX:=@Option.isSome_iff_exists
def fY:=@Bool.and_eq_true_iff
def fZ:=@Array.mapM_eq_mapM_toList
def gh:=@BitVec.ofInt_natCast
def gl:=@BitVec.toNat_ofNat
def gn:=@Int.eq_ofNat_of_zero_le
def gp:=@List.take_length
def gq:=@List.length_eq_zero_iff
def gv:=@Rat.mul_assoc
def gw:=@Nat.one_ne_zero
def gx:=@List.ext_getElem
def gy:=@Bool.not_eq_true
def gz:=@Bool.not_eq_false'
def gE:=@List.cons_append
def gF:=@List.take_append_drop
def gG:=@List.eq_nil_or_concat
def gH:=@List.concat_eq_append
def gI:=@List.map_append
def gJ:=@Nat.mul_add_div
def gK:=@Array.size_append
def gL:=@List.append_assoc
def gM:=@not_true_eq_false
def gN:=@Int.tdiv_eq_ediv_of_nonneg
def gO:=@Option.map_none
def gP:=@List.mem_append_left
def gQ:=@List.pairwise_cons
def gR:=@List.pairwise_append
def gS:=@Option.some.inj
def gT:=@Array.getElem_setIfInBounds_ne
def gU:=@Array.getElem?_append
def gV:=@List.mapM_nil
def ado:=@Nat.or_lt_two_pow
def akd:=@Nat.pow_lt_pow_right
def ake:=@decide_eq_decide
def akf:=@decide_eq_true_iff
def akg:=@Int.natAbs_neg
def akh:=@Nat.testBit_xor
def aki:=@Bool.eq_iff_iff
def akj:=@Nat.lt_irrefl
def akk:=@Rat.intCast_natCast
def akl:=@Rat.intCast_neg
def akm:=@Rat.natCast_pos
def akn:=@bne_self_eq_false
def ako:=@Rat.mul_div_cancel
def akp:=@List.getElem?_range
def akq:=@List.getElem_map
def akr:=@List.getElem_range
def aks:=@not_not_intro
def akt:=@Int.tmod_eq_emod_of_nonneg
def aku:=@List.all_eq_false
def akv:=@beq_self_eq_true
def akw:=@List.getElem?_cons_succ
def akx:=@Nat.pow_lt_pow_iff_right
def aky:=@Array.getElem?_setIfInBounds
def akz:=@Array.getElem?_append_left
def akA:=@Array.toList_setIfInBounds
def akB:=@Array.mem_or_eq_of_mem_setIfInBounds
def akC:=@List.drop_length_add_append
def akD:=@Array.all_eq_true_iff_forall_mem
def akE:=@Nat.eq_of_mul_eq_mul_right
def akF:=@Nat.lt_of_mul_lt_mul_right
def akG:=@Rat.lt_of_mul_lt_mul_right
def akH:=@Lib.hid
end Go.Proofs.YtjkmahljfblobaaGreatDoor
namespace Go.Proofs.YtjkmahljfblobaaGreatDoor.Fp
def val:List Nat->Nat
 | []=>0
 |x::l=>x+4294967296*val l
def iM(L:List Nat):Prop:=∀ x,x ∈ L->x<4294967296
def iM.nil:iM []:=by intro x h;cases h
def iM.cons{x:Nat}{l:List Nat}(hx:x<4294967296)(h:iM l):iM (x::l):=by
 intro y hy;rcases cW.1 hy with rfl|hy;exact hx;exact h _ hy
def iM.head{x:Nat}{l:List Nat}(h:iM (x::l)):x<4294967296:=h x aF 
def iM.tail{x:Nat}{l:List Nat}(h:iM (x::l)):iM l:=λy hy=>h y (by simp[hy])
def iM.append{l m:List Nat}(h:iM l)(k:iM m):iM (l++m):=by
 intro x hx;rcases cS.1 hx with hx|hx;exact h _ hx;exact k _ hx
def iM.take{l:List Nat}(h:iM l)(n:Nat):iM (l.take n):=λx hx=>h x (dM hx)
def iM.drop{l:List Nat}(h:iM l)(n:Nat):iM (l.drop n):=λx hx=>h x (dE hx)
def iM.get{l:List Nat}(h:iM l){i:Nat}(hi:i<l.length):l[i]<4294967296:=h _ (cz hi)
def iM.getD{l:List Nat}(h:iM l)(i:Nat):l.getD i 0<4294967296:=by
 rw[bk];by_cases hi:i<l.length
 .rw [bw hi];exact h.get hi
 .rw [bR aA];decide
def iM.Dd(n:Nat):iM (List.replicate n 0):=by
 intro x hx;rw[List.mem_replicate]at hx;rw[hx.2];decide
@[simp] theorem Kf:val []=0:=rfl
@[simp] theorem se (x:Nat) (l:List Nat):val (x::l)=x+4294967296*val l:=rfl
def Ar(l m:List Nat):val (l++m)=val l+4294967296^l.length*val m:=by
 induction l with
 |nil=>simp
 |cons x l ih=>
  simp only[gE,se,ih,cE,bT];rw[bU,bM (4294967296^l.length) 4294967296,bE];omega
def pq{l:List Nat}(h:iM l):val l<4294967296^l.length:=by
 induction l with
 |nil=>simp
 |cons x l ih=>
  have h1:=h.head;have h2:=ih h.tail;simp only[se,cE,bT];have:val l+1<=4294967296^l.length:=h2;have:=cM 4294967296 this;rw[bM (4294967296^l.length)];omega
def BX(n:Nat):val (List.replicate n 0)=0:=by
 induction n with
 |zero=>rfl
 |succ n ih=>simp[List.replicate_succ,ih]
def Ds(l:List Nat)(n:Nat)(hn:n<=l.length):val l=val (l.take n)+4294967296^n*val (l.drop n):=by
 conv=>lhs;rw[<-gF n l,Ar]
 rw[cC,dj hn]
def BZ(l:List Nat)(n:Nat)(hn:n<l.length):val (l.take (n+1))=val (l.take n)+4294967296^n*l[n]:=by
 rw[fg hn,Ar,cC,dj aA];simp
def ajI{l:List Nat}(h:iM l)(n:Nat):val (l.take n)=val l%4294967296^n:=by
 by_cases hn:n<=l.length
 .rw [Ds l n hn,dX,ct];have:=pq (h.take n);rwa[cC,dj hn]at this
 .rw [df aA,ct];refine bO (pq h) (b9 aC aA)
def Gg{l:List Nat}(h:iM l)(n:Nat):val (l.drop n)=val l/4294967296^n:=by
 by_cases hn:n<=l.length
 .rw [Ds l n hn];have:=pq (h.take n);rw[cC,dj hn]at this;rw[eK _ _ (bD aC),dk this,bX]
 .rw [eN aA,dk];rfl;exact bO (pq h) (b9 aC aA)
def iH:List Nat->List Nat
 | []=>[]
 |x::l=>match iH l with
  | []=>if x=0 then[]else[x]
  |y::m=>x::y::m
def mo(L:List Nat):Nat:=(iH L).length
def Xa(l:List Nat):iH (l++[0])=iH l:=by
 induction l with
 |nil=>rfl
 |cons x l ih=>simp only[gE,iH,ih]
def W9(l:List Nat)(x:Nat)(hx:x≠0):iH (l++[x])=l++[x]:=by
 induction l with
 |nil=>simp[iH,hx]
 |cons y l ih=>
  simp only[gE,iH,ih];cases l<;>rfl
def J7(L:List Nat):iH L=L.take (mo L):=by
 unfold mo
 induction L with
 |nil=>rfl
 |cons x l ih=>
  simp only[iH];cases h:iH l with
  |nil=>by_cases hx:x=0<;>simp[hx]
  |cons y m=>
   rw[h]at ih;simp only[cE,List.take_succ_cons];rw[cE]at ih;rw[<-ih]
def pJ(L:List Nat):mo L<=L.length:=by
 have h:=congrArg List.length (J7 L);rw[cC]at h;unfold mo at h ⊢;omega
def qG(L:List Nat):val (iH L)=val L:=by
 induction L with
 |nil=>rfl
 |cons x l ih=>
  simp only[iH];cases h:iH l with
  |nil=>rw[h]at ih;by_cases hx:x=0<;>simp[hx,<-ih]
  |cons y m=>rw[h]at ih;simp only[se]at ih ⊢;rw[ih]
def iM.iH{L:List Nat}(h:iM L):iM (Fp.iH L):=by rw[J7];exact h.take _
def oQ(L:List Nat):Prop:=iH L=L
def zj(L:List Nat):oQ (iH L):=by
 unfold oQ
 induction L with
 |nil=>rfl
 |cons x l ih=>
  simp only[iH];cases h:iH l with
  |nil=>by_cases hx:x=0<;>simp[hx,iH]
  |cons y m=>rw[h]at ih;simp only[iH]at ih ⊢;rw[ih]
def oQ.nil:oQ []:=rfl
def Ap(L:List Nat):oQ L↔∀ h:0<L.length,L[L.length-1]≠0:=by
 rcases gG L with rfl|⟨l,x,rfl⟩
 .simp [oQ,iH]
 .simp only[gH,bY,fh,ek,List.getElem_concat_length];constructor
  .intro h _ hx;subst hx;have:=congrArg List.length h;rw[Xa]at this;have h2:=pJ l;unfold mo at h2;rw[bY]at this;simp at this;omega
  .intro h;exact W9 l x (h aA)
def OD(L:List Nat)(n:Nat)(hn:n<L.length)(h0:L[n]=0):mo (L.take (n+1))=mo (L.take n):=by
 unfold mo;rw[fg hn,h0,Xa]
def OC(L:List Nat)(n:Nat)(hn:n<L.length)(h0:L[n]≠0):mo (L.take (n+1))=n+1:=by
 unfold mo;rw[fg hn,W9 _ _ h0];simp;omega
def oQ.KX{x:Nat}{l:List Nat}(h:oQ (x::l)):oQ l:=by
 rw[Ap]at h ⊢;intro hl;have:=h aF;simp only[cE,ek]at this;have e:(x::l)[l.length]'(aF)=l[l.length-1]:=by
  rw[List.getElem_cons];rw[dif_neg aA]
 rwa[e]at this
def oQ.Dr{L:List Nat}(h:oQ L)(hl:L≠[]):0<val L:=by
 induction L with
 |nil=>exact absurd rfl hl
 |cons x l ih=>
  simp only[se];by_cases pz:l=[]
  .subst pz;have:=(Ap _).1 h aF;simp at this;simp;omega
  .have:=ih h.KX pz;omega
def oQ.ext{L M:List Nat}(hL:oQ L)(hM:oQ M)(kL:iM L)(kM:iM M)(h:val L=val M):L=M:=by
 induction L generalizing M with
 |nil=>
  by_cases hm:M=[]
  .exact hm.symm
  .have:=hM.Dr hm;rw[<-h]at this;simp at this
 |cons x l ih=>
  cases M with
  |nil=>have:=hL.Dr aF;rw[h]at this;simp at this
  |cons y m=>
   simp only[se]at h;have h1:=kL.head;have h2:=kM.head;have e:x=y:= aA ;subst e;rw[ih hL.KX hM.KX kL.tail kM.tail aA]
def ia(n:Nat):List Nat:=if n=0 then[]else n%4294967296::ia (n/4294967296)
termination_by n
decreasing_by exact fM aA aC 
def oD:ia 0=[]:=by rw[ia];rfl
def CR{n:Nat}(h:n≠0):ia n=n%4294967296::ia (n/4294967296):=by rw[ia,bh h]
def lW(n:Nat):val (ia n)=n:=by
 induction n using Nat.strongRecOn with
 |_ n ih=>
  by_cases h:n=0
  .subst h;rw[oD];rfl
  .rw [CR h,se,ih _ (fM aA aC)];exact en n 4294967296
def o9(n:Nat):iM (ia n):=by
 induction n using Nat.strongRecOn with
 |_ n ih=>
  by_cases h:n=0
  .subst h;rw[oD];exact iM.nil
  .rw [CR h];exact iM.cons (bI _ aC) (ih _ (fM aA aC))
def J8(n:Nat):oQ (ia n):=by
 induction n using Nat.strongRecOn with
 |_ n ih=>
  by_cases h:n=0
  .subst h;rw[oD];exact oQ.nil
  .rw [CR h];have h1:=ih _ (fM aA (aC:1<4294967296));unfold oQ at h1 ⊢;simp only[iH,h1];by_cases h2:n/4294967296=0
   .rw [h2,oD];have:n%4294967296≠0:= aA ;simp[this]
   .rw [CR h2]
def uZ{L:List Nat}(h:iM L):iH L=ia (val L):=
 oQ.ext (zj L) (J8 _) h.iH (o9 _) (by rw[qG,lW])
def oQ.G6{L:List Nat}(h:oQ L)(k:iM L):L=ia (val L):=by
 rw[<-uZ k];exact h.symm
def IG{n:Nat}:ia n=[]↔n=0:=by
 constructor
 .intro h;have:=lW n;rw[h]at this;exact this.symm
 .rintro rfl;exact oD
def wN{n k:Nat}(h:n<4294967296^k):(ia n).length<=k:=by
 induction k generalizing n with
 |zero=>simp at h;subst h;rw[oD];simp
 |succ k ih=>
  by_cases h0:n=0
  .subst h0;rw[oD];simp
  .rw [CR h0,cE];have:n/4294967296<4294967296^k:=by
    rw[cF aC];rwa[bT]at h
   have:=ih this;omega
def IW{n k:Nat}(h:(ia n).length<=k):n<4294967296^k:=by
 have h1:=pq (o9 n);rw[lW]at h1;exact bO h1 (b9 aC h)
def iy(n:Nat):Nat:=if n=0 then 0 else n.log2+1
def vi:iy 0=0:=rfl
def mv{n k:Nat}:iy n<=k↔n<2^k:=by
 unfold iy;by_cases h:n=0
 .subst h;simp[bD]
 .rw [bh h,<-Nat.log2_lt h];omega
def Bp{n k:Nat}:k<iy n↔2^k<=n:=by
 have:=@mv n k;omega
def yg{n k:Nat}(h1:2^k<=n)(h2:n<2^(k+1)):iy n=k+1:=by
 have a:=Bp.2 h1;have b:=mv.2 h2;omega
def uK(n:Nat):n<2^iy n:=mv.1 (bl _)
def s9{n:Nat}(h:n≠0):2^(iy n-1)<=n:=by
 have:iy n-1<iy n:=by
  have:iy n≠0:=by unfold iy;simp[h]
  omega
 exact Bp.1 this
def qf{n:Nat}(h:n≠0):0<iy n:=by unfold iy;simp[h]
def vh{m n:Nat}(h:m<=n):iy m<=iy n:=mv.2 (du h (uK n))
def th{n:Nat}(h:n≠0)(k:Nat):iy (n*2^k)=iy n+k:=by
 have h1:=uK n;have h2:=s9 h;have h3:=qf h;have e:iy n+k=(iy n-1+k)+1:= aA ;rw[e];apply yg
 .rw [bA];exact bN _ h2
 .rw [<-e,bA];exact dF h1 (bD aC)
def s6(k:Nat):(4294967296:Nat)^k=2^(32*k):=by
 rw[Nat.pow_mul]
def YK{l:List Nat}{x:Nat}(h:iM (l++[x]))(hx:x≠0):iy (val (l++[x]))=32*l.length+iy x:=by
 rw[Ar];simp only[se,Kf,cT,bW];have hl:val l<4294967296^l.length:=pq (λy hy=>h y (by simp[hy]));rw[s6]at hl ⊢;have h1:=uK x;have h2:=s9 hx;have h3:=qf hx;have e:32*l.length+iy x=(32*l.length+(iy x-1))+1:= aA ;rw[e];apply yg
 .rw [bA];have:=cM (2^(32*l.length)) h2;omega
 .rw [<-e,bA];have:=cM (2^(32*l.length)) (show x+1<=2^iy x from h1);rw[bU]at this;omega
def mC(a b:Nat):Int:=if a<b then -1 else if b<a then 1 else 0
def Ke{L M:List Nat}(kL:iM L)(hM:oQ M)(h:L.length<M.length):val L<val M:=by
 rcases gG M with rfl|⟨m,x,rfl⟩
 .simp at h
 .simp only[gH,bY,fh]at h hM ⊢;have hx:x≠0:=by
   have:=(Ap _).1 hM aF;simpa using this
  have h1:=pq kL;rw[Ar];have h2:(4294967296:Nat)^L.length<=4294967296^m.length:=b9 aC aA;have h3:(4294967296:Nat)^m.length*1<=4294967296^m.length*val [x]:=cM _ aL;omega
def ajE{L M:List Nat}(kL:iM L)(i:Nat)(hi:i<L.length)(hlen:L.length=M.length)(adl:L.drop (i+1)=M.drop (i+1))(iJ:L[i]<M[i]'(aA)):val L<val M:=by
 rw[Ds L (i+1) aA,Ds M (i+1) aA,adl,BZ L i hi,BZ M i aA];have h1:=pq (kL.take i);rw[cC,dj aA]at h1;have h2:=cM (4294967296^i) (show L[i]+1<=M[i]'(aA)from iJ);rw[bU]at h2;omega
def ajG(L:List Nat)(k:Nat)(h:iM L):val (L.drop k)=val L/2^(32*k):=by
 rw[Gg h,s6]
def qO(s:Nat):List Nat->List Nat
 | []=>[]
 |x::l=>((x+4294967296*l.getD 0 0)/2^s)%4294967296::qO s l
def JU(s:Nat)(L:List Nat):(qO s L).length=L.length:=by
 induction L with
 |nil=>rfl
 |cons x l ih=>simp[qO,ih]
def WE(s:Nat)(L:List Nat)(i:Nat)(h:i<L.length):(qO s L)[i]? = some (((L[i]+4294967296*L.getD (i+1) 0)/2^s)%4294967296):=by
 induction L generalizing i with
 |nil=>simp at h
 |cons x l ih=>
  cases i with
  |zero=>simp[qO]
  |succ i=>
   simp only[cE]at h;simp only[qO,akw,ih i aA,List.getElem_cons_succ];congr 1
def FG(s:Nat)(L:List Nat):iM (qO s L):=by
 induction L with
 |nil=>exact iM.nil
 |cons x l ih=>exact iM.cons (bI _ aC) ih
def ajH{L:List Nat}(h:iM L)(s:Nat)(hs:s<32):val (qO s L)=val L/2^s:=by
 induction L with
 |nil=>simp[qO]
 |cons x l ih=>
  have e:32=s+(32-s):= aA ;have e2:(4294967296:Nat)=2^s*2^(32-s):=by rw[<-bA,<-e]
  have hp:0<2^s:=bD aC;have hx:=h.head;simp only[qO,se,ih h.tail];generalize hv:val l=v;have hh:l.getD 0 0=v%4294967296:=by
   rw[<-hv];cases l with
   |nil=>simp
   |cons y m=>
    have:=h.tail.head;simp[se];omega
  rw[hh];have f1:(x+4294967296*(v%4294967296))/2^s=x/2^s+2^(32-s)*(v%4294967296):=by
   rw[show x+4294967296*(v%4294967296)=x+2^s*(2^(32-s)*(v%4294967296))by rw[<-bE,<-e2],eK _ _ hp]
  have f2:(x+4294967296*v)/2^s=x/2^s+2^(32-s)*v:=by
   rw[show x+4294967296*v=x+2^s*(2^(32-s)*v)by rw[<-bE,<-e2],eK _ _ hp]
  rw[f1,f2];have qa:x/2^s<2^(32-s):=by
   rw[cF hp,bM,<-e2];exact hx
  generalize x/2^s=q at qa ⊢;have g1:(4294967296:Nat)=2^(32-s)*2^s:=by rw[bM];exact e2
  have g2:v=2^s*(v/2^s)+v%2^s:=(cQ v (2^s)).symm;have g3:(q+2^(32-s)*(v%4294967296))%4294967296=q+2^(32-s)*(v%2^s):=by
   have k1:v%4294967296%2^s=v%2^s:=by
    rw[e2,Nat.mod_mul_right_mod]
   have k2:(v%4294967296)=2^s*(v%4294967296/2^s)+v%2^s:=by
    rw[<-k1];exact(cQ _ _).symm
   conv=>lhs;rw[k2]
   rw[bU,<-bE,<-g1];rw[(aA:q+(4294967296*(v%4294967296/2^s)+2^(32-s)*(v%2^s))=(q+2^(32-s)*(v%2^s))+4294967296*(v%4294967296/2^s)),dX];apply ct;have:v%2^s+1<=2^s:=bI _ hp;have:=cM (2^(32-s)) this;rw[<-g1,bU]at this;omega
  rw[g3]
  conv=>rhs;rw[g2,bU,<-bE,<-g1]
  omega
def OM{L:List Nat}(h:iM L)(n:Nat):val (qO (n%32) (L.drop (n/32)))=val L/2^n:=by
 rw[ajH (h.drop _) _ (bI _ aC),ajG _ _ h,dv,<-bA];congr 2;omega
def WB{out a:List Nat}{i c s n0:Nat}(hi:i<a.length)(hlen:out.length=n0+i)
 (h:val out+4294967296^(n0+i)*c=val (a.take i)*2^s*4294967296^n0):
 val (out++[(a[i]*2^s+c)%4294967296])+4294967296^(n0+(i+1))*((a[i]*2^s+c)/4294967296)=val (a.take (i+1))*2^s*4294967296^n0:=by
 rw[Ar,BZ a i hi,hlen];simp only[se,Kf,cT,bW];generalize hx:a[i]*2^s+c=x;have e:=en x 4294967296;have p:4294967296^(n0+(i+1))=4294967296^(n0+i)*4294967296:=by rw[<-cN,bT]
 rw[p,cN,bE (4294967296^(n0+i)),<-bU,e,<-hx,bU,<-cN,Nat.add_right_comm,h,bS,bS];congr 1;rw[bA]
 ac_rfl
def As(b:List Nat)(i:Nat):val (b.take (i+1))=val (b.take i)+4294967296^i*b.getD i 0:=by
 by_cases hi:i<b.length
 .rw [BZ b i hi,bk,bw hi];rfl
 .rw [df aA,df aA,bk,bR aA];simp
def kj(n:Nat):Nat:=if n=0 then 0 else(Nat.gcd n (2^(Nat.log2 n+1))).log2
def KZ{m:Nat}(hm:m%2=1)(k:Nat):kj (m*2^k)=k:=by
 have h0:m*2^k≠0:=eo aA (eO (bD aC));unfold kj;rw[bh h0];have hk:k<=Nat.log2 (m*2^k):=by
  apply ch;intro h;have h1:m*2^k<2^k:=(Nat.log2_lt h0).1 aA;have:1*2^k<=m*2^k:=bN _ aA;omega
 obtain⟨j,hj⟩:∃ j,Nat.log2 (m*2^k)+1=j+k:=⟨Nat.log2 (m*2^k)+1-k,aA⟩
 rw[hj,bA,Nat.gcd_mul_right];have hg:Nat.gcd m (2^j)=1:=by
  have hc:Nat.Coprime m 2:=by
   unfold Nat.Coprime;rw[Nat.gcd_comm,Nat.gcd_rec,hm];rfl
  exact Nat.Coprime.pow_right j hc
 rw[hg,cj,Nat.log2_two_pow]
def K0{n:Nat}(h:n%2=1):kj n=0:=by have:=KZ h 0;simpa using this
def ajm{n:Nat}(h:n≠0):∃ m k,m%2=1/\n=m*2^k:=by
 induction n using Nat.strongRecOn with
 |_ n ih=>
  by_cases h2:n%2=1
  .exact ⟨n,0,h2,aF⟩
  .obtain ⟨m,k,hm,he⟩:=ih (n/2) aA aA ;exact⟨m,k+1,hm,by rw[bT,<-bE,<-he];omega⟩
def Qi{n:Nat}(h:n≠0)(h2:n%2=0):kj n=kj (n/2)+1:=by
 obtain⟨m,k,hm,he⟩:=ajm (n:=n/2) aA;have e:n=m*2^(k+1):=by rw[bT,<-bE,<-he];omega
 rw[he,KZ hm]
 conv=>lhs;rw[e]
 exact KZ hm _
def AE{n:Nat}(h:n≠0):∃ m,m%2=1/\n=m*2^kj n:=by
 induction n using Nat.strongRecOn with
 |_ n ih=>
  by_cases h2:n%2=1
  .exact ⟨n,h2,by rw[K0 h2];omega⟩
  .obtain ⟨m,hm,he⟩:=ih (n/2) aA aA ;refine⟨m,hm,?_⟩;rw[Qi h aA,bT,<-bE,<-he];omega
def yj{m:Nat}(hm:m%2=1)(k:Nat):kj (m*2^k)=k:=by
 induction k with
 |zero=>rw[cR,cv,K0 hm]
 |succ k ih=>
  have hp:0<m*2^k:=fi aA (bD aC);have e:m*2^(k+1)=m*2^k*2:=by rw[bT,bE]
  rw[e,Qi aA aA,dN _ aC,ih]
def FE{n:Nat}(h:n≠0):(n/2^kj n)%2=1:=by
 obtain⟨m,hm,he⟩:=AE h;have:n/2^kj n=m:=by conv=>lhs;rw[he,yj hm];rw[dN _ (bD aC)]
 rw[this];exact hm
def GX{n:Nat}(h:n≠0):(n/2^kj n)*2^kj n=n:=by
 obtain⟨m,hm,he⟩:=AE h;have:n/2^kj n=m:=by conv=>lhs;rw[he,yj hm];rw[dN _ (bD aC)]
 rw[this];exact he.symm
def Jn{n:Nat}(h:n≠0):2^kj n<=n:=by
 obtain⟨m,hm,he⟩:=AE h
 conv=>rhs;rw[he]
 exact Nat.le_mul_of_pos_left _ aA 
def Zy{x v:Nat}(hx:x≠0)(iJ:x<4294967296):kj (x+4294967296*v)=kj x:=by
 obtain⟨m,hm,he⟩:=AE hx;have hk:kj x<32:=by
  have h1:=Jn hx;rcases fN (kj x) 32 with h|h
  .exact h
  .have:=b9 (n:=2) aC h;have e:(2:Nat)^32=4294967296:= aC ;omega
 have e:x+4294967296*v=(m+2^(32-kj x)*v)*2^kj x:=by
  rw[bS,<-he,fO,<-bA,fP aA]
 conv=>lhs;rw[e]
 apply yj;have:2^(32-kj x)=2*2^(31-kj x):=by rw[(aA:32-kj x=(31-kj x)+1),bT,bM]
 rw[this,bE,dX];exact hm
def Zz{v:Nat}(hv:v≠0)(k:Nat):kj (2^k*v)=k+kj v:=by
 obtain⟨m,hm,he⟩:=AE hv
 conv=>lhs;rw[he,<-bE,bM (2^k),bE,<-bA]
 exact yj hm _
def Gh{L:List Nat}:val L=0↔∀ x,x ∈ L->x=0:=by
 induction L with
 |nil=>simp
 |cons x l ih=>
  simp only[se,cW];constructor
  .intro h y hy;rcases hy with rfl|hy
   .omega
   .exact ih.1 aA y hy
  .intro h;have h1:=h x (.inl rfl);have h2:=ih.2 (λy hy=>h y (.inr hy));omega
def ZA{L:List Nat}(h:iM L)(i:Nat)(hi:i<L.length)(h0:∀ j,(hj:j<i)->L[j]=0)(hx:L[i]≠0):kj (val L)=32*i+kj L[i]:=by
 rw[Ds L i aA];have:val (L.take i)=0:=by
  rw[Gh];intro y hy;obtain⟨j,hj,rfl⟩:=fQ hy;rw[cC]at hj;rw[List.getElem_take];exact h0 j aA 
 rw[this,bX,s6,eP hi,se];rw[Zz aA,Zy hx (h.get hi)]
def OL{L:List Nat}{k x:Nat}(hk:k<L.length):val (L.set k x)+4294967296^k*L[k]=val L+4294967296^k*x:=by
 induction L generalizing k with
 |nil=>simp at hk
 |cons y l ih=>
  cases k with
  |zero=>simp;omega
  |succ k=>
   simp only[cE]at hk;have:=ih (k:=k) aA;simp only[List.set_cons_succ,se,List.getElem_cons_succ,bT];have e1:(4294967296^k*4294967296*l[k])=4294967296*(4294967296^k*l[k]):=by ac_rfl
   have e2:(4294967296^k*4294967296*x)=4294967296*(4294967296^k*x):=by ac_rfl
   rw[e1,e2];omega
def iM.set{L:List Nat}(h:iM L)(k:Nat){x:Nat}(hx:x<4294967296):iM (L.set k x):=by
 intro y hy;rcases List.mem_or_eq_of_mem_set hy with hy|rfl
 .exact h _ hy
 .exact hx
structure Dy where
 neg:Bool
 m:Nat
 e:Int
def Dy.nL(d:Dy):Prop:=(d.m=0/\d.neg=false/\d.e=0)\/d.m%2=1
def canon(neg:Bool)(m:Nat)(e:Int):Dy:=if m=0 then⟨false,0,0⟩else⟨neg,m/2^kj m,e+kj m⟩
def vm(neg:Bool)(m:Nat)(e:Int):(canon neg m e).nL:=by
 unfold canon;split
 .exact .inl ⟨rfl,rfl,rfl⟩
 .rename_i h;exact .inr (FE h)
def Dy.nL.AB{d:Dy}(h:d.nL):canon d.neg d.m d.e=d:=by
 obtain⟨s,m,e⟩:=d;rcases h with⟨h1,h2,h3⟩|h
 .simp only at h1 h2 h3;subst h1 h2 h3;rfl
 .simp only at h ⊢;unfold canon;rw[bh aA,K0 h];simp
def oC(d:Dy):Prop:=d.m=0\/iy d.m<=4096 /\ -16384<=d.e/\d.e<=16384/\(iy d.m:Int)+d.e<=16384
instance (d:Dy):Decidable (oC d):=by unfold oC;infer_instance
structure Dy.ic(d:Dy):Prop where
 canon:d.nL
 range:oC d
def iL:Dy:=⟨false,0,0⟩
def oI:iL.ic:=⟨.inl ⟨rfl,rfl,rfl⟩,.inl rfl⟩
def Dy.kf(d:Dy):Int:=if d.m=0 then 0 else if d.neg then -1 else 1
def Dy.iI(d:Dy):Int:=if d.m=0 then 0 else iy d.m+d.e
def Dy.jH(d:Dy)(e:Int):Nat:=d.m*2^(d.e-e).toNat
def Dy.num(d:Dy)(e:Int):Int:=if d.neg then -(d.jH e:Int)else d.jH e
def ke(a b:Dy):Int:=
 if a.num (min a.e b.e)<b.num (min a.e b.e)then -1 else if b.num (min a.e b.e)<a.num (min a.e b.e)then 1 else 0
def xI{d:Dy}(h:d.m≠0)(e:Int):0<d.jH e:=fi aA (bD aC)
def UJ{d:Dy}(h:d.m=0)(e:Int):d.jH e=0:=by unfold Dy.jH;rw[h,cH]
def Gz{d:Dy}(h:d.m≠0){e:Int}(he:e<=d.e):(iy (d.jH e):Int)=iy d.m+d.e-e:=by
 unfold Dy.jH;rw[th h];omega
def UI{a b:Dy}(ha:a.m≠0)(hb:b.m≠0){e:Int}(h1:e<=a.e)(h2:e<=b.e)(h:a.iI<b.iI):a.jH e<b.jH e:=by
 have k1:=Gz ha h1;have k2:=Gz hb h2;unfold Dy.iI at h;rw[bh ha,bh hb]at h;rcases fN (a.jH e) (b.jH e)with h'|h'
 .exact h'
 .have:=vh h';omega
def sH(a b:Dy):Int:=mC (a.jH (min a.e b.e)) (b.jH (min a.e b.e))
def Zm{a b:Dy}(ha:a.m≠0)(hb:b.m≠0)(h:a.iI<b.iI):sH a b = -1:=by
 unfold sH mC;rw[bj (UI ha hb (Int.min_le_left _ _) (Int.min_le_right _ _) h)]
def Zl{a b:Dy}(ha:a.m≠0)(hb:b.m≠0)(h:b.iI<a.iI):sH a b=1:=by
 have:=UI hb ha (Int.min_le_right a.e b.e) (Int.min_le_left _ _) h;unfold sH mC;rw[bh aA,bj this]
def F6(d:Dy):(d.m=0/\d.kf=0)\/(d.m≠0/\d.neg=true/\d.kf = -1)\/(d.m≠0/\d.neg=false/\d.kf=1):=by
 unfold Dy.kf;by_cases h:d.m=0
 .exact .inl ⟨h,bj h⟩
 .cases hn:d.neg
  .exact .inr (.inr ⟨h,rfl,by simp[h]⟩)
  .exact .inr (.inl ⟨h,rfl,by simp[h]⟩)
def Vz{d:Dy}(e:Int):(d.kf=0->d.num e=0)/\(d.kf = -1->d.num e<0/\d.num e = -(d.jH e))/\(d.kf=1->0<d.num e/\d.num e=d.jH e):=by
 unfold Dy.num;rcases F6 d with⟨h1,h2⟩|⟨h1,h2,h3⟩|⟨h1,h2,h3⟩
 .rw [h2,UJ h1];simp
 .have:=xI h1 e;rw[h3,h2];simp;omega
 .have:=xI h1 e;rw[h3,h2];simp;omega
def Qa(a b:Dy):ke a b=if a.kf<b.kf then -1 else if b.kf<a.kf then 1 else if a.kf=0 then 0 else a.kf*sH a b:=by
 unfold ke sH mC;generalize min a.e b.e=e;obtain⟨p1,p2,p3⟩:=Vz (d:=a) e;obtain⟨q1,q2,q3⟩:=Vz (d:=b) e;generalize a.num e=x at *
 generalize b.num e=y at *
 generalize a.jH e=x' at *
 generalize b.jH e=y' at *
 have ha:a.kf=0\/a.kf = -1\/a.kf=1:=by rcases F6 a with⟨_,h⟩|⟨_,_,h⟩|⟨_,_,h⟩<;>simp[h]
 have hb:b.kf=0\/b.kf = -1\/b.kf=1:=by rcases F6 b with⟨_,h⟩|⟨_,_,h⟩|⟨_,_,h⟩<;>simp[h]
 generalize a.kf=s at *
 generalize b.kf=t at *
 rcases ha with rfl|rfl|rfl<;>rcases hb with rfl|rfl|rfl<;>simp at p1 p2 p3 q1 q2 q3<;>(repeat' split)<;>omega
def iK(z:Int)(e:Int):Dy:=canon (decide (z<0)) z.natAbs e
def iR(a b:Dy):Dy:=
 if a.m=0 then b else if b.m=0 then a else iK (a.num (min a.e b.e)+b.num (min a.e b.e)) (min a.e b.e)
def kB(d:Dy):Dy:=⟨!d.neg&&decide (d.m≠0),d.m,d.e⟩
def Nx{d:Dy}(h:d.nL):(kB d).nL:=by
 rcases h with⟨h1,h2,h3⟩|h
 .exact .inl ⟨h1,by simp[kB,h1],h3⟩
 .exact .inr h
def xK{d:Dy}(h:d.ic):(kB d).ic:=⟨Nx h.canon,h.range⟩
def agf(d:Dy)(e:Int)(hd:d.m≠0):(kB d).num e = -(d.num e):=by
 unfold Dy.num kB Dy.jH;cases d.neg<;>simp[hd]
def aiO{out:List Nat}{n c P Q:Nat}(ho:iM out)(hlen:out.length=n)(h:val out+Q=P+4294967296^n*c)(hle:Q<=P):c=0/\val out=P-Q:=by
 have h1:=pq ho;rw[hlen]at h1;rcases c with _|c
 .exact ⟨rfl,aA⟩
 .exfalso;have:4294967296^n*1<=4294967296^n*(c+1):=cM _ aA;omega
def YF{L:List Nat}(h:iM L)(k:Nat)(hk:k/32<L.length):val L/2^k%2=L[k/32]/2^(k%32)%2:=by
 have e:k=32*(k/32)+k%32:= aA 
 conv=>lhs;rw[e,bA,<-dv,<-s6,<-Gg h,eP hk,se]
 have hs:k%32<32:=bI _ aC;have e2:(4294967296:Nat)=2^(k%32)*(2*2^(31-k%32)):=by
  rw[<-Nat.pow_succ',<-bA,(aA:k%32+(31-k%32).succ=32)]
 conv=>lhs;rw[e2,bE,eK _ _ (bD aC),bE,dX]
def YE{n k:Nat}(h:n≠0)(hk:k<kj n):n/2^k%2=0:=by
 obtain⟨m,hm,he⟩:=AE h;generalize kj n=c at *
 rw[he,(aA:c=k+(c-k)),bA,<-bE,fO,dN _ (bD aC),(aA:c-k=(c-k-1)+1),bT,<-bE,fj]
def YD{n:Nat}(h:n≠0):n/2^kj n%2=1:=FE h
def DW{L:List Nat}(h:iM L)(h0:val L≠0):kj (val L)/32<L.length:=by
 have h1:=Jn h0;have h2:=pq h;rw[s6]at h2;have h3:2^kj (val L)<2^(32*L.length):=du h1 h2;have:=(akx (aC:1<2)).1 h3;omega
end Go.Proofs.YtjkmahljfblobaaGreatDoor.Fp
namespace Go.Proofs.YtjkmahljfblobaaGreatDoor
open Go.RowKit Fp
structure Sl(w:World)(A:Option Addr)(c:Nat)(L:List Nat):Prop where
 cap:L.length<=c
 qV:c<=9223372036854775807
 ok:iM L
 xM:A=none->c=0
 cell:∀ (i x:Nat),L[i]? = some x->∃ b o,A=some ⟨b,o,none⟩/\b<w.heap.size/\w.cell? ⟨b,o+i,none⟩=some (.int .u32 (x:Int))
section
variable {w w':World} {A:Option Addr} {c:Nat} {L:List Nat}
def Sl.mr(h:Sl w A c L){i:Nat}(hi:i<L.length):∃ b o,A=some ⟨b,o,none⟩/\b<w.heap.size/\w.cell? ⟨b,o+i,none⟩=some (.int .u32 (L[i]:Int)):=
 h.cell i _ (bw hi)
def Sl.nil(w:World):Sl w none 0 []:=⟨bl _,aC,iM.nil,λ_=>rfl,λi x h=>by simp at h⟩
def Sl.below(h:Sl w A c L)(hb:Below w.heap.size w w'):Sl w' A c L:=
 ⟨h.cap,h.qV,h.ok,h.xM,λi x hx=>by
  obtain⟨b,o,e,h1,h2⟩:=h.cell i x hx;exact⟨b,o,e,bO h1 hb.size,(hb.cell h1).trans h2⟩⟩
def Sl.alloc(h:Sl w A c L)(o:Obj):Sl (w.alloc o) A c L:=h.below ((Below.refl _ _).alloc (bl _) _)
def Sl.drew(h:Sl w A c L):Sl w.drew A c L:=h.below ((Below.refl _ _).drew)
def Sl.take(h:Sl w A c L)(n:Nat):Sl w A c (L.take n):=
 ⟨by have:=h.cap;rw[cC];omega,h.qV,h.ok.take n,h.xM,λi x hx=>h.cell i x (by
  rw[dG]at hx;split at hx
  .exact hx
  .cases hx)⟩
def Sl.len(h:Sl w A c L):L.length<=9223372036854775807:=bK h.cap h.qV
def Sl.eqv{L':List Nat}(h:Sl w A c L)(e:L=L'):Sl w A c L':=e▸h
end
def DH(b o i:Nat):(⟨b,o,none⟩:Addr).add i=⟨b,o+i,none⟩:=by
 unfold Addr.add;split
 .rename_i h0;rw[h0];rfl
 .simp
abbrev iT(w w':World):Prop:=Below w.heap.size w w'
def iT.trans{a b c:World}(h:iT a b)(k:iT b c):iT a c:=Below.trans h (k.mono h.size)
def iT.alloc(w:World)(o:Obj):iT w (w.alloc o):=(Below.refl _ _).alloc (bl _) _
def iT.drew(w:World):iT w w.drew:=(Below.refl _ _).drew
def iT.refl(w:World):iT w w:=Below.refl _ _
def JB{A:Option Addr}{n m c:Nat}(h:n=m):Ending.returned (.slice A n c) = .returned (.slice A m c):=by rw[h]
def qF{k:IntKind}{a b:Int}(h:a=b):Ending.returned (.int k a) = .returned (.int k b):=by rw[h]
def Wg{a b:Bool}(h:a=b):Ending.returned (.bool a) = .returned (.bool b):=by rw[h]
def xd(w:World)(L:List Nat)(e:Ending)(w':World):Prop:=∃ A c,e = .returned (.slice A L.length c)/\Sl w' A c L/\iT w w'
def B4(w:World)(L:List Nat)(n:Int)(e:Ending)(w':World):Prop:=∃ A c,e = .returned (.tuple #[.slice A L.length c,.int .i64 n])/\Sl w' A c L/\iT w w'
def Tb(w:World):Prop:=TabAt 0 Lib.deBruijn32tab w
def Tb.below{w w':World}(h:Tb w)(hb:iT w w'):Tb w':=λj hj=>by
 have h1:=h j hj;rw[hb.cell (block_lt_of_cell h1)];exact h1
def Tb.alloc{w:World}(h:Tb w)(o:Obj):Tb (w.alloc o):=h.below (iT.alloc _ _)
def YC(x:Nat)(h:x<4294967296):Lib.bitLen x=iy x:=by
 induction x using Nat.strongRecOn with
 |_ x ih=>
  by_cases h0:x=0
  .subst h0;rfl
  .rw [Lib.bitLen_half x h0 aA,ih (x/2) aA aA];by_cases h1:x/2=0
   .have:x=1:= aA ;subst this;rfl
   .have e1:=s9 h1;have e2:=uK (x/2);have e3:=qf h1;generalize iy (x/2)=k at *
    obtain⟨j,rfl⟩:∃ j,k=j+1:=⟨k-1,aA⟩
    rw[ek]at e1;rw[fk];refine(yg ?_ ?_).symm
    .rw [bT];omega
    .rw [bT];omega
def ZB(x:Nat)(h0:x≠0)(h:x<4294967296):Lib.ctz 32 x=kj x:=by
 unfold Lib.ctz;rw[bh h0];obtain⟨m,hm,_⟩:=Lib.ctzFrom_spec 32 x aA h
 conv=>rhs;rw[hm,bM]
 exact(yj aA _).symm
def oq(L:List Nat):List Value:=L.map λ(n:Nat)=>Value.int .u32 (n:Int)
def ajt{L:List Nat}{j:Nat}{u:Value}(h:(oq L)[j]? = some u):∃ n,L[j]? = some n/\u = .int .u32 (n:Int):=by
 unfold oq at h;rw[cD]at h;obtain⟨n,hn,rfl⟩:=bQ.1 h;exact⟨n,hn,rfl⟩
def ajs(L M:List Nat):oq (L++M)=oq L++oq M:=gI
def aju(L:List Nat):∀ u ∈ oq L,u.oneCell'=true:=by
 intro u hu;obtain⟨n,_,rfl⟩:=cI.1 hu;rfl
structure Ow(w:World)(base:Nat)(v:Value)(L:List Nat):Prop where
 row:w.ownsRow base 95 1 v L.length (oq L)
 ok:iM L
def Ow.sl{w:World}{base:Nat}{v:Value}{L:List Nat}(h:Ow w base v L):∃ A c,v = .slice A L.length c/\Sl w A c L:=by
 have hr:=h.row;rcases hr.2 with⟨rfl,h0⟩|⟨g,cap,cur,rfl,hb,hg,oW,nM,oh,MB⟩
 .have:L=[]:=dn h0;subst this;exact⟨none,0,rfl,Sl.nil w⟩
 .refine ⟨_,_,rfl,oW,(by simpa[maxLen]using nM),h.ok,(λh=>by cases h),λi x hx=>⟨_,_,rfl,(cX.1 hg).1,?_⟩⟩;have h:=hr.cells (g:=g) rfl i (.int .u32 (x:Int)) (by unfold oq;rw[cD,hx];rfl);rw[DH]at h;exact h
def Ow.nil(w:World)(base:Nat):Ow w base (.slice none 0 0) []:=⟨World.ownsRow_nil w base _ _,iM.nil⟩
def Ow.alloc{w:World}{base:Nat}{v:Value}{L:List Nat}(h:Ow w base v L)(o:Obj):Ow (w.alloc o) base v L:=⟨h.row.alloc o,h.ok⟩
def Ow.empty(w:World)(base:Nat)(hb:base<=w.heap.size):Ow (w.alloc (.cells #[] 95)) base (.slice (some ⟨w.heap.size,0,none⟩) 0 0) []:=
 ⟨World.ownsRow_made w #[] 0 hb aC rfl,iM.nil⟩
def wM{w:World}{n:Nat}(h:n<=w.heap.size)(o:Obj):n<=(w.alloc o).heap.size:= aL 
def Sl.one(w:World)(x:Nat)(hx:x<4294967296):Sl (w.alloc (.cells #[.int .u32 x] 95)) (some ⟨w.heap.size,0,none⟩) 1 [x]:=
 ⟨bl _,aC,iM.cons hx iM.nil,(λh=>by cases h),λi y hy=>by
  obtain⟨h1,h2⟩:=ca.1 hy;obtain rfl:i=0:=by simp at h1;omega
  simp at h2;subst h2;refine⟨_,_,rfl,aF,?_⟩;exact World.cell?_alloc_at _ _ _ _ rfl⟩
def Sl.C2(w:World)(y:Int)(x:Nat)(e:y=(x:Int))(hx:x<4294967296):Sl (w.alloc (.cells #[.int .u32 y] 95)) (some ⟨w.heap.size,0,none⟩) 1 [x]:=by
 subst e;exact Sl.one w x hx
def MO:(prog.info? 95).map (λi=>(i.zero,i.size,i.bytes))=some (some (.int .u32 0),1,4):= aD 
def zn{gX:Array Oper}{rest:List Oper}{o:Oper}{a:Act}{Q:Exit->Act->World->Prop}{w:World}(AS:o.guard=none)(s x:Operand)
 (ho:o.op = .call { callee:=.builtin .append,args:=#[s,x],argTypes:=#[35,35] })
 (base:Nat) (v:Value) (L:List Nat) (hs:a.eval s=v) (lp:Ow w base v L)
 (A:Option Addr) (m c:Nat) (M:List Nat) (hx:a.eval x = .slice A m c) (hm:m=M.length) (hr:Sl w A c M)
 (mG:L.length+M.length<=10000000000) (acH:base<=w.heap.size)
 (h:∀ v' w',Ow w' base v' (L++M)->w.grownBy w' v.ownBlock->(v'.ownBlock=v.ownBlock\/v'.ownBlock=some w.heap.size)->wpList prog gX Q rest (a.put o.dst v') w'):
 wpList prog gX Q (o::rest) a w:=by
 obtain⟨i,hi,hz,h1,h2⟩:=info_parts MO;subst hm;rcases A with _|ad
 .have hc:=hr.xM rfl;subst hc;have hM:M=[]:=dn (by have:=hr.cap;omega);subst hM;refine wpList_append_own_none AS s x _ ho base _ i 1 underlying35 hi v _ _ hs lp.row hx ?_;have:=h v w (by rw[ep];exact lp) ⟨rfl,rfl,rfl,bl _,λ_ _ _=>rfl⟩ (.inl rfl);exact this
 .refine wpList_append_own_at w AS s x _ ho base _ i _ 1 4 underlying35 hi hz h1 h2 rfl aC v L.length (oq L) hs lp.row ad M.length c (oq M) hx (by simp[oq]) ?_ (aju M)
   (by simp only[maxLen];omega) aA acH ?_
  .intro j u hu;obtain⟨n,hn,rfl⟩:=ajt hu;obtain⟨b,o,e,_,hc⟩:=hr.cell j n hn;cases e;rw[DH];exact hc
  .intro v' w' ade hg _ sj;exact h v' w' ⟨by rw[bY,ajs];exact ade,lp.ok.append hr.ok⟩ hg sj
def Rw(w:World)(b:Nat)(L:List Nat):Prop:=w.heap[b]? = some (.cells (oq L).toArray 95 (0,0))
section
variable {w w':World} {b:Nat} {L:List Nat}
def Rw.lt(h:Rw w b L):b<w.heap.size:=(cX.1 h).1
def Rw.cell(h:Rw w b L){i x:Nat}(hx:L[i]? = some x):w.cell? ⟨b,i,none⟩=some (.int .u32 (x:Int)):=by
 unfold Rw at h;simp only[World.cell?,h];simp[oq,hx]
def Rw.frozen(h:Rw w b L)(i:Nat):w.frozen? ⟨b,i,none⟩=false:=by
 unfold Rw at h;simp[World.frozen?,h]
def Rw.set(h:Rw w b L)(i x:Nat):Rw (w.setCell ⟨b,i,none⟩ (.int .u32 (x:Int))) b (L.set i x):=by
 unfold Rw at h ⊢;simp only[World.setCell,cY,h];simp[oq,List.map_set]
def Rw.sl(h:Rw w b L)(hk:iM L)(hl:L.length<=10000000000):Sl w (some ⟨b,0,none⟩) L.length L:=
 ⟨bl _,aA,hk,(λh=>by cases h),λi x hx=>⟨_,_,rfl,h.lt,by
  rw[bX];exact h.cell hx⟩⟩
def Rw.Ac(w:World)(n:Nat):Rw (w.alloc (.cells (oq (List.replicate n 0)).toArray 95)) w.heap.size (List.replicate n 0):=heap_alloc_new w _
end
def XK(b i:Nat):(⟨b,0,none⟩:Addr).add i=⟨b,i,none⟩:=by
 unfold Addr.add;split
 .rename_i h0;rw[h0]
 .simp
def Fi(n:Nat)(hn:n<=10000000000)(w:World):
 (Instr.makeSlice 35 (.int .i64 (n:Int)) (.int .i64 (n:Int))).run prog w = .ok (.slice (some ⟨w.heap.size,0,none⟩) n n) (w.alloc (.cells (oq (List.replicate n 0)).toArray 95)):=by
 obtain⟨i,hi,hz,h1,h2⟩:=info_parts MO;have hr:=run_make (P:=prog) w 35 95 i _ underlying35 hi hz .i64 .i64 n n aA aA (by rw[h2];omega) aA;rw[hr,fR,h1,cv];refine congrArg (λcs=>Result.ok (Value.slice (some ⟨w.heap.size,0,none⟩) n n) (w.alloc (.cells cs 95))) ?_;apply Array.ext
 .simp [madeCells,oq]
 .intro i h1 h2;simp[madeCells,oq,Value.cells,dO]
def yb(w:World)(d:Dy)(e:Ending)(w':World):Prop:=
 ∃ A c,e = .returned (.agg #[.bool d.neg,.slice A (ia d.m).length c,.int .i64 d.e])/\Sl w' A c (ia d.m)/\iT w w'
def yc(w:World)(d:Dy)(n:Int)(e:Ending)(w':World):Prop:=
 ∃ A c,e = .returned (.tuple #[.agg #[.bool d.neg,.slice A (ia d.m).length c,.int .i64 d.e],.int .i64 n])/\Sl w' A c (ia d.m)/\iT w w'
def xY(w:World)(g:Nat):Prop:=∀ o x,w.cell? ⟨g,o,none⟩≠some (.int .u32 x)
def Sl.AN{w:World}{A:Option Addr}{c:Nat}{L:List Nat}(h:Sl w A c L){g i:Nat}(hg:xY w g)(u:Value):Sl (w.setCell ⟨g,i,none⟩ u) A c L:=
 ⟨h.cap,h.qV,h.ok,h.xM,λj x hx=>by
  obtain⟨b,o,e,h1,h2⟩:=h.cell j x hx;refine⟨b,o,e,by simpa[World.setCell]using h1,?_⟩;rw[World.cell?_setCell_other w _ _ u]
  .exact h2
  .intro e';simp only[Addr.mk.injEq]at e';exact hg (o+j) x (by rw[e'.1];exact h2)⟩
def xY.C0{w:World}{g:Nat}{cs:Array Value}{t:TypeId}{fr:Nat×Nat}(h:w.heap[g]? = some (.cells cs t fr))(hc:∀ (i:Nat) (x:Int),cs[i]? ≠ some (.int .u32 x)):xY w g:=λo x e=>by
 simp only[World.cell?,h]at e;simp at e;exact hc o x (by simpa using e)
def jF(w:World)(g:Nat)(s:Bool)(A:Option Addr)(n c:Nat)(e:Int):Prop:=w.heap[g]? = some (.cells #[.bool s,.slice A n c,.int .i64 e] 37 (0,0))
section
variable {w w':World} {g n c:Nat} {s:Bool} {A:Option Addr} {e:Int}
def jF.new(W:World)(s:Bool)(A:Option Addr)(n c:Nat)(e:Int):jF (W.alloc (.cells #[.bool s,.slice A n c,.int .i64 e] 37)) W.heap.size s A n c e:=heap_alloc_new W _
def jF.xL{W:World}{g:Nat}(hg:W.heap.size=g)(s:Bool)(A:Option Addr)(n c:Nat)(e:Int):jF (W.alloc (.cells #[.bool s,.slice A n c,.int .i64 e] 37)) g s A n c e:=hg▸heap_alloc_new W _
def jF.lt(h:jF w g s A n c e):g<w.heap.size:=(cX.1 h).1
def jF.ext(h:jF w g s A n c e)(hb:iT w w'):jF w' g s A n c e:=(hb.block g h.lt).trans h
def jF.alloc(h:jF w g s A n c e)(o:Obj):jF (w.alloc o) g s A n c e:=h.ext (iT.alloc _ _)
def jF.drew(h:jF w g s A n c e):jF w.drew g s A n c e:=h
def jF.mc(h:jF w g s A n c e):xY w g:=xY.C0 h (λi x=>by rcases i with _|_|_|i<;>simp)
def jF.c0(h:jF w g s A n c e):w.cell? ⟨g,0,none⟩=some (.bool s):=by unfold jF at h;simp[World.cell?,h]
def jF.c1(h:jF w g s A n c e):w.cell? ⟨g,1,none⟩=some (.slice A n c):=by unfold jF at h;simp[World.cell?,h]
def jF.c2(h:jF w g s A n c e):w.cell? ⟨g,2,none⟩=some (.int .i64 e):=by unfold jF at h;simp[World.cell?,h]
def jF.fr(h:jF w g s A n c e)(i:Nat):w.frozen? ⟨g,i,none⟩=false:=by unfold jF at h;simp[World.frozen?,h]
def jF.set(h:jF w g s A n c e)(s':Bool)(A':Option Addr)(n' c':Nat)(e':Int):
 jF (((w.setCell ⟨g,0,none⟩ (.bool s')).setCell ⟨g,1,none⟩ (.slice A' n' c')).setCell ⟨g,2,none⟩ (.int .i64 e')) g s' A' n' c' e':=by
 have h1:=heap_setCell_same w g 0 _ _ (.bool s') h;have h2:=heap_setCell_same _ g 1 _ _ (.slice A' n' c') h1;have h3:=heap_setCell_same _ g 2 _ _ (.int .i64 e') h2;exact h3
def jF.uY{L:List Nat}{A':Option Addr}{c':Nat}(h:jF w g s A n c e)(hs:Sl w A' c' L)(s':Bool)(e':Int)(n' c2:Nat)(A2:Option Addr):
 Sl (((w.setCell ⟨g,0,none⟩ (.bool s')).setCell ⟨g,1,none⟩ (.slice A2 n' c2)).setCell ⟨g,2,none⟩ (.int .i64 e')) A' c' L:=by
 have h1:=heap_setCell_same w g 0 _ _ (.bool s') h;have h2:=heap_setCell_same _ g 1 _ _ (.slice A2 n' c2) h1;have k1:xY (w.setCell ⟨g,0,none⟩ (.bool s')) g:=xY.C0 h1 (λi x=>by rcases i with _|_|_|i<;>simp);have k2:xY ((w.setCell ⟨g,0,none⟩ (.bool s')).setCell ⟨g,1,none⟩ (.slice A2 n' c2)) g:=xY.C0 h2 (λi x=>by rcases i with _|_|_|i<;>simp);exact((hs.AN h.mc _).AN k1 _).AN k2 _
def jF.tS{w0:World}(hb:iT w0 w)(hg:w0.heap.size<=g)(s':Bool)(A':Option Addr)(n' c':Nat)(e':Int):
 iT w0 (((w.setCell ⟨g,0,none⟩ (.bool s')).setCell ⟨g,1,none⟩ (.slice A' n' c')).setCell ⟨g,2,none⟩ (.int .i64 e')):=
 ((hb.setCell hg _).setCell hg _).setCell hg _
end
def QV:(prog.info? 37).map (·.size)=some 3:= aD 
def ahH{fn:Func}{p:Tmp}(h:fn.results = #[.cell p 37])(tmps:Array Value){w:World}{g n c:Nat}{s:Bool}{A:Option Addr}{e:Int}
 (hp:tmps.getD p undef = .pointer (some ⟨g,0,none⟩)) (hb:jF w g s A n c e):
 (results fn tmps).run prog w = .ok (.agg #[.bool s,.slice A n c,.int .i64 e]) w:=
 results_cell_row h tmps w g _ _ _ _ hp hb underlying37 rfl QV
def ahI{fn:Func}{p t:Tmp}(h:fn.results = #[.cell p 37,.tmp t])(tmps:Array Value){w:World}{g n c:Nat}{s:Bool}{A:Option Addr}{e:Int}
 (hp:tmps.getD p undef = .pointer (some ⟨g,0,none⟩)) (hb:jF w g s A n c e):
 (results fn tmps).run prog w = .ok (.tuple #[.agg #[.bool s,.slice A n c,.int .i64 e],tmps.getD t undef]) w:=by
 have zQ:tmps[p]?.getD undef = .pointer (some ⟨g,0,none⟩):=by simpa using hp
 simp[results,h,zQ,asAddr,run_loadVar_row w g _ _ _ _ _ hb underlying37 rfl QV]
def yl{fn:Func}{p:Tmp}(h:fn.results = #[.cell p 37]){a:Act}{w W:World}{d:Dy}{g:Nat}{A:Option Addr}{c n:Nat}
 (hp:a.tmps.getD p undef = .pointer (some ⟨g,0,none⟩)) (hd:a.defers=[]) (hb:jF W g d.neg A n c d.e) (hn:n=(ia d.m).length) (hs:Sl W A c (ia d.m)) (he:iT w W):
 bodyPost prog fn (yb w d) .ret a W:=by
 subst hn;exact bodyPost_ret (ahH h _ hp hb) hd ⟨A,c,rfl,hs,he⟩
def Ce{fn:Func}{p t:Tmp}(h:fn.results = #[.cell p 37,.tmp t]){a:Act}{w W:World}{d:Dy}{k:Int}{g:Nat}{A:Option Addr}{c n:Nat}
 (hp:a.tmps.getD p undef = .pointer (some ⟨g,0,none⟩)) (ht:a.tmps.getD t undef = .int .i64 k) (hd:a.defers=[]) (hb:jF W g d.neg A n c d.e) (hn:n=(ia d.m).length) (hs:Sl W A c (ia d.m)) (he:iT w W):
 bodyPost prog fn (yc w d k) .ret a W:=by
 subst hn;exact bodyPost_ret ((ahI h _ hp hb).trans (by rw[ht])) hd ⟨A,c,rfl,hs,he⟩
open Go.ChangeShapes Go.WideShapes Go.ChangeAt
def own:ownKnob prog.godebug=none:= aD 
def M4:laidOutB prog=true:= aD 
def RJ:prog.globalNamed "math/bits.deBruijn32tab" = some 0:= aD 
def abN:(prog.globals[0]?).map (·.type)=some 244:= aD 
def Zd:prog.cellsOf 244=32:= aD 
def Zc:prog.cellsOf 5=1:= aD 
def aje {l:List (String×DataW Unit)} (hl:l=[("math/bits.deBruijn32tab", Rows.laid_math_bits_deBruijn32tab)]) {W:World} (h:laidMet prog l W):Tb W:=by
 subst hl;have ht:Lib.TabIs prog W "math/bits.deBruijn32tab" .u8 (Lib.deBruijn32tab.map λ(n:Nat)=>(n:Int)):=
  Lib.tabIs_of_head (rest:=[]) RJ abN underlying244 underlying5 Zc Zd h
 intro j hj;have:=ht.cell RJ j (by simpa using hj);rw[this];simp[bk];rw[bw hj];simp
noncomputable def M5(os:Os)(args:Array Value):World:=
 {World.holding prog os ⟨#[],args,[]⟩with heap:=(World.holding prog os ⟨#[],args,[]⟩).heap.modify 0 fun
   | .cells _ t frozen=>.cells (Lib.deBruijn32tab.map λ(n:Nat)=>Value.int .u8 (n:Int)).toArray t frozen
   |o=>o }
end Go.Proofs.YtjkmahljfblobaaGreatDoor
namespace Go.Proofs.YtjkmahljfblobaaGreatDoor.Pu
open Go.RowKit
inductive E where
 |any
 |v (x:Value)
 |agg (l:List E)
 |ik (l:List E)
 |sl (nl:Bool) (n sz:Nat) (el:Nat->Nat->E)
 |jD (m:Nat) (el:Nat->E)
 |fn (f:FuncId) (cap:List E)
 |mp (l:List (Int×FuncId×List FuncId))
 |kY (fl nl:Bool) (n sz:Nat) (el:Nat->Nat->E)
def pO:Value->Bool
 | .int .u32 _=>true
 |_=>false
def E.nr:Nat->E->Bool
 |_,.any=>true
 |_,.v _=>true
 |_,.sl ..=>true
 |_,.mp _=>true
 |d+1,.agg l=>l.all (E.nr d)
 |d+1,.ik l=>l.all (E.nr d)
 |d+1,.fn _ l=>l.all (E.nr d)
 |_,_=>false
def At(bs:Nat->Prop)(w:World):List (Int×FuncId×List FuncId)->List MapEntry->Prop
 | [],[]=>True
 |x::l,e::es=>(e.key = .int .i64 x.1/\∃ vs:List Value,e.val = .func (.func x.2.1) #[] vs.toArray/\vs.length=x.2.2.length /\
  ∀ (i:Nat) (g:FuncId) (v:Value),x.2.2[i]? = some g->vs[i]? = some v->∃ b,v = .pointer (some ⟨b,0,none⟩)/\¬bs b/\b<w.heap.size/\w.cell? ⟨b,0,none⟩=some (.func (.func g) #[] #[]))/\At bs w l es
 |_,_=>False
def At.mono{bs bs':Nat->Prop}{w w':World}(mG:w.heap.size<=w'.heap.size)(h1:∀ b,b<w.heap.size->bs' b->bs b)(hc:∀ b,b<w.heap.size->¬bs b->w'.heap[b]? = w.heap[b]?):
 ∀ {l:List (Int×FuncId×List FuncId)} {es:List MapEntry},At bs w l es->At bs' w' l es
 | [],[],_=>trivial
 | [],_::_,h=>h
 |_::_,[],h=>h
 |_::_,_::_,⟨⟨k1,vs,k2,k3,k4⟩,h⟩=>⟨⟨k1,vs,k2,k3,λi g v hg hv=>by
  obtain⟨b,q1,q2,q3,q4⟩:=k4 i g v hg hv;exact⟨b,q1,λx=>q2 (h1 b q3 x),bO q3 mG,by rw[World.cell?_of_block (w:=w) (hc b q3 q2)];exact q4⟩⟩,At.mono mG h1 hc h⟩
inductive iC(bs br:Nat->Prop)(w:World):E->Value->Prop
 |any (x:Value):iC bs br w .any x
 |v (x:Value):iC bs br w (.v x) x
 |agg (l:List E) (vs:List Value) (h:vs.length=l.length) (k:∀ (i:Nat) (p:E) (x:Value),l[i]? = some p->vs[i]? = some x->iC bs br w p x):iC bs br w (.agg l) (.agg vs.toArray)
 |ik (l:List E) (vs:List Value) (h:vs.length=l.length) (k:∀ (i:Nat) (p:E) (x:Value),l[i]? = some p->vs[i]? = some x->iC bs br w p x):iC bs br w (.ik l) (.tuple vs.toArray)
 |sl (nl:Bool) (n sz:Nat) (el:Nat->Nat->E) (A:Option Addr) (c:Nat) (f:Nat->Nat->Value) (hc:n<=c) (hm:c<=9223372036854775807) (h0:A=none->c=0)
  (hl:∀ i j,i<n->j<sz->(f i j).oneCell'=true/\(nl=true->pO (f i j)=false))
  (hr:∀ i j,i<n->j<sz->(el i j).nr 2=true)
  (cell:∀ i j,i<n->j<sz->∃ b o,A=some ⟨b,o,none⟩/\¬bs b/\b<w.heap.size/\w.cell? ⟨b,o+(i*sz+j),none⟩=some (f i j))
  (k:∀ i j,i<n->j<sz->iC bs br w (el i j) (f i j)):iC bs br w (.sl nl n sz el) (.slice A n c)
 |jD (m:Nat) (el:Nat->E) (b o:Nat) (f:Nat->Value) (hb:¬br b) (iJ:b<w.heap.size) (hl:∀ j,j<m->(f j).oneCell'=true)
  (cell:∀ j,j<m->w.cell? ⟨b,o+j,none⟩=some (f j))
  (k:∀ j,j<m->iC bs br w (el j) (f j)):iC bs br w (.jD m el) (.pointer (some ⟨b,o,none⟩))
 |fn (f:FuncId) (l:List E) (vs:List Value) (h:vs.length=l.length) (k:∀ (i:Nat) (p:E) (x:Value),l[i]? = some p->vs[i]? = some x->iC bs br w p x):iC bs br w (.fn f l) (.func (.func f) #[] vs.toArray)
 |mp (l:List (Int×FuncId×List FuncId)) (b clk:Nat) (es:Array MapEntry) (hb:¬bs b) (iJ:b<w.heap.size) (hh:w.heap[b]? = some (.map es clk)) (ho:At bs w l es.toList):iC bs br w (.mp l) (.map (some b))
 |kY (fl nl:Bool) (n sz:Nat) (el:Nat->Nat->E) (A:Option Addr) (c:Nat) (f:Nat->Nat->Value) (hc:n<=c) (hm:c<=9223372036854775807) (h0:A=none->c=0)
  (hl:∀ i j,i<n->j<sz->(f i j).oneCell'=true/\(nl=true->pO (f i j)=false))
  (hr:fl=true->∀ i j,i<n->j<sz->(el i j).nr 2=true)
  (cell:∀ i j,i<n->j<sz->∃ b o,A=some ⟨b,o,none⟩/\¬br b/\b<w.heap.size/\w.cell? ⟨b,o+(i*sz+j),none⟩=some (f i j))
  (k:∀ i j,i<n->j<sz->iC bs br w (el i j) (f i j)):iC bs br w (.kY fl nl n sz el) (.slice A n c)
def iC.mono{bs br bs' br':Nat->Prop}{w w':World}(mG:w.heap.size<=w'.heap.size)
 (h1:∀ b,b<w.heap.size->bs' b->bs b) (h2:∀ b,b<w.heap.size->br' b->br b)
 (hc:∀ b,b<w.heap.size->(¬bs b\/¬br b)->w'.heap[b]? = w.heap[b]?)
 {e:E} {v:Value} (h:iC bs br w e v):iC bs' br' w' e v:=by
 induction h with
 |any x=>exact .any x
 |v x=>exact .v x
 |agg l vs h k ih=>exact .agg l vs h ih
 |ik l vs h k ih=>exact .ik l vs h ih
 |sl nl n sz el A c f hn hm h0 hl hr cell k ih=>
  refine .sl nl n sz el A c f hn hm h0 hl hr (λi j hi hj=>?_) ih;obtain⟨b,o,e,hb,iJ,ku⟩:=cell i j hi hj;exact⟨b,o,e,λhx=>hb (h1 b iJ hx),bO iJ mG,by rw[World.cell?_of_block (w:=w) (hc b iJ (.inl hb))];exact ku⟩
 |jD m el b o f hb iJ hl cell k ih=>
  exact .jD m el b o f (λhx=>hb (h2 b iJ hx)) (bO iJ mG) hl (λj hj=>by rw[World.cell?_of_block (w:=w) (hc b iJ (.inr hb))];exact cell j hj) ih
 |fn f l vs h k ih=>exact .fn f l vs h ih
 |mp l b clk es hb iJ hh ho=>exact .mp l b clk es (λx=>hb (h1 b iJ x)) (bO iJ mG) (by rw[hc b iJ (.inl hb)];exact hh) (ho.mono mG h1 λb iJ hb=>hc b iJ (.inl hb))
 |kY fl nl n sz el A c f hn hm h0 hl hr cell k ih=>
  refine .kY fl nl n sz el A c f hn hm h0 hl hr (λi j hi hj=>?_) ih;obtain⟨b,o,e,hb,iJ,ku⟩:=cell i j hi hj;exact⟨b,o,e,λhx=>hb (h2 b iJ hx),bO iJ mG,by rw[World.cell?_of_block (w:=w) (hc b iJ (.inr hb))];exact ku⟩
def iC.mX{bs br bs' br':Nat->Prop}{w:World}(h1:∀ b,bs' b->bs b)(h2:∀ b,br' b->br b){e:E}{v:Value}(h:iC bs br w e v):iC bs' br' w e v:=
 h.mono (bl _) (λb _=>h1 b) (λb _=>h2 b) (λ_ _ _=>rfl)
def E.plain:Nat->E->Bool
 |_,.any=>true
 |_,.v _=>true
 |d+1,.agg l=>l.all (E.plain d)
 |d+1,.ik l=>l.all (E.plain d)
 |_,_=>false
def iC.plain{bs br bs' br':Nat->Prop}{w w':World}{e:E}{v:Value}(h:iC bs br w e v):∀ d,e.plain d=true->iC bs' br' w' e v:=by
 induction h with
 |any x=>exact λ_ _=>.any x
 |v x=>exact λ_ _=>.v x
 |agg l vs h k ih=>
  intro d hd;cases d with
  |zero=>simp[E.plain]at hd
  |succ d=>
   simp only[E.plain,bG]at hd;exact .agg l vs h λi p x hp hx=>ih i p x hp hx d (hd p (dw hp))
 |ik l vs h k ih=>
  intro d hd;cases d with
  |zero=>simp[E.plain]at hd
  |succ d=>
   simp only[E.plain,bG]at hd;exact .ik l vs h λi p x hp hx=>ih i p x hp hx d (hd p (dw hp))
 |sl=>intro d hd;cases d<;>simp[E.plain]at hd
 |jD=>intro d hd;cases d<;>simp[E.plain]at hd
 |fn=>intro d hd;cases d<;>simp[E.plain]at hd
 |mp=>intro d hd;cases d<;>simp[E.plain]at hd
 |kY=>intro d hd;cases d<;>simp[E.plain]at hd
def iC.nr{bs br br':Nat->Prop}{w:World}{e:E}{v:Value}(h:iC bs br w e v):∀ d,e.nr d=true->iC bs br' w e v:=by
 induction h with
 |any x=>exact λ_ _=>.any x
 |v x=>exact λ_ _=>.v x
 |agg l vs h k ih=>
  intro d hd;cases d with
  |zero=>simp[E.nr]at hd
  |succ d=>
   simp only[E.nr,bG]at hd;exact .agg l vs h λi p x hp hx=>ih i p x hp hx d (hd p (dw hp))
 |ik l vs h k ih=>
  intro d hd;cases d with
  |zero=>simp[E.nr]at hd
  |succ d=>
   simp only[E.nr,bG]at hd;exact .ik l vs h λi p x hp hx=>ih i p x hp hx d (hd p (dw hp))
 |fn f l vs h k ih=>
  intro d hd;cases d with
  |zero=>simp[E.nr]at hd
  |succ d=>
   simp only[E.nr,bG]at hd;exact .fn f l vs h λi p x hp hx=>ih i p x hp hx d (hd p (dw hp))
 |jD=>intro d hd;cases d<;>simp[E.nr]at hd
 |kY=>intro d hd;cases d<;>simp[E.nr]at hd
 |mp l b clk es hb iJ hh ho=>exact λ_ _=>.mp l b clk es hb iJ hh ho
 |sl nl n sz el A c f hn hm h0 hl hr cell k ih=>
  exact λ_ _=>.sl nl n sz el A c f hn hm h0 hl hr cell λi j hi hj=>ih i j hi hj 2 (hr i j hi hj)
def E.one:E->Bool
 | .v x=>x.oneCell'
 | .sl ..=>true
 | .jD ..=>true
 | .fn ..=>true
 |_=>false
def E.mc:E->Bool
 | .v x=>!pO x
 | .sl ..=>true
 | .jD ..=>true
 | .fn ..=>true
 |_=>false
def iC.one{bs br:Nat->Prop}{w:World}{e:E}{v:Value}(h:iC bs br w e v)(h1:e.one=true):v.oneCell'=true:=by
 cases h<;>first|exact h1|rfl|(simp[E.one]at h1)
def iC.mc{bs br:Nat->Prop}{w:World}{e:E}{v:Value}(h:iC bs br w e v)(h1:e.mc=true):pO v=false:=by
 cases h with
 |v=>unfold E.mc at h1;cases hb:pO v<;>simp_all
 |any=>cases h1
 |agg=>cases h1
 |ik=>cases h1
 |sl=>rfl
 |jD=>rfl
 |fn=>rfl
 |mp=>cases h1
 |kY=>cases h1
structure jZ(bs br:Nat->Prop)(w:World)(l:List E)(vs:List Value):Prop where
 len:vs.length=l.length
 ko:∀ (i:Nat) (p:E) (x:Value),l[i]? = some p->vs[i]? = some x->iC bs br w p x
def jZ.nil(bs br:Nat->Prop)(w:World):jZ bs br w [] []:=⟨rfl,λi p x h=>by simp at h⟩
def jZ.cons{bs br:Nat->Prop}{w:World}{p:E}{x:Value}{l:List E}{vs:List Value}(h:iC bs br w p x)(k:jZ bs br w l vs):jZ bs br w (p::l) (x::vs):=
 ⟨by simp[k.len],λi q y hq hy=>by
  cases i with
  |zero=>simp at hq hy;subst hq hy;exact h
  |succ i=>simp at hq hy;exact k.ko i q y hq hy⟩
def jZ.head{bs br:Nat->Prop}{w:World}{p:E}{x:Value}{l:List E}{vs:List Value}(h:jZ bs br w (p::l) (x::vs)):iC bs br w p x:=h.ko 0 p x rfl rfl
def jZ.tail{bs br:Nat->Prop}{w:World}{p:E}{x:Value}{l:List E}{vs:List Value}(h:jZ bs br w (p::l) (x::vs)):jZ bs br w l vs:=
 ⟨by have:=h.len;simpa using this,λi q y hq hy=>h.ko (i+1) q y (by simpa using hq) (by simpa using hy)⟩
def jZ.mW{bs br:Nat->Prop}{w:World}{p:E}{l:List E}{vs:List Value}(h:jZ bs br w (p::l) vs):∃ x ys,vs=x::ys/\iC bs br w p x/\jZ bs br w l ys:=by
 cases vs with
 |nil=>have:=h.len;simp at this
 |cons x ys=>exact⟨x,ys,rfl,h.head,h.tail⟩
def jZ.qY{bs br:Nat->Prop}{w:World}{vs:List Value}(h:jZ bs br w [] vs):vs=[]:=dn h.len
def jZ.mono{bs br bs' br':Nat->Prop}{w w':World}{l:List E}{vs:List Value}(h:jZ bs br w l vs)(k:∀ e v,iC bs br w e v->iC bs' br' w' e v):jZ bs' br' w' l vs:=
 ⟨h.len,λi p x hp hx=>k _ _ (h.ko i p x hp hx)⟩
def jZ.take{bs br:Nat->Prop}{w:World}{l:List E}{vs:List Value}(h:jZ bs br w l vs)(n:Nat):jZ bs br w (l.take n) (vs.take n):=
 ⟨by simp[h.len],λi p x hp hx=>by
  rw[dG]at hp hx;split at hp
  .rename_i hi;rw[bj hi]at hx;exact h.ko i p x hp hx
  .cases hp⟩
def jZ.drop{bs br:Nat->Prop}{w:World}{l:List E}{vs:List Value}(h:jZ bs br w l vs)(n:Nat):jZ bs br w (l.drop n) (vs.drop n):=
 ⟨by simp[h.len],λi p x hp hx=>by
  rw[dp]at hp hx;exact h.ko _ p x hp hx⟩
def jZ.app{bs br:Nat->Prop}{w:World}{l m:List E}{vs us:List Value}(h:jZ bs br w l vs)(k:jZ bs br w m us):jZ bs br w (l++m) (vs++us):=
 ⟨by simp[h.len,k.len],λi p x hp hx=>by
  rw[dY]at hp hx;rw[h.len]at hx;split at hp
  .rename_i hi;rw[bj hi]at hx;exact h.ko i p x hp hx
  .rename_i hi;rw[bh hi]at hx;exact k.ko _ p x hp hx⟩
def jZ.Zv(bs br:Nat->Prop)(w:World)(vs:List Value):jZ bs br w (vs.map .v) vs:=
 ⟨aF,λi p x hp hx=>by
  rw[cD,hx]at hp;simp at hp;subst hp;exact .v x⟩
def iC.DI{bs br:Nat->Prop}{w:World}{l:List E}{v:Value}(h:iC bs br w (.agg l) v):∃ vs:List Value,v = .agg vs.toArray/\jZ bs br w l vs:=by
 cases h with
 |agg _ vs h k=>exact⟨vs,rfl,h,k⟩
def iC.Xg{bs br:Nat->Prop}{w:World}{l:List E}{v:Value}(h:iC bs br w (.ik l) v):∃ vs:List Value,v = .tuple vs.toArray/\jZ bs br w l vs:=by
 cases h with
 |ik _ vs h k=>exact⟨vs,rfl,h,k⟩
def iC.kD{bs br:Nat->Prop}{w:World}{x v:Value}(h:iC bs br w (.v x) v):v=x:=by cases h;rfl
def iC.LA{bs br:Nat->Prop}{w:World}{f:FuncId}{l:List E}{v:Value}(h:iC bs br w (.fn f l) v):∃ vs:List Value,v = .func (.func f) #[] vs.toArray/\jZ bs br w l vs:=by
 cases h with
 |fn _ _ vs h k=>exact⟨vs,rfl,h,k⟩
def jZ.agg{bs br:Nat->Prop}{w:World}{l:List E}{vs:List Value}(h:jZ bs br w l vs):iC bs br w (.agg l) (.agg vs.toArray):=.agg l vs h.len h.ko
def jZ.ik{bs br:Nat->Prop}{w:World}{l:List E}{vs:List Value}(h:jZ bs br w l vs):iC bs br w (.ik l) (.tuple vs.toArray):=.ik l vs h.len h.ko
def E.cells?:E->Option (List E)
 | .agg l=>if l.all E.one then some l else none
 | .v (.agg cs)=>if cs.toList.all Value.oneCell' then some (cs.toList.map .v)else none
 | .v x=>if x.oneCell' then some [.v x]else none
 | .sl nl n sz el=>some [.sl nl n sz el]
 | .jD m el=>some [.jD m el]
 | .fn f c=>some [.fn f c]
 |_=>none
def iC.cells{bs br:Nat->Prop}{w:World}{e:E}{v:Value}(h:iC bs br w e v){l:List E}(hl:e.cells? = some l):
 jZ bs br w l v.cells.toList/\∀ u ∈ v.cells.toList,u.oneCell'=true:=by
 have single:∀ {e:E} {v:Value},iC bs br w e v->v.oneCell'=true->v.cells = #[v]->jZ bs br w [e] v.cells.toList/\∀ u ∈ v.cells.toList,u.oneCell'=true:=by
  intro e v h h1 hc;rw[hc];exact⟨.cons h (.nil _ _ _),by simpa using h1⟩
 cases h with
 |any x=>simp[E.cells?]at hl
 |v=>
  by_cases ha:∃ cs,v = .agg cs
  .obtain ⟨cs,rfl⟩:=ha;simp only[E.cells?]at hl;split at hl
   .rename_i h1;cases hl;exact⟨jZ.Zv _ _ _ _,λu hu=>bG.1 h1 u hu⟩
   .cases hl
  .have hx:(E.v v).cells? = if v.oneCell' then some [.v v]else none:=by
    cases v<;>first|rfl|exact absurd ⟨_,rfl⟩ ha
   rw[hx]at hl;split at hl
   .rename_i h1;cases hl;exact single (.v v) h1 (by cases v<;>first|rfl|exact absurd ⟨_,rfl⟩ ha)
   .cases hl
 |agg l vs h k=>
  simp only[E.cells?]at hl;split at hl
  .rename_i h1;cases hl;refine⟨⟨h,k⟩,?_⟩;intro u hu;obtain⟨i,hi⟩:=dh.1 hu;have AV:i<l.length:=by
    obtain⟨hi,_⟩:=ca.1 hi;simp[Value.cells]at hi;omega
   exact(k i _ u (bw AV) (by simpa[Value.cells]using hi)).one (bG.1 h1 _ (cz AV))
  .cases hl
 |ik=>simp[E.cells?]at hl
 |mp=>simp[E.cells?]at hl
 |kY=>simp[E.cells?]at hl
 |sl nl n sz el A c f hc hm h0 pz hr cell k=>simp only[E.cells?]at hl;cases hl;exact single (.sl nl n sz el A c f hc hm h0 pz hr cell k) rfl rfl
 |jD m el b o f hb iJ pz cell k=>simp only[E.cells?]at hl;cases hl;exact single (.jD m el b o f hb iJ pz cell k) rfl rfl
 |fn f l' vs h k=>simp only[E.cells?]at hl;cases hl;exact single (.fn f l' vs h k) rfl rfl
structure TI where
 id:TypeId
 d:TypeDesc
 i:TypeInfo
def lE(P:Program)(T:List TI):Prop:=∀ x,x ∈ T->P.underlying x.id=some x.d/\P.info? x.id=some x.i
def lJ:List TI->TypeId->Option TI
 | [],_=>none
 |x::l,t=>if Nat.beq x.id t then some x else lJ l t
def wj(T:List TI)(t:TypeId):Option TypeDesc:=match lJ T t with
 |some x=>some x.d
 |none=>none
def TI.isAgg(x:TI):Bool:=match x.d with
 | .struct _ | .array _ _=>true
 |_=>false
inductive CV where
 |e (x:E)
 |box (id:Nat)
 |row (id:Nat)
inductive PV where
 |e (x:E)
 |box (id off:Nat)
 |own (id:Nat)
 |ny (id sz i j:Nat)
 |iB (id k:Nat)
 |qo (id sz k i j:Nat)
 |qh (f:FuncId) (cap:List CV)
def CV.kK:CV->List Nat
 | .e _=>[]
 | .box id=>[id]
 | .row id=>[id]
def PV.kK:PV->List Nat
 | .e _=>[]
 | .box id _ | .own id | .ny id _ _ _ | .iB id _ | .qo id _ _ _ _=>[id]
 | .qh _ cap=>cap.flatMap CV.kK
inductive Bx where
 |cells (T:TypeId) (l:List E)
 |row (nl:Bool) (T:TypeId) (n sz:Nat) (el:Nat->Nat->E)
 |il (nl:Bool) (T1 T0:TypeId) (n sz:Nat) (len:Nat->Nat) (el:Nat->Nat->Nat->E) (pend:Option Nat)
 |pj (nl:Bool) (T:TypeId) (l:List PV)
 |xT (nl:Bool) (T1 T0:TypeId) (n sz:Nat) (len:Nat->Nat) (el:Nat->Nat->Nat->E) (c r:Nat)
 |mS (T:TypeId) (b:Nat) (l:List E)
def Bx.Jp:Bx->List PV
 | .pj _ _ l=>l
 |_=>[]
def Bx.kK(b:Bx):List Nat:=b.Jp.flatMap PV.kK
def Bx.qE(g:PV->PV):Bx->Bx
 | .pj nl T l=>.pj nl T (l.map g)
 |b=>b
def Bx.nl:Bx->Bool
 | .cells _ l=>l.all E.mc
 | .row nl ..=>nl
 | .il nl ..=>nl
 | .pj nl ..=>nl
 | .xT nl ..=>nl
 | .mS _ _ l=>l.all E.mc
structure PS where
 n:Nat
 nl:Bool
 t:List (Nat×PV)
 b:List (Nat×Bx)
def look{α:Type}:List (Nat×α)->Nat->Option α
 | [],_=>none
 | (k,x)::l,t=>if Nat.beq k t then some x else look l t
def PS.get(σ:PS)(t:Nat):PV:=(look σ.t t).getD (.e .any)
def PS.bo(σ:PS)(id:Nat):Option Bx:=look σ.b id
def PS.op(σ:PS):Operand->PV
 | .tmp t=>σ.get t
 | .const v=>.e (.v v)
 | .global g=>.e (.v (.pointer (some ⟨g,0,none⟩)))
 | .func f=>.e (.fn f [])
inductive lQ where
 |none
 |new (id:Nat) (b:Bx)
 |ot (id:Nat) (b:Bx)
 |ou (id:Nat) (b:Bx)
 |rG (id:Nat) (b:Bx)
 |fin (id:Nat)
 |om (id r:Nat) (b:Bx)
 |vQ (id:Nat) (b:Bx)
structure kq where
 r:PV
 f:lQ:=.none
 rb:List Nat:=[]
 ju:List Prop:=[]
 rd:List PV:=[]
 hb:Bool:=false
 ob:List Nat:=[]
def CV.EV(id:Nat):CV->Bool
 | .row i=>Nat.beq i id
 |_=>false
def PV.kN:lQ->PV->PV
 | .ou id _,.own i=>if Nat.beq i id then .e .any else .own i
 | .ou id _,.ny i s x j=>if Nat.beq i id then .e .any else .ny i s x j
 | .ou id _,.qh f cap=>if cap.any (CV.EV id)then .e .any else .qh f cap
 | .rG id _,.iB i k=>if Nat.beq i id then .e .any else .iB i k
 | .rG id _,.qo i s k x j=>if Nat.beq i id then .e .any else .qo i s k x j
 | .fin id,p=>if p.kK.any (Nat.beq id)then .e .any else p
 | .vQ id _,p=>if p.kK.any (Nat.beq id)then .e .any else p
 | .om id r _,.box i off=>if Nat.beq i id then(if Nat.beq off 0 then .ny id 1 0 0 else .e .any)else if Nat.beq i r then .e .any else .box i off
 | .om id r _,p=>if p.kK.any (λx=>Nat.beq id x||Nat.beq r x)then .e .any else p
 |_,p=>p
def s8(l:List (Nat×Bx))(id:Nat)(b:Bx):List (Nat×Bx):=(id,b)::l.filter λx=>!Nat.beq x.1 id
def lQ.KM:lQ->List (Nat×Bx)->List (Nat×Bx)
 | .none,l=>l
 | .new id b,l | .ot id b,l | .ou id b,l | .rG id b,l | .vQ id b,l=>s8 l id b
 | .fin id,l=>l.filter λx=>!Nat.beq x.1 id
 | .om id r b,l=>s8 (l.filter λx=>!Nat.beq x.1 r) id b
def lQ.vc:lQ->Bool
 | .ou .. | .rG .. | .fin .. | .om .. | .vQ ..=>true
 |_=>false
def PS.pre(σ:PS)(f:lQ):List (Nat×Bx):=if f.vc then σ.b.map λx=>(x.1,x.2.qE (PV.kN f))else σ.b
def PS.np(σ:PS)(f:lQ):PS:={ σ with t:=if f.vc then σ.t.map λx=>(x.1,x.2.kN f)else σ.t,b:=f.KM (σ.pre f) }
def PS.put(σ:PS)(d:Option Tmp)(p:PV):PS:=match d with
 |some d=>{ σ with t:=(d,p)::σ.t.filter λx=>!Nat.beq x.1 d }
 |none=>σ
def kQ:IntKind->Int->Prop
 | .i8,z=>-128<=z/\z<=127
 | .i16,z=>-32768<=z/\z<=32767
 | .i32,z=>-2147483648<=z/\z<=2147483647
 | .i64,z=>-9223372036854775808<=z/\z<=9223372036854775807
 | .u8,z=>0<=z/\z<=255
 | .u16,z=>0<=z/\z<=65535
 | .u32,z=>0<=z/\z<=4294967295
 | .u64,z=>0<=z/\z<=18446744073709551615
def Ww(op:BinOp)(k k':IntKind):Bool:=match op with
 | .shl=>true
 | .shr=>true
 |_=>decide (k=k')
def Kz(k:IntKind)(x y:Int):Int:=match k with
 | .u32=>IntKind.u32.wrap (x+y)
 |_=>x+y
def qy(k:IntKind)(x y:Int):List Prop:=match k with
 | .u32=>[]
 |_=>[kQ k (x+y)]
def Lj(op:BinOp)(k:IntKind)(x:Int)(y:Int):Option (Value×List Prop):=match op with
 | .add=>some (.int k (Kz k x y),qy k x y)
 | .sub=>some (.int k (x-y),[kQ k (x-y)])
 | .mul=>some (.int k (x*y),[kQ k (x*y)])
 | .quo=>some (.int k (x.tdiv y),[0<y,kQ k x])
 | .rem=>some (.int k (x.tmod y),[0<y])
 | .and=>some (.int k (bits .and k x y),[])
 | .or=>some (.int k (bits .or k x y),[])
 | .shl=>some (.int k (k.wrap (x*2^y.toNat)),[0<=y/\y<=k.bits])
 | .shr=>some (.int k (x/2^y.toNat),[0<=y/\y<=k.bits])
 | .eql=>some (.bool (x==y),[])
 | .neq=>some (.bool (x != y),[])
 | .lss=>some (.bool (decide (x<y)),[])
 | .leq=>some (.bool (decide (x<=y)),[])
 | .gtr=>some (.bool (decide (y<x)),[])
 | .geq=>some (.bool (decide (y<=x)),[])
 |_=>none
def Jo:List PV->Option (List E)
 | []=>some []
 | .e x::l=>(Jo l).map (x :: ·)
 |_::_=>none
def PS.read(σ:PS)(p:PV)(m:Nat):Option (List E×List Nat×List Prop):=match p with
 | .box id off=>match σ.bo id with
  |some (.cells _ l)=>if Nat.ble (off+m) l.length then some ((l.drop off).take m,[id],[])else none
  |some (.pj _ _ l)=>if Nat.ble (off+m) l.length then(Jo ((l.drop off).take m)).map λes=>(es,[id],[])else none
  |some (.mS _ _ l)=>if Nat.ble (off+m) l.length then some ((l.drop off).take m,[id],[])else none
  |_=>none
 | .ny id sz i j=>match σ.bo id with
  |some (.row _ _ n s el)=>if Nat.beq s sz&&Nat.ble (j+m) sz then some ((List.range m).map λq=>el i (j+q),[id],[i<n])else none
  |_=>none
 | .qo id sz k i j=>match σ.bo id with
  |some (.il _ _ _ n s len el _)=>if Nat.beq s sz&&Nat.ble (j+m) sz then some ((List.range m).map λq=>el k i (j+q),[id],[k<n,i<len k])else none
  |_=>none
 | .e (.jD k el)=>if Nat.ble m k then some ((List.range m).map el,[],[])else none
 |_=>none
def CV.ext(σ:PS):CV->Option (E×List Nat)
 | .e x=>some (x,[])
 | .box id=>match σ.bo id with
  |some (.cells _ l)=>some (.jD l.length λj=>l.getD j .any,[id])
  |_=>none
 | .row id=>match σ.bo id with
  |some (.il nl _ _ n sz len el none)=>if Nat.beq n 1 then some (.jD 1 λ_=>.sl nl (len 0) sz (el 0),[id])else none
  |_=>none
def CV.EU:CV->Bool
 | .row _=>true
 |_=>false
def ui(σ:PS):List CV->Option (List E×List Nat)
 | []=>some ([],[])
 |c::l=>match c.ext σ,ui σ l with
  |some (x,i),some (xs,is)=>some (x::xs,i++is)
  |_,_=>none
def PV.tH(σ:PS):PV->Bool
 | .own id=>match σ.bo id with
  |some (.il ..)=>false
  |_=>true
 | .iB _ _=>true
 | .qh _ cap=>cap.any CV.EU
 |_=>false
def PV.ext(σ:PS):PV->Option (E×List Nat)
 | .e x=>some (x,[])
 | .own id=>match σ.bo id with
  |some (.row nl _ n sz el)=>some (.sl nl n sz el,[id])
  |some (.il nl _ _ n sz len el none)=>some (.kY false true n 1 λk _=>.kY true nl (len k) sz (el k),[id])
  |_=>none
 | .box id 0=>match σ.bo id with
  |some (.cells _ l)=>some (.jD l.length λj=>l.getD j .any,[id])
  |_=>none
 | .iB id k=>match σ.bo id with
  |some (.il nl _ _ n sz len el none)=>if Nat.blt k n then some (.sl nl (len k) sz (el k),[id])else none
  |_=>none
 | .qh f cap=>match ui σ cap with
  |some (xs,is)=>some (.fn f xs,is)
  |none=>none
 |_=>none
def sG(σ:PS):List Operand->Option (List E×List Nat)
 | []=>some ([],[])
 |o::l=>match(σ.op o).ext σ,sG σ l with
  |some (x,i),some (xs,is)=>some (x::xs,i++is)
  |_,_=>none
def we:List PV->Option (List CV)
 | []=>some []
 | .e x::l=>(we l).map (.e x :: ·)
 | .box id 0::l=>(we l).map (.box id :: ·)
 | .ny id sz i j::l=>if Nat.beq sz 1&&Nat.beq i 0&&Nat.beq j 0 then(we l).map (.row id :: ·)else none
 |_::_=>none
def nC(w:World)(b:Nat):Prop:=∀ o x,w.cell? ⟨b,o,none⟩≠some (.int .u32 x)
structure PC(P:Program)(K:World->Prop)(f:FuncId)(args:List E)(jk:E):Prop where
 call:∀ (vs:Array Value) (w:World),(callFunc f vs).run P w = .ok (.enter f vs) w
 run:∀ (w:World) (B:Nat->Prop) (vs:List Value),K w->(∀ b,B b->b<w.heap.size/\nC w b)->jZ B (λ_=>False) w args vs ->
  Calls P f vs.toArray w (λe w'=>∃ v,e = .returned v/\Below w.heap.size w w'/\iC B (λ_=>True) w' jk v)
structure Gm(P:Program)(K:World->Prop)(f:FuncId)(args:List E)(jk:E):Prop where
 call:∀ (vs:Array Value) (w:World),(callFunc f vs).run P w = .ok (.enter f vs) w
 run:∀ (w:World) (B:Nat->Prop) (vs:List Value),K w->(∀ b,B b->b<w.heap.size)->jZ B (λ_=>False) w args vs ->
  Calls P f vs.toArray w (λe w'=>∃ v,e = .returned v/\Below w.heap.size w w'/\iC B (λ_=>True) w' jk v)
def mL(w:World)(v:Value)(T:TypeId)(n sz:Nat)(f:Nat->Nat->Value)(nl:Bool):Prop:=
 (v = .slice none 0 0/\n=0) \/
 ∃ (b ofs c:Nat) (cur:Array Value),v = .slice (some ⟨b,ofs,none⟩) n c/\w.heap[b]? = some (.cells cur T (0,0))/\n<=c/\c<=maxLen/\ofs+c*sz<=cur.size /\
  (∀ i j,i<n->j<sz->cur[ofs+(i*sz+j)]? = some (f i j)/\(f i j).oneCell'=true)/\(nl=true->∀ u,u ∈ cur->pO u=false)
structure tZ(P:Program)(K:World->Prop)(f:FuncId)(args:List E)(nl:Bool)(T:TypeId)(n sz:Nat)(el:Nat->Nat->E):Prop where
 call:∀ (vs:Array Value) (w:World),(callFunc f vs).run P w = .ok (.enter f vs) w
 run:∀ (w:World) (B:Nat->Prop) (vs:List Value),K w->(∀ b,B b->b<w.heap.size/\nC w b)->jZ B (λ_=>False) w args vs ->
  Calls P f vs.toArray w (λe w'=>∃ v,e = .returned v/\Below w.heap.size w w'/\∃ g,mL w' v T n sz g nl/\(∀ x,v.ownBlock=some x->w.heap.size<=x/\x<w'.heap.size) /\
   ∀ i j,i<n->j<sz->iC (λb=>B b\/v.ownBlock=some b) (λ_=>True) w' (el i j) (g i j)/\(el i j).nr 2=true)
structure Lk where
 lL:Nat->Prop
 own:Nat->Nat->Prop
 val:Nat->Value
 iB:Nat->Nat->Value
def vg(bs br:Nat->Prop)(L:Lk)(w:World)(id:Nat)(nl:Bool)(T1 T0:TypeId)(n sz:Nat)(len:Nat->Nat)(el:Nat->Nat->Nat->E)(pend:Option Nat):Prop:=∃ (b ofs c:Nat) (cur:Array Value) (f:Nat->Nat->Nat->Value),L.val id = .slice (some ⟨b,ofs,none⟩) n c/\w.heap[b]? = some (.cells cur T1 (0,0))/\n<=c/\c<=maxLen/\ofs+c<=cur.size /\
 (∀ k,k<n->pend≠some k->cur[ofs+k]? = some (L.iB id k))/\(∀ u,u ∈ cur->pO u=false) /\
 (∀ k,k<n->mL w (L.iB id k) T0 (len k) sz (f k) nl/\∀ i j,i<len k->j<sz->iC bs br w (el k i j) (f k i j)/\(el k i j).nr 2=true) /\
 (∀ x,L.own id x↔x=b\/∃ k,k<n/\(L.iB id k).ownBlock=some x) /\
 (∀ k k' x,k<n->k'<n->(L.iB id k).ownBlock=some x->(L.iB id k').ownBlock=some x->k=k')/\(∀ k,k<n->(L.iB id k).ownBlock≠some b)
structure vX(P:Program)(K:World->Prop)(f:FuncId)(args:List E)(nl:Bool)(T1 T0:TypeId)(n sz:Nat)(len:Nat->Nat)(el:Nat->Nat->Nat->E):Prop where
 call:∀ (vs:Array Value) (w:World),(callFunc f vs).run P w = .ok (.enter f vs) w
 run:∀ (w:World) (B:Nat->Prop) (vs:List Value),K w->(∀ b,B b->b<w.heap.size/\nC w b)->jZ B (λ_=>False) w args vs ->
  Calls P f vs.toArray w (λe w'=>∃ L:Lk,e = .returned (L.val 0)/\Below w.heap.size w w'/\(∀ x,L.own 0 x->w.heap.size<=x/\x<w'.heap.size) /\
   ((L.val 0 = .slice none 0 0/\n=0/\∀ x,¬L.own 0 x)\/vg (λb=>B b\/L.own 0 b) (λ_=>True) L w' 0 nl T1 T0 n sz len el none))
structure Kr(w:World)(b:Nat)(w':World):Prop where
 os:w'.os=w.os
 tape:w'.tape=w.tape
 output:w'.output=w.output
 size:w.heap.size<=w'.heap.size
 nu:∀ x,x<w.heap.size->x≠b->w'.heap[x]? = w.heap[x]?
structure tY(P:Program)(K:World->Prop)(f:FuncId)(T:TypeId)(l l':List E)(args:List E)(jk:E):Prop where
 call:∀ (vs:Array Value) (w:World),(callFunc f vs).run P w = .ok (.enter f vs) w
 run:∀ (w:World) (B:Nat->Prop) (b:Nat) (cs vs:List Value),(∀ w',Kr w b w'->K w')->(∀ x,B x->x<w.heap.size/\nC w x)->B b->w.heap[b]? = some (.cells cs.toArray T (0,0))->(∀ u,u ∈ cs->u.oneCell'=true) ->
  jZ B (λ_=>False) w l cs->jZ B (λ_=>False) w args vs ->
  Calls P f (.pointer (some ⟨b,0,none⟩)::vs).toArray w (λe w'=>∃ v cs',e = .returned v/\Kr w b w'/\w'.heap[b]? = some (.cells (List.toArray cs') T (0,0))/\(∀ u,u ∈ cs'->u.oneCell'=true) /\
   jZ B (λ_=>True) w' l' cs'/\iC B (λ_=>True) w' jk v)
structure pS where
 cl:List (Nat×E):=[]
 ov:List (Nat×PV):=[]
 nw:List (Nat×Bx):=[]
 gi:List (Nat×Value):=[]
 mu:List (Nat×(List E×E)):=[]
def FN(T:List TI):List Field->Option (List (Nat×Nat))
 | []=>some []
 |f::fs=>match lJ T f.type,FN T fs with
  |some ti,some l=>some ((f.offset,ti.i.size)::l)
  |_,_=>none
def xO(l:List E)(off:Nat)(m:List E):List E:=l.take off++m++l.drop (off+m.length)
def rV(σ:PS)(place:Nat->Option (Nat×Nat)):List E->List (Nat×Operand)->Option (List E)
 |l,[]=>some l
 |l,(i,x)::ps=>match place i,σ.op x with
  |some (off,size),.e e=>match e.cells? with
   |some m=>if Nat.beq m.length size&&Nat.ble (off+m.length) l.length then rV σ place (xO l off m) ps else none
   |none=>none
  |_,_=>none
def xX(ti:TI):Option (List E):=match ti.i.zero with
 |some z=>(E.v z).cells?
 |none=>none
def ko{α:Type}:Nat->List α->List α
 | 0,_=>[]
 |n+1,l=>l++ko n l
def lN(P:Program)(op:BinOp)(t:TypeId)(x y:E)(v:Value):Prop:=∀ (bs br:Nat->Prop) (w:World) (a b:Value) (ox oy:Operand),iC bs br w x a->iC bs br w y b->(eqGuard op t ox oy a b).run P w = .ok () w/\(binOp op t a b).run P w = .ok v w
def abU(O:pS)(d:Option Tmp):Option Value:=match d with
 |some d=>match look O.cl d with
  |some (.v v)=>some v
  |_=>none
 |none=>none
def abS(O:pS)(d:Option Tmp):Option Value:=match d with
 |some d=>look O.gi d
 |none=>none
def Kq(e:E):Prop:=∀ (bs bs' br:Nat->Prop) (w:World) (v:Value),(∀ x,bs' x->bs x\/nC w x)->iC bs br w e v->iC bs' br w e v
def sc(σ:PS)(d:Nat)(b:Bx):lQ:=match σ.bo d with
 |none=>.new d b
 |some _=>.vQ d b
def wQ(σ:PS)(d:Nat)(is:List Nat):List Nat:=match σ.bo d with
 |none=>is
 |some _=>d::is
def OZ(n sz:Nat)(el:Nat->Nat->E):Prop:=∀ i j,i<n->j<sz->Kq (el i j)
def zz(P:Program)(K:World->Prop)(O:pS)(σ:PS)(d:Option Tmp)(f:FuncId)(xs:List E)(is:List Nat)(ow:Bool):Option kq:=
 match(match d with
  |some d=>look O.cl d
  |none=>some .any)with
 |some jk=>if jk.plain 3||(σ.nl && !ow)then some { r:=.e jk,rb:=is,ju:=[PC P K f xs jk] }else if !ow then some { r:=.e jk,rb:=is,ju:=[Gm P K f xs jk] }
  else if σ.nl then some { r:=.e jk,rb:=is,ju:=[PC P K f xs jk,Kq jk] }else none
 |none=>match d with
  |some d=>match look O.nw d with
   |some (.row nl T n sz el)=>if σ.nl&&nl then some { r:=.own d,f:=sc σ d (.row nl T n sz el),rb:=wQ σ d is,ju:=tZ P K f xs nl T n sz el::(if ow then[OZ n sz el]else[]) }else none
   |some (.il nl T1 T0 n sz len el none)=>if σ.nl&&nl && !ow then some { r:=.own d,f:=sc σ d (.il nl T1 T0 n sz len el none),rb:=wQ σ d is,ju:=[vX P K f xs nl T1 T0 n sz len el] }else none
   |_=>none
  |none=>none
def abT(O:pS):Option Tmp->Option (List E×E)
 |some d=>look O.mu d
 |none=>none
def zA(P:Program)(K:World->Prop)(σ:PS)(fv:PV)(xs:List Operand)(l':List E)(jk:E):Option kq:=match fv,xs with
 | .e (.fn g []),x::xs=>match σ.op x with
  | .box id 0=>match σ.bo id,sG σ xs with
   |some (.cells T l),some (es,is)=>if σ.nl&&l'.all E.mc && !((xs.map σ.op).any (PV.tH σ))then some { r:=.e jk,f:=.ot id (.cells T l'),rb:=id::is,ju:=[tY P K g T l l' es jk] }else none
   |some (.mS T b l),some (es,is)=>if σ.nl&&l'.all E.mc && !((xs.map σ.op).any (PV.tH σ))then some { r:=.e jk,f:=.ot id (.mS T b l'),rb:=id::is,ju:=[tY P K g T l l' es jk] }else none
   |_,_=>none
  |_=>none
 |_,_=>none
def yV(σ:PS)(d:Option Tmp)(b:Bx)(r:Nat->PV)(ju:List Prop):Option kq:=match d with
 |some d=>match σ.bo d with
  |none=>if !σ.nl||b.nl then some { r:=r d,f:=.new d b,ju:=ju }else none
  |some _=>none
 |none=>none
def PV.KB:PV->Option (Bool×Nat×Nat×(Nat->Nat->E))
 | .e (.sl nl n sz el)=>some (nl,n,sz,el)
 | .e (.kY true nl n sz el)=>some (nl,n,sz,el)
 |_=>none
def Ad(σ:PS)(d:Option Tmp)(b:Bx)(r:Nat->PV):Option kq:=match d with
 |some d=>if !σ.nl||b.nl then some { r:=r d,f:=sc σ d b,rb:=wQ σ d [] }else none
 |none=>none
def zx(T:List TI)(σ:PS)(d:Option Tmp)(t:TypeId)(s x:PV):Option kq:=match x.KB with
 |some (nl2,m,sz2,el2)=>match lJ T t with
  |some tt=>match tt.d with
   | .slice e=>match lJ T e with
    |some te=>match xX te with
     |some z=>if Nat.beq te.i.size sz2&&Nat.ble 1 sz2&&Nat.ble 1 te.i.bytes&&Nat.beq z.length sz2 then match s with
      | .own id=>match σ.bo id with
       |some (.row nl T1 n sz el)=>if Nat.beq T1 e&&Nat.beq sz sz2&&(!σ.nl||(nl&&(nl2&&z.all E.mc)))then
        some { r:=.own id,f:=.ou id (.row (nl&&(nl2&&z.all E.mc)) T1 (n+m) sz λi j=>if i<n then el i j else el2 (i-n) j),rb:=[id],ju:=[(n+m)*te.i.bytes<=140737488355328] }
        else none
       |_=>none
      | .iB id k=>match σ.bo id with
       |some (.il nl T1 T0 n sz len el none)=>if Nat.beq T0 e&&Nat.beq sz sz2&&(!nl||(nl2&&z.all E.mc))then
        some { r:=.iB id k,f:=.rG id (.il nl T1 T0 n sz (λq=>if q=k then len q+m else len q) (λq i j=>if q=k then(if i<len q then el q i j else el2 (i-len q) j)else el q i j) (some k)),rb:=[id],ju:=[k<n,(len k+m)*te.i.bytes<=140737488355328] }
        else none
       |_=>none
      | .e (.v (.slice none 0 0))=>yV σ d (.row (nl2&&z.all E.mc) e m sz2 el2) .own [m*te.i.bytes<=140737488355328]
      |_=>none
     else none
     |none=>none
    |none=>none
   |_=>none
  |none=>none
 |_=>none
def AJ(T:List TI)(σ:PS)(d:Option Tmp)(t:TypeId)(s x:PV):Option kq:=match zx T { σ with nl:=false } d t s x with
 |some u=>match u.f,u.r with
  | .ou id (.row nl _ n sz el),.own id'=>if Nat.beq id' id then some { r:=.e (.sl nl n sz el),f:=.fin id,rb:=u.rb,ju:=True::u.ju }else none
  |_,_=>none
 |none=>none
def PV.C3:PV->Option Nat
 | .own q=>some q
 |_=>none
def Ag(σ:PS):List (Nat×Operand)->Option Nat
 | [(0,x)]=>(σ.op x).C3
 |_=>none
def GI(T:List TI)(t:TypeId):Option (TypeId×Nat):=match lJ T t with
 |some tt=>match tt.d with
  | .slice e=>match lJ T e with
   |some te=>match xX te with
    |some [z]=>if Nat.beq te.i.size 1&&Nat.ble 1 te.i.bytes&&z.mc then some (e,te.i.bytes)else none
    |_=>none
   |none=>none
  |_=>none
 |none=>none
def AM(T:List TI)(σ:PS)(d:Option Tmp)(t:TypeId)(n q:Nat):Option kq:=match d with
 |some id=>match σ.bo id,σ.bo q,GI T t with
  |none,some (.row nl T0 m sz el),some (e,_)=>if Nat.beq n 1 && !Nat.beq id q then
   some { r:=.own id,f:=.om id q (.il nl e T0 1 sz (λ_=>m) (λ_=>el) none),rb:=[id,q] }else none
  |_,_,_=>none
 |none=>none
def AK(T:List TI)(σ:PS)(d:Option Tmp)(t:TypeId)(s:PV)(q:Nat):Option kq:=match σ.bo q,GI T t with
 |some (.il nl2 T2 T0 m sz len2 el2 none),some (e,by_)=>match s,d with
  | .own id,_=>match σ.bo id with
   |some (.il nl T1 T0' n sz' len el none)=>if Nat.beq T1 e&&Nat.beq T2 e&&Nat.beq T0' T0&&Nat.beq sz' sz && !Nat.beq id q then
    some { r:=.own id,f:=.om id q (.il (nl&&nl2) T1 T0 (n+m) sz (λk=>if k<n then len k else len2 (k-n)) (λk=>if k<n then el k else el2 (k-n)) none),rb:=[id,q],ju:=[0<m,(n+m)*by_<=140737488355328] }else none
   |_=>none
  | .e (.v (.slice none 0 0)),some id=>match σ.bo id with
   |none=>if Nat.beq T2 e && !Nat.beq id q then
    some { r:=.own id,f:=.om id q (.il nl2 T2 T0 m sz len2 el2 none),rb:=[id,q],ju:=[0<m,m*by_<=140737488355328] }else none
   |_=>none
  |_,_=>none
 |_,_=>none
def Q6(T:List TI)(t:TypeId)(l c:PV):Option (Bx×List Prop):=match l,c with
 | .e (.v (.int _ l)),.e (.v (.int _ c))=>match lJ T t with
  |some tt=>match tt.d with
   | .slice e=>match lJ T e with
    |some te=>match xX te with
     |some z=>if Nat.beq te.i.size z.length&&Nat.ble 1 te.i.size then
      let ju:=[0<=l/\l<=c,(te.i.bytes:Int)*c<=281474976710656/\c<=9223372036854775807]
      match te.d with
      | .slice e0=>match lJ T e0,z with
       |some t0,[.v (.slice none 0 0)]=>some (.il true e e0 l.toNat t0.i.size (λ_=>0) (λ_ _ _=>.any) none,ju)
       |_,_=>none
      |_=>some (.row (z.all E.mc) e l.toNat te.i.size (λ_ j=>z.getD j .any),ju)
      else none
     |none=>none
    |none=>none
   |_=>none
  |none=>none
 |_,_=>none
def Ha(T:List TI)(σ:PS)(d:Option Tmp)(t:TypeId)(l c:PV):Option kq:=match Q6 T t l c with
 |some (b,ju)=>yV σ d b .own ju
 |none=>none
def AL(T:List TI)(σ:PS)(t:TypeId)(id:Nat)(lo hi:Option PV):Option kq:=match lJ T t with
 |some tt=>match tt.d with
  | .slice e=>match lJ T e with
   |some te=>match σ.bo id with
    |some (.row nl T1 n sz el)=>match lo,hi with
     |some (.e (.v (.int _ l))),none=>if Nat.beq te.i.size sz then some { r:=.own id,f:=.ou id (.row nl T1 (n-l.toNat) sz λi j=>el (l.toNat+i) j),rb:=[id],ju:=[0<=l/\l<=n] }else none
     |_,_=>none
    |_=>none
   |none=>none
  |_=>none
 |none=>none
def Hb(T:List TI)(t:TypeId)(x:PV)(lo hi:Option PV):Option kq:=match x with
 | .e (.sl nl n sz el)=>match lJ T t with
  |some tt=>match tt.d with
   | .slice e=>match lJ T e with
    |some te=>if Nat.beq te.i.size sz then match lo,hi with
     |none,some (.e (.v (.int _ h)))=>some { r:=.e (.sl nl h.toNat sz el),ju:=[0<=h/\h<=n] }
     |some (.e (.v (.int _ l))),none=>some { r:=.e (.sl nl (n-l.toNat) sz λi j=>el (l.toNat+i) j),ju:=[0<=l/\l<=n] }
     |some (.e (.v (.int _ l))),some (.e (.v (.int _ h)))=>some { r:=.e (.sl nl (h.toNat-l.toNat) sz λi j=>el (l.toNat+i) j),ju:=[0<=l/\l<=h/\h<=n] }
     |_,_=>none
     else none
    |none=>none
   |_=>none
  |none=>none
 | .e (.kY fl nl n sz el)=>match lJ T t with
  |some tt=>match tt.d with
   | .slice e=>match lJ T e with
    |some te=>if Nat.beq te.i.size sz then match lo,hi with
     |none,some (.e (.v (.int _ h)))=>some { r:=.e (.kY fl nl h.toNat sz el),ju:=[0<=h/\h<=n] }
     |some (.e (.v (.int _ l))),none=>some { r:=.e (.kY fl nl (n-l.toNat) sz λi j=>el (l.toNat+i) j),ju:=[0<=l/\l<=n] }
     |some (.e (.v (.int _ l))),some (.e (.v (.int _ h)))=>some { r:=.e (.kY fl nl (h.toNat-l.toNat) sz λi j=>el (l.toNat+i) j),ju:=[0<=l/\l<=h/\h<=n] }
     |_,_=>none
     else none
    |none=>none
   |_=>none
  |none=>none
 |_=>none
def G7(T:List TI)(σ:PS)(t:TypeId)(x i:PV):Option kq:=match i with
 | .e (.v (.int _ z))=>match lJ T t with
  |some tt=>match tt.d with
   | .slice e=>match lJ T e with
    |some te=>match x with
     | .e (.sl _ n sz el)=>if Nat.beq te.i.size sz&&Nat.ble 1 sz then some { r:=.e (.jD sz (el z.toNat)),ju:=[0<=z/\z<n] }else none
     | .e (.kY _ _ n sz el)=>if Nat.beq te.i.size sz&&Nat.ble 1 sz then some { r:=.e (.jD sz (el z.toNat)),ju:=[0<=z/\z<n] }else none
     | .own id=>match σ.bo id with
      |some (.row _ _ n sz _)=>if Nat.beq te.i.size sz then some { r:=.ny id sz z.toNat 0,rb:=[id],ju:=[0<=z/\z<n] }else none
      |some (.il _ _ _ n _ _ _ _)=>if Nat.beq te.i.size 1 then some { r:=.ny id 1 z.toNat 0,rb:=[id],ju:=[0<=z/\z<n] }else none
      |some (.xT _ _ _ n _ _ _ _ _)=>if Nat.beq te.i.size 1 then some { r:=.ny id 1 z.toNat 0,rb:=[id],ju:=[0<=z/\z<n] }else none
      |_=>none
     | .iB id k=>match σ.bo id with
      |some (.il _ _ _ n sz len _ _)=>if Nat.beq te.i.size sz then some { r:=.qo id sz k z.toNat 0,rb:=[id],ju:=[k<n,0<=z/\z<len k] }else none
      |_=>none
     |_=>none
    |none=>none
   | .array n e=>match lJ T e with
    |some te=>match x with
     | .box id off=>some { r:=.box id (off+z.toNat*te.i.size),ju:=[0<=z/\z<n] }
     | .e (.jD m el)=>if Nat.beq (n*te.i.size) m then some { r:=.e (.jD te.i.size λj=>el (z.toNat*te.i.size+j)),ju:=[0<=z/\z<n] }else none
     |_=>none
    |none=>none
   |_=>none
  |none=>none
 |_=>none
def BG(l:List PV)(off:Nat)(m:List PV):List PV:=l.take off++m++l.drop (off+m.length)
def Bx.Tu:Bx->Bool
 | .row ..=>true
 | .il ..=>true
 |_=>false
def He(ti:TI)(bi bq:Option Bx)(id off q:Nat):Option kq:=match bi,bq with
 |some (.cells T1 [_]),some (.row nl T0 n sz el)=>if(!Nat.beq id q&&Nat.beq ti.i.size 1)&&Nat.beq off 0 then
  some { r:=.e .any,f:=.om id q (.il nl T1 T0 1 sz (λ_=>n) (λ_=>el) none),rb:=[id,q] }else none
 |_,_=>none
def Hd(ti:TI)(bi bq:Option Bx)(id off q:Nat):Option kq:=match bi,bq with
 |some (.pj nl T1 l),some b=>if b.Tu&&Nat.beq ti.i.size 1&&Nat.blt off l.length then
  some { r:=.e .any,f:=.ot id (.pj nl T1 (BG l off [.own q])),rb:=[id,q] }else none
 |_,_=>none
def Cg(ti:TI)(bi bq:Option Bx)(id off q:Nat):Option kq:=match He ti bi bq id off q with
 |some u=>some u
 |none=>Hd ti bi bq id off q
def nd(c r q:Nat):Nat:=if q=c then r else if q=r then c else q
def Hc(T:List TI)(σ:PS)(t:TypeId)(a x:PV):Option kq:=match lJ T t with
 |some ti=>match a,x with
  | .box id off,.e e=>match σ.bo id,e.cells? with
   |some (.cells T1 l),some m=>if Nat.beq m.length ti.i.size&&Nat.ble (off+m.length) l.length&&(!σ.nl||m.all E.mc)then
    some { r:=.e .any,f:=.ot id (.cells T1 (xO l off m)),rb:=[id] }else none
   |some (.pj nl T1 l),some m=>if Nat.beq m.length ti.i.size&&Nat.ble (off+m.length) l.length&&(!nl||m.all E.mc)then
    some { r:=.e .any,f:=.ot id (.pj nl T1 (BG l off (m.map .e))),rb:=[id] }else none
   |some (.mS T1 b l),some m=>if Nat.beq m.length ti.i.size&&Nat.ble (off+m.length) l.length&&(!σ.nl||m.all E.mc)then
    some { r:=.e .any,f:=.ot id (.mS T1 b (xO l off m)),rb:=[id] }else none
   |_,_=>none
  | .box id off,.own q=>Cg ti (σ.bo id) (σ.bo q) id off q
  | .ny id sz i j,.e e=>match σ.bo id,e.cells? with
   |some (.row nl T1 n s el),some m=>if Nat.beq m.length ti.i.size&&Nat.beq s sz&&Nat.ble (j+m.length) sz&&(!nl||m.all E.mc)&&m.all (E.nr 2)then
    some { r:=.e .any,f:=.ot id (.row nl T1 n s λi' j'=>if i'=i/\j<=j'/\j'<j+m.length then m.getD (j'-j) .any else el i' j'),rb:=[id],ju:=[i<n] }else none
   |_,_=>none
  | .ny id 1 i 0,.iB id' k=>match σ.bo id with
   |some (.il nl T1 T0 n sz len el (some k'))=>if Nat.beq id id'&&Nat.beq ti.i.size 1 then
    some { r:=.e .any,f:=.ot id (.il nl T1 T0 n sz len el none),rb:=[id],ju:=[i=k',k=k',k'<n] }else none
   |some (.il nl T1 T0 n sz len el none)=>if Nat.beq id id'&&Nat.beq ti.i.size 1 then
    some { r:=.e .any,f:=.ot id (.xT nl T1 T0 n sz len el i k),rb:=[id],ju:=[i<n,k<n] }else none
   |some (.xT nl T1 T0 n sz len el c r)=>if Nat.beq id id'&&Nat.beq ti.i.size 1 then
    some { r:=.e .any,f:=.rG id (.il nl T1 T0 n sz (λq=>len (nd c r q)) (λq=>el (nd c r q)) none),rb:=[id],ju:=[i=r,k=c] }else none
   |_=>none
  | .qo id sz k i j,.e e=>match σ.bo id,e.cells? with
   |some (.il nl T1 T0 n s len el pd),some m=>if Nat.beq m.length ti.i.size&&Nat.beq s sz&&Nat.ble (j+m.length) sz&&(!nl||m.all E.mc)&&m.all (E.nr 2)then
    some { r:=.e .any,f:=.ot id (.il nl T1 T0 n s len (λk' i' j'=>if k'=k/\i'=i/\j<=j'/\j'<j+m.length then m.getD (j'-j) .any else el k' i' j') pd),rb:=[id],ju:=[k<n,i<len k] }else none
   |_,_=>none
  |_,_=>none
 |none=>none
def si:PV->PS->Option (Value×List Nat)
 | .e (.kY _ _ n _ _),_=>some (.int .i64 (n:Int),[])
 | .e (.sl _ n _ _),_=>some (.int .i64 (n:Int),[])
 | .e (.v (.slice _ n _)),_=>some (.int .i64 (n:Int),[])
 | .own id,σ=>match σ.bo id with
  |some (.row _ _ n _ _)=>some (.int .i64 (n:Int),[id])
  |some (.il _ _ _ n _ _ _ _)=>some (.int .i64 (n:Int),[id])
  |_=>none
 | .iB id k,σ=>match σ.bo id with
  |some (.il _ _ _ n _ len _ _)=>if Nat.blt k n then some (.int .i64 (len k:Int),[id])else none
  |_=>none
 |_,_=>none
def Aa(ti:TI):Option (List E×List Nat×List Prop)->Option kq
 |some (l,is,ju)=>if ti.isAgg then some { r:=.e (.agg l),rb:=is,ju:=ju }else match l with
  | [e]=>some { r:=.e e,rb:=is,ju:=ju }
  |_=>none
 |none=>none
def BM(σ:PS):PV->Option (Nat×Nat×Nat)
 | .ny id sz i j=>match σ.bo id with
  |some (.il _ _ _ n _ _ _ none)=>if Nat.beq sz 1&&Nat.beq j 0 then some (id,i,n)else none
  |_=>none
 |_=>none
def Jl:List PV->Nat->Option Nat
 | [],_=>none
 | .own q::_,0=>some q
 |_::_,0=>none
 |_::l,n+1=>Jl l n
def AO(σ:PS):PV->Option (Nat×Nat)
 | .box id off=>match σ.bo id with
  |some (.pj _ _ l)=>(Jl l off).map λq=>(id,q)
  |_=>none
 |_=>none
def G9(ti:TI)(σ:PS)(p:PV):Option kq:=match BM σ p with
 |some (id,i,n)=>if ti.isAgg then none else some { r:=.iB id i,rb:=[id],ju:=[i<n] }
 |none=>Aa ti (σ.read p ti.i.size)
def G8(T:List TI)(σ:PS)(t:TypeId)(p:PV):Option kq:=match lJ T t with
 |some ti=>match AO σ p with
  |some (id,q)=>if ti.isAgg then none else some { r:=.own q,rb:=[id] }
  |none=>G9 ti σ p
 |none=>none
def Gv(O:pS):Option Tmp->Bool
 |some d=>(look O.nw d).isSome
 |none=>false
def xJ:List (Int×FuncId×List FuncId)->Int->Option E
 | [],_=>none
 |x::l,z=>if x.1=z then some (.fn x.2.1 (x.2.2.map λg=>.jD 1 λ_=>.fn g []))else xJ l z
def abR(O:pS):Option Tmp->Option E
 |some d=>look O.cl d
 |none=>none
def jC(P:Program)(K:World->Prop)(T:List TI)(O:pS)(σ:PS)(o:Oper):Option kq:=match o.op with
 | .move x=>some { r:=σ.op x }
 | .assign x=>some { r:=σ.op x }
 | .pick c a b=>match σ.op c with
  | .e (.v (.bool true))=>some { r:=σ.op a }
  | .e (.v (.bool false))=>some { r:=σ.op b }
  |_=>none
 | .alloc t=>match lJ T t with
  |some ti=>match xX ti with
   |some z=>Ad σ o.dst (.cells t z) (.box · 0)
   |none=>none
  |none=>none
 | .box t x=>match σ.op x with
  | .e e=>match e.cells? with
   |some l=>Ad σ o.dst (.cells t l) (.box · 0)
   |none=>none
  |_=>none
 | .build t ps=>match lJ T t with
  |some ti=>match xX ti with
   |some z=>match ti.d with
    | .struct fs=>match FN T fs.toList with
     |some pl=>(rV σ (λi=>pl[i]?) z ps.toList).map λl=>{ r:=.e (.agg l) }
     |none=>none
    | .array _ e=>match lJ T e with
     |some te=>(rV σ (λi=>some (i*te.i.size,te.i.size)) z ps.toList).map λl=>{ r:=.e (.agg l) }
     |none=>none
    |_=>none
   |none=>none
  |none=>none
 | .buildSlice t n ps=>match Ag σ ps.toList with|some q=>AM T σ o.dst t n q|none=>match lJ T t with
  |some tt=>match tt.d with
   | .slice e=>match lJ T e with
    |some te=>match xX te with
     |some z=>if Nat.beq z.length te.i.size&&Nat.ble 1 te.i.size&&Nat.ble (n*te.i.size) 16777216 then
      (rV σ (λi=>some (i*te.i.size,te.i.size)) (ko n z) ps.toList).bind λl=>
       if !(l.all (E.nr 2))then none else if Gv O o.dst then yV σ o.dst (.row (l.all E.mc) e n te.i.size λi j=>l.getD (i*te.i.size+j) (.v (.bool false))) .own [True]
       else if l.all E.mc then some { r:=.e (.sl true n te.i.size λi j=>l.getD (i*te.i.size+j) (.v (.bool false))) }
       else some { r:=.e (.sl false n te.i.size λi j=>l.getD (i*te.i.size+j) (.v (.bool false))) }
      else none
     |none=>none
    |none=>none
   |_=>none
  |none=>none
 | .load t a=>G8 T σ t (σ.op a)
 | .store t a x=>Hc T σ t (σ.op a) (σ.op x)
 | .nilCheck x=>match σ.op x with
  | .box id off=>some { r:=.box id off }
  | .e (.jD m el)=>some { r:=.e (.jD m el) }
  | .e (.fn f c)=>some { r:=.e (.fn f c) }
  | .qh f c=>some { r:=.qh f c }
  |_=>none
 | .binOp op t x y _=>match σ.op x,σ.op y with
  | .e (.v (.int k a)),.e (.v (.int k' b))=>
   match abS O o.dst with
   |some v=>some { r:=.e (.v v),ju:=[lN P op t (.v (.int k a)) (.v (.int k' b)) v] }
   |none=>if Ww op k k' then(Lj op k a b).map λr=>{ r:=.e (.v r.1),ju:=r.2 }else none
  | .e (.v (.bool a)),.e (.v (.bool b))=>match wj T t with
   |some .bool=>match op with
    | .eql=>some { r:=.e (.v (.bool (a==b))) }
    | .neq=>some { r:=.e (.v (.bool (!(a==b)))) }
    |_=>none
   |_=>none
  | .e (.sl _ n _ _),.e (.v (.slice none 0 0))=>match wj T t with
   |some (.slice _)=>match op with
    | .eql=>some { r:=.e (.v (.bool false)),ju:=[0<n] }
    | .neq=>some { r:=.e (.v (.bool true)),ju:=[0<n] }
    |_=>none
   |_=>none
  | .e a,.e b=>match abU O o.dst with
   |some v=>some { r:=.e (.v v),ju:=[lN P op t a b v] }
   |none=>none
  |_,_=>none
 | .unOp op _ x=>match op,σ.op x with
  | .not,.e (.v (.bool b))=>some { r:=.e (.v (.bool (!b))) }
  | .neg,.e (.v (.int k z))=>some { r:=.e (.v (.int k (0-z))),ju:=[kQ k (0-z)] }
  |_,_=>none
 | .convert src dst x=>match wj T dst,lJ T src,σ.op x with
  |some (.int k),some _,.e (.v (.int _ z))=>some { r:=.e (.v (.int k (k.wrap z))) }
  |_,_,_=>none
 | .makeFunc (.func f) first cap=>if first.isEmpty then match we (cap.toList.map σ.op)with
  |some l=>some { r:=.qh f l }
  |none=>none
  else none
 | .makeSlice t l c=>Ha T σ o.dst t (σ.op l) (σ.op c)
 | .slice t x lo hi none=>match σ.op x with | .own id=>AL T σ t id (lo.map σ.op) (hi.map σ.op)|y=>Hb T t y (lo.map σ.op) (hi.map σ.op)
 | .fieldAddr t x f=>match wj T t with
  |some (.struct fs)=>match fs[f]? with
   |some fd=>match lJ T fd.type with
    |some ft=>if Nat.beq ft.i.size 0 then none else match σ.op x with
     | .box id off=>some { r:=.box id (off+fd.offset) }
     | .ny id sz i j=>some { r:=.ny id sz i (j+fd.offset) }
     | .qo id sz k i j=>some { r:=.qo id sz k i (j+fd.offset) }
     | .e (.jD m el)=>if Nat.ble fd.offset m then some { r:=.e (.jD (m-fd.offset) λj=>el (fd.offset+j)) }else none
     |_=>none
    |none=>none
   |none=>none
  |_=>none
 | .indexAddr t x i=>G7 T σ t (σ.op x) (σ.op i)
 | .index t x i=>match σ.op x,σ.op i with
  | .e (.agg l),.e (.v (.int _ z))=>match lJ T t with
   |some tt=>match tt.d with
    | .array n e=>match lJ T e with
     |some te=>if te.isAgg&&Nat.beq (n*te.i.size) l.length then some { r:=.e (.agg ((l.drop (z.toNat*te.i.size)).take te.i.size)),ju:=[0<=z/\z<n] }else none
     |none=>none
    |_=>none
   |none=>none
  |_,_=>none
 | .field t x f=>match σ.op x,wj T t with
  | .e (.agg l),some (.struct fs)=>match fs[f]? with
   |some fd=>match lJ T fd.type with
    |some ft=>if ft.isAgg then none else match l[fd.offset]? with
     |some e=>some { r:=.e e }
     |none=>none
    |none=>none
   |none=>none
  |_,_=>none
 | .lookup t x i false=>match σ.op x,σ.op i,wj T t with
  | .e (.mp l),.e (.v (.int .i64 z)),some (.map k _)=>match wj T k,abR O o.dst with
   |some (.int .i64),some e=>some { r:=.e e,ju:=[xJ l z=some e] }
   |_,_=>none
  |_,_,_=>none
 | .extract x i=>match σ.op x with
  | .e (.ik l)=>match l[i]? with
   |some e=>some { r:=.e e }
   |none=>none
  |_=>none
 | .call c=>match c.callee with
  | .builtin .len=>match c.args.toList,c.argTypes.toList with
   | [x],[t]=>match wj T t with
    |some (.slice _)=>(si (σ.op x) σ).map λr=>{ r:=.e (.v r.1),rb:=r.2 }
    |_=>none
   |_,_=>none
  | .builtin .append=>match c.args.toList,c.argTypes.toList with
   | [s,x],[t,t']=>if Nat.beq t t' then(match(σ.op x).C3 with|some q=>AK T σ o.dst t (σ.op s) q|none=>if Gv O o.dst then AJ T σ o.dst t (σ.op s) (σ.op x)else zx T σ o.dst t (σ.op s) (σ.op x))else none
   |_,_=>none
  | .builtin .max=>match c.args.toList.map σ.op with
   | [.e (.v (.int k a)),.e (.v (.int _ b))]=>some { r:=.e (.v (.int k (if b>a then b else a))) }
   | [.e (.v (.int k a)),.e (.v (.int _ b)),.e (.v (.int _ z))]=>some { r:=.e (.v (.int k (if z>(if b>a then b else a)then z else(if b>a then b else a)))) }
   |_=>none
  | .builtin .min=>match c.args.toList.map σ.op with
   | [.e (.v (.int k a)),.e (.v (.int _ b))]=>some { r:=.e (.v (.int k (if b<a then b else a))) }
   |_=>none
  | .value f=>match abT O o.dst with|some lr=>zA P K σ (σ.op f) c.args.toList lr.1 lr.2|none=>match σ.op f,sG σ c.args.toList with
   | .e (.fn g cap),some (xs,is)=>zz P K O σ o.dst g (xs++cap) is ((c.args.toList.map σ.op).any (PV.tH σ))
   | .qh g cap,some (xs,is)=>match ui σ cap with
    |some (ys,js)=>zz P K O σ o.dst g (xs++ys) (is++js) ((c.args.toList.map σ.op).any (PV.tH σ)||cap.any CV.EU)
    |none=>none
   |_,_=>none
  |_=>none
 |_=>none
def jg(L:Lk)(x:Nat):Prop:=∃ id,L.own id x
def bad(B:Nat->Prop)(L:Lk)(x:Nat):Prop:=B x\/jg L x
def vZ(bs br:Nat->Prop)(L:Lk)(w:World):CV->Value->Prop
 | .e x,v=>iC bs br w x v
 | .box id,v=>L.lL id/\∃ b,L.val id = .pointer (some ⟨b,0,none⟩)/\v = .pointer (some ⟨b,0,none⟩)
 | .row id,v=>L.lL id/\∃ b ofs n c,L.val id = .slice (some ⟨b,ofs,none⟩) n c/\v = .pointer (some ⟨b,ofs,none⟩)
def kH(bs br:Nat->Prop)(L:Lk)(w:World):PV->Value->Prop
 | .e x,v=>iC bs br w x v
 | .box id off,v=>L.lL id/\∃ b,L.val id = .pointer (some ⟨b,0,none⟩)/\v = .pointer (some ⟨b,off,none⟩)
 | .own id,v=>L.lL id/\v=L.val id
 | .ny id sz i j,v=>L.lL id/\∃ b ofs n c,L.val id = .slice (some ⟨b,ofs,none⟩) n c/\v = .pointer (some ⟨b,ofs+(i*sz+j),none⟩)
 | .iB id k,v=>L.lL id/\v=L.iB id k
 | .qo id sz k i j,v=>L.lL id/\∃ b ofs n c,L.iB id k = .slice (some ⟨b,ofs,none⟩) n c/\v = .pointer (some ⟨b,ofs+(i*sz+j),none⟩)
 | .qh f cap,v=>∃ vs:List Value,v = .func (.func f) #[] vs.toArray/\vs.length=cap.length/\∀ (i:Nat) (c:CV) (x:Value),cap[i]? = some c->vs[i]? = some x->vZ bs br L w c x
def PV.le(p q:PV):Prop:=∀ (bs br:Nat->Prop) (L:Lk) (w:World) (v:Value),kH bs br L w p v->kH bs br L w q v
abbrev ai(a b:E):Prop:=PV.le (.e a) (.e b)
def uh(P:Program)(K:World->Prop)(T:List TI)(O:pS)(σ:PS)(o:Oper):Option kq:=match jC P K T O σ o with
 |some u=>match o.dst with
  |some d=>match look O.ov d with
   |some p=>some { u with r:=p,ju:=PV.le u.r p::u.ju }
   |none=>some u
  |none=>some u
 |none=>none
def zk(gX:Array Oper)(σ:PS)(o:Oper):Option Bool:=match o.guard with
 |none=>some true
 |some (j,want)=>match(gX[j]?).bind (·.dst)with
  |some t=>match σ.get t with
   | .e (.v (.bool true))=>some want
   | .e (.v (.bool false))=>some (!want)
   | .e (.v (.tuple _))=>some false
   |_=>none
  |none=>none
def PS.app(σ:PS)(d:Option Tmp)(u:kq):PS:=(σ.np u.f).put d u.r
def vD(σ:PS):Option Tmp->Bool
 |some d=>Nat.blt d σ.n
 |none=>true
def FJ:Op->List Operand
 | .move x | .assign x | .box _ x | .load _ x | .nilCheck x | .unOp _ _ x | .convert _ _ x | .fieldAddr _ x _ | .field _ x _ | .extract x _=>[x]
 | .pick c a b=>[c,a,b]
 | .build _ ps | .buildSlice _ _ ps=>ps.toList.map (·.2)
 | .store _ a v | .binOp _ _ a v _ | .makeSlice _ a v | .indexAddr _ a v | .index _ a v | .lookup _ a v _=>[a,v]
 | .makeFunc _ first captured=>first.toList++captured.toList
 | .slice _ x l h m=>x::(l.toList++h.toList++m.toList)
 | .call c=>(match c.callee with | .value f=>[f] | .invoke r _=>[r] | .builtin _=>[])++c.args.toList
 |_=>[]
def Dp:List Operand->List Tmp
 | []=>[]
 | .tmp t::l=>t::Dp l
 |_::l=>Dp l
def looks(gX:Array Oper)(o:Oper):List Tmp:=Dp (FJ o.op)++(match o.guard with
 |some (g,_)=>((gX[g]?).bind (·.dst)).toList
 |none=>[])
def lQ.yK:lQ->List Nat
 | .none=>[]
 | .new i _ | .ot i _ | .ou i _ | .rG i _ | .fin i | .vQ i _=>[i]
 | .om i r _=>[i,r]
def Bx.oN(f:lQ)(b:Bx):Bool:=f.vc&&b.kK.any λr=>f.yK.any λi=>Nat.beq i r
def PS.oN(σ:PS)(f:lQ):Bool:=f.vc&&σ.b.any λx=>match σ.bo x.1 with
 |some b=>b.oN f
 |none=>false
def lQ.KY:lQ->List Nat
 | .new _ b | .ot _ b | .ou _ b | .rG _ b | .vQ _ b | .om _ _ b=>b.kK
 |_=>[]
def lQ.id:lQ->Option Nat
 | .none=>Option.none
 | .new i _ | .ot i _ | .ou i _ | .rG i _ | .fin i | .om i _ _ | .vQ i _=>some i
def PS.wT(σ:PS)(f:lQ):List Nat:=match f.id with
 |some i=>(match σ.bo i with
  |some b=>b.kK
  |none=>[])
 |none=>[]
def qR(P:Program)(K:World->Prop)(T:List TI)(O:pS)(gX:Array Oper)(σ:PS)(o:Oper):Option kq:=
 if vD σ o.dst then match zk gX σ o with
  |some true=>match uh P K T O σ o with
   |some u=>some { u with rd:=(looks gX o).map σ.get,hb:=σ.oN u.f,ob:=σ.wT u.f }
   |none=>none
  |some false=>some { r:=.e (.v (.tuple #[])),rd:=(looks gX o).map σ.get }
  |none=>none
 else none
def L6(l:List Nat)(n:Nat):Bool:=l.any (Nat.beq n)
def lQ.wI:lQ->Bool
 | .om ..=>true
 | .vQ ..=>true
 |_=>false
def yR:lQ->PV->Bool
 | .ou id _,.own i=>!Nat.beq i id
 | .ou id _,.ny i _ _ _=>!Nat.beq i id
 | .ou id _,.qh _ cap=>!cap.any (CV.EV id)
 | .rG id _,.iB i _=>!Nat.beq i id
 | .rG id _,.qo i _ _ _ _=>!Nat.beq i id
 | .fin id,p=>!p.kK.any (Nat.beq id)
 |_,_=>true
def wR(l:List Nat):Option Nat->Bool
 |some d=>!L6 l d
 |none=>true
def Kb:Option Nat->Option Nat->Bool
 |some a,some b=>!Nat.beq a b
 |_,_=>true
def NF:PV->Bool
 | .e .any=>false
 |_=>true
def Bd(gX:Array Oper)(x y:Oper×kq):Bool:=
 wR (looks gX y.1) x.1.dst&&Kb x.1.dst y.1.dst&&wR (looks gX x.1) y.1.dst &&
 wR y.2.rb x.2.f.id&&wR x.2.rb y.2.f.id&&Kb x.2.f.id y.2.f.id&&yR x.2.f y.2.r&&yR y.2.f x.2.r &&
 (!x.2.f.vc||y.2.rd.all NF)&&x.2.rd.all (yR y.2.f) && !x.2.f.wI && !y.2.f.wI &&
 !x.2.hb && !y.2.hb&&wR x.2.ob y.2.f.id&&wR y.2.ob x.2.f.id&&wR x.2.f.KY y.2.f.id&&wR y.2.f.KY x.2.f.id
def Bg(o:Oper)(i:Nat):Bool:=o.after.toList.any λe=>Region.binds .any e&&Nat.beq e.on i
def Al(gX:Array Oper):Nat->Oper->Nat->Bool
 | 0,o,i=>Bg o i
 |n+1,o,i=>Bg o i||o.after.toList.any λe=>Region.binds .any e&&(match gX[e.on]? with
  |some z=>Al gX n z i
  |none=>false)
def C4(gX:Array Oper):Nat->List (Oper×kq)->Bool
 |_,[]=>true
 |i,x::l=>x.1.after.toList.all (λe=>!Region.binds .any e||Nat.blt e.on i)&&l.all (λy=>Al gX 3 y.1 i||Bd gX x y)&&C4 gX (i+1) l
def Gb(σ:PS):PV->Option E
 | .e x=>if x.nr 3 then some x else none
 | .own id=>match σ.bo id with
  |some (.row nl _ n sz el)=>some (.sl nl n sz el)
  |some (.il nl _ _ n sz len el none)=>some (.sl true n 1 λk _=>.sl nl (len k) sz (el k))
  |_=>none
 | .iB id k=>match σ.bo id with
  |some (.il nl _ _ n sz len el none)=>if Nat.blt k n then some (.sl nl (len k) sz (el k))else none
  |_=>none
 |_=>none
def BI(T:List TI)(σ:PS):ResultVar->Option E
 | .tmp t=>Gb σ (σ.get t)
 | .cell a t=>match lJ T t with
  |some ti=>match σ.read (σ.get a) ti.i.size with
   |some (l,_,[])=>if ti.isAgg then(if(E.agg l).nr 3 then some (.agg l)else none)else match l with
    | [e]=>if e.nr 3 then some e else none
    |_=>none
   |_=>none
  |none=>none
def De(T:List TI)(σ:PS):List ResultVar->Option (List E)
 | []=>some []
 |x::l=>match BI T σ x,De T σ l with
  |some e,some es=>some (e::es)
  |_,_=>none
def Jz(T:List TI)(fn:Func)(σ:PS):Option E:=match De T σ fn.results.toList with
 |some [e]=>some e
 |some l=>some (.ik l)
 |none=>none
inductive Ex where
 |normal
 |exit (id:Nat)
 |ret
def D7:Code->Nat
 | .region id _ _=>id
 | .seq a _=>D7 a
 | .cond _ a _=>D7 a
 | .block _ b=>D7 b
 | .loop b=>D7 b
 |_=>0
def Bf:Nat->List E->List (Nat×PV)
 |_,[]=>[]
 |i,x::l=>(i,.e x)::Bf (i+1) l
def yM(fn:Func)(nl:Bool)(args:List E):PS:={ n:=fn.ntmps,nl:=nl,t:=Bf 0 args,b:=[] }
def kz{a b:Nat}:Nat.beq a b=true↔a=b:=⟨Nat.eq_of_beq_eq_true,λh=>by subst h;exact ck a⟩
def cJ{a b:Nat}(h:a≠b):Nat.beq a b=false:=by
 cases hb:Nat.beq a b with
 |false=>rfl
 |true=>exact absurd (kz.1 hb) h
def rM{α:Type}(k:Nat)(x:α)(l:List (Nat×α))(t:Nat):look ((k,x)::l) t=if k=t then some x else look l t:=by
 by_cases h:k=t
 .subst h;simp[look]
 .simp [look,h,cJ h]
def Fg{α:Type}(l:List (Nat×α))(d t:Nat)(h:d≠t):look (l.filter λx=>!Nat.beq x.1 d) t=look l t:=by
 induction l with
 |nil=>rfl
 |cons y l ih=>
  obtain⟨k,x⟩:=y;rw[List.filter_cons];by_cases hk:k=d
  .subst hk;simp only[ck,eQ,bV,bB];rw[ih,rM,bh h]
  .simp only[cJ hk,dZ,bC];rw[rM,rM,ih]
def IU{α:Type}(l:List (Nat×α))(f:α->α)(t:Nat):look (l.map λx=>(x.1,f x.2)) t=(look l t).map f:=by
 induction l with
 |nil=>rfl
 |cons y l ih=>
  obtain⟨k,x⟩:=y;rw[ee,rM,rM,ih];split<;>rfl
def PS.LH(σ:PS)(d:Nat)(p:PV)(t:Nat):(σ.put (some d) p).get t=if d=t then p else σ.get t:=by
 unfold PS.get PS.put;simp only[rM];by_cases h:d=t
 .rw [bj h,bj h];rfl
 .rw [bh h,bh h,Fg _ _ _ h]
def PS.YO(σ:PS)(d:Option Tmp)(p:PV)(id:Nat):(σ.put d p).bo id=σ.bo id:=by cases d<;>rfl
def PS.Nv(σ:PS)(d:Option Tmp)(p:PV):(σ.put d p).n=σ.n:=by cases d<;>rfl
def PS.af9(σ:PS)(d:Option Tmp)(p:PV):(σ.put d p).nl=σ.nl:=by cases d<;>rfl
def Bn(l:List (Nat×Bx))(id:Nat)(b:Bx)(t:Nat):look (s8 l id b) t=if id=t then some b else look l t:=by
 unfold s8;rw[rM];by_cases h:id=t
 .rw [bj h,bj h]
 .rw [bh h,bh h,Fg _ _ _ h]
def UD{α:Type}(l:List (Nat×α))(d:Nat):look (l.filter λx=>!Nat.beq x.1 d) d=none:=by
 induction l with
 |nil=>rfl
 |cons y l ih=>
  obtain⟨k,x⟩:=y;rw[List.filter_cons];by_cases hk:k=d
  .subst hk;simpa only[ck,eQ,bV,bB]using ih
  .simp only[cJ hk,dZ,bC];rw[rM,bh hk,ih]
def Bm{α:Type}(l:List (Nat×α))(i id:Nat):look (l.filter λx=>!Nat.beq x.1 i) id=if i=id then none else look l id:=by
 by_cases h:i=id
 .subst h;rw[bj rfl];exact UD _ _
 .rw [bh h];exact Fg _ _ _ h
def Bq(b:Bx):b.qE (λp=>p)=b:=by cases b<;>simp[Bx.qE]
def UM{b:Bx}{g:PV->PV}(h:∀ p,p ∈ b.Jp->g p=p):b.qE g=b:=by
 cases b with
 |pj nl T l=>
  simp only[Bx.qE,Bx.pj.injEq,eR]
  conv=>rhs;rw[<-List.map_id l]
  exact dx h
 |_=>rfl
def Br(b:Bx)(g:PV->PV):(b.qE g).nl=b.nl:=by cases b<;>rfl
def Xt{f:lQ}(h:f.vc=false)(p:PV):p.kN f=p:=by
 cases f<;>first|(exact Bool.noConfusion h)|(cases p<;>rfl)
def PS.zr(σ:PS)(f:lQ)(i:Nat):look (σ.pre f) i=(σ.bo i).map (Bx.qE (PV.kN f)):=by
 unfold PS.pre PS.bo;by_cases h:f.vc=true
 .rw [bj h,IU]
 .rw [bh h];cases look σ.b i with
  |none=>rfl
  |some b=>simp only[bZ];rw[UM λp _=>Xt (by simpa using h) p]
def PS.AP(σ:PS)(f:lQ)(t:Nat):(σ.np f).get t=(σ.get t).kN f:=by
 unfold PS.get PS.np;by_cases h:f.vc=true
 .simp only[h,bC];rw[IU];cases look σ.t t with
  |none=>cases f<;>rfl
  |some p=>rfl
 .have hv:∀ p:PV,p.kN f=p:=by
   intro p;cases f<;>first|exact absurd rfl h|(cases p<;>rfl)
  simp only[h,hv];rfl
def mA(bs br:Nat->Prop)(L:Lk)(w:World)(id:Nat):Bx->Prop
 | .cells T l=>∃ b vs,L.val id = .pointer (some ⟨b,0,none⟩)/\(∀ x,L.own id x↔x=b)/\w.heap[b]? = some (.cells vs.toArray T (0,0))/\jZ bs br w l vs/\∀ u,u ∈ vs->u.oneCell'=true
 | .row nl T n sz el=>∃ f:Nat->Nat->Value,mL w (L.val id) T n sz f nl/\(∀ x,L.own id x↔(L.val id).ownBlock=some x)/\∀ i j,i<n->j<sz->iC bs br w (el i j) (f i j)/\(el i j).nr 2=true
 | .il nl T1 T0 n sz len el pend=>(L.val id = .slice none 0 0/\n=0/\∀ x,¬L.own id x)\/vg bs br L w id nl T1 T0 n sz len el pend
 | .xT nl T1 T0 n sz len el c r=>vg bs br L w id nl T1 T0 n sz len el (some c)/\c<n/\r<n/\∀ (b ofs m q:Nat),L.val id = .slice (some ⟨b,ofs,none⟩) m q->w.cell? ⟨b,ofs+c,none⟩=some (L.iB id r)
 | .mS T b l=>∃ vs,L.val id = .pointer (some ⟨b,0,none⟩)/\(∀ x,L.own id x↔x=b)/\w.heap[b]? = some (.cells vs.toArray T (0,0))/\jZ bs br w l vs/\∀ u,u ∈ vs->u.oneCell'=true
 | .pj nl T l=>∃ (b:Nat) (vs:List Value),L.val id = .pointer (some ⟨b,0,none⟩)/\(∀ x,L.own id x↔x=b)/\w.heap[b]? = some (.cells vs.toArray T (0,0))/\vs.length=l.length /\
  (∀ (i:Nat) (p:PV) (v:Value),l[i]? = some p->vs[i]? = some v->kH bs br L w p v)/\∀ u,u ∈ vs->u.oneCell'=true/\(nl=true->pO u=false)
def mA.tR{bs br:Nat->Prop}{L:Lk}{w:World}{id:Nat}{nl:Bool}{T1 T0 n sz:Nat}{len:Nat->Nat}{el:Nat->Nat->Nat->E}{pend:Option Nat}(h:mA bs br L w id (.il nl T1 T0 n sz len el pend))(hn:0<n):
 vg bs br L w id nl T1 T0 n sz len el pend:=by
 rcases h with⟨_,h,_⟩|h
 .omega
 .exact h
structure lZ where
 w:World
 ex:Nat->Prop
def lZ.tf(o:lZ)(x:Nat):Prop:=x<o.w.heap.size/\¬o.ex x
structure sE(o:lZ)(w w':World):Prop where
 os:w'.os=w.os
 tape:w'.tape=w.tape
 output:w'.output=w.output
 size:w.heap.size<=w'.heap.size
 block:∀ x,o.tf x->w'.heap[x]? = w.heap[x]?
def sE.refl(o:lZ)(w:World):sE o w w:=⟨rfl,rfl,rfl,bl _,λ_ _=>rfl⟩
def sE.trans{o:lZ}{a b c:World}(h:sE o a b)(k:sE o b c):sE o a c:=⟨k.os.trans h.os,k.tape.trans h.tape,k.output.trans h.output,bK h.size k.size,λx hx=>(k.block x hx).trans (h.block x hx)⟩
def lZ.Vq{o:lZ}{n x:Nat}(h:o.w.heap.size<=n)(k:n<=x):¬o.tf x:=λh'=>absurd h'.1 (Nat.not_lt.2 (bK h k))
structure jb(w0:lZ)(B:Nat->Prop)(σ:PS)(a:Act)(w:World)(L:Lk):Prop where
 hd:a.defers=[]
 hs:a.tmps.size=σ.n
 ht:∀ t,kH (bad B L) (jg L) L w (σ.get t) (a.tmps.getD t undef)
 hb:∀ id b,σ.bo id=some b->mA (bad B L) (jg L) L w id b
 hv:∀ id,L.lL id↔(σ.bo id).isSome=true
 hn:∀ id x,L.own id x->L.lL id
 hw:∀ id x,L.own id x->¬w0.tf x/\x<w.heap.size
 hi:∀ id id' x,L.own id x->L.own id' x->id=id'
 he:sE w0 w0.w w
 hl:σ.nl=true->∀ id b,σ.bo id=some b->b.nl=true
def sE.below{a w w':World}(h:sE ⟨a,λ_=>False⟩ w w'):Below a.heap.size w w':=⟨h.os,h.tape,h.output,h.size,λx hx=>h.block x ⟨hx,λh=>h⟩⟩
def jb.SY{a:World}{B:Nat->Prop}{σ:PS}{c:Act}{w:World}{L:Lk}(r:jb ⟨a,λ_=>False⟩ B σ c w L){id x:Nat}(hx:L.own id x):a.heap.size<=x/\x<w.heap.size:=
 ⟨Nat.not_lt.1 λh=>(r.hw id x hx).1 ⟨h,λh=>h⟩,(r.hw id x hx).2⟩
structure qw(L:Lk)(w:World)(L':Lk)(w':World):Prop where
 size:w.heap.size<=w'.heap.size
 jg:∀ x,x<w.heap.size->Pu.jg L' x->Pu.jg L x
 nu:∀ x,x<w.heap.size->¬Pu.jg L x->w'.heap[x]? = w.heap[x]?
def qw.ko{B:Nat->Prop}{L L':Lk}{w w':World}(h:qw L w L' w'){e:E}{v:Value}(k:iC (bad B L) (Pu.jg L) w e v):iC (bad B L') (Pu.jg L') w' e v:=by
 refine k.mono h.size (λb hb hx=>?_) (λb hb hx=>h.jg b hb hx) (λb hb vv=>h.nu b hb ?_)
 .rcases hx with hx|hx
  .exact .inl hx
  .exact .inr (h.jg b hb hx)
 .rcases vv with vv|vv
  .exact λhm=>vv (.inr hm)
  .exact vv
def mL.block{w w':World}{v:Value}{T:TypeId}{n sz:Nat}{f:Nat->Nat->Value}{nl:Bool}(h:mL w v T n sz f nl)
 (hk:∀ x,v.ownBlock=some x->w'.heap[x]? = w.heap[x]?):mL w' v T n sz f nl:=by
 rcases h with h|⟨b,ofs,c,cur,rfl,hg,r⟩
 .exact .inl h
 .exact .inr ⟨b,ofs,c,cur,rfl,by rw[hk b rfl];exact hg,r⟩
def vg.map{B:Nat->Prop}{L L':Lk}{w w':World}(h:qw L w L' w'){id:Nat}{nl:Bool}{T1 T0 n sz:Nat}{len:Nat->Nat}{el:Nat->Nat->Nat->E}{pend:Option Nat}(k:vg (bad B L) (jg L) L w id nl T1 T0 n sz len el pend)
 (hv:L'.val id=L.val id) (ho:∀ x,L'.own id x↔L.own id x) (jP:∀ j,L'.iB id j=L.iB id j) (hk:∀ x,L.own id x->w'.heap[x]? = w.heap[x]?):vg (bad B L') (jg L') L' w' id nl T1 T0 n sz len el pend:=by
 obtain⟨b,ofs,c,cur,f,h1,h2,h3,h4,h5,h6,h7,h8,h9,mY,mZ⟩:=k;have e:L'.iB id=L.iB id:=funext jP;refine⟨b,ofs,c,cur,f,by rw[hv];exact h1,by rw[hk b ((h9 b).2 (.inl rfl))];exact h2,h3,h4,h5,by rw[e];exact h6,h7,?_,?_,by rw[e];exact mY,by rw[e];exact mZ⟩
 .intro k vq;obtain⟨q1,q2⟩:=h8 k vq;rw[e];exact⟨q1.block λx hx=>hk x ((h9 x).2 (.inr ⟨k,vq,hx⟩)),λi j hi hj=>⟨h.ko (q2 i j hi hj).1,(q2 i j hi hj).2⟩⟩
 .intro x;rw[ho,e];exact h9 x
def mA.map{B:Nat->Prop}{L L':Lk}{w w':World}(h:qw L w L' w'){id:Nat}{b:Bx}{g g':PV->PV}(k:mA (bad B L) (jg L) L w id (b.qE g))
 (hv:L'.val id=L.val id) (ho:∀ x,L'.own id x↔L.own id x) (jP:∀ j,L'.iB id j=L.iB id j) (hk:∀ x,L.own id x->w'.heap[x]? = w.heap[x]?)
 (hT:∀ p v,p ∈ b.Jp->kH (bad B L) (jg L) L w (g p) v->kH (bad B L') (jg L') L' w' (g' p) v):mA (bad B L') (jg L') L' w' id (b.qE g'):=by
 cases b with
 |pj nl T l=>
  obtain⟨b,vs,h1,h2,h3,h4,h5,h6⟩:=k;refine⟨b,vs,by rw[hv];exact h1,λx=>(ho x).trans (h2 x),by rw[hk b ((h2 b).2 rfl)];exact h3,by simpa using h4,λi p v hp hx=>?_,h6⟩;rw[cD]at hp;obtain⟨q,hq,rfl⟩:=bQ.1 hp;exact hT q v (dw hq) (h5 i (g q) v (by rw[cD,hq];rfl) hx)
 |cells T l=>
  obtain⟨b,vs,h1,h2,h3,h4,h5⟩:=k;exact⟨b,vs,by rw[hv];exact h1,λx=>(ho x).trans (h2 x),by rw[hk b ((h2 b).2 rfl)];exact h3,h4.mono λ_ _=>h.ko,h5⟩
 |row nl T n sz el=>
  obtain⟨f,h1,h2,h3⟩:=k;exact⟨f,by rw[hv];exact h1.block λx hx=>hk x ((h2 x).2 hx),λx=>by rw[ho,hv];exact h2 x,λi j hi hj=>⟨h.ko (h3 i j hi hj).1,(h3 i j hi hj).2⟩⟩
 |mS T b l=>
  obtain⟨vs,h1,h2,h3,h4,h5⟩:=k;exact⟨vs,by rw[hv];exact h1,λx=>(ho x).trans (h2 x),by rw[hk b ((h2 b).2 rfl)];exact h3,h4.mono λ_ _=>h.ko,h5⟩
 |xT nl T1 T0 n sz len el c r=>
  obtain⟨k,k1,k2,k3⟩:=k;have e:L'.iB id=L.iB id:=funext jP;refine⟨vg.map h k hv ho jP hk,k1,k2,λb ofs m q hq=>?_⟩;rw[hv]at hq;obtain⟨b0,_,_,_,_,g1,_,_,_,_,_,_,_,g9,_⟩:=k;have lG:b0=b:=by rw[hq]at g1;cases g1;rfl
  subst lG;rw[World.cell?_of_block (w:=w) (hk b0 ((g9 b0).2 (.inl rfl))),e];exact k3 b0 ofs m q hq
 |il nl T1 T0 n sz len el pend=>
  rcases k with⟨h1,h2,h3⟩|k
  .exact .inl ⟨by rw[hv];exact h1,h2,λx hx=>h3 x ((ho x).1 hx)⟩
  exact .inr (vg.map h k hv ho jP hk)
def mA.later{B:Nat->Prop}{L L':Lk}{w w':World}(h:qw L w L' w'){id:Nat}{b:Bx}(k:mA (bad B L) (jg L) L w id b)
 (hv:L'.val id=L.val id) (ho:∀ x,L'.own id x↔L.own id x) (jP:∀ j,L'.iB id j=L.iB id j) (hk:∀ x,L.own id x->w'.heap[x]? = w.heap[x]?)
 (hT:∀ p v,p ∈ b.Jp->kH (bad B L) (jg L) L w p v->kH (bad B L') (jg L') L' w' p v):mA (bad B L') (jg L') L' w' id b:=by
 have:=mA.map (g:=λp=>p) (g':=λp=>p) h (b:=b) (by rw[Bq];exact k) hv ho jP hk hT;rwa[Bq]at this
def vZ.later{B:Nat->Prop}{L L':Lk}{w w':World}(h:qw L w L' w'){c:CV}{v:Value}(k:vZ (bad B L) (jg L) L w c v)
 (hv:∀ id,L.lL id->L'.lL id/\L'.val id=L.val id):vZ (bad B L') (jg L') L' w' c v:=by
 cases c with
 |e x=>exact h.ko k
 |box id=>obtain⟨k1,b,k2,k3⟩:=k;exact⟨(hv id k1).1,b,by rw[(hv id k1).2];exact k2,k3⟩
 |row id=>obtain⟨k1,b,ofs,n,c,k2,k3⟩:=k;exact⟨(hv id k1).1,b,ofs,n,c,by rw[(hv id k1).2];exact k2,k3⟩
def kH.later{B:Nat->Prop}{L L':Lk}{w w':World}(h:qw L w L' w'){p:PV}{v:Value}(k:kH (bad B L) (jg L) L w p v)
 (hv:∀ id,L.lL id->L'.lL id/\L'.val id=L.val id/\∀ j,L'.iB id j=L.iB id j):kH (bad B L') (jg L') L' w' p v:=by
 cases p with
 |e x=>exact h.ko k
 |box id off=>obtain⟨k1,b,k2,k3⟩:=k;exact⟨(hv id k1).1,b,by rw[(hv id k1).2.1];exact k2,k3⟩
 |own id=>obtain⟨k1,k2⟩:=k;exact⟨(hv id k1).1,by rw[(hv id k1).2.1];exact k2⟩
 |ny id sz i j=>obtain⟨k1,b,ofs,n,c,k2,k3⟩:=k;exact⟨(hv id k1).1,b,ofs,n,c,by rw[(hv id k1).2.1];exact k2,k3⟩
 |iB id q=>obtain⟨k1,k2⟩:=k;exact⟨(hv id k1).1,by rw[(hv id k1).2.2];exact k2⟩
 |qo id sz q i j=>obtain⟨k1,b,ofs,n,c,k2,k3⟩:=k;exact⟨(hv id k1).1,b,ofs,n,c,by rw[(hv id k1).2.2];exact k2,k3⟩
 |qh f cap=>
  obtain⟨vs,k1,k2,k3⟩:=k;exact⟨vs,k1,k2,λi c x hc hx=>(k3 i c x hc hx).later h λid hl=>⟨(hv id hl).1,(hv id hl).2.1⟩⟩
def kH.move{B:Nat->Prop}{L L':Lk}{w w':World}(h:qw L w L' w'){p:PV}{v:Value}(k:kH (bad B L) (jg L) L w p v)
 (hv:∀ id,id ∈ p.kK->L.lL id->L'.lL id/\L'.val id=L.val id/\∀ j,L'.iB id j=L.iB id j):kH (bad B L') (jg L') L' w' p v:=by
 cases p with
 |e x=>exact h.ko k
 |box id off=>obtain⟨k1,b,k2,k3⟩:=k;have q:=hv id (by simp[PV.kK]) k1;exact⟨q.1,b,by rw[q.2.1];exact k2,k3⟩
 |own id=>obtain⟨k1,k2⟩:=k;have q:=hv id (by simp[PV.kK]) k1;exact⟨q.1,by rw[q.2.1];exact k2⟩
 |ny id sz i j=>obtain⟨k1,b,ofs,n,c,k2,k3⟩:=k;have q:=hv id (by simp[PV.kK]) k1;exact⟨q.1,b,ofs,n,c,by rw[q.2.1];exact k2,k3⟩
 |iB id r=>obtain⟨k1,k2⟩:=k;have q:=hv id (by simp[PV.kK]) k1;exact⟨q.1,by rw[q.2.2];exact k2⟩
 |qo id sz r i j=>obtain⟨k1,b,ofs,n,c,k2,k3⟩:=k;have q:=hv id (by simp[PV.kK]) k1;exact⟨q.1,b,ofs,n,c,by rw[q.2.2];exact k2,k3⟩
 |qh f cap=>
  obtain⟨vs,k1,k2,k3⟩:=k;refine⟨vs,k1,k2,λi c x hc hx=>?_⟩;have q:=k3 i c x hc hx;cases c with
  |e y=>exact h.ko q
  |box id=>
   obtain⟨q1,b,q2,q3⟩:=q;have r:=hv id (by simp only[PV.kK,eU];exact⟨.box id,dw hc,by simp[CV.kK]⟩) q1;exact⟨r.1,b,by rw[r.2.1];exact q2,q3⟩
  |row id=>
   obtain⟨q1,b,ofs,n,c,q2,q3⟩:=q;have r:=hv id (by simp only[PV.kK,eU];exact⟨.row id,dw hc,by simp[CV.kK]⟩) q1;exact⟨r.1,b,ofs,n,c,by rw[r.2.1];exact q2,q3⟩
def jb.later{w0:lZ}{B:Nat->Prop}{σ:PS}{a:Act}{w w':World}{L:Lk}(r:jb w0 B σ a w L)(h:Below w.heap.size w w'):jb w0 B σ a w' L:=by
 have hl:qw L w L w':=⟨h.size,λ_ _ h=>h,λx hx _=>h.block x hx⟩
 refine⟨r.hd,r.hs,λt=>(r.ht t).later hl λid k=>⟨k,rfl,λ_=>rfl⟩,λid b hb=>(r.hb id b hb).later hl rfl (λ_=>Iff.rfl) (λ_=>rfl) (λx hx=>h.block x (r.hw id x hx).2) (λp v _ k=>k.later hl λid k=>⟨k,rfl,λ_=>rfl⟩),r.hv,r.hn,
  λid x hx=>⟨(r.hw id x hx).1,bO (r.hw id x hx).2 h.size⟩,r.hi,r.he.trans ⟨h.os,h.tape,h.output,h.size,λx hx=>h.block x (bO hx.1 r.he.size)⟩,r.hl⟩
def jb.drew{w0:lZ}{B:Nat->Prop}{σ:PS}{a:Act}{w:World}{L:Lk}(r:jb w0 B σ a w L):jb w0 B σ a w.drew L:=r.later (Below.refl _ _).drew
def jb.put{w0:lZ}{B:Nat->Prop}{σ:PS}{a:Act}{w:World}{L:Lk}(r:jb w0 B σ a w L)(d:Option Tmp)(p:PV)(v:Value)(hd:vD σ d=true)(hp:kH (bad B L) (jg L) L w p v):jb w0 B (σ.put d p) (a.put d v) w L:=by
 cases d with
 |none=>exact r
 |some d=>
  have AR:d<σ.n:=by simpa[vD,eV]using hd
  refine⟨r.hd,by simp[Act.put,r.hs,PS.Nv],λt=>?_,λid b hb=>r.hb id b hb,r.hv,r.hn,r.hw,r.hi,r.he,r.hl⟩;rw[PS.LH];by_cases h:d=t
  .subst h;rw[bj rfl];have:(a.put (some d) v).tmps.getD d undef=v:=by
    simp[Act.put,aky,r.hs,AR]
   rw[this];exact hp
  .rw [bh h];have:(a.put (some d) v).tmps.getD t undef=a.tmps.getD t undef:=by
    simp[Act.put,fm h]
   rw[this];exact r.ht t
def jb.op{w0:lZ}{B:Nat->Prop}{σ:PS}{a:Act}{w:World}{L:Lk}(r:jb w0 B σ a w L)(x:Operand):kH (bad B L) (jg L) L w (σ.op x) (a.eval x):=by
 cases x with
 |tmp t=>exact r.ht t
 |const v=>exact .v v
 |global g=>exact .v _
 |func f=>exact .fn f [] [] rfl (λi p x h=>by simp at h)
def Lk.set(L:Lk)(id:Nat)(O:Nat->Prop)(v:Value)(iB:Nat->Value):Lk:=
 {lL:=λi=>i=id\/L.lL i
  own:=λi x=>if i=id then O x else L.own i x
  val:=λi=>if i=id then v else L.val i
  iB:=λi=>if i=id then iB else L.iB i }
section
variable {L:Lk} {id:Nat} {O:Nat->Prop} {v:Value} {iB:Nat->Value}
def Lk.oP(x:Nat):(L.set id O v iB).own id x↔O x:=by simp[Lk.set]
def Lk.mz:(L.set id O v iB).val id=v:=by simp[Lk.set]
def Lk.nm(k:Nat):(L.set id O v iB).iB id k=iB k:=by simp[Lk.set]
def Lk.xR:(L.set id O v iB).lL id:=.inl rfl
def Lk.wY{i:Nat}(h:i≠id)(x:Nat):(L.set id O v iB).own i x↔L.own i x:=by simp[Lk.set,h]
def Lk.xS{i:Nat}(h:i≠id):(L.set id O v iB).val i=L.val i:=by simp[Lk.set,h]
def Lk.BT{i:Nat}(h:i≠id)(k:Nat):(L.set id O v iB).iB i k=L.iB i k:=by simp[Lk.set,h]
end
structure ph(L:Lk)(w:World)(id:Nat)(O:Nat->Prop)(w':World):Prop where
 own:∀ x,O x->(L.own id x\/w.heap.size<=x)/\x<w'.heap.size
 size:w.heap.size<=w'.heap.size
 nu:∀ x,x<w.heap.size->¬L.own id x->w'.heap[x]? = w.heap[x]?
 os:w'.os=w.os
 tape:w'.tape=w.tape
 output:w'.output=w.output
def ph.later{L:Lk}{w:World}{id:Nat}{O:Nat->Prop}{w':World}(h:ph L w id O w')(v:Value)(iB:Nat->Value):qw L w (L.set id O v iB) w':=by
 refine⟨h.size,λx hx hm=>?_,λx hx hm=>h.nu x hx λho=>hm ⟨id,ho⟩⟩;obtain⟨i,hi⟩:=hm;by_cases e:i=id
 .subst e;rcases(h.own x ((Lk.oP x).1 hi)).1 with k|k
  .exact ⟨i,k⟩
  .omega
 .exact ⟨i,(Lk.wY e x).1 hi⟩
def jb.set{w0:lZ}{B:Nat->Prop}{σ:PS}{a:Act}{w:World}{L:Lk}(r:jb w0 B σ a w L)(id:Nat)(b':Bx)(O:Nat->Prop)(v:Value)(iB:Nat->Value)(w':World)(f:lQ)
 (hf:f.KM (σ.pre f)=s8 (σ.pre f) id b') (ht:ph L w id O w')
 (hB:mA (bad B (L.set id O v iB)) (jg (L.set id O v iB)) (L.set id O v iB) w' id b')
 (hT:∀ p v0,kH (bad B L) (jg L) L w p v0->kH (bad B (L.set id O v iB)) (jg (L.set id O v iB)) (L.set id O v iB) w' (p.kN f) v0)
 (jB:σ.nl=true->b'.nl=true):jb w0 B (σ.np f) a w' (L.set id O v iB):=by
 have hl:=ht.later v iB;have iN:∀ i,(σ.np f).bo i=if id=i then some b' else(σ.bo i).map (Bx.qE (PV.kN f)):=by
  intro i;show look (f.KM (σ.pre f)) i=_;rw[hf,Bn,PS.zr]
 have og:sE w0 w w':=⟨ht.os,ht.tape,ht.output,ht.size,λx hx=>ht.nu x (bO hx.1 r.he.size) λho=>(r.hw id x ho).1 hx⟩
 refine⟨r.hd,r.hs,λt=>?_,λi b hb=>?_,λi=>?_,λi x hx=>?_,λi x hx=>?_,λi j x hi hj=>?_,r.he.trans og,λxz i b hb=>?_⟩
 .rw [PS.AP];exact hT _ _ (r.ht t)
 .rw [iN]at hb;by_cases e:id=i
  .subst e;rw[bj rfl]at hb;cases hb;exact hB
  .rw [bh e]at hb;have e':i≠id:=λh=>e h.symm
   obtain⟨b0,lG,rfl⟩:=bQ.1 hb;exact mA.map (g:=λp=>p) hl (by rw[Bq];exact r.hb i b0 lG) (Lk.xS e') (Lk.wY e') (Lk.BT e') (λx hx=>ht.nu x (r.hw i x hx).2 λho=>e (r.hi id i x ho hx)) λp v _ k=>hT p v k
 .rw [iN];by_cases e:id=i
  .subst e;rw[bj rfl];simp[Lk.set]
  .rw [bh e];have e':i≠id:=λh=>e h.symm
   simp only[Lk.set,e',false_or,eu];exact r.hv i
 .by_cases e:i=id
  .exact .inl e
  .exact .inr (r.hn i x ((Lk.wY e x).1 hx))
 .by_cases e:i=id
  .subst e;obtain⟨k1,k2⟩:=ht.own x ((Lk.oP x).1 hx);refine⟨?_,k2⟩;rcases k1 with k1|k1
   .exact (r.hw i x k1).1
   .exact lZ.Vq r.he.size k1
  .have:=r.hw i x ((Lk.wY e x).1 hx);exact⟨this.1,bO this.2 ht.size⟩
 .by_cases e1:i=id
  .by_cases e2:j=id
   .rw [e1,e2]
   .have k2:=(Lk.wY e2 x).1 hj;subst e1;rcases(ht.own x ((Lk.oP x).1 hi)).1 with k|k
    .exact r.hi _ _ x k k2
    .have:=(r.hw j x k2).2;omega
  .have k1:=(Lk.wY e1 x).1 hi;by_cases e2:j=id
   .subst e2;rcases(ht.own x ((Lk.oP x).1 hj)).1 with k|k
    .exact r.hi _ _ x k1 k
    .have:=(r.hw i x k1).2;omega
   .exact r.hi _ _ x k1 ((Lk.wY e2 x).1 hj)
 .rw [iN]at hb;by_cases e:id=i
  .rw [bj e]at hb;cases hb;exact jB xz
  .rw [bh e]at hb;obtain⟨b0,lG,rfl⟩:=bQ.1 hb;rw[Br];exact r.hl xz i b0 lG
def jb.new{w0:lZ}{B:Nat->Prop}{σ:PS}{a:Act}{w:World}{L:Lk}(r:jb w0 B σ a w L)(id:Nat)(b':Bx)(O:Nat->Prop)(v:Value)(iB:Nat->Value)(w':World)
 (kg:σ.bo id=none) (hO:∀ x,O x->w.heap.size<=x/\x<w'.heap.size) (hb:Below w.heap.size w w')
 (hB:mA (bad B (L.set id O v iB)) (jg (L.set id O v iB)) (L.set id O v iB) w' id b')
 (jB:(!σ.nl||b'.nl)=true):jb w0 B (σ.np (.new id b')) a w' (L.set id O v iB):=by
 have Sm:¬L.lL id:=λh=>by have:=(r.hv id).1 h;rw[kg]at this;simp at this
 have ht:ph L w id O w':=⟨λx hx=>⟨.inr (hO x hx).1,(hO x hx).2⟩,hb.size,λx hx _=>hb.block x hx,hb.os,hb.tape,hb.output⟩
 refine r.set id b' O v iB w' (.new id b') rfl ht hB (λp v0 hp=>?_) (λh=>by simpa[h]using jB);have jQ:∀ {i},L.lL i->i≠id:=λh e=>Sm (e▸h)
 have:p.kN (.new id b')=p:=by cases p<;>rfl
 rw[this];exact hp.later (ht.later v iB) λi hi=>⟨.inr hi,Lk.xS (jQ hi),λj=>Lk.BT (jQ hi) j⟩
def jb.ot{w0:lZ}{B:Nat->Prop}{σ:PS}{a:Act}{w:World}{L:Lk}(r:jb w0 B σ a w L)(id:Nat)(b':Bx)(w':World)
 (oV:L.lL id) (ht:ph L w id (L.own id) w')
 (hB:mA (bad B (L.set id (L.own id) (L.val id) (L.iB id))) (jg (L.set id (L.own id) (L.val id) (L.iB id))) (L.set id (L.own id) (L.val id) (L.iB id)) w' id b')
 (jB:σ.nl=true->b'.nl=true):jb w0 B (σ.np (.ot id b')) a w' (L.set id (L.own id) (L.val id) (L.iB id)):=by
 refine r.set id b' _ _ _ w' (.ot id b') rfl ht hB (λp v0 hp=>?_) jB;have:p.kN (.ot id b')=p:=by cases p<;>rfl
 rw[this];refine hp.later (ht.later _ _) λi hi=>⟨.inr hi,?_,λj=>?_⟩
 .by_cases e:i=id
  .subst e;exact Lk.mz
  .exact Lk.xS e
 .by_cases e:i=id
  .subst e;exact Lk.nm j
  .exact Lk.BT e j
def jb.ou{w0:lZ}{B:Nat->Prop}{σ:PS}{a:Act}{w:World}{L:Lk}(r:jb w0 B σ a w L)(id:Nat)(b':Bx)(O:Nat->Prop)(v:Value)(w':World)
 (hp:∀ b,L.val id ≠ .pointer (some b)) (ht:ph L w id O w')
 (hB:mA (bad B (L.set id O v (L.iB id))) (jg (L.set id O v (L.iB id))) (L.set id O v (L.iB id)) w' id b')
 (jB:σ.nl=true->b'.nl=true):jb w0 B (σ.np (.ou id b')) a w' (L.set id O v (L.iB id)):=by
 have hl:=ht.later v (L.iB id);refine r.set id b' O v (L.iB id) w' (.ou id b') rfl ht hB (λp v0 qM=>?_) jB;have zM:∀ i j,(L.set id O v (L.iB id)).iB i j=L.iB i j:=λi j=>by
  by_cases e:i=id
  .subst e;exact Lk.nm j
  .exact Lk.BT e j
 cases p with
 |e x=>exact hl.ko qM
 |box i off=>
  obtain⟨k1,b,k2,k3⟩:=qM;have e:i≠id:=λe=>by subst e;exact hp _ k2
  exact⟨.inr k1,b,by rw[Lk.xS e];exact k2,k3⟩
 |own i=>
  by_cases e:i=id
  .subst e;simp only[PV.kN,ck,bC];exact .any _
  .simp only[PV.kN,cJ e,bV,bB];exact⟨.inr qM.1,by rw[Lk.xS e];exact qM.2⟩
 |ny i s x j=>
  by_cases e:i=id
  .subst e;simp only[PV.kN,ck,bC];exact .any _
  .simp only[PV.kN,cJ e,bV,bB];obtain⟨k1,b,ofs,n,c,k2,k3⟩:=qM;exact⟨.inr k1,b,ofs,n,c,by rw[Lk.xS e];exact k2,k3⟩
 |iB i k=>exact⟨.inr qM.1,by rw[zM];exact qM.2⟩
 |qo i s k x j=>obtain⟨k1,b,ofs,n,c,k2,k3⟩:=qM;exact⟨.inr k1,b,ofs,n,c,by rw[zM];exact k2,k3⟩
 |qh f cap=>
  cases pW:cap.any (CV.EV id)with
  |true=>simp only[PV.kN,pW,bC];exact .any _
  |false=>
   simp only[PV.kN,pW,bV,bB];obtain⟨vs,k1,k2,k3⟩:=qM;refine⟨vs,k1,k2,λi c x hc hx=>?_⟩;have hk:=k3 i c x hc hx;cases c with
   |e y=>exact hl.ko hk
   |box q=>
    obtain⟨q1,b,q2,q3⟩:=hk;have e:q≠id:=λe=>by subst e;exact hp _ q2
    exact⟨.inr q1,b,by rw[Lk.xS e];exact q2,q3⟩
   |row q=>
    obtain⟨q1,b,ofs,n,c,q2,q3⟩:=hk;have e:q≠id:=λe=>by
     have:=cw.1 pW (.row q) (dw hc);subst e;simp[CV.EV]at this
    exact⟨.inr q1,b,ofs,n,c,by rw[Lk.xS e];exact q2,q3⟩
def jb.rG{w0:lZ}{B:Nat->Prop}{σ:PS}{a:Act}{w:World}{L:Lk}(r:jb w0 B σ a w L)(id:Nat)(b':Bx)(O:Nat->Prop)(iB:Nat->Value)(w':World)
 (ht:ph L w id O w')
 (hB:mA (bad B (L.set id O (L.val id) iB)) (jg (L.set id O (L.val id) iB)) (L.set id O (L.val id) iB) w' id b')
 (jB:σ.nl=true->b'.nl=true):jb w0 B (σ.np (.rG id b')) a w' (L.set id O (L.val id) iB):=by
 have hl:=ht.later (L.val id) iB;refine r.set id b' O (L.val id) iB w' (.rG id b') rfl ht hB (λp v0 qM=>?_) jB;have mm:∀ i,(L.set id O (L.val id) iB).val i=L.val i:=λi=>by
  by_cases e:i=id
  .subst e;exact Lk.mz
  .exact Lk.xS e
 cases p with
 |e x=>exact hl.ko qM
 |box i off=>obtain⟨k1,b,k2,k3⟩:=qM;exact⟨.inr k1,b,by rw[mm];exact k2,k3⟩
 |own i=>exact⟨.inr qM.1,by rw[mm];exact qM.2⟩
 |ny i s x j=>obtain⟨k1,b,ofs,n,c,k2,k3⟩:=qM;exact⟨.inr k1,b,ofs,n,c,by rw[mm];exact k2,k3⟩
 |iB i k=>
  by_cases e:i=id
  .subst e;simp only[PV.kN,ck,bC];exact .any _
  .simp only[PV.kN,cJ e,bV,bB];exact⟨.inr qM.1,by rw[Lk.BT e];exact qM.2⟩
 |qo i s k x j=>
  by_cases e:i=id
  .subst e;simp only[PV.kN,ck,bC];exact .any _
  .simp only[PV.kN,cJ e,bV,bB];obtain⟨k1,b,ofs,n,c,k2,k3⟩:=qM;exact⟨.inr k1,b,ofs,n,c,by rw[Lk.BT e];exact k2,k3⟩
 |qh f cap=>
  obtain⟨vs,k1,k2,k3⟩:=qM;refine⟨vs,k1,k2,λi c x hc hx=>(k3 i c x hc hx).later hl λj hj=>⟨.inr hj,mm j⟩⟩
structure Km(w:World)(v:Value)(T:TypeId)(n sz m:Nat)(f g:Nat->Nat->Value)(nl:Bool)(v':Value)(w':World):Prop where
 own:mL w' v' T (n+m) sz (λi j=>if i<n then f i j else g (i-n) j) nl
 DL:∀ x,v'.ownBlock=some x->v.ownBlock=some x\/(w.heap.size<=x/\x<w'.heap.size)
 size:w.heap.size<=w'.heap.size
 nu:∀ x,x<w.heap.size->v.ownBlock≠some x->w'.heap[x]? = w.heap[x]?
 os:w'.os=w.os
 tape:w'.tape=w.tape
 output:w'.output=w.output
def pU(n sz:Nat)(f:Nat->Nat->Value):List Value:=(List.range (n*sz)).map λq=>f (q/sz) (q%sz)
def vp(n sz:Nat)(f:Nat->Nat->Value):(pU n sz f).length=n*sz:=by simp[pU]
def Rr{n sz:Nat}{f:Nat->Nat->Value}{i j:Nat}(hi:i<n)(hj:j<sz):(pU n sz f)[i*sz+j]? = some (f i j):=by
 have h1:i*sz+j<n*sz:=by
  have:=bN sz (show i+1<=n from hi);rw[bS,cj]at this;omega
 have h2:(i*sz+j)/sz=i:=by rw[bM,gJ aA,dk hj,bW]
 have h3:(i*sz+j)%sz=j:=by rw[bM,fo,ct hj]
 simp[pU,h1,h2,h3]
def D8{n sz:Nat}{f:Nat->Nat->Value}{q:Nat}{u:Value}(h:(pU n sz f)[q]? = some u):q/sz<n/\q%sz<sz/\u=f (q/sz) (q%sz)/\q/sz*sz+q%sz=q:=by
 unfold pU at h;rw[cD]at h;obtain⟨x,hx,rfl⟩:=bQ.1 h;obtain⟨h1,h2⟩:=ca.1 hx;simp at h1 h2;subst h2;have hz:0<sz:=by
  rcases ev sz with h0|h0
  .subst h0;simp at h1
  .exact h0
 exact⟨(cF hz).2 h1,bI _ hz,rfl,by rw[bM];exact cQ q sz⟩
def ah9{P:Program}(w:World)(t ty e:TypeId)(i:TypeInfo)(ht:P.underlying t=some (.slice e))(hi:P.info? e=some i)
 (g ofs sLen sCap:Nat) (cur:Array Value) (hg:w.heap[g]? = some (.cells cur e (0,0)))
 (a:Addr) (m c:Nat) (news:List Value) (hl:news.length=m*i.size) (Ev:∀ j u,news[j]? = some u->w.cell? (a.add j)=some u) (h1:∀ u ∈ news,u.oneCell'=true)
 (EA:sLen+m<=sCap) (pN:ofs+sLen*i.size+news.length<=cur.size):
 (Builtin.append_ #[t,t] ty #[.slice (some ⟨g,ofs,none⟩) sLen sCap,.slice (some a) m c]).run P w =
  .ok (.slice (some ⟨g,ofs,none⟩) (sLen+m) sCap) (w.setRow g (cur.toList.take (ofs+sLen*i.size)++news++cur.toList.drop (ofs+sLen*i.size+news.length)).toArray):=by
 have hf:=run_firstCells_some (P:=P) w i.size m a m c news hl Ev;have zR:=run_storeCells_at P g (ofs+sLen*i.size) e news 0 cur w hg (by simpa using pN) h1;simp only[bW]at zR;simp[Builtin.append_,run_underlying ht,sizeOf,typeInfo,hi,Builtin.lenOf,EA,hf,Addr.add_lit,zR]
def Wt(P:Program)(w:World)(t ty e:TypeId)(i:TypeInfo)(z:Value)(sz:Nat)(ht:P.underlying t=some (.slice e))(hi:P.info? e=some i)(hz:i.zero=some z)
 (sU:i.size=sz) (Ta:z.cells.size=sz) (mG:0<sz) (jz:1<=i.bytes) (aj3:∀ u,u ∈ z.cells->u.oneCell'=true)
 (v:Value) (n:Nat) (f:Nat->Nat->Value) (nl:Bool) (lp:mL w v e n sz f nl)
 (A:Option Addr) (m c:Nat) (g:Nat->Nat->Value) (hA:∀ k j,k<m->j<sz->∃ b o,A=some ⟨b,o,none⟩/\w.cell? ⟨b,o+(k*sz+j),none⟩=some (g k j)) (Cn:A=none->m=0)
 (h1:∀ k j,k<m->j<sz->(g k j).oneCell'=true/\(nl=true->pO (g k j)=false)) (S9:nl=true->∀ u,u ∈ z.cells->pO u=false)
 (Hw:(n+m)*i.bytes<=140737488355328):
 ∃ v' w',(Builtin.append_ #[t,t] ty #[v,.slice A m c]).run P w = .ok v' w'/\Km w v e n sz m f g nl v' w':=by
 have hle:n+m<=(n+m)*i.bytes:=fS _ jz;have LJ:n+m<=maxLen:=by unfold maxLen;omega
 have yu:∀ i j,i<n+m->j<sz->(pU n sz f++pU m sz g)[i*sz+j]? = some (if i<n then f i j else g (i-n) j):=by
  intro i j hi hj;by_cases jP:i<n
  .rw [bj jP,dg,Rr jP hj];rw[vp];have:=bN sz (show i+1<=n from jP);rw[bS,cj]at this;omega
  .rw [bh jP,dH,vp]
   .have:i*sz+j-n*sz=(i-n)*sz+j:=by
     have:=Nat.sub_mul i n sz;have:=bN sz (aA:n<=i);omega
    rw[this,Rr aA hj]
   .rw [vp];have:=bN sz (aA:n<=i);omega
 have vu:∀ i j,i<n+m->j<sz->(if i<n then f i j else g (i-n) j).oneCell'=true:=by
  intro i j hi hj;split
  .rename_i jP;rcases lp with⟨_,h0⟩|⟨b,ofs,c,cur,_,_,_,_,_,hc,_⟩
   .omega
   .exact (hc i j jP hj).2
  .rename_i jP;exact(h1 (i-n) j aA hj).1
 have h1':∀ u ∈ pU m sz g,u.oneCell'=true:=by
  intro u hu;obtain⟨q,hq⟩:=dh.1 hu;obtain⟨q1,q2,rfl,_⟩:=D8 hq;exact(h1 _ _ q1 q2).1
 have gnl:nl=true->∀ u,u ∈ pU m sz g->pO u=false:=by
  intro hn u hu;obtain⟨q,hq⟩:=dh.1 hu;obtain⟨q1,q2,rfl,_⟩:=D8 hq;exact(h1 _ _ q1 q2).2 hn
 rcases A with _|ad
 .have hm:=Cn rfl;subst hm;rcases lp with⟨rfl,rfl⟩|⟨b,ofs,cc,cur,rfl,hg,oW,nM,oh,ku,jB⟩
  .refine ⟨.slice none 0 0,w,?_,.inl ⟨rfl,rfl⟩,λx hx=>.inl hx,bl _,λ_ _ _=>rfl,rfl,rfl,rfl⟩;simp[Builtin.append_,run_underlying ht,sizeOf,typeInfo,hi,Builtin.lenOf,Builtin.firstCells,loadCells,loadCellsFrom]
  .refine ⟨.slice (some ⟨b,ofs,none⟩) n cc,w,?_,.inr ⟨b,ofs,cc,cur,rfl,hg,oW,nM,oh,?_,jB⟩,λx hx=>.inl hx,bl _,λ_ _ _=>rfl,rfl,rfl,rfl⟩
   .simp [Builtin.append_,run_underlying ht,sizeOf,typeInfo,hi,Builtin.lenOf,Builtin.firstCells,oW,storeCells]
   .intro i j hi hj;have jP:i<n:= aA ;simp only[jP,bC];exact ku i j jP hj
 .have Ev:∀ j u,(pU m sz g)[j]? = some u->w.cell? (ad.add j)=some u:=by
   intro q u hq;obtain⟨q1,q2,rfl,q4⟩:=D8 hq;obtain⟨b,o,e,hc⟩:=hA _ _ q1 q2;cases e;rw[q4]at hc;rw[show(⟨b,o,none⟩:Addr).add q=⟨b,o+q,none⟩from Addr.add_lit _ _ _];exact hc
  rcases lp with⟨rfl,rfl⟩|⟨b,ofs,cc,cur,rfl,hg,oW,nM,oh,ku,jB⟩
  .by_cases hm:m=0
   .subst hm;refine⟨.slice none 0 0,w,?_,.inl ⟨rfl,rfl⟩,λx hx=>.inl hx,bl _,λ_ _ _=>rfl,rfl,rfl,rfl⟩;simp[Builtin.append_,run_underlying ht,sizeOf,typeInfo,hi,Builtin.lenOf,Builtin.firstCells,loadCells,loadCellsFrom]
   .have hr:=run_append_nil (P:=P) w t ty e i z ht hi hz ad m c (pU m sz g) (by rw[vp,sU]) Ev aA (by unfold maxLen at LJ;omega) (by have hb:=Hw;simp only[bX]at hb;omega);have tq:=grownCap_ge w m 0 e;have nM:grownCap w m 0 e<=maxLen:=grownCap_le_maxLen w m 0 e aA;refine⟨_,_,hr,.inr ⟨w.heap.size,0,_,_,aF,heap_alloc_new w.drew _,aA,nM,?_,?_,?_⟩,λx hx=>.inr ?_,aF,λx hx _=>Below.heap_alloc w.drew _ x hx,rfl,rfl,rfl⟩
    .simp only[gK,ef,size_zeroCells,Ta,vp,<-bS,bX];refine fp ?_;congr 1;omega
    .intro i j hi hj;have:=yu i j hi hj;refine⟨?_,vu i j hi hj⟩;rw[bX];simp only[pU,cH,List.range_zero,List.map_nil,List.nil_append]at this;rw[<-this,akz]
     .simp [pU]
     .obtain ⟨q,_⟩:=ca.1 this;simpa[pU]using q
    .intro hn u hu;rcases eW.1 hu with hu|hu
     .exact gnl hn u (by simpa using hu)
     .simp only[Builtin.zeroCells,fu,fw]at hu;obtain⟨q,hq,rfl⟩:=hu;have iJ:q%z.cells.size<z.cells.size:=bI _ aA;rw[eX z.cells _ iJ];exact S9 hn _ (fT iJ)
    .simp [Value.ownBlock]at hx;subst hx;simp
  .have Su:∀ k j,k<n->j<sz->cur[ofs+(k*sz+j)]? = some (f k j):=λk j hk hj=>(ku k j hk hj).1
   by_cases EA:n+m<=cc
   .have yw:(pU m sz g).length=m*i.size:=by rw[vp,sU]
    have aj2:(n+m)*sz<=cc*sz:=bN _ EA;have SF:(n+m)*sz=n*sz+m*sz:=bS _ _ _;have pN:ofs+n*i.size+(pU m sz g).length<=cur.size:=by rw[yw,sU];omega
    have hr:=ah9 (P:=P) w t ty e i ht hi b ofs n cc cur hg ad m c (pU m sz g) yw Ev h1' EA pN;refine⟨_,_,hr,.inr ⟨b,ofs,cc,_,rfl,setRow_heap w b cur _ e _ hg,EA,nM,?_,?_,?_⟩,λx hx=>.inl hx,aF,λx hx jQ=>setRow_other w b x _ (λq=>jQ (by simp[Value.ownBlock,q])),rfl,rfl,rfl⟩
    .simp only[ef,bY,cC,cG,dz];omega
    .intro k j hk hj;refine⟨?_,vu k j hk hj⟩;have hq:=yu k j hk hj;rw[fU,gL,dY,cC,dz,dj aA,sU];by_cases vq:k<n
     .have iJ:k*sz+j<n*sz:=by
       have:=bN sz (show k+1<=n from vq);rw[bS,cj]at this;omega
      rw[bj aA,dG,bj aA,Array.getElem?_toList];show _=some (if k<n then f k j else g (k-n) j);rw[bj vq];exact Su k j vq hj
     .have tq:n*sz<=k*sz+j:=by
       have:=bN sz (aA:n<=k);omega
      have iJ:k*sz+j<(n+m)*sz:=by
       have:=bN sz (show k+1<=n+m from hk);rw[bS,cj]at this;omega
      rw[bh aA,dg (by rw[vp];omega),(aA:ofs+(k*sz+j)-(ofs+n*sz)=k*sz+j-n*sz),<-hq,dH (by rw[vp];exact tq),vp]
    .intro hn u hu;simp only[fV,cS]at hu;rcases hu with(hu|hu)|hu
     .exact jB hn u (by have:=dM hu;simpa using this)
     .exact gnl hn u hu
     .exact jB hn u (by have:=dE hu;simpa using this)
   .have holds:∀ j u,(pU n sz f)[j]? = some u->w.cell? ((⟨b,ofs,none⟩:Addr).add j)=some u:=by
     intro q u hq;obtain⟨q1,q2,rfl,q4⟩:=D8 hq;have:=Su _ _ q1 q2;rw[q4]at this;rw[show(⟨b,ofs,none⟩:Addr).add q=⟨b,ofs+q,none⟩from Addr.add_lit _ _ _];simp only[World.cell?,hg];simpa using this
    have hr:=run_append_grow (P:=P) w t ty e i z ht hi hz ⟨b,ofs,none⟩ n cc (pU n sz f) (by rw[vp,sU]) holds ad m c (pU m sz g) (by rw[vp,sU]) Ev aA (by unfold maxLen at LJ;omega) (growslice_fits aA Hw);have tq:=grownCap_ge w (n+m) cc e;have acL:grownCap w (n+m) cc e<=maxLen:=grownCap_le_maxLen w (n+m) cc e LJ;refine⟨_,_,hr,.inr ⟨w.heap.size,0,_,_,aF,heap_alloc_new w.drew _,aA,acL,?_,?_,?_⟩,λx hx=>.inr ?_,aF,λx hx _=>Below.heap_alloc w.drew _ x hx,rfl,rfl,rfl⟩
    .simp only[gK,ef,size_zeroCells,Ta,vp,<-bS,bX];refine fp ?_;congr 1;omega
    .intro k j hk hj;refine⟨?_,vu k j hk hj⟩;rw[<-yu k j hk hj,bX];have hq:k*sz+j<(pU n sz f++pU m sz g).length:=by
      obtain⟨q,_⟩:=ca.1 (yu k j hk hj);exact q
     rw[akz (by simpa using hq)];simp
    .intro hn u hu;rcases eW.1 hu with hu|hu
     .rcases eW.1 hu with hu|hu
      .obtain ⟨q,hq⟩:=dh.1 (show u ∈ pU n sz f by simpa using hu);obtain⟨q1,q2,rfl,_⟩:=D8 hq;exact jB hn _ (dI (ku _ _ q1 q2).1)
      .exact gnl hn u (by simpa using hu)
     .simp only[Builtin.zeroCells,fu,fw]at hu;obtain⟨q,hq,rfl⟩:=hu;have iJ:q%z.cells.size<z.cells.size:=bI _ aA;rw[eX z.cells _ iJ];exact S9 hn _ (fT iJ)
    .simp [Value.ownBlock]at hx;subst hx;simp
def Xr{id:Nat}{b:Bx}{p:PV}(h:p.kK.any (Nat.beq id)=false):p.kN (.ou id b)=p:=by
 cases p with
 |own i=>
  have:Nat.beq i id=false:=by
   simp only[PV.kK,dJ,ez,dP]at h;exact cJ λe=>by rw[e,ck]at h;cases h
  simp[PV.kN,this]
 |ny i s x j=>
  have:Nat.beq i id=false:=by
   simp only[PV.kK,dJ,ez,dP]at h;exact cJ λe=>by rw[e,ck]at h;cases h
  simp[PV.kN,this]
 |qh f cap=>
  have:cap.any (CV.EV id)=false:=by
   rw[cw];intro c hc hr;cases c with
   |row i=>
    have hi:i=id:=kz.1 hr;have:=cw.1 h i (by simp only[PV.kK,eU];exact⟨.row i,hc,by simp[CV.kK]⟩);rw[hi,ck]at this;exact this rfl
   |_=>cases hr
  simp[PV.kN,this]
 |_=>rfl
def jb.fin{w0:lZ}{B:Nat->Prop}{σ:PS}{a:Act}{w:World}{L:Lk}{id:Nat}{nl:Bool}{T n sz:Nat}{el:Nat->Nat->E}(hB:∀ b,B b->w0.tf b)
 (r:jb w0 B (σ.np (.ou id (.row nl T n sz el))) a w L):∃ L',jb w0 B (σ.np (.fin id)) a w L'/\iC (bad B L') (jg L') w (.sl nl n sz el) (L.val id):=by
 let L':Lk:=⟨λi=>L.lL i/\i≠id,λi x=>L.own i x/\i≠id,L.val,L.iB⟩
 have iJ:qw L w L' w:=⟨bl _,λx _ ⟨i,h,_⟩=>⟨i,h⟩,λ_ _ _=>rfl⟩
 have qA:∀ i,(σ.np (.fin id)).bo i=if i=id then none else(σ.bo i).map (Bx.qE (PV.kN (.fin id))):=by
  intro i;show look ((σ.pre (.fin id)).filter λx=>!Nat.beq x.1 id) i=_;rw[Bm,PS.zr];by_cases h:i=id
  .subst h;simp
  .rw [bh h,bh (λe=>h e.symm)]
 have L8:∀ i,i≠id->(σ.np (.ou id (.row nl T n sz el))).bo i=(σ.bo i).map (Bx.qE (PV.kN (.ou id (.row nl T n sz el)))):=by
  intro i h;show look (s8 (σ.pre (.ou id (.row nl T n sz el))) id (.row nl T n sz el)) i=_;rw[Bn,PS.zr,bh (λe=>h e.symm)]
 have acI:(σ.np (.ou id (.row nl T n sz el))).bo id=some (.row nl T n sz el):=by
  show look (s8 (σ.pre (.ou id (.row nl T n sz el))) id (.row nl T n sz el)) id=_;rw[Bn,bj rfl]
 have pM:∀ x,L.own id x->¬bad B L' x:=by
  rintro x hx (h|⟨i,h1,h2⟩)
  .exact (r.hw id x hx).1 (hB x h)
  .exact h2 (r.hi i id x h1 hx)
 have hold:iC (bad B L') (jg L') w (.sl nl n sz el) (L.val id):=by
  obtain⟨f,h1,h2,h3⟩:=r.hb id _ acI;rcases h1 with⟨h0,rfl⟩|⟨b,ofs,c,cur,h0,hg,oW,nM,oh,ku,jB⟩
  .rw [h0];exact .sl nl 0 sz el none 0 f (bl _) aC (λ_=>rfl) (λi j hi=>absurd hi (bu i)) (λi j hi=>absurd hi (bu i)) (λi j hi=>absurd hi (bu i)) (λi j hi=>absurd hi (bu i))
  .have oX:=(h2 b).2 (by rw[h0];rfl);rw[h0];refine .sl nl n sz el _ c f oW (by unfold maxLen at nM;omega) (λh=>by cases h) (λi j hi hj=>⟨(ku i j hi hj).2,λhn=>jB hn _ (dI (ku i j hi hj).1)⟩) (λi j hi hj=>(h3 i j hi hj).2)
    (λi j hi hj=>⟨b,ofs,rfl,pM b oX,(r.hw id b oX).2,?_⟩) (λi j hi hj=>iJ.ko (h3 i j hi hj).1)
   simp only[World.cell?,hg];simpa using(ku i j hi hj).1
 have hT:∀ (p:PV) (v:Value),kH (bad B L) (jg L) L w (p.kN (.ou id (.row nl T n sz el))) v->kH (bad B L') (jg L') L' w (p.kN (.fin id)) v:=by
  intro p v k;show kH _ _ _ _ (if p.kK.any (Nat.beq id)then .e .any else p) _;cases hp:p.kK.any (Nat.beq id)with
  |true=>exact .any _
  |false=>
   rw[Xr hp]at k;refine kH.move iJ k λi hi oV=>⟨⟨oV,?_⟩,rfl,λ_=>rfl⟩
   rintro rfl;have:=cw.1 hp i hi;simp at this
 refine⟨L',⟨r.hd,r.hs,λt=>?_,λi b' h=>?_,λi=>?_,λi x h=>⟨r.hn i x h.1,h.2⟩,λi x h=>r.hw i x h.1,λi i' x h k=>r.hi i i' x h.1 k.1,r.he,λh i b' k=>?_⟩,hold⟩
 .have k:=r.ht t;rw[PS.AP]at k ⊢;exact hT _ _ k
 .rw [qA]at h;split at h
  .cases h
  .rename_i hi;obtain⟨b0,lG,rfl⟩:=bQ.1 h;exact mA.map iJ (r.hb i _ (by rw[L8 i hi,lG];rfl)) rfl (λx=>⟨λq=>q.1,λq=>⟨q,hi⟩⟩) (λ_=>rfl) (λ_ _=>rfl) λp v _ k=>hT p v k
 .rw [qA];show L.lL i/\i≠id↔_;by_cases hi:i=id
  .subst hi;simp
  .simp only[hi,cO,eg,eZ,bB];rw[r.hv i,L8 i hi,eu,eu]
 .rw [qA]at k;split at k
  .cases k
  .rename_i hi;obtain⟨b0,lG,rfl⟩:=bQ.1 k;have:=r.hl h i _ (by rw[L8 i hi,lG];rfl);rw[Br]at this ⊢;exact this
def OQ{id q:Nat}{b:Bx}{p:PV}(h:p.kK.any (λx=>Nat.beq id x||Nat.beq q x)=false):p.kN (.om id q b)=p:=by
 cases p with
 |box i off=>
  simp only[PV.kK,dJ,ez,dP,dQ]at h;have h1:Nat.beq i id=false:=cJ λe=>by rw[e,ck]at h;cases h.1
  have h2:Nat.beq i q=false:=cJ λe=>by rw[e,ck]at h;cases h.2
  simp[PV.kN,h1,h2]
 |e x=>simp[PV.kN,PV.kK]
 |own i=>show(if(PV.kK (.own i)).any _=true then _ else _)=_;rw[h];rfl
 |ny i a b c=>show(if(PV.kK (.ny i a b c)).any _=true then _ else _)=_;rw[h];rfl
 |iB i k=>show(if(PV.kK (.iB i k)).any _=true then _ else _)=_;rw[h];rfl
 |qo i s k x j=>show(if(PV.kK (.qo i s k x j)).any _=true then _ else _)=_;rw[h];rfl
 |qh f cap=>show(if(PV.kK (.qh f cap)).any _=true then _ else _)=_;rw[h];rfl
def Xs{id q:Nat}{b:Bx}{p:PV}(h:p.kK.any (λx=>Nat.beq id x||Nat.beq q x)=true)(hb:∀ i off,p ≠ .box i off):p.kN (.om id q b) = .e .any:=by
 cases p with
 |box i off=>exact absurd rfl (hb i off)
 |e x=>simp[PV.kK]at h
 |own i=>show(if(PV.kK (.own i)).any _=true then _ else _)=_;rw[h];rfl
 |ny i a b c=>show(if(PV.kK (.ny i a b c)).any _=true then _ else _)=_;rw[h];rfl
 |iB i k=>show(if(PV.kK (.iB i k)).any _=true then _ else _)=_;rw[h];rfl
 |qo i s k x j=>show(if(PV.kK (.qo i s k x j)).any _=true then _ else _)=_;rw[h];rfl
 |qh f cap=>show(if(PV.kK (.qh f cap)).any _=true then _ else _)=_;rw[h];rfl
def jb.om{w0:lZ}{B:Nat->Prop}{σ:PS}{a:Act}{w:World}{L:Lk}(r:jb w0 B σ a w L){id q T1 T0 n sz:Nat}{nl:Bool}{el:Nat->Nat->E}{x:E}
 (hid:σ.bo id=some (.cells T1 [x])) (hq:σ.bo q=some (.row nl T0 n sz el)) (jQ:id≠q) {b:Nat} (hv:L.val id = .pointer (some ⟨b,0,none⟩)) {w':World} (hw:w'.heap[b]? = some (.cells #[L.val q] T1 (0,0)))
 (ht:ph L w id (L.own id) w'):∃ L',jb w0 B (σ.np (.om id q (.il nl T1 T0 1 sz (λ_=>n) (λ_=>el) none))) a w' L':=by
 let L':Lk:=⟨λi=>L.lL i/\i≠q,λi y=>if i=id then L.own id y\/L.own q y else L.own i y/\i≠q,λi=>if i=id then .slice (some ⟨b,0,none⟩) 1 1 else L.val i,λi j=>if i=id then L.val q else L.iB i j⟩
 have ac6:∀ y,jg L' y->jg L y:=by
  rintro y ⟨i,hi⟩;by_cases e:i=id
  .have hi:L.own id y\/L.own q y:=by simpa[L',e]using hi
   rcases hi with h|h
   .exact ⟨id,h⟩
   .exact ⟨q,h⟩
  .have hi:L.own i y/\i≠q:=by simpa[L',e]using hi
   exact⟨i,hi.1⟩
 have aj1:∀ y,jg L y->jg L' y:=by
  rintro y ⟨i,hi⟩;by_cases e:i=id\/i=q
  .refine ⟨id,?_⟩;show if id=id then L.own id y\/L.own q y else _
   rw[bj rfl];rcases e with e|e<;>subst e
   .exact .inl hi
   .exact .inr hi
  .have e1:i≠id:=λh=>e (.inl h)
   have e2:i≠q:=λh=>e (.inr h)
   refine⟨i,?_⟩;show if i=id then _ else L.own i y/\i≠q
   rw[bh e1];exact⟨hi,e2⟩
 have iJ:qw L w L' w':=⟨ht.size,λy _ h=>ac6 y h,λy hy hm=>ht.nu y hy λho=>hm ⟨id,ho⟩⟩
 have mm:∀ i,i≠id->L'.val i=L.val i:=λi e=>by show(if i=id then _ else _)=_;rw[bh e]
 have zM:∀ i,i≠id->∀ j,L'.iB i j=L.iB i j:=λi e j=>by show(if i=id then _ else _)=_;rw[bh e]
 have lp:∀ i,i≠id->∀ y,L'.own i y↔L.own i y/\i≠q:=λi e y=>by show(if i=id then _ else _)↔_;rw[bh e]
 have yB:∀ y,L'.own id y↔L.own id y\/L.own q y:=λy=>by show(if id=id then _ else _)↔_;rw[bj rfl]
 obtain⟨b0,vs,i1,i2,i3,i4,i5⟩:=r.hb id _ hid;rw[hv]at i1;cases i1;obtain⟨f,q1,q2,q3⟩:=r.hb q _ hq;have oV:L.lL id:=(r.hv id).2 (by rw[hid];rfl);have Ij:∀ i y,i≠id->L.own i y->w'.heap[y]? = w.heap[y]?:=λi y e hy=>ht.nu y (r.hw i y hy).2 λho=>e (r.hi i id y hy ho)
 have iN:∀ i,(σ.np (.om id q (.il nl T1 T0 1 sz (λ_=>n) (λ_=>el) none))).bo i=if id=i then some (.il nl T1 T0 1 sz (λ_=>n) (λ_=>el) none)else if i=q then none else(σ.bo i).map (Bx.qE (PV.kN (.om id q (.il nl T1 T0 1 sz (λ_=>n) (λ_=>el) none)))):=by
  intro i;show look (s8 ((σ.pre (.om id q (.il nl T1 T0 1 sz (λ_=>n) (λ_=>el) none))).filter λy=>!Nat.beq y.1 q) id _) i=_;rw[Bn];by_cases e:id=i
  .rw [bj e,bj e]
  .rw [bh e,bh e,Bm,PS.zr];by_cases e2:q=i
   .rw [bj e2,bj e2.symm]
   .rw [bh e2,bh λh=>e2 h.symm]
 have og:sE w0 w w':=⟨ht.os,ht.tape,ht.output,ht.size,λy hy=>ht.nu y (bO hy.1 r.he.size) λho=>(r.hw id y ho).1 hy⟩
 have ku:(L.val q).oneCell'=true/\pO (L.val q)=false:=by
  rcases q1 with⟨h,_⟩|⟨b1,o1,c1,cur,h,_⟩<;>rw[h]<;>exact⟨rfl,rfl⟩
 have hT:∀ (p:PV) (v:Value),kH (bad B L) (jg L) L w p v->kH (bad B L') (jg L') L' w' (p.kN (.om id q (.il nl T1 T0 1 sz (λ_=>n) (λ_=>el) none))) v:=by
  intro p v k;cases hp:p.kK.any (λy=>Nat.beq id y||Nat.beq q y)with
  |false=>
   rw[OQ hp];refine k.move iJ λi hi hl=>?_
   have:=cw.1 hp i hi;simp only[dK,not_or]at this;have e1:i≠id:=λe=>this.1 (by rw[e];exact ck _)
   have e2:i≠q:=λe=>this.2 (by rw[e];exact ck _)
   exact⟨⟨hl,e2⟩,mm i e1,zM i e1⟩
  |true=>
   by_cases jf:∃ i off,p = .box i off
   .obtain ⟨i,off,rfl⟩:=jf;obtain⟨k1,b1,k2,k3⟩:=k;by_cases e1:i=id
    .subst e1;by_cases e0:off=0
     .subst e0;simp only[PV.kN,ck,bC];rw[hv]at k2;cases k2;exact⟨⟨k1,jQ⟩,b,0,1,1,by show(if i=i then _ else _)=_;rw[bj rfl],by simpa using k3⟩
     .simp only[PV.kN,ck,bC,cJ e0,bV,bB];exact .any _
    .have e2:i=q:=by
      simp only[PV.kK,dJ,ez,dP,dK]at hp;rcases hp with hp|hp
      .exact absurd (kz.1 hp).symm e1
      .exact (kz.1 hp).symm
     simp only[PV.kN,cJ e1,bV,bB,e2,ck,bC];have e3:Nat.beq q id=false:=cJ λh=>jQ h.symm
     simp only[e3,bV,bB];exact .any _
   .rw [Xs hp λi off h=>jf ⟨i,off,h⟩];exact .any _
 refine⟨L',r.hd,r.hs,λt=>?_,λi b' hb=>?_,λi=>?_,λi y hy=>?_,λi y hy=>?_,λi j y hi hj=>?_,r.he.trans og,λxz i b' hb=>?_⟩
 .rw [PS.AP];exact hT _ _ (r.ht t)
 .rw [iN]at hb;by_cases e:id=i
  .subst e;rw[bj rfl]at hb;cases hb;have En:∀ j,L'.iB id j=L.val q:=λj=>by show(if id=id then _ else _)=_;rw[bj rfl]
   refine .inr ⟨b,0,1,#[L.val q],λ_=>f,by show(if id=id then _ else _)=_;rw[bj rfl],hw,bl _,aC,aF,λk hk _=>?_,λu hu=>?_,λk hk=>?_,λy=>?_,λk k' y hk Eo _ _=> aA,λk hk=>?_⟩
   .obtain rfl:k=0:= aA ;rw[En];rfl
   .have:u=L.val q:=by simpa using hu
    rw[this];exact ku.2
   .rw [En];exact⟨q1.block λy hy=>Ij q y (λh=>jQ h.symm) ((q2 y).2 hy),λi j hi hj=>⟨iJ.ko (q3 i j hi hj).1,(q3 i j hi hj).2⟩⟩
   .rw [yB];constructor
    .rintro (h|h)
     .exact .inl ((i2 y).1 h)
     .exact .inr ⟨0,aC,by rw[En];exact(q2 y).1 h⟩
    .rintro (h|⟨k,_,h⟩)
     .exact .inl ((i2 y).2 h)
     .rw [En]at h;exact .inr ((q2 y).2 h)
   .rw [En];intro h;exact jQ (r.hi id q b ((i2 b).2 rfl) ((q2 b).2 h))
  .rw [bh e]at hb;by_cases e2:i=q
   .rw [bj e2]at hb;cases hb
   .rw [bh e2]at hb;have e':i≠id:=λh=>e h.symm
    obtain⟨b0',lG,rfl⟩:=bQ.1 hb;exact mA.map (g:=λp=>p) iJ (by rw[Bq];exact r.hb i b0' lG) (mm i e') (λy=>(lp i e' y).trans ⟨λh=>h.1,λh=>⟨h,e2⟩⟩) (zM i e') (λy hy=>Ij i y e' hy) λp v _ k=>hT p v k
 .rw [iN];show L.lL i/\i≠q↔_;by_cases e:id=i
  .subst e;rw[bj rfl];exact⟨λ_=>rfl,λ_=>⟨oV,jQ⟩⟩
  .rw [bh e];by_cases e2:i=q
   .subst e2;simp
   .rw [bh e2];rw[eu];exact⟨λh=>(r.hv i).1 h.1,λh=>⟨(r.hv i).2 h,e2⟩⟩
 .by_cases e:i=id
  .subst e;exact⟨oV,jQ⟩
  .have:=(lp i e y).1 hy;exact⟨r.hn i y this.1,this.2⟩
 .by_cases e:i=id
  .subst e;rcases(yB y).1 hy with h|h
   .exact ⟨(r.hw _ y h).1,bO (r.hw _ y h).2 ht.size⟩
   .exact ⟨(r.hw _ y h).1,bO (r.hw _ y h).2 ht.size⟩
  .have h:=((lp i e y).1 hy).1;exact⟨(r.hw _ y h).1,bO (r.hw _ y h).2 ht.size⟩
 .by_cases e1:i=id
  .by_cases e2:j=id
   .rw [e1,e2]
   .exfalso;subst e1;have h2:=(lp j e2 y).1 hj;rcases(yB y).1 hi with h|h
    .exact e2 (r.hi j _ y h2.1 h)
    .exact h2.2 (r.hi j q y h2.1 h)
  .by_cases e2:j=id
   .exfalso;subst e2;have h1:=(lp i e1 y).1 hi;rcases(yB y).1 hj with h|h
    .exact e1 (r.hi i _ y h1.1 h)
    .exact h1.2 (r.hi i q y h1.1 h)
   .exact r.hi i j y ((lp i e1 y).1 hi).1 ((lp j e2 y).1 hj).1
 .rw [iN]at hb;by_cases e:id=i
  .rw [bj e]at hb;cases hb;show nl=true;exact r.hl xz q (.row nl T0 n sz el) hq
  .rw [bh e]at hb;by_cases e2:i=q
   .rw [bj e2]at hb;cases hb
   .rw [bh e2]at hb;obtain⟨b0',lG,rfl⟩:=bQ.1 hb;rw[Br];exact r.hl xz i b0' lG
def Lk.qb(L:Lk)(id q:Nat)(O:Nat->Prop)(v:Value)(iB:Nat->Value):Lk:=
 {lL:=λi=>(i=id\/L.lL i)/\i≠q
  own:=λi x=>if i=id then O x else L.own i x/\i≠q
  val:=λi=>if i=id then v else L.val i
  iB:=λi j=>if i=id then iB j else L.iB i j }
def jb.qb{w0:lZ}{B:Nat->Prop}{σ:PS}{a:Act}{w:World}{L:Lk}(r:jb w0 B σ a w L){id q:Nat}(jQ:id≠q)(b':Bx)(O:Nat->Prop)(v:Value)(iB:Nat->Value)(w':World)
 (hO:∀ x,O x->(L.own id x\/L.own q x\/w.heap.size<=x)/\x<w'.heap.size) (mG:w.heap.size<=w'.heap.size) (rY:∀ x,x<w.heap.size->¬L.own id x->w'.heap[x]? = w.heap[x]?)
 (AY:w'.os=w.os) (MC:w'.tape=w.tape) (qm:w'.output=w.output)
 (hB:qw L w (L.qb id q O v iB) w'->mA (bad B (L.qb id q O v iB)) (jg (L.qb id q O v iB)) (L.qb id q O v iB) w' id b')
 (kg:L.lL id->∀ b,L.val id ≠ .pointer (some b)) (jB:σ.nl=true->b'.nl=true):jb w0 B (σ.np (.om id q b')) a w' (L.qb id q O v iB):=by
 have mm:∀ i,i≠id->(L.qb id q O v iB).val i=L.val i:=λi e=>by show(if i=id then _ else _)=_;rw[bh e]
 have zM:∀ i,i≠id->∀ j,(L.qb id q O v iB).iB i j=L.iB i j:=λi e j=>by show(if i=id then _ else _)=_;rw[bh e]
 have lp:∀ i,i≠id->∀ y,(L.qb id q O v iB).own i y↔L.own i y/\i≠q:=λi e y=>by show(if i=id then _ else _)↔_;rw[bh e]
 have yB:∀ y,(L.qb id q O v iB).own id y↔O y:=λy=>by show(if id=id then _ else _)↔_;rw[bj rfl]
 have iJ:qw L w (L.qb id q O v iB) w':=by
  refine⟨mG,λy hy h=>?_,λy hy hm=>rY y hy λho=>hm ⟨id,ho⟩⟩;obtain⟨i,hi⟩:=h;by_cases e:i=id
  .subst e;rcases(hO y ((yB y).1 hi)).1 with h|h|h
   .exact ⟨i,h⟩
   .exact ⟨q,h⟩
   .omega
  .exact ⟨i,((lp i e y).1 hi).1⟩
 have iN:∀ i,(σ.np (.om id q b')).bo i=if id=i then some b' else if i=q then none else(σ.bo i).map (Bx.qE (PV.kN (.om id q b'))):=by
  intro i;show look (s8 ((σ.pre (.om id q b')).filter λy=>!Nat.beq y.1 q) id _) i=_;rw[Bn];by_cases e:id=i
  .rw [bj e,bj e]
  .rw [bh e,bh e,Bm,PS.zr];by_cases e2:q=i
   .rw [bj e2,bj e2.symm]
   .rw [bh e2,bh λh=>e2 h.symm]
 have og:sE w0 w w':=⟨AY,MC,qm,mG,λy hy=>rY y (bO hy.1 r.he.size) λho=>(r.hw id y ho).1 hy⟩
 have Ij:∀ i y,i≠id->L.own i y->w'.heap[y]? = w.heap[y]?:=λi y e hy=>rY y (r.hw i y hy).2 λho=>e (r.hi i id y hy ho)
 have yG:∀ i y,L.own i y->¬w0.tf y/\y<w'.heap.size:=λi y h=>⟨(r.hw i y h).1,bO (r.hw i y h).2 mG⟩
 have hT:∀ (p:PV) (v0:Value),kH (bad B L) (jg L) L w p v0->kH (bad B (L.qb id q O v iB)) (jg (L.qb id q O v iB)) (L.qb id q O v iB) w' (p.kN (.om id q b')) v0:=by
  intro p v0 k;cases hp:p.kK.any (λy=>Nat.beq id y||Nat.beq q y)with
  |false=>
   rw[OQ hp];refine k.move iJ λi hi hl=>?_
   have:=cw.1 hp i hi;simp only[dK,not_or]at this;have e1:i≠id:=λe=>this.1 (by rw[e];exact ck _)
   have e2:i≠q:=λe=>this.2 (by rw[e];exact ck _)
   exact⟨⟨.inr hl,e2⟩,mm i e1,zM i e1⟩
  |true=>
   by_cases jf:∃ i off,p = .box i off
   .obtain ⟨i,off,rfl⟩:=jf;obtain⟨k1,b1,k2,k3⟩:=k;by_cases e1:i=id
    .subst e1;exact absurd k2 (kg k1 _)
    .have e2:i=q:=by
      simp only[PV.kK,dJ,ez,dP,dK]at hp;rcases hp with hp|hp
      .exact absurd (kz.1 hp).symm e1
      .exact (kz.1 hp).symm
     have e3:Nat.beq q id=false:=cJ λh=>jQ h.symm
     simp only[PV.kN,e2,e3,ck,bC,bV,bB];exact .any _
   .rw [Xs hp λi off h=>jf ⟨i,off,h⟩];exact .any _
 refine⟨r.hd,r.hs,λt=>?_,λi b hb=>?_,λi=>?_,λi y hy=>?_,λi y hy=>?_,λi j y hi hj=>?_,r.he.trans og,λxz i b hb=>?_⟩
 .rw [PS.AP];exact hT _ _ (r.ht t)
 .rw [iN]at hb;by_cases e:id=i
  .subst e;rw[bj rfl]at hb;cases hb;exact hB iJ
  .rw [bh e]at hb;by_cases e2:i=q
   .rw [bj e2]at hb;cases hb
   .rw [bh e2]at hb;have e':i≠id:=λh=>e h.symm
    obtain⟨b0',lG,rfl⟩:=bQ.1 hb;exact mA.map (g:=λp=>p) iJ (by rw[Bq];exact r.hb i b0' lG) (mm i e') (λy=>(lp i e' y).trans ⟨λh=>h.1,λh=>⟨h,e2⟩⟩) (zM i e') (λy hy=>Ij i y e' hy) λp v _ k=>hT p v k
 .rw [iN];show(i=id\/L.lL i)/\i≠q↔_;by_cases e:id=i
  .subst e;rw[bj rfl];exact⟨λ_=>rfl,λ_=>⟨.inl rfl,jQ⟩⟩
  .rw [bh e];have e':i≠id:=λh=>e h.symm
   by_cases e2:i=q
   .subst e2;simp
   .rw [bh e2];rw[eu];exact⟨λh=>(r.hv i).1 (h.1.resolve_left e'),λh=>⟨.inr ((r.hv i).2 h),e2⟩⟩
 .by_cases e:i=id
  .subst e;exact⟨.inl rfl,jQ⟩
  .have:=(lp i e y).1 hy;exact⟨.inr (r.hn i y this.1),this.2⟩
 .by_cases e:i=id
  .subst e;obtain⟨h,h2⟩:=hO y ((yB y).1 hy);rcases h with h|h|h
   .exact ⟨(r.hw _ y h).1,h2⟩
   .exact ⟨(r.hw _ y h).1,h2⟩
   .exact ⟨lZ.Vq r.he.size h,h2⟩
  .exact yG i y ((lp i e y).1 hy).1
 .have cross:∀ j,j≠id->L.own j y/\j≠q->O y->False:=by
   intro j e h2 h;rcases(hO y h).1 with h|h|h
   .exact e (r.hi j _ y h2.1 h)
   .exact h2.2 (r.hi j q y h2.1 h)
   .have:=(r.hw j y h2.1).2;omega
  by_cases e1:i=id
  .by_cases e2:j=id
   .rw [e1,e2]
   .subst e1;exact(cross j e2 ((lp j e2 y).1 hj) ((yB y).1 hi)).elim
  .by_cases e2:j=id
   .subst e2;exact(cross i e1 ((lp i e1 y).1 hi) ((yB y).1 hj)).elim
   .exact r.hi i j y ((lp i e1 y).1 hi).1 ((lp j e2 y).1 hj).1
 .rw [iN]at hb;by_cases e:id=i
  .rw [bj e]at hb;cases hb;exact jB xz
  .rw [bh e]at hb;by_cases e2:i=q
   .rw [bj e2]at hb;cases hb
   .rw [bh e2]at hb;obtain⟨b0',lG,rfl⟩:=bQ.1 hb;rw[Br];exact r.hl xz i b0' lG
def Lk.TK{L:Lk}{id q:Nat}{O:Nat->Prop}{v:Value}{iB:Nat->Value}(x:Nat):(L.qb id q O v iB).own id x↔O x:=by simp[Lk.qb]
def Lk.E4{L:Lk}{id q:Nat}{O:Nat->Prop}{v:Value}{iB:Nat->Value}:(L.qb id q O v iB).val id=v:=by simp[Lk.qb]
def Lk.xG{L:Lk}{id q:Nat}{O:Nat->Prop}{v:Value}{iB:Nat->Value}(k:Nat):(L.qb id q O v iB).iB id k=iB k:=by simp[Lk.qb]
def Lk.MX{L:Lk}{id q:Nat}(jQ:id≠q){O:Nat->Prop}{v:Value}{iB:Nat->Value}:(L.qb id q O v iB).lL id:=⟨.inl rfl,jQ⟩
def jb.La{w0:lZ}{B:Nat->Prop}{σ:PS}{a:Act}{w:World}{L:Lk}(r:jb w0 B σ a w L)(id:Nat):∃ L',jb w0 B (σ.np (.fin id)) a w L'/\(∀ i x,L'.own i x->L.own i x)/\(σ.np (.fin id)).bo id=none:=by
 let L':Lk:=⟨λi=>L.lL i/\i≠id,λi x=>L.own i x/\i≠id,L.val,L.iB⟩
 have iJ:qw L w L' w:=⟨bl _,λx _ ⟨i,h,_⟩=>⟨i,h⟩,λ_ _ _=>rfl⟩
 have qA:∀ i,(σ.np (.fin id)).bo i=if i=id then none else(σ.bo i).map (Bx.qE (PV.kN (.fin id))):=by
  intro i;show look ((σ.pre (.fin id)).filter λx=>!Nat.beq x.1 id) i=_;rw[Bm,PS.zr];by_cases h:i=id
  .rw [bj h,bj h.symm]
  .rw [bh h,bh (λe=>h e.symm)]
 have hT:∀ (p:PV) (v:Value),kH (bad B L) (jg L) L w p v->kH (bad B L') (jg L') L' w (p.kN (.fin id)) v:=by
  intro p v k;show kH _ _ _ _ (if p.kK.any (Nat.beq id)then .e .any else p) _;cases hp:p.kK.any (Nat.beq id)with
  |true=>exact .any _
  |false=>
   refine kH.move iJ k λi hi oV=>⟨⟨oV,?_⟩,rfl,λ_=>rfl⟩
   rintro rfl;have:=cw.1 hp i hi;simp at this
 refine⟨L',⟨r.hd,r.hs,λt=>?_,λi b' h=>?_,λi=>?_,λi x h=>⟨r.hn i x h.1,h.2⟩,λi x h=>r.hw i x h.1,λi i' x h k=>r.hi i i' x h.1 k.1,r.he,λh i b' k=>?_⟩,λi x h=>h.1,by rw[qA,bj rfl]⟩
 .rw [PS.AP];exact hT _ _ (r.ht t)
 .rw [qA]at h;split at h
  .cases h
  .rename_i hi;obtain⟨b0',lG,rfl⟩:=bQ.1 h;exact mA.map (g:=λp=>p) iJ (by rw[Bq];exact r.hb i b0' lG) rfl (λx=>⟨λq=>q.1,λq=>⟨q,hi⟩⟩) (λ_=>rfl) (λ_ _=>rfl) λp v _ k=>hT p v k
 .rw [qA];show L.lL i/\i≠id↔_;by_cases hi:i=id
  .subst hi;simp
  .simp only[hi,cO,eg,eZ,bB,eu];exact r.hv i
 .rw [qA]at k;split at k
  .cases k
  .obtain ⟨b0',lG,rfl⟩:=bQ.1 k;rw[Br];exact r.hl h i b0' lG
def Lh(σ:PS)(id:Nat)(b:Bx):(σ.np (.fin id)).np (.new id b)=σ.np (.vQ id b):=by
 have h:∀ l:List (Nat×Bx),s8 (l.filter λx=>!Nat.beq x.1 id) id b=s8 l id b:=by
  intro l;unfold s8;rw[List.filter_filter];congr 2;funext x;cases Nat.beq x.1 id<;>rfl
 show PS.mk σ.n σ.nl (σ.t.map _) (s8 ((σ.pre (.fin id)).filter λx=>!Nat.beq x.1 id) id b)=PS.mk σ.n σ.nl (σ.t.map _) (s8 (σ.pre (.vQ id b)) id b);rw[h];rfl
def Xi{T:List TI}{t:TypeId}{x:TI}(h:lJ T t=some x):x ∈ T/\x.id=t:=by
 induction T with
 |nil=>cases h
 |cons y l ih=>
  unfold lJ at h;split at h
  .rename_i hb;cases h;exact⟨aF,kz.1 hb⟩
  .obtain ⟨h1,h2⟩:=ih h;exact⟨by simp[h1],h2⟩
def lE.qd{P:Program}{T:List TI}(hT:lE P T){t:TypeId}{x:TI}(h:lJ T t=some x):P.underlying t=some x.d:=by
 obtain⟨h1,h2⟩:=Xi h;rw[<-h2];exact(hT x h1).1
def lE.yL{P:Program}{T:List TI}(hT:lE P T){t:TypeId}{x:TI}(h:lJ T t=some x):P.info? t=some x.i:=by
 obtain⟨h1,h2⟩:=Xi h;rw[<-h2];exact(hT x h1).2
def zu{T:List TI}{t:TypeId}{d:TypeDesc}(h:wj T t=some d):∃ x,lJ T t=some x/\x.d=d:=by
 unfold wj at h;split at h
 .rename_i x hx;exact⟨x,hx,by simpa using h⟩
 .cases h
section
variable {P:Program} {T:List TI} (hT:lE P T) (w:World)
include hT
def sA{t:TypeId}{x:TI}(h:lJ T t=some x):(sizeOf t).run P w = .ok x.i.size w:=by
 simp[sizeOf,typeInfo,hT.yL h]
def JQ{t:TypeId}{x:TI}(h:lJ T t=some x){z:Value}(hz:x.i.zero=some z):(zeroValue t).run P w = .ok z w:=by
 simp[zeroValue,typeInfo,hT.yL h,hz]
def JP{t:TypeId}{x:TI}(h:lJ T t=some x):(isAgg t).run P w = .ok x.isAgg w:=by
 unfold isAgg TI.isAgg;rw[Sem.run_bind,run_underlying (hT.qd h) w];cases x.d<;>simp
def On{t:TypeId}{x:TI}(h:lJ T t=some x)(ha:x.isAgg=true)(b o:Nat)(vs:List Value)(hl:vs.length=x.i.size)
 (hc:∀ (j:Nat) (u:Value),vs[j]? = some u->w.cell? ⟨b,o+j,none⟩=some u):(loadVar t ⟨b,o,none⟩).run P w = .ok (.agg vs.toArray) w:=by
 have hr:=run_loadCells_list (P:=P) w ⟨b,o,none⟩ vs (λj v hv=>by rw[Addr.add_lit];exact hc j v hv);rw[hl]at hr;simp[loadVar,JP hT w h,ha,sA hT w h,hr]
def F3{t:TypeId}{x:TI}(h:lJ T t=some x)(ha:x.isAgg=false)(b o:Nat)(u:Value)(hc:w.cell? ⟨b,o,none⟩=some u):(loadVar t ⟨b,o,none⟩).run P w = .ok u w:=by
 simp[loadVar,JP hT w h,ha,hc]
def ze{t:TypeId}{x:TI}(h:lJ T t=some x)(b o:Nat)(E:TypeId)(cur:Array Value)(hg:w.heap[b]? = some (.cells cur E (0,0)))(v:Value)(hl:v.cells.toList.length=x.i.size)
 (pN:o+v.cells.toList.length<=cur.size) (h1:∀ u ∈ v.cells.toList,u.oneCell'=true):
 (storeVar t ⟨b,o,none⟩ v).run P w = .ok () (w.setRow b (cur.toList.take o++v.cells.toList++cur.toList.drop (o+v.cells.toList.length)).toArray):=by
 have hr:=run_storeCells_at P b o E v.cells.toList 0 cur w hg (by simpa using pN) h1;simp only[bW]at hr;have pz:v.cells.size=x.i.size:=by simpa using hl
 simp only[storeVar,Sem.run_bind,sA hT w h,Result.andThen,pz,cO,gM,bB,hr,Sem.run_ite,Sem.run_pure]
end
def ph.setRow{L:Lk}{w:World}{id b:Nat}(hb:L.own id b)(iJ:∀ x,L.own id x->x<w.heap.size)(cs:Array Value):ph L w id (L.own id) (w.setRow b cs):=
 ⟨λx hx=>⟨.inl hx,by simpa using iJ x hx⟩,aF,λx _ jQ=>setRow_other w b x cs (λe=>jQ (e▸hb)),rfl,rfl,rfl⟩
def jL(P:Program)(K:World->Prop)(w0:lZ)(B:Nat->Prop)(σ:PS)(o:Oper)(a:Act)(w:World)(u:kq):Prop:=
 ∃ v w' L',((execOp a.eval o).run P w = .ok (.value v) w'\/((execOp a.eval o).run P w = .ok .skip w'/\v=undef))/\jb w0 B (σ.np u.f) a w' L'/\kH (bad B L') (jg L') L' w' u.r v
section
variable {P:Program} {K:World->Prop} {w0:lZ} {B:Nat->Prop} {σ:PS} {o:Oper} {a:Act} {w:World} {L:Lk} {u:kq}
def jL.pure(r:jb w0 B σ a w L){v:Value}(jX:(execOp a.eval o).run P w = .ok (.value v) w)(hf:u.f = .none)(hp:kH (bad B L) (jg L) L w u.r v):jL P K w0 B σ o a w u:=
 ⟨v,w,L,.inl jX,by rw[hf];exact r,hp⟩
def ag6{l:List PV}{es:List E}(h:Jo l=some es):l=es.map .e:=by
 induction l generalizing es with
 |nil=>cases h;rfl
 |cons p l ih=>
  cases p with
  |e x=>
   simp only[Jo]at h;obtain⟨t,ht,rfl⟩:=bQ.1 h;rw[ih ht];rfl
  |_=>cases h
def jb.read(r:jb w0 B σ a w L){p:PV}{v:Value}(hp:kH (bad B L) (jg L) L w p v){m:Nat}{l:List E}{is:List Nat}{ju:List Prop}(h:σ.read p m=some (l,is,ju))(ho:∀ q,q ∈ ju->q):
 ∃ b q vs,v = .pointer (some ⟨b,q,none⟩)/\jZ (bad B L) (jg L) w l vs/\vs.length=m/\∀ (j:Nat) (u:Value),vs[j]? = some u->w.cell? ⟨b,q+j,none⟩=some u:=by
 have tab:∀ (b q:Nat) (g:Nat->E) (f:Nat->Value),(∀ j,j<m->w.cell? ⟨b,q+j,none⟩=some (f j)/\iC (bad B L) (jg L) w (g j) (f j)) ->
  ∃ vs:List Value,jZ (bad B L) (jg L) w ((List.range m).map g) vs/\vs.length=m/\∀ (j:Nat) (u:Value),vs[j]? = some u->w.cell? ⟨b,q+j,none⟩=some u:=by
  intro b q g f hc;refine⟨(List.range m).map f,⟨aF,λi p x hp hx=>?_⟩,aF,λj u hu=>?_⟩
  .rw [cD]at hp hx;obtain⟨i1,yx,rfl⟩:=bQ.1 hp;obtain⟨i2,Cu,rfl⟩:=bQ.1 hx;rw[yx]at Cu;cases Cu;obtain⟨iJ,rfl⟩:=ca.1 yx;simp at iJ;simpa using(hc i iJ).2
  .rw [cD]at hu;obtain⟨i1,yx,rfl⟩:=bQ.1 hu;obtain⟨iJ,rfl⟩:=ca.1 yx;simp at iJ;simpa using(hc j iJ).1
 cases p with
 |box id off=>
  simp only[PS.read]at h;split at h
  .rename_i T l0 iN;split at h
   .rename_i hle;simp only[bt,bH]at h;obtain⟨rfl,rfl,rfl⟩:=h;obtain⟨b,vs,h1,h2,h3,h4,h5⟩:=r.hb id _ iN;obtain⟨_,b',k2,rfl⟩:=hp;rw[h1]at k2;cases k2;have Ie:=cA hle;refine⟨b,off,(vs.drop off).take m,rfl,(h4.drop off).take m,by simp[h4.len];omega,λj u hu=>?_⟩;rw[dG]at hu;split at hu
    .rw [dp]at hu;simp only[World.cell?,h3];simpa using hu
    .cases hu
   .cases h
  .rename_i nl T l0 iN;split at h
   .rename_i hle;obtain⟨es,sN,h⟩:=bQ.1 h;simp only[bH]at h;obtain⟨rfl,rfl,rfl⟩:=h;obtain⟨b,vs,h1,h2,h3,h4,h5,h6⟩:=r.hb id _ iN;obtain⟨_,b',k2,rfl⟩:=hp;rw[h1]at k2;cases k2;have Ie:=cA hle;have hm:=ag6 sN;have hlen:es.length=m:=by
     have:=congrArg List.length hm;simp only[cC,cG,cU]at this;omega
    refine⟨b,off,(vs.drop off).take m,rfl,⟨by simp[h4,hlen];omega,λi p x hp hx=>?_⟩,by simp[h4];omega,λj u hu=>?_⟩
    .have hq:((l0.drop off).take m)[i]? = some (.e p):=by rw[hm,cD,hp];rfl
     rw[dG]at hq hx;split at hq
     .rename_i hi;rw[bj hi,dp]at hx;rw[dp]at hq;exact h5 _ _ _ hq hx
     .cases hq
    .rw [dG]at hu;split at hu
     .rw [dp]at hu;simp only[World.cell?,h3];simpa using hu
     .cases hu
   .cases h
  .rename_i T b l0 iN;split at h
   .rename_i hle;simp only[bt,bH]at h;obtain⟨rfl,rfl,rfl⟩:=h;obtain⟨vs,h1,h2,h3,h4,h5⟩:=r.hb id _ iN;obtain⟨_,b',k2,rfl⟩:=hp;rw[h1]at k2;cases k2;have Ie:=cA hle;refine⟨b,off,(vs.drop off).take m,rfl,(h4.drop off).take m,by simp[h4.len];omega,λj u hu=>?_⟩;rw[dG]at hu;split at hu
    .rw [dp]at hu;simp only[World.cell?,h3];simpa using hu
    .cases hu
   .cases h
  .cases h
 |ny id sz i j=>
  simp only[PS.read]at h;split at h
  .rename_i nl T n s el iN;split at h
   .rename_i hle;simp only[bt,bH]at h;obtain⟨rfl,rfl,rfl⟩:=h;simp only[bF]at hle;have e1:=kz.1 hle.1;have e2:=cA hle.2;subst e1;have hi:i<n:=ho _ aF;obtain⟨f,h1,h2,h3⟩:=r.hb id _ iN;obtain⟨_,b,ofs',n',c',k2,rfl⟩:=hp;rcases h1 with⟨h1,_⟩|⟨b',ofs,c,cur,h1,hg,oW,nM,oh,ku,jB⟩
    .rw [k2]at h1;cases h1
    .rw [k2]at h1;cases h1;obtain⟨vs,q1,q2,q3⟩:=tab b (ofs'+(i*s+j)) (λq=>el i (j+q)) (λq=>f i (j+q)) (λq hq=>⟨by
      simp only[World.cell?,hg];have:=(ku i (j+q) hi aA).1;rw[<-cN,<-cN]at this;simpa[cN]using this,(h3 i (j+q) hi aA).1⟩)
     exact⟨b,ofs'+(i*s+j),vs,rfl,q1,q2,q3⟩
   .cases h
  .cases h
 |qo id sz k i j=>
  simp only[PS.read]at h;split at h
  .rename_i nl T1 T0 n s len el pend iN;split at h
   .rename_i hle;simp only[bt,bH]at h;obtain⟨rfl,rfl,rfl⟩:=h;simp only[bF]at hle;have e1:=kz.1 hle.1;have e2:=cA hle.2;subst e1;have hk:k<n:=ho _ aF;have hi:i<len k:=ho _ aF;obtain⟨b0,ofs0,c0,cur0,f,g1,g2,g3,g4,g5,g6,g7,g8,_⟩:=(r.hb id _ iN).tR aA;obtain⟨h1,h3⟩:=g8 k hk;obtain⟨_,b,ofs',n',c',k2,rfl⟩:=hp;rcases h1 with⟨h1,_⟩|⟨b',ofs,c,cur,h1,hg,oW,nM,oh,ku,jB⟩
    .rw [k2]at h1;cases h1
    .rw [k2]at h1;cases h1;obtain⟨vs,q1,q2,q3⟩:=tab b (ofs'+(i*s+j)) (λq=>el k i (j+q)) (λq=>f k i (j+q)) (λq hq=>⟨by
      simp only[World.cell?,hg];have:=(ku i (j+q) hi aA).1;rw[<-cN,<-cN]at this;simpa[cN]using this,(h3 i (j+q) hi aA).1⟩)
     exact⟨b,ofs'+(i*s+j),vs,rfl,q1,q2,q3⟩
   .cases h
  .cases h
 |e x=>
  cases x with
  |jD k el=>
   simp only[PS.read]at h;split at h
   .rename_i hle;simp only[bt,bH]at h;obtain⟨rfl,rfl,rfl⟩:=h;have Ie:=cA hle;cases hp with
    |jD _ _ b q f hb iJ hl cell kk=>
     obtain⟨vs,q1,q2,q3⟩:=tab b q el f (λj hj=>⟨cell j aA,kk j aA⟩);exact⟨b,q,vs,rfl,q1,q2,q3⟩
   .cases h
  |_=>cases h
 |_=>cases h
def Dx{ti:TI}{l:List E}(h:xX ti=some l):∃ z,ti.i.zero=some z/\∀ (bs br:Nat->Prop) (w:World),jZ bs br w l z.cells.toList/\∀ u ∈ z.cells.toList,u.oneCell'=true:=by
 unfold xX at h;split at h
 .rename_i z hz;exact⟨z,hz,λbs br w=>(iC.v (bs:=bs) (br:=br) (w:=w) z).cells h⟩
 .cases h
def jb.Vk(r:jb w0 B σ a w L)(id:Nat)(T:TypeId)(l:List E)(v:Value)(kg:σ.bo id=none)(hv:jZ (bad B L) (jg L) w l v.cells.toList)(h1:∀ u ∈ v.cells.toList,u.oneCell'=true)
 (jB:(!σ.nl||l.all E.mc)=true):
 ∃ L',jb w0 B (σ.np (.new id (.cells T l))) a (w.alloc (.cells v.cells T)) L'/\kH (bad B L') (jg L') L' (w.alloc (.cells v.cells T)) (.box id 0) (.pointer (some ⟨w.heap.size,0,none⟩)):=by
 have hb:Below w.heap.size w (w.alloc (.cells v.cells T)):=(Below.refl _ _).alloc (bl _) _;have Sm:∀ x,¬L.own id x:=λx hx=>by have:=(r.hv id).1 (r.hn id x hx);rw[kg]at this;simp at this
 have ht:ph L w id (λx=>x=w.heap.size) (w.alloc (.cells v.cells T)):=⟨λx hx=>⟨.inr aA,aL⟩,hb.size,λx hx _=>hb.block x hx,rfl,rfl,rfl⟩
 have hl:=ht.later (.pointer (some ⟨w.heap.size,0,none⟩)) (λ_=>undef);refine⟨_,r.new id (.cells T l) (λx=>x=w.heap.size) (.pointer (some ⟨w.heap.size,0,none⟩)) (λ_=>undef) _ kg (λx hx=>by subst hx;simp) hb
  ⟨w.heap.size,v.cells.toList,Lk.mz,λx=>Lk.oP x,by rw[Array.toArray_toList];exact heap_alloc_new w _,hv.mono λ_ _=>hl.ko,h1⟩ jB,Lk.xR,w.heap.size,Lk.mz,rfl⟩
def IZ{d:Option Tmp}{b:Bx}{rr:Nat->PV}(h:Ad σ d b rr=some u):∃ id,d=some id/\(!σ.nl||b.nl)=true/\u={ r:=rr id,f:=sc σ id b,rb:=wQ σ id [] }:=by
 unfold Ad at h;split at h
 .rename_i id;split at h
  .rename_i hc;cases h;exact⟨id,rfl,hc,rfl⟩
  .cases h
 .cases h
def jb.Vl(r:jb w0 B σ a w L)(id:Nat)(T:TypeId)(l:List E)(v:Value)(hv:jZ (bad B L) (jg L) w l v.cells.toList)(h1:∀ u ∈ v.cells.toList,u.oneCell'=true)
 (jB:(!σ.nl||l.all E.mc)=true):
 ∃ L',jb w0 B (σ.np (sc σ id (.cells T l))) a (w.alloc (.cells v.cells T)) L'/\kH (bad B L') (jg L') L' (w.alloc (.cells v.cells T)) (.box id 0) (.pointer (some ⟨w.heap.size,0,none⟩)):=by
 unfold sc;split
 .rename_i kg;exact r.Vk id T l v kg hv h1 jB
 .obtain ⟨L1,r1,ho,kg⟩:=r.La id;have hm:∀ x,jg L1 x->jg L x:=λx ⟨i,hi⟩=>⟨i,ho i x hi⟩
  obtain⟨L',r',hp⟩:=r1.Vk id T l v kg (hv.mono λ_ _=>iC.mX (λx h=>h.elim .inl λh=>.inr (hm x h)) hm) h1 jB;rw[Lh]at r';exact⟨L',r',hp⟩
def Fo{d:Option Tmp}{b:Bx}{rr:Nat->PV}{ju:List Prop}(h:yV σ d b rr ju=some u):∃ id,d=some id/\σ.bo id=none/\(!σ.nl||b.nl)=true/\u={ r:=rr id,f:=.new id b,ju:=ju }:=by
 unfold yV at h;split at h
 .rename_i id;split at h
  .rename_i kg;split at h
   .rename_i hc;cases h;exact⟨id,rfl,kg,hc,rfl⟩
   .cases h
  .cases h
 .cases h
end
def Gi{k:IntKind}{z:Int}(h:kQ k z):k.wrap z=z:=by
 cases k<;>simp only[kQ]at h<;>simp only[IntKind.wrap,IntKind.bits,IntKind.signed]<;>simp<;>(try split)<;>omega
def ahK{k:IntKind}{x y:Int}(h:kQ k x)(hy:0<y):kQ k (x.tdiv y):=by
 by_cases h0:0<=x
 .have h1:0<=x/y:=Int.ediv_nonneg h0 aA ;have h2:x/y<=x:=Int.ediv_le_self y h0;rw[gN h0];cases k<;>simp only[kQ]at h ⊢ <;> omega
 .obtain ⟨z,rfl⟩:∃ z,x = -z:=⟨-x,aA⟩
  have h0:0<=z:= aA ;have h1:0<=z/y:=Int.ediv_nonneg h0 aA;have h2:z/y<=z:=Int.ediv_le_self y h0;rw[Int.neg_tdiv,gN h0];cases k<;>simp only[kQ]at h ⊢ <;> omega
def aaO{P:Program}{op:BinOp}{k k':IntKind}{x y:Int}{v:Value}{ju:List Prop}(h:Lj op k x y=some (v,ju))(ho:∀ q,q ∈ ju->q)
 (hk:Ww op k k'=true) (t:TypeId) (w:World):(binOp op t (.int k x) (.int k' y)).run P w = .ok v w:=by
 cases op<;>simp only[Lj,bt,bH,reduceCtorEq]at h<;>(obtain⟨rfl,rfl⟩:=h)<;>(try (have Eo:=cK hk;subst Eo))
 case add=>
  rw[binOp_add];by_cases Hl:k = .u32
  .subst Hl;simp[Op.intArith,Kz]
  .have e:Kz k x y=x+y:=by cases k<;>first|rfl|exact absurd rfl Hl
   have e2:qy k x y=[kQ k (x+y)]:=by cases k<;>first|rfl|exact absurd rfl Hl
   rw[e];simp[Op.intArith,Gi (ho (kQ k (x+y)) (by rw[e2];simp))]
 case sub=>rw[binOp_sub];simp[Op.intArith,Gi (ho (kQ k (x-y)) aF)]
 case mul=>rw[binOp_mul];simp[Op.intArith,Gi (ho (kQ k (x*y)) aF)]
 case quo=>
  have h1:=ho (0<y) aF;have h2:=ho (kQ k x) aF;rw[binOp_quo];have hy:¬y=0:= aA ;simp[Op.intDiv,hy,Gi (ahK h2 h1)]
 case rem=>
  have h1:=ho (0<y) aF;rw[binOp_rem];have hy:¬y=0:= aA ;simp[Op.intDiv,hy]
 case and=>rw[binOp_and,intBits_and];rfl
 case or=>rw[binOp_or,intBits_or];rfl
 case shl=>
  have h1:=ho (0<=y/\y<=k.bits) aF;rw[binOp_shl,shift_shl k k' x y h1.1 h1.2];rfl
 case shr=>
  have h1:=ho (0<=y/\y<=k.bits) aF;rw[binOp_shr,shift_shr k k' x y h1.1 h1.2];rfl
 case eql=>rw[binOp_eql];rfl
 case neq=>rw[binOp_neq];rfl
 case lss=>rw[binOp_lss];rfl
 case leq=>rw[binOp_leq];rfl
 case gtr=>rw[binOp_gtr];rfl
 case geq=>rw[binOp_geq];rfl
section
variable {P:Program} {K:World->Prop} {T:List TI} {O:pS} {w0:lZ} {B:Nat->Prop} {σ:PS} {o:Oper} {a:Act} {w:World} {L:Lk} {u:kq}
def aci{x:Operand}(iq:o.op = .move x)(r:jb w0 B σ a w L)(h:jC P K T O σ o=some u):jL P K w0 B σ o a w u:=by
 simp only[jC,iq]at h;cases h;exact jL.pure r (by simp only[execOp,iq];rfl) rfl (r.op x)
def abX{x:Operand}(iq:o.op = .assign x)(r:jb w0 B σ a w L)(h:jC P K T O σ o=some u):jL P K w0 B σ o a w u:=by
 simp only[jC,iq]at h;cases h;exact jL.pure r (by simp only[execOp,iq];rfl) rfl (r.op x)
def ack{c x y:Operand}(iq:o.op = .pick c x y)(r:jb w0 B σ a w L)(h:jC P K T O σ o=some u):jL P K w0 B σ o a w u:=by
 simp only[jC,iq]at h;have hc:=r.op c;split at h
 .rename_i hv;rw[hv]at hc;have hc:=iC.kD hc;cases h;exact jL.pure r (by simp[execOp,iq,hc,asBool]) rfl (r.op x)
 .rename_i hv;rw[hv]at hc;have hc:=iC.kD hc;cases h;exact jL.pure r (by simp[execOp,iq,hc,asBool]) rfl (r.op y)
 .cases h
def acj{x:Operand}(iq:o.op = .nilCheck x)(r:jb w0 B σ a w L)(h:jC P K T O σ o=some u):jL P K w0 B σ o a w u:=by
 simp only[jC,iq]at h;have hc:=r.op x;split at h
 .rename_i hv;rw[hv]at hc;cases h;obtain⟨k1,b,k2,k3⟩:=hc;exact jL.pure r (v:=a.eval x) (by simp[execOp,iq,k3]) rfl ⟨k1,b,k2,k3⟩
 .rename_i hv;rw[hv]at hc;cases h;generalize hq:a.eval x=q at hc;refine jL.pure r (v:=q) ?_ rfl hc;cases hc;simp only[execOp,iq,hq];rfl
 .rename_i hv;rw[hv]at hc;cases h;refine jL.pure r (v:=a.eval x) ?_ rfl hc;obtain⟨vs,e,_⟩:=iC.LA hc;simp only[execOp,iq,e];rfl
 .rename_i hv;rw[hv]at hc;cases h;refine jL.pure r (v:=a.eval x) ?_ rfl hc;obtain⟨vs,e,_⟩:=hc;simp only[execOp,iq,e];rfl
 .cases h
def abY(hT:lE P T){op:BinOp}{t yt:TypeId}{x y:Operand}(iq:o.op = .binOp op t x y yt)(r:jb w0 B σ a w L)(h:jC P K T O σ o=some u)(ho:∀ q,q ∈ u.ju->q):jL P K w0 B σ o a w u:=by
 simp only[jC,iq]at h;have hx:=r.op x;have hy:=r.op y;split at h
 .rename_i k z k' z' xB A9;rw[xB]at hx;rw[A9]at hy;split at h
  .rename_i v hv;cases h;obtain⟨h1,h2⟩:=ho _ (c9.2 rfl) _ _ w _ _ x y hx hy;refine jL.pure r (v:=v) ?_ rfl (.v _);simp only[execOp,iq,Sem.run_bind,h1,Result.andThen_ok,h2,Sem.run_pure]
  have hx:=iC.kD hx;have hy:=iC.kD hy;split at h
  .rename_i hk;obtain⟨rr,hr,rfl⟩:=bQ.1 h;have jX:=aaO (P:=P) (k':=k') hr ho hk t w;refine jL.pure r (v:=rr.1) ?_ rfl (.v _);simp only[execOp,iq,hx,hy,Sem.run_bind,eqGuard_at_int,Sem.run_pure,Result.andThen_ok,jX]
  .cases h
 .rename_i z z' xB A9;rw[xB]at hx;rw[A9]at hy;have hx:=iC.kD hx;have hy:=iC.kD hy;split at h
  .rename_i hd;obtain⟨ti,h1,h2⟩:=zu hd;have hu:P.underlying t=some .bool:=by rw[hT.qd h1,h2]
   split at h
   .cases h;refine jL.pure r (v:=.bool (z==z')) ?_ rfl (.v _);simp only[execOp,iq,hx,hy,Sem.run_bind,eqGuard_at_bool,Sem.run_pure,Result.andThen_ok,run_eql_bool w t z z' hu]
   .cases h;refine jL.pure r (v:=.bool (!(z==z'))) ?_ rfl (.v _);simp only[execOp,iq,hx,hy,Sem.run_bind,eqGuard_at_bool,Sem.run_pure,Result.andThen_ok];have:(binOp .neq t (.bool z) (.bool z')).run P w = .ok (.bool (!(z==z'))) w:=by
     simp only[binOp,Sem.run_bind,run_equal_bool w t z z' hu,Result.andThen_ok,Sem.run_pure]
    rw[this];rfl
   .cases h
  .cases h
 .rename_i nl n sz el xB A9;rw[xB]at hx;rw[A9]at hy;have hy:=iC.kD hy;have hx:iC (bad B L) (jg L) w (.sl nl n sz el) (a.eval x):=hx;split at h
  .rename_i e hd;obtain⟨ti,h1,h2⟩:=zu hd;have hu:P.underlying t=some (.slice e):=by rw[hT.qd h1,h2]
   have key:∀ A c,0<n->a.eval x = .slice A n c->iC (bad B L) (jg L) w (.sl nl n sz el) (.slice A n c)->A.isNone=false:=by
    intro A c hn e1 hr;cases A with
    |some ad=>rfl
    |none=>
     cases hr with
     |sl _ _ _ _ _ _ f hc hm h0=>have:=h0 rfl;omega
   generalize hv:a.eval x=vx at hx;cases hx with
   |sl _ _ _ _ A c f hc hm h0 hl hr cell k=>
    have ri:iC (bad B L) (jg L) w (.sl nl n sz el) (.slice A n c):=.sl nl n sz el A c f hc hm h0 hl hr cell k;split at h
    .cases h;have hn:0<n:=ho _ aF;refine jL.pure r (v:=.bool false) ?_ rfl (.v _);simp only[execOp,iq,hv,hy,Sem.run_bind,eqGuard_at_slice,Sem.run_pure,Result.andThen_ok,Lib.run_eql_slice_nil w t e A n c 0 0 hu,key A c hn hv ri]
    .cases h;have hn:0<n:=ho _ aF;refine jL.pure r (v:=.bool true) ?_ rfl (.v _);simp only[execOp,iq,hv,hy,Sem.run_bind,eqGuard_at_slice,Sem.run_pure,Result.andThen_ok,run_neq_slice_nil_any w t e A n c 0 0 hu,key A c hn hv ri,dZ]
    .cases h
  .cases h
 .rename_i xe ye xB A9;rw[xB]at hx;rw[A9]at hy;split at h
  .rename_i v hv;cases h;obtain⟨h1,h2⟩:=ho _ (c9.2 rfl) _ _ w _ _ x y hx hy;refine jL.pure r (v:=v) ?_ rfl (.v _);simp only[execOp,iq,Sem.run_bind,h1,Result.andThen_ok,h2,Sem.run_pure]
  .cases h
 .cases h
def acp{op:UnOp}{t:TypeId}{x:Operand}(iq:o.op = .unOp op t x)(r:jb w0 B σ a w L)(h:jC P K T O σ o=some u)(ho:∀ q,q ∈ u.ju->q):jL P K w0 B σ o a w u:=by
 simp only[jC,iq]at h;have hx:=r.op x;split at h
 .rename_i z hv;rw[hv]at hx;have hx:=iC.kD hx;cases h;exact jL.pure r (v:=.bool (!z)) (by simp[execOp,iq,hx,Op.unary]) rfl (.v _)
 .rename_i k z hv;rw[hv]at hx;have hx:=iC.kD hx;cases h;have:=Gi (ho (kQ k (0-z)) aF);refine jL.pure r (v:=.int k (0-z)) ?_ rfl (.v _);simp only[execOp,iq,hx,Op.unary,Op.intArith,this];rfl
 .cases h
def ab2(hT:lE P T){src dst:TypeId}{x:Operand}(iq:o.op = .convert src dst x)(r:jb w0 B σ a w L)(h:jC P K T O σ o=some u):jL P K w0 B σ o a w u:=by
 simp only[jC,iq]at h;have hx:=r.op x;split at h
 .rename_i k ts k' z hd hs hv;rw[hv]at hx;have hx:=iC.kD hx;obtain⟨td,h1,h2⟩:=zu hd;have hu:P.underlying dst=some (.int k):=by rw[hT.qd h1,h2]
  have hk:P.intKind dst=k:=by simp[Program.intKind,hu]
  have jX:=run_convert_int (P:=P) w src dst k' z (by rw[hT.qd hs];rfl) (by rw[hk];exact hu);rw[hk]at jX;cases h;exact jL.pure r (v:=.int k (k.wrap z)) (by simp only[execOp,iq,hx,Sem.run_bind,jX];rfl) rfl (.v _)
 .cases h
def ab3{x:Operand}{i:Nat}(iq:o.op = .extract x i)(r:jb w0 B σ a w L)(h:jC P K T O σ o=some u):jL P K w0 B σ o a w u:=by
 simp only[jC,iq]at h;have hx:=r.op x;split at h
 .rename_i l hv;rw[hv]at hx;obtain⟨vs,e,hr⟩:=iC.Xg hx;split at h
  .rename_i y hy;cases h;have iJ:i<vs.length:=by rw[hr.len];exact(ca.1 hy).1
   have CE:=bw iJ;refine jL.pure r (v:=vs[i]) ?_ rfl (hr.ko i y _ hy CE);simp only[execOp,iq,e,Instr.extract,fU,CE];rfl
  .cases h
 .cases h
def UX{bs:Nat->Prop}{z:Int}{e:E}:∀ {l:List (Int×FuncId×List FuncId)} {es:List MapEntry} (i:Nat),At bs w l es->xJ l z=some e->(∀ b,jg L b->bs b) ->
 ∃ j v,Instr.findNow (.int .i64) (.int .i64 z) es i=some (some (j,v))/\iC bs (jg L) w e v
 | [],_,_,_,h,_=>by cases h
 |_::_,[],_,k,_,_=>k.elim
 |x::l,y::es,i,⟨⟨k1,vs,k2,k3,k4⟩,k⟩,h,hm=>by
  unfold xJ at h;have e0:Instr.sameNow (.int .i64) (.int .i64 z) y.key=some (z==x.1):=by rw[k1];rfl
  by_cases hz:x.1=z
  .rw [bj hz]at h;cases h;have e1:(z==x.1)=true:=by simp[hz]
   refine⟨i,y.val,?_,?_⟩
   .rw [Instr.findNow,e0,e1]
   .rw [k2];refine .fn _ _ vs (by simpa using k3) λj p v hp hv=>?_
    rw[cD]at hp;obtain⟨g,hg,rfl⟩:=bQ.1 hp;obtain⟨b,rfl,q2,q3,q4⟩:=k4 j g v hg hv;have hc:∀ q,q<1->w.cell? ⟨b,0+q,none⟩=some (.func (.func g) #[] #[]):=λq hq=>by
     obtain rfl:q=0:= aA ;exact q4
    exact .jD 1 _ b 0 (λ_=>.func (.func g) #[] #[]) (λh=>q2 (hm b h)) q3 (λ_ _=>rfl) hc λ_ _=>.fn g [] [] rfl (λi p x h=>by simp at h)
  .rw [bh hz]at h;have e1:(z==x.1)=false:=by simp;exact λe=>hz e.symm
   obtain⟨j,v,q1,q2⟩:=UX (i+1) k h hm;exact⟨j,v,by rw[Instr.findNow,e0,e1];exact q1,q2⟩
def Zh{k:TypeId}(hk:P.underlying k=some (.int .i64))(e:Bool)(n:Nat)(z:Int):(Instr.checkKey e (n+1) k (.int .i64 z)).run P w = .ok () w:=by
 unfold Instr.checkKey;simp only[Sem.run_bind,run_underlying hk,Result.andThen];rfl
def acb(hT:lE P T){t:TypeId}{x i:Operand}{ok:Bool}(iq:o.op = .lookup t x i ok)(r:jb w0 B σ a w L)(h:jC P K T O σ o=some u)(ho:∀ q,q ∈ u.ju->q):jL P K w0 B σ o a w u:=by
 cases ok with
 |true=>simp[jC,iq]at h
 |false=>
 simp only[jC,iq]at h;have hx:=r.op x;have hi:=r.op i;split at h
 .rename_i l z k e0 hv hw hd;obtain⟨ti,h1,h2⟩:=zu hd;have hu:P.underlying t=some (.map k e0):=by rw[hT.qd h1,h2]
  rw[hv]at hx;rw[hw]at hi;have hi:=iC.kD hi;split at h
  .rename_i e zJ hg;obtain⟨tk,h3,h4⟩:=zu zJ;have hk:P.underlying k=some (.int .i64):=by rw[hT.qd h3,h4]
   cases h;have acU:xJ l z=some e:=ho _ aF;generalize hq:a.eval x=q at hx;cases hx with
   |mp _ b clk es hb iJ hh lg=>
    obtain⟨j,v,q1,q2⟩:=UX (w:=w) (L:=L) 0 lg acU λb h=>.inr h
    refine jL.pure r (v:=v) ?_ rfl q2;have hgo:(getObj b).run P w = .ok (.map es clk) w:=by simp[getObj,Sem.run,hh]
    have hck:=Zh (P:=P) (w:=w) hk es.isEmpty 9999 z;have hfk:(Instr.findKey k (.int .i64 z) es.toList).run P w = .ok (some (j,v)) w:=by unfold Instr.findKey;simp[run_underlying hk,Result.andThen,q1]
    have hl:(Instr.lookup t (.map (some b)) (.int .i64 z) false).run P w = .ok v w:=by
     unfold Instr.lookup;simp[run_underlying hu,hgo,hck,hfk,Result.andThen]
    simp only[execOp,iq,hq,hi,Sem.run_bind,hl,Result.andThen_ok,Sem.run_pure]
  .cases h
 .cases h
def ab4(hT:lE P T){t:TypeId}{x:Operand}{f:Nat}(iq:o.op = .field t x f)(r:jb w0 B σ a w L)(h:jC P K T O σ o=some u):jL P K w0 B σ o a w u:=by
 simp only[jC,iq]at h;have hx:=r.op x;split at h
 .rename_i l fs hv hd;obtain⟨ti,h1,h2⟩:=zu hd;have hu:P.underlying t=some (.struct fs):=by rw[hT.qd h1,h2]
  rw[hv]at hx;obtain⟨vs,e,hr⟩:=iC.DI hx;split at h
  .rename_i fd Mf;split at h
   .rename_i ft Mh;split at h
    .cases h
    .rename_i hag;split at h
     .rename_i y hy;cases h;have iJ:fd.offset<vs.length:=by rw[hr.len];exact(ca.1 hy).1
      have CE:=bw iJ;refine jL.pure r (v:=vs[fd.offset]) ?_ rfl (hr.ko fd.offset y _ hy CE);simp only[execOp,iq,e,Instr.field,asAgg,Sem.run_bind,Sem.run_pure,Result.andThen_ok,run_underlying hu,Mf,part,JP hT w Mh,hag,fU,CE];rfl
     .cases h
   .cases h
  .cases h
 .cases h
def YW{ps:List PV}{l:List CV}{vs:List Value}(h:we ps=some l)(hlen:vs.length=ps.length)(hr:∀ (i:Nat) (p:PV) (x:Value),ps[i]? = some p->vs[i]? = some x->kH (bad B L) (jg L) L w p x):
 vs.length=l.length/\∀ (i:Nat) (c:CV) (x:Value),l[i]? = some c->vs[i]? = some x->vZ (bad B L) (jg L) L w c x:=by
 induction ps generalizing l vs with
 |nil=>cases h;exact⟨hlen,λi c x hc=>by simp at hc⟩
 |cons p ps ih=>
  cases vs with
  |nil=>simp at hlen
  |cons y vs=>
   have step:∀ (c0:CV) (l':List CV),we ps=some l'->vZ (bad B L) (jg L) L w c0 y->l=c0::l' ->
    (y::vs).length=l.length/\∀ (i:Nat) (c:CV) (x:Value),l[i]? = some c->(y::vs)[i]? = some x->vZ (bad B L) (jg L) L w c x:=by
    intro c0 l' pz pW hl;obtain⟨i1,i2⟩:=ih pz (by simpa using hlen) (λi p x hp hx=>hr (i+1) p x (by simpa using hp) (by simpa using hx));subst hl;refine⟨by simp[i1],λi c x hc hx=>?_⟩;cases i with
    |zero=>simp at hc hx;subst hc hx;exact pW
    |succ i=>simp at hc hx;exact i2 i c x hc hx
   have h0:=hr 0 p y rfl rfl;cases p with
   |e x=>
    simp only[we]at h;obtain⟨l',pz,rfl⟩:=bQ.1 h;exact step (.e x) l' pz h0 rfl
   |box id off=>
    cases off with
    |zero=>
     simp only[we]at h;obtain⟨l',pz,rfl⟩:=bQ.1 h;exact step (.box id) l' pz h0 rfl
    |succ=>simp[we]at h
   |ny id sz i j=>
    simp only[we]at h;split at h
    .rename_i hc;simp only[bF]at hc;obtain rfl:=kz.1 hc.1.1;obtain rfl:=kz.1 hc.1.2;obtain rfl:=kz.1 hc.2;obtain⟨l',pz,rfl⟩:=bQ.1 h;obtain⟨k1,b,ofs,n,c,k2,k3⟩:=h0;exact step (.row id) l' pz ⟨k1,b,ofs,n,c,k2,by simpa using k3⟩ rfl
    .cases h
   |_=>simp[we]at h
def acd{fn:Fn}{first cap:Array Operand}(iq:o.op = .makeFunc fn first cap)(r:jb w0 B σ a w L)(h:jC P K T O σ o=some u):jL P K w0 B σ o a w u:=by
 cases fn with
 |func f=>
  simp only[jC,iq]at h;split at h
  .rename_i acS;have hf:first = #[]:=by simpa using acS
   subst hf;split at h
   .rename_i l hl;cases h;have hc:=YW (B:=B) (L:=L) (w:=w) (vs:=cap.toList.map a.eval) hl aF (λi p x hp hx=>by
     rw[cD]at hp hx;obtain⟨q,hq,rfl⟩:=bQ.1 hp;rw[hq]at hx;simp at hx;subst hx;exact r.op q)
    refine jL.pure r (v:=.func (.func f) #[] (cap.toList.map a.eval).toArray) ?_ rfl ⟨cap.toList.map a.eval,rfl,hc.1,hc.2⟩;have e1:cap.map a.eval=(cap.toList.map a.eval).toArray:=by apply dc;simp
    have e2:(#[]:Array Operand).map a.eval = #[]:= aF ;simp only[execOp,iq,Instr.makeFunc,e1,e2,Sem.run_bind,Sem.run_pure,Result.andThen_ok]
   .cases h
  .cases h
 |_=>simp[jC,iq]at h
def ab6(hT:lE P T){t:TypeId}{x i:Operand}(iq:o.op = .index t x i)(r:jb w0 B σ a w L)(h:jC P K T O σ o=some u)(ho:∀ q,q ∈ u.ju->q):jL P K w0 B σ o a w u:=by
 simp only[jC,iq]at h;have hx:=r.op x;have hi:=r.op i;split at h
 .rename_i l k z hv hw;rw[hv]at hx;rw[hw]at hi;have ei:=iC.kD hi;obtain⟨vs,e,hr⟩:=iC.DI hx;split at h
  .rename_i tt pZ;split at h
   .rename_i n e' hd;have hu:P.underlying t=some (.array n e'):=by rw[hT.qd pZ,hd]
    split at h
    .rename_i te mR;split at h
     .rename_i hc;simp only[bF,kz]at hc;cases h;obtain⟨rJ,yI⟩:=ho (0<=z/\z<n) aF;refine jL.pure r (v:=.agg ((vs.drop (z.toNat*te.i.size)).take te.i.size).toArray) ?_ rfl ((hr.drop _).take _).agg;simp only[execOp,iq,e,ei,Instr.index,asIntOf,Sem.run_bind,Sem.run_pure,Result.andThen_ok,run_underlying hu,rJ,yI,and_self,bC,sA hT w mR,part,JP hT w mR,hc.1];simp
     .cases h
    .cases h
   .cases h
  .cases h
 .cases h
def ab5(hT:lE P T){t:TypeId}{x:Operand}{f:Nat}(iq:o.op = .fieldAddr t x f)(r:jb w0 B σ a w L)(h:jC P K T O σ o=some u):jL P K w0 B σ o a w u:=by
 simp only[jC,iq]at h;have hx:=r.op x;split at h
 .rename_i fs hd;obtain⟨ti,h1,h2⟩:=zu hd;have hu:P.underlying t=some (.struct fs):=by rw[hT.qd h1,h2]
  split at h
  .rename_i fd Mf;split at h
   .rename_i ft Mh;split at h
    .cases h
    .rename_i jQ;have ac7:¬ft.i.size=0:=λe=>jQ (kz.2 e)
     have jX:∀ b off,a.eval x = .pointer (some ⟨b,off,none⟩)->(execOp a.eval o).run P w = .ok (.value (.pointer (some ⟨b,off+fd.offset,none⟩))) w:=by
      intro b off e;simp only[execOp,iq,e,Instr.fieldAt,Instr.sureAddr,fieldPlace,Sem.run_bind,run_underlying hu,Result.andThen_ok,Mf,Sem.run_pure,sA hT w Mh,ac7,bB,Addr.add_lit]
     split at h
     .rename_i id off hv;rw[hv]at hx;obtain⟨k1,b,k2,k3⟩:=hx;cases h;exact jL.pure r (jX b off k3) rfl ⟨k1,b,k2,rfl⟩
     .rename_i id sz i j hv;rw[hv]at hx;obtain⟨k1,b,ofs,n,c,k2,k3⟩:=hx;cases h;exact jL.pure r (jX b _ k3) rfl ⟨k1,b,ofs,n,c,k2,by simp only[cN]⟩
     .rename_i id sz k i j hv;rw[hv]at hx;obtain⟨k1,b,ofs,n,c,k2,k3⟩:=hx;cases h;exact jL.pure r (jX b _ k3) rfl ⟨k1,b,ofs,n,c,k2,by simp only[cN]⟩
     .rename_i m el hv;rw[hv]at hx;split at h
      .rename_i hle;have Ie:=cA hle;cases h;generalize hq:a.eval x=q at hx;cases hx with
       |jD _ _ b off g hb iJ hl cell kk=>
        refine jL.pure r (jX b off hq) rfl (.jD _ _ b _ (λj=>g (fd.offset+j)) hb iJ (λj hj=>hl _ aA) (λj hj=>?_) (λj hj=>kk _ aA));have:=cell (fd.offset+j) aA;rwa[<-cN]at this
      .cases h
     .cases h
   .cases h
  .cases h
 .cases h
end
section
variable {P:Program} {K:World->Prop} {T:List TI} {O:pS} {w0:lZ} {B:Nat->Prop} {σ:PS} {o:Oper} {a:Act} {w:World} {L:Lk} {u:kq}
def aeV(hT:lE P T){t:TypeId}{x:Operand}{ti:TI}(mN:lJ T t=some ti)(iq:o.op = .load t x)(r:jb w0 B σ a w L)(h:Aa ti (σ.read (σ.op x) ti.i.size)=some u)(ho:∀ q,q ∈ u.ju->q):jL P K w0 B σ o a w u:=by
 cases hr:σ.read (σ.op x) ti.i.size with
 |none=>rw[hr]at h;cases h
 |some y=>
  obtain⟨l,is,ju⟩:=y;rw[hr]at h;simp only[Aa]at h;by_cases ha:ti.isAgg=true
  .rw [bj ha]at h;cases h;obtain⟨b,q,vs,e,h1,h2,h3⟩:=r.read (r.op x) hr ho;refine jL.pure r (v:=.agg vs.toArray) ?_ rfl h1.agg;simp only[execOp,iq,e,Instr.loadAt,Instr.sureAddr,Sem.run_bind,Sem.run_pure,Result.andThen_ok,On hT w mN ha b q vs h2 h3]
  .rw [bh ha]at h;have uo:ti.isAgg=false:=by simpa using ha
   split at h
   .rename_i p;cases h;obtain⟨b,q,vs,e,h1,h2,h3⟩:=r.read (r.op x) hr ho;obtain⟨y,ys,rfl,hy,Bb⟩:=h1.mW;refine jL.pure r (v:=y) ?_ rfl hy;have hc:=h3 0 y rfl;simp only[execOp,iq,e,Instr.loadAt,Instr.sureAddr,Sem.run_bind,Sem.run_pure,Result.andThen_ok,F3 hT w mN uo b q y (by simpa using hc)]
   .cases h
def agN{l:List PV}{off q:Nat}(h:Jl l off=some q):l[off]? = some (.own q):=by
 induction l generalizing off with
 |nil=>cases h
 |cons p l ih=>
  cases off with
  |zero=>cases p<;>first|(cases h;rfl)|cases h
  |succ n=>
   have h':Jl l n=some q:=by cases p<;>exact h
   simpa using ih h'
def aca(hT:lE P T){t:TypeId}{x:Operand}(iq:o.op = .load t x)(r:jb w0 B σ a w L)(h:jC P K T O σ o=some u)(ho:∀ q,q ∈ u.ju->q):jL P K w0 B σ o a w u:=by
 simp only[jC,iq,G8]at h;split at h
 .rename_i ti mN;split at h
  .rename_i id q pn;by_cases ha:ti.isAgg=true
   .rw [bj ha]at h;cases h
   .rw [bh ha]at h;have uo:ti.isAgg=false:=by simpa using ha
    cases h;have hx:=r.op x;cases hp:σ.op x with
    |box id' off=>
     rw[hp]at pn hx;simp only[AO]at pn;split at pn
     .rename_i nl T0 l iN;obtain⟨q',hq,pn⟩:=bQ.1 pn;simp only[bH]at pn;obtain⟨rfl,rfl⟩:=pn;obtain⟨b,vs,h1,h2,h3,h4,h5,h6⟩:=r.hb id' _ iN;obtain⟨k1,b',k2,k3⟩:=hx;rw[h1]at k2;cases k2;have hl:=agN hq;obtain⟨v,hv⟩:∃ v,vs[off]? = some v:=⟨_,bw (by rw[h4];exact(ca.1 hl).1)⟩
      have hr:=h5 off _ v hl hv;refine jL.pure r (v:=v) ?_ rfl hr;have ku:w.cell? ⟨b,off,none⟩=some v:=by
       simp only[World.cell?,h3];simpa using hv
      simp only[execOp,iq,k3,Instr.loadAt,Instr.sureAddr,Sem.run_bind,Sem.run_pure,Result.andThen_ok,F3 hT w mN uo b _ _ ku]
     .cases pn
    |_=>rw[hp]at pn;cases pn
  unfold G9 at h;split at h
  .rename_i id i n pY;by_cases ha:ti.isAgg=true
   .rw [bj ha]at h;cases h
   .rw [bh ha]at h;have uo:ti.isAgg=false:=by simpa using ha
    cases h;have hx:=r.op x;cases hp:σ.op x with
    |ny id' sz i' j=>
     rw[hp]at pY hx;simp only[BM]at pY;split at pY
     .rename_i nl T1 T0 n' sz' len el iN;split at pY
      .rename_i hc;simp only[bt,bH]at pY;obtain⟨rfl,rfl,rfl⟩:=pY;simp only[bF]at hc;have e1:=kz.1 hc.1;have e2:=kz.1 hc.2;subst e1 e2;have hi:i'<n':=ho _ aF;obtain⟨b,ofs,c,cur,f,h1,h2,h3,h4,h5,h6,h7,h8,h9,mY,mZ⟩:=(r.hb id' _ iN).tR aA;obtain⟨k1,b',ofs2,n2,c2,k2,k3⟩:=hx;rw[h1]at k2;cases k2;refine jL.pure r (v:=L.iB id' i') ?_ rfl ⟨k1,rfl⟩;have ku:w.cell? ⟨b,ofs+(i'*1+0),none⟩=some (L.iB id' i'):=by
        simp only[World.cell?,h2];simpa using h6 i' hi aF 
       simp only[execOp,iq,k3,Instr.loadAt,Instr.sureAddr,Sem.run_bind,Sem.run_pure,Result.andThen_ok,F3 hT w mN uo b _ _ ku]
      .cases pY
     .cases pY
    |_=>rw[hp]at pY;cases pY
  .exact aeV hT mN iq r h ho
 .cases h
def NX{bs br:Nat->Prop}{l m:List E}{vs us:List Value}(h:jZ bs br w l vs)(k:jZ bs br w m us)(off:Nat):jZ bs br w (xO l off m) (vs.take off++us++vs.drop (off+us.length)):=by
 unfold xO;rw[k.len];exact((h.take off).app k).app (h.drop _)
def VU{q:E->Bool}{l m:List E}(h:l.all q=true)(k:m.all q=true)(off:Nat):(xO l off m).all q=true:=by
 unfold xO;rw[List.all_append,List.all_append,k];have h1:(l.take off).all q=true:=bG.2 λx hx=>bG.1 h x (dM hx)
 have h2:(l.drop (off+m.length)).all q=true:=bG.2 λx hx=>bG.1 h x (dE hx)
 rw[h1,h2];rfl
def VX{R R':PV->Value->Prop}{l m:List PV}{vs us:List Value}(h:vs.length=l.length)(k:us.length=m.length)(off:Nat)
 (hl:∀ (i:Nat) (p:PV) (v:Value),l[i]? = some p->vs[i]? = some v->R p v) (hm:∀ (i:Nat) (p:PV) (v:Value),m[i]? = some p->us[i]? = some v->R' p v) (hR:∀ p v,R p v->R' p v):
 (vs.take off++us++vs.drop (off+us.length)).length=(BG l off m).length/\∀ (i:Nat) (p:PV) (v:Value),(BG l off m)[i]? = some p->(vs.take off++us++vs.drop (off+us.length))[i]? = some v->R' p v:=by
 unfold BG;rw[k];refine⟨by simp[h,k],λi p v hp hv=>?_⟩;rw[dY,dY]at hp hv;simp only[bY,cC,h,k]at hp hv;by_cases h1:i<min off l.length+m.length
 .rw [bj h1]at hp hv;by_cases h2:i<min off l.length
  .rw [bj h2]at hp hv;rw[dG]at hp hv;split at hp
   .rename_i h3;rw[bj h3]at hv;exact hR _ _ (hl i p v hp hv)
   .cases hp
  .rw [bh h2]at hp hv;exact hm _ p v hp hv
 .rw [bh h1]at hp hv;rw[dp]at hp hv;exact hR _ _ (hl _ p v hp hv)
def mL.store{w:World}{v:Value}{T:TypeId}{n sz:Nat}{f:Nat->Nat->Value}{nl:Bool}(h:mL w v T n sz f nl){b ofs n' c':Nat}(hv:v = .slice (some ⟨b,ofs,none⟩) n' c'){i j:Nat}(hi:i<n)
 (m:List Value) (hjm:j+m.length<=sz) (Mr:∀ u,u ∈ m->u.oneCell'=true) (Es:nl=true->∀ u,u ∈ m->pO u=false):
 ∃ cur,w.heap[b]? = some (.cells cur T (0,0))/\ofs+(i*sz+j)+m.length<=cur.size /\
  mL (w.setRow b (cur.toList.take (ofs+(i*sz+j))++m++cur.toList.drop (ofs+(i*sz+j)+m.length)).toArray) v T n sz (λi' j'=>if i'=i/\j<=j'/\j'<j+m.length then m.getD (j'-j) undef else f i' j') nl:=by
 rcases h with⟨h1,_⟩|⟨b,ofs,c,cur,h1,hg,oW,nM,oh,ku,jB⟩
 .rw [hv]at h1;cases h1
 .rw [h1]at hv;cases hv;have ajW:ofs+(i*sz+sz)<=cur.size:=by
   have:=bN sz (aA:i+1<=c');rw[bS,cj]at this;omega
  have pN:ofs+(i*sz+j)+m.length<=cur.size:= aA ;refine⟨cur,hg,pN,.inr ⟨b,ofs,c',_,h1,setRow_heap w b _ _ T _ hg,oW,nM,?_,?_,?_⟩⟩
  .simp only[ef,bY,cC,cG,dz];rw[dj aA];omega
  .intro i' j' kI pX;obtain⟨o1,o2⟩:=ku i' j' kI pX;have hlen:ofs+(i'*sz+j')<cur.size:=by
    have:=bN sz (aA:i'+1<=c');rw[bS,cj]at this;omega
   have qu:i'≠i->i'*sz+j'<i*sz\/i*sz+sz<=i'*sz+j':=by
    intro jQ;rcases Nat.lt_or_gt_of_ne jQ with iJ|iJ
    .left;have:=bN sz (show i'+1<=i from iJ);rw[bS,cj]at this;omega
    .right;have:=bN sz (show i+1<=i' from iJ);rw[bS,cj]at this;omega
   simp only[fU];rw[gL,dY,cC,dz,dj aA];by_cases jP:i'=i/\j<=j'/\j'<j+m.length
   .obtain ⟨rfl,p1,p2⟩:=jP;rw[bh aA,dg aA];have e1:ofs+(i'*sz+j')-(ofs+(i'*sz+j))=j'-j:= aA ;have iJ:j'-j<m.length:= aA ;rw[bj ⟨rfl,p1,p2⟩,e1,bk,bw iJ];exact⟨rfl,Mr _ (cz iJ)⟩
   .rw [bh jP];refine⟨?_,o2⟩;by_cases kV:ofs+(i'*sz+j')<ofs+(i*sz+j)
    .rw [bj kV,dG,bj kV];simpa using o1
    .rw [bh kV,dH,dp]
     .have:ofs+(i*sz+j)+m.length+(ofs+(i'*sz+j')-(ofs+(i*sz+j))-m.length)=ofs+(i'*sz+j'):=by
       by_cases Em:i'=i
       .subst Em;omega
       .have:=qu Em;omega
      rw[this];simpa using o1
     .by_cases Em:i'=i
      .subst Em;omega
      .have:=qu Em;omega
  .intro hn v hv;simp only[fV,cS]at hv;rcases hv with(hv|hv)|hv
   .exact jB hn v (by have:=dM hv;simpa using this)
   .exact Es hn v hv
   .exact jB hn v (by have:=dE hv;simpa using this)
def mL.tp{w:World}{v:Value}{T:TypeId}{n sz:Nat}{f:Nat->Nat->Value}{nl:Bool}(h:mL w v T n sz f nl):v.cells.toList=[v]/\v.oneCell'=true/\pO v=false:=by
 rcases h with⟨rfl,_⟩|⟨b,ofs,c,cur,rfl,_⟩<;>exact⟨rfl,rfl,rfl⟩
def mA.tp{bs br:Nat->Prop}{id:Nat}{b:Bx}(h:mA bs br L w id b)(hs:b.Tu=true):(L.val id).cells.toList=[L.val id]/\(L.val id).oneCell'=true/\pO (L.val id)=false:=by
 cases b with
 |row nl T n sz el=>obtain⟨f,h1,_⟩:=h;exact h1.tp
 |il nl T1 T0 n sz len el pend=>
  rcases h with⟨h,_⟩|⟨b,ofs,c,cur,f,h,_⟩<;>rw[h]<;>exact⟨rfl,rfl,rfl⟩
 |cells _ _=>cases hs
 |pj _ _ _=>cases hs
 |xT=>cases hs
 |mS=>cases hs
def Oo{id:Nat}:∀ i,L.lL i->(L.set id (L.own id) (L.val id) (L.iB id)).lL i/\(L.set id (L.own id) (L.val id) (L.iB id)).val i=L.val i/\∀ j,(L.set id (L.own id) (L.val id) (L.iB id)).iB i j=L.iB i j:=by
 intro i hi;by_cases e:i=id
 .subst e;exact⟨.inr hi,Lk.mz,λj=>Lk.nm j⟩
 .exact ⟨.inr hi,Lk.xS e,λj=>Lk.BT e j⟩
def aiW(c r q:Nat):nd c r (nd c r q)=q:=by
 by_cases h1:q=c
 .subst h1;by_cases h2:r=q
  .subst h2;simp[nd]
  .simp [nd,h2]
 .by_cases h2:q=r
  .subst h2;simp[nd,h1]
  .simp [nd,h1,h2]
def Mb(hT:lE P T){t:TypeId}{x y:Operand}{ti:TI}(mN:lJ T t=some ti)(iq:o.op = .store t x y)(r:jb w0 B σ a w L){id:Nat}{nl:Bool}{T1 T0 n sz:Nat}{len:Nat->Nat}{el:Nat->Nat->Nat->E}{pend:Option Nat}
 (k0:vg (bad B L) (jg L) L w id nl T1 T0 n sz len el pend) {i k:Nat} (hx:kH (bad B L) (jg L) L w (.ny id 1 i 0) (a.eval x)) (hy:kH (bad B L) (jg L) L w (.iB id k) (a.eval y)) (hi:i<n) (hk:k<n) (c2:ti.i.size=1):
 ∃ (b ofs c:Nat) (cur:Array Value) (f:Nat->Nat->Nat->Value),(L.val id = .slice (some ⟨b,ofs,none⟩) n c/\w.heap[b]? = some (.cells cur T1 (0,0))/\n<=c/\c<=maxLen/\ofs+c<=cur.size /\
  (∀ k,k<n->pend≠some k->cur[ofs+k]? = some (L.iB id k))/\(∀ u,u ∈ cur->pO u=false) /\
  (∀ k,k<n->mL w (L.iB id k) T0 (len k) sz (f k) nl/\∀ i j,i<len k->j<sz->iC (bad B L) (jg L) w (el k i j) (f k i j)/\(el k i j).nr 2=true) /\
  (∀ x,L.own id x↔x=b\/∃ k,k<n/\(L.iB id k).ownBlock=some x) /\
  (∀ k k' x,k<n->k'<n->(L.iB id k).ownBlock=some x->(L.iB id k').ownBlock=some x->k=k')/\(∀ k,k<n->(L.iB id k).ownBlock≠some b)) /\
 (execOp a.eval o).run P w = .ok .skip (w.setRow b (cur.setIfInBounds (ofs+i) (L.iB id k)))/\ph L w id (L.own id) (w.setRow b (cur.setIfInBounds (ofs+i) (L.iB id k))) /\
 ∀ x,x≠b->(w.setRow b (cur.setIfInBounds (ofs+i) (L.iB id k))).heap[x]? = w.heap[x]?:=by
 obtain⟨b,ofs,c,cur,f,h1,h2,h3,h4,h5,h6,h7,h8,h9,mY,mZ⟩:=k0;obtain⟨k1,b',ofs',n',c',k2,k3⟩:=hx;obtain⟨_,CG⟩:=hy;rw[h1]at k2;cases k2;have vu:=(h8 k hk).1.tp;have lp:L.own id b:=(h9 b).2 (.inl rfl);have ht:=ph.setRow (L:=L) lp (λx hx=>(r.hw id x hx).2) (cur.toList.take (ofs+(i*1+0))++(a.eval y).cells.toList++cur.toList.drop (ofs+(i*1+0)+(a.eval y).cells.toList.length)).toArray;have yu:(a.eval y).cells.toList=[L.iB id k]:=by rw[CG];exact vu.1
 have Sk:(cur.toList.take (ofs+(i*1+0))++(a.eval y).cells.toList++cur.toList.drop (ofs+(i*1+0)+(a.eval y).cells.toList.length)).toArray=cur.setIfInBounds (ofs+i) (L.iB id k):=by
  rw[yu];apply dc;simp only[cv,bW,fh,akA];rw[List.set_eq_take_append_cons_drop,bj (by simpa using(aA:ofs+i<cur.size))];simp
 rw[Sk]at ht;refine⟨b,ofs,c,cur,f,⟨h1,h2,h3,h4,h5,h6,h7,h8,h9,mY,mZ⟩,?_,ht,λx hx=>setRow_other w b x _ hx⟩;have hr:=ze hT w mN b (ofs+(i*1+0)) T1 cur h2 (a.eval y) (by rw[yu];simpa using c2.symm) (by rw[yu];simp;omega) (by rw[yu];simpa using vu.2.1);rw[Sk]at hr;simp only[execOp,iq,k3,Instr.storeAt,Instr.sureAddr,Sem.run_bind,Sem.run_pure,Result.andThen_ok,hr]
def Sn{id:Nat}{nl:Bool}{T1 T0 n sz:Nat}{len:Nat->Nat}{el:Nat->Nat->Nat->E}{pend':Option Nat}{b ofs c i k:Nat}{cur:Array Value}{f:Nat->Nat->Nat->Value}(h1:L.val id = .slice (some ⟨b,ofs,none⟩) n c)(h2:w.heap[b]? = some (.cells cur T1 (0,0)))(h3:n<=c)(h4:c<=maxLen)(h5:ofs+c<=cur.size)
 (h7:∀ u,u ∈ cur->pO u=false)
 (h8:∀ k,k<n->mL w (L.iB id k) T0 (len k) sz (f k) nl/\∀ i j,i<len k->j<sz->iC (bad B L) (jg L) w (el k i j) (f k i j)/\(el k i j).nr 2=true)
 (h9:∀ x,L.own id x↔x=b\/∃ k,k<n/\(L.iB id k).ownBlock=some x)
 (mY:∀ k k' x,k<n->k'<n->(L.iB id k).ownBlock=some x->(L.iB id k').ownBlock=some x->k=k') (mZ:∀ k,k<n->(L.iB id k).ownBlock≠some b)
 (hl:qw L w (L.set id (L.own id) (L.val id) (L.iB id)) (w.setRow b (cur.setIfInBounds (ofs+i) (L.iB id k)))) (rY:∀ x,x≠b->(w.setRow b (cur.setIfInBounds (ofs+i) (L.iB id k))).heap[x]? = w.heap[x]?) (hk:k<n)
 (h6:∀ q,q<n->pend'≠some q->(cur.setIfInBounds (ofs+i) (L.iB id k))[ofs+q]? = some (L.iB id q)):
 vg (bad B (L.set id (L.own id) (L.val id) (L.iB id))) (jg (L.set id (L.own id) (L.val id) (L.iB id))) (L.set id (L.own id) (L.val id) (L.iB id)) (w.setRow b (cur.setIfInBounds (ofs+i) (L.iB id k))) id nl T1 T0 n sz len el pend':=by
 refine⟨b,ofs,c,cur.setIfInBounds (ofs+i) (L.iB id k),f,by rw[Lk.mz];exact h1,setRow_heap w b _ _ T1 _ h2,h3,h4,by simpa using h5,by simp only[Lk.nm];exact h6,?_,?_,?_,?_,?_⟩
 .intro v hv;rcases akB hv with hv|hv
  .exact h7 v hv
  .subst hv;exact(h8 k hk).1.tp.2.2
 .intro q hq;obtain⟨p1,p2⟩:=h8 q hq;rw[Lk.nm];exact⟨p1.block λx hx=>rY x λe=>mZ q hq (e▸hx),λi j hi hj=>⟨hl.ko (p2 i j hi hj).1,(p2 i j hi hj).2⟩⟩
 .intro x;rw[Lk.oP];refine(h9 x).trans ?_;simp only[Lk.nm]
 .simp only[Lk.nm];exact mY
 .simp only[Lk.nm];exact mZ
def aco(hT:lE P T){t:TypeId}{x y:Operand}(iq:o.op = .store t x y)(r:jb w0 B σ a w L)(h:jC P K T O σ o=some u)(ho:∀ q,q ∈ u.ju->q):jL P K w0 B σ o a w u:=by
 simp only[jC,iq,Hc]at h;have hx:=r.op x;have hy:=r.op y;split at h
 .rename_i ti mN;split at h
  .
   rename_i id off e mP yD;rw[mP]at hx;rw[yD]at hy;split at h
   .rename_i T1 l m iN hm;split at h
    .rename_i hc;cases h;simp only[bF]at hc;have c1:=kz.1 hc.1.1;have c2:=cA hc.1.2;obtain⟨b,vs,h1,h2,h3,h4,h5⟩:=r.hb id _ iN;obtain⟨k1,b',k2,k3⟩:=hx;rw[h1]at k2;cases k2;obtain⟨q1,q2⟩:=hy.cells hm;have ht:=ph.setRow (L:=L) ((h2 b).2 rfl) (λx hx=>(r.hw id x hx).2) (vs.take off++(a.eval y).cells.toList++vs.drop (off+(a.eval y).cells.toList.length)).toArray;have hl:=ht.later (L.val id) (L.iB id);refine⟨undef,_,_,.inr ⟨?_,rfl⟩,r.ot id (.cells T1 (xO l off m)) _ k1 ht ⟨b,_,by rw[Lk.mz];exact h1,λx=>(Lk.oP x).trans (h2 x),setRow_heap w b _ _ T1 _ h3,(NX h4 q1 off).mono λ_ _=>hl.ko,?_⟩ ?_,.any _⟩
     .have hr:=ze hT w mN b off T1 vs.toArray h3 (a.eval y) (by rw[q1.len,c1]) (by rw[q1.len,ef,h4.len];exact c2) q2;simp only[execOp,iq,k3,Instr.storeAt,Instr.sureAddr,Sem.run_bind,Sem.run_pure,Result.andThen_ok,hr]
     .intro v hv;simp only[cS]at hv;rcases hv with(hv|hv)|hv
      .exact h5 v (dM hv)
      .exact q2 v hv
      .exact h5 v (dE hv)
     .intro hn;have:=hc.2;rw[hn]at this;exact VU (r.hl hn id _ iN) (by simpa using this) off
    .cases h
   .rename_i nl T1 l m iN hm;split at h
    .rename_i hc;cases h;simp only[bF]at hc;have c1:=kz.1 hc.1.1;have c2:=cA hc.1.2;obtain⟨b,vs,h1,h2,h3,h4,h5,h6⟩:=r.hb id _ iN;obtain⟨k1,b',k2,k3⟩:=hx;rw[h1]at k2;cases k2;obtain⟨q1,q2⟩:=hy.cells hm;have ht:=ph.setRow (L:=L) ((h2 b).2 rfl) (λx hx=>(r.hw id x hx).2) (vs.take off++(a.eval y).cells.toList++vs.drop (off+(a.eval y).cells.toList.length)).toArray;have hl:=ht.later (L.val id) (L.iB id);obtain⟨p1,p2⟩:=VX (R:=kH (bad B L) (jg L) L w) (R':=kH (bad B (L.set id (L.own id) (L.val id) (L.iB id))) (jg (L.set id (L.own id) (L.val id) (L.iB id))) (L.set id (L.own id) (L.val id) (L.iB id)) (w.setRow b (vs.take off++(a.eval y).cells.toList++vs.drop (off+(a.eval y).cells.toList.length)).toArray))
      h4 (us:=(a.eval y).cells.toList) (m:=m.map .e) (by rw[q1.len,cU]) off h5 (λi p v hp hv=>by
       rw[cD]at hp;obtain⟨e0,he,rfl⟩:=bQ.1 hp;exact hl.ko (q1.ko i e0 v he hv)) λp v k=>k.later hl Oo
     refine⟨undef,_,_,.inr ⟨?_,rfl⟩,r.ot id (.pj nl T1 (BG l off (m.map .e))) _ k1 ht ⟨b,_,by rw[Lk.mz];exact h1,λx=>(Lk.oP x).trans (h2 x),setRow_heap w b _ _ T1 _ h3,p1,p2,?_⟩ ?_,.any _⟩
     .have hr:=ze hT w mN b off T1 vs.toArray h3 (a.eval y) (by rw[q1.len,c1]) (by rw[q1.len,ef,h4];exact c2) q2;simp only[execOp,iq,k3,Instr.storeAt,Instr.sureAddr,Sem.run_bind,Sem.run_pure,Result.andThen_ok,hr]
     .intro v hv;simp only[cS]at hv;rcases hv with(hv|hv)|hv
      .exact h6 v (dM hv)
      .refine ⟨q2 v hv,λhn=>?_⟩;have:=hc.2;rw[hn]at this;have Cp:m.all E.mc=true:=by simpa using this
       obtain⟨i,hi⟩:=dh.1 hv;have iJ:i<m.length:=by rw[<-q1.len];exact(ca.1 hi).1
       exact(q1.ko i _ v (bw iJ) hi).mc (bG.1 Cp _ (cz iJ))
      .exact h6 v (dE hv)
     .intro hn;exact r.hl hn id (.pj nl T1 l) iN
    .cases h
   .rename_i T1 b l m iN hm;split at h
    .rename_i hc;cases h;simp only[bF]at hc;have c1:=kz.1 hc.1.1;have c2:=cA hc.1.2;obtain⟨vs,h1,h2,h3,h4,h5⟩:=r.hb id _ iN;obtain⟨k1,b',k2,k3⟩:=hx;rw[h1]at k2;cases k2;obtain⟨q1,q2⟩:=hy.cells hm;have ht:=ph.setRow (L:=L) ((h2 b).2 rfl) (λx hx=>(r.hw id x hx).2) (vs.take off++(a.eval y).cells.toList++vs.drop (off+(a.eval y).cells.toList.length)).toArray;have hl:=ht.later (L.val id) (L.iB id);refine⟨undef,_,_,.inr ⟨?_,rfl⟩,r.ot id (.mS T1 b (xO l off m)) _ k1 ht ⟨_,by rw[Lk.mz];exact h1,λx=>(Lk.oP x).trans (h2 x),setRow_heap w b _ _ T1 _ h3,(NX h4 q1 off).mono λ_ _=>hl.ko,?_⟩ ?_,.any _⟩
     .have hr:=ze hT w mN b off T1 vs.toArray h3 (a.eval y) (by rw[q1.len,c1]) (by rw[q1.len,ef,h4.len];exact c2) q2;simp only[execOp,iq,k3,Instr.storeAt,Instr.sureAddr,Sem.run_bind,Sem.run_pure,Result.andThen_ok,hr]
     .intro v hv;simp only[cS]at hv;rcases hv with(hv|hv)|hv
      .exact h5 v (dM hv)
      .exact q2 v hv
      .exact h5 v (dE hv)
     .intro hn;have:=hc.2;rw[hn]at this;exact VU (r.hl hn id _ iN) (by simpa using this) off
    .cases h
   .cases h
  .
   rename_i id off q mP yD;rw[mP]at hx;rw[yD]at hy;unfold Cg at h;split at h
   rotate_left
   .unfold Hd at h;split at h
    .rename_i nl T1 l bq iN sM;split at h
     .rename_i hc;cases h;simp only[bF]at hc;have c1:=kz.1 hc.1.2;have c2:off<l.length:=by simpa[eV]using hc.2
      obtain⟨b,vs,h1,h2,h3,h4,h5,h6⟩:=r.hb id _ iN;obtain⟨k1,b',k2,k3⟩:=hx;rw[h1]at k2;cases k2;obtain⟨S5,yH⟩:=hy;obtain⟨d1,d2,d3⟩:=(r.hb q _ sM).tp hc.1.1;have oh:(a.eval y).cells.toList=[L.val q]:=by rw[yH,d1]
      have ht:=ph.setRow (L:=L) ((h2 b).2 rfl) (λx hx=>(r.hw id x hx).2) (vs.take off++[L.val q]++vs.drop (off+[L.val q].length)).toArray;have hl:=ht.later (L.val id) (L.iB id);obtain⟨p1,p2⟩:=VX (R:=kH (bad B L) (jg L) L w) (R':=kH (bad B (L.set id (L.own id) (L.val id) (L.iB id))) (jg (L.set id (L.own id) (L.val id) (L.iB id))) (L.set id (L.own id) (L.val id) (L.iB id)) (w.setRow b (vs.take off++[L.val q]++vs.drop (off+[L.val q].length)).toArray))
       h4 (us:=[L.val q]) (m:=[.own q]) rfl off h5 (λi p v hp hv=>by
        cases i with
        |zero=>
         simp at hp hv;subst hp hv;have:=Oo (L:=L) (id:=id) q S5;exact⟨this.1,this.2.1.symm⟩
        |succ i=>simp at hp) λp v k=>k.later hl Oo
      refine⟨undef,_,_,.inr ⟨?_,rfl⟩,r.ot id (.pj nl T1 (BG l off [.own q])) _ k1 ht ⟨b,_,by rw[Lk.mz];exact h1,λx=>(Lk.oP x).trans (h2 x),setRow_heap w b _ _ T1 _ h3,p1,p2,?_⟩ ?_,.any _⟩
      .have hr:=ze hT w mN b off T1 vs.toArray h3 (a.eval y) (by rw[oh,c1];rfl) (by rw[oh,ef,h4];exact c2) (by rw[oh];exact λu hu=>by rw[c9.1 hu];exact d2);rw[oh]at hr;simp only[execOp,iq,k3,Instr.storeAt,Instr.sureAddr,Sem.run_bind,Sem.run_pure,Result.andThen_ok,hr]
      .intro v hv;simp only[cS]at hv;rcases hv with(hv|hv)|hv
       .exact h6 v (dM hv)
       .rw [c9.1 hv];exact⟨d2,λ_=>d3⟩
       .exact h6 v (dE hv)
      .intro hn;exact r.hl hn id (.pj nl T1 l) iN
     .cases h
    .cases h
   rename_i u' hM;cases h;unfold He at hM;have h:=hM;clear hM;split at h
   .rename_i T1 x0 nl T0 n sz el iN sM;split at h
    .rename_i hc;cases h;rw[bF]at hc;obtain⟨hc,pW⟩:=hc;have e0:=kz.1 pW;subst e0;simp only[bF,de]at hc;have jQ:id≠q:=λe=>by rw[e,ck]at hc;cases hc.1
     have c1:=kz.1 hc.2;obtain⟨b,vs,h1,h2,h3,h4,h5⟩:=r.hb id _ iN;obtain⟨k1,b',k2,k3⟩:=hx;rw[h1]at k2;cases k2;obtain⟨_,yH⟩:=hy;obtain⟨v0,rfl⟩:∃ v0,vs=[v0]:=by
      have:=h4.len;rcases vs with _|⟨v0,_|⟨v1,vs⟩⟩
      .simp at this
      .exact ⟨v0,rfl⟩
      .simp at this
     obtain⟨f,g1,_⟩:=r.hb q _ sM;have ku:(L.val q).cells.toList=[L.val q]/\(L.val q).oneCell'=true:=by
      rcases g1 with⟨g,_⟩|⟨b1,o1,c1,cur,g,_⟩<;>rw[g]<;>exact⟨rfl,rfl⟩
     have ht:=ph.setRow (L:=L) ((h2 b).2 rfl) (λx hx=>(r.hw id x hx).2) #[L.val q];obtain⟨L',hr⟩:=r.om iN sM jQ h1 (setRow_heap w b _ _ T1 _ h3) ht;refine⟨undef,_,L',.inr ⟨?_,rfl⟩,hr,.any _⟩;have jX:=ze hT w mN b 0 T1 #[v0] h3 (a.eval y) (by rw[yH,ku.1,c1];rfl) (by rw[yH,ku.1];exact bl 1) (by rw[yH,ku.1];exact λu hu=>by rw[c9.1 hu];exact ku.2);rw[yH,ku.1]at jX;simp only[execOp,iq,k3,Instr.storeAt,Instr.sureAddr,Sem.run_bind,Sem.run_pure,Result.andThen_ok,yH,jX];rfl
    .cases h
   .cases h
  .
   rename_i id sz i j e mP yD;rw[mP]at hx;rw[yD]at hy;split at h
   .rename_i nl T1 n s el m iN hm;split at h
    .rename_i hc;cases h;simp only[bF]at hc;have c1:=kz.1 hc.1.1.1.1;have c2:=kz.1 hc.1.1.1.2;have c3:=cA hc.1.1.2;subst c2;have hi:i<n:=ho _ aF;obtain⟨f,h1,h2,h3⟩:=r.hb id _ iN;obtain⟨k1,b',of',n',c',k2,k3⟩:=hx;obtain⟨q1,q2⟩:=hy.cells hm;obtain⟨cur,hg,pN,zR⟩:=mL.store h1 k2 (j:=j) hi (a.eval y).cells.toList (by rw[q1.len];exact c3) q2 (λhn v hv=>by
      obtain⟨q,hq⟩:=dh.1 hv;have sT:q<m.length:=by rw[<-q1.len];exact(ca.1 hq).1
      have Es:m.all E.mc=true:=by have:=hc.1.2;rw[hn]at this;simpa using this
      exact(q1.ko q _ v (bw sT) hq).mc (bG.1 Es _ (cz sT)))
     have lp:L.own id b':=(h2 b').2 (by rw[k2];rfl);have ht:=ph.setRow (L:=L) lp (λx hx=>(r.hw id x hx).2) (cur.toList.take (of'+(i*s+j))++(a.eval y).cells.toList++cur.toList.drop (of'+(i*s+j)+(a.eval y).cells.toList.length)).toArray;have hl:=ht.later (L.val id) (L.iB id);refine⟨undef,_,_,.inr ⟨?_,rfl⟩,r.ot id _ _ k1 ht ⟨λi' j'=>if i'=i/\j<=j'/\j'<j+m.length then(a.eval y).cells.toList.getD (j'-j) undef else f i' j',?_,λx=>?_,?_⟩ ?_,.any _⟩
     .have hr:=ze hT w mN b' (of'+(i*s+j)) T1 cur hg (a.eval y) (by rw[q1.len,c1]) pN q2;simp only[execOp,iq,k3,Instr.storeAt,Instr.sureAddr,Sem.run_bind,Sem.run_pure,Result.andThen_ok,hr]
     .rw [Lk.mz];rw[q1.len]at zR;rw[q1.len];exact zR
     .rw [Lk.mz];exact(Lk.oP x).trans (h2 x)
     .intro i' j' kI pX;refine(λ(q:iC _ _ _ _ _/\_)=>⟨hl.ko q.1,q.2⟩) (?_:_/\_);dsimp only;by_cases jP:i'=i/\j<=j'/\j'<j+m.length
      .rw [bj jP,bj jP];have tw:j'-j<m.length:= aA ;have xA:j'-j<(a.eval y).cells.toList.length:=by rw[q1.len];omega
       rw[bk,bw tw,bk,bw xA];exact⟨q1.ko _ _ _ (bw tw) (bw xA),bG.1 hc.2 _ (cz tw)⟩
      .rw [bh jP,bh jP];exact h3 i' j' kI pX
     .intro hn;have:=r.hl hn id _ iN;exact this
    .cases h
   .cases h
  .
   rename_i id i id' k mP yD;rw[mP]at hx;rw[yD]at hy;split at h
   .rename_i nl T1 T0 n sz len el k' iN;split at h
    .rename_i hc;cases h;simp only[bF]at hc;have c1:=kz.1 hc.1;have c2:=kz.1 hc.2;subst c1;have e1:i=k':=ho _ aF;have e2:k=k':=ho _ aF;have hk:k'<n:=ho _ aF;subst e1 e2;obtain⟨b,ofs,c,cur,f,⟨h1,h2,h3,h4,h5,h6,h7,h8,h9,mY,mZ⟩,jX,ht,rY⟩:=Mb hT mN iq r ((r.hb id _ iN).tR aA) hx hy hk hk c2;have hl:=ht.later (L.val id) (L.iB id);refine⟨undef,_,_,.inr ⟨jX,rfl⟩,r.ot id _ _ hx.1 ht (.inr (Sn h1 h2 h3 h4 h5 h7 h8 h9 mY mZ hl rY hk (λq hq _=>?_))) (λhn=>by have:=r.hl hn id _ iN;exact this),.any _⟩;by_cases rI:q=k
     .subst rI;have:ofs+q<cur.size:= aA ;simp[this]
     .rw [fm (λe=>rI aA)];exact h6 q hq (by simpa using λe=>rI e.symm)
    .cases h
   .rename_i nl T1 T0 n sz len el iN;split at h
    .rename_i hc;cases h;simp only[bF]at hc;have c1:=kz.1 hc.1;have c2:=kz.1 hc.2;subst c1;have hi:i<n:=ho _ aF;have hk:k<n:=ho _ aF;obtain⟨b,ofs,c,cur,f,⟨h1,h2,h3,h4,h5,h6,h7,h8,h9,mY,mZ⟩,jX,ht,rY⟩:=Mb hT mN iq r ((r.hb id _ iN).tR aA) hx hy hi hk c2;have hl:=ht.later (L.val id) (L.iB id);have iJ:ofs+i<cur.size:= aA ;refine⟨undef,_,_,.inr ⟨jX,rfl⟩,r.ot id _ _ hx.1 ht ⟨Sn h1 h2 h3 h4 h5 h7 h8 h9 mY mZ hl rY hk (λq hq vy=>?_),hi,hk,λb' ofs' m q hv=>?_⟩ (λhn=>by have:=r.hl hn id _ iN;exact this),.any _⟩
     .rw [fm (λe=>vy (by rw[(aA:i=q)]))];exact h6 q hq aF 
     .rw [Lk.mz,h1]at hv;cases hv;rw[Lk.nm];simp only[World.cell?,setRow_heap w b _ _ T1 _ h2];simp[iJ]
    .cases h
   .rename_i nl T1 T0 n sz len el c r' iN;split at h
    .rename_i hc;cases h;simp only[bF]at hc;have c1:=kz.1 hc.1;have c2:=kz.1 hc.2;subst c1;have e1:i=r':=ho _ aF;have e2:k=c:=ho _ aF;subst e1 e2;obtain⟨ri,pW,My,ku⟩:=r.hb id _ iN;obtain⟨b,ofs,c,cur,f,⟨h1,h2,h3,h4,h5,h6,h7,h8,h9,mY,mZ⟩,jX,ht,rY⟩:=Mb hT mN iq r ri hx hy My pW c2;have hl:=ht.later (L.val id) (λq=>L.iB id (nd k i q));have A7:∀ q,q<n->nd k i q<n:=λq hq=>by unfold nd;split;exact My;split;exact pW;exact hq
     have Mz:∀ q,nd k i (nd k i q)=q:=aiW k i;refine⟨undef,_,_,.inr ⟨jX,rfl⟩,r.rG id _ _ (λq=>L.iB id (nd k i q)) _ ht (.inr ⟨b,ofs,c,cur.setIfInBounds (ofs+i) (L.iB id k),λq=>f (nd k i q),by rw[Lk.mz];exact h1,setRow_heap w b _ _ T1 _ h2,h3,h4,by simpa using h5,?_,?_,?_,?_,?_,?_⟩) (λhn=>by have:=r.hl hn id _ iN;exact this),.any _⟩
     .intro q hq _;rw[Lk.nm];by_cases vy:q=i
      .subst vy;have iJ:ofs+q<cur.size:= aA ;have e:nd k q q=k:=by unfold nd;split;(rename_i e;exact e);rw[bj rfl]
       rw[e];simp[iJ]
      .rw [fm (λe=>vy aA)];by_cases rI:q=k
       .subst rI;have e:nd q i q=i:=by unfold nd;rw[bj rfl]
        rw[e];have:=ku b ofs _ _ h1;simp only[World.cell?,h2]at this;simpa using this
       .have e:nd k i q=q:=by unfold nd;rw[bh rI,bh vy]
        rw[e];exact h6 q hq (by simpa using λe=>rI e.symm)
     .intro v hv;rcases akB hv with hv|hv
      .exact h7 v hv
      .subst hv;exact(h8 k pW).1.tp.2.2
     .intro q hq;obtain⟨p1,p2⟩:=h8 _ (A7 q hq);rw[Lk.nm];exact⟨p1.block λx hx=>rY x λe=>mZ _ (A7 q hq) (e▸hx),λi j hi hj=>⟨hl.ko (p2 i j hi hj).1,(p2 i j hi hj).2⟩⟩
     .intro x;rw[Lk.oP];refine(h9 x).trans ?_;simp only[Lk.nm];constructor
      .rintro (h|⟨q,hq,h⟩)
       .exact .inl h
       .exact .inr ⟨nd k i q,A7 q hq,by rw[Mz];exact h⟩
      .rintro (h|⟨q,hq,h⟩)
       .exact .inl h
       .exact .inr ⟨nd k i q,A7 q hq,h⟩
     .simp only[Lk.nm];intro q q' x hq sS hx uA;have:=mY _ _ x (A7 q hq) (A7 q' sS) hx uA;rw[<-Mz q,this,Mz]
     .simp only[Lk.nm];exact λq hq=>mZ _ (A7 q hq)
    .cases h
   .cases h
  .
   rename_i id sz i j k e mP yD;rw[mP]at hx;rw[yD]at hy;split at h
   .rename_i nl T1 T0 n s len el pd m iN hm;split at h
    .rename_i hc;cases h;simp only[bF]at hc;have c1:=kz.1 hc.1.1.1.1;have c2:=kz.1 hc.1.1.1.2;have c3:=cA hc.1.1.2;subst c2;have vq:i<n:=ho _ aF;have AV:j<len i:=ho _ aF;obtain⟨b,ofs,c,cur,f,h1,h2,h3,h4,h5,h6,h7,h8,h9,mY,mZ⟩:=(r.hb id _ iN).tR aA;obtain⟨k1,b',of',n',c',k2,k3⟩:=hx;obtain⟨q1,q2⟩:=hy.cells hm;obtain⟨adf,acR⟩:=h8 i vq;obtain⟨cur',hg,pN,zR⟩:=mL.store adf k2 (j:=k) AV (a.eval y).cells.toList (by rw[q1.len];exact c3) q2 (λhn v hv=>by
      obtain⟨q,hq⟩:=dh.1 hv;have sT:q<m.length:=by rw[<-q1.len];exact(ca.1 hq).1
      have Es:m.all E.mc=true:=by have:=hc.1.2;rw[hn]at this;simpa using this
      exact(q1.ko q _ v (bw sT) hq).mc (bG.1 Es _ (cz sT)))
     have oX:(L.iB id i).ownBlock=some b':=by rw[k2];rfl
     have lp:L.own id b':=(h9 b').2 (.inr ⟨i,vq,oX⟩);have ht:=ph.setRow (L:=L) lp (λx hx=>(r.hw id x hx).2) (cur'.toList.take (of'+(j*s+k))++(a.eval y).cells.toList++cur'.toList.drop (of'+(j*s+k)+(a.eval y).cells.toList.length)).toArray;have hl:=ht.later (L.val id) (L.iB id);have jQ:b'≠b:=λe=>mZ i vq (e▸oX)
     refine⟨undef,_,_,.inr ⟨?_,rfl⟩,r.ot id _ _ k1 ht (.inr ⟨b,ofs,c,cur,λk' i' j'=>if k'=i/\i'=j/\k<=j'/\j'<k+m.length then(a.eval y).cells.toList.getD (j'-k) undef else f k' i' j',by rw[Lk.mz];exact h1,by rw[setRow_other w b' b _ jQ.symm];exact h2,h3,h4,h5,by simp only[Lk.nm];exact h6,h7,?_,?_,by simp only[Lk.nm];exact mY,by simp only[Lk.nm];exact mZ⟩) ?_,.any _⟩
     .have hr:=ze hT w mN b' (of'+(j*s+k)) T0 cur' hg (a.eval y) (by rw[q1.len,c1]) pN q2;simp only[execOp,iq,k3,Instr.storeAt,Instr.sureAddr,Sem.run_bind,Sem.run_pure,Result.andThen_ok,hr]
     .intro q hq;rw[Lk.nm];by_cases vy:q=i
      .subst vy;refine⟨?_,λi' j' kI pX=>?_⟩
       .rw [q1.len]at zR ⊢;simpa only[eR]using zR
       .refine (λ(q:iC _ _ _ _ _/\_)=>⟨hl.ko q.1,q.2⟩) (?_:_/\_);dsimp only;by_cases jP:i'=j/\k<=j'/\j'<k+m.length
        .rw [bj ⟨rfl,jP⟩,bj ⟨rfl,jP⟩];have tw:j'-k<m.length:= aA ;have xA:j'-k<(a.eval y).cells.toList.length:=by rw[q1.len];omega
         rw[bk,bw tw,bk,bw xA];exact⟨q1.ko _ _ _ (bw tw) (bw xA),bG.1 hc.2 _ (cz tw)⟩
        .rw [bh λh=>jP h.2,bh λh=>jP h.2];exact acR i' j' kI pX
      .obtain ⟨p1,p2⟩:=h8 q hq;refine⟨?_,λi' j' kI pX=>?_⟩
       .simp only[vy,false_and,bB];exact p1.block λx hx=>setRow_other w b' x _ λe=>vy (mY q i x hq vq hx (e▸oX))
       .simp only[vy,false_and,bB];exact⟨hl.ko (p2 i' j' kI pX).1,(p2 i' j' kI pX).2⟩
     .intro x;rw[Lk.oP];simp only[Lk.nm];exact h9 x
     .intro hn;have:=r.hl hn id _ iN;exact this
    .cases h
   .cases h
  .cases h
 .cases h
def abV(hT:lE P T){t:TypeId}(iq:o.op = .alloc t)(r:jb w0 B σ a w L)(h:jC P K T O σ o=some u):jL P K w0 B σ o a w u:=by
 simp only[jC,iq]at h;split at h
 .rename_i ti mN;split at h
  .rename_i z hz;obtain⟨id,hd,jB,rfl⟩:=IZ h;obtain⟨zv,su,rj⟩:=Dx hz;obtain⟨q1,q2⟩:=rj (bad B L) (jg L) w;obtain⟨L',r',hp⟩:=r.Vl id t z zv q1 q2 (by simpa[Bx.nl]using jB);refine⟨_,_,L',.inl ?_,r',hp⟩;simp only[execOp,iq,Instr.alloc,Sem.run_bind,JQ hT w mN su,Result.andThen_ok,newVar,newRow,run_newObj_alloc,Sem.run_pure]
  .cases h
 .cases h
def abZ{t:TypeId}{x:Operand}(iq:o.op = .box t x)(r:jb w0 B σ a w L)(h:jC P K T O σ o=some u):jL P K w0 B σ o a w u:=by
 simp only[jC,iq]at h;have hx:=r.op x;split at h
 .rename_i e hv;rw[hv]at hx;split at h
  .rename_i l hl;obtain⟨id,hd,jB,rfl⟩:=IZ h;obtain⟨q1,q2⟩:=hx.cells hl;obtain⟨L',r',hp⟩:=r.Vl id t l (a.eval x) q1 q2 (by simpa[Bx.nl]using jB);refine⟨_,_,L',.inl ?_,r',hp⟩;simp only[execOp,iq,Instr.box,Sem.run_bind,Result.andThen_ok,newVar,newRow,run_newObj_alloc,Sem.run_pure]
  .cases h
 .cases h
end
def abC(us:List Value):∀ (off k:Nat) (cs:Array Value),off+k+us.length<=cs.size ->
 (us.zipIdx k).foldl (λcs (c:Value×Nat)=>cs.setIfInBounds (off+c.2) c.1) cs=(cs.toList.take (off+k)++us++cs.toList.drop (off+k+us.length)).toArray:=by
 induction us with
 |nil=>intro off k cs h;simp
 |cons x us ih=>
  intro off k cs h;simp only[List.zipIdx_cons,List.foldl_cons];rw[ih off (k+1) _ (by simp at h ⊢;omega)];apply dc;simp only[cE]at h;obtain⟨A,y,D,oh,hA⟩:∃ A y D,cs.toList=A++y::D/\A.length=off+k:=by
   have iJ:off+k<cs.toList.length:= aL ;refine⟨cs.toList.take (off+k),cs.toList[off+k],cs.toList.drop (off+k+1),?_,by rw[cC];omega⟩;rw[<-eP iJ,gF]
  simp only[akA,cE,oh,<-hA];rw[List.set_append_right _ _ (bl _),cV,List.set_cons_zero,
   show off+(k+1)+us.length=A.length+(us.length+1)by omega,(aA:off+(k+1)=A.length+1),
   List.take_length_add_append,akC,List.take_left,akC]
  simp
def Rm(place:Nat->Option (Nat×Nat))(cs:Array Value)(i:Nat)(v:Value)(rest:List (Nat×Value))(off:Nat)(hp:place i=some (off,v.cells.toList.length))(pN:off+v.cells.toList.length<=cs.size):
 Instr.fill place cs ((i,v)::rest)=Instr.fill place (cs.toList.take off++v.cells.toList++cs.toList.drop (off+v.cells.toList.length)).toArray rest:=by
 have h1:¬(v.cells.size≠v.cells.toList.length\/off+v.cells.size>cs.size):=by simp at pN ⊢;omega
 have hf:=abC v.cells.toList off 0 cs (by simpa using pN);simp only[bW]at hf;have h2:(v.cells.zipIdx.foldl (λcs (c,j)=>cs.setIfInBounds (off+j) c) cs)=(cs.toList.take off++v.cells.toList++cs.toList.drop (off+v.cells.toList.length)).toArray:=by
  rw[<-hf,<-Array.foldl_toList,Array.toList_zipIdx]
 rw[Instr.fill,hp];simp only;rw[bh (by simpa using h1),h2]
section
variable {P:Program} {K:World->Prop} {T:List TI} {O:pS} {w0:lZ} {B:Nat->Prop} {σ:PS} {o:Oper} {a:Act} {w:World} {L:Lk} {u:kq}
def Lw(r:jb w0 B σ a w L){place:Nat->Option (Nat×Nat)}{ps:List (Nat×Operand)}{l m:List E}{cs:Array Value}(h:rV σ place l ps=some m)
 (hr:jZ (bad B L) (jg L) w l cs.toList) (h1:∀ u ∈ cs,u.oneCell'=true):
 ∃ cs',Instr.fill place cs (ps.map λx=>(x.1,a.eval x.2))=some cs'/\jZ (bad B L) (jg L) w m cs'.toList/\(∀ u ∈ cs',u.oneCell'=true):=by
 induction ps generalizing l cs with
 |nil=>
  simp only[rV]at h;cases h;exact⟨cs,rfl,hr,h1⟩
 |cons p ps ih=>
  obtain⟨i,x⟩:=p;simp only[rV]at h;have hx:=r.op x;split at h
  .rename_i off size e hp hv;rw[hv]at hx;split at h
   .rename_i q hq;split at h
    .rename_i hc;simp only[bF]at hc;have c1:=kz.1 hc.1;have c2:=cA hc.2;obtain⟨q1,q2⟩:=hx.cells hq;have hlen:(a.eval x).cells.toList.length=size:=by rw[q1.len,c1]
     have rX:=hr.len;rw[ee,Rm place cs i (a.eval x) _ off (by rw[hlen];exact hp) (by rw[q1.len];simp at rX;omega)];refine ih h (NX hr q1 off) λv hv=>?_
     simp only[fV,cS]at hv;rcases hv with(hv|hv)|hv
     .exact h1 v (by have:=dM hv;simpa using this)
     .exact q2 v hv
     .exact h1 v (by have:=dE hv;simpa using this)
    .cases h
   .cases h
  .cases h
def NW(ps:Array (Nat×Operand))(a:Act):(ps.map λ(x:Nat×Operand)=>(x.1,a.eval x.2)).toList=ps.toList.map λx=>(x.1,a.eval x.2):= aF 
def agW{P:Program}(hT:lE P T){fs:List Field}{pl:List (Nat×Nat)}(h:FN T fs=some pl):fs.mapM (λf=>(P.info? f.type).map λi=>(f.offset,i.size))=some pl:=by
 induction fs generalizing pl with
 |nil=>simp only[FN]at h;cases h;rfl
 |cons f fs ih=>
  simp only[FN]at h;split at h
  .rename_i ti l h1 h2;cases h;simp[eh,hT.yL h1,ih h2]
  .cases h
def ab0(hT:lE P T){t:TypeId}{ps:Array (Nat×Operand)}(iq:o.op = .build t ps)(r:jb w0 B σ a w L)(h:jC P K T O σ o=some u):jL P K w0 B σ o a w u:=by
 simp only[jC,iq]at h;have main:∀ (l:List E) (cs:Array Value),P.built t (ps.toList.map λx=>(x.1,a.eval x.2))=some cs->jZ (bad B L) (jg L) w l cs.toList->u={ r:=.e (.agg l) }->jL P K w0 B σ o a w u:=by
  intro l cs hb hr hu;subst hu;have jX:=run_build (P:=P) w t (ps.map λ(x:Nat×Operand)=>(x.1,a.eval x.2)) cs (by rw[NW];exact hb);refine jL.pure r (v:=.agg cs) ?_ rfl (by have:=hr.agg;rwa[Array.toArray_toList]at this);simp only[execOp,iq,Sem.run_bind,jX,Result.andThen_ok,Sem.run_pure]
 split at h
 .rename_i ti mN;split at h
  .rename_i z hz;obtain⟨zv,su,rj⟩:=Dx hz;obtain⟨q1,q2⟩:=rj (bad B L) (jg L) w;split at h
   .rename_i fs hd;split at h
    .rename_i pl A0;obtain⟨l,hl,rfl⟩:=bQ.1 h;obtain⟨cs,p1,p2,_⟩:=Lw r hl q1 (λu hu=>q2 u (by simpa using hu));refine main l cs ?_ p2 rfl;unfold Program.built;rw[hT.yL mN,hT.qd mN,hd];simp only[su,agW hT A0];have:(λx:Nat=>pl.toArray[x]?)=λx=>pl[x]?:=by funext x;simp
     rw[this];exact p1
    .cases h
   .rename_i n e hd;split at h
    .rename_i te mR;obtain⟨l,hl,rfl⟩:=bQ.1 h;obtain⟨cs,p1,p2,_⟩:=Lw r hl q1 (λu hu=>q2 u (by simpa using hu));refine main l cs ?_ p2 rfl;unfold Program.built;rw[hT.yL mN,hT.qd mN,hd];simp only[su,hT.yL mR];exact p1
    .cases h
   .cases h
  .cases h
 .cases h
def Wb{α:Type}(n:Nat)(l:List α):(ko n l).length=n*l.length:=by
 induction n with
 |zero=>simp[ko]
 |succ n ih=>simp only[ko,bY,ih,bS,cj];omega
def ahx{α:Type}(n:Nat)(l:List α)(q:Nat)(h:q<n*l.length):(ko n l)[q]? = l[q%l.length]?:=by
 induction n generalizing q with
 |zero=>simp at h
 |succ n ih=>
  simp only[ko];rw[bS,cj]at h;by_cases hq:q<l.length
  .rw [dg hq,ct hq]
  .rw [dH aA,ih _ aA];congr 1;exact(Nat.mod_eq_sub_mod aA).symm
def ahy{bs br:Nat->Prop}{z:List E}{zs:Array Value}(h:jZ bs br w z zs.toList)(n:Nat):jZ bs br w (ko n z) ((Array.range (n*zs.size)).map (zs[· % zs.size]!)).toList:=by
 have hl:=h.len;simp only[dz]at hl;refine⟨by simp[Wb,hl],λi p x hp hx=>?_⟩;have hi:i<n*zs.size:=by
  have:=(ca.1 hx).1;simpa using this
 have hz:0<zs.size:=by
  rcases ev zs.size with h0|h0
  .rw [h0]at hi;simp at hi
  .exact h0
 rw[ahx _ _ _ (by rw[<-hl];exact hi),<-hl]at hp;have iJ:=bI i hz;simp[hi]at hx;subst hx;rw[eX zs _ iJ];exact h.ko _ p _ hp (by simp[iJ])
def WK(hB:∀ b,B b->w0.tf b)(r:jb w0 B σ a w L)(e:TypeId)(n sz:Nat)(l:List E)(cs:Array Value)(nl:Bool)(hr:jZ (bad B L) (jg L) w l cs.toList)(h1:∀ u ∈ cs,u.oneCell'=true)(hlen:cs.size=n*sz)
 (sP:n<=9223372036854775807) (jB:nl=true->l.all E.mc=true) (sR:l.all (E.nr 2)=true):
 jb w0 B σ a (w.alloc (.cells cs e)) L/\iC (bad B L) (jg L) (w.alloc (.cells cs e)) (.sl nl n sz λi j=>l.getD (i*sz+j) (.v (.bool false))) (.slice (some ⟨w.heap.size,0,none⟩) n n):=by
 have hb:Below w.heap.size w (w.alloc (.cells cs e)):=(Below.refl _ _).alloc (bl _) _;have hl:qw L w L (w.alloc (.cells cs e)):=⟨hb.size,λ_ _ h=>h,λx hx _=>hb.block x hx⟩
 refine⟨r.later hb,?_⟩;have jP:∀ i j,i<n->j<sz->i*sz+j<cs.size:=by
  intro i j hi hj;rw[hlen];have:=bN sz (show i+1<=n from hi);rw[bS,cj]at this;omega
 have hll:=hr.len;simp only[dz]at hll;refine .sl nl n sz _ _ n (λi j=>cs.getD (i*sz+j) undef) (bl _) sP (λh=>by cases h) (λi j hi hj=>?_) (λi j hi hj=>?_) (λi j hi hj=>?_) (λi j hi hj=>?_)
 .have hq:=jP i j hi hj;have e1:cs.getD (i*sz+j) undef=cs[i*sz+j]:=by simp[hq]
  rw[e1];refine⟨h1 _ (fT hq),λsQ=>?_⟩;have sS:i*sz+j<l.length:= aA ;exact(hr.ko (i*sz+j) _ _ (bw sS) (by simp[hq])).mc (bG.1 (jB sQ) _ (cz sS))
 .have hq:=jP i j hi hj;have sS:i*sz+j<l.length:= aA ;rw[bk,bw sS];exact bG.1 sR _ (cz sS)
 .have hq:=jP i j hi hj;refine⟨w.heap.size,0,rfl,λpM=>?_,aF,?_⟩
  .rcases pM with hx|⟨id,hx⟩
   .have:=(hB _ hx).1;have:=r.he.size;omega
   .have:=(r.hw id _ hx).2;omega
  .rw [bX,World.cell?_alloc_new];simp[hq]
 .have hq:=jP i j hi hj;have sS:i*sz+j<l.length:= aA ;have e1:cs.getD (i*sz+j) undef=cs[i*sz+j]:=by simp[hq]
  rw[e1,bk,bw sS];exact hl.ko (hr.ko (i*sz+j) _ _ (bw sS) (by simp[hq]))
def aeB{l:List E}{vs:List Value}{bs br:Nat->Prop}{w:World}(h:jZ bs br w l vs)(hl:l.all E.mc=true):∀ v ∈ vs,pO v=false:=by
 intro v hv;obtain⟨i,hi⟩:=dh.1 hv;obtain⟨yx,_⟩:=ca.1 hi;have AV:i<l.length:=by have:=h.len;omega
 exact(h.ko i _ v (bw AV) hi).mc (bG.1 hl _ (cz AV))
def P0(w:World)(hT:lE P T){t e:TypeId}{by_:Nat}(h:GI T t=some (e,by_)):∃ te zv uz,P.underlying t=some (.slice e)/\lJ T e=some te/\te.i.size=1/\te.i.bytes=by_/\1<=by_/\te.i.zero=some zv/\zv.cells = #[uz]/\uz.oneCell'=true/\pO uz=false:=by
 unfold GI at h;split at h
 .rename_i tt pZ;split at h
  .rename_i e' hd;split at h
   .rename_i te mR;split at h
    .rename_i z hz;split at h
     .rename_i hc;simp only[bt,bH]at h;obtain⟨rfl,rfl⟩:=h;simp only[bF]at hc;obtain⟨zv,su,rj⟩:=Dx hz;obtain⟨q1,q2⟩:=rj (λ_=>False) (λ_=>False) w;have hl:=q1.len;simp only[dz,cE,dR]at hl;obtain⟨uz,SV⟩:∃ uz,zv.cells = #[uz]:=by
       refine⟨zv.cells[0],?_⟩;apply Array.ext
       .simpa using hl
       .intro i h1 h2;obtain rfl:i=0:=by simp at h2;omega
        rfl
      rw[SV]at q1 q2;exact⟨te,zv,uz,by rw[hT.qd pZ,hd],mR,kz.1 hc.1.1,rfl,cA hc.1.2,su,SV,q2 uz aF,(q1.ko 0 z uz rfl rfl).mc hc.2⟩
     .cases h
    .cases h
   .cases h
  .cases h
 .cases h
def mL.head{v:Value}{T:TypeId}{n sz:Nat}{f:Nat->Nat->Value}{nl:Bool}(h:mL w v T n sz f nl):v.cells.toList=[v]/\v.oneCell'=true/\pO v=false:=by
 rcases h with⟨g,_⟩|⟨b1,o1,c1,cur,g,_⟩<;>rw[g]<;>exact⟨rfl,rfl,rfl⟩
def acq(hT:lE P T){t:TypeId}{n q:Nat}{ps:Array (Nat×Operand)}(iq:o.op = .buildSlice t n ps)(sr:Ag σ ps.toList=some q)(r:jb w0 B σ a w L)(h:AM T σ o.dst t n q=some u):jL P K w0 B σ o a w u:=by
 obtain⟨x,mP,hx⟩:∃ x,ps.toList=[(0,x)]/\σ.op x = .own q:=by
  unfold Ag at sr;split at sr
  .rename_i x mP;refine⟨x,mP,?_⟩;generalize σ.op x=p at sr ⊢;cases p<;>simp only[PV.C3,reduceCtorEq,bt]at sr;rw[sr]
  .cases sr
 have S2:=r.op x;rw[hx]at S2;obtain⟨k1,k2⟩:=S2;unfold AM at h;split at h
 .rename_i id Hz;split at h
  .rename_i nl T0 m sz el e by_ kg sM zH;split at h
   .rename_i hc;cases h;simp only[bF,de]at hc;obtain rfl:=kz.1 hc.1;have jQ:id≠q:=λe=>by have:=hc.2;rw[e,ck]at this;cases this
    obtain⟨te,zv,uz,hu,mR,sU,_,_,su,rJ,_,_⟩:=P0 w hT zH;obtain⟨f,g1,g2,g3⟩:=r.hb q _ sM;obtain⟨d1,d2,d3⟩:=g1.head;have jX:(execOp a.eval o).run P w = .ok (.value (.slice (some ⟨w.heap.size,0,none⟩) 1 1)) (w.alloc (.cells #[L.val q] e)):=by
     have oh:(Array.range (1*te.i.size)).map (zv.cells[· % zv.cells.size]!) = #[uz]:=by
      rw[sU,rJ];refine Array.ext aF λi h1 h2=>?_
      have:i=0:=by simp at h2;omega
      subst this;simp
     have HI:Instr.fill (λi=>some (i*te.i.size,te.i.size)) #[uz] (ps.map λ(x:Nat×Operand)=>(x.1,a.eval x.2)).toList=some #[L.val q]:=by
      rw[NW,mP];simp only[ee,List.map_nil];rw[Rm _ _ _ _ _ 0 (by rw[k2,d1,sU];rfl) (by rw[k2,d1];simp)];rw[k2,d1];rfl
     have tv:¬(1*te.i.size>16777216):= aA ;have h0:¬(1*te.i.size=0):= aA ;simp only[execOp,iq,Instr.buildSlice,Sem.run_bind,run_underlying hu,Result.andThen_ok,sA hT w mR,tv,bB,h0,Sem.run_pure,JQ hT w mR su,oh,HI,newRow,run_newObj_alloc]
    have iJ:w.heap.size<(w.alloc (.cells #[L.val q] e)).heap.size:= aF ;have hb:Below w.heap.size w (w.alloc (.cells #[L.val q] e)):=(Below.refl _ _).alloc (bl _) _;refine⟨_,_,_,.inl jX,r.qb jQ _ (λx=>x=w.heap.size\/L.own q x) (.slice (some ⟨w.heap.size,0,none⟩) 1 1) (λ_=>L.val q) _ (λy hy=>?_) hb.size (λy hy _=>hb.block y hy) rfl rfl rfl (λhl=>?_) (λMq=>?_) (λhn=>?_),Lk.MX jQ,Lk.E4.symm⟩
    .rcases hy with rfl|hy
     .exact ⟨.inr (.inr (bl _)),iJ⟩
     .exact ⟨.inr (.inl hy),e9 (r.hw q y hy).2 iJ⟩
    .refine .inr ⟨w.heap.size,0,1,#[L.val q],λ_=>f,Lk.E4,heap_alloc_new w _,bl _,aC,aF,λk hk _=>?_,λv hv=>?_,λk hk=>?_,λy=>?_,λk k' y hk Eo _ _=> aA,λk hk=>?_⟩
     .obtain rfl:k=0:= aA ;rw[Lk.xG];rfl
     .have:v=L.val q:=by simpa using hv
      rw[this];exact d3
     .rw [Lk.xG];exact⟨g1.block λy hy=>hb.block y (r.hw q y ((g2 y).2 hy)).2,λi j hi hj=>⟨hl.ko (g3 i j hi hj).1,(g3 i j hi hj).2⟩⟩
     .rw [Lk.TK];constructor
      .rintro (h|h)
       .exact .inl h
       .exact .inr ⟨0,aC,by rw[Lk.xG];exact(g2 y).1 h⟩
      .rintro (h|⟨k,_,h⟩)
       .exact .inl h
       .rw [Lk.xG]at h;exact .inr ((g2 y).2 h)
     .rw [Lk.xG];intro h;have:=(r.hw q _ ((g2 _).2 h)).2;omega
    .have:=(r.hv id).1 Mq;rw[kg]at this;cases this
    .have:=r.hl hn q _ sM;exact this
   .cases h
  .cases h
 .cases h
def ab1(hT:lE P T)(hB:∀ b,B b->w0.tf b){t:TypeId}{n:Nat}{ps:Array (Nat×Operand)}(iq:o.op = .buildSlice t n ps)(r:jb w0 B σ a w L)(h:jC P K T O σ o=some u):jL P K w0 B σ o a w u:=by
 simp only[jC,iq]at h;split at h
 .rename_i q hq;exact acq hT iq hq r h
 split at h
 .rename_i tt pZ;split at h
  .rename_i e hd;split at h
   .rename_i te mR;split at h
    .rename_i z hz;split at h
     .rename_i hc;simp only[bF]at hc;have c1:=kz.1 hc.1.1;have c2:=cA hc.2;obtain⟨zv,su,rj⟩:=Dx hz;obtain⟨q1,q2⟩:=rj (bad B L) (jg L) w;have hu:P.underlying t=some (.slice e):=by rw[hT.qd pZ,hd]
      have Bc:zv.cells.size=te.i.size:=by have:=q1.len;simp only[dz]at this;omega
      obtain⟨l,hl,h⟩:=fW.1 h;obtain⟨cs,p1,p2,p3⟩:=Lw r hl (ahy q1 n) (λv hv=>by
       simp only[fu,fw]at hv;obtain⟨q,hq,rfl⟩:=hv;have ss:0<zv.cells.size:=by
        rcases ev zv.cells.size with h0|h0
        .rw [h0]at hq;simp at hq
        .exact h0
       rw[eX zv.cells _ (bI q ss)];exact q2 _ aF)
      have hlen:l.length=n*te.i.size:=by
       have:∀ (ps:List (Nat×Operand)) (l m:List E),rV σ (λi=>some (i*te.i.size,te.i.size)) l ps=some m->m.length=l.length:=by
        intro ps
        induction ps with
        |nil=>intro l m h;simp only[rV]at h;cases h;rfl
        |cons p ps ih=>
         intro l m h;obtain⟨i,x⟩:=p;simp only[rV]at h;split at h
         .split at h
          .split at h
           .rename_i hc;simp only[bF]at hc;have:=cA hc.2;rw[ih _ _ h];simp[xO];omega
           .cases h
          .cases h
         .cases h
       rw[this _ _ _ hl,Wb,c1]
      have oh:cs.size=n*te.i.size:=by have:=p2.len;simp only[dz]at this;omega
      have HI:Instr.fill (λi=>some (i*te.i.size,te.i.size)) ((Array.range (n*te.i.size)).map (zv.cells[· % zv.cells.size]!)) (ps.map λ(x:Nat×Operand)=>(x.1,a.eval x.2)).toList=some cs:=by
       rw[NW,<-Bc];rw[<-Bc]at p1;exact p1
      have jX:(execOp a.eval o).run P w = .ok (.value (.slice (some ⟨w.heap.size,0,none⟩) n n)) (w.alloc (.cells cs e)):=by
       have tv:¬(n*te.i.size>16777216):= aA ;by_cases h0:n*te.i.size=0
       .have e0:∀ g:Nat->Value,(Array.range 0).map g = #[]:=λg=>by simp[Array.range]
        have Sq:=HI;rw[h0,e0]at Sq;have z24:¬(0>2^24):= aC ;simp only[execOp,iq,Instr.buildSlice,Sem.run_bind,run_underlying hu,Result.andThen_ok,sA hT w mR,tv,bB,h0,z24,bC,Sem.run_pure,e0,Sq,newRow,run_newObj_alloc]
       .simp only[execOp,iq,Instr.buildSlice,Sem.run_bind,run_underlying hu,Result.andThen_ok,sA hT w mR,tv,bB,h0,Sem.run_pure,JQ hT w mR su,HI,newRow,run_newObj_alloc]
      have lI:n<=9223372036854775807:=by
       have:=fS n (cA hc.1.2);omega
      by_cases sR:l.all (E.nr 2)=true
      .simp only[sR,eQ,bV,bB]at h;split at h
       .
        obtain⟨id,Hz,kg,jB,rfl⟩:=Fo h;have hb:Below w.heap.size w (w.alloc (.cells cs e)):=(Below.refl _ _).alloc (bl _) _;have ht:ph L w id (λx=>x=w.heap.size) (w.alloc (.cells cs e)):=⟨λx hx=>⟨.inr aA,aL⟩,hb.size,λx hx _=>hb.block x hx,rfl,rfl,rfl⟩
        have iJ:=ht.later (.slice (some ⟨w.heap.size,0,none⟩) n n) (λ_=>undef);have Mp:∀ i j,i<n->j<te.i.size->i*te.i.size+j<n*te.i.size:=by
         intro i j hi hj;have:=bN te.i.size (show i+1<=n from hi);rw[bS,cj]at this;omega
        refine⟨_,_,_,.inl jX,r.new id _ (λx=>x=w.heap.size) (.slice (some ⟨w.heap.size,0,none⟩) n n) (λ_=>undef) _ kg (λx hx=>by subst hx;simp) hb
         ⟨λi j=>cs.getD (i*te.i.size+j) undef,.inr ⟨w.heap.size,0,n,cs,Lk.mz,heap_alloc_new w _,bl _,by unfold maxLen;omega,aA,λi j hi hj=>?_,λhn u hu=>?_⟩,λx=>?_,λi j hi hj=>?_⟩ jB,Lk.xR,Lk.mz.symm⟩
        .have hq:i*te.i.size+j<cs.size:=by rw[oh];exact Mp i j hi hj
         have e1:cs.getD (i*te.i.size+j) undef=cs[i*te.i.size+j]:=by simp[hq]
         rw[bX];show cs[i*te.i.size+j]? = some (cs.getD (i*te.i.size+j) undef)/\(cs.getD (i*te.i.size+j) undef).oneCell'=true;rw[e1];exact⟨by simp[hq],p3 _ aF⟩
        .exact aeB p2 hn u (by simpa using hu)
        .rw [Lk.oP,Lk.mz];simp only[Value.ownBlock,bt];exact eq_comm
        .have hq:i*te.i.size+j<cs.size:=by rw[oh];exact Mp i j hi hj
         have sT:i*te.i.size+j<l.length:=by rw[hlen];exact Mp i j hi hj
         have e1:cs.getD (i*te.i.size+j) undef=cs[i*te.i.size+j]:=by simp[hq]
         simp only[bk,bw sT,fz,e1];exact⟨iJ.ko (p2.ko _ _ _ (bw sT) (by simp[hq])),bG.1 sR _ (cz sT)⟩
       split at h
       .rename_i Cp;cases h;obtain⟨r',hp⟩:=WK hB r e n te.i.size l cs true p2 p3 oh lI (λ_=>Cp) sR;exact⟨_,_,L,.inl jX,r',hp⟩
       .cases h;obtain⟨r',hp⟩:=WK hB r e n te.i.size l cs false p2 p3 oh lI (λh=>by cases h) sR;exact⟨_,_,L,.inl jX,r',hp⟩
      .simp [sR]at h
     .cases h
    .cases h
   .cases h
  .cases h
 .cases h
end
def D2{P:Program}{t e:TypeId}(h:P.underlying t=some (.slice e)):P.elem t=e:=by simp[Program.elem,h]
def aaH{P:Program}{t e:TypeId}{n:Nat}(h:P.underlying t=some (.array n e)):P.elem t=e/\P.arrayLen t=n:=by simp[Program.elem,Program.arrayLen,h]
section
variable {P:Program} {K:World->Prop} {T:List TI} {O:pS} {w0:lZ} {B:Nat->Prop} {σ:PS} {o:Oper} {a:Act} {w:World} {L:Lk} {u:kq}
def ab7(hT:lE P T){t:TypeId}{x i:Operand}(iq:o.op = .indexAddr t x i)(r:jb w0 B σ a w L)(h:jC P K T O σ o=some u)(ho:∀ q,q ∈ u.ju->q):jL P K w0 B σ o a w u:=by
 simp only[jC,iq,G7]at h;have hx:=r.op x;have hi:=r.op i;split at h
 .rename_i k z hpi;rw[hpi]at hi;have hi:=iC.kD hi;split at h
  .rename_i tt pZ;split at h
   .
    rename_i e hd;have hu:P.underlying t=some (.slice e):=by rw[hT.qd pZ,hd]
    have he:=D2 hu;split at h
    .rename_i te mR;have jX:∀ (ad:Addr) (n c:Nat),a.eval x = .slice (some ad) n c->0<=z->z<n->(execOp a.eval o).run P w = .ok (.value (.pointer (some (ad.add (z.toNat*te.i.size))))) w:=by
      intro ad n c e1 h0 h1;have hr:=run_indexAt_slice (P:=P) w t ad n c k z (by rw[he];exact hu);rw[bj ⟨h0,h1⟩,he,sA hT w mR]at hr;simp only[execOp,iq,e1,hi,Sem.run_bind,hr,Result.andThen_ok,Sem.run_pure]
     split at h
     .rename_i nl n sz el mP;rw[mP]at hx;split at h
      .rename_i hs;simp only[bF]at hs;have tA:=cA hs.2;have hs:=kz.1 hs.1;cases h;have hz:0<=z/\z<n:=ho _ aF;have yJ:z.toNat<n:= aA ;generalize hq:a.eval x=q at hx;cases hx with
       |sl _ _ _ _ A c f hc hm h0 hl sR cell kk=>
        obtain⟨b,of,e1,hb,iJ,_⟩:=cell z.toNat 0 yJ tA;subst e1;refine jL.pure r (jX ⟨b,of,none⟩ n c hq hz.1 hz.2) rfl ?_;rw[Addr.add_lit,hs];refine .jD sz _ b _ (λj=>f z.toNat j) (λhm=>hb (.inr hm)) iJ (λj hj=>(hl _ _ yJ hj).1) (λj hj=>?_) (λj hj=>kk _ _ yJ hj);obtain⟨b',of',e2,_,_,Ej⟩:=cell z.toNat j yJ hj;cases e2;rwa[<-cN]at Ej
      .cases h
     .rename_i fl nl n sz el mP;rw[mP]at hx;split at h
      .rename_i hs;simp only[bF]at hs;have tA:=cA hs.2;have hs:=kz.1 hs.1;cases h;have hz:0<=z/\z<n:=ho _ aF;have yJ:z.toNat<n:= aA ;generalize hq:a.eval x=q at hx;cases hx with
       |kY _ _ _ _ _ A c f hc hm h0 hl sR cell kk=>
        obtain⟨b,of,e1,hb,iJ,_⟩:=cell z.toNat 0 yJ tA;subst e1;refine jL.pure r (jX ⟨b,of,none⟩ n c hq hz.1 hz.2) rfl ?_;rw[Addr.add_lit,hs];refine .jD sz _ b _ (λj=>f z.toNat j) hb iJ (λj hj=>(hl _ _ yJ hj).1) (λj hj=>?_) (λj hj=>kk _ _ yJ hj);obtain⟨b',of',e2,_,_,Ej⟩:=cell z.toNat j yJ hj;cases e2;rwa[<-cN]at Ej
      .cases h
     .rename_i id mP;rw[mP]at hx;split at h
      .rename_i nl T1 n sz el iN;split at h
       .rename_i hs;have hs:=kz.1 hs;cases h;have hz:0<=z/\z<n:=ho _ aF;obtain⟨f,h1,h2,h3⟩:=r.hb id _ iN;obtain⟨k1,k2⟩:=hx;rcases h1 with⟨h1,sQ⟩|⟨b,ofs,c,cur,h1,hg,oW,nM,oh,ku,jB⟩
        .omega
        .rw [h1]at k2;refine jL.pure r (jX ⟨b,ofs,none⟩ n c k2 hz.1 hz.2) rfl ⟨k1,b,ofs,n,c,h1,?_⟩;rw[Addr.add_lit,hs,bW]
       .cases h
      .rename_i nl T1 T0 n sz len el pend iN;split at h
       .rename_i hs;have hs:=kz.1 hs;cases h;have hz:0<=z/\z<n:=ho _ aF;obtain⟨b,ofs,c,cur,f,h1,h2,h3,h4,h5,h6,h7,h8,h9,mY,mZ⟩:=(r.hb id _ iN).tR aA;obtain⟨k1,k2⟩:=hx;rw[h1]at k2;refine jL.pure r (jX ⟨b,ofs,none⟩ n c k2 hz.1 hz.2) rfl ⟨k1,b,ofs,n,c,h1,?_⟩;rw[Addr.add_lit,hs,bW]
       .cases h
      .rename_i nl T1 T0 n sz len el c r' iN;split at h
       .rename_i hs;have hs:=kz.1 hs;cases h;have hz:0<=z/\z<n:=ho _ aF;obtain⟨⟨b,ofs,c,cur,f,h1,h2,h3,h4,h5,h6,h7,h8,h9,mY,mZ⟩,_⟩:=r.hb id _ iN;obtain⟨k1,k2⟩:=hx;rw[h1]at k2;refine jL.pure r (jX ⟨b,ofs,none⟩ n c k2 hz.1 hz.2) rfl ⟨k1,b,ofs,n,c,h1,?_⟩;rw[Addr.add_lit,hs,bW]
       .cases h
      .cases h
     .rename_i id k mP;rw[mP]at hx;split at h
      .rename_i nl T1 T0 n sz len el pend iN;split at h
       .rename_i hs;have hs:=kz.1 hs;cases h;have hk:k<n:=ho _ aF;have hz:0<=z/\z<len k:=ho _ aF;obtain⟨b0,ofs0,c0,cur0,f,g1,g2,g3,g4,g5,g6,g7,g8,_⟩:=(r.hb id _ iN).tR aA;obtain⟨k1,k2⟩:=hx;rcases(g8 k hk).1 with⟨h1,sQ⟩|⟨b,ofs,c,cur,h1,hg,oW,nM,oh,ku,jB⟩
        .omega
        .rw [h1]at k2;refine jL.pure r (jX ⟨b,ofs,none⟩ (len k) c k2 hz.1 hz.2) rfl ⟨k1,b,ofs,len k,c,h1,?_⟩;rw[Addr.add_lit,hs,bW]
       .cases h
      .cases h
     .cases h
    .cases h
   .
    rename_i n e hd;have hu:P.underlying t=some (.array n e):=by rw[hT.qd pZ,hd]
    obtain⟨he,hn⟩:=aaH hu;split at h
    .rename_i te mR;have jX:∀ (ad:Addr),a.eval x = .pointer (some ad)->0<=z->z<n->(execOp a.eval o).run P w = .ok (.value (.pointer (some (ad.add (z.toNat*te.i.size))))) w:=by
      intro ad e1 h0 h1;have hr:=run_indexAt_array (P:=P) w t ad k z (by rw[he,hn];exact hu);rw[hn,bj ⟨h0,h1⟩,he,sA hT w mR]at hr;simp only[execOp,iq,e1,hi,Sem.run_bind,hr,Result.andThen_ok,Sem.run_pure]
     split at h
     .rename_i id off mP;rw[mP]at hx;cases h;have hz:0<=z/\z<n:=ho _ aF;obtain⟨k1,b,k2,k3⟩:=hx;refine jL.pure r (jX _ k3 hz.1 hz.2) rfl ⟨k1,b,k2,?_⟩;rw[Addr.add_lit]
     .rename_i m el mP;rw[mP]at hx;split at h
      .rename_i hs;have hs:=kz.1 hs;cases h;have hz:0<=z/\z<n:=ho _ aF;have jP:∀ j,j<te.i.size->z.toNat*te.i.size+j<m:=by
        intro j hj;rw[<-hs];have:=bN te.i.size (aA:z.toNat+1<=n);rw[bS,cj]at this;omega
       generalize hq:a.eval x=q at hx;cases hx with
       |jD _ _ b of f hb iJ hl cell kk=>
        refine jL.pure r (jX _ hq hz.1 hz.2) rfl ?_;rw[Addr.add_lit];refine .jD te.i.size _ b _ (λj=>f (z.toNat*te.i.size+j)) hb iJ (λj hj=>hl _ (jP j hj)) (λj hj=>?_) (λj hj=>kk _ (jP j hj));have:=cell _ (jP j hj);rwa[<-cN]at this
      .cases h
     .cases h
    .cases h
   .cases h
  .cases h
 .cases h
def acn(hT:lE P T){t:TypeId}{x:Operand}{lo hi:Option Operand}(iq:o.op = .slice t x lo hi none){id:Nat}(mP:σ.op x = .own id)(r:jb w0 B σ a w L)
 (h:AL T σ t id (lo.map σ.op) (hi.map σ.op)=some u) (ho:∀ q,q ∈ u.ju->q):jL P K w0 B σ o a w u:=by
 unfold AL at h;have hx:=r.op x;rw[mP]at hx;split at h
 .rename_i tt pZ;split at h
  .rename_i e hd;have hu:P.underlying t=some (.slice e):=by rw[hT.qd pZ,hd]
   have he:=D2 hu;have tE:P.underlying t=some (.slice (P.elem t)):=by rw[he];exact hu
   split at h
   .rename_i te mR;split at h
    .rename_i nl T1 n sz el iN;split at h
     .rename_i kl ll nO qK;split at h
      .rename_i hs;have hs:=kz.1 hs;cases h;have hb:0<=ll/\ll<=n:=ho _ aF;obtain⟨k1,k2⟩:=hx;cases hi with
       |some _=>simp at qK
       |none=>
        cases lo with
        |none=>simp at nO
        |some lo=>
         simp only[bZ,bt]at nO;have hv:=r.op lo;rw[nO]at hv;have hv:=iC.kD hv;obtain⟨f,h1,h2,h3⟩:=r.hb id _ iN;have ajX:ll.toNat<=n:= aA ;have run:∀ (A:Option Addr) (c:Nat),a.eval x = .slice A n c->(execOp a.eval o).run P w = .ok (.value (sliced A ll.toNat n c te.i.size)) w:=by
          intro A c e1;have hr:=run_slice_l (P:=P) w t A n c tE kl ll hb.1 hb.2;rw[he,sA hT w mR]at hr;simp only[execOp,iq,Sem.run_bind,e1,bZ,gO,hv,run_sliceAt_slice (P:=P) w t _ _ _ _ tE,hr,Result.andThen_ok,Sem.run_pure]
         have Mu:∀ b,L.val id ≠ .pointer (some b):=λb e1=>by
          rcases h1 with⟨e2,_⟩|⟨_,_,_,_,e2,_⟩<;>rw[e1]at e2<;>cases e2
         have fin:∀ (v:Value),v.ownBlock=(L.val id).ownBlock->mL w v T1 (n-ll.toNat) sz (λi j=>f (ll.toNat+i) j) nl->(execOp a.eval o).run P w = .ok (.value v) w ->
          jL P K w0 B σ o a w { r:=.own id,f:=.ou id (.row nl T1 (n-ll.toNat) sz λi j=>el (ll.toNat+i) j),rb:=[id],ju:=[0<=ll/\ll<=n] }:=by
          intro v zT sq jX;have ht:ph L w id (λy=>v.ownBlock=some y) w:=⟨λy hy=>by
           have:=(h2 y).2 (by rw[<-zT];exact hy);exact⟨.inl this,(r.hw id y this).2⟩,bl _,λ_ _ _=>rfl,rfl,rfl,rfl⟩
          have hl:=ht.later v (L.iB id);refine⟨v,w,_,.inl jX,r.ou id _ _ v w Mu ht ⟨λi j=>f (ll.toNat+i) j,by rw[Lk.mz];exact sq,λy=>by rw[Lk.oP,Lk.mz],λi j hi hj=>⟨hl.ko (h3 _ j aA hj).1,(h3 _ j aA hj).2⟩⟩ (λhn=>by have:=r.hl hn id _ iN;exact this),Lk.xR,Lk.mz.symm⟩
         rcases h1 with⟨h1,sQ⟩|⟨b,ofs,c,cur,h1,hg,oW,nM,oh,ku,jB⟩
         .have nO:ll.toNat=0:= aA ;refine fin (.slice none 0 0) (by rw[h1]) (.inl ⟨rfl,aA⟩) ?_;have:=run none 0 (by rw[k2,h1,sQ]);rw[this];unfold sliced;simp[nO,sQ]
         .have jX:=run _ c (by rw[k2,h1]);refine fin _ ?_ ?_ jX
          .rw [h1];unfold sliced;split
           .rfl
           .rw [bZ,Addr.add_lit];rfl
          .unfold sliced;by_cases SB:c=ll.toNat
           .rw [bj SB];exact .inr ⟨b,ofs,c-ll.toNat,cur,rfl,hg,aA,aA,by rw[(aA:c-ll.toNat=0),cH];omega,λi j hi=> aA,jB⟩
           .rw [bh SB,bZ,Addr.add_lit,hs];have rX:ll.toNat*sz+(c-ll.toNat)*sz=c*sz:=by rw[<-bS];congr 1;omega
            refine .inr ⟨b,ofs+ll.toNat*sz,c-ll.toNat,cur,rfl,hg,aA,aA,aA,λi j hi hj=>?_,jB⟩;have:=ku (ll.toNat+i) j aA hj;rw[bS]at this;rwa[(aA:ofs+ll.toNat*sz+(i*sz+j)=ofs+(ll.toNat*sz+i*sz+j))]
      .cases h
     .cases h
    .cases h
   .cases h
  .cases h
 .cases h
def acm(hT:lE P T){t:TypeId}{x:Operand}{lo hi:Option Operand}(iq:o.op = .slice t x lo hi none)(r:jb w0 B σ a w L)(h:jC P K T O σ o=some u)(ho:∀ q,q ∈ u.ju->q):jL P K w0 B σ o a w u:=by
 simp only[jC,iq]at h;have hx:=r.op x;split at h
 .rename_i id mP;exact acn hT iq mP r h ho
 unfold Hb at h;split at h
 .rename_i nl n sz el mP;rw[mP]at hx;split at h
  .rename_i tt pZ;split at h
   .rename_i e hd;have hu:P.underlying t=some (.slice e):=by rw[hT.qd pZ,hd]
    have he:=D2 hu;have tE:P.underlying t=some (.slice (P.elem t)):=by rw[he];exact hu
    split at h
    .rename_i te mR;split at h
     .rename_i hs;have hs:=kz.1 hs;generalize hq:a.eval x=q at hx;cases hx with
      |sl _ _ _ _ A c f hc hm h0 hl sR cell kk=>
       have fin:∀ l h':Nat,l<=h'->h'<=n->iC (bad B L) (jg L) w (.sl nl (h'-l) sz λi j=>el (l+i) j) (sliced A l h' c te.i.size):=by
        intro l h' hlh hhn;unfold sliced;refine .sl nl (h'-l) sz _ _ (c-l) (λi j=>f (l+i) j) aA aA (λhA=>?_) (λi j hi hj=>hl _ _ aA hj) (λi j hi hj=>sR _ _ aA hj) (λi j hi hj=>?_) (λi j hi hj=>kk _ _ aA hj)
        .split at hA
         .have:=h0 hA;omega
         .have:=h0 (by simpa using hA);omega
        .obtain ⟨b,of,e1,hb,iJ,ku⟩:=cell (l+i) j aA hj;subst e1;rw[bh aA];refine⟨b,of+l*te.i.size,by rw[bZ,Addr.add_lit],hb,iJ,?_⟩;rw[hs];rw[bS]at ku;rw[<-ku];congr 2;omega
       have run:∀ (l h':Nat) (lo' kI:Option Value),lo.map a.eval=lo'->hi.map a.eval=kI->(Instr.slice t (.slice A n c) lo' kI none).run P w = .ok (sliced A l h' c te.i.size) w ->
        (execOp a.eval o).run P w = .ok (.value (sliced A l h' c te.i.size)) w:=by
        intro l h' lo' kI e1 e2 hr;simp only[execOp,iq,Sem.run_bind,hq,e1,e2,gO,run_sliceAt_slice (P:=P) w t _ _ _ _ tE,hr,Result.andThen_ok,Sem.run_pure]
       split at h
       .rename_i kh hh nO qK;cases h;have hb:0<=hh/\hh<=n:=ho _ aF;cases lo with
        |some _=>simp at nO
        |none=>
         cases hi with
         |none=>simp at qK
         |some hi=>
          simp only[bZ,bt]at qK;have hv:=r.op hi;rw[qK]at hv;have hv:=iC.kD hv;have hr:=run_slice_h (P:=P) w t A n c tE kh hh hb.1 aA;rw[he,sA hT w mR]at hr;have hf:=fin 0 hh.toNat (cg _) aA ;simp only[dS,bX]at hf;exact jL.pure r (run 0 hh.toNat none (some (.int kh hh)) rfl (by rw[bZ,hv]) hr) rfl hf
       .rename_i kl ll nO qK;cases h;have hb:0<=ll/\ll<=n:=ho _ aF;cases hi with
        |some _=>simp at qK
        |none=>
         cases lo with
         |none=>simp at nO
         |some lo=>
          simp only[bZ,bt]at nO;have hv:=r.op lo;rw[nO]at hv;have hv:=iC.kD hv;have hr:=run_slice_l (P:=P) w t A n c tE kl ll hb.1 hb.2;rw[he,sA hT w mR]at hr;exact jL.pure r (run ll.toNat n (some (.int kl ll)) none (by rw[bZ,hv]) rfl hr) rfl (fin ll.toNat n aA (bl _))
       .rename_i kl ll kh hh nO qK;cases h;have hb:0<=ll/\ll<=hh/\hh<=n:=ho _ aF;cases hi with
        |none=>simp at qK
        |some hi=>
         cases lo with
         |none=>simp at nO
         |some lo=>
          simp only[bZ,bt]at nO qK;have hv:=r.op lo;rw[nO]at hv;have hv:=iC.kD hv;have rZ:=r.op hi;rw[qK]at rZ;have rZ:=iC.kD rZ;have hr:=run_slice_lh (P:=P) w t A n c tE kl kh ll hh hb.1 hb.2.1 aA;rw[he,sA hT w mR]at hr;exact jL.pure r (run ll.toNat hh.toNat (some (.int kl ll)) (some (.int kh hh)) (by rw[bZ,hv]) (by rw[bZ,rZ]) hr) rfl (fin ll.toNat hh.toNat aA aA)
       .cases h
     .cases h
    .cases h
   .cases h
  .cases h
 .rename_i fl nl n sz el mP;rw[mP]at hx;split at h
  .rename_i tt pZ;split at h
   .rename_i e hd;have hu:P.underlying t=some (.slice e):=by rw[hT.qd pZ,hd]
    have he:=D2 hu;have tE:P.underlying t=some (.slice (P.elem t)):=by rw[he];exact hu
    split at h
    .rename_i te mR;split at h
     .rename_i hs;have hs:=kz.1 hs;generalize hq:a.eval x=q at hx;cases hx with
      |kY _ _ _ _ _ A c f hc hm h0 hl sR cell kk=>
       have fin:∀ l h':Nat,l<=h'->h'<=n->iC (bad B L) (jg L) w (.kY fl nl (h'-l) sz λi j=>el (l+i) j) (sliced A l h' c te.i.size):=by
        intro l h' hlh hhn;unfold sliced;refine .kY fl nl (h'-l) sz _ _ (c-l) (λi j=>f (l+i) j) aA aA (λhA=>?_) (λi j hi hj=>hl _ _ aA hj) (λhf i j hi hj=>sR hf _ _ aA hj) (λi j hi hj=>?_) (λi j hi hj=>kk _ _ aA hj)
        .split at hA
         .have:=h0 hA;omega
         .have:=h0 (by simpa using hA);omega
        .obtain ⟨b,of,e1,hb,iJ,ku⟩:=cell (l+i) j aA hj;subst e1;rw[bh aA];refine⟨b,of+l*te.i.size,by rw[bZ,Addr.add_lit],hb,iJ,?_⟩;rw[hs];rw[bS]at ku;rw[<-ku];congr 2;omega
       have run:∀ (l h':Nat) (lo' kI:Option Value),lo.map a.eval=lo'->hi.map a.eval=kI->(Instr.slice t (.slice A n c) lo' kI none).run P w = .ok (sliced A l h' c te.i.size) w ->
        (execOp a.eval o).run P w = .ok (.value (sliced A l h' c te.i.size)) w:=by
        intro l h' lo' kI e1 e2 hr;simp only[execOp,iq,Sem.run_bind,hq,e1,e2,gO,run_sliceAt_slice (P:=P) w t _ _ _ _ tE,hr,Result.andThen_ok,Sem.run_pure]
       split at h
       .rename_i kh hh nO qK;cases h;have hb:0<=hh/\hh<=n:=ho _ aF;cases lo with
        |some _=>simp at nO
        |none=>
         cases hi with
         |none=>simp at qK
         |some hi=>
          simp only[bZ,bt]at qK;have hv:=r.op hi;rw[qK]at hv;have hv:=iC.kD hv;have hr:=run_slice_h (P:=P) w t A n c tE kh hh hb.1 aA;rw[he,sA hT w mR]at hr;have hf:=fin 0 hh.toNat (cg _) aA ;simp only[dS,bX]at hf;exact jL.pure r (run 0 hh.toNat none (some (.int kh hh)) rfl (by rw[bZ,hv]) hr) rfl hf
       .rename_i kl ll nO qK;cases h;have hb:0<=ll/\ll<=n:=ho _ aF;cases hi with
        |some _=>simp at qK
        |none=>
         cases lo with
         |none=>simp at nO
         |some lo=>
          simp only[bZ,bt]at nO;have hv:=r.op lo;rw[nO]at hv;have hv:=iC.kD hv;have hr:=run_slice_l (P:=P) w t A n c tE kl ll hb.1 hb.2;rw[he,sA hT w mR]at hr;exact jL.pure r (run ll.toNat n (some (.int kl ll)) none (by rw[bZ,hv]) rfl hr) rfl (fin ll.toNat n aA (bl _))
       .rename_i kl ll kh hh nO qK;cases h;have hb:0<=ll/\ll<=hh/\hh<=n:=ho _ aF;cases hi with
        |none=>simp at qK
        |some hi=>
         cases lo with
         |none=>simp at nO
         |some lo=>
          simp only[bZ,bt]at nO qK;have hv:=r.op lo;rw[nO]at hv;have hv:=iC.kD hv;have rZ:=r.op hi;rw[qK]at rZ;have rZ:=iC.kD rZ;have hr:=run_slice_lh (P:=P) w t A n c tE kl kh ll hh hb.1 hb.2.1 aA;rw[he,sA hT w mR]at hr;exact jL.pure r (run ll.toNat hh.toNat (some (.int kl ll)) (some (.int kh hh)) (by rw[bZ,hv]) (by rw[bZ,rZ]) hr) rfl (fin ll.toNat hh.toNat aA aA)
       .cases h
     .cases h
    .cases h
   .cases h
  .cases h
 .cases h
end
section
variable {P:Program} {K:World->Prop} {T:List TI} {O:pS} {w0:lZ} {B:Nat->Prop} {σ:PS} {o:Oper} {a:Act} {w:World} {L:Lk} {u:kq}
def Ze{x:Value}{l:List E}(h:(E.v x).cells? = some l):∀ e,e ∈ l->e.nr 2=true:=by
 intro e he;cases x<;>simp only[E.cells?]at h
 case agg cs=>
  split at h
  .cases h;obtain⟨q,_,rfl⟩:=cI.1 he;rfl
  .cases h
 all_goals
  split at h
  .cases h;simp only[c9]at he;subst he;rfl
  .cases h
def ajQ{ti:TI}{l:List E}(h:xX ti=some l):∀ e,e ∈ l->e.nr 2=true:=by
 unfold xX at h;split at h
 .exact Ze h
 .cases h
def Fb{l:List E}{vs:List Value}{bs br:Nat->Prop}(h:jZ bs br w l vs)(hl:l.all E.mc=true):∀ v ∈ vs,pO v=false:=by
 intro v hv;obtain⟨q,hq⟩:=dh.1 hv;have sT:q<l.length:=by rw[<-h.len];exact(ca.1 hq).1
 exact(h.ko q _ v (bw sT) hq).mc (bG.1 hl _ (cz sT))
def UF{z:Array Value}{n q:Nat}(hz:0<z.size)(hq:q<n):(madeCells z n)[q]? = some (z[q%z.size]'(bI _ hz)):=by
 unfold madeCells;simp[hq];rw[eX z _ (bI _ hz)]
def UG{z:Array Value}{n:Nat}(hz:0<z.size){v:Value}(hv:v ∈ madeCells z n):v ∈ z:=by
 unfold madeCells at hv;simp only[fu,fw]at hv;obtain⟨q,hq,rfl⟩:=hv;rw[eX z _ (bI _ hz)];exact fT _
def ace(hT:lE P T){t:TypeId}{l c:Operand}(iq:o.op = .makeSlice t l c)(r:jb w0 B σ a w L)(h:jC P K T O σ o=some u)(ho:∀ q,q ∈ u.ju->q):jL P K w0 B σ o a w u:=by
 simp only[jC,iq,Ha]at h;have hl:=r.op l;have hc:=r.op c;split at h
 .rename_i bx ju jf;obtain⟨id,Hz,kg,jB,rfl⟩:=Fo h;clear h;simp only[Q6]at jf;split at jf
  rotate_left
  .cases jf
  rename_i kl zl kc zc A0 hpc;rw[A0]at hl;rw[hpc]at hc;have hl:=iC.kD hl;have hc:=iC.kD hc;split at jf
  .rename_i tt pZ;split at jf
   .rename_i e hd;have hu:P.underlying t=some (.slice e):=by rw[hT.qd pZ,hd]
    split at jf
    .rename_i te mR;split at jf
     .rename_i z hz;split at jf
      .rename_i yv;simp only[bF]at yv;have c1:=kz.1 yv.1;have c2:=cA yv.2;obtain⟨zv,su,rj⟩:=Dx hz;obtain⟨q1,q2⟩:=rj (bad B L) (jg L) w;have Bc:zv.cells.size=te.i.size:=by have:=q1.len;simp only[dz]at this;omega
       have ss:0<zv.cells.size:= aA ;have key:∀ (h1:0<=zl/\zl<=zc) (h2:(te.i.bytes:Int)*zc<=281474976710656/\zc<=9223372036854775807),
        (execOp a.eval o).run P w = .ok (.value (.slice (some ⟨w.heap.size,0,none⟩) zl.toNat zc.toNat)) (w.alloc (.cells (madeCells zv.cells (zc.toNat*te.i.size)) e)):=by
        intro h1 h2;have hr:=run_make (P:=P) w t e te.i zv hu (hT.yL mR) su kl kc zl zc h1.1 h1.2 h2.1 h2.2;simp only[execOp,iq,hl,hc,Sem.run_bind,hr,Result.andThen_ok,Sem.run_pure]
       have hb:∀ o':Obj,Below w.heap.size w (w.alloc o'):=λo'=>(Below.refl _ _).alloc (bl _) _
       have lens:zl<=zc->zc<=9223372036854775807->zl.toNat<=zc.toNat/\zc.toNat<=maxLen:=by intro h1 h2;unfold maxLen;omega
       split at jf
       .
        rename_i e0 hd0;split at jf
        .rename_i t0 MA;obtain⟨y,ys,Bb,hy,AX⟩:=q1.mW;have hy:=iC.kD hy;have AX:=AX.qY;subst hy AX;have S8:zv.cells = #[.slice none 0 0]:=by apply dc;rw[Bb]
         have mG:te.i.size=1:=by rw[<-Bc,S8];rfl
         cases jf;have h1:0<=zl/\zl<=zc:=ho _ aF;have h2:(te.i.bytes:Int)*zc<=281474976710656/\zc<=9223372036854775807:=ho _ aF;have hlen:=lens h1.2 h2.2;have Cp:∀ v,v ∈ madeCells zv.cells (zc.toNat*te.i.size)->v = .slice none 0 0:=λv hv=>by
          have:=UG ss hv;rw[S8]at this;simpa using this
         refine⟨_,_,_,.inl (key h1 h2),r.new id _ (λx=>x=w.heap.size) (.slice (some ⟨w.heap.size,0,none⟩) zl.toNat zc.toNat) (λ_=>.slice none 0 0) _ kg (λx hx=>by subst hx;simp) (hb _)
          (.inr ⟨w.heap.size,0,zc.toNat,_,λ_ _ _=>undef,Lk.mz,heap_alloc_new w _,hlen.1,hlen.2,by rw[size_madeCells,mG,cv,bX];exact bl _,λk hk _=>?_,λv hv=>?_,λk hk=>?_,λx=>?_,λk k' x hk Eo h1=>?_,λk hk=>?_⟩) jB,Lk.xR,Lk.mz.symm⟩
         .rw [Lk.nm];have hq:k<zc.toNat*te.i.size:=by rw[mG];omega
          have hg:=UF ss hq;rw[bX,hg];exact congrArg some (Cp _ (dI hg))
         .rw [Cp v hv];rfl
         .rw [Lk.nm];exact⟨.inl ⟨rfl,rfl⟩,λi j hi=>absurd hi (bu i)⟩
         .rw [Lk.oP];simp only[Lk.nm,Value.ownBlock];simp
         .rw [Lk.nm]at h1;simp[Value.ownBlock]at h1
         .rw [Lk.nm];simp[Value.ownBlock]
        .cases jf
       .cases jf;have h1:0<=zl/\zl<=zc:=ho _ aF;have h2:(te.i.bytes:Int)*zc<=281474976710656/\zc<=9223372036854775807:=ho _ aF;have hlen:=lens h1.2 h2.2;refine⟨_,_,_,.inl (key h1 h2),r.new id _ (λx=>x=w.heap.size) (.slice (some ⟨w.heap.size,0,none⟩) zl.toNat zc.toNat) (λ_=>undef) _ kg (λx hx=>by subst hx;simp) (hb _)
         ⟨λ_ j=>zv.cells.getD j undef,.inr ⟨w.heap.size,0,zc.toNat,_,Lk.mz,heap_alloc_new w _,hlen.1,hlen.2,by rw[size_madeCells,bX];exact bl _,λi j hi hj=>?_,λhn v hv=>?_⟩,λx=>?_,λi j hi hj=>?_⟩ jB,Lk.xR,Lk.mz.symm⟩
        .have hq:i*te.i.size+j<zc.toNat*te.i.size:=by
          have:=bN te.i.size (aA:i+1<=zc.toNat);rw[bS,cj]at this;omega
         have Ms:(i*te.i.size+j)%zv.cells.size=j:=by rw[Bc,bM,fo,ct hj]
         have pX:j<zv.cells.size:= aA ;rw[bX,UF ss hq];simp only[Ms];have e1:zv.cells.getD j undef=zv.cells[j]:=by simp[pX]
         rw[e1];exact⟨rfl,q2 _ aF⟩
        .exact Fb q1 hn v (by have:=UG ss hv;simpa using this)
        .rw [Lk.oP,Lk.mz];simp only[Value.ownBlock,bt];exact eq_comm
        .have pX:j<zv.cells.size:= aA ;have Mj:j<z.length:= aA ;have e1:zv.cells.getD j undef=zv.cells[j]:=by simp[pX]
         simp only[e1];rw[bk,bw Mj];obtain⟨p1,_⟩:=rj (bad B (L.set id (λx=>x=w.heap.size) (.slice (some ⟨w.heap.size,0,none⟩) zl.toNat zc.toNat) (λ_=>undef))) (jg (L.set id (λx=>x=w.heap.size) (.slice (some ⟨w.heap.size,0,none⟩) zl.toNat zc.toNat) (λ_=>undef))) (w.alloc (.cells (madeCells zv.cells (zc.toNat*te.i.size)) e));exact⟨p1.ko j _ _ (bw Mj) (by simp[pX]),ajQ hz _ (cz Mj)⟩
      .cases jf
     .cases jf
    .cases jf
   .cases jf
  .cases jf
 .cases h
def ab9(hT:lE P T){x:Operand}{t:TypeId}{c:Call}(hc:c={ callee:=.builtin .len,args:=#[x],argTypes:=#[t] })(iq:o.op = .call c){e:TypeId}(hd:wj T t=some (.slice e))(r:jb w0 B σ a w L){rr:Value×List Nat}(h:si (σ.op x) σ=some rr)(hu:u={ r:=.e (.v rr.1),rb:=rr.2 }):jL P K w0 B σ o a w u:=by
 obtain⟨ti,h1,h2⟩:=zu hd;have SU:P.underlying t=some (.slice e):=by rw[hT.qd h1,h2]
 have he:=D2 SU;have hx:=r.op x;have key:∀ (A:Option Addr) (n cp:Nat),a.eval x = .slice A n cp->rr.1 = .int .i64 (n:Int)->jL P K w0 B σ o a w u:=by
  intro A n cp e1 e2;have hr:=run_len_slice (P:=P) w t o.type A n cp (by rw[he];exact SU);subst hu;refine jL.pure r (v:=.int .i64 (n:Int)) ?_ rfl (by rw[e2];exact .v _);subst hc;have em:(#[x]:Array Operand).map a.eval = #[a.eval x]:= aF ;simp only[execOp,iq,resolve,em,e1,Sem.run_bind,Sem.run_pure,Result.andThen_ok,invoke,builtin,hr];rfl
 cases hp:σ.op x with
 |e y=>
  rw[hp]at h hx;cases y with
  |sl nl n sz el=>
   simp only[si,bt]at h;generalize hq:a.eval x=q at hx;cases hx with
   |sl _ _ _ _ A c f hc hm h0 hl sR cell kk=>exact key A n c hq (by rw[<-h])
  |kY fl nl n sz el=>
   simp only[si,bt]at h;generalize hq:a.eval x=q at hx;cases hx with
   |kY _ _ _ _ _ A c f hc hm h0 hl sR cell kk=>exact key A n c hq (by rw[<-h])
  |v y=>
   have hx:=iC.kD hx;cases y with
   |slice A n cp=>
    simp only[si,bt]at h;exact key A n cp hx (by rw[<-h])
   |_=>simp[si]at h
  |_=>simp[si]at h
 |own id=>
  rw[hp]at h hx;obtain⟨_,k2⟩:=hx;simp only[si]at h;split at h
  .rename_i nl T1 n sz el iN;simp only[bt]at h;obtain⟨f,q1,_,_⟩:=r.hb id _ iN;rcases q1 with⟨q1,q0⟩|⟨b,ofs,c,cur,q1,_⟩
   .rw [q1]at k2;exact key none 0 0 k2 (by rw[<-h,q0])
   .rw [q1]at k2;exact key _ n c k2 (by rw[<-h])
  .rename_i nl T1 T0 n sz len el pend iN;simp only[bt]at h;rcases r.hb id _ iN with⟨q1,q0,_⟩|⟨b,ofs,c,cur,f,q1,_⟩
   .rw [q1]at k2;exact key none 0 0 k2 (by rw[<-h,q0])
   rw[q1]at k2;exact key _ n c k2 (by rw[<-h])
  .cases h
 |iB id k=>
  rw[hp]at h hx;obtain⟨_,k2⟩:=hx;simp only[si]at h;split at h
  .rename_i nl T1 T0 n sz len el pend iN;split at h
   .rename_i hk;have hk:k<n:=by simpa[eV]using hk
    simp only[bt]at h;obtain⟨b0,ofs0,c0,cur0,f,g1,g2,g3,g4,g5,g6,g7,g8,_⟩:=(r.hb id _ iN).tR aA;rcases(g8 k hk).1 with⟨q1,q0⟩|⟨b,ofs,c,cur,q1,_⟩
    .rw [q1]at k2;exact key none 0 0 k2 (by rw[<-h,q0])
    .rw [q1]at k2;exact key _ (len k) c k2 (by rw[<-h])
   .cases h
  .cases h
 |_=>rw[hp]at h;simp[si]at h
end
section
variable {P:Program} {K:World->Prop} {T:List TI} {O:pS} {w0:lZ} {B:Nat->Prop} {σ:PS} {o:Oper} {a:Act} {w:World} {L:Lk} {u:kq}
def mL.mX{v:Value}{T:TypeId}{n sz:Nat}{f:Nat->Nat->Value}{nl nl':Bool}(h:mL w v T n sz f nl)(k:nl'=true->nl=true):mL w v T n sz f nl':=by
 rcases h with h|⟨b,ofs,c,cur,h1,h2,h3,h4,h5,h6,h7⟩
 .exact .inl h
 .exact .inr ⟨b,ofs,c,cur,h1,h2,h3,h4,h5,h6,λq=>h7 (k q)⟩
def XY{p:PV}{nl:Bool}{n sz:Nat}{el:Nat->Nat->E}(h:p.KB=some (nl,n,sz,el)){v:Value}(hv:kH (bad B L) (jg L) L w p v):∃ (A:Option Addr) (c:Nat) (f:Nat->Nat->Value),v = .slice A n c/\(A=none->c=0)/\n<=c /\
 (∀ i j,i<n->j<sz->(f i j).oneCell'=true/\(nl=true->pO (f i j)=false))/\(∀ i j,i<n->j<sz->∃ b o,A=some ⟨b,o,none⟩/\w.cell? ⟨b,o+(i*sz+j),none⟩=some (f i j)) /\
 ∀ i j,i<n->j<sz->iC (bad B L) (jg L) w (el i j) (f i j)/\(el i j).nr 2=true:=by
 unfold PV.KB at h;split at h
 .cases h;cases hv with
  |sl _ _ _ _ A c f hc hm h0 hl hr cell k=>exact⟨A,c,f,rfl,h0,hc,hl,λi j hi hj=>by obtain⟨b,o,e,_,_,oz⟩:=cell i j hi hj;exact⟨b,o,e,oz⟩,λi j hi hj=>⟨k i j hi hj,hr i j hi hj⟩⟩
 .cases h;cases hv with
  |kY _ _ _ _ _ A c f hc hm h0 hl hr cell k=>exact⟨A,c,f,rfl,h0,hc,hl,λi j hi hj=>by obtain⟨b,o,e,_,_,oz⟩:=cell i j hi hj;exact⟨b,o,e,oz⟩,λi j hi hj=>⟨k i j hi hj,hr rfl i j hi hj⟩⟩
 .cases h
def RP(hT:lE P T){s x:Operand}{t:TypeId}{c:Call}(hc:c={ callee:=.builtin .append,args:=#[s,x],argTypes:=#[t,t] })(iq:o.op = .call c)(r:jb w0 B σ a w L)
 (h:zx T σ o.dst t (σ.op s) (σ.op x)=some u) (ho:∀ q,q ∈ u.ju->q):jL P K w0 B σ o a w u:=by
 have hs:=r.op s;have hx:=r.op x;simp only[zx]at h;split at h
 .rename_i nl2 m sz2 el2 mP;obtain⟨A,cx,g,hqx,hg0,hgc,H8,gcell,gk⟩:=XY mP hx;split at h
  .rename_i tt pZ;split at h
   .rename_i e hd;have hu:P.underlying t=some (.slice e):=by rw[hT.qd pZ,hd]
    split at h
    .rename_i te mR;split at h
     .rename_i z hz;split at h
      .rename_i yv;simp only[bF]at yv;have c1:=kz.1 yv.1.1.1;have c2:=cA yv.1.1.2;have c3:=cA yv.1.2;have c4:=kz.1 yv.2;obtain⟨zv,su,rj⟩:=Dx hz;obtain⟨q1,q2⟩:=rj (bad B L) (jg L) w;have Bc:zv.cells.size=sz2:=by have:=q1.len;simp only[dz]at this;omega
       have key:∀ (v:Value) (n:Nat) (f:Nat->Nat->Value) (nl:Bool),a.eval s=v->mL w v e n sz2 f nl->(nl=true->nl2=true/\z.all E.mc=true)->(n+m)*te.i.bytes<=140737488355328 ->
        ∃ v' w',(execOp a.eval o).run P w = .ok (.value v') w'/\Km w v e n sz2 m f g nl v' w':=by
        intro v n f nl hv lp jB jz;obtain⟨v',w',hr,lF⟩:=Wt P w t o.type e te.i zv sz2 hu (hT.yL mR) su c1 Bc aA c3 (λu hu=>q2 u (by simpa using hu)) v n f nl lp A m cx g
         gcell (λhA=>by have:=hg0 hA;omega)
         (λk j hk hj=>⟨(H8 k j hk hj).1,λhn=>(H8 k j hk hj).2 (jB hn).1⟩) (λhn u hu=>Fb q1 (jB hn).2 u (by simpa using hu)) jz
        refine⟨v',w',?_,lF⟩;subst hc;have em:(#[s,x]:Array Operand).map a.eval = #[a.eval s,a.eval x]:= aF ;simp only[execOp,iq,resolve,em,hv,hqx,Sem.run_bind,Sem.run_pure,Result.andThen_ok,invoke,builtin,hr]
       split at h
       .
        rename_i id sr;rw[sr]at hs;split at h
        .rename_i nl T1 n sz el iN;split at h
         .rename_i oz;simp only[bF]at oz;have d1:=kz.1 oz.1.1;have d2:=kz.1 oz.1.2;subst d1 d2;cases h;have jz:(n+m)*te.i.bytes<=140737488355328:=ho _ aF;obtain⟨f,p1,p2,p3⟩:=r.hb id _ iN;obtain⟨k1,k2⟩:=hs;have jB:(nl&&(nl2&&z.all E.mc))=true->nl2=true/\z.all E.mc=true:=λhn=>by simp only[bF]at hn;exact hn.2
          obtain⟨v',w',jX,lF⟩:=key (L.val id) n f _ k2 (p1.mX λhn=>by simp only[bF]at hn;exact hn.1) jB jz;have ht:ph L w id (λy=>v'.ownBlock=some y) w':=by
           refine⟨λy hy=>?_,lF.size,λy hy kg=>lF.nu y hy λe1=>kg ((p2 y).2 e1),lF.os,lF.tape,lF.output⟩;rcases lF.DL y hy with e1|⟨e1,e2⟩
           .have:=(p2 y).2 e1;exact⟨.inl this,bO (r.hw id y this).2 lF.size⟩
           .exact ⟨.inr e1,e2⟩
          have hl:=ht.later v' (L.iB id);have Mu:∀ b,L.val id ≠ .pointer (some b):=λb e1=>by
           rcases p1 with⟨e2,_⟩|⟨_,ofs,_,_,e2,_⟩<;>rw[e1]at e2<;>cases e2
          refine⟨v',w',_,.inl jX,r.ou id _ _ v' w' Mu ht ⟨λi j=>if i<n then f i j else g (i-n) j,by rw[Lk.mz];exact lF.own,λy=>by rw[Lk.oP,Lk.mz],λi j hi hj=>(λ(q:iC _ _ _ _ _/\_)=>⟨hl.ko q.1,q.2⟩) (?_:_/\_)⟩ (λhn=>?_),Lk.xR,Lk.mz.symm⟩
          .by_cases jP:i<n
           .simp only[jP,bC];exact p3 i j jP hj
           .simp only[jP,bB];exact gk _ _ aA hj
          .have:=oz.2;rw[hn]at this;simpa[Bx.nl]using this
         .cases h
        .cases h
       .
        rename_i id k sr;rw[sr]at hs;split at h
        .rename_i nl T1 T0 n sz len el iN;split at h
         .rename_i oz;simp only[bF]at oz;have d1:=kz.1 oz.1.1;have d2:=kz.1 oz.1.2;subst d1 d2;cases h;have hk:k<n:=ho _ aF;have jz:(len k+m)*te.i.bytes<=140737488355328:=ho _ aF;obtain⟨b,ofs,cp,cur,f,p1,p2,p3,p4,p5,p6,p7,p8,p9,p10,p11⟩:=(r.hb id _ iN).tR aA;obtain⟨k1,k2⟩:=hs;have jB:nl=true->nl2=true/\z.all E.mc=true:=λhn=>by have:=oz.2;rw[hn]at this;simpa using this
          obtain⟨v',w',jX,lF⟩:=key (L.iB id k) (len k) (f k) nl k2 (p8 k hk).1 jB jz;have rW:∀ y,v'.ownBlock=some y->(L.iB id k).ownBlock=some y\/(w.heap.size<=y/\y<w'.heap.size):=lF.DL;have Sh:b<w.heap.size:=(r.hw id b ((p9 b).2 (.inl rfl))).2;have zL:∀ q y,q<n->(L.iB id q).ownBlock=some y->y<w.heap.size:=λq y hq hy=>(r.hw id y ((p9 y).2 (.inr ⟨q,hq,hy⟩))).2
          have ht:ph L w id (λy=>y=b\/∃ q,q<n/\(if q=k then v' else L.iB id q).ownBlock=some y) w':=by
           refine⟨λy hy=>?_,lF.size,λy hy kg=>lF.nu y hy λe1=>kg ((p9 y).2 (.inr ⟨k,hk,e1⟩)),lF.os,lF.tape,lF.output⟩;rcases hy with rfl|⟨q,hq,hy⟩
           .exact ⟨.inl ((p9 y).2 (.inl rfl)),bO Sh lF.size⟩
           .by_cases rI:q=k
            .subst rI;rw[bj rfl]at hy;rcases rW y hy with e1|⟨e1,e2⟩
             .have:=(p9 y).2 (.inr ⟨q,hq,e1⟩);exact⟨.inl this,bO (r.hw id y this).2 lF.size⟩
             .exact ⟨.inr e1,e2⟩
            .rw [bh rI]at hy;have:=(p9 y).2 (.inr ⟨q,hq,hy⟩);exact⟨.inl this,bO (r.hw id y this).2 lF.size⟩
          have hl:=ht.later (L.val id) (λq=>if q=k then v' else L.iB id q);have rY:∀ y,y<w.heap.size->(L.iB id k).ownBlock≠some y->w'.heap[y]? = w.heap[y]?:=lF.nu;refine⟨v',w',_,.inl jX,r.rG id _ _ (λq=>if q=k then v' else L.iB id q) w' ht
           (.inr ⟨b,ofs,cp,cur,λq i j=>if q=k then(if i<len q then f q i j else g (i-len q) j)else f q i j,by rw[Lk.mz];exact p1,by rw[rY b Sh (p11 k hk)];exact p2,p3,p4,p5,λq hq rI=>?_,p7,λq hq=>?_,λy=>?_,λq q' y hq sS hy qC=>?_,λq hq hy=>?_⟩) (λhn=>?_),Lk.xR,?_⟩
          .have jQ:q≠k:=λe1=>rI (by rw[e1])
           rw[Lk.nm,bh jQ];exact p6 q hq aF 
          .rw [Lk.nm];by_cases rI:q=k
           .subst rI;simp only[bC];refine⟨lF.own,λi j hi hj=>(λ(q:iC _ _ _ _ _/\_)=>⟨hl.ko q.1,q.2⟩) (?_:_/\_)⟩;by_cases jP:i<len q
            .simp only[jP,bC];exact(p8 q hq).2 i j jP hj
            .simp only[jP,bB];exact gk _ _ aA hj
           .simp only[rI,bB];obtain⟨s1,s2⟩:=p8 q hq;exact⟨s1.block λy hy=>rY y (zL q y hq hy) λe1=>rI (p10 q k y hq hk hy e1),λi j hi hj=>⟨hl.ko (s2 i j hi hj).1,(s2 i j hi hj).2⟩⟩
          .rw [Lk.oP];simp only[Lk.nm]
          .simp only[Lk.nm]at hy qC;by_cases h1:q=k
           .subst h1;by_cases h2:q'=q
            .exact h2.symm
            .rw [bj rfl]at hy;rw[bh h2]at qC;rcases rW y hy with e1|⟨e1,_⟩
             .exact p10 q q' y hq sS e1 qC
             .have:=zL q' y sS qC;omega
           .rw [bh h1]at hy;by_cases h2:q'=k
            .subst h2;rw[bj rfl]at qC;rcases rW y qC with e1|⟨e1,_⟩
             .exact p10 q q' y hq sS hy e1
             .have:=zL q y hq hy;omega
            .rw [bh h2]at qC;exact p10 q q' y hq sS hy qC
          .simp only[Lk.nm]at hy;by_cases h1:q=k
           .subst h1;rw[bj rfl]at hy;rcases rW b hy with e1|⟨e1,_⟩
            .exact p11 q hq e1
            .omega
           .rw [bh h1]at hy;exact p11 q hq hy
          .have:=r.hl hn id _ iN;exact this
          .rw [Lk.nm,bj rfl]
         .cases h
        .cases h
       .
        rename_i sr;rw[sr]at hs;have hs:=iC.kD hs;obtain⟨id,Hz,kg,xz,rfl⟩:=Fo h;have jz:m*te.i.bytes<=140737488355328:=ho _ aF;obtain⟨v',w',jX,lF⟩:=key _ 0 g (nl2&&z.all E.mc) hs (.inl ⟨rfl,rfl⟩) (λhn=>by simpa using hn) (by simpa using jz);have hb:Below w.heap.size w w':=⟨lF.os,lF.tape,lF.output,lF.size,λy hy=>lF.nu y hy (by simp[Value.ownBlock])⟩
        have hO:∀ y,v'.ownBlock=some y->w.heap.size<=y/\y<w'.heap.size:=λy hy=>by
         rcases lF.DL y hy with e1|e1
         .simp [Value.ownBlock]at e1
         .exact e1
        have ht:ph L w id (λy=>v'.ownBlock=some y) w':=⟨λy hy=>⟨.inr (hO y hy).1,(hO y hy).2⟩,hb.size,λy hy _=>hb.block y hy,hb.os,hb.tape,hb.output⟩
        have hl:=ht.later v' (λ_=>undef);have lp:=lF.own;rw[bX]at lp;refine⟨v',w',_,.inl jX,r.new id _ (λy=>v'.ownBlock=some y) v' (λ_=>undef) w' kg hO hb ⟨λi j=>if i<0 then g i j else g (i-0) j,by rw[Lk.mz];exact lp,λy=>by rw[Lk.oP,Lk.mz],λi j hi hj=>(λ(q:iC _ _ _ _ _/\_)=>⟨hl.ko q.1,q.2⟩) (?_:_/\_)⟩ xz,Lk.xR,Lk.mz.symm⟩;simp only[bu,bB,dS];exact gk i j hi hj
       .cases h
      .cases h
     .cases h
    .cases h
   .cases h
  .cases h
 .cases h
def TJ{id q T0 T1 n m sz:Nat}{nl nl2:Bool}{len len2:Nat->Nat}{el el2:Nat->Nat->Nat->E}(jQ:id≠q)(r:jb w0 B σ a w L){v':Value}{w':World}(hm:0<m)
 (hq:mA (bad B L) (jg L) L w q (.il nl2 T1 T0 m sz len2 el2 none))
 (f1:Nat->Nat->Nat->Value)
 (h8:∀ k,k<n->mL w (L.iB id k) T0 (len k) sz (f1 k) nl/\∀ i j,i<len k->j<sz->iC (bad B L) (jg L) w (el k i j) (f1 k i j)/\(el k i j).nr 2=true)
 (h9:∀ k x,k<n->(L.iB id k).ownBlock=some x->L.own id x) (mY:∀ k k' x,k<n->k'<n->(L.iB id k).ownBlock=some x->(L.iB id k').ownBlock=some x->k=k')
 {v:Value} (zT:∀ y,v.ownBlock=some y->L.own id y) (mZ:∀ k y,k<n->(L.iB id k).ownBlock=some y->v.ownBlock≠some y)
 (lp:mL w' v' T1 (n+m) 1 (λk _=>if k<n then L.iB id k else L.iB q (k-n)) true)
 (rW:∀ y,v'.ownBlock=some y->v.ownBlock=some y\/(w.heap.size<=y/\y<w'.heap.size))
 (mG:w.heap.size<=w'.heap.size) (rY:∀ y,y<w.heap.size->v.ownBlock≠some y->w'.heap[y]? = w.heap[y]?) (AY:w'.os=w.os) (MC:w'.tape=w.tape) (qm:w'.output=w.output)
 (kg:L.lL id->∀ b,L.val id ≠ .pointer (some b)) (jB:σ.nl=true->(nl&&nl2)=true):
 jb w0 B (σ.np (.om id q (.il (nl&&nl2) T1 T0 (n+m) sz (λk=>if k<n then len k else len2 (k-n)) (λk=>if k<n then el k else el2 (k-n)) none))) a w'
  (L.qb id q (λy=>v'.ownBlock=some y\/∃ k,k<n+m/\(if k<n then L.iB id k else L.iB q (k-n)).ownBlock=some y) v' (λk=>if k<n then L.iB id k else L.iB q (k-n))):=by
 obtain⟨b,ofs,c,cur,f,g1,g2,g3,g4,g5,g6,g7,g8,g9,g10,g11⟩:=hq.tR hm;have Mw:∀ k x,k<m->(L.iB q k).ownBlock=some x->L.own q x:=λk x hk hx=>(g9 x).2 (.inr ⟨k,hk,hx⟩)
 have zL:∀ k y,k<n+m->(if k<n then L.iB id k else L.iB q (k-n)).ownBlock=some y->(L.own id y\/L.own q y)/\v.ownBlock≠some y:=by
  intro k y hk hy;by_cases e:k<n
  .rw [bj e]at hy;exact⟨.inl (h9 k y e hy),mZ k y e hy⟩
  .rw [bh e]at hy;have:=Mw _ _ aA hy;exact⟨.inr this,λh=>jQ (r.hi id q y (zT y h) this)⟩
 have iJ:∀ y,L.own id y\/L.own q y->y<w.heap.size:=λy h=>by
  rcases h with h|h
  .exact (r.hw id y h).2
  .exact (r.hw q y h).2
 refine r.qb jQ _ _ v' _ w' (λy hy=>?_) mG (λy hy ada=>rY y hy λh=>ada (zT y h)) AY MC qm (λhl=>?_) kg jB
 .rcases hy with hy|⟨k,hk,hy⟩
  .rcases rW y hy with h|⟨h1,h2⟩
   .exact ⟨.inl (zT y h),bO (r.hw id y (zT y h)).2 mG⟩
   .exact ⟨.inr (.inr h1),h2⟩
  .have h:=(zL k y hk hy).1;exact⟨h.elim .inl λh=>.inr (.inl h),bO (iJ y h) mG⟩
 .rcases lp with⟨_,h0⟩|⟨b',ofs',c',cur',k1,k2,k3,k4,k5,k6,k7⟩
  .omega
  .have Sy:∀ k y,k<n+m->(if k<n then L.iB id k else L.iB q (k-n)).ownBlock=some y->w'.heap[y]? = w.heap[y]?:=λk y hk hy=>rY y (iJ y (zL k y hk hy).1) (zL k y hk hy).2
   refine .inr ⟨b',ofs',c',cur',λk=>if k<n then f1 k else f (k-n),by rw[Lk.E4];exact k1,k2,k3,k4,aA,λk hk _=>?_,λu hu=>?_,λk hk=>?_,λy=>?_,λk k' y hk Eo hy qC=>?_,λk hk hy=>?_⟩
   .rw [Lk.xG];have:=(k6 k 0 hk aC).1;rwa[cv,bW]at this
   .exact k7 rfl u hu
   .rw [Lk.xG];by_cases e:k<n
    .simp only[e,bC];obtain⟨s1,s2⟩:=h8 k e;refine⟨(s1.mX λh=>?_).block λy hy=>Sy k y hk (by rw[bj e];exact hy),λi j hi hj=>⟨hl.ko (s2 i j hi hj).1,(s2 i j hi hj).2⟩⟩;simp only[bF]at h;exact h.1
    .simp only[e,bB];obtain⟨s1,s2⟩:=g8 (k-n) aA;refine⟨(s1.mX λh=>?_).block λy hy=>Sy k y hk (by rw[bh e];exact hy),λi j hi hj=>⟨hl.ko (s2 i j hi hj).1,(s2 i j hi hj).2⟩⟩;simp only[bF]at h;exact h.2
   .rw [Lk.TK,k1];simp only[Lk.xG,Value.ownBlock,bt];constructor
    .rintro (h|h)
     .exact .inl h.symm
     .exact .inr h
    .rintro (h|h)
     .exact .inl h.symm
     .exact .inr h
   .simp only[Lk.xG]at hy qC;by_cases e:k<n
    .rw [bj e]at hy;by_cases e':k'<n
     .rw [bj e']at qC;exact mY k k' y e e' hy qC
     .rw [bh e']at qC;exact absurd (r.hi id q y (h9 k y e hy) (Mw _ _ aA qC)) jQ
    .rw [bh e]at hy;by_cases e':k'<n
     .rw [bj e']at qC;exact absurd (r.hi id q y (h9 k' y e' qC) (Mw _ _ aA hy)) jQ
     .rw [bh e']at qC;have:=g10 (k-n) (k'-n) y aA aA hy qC;omega
   .rw [Lk.xG]at hy;have h:=zL k b' hk hy;rcases rW b' (by rw[k1];rfl)with h2|⟨h2,_⟩
    .exact h.2 h2
    .have:=iJ b' h.1;omega
def agO{p:PV}{q:Nat}(h:p.C3=some q):p = .own q:=by
 cases p<;>simp only[PV.C3,reduceCtorEq,bt]at h;rw[h]
def ab8(hT:lE P T){s x:Operand}{t:TypeId}{q:Nat}{c:Call}(hc:c={ callee:=.builtin .append,args:=#[s,x],argTypes:=#[t,t] })(iq:o.op = .call c)(r:jb w0 B σ a w L)
  (hq:(σ.op x).C3=some q) (h:AK T σ o.dst t (σ.op s) q=some u) (ho:∀ q,q ∈ u.ju->q):jL P K w0 B σ o a w u:=by
 have hx:=r.op x;rw[agO hq]at hx;obtain⟨kx,kv⟩:=hx;have hs:=r.op s;unfold AK at h;split at h
 .rename_i nl2 T2 T0 m sz len2 el2 e by_ sM zH;obtain⟨te,zv,uz,hu,mR,sU,Hw,kV,su,rJ,yI,EP⟩:=P0 w hT zH;have Tc:∀ v,v ∈ zv.cells->v.oneCell'=true/\pO v=false:=λv hv=>by
   rw[rJ]at hv;have:v=uz:=by simpa using hv
   rw[this];exact⟨yI,EP⟩
  have key:∀ (v:Value) (n:Nat) (f:Nat->Nat->Value),0<m->a.eval s=v->mL w v e n 1 f true->(n+m)*by_<=140737488355328 ->
    ∃ v' w',(execOp a.eval o).run P w = .ok (.value v') w'/\Km w v e n 1 m f (λk _=>L.iB q k) true v' w':=by
   intro v n f hm hv lp jz;obtain⟨bq,ofq,cq,curq,fq,g1,g2,g3,g4,g5,g6,g7,g8,g9,g10,g11⟩:=(r.hb q _ sM).tR hm;have CF:a.eval x = .slice (some ⟨bq,ofq,none⟩) m cq:=by rw[kv,g1]
   obtain⟨v',w',hr,lF⟩:=Wt P w t o.type e te.i zv 1 hu (hT.yL mR) su sU (by rw[rJ];rfl) aC aA (λv hv=>(Tc v hv).1) v n f true lp (some ⟨bq,ofq,none⟩) m cq (λk _=>L.iB q k)
    (λk j hk hj=>⟨bq,ofq,rfl,by
     obtain rfl:j=0:= aA ;have:=g6 k hk aF;simp only[World.cell?,g2];simpa using this⟩) (λhA=>by cases hA)
    (λk j hk hj=>⟨(g8 k hk).1.head.2.1,λ_=>(g8 k hk).1.head.2.2⟩) (λ_ v hv=>(Tc v hv).2) (by rw[Hw];exact jz)
   refine⟨v',w',?_,lF⟩;subst hc;have em:(#[s,x]:Array Operand).map a.eval = #[a.eval s,a.eval x]:= aF ;simp only[execOp,iq,resolve,em,hv,CF,Sem.run_bind,Sem.run_pure,Result.andThen_ok,invoke,builtin,hr]
  split at h
  .
   rename_i id sr;rw[sr]at hs;obtain⟨ks,ks2⟩:=hs;split at h
   .rename_i nl T1 T0' n sz' len el iN;split at h
    .rename_i oz;cases h;simp only[bF,de]at oz;obtain rfl:=kz.1 oz.1.1.1.1;obtain rfl:=kz.1 oz.1.1.1.2;obtain rfl:=kz.1 oz.1.1.2;obtain rfl:=kz.1 oz.1.2;have jQ:id≠q:=λe=>by have:=oz.2;rw[e,ck]at this;cases this
     have hm:0<m:=ho _ aF;have jz:(n+m)*by_<=140737488355328:=ho _ aF;obtain⟨f,pown,p8,p9,p10,zT,p11,pno⟩:∃ f:Nat->Nat->Nat->Value,mL w (L.val id) _ n 1 (λk _=>L.iB id k) true /\
       (∀ k,k<n->mL w (L.iB id k) T0' (len k) sz' (f k) nl/\∀ i j,i<len k->j<sz'->iC (bad B L) (jg L) w (el k i j) (f k i j)/\(el k i j).nr 2=true) /\
       (∀ k x,k<n->(L.iB id k).ownBlock=some x->L.own id x)/\(∀ k k' x,k<n->k'<n->(L.iB id k).ownBlock=some x->(L.iB id k').ownBlock=some x->k=k') /\
       (∀ y,(L.val id).ownBlock=some y->L.own id y)/\(∀ k y,k<n->(L.iB id k).ownBlock=some y->(L.val id).ownBlock≠some y)/\∀ b,L.val id ≠ .pointer (some b):=by
      rcases r.hb id _ iN with⟨h1,h2,h3⟩|⟨b,ofs,cp,cur,f,p1,p2,p3,p4,p5,p6,p7,p8,p9,p10,p11⟩
      .refine ⟨λ_ _ _=>undef,.inl ⟨h1,h2⟩,λk hk=> aA,λk x hk=> aA,λk k' x hk=> aA,λy hy=>?_,λk y hk=> aA,λb hb=>?_⟩
       .rw [h1]at hy;simp[Value.ownBlock]at hy
       .rw [h1]at hb;cases hb
      .refine ⟨f,.inr ⟨b,ofs,cp,cur,p1,p2,p3,p4,aA,λk j hk hj=>?_,λ_=>p7⟩,p8,λk y hk hy=>(p9 y).2 (.inr ⟨k,hk,hy⟩),p10,λy hy=>?_,λk y hk hy CG=>?_,λb1 kV=>?_⟩
       .obtain rfl:j=0:= aA ;rw[cv,bW];exact⟨p6 k hk aF,(p8 k hk).1.head.2.1⟩
       .rw [p1]at hy;simp only[Value.ownBlock,bt]at hy;exact(p9 y).2 (.inl hy.symm)
       .rw [p1]at CG;simp only[Value.ownBlock,bt]at CG;exact p11 k hk (CG▸hy)
       .rw [p1]at kV;cases kV
     obtain⟨v',w',jX,lF⟩:=key (L.val id) n (λk _=>L.iB id k) hm ks2 pown jz;refine⟨v',w',_,.inl jX,TJ jQ r hm (r.hb q _ sM) f p8 p9 p10 zT p11 lF.own lF.DL lF.size lF.nu lF.os lF.tape lF.output (λ_=>pno) (λhn=>?_),Lk.MX jQ,Lk.E4.symm⟩
     .have h1:nl=true:=r.hl hn id _ iN;have h2:nl2=true:=r.hl hn q _ sM;rw[h1,h2];rfl
    .cases h
   .cases h
  .
   rename_i id sr Hz;rw[sr]at hs;have hs:=iC.kD hs;split at h
   .rename_i kg;split at h
    .rename_i oz;cases h;simp only[bF,de]at oz;obtain rfl:=kz.1 oz.1;have jQ:id≠q:=λe=>by have:=oz.2;rw[e,ck]at this;cases this
     have hm:0<m:=ho _ aF;have jz:m*by_<=140737488355328:=ho _ aF;obtain⟨v',w',jX,lF⟩:=key _ 0 (λk _=>L.iB id k) hm hs (.inl ⟨rfl,rfl⟩) (by simpa using jz);have Mq:¬L.lL id:=λh=>by have:=(r.hv id).1 h;rw[kg]at this;cases this
     have hj:=TJ (n:=0) (nl:=true) (len:=λ_=>0) (el:=λ_ _ _=>.any) jQ r hm (r.hb q _ sM) (λ_ _ _=>undef) (λk hk=>absurd hk (bu k)) (λk y hk=>absurd hk (bu k)) (λk k' y hk=>absurd hk (bu k))
      (v:=.slice none 0 0) (λy hy=>by simp[Value.ownBlock]at hy) (λk y hk=>absurd hk (bu k)) lF.own lF.DL lF.size lF.nu lF.os lF.tape lF.output (λh=>absurd h Mq) (λhn=>r.hl hn q _ sM)
     simp only[bu,bB,dS,bX,ej]at hj;exact⟨v',w',_,.inl jX,hj,Lk.MX jQ,Lk.E4.symm⟩
    .cases h
   .cases h
  .cases h
 .cases h
def abW(hT:lE P T)(hB:∀ b,B b->w0.tf b){s x:Operand}{t:TypeId}{c:Call}(hc:c={ callee:=.builtin .append,args:=#[s,x],argTypes:=#[t,t] })(iq:o.op = .call c)(r:jb w0 B σ a w L)
 (h:AJ T σ o.dst t (σ.op s) (σ.op x)=some u) (ho:∀ q,q ∈ u.ju->q):jL P K w0 B σ o a w u:=by
 unfold AJ at h;split at h
 .rename_i u0 h0;split at h
  .rename_i id nl T1 n sz el id' hf hr;split at h
   .rename_i hid;have hid:=kz.1 hid;subst hid;cases h;have r2:jb w0 B { σ with nl:=false } a w L:=⟨r.hd,r.hs,r.ht,r.hb,r.hv,r.hn,r.hw,r.hi,r.he,λh=>by cases h⟩
    obtain⟨v,w',L1,jX,hrel,rj⟩:=RP (K:=K) hT hc iq r2 h0 λq hq=>ho q (List.mem_cons_of_mem _ hq)
    rw[hf]at hrel;rw[hr]at rj;obtain⟨L',k1,k2⟩:=jb.fin hB hrel;refine⟨v,w',L',jX,⟨k1.hd,k1.hs,k1.ht,k1.hb,k1.hv,k1.hn,k1.hw,k1.hi,k1.he,λhn i b hb=>?_⟩,?_⟩
    .have hb:look ((σ.pre (.fin id')).filter λx=>!Nat.beq x.1 id') i=some b:=hb;rw[Bm,PS.zr]at hb;split at hb
     .cases hb
     .obtain ⟨b0,lG,rfl⟩:=bQ.1 hb;rw[Br];exact r.hl hn i b0 lG
    rw[rj.2];exact k2
   .cases h
  .cases h
 .cases h
def acf{x y:Operand}{c:Call}(hc:c.callee = .builtin .max/\c.args = #[x,y])(iq:o.op = .call c)(r:jb w0 B σ a w L){k k':IntKind}{p q:Int}(hx:σ.op x = .e (.v (.int k p)))(hy:σ.op y = .e (.v (.int k' q)))
 (hu:u={ r:=.e (.v (.int k (if q>p then q else p))) }):jL P K w0 B σ o a w u:=by
 have h1:=r.op x;have h2:=r.op y;rw[hx]at h1;rw[hy]at h2;have h1:=iC.kD h1;have h2:=iC.kD h2;subst hu;refine jL.pure r (v:=.int k (if q>p then q else p)) ?_ rfl (.v _);have em:(#[x,y]:Array Operand).map a.eval = #[.int k p,.int k' q]:=by simp[h1,h2]
 simp only[execOp,iq,resolve,hc.1,hc.2,em,Sem.run_bind,Sem.run_pure,Result.andThen_ok,invoke,builtin,run_max_int2]
def acg{x y z:Operand}{c:Call}(hc:c.callee = .builtin .max/\c.args = #[x,y,z])(iq:o.op = .call c)(r:jb w0 B σ a w L){k k' k'':IntKind}{p q s:Int}(hx:σ.op x = .e (.v (.int k p)))(hy:σ.op y = .e (.v (.int k' q)))(hz:σ.op z = .e (.v (.int k'' s)))
 (hu:u={ r:=.e (.v (.int k (if s>(if q>p then q else p)then s else(if q>p then q else p)))) }):jL P K w0 B σ o a w u:=by
 have h1:=r.op x;have h2:=r.op y;have h3:=r.op z;rw[hx]at h1;rw[hy]at h2;rw[hz]at h3;have h1:=iC.kD h1;have h2:=iC.kD h2;have h3:=iC.kD h3;subst hu;refine jL.pure r (v:=.int k (if s>(if q>p then q else p)then s else(if q>p then q else p))) ?_ rfl (.v _);have em:(#[x,y,z]:Array Operand).map a.eval = #[.int k p,.int k' q,.int k'' s]:=by simp[h1,h2,h3]
 simp only[execOp,iq,resolve,hc.1,hc.2,em,Sem.run_bind,Sem.run_pure,Result.andThen_ok,invoke,builtin,run_max_int3]
def ach{x y:Operand}{c:Call}(hc:c.callee = .builtin .min/\c.args = #[x,y])(iq:o.op = .call c)(r:jb w0 B σ a w L){k k':IntKind}{p q:Int}(hx:σ.op x = .e (.v (.int k p)))(hy:σ.op y = .e (.v (.int k' q)))
 (hu:u={ r:=.e (.v (.int k (if q<p then q else p))) }):jL P K w0 B σ o a w u:=by
 have h1:=r.op x;have h2:=r.op y;rw[hx]at h1;rw[hy]at h2;have h1:=iC.kD h1;have h2:=iC.kD h2;subst hu;refine jL.pure r (v:=.int k (if q<p then q else p)) ?_ rfl (.v _);have em:(#[x,y]:Array Operand).map a.eval = #[.int k p,.int k' q]:=by simp[h1,h2]
 simp only[execOp,iq,resolve,hc.1,hc.2,em,Sem.run_bind,Sem.run_pure,Result.andThen_ok,invoke,builtin,run_min_int2]
end
end Go.Proofs.YtjkmahljfblobaaGreatDoor.Pu
