/- Lemmas that the last file uses. -/
import Derived.Test.YtjkmahljfblobaaGreatDoorProg
import Derived.WalkKit
import Derived.BigQuiet
import Derived.WalkSpells
import Derived.WalkLawsBesides
import Derived.Lib.Hide
import Derived.Deep.RegionHeld3
import Derived.Maps.AppendAt
import Derived.Deep.AppendLies
import Derived.Deep.Draws
import Derived.Deep.DeepFit
import Derived.Laws.AppendOwnNone
import Derived.Shelf.Small.Bits
import Derived.Shelf.Spec.TrailingZeros
import Derived.Test.YtjkmahljfblobaaGreatDoorCards
import Derived.Test.YtjkmahljfblobaaGreatDoorTie
import Derived.ProofKit
import Derived.OpenShut
import Derived.Deep.DeepHandedRow
import Derived.Lib.LaidTab
import Derived.Laws.AppendOwn
import Derived.Laws.MakeOwn
import Derived.Laws.Slices
import Derived.Orders
import Derived.Laws.Build
set_option linter.unusedSimpArgs false
set_option linter.unusedVariables false
set_option linter.defProp false
set_option maxHeartbeats 4000000
open Go.Proofs.Tryz
namespace Go.Proofs.YtjkmahljfblobaaGreatDoor
theorem aC{p:Prop}(h:p:=by omega):p:=h
theorem aD{p:Prop}(h:p:=by assumption):p:=h
theorem aE{p:Prop}(h:p:=by decide):p:=h
theorem aF{p:Prop}(h:p:=by kernel_rfl):p:=h
theorem aG{p:Prop}(h:p:=by rfl):p:=h
theorem aH{p:Prop}(h:p:=by simp):p:=h
theorem aI{p:Prop}(h:p:=by nofun):p:=h
theorem aJ{p:Prop}(h:p:=by simp<;>omega):p:=h
theorem aK{p:Prop}(h:p:=by grind):p:=h
theorem aL{p:Prop}(h:p:=by decide +kernel):p:=h
theorem aM{p:Prop}(h:p:=by split<;>omega):p:=h
theorem aN{p:Prop}(h:p:=by simp;omega):p:=h
theorem aO{p:Prop}(h:p:=by first|rfl|omega|(simp only[Nat.add_mul,Nat.one_mul];omega)):p:=h
theorem aP{p:Prop}(h:p:=by simp[Op.operands]):p:=h
theorem aQ{p:Prop}(h:p:=by rw[List.length_take];omega):p:=h
theorem aR{p:Prop}(h:p:=by unfold lJ;omega):p:=h
theorem aS{α:Type _}[BEq α][LawfulBEq α]{a b:α}(h:a≠b):(a==b)=false:=beq_eq_false_iff_ne.2 h
theorem aT{α:Type _}[BEq α][LawfulBEq α]{a b:α}(h:a=b):(a==b)=true:=beq_iff_eq.2 h
theorem aU{b:Bool}(h:¬b=true):b=false:=Bool.eq_false_iff.2 h
theorem aV{α:Type _}[BEq α][LawfulBEq α]{a b:α}(h:a=b):(a != b)=false:=bne_eq_false_iff_eq.2 h
theorem aW{α:Type _}[BEq α][LawfulBEq α]{a b:α}(h:a≠b):(a != b)=true:=bne_iff_ne.2 h
def aX:=@if_neg
def aY:=@if_pos
def aZ:=@decide_eq_true
def a6:=@decide_eq_false
def a7:=@Nat.le_refl
def bc:=@List.getD_eq_getElem?_getD
def bg:=@Nat.le_trans
def bh:=@if_false
def bj:=@Nat.pow_add
def bk:=@List.getElem?_eq_getElem
def bn:=@Nat.pow_pos
def bt:=@Nat.not_lt_zero
def bu:=@Option.some.injEq
def bw:=@Rat.le_trans
def bA:=@if_true
def bB:=@Nat.mul_assoc
def bC:=@Bool.false_eq_true
def bD:=@Bool.and_eq_true
def bE:=@Rat.le_of_lt
def bF:=@Nat.pow_succ
def bG:=@Nat.mul_le_mul_right
def bH:=@Rat.mul_nonneg
def bI:=@Nat.mul_comm
def bJ:=@Nat.mod_lt
def bK:=@Prod.mk.injEq
def bL:=@Nat.add_mul
def bM:=@Nat.lt_of_lt_of_le
def bN:=@Nat.one_mul
def bO:=@Nat.pow_le_pow_right
def bQ:=@Classical.byContradiction
def bR:=@List.all_eq_true
def bS:=@List.mem_range
def bT:=@Nat.add_zero
def bU:=@Option.map_eq_some_iff
def bV:=@Rat.le_refl
def bW:=@Nat.mul_add
def bX:=@List.getElem?_eq_none
def bY:=@Rat.mul_le_mul_of_nonneg_left
def bZ:=@Nat.zero_add
def b5:=@Nat.div_le_self
def b6:=@Nat.mul_one
def b7:=@Nat.zero_le
def b8:=@Rat.mul_le_mul_of_nonneg_right
def b9:=@List.getElem_mem
def ca:=@List.getElem?_eq_some_iff
def cg:=@Option.map_some
def ch:=@List.getElem?_map
def cj:=@Nat.mod_eq_of_lt
def ck:=@Nat.lt_of_le_of_lt
def ct:=@Int.le_refl
def cv:=@List.length_map
def cw:=@Nat.beq_refl
def cz:=@decide_eq_true_eq
def cA:=@Nat.pow_zero
def cB:=@List.length_take
def cC:=@List.mem_map
def cD:=@Rat.div_def
def cE:=@Nat.le_of_ble_eq_true
def cF:=@List.any_eq_false
def cG:=@Nat.div_lt_iff_lt_mul
def cH:=@Nat.zero_mul
def cI:=@List.length_cons
def cJ:=@Nat.mul_le_mul_left
def cK:=@List.length_append
def cL:=@Nat.div_add_mod
def cM:=@beq_false
def cN:=@of_decide_eq_true
def cO:=@Nat.add_assoc
def cP:=@List.mem_cons
def cQ:=@ne_eq
def cR:=@Rat.natCast_nonneg
def cS:=@Nat.mul_zero
def cT:=@Classical.choose_spec
def cU:=@Nat.div_mul_le_self
def cV:=@Array.getElem?_modify
def cW:=@Array.ext'
def cX:=@List.take_of_length_le
def cY:=@Nat.div_eq_of_lt
def c9:=@Array.getElem?_eq_some_iff
def dc:=@List.any_eq_true
def de:=@Rat.div_mul_cancel
def df:=@Nat.min_eq_left
def dg:=@Nat.mul_lt_mul_of_pos_right
def dh:=@List.mem_iff_getElem?
def di:=@Bool.not_eq_true'
def dj:=@Option.bind_some
def dm:=@List.length_set
def dp:=@Nat.le_div_iff_mul_le
def dq:=@Nat.le_of_lt
def dr:=@Rat.natCast_mul
def dt:=@Rat.not_lt
def du:=@List.mem_append
def dw:=@List.eq_nil_of_length_eq_zero
def dx:=@List.getElem?_drop
def dz:=@Bool.or_eq_true
def dA:=@Nat.sub_self
def dB:=@Nat.mul_le_mul
def dC:=@Rat.natCast_le_natCast
def dD:=@Rat.intCast_natCast
def dE:=@Nat.div_div_eq_div_mul
def dF:=@List.getElem?_take
def dG:=@List.mem_flatMap
def dH:=@Array.length_toList
def dI:=@Nat.pos_of_ne_zero
def dJ:=@Rat.natCast_add
def dK:=@Array.size_push
def dL:=@Array.getElem?_push
def dM:=@List.mem_of_mem_take
def dN:=@Nat.mul_ne_zero
def dO:=@List.mem_of_getElem?
def dP:=@List.any_cons
def dQ:=@Nat.sub_zero
def dR:=@Int.natAbs_natCast
def dU:=@List.ext_getElem
def dV:=@Rat.inv_pos
def dW:=@List.mem_of_mem_drop
def dX:=@Nat.ne_of_gt
def dY:=@Nat.mul_div_cancel
def dZ:=@Nat.mod_one
def ef:=@List.map_congr_left
def ej:=@Array.mem_of_getElem?
def en:=@Nat.mul_left_comm
def eo:=@Bool.eq_iff_iff
def ep:=@Rat.mul_pos
def er:=@Rat.one_mul
def eu:=@List.length_range
def ev:=@List.getElem_map
def ez:=@List.getElem_range
def eA:=@Nat.mod_le
def eB:=@Array.size_modify
def eC:=@Rat.mul_lt_mul_of_pos_right
def eD:=@Nat.add_mul_mod_self_left
def eE:=@Nat.add_sub_cancel
def eF:=@List.getElem_cons_succ
def eG:=@List.getElem?_append
def eH:=@Bool.not_false
def eI:=@List.map_cons
def eJ:=@List.size_toArray
def eK:=@List.length_drop
def eO:=@Bool.or_false
def eP:=@not_false_eq_true
def eR:=@Bool.true_and
def eU:=@Nat.sub_le
def eV:=@Rat.le_of_mul_le_mul_right
def eW:=@List.take_succ_cons
def eX:=@Nat.mod_add_div
def eZ:=@Option.isSome_map
def e9:=@Nat.eq_zero_or_pos
def fc:=@List.any_nil
def fe:=@Bool.or_eq_false_iff
def ff:=@List.length_nil
def fg:=@Int.natCast_mul
def fh:=@Nat.xor_lt_two_pow
def fi:=@Bool.false_or
def fj:=@Rat.mul_assoc
def fk:=@Rat.natCast_pos
def fm:=@Rat.mul_comm
def fo:=@Int.toNat_of_nonneg
def fp:=@Nat.add_mul_div_left
def fu:=@List.drop_eq_nil_of_le
def fw:=@List.drop_eq_getElem_cons
def fz:=@Int.toNat_natCast
def fA:=@List.getElem_toArray
def fB:=@List.getElem_cons_zero
def fC:=@List.drop_zero
def fD:=@List.drop_succ_cons
def fE:=@List.take_zero
def fF:=@Bool.not_true
def fG:=@Nat.blt_eq
def fH:=@List.getElem?_append_left
def fI:=@List.getElem?_append_right
def fJ:=@Nat.le_of_eq
def fK:=@Array.mem_append
def fL:=@getElem!_pos
def fM:=@and_true
def fN:=@List.mem_singleton
def fO:=@List.foldl_cons
def fP:=@Nat.lt_trans
def fQ:=@Nat.lt_succ_self
def fR:=@Nat.and_lt_two_pow
def fS:=@or_false
def fT:=@BitVec.toNat_ofInt
def fU:=@Nat.div_one
def fV:=@Prod.mk.inj
def fW:=@Rat.intCast_neg
def fX:=@Rat.neg_neg
def fY:=@Rat.le_antisymm
def fZ:=@List.take_succ_eq_append_getElem
def gh:=@Nat.gcd_comm
def gj:=@Nat.mul_pos
def gl:=@Nat.le_mul_of_pos_left
def gn:=@Nat.mul_mod_left
def gp:=@Array.getElem?_setIfInBounds_ne
def gq:=@Nat.mul_add_mod
def gv:=@Nat.le_mul_of_pos_right
def gw:=@Array.mem_map
def gy:=@Array.mem_range
def gz:=@Option.isSome_iff_exists
def gE:=@List.getElem?_replicate
def gF:=@Nat.pow_lt_pow_right
def gG:=@List.length_pos_iff
def gH:=@decide_true
def gI:=@Int.eq_ofNat_of_zero_le
def gJ:=@Rat.intCast_le_intCast
def gK:=@of_decide_eq_false
def gL:=@List.length_singleton
def gM:=@Nat.div_lt_self
def gN:=@Nat.lt_or_ge
def gO:=@Nat.mul_right_comm
def gP:=@Nat.sub_add_cancel
def gQ:=@Array.getElem_mem
def gR:=@List.getElem?_toArray
def gS:=@List.mem_toArray
def gT:=@not_true_eq_false
def gU:=@List.mapM_cons
def gV:=@Option.bind_eq_some_iff
def gW:=@Option.map_none
def gX:=@Bool.and_eq_true_iff
def gY:=@BitVec.ofInt_natCast
def gZ:=@BitVec.toNat_ofNat
def ia:=@decide_eq_true_iff
def ado:=@List.take_length
def apI:=@Nat.zero_div
def apV:=@Bool.or_self
def aqR:=@Rat.neg_mul
def aqS:=@Rat.inv_mul_cancel
def aqT:=@Nat.succ_mul
def aqU:=@Nat.div_le_div_left
def aqV:=@Bool.not_eq_true
def aqW:=@Nat.one_ne_zero
def aqX:=@List.ext_getElem?
def aqY:=@List.not_mem_nil
def aqZ:=@List.cons_append
def aq0:=@List.take_append_drop
def aq1:=@List.eq_nil_or_concat
def aq2:=@List.concat_eq_append
def aq3:=@List.getElem_of_mem
def aq4:=@List.map_append
def aq5:=@Nat.mul_add_div
def aq6:=@Array.size_append
def aq7:=@List.append_assoc
def aq8:=@Option.getD_some
def aq9:=@List.pairwise_cons
def ara:=@List.pairwise_append
def arb:=@Option.some.inj
def arc:=@Array.getElem_setIfInBounds_ne
def ard:=@Nat.or_lt_two_pow
def are:=@decide_eq_decide
def arf:=@Int.natAbs_neg
def arh:=@Nat.testBit_xor
def ari:=@List.length_eq_zero_iff
def arj:=@List.getElem?_range
def ark:=@Nat.lt_or_eq_of_le
def arl:=@Rat.mul_div_cancel
def arn:=@Rat.lt_of_mul_lt_mul_right
def aro:=@Nat.lt_one_iff
def arp:=@not_not_intro
def arq:=@Bool.not_eq_false'
def ars:=@Int.tmod_eq_emod_of_nonneg
def art:=@List.all_eq_false
def aru:=@Nat.le_add_right
def arv:=@List.getElem?_cons_succ
def arw:=@Nat.pow_lt_pow_iff_right
def arx:=@Array.getElem?_setIfInBounds
def ary:=@Array.getElem?_append_left
def arz:=@Int.tdiv_eq_ediv_of_nonneg
def arA:=@Array.toList_setIfInBounds
def arB:=@Array.mem_or_eq_of_mem_setIfInBounds
def arC:=@List.drop_length_add_append
def arD:=@Array.all_eq_true_iff_forall_mem
def arE:=@Array.mapM_eq_mapM_toList
def arF:=@Nat.and_two_pow_sub_one_eq_mod
def arG:=@Nat.eq_of_mul_eq_mul_right
def arH:=@Nat.lt_of_mul_lt_mul_right
def arI:=@Int.mul_tdiv_cancel_left
def arJ:=@Nat.mul_div_cancel_left
def arK:=@Nat.mod_two_eq_zero_or_one
def arL:=@Nat.mul_lt_mul_of_lt_of_lt
def arM:=@Lib.hid
end Go.Proofs.YtjkmahljfblobaaGreatDoor
namespace Go.Proofs.YtjkmahljfblobaaGreatDoor.Fp
def val:List Nat->Nat
 | []=>0
 |x::l=>x+4294967296*val l
def iQ(L:List Nat):Prop:=∀ x,x ∈ L->x<4294967296
def iQ.nil:iQ []:=by intro x h;cases h
section
variable{x:Nat}{l:List Nat}
def iQ.cons(hx:x<4294967296)(h:iQ l):iQ<|x::l:=by
 intro y hy;rcases cP.1 hy with rfl|hy;exact hx;exact h _ hy
def iQ.head(h:iQ<|x::l):x<4294967296:=h x aH 
def iQ.tail(h:iQ<|x::l):iQ l:=λy hy=>h y<|by simp[hy]
end
def iQ.append{l m:List Nat}(h:iQ l)(k:iQ m):iQ<|l++m:=by
 intro x hx;rcases du.1 hx with hx|hx;exact h _ hx;exact k _ hx
def iQ.take{l:List Nat}(h:iQ l)(n:Nat):iQ<|l.take n:=λx hx=>h x<|dM hx
def iQ.drop{l:List Nat}(h:iQ l)(n:Nat):iQ<|l.drop n:=λx hx=>h x<|dW hx
def iQ.get{l:List Nat}(h:iQ l){i:Nat}(hi:i<l.length):l[i]<4294967296:=h _<|b9 hi
def iQ.getD{l:List Nat}(h:iQ l)(i:Nat):l.getD i 0<4294967296:=by
 rw[bc];by_cases hi:i<l.length
 .rw [bk hi];exact h.get hi
 .rw [bX aC];decide
def iQ.F6(n:Nat):iQ<|List.replicate n 0:=by
 intro x hx;rw[List.mem_replicate]at hx;rw[hx.2];decide
@[simp] theorem MU:val []=0:=rfl
@[simp] theorem s9 (x:Nat) (l:List Nat):val (x::l)=x+4294967296*val l:=rfl
def CP(l m:List Nat):val (l++m)=val l+4294967296^l.length*val m:=by
 induction l with
 |nil=>simp
 |cons x l ih=>
  simp only[aqZ,s9,ih,cI,bF];rw[bW,bI (4294967296^l.length) 4294967296,bB];omega
def pk{l:List Nat}(h:iQ l):val l<4294967296^l.length:=by
 induction l with
 |nil=>simp
 |cons x l ih=>
  have h1:=h.head;have h2:=ih h.tail;simp only[s9,cI,bF];have:val l+1<=4294967296^l.length:=h2;have:=cJ 4294967296 this;rw[bI<|4294967296^l.length];omega
def Ey(n:Nat):val (List.replicate n 0)=0:=by
 induction n with
 |zero=>rfl
 |succ n ih=>simp[List.replicate_succ,ih]
def Gr(l:List Nat)(n:Nat)(hn:n<=l.length:=by omega):val l=val (l.take n)+4294967296^n*val (l.drop n):=by
 conv=>lhs;rw[<-aq0 n l,CP]
 rw[cB,df hn]
def EA(l:List Nat)(n:Nat)(hn:n<l.length):val (l.take<|n+1)=val (l.take n)+4294967296^n*l[n]:=by
 rw[fZ hn,CP,cB,df aC];simp
section
variable{l:List Nat}(h:iQ l)(n:Nat)
def apB:val (l.take n)=val l%4294967296^n:=by
 by_cases hn:n<=l.length
 .rw [Gr l n hn,eD,cj];have:=pk<|h.take n;rwa[cB,df hn]at this
 .rw [cX aC,cj];refine bM (pk h)<|bO aE aC
def JO:val (l.drop n)=val l/4294967296^n:=by
 by_cases hn:n<=l.length
 .rw [Gr l n hn];have:=pk<|h.take n;rw[cB,df hn]at this;rw[fp _ _<|bn aE,cY this,bZ]
 .rw [fu aC,cY];rfl;exact bM (pk h)<|bO aE aC
end
def iO:List Nat->List Nat
 | []=>[]
 |x::l=>match iO l with
  | []=>if x=0 then[]else[x]
  |y::m=>x::y::m
def mS(L:List Nat):Nat:=(iO L).length
def abN(l:List Nat):iO (l++[0])=iO l:=by
 induction l with
 |nil=>rfl
 |cons x l ih=>simp only[aqZ,iO,ih]
def abM(l:List Nat)(x:Nat)(hx:x≠0):iO (l++[x])=l++[x]:=by
 induction l with
 |nil=>simp[iO,hx]
 |cons y l ih=>
  simp only[aqZ,iO,ih];cases l<;>rfl
section
variable(L:List Nat)
def MO:iO L=L.take (mS L):=by
 unfold mS
 induction L with
 |nil=>rfl
 |cons x l ih=>
  simp only[iO];cases h:iO l with
  |nil=>by_cases hx:x=0<;>simp[hx]
  |cons y m=>
   rw[h]at ih;simp only[cI,eW];rw[cI]at ih;rw[<-ih]
def qh:mS L<=L.length:=by
 have h:=congrArg List.length<|MO L;rw[cB]at h;unfold mS at h ⊢;omega
def qL:val (iO L)=val L:=by
 induction L with
 |nil=>rfl
 |cons x l ih=>
  simp only[iO];cases h:iO l with
  |nil=>rw[h]at ih;by_cases hx:x=0<;>simp[hx,<-ih]
  |cons y m=>rw[h]at ih;simp only[s9]at ih ⊢;rw[ih]
end
def iQ.iO{L:List Nat}(h:iQ L):iQ<|Fp.iO L:=by rw[MO];exact h.take _
def pB(L:List Nat):Prop:=iO L=L
def BE(L:List Nat):pB<|iO L:=by
 unfold pB
 induction L with
 |nil=>rfl
 |cons x l ih=>
  simp only[iO];cases h:iO l with
  |nil=>by_cases hx:x=0<;>simp[hx,iO]
  |cons y m=>rw[h]at ih;simp only[iO]at ih ⊢;rw[ih]
def pB.nil:pB []:=rfl
def CO(L:List Nat):pB L↔∀ h:0<L.length,L[L.length-1]≠0:=by
 rcases aq1 L with rfl|⟨l,x,rfl⟩
 .simp [pB,iO]
 .simp only[aq2,cK,gL,eE,List.getElem_concat_length];constructor
  .intro h _ hx;subst hx;have:=congrArg List.length h;rw[abN]at this;have h2:=qh l;unfold mS at h2;rw[cK]at this;simp at this;omega
  .intro h;exact abM l x<|h aC
section
variable(L:List Nat)(n:Nat)(hn:n<L.length)
def Sb(h0:L[n]=0):mS (L.take<|n+1)=mS (L.take n):=by
 unfold mS;rw[fZ hn,h0,abN]
def Sa(h0:L[n]≠0):mS (L.take<|n+1)=n+1:=by
 unfold mS;rw[fZ hn,abM _ _ h0];simp;omega
end
def pB.NU{x:Nat}{l:List Nat}(h:pB<|x::l):pB l:=by
 rw[CO]at h ⊢;intro hl;have:=h aH;simp only[cI,eE]at this;have e:(x::l)[l.length]'(aH)=l[l.length-1]:=by
  rw[List.getElem_cons];rw[dif_neg aC]
 rwa[e]at this
def pB.Gq{L:List Nat}(h:pB L)(hl:L≠[]):0<val L:=by
 induction L with
 |nil=>exact absurd rfl hl
 |cons x l ih=>
  simp only[s9];by_cases qa:l=[]
  .subst qa;have:=(CO _).1 h aH;simp at this;simp;omega
  .have:=ih h.NU qa;omega
def pB.ext{L M:List Nat}(hL:pB L)(hM:pB M)(kL:iQ L)(kM:iQ M)(h:val L=val M):L=M:=by
 induction L generalizing M with
 |nil=>
  by_cases hm:M=[]
  .exact hm.symm
  .have:=hM.Gq hm;rw[<-h]at this;simp at this
 |cons x l ih=>
  cases M with
  |nil=>have:=hL.Gq aH;rw[h]at this;simp at this
  |cons y m=>
   simp only[s9]at h;have h1:=kL.head;have h2:=kM.head;have e:x=y:= aC ;subst e;rw[ih hL.NU hM.NU kL.tail kM.tail aC]
def ib(n:Nat):List Nat:=if n=0 then[]else n%4294967296::ib (n/4294967296)
termination_by n
decreasing_by exact gM aC aE 
def pG:ib 0=[]:=by rw[ib];rfl
def FJ{n:Nat}(h:n≠0):ib n=n%4294967296::ib (n/4294967296):=by rw[ib,aX h]
def kK(n:Nat):val (ib n)=n:=by
 induction n using Nat.strongRecOn with
 |_ n ih=>
  by_cases h:n=0
  .subst h;rw[pG];rfl
  .rw [FJ h,s9,ih _<|gM aC aE];exact eX n 4294967296
def mJ(n:Nat):iQ<|ib n:=by
 induction n using Nat.strongRecOn with
 |_ n ih=>
  by_cases h:n=0
  .subst h;rw[pG];exact iQ.nil
  .rw [FJ h];exact iQ.cons (bJ _ aE)<|ih _<|gM aC aE
def Gn(n:Nat):pB<|ib n:=by
 induction n using Nat.strongRecOn with
 |_ n ih=>
  by_cases h:n=0
  .subst h;rw[pG];exact pB.nil
  .rw [FJ h];have h1:=ih _<|gM aC (aE:1<4294967296);unfold pB at h1 ⊢;simp only[iO,h1];by_cases h2:n/4294967296=0
   .rw [h2,pG];have:n%4294967296≠0:= aC ;simp[this]
   .rw [FJ h2]
def s8{L:List Nat}(h:iQ L):iO L=ib (val L):=
 pB.ext (BE L) (Gn _) h.iO (mJ _) (by rw[qL,kK])
def pB.KE{L:List Nat}(h:pB L)(k:iQ L):L=ib (val L):=by
 rw[<-s8 k];exact h.symm
def Yj{n:Nat}:ib n=[]↔n=0:=by
 constructor
 .intro h;have:=kK n;rw[h]at this;exact this.symm
 .rintro rfl;exact pG
def yG{n k:Nat}(h:n<4294967296^k):(ib n).length<=k:=by
 induction k generalizing n with
 |zero=>simp at h;subst h;rw[pG];simp
 |succ k ih=>
  by_cases h0:n=0
  .subst h0;rw[pG];simp
  .rw [FJ h0,cI];have:n/4294967296<4294967296^k:=by
    rw[cG aE];rwa[bF]at h
   have:=ih this;omega
def LN{n k:Nat}(h:(ib n).length<=k):n<4294967296^k:=by
 have h1:=pk<|mJ n;rw[kK]at h1;exact bM h1<|bO aE h
def iq(n:Nat):Nat:=if n=0 then 0 else n.log2+1
def sO:iq 0=0:=rfl
def me{n k:Nat}:iq n<=k↔n<2^k:=by
 unfold iq;by_cases h:n=0
 .subst h;simp[bn]
 .rw [aX h,<-Nat.log2_lt h];omega
def xy{n k:Nat}:k<iq n↔2^k<=n:=by
 have:=@me n k;omega
def AB{n k:Nat}(h1:2^k<=n)(h2:n<2^(k+1)):iq n=k+1:=by
 have a:=xy.2 h1;have b:=me.2 h2;omega
def sc(n:Nat):n<2^iq n:=me.1<|a7 _
def tV{n:Nat}(h:n≠0):2^(iq n-1)<=n:=by
 have:iq n-1<iq n:=by
  have:iq n≠0:=by unfold iq;simp[h]
  omega
 exact xy.1 this
def oV{n:Nat}(h:n≠0):0<iq n:=by unfold iq;simp[h]
def uW{m n:Nat}(h:m<=n):iq m<=iq n:=me.2<|ck h<|sc n
def rI{n:Nat}(h:n≠0)(k:Nat):iq (n*2^k)=iq n+k:=by
 have h1:=sc n;have h2:=tV h;have h3:=oV h;have e:iq n+k=(iq n-1+k)+1:= aC ;rw[e];apply AB
 .rw [bj];exact bG _ h2
 .rw [<-e,bj];exact dg h1<|bn aE
def uP(k:Nat):(4294967296:Nat)^k=2^(32*k):=by
 rw[Nat.pow_mul]
def adV{l:List Nat}{x:Nat}(h:iQ<|l++[x])(hx:x≠0):iq (val<|l++[x])=32*l.length+iq x:=by
 rw[CP];simp only[s9,MU,cS,bT];have hl:val l<4294967296^l.length:=pk (λy hy=>h y<|by simp[hy]);rw[uP]at hl ⊢;have h1:=sc x;have h2:=tV hx;have h3:=oV hx;have e:32*l.length+iq x=(32*l.length+(iq x-1))+1:= aC ;rw[e];apply AB
 .rw [bj];have:=cJ (2^(32*l.length)) h2;omega
 .rw [<-e,bj];have:=cJ (2^(32*l.length))<|show x+1<=2^iq x from h1;rw[bW]at this;omega
def kI(a b:Nat):Int:=if a<b then -1 else if b<a then 1 else 0
section
variable{L M:List Nat}(kL:iQ L)
def MT(hM:pB M)(h:L.length<M.length):val L<val M:=by
 rcases aq1 M with rfl|⟨m,x,rfl⟩
 .simp at h
 .simp only[aq2,cK,gL]at h hM ⊢;have hx:x≠0:=by
   have:=(CO _).1 hM aH;simpa using this
  have h1:=pk kL;rw[CP];have h2:(4294967296:Nat)^L.length<=4294967296^m.length:=bO aE aC;have h3:(4294967296:Nat)^m.length*1<=4294967296^m.length*val [x]:=cJ _ aN;omega
def apx(i:Nat)(hi:i<L.length)(hlen:L.length=M.length)(ajd:L.drop (i+1)=M.drop (i+1))(iE:L[i]<M[i]'(aC)):val L<val M:=by
 rw[Gr L<|i+1,Gr M<|i+1,ajd,EA L i hi,EA M i aC];have h1:=pk<|kL.take i;rw[cB,df aC]at h1;have h2:=cJ (4294967296^i)<|show L[i]+1<=M[i]'(aC)from iE;rw[bW]at h2;omega
end
def apz(L:List Nat)(k:Nat)(h:iQ L):val (L.drop k)=val L/2^(32*k):=by
 rw[JO h,uP]
def rh(s:Nat):List Nat->List Nat
 | []=>[]
 |x::l=>((x+4294967296*l.getD 0 0)/2^s)%4294967296::rh s l
section
variable(s:Nat)(L:List Nat)
def ME:(rh s L).length=L.length:=by
 induction L with
 |nil=>rfl
 |cons x l ih=>simp[rh,ih]
def aa6(i:Nat)(h:i<L.length):(rh s L)[i]? = some (((L[i]+4294967296*L.getD (i+1) 0)/2^s)%4294967296):=by
 induction L generalizing i with
 |nil=>simp at h
 |cons x l ih=>
  cases i with
  |zero=>simp[rh]
  |succ i=>
   simp only[cI]at h;simp only[rh,arv,ih i aC,eF];congr 1
def CD:iQ<|rh s L:=by
 induction L with
 |nil=>exact iQ.nil
 |cons x l ih=>exact iQ.cons (bJ _ aE) ih
end
def apA{L:List Nat}(h:iQ L)(s:Nat)(hs:s<32):val (rh s L)=val L/2^s:=by
 induction L with
 |nil=>simp[rh]
 |cons x l ih=>
  have e:32=s+(32-s):= aC ;have e2:(4294967296:Nat)=2^s*2^(32-s):=by rw[<-bj,<-e]
  have hp:0<2^s:=bn aE;have hx:=h.head;simp only[rh,s9,ih h.tail];generalize hv:val l=v;have hh:l.getD 0 0=v%4294967296:=by
   rw[<-hv];cases l with
   |nil=>simp
   |cons y m=>
    have:=h.tail.head;simp[s9];omega
  rw[hh];have f1:(x+4294967296*(v%4294967296))/2^s=x/2^s+2^(32-s)*(v%4294967296):=by
   rw[show x+4294967296*(v%4294967296)=x+2^s*(2^(32-s)*(v%4294967296))by rw[<-bB,<-e2],fp _ _ hp]
  have f2:(x+4294967296*v)/2^s=x/2^s+2^(32-s)*v:=by
   rw[show x+4294967296*v=x+2^s*(2^(32-s)*v)by rw[<-bB,<-e2],fp _ _ hp]
  rw[f1,f2];have qc:x/2^s<2^(32-s):=by
   rw[cG hp,bI,<-e2];exact hx
  generalize x/2^s=q at qc ⊢;have g1:(4294967296:Nat)=2^(32-s)*2^s:=by rw[bI];exact e2
  have g2:v=2^s*(v/2^s)+v%2^s:=(cL v<|2^s).symm;have g3:(q+2^(32-s)*(v%4294967296))%4294967296=q+2^(32-s)*(v%2^s):=by
   have k1:v%4294967296%2^s=v%2^s:=by
    rw[e2,Nat.mod_mul_right_mod]
   have k2:(v%4294967296)=2^s*(v%4294967296/2^s)+v%2^s:=by
    rw[<-k1];exact(cL _ _).symm
   conv=>lhs;rw[k2]
   rw[bW,<-bB,<-g1];rw[(aC:q+(4294967296*(v%4294967296/2^s)+2^(32-s)*(v%2^s))=(q+2^(32-s)*(v%2^s))+4294967296*(v%4294967296/2^s)),eD];apply cj;have:v%2^s+1<=2^s:=bJ _ hp;have:=cJ (2^(32-s)) this;rw[<-g1,bW]at this;omega
  rw[g3]
  conv=>rhs;rw[g2,bW,<-bB,<-g1]
  omega
def MV{L:List Nat}(h:iQ L)(n:Nat):val (rh (n%32)<|L.drop<|n/32)=val L/2^n:=by
 rw[apA (h.drop _) _<|bJ _ aE,apz _ _ h,dE,<-bj];congr 2;omega
def aa1{out a:List Nat}{i c s n0:Nat}(hi:i<a.length)(hlen:out.length=n0+i)
 (h:val out+4294967296^(n0+i)*c=val (a.take i)*2^s*4294967296^n0):
 val (out++[(a[i]*2^s+c)%4294967296])+4294967296^(n0+(i+1))*((a[i]*2^s+c)/4294967296)=val (a.take<|i+1)*2^s*4294967296^n0:=by
 rw[CP,EA a i hi,hlen];simp only[s9,MU,cS,bT];generalize hx:a[i]*2^s+c=x;have e:=eX x 4294967296;have p:4294967296^(n0+(i+1))=4294967296^(n0+i)*4294967296:=by rw[<-cO,bF]
 rw[p,cO,bB<|4294967296^(n0+i),<-bW,e,<-hx,bW,<-cO,Nat.add_right_comm,h,bL,bL];congr 1;rw[bj]
 ac_rfl
def CQ(b:List Nat)(i:Nat):val (b.take<|i+1)=val (b.take i)+4294967296^i*b.getD i 0:=by
 by_cases hi:i<b.length
 .rw [EA b i hi,bc,bk hi];rfl
 .rw [cX aC,cX aC,bc,bX aC];simp
def jU(n:Nat):Nat:=if n=0 then 0 else(Nat.gcd n<|2^(Nat.log2 n+1)).log2
def NW{m:Nat}(hm:m%2=1)(k:Nat):jU (m*2^k)=k:=by
 have h0:m*2^k≠0:=dN aC<|dX<|bn aE;unfold jU;rw[aX h0];have hk:k<=Nat.log2 (m*2^k):=by
  apply bQ;intro h;have h1:m*2^k<2^k:=(Nat.log2_lt h0).1 aC;have:1*2^k<=m*2^k:=bG _ aC;omega
 obtain⟨j,hj⟩:∃ j,Nat.log2 (m*2^k)+1=j+k:=⟨Nat.log2 (m*2^k)+1-k,aC⟩
 rw[hj,bj,Nat.gcd_mul_right];have hg:Nat.gcd m (2^j)=1:=by
  have hc:Nat.Coprime m 2:=by
   unfold Nat.Coprime;rw[gh,Nat.gcd_rec,hm];rfl
  exact Nat.Coprime.pow_right j hc
 rw[hg,bN,Nat.log2_two_pow]
def NX{n:Nat}(h:n%2=1):jU n=0:=by have:=NW h 0;simpa using this
section
variable{n:Nat}(h:n≠0)
def aph:∃ m k,m%2=1/\n=m*2^k:=by
 induction n using Nat.strongRecOn with
 |_ n ih=>
  by_cases h2:n%2=1
  .exact ⟨n,0,h2,aH⟩
  .obtain ⟨m,k,hm,he⟩:=ih (n/2) aC aC ;exact⟨m,k+1,hm,by rw[bF,<-bB,<-he];omega⟩
def Um(h2:n%2=0):jU n=jU (n/2)+1:=by
 obtain⟨m,k,hm,he⟩:=aph (n:=n/2) aC;have e:n=m*2^(k+1):=by rw[bF,<-bB,<-he];omega
 rw[he,NW hm]
 conv=>lhs;rw[e]
 exact NW hm _
def C8:∃ m,m%2=1/\n=m*2^jU n:=by
 induction n using Nat.strongRecOn with
 |_ n ih=>
  by_cases h2:n%2=1
  .exact ⟨n,h2,by rw[NX h2];omega⟩
  .obtain ⟨m,hm,he⟩:=ih (n/2) aC aC ;refine⟨m,hm,?_⟩;rw[Um h aC,bF,<-bB,<-he];omega
end
def AG{m:Nat}(hm:m%2=1)(k:Nat):jU (m*2^k)=k:=by
 induction k with
 |zero=>rw[cA,b6,NX hm]
 |succ k ih=>
  have hp:0<m*2^k:=gj aC<|bn aE;have e:m*2^(k+1)=m*2^k*2:=by rw[bF,bB]
  rw[e,Um aC aC,dY _ aE,ih]
section
variable{n:Nat}(h:n≠0)
def FU:(n/2^jU n)%2=1:=by
 obtain⟨m,hm,he⟩:=C8 h;have:n/2^jU n=m:=by conv=>lhs;rw[he,AG hm];rw[dY _<|bn aE]
 rw[this];exact hm
def Ha:(n/2^jU n)*2^jU n=n:=by
 obtain⟨m,hm,he⟩:=C8 h;have:n/2^jU n=m:=by conv=>lhs;rw[he,AG hm];rw[dY _<|bn aE]
 rw[this];exact he.symm
def Jo:2^jU n<=n:=by
 obtain⟨m,hm,he⟩:=C8 h
 conv=>rhs;rw[he]
 exact gl _ aC 
end
def afd{x v:Nat}(hx:x≠0)(iE:x<4294967296):jU (x+4294967296*v)=jU x:=by
 obtain⟨m,hm,he⟩:=C8 hx;have hk:jU x<32:=by
  have h1:=Jo hx;rcases gN (jU x) 32 with h|h
  .exact h
  .have:=bO (n:=2) aE h;have e:(2:Nat)^32=4294967296:= aE ;omega
 have e:x+4294967296*v=(m+2^(32-jU x)*v)*2^jU x:=by
  rw[bL,<-he,gO,<-bj,gP aC]
 conv=>lhs;rw[e]
 apply AG;have:2^(32-jU x)=2*2^(31-jU x):=by rw[(aC:32-jU x=(31-jU x)+1),bF,bI]
 rw[this,bB,eD];exact hm
def afe{v:Nat}(hv:v≠0)(k:Nat):jU (2^k*v)=k+jU v:=by
 obtain⟨m,hm,he⟩:=C8 hv
 conv=>lhs;rw[he,<-bB,bI<|2^k,bB,<-bj]
 exact AG hm _
section
variable{L:List Nat}
def JP:val L=0↔∀ x,x ∈ L->x=0:=by
 induction L with
 |nil=>simp
 |cons x l ih=>
  simp only[s9,cP];constructor
  .intro h y hy;rcases hy with rfl|hy
   .omega
   .exact ih.1 aC y hy
  .intro h;have h1:=h x<|.inl rfl;have h2:=ih.2 λy hy=>h y<|.inr hy;omega
def aff(h:iQ L)(i:Nat)(hi:i<L.length)(h0:∀ j,(hj:j<i)->L[j]=0)(hx:L[i]≠0):jU (val L)=32*i+jU L[i]:=by
 rw[Gr L i];have:val (L.take i)=0:=by
  rw[JP];intro y hy;obtain⟨j,hj,rfl⟩:=aq3 hy;rw[cB]at hj;rw[List.getElem_take];exact h0 j aC 
 rw[this,bZ,uP,fw hi,s9];rw[afe aC,afd hx<|h.get hi]
def Sm{k x:Nat}(hk:k<L.length):val (L.set k x)+4294967296^k*L[k]=val L+4294967296^k*x:=by
 induction L generalizing k with
 |nil=>simp at hk
 |cons y l ih=>
  cases k with
  |zero=>simp;omega
  |succ k=>
   simp only[cI]at hk;have:=ih (k:=k) aC;simp only[List.set_cons_succ,s9,eF,bF];have e1:(4294967296^k*4294967296*l[k])=4294967296*(4294967296^k*l[k]):=by ac_rfl
   have e2:(4294967296^k*4294967296*x)=4294967296*(4294967296^k*x):=by ac_rfl
   rw[e1,e2];omega
end
def iQ.set{L:List Nat}(h:iQ L)(k:Nat){x:Nat}(hx:x<4294967296):iQ<|L.set k x:=by
 intro y hy;rcases List.mem_or_eq_of_mem_set hy with hy|rfl
 .exact h _ hy
 .exact hx
structure Dy where
 neg:Bool
 m:Nat
 e:Int
def Dy.mi(d:Dy):Prop:=(d.m=0/\d.neg=false/\d.e=0)\/d.m%2=1
section
variable(neg:Bool)(m:Nat)(e:Int)
def canon:Dy:=if m=0 then⟨false,0,0⟩else⟨neg,m/2^jU m,e+jU m⟩
def tl:(canon neg m e).mi:=by
 unfold canon;split
 .exact .inl ⟨rfl,rfl,rfl⟩
 .rename_i h;exact .inr<|FU h
end
def Dy.mi.C4{d:Dy}(h:d.mi):canon d.neg d.m d.e=d:=by
 obtain⟨s,m,e⟩:=d;rcases h with⟨h1,h2,h3⟩|h
 .simp only at h1 h2 h3;subst h1 h2 h3;rfl
 .simp only at h ⊢;unfold canon;rw[aX aC,NX h];simp
def nj(d:Dy):Prop:=d.m=0\/iq d.m<=4096 /\ -16384<=d.e/\d.e<=16384/\(iq d.m:Int)+d.e<=16384
instance (d:Dy):Decidable<|nj d:=by unfold nj;infer_instance
structure Dy.ig(d:Dy):Prop where
 canon:d.mi
 range:nj d
def iR:Dy:=⟨false,0,0⟩
def qu:iR.ig:=⟨.inl ⟨rfl,rfl,rfl⟩,.inl rfl⟩
def Dy.jc(d:Dy):Int:=if d.m=0 then 0 else if d.neg then -1 else 1
def Dy.iz(d:Dy):Int:=if d.m=0 then 0 else iq d.m+d.e
def Dy.jR(d:Dy)(e:Int):Nat:=d.m*2^(d.e-e).toNat
def Dy.num(d:Dy)(e:Int):Int:=if d.neg then -(d.jR e:Int)else d.jR e
def jm(a b:Dy):Int:=
 if a.num (min a.e b.e)<b.num (min a.e b.e)then -1 else if b.num (min a.e b.e)<a.num (min a.e b.e)then 1 else 0
def zS{d:Dy}(h:d.m≠0)(e:Int):0<d.jR e:=gj aC<|bn aE
def Yx{d:Dy}(h:d.m=0)(e:Int):d.jR e=0:=by unfold Dy.jR;rw[h,cH]
def Ko{d:Dy}(h:d.m≠0){e:Int}(he:e<=d.e):(iq<|d.jR e:Int)=iq d.m+d.e-e:=by
 unfold Dy.jR;rw[rI h];omega
def Yw{a b:Dy}(ha:a.m≠0)(hb:b.m≠0){e:Int}(h1:e<=a.e)(h2:e<=b.e)(h:a.iz<b.iz):a.jR e<b.jR e:=by
 have k1:=Ko ha h1;have k2:=Ko hb h2;unfold Dy.iz at h;rw[aX ha,aX hb]at h;rcases gN (a.jR e) (b.jR e)with h'|h'
 .exact h'
 .have:=uW h';omega
def uc(a b:Dy):Int:=kI (a.jR<|min a.e b.e)<|b.jR<|min a.e b.e
section
variable{a b:Dy}(ha:a.m≠0)(hb:b.m≠0)
def ae4(h:a.iz<b.iz):uc a b = -1:=by
 unfold uc kI;rw[aY<|Yw ha hb (Int.min_le_left _ _) (Int.min_le_right _ _) h]
def ae3(h:b.iz<a.iz):uc a b=1:=by
 have:=Yw hb ha (Int.min_le_right a.e b.e) (Int.min_le_left _ _) h;unfold uc kI;rw[aX aC,aY this]
end
def JE(d:Dy):(d.m=0/\d.jc=0)\/(d.m≠0/\d.neg=true/\d.jc = -1)\/(d.m≠0/\d.neg=false/\d.jc=1):=by
 unfold Dy.jc;by_cases h:d.m=0
 .exact .inl ⟨h,aY h⟩
 .cases hn:d.neg
  .exact .inr<|.inr ⟨h,rfl,by simp[h]⟩
  .exact .inr<|.inl ⟨h,rfl,by simp[h]⟩
def Zz{d:Dy}(e:Int):(d.jc=0->d.num e=0)/\(d.jc = -1->d.num e<0/\d.num e = -(d.jR e))/\(d.jc=1->0<d.num e/\d.num e=d.jR e):=by
 unfold Dy.num;rcases JE d with⟨h1,h2⟩|⟨h1,h2,h3⟩|⟨h1,h2,h3⟩
 .rw [h2,Yx h1];simp
 .have:=zS h1 e;rw[h3,h2];simp;omega
 .have:=zS h1 e;rw[h3,h2];simp;omega
def Ui(a b:Dy):jm a b=if a.jc<b.jc then -1 else if b.jc<a.jc then 1 else if a.jc=0 then 0 else a.jc*uc a b:=by
 unfold jm uc kI;generalize min a.e b.e=e;obtain⟨p1,p2,p3⟩:=Zz (d:=a) e;obtain⟨q1,q2,q3⟩:=Zz (d:=b) e;generalize a.num e=x at *
 generalize b.num e=y at *
 generalize a.jR e=x' at *
 generalize b.jR e=y' at *
 have ha:a.jc=0\/a.jc = -1\/a.jc=1:=by rcases JE a with⟨_,h⟩|⟨_,_,h⟩|⟨_,_,h⟩<;>simp[h]
 have hb:b.jc=0\/b.jc = -1\/b.jc=1:=by rcases JE b with⟨_,h⟩|⟨_,_,h⟩|⟨_,_,h⟩<;>simp[h]
 generalize a.jc=s at *
 generalize b.jc=t at *
 rcases ha with rfl|rfl|rfl<;>rcases hb with rfl|rfl|rfl<;>simp at p1 p2 p3 q1 q2 q3<;>(repeat' split)<;>omega
def mB(z:Int)(e:Int):Dy:=canon (decide (z<0)) z.natAbs e
def iM(a b:Dy):Dy:=
 if a.m=0 then b else if b.m=0 then a else mB (a.num (min a.e b.e)+b.num (min a.e b.e)) (min a.e b.e)
def jo(d:Dy):Dy:=⟨!d.neg&&decide (d.m≠0),d.m,d.e⟩
def LW{d:Dy}(h:d.mi):(jo d).mi:=by
 rcases h with⟨h1,h2,h3⟩|h
 .exact .inl ⟨h1,by simp[jo,h1],h3⟩
 .exact .inr h
def xD{d:Dy}(h:d.ig):(jo d).ig:=⟨LW h.canon,h.range⟩
def aoc(n:Bool)(m:Nat)(e:Int):(canon n m e).jc=if m=0 then 0 else if n then -1 else 1:=by
 unfold canon;by_cases h:m=0
 .simp [h,Dy.jc]
 .have:(canon n m e).m≠0:=by unfold canon;rw[aX h];have:=FU h;simp only;omega
  unfold canon at this;rw[aX h]at this ⊢;unfold Dy.jc;rw[aX this,aX h]
def aod(z e:Int):(mB z e).jc=if z<0 then -1 else if 0<z then 1 else 0:=by
 unfold mB;rw[aoc];by_cases h:z<0
 .rw [aX aC,aY h];simp[h]
 .rw [aX h];by_cases h0:0<z
  .rw [aX aC,aY h0];simp[h]
  .rw [aX h0,aY aC]
def Q0(d:Dy)(e:Int)(hd:d.m≠0):(jo d).num e = -(d.num e):=by
 unfold Dy.num jo Dy.jR;cases d.neg<;>simp[hd]
def ae1{a b:Dy}(ha:a.m≠0)(hb:b.m≠0):(iM a<|jo b).jc=jm a b:=by
 unfold iM;rw[aX ha,aX<|by simpa[jo]using hb,aod];have e1:(jo b).e=b.e:=rfl;rw[e1,Q0 _ _ hb];unfold jm;generalize a.num _=x;generalize b.num _=y
 repeat' split
 all_goals omega
def aoy{out:List Nat}{n c P Q:Nat}(ho:iQ out)(hlen:out.length=n)(h:val out+Q=P+4294967296^n*c)(hle:Q<=P):c=0/\val out=P-Q:=by
 have h1:=pk ho;rw[hlen]at h1;rcases c with _|c
 .exact ⟨rfl,aC⟩
 .exfalso;have:4294967296^n*1<=4294967296^n*(c+1):=cJ _ aC;omega
def adR{L:List Nat}(h:iQ L)(k:Nat)(hk:k/32<L.length):val L/2^k%2=L[k/32]/2^(k%32)%2:=by
 have e:k=32*(k/32)+k%32:= aC 
 conv=>lhs;rw[e,bj,<-dE,<-uP,<-JO h,fw hk,s9]
 have hs:k%32<32:=bJ _ aE;have e2:(4294967296:Nat)=2^(k%32)*(2*2^(31-k%32)):=by
  rw[<-Nat.pow_succ',<-bj,(aC:k%32+(31-k%32).succ=32)]
 conv=>lhs;rw[e2,bB,fp _ _<|bn aE,bB,eD]
def adO{n k:Nat}(h:n≠0)(hk:k<jU n):n/2^k%2=0:=by
 obtain⟨m,hm,he⟩:=C8 h;generalize jU n=c at *
 rw[he,(aC:c=k+(c-k)),bj,<-bB,gO,dY _<|bn aE,(aC:c-k=(c-k-1)+1),bF,<-bB,gn]
def adN{n:Nat}(h:n≠0):n/2^jU n%2=1:=FU h
def GZ{L:List Nat}(h:iQ L)(h0:val L≠0):jU (val L)/32<L.length:=by
 have h1:=Jo h0;have h2:=pk h;rw[uP]at h2;have h3:2^jU (val L)<2^(32*L.length):=ck h1 h2;have:=(arw (aE:1<2)).1 h3;omega
end Go.Proofs.YtjkmahljfblobaaGreatDoor.Fp
namespace Go.Proofs.YtjkmahljfblobaaGreatDoor
open Go.RowKit Fp
structure Sl(w:World)(A:Option Addr)(c:Nat)(L:List Nat):Prop where
 cap:L.length<=c
 rS:c<=9223372036854775807
 ok:iQ L
 z8:A=none->c=0
 cell:∀ (i x:Nat),L[i]? = some x->∃ b o,A=some ⟨b,o,none⟩/\b<w.heap.size/\w.cell? ⟨b,o+i,none⟩=some (.int .u32 (x:Int))
def adY(a:Addr)(n:Nat):(a.add n).block=a.block:=by unfold Addr.add;split<;>rfl
section
variable {w w':World} {A:Option Addr} {c:Nat} {L:List Nat}
def Sl.mE(h:Sl w A c L){i:Nat}(hi:i<L.length):∃ b o,A=some ⟨b,o,none⟩/\b<w.heap.size/\w.cell? ⟨b,o+i,none⟩=some (.int .u32 (L[i]:Int)):=
 h.cell i _ (bk hi)
def Sl.nil(w:World):Sl w none 0 []:=⟨a7 _,aE,iQ.nil,λ_=>rfl,λi x h=>by simp at h⟩
def Sl.below(h:Sl w A c L)(hb:Below w.heap.size w w'):Sl w' A c L:=
 ⟨h.cap,h.rS,h.ok,h.z8,λi x hx=>by
  obtain⟨b,o,e,h1,h2⟩:=h.cell i x hx;exact⟨b,o,e,bM h1 hb.size,(hb.cell h1).trans h2⟩⟩
def Sl.alloc(h:Sl w A c L)(o:Obj):Sl (w.alloc o) A c L:=h.below<|(Below.refl _ _).alloc (a7 _) _
def Sl.drew(h:Sl w A c L):Sl w.drew A c L:=h.below<|(Below.refl _ _).drew
def Sl.take(h:Sl w A c L)(n:Nat):Sl w A c<|L.take n:=
 ⟨by have:=h.cap;rw[cB];omega,h.rS,h.ok.take n,h.z8,λi x hx=>h.cell i x (by
  rw[dF]at hx;split at hx
  .exact hx
  .cases hx)⟩
def Sl.len(h:Sl w A c L):L.length<=9223372036854775807:=bg h.cap h.rS
def Sl.eqv{L':List Nat}(h:Sl w A c L)(e:L=L'):Sl w A c L':=e▸h
end
def CZ(b o i:Nat):(⟨b,o,none⟩:Addr).add i=⟨b,o+i,none⟩:=by
 unfold Addr.add;split
 .rename_i h0;rw[h0];rfl
 .simp
abbrev iZ(w w':World):Prop:=Below w.heap.size w w'
def iZ.trans{a b c:World}(h:iZ a b)(k:iZ b c):iZ a c:=Below.trans h<|k.mono h.size
def iZ.alloc(w:World)(o:Obj):iZ w<|w.alloc o:=(Below.refl _ _).alloc (a7 _) _
def iZ.drew(w:World):iZ w w.drew:=(Below.refl _ _).drew
def iZ.refl(w:World):iZ w w:=Below.refl _ _
def Mt{A:Option Addr}{n m c:Nat}(h:n=m):Ending.returned (.slice A n c) = .returned (.slice A m c):=by rw[h]
def rf{k:IntKind}{a b:Int}(h:a=b):Ending.returned (.int k a) = .returned (.int k b):=by rw[h]
def aao{a b:Bool}(h:a=b):Ending.returned (.bool a) = .returned (.bool b):=by rw[h]
def y4(w:World)(L:List Nat)(e:Ending)(w':World):Prop:=∃ A c,e = .returned (.slice A L.length c)/\Sl w' A c L/\iZ w w'
def EJ(w:World)(L:List Nat)(n:Int)(e:Ending)(w':World):Prop:=∃ A c,e = .returned (.tuple #[.slice A L.length c,.int .i64 n])/\Sl w' A c L/\iZ w w'
def Tb(w:World):Prop:=TabAt 0 Lib.deBruijn32tab w
def Tb.below{w w':World}(h:Tb w)(hb:iZ w w'):Tb w':=λj hj=>by
 have h1:=h j hj;rw[hb.cell<|block_lt_of_cell h1];exact h1
def Tb.alloc{w:World}(h:Tb w)(o:Obj):Tb<|w.alloc o:=h.below<|iZ.alloc _ _
def adM(x:Nat)(h:x<4294967296):Lib.bitLen x=iq x:=by
 induction x using Nat.strongRecOn with
 |_ x ih=>
  by_cases h0:x=0
  .subst h0;rfl
  .rw [Lib.bitLen_half x h0 aC,ih (x/2) aC aC];by_cases h1:x/2=0
   .have:x=1:= aC ;subst this;rfl
   .have e1:=tV h1;have e2:=sc<|x/2;have e3:=oV h1;generalize iq (x/2)=k at *
    obtain⟨j,rfl⟩:∃ j,k=j+1:=⟨k-1,aC⟩
    rw[eE]at e1;rw[Nat.add_comm];refine(AB ?_ ?_).symm
    .rw [bF];omega
    .rw [bF];omega
def afg(x:Nat)(h0:x≠0)(h:x<4294967296):Lib.ctz 32 x=jU x:=by
 unfold Lib.ctz;rw[aX h0];obtain⟨m,hm,_⟩:=Lib.ctzFrom_spec 32 x aC h
 conv=>rhs;rw[hm,bI]
 exact(AG aC _).symm
def oQ(L:List Nat):List Value:=L.map λ(n:Nat)=>Value.int .u32 (n:Int)
def apr{L:List Nat}{j:Nat}{u:Value}(h:(oQ L)[j]? = some u):∃ n,L[j]? = some n/\u = .int .u32 (n:Int):=by
 unfold oQ at h;rw[ch]at h;obtain⟨n,hn,rfl⟩:=bU.1 h;exact⟨n,hn,rfl⟩
def apq(L M:List Nat):oQ (L++M)=oQ L++oQ M:=aq4
def aps(L:List Nat):∀ u ∈ oQ L,u.oneCell'=true:=by
 intro u hu;obtain⟨n,_,rfl⟩:=cC.1 hu;rfl
structure Ow(w:World)(base:Nat)(v:Value)(L:List Nat):Prop where
 row:w.ownsRow base 95 1 v L.length<|oQ L
 ok:iQ L
def Ow.sl{w:World}{base:Nat}{v:Value}{L:List Nat}(h:Ow w base v L):∃ A c,v = .slice A L.length c/\Sl w A c L:=by
 have hr:=h.row;rcases hr.2 with⟨rfl,h0⟩|⟨g,cap,cur,rfl,hb,hg,qC,pF,nO,PT⟩
 .have:L=[]:=dw h0;subst this;exact⟨none,0,rfl,Sl.nil w⟩
 .refine ⟨_,_,rfl,qC,(by simpa[maxLen]using pF),h.ok,(λh=>by cases h),λi x hx=>⟨_,_,rfl,(c9.1 hg).1,?_⟩⟩;have h:=hr.cells (g:=g) rfl i (.int .u32 (x:Int)) (by unfold oQ;rw[ch,hx];rfl);rw[CZ]at h;exact h
def Ow.nil(w:World)(base:Nat):Ow w base (.slice none 0 0) []:=⟨World.ownsRow_nil w base _ _,iQ.nil⟩
def Ow.alloc{w:World}{base:Nat}{v:Value}{L:List Nat}(h:Ow w base v L)(o:Obj):Ow (w.alloc o) base v L:=⟨h.row.alloc o,h.ok⟩
def Ow.empty(w:World)(base:Nat)(hb:base<=w.heap.size):Ow (w.alloc<|.cells #[] 95) base (.slice (some ⟨w.heap.size,0,none⟩) 0 0) []:=
 ⟨World.ownsRow_made w #[] 0 hb aE rfl,iQ.nil⟩
def yF{w:World}{n:Nat}(h:n<=w.heap.size)(o:Obj):n<=(w.alloc o).heap.size:= aN 
def Sl.one(w:World)(x:Nat)(hx:x<4294967296):Sl (w.alloc<|.cells #[.int .u32 x] 95) (some ⟨w.heap.size,0,none⟩) 1 [x]:=
 ⟨a7 _,aE,iQ.cons hx iQ.nil,(λh=>by cases h),λi y hy=>by
  obtain⟨h1,h2⟩:=ca.1 hy;obtain rfl:i=0:=by simp at h1;omega
  simp at h2;subst h2;refine⟨_,_,rfl,aH,?_⟩;exact World.cell?_alloc_at _ _ _ _ rfl⟩
def Sl.FY(w:World)(y:Int)(x:Nat)(e:y=(x:Int))(hx:x<4294967296):Sl (w.alloc<|.cells #[.int .u32 y] 95) (some ⟨w.heap.size,0,none⟩) 1 [x]:=by
 subst e;exact Sl.one w x hx
def P8:(prog.info? 95).map (λi=>(i.zero,i.size,i.bytes))=some (some<|.int .u32 0,1,4):= aF 
def BI{ij:Array Oper}{rest:List Oper}{o:Oper}{a:Act}{Q:Exit->Act->World->Prop}{w:World}(Dv:o.guard=none)(s x:Operand)
 (ho:o.op = .call { callee:=.builtin .append,args:=#[s,x],argTypes:=#[35,35] })
 (base:Nat) (v:Value) (L:List Nat) (hs:a.eval s=v) (lq:Ow w base v L)
 (A:Option Addr) (m c:Nat) (M:List Nat) (hx:a.eval x = .slice A m c) (hm:m=M.length) (hr:Sl w A c M)
 (mP:L.length+M.length<=10000000000) (aiG:base<=w.heap.size)
 (h:∀ v' w',Ow w' base v' (L++M)->w.grownBy w' v.ownBlock->(v'.ownBlock=v.ownBlock\/v'.ownBlock=some w.heap.size)->wpList prog ij Q rest (a.put o.dst v') w'):
 wpList prog ij Q (o::rest) a w:=by
 obtain⟨i,hi,hz,h1,h2⟩:=info_parts P8;subst hm;rcases A with _|ad
 .have hc:=hr.z8 rfl;subst hc;have hM:M=[]:=dw (by have:=hr.cap;omega);subst hM;refine wpList_append_own_none Dv s x _ ho base _ i 1 underlying35 hi v _ _ hs lq.row hx ?_;have:=h v w (by rw[List.append_nil];exact lq) ⟨rfl,rfl,rfl,a7 _,λ_ _ _=>rfl⟩<|.inl rfl;exact this
 .refine wpList_append_own_at w Dv s x _ ho base _ i _ 1 4 underlying35 hi hz h1 h2 rfl aE v L.length (oQ L) hs lq.row ad M.length c (oQ M) hx (by simp[oQ]) ?_ (aps M)
   (by simp only[maxLen];omega) aC aiG ?_
  .intro j u hu;obtain⟨n,hn,rfl⟩:=apr hu;obtain⟨b,o,e,_,hc⟩:=hr.cell j n hn;cases e;rw[CZ];exact hc
  .intro v' w' ai6 hg _ tw;exact h v' w' ⟨by rw[cK,apq];exact ai6,lq.ok.append hr.ok⟩ hg tw
def Rw(w:World)(b:Nat)(L:List Nat):Prop:=w.heap[b]? = some (.cells (oQ L).toArray 95 (0,0))
section
variable {w w':World} {b:Nat} {L:List Nat}
def Rw.lt(h:Rw w b L):b<w.heap.size:=(c9.1 h).1
def Rw.cell(h:Rw w b L){i x:Nat}(hx:L[i]? = some x):w.cell? ⟨b,i,none⟩=some (.int .u32 (x:Int)):=by
 unfold Rw at h;simp only[World.cell?,h];simp[oQ,hx]
def Rw.frozen(h:Rw w b L)(i:Nat):w.frozen? ⟨b,i,none⟩=false:=by
 unfold Rw at h;simp[World.frozen?,h]
def Rw.set(h:Rw w b L)(i x:Nat):Rw (w.setCell ⟨b,i,none⟩<|.int .u32 (x:Int)) b<|L.set i x:=by
 unfold Rw at h ⊢;simp only[World.setCell,cV,h];simp[oQ,List.map_set]
def Rw.sl(h:Rw w b L)(hk:iQ L)(hl:L.length<=10000000000):Sl w (some ⟨b,0,none⟩) L.length L:=
 ⟨a7 _,aC,hk,(λh=>by cases h),λi x hx=>⟨_,_,rfl,h.lt,by
  rw[bZ];exact h.cell hx⟩⟩
def Rw.Cx(w:World)(n:Nat):Rw (w.alloc<|.cells (oQ<|List.replicate n 0).toArray 95) w.heap.size<|List.replicate n 0:=heap_alloc_new w _
end
def acI(b i:Nat):(⟨b,0,none⟩:Addr).add i=⟨b,i,none⟩:=by
 unfold Addr.add;split
 .rename_i h0;rw[h0]
 .simp
def IV(n:Nat)(hn:n<=10000000000)(w:World):
 (Instr.makeSlice 35 (.int .i64 (n:Int))<|.int .i64 (n:Int)).run prog w = .ok (.slice (some ⟨w.heap.size,0,none⟩) n n) (w.alloc<|.cells (oQ<|List.replicate n 0).toArray 95):=by
 obtain⟨i,hi,hz,h1,h2⟩:=info_parts P8;have hr:=run_make (P:=prog) w 35 95 i _ underlying35 hi hz .i64 .i64 n n aC aC (by rw[h2];omega) aC;rw[hr,fz,h1,b6];refine congrArg (λcs=>Result.ok (Value.slice (some ⟨w.heap.size,0,none⟩) n n)<|w.alloc<|.cells cs 95) ?_;apply Array.ext
 .simp [madeCells,oQ]
 .intro i h1 h2;simp[madeCells,oQ,Value.cells,dZ]
def At(w:World)(d:Dy)(e:Ending)(w':World):Prop:=
 ∃ A c,e = .returned (.agg #[.bool d.neg,.slice A (ib d.m).length c,.int .i64 d.e])/\Sl w' A c (ib d.m)/\iZ w w'
def Au(w:World)(d:Dy)(n:Int)(e:Ending)(w':World):Prop:=
 ∃ A c,e = .returned (.tuple #[.agg #[.bool d.neg,.slice A (ib d.m).length c,.int .i64 d.e],.int .i64 n])/\Sl w' A c (ib d.m)/\iZ w w'
def Ar(w:World)(g:Nat):Prop:=∀ o x,w.cell? ⟨g,o,none⟩≠some (.int .u32 x)
def Sl.Di{w:World}{A:Option Addr}{c:Nat}{L:List Nat}(h:Sl w A c L){g i:Nat}(hg:Ar w g)(u:Value):Sl (w.setCell ⟨g,i,none⟩ u) A c L:=
 ⟨h.cap,h.rS,h.ok,h.z8,λj x hx=>by
  obtain⟨b,o,e,h1,h2⟩:=h.cell j x hx;refine⟨b,o,e,by simpa[World.setCell]using h1,?_⟩;rw[World.cell?_setCell_other w _ _ u]
  .exact h2
  .intro e';simp only[Addr.mk.injEq]at e';exact hg (o+j) x<|by rw[e'.1];exact h2⟩
def Ar.FV{w:World}{g:Nat}{cs:Array Value}{t:TypeId}{fr:Nat×Nat}(h:w.heap[g]? = some (.cells cs t fr))(hc:∀ (i:Nat) (x:Int),cs[i]? ≠ some (.int .u32 x)):Ar w g:=λo x e=>by
 simp only[World.cell?,h]at e;simp at e;exact hc o x<|by simpa using e
def jQ(w:World)(g:Nat)(s:Bool)(A:Option Addr)(n c:Nat)(e:Int):Prop:=w.heap[g]? = some (.cells #[.bool s,.slice A n c,.int .i64 e] 37 (0,0))
section
variable {w w':World} {g n c:Nat} {s:Bool} {A:Option Addr} {e:Int}
def jQ.new(W:World)(s:Bool)(A:Option Addr)(n c:Nat)(e:Int):jQ (W.alloc<|.cells #[.bool s,.slice A n c,.int .i64 e] 37) W.heap.size s A n c e:=heap_alloc_new W _
def jQ.zY{W:World}{g:Nat}(hg:W.heap.size=g)(s:Bool)(A:Option Addr)(n c:Nat)(e:Int):jQ (W.alloc<|.cells #[.bool s,.slice A n c,.int .i64 e] 37) g s A n c e:=hg▸heap_alloc_new W _
def jQ.lt(h:jQ w g s A n c e):g<w.heap.size:=(c9.1 h).1
def jQ.ext(h:jQ w g s A n c e)(hb:iZ w w'):jQ w' g s A n c e:=(hb.block g h.lt).trans h
def jQ.alloc(h:jQ w g s A n c e)(o:Obj):jQ (w.alloc o) g s A n c e:=h.ext<|iZ.alloc _ _
def jQ.drew(h:jQ w g s A n c e):jQ w.drew g s A n c e:=h
section
variable(h:jQ w g s A n c e)
def jQ.lY:Ar w g:=Ar.FV h (λi x=>by rcases i with _|_|_|i<;>simp)
def jQ.c0:w.cell? ⟨g,0,none⟩=some (.bool s):=by unfold jQ at h;simp[World.cell?,h]
def jQ.c1:w.cell? ⟨g,1,none⟩=some (.slice A n c):=by unfold jQ at h;simp[World.cell?,h]
def jQ.c2:w.cell? ⟨g,2,none⟩=some (.int .i64 e):=by unfold jQ at h;simp[World.cell?,h]
def jQ.fr(i:Nat):w.frozen? ⟨g,i,none⟩=false:=by unfold jQ at h;simp[World.frozen?,h]
def jQ.set(s':Bool)(A':Option Addr)(n' c':Nat)(e':Int):
 jQ (((w.setCell ⟨g,0,none⟩<|.bool s').setCell ⟨g,1,none⟩<|.slice A' n' c').setCell ⟨g,2,none⟩<|.int .i64 e') g s' A' n' c' e':=by
 have h1:=heap_setCell_same w g 0 _ _ (.bool s') h;have h2:=heap_setCell_same _ g 1 _ _ (.slice A' n' c') h1;have h3:=heap_setCell_same _ g 2 _ _ (.int .i64 e') h2;exact h3
end
def jQ.wG{L:List Nat}{A':Option Addr}{c':Nat}(h:jQ w g s A n c e)(hs:Sl w A' c' L)(s':Bool)(e':Int)(n' c2:Nat)(A2:Option Addr):
 Sl (((w.setCell ⟨g,0,none⟩<|.bool s').setCell ⟨g,1,none⟩<|.slice A2 n' c2).setCell ⟨g,2,none⟩<|.int .i64 e') A' c' L:=by
 have h1:=heap_setCell_same w g 0 _ _ (.bool s') h;have h2:=heap_setCell_same _ g 1 _ _ (.slice A2 n' c2) h1;have k1:Ar (w.setCell ⟨g,0,none⟩<|.bool s') g:=Ar.FV h1 (λi x=>by rcases i with _|_|_|i<;>simp);have k2:Ar ((w.setCell ⟨g,0,none⟩<|.bool s').setCell ⟨g,1,none⟩<|.slice A2 n' c2) g:=Ar.FV h2 (λi x=>by rcases i with _|_|_|i<;>simp);exact((hs.Di h.lY _).Di k1 _).Di k2 _
def jQ.vF{w0:World}(hb:iZ w0 w)(hg:w0.heap.size<=g)(s':Bool)(A':Option Addr)(n' c':Nat)(e':Int):
 iZ w0 (((w.setCell ⟨g,0,none⟩<|.bool s').setCell ⟨g,1,none⟩<|.slice A' n' c').setCell ⟨g,2,none⟩<|.int .i64 e'):=
 ((hb.setCell hg _).setCell hg _).setCell hg _
end
def UY:(prog.info? 37).map (·.size)=some 3:= aF 
section
variable{fn:Func}
def ana{p:Tmp}(h:fn.results = #[.cell p 37])(tmps:Array Value){w:World}{g n c:Nat}{s:Bool}{A:Option Addr}{e:Int}
 (hp:tmps.getD p undef = .pointer (some ⟨g,0,none⟩)) (hb:jQ w g s A n c e):
 (results fn tmps).run prog w = .ok (.agg #[.bool s,.slice A n c,.int .i64 e]) w:=
 results_cell_row h tmps w g _ _ _ _ hp hb underlying37 rfl UY
def anb{p t:Tmp}(h:fn.results = #[.cell p 37,.tmp t])(tmps:Array Value){w:World}{g n c:Nat}{s:Bool}{A:Option Addr}{e:Int}
 (hp:tmps.getD p undef = .pointer (some ⟨g,0,none⟩)) (hb:jQ w g s A n c e):
 (results fn tmps).run prog w = .ok (.tuple #[.agg #[.bool s,.slice A n c,.int .i64 e],tmps.getD t undef]) w:=by
 have zw:tmps[p]?.getD undef = .pointer (some ⟨g,0,none⟩):=by simpa using hp
 simp[results,h,zw,asAddr,run_loadVar_row w g _ _ _ _ _ hb underlying37 rfl UY]
def AI{p:Tmp}(h:fn.results = #[.cell p 37]){a:Act}{w W:World}{d:Dy}{g:Nat}{A:Option Addr}{c n:Nat}
 (hp:a.tmps.getD p undef = .pointer (some ⟨g,0,none⟩)) (hd:a.defers=[]) (hb:jQ W g d.neg A n c d.e) (hn:n=(ib d.m).length) (hs:Sl W A c<|ib d.m) (he:iZ w W):
 bodyPost prog fn (At w d) .ret a W:=by
 subst hn;exact bodyPost_ret (ana h _ hp hb) hd ⟨A,c,rfl,hs,he⟩
def E5{p t:Tmp}(h:fn.results = #[.cell p 37,.tmp t]){a:Act}{w W:World}{d:Dy}{k:Int}{g:Nat}{A:Option Addr}{c n:Nat}
 (hp:a.tmps.getD p undef = .pointer (some ⟨g,0,none⟩)) (ht:a.tmps.getD t undef = .int .i64 k) (hd:a.defers=[]) (hb:jQ W g d.neg A n c d.e) (hn:n=(ib d.m).length) (hs:Sl W A c<|ib d.m) (he:iZ w W):
 bodyPost prog fn (Au w d k) .ret a W:=by
 subst hn;exact bodyPost_ret ((anb h _ hp hb).trans<|by rw[ht]) hd ⟨A,c,rfl,hs,he⟩
end
open Go.ChangeShapes Go.WideShapes Go.ChangeAt
def own:ownKnob prog.godebug=none:= aF 
def LK:laidOutB prog=true:= aF 
def VT:prog.globalNamed "math/bits.deBruijn32tab" = some 0:= aF 
def ahG:(prog.globals[0]?).map (·.type)=some 244:= aF 
def aeV:prog.cellsOf 244=32:= aF 
def aeU:prog.cellsOf 5=1:= aF 
def aeT:prog.cellsOf 95=1:= aF 
def ao6 {l:List<|String×DataW Unit} (hl:l=[("math/bits.deBruijn32tab", Rows.laid_math_bits_deBruijn32tab)]) {W:World} (h:laidMet prog l W):Tb W:=by
 subst hl;have ht:Lib.TabIs prog W "math/bits.deBruijn32tab" .u8<|Lib.deBruijn32tab.map λ(n:Nat)=>(n:Int):=
  Lib.tabIs_of_head (rest:=[]) VT ahG underlying244 underlying5 aeU aeV h
 intro j hj;have:=ht.cell VT j (by simpa using hj);rw[this];simp[bc];rw[bk hj];simp
def aji{n:Int}(h:(Lit.int .i64 n).wf=true):-9223372036854775808<=n/\n<=9223372036854775807:=by
 have h1:IntKind.i64.min = -9223372036854775808:=rfl;have h2:IntKind.i64.max=9223372036854775807:=rfl;simp[Lit.wf,h1,h2]at h;omega
def alP{H:Type}{enc:TypeId×Value->H}{W:World}{fuel:Nat}{c:Value}{x:DataW H×List MemPlace}
 (h:DataW.trod enc prog W 0 (λ_=>true) true fuel 35 [c]=some x) (_hlt:∀ p ∈ x.2,p.block<W.heap.size):
 ∃ A L cap,c = .slice A L.length cap/\Sl W A cap L:=by
 rcases open_ints underlying35 underlying95 aeT h with⟨nO,hx⟩|⟨a,len,cap,zs,nO,_,hl,hm,hz,hx,kr,hwz⟩
 .simp at nO;exact⟨none,[],0,nO,Sl.nil W⟩
 .simp at nO;simp only[bA]at hz;refine⟨some a,(zs.take len).map Int.toNat,cap,?_,?_⟩
  .rw [nO,cv,cB,df aC]
  .have Xr:∀ n ∈ zs,0<=n/\n<4294967296:=λn hn=>by
    have:=hwz n hn;have h1:IntKind.u32.min=0:=rfl;have h2:IntKind.u32.max=4294967295:=rfl;simp[Lit.wf,h1,h2]at this;omega
   refine⟨by rw[cv,cB];omega,by simpa[maxLen]using hm,?_,(λh=>by cases h),?_⟩
   .intro y hy;obtain⟨z,zE,rfl⟩:=cC.1 hy;have:=Xr z<|dM zE;omega
   .intro i y hy;rw[ch]at hy;obtain⟨z,zE,rfl⟩:=bU.1 hy;rw[dF]at zE;split at zE
    .rename_i hi;have hc:=kr i aC;rw[bc,zE]at hc;obtain⟨b,off,spot⟩:=a;have hsp:spot=none:=by
      rcases spot with _|q
      .rfl
      .exfalso;have nN:=kr 0 aC;rw[show(⟨b,off,some q⟩:Addr).add 0=⟨b,off,some q⟩from rfl]at nN;unfold World.cell? at nN;split at nN<;>simp at nN
     subst hsp;refine⟨b,off,rfl,?_,?_⟩
     .have:=block_lt_of_cell hc;rwa[adY]at this
     .rw [CZ]at hc;rw[hc];have:=Xr z<|dO zE;simp;omega
    .cases zE
def Ym{α:Type}{l:List α}(h:l.length=3):∃ a b c,l=[a,b,c]:=by
 match l,h with
 | [a,b,c],_=>exact⟨a,b,c,rfl⟩
def aks{α:Type}{l:List α}(h:l.length=7):∃ a b c d e f g,l=[a,b,c,d,e,f,g]:=by
 match l,h with
 | [a,b,c,d,e,f,g],_=>exact⟨a,b,c,d,e,f,g,rfl⟩
def alN{H:Type}{enc:TypeId×Value->H}{W:World}{fuel:Nat}{cs:List Value}{x:DataW H×List MemPlace}
 (h:DataW.trod enc prog W 0 (λ_=>true) true fuel 37 cs=some x) (iE:∀ p ∈ x.2,p.block<W.heap.size):
 ∃ s A L cap e,cs=[.bool s,.slice A L.length cap,.int .i64 e]/\Sl W A cap L/\(-9223372036854775808<=e/\e<=9223372036854775807):=by
 obtain⟨xs,n,rfl,rfl,hl,nF,hf⟩:=DataW.trod_struct underlying37 h;have hC:prog.cellsOf 37=3:= aF ;have hB:prog.cellsOf 4=1:= aF ;have hS:prog.cellsOf 35=1:= aF ;have hI:prog.cellsOf 3=1:= aF ;rw[hC]at hl;obtain⟨a,b,c,rfl⟩:=Ym hl;have h0:=hf 0 _ rfl;have h1:=hf 1 _ rfl;have h2:=hf 2 _ rfl;simp only[fA,fB,eF]at h0 h1 h2;simp only[hB,hS,hI,fC,fD,eW,fE]at h0 h1 h2;rw[bk<|by rw[nF];decide]at h0 h1 h2;obtain⟨s,hs,_⟩:=DataW.trod_bool underlying4 h0;obtain⟨A,L,cap,hc,xq⟩:=alP h1 λp hp=>iE p<|dG.2 ⟨_,b9 _,hp⟩;obtain⟨e,he,_,hw⟩:=DataW.trod_int underlying3 h2;simp at hs he;subst hs he hc;exact⟨s,A,L,cap,e,rfl,xq,aji hw⟩
noncomputable def Qk(os:Os)(args:Array Value):World:=
 {World.holding prog os ⟨#[],args,[]⟩with heap:=(World.holding prog os ⟨#[],args,[]⟩).heap.modify 0 fun
   | .cells _ t frozen=>.cells (Lib.deBruijn32tab.map λ(n:Nat)=>Value.int .u8 (n:Int)).toArray t frozen
   |o=>o }
end Go.Proofs.YtjkmahljfblobaaGreatDoor
namespace Go.Proofs.YtjkmahljfblobaaGreatDoor.Pu
open Go.RowKit
inductive E where
 |any
 |v (x:Value)
 |agg (l:List E)
 |ix (l:List E)
 |sl (nl:Bool) (n sz:Nat) (el:Nat->Nat->E)
 |ji (m:Nat) (el:Nat->E)
 |fn (f:FuncId) (cap:List E)
 |mp (l:List<|Int×FuncId×List FuncId)
 |oW (fl nl:Bool) (n sz:Nat) (el:Nat->Nat->E)
def pU:Value->Bool
 | .int .u32 _=>true
 |_=>false
def E.nr:Nat->E->Bool
 |_,.any=>true
 |_,.v _=>true
 |_,.sl ..=>true
 |_,.mp _=>true
 |d+1,.agg l=>l.all<|E.nr d
 |d+1,.ix l=>l.all<|E.nr d
 |d+1,.fn _ l=>l.all<|E.nr d
 |_,_=>false
def CU(bs:Nat->Prop)(w:World):List (Int×FuncId×List FuncId)->List MapEntry->Prop
 | [],[]=>True
 |x::l,e::es=>(e.key = .int .i64 x.1/\∃ vs:List Value,e.val = .func (.func x.2.1) #[] vs.toArray/\vs.length=x.2.2.length /\
  ∀ (i:Nat) (g:FuncId) (v:Value),x.2.2[i]? = some g->vs[i]? = some v->∃ b,v = .pointer (some ⟨b,0,none⟩)/\¬bs b/\b<w.heap.size/\w.cell? ⟨b,0,none⟩=some (.func (.func g) #[] #[]))/\CU bs w l es
 |_,_=>False
def CU.mono{bs bs':Nat->Prop}{w w':World}(mP:w.heap.size<=w'.heap.size)(h1:∀ b,b<w.heap.size->bs' b->bs b)(hc:∀ b,b<w.heap.size->¬bs b->w'.heap[b]? = w.heap[b]?):
 ∀ {l:List<|Int×FuncId×List FuncId} {es:List MapEntry},CU bs w l es->CU bs' w' l es
 | [],[],_=>trivial
 | [],_::_,h=>h
 |_::_,[],h=>h
 |_::_,_::_,⟨⟨k1,vs,k2,k3,k4⟩,h⟩=>⟨⟨k1,vs,k2,k3,λi g v hg hv=>by
  obtain⟨b,q1,q2,q3,q4⟩:=k4 i g v hg hv;exact⟨b,q1,λx=>q2<|h1 b q3 x,bM q3 mP,by rw[World.cell?_of_block (w:=w)<|hc b q3 q2];exact q4⟩⟩,CU.mono mP h1 hc h⟩
inductive iI(bs br:Nat->Prop)(w:World):E->Value->Prop
 |any (x:Value):iI bs br w .any x
 |v (x:Value):iI bs br w (.v x) x
 |agg (l:List E) (vs:List Value) (h:vs.length=l.length) (k:∀ (i:Nat) (p:E) (x:Value),l[i]? = some p->vs[i]? = some x->iI bs br w p x):iI bs br w (.agg l)<|.agg vs.toArray
 |ix (l:List E) (vs:List Value) (h:vs.length=l.length) (k:∀ (i:Nat) (p:E) (x:Value),l[i]? = some p->vs[i]? = some x->iI bs br w p x):iI bs br w (.ix l)<|.tuple vs.toArray
 |sl (nl:Bool) (n sz:Nat) (el:Nat->Nat->E) (A:Option Addr) (c:Nat) (f:Nat->Nat->Value) (hc:n<=c) (hm:c<=9223372036854775807) (h0:A=none->c=0)
  (hl:∀ i j,i<n->j<sz->(f i j).oneCell'=true/\(nl=true->pU (f i j)=false))
  (hr:∀ i j,i<n->j<sz->(el i j).nr 2=true)
  (cell:∀ i j,i<n->j<sz->∃ b o,A=some ⟨b,o,none⟩/\¬bs b/\b<w.heap.size/\w.cell? ⟨b,o+(i*sz+j),none⟩=some (f i j))
  (k:∀ i j,i<n->j<sz->iI bs br w (el i j) (f i j)):iI bs br w (.sl nl n sz el)<|.slice A n c
 |ji (m:Nat) (el:Nat->E) (b o:Nat) (f:Nat->Value) (hb:¬br b) (iE:b<w.heap.size) (hl:∀ j,j<m->(f j).oneCell'=true)
  (cell:∀ j,j<m->w.cell? ⟨b,o+j,none⟩=some (f j))
  (k:∀ j,j<m->iI bs br w (el j) (f j)):iI bs br w (.ji m el)<|.pointer<|some ⟨b,o,none⟩
 |fn (f:FuncId) (l:List E) (vs:List Value) (h:vs.length=l.length) (k:∀ (i:Nat) (p:E) (x:Value),l[i]? = some p->vs[i]? = some x->iI bs br w p x):iI bs br w (.fn f l)<|.func (.func f) #[] vs.toArray
 |mp (l:List<|Int×FuncId×List FuncId) (b clk:Nat) (es:Array MapEntry) (hb:¬bs b) (iE:b<w.heap.size) (hh:w.heap[b]? = some (.map es clk)) (ho:CU bs w l es.toList):iI bs br w (.mp l)<|.map<|some b
 |oW (fl nl:Bool) (n sz:Nat) (el:Nat->Nat->E) (A:Option Addr) (c:Nat) (f:Nat->Nat->Value) (hc:n<=c) (hm:c<=9223372036854775807) (h0:A=none->c=0)
  (hl:∀ i j,i<n->j<sz->(f i j).oneCell'=true/\(nl=true->pU (f i j)=false))
  (hr:fl=true->∀ i j,i<n->j<sz->(el i j).nr 2=true)
  (cell:∀ i j,i<n->j<sz->∃ b o,A=some ⟨b,o,none⟩/\¬br b/\b<w.heap.size/\w.cell? ⟨b,o+(i*sz+j),none⟩=some (f i j))
  (k:∀ i j,i<n->j<sz->iI bs br w (el i j) (f i j)):iI bs br w (.oW fl nl n sz el)<|.slice A n c
def iI.mono{bs br bs' br':Nat->Prop}{w w':World}(mP:w.heap.size<=w'.heap.size)
 (h1:∀ b,b<w.heap.size->bs' b->bs b) (h2:∀ b,b<w.heap.size->br' b->br b)
 (hc:∀ b,b<w.heap.size->(¬bs b\/¬br b)->w'.heap[b]? = w.heap[b]?)
 {e:E} {v:Value} (h:iI bs br w e v):iI bs' br' w' e v:=by
 induction h with
 |any x=>exact .any x
 |v x=>exact .v x
 |agg l vs h k ih=>exact .agg l vs h ih
 |ix l vs h k ih=>exact .ix l vs h ih
 |sl nl n sz el A c f hn hm h0 hl hr cell k ih=>
  refine .sl nl n sz el A c f hn hm h0 hl hr (λi j hi hj=>?_) ih;obtain⟨b,o,e,hb,iE,kr⟩:=cell i j hi hj;exact⟨b,o,e,λhx=>hb<|h1 b iE hx,bM iE mP,by rw[World.cell?_of_block (w:=w)<|hc b iE<|.inl hb];exact kr⟩
 |ji m el b o f hb iE hl cell k ih=>
  exact .ji m el b o f (λhx=>hb<|h2 b iE hx) (bM iE mP) hl (λj hj=>by rw[World.cell?_of_block (w:=w)<|hc b iE<|.inr hb];exact cell j hj) ih
 |fn f l vs h k ih=>exact .fn f l vs h ih
 |mp l b clk es hb iE hh ho=>exact .mp l b clk es (λx=>hb<|h1 b iE x) (bM iE mP) (by rw[hc b iE<|.inl hb];exact hh)<|ho.mono mP h1 λb iE hb=>hc b iE<|.inl hb
 |oW fl nl n sz el A c f hn hm h0 hl hr cell k ih=>
  refine .oW fl nl n sz el A c f hn hm h0 hl hr (λi j hi hj=>?_) ih;obtain⟨b,o,e,hb,iE,kr⟩:=cell i j hi hj;exact⟨b,o,e,λhx=>hb<|h2 b iE hx,bM iE mP,by rw[World.cell?_of_block (w:=w)<|hc b iE<|.inr hb];exact kr⟩
def iI.pn{bs br bs' br':Nat->Prop}{w:World}(h1:∀ b,bs' b->bs b)(h2:∀ b,br' b->br b){e:E}{v:Value}(h:iI bs br w e v):iI bs' br' w e v:=
 h.mono (a7 _) (λb _=>h1 b) (λb _=>h2 b) (λ_ _ _=>rfl)
def E.plain:Nat->E->Bool
 |_,.any=>true
 |_,.v _=>true
 |d+1,.agg l=>l.all<|E.plain d
 |d+1,.ix l=>l.all<|E.plain d
 |_,_=>false
def iI.plain{bs br bs' br':Nat->Prop}{w w':World}{e:E}{v:Value}(h:iI bs br w e v):∀ d,e.plain d=true->iI bs' br' w' e v:=by
 induction h with
 |any x=>exact λ_ _=>.any x
 |v x=>exact λ_ _=>.v x
 |agg l vs h k ih=>
  intro d hd;cases d with
  |zero=>simp[E.plain]at hd
  |succ d=>
   simp only[E.plain,bR]at hd;exact .agg l vs h λi p x hp hx=>ih i p x hp hx d<|hd p<|dO hp
 |ix l vs h k ih=>
  intro d hd;cases d with
  |zero=>simp[E.plain]at hd
  |succ d=>
   simp only[E.plain,bR]at hd;exact .ix l vs h λi p x hp hx=>ih i p x hp hx d<|hd p<|dO hp
 |sl=>intro d hd;cases d<;>simp[E.plain]at hd
 |ji=>intro d hd;cases d<;>simp[E.plain]at hd
 |fn=>intro d hd;cases d<;>simp[E.plain]at hd
 |mp=>intro d hd;cases d<;>simp[E.plain]at hd
 |oW=>intro d hd;cases d<;>simp[E.plain]at hd
def iI.nr{bs br br':Nat->Prop}{w:World}{e:E}{v:Value}(h:iI bs br w e v):∀ d,e.nr d=true->iI bs br' w e v:=by
 induction h with
 |any x=>exact λ_ _=>.any x
 |v x=>exact λ_ _=>.v x
 |agg l vs h k ih=>
  intro d hd;cases d with
  |zero=>simp[E.nr]at hd
  |succ d=>
   simp only[E.nr,bR]at hd;exact .agg l vs h λi p x hp hx=>ih i p x hp hx d<|hd p<|dO hp
 |ix l vs h k ih=>
  intro d hd;cases d with
  |zero=>simp[E.nr]at hd
  |succ d=>
   simp only[E.nr,bR]at hd;exact .ix l vs h λi p x hp hx=>ih i p x hp hx d<|hd p<|dO hp
 |fn f l vs h k ih=>
  intro d hd;cases d with
  |zero=>simp[E.nr]at hd
  |succ d=>
   simp only[E.nr,bR]at hd;exact .fn f l vs h λi p x hp hx=>ih i p x hp hx d<|hd p<|dO hp
 |ji=>intro d hd;cases d<;>simp[E.nr]at hd
 |oW=>intro d hd;cases d<;>simp[E.nr]at hd
 |mp l b clk es hb iE hh ho=>exact λ_ _=>.mp l b clk es hb iE hh ho
 |sl nl n sz el A c f hn hm h0 hl hr cell k ih=>
  exact λ_ _=>.sl nl n sz el A c f hn hm h0 hl hr cell λi j hi hj=>ih i j hi hj 2<|hr i j hi hj
def E.one:E->Bool
 | .v x=>x.oneCell'
 | .sl ..=>true
 | .ji ..=>true
 | .fn ..=>true
 |_=>false
def E.lY:E->Bool
 | .v x=>!pU x
 | .sl ..=>true
 | .ji ..=>true
 | .fn ..=>true
 |_=>false
def iI.one{bs br:Nat->Prop}{w:World}{e:E}{v:Value}(h:iI bs br w e v)(h1:e.one=true):v.oneCell'=true:=by
 cases h<;>first|exact h1|rfl|(simp[E.one]at h1)
def iI.lY{bs br:Nat->Prop}{w:World}{e:E}{v:Value}(h:iI bs br w e v)(h1:e.lY=true):pU v=false:=by
 cases h with
 |v=>unfold E.lY at h1;cases hb:pU v<;>simp_all
 |any=>cases h1
 |agg=>cases h1
 |ix=>cases h1
 |sl=>rfl
 |ji=>rfl
 |fn=>rfl
 |mp=>cases h1
 |oW=>cases h1
structure kf(bs br:Nat->Prop)(w:World)(l:List E)(vs:List Value):Prop where
 len:vs.length=l.length
 kq:∀ (i:Nat) (p:E) (x:Value),l[i]? = some p->vs[i]? = some x->iI bs br w p x
def kf.nil(bs br:Nat->Prop)(w:World):kf bs br w [] []:=⟨rfl,λi p x h=>by simp at h⟩
section
variable{bs br:Nat->Prop}{w:World}
section
variable{p:E}{x:Value}{l:List E}{vs:List Value}
def kf.cons(h:iI bs br w p x)(k:kf bs br w l vs):kf bs br w (p::l)<|x::vs:=
 ⟨by simp[k.len],λi q y hq hy=>by
  cases i with
  |zero=>simp at hq hy;subst hq hy;exact h
  |succ i=>simp at hq hy;exact k.kq i q y hq hy⟩
section
variable(h:kf bs br w (p::l)<|x::vs)
def kf.head:iI bs br w p x:=h.kq 0 p x rfl rfl
def kf.tail:kf bs br w l vs:=
 ⟨by have:=h.len;simpa using this,λi q y hq hy=>h.kq (i+1) q y (by simpa using hq)<|by simpa using hy⟩
end
end
def kf.mY{p:E}{l:List E}{vs:List Value}(h:kf bs br w (p::l) vs):∃ x ys,vs=x::ys/\iI bs br w p x/\kf bs br w l ys:=by
 cases vs with
 |nil=>have:=h.len;simp at this
 |cons x ys=>exact⟨x,ys,rfl,h.head,h.tail⟩
def kf.re{vs:List Value}(h:kf bs br w [] vs):vs=[]:=dw h.len
end
def kf.mono{bs br bs' br':Nat->Prop}{w w':World}{l:List E}{vs:List Value}(h:kf bs br w l vs)(k:∀ e v,iI bs br w e v->iI bs' br' w' e v):kf bs' br' w' l vs:=
 ⟨h.len,λi p x hp hx=>k _ _<|h.kq i p x hp hx⟩
def kf.take{bs br:Nat->Prop}{w:World}{l:List E}{vs:List Value}(h:kf bs br w l vs)(n:Nat):kf bs br w (l.take n)<|vs.take n:=
 ⟨by simp[h.len],λi p x hp hx=>by
  rw[dF]at hp hx;split at hp
  .rename_i hi;rw[aY hi]at hx;exact h.kq i p x hp hx
  .cases hp⟩
def kf.drop{bs br:Nat->Prop}{w:World}{l:List E}{vs:List Value}(h:kf bs br w l vs)(n:Nat):kf bs br w (l.drop n)<|vs.drop n:=
 ⟨by simp[h.len],λi p x hp hx=>by
  rw[dx]at hp hx;exact h.kq _ p x hp hx⟩
def kf.app{bs br:Nat->Prop}{w:World}{l m:List E}{vs us:List Value}(h:kf bs br w l vs)(k:kf bs br w m us):kf bs br w (l++m)<|vs++us:=
 ⟨by simp[h.len,k.len],λi p x hp hx=>by
  rw[eG]at hp hx;rw[h.len]at hx;split at hp
  .rename_i hi;rw[aY hi]at hx;exact h.kq i p x hp hx
  .rename_i hi;rw[aX hi]at hx;exact k.kq _ p x hp hx⟩
def kf.afa(bs br:Nat->Prop)(w:World)(vs:List Value):kf bs br w (vs.map .v) vs:=
 ⟨aH,λi p x hp hx=>by
  rw[ch,hx]at hp;simp at hp;subst hp;exact .v x⟩
section
variable{bs br:Nat->Prop}{w:World}
def iI.EM{l:List E}{v:Value}(h:iI bs br w (.agg l) v):∃ vs:List Value,v = .agg vs.toArray/\kf bs br w l vs:=by
 cases h with
 |agg _ vs h k=>exact⟨vs,rfl,h,k⟩
def iI.abR{l:List E}{v:Value}(h:iI bs br w (.ix l) v):∃ vs:List Value,v = .tuple vs.toArray/\kf bs br w l vs:=by
 cases h with
 |ix _ vs h k=>exact⟨vs,rfl,h,k⟩
def iI.kG{x v:Value}(h:iI bs br w (.v x) v):v=x:=by cases h;rfl
def iI.OF{f:FuncId}{l:List E}{v:Value}(h:iI bs br w (.fn f l) v):∃ vs:List Value,v = .func (.func f) #[] vs.toArray/\kf bs br w l vs:=by
 cases h with
 |fn _ _ vs h k=>exact⟨vs,rfl,h,k⟩
end
def kf.agg{bs br:Nat->Prop}{w:World}{l:List E}{vs:List Value}(h:kf bs br w l vs):iI bs br w (.agg l)<|.agg vs.toArray:=.agg l vs h.len h.kq
def kf.ix{bs br:Nat->Prop}{w:World}{l:List E}{vs:List Value}(h:kf bs br w l vs):iI bs br w (.ix l)<|.tuple vs.toArray:=.ix l vs h.len h.kq
def E.cells?:E->Option (List E)
 | .agg l=>if l.all E.one then some l else none
 | .v (.agg cs)=>if cs.toList.all Value.oneCell' then some (cs.toList.map .v)else none
 | .v x=>if x.oneCell' then some [.v x]else none
 | .sl nl n sz el=>some [.sl nl n sz el]
 | .ji m el=>some [.ji m el]
 | .fn f c=>some [.fn f c]
 |_=>none
def iI.cells{bs br:Nat->Prop}{w:World}{e:E}{v:Value}(h:iI bs br w e v){l:List E}(hl:e.cells? = some l):
 kf bs br w l v.cells.toList/\∀ u ∈ v.cells.toList,u.oneCell'=true:=by
 have single:∀ {e:E} {v:Value},iI bs br w e v->v.oneCell'=true->v.cells = #[v]->kf bs br w [e] v.cells.toList/\∀ u ∈ v.cells.toList,u.oneCell'=true:=by
  intro e v h h1 hc;rw[hc];exact⟨.cons h<|.nil _ _ _,by simpa using h1⟩
 cases h with
 |any x=>simp[E.cells?]at hl
 |v=>
  by_cases ha:∃ cs,v = .agg cs
  .obtain ⟨cs,rfl⟩:=ha;simp only[E.cells?]at hl;split at hl
   .rename_i h1;cases hl;exact⟨kf.afa _ _ _ _,λu hu=>bR.1 h1 u hu⟩
   .cases hl
  .have hx:(E.v v).cells? = if v.oneCell' then some [.v v]else none:=by
    cases v<;>first|rfl|exact absurd ⟨_,rfl⟩ ha
   rw[hx]at hl;split at hl
   .rename_i h1;cases hl;exact single (.v v) h1<|by cases v<;>first|rfl|exact absurd ⟨_,rfl⟩ ha
   .cases hl
 |agg l vs h k=>
  simp only[E.cells?]at hl;split at hl
  .rename_i h1;cases hl;refine⟨⟨h,k⟩,?_⟩;intro u hu;obtain⟨i,hi⟩:=dh.1 hu;have Dz:i<l.length:=by
    obtain⟨hi,_⟩:=ca.1 hi;simp[Value.cells]at hi;omega
   exact(k i _ u (bk Dz)<|by simpa[Value.cells]using hi).one<|bR.1 h1 _<|b9 Dz
  .cases hl
 |ix=>simp[E.cells?]at hl
 |mp=>simp[E.cells?]at hl
 |oW=>simp[E.cells?]at hl
 |sl nl n sz el A c f hc hm h0 qa hr cell k=>simp only[E.cells?]at hl;cases hl;exact single (.sl nl n sz el A c f hc hm h0 qa hr cell k) rfl rfl
 |ji m el b o f hb iE qa cell k=>simp only[E.cells?]at hl;cases hl;exact single (.ji m el b o f hb iE qa cell k) rfl rfl
 |fn f l' vs h k=>simp only[E.cells?]at hl;cases hl;exact single (.fn f l' vs h k) rfl rfl
structure TI where
 id:TypeId
 d:TypeDesc
 i:TypeInfo
def mw(P:Program)(T:List TI):Prop:=∀ x,x ∈ T->P.underlying x.id=some x.d/\P.info? x.id=some x.i
def lP:List TI->TypeId->Option TI
 | [],_=>none
 |x::l,t=>if Nat.beq x.id t then some x else lP l t
def yd(T:List TI)(t:TypeId):Option TypeDesc:=match lP T t with
 |some x=>some x.d
 |none=>none
def TI.isAgg(x:TI):Bool:=match x.d with
 | .struct _ | .array _ _=>true
 |_=>false
inductive CV where
 |e (x:E)
 |box (id:Nat)
 |row (id:Nat)
inductive PV where
 |e (x:E)
 |box (id off:Nat)
 |own (id:Nat)
 |oc (id sz i j:Nat)
 |iG (id k:Nat)
 |qS (id sz k i j:Nat)
 |pN (f:FuncId) (cap:List CV)
def CV.kN:CV->List Nat
 | .e _=>[]
 | .box id=>[id]
 | .row id=>[id]
def PV.kN:PV->List Nat
 | .e _=>[]
 | .box id _ | .own id | .oc id _ _ _ | .iG id _ | .qS id _ _ _ _=>[id]
 | .pN _ cap=>cap.flatMap CV.kN
inductive Bx where
 |cells (T:TypeId) (l:List E)
 |row (nl:Bool) (T:TypeId) (n sz:Nat) (el:Nat->Nat->E)
 |iT (nl:Bool) (T1 T0:TypeId) (n sz:Nat) (len:Nat->Nat) (el:Nat->Nat->Nat->E) (pend:Option Nat)
 |pQ (nl:Bool) (T:TypeId) (l:List PV)
 |Ak (nl:Bool) (T1 T0:TypeId) (n sz:Nat) (len:Nat->Nat) (el:Nat->Nat->Nat->E) (c r:Nat)
 |uJ (T:TypeId) (b:Nat) (l:List E)
def Bx.Mg:Bx->List PV
 | .pQ _ _ l=>l
 |_=>[]
def Bx.kN(b:Bx):List Nat:=b.Mg.flatMap PV.kN
def Bx.q9(g:PV->PV):Bx->Bx
 | .pQ nl T l=>.pQ nl T<|l.map g
 |b=>b
def Bx.nl:Bx->Bool
 | .cells _ l=>l.all E.lY
 | .row nl ..=>nl
 | .iT nl ..=>nl
 | .pQ nl ..=>nl
 | .Ak nl ..=>nl
 | .uJ _ _ l=>l.all E.lY
structure PS where
 n:Nat
 nl:Bool
 t:List<|Nat×PV
 b:List<|Nat×Bx
def look{α:Type}:List (Nat×α)->Nat->Option α
 | [],_=>none
 | (k,x)::l,t=>if Nat.beq k t then some x else look l t
def PS.get(σ:PS)(t:Nat):PV:=(look σ.t t).getD<|.e .any
def PS.bo(σ:PS)(id:Nat):Option Bx:=look σ.b id
def PS.op(σ:PS):Operand->PV
 | .tmp t=>σ.get t
 | .const v=>.e<|.v v
 | .global g=>.e<|.v<|.pointer<|some ⟨g,0,none⟩
 | .func f=>.e<|.fn f []
inductive mj where
 |none
 |new (id:Nat) (b:Bx)
 |oR (id:Nat) (b:Bx)
 |oX (id:Nat) (b:Bx)
 |sw (id:Nat) (b:Bx)
 |fin (id:Nat)
 |oM (id r:Nat) (b:Bx)
 |xJ (id:Nat) (b:Bx)
structure ko where
 r:PV
 f:mj:=.none
 rb:List Nat:=[]
 jz:List Prop:=[]
 rd:List PV:=[]
 hb:Bool:=false
 ob:List Nat:=[]
def CV.ID(id:Nat):CV->Bool
 | .row i=>Nat.beq i id
 |_=>false
def PV.kP:mj->PV->PV
 | .oX id _,.own i=>if Nat.beq i id then .e .any else .own i
 | .oX id _,.oc i s x j=>if Nat.beq i id then .e .any else .oc i s x j
 | .oX id _,.pN f cap=>if cap.any (CV.ID id)then .e .any else .pN f cap
 | .sw id _,.iG i k=>if Nat.beq i id then .e .any else .iG i k
 | .sw id _,.qS i s k x j=>if Nat.beq i id then .e .any else .qS i s k x j
 | .fin id,p=>if p.kN.any (Nat.beq id)then .e .any else p
 | .xJ id _,p=>if p.kN.any (Nat.beq id)then .e .any else p
 | .oM id r _,.box i off=>if Nat.beq i id then(if Nat.beq off 0 then .oc id 1 0 0 else .e .any)else if Nat.beq i r then .e .any else .box i off
 | .oM id r _,p=>if p.kN.any (λx=>Nat.beq id x||Nat.beq r x)then .e .any else p
 |_,p=>p
def uS(l:List<|Nat×Bx)(id:Nat)(b:Bx):List<|Nat×Bx:=(id,b)::l.filter λx=>!Nat.beq x.1 id
def mj.NF:mj->List (Nat×Bx)->List (Nat×Bx)
 | .none,l=>l
 | .new id b,l | .oR id b,l | .oX id b,l | .sw id b,l | .xJ id b,l=>uS l id b
 | .fin id,l=>l.filter λx=>!Nat.beq x.1 id
 | .oM id r b,l=>uS (l.filter λx=>!Nat.beq x.1 r) id b
def mj.wM:mj->Bool
 | .oX .. | .sw .. | .fin .. | .oM .. | .xJ ..=>true
 |_=>false
def PS.pre(σ:PS)(f:mj):List<|Nat×Bx:=if f.wM then σ.b.map λx=>(x.1,x.2.q9<|PV.kP f)else σ.b
def PS.nT(σ:PS)(f:mj):PS:={ σ with t:=if f.wM then σ.t.map λx=>(x.1,x.2.kP f)else σ.t,b:=f.NF<|σ.pre f }
def PS.put(σ:PS)(d:Option Tmp)(p:PV):PS:=match d with
 |some d=>{ σ with t:=(d,p)::σ.t.filter λx=>!Nat.beq x.1 d }
 |none=>σ
def lJ:IntKind->Int->Prop
 | .i8,z=>-128<=z/\z<=127
 | .i16,z=>-32768<=z/\z<=32767
 | .i32,z=>-2147483648<=z/\z<=2147483647
 | .i64,z=>-9223372036854775808<=z/\z<=9223372036854775807
 | .u8,z=>0<=z/\z<=255
 | .u16,z=>0<=z/\z<=65535
 | .u32,z=>0<=z/\z<=4294967295
 | .u64,z=>0<=z/\z<=18446744073709551615
def aaN(op:BinOp)(k k':IntKind):Bool:=match op with
 | .shl=>true
 | .shr=>true
 |_=>decide (k=k')
def Nt(k:IntKind)(x y:Int):Int:=match k with
 | .u32=>IntKind.u32.wrap<|x+y
 |_=>x+y
def SV(k:IntKind)(x y:Int):List Prop:=match k with
 | .u32=>[]
 |_=>[lJ k<|x+y]
def Om(op:BinOp)(k:IntKind)(x:Int)(y:Int):Option<|Value×List Prop:=match op with
 | .add=>some (.int k<|Nt k x y,SV k x y)
 | .sub=>some (.int k<|x-y,[lJ k<|x-y])
 | .mul=>some (.int k<|x*y,[lJ k<|x*y])
 | .quo=>some (.int k<|x.tdiv y,[0<y,lJ k x])
 | .rem=>some (.int k<|x.tmod y,[0<y])
 | .and=>some (.int k<|bits .and k x y,[])
 | .or=>some (.int k<|bits .or k x y,[])
 | .andNot=>some (.int k<|bits .andNot k x y,[])
 | .shl=>some (.int k<|k.wrap<|x*2^y.toNat,[0<=y/\y<=k.bits])
 | .shr=>some (.int k<|x/2^y.toNat,[0<=y/\y<=k.bits])
 | .eql=>some (.bool<|x==y,[])
 | .neq=>some (.bool<|x != y,[])
 | .lss=>some (.bool<|decide (x<y),[])
 | .leq=>some (.bool<|decide (x<=y),[])
 | .gtr=>some (.bool<|decide (y<x),[])
 | .geq=>some (.bool<|decide (y<=x),[])
 |_=>none
def Mf:List PV->Option (List E)
 | []=>some []
 | .e x::l=>(Mf l).map (x :: ·)
 |_::_=>none
def PS.read(σ:PS)(p:PV)(m:Nat):Option<|List E×List Nat×List Prop:=match p with
 | .box id off=>match σ.bo id with
  |some (.cells _ l)=>if Nat.ble (off+m) l.length then some ((l.drop off).take m,[id],[])else none
  |some (.pQ _ _ l)=>if Nat.ble (off+m) l.length then(Mf<|(l.drop off).take m).map λes=>(es,[id],[])else none
  |some (.uJ _ _ l)=>if Nat.ble (off+m) l.length then some ((l.drop off).take m,[id],[])else none
  |_=>none
 | .oc id sz i j=>match σ.bo id with
  |some (.row _ _ n s el)=>if Nat.beq s sz&&Nat.ble (j+m) sz then some ((List.range m).map λq=>el i<|j+q,[id],[i<n])else none
  |_=>none
 | .qS id sz k i j=>match σ.bo id with
  |some (.iT _ _ _ n s len el _)=>if Nat.beq s sz&&Nat.ble (j+m) sz then some ((List.range m).map λq=>el k i<|j+q,[id],[k<n,i<len k])else none
  |_=>none
 | .e (.ji k el)=>if Nat.ble m k then some ((List.range m).map el,[],[])else none
 |_=>none
def CV.ext(σ:PS):CV->Option (E×List Nat)
 | .e x=>some (x,[])
 | .box id=>match σ.bo id with
  |some (.cells _ l)=>some (.ji l.length λj=>l.getD j .any,[id])
  |_=>none
 | .row id=>match σ.bo id with
  |some (.iT nl _ _ n sz len el none)=>if Nat.beq n 1 then some (.ji 1 λ_=>.sl nl (len 0) sz<|el 0,[id])else none
  |_=>none
def CV.IC:CV->Bool
 | .row _=>true
 |_=>false
def vQ(σ:PS):List CV->Option (List E×List Nat)
 | []=>some ([],[])
 |c::l=>match c.ext σ,vQ σ l with
  |some (x,i),some (xs,is)=>some (x::xs,i++is)
  |_,_=>none
def PV.vi(σ:PS):PV->Bool
 | .own id=>match σ.bo id with
  |some (.iT ..)=>false
  |_=>true
 | .iG _ _=>true
 | .pN _ cap=>cap.any CV.IC
 |_=>false
def PV.ext(σ:PS):PV->Option (E×List Nat)
 | .e x=>some (x,[])
 | .own id=>match σ.bo id with
  |some (.row nl _ n sz el)=>some (.sl nl n sz el,[id])
  |some (.iT nl _ _ n sz len el none)=>some (.oW false true n 1 λk _=>.oW true nl (len k) sz<|el k,[id])
  |_=>none
 | .box id 0=>match σ.bo id with
  |some (.cells _ l)=>some (.ji l.length λj=>l.getD j .any,[id])
  |_=>none
 | .iG id k=>match σ.bo id with
  |some (.iT nl _ _ n sz len el none)=>if Nat.blt k n then some (.sl nl (len k) sz<|el k,[id])else none
  |_=>none
 | .pN f cap=>match vQ σ cap with
  |some (xs,is)=>some (.fn f xs,is)
  |none=>none
 |_=>none
def ub(σ:PS):List Operand->Option (List E×List Nat)
 | []=>some ([],[])
 |o::l=>match(σ.op o).ext σ,ub σ l with
  |some (x,i),some (xs,is)=>some (x::xs,i++is)
  |_,_=>none
def xZ:List PV->Option (List CV)
 | []=>some []
 | .e x::l=>(xZ l).map (.e x :: ·)
 | .box id 0::l=>(xZ l).map (.box id :: ·)
 | .oc id sz i j::l=>if Nat.beq sz 1&&Nat.beq i 0&&Nat.beq j 0 then(xZ l).map (.row id :: ·)else none
 |_::_=>none
def oi(w:World)(b:Nat):Prop:=∀ o x,w.cell? ⟨b,o,none⟩≠some (.int .u32 x)
structure PC(P:Program)(K:World->Prop)(f:FuncId)(args:List E)(jA:E):Prop where
 call:∀ (vs:Array Value) (w:World),(callFunc f vs).run P w = .ok (.enter f vs) w
 run:∀ (w:World) (B:Nat->Prop) (vs:List Value),K w->(∀ b,B b->b<w.heap.size/\oi w b)->kf B (λ_=>False) w args vs ->
  Calls P f vs.toArray w (λe w'=>∃ v,e = .returned v/\Below w.heap.size w w'/\iI B (λ_=>True) w' jA v)
structure J1(P:Program)(K:World->Prop)(f:FuncId)(args:List E)(jA:E):Prop where
 call:∀ (vs:Array Value) (w:World),(callFunc f vs).run P w = .ok (.enter f vs) w
 run:∀ (w:World) (B:Nat->Prop) (vs:List Value),K w->(∀ b,B b->b<w.heap.size)->kf B (λ_=>False) w args vs ->
  Calls P f vs.toArray w (λe w'=>∃ v,e = .returned v/\Below w.heap.size w w'/\iI B (λ_=>True) w' jA v)
def nb(w:World)(v:Value)(T:TypeId)(n sz:Nat)(f:Nat->Nat->Value)(nl:Bool):Prop:=
 (v = .slice none 0 0/\n=0) \/
 ∃ (b ofs c:Nat) (cur:Array Value),v = .slice (some ⟨b,ofs,none⟩) n c/\w.heap[b]? = some (.cells cur T (0,0))/\n<=c/\c<=maxLen/\ofs+c*sz<=cur.size /\
  (∀ i j,i<n->j<sz->cur[ofs+(i*sz+j)]? = some (f i j)/\(f i j).oneCell'=true)/\(nl=true->∀ u,u ∈ cur->pU u=false)
structure wO(P:Program)(K:World->Prop)(f:FuncId)(args:List E)(nl:Bool)(T:TypeId)(n sz:Nat)(el:Nat->Nat->E):Prop where
 call:∀ (vs:Array Value) (w:World),(callFunc f vs).run P w = .ok (.enter f vs) w
 run:∀ (w:World) (B:Nat->Prop) (vs:List Value),K w->(∀ b,B b->b<w.heap.size/\oi w b)->kf B (λ_=>False) w args vs ->
  Calls P f vs.toArray w (λe w'=>∃ v,e = .returned v/\Below w.heap.size w w'/\∃ g,nb w' v T n sz g nl/\(∀ x,v.ownBlock=some x->w.heap.size<=x/\x<w'.heap.size) /\
   ∀ i j,i<n->j<sz->iI (λb=>B b\/v.ownBlock=some b) (λ_=>True) w' (el i j) (g i j)/\(el i j).nr 2=true)
structure Lk where
 lX:Nat->Prop
 own:Nat->Nat->Prop
 val:Nat->Value
 iG:Nat->Nat->Value
def xT(bs br:Nat->Prop)(L:Lk)(w:World)(id:Nat)(nl:Bool)(T1 T0:TypeId)(n sz:Nat)(len:Nat->Nat)(el:Nat->Nat->Nat->E)(pend:Option Nat):Prop:=∃ (b ofs c:Nat) (cur:Array Value) (f:Nat->Nat->Nat->Value),L.val id = .slice (some ⟨b,ofs,none⟩) n c/\w.heap[b]? = some (.cells cur T1 (0,0))/\n<=c/\c<=maxLen/\ofs+c<=cur.size /\
 (∀ k,k<n->pend≠some k->cur[ofs+k]? = some (L.iG id k))/\(∀ u,u ∈ cur->pU u=false) /\
 (∀ k,k<n->nb w (L.iG id k) T0 (len k) sz (f k) nl/\∀ i j,i<len k->j<sz->iI bs br w (el k i j) (f k i j)/\(el k i j).nr 2=true) /\
 (∀ x,L.own id x↔x=b\/∃ k,k<n/\(L.iG id k).ownBlock=some x) /\
 (∀ k k' x,k<n->k'<n->(L.iG id k).ownBlock=some x->(L.iG id k').ownBlock=some x->k=k')/\(∀ k,k<n->(L.iG id k).ownBlock≠some b)
structure J2(P:Program)(K:World->Prop)(f:FuncId)(args:List E)(nl:Bool)(T1 T0:TypeId)(n sz:Nat)(len:Nat->Nat)(el:Nat->Nat->Nat->E):Prop where
 call:∀ (vs:Array Value) (w:World),(callFunc f vs).run P w = .ok (.enter f vs) w
 run:∀ (w:World) (B:Nat->Prop) (vs:List Value),K w->(∀ b,B b->b<w.heap.size/\oi w b)->kf B (λ_=>False) w args vs ->
  Calls P f vs.toArray w (λe w'=>∃ L:Lk,e = .returned (L.val 0)/\Below w.heap.size w w'/\(∀ x,L.own 0 x->w.heap.size<=x/\x<w'.heap.size) /\
   ((L.val 0 = .slice none 0 0/\n=0/\∀ x,¬L.own 0 x)\/xT (λb=>B b\/L.own 0 b) (λ_=>True) L w' 0 nl T1 T0 n sz len el none))
structure SI(w:World)(b:Nat)(w':World):Prop where
 os:w'.os=w.os
 tape:w'.tape=w.tape
 output:w'.output=w.output
 size:w.heap.size<=w'.heap.size
 nY:∀ x,x<w.heap.size->x≠b->w'.heap[x]? = w.heap[x]?
structure EI(P:Program)(K:World->Prop)(f:FuncId)(T:TypeId)(l l':List E)(args:List E)(jA:E):Prop where
 call:∀ (vs:Array Value) (w:World),(callFunc f vs).run P w = .ok (.enter f vs) w
 run:∀ (w:World) (B:Nat->Prop) (b:Nat) (cs vs:List Value),(∀ w',SI w b w'->K w')->(∀ x,B x->x<w.heap.size/\oi w x)->B b->w.heap[b]? = some (.cells cs.toArray T (0,0))->(∀ u,u ∈ cs->u.oneCell'=true) ->
  kf B (λ_=>False) w l cs->kf B (λ_=>False) w args vs ->
  Calls P f (.pointer (some ⟨b,0,none⟩)::vs).toArray w (λe w'=>∃ v cs',e = .returned v/\SI w b w'/\w'.heap[b]? = some (.cells (List.toArray cs') T (0,0))/\(∀ u,u ∈ cs'->u.oneCell'=true) /\
   kf B (λ_=>True) w' l' cs'/\iI B (λ_=>True) w' jA v)
structure qw where
 cl:List<|Nat×E:=[]
 ov:List<|Nat×PV:=[]
 nw:List<|Nat×Bx:=[]
 gi:List<|Nat×Value:=[]
 mu:List<|Nat×(List E×E):=[]
def Jn(T:List TI):List Field->Option (List<|Nat×Nat)
 | []=>some []
 |f::fs=>match lP T f.type,Jn T fs with
  |some ti,some l=>some<|(f.offset,ti.i.size)::l
  |_,_=>none
def Ae(l:List E)(off:Nat)(m:List E):List E:=l.take off++m++l.drop (off+m.length)
def sQ(σ:PS)(place:Nat->Option (Nat×Nat)):List E->List (Nat×Operand)->Option (List E)
 |l,[]=>some l
 |l,(i,x)::ps=>match place i,σ.op x with
  |some (off,size),.e e=>match e.cells? with
   |some m=>if Nat.beq m.length size&&Nat.ble (off+m.length) l.length then sQ σ place (Ae l off m) ps else none
   |none=>none
  |_,_=>none
def An(ti:TI):Option<|List E:=match ti.i.zero with
 |some z=>(E.v z).cells?
 |none=>none
def kq{α:Type}:Nat->List α->List α
 | 0,_=>[]
 |n+1,l=>l++kq n l
def rk(P:Program)(op:BinOp)(t:TypeId)(x y:E)(v:Value):Prop:=∀ (bs br:Nat->Prop) (w:World) (a b:Value) (ox oy:Operand),iI bs br w x a->iI bs br w y b->(eqGuard op t ox oy a b).run P w = .ok () w/\(binOp op t a b).run P w = .ok v w
def ahN(O:qw)(d:Option Tmp):Option Value:=match d with
 |some d=>match look O.cl d with
  |some (.v v)=>some v
  |_=>none
 |none=>none
def ahL(O:qw)(d:Option Tmp):Option Value:=match d with
 |some d=>look O.gi d
 |none=>none
def Ni(e:E):Prop:=∀ (bs bs' br:Nat->Prop) (w:World) (v:Value),(∀ x,bs' x->bs x\/oi w x)->iI bs br w e v->iI bs' br w e v
def sZ(σ:PS)(d:Nat)(b:Bx):mj:=match σ.bo d with
 |none=>.new d b
 |some _=>.xJ d b
def yJ(σ:PS)(d:Nat)(is:List Nat):List Nat:=match σ.bo d with
 |none=>is
 |some _=>d::is
def SG(n sz:Nat)(el:Nat->Nat->E):Prop:=∀ i j,i<n->j<sz->Ni (el i j)
def B4(P:Program)(K:World->Prop)(O:qw)(σ:PS)(d:Option Tmp)(f:FuncId)(xs:List E)(is:List Nat)(ow:Bool):Option ko:=
 match(match d with
  |some d=>look O.cl d
  |none=>some .any)with
 |some jA=>if jA.plain 3||(σ.nl && !ow)then some { r:=.e jA,rb:=is,jz:=[PC P K f xs jA] }else if !ow then some { r:=.e jA,rb:=is,jz:=[J1 P K f xs jA] }
  else if σ.nl then some { r:=.e jA,rb:=is,jz:=[PC P K f xs jA,Ni jA] }else none
 |none=>match d with
  |some d=>match look O.nw d with
   |some (.row nl T n sz el)=>if σ.nl&&nl then some { r:=.own d,f:=sZ σ d<|.row nl T n sz el,rb:=yJ σ d is,jz:=wO P K f xs nl T n sz el::(if ow then[SG n sz el]else[]) }else none
   |some (.iT nl T1 T0 n sz len el none)=>if σ.nl&&nl && !ow then some { r:=.own d,f:=sZ σ d<|.iT nl T1 T0 n sz len el none,rb:=yJ σ d is,jz:=[J2 P K f xs nl T1 T0 n sz len el] }else none
   |_=>none
  |none=>none
def ahM(O:qw):Option Tmp->Option (List E×E)
 |some d=>look O.mu d
 |none=>none
def B5(P:Program)(K:World->Prop)(σ:PS)(fv:PV)(xs:List Operand)(l':List E)(jA:E):Option ko:=match fv,xs with
 | .e (.fn g []),x::xs=>match σ.op x with
  | .box id 0=>match σ.bo id,ub σ xs with
   |some (.cells T l),some (es,is)=>if σ.nl&&l'.all E.lY && !((xs.map σ.op).any<|PV.vi σ)then some { r:=.e jA,f:=.oR id<|.cells T l',rb:=id::is,jz:=[EI P K g T l l' es jA] }else none
   |some (.uJ T b l),some (es,is)=>if σ.nl&&l'.all E.lY && !((xs.map σ.op).any<|PV.vi σ)then some { r:=.e jA,f:=.oR id<|.uJ T b l',rb:=id::is,jz:=[EI P K g T l l' es jA] }else none
   |_,_=>none
  |_=>none
 |_,_=>none
def Bl(σ:PS)(d:Option Tmp)(b:Bx)(r:Nat->PV)(jz:List Prop):Option ko:=match d with
 |some d=>match σ.bo d with
  |none=>if !σ.nl||b.nl then some { r:=r d,f:=.new d b,jz:=jz }else none
  |some _=>none
 |none=>none
def PV.Nw:PV->Option (Bool×Nat×Nat×(Nat->Nat->E))
 | .e (.sl nl n sz el)=>some (nl,n,sz,el)
 | .e (.oW true nl n sz el)=>some (nl,n,sz,el)
 |_=>none
def CA(σ:PS)(d:Option Tmp)(b:Bx)(r:Nat->PV):Option ko:=match d with
 |some d=>if !σ.nl||b.nl then some { r:=r d,f:=sZ σ d b,rb:=yJ σ d [] }else none
 |none=>none
section
variable(T:List TI)(σ:PS)(d:Option Tmp)(t:TypeId)(s x:PV)
def B3:Option ko:=match x.Nw with
 |some (nl2,m,sz2,el2)=>match lP T t with
  |some tt=>match tt.d with
   | .slice e=>match lP T e with
    |some te=>match An te with
     |some z=>if Nat.beq te.i.size sz2&&Nat.ble 1 sz2&&Nat.ble 1 te.i.bytes&&Nat.beq z.length sz2 then match s with
      | .own id=>match σ.bo id with
       |some (.row nl T1 n sz el)=>if Nat.beq T1 e&&Nat.beq sz sz2&&(!σ.nl||(nl&&(nl2&&z.all E.lY)))then
        some { r:=.own id,f:=.oX id<|.row (nl&&(nl2&&z.all E.lY)) T1 (n+m) sz λi j=>if i<n then el i j else el2 (i-n) j,rb:=[id],jz:=[(n+m)*te.i.bytes<=140737488355328] }
        else none
       |_=>none
      | .iG id k=>match σ.bo id with
       |some (.iT nl T1 T0 n sz len el none)=>if Nat.beq T0 e&&Nat.beq sz sz2&&(!nl||(nl2&&z.all E.lY))then
        some { r:=.iG id k,f:=.sw id<|.iT nl T1 T0 n sz (λq=>if q=k then len q+m else len q) (λq i j=>if q=k then(if i<len q then el q i j else el2 (i-len q) j)else el q i j)<|some k,rb:=[id],jz:=[k<n,(len k+m)*te.i.bytes<=140737488355328] }
        else none
       |_=>none
      | .e (.v<|.slice none 0 0)=>Bl σ d (.row (nl2&&z.all E.lY) e m sz2 el2) .own [m*te.i.bytes<=140737488355328]
      |_=>none
     else none
     |none=>none
    |none=>none
   |_=>none
  |none=>none
 |_=>none
def De:Option ko:=match B3 T { σ with nl:=false } d t s x with
 |some u=>match u.f,u.r with
  | .oX id (.row nl _ n sz el),.own id'=>if Nat.beq id' id then some { r:=.e<|.sl nl n sz el,f:=.fin id,rb:=u.rb,jz:=True::u.jz }else none
  |_,_=>none
 |none=>none
end
def PV.F1:PV->Option Nat
 | .own q=>some q
 |_=>none
def CG(σ:PS):List (Nat×Operand)->Option Nat
 | [(0,x)]=>(σ.op x).F1
 |_=>none
section
variable(T:List TI)
def Kr(t:TypeId):Option<|TypeId×Nat:=match lP T t with
 |some tt=>match tt.d with
  | .slice e=>match lP T e with
   |some te=>match An te with
    |some [z]=>if Nat.beq te.i.size 1&&Nat.ble 1 te.i.bytes&&z.lY then some (e,te.i.bytes)else none
    |_=>none
   |none=>none
  |_=>none
 |none=>none
section
variable(σ:PS)(d:Option Tmp)(t:TypeId)
def Dh(n q:Nat):Option ko:=match d with
 |some id=>match σ.bo id,σ.bo q,Kr T t with
  |none,some<|.row nl T0 m sz el,some (e,_)=>if Nat.beq n 1 && !Nat.beq id q then
   some { r:=.own id,f:=.oM id q<|.iT nl e T0 1 sz (λ_=>m) (λ_=>el) none,rb:=[id,q] }else none
  |_,_,_=>none
 |none=>none
def Df(s:PV)(q:Nat):Option ko:=match σ.bo q,Kr T t with
 |some (.iT nl2 T2 T0 m sz len2 el2 none),some (e,by_)=>match s,d with
  | .own id,_=>match σ.bo id with
   |some (.iT nl T1 T0' n sz' len el none)=>if Nat.beq T1 e&&Nat.beq T2 e&&Nat.beq T0' T0&&Nat.beq sz' sz && !Nat.beq id q then
    some { r:=.own id,f:=.oM id q<|.iT (nl&&nl2) T1 T0 (n+m) sz (λk=>if k<n then len k else len2 (k-n)) (λk=>if k<n then el k else el2 (k-n)) none,rb:=[id,q],jz:=[0<m,(n+m)*by_<=140737488355328] }else none
   |_=>none
  | .e (.v<|.slice none 0 0),some id=>match σ.bo id with
   |none=>if Nat.beq T2 e && !Nat.beq id q then
    some { r:=.own id,f:=.oM id q<|.iT nl2 T2 T0 m sz len2 el2 none,rb:=[id,q],jz:=[0<m,m*by_<=140737488355328] }else none
   |_=>none
  |_,_=>none
 |_,_=>none
end
def Vj(t:TypeId)(l c:PV):Option<|Bx×List Prop:=match l,c with
 | .e (.v<|.int _ l),.e (.v<|.int _ c)=>match lP T t with
  |some tt=>match tt.d with
   | .slice e=>match lP T e with
    |some te=>match An te with
     |some z=>if Nat.beq te.i.size z.length&&Nat.ble 1 te.i.size then
      let jz:=[0<=l/\l<=c,(te.i.bytes:Int)*c<=281474976710656/\c<=9223372036854775807]
      match te.d with
      | .slice e0=>match lP T e0,z with
       |some t0,[.v<|.slice none 0 0]=>some (.iT true e e0 l.toNat t0.i.size (λ_=>0) (λ_ _ _=>.any) none,jz)
       |_,_=>none
      |_=>some (.row (z.all E.lY) e l.toNat te.i.size λ_ j=>z.getD j .any,jz)
      else none
     |none=>none
    |none=>none
   |_=>none
  |none=>none
 |_,_=>none
def KN(σ:PS)(d:Option Tmp)(t:TypeId)(l c:PV):Option ko:=match Vj T t l c with
 |some (b,jz)=>Bl σ d b .own jz
 |none=>none
def Dg(σ:PS)(t:TypeId)(id:Nat)(lo hi:Option PV):Option ko:=match lP T t with
 |some tt=>match tt.d with
  | .slice e=>match lP T e with
   |some te=>match σ.bo id with
    |some (.row nl T1 n sz el)=>match lo,hi with
     |some (.e<|.v<|.int _ l),none=>if Nat.beq te.i.size sz then some { r:=.own id,f:=.oX id<|.row nl T1 (n-l.toNat) sz λi j=>el (l.toNat+i) j,rb:=[id],jz:=[0<=l/\l<=n] }else none
     |_,_=>none
    |_=>none
   |none=>none
  |_=>none
 |none=>none
def KO(t:TypeId)(x:PV)(lo hi:Option PV):Option ko:=match x with
 | .e (.sl nl n sz el)=>match lP T t with
  |some tt=>match tt.d with
   | .slice e=>match lP T e with
    |some te=>if Nat.beq te.i.size sz then match lo,hi with
     |none,some (.e<|.v<|.int _ h)=>some { r:=.e<|.sl nl h.toNat sz el,jz:=[0<=h/\h<=n] }
     |some (.e<|.v<|.int _ l),none=>some { r:=.e<|.sl nl (n-l.toNat) sz λi j=>el (l.toNat+i) j,jz:=[0<=l/\l<=n] }
     |some (.e<|.v<|.int _ l),some (.e<|.v<|.int _ h)=>some { r:=.e<|.sl nl (h.toNat-l.toNat) sz λi j=>el (l.toNat+i) j,jz:=[0<=l/\l<=h/\h<=n] }
     |_,_=>none
     else none
    |none=>none
   |_=>none
  |none=>none
 | .e (.oW fl nl n sz el)=>match lP T t with
  |some tt=>match tt.d with
   | .slice e=>match lP T e with
    |some te=>if Nat.beq te.i.size sz then match lo,hi with
     |none,some (.e<|.v<|.int _ h)=>some { r:=.e<|.oW fl nl h.toNat sz el,jz:=[0<=h/\h<=n] }
     |some (.e<|.v<|.int _ l),none=>some { r:=.e<|.oW fl nl (n-l.toNat) sz λi j=>el (l.toNat+i) j,jz:=[0<=l/\l<=n] }
     |some (.e<|.v<|.int _ l),some (.e<|.v<|.int _ h)=>some { r:=.e<|.oW fl nl (h.toNat-l.toNat) sz λi j=>el (l.toNat+i) j,jz:=[0<=l/\l<=h/\h<=n] }
     |_,_=>none
     else none
    |none=>none
   |_=>none
  |none=>none
 |_=>none
def KK(σ:PS)(t:TypeId)(x i:PV):Option ko:=match i with
 | .e (.v<|.int _ z)=>match lP T t with
  |some tt=>match tt.d with
   | .slice e=>match lP T e with
    |some te=>match x with
     | .e (.sl _ n sz el)=>if Nat.beq te.i.size sz&&Nat.ble 1 sz then some { r:=.e<|.ji sz<|el z.toNat,jz:=[0<=z/\z<n] }else none
     | .e (.oW _ _ n sz el)=>if Nat.beq te.i.size sz&&Nat.ble 1 sz then some { r:=.e<|.ji sz<|el z.toNat,jz:=[0<=z/\z<n] }else none
     | .own id=>match σ.bo id with
      |some (.row _ _ n sz _)=>if Nat.beq te.i.size sz then some { r:=.oc id sz z.toNat 0,rb:=[id],jz:=[0<=z/\z<n] }else none
      |some (.iT _ _ _ n _ _ _ _)=>if Nat.beq te.i.size 1 then some { r:=.oc id 1 z.toNat 0,rb:=[id],jz:=[0<=z/\z<n] }else none
      |some (.Ak _ _ _ n _ _ _ _ _)=>if Nat.beq te.i.size 1 then some { r:=.oc id 1 z.toNat 0,rb:=[id],jz:=[0<=z/\z<n] }else none
      |_=>none
     | .iG id k=>match σ.bo id with
      |some (.iT _ _ _ n sz len _ _)=>if Nat.beq te.i.size sz then some { r:=.qS id sz k z.toNat 0,rb:=[id],jz:=[k<n,0<=z/\z<len k] }else none
      |_=>none
     |_=>none
    |none=>none
   | .array n e=>match lP T e with
    |some te=>match x with
     | .box id off=>some { r:=.box id<|off+z.toNat*te.i.size,jz:=[0<=z/\z<n] }
     | .e (.ji m el)=>if Nat.beq (n*te.i.size) m then some { r:=.e<|.ji te.i.size λj=>el<|z.toNat*te.i.size+j,jz:=[0<=z/\z<n] }else none
     |_=>none
    |none=>none
   |_=>none
  |none=>none
 |_=>none
end
def Ed(l:List PV)(off:Nat)(m:List PV):List PV:=l.take off++m++l.drop (off+m.length)
def Bx.XX:Bx->Bool
 | .row ..=>true
 | .iT ..=>true
 |_=>false
section
variable(ti:TI)(bi bq:Option Bx)(id off q:Nat)
def KR:Option ko:=match bi,bq with
 |some (.cells T1 [_]),some (.row nl T0 n sz el)=>if(!Nat.beq id q&&Nat.beq ti.i.size 1)&&Nat.beq off 0 then
  some { r:=.e .any,f:=.oM id q<|.iT nl T1 T0 1 sz (λ_=>n) (λ_=>el) none,rb:=[id,q] }else none
 |_,_=>none
def KQ:Option ko:=match bi,bq with
 |some (.pQ nl T1 l),some b=>if b.XX&&Nat.beq ti.i.size 1&&Nat.blt off l.length then
  some { r:=.e .any,f:=.oR id<|.pQ nl T1<|Ed l off [.own q],rb:=[id,q] }else none
 |_,_=>none
def E9:Option ko:=match KR ti bi bq id off q with
 |some u=>some u
 |none=>KQ ti bi bq id off q
end
def qX(c r q:Nat):Nat:=if q=c then r else if q=r then c else q
def KP(T:List TI)(σ:PS)(t:TypeId)(a x:PV):Option ko:=match lP T t with
 |some ti=>match a,x with
  | .box id off,.e e=>match σ.bo id,e.cells? with
   |some (.cells T1 l),some m=>if Nat.beq m.length ti.i.size&&Nat.ble (off+m.length) l.length&&(!σ.nl||m.all E.lY)then
    some { r:=.e .any,f:=.oR id<|.cells T1<|Ae l off m,rb:=[id] }else none
   |some (.pQ nl T1 l),some m=>if Nat.beq m.length ti.i.size&&Nat.ble (off+m.length) l.length&&(!nl||m.all E.lY)then
    some { r:=.e .any,f:=.oR id<|.pQ nl T1<|Ed l off<|m.map .e,rb:=[id] }else none
   |some (.uJ T1 b l),some m=>if Nat.beq m.length ti.i.size&&Nat.ble (off+m.length) l.length&&(!σ.nl||m.all E.lY)then
    some { r:=.e .any,f:=.oR id<|.uJ T1 b<|Ae l off m,rb:=[id] }else none
   |_,_=>none
  | .box id off,.own q=>E9 ti (σ.bo id) (σ.bo q) id off q
  | .oc id sz i j,.e e=>match σ.bo id,e.cells? with
   |some (.row nl T1 n s el),some m=>if Nat.beq m.length ti.i.size&&Nat.beq s sz&&Nat.ble (j+m.length) sz&&(!nl||m.all E.lY)&&m.all (E.nr 2)then
    some { r:=.e .any,f:=.oR id<|.row nl T1 n s λi' j'=>if i'=i/\j<=j'/\j'<j+m.length then m.getD (j'-j) .any else el i' j',rb:=[id],jz:=[i<n] }else none
   |_,_=>none
  | .oc id 1 i 0,.iG id' k=>match σ.bo id with
   |some (.iT nl T1 T0 n sz len el<|some k')=>if Nat.beq id id'&&Nat.beq ti.i.size 1 then
    some { r:=.e .any,f:=.oR id<|.iT nl T1 T0 n sz len el none,rb:=[id],jz:=[i=k',k=k',k'<n] }else none
   |some (.iT nl T1 T0 n sz len el none)=>if Nat.beq id id'&&Nat.beq ti.i.size 1 then
    some { r:=.e .any,f:=.oR id<|.Ak nl T1 T0 n sz len el i k,rb:=[id],jz:=[i<n,k<n] }else none
   |some (.Ak nl T1 T0 n sz len el c r)=>if Nat.beq id id'&&Nat.beq ti.i.size 1 then
    some { r:=.e .any,f:=.sw id<|.iT nl T1 T0 n sz (λq=>len<|qX c r q) (λq=>el<|qX c r q) none,rb:=[id],jz:=[i=r,k=c] }else none
   |_=>none
  | .qS id sz k i j,.e e=>match σ.bo id,e.cells? with
   |some (.iT nl T1 T0 n s len el pd),some m=>if Nat.beq m.length ti.i.size&&Nat.beq s sz&&Nat.ble (j+m.length) sz&&(!nl||m.all E.lY)&&m.all (E.nr 2)then
    some { r:=.e .any,f:=.oR id<|.iT nl T1 T0 n s len (λk' i' j'=>if k'=k/\i'=i/\j<=j'/\j'<j+m.length then m.getD (j'-j) .any else el k' i' j') pd,rb:=[id],jz:=[k<n,i<len k] }else none
   |_,_=>none
  |_,_=>none
 |none=>none
def tu:PV->PS->Option (Value×List Nat)
 | .e (.oW _ _ n _ _),_=>some (.int .i64 (n:Int),[])
 | .e (.sl _ n _ _),_=>some (.int .i64 (n:Int),[])
 | .e (.v<|.slice _ n _),_=>some (.int .i64 (n:Int),[])
 | .own id,σ=>match σ.bo id with
  |some (.row _ _ n _ _)=>some (.int .i64 (n:Int),[id])
  |some (.iT _ _ _ n _ _ _ _)=>some (.int .i64 (n:Int),[id])
  |_=>none
 | .iG id k,σ=>match σ.bo id with
  |some (.iT _ _ _ n _ len _ _)=>if Nat.blt k n then some (.int .i64 (len k:Int),[id])else none
  |_=>none
 |_,_=>none
def Cv(ti:TI):Option (List E×List Nat×List Prop)->Option ko
 |some (l,is,jz)=>if ti.isAgg then some { r:=.e<|.agg l,rb:=is,jz:=jz }else match l with
  | [e]=>some { r:=.e e,rb:=is,jz:=jz }
  |_=>none
 |none=>none
def Ei(σ:PS):PV->Option (Nat×Nat×Nat)
 | .oc id sz i j=>match σ.bo id with
  |some (.iT _ _ _ n _ _ _ none)=>if Nat.beq sz 1&&Nat.beq j 0 then some (id,i,n)else none
  |_=>none
 |_=>none
def Mb:List PV->Nat->Option Nat
 | [],_=>none
 | .own q::_,0=>some q
 |_::_,0=>none
 |_::l,n+1=>Mb l n
def Dl(σ:PS):PV->Option (Nat×Nat)
 | .box id off=>match σ.bo id with
  |some (.pQ _ _ l)=>(Mb l off).map λq=>(id,q)
  |_=>none
 |_=>none
def KM(ti:TI)(σ:PS)(p:PV):Option ko:=match Ei σ p with
 |some (id,i,n)=>if ti.isAgg then none else some { r:=.iG id i,rb:=[id],jz:=[i<n] }
 |none=>Cv ti<|σ.read p ti.i.size
def KL(T:List TI)(σ:PS)(t:TypeId)(p:PV):Option ko:=match lP T t with
 |some ti=>match Dl σ p with
  |some (id,q)=>if ti.isAgg then none else some { r:=.own q,rb:=[id] }
  |none=>KM ti σ p
 |none=>none
def Ke(O:qw):Option Tmp->Bool
 |some d=>(look O.nw d).isSome
 |none=>false
def zT:List (Int×FuncId×List FuncId)->Int->Option E
 | [],_=>none
 |x::l,z=>if x.1=z then some (.fn x.2.1<|x.2.2.map λg=>.ji 1 λ_=>.fn g [])else zT l z
def ahK(O:qw):Option Tmp->Option E
 |some d=>look O.cl d
 |none=>none
def jG(P:Program)(K:World->Prop)(T:List TI)(O:qw)(σ:PS)(o:Oper):Option ko:=match o.op with
 | .move x=>some { r:=σ.op x }
 | .assign x=>some { r:=σ.op x }
 | .pick c a b=>match σ.op c with
  | .e (.v<|.bool true)=>some { r:=σ.op a }
  | .e (.v<|.bool false)=>some { r:=σ.op b }
  |_=>none
 | .alloc t=>match lP T t with
  |some ti=>match An ti with
   |some z=>CA σ o.dst (.cells t z) (.box · 0)
   |none=>none
  |none=>none
 | .box t x=>match σ.op x with
  | .e e=>match e.cells? with
   |some l=>CA σ o.dst (.cells t l) (.box · 0)
   |none=>none
  |_=>none
 | .build t ps=>match lP T t with
  |some ti=>match An ti with
   |some z=>match ti.d with
    | .struct fs=>match Jn T fs.toList with
     |some pl=>(sQ σ (λi=>pl[i]?) z ps.toList).map λl=>{ r:=.e<|.agg l }
     |none=>none
    | .array _ e=>match lP T e with
     |some te=>(sQ σ (λi=>some (i*te.i.size,te.i.size)) z ps.toList).map λl=>{ r:=.e<|.agg l }
     |none=>none
    |_=>none
   |none=>none
  |none=>none
 | .buildSlice t n ps=>match CG σ ps.toList with|some q=>Dh T σ o.dst t n q|none=>match lP T t with
  |some tt=>match tt.d with
   | .slice e=>match lP T e with
    |some te=>match An te with
     |some z=>if Nat.beq z.length te.i.size&&Nat.ble 1 te.i.size&&Nat.ble (n*te.i.size) 16777216 then
      (sQ σ (λi=>some (i*te.i.size,te.i.size)) (kq n z) ps.toList).bind λl=>
       if !(l.all<|E.nr 2)then none else if Ke O o.dst then Bl σ o.dst (.row (l.all E.lY) e n te.i.size λi j=>l.getD (i*te.i.size+j)<|.v<|.bool false) .own [True]
       else if l.all E.lY then some { r:=.e<|.sl true n te.i.size λi j=>l.getD (i*te.i.size+j)<|.v<|.bool false }
       else some { r:=.e<|.sl false n te.i.size λi j=>l.getD (i*te.i.size+j)<|.v<|.bool false }
      else none
     |none=>none
    |none=>none
   |_=>none
  |none=>none
 | .load t a=>KL T σ t<|σ.op a
 | .store t a x=>KP T σ t (σ.op a)<|σ.op x
 | .nilCheck x=>match σ.op x with
  | .box id off=>some { r:=.box id off }
  | .e (.ji m el)=>some { r:=.e<|.ji m el }
  | .e (.fn f c)=>some { r:=.e<|.fn f c }
  | .pN f c=>some { r:=.pN f c }
  |_=>none
 | .binOp op t x y _=>match σ.op x,σ.op y with
  | .e (.v<|.int k a),.e (.v<|.int k' b)=>
   match ahL O o.dst with
   |some v=>some { r:=.e<|.v v,jz:=[rk P op t (.v<|.int k a) (.v<|.int k' b) v] }
   |none=>if aaN op k k' then(Om op k a b).map λr=>{ r:=.e<|.v r.1,jz:=r.2 }else none
  | .e (.v<|.bool a),.e (.v<|.bool b)=>match yd T t with
   |some .bool=>match op with
    | .eql=>some { r:=.e<|.v<|.bool<|a==b }
    | .neq=>some { r:=.e<|.v<|.bool<|!(a==b) }
    |_=>none
   |_=>none
  | .e (.sl _ n _ _),.e (.v<|.slice none 0 0)=>match yd T t with
   |some (.slice _)=>match op with
    | .eql=>some { r:=.e<|.v<|.bool false,jz:=[0<n] }
    | .neq=>some { r:=.e<|.v<|.bool true,jz:=[0<n] }
    |_=>none
   |_=>none
  | .e a,.e b=>match ahN O o.dst with
   |some v=>some { r:=.e<|.v v,jz:=[rk P op t a b v] }
   |none=>none
  |_,_=>none
 | .unOp op _ x=>match op,σ.op x with
  | .not,.e (.v<|.bool b)=>some { r:=.e<|.v<|.bool<|!b }
  | .neg,.e (.v<|.int k z)=>some { r:=.e<|.v<|.int k<|0-z,jz:=[lJ k<|0-z] }
  |_,_=>none
 | .convert src dst x=>match yd T dst,lP T src,σ.op x with
  |some (.int k),some _,.e (.v<|.int _ z)=>some { r:=.e<|.v<|.int k<|k.wrap z }
  |_,_,_=>none
 | .makeFunc (.func f) first cap=>if first.isEmpty then match xZ (cap.toList.map σ.op)with
  |some l=>some { r:=.pN f l }
  |none=>none
  else none
 | .makeSlice t l c=>KN T σ o.dst t (σ.op l)<|σ.op c
 | .slice t x lo hi none=>match σ.op x with | .own id=>Dg T σ t id (lo.map σ.op) (hi.map σ.op)|y=>KO T t y (lo.map σ.op)<|hi.map σ.op
 | .fieldAddr t x f=>match yd T t with
  |some (.struct fs)=>match fs[f]? with
   |some fd=>match lP T fd.type with
    |some ft=>if Nat.beq ft.i.size 0 then none else match σ.op x with
     | .box id off=>some { r:=.box id<|off+fd.offset }
     | .oc id sz i j=>some { r:=.oc id sz i<|j+fd.offset }
     | .qS id sz k i j=>some { r:=.qS id sz k i<|j+fd.offset }
     | .e (.ji m el)=>if Nat.ble fd.offset m then some { r:=.e<|.ji (m-fd.offset) λj=>el<|fd.offset+j }else none
     |_=>none
    |none=>none
   |none=>none
  |_=>none
 | .indexAddr t x i=>KK T σ t (σ.op x)<|σ.op i
 | .index t x i=>match σ.op x,σ.op i with
  | .e (.agg l),.e (.v<|.int _ z)=>match lP T t with
   |some tt=>match tt.d with
    | .array n e=>match lP T e with
     |some te=>if te.isAgg&&Nat.beq (n*te.i.size) l.length then some { r:=.e<|.agg<|(l.drop<|z.toNat*te.i.size).take te.i.size,jz:=[0<=z/\z<n] }else none
     |none=>none
    |_=>none
   |none=>none
  |_,_=>none
 | .field t x f=>match σ.op x,yd T t with
  | .e (.agg l),some (.struct fs)=>match fs[f]? with
   |some fd=>match lP T fd.type with
    |some ft=>if ft.isAgg then none else match l[fd.offset]? with
     |some e=>some { r:=.e e }
     |none=>none
    |none=>none
   |none=>none
  |_,_=>none
 | .lookup t x i false=>match σ.op x,σ.op i,yd T t with
  | .e (.mp l),.e<|.v<|.int .i64 z,some (.map k _)=>match yd T k,ahK O o.dst with
   |some (.int .i64),some e=>some { r:=.e e,jz:=[zT l z=some e] }
   |_,_=>none
  |_,_,_=>none
 | .extract x i=>match σ.op x with
  | .e (.ix l)=>match l[i]? with
   |some e=>some { r:=.e e }
   |none=>none
  |_=>none
 | .call c=>match c.callee with
  | .builtin .len=>match c.args.toList,c.argTypes.toList with
   | [x],[t]=>match yd T t with
    |some (.slice _)=>(tu (σ.op x) σ).map λr=>{ r:=.e<|.v r.1,rb:=r.2 }
    |_=>none
   |_,_=>none
  | .builtin .append=>match c.args.toList,c.argTypes.toList with
   | [s,x],[t,t']=>if Nat.beq t t' then(match(σ.op x).F1 with|some q=>Df T σ o.dst t (σ.op s) q|none=>if Ke O o.dst then De T σ o.dst t (σ.op s) (σ.op x)else B3 T σ o.dst t (σ.op s) (σ.op x))else none
   |_,_=>none
  | .builtin .max=>match c.args.toList.map σ.op with
   | [.e<|.v<|.int k a,.e<|.v<|.int _ b]=>some { r:=.e<|.v<|.int k<|if b>a then b else a }
   | [.e<|.v<|.int k a,.e<|.v<|.int _ b,.e<|.v<|.int _ z]=>some { r:=.e<|.v<|.int k<|if z>(if b>a then b else a)then z else(if b>a then b else a) }
   |_=>none
  | .builtin .min=>match c.args.toList.map σ.op with
   | [.e<|.v<|.int k a,.e<|.v<|.int _ b]=>some { r:=.e<|.v<|.int k<|if b<a then b else a }
   |_=>none
  | .value f=>match ahM O o.dst with|some lr=>B5 P K σ (σ.op f) c.args.toList lr.1 lr.2|none=>match σ.op f,ub σ c.args.toList with
   | .e (.fn g cap),some (xs,is)=>B4 P K O σ o.dst g (xs++cap) is<|(c.args.toList.map σ.op).any<|PV.vi σ
   | .pN g cap,some (xs,is)=>match vQ σ cap with
    |some (ys,js)=>B4 P K O σ o.dst g (xs++ys) (is++js)<|(c.args.toList.map σ.op).any (PV.vi σ)||cap.any CV.IC
    |none=>none
   |_,_=>none
  |_=>none
 |_=>none
def jl(L:Lk)(x:Nat):Prop:=∃ id,L.own id x
def bad(B:Nat->Prop)(L:Lk)(x:Nat):Prop:=B x\/jl L x
section
variable(bs br:Nat->Prop)(L:Lk)(w:World)
def xR:CV->Value->Prop
 | .e x,v=>iI bs br w x v
 | .box id,v=>L.lX id/\∃ b,L.val id = .pointer (some ⟨b,0,none⟩)/\v = .pointer (some ⟨b,0,none⟩)
 | .row id,v=>L.lX id/\∃ b ofs n c,L.val id = .slice (some ⟨b,ofs,none⟩) n c/\v = .pointer (some ⟨b,ofs,none⟩)
def kD:PV->Value->Prop
 | .e x,v=>iI bs br w x v
 | .box id off,v=>L.lX id/\∃ b,L.val id = .pointer (some ⟨b,0,none⟩)/\v = .pointer (some ⟨b,off,none⟩)
 | .own id,v=>L.lX id/\v=L.val id
 | .oc id sz i j,v=>L.lX id/\∃ b ofs n c,L.val id = .slice (some ⟨b,ofs,none⟩) n c/\v = .pointer (some ⟨b,ofs+(i*sz+j),none⟩)
 | .iG id k,v=>L.lX id/\v=L.iG id k
 | .qS id sz k i j,v=>L.lX id/\∃ b ofs n c,L.iG id k = .slice (some ⟨b,ofs,none⟩) n c/\v = .pointer (some ⟨b,ofs+(i*sz+j),none⟩)
 | .pN f cap,v=>∃ vs:List Value,v = .func (.func f) #[] vs.toArray/\vs.length=cap.length/\∀ (i:Nat) (c:CV) (x:Value),cap[i]? = some c->vs[i]? = some x->xR bs br L w c x
end
def PV.le(p q:PV):Prop:=∀ (bs br:Nat->Prop) (L:Lk) (w:World) (v:Value),kD bs br L w p v->kD bs br L w q v
abbrev aj(a b:E):Prop:=PV.le (.e a)<|.e b
def vO(P:Program)(K:World->Prop)(T:List TI)(O:qw)(σ:PS)(o:Oper):Option ko:=match jG P K T O σ o with
 |some u=>match o.dst with
  |some d=>match look O.ov d with
   |some p=>some { u with r:=p,jz:=PV.le u.r p::u.jz }
   |none=>some u
  |none=>some u
 |none=>none
def BG(ij:Array Oper)(σ:PS)(o:Oper):Option Bool:=match o.guard with
 |none=>some true
 |some (j,want)=>match(ij[j]?).bind (·.dst)with
  |some t=>match σ.get t with
   | .e (.v<|.bool true)=>some want
   | .e (.v<|.bool false)=>some<|!want
   | .e (.v<|.tuple _)=>some false
   |_=>none
  |none=>none
def PS.app(σ:PS)(d:Option Tmp)(u:ko):PS:=(σ.nT u.f).put d u.r
def xt(σ:PS):Option Tmp->Bool
 |some d=>Nat.blt d σ.n
 |none=>true
def Jh:Op->List Operand
 | .move x | .assign x | .box _ x | .load _ x | .nilCheck x | .unOp _ _ x | .convert _ _ x | .fieldAddr _ x _ | .field _ x _ | .extract x _=>[x]
 | .pick c a b=>[c,a,b]
 | .build _ ps | .buildSlice _ _ ps=>ps.toList.map (·.2)
 | .store _ a v | .binOp _ _ a v _ | .makeSlice _ a v | .indexAddr _ a v | .index _ a v | .lookup _ a v _=>[a,v]
 | .makeFunc _ first captured=>first.toList++captured.toList
 | .slice _ x l h m=>x::(l.toList++h.toList++m.toList)
 | .call c=>(match c.callee with | .value f=>[f] | .invoke r _=>[r] | .builtin _=>[])++c.args.toList
 |_=>[]
def Gl:List Operand->List Tmp
 | []=>[]
 | .tmp t::l=>t::Gl l
 |_::l=>Gl l
def looks(ij:Array Oper)(o:Oper):List Tmp:=Gl (Jh o.op)++(match o.guard with
 |some (g,_)=>((ij[g]?).bind (·.dst)).toList
 |none=>[])
def mj.Be:mj->List Nat
 | .none=>[]
 | .new i _ | .oR i _ | .oX i _ | .sw i _ | .fin i | .xJ i _=>[i]
 | .oM i r _=>[i,r]
def Bx.pr(f:mj)(b:Bx):Bool:=f.wM&&b.kN.any λr=>f.Be.any λi=>Nat.beq i r
def PS.pr(σ:PS)(f:mj):Bool:=f.wM&&σ.b.any λx=>match σ.bo x.1 with
 |some b=>b.pr f
 |none=>false
def mj.NV:mj->List Nat
 | .new _ b | .oR _ b | .oX _ b | .sw _ b | .xJ _ b | .oM _ _ b=>b.kN
 |_=>[]
def mj.id:mj->Option Nat
 | .none=>Option.none
 | .new i _ | .oR i _ | .oX i _ | .sw i _ | .fin i | .oM i _ _ | .xJ i _=>some i
def PS.yL(σ:PS)(f:mj):List Nat:=match f.id with
 |some i=>(match σ.bo i with
  |some b=>b.kN
  |none=>[])
 |none=>[]
def rK(P:Program)(K:World->Prop)(T:List TI)(O:qw)(ij:Array Oper)(σ:PS)(o:Oper):Option ko:=
 if xt σ o.dst then match BG ij σ o with
  |some true=>match vO P K T O σ o with
   |some u=>some { u with rd:=(looks ij o).map σ.get,hb:=σ.pr u.f,ob:=σ.yL u.f }
   |none=>none
  |some false=>some { r:=.e<|.v<|.tuple #[],rd:=(looks ij o).map σ.get }
  |none=>none
 else none
def Pc(l:List Nat)(n:Nat):Bool:=l.any<|Nat.beq n
def mj.yD:mj->Bool
 | .oM ..=>true
 | .xJ ..=>true
 |_=>false
def Bj:mj->PV->Bool
 | .oX id _,.own i=>!Nat.beq i id
 | .oX id _,.oc i _ _ _=>!Nat.beq i id
 | .oX id _,.pN _ cap=>!cap.any (CV.ID id)
 | .sw id _,.iG i _=>!Nat.beq i id
 | .sw id _,.qS i _ _ _ _=>!Nat.beq i id
 | .fin id,p=>!p.kN.any (Nat.beq id)
 |_,_=>true
def yK(l:List Nat):Option Nat->Bool
 |some d=>!Pc l d
 |none=>true
def MS:Option Nat->Option Nat->Bool
 |some a,some b=>!Nat.beq a b
 |_,_=>true
def QU:PV->Bool
 | .e .any=>false
 |_=>true
def DT(ij:Array Oper)(x y:Oper×ko):Bool:=
 yK (looks ij y.1) x.1.dst&&MS x.1.dst y.1.dst&&yK (looks ij x.1) y.1.dst &&
 yK y.2.rb x.2.f.id&&yK x.2.rb y.2.f.id&&MS x.2.f.id y.2.f.id&&Bj x.2.f y.2.r&&Bj y.2.f x.2.r &&
 (!x.2.f.wM||y.2.rd.all QU)&&x.2.rd.all (Bj y.2.f) && !x.2.f.yD && !y.2.f.yD &&
 !x.2.hb && !y.2.hb&&yK x.2.ob y.2.f.id&&yK y.2.ob x.2.f.id&&yK x.2.f.NV y.2.f.id&&yK y.2.f.NV x.2.f.id
def DU(o:Oper)(i:Nat):Bool:=o.after.toList.any λe=>Region.binds .any e&&Nat.beq e.on i
def CJ(ij:Array Oper):Nat->Oper->Nat->Bool
 | 0,o,i=>DU o i
 |n+1,o,i=>DU o i||o.after.toList.any λe=>Region.binds .any e&&(match ij[e.on]? with
  |some z=>CJ ij n z i
  |none=>false)
def F2(ij:Array Oper):Nat->List (Oper×ko)->Bool
 |_,[]=>true
 |i,x::l=>x.1.after.toList.all (λe=>!Region.binds .any e||Nat.blt e.on i)&&l.all (λy=>CJ ij 3 y.1 i||DT ij x y)&&F2 ij (i+1) l
def JL(σ:PS):PV->Option E
 | .e x=>if x.nr 3 then some x else none
 | .own id=>match σ.bo id with
  |some (.row nl _ n sz el)=>some<|.sl nl n sz el
  |some (.iT nl _ _ n sz len el none)=>some<|.sl true n 1 λk _=>.sl nl (len k) sz<|el k
  |_=>none
 | .iG id k=>match σ.bo id with
  |some (.iT nl _ _ n sz len el none)=>if Nat.blt k n then some (.sl nl (len k) sz<|el k)else none
  |_=>none
 |_=>none
def RB(T:List TI)(σ:PS):ResultVar->Option E
 | .tmp t=>JL σ<|σ.get t
 | .cell a t=>match lP T t with
  |some ti=>match σ.read (σ.get a) ti.i.size with
   |some (l,_,[])=>if ti.isAgg then(if(E.agg l).nr 3 then some (.agg l)else none)else match l with
    | [e]=>if e.nr 3 then some e else none
    |_=>none
   |_=>none
  |none=>none
def F7(T:List TI)(σ:PS):List ResultVar->Option (List E)
 | []=>some []
 |x::l=>match RB T σ x,F7 T σ l with
  |some e,some es=>some<|e::es
  |_,_=>none
def Mq(T:List TI)(fn:Func)(σ:PS):Option E:=match F7 T σ fn.results.toList with
 |some [e]=>some e
 |some l=>some<|.ix l
 |none=>none
inductive Ex where
 |normal
 |exit (id:Nat)
 |ret
def Hl:Code->Nat
 | .region id _ _=>id
 | .seq a _=>Hl a
 | .cond _ a _=>Hl a
 | .block _ b=>Hl b
 | .loop b=>Hl b
 |_=>0
def IA:Nat->List E->List (Nat×PV)
 |_,[]=>[]
 |i,x::l=>(i,.e x)::IA (i+1) l
def Cs(fn:Func)(nl:Bool)(args:List E):PS:={ n:=fn.ntmps,nl:=nl,t:=IA 0 args,b:=[] }
def ku{a b:Nat}:Nat.beq a b=true↔a=b:=⟨Nat.eq_of_beq_eq_true,λh=>by subst h;exact cw a⟩
def cM{a b:Nat}(h:a≠b):Nat.beq a b=false:=by
 cases hb:Nat.beq a b with
 |false=>rfl
 |true=>exact absurd (ku.1 hb) h
def tK{α:Type}(k:Nat)(x:α)(l:List<|Nat×α)(t:Nat):look ((k,x)::l) t=if k=t then some x else look l t:=by
 by_cases h:k=t
 .subst h;simp[look]
 .simp [look,h,cM h]
def IT{α:Type}(l:List<|Nat×α)(d t:Nat)(h:d≠t):look (l.filter λx=>!Nat.beq x.1 d) t=look l t:=by
 induction l with
 |nil=>rfl
 |cons y l ih=>
  obtain⟨k,x⟩:=y;rw[List.filter_cons];by_cases hk:k=d
  .subst hk;simp only[cw,fF,bC,bh];rw[ih,tK,aX h]
  .simp only[cM hk,eH,bA];rw[tK,tK,ih]
def LM{α:Type}(l:List<|Nat×α)(f:α->α)(t:Nat):look (l.map λx=>(x.1,f x.2)) t=(look l t).map f:=by
 induction l with
 |nil=>rfl
 |cons y l ih=>
  obtain⟨k,x⟩:=y;rw[eI,tK,tK,ih];split<;>rfl
def PS.OM(σ:PS)(d:Nat)(p:PV)(t:Nat):(σ.put (some d) p).get t=if d=t then p else σ.get t:=by
 unfold PS.get PS.put;simp only[tK];by_cases h:d=t
 .rw [aY h,aY h];rfl
 .rw [aX h,aX h,IT _ _ _ h]
section
variable(σ:PS)(d:Option Tmp)(p:PV)
def PS.adZ(id:Nat):(σ.put d p).bo id=σ.bo id:=by cases d<;>rfl
def PS.QE:(σ.put d p).n=σ.n:=by cases d<;>rfl
def PS.alp:(σ.put d p).nl=σ.nl:=by cases d<;>rfl
end
def D2(l:List<|Nat×Bx)(id:Nat)(b:Bx)(t:Nat):look (uS l id b) t=if id=t then some b else look l t:=by
 unfold uS;rw[tK];by_cases h:id=t
 .rw [aY h,aY h]
 .rw [aX h,aX h,IT _ _ _ h]
def Yq{α:Type}(l:List<|Nat×α)(d:Nat):look (l.filter λx=>!Nat.beq x.1 d) d=none:=by
 induction l with
 |nil=>rfl
 |cons y l ih=>
  obtain⟨k,x⟩:=y;rw[List.filter_cons];by_cases hk:k=d
  .subst hk;simpa only[cw,fF,bC,bh]using ih
  .simp only[cM hk,eH,bA];rw[tK,aX hk,ih]
def D1{α:Type}(l:List<|Nat×α)(i id:Nat):look (l.filter λx=>!Nat.beq x.1 i) id=if i=id then none else look l id:=by
 by_cases h:i=id
 .subst h;rw[aY rfl];exact Yq _ _
 .rw [aX h];exact IT _ _ _ h
def D3(b:Bx):b.q9 (λp=>p)=b:=by cases b<;>simp[Bx.q9]
def Yz{b:Bx}{g:PV->PV}(h:∀ p,p ∈ b.Mg->g p=p):b.q9 g=b:=by
 cases b with
 |pQ nl T l=>
  simp only[Bx.q9,Bx.pQ.injEq,true_and]
  conv=>rhs;rw[<-List.map_id l]
  exact ef h
 |_=>rfl
def D4(b:Bx)(g:PV->PV):(b.q9 g).nl=b.nl:=by cases b<;>rfl
def ab2{f:mj}(h:f.wM=false)(p:PV):p.kP f=p:=by
 cases f<;>first|(exact Bool.noConfusion h)|(cases p<;>rfl)
def PS.BT(σ:PS)(f:mj)(i:Nat):look (σ.pre f) i=(σ.bo i).map (Bx.q9<|PV.kP f):=by
 unfold PS.pre PS.bo;by_cases h:f.wM=true
 .rw [aY h,LM]
 .rw [aX h];cases look σ.b i with
  |none=>rfl
  |some b=>simp only[cg];rw[Yz λp _=>ab2 (by simpa using h) p]
def PS.Dm(σ:PS)(f:mj)(t:Nat):(σ.nT f).get t=(σ.get t).kP f:=by
 unfold PS.get PS.nT;by_cases h:f.wM=true
 .simp only[h,bA];rw[LM];cases look σ.t t with
  |none=>cases f<;>rfl
  |some p=>rfl
 .have hv:∀ p:PV,p.kP f=p:=by
   intro p;cases f<;>first|exact absurd rfl h|(cases p<;>rfl)
  simp only[h,hv];rfl
def nB(bs br:Nat->Prop)(L:Lk)(w:World)(id:Nat):Bx->Prop
 | .cells T l=>∃ b vs,L.val id = .pointer (some ⟨b,0,none⟩)/\(∀ x,L.own id x↔x=b)/\w.heap[b]? = some (.cells vs.toArray T (0,0))/\kf bs br w l vs/\∀ u,u ∈ vs->u.oneCell'=true
 | .row nl T n sz el=>∃ f:Nat->Nat->Value,nb w (L.val id) T n sz f nl/\(∀ x,L.own id x↔(L.val id).ownBlock=some x)/\∀ i j,i<n->j<sz->iI bs br w (el i j) (f i j)/\(el i j).nr 2=true
 | .iT nl T1 T0 n sz len el pend=>(L.val id = .slice none 0 0/\n=0/\∀ x,¬L.own id x)\/xT bs br L w id nl T1 T0 n sz len el pend
 | .Ak nl T1 T0 n sz len el c r=>xT bs br L w id nl T1 T0 n sz len el (some c)/\c<n/\r<n/\∀ (b ofs m q:Nat),L.val id = .slice (some ⟨b,ofs,none⟩) m q->w.cell? ⟨b,ofs+c,none⟩=some (L.iG id r)
 | .uJ T b l=>∃ vs,L.val id = .pointer (some ⟨b,0,none⟩)/\(∀ x,L.own id x↔x=b)/\w.heap[b]? = some (.cells vs.toArray T (0,0))/\kf bs br w l vs/\∀ u,u ∈ vs->u.oneCell'=true
 | .pQ nl T l=>∃ (b:Nat) (vs:List Value),L.val id = .pointer (some ⟨b,0,none⟩)/\(∀ x,L.own id x↔x=b)/\w.heap[b]? = some (.cells vs.toArray T (0,0))/\vs.length=l.length /\
  (∀ (i:Nat) (p:PV) (v:Value),l[i]? = some p->vs[i]? = some v->kD bs br L w p v)/\∀ u,u ∈ vs->u.oneCell'=true/\(nl=true->pU u=false)
def nB.vE{bs br:Nat->Prop}{L:Lk}{w:World}{id:Nat}{nl:Bool}{T1 T0 n sz:Nat}{len:Nat->Nat}{el:Nat->Nat->Nat->E}{pend:Option Nat}(h:nB bs br L w id<|.iT nl T1 T0 n sz len el pend)(hn:0<n):
 xT bs br L w id nl T1 T0 n sz len el pend:=by
 rcases h with⟨_,h,_⟩|h
 .omega
 .exact h
structure mA where
 w:World
 ex:Nat->Prop
def mA.uT(o:mA)(x:Nat):Prop:=x<o.w.heap.size/\¬o.ex x
structure uU(o:mA)(w w':World):Prop where
 os:w'.os=w.os
 tape:w'.tape=w.tape
 output:w'.output=w.output
 size:w.heap.size<=w'.heap.size
 block:∀ x,o.uT x->w'.heap[x]? = w.heap[x]?
def uU.refl(o:mA)(w:World):uU o w w:=⟨rfl,rfl,rfl,a7 _,λ_ _=>rfl⟩
def uU.trans{o:mA}{a b c:World}(h:uU o a b)(k:uU o b c):uU o a c:=⟨k.os.trans h.os,k.tape.trans h.tape,k.output.trans h.output,bg h.size k.size,λx hx=>(k.block x hx).trans<|h.block x hx⟩
def mA.Zs{o:mA}{n x:Nat}(h:o.w.heap.size<=n)(k:n<=x):¬o.uT x:=λh'=>absurd h'.1<|Nat.not_lt.2<|bg h k
structure jd(w0:mA)(B:Nat->Prop)(σ:PS)(a:Act)(w:World)(L:Lk):Prop where
 hd:a.defers=[]
 hs:a.tmps.size=σ.n
 ht:∀ t,kD (bad B L) (jl L) L w (σ.get t)<|a.tmps.getD t undef
 hb:∀ id b,σ.bo id=some b->nB (bad B L) (jl L) L w id b
 hv:∀ id,L.lX id↔(σ.bo id).isSome=true
 hn:∀ id x,L.own id x->L.lX id
 hw:∀ id x,L.own id x->¬w0.uT x/\x<w.heap.size
 hi:∀ id id' x,L.own id x->L.own id' x->id=id'
 he:uU w0 w0.w w
 hl:σ.nl=true->∀ id b,σ.bo id=some b->b.nl=true
def uU.below{a w w':World}(h:uU ⟨a,λ_=>False⟩ w w'):Below a.heap.size w w':=⟨h.os,h.tape,h.output,h.size,λx hx=>h.block x ⟨hx,λh=>h⟩⟩
def jd.aje{a:World}{B:Nat->Prop}{σ:PS}{c:Act}{w:World}{L:Lk}(r:jd ⟨a,λ_=>False⟩ B σ c w L){id x:Nat}(hx:L.own id x):a.heap.size<=x/\x<w.heap.size:=
 ⟨Nat.not_lt.1 λh=>(r.hw id x hx).1 ⟨h,λh=>h⟩,(r.hw id x hx).2⟩
structure qv(L:Lk)(w:World)(L':Lk)(w':World):Prop where
 size:w.heap.size<=w'.heap.size
 jl:∀ x,x<w.heap.size->Pu.jl L' x->Pu.jl L x
 nY:∀ x,x<w.heap.size->¬Pu.jl L x->w'.heap[x]? = w.heap[x]?
def qv.kq{B:Nat->Prop}{L L':Lk}{w w':World}(h:qv L w L' w'){e:E}{v:Value}(k:iI (bad B L) (Pu.jl L) w e v):iI (bad B L') (Pu.jl L') w' e v:=by
 refine k.mono h.size (λb hb hx=>?_) (λb hb hx=>h.jl b hb hx) λb hb xm=>h.nY b hb ?_
 .rcases hx with hx|hx
  .exact .inl hx
  .exact .inr<|h.jl b hb hx
 .rcases xm with xm|xm
  .exact λhm=>xm<|.inr hm
  .exact xm
def qv.refl(L:Lk)(w:World):qv L w L w:=⟨a7 _,λ_ _ h=>h,λ_ _ _=>rfl⟩
def nb.block{w w':World}{v:Value}{T:TypeId}{n sz:Nat}{f:Nat->Nat->Value}{nl:Bool}(h:nb w v T n sz f nl)
 (hk:∀ x,v.ownBlock=some x->w'.heap[x]? = w.heap[x]?):nb w' v T n sz f nl:=by
 rcases h with h|⟨b,ofs,c,cur,rfl,hg,r⟩
 .exact .inl h
 .exact .inr ⟨b,ofs,c,cur,rfl,by rw[hk b rfl];exact hg,r⟩
def xT.map{B:Nat->Prop}{L L':Lk}{w w':World}(h:qv L w L' w'){id:Nat}{nl:Bool}{T1 T0 n sz:Nat}{len:Nat->Nat}{el:Nat->Nat->Nat->E}{pend:Option Nat}(k:xT (bad B L) (jl L) L w id nl T1 T0 n sz len el pend)
 (hv:L'.val id=L.val id) (ho:∀ x,L'.own id x↔L.own id x) (kS:∀ j,L'.iG id j=L.iG id j) (hk:∀ x,L.own id x->w'.heap[x]? = w.heap[x]?):xT (bad B L') (jl L') L' w' id nl T1 T0 n sz len el pend:=by
 obtain⟨b,ofs,c,cur,f,h1,h2,h3,h4,h5,h6,h7,h8,h9,nh,nW⟩:=k;have e:L'.iG id=L.iG id:=funext kS;refine⟨b,ofs,c,cur,f,by rw[hv];exact h1,by rw[hk b<|(h9 b).2<|.inl rfl];exact h2,h3,h4,h5,by rw[e];exact h6,h7,?_,?_,by rw[e];exact nh,by rw[e];exact nW⟩
 .intro k xh;obtain⟨q1,q2⟩:=h8 k xh;rw[e];exact⟨q1.block λx hx=>hk x<|(h9 x).2<|.inr ⟨k,xh,hx⟩,λi j hi hj=>⟨h.kq (q2 i j hi hj).1,(q2 i j hi hj).2⟩⟩
 .intro x;rw[ho,e];exact h9 x
def nB.map{B:Nat->Prop}{L L':Lk}{w w':World}(h:qv L w L' w'){id:Nat}{b:Bx}{g g':PV->PV}(k:nB (bad B L) (jl L) L w id<|b.q9 g)
 (hv:L'.val id=L.val id) (ho:∀ x,L'.own id x↔L.own id x) (kS:∀ j,L'.iG id j=L.iG id j) (hk:∀ x,L.own id x->w'.heap[x]? = w.heap[x]?)
 (hT:∀ p v,p ∈ b.Mg->kD (bad B L) (jl L) L w (g p) v->kD (bad B L') (jl L') L' w' (g' p) v):nB (bad B L') (jl L') L' w' id<|b.q9 g':=by
 cases b with
 |pQ nl T l=>
  obtain⟨b,vs,h1,h2,h3,h4,h5,h6⟩:=k;refine⟨b,vs,by rw[hv];exact h1,λx=>(ho x).trans<|h2 x,by rw[hk b<|(h2 b).2 rfl];exact h3,by simpa using h4,λi p v hp hx=>?_,h6⟩;rw[ch]at hp;obtain⟨q,hq,rfl⟩:=bU.1 hp;exact hT q v (dO hq)<|h5 i (g q) v (by rw[ch,hq];rfl) hx
 |cells T l=>
  obtain⟨b,vs,h1,h2,h3,h4,h5⟩:=k;exact⟨b,vs,by rw[hv];exact h1,λx=>(ho x).trans<|h2 x,by rw[hk b<|(h2 b).2 rfl];exact h3,h4.mono λ_ _=>h.kq,h5⟩
 |row nl T n sz el=>
  obtain⟨f,h1,h2,h3⟩:=k;exact⟨f,by rw[hv];exact h1.block λx hx=>hk x<|(h2 x).2 hx,λx=>by rw[ho,hv];exact h2 x,λi j hi hj=>⟨h.kq (h3 i j hi hj).1,(h3 i j hi hj).2⟩⟩
 |uJ T b l=>
  obtain⟨vs,h1,h2,h3,h4,h5⟩:=k;exact⟨vs,by rw[hv];exact h1,λx=>(ho x).trans<|h2 x,by rw[hk b<|(h2 b).2 rfl];exact h3,h4.mono λ_ _=>h.kq,h5⟩
 |Ak nl T1 T0 n sz len el c r=>
  obtain⟨k,k1,k2,k3⟩:=k;have e:L'.iG id=L.iG id:=funext kS;refine⟨xT.map h k hv ho kS hk,k1,k2,λb ofs m q hq=>?_⟩;rw[hv]at hq;obtain⟨b0,_,_,_,_,g1,_,_,_,_,_,_,_,g9,_⟩:=k;have ln:b0=b:=by rw[hq]at g1;cases g1;rfl
  subst ln;rw[World.cell?_of_block (w:=w)<|hk b0<|(g9 b0).2<|.inl rfl,e];exact k3 b0 ofs m q hq
 |iT nl T1 T0 n sz len el pend=>
  rcases k with⟨h1,h2,h3⟩|k
  .exact .inl ⟨by rw[hv];exact h1,h2,λx hx=>h3 x<|(ho x).1 hx⟩
  exact .inr<|xT.map h k hv ho kS hk
section
variable{B:Nat->Prop}{L L':Lk}{w w':World}(h:qv L w L' w')
def nB.later{id:Nat}{b:Bx}(k:nB (bad B L) (jl L) L w id b)
 (hv:L'.val id=L.val id) (ho:∀ x,L'.own id x↔L.own id x) (kS:∀ j,L'.iG id j=L.iG id j) (hk:∀ x,L.own id x->w'.heap[x]? = w.heap[x]?)
 (hT:∀ p v,p ∈ b.Mg->kD (bad B L) (jl L) L w p v->kD (bad B L') (jl L') L' w' p v):nB (bad B L') (jl L') L' w' id b:=by
 have:=nB.map (g:=λp=>p) (g':=λp=>p) h (b:=b) (by rw[D3];exact k) hv ho kS hk hT;rwa[D3]at this
def xR.later{c:CV}{v:Value}(k:xR (bad B L) (jl L) L w c v)
 (hv:∀ id,L.lX id->L'.lX id/\L'.val id=L.val id):xR (bad B L') (jl L') L' w' c v:=by
 cases c with
 |e x=>exact h.kq k
 |box id=>obtain⟨k1,b,k2,k3⟩:=k;exact⟨(hv id k1).1,b,by rw[(hv id k1).2];exact k2,k3⟩
 |row id=>obtain⟨k1,b,ofs,n,c,k2,k3⟩:=k;exact⟨(hv id k1).1,b,ofs,n,c,by rw[(hv id k1).2];exact k2,k3⟩
end
def kD.later{B:Nat->Prop}{L L':Lk}{w w':World}(h:qv L w L' w'){p:PV}{v:Value}(k:kD (bad B L) (jl L) L w p v)
 (hv:∀ id,L.lX id->L'.lX id/\L'.val id=L.val id/\∀ j,L'.iG id j=L.iG id j):kD (bad B L') (jl L') L' w' p v:=by
 cases p with
 |e x=>exact h.kq k
 |box id off=>obtain⟨k1,b,k2,k3⟩:=k;exact⟨(hv id k1).1,b,by rw[(hv id k1).2.1];exact k2,k3⟩
 |own id=>obtain⟨k1,k2⟩:=k;exact⟨(hv id k1).1,by rw[(hv id k1).2.1];exact k2⟩
 |oc id sz i j=>obtain⟨k1,b,ofs,n,c,k2,k3⟩:=k;exact⟨(hv id k1).1,b,ofs,n,c,by rw[(hv id k1).2.1];exact k2,k3⟩
 |iG id q=>obtain⟨k1,k2⟩:=k;exact⟨(hv id k1).1,by rw[(hv id k1).2.2];exact k2⟩
 |qS id sz q i j=>obtain⟨k1,b,ofs,n,c,k2,k3⟩:=k;exact⟨(hv id k1).1,b,ofs,n,c,by rw[(hv id k1).2.2];exact k2,k3⟩
 |pN f cap=>
  obtain⟨vs,k1,k2,k3⟩:=k;exact⟨vs,k1,k2,λi c x hc hx=>(k3 i c x hc hx).later h λid hl=>⟨(hv id hl).1,(hv id hl).2.1⟩⟩
def kD.move{B:Nat->Prop}{L L':Lk}{w w':World}(h:qv L w L' w'){p:PV}{v:Value}(k:kD (bad B L) (jl L) L w p v)
 (hv:∀ id,id ∈ p.kN->L.lX id->L'.lX id/\L'.val id=L.val id/\∀ j,L'.iG id j=L.iG id j):kD (bad B L') (jl L') L' w' p v:=by
 cases p with
 |e x=>exact h.kq k
 |box id off=>obtain⟨k1,b,k2,k3⟩:=k;have q:=hv id (by simp[PV.kN]) k1;exact⟨q.1,b,by rw[q.2.1];exact k2,k3⟩
 |own id=>obtain⟨k1,k2⟩:=k;have q:=hv id (by simp[PV.kN]) k1;exact⟨q.1,by rw[q.2.1];exact k2⟩
 |oc id sz i j=>obtain⟨k1,b,ofs,n,c,k2,k3⟩:=k;have q:=hv id (by simp[PV.kN]) k1;exact⟨q.1,b,ofs,n,c,by rw[q.2.1];exact k2,k3⟩
 |iG id r=>obtain⟨k1,k2⟩:=k;have q:=hv id (by simp[PV.kN]) k1;exact⟨q.1,by rw[q.2.2];exact k2⟩
 |qS id sz r i j=>obtain⟨k1,b,ofs,n,c,k2,k3⟩:=k;have q:=hv id (by simp[PV.kN]) k1;exact⟨q.1,b,ofs,n,c,by rw[q.2.2];exact k2,k3⟩
 |pN f cap=>
  obtain⟨vs,k1,k2,k3⟩:=k;refine⟨vs,k1,k2,λi c x hc hx=>?_⟩;have q:=k3 i c x hc hx;cases c with
  |e y=>exact h.kq q
  |box id=>
   obtain⟨q1,b,q2,q3⟩:=q;have r:=hv id (by simp only[PV.kN,dG];exact⟨.box id,dO hc,by simp[CV.kN]⟩) q1;exact⟨r.1,b,by rw[r.2.1];exact q2,q3⟩
  |row id=>
   obtain⟨q1,b,ofs,n,c,q2,q3⟩:=q;have r:=hv id (by simp only[PV.kN,dG];exact⟨.row id,dO hc,by simp[CV.kN]⟩) q1;exact⟨r.1,b,ofs,n,c,by rw[r.2.1];exact q2,q3⟩
def jd.later{w0:mA}{B:Nat->Prop}{σ:PS}{a:Act}{w w':World}{L:Lk}(r:jd w0 B σ a w L)(h:Below w.heap.size w w'):jd w0 B σ a w' L:=by
 have hl:qv L w L w':=⟨h.size,λ_ _ h=>h,λx hx _=>h.block x hx⟩
 refine⟨r.hd,r.hs,λt=>(r.ht t).later hl λid k=>⟨k,rfl,λ_=>rfl⟩,λid b hb=>(r.hb id b hb).later hl rfl (λ_=>Iff.rfl) (λ_=>rfl) (λx hx=>h.block x (r.hw id x hx).2) (λp v _ k=>k.later hl λid k=>⟨k,rfl,λ_=>rfl⟩),r.hv,r.hn,
  λid x hx=>⟨(r.hw id x hx).1,bM (r.hw id x hx).2 h.size⟩,r.hi,r.he.trans ⟨h.os,h.tape,h.output,h.size,λx hx=>h.block x<|bM hx.1 r.he.size⟩,r.hl⟩
def jd.drew{w0:mA}{B:Nat->Prop}{σ:PS}{a:Act}{w:World}{L:Lk}(r:jd w0 B σ a w L):jd w0 B σ a w.drew L:=r.later (Below.refl _ _).drew
def jd.put{w0:mA}{B:Nat->Prop}{σ:PS}{a:Act}{w:World}{L:Lk}(r:jd w0 B σ a w L)(d:Option Tmp)(p:PV)(v:Value)(hd:xt σ d=true)(hp:kD (bad B L) (jl L) L w p v):jd w0 B (σ.put d p) (a.put d v) w L:=by
 cases d with
 |none=>exact r
 |some d=>
  have Hz:d<σ.n:=by simpa[xt,fG]using hd
  refine⟨r.hd,by simp[Act.put,r.hs,PS.QE],λt=>?_,λid b hb=>r.hb id b hb,r.hv,r.hn,r.hw,r.hi,r.he,r.hl⟩;rw[PS.OM];by_cases h:d=t
  .subst h;rw[aY rfl];have:(a.put (some d) v).tmps.getD d undef=v:=by
    simp[Act.put,arx,r.hs,Hz]
   rw[this];exact hp
  .rw [aX h];have:(a.put (some d) v).tmps.getD t undef=a.tmps.getD t undef:=by
    simp[Act.put,gp h]
   rw[this];exact r.ht t
def jd.op{w0:mA}{B:Nat->Prop}{σ:PS}{a:Act}{w:World}{L:Lk}(r:jd w0 B σ a w L)(x:Operand):kD (bad B L) (jl L) L w (σ.op x)<|a.eval x:=by
 cases x with
 |tmp t=>exact r.ht t
 |const v=>exact .v v
 |global g=>exact .v _
 |func f=>exact .fn f [] [] rfl (λi p x h=>by simp at h)
def Lk.set(L:Lk)(id:Nat)(O:Nat->Prop)(v:Value)(iG:Nat->Value):Lk:=
 {lX:=λi=>i=id\/L.lX i
  own:=λi x=>if i=id then O x else L.own i x
  val:=λi=>if i=id then v else L.val i
  iG:=λi=>if i=id then iG else L.iG i }
section
variable {L:Lk} {id:Nat} {O:Nat->Prop} {v:Value} {iG:Nat->Value}
def Lk.px(x:Nat):(L.set id O v iG).own id x↔O x:=by simp[Lk.set]
def Lk.mU:(L.set id O v iG).val id=v:=by simp[Lk.set]
def Lk.nR(k:Nat):(L.set id O v iG).iG id k=iG k:=by simp[Lk.set]
def Lk.Ah:(L.set id O v iG).lX id:=.inl rfl
section
variable{i:Nat}(h:i≠id)
def Lk.yR(x:Nat):(L.set id O v iG).own i x↔L.own i x:=by simp[Lk.set,h]
def Lk.Ai:(L.set id O v iG).val i=L.val i:=by simp[Lk.set,h]
def Lk.Er(k:Nat):(L.set id O v iG).iG i k=L.iG i k:=by simp[Lk.set,h]
end
end
structure pM(L:Lk)(w:World)(id:Nat)(O:Nat->Prop)(w':World):Prop where
 own:∀ x,O x->(L.own id x\/w.heap.size<=x)/\x<w'.heap.size
 size:w.heap.size<=w'.heap.size
 nY:∀ x,x<w.heap.size->¬L.own id x->w'.heap[x]? = w.heap[x]?
 os:w'.os=w.os
 tape:w'.tape=w.tape
 output:w'.output=w.output
def pM.later{L:Lk}{w:World}{id:Nat}{O:Nat->Prop}{w':World}(h:pM L w id O w')(v:Value)(iG:Nat->Value):qv L w (L.set id O v iG) w':=by
 refine⟨h.size,λx hx hm=>?_,λx hx hm=>h.nY x hx λho=>hm ⟨id,ho⟩⟩;obtain⟨i,hi⟩:=hm;by_cases e:i=id
 .subst e;rcases(h.own x<|(Lk.px x).1 hi).1 with k|k
  .exact ⟨i,k⟩
  .omega
 .exact ⟨i,(Lk.yR e x).1 hi⟩
def jd.set{w0:mA}{B:Nat->Prop}{σ:PS}{a:Act}{w:World}{L:Lk}(r:jd w0 B σ a w L)(id:Nat)(b':Bx)(O:Nat->Prop)(v:Value)(iG:Nat->Value)(w':World)(f:mj)
 (hf:f.NF (σ.pre f)=uS (σ.pre f) id b') (ht:pM L w id O w')
 (hB:nB (bad B<|L.set id O v iG) (jl<|L.set id O v iG) (L.set id O v iG) w' id b')
 (hT:∀ p v0,kD (bad B L) (jl L) L w p v0->kD (bad B<|L.set id O v iG) (jl<|L.set id O v iG) (L.set id O v iG) w' (p.kP f) v0)
 (jI:σ.nl=true->b'.nl=true):jd w0 B (σ.nT f) a w'<|L.set id O v iG:=by
 have hl:=ht.later v iG;have iV:∀ i,(σ.nT f).bo i=if id=i then some b' else(σ.bo i).map (Bx.q9<|PV.kP f):=by
  intro i;show look (f.NF<|σ.pre f) i=_;rw[hf,D2,PS.BT]
 have Cd:uU w0 w w':=⟨ht.os,ht.tape,ht.output,ht.size,λx hx=>ht.nY x (bM hx.1 r.he.size) λho=>(r.hw id x ho).1 hx⟩
 refine⟨r.hd,r.hs,λt=>?_,λi b hb=>?_,λi=>?_,λi x hx=>?_,λi x hx=>?_,λi j x hi hj=>?_,r.he.trans Cd,λzo i b hb=>?_⟩
 .rw [PS.Dm];exact hT _ _<|r.ht t
 .rw [iV]at hb;by_cases e:id=i
  .subst e;rw[aY rfl]at hb;cases hb;exact hB
  .rw [aX e]at hb;have e':i≠id:=λh=>e h.symm
   obtain⟨b0,ln,rfl⟩:=bU.1 hb;exact nB.map (g:=λp=>p) hl (by rw[D3];exact r.hb i b0 ln) (Lk.Ai e') (Lk.yR e') (Lk.Er e') (λx hx=>ht.nY x (r.hw i x hx).2 λho=>e<|r.hi id i x ho hx) λp v _ k=>hT p v k
 .rw [iV];by_cases e:id=i
  .subst e;rw[aY rfl];simp[Lk.set]
  .rw [aX e];have e':i≠id:=λh=>e h.symm
   simp only[Lk.set,e',false_or,eZ];exact r.hv i
 .by_cases e:i=id
  .exact .inl e
  .exact .inr<|r.hn i x<|(Lk.yR e x).1 hx
 .by_cases e:i=id
  .subst e;obtain⟨k1,k2⟩:=ht.own x<|(Lk.px x).1 hx;refine⟨?_,k2⟩;rcases k1 with k1|k1
   .exact (r.hw i x k1).1
   .exact mA.Zs r.he.size k1
  .have:=r.hw i x<|(Lk.yR e x).1 hx;exact⟨this.1,bM this.2 ht.size⟩
 .by_cases e1:i=id
  .by_cases e2:j=id
   .rw [e1,e2]
   .have k2:=(Lk.yR e2 x).1 hj;subst e1;rcases(ht.own x<|(Lk.px x).1 hi).1 with k|k
    .exact r.hi _ _ x k k2
    .have:=(r.hw j x k2).2;omega
  .have k1:=(Lk.yR e1 x).1 hi;by_cases e2:j=id
   .subst e2;rcases(ht.own x<|(Lk.px x).1 hj).1 with k|k
    .exact r.hi _ _ x k1 k
    .have:=(r.hw i x k1).2;omega
   .exact r.hi _ _ x k1<|(Lk.yR e2 x).1 hj
 .rw [iV]at hb;by_cases e:id=i
  .rw [aY e]at hb;cases hb;exact jI zo
  .rw [aX e]at hb;obtain⟨b0,ln,rfl⟩:=bU.1 hb;rw[D4];exact r.hl zo i b0 ln
def jd.new{w0:mA}{B:Nat->Prop}{σ:PS}{a:Act}{w:World}{L:Lk}(r:jd w0 B σ a w L)(id:Nat)(b':Bx)(O:Nat->Prop)(v:Value)(iG:Nat->Value)(w':World)
 (kj:σ.bo id=none) (hO:∀ x,O x->w.heap.size<=x/\x<w'.heap.size) (hb:Below w.heap.size w w')
 (hB:nB (bad B<|L.set id O v iG) (jl<|L.set id O v iG) (L.set id O v iG) w' id b')
 (jI:(!σ.nl||b'.nl)=true):jd w0 B (σ.nT<|.new id b') a w'<|L.set id O v iG:=by
 have WA:¬L.lX id:=λh=>by have:=(r.hv id).1 h;rw[kj]at this;simp at this
 have ht:pM L w id O w':=⟨λx hx=>⟨.inr (hO x hx).1,(hO x hx).2⟩,hb.size,λx hx _=>hb.block x hx,hb.os,hb.tape,hb.output⟩
 refine r.set id b' O v iG w' (.new id b') rfl ht hB (λp v0 hp=>?_) (λh=>by simpa[h]using jI);have jD:∀ {i},L.lX i->i≠id:=λh e=>WA<|e▸h
 have:p.kP (.new id b')=p:=by cases p<;>rfl
 rw[this];exact hp.later (ht.later v iG) λi hi=>⟨.inr hi,Lk.Ai<|jD hi,λj=>Lk.Er (jD hi) j⟩
def jd.oR{w0:mA}{B:Nat->Prop}{σ:PS}{a:Act}{w:World}{L:Lk}(r:jd w0 B σ a w L)(id:Nat)(b':Bx)(w':World)
 (pT:L.lX id) (ht:pM L w id (L.own id) w')
 (hB:nB (bad B<|L.set id (L.own id) (L.val id)<|L.iG id) (jl<|L.set id (L.own id) (L.val id)<|L.iG id) (L.set id (L.own id) (L.val id)<|L.iG id) w' id b')
 (jI:σ.nl=true->b'.nl=true):jd w0 B (σ.nT<|.oR id b') a w'<|L.set id (L.own id) (L.val id)<|L.iG id:=by
 refine r.set id b' _ _ _ w' (.oR id b') rfl ht hB (λp v0 hp=>?_) jI;have:p.kP (.oR id b')=p:=by cases p<;>rfl
 rw[this];refine hp.later (ht.later _ _) λi hi=>⟨.inr hi,?_,λj=>?_⟩
 .by_cases e:i=id
  .subst e;exact Lk.mU
  .exact Lk.Ai e
 .by_cases e:i=id
  .subst e;exact Lk.nR j
  .exact Lk.Er e j
def jd.oX{w0:mA}{B:Nat->Prop}{σ:PS}{a:Act}{w:World}{L:Lk}(r:jd w0 B σ a w L)(id:Nat)(b':Bx)(O:Nat->Prop)(v:Value)(w':World)
 (hp:∀ b,L.val id ≠ .pointer (some b)) (ht:pM L w id O w')
 (hB:nB (bad B<|L.set id O v<|L.iG id) (jl<|L.set id O v<|L.iG id) (L.set id O v<|L.iG id) w' id b')
 (jI:σ.nl=true->b'.nl=true):jd w0 B (σ.nT<|.oX id b') a w'<|L.set id O v<|L.iG id:=by
 have hl:=ht.later v<|L.iG id;refine r.set id b' O v (L.iG id) w' (.oX id b') rfl ht hB (λp v0 q7=>?_) jI;have Ci:∀ i j,(L.set id O v<|L.iG id).iG i j=L.iG i j:=λi j=>by
  by_cases e:i=id
  .subst e;exact Lk.nR j
  .exact Lk.Er e j
 cases p with
 |e x=>exact hl.kq q7
 |box i off=>
  obtain⟨k1,b,k2,k3⟩:=q7;have e:i≠id:=λe=>by subst e;exact hp _ k2
  exact⟨.inr k1,b,by rw[Lk.Ai e];exact k2,k3⟩
 |own i=>
  by_cases e:i=id
  .subst e;simp only[PV.kP,cw,bA];exact .any _
  .simp only[PV.kP,cM e,bC,bh];exact⟨.inr q7.1,by rw[Lk.Ai e];exact q7.2⟩
 |oc i s x j=>
  by_cases e:i=id
  .subst e;simp only[PV.kP,cw,bA];exact .any _
  .simp only[PV.kP,cM e,bC,bh];obtain⟨k1,b,ofs,n,c,k2,k3⟩:=q7;exact⟨.inr k1,b,ofs,n,c,by rw[Lk.Ai e];exact k2,k3⟩
 |iG i k=>exact⟨.inr q7.1,by rw[Ci];exact q7.2⟩
 |qS i s k x j=>obtain⟨k1,b,ofs,n,c,k2,k3⟩:=q7;exact⟨.inr k1,b,ofs,n,c,by rw[Ci];exact k2,k3⟩
 |pN f cap=>
  cases nN:cap.any (CV.ID id)with
  |true=>simp only[PV.kP,nN,bA];exact .any _
  |false=>
   simp only[PV.kP,nN,bC,bh];obtain⟨vs,k1,k2,k3⟩:=q7;refine⟨vs,k1,k2,λi c x hc hx=>?_⟩;have hk:=k3 i c x hc hx;cases c with
   |e y=>exact hl.kq hk
   |box q=>
    obtain⟨q1,b,q2,q3⟩:=hk;have e:q≠id:=λe=>by subst e;exact hp _ q2
    exact⟨.inr q1,b,by rw[Lk.Ai e];exact q2,q3⟩
   |row q=>
    obtain⟨q1,b,ofs,n,c,q2,q3⟩:=hk;have e:q≠id:=λe=>by
     have:=cF.1 nN (.row q)<|dO hc;subst e;simp[CV.ID]at this
    exact⟨.inr q1,b,ofs,n,c,by rw[Lk.Ai e];exact q2,q3⟩
def jd.sw{w0:mA}{B:Nat->Prop}{σ:PS}{a:Act}{w:World}{L:Lk}(r:jd w0 B σ a w L)(id:Nat)(b':Bx)(O:Nat->Prop)(iG:Nat->Value)(w':World)
 (ht:pM L w id O w')
 (hB:nB (bad B<|L.set id O (L.val id) iG) (jl<|L.set id O (L.val id) iG) (L.set id O (L.val id) iG) w' id b')
 (jI:σ.nl=true->b'.nl=true):jd w0 B (σ.nT<|.sw id b') a w'<|L.set id O (L.val id) iG:=by
 have hl:=ht.later (L.val id) iG;refine r.set id b' O (L.val id) iG w' (.sw id b') rfl ht hB (λp v0 q7=>?_) jI;have mI:∀ i,(L.set id O (L.val id) iG).val i=L.val i:=λi=>by
  by_cases e:i=id
  .subst e;exact Lk.mU
  .exact Lk.Ai e
 cases p with
 |e x=>exact hl.kq q7
 |box i off=>obtain⟨k1,b,k2,k3⟩:=q7;exact⟨.inr k1,b,by rw[mI];exact k2,k3⟩
 |own i=>exact⟨.inr q7.1,by rw[mI];exact q7.2⟩
 |oc i s x j=>obtain⟨k1,b,ofs,n,c,k2,k3⟩:=q7;exact⟨.inr k1,b,ofs,n,c,by rw[mI];exact k2,k3⟩
 |iG i k=>
  by_cases e:i=id
  .subst e;simp only[PV.kP,cw,bA];exact .any _
  .simp only[PV.kP,cM e,bC,bh];exact⟨.inr q7.1,by rw[Lk.Er e];exact q7.2⟩
 |qS i s k x j=>
  by_cases e:i=id
  .subst e;simp only[PV.kP,cw,bA];exact .any _
  .simp only[PV.kP,cM e,bC,bh];obtain⟨k1,b,ofs,n,c,k2,k3⟩:=q7;exact⟨.inr k1,b,ofs,n,c,by rw[Lk.Er e];exact k2,k3⟩
 |pN f cap=>
  obtain⟨vs,k1,k2,k3⟩:=q7;refine⟨vs,k1,k2,λi c x hc hx=>(k3 i c x hc hx).later hl λj hj=>⟨.inr hj,mI j⟩⟩
structure Nb(w:World)(v:Value)(T:TypeId)(n sz m:Nat)(f g:Nat->Nat->Value)(nl:Bool)(v':Value)(w':World):Prop where
 own:nb w' v' T (n+m) sz (λi j=>if i<n then f i j else g (i-n) j) nl
 GS:∀ x,v'.ownBlock=some x->v.ownBlock=some x\/(w.heap.size<=x/\x<w'.heap.size)
 size:w.heap.size<=w'.heap.size
 nY:∀ x,x<w.heap.size->v.ownBlock≠some x->w'.heap[x]? = w.heap[x]?
 os:w'.os=w.os
 tape:w'.tape=w.tape
 output:w'.output=w.output
section
variable(n sz:Nat)(f:Nat->Nat->Value)
def qx:List Value:=(List.range<|n*sz).map λq=>f (q/sz)<|q%sz
def wX:(qx n sz f).length=n*sz:=by simp[qx]
end
section
variable{n sz:Nat}{f:Nat->Nat->Value}
def VD{i j:Nat}(hi:i<n)(hj:j<sz):(qx n sz f)[i*sz+j]? = some (f i j):=by
 have h1:i*sz+j<n*sz:=by
  have:=bG sz<|show i+1<=n from hi;rw[bL,bN]at this;omega
 have h2:(i*sz+j)/sz=i:=by rw[bI,aq5 aC,cY hj,bT]
 have h3:(i*sz+j)%sz=j:=by rw[bI,gq,cj hj]
 simp[qx,h1,h2,h3]
def Hm{q:Nat}{u:Value}(h:(qx n sz f)[q]? = some u):q/sz<n/\q%sz<sz/\u=f (q/sz) (q%sz)/\q/sz*sz+q%sz=q:=by
 unfold qx at h;rw[ch]at h;obtain⟨x,hx,rfl⟩:=bU.1 h;obtain⟨h1,h2⟩:=ca.1 hx;simp at h1 h2;subst h2;have hz:0<sz:=by
  rcases e9 sz with h0|h0
  .subst h0;simp at h1
  .exact h0
 exact⟨(cG hz).2 h1,bJ _ hz,rfl,by rw[bI];exact cL q sz⟩
end
def anP{P:Program}(w:World)(t ty e:TypeId)(i:TypeInfo)(ht:P.underlying t=some (.slice e))(hi:P.info? e=some i)
 (g ofs sLen sCap:Nat) (cur:Array Value) (hg:w.heap[g]? = some (.cells cur e (0,0)))
 (a:Addr) (m c:Nat) (news:List Value) (hl:news.length=m*i.size) (Ih:∀ j u,news[j]? = some u->w.cell? (a.add j)=some u) (h1:∀ u ∈ news,u.oneCell'=true)
 (Io:sLen+m<=sCap) (qm:ofs+sLen*i.size+news.length<=cur.size):
 (Builtin.append_ #[t,t] ty #[.slice (some ⟨g,ofs,none⟩) sLen sCap,.slice (some a) m c]).run P w =
  .ok (.slice (some ⟨g,ofs,none⟩) (sLen+m) sCap) (w.setRow g (cur.toList.take (ofs+sLen*i.size)++news++cur.toList.drop (ofs+sLen*i.size+news.length)).toArray):=by
 have hf:=run_firstCells_some (P:=P) w i.size m a m c news hl Ih;have zB:=run_storeCells_at P g (ofs+sLen*i.size) e news 0 cur w hg (by simpa using qm) h1;simp only[bT]at zB;simp[Builtin.append_,run_underlying ht,sizeOf,typeInfo,hi,Builtin.lenOf,Io,hf,Addr.add_lit,zB]
def aaK(P:Program)(w:World)(t ty e:TypeId)(i:TypeInfo)(z:Value)(sz:Nat)(ht:P.underlying t=some (.slice e))(hi:P.info? e=some i)(hz:i.zero=some z)
 (uF:i.size=sz) (XD:z.cells.size=sz) (mP:0<sz) (jE:1<=i.bytes) (aqH:∀ u,u ∈ z.cells->u.oneCell'=true)
 (v:Value) (n:Nat) (f:Nat->Nat->Value) (nl:Bool) (lq:nb w v e n sz f nl)
 (A:Option Addr) (m c:Nat) (g:Nat->Nat->Value) (hA:∀ k j,k<m->j<sz->∃ b o,A=some ⟨b,o,none⟩/\w.cell? ⟨b,o+(k*sz+j),none⟩=some (g k j)) (vV:A=none->m=0)
 (h1:∀ k j,k<m->j<sz->(g k j).oneCell'=true/\(nl=true->pU (g k j)=false)) (XC:nl=true->∀ u,u ∈ z.cells->pU u=false)
 (Ld:(n+m)*i.bytes<=140737488355328):
 ∃ v' w',(Builtin.append_ #[t,t] ty #[v,.slice A m c]).run P w = .ok v' w'/\Nb w v e n sz m f g nl v' w':=by
 have hle:n+m<=(n+m)*i.bytes:=gv _ jE;have OP:n+m<=maxLen:=by unfold maxLen;omega
 have AP:∀ i j,i<n+m->j<sz->(qx n sz f++qx m sz g)[i*sz+j]? = some (if i<n then f i j else g (i-n) j):=by
  intro i j hi hj;by_cases kS:i<n
  .rw [aY kS,fH,VD kS hj];rw[wX];have:=bG sz<|show i+1<=n from kS;rw[bL,bN]at this;omega
  .rw [aX kS,fI,wX]
   .have:i*sz+j-n*sz=(i-n)*sz+j:=by
     have:=Nat.sub_mul i n sz;have:=bG sz (aC:n<=i);omega
    rw[this,VD aC hj]
   .rw [wX];have:=bG sz (aC:n<=i);omega
 have xk:∀ i j,i<n+m->j<sz->(if i<n then f i j else g (i-n) j).oneCell'=true:=by
  intro i j hi hj;split
  .rename_i kS;rcases lq with⟨_,h0⟩|⟨b,ofs,c,cur,_,_,_,_,_,hc,_⟩
   .omega
   .exact (hc i j kS hj).2
  .rename_i kS;exact(h1 (i-n) j aC hj).1
 have h1':∀ u ∈ qx m sz g,u.oneCell'=true:=by
  intro u hu;obtain⟨q,hq⟩:=dh.1 hu;obtain⟨q1,q2,rfl,_⟩:=Hm hq;exact(h1 _ _ q1 q2).1
 have gnl:nl=true->∀ u,u ∈ qx m sz g->pU u=false:=by
  intro hn u hu;obtain⟨q,hq⟩:=dh.1 hu;obtain⟨q1,q2,rfl,_⟩:=Hm hq;exact(h1 _ _ q1 q2).2 hn
 rcases A with _|ad
 .have hm:=vV rfl;subst hm;rcases lq with⟨rfl,rfl⟩|⟨b,ofs,cc,cur,rfl,hg,qC,pF,nO,kr,jI⟩
  .refine ⟨.slice none 0 0,w,?_,.inl ⟨rfl,rfl⟩,λx hx=>.inl hx,a7 _,λ_ _ _=>rfl,rfl,rfl,rfl⟩;simp[Builtin.append_,run_underlying ht,sizeOf,typeInfo,hi,Builtin.lenOf,Builtin.firstCells,loadCells,loadCellsFrom]
  .refine ⟨.slice (some ⟨b,ofs,none⟩) n cc,w,?_,.inr ⟨b,ofs,cc,cur,rfl,hg,qC,pF,nO,?_,jI⟩,λx hx=>.inl hx,a7 _,λ_ _ _=>rfl,rfl,rfl,rfl⟩
   .simp [Builtin.append_,run_underlying ht,sizeOf,typeInfo,hi,Builtin.lenOf,Builtin.firstCells,qC,storeCells]
   .intro i j hi hj;have kS:i<n:= aC ;simp only[kS,bA];exact kr i j kS hj
 .have Ih:∀ j u,(qx m sz g)[j]? = some u->w.cell? (ad.add j)=some u:=by
   intro q u hq;obtain⟨q1,q2,rfl,q4⟩:=Hm hq;obtain⟨b,o,e,hc⟩:=hA _ _ q1 q2;cases e;rw[q4]at hc;rw[show(⟨b,o,none⟩:Addr).add q=⟨b,o+q,none⟩from Addr.add_lit _ _ _];exact hc
  rcases lq with⟨rfl,rfl⟩|⟨b,ofs,cc,cur,rfl,hg,qC,pF,nO,kr,jI⟩
  .by_cases hm:m=0
   .subst hm;refine⟨.slice none 0 0,w,?_,.inl ⟨rfl,rfl⟩,λx hx=>.inl hx,a7 _,λ_ _ _=>rfl,rfl,rfl,rfl⟩;simp[Builtin.append_,run_underlying ht,sizeOf,typeInfo,hi,Builtin.lenOf,Builtin.firstCells,loadCells,loadCellsFrom]
   .have hr:=run_append_nil (P:=P) w t ty e i z ht hi hz ad m c (qx m sz g) (by rw[wX,uF]) Ih aC (by unfold maxLen at OP;omega) (by have hb:=Ld;simp only[bZ]at hb;omega);have sA:=grownCap_ge w m 0 e;have pF:grownCap w m 0 e<=maxLen:=grownCap_le_maxLen w m 0 e aC;refine⟨_,_,hr,.inr ⟨w.heap.size,0,_,_,aH,heap_alloc_new w.drew _,aC,pF,?_,?_,?_⟩,λx hx=>.inr ?_,aH,λx hx _=>Below.heap_alloc w.drew _ x hx,rfl,rfl,rfl⟩
    .simp only[aq6,eJ,size_zeroCells,XD,wX,<-bL,bZ];refine fJ ?_;congr 1;omega
    .intro i j hi hj;have:=AP i j hi hj;refine⟨?_,xk i j hi hj⟩;rw[bZ];simp only[qx,cH,List.range_zero,List.map_nil,List.nil_append]at this;rw[<-this,ary]
     .simp [qx]
     .obtain ⟨q,_⟩:=ca.1 this;simpa[qx]using q
    .intro hn u hu;rcases fK.1 hu with hu|hu
     .exact gnl hn u<|by simpa using hu
     .simp only[Builtin.zeroCells,gw,gy]at hu;obtain⟨q,hq,rfl⟩:=hu;have iE:q%z.cells.size<z.cells.size:=bJ _ aC;rw[fL z.cells _ iE];exact XC hn _<|gQ iE
    .simp [Value.ownBlock]at hx;subst hx;simp
  .have WM:∀ k j,k<n->j<sz->cur[ofs+(k*sz+j)]? = some (f k j):=λk j hk hj=>(kr k j hk hj).1
   by_cases Io:n+m<=cc
   .have AS:(qx m sz g).length=m*i.size:=by rw[wX,uF]
    have aqD:(n+m)*sz<=cc*sz:=bG _ Io;have WZ:(n+m)*sz=n*sz+m*sz:=bL _ _ _;have qm:ofs+n*i.size+(qx m sz g).length<=cur.size:=by rw[AS,uF];omega
    have hr:=anP (P:=P) w t ty e i ht hi b ofs n cc cur hg ad m c (qx m sz g) AS Ih h1' Io qm;refine⟨_,_,hr,.inr ⟨b,ofs,cc,_,rfl,setRow_heap w b cur _ e _ hg,Io,pF,?_,?_,?_⟩,λx hx=>.inl hx,aH,λx hx jD=>setRow_other w b x _ λq=>jD<|by simp[Value.ownBlock,q],rfl,rfl,rfl⟩
    .simp only[eJ,cK,cB,eK,dH];omega
    .intro k j hk hj;refine⟨?_,xk k j hk hj⟩;have hq:=AP k j hk hj;rw[gR,aq7,eG,cB,dH,df aC,uF];by_cases xh:k<n
     .have iE:k*sz+j<n*sz:=by
       have:=bG sz<|show k+1<=n from xh;rw[bL,bN]at this;omega
      rw[aY aC,dF,aY aC,Array.getElem?_toList];show _=some (if k<n then f k j else g (k-n) j);rw[aY xh];exact WM k j xh hj
     .have sA:n*sz<=k*sz+j:=by
       have:=bG sz (aC:n<=k);omega
      have iE:k*sz+j<(n+m)*sz:=by
       have:=bG sz<|show k+1<=n+m from hk;rw[bL,bN]at this;omega
      rw[aX aC,fH<|by rw[wX];omega,(aC:ofs+(k*sz+j)-(ofs+n*sz)=k*sz+j-n*sz),<-hq,fI<|by rw[wX];exact sA,wX]
    .intro hn u hu;simp only[gS,du]at hu;rcases hu with(hu|hu)|hu
     .exact jI hn u<|by have:=dM hu;simpa using this
     .exact gnl hn u hu
     .exact jI hn u<|by have:=dW hu;simpa using this
   .have holds:∀ j u,(qx n sz f)[j]? = some u->w.cell? ((⟨b,ofs,none⟩:Addr).add j)=some u:=by
     intro q u hq;obtain⟨q1,q2,rfl,q4⟩:=Hm hq;have:=WM _ _ q1 q2;rw[q4]at this;rw[show(⟨b,ofs,none⟩:Addr).add q=⟨b,ofs+q,none⟩from Addr.add_lit _ _ _];simp only[World.cell?,hg];simpa using this
    have hr:=run_append_grow (P:=P) w t ty e i z ht hi hz ⟨b,ofs,none⟩ n cc (qx n sz f) (by rw[wX,uF]) holds ad m c (qx m sz g) (by rw[wX,uF]) Ih aC (by unfold maxLen at OP;omega)<|growslice_fits aC Ld;have sA:=grownCap_ge w (n+m) cc e;have aiK:grownCap w (n+m) cc e<=maxLen:=grownCap_le_maxLen w (n+m) cc e OP;refine⟨_,_,hr,.inr ⟨w.heap.size,0,_,_,aH,heap_alloc_new w.drew _,aC,aiK,?_,?_,?_⟩,λx hx=>.inr ?_,aH,λx hx _=>Below.heap_alloc w.drew _ x hx,rfl,rfl,rfl⟩
    .simp only[aq6,eJ,size_zeroCells,XD,wX,<-bL,bZ];refine fJ ?_;congr 1;omega
    .intro k j hk hj;refine⟨?_,xk k j hk hj⟩;rw[<-AP k j hk hj,bZ];have hq:k*sz+j<(qx n sz f++qx m sz g).length:=by
      obtain⟨q,_⟩:=ca.1<|AP k j hk hj;exact q
     rw[ary<|by simpa using hq];simp
    .intro hn u hu;rcases fK.1 hu with hu|hu
     .rcases fK.1 hu with hu|hu
      .obtain ⟨q,hq⟩:=dh.1 (show u ∈ qx n sz f by simpa using hu);obtain⟨q1,q2,rfl,_⟩:=Hm hq;exact jI hn _<|ej (kr _ _ q1 q2).1
      .exact gnl hn u<|by simpa using hu
     .simp only[Builtin.zeroCells,gw,gy]at hu;obtain⟨q,hq,rfl⟩:=hu;have iE:q%z.cells.size<z.cells.size:=bJ _ aC;rw[fL z.cells _ iE];exact XC hn _<|gQ iE
    .simp [Value.ownBlock]at hx;subst hx;simp
def ab0{id:Nat}{b:Bx}{p:PV}(h:p.kN.any (Nat.beq id)=false):p.kP (.oX id b)=p:=by
 cases p with
 |own i=>
  have:Nat.beq i id=false:=by
   simp only[PV.kN,dP,fc,eO]at h;exact cM λe=>by rw[e,cw]at h;cases h
  simp[PV.kP,this]
 |oc i s x j=>
  have:Nat.beq i id=false:=by
   simp only[PV.kN,dP,fc,eO]at h;exact cM λe=>by rw[e,cw]at h;cases h
  simp[PV.kP,this]
 |pN f cap=>
  have:cap.any (CV.ID id)=false:=by
   rw[cF];intro c hc hr;cases c with
   |row i=>
    have hi:i=id:=ku.1 hr;have:=cF.1 h i (by simp only[PV.kN,dG];exact⟨.row i,hc,by simp[CV.kN]⟩);rw[hi,cw]at this;exact this rfl
   |_=>cases hr
  simp[PV.kP,this]
 |_=>rfl
def jd.fin{w0:mA}{B:Nat->Prop}{σ:PS}{a:Act}{w:World}{L:Lk}{id:Nat}{nl:Bool}{T n sz:Nat}{el:Nat->Nat->E}(hB:∀ b,B b->w0.uT b)
 (r:jd w0 B (σ.nT<|.oX id<|.row nl T n sz el) a w L):∃ L',jd w0 B (σ.nT<|.fin id) a w L'/\iI (bad B L') (jl L') w (.sl nl n sz el) (L.val id):=by
 let L':Lk:=⟨λi=>L.lX i/\i≠id,λi x=>L.own i x/\i≠id,L.val,L.iG⟩
 have iE:qv L w L' w:=⟨a7 _,λx _ ⟨i,h,_⟩=>⟨i,h⟩,λ_ _ _=>rfl⟩
 have rL:∀ i,(σ.nT<|.fin id).bo i=if i=id then none else(σ.bo i).map (Bx.q9<|PV.kP<|.fin id):=by
  intro i;show look ((σ.pre<|.fin id).filter λx=>!Nat.beq x.1 id) i=_;rw[D1,PS.BT];by_cases h:i=id
  .subst h;simp
  .rw [aX h,aX λe=>h e.symm]
 have Pd:∀ i,i≠id->(σ.nT<|.oX id<|.row nl T n sz el).bo i=(σ.bo i).map (Bx.q9<|PV.kP<|.oX id<|.row nl T n sz el):=by
  intro i h;show look (uS (σ.pre<|.oX id<|.row nl T n sz el) id<|.row nl T n sz el) i=_;rw[D2,PS.BT,aX λe=>h e.symm]
 have aiH:(σ.nT<|.oX id<|.row nl T n sz el).bo id=some (.row nl T n sz el):=by
  show look (uS (σ.pre<|.oX id<|.row nl T n sz el) id<|.row nl T n sz el) id=_;rw[D2,aY rfl]
 have sy:∀ x,L.own id x->¬bad B L' x:=by
  rintro x hx (h|⟨i,h1,h2⟩)
  .exact (r.hw id x hx).1<|hB x h
  .exact h2<|r.hi i id x h1 hx
 have hold:iI (bad B L') (jl L') w (.sl nl n sz el)<|L.val id:=by
  obtain⟨f,h1,h2,h3⟩:=r.hb id _ aiH;rcases h1 with⟨h0,rfl⟩|⟨b,ofs,c,cur,h0,hg,qC,pF,nO,kr,jI⟩
  .rw [h0];exact .sl nl 0 sz el none 0 f (a7 _) aE (λ_=>rfl) (λi j hi=>absurd hi<|bt i) (λi j hi=>absurd hi<|bt i) (λi j hi=>absurd hi<|bt i) λi j hi=>absurd hi<|bt i
  .have oZ:=(h2 b).2 (by rw[h0];rfl);rw[h0];refine .sl nl n sz el _ c f qC (by unfold maxLen at pF;omega) (λh=>by cases h) (λi j hi hj=>⟨(kr i j hi hj).2,λhn=>jI hn _<|ej (kr i j hi hj).1⟩) (λi j hi hj=>(h3 i j hi hj).2)
    (λi j hi hj=>⟨b,ofs,rfl,sy b oZ,(r.hw id b oZ).2,?_⟩) (λi j hi hj=>iE.kq (h3 i j hi hj).1)
   simp only[World.cell?,hg];simpa using(kr i j hi hj).1
 have hT:∀ (p:PV) (v:Value),kD (bad B L) (jl L) L w (p.kP<|.oX id<|.row nl T n sz el) v->kD (bad B L') (jl L') L' w (p.kP<|.fin id) v:=by
  intro p v k;show kD _ _ _ _ (if p.kN.any (Nat.beq id)then .e .any else p) _;cases hp:p.kN.any (Nat.beq id)with
  |true=>exact .any _
  |false=>
   rw[ab0 hp]at k;refine kD.move iE k λi hi pT=>⟨⟨pT,?_⟩,rfl,λ_=>rfl⟩
   rintro rfl;have:=cF.1 hp i hi;simp at this
 refine⟨L',⟨r.hd,r.hs,λt=>?_,λi b' h=>?_,λi=>?_,λi x h=>⟨r.hn i x h.1,h.2⟩,λi x h=>r.hw i x h.1,λi i' x h k=>r.hi i i' x h.1 k.1,r.he,λh i b' k=>?_⟩,hold⟩
 .have k:=r.ht t;rw[PS.Dm]at k ⊢;exact hT _ _ k
 .rw [rL]at h;split at h
  .cases h
  .rename_i hi;obtain⟨b0,ln,rfl⟩:=bU.1 h;exact nB.map iE (r.hb i _<|by rw[Pd i hi,ln];rfl) rfl (λx=>⟨λq=>q.1,λq=>⟨q,hi⟩⟩) (λ_=>rfl) (λ_ _=>rfl) λp v _ k=>hT p v k
 .rw [rL];show L.lX i/\i≠id↔_;by_cases hi:i=id
  .subst hi;simp
  .simp only[hi,cQ,eP,fM,bh];rw[r.hv i,Pd i hi,eZ,eZ]
 .rw [rL]at k;split at k
  .cases k
  .rename_i hi;obtain⟨b0,ln,rfl⟩:=bU.1 k;have:=r.hl h i _ (by rw[Pd i hi,ln];rfl);rw[D4]at this ⊢;exact this
section
variable{id q:Nat}{b:Bx}{p:PV}
def St(h:p.kN.any (λx=>Nat.beq id x||Nat.beq q x)=false):p.kP (.oM id q b)=p:=by
 cases p with
 |box i off=>
  simp only[PV.kN,dP,fc,eO,fe]at h;have h1:Nat.beq i id=false:=cM λe=>by rw[e,cw]at h;cases h.1
  have h2:Nat.beq i q=false:=cM λe=>by rw[e,cw]at h;cases h.2
  simp[PV.kP,h1,h2]
 |e x=>simp[PV.kP,PV.kN]
 |own i=>show(if(PV.kN<|.own i).any _=true then _ else _)=_;rw[h];rfl
 |oc i a b c=>show(if(PV.kN<|.oc i a b c).any _=true then _ else _)=_;rw[h];rfl
 |iG i k=>show(if(PV.kN<|.iG i k).any _=true then _ else _)=_;rw[h];rfl
 |qS i s k x j=>show(if(PV.kN<|.qS i s k x j).any _=true then _ else _)=_;rw[h];rfl
 |pN f cap=>show(if(PV.kN<|.pN f cap).any _=true then _ else _)=_;rw[h];rfl
def ab1(h:p.kN.any (λx=>Nat.beq id x||Nat.beq q x)=true)(hb:∀ i off,p ≠ .box i off):p.kP (.oM id q b) = .e .any:=by
 cases p with
 |box i off=>exact absurd rfl (hb i off)
 |e x=>simp[PV.kN]at h
 |own i=>show(if(PV.kN<|.own i).any _=true then _ else _)=_;rw[h];rfl
 |oc i a b c=>show(if(PV.kN<|.oc i a b c).any _=true then _ else _)=_;rw[h];rfl
 |iG i k=>show(if(PV.kN<|.iG i k).any _=true then _ else _)=_;rw[h];rfl
 |qS i s k x j=>show(if(PV.kN<|.qS i s k x j).any _=true then _ else _)=_;rw[h];rfl
 |pN f cap=>show(if(PV.kN<|.pN f cap).any _=true then _ else _)=_;rw[h];rfl
end
def jd.oM{w0:mA}{B:Nat->Prop}{σ:PS}{a:Act}{w:World}{L:Lk}(r:jd w0 B σ a w L){id q T1 T0 n sz:Nat}{nl:Bool}{el:Nat->Nat->E}{x:E}
 (hid:σ.bo id=some (.cells T1 [x])) (hq:σ.bo q=some (.row nl T0 n sz el)) (jD:id≠q) {b:Nat} (hv:L.val id = .pointer (some ⟨b,0,none⟩)) {w':World} (hw:w'.heap[b]? = some (.cells #[L.val q] T1 (0,0)))
 (ht:pM L w id (L.own id) w'):∃ L',jd w0 B (σ.nT<|.oM id q<|.iT nl T1 T0 1 sz (λ_=>n) (λ_=>el) none) a w' L':=by
 let L':Lk:=⟨λi=>L.lX i/\i≠q,λi y=>if i=id then L.own id y\/L.own q y else L.own i y/\i≠q,λi=>if i=id then .slice (some ⟨b,0,none⟩) 1 1 else L.val i,λi j=>if i=id then L.val q else L.iG i j⟩
 have aiZ:∀ y,jl L' y->jl L y:=by
  rintro y ⟨i,hi⟩;by_cases e:i=id
  .have hi:L.own id y\/L.own q y:=by simpa[L',e]using hi
   rcases hi with h|h
   .exact ⟨id,h⟩
   .exact ⟨q,h⟩
  .have hi:L.own i y/\i≠q:=by simpa[L',e]using hi
   exact⟨i,hi.1⟩
 have aqB:∀ y,jl L y->jl L' y:=by
  rintro y ⟨i,hi⟩;by_cases e:i=id\/i=q
  .refine ⟨id,?_⟩;show if id=id then L.own id y\/L.own q y else _
   rw[aY rfl];rcases e with e|e<;>subst e
   .exact .inl hi
   .exact .inr hi
  .have e1:i≠id:=λh=>e (.inl h)
   have e2:i≠q:=λh=>e<|.inr h
   refine⟨i,?_⟩;show if i=id then _ else L.own i y/\i≠q
   rw[aX e1];exact⟨hi,e2⟩
 have iE:qv L w L' w':=⟨ht.size,λy _ h=>aiZ y h,λy hy hm=>ht.nY y hy λho=>hm ⟨id,ho⟩⟩
 have mI:∀ i,i≠id->L'.val i=L.val i:=λi e=>by show(if i=id then _ else _)=_;rw[aX e]
 have Ci:∀ i,i≠id->∀ j,L'.iG i j=L.iG i j:=λi e j=>by show(if i=id then _ else _)=_;rw[aX e]
 have lq:∀ i,i≠id->∀ y,L'.own i y↔L.own i y/\i≠q:=λi e y=>by show(if i=id then _ else _)↔_;rw[aX e]
 have AY:∀ y,L'.own id y↔L.own id y\/L.own q y:=λy=>by show(if id=id then _ else _)↔_;rw[aY rfl]
 obtain⟨b0,vs,i1,i2,i3,i4,i5⟩:=r.hb id _ hid;rw[hv]at i1;cases i1;obtain⟨f,q1,q2,q3⟩:=r.hb q _ hq;have pT:L.lX id:=(r.hv id).2 (by rw[hid];rfl);have Lu:∀ i y,i≠id->L.own i y->w'.heap[y]? = w.heap[y]?:=λi y e hy=>ht.nY y (r.hw i y hy).2 λho=>e<|r.hi i id y hy ho
 have iV:∀ i,(σ.nT<|.oM id q<|.iT nl T1 T0 1 sz (λ_=>n) (λ_=>el) none).bo i=if id=i then some (.iT nl T1 T0 1 sz (λ_=>n) (λ_=>el) none)else if i=q then none else(σ.bo i).map (Bx.q9<|PV.kP<|.oM id q<|.iT nl T1 T0 1 sz (λ_=>n) (λ_=>el) none):=by
  intro i;show look (uS ((σ.pre<|.oM id q<|.iT nl T1 T0 1 sz (λ_=>n) (λ_=>el) none).filter λy=>!Nat.beq y.1 q) id _) i=_;rw[D2];by_cases e:id=i
  .rw [aY e,aY e]
  .rw [aX e,aX e,D1,PS.BT];by_cases e2:q=i
   .rw [aY e2,aY e2.symm]
   .rw [aX e2,aX λh=>e2 h.symm]
 have Cd:uU w0 w w':=⟨ht.os,ht.tape,ht.output,ht.size,λy hy=>ht.nY y (bM hy.1 r.he.size) λho=>(r.hw id y ho).1 hy⟩
 have kr:(L.val q).oneCell'=true/\pU (L.val q)=false:=by
  rcases q1 with⟨h,_⟩|⟨b1,o1,c1,cur,h,_⟩<;>rw[h]<;>exact⟨rfl,rfl⟩
 have hT:∀ (p:PV) (v:Value),kD (bad B L) (jl L) L w p v->kD (bad B L') (jl L') L' w' (p.kP<|.oM id q<|.iT nl T1 T0 1 sz (λ_=>n) (λ_=>el) none) v:=by
  intro p v k;cases hp:p.kN.any (λy=>Nat.beq id y||Nat.beq q y)with
  |false=>
   rw[St hp];refine k.move iE λi hi hl=>?_
   have:=cF.1 hp i hi;simp only[dz,not_or]at this;have e1:i≠id:=λe=>this.1<|by rw[e];exact cw _
   have e2:i≠q:=λe=>this.2<|by rw[e];exact cw _
   exact⟨⟨hl,e2⟩,mI i e1,Ci i e1⟩
  |true=>
   by_cases ju:∃ i off,p = .box i off
   .obtain ⟨i,off,rfl⟩:=ju;obtain⟨k1,b1,k2,k3⟩:=k;by_cases e1:i=id
    .subst e1;by_cases e0:off=0
     .subst e0;simp only[PV.kP,cw,bA];rw[hv]at k2;cases k2;exact⟨⟨k1,jD⟩,b,0,1,1,by show(if i=i then _ else _)=_;rw[aY rfl],by simpa using k3⟩
     .simp only[PV.kP,cw,bA,cM e0,bC,bh];exact .any _
    .have e2:i=q:=by
      simp only[PV.kN,dP,fc,eO,dz]at hp;rcases hp with hp|hp
      .exact absurd (ku.1 hp).symm e1
      .exact (ku.1 hp).symm
     simp only[PV.kP,cM e1,bC,bh,e2,cw,bA];have e3:Nat.beq q id=false:=cM λh=>jD h.symm
     simp only[e3,bC,bh];exact .any _
   .rw [ab1 hp λi off h=>ju ⟨i,off,h⟩];exact .any _
 refine⟨L',r.hd,r.hs,λt=>?_,λi b' hb=>?_,λi=>?_,λi y hy=>?_,λi y hy=>?_,λi j y hi hj=>?_,r.he.trans Cd,λzo i b' hb=>?_⟩
 .rw [PS.Dm];exact hT _ _<|r.ht t
 .rw [iV]at hb;by_cases e:id=i
  .subst e;rw[aY rfl]at hb;cases hb;have H8:∀ j,L'.iG id j=L.val q:=λj=>by show(if id=id then _ else _)=_;rw[aY rfl]
   refine .inr ⟨b,0,1,#[L.val q],λ_=>f,by show(if id=id then _ else _)=_;rw[aY rfl],hw,a7 _,aE,aH,λk hk _=>?_,λu hu=>?_,λk hk=>?_,λy=>?_,λk k' y hk DA _ _=> aC,λk hk=>?_⟩
   .obtain rfl:k=0:= aC ;rw[H8];rfl
   .have:u=L.val q:=by simpa using hu
    rw[this];exact kr.2
   .rw [H8];exact⟨q1.block λy hy=>Lu q y (λh=>jD h.symm)<|(q2 y).2 hy,λi j hi hj=>⟨iE.kq (q3 i j hi hj).1,(q3 i j hi hj).2⟩⟩
   .rw [AY];constructor
    .rintro (h|h)
     .exact .inl<|(i2 y).1 h
     .exact .inr ⟨0,aE,by rw[H8];exact(q2 y).1 h⟩
    .rintro (h|⟨k,_,h⟩)
     .exact .inl<|(i2 y).2 h
     .rw [H8]at h;exact .inr<|(q2 y).2 h
   .rw [H8];intro h;exact jD<|r.hi id q b ((i2 b).2 rfl)<|(q2 b).2 h
  .rw [aX e]at hb;by_cases e2:i=q
   .rw [aY e2]at hb;cases hb
   .rw [aX e2]at hb;have e':i≠id:=λh=>e h.symm
    obtain⟨b0',ln,rfl⟩:=bU.1 hb;exact nB.map (g:=λp=>p) iE (by rw[D3];exact r.hb i b0' ln) (mI i e') (λy=>(lq i e' y).trans ⟨λh=>h.1,λh=>⟨h,e2⟩⟩) (Ci i e') (λy hy=>Lu i y e' hy) λp v _ k=>hT p v k
 .rw [iV];show L.lX i/\i≠q↔_;by_cases e:id=i
  .subst e;rw[aY rfl];exact⟨λ_=>rfl,λ_=>⟨pT,jD⟩⟩
  .rw [aX e];by_cases e2:i=q
   .subst e2;simp
   .rw [aX e2];rw[eZ];exact⟨λh=>(r.hv i).1 h.1,λh=>⟨(r.hv i).2 h,e2⟩⟩
 .by_cases e:i=id
  .subst e;exact⟨pT,jD⟩
  .have:=(lq i e y).1 hy;exact⟨r.hn i y this.1,this.2⟩
 .by_cases e:i=id
  .subst e;rcases(AY y).1 hy with h|h
   .exact ⟨(r.hw _ y h).1,bM (r.hw _ y h).2 ht.size⟩
   .exact ⟨(r.hw _ y h).1,bM (r.hw _ y h).2 ht.size⟩
  .have h:=((lq i e y).1 hy).1;exact⟨(r.hw _ y h).1,bM (r.hw _ y h).2 ht.size⟩
 .by_cases e1:i=id
  .by_cases e2:j=id
   .rw [e1,e2]
   .exfalso;subst e1;have h2:=(lq j e2 y).1 hj;rcases(AY y).1 hi with h|h
    .exact e2<|r.hi j _ y h2.1 h
    .exact h2.2<|r.hi j q y h2.1 h
  .by_cases e2:j=id
   .exfalso;subst e2;have h1:=(lq i e1 y).1 hi;rcases(AY y).1 hj with h|h
    .exact e1<|r.hi i _ y h1.1 h
    .exact h1.2<|r.hi i q y h1.1 h
   .exact r.hi i j y ((lq i e1 y).1 hi).1 ((lq j e2 y).1 hj).1
 .rw [iV]at hb;by_cases e:id=i
  .rw [aY e]at hb;cases hb;show nl=true;exact r.hl zo q (.row nl T0 n sz el) hq
  .rw [aX e]at hb;by_cases e2:i=q
   .rw [aY e2]at hb;cases hb
   .rw [aX e2]at hb;obtain⟨b0',ln,rfl⟩:=bU.1 hb;rw[D4];exact r.hl zo i b0' ln
def Lk.qF(L:Lk)(id q:Nat)(O:Nat->Prop)(v:Value)(iG:Nat->Value):Lk:=
 {lX:=λi=>(i=id\/L.lX i)/\i≠q
  own:=λi x=>if i=id then O x else L.own i x/\i≠q
  val:=λi=>if i=id then v else L.val i
  iG:=λi j=>if i=id then iG j else L.iG i j }
def jd.qF{w0:mA}{B:Nat->Prop}{σ:PS}{a:Act}{w:World}{L:Lk}(r:jd w0 B σ a w L){id q:Nat}(jD:id≠q)(b':Bx)(O:Nat->Prop)(v:Value)(iG:Nat->Value)(w':World)
 (hO:∀ x,O x->(L.own id x\/L.own q x\/w.heap.size<=x)/\x<w'.heap.size) (mP:w.heap.size<=w'.heap.size) (sR:∀ x,x<w.heap.size->¬L.own id x->w'.heap[x]? = w.heap[x]?)
 (DH:w'.os=w.os) (PU:w'.tape=w.tape) (qn:w'.output=w.output)
 (hB:qv L w (L.qF id q O v iG) w'->nB (bad B<|L.qF id q O v iG) (jl<|L.qF id q O v iG) (L.qF id q O v iG) w' id b')
 (kj:L.lX id->∀ b,L.val id ≠ .pointer (some b)) (jI:σ.nl=true->b'.nl=true):jd w0 B (σ.nT<|.oM id q b') a w'<|L.qF id q O v iG:=by
 have mI:∀ i,i≠id->(L.qF id q O v iG).val i=L.val i:=λi e=>by show(if i=id then _ else _)=_;rw[aX e]
 have Ci:∀ i,i≠id->∀ j,(L.qF id q O v iG).iG i j=L.iG i j:=λi e j=>by show(if i=id then _ else _)=_;rw[aX e]
 have lq:∀ i,i≠id->∀ y,(L.qF id q O v iG).own i y↔L.own i y/\i≠q:=λi e y=>by show(if i=id then _ else _)↔_;rw[aX e]
 have AY:∀ y,(L.qF id q O v iG).own id y↔O y:=λy=>by show(if id=id then _ else _)↔_;rw[aY rfl]
 have iE:qv L w (L.qF id q O v iG) w':=by
  refine⟨mP,λy hy h=>?_,λy hy hm=>sR y hy λho=>hm ⟨id,ho⟩⟩;obtain⟨i,hi⟩:=h;by_cases e:i=id
  .subst e;rcases(hO y<|(AY y).1 hi).1 with h|h|h
   .exact ⟨i,h⟩
   .exact ⟨q,h⟩
   .omega
  .exact ⟨i,((lq i e y).1 hi).1⟩
 have iV:∀ i,(σ.nT<|.oM id q b').bo i=if id=i then some b' else if i=q then none else(σ.bo i).map (Bx.q9<|PV.kP<|.oM id q b'):=by
  intro i;show look (uS ((σ.pre<|.oM id q b').filter λy=>!Nat.beq y.1 q) id _) i=_;rw[D2];by_cases e:id=i
  .rw [aY e,aY e]
  .rw [aX e,aX e,D1,PS.BT];by_cases e2:q=i
   .rw [aY e2,aY e2.symm]
   .rw [aX e2,aX λh=>e2 h.symm]
 have Cd:uU w0 w w':=⟨DH,PU,qn,mP,λy hy=>sR y (bM hy.1 r.he.size) λho=>(r.hw id y ho).1 hy⟩
 have Lu:∀ i y,i≠id->L.own i y->w'.heap[y]? = w.heap[y]?:=λi y e hy=>sR y (r.hw i y hy).2 λho=>e<|r.hi i id y hy ho
 have hwl:∀ i y,L.own i y->¬w0.uT y/\y<w'.heap.size:=λi y h=>⟨(r.hw i y h).1,bM (r.hw i y h).2 mP⟩
 have hT:∀ (p:PV) (v0:Value),kD (bad B L) (jl L) L w p v0->kD (bad B<|L.qF id q O v iG) (jl<|L.qF id q O v iG) (L.qF id q O v iG) w' (p.kP<|.oM id q b') v0:=by
  intro p v0 k;cases hp:p.kN.any (λy=>Nat.beq id y||Nat.beq q y)with
  |false=>
   rw[St hp];refine k.move iE λi hi hl=>?_
   have:=cF.1 hp i hi;simp only[dz,not_or]at this;have e1:i≠id:=λe=>this.1<|by rw[e];exact cw _
   have e2:i≠q:=λe=>this.2<|by rw[e];exact cw _
   exact⟨⟨.inr hl,e2⟩,mI i e1,Ci i e1⟩
  |true=>
   by_cases ju:∃ i off,p = .box i off
   .obtain ⟨i,off,rfl⟩:=ju;obtain⟨k1,b1,k2,k3⟩:=k;by_cases e1:i=id
    .subst e1;exact absurd k2<|kj k1 _
    .have e2:i=q:=by
      simp only[PV.kN,dP,fc,eO,dz]at hp;rcases hp with hp|hp
      .exact absurd (ku.1 hp).symm e1
      .exact (ku.1 hp).symm
     have e3:Nat.beq q id=false:=cM λh=>jD h.symm
     simp only[PV.kP,e2,e3,cw,bA,bC,bh];exact .any _
   .rw [ab1 hp λi off h=>ju ⟨i,off,h⟩];exact .any _
 refine⟨r.hd,r.hs,λt=>?_,λi b hb=>?_,λi=>?_,λi y hy=>?_,λi y hy=>?_,λi j y hi hj=>?_,r.he.trans Cd,λzo i b hb=>?_⟩
 .rw [PS.Dm];exact hT _ _<|r.ht t
 .rw [iV]at hb;by_cases e:id=i
  .subst e;rw[aY rfl]at hb;cases hb;exact hB iE
  .rw [aX e]at hb;by_cases e2:i=q
   .rw [aY e2]at hb;cases hb
   .rw [aX e2]at hb;have e':i≠id:=λh=>e h.symm
    obtain⟨b0',ln,rfl⟩:=bU.1 hb;exact nB.map (g:=λp=>p) iE (by rw[D3];exact r.hb i b0' ln) (mI i e') (λy=>(lq i e' y).trans ⟨λh=>h.1,λh=>⟨h,e2⟩⟩) (Ci i e') (λy hy=>Lu i y e' hy) λp v _ k=>hT p v k
 .rw [iV];show(i=id\/L.lX i)/\i≠q↔_;by_cases e:id=i
  .subst e;rw[aY rfl];exact⟨λ_=>rfl,λ_=>⟨.inl rfl,jD⟩⟩
  .rw [aX e];have e':i≠id:=λh=>e h.symm
   by_cases e2:i=q
   .subst e2;simp
   .rw [aX e2];rw[eZ];exact⟨λh=>(r.hv i).1<|h.1.resolve_left e',λh=>⟨.inr<|(r.hv i).2 h,e2⟩⟩
 .by_cases e:i=id
  .subst e;exact⟨.inl rfl,jD⟩
  .have:=(lq i e y).1 hy;exact⟨.inr<|r.hn i y this.1,this.2⟩
 .by_cases e:i=id
  .subst e;obtain⟨h,h2⟩:=hO y<|(AY y).1 hy;rcases h with h|h|h
   .exact ⟨(r.hw _ y h).1,h2⟩
   .exact ⟨(r.hw _ y h).1,h2⟩
   .exact ⟨mA.Zs r.he.size h,h2⟩
  .exact hwl i y ((lq i e y).1 hy).1
 .have cross:∀ j,j≠id->L.own j y/\j≠q->O y->False:=by
   intro j e h2 h;rcases(hO y h).1 with h|h|h
   .exact e<|r.hi j _ y h2.1 h
   .exact h2.2<|r.hi j q y h2.1 h
   .have:=(r.hw j y h2.1).2;omega
  by_cases e1:i=id
  .by_cases e2:j=id
   .rw [e1,e2]
   .subst e1;exact(cross j e2 ((lq j e2 y).1 hj)<|(AY y).1 hi).elim
  .by_cases e2:j=id
   .subst e2;exact(cross i e1 ((lq i e1 y).1 hi)<|(AY y).1 hj).elim
   .exact r.hi i j y ((lq i e1 y).1 hi).1 ((lq j e2 y).1 hj).1
 .rw [iV]at hb;by_cases e:id=i
  .rw [aY e]at hb;cases hb;exact jI zo
  .rw [aX e]at hb;by_cases e2:i=q
   .rw [aY e2]at hb;cases hb
   .rw [aX e2]at hb;obtain⟨b0',ln,rfl⟩:=bU.1 hb;rw[D4];exact r.hl zo i b0' ln
section
variable{L:Lk}{id q:Nat}{O:Nat->Prop}{v:Value}{iG:Nat->Value}
def Lk.Yc(x:Nat):(L.qF id q O v iG).own id x↔O x:=by simp[Lk.qF]
def Lk.IL:(L.qF id q O v iG).val id=v:=by simp[Lk.qF]
def Lk.zO(k:Nat):(L.qF id q O v iG).iG id k=iG k:=by simp[Lk.qF]
end
def Lk.Qh{L:Lk}{id q:Nat}(jD:id≠q){O:Nat->Prop}{v:Value}{iG:Nat->Value}:(L.qF id q O v iG).lX id:=⟨.inl rfl,jD⟩
def jd.N8{w0:mA}{B:Nat->Prop}{σ:PS}{a:Act}{w:World}{L:Lk}(r:jd w0 B σ a w L)(id:Nat):∃ L',jd w0 B (σ.nT<|.fin id) a w L'/\(∀ i x,L'.own i x->L.own i x)/\(σ.nT<|.fin id).bo id=none:=by
 let L':Lk:=⟨λi=>L.lX i/\i≠id,λi x=>L.own i x/\i≠id,L.val,L.iG⟩
 have iE:qv L w L' w:=⟨a7 _,λx _ ⟨i,h,_⟩=>⟨i,h⟩,λ_ _ _=>rfl⟩
 have rL:∀ i,(σ.nT<|.fin id).bo i=if i=id then none else(σ.bo i).map (Bx.q9<|PV.kP<|.fin id):=by
  intro i;show look ((σ.pre<|.fin id).filter λx=>!Nat.beq x.1 id) i=_;rw[D1,PS.BT];by_cases h:i=id
  .rw [aY h,aY h.symm]
  .rw [aX h,aX λe=>h e.symm]
 have hT:∀ (p:PV) (v:Value),kD (bad B L) (jl L) L w p v->kD (bad B L') (jl L') L' w (p.kP<|.fin id) v:=by
  intro p v k;show kD _ _ _ _ (if p.kN.any (Nat.beq id)then .e .any else p) _;cases hp:p.kN.any (Nat.beq id)with
  |true=>exact .any _
  |false=>
   refine kD.move iE k λi hi pT=>⟨⟨pT,?_⟩,rfl,λ_=>rfl⟩
   rintro rfl;have:=cF.1 hp i hi;simp at this
 refine⟨L',⟨r.hd,r.hs,λt=>?_,λi b' h=>?_,λi=>?_,λi x h=>⟨r.hn i x h.1,h.2⟩,λi x h=>r.hw i x h.1,λi i' x h k=>r.hi i i' x h.1 k.1,r.he,λh i b' k=>?_⟩,λi x h=>h.1,by rw[rL,aY rfl]⟩
 .rw [PS.Dm];exact hT _ _<|r.ht t
 .rw [rL]at h;split at h
  .cases h
  .rename_i hi;obtain⟨b0',ln,rfl⟩:=bU.1 h;exact nB.map (g:=λp=>p) iE (by rw[D3];exact r.hb i b0' ln) rfl (λx=>⟨λq=>q.1,λq=>⟨q,hi⟩⟩) (λ_=>rfl) (λ_ _=>rfl) λp v _ k=>hT p v k
 .rw [rL];show L.lX i/\i≠id↔_;by_cases hi:i=id
  .subst hi;simp
  .simp only[hi,cQ,eP,fM,bh,eZ];exact r.hv i
 .rw [rL]at k;split at k
  .cases k
  .obtain ⟨b0',ln,rfl⟩:=bU.1 k;rw[D4];exact r.hl h i b0' ln
def Of(σ:PS)(id:Nat)(b:Bx):(σ.nT<|.fin id).nT (.new id b)=σ.nT (.xJ id b):=by
 have h:∀ l:List<|Nat×Bx,uS (l.filter λx=>!Nat.beq x.1 id) id b=uS l id b:=by
  intro l;unfold uS;rw[List.filter_filter];congr 2;funext x;cases Nat.beq x.1 id<;>rfl
 show PS.mk σ.n σ.nl (σ.t.map _) (uS ((σ.pre<|.fin id).filter λx=>!Nat.beq x.1 id) id b)=PS.mk σ.n σ.nl (σ.t.map _) (uS (σ.pre<|.xJ id b) id b);rw[h];rfl
def abS{T:List TI}{t:TypeId}{x:TI}(h:lP T t=some x):x ∈ T/\x.id=t:=by
 induction T with
 |nil=>cases h
 |cons y l ih=>
  unfold lP at h;split at h
  .rename_i hb;cases h;exact⟨aH,ku.1 hb⟩
  .obtain ⟨h1,h2⟩:=ih h;exact⟨by simp[h1],h2⟩
section
variable{P:Program}{T:List TI}(hT:mw P T){t:TypeId}{x:TI}(h:lP T t=some x)
def mw.qK:P.underlying t=some x.d:=by
 obtain⟨h1,h2⟩:=abS h;rw[<-h2];exact(hT x h1).1
def mw.Bg:P.info? t=some x.i:=by
 obtain⟨h1,h2⟩:=abS h;rw[<-h2];exact(hT x h1).2
end
def BZ{T:List TI}{t:TypeId}{d:TypeDesc}(h:yd T t=some d):∃ x,lP T t=some x/\x.d=d:=by
 unfold yd at h;split at h
 .rename_i x hx;exact⟨x,hx,by simpa using h⟩
 .cases h
section
variable {P:Program} {T:List TI} (hT:mw P T) (w:World)
include hT
section
variable{t:TypeId}{x:TI}(h:lP T t=some x)
def tR:(sizeOf t).run P w = .ok x.i.size w:=by
 simp[sizeOf,typeInfo,hT.Bg h]
def Mz{z:Value}(hz:x.i.zero=some z):(zeroValue t).run P w = .ok z w:=by
 simp[zeroValue,typeInfo,hT.Bg h,hz]
def Mx:(isAgg t).run P w = .ok x.isAgg w:=by
 unfold isAgg TI.isAgg;rw[Sem.run_bind,run_underlying (hT.qK h) w];cases x.d<;>simp
def aaL(ha:x.isAgg=true)(b o:Nat)(vs:List Value)(hl:vs.length=x.i.size)
 (hc:∀ (j:Nat) (u:Value),vs[j]? = some u->w.cell? ⟨b,o+j,none⟩=some u):(loadVar t ⟨b,o,none⟩).run P w = .ok (.agg vs.toArray) w:=by
 have hr:=run_loadCells_list (P:=P) w ⟨b,o,none⟩ vs (λj v hv=>by rw[Addr.add_lit];exact hc j v hv);rw[hl]at hr;simp[loadVar,Mx hT w h,ha,tR hT w h,hr]
def My(ha:x.isAgg=false)(b o:Nat)(u:Value)(hc:w.cell? ⟨b,o,none⟩=some u):(loadVar t ⟨b,o,none⟩).run P w = .ok u w:=by
 simp[loadVar,Mx hT w h,ha,hc]
def By(b o:Nat)(E:TypeId)(cur:Array Value)(hg:w.heap[b]? = some (.cells cur E (0,0)))(v:Value)(hl:v.cells.toList.length=x.i.size)
 (qm:o+v.cells.toList.length<=cur.size) (h1:∀ u ∈ v.cells.toList,u.oneCell'=true):
 (storeVar t ⟨b,o,none⟩ v).run P w = .ok () (w.setRow b (cur.toList.take o++v.cells.toList++cur.toList.drop (o+v.cells.toList.length)).toArray):=by
 have hr:=run_storeCells_at P b o E v.cells.toList 0 cur w hg (by simpa using qm) h1;simp only[bT]at hr;have qa:v.cells.size=x.i.size:=by simpa using hl
 simp only[storeVar,Sem.run_bind,tR hT w h,Result.andThen,qa,cQ,gT,bh,hr,Sem.run_ite,Sem.run_pure]
end
end
def pM.setRow{L:Lk}{w:World}{id b:Nat}(hb:L.own id b)(iE:∀ x,L.own id x->x<w.heap.size)(cs:Array Value):pM L w id (L.own id)<|w.setRow b cs:=
 ⟨λx hx=>⟨.inl hx,by simpa using iE x hx⟩,aH,λx _ jD=>setRow_other w b x cs λe=>jD<|e▸hb,rfl,rfl,rfl⟩
def jV(P:Program)(K:World->Prop)(w0:mA)(B:Nat->Prop)(σ:PS)(o:Oper)(a:Act)(w:World)(u:ko):Prop:=
 ∃ v w' L',((execOp a.eval o).run P w = .ok (.value v) w'\/((execOp a.eval o).run P w = .ok .skip w'/\v=undef))/\jd w0 B (σ.nT u.f) a w' L'/\kD (bad B L') (jl L') L' w' u.r v
section
variable {P:Program} {K:World->Prop} {w0:mA} {B:Nat->Prop} {σ:PS} {o:Oper} {a:Act} {w:World} {L:Lk} {u:ko}
def jV.pure(r:jd w0 B σ a w L){v:Value}(ki:(execOp a.eval o).run P w = .ok (.value v) w)(hf:u.f = .none)(hp:kD (bad B L) (jl L) L w u.r v):jV P K w0 B σ o a w u:=
 ⟨v,w,L,.inl ki,by rw[hf];exact r,hp⟩
def ami{l:List PV}{es:List E}(h:Mf l=some es):l=es.map .e:=by
 induction l generalizing es with
 |nil=>cases h;rfl
 |cons p l ih=>
  cases p with
  |e x=>
   simp only[Mf]at h;obtain⟨t,ht,rfl⟩:=bU.1 h;rw[ih ht];rfl
  |_=>cases h
def jd.read(r:jd w0 B σ a w L){p:PV}{v:Value}(hp:kD (bad B L) (jl L) L w p v){m:Nat}{l:List E}{is:List Nat}{jz:List Prop}(h:σ.read p m=some (l,is,jz))(ho:∀ q,q ∈ jz->q):
 ∃ b q vs,v = .pointer (some ⟨b,q,none⟩)/\kf (bad B L) (jl L) w l vs/\vs.length=m/\∀ (j:Nat) (u:Value),vs[j]? = some u->w.cell? ⟨b,q+j,none⟩=some u:=by
 have tab:∀ (b q:Nat) (g:Nat->E) (f:Nat->Value),(∀ j,j<m->w.cell? ⟨b,q+j,none⟩=some (f j)/\iI (bad B L) (jl L) w (g j) (f j)) ->
  ∃ vs:List Value,kf (bad B L) (jl L) w ((List.range m).map g) vs/\vs.length=m/\∀ (j:Nat) (u:Value),vs[j]? = some u->w.cell? ⟨b,q+j,none⟩=some u:=by
  intro b q g f hc;refine⟨(List.range m).map f,⟨aH,λi p x hp hx=>?_⟩,aH,λj u hu=>?_⟩
  .rw [ch]at hp hx;obtain⟨i1,AU,rfl⟩:=bU.1 hp;obtain⟨i2,Fq,rfl⟩:=bU.1 hx;rw[AU]at Fq;cases Fq;obtain⟨iE,rfl⟩:=ca.1 AU;simp at iE;simpa using(hc i iE).2
  .rw [ch]at hu;obtain⟨i1,AU,rfl⟩:=bU.1 hu;obtain⟨iE,rfl⟩:=ca.1 AU;simp at iE;simpa using(hc j iE).1
 cases p with
 |box id off=>
  simp only[PS.read]at h;split at h
  .rename_i T l0 iV;split at h
   .rename_i hle;simp only[bu,bK]at h;obtain⟨rfl,rfl,rfl⟩:=h;obtain⟨b,vs,h1,h2,h3,h4,h5⟩:=r.hb id _ iV;obtain⟨_,b',k2,rfl⟩:=hp;rw[h1]at k2;cases k2;have Lm:=cE hle;refine⟨b,off,(vs.drop off).take m,rfl,(h4.drop off).take m,by simp[h4.len];omega,λj u hu=>?_⟩;rw[dF]at hu;split at hu
    .rw [dx]at hu;simp only[World.cell?,h3];simpa using hu
    .cases hu
   .cases h
  .rename_i nl T l0 iV;split at h
   .rename_i hle;obtain⟨es,uw,h⟩:=bU.1 h;simp only[bK]at h;obtain⟨rfl,rfl,rfl⟩:=h;obtain⟨b,vs,h1,h2,h3,h4,h5,h6⟩:=r.hb id _ iV;obtain⟨_,b',k2,rfl⟩:=hp;rw[h1]at k2;cases k2;have Lm:=cE hle;have hm:=ami uw;have hlen:es.length=m:=by
     have:=congrArg List.length hm;simp only[cB,eK,cv]at this;omega
    refine⟨b,off,(vs.drop off).take m,rfl,⟨by simp[h4,hlen];omega,λi p x hp hx=>?_⟩,by simp[h4];omega,λj u hu=>?_⟩
    .have hq:((l0.drop off).take m)[i]? = some (.e p):=by rw[hm,ch,hp];rfl
     rw[dF]at hq hx;split at hq
     .rename_i hi;rw[aY hi,dx]at hx;rw[dx]at hq;exact h5 _ _ _ hq hx
     .cases hq
    .rw [dF]at hu;split at hu
     .rw [dx]at hu;simp only[World.cell?,h3];simpa using hu
     .cases hu
   .cases h
  .rename_i T b l0 iV;split at h
   .rename_i hle;simp only[bu,bK]at h;obtain⟨rfl,rfl,rfl⟩:=h;obtain⟨vs,h1,h2,h3,h4,h5⟩:=r.hb id _ iV;obtain⟨_,b',k2,rfl⟩:=hp;rw[h1]at k2;cases k2;have Lm:=cE hle;refine⟨b,off,(vs.drop off).take m,rfl,(h4.drop off).take m,by simp[h4.len];omega,λj u hu=>?_⟩;rw[dF]at hu;split at hu
    .rw [dx]at hu;simp only[World.cell?,h3];simpa using hu
    .cases hu
   .cases h
  .cases h
 |oc id sz i j=>
  simp only[PS.read]at h;split at h
  .rename_i nl T n s el iV;split at h
   .rename_i hle;simp only[bu,bK]at h;obtain⟨rfl,rfl,rfl⟩:=h;simp only[bD]at hle;have e1:=ku.1 hle.1;have e2:=cE hle.2;subst e1;have hi:i<n:=ho _ aH;obtain⟨f,h1,h2,h3⟩:=r.hb id _ iV;obtain⟨_,b,ofs',n',c',k2,rfl⟩:=hp;rcases h1 with⟨h1,_⟩|⟨b',ofs,c,cur,h1,hg,qC,pF,nO,kr,jI⟩
    .rw [k2]at h1;cases h1
    .rw [k2]at h1;cases h1;obtain⟨vs,q1,q2,q3⟩:=tab b (ofs'+(i*s+j)) (λq=>el i<|j+q) (λq=>f i<|j+q) (λq hq=>⟨by
      simp only[World.cell?,hg];have:=(kr i (j+q) hi aC).1;rw[<-cO,<-cO]at this;simpa[cO]using this,(h3 i (j+q) hi aC).1⟩)
     exact⟨b,ofs'+(i*s+j),vs,rfl,q1,q2,q3⟩
   .cases h
  .cases h
 |qS id sz k i j=>
  simp only[PS.read]at h;split at h
  .rename_i nl T1 T0 n s len el pend iV;split at h
   .rename_i hle;simp only[bu,bK]at h;obtain⟨rfl,rfl,rfl⟩:=h;simp only[bD]at hle;have e1:=ku.1 hle.1;have e2:=cE hle.2;subst e1;have hk:k<n:=ho _ aH;have hi:i<len k:=ho _ aH;obtain⟨b0,ofs0,c0,cur0,f,g1,g2,g3,g4,g5,g6,g7,g8,_⟩:=(r.hb id _ iV).vE aC;obtain⟨h1,h3⟩:=g8 k hk;obtain⟨_,b,ofs',n',c',k2,rfl⟩:=hp;rcases h1 with⟨h1,_⟩|⟨b',ofs,c,cur,h1,hg,qC,pF,nO,kr,jI⟩
    .rw [k2]at h1;cases h1
    .rw [k2]at h1;cases h1;obtain⟨vs,q1,q2,q3⟩:=tab b (ofs'+(i*s+j)) (λq=>el k i<|j+q) (λq=>f k i<|j+q) (λq hq=>⟨by
      simp only[World.cell?,hg];have:=(kr i (j+q) hi aC).1;rw[<-cO,<-cO]at this;simpa[cO]using this,(h3 i (j+q) hi aC).1⟩)
     exact⟨b,ofs'+(i*s+j),vs,rfl,q1,q2,q3⟩
   .cases h
  .cases h
 |e x=>
  cases x with
  |ji k el=>
   simp only[PS.read]at h;split at h
   .rename_i hle;simp only[bu,bK]at h;obtain⟨rfl,rfl,rfl⟩:=h;have Lm:=cE hle;cases hp with
    |ji _ _ b q f hb iE hl cell kk=>
     obtain⟨vs,q1,q2,q3⟩:=tab b q el f λj hj=>⟨cell j aC,kk j aC⟩;exact⟨b,q,vs,rfl,q1,q2,q3⟩
   .cases h
  |_=>cases h
 |_=>cases h
def Gw{ti:TI}{l:List E}(h:An ti=some l):∃ z,ti.i.zero=some z/\∀ (bs br:Nat->Prop) (w:World),kf bs br w l z.cells.toList/\∀ u ∈ z.cells.toList,u.oneCell'=true:=by
 unfold An at h;split at h
 .rename_i z hz;exact⟨z,hz,λbs br w=>(iI.v (bs:=bs) (br:=br) (w:=w) z).cells h⟩
 .cases h
def jd.Zi(r:jd w0 B σ a w L)(id:Nat)(T:TypeId)(l:List E)(v:Value)(kj:σ.bo id=none)(hv:kf (bad B L) (jl L) w l v.cells.toList)(h1:∀ u ∈ v.cells.toList,u.oneCell'=true)
 (jI:(!σ.nl||l.all E.lY)=true):
 ∃ L',jd w0 B (σ.nT<|.new id<|.cells T l) a (w.alloc<|.cells v.cells T) L'/\kD (bad B L') (jl L') L' (w.alloc<|.cells v.cells T) (.box id 0) (.pointer<|some ⟨w.heap.size,0,none⟩):=by
 have hb:Below w.heap.size w<|w.alloc<|.cells v.cells T:=(Below.refl _ _).alloc (a7 _) _;have WA:∀ x,¬L.own id x:=λx hx=>by have:=(r.hv id).1<|r.hn id x hx;rw[kj]at this;simp at this
 have ht:pM L w id (λx=>x=w.heap.size)<|w.alloc<|.cells v.cells T:=⟨λx hx=>⟨.inr aC,aN⟩,hb.size,λx hx _=>hb.block x hx,rfl,rfl,rfl⟩
 have hl:=ht.later (.pointer<|some ⟨w.heap.size,0,none⟩) λ_=>undef;refine⟨_,r.new id (.cells T l) (λx=>x=w.heap.size) (.pointer<|some ⟨w.heap.size,0,none⟩) (λ_=>undef) _ kj (λx hx=>by subst hx;simp) hb
  ⟨w.heap.size,v.cells.toList,Lk.mU,λx=>Lk.px x,by rw[Array.toArray_toList];exact heap_alloc_new w _,hv.mono λ_ _=>hl.kq,h1⟩ jI,Lk.Ah,w.heap.size,Lk.mU,rfl⟩
def LR{d:Option Tmp}{b:Bx}{rr:Nat->PV}(h:CA σ d b rr=some u):∃ id,d=some id/\(!σ.nl||b.nl)=true/\u={ r:=rr id,f:=sZ σ id b,rb:=yJ σ id [] }:=by
 unfold CA at h;split at h
 .rename_i id;split at h
  .rename_i hc;cases h;exact⟨id,rfl,hc,rfl⟩
  .cases h
 .cases h
def jd.Zj(r:jd w0 B σ a w L)(id:Nat)(T:TypeId)(l:List E)(v:Value)(hv:kf (bad B L) (jl L) w l v.cells.toList)(h1:∀ u ∈ v.cells.toList,u.oneCell'=true)
 (jI:(!σ.nl||l.all E.lY)=true):
 ∃ L',jd w0 B (σ.nT<|sZ σ id<|.cells T l) a (w.alloc<|.cells v.cells T) L'/\kD (bad B L') (jl L') L' (w.alloc<|.cells v.cells T) (.box id 0) (.pointer<|some ⟨w.heap.size,0,none⟩):=by
 unfold sZ;split
 .rename_i kj;exact r.Zi id T l v kj hv h1 jI
 .obtain ⟨L1,r1,ho,kj⟩:=r.N8 id;have hm:∀ x,jl L1 x->jl L x:=λx ⟨i,hi⟩=>⟨i,ho i x hi⟩
  obtain⟨L',r',hp⟩:=r1.Zi id T l v kj (hv.mono λ_ _=>iI.pn (λx h=>h.elim .inl λh=>.inr<|hm x h) hm) h1 jI;rw[Of]at r';exact⟨L',r',hp⟩
def I0{d:Option Tmp}{b:Bx}{rr:Nat->PV}{jz:List Prop}(h:Bl σ d b rr jz=some u):∃ id,d=some id/\σ.bo id=none/\(!σ.nl||b.nl)=true/\u={ r:=rr id,f:=.new id b,jz:=jz }:=by
 unfold Bl at h;split at h
 .rename_i id;split at h
  .rename_i kj;split at h
   .rename_i hc;cases h;exact⟨id,rfl,kj,hc,rfl⟩
   .cases h
  .cases h
 .cases h
end
def JV{k:IntKind}{z:Int}(h:lJ k z):k.wrap z=z:=by
 cases k<;>simp only[lJ]at h<;>simp only[IntKind.wrap,IntKind.bits,IntKind.signed]<;>simp<;>(try split)<;>omega
def ane{k:IntKind}{x y:Int}(h:lJ k x)(hy:0<y):lJ k<|x.tdiv y:=by
 by_cases h0:0<=x
 .have h1:0<=x/y:=Int.ediv_nonneg h0 aC ;have h2:x/y<=x:=Int.ediv_le_self y h0;rw[arz h0];cases k<;>simp only[lJ]at h ⊢ <;> omega
 .obtain ⟨z,rfl⟩:∃ z,x = -z:=⟨-x,aC⟩
  have h0:0<=z:= aC ;have h1:0<=z/y:=Int.ediv_nonneg h0 aC;have h2:z/y<=z:=Int.ediv_le_self y h0;rw[Int.neg_tdiv,arz h0];cases k<;>simp only[lJ]at h ⊢ <;> omega
def agx{P:Program}{op:BinOp}{k k':IntKind}{x y:Int}{v:Value}{jz:List Prop}(h:Om op k x y=some (v,jz))(ho:∀ q,q ∈ jz->q)
 (hk:aaN op k k'=true) (t:TypeId) (w:World):(binOp op t (.int k x)<|.int k' y).run P w = .ok v w:=by
 cases op<;>simp only[Om,bu,bK,reduceCtorEq]at h<;>(obtain⟨rfl,rfl⟩:=h)<;>(try (have DA:=cN hk;subst DA))
 case add=>
  rw[binOp_add];by_cases KZ:k = .u32
  .subst KZ;simp[Op.intArith,Nt]
  .have e:Nt k x y=x+y:=by cases k<;>first|rfl|exact absurd rfl KZ
   have e2:SV k x y=[lJ k<|x+y]:=by cases k<;>first|rfl|exact absurd rfl KZ
   rw[e];simp[Op.intArith,JV<|ho (lJ k<|x+y)<|by rw[e2];simp]
 case sub=>rw[binOp_sub];simp[Op.intArith,JV<|ho (lJ k<|x-y) aH]
 case mul=>rw[binOp_mul];simp[Op.intArith,JV<|ho (lJ k<|x*y) aH]
 case quo=>
  have h1:=ho (0<y) aH;have h2:=ho (lJ k x) aH;rw[binOp_quo];have hy:¬y=0:= aC ;simp[Op.intDiv,hy,JV<|ane h2 h1]
 case rem=>
  have h1:=ho (0<y) aH;rw[binOp_rem];have hy:¬y=0:= aC ;simp[Op.intDiv,hy]
 case and=>rw[binOp_and,intBits_and];rfl
 case or=>rw[binOp_or,intBits_or];rfl
 case andNot=>rw[binOp_andNot,intBits_andNot];rfl
 case shl=>
  have h1:=ho (0<=y/\y<=k.bits) aH;rw[binOp_shl,shift_shl k k' x y h1.1 h1.2];rfl
 case shr=>
  have h1:=ho (0<=y/\y<=k.bits) aH;rw[binOp_shr,shift_shr k k' x y h1.1 h1.2];rfl
 case eql=>rw[binOp_eql];rfl
 case neq=>rw[binOp_neq];rfl
 case lss=>rw[binOp_lss];rfl
 case leq=>rw[binOp_leq];rfl
 case gtr=>rw[binOp_gtr];rfl
 case geq=>rw[binOp_geq];rfl
section
variable {P:Program} {K:World->Prop} {T:List TI} {O:qw} {w0:mA} {B:Nat->Prop} {σ:PS} {o:Oper} {a:Act} {w:World} {L:Lk} {u:ko}
def aia{x:Operand}(iC:o.op = .move x)(r:jd w0 B σ a w L)(h:jG P K T O σ o=some u):jV P K w0 B σ o a w u:=by
 simp only[jG,iC]at h;cases h;exact jV.pure r (by simp only[execOp,iC];rfl) rfl (r.op x)
def ahQ{x:Operand}(iC:o.op = .assign x)(r:jd w0 B σ a w L)(h:jG P K T O σ o=some u):jV P K w0 B σ o a w u:=by
 simp only[jG,iC]at h;cases h;exact jV.pure r (by simp only[execOp,iC];rfl) rfl (r.op x)
def aic{c x y:Operand}(iC:o.op = .pick c x y)(r:jd w0 B σ a w L)(h:jG P K T O σ o=some u):jV P K w0 B σ o a w u:=by
 simp only[jG,iC]at h;have hc:=r.op c;split at h
 .rename_i hv;rw[hv]at hc;have hc:=iI.kG hc;cases h;exact jV.pure r (by simp[execOp,iC,hc,asBool]) rfl (r.op x)
 .rename_i hv;rw[hv]at hc;have hc:=iI.kG hc;cases h;exact jV.pure r (by simp[execOp,iC,hc,asBool]) rfl (r.op y)
 .cases h
def aib{x:Operand}(iC:o.op = .nilCheck x)(r:jd w0 B σ a w L)(h:jG P K T O σ o=some u):jV P K w0 B σ o a w u:=by
 simp only[jG,iC]at h;have hc:=r.op x;split at h
 .rename_i hv;rw[hv]at hc;cases h;obtain⟨k1,b,k2,k3⟩:=hc;exact jV.pure r (v:=a.eval x) (by simp[execOp,iC,k3]) rfl ⟨k1,b,k2,k3⟩
 .rename_i hv;rw[hv]at hc;cases h;generalize hq:a.eval x=q at hc;refine jV.pure r (v:=q) ?_ rfl hc;cases hc;simp only[execOp,iC,hq];rfl
 .rename_i hv;rw[hv]at hc;cases h;refine jV.pure r (v:=a.eval x) ?_ rfl hc;obtain⟨vs,e,_⟩:=iI.OF hc;simp only[execOp,iC,e];rfl
 .rename_i hv;rw[hv]at hc;cases h;refine jV.pure r (v:=a.eval x) ?_ rfl hc;obtain⟨vs,e,_⟩:=hc;simp only[execOp,iC,e];rfl
 .cases h
def ahR(hT:mw P T){op:BinOp}{t yt:TypeId}{x y:Operand}(iC:o.op = .binOp op t x y yt)(r:jd w0 B σ a w L)(h:jG P K T O σ o=some u)(ho:∀ q,q ∈ u.jz->q):jV P K w0 B σ o a w u:=by
 simp only[jG,iC]at h;have hx:=r.op x;have hy:=r.op y;split at h
 .rename_i k z k' z' zD DP;rw[zD]at hx;rw[DP]at hy;split at h
  .rename_i v hv;cases h;obtain⟨h1,h2⟩:=ho _ (fN.2 rfl) _ _ w _ _ x y hx hy;refine jV.pure r (v:=v) ?_ rfl (.v _);simp only[execOp,iC,Sem.run_bind,h1,Result.andThen_ok,h2,Sem.run_pure]
  have hx:=iI.kG hx;have hy:=iI.kG hy;split at h
  .rename_i hk;obtain⟨rr,hr,rfl⟩:=bU.1 h;have ki:=agx (P:=P) (k':=k') hr ho hk t w;refine jV.pure r (v:=rr.1) ?_ rfl (.v _);simp only[execOp,iC,hx,hy,Sem.run_bind,eqGuard_at_int,Sem.run_pure,Result.andThen_ok,ki]
  .cases h
 .rename_i z z' zD DP;rw[zD]at hx;rw[DP]at hy;have hx:=iI.kG hx;have hy:=iI.kG hy;split at h
  .rename_i hd;obtain⟨ti,h1,h2⟩:=BZ hd;have hu:P.underlying t=some .bool:=by rw[hT.qK h1,h2]
   split at h
   .cases h;refine jV.pure r (v:=.bool<|z==z') ?_ rfl (.v _);simp only[execOp,iC,hx,hy,Sem.run_bind,eqGuard_at_bool,Sem.run_pure,Result.andThen_ok,run_eql_bool w t z z' hu]
   .cases h;refine jV.pure r (v:=.bool<|!(z==z')) ?_ rfl (.v _);simp only[execOp,iC,hx,hy,Sem.run_bind,eqGuard_at_bool,Sem.run_pure,Result.andThen_ok];have:(binOp .neq t (.bool z)<|.bool z').run P w = .ok (.bool<|!(z==z')) w:=by
     simp only[binOp,Sem.run_bind,run_equal_bool w t z z' hu,Result.andThen_ok,Sem.run_pure]
    rw[this];rfl
   .cases h
  .cases h
 .rename_i nl n sz el zD DP;rw[zD]at hx;rw[DP]at hy;have hy:=iI.kG hy;have hx:iI (bad B L) (jl L) w (.sl nl n sz el)<|a.eval x:=hx;split at h
  .rename_i e hd;obtain⟨ti,h1,h2⟩:=BZ hd;have hu:P.underlying t=some (.slice e):=by rw[hT.qK h1,h2]
   have key:∀ A c,0<n->a.eval x = .slice A n c->iI (bad B L) (jl L) w (.sl nl n sz el) (.slice A n c)->A.isNone=false:=by
    intro A c hn e1 hr;cases A with
    |some ad=>rfl
    |none=>
     cases hr with
     |sl _ _ _ _ _ _ f hc hm h0=>have:=h0 rfl;omega
   generalize hv:a.eval x=vx at hx;cases hx with
   |sl _ _ _ _ A c f hc hm h0 hl hr cell k=>
    have uC:iI (bad B L) (jl L) w (.sl nl n sz el)<|.slice A n c:=.sl nl n sz el A c f hc hm h0 hl hr cell k;split at h
    .cases h;have hn:0<n:=ho _ aH;refine jV.pure r (v:=.bool false) ?_ rfl (.v _);simp only[execOp,iC,hv,hy,Sem.run_bind,eqGuard_at_slice,Sem.run_pure,Result.andThen_ok,Lib.run_eql_slice_nil w t e A n c 0 0 hu,key A c hn hv uC]
    .cases h;have hn:0<n:=ho _ aH;refine jV.pure r (v:=.bool true) ?_ rfl (.v _);simp only[execOp,iC,hv,hy,Sem.run_bind,eqGuard_at_slice,Sem.run_pure,Result.andThen_ok,run_neq_slice_nil_any w t e A n c 0 0 hu,key A c hn hv uC,eH]
    .cases h
  .cases h
 .rename_i xe ye zD DP;rw[zD]at hx;rw[DP]at hy;split at h
  .rename_i v hv;cases h;obtain⟨h1,h2⟩:=ho _ (fN.2 rfl) _ _ w _ _ x y hx hy;refine jV.pure r (v:=v) ?_ rfl (.v _);simp only[execOp,iC,Sem.run_bind,h1,Result.andThen_ok,h2,Sem.run_pure]
  .cases h
 .cases h
def aih{op:UnOp}{t:TypeId}{x:Operand}(iC:o.op = .unOp op t x)(r:jd w0 B σ a w L)(h:jG P K T O σ o=some u)(ho:∀ q,q ∈ u.jz->q):jV P K w0 B σ o a w u:=by
 simp only[jG,iC]at h;have hx:=r.op x;split at h
 .rename_i z hv;rw[hv]at hx;have hx:=iI.kG hx;cases h;exact jV.pure r (v:=.bool<|!z) (by simp[execOp,iC,hx,Op.unary]) rfl (.v _)
 .rename_i k z hv;rw[hv]at hx;have hx:=iI.kG hx;cases h;have:=JV<|ho (lJ k<|0-z) aH;refine jV.pure r (v:=.int k<|0-z) ?_ rfl (.v _);simp only[execOp,iC,hx,Op.unary,Op.intArith,this];rfl
 .cases h
def ahV(hT:mw P T){src dst:TypeId}{x:Operand}(iC:o.op = .convert src dst x)(r:jd w0 B σ a w L)(h:jG P K T O σ o=some u):jV P K w0 B σ o a w u:=by
 simp only[jG,iC]at h;have hx:=r.op x;split at h
 .rename_i k ts k' z hd hs hv;rw[hv]at hx;have hx:=iI.kG hx;obtain⟨td,h1,h2⟩:=BZ hd;have hu:P.underlying dst=some (.int k):=by rw[hT.qK h1,h2]
  have hk:P.intKind dst=k:=by simp[Program.intKind,hu]
  have ki:=run_convert_int (P:=P) w src dst k' z (by rw[hT.qK hs];rfl) (by rw[hk];exact hu);rw[hk]at ki;cases h;exact jV.pure r (v:=.int k<|k.wrap z) (by simp only[execOp,iC,hx,Sem.run_bind,ki];rfl) rfl (.v _)
 .cases h
def ahW{x:Operand}{i:Nat}(iC:o.op = .extract x i)(r:jd w0 B σ a w L)(h:jG P K T O σ o=some u):jV P K w0 B σ o a w u:=by
 simp only[jG,iC]at h;have hx:=r.op x;split at h
 .rename_i l hv;rw[hv]at hx;obtain⟨vs,e,hr⟩:=iI.abR hx;split at h
  .rename_i y hy;cases h;have iE:i<vs.length:=by rw[hr.len];exact(ca.1 hy).1
   have FD:=bk iE;refine jV.pure r (v:=vs[i]) ?_ rfl (hr.kq i y _ hy FD);simp only[execOp,iC,e,Instr.extract,gR,FD];rfl
  .cases h
 .cases h
def YN{bs:Nat->Prop}{z:Int}{e:E}:∀ {l:List<|Int×FuncId×List FuncId} {es:List MapEntry} (i:Nat),CU bs w l es->zT l z=some e->(∀ b,jl L b->bs b) ->
 ∃ j v,Instr.findNow (.int .i64) (.int .i64 z) es i=some (some (j,v))/\iI bs (jl L) w e v
 | [],_,_,_,h,_=>by cases h
 |_::_,[],_,k,_,_=>k.elim
 |x::l,y::es,i,⟨⟨k1,vs,k2,k3,k4⟩,k⟩,h,hm=>by
  unfold zT at h;have e0:Instr.sameNow (.int .i64) (.int .i64 z) y.key=some (z==x.1):=by rw[k1];rfl
  by_cases hz:x.1=z
  .rw [aY hz]at h;cases h;have e1:(z==x.1)=true:=by simp[hz]
   refine⟨i,y.val,?_,?_⟩
   .rw [Instr.findNow,e0,e1]
   .rw [k2];refine .fn _ _ vs (by simpa using k3) λj p v hp hv=>?_
    rw[ch]at hp;obtain⟨g,hg,rfl⟩:=bU.1 hp;obtain⟨b,rfl,q2,q3,q4⟩:=k4 j g v hg hv;have hc:∀ q,q<1->w.cell? ⟨b,0+q,none⟩=some (.func (.func g) #[] #[]):=λq hq=>by
     obtain rfl:q=0:= aC ;exact q4
    exact .ji 1 _ b 0 (λ_=>.func (.func g) #[] #[]) (λh=>q2<|hm b h) q3 (λ_ _=>rfl) hc λ_ _=>.fn g [] [] rfl (λi p x h=>by simp at h)
  .rw [aX hz]at h;have e1:(z==x.1)=false:=by simp;exact λe=>hz e.symm
   obtain⟨j,v,q1,q2⟩:=YN (i+1) k h hm;exact⟨j,v,by rw[Instr.findNow,e0,e1];exact q1,q2⟩
def aeY{k:TypeId}(hk:P.underlying k=some (.int .i64))(e:Bool)(n:Nat)(z:Int):(Instr.checkKey e (n+1) k<|.int .i64 z).run P w = .ok () w:=by
 unfold Instr.checkKey;simp only[Sem.run_bind,run_underlying hk,Result.andThen];rfl
def ah4(hT:mw P T){t:TypeId}{x i:Operand}{ok:Bool}(iC:o.op = .lookup t x i ok)(r:jd w0 B σ a w L)(h:jG P K T O σ o=some u)(ho:∀ q,q ∈ u.jz->q):jV P K w0 B σ o a w u:=by
 cases ok with
 |true=>simp[jG,iC]at h
 |false=>
 simp only[jG,iC]at h;have hx:=r.op x;have hi:=r.op i;split at h
 .rename_i l z k e0 hv hw hd;obtain⟨ti,h1,h2⟩:=BZ hd;have hu:P.underlying t=some (.map k e0):=by rw[hT.qK h1,h2]
  rw[hv]at hx;rw[hw]at hi;have hi:=iI.kG hi;split at h
  .rename_i e Cg hg;obtain⟨tk,h3,h4⟩:=BZ Cg;have hk:P.underlying k=some (.int .i64):=by rw[hT.qK h3,h4]
   cases h;have Dw:zT l z=some e:=ho _ aH;generalize hq:a.eval x=q at hx;cases hx with
   |mp _ b clk es hb iE hh mC=>
    obtain⟨j,v,q1,q2⟩:=YN (w:=w) (L:=L) 0 mC Dw λb h=>.inr h
    refine jV.pure r (v:=v) ?_ rfl q2;have vZ:(getObj b).run P w = .ok (.map es clk) w:=by simp[getObj,Sem.run,hh]
    have hck:=aeY (P:=P) (w:=w) hk es.isEmpty 9999 z;have hfk:(Instr.findKey k (.int .i64 z) es.toList).run P w = .ok (some (j,v)) w:=by unfold Instr.findKey;simp[run_underlying hk,Result.andThen,q1]
    have hl:(Instr.lookup t (.map<|some b) (.int .i64 z) false).run P w = .ok v w:=by
     unfold Instr.lookup;simp[run_underlying hu,vZ,hck,hfk,Result.andThen]
    simp only[execOp,iC,hq,hi,Sem.run_bind,hl,Result.andThen_ok,Sem.run_pure]
  .cases h
 .cases h
def ahX(hT:mw P T){t:TypeId}{x:Operand}{f:Nat}(iC:o.op = .field t x f)(r:jd w0 B σ a w L)(h:jG P K T O σ o=some u):jV P K w0 B σ o a w u:=by
 simp only[jG,iC]at h;have hx:=r.op x;split at h
 .rename_i l fs hv hd;obtain⟨ti,h1,h2⟩:=BZ hd;have hu:P.underlying t=some (.struct fs):=by rw[hT.qK h1,h2]
  rw[hv]at hx;obtain⟨vs,e,hr⟩:=iI.EM hx;split at h
  .rename_i fd Pp;split at h
   .rename_i ft Ps;split at h
    .cases h
    .rename_i hag;split at h
     .rename_i y hy;cases h;have iE:fd.offset<vs.length:=by rw[hr.len];exact(ca.1 hy).1
      have FD:=bk iE;refine jV.pure r (v:=vs[fd.offset]) ?_ rfl (hr.kq fd.offset y _ hy FD);simp only[execOp,iC,e,Instr.field,asAgg,Sem.run_bind,Sem.run_pure,Result.andThen_ok,run_underlying hu,Pp,part,Mx hT w Ps,hag,gR,FD];rfl
     .cases h
   .cases h
  .cases h
 .cases h
def aeR{ps:List PV}{l:List CV}{vs:List Value}(h:xZ ps=some l)(hlen:vs.length=ps.length)(hr:∀ (i:Nat) (p:PV) (x:Value),ps[i]? = some p->vs[i]? = some x->kD (bad B L) (jl L) L w p x):
 vs.length=l.length/\∀ (i:Nat) (c:CV) (x:Value),l[i]? = some c->vs[i]? = some x->xR (bad B L) (jl L) L w c x:=by
 induction ps generalizing l vs with
 |nil=>cases h;exact⟨hlen,λi c x hc=>by simp at hc⟩
 |cons p ps ih=>
  cases vs with
  |nil=>simp at hlen
  |cons y vs=>
   have step:∀ (c0:CV) (l':List CV),xZ ps=some l'->xR (bad B L) (jl L) L w c0 y->l=c0::l' ->
    (y::vs).length=l.length/\∀ (i:Nat) (c:CV) (x:Value),l[i]? = some c->(y::vs)[i]? = some x->xR (bad B L) (jl L) L w c x:=by
    intro c0 l' qa nN hl;obtain⟨i1,i2⟩:=ih qa (by simpa using hlen) (λi p x hp hx=>hr (i+1) p x (by simpa using hp)<|by simpa using hx);subst hl;refine⟨by simp[i1],λi c x hc hx=>?_⟩;cases i with
    |zero=>simp at hc hx;subst hc hx;exact nN
    |succ i=>simp at hc hx;exact i2 i c x hc hx
   have h0:=hr 0 p y rfl rfl;cases p with
   |e x=>
    simp only[xZ]at h;obtain⟨l',qa,rfl⟩:=bU.1 h;exact step (.e x) l' qa h0 rfl
   |box id off=>
    cases off with
    |zero=>
     simp only[xZ]at h;obtain⟨l',qa,rfl⟩:=bU.1 h;exact step (.box id) l' qa h0 rfl
    |succ=>simp[xZ]at h
   |oc id sz i j=>
    simp only[xZ]at h;split at h
    .rename_i hc;simp only[bD]at hc;obtain rfl:=ku.1 hc.1.1;obtain rfl:=ku.1 hc.1.2;obtain rfl:=ku.1 hc.2;obtain⟨l',qa,rfl⟩:=bU.1 h;obtain⟨k1,b,ofs,n,c,k2,k3⟩:=h0;exact step (.row id) l' qa ⟨k1,b,ofs,n,c,k2,by simpa using k3⟩ rfl
    .cases h
   |_=>simp[xZ]at h
def ah5{fn:Fn}{first cap:Array Operand}(iC:o.op = .makeFunc fn first cap)(r:jd w0 B σ a w L)(h:jG P K T O σ o=some u):jV P K w0 B σ o a w u:=by
 cases fn with
 |func f=>
  simp only[jG,iC]at h;split at h
  .rename_i aiP;have hf:first = #[]:=by simpa using aiP
   subst hf;split at h
   .rename_i l hl;cases h;have hc:=aeR (B:=B) (L:=L) (w:=w) (vs:=cap.toList.map a.eval) hl aH (λi p x hp hx=>by
     rw[ch]at hp hx;obtain⟨q,hq,rfl⟩:=bU.1 hp;rw[hq]at hx;simp at hx;subst hx;exact r.op q)
    refine jV.pure r (v:=.func (.func f) #[] (cap.toList.map a.eval).toArray) ?_ rfl ⟨cap.toList.map a.eval,rfl,hc.1,hc.2⟩;have e1:cap.map a.eval=(cap.toList.map a.eval).toArray:=by apply cW;simp
    have e2:(#[]:Array Operand).map a.eval = #[]:= aH ;simp only[execOp,iC,Instr.makeFunc,e1,e2,Sem.run_bind,Sem.run_pure,Result.andThen_ok]
   .cases h
  .cases h
 |_=>simp[jG,iC]at h
def ahZ(hT:mw P T){t:TypeId}{x i:Operand}(iC:o.op = .index t x i)(r:jd w0 B σ a w L)(h:jG P K T O σ o=some u)(ho:∀ q,q ∈ u.jz->q):jV P K w0 B σ o a w u:=by
 simp only[jG,iC]at h;have hx:=r.op x;have hi:=r.op i;split at h
 .rename_i l k z hv hw;rw[hv]at hx;rw[hw]at hi;have ei:=iI.kG hi;obtain⟨vs,e,hr⟩:=iI.EM hx;split at h
  .rename_i tt qE;split at h
   .rename_i n e' hd;have hu:P.underlying t=some (.array n e'):=by rw[hT.qK qE,hd]
    split at h
    .rename_i te np;split at h
     .rename_i hc;simp only[bD,ku]at hc;cases h;obtain⟨Cr,Bc⟩:=ho (0<=z/\z<n) aH;refine jV.pure r (v:=.agg ((vs.drop<|z.toNat*te.i.size).take te.i.size).toArray) ?_ rfl ((hr.drop _).take _).agg;simp only[execOp,iC,e,ei,Instr.index,asIntOf,Sem.run_bind,Sem.run_pure,Result.andThen_ok,run_underlying hu,Cr,Bc,and_self,bA,tR hT w np,part,Mx hT w np,hc.1];simp
     .cases h
    .cases h
   .cases h
  .cases h
 .cases h
def ahY(hT:mw P T){t:TypeId}{x:Operand}{f:Nat}(iC:o.op = .fieldAddr t x f)(r:jd w0 B σ a w L)(h:jG P K T O σ o=some u):jV P K w0 B σ o a w u:=by
 simp only[jG,iC]at h;have hx:=r.op x;split at h
 .rename_i fs hd;obtain⟨ti,h1,h2⟩:=BZ hd;have hu:P.underlying t=some (.struct fs):=by rw[hT.qK h1,h2]
  split at h
  .rename_i fd Pp;split at h
   .rename_i ft Ps;split at h
    .cases h
    .rename_i jD;have ai0:¬ft.i.size=0:=λe=>jD (ku.2 e)
     have ki:∀ b off,a.eval x = .pointer (some ⟨b,off,none⟩)->(execOp a.eval o).run P w = .ok (.value<|.pointer<|some ⟨b,off+fd.offset,none⟩) w:=by
      intro b off e;simp only[execOp,iC,e,Instr.fieldAt,Instr.sureAddr,fieldPlace,Sem.run_bind,run_underlying hu,Result.andThen_ok,Pp,Sem.run_pure,tR hT w Ps,ai0,bh,Addr.add_lit]
     split at h
     .rename_i id off hv;rw[hv]at hx;obtain⟨k1,b,k2,k3⟩:=hx;cases h;exact jV.pure r (ki b off k3) rfl ⟨k1,b,k2,rfl⟩
     .rename_i id sz i j hv;rw[hv]at hx;obtain⟨k1,b,ofs,n,c,k2,k3⟩:=hx;cases h;exact jV.pure r (ki b _ k3) rfl ⟨k1,b,ofs,n,c,k2,by simp only[cO]⟩
     .rename_i id sz k i j hv;rw[hv]at hx;obtain⟨k1,b,ofs,n,c,k2,k3⟩:=hx;cases h;exact jV.pure r (ki b _ k3) rfl ⟨k1,b,ofs,n,c,k2,by simp only[cO]⟩
     .rename_i m el hv;rw[hv]at hx;split at h
      .rename_i hle;have Lm:=cE hle;cases h;generalize hq:a.eval x=q at hx;cases hx with
       |ji _ _ b off g hb iE hl cell kk=>
        refine jV.pure r (ki b off hq) rfl (.ji _ _ b _ (λj=>g<|fd.offset+j) hb iE (λj hj=>hl _ aC) (λj hj=>?_) λj hj=>kk _ aC);have:=cell (fd.offset+j) aC;rwa[<-cO]at this
      .cases h
     .cases h
   .cases h
  .cases h
 .cases h
end
section
variable {P:Program} {K:World->Prop} {T:List TI} {O:qw} {w0:mA} {B:Nat->Prop} {σ:PS} {o:Oper} {a:Act} {w:World} {L:Lk} {u:ko}
def akt(hT:mw P T){t:TypeId}{x:Operand}{ti:TI}(nE:lP T t=some ti)(iC:o.op = .load t x)(r:jd w0 B σ a w L)(h:Cv ti (σ.read (σ.op x) ti.i.size)=some u)(ho:∀ q,q ∈ u.jz->q):jV P K w0 B σ o a w u:=by
 cases hr:σ.read (σ.op x) ti.i.size with
 |none=>rw[hr]at h;cases h
 |some y=>
  obtain⟨l,is,jz⟩:=y;rw[hr]at h;simp only[Cv]at h;by_cases ha:ti.isAgg=true
  .rw [aY ha]at h;cases h;obtain⟨b,q,vs,e,h1,h2,h3⟩:=r.read (r.op x) hr ho;refine jV.pure r (v:=.agg vs.toArray) ?_ rfl h1.agg;simp only[execOp,iC,e,Instr.loadAt,Instr.sureAddr,Sem.run_bind,Sem.run_pure,Result.andThen_ok,aaL hT w nE ha b q vs h2 h3]
  .rw [aX ha]at h;have xd:ti.isAgg=false:=by simpa using ha
   split at h
   .rename_i p;cases h;obtain⟨b,q,vs,e,h1,h2,h3⟩:=r.read (r.op x) hr ho;obtain⟨y,ys,rfl,hy,DR⟩:=h1.mY;refine jV.pure r (v:=y) ?_ rfl hy;have hc:=h3 0 y rfl;simp only[execOp,iC,e,Instr.loadAt,Instr.sureAddr,Sem.run_bind,Sem.run_pure,Result.andThen_ok,My hT w nE xd b q y<|by simpa using hc]
   .cases h
def alY{l:List PV}{off q:Nat}(h:Mb l off=some q):l[off]? = some (.own q):=by
 induction l generalizing off with
 |nil=>cases h
 |cons p l ih=>
  cases off with
  |zero=>cases p<;>first|(cases h;rfl)|cases h
  |succ n=>
   have h':Mb l n=some q:=by cases p<;>exact h
   simpa using ih h'
def ah3(hT:mw P T){t:TypeId}{x:Operand}(iC:o.op = .load t x)(r:jd w0 B σ a w L)(h:jG P K T O σ o=some u)(ho:∀ q,q ∈ u.jz->q):jV P K w0 B σ o a w u:=by
 simp only[jG,iC,KL]at h;split at h
 .rename_i ti nE;split at h
  .rename_i id q pS;by_cases ha:ti.isAgg=true
   .rw [aY ha]at h;cases h
   .rw [aX ha]at h;have xd:ti.isAgg=false:=by simpa using ha
    cases h;have hx:=r.op x;cases hp:σ.op x with
    |box id' off=>
     rw[hp]at pS hx;simp only[Dl]at pS;split at pS
     .rename_i nl T0 l iV;obtain⟨q',hq,pS⟩:=bU.1 pS;simp only[bK]at pS;obtain⟨rfl,rfl⟩:=pS;obtain⟨b,vs,h1,h2,h3,h4,h5,h6⟩:=r.hb id' _ iV;obtain⟨k1,b',k2,k3⟩:=hx;rw[h1]at k2;cases k2;have hl:=alY hq;obtain⟨v,hv⟩:∃ v,vs[off]? = some v:=⟨_,bk<|by rw[h4];exact(ca.1 hl).1⟩
      have hr:=h5 off _ v hl hv;refine jV.pure r (v:=v) ?_ rfl hr;have kr:w.cell? ⟨b,off,none⟩=some v:=by
       simp only[World.cell?,h3];simpa using hv
      simp only[execOp,iC,k3,Instr.loadAt,Instr.sureAddr,Sem.run_bind,Sem.run_pure,Result.andThen_ok,My hT w nE xd b _ _ kr]
     .cases pS
    |_=>rw[hp]at pS;cases pS
  unfold KM at h;split at h
  .rename_i id i n qD;by_cases ha:ti.isAgg=true
   .rw [aY ha]at h;cases h
   .rw [aX ha]at h;have xd:ti.isAgg=false:=by simpa using ha
    cases h;have hx:=r.op x;cases hp:σ.op x with
    |oc id' sz i' j=>
     rw[hp]at qD hx;simp only[Ei]at qD;split at qD
     .rename_i nl T1 T0 n' sz' len el iV;split at qD
      .rename_i hc;simp only[bu,bK]at qD;obtain⟨rfl,rfl,rfl⟩:=qD;simp only[bD]at hc;have e1:=ku.1 hc.1;have e2:=ku.1 hc.2;subst e1 e2;have hi:i'<n':=ho _ aH;obtain⟨b,ofs,c,cur,f,h1,h2,h3,h4,h5,h6,h7,h8,h9,nh,nW⟩:=(r.hb id' _ iV).vE aC;obtain⟨k1,b',ofs2,n2,c2,k2,k3⟩:=hx;rw[h1]at k2;cases k2;refine jV.pure r (v:=L.iG id' i') ?_ rfl ⟨k1,rfl⟩;have kr:w.cell? ⟨b,ofs+(i'*1+0),none⟩=some (L.iG id' i'):=by
        simp only[World.cell?,h2];simpa using h6 i' hi aH 
       simp only[execOp,iC,k3,Instr.loadAt,Instr.sureAddr,Sem.run_bind,Sem.run_pure,Result.andThen_ok,My hT w nE xd b _ _ kr]
      .cases qD
     .cases qD
    |_=>rw[hp]at qD;cases qD
  .exact akt hT nE iC r h ho
 .cases h
def Rf{bs br:Nat->Prop}{l m:List E}{vs us:List Value}(h:kf bs br w l vs)(k:kf bs br w m us)(off:Nat):kf bs br w (Ae l off m)<|vs.take off++us++vs.drop (off+us.length):=by
 unfold Ae;rw[k.len];exact((h.take off).app k).app<|h.drop _
def ZW{q:E->Bool}{l m:List E}(h:l.all q=true)(k:m.all q=true)(off:Nat):(Ae l off m).all q=true:=by
 unfold Ae;rw[List.all_append,List.all_append,k];have h1:(l.take off).all q=true:=bR.2 λx hx=>bR.1 h x<|dM hx
 have h2:(l.drop<|off+m.length).all q=true:=bR.2 λx hx=>bR.1 h x<|dW hx
 rw[h1,h2];rfl
def ZZ{R R':PV->Value->Prop}{l m:List PV}{vs us:List Value}(h:vs.length=l.length)(k:us.length=m.length)(off:Nat)
 (hl:∀ (i:Nat) (p:PV) (v:Value),l[i]? = some p->vs[i]? = some v->R p v) (hm:∀ (i:Nat) (p:PV) (v:Value),m[i]? = some p->us[i]? = some v->R' p v) (hR:∀ p v,R p v->R' p v):
 (vs.take off++us++vs.drop (off+us.length)).length=(Ed l off m).length/\∀ (i:Nat) (p:PV) (v:Value),(Ed l off m)[i]? = some p->(vs.take off++us++vs.drop (off+us.length))[i]? = some v->R' p v:=by
 unfold Ed;rw[k];refine⟨by simp[h,k],λi p v hp hv=>?_⟩;rw[eG,eG]at hp hv;simp only[cK,cB,h,k]at hp hv;by_cases h1:i<min off l.length+m.length
 .rw [aY h1]at hp hv;by_cases h2:i<min off l.length
  .rw [aY h2]at hp hv;rw[dF]at hp hv;split at hp
   .rename_i h3;rw[aY h3]at hv;exact hR _ _<|hl i p v hp hv
   .cases hp
  .rw [aX h2]at hp hv;exact hm _ p v hp hv
 .rw [aX h1]at hp hv;rw[dx]at hp hv;exact hR _ _<|hl _ p v hp hv
section
variable{w:World}{v:Value}{T:TypeId}{n sz:Nat}{f:Nat->Nat->Value}{nl:Bool}(h:nb w v T n sz f nl)
def nb.store{b ofs n' c':Nat}(hv:v = .slice (some ⟨b,ofs,none⟩) n' c'){i j:Nat}(hi:i<n)
 (m:List Value) (hjm:j+m.length<=sz) (PG:∀ u,u ∈ m->u.oneCell'=true) (Ie:nl=true->∀ u,u ∈ m->pU u=false):
 ∃ cur,w.heap[b]? = some (.cells cur T (0,0))/\ofs+(i*sz+j)+m.length<=cur.size /\
  nb (w.setRow b (cur.toList.take (ofs+(i*sz+j))++m++cur.toList.drop (ofs+(i*sz+j)+m.length)).toArray) v T n sz (λi' j'=>if i'=i/\j<=j'/\j'<j+m.length then m.getD (j'-j) undef else f i' j') nl:=by
 rcases h with⟨h1,_⟩|⟨b,ofs,c,cur,h1,hg,qC,pF,nO,kr,jI⟩
 .rw [hv]at h1;cases h1
 .rw [h1]at hv;cases hv;have aqx:ofs+(i*sz+sz)<=cur.size:=by
   have:=bG sz (aC:i+1<=c');rw[bL,bN]at this;omega
  have qm:ofs+(i*sz+j)+m.length<=cur.size:= aC ;refine⟨cur,hg,qm,.inr ⟨b,ofs,c',_,h1,setRow_heap w b _ _ T _ hg,qC,pF,?_,?_,?_⟩⟩
  .simp only[eJ,cK,cB,eK,dH];rw[df aC];omega
  .intro i' j' lg qB;obtain⟨o1,o2⟩:=kr i' j' lg qB;have hlen:ofs+(i'*sz+j')<cur.size:=by
    have:=bG sz (aC:i'+1<=c');rw[bL,bN]at this;omega
   have qW:i'≠i->i'*sz+j'<i*sz\/i*sz+sz<=i'*sz+j':=by
    intro jD;rcases Nat.lt_or_gt_of_ne jD with iE|iE
    .left;have:=bG sz<|show i'+1<=i from iE;rw[bL,bN]at this;omega
    .right;have:=bG sz<|show i+1<=i' from iE;rw[bL,bN]at this;omega
   simp only[gR];rw[aq7,eG,cB,dH,df aC];by_cases kS:i'=i/\j<=j'/\j'<j+m.length
   .obtain ⟨rfl,p1,p2⟩:=kS;rw[aX aC,fH aC];have e1:ofs+(i'*sz+j')-(ofs+(i'*sz+j))=j'-j:= aC ;have iE:j'-j<m.length:= aC ;rw[aY ⟨rfl,p1,p2⟩,e1,bc,bk iE];exact⟨rfl,PG _<|b9 iE⟩
   .rw [aX kS];refine⟨?_,o2⟩;by_cases kE:ofs+(i'*sz+j')<ofs+(i*sz+j)
    .rw [aY kE,dF,aY kE];simpa using o1
    .rw [aX kE,fI,dx]
     .have:ofs+(i*sz+j)+m.length+(ofs+(i'*sz+j')-(ofs+(i*sz+j))-m.length)=ofs+(i'*sz+j'):=by
       by_cases HW:i'=i
       .subst HW;omega
       .have:=qW HW;omega
      rw[this];simpa using o1
     .by_cases HW:i'=i
      .subst HW;omega
      .have:=qW HW;omega
  .intro hn v hv;simp only[gS,du]at hv;rcases hv with(hv|hv)|hv
   .exact jI hn v<|by have:=dM hv;simpa using this
   .exact Ie hn v hv
   .exact jI hn v<|by have:=dW hv;simpa using this
def nb.Fm:v.cells.toList=[v]/\v.oneCell'=true/\pU v=false:=by
 rcases h with⟨rfl,_⟩|⟨b,ofs,c,cur,rfl,_⟩<;>exact⟨rfl,rfl,rfl⟩
end
def nB.Fm{bs br:Nat->Prop}{id:Nat}{b:Bx}(h:nB bs br L w id b)(hs:b.XX=true):(L.val id).cells.toList=[L.val id]/\(L.val id).oneCell'=true/\pU (L.val id)=false:=by
 cases b with
 |row nl T n sz el=>obtain⟨f,h1,_⟩:=h;exact h1.Fm
 |iT nl T1 T0 n sz len el pend=>
  rcases h with⟨h,_⟩|⟨b,ofs,c,cur,f,h,_⟩<;>rw[h]<;>exact⟨rfl,rfl,rfl⟩
 |cells _ _=>cases hs
 |pQ _ _ _=>cases hs
 |Ak=>cases hs
 |uJ=>cases hs
def RX{id:Nat}:∀ i,L.lX i->(L.set id (L.own id) (L.val id)<|L.iG id).lX i/\(L.set id (L.own id) (L.val id)<|L.iG id).val i=L.val i/\∀ j,(L.set id (L.own id) (L.val id)<|L.iG id).iG i j=L.iG i j:=by
 intro i hi;by_cases e:i=id
 .subst e;exact⟨.inr hi,Lk.mU,λj=>Lk.nR j⟩
 .exact ⟨.inr hi,Lk.Ai e,λj=>Lk.Er e j⟩
def aoI(c r q:Nat):qX c r (qX c r q)=q:=by
 by_cases h1:q=c
 .subst h1;by_cases h2:r=q
  .subst h2;simp[qX]
  .simp [qX,h2]
 .by_cases h2:q=r
  .subst h2;simp[qX,h1]
  .simp [qX,h1,h2]
def Ph(hT:mw P T){t:TypeId}{x y:Operand}{ti:TI}(nE:lP T t=some ti)(iC:o.op = .store t x y)(r:jd w0 B σ a w L){id:Nat}{nl:Bool}{T1 T0 n sz:Nat}{len:Nat->Nat}{el:Nat->Nat->Nat->E}{pend:Option Nat}
 (k0:xT (bad B L) (jl L) L w id nl T1 T0 n sz len el pend) {i k:Nat} (hx:kD (bad B L) (jl L) L w (.oc id 1 i 0)<|a.eval x) (hy:kD (bad B L) (jl L) L w (.iG id k)<|a.eval y) (hi:i<n) (hk:k<n) (c2:ti.i.size=1):
 ∃ (b ofs c:Nat) (cur:Array Value) (f:Nat->Nat->Nat->Value),(L.val id = .slice (some ⟨b,ofs,none⟩) n c/\w.heap[b]? = some (.cells cur T1 (0,0))/\n<=c/\c<=maxLen/\ofs+c<=cur.size /\
  (∀ k,k<n->pend≠some k->cur[ofs+k]? = some (L.iG id k))/\(∀ u,u ∈ cur->pU u=false) /\
  (∀ k,k<n->nb w (L.iG id k) T0 (len k) sz (f k) nl/\∀ i j,i<len k->j<sz->iI (bad B L) (jl L) w (el k i j) (f k i j)/\(el k i j).nr 2=true) /\
  (∀ x,L.own id x↔x=b\/∃ k,k<n/\(L.iG id k).ownBlock=some x) /\
  (∀ k k' x,k<n->k'<n->(L.iG id k).ownBlock=some x->(L.iG id k').ownBlock=some x->k=k')/\(∀ k,k<n->(L.iG id k).ownBlock≠some b)) /\
 (execOp a.eval o).run P w = .ok .skip (w.setRow b<|cur.setIfInBounds (ofs+i)<|L.iG id k)/\pM L w id (L.own id) (w.setRow b<|cur.setIfInBounds (ofs+i)<|L.iG id k) /\
 ∀ x,x≠b->(w.setRow b<|cur.setIfInBounds (ofs+i)<|L.iG id k).heap[x]? = w.heap[x]?:=by
 obtain⟨b,ofs,c,cur,f,h1,h2,h3,h4,h5,h6,h7,h8,h9,nh,nW⟩:=k0;obtain⟨k1,b',ofs',n',c',k2,k3⟩:=hx;obtain⟨_,FF⟩:=hy;rw[h1]at k2;cases k2;have xk:=(h8 k hk).1.Fm;have lq:L.own id b:=(h9 b).2<|.inl rfl;have ht:=pM.setRow (L:=L) lq (λx hx=>(r.hw id x hx).2) (cur.toList.take (ofs+(i*1+0))++(a.eval y).cells.toList++cur.toList.drop (ofs+(i*1+0)+(a.eval y).cells.toList.length)).toArray;have AP:(a.eval y).cells.toList=[L.iG id k]:=by rw[FF];exact xk.1
 have Wy:(cur.toList.take (ofs+(i*1+0))++(a.eval y).cells.toList++cur.toList.drop (ofs+(i*1+0)+(a.eval y).cells.toList.length)).toArray=cur.setIfInBounds (ofs+i) (L.iG id k):=by
  rw[AP];apply cW;simp only[b6,bT,gL,arA];rw[List.set_eq_take_append_cons_drop,aY<|by simpa using(aC:ofs+i<cur.size)];simp
 rw[Wy]at ht;refine⟨b,ofs,c,cur,f,⟨h1,h2,h3,h4,h5,h6,h7,h8,h9,nh,nW⟩,?_,ht,λx hx=>setRow_other w b x _ hx⟩;have hr:=By hT w nE b (ofs+(i*1+0)) T1 cur h2 (a.eval y) (by rw[AP];simpa using c2.symm) (by rw[AP];simp;omega) (by rw[AP];simpa using xk.2.1);rw[Wy]at hr;simp only[execOp,iC,k3,Instr.storeAt,Instr.sureAddr,Sem.run_bind,Sem.run_pure,Result.andThen_ok,hr]
def WB{id:Nat}{nl:Bool}{T1 T0 n sz:Nat}{len:Nat->Nat}{el:Nat->Nat->Nat->E}{pend':Option Nat}{b ofs c i k:Nat}{cur:Array Value}{f:Nat->Nat->Nat->Value}(h1:L.val id = .slice (some ⟨b,ofs,none⟩) n c)(h2:w.heap[b]? = some (.cells cur T1 (0,0)))(h3:n<=c)(h4:c<=maxLen)(h5:ofs+c<=cur.size)
 (h7:∀ u,u ∈ cur->pU u=false)
 (h8:∀ k,k<n->nb w (L.iG id k) T0 (len k) sz (f k) nl/\∀ i j,i<len k->j<sz->iI (bad B L) (jl L) w (el k i j) (f k i j)/\(el k i j).nr 2=true)
 (h9:∀ x,L.own id x↔x=b\/∃ k,k<n/\(L.iG id k).ownBlock=some x)
 (nh:∀ k k' x,k<n->k'<n->(L.iG id k).ownBlock=some x->(L.iG id k').ownBlock=some x->k=k') (nW:∀ k,k<n->(L.iG id k).ownBlock≠some b)
 (hl:qv L w (L.set id (L.own id) (L.val id)<|L.iG id)<|w.setRow b<|cur.setIfInBounds (ofs+i)<|L.iG id k) (sR:∀ x,x≠b->(w.setRow b<|cur.setIfInBounds (ofs+i)<|L.iG id k).heap[x]? = w.heap[x]?) (hk:k<n)
 (h6:∀ q,q<n->pend'≠some q->(cur.setIfInBounds (ofs+i)<|L.iG id k)[ofs+q]? = some (L.iG id q)):
 xT (bad B<|L.set id (L.own id) (L.val id)<|L.iG id) (jl<|L.set id (L.own id) (L.val id)<|L.iG id) (L.set id (L.own id) (L.val id)<|L.iG id) (w.setRow b<|cur.setIfInBounds (ofs+i)<|L.iG id k) id nl T1 T0 n sz len el pend':=by
 refine⟨b,ofs,c,cur.setIfInBounds (ofs+i)<|L.iG id k,f,by rw[Lk.mU];exact h1,setRow_heap w b _ _ T1 _ h2,h3,h4,by simpa using h5,by simp only[Lk.nR];exact h6,?_,?_,?_,?_,?_⟩
 .intro v hv;rcases arB hv with hv|hv
  .exact h7 v hv
  .subst hv;exact(h8 k hk).1.Fm.2.2
 .intro q hq;obtain⟨p1,p2⟩:=h8 q hq;rw[Lk.nR];exact⟨p1.block λx hx=>sR x λe=>nW q hq<|e▸hx,λi j hi hj=>⟨hl.kq (p2 i j hi hj).1,(p2 i j hi hj).2⟩⟩
 .intro x;rw[Lk.px];refine(h9 x).trans ?_;simp only[Lk.nR]
 .simp only[Lk.nR];exact nh
 .simp only[Lk.nR];exact nW
def aif(hT:mw P T){t:TypeId}{x y:Operand}(iC:o.op = .store t x y)(r:jd w0 B σ a w L)(h:jG P K T O σ o=some u)(ho:∀ q,q ∈ u.jz->q):jV P K w0 B σ o a w u:=by
 simp only[jG,iC,KP]at h;have hx:=r.op x;have hy:=r.op y;split at h
 .rename_i ti nE;split at h
  .
   rename_i id off e ni A4;rw[ni]at hx;rw[A4]at hy;split at h
   .rename_i T1 l m iV hm;split at h
    .rename_i hc;cases h;simp only[bD]at hc;have c1:=ku.1 hc.1.1;have c2:=cE hc.1.2;obtain⟨b,vs,h1,h2,h3,h4,h5⟩:=r.hb id _ iV;obtain⟨k1,b',k2,k3⟩:=hx;rw[h1]at k2;cases k2;obtain⟨q1,q2⟩:=hy.cells hm;have ht:=pM.setRow (L:=L) ((h2 b).2 rfl) (λx hx=>(r.hw id x hx).2) (vs.take off++(a.eval y).cells.toList++vs.drop (off+(a.eval y).cells.toList.length)).toArray;have hl:=ht.later (L.val id)<|L.iG id;refine⟨undef,_,_,.inr ⟨?_,rfl⟩,r.oR id (.cells T1<|Ae l off m) _ k1 ht ⟨b,_,by rw[Lk.mU];exact h1,λx=>(Lk.px x).trans<|h2 x,setRow_heap w b _ _ T1 _ h3,(Rf h4 q1 off).mono λ_ _=>hl.kq,?_⟩ ?_,.any _⟩
     .have hr:=By hT w nE b off T1 vs.toArray h3 (a.eval y) (by rw[q1.len,c1]) (by rw[q1.len,eJ,h4.len];exact c2) q2;simp only[execOp,iC,k3,Instr.storeAt,Instr.sureAddr,Sem.run_bind,Sem.run_pure,Result.andThen_ok,hr]
     .intro v hv;simp only[du]at hv;rcases hv with(hv|hv)|hv
      .exact h5 v<|dM hv
      .exact q2 v hv
      .exact h5 v<|dW hv
     .intro hn;have:=hc.2;rw[hn]at this;exact ZW (r.hl hn id _ iV) (by simpa using this) off
    .cases h
   .rename_i nl T1 l m iV hm;split at h
    .rename_i hc;cases h;simp only[bD]at hc;have c1:=ku.1 hc.1.1;have c2:=cE hc.1.2;obtain⟨b,vs,h1,h2,h3,h4,h5,h6⟩:=r.hb id _ iV;obtain⟨k1,b',k2,k3⟩:=hx;rw[h1]at k2;cases k2;obtain⟨q1,q2⟩:=hy.cells hm;have ht:=pM.setRow (L:=L) ((h2 b).2 rfl) (λx hx=>(r.hw id x hx).2) (vs.take off++(a.eval y).cells.toList++vs.drop (off+(a.eval y).cells.toList.length)).toArray;have hl:=ht.later (L.val id)<|L.iG id;obtain⟨p1,p2⟩:=ZZ (R:=kD (bad B L) (jl L) L w) (R':=kD (bad B<|L.set id (L.own id) (L.val id)<|L.iG id) (jl<|L.set id (L.own id) (L.val id)<|L.iG id) (L.set id (L.own id) (L.val id)<|L.iG id)<|w.setRow b (vs.take off++(a.eval y).cells.toList++vs.drop (off+(a.eval y).cells.toList.length)).toArray)
      h4 (us:=(a.eval y).cells.toList) (m:=m.map .e) (by rw[q1.len,cv]) off h5 (λi p v hp hv=>by
       rw[ch]at hp;obtain⟨e0,he,rfl⟩:=bU.1 hp;exact hl.kq<|q1.kq i e0 v he hv) λp v k=>k.later hl RX
     refine⟨undef,_,_,.inr ⟨?_,rfl⟩,r.oR id (.pQ nl T1<|Ed l off<|m.map .e) _ k1 ht ⟨b,_,by rw[Lk.mU];exact h1,λx=>(Lk.px x).trans<|h2 x,setRow_heap w b _ _ T1 _ h3,p1,p2,?_⟩ ?_,.any _⟩
     .have hr:=By hT w nE b off T1 vs.toArray h3 (a.eval y) (by rw[q1.len,c1]) (by rw[q1.len,eJ,h4];exact c2) q2;simp only[execOp,iC,k3,Instr.storeAt,Instr.sureAddr,Sem.run_bind,Sem.run_pure,Result.andThen_ok,hr]
     .intro v hv;simp only[du]at hv;rcases hv with(hv|hv)|hv
      .exact h6 v<|dM hv
      .refine ⟨q2 v hv,λhn=>?_⟩;have:=hc.2;rw[hn]at this;have uk:m.all E.lY=true:=by simpa using this
       obtain⟨i,hi⟩:=dh.1 hv;have iE:i<m.length:=by rw[<-q1.len];exact(ca.1 hi).1
       exact(q1.kq i _ v (bk iE) hi).lY<|bR.1 uk _<|b9 iE
      .exact h6 v<|dW hv
     .intro hn;exact r.hl hn id (.pQ nl T1 l) iV
    .cases h
   .rename_i T1 b l m iV hm;split at h
    .rename_i hc;cases h;simp only[bD]at hc;have c1:=ku.1 hc.1.1;have c2:=cE hc.1.2;obtain⟨vs,h1,h2,h3,h4,h5⟩:=r.hb id _ iV;obtain⟨k1,b',k2,k3⟩:=hx;rw[h1]at k2;cases k2;obtain⟨q1,q2⟩:=hy.cells hm;have ht:=pM.setRow (L:=L) ((h2 b).2 rfl) (λx hx=>(r.hw id x hx).2) (vs.take off++(a.eval y).cells.toList++vs.drop (off+(a.eval y).cells.toList.length)).toArray;have hl:=ht.later (L.val id)<|L.iG id;refine⟨undef,_,_,.inr ⟨?_,rfl⟩,r.oR id (.uJ T1 b<|Ae l off m) _ k1 ht ⟨_,by rw[Lk.mU];exact h1,λx=>(Lk.px x).trans<|h2 x,setRow_heap w b _ _ T1 _ h3,(Rf h4 q1 off).mono λ_ _=>hl.kq,?_⟩ ?_,.any _⟩
     .have hr:=By hT w nE b off T1 vs.toArray h3 (a.eval y) (by rw[q1.len,c1]) (by rw[q1.len,eJ,h4.len];exact c2) q2;simp only[execOp,iC,k3,Instr.storeAt,Instr.sureAddr,Sem.run_bind,Sem.run_pure,Result.andThen_ok,hr]
     .intro v hv;simp only[du]at hv;rcases hv with(hv|hv)|hv
      .exact h5 v<|dM hv
      .exact q2 v hv
      .exact h5 v<|dW hv
     .intro hn;have:=hc.2;rw[hn]at this;exact ZW (r.hl hn id _ iV) (by simpa using this) off
    .cases h
   .cases h
  .
   rename_i id off q ni A4;rw[ni]at hx;rw[A4]at hy;unfold E9 at h;split at h
   rotate_left
   .unfold KQ at h;split at h
    .rename_i nl T1 l bq iV ur;split at h
     .rename_i hc;cases h;simp only[bD]at hc;have c1:=ku.1 hc.1.2;have c2:off<l.length:=by simpa[fG]using hc.2
      obtain⟨b,vs,h1,h2,h3,h4,h5,h6⟩:=r.hb id _ iV;obtain⟨k1,b',k2,k3⟩:=hx;rw[h1]at k2;cases k2;obtain⟨Xz,Bb⟩:=hy;obtain⟨d1,d2,d3⟩:=(r.hb q _ ur).Fm hc.1.1;have nO:(a.eval y).cells.toList=[L.val q]:=by rw[Bb,d1]
      have ht:=pM.setRow (L:=L) ((h2 b).2 rfl) (λx hx=>(r.hw id x hx).2) (vs.take off++[L.val q]++vs.drop (off+[L.val q].length)).toArray;have hl:=ht.later (L.val id)<|L.iG id;obtain⟨p1,p2⟩:=ZZ (R:=kD (bad B L) (jl L) L w) (R':=kD (bad B<|L.set id (L.own id) (L.val id)<|L.iG id) (jl<|L.set id (L.own id) (L.val id)<|L.iG id) (L.set id (L.own id) (L.val id)<|L.iG id)<|w.setRow b (vs.take off++[L.val q]++vs.drop (off+[L.val q].length)).toArray)
       h4 (us:=[L.val q]) (m:=[.own q]) rfl off h5 (λi p v hp hv=>by
        cases i with
        |zero=>
         simp at hp hv;subst hp hv;have:=RX (L:=L) (id:=id) q Xz;exact⟨this.1,this.2.1.symm⟩
        |succ i=>simp at hp) λp v k=>k.later hl RX
      refine⟨undef,_,_,.inr ⟨?_,rfl⟩,r.oR id (.pQ nl T1<|Ed l off [.own q]) _ k1 ht ⟨b,_,by rw[Lk.mU];exact h1,λx=>(Lk.px x).trans<|h2 x,setRow_heap w b _ _ T1 _ h3,p1,p2,?_⟩ ?_,.any _⟩
      .have hr:=By hT w nE b off T1 vs.toArray h3 (a.eval y) (by rw[nO,c1];rfl) (by rw[nO,eJ,h4];exact c2) (by rw[nO];exact λu hu=>by rw[fN.1 hu];exact d2);rw[nO]at hr;simp only[execOp,iC,k3,Instr.storeAt,Instr.sureAddr,Sem.run_bind,Sem.run_pure,Result.andThen_ok,hr]
      .intro v hv;simp only[du]at hv;rcases hv with(hv|hv)|hv
       .exact h6 v<|dM hv
       .rw [fN.1 hv];exact⟨d2,λ_=>d3⟩
       .exact h6 v<|dW hv
      .intro hn;exact r.hl hn id (.pQ nl T1 l) iV
     .cases h
    .cases h
   rename_i u' hM;cases h;unfold KR at hM;have h:=hM;clear hM;split at h
   .rename_i T1 x0 nl T0 n sz el iV ur;split at h
    .rename_i hc;cases h;rw[bD]at hc;obtain⟨hc,nN⟩:=hc;have e0:=ku.1 nN;subst e0;simp only[bD,di]at hc;have jD:id≠q:=λe=>by rw[e,cw]at hc;cases hc.1
     have c1:=ku.1 hc.2;obtain⟨b,vs,h1,h2,h3,h4,h5⟩:=r.hb id _ iV;obtain⟨k1,b',k2,k3⟩:=hx;rw[h1]at k2;cases k2;obtain⟨_,Bb⟩:=hy;obtain⟨v0,rfl⟩:∃ v0,vs=[v0]:=by
      have:=h4.len;rcases vs with _|⟨v0,_|⟨v1,vs⟩⟩
      .simp at this
      .exact ⟨v0,rfl⟩
      .simp at this
     obtain⟨f,g1,_⟩:=r.hb q _ ur;have kr:(L.val q).cells.toList=[L.val q]/\(L.val q).oneCell'=true:=by
      rcases g1 with⟨g,_⟩|⟨b1,o1,c1,cur,g,_⟩<;>rw[g]<;>exact⟨rfl,rfl⟩
     have ht:=pM.setRow (L:=L) ((h2 b).2 rfl) (λx hx=>(r.hw id x hx).2) #[L.val q];obtain⟨L',hr⟩:=r.oM iV ur jD h1 (setRow_heap w b _ _ T1 _ h3) ht;refine⟨undef,_,L',.inr ⟨?_,rfl⟩,hr,.any _⟩;have ki:=By hT w nE b 0 T1 #[v0] h3 (a.eval y) (by rw[Bb,kr.1,c1];rfl) (by rw[Bb,kr.1];exact a7 1) (by rw[Bb,kr.1];exact λu hu=>by rw[fN.1 hu];exact kr.2);rw[Bb,kr.1]at ki;simp only[execOp,iC,k3,Instr.storeAt,Instr.sureAddr,Sem.run_bind,Sem.run_pure,Result.andThen_ok,Bb,ki];rfl
    .cases h
   .cases h
  .
   rename_i id sz i j e ni A4;rw[ni]at hx;rw[A4]at hy;split at h
   .rename_i nl T1 n s el m iV hm;split at h
    .rename_i hc;cases h;simp only[bD]at hc;have c1:=ku.1 hc.1.1.1.1;have c2:=ku.1 hc.1.1.1.2;have c3:=cE hc.1.1.2;subst c2;have hi:i<n:=ho _ aH;obtain⟨f,h1,h2,h3⟩:=r.hb id _ iV;obtain⟨k1,b',of',n',c',k2,k3⟩:=hx;obtain⟨q1,q2⟩:=hy.cells hm;obtain⟨cur,hg,qm,zB⟩:=nb.store h1 k2 (j:=j) hi (a.eval y).cells.toList (by rw[q1.len];exact c3) q2 (λhn v hv=>by
      obtain⟨q,hq⟩:=dh.1 hv;have vd:q<m.length:=by rw[<-q1.len];exact(ca.1 hq).1
      have Ie:m.all E.lY=true:=by have:=hc.1.2;rw[hn]at this;simpa using this
      exact(q1.kq q _ v (bk vd) hq).lY<|bR.1 Ie _<|b9 vd)
     have lq:L.own id b':=(h2 b').2 (by rw[k2];rfl);have ht:=pM.setRow (L:=L) lq (λx hx=>(r.hw id x hx).2) (cur.toList.take (of'+(i*s+j))++(a.eval y).cells.toList++cur.toList.drop (of'+(i*s+j)+(a.eval y).cells.toList.length)).toArray;have hl:=ht.later (L.val id)<|L.iG id;refine⟨undef,_,_,.inr ⟨?_,rfl⟩,r.oR id _ _ k1 ht ⟨λi' j'=>if i'=i/\j<=j'/\j'<j+m.length then(a.eval y).cells.toList.getD (j'-j) undef else f i' j',?_,λx=>?_,?_⟩ ?_,.any _⟩
     .have hr:=By hT w nE b' (of'+(i*s+j)) T1 cur hg (a.eval y) (by rw[q1.len,c1]) qm q2;simp only[execOp,iC,k3,Instr.storeAt,Instr.sureAddr,Sem.run_bind,Sem.run_pure,Result.andThen_ok,hr]
     .rw [Lk.mU];rw[q1.len]at zB;rw[q1.len];exact zB
     .rw [Lk.mU];exact(Lk.px x).trans<|h2 x
     .intro i' j' lg qB;refine(λ(q:iI _ _ _ _ _/\_)=>⟨hl.kq q.1,q.2⟩) (?_:_/\_);dsimp only;by_cases kS:i'=i/\j<=j'/\j'<j+m.length
      .rw [aY kS,aY kS];have Cl:j'-j<m.length:= aC ;have zC:j'-j<(a.eval y).cells.toList.length:=by rw[q1.len];omega
       rw[bc,bk Cl,bc,bk zC];exact⟨q1.kq _ _ _ (bk Cl)<|bk zC,bR.1 hc.2 _<|b9 Cl⟩
      .rw [aX kS,aX kS];exact h3 i' j' lg qB
     .intro hn;have:=r.hl hn id _ iV;exact this
    .cases h
   .cases h
  .
   rename_i id i id' k ni A4;rw[ni]at hx;rw[A4]at hy;split at h
   .rename_i nl T1 T0 n sz len el k' iV;split at h
    .rename_i hc;cases h;simp only[bD]at hc;have c1:=ku.1 hc.1;have c2:=ku.1 hc.2;subst c1;have e1:i=k':=ho _ aH;have e2:k=k':=ho _ aH;have hk:k'<n:=ho _ aH;subst e1 e2;obtain⟨b,ofs,c,cur,f,⟨h1,h2,h3,h4,h5,h6,h7,h8,h9,nh,nW⟩,ki,ht,sR⟩:=Ph hT nE iC r ((r.hb id _ iV).vE aC) hx hy hk hk c2;have hl:=ht.later (L.val id)<|L.iG id;refine⟨undef,_,_,.inr ⟨ki,rfl⟩,r.oR id _ _ hx.1 ht (.inr<|WB h1 h2 h3 h4 h5 h7 h8 h9 nh nW hl sR hk λq hq _=>?_) (λhn=>by have:=r.hl hn id _ iV;exact this),.any _⟩;by_cases sB:q=k
     .subst sB;have:ofs+q<cur.size:= aC ;simp[this]
     .rw [gp λe=>sB aC];exact h6 q hq<|by simpa using λe=>sB e.symm
    .cases h
   .rename_i nl T1 T0 n sz len el iV;split at h
    .rename_i hc;cases h;simp only[bD]at hc;have c1:=ku.1 hc.1;have c2:=ku.1 hc.2;subst c1;have hi:i<n:=ho _ aH;have hk:k<n:=ho _ aH;obtain⟨b,ofs,c,cur,f,⟨h1,h2,h3,h4,h5,h6,h7,h8,h9,nh,nW⟩,ki,ht,sR⟩:=Ph hT nE iC r ((r.hb id _ iV).vE aC) hx hy hi hk c2;have hl:=ht.later (L.val id)<|L.iG id;have iE:ofs+i<cur.size:= aC ;refine⟨undef,_,_,.inr ⟨ki,rfl⟩,r.oR id _ _ hx.1 ht ⟨WB h1 h2 h3 h4 h5 h7 h8 h9 nh nW hl sR hk λq hq zz=>?_,hi,hk,λb' ofs' m q hv=>?_⟩ (λhn=>by have:=r.hl hn id _ iV;exact this),.any _⟩
     .rw [gp λe=>zz<|by rw[(aC:i=q)]];exact h6 q hq aH 
     .rw [Lk.mU,h1]at hv;cases hv;rw[Lk.nR];simp only[World.cell?,setRow_heap w b _ _ T1 _ h2];simp[iE]
    .cases h
   .rename_i nl T1 T0 n sz len el c r' iV;split at h
    .rename_i hc;cases h;simp only[bD]at hc;have c1:=ku.1 hc.1;have c2:=ku.1 hc.2;subst c1;have e1:i=r':=ho _ aH;have e2:k=c:=ho _ aH;subst e1 e2;obtain⟨uC,nN,xn,kr⟩:=r.hb id _ iV;obtain⟨b,ofs,c,cur,f,⟨h1,h2,h3,h4,h5,h6,h7,h8,h9,nh,nW⟩,ki,ht,sR⟩:=Ph hT nE iC r uC hx hy xn nN c2;have hl:=ht.later (L.val id) λq=>L.iG id<|qX k i q;have DN:∀ q,q<n->qX k i q<n:=λq hq=>by unfold qX;split;exact xn;split;exact nN;exact hq
     have PO:∀ q,qX k i (qX k i q)=q:=aoI k i;refine⟨undef,_,_,.inr ⟨ki,rfl⟩,r.sw id _ _ (λq=>L.iG id<|qX k i q) _ ht (.inr ⟨b,ofs,c,cur.setIfInBounds (ofs+i)<|L.iG id k,λq=>f<|qX k i q,by rw[Lk.mU];exact h1,setRow_heap w b _ _ T1 _ h2,h3,h4,by simpa using h5,?_,?_,?_,?_,?_,?_⟩) (λhn=>by have:=r.hl hn id _ iV;exact this),.any _⟩
     .intro q hq _;rw[Lk.nR];by_cases zz:q=i
      .subst zz;have iE:ofs+q<cur.size:= aC ;have e:qX k q q=k:=by unfold qX;split;(rename_i e;exact e);rw[aY rfl]
       rw[e];simp[iE]
      .rw [gp λe=>zz aC];by_cases sB:q=k
       .subst sB;have e:qX q i q=i:=by unfold qX;rw[aY rfl]
        rw[e];have:=kr b ofs _ _ h1;simp only[World.cell?,h2]at this;simpa using this
       .have e:qX k i q=q:=by unfold qX;rw[aX sB,aX zz]
        rw[e];exact h6 q hq<|by simpa using λe=>sB e.symm
     .intro v hv;rcases arB hv with hv|hv
      .exact h7 v hv
      .subst hv;exact(h8 k nN).1.Fm.2.2
     .intro q hq;obtain⟨p1,p2⟩:=h8 _<|DN q hq;rw[Lk.nR];exact⟨p1.block λx hx=>sR x λe=>nW _ (DN q hq)<|e▸hx,λi j hi hj=>⟨hl.kq (p2 i j hi hj).1,(p2 i j hi hj).2⟩⟩
     .intro x;rw[Lk.px];refine(h9 x).trans ?_;simp only[Lk.nR];constructor
      .rintro (h|⟨q,hq,h⟩)
       .exact .inl h
       .exact .inr ⟨qX k i q,DN q hq,by rw[PO];exact h⟩
      .rintro (h|⟨q,hq,h⟩)
       .exact .inl h
       .exact .inr ⟨qX k i q,DN q hq,h⟩
     .simp only[Lk.nR];intro q q' x hq uB hx rC;have:=nh _ _ x (DN q hq) (DN q' uB) hx rC;rw[<-PO q,this,PO]
     .simp only[Lk.nR];exact λq hq=>nW _<|DN q hq
    .cases h
   .cases h
  .
   rename_i id sz i j k e ni A4;rw[ni]at hx;rw[A4]at hy;split at h
   .rename_i nl T1 T0 n s len el pd m iV hm;split at h
    .rename_i hc;cases h;simp only[bD]at hc;have c1:=ku.1 hc.1.1.1.1;have c2:=ku.1 hc.1.1.1.2;have c3:=cE hc.1.1.2;subst c2;have xh:i<n:=ho _ aH;have Dz:j<len i:=ho _ aH;obtain⟨b,ofs,c,cur,f,h1,h2,h3,h4,h5,h6,h7,h8,h9,nh,nW⟩:=(r.hb id _ iV).vE aC;obtain⟨k1,b',of',n',c',k2,k3⟩:=hx;obtain⟨q1,q2⟩:=hy.cells hm;obtain⟨ai7,aiO⟩:=h8 i xh;obtain⟨cur',hg,qm,zB⟩:=nb.store ai7 k2 (j:=k) Dz (a.eval y).cells.toList (by rw[q1.len];exact c3) q2 (λhn v hv=>by
      obtain⟨q,hq⟩:=dh.1 hv;have vd:q<m.length:=by rw[<-q1.len];exact(ca.1 hq).1
      have Ie:m.all E.lY=true:=by have:=hc.1.2;rw[hn]at this;simpa using this
      exact(q1.kq q _ v (bk vd) hq).lY<|bR.1 Ie _<|b9 vd)
     have oZ:(L.iG id i).ownBlock=some b':=by rw[k2];rfl
     have lq:L.own id b':=(h9 b').2<|.inr ⟨i,xh,oZ⟩;have ht:=pM.setRow (L:=L) lq (λx hx=>(r.hw id x hx).2) (cur'.toList.take (of'+(j*s+k))++(a.eval y).cells.toList++cur'.toList.drop (of'+(j*s+k)+(a.eval y).cells.toList.length)).toArray;have hl:=ht.later (L.val id)<|L.iG id;have jD:b'≠b:=λe=>nW i xh<|e▸oZ
     refine⟨undef,_,_,.inr ⟨?_,rfl⟩,r.oR id _ _ k1 ht (.inr ⟨b,ofs,c,cur,λk' i' j'=>if k'=i/\i'=j/\k<=j'/\j'<k+m.length then(a.eval y).cells.toList.getD (j'-k) undef else f k' i' j',by rw[Lk.mU];exact h1,by rw[setRow_other w b' b _ jD.symm];exact h2,h3,h4,h5,by simp only[Lk.nR];exact h6,h7,?_,?_,by simp only[Lk.nR];exact nh,by simp only[Lk.nR];exact nW⟩) ?_,.any _⟩
     .have hr:=By hT w nE b' (of'+(j*s+k)) T0 cur' hg (a.eval y) (by rw[q1.len,c1]) qm q2;simp only[execOp,iC,k3,Instr.storeAt,Instr.sureAddr,Sem.run_bind,Sem.run_pure,Result.andThen_ok,hr]
     .intro q hq;rw[Lk.nR];by_cases zz:q=i
      .subst zz;refine⟨?_,λi' j' lg qB=>?_⟩
       .rw [q1.len]at zB ⊢;simpa only[true_and]using zB
       .refine (λ(q:iI _ _ _ _ _/\_)=>⟨hl.kq q.1,q.2⟩) (?_:_/\_);dsimp only;by_cases kS:i'=j/\k<=j'/\j'<k+m.length
        .rw [aY ⟨rfl,kS⟩,aY ⟨rfl,kS⟩];have Cl:j'-k<m.length:= aC ;have zC:j'-k<(a.eval y).cells.toList.length:=by rw[q1.len];omega
         rw[bc,bk Cl,bc,bk zC];exact⟨q1.kq _ _ _ (bk Cl)<|bk zC,bR.1 hc.2 _<|b9 Cl⟩
        .rw [aX λh=>kS h.2,aX λh=>kS h.2];exact aiO i' j' lg qB
      .obtain ⟨p1,p2⟩:=h8 q hq;refine⟨?_,λi' j' lg qB=>?_⟩
       .simp only[zz,false_and,bh];exact p1.block λx hx=>setRow_other w b' x _ λe=>zz<|nh q i x hq xh hx<|e▸oZ
       .simp only[zz,false_and,bh];exact⟨hl.kq (p2 i' j' lg qB).1,(p2 i' j' lg qB).2⟩
     .intro x;rw[Lk.px];simp only[Lk.nR];exact h9 x
     .intro hn;have:=r.hl hn id _ iV;exact this
    .cases h
   .cases h
  .cases h
 .cases h
def ahO(hT:mw P T){t:TypeId}(iC:o.op = .alloc t)(r:jd w0 B σ a w L)(h:jG P K T O σ o=some u):jV P K w0 B σ o a w u:=by
 simp only[jG,iC]at h;split at h
 .rename_i ti nE;split at h
  .rename_i z hz;obtain⟨id,hd,jI,rfl⟩:=LR h;obtain⟨zv,tJ,r7⟩:=Gw hz;obtain⟨q1,q2⟩:=r7 (bad B L) (jl L) w;obtain⟨L',r',hp⟩:=r.Zj id t z zv q1 q2 (by simpa[Bx.nl]using jI);refine⟨_,_,L',.inl ?_,r',hp⟩;simp only[execOp,iC,Instr.alloc,Sem.run_bind,Mz hT w nE tJ,Result.andThen_ok,newVar,newRow,run_newObj_alloc,Sem.run_pure]
  .cases h
 .cases h
def ahS{t:TypeId}{x:Operand}(iC:o.op = .box t x)(r:jd w0 B σ a w L)(h:jG P K T O σ o=some u):jV P K w0 B σ o a w u:=by
 simp only[jG,iC]at h;have hx:=r.op x;split at h
 .rename_i e hv;rw[hv]at hx;split at h
  .rename_i l hl;obtain⟨id,hd,jI,rfl⟩:=LR h;obtain⟨q1,q2⟩:=hx.cells hl;obtain⟨L',r',hp⟩:=r.Zj id t l (a.eval x) q1 q2 (by simpa[Bx.nl]using jI);refine⟨_,_,L',.inl ?_,r',hp⟩;simp only[execOp,iC,Instr.box,Sem.run_bind,Result.andThen_ok,newVar,newRow,run_newObj_alloc,Sem.run_pure]
  .cases h
 .cases h
end
def ahp(us:List Value):∀ (off k:Nat) (cs:Array Value),off+k+us.length<=cs.size ->
 (us.zipIdx k).foldl (λcs (c:Value×Nat)=>cs.setIfInBounds (off+c.2) c.1) cs=(cs.toList.take (off+k)++us++cs.toList.drop (off+k+us.length)).toArray:=by
 induction us with
 |nil=>intro off k cs h;simp
 |cons x us ih=>
  intro off k cs h;simp only[List.zipIdx_cons,fO];rw[ih off (k+1) _<|by simp at h ⊢;omega];apply cW;simp only[cI]at h;obtain⟨A,y,D,nO,hA⟩:∃ A y D,cs.toList=A++y::D/\A.length=off+k:=by
   have iE:off+k<cs.toList.length:= aN ;refine⟨cs.toList.take<|off+k,cs.toList[off+k],cs.toList.drop<|off+k+1,?_,by rw[cB];omega⟩;rw[<-fw iE,aq0]
  simp only[arA,cI,nO,<-hA];rw[List.set_append_right _ _<|a7 _,dA,List.set_cons_zero,
   show off+(k+1)+us.length=A.length+(us.length+1)by omega,(aC:off+(k+1)=A.length+1),
   List.take_length_add_append,arC,List.take_left,arC]
  simp
def Vz(place:Nat->Option (Nat×Nat))(cs:Array Value)(i:Nat)(v:Value)(rest:List<|Nat×Value)(off:Nat)(hp:place i=some (off,v.cells.toList.length))(qm:off+v.cells.toList.length<=cs.size):
 Instr.fill place cs ((i,v)::rest)=Instr.fill place (cs.toList.take off++v.cells.toList++cs.toList.drop (off+v.cells.toList.length)).toArray rest:=by
 have h1:¬(v.cells.size≠v.cells.toList.length\/off+v.cells.size>cs.size):=by simp at qm ⊢;omega
 have hf:=ahp v.cells.toList off 0 cs (by simpa using qm);simp only[bT]at hf;have h2:(v.cells.zipIdx.foldl (λcs (c,j)=>cs.setIfInBounds (off+j) c) cs)=(cs.toList.take off++v.cells.toList++cs.toList.drop (off+v.cells.toList.length)).toArray:=by
  rw[<-hf,<-Array.foldl_toList,Array.toList_zipIdx]
 rw[Instr.fill,hp];simp only;rw[aX<|by simpa using h1,h2]
section
variable {P:Program} {K:World->Prop} {T:List TI} {O:qw} {w0:mA} {B:Nat->Prop} {σ:PS} {o:Oper} {a:Act} {w:World} {L:Lk} {u:ko}
def OE(r:jd w0 B σ a w L){place:Nat->Option (Nat×Nat)}{ps:List<|Nat×Operand}{l m:List E}{cs:Array Value}(h:sQ σ place l ps=some m)
 (hr:kf (bad B L) (jl L) w l cs.toList) (h1:∀ u ∈ cs,u.oneCell'=true):
 ∃ cs',Instr.fill place cs (ps.map λx=>(x.1,a.eval x.2))=some cs'/\kf (bad B L) (jl L) w m cs'.toList/\(∀ u ∈ cs',u.oneCell'=true):=by
 induction ps generalizing l cs with
 |nil=>
  simp only[sQ]at h;cases h;exact⟨cs,rfl,hr,h1⟩
 |cons p ps ih=>
  obtain⟨i,x⟩:=p;simp only[sQ]at h;have hx:=r.op x;split at h
  .rename_i off size e hp hv;rw[hv]at hx;split at h
   .rename_i q hq;split at h
    .rename_i hc;simp only[bD]at hc;have c1:=ku.1 hc.1;have c2:=cE hc.2;obtain⟨q1,q2⟩:=hx.cells hq;have hlen:(a.eval x).cells.toList.length=size:=by rw[q1.len,c1]
     have Pe:=hr.len;rw[eI,Vz place cs i (a.eval x) _ off (by rw[hlen];exact hp)<|by rw[q1.len];simp at Pe;omega];refine ih h (Rf hr q1 off) λv hv=>?_
     simp only[gS,du]at hv;rcases hv with(hv|hv)|hv
     .exact h1 v<|by have:=dM hv;simpa using this
     .exact q2 v hv
     .exact h1 v<|by have:=dW hv;simpa using this
    .cases h
   .cases h
  .cases h
def Re(ps:Array<|Nat×Operand)(a:Act):(ps.map λ(x:Nat×Operand)=>(x.1,a.eval x.2)).toList=ps.toList.map λx=>(x.1,a.eval x.2):= aH 
def al6{P:Program}(hT:mw P T){fs:List Field}{pl:List<|Nat×Nat}(h:Jn T fs=some pl):fs.mapM (λf=>(P.info? f.type).map λi=>(f.offset,i.size))=some pl:=by
 induction fs generalizing pl with
 |nil=>simp only[Jn]at h;cases h;rfl
 |cons f fs ih=>
  simp only[Jn]at h;split at h
  .rename_i ti l h1 h2;cases h;simp[gU,hT.Bg h1,ih h2]
  .cases h
def ahT(hT:mw P T){t:TypeId}{ps:Array<|Nat×Operand}(iC:o.op = .build t ps)(r:jd w0 B σ a w L)(h:jG P K T O σ o=some u):jV P K w0 B σ o a w u:=by
 simp only[jG,iC]at h;have main:∀ (l:List E) (cs:Array Value),P.built t (ps.toList.map λx=>(x.1,a.eval x.2))=some cs->kf (bad B L) (jl L) w l cs.toList->u={ r:=.e<|.agg l }->jV P K w0 B σ o a w u:=by
  intro l cs hb hr hu;subst hu;have ki:=run_build (P:=P) w t (ps.map λ(x:Nat×Operand)=>(x.1,a.eval x.2)) cs (by rw[Re];exact hb);refine jV.pure r (v:=.agg cs) ?_ rfl (by have:=hr.agg;rwa[Array.toArray_toList]at this);simp only[execOp,iC,Sem.run_bind,ki,Result.andThen_ok,Sem.run_pure]
 split at h
 .rename_i ti nE;split at h
  .rename_i z hz;obtain⟨zv,tJ,r7⟩:=Gw hz;obtain⟨q1,q2⟩:=r7 (bad B L) (jl L) w;split at h
   .rename_i fs hd;split at h
    .rename_i pl DI;obtain⟨l,hl,rfl⟩:=bU.1 h;obtain⟨cs,p1,p2,_⟩:=OE r hl q1 (λu hu=>q2 u<|by simpa using hu);refine main l cs ?_ p2 rfl;unfold Program.built;rw[hT.Bg nE,hT.qK nE,hd];simp only[tJ,al6 hT DI];have:(λx:Nat=>pl.toArray[x]?)=λx=>pl[x]?:=by funext x;simp
     rw[this];exact p1
    .cases h
   .rename_i n e hd;split at h
    .rename_i te np;obtain⟨l,hl,rfl⟩:=bU.1 h;obtain⟨cs,p1,p2,_⟩:=OE r hl q1 (λu hu=>q2 u<|by simpa using hu);refine main l cs ?_ p2 rfl;unfold Program.built;rw[hT.Bg nE,hT.qK nE,hd];simp only[tJ,hT.Bg np];exact p1
    .cases h
   .cases h
  .cases h
 .cases h
def aak{α:Type}(n:Nat)(l:List α):(kq n l).length=n*l.length:=by
 induction n with
 |zero=>simp[kq]
 |succ n ih=>simp only[kq,cK,ih,bL,bN];omega
def amY{α:Type}(n:Nat)(l:List α)(q:Nat)(h:q<n*l.length):(kq n l)[q]? = l[q%l.length]?:=by
 induction n generalizing q with
 |zero=>simp at h
 |succ n ih=>
  simp only[kq];rw[bL,bN]at h;by_cases hq:q<l.length
  .rw [fH hq,cj hq]
  .rw [fI aC,ih _ aC];congr 1;exact(Nat.mod_eq_sub_mod aC).symm
def amZ{bs br:Nat->Prop}{z:List E}{zs:Array Value}(h:kf bs br w z zs.toList)(n:Nat):kf bs br w (kq n z) ((Array.range<|n*zs.size).map (zs[· % zs.size]!)).toList:=by
 have hl:=h.len;simp only[dH]at hl;refine⟨by simp[aak,hl],λi p x hp hx=>?_⟩;have hi:i<n*zs.size:=by
  have:=(ca.1 hx).1;simpa using this
 have hz:0<zs.size:=by
  rcases e9 zs.size with h0|h0
  .rw [h0]at hi;simp at hi
  .exact h0
 rw[amY _ _ _<|by rw[<-hl];exact hi,<-hl]at hp;have iE:=bJ i hz;simp[hi]at hx;subst hx;rw[fL zs _ iE];exact h.kq _ p _ hp<|by simp[iE]
def abf(hB:∀ b,B b->w0.uT b)(r:jd w0 B σ a w L)(e:TypeId)(n sz:Nat)(l:List E)(cs:Array Value)(nl:Bool)(hr:kf (bad B L) (jl L) w l cs.toList)(h1:∀ u ∈ cs,u.oneCell'=true)(hlen:cs.size=n*sz)
 (uy:n<=9223372036854775807) (jI:nl=true->l.all E.lY=true) (uA:l.all (E.nr 2)=true):
 jd w0 B σ a (w.alloc<|.cells cs e) L/\iI (bad B L) (jl L) (w.alloc<|.cells cs e) (.sl nl n sz λi j=>l.getD (i*sz+j)<|.v<|.bool false) (.slice (some ⟨w.heap.size,0,none⟩) n n):=by
 have hb:Below w.heap.size w<|w.alloc<|.cells cs e:=(Below.refl _ _).alloc (a7 _) _;have hl:qv L w L<|w.alloc<|.cells cs e:=⟨hb.size,λ_ _ h=>h,λx hx _=>hb.block x hx⟩
 refine⟨r.later hb,?_⟩;have kS:∀ i j,i<n->j<sz->i*sz+j<cs.size:=by
  intro i j hi hj;rw[hlen];have:=bG sz<|show i+1<=n from hi;rw[bL,bN]at this;omega
 have hll:=hr.len;simp only[dH]at hll;refine .sl nl n sz _ _ n (λi j=>cs.getD (i*sz+j) undef) (a7 _) uy (λh=>by cases h) (λi j hi hj=>?_) (λi j hi hj=>?_) (λi j hi hj=>?_) λi j hi hj=>?_
 .have hq:=kS i j hi hj;have e1:cs.getD (i*sz+j) undef=cs[i*sz+j]:=by simp[hq]
  rw[e1];refine⟨h1 _<|gQ hq,λrB=>?_⟩;have uB:i*sz+j<l.length:= aC ;exact(hr.kq (i*sz+j) _ _ (bk uB)<|by simp[hq]).lY<|bR.1 (jI rB) _<|b9 uB
 .have hq:=kS i j hi hj;have uB:i*sz+j<l.length:= aC ;rw[bc,bk uB];exact bR.1 uA _<|b9 uB
 .have hq:=kS i j hi hj;refine⟨w.heap.size,0,rfl,λsy=>?_,aH,?_⟩
  .rcases sy with hx|⟨id,hx⟩
   .have:=(hB _ hx).1;have:=r.he.size;omega
   .have:=(r.hw id _ hx).2;omega
  .rw [bZ,World.cell?_alloc_new];simp[hq]
 .have hq:=kS i j hi hj;have uB:i*sz+j<l.length:= aC ;have e1:cs.getD (i*sz+j) undef=cs[i*sz+j]:=by simp[hq]
  rw[e1,bc,bk uB];exact hl.kq<|hr.kq (i*sz+j) _ _ (bk uB)<|by simp[hq]
def aki{l:List E}{vs:List Value}{bs br:Nat->Prop}{w:World}(h:kf bs br w l vs)(hl:l.all E.lY=true):∀ v ∈ vs,pU v=false:=by
 intro v hv;obtain⟨i,hi⟩:=dh.1 hv;obtain⟨AU,_⟩:=ca.1 hi;have Dz:i<l.length:=by have:=h.len;omega
 exact(h.kq i _ v (bk Dz) hi).lY<|bR.1 hl _<|b9 Dz
def Uc(w:World)(hT:mw P T){t e:TypeId}{by_:Nat}(h:Kr T t=some (e,by_)):∃ te zv uz,P.underlying t=some (.slice e)/\lP T e=some te/\te.i.size=1/\te.i.bytes=by_/\1<=by_/\te.i.zero=some zv/\zv.cells = #[uz]/\uz.oneCell'=true/\pU uz=false:=by
 unfold Kr at h;split at h
 .rename_i tt qE;split at h
  .rename_i e' hd;split at h
   .rename_i te np;split at h
    .rename_i z hz;split at h
     .rename_i hc;simp only[bu,bK]at h;obtain⟨rfl,rfl⟩:=h;simp only[bD]at hc;obtain⟨zv,tJ,r7⟩:=Gw hz;obtain⟨q1,q2⟩:=r7 (λ_=>False) (λ_=>False) w;have hl:=q1.len;simp only[dH,cI,ff]at hl;obtain⟨uz,Xn⟩:∃ uz,zv.cells = #[uz]:=by
       refine⟨zv.cells[0],?_⟩;apply Array.ext
       .simpa using hl
       .intro i h1 h2;obtain rfl:i=0:=by simp at h2;omega
        rfl
      rw[Xn]at q1 q2;exact⟨te,zv,uz,by rw[hT.qK qE,hd],np,ku.1 hc.1.1,rfl,cE hc.1.2,tJ,Xn,q2 uz aH,(q1.kq 0 z uz rfl rfl).lY hc.2⟩
     .cases h
    .cases h
   .cases h
  .cases h
 .cases h
def nb.head{v:Value}{T:TypeId}{n sz:Nat}{f:Nat->Nat->Value}{nl:Bool}(h:nb w v T n sz f nl):v.cells.toList=[v]/\v.oneCell'=true/\pU v=false:=by
 rcases h with⟨g,_⟩|⟨b1,o1,c1,cur,g,_⟩<;>rw[g]<;>exact⟨rfl,rfl,rfl⟩
def aii(hT:mw P T){t:TypeId}{n q:Nat}{ps:Array<|Nat×Operand}(iC:o.op = .buildSlice t n ps)(tH:CG σ ps.toList=some q)(r:jd w0 B σ a w L)(h:Dh T σ o.dst t n q=some u):jV P K w0 B σ o a w u:=by
 obtain⟨x,ni,hx⟩:∃ x,ps.toList=[(0,x)]/\σ.op x = .own q:=by
  unfold CG at tH;split at tH
  .rename_i x ni;refine⟨x,ni,?_⟩;generalize σ.op x=p at tH ⊢;cases p<;>simp only[PV.F1,reduceCtorEq,bu]at tH;rw[tH]
  .cases tH
 have Xw:=r.op x;rw[hx]at Xw;obtain⟨k1,k2⟩:=Xw;unfold Dh at h;split at h
 .rename_i id Lf;split at h
  .rename_i nl T0 m sz el e by_ kj ur Ce;split at h
   .rename_i hc;cases h;simp only[bD,di]at hc;obtain rfl:=ku.1 hc.1;have jD:id≠q:=λe=>by have:=hc.2;rw[e,cw]at this;cases this
    obtain⟨te,zv,uz,hu,np,uF,_,_,tJ,Cr,_,_⟩:=Uc w hT Ce;obtain⟨f,g1,g2,g3⟩:=r.hb q _ ur;obtain⟨d1,d2,d3⟩:=g1.head;have ki:(execOp a.eval o).run P w = .ok (.value<|.slice (some ⟨w.heap.size,0,none⟩) 1 1) (w.alloc<|.cells #[L.val q] e):=by
     have nO:(Array.range<|1*te.i.size).map (zv.cells[· % zv.cells.size]!) = #[uz]:=by
      rw[uF,Cr];refine Array.ext aH λi h1 h2=>?_
      have:i=0:=by simp at h2;omega
      subst this;simp
     have Lg:Instr.fill (λi=>some (i*te.i.size,te.i.size)) #[uz] (ps.map λ(x:Nat×Operand)=>(x.1,a.eval x.2)).toList=some #[L.val q]:=by
      rw[Re,ni];simp only[eI,List.map_nil];rw[Vz _ _ _ _ _ 0 (by rw[k2,d1,uF];rfl)<|by rw[k2,d1];simp];rw[k2,d1];rfl
     have tz:¬(1*te.i.size>16777216):= aC ;have h0:¬(1*te.i.size=0):= aC ;simp only[execOp,iC,Instr.buildSlice,Sem.run_bind,run_underlying hu,Result.andThen_ok,tR hT w np,tz,bh,h0,Sem.run_pure,Mz hT w np tJ,nO,Lg,newRow,run_newObj_alloc]
    have iE:w.heap.size<(w.alloc<|.cells #[L.val q] e).heap.size:= aH ;have hb:Below w.heap.size w<|w.alloc<|.cells #[L.val q] e:=(Below.refl _ _).alloc (a7 _) _;refine⟨_,_,_,.inl ki,r.qF jD _ (λx=>x=w.heap.size\/L.own q x) (.slice (some ⟨w.heap.size,0,none⟩) 1 1) (λ_=>L.val q) _ (λy hy=>?_) hb.size (λy hy _=>hb.block y hy) rfl rfl rfl (λhl=>?_) (λPF=>?_) (λhn=>?_),Lk.Qh jD,Lk.IL.symm⟩
    .rcases hy with rfl|hy
     .exact ⟨.inr<|.inr<|a7 _,iE⟩
     .exact ⟨.inr<|.inl hy,fP (r.hw q y hy).2 iE⟩
    .refine .inr ⟨w.heap.size,0,1,#[L.val q],λ_=>f,Lk.IL,heap_alloc_new w _,a7 _,aE,aH,λk hk _=>?_,λv hv=>?_,λk hk=>?_,λy=>?_,λk k' y hk DA _ _=> aC,λk hk=>?_⟩
     .obtain rfl:k=0:= aC ;rw[Lk.zO];rfl
     .have:v=L.val q:=by simpa using hv
      rw[this];exact d3
     .rw [Lk.zO];exact⟨g1.block λy hy=>hb.block y (r.hw q y<|(g2 y).2 hy).2,λi j hi hj=>⟨hl.kq (g3 i j hi hj).1,(g3 i j hi hj).2⟩⟩
     .rw [Lk.Yc];constructor
      .rintro (h|h)
       .exact .inl h
       .exact .inr ⟨0,aE,by rw[Lk.zO];exact(g2 y).1 h⟩
      .rintro (h|⟨k,_,h⟩)
       .exact .inl h
       .rw [Lk.zO]at h;exact .inr<|(g2 y).2 h
     .rw [Lk.zO];intro h;have:=(r.hw q _<|(g2 _).2 h).2;omega
    .have:=(r.hv id).1 PF;rw[kj]at this;cases this
    .have:=r.hl hn q _ ur;exact this
   .cases h
  .cases h
 .cases h
def ahU(hT:mw P T)(hB:∀ b,B b->w0.uT b){t:TypeId}{n:Nat}{ps:Array<|Nat×Operand}(iC:o.op = .buildSlice t n ps)(r:jd w0 B σ a w L)(h:jG P K T O σ o=some u):jV P K w0 B σ o a w u:=by
 simp only[jG,iC]at h;split at h
 .rename_i q hq;exact aii hT iC hq r h
 split at h
 .rename_i tt qE;split at h
  .rename_i e hd;split at h
   .rename_i te np;split at h
    .rename_i z hz;split at h
     .rename_i hc;simp only[bD]at hc;have c1:=ku.1 hc.1.1;have c2:=cE hc.2;obtain⟨zv,tJ,r7⟩:=Gw hz;obtain⟨q1,q2⟩:=r7 (bad B L) (jl L) w;have hu:P.underlying t=some (.slice e):=by rw[hT.qK qE,hd]
      have DS:zv.cells.size=te.i.size:=by have:=q1.len;simp only[dH]at this;omega
      obtain⟨l,hl,h⟩:=gV.1 h;obtain⟨cs,p1,p2,p3⟩:=OE r hl (amZ q1 n) (λv hv=>by
       simp only[gw,gy]at hv;obtain⟨q,hq,rfl⟩:=hv;have FG:0<zv.cells.size:=by
        rcases e9 zv.cells.size with h0|h0
        .rw [h0]at hq;simp at hq
        .exact h0
       rw[fL zv.cells _<|bJ q FG];exact q2 _ aH)
      have hlen:l.length=n*te.i.size:=by
       have:∀ (ps:List<|Nat×Operand) (l m:List E),sQ σ (λi=>some (i*te.i.size,te.i.size)) l ps=some m->m.length=l.length:=by
        intro ps
        induction ps with
        |nil=>intro l m h;simp only[sQ]at h;cases h;rfl
        |cons p ps ih=>
         intro l m h;obtain⟨i,x⟩:=p;simp only[sQ]at h;split at h
         .split at h
          .split at h
           .rename_i hc;simp only[bD]at hc;have:=cE hc.2;rw[ih _ _ h];simp[Ae];omega
           .cases h
          .cases h
         .cases h
       rw[this _ _ _ hl,aak,c1]
      have nO:cs.size=n*te.i.size:=by have:=p2.len;simp only[dH]at this;omega
      have Lg:Instr.fill (λi=>some (i*te.i.size,te.i.size)) ((Array.range<|n*te.i.size).map (zv.cells[· % zv.cells.size]!)) (ps.map λ(x:Nat×Operand)=>(x.1,a.eval x.2)).toList=some cs:=by
       rw[Re,<-DS];rw[<-DS]at p1;exact p1
      have ki:(execOp a.eval o).run P w = .ok (.value<|.slice (some ⟨w.heap.size,0,none⟩) n n) (w.alloc<|.cells cs e):=by
       have tz:¬(n*te.i.size>16777216):= aC ;by_cases h0:n*te.i.size=0
       .have e0:∀ g:Nat->Value,(Array.range 0).map g = #[]:=λg=>by simp[Array.range]
        have WD:=Lg;rw[h0,e0]at WD;have z24:¬(0>2^24):= aE ;simp only[execOp,iC,Instr.buildSlice,Sem.run_bind,run_underlying hu,Result.andThen_ok,tR hT w np,tz,bh,h0,z24,bA,Sem.run_pure,e0,WD,newRow,run_newObj_alloc]
       .simp only[execOp,iC,Instr.buildSlice,Sem.run_bind,run_underlying hu,Result.andThen_ok,tR hT w np,tz,bh,h0,Sem.run_pure,Mz hT w np tJ,Lg,newRow,run_newObj_alloc]
      have lM:n<=9223372036854775807:=by
       have:=gv n<|cE hc.1.2;omega
      by_cases uA:l.all (E.nr 2)=true
      .simp only[uA,fF,bC,bh]at h;split at h
       .
        obtain⟨id,Lf,kj,jI,rfl⟩:=I0 h;have hb:Below w.heap.size w<|w.alloc<|.cells cs e:=(Below.refl _ _).alloc (a7 _) _;have ht:pM L w id (λx=>x=w.heap.size)<|w.alloc<|.cells cs e:=⟨λx hx=>⟨.inr aC,aN⟩,hb.size,λx hx _=>hb.block x hx,rfl,rfl,rfl⟩
        have iE:=ht.later (.slice (some ⟨w.heap.size,0,none⟩) n n) λ_=>undef;have Fx:∀ i j,i<n->j<te.i.size->i*te.i.size+j<n*te.i.size:=by
         intro i j hi hj;have:=bG te.i.size<|show i+1<=n from hi;rw[bL,bN]at this;omega
        refine⟨_,_,_,.inl ki,r.new id _ (λx=>x=w.heap.size) (.slice (some ⟨w.heap.size,0,none⟩) n n) (λ_=>undef) _ kj (λx hx=>by subst hx;simp) hb
         ⟨λi j=>cs.getD (i*te.i.size+j) undef,.inr ⟨w.heap.size,0,n,cs,Lk.mU,heap_alloc_new w _,a7 _,by unfold maxLen;omega,aC,λi j hi hj=>?_,λhn u hu=>?_⟩,λx=>?_,λi j hi hj=>?_⟩ jI,Lk.Ah,Lk.mU.symm⟩
        .have hq:i*te.i.size+j<cs.size:=by rw[nO];exact Fx i j hi hj
         have e1:cs.getD (i*te.i.size+j) undef=cs[i*te.i.size+j]:=by simp[hq]
         rw[bZ];show cs[i*te.i.size+j]? = some (cs.getD (i*te.i.size+j) undef)/\(cs.getD (i*te.i.size+j) undef).oneCell'=true;rw[e1];exact⟨by simp[hq],p3 _ aH⟩
        .exact aki p2 hn u<|by simpa using hu
        .rw [Lk.px,Lk.mU];simp only[Value.ownBlock,bu];exact eq_comm
        .have hq:i*te.i.size+j<cs.size:=by rw[nO];exact Fx i j hi hj
         have vd:i*te.i.size+j<l.length:=by rw[hlen];exact Fx i j hi hj
         have e1:cs.getD (i*te.i.size+j) undef=cs[i*te.i.size+j]:=by simp[hq]
         simp only[bc,bk vd,aq8,e1];exact⟨iE.kq<|p2.kq _ _ _ (bk vd)<|by simp[hq],bR.1 uA _<|b9 vd⟩
       split at h
       .rename_i uk;cases h;obtain⟨r',hp⟩:=abf hB r e n te.i.size l cs true p2 p3 nO lM (λ_=>uk) uA;exact⟨_,_,L,.inl ki,r',hp⟩
       .cases h;obtain⟨r',hp⟩:=abf hB r e n te.i.size l cs false p2 p3 nO lM (λh=>by cases h) uA;exact⟨_,_,L,.inl ki,r',hp⟩
      .simp [uA]at h
     .cases h
    .cases h
   .cases h
  .cases h
 .cases h
end
section
variable{P:Program}{t e:TypeId}
def Hf(h:P.underlying t=some (.slice e)):P.elem t=e:=by simp[Program.elem,h]
def agf{n:Nat}(h:P.underlying t=some (.array n e)):P.elem t=e/\P.arrayLen t=n:=by simp[Program.elem,Program.arrayLen,h]
end
section
variable {P:Program} {K:World->Prop} {T:List TI} {O:qw} {w0:mA} {B:Nat->Prop} {σ:PS} {o:Oper} {a:Act} {w:World} {L:Lk} {u:ko}
def ah0(hT:mw P T){t:TypeId}{x i:Operand}(iC:o.op = .indexAddr t x i)(r:jd w0 B σ a w L)(h:jG P K T O σ o=some u)(ho:∀ q,q ∈ u.jz->q):jV P K w0 B σ o a w u:=by
 simp only[jG,iC,KK]at h;have hx:=r.op x;have hi:=r.op i;split at h
 .rename_i k z hpi;rw[hpi]at hi;have hi:=iI.kG hi;split at h
  .rename_i tt qE;split at h
   .
    rename_i e hd;have hu:P.underlying t=some (.slice e):=by rw[hT.qK qE,hd]
    have he:=Hf hu;split at h
    .rename_i te np;have ki:∀ (ad:Addr) (n c:Nat),a.eval x = .slice (some ad) n c->0<=z->z<n->(execOp a.eval o).run P w = .ok (.value<|.pointer<|some<|ad.add<|z.toNat*te.i.size) w:=by
      intro ad n c e1 h0 h1;have hr:=run_indexAt_slice (P:=P) w t ad n c k z (by rw[he];exact hu);rw[aY ⟨h0,h1⟩,he,tR hT w np]at hr;simp only[execOp,iC,e1,hi,Sem.run_bind,hr,Result.andThen_ok,Sem.run_pure]
     split at h
     .rename_i nl n sz el ni;rw[ni]at hx;split at h
      .rename_i hs;simp only[bD]at hs;have vf:=cE hs.2;have hs:=ku.1 hs.1;cases h;have hz:0<=z/\z<n:=ho _ aH;have Bd:z.toNat<n:= aC ;generalize hq:a.eval x=q at hx;cases hx with
       |sl _ _ _ _ A c f hc hm h0 hl uA cell kk=>
        obtain⟨b,of,e1,hb,iE,_⟩:=cell z.toNat 0 Bd vf;subst e1;refine jV.pure r (ki ⟨b,of,none⟩ n c hq hz.1 hz.2) rfl ?_;rw[Addr.add_lit,hs];refine .ji sz _ b _ (λj=>f z.toNat j) (λhm=>hb<|.inr hm) iE (λj hj=>(hl _ _ Bd hj).1) (λj hj=>?_) λj hj=>kk _ _ Bd hj;obtain⟨b',of',e2,_,_,Hy⟩:=cell z.toNat j Bd hj;cases e2;rwa[<-cO]at Hy
      .cases h
     .rename_i fl nl n sz el ni;rw[ni]at hx;split at h
      .rename_i hs;simp only[bD]at hs;have vf:=cE hs.2;have hs:=ku.1 hs.1;cases h;have hz:0<=z/\z<n:=ho _ aH;have Bd:z.toNat<n:= aC ;generalize hq:a.eval x=q at hx;cases hx with
       |oW _ _ _ _ _ A c f hc hm h0 hl uA cell kk=>
        obtain⟨b,of,e1,hb,iE,_⟩:=cell z.toNat 0 Bd vf;subst e1;refine jV.pure r (ki ⟨b,of,none⟩ n c hq hz.1 hz.2) rfl ?_;rw[Addr.add_lit,hs];refine .ji sz _ b _ (λj=>f z.toNat j) hb iE (λj hj=>(hl _ _ Bd hj).1) (λj hj=>?_) λj hj=>kk _ _ Bd hj;obtain⟨b',of',e2,_,_,Hy⟩:=cell z.toNat j Bd hj;cases e2;rwa[<-cO]at Hy
      .cases h
     .rename_i id ni;rw[ni]at hx;split at h
      .rename_i nl T1 n sz el iV;split at h
       .rename_i hs;have hs:=ku.1 hs;cases h;have hz:0<=z/\z<n:=ho _ aH;obtain⟨f,h1,h2,h3⟩:=r.hb id _ iV;obtain⟨k1,k2⟩:=hx;rcases h1 with⟨h1,rB⟩|⟨b,ofs,c,cur,h1,hg,qC,pF,nO,kr,jI⟩
        .omega
        .rw [h1]at k2;refine jV.pure r (ki ⟨b,ofs,none⟩ n c k2 hz.1 hz.2) rfl ⟨k1,b,ofs,n,c,h1,?_⟩;rw[Addr.add_lit,hs,bT]
       .cases h
      .rename_i nl T1 T0 n sz len el pend iV;split at h
       .rename_i hs;have hs:=ku.1 hs;cases h;have hz:0<=z/\z<n:=ho _ aH;obtain⟨b,ofs,c,cur,f,h1,h2,h3,h4,h5,h6,h7,h8,h9,nh,nW⟩:=(r.hb id _ iV).vE aC;obtain⟨k1,k2⟩:=hx;rw[h1]at k2;refine jV.pure r (ki ⟨b,ofs,none⟩ n c k2 hz.1 hz.2) rfl ⟨k1,b,ofs,n,c,h1,?_⟩;rw[Addr.add_lit,hs,bT]
       .cases h
      .rename_i nl T1 T0 n sz len el c r' iV;split at h
       .rename_i hs;have hs:=ku.1 hs;cases h;have hz:0<=z/\z<n:=ho _ aH;obtain⟨⟨b,ofs,c,cur,f,h1,h2,h3,h4,h5,h6,h7,h8,h9,nh,nW⟩,_⟩:=r.hb id _ iV;obtain⟨k1,k2⟩:=hx;rw[h1]at k2;refine jV.pure r (ki ⟨b,ofs,none⟩ n c k2 hz.1 hz.2) rfl ⟨k1,b,ofs,n,c,h1,?_⟩;rw[Addr.add_lit,hs,bT]
       .cases h
      .cases h
     .rename_i id k ni;rw[ni]at hx;split at h
      .rename_i nl T1 T0 n sz len el pend iV;split at h
       .rename_i hs;have hs:=ku.1 hs;cases h;have hk:k<n:=ho _ aH;have hz:0<=z/\z<len k:=ho _ aH;obtain⟨b0,ofs0,c0,cur0,f,g1,g2,g3,g4,g5,g6,g7,g8,_⟩:=(r.hb id _ iV).vE aC;obtain⟨k1,k2⟩:=hx;rcases(g8 k hk).1 with⟨h1,rB⟩|⟨b,ofs,c,cur,h1,hg,qC,pF,nO,kr,jI⟩
        .omega
        .rw [h1]at k2;refine jV.pure r (ki ⟨b,ofs,none⟩ (len k) c k2 hz.1 hz.2) rfl ⟨k1,b,ofs,len k,c,h1,?_⟩;rw[Addr.add_lit,hs,bT]
       .cases h
      .cases h
     .cases h
    .cases h
   .
    rename_i n e hd;have hu:P.underlying t=some (.array n e):=by rw[hT.qK qE,hd]
    obtain⟨he,hn⟩:=agf hu;split at h
    .rename_i te np;have ki:∀ (ad:Addr),a.eval x = .pointer (some ad)->0<=z->z<n->(execOp a.eval o).run P w = .ok (.value<|.pointer<|some<|ad.add<|z.toNat*te.i.size) w:=by
      intro ad e1 h0 h1;have hr:=run_indexAt_array (P:=P) w t ad k z (by rw[he,hn];exact hu);rw[hn,aY ⟨h0,h1⟩,he,tR hT w np]at hr;simp only[execOp,iC,e1,hi,Sem.run_bind,hr,Result.andThen_ok,Sem.run_pure]
     split at h
     .rename_i id off ni;rw[ni]at hx;cases h;have hz:0<=z/\z<n:=ho _ aH;obtain⟨k1,b,k2,k3⟩:=hx;refine jV.pure r (ki _ k3 hz.1 hz.2) rfl ⟨k1,b,k2,?_⟩;rw[Addr.add_lit]
     .rename_i m el ni;rw[ni]at hx;split at h
      .rename_i hs;have hs:=ku.1 hs;cases h;have hz:0<=z/\z<n:=ho _ aH;have kS:∀ j,j<te.i.size->z.toNat*te.i.size+j<m:=by
        intro j hj;rw[<-hs];have:=bG te.i.size (aC:z.toNat+1<=n);rw[bL,bN]at this;omega
       generalize hq:a.eval x=q at hx;cases hx with
       |ji _ _ b of f hb iE hl cell kk=>
        refine jV.pure r (ki _ hq hz.1 hz.2) rfl ?_;rw[Addr.add_lit];refine .ji te.i.size _ b _ (λj=>f<|z.toNat*te.i.size+j) hb iE (λj hj=>hl _<|kS j hj) (λj hj=>?_) λj hj=>kk _<|kS j hj;have:=cell _<|kS j hj;rwa[<-cO]at this
      .cases h
     .cases h
    .cases h
   .cases h
  .cases h
 .cases h
section
variable(hT:mw P T){t:TypeId}{x:Operand}{lo hi:Option Operand}(iC:o.op = .slice t x lo hi none)
def aie{id:Nat}(ni:σ.op x = .own id)(r:jd w0 B σ a w L)
 (h:Dg T σ t id (lo.map σ.op) (hi.map σ.op)=some u) (ho:∀ q,q ∈ u.jz->q):jV P K w0 B σ o a w u:=by
 unfold Dg at h;have hx:=r.op x;rw[ni]at hx;split at h
 .rename_i tt qE;split at h
  .rename_i e hd;have hu:P.underlying t=some (.slice e):=by rw[hT.qK qE,hd]
   have he:=Hf hu;have vh:P.underlying t=some (.slice<|P.elem t):=by rw[he];exact hu
   split at h
   .rename_i te np;split at h
    .rename_i nl T1 n sz el iV;split at h
     .rename_i kl ll oD rz;split at h
      .rename_i hs;have hs:=ku.1 hs;cases h;have hb:0<=ll/\ll<=n:=ho _ aH;obtain⟨k1,k2⟩:=hx;cases hi with
       |some _=>simp at rz
       |none=>
        cases lo with
        |none=>simp at oD
        |some lo=>
         simp only[cg,bu]at oD;have hv:=r.op lo;rw[oD]at hv;have hv:=iI.kG hv;obtain⟨f,h1,h2,h3⟩:=r.hb id _ iV;have aqy:ll.toNat<=n:= aC ;have run:∀ (A:Option Addr) (c:Nat),a.eval x = .slice A n c->(execOp a.eval o).run P w = .ok (.value<|sliced A ll.toNat n c te.i.size) w:=by
          intro A c e1;have hr:=run_slice_l (P:=P) w t A n c vh kl ll hb.1 hb.2;rw[he,tR hT w np]at hr;simp only[execOp,iC,Sem.run_bind,e1,cg,gW,hv,run_sliceAt_slice (P:=P) w t _ _ _ _ vh,hr,Result.andThen_ok,Sem.run_pure]
         have PK:∀ b,L.val id ≠ .pointer (some b):=λb e1=>by
          rcases h1 with⟨e2,_⟩|⟨_,_,_,_,e2,_⟩<;>rw[e1]at e2<;>cases e2
         have fin:∀ (v:Value),v.ownBlock=(L.val id).ownBlock->nb w v T1 (n-ll.toNat) sz (λi j=>f (ll.toNat+i) j) nl->(execOp a.eval o).run P w = .ok (.value v) w ->
          jV P K w0 B σ o a w { r:=.own id,f:=.oX id<|.row nl T1 (n-ll.toNat) sz λi j=>el (ll.toNat+i) j,rb:=[id],jz:=[0<=ll/\ll<=n] }:=by
          intro v Cp tE ki;have ht:pM L w id (λy=>v.ownBlock=some y) w:=⟨λy hy=>by
           have:=(h2 y).2 (by rw[<-Cp];exact hy);exact⟨.inl this,(r.hw id y this).2⟩,a7 _,λ_ _ _=>rfl,rfl,rfl,rfl⟩
          have hl:=ht.later v<|L.iG id;refine⟨v,w,_,.inl ki,r.oX id _ _ v w PK ht ⟨λi j=>f (ll.toNat+i) j,by rw[Lk.mU];exact tE,λy=>by rw[Lk.px,Lk.mU],λi j hi hj=>⟨hl.kq (h3 _ j aC hj).1,(h3 _ j aC hj).2⟩⟩ (λhn=>by have:=r.hl hn id _ iV;exact this),Lk.Ah,Lk.mU.symm⟩
         rcases h1 with⟨h1,rB⟩|⟨b,ofs,c,cur,h1,hg,qC,pF,nO,kr,jI⟩
         .have oD:ll.toNat=0:= aC ;refine fin (.slice none 0 0) (by rw[h1]) (.inl ⟨rfl,aC⟩) ?_;have:=run none 0 (by rw[k2,h1,rB]);rw[this];unfold sliced;simp[oD,rB]
         .have ki:=run _ c (by rw[k2,h1]);refine fin _ ?_ ?_ ki
          .rw [h1];unfold sliced;split
           .rfl
           .rw [cg,Addr.add_lit];rfl
          .unfold sliced;by_cases WT:c=ll.toNat
           .rw [aY WT];exact .inr ⟨b,ofs,c-ll.toNat,cur,rfl,hg,aC,aC,by rw[(aC:c-ll.toNat=0),cH];omega,λi j hi=> aC,jI⟩
           .rw [aX WT,cg,Addr.add_lit,hs];have Pe:ll.toNat*sz+(c-ll.toNat)*sz=c*sz:=by rw[<-bL];congr 1;omega
            refine .inr ⟨b,ofs+ll.toNat*sz,c-ll.toNat,cur,rfl,hg,aC,aC,aC,λi j hi hj=>?_,jI⟩;have:=kr (ll.toNat+i) j aC hj;rw[bL]at this;rwa[(aC:ofs+ll.toNat*sz+(i*sz+j)=ofs+(ll.toNat*sz+i*sz+j))]
      .cases h
     .cases h
    .cases h
   .cases h
  .cases h
 .cases h
def aid(r:jd w0 B σ a w L)(h:jG P K T O σ o=some u)(ho:∀ q,q ∈ u.jz->q):jV P K w0 B σ o a w u:=by
 simp only[jG,iC]at h;have hx:=r.op x;split at h
 .rename_i id ni;exact aie hT iC ni r h ho
 unfold KO at h;split at h
 .rename_i nl n sz el ni;rw[ni]at hx;split at h
  .rename_i tt qE;split at h
   .rename_i e hd;have hu:P.underlying t=some (.slice e):=by rw[hT.qK qE,hd]
    have he:=Hf hu;have vh:P.underlying t=some (.slice<|P.elem t):=by rw[he];exact hu
    split at h
    .rename_i te np;split at h
     .rename_i hs;have hs:=ku.1 hs;generalize hq:a.eval x=q at hx;cases hx with
      |sl _ _ _ _ A c f hc hm h0 hl uA cell kk=>
       have fin:∀ l h':Nat,l<=h'->h'<=n->iI (bad B L) (jl L) w (.sl nl (h'-l) sz λi j=>el (l+i) j) (sliced A l h' c te.i.size):=by
        intro l h' hlh hhn;unfold sliced;refine .sl nl (h'-l) sz _ _ (c-l) (λi j=>f (l+i) j) aC aC (λhA=>?_) (λi j hi hj=>hl _ _ aC hj) (λi j hi hj=>uA _ _ aC hj) (λi j hi hj=>?_) λi j hi hj=>kk _ _ aC hj
        .split at hA
         .have:=h0 hA;omega
         .have:=h0 (by simpa using hA);omega
        .obtain ⟨b,of,e1,hb,iE,kr⟩:=cell (l+i) j aC hj;subst e1;rw[aX aC];refine⟨b,of+l*te.i.size,by rw[cg,Addr.add_lit],hb,iE,?_⟩;rw[hs];rw[bL]at kr;rw[<-kr];congr 2;omega
       have run:∀ (l h':Nat) (lo' lg:Option Value),lo.map a.eval=lo'->hi.map a.eval=lg->(Instr.slice t (.slice A n c) lo' lg none).run P w = .ok (sliced A l h' c te.i.size) w ->
        (execOp a.eval o).run P w = .ok (.value<|sliced A l h' c te.i.size) w:=by
        intro l h' lo' lg e1 e2 hr;simp only[execOp,iC,Sem.run_bind,hq,e1,e2,gW,run_sliceAt_slice (P:=P) w t _ _ _ _ vh,hr,Result.andThen_ok,Sem.run_pure]
       split at h
       .rename_i kh hh oD rz;cases h;have hb:0<=hh/\hh<=n:=ho _ aH;cases lo with
        |some _=>simp at oD
        |none=>
         cases hi with
         |none=>simp at rz
         |some hi=>
          simp only[cg,bu]at rz;have hv:=r.op hi;rw[rz]at hv;have hv:=iI.kG hv;have hr:=run_slice_h (P:=P) w t A n c vh kh hh hb.1 aC;rw[he,tR hT w np]at hr;have hf:=fin 0 hh.toNat (b7 _) aC ;simp only[dQ,bZ]at hf;exact jV.pure r (run 0 hh.toNat none (some<|.int kh hh) rfl (by rw[cg,hv]) hr) rfl hf
       .rename_i kl ll oD rz;cases h;have hb:0<=ll/\ll<=n:=ho _ aH;cases hi with
        |some _=>simp at rz
        |none=>
         cases lo with
         |none=>simp at oD
         |some lo=>
          simp only[cg,bu]at oD;have hv:=r.op lo;rw[oD]at hv;have hv:=iI.kG hv;have hr:=run_slice_l (P:=P) w t A n c vh kl ll hb.1 hb.2;rw[he,tR hT w np]at hr;exact jV.pure r (run ll.toNat n (some<|.int kl ll) none (by rw[cg,hv]) rfl hr) rfl (fin ll.toNat n aC<|a7 _)
       .rename_i kl ll kh hh oD rz;cases h;have hb:0<=ll/\ll<=hh/\hh<=n:=ho _ aH;cases hi with
        |none=>simp at rz
        |some hi=>
         cases lo with
         |none=>simp at oD
         |some lo=>
          simp only[cg,bu]at oD rz;have hv:=r.op lo;rw[oD]at hv;have hv:=iI.kG hv;have sU:=r.op hi;rw[rz]at sU;have sU:=iI.kG sU;have hr:=run_slice_lh (P:=P) w t A n c vh kl kh ll hh hb.1 hb.2.1 aC;rw[he,tR hT w np]at hr;exact jV.pure r (run ll.toNat hh.toNat (some<|.int kl ll) (some<|.int kh hh) (by rw[cg,hv]) (by rw[cg,sU]) hr) rfl (fin ll.toNat hh.toNat aC aC)
       .cases h
     .cases h
    .cases h
   .cases h
  .cases h
 .rename_i fl nl n sz el ni;rw[ni]at hx;split at h
  .rename_i tt qE;split at h
   .rename_i e hd;have hu:P.underlying t=some (.slice e):=by rw[hT.qK qE,hd]
    have he:=Hf hu;have vh:P.underlying t=some (.slice<|P.elem t):=by rw[he];exact hu
    split at h
    .rename_i te np;split at h
     .rename_i hs;have hs:=ku.1 hs;generalize hq:a.eval x=q at hx;cases hx with
      |oW _ _ _ _ _ A c f hc hm h0 hl uA cell kk=>
       have fin:∀ l h':Nat,l<=h'->h'<=n->iI (bad B L) (jl L) w (.oW fl nl (h'-l) sz λi j=>el (l+i) j) (sliced A l h' c te.i.size):=by
        intro l h' hlh hhn;unfold sliced;refine .oW fl nl (h'-l) sz _ _ (c-l) (λi j=>f (l+i) j) aC aC (λhA=>?_) (λi j hi hj=>hl _ _ aC hj) (λhf i j hi hj=>uA hf _ _ aC hj) (λi j hi hj=>?_) λi j hi hj=>kk _ _ aC hj
        .split at hA
         .have:=h0 hA;omega
         .have:=h0 (by simpa using hA);omega
        .obtain ⟨b,of,e1,hb,iE,kr⟩:=cell (l+i) j aC hj;subst e1;rw[aX aC];refine⟨b,of+l*te.i.size,by rw[cg,Addr.add_lit],hb,iE,?_⟩;rw[hs];rw[bL]at kr;rw[<-kr];congr 2;omega
       have run:∀ (l h':Nat) (lo' lg:Option Value),lo.map a.eval=lo'->hi.map a.eval=lg->(Instr.slice t (.slice A n c) lo' lg none).run P w = .ok (sliced A l h' c te.i.size) w ->
        (execOp a.eval o).run P w = .ok (.value<|sliced A l h' c te.i.size) w:=by
        intro l h' lo' lg e1 e2 hr;simp only[execOp,iC,Sem.run_bind,hq,e1,e2,gW,run_sliceAt_slice (P:=P) w t _ _ _ _ vh,hr,Result.andThen_ok,Sem.run_pure]
       split at h
       .rename_i kh hh oD rz;cases h;have hb:0<=hh/\hh<=n:=ho _ aH;cases lo with
        |some _=>simp at oD
        |none=>
         cases hi with
         |none=>simp at rz
         |some hi=>
          simp only[cg,bu]at rz;have hv:=r.op hi;rw[rz]at hv;have hv:=iI.kG hv;have hr:=run_slice_h (P:=P) w t A n c vh kh hh hb.1 aC;rw[he,tR hT w np]at hr;have hf:=fin 0 hh.toNat (b7 _) aC ;simp only[dQ,bZ]at hf;exact jV.pure r (run 0 hh.toNat none (some<|.int kh hh) rfl (by rw[cg,hv]) hr) rfl hf
       .rename_i kl ll oD rz;cases h;have hb:0<=ll/\ll<=n:=ho _ aH;cases hi with
        |some _=>simp at rz
        |none=>
         cases lo with
         |none=>simp at oD
         |some lo=>
          simp only[cg,bu]at oD;have hv:=r.op lo;rw[oD]at hv;have hv:=iI.kG hv;have hr:=run_slice_l (P:=P) w t A n c vh kl ll hb.1 hb.2;rw[he,tR hT w np]at hr;exact jV.pure r (run ll.toNat n (some<|.int kl ll) none (by rw[cg,hv]) rfl hr) rfl (fin ll.toNat n aC<|a7 _)
       .rename_i kl ll kh hh oD rz;cases h;have hb:0<=ll/\ll<=hh/\hh<=n:=ho _ aH;cases hi with
        |none=>simp at rz
        |some hi=>
         cases lo with
         |none=>simp at oD
         |some lo=>
          simp only[cg,bu]at oD rz;have hv:=r.op lo;rw[oD]at hv;have hv:=iI.kG hv;have sU:=r.op hi;rw[rz]at sU;have sU:=iI.kG sU;have hr:=run_slice_lh (P:=P) w t A n c vh kl kh ll hh hb.1 hb.2.1 aC;rw[he,tR hT w np]at hr;exact jV.pure r (run ll.toNat hh.toNat (some<|.int kl ll) (some<|.int kh hh) (by rw[cg,hv]) (by rw[cg,sU]) hr) rfl (fin ll.toNat hh.toNat aC aC)
       .cases h
     .cases h
    .cases h
   .cases h
  .cases h
 .cases h
end
end
section
variable {P:Program} {K:World->Prop} {T:List TI} {O:qw} {w0:mA} {B:Nat->Prop} {σ:PS} {o:Oper} {a:Act} {w:World} {L:Lk} {u:ko}
def aeW{x:Value}{l:List E}(h:(E.v x).cells? = some l):∀ e,e ∈ l->e.nr 2=true:=by
 intro e he;cases x<;>simp only[E.cells?]at h
 case agg cs=>
  split at h
  .cases h;obtain⟨q,_,rfl⟩:=cC.1 he;rfl
  .cases h
 all_goals
  split at h
  .cases h;simp only[fN]at he;subst he;rfl
  .cases h
def aqq{ti:TI}{l:List E}(h:An ti=some l):∀ e,e ∈ l->e.nr 2=true:=by
 unfold An at h;split at h
 .exact aeW h
 .cases h
def IS{l:List E}{vs:List Value}{bs br:Nat->Prop}(h:kf bs br w l vs)(hl:l.all E.lY=true):∀ v ∈ vs,pU v=false:=by
 intro v hv;obtain⟨q,hq⟩:=dh.1 hv;have vd:q<l.length:=by rw[<-h.len];exact(ca.1 hq).1
 exact(h.kq q _ v (bk vd) hq).lY<|bR.1 hl _<|b9 vd
def Ys{z:Array Value}{n q:Nat}(hz:0<z.size)(hq:q<n):(madeCells z n)[q]? = some (z[q%z.size]'(bJ _ hz)):=by
 unfold madeCells;simp[hq];rw[fL z _<|bJ _ hz]
def Yt{z:Array Value}{n:Nat}(hz:0<z.size){v:Value}(hv:v ∈ madeCells z n):v ∈ z:=by
 unfold madeCells at hv;simp only[gw,gy]at hv;obtain⟨q,hq,rfl⟩:=hv;rw[fL z _<|bJ _ hz];exact gQ _
def ah6(hT:mw P T){t:TypeId}{l c:Operand}(iC:o.op = .makeSlice t l c)(r:jd w0 B σ a w L)(h:jG P K T O σ o=some u)(ho:∀ q,q ∈ u.jz->q):jV P K w0 B σ o a w u:=by
 simp only[jG,iC,KN]at h;have hl:=r.op l;have hc:=r.op c;split at h
 .rename_i bx jz ju;obtain⟨id,Lf,kj,jI,rfl⟩:=I0 h;clear h;simp only[Vj]at ju;split at ju
  rotate_left
  .cases ju
  rename_i kl zl kc zc DI hpc;rw[DI]at hl;rw[hpc]at hc;have hl:=iI.kG hl;have hc:=iI.kG hc;split at ju
  .rename_i tt qE;split at ju
   .rename_i e hd;have hu:P.underlying t=some (.slice e):=by rw[hT.qK qE,hd]
    split at ju
    .rename_i te np;split at ju
     .rename_i z hz;split at ju
      .rename_i AR;simp only[bD]at AR;have c1:=ku.1 AR.1;have c2:=cE AR.2;obtain⟨zv,tJ,r7⟩:=Gw hz;obtain⟨q1,q2⟩:=r7 (bad B L) (jl L) w;have DS:zv.cells.size=te.i.size:=by have:=q1.len;simp only[dH]at this;omega
       have FG:0<zv.cells.size:= aC ;have key:∀ (h1:0<=zl/\zl<=zc) (h2:(te.i.bytes:Int)*zc<=281474976710656/\zc<=9223372036854775807),
        (execOp a.eval o).run P w = .ok (.value<|.slice (some ⟨w.heap.size,0,none⟩) zl.toNat zc.toNat) (w.alloc<|.cells (madeCells zv.cells<|zc.toNat*te.i.size) e):=by
        intro h1 h2;have hr:=run_make (P:=P) w t e te.i zv hu (hT.Bg np) tJ kl kc zl zc h1.1 h1.2 h2.1 h2.2;simp only[execOp,iC,hl,hc,Sem.run_bind,hr,Result.andThen_ok,Sem.run_pure]
       have hb:∀ o':Obj,Below w.heap.size w (w.alloc o'):=λo'=>(Below.refl _ _).alloc (a7 _) _
       have lens:zl<=zc->zc<=9223372036854775807->zl.toNat<=zc.toNat/\zc.toNat<=maxLen:=by intro h1 h2;unfold maxLen;omega
       split at ju
       .
        rename_i e0 hd0;split at ju
        .rename_i t0 PQ;obtain⟨y,ys,DR,hy,DF⟩:=q1.mY;have hy:=iI.kG hy;have DF:=DF.re;subst hy DF;have XB:zv.cells = #[.slice none 0 0]:=by apply cW;rw[DR]
         have mP:te.i.size=1:=by rw[<-DS,XB];rfl
         cases ju;have h1:0<=zl/\zl<=zc:=ho _ aH;have h2:(te.i.bytes:Int)*zc<=281474976710656/\zc<=9223372036854775807:=ho _ aH;have hlen:=lens h1.2 h2.2;have uk:∀ v,v ∈ madeCells zv.cells (zc.toNat*te.i.size)->v = .slice none 0 0:=λv hv=>by
          have:=Yt FG hv;rw[XB]at this;simpa using this
         refine⟨_,_,_,.inl<|key h1 h2,r.new id _ (λx=>x=w.heap.size) (.slice (some ⟨w.heap.size,0,none⟩) zl.toNat zc.toNat) (λ_=>.slice none 0 0) _ kj (λx hx=>by subst hx;simp) (hb _)
          (.inr ⟨w.heap.size,0,zc.toNat,_,λ_ _ _=>undef,Lk.mU,heap_alloc_new w _,hlen.1,hlen.2,by rw[size_madeCells,mP,b6,bZ];exact a7 _,λk hk _=>?_,λv hv=>?_,λk hk=>?_,λx=>?_,λk k' x hk DA h1=>?_,λk hk=>?_⟩) jI,Lk.Ah,Lk.mU.symm⟩
         .rw [Lk.nR];have hq:k<zc.toNat*te.i.size:=by rw[mP];omega
          have hg:=Ys FG hq;rw[bZ,hg];exact congrArg some<|uk _<|ej hg
         .rw [uk v hv];rfl
         .rw [Lk.nR];exact⟨.inl ⟨rfl,rfl⟩,λi j hi=>absurd hi<|bt i⟩
         .rw [Lk.px];simp only[Lk.nR,Value.ownBlock];simp
         .rw [Lk.nR]at h1;simp[Value.ownBlock]at h1
         .rw [Lk.nR];simp[Value.ownBlock]
        .cases ju
       .cases ju;have h1:0<=zl/\zl<=zc:=ho _ aH;have h2:(te.i.bytes:Int)*zc<=281474976710656/\zc<=9223372036854775807:=ho _ aH;have hlen:=lens h1.2 h2.2;refine⟨_,_,_,.inl<|key h1 h2,r.new id _ (λx=>x=w.heap.size) (.slice (some ⟨w.heap.size,0,none⟩) zl.toNat zc.toNat) (λ_=>undef) _ kj (λx hx=>by subst hx;simp) (hb _)
         ⟨λ_ j=>zv.cells.getD j undef,.inr ⟨w.heap.size,0,zc.toNat,_,Lk.mU,heap_alloc_new w _,hlen.1,hlen.2,by rw[size_madeCells,bZ];exact a7 _,λi j hi hj=>?_,λhn v hv=>?_⟩,λx=>?_,λi j hi hj=>?_⟩ jI,Lk.Ah,Lk.mU.symm⟩
        .have hq:i*te.i.size+j<zc.toNat*te.i.size:=by
          have:=bG te.i.size (aC:i+1<=zc.toNat);rw[bL,bN]at this;omega
         have PH:(i*te.i.size+j)%zv.cells.size=j:=by rw[DS,bI,gq,cj hj]
         have qB:j<zv.cells.size:= aC ;rw[bZ,Ys FG hq];simp only[PH];have e1:zv.cells.getD j undef=zv.cells[j]:=by simp[qB]
         rw[e1];exact⟨rfl,q2 _ aH⟩
        .exact IS q1 hn v<|by have:=Yt FG hv;simpa using this
        .rw [Lk.px,Lk.mU];simp only[Value.ownBlock,bu];exact eq_comm
        .have qB:j<zv.cells.size:= aC ;have Py:j<z.length:= aC ;have e1:zv.cells.getD j undef=zv.cells[j]:=by simp[qB]
         simp only[e1];rw[bc,bk Py];obtain⟨p1,_⟩:=r7 (bad B<|L.set id (λx=>x=w.heap.size) (.slice (some ⟨w.heap.size,0,none⟩) zl.toNat zc.toNat) λ_=>undef) (jl<|L.set id (λx=>x=w.heap.size) (.slice (some ⟨w.heap.size,0,none⟩) zl.toNat zc.toNat) λ_=>undef)<|w.alloc<|.cells (madeCells zv.cells<|zc.toNat*te.i.size) e;exact⟨p1.kq j _ _ (bk Py)<|by simp[qB],aqq hz _<|b9 Py⟩
      .cases ju
     .cases ju
    .cases ju
   .cases ju
  .cases ju
 .cases h
def ah2(hT:mw P T){x:Operand}{t:TypeId}{c:Call}(hc:c={ callee:=.builtin .len,args:=#[x],argTypes:=#[t] })(iC:o.op = .call c){e:TypeId}(hd:yd T t=some (.slice e))(r:jd w0 B σ a w L){rr:Value×List Nat}(h:tu (σ.op x) σ=some rr)(hu:u={ r:=.e<|.v rr.1,rb:=rr.2 }):jV P K w0 B σ o a w u:=by
 obtain⟨ti,h1,h2⟩:=BZ hd;have Xm:P.underlying t=some (.slice e):=by rw[hT.qK h1,h2]
 have he:=Hf Xm;have hx:=r.op x;have key:∀ (A:Option Addr) (n cp:Nat),a.eval x = .slice A n cp->rr.1 = .int .i64 (n:Int)->jV P K w0 B σ o a w u:=by
  intro A n cp e1 e2;have hr:=run_len_slice (P:=P) w t o.type A n cp (by rw[he];exact Xm);subst hu;refine jV.pure r (v:=.int .i64 (n:Int)) ?_ rfl (by rw[e2];exact .v _);subst hc;have em:(#[x]:Array Operand).map a.eval = #[a.eval x]:= aH ;simp only[execOp,iC,resolve,em,e1,Sem.run_bind,Sem.run_pure,Result.andThen_ok,invoke,builtin,hr];rfl
 cases hp:σ.op x with
 |e y=>
  rw[hp]at h hx;cases y with
  |sl nl n sz el=>
   simp only[tu,bu]at h;generalize hq:a.eval x=q at hx;cases hx with
   |sl _ _ _ _ A c f hc hm h0 hl uA cell kk=>exact key A n c hq<|by rw[<-h]
  |oW fl nl n sz el=>
   simp only[tu,bu]at h;generalize hq:a.eval x=q at hx;cases hx with
   |oW _ _ _ _ _ A c f hc hm h0 hl uA cell kk=>exact key A n c hq<|by rw[<-h]
  |v y=>
   have hx:=iI.kG hx;cases y with
   |slice A n cp=>
    simp only[tu,bu]at h;exact key A n cp hx<|by rw[<-h]
   |_=>simp[tu]at h
  |_=>simp[tu]at h
 |own id=>
  rw[hp]at h hx;obtain⟨_,k2⟩:=hx;simp only[tu]at h;split at h
  .rename_i nl T1 n sz el iV;simp only[bu]at h;obtain⟨f,q1,_,_⟩:=r.hb id _ iV;rcases q1 with⟨q1,q0⟩|⟨b,ofs,c,cur,q1,_⟩
   .rw [q1]at k2;exact key none 0 0 k2<|by rw[<-h,q0]
   .rw [q1]at k2;exact key _ n c k2<|by rw[<-h]
  .rename_i nl T1 T0 n sz len el pend iV;simp only[bu]at h;rcases r.hb id _ iV with⟨q1,q0,_⟩|⟨b,ofs,c,cur,f,q1,_⟩
   .rw [q1]at k2;exact key none 0 0 k2<|by rw[<-h,q0]
   rw[q1]at k2;exact key _ n c k2<|by rw[<-h]
  .cases h
 |iG id k=>
  rw[hp]at h hx;obtain⟨_,k2⟩:=hx;simp only[tu]at h;split at h
  .rename_i nl T1 T0 n sz len el pend iV;split at h
   .rename_i hk;have hk:k<n:=by simpa[fG]using hk
    simp only[bu]at h;obtain⟨b0,ofs0,c0,cur0,f,g1,g2,g3,g4,g5,g6,g7,g8,_⟩:=(r.hb id _ iV).vE aC;rcases(g8 k hk).1 with⟨q1,q0⟩|⟨b,ofs,c,cur,q1,_⟩
    .rw [q1]at k2;exact key none 0 0 k2<|by rw[<-h,q0]
    .rw [q1]at k2;exact key _ (len k) c k2<|by rw[<-h]
   .cases h
  .cases h
 |_=>rw[hp]at h;simp[tu]at h
end
section
variable {P:Program} {K:World->Prop} {T:List TI} {O:qw} {w0:mA} {B:Nat->Prop} {σ:PS} {o:Oper} {a:Act} {w:World} {L:Lk} {u:ko}
def nb.pn{v:Value}{T:TypeId}{n sz:Nat}{f:Nat->Nat->Value}{nl nl':Bool}(h:nb w v T n sz f nl)(k:nl'=true->nl=true):nb w v T n sz f nl':=by
 rcases h with h|⟨b,ofs,c,cur,h1,h2,h3,h4,h5,h6,h7⟩
 .exact .inl h
 .exact .inr ⟨b,ofs,c,cur,h1,h2,h3,h4,h5,h6,λq=>h7<|k q⟩
def acX{p:PV}{nl:Bool}{n sz:Nat}{el:Nat->Nat->E}(h:p.Nw=some (nl,n,sz,el)){v:Value}(hv:kD (bad B L) (jl L) L w p v):∃ (A:Option Addr) (c:Nat) (f:Nat->Nat->Value),v = .slice A n c/\(A=none->c=0)/\n<=c /\
 (∀ i j,i<n->j<sz->(f i j).oneCell'=true/\(nl=true->pU (f i j)=false))/\(∀ i j,i<n->j<sz->∃ b o,A=some ⟨b,o,none⟩/\w.cell? ⟨b,o+(i*sz+j),none⟩=some (f i j)) /\
 ∀ i j,i<n->j<sz->iI (bad B L) (jl L) w (el i j) (f i j)/\(el i j).nr 2=true:=by
 unfold PV.Nw at h;split at h
 .cases h;cases hv with
  |sl _ _ _ _ A c f hc hm h0 hl hr cell k=>exact⟨A,c,f,rfl,h0,hc,hl,λi j hi hj=>by obtain⟨b,o,e,_,_,nX⟩:=cell i j hi hj;exact⟨b,o,e,nX⟩,λi j hi hj=>⟨k i j hi hj,hr i j hi hj⟩⟩
 .cases h;cases hv with
  |oW _ _ _ _ _ A c f hc hm h0 hl hr cell k=>exact⟨A,c,f,rfl,h0,hc,hl,λi j hi hj=>by obtain⟨b,o,e,_,_,nX⟩:=cell i j hi hj;exact⟨b,o,e,nX⟩,λi j hi hj=>⟨k i j hi hj,hr rfl i j hi hj⟩⟩
 .cases h
def V2(hT:mw P T){s x:Operand}{t:TypeId}{c:Call}(hc:c={ callee:=.builtin .append,args:=#[s,x],argTypes:=#[t,t] })(iC:o.op = .call c)(r:jd w0 B σ a w L)
 (h:B3 T σ o.dst t (σ.op s) (σ.op x)=some u) (ho:∀ q,q ∈ u.jz->q):jV P K w0 B σ o a w u:=by
 have hs:=r.op s;have hx:=r.op x;simp only[B3]at h;split at h
 .rename_i nl2 m sz2 el2 ni;obtain⟨A,cx,g,hqx,hg0,hgc,WJ,gcell,gk⟩:=acX ni hx;split at h
  .rename_i tt qE;split at h
   .rename_i e hd;have hu:P.underlying t=some (.slice e):=by rw[hT.qK qE,hd]
    split at h
    .rename_i te np;split at h
     .rename_i z hz;split at h
      .rename_i AR;simp only[bD]at AR;have c1:=ku.1 AR.1.1.1;have c2:=cE AR.1.1.2;have c3:=cE AR.1.2;have c4:=ku.1 AR.2;obtain⟨zv,tJ,r7⟩:=Gw hz;obtain⟨q1,q2⟩:=r7 (bad B L) (jl L) w;have DS:zv.cells.size=sz2:=by have:=q1.len;simp only[dH]at this;omega
       have key:∀ (v:Value) (n:Nat) (f:Nat->Nat->Value) (nl:Bool),a.eval s=v->nb w v e n sz2 f nl->(nl=true->nl2=true/\z.all E.lY=true)->(n+m)*te.i.bytes<=140737488355328 ->
        ∃ v' w',(execOp a.eval o).run P w = .ok (.value v') w'/\Nb w v e n sz2 m f g nl v' w':=by
        intro v n f nl hv lq jI jE;obtain⟨v',w',hr,mf⟩:=aaK P w t o.type e te.i zv sz2 hu (hT.Bg np) tJ c1 DS aC c3 (λu hu=>q2 u<|by simpa using hu) v n f nl lq A m cx g
         gcell (λhA=>by have:=hg0 hA;omega)
         (λk j hk hj=>⟨(WJ k j hk hj).1,λhn=>(WJ k j hk hj).2 (jI hn).1⟩) (λhn u hu=>IS q1 (jI hn).2 u<|by simpa using hu) jE
        refine⟨v',w',?_,mf⟩;subst hc;have em:(#[s,x]:Array Operand).map a.eval = #[a.eval s,a.eval x]:= aH ;simp only[execOp,iC,resolve,em,hv,hqx,Sem.run_bind,Sem.run_pure,Result.andThen_ok,invoke,builtin,hr]
       split at h
       .
        rename_i id tH;rw[tH]at hs;split at h
        .rename_i nl T1 n sz el iV;split at h
         .rename_i nX;simp only[bD]at nX;have d1:=ku.1 nX.1.1;have d2:=ku.1 nX.1.2;subst d1 d2;cases h;have jE:(n+m)*te.i.bytes<=140737488355328:=ho _ aH;obtain⟨f,p1,p2,p3⟩:=r.hb id _ iV;obtain⟨k1,k2⟩:=hs;have jI:(nl&&(nl2&&z.all E.lY))=true->nl2=true/\z.all E.lY=true:=λhn=>by simp only[bD]at hn;exact hn.2
          obtain⟨v',w',ki,mf⟩:=key (L.val id) n f _ k2 (p1.pn λhn=>by simp only[bD]at hn;exact hn.1) jI jE;have ht:pM L w id (λy=>v'.ownBlock=some y) w':=by
           refine⟨λy hy=>?_,mf.size,λy hy kj=>mf.nY y hy λe1=>kj<|(p2 y).2 e1,mf.os,mf.tape,mf.output⟩;rcases mf.GS y hy with e1|⟨e1,e2⟩
           .have:=(p2 y).2 e1;exact⟨.inl this,bM (r.hw id y this).2 mf.size⟩
           .exact ⟨.inr e1,e2⟩
          have hl:=ht.later v'<|L.iG id;have PK:∀ b,L.val id ≠ .pointer (some b):=λb e1=>by
           rcases p1 with⟨e2,_⟩|⟨_,ofs,_,_,e2,_⟩<;>rw[e1]at e2<;>cases e2
          refine⟨v',w',_,.inl ki,r.oX id _ _ v' w' PK ht ⟨λi j=>if i<n then f i j else g (i-n) j,by rw[Lk.mU];exact mf.own,λy=>by rw[Lk.px,Lk.mU],λi j hi hj=>(λ(q:iI _ _ _ _ _/\_)=>⟨hl.kq q.1,q.2⟩) (?_:_/\_)⟩ λhn=>?_,Lk.Ah,Lk.mU.symm⟩
          .by_cases kS:i<n
           .simp only[kS,bA];exact p3 i j kS hj
           .simp only[kS,bh];exact gk _ _ aC hj
          .have:=nX.2;rw[hn]at this;simpa[Bx.nl]using this
         .cases h
        .cases h
       .
        rename_i id k tH;rw[tH]at hs;split at h
        .rename_i nl T1 T0 n sz len el iV;split at h
         .rename_i nX;simp only[bD]at nX;have d1:=ku.1 nX.1.1;have d2:=ku.1 nX.1.2;subst d1 d2;cases h;have hk:k<n:=ho _ aH;have jE:(len k+m)*te.i.bytes<=140737488355328:=ho _ aH;obtain⟨b,ofs,cp,cur,f,p1,p2,p3,p4,p5,p6,p7,p8,p9,p10,p11⟩:=(r.hb id _ iV).vE aC;obtain⟨k1,k2⟩:=hs;have jI:nl=true->nl2=true/\z.all E.lY=true:=λhn=>by have:=nX.2;rw[hn]at this;simpa using this
          obtain⟨v',w',ki,mf⟩:=key (L.iG id k) (len k) (f k) nl k2 (p8 k hk).1 jI jE;have uq:∀ y,v'.ownBlock=some y->(L.iG id k).ownBlock=some y\/(w.heap.size<=y/\y<w'.heap.size):=mf.GS;have uY:b<w.heap.size:=(r.hw id b<|(p9 b).2<|.inl rfl).2;have Ch:∀ q y,q<n->(L.iG id q).ownBlock=some y->y<w.heap.size:=λq y hq hy=>(r.hw id y<|(p9 y).2<|.inr ⟨q,hq,hy⟩).2
          have ht:pM L w id (λy=>y=b\/∃ q,q<n/\(if q=k then v' else L.iG id q).ownBlock=some y) w':=by
           refine⟨λy hy=>?_,mf.size,λy hy kj=>mf.nY y hy λe1=>kj<|(p9 y).2<|.inr ⟨k,hk,e1⟩,mf.os,mf.tape,mf.output⟩;rcases hy with rfl|⟨q,hq,hy⟩
           .exact ⟨.inl<|(p9 y).2<|.inl rfl,bM uY mf.size⟩
           .by_cases sB:q=k
            .subst sB;rw[aY rfl]at hy;rcases uq y hy with e1|⟨e1,e2⟩
             .have:=(p9 y).2<|.inr ⟨q,hq,e1⟩;exact⟨.inl this,bM (r.hw id y this).2 mf.size⟩
             .exact ⟨.inr e1,e2⟩
            .rw [aX sB]at hy;have:=(p9 y).2<|.inr ⟨q,hq,hy⟩;exact⟨.inl this,bM (r.hw id y this).2 mf.size⟩
          have hl:=ht.later (L.val id) λq=>if q=k then v' else L.iG id q;have sR:∀ y,y<w.heap.size->(L.iG id k).ownBlock≠some y->w'.heap[y]? = w.heap[y]?:=mf.nY;refine⟨v',w',_,.inl ki,r.sw id _ _ (λq=>if q=k then v' else L.iG id q) w' ht
           (.inr ⟨b,ofs,cp,cur,λq i j=>if q=k then(if i<len q then f q i j else g (i-len q) j)else f q i j,by rw[Lk.mU];exact p1,by rw[sR b uY<|p11 k hk];exact p2,p3,p4,p5,λq hq sB=>?_,p7,λq hq=>?_,λy=>?_,λq q' y hq uB hy oq=>?_,λq hq hy=>?_⟩) (λhn=>?_),Lk.Ah,?_⟩
          .have jD:q≠k:=λe1=>sB (by rw[e1])
           rw[Lk.nR,aX jD];exact p6 q hq aH 
          .rw [Lk.nR];by_cases sB:q=k
           .subst sB;simp only[bA];refine⟨mf.own,λi j hi hj=>(λ(q:iI _ _ _ _ _/\_)=>⟨hl.kq q.1,q.2⟩) (?_:_/\_)⟩;by_cases kS:i<len q
            .simp only[kS,bA];exact(p8 q hq).2 i j kS hj
            .simp only[kS,bh];exact gk _ _ aC hj
           .simp only[sB,bh];obtain⟨s1,s2⟩:=p8 q hq;exact⟨s1.block λy hy=>sR y (Ch q y hq hy) λe1=>sB<|p10 q k y hq hk hy e1,λi j hi hj=>⟨hl.kq (s2 i j hi hj).1,(s2 i j hi hj).2⟩⟩
          .rw [Lk.px];simp only[Lk.nR]
          .simp only[Lk.nR]at hy oq;by_cases h1:q=k
           .subst h1;by_cases h2:q'=q
            .exact h2.symm
            .rw [aY rfl]at hy;rw[aX h2]at oq;rcases uq y hy with e1|⟨e1,_⟩
             .exact p10 q q' y hq uB e1 oq
             .have:=Ch q' y uB oq;omega
           .rw [aX h1]at hy;by_cases h2:q'=k
            .subst h2;rw[aY rfl]at oq;rcases uq y oq with e1|⟨e1,_⟩
             .exact p10 q q' y hq uB hy e1
             .have:=Ch q y hq hy;omega
            .rw [aX h2]at oq;exact p10 q q' y hq uB hy oq
          .simp only[Lk.nR]at hy;by_cases h1:q=k
           .subst h1;rw[aY rfl]at hy;rcases uq b hy with e1|⟨e1,_⟩
            .exact p11 q hq e1
            .omega
           .rw [aX h1]at hy;exact p11 q hq hy
          .have:=r.hl hn id _ iV;exact this
          .rw [Lk.nR,aY rfl]
         .cases h
        .cases h
       .
        rename_i tH;rw[tH]at hs;have hs:=iI.kG hs;obtain⟨id,Lf,kj,zo,rfl⟩:=I0 h;have jE:m*te.i.bytes<=140737488355328:=ho _ aH;obtain⟨v',w',ki,mf⟩:=key _ 0 g (nl2&&z.all E.lY) hs (.inl ⟨rfl,rfl⟩) (λhn=>by simpa using hn) (by simpa using jE);have hb:Below w.heap.size w w':=⟨mf.os,mf.tape,mf.output,mf.size,λy hy=>mf.nY y hy<|by simp[Value.ownBlock]⟩
        have hO:∀ y,v'.ownBlock=some y->w.heap.size<=y/\y<w'.heap.size:=λy hy=>by
         rcases mf.GS y hy with e1|e1
         .simp [Value.ownBlock]at e1
         .exact e1
        have ht:pM L w id (λy=>v'.ownBlock=some y) w':=⟨λy hy=>⟨.inr (hO y hy).1,(hO y hy).2⟩,hb.size,λy hy _=>hb.block y hy,hb.os,hb.tape,hb.output⟩
        have hl:=ht.later v' λ_=>undef;have lq:=mf.own;rw[bZ]at lq;refine⟨v',w',_,.inl ki,r.new id _ (λy=>v'.ownBlock=some y) v' (λ_=>undef) w' kj hO hb ⟨λi j=>if i<0 then g i j else g (i-0) j,by rw[Lk.mU];exact lq,λy=>by rw[Lk.px,Lk.mU],λi j hi hj=>(λ(q:iI _ _ _ _ _/\_)=>⟨hl.kq q.1,q.2⟩) (?_:_/\_)⟩ zo,Lk.Ah,Lk.mU.symm⟩;simp only[bt,bh,dQ];exact gk i j hi hj
       .cases h
      .cases h
     .cases h
    .cases h
   .cases h
  .cases h
 .cases h
def Yb{id q T0 T1 n m sz:Nat}{nl nl2:Bool}{len len2:Nat->Nat}{el el2:Nat->Nat->Nat->E}(jD:id≠q)(r:jd w0 B σ a w L){v':Value}{w':World}(hm:0<m)
 (hq:nB (bad B L) (jl L) L w q<|.iT nl2 T1 T0 m sz len2 el2 none)
 (f1:Nat->Nat->Nat->Value)
 (h8:∀ k,k<n->nb w (L.iG id k) T0 (len k) sz (f1 k) nl/\∀ i j,i<len k->j<sz->iI (bad B L) (jl L) w (el k i j) (f1 k i j)/\(el k i j).nr 2=true)
 (h9:∀ k x,k<n->(L.iG id k).ownBlock=some x->L.own id x) (nh:∀ k k' x,k<n->k'<n->(L.iG id k).ownBlock=some x->(L.iG id k').ownBlock=some x->k=k')
 {v:Value} (Cp:∀ y,v.ownBlock=some y->L.own id y) (nW:∀ k y,k<n->(L.iG id k).ownBlock=some y->v.ownBlock≠some y)
 (lq:nb w' v' T1 (n+m) 1 (λk _=>if k<n then L.iG id k else L.iG q (k-n)) true)
 (uq:∀ y,v'.ownBlock=some y->v.ownBlock=some y\/(w.heap.size<=y/\y<w'.heap.size))
 (mP:w.heap.size<=w'.heap.size) (sR:∀ y,y<w.heap.size->v.ownBlock≠some y->w'.heap[y]? = w.heap[y]?) (DH:w'.os=w.os) (PU:w'.tape=w.tape) (qn:w'.output=w.output)
 (kj:L.lX id->∀ b,L.val id ≠ .pointer (some b)) (jI:σ.nl=true->(nl&&nl2)=true):
 jd w0 B (σ.nT<|.oM id q<|.iT (nl&&nl2) T1 T0 (n+m) sz (λk=>if k<n then len k else len2 (k-n)) (λk=>if k<n then el k else el2 (k-n)) none) a w'
  (L.qF id q (λy=>v'.ownBlock=some y\/∃ k,k<n+m/\(if k<n then L.iG id k else L.iG q (k-n)).ownBlock=some y) v' λk=>if k<n then L.iG id k else L.iG q (k-n)):=by
 obtain⟨b,ofs,c,cur,f,g1,g2,g3,g4,g5,g6,g7,g8,g9,g10,g11⟩:=hq.vE hm;have PL:∀ k x,k<m->(L.iG q k).ownBlock=some x->L.own q x:=λk x hk hx=>(g9 x).2<|.inr ⟨k,hk,hx⟩
 have Ch:∀ k y,k<n+m->(if k<n then L.iG id k else L.iG q (k-n)).ownBlock=some y->(L.own id y\/L.own q y)/\v.ownBlock≠some y:=by
  intro k y hk hy;by_cases e:k<n
  .rw [aY e]at hy;exact⟨.inl<|h9 k y e hy,nW k y e hy⟩
  .rw [aX e]at hy;have:=PL _ _ aC hy;exact⟨.inr this,λh=>jD<|r.hi id q y (Cp y h) this⟩
 have iE:∀ y,L.own id y\/L.own q y->y<w.heap.size:=λy h=>by
  rcases h with h|h
  .exact (r.hw id y h).2
  .exact (r.hw q y h).2
 refine r.qF jD _ _ v' _ w' (λy hy=>?_) mP (λy hy ai3=>sR y hy λh=>ai3<|Cp y h) DH PU qn (λhl=>?_) kj jI
 .rcases hy with hy|⟨k,hk,hy⟩
  .rcases uq y hy with h|⟨h1,h2⟩
   .exact ⟨.inl<|Cp y h,bM (r.hw id y<|Cp y h).2 mP⟩
   .exact ⟨.inr<|.inr h1,h2⟩
  .have h:=(Ch k y hk hy).1;exact⟨h.elim .inl λh=>.inr<|.inl h,bM (iE y h) mP⟩
 .rcases lq with⟨_,h0⟩|⟨b',ofs',c',cur',k1,k2,k3,k4,k5,k6,k7⟩
  .omega
  .have WQ:∀ k y,k<n+m->(if k<n then L.iG id k else L.iG q (k-n)).ownBlock=some y->w'.heap[y]? = w.heap[y]?:=λk y hk hy=>sR y (iE y (Ch k y hk hy).1) (Ch k y hk hy).2
   refine .inr ⟨b',ofs',c',cur',λk=>if k<n then f1 k else f (k-n),by rw[Lk.IL];exact k1,k2,k3,k4,aC,λk hk _=>?_,λu hu=>?_,λk hk=>?_,λy=>?_,λk k' y hk DA hy oq=>?_,λk hk hy=>?_⟩
   .rw [Lk.zO];have:=(k6 k 0 hk aE).1;rwa[b6,bT]at this
   .exact k7 rfl u hu
   .rw [Lk.zO];by_cases e:k<n
    .simp only[e,bA];obtain⟨s1,s2⟩:=h8 k e;refine⟨(s1.pn λh=>?_).block λy hy=>WQ k y hk<|by rw[aY e];exact hy,λi j hi hj=>⟨hl.kq (s2 i j hi hj).1,(s2 i j hi hj).2⟩⟩;simp only[bD]at h;exact h.1
    .simp only[e,bh];obtain⟨s1,s2⟩:=g8 (k-n) aC;refine⟨(s1.pn λh=>?_).block λy hy=>WQ k y hk<|by rw[aX e];exact hy,λi j hi hj=>⟨hl.kq (s2 i j hi hj).1,(s2 i j hi hj).2⟩⟩;simp only[bD]at h;exact h.2
   .rw [Lk.Yc,k1];simp only[Lk.zO,Value.ownBlock,bu];constructor
    .rintro (h|h)
     .exact .inl h.symm
     .exact .inr h
    .rintro (h|h)
     .exact .inl h.symm
     .exact .inr h
   .simp only[Lk.zO]at hy oq;by_cases e:k<n
    .rw [aY e]at hy;by_cases e':k'<n
     .rw [aY e']at oq;exact nh k k' y e e' hy oq
     .rw [aX e']at oq;exact absurd (r.hi id q y (h9 k y e hy)<|PL _ _ aC oq) jD
    .rw [aX e]at hy;by_cases e':k'<n
     .rw [aY e']at oq;exact absurd (r.hi id q y (h9 k' y e' oq)<|PL _ _ aC hy) jD
     .rw [aX e']at oq;have:=g10 (k-n) (k'-n) y aC aC hy oq;omega
   .rw [Lk.zO]at hy;have h:=Ch k b' hk hy;rcases uq b' (by rw[k1];rfl)with h2|⟨h2,_⟩
    .exact h.2 h2
    .have:=iE b' h.1;omega
def alZ{p:PV}{q:Nat}(h:p.F1=some q):p = .own q:=by
 cases p<;>simp only[PV.F1,reduceCtorEq,bu]at h;rw[h]
def ah1(hT:mw P T){s x:Operand}{t:TypeId}{q:Nat}{c:Call}(hc:c={ callee:=.builtin .append,args:=#[s,x],argTypes:=#[t,t] })(iC:o.op = .call c)(r:jd w0 B σ a w L)
  (hq:(σ.op x).F1=some q) (h:Df T σ o.dst t (σ.op s) q=some u) (ho:∀ q,q ∈ u.jz->q):jV P K w0 B σ o a w u:=by
 have hx:=r.op x;rw[alZ hq]at hx;obtain⟨kx,kv⟩:=hx;have hs:=r.op s;unfold Df at h;split at h
 .rename_i nl2 T2 T0 m sz len2 el2 e by_ ur Ce;obtain⟨te,zv,uz,hu,np,uF,Ld,kE,tJ,Cr,Bc,Ix⟩:=Uc w hT Ce;have XE:∀ v,v ∈ zv.cells->v.oneCell'=true/\pU v=false:=λv hv=>by
   rw[Cr]at hv;have:v=uz:=by simpa using hv
   rw[this];exact⟨Bc,Ix⟩
  have key:∀ (v:Value) (n:Nat) (f:Nat->Nat->Value),0<m->a.eval s=v->nb w v e n 1 f true->(n+m)*by_<=140737488355328 ->
    ∃ v' w',(execOp a.eval o).run P w = .ok (.value v') w'/\Nb w v e n 1 m f (λk _=>L.iG q k) true v' w':=by
   intro v n f hm hv lq jE;obtain⟨bq,ofq,cq,curq,fq,g1,g2,g3,g4,g5,g6,g7,g8,g9,g10,g11⟩:=(r.hb q _ ur).vE hm;have FE:a.eval x = .slice (some ⟨bq,ofq,none⟩) m cq:=by rw[kv,g1]
   obtain⟨v',w',hr,mf⟩:=aaK P w t o.type e te.i zv 1 hu (hT.Bg np) tJ uF (by rw[Cr];rfl) aE aC (λv hv=>(XE v hv).1) v n f true lq (some ⟨bq,ofq,none⟩) m cq (λk _=>L.iG q k)
    (λk j hk hj=>⟨bq,ofq,rfl,by
     obtain rfl:j=0:= aC ;have:=g6 k hk aH;simp only[World.cell?,g2];simpa using this⟩) (λhA=>by cases hA)
    (λk j hk hj=>⟨(g8 k hk).1.head.2.1,λ_=>(g8 k hk).1.head.2.2⟩) (λ_ v hv=>(XE v hv).2) (by rw[Ld];exact jE)
   refine⟨v',w',?_,mf⟩;subst hc;have em:(#[s,x]:Array Operand).map a.eval = #[a.eval s,a.eval x]:= aH ;simp only[execOp,iC,resolve,em,hv,FE,Sem.run_bind,Sem.run_pure,Result.andThen_ok,invoke,builtin,hr]
  split at h
  .
   rename_i id tH;rw[tH]at hs;obtain⟨ks,ks2⟩:=hs;split at h
   .rename_i nl T1 T0' n sz' len el iV;split at h
    .rename_i nX;cases h;simp only[bD,di]at nX;obtain rfl:=ku.1 nX.1.1.1.1;obtain rfl:=ku.1 nX.1.1.1.2;obtain rfl:=ku.1 nX.1.1.2;obtain rfl:=ku.1 nX.1.2;have jD:id≠q:=λe=>by have:=nX.2;rw[e,cw]at this;cases this
     have hm:0<m:=ho _ aH;have jE:(n+m)*by_<=140737488355328:=ho _ aH;obtain⟨f,pown,p8,p9,p10,Cp,p11,pno⟩:∃ f:Nat->Nat->Nat->Value,nb w (L.val id) _ n 1 (λk _=>L.iG id k) true /\
       (∀ k,k<n->nb w (L.iG id k) T0' (len k) sz' (f k) nl/\∀ i j,i<len k->j<sz'->iI (bad B L) (jl L) w (el k i j) (f k i j)/\(el k i j).nr 2=true) /\
       (∀ k x,k<n->(L.iG id k).ownBlock=some x->L.own id x)/\(∀ k k' x,k<n->k'<n->(L.iG id k).ownBlock=some x->(L.iG id k').ownBlock=some x->k=k') /\
       (∀ y,(L.val id).ownBlock=some y->L.own id y)/\(∀ k y,k<n->(L.iG id k).ownBlock=some y->(L.val id).ownBlock≠some y)/\∀ b,L.val id ≠ .pointer (some b):=by
      rcases r.hb id _ iV with⟨h1,h2,h3⟩|⟨b,ofs,cp,cur,f,p1,p2,p3,p4,p5,p6,p7,p8,p9,p10,p11⟩
      .refine ⟨λ_ _ _=>undef,.inl ⟨h1,h2⟩,λk hk=> aC,λk x hk=> aC,λk k' x hk=> aC,λy hy=>?_,λk y hk=> aC,λb hb=>?_⟩
       .rw [h1]at hy;simp[Value.ownBlock]at hy
       .rw [h1]at hb;cases hb
      .refine ⟨f,.inr ⟨b,ofs,cp,cur,p1,p2,p3,p4,aC,λk j hk hj=>?_,λ_=>p7⟩,p8,λk y hk hy=>(p9 y).2<|.inr ⟨k,hk,hy⟩,p10,λy hy=>?_,λk y hk hy FF=>?_,λb1 kE=>?_⟩
       .obtain rfl:j=0:= aC ;rw[b6,bT];exact⟨p6 k hk aH,(p8 k hk).1.head.2.1⟩
       .rw [p1]at hy;simp only[Value.ownBlock,bu]at hy;exact(p9 y).2<|.inl hy.symm
       .rw [p1]at FF;simp only[Value.ownBlock,bu]at FF;exact p11 k hk<|FF▸hy
       .rw [p1]at kE;cases kE
     obtain⟨v',w',ki,mf⟩:=key (L.val id) n (λk _=>L.iG id k) hm ks2 pown jE;refine⟨v',w',_,.inl ki,Yb jD r hm (r.hb q _ ur) f p8 p9 p10 Cp p11 mf.own mf.GS mf.size mf.nY mf.os mf.tape mf.output (λ_=>pno) λhn=>?_,Lk.Qh jD,Lk.IL.symm⟩
     .have h1:nl=true:=r.hl hn id _ iV;have h2:nl2=true:=r.hl hn q _ ur;rw[h1,h2];rfl
    .cases h
   .cases h
  .
   rename_i id tH Lf;rw[tH]at hs;have hs:=iI.kG hs;split at h
   .rename_i kj;split at h
    .rename_i nX;cases h;simp only[bD,di]at nX;obtain rfl:=ku.1 nX.1;have jD:id≠q:=λe=>by have:=nX.2;rw[e,cw]at this;cases this
     have hm:0<m:=ho _ aH;have jE:m*by_<=140737488355328:=ho _ aH;obtain⟨v',w',ki,mf⟩:=key _ 0 (λk _=>L.iG id k) hm hs (.inl ⟨rfl,rfl⟩) (by simpa using jE);have PF:¬L.lX id:=λh=>by have:=(r.hv id).1 h;rw[kj]at this;cases this
     have hj:=Yb (n:=0) (nl:=true) (len:=λ_=>0) (el:=λ_ _ _=>.any) jD r hm (r.hb q _ ur) (λ_ _ _=>undef) (λk hk=>absurd hk<|bt k) (λk y hk=>absurd hk<|bt k) (λk k' y hk=>absurd hk<|bt k)
      (v:=.slice none 0 0) (λy hy=>by simp[Value.ownBlock]at hy) (λk y hk=>absurd hk<|bt k) mf.own mf.GS mf.size mf.nY mf.os mf.tape mf.output (λh=>absurd h PF) (λhn=>r.hl hn q _ ur)
     simp only[bt,bh,dQ,bZ,eR]at hj;exact⟨v',w',_,.inl ki,hj,Lk.Qh jD,Lk.IL.symm⟩
    .cases h
   .cases h
  .cases h
 .cases h
def ahP(hT:mw P T)(hB:∀ b,B b->w0.uT b){s x:Operand}{t:TypeId}{c:Call}(hc:c={ callee:=.builtin .append,args:=#[s,x],argTypes:=#[t,t] })(iC:o.op = .call c)(r:jd w0 B σ a w L)
 (h:De T σ o.dst t (σ.op s) (σ.op x)=some u) (ho:∀ q,q ∈ u.jz->q):jV P K w0 B σ o a w u:=by
 unfold De at h;split at h
 .rename_i u0 h0;split at h
  .rename_i id nl T1 n sz el id' hf hr;split at h
   .rename_i hid;have hid:=ku.1 hid;subst hid;cases h;have r2:jd w0 B { σ with nl:=false } a w L:=⟨r.hd,r.hs,r.ht,r.hb,r.hv,r.hn,r.hw,r.hi,r.he,λh=>by cases h⟩
    obtain⟨v,w',L1,ki,hrel,r7⟩:=V2 (K:=K) hT hc iC r2 h0 λq hq=>ho q<|List.mem_cons_of_mem _ hq
    rw[hf]at hrel;rw[hr]at r7;obtain⟨L',k1,k2⟩:=jd.fin hB hrel;refine⟨v,w',L',ki,⟨k1.hd,k1.hs,k1.ht,k1.hb,k1.hv,k1.hn,k1.hw,k1.hi,k1.he,λhn i b hb=>?_⟩,?_⟩
    .have hb:look ((σ.pre<|.fin id').filter λx=>!Nat.beq x.1 id') i=some b:=hb;rw[D1,PS.BT]at hb;split at hb
     .cases hb
     .obtain ⟨b0,ln,rfl⟩:=bU.1 hb;rw[D4];exact r.hl hn i b0 ln
    rw[r7.2];exact k2
   .cases h
  .cases h
 .cases h
def ah7{x y:Operand}{c:Call}(hc:c.callee = .builtin .max/\c.args = #[x,y])(iC:o.op = .call c)(r:jd w0 B σ a w L){k k':IntKind}{p q:Int}(hx:σ.op x = .e (.v<|.int k p))(hy:σ.op y = .e (.v<|.int k' q))
 (hu:u={ r:=.e<|.v<|.int k<|if q>p then q else p }):jV P K w0 B σ o a w u:=by
 have h1:=r.op x;have h2:=r.op y;rw[hx]at h1;rw[hy]at h2;have h1:=iI.kG h1;have h2:=iI.kG h2;subst hu;refine jV.pure r (v:=.int k<|if q>p then q else p) ?_ rfl (.v _);have em:(#[x,y]:Array Operand).map a.eval = #[.int k p,.int k' q]:=by simp[h1,h2]
 simp only[execOp,iC,resolve,hc.1,hc.2,em,Sem.run_bind,Sem.run_pure,Result.andThen_ok,invoke,builtin,run_max_int2]
def ah8{x y z:Operand}{c:Call}(hc:c.callee = .builtin .max/\c.args = #[x,y,z])(iC:o.op = .call c)(r:jd w0 B σ a w L){k k' k'':IntKind}{p q s:Int}(hx:σ.op x = .e (.v<|.int k p))(hy:σ.op y = .e (.v<|.int k' q))(hz:σ.op z = .e (.v<|.int k'' s))
 (hu:u={ r:=.e<|.v<|.int k<|if s>(if q>p then q else p)then s else(if q>p then q else p) }):jV P K w0 B σ o a w u:=by
 have h1:=r.op x;have h2:=r.op y;have h3:=r.op z;rw[hx]at h1;rw[hy]at h2;rw[hz]at h3;have h1:=iI.kG h1;have h2:=iI.kG h2;have h3:=iI.kG h3;subst hu;refine jV.pure r (v:=.int k<|if s>(if q>p then q else p)then s else(if q>p then q else p)) ?_ rfl (.v _);have em:(#[x,y,z]:Array Operand).map a.eval = #[.int k p,.int k' q,.int k'' s]:=by simp[h1,h2,h3]
 simp only[execOp,iC,resolve,hc.1,hc.2,em,Sem.run_bind,Sem.run_pure,Result.andThen_ok,invoke,builtin,run_max_int3]
def ah9{x y:Operand}{c:Call}(hc:c.callee = .builtin .min/\c.args = #[x,y])(iC:o.op = .call c)(r:jd w0 B σ a w L){k k':IntKind}{p q:Int}(hx:σ.op x = .e (.v<|.int k p))(hy:σ.op y = .e (.v<|.int k' q))
 (hu:u={ r:=.e<|.v<|.int k<|if q<p then q else p }):jV P K w0 B σ o a w u:=by
 have h1:=r.op x;have h2:=r.op y;rw[hx]at h1;rw[hy]at h2;have h1:=iI.kG h1;have h2:=iI.kG h2;subst hu;refine jV.pure r (v:=.int k<|if q<p then q else p) ?_ rfl (.v _);have em:(#[x,y]:Array Operand).map a.eval = #[.int k p,.int k' q]:=by simp[h1,h2]
 simp only[execOp,iC,resolve,hc.1,hc.2,em,Sem.run_bind,Sem.run_pure,Result.andThen_ok,invoke,builtin,run_min_int2]
end
end Go.Proofs.YtjkmahljfblobaaGreatDoor.Pu
