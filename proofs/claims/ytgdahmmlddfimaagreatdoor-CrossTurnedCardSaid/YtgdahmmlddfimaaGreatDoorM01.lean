/- Lemmas that the last file uses. -/
import Derived.Test.YtgdahmmlddfimaaGreatDoorProg
import Derived.WalkKit
import Derived.BigQuiet
import Derived.WalkSpells
import Derived.WalkLawsBesides
import Derived.Lib.Hide
import Derived.Deep.RegionHeld3
import Derived.Maps.AppendAt
import Derived.Deep.AppendLies
import Derived.Deep.Draws
import Derived.Deep.DeepFit
import Derived.Laws.AppendOwnNone
import Derived.Shelf.Small.Bits
import Derived.Shelf.Spec.TrailingZeros
import Derived.Test.YtgdahmmlddfimaaGreatDoorCards
import Derived.Test.YtgdahmmlddfimaaGreatDoorTie
import Derived.ProofKit
import Derived.OpenShut
import Derived.Deep.DeepHandedRow
import Derived.Lib.LaidTab
import Derived.Laws.AppendOwn
import Derived.Laws.MakeOwn
import Derived.Laws.Slices
import Derived.Orders
import Derived.Laws.Build
set_option linter.unusedSimpArgs false
set_option linter.unusedVariables false
set_option linter.defProp false
set_option maxHeartbeats 4000000
open Go.Proofs.Tryz
namespace Go.Proofs.YtgdahmmlddfimaaGreatDoor
theorem aC{p:Prop}(h:p:=by omega):p:=h
theorem aD{p:Prop}(h:p:=by assumption):p:=h
theorem aE{p:Prop}(h:p:=by decide):p:=h
theorem aF{p:Prop}(h:p:=by kernel_rfl):p:=h
theorem aG{p:Prop}(h:p:=by rfl):p:=h
theorem aH{p:Prop}(h:p:=by simp):p:=h
theorem aI{p:Prop}(h:p:=by nofun):p:=h
theorem aJ{p:Prop}(h:p:=by simp<;>omega):p:=h
theorem aK{p:Prop}(h:p:=by grind):p:=h
theorem aL{p:Prop}(h:p:=by decide +kernel):p:=h
theorem aM{p:Prop}(h:p:=by split<;>omega):p:=h
theorem aN{p:Prop}(h:p:=by simp;omega):p:=h
theorem aO{p:Prop}(h:p:=by rw[Bool.eq_iff_iff];unfold jN;(repeat' split)<;>simp_all<;>omega):p:=h
theorem aP{p:Prop}(h:p:=by first|rfl|omega|(simp only[Nat.add_mul,Nat.one_mul];omega)):p:=h
theorem aQ{p:Prop}(h:p:=by simp[Op.operands]):p:=h
theorem aR{p:Prop}(h:p:=by first|assumption|decide):p:=h
theorem aS{p:Prop}(h:p:=by unfold nO;(repeat' split)<;>omega):p:=h
theorem aT{p:Prop}(h:p:=by unfold sE;rw[Bool.eq_iff_iff];simp_all<;>omega):p:=h
theorem aU{p:Prop}(h:p:=by unfold su;rw[Bool.eq_iff_iff];simp_all<;>omega):p:=h
theorem aV{p:Prop}(h:p:=by unfold xK;rw[Bool.eq_iff_iff];simp_all<;>omega):p:=h
theorem aW{p:Prop}(h:p:=by rw[List.length_map];omega):p:=h
theorem aX{p:Prop}(h:p:=by unfold uc;rw[Bool.eq_iff_iff];simp_all):p:=h
theorem aY{p:Prop}(h:p:=by unfold wT;rw[Bool.eq_iff_iff];simp_all<;>omega):p:=h
theorem aZ{p:Prop}(h:p:=by unfold mR vH;simp_all):p:=h
theorem a6{p:Prop}(h:p:=by rw[List.length_take];omega):p:=h
theorem a7{p:Prop}(h:p:=by unfold uW;simp_all<;>omega):p:=h
theorem bc{p:Prop}(h:p:=by unfold kK;simp_all):p:=h
theorem bg{p:Prop}(h:p:=by unfold kB;omega):p:=h
theorem bh{α:Type _}[BEq α][LawfulBEq α]{a b:α}(h:a≠b):(a==b)=false:=beq_eq_false_iff_ne.2 h
theorem bj{α:Type _}[BEq α][LawfulBEq α]{a b:α}(h:a=b):(a==b)=true:=beq_iff_eq.2 h
theorem bk{b:Bool}(h:¬b=true):b=false:=Bool.eq_false_iff.2 h
theorem bn{α:Type _}[BEq α][LawfulBEq α]{a b:α}(h:a=b):(a != b)=false:=bne_eq_false_iff_eq.2 h
theorem bt{α:Type _}[BEq α][LawfulBEq α]{a b:α}(h:a≠b):(a != b)=true:=bne_iff_ne.2 h
def bu:=@if_neg
def bw:=@if_pos
def bA:=@decide_eq_true
def bB:=@decide_eq_false
def bC:=@List.getD_eq_getElem?_getD
def bD:=@Nat.le_refl
def bE:=@if_false
def bF:=@Nat.not_lt_zero
def bG:=@List.getElem?_eq_getElem
def bH:=@Nat.pow_add
def bI:=@Nat.le_trans
def bJ:=@Nat.pow_pos
def bK:=@Option.some.injEq
def bL:=@if_true
def bM:=@Bool.false_eq_true
def bN:=@Nat.mul_assoc
def bO:=@Bool.and_eq_true
def bQ:=@Nat.pow_succ
def bR:=@Nat.mul_comm
def bS:=@Nat.mod_lt
def bT:=@List.all_eq_true
def bU:=@Prod.mk.injEq
def bV:=@Rat.le_trans
def bW:=@Nat.mul_le_mul_right
def bX:=@Nat.lt_of_lt_of_le
def bY:=@Nat.pow_le_pow_right
def bZ:=@Rat.le_of_lt
def b6:=@List.length_map
def b7:=@Option.map_eq_some_iff
def b9:=@Nat.mul_add
def cg:=@List.length_append
def ch:=@Nat.add_zero
def cj:=@Nat.add_mul
def ck:=@Classical.byContradiction
def cr:=@Rat.mul_nonneg
def ct:=@Nat.one_mul
def cv:=@Nat.div_le_self
def cw:=@List.getElem?_eq_some_iff
def cz:=@Nat.zero_le
def cC:=@List.mem_range
def cD:=@Nat.zero_add
def cE:=@List.getElem?_eq_none
def cF:=@List.length_take
def cG:=@List.getElem?_map
def cH:=@Nat.mod_eq_of_lt
def cI:=@Nat.mul_one
def cJ:=@Nat.beq_refl
def cK:=@Option.map_some
def cL:=@decide_eq_true_eq
def cM:=@Int.le_refl
def cN:=@Rat.mul_le_mul_of_nonneg_right
def cO:=@List.getElem_mem
def cP:=@Nat.lt_of_le_of_lt
def cQ:=@of_decide_eq_true
def cR:=@Rat.le_refl
def cS:=@Nat.div_lt_iff_lt_mul
def cT:=@Nat.pow_zero
def cU:=@Nat.le_of_ble_eq_true
def cV:=@Nat.div_add_mod
def cW:=@Nat.mul_le_mul_left
def c9:=@Nat.zero_mul
def dc:=@beq_false
def de:=@Rat.mul_le_mul_of_nonneg_left
def df:=@List.any_eq_false
def dg:=@Nat.mul_zero
def dh:=@Classical.choose_spec
def di:=@Rat.div_def
def dj:=@List.length_cons
def dk:=@List.take_of_length_le
def dm:=@List.length_singleton
def dp:=@List.getElem?_append_left
def dq:=@Nat.sub_self
def dr:=@Rat.natCast_nonneg
def dt:=@Nat.add_assoc
def du:=@Array.getElem?_eq_some_iff
def dv:=@ne_eq
def dw:=@List.mem_cons
def dx:=@Nat.div_eq_of_lt
def dz:=@List.eq_nil_of_length_eq_zero
def dA:=@List.length_set
def dB:=@Nat.le_div_iff_mul_le
def dC:=@Nat.div_mul_le_self
def dD:=@Rat.natCast_mul
def dE:=@Nat.min_eq_left
def dF:=@Nat.mul_lt_mul_of_pos_right
def dG:=@List.mem_map
def dH:=@List.mem_flatMap
def dI:=@List.mem_iff_getElem?
def dJ:=@Array.ext'
def dK:=@List.mem_append
def dL:=@Nat.div_div_eq_div_mul
def dM:=@List.getElem?_take
def dN:=@List.getElem?_drop
def dO:=@Array.length_toList
def dP:=@Nat.sub_zero
def dQ:=@Nat.mul_le_mul
def dR:=@Nat.le_of_lt
def dU:=@Rat.natCast_le_natCast
def dV:=@Rat.not_lt
def dW:=@Nat.mul_ne_zero
def dX:=@Nat.mod_one
def dY:=@List.mem_of_getElem?
def dZ:=@Array.mem_of_getElem?
def ef:=@List.any_cons
def eh:=@Rat.div_mul_cancel
def ej:=@List.mem_of_mem_take
def ek:=@List.getElem_cons_succ
def ep:=@Nat.mul_div_cancel
def er:=@List.getElem?_append
def et:=@List.getElem?_append_right
def eu:=@Bool.or_eq_false_iff
def ev:=@Bool.not_eq_true'
def eB:=@List.any_eq_true
def eC:=@Nat.mul_left_comm
def eD:=@List.take_length
def eE:=@Nat.pos_of_ne_zero
def eF:=@Rat.intCast_natCast
def eG:=@Rat.natCast_add
def eH:=@Rat.mul_lt_mul_of_pos_right
def eI:=@Int.toNat_of_nonneg
def eJ:=@List.mem_of_mem_drop
def eK:=@Nat.add_mul_mod_self_left
def eN:=@List.drop_eq_nil_of_le
def eO:=@List.take_succ_cons
def eP:=@Nat.ne_of_gt
def eR:=@List.map_cons
def eU:=@Nat.eq_zero_or_pos
def eV:=@List.length_drop
def eW:=@Bool.or_false
def eX:=@not_false_eq_true
def eZ:=@Bool.or_eq_true
def e9:=@Bool.true_and
def fc:=@Bool.eq_iff_iff
def fe:=@Nat.mod_le
def ff:=@Rat.mul_pos
def fg:=@Rat.le_antisymm
def fh:=@Nat.add_sub_cancel
def fi:=@Nat.mod_add_div
def fj:=@List.getElem_toArray
def fk:=@List.getElem_cons_zero
def fm:=@List.drop_zero
def fo:=@List.drop_succ_cons
def fp:=@List.take_zero
def fu:=@Bool.not_false
def fv:=@List.map_congr_left
def fw:=@Option.isSome_map
def fA:=@List.size_toArray
def fB:=@List.any_nil
def fC:=@List.getElem?_replicate
def fD:=@Int.natCast_mul
def fE:=@Nat.xor_lt_two_pow
def fF:=@Rat.mul_assoc
def fG:=@of_decide_eq_false
def fH:=@Nat.add_mul_div_left
def fI:=@List.drop_eq_getElem_cons
def fJ:=@Array.getElem?_modify
def fK:=@Bool.not_true
def fL:=@Nat.blt_eq
def fM:=@Array.mem_append
def fN:=@getElem!_pos
def fO:=@and_true
def fP:=@List.mem_singleton
def fQ:=@List.mapM_cons
def fR:=@Nat.lt_trans
def fS:=@Nat.lt_succ_self
def fT:=@Nat.and_lt_two_pow
def fU:=@decide_true
def fV:=@BitVec.toNat_ofInt
def fW:=@Nat.div_one
def fX:=@Rat.le_of_mul_le_mul_right
def fY:=@Rat.neg_neg
def fZ:=@Rat.one_mul
def gh:=@Rat.mul_comm
def gj:=@Rat.inv_pos
def gl:=@List.take_succ_eq_append_getElem
def gn:=@Nat.mul_pos
def gp:=@Nat.lt_or_ge
def gq:=@List.map_append
def gr:=@List.append_nil
def gv:=@Int.toNat_natCast
def gw:=@Nat.mul_add_mod
def gE:=@List.ext_getElem?
def gF:=@Array.mem_map
def gG:=@Array.mem_range
def gH:=@Nat.sub_le
def gI:=@List.length_pos_iff
def gJ:=@Int.natAbs_natCast
def gK:=@Int.eq_ofNat_of_zero_le
def gL:=@Bool.or_self
def gM:=@List.ext_getElem
def gN:=@Rat.intCast_le_intCast
def gO:=@Rat.natCast_pos
def gP:=@Nat.div_lt_self
def gQ:=@Nat.le_mul_of_pos_left
def gR:=@Nat.mul_right_comm
def gS:=@Nat.sub_add_cancel
def gT:=@Nat.mul_mod_left
def gU:=@Nat.le_mul_of_pos_right
def gV:=@Array.getElem_mem
def gW:=@List.getElem?_toArray
def gX:=@List.mem_toArray
def gY:=@List.append_assoc
def gZ:=@Option.bind_eq_some_iff
def ia:=@Option.isSome_iff_exists
def ib:=@Bool.and_eq_true_iff
def ic:=@BitVec.ofInt_natCast
def ie:=@BitVec.toNat_ofNat
def ig:=@Nat.pow_lt_pow_right
def ij:=@decide_eq_true_iff
def ado:=@decide_false
def amH:=@Nat.le_of_eq
def amI:=@Bool.false_or
def amJ:=@List.getElem?_range
def amK:=@Nat.succ_mul
def amL:=@Nat.div_le_div_left
def amM:=@List.length_eq_one_iff
def amN:=@Rat.intCast_neg
def amO:=@Rat.neg_mul
def amP:=@Rat.inv_mul_cancel
def amQ:=@Nat.one_ne_zero
def amR:=@Array.size_push
def amS:=@List.cons_append
def amT:=@List.take_append_drop
def amU:=@List.eq_nil_or_concat
def amV:=@List.concat_eq_append
def amW:=@List.getElem?_cons_succ
def amX:=@Nat.mul_add_div
def amY:=@Array.size_append
def amZ:=@not_true_eq_false
def am0:=@List.length_nil
def am1:=@Option.getD_some
def am2:=@List.pairwise_cons
def am3:=@List.pairwise_append
def am4:=@Option.some.inj
def am5:=@Array.getElem_setIfInBounds_ne
def am6:=@Nat.or_lt_two_pow
def am7:=@List.take_add_one
def am8:=@decide_eq_decide
def am9:=@Int.natAbs_neg
def ana:=@List.getElem?_set
def anb:=@Nat.testBit_xor
def anc:=@Rat.mul_div_cancel
def ane:=@Array.getElem?_setIfInBounds_ne
def anf:=@Array.getElem?_append_left
def ang:=@Int.tdiv_eq_ediv_of_nonneg
def anh:=@Array.toList_setIfInBounds
def ani:=@List.drop_length_add_append
def anj:=@Array.all_eq_true_iff_forall_mem
def ank:=@Array.mapM_eq_mapM_toList
def anl:=@Nat.and_two_pow_sub_one_eq_mod
def anm:=@Nat.eq_of_mul_eq_mul_right
def ann:=@List.length_eq_zero_iff
def ano:=@Nat.lt_of_mul_lt_mul_right
def anp:=@Rat.lt_of_mul_lt_mul_right
def anq:=@Int.tmod_eq_emod_of_nonneg
def anr:=@Int.mul_tdiv_cancel_left
def ans:=@Nat.mul_div_cancel_left
def ant:=@Nat.mod_two_eq_zero_or_one
def anu:=@Nat.mul_lt_mul_of_lt_of_lt
def anv:=@Lib.hid
end Go.Proofs.YtgdahmmlddfimaaGreatDoor
namespace Go.Proofs.YtgdahmmlddfimaaGreatDoor.Fp
def val:List Nat->Nat
 | []=>0
 |x::l=>x+4294967296*val l
def iY(L:List Nat):Prop:=∀ x,x ∈ L->x<4294967296
def iY.nil:iY []:=by intro x h;cases h
def iY.cons{x:Nat}{l:List Nat}(hx:x<4294967296)(h:iY l):iY (x::l):=by
 intro y hy;rcases dw.1 hy with rfl|hy;exact hx;exact h _ hy
def iY.head{x:Nat}{l:List Nat}(h:iY (x::l)):x<4294967296:=h x aH 
def iY.tail{x:Nat}{l:List Nat}(h:iY (x::l)):iY l:=λy hy=>h y (by simp[hy])
def iY.append{l m:List Nat}(h:iY l)(k:iY m):iY (l++m):=by
 intro x hx;rcases dK.1 hx with hx|hx;exact h _ hx;exact k _ hx
def iY.take{l:List Nat}(h:iY l)(n:Nat):iY (l.take n):=λx hx=>h x (ej hx)
def iY.drop{l:List Nat}(h:iY l)(n:Nat):iY (l.drop n):=λx hx=>h x (eJ hx)
def iY.get{l:List Nat}(h:iY l){i:Nat}(hi:i<l.length):l[i]<4294967296:=h _ (cO hi)
def iY.getD{l:List Nat}(h:iY l)(i:Nat):l.getD i 0<4294967296:=by
 rw[bC];by_cases hi:i<l.length
 .rw [bG hi];exact h.get hi
 .rw [cE aC];decide
def iY.EB(n:Nat):iY (List.replicate n 0):=by
 intro x hx;rw[List.mem_replicate]at hx;rw[hx.2];decide
@[simp] theorem KE:val []=0:=rfl
@[simp] theorem sI (x:Nat) (l:List Nat):val (x::l)=x+4294967296*val l:=rfl
def BV(l m:List Nat):val (l++m)=val l+4294967296^l.length*val m:=by
 induction l with
 |nil=>simp
 |cons x l ih=>
  simp only[amS,sI,ih,dj,bQ];rw[b9,bR (4294967296^l.length) 4294967296,bN];omega
def oX{l:List Nat}(h:iY l):val l<4294967296^l.length:=by
 induction l with
 |nil=>simp
 |cons x l ih=>
  have h1:=h.head;have h2:=ih h.tail;simp only[sI,dj,bQ];have:val l+1<=4294967296^l.length:=h2;have:=cW 4294967296 this;rw[bR (4294967296^l.length)];omega
def Dh(n:Nat):val (List.replicate n 0)=0:=by
 induction n with
 |zero=>rfl
 |succ n ih=>simp[List.replicate_succ,ih]
def EW(l:List Nat)(n:Nat)(hn:n<=l.length):val l=val (l.take n)+4294967296^n*val (l.drop n):=by
 conv=>lhs;rw[<-amT n l,BV]
 rw[cF,dE hn]
def Dj(l:List Nat)(n:Nat)(hn:n<l.length):val (l.take (n+1))=val (l.take n)+4294967296^n*l[n]:=by
 rw[gl hn,BV,cF,dE aC];simp
def alw{l:List Nat}(h:iY l)(n:Nat):val (l.take n)=val l%4294967296^n:=by
 by_cases hn:n<=l.length
 .rw [EW l n hn,eK,cH];have:=oX (h.take n);rwa[cF,dE hn]at this
 .rw [dk aC,cH];refine bX (oX h) (bY aE aC)
def Hp{l:List Nat}(h:iY l)(n:Nat):val (l.drop n)=val l/4294967296^n:=by
 by_cases hn:n<=l.length
 .rw [EW l n hn];have:=oX (h.take n);rw[cF,dE hn]at this;rw[fH _ _ (bJ aE),dx this,cD]
 .rw [eN aC,dx];rfl;exact bX (oX h) (bY aE aC)
def iT:List Nat->List Nat
 | []=>[]
 |x::l=>match iT l with
  | []=>if x=0 then[]else[x]
  |y::m=>x::y::m
def mT(L:List Nat):Nat:=(iT L).length
def Yv(l:List Nat):iT (l++[0])=iT l:=by
 induction l with
 |nil=>rfl
 |cons x l ih=>simp only[amS,iT,ih]
def Yu(l:List Nat)(x:Nat)(hx:x≠0):iT (l++[x])=l++[x]:=by
 induction l with
 |nil=>simp[iT,hx]
 |cons y l ih=>
  simp only[amS,iT,ih];cases l<;>rfl
def Ky(L:List Nat):iT L=L.take (mT L):=by
 unfold mT
 induction L with
 |nil=>rfl
 |cons x l ih=>
  simp only[iT];cases h:iT l with
  |nil=>by_cases hx:x=0<;>simp[hx]
  |cons y m=>
   rw[h]at ih;simp only[dj,eO];rw[dj]at ih;rw[<-ih]
def pW(L:List Nat):mT L<=L.length:=by
 have h:=congrArg List.length (Ky L);rw[cF]at h;unfold mT at h ⊢;omega
def qv(L:List Nat):val (iT L)=val L:=by
 induction L with
 |nil=>rfl
 |cons x l ih=>
  simp only[iT];cases h:iT l with
  |nil=>rw[h]at ih;by_cases hx:x=0<;>simp[hx,<-ih]
  |cons y m=>rw[h]at ih;simp only[sI]at ih ⊢;rw[ih]
def iY.iT{L:List Nat}(h:iY L):iY (Fp.iT L):=by rw[Ky];exact h.take _
def oi(L:List Nat):Prop:=iT L=L
def Ao(L:List Nat):oi (iT L):=by
 unfold oi
 induction L with
 |nil=>rfl
 |cons x l ih=>
  simp only[iT];cases h:iT l with
  |nil=>by_cases hx:x=0<;>simp[hx,iT]
  |cons y m=>rw[h]at ih;simp only[iT]at ih ⊢;rw[ih]
def oi.nil:oi []:=rfl
def BT(L:List Nat):oi L↔∀ h:0<L.length,L[L.length-1]≠0:=by
 rcases amU L with rfl|⟨l,x,rfl⟩
 .simp [oi,iT]
 .simp only[amV,cg,dm,fh,List.getElem_concat_length];constructor
  .intro h _ hx;subst hx;have:=congrArg List.length h;rw[Yv]at this;have h2:=pW l;unfold mT at h2;rw[cg]at this;simp at this;omega
  .intro h;exact Yu l x (h aC)
def PB(L:List Nat)(n:Nat)(hn:n<L.length)(h0:L[n]=0):mT (L.take (n+1))=mT (L.take n):=by
 unfold mT;rw[gl hn,h0,Yv]
def PA(L:List Nat)(n:Nat)(hn:n<L.length)(h0:L[n]≠0):mT (L.take (n+1))=n+1:=by
 unfold mT;rw[gl hn,Yu _ _ h0];simp;omega
def oi.Ly{x:Nat}{l:List Nat}(h:oi (x::l)):oi l:=by
 rw[BT]at h ⊢;intro hl;have:=h aH;simp only[dj,fh]at this;have e:(x::l)[l.length]'(aH)=l[l.length-1]:=by
  rw[List.getElem_cons];rw[dif_neg aC]
 rwa[e]at this
def oi.EV{L:List Nat}(h:oi L)(hl:L≠[]):0<val L:=by
 induction L with
 |nil=>exact absurd rfl hl
 |cons x l ih=>
  simp only[sI];by_cases qM:l=[]
  .subst qM;have:=(BT _).1 h aH;simp at this;simp;omega
  .have:=ih h.Ly qM;omega
def oi.ext{L M:List Nat}(hL:oi L)(hM:oi M)(kL:iY L)(kM:iY M)(h:val L=val M):L=M:=by
 induction L generalizing M with
 |nil=>
  by_cases hm:M=[]
  .exact hm.symm
  .have:=hM.EV hm;rw[<-h]at this;simp at this
 |cons x l ih=>
  cases M with
  |nil=>have:=hL.EV aH;rw[h]at this;simp at this
  |cons y m=>
   simp only[sI]at h;have h1:=kL.head;have h2:=kM.head;have e:x=y:= aC ;subst e;rw[ih hL.Ly hM.Ly kL.tail kM.tail aC]
def im(n:Nat):List Nat:=if n=0 then[]else n%4294967296::im (n/4294967296)
termination_by n
decreasing_by exact gP aC aE 
def px:im 0=[]:=by rw[im];rfl
def Ej{n:Nat}(h:n≠0):im n=n%4294967296::im (n/4294967296):=by rw[im,bu h]
def lh(n:Nat):val (im n)=n:=by
 induction n using Nat.strongRecOn with
 |_ n ih=>
  by_cases h:n=0
  .subst h;rw[px];rfl
  .rw [Ej h,sI,ih _ (gP aC aE)];exact fi n 4294967296
def nD(n:Nat):iY (im n):=by
 induction n using Nat.strongRecOn with
 |_ n ih=>
  by_cases h:n=0
  .subst h;rw[px];exact iY.nil
  .rw [Ej h];exact iY.cons (bS _ aE) (ih _ (gP aC aE))
def BU(n:Nat):oi (im n):=by
 induction n using Nat.strongRecOn with
 |_ n ih=>
  by_cases h:n=0
  .subst h;rw[px];exact oi.nil
  .rw [Ej h];have h1:=ih _ (gP aC (aE:1<4294967296));unfold oi at h1 ⊢;simp only[iT,h1];by_cases h2:n/4294967296=0
   .rw [h2,px];have:n%4294967296≠0:= aC ;simp[this]
   .rw [Ej h2]
def sG{L:List Nat}(h:iY L):iT L=im (val L):=
 oi.ext (Ao L) (BU _) h.iT (nD _) (by rw[qv,lh])
def oi.IJ{L:List Nat}(h:oi L)(k:iY L):L=im (val L):=by
 rw[<-sG k];exact h.symm
def U3{n:Nat}:im n=[]↔n=0:=by
 constructor
 .intro h;have:=lh n;rw[h]at this;exact this.symm
 .rintro rfl;exact px
def xA{n k:Nat}(h:n<4294967296^k):(im n).length<=k:=by
 induction k generalizing n with
 |zero=>simp at h;subst h;rw[px];simp
 |succ k ih=>
  by_cases h0:n=0
  .subst h0;rw[px];simp
  .rw [Ej h0,dj];have:n/4294967296<4294967296^k:=by
    rw[cS aE];rwa[bQ]at h
   have:=ih this;omega
def NQ{n k:Nat}(h:(im n).length<=k):n<4294967296^k:=by
 have h1:=oX (nD n);rw[lh]at h1;exact bX h1 (bY aE h)
def iD(n:Nat):Nat:=if n=0 then 0 else n.log2+1
def sM:iD 0=0:=rfl
def mJ{n k:Nat}:iD n<=k↔n<2^k:=by
 unfold iD;by_cases h:n=0
 .subst h;simp[bJ]
 .rw [bu h,<-Nat.log2_lt h];omega
def xB{n k:Nat}:k<iD n↔2^k<=n:=by
 have:=@mJ n k;omega
def y8{n k:Nat}(h1:2^k<=n)(h2:n<2^(k+1)):iD n=k+1:=by
 have a:=xB.2 h1;have b:=mJ.2 h2;omega
def sC(n:Nat):n<2^iD n:=mJ.1 (bD _)
def uO{n:Nat}(h:n≠0):2^(iD n-1)<=n:=by
 have:iD n-1<iD n:=by
  have:iD n≠0:=by unfold iD;simp[h]
  omega
 exact xB.1 this
def pn{n:Nat}(h:n≠0):0<iD n:=by unfold iD;simp[h]
def wY{m n:Nat}(h:m<=n):iD m<=iD n:=mJ.2 (cP h (sC n))
def sL{n:Nat}(h:n≠0)(k:Nat):iD (n*2^k)=iD n+k:=by
 have h1:=sC n;have h2:=uO h;have h3:=pn h;have e:iD n+k=(iD n-1+k)+1:= aC ;rw[e];apply y8
 .rw [bH];exact bW _ h2
 .rw [<-e,bH];exact dF h1 (bJ aE)
def uG(k:Nat):(4294967296:Nat)^k=2^(32*k):=by
 rw[Nat.pow_mul]
def aat{l:List Nat}{x:Nat}(h:iY (l++[x]))(hx:x≠0):iD (val (l++[x]))=32*l.length+iD x:=by
 rw[BV];simp only[sI,KE,dg,ch];have hl:val l<4294967296^l.length:=oX (λy hy=>h y (by simp[hy]));rw[uG]at hl ⊢;have h1:=sC x;have h2:=uO hx;have h3:=pn hx;have e:32*l.length+iD x=(32*l.length+(iD x-1))+1:= aC ;rw[e];apply y8
 .rw [bH];have:=cW (2^(32*l.length)) h2;omega
 .rw [<-e,bH];have:=cW (2^(32*l.length)) (show x+1<=2^iD x from h1);rw[b9]at this;omega
def lf(a b:Nat):Int:=if a<b then -1 else if b<a then 1 else 0
def KD{L M:List Nat}(kL:iY L)(hM:oi M)(h:L.length<M.length):val L<val M:=by
 rcases amU M with rfl|⟨m,x,rfl⟩
 .simp at h
 .simp only[amV,cg,dm]at h hM ⊢;have hx:x≠0:=by
   have:=(BT _).1 hM aH;simpa using this
  have h1:=oX kL;rw[BV];have h2:(4294967296:Nat)^L.length<=4294967296^m.length:=bY aE aC;have h3:(4294967296:Nat)^m.length*1<=4294967296^m.length*val [x]:=cW _ aN;omega
def alr{L M:List Nat}(kL:iY L)(i:Nat)(hi:i<L.length)(hlen:L.length=M.length)(aeM:L.drop (i+1)=M.drop (i+1))(iJ:L[i]<M[i]'(aC)):val L<val M:=by
 rw[EW L (i+1) aC,EW M (i+1) aC,aeM,Dj L i hi,Dj M i aC];have h1:=oX (kL.take i);rw[cF,dE aC]at h1;have h2:=cW (4294967296^i) (show L[i]+1<=M[i]'(aC)from iJ);rw[b9]at h2;omega
def alu(L:List Nat)(k:Nat)(h:iY L):val (L.drop k)=val L/2^(32*k):=by
 rw[Hp h,uG]
def qX(s:Nat):List Nat->List Nat
 | []=>[]
 |x::l=>((x+4294967296*l.getD 0 0)/2^s)%4294967296::qX s l
def Kl(s:Nat)(L:List Nat):(qX s L).length=L.length:=by
 induction L with
 |nil=>rfl
 |cons x l ih=>simp[qX,ih]
def XT(s:Nat)(L:List Nat)(i:Nat)(h:i<L.length):(qX s L)[i]? = some (((L[i]+4294967296*L.getD (i+1) 0)/2^s)%4294967296):=by
 induction L generalizing i with
 |nil=>simp at h
 |cons x l ih=>
  cases i with
  |zero=>simp[qX]
  |succ i=>
   simp only[dj]at h;simp only[qX,amW,ih i aC,ek];congr 1
def By(s:Nat)(L:List Nat):iY (qX s L):=by
 induction L with
 |nil=>exact iY.nil
 |cons x l ih=>exact iY.cons (bS _ aE) ih
def alv{L:List Nat}(h:iY L)(s:Nat)(hs:s<32):val (qX s L)=val L/2^s:=by
 induction L with
 |nil=>simp[qX]
 |cons x l ih=>
  have e:32=s+(32-s):= aC ;have e2:(4294967296:Nat)=2^s*2^(32-s):=by rw[<-bH,<-e]
  have hp:0<2^s:=bJ aE;have hx:=h.head;simp only[qX,sI,ih h.tail];generalize hv:val l=v;have hh:l.getD 0 0=v%4294967296:=by
   rw[<-hv];cases l with
   |nil=>simp
   |cons y m=>
    have:=h.tail.head;simp[sI];omega
  rw[hh];have f1:(x+4294967296*(v%4294967296))/2^s=x/2^s+2^(32-s)*(v%4294967296):=by
   rw[show x+4294967296*(v%4294967296)=x+2^s*(2^(32-s)*(v%4294967296))by rw[<-bN,<-e2],fH _ _ hp]
  have f2:(x+4294967296*v)/2^s=x/2^s+2^(32-s)*v:=by
   rw[show x+4294967296*v=x+2^s*(2^(32-s)*v)by rw[<-bN,<-e2],fH _ _ hp]
  rw[f1,f2];have qf:x/2^s<2^(32-s):=by
   rw[cS hp,bR,<-e2];exact hx
  generalize x/2^s=q at qf ⊢;have g1:(4294967296:Nat)=2^(32-s)*2^s:=by rw[bR];exact e2
  have g2:v=2^s*(v/2^s)+v%2^s:=(cV v (2^s)).symm;have g3:(q+2^(32-s)*(v%4294967296))%4294967296=q+2^(32-s)*(v%2^s):=by
   have k1:v%4294967296%2^s=v%2^s:=by
    rw[e2,Nat.mod_mul_right_mod]
   have k2:(v%4294967296)=2^s*(v%4294967296/2^s)+v%2^s:=by
    rw[<-k1];exact(cV _ _).symm
   conv=>lhs;rw[k2]
   rw[b9,<-bN,<-g1];rw[(aC:q+(4294967296*(v%4294967296/2^s)+2^(32-s)*(v%2^s))=(q+2^(32-s)*(v%2^s))+4294967296*(v%4294967296/2^s)),eK];apply cH;have:v%2^s+1<=2^s:=bS _ hp;have:=cW (2^(32-s)) this;rw[<-g1,b9]at this;omega
  rw[g3]
  conv=>rhs;rw[g2,b9,<-bN,<-g1]
  omega
def KF{L:List Nat}(h:iY L)(n:Nat):val (qX (n%32) (L.drop (n/32)))=val L/2^n:=by
 rw[alv (h.drop _) _ (bS _ aE),alu _ _ h,dL,<-bH];congr 2;omega
def XO{out a:List Nat}{i c s n0:Nat}(hi:i<a.length)(hlen:out.length=n0+i)
 (h:val out+4294967296^(n0+i)*c=val (a.take i)*2^s*4294967296^n0):
 val (out++[(a[i]*2^s+c)%4294967296])+4294967296^(n0+(i+1))*((a[i]*2^s+c)/4294967296)=val (a.take (i+1))*2^s*4294967296^n0:=by
 rw[BV,Dj a i hi,hlen];simp only[sI,KE,dg,ch];generalize hx:a[i]*2^s+c=x;have e:=fi x 4294967296;have p:4294967296^(n0+(i+1))=4294967296^(n0+i)*4294967296:=by rw[<-dt,bQ]
 rw[p,dt,bN (4294967296^(n0+i)),<-b9,e,<-hx,b9,<-dt,Nat.add_right_comm,h,cj,cj];congr 1;rw[bH]
 ac_rfl
def BW(b:List Nat)(i:Nat):val (b.take (i+1))=val (b.take i)+4294967296^i*b.getD i 0:=by
 by_cases hi:i<b.length
 .rw [Dj b i hi,bC,bG hi];rfl
 .rw [dk aC,dk aC,bC,cE aC];simp
def jX(n:Nat):Nat:=if n=0 then 0 else(Nat.gcd n (2^(Nat.log2 n+1))).log2
def LA{m:Nat}(hm:m%2=1)(k:Nat):jX (m*2^k)=k:=by
 have h0:m*2^k≠0:=dW aC (eP (bJ aE));unfold jX;rw[bu h0];have hk:k<=Nat.log2 (m*2^k):=by
  apply ck;intro h;have h1:m*2^k<2^k:=(Nat.log2_lt h0).1 aC;have:1*2^k<=m*2^k:=bW _ aC;omega
 obtain⟨j,hj⟩:∃ j,Nat.log2 (m*2^k)+1=j+k:=⟨Nat.log2 (m*2^k)+1-k,aC⟩
 rw[hj,bH,Nat.gcd_mul_right];have hg:Nat.gcd m (2^j)=1:=by
  have hc:Nat.Coprime m 2:=by
   unfold Nat.Coprime;rw[Nat.gcd_comm,Nat.gcd_rec,hm];rfl
  exact Nat.Coprime.pow_right j hc
 rw[hg,ct,Nat.log2_two_pow]
def LB{n:Nat}(h:n%2=1):jX n=0:=by have:=LA h 0;simpa using this
def ale{n:Nat}(h:n≠0):∃ m k,m%2=1/\n=m*2^k:=by
 induction n using Nat.strongRecOn with
 |_ n ih=>
  by_cases h2:n%2=1
  .exact ⟨n,0,h2,aH⟩
  .obtain ⟨m,k,hm,he⟩:=ih (n/2) aC aC ;exact⟨m,k+1,hm,by rw[bQ,<-bN,<-he];omega⟩
def Ro{n:Nat}(h:n≠0)(h2:n%2=0):jX n=jX (n/2)+1:=by
 obtain⟨m,k,hm,he⟩:=ale (n:=n/2) aC;have e:n=m*2^(k+1):=by rw[bQ,<-bN,<-he];omega
 rw[he,LA hm]
 conv=>lhs;rw[e]
 exact LA hm _
def B7{n:Nat}(h:n≠0):∃ m,m%2=1/\n=m*2^jX n:=by
 induction n using Nat.strongRecOn with
 |_ n ih=>
  by_cases h2:n%2=1
  .exact ⟨n,h2,by rw[LB h2];omega⟩
  .obtain ⟨m,hm,he⟩:=ih (n/2) aC aC ;refine⟨m,hm,?_⟩;rw[Ro h aC,bQ,<-bN,<-he];omega
def zf{m:Nat}(hm:m%2=1)(k:Nat):jX (m*2^k)=k:=by
 induction k with
 |zero=>rw[cT,cI,LB hm]
 |succ k ih=>
  have hp:0<m*2^k:=gn aC (bJ aE);have e:m*2^(k+1)=m*2^k*2:=by rw[bQ,bN]
  rw[e,Ro aC aC,ep _ aE,ih]
def GI{n:Nat}(h:n≠0):(n/2^jX n)%2=1:=by
 obtain⟨m,hm,he⟩:=B7 h;have:n/2^jX n=m:=by conv=>lhs;rw[he,zf hm];rw[ep _ (bJ aE)]
 rw[this];exact hm
def Fy{n:Nat}(h:n≠0):(n/2^jX n)*2^jX n=n:=by
 obtain⟨m,hm,he⟩:=B7 h;have:n/2^jX n=m:=by conv=>lhs;rw[he,zf hm];rw[ep _ (bJ aE)]
 rw[this];exact he.symm
def JY{n:Nat}(h:n≠0):2^jX n<=n:=by
 obtain⟨m,hm,he⟩:=B7 h
 conv=>rhs;rw[he]
 exact gQ _ aC 
def abO{x v:Nat}(hx:x≠0)(iJ:x<4294967296):jX (x+4294967296*v)=jX x:=by
 obtain⟨m,hm,he⟩:=B7 hx;have hk:jX x<32:=by
  have h1:=JY hx;rcases gp (jX x) 32 with h|h
  .exact h
  .have:=bY (n:=2) aE h;have e:(2:Nat)^32=4294967296:= aE ;omega
 have e:x+4294967296*v=(m+2^(32-jX x)*v)*2^jX x:=by
  rw[cj,<-he,gR,<-bH,gS aC]
 conv=>lhs;rw[e]
 apply zf;have:2^(32-jX x)=2*2^(31-jX x):=by rw[(aC:32-jX x=(31-jX x)+1),bQ,bR]
 rw[this,bN,eK];exact hm
def abP{v:Nat}(hv:v≠0)(k:Nat):jX (2^k*v)=k+jX v:=by
 obtain⟨m,hm,he⟩:=B7 hv
 conv=>lhs;rw[he,<-bN,bR (2^k),bN,<-bH]
 exact zf hm _
def Hq{L:List Nat}:val L=0↔∀ x,x ∈ L->x=0:=by
 induction L with
 |nil=>simp
 |cons x l ih=>
  simp only[sI,dw];constructor
  .intro h y hy;rcases hy with rfl|hy
   .omega
   .exact ih.1 aC y hy
  .intro h;have h1:=h x (.inl rfl);have h2:=ih.2 (λy hy=>h y (.inr hy));omega
def abQ{L:List Nat}(h:iY L)(i:Nat)(hi:i<L.length)(h0:∀ j,(hj:j<i)->L[j]=0)(hx:L[i]≠0):jX (val L)=32*i+jX L[i]:=by
 rw[EW L i aC];have:val (L.take i)=0:=by
  rw[Hq];intro y hy;obtain⟨j,hj,rfl⟩:=List.getElem_of_mem hy;rw[cF]at hj;rw[List.getElem_take];exact h0 j aC 
 rw[this,cD,uG,fI hi,sI];rw[abP aC,abO hx (h.get hi)]
def PJ{L:List Nat}{k x:Nat}(hk:k<L.length):val (L.set k x)+4294967296^k*L[k]=val L+4294967296^k*x:=by
 induction L generalizing k with
 |nil=>simp at hk
 |cons y l ih=>
  cases k with
  |zero=>simp;omega
  |succ k=>
   simp only[dj]at hk;have:=ih (k:=k) aC;simp only[List.set_cons_succ,sI,ek,bQ];have e1:(4294967296^k*4294967296*l[k])=4294967296*(4294967296^k*l[k]):=by ac_rfl
   have e2:(4294967296^k*4294967296*x)=4294967296*(4294967296^k*x):=by ac_rfl
   rw[e1,e2];omega
def iY.set{L:List Nat}(h:iY L)(k:Nat){x:Nat}(hx:x<4294967296):iY (L.set k x):=by
 intro y hy;rcases List.mem_or_eq_of_mem_set hy with hy|rfl
 .exact h _ hy
 .exact hx
structure Dy where
 neg:Bool
 m:Nat
 e:Int
def Dy.nM(d:Dy):Prop:=(d.m=0/\d.neg=false/\d.e=0)\/d.m%2=1
def canon(neg:Bool)(m:Nat)(e:Int):Dy:=if m=0 then⟨false,0,0⟩else⟨neg,m/2^jX m,e+jX m⟩
def tG(neg:Bool)(m:Nat)(e:Int):(canon neg m e).nM:=by
 unfold canon;split
 .exact .inl ⟨rfl,rfl,rfl⟩
 .rename_i h;exact .inr (GI h)
def Dy.nM.Iu{d:Dy}(h:d.nM):canon d.neg d.m d.e=d:=by
 obtain⟨s,m,e⟩:=d;rcases h with⟨h1,h2,h3⟩|h
 .simp only at h1 h2 h3;subst h1 h2 h3;rfl
 .simp only at h ⊢;unfold canon;rw[bu aC,LB h];simp
def oz(d:Dy):Prop:=d.m=0\/iD d.m<=4096 /\ -16384<=d.e/\d.e<=16384/\(iD d.m:Int)+d.e<=16384
instance (d:Dy):Decidable (oz d):=by unfold oz;infer_instance
structure Dy.iy(d:Dy):Prop where
 canon:d.nM
 range:oz d
def iS:Dy:=⟨false,0,0⟩
def sk:iS.iy:=⟨.inl ⟨rfl,rfl,rfl⟩,.inl rfl⟩
def Dy.jG(d:Dy):Int:=if d.m=0 then 0 else if d.neg then -1 else 1
def Dy.iI(d:Dy):Int:=if d.m=0 then 0 else iD d.m+d.e
def Dy.kA(d:Dy)(e:Int):Nat:=d.m*2^(d.e-e).toNat
def Dy.num(d:Dy)(e:Int):Int:=if d.neg then -(d.kA e:Int)else d.kA e
def jE(a b:Dy):Int:=
 if a.num (min a.e b.e)<b.num (min a.e b.e)then -1 else if b.num (min a.e b.e)<a.num (min a.e b.e)then 1 else 0
def zW{d:Dy}(h:d.m≠0)(e:Int):0<d.kA e:=gn aC (bJ aE)
def Vj{d:Dy}(h:d.m=0)(e:Int):d.kA e=0:=by unfold Dy.kA;rw[h,c9]
def QO{d:Dy}(h:d.m≠0){e:Int}(he:e<=d.e):(iD (d.kA e):Int)=iD d.m+d.e-e:=by
 unfold Dy.kA;rw[sL h];omega
def Vi{a b:Dy}(ha:a.m≠0)(hb:b.m≠0){e:Int}(h1:e<=a.e)(h2:e<=b.e)(h:a.iI<b.iI):a.kA e<b.kA e:=by
 have k1:=QO ha h1;have k2:=QO hb h2;unfold Dy.iI at h;rw[bu ha,bu hb]at h;rcases gp (a.kA e) (b.kA e)with h'|h'
 .exact h'
 .have:=wY h';omega
def tH(a b:Dy):Int:=lf (a.kA (min a.e b.e)) (b.kA (min a.e b.e))
def abI{a b:Dy}(ha:a.m≠0)(hb:b.m≠0)(h:a.iI<b.iI):tH a b = -1:=by
 unfold tH lf;rw[bw (Vi ha hb (Int.min_le_left _ _) (Int.min_le_right _ _) h)]
def abH{a b:Dy}(ha:a.m≠0)(hb:b.m≠0)(h:b.iI<a.iI):tH a b=1:=by
 have:=Vi hb ha (Int.min_le_right a.e b.e) (Int.min_le_left _ _) h;unfold tH lf;rw[bu aC,bw this]
def Hd(d:Dy):(d.m=0/\d.jG=0)\/(d.m≠0/\d.neg=true/\d.jG = -1)\/(d.m≠0/\d.neg=false/\d.jG=1):=by
 unfold Dy.jG;by_cases h:d.m=0
 .exact .inl ⟨h,bw h⟩
 .cases hn:d.neg
  .exact .inr (.inr ⟨h,rfl,by simp[h]⟩)
  .exact .inr (.inl ⟨h,rfl,by simp[h]⟩)
def V5{d:Dy}(e:Int):(d.jG=0->d.num e=0)/\(d.jG = -1->d.num e<0/\d.num e = -(d.kA e))/\(d.jG=1->0<d.num e/\d.num e=d.kA e):=by
 unfold Dy.num;rcases Hd d with⟨h1,h2⟩|⟨h1,h2,h3⟩|⟨h1,h2,h3⟩
 .rw [h2,Vj h1];simp
 .have:=zW h1 e;rw[h3,h2];simp;omega
 .have:=zW h1 e;rw[h3,h2];simp;omega
def Ri(a b:Dy):jE a b=if a.jG<b.jG then -1 else if b.jG<a.jG then 1 else if a.jG=0 then 0 else a.jG*tH a b:=by
 unfold jE tH lf;generalize min a.e b.e=e;obtain⟨p1,p2,p3⟩:=V5 (d:=a) e;obtain⟨q1,q2,q3⟩:=V5 (d:=b) e;generalize a.num e=x at *
 generalize b.num e=y at *
 generalize a.kA e=x' at *
 generalize b.kA e=y' at *
 have ha:a.jG=0\/a.jG = -1\/a.jG=1:=by rcases Hd a with⟨_,h⟩|⟨_,_,h⟩|⟨_,_,h⟩<;>simp[h]
 have hb:b.jG=0\/b.jG = -1\/b.jG=1:=by rcases Hd b with⟨_,h⟩|⟨_,_,h⟩|⟨_,_,h⟩<;>simp[h]
 generalize a.jG=s at *
 generalize b.jG=t at *
 rcases ha with rfl|rfl|rfl<;>rcases hb with rfl|rfl|rfl<;>simp at p1 p2 p3 q1 q2 q3<;>(repeat' split)<;>omega
def kH(z:Int)(e:Int):Dy:=canon (decide (z<0)) z.natAbs e
def iG(a b:Dy):Dy:=
 if a.m=0 then b else if b.m=0 then a else kH (a.num (min a.e b.e)+b.num (min a.e b.e)) (min a.e b.e)
def iK(d:Dy):Dy:=⟨!d.neg&&decide (d.m≠0),d.m,d.e⟩
def Od{d:Dy}(h:d.nM):(iK d).nM:=by
 rcases h with⟨h1,h2,h3⟩|h
 .exact .inl ⟨h1,by simp[iK,h1],h3⟩
 .exact .inr h
def vN{d:Dy}(h:d.iy):(iK d).iy:=⟨Od h.canon,h.range⟩
def ag2(d:Dy)(e:Int)(hd:d.m≠0):(iK d).num e = -(d.num e):=by
 unfold Dy.num iK Dy.kA;cases d.neg<;>simp[hd]
def aj8{out:List Nat}{n c P Q:Nat}(ho:iY out)(hlen:out.length=n)(h:val out+Q=P+4294967296^n*c)(hle:Q<=P):c=0/\val out=P-Q:=by
 have h1:=oX ho;rw[hlen]at h1;rcases c with _|c
 .exact ⟨rfl,aC⟩
 .exfalso;have:4294967296^n*1<=4294967296^n*(c+1):=cW _ aC;omega
def aap{L:List Nat}(h:iY L)(k:Nat)(hk:k/32<L.length):val L/2^k%2=L[k/32]/2^(k%32)%2:=by
 have e:k=32*(k/32)+k%32:= aC 
 conv=>lhs;rw[e,bH,<-dL,<-uG,<-Hp h,fI hk,sI]
 have hs:k%32<32:=bS _ aE;have e2:(4294967296:Nat)=2^(k%32)*(2*2^(31-k%32)):=by
  rw[<-Nat.pow_succ',<-bH,(aC:k%32+(31-k%32).succ=32)]
 conv=>lhs;rw[e2,bN,fH _ _ (bJ aE),bN,eK]
def aao{n k:Nat}(h:n≠0)(hk:k<jX n):n/2^k%2=0:=by
 obtain⟨m,hm,he⟩:=B7 h;generalize jX n=c at *
 rw[he,(aC:c=k+(c-k)),bH,<-bN,gR,ep _ (bJ aE),(aC:c-k=(c-k-1)+1),bQ,<-bN,gT]
def aan{n:Nat}(h:n≠0):n/2^jX n%2=1:=GI h
def Fo{L:List Nat}(h:iY L)(h0:val L≠0):jX (val L)/32<L.length:=by
 have h1:=JY h0;have h2:=oX h;rw[uG]at h2;have h3:2^jX (val L)<2^(32*L.length):=cP h1 h2;have:=(Nat.pow_lt_pow_iff_right (aE:1<2)).1 h3;omega
end Go.Proofs.YtgdahmmlddfimaaGreatDoor.Fp
namespace Go.Proofs.YtgdahmmlddfimaaGreatDoor
open Go.RowKit Fp
structure Sl(w:World)(A:Option Addr)(c:Nat)(L:List Nat):Prop where
 cap:L.length<=c
 rH:c<=9223372036854775807
 ok:iY L
 yM:A=none->c=0
 cell:∀ (i x:Nat),L[i]? = some x->∃ b o,A=some ⟨b,o,none⟩/\b<w.heap.size/\w.cell? ⟨b,o+i,none⟩=some (.int .u32 (x:Int))
def aaw(a:Addr)(n:Nat):(a.add n).block=a.block:=by unfold Addr.add;split<;>rfl
section
variable {w w':World} {A:Option Addr} {c:Nat} {L:List Nat}
def Sl.nc(h:Sl w A c L){i:Nat}(hi:i<L.length):∃ b o,A=some ⟨b,o,none⟩/\b<w.heap.size/\w.cell? ⟨b,o+i,none⟩=some (.int .u32 (L[i]:Int)):=
 h.cell i _ (bG hi)
def Sl.nil(w:World):Sl w none 0 []:=⟨bD _,aE,iY.nil,λ_=>rfl,λi x h=>by simp at h⟩
def Sl.below(h:Sl w A c L)(hb:Below w.heap.size w w'):Sl w' A c L:=
 ⟨h.cap,h.rH,h.ok,h.yM,λi x hx=>by
  obtain⟨b,o,e,h1,h2⟩:=h.cell i x hx;exact⟨b,o,e,bX h1 hb.size,(hb.cell h1).trans h2⟩⟩
def Sl.alloc(h:Sl w A c L)(o:Obj):Sl (w.alloc o) A c L:=h.below ((Below.refl _ _).alloc (bD _) _)
def Sl.drew(h:Sl w A c L):Sl w.drew A c L:=h.below ((Below.refl _ _).drew)
def Sl.take(h:Sl w A c L)(n:Nat):Sl w A c (L.take n):=
 ⟨by have:=h.cap;rw[cF];omega,h.rH,h.ok.take n,h.yM,λi x hx=>h.cell i x (by
  rw[dM]at hx;split at hx
  .exact hx
  .cases hx)⟩
def Sl.len(h:Sl w A c L):L.length<=9223372036854775807:=bI h.cap h.rH
def Sl.eqv{L':List Nat}(h:Sl w A c L)(e:L=L'):Sl w A c L':=e▸h
end
def B2(b o i:Nat):(⟨b,o,none⟩:Addr).add i=⟨b,o+i,none⟩:=by
 unfold Addr.add;split
 .rename_i h0;rw[h0];rfl
 .simp
abbrev ja(w w':World):Prop:=Below w.heap.size w w'
def ja.trans{a b c:World}(h:ja a b)(k:ja b c):ja a c:=Below.trans h (k.mono h.size)
def ja.alloc(w:World)(o:Obj):ja w (w.alloc o):=(Below.refl _ _).alloc (bD _) _
def ja.drew(w:World):ja w w.drew:=(Below.refl _ _).drew
def ja.refl(w:World):ja w w:=Below.refl _ _
def Kd{A:Option Addr}{n m c:Nat}(h:n=m):Ending.returned (.slice A n c) = .returned (.slice A m c):=by rw[h]
def pJ{k:IntKind}{a b:Int}(h:a=b):Ending.returned (.int k a) = .returned (.int k b):=by rw[h]
def Kb{a b:Bool}(h:a=b):Ending.returned (.bool a) = .returned (.bool b):=by rw[h]
def xR(w:World)(L:List Nat)(e:Ending)(w':World):Prop:=∃ A c,e = .returned (.slice A L.length c)/\Sl w' A c L/\ja w w'
def Dm(w:World)(L:List Nat)(n:Int)(e:Ending)(w':World):Prop:=∃ A c,e = .returned (.tuple #[.slice A L.length c,.int .i64 n])/\Sl w' A c L/\ja w w'
def Tb(w:World):Prop:=TabAt 0 Lib.deBruijn32tab w
def Tb.below{w w':World}(h:Tb w)(hb:ja w w'):Tb w':=λj hj=>by
 have h1:=h j hj;rw[hb.cell (block_lt_of_cell h1)];exact h1
def Tb.alloc{w:World}(h:Tb w)(o:Obj):Tb (w.alloc o):=h.below (ja.alloc _ _)
def aam(x:Nat)(h:x<4294967296):Lib.bitLen x=iD x:=by
 induction x using Nat.strongRecOn with
 |_ x ih=>
  by_cases h0:x=0
  .subst h0;rfl
  .rw [Lib.bitLen_half x h0 aC,ih (x/2) aC aC];by_cases h1:x/2=0
   .have:x=1:= aC ;subst this;rfl
   .have e1:=uO h1;have e2:=sC (x/2);have e3:=pn h1;generalize iD (x/2)=k at *
    obtain⟨j,rfl⟩:∃ j,k=j+1:=⟨k-1,aC⟩
    rw[fh]at e1;rw[Nat.add_comm];refine(y8 ?_ ?_).symm
    .rw [bQ];omega
    .rw [bQ];omega
def abR(x:Nat)(h0:x≠0)(h:x<4294967296):Lib.ctz 32 x=jX x:=by
 unfold Lib.ctz;rw[bu h0];obtain⟨m,hm,_⟩:=Lib.ctzFrom_spec 32 x aC h
 conv=>rhs;rw[hm,bR]
 exact(zf aC _).symm
def oM(L:List Nat):List Value:=L.map λ(n:Nat)=>Value.int .u32 (n:Int)
def alm{L:List Nat}{j:Nat}{u:Value}(h:(oM L)[j]? = some u):∃ n,L[j]? = some n/\u = .int .u32 (n:Int):=by
 unfold oM at h;rw[cG]at h;obtain⟨n,hn,rfl⟩:=b7.1 h;exact⟨n,hn,rfl⟩
def alk(L M:List Nat):oM (L++M)=oM L++oM M:=gq
def aln(L:List Nat):∀ u ∈ oM L,u.oneCell'=true:=by
 intro u hu;obtain⟨n,_,rfl⟩:=dG.1 hu;rfl
structure Ow(w:World)(base:Nat)(v:Value)(L:List Nat):Prop where
 row:w.ownsRow base 171 1 v L.length (oM L)
 ok:iY L
def Ow.sl{w:World}{base:Nat}{v:Value}{L:List Nat}(h:Ow w base v L):∃ A c,v = .slice A L.length c/\Sl w A c L:=by
 have hr:=h.row;rcases hr.2 with⟨rfl,h0⟩|⟨g,cap,cur,rfl,hb,hg,oJ,nS,mE,Gb⟩
 .have:L=[]:=dz h0;subst this;exact⟨none,0,rfl,Sl.nil w⟩
 .refine ⟨_,_,rfl,oJ,(by simpa[maxLen]using nS),h.ok,(λh=>by cases h),λi x hx=>⟨_,_,rfl,(du.1 hg).1,?_⟩⟩;have h:=hr.cells (g:=g) rfl i (.int .u32 (x:Int)) (by unfold oM;rw[cG,hx];rfl);rw[B2]at h;exact h
def Ow.nil(w:World)(base:Nat):Ow w base (.slice none 0 0) []:=⟨World.ownsRow_nil w base _ _,iY.nil⟩
def Ow.alloc{w:World}{base:Nat}{v:Value}{L:List Nat}(h:Ow w base v L)(o:Obj):Ow (w.alloc o) base v L:=⟨h.row.alloc o,h.ok⟩
def Ow.empty(w:World)(base:Nat)(hb:base<=w.heap.size):Ow (w.alloc (.cells #[] 171)) base (.slice (some ⟨w.heap.size,0,none⟩) 0 0) []:=
 ⟨World.ownsRow_made w #[] 0 hb aE rfl,iY.nil⟩
def xz{w:World}{n:Nat}(h:n<=w.heap.size)(o:Obj):n<=(w.alloc o).heap.size:= aN 
def Sl.one(w:World)(x:Nat)(hx:x<4294967296):Sl (w.alloc (.cells #[.int .u32 x] 171)) (some ⟨w.heap.size,0,none⟩) 1 [x]:=
 ⟨bD _,aE,iY.cons hx iY.nil,(λh=>by cases h),λi y hy=>by
  obtain⟨h1,h2⟩:=cw.1 hy;obtain rfl:i=0:=by simp at h1;omega
  simp at h2;subst h2;refine⟨_,_,rfl,aH,?_⟩;exact World.cell?_alloc_at _ _ _ _ rfl⟩
def Sl.Ep(w:World)(y:Int)(x:Nat)(e:y=(x:Int))(hx:x<4294967296):Sl (w.alloc (.cells #[.int .u32 y] 171)) (some ⟨w.heap.size,0,none⟩) 1 [x]:=by
 subst e;exact Sl.one w x hx
def Nw:(prog.info? 171).map (λi=>(i.zero,i.size,i.bytes))=some (some (.int .u32 0),1,4):= aF 
def At{il:Array Oper}{rest:List Oper}{o:Oper}{a:Act}{Q:Exit->Act->World->Prop}{w:World}(pN:o.guard=none)(s x:Operand)
 (ho:o.op = .call { callee:=.builtin .append,args:=#[s,x],argTypes:=#[29,29] })
 (base:Nat) (v:Value) (L:List Nat) (hs:a.eval s=v) (lO:Ow w base v L)
 (A:Option Addr) (m c:Nat) (M:List Nat) (hx:a.eval x = .slice A m c) (hm:m=M.length) (hr:Sl w A c M)
 (mQ:L.length+M.length<=10000000000) (aei:base<=w.heap.size)
 (h:∀ v' w',Ow w' base v' (L++M)->w.grownBy w' v.ownBlock->(v'.ownBlock=v.ownBlock\/v'.ownBlock=some w.heap.size)->wpList prog il Q rest (a.put o.dst v') w'):
 wpList prog il Q (o::rest) a w:=by
 obtain⟨i,hi,hz,h1,h2⟩:=info_parts Nw;subst hm;rcases A with _|ad
 .have hc:=hr.yM rfl;subst hc;have hM:M=[]:=dz (by have:=hr.cap;omega);subst hM;refine wpList_append_own_none pN s x _ ho base _ i 1 underlying29 hi v _ _ hs lO.row hx ?_;have:=h v w (by rw[gr];exact lO) ⟨rfl,rfl,rfl,bD _,λ_ _ _=>rfl⟩ (.inl rfl);exact this
 .refine wpList_append_own_at w pN s x _ ho base _ i _ 1 4 underlying29 hi hz h1 h2 rfl aE v L.length (oM L) hs lO.row ad M.length c (oM M) hx (by simp[oM]) ?_ (aln M)
   (by simp only[maxLen];omega) aC aei ?_
  .intro j u hu;obtain⟨n,hn,rfl⟩:=alm hu;obtain⟨b,o,e,_,hc⟩:=hr.cell j n hn;cases e;rw[B2];exact hc
  .intro v' w' aeG hg _ sT;exact h v' w' ⟨by rw[cg,alk];exact aeG,lO.ok.append hr.ok⟩ hg sT
def Rw(w:World)(b:Nat)(L:List Nat):Prop:=w.heap[b]? = some (.cells (oM L).toArray 171 (0,0))
section
variable {w w':World} {b:Nat} {L:List Nat}
def Rw.lt(h:Rw w b L):b<w.heap.size:=(du.1 h).1
def Rw.cell(h:Rw w b L){i x:Nat}(hx:L[i]? = some x):w.cell? ⟨b,i,none⟩=some (.int .u32 (x:Int)):=by
 unfold Rw at h;simp only[World.cell?,h];simp[oM,hx]
def Rw.frozen(h:Rw w b L)(i:Nat):w.frozen? ⟨b,i,none⟩=false:=by
 unfold Rw at h;simp[World.frozen?,h]
def Rw.set(h:Rw w b L)(i x:Nat):Rw (w.setCell ⟨b,i,none⟩ (.int .u32 (x:Int))) b (L.set i x):=by
 unfold Rw at h ⊢;simp only[World.setCell,fJ,h];simp[oM,List.map_set]
def Rw.sl(h:Rw w b L)(hk:iY L)(hl:L.length<=10000000000):Sl w (some ⟨b,0,none⟩) L.length L:=
 ⟨bD _,aC,hk,(λh=>by cases h),λi x hx=>⟨_,_,rfl,h.lt,by
  rw[cD];exact h.cell hx⟩⟩
def Rw.Bq(w:World)(n:Nat):Rw (w.alloc (.cells (oM (List.replicate n 0)).toArray 171)) w.heap.size (List.replicate n 0):=heap_alloc_new w _
end
def Zm(b i:Nat):(⟨b,0,none⟩:Addr).add i=⟨b,i,none⟩:=by
 unfold Addr.add;split
 .rename_i h0;rw[h0]
 .simp
def Gt(n:Nat)(hn:n<=10000000000)(w:World):
 (Instr.makeSlice 29 (.int .i64 (n:Int)) (.int .i64 (n:Int))).run prog w = .ok (.slice (some ⟨w.heap.size,0,none⟩) n n) (w.alloc (.cells (oM (List.replicate n 0)).toArray 171)):=by
 obtain⟨i,hi,hz,h1,h2⟩:=info_parts Nw;have hr:=run_make (P:=prog) w 29 171 i _ underlying29 hi hz .i64 .i64 n n aC aC (by rw[h2];omega) aC;rw[hr,gv,h1,cI];refine congrArg (λcs=>Result.ok (Value.slice (some ⟨w.heap.size,0,none⟩) n n) (w.alloc (.cells cs 171))) ?_;apply Array.ext
 .simp [madeCells,oM]
 .intro i h1 h2;simp[madeCells,oM,Value.cells,dX]
def yZ(w:World)(d:Dy)(e:Ending)(w':World):Prop:=
 ∃ A c,e = .returned (.agg #[.bool d.neg,.slice A (im d.m).length c,.int .i64 d.e])/\Sl w' A c (im d.m)/\ja w w'
def y3(w:World)(d:Dy)(n:Int)(e:Ending)(w':World):Prop:=
 ∃ A c,e = .returned (.tuple #[.agg #[.bool d.neg,.slice A (im d.m).length c,.int .i64 d.e],.int .i64 n])/\Sl w' A c (im d.m)/\ja w w'
def yX(w:World)(g:Nat):Prop:=∀ o x,w.cell? ⟨g,o,none⟩≠some (.int .u32 x)
def Sl.Cd{w:World}{A:Option Addr}{c:Nat}{L:List Nat}(h:Sl w A c L){g i:Nat}(hg:yX w g)(u:Value):Sl (w.setCell ⟨g,i,none⟩ u) A c L:=
 ⟨h.cap,h.rH,h.ok,h.yM,λj x hx=>by
  obtain⟨b,o,e,h1,h2⟩:=h.cell j x hx;refine⟨b,o,e,by simpa[World.setCell]using h1,?_⟩;rw[World.cell?_setCell_other w _ _ u]
  .exact h2
  .intro e';simp only[Addr.mk.injEq]at e';exact hg (o+j) x (by rw[e'.1];exact h2)⟩
def yX.Eo{w:World}{g:Nat}{cs:Array Value}{t:TypeId}{fr:Nat×Nat}(h:w.heap[g]? = some (.cells cs t fr))(hc:∀ (i:Nat) (x:Int),cs[i]? ≠ some (.int .u32 x)):yX w g:=λo x e=>by
 simp only[World.cell?,h]at e;simp at e;exact hc o x (by simpa using e)
def jV(w:World)(g:Nat)(s:Bool)(A:Option Addr)(n c:Nat)(e:Int):Prop:=w.heap[g]? = some (.cells #[.bool s,.slice A n c,.int .i64 e] 31 (0,0))
section
variable {w w':World} {g n c:Nat} {s:Bool} {A:Option Addr} {e:Int}
def jV.new(W:World)(s:Bool)(A:Option Addr)(n c:Nat)(e:Int):jV (W.alloc (.cells #[.bool s,.slice A n c,.int .i64 e] 31)) W.heap.size s A n c e:=heap_alloc_new W _
def jV.yL{W:World}{g:Nat}(hg:W.heap.size=g)(s:Bool)(A:Option Addr)(n c:Nat)(e:Int):jV (W.alloc (.cells #[.bool s,.slice A n c,.int .i64 e] 31)) g s A n c e:=hg▸heap_alloc_new W _
def jV.lt(h:jV w g s A n c e):g<w.heap.size:=(du.1 h).1
def jV.ext(h:jV w g s A n c e)(hb:ja w w'):jV w' g s A n c e:=(hb.block g h.lt).trans h
def jV.alloc(h:jV w g s A n c e)(o:Obj):jV (w.alloc o) g s A n c e:=h.ext (ja.alloc _ _)
def jV.drew(h:jV w g s A n c e):jV w.drew g s A n c e:=h
def jV.mS(h:jV w g s A n c e):yX w g:=yX.Eo h (λi x=>by rcases i with _|_|_|i<;>simp)
def jV.c0(h:jV w g s A n c e):w.cell? ⟨g,0,none⟩=some (.bool s):=by unfold jV at h;simp[World.cell?,h]
def jV.c1(h:jV w g s A n c e):w.cell? ⟨g,1,none⟩=some (.slice A n c):=by unfold jV at h;simp[World.cell?,h]
def jV.c2(h:jV w g s A n c e):w.cell? ⟨g,2,none⟩=some (.int .i64 e):=by unfold jV at h;simp[World.cell?,h]
def jV.fr(h:jV w g s A n c e)(i:Nat):w.frozen? ⟨g,i,none⟩=false:=by unfold jV at h;simp[World.frozen?,h]
def jV.set(h:jV w g s A n c e)(s':Bool)(A':Option Addr)(n' c':Nat)(e':Int):
 jV (((w.setCell ⟨g,0,none⟩ (.bool s')).setCell ⟨g,1,none⟩ (.slice A' n' c')).setCell ⟨g,2,none⟩ (.int .i64 e')) g s' A' n' c' e':=by
 have h1:=heap_setCell_same w g 0 _ _ (.bool s') h;have h2:=heap_setCell_same _ g 1 _ _ (.slice A' n' c') h1;have h3:=heap_setCell_same _ g 2 _ _ (.int .i64 e') h2;exact h3
def jV.vR{L:List Nat}{A':Option Addr}{c':Nat}(h:jV w g s A n c e)(hs:Sl w A' c' L)(s':Bool)(e':Int)(n' c2:Nat)(A2:Option Addr):
 Sl (((w.setCell ⟨g,0,none⟩ (.bool s')).setCell ⟨g,1,none⟩ (.slice A2 n' c2)).setCell ⟨g,2,none⟩ (.int .i64 e')) A' c' L:=by
 have h1:=heap_setCell_same w g 0 _ _ (.bool s') h;have h2:=heap_setCell_same _ g 1 _ _ (.slice A2 n' c2) h1;have k1:yX (w.setCell ⟨g,0,none⟩ (.bool s')) g:=yX.Eo h1 (λi x=>by rcases i with _|_|_|i<;>simp);have k2:yX ((w.setCell ⟨g,0,none⟩ (.bool s')).setCell ⟨g,1,none⟩ (.slice A2 n' c2)) g:=yX.Eo h2 (λi x=>by rcases i with _|_|_|i<;>simp);exact((hs.Cd h.mS _).Cd k1 _).Cd k2 _
def jV.uK{w0:World}(hb:ja w0 w)(hg:w0.heap.size<=g)(s':Bool)(A':Option Addr)(n' c':Nat)(e':Int):
 ja w0 (((w.setCell ⟨g,0,none⟩ (.bool s')).setCell ⟨g,1,none⟩ (.slice A' n' c')).setCell ⟨g,2,none⟩ (.int .i64 e')):=
 ((hb.setCell hg _).setCell hg _).setCell hg _
end
def RP:(prog.info? 31).map (·.size)=some 3:= aF 
def aiA{fn:Func}{p:Tmp}(h:fn.results = #[.cell p 31])(tmps:Array Value){w:World}{g n c:Nat}{s:Bool}{A:Option Addr}{e:Int}
 (hp:tmps.getD p undef = .pointer (some ⟨g,0,none⟩)) (hb:jV w g s A n c e):
 (results fn tmps).run prog w = .ok (.agg #[.bool s,.slice A n c,.int .i64 e]) w:=
 results_cell_row h tmps w g _ _ _ _ hp hb underlying31 rfl RP
def aiB{fn:Func}{p t:Tmp}(h:fn.results = #[.cell p 31,.tmp t])(tmps:Array Value){w:World}{g n c:Nat}{s:Bool}{A:Option Addr}{e:Int}
 (hp:tmps.getD p undef = .pointer (some ⟨g,0,none⟩)) (hb:jV w g s A n c e):
 (results fn tmps).run prog w = .ok (.tuple #[.agg #[.bool s,.slice A n c,.int .i64 e],tmps.getD t undef]) w:=by
 have Bg:tmps[p]?.getD undef = .pointer (some ⟨g,0,none⟩):=by simpa using hp
 simp[results,h,Bg,asAddr,run_loadVar_row w g _ _ _ _ _ hb underlying31 rfl RP]
def zg{fn:Func}{p:Tmp}(h:fn.results = #[.cell p 31]){a:Act}{w W:World}{d:Dy}{g:Nat}{A:Option Addr}{c n:Nat}
 (hp:a.tmps.getD p undef = .pointer (some ⟨g,0,none⟩)) (hd:a.defers=[]) (hb:jV W g d.neg A n c d.e) (hn:n=(im d.m).length) (hs:Sl W A c (im d.m)) (he:ja w W):
 bodyPost prog fn (yZ w d) .ret a W:=by
 subst hn;exact bodyPost_ret (aiA h _ hp hb) hd ⟨A,c,rfl,hs,he⟩
def DH{fn:Func}{p t:Tmp}(h:fn.results = #[.cell p 31,.tmp t]){a:Act}{w W:World}{d:Dy}{k:Int}{g:Nat}{A:Option Addr}{c n:Nat}
 (hp:a.tmps.getD p undef = .pointer (some ⟨g,0,none⟩)) (ht:a.tmps.getD t undef = .int .i64 k) (hd:a.defers=[]) (hb:jV W g d.neg A n c d.e) (hn:n=(im d.m).length) (hs:Sl W A c (im d.m)) (he:ja w W):
 bodyPost prog fn (y3 w d k) .ret a W:=by
 subst hn;exact bodyPost_ret ((aiB h _ hp hb).trans (by rw[ht])) hd ⟨A,c,rfl,hs,he⟩
open Go.ChangeShapes Go.WideShapes Go.ChangeAt
def own:ownKnob prog.godebug=none:= aF 
def Eh:laidOutB prog=true:= aF 
def Sv:prog.globalNamed "math/bits.deBruijn32tab" = some 0:= aF 
def adh:(prog.globals[0]?).map (·.type)=some 256:= aF 
def abr:prog.cellsOf 256=32:= aF 
def abq:prog.cellsOf 5=1:= aF 
def abp:prog.cellsOf 171=1:= aF 
def akK {l:List (String×DataW Unit)} (hl:l=[("math/bits.deBruijn32tab", Rows.laid_math_bits_deBruijn32tab)]) {W:World} (h:laidMet prog l W):Tb W:=by
 subst hl;have ht:Lib.TabIs prog W "math/bits.deBruijn32tab" .u8 (Lib.deBruijn32tab.map λ(n:Nat)=>(n:Int)):=
  Lib.tabIs_of_head (rest:=[]) Sv adh underlying256 underlying5 abq abr h
 intro j hj;have:=ht.cell Sv j (by simpa using hj);rw[this];simp[bC];rw[bG hj];simp
def aeP{n:Int}(h:(Lit.int .i64 n).wf=true):-9223372036854775808<=n/\n<=9223372036854775807:=by
 have h1:IntKind.i64.min = -9223372036854775808:=rfl;have h2:IntKind.i64.max=9223372036854775807:=rfl;simp[Lit.wf,h1,h2]at h;omega
def ahf{H:Type}{enc:TypeId×Value->H}{W:World}{fuel:Nat}{c:Value}{x:DataW H×List MemPlace}
 (h:DataW.trod enc prog W 0 (λ_=>true) true fuel 29 [c]=some x) (_hlt:∀ p ∈ x.2,p.block<W.heap.size):
 ∃ A L cap,c = .slice A L.length cap/\Sl W A cap L:=by
 rcases open_ints underlying29 underlying171 abp h with⟨mE,hx⟩|⟨a,len,cap,zs,mE,_,hl,hm,hz,hx,kt,hwz⟩
 .simp at mE;exact⟨none,[],0,mE,Sl.nil W⟩
 .simp at mE;simp only[bL]at hz;refine⟨some a,(zs.take len).map Int.toNat,cap,?_,?_⟩
  .rw [mE,b6,cF,dE aC]
  .have TW:∀ n ∈ zs,0<=n/\n<4294967296:=λn hn=>by
    have:=hwz n hn;have h1:IntKind.u32.min=0:=rfl;have h2:IntKind.u32.max=4294967295:=rfl;simp[Lit.wf,h1,h2]at this;omega
   refine⟨by rw[b6,cF];omega,by simpa[maxLen]using hm,?_,(λh=>by cases h),?_⟩
   .intro y hy;obtain⟨z,yA,rfl⟩:=dG.1 hy;have:=TW z (ej yA);omega
   .intro i y hy;rw[cG]at hy;obtain⟨z,yA,rfl⟩:=b7.1 hy;rw[dM]at yA;split at yA
    .rename_i hi;have hc:=kt i aC;rw[bC,yA]at hc;obtain⟨b,off,spot⟩:=a;have hsp:spot=none:=by
      rcases spot with _|q
      .rfl
      .exfalso;have oO:=kt 0 aC;rw[show(⟨b,off,some q⟩:Addr).add 0=⟨b,off,some q⟩from rfl]at oO;unfold World.cell? at oO;split at oO<;>simp at oO
     subst hsp;refine⟨b,off,rfl,?_,?_⟩
     .have:=block_lt_of_cell hc;rwa[aaw]at this
     .rw [B2]at hc;rw[hc];have:=TW z (dY yA);simp;omega
    .cases yA
def U8{α:Type}{l:List α}(h:l.length=3):∃ a b c,l=[a,b,c]:=by
 match l,h with
 | [a,b,c],_=>exact⟨a,b,c,rfl⟩
def af0{α:Type}{l:List α}(h:l.length=7):∃ a b c d e f g,l=[a,b,c,d,e,f,g]:=by
 match l,h with
 | [a,b,c,d,e,f,g],_=>exact⟨a,b,c,d,e,f,g,rfl⟩
def ahd{H:Type}{enc:TypeId×Value->H}{W:World}{fuel:Nat}{cs:List Value}{x:DataW H×List MemPlace}
 (h:DataW.trod enc prog W 0 (λ_=>true) true fuel 31 cs=some x) (iJ:∀ p ∈ x.2,p.block<W.heap.size):
 ∃ s A L cap e,cs=[.bool s,.slice A L.length cap,.int .i64 e]/\Sl W A cap L/\(-9223372036854775808<=e/\e<=9223372036854775807):=by
 obtain⟨xs,n,rfl,rfl,hl,lQ,hf⟩:=DataW.trod_struct underlying31 h;have hC:prog.cellsOf 31=3:= aF ;have hB:prog.cellsOf 4=1:= aF ;have hS:prog.cellsOf 29=1:= aF ;have hI:prog.cellsOf 3=1:= aF ;rw[hC]at hl;obtain⟨a,b,c,rfl⟩:=U8 hl;have h0:=hf 0 _ rfl;have h1:=hf 1 _ rfl;have h2:=hf 2 _ rfl;simp only[fj,fk,ek]at h0 h1 h2;simp only[hB,hS,hI,fm,fo,eO,fp]at h0 h1 h2;rw[bG (by rw[lQ];decide)]at h0 h1 h2;obtain⟨s,hs,_⟩:=DataW.trod_bool underlying4 h0;obtain⟨A,L,cap,hc,sy⟩:=ahf h1 (λp hp=>iJ p (dH.2 ⟨_,cO _,hp⟩));obtain⟨e,he,_,hw⟩:=DataW.trod_int underlying3 h2;simp at hs he;subst hs he hc;exact⟨s,A,L,cap,e,rfl,sy,aeP hw⟩
noncomputable def NK(os:Os)(args:Array Value):World:=
 {World.holding prog os ⟨#[],args,[]⟩with heap:=(World.holding prog os ⟨#[],args,[]⟩).heap.modify 0 fun
   | .cells _ t frozen=>.cells (Lib.deBruijn32tab.map λ(n:Nat)=>Value.int .u8 (n:Int)).toArray t frozen
   |o=>o }
end Go.Proofs.YtgdahmmlddfimaaGreatDoor
namespace Go.Proofs.YtgdahmmlddfimaaGreatDoor.Pu
open Go.RowKit
inductive E where
 |any
 |v (x:Value)
 |agg (l:List E)
 |iE (l:List E)
 |sl (nl:Bool) (n sz:Nat) (el:Nat->Nat->E)
 |jC (m:Nat) (el:Nat->E)
 |fn (f:FuncId) (cap:List E)
 |mp (l:List (Int×FuncId×List FuncId))
 |nI (fl nl:Bool) (n sz:Nat) (el:Nat->Nat->E)
def qh:Value->Bool
 | .int .u32 _=>true
 |_=>false
def E.nr:Nat->E->Bool
 |_,.any=>true
 |_,.v _=>true
 |_,.sl ..=>true
 |_,.mp _=>true
 |d+1,.agg l=>l.all (E.nr d)
 |d+1,.iE l=>l.all (E.nr d)
 |d+1,.fn _ l=>l.all (E.nr d)
 |_,_=>false
def BZ(bs:Nat->Prop)(w:World):List (Int×FuncId×List FuncId)->List MapEntry->Prop
 | [],[]=>True
 |x::l,e::es=>(e.key = .int .i64 x.1/\∃ vs:List Value,e.val = .func (.func x.2.1) #[] vs.toArray/\vs.length=x.2.2.length /\
  ∀ (i:Nat) (g:FuncId) (v:Value),x.2.2[i]? = some g->vs[i]? = some v->∃ b,v = .pointer (some ⟨b,0,none⟩)/\¬bs b/\b<w.heap.size/\w.cell? ⟨b,0,none⟩=some (.func (.func g) #[] #[]))/\BZ bs w l es
 |_,_=>False
def BZ.mono{bs bs':Nat->Prop}{w w':World}(mQ:w.heap.size<=w'.heap.size)(h1:∀ b,b<w.heap.size->bs' b->bs b)(hc:∀ b,b<w.heap.size->¬bs b->w'.heap[b]? = w.heap[b]?):
 ∀ {l:List (Int×FuncId×List FuncId)} {es:List MapEntry},BZ bs w l es->BZ bs' w' l es
 | [],[],_=>trivial
 | [],_::_,h=>h
 |_::_,[],h=>h
 |_::_,_::_,⟨⟨k1,vs,k2,k3,k4⟩,h⟩=>⟨⟨k1,vs,k2,k3,λi g v hg hv=>by
  obtain⟨b,q1,q2,q3,q4⟩:=k4 i g v hg hv;exact⟨b,q1,λx=>q2 (h1 b q3 x),bX q3 mQ,by rw[World.cell?_of_block (w:=w) (hc b q3 q2)];exact q4⟩⟩,BZ.mono mQ h1 hc h⟩
inductive iO(bs br:Nat->Prop)(w:World):E->Value->Prop
 |any (x:Value):iO bs br w .any x
 |v (x:Value):iO bs br w (.v x) x
 |agg (l:List E) (vs:List Value) (h:vs.length=l.length) (k:∀ (i:Nat) (p:E) (x:Value),l[i]? = some p->vs[i]? = some x->iO bs br w p x):iO bs br w (.agg l) (.agg vs.toArray)
 |iE (l:List E) (vs:List Value) (h:vs.length=l.length) (k:∀ (i:Nat) (p:E) (x:Value),l[i]? = some p->vs[i]? = some x->iO bs br w p x):iO bs br w (.iE l) (.tuple vs.toArray)
 |sl (nl:Bool) (n sz:Nat) (el:Nat->Nat->E) (A:Option Addr) (c:Nat) (f:Nat->Nat->Value) (hc:n<=c) (hm:c<=9223372036854775807) (h0:A=none->c=0)
  (hl:∀ i j,i<n->j<sz->(f i j).oneCell'=true/\(nl=true->qh (f i j)=false))
  (hr:∀ i j,i<n->j<sz->(el i j).nr 2=true)
  (cell:∀ i j,i<n->j<sz->∃ b o,A=some ⟨b,o,none⟩/\¬bs b/\b<w.heap.size/\w.cell? ⟨b,o+(i*sz+j),none⟩=some (f i j))
  (k:∀ i j,i<n->j<sz->iO bs br w (el i j) (f i j)):iO bs br w (.sl nl n sz el) (.slice A n c)
 |jC (m:Nat) (el:Nat->E) (b o:Nat) (f:Nat->Value) (hb:¬br b) (iJ:b<w.heap.size) (hl:∀ j,j<m->(f j).oneCell'=true)
  (cell:∀ j,j<m->w.cell? ⟨b,o+j,none⟩=some (f j))
  (k:∀ j,j<m->iO bs br w (el j) (f j)):iO bs br w (.jC m el) (.pointer (some ⟨b,o,none⟩))
 |fn (f:FuncId) (l:List E) (vs:List Value) (h:vs.length=l.length) (k:∀ (i:Nat) (p:E) (x:Value),l[i]? = some p->vs[i]? = some x->iO bs br w p x):iO bs br w (.fn f l) (.func (.func f) #[] vs.toArray)
 |mp (l:List (Int×FuncId×List FuncId)) (b clk:Nat) (es:Array MapEntry) (hb:¬bs b) (iJ:b<w.heap.size) (hh:w.heap[b]? = some (.map es clk)) (ho:BZ bs w l es.toList):iO bs br w (.mp l) (.map (some b))
 |nI (fl nl:Bool) (n sz:Nat) (el:Nat->Nat->E) (A:Option Addr) (c:Nat) (f:Nat->Nat->Value) (hc:n<=c) (hm:c<=9223372036854775807) (h0:A=none->c=0)
  (hl:∀ i j,i<n->j<sz->(f i j).oneCell'=true/\(nl=true->qh (f i j)=false))
  (hr:fl=true->∀ i j,i<n->j<sz->(el i j).nr 2=true)
  (cell:∀ i j,i<n->j<sz->∃ b o,A=some ⟨b,o,none⟩/\¬br b/\b<w.heap.size/\w.cell? ⟨b,o+(i*sz+j),none⟩=some (f i j))
  (k:∀ i j,i<n->j<sz->iO bs br w (el i j) (f i j)):iO bs br w (.nI fl nl n sz el) (.slice A n c)
def iO.mono{bs br bs' br':Nat->Prop}{w w':World}(mQ:w.heap.size<=w'.heap.size)
 (h1:∀ b,b<w.heap.size->bs' b->bs b) (h2:∀ b,b<w.heap.size->br' b->br b)
 (hc:∀ b,b<w.heap.size->(¬bs b\/¬br b)->w'.heap[b]? = w.heap[b]?)
 {e:E} {v:Value} (h:iO bs br w e v):iO bs' br' w' e v:=by
 induction h with
 |any x=>exact .any x
 |v x=>exact .v x
 |agg l vs h k ih=>exact .agg l vs h ih
 |iE l vs h k ih=>exact .iE l vs h ih
 |sl nl n sz el A c f hn hm h0 hl hr cell k ih=>
  refine .sl nl n sz el A c f hn hm h0 hl hr (λi j hi hj=>?_) ih;obtain⟨b,o,e,hb,iJ,kt⟩:=cell i j hi hj;exact⟨b,o,e,λhx=>hb (h1 b iJ hx),bX iJ mQ,by rw[World.cell?_of_block (w:=w) (hc b iJ (.inl hb))];exact kt⟩
 |jC m el b o f hb iJ hl cell k ih=>
  exact .jC m el b o f (λhx=>hb (h2 b iJ hx)) (bX iJ mQ) hl (λj hj=>by rw[World.cell?_of_block (w:=w) (hc b iJ (.inr hb))];exact cell j hj) ih
 |fn f l vs h k ih=>exact .fn f l vs h ih
 |mp l b clk es hb iJ hh ho=>exact .mp l b clk es (λx=>hb (h1 b iJ x)) (bX iJ mQ) (by rw[hc b iJ (.inl hb)];exact hh) (ho.mono mQ h1 λb iJ hb=>hc b iJ (.inl hb))
 |nI fl nl n sz el A c f hn hm h0 hl hr cell k ih=>
  refine .nI fl nl n sz el A c f hn hm h0 hl hr (λi j hi hj=>?_) ih;obtain⟨b,o,e,hb,iJ,kt⟩:=cell i j hi hj;exact⟨b,o,e,λhx=>hb (h2 b iJ hx),bX iJ mQ,by rw[World.cell?_of_block (w:=w) (hc b iJ (.inr hb))];exact kt⟩
def iO.qw{bs br bs' br':Nat->Prop}{w:World}(h1:∀ b,bs' b->bs b)(h2:∀ b,br' b->br b){e:E}{v:Value}(h:iO bs br w e v):iO bs' br' w e v:=
 h.mono (bD _) (λb _=>h1 b) (λb _=>h2 b) (λ_ _ _=>rfl)
def E.plain:Nat->E->Bool
 |_,.any=>true
 |_,.v _=>true
 |d+1,.agg l=>l.all (E.plain d)
 |d+1,.iE l=>l.all (E.plain d)
 |_,_=>false
def iO.plain{bs br bs' br':Nat->Prop}{w w':World}{e:E}{v:Value}(h:iO bs br w e v):∀ d,e.plain d=true->iO bs' br' w' e v:=by
 induction h with
 |any x=>exact λ_ _=>.any x
 |v x=>exact λ_ _=>.v x
 |agg l vs h k ih=>
  intro d hd;cases d with
  |zero=>simp[E.plain]at hd
  |succ d=>
   simp only[E.plain,bT]at hd;exact .agg l vs h λi p x hp hx=>ih i p x hp hx d (hd p (dY hp))
 |iE l vs h k ih=>
  intro d hd;cases d with
  |zero=>simp[E.plain]at hd
  |succ d=>
   simp only[E.plain,bT]at hd;exact .iE l vs h λi p x hp hx=>ih i p x hp hx d (hd p (dY hp))
 |sl=>intro d hd;cases d<;>simp[E.plain]at hd
 |jC=>intro d hd;cases d<;>simp[E.plain]at hd
 |fn=>intro d hd;cases d<;>simp[E.plain]at hd
 |mp=>intro d hd;cases d<;>simp[E.plain]at hd
 |nI=>intro d hd;cases d<;>simp[E.plain]at hd
def iO.nr{bs br br':Nat->Prop}{w:World}{e:E}{v:Value}(h:iO bs br w e v):∀ d,e.nr d=true->iO bs br' w e v:=by
 induction h with
 |any x=>exact λ_ _=>.any x
 |v x=>exact λ_ _=>.v x
 |agg l vs h k ih=>
  intro d hd;cases d with
  |zero=>simp[E.nr]at hd
  |succ d=>
   simp only[E.nr,bT]at hd;exact .agg l vs h λi p x hp hx=>ih i p x hp hx d (hd p (dY hp))
 |iE l vs h k ih=>
  intro d hd;cases d with
  |zero=>simp[E.nr]at hd
  |succ d=>
   simp only[E.nr,bT]at hd;exact .iE l vs h λi p x hp hx=>ih i p x hp hx d (hd p (dY hp))
 |fn f l vs h k ih=>
  intro d hd;cases d with
  |zero=>simp[E.nr]at hd
  |succ d=>
   simp only[E.nr,bT]at hd;exact .fn f l vs h λi p x hp hx=>ih i p x hp hx d (hd p (dY hp))
 |jC=>intro d hd;cases d<;>simp[E.nr]at hd
 |nI=>intro d hd;cases d<;>simp[E.nr]at hd
 |mp l b clk es hb iJ hh ho=>exact λ_ _=>.mp l b clk es hb iJ hh ho
 |sl nl n sz el A c f hn hm h0 hl hr cell k ih=>
  exact λ_ _=>.sl nl n sz el A c f hn hm h0 hl hr cell λi j hi hj=>ih i j hi hj 2 (hr i j hi hj)
def E.one:E->Bool
 | .v x=>x.oneCell'
 | .sl ..=>true
 | .jC ..=>true
 | .fn ..=>true
 |_=>false
def E.mS:E->Bool
 | .v x=>!qh x
 | .sl ..=>true
 | .jC ..=>true
 | .fn ..=>true
 |_=>false
def iO.one{bs br:Nat->Prop}{w:World}{e:E}{v:Value}(h:iO bs br w e v)(h1:e.one=true):v.oneCell'=true:=by
 cases h<;>first|exact h1|rfl|(simp[E.one]at h1)
def iO.mS{bs br:Nat->Prop}{w:World}{e:E}{v:Value}(h:iO bs br w e v)(h1:e.mS=true):qh v=false:=by
 cases h with
 |v=>unfold E.mS at h1;cases hb:qh v<;>simp_all
 |any=>cases h1
 |agg=>cases h1
 |iE=>cases h1
 |sl=>rfl
 |jC=>rfl
 |fn=>rfl
 |mp=>cases h1
 |nI=>cases h1
structure ky(bs br:Nat->Prop)(w:World)(l:List E)(vs:List Value):Prop where
 len:vs.length=l.length
 kN:∀ (i:Nat) (p:E) (x:Value),l[i]? = some p->vs[i]? = some x->iO bs br w p x
def ky.nil(bs br:Nat->Prop)(w:World):ky bs br w [] []:=⟨rfl,λi p x h=>by simp at h⟩
def ky.cons{bs br:Nat->Prop}{w:World}{p:E}{x:Value}{l:List E}{vs:List Value}(h:iO bs br w p x)(k:ky bs br w l vs):ky bs br w (p::l) (x::vs):=
 ⟨by simp[k.len],λi q y hq hy=>by
  cases i with
  |zero=>simp at hq hy;subst hq hy;exact h
  |succ i=>simp at hq hy;exact k.kN i q y hq hy⟩
def ky.head{bs br:Nat->Prop}{w:World}{p:E}{x:Value}{l:List E}{vs:List Value}(h:ky bs br w (p::l) (x::vs)):iO bs br w p x:=h.kN 0 p x rfl rfl
def ky.tail{bs br:Nat->Prop}{w:World}{p:E}{x:Value}{l:List E}{vs:List Value}(h:ky bs br w (p::l) (x::vs)):ky bs br w l vs:=
 ⟨by have:=h.len;simpa using this,λi q y hq hy=>h.kN (i+1) q y (by simpa using hq) (by simpa using hy)⟩
def ky.nE{bs br:Nat->Prop}{w:World}{p:E}{l:List E}{vs:List Value}(h:ky bs br w (p::l) vs):∃ x ys,vs=x::ys/\iO bs br w p x/\ky bs br w l ys:=by
 cases vs with
 |nil=>have:=h.len;simp at this
 |cons x ys=>exact⟨x,ys,rfl,h.head,h.tail⟩
def ky.r6{bs br:Nat->Prop}{w:World}{vs:List Value}(h:ky bs br w [] vs):vs=[]:=dz h.len
def ky.mono{bs br bs' br':Nat->Prop}{w w':World}{l:List E}{vs:List Value}(h:ky bs br w l vs)(k:∀ e v,iO bs br w e v->iO bs' br' w' e v):ky bs' br' w' l vs:=
 ⟨h.len,λi p x hp hx=>k _ _ (h.kN i p x hp hx)⟩
def ky.take{bs br:Nat->Prop}{w:World}{l:List E}{vs:List Value}(h:ky bs br w l vs)(n:Nat):ky bs br w (l.take n) (vs.take n):=
 ⟨by simp[h.len],λi p x hp hx=>by
  rw[dM]at hp hx;split at hp
  .rename_i hi;rw[bw hi]at hx;exact h.kN i p x hp hx
  .cases hp⟩
def ky.drop{bs br:Nat->Prop}{w:World}{l:List E}{vs:List Value}(h:ky bs br w l vs)(n:Nat):ky bs br w (l.drop n) (vs.drop n):=
 ⟨by simp[h.len],λi p x hp hx=>by
  rw[dN]at hp hx;exact h.kN _ p x hp hx⟩
def ky.app{bs br:Nat->Prop}{w:World}{l m:List E}{vs us:List Value}(h:ky bs br w l vs)(k:ky bs br w m us):ky bs br w (l++m) (vs++us):=
 ⟨by simp[h.len,k.len],λi p x hp hx=>by
  rw[er]at hp hx;rw[h.len]at hx;split at hp
  .rename_i hi;rw[bw hi]at hx;exact h.kN i p x hp hx
  .rename_i hi;rw[bu hi]at hx;exact k.kN _ p x hp hx⟩
def ky.abM(bs br:Nat->Prop)(w:World)(vs:List Value):ky bs br w (vs.map .v) vs:=
 ⟨aH,λi p x hp hx=>by
  rw[cG,hx]at hp;simp at hp;subst hp;exact .v x⟩
def iO.Dt{bs br:Nat->Prop}{w:World}{l:List E}{v:Value}(h:iO bs br w (.agg l) v):∃ vs:List Value,v = .agg vs.toArray/\ky bs br w l vs:=by
 cases h with
 |agg _ vs h k=>exact⟨vs,rfl,h,k⟩
def iO.Yz{bs br:Nat->Prop}{w:World}{l:List E}{v:Value}(h:iO bs br w (.iE l) v):∃ vs:List Value,v = .tuple vs.toArray/\ky bs br w l vs:=by
 cases h with
 |iE _ vs h k=>exact⟨vs,rfl,h,k⟩
def iO.kG{bs br:Nat->Prop}{w:World}{x v:Value}(h:iO bs br w (.v x) v):v=x:=by cases h;rfl
def iO.Sn{bs br:Nat->Prop}{w:World}{f:FuncId}{l:List E}{v:Value}(h:iO bs br w (.fn f l) v):∃ vs:List Value,v = .func (.func f) #[] vs.toArray/\ky bs br w l vs:=by
 cases h with
 |fn _ _ vs h k=>exact⟨vs,rfl,h,k⟩
def ky.agg{bs br:Nat->Prop}{w:World}{l:List E}{vs:List Value}(h:ky bs br w l vs):iO bs br w (.agg l) (.agg vs.toArray):=.agg l vs h.len h.kN
def ky.iE{bs br:Nat->Prop}{w:World}{l:List E}{vs:List Value}(h:ky bs br w l vs):iO bs br w (.iE l) (.tuple vs.toArray):=.iE l vs h.len h.kN
def E.cells?:E->Option (List E)
 | .agg l=>if l.all E.one then some l else none
 | .v (.agg cs)=>if cs.toList.all Value.oneCell' then some (cs.toList.map .v)else none
 | .v x=>if x.oneCell' then some [.v x]else none
 | .sl nl n sz el=>some [.sl nl n sz el]
 | .jC m el=>some [.jC m el]
 | .fn f c=>some [.fn f c]
 |_=>none
def iO.cells{bs br:Nat->Prop}{w:World}{e:E}{v:Value}(h:iO bs br w e v){l:List E}(hl:e.cells? = some l):
 ky bs br w l v.cells.toList/\∀ u ∈ v.cells.toList,u.oneCell'=true:=by
 have single:∀ {e:E} {v:Value},iO bs br w e v->v.oneCell'=true->v.cells = #[v]->ky bs br w [e] v.cells.toList/\∀ u ∈ v.cells.toList,u.oneCell'=true:=by
  intro e v h h1 hc;rw[hc];exact⟨.cons h (.nil _ _ _),by simpa using h1⟩
 cases h with
 |any x=>simp[E.cells?]at hl
 |v=>
  by_cases ha:∃ cs,v = .agg cs
  .obtain ⟨cs,rfl⟩:=ha;simp only[E.cells?]at hl;split at hl
   .rename_i h1;cases hl;exact⟨ky.abM _ _ _ _,λu hu=>bT.1 h1 u hu⟩
   .cases hl
  .have hx:(E.v v).cells? = if v.oneCell' then some [.v v]else none:=by
    cases v<;>first|rfl|exact absurd ⟨_,rfl⟩ ha
   rw[hx]at hl;split at hl
   .rename_i h1;cases hl;exact single (.v v) h1 (by cases v<;>first|rfl|exact absurd ⟨_,rfl⟩ ha)
   .cases hl
 |agg l vs h k=>
  simp only[E.cells?]at hl;split at hl
  .rename_i h1;cases hl;refine⟨⟨h,k⟩,?_⟩;intro u hu;obtain⟨i,hi⟩:=dI.1 hu;have FX:i<l.length:=by
    obtain⟨hi,_⟩:=cw.1 hi;simp[Value.cells]at hi;omega
   exact(k i _ u (bG FX) (by simpa[Value.cells]using hi)).one (bT.1 h1 _ (cO FX))
  .cases hl
 |iE=>simp[E.cells?]at hl
 |mp=>simp[E.cells?]at hl
 |nI=>simp[E.cells?]at hl
 |sl nl n sz el A c f hc hm h0 qM hr cell k=>simp only[E.cells?]at hl;cases hl;exact single (.sl nl n sz el A c f hc hm h0 qM hr cell k) rfl rfl
 |jC m el b o f hb iJ qM cell k=>simp only[E.cells?]at hl;cases hl;exact single (.jC m el b o f hb iJ qM cell k) rfl rfl
 |fn f l' vs h k=>simp only[E.cells?]at hl;cases hl;exact single (.fn f l' vs h k) rfl rfl
structure TI where
 id:TypeId
 d:TypeDesc
 i:TypeInfo
def mB(P:Program)(T:List TI):Prop:=∀ x,x ∈ T->P.underlying x.id=some x.d/\P.info? x.id=some x.i
def mN:List TI->TypeId->Option TI
 | [],_=>none
 |x::l,t=>if Nat.beq x.id t then some x else mN l t
def w8(T:List TI)(t:TypeId):Option TypeDesc:=match mN T t with
 |some x=>some x.d
 |none=>none
def TI.isAgg(x:TI):Bool:=match x.d with
 | .struct _ | .array _ _=>true
 |_=>false
inductive CV where
 |e (x:E)
 |box (id:Nat)
 |row (id:Nat)
inductive PV where
 |e (x:E)
 |box (id off:Nat)
 |own (id:Nat)
 |nk (id sz i j:Nat)
 |iU (id k:Nat)
 |qS (id sz k i j:Nat)
 |qA (f:FuncId) (cap:List CV)
def CV.kW:CV->List Nat
 | .e _=>[]
 | .box id=>[id]
 | .row id=>[id]
def PV.kW:PV->List Nat
 | .e _=>[]
 | .box id _ | .own id | .nk id _ _ _ | .iU id _ | .qS id _ _ _ _=>[id]
 | .qA _ cap=>cap.flatMap CV.kW
inductive Bx where
 |cells (T:TypeId) (l:List E)
 |row (nl:Bool) (T:TypeId) (n sz:Nat) (el:Nat->Nat->E)
 |jU (nl:Bool) (T1 T0:TypeId) (n sz:Nat) (len:Nat->Nat) (el:Nat->Nat->Nat->E) (pend:Option Nat)
 |pD (nl:Bool) (T:TypeId) (l:List PV)
def Bx.J1:Bx->List PV
 | .pD _ _ l=>l
 |_=>[]
def Bx.kW(b:Bx):List Nat:=b.J1.flatMap PV.kW
def Bx.qT(g:PV->PV):Bx->Bx
 | .pD nl T l=>.pD nl T (l.map g)
 |b=>b
def Bx.nl:Bx->Bool
 | .cells _ l=>l.all E.mS
 | .row nl ..=>nl
 | .jU nl ..=>nl
 | .pD nl ..=>nl
structure PS where
 n:Nat
 nl:Bool
 t:List (Nat×PV)
 b:List (Nat×Bx)
def look{α:Type}:List (Nat×α)->Nat->Option α
 | [],_=>none
 | (k,x)::l,t=>if Nat.beq k t then some x else look l t
def PS.get(σ:PS)(t:Nat):PV:=(look σ.t t).getD (.e .any)
def PS.bo(σ:PS)(id:Nat):Option Bx:=look σ.b id
def PS.op(σ:PS):Operand->PV
 | .tmp t=>σ.get t
 | .const v=>.e (.v v)
 | .global g=>.e (.v (.pointer (some ⟨g,0,none⟩)))
 | .func f=>.e (.fn f [])
inductive mq where
 |none
 |new (id:Nat) (b:Bx)
 |rP (id:Nat) (b:Bx)
 |pE (id:Nat) (b:Bx)
 |sP (id:Nat) (b:Bx)
 |fin (id:Nat)
 |oK (id r:Nat) (b:Bx)
 |wP (id:Nat) (b:Bx)
structure kC where
 r:PV
 f:mq:=.none
 rb:List Nat:=[]
 jL:List Prop:=[]
 rd:List PV:=[]
 hb:Bool:=false
 ob:List Nat:=[]
def CV.Gl(id:Nat):CV->Bool
 | .row i=>Nat.beq i id
 |_=>false
def PV.kX:mq->PV->PV
 | .pE id _,.own i=>if Nat.beq i id then .e .any else .own i
 | .pE id _,.nk i s x j=>if Nat.beq i id then .e .any else .nk i s x j
 | .pE id _,.qA f cap=>if cap.any (CV.Gl id)then .e .any else .qA f cap
 | .sP id _,.iU i k=>if Nat.beq i id then .e .any else .iU i k
 | .sP id _,.qS i s k x j=>if Nat.beq i id then .e .any else .qS i s k x j
 | .fin id,p=>if p.kW.any (Nat.beq id)then .e .any else p
 | .wP id _,p=>if p.kW.any (Nat.beq id)then .e .any else p
 | .oK id r _,.box i off=>if Nat.beq i id then(if Nat.beq off 0 then .nk id 1 0 0 else .e .any)else if Nat.beq i r then .e .any else .box i off
 | .oK id r _,p=>if p.kW.any (λx=>Nat.beq id x||Nat.beq r x)then .e .any else p
 |_,p=>p
def uh(l:List (Nat×Bx))(id:Nat)(b:Bx):List (Nat×Bx):=(id,b)::l.filter λx=>!Nat.beq x.1 id
def mq.Lj:mq->List (Nat×Bx)->List (Nat×Bx)
 | .none,l=>l
 | .new id b,l | .rP id b,l | .pE id b,l | .sP id b,l | .wP id b,l=>uh l id b
 | .fin id,l=>l.filter λx=>!Nat.beq x.1 id
 | .oK id r b,l=>uh (l.filter λx=>!Nat.beq x.1 r) id b
def mq.vX:mq->Bool
 | .pE .. | .sP .. | .fin .. | .oK .. | .wP ..=>true
 |_=>false
def PS.pre(σ:PS)(f:mq):List (Nat×Bx):=if f.vX then σ.b.map λx=>(x.1,x.2.qT (PV.kX f))else σ.b
def PS.om(σ:PS)(f:mq):PS:={ σ with t:=if f.vX then σ.t.map λx=>(x.1,x.2.kX f)else σ.t,b:=f.Lj (σ.pre f) }
def PS.put(σ:PS)(d:Option Tmp)(p:PV):PS:=match d with
 |some d=>{ σ with t:=(d,p)::σ.t.filter λx=>!Nat.beq x.1 d }
 |none=>σ
def kB:IntKind->Int->Prop
 | .i8,z=>-128<=z/\z<=127
 | .i16,z=>-32768<=z/\z<=32767
 | .i32,z=>-2147483648<=z/\z<=2147483647
 | .i64,z=>-9223372036854775808<=z/\z<=9223372036854775807
 | .u8,z=>0<=z/\z<=255
 | .u16,z=>0<=z/\z<=65535
 | .u32,z=>0<=z/\z<=4294967295
 | .u64,z=>0<=z/\z<=18446744073709551615
def Xd(op:BinOp)(k k':IntKind):Bool:=match op with
 | .shl=>true
 | .shr=>true
 |_=>decide (k=k')
def K5(k:IntKind)(x y:Int):Int:=match k with
 | .u32=>IntKind.u32.wrap (x+y)
 |_=>x+y
def Qe(k:IntKind)(x y:Int):List Prop:=match k with
 | .u32=>[]
 |_=>[kB k (x+y)]
def LP(op:BinOp)(k:IntKind)(x:Int)(y:Int):Option (Value×List Prop):=match op with
 | .add=>some (.int k (K5 k x y),Qe k x y)
 | .sub=>some (.int k (x-y),[kB k (x-y)])
 | .mul=>some (.int k (x*y),[kB k (x*y)])
 | .quo=>some (.int k (x.tdiv y),[0<y,kB k x])
 | .rem=>some (.int k (x.tmod y),[0<y])
 | .and=>some (.int k (bits .and k x y),[])
 | .or=>some (.int k (bits .or k x y),[])
 | .shl=>some (.int k (k.wrap (x*2^y.toNat)),[0<=y/\y<=k.bits])
 | .shr=>some (.int k (x/2^y.toNat),[0<=y/\y<=k.bits])
 | .eql=>some (.bool (x==y),[])
 | .neq=>some (.bool (x != y),[])
 | .lss=>some (.bool (decide (x<y)),[])
 | .leq=>some (.bool (decide (x<=y)),[])
 | .gtr=>some (.bool (decide (y<x)),[])
 | .geq=>some (.bool (decide (y<=x)),[])
 |_=>none
def J0:List PV->Option (List E)
 | []=>some []
 | .e x::l=>(J0 l).map (x :: ·)
 |_::_=>none
def PS.read(σ:PS)(p:PV)(m:Nat):Option (List E×List Nat×List Prop):=match p with
 | .box id off=>match σ.bo id with
  |some (.cells _ l)=>if Nat.ble (off+m) l.length then some ((l.drop off).take m,[id],[])else none
  |some (.pD _ _ l)=>if Nat.ble (off+m) l.length then(J0 ((l.drop off).take m)).map λes=>(es,[id],[])else none
  |_=>none
 | .nk id sz i j=>match σ.bo id with
  |some (.row _ _ n s el)=>if Nat.beq s sz&&Nat.ble (j+m) sz then some ((List.range m).map λq=>el i (j+q),[id],[i<n])else none
  |_=>none
 | .qS id sz k i j=>match σ.bo id with
  |some (.jU _ _ _ n s len el _)=>if Nat.beq s sz&&Nat.ble (j+m) sz then some ((List.range m).map λq=>el k i (j+q),[id],[k<n,i<len k])else none
  |_=>none
 | .e (.jC k el)=>if Nat.ble m k then some ((List.range m).map el,[],[])else none
 |_=>none
def CV.ext(σ:PS):CV->Option (E×List Nat)
 | .e x=>some (x,[])
 | .box id=>match σ.bo id with
  |some (.cells _ l)=>some (.jC l.length λj=>l.getD j .any,[id])
  |_=>none
 | .row id=>match σ.bo id with
  |some (.jU nl _ _ n sz len el none)=>if Nat.beq n 1 then some (.jC 1 λ_=>.sl nl (len 0) sz (el 0),[id])else none
  |_=>none
def CV.Gk:CV->Bool
 | .row _=>true
 |_=>false
def uZ(σ:PS):List CV->Option (List E×List Nat)
 | []=>some ([],[])
 |c::l=>match c.ext σ,uZ σ l with
  |some (x,i),some (xs,is)=>some (x::xs,i++is)
  |_,_=>none
def PV.wF(σ:PS):PV->Bool
 | .own id=>match σ.bo id with
  |some (.jU ..)=>false
  |_=>true
 | .iU _ _=>true
 | .qA _ cap=>cap.any CV.Gk
 |_=>false
def PV.ext(σ:PS):PV->Option (E×List Nat)
 | .e x=>some (x,[])
 | .own id=>match σ.bo id with
  |some (.row nl _ n sz el)=>some (.sl nl n sz el,[id])
  |some (.jU nl _ _ n sz len el none)=>some (.nI false true n 1 λk _=>.nI true nl (len k) sz (el k),[id])
  |_=>none
 | .box id 0=>match σ.bo id with
  |some (.cells _ l)=>some (.jC l.length λj=>l.getD j .any,[id])
  |_=>none
 | .iU id k=>match σ.bo id with
  |some (.jU nl _ _ n sz len el none)=>if Nat.blt k n then some (.sl nl (len k) sz (el k),[id])else none
  |_=>none
 | .qA f cap=>match uZ σ cap with
  |some (xs,is)=>some (.fn f xs,is)
  |none=>none
 |_=>none
def ui(σ:PS):List Operand->Option (List E×List Nat)
 | []=>some ([],[])
 |o::l=>match(σ.op o).ext σ,ui σ l with
  |some (x,i),some (xs,is)=>some (x::xs,i++is)
  |_,_=>none
def w7:List PV->Option (List CV)
 | []=>some []
 | .e x::l=>(w7 l).map (.e x :: ·)
 | .box id 0::l=>(w7 l).map (.box id :: ·)
 | .nk id sz i j::l=>if Nat.beq sz 1&&Nat.beq i 0&&Nat.beq j 0 then(w7 l).map (.row id :: ·)else none
 |_::_=>none
def oY(w:World)(b:Nat):Prop:=∀ o x,w.cell? ⟨b,o,none⟩≠some (.int .u32 x)
structure PC(P:Program)(K:World->Prop)(f:FuncId)(args:List E)(kq:E):Prop where
 call:∀ (vs:Array Value) (w:World),(callFunc f vs).run P w = .ok (.enter f vs) w
 run:∀ (w:World) (B:Nat->Prop) (vs:List Value),K w->(∀ b,B b->b<w.heap.size/\oY w b)->ky B (λ_=>False) w args vs ->
  Calls P f vs.toArray w (λe w'=>∃ v,e = .returned v/\Below w.heap.size w w'/\iO B (λ_=>True) w' kq v)
structure Hz(P:Program)(K:World->Prop)(f:FuncId)(args:List E)(kq:E):Prop where
 call:∀ (vs:Array Value) (w:World),(callFunc f vs).run P w = .ok (.enter f vs) w
 run:∀ (w:World) (B:Nat->Prop) (vs:List Value),K w->(∀ b,B b->b<w.heap.size)->ky B (λ_=>False) w args vs ->
  Calls P f vs.toArray w (λe w'=>∃ v,e = .returned v/\Below w.heap.size w w'/\iO B (λ_=>True) w' kq v)
def nN(w:World)(v:Value)(T:TypeId)(n sz:Nat)(f:Nat->Nat->Value)(nl:Bool):Prop:=
 (v = .slice none 0 0/\n=0) \/
 ∃ (b c:Nat) (cur:Array Value),v = .slice (some ⟨b,0,none⟩) n c/\w.heap[b]? = some (.cells cur T (0,0))/\n<=c/\c<=maxLen/\cur.size=c*sz /\
  (∀ i j,i<n->j<sz->cur[i*sz+j]? = some (f i j)/\(f i j).oneCell'=true)/\(nl=true->∀ u,u ∈ cur->qh u=false)
structure uR(P:Program)(K:World->Prop)(f:FuncId)(args:List E)(nl:Bool)(T:TypeId)(n sz:Nat)(el:Nat->Nat->E):Prop where
 call:∀ (vs:Array Value) (w:World),(callFunc f vs).run P w = .ok (.enter f vs) w
 run:∀ (w:World) (B:Nat->Prop) (vs:List Value),K w->(∀ b,B b->b<w.heap.size/\oY w b)->ky B (λ_=>False) w args vs ->
  Calls P f vs.toArray w (λe w'=>∃ v,e = .returned v/\Below w.heap.size w w'/\∃ g,nN w' v T n sz g nl/\(∀ x,v.ownBlock=some x->w.heap.size<=x/\x<w'.heap.size) /\
   ∀ i j,i<n->j<sz->iO (λb=>B b\/v.ownBlock=some b) (λ_=>True) w' (el i j) (g i j)/\(el i j).nr 2=true)
structure qy where
 cl:List (Nat×E):=[]
 ov:List (Nat×PV):=[]
 nw:List (Nat×Bx):=[]
 gi:List (Nat×Value):=[]
def GS(T:List TI):List Field->Option (List (Nat×Nat))
 | []=>some []
 |f::fs=>match mN T f.type,GS T fs with
  |some ti,some l=>some ((f.offset,ti.i.size)::l)
  |_,_=>none
def BC(l:List E)(off:Nat)(m:List E):List E:=l.take off++m++l.drop (off+m.length)
def ss(σ:PS)(place:Nat->Option (Nat×Nat)):List E->List (Nat×Operand)->Option (List E)
 |l,[]=>some l
 |l,(i,x)::ps=>match place i,σ.op x with
  |some (off,size),.e e=>match e.cells? with
   |some m=>if Nat.beq m.length size&&Nat.ble (off+m.length) l.length then ss σ place (BC l off m) ps else none
   |none=>none
  |_,_=>none
def yU(ti:TI):Option (List E):=match ti.i.zero with
 |some z=>(E.v z).cells?
 |none=>none
def kN{α:Type}:Nat->List α->List α
 | 0,_=>[]
 |n+1,l=>l++kN n l
def nY(P:Program)(op:BinOp)(t:TypeId)(x y:E)(v:Value):Prop:=∀ (bs br:Nat->Prop) (w:World) (a b:Value) (ox oy:Operand),iO bs br w x a->iO bs br w y b->(eqGuard op t ox oy a b).run P w = .ok () w/\(binOp op t a b).run P w = .ok v w
def adr(O:qy)(d:Option Tmp):Option Value:=match d with
 |some d=>match look O.cl d with
  |some (.v v)=>some v
  |_=>none
 |none=>none
def adq(O:qy)(d:Option Tmp):Option Value:=match d with
 |some d=>look O.gi d
 |none=>none
def vY(e:E):Prop:=∀ (bs bs' br:Nat->Prop) (w:World) (v:Value),(∀ x,bs' x->bs x\/oY w x)->iO bs br w e v->iO bs' br w e v
def uF(σ:PS)(d:Nat)(b:Bx):mq:=match σ.bo d with
 |none=>.new d b
 |some _=>.wP d b
def Ad(σ:PS)(d:Nat)(is:List Nat):List Nat:=match σ.bo d with
 |none=>is
 |some _=>d::is
def E3(n sz:Nat)(el:Nat->Nat->E):Prop:=∀ i j,i<n->j<sz->vY (el i j)
def AT(P:Program)(K:World->Prop)(O:qy)(σ:PS)(d:Option Tmp)(f:FuncId)(xs:List E)(is:List Nat)(ow:Bool):Option kC:=
 match(match d with
  |some d=>look O.cl d
  |none=>some .any)with
 |some kq=>if kq.plain 3||(σ.nl && !ow)then some { r:=.e kq,rb:=is,jL:=[PC P K f xs kq] }else if !ow then some { r:=.e kq,rb:=is,jL:=[Hz P K f xs kq] }
  else if σ.nl then some { r:=.e kq,rb:=is,jL:=[PC P K f xs kq,vY kq] }else none
 |none=>match d with
  |some d=>match look O.nw d with
   |some (.row nl T n sz el)=>if σ.nl&&nl then some { r:=.own d,f:=uF σ d (.row nl T n sz el),rb:=Ad σ d is,jL:=uR P K f xs nl T n sz el::(if ow then[E3 n sz el]else[]) }else none
   |_=>none
  |none=>none
def zZ(σ:PS)(d:Option Tmp)(b:Bx)(r:Nat->PV)(jL:List Prop):Option kC:=match d with
 |some d=>match σ.bo d with
  |none=>if !σ.nl||b.nl then some { r:=r d,f:=.new d b,jL:=jL }else none
  |some _=>none
 |none=>none
def PV.K9:PV->Option (Bool×Nat×Nat×(Nat->Nat->E))
 | .e (.sl nl n sz el)=>some (nl,n,sz,el)
 | .e (.nI true nl n sz el)=>some (nl,n,sz,el)
 |_=>none
def Bs(σ:PS)(d:Option Tmp)(b:Bx)(r:Nat->PV):Option kC:=match d with
 |some d=>if !σ.nl||b.nl then some { r:=r d,f:=uF σ d b,rb:=Ad σ d [] }else none
 |none=>none
def AS(T:List TI)(σ:PS)(d:Option Tmp)(t:TypeId)(s x:PV):Option kC:=match x.K9 with
 |some (nl2,m,sz2,el2)=>match mN T t with
  |some tt=>match tt.d with
   | .slice e=>match mN T e with
    |some te=>match yU te with
     |some z=>if Nat.beq te.i.size sz2&&Nat.ble 1 sz2&&Nat.ble 1 te.i.bytes&&Nat.beq z.length sz2 then match s with
      | .own id=>match σ.bo id with
       |some (.row nl T1 n sz el)=>if Nat.beq T1 e&&Nat.beq sz sz2&&(!σ.nl||(nl&&(nl2&&z.all E.mS)))then
        some { r:=.own id,f:=.pE id (.row (nl&&(nl2&&z.all E.mS)) T1 (n+m) sz λi j=>if i<n then el i j else el2 (i-n) j),rb:=[id],jL:=[(n+m)*te.i.bytes<=140737488355328] }
        else none
       |_=>none
      | .iU id k=>match σ.bo id with
       |some (.jU nl T1 T0 n sz len el none)=>if Nat.beq T0 e&&Nat.beq sz sz2&&(!nl||(nl2&&z.all E.mS))then
        some { r:=.iU id k,f:=.sP id (.jU nl T1 T0 n sz (λq=>if q=k then len q+m else len q) (λq i j=>if q=k then(if i<len q then el q i j else el2 (i-len q) j)else el q i j) (some k)),rb:=[id],jL:=[k<n,(len k+m)*te.i.bytes<=140737488355328] }
        else none
       |_=>none
      | .e (.v (.slice none 0 0))=>zZ σ d (.row (nl2&&z.all E.mS) e m sz2 el2) .own [m*te.i.bytes<=140737488355328]
      |_=>none
     else none
     |none=>none
    |none=>none
   |_=>none
  |none=>none
 |_=>none
def Ca(T:List TI)(σ:PS)(d:Option Tmp)(t:TypeId)(s x:PV):Option kC:=match AS T { σ with nl:=false } d t s x with
 |some u=>match u.f,u.r with
  | .pE id (.row nl _ n sz el),.own id'=>if Nat.beq id' id then some { r:=.e (.sl nl n sz el),f:=.fin id,rb:=u.rb,jL:=True::u.jL }else none
  |_,_=>none
 |none=>none
def PV.Et:PV->Option Nat
 | .own q=>some q
 |_=>none
def BB(σ:PS):List (Nat×Operand)->Option Nat
 | [(0,x)]=>(σ.op x).Et
 |_=>none
def Ix(T:List TI)(t:TypeId):Option (TypeId×Nat):=match mN T t with
 |some tt=>match tt.d with
  | .slice e=>match mN T e with
   |some te=>match yU te with
    |some [z]=>if Nat.beq te.i.size 1&&Nat.ble 1 te.i.bytes&&z.mS then some (e,te.i.bytes)else none
    |_=>none
   |none=>none
  |_=>none
 |none=>none
def Cc(T:List TI)(σ:PS)(d:Option Tmp)(t:TypeId)(n q:Nat):Option kC:=match d with
 |some id=>match σ.bo id,σ.bo q,Ix T t with
  |none,some (.row nl T0 m sz el),some (e,_)=>if Nat.beq n 1 && !Nat.beq id q then
   some { r:=.own id,f:=.oK id q (.jU nl e T0 1 sz (λ_=>m) (λ_=>el) none),rb:=[id,q] }else none
  |_,_,_=>none
 |none=>none
def Cb(T:List TI)(σ:PS)(d:Option Tmp)(t:TypeId)(s:PV)(q:Nat):Option kC:=match σ.bo q,Ix T t with
 |some (.jU nl2 T2 T0 m sz len2 el2 none),some (e,by_)=>match s,d with
  | .own id,_=>match σ.bo id with
   |some (.jU nl T1 T0' n sz' len el none)=>if Nat.beq T1 e&&Nat.beq T2 e&&Nat.beq T0' T0&&Nat.beq sz' sz && !Nat.beq id q then
    some { r:=.own id,f:=.oK id q (.jU (nl&&nl2) T1 T0 (n+m) sz (λk=>if k<n then len k else len2 (k-n)) (λk=>if k<n then el k else el2 (k-n)) none),rb:=[id,q],jL:=[0<m,(n+m)*by_<=140737488355328] }else none
   |_=>none
  | .e (.v (.slice none 0 0)),some id=>match σ.bo id with
   |none=>if Nat.beq T2 e && !Nat.beq id q then
    some { r:=.own id,f:=.oK id q (.jU nl2 T2 T0 m sz len2 el2 none),rb:=[id,q],jL:=[0<m,m*by_<=140737488355328] }else none
   |_=>none
  |_,_=>none
 |_,_=>none
def RZ(T:List TI)(t:TypeId)(l c:PV):Option (Bx×List Prop):=match l,c with
 | .e (.v (.int _ l)),.e (.v (.int _ c))=>match mN T t with
  |some tt=>match tt.d with
   | .slice e=>match mN T e with
    |some te=>match yU te with
     |some z=>if Nat.beq te.i.size z.length&&Nat.ble 1 te.i.size then
      let jL:=[0<=l/\l<=c,(te.i.bytes:Int)*c<=281474976710656/\c<=9223372036854775807]
      match te.d with
      | .slice e0=>match mN T e0,z with
       |some t0,[.v (.slice none 0 0)]=>some (.jU true e e0 l.toNat t0.i.size (λ_=>0) (λ_ _ _=>.any) none,jL)
       |_,_=>none
      |_=>some (.row (z.all E.mS) e l.toNat te.i.size (λ_ j=>z.getD j .any),jL)
      else none
     |none=>none
    |none=>none
   |_=>none
  |none=>none
 |_,_=>none
def IN(T:List TI)(σ:PS)(d:Option Tmp)(t:TypeId)(l c:PV):Option kC:=match RZ T t l c with
 |some (b,jL)=>zZ σ d b .own jL
 |none=>none
def IP(T:List TI)(t:TypeId)(x:PV)(lo hi:Option PV):Option kC:=match x with
 | .e (.sl nl n sz el)=>match mN T t with
  |some tt=>match tt.d with
   | .slice e=>match mN T e with
    |some te=>if Nat.beq te.i.size sz then match lo,hi with
     |none,some (.e (.v (.int _ h)))=>some { r:=.e (.sl nl h.toNat sz el),jL:=[0<=h/\h<=n] }
     |some (.e (.v (.int _ l))),none=>some { r:=.e (.sl nl (n-l.toNat) sz λi j=>el (l.toNat+i) j),jL:=[0<=l/\l<=n] }
     |some (.e (.v (.int _ l))),some (.e (.v (.int _ h)))=>some { r:=.e (.sl nl (h.toNat-l.toNat) sz λi j=>el (l.toNat+i) j),jL:=[0<=l/\l<=h/\h<=n] }
     |_,_=>none
     else none
    |none=>none
   |_=>none
  |none=>none
 | .e (.nI fl nl n sz el)=>match mN T t with
  |some tt=>match tt.d with
   | .slice e=>match mN T e with
    |some te=>if Nat.beq te.i.size sz then match lo,hi with
     |none,some (.e (.v (.int _ h)))=>some { r:=.e (.nI fl nl h.toNat sz el),jL:=[0<=h/\h<=n] }
     |some (.e (.v (.int _ l))),none=>some { r:=.e (.nI fl nl (n-l.toNat) sz λi j=>el (l.toNat+i) j),jL:=[0<=l/\l<=n] }
     |some (.e (.v (.int _ l))),some (.e (.v (.int _ h)))=>some { r:=.e (.nI fl nl (h.toNat-l.toNat) sz λi j=>el (l.toNat+i) j),jL:=[0<=l/\l<=h/\h<=n] }
     |_,_=>none
     else none
    |none=>none
   |_=>none
  |none=>none
 |_=>none
def IK(T:List TI)(σ:PS)(t:TypeId)(x i:PV):Option kC:=match i with
 | .e (.v (.int _ z))=>match mN T t with
  |some tt=>match tt.d with
   | .slice e=>match mN T e with
    |some te=>match x with
     | .e (.sl _ n sz el)=>if Nat.beq te.i.size sz&&Nat.ble 1 sz then some { r:=.e (.jC sz (el z.toNat)),jL:=[0<=z/\z<n] }else none
     | .e (.nI _ _ n sz el)=>if Nat.beq te.i.size sz&&Nat.ble 1 sz then some { r:=.e (.jC sz (el z.toNat)),jL:=[0<=z/\z<n] }else none
     | .own id=>match σ.bo id with
      |some (.row _ _ n sz _)=>if Nat.beq te.i.size sz then some { r:=.nk id sz z.toNat 0,rb:=[id],jL:=[0<=z/\z<n] }else none
      |some (.jU _ _ _ n _ _ _ _)=>if Nat.beq te.i.size 1 then some { r:=.nk id 1 z.toNat 0,rb:=[id],jL:=[0<=z/\z<n] }else none
      |_=>none
     | .iU id k=>match σ.bo id with
      |some (.jU _ _ _ n sz len _ _)=>if Nat.beq te.i.size sz then some { r:=.qS id sz k z.toNat 0,rb:=[id],jL:=[k<n,0<=z/\z<len k] }else none
      |_=>none
     |_=>none
    |none=>none
   | .array n e=>match mN T e with
    |some te=>match x with
     | .box id off=>some { r:=.box id (off+z.toNat*te.i.size),jL:=[0<=z/\z<n] }
     | .e (.jC m el)=>if Nat.beq (n*te.i.size) m then some { r:=.e (.jC te.i.size λj=>el (z.toNat*te.i.size+j)),jL:=[0<=z/\z<n] }else none
     |_=>none
    |none=>none
   |_=>none
  |none=>none
 |_=>none
def C2(l:List PV)(off:Nat)(m:List PV):List PV:=l.take off++m++l.drop (off+m.length)
def Bx.Um:Bx->Bool
 | .row ..=>true
 | .jU ..=>true
 |_=>false
def IT(ti:TI)(bi bq:Option Bx)(id off q:Nat):Option kC:=match bi,bq with
 |some (.cells T1 [_]),some (.row nl T0 n sz el)=>if(!Nat.beq id q&&Nat.beq ti.i.size 1)&&Nat.beq off 0 then
  some { r:=.e .any,f:=.oK id q (.jU nl T1 T0 1 sz (λ_=>n) (λ_=>el) none),rb:=[id,q] }else none
 |_,_=>none
def IS(ti:TI)(bi bq:Option Bx)(id off q:Nat):Option kC:=match bi,bq with
 |some (.pD nl T1 l),some b=>if b.Um&&Nat.beq ti.i.size 1&&Nat.blt off l.length then
  some { r:=.e .any,f:=.rP id (.pD nl T1 (C2 l off [.own q])),rb:=[id,q] }else none
 |_,_=>none
def DI(ti:TI)(bi bq:Option Bx)(id off q:Nat):Option kC:=match IT ti bi bq id off q with
 |some u=>some u
 |none=>IS ti bi bq id off q
def IQ(T:List TI)(σ:PS)(t:TypeId)(a x:PV):Option kC:=match mN T t with
 |some ti=>match a,x with
  | .box id off,.e e=>match σ.bo id,e.cells? with
   |some (.cells T1 l),some m=>if Nat.beq m.length ti.i.size&&Nat.ble (off+m.length) l.length&&(!σ.nl||m.all E.mS)then
    some { r:=.e .any,f:=.rP id (.cells T1 (BC l off m)),rb:=[id] }else none
   |some (.pD nl T1 l),some m=>if Nat.beq m.length ti.i.size&&Nat.ble (off+m.length) l.length&&(!nl||m.all E.mS)then
    some { r:=.e .any,f:=.rP id (.pD nl T1 (C2 l off (m.map .e))),rb:=[id] }else none
   |_,_=>none
  | .box id off,.own q=>DI ti (σ.bo id) (σ.bo q) id off q
  | .nk id sz i j,.e e=>match σ.bo id,e.cells? with
   |some (.row nl T1 n s el),some m=>if Nat.beq m.length ti.i.size&&Nat.beq s sz&&Nat.ble (j+m.length) sz&&(!nl||m.all E.mS)&&m.all (E.nr 2)then
    some { r:=.e .any,f:=.rP id (.row nl T1 n s λi' j'=>if i'=i/\j<=j'/\j'<j+m.length then m.getD (j'-j) .any else el i' j'),rb:=[id],jL:=[i<n] }else none
   |_,_=>none
  | .nk id 1 i 0,.iU id' k=>match σ.bo id with
   |some (.jU nl T1 T0 n sz len el (some k'))=>if Nat.beq id id'&&Nat.beq ti.i.size 1 then
    some { r:=.e .any,f:=.rP id (.jU nl T1 T0 n sz len el none),rb:=[id],jL:=[i=k',k=k',k'<n] }else none
   |_=>none
  |_,_=>none
 |none=>none
def sO:PV->PS->Option (Value×List Nat)
 | .e (.nI _ _ n _ _),_=>some (.int .i64 (n:Int),[])
 | .e (.sl _ n _ _),_=>some (.int .i64 (n:Int),[])
 | .e (.v (.slice _ n _)),_=>some (.int .i64 (n:Int),[])
 | .own id,σ=>match σ.bo id with
  |some (.row _ _ n _ _)=>some (.int .i64 (n:Int),[id])
  |some (.jU _ _ _ n _ _ _ _)=>some (.int .i64 (n:Int),[id])
  |_=>none
 | .iU id k,σ=>match σ.bo id with
  |some (.jU _ _ _ n _ len _ _)=>if Nat.blt k n then some (.int .i64 (len k:Int),[id])else none
  |_=>none
 |_,_=>none
def Bo(ti:TI):Option (List E×List Nat×List Prop)->Option kC
 |some (l,is,jL)=>if ti.isAgg then some { r:=.e (.agg l),rb:=is,jL:=jL }else match l with
  | [e]=>some { r:=.e e,rb:=is,jL:=jL }
  |_=>none
 |none=>none
def C7(σ:PS):PV->Option (Nat×Nat×Nat)
 | .nk id sz i j=>match σ.bo id with
  |some (.jU _ _ _ n _ _ _ none)=>if Nat.beq sz 1&&Nat.beq j 0 then some (id,i,n)else none
  |_=>none
 |_=>none
def JV:List PV->Nat->Option Nat
 | [],_=>none
 | .own q::_,0=>some q
 |_::_,0=>none
 |_::l,n+1=>JV l n
def Ce(σ:PS):PV->Option (Nat×Nat)
 | .box id off=>match σ.bo id with
  |some (.pD _ _ l)=>(JV l off).map λq=>(id,q)
  |_=>none
 |_=>none
def IM(ti:TI)(σ:PS)(p:PV):Option kC:=match C7 σ p with
 |some (id,i,n)=>if ti.isAgg then none else some { r:=.iU id i,rb:=[id],jL:=[i<n] }
 |none=>Bo ti (σ.read p ti.i.size)
def IL(T:List TI)(σ:PS)(t:TypeId)(p:PV):Option kC:=match mN T t with
 |some ti=>match Ce σ p with
  |some (id,q)=>if ti.isAgg then none else some { r:=.own q,rb:=[id] }
  |none=>IM ti σ p
 |none=>none
def Ih(O:qy):Option Tmp->Bool
 |some d=>(look O.nw d).isSome
 |none=>false
def CU:List (Int×FuncId×List FuncId)->Int->Option E
 | [],_=>none
 |x::l,z=>if x.1=z then some (.fn x.2.1 (x.2.2.map λg=>.jC 1 λ_=>.fn g []))else CU l z
def adp(O:qy):Option Tmp->Option E
 |some d=>look O.cl d
 |none=>none
def jM(P:Program)(K:World->Prop)(T:List TI)(O:qy)(σ:PS)(o:Oper):Option kC:=match o.op with
 | .move x=>some { r:=σ.op x }
 | .assign x=>some { r:=σ.op x }
 | .pick c a b=>match σ.op c with
  | .e (.v (.bool true))=>some { r:=σ.op a }
  | .e (.v (.bool false))=>some { r:=σ.op b }
  |_=>none
 | .alloc t=>match mN T t with
  |some ti=>match yU ti with
   |some z=>Bs σ o.dst (.cells t z) (.box · 0)
   |none=>none
  |none=>none
 | .box t x=>match σ.op x with
  | .e e=>match e.cells? with
   |some l=>Bs σ o.dst (.cells t l) (.box · 0)
   |none=>none
  |_=>none
 | .build t ps=>match mN T t with
  |some ti=>match yU ti with
   |some z=>match ti.d with
    | .struct fs=>match GS T fs.toList with
     |some pl=>(ss σ (λi=>pl[i]?) z ps.toList).map λl=>{ r:=.e (.agg l) }
     |none=>none
    | .array _ e=>match mN T e with
     |some te=>(ss σ (λi=>some (i*te.i.size,te.i.size)) z ps.toList).map λl=>{ r:=.e (.agg l) }
     |none=>none
    |_=>none
   |none=>none
  |none=>none
 | .buildSlice t n ps=>match BB σ ps.toList with|some q=>Cc T σ o.dst t n q|none=>match mN T t with
  |some tt=>match tt.d with
   | .slice e=>match mN T e with
    |some te=>match yU te with
     |some z=>if Nat.beq z.length te.i.size&&Nat.ble 1 te.i.size&&Nat.ble (n*te.i.size) 16777216 then
      (ss σ (λi=>some (i*te.i.size,te.i.size)) (kN n z) ps.toList).bind λl=>
       if !(l.all (E.nr 2))then none else if Ih O o.dst then zZ σ o.dst (.row (l.all E.mS) e n te.i.size λi j=>l.getD (i*te.i.size+j) (.v (.bool false))) .own [True]
       else if l.all E.mS then some { r:=.e (.sl true n te.i.size λi j=>l.getD (i*te.i.size+j) (.v (.bool false))) }
       else some { r:=.e (.sl false n te.i.size λi j=>l.getD (i*te.i.size+j) (.v (.bool false))) }
      else none
     |none=>none
    |none=>none
   |_=>none
  |none=>none
 | .load t a=>IL T σ t (σ.op a)
 | .store t a x=>IQ T σ t (σ.op a) (σ.op x)
 | .nilCheck x=>match σ.op x with
  | .box id off=>some { r:=.box id off }
  | .e (.jC m el)=>some { r:=.e (.jC m el) }
  | .e (.fn f c)=>some { r:=.e (.fn f c) }
  | .qA f c=>some { r:=.qA f c }
  |_=>none
 | .binOp op t x y _=>match σ.op x,σ.op y with
  | .e (.v (.int k a)),.e (.v (.int k' b))=>
   match adq O o.dst with
   |some v=>some { r:=.e (.v v),jL:=[nY P op t (.v (.int k a)) (.v (.int k' b)) v] }
   |none=>if Xd op k k' then(LP op k a b).map λr=>{ r:=.e (.v r.1),jL:=r.2 }else none
  | .e (.v (.bool a)),.e (.v (.bool b))=>match w8 T t with
   |some .bool=>match op with
    | .eql=>some { r:=.e (.v (.bool (a==b))) }
    | .neq=>some { r:=.e (.v (.bool (!(a==b)))) }
    |_=>none
   |_=>none
  | .e (.sl _ n _ _),.e (.v (.slice none 0 0))=>match w8 T t with
   |some (.slice _)=>match op with
    | .eql=>some { r:=.e (.v (.bool false)),jL:=[0<n] }
    | .neq=>some { r:=.e (.v (.bool true)),jL:=[0<n] }
    |_=>none
   |_=>none
  | .e a,.e b=>match adr O o.dst with
   |some v=>some { r:=.e (.v v),jL:=[nY P op t a b v] }
   |none=>none
  |_,_=>none
 | .unOp op _ x=>match op,σ.op x with
  | .not,.e (.v (.bool b))=>some { r:=.e (.v (.bool (!b))) }
  | .neg,.e (.v (.int k z))=>some { r:=.e (.v (.int k (0-z))),jL:=[kB k (0-z)] }
  |_,_=>none
 | .convert src dst x=>match w8 T dst,mN T src,σ.op x with
  |some (.int k),some _,.e (.v (.int _ z))=>some { r:=.e (.v (.int k (k.wrap z))) }
  |_,_,_=>none
 | .makeFunc (.func f) first cap=>if first.isEmpty then match w7 (cap.toList.map σ.op)with
  |some l=>some { r:=.qA f l }
  |none=>none
  else none
 | .makeSlice t l c=>IN T σ o.dst t (σ.op l) (σ.op c)
 | .slice t x lo hi none=>IP T t (σ.op x) (lo.map σ.op) (hi.map σ.op)
 | .fieldAddr t x f=>match w8 T t with
  |some (.struct fs)=>match fs[f]? with
   |some fd=>match mN T fd.type with
    |some ft=>if Nat.beq ft.i.size 0 then none else match σ.op x with
     | .box id off=>some { r:=.box id (off+fd.offset) }
     | .nk id sz i j=>some { r:=.nk id sz i (j+fd.offset) }
     | .qS id sz k i j=>some { r:=.qS id sz k i (j+fd.offset) }
     | .e (.jC m el)=>if Nat.ble fd.offset m then some { r:=.e (.jC (m-fd.offset) λj=>el (fd.offset+j)) }else none
     |_=>none
    |none=>none
   |none=>none
  |_=>none
 | .indexAddr t x i=>IK T σ t (σ.op x) (σ.op i)
 | .index t x i=>match σ.op x,σ.op i with
  | .e (.agg l),.e (.v (.int _ z))=>match mN T t with
   |some tt=>match tt.d with
    | .array n e=>match mN T e with
     |some te=>if te.isAgg&&Nat.beq (n*te.i.size) l.length then some { r:=.e (.agg ((l.drop (z.toNat*te.i.size)).take te.i.size)),jL:=[0<=z/\z<n] }else none
     |none=>none
    |_=>none
   |none=>none
  |_,_=>none
 | .field t x f=>match σ.op x,w8 T t with
  | .e (.agg l),some (.struct fs)=>match fs[f]? with
   |some fd=>match mN T fd.type with
    |some ft=>if ft.isAgg then none else match l[fd.offset]? with
     |some e=>some { r:=.e e }
     |none=>none
    |none=>none
   |none=>none
  |_,_=>none
 | .lookup t x i false=>match σ.op x,σ.op i,w8 T t with
  | .e (.mp l),.e (.v (.int .i64 z)),some (.map k _)=>match w8 T k,adp O o.dst with
   |some (.int .i64),some e=>some { r:=.e e,jL:=[CU l z=some e] }
   |_,_=>none
  |_,_,_=>none
 | .extract x i=>match σ.op x with
  | .e (.iE l)=>match l[i]? with
   |some e=>some { r:=.e e }
   |none=>none
  |_=>none
 | .call c=>match c.callee with
  | .builtin .len=>match c.args.toList,c.argTypes.toList with
   | [x],[t]=>match w8 T t with
    |some (.slice _)=>(sO (σ.op x) σ).map λr=>{ r:=.e (.v r.1),rb:=r.2 }
    |_=>none
   |_,_=>none
  | .builtin .append=>match c.args.toList,c.argTypes.toList with
   | [s,x],[t,t']=>if Nat.beq t t' then(match(σ.op x).Et with|some q=>Cb T σ o.dst t (σ.op s) q|none=>if Ih O o.dst then Ca T σ o.dst t (σ.op s) (σ.op x)else AS T σ o.dst t (σ.op s) (σ.op x))else none
   |_,_=>none
  | .builtin .max=>match c.args.toList.map σ.op with
   | [.e (.v (.int k a)),.e (.v (.int _ b))]=>some { r:=.e (.v (.int k (if b>a then b else a))) }
   | [.e (.v (.int k a)),.e (.v (.int _ b)),.e (.v (.int _ z))]=>some { r:=.e (.v (.int k (if z>(if b>a then b else a)then z else(if b>a then b else a)))) }
   |_=>none
  | .builtin .min=>match c.args.toList.map σ.op with
   | [.e (.v (.int k a)),.e (.v (.int _ b))]=>some { r:=.e (.v (.int k (if b<a then b else a))) }
   |_=>none
  | .value f=>match σ.op f,ui σ c.args.toList with
   | .e (.fn g cap),some (xs,is)=>AT P K O σ o.dst g (xs++cap) is ((c.args.toList.map σ.op).any (PV.wF σ))
   | .qA g cap,some (xs,is)=>match uZ σ cap with
    |some (ys,js)=>AT P K O σ o.dst g (xs++ys) (is++js) ((c.args.toList.map σ.op).any (PV.wF σ)||cap.any CV.Gk)
    |none=>none
   |_,_=>none
  |_=>none
 |_=>none
structure Lk where
 mg:Nat->Prop
 own:Nat->Nat->Prop
 val:Nat->Value
 iU:Nat->Nat->Value
def jx(L:Lk)(x:Nat):Prop:=∃ id,L.own id x
def ji(B:Nat->Prop)(L:Lk)(x:Nat):Prop:=B x\/jx L x
def wV(bs br:Nat->Prop)(L:Lk)(w:World):CV->Value->Prop
 | .e x,v=>iO bs br w x v
 | .box id,v=>L.mg id/\∃ b,L.val id = .pointer (some ⟨b,0,none⟩)/\v = .pointer (some ⟨b,0,none⟩)
 | .row id,v=>L.mg id/\∃ b n c,L.val id = .slice (some ⟨b,0,none⟩) n c/\v = .pointer (some ⟨b,0,none⟩)
def kU(bs br:Nat->Prop)(L:Lk)(w:World):PV->Value->Prop
 | .e x,v=>iO bs br w x v
 | .box id off,v=>L.mg id/\∃ b,L.val id = .pointer (some ⟨b,0,none⟩)/\v = .pointer (some ⟨b,off,none⟩)
 | .own id,v=>L.mg id/\v=L.val id
 | .nk id sz i j,v=>L.mg id/\∃ b n c,L.val id = .slice (some ⟨b,0,none⟩) n c/\v = .pointer (some ⟨b,i*sz+j,none⟩)
 | .iU id k,v=>L.mg id/\v=L.iU id k
 | .qS id sz k i j,v=>L.mg id/\∃ b n c,L.iU id k = .slice (some ⟨b,0,none⟩) n c/\v = .pointer (some ⟨b,i*sz+j,none⟩)
 | .qA f cap,v=>∃ vs:List Value,v = .func (.func f) #[] vs.toArray/\vs.length=cap.length/\∀ (i:Nat) (c:CV) (x:Value),cap[i]? = some c->vs[i]? = some x->wV bs br L w c x
def PV.le(p q:PV):Prop:=∀ (bs br:Nat->Prop) (L:Lk) (w:World) (v:Value),kU bs br L w p v->kU bs br L w q v
abbrev aj(a b:E):Prop:=PV.le (.e a) (.e b)
def uY(P:Program)(K:World->Prop)(T:List TI)(O:qy)(σ:PS)(o:Oper):Option kC:=match jM P K T O σ o with
 |some u=>match o.dst with
  |some d=>match look O.ov d with
   |some p=>some { u with r:=p,jL:=PV.le u.r p::u.jL }
   |none=>some u
  |none=>some u
 |none=>none
def Ar(il:Array Oper)(σ:PS)(o:Oper):Option Bool:=match o.guard with
 |none=>some true
 |some (j,want)=>match(il[j]?).bind (·.dst)with
  |some t=>match σ.get t with
   | .e (.v (.bool true))=>some want
   | .e (.v (.bool false))=>some (!want)
   | .e (.v (.tuple _))=>some false
   |_=>none
  |none=>none
def PS.app(σ:PS)(d:Option Tmp)(u:kC):PS:=(σ.om u.f).put d u.r
def wE(σ:PS):Option Tmp->Bool
 |some d=>Nat.blt d σ.n
 |none=>true
def GN:Op->List Operand
 | .move x | .assign x | .box _ x | .load _ x | .nilCheck x | .unOp _ _ x | .convert _ _ x | .fieldAddr _ x _ | .field _ x _ | .extract x _=>[x]
 | .pick c a b=>[c,a,b]
 | .build _ ps | .buildSlice _ _ ps=>ps.toList.map (·.2)
 | .store _ a v | .binOp _ _ a v _ | .makeSlice _ a v | .indexAddr _ a v | .index _ a v | .lookup _ a v _=>[a,v]
 | .makeFunc _ first captured=>first.toList++captured.toList
 | .slice _ x l h m=>x::(l.toList++h.toList++m.toList)
 | .call c=>(match c.callee with | .value f=>[f] | .invoke r _=>[r] | .builtin _=>[])++c.args.toList
 |_=>[]
def ES:List Operand->List Tmp
 | []=>[]
 | .tmp t::l=>t::ES l
 |_::l=>ES l
def looks(il:Array Oper)(o:Oper):List Tmp:=ES (GN o.op)++(match o.guard with
 |some (g,_)=>((il[g]?).bind (·.dst)).toList
 |none=>[])
def mq.zP:mq->List Nat
 | .none=>[]
 | .new i _ | .rP i _ | .pE i _ | .sP i _ | .fin i | .wP i _=>[i]
 | .oK i r _=>[i,r]
def Bx.pd(f:mq)(b:Bx):Bool:=f.vX&&b.kW.any λr=>f.zP.any λi=>Nat.beq i r
def PS.pd(σ:PS)(f:mq):Bool:=f.vX&&σ.b.any λx=>match σ.bo x.1 with
 |some b=>b.pd f
 |none=>false
def mq.Lz:mq->List Nat
 | .new _ b | .rP _ b | .pE _ b | .sP _ b | .wP _ b | .oK _ _ b=>b.kW
 |_=>[]
def mq.id:mq->Option Nat
 | .none=>Option.none
 | .new i _ | .rP i _ | .pE i _ | .sP i _ | .fin i | .oK i _ _ | .wP i _=>some i
def PS.xE(σ:PS)(f:mq):List Nat:=match f.id with
 |some i=>(match σ.bo i with
  |some b=>b.kW
  |none=>[])
 |none=>[]
def rB(P:Program)(K:World->Prop)(T:List TI)(O:qy)(il:Array Oper)(σ:PS)(o:Oper):Option kC:=
 if wE σ o.dst then match Ar il σ o with
  |some true=>match uY P K T O σ o with
   |some u=>some { u with rd:=(looks il o).map σ.get,hb:=σ.pd u.f,ob:=σ.xE u.f }
   |none=>none
  |some false=>some { r:=.e (.v (.tuple #[])),rd:=(looks il o).map σ.get }
  |none=>none
 else none
def MG(l:List Nat)(n:Nat):Bool:=l.any (Nat.beq n)
def mq.xv:mq->Bool
 | .oK ..=>true
 | .wP ..=>true
 |_=>false
def zV:mq->PV->Bool
 | .pE id _,.own i=>!Nat.beq i id
 | .pE id _,.nk i _ _ _=>!Nat.beq i id
 | .pE id _,.qA _ cap=>!cap.any (CV.Gl id)
 | .sP id _,.iU i _=>!Nat.beq i id
 | .sP id _,.qS i _ _ _ _=>!Nat.beq i id
 | .fin id,p=>!p.kW.any (Nat.beq id)
 |_,_=>true
def xD(l:List Nat):Option Nat->Bool
 |some d=>!MG l d
 |none=>true
def KB:Option Nat->Option Nat->Bool
 |some a,some b=>!Nat.beq a b
 |_,_=>true
def Of:PV->Bool
 | .e .any=>false
 |_=>true
def CB(il:Array Oper)(x y:Oper×kC):Bool:=
 xD (looks il y.1) x.1.dst&&KB x.1.dst y.1.dst&&xD (looks il x.1) y.1.dst &&
 xD y.2.rb x.2.f.id&&xD x.2.rb y.2.f.id&&KB x.2.f.id y.2.f.id&&zV x.2.f y.2.r&&zV y.2.f x.2.r &&
 (!x.2.f.vX||y.2.rd.all Of)&&x.2.rd.all (zV y.2.f) && !x.2.f.xv && !y.2.f.xv &&
 !x.2.hb && !y.2.hb&&xD x.2.ob y.2.f.id&&xD y.2.ob x.2.f.id&&xD x.2.f.Lz y.2.f.id&&xD y.2.f.Lz x.2.f.id
def CE(o:Oper)(i:Nat):Bool:=o.after.toList.any λe=>Region.binds .any e&&Nat.beq e.on i
def BF(il:Array Oper):Nat->Oper->Nat->Bool
 | 0,o,i=>CE o i
 |n+1,o,i=>CE o i||o.after.toList.any λe=>Region.binds .any e&&(match il[e.on]? with
  |some z=>BF il n z i
  |none=>false)
def Eu(il:Array Oper):Nat->List (Oper×kC)->Bool
 |_,[]=>true
 |i,x::l=>x.1.after.toList.all (λe=>!Region.binds .any e||Nat.blt e.on i)&&l.all (λy=>BF il 3 y.1 i||CB il x y)&&Eu il (i+1) l
def Hl(σ:PS):PV->Option E
 | .e x=>if x.nr 3 then some x else none
 | .own id=>match σ.bo id with
  |some (.row nl _ n sz el)=>some (.sl nl n sz el)
  |some (.jU nl _ _ n sz len el none)=>some (.sl true n 1 λk _=>.sl nl (len k) sz (el k))
  |_=>none
 | .iU id k=>match σ.bo id with
  |some (.jU nl _ _ n sz len el none)=>if Nat.blt k n then some (.sl nl (len k) sz (el k))else none
  |_=>none
 |_=>none
def OY(T:List TI)(σ:PS):ResultVar->Option E
 | .tmp t=>Hl σ (σ.get t)
 | .cell a t=>match mN T t with
  |some ti=>match σ.read (σ.get a) ti.i.size with
   |some (l,_,[])=>if ti.isAgg then(if(E.agg l).nr 3 then some (.agg l)else none)else match l with
    | [e]=>if e.nr 3 then some e else none
    |_=>none
   |_=>none
  |none=>none
def EC(T:List TI)(σ:PS):List ResultVar->Option (List E)
 | []=>some []
 |x::l=>match OY T σ x,EC T σ l with
  |some e,some es=>some (e::es)
  |_,_=>none
def J9(T:List TI)(fn:Func)(σ:PS):Option E:=match EC T σ fn.results.toList with
 |some [e]=>some e
 |some l=>some (.iE l)
 |none=>none
inductive Ex where
 |normal
 |exit (id:Nat)
 |ret
def FG:Code->Nat
 | .region id _ _=>id
 | .seq a _=>FG a
 | .cond _ a _=>FG a
 | .block _ b=>FG b
 | .loop b=>FG b
 |_=>0
def Gj:Nat->List E->List (Nat×PV)
 |_,[]=>[]
 |i,x::l=>(i,.e x)::Gj (i+1) l
def Bk(fn:Func)(nl:Bool)(args:List E):PS:={ n:=fn.ntmps,nl:=nl,t:=Gj 0 args,b:=[] }
def kS{a b:Nat}:Nat.beq a b=true↔a=b:=⟨Nat.eq_of_beq_eq_true,λh=>by subst h;exact cJ a⟩
def dc{a b:Nat}(h:a≠b):Nat.beq a b=false:=by
 cases hb:Nat.beq a b with
 |false=>rfl
 |true=>exact absurd (kS.1 hb) h
def s9{α:Type}(k:Nat)(x:α)(l:List (Nat×α))(t:Nat):look ((k,x)::l) t=if k=t then some x else look l t:=by
 by_cases h:k=t
 .subst h;simp[look]
 .simp [look,h,dc h]
def Gr{α:Type}(l:List (Nat×α))(d t:Nat)(h:d≠t):look (l.filter λx=>!Nat.beq x.1 d) t=look l t:=by
 induction l with
 |nil=>rfl
 |cons y l ih=>
  obtain⟨k,x⟩:=y;rw[List.filter_cons];by_cases hk:k=d
  .subst hk;simp only[cJ,fK,bM,bE];rw[ih,s9,bu h]
  .simp only[dc hk,fu,bL];rw[s9,s9,ih]
def JC{α:Type}(l:List (Nat×α))(f:α->α)(t:Nat):look (l.map λx=>(x.1,f x.2)) t=(look l t).map f:=by
 induction l with
 |nil=>rfl
 |cons y l ih=>
  obtain⟨k,x⟩:=y;rw[eR,s9,s9,ih];split<;>rfl
def PS.Mh(σ:PS)(d:Nat)(p:PV)(t:Nat):(σ.put (some d) p).get t=if d=t then p else σ.get t:=by
 unfold PS.get PS.put;simp only[s9];by_cases h:d=t
 .rw [bw h,bw h];rfl
 .rw [bu h,bu h,Gr _ _ _ h]
def PS.aax(σ:PS)(d:Option Tmp)(p:PV)(id:Nat):(σ.put d p).bo id=σ.bo id:=by cases d<;>rfl
def PS.N6(σ:PS)(d:Option Tmp)(p:PV):(σ.put d p).n=σ.n:=by cases d<;>rfl
def PS.agY(σ:PS)(d:Option Tmp)(p:PV):(σ.put d p).nl=σ.nl:=by cases d<;>rfl
def CO(l:List (Nat×Bx))(id:Nat)(b:Bx)(t:Nat):look (uh l id b) t=if id=t then some b else look l t:=by
 unfold uh;rw[s9];by_cases h:id=t
 .rw [bw h,bw h]
 .rw [bu h,bu h,Gr _ _ _ h]
def Vc{α:Type}(l:List (Nat×α))(d:Nat):look (l.filter λx=>!Nat.beq x.1 d) d=none:=by
 induction l with
 |nil=>rfl
 |cons y l ih=>
  obtain⟨k,x⟩:=y;rw[List.filter_cons];by_cases hk:k=d
  .subst hk;simpa only[cJ,fK,bM,bE]using ih
  .simp only[dc hk,fu,bL];rw[s9,bu hk,ih]
def CN{α:Type}(l:List (Nat×α))(i id:Nat):look (l.filter λx=>!Nat.beq x.1 i) id=if i=id then none else look l id:=by
 by_cases h:i=id
 .subst h;rw[bw rfl];exact Vc _ _
 .rw [bu h];exact Gr _ _ _ h
def CQ(b:Bx):b.qT (λp=>p)=b:=by cases b<;>simp[Bx.qT]
def Vl{b:Bx}{g:PV->PV}(h:∀ p,p ∈ b.J1->g p=p):b.qT g=b:=by
 cases b with
 |pD nl T l=>
  simp only[Bx.qT,Bx.pD.injEq,true_and]
  conv=>rhs;rw[<-List.map_id l]
  exact fv h
 |_=>rfl
def CR(b:Bx)(g:PV->PV):(b.qT g).nl=b.nl:=by cases b<;>rfl
def YJ{f:mq}(h:f.vX=false)(p:PV):p.kX f=p:=by
 cases f<;>first|(exact Bool.noConfusion h)|(cases p<;>rfl)
def PS.AI(σ:PS)(f:mq)(i:Nat):look (σ.pre f) i=(σ.bo i).map (Bx.qT (PV.kX f)):=by
 unfold PS.pre PS.bo;by_cases h:f.vX=true
 .rw [bw h,JC]
 .rw [bu h];cases look σ.b i with
  |none=>rfl
  |some b=>simp only[cK];rw[Vl λp _=>YJ (by simpa using h) p]
def PS.Cf(σ:PS)(f:mq)(t:Nat):(σ.om f).get t=(σ.get t).kX f:=by
 unfold PS.get PS.om;by_cases h:f.vX=true
 .simp only[h,bL];rw[JC];cases look σ.t t with
  |none=>cases f<;>rfl
  |some p=>rfl
 .have hv:∀ p:PV,p.kX f=p:=by
   intro p;cases f<;>first|exact absurd rfl h|(cases p<;>rfl)
  simp only[h,hv];rfl
def P5(bs br:Nat->Prop)(L:Lk)(w:World)(id:Nat)(nl:Bool)(T1 T0:TypeId)(n sz:Nat)(len:Nat->Nat)(el:Nat->Nat->Nat->E)(pend:Option Nat):Prop:=∃ (b c:Nat) (cur:Array Value) (f:Nat->Nat->Nat->Value),L.val id = .slice (some ⟨b,0,none⟩) n c/\w.heap[b]? = some (.cells cur T1 (0,0))/\n<=c/\c<=maxLen/\cur.size=c /\
 (∀ k,k<n->pend≠some k->cur[k]? = some (L.iU id k))/\(∀ u,u ∈ cur->qh u=false) /\
 (∀ k,k<n->nN w (L.iU id k) T0 (len k) sz (f k) nl/\∀ i j,i<len k->j<sz->iO bs br w (el k i j) (f k i j)/\(el k i j).nr 2=true) /\
 (∀ x,L.own id x↔x=b\/∃ k,k<n/\(L.iU id k).ownBlock=some x) /\
 (∀ k k' x,k<n->k'<n->(L.iU id k).ownBlock=some x->(L.iU id k').ownBlock=some x->k=k')/\(∀ k,k<n->(L.iU id k).ownBlock≠some b)
def nF(bs br:Nat->Prop)(L:Lk)(w:World)(id:Nat):Bx->Prop
 | .cells T l=>∃ b vs,L.val id = .pointer (some ⟨b,0,none⟩)/\(∀ x,L.own id x↔x=b)/\w.heap[b]? = some (.cells vs.toArray T (0,0))/\ky bs br w l vs/\∀ u,u ∈ vs->u.oneCell'=true
 | .row nl T n sz el=>∃ f:Nat->Nat->Value,nN w (L.val id) T n sz f nl/\(∀ x,L.own id x↔(L.val id).ownBlock=some x)/\∀ i j,i<n->j<sz->iO bs br w (el i j) (f i j)/\(el i j).nr 2=true
 | .jU nl T1 T0 n sz len el pend=>(L.val id = .slice none 0 0/\n=0/\∀ x,¬L.own id x)\/P5 bs br L w id nl T1 T0 n sz len el pend
 | .pD nl T l=>∃ (b:Nat) (vs:List Value),L.val id = .pointer (some ⟨b,0,none⟩)/\(∀ x,L.own id x↔x=b)/\w.heap[b]? = some (.cells vs.toArray T (0,0))/\vs.length=l.length /\
  (∀ (i:Nat) (p:PV) (v:Value),l[i]? = some p->vs[i]? = some v->kU bs br L w p v)/\∀ u,u ∈ vs->u.oneCell'=true/\(nl=true->qh u=false)
def nF.wQ{bs br:Nat->Prop}{L:Lk}{w:World}{id:Nat}{nl:Bool}{T1 T0 n sz:Nat}{len:Nat->Nat}{el:Nat->Nat->Nat->E}{pend:Option Nat}(h:nF bs br L w id (.jU nl T1 T0 n sz len el pend))(hn:0<n):
 P5 bs br L w id nl T1 T0 n sz len el pend:=by
 rcases h with⟨_,h,_⟩|h
 .omega
 .exact h
structure jq(w0:World)(B:Nat->Prop)(σ:PS)(a:Act)(w:World)(L:Lk):Prop where
 hd:a.defers=[]
 hs:a.tmps.size=σ.n
 ht:∀ t,kU (ji B L) (jx L) L w (σ.get t) (a.tmps.getD t undef)
 hb:∀ id b,σ.bo id=some b->nF (ji B L) (jx L) L w id b
 hv:∀ id,L.mg id↔(σ.bo id).isSome=true
 hn:∀ id x,L.own id x->L.mg id
 hw:∀ id x,L.own id x->w0.heap.size<=x/\x<w.heap.size
 hi:∀ id id' x,L.own id x->L.own id' x->id=id'
 he:Below w0.heap.size w0 w
 hl:σ.nl=true->∀ id b,σ.bo id=some b->b.nl=true
structure rp(L:Lk)(w:World)(L':Lk)(w':World):Prop where
 size:w.heap.size<=w'.heap.size
 jx:∀ x,x<w.heap.size->Pu.jx L' x->Pu.jx L x
 pg:∀ x,x<w.heap.size->¬Pu.jx L x->w'.heap[x]? = w.heap[x]?
def rp.kN{B:Nat->Prop}{L L':Lk}{w w':World}(h:rp L w L' w'){e:E}{v:Value}(k:iO (ji B L) (Pu.jx L) w e v):iO (ji B L') (Pu.jx L') w' e v:=by
 refine k.mono h.size (λb hb hx=>?_) (λb hb hx=>h.jx b hb hx) (λb hb wu=>h.pg b hb ?_)
 .rcases hx with hx|hx
  .exact .inl hx
  .exact .inr (h.jx b hb hx)
 .rcases wu with wu|wu
  .exact λhm=>wu (.inr hm)
  .exact wu
def nN.block{w w':World}{v:Value}{T:TypeId}{n sz:Nat}{f:Nat->Nat->Value}{nl:Bool}(h:nN w v T n sz f nl)
 (hk:∀ x,v.ownBlock=some x->w'.heap[x]? = w.heap[x]?):nN w' v T n sz f nl:=by
 rcases h with h|⟨b,c,cur,rfl,hg,r⟩
 .exact .inl h
 .exact .inr ⟨b,c,cur,rfl,by rw[hk b rfl];exact hg,r⟩
def nF.map{B:Nat->Prop}{L L':Lk}{w w':World}(h:rp L w L' w'){id:Nat}{b:Bx}{g g':PV->PV}(k:nF (ji B L) (jx L) L w id (b.qT g))
 (hv:L'.val id=L.val id) (ho:∀ x,L'.own id x↔L.own id x) (kV:∀ j,L'.iU id j=L.iU id j) (hk:∀ x,L.own id x->w'.heap[x]? = w.heap[x]?)
 (hT:∀ p v,p ∈ b.J1->kU (ji B L) (jx L) L w (g p) v->kU (ji B L') (jx L') L' w' (g' p) v):nF (ji B L') (jx L') L' w' id (b.qT g'):=by
 cases b with
 |pD nl T l=>
  obtain⟨b,vs,h1,h2,h3,h4,h5,h6⟩:=k;refine⟨b,vs,by rw[hv];exact h1,λx=>(ho x).trans (h2 x),by rw[hk b ((h2 b).2 rfl)];exact h3,by simpa using h4,λi p v hp hx=>?_,h6⟩;rw[cG]at hp;obtain⟨q,hq,rfl⟩:=b7.1 hp;exact hT q v (dY hq) (h5 i (g q) v (by rw[cG,hq];rfl) hx)
 |cells T l=>
  obtain⟨b,vs,h1,h2,h3,h4,h5⟩:=k;exact⟨b,vs,by rw[hv];exact h1,λx=>(ho x).trans (h2 x),by rw[hk b ((h2 b).2 rfl)];exact h3,h4.mono λ_ _=>h.kN,h5⟩
 |row nl T n sz el=>
  obtain⟨f,h1,h2,h3⟩:=k;exact⟨f,by rw[hv];exact h1.block λx hx=>hk x ((h2 x).2 hx),λx=>by rw[ho,hv];exact h2 x,λi j hi hj=>⟨h.kN (h3 i j hi hj).1,(h3 i j hi hj).2⟩⟩
 |jU nl T1 T0 n sz len el pend=>
  rcases k with⟨h1,h2,h3⟩|k
  .exact .inl ⟨by rw[hv];exact h1,h2,λx hx=>h3 x ((ho x).1 hx)⟩
  obtain⟨b,c,cur,f,h1,h2,h3,h4,h5,h6,h7,h8,h9,rU,r9⟩:=k;have e:L'.iU id=L.iU id:=funext kV;refine .inr ⟨b,c,cur,f,by rw[hv];exact h1,by rw[hk b ((h9 b).2 (.inl rfl))];exact h2,h3,h4,h5,by rw[e];exact h6,h7,?_,?_,by rw[e];exact rU,by rw[e];exact r9⟩
  .intro k Jg;obtain⟨q1,q2⟩:=h8 k Jg;rw[e];exact⟨q1.block λx hx=>hk x ((h9 x).2 (.inr ⟨k,Jg,hx⟩)),λi j hi hj=>⟨h.kN (q2 i j hi hj).1,(q2 i j hi hj).2⟩⟩
  .intro x;rw[ho,e];exact h9 x
def nF.later{B:Nat->Prop}{L L':Lk}{w w':World}(h:rp L w L' w'){id:Nat}{b:Bx}(k:nF (ji B L) (jx L) L w id b)
 (hv:L'.val id=L.val id) (ho:∀ x,L'.own id x↔L.own id x) (kV:∀ j,L'.iU id j=L.iU id j) (hk:∀ x,L.own id x->w'.heap[x]? = w.heap[x]?)
 (hT:∀ p v,p ∈ b.J1->kU (ji B L) (jx L) L w p v->kU (ji B L') (jx L') L' w' p v):nF (ji B L') (jx L') L' w' id b:=by
 have:=nF.map (g:=λp=>p) (g':=λp=>p) h (b:=b) (by rw[CQ];exact k) hv ho kV hk hT;rwa[CQ]at this
def wV.later{B:Nat->Prop}{L L':Lk}{w w':World}(h:rp L w L' w'){c:CV}{v:Value}(k:wV (ji B L) (jx L) L w c v)
 (hv:∀ id,L.mg id->L'.mg id/\L'.val id=L.val id):wV (ji B L') (jx L') L' w' c v:=by
 cases c with
 |e x=>exact h.kN k
 |box id=>obtain⟨k1,b,k2,k3⟩:=k;exact⟨(hv id k1).1,b,by rw[(hv id k1).2];exact k2,k3⟩
 |row id=>obtain⟨k1,b,n,c,k2,k3⟩:=k;exact⟨(hv id k1).1,b,n,c,by rw[(hv id k1).2];exact k2,k3⟩
def kU.later{B:Nat->Prop}{L L':Lk}{w w':World}(h:rp L w L' w'){p:PV}{v:Value}(k:kU (ji B L) (jx L) L w p v)
 (hv:∀ id,L.mg id->L'.mg id/\L'.val id=L.val id/\∀ j,L'.iU id j=L.iU id j):kU (ji B L') (jx L') L' w' p v:=by
 cases p with
 |e x=>exact h.kN k
 |box id off=>obtain⟨k1,b,k2,k3⟩:=k;exact⟨(hv id k1).1,b,by rw[(hv id k1).2.1];exact k2,k3⟩
 |own id=>obtain⟨k1,k2⟩:=k;exact⟨(hv id k1).1,by rw[(hv id k1).2.1];exact k2⟩
 |nk id sz i j=>obtain⟨k1,b,n,c,k2,k3⟩:=k;exact⟨(hv id k1).1,b,n,c,by rw[(hv id k1).2.1];exact k2,k3⟩
 |iU id q=>obtain⟨k1,k2⟩:=k;exact⟨(hv id k1).1,by rw[(hv id k1).2.2];exact k2⟩
 |qS id sz q i j=>obtain⟨k1,b,n,c,k2,k3⟩:=k;exact⟨(hv id k1).1,b,n,c,by rw[(hv id k1).2.2];exact k2,k3⟩
 |qA f cap=>
  obtain⟨vs,k1,k2,k3⟩:=k;exact⟨vs,k1,k2,λi c x hc hx=>(k3 i c x hc hx).later h λid hl=>⟨(hv id hl).1,(hv id hl).2.1⟩⟩
def kU.move{B:Nat->Prop}{L L':Lk}{w w':World}(h:rp L w L' w'){p:PV}{v:Value}(k:kU (ji B L) (jx L) L w p v)
 (hv:∀ id,id ∈ p.kW->L.mg id->L'.mg id/\L'.val id=L.val id/\∀ j,L'.iU id j=L.iU id j):kU (ji B L') (jx L') L' w' p v:=by
 cases p with
 |e x=>exact h.kN k
 |box id off=>obtain⟨k1,b,k2,k3⟩:=k;have q:=hv id (by simp[PV.kW]) k1;exact⟨q.1,b,by rw[q.2.1];exact k2,k3⟩
 |own id=>obtain⟨k1,k2⟩:=k;have q:=hv id (by simp[PV.kW]) k1;exact⟨q.1,by rw[q.2.1];exact k2⟩
 |nk id sz i j=>obtain⟨k1,b,n,c,k2,k3⟩:=k;have q:=hv id (by simp[PV.kW]) k1;exact⟨q.1,b,n,c,by rw[q.2.1];exact k2,k3⟩
 |iU id r=>obtain⟨k1,k2⟩:=k;have q:=hv id (by simp[PV.kW]) k1;exact⟨q.1,by rw[q.2.2];exact k2⟩
 |qS id sz r i j=>obtain⟨k1,b,n,c,k2,k3⟩:=k;have q:=hv id (by simp[PV.kW]) k1;exact⟨q.1,b,n,c,by rw[q.2.2];exact k2,k3⟩
 |qA f cap=>
  obtain⟨vs,k1,k2,k3⟩:=k;refine⟨vs,k1,k2,λi c x hc hx=>?_⟩;have q:=k3 i c x hc hx;cases c with
  |e y=>exact h.kN q
  |box id=>
   obtain⟨q1,b,q2,q3⟩:=q;have r:=hv id (by simp only[PV.kW,dH];exact⟨.box id,dY hc,by simp[CV.kW]⟩) q1;exact⟨r.1,b,by rw[r.2.1];exact q2,q3⟩
  |row id=>
   obtain⟨q1,b,n,c,q2,q3⟩:=q;have r:=hv id (by simp only[PV.kW,dH];exact⟨.row id,dY hc,by simp[CV.kW]⟩) q1;exact⟨r.1,b,n,c,by rw[r.2.1];exact q2,q3⟩
def jq.later{w0:World}{B:Nat->Prop}{σ:PS}{a:Act}{w w':World}{L:Lk}(r:jq w0 B σ a w L)(h:Below w.heap.size w w'):jq w0 B σ a w' L:=by
 have hl:rp L w L w':=⟨h.size,λ_ _ h=>h,λx hx _=>h.block x hx⟩
 refine⟨r.hd,r.hs,λt=>(r.ht t).later hl λid k=>⟨k,rfl,λ_=>rfl⟩,λid b hb=>(r.hb id b hb).later hl rfl (λ_=>Iff.rfl) (λ_=>rfl) (λx hx=>h.block x (r.hw id x hx).2) (λp v _ k=>k.later hl λid k=>⟨k,rfl,λ_=>rfl⟩),r.hv,r.hn,
  λid x hx=>⟨(r.hw id x hx).1,bX (r.hw id x hx).2 h.size⟩,r.hi,r.he.trans (h.mono r.he.size),r.hl⟩
def jq.drew{w0:World}{B:Nat->Prop}{σ:PS}{a:Act}{w:World}{L:Lk}(r:jq w0 B σ a w L):jq w0 B σ a w.drew L:=r.later (Below.refl _ _).drew
def jq.put{w0:World}{B:Nat->Prop}{σ:PS}{a:Act}{w:World}{L:Lk}(r:jq w0 B σ a w L)(d:Option Tmp)(p:PV)(v:Value)(hd:wE σ d=true)(hp:kU (ji B L) (jx L) L w p v):jq w0 B (σ.put d p) (a.put d v) w L:=by
 cases d with
 |none=>exact r
 |some d=>
  have Ck:d<σ.n:=by simpa[wE,fL]using hd
  refine⟨r.hd,by simp[Act.put,r.hs,PS.N6],λt=>?_,λid b hb=>r.hb id b hb,r.hv,r.hn,r.hw,r.hi,r.he,r.hl⟩;rw[PS.Mh];by_cases h:d=t
  .subst h;rw[bw rfl];have:(a.put (some d) v).tmps.getD d undef=v:=by
    simp[Act.put,Array.getElem?_setIfInBounds,r.hs,Ck]
   rw[this];exact hp
  .rw [bu h];have:(a.put (some d) v).tmps.getD t undef=a.tmps.getD t undef:=by
    simp[Act.put,ane h]
   rw[this];exact r.ht t
def jq.op{w0:World}{B:Nat->Prop}{σ:PS}{a:Act}{w:World}{L:Lk}(r:jq w0 B σ a w L)(x:Operand):kU (ji B L) (jx L) L w (σ.op x) (a.eval x):=by
 cases x with
 |tmp t=>exact r.ht t
 |const v=>exact .v v
 |global g=>exact .v _
 |func f=>exact .fn f [] [] rfl (λi p x h=>by simp at h)
def Lk.set(L:Lk)(id:Nat)(O:Nat->Prop)(v:Value)(iU:Nat->Value):Lk:=
 {mg:=λi=>i=id\/L.mg i
  own:=λi x=>if i=id then O x else L.own i x
  val:=λi=>if i=id then v else L.val i
  iU:=λi=>if i=id then iU else L.iU i }
section
variable {L:Lk} {id:Nat} {O:Nat->Prop} {v:Value} {iU:Nat->Value}
def Lk.sj(x:Nat):(L.set id O v iU).own id x↔O x:=by simp[Lk.set]
def Lk.pj:(L.set id O v iU).val id=v:=by simp[Lk.set]
def Lk.r7(k:Nat):(L.set id O v iU).iU id k=iU k:=by simp[Lk.set]
def Lk.BM:(L.set id O v iU).mg id:=.inl rfl
def Lk.BN{i:Nat}(h:i≠id)(x:Nat):(L.set id O v iU).own i x↔L.own i x:=by simp[Lk.set,h]
def Lk.yR{i:Nat}(h:i≠id):(L.set id O v iU).val i=L.val i:=by simp[Lk.set,h]
def Lk.Dd{i:Nat}(h:i≠id)(k:Nat):(L.set id O v iU).iU i k=L.iU i k:=by simp[Lk.set,h]
end
structure qY(L:Lk)(w:World)(id:Nat)(O:Nat->Prop)(w':World):Prop where
 own:∀ x,O x->(L.own id x\/w.heap.size<=x)/\x<w'.heap.size
 size:w.heap.size<=w'.heap.size
 pg:∀ x,x<w.heap.size->¬L.own id x->w'.heap[x]? = w.heap[x]?
 os:w'.os=w.os
 tape:w'.tape=w.tape
 output:w'.output=w.output
def qY.later{L:Lk}{w:World}{id:Nat}{O:Nat->Prop}{w':World}(h:qY L w id O w')(v:Value)(iU:Nat->Value):rp L w (L.set id O v iU) w':=by
 refine⟨h.size,λx hx hm=>?_,λx hx hm=>h.pg x hx λho=>hm ⟨id,ho⟩⟩;obtain⟨i,hi⟩:=hm;by_cases e:i=id
 .subst e;rcases(h.own x ((Lk.sj x).1 hi)).1 with k|k
  .exact ⟨i,k⟩
  .omega
 .exact ⟨i,(Lk.BN e x).1 hi⟩
def jq.set{w0:World}{B:Nat->Prop}{σ:PS}{a:Act}{w:World}{L:Lk}(r:jq w0 B σ a w L)(id:Nat)(b':Bx)(O:Nat->Prop)(v:Value)(iU:Nat->Value)(w':World)(f:mq)
 (hf:f.Lj (σ.pre f)=uh (σ.pre f) id b') (ht:qY L w id O w')
 (hB:nF (ji B (L.set id O v iU)) (jx (L.set id O v iU)) (L.set id O v iU) w' id b')
 (hT:∀ p v0,kU (ji B L) (jx L) L w p v0->kU (ji B (L.set id O v iU)) (jx (L.set id O v iU)) (L.set id O v iU) w' (p.kX f) v0)
 (jQ:σ.nl=true->b'.nl=true):jq w0 B (σ.om f) a w' (L.set id O v iU):=by
 have hl:=ht.later v iU;have ju:∀ i,(σ.om f).bo i=if id=i then some b' else(σ.bo i).map (Bx.qT (PV.kX f)):=by
  intro i;show look (f.Lj (σ.pre f)) i=_;rw[hf,CO,PS.AI]
 have zo:Below w0.heap.size w w':=⟨ht.os,ht.tape,ht.output,ht.size,λx hx=>ht.pg x (bX hx r.he.size) λho=>by have:=(r.hw id x ho).1;omega⟩
 refine⟨r.hd,r.hs,λt=>?_,λi b hb=>?_,λi=>?_,λi x hx=>?_,λi x hx=>?_,λi j x hi hj=>?_,r.he.trans zo,λyr i b hb=>?_⟩
 .rw [PS.Cf];exact hT _ _ (r.ht t)
 .rw [ju]at hb;by_cases e:id=i
  .subst e;rw[bw rfl]at hb;cases hb;exact hB
  .rw [bu e]at hb;have e':i≠id:=λh=>e h.symm
   obtain⟨b0,mf,rfl⟩:=b7.1 hb;exact nF.map (g:=λp=>p) hl (by rw[CQ];exact r.hb i b0 mf) (Lk.yR e') (Lk.BN e') (Lk.Dd e') (λx hx=>ht.pg x (r.hw i x hx).2 λho=>e (r.hi id i x ho hx)) λp v _ k=>hT p v k
 .rw [ju];by_cases e:id=i
  .subst e;rw[bw rfl];simp[Lk.set]
  .rw [bu e];have e':i≠id:=λh=>e h.symm
   simp only[Lk.set,e',false_or,fw];exact r.hv i
 .by_cases e:i=id
  .exact .inl e
  .exact .inr (r.hn i x ((Lk.BN e x).1 hx))
 .by_cases e:i=id
  .subst e;obtain⟨k1,k2⟩:=ht.own x ((Lk.sj x).1 hx);refine⟨?_,k2⟩;rcases k1 with k1|k1
   .exact (r.hw i x k1).1
   .exact bI r.he.size k1
  .have:=r.hw i x ((Lk.BN e x).1 hx);exact⟨this.1,bX this.2 ht.size⟩
 .by_cases e1:i=id
  .by_cases e2:j=id
   .rw [e1,e2]
   .have k2:=(Lk.BN e2 x).1 hj;subst e1;rcases(ht.own x ((Lk.sj x).1 hi)).1 with k|k
    .exact r.hi _ _ x k k2
    .have:=(r.hw j x k2).2;omega
  .have k1:=(Lk.BN e1 x).1 hi;by_cases e2:j=id
   .subst e2;rcases(ht.own x ((Lk.sj x).1 hj)).1 with k|k
    .exact r.hi _ _ x k1 k
    .have:=(r.hw i x k1).2;omega
   .exact r.hi _ _ x k1 ((Lk.BN e2 x).1 hj)
 .rw [ju]at hb;by_cases e:id=i
  .rw [bw e]at hb;cases hb;exact jQ yr
  .rw [bu e]at hb;obtain⟨b0,mf,rfl⟩:=b7.1 hb;rw[CR];exact r.hl yr i b0 mf
def jq.new{w0:World}{B:Nat->Prop}{σ:PS}{a:Act}{w:World}{L:Lk}(r:jq w0 B σ a w L)(id:Nat)(b':Bx)(O:Nat->Prop)(v:Value)(iU:Nat->Value)(w':World)
 (kI:σ.bo id=none) (hO:∀ x,O x->w.heap.size<=x/\x<w'.heap.size) (hb:Below w.heap.size w w')
 (hB:nF (ji B (L.set id O v iU)) (jx (L.set id O v iU)) (L.set id O v iU) w' id b')
 (jQ:(!σ.nl||b'.nl)=true):jq w0 B (σ.om (.new id b')) a w' (L.set id O v iU):=by
 have S8:¬L.mg id:=λh=>by have:=(r.hv id).1 h;rw[kI]at this;simp at this
 have ht:qY L w id O w':=⟨λx hx=>⟨.inr (hO x hx).1,(hO x hx).2⟩,hb.size,λx hx _=>hb.block x hx,hb.os,hb.tape,hb.output⟩
 refine r.set id b' O v iU w' (.new id b') rfl ht hB (λp v0 hp=>?_) (λh=>by simpa[h]using jQ);have kj:∀ {i},L.mg i->i≠id:=λh e=>S8 (e▸h)
 have:p.kX (.new id b')=p:=by cases p<;>rfl
 rw[this];exact hp.later (ht.later v iU) λi hi=>⟨.inr hi,Lk.yR (kj hi),λj=>Lk.Dd (kj hi) j⟩
def jq.rP{w0:World}{B:Nat->Prop}{σ:PS}{a:Act}{w:World}{L:Lk}(r:jq w0 B σ a w L)(id:Nat)(b':Bx)(w':World)
 (pG:L.mg id) (ht:qY L w id (L.own id) w')
 (hB:nF (ji B (L.set id (L.own id) (L.val id) (L.iU id))) (jx (L.set id (L.own id) (L.val id) (L.iU id))) (L.set id (L.own id) (L.val id) (L.iU id)) w' id b')
 (jQ:σ.nl=true->b'.nl=true):jq w0 B (σ.om (.rP id b')) a w' (L.set id (L.own id) (L.val id) (L.iU id)):=by
 refine r.set id b' _ _ _ w' (.rP id b') rfl ht hB (λp v0 hp=>?_) jQ;have:p.kX (.rP id b')=p:=by cases p<;>rfl
 rw[this];refine hp.later (ht.later _ _) λi hi=>⟨.inr hi,?_,λj=>?_⟩
 .by_cases e:i=id
  .subst e;exact Lk.pj
  .exact Lk.yR e
 .by_cases e:i=id
  .subst e;exact Lk.r7 j
  .exact Lk.Dd e j
def jq.pE{w0:World}{B:Nat->Prop}{σ:PS}{a:Act}{w:World}{L:Lk}(r:jq w0 B σ a w L)(id:Nat)(b':Bx)(O:Nat->Prop)(v:Value)(w':World)
 (hp:∀ b,L.val id ≠ .pointer (some b)) (ht:qY L w id O w')
 (hB:nF (ji B (L.set id O v (L.iU id))) (jx (L.set id O v (L.iU id))) (L.set id O v (L.iU id)) w' id b')
 (jQ:σ.nl=true->b'.nl=true):jq w0 B (σ.om (.pE id b')) a w' (L.set id O v (L.iU id)):=by
 have hl:=ht.later v (L.iU id);refine r.set id b' O v (L.iU id) w' (.pE id b') rfl ht hB (λp v0 qO=>?_) jQ;have Be:∀ i j,(L.set id O v (L.iU id)).iU i j=L.iU i j:=λi j=>by
  by_cases e:i=id
  .subst e;exact Lk.r7 j
  .exact Lk.Dd e j
 cases p with
 |e x=>exact hl.kN qO
 |box i off=>
  obtain⟨k1,b,k2,k3⟩:=qO;have e:i≠id:=λe=>by subst e;exact hp _ k2
  exact⟨.inr k1,b,by rw[Lk.yR e];exact k2,k3⟩
 |own i=>
  by_cases e:i=id
  .subst e;simp only[PV.kX,cJ,bL];exact .any _
  .simp only[PV.kX,dc e,bM,bE];exact⟨.inr qO.1,by rw[Lk.yR e];exact qO.2⟩
 |nk i s x j=>
  by_cases e:i=id
  .subst e;simp only[PV.kX,cJ,bL];exact .any _
  .simp only[PV.kX,dc e,bM,bE];obtain⟨k1,b,n,c,k2,k3⟩:=qO;exact⟨.inr k1,b,n,c,by rw[Lk.yR e];exact k2,k3⟩
 |iU i k=>exact⟨.inr qO.1,by rw[Be];exact qO.2⟩
 |qS i s k x j=>obtain⟨k1,b,n,c,k2,k3⟩:=qO;exact⟨.inr k1,b,n,c,by rw[Be];exact k2,k3⟩
 |qA f cap=>
  cases oO:cap.any (CV.Gl id)with
  |true=>simp only[PV.kX,oO,bL];exact .any _
  |false=>
   simp only[PV.kX,oO,bM,bE];obtain⟨vs,k1,k2,k3⟩:=qO;refine⟨vs,k1,k2,λi c x hc hx=>?_⟩;have hk:=k3 i c x hc hx;cases c with
   |e y=>exact hl.kN hk
   |box q=>
    obtain⟨q1,b,q2,q3⟩:=hk;have e:q≠id:=λe=>by subst e;exact hp _ q2
    exact⟨.inr q1,b,by rw[Lk.yR e];exact q2,q3⟩
   |row q=>
    obtain⟨q1,b,n,c,q2,q3⟩:=hk;have e:q≠id:=λe=>by
     have:=df.1 oO (.row q) (dY hc);subst e;simp[CV.Gl]at this
    exact⟨.inr q1,b,n,c,by rw[Lk.yR e];exact q2,q3⟩
def jq.sP{w0:World}{B:Nat->Prop}{σ:PS}{a:Act}{w:World}{L:Lk}(r:jq w0 B σ a w L)(id:Nat)(b':Bx)(O:Nat->Prop)(iU:Nat->Value)(w':World)
 (ht:qY L w id O w')
 (hB:nF (ji B (L.set id O (L.val id) iU)) (jx (L.set id O (L.val id) iU)) (L.set id O (L.val id) iU) w' id b')
 (jQ:σ.nl=true->b'.nl=true):jq w0 B (σ.om (.sP id b')) a w' (L.set id O (L.val id) iU):=by
 have hl:=ht.later (L.val id) iU;refine r.set id b' O (L.val id) iU w' (.sP id b') rfl ht hB (λp v0 qO=>?_) jQ;have my:∀ i,(L.set id O (L.val id) iU).val i=L.val i:=λi=>by
  by_cases e:i=id
  .subst e;exact Lk.pj
  .exact Lk.yR e
 cases p with
 |e x=>exact hl.kN qO
 |box i off=>obtain⟨k1,b,k2,k3⟩:=qO;exact⟨.inr k1,b,by rw[my];exact k2,k3⟩
 |own i=>exact⟨.inr qO.1,by rw[my];exact qO.2⟩
 |nk i s x j=>obtain⟨k1,b,n,c,k2,k3⟩:=qO;exact⟨.inr k1,b,n,c,by rw[my];exact k2,k3⟩
 |iU i k=>
  by_cases e:i=id
  .subst e;simp only[PV.kX,cJ,bL];exact .any _
  .simp only[PV.kX,dc e,bM,bE];exact⟨.inr qO.1,by rw[Lk.Dd e];exact qO.2⟩
 |qS i s k x j=>
  by_cases e:i=id
  .subst e;simp only[PV.kX,cJ,bL];exact .any _
  .simp only[PV.kX,dc e,bM,bE];obtain⟨k1,b,n,c,k2,k3⟩:=qO;exact⟨.inr k1,b,n,c,by rw[Lk.Dd e];exact k2,k3⟩
 |qA f cap=>
  obtain⟨vs,k1,k2,k3⟩:=qO;refine⟨vs,k1,k2,λi c x hc hx=>(k3 i c x hc hx).later hl λj hj=>⟨.inr hj,my j⟩⟩
structure KR(w:World)(v:Value)(T:TypeId)(n sz m:Nat)(f g:Nat->Nat->Value)(nl:Bool)(v':Value)(w':World):Prop where
 own:nN w' v' T (n+m) sz (λi j=>if i<n then f i j else g (i-n) j) nl
 Fh:∀ x,v'.ownBlock=some x->v.ownBlock=some x\/(w.heap.size<=x/\x<w'.heap.size)
 size:w.heap.size<=w'.heap.size
 pg:∀ x,x<w.heap.size->v.ownBlock≠some x->w'.heap[x]? = w.heap[x]?
 os:w'.os=w.os
 tape:w'.tape=w.tape
 output:w'.output=w.output
def oN(n sz:Nat)(f:Nat->Nat->Value):List Value:=(List.range (n*sz)).map λq=>f (q/sz) (q%sz)
def we(n sz:Nat)(f:Nat->Nat->Value):(oN n sz f).length=n*sz:=by simp[oN]
def Mb{n sz:Nat}{f:Nat->Nat->Value}{i j:Nat}(hi:i<n)(hj:j<sz):(oN n sz f)[i*sz+j]? = some (f i j):=by
 have h1:i*sz+j<n*sz:=by
  have:=bW sz (show i+1<=n from hi);rw[cj,ct]at this;omega
 have h2:(i*sz+j)/sz=i:=by rw[bR,amX aC,dx hj,ch]
 have h3:(i*sz+j)%sz=j:=by rw[bR,gw,cH hj]
 simp[oN,h1,h2,h3]
def IU{n sz:Nat}{f:Nat->Nat->Value}{q:Nat}{u:Value}(h:(oN n sz f)[q]? = some u):q/sz<n/\q%sz<sz/\u=f (q/sz) (q%sz)/\q/sz*sz+q%sz=q:=by
 unfold oN at h;rw[cG]at h;obtain⟨x,hx,rfl⟩:=b7.1 h;obtain⟨h1,h2⟩:=cw.1 hx;simp at h1 h2;subst h2;have hz:0<sz:=by
  rcases eU sz with h0|h0
  .subst h0;simp at h1
  .exact h0
 exact⟨(cS hz).2 h1,bS _ hz,rfl,by rw[bR];exact cV q sz⟩
def nN.row{w:World}{v:Value}{T:TypeId}{n sz:Nat}{f:Nat->Nat->Value}{nl:Bool}(h:nN w v T n sz f nl):w.ownsRow 0 T sz v n (oN n sz f):=by
 rcases h with⟨rfl,rfl⟩|⟨b,c,cur,rfl,hg,oJ,nS,mE,kt,_⟩
 .exact ⟨we _ _ _,.inl ⟨rfl,rfl⟩⟩
 .refine ⟨we _ _ _,.inr ⟨b,c,cur,rfl,cz _,hg,oJ,nS,mE,?_⟩⟩;apply gE;intro q;by_cases hq:q<n*sz
  .have hz:0<sz:=by
    rcases eU sz with h0|h0
    .subst h0;simp at hq
    .exact h0
   have h1:q/sz<n:=(cS hz).2 hq;have h2:=bS q hz;have h3:q/sz*sz+q%sz=q:=by rw[bR];exact cV q sz
   have h4:=(kt _ _ h1 h2).1;have h5:=Mb (f:=f) h1 h2;rw[h3]at h4 h5;rw[dM,bw hq,h5];simpa using h4
  .rw [dM,bu hq,cE (by rw[we];omega)]
def W9(P:Program)(w:World)(t ty e:TypeId)(i:TypeInfo)(z:Value)(sz:Nat)(ht:P.underlying t=some (.slice e))(hi:P.info? e=some i)(hz:i.zero=some z)
 (tX:i.size=sz) (T9:z.cells.size=sz) (mQ:0<sz) (jK:1<=i.bytes) (amy:∀ u,u ∈ z.cells->u.oneCell'=true)
 (v:Value) (n:Nat) (f:Nat->Nat->Value) (nl:Bool) (lO:nN w v e n sz f nl)
 (A:Option Addr) (m c:Nat) (g:Nat->Nat->Value) (hA:∀ k j,k<m->j<sz->∃ b o,A=some ⟨b,o,none⟩/\w.cell? ⟨b,o+(k*sz+j),none⟩=some (g k j)) (vk:A=none->m=0)
 (h1:∀ k j,k<m->j<sz->(g k j).oneCell'=true/\(nl=true->qh (g k j)=false)) (T8:nl=true->∀ u,u ∈ z.cells->qh u=false)
 (I8:(n+m)*i.bytes<=140737488355328):
 ∃ v' w',(Builtin.append_ #[t,t] ty #[v,.slice A m c]).run P w = .ok v' w'/\KR w v e n sz m f g nl v' w':=by
 have hle:n+m<=(n+m)*i.bytes:=gU _ jK;have Mk:n+m<=maxLen:=by unfold maxLen;omega
 have yo:∀ i j,i<n+m->j<sz->(oN n sz f++oN m sz g)[i*sz+j]? = some (if i<n then f i j else g (i-n) j):=by
  intro i j hi hj;by_cases kV:i<n
  .rw [bw kV,dp,Mb kV hj];rw[we];have:=bW sz (show i+1<=n from kV);rw[cj,ct]at this;omega
  .rw [bu kV,et,we]
   .have:i*sz+j-n*sz=(i-n)*sz+j:=by
     have:=Nat.sub_mul i n sz;have:=bW sz (aC:n<=i);omega
    rw[this,Mb aC hj]
   .rw [we];have:=bW sz (aC:n<=i);omega
 have Cp:∀ i j,i<n+m->j<sz->(if i<n then f i j else g (i-n) j).oneCell'=true:=by
  intro i j hi hj;split
  .rename_i kV;rcases lO with⟨_,h0⟩|⟨b,c,cur,_,_,_,_,_,hc,_⟩
   .omega
   .exact (hc i j kV hj).2
  .rename_i kV;exact(h1 (i-n) j aC hj).1
 have h1':∀ u ∈ oN m sz g,u.oneCell'=true:=by
  intro u hu;obtain⟨q,hq⟩:=dI.1 hu;obtain⟨q1,q2,rfl,_⟩:=IU hq;exact(h1 _ _ q1 q2).1
 have gnl:nl=true->∀ u,u ∈ oN m sz g->qh u=false:=by
  intro hn u hu;obtain⟨q,hq⟩:=dI.1 hu;obtain⟨q1,q2,rfl,_⟩:=IU hq;exact(h1 _ _ q1 q2).2 hn
 rcases A with _|ad
 .have hm:=vk rfl;subst hm;rcases lO with⟨rfl,rfl⟩|⟨b,cc,cur,rfl,hg,oJ,nS,mE,kt,jQ⟩
  .refine ⟨.slice none 0 0,w,?_,.inl ⟨rfl,rfl⟩,λx hx=>.inl hx,bD _,λ_ _ _=>rfl,rfl,rfl,rfl⟩;simp[Builtin.append_,run_underlying ht,sizeOf,typeInfo,hi,Builtin.lenOf,Builtin.firstCells,loadCells,loadCellsFrom]
  .refine ⟨.slice (some ⟨b,0,none⟩) n cc,w,?_,.inr ⟨b,cc,cur,rfl,hg,oJ,nS,mE,?_,jQ⟩,λx hx=>.inl hx,bD _,λ_ _ _=>rfl,rfl,rfl,rfl⟩
   .simp [Builtin.append_,run_underlying ht,sizeOf,typeInfo,hi,Builtin.lenOf,Builtin.firstCells,oJ,storeCells]
   .intro i j hi hj;have kV:i<n:= aC ;simp only[kV,bL];exact kt i j kV hj
 .have M7:∀ j u,(oN m sz g)[j]? = some u->w.cell? (ad.add j)=some u:=by
   intro q u hq;obtain⟨q1,q2,rfl,q4⟩:=IU hq;obtain⟨b,o,e,hc⟩:=hA _ _ q1 q2;cases e;rw[q4]at hc;rw[show(⟨b,o,none⟩:Addr).add q=⟨b,o+q,none⟩from Addr.add_lit _ _ _];exact hc
  rcases lO with⟨rfl,rfl⟩|⟨b,cc,cur,rfl,hg,oJ,nS,mE,kt,jQ⟩
  .by_cases hm:m=0
   .subst hm;refine⟨.slice none 0 0,w,?_,.inl ⟨rfl,rfl⟩,λx hx=>.inl hx,bD _,λ_ _ _=>rfl,rfl,rfl,rfl⟩;simp[Builtin.append_,run_underlying ht,sizeOf,typeInfo,hi,Builtin.lenOf,Builtin.firstCells,loadCells,loadCellsFrom]
   .have hr:=run_append_nil (P:=P) w t ty e i z ht hi hz ad m c (oN m sz g) (by rw[we,tX]) M7 aC (by unfold maxLen at Mk;omega) (by have hb:=I8;simp only[cD]at hb;omega);have tS:=grownCap_ge w m 0 e;have nS:grownCap w m 0 e<=maxLen:=grownCap_le_maxLen w m 0 e aC;refine⟨_,_,hr,.inr ⟨w.heap.size,_,_,aH,heap_alloc_new w.drew _,aC,nS,?_,?_,?_⟩,λx hx=>.inr ?_,aH,λx hx _=>Below.heap_alloc w.drew _ x hx,rfl,rfl,rfl⟩
    .simp only[amY,fA,size_zeroCells,T9,we,<-cj];congr 1;omega
    .intro i j hi hj;have:=yo i j hi hj;refine⟨?_,Cp i j hi hj⟩;simp only[oN,c9,List.range_zero,List.map_nil,List.nil_append]at this;rw[<-this,anf]
     .simp [oN]
     .obtain ⟨q,_⟩:=cw.1 this;simpa[oN]using q
    .intro hn u hu;rcases fM.1 hu with hu|hu
     .exact gnl hn u (by simpa using hu)
     .simp only[Builtin.zeroCells,gF,gG]at hu;obtain⟨q,hq,rfl⟩:=hu;have iJ:q%z.cells.size<z.cells.size:=bS _ aC;rw[fN z.cells _ iJ];exact T8 hn _ (gV iJ)
    .simp [Value.ownBlock]at hx;subst hx;simp
  .by_cases Nc:n+m<=cc
   .have FU:(oN m sz g).length=m*i.size:=by rw[we,tX]
    have rE:n*i.size+(oN m sz g).length<=cur.size:=by rw[FU,mE,tX,<-cj];exact bW _ Nc
    have hr:=run_append_room (P:=P) w t ty e i ht hi b n cc cur hg ad m c (oN m sz g) FU M7 h1' Nc rE;have Gb:cur.toList.take (n*i.size)=oN n sz f:=by
     have Nd:w.ownsRow 0 e sz (.slice (some ⟨b,0,none⟩) n cc) n (oN n sz f):=nN.row (nl:=nl) (.inr ⟨b,cc,cur,rfl,hg,oJ,nS,mE,kt,jQ⟩);rcases Nd.2 with⟨hh,_⟩|⟨b',c',cur',hh,_,Tc,_,_,_,Jr⟩
     .cases hh
     .cases hh;rw[hg]at Tc;cases Tc;rw[tX];exact Jr
    refine⟨_,_,hr,.inr ⟨b,cc,_,rfl,setRow_heap w b cur _ e _ hg,Nc,nS,?_,?_,?_⟩,λx hx=>.inl hx,aH,λx hx kj=>setRow_other w b x _ (λq=>kj (by simp[Value.ownBlock,q])),rfl,rfl,rfl⟩
    .simp only[fA,cg,cF,eV,dO];omega
    .intro k j hk hj;refine⟨?_,Cp k j hk hj⟩;rw[Gb,<-yo k j hk hj];have hq:k*sz+j<(oN n sz f++oN m sz g).length:=by
      obtain⟨q,_⟩:=cw.1 (yo k j hk hj);exact q
     rw[gW,dp hq]
    .intro hn u hu;simp only[gX,dK]at hu;rcases hu with(hu|hu)|hu
     .exact jQ hn u (by have:=ej hu;simpa using this)
     .exact gnl hn u hu
     .exact jQ hn u (by have:=eJ hu;simpa using this)
   .have Nd:w.ownsRow 0 e sz (.slice (some ⟨b,0,none⟩) n cc) n (oN n sz f):=nN.row (nl:=nl) (.inr ⟨b,cc,cur,rfl,hg,oJ,nS,mE,kt,jQ⟩);have holds:∀ j u,(oN n sz f)[j]? = some u->w.cell? ((⟨b,0,none⟩:Addr).add j)=some u:=Nd.cells (g:=b) rfl;have hr:=run_append_grow (P:=P) w t ty e i z ht hi hz ⟨b,0,none⟩ n cc (oN n sz f) (by rw[we,tX]) holds ad m c (oN m sz g) (by rw[we,tX]) M7 aC (by unfold maxLen at Mk;omega) (growslice_fits aC I8);have tS:=grownCap_ge w (n+m) cc e;have aem:grownCap w (n+m) cc e<=maxLen:=grownCap_le_maxLen w (n+m) cc e Mk;refine⟨_,_,hr,.inr ⟨w.heap.size,_,_,aH,heap_alloc_new w.drew _,aC,aem,?_,?_,?_⟩,λx hx=>.inr ?_,aH,λx hx _=>Below.heap_alloc w.drew _ x hx,rfl,rfl,rfl⟩
    .simp only[amY,fA,size_zeroCells,T9,we,<-cj];congr 1;omega
    .intro k j hk hj;refine⟨?_,Cp k j hk hj⟩;rw[<-yo k j hk hj];have hq:k*sz+j<(oN n sz f++oN m sz g).length:=by
      obtain⟨q,_⟩:=cw.1 (yo k j hk hj);exact q
     rw[anf (by simpa using hq)];simp
    .intro hn u hu;rcases fM.1 hu with hu|hu
     .rcases fM.1 hu with hu|hu
      .obtain ⟨q,hq⟩:=dI.1 (show u ∈ oN n sz f by simpa using hu);obtain⟨q1,q2,rfl,_⟩:=IU hq;exact jQ hn _ (dZ (kt _ _ q1 q2).1)
      .exact gnl hn u (by simpa using hu)
     .simp only[Builtin.zeroCells,gF,gG]at hu;obtain⟨q,hq,rfl⟩:=hu;have iJ:q%z.cells.size<z.cells.size:=bS _ aC;rw[fN z.cells _ iJ];exact T8 hn _ (gV iJ)
    .simp [Value.ownBlock]at hx;subst hx;simp
def YH{id:Nat}{b:Bx}{p:PV}(h:p.kW.any (Nat.beq id)=false):p.kX (.pE id b)=p:=by
 cases p with
 |own i=>
  have:Nat.beq i id=false:=by
   simp only[PV.kW,ef,fB,eW]at h;exact dc λe=>by rw[e,cJ]at h;cases h
  simp[PV.kX,this]
 |nk i s x j=>
  have:Nat.beq i id=false:=by
   simp only[PV.kW,ef,fB,eW]at h;exact dc λe=>by rw[e,cJ]at h;cases h
  simp[PV.kX,this]
 |qA f cap=>
  have:cap.any (CV.Gl id)=false:=by
   rw[df];intro c hc hr;cases c with
   |row i=>
    have hi:i=id:=kS.1 hr;have:=df.1 h i (by simp only[PV.kW,dH];exact⟨.row i,hc,by simp[CV.kW]⟩);rw[hi,cJ]at this;exact this rfl
   |_=>cases hr
  simp[PV.kX,this]
 |_=>rfl
def jq.fin{w0:World}{B:Nat->Prop}{σ:PS}{a:Act}{w:World}{L:Lk}{id:Nat}{nl:Bool}{T n sz:Nat}{el:Nat->Nat->E}(hB:∀ b,B b->b<w0.heap.size)
 (r:jq w0 B (σ.om (.pE id (.row nl T n sz el))) a w L):∃ L',jq w0 B (σ.om (.fin id)) a w L'/\iO (ji B L') (jx L') w (.sl nl n sz el) (L.val id):=by
 let L':Lk:=⟨λi=>L.mg i/\i≠id,λi x=>L.own i x/\i≠id,L.val,L.iU⟩
 have iJ:rp L w L' w:=⟨bD _,λx _ ⟨i,h,_⟩=>⟨i,h⟩,λ_ _ _=>rfl⟩
 have rD:∀ i,(σ.om (.fin id)).bo i=if i=id then none else(σ.bo i).map (Bx.qT (PV.kX (.fin id))):=by
  intro i;show look ((σ.pre (.fin id)).filter λx=>!Nat.beq x.1 id) i=_;rw[CN,PS.AI];by_cases h:i=id
  .subst h;simp
  .rw [bu h,bu (λe=>h e.symm)]
 have MI:∀ i,i≠id->(σ.om (.pE id (.row nl T n sz el))).bo i=(σ.bo i).map (Bx.qT (PV.kX (.pE id (.row nl T n sz el)))):=by
  intro i h;show look (uh (σ.pre (.pE id (.row nl T n sz el))) id (.row nl T n sz el)) i=_;rw[CO,PS.AI,bu (λe=>h e.symm)]
 have aej:(σ.om (.pE id (.row nl T n sz el))).bo id=some (.row nl T n sz el):=by
  show look (uh (σ.pre (.pE id (.row nl T n sz el))) id (.row nl T n sz el)) id=_;rw[CO,bw rfl]
 have A8:∀ x,L.own id x->¬ji B L' x:=by
  rintro x hx (h|⟨i,h1,h2⟩)
  .have:=hB x h;have:=(r.hw id x hx).1;omega
  .exact h2 (r.hi i id x h1 hx)
 have hold:iO (ji B L') (jx L') w (.sl nl n sz el) (L.val id):=by
  obtain⟨f,h1,h2,h3⟩:=r.hb id _ aej;rcases h1 with⟨h0,rfl⟩|⟨b,c,cur,h0,hg,oJ,nS,mE,kt,jQ⟩
  .rw [h0];exact .sl nl 0 sz el none 0 f (bD _) aE (λ_=>rfl) (λi j hi=>absurd hi (bF i)) (λi j hi=>absurd hi (bF i)) (λi j hi=>absurd hi (bF i)) (λi j hi=>absurd hi (bF i))
  .have sW:=(h2 b).2 (by rw[h0];rfl);rw[h0];refine .sl nl n sz el _ c f oJ (by unfold maxLen at nS;omega) (λh=>by cases h) (λi j hi hj=>⟨(kt i j hi hj).2,λhn=>jQ hn _ (dZ (kt i j hi hj).1)⟩) (λi j hi hj=>(h3 i j hi hj).2)
    (λi j hi hj=>⟨b,0,rfl,A8 b sW,(r.hw id b sW).2,?_⟩) (λi j hi hj=>iJ.kN (h3 i j hi hj).1)
   rw[cD];simp only[World.cell?,hg];simpa using(kt i j hi hj).1
 have hT:∀ (p:PV) (v:Value),kU (ji B L) (jx L) L w (p.kX (.pE id (.row nl T n sz el))) v->kU (ji B L') (jx L') L' w (p.kX (.fin id)) v:=by
  intro p v k;show kU _ _ _ _ (if p.kW.any (Nat.beq id)then .e .any else p) _;cases hp:p.kW.any (Nat.beq id)with
  |true=>exact .any _
  |false=>
   rw[YH hp]at k;refine kU.move iJ k λi hi pG=>⟨⟨pG,?_⟩,rfl,λ_=>rfl⟩
   rintro rfl;have:=df.1 hp i hi;simp at this
 refine⟨L',⟨r.hd,r.hs,λt=>?_,λi b' h=>?_,λi=>?_,λi x h=>⟨r.hn i x h.1,h.2⟩,λi x h=>r.hw i x h.1,λi i' x h k=>r.hi i i' x h.1 k.1,r.he,λh i b' k=>?_⟩,hold⟩
 .have k:=r.ht t;rw[PS.Cf]at k ⊢;exact hT _ _ k
 .rw [rD]at h;split at h
  .cases h
  .rename_i hi;obtain⟨b0,mf,rfl⟩:=b7.1 h;exact nF.map iJ (r.hb i _ (by rw[MI i hi,mf];rfl)) rfl (λx=>⟨λq=>q.1,λq=>⟨q,hi⟩⟩) (λ_=>rfl) (λ_ _=>rfl) λp v _ k=>hT p v k
 .rw [rD];show L.mg i/\i≠id↔_;by_cases hi:i=id
  .subst hi;simp
  .simp only[hi,dv,eX,fO,bE];rw[r.hv i,MI i hi,fw,fw]
 .rw [rD]at k;split at k
  .cases k
  .rename_i hi;obtain⟨b0,mf,rfl⟩:=b7.1 k;have:=r.hl h i _ (by rw[MI i hi,mf];rfl);rw[CR]at this ⊢;exact this
def PL{id q:Nat}{b:Bx}{p:PV}(h:p.kW.any (λx=>Nat.beq id x||Nat.beq q x)=false):p.kX (.oK id q b)=p:=by
 cases p with
 |box i off=>
  simp only[PV.kW,ef,fB,eW,eu]at h;have h1:Nat.beq i id=false:=dc λe=>by rw[e,cJ]at h;cases h.1
  have h2:Nat.beq i q=false:=dc λe=>by rw[e,cJ]at h;cases h.2
  simp[PV.kX,h1,h2]
 |e x=>simp[PV.kX,PV.kW]
 |own i=>show(if(PV.kW (.own i)).any _=true then _ else _)=_;rw[h];rfl
 |nk i a b c=>show(if(PV.kW (.nk i a b c)).any _=true then _ else _)=_;rw[h];rfl
 |iU i k=>show(if(PV.kW (.iU i k)).any _=true then _ else _)=_;rw[h];rfl
 |qS i s k x j=>show(if(PV.kW (.qS i s k x j)).any _=true then _ else _)=_;rw[h];rfl
 |qA f cap=>show(if(PV.kW (.qA f cap)).any _=true then _ else _)=_;rw[h];rfl
def YI{id q:Nat}{b:Bx}{p:PV}(h:p.kW.any (λx=>Nat.beq id x||Nat.beq q x)=true)(hb:∀ i off,p ≠ .box i off):p.kX (.oK id q b) = .e .any:=by
 cases p with
 |box i off=>exact absurd rfl (hb i off)
 |e x=>simp[PV.kW]at h
 |own i=>show(if(PV.kW (.own i)).any _=true then _ else _)=_;rw[h];rfl
 |nk i a b c=>show(if(PV.kW (.nk i a b c)).any _=true then _ else _)=_;rw[h];rfl
 |iU i k=>show(if(PV.kW (.iU i k)).any _=true then _ else _)=_;rw[h];rfl
 |qS i s k x j=>show(if(PV.kW (.qS i s k x j)).any _=true then _ else _)=_;rw[h];rfl
 |qA f cap=>show(if(PV.kW (.qA f cap)).any _=true then _ else _)=_;rw[h];rfl
def jq.oK{w0:World}{B:Nat->Prop}{σ:PS}{a:Act}{w:World}{L:Lk}(r:jq w0 B σ a w L){id q T1 T0 n sz:Nat}{nl:Bool}{el:Nat->Nat->E}{x:E}
 (hid:σ.bo id=some (.cells T1 [x])) (hq:σ.bo q=some (.row nl T0 n sz el)) (kj:id≠q) {b:Nat} (hv:L.val id = .pointer (some ⟨b,0,none⟩)) {w':World} (hw:w'.heap[b]? = some (.cells #[L.val q] T1 (0,0)))
 (ht:qY L w id (L.own id) w'):∃ L',jq w0 B (σ.om (.oK id q (.jU nl T1 T0 1 sz (λ_=>n) (λ_=>el) none))) a w' L':=by
 let L':Lk:=⟨λi=>L.mg i/\i≠q,λi y=>if i=id then L.own id y\/L.own q y else L.own i y/\i≠q,λi=>if i=id then .slice (some ⟨b,0,none⟩) 1 1 else L.val i,λi j=>if i=id then L.val q else L.iU i j⟩
 have aez:∀ y,jx L' y->jx L y:=by
  rintro y ⟨i,hi⟩;by_cases e:i=id
  .have hi:L.own id y\/L.own q y:=by simpa[L',e]using hi
   rcases hi with h|h
   .exact ⟨id,h⟩
   .exact ⟨q,h⟩
  .have hi:L.own i y/\i≠q:=by simpa[L',e]using hi
   exact⟨i,hi.1⟩
 have amr:∀ y,jx L y->jx L' y:=by
  rintro y ⟨i,hi⟩;by_cases e:i=id\/i=q
  .refine ⟨id,?_⟩;show if id=id then L.own id y\/L.own q y else _
   rw[bw rfl];rcases e with e|e<;>subst e
   .exact .inl hi
   .exact .inr hi
  .have e1:i≠id:=λh=>e (.inl h)
   have e2:i≠q:=λh=>e (.inr h)
   refine⟨i,?_⟩;show if i=id then _ else L.own i y/\i≠q
   rw[bu e1];exact⟨hi,e2⟩
 have iJ:rp L w L' w':=⟨ht.size,λy _ h=>aez y h,λy hy hm=>ht.pg y hy λho=>hm ⟨id,ho⟩⟩
 have my:∀ i,i≠id->L'.val i=L.val i:=λi e=>by show(if i=id then _ else _)=_;rw[bu e]
 have Be:∀ i,i≠id->∀ j,L'.iU i j=L.iU i j:=λi e j=>by show(if i=id then _ else _)=_;rw[bu e]
 have lO:∀ i,i≠id->∀ y,L'.own i y↔L.own i y/\i≠q:=λi e y=>by show(if i=id then _ else _)↔_;rw[bu e]
 have zF:∀ y,L'.own id y↔L.own id y\/L.own q y:=λy=>by show(if id=id then _ else _)↔_;rw[bw rfl]
 obtain⟨b0,vs,i1,i2,i3,i4,i5⟩:=r.hb id _ hid;rw[hv]at i1;cases i1;obtain⟨f,q1,q2,q3⟩:=r.hb q _ hq;have pG:L.mg id:=(r.hv id).2 (by rw[hid];rfl);have Jn:∀ i y,i≠id->L.own i y->w'.heap[y]? = w.heap[y]?:=λi y e hy=>ht.pg y (r.hw i y hy).2 λho=>e (r.hi i id y hy ho)
 have ju:∀ i,(σ.om (.oK id q (.jU nl T1 T0 1 sz (λ_=>n) (λ_=>el) none))).bo i=if id=i then some (.jU nl T1 T0 1 sz (λ_=>n) (λ_=>el) none)else if i=q then none else(σ.bo i).map (Bx.qT (PV.kX (.oK id q (.jU nl T1 T0 1 sz (λ_=>n) (λ_=>el) none)))):=by
  intro i;show look (uh ((σ.pre (.oK id q (.jU nl T1 T0 1 sz (λ_=>n) (λ_=>el) none))).filter λy=>!Nat.beq y.1 q) id _) i=_;rw[CO];by_cases e:id=i
  .rw [bw e,bw e]
  .rw [bu e,bu e,CN,PS.AI];by_cases e2:q=i
   .rw [bw e2,bw e2.symm]
   .rw [bu e2,bu λh=>e2 h.symm]
 have zo:Below w0.heap.size w w':=⟨ht.os,ht.tape,ht.output,ht.size,λy hy=>ht.pg y (bX hy r.he.size) λho=>by have:=(r.hw id y ho).1;omega⟩
 have kt:(L.val q).oneCell'=true/\qh (L.val q)=false:=by
  rcases q1 with⟨h,_⟩|⟨b1,c1,cur,h,_⟩<;>rw[h]<;>exact⟨rfl,rfl⟩
 have hT:∀ (p:PV) (v:Value),kU (ji B L) (jx L) L w p v->kU (ji B L') (jx L') L' w' (p.kX (.oK id q (.jU nl T1 T0 1 sz (λ_=>n) (λ_=>el) none))) v:=by
  intro p v k;cases hp:p.kW.any (λy=>Nat.beq id y||Nat.beq q y)with
  |false=>
   rw[PL hp];refine k.move iJ λi hi hl=>?_
   have:=df.1 hp i hi;simp only[eZ,not_or]at this;have e1:i≠id:=λe=>this.1 (by rw[e];exact cJ _)
   have e2:i≠q:=λe=>this.2 (by rw[e];exact cJ _)
   exact⟨⟨hl,e2⟩,my i e1,Be i e1⟩
  |true=>
   by_cases jj:∃ i off,p = .box i off
   .obtain ⟨i,off,rfl⟩:=jj;obtain⟨k1,b1,k2,k3⟩:=k;by_cases e1:i=id
    .subst e1;by_cases e0:off=0
     .subst e0;simp only[PV.kX,cJ,bL];rw[hv]at k2;cases k2;exact⟨⟨k1,kj⟩,b,1,1,by show(if i=i then _ else _)=_;rw[bw rfl],k3⟩
     .simp only[PV.kX,cJ,bL,dc e0,bM,bE];exact .any _
    .have e2:i=q:=by
      simp only[PV.kW,ef,fB,eW,eZ]at hp;rcases hp with hp|hp
      .exact absurd (kS.1 hp).symm e1
      .exact (kS.1 hp).symm
     simp only[PV.kX,dc e1,bM,bE,e2,cJ,bL];have e3:Nat.beq q id=false:=dc λh=>kj h.symm
     simp only[e3,bM,bE];exact .any _
   .rw [YI hp λi off h=>jj ⟨i,off,h⟩];exact .any _
 refine⟨L',r.hd,r.hs,λt=>?_,λi b' hb=>?_,λi=>?_,λi y hy=>?_,λi y hy=>?_,λi j y hi hj=>?_,r.he.trans zo,λyr i b' hb=>?_⟩
 .rw [PS.Cf];exact hT _ _ (r.ht t)
 .rw [ju]at hb;by_cases e:id=i
  .subst e;rw[bw rfl]at hb;cases hb;have FY:∀ j,L'.iU id j=L.val q:=λj=>by show(if id=id then _ else _)=_;rw[bw rfl]
   refine .inr ⟨b,1,#[L.val q],λ_=>f,by show(if id=id then _ else _)=_;rw[bw rfl],hw,bD _,aE,rfl,λk hk _=>?_,λu hu=>?_,λk hk=>?_,λy=>?_,λk k' y hk FZ _ _=> aC,λk hk=>?_⟩
   .obtain rfl:k=0:= aC ;rw[FY];rfl
   .have:u=L.val q:=by simpa using hu
    rw[this];exact kt.2
   .rw [FY];exact⟨q1.block λy hy=>Jn q y (λh=>kj h.symm) ((q2 y).2 hy),λi j hi hj=>⟨iJ.kN (q3 i j hi hj).1,(q3 i j hi hj).2⟩⟩
   .rw [zF];constructor
    .rintro (h|h)
     .exact .inl ((i2 y).1 h)
     .exact .inr ⟨0,aE,by rw[FY];exact(q2 y).1 h⟩
    .rintro (h|⟨k,_,h⟩)
     .exact .inl ((i2 y).2 h)
     .rw [FY]at h;exact .inr ((q2 y).2 h)
   .rw [FY];intro h;exact kj (r.hi id q b ((i2 b).2 rfl) ((q2 b).2 h))
  .rw [bu e]at hb;by_cases e2:i=q
   .rw [bw e2]at hb;cases hb
   .rw [bu e2]at hb;have e':i≠id:=λh=>e h.symm
    obtain⟨b0',mf,rfl⟩:=b7.1 hb;exact nF.map (g:=λp=>p) iJ (by rw[CQ];exact r.hb i b0' mf) (my i e') (λy=>(lO i e' y).trans ⟨λh=>h.1,λh=>⟨h,e2⟩⟩) (Be i e') (λy hy=>Jn i y e' hy) λp v _ k=>hT p v k
 .rw [ju];show L.mg i/\i≠q↔_;by_cases e:id=i
  .subst e;rw[bw rfl];exact⟨λ_=>rfl,λ_=>⟨pG,kj⟩⟩
  .rw [bu e];by_cases e2:i=q
   .subst e2;simp
   .rw [bu e2];rw[fw];exact⟨λh=>(r.hv i).1 h.1,λh=>⟨(r.hv i).2 h,e2⟩⟩
 .by_cases e:i=id
  .subst e;exact⟨pG,kj⟩
  .have:=(lO i e y).1 hy;exact⟨r.hn i y this.1,this.2⟩
 .by_cases e:i=id
  .subst e;rcases(zF y).1 hy with h|h
   .exact ⟨(r.hw _ y h).1,bX (r.hw _ y h).2 ht.size⟩
   .exact ⟨(r.hw _ y h).1,bX (r.hw _ y h).2 ht.size⟩
  .have h:=((lO i e y).1 hy).1;exact⟨(r.hw _ y h).1,bX (r.hw _ y h).2 ht.size⟩
 .by_cases e1:i=id
  .by_cases e2:j=id
   .rw [e1,e2]
   .exfalso;subst e1;have h2:=(lO j e2 y).1 hj;rcases(zF y).1 hi with h|h
    .exact e2 (r.hi j _ y h2.1 h)
    .exact h2.2 (r.hi j q y h2.1 h)
  .by_cases e2:j=id
   .exfalso;subst e2;have h1:=(lO i e1 y).1 hi;rcases(zF y).1 hj with h|h
    .exact e1 (r.hi i _ y h1.1 h)
    .exact h1.2 (r.hi i q y h1.1 h)
   .exact r.hi i j y ((lO i e1 y).1 hi).1 ((lO j e2 y).1 hj).1
 .rw [ju]at hb;by_cases e:id=i
  .rw [bw e]at hb;cases hb;show nl=true;exact r.hl yr q (.row nl T0 n sz el) hq
  .rw [bu e]at hb;by_cases e2:i=q
   .rw [bw e2]at hb;cases hb
   .rw [bu e2]at hb;obtain⟨b0',mf,rfl⟩:=b7.1 hb;rw[CR];exact r.hl yr i b0' mf
def Lk.qo(L:Lk)(id q:Nat)(O:Nat->Prop)(v:Value)(iU:Nat->Value):Lk:=
 {mg:=λi=>(i=id\/L.mg i)/\i≠q
  own:=λi x=>if i=id then O x else L.own i x/\i≠q
  val:=λi=>if i=id then v else L.val i
  iU:=λi j=>if i=id then iU j else L.iU i j }
def jq.qo{w0:World}{B:Nat->Prop}{σ:PS}{a:Act}{w:World}{L:Lk}(r:jq w0 B σ a w L){id q:Nat}(kj:id≠q)(b':Bx)(O:Nat->Prop)(v:Value)(iU:Nat->Value)(w':World)
 (hO:∀ x,O x->(L.own id x\/L.own q x\/w.heap.size<=x)/\x<w'.heap.size) (mQ:w.heap.size<=w'.heap.size) (xk:∀ x,x<w.heap.size->¬L.own id x->w'.heap[x]? = w.heap[x]?)
 (Cq:w'.os=w.os) (Ni:w'.tape=w.tape) (qc:w'.output=w.output)
 (hB:rp L w (L.qo id q O v iU) w'->nF (ji B (L.qo id q O v iU)) (jx (L.qo id q O v iU)) (L.qo id q O v iU) w' id b')
 (kI:L.mg id->∀ b,L.val id ≠ .pointer (some b)) (jQ:σ.nl=true->b'.nl=true):jq w0 B (σ.om (.oK id q b')) a w' (L.qo id q O v iU):=by
 have my:∀ i,i≠id->(L.qo id q O v iU).val i=L.val i:=λi e=>by show(if i=id then _ else _)=_;rw[bu e]
 have Be:∀ i,i≠id->∀ j,(L.qo id q O v iU).iU i j=L.iU i j:=λi e j=>by show(if i=id then _ else _)=_;rw[bu e]
 have lO:∀ i,i≠id->∀ y,(L.qo id q O v iU).own i y↔L.own i y/\i≠q:=λi e y=>by show(if i=id then _ else _)↔_;rw[bu e]
 have zF:∀ y,(L.qo id q O v iU).own id y↔O y:=λy=>by show(if id=id then _ else _)↔_;rw[bw rfl]
 have iJ:rp L w (L.qo id q O v iU) w':=by
  refine⟨mQ,λy hy h=>?_,λy hy hm=>xk y hy λho=>hm ⟨id,ho⟩⟩;obtain⟨i,hi⟩:=h;by_cases e:i=id
  .subst e;rcases(hO y ((zF y).1 hi)).1 with h|h|h
   .exact ⟨i,h⟩
   .exact ⟨q,h⟩
   .omega
  .exact ⟨i,((lO i e y).1 hi).1⟩
 have ju:∀ i,(σ.om (.oK id q b')).bo i=if id=i then some b' else if i=q then none else(σ.bo i).map (Bx.qT (PV.kX (.oK id q b'))):=by
  intro i;show look (uh ((σ.pre (.oK id q b')).filter λy=>!Nat.beq y.1 q) id _) i=_;rw[CO];by_cases e:id=i
  .rw [bw e,bw e]
  .rw [bu e,bu e,CN,PS.AI];by_cases e2:q=i
   .rw [bw e2,bw e2.symm]
   .rw [bu e2,bu λh=>e2 h.symm]
 have zo:Below w0.heap.size w w':=⟨Cq,Ni,qc,mQ,λy hy=>xk y (bX hy r.he.size) λho=>by have:=(r.hw id y ho).1;omega⟩
 have Jn:∀ i y,i≠id->L.own i y->w'.heap[y]? = w.heap[y]?:=λi y e hy=>xk y (r.hw i y hy).2 λho=>e (r.hi i id y hy ho)
 have hwl:∀ i y,L.own i y->w0.heap.size<=y/\y<w'.heap.size:=λi y h=>⟨(r.hw i y h).1,bX (r.hw i y h).2 mQ⟩
 have hT:∀ (p:PV) (v0:Value),kU (ji B L) (jx L) L w p v0->kU (ji B (L.qo id q O v iU)) (jx (L.qo id q O v iU)) (L.qo id q O v iU) w' (p.kX (.oK id q b')) v0:=by
  intro p v0 k;cases hp:p.kW.any (λy=>Nat.beq id y||Nat.beq q y)with
  |false=>
   rw[PL hp];refine k.move iJ λi hi hl=>?_
   have:=df.1 hp i hi;simp only[eZ,not_or]at this;have e1:i≠id:=λe=>this.1 (by rw[e];exact cJ _)
   have e2:i≠q:=λe=>this.2 (by rw[e];exact cJ _)
   exact⟨⟨.inr hl,e2⟩,my i e1,Be i e1⟩
  |true=>
   by_cases jj:∃ i off,p = .box i off
   .obtain ⟨i,off,rfl⟩:=jj;obtain⟨k1,b1,k2,k3⟩:=k;by_cases e1:i=id
    .subst e1;exact absurd k2 (kI k1 _)
    .have e2:i=q:=by
      simp only[PV.kW,ef,fB,eW,eZ]at hp;rcases hp with hp|hp
      .exact absurd (kS.1 hp).symm e1
      .exact (kS.1 hp).symm
     have e3:Nat.beq q id=false:=dc λh=>kj h.symm
     simp only[PV.kX,e2,e3,cJ,bL,bM,bE];exact .any _
   .rw [YI hp λi off h=>jj ⟨i,off,h⟩];exact .any _
 refine⟨r.hd,r.hs,λt=>?_,λi b hb=>?_,λi=>?_,λi y hy=>?_,λi y hy=>?_,λi j y hi hj=>?_,r.he.trans zo,λyr i b hb=>?_⟩
 .rw [PS.Cf];exact hT _ _ (r.ht t)
 .rw [ju]at hb;by_cases e:id=i
  .subst e;rw[bw rfl]at hb;cases hb;exact hB iJ
  .rw [bu e]at hb;by_cases e2:i=q
   .rw [bw e2]at hb;cases hb
   .rw [bu e2]at hb;have e':i≠id:=λh=>e h.symm
    obtain⟨b0',mf,rfl⟩:=b7.1 hb;exact nF.map (g:=λp=>p) iJ (by rw[CQ];exact r.hb i b0' mf) (my i e') (λy=>(lO i e' y).trans ⟨λh=>h.1,λh=>⟨h,e2⟩⟩) (Be i e') (λy hy=>Jn i y e' hy) λp v _ k=>hT p v k
 .rw [ju];show(i=id\/L.mg i)/\i≠q↔_;by_cases e:id=i
  .subst e;rw[bw rfl];exact⟨λ_=>rfl,λ_=>⟨.inl rfl,kj⟩⟩
  .rw [bu e];have e':i≠id:=λh=>e h.symm
   by_cases e2:i=q
   .subst e2;simp
   .rw [bu e2];rw[fw];exact⟨λh=>(r.hv i).1 (h.1.resolve_left e'),λh=>⟨.inr ((r.hv i).2 h),e2⟩⟩
 .by_cases e:i=id
  .subst e;exact⟨.inl rfl,kj⟩
  .have:=(lO i e y).1 hy;exact⟨.inr (r.hn i y this.1),this.2⟩
 .by_cases e:i=id
  .subst e;obtain⟨h,h2⟩:=hO y ((zF y).1 hy);rcases h with h|h|h
   .exact ⟨(r.hw _ y h).1,h2⟩
   .exact ⟨(r.hw _ y h).1,h2⟩
   .exact ⟨bI r.he.size h,h2⟩
  .exact hwl i y ((lO i e y).1 hy).1
 .have cross:∀ j,j≠id->L.own j y/\j≠q->O y->False:=by
   intro j e h2 h;rcases(hO y h).1 with h|h|h
   .exact e (r.hi j _ y h2.1 h)
   .exact h2.2 (r.hi j q y h2.1 h)
   .have:=(r.hw j y h2.1).2;omega
  by_cases e1:i=id
  .by_cases e2:j=id
   .rw [e1,e2]
   .subst e1;exact(cross j e2 ((lO j e2 y).1 hj) ((zF y).1 hi)).elim
  .by_cases e2:j=id
   .subst e2;exact(cross i e1 ((lO i e1 y).1 hi) ((zF y).1 hj)).elim
   .exact r.hi i j y ((lO i e1 y).1 hi).1 ((lO j e2 y).1 hj).1
 .rw [ju]at hb;by_cases e:id=i
  .rw [bw e]at hb;cases hb;exact jQ yr
  .rw [bu e]at hb;by_cases e2:i=q
   .rw [bw e2]at hb;cases hb
   .rw [bu e2]at hb;obtain⟨b0',mf,rfl⟩:=b7.1 hb;rw[CR];exact r.hl yr i b0' mf
def Lk.UQ{L:Lk}{id q:Nat}{O:Nat->Prop}{v:Value}{iU:Nat->Value}(x:Nat):(L.qo id q O v iU).own id x↔O x:=by simp[Lk.qo]
def Lk.Gm{L:Lk}{id q:Nat}{O:Nat->Prop}{v:Value}{iU:Nat->Value}:(L.qo id q O v iU).val id=v:=by simp[Lk.qo]
def Lk.yE{L:Lk}{id q:Nat}{O:Nat->Prop}{v:Value}{iU:Nat->Value}(k:Nat):(L.qo id q O v iU).iU id k=iU k:=by simp[Lk.qo]
def Lk.NH{L:Lk}{id q:Nat}(kj:id≠q){O:Nat->Prop}{v:Value}{iU:Nat->Value}:(L.qo id q O v iU).mg id:=⟨.inl rfl,kj⟩
def jq.RN{w0:World}{B:Nat->Prop}{σ:PS}{a:Act}{w:World}{L:Lk}(r:jq w0 B σ a w L)(id:Nat):∃ L',jq w0 B (σ.om (.fin id)) a w L'/\(∀ i x,L'.own i x->L.own i x)/\(σ.om (.fin id)).bo id=none:=by
 let L':Lk:=⟨λi=>L.mg i/\i≠id,λi x=>L.own i x/\i≠id,L.val,L.iU⟩
 have iJ:rp L w L' w:=⟨bD _,λx _ ⟨i,h,_⟩=>⟨i,h⟩,λ_ _ _=>rfl⟩
 have rD:∀ i,(σ.om (.fin id)).bo i=if i=id then none else(σ.bo i).map (Bx.qT (PV.kX (.fin id))):=by
  intro i;show look ((σ.pre (.fin id)).filter λx=>!Nat.beq x.1 id) i=_;rw[CN,PS.AI];by_cases h:i=id
  .rw [bw h,bw h.symm]
  .rw [bu h,bu (λe=>h e.symm)]
 have hT:∀ (p:PV) (v:Value),kU (ji B L) (jx L) L w p v->kU (ji B L') (jx L') L' w (p.kX (.fin id)) v:=by
  intro p v k;show kU _ _ _ _ (if p.kW.any (Nat.beq id)then .e .any else p) _;cases hp:p.kW.any (Nat.beq id)with
  |true=>exact .any _
  |false=>
   refine kU.move iJ k λi hi pG=>⟨⟨pG,?_⟩,rfl,λ_=>rfl⟩
   rintro rfl;have:=df.1 hp i hi;simp at this
 refine⟨L',⟨r.hd,r.hs,λt=>?_,λi b' h=>?_,λi=>?_,λi x h=>⟨r.hn i x h.1,h.2⟩,λi x h=>r.hw i x h.1,λi i' x h k=>r.hi i i' x h.1 k.1,r.he,λh i b' k=>?_⟩,λi x h=>h.1,by rw[rD,bw rfl]⟩
 .rw [PS.Cf];exact hT _ _ (r.ht t)
 .rw [rD]at h;split at h
  .cases h
  .rename_i hi;obtain⟨b0',mf,rfl⟩:=b7.1 h;exact nF.map (g:=λp=>p) iJ (by rw[CQ];exact r.hb i b0' mf) rfl (λx=>⟨λq=>q.1,λq=>⟨q,hi⟩⟩) (λ_=>rfl) (λ_ _=>rfl) λp v _ k=>hT p v k
 .rw [rD];show L.mg i/\i≠id↔_;by_cases hi:i=id
  .subst hi;simp
  .simp only[hi,dv,eX,fO,bE,fw];exact r.hv i
 .rw [rD]at k;split at k
  .cases k
  .obtain ⟨b0',mf,rfl⟩:=b7.1 k;rw[CR];exact r.hl h i b0' mf
def RS(σ:PS)(id:Nat)(b:Bx):(σ.om (.fin id)).om (.new id b)=σ.om (.wP id b):=by
 have h:∀ l:List (Nat×Bx),uh (l.filter λx=>!Nat.beq x.1 id) id b=uh l id b:=by
  intro l;unfold uh;rw[List.filter_filter];congr 2;funext x;cases Nat.beq x.1 id<;>rfl
 show PS.mk σ.n σ.nl (σ.t.map _) (uh ((σ.pre (.fin id)).filter λx=>!Nat.beq x.1 id) id b)=PS.mk σ.n σ.nl (σ.t.map _) (uh (σ.pre (.wP id b)) id b);rw[h];rfl
def YB{T:List TI}{t:TypeId}{x:TI}(h:mN T t=some x):x ∈ T/\x.id=t:=by
 induction T with
 |nil=>cases h
 |cons y l ih=>
  unfold mN at h;split at h
  .rename_i hb;cases h;exact⟨aH,kS.1 hb⟩
  .obtain ⟨h1,h2⟩:=ih h;exact⟨by simp[h1],h2⟩
def mB.rn{P:Program}{T:List TI}(hT:mB P T){t:TypeId}{x:TI}(h:mN T t=some x):P.underlying t=some x.d:=by
 obtain⟨h1,h2⟩:=YB h;rw[<-h2];exact(hT x h1).1
def mB.zQ{P:Program}{T:List TI}(hT:mB P T){t:TypeId}{x:TI}(h:mN T t=some x):P.info? t=some x.i:=by
 obtain⟨h1,h2⟩:=YB h;rw[<-h2];exact(hT x h1).2
def AN{T:List TI}{t:TypeId}{d:TypeDesc}(h:w8 T t=some d):∃ x,mN T t=some x/\x.d=d:=by
 unfold w8 at h;split at h
 .rename_i x hx;exact⟨x,hx,by simpa using h⟩
 .cases h
section
variable {P:Program} {T:List TI} (hT:mB P T) (w:World)
include hT
def uf{t:TypeId}{x:TI}(h:mN T t=some x):(sizeOf t).run P w = .ok x.i.size w:=by
 simp[sizeOf,typeInfo,hT.zQ h]
def Pe{t:TypeId}{x:TI}(h:mN T t=some x){z:Value}(hz:x.i.zero=some z):(zeroValue t).run P w = .ok z w:=by
 simp[zeroValue,typeInfo,hT.zQ h,hz]
def Kh{t:TypeId}{x:TI}(h:mN T t=some x):(isAgg t).run P w = .ok x.isAgg w:=by
 unfold isAgg TI.isAgg;rw[Sem.run_bind,run_underlying (hT.rn h) w];cases x.d<;>simp
def Xa{t:TypeId}{x:TI}(h:mN T t=some x)(ha:x.isAgg=true)(b o:Nat)(vs:List Value)(hl:vs.length=x.i.size)
 (hc:∀ (j:Nat) (u:Value),vs[j]? = some u->w.cell? ⟨b,o+j,none⟩=some u):(loadVar t ⟨b,o,none⟩).run P w = .ok (.agg vs.toArray) w:=by
 have hr:=run_loadCells_list (P:=P) w ⟨b,o,none⟩ vs (λj v hv=>by rw[Addr.add_lit];exact hc j v hv);rw[hl]at hr;simp[loadVar,Kh hT w h,ha,uf hT w h,hr]
def Ki{t:TypeId}{x:TI}(h:mN T t=some x)(ha:x.isAgg=false)(b o:Nat)(u:Value)(hc:w.cell? ⟨b,o,none⟩=some u):(loadVar t ⟨b,o,none⟩).run P w = .ok u w:=by
 simp[loadVar,Kh hT w h,ha,hc]
def EI{t:TypeId}{x:TI}(h:mN T t=some x)(b o:Nat)(E:TypeId)(cur:Array Value)(hg:w.heap[b]? = some (.cells cur E (0,0)))(v:Value)(hl:v.cells.toList.length=x.i.size)
 (rE:o+v.cells.toList.length<=cur.size) (h1:∀ u ∈ v.cells.toList,u.oneCell'=true):
 (storeVar t ⟨b,o,none⟩ v).run P w = .ok () (w.setRow b (cur.toList.take o++v.cells.toList++cur.toList.drop (o+v.cells.toList.length)).toArray):=by
 have hr:=run_storeCells_at P b o E v.cells.toList 0 cur w hg (by simpa using rE) h1;simp only[ch]at hr;have qM:v.cells.size=x.i.size:=by simpa using hl
 simp only[storeVar,Sem.run_bind,uf hT w h,Result.andThen,qM,dv,amZ,bE,hr,Sem.run_ite,Sem.run_pure]
end
def qY.setRow{L:Lk}{w:World}{id b:Nat}(hb:L.own id b)(iJ:∀ x,L.own id x->x<w.heap.size)(cs:Array Value):qY L w id (L.own id) (w.setRow b cs):=
 ⟨λx hx=>⟨.inl hx,by simpa using iJ x hx⟩,aH,λx _ kj=>setRow_other w b x cs (λe=>kj (e▸hb)),rfl,rfl,rfl⟩
def ke(P:Program)(K:World->Prop)(w0:World)(B:Nat->Prop)(σ:PS)(o:Oper)(a:Act)(w:World)(u:kC):Prop:=
 ∃ v w' L',((execOp a.eval o).run P w = .ok (.value v) w'\/((execOp a.eval o).run P w = .ok .skip w'/\v=undef))/\jq w0 B (σ.om u.f) a w' L'/\kU (ji B L') (jx L') L' w' u.r v
section
variable {P:Program} {K:World->Prop} {w0:World} {B:Nat->Prop} {σ:PS} {o:Oper} {a:Act} {w:World} {L:Lk} {u:kC}
def ke.pure(r:jq w0 B σ a w L){v:Value}(kP:(execOp a.eval o).run P w = .ok (.value v) w)(hf:u.f = .none)(hp:kU (ji B L) (jx L) L w u.r v):ke P K w0 B σ o a w u:=
 ⟨v,w,L,.inl kP,by rw[hf];exact r,hp⟩
def ahS{l:List PV}{es:List E}(h:J0 l=some es):l=es.map .e:=by
 induction l generalizing es with
 |nil=>cases h;rfl
 |cons p l ih=>
  cases p with
  |e x=>
   simp only[J0]at h;obtain⟨t,ht,rfl⟩:=b7.1 h;rw[ih ht];rfl
  |_=>cases h
def jq.read(r:jq w0 B σ a w L){p:PV}{v:Value}(hp:kU (ji B L) (jx L) L w p v){m:Nat}{l:List E}{is:List Nat}{jL:List Prop}(h:σ.read p m=some (l,is,jL))(ho:∀ q,q ∈ jL->q):
 ∃ b q vs,v = .pointer (some ⟨b,q,none⟩)/\ky (ji B L) (jx L) w l vs/\vs.length=m/\∀ (j:Nat) (u:Value),vs[j]? = some u->w.cell? ⟨b,q+j,none⟩=some u:=by
 have tab:∀ (b q:Nat) (g:Nat->E) (f:Nat->Value),(∀ j,j<m->w.cell? ⟨b,q+j,none⟩=some (f j)/\iO (ji B L) (jx L) w (g j) (f j)) ->
  ∃ vs:List Value,ky (ji B L) (jx L) w ((List.range m).map g) vs/\vs.length=m/\∀ (j:Nat) (u:Value),vs[j]? = some u->w.cell? ⟨b,q+j,none⟩=some u:=by
  intro b q g f hc;refine⟨(List.range m).map f,⟨aH,λi p x hp hx=>?_⟩,aH,λj u hu=>?_⟩
  .rw [cG]at hp hx;obtain⟨i1,zz,rfl⟩:=b7.1 hp;obtain⟨i2,DT,rfl⟩:=b7.1 hx;rw[zz]at DT;cases DT;obtain⟨iJ,rfl⟩:=cw.1 zz;simp at iJ;simpa using(hc i iJ).2
  .rw [cG]at hu;obtain⟨i1,zz,rfl⟩:=b7.1 hu;obtain⟨iJ,rfl⟩:=cw.1 zz;simp at iJ;simpa using(hc j iJ).1
 cases p with
 |box id off=>
  simp only[PS.read]at h;split at h
  .rename_i T l0 ju;split at h
   .rename_i hle;simp only[bK,bU]at h;obtain⟨rfl,rfl,rfl⟩:=h;obtain⟨b,vs,h1,h2,h3,h4,h5⟩:=r.hb id _ ju;obtain⟨_,b',k2,rfl⟩:=hp;rw[h1]at k2;cases k2;have MZ:=cU hle;refine⟨b,off,(vs.drop off).take m,rfl,(h4.drop off).take m,by simp[h4.len];omega,λj u hu=>?_⟩;rw[dM]at hu;split at hu
    .rw [dN]at hu;simp only[World.cell?,h3];simpa using hu
    .cases hu
   .cases h
  .rename_i nl T l0 ju;split at h
   .rename_i hle;obtain⟨es,FT,h⟩:=b7.1 h;simp only[bU]at h;obtain⟨rfl,rfl,rfl⟩:=h;obtain⟨b,vs,h1,h2,h3,h4,h5,h6⟩:=r.hb id _ ju;obtain⟨_,b',k2,rfl⟩:=hp;rw[h1]at k2;cases k2;have MZ:=cU hle;have hm:=ahS FT;have hlen:es.length=m:=by
     have:=congrArg List.length hm;simp only[cF,eV,b6]at this;omega
    refine⟨b,off,(vs.drop off).take m,rfl,⟨by simp[h4,hlen];omega,λi p x hp hx=>?_⟩,by simp[h4];omega,λj u hu=>?_⟩
    .have hq:((l0.drop off).take m)[i]? = some (.e p):=by rw[hm,cG,hp];rfl
     rw[dM]at hq hx;split at hq
     .rename_i hi;rw[bw hi,dN]at hx;rw[dN]at hq;exact h5 _ _ _ hq hx
     .cases hq
    .rw [dM]at hu;split at hu
     .rw [dN]at hu;simp only[World.cell?,h3];simpa using hu
     .cases hu
   .cases h
  .cases h
 |nk id sz i j=>
  simp only[PS.read]at h;split at h
  .rename_i nl T n s el ju;split at h
   .rename_i hle;simp only[bK,bU]at h;obtain⟨rfl,rfl,rfl⟩:=h;simp only[bO]at hle;have e1:=kS.1 hle.1;have e2:=cU hle.2;subst e1;have hi:i<n:=ho _ aH;obtain⟨f,h1,h2,h3⟩:=r.hb id _ ju;obtain⟨_,b,n',c',k2,rfl⟩:=hp;rcases h1 with⟨h1,_⟩|⟨b',c,cur,h1,hg,oJ,nS,mE,kt,jQ⟩
    .rw [k2]at h1;cases h1
    .rw [k2]at h1;cases h1;obtain⟨vs,q1,q2,q3⟩:=tab b (i*s+j) (λq=>el i (j+q)) (λq=>f i (j+q)) (λq hq=>⟨by
      simp only[World.cell?,hg];have:=(kt i (j+q) hi aC).1;rw[<-dt]at this;simpa using this,(h3 i (j+q) hi aC).1⟩)
     exact⟨b,i*s+j,vs,rfl,q1,q2,q3⟩
   .cases h
  .cases h
 |qS id sz k i j=>
  simp only[PS.read]at h;split at h
  .rename_i nl T1 T0 n s len el pend ju;split at h
   .rename_i hle;simp only[bK,bU]at h;obtain⟨rfl,rfl,rfl⟩:=h;simp only[bO]at hle;have e1:=kS.1 hle.1;have e2:=cU hle.2;subst e1;have hk:k<n:=ho _ aH;have hi:i<len k:=ho _ aH;obtain⟨b0,c0,cur0,f,g1,g2,g3,g4,g5,g6,g7,g8,_⟩:=(r.hb id _ ju).wQ aC;obtain⟨h1,h3⟩:=g8 k hk;obtain⟨_,b,n',c',k2,rfl⟩:=hp;rcases h1 with⟨h1,_⟩|⟨b',c,cur,h1,hg,oJ,nS,mE,kt,jQ⟩
    .rw [k2]at h1;cases h1
    .rw [k2]at h1;cases h1;obtain⟨vs,q1,q2,q3⟩:=tab b (i*s+j) (λq=>el k i (j+q)) (λq=>f k i (j+q)) (λq hq=>⟨by
      simp only[World.cell?,hg];have:=(kt i (j+q) hi aC).1;rw[<-dt]at this;simpa using this,(h3 i (j+q) hi aC).1⟩)
     exact⟨b,i*s+j,vs,rfl,q1,q2,q3⟩
   .cases h
  .cases h
 |e x=>
  cases x with
  |jC k el=>
   simp only[PS.read]at h;split at h
   .rename_i hle;simp only[bK,bU]at h;obtain⟨rfl,rfl,rfl⟩:=h;have MZ:=cU hle;cases hp with
    |jC _ _ b q f hb iJ hl cell kk=>
     obtain⟨vs,q1,q2,q3⟩:=tab b q el f (λj hj=>⟨cell j aC,kk j aC⟩);exact⟨b,q,vs,rfl,q1,q2,q3⟩
   .cases h
  |_=>cases h
 |_=>cases h
def EY{ti:TI}{l:List E}(h:yU ti=some l):∃ z,ti.i.zero=some z/\∀ (bs br:Nat->Prop) (w:World),ky bs br w l z.cells.toList/\∀ u ∈ z.cells.toList,u.oneCell'=true:=by
 unfold yU at h;split at h
 .rename_i z hz;exact⟨z,hz,λbs br w=>(iO.v (bs:=bs) (br:=br) (w:=w) z).cells h⟩
 .cases h
def jq.VU(r:jq w0 B σ a w L)(id:Nat)(T:TypeId)(l:List E)(v:Value)(kI:σ.bo id=none)(hv:ky (ji B L) (jx L) w l v.cells.toList)(h1:∀ u ∈ v.cells.toList,u.oneCell'=true)
 (jQ:(!σ.nl||l.all E.mS)=true):
 ∃ L',jq w0 B (σ.om (.new id (.cells T l))) a (w.alloc (.cells v.cells T)) L'/\kU (ji B L') (jx L') L' (w.alloc (.cells v.cells T)) (.box id 0) (.pointer (some ⟨w.heap.size,0,none⟩)):=by
 have hb:Below w.heap.size w (w.alloc (.cells v.cells T)):=(Below.refl _ _).alloc (bD _) _;have S8:∀ x,¬L.own id x:=λx hx=>by have:=(r.hv id).1 (r.hn id x hx);rw[kI]at this;simp at this
 have ht:qY L w id (λx=>x=w.heap.size) (w.alloc (.cells v.cells T)):=⟨λx hx=>⟨.inr aC,aN⟩,hb.size,λx hx _=>hb.block x hx,rfl,rfl,rfl⟩
 have hl:=ht.later (.pointer (some ⟨w.heap.size,0,none⟩)) (λ_=>undef);refine⟨_,r.new id (.cells T l) (λx=>x=w.heap.size) (.pointer (some ⟨w.heap.size,0,none⟩)) (λ_=>undef) _ kI (λx hx=>by subst hx;simp) hb
  ⟨w.heap.size,v.cells.toList,Lk.pj,λx=>Lk.sj x,by rw[Array.toArray_toList];exact heap_alloc_new w _,hv.mono λ_ _=>hl.kN,h1⟩ jQ,Lk.BM,w.heap.size,Lk.pj,rfl⟩
def JE{d:Option Tmp}{b:Bx}{rr:Nat->PV}(h:Bs σ d b rr=some u):∃ id,d=some id/\(!σ.nl||b.nl)=true/\u={ r:=rr id,f:=uF σ id b,rb:=Ad σ id [] }:=by
 unfold Bs at h;split at h
 .rename_i id;split at h
  .rename_i hc;cases h;exact⟨id,rfl,hc,rfl⟩
  .cases h
 .cases h
def jq.VV(r:jq w0 B σ a w L)(id:Nat)(T:TypeId)(l:List E)(v:Value)(hv:ky (ji B L) (jx L) w l v.cells.toList)(h1:∀ u ∈ v.cells.toList,u.oneCell'=true)
 (jQ:(!σ.nl||l.all E.mS)=true):
 ∃ L',jq w0 B (σ.om (uF σ id (.cells T l))) a (w.alloc (.cells v.cells T)) L'/\kU (ji B L') (jx L') L' (w.alloc (.cells v.cells T)) (.box id 0) (.pointer (some ⟨w.heap.size,0,none⟩)):=by
 unfold uF;split
 .rename_i kI;exact r.VU id T l v kI hv h1 jQ
 .obtain ⟨L1,r1,ho,kI⟩:=r.RN id;have hm:∀ x,jx L1 x->jx L x:=λx ⟨i,hi⟩=>⟨i,ho i x hi⟩
  obtain⟨L',r',hp⟩:=r1.VU id T l v kI (hv.mono λ_ _=>iO.qw (λx h=>h.elim .inl λh=>.inr (hm x h)) hm) h1 jQ;rw[RS]at r';exact⟨L',r',hp⟩
def Gw{d:Option Tmp}{b:Bx}{rr:Nat->PV}{jL:List Prop}(h:zZ σ d b rr jL=some u):∃ id,d=some id/\σ.bo id=none/\(!σ.nl||b.nl)=true/\u={ r:=rr id,f:=.new id b,jL:=jL }:=by
 unfold zZ at h;split at h
 .rename_i id;split at h
  .rename_i kI;split at h
   .rename_i hc;cases h;exact⟨id,rfl,kI,hc,rfl⟩
   .cases h
  .cases h
 .cases h
end
def Ht{k:IntKind}{z:Int}(h:kB k z):k.wrap z=z:=by
 cases k<;>simp only[kB]at h<;>simp only[IntKind.wrap,IntKind.bits,IntKind.signed]<;>simp<;>(try split)<;>omega
def aiH{k:IntKind}{x y:Int}(h:kB k x)(hy:0<y):kB k (x.tdiv y):=by
 by_cases h0:0<=x
 .have h1:0<=x/y:=Int.ediv_nonneg h0 aC ;have h2:x/y<=x:=Int.ediv_le_self y h0;rw[ang h0];cases k<;>simp only[kB]at h ⊢ <;> omega
 .obtain ⟨z,rfl⟩:∃ z,x = -z:=⟨-x,aC⟩
  have h0:0<=z:= aC ;have h1:0<=z/y:=Int.ediv_nonneg h0 aC;have h2:z/y<=z:=Int.ediv_le_self y h0;rw[Int.neg_tdiv,ang h0];cases k<;>simp only[kB]at h ⊢ <;> omega
def acA{P:Program}{op:BinOp}{k k':IntKind}{x y:Int}{v:Value}{jL:List Prop}(h:LP op k x y=some (v,jL))(ho:∀ q,q ∈ jL->q)
 (hk:Xd op k k'=true) (t:TypeId) (w:World):(binOp op t (.int k x) (.int k' y)).run P w = .ok v w:=by
 cases op<;>simp only[LP,bK,bU,reduceCtorEq]at h<;>(obtain⟨rfl,rfl⟩:=h)<;>(try (have FZ:=cQ hk;subst FZ))
 case add=>
  rw[binOp_add];by_cases I1:k = .u32
  .subst I1;simp[Op.intArith,K5]
  .have e:K5 k x y=x+y:=by cases k<;>first|rfl|exact absurd rfl I1
   have e2:Qe k x y=[kB k (x+y)]:=by cases k<;>first|rfl|exact absurd rfl I1
   rw[e];simp[Op.intArith,Ht (ho (kB k (x+y)) (by rw[e2];simp))]
 case sub=>rw[binOp_sub];simp[Op.intArith,Ht (ho (kB k (x-y)) aH)]
 case mul=>rw[binOp_mul];simp[Op.intArith,Ht (ho (kB k (x*y)) aH)]
 case quo=>
  have h1:=ho (0<y) aH;have h2:=ho (kB k x) aH;rw[binOp_quo];have hy:¬y=0:= aC ;simp[Op.intDiv,hy,Ht (aiH h2 h1)]
 case rem=>
  have h1:=ho (0<y) aH;rw[binOp_rem];have hy:¬y=0:= aC ;simp[Op.intDiv,hy]
 case and=>rw[binOp_and,intBits_and];rfl
 case or=>rw[binOp_or,intBits_or];rfl
 case shl=>
  have h1:=ho (0<=y/\y<=k.bits) aH;rw[binOp_shl,shift_shl k k' x y h1.1 h1.2];rfl
 case shr=>
  have h1:=ho (0<=y/\y<=k.bits) aH;rw[binOp_shr,shift_shr k k' x y h1.1 h1.2];rfl
 case eql=>rw[binOp_eql];rfl
 case neq=>rw[binOp_neq];rfl
 case lss=>rw[binOp_lss];rfl
 case leq=>rw[binOp_leq];rfl
 case gtr=>rw[binOp_gtr];rfl
 case geq=>rw[binOp_geq];rfl
section
variable {P:Program} {K:World->Prop} {T:List TI} {O:qy} {w0:World} {B:Nat->Prop} {σ:PS} {o:Oper} {a:Act} {w:World} {L:Lk} {u:kC}
def adO{x:Operand}(iH:o.op = .move x)(r:jq w0 B σ a w L)(h:jM P K T O σ o=some u):ke P K w0 B σ o a w u:=by
 simp only[jM,iH]at h;cases h;exact ke.pure r (by simp only[execOp,iH];rfl) rfl (r.op x)
def adu{x:Operand}(iH:o.op = .assign x)(r:jq w0 B σ a w L)(h:jM P K T O σ o=some u):ke P K w0 B σ o a w u:=by
 simp only[jM,iH]at h;cases h;exact ke.pure r (by simp only[execOp,iH];rfl) rfl (r.op x)
def adQ{c x y:Operand}(iH:o.op = .pick c x y)(r:jq w0 B σ a w L)(h:jM P K T O σ o=some u):ke P K w0 B σ o a w u:=by
 simp only[jM,iH]at h;have hc:=r.op c;split at h
 .rename_i hv;rw[hv]at hc;have hc:=iO.kG hc;cases h;exact ke.pure r (by simp[execOp,iH,hc,asBool]) rfl (r.op x)
 .rename_i hv;rw[hv]at hc;have hc:=iO.kG hc;cases h;exact ke.pure r (by simp[execOp,iH,hc,asBool]) rfl (r.op y)
 .cases h
def adP{x:Operand}(iH:o.op = .nilCheck x)(r:jq w0 B σ a w L)(h:jM P K T O σ o=some u):ke P K w0 B σ o a w u:=by
 simp only[jM,iH]at h;have hc:=r.op x;split at h
 .rename_i hv;rw[hv]at hc;cases h;obtain⟨k1,b,k2,k3⟩:=hc;exact ke.pure r (v:=a.eval x) (by simp[execOp,iH,k3]) rfl ⟨k1,b,k2,k3⟩
 .rename_i hv;rw[hv]at hc;cases h;generalize hq:a.eval x=q at hc;refine ke.pure r (v:=q) ?_ rfl hc;cases hc;simp only[execOp,iH,hq];rfl
 .rename_i hv;rw[hv]at hc;cases h;refine ke.pure r (v:=a.eval x) ?_ rfl hc;obtain⟨vs,e,_⟩:=iO.Sn hc;simp only[execOp,iH,e];rfl
 .rename_i hv;rw[hv]at hc;cases h;refine ke.pure r (v:=a.eval x) ?_ rfl hc;obtain⟨vs,e,_⟩:=hc;simp only[execOp,iH,e];rfl
 .cases h
def adv(hT:mB P T){op:BinOp}{t yt:TypeId}{x y:Operand}(iH:o.op = .binOp op t x y yt)(r:jq w0 B σ a w L)(h:jM P K T O σ o=some u)(ho:∀ q,q ∈ u.jL->q):ke P K w0 B σ o a w u:=by
 simp only[jM,iH]at h;have hx:=r.op x;have hy:=r.op y;split at h
 .rename_i k z k' z' yz Cy;rw[yz]at hx;rw[Cy]at hy;split at h
  .rename_i v hv;cases h;obtain⟨h1,h2⟩:=ho _ (fP.2 rfl) _ _ w _ _ x y hx hy;refine ke.pure r (v:=v) ?_ rfl (.v _);simp only[execOp,iH,Sem.run_bind,h1,Result.andThen_ok,h2,Sem.run_pure]
  have hx:=iO.kG hx;have hy:=iO.kG hy;split at h
  .rename_i hk;obtain⟨rr,hr,rfl⟩:=b7.1 h;have kP:=acA (P:=P) (k':=k') hr ho hk t w;refine ke.pure r (v:=rr.1) ?_ rfl (.v _);simp only[execOp,iH,hx,hy,Sem.run_bind,eqGuard_at_int,Sem.run_pure,Result.andThen_ok,kP]
  .cases h
 .rename_i z z' yz Cy;rw[yz]at hx;rw[Cy]at hy;have hx:=iO.kG hx;have hy:=iO.kG hy;split at h
  .rename_i hd;obtain⟨ti,h1,h2⟩:=AN hd;have hu:P.underlying t=some .bool:=by rw[hT.rn h1,h2]
   split at h
   .cases h;refine ke.pure r (v:=.bool (z==z')) ?_ rfl (.v _);simp only[execOp,iH,hx,hy,Sem.run_bind,eqGuard_at_bool,Sem.run_pure,Result.andThen_ok,run_eql_bool w t z z' hu]
   .cases h;refine ke.pure r (v:=.bool (!(z==z'))) ?_ rfl (.v _);simp only[execOp,iH,hx,hy,Sem.run_bind,eqGuard_at_bool,Sem.run_pure,Result.andThen_ok];have:(binOp .neq t (.bool z) (.bool z')).run P w = .ok (.bool (!(z==z'))) w:=by
     simp only[binOp,Sem.run_bind,run_equal_bool w t z z' hu,Result.andThen_ok,Sem.run_pure]
    rw[this];rfl
   .cases h
  .cases h
 .rename_i nl n sz el yz Cy;rw[yz]at hx;rw[Cy]at hy;have hy:=iO.kG hy;have hx:iO (ji B L) (jx L) w (.sl nl n sz el) (a.eval x):=hx;split at h
  .rename_i e hd;obtain⟨ti,h1,h2⟩:=AN hd;have hu:P.underlying t=some (.slice e):=by rw[hT.rn h1,h2]
   have key:∀ A c,0<n->a.eval x = .slice A n c->iO (ji B L) (jx L) w (.sl nl n sz el) (.slice A n c)->A.isNone=false:=by
    intro A c hn e1 hr;cases A with
    |some ad=>rfl
    |none=>
     cases hr with
     |sl _ _ _ _ _ _ f hc hm h0=>have:=h0 rfl;omega
   generalize hv:a.eval x=vx at hx;cases hx with
   |sl _ _ _ _ A c f hc hm h0 hl hr cell k=>
    have yy:iO (ji B L) (jx L) w (.sl nl n sz el) (.slice A n c):=.sl nl n sz el A c f hc hm h0 hl hr cell k;split at h
    .cases h;have hn:0<n:=ho _ aH;refine ke.pure r (v:=.bool false) ?_ rfl (.v _);simp only[execOp,iH,hv,hy,Sem.run_bind,eqGuard_at_slice,Sem.run_pure,Result.andThen_ok,Lib.run_eql_slice_nil w t e A n c 0 0 hu,key A c hn hv yy]
    .cases h;have hn:0<n:=ho _ aH;refine ke.pure r (v:=.bool true) ?_ rfl (.v _);simp only[execOp,iH,hv,hy,Sem.run_bind,eqGuard_at_slice,Sem.run_pure,Result.andThen_ok,run_neq_slice_nil_any w t e A n c 0 0 hu,key A c hn hv yy,fu]
    .cases h
  .cases h
 .rename_i xe ye yz Cy;rw[yz]at hx;rw[Cy]at hy;split at h
  .rename_i v hv;cases h;obtain⟨h1,h2⟩:=ho _ (fP.2 rfl) _ _ w _ _ x y hx hy;refine ke.pure r (v:=v) ?_ rfl (.v _);simp only[execOp,iH,Sem.run_bind,h1,Result.andThen_ok,h2,Sem.run_pure]
  .cases h
 .cases h
def adT{op:UnOp}{t:TypeId}{x:Operand}(iH:o.op = .unOp op t x)(r:jq w0 B σ a w L)(h:jM P K T O σ o=some u)(ho:∀ q,q ∈ u.jL->q):ke P K w0 B σ o a w u:=by
 simp only[jM,iH]at h;have hx:=r.op x;split at h
 .rename_i z hv;rw[hv]at hx;have hx:=iO.kG hx;cases h;exact ke.pure r (v:=.bool (!z)) (by simp[execOp,iH,hx,Op.unary]) rfl (.v _)
 .rename_i k z hv;rw[hv]at hx;have hx:=iO.kG hx;cases h;have:=Ht (ho (kB k (0-z)) aH);refine ke.pure r (v:=.int k (0-z)) ?_ rfl (.v _);simp only[execOp,iH,hx,Op.unary,Op.intArith,this];rfl
 .cases h
def adz(hT:mB P T){src dst:TypeId}{x:Operand}(iH:o.op = .convert src dst x)(r:jq w0 B σ a w L)(h:jM P K T O σ o=some u):ke P K w0 B σ o a w u:=by
 simp only[jM,iH]at h;have hx:=r.op x;split at h
 .rename_i k ts k' z hd hs hv;rw[hv]at hx;have hx:=iO.kG hx;obtain⟨td,h1,h2⟩:=AN hd;have hu:P.underlying dst=some (.int k):=by rw[hT.rn h1,h2]
  have hk:P.intKind dst=k:=by simp[Program.intKind,hu]
  have kP:=run_convert_int (P:=P) w src dst k' z (by rw[hT.rn hs];rfl) (by rw[hk];exact hu);rw[hk]at kP;cases h;exact ke.pure r (v:=.int k (k.wrap z)) (by simp only[execOp,iH,hx,Sem.run_bind,kP];rfl) rfl (.v _)
 .cases h
def adA{x:Operand}{i:Nat}(iH:o.op = .extract x i)(r:jq w0 B σ a w L)(h:jM P K T O σ o=some u):ke P K w0 B σ o a w u:=by
 simp only[jM,iH]at h;have hx:=r.op x;split at h
 .rename_i l hv;rw[hv]at hx;obtain⟨vs,e,hr⟩:=iO.Yz hx;split at h
  .rename_i y hy;cases h;have iJ:i<vs.length:=by rw[hr.len];exact(cw.1 hy).1
   have Ea:=bG iJ;refine ke.pure r (v:=vs[i]) ?_ rfl (hr.kN i y _ hy Ea);simp only[execOp,iH,e,Instr.extract,gW,Ea];rfl
  .cases h
 .cases h
def Vv{bs:Nat->Prop}{z:Int}{e:E}:∀ {l:List (Int×FuncId×List FuncId)} {es:List MapEntry} (i:Nat),BZ bs w l es->CU l z=some e->(∀ b,jx L b->bs b) ->
 ∃ j v,Instr.findNow (.int .i64) (.int .i64 z) es i=some (some (j,v))/\iO bs (jx L) w e v
 | [],_,_,_,h,_=>by cases h
 |_::_,[],_,k,_,_=>k.elim
 |x::l,y::es,i,⟨⟨k1,vs,k2,k3,k4⟩,k⟩,h,hm=>by
  unfold CU at h;have e0:Instr.sameNow (.int .i64) (.int .i64 z) y.key=some (z==x.1):=by rw[k1];rfl
  by_cases hz:x.1=z
  .rw [bw hz]at h;cases h;have e1:(z==x.1)=true:=by simp[hz]
   refine⟨i,y.val,?_,?_⟩
   .rw [Instr.findNow,e0,e1]
   .rw [k2];refine .fn _ _ vs (by simpa using k3) λj p v hp hv=>?_
    rw[cG]at hp;obtain⟨g,hg,rfl⟩:=b7.1 hp;obtain⟨b,rfl,q2,q3,q4⟩:=k4 j g v hg hv;have hc:∀ q,q<1->w.cell? ⟨b,0+q,none⟩=some (.func (.func g) #[] #[]):=λq hq=>by
     obtain rfl:q=0:= aC ;exact q4
    exact .jC 1 _ b 0 (λ_=>.func (.func g) #[] #[]) (λh=>q2 (hm b h)) q3 (λ_ _=>rfl) hc λ_ _=>.fn g [] [] rfl (λi p x h=>by simp at h)
  .rw [bu hz]at h;have e1:(z==x.1)=false:=by simp;exact λe=>hz e.symm
   obtain⟨j,v,q1,q2⟩:=Vv (i+1) k h hm;exact⟨j,v,by rw[Instr.findNow,e0,e1];exact q1,q2⟩
def abv{k:TypeId}(hk:P.underlying k=some (.int .i64))(e:Bool)(n:Nat)(z:Int):(Instr.checkKey e (n+1) k (.int .i64 z)).run P w = .ok () w:=by
 unfold Instr.checkKey;simp only[Sem.run_bind,run_underlying hk,Result.andThen];rfl
def adI(hT:mB P T){t:TypeId}{x i:Operand}{ok:Bool}(iH:o.op = .lookup t x i ok)(r:jq w0 B σ a w L)(h:jM P K T O σ o=some u)(ho:∀ q,q ∈ u.jL->q):ke P K w0 B σ o a w u:=by
 cases ok with
 |true=>simp[jM,iH]at h
 |false=>
 simp only[jM,iH]at h;have hx:=r.op x;have hi:=r.op i;split at h
 .rename_i l z k e0 hv hw hd;obtain⟨ti,h1,h2⟩:=AN hd;have hu:P.underlying t=some (.map k e0):=by rw[hT.rn h1,h2]
  rw[hv]at hx;rw[hw]at hi;have hi:=iO.kG hi;split at h
  .rename_i e Bc hg;obtain⟨tk,h3,h4⟩:=AN Bc;have hk:P.underlying k=some (.int .i64):=by rw[hT.rn h3,h4]
   cases h;have Cl:CU l z=some e:=ho _ aH;generalize hq:a.eval x=q at hx;cases hx with
   |mp _ b clk es hb iJ hh mv=>
    obtain⟨j,v,q1,q2⟩:=Vv (w:=w) (L:=L) 0 mv Cl λb h=>.inr h
    refine ke.pure r (v:=v) ?_ rfl q2;have qE:(getObj b).run P w = .ok (.map es clk) w:=by simp[getObj,Sem.run,hh]
    have hck:=abv (P:=P) (w:=w) hk es.isEmpty 9999 z;have hfk:(Instr.findKey k (.int .i64 z) es.toList).run P w = .ok (some (j,v)) w:=by unfold Instr.findKey;simp[run_underlying hk,Result.andThen,q1]
    have hl:(Instr.lookup t (.map (some b)) (.int .i64 z) false).run P w = .ok v w:=by
     unfold Instr.lookup;simp[run_underlying hu,qE,hck,hfk,Result.andThen]
    simp only[execOp,iH,hq,hi,Sem.run_bind,hl,Result.andThen_ok,Sem.run_pure]
  .cases h
 .cases h
def adB(hT:mB P T){t:TypeId}{x:Operand}{f:Nat}(iH:o.op = .field t x f)(r:jq w0 B σ a w L)(h:jM P K T O σ o=some u):ke P K w0 B σ o a w u:=by
 simp only[jM,iH]at h;have hx:=r.op x;split at h
 .rename_i l fs hv hd;obtain⟨ti,h1,h2⟩:=AN hd;have hu:P.underlying t=some (.struct fs):=by rw[hT.rn h1,h2]
  rw[hv]at hx;obtain⟨vs,e,hr⟩:=iO.Dt hx;split at h
  .rename_i fd MS;split at h
   .rename_i ft MU;split at h
    .cases h
    .rename_i hag;split at h
     .rename_i y hy;cases h;have iJ:fd.offset<vs.length:=by rw[hr.len];exact(cw.1 hy).1
      have Ea:=bG iJ;refine ke.pure r (v:=vs[fd.offset]) ?_ rfl (hr.kN fd.offset y _ hy Ea);simp only[execOp,iH,e,Instr.field,asAgg,Sem.run_bind,Sem.run_pure,Result.andThen_ok,run_underlying hu,MS,part,Kh hT w MU,hag,gW,Ea];rfl
     .cases h
   .cases h
  .cases h
 .cases h
def abn{ps:List PV}{l:List CV}{vs:List Value}(h:w7 ps=some l)(hlen:vs.length=ps.length)(hr:∀ (i:Nat) (p:PV) (x:Value),ps[i]? = some p->vs[i]? = some x->kU (ji B L) (jx L) L w p x):
 vs.length=l.length/\∀ (i:Nat) (c:CV) (x:Value),l[i]? = some c->vs[i]? = some x->wV (ji B L) (jx L) L w c x:=by
 induction ps generalizing l vs with
 |nil=>cases h;exact⟨hlen,λi c x hc=>by simp at hc⟩
 |cons p ps ih=>
  cases vs with
  |nil=>simp at hlen
  |cons y vs=>
   have step:∀ (c0:CV) (l':List CV),w7 ps=some l'->wV (ji B L) (jx L) L w c0 y->l=c0::l' ->
    (y::vs).length=l.length/\∀ (i:Nat) (c:CV) (x:Value),l[i]? = some c->(y::vs)[i]? = some x->wV (ji B L) (jx L) L w c x:=by
    intro c0 l' qM oO hl;obtain⟨i1,i2⟩:=ih qM (by simpa using hlen) (λi p x hp hx=>hr (i+1) p x (by simpa using hp) (by simpa using hx));subst hl;refine⟨by simp[i1],λi c x hc hx=>?_⟩;cases i with
    |zero=>simp at hc hx;subst hc hx;exact oO
    |succ i=>simp at hc hx;exact i2 i c x hc hx
   have h0:=hr 0 p y rfl rfl;cases p with
   |e x=>
    simp only[w7]at h;obtain⟨l',qM,rfl⟩:=b7.1 h;exact step (.e x) l' qM h0 rfl
   |box id off=>
    cases off with
    |zero=>
     simp only[w7]at h;obtain⟨l',qM,rfl⟩:=b7.1 h;exact step (.box id) l' qM h0 rfl
    |succ=>simp[w7]at h
   |nk id sz i j=>
    simp only[w7]at h;split at h
    .rename_i hc;simp only[bO]at hc;obtain rfl:=kS.1 hc.1.1;obtain rfl:=kS.1 hc.1.2;obtain rfl:=kS.1 hc.2;obtain⟨l',qM,rfl⟩:=b7.1 h;obtain⟨k1,b,n,c,k2,k3⟩:=h0;exact step (.row id) l' qM ⟨k1,b,n,c,k2,by simpa using k3⟩ rfl
    .cases h
   |_=>simp[w7]at h
def adJ{fn:Fn}{first cap:Array Operand}(iH:o.op = .makeFunc fn first cap)(r:jq w0 B σ a w L)(h:jM P K T O σ o=some u):ke P K w0 B σ o a w u:=by
 cases fn with
 |func f=>
  simp only[jM,iH]at h;split at h
  .rename_i aeo;have hf:first = #[]:=by simpa using aeo
   subst hf;split at h
   .rename_i l hl;cases h;have hc:=abn (B:=B) (L:=L) (w:=w) (vs:=cap.toList.map a.eval) hl aH (λi p x hp hx=>by
     rw[cG]at hp hx;obtain⟨q,hq,rfl⟩:=b7.1 hp;rw[hq]at hx;simp at hx;subst hx;exact r.op q)
    refine ke.pure r (v:=.func (.func f) #[] (cap.toList.map a.eval).toArray) ?_ rfl ⟨cap.toList.map a.eval,rfl,hc.1,hc.2⟩;have e1:cap.map a.eval=(cap.toList.map a.eval).toArray:=by apply dJ;simp
    have e2:(#[]:Array Operand).map a.eval = #[]:= aH ;simp only[execOp,iH,Instr.makeFunc,e1,e2,Sem.run_bind,Sem.run_pure,Result.andThen_ok]
   .cases h
  .cases h
 |_=>simp[jM,iH]at h
def adD(hT:mB P T){t:TypeId}{x i:Operand}(iH:o.op = .index t x i)(r:jq w0 B σ a w L)(h:jM P K T O σ o=some u)(ho:∀ q,q ∈ u.jL->q):ke P K w0 B σ o a w u:=by
 simp only[jM,iH]at h;have hx:=r.op x;have hi:=r.op i;split at h
 .rename_i l k z hv hw;rw[hv]at hx;rw[hw]at hi;have ei:=iO.kG hi;obtain⟨vs,e,hr⟩:=iO.Dt hx;split at h
  .rename_i tt qP;split at h
   .rename_i n e' hd;have hu:P.underlying t=some (.array n e'):=by rw[hT.rn qP,hd]
    split at h
    .rename_i te nU;split at h
     .rename_i hc;simp only[bO,kS]at hc;cases h;obtain⟨yB,zL⟩:=ho (0<=z/\z<n) aH;refine ke.pure r (v:=.agg ((vs.drop (z.toNat*te.i.size)).take te.i.size).toArray) ?_ rfl ((hr.drop _).take _).agg;simp only[execOp,iH,e,ei,Instr.index,asIntOf,Sem.run_bind,Sem.run_pure,Result.andThen_ok,run_underlying hu,yB,zL,and_self,bL,uf hT w nU,part,Kh hT w nU,hc.1];simp
     .cases h
    .cases h
   .cases h
  .cases h
 .cases h
def adC(hT:mB P T){t:TypeId}{x:Operand}{f:Nat}(iH:o.op = .fieldAddr t x f)(r:jq w0 B σ a w L)(h:jM P K T O σ o=some u):ke P K w0 B σ o a w u:=by
 simp only[jM,iH]at h;have hx:=r.op x;split at h
 .rename_i fs hd;obtain⟨ti,h1,h2⟩:=AN hd;have hu:P.underlying t=some (.struct fs):=by rw[hT.rn h1,h2]
  split at h
  .rename_i fd MS;split at h
   .rename_i ft MU;split at h
    .cases h
    .rename_i kj;have aeB:¬ft.i.size=0:=λe=>kj (kS.2 e)
     have kP:∀ b off,a.eval x = .pointer (some ⟨b,off,none⟩)->(execOp a.eval o).run P w = .ok (.value (.pointer (some ⟨b,off+fd.offset,none⟩))) w:=by
      intro b off e;simp only[execOp,iH,e,Instr.fieldAt,Instr.sureAddr,fieldPlace,Sem.run_bind,run_underlying hu,Result.andThen_ok,MS,Sem.run_pure,uf hT w MU,aeB,bE,Addr.add_lit]
     split at h
     .rename_i id off hv;rw[hv]at hx;obtain⟨k1,b,k2,k3⟩:=hx;cases h;exact ke.pure r (kP b off k3) rfl ⟨k1,b,k2,rfl⟩
     .rename_i id sz i j hv;rw[hv]at hx;obtain⟨k1,b,n,c,k2,k3⟩:=hx;cases h;exact ke.pure r (kP b _ k3) rfl ⟨k1,b,n,c,k2,by rw[dt]⟩
     .rename_i id sz k i j hv;rw[hv]at hx;obtain⟨k1,b,n,c,k2,k3⟩:=hx;cases h;exact ke.pure r (kP b _ k3) rfl ⟨k1,b,n,c,k2,by rw[dt]⟩
     .rename_i m el hv;rw[hv]at hx;split at h
      .rename_i hle;have MZ:=cU hle;cases h;generalize hq:a.eval x=q at hx;cases hx with
       |jC _ _ b off g hb iJ hl cell kk=>
        refine ke.pure r (kP b off hq) rfl (.jC _ _ b _ (λj=>g (fd.offset+j)) hb iJ (λj hj=>hl _ aC) (λj hj=>?_) (λj hj=>kk _ aC));have:=cell (fd.offset+j) aC;rwa[<-dt]at this
      .cases h
     .cases h
   .cases h
  .cases h
 .cases h
end
section
variable {P:Program} {K:World->Prop} {T:List TI} {O:qy} {w0:World} {B:Nat->Prop} {σ:PS} {o:Oper} {a:Act} {w:World} {L:Lk} {u:kC}
def af2(hT:mB P T){t:TypeId}{x:Operand}{ti:TI}(ot:mN T t=some ti)(iH:o.op = .load t x)(r:jq w0 B σ a w L)(h:Bo ti (σ.read (σ.op x) ti.i.size)=some u)(ho:∀ q,q ∈ u.jL->q):ke P K w0 B σ o a w u:=by
 cases hr:σ.read (σ.op x) ti.i.size with
 |none=>rw[hr]at h;cases h
 |some y=>
  obtain⟨l,is,jL⟩:=y;rw[hr]at h;simp only[Bo]at h;by_cases ha:ti.isAgg=true
  .rw [bw ha]at h;cases h;obtain⟨b,q,vs,e,h1,h2,h3⟩:=r.read (r.op x) hr ho;refine ke.pure r (v:=.agg vs.toArray) ?_ rfl h1.agg;simp only[execOp,iH,e,Instr.loadAt,Instr.sureAddr,Sem.run_bind,Sem.run_pure,Result.andThen_ok,Xa hT w ot ha b q vs h2 h3]
  .rw [bu ha]at h;have A6:ti.isAgg=false:=by simpa using ha
   split at h
   .rename_i p;cases h;obtain⟨b,q,vs,e,h1,h2,h3⟩:=r.read (r.op x) hr ho;obtain⟨y,ys,rfl,hy,CA⟩:=h1.nE;refine ke.pure r (v:=y) ?_ rfl hy;have hc:=h3 0 y rfl;simp only[execOp,iH,e,Instr.loadAt,Instr.sureAddr,Sem.run_bind,Sem.run_pure,Result.andThen_ok,Ki hT w ot A6 b q y (by simpa using hc)]
   .cases h
def ahu{l:List PV}{off q:Nat}(h:JV l off=some q):l[off]? = some (.own q):=by
 induction l generalizing off with
 |nil=>cases h
 |cons p l ih=>
  cases off with
  |zero=>cases p<;>first|(cases h;rfl)|cases h
  |succ n=>
   have h':JV l n=some q:=by cases p<;>exact h
   simpa using ih h'
def adH(hT:mB P T){t:TypeId}{x:Operand}(iH:o.op = .load t x)(r:jq w0 B σ a w L)(h:jM P K T O σ o=some u)(ho:∀ q,q ∈ u.jL->q):ke P K w0 B σ o a w u:=by
 simp only[jM,iH,IL]at h;split at h
 .rename_i ti ot;split at h
  .rename_i id q pF;by_cases ha:ti.isAgg=true
   .rw [bw ha]at h;cases h
   .rw [bu ha]at h;have A6:ti.isAgg=false:=by simpa using ha
    cases h;have hx:=r.op x;cases hp:σ.op x with
    |box id' off=>
     rw[hp]at pF hx;simp only[Ce]at pF;split at pF
     .rename_i nl T0 l ju;obtain⟨q',hq,pF⟩:=b7.1 pF;simp only[bU]at pF;obtain⟨rfl,rfl⟩:=pF;obtain⟨b,vs,h1,h2,h3,h4,h5,h6⟩:=r.hb id' _ ju;obtain⟨k1,b',k2,k3⟩:=hx;rw[h1]at k2;cases k2;have hl:=ahu hq;obtain⟨v,hv⟩:∃ v,vs[off]? = some v:=⟨_,bG (by rw[h4];exact(cw.1 hl).1)⟩
      have hr:=h5 off _ v hl hv;refine ke.pure r (v:=v) ?_ rfl hr;have kt:w.cell? ⟨b,off,none⟩=some v:=by
       simp only[World.cell?,h3];simpa using hv
      simp only[execOp,iH,k3,Instr.loadAt,Instr.sureAddr,Sem.run_bind,Sem.run_pure,Result.andThen_ok,Ki hT w ot A6 b _ _ kt]
     .cases pF
    |_=>rw[hp]at pF;cases pF
  unfold IM at h;split at h
  .rename_i id i n qn;by_cases ha:ti.isAgg=true
   .rw [bw ha]at h;cases h
   .rw [bu ha]at h;have A6:ti.isAgg=false:=by simpa using ha
    cases h;have hx:=r.op x;cases hp:σ.op x with
    |nk id' sz i' j=>
     rw[hp]at qn hx;simp only[C7]at qn;split at qn
     .rename_i nl T1 T0 n' sz' len el ju;split at qn
      .rename_i hc;simp only[bK,bU]at qn;obtain⟨rfl,rfl,rfl⟩:=qn;simp only[bO]at hc;have e1:=kS.1 hc.1;have e2:=kS.1 hc.2;subst e1 e2;have hi:i'<n':=ho _ aH;obtain⟨b,c,cur,f,h1,h2,h3,h4,h5,h6,h7,h8,h9,rU,r9⟩:=(r.hb id' _ ju).wQ aC;obtain⟨k1,b',n2,c2,k2,k3⟩:=hx;rw[h1]at k2;cases k2;refine ke.pure r (v:=L.iU id' i') ?_ rfl ⟨k1,rfl⟩;have kt:w.cell? ⟨b,i'*1+0,none⟩=some (L.iU id' i'):=by
        simp only[World.cell?,h2];simpa using h6 i' hi aH 
       simp only[execOp,iH,k3,Instr.loadAt,Instr.sureAddr,Sem.run_bind,Sem.run_pure,Result.andThen_ok,Ki hT w ot A6 b _ _ kt]
      .cases qn
     .cases qn
    |_=>rw[hp]at qn;cases qn
  .exact af2 hT ot iH r h ho
 .cases h
def Wn{bs br:Nat->Prop}{l m:List E}{vs us:List Value}(h:ky bs br w l vs)(k:ky bs br w m us)(off:Nat):ky bs br w (BC l off m) (vs.take off++us++vs.drop (off+us.length)):=by
 unfold BC;rw[k.len];exact((h.take off).app k).app (h.drop _)
def ahR{q:E->Bool}{l m:List E}(h:l.all q=true)(k:m.all q=true)(off:Nat):(BC l off m).all q=true:=by
 unfold BC;rw[List.all_append,List.all_append,k];have h1:(l.take off).all q=true:=bT.2 λx hx=>bT.1 h x (ej hx)
 have h2:(l.drop (off+m.length)).all q=true:=bT.2 λx hx=>bT.1 h x (eJ hx)
 rw[h1,h2];rfl
def Wo{R R':PV->Value->Prop}{l m:List PV}{vs us:List Value}(h:vs.length=l.length)(k:us.length=m.length)(off:Nat)
 (hl:∀ (i:Nat) (p:PV) (v:Value),l[i]? = some p->vs[i]? = some v->R p v) (hm:∀ (i:Nat) (p:PV) (v:Value),m[i]? = some p->us[i]? = some v->R' p v) (hR:∀ p v,R p v->R' p v):
 (vs.take off++us++vs.drop (off+us.length)).length=(C2 l off m).length/\∀ (i:Nat) (p:PV) (v:Value),(C2 l off m)[i]? = some p->(vs.take off++us++vs.drop (off+us.length))[i]? = some v->R' p v:=by
 unfold C2;rw[k];refine⟨by simp[h,k],λi p v hp hv=>?_⟩;rw[er,er]at hp hv;simp only[cg,cF,h,k]at hp hv;by_cases h1:i<min off l.length+m.length
 .rw [bw h1]at hp hv;by_cases h2:i<min off l.length
  .rw [bw h2]at hp hv;rw[dM]at hp hv;split at hp
   .rename_i h3;rw[bw h3]at hv;exact hR _ _ (hl i p v hp hv)
   .cases hp
  .rw [bu h2]at hp hv;exact hm _ p v hp hv
 .rw [bu h1]at hp hv;rw[dN]at hp hv;exact hR _ _ (hl _ p v hp hv)
def nN.ML{w:World}{v:Value}{T:TypeId}{n sz:Nat}{f:Nat->Nat->Value}{nl:Bool}(h:nN w v T n sz f nl):v.cells.toList=[v]/\v.oneCell'=true/\qh v=false:=by
 rcases h with⟨rfl,_⟩|⟨b,c,cur,rfl,_⟩<;>exact⟨rfl,rfl,rfl⟩
def nF.ML{bs br:Nat->Prop}{id:Nat}{b:Bx}(h:nF bs br L w id b)(hs:b.Um=true):(L.val id).cells.toList=[L.val id]/\(L.val id).oneCell'=true/\qh (L.val id)=false:=by
 cases b with
 |row nl T n sz el=>obtain⟨f,h1,_⟩:=h;exact h1.ML
 |jU nl T1 T0 n sz len el pend=>
  rcases h with⟨h,_⟩|⟨b,c,cur,f,h,_⟩<;>rw[h]<;>exact⟨rfl,rfl,rfl⟩
 |cells _ _=>cases hs
 |pD _ _ _=>cases hs
def Pp{id:Nat}:∀ i,L.mg i->(L.set id (L.own id) (L.val id) (L.iU id)).mg i/\(L.set id (L.own id) (L.val id) (L.iU id)).val i=L.val i/\∀ j,(L.set id (L.own id) (L.val id) (L.iU id)).iU i j=L.iU i j:=by
 intro i hi;by_cases e:i=id
 .subst e;exact⟨.inr hi,Lk.pj,λj=>Lk.r7 j⟩
 .exact ⟨.inr hi,Lk.yR e,λj=>Lk.Dd e j⟩
def adS(hT:mB P T){t:TypeId}{x y:Operand}(iH:o.op = .store t x y)(r:jq w0 B σ a w L)(h:jM P K T O σ o=some u)(ho:∀ q,q ∈ u.jL->q):ke P K w0 B σ o a w u:=by
 simp only[jM,iH,IQ]at h;have hx:=r.op x;have hy:=r.op y;split at h
 .rename_i ti ot;split at h
  .
   rename_i id off e pf Ct;rw[pf]at hx;rw[Ct]at hy;split at h
   .rename_i T1 l m ju hm;split at h
    .rename_i hc;cases h;simp only[bO]at hc;have c1:=kS.1 hc.1.1;have c2:=cU hc.1.2;obtain⟨b,vs,h1,h2,h3,h4,h5⟩:=r.hb id _ ju;obtain⟨k1,b',k2,k3⟩:=hx;rw[h1]at k2;cases k2;obtain⟨q1,q2⟩:=hy.cells hm;have ht:=qY.setRow (L:=L) ((h2 b).2 rfl) (λx hx=>(r.hw id x hx).2) (vs.take off++(a.eval y).cells.toList++vs.drop (off+(a.eval y).cells.toList.length)).toArray;have hl:=ht.later (L.val id) (L.iU id);refine⟨undef,_,_,.inr ⟨?_,rfl⟩,r.rP id (.cells T1 (BC l off m)) _ k1 ht ⟨b,_,by rw[Lk.pj];exact h1,λx=>(Lk.sj x).trans (h2 x),setRow_heap w b _ _ T1 _ h3,(Wn h4 q1 off).mono λ_ _=>hl.kN,?_⟩ ?_,.any _⟩
     .have hr:=EI hT w ot b off T1 vs.toArray h3 (a.eval y) (by rw[q1.len,c1]) (by rw[q1.len,fA,h4.len];exact c2) q2;simp only[execOp,iH,k3,Instr.storeAt,Instr.sureAddr,Sem.run_bind,Sem.run_pure,Result.andThen_ok,hr]
     .intro v hv;simp only[dK]at hv;rcases hv with(hv|hv)|hv
      .exact h5 v (ej hv)
      .exact q2 v hv
      .exact h5 v (eJ hv)
     .intro hn;have:=hc.2;rw[hn]at this;exact ahR (r.hl hn id _ ju) (by simpa using this) off
    .cases h
   .rename_i nl T1 l m ju hm;split at h
    .rename_i hc;cases h;simp only[bO]at hc;have c1:=kS.1 hc.1.1;have c2:=cU hc.1.2;obtain⟨b,vs,h1,h2,h3,h4,h5,h6⟩:=r.hb id _ ju;obtain⟨k1,b',k2,k3⟩:=hx;rw[h1]at k2;cases k2;obtain⟨q1,q2⟩:=hy.cells hm;have ht:=qY.setRow (L:=L) ((h2 b).2 rfl) (λx hx=>(r.hw id x hx).2) (vs.take off++(a.eval y).cells.toList++vs.drop (off+(a.eval y).cells.toList.length)).toArray;have hl:=ht.later (L.val id) (L.iU id);obtain⟨p1,p2⟩:=Wo (R:=kU (ji B L) (jx L) L w) (R':=kU (ji B (L.set id (L.own id) (L.val id) (L.iU id))) (jx (L.set id (L.own id) (L.val id) (L.iU id))) (L.set id (L.own id) (L.val id) (L.iU id)) (w.setRow b (vs.take off++(a.eval y).cells.toList++vs.drop (off+(a.eval y).cells.toList.length)).toArray))
      h4 (us:=(a.eval y).cells.toList) (m:=m.map .e) (by rw[q1.len,b6]) off h5 (λi p v hp hv=>by
       rw[cG]at hp;obtain⟨e0,he,rfl⟩:=b7.1 hp;exact hl.kN (q1.kN i e0 v he hv)) λp v k=>k.later hl Pp
     refine⟨undef,_,_,.inr ⟨?_,rfl⟩,r.rP id (.pD nl T1 (C2 l off (m.map .e))) _ k1 ht ⟨b,_,by rw[Lk.pj];exact h1,λx=>(Lk.sj x).trans (h2 x),setRow_heap w b _ _ T1 _ h3,p1,p2,?_⟩ ?_,.any _⟩
     .have hr:=EI hT w ot b off T1 vs.toArray h3 (a.eval y) (by rw[q1.len,c1]) (by rw[q1.len,fA,h4];exact c2) q2;simp only[execOp,iH,k3,Instr.storeAt,Instr.sureAddr,Sem.run_bind,Sem.run_pure,Result.andThen_ok,hr]
     .intro v hv;simp only[dK]at hv;rcases hv with(hv|hv)|hv
      .exact h6 v (ej hv)
      .refine ⟨q2 v hv,λhn=>?_⟩;have:=hc.2;rw[hn]at this;have yl:m.all E.mS=true:=by simpa using this
       obtain⟨i,hi⟩:=dI.1 hv;have iJ:i<m.length:=by rw[<-q1.len];exact(cw.1 hi).1
       exact(q1.kN i _ v (bG iJ) hi).mS (bT.1 yl _ (cO iJ))
      .exact h6 v (eJ hv)
     .intro hn;exact r.hl hn id (.pD nl T1 l) ju
    .cases h
   .cases h
  .
   rename_i id off q pf Ct;rw[pf]at hx;rw[Ct]at hy;unfold DI at h;split at h
   rotate_left
   .unfold IS at h;split at h
    .rename_i nl T1 l bq ju tR;split at h
     .rename_i hc;cases h;simp only[bO]at hc;have c1:=kS.1 hc.1.2;have c2:off<l.length:=by simpa[fL]using hc.2
      obtain⟨b,vs,h1,h2,h3,h4,h5,h6⟩:=r.hb id _ ju;obtain⟨k1,b',k2,k3⟩:=hx;rw[h1]at k2;cases k2;obtain⟨pH,zK⟩:=hy;obtain⟨d1,d2,d3⟩:=(r.hb q _ tR).ML hc.1.1;have mE:(a.eval y).cells.toList=[L.val q]:=by rw[zK,d1]
      have ht:=qY.setRow (L:=L) ((h2 b).2 rfl) (λx hx=>(r.hw id x hx).2) (vs.take off++[L.val q]++vs.drop (off+[L.val q].length)).toArray;have hl:=ht.later (L.val id) (L.iU id);obtain⟨p1,p2⟩:=Wo (R:=kU (ji B L) (jx L) L w) (R':=kU (ji B (L.set id (L.own id) (L.val id) (L.iU id))) (jx (L.set id (L.own id) (L.val id) (L.iU id))) (L.set id (L.own id) (L.val id) (L.iU id)) (w.setRow b (vs.take off++[L.val q]++vs.drop (off+[L.val q].length)).toArray))
       h4 (us:=[L.val q]) (m:=[.own q]) rfl off h5 (λi p v hp hv=>by
        cases i with
        |zero=>
         simp at hp hv;subst hp hv;have:=Pp (L:=L) (id:=id) q pH;exact⟨this.1,this.2.1.symm⟩
        |succ i=>simp at hp) λp v k=>k.later hl Pp
      refine⟨undef,_,_,.inr ⟨?_,rfl⟩,r.rP id (.pD nl T1 (C2 l off [.own q])) _ k1 ht ⟨b,_,by rw[Lk.pj];exact h1,λx=>(Lk.sj x).trans (h2 x),setRow_heap w b _ _ T1 _ h3,p1,p2,?_⟩ ?_,.any _⟩
      .have hr:=EI hT w ot b off T1 vs.toArray h3 (a.eval y) (by rw[mE,c1];rfl) (by rw[mE,fA,h4];exact c2) (by rw[mE];exact λu hu=>by rw[fP.1 hu];exact d2);rw[mE]at hr;simp only[execOp,iH,k3,Instr.storeAt,Instr.sureAddr,Sem.run_bind,Sem.run_pure,Result.andThen_ok,hr]
      .intro v hv;simp only[dK]at hv;rcases hv with(hv|hv)|hv
       .exact h6 v (ej hv)
       .rw [fP.1 hv];exact⟨d2,λ_=>d3⟩
       .exact h6 v (eJ hv)
      .intro hn;exact r.hl hn id (.pD nl T1 l) ju
     .cases h
    .cases h
   rename_i u' hM;cases h;unfold IT at hM;have h:=hM;clear hM;split at h
   .rename_i T1 x0 nl T0 n sz el ju tR;split at h
    .rename_i hc;cases h;rw[bO]at hc;obtain⟨hc,oO⟩:=hc;have e0:=kS.1 oO;subst e0;simp only[bO,ev]at hc;have kj:id≠q:=λe=>by rw[e,cJ]at hc;cases hc.1
     have c1:=kS.1 hc.2;obtain⟨b,vs,h1,h2,h3,h4,h5⟩:=r.hb id _ ju;obtain⟨k1,b',k2,k3⟩:=hx;rw[h1]at k2;cases k2;obtain⟨_,zK⟩:=hy;obtain⟨v0,rfl⟩:∃ v0,vs=[v0]:=by
      have:=h4.len;rcases vs with _|⟨v0,_|⟨v1,vs⟩⟩
      .simp at this
      .exact ⟨v0,rfl⟩
      .simp at this
     obtain⟨f,g1,_⟩:=r.hb q _ tR;have kt:(L.val q).cells.toList=[L.val q]/\(L.val q).oneCell'=true:=by
      rcases g1 with⟨g,_⟩|⟨b1,c1,cur,g,_⟩<;>rw[g]<;>exact⟨rfl,rfl⟩
     have ht:=qY.setRow (L:=L) ((h2 b).2 rfl) (λx hx=>(r.hw id x hx).2) #[L.val q];obtain⟨L',hr⟩:=r.oK ju tR kj h1 (setRow_heap w b _ _ T1 _ h3) ht;refine⟨undef,_,L',.inr ⟨?_,rfl⟩,hr,.any _⟩;have kP:=EI hT w ot b 0 T1 #[v0] h3 (a.eval y) (by rw[zK,kt.1,c1];rfl) (by rw[zK,kt.1];exact bD 1) (by rw[zK,kt.1];exact λu hu=>by rw[fP.1 hu];exact kt.2);rw[zK,kt.1]at kP;simp only[execOp,iH,k3,Instr.storeAt,Instr.sureAddr,Sem.run_bind,Sem.run_pure,Result.andThen_ok,zK,kP];rfl
    .cases h
   .cases h
  .
   rename_i id sz i j e pf Ct;rw[pf]at hx;rw[Ct]at hy;split at h
   .rename_i nl T1 n s el m ju hm;split at h
    .rename_i hc;cases h;simp only[bO]at hc;have c1:=kS.1 hc.1.1.1.1;have c2:=kS.1 hc.1.1.1.2;have c3:=cU hc.1.1.2;subst c2;have hi:i<n:=ho _ aH;obtain⟨f,h1,h2,h3⟩:=r.hb id _ ju;obtain⟨k1,b',n',c',k2,k3⟩:=hx;rcases h1 with⟨h1,_⟩|⟨b,c,cur,h1,hg,oJ,nS,mE,kt,jQ⟩
     .rw [k2]at h1;cases h1
     .rw [k2]at h1;cases h1;obtain⟨q1,q2⟩:=hy.cells hm;have lO:L.own id b':=(h2 b').2 (by rw[k2];rfl);have amj:i*s+s<=cur.size:=by
       rw[mE];have:=bW s (aC:i+1<=c');rwa[cj,ct]at this
      have rE:i*s+j+(a.eval y).cells.toList.length<=cur.size:=by rw[q1.len];omega
      have ht:=qY.setRow (L:=L) lO (λx hx=>(r.hw id x hx).2) (cur.toList.take (i*s+j)++(a.eval y).cells.toList++cur.toList.drop (i*s+j+(a.eval y).cells.toList.length)).toArray;have hl:=ht.later (L.val id) (L.iU id);refine⟨undef,_,_,.inr ⟨?_,rfl⟩,r.rP id _ _ k1 ht ⟨λi' j'=>if i'=i/\j<=j'/\j'<j+m.length then(a.eval y).cells.toList.getD (j'-j) undef else f i' j',?_,λx=>?_,?_⟩ ?_,.any _⟩
      .have hr:=EI hT w ot b' (i*s+j) T1 cur hg (a.eval y) (by rw[q1.len,c1]) rE q2;simp only[execOp,iH,k3,Instr.storeAt,Instr.sureAddr,Sem.run_bind,Sem.run_pure,Result.andThen_ok,hr]
      .rw [Lk.pj];refine .inr ⟨b',c',_,k2,setRow_heap w b' _ _ T1 _ hg,oJ,nS,?_,?_,?_⟩
       .simp only[fA,cg,cF,eV,dO];have aep:=rE;simp only[dO]at aep;rw[dE aC];omega
       .intro i' j' nJ sU;obtain⟨o1,o2⟩:=kt i' j' nJ sU;have hlen:i'*s+j'<cur.size:=by
         rw[mE];have:=bW s (aC:i'+1<=c');rw[cj,ct]at this;omega
        have qJ:i'≠i->i'*s+j'<i*s\/i*s+s<=i'*s+j':=by
         intro kj;rcases Nat.lt_or_gt_of_ne kj with iJ|iJ
         .left;have:=bW s (show i'+1<=i from iJ);rw[cj,ct]at this;omega
         .right;have:=bW s (show i+1<=i' from iJ);rw[cj,ct]at this;omega
        simp only[gW];rw[gY,er,cF,dO,dE aC];by_cases kV:i'=i/\j<=j'/\j'<j+m.length
        .obtain ⟨rfl,p1,p2⟩:=kV;rw[bu aC,dp (by rw[q1.len];omega)];have e1:i'*s+j'-(i'*s+j)=j'-j:= aC ;have iJ:j'-j<(a.eval y).cells.toList.length:=by rw[q1.len];omega
         rw[bw ⟨rfl,p1,p2⟩,e1,bC,bG iJ];exact⟨rfl,q2 _ (cO iJ)⟩
        .rw [bu kV];refine⟨?_,o2⟩;by_cases kR:i'*s+j'<i*s+j
         .rw [bw kR,dM,bw kR];simpa using o1
         .rw [bu kR,et,dN]
          .have:i*s+j+(a.eval y).cells.toList.length+(i'*s+j'-(i*s+j)-(a.eval y).cells.toList.length)=i'*s+j':=by
            rw[q1.len];by_cases FW:i'=i
            .subst FW;omega
            .have:=qJ FW;omega
           rw[this];simpa using o1
          .rw [q1.len];by_cases FW:i'=i
           .subst FW;omega
           .have:=qJ FW;omega
       .intro hn v hv;simp only[gX,dK]at hv;rcases hv with(hv|hv)|hv
        .exact jQ hn v (by have:=ej hv;simpa using this)
        .obtain ⟨q,hq⟩:=dI.1 hv;have xp:q<m.length:=by rw[<-q1.len];exact(cw.1 hq).1
         have hmn:m.all E.mS=true:=by have:=hc.1.2;rw[hn]at this;simpa using this
         exact(q1.kN q _ v (bG xp) hq).mS (bT.1 hmn _ (cO xp))
        .exact jQ hn v (by have:=eJ hv;simpa using this)
      .rw [Lk.pj];exact(Lk.sj x).trans (h2 x)
      .intro i' j' nJ sU;refine(λ(q:iO _ _ _ _ _/\_)=>⟨hl.kN q.1,q.2⟩) (?_:_/\_);dsimp only;by_cases kV:i'=i/\j<=j'/\j'<j+m.length
       .rw [bw kV,bw kV];have D1:j'-j<m.length:= aC ;have Ge:j'-j<(a.eval y).cells.toList.length:=by rw[q1.len];omega
        rw[bC,bG D1,bC,bG Ge];exact⟨q1.kN _ _ _ (bG D1) (bG Ge),bT.1 hc.2 _ (cO D1)⟩
       .rw [bu kV,bu kV];exact h3 i' j' nJ sU
      .intro hn;have:=r.hl hn id _ ju;exact this
    .cases h
   .cases h
  .
   rename_i id i id' k pf Ct;rw[pf]at hx;rw[Ct]at hy;split at h
   .rename_i nl T1 T0 n sz len el k' ju;split at h
    .rename_i hc;cases h;simp only[bO]at hc;have c1:=kS.1 hc.1;have c2:=kS.1 hc.2;subst c1;have e1:i=k':=ho _ aH;have e2:k=k':=ho _ aH;have hk:k'<n:=ho _ aH;subst e1 e2;obtain⟨b,c,cur,f,h1,h2,h3,h4,h5,h6,h7,h8,h9,rU,r9⟩:=(r.hb id _ ju).wQ aC;obtain⟨k1,b',n',c',k2,k3⟩:=hx;obtain⟨_,Ec⟩:=hy;rw[h1]at k2;cases k2;have Cp:(L.iU id k).oneCell'=true/\qh (L.iU id k)=false/\(L.iU id k).cells = #[L.iU id k]:=by
      rcases(h8 k hk).1 with⟨e,_⟩|⟨_,_,_,e,_⟩<;>rw[e]<;>exact⟨rfl,rfl,rfl⟩
     have lO:L.own id b:=(h9 b).2 (.inl rfl);have ht:=qY.setRow (L:=L) lO (λx hx=>(r.hw id x hx).2) (cur.toList.take (k*1+0)++(a.eval y).cells.toList++cur.toList.drop (k*1+0+(a.eval y).cells.toList.length)).toArray;have hl:=ht.later (L.val id) (L.iU id);have yo:(a.eval y).cells.toList=[L.iU id k]:=by rw[Ec,Cp.2.2]
     have S6:(cur.toList.take (k*1+0)++(a.eval y).cells.toList++cur.toList.drop (k*1+0+(a.eval y).cells.toList.length)).toArray=cur.setIfInBounds k (L.iU id k):=by
      rw[yo];apply dJ;simp only[cI,ch,dm,anh];rw[List.set_eq_take_append_cons_drop,bw (by simpa using(aC:k<cur.size))];simp
     rw[S6]at ht hl;have xk:∀ x,x≠b->(w.setRow b (cur.setIfInBounds k (L.iU id k))).heap[x]? = w.heap[x]?:=λx hx=>setRow_other w b x _ hx
     refine⟨undef,_,_,.inr ⟨?_,rfl⟩,r.rP id _ _ k1 ht (.inr ⟨b,c,cur.setIfInBounds k (L.iU id k),f,by rw[Lk.pj];exact h1,setRow_heap w b _ _ T1 _ h2,h3,h4,by simpa using h5,?_,?_,?_,?_,?_,?_⟩) ?_,.any _⟩
     .have hr:=EI hT w ot b (k*1+0) T1 cur h2 (a.eval y) (by rw[yo];simpa using c2.symm) (by rw[yo];simp;omega) (by rw[yo];simpa using Cp.1);rw[S6]at hr;simp only[execOp,iH,k3,Instr.storeAt,Instr.sureAddr,Sem.run_bind,Sem.run_pure,Result.andThen_ok,hr]
     .intro q hq _;rw[Lk.r7];by_cases ux:q=k
      .subst ux;have:q<cur.size:= aC ;simp[this]
      .rw [ane (λe=>ux e.symm)];exact h6 q hq (by simpa using λe=>ux e.symm)
     .intro v hv;rcases Array.mem_or_eq_of_mem_setIfInBounds hv with hv|hv
      .exact h7 v hv
      .subst hv;exact Cp.2.1
     .intro q hq;obtain⟨p1,p2⟩:=h8 q hq;rw[Lk.r7];exact⟨p1.block λx hx=>xk x λe=>r9 q hq (e▸hx),λi j hi hj=>⟨hl.kN (p2 i j hi hj).1,(p2 i j hi hj).2⟩⟩
     .intro x;rw[Lk.sj];refine(h9 x).trans ?_;simp only[Lk.r7]
     .simp only[Lk.r7];exact rU
     .simp only[Lk.r7];exact r9
     .intro hn;have:=r.hl hn id _ ju;exact this
    .cases h
   .cases h
  .cases h
 .cases h
def ads(hT:mB P T){t:TypeId}(iH:o.op = .alloc t)(r:jq w0 B σ a w L)(h:jM P K T O σ o=some u):ke P K w0 B σ o a w u:=by
 simp only[jM,iH]at h;split at h
 .rename_i ti ot;split at h
  .rename_i z hz;obtain⟨id,hd,jQ,rfl⟩:=JE h;obtain⟨zv,s5,rX⟩:=EY hz;obtain⟨q1,q2⟩:=rX (ji B L) (jx L) w;obtain⟨L',r',hp⟩:=r.VV id t z zv q1 q2 (by simpa[Bx.nl]using jQ);refine⟨_,_,L',.inl ?_,r',hp⟩;simp only[execOp,iH,Instr.alloc,Sem.run_bind,Pe hT w ot s5,Result.andThen_ok,newVar,newRow,run_newObj_alloc,Sem.run_pure]
  .cases h
 .cases h
def adw{t:TypeId}{x:Operand}(iH:o.op = .box t x)(r:jq w0 B σ a w L)(h:jM P K T O σ o=some u):ke P K w0 B σ o a w u:=by
 simp only[jM,iH]at h;have hx:=r.op x;split at h
 .rename_i e hv;rw[hv]at hx;split at h
  .rename_i l hl;obtain⟨id,hd,jQ,rfl⟩:=JE h;obtain⟨q1,q2⟩:=hx.cells hl;obtain⟨L',r',hp⟩:=r.VV id t l (a.eval x) q1 q2 (by simpa[Bx.nl]using jQ);refine⟨_,_,L',.inl ?_,r',hp⟩;simp only[execOp,iH,Instr.box,Sem.run_bind,Result.andThen_ok,newVar,newRow,run_newObj_alloc,Sem.run_pure]
  .cases h
 .cases h
end
def ac8(us:List Value):∀ (off k:Nat) (cs:Array Value),off+k+us.length<=cs.size ->
 (us.zipIdx k).foldl (λcs (c:Value×Nat)=>cs.setIfInBounds (off+c.2) c.1) cs=(cs.toList.take (off+k)++us++cs.toList.drop (off+k+us.length)).toArray:=by
 induction us with
 |nil=>intro off k cs h;simp
 |cons x us ih=>
  intro off k cs h;simp only[List.zipIdx_cons,List.foldl_cons];rw[ih off (k+1) _ (by simp at h ⊢;omega)];apply dJ;simp only[dj]at h;obtain⟨A,y,D,mE,hA⟩:∃ A y D,cs.toList=A++y::D/\A.length=off+k:=by
   have iJ:off+k<cs.toList.length:= aN ;refine⟨cs.toList.take (off+k),cs.toList[off+k],cs.toList.drop (off+k+1),?_,by rw[cF];omega⟩;rw[<-fI iJ,amT]
  simp only[anh,dj,mE,<-hA];rw[List.set_append_right _ _ (bD _),dq,List.set_cons_zero,
   show off+(k+1)+us.length=A.length+(us.length+1)by omega,(aC:off+(k+1)=A.length+1),
   List.take_length_add_append,ani,List.take_left,ani]
  simp
def Sh(place:Nat->Option (Nat×Nat))(cs:Array Value)(i:Nat)(v:Value)(rest:List (Nat×Value))(off:Nat)(hp:place i=some (off,v.cells.toList.length))(rE:off+v.cells.toList.length<=cs.size):
 Instr.fill place cs ((i,v)::rest)=Instr.fill place (cs.toList.take off++v.cells.toList++cs.toList.drop (off+v.cells.toList.length)).toArray rest:=by
 have h1:¬(v.cells.size≠v.cells.toList.length\/off+v.cells.size>cs.size):=by simp at rE ⊢;omega
 have hf:=ac8 v.cells.toList off 0 cs (by simpa using rE);simp only[ch]at hf;have h2:(v.cells.zipIdx.foldl (λcs (c,j)=>cs.setIfInBounds (off+j) c) cs)=(cs.toList.take off++v.cells.toList++cs.toList.drop (off+v.cells.toList.length)).toArray:=by
  rw[<-hf,<-Array.foldl_toList,Array.toList_zipIdx]
 rw[Instr.fill,hp];simp only;rw[bu (by simpa using h1),h2]
section
variable {P:Program} {K:World->Prop} {T:List TI} {O:qy} {w0:World} {B:Nat->Prop} {σ:PS} {o:Oper} {a:Act} {w:World} {L:Lk} {u:kC}
def Ma(r:jq w0 B σ a w L){place:Nat->Option (Nat×Nat)}{ps:List (Nat×Operand)}{l m:List E}{cs:Array Value}(h:ss σ place l ps=some m)
 (hr:ky (ji B L) (jx L) w l cs.toList) (h1:∀ u ∈ cs,u.oneCell'=true):
 ∃ cs',Instr.fill place cs (ps.map λx=>(x.1,a.eval x.2))=some cs'/\ky (ji B L) (jx L) w m cs'.toList/\(∀ u ∈ cs',u.oneCell'=true):=by
 induction ps generalizing l cs with
 |nil=>
  simp only[ss]at h;cases h;exact⟨cs,rfl,hr,h1⟩
 |cons p ps ih=>
  obtain⟨i,x⟩:=p;simp only[ss]at h;have hx:=r.op x;split at h
  .rename_i off size e hp hv;rw[hv]at hx;split at h
   .rename_i q hq;split at h
    .rename_i hc;simp only[bO]at hc;have c1:=kS.1 hc.1;have c2:=cU hc.2;obtain⟨q1,q2⟩:=hx.cells hq;have hlen:(a.eval x).cells.toList.length=size:=by rw[q1.len,c1]
     have hcl:=hr.len;rw[eR,Sh place cs i (a.eval x) _ off (by rw[hlen];exact hp) (by rw[q1.len];simp at hcl;omega)];refine ih h (Wn hr q1 off) λv hv=>?_
     simp only[gX,dK]at hv;rcases hv with(hv|hv)|hv
     .exact h1 v (by have:=ej hv;simpa using this)
     .exact q2 v hv
     .exact h1 v (by have:=eJ hv;simpa using this)
    .cases h
   .cases h
  .cases h
def OD(ps:Array (Nat×Operand))(a:Act):(ps.map λ(x:Nat×Operand)=>(x.1,a.eval x.2)).toList=ps.toList.map λx=>(x.1,a.eval x.2):= aH 
def ahF{P:Program}(hT:mB P T){fs:List Field}{pl:List (Nat×Nat)}(h:GS T fs=some pl):fs.mapM (λf=>(P.info? f.type).map λi=>(f.offset,i.size))=some pl:=by
 induction fs generalizing pl with
 |nil=>simp only[GS]at h;cases h;rfl
 |cons f fs ih=>
  simp only[GS]at h;split at h
  .rename_i ti l h1 h2;cases h;simp[fQ,hT.zQ h1,ih h2]
  .cases h
def adx(hT:mB P T){t:TypeId}{ps:Array (Nat×Operand)}(iH:o.op = .build t ps)(r:jq w0 B σ a w L)(h:jM P K T O σ o=some u):ke P K w0 B σ o a w u:=by
 simp only[jM,iH]at h;have main:∀ (l:List E) (cs:Array Value),P.built t (ps.toList.map λx=>(x.1,a.eval x.2))=some cs->ky (ji B L) (jx L) w l cs.toList->u={ r:=.e (.agg l) }->ke P K w0 B σ o a w u:=by
  intro l cs hb hr hu;subst hu;have kP:=run_build (P:=P) w t (ps.map λ(x:Nat×Operand)=>(x.1,a.eval x.2)) cs (by rw[OD];exact hb);refine ke.pure r (v:=.agg cs) ?_ rfl (by have:=hr.agg;rwa[Array.toArray_toList]at this);simp only[execOp,iH,Sem.run_bind,kP,Result.andThen_ok,Sem.run_pure]
 split at h
 .rename_i ti ot;split at h
  .rename_i z hz;obtain⟨zv,s5,rX⟩:=EY hz;obtain⟨q1,q2⟩:=rX (ji B L) (jx L) w;split at h
   .rename_i fs hd;split at h
    .rename_i pl Cs;obtain⟨l,hl,rfl⟩:=b7.1 h;obtain⟨cs,p1,p2,_⟩:=Ma r hl q1 (λu hu=>q2 u (by simpa using hu));refine main l cs ?_ p2 rfl;unfold Program.built;rw[hT.zQ ot,hT.rn ot,hd];simp only[s5,ahF hT Cs];have:(λx:Nat=>pl.toArray[x]?)=λx=>pl[x]?:=by funext x;simp
     rw[this];exact p1
    .cases h
   .rename_i n e hd;split at h
    .rename_i te nU;obtain⟨l,hl,rfl⟩:=b7.1 h;obtain⟨cs,p1,p2,_⟩:=Ma r hl q1 (λu hu=>q2 u (by simpa using hu));refine main l cs ?_ p2 rfl;unfold Program.built;rw[hT.zQ ot,hT.rn ot,hd];simp only[s5,hT.zQ nU];exact p1
    .cases h
   .cases h
  .cases h
 .cases h
def WG{α:Type}(n:Nat)(l:List α):(kN n l).length=n*l.length:=by
 induction n with
 |zero=>simp[kN]
 |succ n ih=>simp only[kN,cg,ih,cj,ct];omega
def aiv{α:Type}(n:Nat)(l:List α)(q:Nat)(h:q<n*l.length):(kN n l)[q]? = l[q%l.length]?:=by
 induction n generalizing q with
 |zero=>simp at h
 |succ n ih=>
  simp only[kN];rw[cj,ct]at h;by_cases hq:q<l.length
  .rw [dp hq,cH hq]
  .rw [et aC,ih _ aC];congr 1;exact(Nat.mod_eq_sub_mod aC).symm
def aiw{bs br:Nat->Prop}{z:List E}{zs:Array Value}(h:ky bs br w z zs.toList)(n:Nat):ky bs br w (kN n z) ((Array.range (n*zs.size)).map (zs[· % zs.size]!)).toList:=by
 have hl:=h.len;simp only[dO]at hl;refine⟨by simp[WG,hl],λi p x hp hx=>?_⟩;have hi:i<n*zs.size:=by
  have:=(cw.1 hx).1;simpa using this
 have hz:0<zs.size:=by
  rcases eU zs.size with h0|h0
  .rw [h0]at hi;simp at hi
  .exact h0
 rw[aiv _ _ _ (by rw[<-hl];exact hi),<-hl]at hp;have iJ:=bS i hz;simp[hi]at hx;subst hx;rw[fN zs _ iJ];exact h.kN _ p _ hp (by simp[iJ])
def X2(hB:∀ b,B b->b<w0.heap.size)(r:jq w0 B σ a w L)(e:TypeId)(n sz:Nat)(l:List E)(cs:Array Value)(nl:Bool)(hr:ky (ji B L) (jx L) w l cs.toList)(h1:∀ u ∈ cs,u.oneCell'=true)(hlen:cs.size=n*sz)
 (xm:n<=9223372036854775807) (jQ:nl=true->l.all E.mS=true) (tV:l.all (E.nr 2)=true):
 jq w0 B σ a (w.alloc (.cells cs e)) L/\iO (ji B L) (jx L) (w.alloc (.cells cs e)) (.sl nl n sz λi j=>l.getD (i*sz+j) (.v (.bool false))) (.slice (some ⟨w.heap.size,0,none⟩) n n):=by
 have hb:Below w.heap.size w (w.alloc (.cells cs e)):=(Below.refl _ _).alloc (bD _) _;have hl:rp L w L (w.alloc (.cells cs e)):=⟨hb.size,λ_ _ h=>h,λx hx _=>hb.block x hx⟩
 refine⟨r.later hb,?_⟩;have kV:∀ i j,i<n->j<sz->i*sz+j<cs.size:=by
  intro i j hi hj;rw[hlen];have:=bW sz (show i+1<=n from hi);rw[cj,ct]at this;omega
 have Tp:=hr.len;simp only[dO]at Tp;refine .sl nl n sz _ _ n (λi j=>cs.getD (i*sz+j) undef) (bD _) xm (λh=>by cases h) (λi j hi hj=>?_) (λi j hi hj=>?_) (λi j hi hj=>?_) (λi j hi hj=>?_)
 .have hq:=kV i j hi hj;have e1:cs.getD (i*sz+j) undef=cs[i*sz+j]:=by simp[hq]
  rw[e1];refine⟨h1 _ (gV hq),λse=>?_⟩;have vv:i*sz+j<l.length:= aC ;exact(hr.kN (i*sz+j) _ _ (bG vv) (by simp[hq])).mS (bT.1 (jQ se) _ (cO vv))
 .have hq:=kV i j hi hj;have vv:i*sz+j<l.length:= aC ;rw[bC,bG vv];exact bT.1 tV _ (cO vv)
 .have hq:=kV i j hi hj;refine⟨w.heap.size,0,rfl,λA8=>?_,aH,?_⟩
  .rcases A8 with hx|⟨id,hx⟩
   .have:=hB _ hx;have:=r.he.size;omega
   .have:=(r.hw id _ hx).2;omega
  .rw [cD,World.cell?_alloc_new];simp[hq]
 .have hq:=kV i j hi hj;have vv:i*sz+j<l.length:= aC ;have e1:cs.getD (i*sz+j) undef=cs[i*sz+j]:=by simp[hq]
  rw[e1,bC,bG vv];exact hl.kN (hr.kN (i*sz+j) _ _ (bG vv) (by simp[hq]))
def afQ{l:List E}{vs:List Value}{bs br:Nat->Prop}{w:World}(h:ky bs br w l vs)(hl:l.all E.mS=true):∀ v ∈ vs,qh v=false:=by
 intro v hv;obtain⟨i,hi⟩:=dI.1 hv;obtain⟨zz,_⟩:=cw.1 hi;have FX:i<l.length:=by have:=h.len;omega
 exact(h.kN i _ v (bG FX) hi).mS (bT.1 hl _ (cO FX))
def Q8(w:World)(hT:mB P T){t e:TypeId}{by_:Nat}(h:Ix T t=some (e,by_)):∃ te zv uz,P.underlying t=some (.slice e)/\mN T e=some te/\te.i.size=1/\te.i.bytes=by_/\1<=by_/\te.i.zero=some zv/\zv.cells = #[uz]/\uz.oneCell'=true/\qh uz=false:=by
 unfold Ix at h;split at h
 .rename_i tt qP;split at h
  .rename_i e' hd;split at h
   .rename_i te nU;split at h
    .rename_i z hz;split at h
     .rename_i hc;simp only[bK,bU]at h;obtain⟨rfl,rfl⟩:=h;simp only[bO]at hc;obtain⟨zv,s5,rX⟩:=EY hz;obtain⟨q1,q2⟩:=rX (λ_=>False) (λ_=>False) w;have hl:=q1.len;simp only[dO,dj,am0]at hl;obtain⟨uz,TP⟩:∃ uz,zv.cells = #[uz]:=by
       refine⟨zv.cells[0],?_⟩;apply Array.ext
       .simpa using hl
       .intro i h1 h2;obtain rfl:i=0:=by simp at h2;omega
        rfl
      rw[TP]at q1 q2;exact⟨te,zv,uz,by rw[hT.rn qP,hd],nU,kS.1 hc.1.1,rfl,cU hc.1.2,s5,TP,q2 uz aH,(q1.kN 0 z uz rfl rfl).mS hc.2⟩
     .cases h
    .cases h
   .cases h
  .cases h
 .cases h
def nN.head{v:Value}{T:TypeId}{n sz:Nat}{f:Nat->Nat->Value}{nl:Bool}(h:nN w v T n sz f nl):v.cells.toList=[v]/\v.oneCell'=true/\qh v=false:=by
 rcases h with⟨g,_⟩|⟨b1,c1,cur,g,_⟩<;>rw[g]<;>exact⟨rfl,rfl,rfl⟩
def adU(hT:mB P T){t:TypeId}{n q:Nat}{ps:Array (Nat×Operand)}(iH:o.op = .buildSlice t n ps)(sY:BB σ ps.toList=some q)(r:jq w0 B σ a w L)(h:Cc T σ o.dst t n q=some u):ke P K w0 B σ o a w u:=by
 obtain⟨x,pf,hx⟩:∃ x,ps.toList=[(0,x)]/\σ.op x = .own q:=by
  unfold BB at sY;split at sY
  .rename_i x pf;refine⟨x,pf,?_⟩;generalize σ.op x=p at sY ⊢;cases p<;>simp only[PV.Et,reduceCtorEq,bK]at sY;rw[sY]
  .cases sY
 have T3:=r.op x;rw[hx]at T3;obtain⟨k1,k2⟩:=T3;unfold Cc at h;split at h
 .rename_i id Ja;split at h
  .rename_i nl T0 m sz el e by_ kI tR Ba;split at h
   .rename_i hc;cases h;simp only[bO,ev]at hc;obtain rfl:=kS.1 hc.1;have kj:id≠q:=λe=>by have:=hc.2;rw[e,cJ]at this;cases this
    obtain⟨te,zv,uz,hu,nU,tX,_,_,s5,yB,_,_⟩:=Q8 w hT Ba;obtain⟨f,g1,g2,g3⟩:=r.hb q _ tR;obtain⟨d1,d2,d3⟩:=g1.head;have kP:(execOp a.eval o).run P w = .ok (.value (.slice (some ⟨w.heap.size,0,none⟩) 1 1)) (w.alloc (.cells #[L.val q] e)):=by
     have mE:(Array.range (1*te.i.size)).map (zv.cells[· % zv.cells.size]!) = #[uz]:=by
      rw[tX,yB];refine Array.ext aH λi h1 h2=>?_
      have:i=0:=by simp at h2;omega
      subst this;simp
     have Jb:Instr.fill (λi=>some (i*te.i.size,te.i.size)) #[uz] (ps.map λ(x:Nat×Operand)=>(x.1,a.eval x.2)).toList=some #[L.val q]:=by
      rw[OD,pf];simp only[eR,List.map_nil];rw[Sh _ _ _ _ _ 0 (by rw[k2,d1,tX];rfl) (by rw[k2,d1];simp)];rw[k2,d1];rfl
     have uw:¬(1*te.i.size>16777216):= aC ;have h0:¬(1*te.i.size=0):= aC ;simp only[execOp,iH,Instr.buildSlice,Sem.run_bind,run_underlying hu,Result.andThen_ok,uf hT w nU,uw,bE,h0,Sem.run_pure,Pe hT w nU s5,mE,Jb,newRow,run_newObj_alloc]
    have iJ:w.heap.size<(w.alloc (.cells #[L.val q] e)).heap.size:= aH ;have hb:Below w.heap.size w (w.alloc (.cells #[L.val q] e)):=(Below.refl _ _).alloc (bD _) _;refine⟨_,_,_,.inl kP,r.qo kj _ (λx=>x=w.heap.size\/L.own q x) (.slice (some ⟨w.heap.size,0,none⟩) 1 1) (λ_=>L.val q) _ (λy hy=>?_) hb.size (λy hy _=>hb.block y hy) rfl rfl rfl (λhl=>?_) (λM1=>?_) (λhn=>?_),Lk.NH kj,Lk.Gm.symm⟩
    .rcases hy with rfl|hy
     .exact ⟨.inr (.inr (bD _)),iJ⟩
     .exact ⟨.inr (.inl hy),fR (r.hw q y hy).2 iJ⟩
    .refine .inr ⟨w.heap.size,1,#[L.val q],λ_=>f,Lk.Gm,heap_alloc_new w _,bD _,aE,rfl,λk hk _=>?_,λv hv=>?_,λk hk=>?_,λy=>?_,λk k' y hk FZ _ _=> aC,λk hk=>?_⟩
     .obtain rfl:k=0:= aC ;rw[Lk.yE];rfl
     .have:v=L.val q:=by simpa using hv
      rw[this];exact d3
     .rw [Lk.yE];exact⟨g1.block λy hy=>hb.block y (r.hw q y ((g2 y).2 hy)).2,λi j hi hj=>⟨hl.kN (g3 i j hi hj).1,(g3 i j hi hj).2⟩⟩
     .rw [Lk.UQ];constructor
      .rintro (h|h)
       .exact .inl h
       .exact .inr ⟨0,aE,by rw[Lk.yE];exact(g2 y).1 h⟩
      .rintro (h|⟨k,_,h⟩)
       .exact .inl h
       .rw [Lk.yE]at h;exact .inr ((g2 y).2 h)
     .rw [Lk.yE];intro h;have:=(r.hw q _ ((g2 _).2 h)).2;omega
    .have:=(r.hv id).1 M1;rw[kI]at this;cases this
    .have:=r.hl hn q _ tR;exact this
   .cases h
  .cases h
 .cases h
def ady(hT:mB P T)(hB:∀ b,B b->b<w0.heap.size){t:TypeId}{n:Nat}{ps:Array (Nat×Operand)}(iH:o.op = .buildSlice t n ps)(r:jq w0 B σ a w L)(h:jM P K T O σ o=some u):ke P K w0 B σ o a w u:=by
 simp only[jM,iH]at h;split at h
 .rename_i q hq;exact adU hT iH hq r h
 split at h
 .rename_i tt qP;split at h
  .rename_i e hd;split at h
   .rename_i te nU;split at h
    .rename_i z hz;split at h
     .rename_i hc;simp only[bO]at hc;have c1:=kS.1 hc.1.1;have c2:=cU hc.2;obtain⟨zv,s5,rX⟩:=EY hz;obtain⟨q1,q2⟩:=rX (ji B L) (jx L) w;have hu:P.underlying t=some (.slice e):=by rw[hT.rn qP,hd]
      have qg:zv.cells.size=te.i.size:=by have:=q1.len;simp only[dO]at this;omega
      obtain⟨l,hl,h⟩:=gZ.1 h;obtain⟨cs,p1,p2,p3⟩:=Ma r hl (aiw q1 n) (λv hv=>by
       simp only[gF,gG]at hv;obtain⟨q,hq,rfl⟩:=hv;have Ed:0<zv.cells.size:=by
        rcases eU zv.cells.size with h0|h0
        .rw [h0]at hq;simp at hq
        .exact h0
       rw[fN zv.cells _ (bS q Ed)];exact q2 _ aH)
      have hlen:l.length=n*te.i.size:=by
       have:∀ (ps:List (Nat×Operand)) (l m:List E),ss σ (λi=>some (i*te.i.size,te.i.size)) l ps=some m->m.length=l.length:=by
        intro ps
        induction ps with
        |nil=>intro l m h;simp only[ss]at h;cases h;rfl
        |cons p ps ih=>
         intro l m h;obtain⟨i,x⟩:=p;simp only[ss]at h;split at h
         .split at h
          .split at h
           .rename_i hc;simp only[bO]at hc;have:=cU hc.2;rw[ih _ _ h];simp[BC];omega
           .cases h
          .cases h
         .cases h
       rw[this _ _ _ hl,WG,c1]
      have mE:cs.size=n*te.i.size:=by have:=p2.len;simp only[dO]at this;omega
      have Jb:Instr.fill (λi=>some (i*te.i.size,te.i.size)) ((Array.range (n*te.i.size)).map (zv.cells[· % zv.cells.size]!)) (ps.map λ(x:Nat×Operand)=>(x.1,a.eval x.2)).toList=some cs:=by
       rw[OD,<-qg];rw[<-qg]at p1;exact p1
      have kP:(execOp a.eval o).run P w = .ok (.value (.slice (some ⟨w.heap.size,0,none⟩) n n)) (w.alloc (.cells cs e)):=by
       have uw:¬(n*te.i.size>16777216):= aC ;by_cases h0:n*te.i.size=0
       .have e0:∀ g:Nat->Value,(Array.range 0).map g = #[]:=λg=>by simp[Array.range]
        have S9:=Jb;rw[h0,e0]at S9;have z24:¬(0>2^24):= aE ;simp only[execOp,iH,Instr.buildSlice,Sem.run_bind,run_underlying hu,Result.andThen_ok,uf hT w nU,uw,bE,h0,z24,bL,Sem.run_pure,e0,S9,newRow,run_newObj_alloc]
       .simp only[execOp,iH,Instr.buildSlice,Sem.run_bind,run_underlying hu,Result.andThen_ok,uf hT w nU,uw,bE,h0,Sem.run_pure,Pe hT w nU s5,Jb,newRow,run_newObj_alloc]
      have mF:n<=9223372036854775807:=by
       have:=gU n (cU hc.1.2);omega
      by_cases tV:l.all (E.nr 2)=true
      .simp only[tV,fK,bM,bE]at h;split at h
       .
        obtain⟨id,Ja,kI,jQ,rfl⟩:=Gw h;have hb:Below w.heap.size w (w.alloc (.cells cs e)):=(Below.refl _ _).alloc (bD _) _;have ht:qY L w id (λx=>x=w.heap.size) (w.alloc (.cells cs e)):=⟨λx hx=>⟨.inr aC,aN⟩,hb.size,λx hx _=>hb.block x hx,rfl,rfl,rfl⟩
        have iJ:=ht.later (.slice (some ⟨w.heap.size,0,none⟩) n n) (λ_=>undef);have DZ:∀ i j,i<n->j<te.i.size->i*te.i.size+j<n*te.i.size:=by
         intro i j hi hj;have:=bW te.i.size (show i+1<=n from hi);rw[cj,ct]at this;omega
        refine⟨_,_,_,.inl kP,r.new id _ (λx=>x=w.heap.size) (.slice (some ⟨w.heap.size,0,none⟩) n n) (λ_=>undef) _ kI (λx hx=>by subst hx;simp) hb
         ⟨λi j=>cs.getD (i*te.i.size+j) undef,.inr ⟨w.heap.size,n,cs,Lk.pj,heap_alloc_new w _,bD _,by unfold maxLen;omega,mE,λi j hi hj=>?_,λhn u hu=>?_⟩,λx=>?_,λi j hi hj=>?_⟩ jQ,Lk.BM,Lk.pj.symm⟩
        .have hq:i*te.i.size+j<cs.size:=by rw[mE];exact DZ i j hi hj
         have e1:cs.getD (i*te.i.size+j) undef=cs[i*te.i.size+j]:=by simp[hq]
         show cs[i*te.i.size+j]? = some (cs.getD (i*te.i.size+j) undef)/\(cs.getD (i*te.i.size+j) undef).oneCell'=true;rw[e1];exact⟨by simp[hq],p3 _ aH⟩
        .exact afQ p2 hn u (by simpa using hu)
        .rw [Lk.sj,Lk.pj];simp only[Value.ownBlock,bK];exact eq_comm
        .have hq:i*te.i.size+j<cs.size:=by rw[mE];exact DZ i j hi hj
         have xp:i*te.i.size+j<l.length:=by rw[hlen];exact DZ i j hi hj
         have e1:cs.getD (i*te.i.size+j) undef=cs[i*te.i.size+j]:=by simp[hq]
         simp only[bC,bG xp,am1,e1];exact⟨iJ.kN (p2.kN _ _ _ (bG xp) (by simp[hq])),bT.1 tV _ (cO xp)⟩
       split at h
       .rename_i yl;cases h;obtain⟨r',hp⟩:=X2 hB r e n te.i.size l cs true p2 p3 mE mF (λ_=>yl) tV;exact⟨_,_,L,.inl kP,r',hp⟩
       .cases h;obtain⟨r',hp⟩:=X2 hB r e n te.i.size l cs false p2 p3 mE mF (λh=>by cases h) tV;exact⟨_,_,L,.inl kP,r',hp⟩
      .simp [tV]at h
     .cases h
    .cases h
   .cases h
  .cases h
 .cases h
end
def II{P:Program}{t e:TypeId}(h:P.underlying t=some (.slice e)):P.elem t=e:=by simp[Program.elem,h]
def acv{P:Program}{t e:TypeId}{n:Nat}(h:P.underlying t=some (.array n e)):P.elem t=e/\P.arrayLen t=n:=by simp[Program.elem,Program.arrayLen,h]
section
variable {P:Program} {K:World->Prop} {T:List TI} {O:qy} {w0:World} {B:Nat->Prop} {σ:PS} {o:Oper} {a:Act} {w:World} {L:Lk} {u:kC}
def adE(hT:mB P T){t:TypeId}{x i:Operand}(iH:o.op = .indexAddr t x i)(r:jq w0 B σ a w L)(h:jM P K T O σ o=some u)(ho:∀ q,q ∈ u.jL->q):ke P K w0 B σ o a w u:=by
 simp only[jM,iH,IK]at h;have hx:=r.op x;have hi:=r.op i;split at h
 .rename_i k z hpi;rw[hpi]at hi;have hi:=iO.kG hi;split at h
  .rename_i tt qP;split at h
   .
    rename_i e hd;have hu:P.underlying t=some (.slice e):=by rw[hT.rn qP,hd]
    have he:=II hu;split at h
    .rename_i te nU;have kP:∀ (ad:Addr) (n c:Nat),a.eval x = .slice (some ad) n c->0<=z->z<n->(execOp a.eval o).run P w = .ok (.value (.pointer (some (ad.add (z.toNat*te.i.size))))) w:=by
      intro ad n c e1 h0 h1;have hr:=run_indexAt_slice (P:=P) w t ad n c k z (by rw[he];exact hu);rw[bw ⟨h0,h1⟩,he,uf hT w nU]at hr;simp only[execOp,iH,e1,hi,Sem.run_bind,hr,Result.andThen_ok,Sem.run_pure]
     split at h
     .rename_i nl n sz el pf;rw[pf]at hx;split at h
      .rename_i hs;simp only[bO]at hs;have uy:=cU hs.2;have hs:=kS.1 hs.1;cases h;have hz:0<=z/\z<n:=ho _ aH;have zO:z.toNat<n:= aC ;generalize hq:a.eval x=q at hx;cases hx with
       |sl _ _ _ _ A c f hc hm h0 hl tV cell kk=>
        obtain⟨b,of,e1,hb,iJ,_⟩:=cell z.toNat 0 zO uy;subst e1;refine ke.pure r (kP ⟨b,of,none⟩ n c hq hz.1 hz.2) rfl ?_;rw[Addr.add_lit,hs];refine .jC sz _ b _ (λj=>f z.toNat j) (λhm=>hb (.inr hm)) iJ (λj hj=>(hl _ _ zO hj).1) (λj hj=>?_) (λj hj=>kk _ _ zO hj);obtain⟨b',of',e2,_,_,Cj⟩:=cell z.toNat j zO hj;cases e2;rwa[<-dt]at Cj
      .cases h
     .rename_i fl nl n sz el pf;rw[pf]at hx;split at h
      .rename_i hs;simp only[bO]at hs;have uy:=cU hs.2;have hs:=kS.1 hs.1;cases h;have hz:0<=z/\z<n:=ho _ aH;have zO:z.toNat<n:= aC ;generalize hq:a.eval x=q at hx;cases hx with
       |nI _ _ _ _ _ A c f hc hm h0 hl tV cell kk=>
        obtain⟨b,of,e1,hb,iJ,_⟩:=cell z.toNat 0 zO uy;subst e1;refine ke.pure r (kP ⟨b,of,none⟩ n c hq hz.1 hz.2) rfl ?_;rw[Addr.add_lit,hs];refine .jC sz _ b _ (λj=>f z.toNat j) hb iJ (λj hj=>(hl _ _ zO hj).1) (λj hj=>?_) (λj hj=>kk _ _ zO hj);obtain⟨b',of',e2,_,_,Cj⟩:=cell z.toNat j zO hj;cases e2;rwa[<-dt]at Cj
      .cases h
     .rename_i id pf;rw[pf]at hx;split at h
      .rename_i nl T1 n sz el ju;split at h
       .rename_i hs;have hs:=kS.1 hs;cases h;have hz:0<=z/\z<n:=ho _ aH;obtain⟨f,h1,h2,h3⟩:=r.hb id _ ju;obtain⟨k1,k2⟩:=hx;rcases h1 with⟨h1,se⟩|⟨b,c,cur,h1,hg,oJ,nS,mE,kt,jQ⟩
        .omega
        .rw [h1]at k2;refine ke.pure r (kP ⟨b,0,none⟩ n c k2 hz.1 hz.2) rfl ⟨k1,b,n,c,h1,?_⟩;rw[Addr.add_lit,hs,cD,ch]
       .cases h
      .rename_i nl T1 T0 n sz len el pend ju;split at h
       .rename_i hs;have hs:=kS.1 hs;cases h;have hz:0<=z/\z<n:=ho _ aH;obtain⟨b,c,cur,f,h1,h2,h3,h4,h5,h6,h7,h8,h9,rU,r9⟩:=(r.hb id _ ju).wQ aC;obtain⟨k1,k2⟩:=hx;rw[h1]at k2;refine ke.pure r (kP ⟨b,0,none⟩ n c k2 hz.1 hz.2) rfl ⟨k1,b,n,c,h1,?_⟩;rw[Addr.add_lit,hs,cD,ch]
       .cases h
      .cases h
     .rename_i id k pf;rw[pf]at hx;split at h
      .rename_i nl T1 T0 n sz len el pend ju;split at h
       .rename_i hs;have hs:=kS.1 hs;cases h;have hk:k<n:=ho _ aH;have hz:0<=z/\z<len k:=ho _ aH;obtain⟨b0,c0,cur0,f,g1,g2,g3,g4,g5,g6,g7,g8,_⟩:=(r.hb id _ ju).wQ aC;obtain⟨k1,k2⟩:=hx;rcases(g8 k hk).1 with⟨h1,se⟩|⟨b,c,cur,h1,hg,oJ,nS,mE,kt,jQ⟩
        .omega
        .rw [h1]at k2;refine ke.pure r (kP ⟨b,0,none⟩ (len k) c k2 hz.1 hz.2) rfl ⟨k1,b,len k,c,h1,?_⟩;rw[Addr.add_lit,hs,cD,ch]
       .cases h
      .cases h
     .cases h
    .cases h
   .
    rename_i n e hd;have hu:P.underlying t=some (.array n e):=by rw[hT.rn qP,hd]
    obtain⟨he,hn⟩:=acv hu;split at h
    .rename_i te nU;have kP:∀ (ad:Addr),a.eval x = .pointer (some ad)->0<=z->z<n->(execOp a.eval o).run P w = .ok (.value (.pointer (some (ad.add (z.toNat*te.i.size))))) w:=by
      intro ad e1 h0 h1;have hr:=run_indexAt_array (P:=P) w t ad k z (by rw[he,hn];exact hu);rw[hn,bw ⟨h0,h1⟩,he,uf hT w nU]at hr;simp only[execOp,iH,e1,hi,Sem.run_bind,hr,Result.andThen_ok,Sem.run_pure]
     split at h
     .rename_i id off pf;rw[pf]at hx;cases h;have hz:0<=z/\z<n:=ho _ aH;obtain⟨k1,b,k2,k3⟩:=hx;refine ke.pure r (kP _ k3 hz.1 hz.2) rfl ⟨k1,b,k2,?_⟩;rw[Addr.add_lit]
     .rename_i m el pf;rw[pf]at hx;split at h
      .rename_i hs;have hs:=kS.1 hs;cases h;have hz:0<=z/\z<n:=ho _ aH;have kV:∀ j,j<te.i.size->z.toNat*te.i.size+j<m:=by
        intro j hj;rw[<-hs];have:=bW te.i.size (aC:z.toNat+1<=n);rw[cj,ct]at this;omega
       generalize hq:a.eval x=q at hx;cases hx with
       |jC _ _ b of f hb iJ hl cell kk=>
        refine ke.pure r (kP _ hq hz.1 hz.2) rfl ?_;rw[Addr.add_lit];refine .jC te.i.size _ b _ (λj=>f (z.toNat*te.i.size+j)) hb iJ (λj hj=>hl _ (kV j hj)) (λj hj=>?_) (λj hj=>kk _ (kV j hj));have:=cell _ (kV j hj);rwa[<-dt]at this
      .cases h
     .cases h
    .cases h
   .cases h
  .cases h
 .cases h
def adR(hT:mB P T){t:TypeId}{x:Operand}{lo hi:Option Operand}(iH:o.op = .slice t x lo hi none)(r:jq w0 B σ a w L)(h:jM P K T O σ o=some u)(ho:∀ q,q ∈ u.jL->q):ke P K w0 B σ o a w u:=by
 simp only[jM,iH,IP]at h;have hx:=r.op x;split at h
 .rename_i nl n sz el pf;rw[pf]at hx;split at h
  .rename_i tt qP;split at h
   .rename_i e hd;have hu:P.underlying t=some (.slice e):=by rw[hT.rn qP,hd]
    have he:=II hu;have xr:P.underlying t=some (.slice (P.elem t)):=by rw[he];exact hu
    split at h
    .rename_i te nU;split at h
     .rename_i hs;have hs:=kS.1 hs;generalize hq:a.eval x=q at hx;cases hx with
      |sl _ _ _ _ A c f hc hm h0 hl tV cell kk=>
       have fin:∀ l h':Nat,l<=h'->h'<=n->iO (ji B L) (jx L) w (.sl nl (h'-l) sz λi j=>el (l+i) j) (sliced A l h' c te.i.size):=by
        intro l h' hlh hhn;unfold sliced;refine .sl nl (h'-l) sz _ _ (c-l) (λi j=>f (l+i) j) aC aC (λhA=>?_) (λi j hi hj=>hl _ _ aC hj) (λi j hi hj=>tV _ _ aC hj) (λi j hi hj=>?_) (λi j hi hj=>kk _ _ aC hj)
        .split at hA
         .have:=h0 hA;omega
         .have:=h0 (by simpa using hA);omega
        .obtain ⟨b,of,e1,hb,iJ,kt⟩:=cell (l+i) j aC hj;subst e1;rw[bu aC];refine⟨b,of+l*te.i.size,by rw[cK,Addr.add_lit],hb,iJ,?_⟩;rw[hs];rw[cj]at kt;rw[<-kt];congr 2;omega
       have run:∀ (l h':Nat) (lo' nJ:Option Value),lo.map a.eval=lo'->hi.map a.eval=nJ->(Instr.slice t (.slice A n c) lo' nJ none).run P w = .ok (sliced A l h' c te.i.size) w ->
        (execOp a.eval o).run P w = .ok (.value (sliced A l h' c te.i.size)) w:=by
        intro l h' lo' nJ e1 e2 hr;simp only[execOp,iH,Sem.run_bind,hq,e1,e2,Option.map_none,run_sliceAt_slice (P:=P) w t _ _ _ _ xr,hr,Result.andThen_ok,Sem.run_pure]
       split at h
       .rename_i kh hh pO rW;cases h;have hb:0<=hh/\hh<=n:=ho _ aH;cases lo with
        |some _=>simp at pO
        |none=>
         cases hi with
         |none=>simp at rW
         |some hi=>
          simp only[cK,bK]at rW;have hv:=r.op hi;rw[rW]at hv;have hv:=iO.kG hv;have hr:=run_slice_h (P:=P) w t A n c xr kh hh hb.1 aC;rw[he,uf hT w nU]at hr;have hf:=fin 0 hh.toNat (cz _) aC ;simp only[dP,cD]at hf;exact ke.pure r (run 0 hh.toNat none (some (.int kh hh)) rfl (by rw[cK,hv]) hr) rfl hf
       .rename_i kl ll pO rW;cases h;have hb:0<=ll/\ll<=n:=ho _ aH;cases hi with
        |some _=>simp at rW
        |none=>
         cases lo with
         |none=>simp at pO
         |some lo=>
          simp only[cK,bK]at pO;have hv:=r.op lo;rw[pO]at hv;have hv:=iO.kG hv;have hr:=run_slice_l (P:=P) w t A n c xr kl ll hb.1 hb.2;rw[he,uf hT w nU]at hr;exact ke.pure r (run ll.toNat n (some (.int kl ll)) none (by rw[cK,hv]) rfl hr) rfl (fin ll.toNat n aC (bD _))
       .rename_i kl ll kh hh pO rW;cases h;have hb:0<=ll/\ll<=hh/\hh<=n:=ho _ aH;cases hi with
        |none=>simp at rW
        |some hi=>
         cases lo with
         |none=>simp at pO
         |some lo=>
          simp only[cK,bK]at pO rW;have hv:=r.op lo;rw[pO]at hv;have hv:=iO.kG hv;have rY:=r.op hi;rw[rW]at rY;have rY:=iO.kG rY;have hr:=run_slice_lh (P:=P) w t A n c xr kl kh ll hh hb.1 hb.2.1 aC;rw[he,uf hT w nU]at hr;exact ke.pure r (run ll.toNat hh.toNat (some (.int kl ll)) (some (.int kh hh)) (by rw[cK,hv]) (by rw[cK,rY]) hr) rfl (fin ll.toNat hh.toNat aC aC)
       .cases h
     .cases h
    .cases h
   .cases h
  .cases h
 .rename_i fl nl n sz el pf;rw[pf]at hx;split at h
  .rename_i tt qP;split at h
   .rename_i e hd;have hu:P.underlying t=some (.slice e):=by rw[hT.rn qP,hd]
    have he:=II hu;have xr:P.underlying t=some (.slice (P.elem t)):=by rw[he];exact hu
    split at h
    .rename_i te nU;split at h
     .rename_i hs;have hs:=kS.1 hs;generalize hq:a.eval x=q at hx;cases hx with
      |nI _ _ _ _ _ A c f hc hm h0 hl tV cell kk=>
       have fin:∀ l h':Nat,l<=h'->h'<=n->iO (ji B L) (jx L) w (.nI fl nl (h'-l) sz λi j=>el (l+i) j) (sliced A l h' c te.i.size):=by
        intro l h' hlh hhn;unfold sliced;refine .nI fl nl (h'-l) sz _ _ (c-l) (λi j=>f (l+i) j) aC aC (λhA=>?_) (λi j hi hj=>hl _ _ aC hj) (λhf i j hi hj=>tV hf _ _ aC hj) (λi j hi hj=>?_) (λi j hi hj=>kk _ _ aC hj)
        .split at hA
         .have:=h0 hA;omega
         .have:=h0 (by simpa using hA);omega
        .obtain ⟨b,of,e1,hb,iJ,kt⟩:=cell (l+i) j aC hj;subst e1;rw[bu aC];refine⟨b,of+l*te.i.size,by rw[cK,Addr.add_lit],hb,iJ,?_⟩;rw[hs];rw[cj]at kt;rw[<-kt];congr 2;omega
       have run:∀ (l h':Nat) (lo' nJ:Option Value),lo.map a.eval=lo'->hi.map a.eval=nJ->(Instr.slice t (.slice A n c) lo' nJ none).run P w = .ok (sliced A l h' c te.i.size) w ->
        (execOp a.eval o).run P w = .ok (.value (sliced A l h' c te.i.size)) w:=by
        intro l h' lo' nJ e1 e2 hr;simp only[execOp,iH,Sem.run_bind,hq,e1,e2,Option.map_none,run_sliceAt_slice (P:=P) w t _ _ _ _ xr,hr,Result.andThen_ok,Sem.run_pure]
       split at h
       .rename_i kh hh pO rW;cases h;have hb:0<=hh/\hh<=n:=ho _ aH;cases lo with
        |some _=>simp at pO
        |none=>
         cases hi with
         |none=>simp at rW
         |some hi=>
          simp only[cK,bK]at rW;have hv:=r.op hi;rw[rW]at hv;have hv:=iO.kG hv;have hr:=run_slice_h (P:=P) w t A n c xr kh hh hb.1 aC;rw[he,uf hT w nU]at hr;have hf:=fin 0 hh.toNat (cz _) aC ;simp only[dP,cD]at hf;exact ke.pure r (run 0 hh.toNat none (some (.int kh hh)) rfl (by rw[cK,hv]) hr) rfl hf
       .rename_i kl ll pO rW;cases h;have hb:0<=ll/\ll<=n:=ho _ aH;cases hi with
        |some _=>simp at rW
        |none=>
         cases lo with
         |none=>simp at pO
         |some lo=>
          simp only[cK,bK]at pO;have hv:=r.op lo;rw[pO]at hv;have hv:=iO.kG hv;have hr:=run_slice_l (P:=P) w t A n c xr kl ll hb.1 hb.2;rw[he,uf hT w nU]at hr;exact ke.pure r (run ll.toNat n (some (.int kl ll)) none (by rw[cK,hv]) rfl hr) rfl (fin ll.toNat n aC (bD _))
       .rename_i kl ll kh hh pO rW;cases h;have hb:0<=ll/\ll<=hh/\hh<=n:=ho _ aH;cases hi with
        |none=>simp at rW
        |some hi=>
         cases lo with
         |none=>simp at pO
         |some lo=>
          simp only[cK,bK]at pO rW;have hv:=r.op lo;rw[pO]at hv;have hv:=iO.kG hv;have rY:=r.op hi;rw[rW]at rY;have rY:=iO.kG rY;have hr:=run_slice_lh (P:=P) w t A n c xr kl kh ll hh hb.1 hb.2.1 aC;rw[he,uf hT w nU]at hr;exact ke.pure r (run ll.toNat hh.toNat (some (.int kl ll)) (some (.int kh hh)) (by rw[cK,hv]) (by rw[cK,rY]) hr) rfl (fin ll.toNat hh.toNat aC aC)
       .cases h
     .cases h
    .cases h
   .cases h
  .cases h
 .cases h
end
section
variable {P:Program} {K:World->Prop} {T:List TI} {O:qy} {w0:World} {B:Nat->Prop} {σ:PS} {o:Oper} {a:Act} {w:World} {L:Lk} {u:kC}
def abt{x:Value}{l:List E}(h:(E.v x).cells? = some l):∀ e,e ∈ l->e.nr 2=true:=by
 intro e he;cases x<;>simp only[E.cells?]at h
 case agg cs=>
  split at h
  .cases h;obtain⟨q,_,rfl⟩:=dG.1 he;rfl
  .cases h
 all_goals
  split at h
  .cases h;simp only[fP]at he;subst he;rfl
  .cases h
def al9{ti:TI}{l:List E}(h:yU ti=some l):∀ e,e ∈ l->e.nr 2=true:=by
 unfold yU at h;split at h
 .exact abt h
 .cases h
def JA{l:List E}{vs:List Value}{bs br:Nat->Prop}(h:ky bs br w l vs)(hl:l.all E.mS=true):∀ v ∈ vs,qh v=false:=by
 intro v hv;obtain⟨q,hq⟩:=dI.1 hv;have xp:q<l.length:=by rw[<-h.len];exact(cw.1 hq).1
 exact(h.kN q _ v (bG xp) hq).mS (bT.1 hl _ (cO xp))
def Ve{z:Array Value}{n q:Nat}(hz:0<z.size)(hq:q<n):(madeCells z n)[q]? = some (z[q%z.size]'(bS _ hz)):=by
 unfold madeCells;simp[hq];rw[fN z _ (bS _ hz)]
def Vf{z:Array Value}{n:Nat}(hz:0<z.size){v:Value}(hv:v ∈ madeCells z n):v ∈ z:=by
 unfold madeCells at hv;simp only[gF,gG]at hv;obtain⟨q,hq,rfl⟩:=hv;rw[fN z _ (bS _ hz)];exact gV _
def adK(hT:mB P T){t:TypeId}{l c:Operand}(iH:o.op = .makeSlice t l c)(r:jq w0 B σ a w L)(h:jM P K T O σ o=some u)(ho:∀ q,q ∈ u.jL->q):ke P K w0 B σ o a w u:=by
 simp only[jM,iH,IN]at h;have hl:=r.op l;have hc:=r.op c;split at h
 .rename_i bx jL jj;obtain⟨id,Ja,kI,jQ,rfl⟩:=Gw h;clear h;simp only[RZ]at jj;split at jj
  rotate_left
  .cases jj
  rename_i kl zl kc zc Cs hpc;rw[Cs]at hl;rw[hpc]at hc;have hl:=iO.kG hl;have hc:=iO.kG hc;split at jj
  .rename_i tt qP;split at jj
   .rename_i e hd;have hu:P.underlying t=some (.slice e):=by rw[hT.rn qP,hd]
    split at jj
    .rename_i te nU;split at jj
     .rename_i z hz;split at jj
      .rename_i zp;simp only[bO]at zp;have c1:=kS.1 zp.1;have c2:=cU zp.2;obtain⟨zv,s5,rX⟩:=EY hz;obtain⟨q1,q2⟩:=rX (ji B L) (jx L) w;have qg:zv.cells.size=te.i.size:=by have:=q1.len;simp only[dO]at this;omega
       have Ed:0<zv.cells.size:= aC ;have key:∀ (h1:0<=zl/\zl<=zc) (h2:(te.i.bytes:Int)*zc<=281474976710656/\zc<=9223372036854775807),
        (execOp a.eval o).run P w = .ok (.value (.slice (some ⟨w.heap.size,0,none⟩) zl.toNat zc.toNat)) (w.alloc (.cells (madeCells zv.cells (zc.toNat*te.i.size)) e)):=by
        intro h1 h2;have hr:=run_make (P:=P) w t e te.i zv hu (hT.zQ nU) s5 kl kc zl zc h1.1 h1.2 h2.1 h2.2;simp only[execOp,iH,hl,hc,Sem.run_bind,hr,Result.andThen_ok,Sem.run_pure]
       have hb:∀ o':Obj,Below w.heap.size w (w.alloc o'):=λo'=>(Below.refl _ _).alloc (bD _) _
       have lens:zl<=zc->zc<=9223372036854775807->zl.toNat<=zc.toNat/\zc.toNat<=maxLen:=by intro h1 h2;unfold maxLen;omega
       split at jj
       .
        rename_i e0 hd0;split at jj
        .rename_i t0 Ng;obtain⟨y,ys,CA,hy,Co⟩:=q1.nE;have hy:=iO.kG hy;have Co:=Co.r6;subst hy Co;have T7:zv.cells = #[.slice none 0 0]:=by apply dJ;rw[CA]
         have mQ:te.i.size=1:=by rw[<-qg,T7];rfl
         cases jj;have h1:0<=zl/\zl<=zc:=ho _ aH;have h2:(te.i.bytes:Int)*zc<=281474976710656/\zc<=9223372036854775807:=ho _ aH;have hlen:=lens h1.2 h2.2;have yl:∀ v,v ∈ madeCells zv.cells (zc.toNat*te.i.size)->v = .slice none 0 0:=λv hv=>by
          have:=Vf Ed hv;rw[T7]at this;simpa using this
         refine⟨_,_,_,.inl (key h1 h2),r.new id _ (λx=>x=w.heap.size) (.slice (some ⟨w.heap.size,0,none⟩) zl.toNat zc.toNat) (λ_=>.slice none 0 0) _ kI (λx hx=>by subst hx;simp) (hb _)
          (.inr ⟨w.heap.size,zc.toNat,_,λ_ _ _=>undef,Lk.pj,heap_alloc_new w _,hlen.1,hlen.2,by rw[size_madeCells,mQ,cI],λk hk _=>?_,λv hv=>?_,λk hk=>?_,λx=>?_,λk k' x hk FZ h1=>?_,λk hk=>?_⟩) jQ,Lk.BM,Lk.pj.symm⟩
         .rw [Lk.r7];have hq:k<zc.toNat*te.i.size:=by rw[mQ];omega
          have hg:=Ve Ed hq;rw[hg];exact congrArg some (yl _ (dZ hg))
         .rw [yl v hv];rfl
         .rw [Lk.r7];exact⟨.inl ⟨rfl,rfl⟩,λi j hi=>absurd hi (bF i)⟩
         .rw [Lk.sj];simp only[Lk.r7,Value.ownBlock];simp
         .rw [Lk.r7]at h1;simp[Value.ownBlock]at h1
         .rw [Lk.r7];simp[Value.ownBlock]
        .cases jj
       .cases jj;have h1:0<=zl/\zl<=zc:=ho _ aH;have h2:(te.i.bytes:Int)*zc<=281474976710656/\zc<=9223372036854775807:=ho _ aH;have hlen:=lens h1.2 h2.2;refine⟨_,_,_,.inl (key h1 h2),r.new id _ (λx=>x=w.heap.size) (.slice (some ⟨w.heap.size,0,none⟩) zl.toNat zc.toNat) (λ_=>undef) _ kI (λx hx=>by subst hx;simp) (hb _)
         ⟨λ_ j=>zv.cells.getD j undef,.inr ⟨w.heap.size,zc.toNat,_,Lk.pj,heap_alloc_new w _,hlen.1,hlen.2,size_madeCells _ _,λi j hi hj=>?_,λhn v hv=>?_⟩,λx=>?_,λi j hi hj=>?_⟩ jQ,Lk.BM,Lk.pj.symm⟩
        .have hq:i*te.i.size+j<zc.toNat*te.i.size:=by
          have:=bW te.i.size (aC:i+1<=zc.toNat);rw[cj,ct]at this;omega
         have M3:(i*te.i.size+j)%zv.cells.size=j:=by rw[qg,bR,gw,cH hj]
         have sU:j<zv.cells.size:= aC ;rw[Ve Ed hq];simp only[M3];have e1:zv.cells.getD j undef=zv.cells[j]:=by simp[sU]
         rw[e1];exact⟨rfl,q2 _ aH⟩
        .exact JA q1 hn v (by have:=Vf Ed hv;simpa using this)
        .rw [Lk.sj,Lk.pj];simp only[Value.ownBlock,bK];exact eq_comm
        .have sU:j<zv.cells.size:= aC ;have MX:j<z.length:= aC ;have e1:zv.cells.getD j undef=zv.cells[j]:=by simp[sU]
         simp only[e1];rw[bC,bG MX];obtain⟨p1,_⟩:=rX (ji B (L.set id (λx=>x=w.heap.size) (.slice (some ⟨w.heap.size,0,none⟩) zl.toNat zc.toNat) (λ_=>undef))) (jx (L.set id (λx=>x=w.heap.size) (.slice (some ⟨w.heap.size,0,none⟩) zl.toNat zc.toNat) (λ_=>undef))) (w.alloc (.cells (madeCells zv.cells (zc.toNat*te.i.size)) e));exact⟨p1.kN j _ _ (bG MX) (by simp[sU]),al9 hz _ (cO MX)⟩
      .cases jj
     .cases jj
    .cases jj
   .cases jj
  .cases jj
 .cases h
def adG(hT:mB P T){x:Operand}{t:TypeId}{c:Call}(hc:c={ callee:=.builtin .len,args:=#[x],argTypes:=#[t] })(iH:o.op = .call c){e:TypeId}(hd:w8 T t=some (.slice e))(r:jq w0 B σ a w L){rr:Value×List Nat}(h:sO (σ.op x) σ=some rr)(hu:u={ r:=.e (.v rr.1),rb:=rr.2 }):ke P K w0 B σ o a w u:=by
 obtain⟨ti,h1,h2⟩:=AN hd;have TO:P.underlying t=some (.slice e):=by rw[hT.rn h1,h2]
 have he:=II TO;have hx:=r.op x;have key:∀ (A:Option Addr) (n cp:Nat),a.eval x = .slice A n cp->rr.1 = .int .i64 (n:Int)->ke P K w0 B σ o a w u:=by
  intro A n cp e1 e2;have hr:=run_len_slice (P:=P) w t o.type A n cp (by rw[he];exact TO);subst hu;refine ke.pure r (v:=.int .i64 (n:Int)) ?_ rfl (by rw[e2];exact .v _);subst hc;have em:(#[x]:Array Operand).map a.eval = #[a.eval x]:= aH ;simp only[execOp,iH,resolve,em,e1,Sem.run_bind,Sem.run_pure,Result.andThen_ok,invoke,builtin,hr];rfl
 cases hp:σ.op x with
 |e y=>
  rw[hp]at h hx;cases y with
  |sl nl n sz el=>
   simp only[sO,bK]at h;generalize hq:a.eval x=q at hx;cases hx with
   |sl _ _ _ _ A c f hc hm h0 hl tV cell kk=>exact key A n c hq (by rw[<-h])
  |nI fl nl n sz el=>
   simp only[sO,bK]at h;generalize hq:a.eval x=q at hx;cases hx with
   |nI _ _ _ _ _ A c f hc hm h0 hl tV cell kk=>exact key A n c hq (by rw[<-h])
  |v y=>
   have hx:=iO.kG hx;cases y with
   |slice A n cp=>
    simp only[sO,bK]at h;exact key A n cp hx (by rw[<-h])
   |_=>simp[sO]at h
  |_=>simp[sO]at h
 |own id=>
  rw[hp]at h hx;obtain⟨_,k2⟩:=hx;simp only[sO]at h;split at h
  .rename_i nl T1 n sz el ju;simp only[bK]at h;obtain⟨f,q1,_,_⟩:=r.hb id _ ju;rcases q1 with⟨q1,q0⟩|⟨b,c,cur,q1,_⟩
   .rw [q1]at k2;exact key none 0 0 k2 (by rw[<-h,q0])
   .rw [q1]at k2;exact key _ n c k2 (by rw[<-h])
  .rename_i nl T1 T0 n sz len el pend ju;simp only[bK]at h;rcases r.hb id _ ju with⟨q1,q0,_⟩|⟨b,c,cur,f,q1,_⟩
   .rw [q1]at k2;exact key none 0 0 k2 (by rw[<-h,q0])
   rw[q1]at k2;exact key _ n c k2 (by rw[<-h])
  .cases h
 |iU id k=>
  rw[hp]at h hx;obtain⟨_,k2⟩:=hx;simp only[sO]at h;split at h
  .rename_i nl T1 T0 n sz len el pend ju;split at h
   .rename_i hk;have hk:k<n:=by simpa[fL]using hk
    simp only[bK]at h;obtain⟨b0,c0,cur0,f,g1,g2,g3,g4,g5,g6,g7,g8,_⟩:=(r.hb id _ ju).wQ aC;rcases(g8 k hk).1 with⟨q1,q0⟩|⟨b,c,cur,q1,_⟩
    .rw [q1]at k2;exact key none 0 0 k2 (by rw[<-h,q0])
    .rw [q1]at k2;exact key _ (len k) c k2 (by rw[<-h])
   .cases h
  .cases h
 |_=>rw[hp]at h;simp[sO]at h
end
section
variable {P:Program} {K:World->Prop} {T:List TI} {O:qy} {w0:World} {B:Nat->Prop} {σ:PS} {o:Oper} {a:Act} {w:World} {L:Lk} {u:kC}
def nN.qw{v:Value}{T:TypeId}{n sz:Nat}{f:Nat->Nat->Value}{nl nl':Bool}(h:nN w v T n sz f nl)(k:nl'=true->nl=true):nN w v T n sz f nl':=by
 rcases h with h|⟨b,c,cur,h1,h2,h3,h4,h5,h6,h7⟩
 .exact .inl h
 .exact .inr ⟨b,c,cur,h1,h2,h3,h4,h5,h6,λq=>h7 (k q)⟩
def ZA{p:PV}{nl:Bool}{n sz:Nat}{el:Nat->Nat->E}(h:p.K9=some (nl,n,sz,el)){v:Value}(hv:kU (ji B L) (jx L) L w p v):∃ (A:Option Addr) (c:Nat) (f:Nat->Nat->Value),v = .slice A n c/\(A=none->c=0)/\n<=c /\
 (∀ i j,i<n->j<sz->(f i j).oneCell'=true/\(nl=true->qh (f i j)=false))/\(∀ i j,i<n->j<sz->∃ b o,A=some ⟨b,o,none⟩/\w.cell? ⟨b,o+(i*sz+j),none⟩=some (f i j)) /\
 ∀ i j,i<n->j<sz->iO (ji B L) (jx L) w (el i j) (f i j)/\(el i j).nr 2=true:=by
 unfold PV.K9 at h;split at h
 .cases h;cases hv with
  |sl _ _ _ _ A c f hc hm h0 hl hr cell k=>exact⟨A,c,f,rfl,h0,hc,hl,λi j hi hj=>by obtain⟨b,o,e,_,_,oP⟩:=cell i j hi hj;exact⟨b,o,e,oP⟩,λi j hi hj=>⟨k i j hi hj,hr i j hi hj⟩⟩
 .cases h;cases hv with
  |nI _ _ _ _ _ A c f hc hm h0 hl hr cell k=>exact⟨A,c,f,rfl,h0,hc,hl,λi j hi hj=>by obtain⟨b,o,e,_,_,oP⟩:=cell i j hi hj;exact⟨b,o,e,oP⟩,λi j hi hj=>⟨k i j hi hj,hr rfl i j hi hj⟩⟩
 .cases h
def Sx(hT:mB P T){s x:Operand}{t:TypeId}{c:Call}(hc:c={ callee:=.builtin .append,args:=#[s,x],argTypes:=#[t,t] })(iH:o.op = .call c)(r:jq w0 B σ a w L)
 (h:AS T σ o.dst t (σ.op s) (σ.op x)=some u) (ho:∀ q,q ∈ u.jL->q):ke P K w0 B σ o a w u:=by
 have hs:=r.op s;have hx:=r.op x;simp only[AS]at h;split at h
 .rename_i nl2 m sz2 el2 pf;obtain⟨A,cx,g,hqx,hg0,hgc,Tg,gcell,gk⟩:=ZA pf hx;split at h
  .rename_i tt qP;split at h
   .rename_i e hd;have hu:P.underlying t=some (.slice e):=by rw[hT.rn qP,hd]
    split at h
    .rename_i te nU;split at h
     .rename_i z hz;split at h
      .rename_i zp;simp only[bO]at zp;have c1:=kS.1 zp.1.1.1;have c2:=cU zp.1.1.2;have c3:=cU zp.1.2;have c4:=kS.1 zp.2;obtain⟨zv,s5,rX⟩:=EY hz;obtain⟨q1,q2⟩:=rX (ji B L) (jx L) w;have qg:zv.cells.size=sz2:=by have:=q1.len;simp only[dO]at this;omega
       have key:∀ (v:Value) (n:Nat) (f:Nat->Nat->Value) (nl:Bool),a.eval s=v->nN w v e n sz2 f nl->(nl=true->nl2=true/\z.all E.mS=true)->(n+m)*te.i.bytes<=140737488355328 ->
        ∃ v' w',(execOp a.eval o).run P w = .ok (.value v') w'/\KR w v e n sz2 m f g nl v' w':=by
        intro v n f nl hv lO jQ jK;obtain⟨v',w',hr,ml⟩:=W9 P w t o.type e te.i zv sz2 hu (hT.zQ nU) s5 c1 qg aC c3 (λu hu=>q2 u (by simpa using hu)) v n f nl lO A m cx g
         gcell (λhA=>by have:=hg0 hA;omega)
         (λk j hk hj=>⟨(Tg k j hk hj).1,λhn=>(Tg k j hk hj).2 (jQ hn).1⟩) (λhn u hu=>JA q1 (jQ hn).2 u (by simpa using hu)) jK
        refine⟨v',w',?_,ml⟩;subst hc;have em:(#[s,x]:Array Operand).map a.eval = #[a.eval s,a.eval x]:= aH ;simp only[execOp,iH,resolve,em,hv,hqx,Sem.run_bind,Sem.run_pure,Result.andThen_ok,invoke,builtin,hr]
       split at h
       .
        rename_i id sY;rw[sY]at hs;split at h
        .rename_i nl T1 n sz el ju;split at h
         .rename_i oP;simp only[bO]at oP;have d1:=kS.1 oP.1.1;have d2:=kS.1 oP.1.2;subst d1 d2;cases h;have jK:(n+m)*te.i.bytes<=140737488355328:=ho _ aH;obtain⟨f,p1,p2,p3⟩:=r.hb id _ ju;obtain⟨k1,k2⟩:=hs;have jQ:(nl&&(nl2&&z.all E.mS))=true->nl2=true/\z.all E.mS=true:=λhn=>by simp only[bO]at hn;exact hn.2
          obtain⟨v',w',kP,ml⟩:=key (L.val id) n f _ k2 (p1.qw λhn=>by simp only[bO]at hn;exact hn.1) jQ jK;have ht:qY L w id (λy=>v'.ownBlock=some y) w':=by
           refine⟨λy hy=>?_,ml.size,λy hy kI=>ml.pg y hy λe1=>kI ((p2 y).2 e1),ml.os,ml.tape,ml.output⟩;rcases ml.Fh y hy with e1|⟨e1,e2⟩
           .have:=(p2 y).2 e1;exact⟨.inl this,bX (r.hw id y this).2 ml.size⟩
           .exact ⟨.inr e1,e2⟩
          have hl:=ht.later v' (L.iU id);have hpt:∀ b,L.val id ≠ .pointer (some b):=λb e1=>by
           rcases p1 with⟨e2,_⟩|⟨_,_,_,e2,_⟩<;>rw[e1]at e2<;>cases e2
          refine⟨v',w',_,.inl kP,r.pE id _ _ v' w' hpt ht ⟨λi j=>if i<n then f i j else g (i-n) j,by rw[Lk.pj];exact ml.own,λy=>by rw[Lk.sj,Lk.pj],λi j hi hj=>(λ(q:iO _ _ _ _ _/\_)=>⟨hl.kN q.1,q.2⟩) (?_:_/\_)⟩ (λhn=>?_),Lk.BM,Lk.pj.symm⟩
          .by_cases kV:i<n
           .simp only[kV,bL];exact p3 i j kV hj
           .simp only[kV,bE];exact gk _ _ aC hj
          .have:=oP.2;rw[hn]at this;simpa[Bx.nl]using this
         .cases h
        .cases h
       .
        rename_i id k sY;rw[sY]at hs;split at h
        .rename_i nl T1 T0 n sz len el ju;split at h
         .rename_i oP;simp only[bO]at oP;have d1:=kS.1 oP.1.1;have d2:=kS.1 oP.1.2;subst d1 d2;cases h;have hk:k<n:=ho _ aH;have jK:(len k+m)*te.i.bytes<=140737488355328:=ho _ aH;obtain⟨b,cp,cur,f,p1,p2,p3,p4,p5,p6,p7,p8,p9,p10,p11⟩:=(r.hb id _ ju).wQ aC;obtain⟨k1,k2⟩:=hs;have jQ:nl=true->nl2=true/\z.all E.mS=true:=λhn=>by have:=oP.2;rw[hn]at this;simpa using this
          obtain⟨v',w',kP,ml⟩:=key (L.iU id k) (len k) (f k) nl k2 (p8 k hk).1 jQ jK;have tO:∀ y,v'.ownBlock=some y->(L.iU id k).ownBlock=some y\/(w.heap.size<=y/\y<w'.heap.size):=ml.Fh;have S4:b<w.heap.size:=(r.hw id b ((p9 b).2 (.inl rfl))).2;have Bd:∀ q y,q<n->(L.iU id q).ownBlock=some y->y<w.heap.size:=λq y hq hy=>(r.hw id y ((p9 y).2 (.inr ⟨q,hq,hy⟩))).2
          have ht:qY L w id (λy=>y=b\/∃ q,q<n/\(if q=k then v' else L.iU id q).ownBlock=some y) w':=by
           refine⟨λy hy=>?_,ml.size,λy hy kI=>ml.pg y hy λe1=>kI ((p9 y).2 (.inr ⟨k,hk,e1⟩)),ml.os,ml.tape,ml.output⟩;rcases hy with rfl|⟨q,hq,hy⟩
           .exact ⟨.inl ((p9 y).2 (.inl rfl)),bX S4 ml.size⟩
           .by_cases ux:q=k
            .subst ux;rw[bw rfl]at hy;rcases tO y hy with e1|⟨e1,e2⟩
             .have:=(p9 y).2 (.inr ⟨q,hq,e1⟩);exact⟨.inl this,bX (r.hw id y this).2 ml.size⟩
             .exact ⟨.inr e1,e2⟩
            .rw [bu ux]at hy;have:=(p9 y).2 (.inr ⟨q,hq,hy⟩);exact⟨.inl this,bX (r.hw id y this).2 ml.size⟩
          have hl:=ht.later (L.val id) (λq=>if q=k then v' else L.iU id q);have xk:∀ y,y<w.heap.size->(L.iU id k).ownBlock≠some y->w'.heap[y]? = w.heap[y]?:=ml.pg;refine⟨v',w',_,.inl kP,r.sP id _ _ (λq=>if q=k then v' else L.iU id q) w' ht
           (.inr ⟨b,cp,cur,λq i j=>if q=k then(if i<len q then f q i j else g (i-len q) j)else f q i j,by rw[Lk.pj];exact p1,by rw[xk b S4 (p11 k hk)];exact p2,p3,p4,p5,λq hq ux=>?_,p7,λq hq=>?_,λy=>?_,λq q' y hq vv hy qR=>?_,λq hq hy=>?_⟩) (λhn=>?_),Lk.BM,?_⟩
          .have kj:q≠k:=λe1=>ux (by rw[e1])
           rw[Lk.r7,bu kj];exact p6 q hq aH 
          .rw [Lk.r7];by_cases ux:q=k
           .subst ux;simp only[bL];refine⟨ml.own,λi j hi hj=>(λ(q:iO _ _ _ _ _/\_)=>⟨hl.kN q.1,q.2⟩) (?_:_/\_)⟩;by_cases kV:i<len q
            .simp only[kV,bL];exact(p8 q hq).2 i j kV hj
            .simp only[kV,bE];exact gk _ _ aC hj
           .simp only[ux,bE];obtain⟨s1,s2⟩:=p8 q hq;exact⟨s1.block λy hy=>xk y (Bd q y hq hy) λe1=>ux (p10 q k y hq hk hy e1),λi j hi hj=>⟨hl.kN (s2 i j hi hj).1,(s2 i j hi hj).2⟩⟩
          .rw [Lk.sj];simp only[Lk.r7]
          .simp only[Lk.r7]at hy qR;by_cases h1:q=k
           .subst h1;by_cases h2:q'=q
            .exact h2.symm
            .rw [bw rfl]at hy;rw[bu h2]at qR;rcases tO y hy with e1|⟨e1,_⟩
             .exact p10 q q' y hq vv e1 qR
             .have:=Bd q' y vv qR;omega
           .rw [bu h1]at hy;by_cases h2:q'=k
            .subst h2;rw[bw rfl]at qR;rcases tO y qR with e1|⟨e1,_⟩
             .exact p10 q q' y hq vv hy e1
             .have:=Bd q y hq hy;omega
            .rw [bu h2]at qR;exact p10 q q' y hq vv hy qR
          .simp only[Lk.r7]at hy;by_cases h1:q=k
           .subst h1;rw[bw rfl]at hy;rcases tO b hy with e1|⟨e1,_⟩
            .exact p11 q hq e1
            .omega
           .rw [bu h1]at hy;exact p11 q hq hy
          .have:=r.hl hn id _ ju;exact this
          .rw [Lk.r7,bw rfl]
         .cases h
        .cases h
       .
        rename_i sY;rw[sY]at hs;have hs:=iO.kG hs;obtain⟨id,Ja,kI,yr,rfl⟩:=Gw h;have jK:m*te.i.bytes<=140737488355328:=ho _ aH;obtain⟨v',w',kP,ml⟩:=key _ 0 g (nl2&&z.all E.mS) hs (.inl ⟨rfl,rfl⟩) (λhn=>by simpa using hn) (by simpa using jK);have hb:Below w.heap.size w w':=⟨ml.os,ml.tape,ml.output,ml.size,λy hy=>ml.pg y hy (by simp[Value.ownBlock])⟩
        have hO:∀ y,v'.ownBlock=some y->w.heap.size<=y/\y<w'.heap.size:=λy hy=>by
         rcases ml.Fh y hy with e1|e1
         .simp [Value.ownBlock]at e1
         .exact e1
        have ht:qY L w id (λy=>v'.ownBlock=some y) w':=⟨λy hy=>⟨.inr (hO y hy).1,(hO y hy).2⟩,hb.size,λy hy _=>hb.block y hy,hb.os,hb.tape,hb.output⟩
        have hl:=ht.later v' (λ_=>undef);have lO:=ml.own;rw[cD]at lO;refine⟨v',w',_,.inl kP,r.new id _ (λy=>v'.ownBlock=some y) v' (λ_=>undef) w' kI hO hb ⟨λi j=>if i<0 then g i j else g (i-0) j,by rw[Lk.pj];exact lO,λy=>by rw[Lk.sj,Lk.pj],λi j hi hj=>(λ(q:iO _ _ _ _ _/\_)=>⟨hl.kN q.1,q.2⟩) (?_:_/\_)⟩ yr,Lk.BM,Lk.pj.symm⟩;simp only[bF,bE,dP];exact gk i j hi hj
       .cases h
      .cases h
     .cases h
    .cases h
   .cases h
  .cases h
 .cases h
def UP{id q T0 T1 n m sz:Nat}{nl nl2:Bool}{len len2:Nat->Nat}{el el2:Nat->Nat->Nat->E}(kj:id≠q)(r:jq w0 B σ a w L){v':Value}{w':World}(hm:0<m)
 (hq:nF (ji B L) (jx L) L w q (.jU nl2 T1 T0 m sz len2 el2 none))
 (f1:Nat->Nat->Nat->Value)
 (h8:∀ k,k<n->nN w (L.iU id k) T0 (len k) sz (f1 k) nl/\∀ i j,i<len k->j<sz->iO (ji B L) (jx L) w (el k i j) (f1 k i j)/\(el k i j).nr 2=true)
 (h9:∀ k x,k<n->(L.iU id k).ownBlock=some x->L.own id x) (rU:∀ k k' x,k<n->k'<n->(L.iU id k).ownBlock=some x->(L.iU id k').ownBlock=some x->k=k')
 {v:Value} (D9:∀ y,v.ownBlock=some y->L.own id y) (r9:∀ k y,k<n->(L.iU id k).ownBlock=some y->v.ownBlock≠some y)
 (lO:nN w' v' T1 (n+m) 1 (λk _=>if k<n then L.iU id k else L.iU q (k-n)) true)
 (tO:∀ y,v'.ownBlock=some y->v.ownBlock=some y\/(w.heap.size<=y/\y<w'.heap.size))
 (mQ:w.heap.size<=w'.heap.size) (xk:∀ y,y<w.heap.size->v.ownBlock≠some y->w'.heap[y]? = w.heap[y]?) (Cq:w'.os=w.os) (Ni:w'.tape=w.tape) (qc:w'.output=w.output)
 (kI:L.mg id->∀ b,L.val id ≠ .pointer (some b)) (jQ:σ.nl=true->(nl&&nl2)=true):
 jq w0 B (σ.om (.oK id q (.jU (nl&&nl2) T1 T0 (n+m) sz (λk=>if k<n then len k else len2 (k-n)) (λk=>if k<n then el k else el2 (k-n)) none))) a w'
  (L.qo id q (λy=>v'.ownBlock=some y\/∃ k,k<n+m/\(if k<n then L.iU id k else L.iU q (k-n)).ownBlock=some y) v' (λk=>if k<n then L.iU id k else L.iU q (k-n))):=by
 obtain⟨b,c,cur,f,g1,g2,g3,g4,g5,g6,g7,g8,g9,g10,g11⟩:=hq.wQ hm;have M8:∀ k x,k<m->(L.iU q k).ownBlock=some x->L.own q x:=λk x hk hx=>(g9 x).2 (.inr ⟨k,hk,hx⟩)
 have Bd:∀ k y,k<n+m->(if k<n then L.iU id k else L.iU q (k-n)).ownBlock=some y->(L.own id y\/L.own q y)/\v.ownBlock≠some y:=by
  intro k y hk hy;by_cases e:k<n
  .rw [bw e]at hy;exact⟨.inl (h9 k y e hy),r9 k y e hy⟩
  .rw [bu e]at hy;have:=M8 _ _ aC hy;exact⟨.inr this,λh=>kj (r.hi id q y (D9 y h) this)⟩
 have iJ:∀ y,L.own id y\/L.own q y->y<w.heap.size:=λy h=>by
  rcases h with h|h
  .exact (r.hw id y h).2
  .exact (r.hw q y h).2
 refine r.qo kj _ _ v' _ w' (λy hy=>?_) mQ (λy hy aeD=>xk y hy λh=>aeD (D9 y h)) Cq Ni qc (λhl=>?_) kI jQ
 .rcases hy with hy|⟨k,hk,hy⟩
  .rcases tO y hy with h|⟨h1,h2⟩
   .exact ⟨.inl (D9 y h),bX (r.hw id y (D9 y h)).2 mQ⟩
   .exact ⟨.inr (.inr h1),h2⟩
  .have h:=(Bd k y hk hy).1;exact⟨h.elim .inl λh=>.inr (.inl h),bX (iJ y h) mQ⟩
 .rcases lO with⟨_,h0⟩|⟨b',c',cur',k1,k2,k3,k4,k5,k6,k7⟩
  .omega
  .have Tl:∀ k y,k<n+m->(if k<n then L.iU id k else L.iU q (k-n)).ownBlock=some y->w'.heap[y]? = w.heap[y]?:=λk y hk hy=>xk y (iJ y (Bd k y hk hy).1) (Bd k y hk hy).2
   refine .inr ⟨b',c',cur',λk=>if k<n then f1 k else f (k-n),by rw[Lk.Gm];exact k1,k2,k3,k4,aC,λk hk _=>?_,λu hu=>?_,λk hk=>?_,λy=>?_,λk k' y hk FZ hy qR=>?_,λk hk hy=>?_⟩
   .rw [Lk.yE];have:=(k6 k 0 hk aE).1;rwa[cI,ch]at this
   .exact k7 rfl u hu
   .rw [Lk.yE];by_cases e:k<n
    .simp only[e,bL];obtain⟨s1,s2⟩:=h8 k e;refine⟨(s1.qw λh=>?_).block λy hy=>Tl k y hk (by rw[bw e];exact hy),λi j hi hj=>⟨hl.kN (s2 i j hi hj).1,(s2 i j hi hj).2⟩⟩;simp only[bO]at h;exact h.1
    .simp only[e,bE];obtain⟨s1,s2⟩:=g8 (k-n) aC;refine⟨(s1.qw λh=>?_).block λy hy=>Tl k y hk (by rw[bu e];exact hy),λi j hi hj=>⟨hl.kN (s2 i j hi hj).1,(s2 i j hi hj).2⟩⟩;simp only[bO]at h;exact h.2
   .rw [Lk.UQ,k1];simp only[Lk.yE,Value.ownBlock,bK];constructor
    .rintro (h|h)
     .exact .inl h.symm
     .exact .inr h
    .rintro (h|h)
     .exact .inl h.symm
     .exact .inr h
   .simp only[Lk.yE]at hy qR;by_cases e:k<n
    .rw [bw e]at hy;by_cases e':k'<n
     .rw [bw e']at qR;exact rU k k' y e e' hy qR
     .rw [bu e']at qR;exact absurd (r.hi id q y (h9 k y e hy) (M8 _ _ aC qR)) kj
    .rw [bu e]at hy;by_cases e':k'<n
     .rw [bw e']at qR;exact absurd (r.hi id q y (h9 k' y e' qR) (M8 _ _ aC hy)) kj
     .rw [bu e']at qR;have:=g10 (k-n) (k'-n) y aC aC hy qR;omega
   .rw [Lk.yE]at hy;have h:=Bd k b' hk hy;rcases tO b' (by rw[k1];rfl)with h2|⟨h2,_⟩
    .exact h.2 h2
    .have:=iJ b' h.1;omega
def ahv{p:PV}{q:Nat}(h:p.Et=some q):p = .own q:=by
 cases p<;>simp only[PV.Et,reduceCtorEq,bK]at h;rw[h]
def adF(hT:mB P T){s x:Operand}{t:TypeId}{q:Nat}{c:Call}(hc:c={ callee:=.builtin .append,args:=#[s,x],argTypes:=#[t,t] })(iH:o.op = .call c)(r:jq w0 B σ a w L)
  (hq:(σ.op x).Et=some q) (h:Cb T σ o.dst t (σ.op s) q=some u) (ho:∀ q,q ∈ u.jL->q):ke P K w0 B σ o a w u:=by
 have hx:=r.op x;rw[ahv hq]at hx;obtain⟨kx,kv⟩:=hx;have hs:=r.op s;unfold Cb at h;split at h
 .rename_i nl2 T2 T0 m sz len2 el2 e by_ tR Ba;obtain⟨te,zv,uz,hu,nU,tX,I8,kR,s5,yB,zL,Gg⟩:=Q8 w hT Ba;have Ua:∀ v,v ∈ zv.cells->v.oneCell'=true/\qh v=false:=λv hv=>by
   rw[yB]at hv;have:v=uz:=by simpa using hv
   rw[this];exact⟨zL,Gg⟩
  have key:∀ (v:Value) (n:Nat) (f:Nat->Nat->Value),0<m->a.eval s=v->nN w v e n 1 f true->(n+m)*by_<=140737488355328 ->
    ∃ v' w',(execOp a.eval o).run P w = .ok (.value v') w'/\KR w v e n 1 m f (λk _=>L.iU q k) true v' w':=by
   intro v n f hm hv lO jK;obtain⟨bq,cq,curq,fq,g1,g2,g3,g4,g5,g6,g7,g8,g9,g10,g11⟩:=(r.hb q _ tR).wQ hm;have Eb:a.eval x = .slice (some ⟨bq,0,none⟩) m cq:=by rw[kv,g1]
   obtain⟨v',w',hr,ml⟩:=W9 P w t o.type e te.i zv 1 hu (hT.zQ nU) s5 tX (by rw[yB];rfl) aE aC (λv hv=>(Ua v hv).1) v n f true lO (some ⟨bq,0,none⟩) m cq (λk _=>L.iU q k)
    (λk j hk hj=>⟨bq,0,rfl,by
     obtain rfl:j=0:= aC ;have:=g6 k hk aH;simp only[World.cell?,g2];simpa using this⟩) (λhA=>by cases hA)
    (λk j hk hj=>⟨(g8 k hk).1.head.2.1,λ_=>(g8 k hk).1.head.2.2⟩) (λ_ v hv=>(Ua v hv).2) (by rw[I8];exact jK)
   refine⟨v',w',?_,ml⟩;subst hc;have em:(#[s,x]:Array Operand).map a.eval = #[a.eval s,a.eval x]:= aH ;simp only[execOp,iH,resolve,em,hv,Eb,Sem.run_bind,Sem.run_pure,Result.andThen_ok,invoke,builtin,hr]
  split at h
  .
   rename_i id sY;rw[sY]at hs;obtain⟨ks,ks2⟩:=hs;split at h
   .rename_i nl T1 T0' n sz' len el ju;split at h
    .rename_i oP;cases h;simp only[bO,ev]at oP;obtain rfl:=kS.1 oP.1.1.1.1;obtain rfl:=kS.1 oP.1.1.1.2;obtain rfl:=kS.1 oP.1.1.2;obtain rfl:=kS.1 oP.1.2;have kj:id≠q:=λe=>by have:=oP.2;rw[e,cJ]at this;cases this
     have hm:0<m:=ho _ aH;have jK:(n+m)*by_<=140737488355328:=ho _ aH;obtain⟨f,pown,p8,p9,p10,D9,p11,pno⟩:∃ f:Nat->Nat->Nat->Value,nN w (L.val id) _ n 1 (λk _=>L.iU id k) true /\
       (∀ k,k<n->nN w (L.iU id k) T0' (len k) sz' (f k) nl/\∀ i j,i<len k->j<sz'->iO (ji B L) (jx L) w (el k i j) (f k i j)/\(el k i j).nr 2=true) /\
       (∀ k x,k<n->(L.iU id k).ownBlock=some x->L.own id x)/\(∀ k k' x,k<n->k'<n->(L.iU id k).ownBlock=some x->(L.iU id k').ownBlock=some x->k=k') /\
       (∀ y,(L.val id).ownBlock=some y->L.own id y)/\(∀ k y,k<n->(L.iU id k).ownBlock=some y->(L.val id).ownBlock≠some y)/\∀ b,L.val id ≠ .pointer (some b):=by
      rcases r.hb id _ ju with⟨h1,h2,h3⟩|⟨b,cp,cur,f,p1,p2,p3,p4,p5,p6,p7,p8,p9,p10,p11⟩
      .refine ⟨λ_ _ _=>undef,.inl ⟨h1,h2⟩,λk hk=> aC,λk x hk=> aC,λk k' x hk=> aC,λy hy=>?_,λk y hk=> aC,λb hb=>?_⟩
       .rw [h1]at hy;simp[Value.ownBlock]at hy
       .rw [h1]at hb;cases hb
      .refine ⟨f,.inr ⟨b,cp,cur,p1,p2,p3,p4,aC,λk j hk hj=>?_,λ_=>p7⟩,p8,λk y hk hy=>(p9 y).2 (.inr ⟨k,hk,hy⟩),p10,λy hy=>?_,λk y hk hy Ec=>?_,λb1 kR=>?_⟩
       .obtain rfl:j=0:= aC ;rw[cI,ch];exact⟨p6 k hk aH,(p8 k hk).1.head.2.1⟩
       .rw [p1]at hy;simp only[Value.ownBlock,bK]at hy;exact(p9 y).2 (.inl hy.symm)
       .rw [p1]at Ec;simp only[Value.ownBlock,bK]at Ec;exact p11 k hk (Ec▸hy)
       .rw [p1]at kR;cases kR
     obtain⟨v',w',kP,ml⟩:=key (L.val id) n (λk _=>L.iU id k) hm ks2 pown jK;refine⟨v',w',_,.inl kP,UP kj r hm (r.hb q _ tR) f p8 p9 p10 D9 p11 ml.own ml.Fh ml.size ml.pg ml.os ml.tape ml.output (λ_=>pno) (λhn=>?_),Lk.NH kj,Lk.Gm.symm⟩
     .have h1:nl=true:=r.hl hn id _ ju;have h2:nl2=true:=r.hl hn q _ tR;rw[h1,h2];rfl
    .cases h
   .cases h
  .
   rename_i id sY Ja;rw[sY]at hs;have hs:=iO.kG hs;split at h
   .rename_i kI;split at h
    .rename_i oP;cases h;simp only[bO,ev]at oP;obtain rfl:=kS.1 oP.1;have kj:id≠q:=λe=>by have:=oP.2;rw[e,cJ]at this;cases this
     have hm:0<m:=ho _ aH;have jK:m*by_<=140737488355328:=ho _ aH;obtain⟨v',w',kP,ml⟩:=key _ 0 (λk _=>L.iU id k) hm hs (.inl ⟨rfl,rfl⟩) (by simpa using jK);have M1:¬L.mg id:=λh=>by have:=(r.hv id).1 h;rw[kI]at this;cases this
     have hj:=UP (n:=0) (nl:=true) (len:=λ_=>0) (el:=λ_ _ _=>.any) kj r hm (r.hb q _ tR) (λ_ _ _=>undef) (λk hk=>absurd hk (bF k)) (λk y hk=>absurd hk (bF k)) (λk k' y hk=>absurd hk (bF k))
      (v:=.slice none 0 0) (λy hy=>by simp[Value.ownBlock]at hy) (λk y hk=>absurd hk (bF k)) ml.own ml.Fh ml.size ml.pg ml.os ml.tape ml.output (λh=>absurd h M1) (λhn=>r.hl hn q _ tR)
     simp only[bF,bE,dP,cD,e9]at hj;exact⟨v',w',_,.inl kP,hj,Lk.NH kj,Lk.Gm.symm⟩
    .cases h
   .cases h
  .cases h
 .cases h
def adt(hT:mB P T)(hB:∀ b,B b->b<w0.heap.size){s x:Operand}{t:TypeId}{c:Call}(hc:c={ callee:=.builtin .append,args:=#[s,x],argTypes:=#[t,t] })(iH:o.op = .call c)(r:jq w0 B σ a w L)
 (h:Ca T σ o.dst t (σ.op s) (σ.op x)=some u) (ho:∀ q,q ∈ u.jL->q):ke P K w0 B σ o a w u:=by
 unfold Ca at h;split at h
 .rename_i u0 h0;split at h
  .rename_i id nl T1 n sz el id' hf hr;split at h
   .rename_i hid;have hid:=kS.1 hid;subst hid;cases h;have r2:jq w0 B { σ with nl:=false } a w L:=⟨r.hd,r.hs,r.ht,r.hb,r.hv,r.hn,r.hw,r.hi,r.he,λh=>by cases h⟩
    obtain⟨v,w',L1,kP,hrel,rX⟩:=Sx (K:=K) hT hc iH r2 h0 λq hq=>ho q (List.mem_cons_of_mem _ hq)
    rw[hf]at hrel;rw[hr]at rX;obtain⟨L',k1,k2⟩:=jq.fin hB hrel;refine⟨v,w',L',kP,⟨k1.hd,k1.hs,k1.ht,k1.hb,k1.hv,k1.hn,k1.hw,k1.hi,k1.he,λhn i b hb=>?_⟩,?_⟩
    .have hb:look ((σ.pre (.fin id')).filter λx=>!Nat.beq x.1 id') i=some b:=hb;rw[CN,PS.AI]at hb;split at hb
     .cases hb
     .obtain ⟨b0,mf,rfl⟩:=b7.1 hb;rw[CR];exact r.hl hn i b0 mf
    rw[rX.2];exact k2
   .cases h
  .cases h
 .cases h
def adL{x y:Operand}{c:Call}(hc:c.callee = .builtin .max/\c.args = #[x,y])(iH:o.op = .call c)(r:jq w0 B σ a w L){k k':IntKind}{p q:Int}(hx:σ.op x = .e (.v (.int k p)))(hy:σ.op y = .e (.v (.int k' q)))
 (hu:u={ r:=.e (.v (.int k (if q>p then q else p))) }):ke P K w0 B σ o a w u:=by
 have h1:=r.op x;have h2:=r.op y;rw[hx]at h1;rw[hy]at h2;have h1:=iO.kG h1;have h2:=iO.kG h2;subst hu;refine ke.pure r (v:=.int k (if q>p then q else p)) ?_ rfl (.v _);have em:(#[x,y]:Array Operand).map a.eval = #[.int k p,.int k' q]:=by simp[h1,h2]
 simp only[execOp,iH,resolve,hc.1,hc.2,em,Sem.run_bind,Sem.run_pure,Result.andThen_ok,invoke,builtin,run_max_int2]
def adM{x y z:Operand}{c:Call}(hc:c.callee = .builtin .max/\c.args = #[x,y,z])(iH:o.op = .call c)(r:jq w0 B σ a w L){k k' k'':IntKind}{p q s:Int}(hx:σ.op x = .e (.v (.int k p)))(hy:σ.op y = .e (.v (.int k' q)))(hz:σ.op z = .e (.v (.int k'' s)))
 (hu:u={ r:=.e (.v (.int k (if s>(if q>p then q else p)then s else(if q>p then q else p)))) }):ke P K w0 B σ o a w u:=by
 have h1:=r.op x;have h2:=r.op y;have h3:=r.op z;rw[hx]at h1;rw[hy]at h2;rw[hz]at h3;have h1:=iO.kG h1;have h2:=iO.kG h2;have h3:=iO.kG h3;subst hu;refine ke.pure r (v:=.int k (if s>(if q>p then q else p)then s else(if q>p then q else p))) ?_ rfl (.v _);have em:(#[x,y,z]:Array Operand).map a.eval = #[.int k p,.int k' q,.int k'' s]:=by simp[h1,h2,h3]
 simp only[execOp,iH,resolve,hc.1,hc.2,em,Sem.run_bind,Sem.run_pure,Result.andThen_ok,invoke,builtin,run_max_int3]
def adN{x y:Operand}{c:Call}(hc:c.callee = .builtin .min/\c.args = #[x,y])(iH:o.op = .call c)(r:jq w0 B σ a w L){k k':IntKind}{p q:Int}(hx:σ.op x = .e (.v (.int k p)))(hy:σ.op y = .e (.v (.int k' q)))
 (hu:u={ r:=.e (.v (.int k (if q<p then q else p))) }):ke P K w0 B σ o a w u:=by
 have h1:=r.op x;have h2:=r.op y;rw[hx]at h1;rw[hy]at h2;have h1:=iO.kG h1;have h2:=iO.kG h2;subst hu;refine ke.pure r (v:=.int k (if q<p then q else p)) ?_ rfl (.v _);have em:(#[x,y]:Array Operand).map a.eval = #[.int k p,.int k' q]:=by simp[h1,h2]
 simp only[execOp,iH,resolve,hc.1,hc.2,em,Sem.run_bind,Sem.run_pure,Result.andThen_ok,invoke,builtin,run_min_int2]
end
structure Gd(P:Program)(K:World->Prop)(w0:World)(B:Nat->Prop):Prop where
 k:K w0
 JX:∀ w w',K w->Below w.heap.size w w'->K w'
 hB:∀ b,B b->b<w0.heap.size/\oY w0 b
def oY.Eo{w w':World}{b:Nat}(h:oY w b)(hb:w'.heap[b]? = w.heap[b]?):oY w' b:=by
 intro o x e;exact h o x (by rw[<-e];exact(World.cell?_of_block (w:=w) (w':=w') hb).symm)
def oY.JO{w:World}{b:Nat}{cs:Array Value}{T:TypeId}{fr:Nat×Nat}(hg:w.heap[b]? = some (.cells cs T fr))(h:∀ v,v ∈ cs->qh v=false):oY w b:=by
 intro o x e;simp only[World.cell?,hg]at e;simp only[Option.isSome_none,bM,bE]at e;have:=h _ (dZ e);cases this
section
variable {P:Program} {K:World->Prop} {T:List TI} {O:qy} {w0:World} {B:Nat->Prop} {σ:PS} {o:Oper} {a:Act} {w:World} {L:Lk} {u:kC}
def nN.JJ{v:Value}{T:TypeId}{n sz:Nat}{f:Nat->Nat->Value}(h:nN w v T n sz f true){x:Nat}(hx:v.ownBlock=some x):oY w x:=by
 rcases h with⟨rfl,_⟩|⟨b,c,cur,rfl,hg,_,_,_,_,jQ⟩
 .simp [Value.ownBlock]at hx
 .simp [Value.ownBlock]at hx;subst hx;exact oY.JO hg (jQ rfl)
def nF.JJ{id:Nat}{b:Bx}(h:nF (ji B L) (jx L) L w id b)(hn:b.nl=true){x:Nat}(hx:L.own id x):oY w x:=by
 cases b with
 |cells T l=>
  obtain⟨b,vs,h1,h2,h3,h4,h5⟩:=h;obtain rfl:=(h2 x).1 hx;exact oY.JO h3 λv hv=>JA h4 hn v (by simpa using hv)
 |row nl T n sz el=>
  obtain⟨f,h1,h2,h3⟩:=h;have hn:nl=true:=hn;subst hn;exact h1.JJ ((h2 x).1 hx)
 |jU nl T1 T0 n sz len el pend=>
  rcases h with⟨_,_,h⟩|h
  .exact absurd hx (h x)
  obtain⟨b,c,cur,f,h1,h2,h3,h4,h5,h6,h7,h8,h9,rU,r9⟩:=h;have hn:nl=true:=hn;subst hn;rcases(h9 x).1 hx with rfl|⟨k,hk,hkx⟩
  .exact oY.JO h2 λv hv=>h7 v hv
  .exact (h8 k hk).1.JJ hkx
 |pD nl T l=>
  obtain⟨b,vs,h1,h2,h3,h4,h5,h6⟩:=h;obtain rfl:=(h2 x).1 hx;exact oY.JO h3 λv hv=>(h6 v (by simpa using hv)).2 hn
def jq.Io(g:Gd P K w0 B)(r:jq w0 B σ a w L)(hn:σ.nl=true):∀ b,ji B L b->b<w.heap.size/\oY w b:=by
 intro b hb;rcases hb with hb|⟨id,hb⟩
 .obtain ⟨h1,h2⟩:=g.hB b hb;exact⟨bX h1 r.he.size,h2.Eo (r.he.block b h1)⟩
 .refine ⟨(r.hw id b hb).2,?_⟩;have hl:=(r.hv id).1 (r.hn id b hb);obtain⟨bx,jj⟩:=ia.1 hl;exact(r.hb id bx jj).JJ (r.hl hn id bx jj) hb
def nF.jC{id:Nat}{Tt:TypeId}{l:List E}(h:nF (ji B L) (jx L) L w id (.cells Tt l)){b:Nat}(hv:L.val id = .pointer (some ⟨b,0,none⟩))(iJ:∀ x,L.own id x->x<w.heap.size):
 iO (ji B L) (λ_=>False) w (.jC l.length λj=>l.getD j .any) (.pointer (some ⟨b,0,none⟩)):=by
 obtain⟨b',vs,h1,h2,h3,h4,h5⟩:=h;rw[hv]at h1;cases h1;refine .jC _ _ b 0 (λj=>vs.getD j undef) (λh=>h) (iJ b ((h2 b).2 rfl)) (λj hj=>?_) (λj hj=>?_) (λj hj=>?_)
 .have sU:j<vs.length:=by rw[h4.len];exact hj
  rw[bC,bG sU];exact h5 _ (cO sU)
 .have sU:j<vs.length:=by rw[h4.len];exact hj
  simp only[World.cell?,h3];simp[sU]
 .have sU:j<vs.length:=by rw[h4.len];exact hj
  rw[bC,bG hj,bC,bG sU];exact(h4.kN j _ _ (bG hj) (bG sU)).qw (λ_ h=>h) (λ_ h=>h.elim)
def nN.WE{v:Value}{T:TypeId}{n sz:Nat}{f:Nat->Nat->Value}{nl:Bool}{el:Nat->Nat->E}{bs br:Nat->Prop}(h1:nN w v T n sz f nl)(iJ:∀ x,v.ownBlock=some x->x<w.heap.size)
 (h3:∀ i j,i<n->j<sz->iO bs br w (el i j) (f i j)/\(el i j).nr 2=true):iO (λ_=>False) (λ_=>False) w (.sl nl n sz el) v:=by
 rcases h1 with⟨rfl,rfl⟩|⟨b,c,cur,rfl,hg,oJ,nS,mE,kt,jQ⟩
 .exact .sl nl 0 sz el none 0 f (bD _) aE (λ_=>rfl) (λi j hi=>absurd hi (bF i)) (λi j hi=>absurd hi (bF i)) (λi j hi=>absurd hi (bF i)) (λi j hi=>absurd hi (bF i))
 .refine .sl nl n sz el _ c f oJ (by unfold maxLen at nS;omega) (λh=>by cases h) (λi j hi hj=>⟨(kt i j hi hj).2,λhn=>jQ hn _ (dZ (kt i j hi hj).1)⟩) (λi j hi hj=>(h3 i j hi hj).2)
   (λi j hi hj=>⟨b,0,rfl,λh=>h,iJ b rfl,?_⟩) (λi j hi hj=>(iO.nr ((h3 i j hi hj).1.qw (λ_ h=>h.elim) (λ_ h=>h)) 2 (h3 i j hi hj).2))
  rw[cD];simp only[World.cell?,hg];simpa using(kt i j hi hj).1
def jq.Ud(r:jq w0 B σ a w L){id T1 T0 n sz k:Nat}{nl:Bool}{len:Nat->Nat}{el:Nat->Nat->Nat->E}{pend:Option Nat}(ju:σ.bo id=some (.jU nl T1 T0 n sz len el pend))(hk:k<n):
 iO (λ_=>False) (λ_=>False) w (.sl nl (len k) sz (el k)) (L.iU id k):=by
 obtain⟨b,c,cur,f,h1,h2,h3,h4,h5,h6,h7,h8,h9,rU,r9⟩:=(r.hb id _ ju).wQ aC;exact(h8 k hk).1.WE (λx hx=>(r.hw id x ((h9 x).2 (.inr ⟨k,hk,hx⟩))).2) (h8 k hk).2
def CV.FC(r:jq w0 B σ a w L){c:CV}{e:E}{is:List Nat}(h:c.ext σ=some (e,is))(kI:c.Gk=false){v:Value}(hv:wV (ji B L) (jx L) L w c v):iO (ji B L) (λ_=>False) w e v:=by
 cases c with
 |e x=>simp only[CV.ext,bK,bU]at h;obtain⟨rfl,_⟩:=h;exact hv.qw (λ_ h=>h) (λ_ h=>h.elim)
 |box id=>
  simp only[CV.ext]at h;split at h
  .rename_i Tt l ju;simp only[bK,bU]at h;obtain⟨rfl,_⟩:=h;obtain⟨_,b,k2,rfl⟩:=hv;exact(r.hb id _ ju).jC k2 λx hx=>(r.hw id x hx).2
  .cases h
 |row id=>cases kI
def CV.L3(r:jq w0 B σ a w L){c:CV}{e:E}{is:List Nat}(h:c.ext σ=some (e,is)){v:Value}(hv:wV (ji B L) (jx L) L w c v):iO (λ_=>False) (λ_=>False) w e v:=by
 cases kI:c.Gk with
 |false=>exact(CV.FC r h kI hv).qw (λ_ h=>h.elim) (λ_ h=>h)
 |true=>
  cases c with
  |row id=>
   simp only[CV.ext]at h;split at h
   .rename_i nl T1 T0 n sz len el ju;split at h
    .rename_i hn;have hn:=kS.1 hn;subst hn;simp only[bK,bU]at h;obtain⟨rfl,_⟩:=h;obtain⟨_,b,n',c,k2,rfl⟩:=hv;have kV:=r.Ud ju (fS 0);obtain⟨b',c',cur,f,h1,h2,h3,h4,h5,h6,h7,h8,h9,rU,r9⟩:=(r.hb id _ ju).wQ aE;rw[k2]at h1;cases h1;have oO:=h6 0 (fS 0) aH;refine .jC 1 _ b 0 (λ_=>L.iU id 0) (λh=>h) (r.hw id b ((h9 b).2 (.inl rfl))).2 (λj hj=>(h8 0 (fS 0)).1.head.2.1) (λj hj=>?_) (λj hj=>kV);obtain rfl:j=0:= aC ;simp only[World.cell?,h2];simpa using oO
    .cases h
   .cases h
  |_=>cases kI
def R4(r:jq w0 B σ a w L){l:List CV}{es:List E}{is:List Nat}(h:uZ σ l=some (es,is))(kI:l.any CV.Gk=false){vs:List Value}(hlen:vs.length=l.length)
 (hv:∀ (i:Nat) (c:CV) (x:Value),l[i]? = some c->vs[i]? = some x->wV (ji B L) (jx L) L w c x):ky (ji B L) (λ_=>False) w es vs:=by
 induction l generalizing es is vs with
 |nil=>simp only[uZ,bK,bU]at h;obtain⟨rfl,_⟩:=h;obtain rfl:=dz hlen;exact .nil _ _ _
 |cons c l ih=>
  cases vs with
  |nil=>simp at hlen
  |cons v vs=>
   simp only[uZ]at h;split at h
   .rename_i x i xs js h1 h2;simp only[bK,bU]at h;obtain⟨rfl,_⟩:=h;simp only[ef,eu]at kI;exact .cons (CV.FC r h1 kI.1 (hv 0 c v rfl rfl)) (ih h2 kI.2 (by simpa using hlen) λi c x hc hx=>hv (i+1) c x (by simpa using hc) (by simpa using hx))
   .cases h
def R5(r:jq w0 B σ a w L){l:List CV}{es:List E}{is:List Nat}(h:uZ σ l=some (es,is)){vs:List Value}(hlen:vs.length=l.length)
 (hv:∀ (i:Nat) (c:CV) (x:Value),l[i]? = some c->vs[i]? = some x->wV (ji B L) (jx L) L w c x):ky (λ_=>False) (λ_=>False) w es vs:=by
 induction l generalizing es is vs with
 |nil=>simp only[uZ,bK,bU]at h;obtain⟨rfl,_⟩:=h;obtain rfl:=dz hlen;exact .nil _ _ _
 |cons c l ih=>
  cases vs with
  |nil=>simp at hlen
  |cons v vs=>
   simp only[uZ]at h;split at h
   .rename_i x i xs js h1 h2;simp only[bK,bU]at h;obtain⟨rfl,_⟩:=h;exact .cons (CV.L3 r h1 (hv 0 c v rfl rfl)) (ih h2 (by simpa using hlen) λi c x hc hx=>hv (i+1) c x (by simpa using hc) (by simpa using hx))
   .cases h
def nN.afH{v:Value}{T:TypeId}{n sz:Nat}{f:Nat->Nat->Value}{nl:Bool}{el:Nat->Nat->E}{bs br:Nat->Prop}(h1:nN w v T n sz f nl)(iJ:∀ x,v.ownBlock=some x->x<w.heap.size)
 (h3:∀ i j,i<n->j<sz->iO bs br w (el i j) (f i j)/\(el i j).nr 2=true):iO bs (λ_=>False) w (.nI true nl n sz el) v:=by
 rcases h1 with⟨rfl,rfl⟩|⟨b,c,cur,rfl,hg,oJ,nS,mE,kt,jQ⟩
 .exact .nI true nl 0 sz el none 0 f (bD _) aE (λ_=>rfl) (λi j hi=>absurd hi (bF i)) (λ_ i j hi=>absurd hi (bF i)) (λi j hi=>absurd hi (bF i)) (λi j hi=>absurd hi (bF i))
 .refine .nI true nl n sz el _ c f oJ (by unfold maxLen at nS;omega) (λh=>by cases h) (λi j hi hj=>⟨(kt i j hi hj).2,λhn=>jQ hn _ (dZ (kt i j hi hj).1)⟩) (λ_ i j hi hj=>(h3 i j hi hj).2)
   (λi j hi hj=>⟨b,0,rfl,λh=>h,iJ b rfl,?_⟩) (λi j hi hj=>iO.nr (h3 i j hi hj).1 2 (h3 i j hi hj).2)
  rw[cD];simp only[World.cell?,hg];simpa using(kt i j hi hj).1
def PV.FC(r:jq w0 B σ a w L){p:PV}{e:E}{is:List Nat}(h:p.ext σ=some (e,is))(kI:p.wF σ=false){v:Value}(hv:kU (ji B L) (jx L) L w p v):iO (ji B L) (λ_=>False) w e v:=by
 cases p with
 |e x=>simp only[PV.ext,bK,bU]at h;obtain⟨rfl,_⟩:=h;exact iO.qw (λ_ h=>h) (λ_ h=>h.elim) hv
 |box id off=>
  cases off with
  |succ=>simp[PV.ext]at h
  |zero=>
   simp only[PV.ext]at h;split at h
   .rename_i Tt l ju;simp only[bK,bU]at h;obtain⟨rfl,_⟩:=h;obtain⟨_,b,k2,rfl⟩:=hv;exact(r.hb id _ ju).jC k2 λx hx=>(r.hw id x hx).2
   .cases h
 |qA f cap=>
  simp only[PV.ext]at h;split at h
  .rename_i xs js h1;simp only[bK,bU]at h;obtain⟨rfl,_⟩:=h;obtain⟨vs,rfl,k2,k3⟩:=hv;have:=R4 r h1 kI k2 k3;exact .fn f xs vs this.len this.kN
  .cases h
 |own id=>
  obtain⟨_,rfl⟩:=hv;simp only[PV.wF]at kI;split at kI
  .rename_i nl T1 T0 n sz len el pend ju;simp only[PV.ext,ju]at h;cases pend with
   |some k=>cases h
   |none=>
    simp only[bK,bU]at h;obtain⟨rfl,_⟩:=h;rcases r.hb id _ ju with⟨h1,h2,_⟩|⟨b,c,cur,f,h1,h2,h3,h4,h5,h6,h7,h8,h9,rU,r9⟩
    .subst h2;rw[h1];exact .nI false true 0 1 _ none 0 (λ_ _=>undef) (bD _) aE (λ_=>rfl) (λi j hi=>absurd hi (bF i)) (λh=>by cases h) (λi j hi=>absurd hi (bF i)) (λi j hi=>absurd hi (bF i))
    .rw [h1];refine .nI false true n 1 _ _ c (λk _=>L.iU id k) h3 (by unfold maxLen at h4;omega) (λh=>by cases h) (λk j hk hj=>⟨(h8 k hk).1.head.2.1,λ_=>(h8 k hk).1.head.2.2⟩) (λh=>by cases h)
      (λk j hk hj=>⟨b,0,rfl,λh=>h,(r.hw id b ((h9 b).2 (.inl rfl))).2,?_⟩) (λk j hk hj=>(h8 k hk).1.afH (λx hx=>(r.hw id x ((h9 x).2 (.inr ⟨k,hk,hx⟩))).2) (h8 k hk).2)
     rw[cD,cI];obtain rfl:j=0:= aC ;simp only[World.cell?,h2];simpa using h6 k hk aH 
  .cases kI
 |iU id k=>cases kI
 |nk=>simp[PV.ext]at h
 |qS=>simp[PV.ext]at h
def PV.L3(r:jq w0 B σ a w L){p:PV}{e:E}{is:List Nat}(h:p.ext σ=some (e,is)){v:Value}(hv:kU (ji B L) (jx L) L w p v):iO (λ_=>False) (λ_=>False) w e v:=by
 by_cases kI:p.wF σ=false
 .exact (PV.FC r h kI hv).qw (λ_ h=>h.elim) (λ_ h=>h)
 .cases p with
  |own id=>
   obtain⟨_,rfl⟩:=hv;simp only[PV.ext]at h;split at h
   .rename_i nl T n sz el ju;simp only[bK,bU]at h;obtain⟨rfl,_⟩:=h;obtain⟨f,h1,h2,h3⟩:=r.hb id _ ju;exact h1.WE (λx hx=>(r.hw id x ((h2 x).2 hx)).2) h3
   .rename_i nl T1 T0 n sz len el ju;exact absurd (by simp only[PV.wF,ju]) kI
   .cases h
  |iU id k=>
   obtain⟨_,rfl⟩:=hv;simp only[PV.ext]at h;split at h
   .rename_i nl T1 T0 n sz len el ju;split at h
    .rename_i hk;simp only[bK,bU]at h;obtain⟨rfl,_⟩:=h;exact r.Ud ju (by simpa[fL]using hk)
    .cases h
   .cases h
  |qA f cap=>
   simp only[PV.ext]at h;split at h
   .rename_i xs js h1;simp only[bK,bU]at h;obtain⟨rfl,_⟩:=h;obtain⟨vs,rfl,k2,k3⟩:=hv;have:=R5 r h1 k2 k3;exact .fn f xs vs this.len this.kN
   .cases h
  |e x=>exact absurd rfl kI
  |box id off=>exact absurd rfl kI
  |nk id sz i j=>exact absurd rfl kI
  |qS id sz k i j=>exact absurd rfl kI
def Qq(r:jq w0 B σ a w L){l:List Operand}{es:List E}{is:List Nat}(h:ui σ l=some (es,is)):ky (λ_=>False) (λ_=>False) w es (l.map a.eval):=by
 induction l generalizing es is with
 |nil=>simp only[ui,bK,bU]at h;obtain⟨rfl,_⟩:=h;exact .nil _ _ _
 |cons x l ih=>
  simp only[ui]at h;split at h
  .rename_i y i xs js h1 h2;simp only[bK,bU]at h;obtain⟨rfl,_⟩:=h;exact .cons (PV.L3 r h1 (r.op x)) (ih h2)
  .cases h
def Qp(r:jq w0 B σ a w L){l:List Operand}{es:List E}{is:List Nat}(h:ui σ l=some (es,is))(kI:(l.map σ.op).any (PV.wF σ)=false):ky (ji B L) (λ_=>False) w es (l.map a.eval):=by
 induction l generalizing es is with
 |nil=>simp only[ui,bK,bU]at h;obtain⟨rfl,_⟩:=h;exact .nil _ _ _
 |cons x l ih=>
  simp only[ui]at h;split at h
  .rename_i y i xs js h1 h2;simp only[bK,bU]at h;obtain⟨rfl,_⟩:=h;simp only[eR,ef,eu]at kI;exact .cons (PV.FC r h1 kI.1 (r.op x)) (ih h2 kI.2)
  .cases h
def Hw(P:Program)(K:World->Prop)(w0:World)(B:Nat->Prop)(σ:PS)(o:Oper)(a:Act)(w:World)(u:kC):Prop:=
 ∀ (Kc:Act->World->Prop) (Q:Exit->Act->World->Prop),(∀ v w' L',jq w0 B (σ.om u.f) a w' L'->kU (ji B L') (jx L') L' w' u.r v->Kc (a.put o.dst v) w')->o.wp P a w Kc Q
def ke.o0(h:ke P K w0 B σ o a w u):Hw P K w0 B σ o a w u:=by
 intro Kc Q hk;obtain⟨v,w',L',kP,hr,hp⟩:=h;unfold Oper.wp;rcases kP with kP|⟨kP,rfl⟩
 .rw [kP];exact hk v w' L' hr hp
 .rw [kP];exact hk _ w' L' hr hp
def RJ(g:Gd P K w0 B)(r:jq w0 B σ a w L){c:Call}{f:Operand}(iH:o.op = .call c)(hf:c.callee = .value f){gf:FuncId}{xs ys:List E}{is:List Nat}{us:List Value}
 {ow:Bool} (zw:a.eval f = .func (.func gf) #[] us.toArray) (Nn:ky (λ_=>False) (λ_=>False) w xs (c.args.toList.map a.eval)) (qf:ow=false->ky (ji B L) (λ_=>False) w xs (c.args.toList.map a.eval)) (Nj:ky (λ_=>False) (λ_=>False) w ys us) (zJ:ow=false->ky (ji B L) (λ_=>False) w ys us)
 (h:AT P K O σ o.dst gf (xs++ys) is ow=some u) (ho:∀ q,q ∈ u.jL->q):Hw P K w0 B σ o a w u:=by
 intro Kc Q hk;simp only[AT]at h;split at h
 .rename_i kq F7;split at h
  .rename_i hc;cases h;have pc:PC P K gf (xs++ys) kq:=ho _ aH;have ME:=Nn.app Nj;have kP:(execOp a.eval o).run P w = .ok (.enter gf ((c.args.toList.map a.eval)++us).toArray) w:=by
    have e1:c.args.map a.eval=(c.args.toList.map a.eval).toArray:=by apply dJ;simp
    have e2:#[]++(c.args.toList.map a.eval).toArray++us.toArray=((c.args.toList.map a.eval)++us).toArray:= aH ;simp only[execOp,iH,resolve,hf,zw,Deferred.ofValue,Sem.run_bind,Sem.run_pure,Result.andThen_ok,invoke,e1,e2,pc.call]
   unfold Oper.wp;rw[kP];show Calls P gf _ w _;have hK:K w:=g.JX _ _ g.k r.he;by_cases Cs:kq.plain 3=true
   .refine (pc.run w (λ_=>False) _ hK (λ_ h=>h.elim) ME).mono ?_;rintro e w' ⟨v,rfl,hb,hv⟩;exact hk v w' L (r.later hb) (iO.plain (w:=w') hv 3 Cs)
   .have hn:σ.nl=true/\ow=false:=by simpa[Cs]using hc
    refine(pc.run w (ji B L) _ hK (r.Io g hn.1) ((qf hn.2).app (zJ hn.2))).mono ?_;rintro e w' ⟨v,rfl,hb,hv⟩;exact hk v w' L (r.later hb) (iO.qw (λ_ h=>h) (λ_ _=>trivial) hv)
  .split at h
   .rename_i hc;cases h;have pc:Hz P K gf (xs++ys) kq:=ho _ aH;have kP:(execOp a.eval o).run P w = .ok (.enter gf ((c.args.toList.map a.eval)++us).toArray) w:=by
     have e1:c.args.map a.eval=(c.args.toList.map a.eval).toArray:=by apply dJ;simp
     have e2:#[]++(c.args.toList.map a.eval).toArray++us.toArray=((c.args.toList.map a.eval)++us).toArray:= aH ;simp only[execOp,iH,resolve,hf,zw,Deferred.ofValue,Sem.run_bind,Sem.run_pure,Result.andThen_ok,invoke,e1,e2,pc.call]
    unfold Oper.wp;rw[kP];show Calls P gf _ w _;have hK:K w:=g.JX _ _ g.k r.he;have hn:ow=false:=by simpa using hc
    refine(pc.run w (ji B L) _ hK (λb hb=>?_) ((qf hn).app (zJ hn))).mono ?_
    .rcases hb with hb|⟨id,hb⟩
     .exact bX (g.hB b hb).1 r.he.size
     .exact (r.hw id b hb).2
    .rintro e w' ⟨v,rfl,hb,hv⟩;exact hk v w' L (r.later hb) (iO.qw (λ_ h=>h) (λ_ _=>trivial) hv)
   .split at h
    .rename_i jQ;cases h;have pc:PC P K gf (xs++ys) kq:=ho _ aH;have uw:vY kq:=ho _ aH;have ME:=Nn.app Nj;have kP:(execOp a.eval o).run P w = .ok (.enter gf ((c.args.toList.map a.eval)++us).toArray) w:=by
      have e1:c.args.map a.eval=(c.args.toList.map a.eval).toArray:=by apply dJ;simp
      have e2:#[]++(c.args.toList.map a.eval).toArray++us.toArray=((c.args.toList.map a.eval)++us).toArray:= aH ;simp only[execOp,iH,resolve,hf,zw,Deferred.ofValue,Sem.run_bind,Sem.run_pure,Result.andThen_ok,invoke,e1,e2,pc.call]
     unfold Oper.wp;rw[kP];show Calls P gf _ w _;have hK:K w:=g.JX _ _ g.k r.he;refine(pc.run w (λ_=>False) _ hK (λ_ h=>h.elim) ME).mono ?_;rintro e w' ⟨v,rfl,hb,hv⟩;have r':=r.later hb;exact hk v w' L r' (iO.qw (λ_ h=>h) (λ_ _=>trivial) (uw _ _ _ _ _ (λx hx=>.inr (r'.Io g jQ x hx).2) hv))
    .cases h
 .split at h
  .rename_i d hd;split at h
   .rename_i nl T n sz el hnw;split at h
    .rename_i hc;cases h;simp only[bO]at hc;have pc:uR P K gf (xs++ys) nl T n sz el:=ho _ aH;have kP:(execOp a.eval o).run P w = .ok (.enter gf ((c.args.toList.map a.eval)++us).toArray) w:=by
      have e1:c.args.map a.eval=(c.args.toList.map a.eval).toArray:=by apply dJ;simp
      have e2:#[]++(c.args.toList.map a.eval).toArray++us.toArray=((c.args.toList.map a.eval)++us).toArray:= aH ;simp only[execOp,iH,resolve,hf,zw,Deferred.ofValue,Sem.run_bind,Sem.run_pure,Result.andThen_ok,invoke,e1,e2,pc.call]
     unfold Oper.wp;rw[kP];show Calls P gf _ w _;have hK:K w:=g.JX _ _ g.k r.he;have fin:∀ (v:Value) (w':World) (gg:Nat->Nat->Value),Below w.heap.size w w'->nN w' v T n sz gg nl->(∀ x,v.ownBlock=some x->w.heap.size<=x/\x<w'.heap.size) ->
      (∀ i j,i<n->j<sz->iO (λb=>ji B L b\/v.ownBlock=some b) (λ_=>True) w' (el i j) (gg i j)/\(el i j).nr 2=true)->Kc (a.put o.dst v) w':=by
      intro v w' gg hb lO tO yp;have key:∀ (σ1:PS) (L1:Lk),jq w0 B σ1 a w L1->(∀ i x,L1.own i x->L.own i x)->σ1.bo d=none->σ1.nl=σ.nl->∃ L',jq w0 B (σ1.om (.new d (.row nl T n sz el))) a w' L'/\kU (ji B L') (jx L') L' w' (.own d) v:=by
       intro σ1 L1 r1 Bh kI ams;have aeC:=r1.new d (.row nl T n sz el) (λx=>v.ownBlock=some x) v (λ_=>undef) w' kI tO hb
        ⟨gg,by rw[Lk.pj];exact lO,λx=>by rw[Lk.sj,Lk.pj],λi j hi hj=>⟨?_,(yp i j hi hj).2⟩⟩ (by simp[Bx.nl,hc.2])
       .exact ⟨_,aeC,Lk.BM,Lk.pj.symm⟩
       .refine (yp i j hi hj).1.qw (λb h=>?_) (λ_ _=>trivial);rcases h with h|⟨id,h⟩
        .exact .inl (.inl h)
        .by_cases e:id=d
         .subst e;exact .inr ((Lk.sj b).1 h)
         .exact .inl (.inr ⟨id,Bh _ _ ((Lk.BN e b).1 h)⟩)
      cases ju:σ.bo d with
      |none=>
       obtain⟨L',k1,k2⟩:=key σ L r (λ_ _ h=>h) ju rfl;exact hk v w' L' (by simpa only[uF,ju]using k1) k2
      |some b=>
       obtain⟨L1,r1,Bh,kI⟩:=r.RN d;obtain⟨L',k1,k2⟩:=key _ L1 r1 Bh kI rfl;rw[RS]at k1;exact hk v w' L' (by simpa only[uF,ju]using k1) k2
     cases oQ:ow with
     |false=>
      refine(pc.run w (ji B L) _ hK (r.Io g hc.1) ((qf oQ).app (zJ oQ))).mono ?_;rintro e w' ⟨v,rfl,hb,gg,lO,tO,yp⟩;exact fin v w' gg hb lO tO yp
     |true=>
      have uw:E3 n sz el:=ho _ (by simp[oQ]);refine(pc.run w (λ_=>False) _ hK (λ_ h=>h.elim) (Nn.app Nj)).mono ?_;rintro e w' ⟨v,rfl,hb,gg,lO,tO,yp⟩;have r':=r.later hb;refine fin v w' gg hb lO tO λi j hi hj=>⟨uw i j hi hj _ _ _ _ _ (λx hx=>?_) (yp i j hi hj).1,(yp i j hi hj).2⟩
      rcases hx with hx|hx
      .exact .inr (r'.Io g hc.1 x hx).2
      .exact .inl (.inr hx)
    .cases h
   .cases h
  .cases h
def LU(hT:mB P T)(g:Gd P K w0 B)(r:jq w0 B σ a w L)(h:jM P K T O σ o=some u)(ho:∀ q,q ∈ u.jL->q):Hw P K w0 B σ o a w u:=by
 cases iH:o.op with
 |move x=>exact(adO (P:=P) (K:=K) iH r h).o0
 |assign x=>exact(adu (P:=P) (K:=K) iH r h).o0
 |pick c x y=>exact(adQ (P:=P) (K:=K) iH r h).o0
 |alloc t=>exact(ads hT iH r h).o0
 |box t x=>exact(adw (P:=P) (K:=K) iH r h).o0
 |build t ps=>exact(adx hT iH r h).o0
 |buildSlice t n ps=>exact(ady hT (λb hb=>(g.hB b hb).1) iH r h).o0
 |load t x=>exact(adH hT iH r h ho).o0
 |store t x y=>exact(adS hT iH r h ho).o0
 |nilCheck x=>exact(adP (P:=P) (K:=K) iH r h).o0
 |binOp op t x y yt=>exact(adv hT iH r h ho).o0
 |unOp op t x=>exact(adT (P:=P) (K:=K) iH r h ho).o0
 |convert s d x=>exact(adz hT iH r h).o0
 |makeFunc fn first cap=>exact(adJ (P:=P) (K:=K) iH r h).o0
 |makeSlice t l c=>exact(adK hT iH r h ho).o0
 |slice t x lo hi mx=>
  cases mx with
  |none=>exact(adR hT iH r h ho).o0
  |some=>simp[jM,iH]at h
 |fieldAddr t x f=>exact(adC hT iH r h).o0
 |indexAddr t x i=>exact(adE hT iH r h ho).o0
 |index t x i=>exact(adD hT iH r h ho).o0
 |field t x f=>exact(adB hT iH r h).o0
 |lookup t x i ok=>exact(adI hT iH r h ho).o0
 |extract x i=>exact(adA (P:=P) (K:=K) iH r h).o0
 |call c=>
  obtain⟨callee,args,ats⟩:=c;cases callee with
  |builtin b=>
   simp only[jM,iH]at h;cases b
   case len=>
    dsimp only at h;split at h
    .rename_i x t hx ht;have ha:args = #[x]:=by apply dJ;simpa using hx
     have Ga:ats = #[t]:=by apply dJ;simpa using ht
     split at h
     .rename_i e hd;obtain⟨rr,hr,rfl⟩:=b7.1 h;exact(adG hT (by rw[ha,Ga]) iH hd r hr rfl).o0
     .cases h
    .cases h
   case append=>
    dsimp only at h;split at h
    .rename_i s x t t' hx ht;have ha:args = #[s,x]:=by apply dJ;simpa using hx
     have Ga:ats = #[t,t']:=by apply dJ;simpa using ht
     split at h
     .rename_i qP;have qP:=kS.1 qP;subst qP;split at h
      .rename_i q hq;exact(adF hT (by rw[ha,Ga]) iH r hq h ho).o0
      split at h
      .exact (adt hT (λb hb=>(g.hB b hb).1) (by rw[ha,Ga]) iH r h ho).o0
      .exact (Sx hT (by rw[ha,Ga]) iH r h ho).o0
     .cases h
    .cases h
   case max=>
    dsimp only at h;split at h
    .rename_i k p k' q hx;rcases args with⟨l⟩
     rcases l with _|⟨x,_|⟨y,_|⟨z,l⟩⟩⟩<;>simp at hx
     cases h;exact(adL (P:=P) (K:=K) ⟨rfl,rfl⟩ iH r hx.1 hx.2 rfl).o0
    .rename_i k p k' q k'' s hx;rcases args with⟨l⟩
     rcases l with _|⟨x,_|⟨y,_|⟨z,_|⟨z',l⟩⟩⟩⟩<;>simp at hx
     cases h;exact(adM (P:=P) (K:=K) ⟨rfl,rfl⟩ iH r hx.1 hx.2.1 hx.2.2 rfl).o0
    .cases h
   case min=>
    dsimp only at h;split at h
    .rename_i k p k' q hx;rcases args with⟨l⟩
     rcases l with _|⟨x,_|⟨y,_|⟨z,l⟩⟩⟩<;>simp at hx
     cases h;exact(adN (P:=P) (K:=K) ⟨rfl,rfl⟩ iH r hx.1 hx.2 rfl).o0
    .cases h
   all_goals cases h
  |value f=>
   simp only[jM,iH]at h;have zw:=r.op f;split at h
   .rename_i gf cap xs is Cr qf;rw[Cr]at zw;obtain⟨us,e1,zJ⟩:=iO.Sn zw;exact RJ g r iH rfl e1 (Qq r qf) (λkI=>Qp r qf kI) (zJ.mono λ_ _=>iO.qw (λ_ h=>h.elim) (λ_ h=>h.elim)) (λ_=>zJ.mono λ_ _=>iO.qw (λ_ h=>h) (λ_ h=>h.elim)) h ho
   .rename_i gf cap xs is Cr qf;rw[Cr]at zw;obtain⟨us,e1,k2,k3⟩:=zw;split at h
    .rename_i ys js CA;exact RJ g r iH rfl e1 (Qq r qf) (λkI=>Qp r qf (eu.1 kI).1) (R5 r CA k2 k3) (λkI=>R4 r CA (eu.1 kI).2 k2 k3) h ho
    .cases h
   .cases h
  |invoke _ _=>simp[jM,iH]at h
 |_=>simp[jM,iH]at h
def acK(hT:mB P T)(g:Gd P K w0 B)(r:jq w0 B σ a w L)(h:uY P K T O σ o=some u)(ho:∀ q,q ∈ u.jL->q):Hw P K w0 B σ o a w u:=by
 unfold uY at h;split at h
 .rename_i u0 h0;split at h
  .split at h
   .rename_i p hp;cases h;have he:PV.le u0.r p:=ho _ aH;have:=LU hT g r h0 (λq hq=>ho q (by simp[hq]));intro Kc Q hk;exact this Kc Q λv w' L' hr hv=>hk v w' L' hr (he _ _ _ _ _ hv)
   .cases h;exact LU hT g r h0 ho
  .cases h;exact LU hT g r h0 ho
 .cases h
end
section
variable {P:Program} {K:World->Prop} {T:List TI} {O:qy} {σ τ:PS} {o:Oper} {u:kC}
def ahc{x:Operand}(h:∀ t,x = .tmp t->σ.get t=τ.get t):τ.op x=σ.op x:=by
 cases x with
 |tmp t=>exact(h t rfl).symm
 |_=>rfl
def ah7{id off m:Nat}{l:List E}{is:List Nat}{jL:List Prop}(h:σ.read (.box id off) m=some (l,is,jL)):is=[id]:=by
 simp only[PS.read]at h;split at h
 .split at h
  .simp only[bK,bU]at h;exact h.2.1.symm
  .cases h
 .split at h
  .obtain ⟨es,FT,h⟩:=b7.1 h;simp only[bU]at h;exact h.2.1.symm
  .cases h
 .cases h
def af3{ti:TI}{l:List E}{is:List Nat}{jL:List Prop}(h:Bo ti (some (l,is,jL))=some u):u.rb=is:=by
 simp only[Bo]at h;split at h
 .cases h;rfl
 .split at h
  .cases h;rfl
  .cases h
def acD{ti:TI}{bi bq:Option Bx}{id off q:Nat}(h:DI ti bi bq id off q=some u):u.rb=[id,q]:=by
 unfold DI at h;split at h
 .rename_i hM;cases h;unfold IT at hM;split at hM
  .split at hM
   .cases hM;rfl
   .cases hM
  .cases hM
 .unfold IS at h;split at h
  .split at h
   .cases h;rfl
   .cases h
  .cases h
def ah8{p:PV}{m:Nat}{l:List E}{is:List Nat}{jL:List Prop}(h:σ.read p m=some (l,is,jL))(hb:∀ id,id ∈ is->σ.bo id=τ.bo id):τ.read p m=some (l,is,jL):=by
 cases p with
 |box id off=>
  have h0:=h;simp only[PS.read]at h;split at h
  .split at h
   .simp only[bK,bU]at h;obtain⟨_,rfl,_⟩:=h;simp only[PS.read,<-hb id aH];exact h0
   .cases h
  .split at h
   .obtain ⟨es,FT,h⟩:=b7.1 h;simp only[bU]at h;obtain⟨_,rfl,_⟩:=h;simp only[PS.read,<-hb id aH];exact h0
   .cases h
  .cases h
 |nk id sz i j=>
  have h0:=h;simp only[PS.read]at h;split at h
  .split at h
   .simp only[bK,bU]at h;obtain⟨_,rfl,_⟩:=h;simp only[PS.read,<-hb id aH];exact h0
   .cases h
  .cases h
 |qS id sz k i j=>
  have h0:=h;simp only[PS.read]at h;split at h
  .split at h
   .simp only[bK,bU]at h;obtain⟨_,rfl,_⟩:=h;simp only[PS.read,<-hb id aH];exact h0
   .cases h
  .cases h
 |e x=>cases x<;>exact h
 |_=>exact h
def abu{c:CV}{e:E}{is:List Nat}(h:c.ext σ=some (e,is))(hb:∀ id,id ∈ is->σ.bo id=τ.bo id):c.ext τ=some (e,is):=by
 cases c with
 |e x=>exact h
 |box id=>
  have h0:=h;simp only[CV.ext]at h;split at h
  .simp only[bK,bU]at h;obtain⟨_,rfl⟩:=h;simp only[CV.ext,<-hb id aH];exact h0
  .cases h
 |row id=>
  have h0:=h;simp only[CV.ext]at h;split at h
  .split at h
   .simp only[bK,bU]at h;obtain⟨_,rfl⟩:=h;simp only[CV.ext,<-hb id aH];exact h0
   .cases h
  .cases h
def R3{l:List CV}{es:List E}{is:List Nat}(h:uZ σ l=some (es,is))(hb:∀ id,id ∈ is->σ.bo id=τ.bo id):uZ τ l=some (es,is):=by
 induction l generalizing es is with
 |nil=>exact h
 |cons c l ih=>
  simp only[uZ]at h;split at h
  .rename_i x i xs js h1 h2;simp only[bK,bU]at h;obtain⟨rfl,rfl⟩:=h;simp only[uZ,abu h1 λid hi=>hb id (by simp[hi]),ih h2 λid hi=>hb id (by simp[hi])]
  .cases h
def ahD{p:PV}{e:E}{is:List Nat}(h:p.ext σ=some (e,is))(hb:∀ id,id ∈ is->σ.bo id=τ.bo id):p.ext τ=some (e,is):=by
 cases p with
 |e x=>exact h
 |box id off=>
  cases off with
  |succ=>exact h
  |zero=>
   have h0:=h;simp only[PV.ext]at h;split at h
   .simp only[bK,bU]at h;obtain⟨_,rfl⟩:=h;simp only[PV.ext,<-hb id aH];exact h0
   .cases h
 |qA f cap=>
  simp only[PV.ext]at h;split at h
  .rename_i xs js h1;simp only[bK,bU]at h;obtain⟨rfl,rfl⟩:=h;simp only[PV.ext,R3 h1 hb]
  .cases h
 |own id=>
  have h0:=h;simp only[PV.ext]at h;split at h
  .simp only[bK,bU]at h;obtain⟨_,rfl⟩:=h;simp only[PV.ext,<-hb id aH];exact h0
  .simp only[bK,bU]at h;obtain⟨_,rfl⟩:=h;simp only[PV.ext,<-hb id aH];exact h0
  .cases h
 |iU id k=>
  have h0:=h;simp only[PV.ext]at h;split at h
  .split at h
   .simp only[bK,bU]at h;obtain⟨_,rfl⟩:=h;simp only[PV.ext,<-hb id aH];exact h0
   .cases h
  .cases h
 |_=>exact h
def Qo{l:List Operand}{es:List E}{is:List Nat}(h:ui σ l=some (es,is))(hg:∀ x,x ∈ l->τ.op x=σ.op x)(hb:∀ id,id ∈ is->σ.bo id=τ.bo id):ui τ l=some (es,is):=by
 induction l generalizing es is with
 |nil=>exact h
 |cons c l ih=>
  simp only[ui]at h;split at h
  .rename_i x i xs js h1 h2;simp only[bK,bU]at h;obtain⟨rfl,rfl⟩:=h;simp only[ui,hg c aH,ahD h1 λid hi=>hb id (by simp[hi]),ih h2 (λx hx=>hg x (by simp[hx])) λid hi=>hb id (by simp[hi])]
  .cases h
def ae5{p:PV}{e:E}{is:List Nat}(h:p.ext σ=some (e,is))(hb:∀ id,id ∈ is->σ.bo id=τ.bo id):p.wF τ=p.wF σ:=by
 cases p with
 |own id=>
  have hid:σ.bo id=τ.bo id:=by
   simp only[PV.ext]at h;split at h
   .simp only[bK,bU]at h;obtain⟨_,rfl⟩:=h;exact hb id aH 
   .simp only[bK,bU]at h;obtain⟨_,rfl⟩:=h;exact hb id aH 
   .cases h
  simp only[PV.wF,hid]
 |_=>rfl
def Qk{l:List Operand}{es:List E}{is:List Nat}(h:ui σ l=some (es,is))(hg:∀ x,x ∈ l->τ.op x=σ.op x)(hb:∀ id,id ∈ is->σ.bo id=τ.bo id):(l.map τ.op).any (PV.wF τ)=(l.map σ.op).any (PV.wF σ):=by
 induction l generalizing es is with
 |nil=>rfl
 |cons c l ih=>
  simp only[ui]at h;split at h
  .rename_i x i xs js h1 h2;simp only[bK,bU]at h;obtain⟨rfl,rfl⟩:=h;simp only[eR,ef,hg c aH,ae5 h1 λid hi=>hb id (by simp[hi]),ih h2 (λx hx=>hg x (by simp[hx])) λid hi=>hb id (by simp[hi])]
  .cases h
def Sg{place:Nat->Option (Nat×Nat)}{ps:List (Nat×Operand)}(hg:∀ x,x ∈ ps.map (·.2)->τ.op x=σ.op x):∀ l,ss τ place l ps=ss σ place l ps:=by
 induction ps with
 |nil=>intro l;rfl
 |cons p ps ih=>
  intro l;obtain⟨i,x⟩:=p;simp only[ss,hg x aH,ih λx hx=>hg x (by simp only[eR,dw];exact .inr hx)]
def NU{d:Option Tmp}{b:Bx}{rr:Nat->PV}{jL:List Prop}(h:zZ σ d b rr jL=some u)(jQ:σ.nl=τ.nl)(hn:∀ id b,u.f = .new id b->τ.bo id=none):zZ τ d b rr jL=some u:=by
 obtain⟨id,rfl,kI,hc,rfl⟩:=Gw h;rw[jQ]at hc;simp only[zZ,hn id b rfl,hc,bL]
def VW{d:Nat}{b:Bx}(h:σ.bo d=τ.bo d):uF τ d b=uF σ d b:=by unfold uF;rw[h]
def VY{d:Nat}{is:List Nat}(h:σ.bo d=τ.bo d):Ad τ d is=Ad σ d is:=by unfold Ad;rw[h]
def VZ{d:Nat}{b:Bx}{is:List Nat}{u:kC}(hf:u.f=uF σ d b)(hr:u.rb=Ad σ d is)(hb:∀ id,id ∈ u.rb->σ.bo id=τ.bo id)(hn:∀ id b,u.f = .new id b->τ.bo id=none):σ.bo d=τ.bo d:=by
 cases ju:σ.bo d with
 |none=>exact(hn d b (by rw[hf,uF,ju])).symm
 |some x=>rw[<-ju];exact hb d (by rw[hr,Ad,ju];simp)
def Vq{d:Option Tmp}{b:Bx}{rr:Nat->PV}(h:Bs σ d b rr=some u)(hb:∀ id,id ∈ u.rb->σ.bo id=τ.bo id)(jQ:σ.nl=τ.nl)(hn:∀ id b,u.f = .new id b->τ.bo id=none):Bs τ d b rr=some u:=by
 obtain⟨id,rfl,hc,rfl⟩:=JE h;have e:σ.bo id=τ.bo id:=VZ (b:=b) (is:=[]) rfl rfl hb hn;rw[jQ]at hc;simp only[Bs,hc,bL,VW e,VY e]
def RY{d:Option Tmp}{t:TypeId}{s x:PV}{u:kC}(h:AS T σ d t s x=some u)(hb:∀ id,id ∈ u.rb->σ.bo id=τ.bo id)(jQ:σ.nl=τ.nl)(hn:∀ id b,u.f = .new id b->τ.bo id=none):AS T τ d t s x=some u:=by
 simp only[AS]at h ⊢;split at h
 .split at h
  .split at h
   .split at h
    .split at h
     .split at h
      .rename_i hc;simp only[hc,bL];split at h
       .rename_i id;split at h
        .rename_i ju;split at h
         .rename_i oP;cases h;simp only[<-hb id aH,<-jQ,ju,oP,bL]
         .cases h
        .cases h
       .rename_i id k;split at h
        .rename_i ju;split at h
         .rename_i oP;cases h;simp only[<-hb id aH,ju,oP,bL]
         .cases h
        .cases h
       .exact NU h jQ hn
       .cases h
      .cases h
     .cases h
    .cases h
   .cases h
  .cases h
 .cases h
def acz{d:Option Tmp}{t:TypeId}{s x:PV}{u:kC}(h:Ca T σ d t s x=some u)(hb:∀ id,id ∈ u.rb->σ.bo id=τ.bo id)(jQ:σ.nl=τ.nl):Ca T τ d t s x=some u:=by
 unfold Ca at h ⊢;split at h
 .rename_i u0 h0;split at h
  .rename_i id nl T1 n sz el id' hf hr;split at h
   .rename_i hid;cases h;have:=RY (σ:={ σ with nl:=false }) (τ:={ τ with nl:=false }) h0 hb rfl λi b e=>by rw[hf]at e;cases e
    rw[this];simp only[hf,hr,hid,bL]
   .cases h
  .cases h
 .cases h
def acE{d:Option Tmp}{t:TypeId}{n q:Nat}{u:kC}(h:Cc T σ d t n q=some u)(hb:∀ id,id ∈ u.rb->σ.bo id=τ.bo id):Cc T τ d t n q=some u:=by
 unfold Cc at h ⊢;split at h
 .rename_i id;have h0:=h;split at h
  .rename_i h1 h2 h3;split at h
   .rename_i hc;cases h;simp only[<-hb id aH,<-hb q aH];exact h0
   .cases h
  .cases h
 .cases h
def acB{d:Option Tmp}{t:TypeId}{s:PV}{q:Nat}{u:kC}(h:Cb T σ d t s q=some u)(hb:∀ id,id ∈ u.rb->σ.bo id=τ.bo id):Cb T τ d t s q=some u:=by
 unfold Cb at h ⊢;have h0:=h;split at h
 .rename_i h1 h2;split at h
  .rename_i id;split at h
   .rename_i h3;split at h
    .rename_i hc;cases h;simp only[<-hb id aH,<-hb q aH];exact h0
    .cases h
   .cases h
  .rename_i id;split at h
   .rename_i h3;split at h
    .rename_i hc;cases h;simp only[<-hb id aH,<-hb q aH];exact h0
    .cases h
   .cases h
  .cases h
 .cases h
def ahw{ps:List (Nat×Operand)}(hg:∀ x,x ∈ ps.map (·.2)->τ.op x=σ.op x):BB τ ps=BB σ ps:=by
 unfold BB;split
 .rw [hg _ aH]
 .rfl
def acF(h:jM P K T O σ o=some u)(hg:∀ x,x ∈ o.op.operands->τ.op x=σ.op x)(hb:∀ id,id ∈ u.rb->σ.bo id=τ.bo id)(jQ:σ.nl=τ.nl)(hn:∀ id b,u.f = .new id b->τ.bo id=none):
 jM P K T O τ o=some u:=by
 cases iH:o.op with
 |move x=>rw[iH]at hg;simp only[jM,iH]at h ⊢;rw[hg x aQ];exact h
 |assign x=>rw[iH]at hg;simp only[jM,iH]at h ⊢;rw[hg x aQ];exact h
 |pick c x y=>rw[iH]at hg;simp only[jM,iH]at h ⊢;rw[hg c aQ,hg x aQ,hg y aQ];exact h
 |nilCheck x=>rw[iH]at hg;simp only[jM,iH]at h ⊢;rw[hg x aQ];exact h
 |binOp op t x y yt=>rw[iH]at hg;simp only[jM,iH]at h ⊢;rw[hg x aQ,hg y aQ];exact h
 |unOp op t x=>rw[iH]at hg;simp only[jM,iH]at h ⊢;rw[hg x aQ];exact h
 |convert s d x=>rw[iH]at hg;simp only[jM,iH]at h ⊢;rw[hg x aQ];exact h
 |index t x i=>rw[iH]at hg;simp only[jM,iH]at h ⊢;rw[hg x aQ,hg i aQ];exact h
 |extract x i=>rw[iH]at hg;simp only[jM,iH]at h ⊢;rw[hg x aQ];exact h
 |fieldAddr t x f=>rw[iH]at hg;simp only[jM,iH]at h ⊢;rw[hg x aQ];exact h
 |field t x f=>rw[iH]at hg;simp only[jM,iH]at h ⊢;rw[hg x aQ];exact h
 |lookup t x i ok=>
  rw[iH]at hg;cases ok with
  |true=>simp[jM,iH]at h
  |false=>simp only[jM,iH]at h ⊢;rw[hg x aQ,hg i aQ];exact h
 |makeFunc fn first cap=>
  rw[iH]at hg;cases fn with
  |func f=>
   simp only[jM,iH]at h ⊢;have:cap.toList.map τ.op=cap.toList.map σ.op:=fv λx hx=>hg x (by simp only[Op.operands,fM];exact .inr (by simpa using hx))
   rw[this];exact h
  |_=>simp[jM,iH]at h
 |slice t x lo hi mx=>
  rw[iH]at hg;cases mx with
  |some=>simp[jM,iH]at h
  |none=>
   simp only[jM,iH]at h ⊢;have e1:lo.map τ.op=lo.map σ.op:=by cases lo with
    |none=>rfl
    |some y=>simp only[cK];rw[hg y aQ]
   have e2:hi.map τ.op=hi.map σ.op:=by cases hi with
    |none=>rfl
    |some y=>simp only[cK];rw[hg y aQ]
   rw[hg x aQ,e1,e2];exact h
 |alloc t=>
  simp only[jM,iH]at h ⊢;split at h
  .split at h
   .exact Vq h hb jQ hn
   .cases h
  .cases h
 |box t x=>
  rw[iH]at hg;simp only[jM,iH]at h ⊢;rw[hg x aQ];split at h
  .split at h
   .exact Vq h hb jQ hn
   .cases h
  .cases h
 |build t ps=>
  rw[iH]at hg;simp only[jM,iH]at h ⊢;have hf:∀ place l,ss τ place l ps.toList=ss σ place l ps.toList:=λplace=>Sg λx hx=>hg x (by simpa[Op.operands]using hx)
  simp only[hf];exact h
 |buildSlice t n ps=>
  rw[iH]at hg;simp only[jM,iH]at h ⊢;have hf:∀ place l,ss τ place l ps.toList=ss σ place l ps.toList:=λplace=>Sg λx hx=>hg x (by simpa[Op.operands]using hx)
  have ho:BB τ ps.toList=BB σ ps.toList:=ahw λx hx=>hg x (by simpa[Op.operands]using hx)
  simp only[hf,ho];split at h
  .exact acE h hb
  split at h
  .split at h
   .split at h
    .split at h
     .split at h
      .rename_i hif;rw[bw hif];obtain⟨l,hl,h⟩:=gZ.1 h;refine gZ.2 ⟨l,hl,?_⟩;split at h
       .cases h
       .rename_i h1;rw[bu h1];split at h
        .rename_i h2;rw[bw h2];exact NU h jQ hn
        .rename_i h2;rw[bu h2];exact h
      .cases h
     .cases h
    .cases h
   .cases h
  .cases h
 |load t x=>
  rw[iH]at hg;simp only[jM,iH,IL]at h ⊢;rw[hg x aQ];split at h
  .rename_i ti ot;split at h
   .rename_i id q pF;have hid:σ.bo id=τ.bo id:=by
     split at h
     .cases h
     .cases h;exact hb id aH 
    have MR:Ce τ (σ.op x)=some (id,q):=by
     cases hp:σ.op x with
     |box id' off=>
      rw[hp]at pF;have h0:=pF;simp only[Ce]at pF;split at pF
      .obtain ⟨q',hq,pF⟩:=b7.1 pF;simp only[bU]at pF;obtain⟨rfl,rfl⟩:=pF;simp only[Ce,<-hid];exact h0
      .cases pF
     |_=>rw[hp]at pF;cases pF
    simp only[MR];exact h
   rename_i pF;have MR:Ce τ (σ.op x)=none:=by
    cases hp:σ.op x with
    |box id off=>
     have hid:id ∈ u.rb:=by
      rw[hp]at h;have h':Bo ti (σ.read (.box id off) ti.i.size)=some u:=h;cases hr:σ.read (.box id off) ti.i.size with
      |none=>rw[hr]at h';cases h'
      |some y=>
       obtain⟨l,is,jL⟩:=y;rw[hr]at h';rw[af3 h',ah7 hr];simp
     rw[hp]at pF;simp only[Ce,<-hb id hid];exact pF
    |_=>rfl
   simp only[MR];unfold IM at h ⊢;split at h
   .rename_i id i n qn;have aeI:C7 τ (σ.op x)=some (id,i,n):=by
     have hid:σ.bo id=τ.bo id:=by
      split at h
      .cases h
      .cases h;exact hb id aH 
     cases hp:σ.op x with
     |nk id' sz i' j=>
      rw[hp]at qn;have h0:=qn;simp only[C7]at qn;split at qn
      .split at qn
       .simp only[bK,bU]at qn;obtain⟨rfl,_,_⟩:=qn;simp only[C7,<-hid];exact h0
       .cases qn
      .cases qn
     |_=>rw[hp]at qn;cases qn
    simp only[aeI];exact h
   .rename_i qn;have key:∀ is,(∃ l jL,σ.read (σ.op x) ti.i.size=some (l,is,jL))->(∀ id,id ∈ is->σ.bo id=τ.bo id)->C7 τ (σ.op x)=none:=by
     rintro is ⟨l,jL,hr⟩ nR;cases hp:σ.op x with
     |nk id sz i j=>
      rw[hp]at hr qn;simp only[PS.read]at hr;split at hr
      .rename_i ju;split at hr
       .simp only[bK,bU]at hr;obtain⟨_,rfl,_⟩:=hr;simp only[C7,<-nR id aH,ju]
       .cases hr
      .cases hr
     |_=>rfl
    cases hr:σ.read (σ.op x) ti.i.size with
    |none=>rw[hr]at h;cases h
    |some y=>
     obtain⟨l,is,jL⟩:=y;have Cv:u.rb=is:=by
      rw[hr]at h;simp only[Bo]at h;split at h
      .cases h;rfl
      .split at h
       .cases h;rfl
       .cases h
     have nR:∀ id,id ∈ is->σ.bo id=τ.bo id:=λid hi=>hb id (by rw[Cv];exact hi)
     rw[key is ⟨l,jL,hr⟩ nR];simp only;rw[ah8 hr nR];rw[hr]at h;exact h
  .cases h
 |store t x y=>
  rw[iH]at hg;simp only[jM,iH,IQ]at h ⊢;rw[hg x aQ,hg y aQ];split at h
  .split at h
   .rename_i id off e _ _;split at h
    .rename_i ju hm;split at h
     .rename_i hc;cases h;rw[jQ]at hc;simp only[<-hb id aH,ju,hm,hc,bL]
     .cases h
    .rename_i ju hm;split at h
     .rename_i hc;cases h;simp only[<-hb id aH,ju,hm,hc,bL]
     .cases h
    .cases h
   .rename_i id off q _ _;have e:=acD h;rw[<-hb id (by rw[e];simp),<-hb q (by rw[e];simp)];exact h
   .rename_i id sz i j e _ _;split at h
    .rename_i ju hm;split at h
     .rename_i hc;cases h;simp only[<-hb id aH,ju,hm,hc,bL]
     .cases h
    .cases h
   .rename_i id i id' k _ _;split at h
    .rename_i ju;split at h
     .rename_i hc;cases h;simp only[<-hb id aH,ju,hc,bL]
     .cases h
    .cases h
   .cases h
  .cases h
 |makeSlice t l c=>
  rw[iH]at hg;simp only[jM,iH,IN]at h ⊢;rw[hg l aQ,hg c aQ];split at h
  .exact NU h jQ hn
  .cases h
 |indexAddr t x i=>
  rw[iH]at hg;simp only[jM,iH,IK]at h ⊢;rw[hg x aQ,hg i aQ];split at h
  .split at h
   .split at h
    .split at h
     .split at h
      .exact h
      .exact h
      .rename_i id _;split at h
       .rename_i ju;split at h
        .rename_i hc;cases h;simp only[<-hb id aH,ju,hc,bL]
        .cases h
       .rename_i ju;split at h
        .rename_i hc;cases h;simp only[<-hb id aH,ju,hc,bL]
        .cases h
       .cases h
      .rename_i id _ _;split at h
       .rename_i ju;split at h
        .rename_i hc;cases h;simp only[<-hb id aH,ju,hc,bL]
        .cases h
       .cases h
      .cases h
     .cases h
    .exact h
    .cases h
   .cases h
  .cases h
 |call c=>
  rw[iH]at hg;obtain⟨callee,args,ats⟩:=c;have ha:∀ x,x ∈ args.toList->τ.op x=σ.op x:=λx hx=>hg x (by simp only[Op.operands,Call.operands,fM];exact .inr (by simpa using hx))
  have Tv:args.toList.map τ.op=args.toList.map σ.op:=fv ha;cases callee with
  |builtin b=>
   simp only[jM,iH]at h ⊢;cases b
   case len=>
    dsimp only at h ⊢;split at h
    .rename_i x t hx ht;split at h
     .obtain ⟨rr,hr,rfl⟩:=b7.1 h;rw[ha x (by rw[hx];simp)];have:sO (σ.op x) τ=some rr:=by
       cases hp:σ.op x with
       |own id=>
        rw[hp]at hr;have h0:=hr;simp only[sO]at hr;split at hr
        .simp only[bK]at hr;subst hr;simp only[sO,<-hb id aH];exact h0
        .simp only[bK]at hr;subst hr;simp only[sO,<-hb id aH];exact h0
        .cases hr
       |iU id k=>
        rw[hp]at hr;have h0:=hr;simp only[sO]at hr;split at hr
        .split at hr
         .simp only[bK]at hr;subst hr;simp only[sO,<-hb id aH];exact h0
         .cases hr
        .cases hr
       |e y=>
        rw[hp]at hr;cases y with
        |v z=>cases z<;>exact hr
        |_=>exact hr
       |_=>rw[hp]at hr;exact hr
      rw[this];rfl
     .cases h
    .cases h
   case append=>
    dsimp only at h ⊢;split at h
    .rename_i s x t t' hx ht;split at h
     .rename_i qP;simp only[qP,bL];rw[ha x (by rw[hx];simp),ha s (by rw[hx];simp)];have oO:Ih O o.dst=Ih O o.dst:=rfl;split at h
      .exact acB h hb
      split at h
      .rename_i MD;simp only[MD,bL];exact acz h hb jQ
      .rename_i MD;simp only[MD,bE,bM];exact RY h hb jQ hn
     .cases h
    .cases h
   case max=>dsimp only at h ⊢;rw[Tv];exact h
   case min=>dsimp only at h ⊢;rw[Tv];exact h
   all_goals cases h
  |value f=>
   have hf:τ.op f=σ.op f:=hg f (by simp[Op.operands,Call.operands]);simp only[jM,iH]at h ⊢;rw[hf];have ec:∀ {gf:FuncId} {zs:List E} {is:List Nat} {ow:Bool},AT P K O σ o.dst gf zs is ow=some u->(∀ id,id ∈ is->id ∈ u.rb)/\AT P K O τ o.dst gf zs is ow=some u:=by
    intro gf zs is ow hh;simp only[AT]at hh ⊢;rw[jQ]at hh;split at hh
    .rename_i kq F7;refine⟨?_,hh⟩;split at hh
     .cases hh;exact λ_ h=>h
     .split at hh
      .cases hh;exact λ_ h=>h
      .split at hh
       .cases hh;exact λ_ h=>h
       .cases hh
    .split at hh
     .rename_i d hd;split at hh
      .rename_i nl T n sz el h1;split at hh
       .rename_i hc;cases hh;have e:=VZ (σ:=σ) (τ:=τ) (b:=.row nl T n sz el) (is:=is) rfl rfl hb hn;refine⟨λid hid=>?_,?_⟩
        .unfold Ad;split
         .exact hid
         .simp [hid]
        .simp only[hc,bL,VW e,VY e]
       .cases hh
      .cases hh
     .cases hh
   split at h
   .rename_i gf cap xs is Cr qf;obtain⟨e1,e2⟩:=ec h;rw[Qk qf ha λid hi=>hb id (e1 id hi),Qo qf ha λid hi=>hb id (e1 id hi),Cr];exact e2
   .rename_i gf cap xs is Cr qf;split at h
    .rename_i ys js CA;obtain⟨e1,e2⟩:=ec h;rw[Qk qf ha λid hi=>hb id (e1 id (by simp[hi])),Qo qf ha λid hi=>hb id (e1 id (by simp[hi])),Cr];simp only;rw[R3 CA λid hi=>hb id (e1 id (by simp[hi]))];exact e2
    .cases h
   .cases h
  |invoke _ _=>simp[jM,iH]at h
 |_=>simp[jM,iH]at h
end
end Go.Proofs.YtgdahmmlddfimaaGreatDoor.Pu
