/- Lemmas that the last file uses. -/
import Derived.Test.YtjkmahljfblobaaGreatDoorProg
import Derived.WalkKit
import Derived.BigQuiet
import Derived.WalkSpells
import Derived.WalkLawsBesides
import Derived.Lib.Hide
import Derived.Deep.RegionHeld3
import Derived.Maps.AppendAt
import Derived.Deep.AppendLies
import Derived.Deep.Draws
import Derived.Deep.DeepFit
import Derived.Laws.AppendOwnNone
import Derived.Shelf.Small.Bits
import Derived.Shelf.Spec.TrailingZeros
import Derived.Test.YtjkmahljfblobaaGreatDoorCards
import Derived.Test.YtjkmahljfblobaaGreatDoorTie
import Derived.ProofKit
import Derived.OpenShut
import Derived.Deep.DeepHandedRow
import Derived.Lib.LaidTab
import Derived.Laws.AppendOwn
import Derived.Laws.MakeOwn
import Derived.Laws.Slices
import Derived.Orders
import Derived.Laws.Build
set_option linter.unusedSimpArgs false
set_option linter.unusedVariables false
set_option linter.defProp false
set_option maxHeartbeats 4000000
open Go.Proofs.Tryz
namespace Go.Proofs.YtjkmahljfblobaaGreatDoor
theorem aC{p:Prop}(h:p:=by omega):p:=h
theorem aD{p:Prop}(h:p:=by assumption):p:=h
theorem aE{p:Prop}(h:p:=by decide):p:=h
theorem aF{p:Prop}(h:p:=by kernel_rfl):p:=h
theorem aG{p:Prop}(h:p:=by rfl):p:=h
theorem aH{p:Prop}(h:p:=by simp):p:=h
theorem aI{p:Prop}(h:p:=by nofun):p:=h
theorem aJ{p:Prop}(h:p:=by simp<;>omega):p:=h
theorem aK{p:Prop}(h:p:=by grind):p:=h
theorem aL{p:Prop}(h:p:=by decide +kernel):p:=h
theorem aM{p:Prop}(h:p:=by split<;>omega):p:=h
theorem aN{p:Prop}(h:p:=by simp;omega):p:=h
theorem aO{p:Prop}(h:p:=by first|rfl|omega|(simp only[Nat.add_mul,Nat.one_mul];omega)):p:=h
theorem aP{p:Prop}(h:p:=by simp[Op.operands]):p:=h
theorem aQ{p:Prop}(h:p:=by unfold kC;omega):p:=h
theorem aR{p:Prop}(h:p:=by rw[List.length_append,List.length_singleton];omega):p:=h
theorem aS{p:Prop}(h:p:=by unfold zg;simp_all<;>omega):p:=h
theorem aT{p:Prop}(h:p:=by unfold yR;(repeat' split)<;>omega):p:=h
theorem aU{p:Prop}(h:p:=by unfold oG oR Dm;simp_all):p:=h
theorem aV{p:Prop}(h:p:=by first|assumption|omega):p:=h
theorem aW{p:Prop}(h:p:=by rw[List.length_take];omega):p:=h
theorem aX{p:Prop}(h:p:=by unfold lX;simp_all):p:=h
theorem aY{α:Type _}[BEq α][LawfulBEq α]{a b:α}(h:a≠b):(a==b)=false:=beq_eq_false_iff_ne.2 h
theorem aZ{α:Type _}[BEq α][LawfulBEq α]{a b:α}(h:a=b):(a==b)=true:=beq_iff_eq.2 h
theorem bc{b:Bool}(h:¬b=true):b=false:=Bool.eq_false_iff.2 h
theorem bg{α:Type _}[BEq α][LawfulBEq α]{a b:α}(h:a=b):(a != b)=false:=bne_eq_false_iff_eq.2 h
theorem bh{α:Type _}[BEq α][LawfulBEq α]{a b:α}(h:a≠b):(a != b)=true:=bne_iff_ne.2 h
def bj:=@if_neg
def bk:=@if_pos
def bn:=@decide_eq_false
def bt:=@List.getD_eq_getElem?_getD
def bu:=@decide_eq_true
def bw:=@Nat.le_refl
def bA:=@Nat.le_trans
def bB:=@if_false
def bC:=@Nat.not_lt_zero
def bD:=@List.getElem?_eq_getElem
def bE:=@Nat.pow_add
def bF:=@Nat.pow_pos
def bG:=@Option.some.injEq
def bH:=@if_true
def bI:=@Nat.mul_assoc
def bJ:=@Bool.false_eq_true
def bK:=@Bool.and_eq_true
def bM:=@Nat.pow_succ
def bN:=@List.mem_range
def bO:=@List.all_eq_true
def bQ:=@Nat.mul_comm
def bR:=@Nat.mod_lt
def bS:=@Prod.mk.injEq
def bT:=@Nat.add_mul
def bU:=@Nat.mul_le_mul_right
def bV:=@Nat.lt_of_lt_of_le
def bW:=@List.getElem?_eq_none
def bX:=@Nat.one_mul
def bY:=@Nat.pow_le_pow_right
def bZ:=@Rat.le_trans
def b9:=@Rat.le_of_lt
def ca:=@Classical.byContradiction
def cg:=@Option.map_eq_some_iff
def ch:=@Nat.mul_add
def cj:=@Nat.add_zero
def ck:=@Nat.zero_le
def ct:=@Rat.mul_nonneg
def cv:=@Nat.div_le_self
def cw:=@Nat.zero_add
def cz:=@List.length_append
def cA:=@Option.map_some
def cB:=@List.getElem_mem
def cC:=@List.getElem?_map
def cD:=@List.getElem?_eq_some_iff
def cE:=@Nat.mul_one
def cF:=@Nat.mod_eq_of_lt
def cG:=@List.length_map
def cH:=@Nat.beq_refl
def cI:=@List.any_eq_false
def cJ:=@List.length_take
def cK:=@Nat.le_of_ble_eq_true
def cL:=@of_decide_eq_true
def cM:=@Int.le_refl
def cN:=@Rat.mul_le_mul_of_nonneg_right
def cO:=@Nat.lt_of_le_of_lt
def cP:=@List.mem_map
def cQ:=@Rat.le_refl
def cR:=@Nat.pow_zero
def cS:=@List.length_cons
def cT:=@Nat.div_lt_iff_lt_mul
def cU:=@Nat.zero_mul
def cV:=@Nat.mul_le_mul_left
def cW:=@Nat.div_add_mod
def cX:=@beq_false
def cY:=@List.length_set
def c9:=@decide_eq_true_eq
def dc:=@Rat.mul_le_mul_of_nonneg_left
def de:=@Nat.add_assoc
def df:=@ne_eq
def dg:=@Nat.sub_self
def dh:=@List.getElem?_append_left
def di:=@List.mem_append
def dj:=@Nat.mul_zero
def dk:=@Classical.choose_spec
def dp:=@Rat.div_def
def dq:=@Array.getElem?_eq_some_iff
def dr:=@Array.getElem?_modify
def dt:=@Array.ext'
def du:=@Bool.not_eq_true'
def dv:=@Rat.natCast_nonneg
def dw:=@List.mem_cons
def dx:=@List.take_of_length_le
def dz:=@List.length_drop
def dA:=@Nat.min_eq_left
def dB:=@Nat.div_eq_of_lt
def dC:=@List.mem_of_getElem?
def dD:=@List.mem_iff_getElem?
def dE:=@List.any_eq_true
def dF:=@Nat.le_div_iff_mul_le
def dG:=@Rat.natCast_mul
def dH:=@Nat.div_mul_le_self
def dI:=@Nat.mul_lt_mul_of_pos_right
def dJ:=@List.eq_nil_of_length_eq_zero
def dK:=@List.getElem?_drop
def dL:=@List.getElem?_append_right
def dM:=@Nat.le_of_lt
def dN:=@Nat.div_div_eq_div_mul
def dO:=@List.getElem?_take
def dP:=@List.mem_flatMap
def dQ:=@List.map_congr_left
def dR:=@Array.length_toList
def dU:=@Nat.mul_le_mul
def dV:=@List.length_range
def dW:=@Rat.natCast_le_natCast
def dX:=@Rat.not_lt
def dY:=@Array.size_push
def dZ:=@Array.getElem?_push
def ef:=@List.mem_of_mem_take
def eh:=@List.mem_of_mem_drop
def ej:=@Nat.mul_ne_zero
def ek:=@Array.mem_of_getElem?
def en:=@List.any_cons
def eo:=@Bool.or_eq_false_iff
def ep:=@Bool.or_eq_true
def eu:=@List.mem_singleton
def ev:=@Rat.div_mul_cancel
def ez:=@Nat.mul_div_cancel
def eA:=@Nat.mod_one
def eB:=@Bool.or_false
def eC:=@List.length_nil
def eD:=@Nat.sub_zero
def eE:=@Nat.mul_left_comm
def eF:=@Nat.pos_of_ne_zero
def eG:=@Rat.intCast_natCast
def eH:=@Rat.natCast_add
def eI:=@Array.size_modify
def eJ:=@Rat.mul_lt_mul_of_pos_right
def eK:=@Nat.add_mul_mod_self_left
def eN:=@List.drop_eq_nil_of_le
def eO:=@List.getElem_cons_succ
def eP:=@Nat.ne_of_gt
def eR:=@List.getElem?_append
def eU:=@List.map_cons
def eV:=@List.size_toArray
def eW:=@not_false_eq_true
def eX:=@List.mapM_cons
def eZ:=@Rat.mul_pos
def e9:=@Nat.mod_le
def fc:=@List.take_succ_cons
def fe:=@Nat.add_sub_cancel
def ff:=@Nat.mod_add_div
def fg:=@Bool.not_false
def fh:=@Option.isSome_map
def fi:=@Nat.eq_zero_or_pos
def fj:=@List.any_nil
def fk:=@Bool.true_and
def fm:=@Nat.sub_le
def fo:=@Int.natCast_mul
def fp:=@Nat.xor_lt_two_pow
def fu:=@Bool.false_or
def fw:=@Bool.eq_iff_iff
def fz:=@Rat.mul_assoc
def fA:=@Int.toNat_of_nonneg
def fB:=@Nat.add_mul_div_left
def fC:=@List.drop_eq_getElem_cons
def fD:=@List.getElem_toArray
def fE:=@List.getElem_cons_zero
def fF:=@List.drop_zero
def fG:=@List.drop_succ_cons
def fH:=@List.take_zero
def fI:=@Bool.not_true
def fJ:=@true_and
def fK:=@Nat.blt_eq
def fL:=@Nat.le_of_eq
def fM:=@Array.mem_append
def fN:=@getElem!_pos
def fO:=@and_true
def fP:=@Nat.lt_trans
def fQ:=@Nat.and_lt_two_pow
def fR:=@BitVec.toNat_ofInt
def fS:=@Nat.div_one
def fT:=@List.getElem?_range
def fU:=@Prod.mk.inj
def fV:=@Rat.le_of_mul_le_mul_right
def fW:=@Rat.neg_neg
def fX:=@Rat.one_mul
def fY:=@Rat.mul_comm
def fZ:=@Rat.inv_pos
def gh:=@Rat.le_antisymm
def gl:=@of_decide_eq_false
def gn:=@List.take_succ_eq_append_getElem
def gp:=@List.length_singleton
def gq:=@Nat.mul_pos
def gv:=@Nat.mul_mod_left
def gw:=@Nat.add_comm
def gz:=@Int.toNat_natCast
def gE:=@Array.getElem?_setIfInBounds_ne
def gF:=@Nat.mul_add_mod
def gG:=@Array.mem_map
def gH:=@Array.mem_range
def gI:=@Option.getD_some
def gJ:=@Option.isSome_iff_exists
def gK:=@Nat.lt_succ_self
def gL:=@List.getElem?_replicate
def gM:=@List.length_pos_iff
def gN:=@Int.natAbs_natCast
def gO:=@decide_true
def gP:=@Int.eq_ofNat_of_zero_le
def gQ:=@Rat.intCast_le_intCast
def gR:=@Rat.natCast_pos
def gS:=@Nat.div_lt_self
def gT:=@Nat.le_mul_of_pos_left
def gU:=@Nat.lt_or_ge
def gV:=@Nat.mul_right_comm
def gW:=@Nat.sub_add_cancel
def gX:=@Nat.le_mul_of_pos_right
def gY:=@Array.getElem_mem
def gZ:=@List.getElem?_toArray
def ia:=@List.mem_toArray
def ib:=@Option.bind_eq_some_iff
def ic:=@Bool.and_eq_true_iff
def ie:=@Array.mapM_eq_mapM_toList
def ig:=@BitVec.ofInt_natCast
def ij:=@BitVec.toNat_ofNat
def ik:=@Nat.pow_lt_pow_right
def ado:=@List.take_length
def apI:=@List.length_eq_zero_iff
def apV:=@Bool.or_self
def atj:=@Rat.intCast_neg
def atk:=@Rat.neg_mul
def atl:=@Rat.inv_mul_cancel
def atm:=@Nat.one_ne_zero
def atn:=@List.ext_getElem
def ato:=@Nat.succ_mul
def atp:=@Nat.div_le_div_left
def atq:=@Bool.not_eq_true
def atr:=@Bool.not_eq_false'
def att:=@List.ext_getElem?
def atu:=@beq_self_eq_true
def atv:=@List.cons_append
def atw:=@List.take_append_drop
def atx:=@List.eq_nil_or_concat
def aty:=@List.concat_eq_append
def atz:=@List.getElem_of_mem
def atA:=@List.map_append
def atB:=@Nat.mul_add_div
def atC:=@Array.size_append
def atD:=@List.append_assoc
def atE:=@not_true_eq_false
def atF:=@Int.tdiv_eq_ediv_of_nonneg
def atG:=@Option.map_none
def atH:=@List.pairwise_cons
def atI:=@List.pairwise_append
def atJ:=@Option.some.inj
def atK:=@Array.getElem_setIfInBounds_ne
def atL:=@Array.getElem?_append
def atM:=@List.mapM_nil
def atN:=@Nat.or_lt_two_pow
def atO:=@decide_eq_decide
def atP:=@decide_eq_true_iff
def atQ:=@Int.natAbs_neg
def atS:=@Nat.testBit_xor
def atT:=@Nat.lt_irrefl
def atU:=@bne_self_eq_false
def atV:=@Rat.mul_div_cancel
def atW:=@List.getElem_map
def atX:=@List.getElem_range
def atY:=@not_not_intro
def atZ:=@Int.tmod_eq_emod_of_nonneg
def at0:=@List.all_eq_false
def at1:=@List.getElem?_cons_succ
def at2:=@Nat.pow_lt_pow_iff_right
def at3:=@Array.getElem?_setIfInBounds
def at4:=@Array.getElem?_append_left
def at5:=@Array.toList_setIfInBounds
def at6:=@Array.mem_or_eq_of_mem_setIfInBounds
def at7:=@List.drop_length_add_append
def aua:=@Array.all_eq_true_iff_forall_mem
def aub:=@Nat.and_two_pow_sub_one_eq_mod
def auc:=@Nat.eq_of_mul_eq_mul_right
def aud:=@Nat.lt_of_mul_lt_mul_right
def aue:=@Rat.lt_of_mul_lt_mul_right
def auf:=@Int.mul_tdiv_cancel_left
def aug:=@Nat.mul_div_cancel_left
def auh:=@Nat.mod_two_eq_zero_or_one
def aui:=@Nat.mul_lt_mul_of_lt_of_lt
def auj:=@Lib.hid
end Go.Proofs.YtjkmahljfblobaaGreatDoor
namespace Go.Proofs.YtjkmahljfblobaaGreatDoor.Fp
def val:List Nat->Nat
 | []=>0
 |x::l=>x+4294967296*val l
def iW(L:List Nat):Prop:=∀ x,x ∈ L->x<4294967296
def iW.nil:iW []:=by intro x h;cases h
section
variable{x:Nat}{l:List Nat}
def iW.cons(hx:x<4294967296)(h:iW l):iW<|x::l:=by
 intro y hy;rcases dw.1 hy with rfl|hy;exact hx;exact h _ hy
def iW.head(h:iW<|x::l):x<4294967296:=h x aH 
def iW.tail(h:iW<|x::l):iW l:=λy hy=>h y<|by simp[hy]
end
def iW.append{l m:List Nat}(h:iW l)(k:iW m):iW<|l++m:=by
 intro x hx;rcases di.1 hx with hx|hx;exact h _ hx;exact k _ hx
def iW.take{l:List Nat}(h:iW l)(n:Nat):iW<|l.take n:=λx hx=>h x<|ef hx
def iW.drop{l:List Nat}(h:iW l)(n:Nat):iW<|l.drop n:=λx hx=>h x<|eh hx
def iW.get{l:List Nat}(h:iW l){i:Nat}(hi:i<l.length):l[i]<4294967296:=h _<|cB hi
def iW.getD{l:List Nat}(h:iW l)(i:Nat):l.getD i 0<4294967296:=by
 rw[bt];by_cases hi:i<l.length
 .rw [bD hi];exact h.get hi
 .rw [bW aC];decide
def iW.Ha(n:Nat):iW<|List.replicate n 0:=by
 intro x hx;rw[List.mem_replicate]at hx;rw[hx.2];decide
@[simp] theorem Oi:val []=0:=rfl
@[simp] theorem ui (x:Nat) (l:List Nat):val (x::l)=x+4294967296*val l:=rfl
def DL(l m:List Nat):val (l++m)=val l+4294967296^l.length*val m:=by
 induction l with
 |nil=>simp
 |cons x l ih=>
  simp only[atv,ui,ih,cS,bM];rw[ch,bQ (4294967296^l.length) 4294967296,bI];omega
def pL{l:List Nat}(h:iW l):val l<4294967296^l.length:=by
 induction l with
 |nil=>simp
 |cons x l ih=>
  have h1:=h.head;have h2:=ih h.tail;simp only[ui,cS,bM];have:val l+1<=4294967296^l.length:=h2;have:=cV 4294967296 this;rw[bQ<|4294967296^l.length];omega
def FB(n:Nat):val (List.replicate n 0)=0:=by
 induction n with
 |zero=>rfl
 |succ n ih=>simp[List.replicate_succ,ih]
def Hr(l:List Nat)(n:Nat)(hn:n<=l.length:=by omega):val l=val (l.take n)+4294967296^n*val (l.drop n):=by
 conv=>lhs;rw[<-atw n l,DL]
 rw[cJ,dA hn]
def FD(l:List Nat)(n:Nat)(hn:n<l.length):val (l.take<|n+1)=val (l.take n)+4294967296^n*l[n]:=by
 rw[gn hn,DL,cJ,dA aC];simp
section
variable{l:List Nat}(h:iW l)(n:Nat)
def asp:val (l.take n)=val l%4294967296^n:=by
 by_cases hn:n<=l.length
 .rw [Hr l n hn,eK,cF];have:=pL<|h.take n;rwa[cJ,dA hn]at this
 .rw [dx aC,cF];refine bV (pL h)<|bY aE aC
def KP:val (l.drop n)=val l/4294967296^n:=by
 by_cases hn:n<=l.length
 .rw [Hr l n hn];have:=pL<|h.take n;rw[cJ,dA hn]at this;rw[fB _ _<|bF aE,dB this,cw]
 .rw [eN aC,dB];rfl;exact bV (pL h)<|bY aE aC
end
def iT:List Nat->List Nat
 | []=>[]
 |x::l=>match iT l with
  | []=>if x=0 then[]else[x]
  |y::m=>x::y::m
def nf(L:List Nat):Nat:=(iT L).length
def ade(l:List Nat):iT (l++[0])=iT l:=by
 induction l with
 |nil=>rfl
 |cons x l ih=>simp only[atv,iT,ih]
def adb(l:List Nat)(x:Nat)(hx:x≠0):iT (l++[x])=l++[x]:=by
 induction l with
 |nil=>simp[iT,hx]
 |cons y l ih=>
  simp only[atv,iT,ih];cases l<;>rfl
section
variable(L:List Nat)
def Od:iT L=L.take (nf L):=by
 unfold nf
 induction L with
 |nil=>rfl
 |cons x l ih=>
  simp only[iT];cases h:iT l with
  |nil=>by_cases hx:x=0<;>simp[hx]
  |cons y m=>
   rw[h]at ih;simp only[cS,fc];rw[cS]at ih;rw[<-ih]
def qN:nf L<=L.length:=by
 have h:=congrArg List.length<|Od L;rw[cJ]at h;unfold nf at h ⊢;omega
def rk:val (iT L)=val L:=by
 induction L with
 |nil=>rfl
 |cons x l ih=>
  simp only[iT];cases h:iT l with
  |nil=>rw[h]at ih;by_cases hx:x=0<;>simp[hx,<-ih]
  |cons y m=>rw[h]at ih;simp only[ui]at ih ⊢;rw[ih]
end
def iW.iT{L:List Nat}(h:iW L):iW<|Fp.iT L:=by rw[Od];exact h.take _
def oM(L:List Nat):Prop:=iT L=L
def Cp(L:List Nat):oM<|iT L:=by
 unfold oM
 induction L with
 |nil=>rfl
 |cons x l ih=>
  simp only[iT];cases h:iT l with
  |nil=>by_cases hx:x=0<;>simp[hx,iT]
  |cons y m=>rw[h]at ih;simp only[iT]at ih ⊢;rw[ih]
def oM.nil:oM []:=rfl
def DI(L:List Nat):oM L↔∀ h:0<L.length,L[L.length-1]≠0:=by
 rcases atx L with rfl|⟨l,x,rfl⟩
 .simp [oM,iT]
 .simp only[aty,cz,gp,fe,List.getElem_concat_length];constructor
  .intro h _ hx;subst hx;have:=congrArg List.length h;rw[ade]at this;have h2:=qN l;unfold nf at h2;rw[cz]at this;simp at this;omega
  .intro h;exact adb l x<|h aC
section
variable(L:List Nat)(n:Nat)(hn:n<L.length)
def Ts(h0:L[n]=0):nf (L.take<|n+1)=nf (L.take n):=by
 unfold nf;rw[gn hn,h0,ade]
def Tp(h0:L[n]≠0):nf (L.take<|n+1)=n+1:=by
 unfold nf;rw[gn hn,adb _ _ h0];simp;omega
end
def oM.Pt{x:Nat}{l:List Nat}(h:oM<|x::l):oM l:=by
 rw[DI]at h ⊢;intro hl;have:=h aH;simp only[cS,fe]at this;have e:(x::l)[l.length]'(aH)=l[l.length-1]:=by
  rw[List.getElem_cons];rw[dif_neg aC]
 rwa[e]at this
def oM.Hq{L:List Nat}(h:oM L)(hl:L≠[]):0<val L:=by
 induction L with
 |nil=>exact absurd rfl hl
 |cons x l ih=>
  simp only[ui];by_cases qA:l=[]
  .subst qA;have:=(DI _).1 h aH;simp at this;simp;omega
  .have:=ih h.Pt qA;omega
def oM.ext{L M:List Nat}(hL:oM L)(hM:oM M)(kL:iW L)(kM:iW M)(h:val L=val M):L=M:=by
 induction L generalizing M with
 |nil=>
  by_cases hm:M=[]
  .exact hm.symm
  .have:=hM.Hq hm;rw[<-h]at this;simp at this
 |cons x l ih=>
  cases M with
  |nil=>have:=hL.Hq aH;rw[h]at this;simp at this
  |cons y m=>
   simp only[ui]at h;have h1:=kL.head;have h2:=kM.head;have e:x=y:= aC ;subst e;rw[ih hL.Pt hM.Pt kL.tail kM.tail aC]
def im(n:Nat):List Nat:=if n=0 then[]else n%4294967296::im (n/4294967296)
termination_by n
decreasing_by exact gS aC aE 
def px:im 0=[]:=by rw[im];rfl
def GG{n:Nat}(h:n≠0):im n=n%4294967296::im (n/4294967296):=by rw[im,bj h]
def lF(n:Nat):val (im n)=n:=by
 induction n using Nat.strongRecOn with
 |_ n ih=>
  by_cases h:n=0
  .subst h;rw[px];rfl
  .rw [GG h,ui,ih _<|gS aC aE];exact ff n 4294967296
def nA(n:Nat):iW<|im n:=by
 induction n using Nat.strongRecOn with
 |_ n ih=>
  by_cases h:n=0
  .subst h;rw[px];exact iW.nil
  .rw [GG h];exact iW.cons (bR _ aE)<|ih _<|gS aC aE
def DJ(n:Nat):oM<|im n:=by
 induction n using Nat.strongRecOn with
 |_ n ih=>
  by_cases h:n=0
  .subst h;rw[px];exact oM.nil
  .rw [GG h];have h1:=ih _<|gS aC (aE:1<4294967296);unfold oM at h1 ⊢;simp only[iT,h1];by_cases h2:n/4294967296=0
   .rw [h2,px];have:n%4294967296≠0:= aC ;simp[this]
   .rw [GG h2]
def ug{L:List Nat}(h:iW L):iT L=im (val L):=
 oM.ext (Cp L) (DJ _) h.iT (nA _) (by rw[rk,lF])
def oM.LP{L:List Nat}(h:oM L)(k:iW L):L=im (val L):=by
 rw[<-ug k];exact h.symm
def MO{n:Nat}:im n=[]↔n=0:=by
 constructor
 .intro h;have:=lF n;rw[h]at this;exact this.symm
 .rintro rfl;exact px
def zp{n k:Nat}(h:n<4294967296^k):(im n).length<=k:=by
 induction k generalizing n with
 |zero=>simp at h;subst h;rw[px];simp
 |succ k ih=>
  by_cases h0:n=0
  .subst h0;rw[px];simp
  .rw [GG h0,cS];have:n/4294967296<4294967296^k:=by
    rw[cT aE];rwa[bM]at h
   have:=ih this;omega
def MY{n k:Nat}(h:(im n).length<=k):n<4294967296^k:=by
 have h1:=pL<|nA n;rw[lF]at h1;exact bV h1<|bY aE h
def iD(n:Nat):Nat:=if n=0 then 0 else n.log2+1
def uo:iD 0=0:=rfl
def mU{n k:Nat}:iD n<=k↔n<2^k:=by
 unfold iD;by_cases h:n=0
 .subst h;simp[bF]
 .rw [bj h,<-Nat.log2_lt h];omega
def yl{n k:Nat}:k<iD n↔2^k<=n:=by
 have:=@mU n k;omega
def Bm{n k:Nat}(h1:2^k<=n)(h2:n<2^(k+1)):iD n=k+1:=by
 have a:=yl.2 h1;have b:=mU.2 h2;omega
def tp(n:Nat):n<2^iD n:=mU.1<|bw _
def vF{n:Nat}(h:n≠0):2^(iD n-1)<=n:=by
 have:iD n-1<iD n:=by
  have:iD n≠0:=by unfold iD;simp[h]
  omega
 exact yl.1 this
def qa{n:Nat}(h:n≠0):0<iD n:=by unfold iD;simp[h]
def wH{m n:Nat}(h:m<=n):iD m<=iD n:=mU.2<|cO h<|tp n
def s9{n:Nat}(h:n≠0)(k:Nat):iD (n*2^k)=iD n+k:=by
 have h1:=tp n;have h2:=vF h;have h3:=qa h;have e:iD n+k=(iD n-1+k)+1:= aC ;rw[e];apply Bm
 .rw [bE];exact bU _ h2
 .rw [<-e,bE];exact dI h1<|bF aE
def vC(k:Nat):(4294967296:Nat)^k=2^(32*k):=by
 rw[Nat.pow_mul]
def aff{l:List Nat}{x:Nat}(h:iW<|l++[x])(hx:x≠0):iD (val<|l++[x])=32*l.length+iD x:=by
 rw[DL];simp only[ui,Oi,dj,cj];have hl:val l<4294967296^l.length:=pL (λy hy=>h y<|by simp[hy]);rw[vC]at hl ⊢;have h1:=tp x;have h2:=vF hx;have h3:=qa hx;have e:32*l.length+iD x=(32*l.length+(iD x-1))+1:= aC ;rw[e];apply Bm
 .rw [bE];have:=cV (2^(32*l.length)) h2;omega
 .rw [<-e,bE];have:=cV (2^(32*l.length))<|show x+1<=2^iD x from h1;rw[ch]at this;omega
def lf(a b:Nat):Int:=if a<b then -1 else if b<a then 1 else 0
section
variable{L M:List Nat}(kL:iW L)
def Oh(hM:oM M)(h:L.length<M.length):val L<val M:=by
 rcases atx M with rfl|⟨m,x,rfl⟩
 .simp at h
 .simp only[aty,cz,gp]at h hM ⊢;have hx:x≠0:=by
   have:=(DI _).1 hM aH;simpa using this
  have h1:=pL kL;rw[DL];have h2:(4294967296:Nat)^L.length<=4294967296^m.length:=bY aE aC;have h3:(4294967296:Nat)^m.length*1<=4294967296^m.length*val [x]:=cV _ aN;omega
def asl(i:Nat)(hi:i<L.length)(hlen:L.length=M.length)(akv:L.drop (i+1)=M.drop (i+1))(iN:L[i]<M[i]'(aC)):val L<val M:=by
 rw[Hr L<|i+1,Hr M<|i+1,akv,FD L i hi,FD M i aC];have h1:=pL<|kL.take i;rw[cJ,dA aC]at h1;have h2:=cV (4294967296^i)<|show L[i]+1<=M[i]'(aC)from iN;rw[ch]at h2;omega
end
def asn(L:List Nat)(k:Nat)(h:iW L):val (L.drop k)=val L/2^(32*k):=by
 rw[KP h,vC]
def r9(s:Nat):List Nat->List Nat
 | []=>[]
 |x::l=>((x+4294967296*l.getD 0 0)/2^s)%4294967296::r9 s l
section
variable(s:Nat)(L:List Nat)
def NT:(r9 s L).length=L.length:=by
 induction L with
 |nil=>rfl
 |cons x l ih=>simp[r9,ih]
def acw(i:Nat)(h:i<L.length):(r9 s L)[i]? = some (((L[i]+4294967296*L.getD (i+1) 0)/2^s)%4294967296):=by
 induction L generalizing i with
 |nil=>simp at h
 |cons x l ih=>
  cases i with
  |zero=>simp[r9]
  |succ i=>
   simp only[cS]at h;simp only[r9,at1,ih i aC,eO];congr 1
def Dr:iW<|r9 s L:=by
 induction L with
 |nil=>exact iW.nil
 |cons x l ih=>exact iW.cons (bR _ aE) ih
end
def aso{L:List Nat}(h:iW L)(s:Nat)(hs:s<32):val (r9 s L)=val L/2^s:=by
 induction L with
 |nil=>simp[r9]
 |cons x l ih=>
  have e:32=s+(32-s):= aC ;have e2:(4294967296:Nat)=2^s*2^(32-s):=by rw[<-bE,<-e]
  have hp:0<2^s:=bF aE;have hx:=h.head;simp only[r9,ui,ih h.tail];generalize hv:val l=v;have hh:l.getD 0 0=v%4294967296:=by
   rw[<-hv];cases l with
   |nil=>simp
   |cons y m=>
    have:=h.tail.head;simp[ui];omega
  rw[hh];have f1:(x+4294967296*(v%4294967296))/2^s=x/2^s+2^(32-s)*(v%4294967296):=by
   rw[show x+4294967296*(v%4294967296)=x+2^s*(2^(32-s)*(v%4294967296))by rw[<-bI,<-e2],fB _ _ hp]
  have f2:(x+4294967296*v)/2^s=x/2^s+2^(32-s)*v:=by
   rw[show x+4294967296*v=x+2^s*(2^(32-s)*v)by rw[<-bI,<-e2],fB _ _ hp]
  rw[f1,f2];have qF:x/2^s<2^(32-s):=by
   rw[cT hp,bQ,<-e2];exact hx
  generalize x/2^s=q at qF ⊢;have g1:(4294967296:Nat)=2^(32-s)*2^s:=by rw[bQ];exact e2
  have g2:v=2^s*(v/2^s)+v%2^s:=(cW v<|2^s).symm;have g3:(q+2^(32-s)*(v%4294967296))%4294967296=q+2^(32-s)*(v%2^s):=by
   have k1:v%4294967296%2^s=v%2^s:=by
    rw[e2,Nat.mod_mul_right_mod]
   have k2:(v%4294967296)=2^s*(v%4294967296/2^s)+v%2^s:=by
    rw[<-k1];exact(cW _ _).symm
   conv=>lhs;rw[k2]
   rw[ch,<-bI,<-g1];rw[(aC:q+(4294967296*(v%4294967296/2^s)+2^(32-s)*(v%2^s))=(q+2^(32-s)*(v%2^s))+4294967296*(v%4294967296/2^s)),eK];apply cF;have:v%2^s+1<=2^s:=bR _ hp;have:=cV (2^(32-s)) this;rw[<-g1,ch]at this;omega
  rw[g3]
  conv=>rhs;rw[g2,ch,<-bI,<-g1]
  omega
def Oj{L:List Nat}(h:iW L)(n:Nat):val (r9 (n%32)<|L.drop<|n/32)=val L/2^n:=by
 rw[aso (h.drop _) _<|bR _ aE,asn _ _ h,dN,<-bE];congr 2;omega
def acq{out a:List Nat}{i c s n0:Nat}(hi:i<a.length)(hlen:out.length=n0+i)
 (h:val out+4294967296^(n0+i)*c=val (a.take i)*2^s*4294967296^n0):
 val (out++[(a[i]*2^s+c)%4294967296])+4294967296^(n0+(i+1))*((a[i]*2^s+c)/4294967296)=val (a.take<|i+1)*2^s*4294967296^n0:=by
 rw[DL,FD a i hi,hlen];simp only[ui,Oi,dj,cj];generalize hx:a[i]*2^s+c=x;have e:=ff x 4294967296;have p:4294967296^(n0+(i+1))=4294967296^(n0+i)*4294967296:=by rw[<-de,bM]
 rw[p,de,bI<|4294967296^(n0+i),<-ch,e,<-hx,ch,<-de,Nat.add_right_comm,h,bT,bT];congr 1;rw[bE]
 ac_rfl
def DM(b:List Nat)(i:Nat):val (b.take<|i+1)=val (b.take i)+4294967296^i*b.getD i 0:=by
 by_cases hi:i<b.length
 .rw [FD b i hi,bt,bD hi];rfl
 .rw [dx aC,dx aC,bt,bW aC];simp
def jZ(n:Nat):Nat:=if n=0 then 0 else(Nat.gcd n<|2^(Nat.log2 n+1)).log2
def Pw{m:Nat}(hm:m%2=1)(k:Nat):jZ (m*2^k)=k:=by
 have h0:m*2^k≠0:=ej aC<|eP<|bF aE;unfold jZ;rw[bj h0];have hk:k<=Nat.log2 (m*2^k):=by
  apply ca;intro h;have h1:m*2^k<2^k:=(Nat.log2_lt h0).1 aC;have:1*2^k<=m*2^k:=bU _ aC;omega
 obtain⟨j,hj⟩:∃ j,Nat.log2 (m*2^k)+1=j+k:=⟨Nat.log2 (m*2^k)+1-k,aC⟩
 rw[hj,bE,Nat.gcd_mul_right];have hg:Nat.gcd m (2^j)=1:=by
  have hc:Nat.Coprime m 2:=by
   unfold Nat.Coprime;rw[Nat.gcd_comm,Nat.gcd_rec,hm];rfl
  exact Nat.Coprime.pow_right j hc
 rw[hg,bX,Nat.log2_two_pow]
def Px{n:Nat}(h:n%2=1):jZ n=0:=by have:=Pw h 0;simpa using this
section
variable{n:Nat}(h:n≠0)
def ar0:∃ m k,m%2=1/\n=m*2^k:=by
 induction n using Nat.strongRecOn with
 |_ n ih=>
  by_cases h2:n%2=1
  .exact ⟨n,0,h2,aH⟩
  .obtain ⟨m,k,hm,he⟩:=ih (n/2) aC aC ;exact⟨m,k+1,hm,by rw[bM,<-bI,<-he];omega⟩
def Vs(h2:n%2=0):jZ n=jZ (n/2)+1:=by
 obtain⟨m,k,hm,he⟩:=ar0 (n:=n/2) aC;have e:n=m*2^(k+1):=by rw[bM,<-bI,<-he];omega
 rw[he,Pw hm]
 conv=>lhs;rw[e]
 exact Pw hm _
def DZ:∃ m,m%2=1/\n=m*2^jZ n:=by
 induction n using Nat.strongRecOn with
 |_ n ih=>
  by_cases h2:n%2=1
  .exact ⟨n,h2,by rw[Px h2];omega⟩
  .obtain ⟨m,hm,he⟩:=ih (n/2) aC aC ;refine⟨m,hm,?_⟩;rw[Vs h aC,bM,<-bI,<-he];omega
end
def Bp{m:Nat}(hm:m%2=1)(k:Nat):jZ (m*2^k)=k:=by
 induction k with
 |zero=>rw[cR,cE,Px hm]
 |succ k ih=>
  have hp:0<m*2^k:=gq aC<|bF aE;have e:m*2^(k+1)=m*2^k*2:=by rw[bM,bI]
  rw[e,Vs aC aC,ez _ aE,ih]
section
variable{n:Nat}(h:n≠0)
def J5:(n/2^jZ n)%2=1:=by
 obtain⟨m,hm,he⟩:=DZ h;have:n/2^jZ n=m:=by conv=>lhs;rw[he,Bp hm];rw[ez _<|bF aE]
 rw[this];exact hm
def IE:(n/2^jZ n)*2^jZ n=n:=by
 obtain⟨m,hm,he⟩:=DZ h;have:n/2^jZ n=m:=by conv=>lhs;rw[he,Bp hm];rw[ez _<|bF aE]
 rw[this];exact he.symm
def Kg:2^jZ n<=n:=by
 obtain⟨m,hm,he⟩:=DZ h
 conv=>rhs;rw[he]
 exact gT _ aC 
end
def agx{x v:Nat}(hx:x≠0)(iN:x<4294967296):jZ (x+4294967296*v)=jZ x:=by
 obtain⟨m,hm,he⟩:=DZ hx;have hk:jZ x<32:=by
  have h1:=Kg hx;rcases gU (jZ x) 32 with h|h
  .exact h
  .have:=bY (n:=2) aE h;have e:(2:Nat)^32=4294967296:= aE ;omega
 have e:x+4294967296*v=(m+2^(32-jZ x)*v)*2^jZ x:=by
  rw[bT,<-he,gV,<-bE,gW aC]
 conv=>lhs;rw[e]
 apply Bp;have:2^(32-jZ x)=2*2^(31-jZ x):=by rw[(aC:32-jZ x=(31-jZ x)+1),bM,bQ]
 rw[this,bI,eK];exact hm
def agy{v:Nat}(hv:v≠0)(k:Nat):jZ (2^k*v)=k+jZ v:=by
 obtain⟨m,hm,he⟩:=DZ hv
 conv=>lhs;rw[he,<-bI,bQ<|2^k,bI,<-bE]
 exact Bp hm _
section
variable{L:List Nat}
def KQ:val L=0↔∀ x,x ∈ L->x=0:=by
 induction L with
 |nil=>simp
 |cons x l ih=>
  simp only[ui,dw];constructor
  .intro h y hy;rcases hy with rfl|hy
   .omega
   .exact ih.1 aC y hy
  .intro h;have h1:=h x<|.inl rfl;have h2:=ih.2 λy hy=>h y<|.inr hy;omega
def agz(h:iW L)(i:Nat)(hi:i<L.length)(h0:∀ j,(hj:j<i)->L[j]=0)(hx:L[i]≠0):jZ (val L)=32*i+jZ L[i]:=by
 rw[Hr L i];have:val (L.take i)=0:=by
  rw[KQ];intro y hy;obtain⟨j,hj,rfl⟩:=atz hy;rw[cJ]at hj;rw[List.getElem_take];exact h0 j aC 
 rw[this,cw,vC,fC hi,ui];rw[agy aC,agx hx<|h.get hi]
def TB{k x:Nat}(hk:k<L.length):val (L.set k x)+4294967296^k*L[k]=val L+4294967296^k*x:=by
 induction L generalizing k with
 |nil=>simp at hk
 |cons y l ih=>
  cases k with
  |zero=>simp;omega
  |succ k=>
   simp only[cS]at hk;have:=ih (k:=k) aC;simp only[List.set_cons_succ,ui,eO,bM];have e1:(4294967296^k*4294967296*l[k])=4294967296*(4294967296^k*l[k]):=by ac_rfl
   have e2:(4294967296^k*4294967296*x)=4294967296*(4294967296^k*x):=by ac_rfl
   rw[e1,e2];omega
end
def iW.set{L:List Nat}(h:iW L)(k:Nat){x:Nat}(hx:x<4294967296):iW<|L.set k x:=by
 intro y hy;rcases List.mem_or_eq_of_mem_set hy with hy|rfl
 .exact h _ hy
 .exact hx
structure Dy where
 neg:Bool
 m:Nat
 e:Int
def Dy.nT(d:Dy):Prop:=(d.m=0/\d.neg=false/\d.e=0)\/d.m%2=1
section
variable(neg:Bool)(m:Nat)(e:Int)
def canon:Dy:=if m=0 then⟨false,0,0⟩else⟨neg,m/2^jZ m,e+jZ m⟩
def uV:(canon neg m e).nT:=by
 unfold canon;split
 .exact .inl ⟨rfl,rfl,rfl⟩
 .rename_i h;exact .inr<|J5 h
end
def Dy.nT.DX{d:Dy}(h:d.nT):canon d.neg d.m d.e=d:=by
 obtain⟨s,m,e⟩:=d;rcases h with⟨h1,h2,h3⟩|h
 .simp only at h1 h2 h3;subst h1 h2 h3;rfl
 .simp only at h ⊢;unfold canon;rw[bj aC,Px h];simp
def oi(d:Dy):Prop:=d.m=0\/iD d.m<=4096 /\ -16384<=d.e/\d.e<=16384/\(iD d.m:Int)+d.e<=16384
instance (d:Dy):Decidable<|oi d:=by unfold oi;infer_instance
structure Dy.ix(d:Dy):Prop where
 canon:d.nT
 range:oi d
def iY:Dy:=⟨false,0,0⟩
def ph:iY.ix:=⟨.inl ⟨rfl,rfl,rfl⟩,.inl rfl⟩
def Dy.jL(d:Dy):Int:=if d.m=0 then 0 else if d.neg then -1 else 1
def Dy.iJ(d:Dy):Int:=if d.m=0 then 0 else iD d.m+d.e
def Dy.j8(d:Dy)(e:Int):Nat:=d.m*2^(d.e-e).toNat
def Dy.num(d:Dy)(e:Int):Int:=if d.neg then -(d.j8 e:Int)else d.j8 e
def jN(a b:Dy):Int:=
 if a.num (min a.e b.e)<b.num (min a.e b.e)then -1 else if b.num (min a.e b.e)<a.num (min a.e b.e)then 1 else 0
def AP{d:Dy}(h:d.m≠0)(e:Int):0<d.j8 e:=gq aC<|bF aE
def ZX{d:Dy}(h:d.m=0)(e:Int):d.j8 e=0:=by unfold Dy.j8;rw[h,cU]
def Lh{d:Dy}(h:d.m≠0){e:Int}(he:e<=d.e):(iD<|d.j8 e:Int)=iD d.m+d.e-e:=by
 unfold Dy.j8;rw[s9 h];omega
def ZW{a b:Dy}(ha:a.m≠0)(hb:b.m≠0){e:Int}(h1:e<=a.e)(h2:e<=b.e)(h:a.iJ<b.iJ):a.j8 e<b.j8 e:=by
 have k1:=Lh ha h1;have k2:=Lh hb h2;unfold Dy.iJ at h;rw[bj ha,bj hb]at h;rcases gU (a.j8 e) (b.j8 e)with h'|h'
 .exact h'
 .have:=wH h';omega
def uX(a b:Dy):Int:=lf (a.j8<|min a.e b.e)<|b.j8<|min a.e b.e
section
variable{a b:Dy}(ha:a.m≠0)(hb:b.m≠0)
def agm(h:a.iJ<b.iJ):uX a b = -1:=by
 unfold uX lf;rw[bk<|ZW ha hb (Int.min_le_left _ _) (Int.min_le_right _ _) h]
def agl(h:b.iJ<a.iJ):uX a b=1:=by
 have:=ZW hb ha (Int.min_le_right a.e b.e) (Int.min_le_left _ _) h;unfold uX lf;rw[bj aC,bk this]
end
def KB(d:Dy):(d.m=0/\d.jL=0)\/(d.m≠0/\d.neg=true/\d.jL = -1)\/(d.m≠0/\d.neg=false/\d.jL=1):=by
 unfold Dy.jL;by_cases h:d.m=0
 .exact .inl ⟨h,bk h⟩
 .cases hn:d.neg
  .exact .inr<|.inr ⟨h,rfl,by simp[h]⟩
  .exact .inr<|.inl ⟨h,rfl,by simp[h]⟩
def aa1{d:Dy}(e:Int):(d.jL=0->d.num e=0)/\(d.jL = -1->d.num e<0/\d.num e = -(d.j8 e))/\(d.jL=1->0<d.num e/\d.num e=d.j8 e):=by
 unfold Dy.num;rcases KB d with⟨h1,h2⟩|⟨h1,h2,h3⟩|⟨h1,h2,h3⟩
 .rw [h2,ZX h1];simp
 .have:=AP h1 e;rw[h3,h2];simp;omega
 .have:=AP h1 e;rw[h3,h2];simp;omega
def Vk(a b:Dy):jN a b=if a.jL<b.jL then -1 else if b.jL<a.jL then 1 else if a.jL=0 then 0 else a.jL*uX a b:=by
 unfold jN uX lf;generalize min a.e b.e=e;obtain⟨p1,p2,p3⟩:=aa1 (d:=a) e;obtain⟨q1,q2,q3⟩:=aa1 (d:=b) e;generalize a.num e=x at *
 generalize b.num e=y at *
 generalize a.j8 e=x' at *
 generalize b.j8 e=y' at *
 have ha:a.jL=0\/a.jL = -1\/a.jL=1:=by rcases KB a with⟨_,h⟩|⟨_,_,h⟩|⟨_,_,h⟩<;>simp[h]
 have hb:b.jL=0\/b.jL = -1\/b.jL=1:=by rcases KB b with⟨_,h⟩|⟨_,_,h⟩|⟨_,_,h⟩<;>simp[h]
 generalize a.jL=s at *
 generalize b.jL=t at *
 rcases ha with rfl|rfl|rfl<;>rcases hb with rfl|rfl|rfl<;>simp at p1 p2 p3 q1 q2 q3<;>(repeat' split)<;>omega
def qQ(z:Int)(e:Int):Dy:=canon (decide (z<0)) z.natAbs e
def jc(a b:Dy):Dy:=
 if a.m=0 then b else if b.m=0 then a else qQ (a.num (min a.e b.e)+b.num (min a.e b.e)) (min a.e b.e)
def ki(d:Dy):Dy:=⟨!d.neg&&decide (d.m≠0),d.m,d.e⟩
def R8{d:Dy}(h:d.nT):(ki d).nT:=by
 rcases h with⟨h1,h2,h3⟩|h
 .exact .inl ⟨h1,by simp[ki,h1],h3⟩
 .exact .inr h
def yx{d:Dy}(h:d.ix):(ki d).ix:=⟨R8 h.canon,h.range⟩
def anC(d:Dy)(e:Int)(hd:d.m≠0):(ki d).num e = -(d.num e):=by
 unfold Dy.num ki Dy.j8;cases d.neg<;>simp[hd]
def arb{out:List Nat}{n c P Q:Nat}(ho:iW out)(hlen:out.length=n)(h:val out+Q=P+4294967296^n*c)(hle:Q<=P):c=0/\val out=P-Q:=by
 have h1:=pL ho;rw[hlen]at h1;rcases c with _|c
 .exact ⟨rfl,aC⟩
 .exfalso;have:4294967296^n*1<=4294967296^n*(c+1):=cV _ aC;omega
def afa{L:List Nat}(h:iW L)(k:Nat)(hk:k/32<L.length):val L/2^k%2=L[k/32]/2^(k%32)%2:=by
 have e:k=32*(k/32)+k%32:= aC 
 conv=>lhs;rw[e,bE,<-dN,<-vC,<-KP h,fC hk,ui]
 have hs:k%32<32:=bR _ aE;have e2:(4294967296:Nat)=2^(k%32)*(2*2^(31-k%32)):=by
  rw[<-Nat.pow_succ',<-bE,(aC:k%32+(31-k%32).succ=32)]
 conv=>lhs;rw[e2,bI,fB _ _<|bF aE,bI,eK]
def ae9{n k:Nat}(h:n≠0)(hk:k<jZ n):n/2^k%2=0:=by
 obtain⟨m,hm,he⟩:=DZ h;generalize jZ n=c at *
 rw[he,(aC:c=k+(c-k)),bE,<-bI,gV,ez _<|bF aE,(aC:c-k=(c-k-1)+1),bM,<-bI,gv]
def ae8{n:Nat}(h:n≠0):n/2^jZ n%2=1:=J5 h
def Iu{L:List Nat}(h:iW L)(h0:val L≠0):jZ (val L)/32<L.length:=by
 have h1:=Kg h0;have h2:=pL h;rw[vC]at h2;have h3:2^jZ (val L)<2^(32*L.length):=cO h1 h2;have:=(at2 (aE:1<2)).1 h3;omega
end Go.Proofs.YtjkmahljfblobaaGreatDoor.Fp
namespace Go.Proofs.YtjkmahljfblobaaGreatDoor
open Go.RowKit Fp
structure Sl(w:World)(A:Option Addr)(c:Nat)(L:List Nat):Prop where
 cap:L.length<=c
 sJ:c<=9223372036854775807
 ok:iW L
 AV:A=none->c=0
 cell:∀ (i x:Nat),L[i]? = some x->∃ b o,A=some ⟨b,o,none⟩/\b<w.heap.size/\w.cell? ⟨b,o+i,none⟩=some (.int .u32 (x:Int))
def afi(a:Addr)(n:Nat):(a.add n).block=a.block:=by unfold Addr.add;split<;>rfl
section
variable {w w':World} {A:Option Addr} {c:Nat} {L:List Nat}
def Sl.mT(h:Sl w A c L){i:Nat}(hi:i<L.length):∃ b o,A=some ⟨b,o,none⟩/\b<w.heap.size/\w.cell? ⟨b,o+i,none⟩=some (.int .u32 (L[i]:Int)):=
 h.cell i _ (bD hi)
def Sl.nil(w:World):Sl w none 0 []:=⟨bw _,aE,iW.nil,λ_=>rfl,λi x h=>by simp at h⟩
def Sl.below(h:Sl w A c L)(hb:Below w.heap.size w w'):Sl w' A c L:=
 ⟨h.cap,h.sJ,h.ok,h.AV,λi x hx=>by
  obtain⟨b,o,e,h1,h2⟩:=h.cell i x hx;exact⟨b,o,e,bV h1 hb.size,(hb.cell h1).trans h2⟩⟩
def Sl.alloc(h:Sl w A c L)(o:Obj):Sl (w.alloc o) A c L:=h.below<|(Below.refl _ _).alloc (bw _) _
def Sl.drew(h:Sl w A c L):Sl w.drew A c L:=h.below<|(Below.refl _ _).drew
def Sl.take(h:Sl w A c L)(n:Nat):Sl w A c<|L.take n:=
 ⟨by have:=h.cap;rw[cJ];omega,h.sJ,h.ok.take n,h.AV,λi x hx=>h.cell i x (by
  rw[dO]at hx;split at hx
  .exact hx
  .cases hx)⟩
def Sl.len(h:Sl w A c L):L.length<=9223372036854775807:=bA h.cap h.sJ
def Sl.eqv{L':List Nat}(h:Sl w A c L)(e:L=L'):Sl w A c L':=e▸h
end
def DR(b o i:Nat):(⟨b,o,none⟩:Addr).add i=⟨b,o+i,none⟩:=by
 unfold Addr.add;split
 .rename_i h0;rw[h0];rfl
 .simp
abbrev ja(w w':World):Prop:=Below w.heap.size w w'
def ja.trans{a b c:World}(h:ja a b)(k:ja b c):ja a c:=Below.trans h<|k.mono h.size
def ja.alloc(w:World)(o:Obj):ja w<|w.alloc o:=(Below.refl _ _).alloc (bw _) _
def ja.drew(w:World):ja w w.drew:=(Below.refl _ _).drew
def ja.refl(w:World):ja w w:=Below.refl _ _
def NG{A:Option Addr}{n m c:Nat}(h:n=m):Ending.returned (.slice A n c) = .returned (.slice A m c):=by rw[h]
def qv{k:IntKind}{a b:Int}(h:a=b):Ending.returned (.int k a) = .returned (.int k b):=by rw[h]
def NF{a b:Bool}(h:a=b):Ending.returned (.bool a) = .returned (.bool b):=by rw[h]
def Aa(w:World)(L:List Nat)(e:Ending)(w':World):Prop:=∃ A c,e = .returned (.slice A L.length c)/\Sl w' A c L/\ja w w'
def FG(w:World)(L:List Nat)(n:Int)(e:Ending)(w':World):Prop:=∃ A c,e = .returned (.tuple #[.slice A L.length c,.int .i64 n])/\Sl w' A c L/\ja w w'
def Tb(w:World):Prop:=TabAt 0 Lib.deBruijn32tab w
def Tb.below{w w':World}(h:Tb w)(hb:ja w w'):Tb w':=λj hj=>by
 have h1:=h j hj;rw[hb.cell<|block_lt_of_cell h1];exact h1
def Tb.alloc{w:World}(h:Tb w)(o:Obj):Tb<|w.alloc o:=h.below<|ja.alloc _ _
def ae7(x:Nat)(h:x<4294967296):Lib.bitLen x=iD x:=by
 induction x using Nat.strongRecOn with
 |_ x ih=>
  by_cases h0:x=0
  .subst h0;rfl
  .rw [Lib.bitLen_half x h0 aC,ih (x/2) aC aC];by_cases h1:x/2=0
   .have:x=1:= aC ;subst this;rfl
   .have e1:=vF h1;have e2:=tp<|x/2;have e3:=qa h1;generalize iD (x/2)=k at *
    obtain⟨j,rfl⟩:∃ j,k=j+1:=⟨k-1,aC⟩
    rw[fe]at e1;rw[gw];refine(Bm ?_ ?_).symm
    .rw [bM];omega
    .rw [bM];omega
def agA(x:Nat)(h0:x≠0)(h:x<4294967296):Lib.ctz 32 x=jZ x:=by
 unfold Lib.ctz;rw[bj h0];obtain⟨m,hm,_⟩:=Lib.ctzFrom_spec 32 x aC h
 conv=>rhs;rw[hm,bQ]
 exact(Bp aC _).symm
def pB(L:List Nat):List Value:=L.map λ(n:Nat)=>Value.int .u32 (n:Int)
def ar7{L:List Nat}{j:Nat}{u:Value}(h:(pB L)[j]? = some u):∃ n,L[j]? = some n/\u = .int .u32 (n:Int):=by
 unfold pB at h;rw[cC]at h;obtain⟨n,hn,rfl⟩:=cg.1 h;exact⟨n,hn,rfl⟩
def ar6(L M:List Nat):pB (L++M)=pB L++pB M:=atA
def ar8(L:List Nat):∀ u ∈ pB L,u.oneCell'=true:=by
 intro u hu;obtain⟨n,_,rfl⟩:=cP.1 hu;rfl
structure Ow(w:World)(base:Nat)(v:Value)(L:List Nat):Prop where
 row:w.ownsRow base 95 1 v L.length<|pB L
 ok:iW L
def Ow.sl{w:World}{base:Nat}{v:Value}{L:List Nat}(h:Ow w base v L):∃ A c,v = .slice A L.length c/\Sl w A c L:=by
 have hr:=h.row;rcases hr.2 with⟨rfl,h0⟩|⟨g,cap,cur,rfl,hb,hg,qf,oZ,nL,Rf⟩
 .have:L=[]:=dJ h0;subst this;exact⟨none,0,rfl,Sl.nil w⟩
 .refine ⟨_,_,rfl,qf,(by simpa[maxLen]using oZ),h.ok,(λh=>by cases h),λi x hx=>⟨_,_,rfl,(dq.1 hg).1,?_⟩⟩;have h:=hr.cells (g:=g) rfl i (.int .u32 (x:Int)) (by unfold pB;rw[cC,hx];rfl);rw[DR]at h;exact h
def Ow.nil(w:World)(base:Nat):Ow w base (.slice none 0 0) []:=⟨World.ownsRow_nil w base _ _,iW.nil⟩
def Ow.alloc{w:World}{base:Nat}{v:Value}{L:List Nat}(h:Ow w base v L)(o:Obj):Ow (w.alloc o) base v L:=⟨h.row.alloc o,h.ok⟩
def Ow.empty(w:World)(base:Nat)(hb:base<=w.heap.size):Ow (w.alloc<|.cells #[] 95) base (.slice (some ⟨w.heap.size,0,none⟩) 0 0) []:=
 ⟨World.ownsRow_made w #[] 0 hb aE rfl,iW.nil⟩
def zo{w:World}{n:Nat}(h:n<=w.heap.size)(o:Obj):n<=(w.alloc o).heap.size:= aN 
def Sl.one(w:World)(x:Nat)(hx:x<4294967296):Sl (w.alloc<|.cells #[.int .u32 x] 95) (some ⟨w.heap.size,0,none⟩) 1 [x]:=
 ⟨bw _,aE,iW.cons hx iW.nil,(λh=>by cases h),λi y hy=>by
  obtain⟨h1,h2⟩:=cD.1 hy;obtain rfl:i=0:=by simp at h1;omega
  simp at h2;subst h2;refine⟨_,_,rfl,aH,?_⟩;exact World.cell?_alloc_at _ _ _ _ rfl⟩
def Sl.GU(w:World)(y:Int)(x:Nat)(e:y=(x:Int))(hx:x<4294967296):Sl (w.alloc<|.cells #[.int .u32 y] 95) (some ⟨w.heap.size,0,none⟩) 1 [x]:=by
 subst e;exact Sl.one w x hx
def Rr:(prog.info? 95).map (λi=>(i.zero,i.size,i.bytes))=some (some<|.int .u32 0,1,4):= aF 
def Cs{iq:Array Oper}{rest:List Oper}{o:Oper}{a:Act}{Q:Exit->Act->World->Prop}{w:World}(El:o.guard=none)(s x:Operand)
 (ho:o.op = .call { callee:=.builtin .append,args:=#[s,x],argTypes:=#[35,35] })
 (base:Nat) (v:Value) (L:List Nat) (hs:a.eval s=v) (lW:Ow w base v L)
 (A:Option Addr) (m c:Nat) (M:List Nat) (hx:a.eval x = .slice A m c) (hm:m=M.length) (hr:Sl w A c M)
 (nc:L.length+M.length<=10000000000) (ajZ:base<=w.heap.size)
 (h:∀ v' w',Ow w' base v' (L++M)->w.grownBy w' v.ownBlock->(v'.ownBlock=v.ownBlock\/v'.ownBlock=some w.heap.size)->wpList prog iq Q rest (a.put o.dst v') w'):
 wpList prog iq Q (o::rest) a w:=by
 obtain⟨i,hi,hz,h1,h2⟩:=info_parts Rr;subst hm;rcases A with _|ad
 .have hc:=hr.AV rfl;subst hc;have hM:M=[]:=dJ (by have:=hr.cap;omega);subst hM;refine wpList_append_own_none El s x _ ho base _ i 1 underlying35 hi v _ _ hs lW.row hx ?_;have:=h v w (by rw[List.append_nil];exact lW) ⟨rfl,rfl,rfl,bw _,λ_ _ _=>rfl⟩<|.inl rfl;exact this
 .refine wpList_append_own_at w El s x _ ho base _ i _ 1 4 underlying35 hi hz h1 h2 rfl aE v L.length (pB L) hs lW.row ad M.length c (pB M) hx (by simp[pB]) ?_ (ar8 M)
   (by simp only[maxLen];omega) aC ajZ ?_
  .intro j u hu;obtain⟨n,hn,rfl⟩:=ar7 hu;obtain⟨b,o,e,_,hc⟩:=hr.cell j n hn;cases e;rw[DR];exact hc
  .intro v' w' ako hg _ uy;exact h v' w' ⟨by rw[cz,ar6];exact ako,lW.ok.append hr.ok⟩ hg uy
def Rw(w:World)(b:Nat)(L:List Nat):Prop:=w.heap[b]? = some (.cells (pB L).toArray 95 (0,0))
section
variable {w w':World} {b:Nat} {L:List Nat}
def Rw.lt(h:Rw w b L):b<w.heap.size:=(dq.1 h).1
def Rw.cell(h:Rw w b L){i x:Nat}(hx:L[i]? = some x):w.cell? ⟨b,i,none⟩=some (.int .u32 (x:Int)):=by
 unfold Rw at h;simp only[World.cell?,h];simp[pB,hx]
def Rw.frozen(h:Rw w b L)(i:Nat):w.frozen? ⟨b,i,none⟩=false:=by
 unfold Rw at h;simp[World.frozen?,h]
def Rw.set(h:Rw w b L)(i x:Nat):Rw (w.setCell ⟨b,i,none⟩<|.int .u32 (x:Int)) b<|L.set i x:=by
 unfold Rw at h ⊢;simp only[World.setCell,dr,h];simp[pB,List.map_set]
def Rw.sl(h:Rw w b L)(hk:iW L)(hl:L.length<=10000000000):Sl w (some ⟨b,0,none⟩) L.length L:=
 ⟨bw _,aC,hk,(λh=>by cases h),λi x hx=>⟨_,_,rfl,h.lt,by
  rw[cw];exact h.cell hx⟩⟩
def Rw.Dj(w:World)(n:Nat):Rw (w.alloc<|.cells (pB<|List.replicate n 0).toArray 95) w.heap.size<|List.replicate n 0:=heap_alloc_new w _
end
def ad8(b i:Nat):(⟨b,0,none⟩:Addr).add i=⟨b,i,none⟩:=by
 unfold Addr.add;split
 .rename_i h0;rw[h0]
 .simp
def JO(n:Nat)(hn:n<=10000000000)(w:World):
 (Instr.makeSlice 35 (.int .i64 (n:Int))<|.int .i64 (n:Int)).run prog w = .ok (.slice (some ⟨w.heap.size,0,none⟩) n n) (w.alloc<|.cells (pB<|List.replicate n 0).toArray 95):=by
 obtain⟨i,hi,hz,h1,h2⟩:=info_parts Rr;have hr:=run_make (P:=prog) w 35 95 i _ underlying35 hi hz .i64 .i64 n n aC aC (by rw[h2];omega) aC;rw[hr,gz,h1,cE];refine congrArg (λcs=>Result.ok (Value.slice (some ⟨w.heap.size,0,none⟩) n n)<|w.alloc<|.cells cs 95) ?_;apply Array.ext
 .simp [madeCells,pB]
 .intro i h1 h2;simp[madeCells,pB,Value.cells,eA]
def Bh(w:World)(d:Dy)(e:Ending)(w':World):Prop:=
 ∃ A c,e = .returned (.agg #[.bool d.neg,.slice A (im d.m).length c,.int .i64 d.e])/\Sl w' A c (im d.m)/\ja w w'
def Bi(w:World)(d:Dy)(n:Int)(e:Ending)(w':World):Prop:=
 ∃ A c,e = .returned (.tuple #[.agg #[.bool d.neg,.slice A (im d.m).length c,.int .i64 d.e],.int .i64 n])/\Sl w' A c (im d.m)/\ja w w'
def Bf(w:World)(g:Nat):Prop:=∀ o x,w.cell? ⟨g,o,none⟩≠some (.int .u32 x)
def Sl.D9{w:World}{A:Option Addr}{c:Nat}{L:List Nat}(h:Sl w A c L){g i:Nat}(hg:Bf w g)(u:Value):Sl (w.setCell ⟨g,i,none⟩ u) A c L:=
 ⟨h.cap,h.sJ,h.ok,h.AV,λj x hx=>by
  obtain⟨b,o,e,h1,h2⟩:=h.cell j x hx;refine⟨b,o,e,by simpa[World.setCell]using h1,?_⟩;rw[World.cell?_setCell_other w _ _ u]
  .exact h2
  .intro e';simp only[Addr.mk.injEq]at e';exact hg (o+j) x<|by rw[e'.1];exact h2⟩
def Bf.GQ{w:World}{g:Nat}{cs:Array Value}{t:TypeId}{fr:Nat×Nat}(h:w.heap[g]? = some (.cells cs t fr))(hc:∀ (i:Nat) (x:Int),cs[i]? ≠ some (.int .u32 x)):Bf w g:=λo x e=>by
 simp only[World.cell?,h]at e;simp at e;exact hc o x<|by simpa using e
def jW(w:World)(g:Nat)(s:Bool)(A:Option Addr)(n c:Nat)(e:Int):Prop:=w.heap[g]? = some (.cells #[.bool s,.slice A n c,.int .i64 e] 37 (0,0))
section
variable {w w':World} {g n c:Nat} {s:Bool} {A:Option Addr} {e:Int}
def jW.new(W:World)(s:Bool)(A:Option Addr)(n c:Nat)(e:Int):jW (W.alloc<|.cells #[.bool s,.slice A n c,.int .i64 e] 37) W.heap.size s A n c e:=heap_alloc_new W _
def jW.AU{W:World}{g:Nat}(hg:W.heap.size=g)(s:Bool)(A:Option Addr)(n c:Nat)(e:Int):jW (W.alloc<|.cells #[.bool s,.slice A n c,.int .i64 e] 37) g s A n c e:=hg▸heap_alloc_new W _
def jW.lt(h:jW w g s A n c e):g<w.heap.size:=(dq.1 h).1
def jW.ext(h:jW w g s A n c e)(hb:ja w w'):jW w' g s A n c e:=(hb.block g h.lt).trans h
def jW.alloc(h:jW w g s A n c e)(o:Obj):jW (w.alloc o) g s A n c e:=h.ext<|ja.alloc _ _
def jW.drew(h:jW w g s A n c e):jW w.drew g s A n c e:=h
section
variable(h:jW w g s A n c e)
def jW.mf:Bf w g:=Bf.GQ h (λi x=>by rcases i with _|_|_|i<;>simp)
def jW.c0:w.cell? ⟨g,0,none⟩=some (.bool s):=by unfold jW at h;simp[World.cell?,h]
def jW.c1:w.cell? ⟨g,1,none⟩=some (.slice A n c):=by unfold jW at h;simp[World.cell?,h]
def jW.c2:w.cell? ⟨g,2,none⟩=some (.int .i64 e):=by unfold jW at h;simp[World.cell?,h]
def jW.fr(i:Nat):w.frozen? ⟨g,i,none⟩=false:=by unfold jW at h;simp[World.frozen?,h]
def jW.set(s':Bool)(A':Option Addr)(n' c':Nat)(e':Int):
 jW (((w.setCell ⟨g,0,none⟩<|.bool s').setCell ⟨g,1,none⟩<|.slice A' n' c').setCell ⟨g,2,none⟩<|.int .i64 e') g s' A' n' c' e':=by
 have h1:=heap_setCell_same w g 0 _ _ (.bool s') h;have h2:=heap_setCell_same _ g 1 _ _ (.slice A' n' c') h1;have h3:=heap_setCell_same _ g 2 _ _ (.int .i64 e') h2;exact h3
end
def jW.xy{L:List Nat}{A':Option Addr}{c':Nat}(h:jW w g s A n c e)(hs:Sl w A' c' L)(s':Bool)(e':Int)(n' c2:Nat)(A2:Option Addr):
 Sl (((w.setCell ⟨g,0,none⟩<|.bool s').setCell ⟨g,1,none⟩<|.slice A2 n' c2).setCell ⟨g,2,none⟩<|.int .i64 e') A' c' L:=by
 have h1:=heap_setCell_same w g 0 _ _ (.bool s') h;have h2:=heap_setCell_same _ g 1 _ _ (.slice A2 n' c2) h1;have k1:Bf (w.setCell ⟨g,0,none⟩<|.bool s') g:=Bf.GQ h1 (λi x=>by rcases i with _|_|_|i<;>simp);have k2:Bf ((w.setCell ⟨g,0,none⟩<|.bool s').setCell ⟨g,1,none⟩<|.slice A2 n' c2) g:=Bf.GQ h2 (λi x=>by rcases i with _|_|_|i<;>simp);exact((hs.D9 h.mf _).D9 k1 _).D9 k2 _
def jW.wq{w0:World}(hb:ja w0 w)(hg:w0.heap.size<=g)(s':Bool)(A':Option Addr)(n' c':Nat)(e':Int):
 ja w0 (((w.setCell ⟨g,0,none⟩<|.bool s').setCell ⟨g,1,none⟩<|.slice A' n' c').setCell ⟨g,2,none⟩<|.int .i64 e'):=
 ((hb.setCell hg _).setCell hg _).setCell hg _
end
def V7:(prog.info? 37).map (·.size)=some 3:= aF 
section
variable{fn:Func}
def apE{p:Tmp}(h:fn.results = #[.cell p 37])(tmps:Array Value){w:World}{g n c:Nat}{s:Bool}{A:Option Addr}{e:Int}
 (hp:tmps.getD p undef = .pointer (some ⟨g,0,none⟩)) (hb:jW w g s A n c e):
 (results fn tmps).run prog w = .ok (.agg #[.bool s,.slice A n c,.int .i64 e]) w:=
 results_cell_row h tmps w g _ _ _ _ hp hb underlying37 rfl V7
def apF{p t:Tmp}(h:fn.results = #[.cell p 37,.tmp t])(tmps:Array Value){w:World}{g n c:Nat}{s:Bool}{A:Option Addr}{e:Int}
 (hp:tmps.getD p undef = .pointer (some ⟨g,0,none⟩)) (hb:jW w g s A n c e):
 (results fn tmps).run prog w = .ok (.tuple #[.agg #[.bool s,.slice A n c,.int .i64 e],tmps.getD t undef]) w:=by
 have C7:tmps[p]?.getD undef = .pointer (some ⟨g,0,none⟩):=by simpa using hp
 simp[results,h,C7,asAddr,run_loadVar_row w g _ _ _ _ _ hb underlying37 rfl V7]
def Br{p:Tmp}(h:fn.results = #[.cell p 37]){a:Act}{w W:World}{d:Dy}{g:Nat}{A:Option Addr}{c n:Nat}
 (hp:a.tmps.getD p undef = .pointer (some ⟨g,0,none⟩)) (hd:a.defers=[]) (hb:jW W g d.neg A n c d.e) (hn:n=(im d.m).length) (hs:Sl W A c<|im d.m) (he:ja w W):
 bodyPost prog fn (Bh w d) .ret a W:=by
 subst hn;exact bodyPost_ret (apE h _ hp hb) hd ⟨A,c,rfl,hs,he⟩
def FV{p t:Tmp}(h:fn.results = #[.cell p 37,.tmp t]){a:Act}{w W:World}{d:Dy}{k:Int}{g:Nat}{A:Option Addr}{c n:Nat}
 (hp:a.tmps.getD p undef = .pointer (some ⟨g,0,none⟩)) (ht:a.tmps.getD t undef = .int .i64 k) (hd:a.defers=[]) (hb:jW W g d.neg A n c d.e) (hn:n=(im d.m).length) (hs:Sl W A c<|im d.m) (he:ja w W):
 bodyPost prog fn (Bi w d k) .ret a W:=by
 subst hn;exact bodyPost_ret ((apF h _ hp hb).trans<|by rw[ht]) hd ⟨A,c,rfl,hs,he⟩
end
open Go.ChangeShapes Go.WideShapes Go.ChangeAt
def own:ownKnob prog.godebug=none:= aF 
def MN:laidOutB prog=true:= aF 
def W1:prog.globalNamed "math/bits.deBruijn32tab" = some 0:= aF 
def ai2:(prog.globals[0]?).map (·.type)=some 244:= aF 
def agc:prog.cellsOf 244=32:= aF 
def agb:prog.cellsOf 5=1:= aF 
def aga:prog.cellsOf 95=1:= aF 
def arN {l:List<|String×DataW Unit} (hl:l=[("math/bits.deBruijn32tab", Rows.laid_math_bits_deBruijn32tab)]) {W:World} (h:laidMet prog l W):Tb W:=by
 subst hl;have ht:Lib.TabIs prog W "math/bits.deBruijn32tab" .u8<|Lib.deBruijn32tab.map λ(n:Nat)=>(n:Int):=
  Lib.tabIs_of_head (rest:=[]) W1 ai2 underlying244 underlying5 agb agc h
 intro j hj;have:=ht.cell W1 j (by simpa using hj);rw[this];simp[bt];rw[bD hj];simp
def aky{n:Int}(h:(Lit.int .i64 n).wf=true):-9223372036854775808<=n/\n<=9223372036854775807:=by
 have h1:IntKind.i64.min = -9223372036854775808:=rfl;have h2:IntKind.i64.max=9223372036854775807:=rfl;simp[Lit.wf,h1,h2]at h;omega
def an1{H:Type}{enc:TypeId×Value->H}{W:World}{fuel:Nat}{c:Value}{x:DataW H×List MemPlace}
 (h:DataW.trod enc prog W 0 (λ_=>true) true fuel 35 [c]=some x) (_hlt:∀ p ∈ x.2,p.block<W.heap.size):
 ∃ A L cap,c = .slice A L.length cap/\Sl W A cap L:=by
 rcases open_ints underlying35 underlying95 aga h with⟨nL,hx⟩|⟨a,len,cap,zs,nL,_,hl,hm,hz,hx,kF,hwz⟩
 .simp at nL;exact⟨none,[],0,nL,Sl.nil W⟩
 .simp at nL;simp only[bH]at hz;refine⟨some a,(zs.take len).map Int.toNat,cap,?_,?_⟩
  .rw [nL,cG,cJ,dA aC]
  .have Yk:∀ n ∈ zs,0<=n/\n<4294967296:=λn hn=>by
    have:=hwz n hn;have h1:IntKind.u32.min=0:=rfl;have h2:IntKind.u32.max=4294967295:=rfl;simp[Lit.wf,h1,h2]at this;omega
   refine⟨by rw[cG,cJ];omega,by simpa[maxLen]using hm,?_,(λh=>by cases h),?_⟩
   .intro y hy;obtain⟨z,AA,rfl⟩:=cP.1 hy;have:=Yk z<|ef AA;omega
   .intro i y hy;rw[cC]at hy;obtain⟨z,AA,rfl⟩:=cg.1 hy;rw[dO]at AA;split at AA
    .rename_i hi;have hc:=kF i aC;rw[bt,AA]at hc;obtain⟨b,off,spot⟩:=a;have hsp:spot=none:=by
      rcases spot with _|q
      .rfl
      .exfalso;have pR:=kF 0 aC;rw[show(⟨b,off,some q⟩:Addr).add 0=⟨b,off,some q⟩from rfl]at pR;unfold World.cell? at pR;split at pR<;>simp at pR
     subst hsp;refine⟨b,off,rfl,?_,?_⟩
     .have:=block_lt_of_cell hc;rwa[afi]at this
     .rw [DR]at hc;rw[hc];have:=Yk z<|dC AA;simp;omega
    .cases AA
def Zr{α:Type}{l:List α}(h:l.length=3):∃ a b c,l=[a,b,c]:=by
 match l,h with
 | [a,b,c],_=>exact⟨a,b,c,rfl⟩
def ame{α:Type}{l:List α}(h:l.length=7):∃ a b c d e f g,l=[a,b,c,d,e,f,g]:=by
 match l,h with
 | [a,b,c,d,e,f,g],_=>exact⟨a,b,c,d,e,f,g,rfl⟩
def anZ{H:Type}{enc:TypeId×Value->H}{W:World}{fuel:Nat}{cs:List Value}{x:DataW H×List MemPlace}
 (h:DataW.trod enc prog W 0 (λ_=>true) true fuel 37 cs=some x) (iN:∀ p ∈ x.2,p.block<W.heap.size):
 ∃ s A L cap e,cs=[.bool s,.slice A L.length cap,.int .i64 e]/\Sl W A cap L/\(-9223372036854775808<=e/\e<=9223372036854775807):=by
 obtain⟨xs,n,rfl,rfl,hl,qE,hf⟩:=DataW.trod_struct underlying37 h;have hC:prog.cellsOf 37=3:= aF ;have hB:prog.cellsOf 4=1:= aF ;have hS:prog.cellsOf 35=1:= aF ;have hI:prog.cellsOf 3=1:= aF ;rw[hC]at hl;obtain⟨a,b,c,rfl⟩:=Zr hl;have h0:=hf 0 _ rfl;have h1:=hf 1 _ rfl;have h2:=hf 2 _ rfl;simp only[fD,fE,eO]at h0 h1 h2;simp only[hB,hS,hI,fF,fG,fc,fH]at h0 h1 h2;rw[bD<|by rw[qE];decide]at h0 h1 h2;obtain⟨s,hs,_⟩:=DataW.trod_bool underlying4 h0;obtain⟨A,L,cap,hc,xZ⟩:=an1 h1 λp hp=>iN p<|dP.2 ⟨_,cB _,hp⟩;obtain⟨e,he,_,hw⟩:=DataW.trod_int underlying3 h2;simp at hs he;subst hs he hc;exact⟨s,A,L,cap,e,rfl,xZ,aky hw⟩
noncomputable def RM(os:Os)(args:Array Value):World:=
 {World.holding prog os ⟨#[],args,[]⟩with heap:=(World.holding prog os ⟨#[],args,[]⟩).heap.modify 0 fun
   | .cells _ t frozen=>.cells (Lib.deBruijn32tab.map λ(n:Nat)=>Value.int .u8 (n:Int)).toArray t frozen
   |o=>o }
end Go.Proofs.YtjkmahljfblobaaGreatDoor
namespace Go.Proofs.YtjkmahljfblobaaGreatDoor.Pu
open Go.RowKit
inductive E where
 |any
 |v (x:Value)
 |agg (l:List E)
 |iH (l:List E)
 |sl (nl:Bool) (n sz:Nat) (el:Nat->Nat->E)
 |jK (m:Nat) (el:Nat->E)
 |fn (f:FuncId) (cap:List E)
 |mp (l:List<|Int×FuncId×List FuncId)
 |lJ (fl nl:Bool) (n sz:Nat) (el:Nat->Nat->E)
def qs:Value->Bool
 | .int .u32 _=>true
 |_=>false
def E.nr:Nat->E->Bool
 |_,.any=>true
 |_,.v _=>true
 |_,.sl ..=>true
 |_,.mp _=>true
 |d+1,.agg l=>l.all<|E.nr d
 |d+1,.iH l=>l.all<|E.nr d
 |d+1,.fn _ l=>l.all<|E.nr d
 |_,_=>false
def DP(bs:Nat->Prop)(w:World):List (Int×FuncId×List FuncId)->List MapEntry->Prop
 | [],[]=>True
 |x::l,e::es=>(e.key = .int .i64 x.1/\∃ vs:List Value,e.val = .func (.func x.2.1) #[] vs.toArray/\vs.length=x.2.2.length /\
  ∀ (i:Nat) (g:FuncId) (v:Value),x.2.2[i]? = some g->vs[i]? = some v->∃ b,v = .pointer (some ⟨b,0,none⟩)/\¬bs b/\b<w.heap.size/\w.cell? ⟨b,0,none⟩=some (.func (.func g) #[] #[]))/\DP bs w l es
 |_,_=>False
def DP.mono{bs bs':Nat->Prop}{w w':World}(nc:w.heap.size<=w'.heap.size)(h1:∀ b,b<w.heap.size->bs' b->bs b)(hc:∀ b,b<w.heap.size->¬bs b->w'.heap[b]? = w.heap[b]?):
 ∀ {l:List<|Int×FuncId×List FuncId} {es:List MapEntry},DP bs w l es->DP bs' w' l es
 | [],[],_=>trivial
 | [],_::_,h=>h
 |_::_,[],h=>h
 |_::_,_::_,⟨⟨k1,vs,k2,k3,k4⟩,h⟩=>⟨⟨k1,vs,k2,k3,λi g v hg hv=>by
  obtain⟨b,q1,q2,q3,q4⟩:=k4 i g v hg hv;exact⟨b,q1,λx=>q2<|h1 b q3 x,bV q3 nc,by rw[World.cell?_of_block (w:=w)<|hc b q3 q2];exact q4⟩⟩,DP.mono nc h1 hc h⟩
inductive iO(bs br:Nat->Prop)(w:World):E->Value->Prop
 |any (x:Value):iO bs br w .any x
 |v (x:Value):iO bs br w (.v x) x
 |agg (l:List E) (vs:List Value) (h:vs.length=l.length) (k:∀ (i:Nat) (p:E) (x:Value),l[i]? = some p->vs[i]? = some x->iO bs br w p x):iO bs br w (.agg l)<|.agg vs.toArray
 |iH (l:List E) (vs:List Value) (h:vs.length=l.length) (k:∀ (i:Nat) (p:E) (x:Value),l[i]? = some p->vs[i]? = some x->iO bs br w p x):iO bs br w (.iH l)<|.tuple vs.toArray
 |sl (nl:Bool) (n sz:Nat) (el:Nat->Nat->E) (A:Option Addr) (c:Nat) (f:Nat->Nat->Value) (hc:n<=c) (hm:c<=9223372036854775807) (h0:A=none->c=0)
  (hl:∀ i j,i<n->j<sz->(f i j).oneCell'=true/\(nl=true->qs (f i j)=false))
  (hr:∀ i j,i<n->j<sz->(el i j).nr 2=true)
  (cell:∀ i j,i<n->j<sz->∃ b o,A=some ⟨b,o,none⟩/\¬bs b/\b<w.heap.size/\w.cell? ⟨b,o+(i*sz+j),none⟩=some (f i j))
  (k:∀ i j,i<n->j<sz->iO bs br w (el i j) (f i j)):iO bs br w (.sl nl n sz el)<|.slice A n c
 |jK (m:Nat) (el:Nat->E) (b o:Nat) (f:Nat->Value) (hb:¬br b) (iN:b<w.heap.size) (hl:∀ j,j<m->(f j).oneCell'=true)
  (cell:∀ j,j<m->w.cell? ⟨b,o+j,none⟩=some (f j))
  (k:∀ j,j<m->iO bs br w (el j) (f j)):iO bs br w (.jK m el)<|.pointer<|some ⟨b,o,none⟩
 |fn (f:FuncId) (l:List E) (vs:List Value) (h:vs.length=l.length) (k:∀ (i:Nat) (p:E) (x:Value),l[i]? = some p->vs[i]? = some x->iO bs br w p x):iO bs br w (.fn f l)<|.func (.func f) #[] vs.toArray
 |mp (l:List<|Int×FuncId×List FuncId) (b clk:Nat) (es:Array MapEntry) (hb:¬bs b) (iN:b<w.heap.size) (hh:w.heap[b]? = some (.map es clk)) (ho:DP bs w l es.toList):iO bs br w (.mp l)<|.map<|some b
 |lJ (fl nl:Bool) (n sz:Nat) (el:Nat->Nat->E) (A:Option Addr) (c:Nat) (f:Nat->Nat->Value) (hc:n<=c) (hm:c<=9223372036854775807) (h0:A=none->c=0)
  (hl:∀ i j,i<n->j<sz->(f i j).oneCell'=true/\(nl=true->qs (f i j)=false))
  (hr:fl=true->∀ i j,i<n->j<sz->(el i j).nr 2=true)
  (cell:∀ i j,i<n->j<sz->∃ b o,A=some ⟨b,o,none⟩/\¬br b/\b<w.heap.size/\w.cell? ⟨b,o+(i*sz+j),none⟩=some (f i j))
  (k:∀ i j,i<n->j<sz->iO bs br w (el i j) (f i j)):iO bs br w (.lJ fl nl n sz el)<|.slice A n c
def iO.mono{bs br bs' br':Nat->Prop}{w w':World}(nc:w.heap.size<=w'.heap.size)
 (h1:∀ b,b<w.heap.size->bs' b->bs b) (h2:∀ b,b<w.heap.size->br' b->br b)
 (hc:∀ b,b<w.heap.size->(¬bs b\/¬br b)->w'.heap[b]? = w.heap[b]?)
 {e:E} {v:Value} (h:iO bs br w e v):iO bs' br' w' e v:=by
 induction h with
 |any x=>exact .any x
 |v x=>exact .v x
 |agg l vs h k ih=>exact .agg l vs h ih
 |iH l vs h k ih=>exact .iH l vs h ih
 |sl nl n sz el A c f hn hm h0 hl hr cell k ih=>
  refine .sl nl n sz el A c f hn hm h0 hl hr (λi j hi hj=>?_) ih;obtain⟨b,o,e,hb,iN,kF⟩:=cell i j hi hj;exact⟨b,o,e,λhx=>hb<|h1 b iN hx,bV iN nc,by rw[World.cell?_of_block (w:=w)<|hc b iN<|.inl hb];exact kF⟩
 |jK m el b o f hb iN hl cell k ih=>
  exact .jK m el b o f (λhx=>hb<|h2 b iN hx) (bV iN nc) hl (λj hj=>by rw[World.cell?_of_block (w:=w)<|hc b iN<|.inr hb];exact cell j hj) ih
 |fn f l vs h k ih=>exact .fn f l vs h ih
 |mp l b clk es hb iN hh ho=>exact .mp l b clk es (λx=>hb<|h1 b iN x) (bV iN nc) (by rw[hc b iN<|.inl hb];exact hh)<|ho.mono nc h1 λb iN hb=>hc b iN<|.inl hb
 |lJ fl nl n sz el A c f hn hm h0 hl hr cell k ih=>
  refine .lJ fl nl n sz el A c f hn hm h0 hl hr (λi j hi hj=>?_) ih;obtain⟨b,o,e,hb,iN,kF⟩:=cell i j hi hj;exact⟨b,o,e,λhx=>hb<|h2 b iN hx,bV iN nc,by rw[World.cell?_of_block (w:=w)<|hc b iN<|.inr hb];exact kF⟩
def iO.nS{bs br bs' br':Nat->Prop}{w:World}(h1:∀ b,bs' b->bs b)(h2:∀ b,br' b->br b){e:E}{v:Value}(h:iO bs br w e v):iO bs' br' w e v:=
 h.mono (bw _) (λb _=>h1 b) (λb _=>h2 b) (λ_ _ _=>rfl)
def E.plain:Nat->E->Bool
 |_,.any=>true
 |_,.v _=>true
 |d+1,.agg l=>l.all<|E.plain d
 |d+1,.iH l=>l.all<|E.plain d
 |_,_=>false
def iO.plain{bs br bs' br':Nat->Prop}{w w':World}{e:E}{v:Value}(h:iO bs br w e v):∀ d,e.plain d=true->iO bs' br' w' e v:=by
 induction h with
 |any x=>exact λ_ _=>.any x
 |v x=>exact λ_ _=>.v x
 |agg l vs h k ih=>
  intro d hd;cases d with
  |zero=>simp[E.plain]at hd
  |succ d=>
   simp only[E.plain,bO]at hd;exact .agg l vs h λi p x hp hx=>ih i p x hp hx d<|hd p<|dC hp
 |iH l vs h k ih=>
  intro d hd;cases d with
  |zero=>simp[E.plain]at hd
  |succ d=>
   simp only[E.plain,bO]at hd;exact .iH l vs h λi p x hp hx=>ih i p x hp hx d<|hd p<|dC hp
 |sl=>intro d hd;cases d<;>simp[E.plain]at hd
 |jK=>intro d hd;cases d<;>simp[E.plain]at hd
 |fn=>intro d hd;cases d<;>simp[E.plain]at hd
 |mp=>intro d hd;cases d<;>simp[E.plain]at hd
 |lJ=>intro d hd;cases d<;>simp[E.plain]at hd
def iO.nr{bs br br':Nat->Prop}{w:World}{e:E}{v:Value}(h:iO bs br w e v):∀ d,e.nr d=true->iO bs br' w e v:=by
 induction h with
 |any x=>exact λ_ _=>.any x
 |v x=>exact λ_ _=>.v x
 |agg l vs h k ih=>
  intro d hd;cases d with
  |zero=>simp[E.nr]at hd
  |succ d=>
   simp only[E.nr,bO]at hd;exact .agg l vs h λi p x hp hx=>ih i p x hp hx d<|hd p<|dC hp
 |iH l vs h k ih=>
  intro d hd;cases d with
  |zero=>simp[E.nr]at hd
  |succ d=>
   simp only[E.nr,bO]at hd;exact .iH l vs h λi p x hp hx=>ih i p x hp hx d<|hd p<|dC hp
 |fn f l vs h k ih=>
  intro d hd;cases d with
  |zero=>simp[E.nr]at hd
  |succ d=>
   simp only[E.nr,bO]at hd;exact .fn f l vs h λi p x hp hx=>ih i p x hp hx d<|hd p<|dC hp
 |jK=>intro d hd;cases d<;>simp[E.nr]at hd
 |lJ=>intro d hd;cases d<;>simp[E.nr]at hd
 |mp l b clk es hb iN hh ho=>exact λ_ _=>.mp l b clk es hb iN hh ho
 |sl nl n sz el A c f hn hm h0 hl hr cell k ih=>
  exact λ_ _=>.sl nl n sz el A c f hn hm h0 hl hr cell λi j hi hj=>ih i j hi hj 2<|hr i j hi hj
def E.one:E->Bool
 | .v x=>x.oneCell'
 | .sl ..=>true
 | .jK ..=>true
 | .fn ..=>true
 |_=>false
def E.mf:E->Bool
 | .v x=>!qs x
 | .sl ..=>true
 | .jK ..=>true
 | .fn ..=>true
 |_=>false
def iO.one{bs br:Nat->Prop}{w:World}{e:E}{v:Value}(h:iO bs br w e v)(h1:e.one=true):v.oneCell'=true:=by
 cases h<;>first|exact h1|rfl|(simp[E.one]at h1)
def iO.mf{bs br:Nat->Prop}{w:World}{e:E}{v:Value}(h:iO bs br w e v)(h1:e.mf=true):qs v=false:=by
 cases h with
 |v=>unfold E.mf at h1;cases hb:qs v<;>simp_all
 |any=>cases h1
 |agg=>cases h1
 |iH=>cases h1
 |sl=>rfl
 |jK=>rfl
 |fn=>rfl
 |mp=>cases h1
 |lJ=>cases h1
structure ku(bs br:Nat->Prop)(w:World)(l:List E)(vs:List Value):Prop where
 len:vs.length=l.length
 kJ:∀ (i:Nat) (p:E) (x:Value),l[i]? = some p->vs[i]? = some x->iO bs br w p x
def ku.nil(bs br:Nat->Prop)(w:World):ku bs br w [] []:=⟨rfl,λi p x h=>by simp at h⟩
section
variable{bs br:Nat->Prop}{w:World}
section
variable{p:E}{x:Value}{l:List E}{vs:List Value}
def ku.cons(h:iO bs br w p x)(k:ku bs br w l vs):ku bs br w (p::l)<|x::vs:=
 ⟨by simp[k.len],λi q y hq hy=>by
  cases i with
  |zero=>simp at hq hy;subst hq hy;exact h
  |succ i=>simp at hq hy;exact k.kJ i q y hq hy⟩
section
variable(h:ku bs br w (p::l)<|x::vs)
def ku.head:iO bs br w p x:=h.kJ 0 p x rfl rfl
def ku.tail:ku bs br w l vs:=
 ⟨by have:=h.len;simpa using this,λi q y hq hy=>h.kJ (i+1) q y (by simpa using hq)<|by simpa using hy⟩
end
end
def ku.nR{p:E}{l:List E}{vs:List Value}(h:ku bs br w (p::l) vs):∃ x ys,vs=x::ys/\iO bs br w p x/\ku bs br w l ys:=by
 cases vs with
 |nil=>have:=h.len;simp at this
 |cons x ys=>exact⟨x,ys,rfl,h.head,h.tail⟩
def ku.sK{vs:List Value}(h:ku bs br w [] vs):vs=[]:=dJ h.len
end
def ku.mono{bs br bs' br':Nat->Prop}{w w':World}{l:List E}{vs:List Value}(h:ku bs br w l vs)(k:∀ e v,iO bs br w e v->iO bs' br' w' e v):ku bs' br' w' l vs:=
 ⟨h.len,λi p x hp hx=>k _ _<|h.kJ i p x hp hx⟩
def ku.take{bs br:Nat->Prop}{w:World}{l:List E}{vs:List Value}(h:ku bs br w l vs)(n:Nat):ku bs br w (l.take n)<|vs.take n:=
 ⟨by simp[h.len],λi p x hp hx=>by
  rw[dO]at hp hx;split at hp
  .rename_i hi;rw[bk hi]at hx;exact h.kJ i p x hp hx
  .cases hp⟩
def ku.drop{bs br:Nat->Prop}{w:World}{l:List E}{vs:List Value}(h:ku bs br w l vs)(n:Nat):ku bs br w (l.drop n)<|vs.drop n:=
 ⟨by simp[h.len],λi p x hp hx=>by
  rw[dK]at hp hx;exact h.kJ _ p x hp hx⟩
def ku.app{bs br:Nat->Prop}{w:World}{l m:List E}{vs us:List Value}(h:ku bs br w l vs)(k:ku bs br w m us):ku bs br w (l++m)<|vs++us:=
 ⟨by simp[h.len,k.len],λi p x hp hx=>by
  rw[eR]at hp hx;rw[h.len]at hx;split at hp
  .rename_i hi;rw[bk hi]at hx;exact h.kJ i p x hp hx
  .rename_i hi;rw[bj hi]at hx;exact k.kJ _ p x hp hx⟩
def ku.agv(bs br:Nat->Prop)(w:World)(vs:List Value):ku bs br w (vs.map .v) vs:=
 ⟨aH,λi p x hp hx=>by
  rw[cC,hx]at hp;simp at hp;subst hp;exact .v x⟩
section
variable{bs br:Nat->Prop}{w:World}
def iO.Ic{l:List E}{v:Value}(h:iO bs br w (.agg l) v):∃ vs:List Value,v = .agg vs.toArray/\ku bs br w l vs:=by
 cases h with
 |agg _ vs h k=>exact⟨vs,rfl,h,k⟩
def iO.adi{l:List E}{v:Value}(h:iO bs br w (.iH l) v):∃ vs:List Value,v = .tuple vs.toArray/\ku bs br w l vs:=by
 cases h with
 |iH _ vs h k=>exact⟨vs,rfl,h,k⟩
def iO.kW{x v:Value}(h:iO bs br w (.v x) v):v=x:=by cases h;rfl
def iO.Qb{f:FuncId}{l:List E}{v:Value}(h:iO bs br w (.fn f l) v):∃ vs:List Value,v = .func (.func f) #[] vs.toArray/\ku bs br w l vs:=by
 cases h with
 |fn _ _ vs h k=>exact⟨vs,rfl,h,k⟩
end
def ku.agg{bs br:Nat->Prop}{w:World}{l:List E}{vs:List Value}(h:ku bs br w l vs):iO bs br w (.agg l)<|.agg vs.toArray:=.agg l vs h.len h.kJ
def ku.iH{bs br:Nat->Prop}{w:World}{l:List E}{vs:List Value}(h:ku bs br w l vs):iO bs br w (.iH l)<|.tuple vs.toArray:=.iH l vs h.len h.kJ
def E.cells?:E->Option (List E)
 | .agg l=>if l.all E.one then some l else none
 | .v (.agg cs)=>if cs.toList.all Value.oneCell' then some (cs.toList.map .v)else none
 | .v x=>if x.oneCell' then some [.v x]else none
 | .sl nl n sz el=>some [.sl nl n sz el]
 | .jK m el=>some [.jK m el]
 | .fn f c=>some [.fn f c]
 |_=>none
def iO.cells{bs br:Nat->Prop}{w:World}{e:E}{v:Value}(h:iO bs br w e v){l:List E}(hl:e.cells? = some l):
 ku bs br w l v.cells.toList/\∀ u ∈ v.cells.toList,u.oneCell'=true:=by
 have single:∀ {e:E} {v:Value},iO bs br w e v->v.oneCell'=true->v.cells = #[v]->ku bs br w [e] v.cells.toList/\∀ u ∈ v.cells.toList,u.oneCell'=true:=by
  intro e v h h1 hc;rw[hc];exact⟨.cons h<|.nil _ _ _,by simpa using h1⟩
 cases h with
 |any x=>simp[E.cells?]at hl
 |v=>
  by_cases ha:∃ cs,v = .agg cs
  .obtain ⟨cs,rfl⟩:=ha;simp only[E.cells?]at hl;split at hl
   .rename_i h1;cases hl;exact⟨ku.agv _ _ _ _,λu hu=>bO.1 h1 u hu⟩
   .cases hl
  .have hx:(E.v v).cells? = if v.oneCell' then some [.v v]else none:=by
    cases v<;>first|rfl|exact absurd ⟨_,rfl⟩ ha
   rw[hx]at hl;split at hl
   .rename_i h1;cases hl;exact single (.v v) h1<|by cases v<;>first|rfl|exact absurd ⟨_,rfl⟩ ha
   .cases hl
 |agg l vs h k=>
  simp only[E.cells?]at hl;split at hl
  .rename_i h1;cases hl;refine⟨⟨h,k⟩,?_⟩;intro u hu;obtain⟨i,hi⟩:=dD.1 hu;have Eo:i<l.length:=by
    obtain⟨hi,_⟩:=cD.1 hi;simp[Value.cells]at hi;omega
   exact(k i _ u (bD Eo)<|by simpa[Value.cells]using hi).one<|bO.1 h1 _<|cB Eo
  .cases hl
 |iH=>simp[E.cells?]at hl
 |mp=>simp[E.cells?]at hl
 |lJ=>simp[E.cells?]at hl
 |sl nl n sz el A c f hc hm h0 qA hr cell k=>simp only[E.cells?]at hl;cases hl;exact single (.sl nl n sz el A c f hc hm h0 qA hr cell k) rfl rfl
 |jK m el b o f hb iN qA cell k=>simp only[E.cells?]at hl;cases hl;exact single (.jK m el b o f hb iN qA cell k) rfl rfl
 |fn f l' vs h k=>simp only[E.cells?]at hl;cases hl;exact single (.fn f l' vs h k) rfl rfl
structure TI where
 id:TypeId
 d:TypeDesc
 i:TypeInfo
def mh(P:Program)(T:List TI):Prop:=∀ x,x ∈ T->P.underlying x.id=some x.d/\P.info? x.id=some x.i
def mA:List TI->TypeId->Option TI
 | [],_=>none
 |x::l,t=>if Nat.beq x.id t then some x else mA l t
def yS(T:List TI)(t:TypeId):Option TypeDesc:=match mA T t with
 |some x=>some x.d
 |none=>none
def TI.isAgg(x:TI):Bool:=match x.d with
 | .struct _ | .array _ _=>true
 |_=>false
inductive CV where
 |e (x:E)
 |box (id:Nat)
 |row (id:Nat)
inductive PV where
 |e (x:E)
 |box (id off:Nat)
 |own (id:Nat)
 |oI (id sz i j:Nat)
 |iQ (id k:Nat)
 |rB (id sz k i j:Nat)
 |rq (f:FuncId) (cap:List CV)
def CV.lh:CV->List Nat
 | .e _=>[]
 | .box id=>[id]
 | .row id=>[id]
def PV.lh:PV->List Nat
 | .e _=>[]
 | .box id _ | .own id | .oI id _ _ _ | .iQ id _ | .rB id _ _ _ _=>[id]
 | .rq _ cap=>cap.flatMap CV.lh
inductive Bx where
 |cells (T:TypeId) (l:List E)
 |row (nl:Bool) (T:TypeId) (n sz:Nat) (el:Nat->Nat->E)
 |iM (nl:Bool) (T1 T0:TypeId) (n sz:Nat) (len:Nat->Nat) (el:Nat->Nat->Nat->E) (pend:Option Nat)
 |qn (nl:Bool) (T:TypeId) (l:List PV)
 |A8 (nl:Bool) (T1 T0:TypeId) (n sz:Nat) (len:Nat->Nat) (el:Nat->Nat->Nat->E) (c r:Nat)
 |nN (T:TypeId) (b:Nat) (l:List E)
def Bx.No:Bx->List PV
 | .qn _ _ l=>l
 |_=>[]
def Bx.lh(b:Bx):List Nat:=b.No.flatMap PV.lh
def Bx.rY(g:PV->PV):Bx->Bx
 | .qn nl T l=>.qn nl T<|l.map g
 |b=>b
def Bx.nl:Bx->Bool
 | .cells _ l=>l.all E.mf
 | .row nl ..=>nl
 | .iM nl ..=>nl
 | .qn nl ..=>nl
 | .A8 nl ..=>nl
 | .nN _ _ l=>l.all E.mf
structure PS where
 n:Nat
 nl:Bool
 t:List<|Nat×PV
 b:List<|Nat×Bx
def look{α:Type}:List (Nat×α)->Nat->Option α
 | [],_=>none
 | (k,x)::l,t=>if Nat.beq k t then some x else look l t
def PS.get(σ:PS)(t:Nat):PV:=(look σ.t t).getD<|.e .any
def PS.bo(σ:PS)(id:Nat):Option Bx:=look σ.b id
def PS.op(σ:PS):Operand->PV
 | .tmp t=>σ.get t
 | .const v=>.e<|.v v
 | .global g=>.e<|.v<|.pointer<|some ⟨g,0,none⟩
 | .func f=>.e<|.fn f []
inductive mK where
 |none
 |new (id:Nat) (b:Bx)
 |pC (id:Nat) (b:Bx)
 |pD (id:Nat) (b:Bx)
 |tf (id:Nat) (b:Bx)
 |fin (id:Nat)
 |py (id r:Nat) (b:Bx)
 |yB (id:Nat) (b:Bx)
structure kN where
 r:PV
 f:mK:=.none
 rb:List Nat:=[]
 jG:List Prop:=[]
 rd:List PV:=[]
 hb:Bool:=false
 ob:List Nat:=[]
def CV.Jw(id:Nat):CV->Bool
 | .row i=>Nat.beq i id
 |_=>false
def PV.lk:mK->PV->PV
 | .pD id _,.own i=>if Nat.beq i id then .e .any else .own i
 | .pD id _,.oI i s x j=>if Nat.beq i id then .e .any else .oI i s x j
 | .pD id _,.rq f cap=>if cap.any (CV.Jw id)then .e .any else .rq f cap
 | .tf id _,.iQ i k=>if Nat.beq i id then .e .any else .iQ i k
 | .tf id _,.rB i s k x j=>if Nat.beq i id then .e .any else .rB i s k x j
 | .fin id,p=>if p.lh.any (Nat.beq id)then .e .any else p
 | .yB id _,p=>if p.lh.any (Nat.beq id)then .e .any else p
 | .py id r _,.box i off=>if Nat.beq i id then(if Nat.beq off 0 then .oI id 1 0 0 else .e .any)else if Nat.beq i r then .e .any else .box i off
 | .py id r _,p=>if p.lh.any (λx=>Nat.beq id x||Nat.beq r x)then .e .any else p
 |_,p=>p
def vE(l:List<|Nat×Bx)(id:Nat)(b:Bx):List<|Nat×Bx:=(id,b)::l.filter λx=>!Nat.beq x.1 id
def mK.Pc:mK->List (Nat×Bx)->List (Nat×Bx)
 | .none,l=>l
 | .new id b,l | .pC id b,l | .pD id b,l | .tf id b,l | .yB id b,l=>vE l id b
 | .fin id,l=>l.filter λx=>!Nat.beq x.1 id
 | .py id r b,l=>vE (l.filter λx=>!Nat.beq x.1 r) id b
def mK.xD:mK->Bool
 | .pD .. | .tf .. | .fin .. | .py .. | .yB ..=>true
 |_=>false
def PS.pre(σ:PS)(f:mK):List<|Nat×Bx:=if f.xD then σ.b.map λx=>(x.1,x.2.rY<|PV.lk f)else σ.b
def PS.oz(σ:PS)(f:mK):PS:={ σ with t:=if f.xD then σ.t.map λx=>(x.1,x.2.lk f)else σ.t,b:=f.Pc<|σ.pre f }
def PS.put(σ:PS)(d:Option Tmp)(p:PV):PS:=match d with
 |some d=>{ σ with t:=(d,p)::σ.t.filter λx=>!Nat.beq x.1 d }
 |none=>σ
def kC:IntKind->Int->Prop
 | .i8,z=>-128<=z/\z<=127
 | .i16,z=>-32768<=z/\z<=32767
 | .i32,z=>-2147483648<=z/\z<=2147483647
 | .i64,z=>-9223372036854775808<=z/\z<=9223372036854775807
 | .u8,z=>0<=z/\z<=255
 | .u16,z=>0<=z/\z<=65535
 | .u32,z=>0<=z/\z<=4294967295
 | .u64,z=>0<=z/\z<=18446744073709551615
def acb(op:BinOp)(k k':IntKind):Bool:=match op with
 | .shl=>true
 | .shr=>true
 |_=>decide (k=k')
def OS(k:IntKind)(x y:Int):Int:=match k with
 | .u32=>IntKind.u32.wrap<|x+y
 |_=>x+y
def rK(k:IntKind)(x y:Int):List Prop:=match k with
 | .u32=>[]
 |_=>[kC k<|x+y]
def PQ(op:BinOp)(k:IntKind)(x:Int)(y:Int):Option<|Value×List Prop:=match op with
 | .add=>some (.int k<|OS k x y,rK k x y)
 | .sub=>some (.int k<|x-y,[kC k<|x-y])
 | .mul=>some (.int k<|x*y,[kC k<|x*y])
 | .quo=>some (.int k<|x.tdiv y,[0<y,kC k x])
 | .rem=>some (.int k<|x.tmod y,[0<y])
 | .and=>some (.int k<|bits .and k x y,[])
 | .or=>some (.int k<|bits .or k x y,[])
 | .shl=>some (.int k<|k.wrap<|x*2^y.toNat,[0<=y/\y<=k.bits])
 | .shr=>some (.int k<|x/2^y.toNat,[0<=y/\y<=k.bits])
 | .eql=>some (.bool<|x==y,[])
 | .neq=>some (.bool<|x != y,[])
 | .lss=>some (.bool<|decide (x<y),[])
 | .leq=>some (.bool<|decide (x<=y),[])
 | .gtr=>some (.bool<|decide (y<x),[])
 | .geq=>some (.bool<|decide (y<=x),[])
 |_=>none
def Nl:List PV->Option (List E)
 | []=>some []
 | .e x::l=>(Nl l).map (x :: ·)
 |_::_=>none
def PS.read(σ:PS)(p:PV)(m:Nat):Option<|List E×List Nat×List Prop:=match p with
 | .box id off=>match σ.bo id with
  |some (.cells _ l)=>if Nat.ble (off+m) l.length then some ((l.drop off).take m,[id],[])else none
  |some (.qn _ _ l)=>if Nat.ble (off+m) l.length then(Nl<|(l.drop off).take m).map λes=>(es,[id],[])else none
  |some (.nN _ _ l)=>if Nat.ble (off+m) l.length then some ((l.drop off).take m,[id],[])else none
  |_=>none
 | .oI id sz i j=>match σ.bo id with
  |some (.row _ _ n s el)=>if Nat.beq s sz&&Nat.ble (j+m) sz then some ((List.range m).map λq=>el i<|j+q,[id],[i<n])else none
  |_=>none
 | .rB id sz k i j=>match σ.bo id with
  |some (.iM _ _ _ n s len el _)=>if Nat.beq s sz&&Nat.ble (j+m) sz then some ((List.range m).map λq=>el k i<|j+q,[id],[k<n,i<len k])else none
  |_=>none
 | .e (.jK k el)=>if Nat.ble m k then some ((List.range m).map el,[],[])else none
 |_=>none
def CV.ext(σ:PS):CV->Option (E×List Nat)
 | .e x=>some (x,[])
 | .box id=>match σ.bo id with
  |some (.cells _ l)=>some (.jK l.length λj=>l.getD j .any,[id])
  |_=>none
 | .row id=>match σ.bo id with
  |some (.iM nl _ _ n sz len el none)=>if Nat.beq n 1 then some (.jK 1 λ_=>.sl nl (len 0) sz<|el 0,[id])else none
  |_=>none
def CV.Jv:CV->Bool
 | .row _=>true
 |_=>false
def wP(σ:PS):List CV->Option (List E×List Nat)
 | []=>some ([],[])
 |c::l=>match c.ext σ,wP σ l with
  |some (x,i),some (xs,is)=>some (x::xs,i++is)
  |_,_=>none
def PV.vX(σ:PS):PV->Bool
 | .own id=>match σ.bo id with
  |some (.iM ..)=>false
  |_=>true
 | .iQ _ _=>true
 | .rq _ cap=>cap.any CV.Jv
 |_=>false
def PV.ext(σ:PS):PV->Option (E×List Nat)
 | .e x=>some (x,[])
 | .own id=>match σ.bo id with
  |some (.row nl _ n sz el)=>some (.sl nl n sz el,[id])
  |some (.iM nl _ _ n sz len el none)=>some (.lJ false true n 1 λk _=>.lJ true nl (len k) sz<|el k,[id])
  |_=>none
 | .box id 0=>match σ.bo id with
  |some (.cells _ l)=>some (.jK l.length λj=>l.getD j .any,[id])
  |_=>none
 | .iQ id k=>match σ.bo id with
  |some (.iM nl _ _ n sz len el none)=>if Nat.blt k n then some (.sl nl (len k) sz<|el k,[id])else none
  |_=>none
 | .rq f cap=>match wP σ cap with
  |some (xs,is)=>some (.fn f xs,is)
  |none=>none
 |_=>none
def uU(σ:PS):List Operand->Option (List E×List Nat)
 | []=>some ([],[])
 |o::l=>match(σ.op o).ext σ,uU σ l with
  |some (x,i),some (xs,is)=>some (x::xs,i++is)
  |_,_=>none
def yP:List PV->Option (List CV)
 | []=>some []
 | .e x::l=>(yP l).map (.e x :: ·)
 | .box id 0::l=>(yP l).map (.box id :: ·)
 | .oI id sz i j::l=>if Nat.beq sz 1&&Nat.beq i 0&&Nat.beq j 0 then(yP l).map (.row id :: ·)else none
 |_::_=>none
def oL(w:World)(b:Nat):Prop:=∀ o x,w.cell? ⟨b,o,none⟩≠some (.int .u32 x)
structure PC(P:Program)(K:World->Prop)(f:FuncId)(args:List E)(jk:E):Prop where
 call:∀ (vs:Array Value) (w:World),(callFunc f vs).run P w = .ok (.enter f vs) w
 run:∀ (w:World) (B:Nat->Prop) (vs:List Value),K w->(∀ b,B b->b<w.heap.size/\oL w b)->ku B (λ_=>False) w args vs ->
  Calls P f vs.toArray w (λe w'=>∃ v,e = .returned v/\Below w.heap.size w w'/\iO B (λ_=>True) w' jk v)
structure KX(P:Program)(K:World->Prop)(f:FuncId)(args:List E)(jk:E):Prop where
 call:∀ (vs:Array Value) (w:World),(callFunc f vs).run P w = .ok (.enter f vs) w
 run:∀ (w:World) (B:Nat->Prop) (vs:List Value),K w->(∀ b,B b->b<w.heap.size)->ku B (λ_=>False) w args vs ->
  Calls P f vs.toArray w (λe w'=>∃ v,e = .returned v/\Below w.heap.size w w'/\iO B (λ_=>True) w' jk v)
def nu(w:World)(v:Value)(T:TypeId)(n sz:Nat)(f:Nat->Nat->Value)(nl:Bool):Prop:=
 (v = .slice none 0 0/\n=0) \/
 ∃ (b ofs c:Nat) (cur:Array Value),v = .slice (some ⟨b,ofs,none⟩) n c/\w.heap[b]? = some (.cells cur T (0,0))/\n<=c/\c<=maxLen/\ofs+c*sz<=cur.size /\
  (∀ i j,i<n->j<sz->cur[ofs+(i*sz+j)]? = some (f i j)/\(f i j).oneCell'=true)/\(nl=true->∀ u,u ∈ cur->qs u=false)
structure wD(P:Program)(K:World->Prop)(f:FuncId)(args:List E)(nl:Bool)(T:TypeId)(n sz:Nat)(el:Nat->Nat->E):Prop where
 call:∀ (vs:Array Value) (w:World),(callFunc f vs).run P w = .ok (.enter f vs) w
 run:∀ (w:World) (B:Nat->Prop) (vs:List Value),K w->(∀ b,B b->b<w.heap.size/\oL w b)->ku B (λ_=>False) w args vs ->
  Calls P f vs.toArray w (λe w'=>∃ v,e = .returned v/\Below w.heap.size w w'/\∃ g,nu w' v T n sz g nl/\(∀ x,v.ownBlock=some x->w.heap.size<=x/\x<w'.heap.size) /\
   ∀ i j,i<n->j<sz->iO (λb=>B b\/v.ownBlock=some b) (λ_=>True) w' (el i j) (g i j)/\(el i j).nr 2=true)
structure Lk where
 mE:Nat->Prop
 own:Nat->Nat->Prop
 val:Nat->Value
 iQ:Nat->Nat->Value
def xG(bs br:Nat->Prop)(L:Lk)(w:World)(id:Nat)(nl:Bool)(T1 T0:TypeId)(n sz:Nat)(len:Nat->Nat)(el:Nat->Nat->Nat->E)(pend:Option Nat):Prop:=∃ (b ofs c:Nat) (cur:Array Value) (f:Nat->Nat->Nat->Value),L.val id = .slice (some ⟨b,ofs,none⟩) n c/\w.heap[b]? = some (.cells cur T1 (0,0))/\n<=c/\c<=maxLen/\ofs+c<=cur.size /\
 (∀ k,k<n->pend≠some k->cur[ofs+k]? = some (L.iQ id k))/\(∀ u,u ∈ cur->qs u=false) /\
 (∀ k,k<n->nu w (L.iQ id k) T0 (len k) sz (f k) nl/\∀ i j,i<len k->j<sz->iO bs br w (el k i j) (f k i j)/\(el k i j).nr 2=true) /\
 (∀ x,L.own id x↔x=b\/∃ k,k<n/\(L.iQ id k).ownBlock=some x) /\
 (∀ k k' x,k<n->k'<n->(L.iQ id k).ownBlock=some x->(L.iQ id k').ownBlock=some x->k=k')/\(∀ k,k<n->(L.iQ id k).ownBlock≠some b)
structure yJ(P:Program)(K:World->Prop)(f:FuncId)(args:List E)(nl:Bool)(T1 T0:TypeId)(n sz:Nat)(len:Nat->Nat)(el:Nat->Nat->Nat->E):Prop where
 call:∀ (vs:Array Value) (w:World),(callFunc f vs).run P w = .ok (.enter f vs) w
 run:∀ (w:World) (B:Nat->Prop) (vs:List Value),K w->(∀ b,B b->b<w.heap.size/\oL w b)->ku B (λ_=>False) w args vs ->
  Calls P f vs.toArray w (λe w'=>∃ L:Lk,e = .returned (L.val 0)/\Below w.heap.size w w'/\(∀ x,L.own 0 x->w.heap.size<=x/\x<w'.heap.size) /\
   ((L.val 0 = .slice none 0 0/\n=0/\∀ x,¬L.own 0 x)\/xG (λb=>B b\/L.own 0 b) (λ_=>True) L w' 0 nl T1 T0 n sz len el none))
structure OG(w:World)(b:Nat)(w':World):Prop where
 os:w'.os=w.os
 tape:w'.tape=w.tape
 output:w'.output=w.output
 size:w.heap.size<=w'.heap.size
 oE:∀ x,x<w.heap.size->x≠b->w'.heap[x]? = w.heap[x]?
structure wC(P:Program)(K:World->Prop)(f:FuncId)(T:TypeId)(l l':List E)(args:List E)(jk:E):Prop where
 call:∀ (vs:Array Value) (w:World),(callFunc f vs).run P w = .ok (.enter f vs) w
 run:∀ (w:World) (B:Nat->Prop) (b:Nat) (cs vs:List Value),(∀ w',OG w b w'->K w')->(∀ x,B x->x<w.heap.size/\oL w x)->B b->w.heap[b]? = some (.cells cs.toArray T (0,0))->(∀ u,u ∈ cs->u.oneCell'=true) ->
  ku B (λ_=>False) w l cs->ku B (λ_=>False) w args vs ->
  Calls P f (.pointer (some ⟨b,0,none⟩)::vs).toArray w (λe w'=>∃ v cs',e = .returned v/\OG w b w'/\w'.heap[b]? = some (.cells (List.toArray cs') T (0,0))/\(∀ u,u ∈ cs'->u.oneCell'=true) /\
   ku B (λ_=>True) w' l' cs'/\iO B (λ_=>True) w' jk v)
structure qY where
 cl:List<|Nat×E:=[]
 ov:List<|Nat×PV:=[]
 nw:List<|Nat×Bx:=[]
 gi:List<|Nat×Value:=[]
 mu:List<|Nat×(List E×E):=[]
def Kf(T:List TI):List Field->Option (List<|Nat×Nat)
 | []=>some []
 |f::fs=>match mA T f.type,Kf T fs with
  |some ti,some l=>some<|(f.offset,ti.i.size)::l
  |_,_=>none
def A4(l:List E)(off:Nat)(m:List E):List E:=l.take off++m++l.drop (off+m.length)
def tI(σ:PS)(place:Nat->Option (Nat×Nat)):List E->List (Nat×Operand)->Option (List E)
 |l,[]=>some l
 |l,(i,x)::ps=>match place i,σ.op x with
  |some (off,size),.e e=>match e.cells? with
   |some m=>if Nat.beq m.length size&&Nat.ble (off+m.length) l.length then tI σ place (A4 l off m) ps else none
   |none=>none
  |_,_=>none
def Bc(ti:TI):Option<|List E:=match ti.i.zero with
 |some z=>(E.v z).cells?
 |none=>none
def kJ{α:Type}:Nat->List α->List α
 | 0,_=>[]
 |n+1,l=>l++kJ n l
def mP(P:Program)(op:BinOp)(t:TypeId)(x y:E)(v:Value):Prop:=∀ (bs br:Nat->Prop) (w:World) (a b:Value) (ox oy:Operand),iO bs br w x a->iO bs br w y b->(eqGuard op t ox oy a b).run P w = .ok () w/\(binOp op t a b).run P w = .ok v w
def ai9(O:qY)(d:Option Tmp):Option Value:=match d with
 |some d=>match look O.cl d with
  |some (.v v)=>some v
  |_=>none
 |none=>none
def ai7(O:qY)(d:Option Tmp):Option Value:=match d with
 |some d=>look O.gi d
 |none=>none
def OF(e:E):Prop:=∀ (bs bs' br:Nat->Prop) (w:World) (v:Value),(∀ x,bs' x->bs x\/oL w x)->iO bs br w e v->iO bs' br w e v
def ub(σ:PS)(d:Nat)(b:Bx):mK:=match σ.bo d with
 |none=>.new d b
 |some _=>.yB d b
def zB(σ:PS)(d:Nat)(is:List Nat):List Nat:=match σ.bo d with
 |none=>is
 |some _=>d::is
def TP(n sz:Nat)(el:Nat->Nat->E):Prop:=∀ i j,i<n->j<sz->OF (el i j)
def CM(P:Program)(K:World->Prop)(O:qY)(σ:PS)(d:Option Tmp)(f:FuncId)(xs:List E)(is:List Nat)(ow:Bool):Option kN:=
 match(match d with
  |some d=>look O.cl d
  |none=>some .any)with
 |some jk=>if jk.plain 3||(σ.nl && !ow)then some { r:=.e jk,rb:=is,jG:=[PC P K f xs jk] }else if !ow then some { r:=.e jk,rb:=is,jG:=[KX P K f xs jk] }
  else if σ.nl then some { r:=.e jk,rb:=is,jG:=[PC P K f xs jk,OF jk] }else none
 |none=>match d with
  |some d=>match look O.nw d with
   |some (.row nl T n sz el)=>if σ.nl&&nl then some { r:=.own d,f:=ub σ d<|.row nl T n sz el,rb:=zB σ d is,jG:=wD P K f xs nl T n sz el::(if ow then[TP n sz el]else[]) }else none
   |some (.iM nl T1 T0 n sz len el none)=>if σ.nl&&nl && !ow then some { r:=.own d,f:=ub σ d<|.iM nl T1 T0 n sz len el none,rb:=zB σ d is,jG:=[yJ P K f xs nl T1 T0 n sz len el] }else none
   |_=>none
  |none=>none
def ai8(O:qY):Option Tmp->Option (List E×E)
 |some d=>look O.mu d
 |none=>none
def CN(P:Program)(K:World->Prop)(σ:PS)(fv:PV)(xs:List Operand)(l':List E)(jk:E):Option kN:=match fv,xs with
 | .e (.fn g []),x::xs=>match σ.op x with
  | .box id 0=>match σ.bo id,uU σ xs with
   |some (.cells T l),some (es,is)=>if σ.nl&&l'.all E.mf && !((xs.map σ.op).any<|PV.vX σ)then some { r:=.e jk,f:=.pC id<|.cells T l',rb:=id::is,jG:=[wC P K g T l l' es jk] }else none
   |some (.nN T b l),some (es,is)=>if σ.nl&&l'.all E.mf && !((xs.map σ.op).any<|PV.vX σ)then some { r:=.e jk,f:=.pC id<|.nN T b l',rb:=id::is,jG:=[wC P K g T l l' es jk] }else none
   |_,_=>none
  |_=>none
 |_,_=>none
def B7(σ:PS)(d:Option Tmp)(b:Bx)(r:Nat->PV)(jG:List Prop):Option kN:=match d with
 |some d=>match σ.bo d with
  |none=>if !σ.nl||b.nl then some { r:=r d,f:=.new d b,jG:=jG }else none
  |some _=>none
 |none=>none
def PV.OW:PV->Option (Bool×Nat×Nat×(Nat->Nat->E))
 | .e (.sl nl n sz el)=>some (nl,n,sz,el)
 | .e (.lJ true nl n sz el)=>some (nl,n,sz,el)
 |_=>none
def Dk(σ:PS)(d:Option Tmp)(b:Bx)(r:Nat->PV):Option kN:=match d with
 |some d=>if !σ.nl||b.nl then some { r:=r d,f:=ub σ d b,rb:=zB σ d [] }else none
 |none=>none
section
variable(T:List TI)(σ:PS)(d:Option Tmp)(t:TypeId)(s x:PV)
def CL:Option kN:=match x.OW with
 |some (nl2,m,sz2,el2)=>match mA T t with
  |some tt=>match tt.d with
   | .slice e=>match mA T e with
    |some te=>match Bc te with
     |some z=>if Nat.beq te.i.size sz2&&Nat.ble 1 sz2&&Nat.ble 1 te.i.bytes&&Nat.beq z.length sz2 then match s with
      | .own id=>match σ.bo id with
       |some (.row nl T1 n sz el)=>if Nat.beq T1 e&&Nat.beq sz sz2&&(!σ.nl||(nl&&(nl2&&z.all E.mf)))then
        some { r:=.own id,f:=.pD id<|.row (nl&&(nl2&&z.all E.mf)) T1 (n+m) sz λi j=>if i<n then el i j else el2 (i-n) j,rb:=[id],jG:=[(n+m)*te.i.bytes<=140737488355328] }
        else none
       |_=>none
      | .iQ id k=>match σ.bo id with
       |some (.iM nl T1 T0 n sz len el none)=>if Nat.beq T0 e&&Nat.beq sz sz2&&(!nl||(nl2&&z.all E.mf))then
        some { r:=.iQ id k,f:=.tf id<|.iM nl T1 T0 n sz (λq=>if q=k then len q+m else len q) (λq i j=>if q=k then(if i<len q then el q i j else el2 (i-len q) j)else el q i j)<|some k,rb:=[id],jG:=[k<n,(len k+m)*te.i.bytes<=140737488355328] }
        else none
       |_=>none
      | .e (.v<|.slice none 0 0)=>B7 σ d (.row (nl2&&z.all E.mf) e m sz2 el2) .own [m*te.i.bytes<=140737488355328]
      |_=>none
     else none
     |none=>none
    |none=>none
   |_=>none
  |none=>none
 |_=>none
def D5:Option kN:=match CL T { σ with nl:=false } d t s x with
 |some u=>match u.f,u.r with
  | .pD id (.row nl _ n sz el),.own id'=>if Nat.beq id' id then some { r:=.e<|.sl nl n sz el,f:=.fin id,rb:=u.rb,jG:=True::u.jG }else none
  |_,_=>none
 |none=>none
end
def PV.GW:PV->Option Nat
 | .own q=>some q
 |_=>none
def Du(σ:PS):List (Nat×Operand)->Option Nat
 | [(0,x)]=>(σ.op x).GW
 |_=>none
section
variable(T:List TI)
def Ls(t:TypeId):Option<|TypeId×Nat:=match mA T t with
 |some tt=>match tt.d with
  | .slice e=>match mA T e with
   |some te=>match Bc te with
    |some [z]=>if Nat.beq te.i.size 1&&Nat.ble 1 te.i.bytes&&z.mf then some (e,te.i.bytes)else none
    |_=>none
   |none=>none
  |_=>none
 |none=>none
section
variable(σ:PS)(d:Option Tmp)(t:TypeId)
def D8(n q:Nat):Option kN:=match d with
 |some id=>match σ.bo id,σ.bo q,Ls T t with
  |none,some<|.row nl T0 m sz el,some (e,_)=>if Nat.beq n 1 && !Nat.beq id q then
   some { r:=.own id,f:=.py id q<|.iM nl e T0 1 sz (λ_=>m) (λ_=>el) none,rb:=[id,q] }else none
  |_,_,_=>none
 |none=>none
def D6(s:PV)(q:Nat):Option kN:=match σ.bo q,Ls T t with
 |some (.iM nl2 T2 T0 m sz len2 el2 none),some (e,by_)=>match s,d with
  | .own id,_=>match σ.bo id with
   |some (.iM nl T1 T0' n sz' len el none)=>if Nat.beq T1 e&&Nat.beq T2 e&&Nat.beq T0' T0&&Nat.beq sz' sz && !Nat.beq id q then
    some { r:=.own id,f:=.py id q<|.iM (nl&&nl2) T1 T0 (n+m) sz (λk=>if k<n then len k else len2 (k-n)) (λk=>if k<n then el k else el2 (k-n)) none,rb:=[id,q],jG:=[0<m,(n+m)*by_<=140737488355328] }else none
   |_=>none
  | .e (.v<|.slice none 0 0),some id=>match σ.bo id with
   |none=>if Nat.beq T2 e && !Nat.beq id q then
    some { r:=.own id,f:=.py id q<|.iM nl2 T2 T0 m sz len2 el2 none,rb:=[id,q],jG:=[0<m,m*by_<=140737488355328] }else none
   |_=>none
  |_,_=>none
 |_,_=>none
end
def Wk(t:TypeId)(l c:PV):Option<|Bx×List Prop:=match l,c with
 | .e (.v<|.int _ l),.e (.v<|.int _ c)=>match mA T t with
  |some tt=>match tt.d with
   | .slice e=>match mA T e with
    |some te=>match Bc te with
     |some z=>if Nat.beq te.i.size z.length&&Nat.ble 1 te.i.size then
      let jG:=[0<=l/\l<=c,(te.i.bytes:Int)*c<=281474976710656/\c<=9223372036854775807]
      match te.d with
      | .slice e0=>match mA T e0,z with
       |some t0,[.v<|.slice none 0 0]=>some (.iM true e e0 l.toNat t0.i.size (λ_=>0) (λ_ _ _=>.any) none,jG)
       |_,_=>none
      |_=>some (.row (z.all E.mf) e l.toNat te.i.size λ_ j=>z.getD j .any,jG)
      else none
     |none=>none
    |none=>none
   |_=>none
  |none=>none
 |_,_=>none
def LV(σ:PS)(d:Option Tmp)(t:TypeId)(l c:PV):Option kN:=match Wk T t l c with
 |some (b,jG)=>B7 σ d b .own jG
 |none=>none
def D7(σ:PS)(t:TypeId)(id:Nat)(lo hi:Option PV):Option kN:=match mA T t with
 |some tt=>match tt.d with
  | .slice e=>match mA T e with
   |some te=>match σ.bo id with
    |some (.row nl T1 n sz el)=>match lo,hi with
     |some (.e<|.v<|.int _ l),none=>if Nat.beq te.i.size sz then some { r:=.own id,f:=.pD id<|.row nl T1 (n-l.toNat) sz λi j=>el (l.toNat+i) j,rb:=[id],jG:=[0<=l/\l<=n] }else none
     |_,_=>none
    |_=>none
   |none=>none
  |_=>none
 |none=>none
def LW(t:TypeId)(x:PV)(lo hi:Option PV):Option kN:=match x with
 | .e (.sl nl n sz el)=>match mA T t with
  |some tt=>match tt.d with
   | .slice e=>match mA T e with
    |some te=>if Nat.beq te.i.size sz then match lo,hi with
     |none,some (.e<|.v<|.int _ h)=>some { r:=.e<|.sl nl h.toNat sz el,jG:=[0<=h/\h<=n] }
     |some (.e<|.v<|.int _ l),none=>some { r:=.e<|.sl nl (n-l.toNat) sz λi j=>el (l.toNat+i) j,jG:=[0<=l/\l<=n] }
     |some (.e<|.v<|.int _ l),some (.e<|.v<|.int _ h)=>some { r:=.e<|.sl nl (h.toNat-l.toNat) sz λi j=>el (l.toNat+i) j,jG:=[0<=l/\l<=h/\h<=n] }
     |_,_=>none
     else none
    |none=>none
   |_=>none
  |none=>none
 | .e (.lJ fl nl n sz el)=>match mA T t with
  |some tt=>match tt.d with
   | .slice e=>match mA T e with
    |some te=>if Nat.beq te.i.size sz then match lo,hi with
     |none,some (.e<|.v<|.int _ h)=>some { r:=.e<|.lJ fl nl h.toNat sz el,jG:=[0<=h/\h<=n] }
     |some (.e<|.v<|.int _ l),none=>some { r:=.e<|.lJ fl nl (n-l.toNat) sz λi j=>el (l.toNat+i) j,jG:=[0<=l/\l<=n] }
     |some (.e<|.v<|.int _ l),some (.e<|.v<|.int _ h)=>some { r:=.e<|.lJ fl nl (h.toNat-l.toNat) sz λi j=>el (l.toNat+i) j,jG:=[0<=l/\l<=h/\h<=n] }
     |_,_=>none
     else none
    |none=>none
   |_=>none
  |none=>none
 |_=>none
def LR(σ:PS)(t:TypeId)(x i:PV):Option kN:=match i with
 | .e (.v<|.int _ z)=>match mA T t with
  |some tt=>match tt.d with
   | .slice e=>match mA T e with
    |some te=>match x with
     | .e (.sl _ n sz el)=>if Nat.beq te.i.size sz&&Nat.ble 1 sz then some { r:=.e<|.jK sz<|el z.toNat,jG:=[0<=z/\z<n] }else none
     | .e (.lJ _ _ n sz el)=>if Nat.beq te.i.size sz&&Nat.ble 1 sz then some { r:=.e<|.jK sz<|el z.toNat,jG:=[0<=z/\z<n] }else none
     | .own id=>match σ.bo id with
      |some (.row _ _ n sz _)=>if Nat.beq te.i.size sz then some { r:=.oI id sz z.toNat 0,rb:=[id],jG:=[0<=z/\z<n] }else none
      |some (.iM _ _ _ n _ _ _ _)=>if Nat.beq te.i.size 1 then some { r:=.oI id 1 z.toNat 0,rb:=[id],jG:=[0<=z/\z<n] }else none
      |some (.A8 _ _ _ n _ _ _ _ _)=>if Nat.beq te.i.size 1 then some { r:=.oI id 1 z.toNat 0,rb:=[id],jG:=[0<=z/\z<n] }else none
      |_=>none
     | .iQ id k=>match σ.bo id with
      |some (.iM _ _ _ n sz len _ _)=>if Nat.beq te.i.size sz then some { r:=.rB id sz k z.toNat 0,rb:=[id],jG:=[k<n,0<=z/\z<len k] }else none
      |_=>none
     |_=>none
    |none=>none
   | .array n e=>match mA T e with
    |some te=>match x with
     | .box id off=>some { r:=.box id<|off+z.toNat*te.i.size,jG:=[0<=z/\z<n] }
     | .e (.jK m el)=>if Nat.beq (n*te.i.size) m then some { r:=.e<|.jK te.i.size λj=>el<|z.toNat*te.i.size+j,jG:=[0<=z/\z<n] }else none
     |_=>none
    |none=>none
   |_=>none
  |none=>none
 |_=>none
end
def Fg(l:List PV)(off:Nat)(m:List PV):List PV:=l.take off++m++l.drop (off+m.length)
def Bx.YR:Bx->Bool
 | .row ..=>true
 | .iM ..=>true
 |_=>false
section
variable(ti:TI)(bi bq:Option Bx)(id off q:Nat)
def LZ:Option kN:=match bi,bq with
 |some (.cells T1 [_]),some (.row nl T0 n sz el)=>if(!Nat.beq id q&&Nat.beq ti.i.size 1)&&Nat.beq off 0 then
  some { r:=.e .any,f:=.py id q<|.iM nl T1 T0 1 sz (λ_=>n) (λ_=>el) none,rb:=[id,q] }else none
 |_,_=>none
def LY:Option kN:=match bi,bq with
 |some (.qn nl T1 l),some b=>if b.YR&&Nat.beq ti.i.size 1&&Nat.blt off l.length then
  some { r:=.e .any,f:=.pC id<|.qn nl T1<|Fg l off [.own q],rb:=[id,q] }else none
 |_,_=>none
def FW:Option kN:=match LZ ti bi bq id off q with
 |some u=>some u
 |none=>LY ti bi bq id off q
end
def pf(c r q:Nat):Nat:=if q=c then r else if q=r then c else q
def LX(T:List TI)(σ:PS)(t:TypeId)(a x:PV):Option kN:=match mA T t with
 |some ti=>match a,x with
  | .box id off,.e e=>match σ.bo id,e.cells? with
   |some (.cells T1 l),some m=>if Nat.beq m.length ti.i.size&&Nat.ble (off+m.length) l.length&&(!σ.nl||m.all E.mf)then
    some { r:=.e .any,f:=.pC id<|.cells T1<|A4 l off m,rb:=[id] }else none
   |some (.qn nl T1 l),some m=>if Nat.beq m.length ti.i.size&&Nat.ble (off+m.length) l.length&&(!nl||m.all E.mf)then
    some { r:=.e .any,f:=.pC id<|.qn nl T1<|Fg l off<|m.map .e,rb:=[id] }else none
   |some (.nN T1 b l),some m=>if Nat.beq m.length ti.i.size&&Nat.ble (off+m.length) l.length&&(!σ.nl||m.all E.mf)then
    some { r:=.e .any,f:=.pC id<|.nN T1 b<|A4 l off m,rb:=[id] }else none
   |_,_=>none
  | .box id off,.own q=>FW ti (σ.bo id) (σ.bo q) id off q
  | .oI id sz i j,.e e=>match σ.bo id,e.cells? with
   |some (.row nl T1 n s el),some m=>if Nat.beq m.length ti.i.size&&Nat.beq s sz&&Nat.ble (j+m.length) sz&&(!nl||m.all E.mf)&&m.all (E.nr 2)then
    some { r:=.e .any,f:=.pC id<|.row nl T1 n s λi' j'=>if i'=i/\j<=j'/\j'<j+m.length then m.getD (j'-j) .any else el i' j',rb:=[id],jG:=[i<n] }else none
   |_,_=>none
  | .oI id 1 i 0,.iQ id' k=>match σ.bo id with
   |some (.iM nl T1 T0 n sz len el<|some k')=>if Nat.beq id id'&&Nat.beq ti.i.size 1 then
    some { r:=.e .any,f:=.pC id<|.iM nl T1 T0 n sz len el none,rb:=[id],jG:=[i=k',k=k',k'<n] }else none
   |some (.iM nl T1 T0 n sz len el none)=>if Nat.beq id id'&&Nat.beq ti.i.size 1 then
    some { r:=.e .any,f:=.pC id<|.A8 nl T1 T0 n sz len el i k,rb:=[id],jG:=[i<n,k<n] }else none
   |some (.A8 nl T1 T0 n sz len el c r)=>if Nat.beq id id'&&Nat.beq ti.i.size 1 then
    some { r:=.e .any,f:=.tf id<|.iM nl T1 T0 n sz (λq=>len<|pf c r q) (λq=>el<|pf c r q) none,rb:=[id],jG:=[i=r,k=c] }else none
   |_=>none
  | .rB id sz k i j,.e e=>match σ.bo id,e.cells? with
   |some (.iM nl T1 T0 n s len el pd),some m=>if Nat.beq m.length ti.i.size&&Nat.beq s sz&&Nat.ble (j+m.length) sz&&(!nl||m.all E.mf)&&m.all (E.nr 2)then
    some { r:=.e .any,f:=.pC id<|.iM nl T1 T0 n s len (λk' i' j'=>if k'=k/\i'=i/\j<=j'/\j'<j+m.length then m.getD (j'-j) .any else el k' i' j') pd,rb:=[id],jG:=[k<n,i<len k] }else none
   |_,_=>none
  |_,_=>none
 |none=>none
def uw:PV->PS->Option (Value×List Nat)
 | .e (.lJ _ _ n _ _),_=>some (.int .i64 (n:Int),[])
 | .e (.sl _ n _ _),_=>some (.int .i64 (n:Int),[])
 | .e (.v<|.slice _ n _),_=>some (.int .i64 (n:Int),[])
 | .own id,σ=>match σ.bo id with
  |some (.row _ _ n _ _)=>some (.int .i64 (n:Int),[id])
  |some (.iM _ _ _ n _ _ _ _)=>some (.int .i64 (n:Int),[id])
  |_=>none
 | .iQ id k,σ=>match σ.bo id with
  |some (.iM _ _ _ n _ len _ _)=>if Nat.blt k n then some (.int .i64 (len k:Int),[id])else none
  |_=>none
 |_,_=>none
def Dh(ti:TI):Option (List E×List Nat×List Prop)->Option kN
 |some (l,is,jG)=>if ti.isAgg then some { r:=.e<|.agg l,rb:=is,jG:=jG }else match l with
  | [e]=>some { r:=.e e,rb:=is,jG:=jG }
  |_=>none
 |none=>none
def Fk(σ:PS):PV->Option (Nat×Nat×Nat)
 | .oI id sz i j=>match σ.bo id with
  |some (.iM _ _ _ n _ _ _ none)=>if Nat.beq sz 1&&Nat.beq j 0 then some (id,i,n)else none
  |_=>none
 |_=>none
def Ni:List PV->Nat->Option Nat
 | [],_=>none
 | .own q::_,0=>some q
 |_::_,0=>none
 |_::l,n+1=>Ni l n
def Ea(σ:PS):PV->Option (Nat×Nat)
 | .box id off=>match σ.bo id with
  |some (.qn _ _ l)=>(Ni l off).map λq=>(id,q)
  |_=>none
 |_=>none
def LU(ti:TI)(σ:PS)(p:PV):Option kN:=match Fk σ p with
 |some (id,i,n)=>if ti.isAgg then none else some { r:=.iQ id i,rb:=[id],jG:=[i<n] }
 |none=>Dh ti<|σ.read p ti.i.size
def LS(T:List TI)(σ:PS)(t:TypeId)(p:PV):Option kN:=match mA T t with
 |some ti=>match Ea σ p with
  |some (id,q)=>if ti.isAgg then none else some { r:=.own q,rb:=[id] }
  |none=>LU ti σ p
 |none=>none
def La(O:qY):Option Tmp->Bool
 |some d=>(look O.nw d).isSome
 |none=>false
def AR:List (Int×FuncId×List FuncId)->Int->Option E
 | [],_=>none
 |x::l,z=>if x.1=z then some (.fn x.2.1<|x.2.2.map λg=>.jK 1 λ_=>.fn g [])else AR l z
def ai6(O:qY):Option Tmp->Option E
 |some d=>look O.cl d
 |none=>none
def jR(P:Program)(K:World->Prop)(T:List TI)(O:qY)(σ:PS)(o:Oper):Option kN:=match o.op with
 | .move x=>some { r:=σ.op x }
 | .assign x=>some { r:=σ.op x }
 | .pick c a b=>match σ.op c with
  | .e (.v<|.bool true)=>some { r:=σ.op a }
  | .e (.v<|.bool false)=>some { r:=σ.op b }
  |_=>none
 | .alloc t=>match mA T t with
  |some ti=>match Bc ti with
   |some z=>Dk σ o.dst (.cells t z) (.box · 0)
   |none=>none
  |none=>none
 | .box t x=>match σ.op x with
  | .e e=>match e.cells? with
   |some l=>Dk σ o.dst (.cells t l) (.box · 0)
   |none=>none
  |_=>none
 | .build t ps=>match mA T t with
  |some ti=>match Bc ti with
   |some z=>match ti.d with
    | .struct fs=>match Kf T fs.toList with
     |some pl=>(tI σ (λi=>pl[i]?) z ps.toList).map λl=>{ r:=.e<|.agg l }
     |none=>none
    | .array _ e=>match mA T e with
     |some te=>(tI σ (λi=>some (i*te.i.size,te.i.size)) z ps.toList).map λl=>{ r:=.e<|.agg l }
     |none=>none
    |_=>none
   |none=>none
  |none=>none
 | .buildSlice t n ps=>match Du σ ps.toList with|some q=>D8 T σ o.dst t n q|none=>match mA T t with
  |some tt=>match tt.d with
   | .slice e=>match mA T e with
    |some te=>match Bc te with
     |some z=>if Nat.beq z.length te.i.size&&Nat.ble 1 te.i.size&&Nat.ble (n*te.i.size) 16777216 then
      (tI σ (λi=>some (i*te.i.size,te.i.size)) (kJ n z) ps.toList).bind λl=>
       if !(l.all<|E.nr 2)then none else if La O o.dst then B7 σ o.dst (.row (l.all E.mf) e n te.i.size λi j=>l.getD (i*te.i.size+j)<|.v<|.bool false) .own [True]
       else if l.all E.mf then some { r:=.e<|.sl true n te.i.size λi j=>l.getD (i*te.i.size+j)<|.v<|.bool false }
       else some { r:=.e<|.sl false n te.i.size λi j=>l.getD (i*te.i.size+j)<|.v<|.bool false }
      else none
     |none=>none
    |none=>none
   |_=>none
  |none=>none
 | .load t a=>LS T σ t<|σ.op a
 | .store t a x=>LX T σ t (σ.op a)<|σ.op x
 | .nilCheck x=>match σ.op x with
  | .box id off=>some { r:=.box id off }
  | .e (.jK m el)=>some { r:=.e<|.jK m el }
  | .e (.fn f c)=>some { r:=.e<|.fn f c }
  | .rq f c=>some { r:=.rq f c }
  |_=>none
 | .binOp op t x y _=>match σ.op x,σ.op y with
  | .e (.v<|.int k a),.e (.v<|.int k' b)=>
   match ai7 O o.dst with
   |some v=>some { r:=.e<|.v v,jG:=[mP P op t (.v<|.int k a) (.v<|.int k' b) v] }
   |none=>if acb op k k' then(PQ op k a b).map λr=>{ r:=.e<|.v r.1,jG:=r.2 }else none
  | .e (.v<|.bool a),.e (.v<|.bool b)=>match yS T t with
   |some .bool=>match op with
    | .eql=>some { r:=.e<|.v<|.bool<|a==b }
    | .neq=>some { r:=.e<|.v<|.bool<|!(a==b) }
    |_=>none
   |_=>none
  | .e (.sl _ n _ _),.e (.v<|.slice none 0 0)=>match yS T t with
   |some (.slice _)=>match op with
    | .eql=>some { r:=.e<|.v<|.bool false,jG:=[0<n] }
    | .neq=>some { r:=.e<|.v<|.bool true,jG:=[0<n] }
    |_=>none
   |_=>none
  | .e a,.e b=>match ai9 O o.dst with
   |some v=>some { r:=.e<|.v v,jG:=[mP P op t a b v] }
   |none=>none
  |_,_=>none
 | .unOp op _ x=>match op,σ.op x with
  | .not,.e (.v<|.bool b)=>some { r:=.e<|.v<|.bool<|!b }
  | .neg,.e (.v<|.int k z)=>some { r:=.e<|.v<|.int k<|0-z,jG:=[kC k<|0-z] }
  |_,_=>none
 | .convert src dst x=>match yS T dst,mA T src,σ.op x with
  |some (.int k),some _,.e (.v<|.int _ z)=>some { r:=.e<|.v<|.int k<|k.wrap z }
  |_,_,_=>none
 | .makeFunc (.func f) first cap=>if first.isEmpty then match yP (cap.toList.map σ.op)with
  |some l=>some { r:=.rq f l }
  |none=>none
  else none
 | .makeSlice t l c=>LV T σ o.dst t (σ.op l)<|σ.op c
 | .slice t x lo hi none=>match σ.op x with | .own id=>D7 T σ t id (lo.map σ.op) (hi.map σ.op)|y=>LW T t y (lo.map σ.op)<|hi.map σ.op
 | .fieldAddr t x f=>match yS T t with
  |some (.struct fs)=>match fs[f]? with
   |some fd=>match mA T fd.type with
    |some ft=>if Nat.beq ft.i.size 0 then none else match σ.op x with
     | .box id off=>some { r:=.box id<|off+fd.offset }
     | .oI id sz i j=>some { r:=.oI id sz i<|j+fd.offset }
     | .rB id sz k i j=>some { r:=.rB id sz k i<|j+fd.offset }
     | .e (.jK m el)=>if Nat.ble fd.offset m then some { r:=.e<|.jK (m-fd.offset) λj=>el<|fd.offset+j }else none
     |_=>none
    |none=>none
   |none=>none
  |_=>none
 | .indexAddr t x i=>LR T σ t (σ.op x)<|σ.op i
 | .index t x i=>match σ.op x,σ.op i with
  | .e (.agg l),.e (.v<|.int _ z)=>match mA T t with
   |some tt=>match tt.d with
    | .array n e=>match mA T e with
     |some te=>if te.isAgg&&Nat.beq (n*te.i.size) l.length then some { r:=.e<|.agg<|(l.drop<|z.toNat*te.i.size).take te.i.size,jG:=[0<=z/\z<n] }else none
     |none=>none
    |_=>none
   |none=>none
  |_,_=>none
 | .field t x f=>match σ.op x,yS T t with
  | .e (.agg l),some (.struct fs)=>match fs[f]? with
   |some fd=>match mA T fd.type with
    |some ft=>if ft.isAgg then none else match l[fd.offset]? with
     |some e=>some { r:=.e e }
     |none=>none
    |none=>none
   |none=>none
  |_,_=>none
 | .lookup t x i false=>match σ.op x,σ.op i,yS T t with
  | .e (.mp l),.e<|.v<|.int .i64 z,some (.map k _)=>match yS T k,ai6 O o.dst with
   |some (.int .i64),some e=>some { r:=.e e,jG:=[AR l z=some e] }
   |_,_=>none
  |_,_,_=>none
 | .extract x i=>match σ.op x with
  | .e (.iH l)=>match l[i]? with
   |some e=>some { r:=.e e }
   |none=>none
  |_=>none
 | .call c=>match c.callee with
  | .builtin .len=>match c.args.toList,c.argTypes.toList with
   | [x],[t]=>match yS T t with
    |some (.slice _)=>(uw (σ.op x) σ).map λr=>{ r:=.e<|.v r.1,rb:=r.2 }
    |_=>none
   |_,_=>none
  | .builtin .append=>match c.args.toList,c.argTypes.toList with
   | [s,x],[t,t']=>if Nat.beq t t' then(match(σ.op x).GW with|some q=>D6 T σ o.dst t (σ.op s) q|none=>if La O o.dst then D5 T σ o.dst t (σ.op s) (σ.op x)else CL T σ o.dst t (σ.op s) (σ.op x))else none
   |_,_=>none
  | .builtin .max=>match c.args.toList.map σ.op with
   | [.e<|.v<|.int k a,.e<|.v<|.int _ b]=>some { r:=.e<|.v<|.int k<|if b>a then b else a }
   | [.e<|.v<|.int k a,.e<|.v<|.int _ b,.e<|.v<|.int _ z]=>some { r:=.e<|.v<|.int k<|if z>(if b>a then b else a)then z else(if b>a then b else a) }
   |_=>none
  | .builtin .min=>match c.args.toList.map σ.op with
   | [.e<|.v<|.int k a,.e<|.v<|.int _ b]=>some { r:=.e<|.v<|.int k<|if b<a then b else a }
   |_=>none
  | .value f=>match ai8 O o.dst with|some lr=>CN P K σ (σ.op f) c.args.toList lr.1 lr.2|none=>match σ.op f,uU σ c.args.toList with
   | .e (.fn g cap),some (xs,is)=>CM P K O σ o.dst g (xs++cap) is<|(c.args.toList.map σ.op).any<|PV.vX σ
   | .rq g cap,some (xs,is)=>match wP σ cap with
    |some (ys,js)=>CM P K O σ o.dst g (xs++ys) (is++js)<|(c.args.toList.map σ.op).any (PV.vX σ)||cap.any CV.Jv
    |none=>none
   |_,_=>none
  |_=>none
 |_=>none
def jt(L:Lk)(x:Nat):Prop:=∃ id,L.own id x
def bad(B:Nat->Prop)(L:Lk)(x:Nat):Prop:=B x\/jt L x
section
variable(bs br:Nat->Prop)(L:Lk)(w:World)
def yL:CV->Value->Prop
 | .e x,v=>iO bs br w x v
 | .box id,v=>L.mE id/\∃ b,L.val id = .pointer (some ⟨b,0,none⟩)/\v = .pointer (some ⟨b,0,none⟩)
 | .row id,v=>L.mE id/\∃ b ofs n c,L.val id = .slice (some ⟨b,ofs,none⟩) n c/\v = .pointer (some ⟨b,ofs,none⟩)
def kZ:PV->Value->Prop
 | .e x,v=>iO bs br w x v
 | .box id off,v=>L.mE id/\∃ b,L.val id = .pointer (some ⟨b,0,none⟩)/\v = .pointer (some ⟨b,off,none⟩)
 | .own id,v=>L.mE id/\v=L.val id
 | .oI id sz i j,v=>L.mE id/\∃ b ofs n c,L.val id = .slice (some ⟨b,ofs,none⟩) n c/\v = .pointer (some ⟨b,ofs+(i*sz+j),none⟩)
 | .iQ id k,v=>L.mE id/\v=L.iQ id k
 | .rB id sz k i j,v=>L.mE id/\∃ b ofs n c,L.iQ id k = .slice (some ⟨b,ofs,none⟩) n c/\v = .pointer (some ⟨b,ofs+(i*sz+j),none⟩)
 | .rq f cap,v=>∃ vs:List Value,v = .func (.func f) #[] vs.toArray/\vs.length=cap.length/\∀ (i:Nat) (c:CV) (x:Value),cap[i]? = some c->vs[i]? = some x->yL bs br L w c x
end
def PV.le(p q:PV):Prop:=∀ (bs br:Nat->Prop) (L:Lk) (w:World) (v:Value),kZ bs br L w p v->kZ bs br L w q v
abbrev aj(a b:E):Prop:=PV.le (.e a)<|.e b
def wN(P:Program)(K:World->Prop)(T:List TI)(O:qY)(σ:PS)(o:Oper):Option kN:=match jR P K T O σ o with
 |some u=>match o.dst with
  |some d=>match look O.ov d with
   |some p=>some { u with r:=p,jG:=PV.le u.r p::u.jG }
   |none=>some u
  |none=>some u
 |none=>none
def Cr(iq:Array Oper)(σ:PS)(o:Oper):Option Bool:=match o.guard with
 |none=>some true
 |some (j,want)=>match(iq[j]?).bind (·.dst)with
  |some t=>match σ.get t with
   | .e (.v<|.bool true)=>some want
   | .e (.v<|.bool false)=>some<|!want
   | .e (.v<|.tuple _)=>some false
   |_=>none
  |none=>none
def PS.app(σ:PS)(d:Option Tmp)(u:kN):PS:=(σ.oz u.f).put d u.r
def yg(σ:PS):Option Tmp->Bool
 |some d=>Nat.blt d σ.n
 |none=>true
def J9:Op->List Operand
 | .move x | .assign x | .box _ x | .load _ x | .nilCheck x | .unOp _ _ x | .convert _ _ x | .fieldAddr _ x _ | .field _ x _ | .extract x _=>[x]
 | .pick c a b=>[c,a,b]
 | .build _ ps | .buildSlice _ _ ps=>ps.toList.map (·.2)
 | .store _ a v | .binOp _ _ a v _ | .makeSlice _ a v | .indexAddr _ a v | .index _ a v | .lookup _ a v _=>[a,v]
 | .makeFunc _ first captured=>first.toList++captured.toList
 | .slice _ x l h m=>x::(l.toList++h.toList++m.toList)
 | .call c=>(match c.callee with | .value f=>[f] | .invoke r _=>[r] | .builtin _=>[])++c.args.toList
 |_=>[]
def Ho:List Operand->List Tmp
 | []=>[]
 | .tmp t::l=>t::Ho l
 |_::l=>Ho l
def looks(iq:Array Oper)(o:Oper):List Tmp:=Ho (J9 o.op)++(match o.guard with
 |some (g,_)=>((iq[g]?).bind (·.dst)).toList
 |none=>[])
def mK.BS:mK->List Nat
 | .none=>[]
 | .new i _ | .pC i _ | .pD i _ | .tf i _ | .fin i | .yB i _=>[i]
 | .py i r _=>[i,r]
def Bx.pS(f:mK)(b:Bx):Bool:=f.xD&&b.lh.any λr=>f.BS.any λi=>Nat.beq i r
def PS.pS(σ:PS)(f:mK):Bool:=f.xD&&σ.b.any λx=>match σ.bo x.1 with
 |some b=>b.pS f
 |none=>false
def mK.Pv:mK->List Nat
 | .new _ b | .pC _ b | .pD _ b | .tf _ b | .yB _ b | .py _ _ b=>b.lh
 |_=>[]
def mK.id:mK->Option Nat
 | .none=>Option.none
 | .new i _ | .pC i _ | .pD i _ | .tf i _ | .fin i | .py i _ _ | .yB i _=>some i
def PS.zE(σ:PS)(f:mK):List Nat:=match f.id with
 |some i=>(match σ.bo i with
  |some b=>b.lh
  |none=>[])
 |none=>[]
def sF(P:Program)(K:World->Prop)(T:List TI)(O:qY)(iq:Array Oper)(σ:PS)(o:Oper):Option kN:=
 if yg σ o.dst then match Cr iq σ o with
  |some true=>match wN P K T O σ o with
   |some u=>some { u with rd:=(looks iq o).map σ.get,hb:=σ.pS u.f,ob:=σ.zE u.f }
   |none=>none
  |some false=>some { r:=.e<|.v<|.tuple #[],rd:=(looks iq o).map σ.get }
  |none=>none
 else none
def QI(l:List Nat)(n:Nat):Bool:=l.any<|Nat.beq n
def mK.zh:mK->Bool
 | .py ..=>true
 | .yB ..=>true
 |_=>false
def B0:mK->PV->Bool
 | .pD id _,.own i=>!Nat.beq i id
 | .pD id _,.oI i _ _ _=>!Nat.beq i id
 | .pD id _,.rq _ cap=>!cap.any (CV.Jw id)
 | .tf id _,.iQ i _=>!Nat.beq i id
 | .tf id _,.rB i _ _ _ _=>!Nat.beq i id
 | .fin id,p=>!p.lh.any (Nat.beq id)
 |_,_=>true
def zC(l:List Nat):Option Nat->Bool
 |some d=>!QI l d
 |none=>true
def Og:Option Nat->Option Nat->Bool
 |some a,some b=>!Nat.beq a b
 |_,_=>true
def Se:PV->Bool
 | .e .any=>false
 |_=>true
def EI(iq:Array Oper)(x y:Oper×kN):Bool:=
 zC (looks iq y.1) x.1.dst&&Og x.1.dst y.1.dst&&zC (looks iq x.1) y.1.dst &&
 zC y.2.rb x.2.f.id&&zC x.2.rb y.2.f.id&&Og x.2.f.id y.2.f.id&&B0 x.2.f y.2.r&&B0 y.2.f x.2.r &&
 (!x.2.f.xD||y.2.rd.all Se)&&x.2.rd.all (B0 y.2.f) && !x.2.f.zh && !y.2.f.zh &&
 !x.2.hb && !y.2.hb&&zC x.2.ob y.2.f.id&&zC y.2.ob x.2.f.id&&zC x.2.f.Pv y.2.f.id&&zC y.2.f.Pv x.2.f.id
def EM(o:Oper)(i:Nat):Bool:=o.after.toList.any λe=>Region.binds .any e&&Nat.beq e.on i
def DA(iq:Array Oper):Nat->Oper->Nat->Bool
 | 0,o,i=>EM o i
 |n+1,o,i=>EM o i||o.after.toList.any λe=>Region.binds .any e&&(match iq[e.on]? with
  |some z=>DA iq n z i
  |none=>false)
def GX(iq:Array Oper):Nat->List (Oper×kN)->Bool
 |_,[]=>true
 |i,x::l=>x.1.after.toList.all (λe=>!Region.binds .any e||Nat.blt e.on i)&&l.all (λy=>DA iq 3 y.1 i||EI iq x y)&&GX iq (i+1) l
def KJ(σ:PS):PV->Option E
 | .e x=>if x.nr 3 then some x else none
 | .own id=>match σ.bo id with
  |some (.row nl _ n sz el)=>some<|.sl nl n sz el
  |some (.iM nl _ _ n sz len el none)=>some<|.sl true n 1 λk _=>.sl nl (len k) sz<|el k
  |_=>none
 | .iQ id k=>match σ.bo id with
  |some (.iM nl _ _ n sz len el none)=>if Nat.blt k n then some (.sl nl (len k) sz<|el k)else none
  |_=>none
 |_=>none
def Fi(T:List TI)(σ:PS):ResultVar->Option E
 | .tmp t=>KJ σ<|σ.get t
 | .cell a t=>match mA T t with
  |some ti=>match σ.read (σ.get a) ti.i.size with
   |some (l,_,[])=>if ti.isAgg then(if(E.agg l).nr 3 then some (.agg l)else none)else match l with
    | [e]=>if e.nr 3 then some e else none
    |_=>none
   |_=>none
  |none=>none
def Hb(T:List TI)(σ:PS):List ResultVar->Option (List E)
 | []=>some []
 |x::l=>match Fi T σ x,Hb T σ l with
  |some e,some es=>some<|e::es
  |_,_=>none
def Ny(T:List TI)(fn:Func)(σ:PS):Option E:=match Hb T σ fn.results.toList with
 |some [e]=>some e
 |some l=>some<|.iH l
 |none=>none
inductive Ex where
 |normal
 |exit (id:Nat)
 |ret
def IT:Code->Nat
 | .region id _ _=>id
 | .seq a _=>IT a
 | .cond _ a _=>IT a
 | .block _ b=>IT b
 | .loop b=>IT b
 |_=>0
def EK:Nat->List E->List (Nat×PV)
 |_,[]=>[]
 |i,x::l=>(i,.e x)::EK (i+1) l
def BU(fn:Func)(nl:Bool)(args:List E):PS:={ n:=fn.ntmps,nl:=nl,t:=EK 0 args,b:=[] }
def kQ{a b:Nat}:Nat.beq a b=true↔a=b:=⟨Nat.eq_of_beq_eq_true,λh=>by subst h;exact cH a⟩
def cX{a b:Nat}(h:a≠b):Nat.beq a b=false:=by
 cases hb:Nat.beq a b with
 |false=>rfl
 |true=>exact absurd (kQ.1 hb) h
def tn{α:Type}(k:Nat)(x:α)(l:List<|Nat×α)(t:Nat):look ((k,x)::l) t=if k=t then some x else look l t:=by
 by_cases h:k=t
 .subst h;simp[look]
 .simp [look,h,cX h]
def JM{α:Type}(l:List<|Nat×α)(d t:Nat)(h:d≠t):look (l.filter λx=>!Nat.beq x.1 d) t=look l t:=by
 induction l with
 |nil=>rfl
 |cons y l ih=>
  obtain⟨k,x⟩:=y;rw[List.filter_cons];by_cases hk:k=d
  .subst hk;simp only[cH,fI,bJ,bB];rw[ih,tn,bj h]
  .simp only[cX hk,fg,bH];rw[tn,tn,ih]
def MX{α:Type}(l:List<|Nat×α)(f:α->α)(t:Nat):look (l.map λx=>(x.1,f x.2)) t=(look l t).map f:=by
 induction l with
 |nil=>rfl
 |cons y l ih=>
  obtain⟨k,x⟩:=y;rw[eU,tn,tn,ih];split<;>rfl
def PS.Ql(σ:PS)(d:Nat)(p:PV)(t:Nat):(σ.put (some d) p).get t=if d=t then p else σ.get t:=by
 unfold PS.get PS.put;simp only[tn];by_cases h:d=t
 .rw [bk h,bk h];rfl
 .rw [bj h,bj h,JM _ _ _ h]
section
variable(σ:PS)(d:Option Tmp)(p:PV)
def PS.afj(id:Nat):(σ.put d p).bo id=σ.bo id:=by cases d<;>rfl
def PS.R1:(σ.put d p).n=σ.n:=by cases d<;>rfl
def PS.ant:(σ.put d p).nl=σ.nl:=by cases d<;>rfl
end
def EV(l:List<|Nat×Bx)(id:Nat)(b:Bx)(t:Nat):look (vE l id b) t=if id=t then some b else look l t:=by
 unfold vE;rw[tn];by_cases h:id=t
 .rw [bk h,bk h]
 .rw [bj h,bj h,JM _ _ _ h]
def ZP{α:Type}(l:List<|Nat×α)(d:Nat):look (l.filter λx=>!Nat.beq x.1 d) d=none:=by
 induction l with
 |nil=>rfl
 |cons y l ih=>
  obtain⟨k,x⟩:=y;rw[List.filter_cons];by_cases hk:k=d
  .subst hk;simpa only[cH,fI,bJ,bB]using ih
  .simp only[cX hk,fg,bH];rw[tn,bj hk,ih]
def EU{α:Type}(l:List<|Nat×α)(i id:Nat):look (l.filter λx=>!Nat.beq x.1 i) id=if i=id then none else look l id:=by
 by_cases h:i=id
 .subst h;rw[bk rfl];exact ZP _ _
 .rw [bj h];exact JM _ _ _ h
def EY(b:Bx):b.rY (λp=>p)=b:=by cases b<;>simp[Bx.rY]
def ZZ{b:Bx}{g:PV->PV}(h:∀ p,p ∈ b.No->g p=p):b.rY g=b:=by
 cases b with
 |qn nl T l=>
  simp only[Bx.rY,Bx.qn.injEq,fJ]
  conv=>rhs;rw[<-List.map_id l]
  exact dQ h
 |_=>rfl
def EZ(b:Bx)(g:PV->PV):(b.rY g).nl=b.nl:=by cases b<;>rfl
def adz{f:mK}(h:f.xD=false)(p:PV):p.lk f=p:=by
 cases f<;>first|(exact Bool.noConfusion h)|(cases p<;>rfl)
def PS.CC(σ:PS)(f:mK)(i:Nat):look (σ.pre f) i=(σ.bo i).map (Bx.rY<|PV.lk f):=by
 unfold PS.pre PS.bo;by_cases h:f.xD=true
 .rw [bk h,MX]
 .rw [bj h];cases look σ.b i with
  |none=>rfl
  |some b=>simp only[cA];rw[ZZ λp _=>adz (by simpa using h) p]
def PS.Eb(σ:PS)(f:mK)(t:Nat):(σ.oz f).get t=(σ.get t).lk f:=by
 unfold PS.get PS.oz;by_cases h:f.xD=true
 .simp only[h,bH];rw[MX];cases look σ.t t with
  |none=>cases f<;>rfl
  |some p=>rfl
 .have hv:∀ p:PV,p.lk f=p:=by
   intro p;cases f<;>first|exact absurd rfl h|(cases p<;>rfl)
  simp only[h,hv];rfl
def nh(bs br:Nat->Prop)(L:Lk)(w:World)(id:Nat):Bx->Prop
 | .cells T l=>∃ b vs,L.val id = .pointer (some ⟨b,0,none⟩)/\(∀ x,L.own id x↔x=b)/\w.heap[b]? = some (.cells vs.toArray T (0,0))/\ku bs br w l vs/\∀ u,u ∈ vs->u.oneCell'=true
 | .row nl T n sz el=>∃ f:Nat->Nat->Value,nu w (L.val id) T n sz f nl/\(∀ x,L.own id x↔(L.val id).ownBlock=some x)/\∀ i j,i<n->j<sz->iO bs br w (el i j) (f i j)/\(el i j).nr 2=true
 | .iM nl T1 T0 n sz len el pend=>(L.val id = .slice none 0 0/\n=0/\∀ x,¬L.own id x)\/xG bs br L w id nl T1 T0 n sz len el pend
 | .A8 nl T1 T0 n sz len el c r=>xG bs br L w id nl T1 T0 n sz len el (some c)/\c<n/\r<n/\∀ (b ofs m q:Nat),L.val id = .slice (some ⟨b,ofs,none⟩) m q->w.cell? ⟨b,ofs+c,none⟩=some (L.iQ id r)
 | .nN T b l=>∃ vs,L.val id = .pointer (some ⟨b,0,none⟩)/\(∀ x,L.own id x↔x=b)/\w.heap[b]? = some (.cells vs.toArray T (0,0))/\ku bs br w l vs/\∀ u,u ∈ vs->u.oneCell'=true
 | .qn nl T l=>∃ (b:Nat) (vs:List Value),L.val id = .pointer (some ⟨b,0,none⟩)/\(∀ x,L.own id x↔x=b)/\w.heap[b]? = some (.cells vs.toArray T (0,0))/\vs.length=l.length /\
  (∀ (i:Nat) (p:PV) (v:Value),l[i]? = some p->vs[i]? = some v->kZ bs br L w p v)/\∀ u,u ∈ vs->u.oneCell'=true/\(nl=true->qs u=false)
def nh.wm{bs br:Nat->Prop}{L:Lk}{w:World}{id:Nat}{nl:Bool}{T1 T0 n sz:Nat}{len:Nat->Nat}{el:Nat->Nat->Nat->E}{pend:Option Nat}(h:nh bs br L w id<|.iM nl T1 T0 n sz len el pend)(hn:0<n):
 xG bs br L w id nl T1 T0 n sz len el pend:=by
 rcases h with⟨_,h,_⟩|h
 .omega
 .exact h
structure mQ where
 w:World
 ex:Nat->Prop
def mQ.vH(o:mQ)(x:Nat):Prop:=x<o.w.heap.size/\¬o.ex x
structure uS(o:mQ)(w w':World):Prop where
 os:w'.os=w.os
 tape:w'.tape=w.tape
 output:w'.output=w.output
 size:w.heap.size<=w'.heap.size
 block:∀ x,o.vH x->w'.heap[x]? = w.heap[x]?
def uS.refl(o:mQ)(w:World):uS o w w:=⟨rfl,rfl,rfl,bw _,λ_ _=>rfl⟩
def uS.trans{o:mQ}{a b c:World}(h:uS o a b)(k:uS o b c):uS o a c:=⟨k.os.trans h.os,k.tape.trans h.tape,k.output.trans h.output,bA h.size k.size,λx hx=>(k.block x hx).trans<|h.block x hx⟩
def mQ.aaQ{o:mQ}{n x:Nat}(h:o.w.heap.size<=n)(k:n<=x):¬o.vH x:=λh'=>absurd h'.1<|Nat.not_lt.2<|bA h k
structure jh(w0:mQ)(B:Nat->Prop)(σ:PS)(a:Act)(w:World)(L:Lk):Prop where
 hd:a.defers=[]
 hs:a.tmps.size=σ.n
 ht:∀ t,kZ (bad B L) (jt L) L w (σ.get t)<|a.tmps.getD t undef
 hb:∀ id b,σ.bo id=some b->nh (bad B L) (jt L) L w id b
 hv:∀ id,L.mE id↔(σ.bo id).isSome=true
 hn:∀ id x,L.own id x->L.mE id
 hw:∀ id x,L.own id x->¬w0.vH x/\x<w.heap.size
 hi:∀ id id' x,L.own id x->L.own id' x->id=id'
 he:uS w0 w0.w w
 hl:σ.nl=true->∀ id b,σ.bo id=some b->b.nl=true
def uS.below{a w w':World}(h:uS ⟨a,λ_=>False⟩ w w'):Below a.heap.size w w':=⟨h.os,h.tape,h.output,h.size,λx hx=>h.block x ⟨hx,λh=>h⟩⟩
def jh.Yl{a:World}{B:Nat->Prop}{σ:PS}{c:Act}{w:World}{L:Lk}(r:jh ⟨a,λ_=>False⟩ B σ c w L){id x:Nat}(hx:L.own id x):a.heap.size<=x/\x<w.heap.size:=
 ⟨Nat.not_lt.1 λh=>(r.hw id x hx).1 ⟨h,λh=>h⟩,(r.hw id x hx).2⟩
structure rJ(L:Lk)(w:World)(L':Lk)(w':World):Prop where
 size:w.heap.size<=w'.heap.size
 jt:∀ x,x<w.heap.size->Pu.jt L' x->Pu.jt L x
 oE:∀ x,x<w.heap.size->¬Pu.jt L x->w'.heap[x]? = w.heap[x]?
def rJ.kJ{B:Nat->Prop}{L L':Lk}{w w':World}(h:rJ L w L' w'){e:E}{v:Value}(k:iO (bad B L) (Pu.jt L) w e v):iO (bad B L') (Pu.jt L') w' e v:=by
 refine k.mono h.size (λb hb hx=>?_) (λb hb hx=>h.jt b hb hx) λb hb xV=>h.oE b hb ?_
 .rcases hx with hx|hx
  .exact .inl hx
  .exact .inr<|h.jt b hb hx
 .rcases xV with xV|xV
  .exact λhm=>xV<|.inr hm
  .exact xV
def nu.block{w w':World}{v:Value}{T:TypeId}{n sz:Nat}{f:Nat->Nat->Value}{nl:Bool}(h:nu w v T n sz f nl)
 (hk:∀ x,v.ownBlock=some x->w'.heap[x]? = w.heap[x]?):nu w' v T n sz f nl:=by
 rcases h with h|⟨b,ofs,c,cur,rfl,hg,r⟩
 .exact .inl h
 .exact .inr ⟨b,ofs,c,cur,rfl,by rw[hk b rfl];exact hg,r⟩
def xG.map{B:Nat->Prop}{L L':Lk}{w w':World}(h:rJ L w L' w'){id:Nat}{nl:Bool}{T1 T0 n sz:Nat}{len:Nat->Nat}{el:Nat->Nat->Nat->E}{pend:Option Nat}(k:xG (bad B L) (jt L) L w id nl T1 T0 n sz len el pend)
 (hv:L'.val id=L.val id) (ho:∀ x,L'.own id x↔L.own id x) (kP:∀ j,L'.iQ id j=L.iQ id j) (hk:∀ x,L.own id x->w'.heap[x]? = w.heap[x]?):xG (bad B L') (jt L') L' w' id nl T1 T0 n sz len el pend:=by
 obtain⟨b,ofs,c,cur,f,h1,h2,h3,h4,h5,h6,h7,h8,h9,nU,nV⟩:=k;have e:L'.iQ id=L.iQ id:=funext kP;refine⟨b,ofs,c,cur,f,by rw[hv];exact h1,by rw[hk b<|(h9 b).2<|.inl rfl];exact h2,h3,h4,h5,by rw[e];exact h6,h7,?_,?_,by rw[e];exact nU,by rw[e];exact nV⟩
 .intro k wY;obtain⟨q1,q2⟩:=h8 k wY;rw[e];exact⟨q1.block λx hx=>hk x<|(h9 x).2<|.inr ⟨k,wY,hx⟩,λi j hi hj=>⟨h.kJ (q2 i j hi hj).1,(q2 i j hi hj).2⟩⟩
 .intro x;rw[ho,e];exact h9 x
def nh.map{B:Nat->Prop}{L L':Lk}{w w':World}(h:rJ L w L' w'){id:Nat}{b:Bx}{g g':PV->PV}(k:nh (bad B L) (jt L) L w id<|b.rY g)
 (hv:L'.val id=L.val id) (ho:∀ x,L'.own id x↔L.own id x) (kP:∀ j,L'.iQ id j=L.iQ id j) (hk:∀ x,L.own id x->w'.heap[x]? = w.heap[x]?)
 (hT:∀ p v,p ∈ b.No->kZ (bad B L) (jt L) L w (g p) v->kZ (bad B L') (jt L') L' w' (g' p) v):nh (bad B L') (jt L') L' w' id<|b.rY g':=by
 cases b with
 |qn nl T l=>
  obtain⟨b,vs,h1,h2,h3,h4,h5,h6⟩:=k;refine⟨b,vs,by rw[hv];exact h1,λx=>(ho x).trans<|h2 x,by rw[hk b<|(h2 b).2 rfl];exact h3,by simpa using h4,λi p v hp hx=>?_,h6⟩;rw[cC]at hp;obtain⟨q,hq,rfl⟩:=cg.1 hp;exact hT q v (dC hq)<|h5 i (g q) v (by rw[cC,hq];rfl) hx
 |cells T l=>
  obtain⟨b,vs,h1,h2,h3,h4,h5⟩:=k;exact⟨b,vs,by rw[hv];exact h1,λx=>(ho x).trans<|h2 x,by rw[hk b<|(h2 b).2 rfl];exact h3,h4.mono λ_ _=>h.kJ,h5⟩
 |row nl T n sz el=>
  obtain⟨f,h1,h2,h3⟩:=k;exact⟨f,by rw[hv];exact h1.block λx hx=>hk x<|(h2 x).2 hx,λx=>by rw[ho,hv];exact h2 x,λi j hi hj=>⟨h.kJ (h3 i j hi hj).1,(h3 i j hi hj).2⟩⟩
 |nN T b l=>
  obtain⟨vs,h1,h2,h3,h4,h5⟩:=k;exact⟨vs,by rw[hv];exact h1,λx=>(ho x).trans<|h2 x,by rw[hk b<|(h2 b).2 rfl];exact h3,h4.mono λ_ _=>h.kJ,h5⟩
 |A8 nl T1 T0 n sz len el c r=>
  obtain⟨k,k1,k2,k3⟩:=k;have e:L'.iQ id=L.iQ id:=funext kP;refine⟨xG.map h k hv ho kP hk,k1,k2,λb ofs m q hq=>?_⟩;rw[hv]at hq;obtain⟨b0,_,_,_,_,g1,_,_,_,_,_,_,_,g9,_⟩:=k;have ml:b0=b:=by rw[hq]at g1;cases g1;rfl
  subst ml;rw[World.cell?_of_block (w:=w)<|hk b0<|(g9 b0).2<|.inl rfl,e];exact k3 b0 ofs m q hq
 |iM nl T1 T0 n sz len el pend=>
  rcases k with⟨h1,h2,h3⟩|k
  .exact .inl ⟨by rw[hv];exact h1,h2,λx hx=>h3 x<|(ho x).1 hx⟩
  exact .inr<|xG.map h k hv ho kP hk
section
variable{B:Nat->Prop}{L L':Lk}{w w':World}(h:rJ L w L' w')
def nh.later{id:Nat}{b:Bx}(k:nh (bad B L) (jt L) L w id b)
 (hv:L'.val id=L.val id) (ho:∀ x,L'.own id x↔L.own id x) (kP:∀ j,L'.iQ id j=L.iQ id j) (hk:∀ x,L.own id x->w'.heap[x]? = w.heap[x]?)
 (hT:∀ p v,p ∈ b.No->kZ (bad B L) (jt L) L w p v->kZ (bad B L') (jt L') L' w' p v):nh (bad B L') (jt L') L' w' id b:=by
 have:=nh.map (g:=λp=>p) (g':=λp=>p) h (b:=b) (by rw[EY];exact k) hv ho kP hk hT;rwa[EY]at this
def yL.later{c:CV}{v:Value}(k:yL (bad B L) (jt L) L w c v)
 (hv:∀ id,L.mE id->L'.mE id/\L'.val id=L.val id):yL (bad B L') (jt L') L' w' c v:=by
 cases c with
 |e x=>exact h.kJ k
 |box id=>obtain⟨k1,b,k2,k3⟩:=k;exact⟨(hv id k1).1,b,by rw[(hv id k1).2];exact k2,k3⟩
 |row id=>obtain⟨k1,b,ofs,n,c,k2,k3⟩:=k;exact⟨(hv id k1).1,b,ofs,n,c,by rw[(hv id k1).2];exact k2,k3⟩
end
def kZ.later{B:Nat->Prop}{L L':Lk}{w w':World}(h:rJ L w L' w'){p:PV}{v:Value}(k:kZ (bad B L) (jt L) L w p v)
 (hv:∀ id,L.mE id->L'.mE id/\L'.val id=L.val id/\∀ j,L'.iQ id j=L.iQ id j):kZ (bad B L') (jt L') L' w' p v:=by
 cases p with
 |e x=>exact h.kJ k
 |box id off=>obtain⟨k1,b,k2,k3⟩:=k;exact⟨(hv id k1).1,b,by rw[(hv id k1).2.1];exact k2,k3⟩
 |own id=>obtain⟨k1,k2⟩:=k;exact⟨(hv id k1).1,by rw[(hv id k1).2.1];exact k2⟩
 |oI id sz i j=>obtain⟨k1,b,ofs,n,c,k2,k3⟩:=k;exact⟨(hv id k1).1,b,ofs,n,c,by rw[(hv id k1).2.1];exact k2,k3⟩
 |iQ id q=>obtain⟨k1,k2⟩:=k;exact⟨(hv id k1).1,by rw[(hv id k1).2.2];exact k2⟩
 |rB id sz q i j=>obtain⟨k1,b,ofs,n,c,k2,k3⟩:=k;exact⟨(hv id k1).1,b,ofs,n,c,by rw[(hv id k1).2.2];exact k2,k3⟩
 |rq f cap=>
  obtain⟨vs,k1,k2,k3⟩:=k;exact⟨vs,k1,k2,λi c x hc hx=>(k3 i c x hc hx).later h λid hl=>⟨(hv id hl).1,(hv id hl).2.1⟩⟩
def kZ.move{B:Nat->Prop}{L L':Lk}{w w':World}(h:rJ L w L' w'){p:PV}{v:Value}(k:kZ (bad B L) (jt L) L w p v)
 (hv:∀ id,id ∈ p.lh->L.mE id->L'.mE id/\L'.val id=L.val id/\∀ j,L'.iQ id j=L.iQ id j):kZ (bad B L') (jt L') L' w' p v:=by
 cases p with
 |e x=>exact h.kJ k
 |box id off=>obtain⟨k1,b,k2,k3⟩:=k;have q:=hv id (by simp[PV.lh]) k1;exact⟨q.1,b,by rw[q.2.1];exact k2,k3⟩
 |own id=>obtain⟨k1,k2⟩:=k;have q:=hv id (by simp[PV.lh]) k1;exact⟨q.1,by rw[q.2.1];exact k2⟩
 |oI id sz i j=>obtain⟨k1,b,ofs,n,c,k2,k3⟩:=k;have q:=hv id (by simp[PV.lh]) k1;exact⟨q.1,b,ofs,n,c,by rw[q.2.1];exact k2,k3⟩
 |iQ id r=>obtain⟨k1,k2⟩:=k;have q:=hv id (by simp[PV.lh]) k1;exact⟨q.1,by rw[q.2.2];exact k2⟩
 |rB id sz r i j=>obtain⟨k1,b,ofs,n,c,k2,k3⟩:=k;have q:=hv id (by simp[PV.lh]) k1;exact⟨q.1,b,ofs,n,c,by rw[q.2.2];exact k2,k3⟩
 |rq f cap=>
  obtain⟨vs,k1,k2,k3⟩:=k;refine⟨vs,k1,k2,λi c x hc hx=>?_⟩;have q:=k3 i c x hc hx;cases c with
  |e y=>exact h.kJ q
  |box id=>
   obtain⟨q1,b,q2,q3⟩:=q;have r:=hv id (by simp only[PV.lh,dP];exact⟨.box id,dC hc,by simp[CV.lh]⟩) q1;exact⟨r.1,b,by rw[r.2.1];exact q2,q3⟩
  |row id=>
   obtain⟨q1,b,ofs,n,c,q2,q3⟩:=q;have r:=hv id (by simp only[PV.lh,dP];exact⟨.row id,dC hc,by simp[CV.lh]⟩) q1;exact⟨r.1,b,ofs,n,c,by rw[r.2.1];exact q2,q3⟩
def jh.later{w0:mQ}{B:Nat->Prop}{σ:PS}{a:Act}{w w':World}{L:Lk}(r:jh w0 B σ a w L)(h:Below w.heap.size w w'):jh w0 B σ a w' L:=by
 have hl:rJ L w L w':=⟨h.size,λ_ _ h=>h,λx hx _=>h.block x hx⟩
 refine⟨r.hd,r.hs,λt=>(r.ht t).later hl λid k=>⟨k,rfl,λ_=>rfl⟩,λid b hb=>(r.hb id b hb).later hl rfl (λ_=>Iff.rfl) (λ_=>rfl) (λx hx=>h.block x (r.hw id x hx).2) (λp v _ k=>k.later hl λid k=>⟨k,rfl,λ_=>rfl⟩),r.hv,r.hn,
  λid x hx=>⟨(r.hw id x hx).1,bV (r.hw id x hx).2 h.size⟩,r.hi,r.he.trans ⟨h.os,h.tape,h.output,h.size,λx hx=>h.block x<|bV hx.1 r.he.size⟩,r.hl⟩
def jh.drew{w0:mQ}{B:Nat->Prop}{σ:PS}{a:Act}{w:World}{L:Lk}(r:jh w0 B σ a w L):jh w0 B σ a w.drew L:=r.later (Below.refl _ _).drew
def jh.put{w0:mQ}{B:Nat->Prop}{σ:PS}{a:Act}{w:World}{L:Lk}(r:jh w0 B σ a w L)(d:Option Tmp)(p:PV)(v:Value)(hd:yg σ d=true)(hp:kZ (bad B L) (jt L) L w p v):jh w0 B (σ.put d p) (a.put d v) w L:=by
 cases d with
 |none=>exact r
 |some d=>
  have Eg:d<σ.n:=by simpa[yg,fK]using hd
  refine⟨r.hd,by simp[Act.put,r.hs,PS.R1],λt=>?_,λid b hb=>r.hb id b hb,r.hv,r.hn,r.hw,r.hi,r.he,r.hl⟩;rw[PS.Ql];by_cases h:d=t
  .subst h;rw[bk rfl];have:(a.put (some d) v).tmps.getD d undef=v:=by
    simp[Act.put,at3,r.hs,Eg]
   rw[this];exact hp
  .rw [bj h];have:(a.put (some d) v).tmps.getD t undef=a.tmps.getD t undef:=by
    simp[Act.put,gE h]
   rw[this];exact r.ht t
def jh.op{w0:mQ}{B:Nat->Prop}{σ:PS}{a:Act}{w:World}{L:Lk}(r:jh w0 B σ a w L)(x:Operand):kZ (bad B L) (jt L) L w (σ.op x)<|a.eval x:=by
 cases x with
 |tmp t=>exact r.ht t
 |const v=>exact .v v
 |global g=>exact .v _
 |func f=>exact .fn f [] [] rfl (λi p x h=>by simp at h)
def Lk.set(L:Lk)(id:Nat)(O:Nat->Prop)(v:Value)(iQ:Nat->Value):Lk:=
 {mE:=λi=>i=id\/L.mE i
  own:=λi x=>if i=id then O x else L.own i x
  val:=λi=>if i=id then v else L.val i
  iQ:=λi=>if i=id then iQ else L.iQ i }
section
variable {L:Lk} {id:Nat} {O:Nat->Prop} {v:Value} {iQ:Nat->Value}
def Lk.pX(x:Nat):(L.set id O v iQ).own id x↔O x:=by simp[Lk.set]
def Lk.ng:(L.set id O v iQ).val id=v:=by simp[Lk.set]
def Lk.ot(k:Nat):(L.set id O v iQ).iQ id k=iQ k:=by simp[Lk.set]
def Lk.A6:(L.set id O v iQ).mE id:=.inl rfl
section
variable{i:Nat}(h:i≠id)
def Lk.zS(x:Nat):(L.set id O v iQ).own i x↔L.own i x:=by simp[Lk.set,h]
def Lk.A7:(L.set id O v iQ).val i=L.val i:=by simp[Lk.set,h]
def Lk.Fw(k:Nat):(L.set id O v iQ).iQ i k=L.iQ i k:=by simp[Lk.set,h]
end
end
structure ql(L:Lk)(w:World)(id:Nat)(O:Nat->Prop)(w':World):Prop where
 own:∀ x,O x->(L.own id x\/w.heap.size<=x)/\x<w'.heap.size
 size:w.heap.size<=w'.heap.size
 oE:∀ x,x<w.heap.size->¬L.own id x->w'.heap[x]? = w.heap[x]?
 os:w'.os=w.os
 tape:w'.tape=w.tape
 output:w'.output=w.output
def ql.later{L:Lk}{w:World}{id:Nat}{O:Nat->Prop}{w':World}(h:ql L w id O w')(v:Value)(iQ:Nat->Value):rJ L w (L.set id O v iQ) w':=by
 refine⟨h.size,λx hx hm=>?_,λx hx hm=>h.oE x hx λho=>hm ⟨id,ho⟩⟩;obtain⟨i,hi⟩:=hm;by_cases e:i=id
 .subst e;rcases(h.own x<|(Lk.pX x).1 hi).1 with k|k
  .exact ⟨i,k⟩
  .omega
 .exact ⟨i,(Lk.zS e x).1 hi⟩
def jh.set{w0:mQ}{B:Nat->Prop}{σ:PS}{a:Act}{w:World}{L:Lk}(r:jh w0 B σ a w L)(id:Nat)(b':Bx)(O:Nat->Prop)(v:Value)(iQ:Nat->Value)(w':World)(f:mK)
 (hf:f.Pc (σ.pre f)=vE (σ.pre f) id b') (ht:ql L w id O w')
 (hB:nh (bad B<|L.set id O v iQ) (jt<|L.set id O v iQ) (L.set id O v iQ) w' id b')
 (hT:∀ p v0,kZ (bad B L) (jt L) L w p v0->kZ (bad B<|L.set id O v iQ) (jt<|L.set id O v iQ) (L.set id O v iQ) w' (p.lk f) v0)
 (jQ:σ.nl=true->b'.nl=true):jh w0 B (σ.oz f) a w'<|L.set id O v iQ:=by
 have hl:=ht.later v iQ;have iZ:∀ i,(σ.oz f).bo i=if id=i then some b' else(σ.bo i).map (Bx.rY<|PV.lk f):=by
  intro i;show look (f.Pc<|σ.pre f) i=_;rw[hf,EV,PS.CC]
 have rO:uS w0 w w':=⟨ht.os,ht.tape,ht.output,ht.size,λx hx=>ht.oE x (bV hx.1 r.he.size) λho=>(r.hw id x ho).1 hx⟩
 refine⟨r.hd,r.hs,λt=>?_,λi b hb=>?_,λi=>?_,λi x hx=>?_,λi x hx=>?_,λi j x hi hj=>?_,r.he.trans rO,λAv i b hb=>?_⟩
 .rw [PS.Eb];exact hT _ _<|r.ht t
 .rw [iZ]at hb;by_cases e:id=i
  .subst e;rw[bk rfl]at hb;cases hb;exact hB
  .rw [bj e]at hb;have e':i≠id:=λh=>e h.symm
   obtain⟨b0,ml,rfl⟩:=cg.1 hb;exact nh.map (g:=λp=>p) hl (by rw[EY];exact r.hb i b0 ml) (Lk.A7 e') (Lk.zS e') (Lk.Fw e') (λx hx=>ht.oE x (r.hw i x hx).2 λho=>e<|r.hi id i x ho hx) λp v _ k=>hT p v k
 .rw [iZ];by_cases e:id=i
  .subst e;rw[bk rfl];simp[Lk.set]
  .rw [bj e];have e':i≠id:=λh=>e h.symm
   simp only[Lk.set,e',false_or,fh];exact r.hv i
 .by_cases e:i=id
  .exact .inl e
  .exact .inr<|r.hn i x<|(Lk.zS e x).1 hx
 .by_cases e:i=id
  .subst e;obtain⟨k1,k2⟩:=ht.own x<|(Lk.pX x).1 hx;refine⟨?_,k2⟩;rcases k1 with k1|k1
   .exact (r.hw i x k1).1
   .exact mQ.aaQ r.he.size k1
  .have:=r.hw i x<|(Lk.zS e x).1 hx;exact⟨this.1,bV this.2 ht.size⟩
 .by_cases e1:i=id
  .by_cases e2:j=id
   .rw [e1,e2]
   .have k2:=(Lk.zS e2 x).1 hj;subst e1;rcases(ht.own x<|(Lk.pX x).1 hi).1 with k|k
    .exact r.hi _ _ x k k2
    .have:=(r.hw j x k2).2;omega
  .have k1:=(Lk.zS e1 x).1 hi;by_cases e2:j=id
   .subst e2;rcases(ht.own x<|(Lk.pX x).1 hj).1 with k|k
    .exact r.hi _ _ x k1 k
    .have:=(r.hw i x k1).2;omega
   .exact r.hi _ _ x k1<|(Lk.zS e2 x).1 hj
 .rw [iZ]at hb;by_cases e:id=i
  .rw [bk e]at hb;cases hb;exact jQ Av
  .rw [bj e]at hb;obtain⟨b0,ml,rfl⟩:=cg.1 hb;rw[EZ];exact r.hl Av i b0 ml
def jh.new{w0:mQ}{B:Nat->Prop}{σ:PS}{a:Act}{w:World}{L:Lk}(r:jh w0 B σ a w L)(id:Nat)(b':Bx)(O:Nat->Prop)(v:Value)(iQ:Nat->Value)(w':World)
 (kE:σ.bo id=none) (hO:∀ x,O x->w.heap.size<=x/\x<w'.heap.size) (hb:Below w.heap.size w w')
 (hB:nh (bad B<|L.set id O v iQ) (jt<|L.set id O v iQ) (L.set id O v iQ) w' id b')
 (jQ:(!σ.nl||b'.nl)=true):jh w0 B (σ.oz<|.new id b') a w'<|L.set id O v iQ:=by
 have XE:¬L.mE id:=λh=>by have:=(r.hv id).1 h;rw[kE]at this;simp at this
 have ht:ql L w id O w':=⟨λx hx=>⟨.inr (hO x hx).1,(hO x hx).2⟩,hb.size,λx hx _=>hb.block x hx,hb.os,hb.tape,hb.output⟩
 refine r.set id b' O v iQ w' (.new id b') rfl ht hB (λp v0 hp=>?_) (λh=>by simpa[h]using jQ);have jV:∀ {i},L.mE i->i≠id:=λh e=>XE<|e▸h
 have:p.lk (.new id b')=p:=by cases p<;>rfl
 rw[this];exact hp.later (ht.later v iQ) λi hi=>⟨.inr hi,Lk.A7<|jV hi,λj=>Lk.Fw (jV hi) j⟩
def jh.pC{w0:mQ}{B:Nat->Prop}{σ:PS}{a:Act}{w:World}{L:Lk}(r:jh w0 B σ a w L)(id:Nat)(b':Bx)(w':World)
 (qe:L.mE id) (ht:ql L w id (L.own id) w')
 (hB:nh (bad B<|L.set id (L.own id) (L.val id)<|L.iQ id) (jt<|L.set id (L.own id) (L.val id)<|L.iQ id) (L.set id (L.own id) (L.val id)<|L.iQ id) w' id b')
 (jQ:σ.nl=true->b'.nl=true):jh w0 B (σ.oz<|.pC id b') a w'<|L.set id (L.own id) (L.val id)<|L.iQ id:=by
 refine r.set id b' _ _ _ w' (.pC id b') rfl ht hB (λp v0 hp=>?_) jQ;have:p.lk (.pC id b')=p:=by cases p<;>rfl
 rw[this];refine hp.later (ht.later _ _) λi hi=>⟨.inr hi,?_,λj=>?_⟩
 .by_cases e:i=id
  .subst e;exact Lk.ng
  .exact Lk.A7 e
 .by_cases e:i=id
  .subst e;exact Lk.ot j
  .exact Lk.Fw e j
def jh.pD{w0:mQ}{B:Nat->Prop}{σ:PS}{a:Act}{w:World}{L:Lk}(r:jh w0 B σ a w L)(id:Nat)(b':Bx)(O:Nat->Prop)(v:Value)(w':World)
 (hp:∀ b,L.val id ≠ .pointer (some b)) (ht:ql L w id O w')
 (hB:nh (bad B<|L.set id O v<|L.iQ id) (jt<|L.set id O v<|L.iQ id) (L.set id O v<|L.iQ id) w' id b')
 (jQ:σ.nl=true->b'.nl=true):jh w0 B (σ.oz<|.pD id b') a w'<|L.set id O v<|L.iQ id:=by
 have hl:=ht.later v<|L.iQ id;refine r.set id b' O v (L.iQ id) w' (.pD id b') rfl ht hB (λp v0 rU=>?_) jQ;have C3:∀ i j,(L.set id O v<|L.iQ id).iQ i j=L.iQ i j:=λi j=>by
  by_cases e:i=id
  .subst e;exact Lk.ot j
  .exact Lk.Fw e j
 cases p with
 |e x=>exact hl.kJ rU
 |box i off=>
  obtain⟨k1,b,k2,k3⟩:=rU;have e:i≠id:=λe=>by subst e;exact hp _ k2
  exact⟨.inr k1,b,by rw[Lk.A7 e];exact k2,k3⟩
 |own i=>
  by_cases e:i=id
  .subst e;simp only[PV.lk,cH,bH];exact .any _
  .simp only[PV.lk,cX e,bJ,bB];exact⟨.inr rU.1,by rw[Lk.A7 e];exact rU.2⟩
 |oI i s x j=>
  by_cases e:i=id
  .subst e;simp only[PV.lk,cH,bH];exact .any _
  .simp only[PV.lk,cX e,bJ,bB];obtain⟨k1,b,ofs,n,c,k2,k3⟩:=rU;exact⟨.inr k1,b,ofs,n,c,by rw[Lk.A7 e];exact k2,k3⟩
 |iQ i k=>exact⟨.inr rU.1,by rw[C3];exact rU.2⟩
 |rB i s k x j=>obtain⟨k1,b,ofs,n,c,k2,k3⟩:=rU;exact⟨.inr k1,b,ofs,n,c,by rw[C3];exact k2,k3⟩
 |rq f cap=>
  cases pR:cap.any (CV.Jw id)with
  |true=>simp only[PV.lk,pR,bH];exact .any _
  |false=>
   simp only[PV.lk,pR,bJ,bB];obtain⟨vs,k1,k2,k3⟩:=rU;refine⟨vs,k1,k2,λi c x hc hx=>?_⟩;have hk:=k3 i c x hc hx;cases c with
   |e y=>exact hl.kJ hk
   |box q=>
    obtain⟨q1,b,q2,q3⟩:=hk;have e:q≠id:=λe=>by subst e;exact hp _ q2
    exact⟨.inr q1,b,by rw[Lk.A7 e];exact q2,q3⟩
   |row q=>
    obtain⟨q1,b,ofs,n,c,q2,q3⟩:=hk;have e:q≠id:=λe=>by
     have:=cI.1 pR (.row q)<|dC hc;subst e;simp[CV.Jw]at this
    exact⟨.inr q1,b,ofs,n,c,by rw[Lk.A7 e];exact q2,q3⟩
def jh.tf{w0:mQ}{B:Nat->Prop}{σ:PS}{a:Act}{w:World}{L:Lk}(r:jh w0 B σ a w L)(id:Nat)(b':Bx)(O:Nat->Prop)(iQ:Nat->Value)(w':World)
 (ht:ql L w id O w')
 (hB:nh (bad B<|L.set id O (L.val id) iQ) (jt<|L.set id O (L.val id) iQ) (L.set id O (L.val id) iQ) w' id b')
 (jQ:σ.nl=true->b'.nl=true):jh w0 B (σ.oz<|.tf id b') a w'<|L.set id O (L.val id) iQ:=by
 have hl:=ht.later (L.val id) iQ;refine r.set id b' O (L.val id) iQ w' (.tf id b') rfl ht hB (λp v0 rU=>?_) jQ;have mY:∀ i,(L.set id O (L.val id) iQ).val i=L.val i:=λi=>by
  by_cases e:i=id
  .subst e;exact Lk.ng
  .exact Lk.A7 e
 cases p with
 |e x=>exact hl.kJ rU
 |box i off=>obtain⟨k1,b,k2,k3⟩:=rU;exact⟨.inr k1,b,by rw[mY];exact k2,k3⟩
 |own i=>exact⟨.inr rU.1,by rw[mY];exact rU.2⟩
 |oI i s x j=>obtain⟨k1,b,ofs,n,c,k2,k3⟩:=rU;exact⟨.inr k1,b,ofs,n,c,by rw[mY];exact k2,k3⟩
 |iQ i k=>
  by_cases e:i=id
  .subst e;simp only[PV.lk,cH,bH];exact .any _
  .simp only[PV.lk,cX e,bJ,bB];exact⟨.inr rU.1,by rw[Lk.Fw e];exact rU.2⟩
 |rB i s k x j=>
  by_cases e:i=id
  .subst e;simp only[PV.lk,cH,bH];exact .any _
  .simp only[PV.lk,cX e,bJ,bB];obtain⟨k1,b,ofs,n,c,k2,k3⟩:=rU;exact⟨.inr k1,b,ofs,n,c,by rw[Lk.Fw e];exact k2,k3⟩
 |rq f cap=>
  obtain⟨vs,k1,k2,k3⟩:=rU;refine⟨vs,k1,k2,λi c x hc hx=>(k3 i c x hc hx).later hl λj hj=>⟨.inr hj,mY j⟩⟩
structure Oy(w:World)(v:Value)(T:TypeId)(n sz m:Nat)(f g:Nat->Nat->Value)(nl:Bool)(v':Value)(w':World):Prop where
 own:nu w' v' T (n+m) sz (λi j=>if i<n then f i j else g (i-n) j) nl
 Il:∀ x,v'.ownBlock=some x->v.ownBlock=some x\/(w.heap.size<=x/\x<w'.heap.size)
 size:w.heap.size<=w'.heap.size
 oE:∀ x,x<w.heap.size->v.ownBlock≠some x->w'.heap[x]? = w.heap[x]?
 os:w'.os=w.os
 tape:w'.tape=w.tape
 output:w'.output=w.output
section
variable(n sz:Nat)(f:Nat->Nat->Value)
def qZ:List Value:=(List.range<|n*sz).map λq=>f (q/sz)<|q%sz
def xO:(qZ n sz f).length=n*sz:=by simp[qZ]
end
section
variable{n sz:Nat}{f:Nat->Nat->Value}
def WH{i j:Nat}(hi:i<n)(hj:j<sz):(qZ n sz f)[i*sz+j]? = some (f i j):=by
 have h1:i*sz+j<n*sz:=by
  have:=bU sz<|show i+1<=n from hi;rw[bT,bX]at this;omega
 have h2:(i*sz+j)/sz=i:=by rw[bQ,atB aC,dB hj,cj]
 have h3:(i*sz+j)%sz=j:=by rw[bQ,gF,cF hj]
 simp[qZ,h1,h2,h3]
def IU{q:Nat}{u:Value}(h:(qZ n sz f)[q]? = some u):q/sz<n/\q%sz<sz/\u=f (q/sz) (q%sz)/\q/sz*sz+q%sz=q:=by
 unfold qZ at h;rw[cC]at h;obtain⟨x,hx,rfl⟩:=cg.1 h;obtain⟨h1,h2⟩:=cD.1 hx;simp at h1 h2;subst h2;have hz:0<sz:=by
  rcases fi sz with h0|h0
  .subst h0;simp at h1
  .exact h0
 exact⟨(cT hz).2 h1,bR _ hz,rfl,by rw[bQ];exact cW q sz⟩
end
def aqw{P:Program}(w:World)(t ty e:TypeId)(i:TypeInfo)(ht:P.underlying t=some (.slice e))(hi:P.info? e=some i)
 (g ofs sLen sCap:Nat) (cur:Array Value) (hg:w.heap[g]? = some (.cells cur e (0,0)))
 (a:Addr) (m c:Nat) (news:List Value) (hl:news.length=m*i.size) (Jc:∀ j u,news[j]? = some u->w.cell? (a.add j)=some u) (h1:∀ u ∈ news,u.oneCell'=true)
 (Jf:sLen+m<=sCap) (qS:ofs+sLen*i.size+news.length<=cur.size):
 (Builtin.append_ #[t,t] ty #[.slice (some ⟨g,ofs,none⟩) sLen sCap,.slice (some a) m c]).run P w =
  .ok (.slice (some ⟨g,ofs,none⟩) (sLen+m) sCap) (w.setRow g (cur.toList.take (ofs+sLen*i.size)++news++cur.toList.drop (ofs+sLen*i.size+news.length)).toArray):=by
 have hf:=run_firstCells_some (P:=P) w i.size m a m c news hl Jc;have y9:=run_storeCells_at P g (ofs+sLen*i.size) e news 0 cur w hg (by simpa using qS) h1;simp only[cj]at y9;simp[Builtin.append_,run_underlying ht,sizeOf,typeInfo,hi,Builtin.lenOf,Jf,hf,Addr.add_lit,y9]
def ab9(P:Program)(w:World)(t ty e:TypeId)(i:TypeInfo)(z:Value)(sz:Nat)(ht:P.underlying t=some (.slice e))(hi:P.info? e=some i)(hz:i.zero=some z)
 (vo:i.size=sz) (Yw:z.cells.size=sz) (nc:0<sz) (jO:1<=i.bytes) (ata:∀ u,u ∈ z.cells->u.oneCell'=true)
 (v:Value) (n:Nat) (f:Nat->Nat->Value) (nl:Bool) (lW:nu w v e n sz f nl)
 (A:Option Addr) (m c:Nat) (g:Nat->Nat->Value) (hA:∀ k j,k<m->j<sz->∃ b o,A=some ⟨b,o,none⟩/\w.cell? ⟨b,o+(k*sz+j),none⟩=some (g k j)) (wR:A=none->m=0)
 (h1:∀ k j,k<m->j<sz->(g k j).oneCell'=true/\(nl=true->qs (g k j)=false)) (Yv:nl=true->∀ u,u ∈ z.cells->qs u=false)
 (Mo:(n+m)*i.bytes<=140737488355328):
 ∃ v' w',(Builtin.append_ #[t,t] ty #[v,.slice A m c]).run P w = .ok v' w'/\Oy w v e n sz m f g nl v' w':=by
 have hle:n+m<=(n+m)*i.bytes:=gX _ jO;have Qn:n+m<=maxLen:=by unfold maxLen;omega
 have Bw:∀ i j,i<n+m->j<sz->(qZ n sz f++qZ m sz g)[i*sz+j]? = some (if i<n then f i j else g (i-n) j):=by
  intro i j hi hj;by_cases kP:i<n
  .rw [bk kP,dh,WH kP hj];rw[xO];have:=bU sz<|show i+1<=n from kP;rw[bT,bX]at this;omega
  .rw [bj kP,dL,xO]
   .have:i*sz+j-n*sz=(i-n)*sz+j:=by
     have:=Nat.sub_mul i n sz;have:=bU sz (aC:n<=i);omega
    rw[this,WH aC hj]
   .rw [xO];have:=bU sz (aC:n<=i);omega
 have xU:∀ i j,i<n+m->j<sz->(if i<n then f i j else g (i-n) j).oneCell'=true:=by
  intro i j hi hj;split
  .rename_i kP;rcases lW with⟨_,h0⟩|⟨b,ofs,c,cur,_,_,_,_,_,hc,_⟩
   .omega
   .exact (hc i j kP hj).2
  .rename_i kP;exact(h1 (i-n) j aC hj).1
 have h1':∀ u ∈ qZ m sz g,u.oneCell'=true:=by
  intro u hu;obtain⟨q,hq⟩:=dD.1 hu;obtain⟨q1,q2,rfl,_⟩:=IU hq;exact(h1 _ _ q1 q2).1
 have gnl:nl=true->∀ u,u ∈ qZ m sz g->qs u=false:=by
  intro hn u hu;obtain⟨q,hq⟩:=dD.1 hu;obtain⟨q1,q2,rfl,_⟩:=IU hq;exact(h1 _ _ q1 q2).2 hn
 rcases A with _|ad
 .have hm:=wR rfl;subst hm;rcases lW with⟨rfl,rfl⟩|⟨b,ofs,cc,cur,rfl,hg,qf,oZ,nL,kF,jQ⟩
  .refine ⟨.slice none 0 0,w,?_,.inl ⟨rfl,rfl⟩,λx hx=>.inl hx,bw _,λ_ _ _=>rfl,rfl,rfl,rfl⟩;simp[Builtin.append_,run_underlying ht,sizeOf,typeInfo,hi,Builtin.lenOf,Builtin.firstCells,loadCells,loadCellsFrom]
  .refine ⟨.slice (some ⟨b,ofs,none⟩) n cc,w,?_,.inr ⟨b,ofs,cc,cur,rfl,hg,qf,oZ,nL,?_,jQ⟩,λx hx=>.inl hx,bw _,λ_ _ _=>rfl,rfl,rfl,rfl⟩
   .simp [Builtin.append_,run_underlying ht,sizeOf,typeInfo,hi,Builtin.lenOf,Builtin.firstCells,qf,storeCells]
   .intro i j hi hj;have kP:i<n:= aC ;simp only[kP,bH];exact kF i j kP hj
 .have Jc:∀ j u,(qZ m sz g)[j]? = some u->w.cell? (ad.add j)=some u:=by
   intro q u hq;obtain⟨q1,q2,rfl,q4⟩:=IU hq;obtain⟨b,o,e,hc⟩:=hA _ _ q1 q2;cases e;rw[q4]at hc;rw[show(⟨b,o,none⟩:Addr).add q=⟨b,o+q,none⟩from Addr.add_lit _ _ _];exact hc
  rcases lW with⟨rfl,rfl⟩|⟨b,ofs,cc,cur,rfl,hg,qf,oZ,nL,kF,jQ⟩
  .by_cases hm:m=0
   .subst hm;refine⟨.slice none 0 0,w,?_,.inl ⟨rfl,rfl⟩,λx hx=>.inl hx,bw _,λ_ _ _=>rfl,rfl,rfl,rfl⟩;simp[Builtin.append_,run_underlying ht,sizeOf,typeInfo,hi,Builtin.lenOf,Builtin.firstCells,loadCells,loadCellsFrom]
   .have hr:=run_append_nil (P:=P) w t ty e i z ht hi hz ad m c (qZ m sz g) (by rw[xO,vo]) Jc aC (by unfold maxLen at Qn;omega) (by have hb:=Mo;simp only[cw]at hb;omega);have th:=grownCap_ge w m 0 e;have oZ:grownCap w m 0 e<=maxLen:=grownCap_le_maxLen w m 0 e aC;refine⟨_,_,hr,.inr ⟨w.heap.size,0,_,_,aH,heap_alloc_new w.drew _,aC,oZ,?_,?_,?_⟩,λx hx=>.inr ?_,aH,λx hx _=>Below.heap_alloc w.drew _ x hx,rfl,rfl,rfl⟩
    .simp only[atC,eV,size_zeroCells,Yw,xO,<-bT,cw];refine fL ?_;congr 1;omega
    .intro i j hi hj;have:=Bw i j hi hj;refine⟨?_,xU i j hi hj⟩;rw[cw];simp only[qZ,cU,List.range_zero,List.map_nil,List.nil_append]at this;rw[<-this,at4]
     .simp [qZ]
     .obtain ⟨q,_⟩:=cD.1 this;simpa[qZ]using q
    .intro hn u hu;rcases fM.1 hu with hu|hu
     .exact gnl hn u<|by simpa using hu
     .simp only[Builtin.zeroCells,gG,gH]at hu;obtain⟨q,hq,rfl⟩:=hu;have iN:q%z.cells.size<z.cells.size:=bR _ aC;rw[fN z.cells _ iN];exact Yv hn _<|gY iN
    .simp [Value.ownBlock]at hx;subst hx;simp
  .have XL:∀ k j,k<n->j<sz->cur[ofs+(k*sz+j)]? = some (f k j):=λk j hk hj=>(kF k j hk hj).1
   by_cases Jf:n+m<=cc
   .have Ek:(qZ m sz g).length=m*i.size:=by rw[xO,vo]
    have as7:(n+m)*sz<=cc*sz:=bU _ Jf;have XZ:(n+m)*sz=n*sz+m*sz:=bT _ _ _;have qS:ofs+n*i.size+(qZ m sz g).length<=cur.size:=by rw[Ek,vo];omega
    have hr:=aqw (P:=P) w t ty e i ht hi b ofs n cc cur hg ad m c (qZ m sz g) Ek Jc h1' Jf qS;refine⟨_,_,hr,.inr ⟨b,ofs,cc,_,rfl,setRow_heap w b cur _ e _ hg,Jf,oZ,?_,?_,?_⟩,λx hx=>.inl hx,aH,λx hx jV=>setRow_other w b x _ λq=>jV<|by simp[Value.ownBlock,q],rfl,rfl,rfl⟩
    .simp only[eV,cz,cJ,dz,dR];omega
    .intro k j hk hj;refine⟨?_,xU k j hk hj⟩;have hq:=Bw k j hk hj;rw[gZ,atD,eR,cJ,dR,dA aC,vo];by_cases wY:k<n
     .have iN:k*sz+j<n*sz:=by
       have:=bU sz<|show k+1<=n from wY;rw[bT,bX]at this;omega
      rw[bk aC,dO,bk aC,Array.getElem?_toList];show _=some (if k<n then f k j else g (k-n) j);rw[bk wY];exact XL k j wY hj
     .have th:n*sz<=k*sz+j:=by
       have:=bU sz (aC:n<=k);omega
      have iN:k*sz+j<(n+m)*sz:=by
       have:=bU sz<|show k+1<=n+m from hk;rw[bT,bX]at this;omega
      rw[bj aC,dh<|by rw[xO];omega,(aC:ofs+(k*sz+j)-(ofs+n*sz)=k*sz+j-n*sz),<-hq,dL<|by rw[xO];exact th,xO]
    .intro hn u hu;simp only[ia,di]at hu;rcases hu with(hu|hu)|hu
     .exact jQ hn u<|by have:=ef hu;simpa using this
     .exact gnl hn u hu
     .exact jQ hn u<|by have:=eh hu;simpa using this
   .have holds:∀ j u,(qZ n sz f)[j]? = some u->w.cell? ((⟨b,ofs,none⟩:Addr).add j)=some u:=by
     intro q u hq;obtain⟨q1,q2,rfl,q4⟩:=IU hq;have:=XL _ _ q1 q2;rw[q4]at this;rw[show(⟨b,ofs,none⟩:Addr).add q=⟨b,ofs+q,none⟩from Addr.add_lit _ _ _];simp only[World.cell?,hg];simpa using this
    have hr:=run_append_grow (P:=P) w t ty e i z ht hi hz ⟨b,ofs,none⟩ n cc (qZ n sz f) (by rw[xO,vo]) holds ad m c (qZ m sz g) (by rw[xO,vo]) Jc aC (by unfold maxLen at Qn;omega)<|growslice_fits aC Mo;have th:=grownCap_ge w (n+m) cc e;have aj3:grownCap w (n+m) cc e<=maxLen:=grownCap_le_maxLen w (n+m) cc e Qn;refine⟨_,_,hr,.inr ⟨w.heap.size,0,_,_,aH,heap_alloc_new w.drew _,aC,aj3,?_,?_,?_⟩,λx hx=>.inr ?_,aH,λx hx _=>Below.heap_alloc w.drew _ x hx,rfl,rfl,rfl⟩
    .simp only[atC,eV,size_zeroCells,Yw,xO,<-bT,cw];refine fL ?_;congr 1;omega
    .intro k j hk hj;refine⟨?_,xU k j hk hj⟩;rw[<-Bw k j hk hj,cw];have hq:k*sz+j<(qZ n sz f++qZ m sz g).length:=by
      obtain⟨q,_⟩:=cD.1<|Bw k j hk hj;exact q
     rw[at4<|by simpa using hq];simp
    .intro hn u hu;rcases fM.1 hu with hu|hu
     .rcases fM.1 hu with hu|hu
      .obtain ⟨q,hq⟩:=dD.1 (show u ∈ qZ n sz f by simpa using hu);obtain⟨q1,q2,rfl,_⟩:=IU hq;exact jQ hn _<|ek (kF _ _ q1 q2).1
      .exact gnl hn u<|by simpa using hu
     .simp only[Builtin.zeroCells,gG,gH]at hu;obtain⟨q,hq,rfl⟩:=hu;have iN:q%z.cells.size<z.cells.size:=bR _ aC;rw[fN z.cells _ iN];exact Yv hn _<|gY iN
    .simp [Value.ownBlock]at hx;subst hx;simp
def adx{id:Nat}{b:Bx}{p:PV}(h:p.lh.any (Nat.beq id)=false):p.lk (.pD id b)=p:=by
 cases p with
 |own i=>
  have:Nat.beq i id=false:=by
   simp only[PV.lh,en,fj,eB]at h;exact cX λe=>by rw[e,cH]at h;cases h
  simp[PV.lk,this]
 |oI i s x j=>
  have:Nat.beq i id=false:=by
   simp only[PV.lh,en,fj,eB]at h;exact cX λe=>by rw[e,cH]at h;cases h
  simp[PV.lk,this]
 |rq f cap=>
  have:cap.any (CV.Jw id)=false:=by
   rw[cI];intro c hc hr;cases c with
   |row i=>
    have hi:i=id:=kQ.1 hr;have:=cI.1 h i (by simp only[PV.lh,dP];exact⟨.row i,hc,by simp[CV.lh]⟩);rw[hi,cH]at this;exact this rfl
   |_=>cases hr
  simp[PV.lk,this]
 |_=>rfl
def jh.fin{w0:mQ}{B:Nat->Prop}{σ:PS}{a:Act}{w:World}{L:Lk}{id:Nat}{nl:Bool}{T n sz:Nat}{el:Nat->Nat->E}(hB:∀ b,B b->w0.vH b)
 (r:jh w0 B (σ.oz<|.pD id<|.row nl T n sz el) a w L):∃ L',jh w0 B (σ.oz<|.fin id) a w L'/\iO (bad B L') (jt L') w (.sl nl n sz el) (L.val id):=by
 let L':Lk:=⟨λi=>L.mE i/\i≠id,λi x=>L.own i x/\i≠id,L.val,L.iQ⟩
 have iN:rJ L w L' w:=⟨bw _,λx _ ⟨i,h,_⟩=>⟨i,h⟩,λ_ _ _=>rfl⟩
 have rP:∀ i,(σ.oz<|.fin id).bo i=if i=id then none else(σ.bo i).map (Bx.rY<|PV.lk<|.fin id):=by
  intro i;show look ((σ.pre<|.fin id).filter λx=>!Nat.beq x.1 id) i=_;rw[EU,PS.CC];by_cases h:i=id
  .subst h;simp
  .rw [bj h,bj λe=>h e.symm]
 have QK:∀ i,i≠id->(σ.oz<|.pD id<|.row nl T n sz el).bo i=(σ.bo i).map (Bx.rY<|PV.lk<|.pD id<|.row nl T n sz el):=by
  intro i h;show look (vE (σ.pre<|.pD id<|.row nl T n sz el) id<|.row nl T n sz el) i=_;rw[EV,PS.CC,bj λe=>h e.symm]
 have aj0:(σ.oz<|.pD id<|.row nl T n sz el).bo id=some (.row nl T n sz el):=by
  show look (vE (σ.pre<|.pD id<|.row nl T n sz el) id<|.row nl T n sz el) id=_;rw[EV,bk rfl]
 have pQ:∀ x,L.own id x->¬bad B L' x:=by
  rintro x hx (h|⟨i,h1,h2⟩)
  .exact (r.hw id x hx).1<|hB x h
  .exact h2<|r.hi i id x h1 hx
 have hold:iO (bad B L') (jt L') w (.sl nl n sz el)<|L.val id:=by
  obtain⟨f,h1,h2,h3⟩:=r.hb id _ aj0;rcases h1 with⟨h0,rfl⟩|⟨b,ofs,c,cur,h0,hg,qf,oZ,nL,kF,jQ⟩
  .rw [h0];exact .sl nl 0 sz el none 0 f (bw _) aE (λ_=>rfl) (λi j hi=>absurd hi<|bC i) (λi j hi=>absurd hi<|bC i) (λi j hi=>absurd hi<|bC i) λi j hi=>absurd hi<|bC i
  .have qg:=(h2 b).2 (by rw[h0];rfl);rw[h0];refine .sl nl n sz el _ c f qf (by unfold maxLen at oZ;omega) (λh=>by cases h) (λi j hi hj=>⟨(kF i j hi hj).2,λhn=>jQ hn _<|ek (kF i j hi hj).1⟩) (λi j hi hj=>(h3 i j hi hj).2)
    (λi j hi hj=>⟨b,ofs,rfl,pQ b qg,(r.hw id b qg).2,?_⟩) (λi j hi hj=>iN.kJ (h3 i j hi hj).1)
   simp only[World.cell?,hg];simpa using(kF i j hi hj).1
 have hT:∀ (p:PV) (v:Value),kZ (bad B L) (jt L) L w (p.lk<|.pD id<|.row nl T n sz el) v->kZ (bad B L') (jt L') L' w (p.lk<|.fin id) v:=by
  intro p v k;show kZ _ _ _ _ (if p.lh.any (Nat.beq id)then .e .any else p) _;cases hp:p.lh.any (Nat.beq id)with
  |true=>exact .any _
  |false=>
   rw[adx hp]at k;refine kZ.move iN k λi hi qe=>⟨⟨qe,?_⟩,rfl,λ_=>rfl⟩
   rintro rfl;have:=cI.1 hp i hi;simp at this
 refine⟨L',⟨r.hd,r.hs,λt=>?_,λi b' h=>?_,λi=>?_,λi x h=>⟨r.hn i x h.1,h.2⟩,λi x h=>r.hw i x h.1,λi i' x h k=>r.hi i i' x h.1 k.1,r.he,λh i b' k=>?_⟩,hold⟩
 .have k:=r.ht t;rw[PS.Eb]at k ⊢;exact hT _ _ k
 .rw [rP]at h;split at h
  .cases h
  .rename_i hi;obtain⟨b0,ml,rfl⟩:=cg.1 h;exact nh.map iN (r.hb i _<|by rw[QK i hi,ml];rfl) rfl (λx=>⟨λq=>q.1,λq=>⟨q,hi⟩⟩) (λ_=>rfl) (λ_ _=>rfl) λp v _ k=>hT p v k
 .rw [rP];show L.mE i/\i≠id↔_;by_cases hi:i=id
  .subst hi;simp
  .simp only[hi,df,eW,fO,bB];rw[r.hv i,QK i hi,fh,fh]
 .rw [rP]at k;split at k
  .cases k
  .rename_i hi;obtain⟨b0,ml,rfl⟩:=cg.1 k;have:=r.hl h i _ (by rw[QK i hi,ml];rfl);rw[EZ]at this ⊢;exact this
section
variable{id q:Nat}{b:Bx}{p:PV}
def TE(h:p.lh.any (λx=>Nat.beq id x||Nat.beq q x)=false):p.lk (.py id q b)=p:=by
 cases p with
 |box i off=>
  simp only[PV.lh,en,fj,eB,eo]at h;have h1:Nat.beq i id=false:=cX λe=>by rw[e,cH]at h;cases h.1
  have h2:Nat.beq i q=false:=cX λe=>by rw[e,cH]at h;cases h.2
  simp[PV.lk,h1,h2]
 |e x=>simp[PV.lk,PV.lh]
 |own i=>show(if(PV.lh<|.own i).any _=true then _ else _)=_;rw[h];rfl
 |oI i a b c=>show(if(PV.lh<|.oI i a b c).any _=true then _ else _)=_;rw[h];rfl
 |iQ i k=>show(if(PV.lh<|.iQ i k).any _=true then _ else _)=_;rw[h];rfl
 |rB i s k x j=>show(if(PV.lh<|.rB i s k x j).any _=true then _ else _)=_;rw[h];rfl
 |rq f cap=>show(if(PV.lh<|.rq f cap).any _=true then _ else _)=_;rw[h];rfl
def ady(h:p.lh.any (λx=>Nat.beq id x||Nat.beq q x)=true)(hb:∀ i off,p ≠ .box i off):p.lk (.py id q b) = .e .any:=by
 cases p with
 |box i off=>exact absurd rfl (hb i off)
 |e x=>simp[PV.lh]at h
 |own i=>show(if(PV.lh<|.own i).any _=true then _ else _)=_;rw[h];rfl
 |oI i a b c=>show(if(PV.lh<|.oI i a b c).any _=true then _ else _)=_;rw[h];rfl
 |iQ i k=>show(if(PV.lh<|.iQ i k).any _=true then _ else _)=_;rw[h];rfl
 |rB i s k x j=>show(if(PV.lh<|.rB i s k x j).any _=true then _ else _)=_;rw[h];rfl
 |rq f cap=>show(if(PV.lh<|.rq f cap).any _=true then _ else _)=_;rw[h];rfl
end
def jh.py{w0:mQ}{B:Nat->Prop}{σ:PS}{a:Act}{w:World}{L:Lk}(r:jh w0 B σ a w L){id q T1 T0 n sz:Nat}{nl:Bool}{el:Nat->Nat->E}{x:E}
 (hid:σ.bo id=some (.cells T1 [x])) (hq:σ.bo q=some (.row nl T0 n sz el)) (jV:id≠q) {b:Nat} (hv:L.val id = .pointer (some ⟨b,0,none⟩)) {w':World} (hw:w'.heap[b]? = some (.cells #[L.val q] T1 (0,0)))
 (ht:ql L w id (L.own id) w'):∃ L',jh w0 B (σ.oz<|.py id q<|.iM nl T1 T0 1 sz (λ_=>n) (λ_=>el) none) a w' L':=by
 let L':Lk:=⟨λi=>L.mE i/\i≠q,λi y=>if i=id then L.own id y\/L.own q y else L.own i y/\i≠q,λi=>if i=id then .slice (some ⟨b,0,none⟩) 1 1 else L.val i,λi j=>if i=id then L.val q else L.iQ i j⟩
 have aki:∀ y,jt L' y->jt L y:=by
  rintro y ⟨i,hi⟩;by_cases e:i=id
  .have hi:L.own id y\/L.own q y:=by simpa[L',e]using hi
   rcases hi with h|h
   .exact ⟨id,h⟩
   .exact ⟨q,h⟩
  .have hi:L.own i y/\i≠q:=by simpa[L',e]using hi
   exact⟨i,hi.1⟩
 have as6:∀ y,jt L y->jt L' y:=by
  rintro y ⟨i,hi⟩;by_cases e:i=id\/i=q
  .refine ⟨id,?_⟩;show if id=id then L.own id y\/L.own q y else _
   rw[bk rfl];rcases e with e|e<;>subst e
   .exact .inl hi
   .exact .inr hi
  .have e1:i≠id:=λh=>e (.inl h)
   have e2:i≠q:=λh=>e<|.inr h
   refine⟨i,?_⟩;show if i=id then _ else L.own i y/\i≠q
   rw[bj e1];exact⟨hi,e2⟩
 have iN:rJ L w L' w':=⟨ht.size,λy _ h=>aki y h,λy hy hm=>ht.oE y hy λho=>hm ⟨id,ho⟩⟩
 have mY:∀ i,i≠id->L'.val i=L.val i:=λi e=>by show(if i=id then _ else _)=_;rw[bj e]
 have C3:∀ i,i≠id->∀ j,L'.iQ i j=L.iQ i j:=λi e j=>by show(if i=id then _ else _)=_;rw[bj e]
 have lW:∀ i,i≠id->∀ y,L'.own i y↔L.own i y/\i≠q:=λi e y=>by show(if i=id then _ else _)↔_;rw[bj e]
 have BI:∀ y,L'.own id y↔L.own id y\/L.own q y:=λy=>by show(if id=id then _ else _)↔_;rw[bk rfl]
 obtain⟨b0,vs,i1,i2,i3,i4,i5⟩:=r.hb id _ hid;rw[hv]at i1;cases i1;obtain⟨f,q1,q2,q3⟩:=r.hb q _ hq;have qe:L.mE id:=(r.hv id).2 (by rw[hid];rfl);have Mz:∀ i y,i≠id->L.own i y->w'.heap[y]? = w.heap[y]?:=λi y e hy=>ht.oE y (r.hw i y hy).2 λho=>e<|r.hi i id y hy ho
 have iZ:∀ i,(σ.oz<|.py id q<|.iM nl T1 T0 1 sz (λ_=>n) (λ_=>el) none).bo i=if id=i then some (.iM nl T1 T0 1 sz (λ_=>n) (λ_=>el) none)else if i=q then none else(σ.bo i).map (Bx.rY<|PV.lk<|.py id q<|.iM nl T1 T0 1 sz (λ_=>n) (λ_=>el) none):=by
  intro i;show look (vE ((σ.pre<|.py id q<|.iM nl T1 T0 1 sz (λ_=>n) (λ_=>el) none).filter λy=>!Nat.beq y.1 q) id _) i=_;rw[EV];by_cases e:id=i
  .rw [bk e,bk e]
  .rw [bj e,bj e,EU,PS.CC];by_cases e2:q=i
   .rw [bk e2,bk e2.symm]
   .rw [bj e2,bj λh=>e2 h.symm]
 have rO:uS w0 w w':=⟨ht.os,ht.tape,ht.output,ht.size,λy hy=>ht.oE y (bV hy.1 r.he.size) λho=>(r.hw id y ho).1 hy⟩
 have kF:(L.val q).oneCell'=true/\qs (L.val q)=false:=by
  rcases q1 with⟨h,_⟩|⟨b1,o1,c1,cur,h,_⟩<;>rw[h]<;>exact⟨rfl,rfl⟩
 have hT:∀ (p:PV) (v:Value),kZ (bad B L) (jt L) L w p v->kZ (bad B L') (jt L') L' w' (p.lk<|.py id q<|.iM nl T1 T0 1 sz (λ_=>n) (λ_=>el) none) v:=by
  intro p v k;cases hp:p.lh.any (λy=>Nat.beq id y||Nat.beq q y)with
  |false=>
   rw[TE hp];refine k.move iN λi hi hl=>?_
   have:=cI.1 hp i hi;simp only[ep,not_or]at this;have e1:i≠id:=λe=>this.1<|by rw[e];exact cH _
   have e2:i≠q:=λe=>this.2<|by rw[e];exact cH _
   exact⟨⟨hl,e2⟩,mY i e1,C3 i e1⟩
  |true=>
   by_cases ju:∃ i off,p = .box i off
   .obtain ⟨i,off,rfl⟩:=ju;obtain⟨k1,b1,k2,k3⟩:=k;by_cases e1:i=id
    .subst e1;by_cases e0:off=0
     .subst e0;simp only[PV.lk,cH,bH];rw[hv]at k2;cases k2;exact⟨⟨k1,jV⟩,b,0,1,1,by show(if i=i then _ else _)=_;rw[bk rfl],by simpa using k3⟩
     .simp only[PV.lk,cH,bH,cX e0,bJ,bB];exact .any _
    .have e2:i=q:=by
      simp only[PV.lh,en,fj,eB,ep]at hp;rcases hp with hp|hp
      .exact absurd (kQ.1 hp).symm e1
      .exact (kQ.1 hp).symm
     simp only[PV.lk,cX e1,bJ,bB,e2,cH,bH];have e3:Nat.beq q id=false:=cX λh=>jV h.symm
     simp only[e3,bJ,bB];exact .any _
   .rw [ady hp λi off h=>ju ⟨i,off,h⟩];exact .any _
 refine⟨L',r.hd,r.hs,λt=>?_,λi b' hb=>?_,λi=>?_,λi y hy=>?_,λi y hy=>?_,λi j y hi hj=>?_,r.he.trans rO,λAv i b' hb=>?_⟩
 .rw [PS.Eb];exact hT _ _<|r.ht t
 .rw [iZ]at hb;by_cases e:id=i
  .subst e;rw[bk rfl]at hb;cases hb;have I6:∀ j,L'.iQ id j=L.val q:=λj=>by show(if id=id then _ else _)=_;rw[bk rfl]
   refine .inr ⟨b,0,1,#[L.val q],λ_=>f,by show(if id=id then _ else _)=_;rw[bk rfl],hw,bw _,aE,aH,λk hk _=>?_,λu hu=>?_,λk hk=>?_,λy=>?_,λk k' y hk I7 _ _=> aC,λk hk=>?_⟩
   .obtain rfl:k=0:= aC ;rw[I6];rfl
   .have:u=L.val q:=by simpa using hu
    rw[this];exact kF.2
   .rw [I6];exact⟨q1.block λy hy=>Mz q y (λh=>jV h.symm)<|(q2 y).2 hy,λi j hi hj=>⟨iN.kJ (q3 i j hi hj).1,(q3 i j hi hj).2⟩⟩
   .rw [BI];constructor
    .rintro (h|h)
     .exact .inl<|(i2 y).1 h
     .exact .inr ⟨0,aE,by rw[I6];exact(q2 y).1 h⟩
    .rintro (h|⟨k,_,h⟩)
     .exact .inl<|(i2 y).2 h
     .rw [I6]at h;exact .inr<|(q2 y).2 h
   .rw [I6];intro h;exact jV<|r.hi id q b ((i2 b).2 rfl)<|(q2 b).2 h
  .rw [bj e]at hb;by_cases e2:i=q
   .rw [bk e2]at hb;cases hb
   .rw [bj e2]at hb;have e':i≠id:=λh=>e h.symm
    obtain⟨b0',ml,rfl⟩:=cg.1 hb;exact nh.map (g:=λp=>p) iN (by rw[EY];exact r.hb i b0' ml) (mY i e') (λy=>(lW i e' y).trans ⟨λh=>h.1,λh=>⟨h,e2⟩⟩) (C3 i e') (λy hy=>Mz i y e' hy) λp v _ k=>hT p v k
 .rw [iZ];show L.mE i/\i≠q↔_;by_cases e:id=i
  .subst e;rw[bk rfl];exact⟨λ_=>rfl,λ_=>⟨qe,jV⟩⟩
  .rw [bj e];by_cases e2:i=q
   .subst e2;simp
   .rw [bj e2];rw[fh];exact⟨λh=>(r.hv i).1 h.1,λh=>⟨(r.hv i).2 h,e2⟩⟩
 .by_cases e:i=id
  .subst e;exact⟨qe,jV⟩
  .have:=(lW i e y).1 hy;exact⟨r.hn i y this.1,this.2⟩
 .by_cases e:i=id
  .subst e;rcases(BI y).1 hy with h|h
   .exact ⟨(r.hw _ y h).1,bV (r.hw _ y h).2 ht.size⟩
   .exact ⟨(r.hw _ y h).1,bV (r.hw _ y h).2 ht.size⟩
  .have h:=((lW i e y).1 hy).1;exact⟨(r.hw _ y h).1,bV (r.hw _ y h).2 ht.size⟩
 .by_cases e1:i=id
  .by_cases e2:j=id
   .rw [e1,e2]
   .exfalso;subst e1;have h2:=(lW j e2 y).1 hj;rcases(BI y).1 hi with h|h
    .exact e2<|r.hi j _ y h2.1 h
    .exact h2.2<|r.hi j q y h2.1 h
  .by_cases e2:j=id
   .exfalso;subst e2;have h1:=(lW i e1 y).1 hi;rcases(BI y).1 hj with h|h
    .exact e1<|r.hi i _ y h1.1 h
    .exact h1.2<|r.hi i q y h1.1 h
   .exact r.hi i j y ((lW i e1 y).1 hi).1 ((lW j e2 y).1 hj).1
 .rw [iZ]at hb;by_cases e:id=i
  .rw [bk e]at hb;cases hb;show nl=true;exact r.hl Av q (.row nl T0 n sz el) hq
  .rw [bj e]at hb;by_cases e2:i=q
   .rw [bk e2]at hb;cases hb
   .rw [bj e2]at hb;obtain⟨b0',ml,rfl⟩:=cg.1 hb;rw[EZ];exact r.hl Av i b0' ml
def Lk.rf(L:Lk)(id q:Nat)(O:Nat->Prop)(v:Value)(iQ:Nat->Value):Lk:=
 {mE:=λi=>(i=id\/L.mE i)/\i≠q
  own:=λi x=>if i=id then O x else L.own i x/\i≠q
  val:=λi=>if i=id then v else L.val i
  iQ:=λi j=>if i=id then iQ j else L.iQ i j }
def jh.rf{w0:mQ}{B:Nat->Prop}{σ:PS}{a:Act}{w:World}{L:Lk}(r:jh w0 B σ a w L){id q:Nat}(jV:id≠q)(b':Bx)(O:Nat->Prop)(v:Value)(iQ:Nat->Value)(w':World)
 (hO:∀ x,O x->(L.own id x\/L.own q x\/w.heap.size<=x)/\x<w'.heap.size) (nc:w.heap.size<=w'.heap.size) (tN:∀ x,x<w.heap.size->¬L.own id x->w'.heap[x]? = w.heap[x]?)
 (Et:w'.os=w.os) (Rg:w'.tape=w.tape) (qT:w'.output=w.output)
 (hB:rJ L w (L.rf id q O v iQ) w'->nh (bad B<|L.rf id q O v iQ) (jt<|L.rf id q O v iQ) (L.rf id q O v iQ) w' id b')
 (kE:L.mE id->∀ b,L.val id ≠ .pointer (some b)) (jQ:σ.nl=true->b'.nl=true):jh w0 B (σ.oz<|.py id q b') a w'<|L.rf id q O v iQ:=by
 have mY:∀ i,i≠id->(L.rf id q O v iQ).val i=L.val i:=λi e=>by show(if i=id then _ else _)=_;rw[bj e]
 have C3:∀ i,i≠id->∀ j,(L.rf id q O v iQ).iQ i j=L.iQ i j:=λi e j=>by show(if i=id then _ else _)=_;rw[bj e]
 have lW:∀ i,i≠id->∀ y,(L.rf id q O v iQ).own i y↔L.own i y/\i≠q:=λi e y=>by show(if i=id then _ else _)↔_;rw[bj e]
 have BI:∀ y,(L.rf id q O v iQ).own id y↔O y:=λy=>by show(if id=id then _ else _)↔_;rw[bk rfl]
 have iN:rJ L w (L.rf id q O v iQ) w':=by
  refine⟨nc,λy hy h=>?_,λy hy hm=>tN y hy λho=>hm ⟨id,ho⟩⟩;obtain⟨i,hi⟩:=h;by_cases e:i=id
  .subst e;rcases(hO y<|(BI y).1 hi).1 with h|h|h
   .exact ⟨i,h⟩
   .exact ⟨q,h⟩
   .omega
  .exact ⟨i,((lW i e y).1 hi).1⟩
 have iZ:∀ i,(σ.oz<|.py id q b').bo i=if id=i then some b' else if i=q then none else(σ.bo i).map (Bx.rY<|PV.lk<|.py id q b'):=by
  intro i;show look (vE ((σ.pre<|.py id q b').filter λy=>!Nat.beq y.1 q) id _) i=_;rw[EV];by_cases e:id=i
  .rw [bk e,bk e]
  .rw [bj e,bj e,EU,PS.CC];by_cases e2:q=i
   .rw [bk e2,bk e2.symm]
   .rw [bj e2,bj λh=>e2 h.symm]
 have rO:uS w0 w w':=⟨Et,Rg,qT,nc,λy hy=>tN y (bV hy.1 r.he.size) λho=>(r.hw id y ho).1 hy⟩
 have Mz:∀ i y,i≠id->L.own i y->w'.heap[y]? = w.heap[y]?:=λi y e hy=>tN y (r.hw i y hy).2 λho=>e<|r.hi i id y hy ho
 have BO:∀ i y,L.own i y->¬w0.vH y/\y<w'.heap.size:=λi y h=>⟨(r.hw i y h).1,bV (r.hw i y h).2 nc⟩
 have hT:∀ (p:PV) (v0:Value),kZ (bad B L) (jt L) L w p v0->kZ (bad B<|L.rf id q O v iQ) (jt<|L.rf id q O v iQ) (L.rf id q O v iQ) w' (p.lk<|.py id q b') v0:=by
  intro p v0 k;cases hp:p.lh.any (λy=>Nat.beq id y||Nat.beq q y)with
  |false=>
   rw[TE hp];refine k.move iN λi hi hl=>?_
   have:=cI.1 hp i hi;simp only[ep,not_or]at this;have e1:i≠id:=λe=>this.1<|by rw[e];exact cH _
   have e2:i≠q:=λe=>this.2<|by rw[e];exact cH _
   exact⟨⟨.inr hl,e2⟩,mY i e1,C3 i e1⟩
  |true=>
   by_cases ju:∃ i off,p = .box i off
   .obtain ⟨i,off,rfl⟩:=ju;obtain⟨k1,b1,k2,k3⟩:=k;by_cases e1:i=id
    .subst e1;exact absurd k2<|kE k1 _
    .have e2:i=q:=by
      simp only[PV.lh,en,fj,eB,ep]at hp;rcases hp with hp|hp
      .exact absurd (kQ.1 hp).symm e1
      .exact (kQ.1 hp).symm
     have e3:Nat.beq q id=false:=cX λh=>jV h.symm
     simp only[PV.lk,e2,e3,cH,bH,bJ,bB];exact .any _
   .rw [ady hp λi off h=>ju ⟨i,off,h⟩];exact .any _
 refine⟨r.hd,r.hs,λt=>?_,λi b hb=>?_,λi=>?_,λi y hy=>?_,λi y hy=>?_,λi j y hi hj=>?_,r.he.trans rO,λAv i b hb=>?_⟩
 .rw [PS.Eb];exact hT _ _<|r.ht t
 .rw [iZ]at hb;by_cases e:id=i
  .subst e;rw[bk rfl]at hb;cases hb;exact hB iN
  .rw [bj e]at hb;by_cases e2:i=q
   .rw [bk e2]at hb;cases hb
   .rw [bj e2]at hb;have e':i≠id:=λh=>e h.symm
    obtain⟨b0',ml,rfl⟩:=cg.1 hb;exact nh.map (g:=λp=>p) iN (by rw[EY];exact r.hb i b0' ml) (mY i e') (λy=>(lW i e' y).trans ⟨λh=>h.1,λh=>⟨h,e2⟩⟩) (C3 i e') (λy hy=>Mz i y e' hy) λp v _ k=>hT p v k
 .rw [iZ];show(i=id\/L.mE i)/\i≠q↔_;by_cases e:id=i
  .subst e;rw[bk rfl];exact⟨λ_=>rfl,λ_=>⟨.inl rfl,jV⟩⟩
  .rw [bj e];have e':i≠id:=λh=>e h.symm
   by_cases e2:i=q
   .subst e2;simp
   .rw [bj e2];rw[fh];exact⟨λh=>(r.hv i).1<|h.1.resolve_left e',λh=>⟨.inr<|(r.hv i).2 h,e2⟩⟩
 .by_cases e:i=id
  .subst e;exact⟨.inl rfl,jV⟩
  .have:=(lW i e y).1 hy;exact⟨.inr<|r.hn i y this.1,this.2⟩
 .by_cases e:i=id
  .subst e;obtain⟨h,h2⟩:=hO y<|(BI y).1 hy;rcases h with h|h|h
   .exact ⟨(r.hw _ y h).1,h2⟩
   .exact ⟨(r.hw _ y h).1,h2⟩
   .exact ⟨mQ.aaQ r.he.size h,h2⟩
  .exact BO i y ((lW i e y).1 hy).1
 .have cross:∀ j,j≠id->L.own j y/\j≠q->O y->False:=by
   intro j e h2 h;rcases(hO y h).1 with h|h|h
   .exact e<|r.hi j _ y h2.1 h
   .exact h2.2<|r.hi j q y h2.1 h
   .have:=(r.hw j y h2.1).2;omega
  by_cases e1:i=id
  .by_cases e2:j=id
   .rw [e1,e2]
   .subst e1;exact(cross j e2 ((lW j e2 y).1 hj)<|(BI y).1 hi).elim
  .by_cases e2:j=id
   .subst e2;exact(cross i e1 ((lW i e1 y).1 hi)<|(BI y).1 hj).elim
   .exact r.hi i j y ((lW i e1 y).1 hi).1 ((lW j e2 y).1 hj).1
 .rw [iZ]at hb;by_cases e:id=i
  .rw [bk e]at hb;cases hb;exact jQ Av
  .rw [bj e]at hb;by_cases e2:i=q
   .rw [bk e2]at hb;cases hb
   .rw [bj e2]at hb;obtain⟨b0',ml,rfl⟩:=cg.1 hb;rw[EZ];exact r.hl Av i b0' ml
section
variable{L:Lk}{id q:Nat}{O:Nat->Prop}{v:Value}{iQ:Nat->Value}
def Lk.Y6(x:Nat):(L.rf id q O v iQ).own id x↔O x:=by simp[Lk.rf]
def Lk.JF:(L.rf id q O v iQ).val id=v:=by simp[Lk.rf]
def Lk.AI(k:Nat):(L.rf id q O v iQ).iQ id k=iQ k:=by simp[Lk.rf]
end
def Lk.RH{L:Lk}{id q:Nat}(jV:id≠q){O:Nat->Prop}{v:Value}{iQ:Nat->Value}:(L.rf id q O v iQ).mE id:=⟨.inl rfl,jV⟩
def jh.PG{w0:mQ}{B:Nat->Prop}{σ:PS}{a:Act}{w:World}{L:Lk}(r:jh w0 B σ a w L)(id:Nat):∃ L',jh w0 B (σ.oz<|.fin id) a w L'/\(∀ i x,L'.own i x->L.own i x)/\(σ.oz<|.fin id).bo id=none:=by
 let L':Lk:=⟨λi=>L.mE i/\i≠id,λi x=>L.own i x/\i≠id,L.val,L.iQ⟩
 have iN:rJ L w L' w:=⟨bw _,λx _ ⟨i,h,_⟩=>⟨i,h⟩,λ_ _ _=>rfl⟩
 have rP:∀ i,(σ.oz<|.fin id).bo i=if i=id then none else(σ.bo i).map (Bx.rY<|PV.lk<|.fin id):=by
  intro i;show look ((σ.pre<|.fin id).filter λx=>!Nat.beq x.1 id) i=_;rw[EU,PS.CC];by_cases h:i=id
  .rw [bk h,bk h.symm]
  .rw [bj h,bj λe=>h e.symm]
 have hT:∀ (p:PV) (v:Value),kZ (bad B L) (jt L) L w p v->kZ (bad B L') (jt L') L' w (p.lk<|.fin id) v:=by
  intro p v k;show kZ _ _ _ _ (if p.lh.any (Nat.beq id)then .e .any else p) _;cases hp:p.lh.any (Nat.beq id)with
  |true=>exact .any _
  |false=>
   refine kZ.move iN k λi hi qe=>⟨⟨qe,?_⟩,rfl,λ_=>rfl⟩
   rintro rfl;have:=cI.1 hp i hi;simp at this
 refine⟨L',⟨r.hd,r.hs,λt=>?_,λi b' h=>?_,λi=>?_,λi x h=>⟨r.hn i x h.1,h.2⟩,λi x h=>r.hw i x h.1,λi i' x h k=>r.hi i i' x h.1 k.1,r.he,λh i b' k=>?_⟩,λi x h=>h.1,by rw[rP,bk rfl]⟩
 .rw [PS.Eb];exact hT _ _<|r.ht t
 .rw [rP]at h;split at h
  .cases h
  .rename_i hi;obtain⟨b0',ml,rfl⟩:=cg.1 h;exact nh.map (g:=λp=>p) iN (by rw[EY];exact r.hb i b0' ml) rfl (λx=>⟨λq=>q.1,λq=>⟨q,hi⟩⟩) (λ_=>rfl) (λ_ _=>rfl) λp v _ k=>hT p v k
 .rw [rP];show L.mE i/\i≠id↔_;by_cases hi:i=id
  .subst hi;simp
  .simp only[hi,df,eW,fO,bB,fh];exact r.hv i
 .rw [rP]at k;split at k
  .cases k
  .obtain ⟨b0',ml,rfl⟩:=cg.1 k;rw[EZ];exact r.hl h i b0' ml
def PN(σ:PS)(id:Nat)(b:Bx):(σ.oz<|.fin id).oz (.new id b)=σ.oz (.yB id b):=by
 have h:∀ l:List<|Nat×Bx,vE (l.filter λx=>!Nat.beq x.1 id) id b=vE l id b:=by
  intro l;unfold vE;rw[List.filter_filter];congr 2;funext x;cases Nat.beq x.1 id<;>rfl
 show PS.mk σ.n σ.nl (σ.t.map _) (vE ((σ.pre<|.fin id).filter λx=>!Nat.beq x.1 id) id b)=PS.mk σ.n σ.nl (σ.t.map _) (vE (σ.pre<|.yB id b) id b);rw[h];rfl
def adk{T:List TI}{t:TypeId}{x:TI}(h:mA T t=some x):x ∈ T/\x.id=t:=by
 induction T with
 |nil=>cases h
 |cons y l ih=>
  unfold mA at h;split at h
  .rename_i hb;cases h;exact⟨aH,kQ.1 hb⟩
  .obtain ⟨h1,h2⟩:=ih h;exact⟨by simp[h1],h2⟩
section
variable{P:Program}{T:List TI}(hT:mh P T){t:TypeId}{x:TI}(h:mA T t=some x)
def mh.rj:P.underlying t=some x.d:=by
 obtain⟨h1,h2⟩:=adk h;rw[<-h2];exact(hT x h1).1
def mh.BT:P.info? t=some x.i:=by
 obtain⟨h1,h2⟩:=adk h;rw[<-h2];exact(hT x h1).2
end
def CI{T:List TI}{t:TypeId}{d:TypeDesc}(h:yS T t=some d):∃ x,mA T t=some x/\x.d=d:=by
 unfold yS at h;split at h
 .rename_i x hx;exact⟨x,hx,by simpa using h⟩
 .cases h
section
variable {P:Program} {T:List TI} (hT:mh P T) (w:World)
include hT
section
variable{t:TypeId}{x:TI}(h:mA T t=some x)
def uM:(sizeOf t).run P w = .ok x.i.size w:=by
 simp[sizeOf,typeInfo,hT.BT h]
def NO{z:Value}(hz:x.i.zero=some z):(zeroValue t).run P w = .ok z w:=by
 simp[zeroValue,typeInfo,hT.BT h,hz]
def NN:(isAgg t).run P w = .ok x.isAgg w:=by
 unfold isAgg TI.isAgg;rw[Sem.run_bind,run_underlying (hT.rj h) w];cases x.d<;>simp
def S4(ha:x.isAgg=true)(b o:Nat)(vs:List Value)(hl:vs.length=x.i.size)
 (hc:∀ (j:Nat) (u:Value),vs[j]? = some u->w.cell? ⟨b,o+j,none⟩=some u):(loadVar t ⟨b,o,none⟩).run P w = .ok (.agg vs.toArray) w:=by
 have hr:=run_loadCells_list (P:=P) w ⟨b,o,none⟩ vs (λj v hv=>by rw[Addr.add_lit];exact hc j v hv);rw[hl]at hr;simp[loadVar,NN hT w h,ha,uM hT w h,hr]
def Kx(ha:x.isAgg=false)(b o:Nat)(u:Value)(hc:w.cell? ⟨b,o,none⟩=some u):(loadVar t ⟨b,o,none⟩).run P w = .ok u w:=by
 simp[loadVar,NN hT w h,ha,hc]
def Ck(b o:Nat)(E:TypeId)(cur:Array Value)(hg:w.heap[b]? = some (.cells cur E (0,0)))(v:Value)(hl:v.cells.toList.length=x.i.size)
 (qS:o+v.cells.toList.length<=cur.size) (h1:∀ u ∈ v.cells.toList,u.oneCell'=true):
 (storeVar t ⟨b,o,none⟩ v).run P w = .ok () (w.setRow b (cur.toList.take o++v.cells.toList++cur.toList.drop (o+v.cells.toList.length)).toArray):=by
 have hr:=run_storeCells_at P b o E v.cells.toList 0 cur w hg (by simpa using qS) h1;simp only[cj]at hr;have qA:v.cells.size=x.i.size:=by simpa using hl
 simp only[storeVar,Sem.run_bind,uM hT w h,Result.andThen,qA,df,atE,bB,hr,Sem.run_ite,Sem.run_pure]
end
end
def ql.setRow{L:Lk}{w:World}{id b:Nat}(hb:L.own id b)(iN:∀ x,L.own id x->x<w.heap.size)(cs:Array Value):ql L w id (L.own id)<|w.setRow b cs:=
 ⟨λx hx=>⟨.inl hx,by simpa using iN x hx⟩,aH,λx _ jV=>setRow_other w b x cs λe=>jV<|e▸hb,rfl,rfl,rfl⟩
def kg(P:Program)(K:World->Prop)(w0:mQ)(B:Nat->Prop)(σ:PS)(o:Oper)(a:Act)(w:World)(u:kN):Prop:=
 ∃ v w' L',((execOp a.eval o).run P w = .ok (.value v) w'\/((execOp a.eval o).run P w = .ok .skip w'/\v=undef))/\jh w0 B (σ.oz u.f) a w' L'/\kZ (bad B L') (jt L') L' w' u.r v
section
variable {P:Program} {K:World->Prop} {w0:mQ} {B:Nat->Prop} {σ:PS} {o:Oper} {a:Act} {w:World} {L:Lk} {u:kN}
def kg.pure(r:jh w0 B σ a w L){v:Value}(kr:(execOp a.eval o).run P w = .ok (.value v) w)(hf:u.f = .none)(hp:kZ (bad B L) (jt L) L w u.r v):kg P K w0 B σ o a w u:=
 ⟨v,w,L,.inl kr,by rw[hf];exact r,hp⟩
def aoE{l:List PV}{es:List E}(h:Nl l=some es):l=es.map .e:=by
 induction l generalizing es with
 |nil=>cases h;rfl
 |cons p l ih=>
  cases p with
  |e x=>
   simp only[Nl]at h;obtain⟨t,ht,rfl⟩:=cg.1 h;rw[ih ht];rfl
  |_=>cases h
def jh.read(r:jh w0 B σ a w L){p:PV}{v:Value}(hp:kZ (bad B L) (jt L) L w p v){m:Nat}{l:List E}{is:List Nat}{jG:List Prop}(h:σ.read p m=some (l,is,jG))(ho:∀ q,q ∈ jG->q):
 ∃ b q vs,v = .pointer (some ⟨b,q,none⟩)/\ku (bad B L) (jt L) w l vs/\vs.length=m/\∀ (j:Nat) (u:Value),vs[j]? = some u->w.cell? ⟨b,q+j,none⟩=some u:=by
 have tab:∀ (b q:Nat) (g:Nat->E) (f:Nat->Value),(∀ j,j<m->w.cell? ⟨b,q+j,none⟩=some (f j)/\iO (bad B L) (jt L) w (g j) (f j)) ->
  ∃ vs:List Value,ku (bad B L) (jt L) w ((List.range m).map g) vs/\vs.length=m/\∀ (j:Nat) (u:Value),vs[j]? = some u->w.cell? ⟨b,q+j,none⟩=some u:=by
  intro b q g f hc;refine⟨(List.range m).map f,⟨aH,λi p x hp hx=>?_⟩,aH,λj u hu=>?_⟩
  .rw [cC]at hp hx;obtain⟨i1,BD,rfl⟩:=cg.1 hp;obtain⟨i2,Gc,rfl⟩:=cg.1 hx;rw[BD]at Gc;cases Gc;obtain⟨iN,rfl⟩:=cD.1 BD;simp at iN;simpa using(hc i iN).2
  .rw [cC]at hu;obtain⟨i1,BD,rfl⟩:=cg.1 hu;obtain⟨iN,rfl⟩:=cD.1 BD;simp at iN;simpa using(hc j iN).1
 cases p with
 |box id off=>
  simp only[PS.read]at h;split at h
  .rename_i T l0 iZ;split at h
   .rename_i hle;simp only[bG,bS]at h;obtain⟨rfl,rfl,rfl⟩:=h;obtain⟨b,vs,h1,h2,h3,h4,h5⟩:=r.hb id _ iZ;obtain⟨_,b',k2,rfl⟩:=hp;rw[h1]at k2;cases k2;have Mv:=cK hle;refine⟨b,off,(vs.drop off).take m,rfl,(h4.drop off).take m,by simp[h4.len];omega,λj u hu=>?_⟩;rw[dO]at hu;split at hu
    .rw [dK]at hu;simp only[World.cell?,h3];simpa using hu
    .cases hu
   .cases h
  .rename_i nl T l0 iZ;split at h
   .rename_i hle;obtain⟨es,vg,h⟩:=cg.1 h;simp only[bS]at h;obtain⟨rfl,rfl,rfl⟩:=h;obtain⟨b,vs,h1,h2,h3,h4,h5,h6⟩:=r.hb id _ iZ;obtain⟨_,b',k2,rfl⟩:=hp;rw[h1]at k2;cases k2;have Mv:=cK hle;have hm:=aoE vg;have hlen:es.length=m:=by
     have:=congrArg List.length hm;simp only[cJ,dz,cG]at this;omega
    refine⟨b,off,(vs.drop off).take m,rfl,⟨by simp[h4,hlen];omega,λi p x hp hx=>?_⟩,by simp[h4];omega,λj u hu=>?_⟩
    .have hq:((l0.drop off).take m)[i]? = some (.e p):=by rw[hm,cC,hp];rfl
     rw[dO]at hq hx;split at hq
     .rename_i hi;rw[bk hi,dK]at hx;rw[dK]at hq;exact h5 _ _ _ hq hx
     .cases hq
    .rw [dO]at hu;split at hu
     .rw [dK]at hu;simp only[World.cell?,h3];simpa using hu
     .cases hu
   .cases h
  .rename_i T b l0 iZ;split at h
   .rename_i hle;simp only[bG,bS]at h;obtain⟨rfl,rfl,rfl⟩:=h;obtain⟨vs,h1,h2,h3,h4,h5⟩:=r.hb id _ iZ;obtain⟨_,b',k2,rfl⟩:=hp;rw[h1]at k2;cases k2;have Mv:=cK hle;refine⟨b,off,(vs.drop off).take m,rfl,(h4.drop off).take m,by simp[h4.len];omega,λj u hu=>?_⟩;rw[dO]at hu;split at hu
    .rw [dK]at hu;simp only[World.cell?,h3];simpa using hu
    .cases hu
   .cases h
  .cases h
 |oI id sz i j=>
  simp only[PS.read]at h;split at h
  .rename_i nl T n s el iZ;split at h
   .rename_i hle;simp only[bG,bS]at h;obtain⟨rfl,rfl,rfl⟩:=h;simp only[bK]at hle;have e1:=kQ.1 hle.1;have e2:=cK hle.2;subst e1;have hi:i<n:=ho _ aH;obtain⟨f,h1,h2,h3⟩:=r.hb id _ iZ;obtain⟨_,b,ofs',n',c',k2,rfl⟩:=hp;rcases h1 with⟨h1,_⟩|⟨b',ofs,c,cur,h1,hg,qf,oZ,nL,kF,jQ⟩
    .rw [k2]at h1;cases h1
    .rw [k2]at h1;cases h1;obtain⟨vs,q1,q2,q3⟩:=tab b (ofs'+(i*s+j)) (λq=>el i<|j+q) (λq=>f i<|j+q) (λq hq=>⟨by
      simp only[World.cell?,hg];have:=(kF i (j+q) hi aC).1;rw[<-de,<-de]at this;simpa[de]using this,(h3 i (j+q) hi aC).1⟩)
     exact⟨b,ofs'+(i*s+j),vs,rfl,q1,q2,q3⟩
   .cases h
  .cases h
 |rB id sz k i j=>
  simp only[PS.read]at h;split at h
  .rename_i nl T1 T0 n s len el pend iZ;split at h
   .rename_i hle;simp only[bG,bS]at h;obtain⟨rfl,rfl,rfl⟩:=h;simp only[bK]at hle;have e1:=kQ.1 hle.1;have e2:=cK hle.2;subst e1;have hk:k<n:=ho _ aH;have hi:i<len k:=ho _ aH;obtain⟨b0,ofs0,c0,cur0,f,g1,g2,g3,g4,g5,g6,g7,g8,_⟩:=(r.hb id _ iZ).wm aC;obtain⟨h1,h3⟩:=g8 k hk;obtain⟨_,b,ofs',n',c',k2,rfl⟩:=hp;rcases h1 with⟨h1,_⟩|⟨b',ofs,c,cur,h1,hg,qf,oZ,nL,kF,jQ⟩
    .rw [k2]at h1;cases h1
    .rw [k2]at h1;cases h1;obtain⟨vs,q1,q2,q3⟩:=tab b (ofs'+(i*s+j)) (λq=>el k i<|j+q) (λq=>f k i<|j+q) (λq hq=>⟨by
      simp only[World.cell?,hg];have:=(kF i (j+q) hi aC).1;rw[<-de,<-de]at this;simpa[de]using this,(h3 i (j+q) hi aC).1⟩)
     exact⟨b,ofs'+(i*s+j),vs,rfl,q1,q2,q3⟩
   .cases h
  .cases h
 |e x=>
  cases x with
  |jK k el=>
   simp only[PS.read]at h;split at h
   .rename_i hle;simp only[bG,bS]at h;obtain⟨rfl,rfl,rfl⟩:=h;have Mv:=cK hle;cases hp with
    |jK _ _ b q f hb iN hl cell kk=>
     obtain⟨vs,q1,q2,q3⟩:=tab b q el f λj hj=>⟨cell j aC,kk j aC⟩;exact⟨b,q,vs,rfl,q1,q2,q3⟩
   .cases h
  |_=>cases h
 |_=>cases h
def Hv{ti:TI}{l:List E}(h:Bc ti=some l):∃ z,ti.i.zero=some z/\∀ (bs br:Nat->Prop) (w:World),ku bs br w l z.cells.toList/\∀ u ∈ z.cells.toList,u.oneCell'=true:=by
 unfold Bc at h;split at h
 .rename_i z hz;exact⟨z,hz,λbs br w=>(iO.v (bs:=bs) (br:=br) (w:=w) z).cells h⟩
 .cases h
def jh.aaJ(r:jh w0 B σ a w L)(id:Nat)(T:TypeId)(l:List E)(v:Value)(kE:σ.bo id=none)(hv:ku (bad B L) (jt L) w l v.cells.toList)(h1:∀ u ∈ v.cells.toList,u.oneCell'=true)
 (jQ:(!σ.nl||l.all E.mf)=true):
 ∃ L',jh w0 B (σ.oz<|.new id<|.cells T l) a (w.alloc<|.cells v.cells T) L'/\kZ (bad B L') (jt L') L' (w.alloc<|.cells v.cells T) (.box id 0) (.pointer<|some ⟨w.heap.size,0,none⟩):=by
 have hb:Below w.heap.size w<|w.alloc<|.cells v.cells T:=(Below.refl _ _).alloc (bw _) _;have XE:∀ x,¬L.own id x:=λx hx=>by have:=(r.hv id).1<|r.hn id x hx;rw[kE]at this;simp at this
 have ht:ql L w id (λx=>x=w.heap.size)<|w.alloc<|.cells v.cells T:=⟨λx hx=>⟨.inr aC,aN⟩,hb.size,λx hx _=>hb.block x hx,rfl,rfl,rfl⟩
 have hl:=ht.later (.pointer<|some ⟨w.heap.size,0,none⟩) λ_=>undef;refine⟨_,r.new id (.cells T l) (λx=>x=w.heap.size) (.pointer<|some ⟨w.heap.size,0,none⟩) (λ_=>undef) _ kE (λx hx=>by subst hx;simp) hb
  ⟨w.heap.size,v.cells.toList,Lk.ng,λx=>Lk.pX x,by rw[Array.toArray_toList];exact heap_alloc_new w _,hv.mono λ_ _=>hl.kJ,h1⟩ jQ,Lk.A6,w.heap.size,Lk.ng,rfl⟩
def MZ{d:Option Tmp}{b:Bx}{rr:Nat->PV}(h:Dk σ d b rr=some u):∃ id,d=some id/\(!σ.nl||b.nl)=true/\u={ r:=rr id,f:=ub σ id b,rb:=zB σ id [] }:=by
 unfold Dk at h;split at h
 .rename_i id;split at h
  .rename_i hc;cases h;exact⟨id,rfl,hc,rfl⟩
  .cases h
 .cases h
def jh.aaK(r:jh w0 B σ a w L)(id:Nat)(T:TypeId)(l:List E)(v:Value)(hv:ku (bad B L) (jt L) w l v.cells.toList)(h1:∀ u ∈ v.cells.toList,u.oneCell'=true)
 (jQ:(!σ.nl||l.all E.mf)=true):
 ∃ L',jh w0 B (σ.oz<|ub σ id<|.cells T l) a (w.alloc<|.cells v.cells T) L'/\kZ (bad B L') (jt L') L' (w.alloc<|.cells v.cells T) (.box id 0) (.pointer<|some ⟨w.heap.size,0,none⟩):=by
 unfold ub;split
 .rename_i kE;exact r.aaJ id T l v kE hv h1 jQ
 .obtain ⟨L1,r1,ho,kE⟩:=r.PG id;have hm:∀ x,jt L1 x->jt L x:=λx ⟨i,hi⟩=>⟨i,ho i x hi⟩
  obtain⟨L',r',hp⟩:=r1.aaJ id T l v kE (hv.mono λ_ _=>iO.nS (λx h=>h.elim .inl λh=>.inr<|hm x h) hm) h1 jQ;rw[PN]at r';exact⟨L',r',hp⟩
def JT{d:Option Tmp}{b:Bx}{rr:Nat->PV}{jG:List Prop}(h:B7 σ d b rr jG=some u):∃ id,d=some id/\σ.bo id=none/\(!σ.nl||b.nl)=true/\u={ r:=rr id,f:=.new id b,jG:=jG }:=by
 unfold B7 at h;split at h
 .rename_i id;split at h
  .rename_i kE;split at h
   .rename_i hc;cases h;exact⟨id,rfl,kE,hc,rfl⟩
   .cases h
  .cases h
 .cases h
end
def KS{k:IntKind}{z:Int}(h:kC k z):k.wrap z=z:=by
 cases k<;>simp only[kC]at h<;>simp only[IntKind.wrap,IntKind.bits,IntKind.signed]<;>simp<;>(try split)<;>omega
def apO{k:IntKind}{x y:Int}(h:kC k x)(hy:0<y):kC k<|x.tdiv y:=by
 by_cases h0:0<=x
 .have h1:0<=x/y:=Int.ediv_nonneg h0 aC ;have h2:x/y<=x:=Int.ediv_le_self y h0;rw[atF h0];cases k<;>simp only[kC]at h ⊢ <;> omega
 .obtain ⟨z,rfl⟩:∃ z,x = -z:=⟨-x,aC⟩
  have h0:0<=z:= aC ;have h1:0<=z/y:=Int.ediv_nonneg h0 aC;have h2:z/y<=z:=Int.ediv_le_self y h0;rw[Int.neg_tdiv,atF h0];cases k<;>simp only[kC]at h ⊢ <;> omega
def ahL{P:Program}{op:BinOp}{k k':IntKind}{x y:Int}{v:Value}{jG:List Prop}(h:PQ op k x y=some (v,jG))(ho:∀ q,q ∈ jG->q)
 (hk:acb op k k'=true) (t:TypeId) (w:World):(binOp op t (.int k x)<|.int k' y).run P w = .ok v w:=by
 cases op<;>simp only[PQ,bG,bS,reduceCtorEq]at h<;>(obtain⟨rfl,rfl⟩:=h)<;>(try (have I7:=cL hk;subst I7))
 case add=>
  rw[binOp_add];by_cases Mb:k = .u32
  .subst Mb;simp[Op.intArith,OS]
  .have e:OS k x y=x+y:=by cases k<;>first|rfl|exact absurd rfl Mb
   have e2:rK k x y=[kC k<|x+y]:=by cases k<;>first|rfl|exact absurd rfl Mb
   rw[e];simp[Op.intArith,KS<|ho (kC k<|x+y)<|by rw[e2];simp]
 case sub=>rw[binOp_sub];simp[Op.intArith,KS<|ho (kC k<|x-y) aH]
 case mul=>rw[binOp_mul];simp[Op.intArith,KS<|ho (kC k<|x*y) aH]
 case quo=>
  have h1:=ho (0<y) aH;have h2:=ho (kC k x) aH;rw[binOp_quo];have hy:¬y=0:= aC ;simp[Op.intDiv,hy,KS<|apO h2 h1]
 case rem=>
  have h1:=ho (0<y) aH;rw[binOp_rem];have hy:¬y=0:= aC ;simp[Op.intDiv,hy]
 case and=>rw[binOp_and,intBits_and];rfl
 case or=>rw[binOp_or,intBits_or];rfl
 case shl=>
  have h1:=ho (0<=y/\y<=k.bits) aH;rw[binOp_shl,shift_shl k k' x y h1.1 h1.2];rfl
 case shr=>
  have h1:=ho (0<=y/\y<=k.bits) aH;rw[binOp_shr,shift_shr k k' x y h1.1 h1.2];rfl
 case eql=>rw[binOp_eql];rfl
 case neq=>rw[binOp_neq];rfl
 case lss=>rw[binOp_lss];rfl
 case leq=>rw[binOp_leq];rfl
 case gtr=>rw[binOp_gtr];rfl
 case geq=>rw[binOp_geq];rfl
section
variable {P:Program} {K:World->Prop} {T:List TI} {O:qY} {w0:mQ} {B:Nat->Prop} {σ:PS} {o:Oper} {a:Act} {w:World} {L:Lk} {u:kN}
def ajw{x:Operand}(iK:o.op = .move x)(r:jh w0 B σ a w L)(h:jR P K T O σ o=some u):kg P K w0 B σ o a w u:=by
 simp only[jR,iK]at h;cases h;exact kg.pure r (by simp only[execOp,iK];rfl) rfl (r.op x)
def ajc{x:Operand}(iK:o.op = .assign x)(r:jh w0 B σ a w L)(h:jR P K T O σ o=some u):kg P K w0 B σ o a w u:=by
 simp only[jR,iK]at h;cases h;exact kg.pure r (by simp only[execOp,iK];rfl) rfl (r.op x)
def ajy{c x y:Operand}(iK:o.op = .pick c x y)(r:jh w0 B σ a w L)(h:jR P K T O σ o=some u):kg P K w0 B σ o a w u:=by
 simp only[jR,iK]at h;have hc:=r.op c;split at h
 .rename_i hv;rw[hv]at hc;have hc:=iO.kW hc;cases h;exact kg.pure r (by simp[execOp,iK,hc,asBool]) rfl (r.op x)
 .rename_i hv;rw[hv]at hc;have hc:=iO.kW hc;cases h;exact kg.pure r (by simp[execOp,iK,hc,asBool]) rfl (r.op y)
 .cases h
def ajx{x:Operand}(iK:o.op = .nilCheck x)(r:jh w0 B σ a w L)(h:jR P K T O σ o=some u):kg P K w0 B σ o a w u:=by
 simp only[jR,iK]at h;have hc:=r.op x;split at h
 .rename_i hv;rw[hv]at hc;cases h;obtain⟨k1,b,k2,k3⟩:=hc;exact kg.pure r (v:=a.eval x) (by simp[execOp,iK,k3]) rfl ⟨k1,b,k2,k3⟩
 .rename_i hv;rw[hv]at hc;cases h;generalize hq:a.eval x=q at hc;refine kg.pure r (v:=q) ?_ rfl hc;cases hc;simp only[execOp,iK,hq];rfl
 .rename_i hv;rw[hv]at hc;cases h;refine kg.pure r (v:=a.eval x) ?_ rfl hc;obtain⟨vs,e,_⟩:=iO.Qb hc;simp only[execOp,iK,e];rfl
 .rename_i hv;rw[hv]at hc;cases h;refine kg.pure r (v:=a.eval x) ?_ rfl hc;obtain⟨vs,e,_⟩:=hc;simp only[execOp,iK,e];rfl
 .cases h
def ajd(hT:mh P T){op:BinOp}{t yt:TypeId}{x y:Operand}(iK:o.op = .binOp op t x y yt)(r:jh w0 B σ a w L)(h:jR P K T O σ o=some u)(ho:∀ q,q ∈ u.jG->q):kg P K w0 B σ o a w u:=by
 simp only[jR,iK]at h;have hx:=r.op x;have hy:=r.op y;split at h
 .rename_i k z k' z' Az EC;rw[Az]at hx;rw[EC]at hy;split at h
  .rename_i v hv;cases h;obtain⟨h1,h2⟩:=ho _ (eu.2 rfl) _ _ w _ _ x y hx hy;refine kg.pure r (v:=v) ?_ rfl (.v _);simp only[execOp,iK,Sem.run_bind,h1,Result.andThen_ok,h2,Sem.run_pure]
  have hx:=iO.kW hx;have hy:=iO.kW hy;split at h
  .rename_i hk;obtain⟨rr,hr,rfl⟩:=cg.1 h;have kr:=ahL (P:=P) (k':=k') hr ho hk t w;refine kg.pure r (v:=rr.1) ?_ rfl (.v _);simp only[execOp,iK,hx,hy,Sem.run_bind,eqGuard_at_int,Sem.run_pure,Result.andThen_ok,kr]
  .cases h
 .rename_i z z' Az EC;rw[Az]at hx;rw[EC]at hy;have hx:=iO.kW hx;have hy:=iO.kW hy;split at h
  .rename_i hd;obtain⟨ti,h1,h2⟩:=CI hd;have hu:P.underlying t=some .bool:=by rw[hT.rj h1,h2]
   split at h
   .cases h;refine kg.pure r (v:=.bool<|z==z') ?_ rfl (.v _);simp only[execOp,iK,hx,hy,Sem.run_bind,eqGuard_at_bool,Sem.run_pure,Result.andThen_ok,run_eql_bool w t z z' hu]
   .cases h;refine kg.pure r (v:=.bool<|!(z==z')) ?_ rfl (.v _);simp only[execOp,iK,hx,hy,Sem.run_bind,eqGuard_at_bool,Sem.run_pure,Result.andThen_ok];have:(binOp .neq t (.bool z)<|.bool z').run P w = .ok (.bool<|!(z==z')) w:=by
     simp only[binOp,Sem.run_bind,run_equal_bool w t z z' hu,Result.andThen_ok,Sem.run_pure]
    rw[this];rfl
   .cases h
  .cases h
 .rename_i nl n sz el Az EC;rw[Az]at hx;rw[EC]at hy;have hy:=iO.kW hy;have hx:iO (bad B L) (jt L) w (.sl nl n sz el)<|a.eval x:=hx;split at h
  .rename_i e hd;obtain⟨ti,h1,h2⟩:=CI hd;have hu:P.underlying t=some (.slice e):=by rw[hT.rj h1,h2]
   have key:∀ A c,0<n->a.eval x = .slice A n c->iO (bad B L) (jt L) w (.sl nl n sz el) (.slice A n c)->A.isNone=false:=by
    intro A c hn e1 hr;cases A with
    |some ad=>rfl
    |none=>
     cases hr with
     |sl _ _ _ _ _ _ f hc hm h0=>have:=h0 rfl;omega
   generalize hv:a.eval x=vx at hx;cases hx with
   |sl _ _ _ _ A c f hc hm h0 hl hr cell k=>
    have sV:iO (bad B L) (jt L) w (.sl nl n sz el)<|.slice A n c:=.sl nl n sz el A c f hc hm h0 hl hr cell k;split at h
    .cases h;have hn:0<n:=ho _ aH;refine kg.pure r (v:=.bool false) ?_ rfl (.v _);simp only[execOp,iK,hv,hy,Sem.run_bind,eqGuard_at_slice,Sem.run_pure,Result.andThen_ok,Lib.run_eql_slice_nil w t e A n c 0 0 hu,key A c hn hv sV]
    .cases h;have hn:0<n:=ho _ aH;refine kg.pure r (v:=.bool true) ?_ rfl (.v _);simp only[execOp,iK,hv,hy,Sem.run_bind,eqGuard_at_slice,Sem.run_pure,Result.andThen_ok,run_neq_slice_nil_any w t e A n c 0 0 hu,key A c hn hv sV,fg]
    .cases h
  .cases h
 .rename_i xe ye Az EC;rw[Az]at hx;rw[EC]at hy;split at h
  .rename_i v hv;cases h;obtain⟨h1,h2⟩:=ho _ (eu.2 rfl) _ _ w _ _ x y hx hy;refine kg.pure r (v:=v) ?_ rfl (.v _);simp only[execOp,iK,Sem.run_bind,h1,Result.andThen_ok,h2,Sem.run_pure]
  .cases h
 .cases h
def ajC{op:UnOp}{t:TypeId}{x:Operand}(iK:o.op = .unOp op t x)(r:jh w0 B σ a w L)(h:jR P K T O σ o=some u)(ho:∀ q,q ∈ u.jG->q):kg P K w0 B σ o a w u:=by
 simp only[jR,iK]at h;have hx:=r.op x;split at h
 .rename_i z hv;rw[hv]at hx;have hx:=iO.kW hx;cases h;exact kg.pure r (v:=.bool<|!z) (by simp[execOp,iK,hx,Op.unary]) rfl (.v _)
 .rename_i k z hv;rw[hv]at hx;have hx:=iO.kW hx;cases h;have:=KS<|ho (kC k<|0-z) aH;refine kg.pure r (v:=.int k<|0-z) ?_ rfl (.v _);simp only[execOp,iK,hx,Op.unary,Op.intArith,this];rfl
 .cases h
def ajh(hT:mh P T){src dst:TypeId}{x:Operand}(iK:o.op = .convert src dst x)(r:jh w0 B σ a w L)(h:jR P K T O σ o=some u):kg P K w0 B σ o a w u:=by
 simp only[jR,iK]at h;have hx:=r.op x;split at h
 .rename_i k ts k' z hd hs hv;rw[hv]at hx;have hx:=iO.kW hx;obtain⟨td,h1,h2⟩:=CI hd;have hu:P.underlying dst=some (.int k):=by rw[hT.rj h1,h2]
  have hk:P.intKind dst=k:=by simp[Program.intKind,hu]
  have kr:=run_convert_int (P:=P) w src dst k' z (by rw[hT.rj hs];rfl) (by rw[hk];exact hu);rw[hk]at kr;cases h;exact kg.pure r (v:=.int k<|k.wrap z) (by simp only[execOp,iK,hx,Sem.run_bind,kr];rfl) rfl (.v _)
 .cases h
def aji{x:Operand}{i:Nat}(iK:o.op = .extract x i)(r:jh w0 B σ a w L)(h:jR P K T O σ o=some u):kg P K w0 B σ o a w u:=by
 simp only[jR,iK]at h;have hx:=r.op x;split at h
 .rename_i l hv;rw[hv]at hx;obtain⟨vs,e,hr⟩:=iO.adi hx;split at h
  .rename_i y hy;cases h;have iN:i<vs.length:=by rw[hr.len];exact(cD.1 hy).1
   have Gt:=bD iN;refine kg.pure r (v:=vs[i]) ?_ rfl (hr.kJ i y _ hy Gt);simp only[execOp,iK,e,Instr.extract,gZ,Gt];rfl
  .cases h
 .cases h
def aag{bs:Nat->Prop}{z:Int}{e:E}:∀ {l:List<|Int×FuncId×List FuncId} {es:List MapEntry} (i:Nat),DP bs w l es->AR l z=some e->(∀ b,jt L b->bs b) ->
 ∃ j v,Instr.findNow (.int .i64) (.int .i64 z) es i=some (some (j,v))/\iO bs (jt L) w e v
 | [],_,_,_,h,_=>by cases h
 |_::_,[],_,k,_,_=>k.elim
 |x::l,y::es,i,⟨⟨k1,vs,k2,k3,k4⟩,k⟩,h,hm=>by
  unfold AR at h;have e0:Instr.sameNow (.int .i64) (.int .i64 z) y.key=some (z==x.1):=by rw[k1];rfl
  by_cases hz:x.1=z
  .rw [bk hz]at h;cases h;have e1:(z==x.1)=true:=by simp[hz]
   refine⟨i,y.val,?_,?_⟩
   .rw [Instr.findNow,e0,e1]
   .rw [k2];refine .fn _ _ vs (by simpa using k3) λj p v hp hv=>?_
    rw[cC]at hp;obtain⟨g,hg,rfl⟩:=cg.1 hp;obtain⟨b,rfl,q2,q3,q4⟩:=k4 j g v hg hv;have hc:∀ q,q<1->w.cell? ⟨b,0+q,none⟩=some (.func (.func g) #[] #[]):=λq hq=>by
     obtain rfl:q=0:= aC ;exact q4
    exact .jK 1 _ b 0 (λ_=>.func (.func g) #[] #[]) (λh=>q2<|hm b h) q3 (λ_ _=>rfl) hc λ_ _=>.fn g [] [] rfl (λi p x h=>by simp at h)
  .rw [bj hz]at h;have e1:(z==x.1)=false:=by simp;exact λe=>hz e.symm
   obtain⟨j,v,q1,q2⟩:=aag (i+1) k h hm;exact⟨j,v,by rw[Instr.findNow,e0,e1];exact q1,q2⟩
def agh{k:TypeId}(hk:P.underlying k=some (.int .i64))(e:Bool)(n:Nat)(z:Int):(Instr.checkKey e (n+1) k<|.int .i64 z).run P w = .ok () w:=by
 unfold Instr.checkKey;simp only[Sem.run_bind,run_underlying hk,Result.andThen];rfl
def ajq(hT:mh P T){t:TypeId}{x i:Operand}{ok:Bool}(iK:o.op = .lookup t x i ok)(r:jh w0 B σ a w L)(h:jR P K T O σ o=some u)(ho:∀ q,q ∈ u.jG->q):kg P K w0 B σ o a w u:=by
 cases ok with
 |true=>simp[jR,iK]at h
 |false=>
 simp only[jR,iK]at h;have hx:=r.op x;have hi:=r.op i;split at h
 .rename_i l z k e0 hv hw hd;obtain⟨ti,h1,h2⟩:=CI hd;have hu:P.underlying t=some (.map k e0):=by rw[hT.rj h1,h2]
  rw[hv]at hx;rw[hw]at hi;have hi:=iO.kW hi;split at h
  .rename_i e C1 hg;obtain⟨tk,h3,h4⟩:=CI C1;have hk:P.underlying k=some (.int .i64):=by rw[hT.rj h3,h4]
   cases h;have Em:AR l z=some e:=ho _ aH;generalize hq:a.eval x=q at hx;cases hx with
   |mp _ b clk es hb iN hh lP=>
    obtain⟨j,v,q1,q2⟩:=aag (w:=w) (L:=L) 0 lP Em λb h=>.inr h
    refine kg.pure r (v:=v) ?_ rfl q2;have wU:(getObj b).run P w = .ok (.map es clk) w:=by simp[getObj,Sem.run,hh]
    have hck:=agh (P:=P) (w:=w) hk es.isEmpty 9999 z;have hfk:(Instr.findKey k (.int .i64 z) es.toList).run P w = .ok (some (j,v)) w:=by unfold Instr.findKey;simp[run_underlying hk,Result.andThen,q1]
    have hl:(Instr.lookup t (.map<|some b) (.int .i64 z) false).run P w = .ok v w:=by
     unfold Instr.lookup;simp[run_underlying hu,wU,hck,hfk,Result.andThen]
    simp only[execOp,iK,hq,hi,Sem.run_bind,hl,Result.andThen_ok,Sem.run_pure]
  .cases h
 .cases h
def ajj(hT:mh P T){t:TypeId}{x:Operand}{f:Nat}(iK:o.op = .field t x f)(r:jh w0 B σ a w L)(h:jR P K T O σ o=some u):kg P K w0 B σ o a w u:=by
 simp only[jR,iK]at h;have hx:=r.op x;split at h
 .rename_i l fs hv hd;obtain⟨ti,h1,h2⟩:=CI hd;have hu:P.underlying t=some (.struct fs):=by rw[hT.rj h1,h2]
  rw[hv]at hx;obtain⟨vs,e,hr⟩:=iO.Ic hx;split at h
  .rename_i fd QS;split at h
   .rename_i ft QU;split at h
    .cases h
    .rename_i hag;split at h
     .rename_i y hy;cases h;have iN:fd.offset<vs.length:=by rw[hr.len];exact(cD.1 hy).1
      have Gt:=bD iN;refine kg.pure r (v:=vs[fd.offset]) ?_ rfl (hr.kJ fd.offset y _ hy Gt);simp only[execOp,iK,e,Instr.field,asAgg,Sem.run_bind,Sem.run_pure,Result.andThen_ok,run_underlying hu,QS,part,NN hT w QU,hag,gZ,Gt];rfl
     .cases h
   .cases h
  .cases h
 .cases h
def af6{ps:List PV}{l:List CV}{vs:List Value}(h:yP ps=some l)(hlen:vs.length=ps.length)(hr:∀ (i:Nat) (p:PV) (x:Value),ps[i]? = some p->vs[i]? = some x->kZ (bad B L) (jt L) L w p x):
 vs.length=l.length/\∀ (i:Nat) (c:CV) (x:Value),l[i]? = some c->vs[i]? = some x->yL (bad B L) (jt L) L w c x:=by
 induction ps generalizing l vs with
 |nil=>cases h;exact⟨hlen,λi c x hc=>by simp at hc⟩
 |cons p ps ih=>
  cases vs with
  |nil=>simp at hlen
  |cons y vs=>
   have step:∀ (c0:CV) (l':List CV),yP ps=some l'->yL (bad B L) (jt L) L w c0 y->l=c0::l' ->
    (y::vs).length=l.length/\∀ (i:Nat) (c:CV) (x:Value),l[i]? = some c->(y::vs)[i]? = some x->yL (bad B L) (jt L) L w c x:=by
    intro c0 l' qA pR hl;obtain⟨i1,i2⟩:=ih qA (by simpa using hlen) (λi p x hp hx=>hr (i+1) p x (by simpa using hp)<|by simpa using hx);subst hl;refine⟨by simp[i1],λi c x hc hx=>?_⟩;cases i with
    |zero=>simp at hc hx;subst hc hx;exact pR
    |succ i=>simp at hc hx;exact i2 i c x hc hx
   have h0:=hr 0 p y rfl rfl;cases p with
   |e x=>
    simp only[yP]at h;obtain⟨l',qA,rfl⟩:=cg.1 h;exact step (.e x) l' qA h0 rfl
   |box id off=>
    cases off with
    |zero=>
     simp only[yP]at h;obtain⟨l',qA,rfl⟩:=cg.1 h;exact step (.box id) l' qA h0 rfl
    |succ=>simp[yP]at h
   |oI id sz i j=>
    simp only[yP]at h;split at h
    .rename_i hc;simp only[bK]at hc;obtain rfl:=kQ.1 hc.1.1;obtain rfl:=kQ.1 hc.1.2;obtain rfl:=kQ.1 hc.2;obtain⟨l',qA,rfl⟩:=cg.1 h;obtain⟨k1,b,ofs,n,c,k2,k3⟩:=h0;exact step (.row id) l' qA ⟨k1,b,ofs,n,c,k2,by simpa using k3⟩ rfl
    .cases h
   |_=>simp[yP]at h
def ajr{fn:Fn}{first cap:Array Operand}(iK:o.op = .makeFunc fn first cap)(r:jh w0 B σ a w L)(h:jR P K T O σ o=some u):kg P K w0 B σ o a w u:=by
 cases fn with
 |func f=>
  simp only[jR,iK]at h;split at h
  .rename_i aj8;have hf:first = #[]:=by simpa using aj8
   subst hf;split at h
   .rename_i l hl;cases h;have hc:=af6 (B:=B) (L:=L) (w:=w) (vs:=cap.toList.map a.eval) hl aH (λi p x hp hx=>by
     rw[cC]at hp hx;obtain⟨q,hq,rfl⟩:=cg.1 hp;rw[hq]at hx;simp at hx;subst hx;exact r.op q)
    refine kg.pure r (v:=.func (.func f) #[] (cap.toList.map a.eval).toArray) ?_ rfl ⟨cap.toList.map a.eval,rfl,hc.1,hc.2⟩;have e1:cap.map a.eval=(cap.toList.map a.eval).toArray:=by apply dt;simp
    have e2:(#[]:Array Operand).map a.eval = #[]:= aH ;simp only[execOp,iK,Instr.makeFunc,e1,e2,Sem.run_bind,Sem.run_pure,Result.andThen_ok]
   .cases h
  .cases h
 |_=>simp[jR,iK]at h
def ajl(hT:mh P T){t:TypeId}{x i:Operand}(iK:o.op = .index t x i)(r:jh w0 B σ a w L)(h:jR P K T O σ o=some u)(ho:∀ q,q ∈ u.jG->q):kg P K w0 B σ o a w u:=by
 simp only[jR,iK]at h;have hx:=r.op x;have hi:=r.op i;split at h
 .rename_i l k z hv hw;rw[hv]at hx;rw[hw]at hi;have ei:=iO.kW hi;obtain⟨vs,e,hr⟩:=iO.Ic hx;split at h
  .rename_i tt re;split at h
   .rename_i n e' hd;have hu:P.underlying t=some (.array n e'):=by rw[hT.rj re,hd]
    split at h
    .rename_i te nM;split at h
     .rename_i hc;simp only[bK,kQ]at hc;cases h;obtain⟨Db,BQ⟩:=ho (0<=z/\z<n) aH;refine kg.pure r (v:=.agg ((vs.drop<|z.toNat*te.i.size).take te.i.size).toArray) ?_ rfl ((hr.drop _).take _).agg;simp only[execOp,iK,e,ei,Instr.index,asIntOf,Sem.run_bind,Sem.run_pure,Result.andThen_ok,run_underlying hu,Db,BQ,and_self,bH,uM hT w nM,part,NN hT w nM,hc.1];simp
     .cases h
    .cases h
   .cases h
  .cases h
 .cases h
def ajk(hT:mh P T){t:TypeId}{x:Operand}{f:Nat}(iK:o.op = .fieldAddr t x f)(r:jh w0 B σ a w L)(h:jR P K T O σ o=some u):kg P K w0 B σ o a w u:=by
 simp only[jR,iK]at h;have hx:=r.op x;split at h
 .rename_i fs hd;obtain⟨ti,h1,h2⟩:=CI hd;have hu:P.underlying t=some (.struct fs):=by rw[hT.rj h1,h2]
  split at h
  .rename_i fd QS;split at h
   .rename_i ft QU;split at h
    .cases h
    .rename_i jV;have akj:¬ft.i.size=0:=λe=>jV (kQ.2 e)
     have kr:∀ b off,a.eval x = .pointer (some ⟨b,off,none⟩)->(execOp a.eval o).run P w = .ok (.value<|.pointer<|some ⟨b,off+fd.offset,none⟩) w:=by
      intro b off e;simp only[execOp,iK,e,Instr.fieldAt,Instr.sureAddr,fieldPlace,Sem.run_bind,run_underlying hu,Result.andThen_ok,QS,Sem.run_pure,uM hT w QU,akj,bB,Addr.add_lit]
     split at h
     .rename_i id off hv;rw[hv]at hx;obtain⟨k1,b,k2,k3⟩:=hx;cases h;exact kg.pure r (kr b off k3) rfl ⟨k1,b,k2,rfl⟩
     .rename_i id sz i j hv;rw[hv]at hx;obtain⟨k1,b,ofs,n,c,k2,k3⟩:=hx;cases h;exact kg.pure r (kr b _ k3) rfl ⟨k1,b,ofs,n,c,k2,by simp only[de]⟩
     .rename_i id sz k i j hv;rw[hv]at hx;obtain⟨k1,b,ofs,n,c,k2,k3⟩:=hx;cases h;exact kg.pure r (kr b _ k3) rfl ⟨k1,b,ofs,n,c,k2,by simp only[de]⟩
     .rename_i m el hv;rw[hv]at hx;split at h
      .rename_i hle;have Mv:=cK hle;cases h;generalize hq:a.eval x=q at hx;cases hx with
       |jK _ _ b off g hb iN hl cell kk=>
        refine kg.pure r (kr b off hq) rfl (.jK _ _ b _ (λj=>g<|fd.offset+j) hb iN (λj hj=>hl _ aC) (λj hj=>?_) λj hj=>kk _ aC);have:=cell (fd.offset+j) aC;rwa[<-de]at this
      .cases h
     .cases h
   .cases h
  .cases h
 .cases h
end
section
variable {P:Program} {K:World->Prop} {T:List TI} {O:qY} {w0:mQ} {B:Nat->Prop} {σ:PS} {o:Oper} {a:Act} {w:World} {L:Lk} {u:kN}
def amo(hT:mh P T){t:TypeId}{x:Operand}{ti:TI}(nx:mA T t=some ti)(iK:o.op = .load t x)(r:jh w0 B σ a w L)(h:Dh ti (σ.read (σ.op x) ti.i.size)=some u)(ho:∀ q,q ∈ u.jG->q):kg P K w0 B σ o a w u:=by
 cases hr:σ.read (σ.op x) ti.i.size with
 |none=>rw[hr]at h;cases h
 |some y=>
  obtain⟨l,is,jG⟩:=y;rw[hr]at h;simp only[Dh]at h;by_cases ha:ti.isAgg=true
  .rw [bk ha]at h;cases h;obtain⟨b,q,vs,e,h1,h2,h3⟩:=r.read (r.op x) hr ho;refine kg.pure r (v:=.agg vs.toArray) ?_ rfl h1.agg;simp only[execOp,iK,e,Instr.loadAt,Instr.sureAddr,Sem.run_bind,Sem.run_pure,Result.andThen_ok,S4 hT w nx ha b q vs h2 h3]
  .rw [bj ha]at h;have vN:ti.isAgg=false:=by simpa using ha
   split at h
   .rename_i p;cases h;obtain⟨b,q,vs,e,h1,h2,h3⟩:=r.read (r.op x) hr ho;obtain⟨y,ys,rfl,hy,EF⟩:=h1.nR;refine kg.pure r (v:=y) ?_ rfl hy;have hc:=h3 0 y rfl;simp only[execOp,iK,e,Instr.loadAt,Instr.sureAddr,Sem.run_bind,Sem.run_pure,Result.andThen_ok,Kx hT w nx vN b q y<|by simpa using hc]
   .cases h
def aoi{l:List PV}{off q:Nat}(h:Ni l off=some q):l[off]? = some (.own q):=by
 induction l generalizing off with
 |nil=>cases h
 |cons p l ih=>
  cases off with
  |zero=>cases p<;>first|(cases h;rfl)|cases h
  |succ n=>
   have h':Ni l n=some q:=by cases p<;>exact h
   simpa using ih h'
def ajp(hT:mh P T){t:TypeId}{x:Operand}(iK:o.op = .load t x)(r:jh w0 B σ a w L)(h:jR P K T O σ o=some u)(ho:∀ q,q ∈ u.jG->q):kg P K w0 B σ o a w u:=by
 simp only[jR,iK,LS]at h;split at h
 .rename_i ti nx;split at h
  .rename_i id q qp;by_cases ha:ti.isAgg=true
   .rw [bk ha]at h;cases h
   .rw [bj ha]at h;have vN:ti.isAgg=false:=by simpa using ha
    cases h;have hx:=r.op x;cases hp:σ.op x with
    |box id' off=>
     rw[hp]at qp hx;simp only[Ea]at qp;split at qp
     .rename_i nl T0 l iZ;obtain⟨q',hq,qp⟩:=cg.1 qp;simp only[bS]at qp;obtain⟨rfl,rfl⟩:=qp;obtain⟨b,vs,h1,h2,h3,h4,h5,h6⟩:=r.hb id' _ iZ;obtain⟨k1,b',k2,k3⟩:=hx;rw[h1]at k2;cases k2;have hl:=aoi hq;obtain⟨v,hv⟩:∃ v,vs[off]? = some v:=⟨_,bD<|by rw[h4];exact(cD.1 hl).1⟩
      have hr:=h5 off _ v hl hv;refine kg.pure r (v:=v) ?_ rfl hr;have kF:w.cell? ⟨b,off,none⟩=some v:=by
       simp only[World.cell?,h3];simpa using hv
      simp only[execOp,iK,k3,Instr.loadAt,Instr.sureAddr,Sem.run_bind,Sem.run_pure,Result.andThen_ok,Kx hT w nx vN b _ _ kF]
     .cases qp
    |_=>rw[hp]at qp;cases qp
  unfold LU at h;split at h
  .rename_i id i n q9;by_cases ha:ti.isAgg=true
   .rw [bk ha]at h;cases h
   .rw [bj ha]at h;have vN:ti.isAgg=false:=by simpa using ha
    cases h;have hx:=r.op x;cases hp:σ.op x with
    |oI id' sz i' j=>
     rw[hp]at q9 hx;simp only[Fk]at q9;split at q9
     .rename_i nl T1 T0 n' sz' len el iZ;split at q9
      .rename_i hc;simp only[bG,bS]at q9;obtain⟨rfl,rfl,rfl⟩:=q9;simp only[bK]at hc;have e1:=kQ.1 hc.1;have e2:=kQ.1 hc.2;subst e1 e2;have hi:i'<n':=ho _ aH;obtain⟨b,ofs,c,cur,f,h1,h2,h3,h4,h5,h6,h7,h8,h9,nU,nV⟩:=(r.hb id' _ iZ).wm aC;obtain⟨k1,b',ofs2,n2,c2,k2,k3⟩:=hx;rw[h1]at k2;cases k2;refine kg.pure r (v:=L.iQ id' i') ?_ rfl ⟨k1,rfl⟩;have kF:w.cell? ⟨b,ofs+(i'*1+0),none⟩=some (L.iQ id' i'):=by
        simp only[World.cell?,h2];simpa using h6 i' hi aH 
       simp only[execOp,iK,k3,Instr.loadAt,Instr.sureAddr,Sem.run_bind,Sem.run_pure,Result.andThen_ok,Kx hT w nx vN b _ _ kF]
      .cases q9
     .cases q9
    |_=>rw[hp]at q9;cases q9
  .exact amo hT nx iK r h ho
 .cases h
def SC{bs br:Nat->Prop}{l m:List E}{vs us:List Value}(h:ku bs br w l vs)(k:ku bs br w m us)(off:Nat):ku bs br w (A4 l off m)<|vs.take off++us++vs.drop (off+us.length):=by
 unfold A4;rw[k.len];exact((h.take off).app k).app<|h.drop _
def abn{q:E->Bool}{l m:List E}(h:l.all q=true)(k:m.all q=true)(off:Nat):(A4 l off m).all q=true:=by
 unfold A4;rw[List.all_append,List.all_append,k];have h1:(l.take off).all q=true:=bO.2 λx hx=>bO.1 h x<|ef hx
 have h2:(l.drop<|off+m.length).all q=true:=bO.2 λx hx=>bO.1 h x<|eh hx
 rw[h1,h2];rfl
def abq{R R':PV->Value->Prop}{l m:List PV}{vs us:List Value}(h:vs.length=l.length)(k:us.length=m.length)(off:Nat)
 (hl:∀ (i:Nat) (p:PV) (v:Value),l[i]? = some p->vs[i]? = some v->R p v) (hm:∀ (i:Nat) (p:PV) (v:Value),m[i]? = some p->us[i]? = some v->R' p v) (hR:∀ p v,R p v->R' p v):
 (vs.take off++us++vs.drop (off+us.length)).length=(Fg l off m).length/\∀ (i:Nat) (p:PV) (v:Value),(Fg l off m)[i]? = some p->(vs.take off++us++vs.drop (off+us.length))[i]? = some v->R' p v:=by
 unfold Fg;rw[k];refine⟨by simp[h,k],λi p v hp hv=>?_⟩;rw[eR,eR]at hp hv;simp only[cz,cJ,h,k]at hp hv;by_cases h1:i<min off l.length+m.length
 .rw [bk h1]at hp hv;by_cases h2:i<min off l.length
  .rw [bk h2]at hp hv;rw[dO]at hp hv;split at hp
   .rename_i h3;rw[bk h3]at hv;exact hR _ _<|hl i p v hp hv
   .cases hp
  .rw [bj h2]at hp hv;exact hm _ p v hp hv
 .rw [bj h1]at hp hv;rw[dK]at hp hv;exact hR _ _<|hl _ p v hp hv
section
variable{w:World}{v:Value}{T:TypeId}{n sz:Nat}{f:Nat->Nat->Value}{nl:Bool}(h:nu w v T n sz f nl)
def nu.store{b ofs n' c':Nat}(hv:v = .slice (some ⟨b,ofs,none⟩) n' c'){i j:Nat}(hi:i<n)
 (m:List Value) (hjm:j+m.length<=sz) (Q2:∀ u,u ∈ m->u.oneCell'=true) (I9:nl=true->∀ u,u ∈ m->qs u=false):
 ∃ cur,w.heap[b]? = some (.cells cur T (0,0))/\ofs+(i*sz+j)+m.length<=cur.size /\
  nu (w.setRow b (cur.toList.take (ofs+(i*sz+j))++m++cur.toList.drop (ofs+(i*sz+j)+m.length)).toArray) v T n sz (λi' j'=>if i'=i/\j<=j'/\j'<j+m.length then m.getD (j'-j) undef else f i' j') nl:=by
 rcases h with⟨h1,_⟩|⟨b,ofs,c,cur,h1,hg,qf,oZ,nL,kF,jQ⟩
 .rw [hv]at h1;cases h1
 .rw [h1]at hv;cases hv;have as1:ofs+(i*sz+sz)<=cur.size:=by
   have:=bU sz (aC:i+1<=c');rw[bT,bX]at this;omega
  have qS:ofs+(i*sz+j)+m.length<=cur.size:= aC ;refine⟨cur,hg,qS,.inr ⟨b,ofs,c',_,h1,setRow_heap w b _ _ T _ hg,qf,oZ,?_,?_,?_⟩⟩
  .simp only[eV,cz,cJ,dz,dR];rw[dA aC];omega
  .intro i' j' lg q8;obtain⟨o1,o2⟩:=kF i' j' lg q8;have hlen:ofs+(i'*sz+j')<cur.size:=by
    have:=bU sz (aC:i'+1<=c');rw[bT,bX]at this;omega
   have rG:i'≠i->i'*sz+j'<i*sz\/i*sz+sz<=i'*sz+j':=by
    intro jV;rcases Nat.lt_or_gt_of_ne jV with iN|iN
    .left;have:=bU sz<|show i'+1<=i from iN;rw[bT,bX]at this;omega
    .right;have:=bU sz<|show i+1<=i' from iN;rw[bT,bX]at this;omega
   simp only[gZ];rw[atD,eR,cJ,dR,dA aC];by_cases kP:i'=i/\j<=j'/\j'<j+m.length
   .obtain ⟨rfl,p1,p2⟩:=kP;rw[bj aC,dh aC];have e1:ofs+(i'*sz+j')-(ofs+(i'*sz+j))=j'-j:= aC ;have iN:j'-j<m.length:= aC ;rw[bk ⟨rfl,p1,p2⟩,e1,bt,bD iN];exact⟨rfl,Q2 _<|cB iN⟩
   .rw [bj kP];refine⟨?_,o2⟩;by_cases kI:ofs+(i'*sz+j')<ofs+(i*sz+j)
    .rw [bk kI,dO,bk kI];simpa using o1
    .rw [bj kI,dL,dK]
     .have:ofs+(i*sz+j)+m.length+(ofs+(i'*sz+j')-(ofs+(i*sz+j))-m.length)=ofs+(i'*sz+j'):=by
       by_cases I5:i'=i
       .subst I5;omega
       .have:=rG I5;omega
      rw[this];simpa using o1
     .by_cases I5:i'=i
      .subst I5;omega
      .have:=rG I5;omega
  .intro hn v hv;simp only[ia,di]at hv;rcases hv with(hv|hv)|hv
   .exact jQ hn v<|by have:=ef hv;simpa using this
   .exact I9 hn v hv
   .exact jQ hn v<|by have:=eh hv;simpa using this
def nu.BC:v.cells.toList=[v]/\v.oneCell'=true/\qs v=false:=by
 rcases h with⟨rfl,_⟩|⟨b,ofs,c,cur,rfl,_⟩<;>exact⟨rfl,rfl,rfl⟩
end
def nh.BC{bs br:Nat->Prop}{id:Nat}{b:Bx}(h:nh bs br L w id b)(hs:b.YR=true):(L.val id).cells.toList=[L.val id]/\(L.val id).oneCell'=true/\qs (L.val id)=false:=by
 cases b with
 |row nl T n sz el=>obtain⟨f,h1,_⟩:=h;exact h1.BC
 |iM nl T1 T0 n sz len el pend=>
  rcases h with⟨h,_⟩|⟨b,ofs,c,cur,f,h,_⟩<;>rw[h]<;>exact⟨rfl,rfl,rfl⟩
 |cells _ _=>cases hs
 |qn _ _ _=>cases hs
 |A8=>cases hs
 |nN=>cases hs
def S8{id:Nat}:∀ i,L.mE i->(L.set id (L.own id) (L.val id)<|L.iQ id).mE i/\(L.set id (L.own id) (L.val id)<|L.iQ id).val i=L.val i/\∀ j,(L.set id (L.own id) (L.val id)<|L.iQ id).iQ i j=L.iQ i j:=by
 intro i hi;by_cases e:i=id
 .subst e;exact⟨.inr hi,Lk.ng,λj=>Lk.ot j⟩
 .exact ⟨.inr hi,Lk.A7 e,λj=>Lk.Fw e j⟩
def arn(c r q:Nat):pf c r (pf c r q)=q:=by
 by_cases h1:q=c
 .subst h1;by_cases h2:r=q
  .subst h2;simp[pf]
  .simp [pf,h2]
 .by_cases h2:q=r
  .subst h2;simp[pf,h1]
  .simp [pf,h1,h2]
def QN(hT:mh P T){t:TypeId}{x y:Operand}{ti:TI}(nx:mA T t=some ti)(iK:o.op = .store t x y)(r:jh w0 B σ a w L){id:Nat}{nl:Bool}{T1 T0 n sz:Nat}{len:Nat->Nat}{el:Nat->Nat->Nat->E}{pend:Option Nat}
 (k0:xG (bad B L) (jt L) L w id nl T1 T0 n sz len el pend) {i k:Nat} (hx:kZ (bad B L) (jt L) L w (.oI id 1 i 0)<|a.eval x) (hy:kZ (bad B L) (jt L) L w (.iQ id k)<|a.eval y) (hi:i<n) (hk:k<n) (c2:ti.i.size=1):
 ∃ (b ofs c:Nat) (cur:Array Value) (f:Nat->Nat->Nat->Value),(L.val id = .slice (some ⟨b,ofs,none⟩) n c/\w.heap[b]? = some (.cells cur T1 (0,0))/\n<=c/\c<=maxLen/\ofs+c<=cur.size /\
  (∀ k,k<n->pend≠some k->cur[ofs+k]? = some (L.iQ id k))/\(∀ u,u ∈ cur->qs u=false) /\
  (∀ k,k<n->nu w (L.iQ id k) T0 (len k) sz (f k) nl/\∀ i j,i<len k->j<sz->iO (bad B L) (jt L) w (el k i j) (f k i j)/\(el k i j).nr 2=true) /\
  (∀ x,L.own id x↔x=b\/∃ k,k<n/\(L.iQ id k).ownBlock=some x) /\
  (∀ k k' x,k<n->k'<n->(L.iQ id k).ownBlock=some x->(L.iQ id k').ownBlock=some x->k=k')/\(∀ k,k<n->(L.iQ id k).ownBlock≠some b)) /\
 (execOp a.eval o).run P w = .ok .skip (w.setRow b<|cur.setIfInBounds (ofs+i)<|L.iQ id k)/\ql L w id (L.own id) (w.setRow b<|cur.setIfInBounds (ofs+i)<|L.iQ id k) /\
 ∀ x,x≠b->(w.setRow b<|cur.setIfInBounds (ofs+i)<|L.iQ id k).heap[x]? = w.heap[x]?:=by
 obtain⟨b,ofs,c,cur,f,h1,h2,h3,h4,h5,h6,h7,h8,h9,nU,nV⟩:=k0;obtain⟨k1,b',ofs',n',c',k2,k3⟩:=hx;obtain⟨_,Gv⟩:=hy;rw[h1]at k2;cases k2;have xU:=(h8 k hk).1.BC;have lW:L.own id b:=(h9 b).2<|.inl rfl;have ht:=ql.setRow (L:=L) lW (λx hx=>(r.hw id x hx).2) (cur.toList.take (ofs+(i*1+0))++(a.eval y).cells.toList++cur.toList.drop (ofs+(i*1+0)+(a.eval y).cells.toList.length)).toArray;have Bw:(a.eval y).cells.toList=[L.iQ id k]:=by rw[Gv];exact xU.1
 have XD:(cur.toList.take (ofs+(i*1+0))++(a.eval y).cells.toList++cur.toList.drop (ofs+(i*1+0)+(a.eval y).cells.toList.length)).toArray=cur.setIfInBounds (ofs+i) (L.iQ id k):=by
  rw[Bw];apply dt;simp only[cE,cj,gp,at5];rw[List.set_eq_take_append_cons_drop,bk<|by simpa using(aC:ofs+i<cur.size)];simp
 rw[XD]at ht;refine⟨b,ofs,c,cur,f,⟨h1,h2,h3,h4,h5,h6,h7,h8,h9,nU,nV⟩,?_,ht,λx hx=>setRow_other w b x _ hx⟩;have hr:=Ck hT w nx b (ofs+(i*1+0)) T1 cur h2 (a.eval y) (by rw[Bw];simpa using c2.symm) (by rw[Bw];simp;omega) (by rw[Bw];simpa using xU.2.1);rw[XD]at hr;simp only[execOp,iK,k3,Instr.storeAt,Instr.sureAddr,Sem.run_bind,Sem.run_pure,Result.andThen_ok,hr]
def XF{id:Nat}{nl:Bool}{T1 T0 n sz:Nat}{len:Nat->Nat}{el:Nat->Nat->Nat->E}{pend':Option Nat}{b ofs c i k:Nat}{cur:Array Value}{f:Nat->Nat->Nat->Value}(h1:L.val id = .slice (some ⟨b,ofs,none⟩) n c)(h2:w.heap[b]? = some (.cells cur T1 (0,0)))(h3:n<=c)(h4:c<=maxLen)(h5:ofs+c<=cur.size)
 (h7:∀ u,u ∈ cur->qs u=false)
 (h8:∀ k,k<n->nu w (L.iQ id k) T0 (len k) sz (f k) nl/\∀ i j,i<len k->j<sz->iO (bad B L) (jt L) w (el k i j) (f k i j)/\(el k i j).nr 2=true)
 (h9:∀ x,L.own id x↔x=b\/∃ k,k<n/\(L.iQ id k).ownBlock=some x)
 (nU:∀ k k' x,k<n->k'<n->(L.iQ id k).ownBlock=some x->(L.iQ id k').ownBlock=some x->k=k') (nV:∀ k,k<n->(L.iQ id k).ownBlock≠some b)
 (hl:rJ L w (L.set id (L.own id) (L.val id)<|L.iQ id)<|w.setRow b<|cur.setIfInBounds (ofs+i)<|L.iQ id k) (tN:∀ x,x≠b->(w.setRow b<|cur.setIfInBounds (ofs+i)<|L.iQ id k).heap[x]? = w.heap[x]?) (hk:k<n)
 (h6:∀ q,q<n->pend'≠some q->(cur.setIfInBounds (ofs+i)<|L.iQ id k)[ofs+q]? = some (L.iQ id q)):
 xG (bad B<|L.set id (L.own id) (L.val id)<|L.iQ id) (jt<|L.set id (L.own id) (L.val id)<|L.iQ id) (L.set id (L.own id) (L.val id)<|L.iQ id) (w.setRow b<|cur.setIfInBounds (ofs+i)<|L.iQ id k) id nl T1 T0 n sz len el pend':=by
 refine⟨b,ofs,c,cur.setIfInBounds (ofs+i)<|L.iQ id k,f,by rw[Lk.ng];exact h1,setRow_heap w b _ _ T1 _ h2,h3,h4,by simpa using h5,by simp only[Lk.ot];exact h6,?_,?_,?_,?_,?_⟩
 .intro v hv;rcases at6 hv with hv|hv
  .exact h7 v hv
  .subst hv;exact(h8 k hk).1.BC.2.2
 .intro q hq;obtain⟨p1,p2⟩:=h8 q hq;rw[Lk.ot];exact⟨p1.block λx hx=>tN x λe=>nV q hq<|e▸hx,λi j hi hj=>⟨hl.kJ (p2 i j hi hj).1,(p2 i j hi hj).2⟩⟩
 .intro x;rw[Lk.pX];refine(h9 x).trans ?_;simp only[Lk.ot]
 .simp only[Lk.ot];exact nU
 .simp only[Lk.ot];exact nV
def ajB(hT:mh P T){t:TypeId}{x y:Operand}(iK:o.op = .store t x y)(r:jh w0 B σ a w L)(h:jR P K T O σ o=some u)(ho:∀ q,q ∈ u.jG->q):kg P K w0 B σ o a w u:=by
 simp only[jR,iK,LX]at h;have hx:=r.op x;have hy:=r.op y;split at h
 .rename_i ti nx;split at h
  .
   rename_i id off e nF BK;rw[nF]at hx;rw[BK]at hy;split at h
   .rename_i T1 l m iZ hm;split at h
    .rename_i hc;cases h;simp only[bK]at hc;have c1:=kQ.1 hc.1.1;have c2:=cK hc.1.2;obtain⟨b,vs,h1,h2,h3,h4,h5⟩:=r.hb id _ iZ;obtain⟨k1,b',k2,k3⟩:=hx;rw[h1]at k2;cases k2;obtain⟨q1,q2⟩:=hy.cells hm;have ht:=ql.setRow (L:=L) ((h2 b).2 rfl) (λx hx=>(r.hw id x hx).2) (vs.take off++(a.eval y).cells.toList++vs.drop (off+(a.eval y).cells.toList.length)).toArray;have hl:=ht.later (L.val id)<|L.iQ id;refine⟨undef,_,_,.inr ⟨?_,rfl⟩,r.pC id (.cells T1<|A4 l off m) _ k1 ht ⟨b,_,by rw[Lk.ng];exact h1,λx=>(Lk.pX x).trans<|h2 x,setRow_heap w b _ _ T1 _ h3,(SC h4 q1 off).mono λ_ _=>hl.kJ,?_⟩ ?_,.any _⟩
     .have hr:=Ck hT w nx b off T1 vs.toArray h3 (a.eval y) (by rw[q1.len,c1]) (by rw[q1.len,eV,h4.len];exact c2) q2;simp only[execOp,iK,k3,Instr.storeAt,Instr.sureAddr,Sem.run_bind,Sem.run_pure,Result.andThen_ok,hr]
     .intro v hv;simp only[di]at hv;rcases hv with(hv|hv)|hv
      .exact h5 v<|ef hv
      .exact q2 v hv
      .exact h5 v<|eh hv
     .intro hn;have:=hc.2;rw[hn]at this;exact abn (r.hl hn id _ iZ) (by simpa using this) off
    .cases h
   .rename_i nl T1 l m iZ hm;split at h
    .rename_i hc;cases h;simp only[bK]at hc;have c1:=kQ.1 hc.1.1;have c2:=cK hc.1.2;obtain⟨b,vs,h1,h2,h3,h4,h5,h6⟩:=r.hb id _ iZ;obtain⟨k1,b',k2,k3⟩:=hx;rw[h1]at k2;cases k2;obtain⟨q1,q2⟩:=hy.cells hm;have ht:=ql.setRow (L:=L) ((h2 b).2 rfl) (λx hx=>(r.hw id x hx).2) (vs.take off++(a.eval y).cells.toList++vs.drop (off+(a.eval y).cells.toList.length)).toArray;have hl:=ht.later (L.val id)<|L.iQ id;obtain⟨p1,p2⟩:=abq (R:=kZ (bad B L) (jt L) L w) (R':=kZ (bad B<|L.set id (L.own id) (L.val id)<|L.iQ id) (jt<|L.set id (L.own id) (L.val id)<|L.iQ id) (L.set id (L.own id) (L.val id)<|L.iQ id)<|w.setRow b (vs.take off++(a.eval y).cells.toList++vs.drop (off+(a.eval y).cells.toList.length)).toArray)
      h4 (us:=(a.eval y).cells.toList) (m:=m.map .e) (by rw[q1.len,cG]) off h5 (λi p v hp hv=>by
       rw[cC]at hp;obtain⟨e0,he,rfl⟩:=cg.1 hp;exact hl.kJ<|q1.kJ i e0 v he hv) λp v k=>k.later hl S8
     refine⟨undef,_,_,.inr ⟨?_,rfl⟩,r.pC id (.qn nl T1<|Fg l off<|m.map .e) _ k1 ht ⟨b,_,by rw[Lk.ng];exact h1,λx=>(Lk.pX x).trans<|h2 x,setRow_heap w b _ _ T1 _ h3,p1,p2,?_⟩ ?_,.any _⟩
     .have hr:=Ck hT w nx b off T1 vs.toArray h3 (a.eval y) (by rw[q1.len,c1]) (by rw[q1.len,eV,h4];exact c2) q2;simp only[execOp,iK,k3,Instr.storeAt,Instr.sureAddr,Sem.run_bind,Sem.run_pure,Result.andThen_ok,hr]
     .intro v hv;simp only[di]at hv;rcases hv with(hv|hv)|hv
      .exact h6 v<|ef hv
      .refine ⟨q2 v hv,λhn=>?_⟩;have:=hc.2;rw[hn]at this;have F8:m.all E.mf=true:=by simpa using this
       obtain⟨i,hi⟩:=dD.1 hv;have iN:i<m.length:=by rw[<-q1.len];exact(cD.1 hi).1
       exact(q1.kJ i _ v (bD iN) hi).mf<|bO.1 F8 _<|cB iN
      .exact h6 v<|eh hv
     .intro hn;exact r.hl hn id (.qn nl T1 l) iZ
    .cases h
   .rename_i T1 b l m iZ hm;split at h
    .rename_i hc;cases h;simp only[bK]at hc;have c1:=kQ.1 hc.1.1;have c2:=cK hc.1.2;obtain⟨vs,h1,h2,h3,h4,h5⟩:=r.hb id _ iZ;obtain⟨k1,b',k2,k3⟩:=hx;rw[h1]at k2;cases k2;obtain⟨q1,q2⟩:=hy.cells hm;have ht:=ql.setRow (L:=L) ((h2 b).2 rfl) (λx hx=>(r.hw id x hx).2) (vs.take off++(a.eval y).cells.toList++vs.drop (off+(a.eval y).cells.toList.length)).toArray;have hl:=ht.later (L.val id)<|L.iQ id;refine⟨undef,_,_,.inr ⟨?_,rfl⟩,r.pC id (.nN T1 b<|A4 l off m) _ k1 ht ⟨_,by rw[Lk.ng];exact h1,λx=>(Lk.pX x).trans<|h2 x,setRow_heap w b _ _ T1 _ h3,(SC h4 q1 off).mono λ_ _=>hl.kJ,?_⟩ ?_,.any _⟩
     .have hr:=Ck hT w nx b off T1 vs.toArray h3 (a.eval y) (by rw[q1.len,c1]) (by rw[q1.len,eV,h4.len];exact c2) q2;simp only[execOp,iK,k3,Instr.storeAt,Instr.sureAddr,Sem.run_bind,Sem.run_pure,Result.andThen_ok,hr]
     .intro v hv;simp only[di]at hv;rcases hv with(hv|hv)|hv
      .exact h5 v<|ef hv
      .exact q2 v hv
      .exact h5 v<|eh hv
     .intro hn;have:=hc.2;rw[hn]at this;exact abn (r.hl hn id _ iZ) (by simpa using this) off
    .cases h
   .cases h
  .
   rename_i id off q nF BK;rw[nF]at hx;rw[BK]at hy;unfold FW at h;split at h
   rotate_left
   .unfold LY at h;split at h
    .rename_i nl T1 l bq iZ vf;split at h
     .rename_i hc;cases h;simp only[bK]at hc;have c1:=kQ.1 hc.1.2;have c2:off<l.length:=by simpa[fK]using hc.2
      obtain⟨b,vs,h1,h2,h3,h4,h5,h6⟩:=r.hb id _ iZ;obtain⟨k1,b',k2,k3⟩:=hx;rw[h1]at k2;cases k2;obtain⟨Ys,BP⟩:=hy;obtain⟨d1,d2,d3⟩:=(r.hb q _ vf).BC hc.1.1;have nL:(a.eval y).cells.toList=[L.val q]:=by rw[BP,d1]
      have ht:=ql.setRow (L:=L) ((h2 b).2 rfl) (λx hx=>(r.hw id x hx).2) (vs.take off++[L.val q]++vs.drop (off+[L.val q].length)).toArray;have hl:=ht.later (L.val id)<|L.iQ id;obtain⟨p1,p2⟩:=abq (R:=kZ (bad B L) (jt L) L w) (R':=kZ (bad B<|L.set id (L.own id) (L.val id)<|L.iQ id) (jt<|L.set id (L.own id) (L.val id)<|L.iQ id) (L.set id (L.own id) (L.val id)<|L.iQ id)<|w.setRow b (vs.take off++[L.val q]++vs.drop (off+[L.val q].length)).toArray)
       h4 (us:=[L.val q]) (m:=[.own q]) rfl off h5 (λi p v hp hv=>by
        cases i with
        |zero=>
         simp at hp hv;subst hp hv;have:=S8 (L:=L) (id:=id) q Ys;exact⟨this.1,this.2.1.symm⟩
        |succ i=>simp at hp) λp v k=>k.later hl S8
      refine⟨undef,_,_,.inr ⟨?_,rfl⟩,r.pC id (.qn nl T1<|Fg l off [.own q]) _ k1 ht ⟨b,_,by rw[Lk.ng];exact h1,λx=>(Lk.pX x).trans<|h2 x,setRow_heap w b _ _ T1 _ h3,p1,p2,?_⟩ ?_,.any _⟩
      .have hr:=Ck hT w nx b off T1 vs.toArray h3 (a.eval y) (by rw[nL,c1];rfl) (by rw[nL,eV,h4];exact c2) (by rw[nL];exact λu hu=>by rw[eu.1 hu];exact d2);rw[nL]at hr;simp only[execOp,iK,k3,Instr.storeAt,Instr.sureAddr,Sem.run_bind,Sem.run_pure,Result.andThen_ok,hr]
      .intro v hv;simp only[di]at hv;rcases hv with(hv|hv)|hv
       .exact h6 v<|ef hv
       .rw [eu.1 hv];exact⟨d2,λ_=>d3⟩
       .exact h6 v<|eh hv
      .intro hn;exact r.hl hn id (.qn nl T1 l) iZ
     .cases h
    .cases h
   rename_i u' hM;cases h;unfold LZ at hM;have h:=hM;clear hM;split at h
   .rename_i T1 x0 nl T0 n sz el iZ vf;split at h
    .rename_i hc;cases h;rw[bK]at hc;obtain⟨hc,pR⟩:=hc;have e0:=kQ.1 pR;subst e0;simp only[bK,du]at hc;have jV:id≠q:=λe=>by rw[e,cH]at hc;cases hc.1
     have c1:=kQ.1 hc.2;obtain⟨b,vs,h1,h2,h3,h4,h5⟩:=r.hb id _ iZ;obtain⟨k1,b',k2,k3⟩:=hx;rw[h1]at k2;cases k2;obtain⟨_,BP⟩:=hy;obtain⟨v0,rfl⟩:∃ v0,vs=[v0]:=by
      have:=h4.len;rcases vs with _|⟨v0,_|⟨v1,vs⟩⟩
      .simp at this
      .exact ⟨v0,rfl⟩
      .simp at this
     obtain⟨f,g1,_⟩:=r.hb q _ vf;have kF:(L.val q).cells.toList=[L.val q]/\(L.val q).oneCell'=true:=by
      rcases g1 with⟨g,_⟩|⟨b1,o1,c1,cur,g,_⟩<;>rw[g]<;>exact⟨rfl,rfl⟩
     have ht:=ql.setRow (L:=L) ((h2 b).2 rfl) (λx hx=>(r.hw id x hx).2) #[L.val q];obtain⟨L',hr⟩:=r.py iZ vf jV h1 (setRow_heap w b _ _ T1 _ h3) ht;refine⟨undef,_,L',.inr ⟨?_,rfl⟩,hr,.any _⟩;have kr:=Ck hT w nx b 0 T1 #[v0] h3 (a.eval y) (by rw[BP,kF.1,c1];rfl) (by rw[BP,kF.1];exact bw 1) (by rw[BP,kF.1];exact λu hu=>by rw[eu.1 hu];exact kF.2);rw[BP,kF.1]at kr;simp only[execOp,iK,k3,Instr.storeAt,Instr.sureAddr,Sem.run_bind,Sem.run_pure,Result.andThen_ok,BP,kr];rfl
    .cases h
   .cases h
  .
   rename_i id sz i j e nF BK;rw[nF]at hx;rw[BK]at hy;split at h
   .rename_i nl T1 n s el m iZ hm;split at h
    .rename_i hc;cases h;simp only[bK]at hc;have c1:=kQ.1 hc.1.1.1.1;have c2:=kQ.1 hc.1.1.1.2;have c3:=cK hc.1.1.2;subst c2;have hi:i<n:=ho _ aH;obtain⟨f,h1,h2,h3⟩:=r.hb id _ iZ;obtain⟨k1,b',of',n',c',k2,k3⟩:=hx;obtain⟨q1,q2⟩:=hy.cells hm;obtain⟨cur,hg,qS,y9⟩:=nu.store h1 k2 (j:=j) hi (a.eval y).cells.toList (by rw[q1.len];exact c3) q2 (λhn v hv=>by
      obtain⟨q,hq⟩:=dD.1 hv;have vj:q<m.length:=by rw[<-q1.len];exact(cD.1 hq).1
      have I9:m.all E.mf=true:=by have:=hc.1.2;rw[hn]at this;simpa using this
      exact(q1.kJ q _ v (bD vj) hq).mf<|bO.1 I9 _<|cB vj)
     have lW:L.own id b':=(h2 b').2 (by rw[k2];rfl);have ht:=ql.setRow (L:=L) lW (λx hx=>(r.hw id x hx).2) (cur.toList.take (of'+(i*s+j))++(a.eval y).cells.toList++cur.toList.drop (of'+(i*s+j)+(a.eval y).cells.toList.length)).toArray;have hl:=ht.later (L.val id)<|L.iQ id;refine⟨undef,_,_,.inr ⟨?_,rfl⟩,r.pC id _ _ k1 ht ⟨λi' j'=>if i'=i/\j<=j'/\j'<j+m.length then(a.eval y).cells.toList.getD (j'-j) undef else f i' j',?_,λx=>?_,?_⟩ ?_,.any _⟩
     .have hr:=Ck hT w nx b' (of'+(i*s+j)) T1 cur hg (a.eval y) (by rw[q1.len,c1]) qS q2;simp only[execOp,iK,k3,Instr.storeAt,Instr.sureAddr,Sem.run_bind,Sem.run_pure,Result.andThen_ok,hr]
     .rw [Lk.ng];rw[q1.len]at y9;rw[q1.len];exact y9
     .rw [Lk.ng];exact(Lk.pX x).trans<|h2 x
     .intro i' j' lg q8;refine(λ(q:iO _ _ _ _ _/\_)=>⟨hl.kJ q.1,q.2⟩) (?_:_/\_);dsimp only;by_cases kP:i'=i/\j<=j'/\j'<j+m.length
      .rw [bk kP,bk kP];have xT:j'-j<m.length:= aC ;have Aw:j'-j<(a.eval y).cells.toList.length:=by rw[q1.len];omega
       rw[bt,bD xT,bt,bD Aw];exact⟨q1.kJ _ _ _ (bD xT)<|bD Aw,bO.1 hc.2 _<|cB xT⟩
      .rw [bj kP,bj kP];exact h3 i' j' lg q8
     .intro hn;have:=r.hl hn id _ iZ;exact this
    .cases h
   .cases h
  .
   rename_i id i id' k nF BK;rw[nF]at hx;rw[BK]at hy;split at h
   .rename_i nl T1 T0 n sz len el k' iZ;split at h
    .rename_i hc;cases h;simp only[bK]at hc;have c1:=kQ.1 hc.1;have c2:=kQ.1 hc.2;subst c1;have e1:i=k':=ho _ aH;have e2:k=k':=ho _ aH;have hk:k'<n:=ho _ aH;subst e1 e2;obtain⟨b,ofs,c,cur,f,⟨h1,h2,h3,h4,h5,h6,h7,h8,h9,nU,nV⟩,kr,ht,tN⟩:=QN hT nx iK r ((r.hb id _ iZ).wm aC) hx hy hk hk c2;have hl:=ht.later (L.val id)<|L.iQ id;refine⟨undef,_,_,.inr ⟨kr,rfl⟩,r.pC id _ _ hx.1 ht (.inr<|XF h1 h2 h3 h4 h5 h7 h8 h9 nU nV hl tN hk λq hq _=>?_) (λhn=>by have:=r.hl hn id _ iZ;exact this),.any _⟩;by_cases tl:q=k
     .subst tl;have:ofs+q<cur.size:= aC ;simp[this]
     .rw [gE λe=>tl aC];exact h6 q hq<|by simpa using λe=>tl e.symm
    .cases h
   .rename_i nl T1 T0 n sz len el iZ;split at h
    .rename_i hc;cases h;simp only[bK]at hc;have c1:=kQ.1 hc.1;have c2:=kQ.1 hc.2;subst c1;have hi:i<n:=ho _ aH;have hk:k<n:=ho _ aH;obtain⟨b,ofs,c,cur,f,⟨h1,h2,h3,h4,h5,h6,h7,h8,h9,nU,nV⟩,kr,ht,tN⟩:=QN hT nx iK r ((r.hb id _ iZ).wm aC) hx hy hi hk c2;have hl:=ht.later (L.val id)<|L.iQ id;have iN:ofs+i<cur.size:= aC ;refine⟨undef,_,_,.inr ⟨kr,rfl⟩,r.pC id _ _ hx.1 ht ⟨XF h1 h2 h3 h4 h5 h7 h8 h9 nU nV hl tN hk λq hq xX=>?_,hi,hk,λb' ofs' m q hv=>?_⟩ (λhn=>by have:=r.hl hn id _ iZ;exact this),.any _⟩
     .rw [gE λe=>xX<|by rw[(aC:i=q)]];exact h6 q hq aH 
     .rw [Lk.ng,h1]at hv;cases hv;rw[Lk.ot];simp only[World.cell?,setRow_heap w b _ _ T1 _ h2];simp[iN]
    .cases h
   .rename_i nl T1 T0 n sz len el c r' iZ;split at h
    .rename_i hc;cases h;simp only[bK]at hc;have c1:=kQ.1 hc.1;have c2:=kQ.1 hc.2;subst c1;have e1:i=r':=ho _ aH;have e2:k=c:=ho _ aH;subst e1 e2;obtain⟨sV,pR,Ra,kF⟩:=r.hb id _ iZ;obtain⟨b,ofs,c,cur,f,⟨h1,h2,h3,h4,h5,h6,h7,h8,h9,nU,nV⟩,kr,ht,tN⟩:=QN hT nx iK r sV hx hy Ra pR c2;have hl:=ht.later (L.val id) λq=>L.iQ id<|pf k i q;have EA:∀ q,q<n->pf k i q<n:=λq hq=>by unfold pf;split;exact Ra;split;exact pR;exact hq
     have Rc:∀ q,pf k i (pf k i q)=q:=arn k i;refine⟨undef,_,_,.inr ⟨kr,rfl⟩,r.tf id _ _ (λq=>L.iQ id<|pf k i q) _ ht (.inr ⟨b,ofs,c,cur.setIfInBounds (ofs+i)<|L.iQ id k,λq=>f<|pf k i q,by rw[Lk.ng];exact h1,setRow_heap w b _ _ T1 _ h2,h3,h4,by simpa using h5,?_,?_,?_,?_,?_,?_⟩) (λhn=>by have:=r.hl hn id _ iZ;exact this),.any _⟩
     .intro q hq _;rw[Lk.ot];by_cases xX:q=i
      .subst xX;have iN:ofs+q<cur.size:= aC ;have e:pf k q q=k:=by unfold pf;split;(rename_i e;exact e);rw[bk rfl]
       rw[e];simp[iN]
      .rw [gE λe=>xX aC];by_cases tl:q=k
       .subst tl;have e:pf q i q=i:=by unfold pf;rw[bk rfl]
        rw[e];have:=kF b ofs _ _ h1;simp only[World.cell?,h2]at this;simpa using this
       .have e:pf k i q=q:=by unfold pf;rw[bj tl,bj xX]
        rw[e];exact h6 q hq<|by simpa using λe=>tl e.symm
     .intro v hv;rcases at6 hv with hv|hv
      .exact h7 v hv
      .subst hv;exact(h8 k pR).1.BC.2.2
     .intro q hq;obtain⟨p1,p2⟩:=h8 _<|EA q hq;rw[Lk.ot];exact⟨p1.block λx hx=>tN x λe=>nV _ (EA q hq)<|e▸hx,λi j hi hj=>⟨hl.kJ (p2 i j hi hj).1,(p2 i j hi hj).2⟩⟩
     .intro x;rw[Lk.pX];refine(h9 x).trans ?_;simp only[Lk.ot];constructor
      .rintro (h|⟨q,hq,h⟩)
       .exact .inl h
       .exact .inr ⟨pf k i q,EA q hq,by rw[Rc];exact h⟩
      .rintro (h|⟨q,hq,h⟩)
       .exact .inl h
       .exact .inr ⟨pf k i q,EA q hq,h⟩
     .simp only[Lk.ot];intro q q' x hq vi hx w9;have:=nU _ _ x (EA q hq) (EA q' vi) hx w9;rw[<-Rc q,this,Rc]
     .simp only[Lk.ot];exact λq hq=>nV _<|EA q hq
    .cases h
   .cases h
  .
   rename_i id sz i j k e nF BK;rw[nF]at hx;rw[BK]at hy;split at h
   .rename_i nl T1 T0 n s len el pd m iZ hm;split at h
    .rename_i hc;cases h;simp only[bK]at hc;have c1:=kQ.1 hc.1.1.1.1;have c2:=kQ.1 hc.1.1.1.2;have c3:=cK hc.1.1.2;subst c2;have wY:i<n:=ho _ aH;have Eo:j<len i:=ho _ aH;obtain⟨b,ofs,c,cur,f,h1,h2,h3,h4,h5,h6,h7,h8,h9,nU,nV⟩:=(r.hb id _ iZ).wm aC;obtain⟨k1,b',of',n',c',k2,k3⟩:=hx;obtain⟨q1,q2⟩:=hy.cells hm;obtain⟨akp,aj7⟩:=h8 i wY;obtain⟨cur',hg,qS,y9⟩:=nu.store akp k2 (j:=k) Eo (a.eval y).cells.toList (by rw[q1.len];exact c3) q2 (λhn v hv=>by
      obtain⟨q,hq⟩:=dD.1 hv;have vj:q<m.length:=by rw[<-q1.len];exact(cD.1 hq).1
      have I9:m.all E.mf=true:=by have:=hc.1.2;rw[hn]at this;simpa using this
      exact(q1.kJ q _ v (bD vj) hq).mf<|bO.1 I9 _<|cB vj)
     have qg:(L.iQ id i).ownBlock=some b':=by rw[k2];rfl
     have lW:L.own id b':=(h9 b').2<|.inr ⟨i,wY,qg⟩;have ht:=ql.setRow (L:=L) lW (λx hx=>(r.hw id x hx).2) (cur'.toList.take (of'+(j*s+k))++(a.eval y).cells.toList++cur'.toList.drop (of'+(j*s+k)+(a.eval y).cells.toList.length)).toArray;have hl:=ht.later (L.val id)<|L.iQ id;have jV:b'≠b:=λe=>nV i wY<|e▸qg
     refine⟨undef,_,_,.inr ⟨?_,rfl⟩,r.pC id _ _ k1 ht (.inr ⟨b,ofs,c,cur,λk' i' j'=>if k'=i/\i'=j/\k<=j'/\j'<k+m.length then(a.eval y).cells.toList.getD (j'-k) undef else f k' i' j',by rw[Lk.ng];exact h1,by rw[setRow_other w b' b _ jV.symm];exact h2,h3,h4,h5,by simp only[Lk.ot];exact h6,h7,?_,?_,by simp only[Lk.ot];exact nU,by simp only[Lk.ot];exact nV⟩) ?_,.any _⟩
     .have hr:=Ck hT w nx b' (of'+(j*s+k)) T0 cur' hg (a.eval y) (by rw[q1.len,c1]) qS q2;simp only[execOp,iK,k3,Instr.storeAt,Instr.sureAddr,Sem.run_bind,Sem.run_pure,Result.andThen_ok,hr]
     .intro q hq;rw[Lk.ot];by_cases xX:q=i
      .subst xX;refine⟨?_,λi' j' lg q8=>?_⟩
       .rw [q1.len]at y9 ⊢;simpa only[fJ]using y9
       .refine (λ(q:iO _ _ _ _ _/\_)=>⟨hl.kJ q.1,q.2⟩) (?_:_/\_);dsimp only;by_cases kP:i'=j/\k<=j'/\j'<k+m.length
        .rw [bk ⟨rfl,kP⟩,bk ⟨rfl,kP⟩];have xT:j'-k<m.length:= aC ;have Aw:j'-k<(a.eval y).cells.toList.length:=by rw[q1.len];omega
         rw[bt,bD xT,bt,bD Aw];exact⟨q1.kJ _ _ _ (bD xT)<|bD Aw,bO.1 hc.2 _<|cB xT⟩
        .rw [bj λh=>kP h.2,bj λh=>kP h.2];exact aj7 i' j' lg q8
      .obtain ⟨p1,p2⟩:=h8 q hq;refine⟨?_,λi' j' lg q8=>?_⟩
       .simp only[xX,false_and,bB];exact p1.block λx hx=>setRow_other w b' x _ λe=>xX<|nU q i x hq wY hx<|e▸qg
       .simp only[xX,false_and,bB];exact⟨hl.kJ (p2 i' j' lg q8).1,(p2 i' j' lg q8).2⟩
     .intro x;rw[Lk.pX];simp only[Lk.ot];exact h9 x
     .intro hn;have:=r.hl hn id _ iZ;exact this
    .cases h
   .cases h
  .cases h
 .cases h
def aja(hT:mh P T){t:TypeId}(iK:o.op = .alloc t)(r:jh w0 B σ a w L)(h:jR P K T O σ o=some u):kg P K w0 B σ o a w u:=by
 simp only[jR,iK]at h;split at h
 .rename_i ti nx;split at h
  .rename_i z hz;obtain⟨id,hd,jQ,rfl⟩:=MZ h;obtain⟨zv,uF,sW⟩:=Hv hz;obtain⟨q1,q2⟩:=sW (bad B L) (jt L) w;obtain⟨L',r',hp⟩:=r.aaK id t z zv q1 q2 (by simpa[Bx.nl]using jQ);refine⟨_,_,L',.inl ?_,r',hp⟩;simp only[execOp,iK,Instr.alloc,Sem.run_bind,NO hT w nx uF,Result.andThen_ok,newVar,newRow,run_newObj_alloc,Sem.run_pure]
  .cases h
 .cases h
def aje{t:TypeId}{x:Operand}(iK:o.op = .box t x)(r:jh w0 B σ a w L)(h:jR P K T O σ o=some u):kg P K w0 B σ o a w u:=by
 simp only[jR,iK]at h;have hx:=r.op x;split at h
 .rename_i e hv;rw[hv]at hx;split at h
  .rename_i l hl;obtain⟨id,hd,jQ,rfl⟩:=MZ h;obtain⟨q1,q2⟩:=hx.cells hl;obtain⟨L',r',hp⟩:=r.aaK id t l (a.eval x) q1 q2 (by simpa[Bx.nl]using jQ);refine⟨_,_,L',.inl ?_,r',hp⟩;simp only[execOp,iK,Instr.box,Sem.run_bind,Result.andThen_ok,newVar,newRow,run_newObj_alloc,Sem.run_pure]
  .cases h
 .cases h
end
def aiO(us:List Value):∀ (off k:Nat) (cs:Array Value),off+k+us.length<=cs.size ->
 (us.zipIdx k).foldl (λcs (c:Value×Nat)=>cs.setIfInBounds (off+c.2) c.1) cs=(cs.toList.take (off+k)++us++cs.toList.drop (off+k+us.length)).toArray:=by
 induction us with
 |nil=>intro off k cs h;simp
 |cons x us ih=>
  intro off k cs h;simp only[List.zipIdx_cons,List.foldl_cons];rw[ih off (k+1) _<|by simp at h ⊢;omega];apply dt;simp only[cS]at h;obtain⟨A,y,D,nL,hA⟩:∃ A y D,cs.toList=A++y::D/\A.length=off+k:=by
   have iN:off+k<cs.toList.length:= aN ;refine⟨cs.toList.take<|off+k,cs.toList[off+k],cs.toList.drop<|off+k+1,?_,by rw[cJ];omega⟩;rw[<-fC iN,atw]
  simp only[at5,cS,nL,<-hA];rw[List.set_append_right _ _<|bw _,dg,List.set_cons_zero,
   show off+(k+1)+us.length=A.length+(us.length+1)by omega,(aC:off+(k+1)=A.length+1),
   List.take_length_add_append,at7,List.take_left,at7]
  simp
def WB(place:Nat->Option (Nat×Nat))(cs:Array Value)(i:Nat)(v:Value)(rest:List<|Nat×Value)(off:Nat)(hp:place i=some (off,v.cells.toList.length))(qS:off+v.cells.toList.length<=cs.size):
 Instr.fill place cs ((i,v)::rest)=Instr.fill place (cs.toList.take off++v.cells.toList++cs.toList.drop (off+v.cells.toList.length)).toArray rest:=by
 have h1:¬(v.cells.size≠v.cells.toList.length\/off+v.cells.size>cs.size):=by simp at qS ⊢;omega
 have hf:=aiO v.cells.toList off 0 cs (by simpa using qS);simp only[cj]at hf;have h2:(v.cells.zipIdx.foldl (λcs (c,j)=>cs.setIfInBounds (off+j) c) cs)=(cs.toList.take off++v.cells.toList++cs.toList.drop (off+v.cells.toList.length)).toArray:=by
  rw[<-hf,<-Array.foldl_toList,Array.toList_zipIdx]
 rw[Instr.fill,hp];simp only;rw[bj<|by simpa using h1,h2]
section
variable {P:Program} {K:World->Prop} {T:List TI} {O:qY} {w0:mQ} {B:Nat->Prop} {σ:PS} {o:Oper} {a:Act} {w:World} {L:Lk} {u:kN}
def P7(r:jh w0 B σ a w L){place:Nat->Option (Nat×Nat)}{ps:List<|Nat×Operand}{l m:List E}{cs:Array Value}(h:tI σ place l ps=some m)
 (hr:ku (bad B L) (jt L) w l cs.toList) (h1:∀ u ∈ cs,u.oneCell'=true):
 ∃ cs',Instr.fill place cs (ps.map λx=>(x.1,a.eval x.2))=some cs'/\ku (bad B L) (jt L) w m cs'.toList/\(∀ u ∈ cs',u.oneCell'=true):=by
 induction ps generalizing l cs with
 |nil=>
  simp only[tI]at h;cases h;exact⟨cs,rfl,hr,h1⟩
 |cons p ps ih=>
  obtain⟨i,x⟩:=p;simp only[tI]at h;have hx:=r.op x;split at h
  .rename_i off size e hp hv;rw[hv]at hx;split at h
   .rename_i q hq;split at h
    .rename_i hc;simp only[bK]at hc;have c1:=kQ.1 hc.1;have c2:=cK hc.2;obtain⟨q1,q2⟩:=hx.cells hq;have hlen:(a.eval x).cells.toList.length=size:=by rw[q1.len,c1]
     have By:=hr.len;rw[eU,WB place cs i (a.eval x) _ off (by rw[hlen];exact hp)<|by rw[q1.len];simp at By;omega];refine ih h (SC hr q1 off) λv hv=>?_
     simp only[ia,di]at hv;rcases hv with(hv|hv)|hv
     .exact h1 v<|by have:=ef hv;simpa using this
     .exact q2 v hv
     .exact h1 v<|by have:=eh hv;simpa using this
    .cases h
   .cases h
  .cases h
def SA(ps:Array<|Nat×Operand)(a:Act):(ps.map λ(x:Nat×Operand)=>(x.1,a.eval x.2)).toList=ps.toList.map λx=>(x.1,a.eval x.2):= aH 
def aot{P:Program}(hT:mh P T){fs:List Field}{pl:List<|Nat×Nat}(h:Kf T fs=some pl):fs.mapM (λf=>(P.info? f.type).map λi=>(f.offset,i.size))=some pl:=by
 induction fs generalizing pl with
 |nil=>simp only[Kf]at h;cases h;rfl
 |cons f fs ih=>
  simp only[Kf]at h;split at h
  .rename_i ti l h1 h2;cases h;simp[eX,hT.BT h1,ih h2]
  .cases h
def ajf(hT:mh P T){t:TypeId}{ps:Array<|Nat×Operand}(iK:o.op = .build t ps)(r:jh w0 B σ a w L)(h:jR P K T O σ o=some u):kg P K w0 B σ o a w u:=by
 simp only[jR,iK]at h;have main:∀ (l:List E) (cs:Array Value),P.built t (ps.toList.map λx=>(x.1,a.eval x.2))=some cs->ku (bad B L) (jt L) w l cs.toList->u={ r:=.e<|.agg l }->kg P K w0 B σ o a w u:=by
  intro l cs hb hr hu;subst hu;have kr:=run_build (P:=P) w t (ps.map λ(x:Nat×Operand)=>(x.1,a.eval x.2)) cs (by rw[SA];exact hb);refine kg.pure r (v:=.agg cs) ?_ rfl (by have:=hr.agg;rwa[Array.toArray_toList]at this);simp only[execOp,iK,Sem.run_bind,kr,Result.andThen_ok,Sem.run_pure]
 split at h
 .rename_i ti nx;split at h
  .rename_i z hz;obtain⟨zv,uF,sW⟩:=Hv hz;obtain⟨q1,q2⟩:=sW (bad B L) (jt L) w;split at h
   .rename_i fs hd;split at h
    .rename_i pl Eu;obtain⟨l,hl,rfl⟩:=cg.1 h;obtain⟨cs,p1,p2,_⟩:=P7 r hl q1 (λu hu=>q2 u<|by simpa using hu);refine main l cs ?_ p2 rfl;unfold Program.built;rw[hT.BT nx,hT.rj nx,hd];simp only[uF,aot hT Eu];have:(λx:Nat=>pl.toArray[x]?)=λx=>pl[x]?:=by funext x;simp
     rw[this];exact p1
    .cases h
   .rename_i n e hd;split at h
    .rename_i te nM;obtain⟨l,hl,rfl⟩:=cg.1 h;obtain⟨cs,p1,p2,_⟩:=P7 r hl q1 (λu hu=>q2 u<|by simpa using hu);refine main l cs ?_ p2 rfl;unfold Program.built;rw[hT.BT nx,hT.rj nx,hd];simp only[uF,hT.BT nM];exact p1
    .cases h
   .cases h
  .cases h
 .cases h
def abF{α:Type}(n:Nat)(l:List α):(kJ n l).length=n*l.length:=by
 induction n with
 |zero=>simp[kJ]
 |succ n ih=>simp only[kJ,cz,ih,bT,bX];omega
def apg{α:Type}(n:Nat)(l:List α)(q:Nat)(h:q<n*l.length):(kJ n l)[q]? = l[q%l.length]?:=by
 induction n generalizing q with
 |zero=>simp at h
 |succ n ih=>
  simp only[kJ];rw[bT,bX]at h;by_cases hq:q<l.length
  .rw [dh hq,cF hq]
  .rw [dL aC,ih _ aC];congr 1;exact(Nat.mod_eq_sub_mod aC).symm
def aph{bs br:Nat->Prop}{z:List E}{zs:Array Value}(h:ku bs br w z zs.toList)(n:Nat):ku bs br w (kJ n z) ((Array.range<|n*zs.size).map (zs[· % zs.size]!)).toList:=by
 have hl:=h.len;simp only[dR]at hl;refine⟨by simp[abF,hl],λi p x hp hx=>?_⟩;have hi:i<n*zs.size:=by
  have:=(cD.1 hx).1;simpa using this
 have hz:0<zs.size:=by
  rcases fi zs.size with h0|h0
  .rw [h0]at hi;simp at hi
  .exact h0
 rw[apg _ _ _<|by rw[<-hl];exact hi,<-hl]at hp;have iN:=bR i hz;simp[hi]at hx;subst hx;rw[fN zs _ iN];exact h.kJ _ p _ hp<|by simp[iN]
def acC(hB:∀ b,B b->w0.vH b)(r:jh w0 B σ a w L)(e:TypeId)(n sz:Nat)(l:List E)(cs:Array Value)(nl:Bool)(hr:ku (bad B L) (jt L) w l cs.toList)(h1:∀ u ∈ cs,u.oneCell'=true)(hlen:cs.size=n*sz)
 (sU:n<=9223372036854775807) (jQ:nl=true->l.all E.mf=true) (vh:l.all (E.nr 2)=true):
 jh w0 B σ a (w.alloc<|.cells cs e) L/\iO (bad B L) (jt L) (w.alloc<|.cells cs e) (.sl nl n sz λi j=>l.getD (i*sz+j)<|.v<|.bool false) (.slice (some ⟨w.heap.size,0,none⟩) n n):=by
 have hb:Below w.heap.size w<|w.alloc<|.cells cs e:=(Below.refl _ _).alloc (bw _) _;have hl:rJ L w L<|w.alloc<|.cells cs e:=⟨hb.size,λ_ _ h=>h,λx hx _=>hb.block x hx⟩
 refine⟨r.later hb,?_⟩;have kP:∀ i j,i<n->j<sz->i*sz+j<cs.size:=by
  intro i j hi hj;rw[hlen];have:=bU sz<|show i+1<=n from hi;rw[bT,bX]at this;omega
 have hll:=hr.len;simp only[dR]at hll;refine .sl nl n sz _ _ n (λi j=>cs.getD (i*sz+j) undef) (bw _) sU (λh=>by cases h) (λi j hi hj=>?_) (λi j hi hj=>?_) (λi j hi hj=>?_) λi j hi hj=>?_
 .have hq:=kP i j hi hj;have e1:cs.getD (i*sz+j) undef=cs[i*sz+j]:=by simp[hq]
  rw[e1];refine⟨h1 _<|gY hq,λsn=>?_⟩;have vi:i*sz+j<l.length:= aC ;exact(hr.kJ (i*sz+j) _ _ (bD vi)<|by simp[hq]).mf<|bO.1 (jQ sn) _<|cB vi
 .have hq:=kP i j hi hj;have vi:i*sz+j<l.length:= aC ;rw[bt,bD vi];exact bO.1 vh _<|cB vi
 .have hq:=kP i j hi hj;refine⟨w.heap.size,0,rfl,λpQ=>?_,aH,?_⟩
  .rcases pQ with hx|⟨id,hx⟩
   .have:=(hB _ hx).1;have:=r.he.size;omega
   .have:=(r.hw id _ hx).2;omega
  .rw [cw,World.cell?_alloc_new];simp[hq]
 .have hq:=kP i j hi hj;have vi:i*sz+j<l.length:= aC ;have e1:cs.getD (i*sz+j) undef=cs[i*sz+j]:=by simp[hq]
  rw[e1,bt,bD vi];exact hl.kJ<|hr.kJ (i*sz+j) _ _ (bD vi)<|by simp[hq]
def al5{l:List E}{vs:List Value}{bs br:Nat->Prop}{w:World}(h:ku bs br w l vs)(hl:l.all E.mf=true):∀ v ∈ vs,qs v=false:=by
 intro v hv;obtain⟨i,hi⟩:=dD.1 hv;obtain⟨BD,_⟩:=cD.1 hi;have Eo:i<l.length:=by have:=h.len;omega
 exact(h.kJ i _ v (bD Eo) hi).mf<|bO.1 hl _<|cB Eo
def Vb(w:World)(hT:mh P T){t e:TypeId}{by_:Nat}(h:Ls T t=some (e,by_)):∃ te zv uz,P.underlying t=some (.slice e)/\mA T e=some te/\te.i.size=1/\te.i.bytes=by_/\1<=by_/\te.i.zero=some zv/\zv.cells = #[uz]/\uz.oneCell'=true/\qs uz=false:=by
 unfold Ls at h;split at h
 .rename_i tt re;split at h
  .rename_i e' hd;split at h
   .rename_i te nM;split at h
    .rename_i z hz;split at h
     .rename_i hc;simp only[bG,bS]at h;obtain⟨rfl,rfl⟩:=h;simp only[bK]at hc;obtain⟨zv,uF,sW⟩:=Hv hz;obtain⟨q1,q2⟩:=sW (λ_=>False) (λ_=>False) w;have hl:=q1.len;simp only[dR,cS,eC]at hl;obtain⟨uz,Yh⟩:∃ uz,zv.cells = #[uz]:=by
       refine⟨zv.cells[0],?_⟩;apply Array.ext
       .simpa using hl
       .intro i h1 h2;obtain rfl:i=0:=by simp at h2;omega
        rfl
      rw[Yh]at q1 q2;exact⟨te,zv,uz,by rw[hT.rj re,hd],nM,kQ.1 hc.1.1,rfl,cK hc.1.2,uF,Yh,q2 uz aH,(q1.kJ 0 z uz rfl rfl).mf hc.2⟩
     .cases h
    .cases h
   .cases h
  .cases h
 .cases h
def nu.head{v:Value}{T:TypeId}{n sz:Nat}{f:Nat->Nat->Value}{nl:Bool}(h:nu w v T n sz f nl):v.cells.toList=[v]/\v.oneCell'=true/\qs v=false:=by
 rcases h with⟨g,_⟩|⟨b1,o1,c1,cur,g,_⟩<;>rw[g]<;>exact⟨rfl,rfl,rfl⟩
def ajD(hT:mh P T){t:TypeId}{n q:Nat}{ps:Array<|Nat×Operand}(iK:o.op = .buildSlice t n ps)(uD:Du σ ps.toList=some q)(r:jh w0 B σ a w L)(h:D8 T σ o.dst t n q=some u):kg P K w0 B σ o a w u:=by
 obtain⟨x,nF,hx⟩:∃ x,ps.toList=[(0,x)]/\σ.op x = .own q:=by
  unfold Du at uD;split at uD
  .rename_i x nF;refine⟨x,nF,?_⟩;generalize σ.op x=p at uD ⊢;cases p<;>simp only[PV.GW,reduceCtorEq,bG]at uD;rw[uD]
  .cases uD
 have Yp:=r.op x;rw[hx]at Yp;obtain⟨k1,k2⟩:=Yp;unfold D8 at h;split at h
 .rename_i id Mq;split at h
  .rename_i nl T0 m sz el e by_ kE vf CZ;split at h
   .rename_i hc;cases h;simp only[bK,du]at hc;obtain rfl:=kQ.1 hc.1;have jV:id≠q:=λe=>by have:=hc.2;rw[e,cH]at this;cases this
    obtain⟨te,zv,uz,hu,nM,vo,_,_,uF,Db,_,_⟩:=Vb w hT CZ;obtain⟨f,g1,g2,g3⟩:=r.hb q _ vf;obtain⟨d1,d2,d3⟩:=g1.head;have kr:(execOp a.eval o).run P w = .ok (.value<|.slice (some ⟨w.heap.size,0,none⟩) 1 1) (w.alloc<|.cells #[L.val q] e):=by
     have nL:(Array.range<|1*te.i.size).map (zv.cells[· % zv.cells.size]!) = #[uz]:=by
      rw[vo,Db];refine Array.ext aH λi h1 h2=>?_
      have:i=0:=by simp at h2;omega
      subst this;simp
     have Mr:Instr.fill (λi=>some (i*te.i.size,te.i.size)) #[uz] (ps.map λ(x:Nat×Operand)=>(x.1,a.eval x.2)).toList=some #[L.val q]:=by
      rw[SA,nF];simp only[eU,List.map_nil];rw[WB _ _ _ _ _ 0 (by rw[k2,d1,vo];rfl)<|by rw[k2,d1];simp];rw[k2,d1];rfl
     have vQ:¬(1*te.i.size>16777216):= aC ;have h0:¬(1*te.i.size=0):= aC ;simp only[execOp,iK,Instr.buildSlice,Sem.run_bind,run_underlying hu,Result.andThen_ok,uM hT w nM,vQ,bB,h0,Sem.run_pure,NO hT w nM uF,nL,Mr,newRow,run_newObj_alloc]
    have iN:w.heap.size<(w.alloc<|.cells #[L.val q] e).heap.size:= aH ;have hb:Below w.heap.size w<|w.alloc<|.cells #[L.val q] e:=(Below.refl _ _).alloc (bw _) _;refine⟨_,_,_,.inl kr,r.rf jV _ (λx=>x=w.heap.size\/L.own q x) (.slice (some ⟨w.heap.size,0,none⟩) 1 1) (λ_=>L.val q) _ (λy hy=>?_) hb.size (λy hy _=>hb.block y hy) rfl rfl rfl (λhl=>?_) (λQ1=>?_) (λhn=>?_),Lk.RH jV,Lk.JF.symm⟩
    .rcases hy with rfl|hy
     .exact ⟨.inr<|.inr<|bw _,iN⟩
     .exact ⟨.inr<|.inl hy,fP (r.hw q y hy).2 iN⟩
    .refine .inr ⟨w.heap.size,0,1,#[L.val q],λ_=>f,Lk.JF,heap_alloc_new w _,bw _,aE,aH,λk hk _=>?_,λv hv=>?_,λk hk=>?_,λy=>?_,λk k' y hk I7 _ _=> aC,λk hk=>?_⟩
     .obtain rfl:k=0:= aC ;rw[Lk.AI];rfl
     .have:v=L.val q:=by simpa using hv
      rw[this];exact d3
     .rw [Lk.AI];exact⟨g1.block λy hy=>hb.block y (r.hw q y<|(g2 y).2 hy).2,λi j hi hj=>⟨hl.kJ (g3 i j hi hj).1,(g3 i j hi hj).2⟩⟩
     .rw [Lk.Y6];constructor
      .rintro (h|h)
       .exact .inl h
       .exact .inr ⟨0,aE,by rw[Lk.AI];exact(g2 y).1 h⟩
      .rintro (h|⟨k,_,h⟩)
       .exact .inl h
       .rw [Lk.AI]at h;exact .inr<|(g2 y).2 h
     .rw [Lk.AI];intro h;have:=(r.hw q _<|(g2 _).2 h).2;omega
    .have:=(r.hv id).1 Q1;rw[kE]at this;cases this
    .have:=r.hl hn q _ vf;exact this
   .cases h
  .cases h
 .cases h
def ajg(hT:mh P T)(hB:∀ b,B b->w0.vH b){t:TypeId}{n:Nat}{ps:Array<|Nat×Operand}(iK:o.op = .buildSlice t n ps)(r:jh w0 B σ a w L)(h:jR P K T O σ o=some u):kg P K w0 B σ o a w u:=by
 simp only[jR,iK]at h;split at h
 .rename_i q hq;exact ajD hT iK hq r h
 split at h
 .rename_i tt re;split at h
  .rename_i e hd;split at h
   .rename_i te nM;split at h
    .rename_i z hz;split at h
     .rename_i hc;simp only[bK]at hc;have c1:=kQ.1 hc.1.1;have c2:=cK hc.2;obtain⟨zv,uF,sW⟩:=Hv hz;obtain⟨q1,q2⟩:=sW (bad B L) (jt L) w;have hu:P.underlying t=some (.slice e):=by rw[hT.rj re,hd]
      have EG:zv.cells.size=te.i.size:=by have:=q1.len;simp only[dR]at this;omega
      obtain⟨l,hl,h⟩:=ib.1 h;obtain⟨cs,p1,p2,p3⟩:=P7 r hl (aph q1 n) (λv hv=>by
       simp only[gG,gH]at hv;obtain⟨q,hq,rfl⟩:=hv;have Gw:0<zv.cells.size:=by
        rcases fi zv.cells.size with h0|h0
        .rw [h0]at hq;simp at hq
        .exact h0
       rw[fN zv.cells _<|bR q Gw];exact q2 _ aH)
      have hlen:l.length=n*te.i.size:=by
       have:∀ (ps:List<|Nat×Operand) (l m:List E),tI σ (λi=>some (i*te.i.size,te.i.size)) l ps=some m->m.length=l.length:=by
        intro ps
        induction ps with
        |nil=>intro l m h;simp only[tI]at h;cases h;rfl
        |cons p ps ih=>
         intro l m h;obtain⟨i,x⟩:=p;simp only[tI]at h;split at h
         .split at h
          .split at h
           .rename_i hc;simp only[bK]at hc;have:=cK hc.2;rw[ih _ _ h];simp[A4];omega
           .cases h
          .cases h
         .cases h
       rw[this _ _ _ hl,abF,c1]
      have nL:cs.size=n*te.i.size:=by have:=p2.len;simp only[dR]at this;omega
      have Mr:Instr.fill (λi=>some (i*te.i.size,te.i.size)) ((Array.range<|n*te.i.size).map (zv.cells[· % zv.cells.size]!)) (ps.map λ(x:Nat×Operand)=>(x.1,a.eval x.2)).toList=some cs:=by
       rw[SA,<-EG];rw[<-EG]at p1;exact p1
      have kr:(execOp a.eval o).run P w = .ok (.value<|.slice (some ⟨w.heap.size,0,none⟩) n n) (w.alloc<|.cells cs e):=by
       have vQ:¬(n*te.i.size>16777216):= aC ;by_cases h0:n*te.i.size=0
       .have e0:∀ g:Nat->Value,(Array.range 0).map g = #[]:=λg=>by simp[Array.range]
        have XH:=Mr;rw[h0,e0]at XH;have z24:¬(0>2^24):= aE ;simp only[execOp,iK,Instr.buildSlice,Sem.run_bind,run_underlying hu,Result.andThen_ok,uM hT w nM,vQ,bB,h0,z24,bH,Sem.run_pure,e0,XH,newRow,run_newObj_alloc]
       .simp only[execOp,iK,Instr.buildSlice,Sem.run_bind,run_underlying hu,Result.andThen_ok,uM hT w nM,vQ,bB,h0,Sem.run_pure,NO hT w nM uF,Mr,newRow,run_newObj_alloc]
      have mw:n<=9223372036854775807:=by
       have:=gX n<|cK hc.1.2;omega
      by_cases vh:l.all (E.nr 2)=true
      .simp only[vh,fI,bJ,bB]at h;split at h
       .
        obtain⟨id,Mq,kE,jQ,rfl⟩:=JT h;have hb:Below w.heap.size w<|w.alloc<|.cells cs e:=(Below.refl _ _).alloc (bw _) _;have ht:ql L w id (λx=>x=w.heap.size)<|w.alloc<|.cells cs e:=⟨λx hx=>⟨.inr aC,aN⟩,hb.size,λx hx _=>hb.block x hx,rfl,rfl,rfl⟩
        have iN:=ht.later (.slice (some ⟨w.heap.size,0,none⟩) n n) λ_=>undef;have Gj:∀ i j,i<n->j<te.i.size->i*te.i.size+j<n*te.i.size:=by
         intro i j hi hj;have:=bU te.i.size<|show i+1<=n from hi;rw[bT,bX]at this;omega
        refine⟨_,_,_,.inl kr,r.new id _ (λx=>x=w.heap.size) (.slice (some ⟨w.heap.size,0,none⟩) n n) (λ_=>undef) _ kE (λx hx=>by subst hx;simp) hb
         ⟨λi j=>cs.getD (i*te.i.size+j) undef,.inr ⟨w.heap.size,0,n,cs,Lk.ng,heap_alloc_new w _,bw _,by unfold maxLen;omega,aC,λi j hi hj=>?_,λhn u hu=>?_⟩,λx=>?_,λi j hi hj=>?_⟩ jQ,Lk.A6,Lk.ng.symm⟩
        .have hq:i*te.i.size+j<cs.size:=by rw[nL];exact Gj i j hi hj
         have e1:cs.getD (i*te.i.size+j) undef=cs[i*te.i.size+j]:=by simp[hq]
         rw[cw];show cs[i*te.i.size+j]? = some (cs.getD (i*te.i.size+j) undef)/\(cs.getD (i*te.i.size+j) undef).oneCell'=true;rw[e1];exact⟨by simp[hq],p3 _ aH⟩
        .exact al5 p2 hn u<|by simpa using hu
        .rw [Lk.pX,Lk.ng];simp only[Value.ownBlock,bG];exact eq_comm
        .have hq:i*te.i.size+j<cs.size:=by rw[nL];exact Gj i j hi hj
         have vj:i*te.i.size+j<l.length:=by rw[hlen];exact Gj i j hi hj
         have e1:cs.getD (i*te.i.size+j) undef=cs[i*te.i.size+j]:=by simp[hq]
         simp only[bt,bD vj,gI,e1];exact⟨iN.kJ<|p2.kJ _ _ _ (bD vj)<|by simp[hq],bO.1 vh _<|cB vj⟩
       split at h
       .rename_i F8;cases h;obtain⟨r',hp⟩:=acC hB r e n te.i.size l cs true p2 p3 nL mw (λ_=>F8) vh;exact⟨_,_,L,.inl kr,r',hp⟩
       .cases h;obtain⟨r',hp⟩:=acC hB r e n te.i.size l cs false p2 p3 nL mw (λh=>by cases h) vh;exact⟨_,_,L,.inl kr,r',hp⟩
      .simp [vh]at h
     .cases h
    .cases h
   .cases h
  .cases h
 .cases h
end
section
variable{P:Program}{t e:TypeId}
def IG(h:P.underlying t=some (.slice e)):P.elem t=e:=by simp[Program.elem,h]
def ahD{n:Nat}(h:P.underlying t=some (.array n e)):P.elem t=e/\P.arrayLen t=n:=by simp[Program.elem,Program.arrayLen,h]
end
section
variable {P:Program} {K:World->Prop} {T:List TI} {O:qY} {w0:mQ} {B:Nat->Prop} {σ:PS} {o:Oper} {a:Act} {w:World} {L:Lk} {u:kN}
def ajm(hT:mh P T){t:TypeId}{x i:Operand}(iK:o.op = .indexAddr t x i)(r:jh w0 B σ a w L)(h:jR P K T O σ o=some u)(ho:∀ q,q ∈ u.jG->q):kg P K w0 B σ o a w u:=by
 simp only[jR,iK,LR]at h;have hx:=r.op x;have hi:=r.op i;split at h
 .rename_i k z hpi;rw[hpi]at hi;have hi:=iO.kW hi;split at h
  .rename_i tt re;split at h
   .
    rename_i e hd;have hu:P.underlying t=some (.slice e):=by rw[hT.rj re,hd]
    have he:=IG hu;split at h
    .rename_i te nM;have kr:∀ (ad:Addr) (n c:Nat),a.eval x = .slice (some ad) n c->0<=z->z<n->(execOp a.eval o).run P w = .ok (.value<|.pointer<|some<|ad.add<|z.toNat*te.i.size) w:=by
      intro ad n c e1 h0 h1;have hr:=run_indexAt_slice (P:=P) w t ad n c k z (by rw[he];exact hu);rw[bk ⟨h0,h1⟩,he,uM hT w nM]at hr;simp only[execOp,iK,e1,hi,Sem.run_bind,hr,Result.andThen_ok,Sem.run_pure]
     split at h
     .rename_i nl n sz el nF;rw[nF]at hx;split at h
      .rename_i hs;simp only[bK]at hs;have vS:=cK hs.2;have hs:=kQ.1 hs.1;cases h;have hz:0<=z/\z<n:=ho _ aH;have BR:z.toNat<n:= aC ;generalize hq:a.eval x=q at hx;cases hx with
       |sl _ _ _ _ A c f hc hm h0 hl vh cell kk=>
        obtain⟨b,of,e1,hb,iN,_⟩:=cell z.toNat 0 BR vS;subst e1;refine kg.pure r (kr ⟨b,of,none⟩ n c hq hz.1 hz.2) rfl ?_;rw[Addr.add_lit,hs];refine .jK sz _ b _ (λj=>f z.toNat j) (λhm=>hb<|.inr hm) iN (λj hj=>(hl _ _ BR hj).1) (λj hj=>?_) λj hj=>kk _ _ BR hj;obtain⟨b',of',e2,_,_,Ef⟩:=cell z.toNat j BR hj;cases e2;rwa[<-de]at Ef
      .cases h
     .rename_i fl nl n sz el nF;rw[nF]at hx;split at h
      .rename_i hs;simp only[bK]at hs;have vS:=cK hs.2;have hs:=kQ.1 hs.1;cases h;have hz:0<=z/\z<n:=ho _ aH;have BR:z.toNat<n:= aC ;generalize hq:a.eval x=q at hx;cases hx with
       |lJ _ _ _ _ _ A c f hc hm h0 hl vh cell kk=>
        obtain⟨b,of,e1,hb,iN,_⟩:=cell z.toNat 0 BR vS;subst e1;refine kg.pure r (kr ⟨b,of,none⟩ n c hq hz.1 hz.2) rfl ?_;rw[Addr.add_lit,hs];refine .jK sz _ b _ (λj=>f z.toNat j) hb iN (λj hj=>(hl _ _ BR hj).1) (λj hj=>?_) λj hj=>kk _ _ BR hj;obtain⟨b',of',e2,_,_,Ef⟩:=cell z.toNat j BR hj;cases e2;rwa[<-de]at Ef
      .cases h
     .rename_i id nF;rw[nF]at hx;split at h
      .rename_i nl T1 n sz el iZ;split at h
       .rename_i hs;have hs:=kQ.1 hs;cases h;have hz:0<=z/\z<n:=ho _ aH;obtain⟨f,h1,h2,h3⟩:=r.hb id _ iZ;obtain⟨k1,k2⟩:=hx;rcases h1 with⟨h1,sn⟩|⟨b,ofs,c,cur,h1,hg,qf,oZ,nL,kF,jQ⟩
        .omega
        .rw [h1]at k2;refine kg.pure r (kr ⟨b,ofs,none⟩ n c k2 hz.1 hz.2) rfl ⟨k1,b,ofs,n,c,h1,?_⟩;rw[Addr.add_lit,hs,cj]
       .cases h
      .rename_i nl T1 T0 n sz len el pend iZ;split at h
       .rename_i hs;have hs:=kQ.1 hs;cases h;have hz:0<=z/\z<n:=ho _ aH;obtain⟨b,ofs,c,cur,f,h1,h2,h3,h4,h5,h6,h7,h8,h9,nU,nV⟩:=(r.hb id _ iZ).wm aC;obtain⟨k1,k2⟩:=hx;rw[h1]at k2;refine kg.pure r (kr ⟨b,ofs,none⟩ n c k2 hz.1 hz.2) rfl ⟨k1,b,ofs,n,c,h1,?_⟩;rw[Addr.add_lit,hs,cj]
       .cases h
      .rename_i nl T1 T0 n sz len el c r' iZ;split at h
       .rename_i hs;have hs:=kQ.1 hs;cases h;have hz:0<=z/\z<n:=ho _ aH;obtain⟨⟨b,ofs,c,cur,f,h1,h2,h3,h4,h5,h6,h7,h8,h9,nU,nV⟩,_⟩:=r.hb id _ iZ;obtain⟨k1,k2⟩:=hx;rw[h1]at k2;refine kg.pure r (kr ⟨b,ofs,none⟩ n c k2 hz.1 hz.2) rfl ⟨k1,b,ofs,n,c,h1,?_⟩;rw[Addr.add_lit,hs,cj]
       .cases h
      .cases h
     .rename_i id k nF;rw[nF]at hx;split at h
      .rename_i nl T1 T0 n sz len el pend iZ;split at h
       .rename_i hs;have hs:=kQ.1 hs;cases h;have hk:k<n:=ho _ aH;have hz:0<=z/\z<len k:=ho _ aH;obtain⟨b0,ofs0,c0,cur0,f,g1,g2,g3,g4,g5,g6,g7,g8,_⟩:=(r.hb id _ iZ).wm aC;obtain⟨k1,k2⟩:=hx;rcases(g8 k hk).1 with⟨h1,sn⟩|⟨b,ofs,c,cur,h1,hg,qf,oZ,nL,kF,jQ⟩
        .omega
        .rw [h1]at k2;refine kg.pure r (kr ⟨b,ofs,none⟩ (len k) c k2 hz.1 hz.2) rfl ⟨k1,b,ofs,len k,c,h1,?_⟩;rw[Addr.add_lit,hs,cj]
       .cases h
      .cases h
     .cases h
    .cases h
   .
    rename_i n e hd;have hu:P.underlying t=some (.array n e):=by rw[hT.rj re,hd]
    obtain⟨he,hn⟩:=ahD hu;split at h
    .rename_i te nM;have kr:∀ (ad:Addr),a.eval x = .pointer (some ad)->0<=z->z<n->(execOp a.eval o).run P w = .ok (.value<|.pointer<|some<|ad.add<|z.toNat*te.i.size) w:=by
      intro ad e1 h0 h1;have hr:=run_indexAt_array (P:=P) w t ad k z (by rw[he,hn];exact hu);rw[hn,bk ⟨h0,h1⟩,he,uM hT w nM]at hr;simp only[execOp,iK,e1,hi,Sem.run_bind,hr,Result.andThen_ok,Sem.run_pure]
     split at h
     .rename_i id off nF;rw[nF]at hx;cases h;have hz:0<=z/\z<n:=ho _ aH;obtain⟨k1,b,k2,k3⟩:=hx;refine kg.pure r (kr _ k3 hz.1 hz.2) rfl ⟨k1,b,k2,?_⟩;rw[Addr.add_lit]
     .rename_i m el nF;rw[nF]at hx;split at h
      .rename_i hs;have hs:=kQ.1 hs;cases h;have hz:0<=z/\z<n:=ho _ aH;have kP:∀ j,j<te.i.size->z.toNat*te.i.size+j<m:=by
        intro j hj;rw[<-hs];have:=bU te.i.size (aC:z.toNat+1<=n);rw[bT,bX]at this;omega
       generalize hq:a.eval x=q at hx;cases hx with
       |jK _ _ b of f hb iN hl cell kk=>
        refine kg.pure r (kr _ hq hz.1 hz.2) rfl ?_;rw[Addr.add_lit];refine .jK te.i.size _ b _ (λj=>f<|z.toNat*te.i.size+j) hb iN (λj hj=>hl _<|kP j hj) (λj hj=>?_) λj hj=>kk _<|kP j hj;have:=cell _<|kP j hj;rwa[<-de]at this
      .cases h
     .cases h
    .cases h
   .cases h
  .cases h
 .cases h
section
variable(hT:mh P T){t:TypeId}{x:Operand}{lo hi:Option Operand}(iK:o.op = .slice t x lo hi none)
def ajA{id:Nat}(nF:σ.op x = .own id)(r:jh w0 B σ a w L)
 (h:D7 T σ t id (lo.map σ.op) (hi.map σ.op)=some u) (ho:∀ q,q ∈ u.jG->q):kg P K w0 B σ o a w u:=by
 unfold D7 at h;have hx:=r.op x;rw[nF]at hx;split at h
 .rename_i tt re;split at h
  .rename_i e hd;have hu:P.underlying t=some (.slice e):=by rw[hT.rj re,hd]
   have he:=IG hu;have vW:P.underlying t=some (.slice<|P.elem t):=by rw[he];exact hu
   split at h
   .rename_i te nM;split at h
    .rename_i nl T1 n sz el iZ;split at h
     .rename_i kl ll o0 sk;split at h
      .rename_i hs;have hs:=kQ.1 hs;cases h;have hb:0<=ll/\ll<=n:=ho _ aH;obtain⟨k1,k2⟩:=hx;cases hi with
       |some _=>simp at sk
       |none=>
        cases lo with
        |none=>simp at o0
        |some lo=>
         simp only[cA,bG]at o0;have hv:=r.op lo;rw[o0]at hv;have hv:=iO.kW hv;obtain⟨f,h1,h2,h3⟩:=r.hb id _ iZ;have as2:ll.toNat<=n:= aC ;have run:∀ (A:Option Addr) (c:Nat),a.eval x = .slice A n c->(execOp a.eval o).run P w = .ok (.value<|sliced A ll.toNat n c te.i.size) w:=by
          intro A c e1;have hr:=run_slice_l (P:=P) w t A n c vW kl ll hb.1 hb.2;rw[he,uM hT w nM]at hr;simp only[execOp,iK,Sem.run_bind,e1,cA,atG,hv,run_sliceAt_slice (P:=P) w t _ _ _ _ vW,hr,Result.andThen_ok,Sem.run_pure]
         have Q6:∀ b,L.val id ≠ .pointer (some b):=λb e1=>by
          rcases h1 with⟨e2,_⟩|⟨_,_,_,_,e2,_⟩<;>rw[e1]at e2<;>cases e2
         have fin:∀ (v:Value),v.ownBlock=(L.val id).ownBlock->nu w v T1 (n-ll.toNat) sz (λi j=>f (ll.toNat+i) j) nl->(execOp a.eval o).run P w = .ok (.value v) w ->
          kg P K w0 B σ o a w { r:=.own id,f:=.pD id<|.row nl T1 (n-ll.toNat) sz λi j=>el (ll.toNat+i) j,rb:=[id],jG:=[0<=ll/\ll<=n] }:=by
          intro v C9 uC kr;have ht:ql L w id (λy=>v.ownBlock=some y) w:=⟨λy hy=>by
           have:=(h2 y).2 (by rw[<-C9];exact hy);exact⟨.inl this,(r.hw id y this).2⟩,bw _,λ_ _ _=>rfl,rfl,rfl,rfl⟩
          have hl:=ht.later v<|L.iQ id;refine⟨v,w,_,.inl kr,r.pD id _ _ v w Q6 ht ⟨λi j=>f (ll.toNat+i) j,by rw[Lk.ng];exact uC,λy=>by rw[Lk.pX,Lk.ng],λi j hi hj=>⟨hl.kJ (h3 _ j aC hj).1,(h3 _ j aC hj).2⟩⟩ (λhn=>by have:=r.hl hn id _ iZ;exact this),Lk.A6,Lk.ng.symm⟩
         rcases h1 with⟨h1,sn⟩|⟨b,ofs,c,cur,h1,hg,qf,oZ,nL,kF,jQ⟩
         .have o0:ll.toNat=0:= aC ;refine fin (.slice none 0 0) (by rw[h1]) (.inl ⟨rfl,aC⟩) ?_;have:=run none 0 (by rw[k2,h1,sn]);rw[this];unfold sliced;simp[o0,sn]
         .have kr:=run _ c (by rw[k2,h1]);refine fin _ ?_ ?_ kr
          .rw [h1];unfold sliced;split
           .rfl
           .rw [cA,Addr.add_lit];rfl
          .unfold sliced;by_cases XU:c=ll.toNat
           .rw [bk XU];exact .inr ⟨b,ofs,c-ll.toNat,cur,rfl,hg,aC,aC,by rw[(aC:c-ll.toNat=0),cU];omega,λi j hi=> aC,jQ⟩
           .rw [bj XU,cA,Addr.add_lit,hs];have By:ll.toNat*sz+(c-ll.toNat)*sz=c*sz:=by rw[<-bT];congr 1;omega
            refine .inr ⟨b,ofs+ll.toNat*sz,c-ll.toNat,cur,rfl,hg,aC,aC,aC,λi j hi hj=>?_,jQ⟩;have:=kF (ll.toNat+i) j aC hj;rw[bT]at this;rwa[(aC:ofs+ll.toNat*sz+(i*sz+j)=ofs+(ll.toNat*sz+i*sz+j))]
      .cases h
     .cases h
    .cases h
   .cases h
  .cases h
 .cases h
def ajz(r:jh w0 B σ a w L)(h:jR P K T O σ o=some u)(ho:∀ q,q ∈ u.jG->q):kg P K w0 B σ o a w u:=by
 simp only[jR,iK]at h;have hx:=r.op x;split at h
 .rename_i id nF;exact ajA hT iK nF r h ho
 unfold LW at h;split at h
 .rename_i nl n sz el nF;rw[nF]at hx;split at h
  .rename_i tt re;split at h
   .rename_i e hd;have hu:P.underlying t=some (.slice e):=by rw[hT.rj re,hd]
    have he:=IG hu;have vW:P.underlying t=some (.slice<|P.elem t):=by rw[he];exact hu
    split at h
    .rename_i te nM;split at h
     .rename_i hs;have hs:=kQ.1 hs;generalize hq:a.eval x=q at hx;cases hx with
      |sl _ _ _ _ A c f hc hm h0 hl vh cell kk=>
       have fin:∀ l h':Nat,l<=h'->h'<=n->iO (bad B L) (jt L) w (.sl nl (h'-l) sz λi j=>el (l+i) j) (sliced A l h' c te.i.size):=by
        intro l h' hlh hhn;unfold sliced;refine .sl nl (h'-l) sz _ _ (c-l) (λi j=>f (l+i) j) aC aC (λhA=>?_) (λi j hi hj=>hl _ _ aC hj) (λi j hi hj=>vh _ _ aC hj) (λi j hi hj=>?_) λi j hi hj=>kk _ _ aC hj
        .split at hA
         .have:=h0 hA;omega
         .have:=h0 (by simpa using hA);omega
        .obtain ⟨b,of,e1,hb,iN,kF⟩:=cell (l+i) j aC hj;subst e1;rw[bj aC];refine⟨b,of+l*te.i.size,by rw[cA,Addr.add_lit],hb,iN,?_⟩;rw[hs];rw[bT]at kF;rw[<-kF];congr 2;omega
       have run:∀ (l h':Nat) (lo' lg:Option Value),lo.map a.eval=lo'->hi.map a.eval=lg->(Instr.slice t (.slice A n c) lo' lg none).run P w = .ok (sliced A l h' c te.i.size) w ->
        (execOp a.eval o).run P w = .ok (.value<|sliced A l h' c te.i.size) w:=by
        intro l h' lo' lg e1 e2 hr;simp only[execOp,iK,Sem.run_bind,hq,e1,e2,atG,run_sliceAt_slice (P:=P) w t _ _ _ _ vW,hr,Result.andThen_ok,Sem.run_pure]
       split at h
       .rename_i kh hh o0 sk;cases h;have hb:0<=hh/\hh<=n:=ho _ aH;cases lo with
        |some _=>simp at o0
        |none=>
         cases hi with
         |none=>simp at sk
         |some hi=>
          simp only[cA,bG]at sk;have hv:=r.op hi;rw[sk]at hv;have hv:=iO.kW hv;have hr:=run_slice_h (P:=P) w t A n c vW kh hh hb.1 aC;rw[he,uM hT w nM]at hr;have hf:=fin 0 hh.toNat (ck _) aC ;simp only[eD,cw]at hf;exact kg.pure r (run 0 hh.toNat none (some<|.int kh hh) rfl (by rw[cA,hv]) hr) rfl hf
       .rename_i kl ll o0 sk;cases h;have hb:0<=ll/\ll<=n:=ho _ aH;cases hi with
        |some _=>simp at sk
        |none=>
         cases lo with
         |none=>simp at o0
         |some lo=>
          simp only[cA,bG]at o0;have hv:=r.op lo;rw[o0]at hv;have hv:=iO.kW hv;have hr:=run_slice_l (P:=P) w t A n c vW kl ll hb.1 hb.2;rw[he,uM hT w nM]at hr;exact kg.pure r (run ll.toNat n (some<|.int kl ll) none (by rw[cA,hv]) rfl hr) rfl (fin ll.toNat n aC<|bw _)
       .rename_i kl ll kh hh o0 sk;cases h;have hb:0<=ll/\ll<=hh/\hh<=n:=ho _ aH;cases hi with
        |none=>simp at sk
        |some hi=>
         cases lo with
         |none=>simp at o0
         |some lo=>
          simp only[cA,bG]at o0 sk;have hv:=r.op lo;rw[o0]at hv;have hv:=iO.kW hv;have tS:=r.op hi;rw[sk]at tS;have tS:=iO.kW tS;have hr:=run_slice_lh (P:=P) w t A n c vW kl kh ll hh hb.1 hb.2.1 aC;rw[he,uM hT w nM]at hr;exact kg.pure r (run ll.toNat hh.toNat (some<|.int kl ll) (some<|.int kh hh) (by rw[cA,hv]) (by rw[cA,tS]) hr) rfl (fin ll.toNat hh.toNat aC aC)
       .cases h
     .cases h
    .cases h
   .cases h
  .cases h
 .rename_i fl nl n sz el nF;rw[nF]at hx;split at h
  .rename_i tt re;split at h
   .rename_i e hd;have hu:P.underlying t=some (.slice e):=by rw[hT.rj re,hd]
    have he:=IG hu;have vW:P.underlying t=some (.slice<|P.elem t):=by rw[he];exact hu
    split at h
    .rename_i te nM;split at h
     .rename_i hs;have hs:=kQ.1 hs;generalize hq:a.eval x=q at hx;cases hx with
      |lJ _ _ _ _ _ A c f hc hm h0 hl vh cell kk=>
       have fin:∀ l h':Nat,l<=h'->h'<=n->iO (bad B L) (jt L) w (.lJ fl nl (h'-l) sz λi j=>el (l+i) j) (sliced A l h' c te.i.size):=by
        intro l h' hlh hhn;unfold sliced;refine .lJ fl nl (h'-l) sz _ _ (c-l) (λi j=>f (l+i) j) aC aC (λhA=>?_) (λi j hi hj=>hl _ _ aC hj) (λhf i j hi hj=>vh hf _ _ aC hj) (λi j hi hj=>?_) λi j hi hj=>kk _ _ aC hj
        .split at hA
         .have:=h0 hA;omega
         .have:=h0 (by simpa using hA);omega
        .obtain ⟨b,of,e1,hb,iN,kF⟩:=cell (l+i) j aC hj;subst e1;rw[bj aC];refine⟨b,of+l*te.i.size,by rw[cA,Addr.add_lit],hb,iN,?_⟩;rw[hs];rw[bT]at kF;rw[<-kF];congr 2;omega
       have run:∀ (l h':Nat) (lo' lg:Option Value),lo.map a.eval=lo'->hi.map a.eval=lg->(Instr.slice t (.slice A n c) lo' lg none).run P w = .ok (sliced A l h' c te.i.size) w ->
        (execOp a.eval o).run P w = .ok (.value<|sliced A l h' c te.i.size) w:=by
        intro l h' lo' lg e1 e2 hr;simp only[execOp,iK,Sem.run_bind,hq,e1,e2,atG,run_sliceAt_slice (P:=P) w t _ _ _ _ vW,hr,Result.andThen_ok,Sem.run_pure]
       split at h
       .rename_i kh hh o0 sk;cases h;have hb:0<=hh/\hh<=n:=ho _ aH;cases lo with
        |some _=>simp at o0
        |none=>
         cases hi with
         |none=>simp at sk
         |some hi=>
          simp only[cA,bG]at sk;have hv:=r.op hi;rw[sk]at hv;have hv:=iO.kW hv;have hr:=run_slice_h (P:=P) w t A n c vW kh hh hb.1 aC;rw[he,uM hT w nM]at hr;have hf:=fin 0 hh.toNat (ck _) aC ;simp only[eD,cw]at hf;exact kg.pure r (run 0 hh.toNat none (some<|.int kh hh) rfl (by rw[cA,hv]) hr) rfl hf
       .rename_i kl ll o0 sk;cases h;have hb:0<=ll/\ll<=n:=ho _ aH;cases hi with
        |some _=>simp at sk
        |none=>
         cases lo with
         |none=>simp at o0
         |some lo=>
          simp only[cA,bG]at o0;have hv:=r.op lo;rw[o0]at hv;have hv:=iO.kW hv;have hr:=run_slice_l (P:=P) w t A n c vW kl ll hb.1 hb.2;rw[he,uM hT w nM]at hr;exact kg.pure r (run ll.toNat n (some<|.int kl ll) none (by rw[cA,hv]) rfl hr) rfl (fin ll.toNat n aC<|bw _)
       .rename_i kl ll kh hh o0 sk;cases h;have hb:0<=ll/\ll<=hh/\hh<=n:=ho _ aH;cases hi with
        |none=>simp at sk
        |some hi=>
         cases lo with
         |none=>simp at o0
         |some lo=>
          simp only[cA,bG]at o0 sk;have hv:=r.op lo;rw[o0]at hv;have hv:=iO.kW hv;have tS:=r.op hi;rw[sk]at tS;have tS:=iO.kW tS;have hr:=run_slice_lh (P:=P) w t A n c vW kl kh ll hh hb.1 hb.2.1 aC;rw[he,uM hT w nM]at hr;exact kg.pure r (run ll.toNat hh.toNat (some<|.int kl ll) (some<|.int kh hh) (by rw[cA,hv]) (by rw[cA,tS]) hr) rfl (fin ll.toNat hh.toNat aC aC)
       .cases h
     .cases h
    .cases h
   .cases h
  .cases h
 .cases h
end
end
section
variable {P:Program} {K:World->Prop} {T:List TI} {O:qY} {w0:mQ} {B:Nat->Prop} {σ:PS} {o:Oper} {a:Act} {w:World} {L:Lk} {u:kN}
def agd{x:Value}{l:List E}(h:(E.v x).cells? = some l):∀ e,e ∈ l->e.nr 2=true:=by
 intro e he;cases x<;>simp only[E.cells?]at h
 case agg cs=>
  split at h
  .cases h;obtain⟨q,_,rfl⟩:=cP.1 he;rfl
  .cases h
 all_goals
  split at h
  .cases h;simp only[eu]at he;subst he;rfl
  .cases h
def asV{ti:TI}{l:List E}(h:Bc ti=some l):∀ e,e ∈ l->e.nr 2=true:=by
 unfold Bc at h;split at h
 .exact agd h
 .cases h
def JI{l:List E}{vs:List Value}{bs br:Nat->Prop}(h:ku bs br w l vs)(hl:l.all E.mf=true):∀ v ∈ vs,qs v=false:=by
 intro v hv;obtain⟨q,hq⟩:=dD.1 hv;have vj:q<l.length:=by rw[<-h.len];exact(cD.1 hq).1
 exact(h.kJ q _ v (bD vj) hq).mf<|bO.1 hl _<|cB vj
def ZS{z:Array Value}{n q:Nat}(hz:0<z.size)(hq:q<n):(madeCells z n)[q]? = some (z[q%z.size]'(bR _ hz)):=by
 unfold madeCells;simp[hq];rw[fN z _<|bR _ hz]
def ZT{z:Array Value}{n:Nat}(hz:0<z.size){v:Value}(hv:v ∈ madeCells z n):v ∈ z:=by
 unfold madeCells at hv;simp only[gG,gH]at hv;obtain⟨q,hq,rfl⟩:=hv;rw[fN z _<|bR _ hz];exact gY _
def ajs(hT:mh P T){t:TypeId}{l c:Operand}(iK:o.op = .makeSlice t l c)(r:jh w0 B σ a w L)(h:jR P K T O σ o=some u)(ho:∀ q,q ∈ u.jG->q):kg P K w0 B σ o a w u:=by
 simp only[jR,iK,LV]at h;have hl:=r.op l;have hc:=r.op c;split at h
 .rename_i bx jG ju;obtain⟨id,Mq,kE,jQ,rfl⟩:=JT h;clear h;simp only[Wk]at ju;split at ju
  rotate_left
  .cases ju
  rename_i kl zl kc zc Eu hpc;rw[Eu]at hl;rw[hpc]at hc;have hl:=iO.kW hl;have hc:=iO.kW hc;split at ju
  .rename_i tt re;split at ju
   .rename_i e hd;have hu:P.underlying t=some (.slice e):=by rw[hT.rj re,hd]
    split at ju
    .rename_i te nM;split at ju
     .rename_i z hz;split at ju
      .rename_i Bz;simp only[bK]at Bz;have c1:=kQ.1 Bz.1;have c2:=cK Bz.2;obtain⟨zv,uF,sW⟩:=Hv hz;obtain⟨q1,q2⟩:=sW (bad B L) (jt L) w;have EG:zv.cells.size=te.i.size:=by have:=q1.len;simp only[dR]at this;omega
       have Gw:0<zv.cells.size:= aC ;have key:∀ (h1:0<=zl/\zl<=zc) (h2:(te.i.bytes:Int)*zc<=281474976710656/\zc<=9223372036854775807),
        (execOp a.eval o).run P w = .ok (.value<|.slice (some ⟨w.heap.size,0,none⟩) zl.toNat zc.toNat) (w.alloc<|.cells (madeCells zv.cells<|zc.toNat*te.i.size) e):=by
        intro h1 h2;have hr:=run_make (P:=P) w t e te.i zv hu (hT.BT nM) uF kl kc zl zc h1.1 h1.2 h2.1 h2.2;simp only[execOp,iK,hl,hc,Sem.run_bind,hr,Result.andThen_ok,Sem.run_pure]
       have hb:∀ o':Obj,Below w.heap.size w (w.alloc o'):=λo'=>(Below.refl _ _).alloc (bw _) _
       have lens:zl<=zc->zc<=9223372036854775807->zl.toNat<=zc.toNat/\zc.toNat<=maxLen:=by intro h1 h2;unfold maxLen;omega
       split at ju
       .
        rename_i e0 hd0;split at ju
        .rename_i t0 Rd;obtain⟨y,ys,EF,hy,Es⟩:=q1.nR;have hy:=iO.kW hy;have Es:=Es.sK;subst hy Es;have Yu:zv.cells = #[.slice none 0 0]:=by apply dt;rw[EF]
         have nc:te.i.size=1:=by rw[<-EG,Yu];rfl
         cases ju;have h1:0<=zl/\zl<=zc:=ho _ aH;have h2:(te.i.bytes:Int)*zc<=281474976710656/\zc<=9223372036854775807:=ho _ aH;have hlen:=lens h1.2 h2.2;have F8:∀ v,v ∈ madeCells zv.cells (zc.toNat*te.i.size)->v = .slice none 0 0:=λv hv=>by
          have:=ZT Gw hv;rw[Yu]at this;simpa using this
         refine⟨_,_,_,.inl<|key h1 h2,r.new id _ (λx=>x=w.heap.size) (.slice (some ⟨w.heap.size,0,none⟩) zl.toNat zc.toNat) (λ_=>.slice none 0 0) _ kE (λx hx=>by subst hx;simp) (hb _)
          (.inr ⟨w.heap.size,0,zc.toNat,_,λ_ _ _=>undef,Lk.ng,heap_alloc_new w _,hlen.1,hlen.2,by rw[size_madeCells,nc,cE,cw];exact bw _,λk hk _=>?_,λv hv=>?_,λk hk=>?_,λx=>?_,λk k' x hk I7 h1=>?_,λk hk=>?_⟩) jQ,Lk.A6,Lk.ng.symm⟩
         .rw [Lk.ot];have hq:k<zc.toNat*te.i.size:=by rw[nc];omega
          have hg:=ZS Gw hq;rw[cw,hg];exact congrArg some<|F8 _<|ek hg
         .rw [F8 v hv];rfl
         .rw [Lk.ot];exact⟨.inl ⟨rfl,rfl⟩,λi j hi=>absurd hi<|bC i⟩
         .rw [Lk.pX];simp only[Lk.ot,Value.ownBlock];simp
         .rw [Lk.ot]at h1;simp[Value.ownBlock]at h1
         .rw [Lk.ot];simp[Value.ownBlock]
        .cases ju
       .cases ju;have h1:0<=zl/\zl<=zc:=ho _ aH;have h2:(te.i.bytes:Int)*zc<=281474976710656/\zc<=9223372036854775807:=ho _ aH;have hlen:=lens h1.2 h2.2;refine⟨_,_,_,.inl<|key h1 h2,r.new id _ (λx=>x=w.heap.size) (.slice (some ⟨w.heap.size,0,none⟩) zl.toNat zc.toNat) (λ_=>undef) _ kE (λx hx=>by subst hx;simp) (hb _)
         ⟨λ_ j=>zv.cells.getD j undef,.inr ⟨w.heap.size,0,zc.toNat,_,Lk.ng,heap_alloc_new w _,hlen.1,hlen.2,by rw[size_madeCells,cw];exact bw _,λi j hi hj=>?_,λhn v hv=>?_⟩,λx=>?_,λi j hi hj=>?_⟩ jQ,Lk.A6,Lk.ng.symm⟩
        .have hq:i*te.i.size+j<zc.toNat*te.i.size:=by
          have:=bU te.i.size (aC:i+1<=zc.toNat);rw[bT,bX]at this;omega
         have Q3:(i*te.i.size+j)%zv.cells.size=j:=by rw[EG,bQ,gF,cF hj]
         have q8:j<zv.cells.size:= aC ;rw[cw,ZS Gw hq];simp only[Q3];have e1:zv.cells.getD j undef=zv.cells[j]:=by simp[q8]
         rw[e1];exact⟨rfl,q2 _ aH⟩
        .exact JI q1 hn v<|by have:=ZT Gw hv;simpa using this
        .rw [Lk.pX,Lk.ng];simp only[Value.ownBlock,bG];exact eq_comm
        .have q8:j<zv.cells.size:= aC ;have QY:j<z.length:= aC ;have e1:zv.cells.getD j undef=zv.cells[j]:=by simp[q8]
         simp only[e1];rw[bt,bD QY];obtain⟨p1,_⟩:=sW (bad B<|L.set id (λx=>x=w.heap.size) (.slice (some ⟨w.heap.size,0,none⟩) zl.toNat zc.toNat) λ_=>undef) (jt<|L.set id (λx=>x=w.heap.size) (.slice (some ⟨w.heap.size,0,none⟩) zl.toNat zc.toNat) λ_=>undef)<|w.alloc<|.cells (madeCells zv.cells<|zc.toNat*te.i.size) e;exact⟨p1.kJ j _ _ (bD QY)<|by simp[q8],asV hz _<|cB QY⟩
      .cases ju
     .cases ju
    .cases ju
   .cases ju
  .cases ju
 .cases h
def ajo(hT:mh P T){x:Operand}{t:TypeId}{c:Call}(hc:c={ callee:=.builtin .len,args:=#[x],argTypes:=#[t] })(iK:o.op = .call c){e:TypeId}(hd:yS T t=some (.slice e))(r:jh w0 B σ a w L){rr:Value×List Nat}(h:uw (σ.op x) σ=some rr)(hu:u={ r:=.e<|.v rr.1,rb:=rr.2 }):kg P K w0 B σ o a w u:=by
 obtain⟨ti,h1,h2⟩:=CI hd;have Yg:P.underlying t=some (.slice e):=by rw[hT.rj h1,h2]
 have he:=IG Yg;have hx:=r.op x;have key:∀ (A:Option Addr) (n cp:Nat),a.eval x = .slice A n cp->rr.1 = .int .i64 (n:Int)->kg P K w0 B σ o a w u:=by
  intro A n cp e1 e2;have hr:=run_len_slice (P:=P) w t o.type A n cp (by rw[he];exact Yg);subst hu;refine kg.pure r (v:=.int .i64 (n:Int)) ?_ rfl (by rw[e2];exact .v _);subst hc;have em:(#[x]:Array Operand).map a.eval = #[a.eval x]:= aH ;simp only[execOp,iK,resolve,em,e1,Sem.run_bind,Sem.run_pure,Result.andThen_ok,invoke,builtin,hr];rfl
 cases hp:σ.op x with
 |e y=>
  rw[hp]at h hx;cases y with
  |sl nl n sz el=>
   simp only[uw,bG]at h;generalize hq:a.eval x=q at hx;cases hx with
   |sl _ _ _ _ A c f hc hm h0 hl vh cell kk=>exact key A n c hq<|by rw[<-h]
  |lJ fl nl n sz el=>
   simp only[uw,bG]at h;generalize hq:a.eval x=q at hx;cases hx with
   |lJ _ _ _ _ _ A c f hc hm h0 hl vh cell kk=>exact key A n c hq<|by rw[<-h]
  |v y=>
   have hx:=iO.kW hx;cases y with
   |slice A n cp=>
    simp only[uw,bG]at h;exact key A n cp hx<|by rw[<-h]
   |_=>simp[uw]at h
  |_=>simp[uw]at h
 |own id=>
  rw[hp]at h hx;obtain⟨_,k2⟩:=hx;simp only[uw]at h;split at h
  .rename_i nl T1 n sz el iZ;simp only[bG]at h;obtain⟨f,q1,_,_⟩:=r.hb id _ iZ;rcases q1 with⟨q1,q0⟩|⟨b,ofs,c,cur,q1,_⟩
   .rw [q1]at k2;exact key none 0 0 k2<|by rw[<-h,q0]
   .rw [q1]at k2;exact key _ n c k2<|by rw[<-h]
  .rename_i nl T1 T0 n sz len el pend iZ;simp only[bG]at h;rcases r.hb id _ iZ with⟨q1,q0,_⟩|⟨b,ofs,c,cur,f,q1,_⟩
   .rw [q1]at k2;exact key none 0 0 k2<|by rw[<-h,q0]
   rw[q1]at k2;exact key _ n c k2<|by rw[<-h]
  .cases h
 |iQ id k=>
  rw[hp]at h hx;obtain⟨_,k2⟩:=hx;simp only[uw]at h;split at h
  .rename_i nl T1 T0 n sz len el pend iZ;split at h
   .rename_i hk;have hk:k<n:=by simpa[fK]using hk
    simp only[bG]at h;obtain⟨b0,ofs0,c0,cur0,f,g1,g2,g3,g4,g5,g6,g7,g8,_⟩:=(r.hb id _ iZ).wm aC;rcases(g8 k hk).1 with⟨q1,q0⟩|⟨b,ofs,c,cur,q1,_⟩
    .rw [q1]at k2;exact key none 0 0 k2<|by rw[<-h,q0]
    .rw [q1]at k2;exact key _ (len k) c k2<|by rw[<-h]
   .cases h
  .cases h
 |_=>rw[hp]at h;simp[uw]at h
end
section
variable {P:Program} {K:World->Prop} {T:List TI} {O:qY} {w0:mQ} {B:Nat->Prop} {σ:PS} {o:Oper} {a:Act} {w:World} {L:Lk} {u:kN}
def nu.nS{v:Value}{T:TypeId}{n sz:Nat}{f:Nat->Nat->Value}{nl nl':Bool}(h:nu w v T n sz f nl)(k:nl'=true->nl=true):nu w v T n sz f nl':=by
 rcases h with h|⟨b,ofs,c,cur,h1,h2,h3,h4,h5,h6,h7⟩
 .exact .inl h
 .exact .inr ⟨b,ofs,c,cur,h1,h2,h3,h4,h5,h6,λq=>h7<|k q⟩
def aek{p:PV}{nl:Bool}{n sz:Nat}{el:Nat->Nat->E}(h:p.OW=some (nl,n,sz,el)){v:Value}(hv:kZ (bad B L) (jt L) L w p v):∃ (A:Option Addr) (c:Nat) (f:Nat->Nat->Value),v = .slice A n c/\(A=none->c=0)/\n<=c /\
 (∀ i j,i<n->j<sz->(f i j).oneCell'=true/\(nl=true->qs (f i j)=false))/\(∀ i j,i<n->j<sz->∃ b o,A=some ⟨b,o,none⟩/\w.cell? ⟨b,o+(i*sz+j),none⟩=some (f i j)) /\
 ∀ i j,i<n->j<sz->iO (bad B L) (jt L) w (el i j) (f i j)/\(el i j).nr 2=true:=by
 unfold PV.OW at h;split at h
 .cases h;cases hv with
  |sl _ _ _ _ A c f hc hm h0 hl hr cell k=>exact⟨A,c,f,rfl,h0,hc,hl,λi j hi hj=>by obtain⟨b,o,e,_,_,pE⟩:=cell i j hi hj;exact⟨b,o,e,pE⟩,λi j hi hj=>⟨k i j hi hj,hr i j hi hj⟩⟩
 .cases h;cases hv with
  |lJ _ _ _ _ _ A c f hc hm h0 hl hr cell k=>exact⟨A,c,f,rfl,h0,hc,hl,λi j hi hj=>by obtain⟨b,o,e,_,_,pE⟩:=cell i j hi hj;exact⟨b,o,e,pE⟩,λi j hi hj=>⟨k i j hi hj,hr rfl i j hi hj⟩⟩
 .cases h
def W6(hT:mh P T){s x:Operand}{t:TypeId}{c:Call}(hc:c={ callee:=.builtin .append,args:=#[s,x],argTypes:=#[t,t] })(iK:o.op = .call c)(r:jh w0 B σ a w L)
 (h:CL T σ o.dst t (σ.op s) (σ.op x)=some u) (ho:∀ q,q ∈ u.jG->q):kg P K w0 B σ o a w u:=by
 have hs:=r.op s;have hx:=r.op x;simp only[CL]at h;split at h
 .rename_i nl2 m sz2 el2 nF;obtain⟨A,cx,g,hqx,hg0,hgc,QV,gcell,gk⟩:=aek nF hx;split at h
  .rename_i tt re;split at h
   .rename_i e hd;have hu:P.underlying t=some (.slice e):=by rw[hT.rj re,hd]
    split at h
    .rename_i te nM;split at h
     .rename_i z hz;split at h
      .rename_i Bz;simp only[bK]at Bz;have c1:=kQ.1 Bz.1.1.1;have c2:=cK Bz.1.1.2;have c3:=cK Bz.1.2;have c4:=kQ.1 Bz.2;obtain⟨zv,uF,sW⟩:=Hv hz;obtain⟨q1,q2⟩:=sW (bad B L) (jt L) w;have EG:zv.cells.size=sz2:=by have:=q1.len;simp only[dR]at this;omega
       have key:∀ (v:Value) (n:Nat) (f:Nat->Nat->Value) (nl:Bool),a.eval s=v->nu w v e n sz2 f nl->(nl=true->nl2=true/\z.all E.mf=true)->(n+m)*te.i.bytes<=140737488355328 ->
        ∃ v' w',(execOp a.eval o).run P w = .ok (.value v') w'/\Oy w v e n sz2 m f g nl v' w':=by
        intro v n f nl hv lW jQ jO;obtain⟨v',w',hr,mj⟩:=ab9 P w t o.type e te.i zv sz2 hu (hT.BT nM) uF c1 EG aC c3 (λu hu=>q2 u<|by simpa using hu) v n f nl lW A m cx g
         gcell (λhA=>by have:=hg0 hA;omega)
         (λk j hk hj=>⟨(QV k j hk hj).1,λhn=>(QV k j hk hj).2 (jQ hn).1⟩) (λhn u hu=>JI q1 (jQ hn).2 u<|by simpa using hu) jO
        refine⟨v',w',?_,mj⟩;subst hc;have em:(#[s,x]:Array Operand).map a.eval = #[a.eval s,a.eval x]:= aH ;simp only[execOp,iK,resolve,em,hv,hqx,Sem.run_bind,Sem.run_pure,Result.andThen_ok,invoke,builtin,hr]
       split at h
       .
        rename_i id uD;rw[uD]at hs;split at h
        .rename_i nl T1 n sz el iZ;split at h
         .rename_i pE;simp only[bK]at pE;have d1:=kQ.1 pE.1.1;have d2:=kQ.1 pE.1.2;subst d1 d2;cases h;have jO:(n+m)*te.i.bytes<=140737488355328:=ho _ aH;obtain⟨f,p1,p2,p3⟩:=r.hb id _ iZ;obtain⟨k1,k2⟩:=hs;have jQ:(nl&&(nl2&&z.all E.mf))=true->nl2=true/\z.all E.mf=true:=λhn=>by simp only[bK]at hn;exact hn.2
          obtain⟨v',w',kr,mj⟩:=key (L.val id) n f _ k2 (p1.nS λhn=>by simp only[bK]at hn;exact hn.1) jQ jO;have ht:ql L w id (λy=>v'.ownBlock=some y) w':=by
           refine⟨λy hy=>?_,mj.size,λy hy kE=>mj.oE y hy λe1=>kE<|(p2 y).2 e1,mj.os,mj.tape,mj.output⟩;rcases mj.Il y hy with e1|⟨e1,e2⟩
           .have:=(p2 y).2 e1;exact⟨.inl this,bV (r.hw id y this).2 mj.size⟩
           .exact ⟨.inr e1,e2⟩
          have hl:=ht.later v'<|L.iQ id;have Q6:∀ b,L.val id ≠ .pointer (some b):=λb e1=>by
           rcases p1 with⟨e2,_⟩|⟨_,ofs,_,_,e2,_⟩<;>rw[e1]at e2<;>cases e2
          refine⟨v',w',_,.inl kr,r.pD id _ _ v' w' Q6 ht ⟨λi j=>if i<n then f i j else g (i-n) j,by rw[Lk.ng];exact mj.own,λy=>by rw[Lk.pX,Lk.ng],λi j hi hj=>(λ(q:iO _ _ _ _ _/\_)=>⟨hl.kJ q.1,q.2⟩) (?_:_/\_)⟩ λhn=>?_,Lk.A6,Lk.ng.symm⟩
          .by_cases kP:i<n
           .simp only[kP,bH];exact p3 i j kP hj
           .simp only[kP,bB];exact gk _ _ aC hj
          .have:=pE.2;rw[hn]at this;simpa[Bx.nl]using this
         .cases h
        .cases h
       .
        rename_i id k uD;rw[uD]at hs;split at h
        .rename_i nl T1 T0 n sz len el iZ;split at h
         .rename_i pE;simp only[bK]at pE;have d1:=kQ.1 pE.1.1;have d2:=kQ.1 pE.1.2;subst d1 d2;cases h;have hk:k<n:=ho _ aH;have jO:(len k+m)*te.i.bytes<=140737488355328:=ho _ aH;obtain⟨b,ofs,cp,cur,f,p1,p2,p3,p4,p5,p6,p7,p8,p9,p10,p11⟩:=(r.hb id _ iZ).wm aC;obtain⟨k1,k2⟩:=hs;have jQ:nl=true->nl2=true/\z.all E.mf=true:=λhn=>by have:=pE.2;rw[hn]at this;simpa using this
          obtain⟨v',w',kr,mj⟩:=key (L.iQ id k) (len k) (f k) nl k2 (p8 k hk).1 jQ jO;have tJ:∀ y,v'.ownBlock=some y->(L.iQ id k).ownBlock=some y\/(w.heap.size<=y/\y<w'.heap.size):=mj.Il;have XA:b<w.heap.size:=(r.hw id b<|(p9 b).2<|.inl rfl).2;have C2:∀ q y,q<n->(L.iQ id q).ownBlock=some y->y<w.heap.size:=λq y hq hy=>(r.hw id y<|(p9 y).2<|.inr ⟨q,hq,hy⟩).2
          have ht:ql L w id (λy=>y=b\/∃ q,q<n/\(if q=k then v' else L.iQ id q).ownBlock=some y) w':=by
           refine⟨λy hy=>?_,mj.size,λy hy kE=>mj.oE y hy λe1=>kE<|(p9 y).2<|.inr ⟨k,hk,e1⟩,mj.os,mj.tape,mj.output⟩;rcases hy with rfl|⟨q,hq,hy⟩
           .exact ⟨.inl<|(p9 y).2<|.inl rfl,bV XA mj.size⟩
           .by_cases tl:q=k
            .subst tl;rw[bk rfl]at hy;rcases tJ y hy with e1|⟨e1,e2⟩
             .have:=(p9 y).2<|.inr ⟨q,hq,e1⟩;exact⟨.inl this,bV (r.hw id y this).2 mj.size⟩
             .exact ⟨.inr e1,e2⟩
            .rw [bj tl]at hy;have:=(p9 y).2<|.inr ⟨q,hq,hy⟩;exact⟨.inl this,bV (r.hw id y this).2 mj.size⟩
          have hl:=ht.later (L.val id) λq=>if q=k then v' else L.iQ id q;have tN:∀ y,y<w.heap.size->(L.iQ id k).ownBlock≠some y->w'.heap[y]? = w.heap[y]?:=mj.oE;refine⟨v',w',_,.inl kr,r.tf id _ _ (λq=>if q=k then v' else L.iQ id q) w' ht
           (.inr ⟨b,ofs,cp,cur,λq i j=>if q=k then(if i<len q then f q i j else g (i-len q) j)else f q i j,by rw[Lk.ng];exact p1,by rw[tN b XA<|p11 k hk];exact p2,p3,p4,p5,λq hq tl=>?_,p7,λq hq=>?_,λy=>?_,λq q' y hq vi hy rW=>?_,λq hq hy=>?_⟩) (λhn=>?_),Lk.A6,?_⟩
          .have jV:q≠k:=λe1=>tl (by rw[e1])
           rw[Lk.ot,bj jV];exact p6 q hq aH 
          .rw [Lk.ot];by_cases tl:q=k
           .subst tl;simp only[bH];refine⟨mj.own,λi j hi hj=>(λ(q:iO _ _ _ _ _/\_)=>⟨hl.kJ q.1,q.2⟩) (?_:_/\_)⟩;by_cases kP:i<len q
            .simp only[kP,bH];exact(p8 q hq).2 i j kP hj
            .simp only[kP,bB];exact gk _ _ aC hj
           .simp only[tl,bB];obtain⟨s1,s2⟩:=p8 q hq;exact⟨s1.block λy hy=>tN y (C2 q y hq hy) λe1=>tl<|p10 q k y hq hk hy e1,λi j hi hj=>⟨hl.kJ (s2 i j hi hj).1,(s2 i j hi hj).2⟩⟩
          .rw [Lk.pX];simp only[Lk.ot]
          .simp only[Lk.ot]at hy rW;by_cases h1:q=k
           .subst h1;by_cases h2:q'=q
            .exact h2.symm
            .rw [bk rfl]at hy;rw[bj h2]at rW;rcases tJ y hy with e1|⟨e1,_⟩
             .exact p10 q q' y hq vi e1 rW
             .have:=C2 q' y vi rW;omega
           .rw [bj h1]at hy;by_cases h2:q'=k
            .subst h2;rw[bk rfl]at rW;rcases tJ y rW with e1|⟨e1,_⟩
             .exact p10 q q' y hq vi hy e1
             .have:=C2 q y hq hy;omega
            .rw [bj h2]at rW;exact p10 q q' y hq vi hy rW
          .simp only[Lk.ot]at hy;by_cases h1:q=k
           .subst h1;rw[bk rfl]at hy;rcases tJ b hy with e1|⟨e1,_⟩
            .exact p11 q hq e1
            .omega
           .rw [bj h1]at hy;exact p11 q hq hy
          .have:=r.hl hn id _ iZ;exact this
          .rw [Lk.ot,bk rfl]
         .cases h
        .cases h
       .
        rename_i uD;rw[uD]at hs;have hs:=iO.kW hs;obtain⟨id,Mq,kE,Av,rfl⟩:=JT h;have jO:m*te.i.bytes<=140737488355328:=ho _ aH;obtain⟨v',w',kr,mj⟩:=key _ 0 g (nl2&&z.all E.mf) hs (.inl ⟨rfl,rfl⟩) (λhn=>by simpa using hn) (by simpa using jO);have hb:Below w.heap.size w w':=⟨mj.os,mj.tape,mj.output,mj.size,λy hy=>mj.oE y hy<|by simp[Value.ownBlock]⟩
        have hO:∀ y,v'.ownBlock=some y->w.heap.size<=y/\y<w'.heap.size:=λy hy=>by
         rcases mj.Il y hy with e1|e1
         .simp [Value.ownBlock]at e1
         .exact e1
        have ht:ql L w id (λy=>v'.ownBlock=some y) w':=⟨λy hy=>⟨.inr (hO y hy).1,(hO y hy).2⟩,hb.size,λy hy _=>hb.block y hy,hb.os,hb.tape,hb.output⟩
        have hl:=ht.later v' λ_=>undef;have lW:=mj.own;rw[cw]at lW;refine⟨v',w',_,.inl kr,r.new id _ (λy=>v'.ownBlock=some y) v' (λ_=>undef) w' kE hO hb ⟨λi j=>if i<0 then g i j else g (i-0) j,by rw[Lk.ng];exact lW,λy=>by rw[Lk.pX,Lk.ng],λi j hi hj=>(λ(q:iO _ _ _ _ _/\_)=>⟨hl.kJ q.1,q.2⟩) (?_:_/\_)⟩ Av,Lk.A6,Lk.ng.symm⟩;simp only[bC,bB,eD];exact gk i j hi hj
       .cases h
      .cases h
     .cases h
    .cases h
   .cases h
  .cases h
 .cases h
def Y5{id q T0 T1 n m sz:Nat}{nl nl2:Bool}{len len2:Nat->Nat}{el el2:Nat->Nat->Nat->E}(jV:id≠q)(r:jh w0 B σ a w L){v':Value}{w':World}(hm:0<m)
 (hq:nh (bad B L) (jt L) L w q<|.iM nl2 T1 T0 m sz len2 el2 none)
 (f1:Nat->Nat->Nat->Value)
 (h8:∀ k,k<n->nu w (L.iQ id k) T0 (len k) sz (f1 k) nl/\∀ i j,i<len k->j<sz->iO (bad B L) (jt L) w (el k i j) (f1 k i j)/\(el k i j).nr 2=true)
 (h9:∀ k x,k<n->(L.iQ id k).ownBlock=some x->L.own id x) (nU:∀ k k' x,k<n->k'<n->(L.iQ id k).ownBlock=some x->(L.iQ id k').ownBlock=some x->k=k')
 {v:Value} (C9:∀ y,v.ownBlock=some y->L.own id y) (nV:∀ k y,k<n->(L.iQ id k).ownBlock=some y->v.ownBlock≠some y)
 (lW:nu w' v' T1 (n+m) 1 (λk _=>if k<n then L.iQ id k else L.iQ q (k-n)) true)
 (tJ:∀ y,v'.ownBlock=some y->v.ownBlock=some y\/(w.heap.size<=y/\y<w'.heap.size))
 (nc:w.heap.size<=w'.heap.size) (tN:∀ y,y<w.heap.size->v.ownBlock≠some y->w'.heap[y]? = w.heap[y]?) (Et:w'.os=w.os) (Rg:w'.tape=w.tape) (qT:w'.output=w.output)
 (kE:L.mE id->∀ b,L.val id ≠ .pointer (some b)) (jQ:σ.nl=true->(nl&&nl2)=true):
 jh w0 B (σ.oz<|.py id q<|.iM (nl&&nl2) T1 T0 (n+m) sz (λk=>if k<n then len k else len2 (k-n)) (λk=>if k<n then el k else el2 (k-n)) none) a w'
  (L.rf id q (λy=>v'.ownBlock=some y\/∃ k,k<n+m/\(if k<n then L.iQ id k else L.iQ q (k-n)).ownBlock=some y) v' λk=>if k<n then L.iQ id k else L.iQ q (k-n)):=by
 obtain⟨b,ofs,c,cur,f,g1,g2,g3,g4,g5,g6,g7,g8,g9,g10,g11⟩:=hq.wm hm;have Q8:∀ k x,k<m->(L.iQ q k).ownBlock=some x->L.own q x:=λk x hk hx=>(g9 x).2<|.inr ⟨k,hk,hx⟩
 have C2:∀ k y,k<n+m->(if k<n then L.iQ id k else L.iQ q (k-n)).ownBlock=some y->(L.own id y\/L.own q y)/\v.ownBlock≠some y:=by
  intro k y hk hy;by_cases e:k<n
  .rw [bk e]at hy;exact⟨.inl<|h9 k y e hy,nV k y e hy⟩
  .rw [bj e]at hy;have:=Q8 _ _ aC hy;exact⟨.inr this,λh=>jV<|r.hi id q y (C9 y h) this⟩
 have iN:∀ y,L.own id y\/L.own q y->y<w.heap.size:=λy h=>by
  rcases h with h|h
  .exact (r.hw id y h).2
  .exact (r.hw q y h).2
 refine r.rf jV _ _ v' _ w' (λy hy=>?_) nc (λy hy akm=>tN y hy λh=>akm<|C9 y h) Et Rg qT (λhl=>?_) kE jQ
 .rcases hy with hy|⟨k,hk,hy⟩
  .rcases tJ y hy with h|⟨h1,h2⟩
   .exact ⟨.inl<|C9 y h,bV (r.hw id y<|C9 y h).2 nc⟩
   .exact ⟨.inr<|.inr h1,h2⟩
  .have h:=(C2 k y hk hy).1;exact⟨h.elim .inl λh=>.inr<|.inl h,bV (iN y h) nc⟩
 .rcases lW with⟨_,h0⟩|⟨b',ofs',c',cur',k1,k2,k3,k4,k5,k6,k7⟩
  .omega
  .have XQ:∀ k y,k<n+m->(if k<n then L.iQ id k else L.iQ q (k-n)).ownBlock=some y->w'.heap[y]? = w.heap[y]?:=λk y hk hy=>tN y (iN y (C2 k y hk hy).1) (C2 k y hk hy).2
   refine .inr ⟨b',ofs',c',cur',λk=>if k<n then f1 k else f (k-n),by rw[Lk.JF];exact k1,k2,k3,k4,aC,λk hk _=>?_,λu hu=>?_,λk hk=>?_,λy=>?_,λk k' y hk I7 hy rW=>?_,λk hk hy=>?_⟩
   .rw [Lk.AI];have:=(k6 k 0 hk aE).1;rwa[cE,cj]at this
   .exact k7 rfl u hu
   .rw [Lk.AI];by_cases e:k<n
    .simp only[e,bH];obtain⟨s1,s2⟩:=h8 k e;refine⟨(s1.nS λh=>?_).block λy hy=>XQ k y hk<|by rw[bk e];exact hy,λi j hi hj=>⟨hl.kJ (s2 i j hi hj).1,(s2 i j hi hj).2⟩⟩;simp only[bK]at h;exact h.1
    .simp only[e,bB];obtain⟨s1,s2⟩:=g8 (k-n) aC;refine⟨(s1.nS λh=>?_).block λy hy=>XQ k y hk<|by rw[bj e];exact hy,λi j hi hj=>⟨hl.kJ (s2 i j hi hj).1,(s2 i j hi hj).2⟩⟩;simp only[bK]at h;exact h.2
   .rw [Lk.Y6,k1];simp only[Lk.AI,Value.ownBlock,bG];constructor
    .rintro (h|h)
     .exact .inl h.symm
     .exact .inr h
    .rintro (h|h)
     .exact .inl h.symm
     .exact .inr h
   .simp only[Lk.AI]at hy rW;by_cases e:k<n
    .rw [bk e]at hy;by_cases e':k'<n
     .rw [bk e']at rW;exact nU k k' y e e' hy rW
     .rw [bj e']at rW;exact absurd (r.hi id q y (h9 k y e hy)<|Q8 _ _ aC rW) jV
    .rw [bj e]at hy;by_cases e':k'<n
     .rw [bk e']at rW;exact absurd (r.hi id q y (h9 k' y e' rW)<|Q8 _ _ aC hy) jV
     .rw [bj e']at rW;have:=g10 (k-n) (k'-n) y aC aC hy rW;omega
   .rw [Lk.AI]at hy;have h:=C2 k b' hk hy;rcases tJ b' (by rw[k1];rfl)with h2|⟨h2,_⟩
    .exact h.2 h2
    .have:=iN b' h.1;omega
def aoj{p:PV}{q:Nat}(h:p.GW=some q):p = .own q:=by
 cases p<;>simp only[PV.GW,reduceCtorEq,bG]at h;rw[h]
def ajn(hT:mh P T){s x:Operand}{t:TypeId}{q:Nat}{c:Call}(hc:c={ callee:=.builtin .append,args:=#[s,x],argTypes:=#[t,t] })(iK:o.op = .call c)(r:jh w0 B σ a w L)
  (hq:(σ.op x).GW=some q) (h:D6 T σ o.dst t (σ.op s) q=some u) (ho:∀ q,q ∈ u.jG->q):kg P K w0 B σ o a w u:=by
 have hx:=r.op x;rw[aoj hq]at hx;obtain⟨kx,kv⟩:=hx;have hs:=r.op s;unfold D6 at h;split at h
 .rename_i nl2 T2 T0 m sz len2 el2 e by_ vf CZ;obtain⟨te,zv,uz,hu,nM,vo,Mo,kI,uF,Db,BQ,Jr⟩:=Vb w hT CZ;have Yx:∀ v,v ∈ zv.cells->v.oneCell'=true/\qs v=false:=λv hv=>by
   rw[Db]at hv;have:v=uz:=by simpa using hv
   rw[this];exact⟨BQ,Jr⟩
  have key:∀ (v:Value) (n:Nat) (f:Nat->Nat->Value),0<m->a.eval s=v->nu w v e n 1 f true->(n+m)*by_<=140737488355328 ->
    ∃ v' w',(execOp a.eval o).run P w = .ok (.value v') w'/\Oy w v e n 1 m f (λk _=>L.iQ q k) true v' w':=by
   intro v n f hm hv lW jO;obtain⟨bq,ofq,cq,curq,fq,g1,g2,g3,g4,g5,g6,g7,g8,g9,g10,g11⟩:=(r.hb q _ vf).wm hm;have Gu:a.eval x = .slice (some ⟨bq,ofq,none⟩) m cq:=by rw[kv,g1]
   obtain⟨v',w',hr,mj⟩:=ab9 P w t o.type e te.i zv 1 hu (hT.BT nM) uF vo (by rw[Db];rfl) aE aC (λv hv=>(Yx v hv).1) v n f true lW (some ⟨bq,ofq,none⟩) m cq (λk _=>L.iQ q k)
    (λk j hk hj=>⟨bq,ofq,rfl,by
     obtain rfl:j=0:= aC ;have:=g6 k hk aH;simp only[World.cell?,g2];simpa using this⟩) (λhA=>by cases hA)
    (λk j hk hj=>⟨(g8 k hk).1.head.2.1,λ_=>(g8 k hk).1.head.2.2⟩) (λ_ v hv=>(Yx v hv).2) (by rw[Mo];exact jO)
   refine⟨v',w',?_,mj⟩;subst hc;have em:(#[s,x]:Array Operand).map a.eval = #[a.eval s,a.eval x]:= aH ;simp only[execOp,iK,resolve,em,hv,Gu,Sem.run_bind,Sem.run_pure,Result.andThen_ok,invoke,builtin,hr]
  split at h
  .
   rename_i id uD;rw[uD]at hs;obtain⟨ks,ks2⟩:=hs;split at h
   .rename_i nl T1 T0' n sz' len el iZ;split at h
    .rename_i pE;cases h;simp only[bK,du]at pE;obtain rfl:=kQ.1 pE.1.1.1.1;obtain rfl:=kQ.1 pE.1.1.1.2;obtain rfl:=kQ.1 pE.1.1.2;obtain rfl:=kQ.1 pE.1.2;have jV:id≠q:=λe=>by have:=pE.2;rw[e,cH]at this;cases this
     have hm:0<m:=ho _ aH;have jO:(n+m)*by_<=140737488355328:=ho _ aH;obtain⟨f,pown,p8,p9,p10,C9,p11,pno⟩:∃ f:Nat->Nat->Nat->Value,nu w (L.val id) _ n 1 (λk _=>L.iQ id k) true /\
       (∀ k,k<n->nu w (L.iQ id k) T0' (len k) sz' (f k) nl/\∀ i j,i<len k->j<sz'->iO (bad B L) (jt L) w (el k i j) (f k i j)/\(el k i j).nr 2=true) /\
       (∀ k x,k<n->(L.iQ id k).ownBlock=some x->L.own id x)/\(∀ k k' x,k<n->k'<n->(L.iQ id k).ownBlock=some x->(L.iQ id k').ownBlock=some x->k=k') /\
       (∀ y,(L.val id).ownBlock=some y->L.own id y)/\(∀ k y,k<n->(L.iQ id k).ownBlock=some y->(L.val id).ownBlock≠some y)/\∀ b,L.val id ≠ .pointer (some b):=by
      rcases r.hb id _ iZ with⟨h1,h2,h3⟩|⟨b,ofs,cp,cur,f,p1,p2,p3,p4,p5,p6,p7,p8,p9,p10,p11⟩
      .refine ⟨λ_ _ _=>undef,.inl ⟨h1,h2⟩,λk hk=> aC,λk x hk=> aC,λk k' x hk=> aC,λy hy=>?_,λk y hk=> aC,λb hb=>?_⟩
       .rw [h1]at hy;simp[Value.ownBlock]at hy
       .rw [h1]at hb;cases hb
      .refine ⟨f,.inr ⟨b,ofs,cp,cur,p1,p2,p3,p4,aC,λk j hk hj=>?_,λ_=>p7⟩,p8,λk y hk hy=>(p9 y).2<|.inr ⟨k,hk,hy⟩,p10,λy hy=>?_,λk y hk hy Gv=>?_,λb1 kI=>?_⟩
       .obtain rfl:j=0:= aC ;rw[cE,cj];exact⟨p6 k hk aH,(p8 k hk).1.head.2.1⟩
       .rw [p1]at hy;simp only[Value.ownBlock,bG]at hy;exact(p9 y).2<|.inl hy.symm
       .rw [p1]at Gv;simp only[Value.ownBlock,bG]at Gv;exact p11 k hk<|Gv▸hy
       .rw [p1]at kI;cases kI
     obtain⟨v',w',kr,mj⟩:=key (L.val id) n (λk _=>L.iQ id k) hm ks2 pown jO;refine⟨v',w',_,.inl kr,Y5 jV r hm (r.hb q _ vf) f p8 p9 p10 C9 p11 mj.own mj.Il mj.size mj.oE mj.os mj.tape mj.output (λ_=>pno) λhn=>?_,Lk.RH jV,Lk.JF.symm⟩
     .have h1:nl=true:=r.hl hn id _ iZ;have h2:nl2=true:=r.hl hn q _ vf;rw[h1,h2];rfl
    .cases h
   .cases h
  .
   rename_i id uD Mq;rw[uD]at hs;have hs:=iO.kW hs;split at h
   .rename_i kE;split at h
    .rename_i pE;cases h;simp only[bK,du]at pE;obtain rfl:=kQ.1 pE.1;have jV:id≠q:=λe=>by have:=pE.2;rw[e,cH]at this;cases this
     have hm:0<m:=ho _ aH;have jO:m*by_<=140737488355328:=ho _ aH;obtain⟨v',w',kr,mj⟩:=key _ 0 (λk _=>L.iQ id k) hm hs (.inl ⟨rfl,rfl⟩) (by simpa using jO);have Q1:¬L.mE id:=λh=>by have:=(r.hv id).1 h;rw[kE]at this;cases this
     have hj:=Y5 (n:=0) (nl:=true) (len:=λ_=>0) (el:=λ_ _ _=>.any) jV r hm (r.hb q _ vf) (λ_ _ _=>undef) (λk hk=>absurd hk<|bC k) (λk y hk=>absurd hk<|bC k) (λk k' y hk=>absurd hk<|bC k)
      (v:=.slice none 0 0) (λy hy=>by simp[Value.ownBlock]at hy) (λk y hk=>absurd hk<|bC k) mj.own mj.Il mj.size mj.oE mj.os mj.tape mj.output (λh=>absurd h Q1) (λhn=>r.hl hn q _ vf)
     simp only[bC,bB,eD,cw,fk]at hj;exact⟨v',w',_,.inl kr,hj,Lk.RH jV,Lk.JF.symm⟩
    .cases h
   .cases h
  .cases h
 .cases h
def ajb(hT:mh P T)(hB:∀ b,B b->w0.vH b){s x:Operand}{t:TypeId}{c:Call}(hc:c={ callee:=.builtin .append,args:=#[s,x],argTypes:=#[t,t] })(iK:o.op = .call c)(r:jh w0 B σ a w L)
 (h:D5 T σ o.dst t (σ.op s) (σ.op x)=some u) (ho:∀ q,q ∈ u.jG->q):kg P K w0 B σ o a w u:=by
 unfold D5 at h;split at h
 .rename_i u0 h0;split at h
  .rename_i id nl T1 n sz el id' hf hr;split at h
   .rename_i hid;have hid:=kQ.1 hid;subst hid;cases h;have r2:jh w0 B { σ with nl:=false } a w L:=⟨r.hd,r.hs,r.ht,r.hb,r.hv,r.hn,r.hw,r.hi,r.he,λh=>by cases h⟩
    obtain⟨v,w',L1,kr,hrel,sW⟩:=W6 (K:=K) hT hc iK r2 h0 λq hq=>ho q<|List.mem_cons_of_mem _ hq
    rw[hf]at hrel;rw[hr]at sW;obtain⟨L',k1,k2⟩:=jh.fin hB hrel;refine⟨v,w',L',kr,⟨k1.hd,k1.hs,k1.ht,k1.hb,k1.hv,k1.hn,k1.hw,k1.hi,k1.he,λhn i b hb=>?_⟩,?_⟩
    .have hb:look ((σ.pre<|.fin id').filter λx=>!Nat.beq x.1 id') i=some b:=hb;rw[EU,PS.CC]at hb;split at hb
     .cases hb
     .obtain ⟨b0,ml,rfl⟩:=cg.1 hb;rw[EZ];exact r.hl hn i b0 ml
    rw[sW.2];exact k2
   .cases h
  .cases h
 .cases h
def ajt{x y:Operand}{c:Call}(hc:c.callee = .builtin .max/\c.args = #[x,y])(iK:o.op = .call c)(r:jh w0 B σ a w L){k k':IntKind}{p q:Int}(hx:σ.op x = .e (.v<|.int k p))(hy:σ.op y = .e (.v<|.int k' q))
 (hu:u={ r:=.e<|.v<|.int k<|if q>p then q else p }):kg P K w0 B σ o a w u:=by
 have h1:=r.op x;have h2:=r.op y;rw[hx]at h1;rw[hy]at h2;have h1:=iO.kW h1;have h2:=iO.kW h2;subst hu;refine kg.pure r (v:=.int k<|if q>p then q else p) ?_ rfl (.v _);have em:(#[x,y]:Array Operand).map a.eval = #[.int k p,.int k' q]:=by simp[h1,h2]
 simp only[execOp,iK,resolve,hc.1,hc.2,em,Sem.run_bind,Sem.run_pure,Result.andThen_ok,invoke,builtin,run_max_int2]
def aju{x y z:Operand}{c:Call}(hc:c.callee = .builtin .max/\c.args = #[x,y,z])(iK:o.op = .call c)(r:jh w0 B σ a w L){k k' k'':IntKind}{p q s:Int}(hx:σ.op x = .e (.v<|.int k p))(hy:σ.op y = .e (.v<|.int k' q))(hz:σ.op z = .e (.v<|.int k'' s))
 (hu:u={ r:=.e<|.v<|.int k<|if s>(if q>p then q else p)then s else(if q>p then q else p) }):kg P K w0 B σ o a w u:=by
 have h1:=r.op x;have h2:=r.op y;have h3:=r.op z;rw[hx]at h1;rw[hy]at h2;rw[hz]at h3;have h1:=iO.kW h1;have h2:=iO.kW h2;have h3:=iO.kW h3;subst hu;refine kg.pure r (v:=.int k<|if s>(if q>p then q else p)then s else(if q>p then q else p)) ?_ rfl (.v _);have em:(#[x,y,z]:Array Operand).map a.eval = #[.int k p,.int k' q,.int k'' s]:=by simp[h1,h2,h3]
 simp only[execOp,iK,resolve,hc.1,hc.2,em,Sem.run_bind,Sem.run_pure,Result.andThen_ok,invoke,builtin,run_max_int3]
def ajv{x y:Operand}{c:Call}(hc:c.callee = .builtin .min/\c.args = #[x,y])(iK:o.op = .call c)(r:jh w0 B σ a w L){k k':IntKind}{p q:Int}(hx:σ.op x = .e (.v<|.int k p))(hy:σ.op y = .e (.v<|.int k' q))
 (hu:u={ r:=.e<|.v<|.int k<|if q<p then q else p }):kg P K w0 B σ o a w u:=by
 have h1:=r.op x;have h2:=r.op y;rw[hx]at h1;rw[hy]at h2;have h1:=iO.kW h1;have h2:=iO.kW h2;subst hu;refine kg.pure r (v:=.int k<|if q<p then q else p) ?_ rfl (.v _);have em:(#[x,y]:Array Operand).map a.eval = #[.int k p,.int k' q]:=by simp[h1,h2]
 simp only[execOp,iK,resolve,hc.1,hc.2,em,Sem.run_bind,Sem.run_pure,Result.andThen_ok,invoke,builtin,run_min_int2]
end
end Go.Proofs.YtjkmahljfblobaaGreatDoor.Pu
