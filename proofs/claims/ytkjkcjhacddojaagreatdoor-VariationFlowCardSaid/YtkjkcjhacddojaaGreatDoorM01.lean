/- Lemmas that the last file uses. -/
import Derived.Test.YtkjkcjhacddojaaGreatDoorProg
import Derived.WalkKit
import Derived.BigQuiet
import Derived.WalkSpells
import Derived.WalkLawsBesides
import Derived.Lib.Hide
import Derived.Deep.RegionHeld3
import Derived.Maps.AppendAt
import Derived.Deep.AppendLies
import Derived.Deep.Draws
import Derived.Deep.DeepFit
import Derived.Laws.AppendOwnNone
import Derived.Shelf.Small.Bits
import Derived.Shelf.Spec.TrailingZeros
import Derived.Test.YtkjkcjhacddojaaGreatDoorCards
import Derived.Test.YtkjkcjhacddojaaGreatDoorTie
import Derived.ProofKit
import Derived.OpenShut
import Derived.Deep.DeepHandedRow
import Derived.Lib.LaidTab
import Derived.Laws.AppendOwn
import Derived.Laws.MakeOwn
import Derived.Laws.Slices
import Derived.Orders
import Derived.Laws.Build
set_option linter.unusedSimpArgs false
set_option linter.unusedVariables false
set_option linter.defProp false
set_option maxHeartbeats 4000000
open Go.Proofs.Tryz
namespace Go.Proofs.YtkjkcjhacddojaaGreatDoor
theorem aD{p:Prop}(h:p:=by omega):p:=h
theorem aE{p:Prop}(h:p:=by assumption):p:=h
theorem aF{p:Prop}(h:p:=by decide):p:=h
theorem aG{p:Prop}(h:p:=by kernel_rfl):p:=h
theorem aI{p:Prop}(h:p:=by rfl):p:=h
theorem aJ{p:Prop}(h:p:=by simp):p:=h
theorem aK{p:Prop}(h:p:=by nofun):p:=h
theorem aM{p:Prop}(h:p:=by simp<;>omega):p:=h
theorem aO{p:Prop}(h:p:=by grind):p:=h
theorem aP{p:Prop}(h:p:=by decide +kernel):p:=h
theorem aQ{p:Prop}(h:p:=by split<;>omega):p:=h
theorem aR{p:Prop}(h:p:=by simp;omega):p:=h
theorem aS{p:Prop}(h:p:=by first|rfl|omega|(simp only[Nat.add_mul,Nat.one_mul];omega)):p:=h
theorem aT{p:Prop}(h:p:=by simp[Op.operands]):p:=h
theorem aU{p:Prop}(h:p:=by first|omega|(simp only[mu];omega)):p:=h
theorem aV{p:Prop}(h:p:=by unfold nm;omega):p:=h
theorem aW{p:Prop}(h:p:=by rw[List.length_take];omega):p:=h
theorem aX{p:Prop}(h:p:=by rw[IntKind.wrap_u32];omega):p:=h
theorem aY{p:Prop}(h:p:=by rw[List.length_map];omega):p:=h
theorem aZ{p:Prop}(h:p:=by rw[tq];omega):p:=h
theorem a6{p:Prop}(h:p:=by unfold ko;omega):p:=h
theorem a7{α:Type _}[BEq α][LawfulBEq α]{a b:α}(h:a≠b):(a==b)=false:=beq_eq_false_iff_ne.2 h
theorem a8{α:Type _}[BEq α][LawfulBEq α]{a b:α}(h:a=b):(a==b)=true:=beq_iff_eq.2 h
theorem bc{b:Bool}(h:¬b=true):b=false:=Bool.eq_false_iff.2 h
theorem bd{α:Type _}[BEq α][LawfulBEq α]{a b:α}(h:a=b):(a != b)=false:=bne_eq_false_iff_eq.2 h
theorem bg{α:Type _}[BEq α][LawfulBEq α]{a b:α}(h:a≠b):(a != b)=true:=bne_iff_ne.2 h
def bh:=@if_neg
def bj:=@if_pos
def bk:=@decide_eq_true
def bl:=@decide_eq_false
def bn:=@List.getD_eq_getElem?_getD
def bp:=@Nat.le_refl
def bq:=@Nat.pow_add
def bt:=@List.getElem?_eq_getElem
def bu:=@Nat.pow_pos
def bw:=@Nat.mul_assoc
def bA:=@Nat.mod_lt
def bB:=@Nat.mul_comm
def bC:=@Nat.not_lt_zero
def bD:=@List.mem_range
def bE:=@Nat.pow_succ
def bF:=@if_false
def bG:=@Nat.pow_le_pow_right
def bH:=@Nat.mul_add
def bI:=@if_true
def bJ:=@Nat.mod_eq_of_lt
def bK:=@Nat.add_zero
def bL:=@Nat.mul_le_mul_right
def bM:=@Nat.le_trans
def bN:=@Nat.lt_of_lt_of_le
def bO:=@Option.some.injEq
def bQ:=@Bool.and_eq_true
def bR:=@List.getElem?_eq_none
def bS:=@List.all_eq_true
def bT:=@Nat.add_mul
def bU:=@Nat.zero_add
def bV:=@Nat.pow_zero
def bW:=@Nat.mul_one
def bX:=@Nat.one_mul
def bY:=@Classical.byContradiction
def bZ:=@Nat.div_lt_iff_lt_mul
def b6:=@Nat.zero_le
def b8:=@Int.le_refl
def b9:=@Bool.false_eq_true
def ca:=@Nat.div_eq_of_lt
def cg:=@List.getElem?_eq_some_iff
def ch:=@List.getElem_mem
def cj:=@List.length_take
def ck:=@Nat.div_add_mod
def cr:=@List.length_map
def ct:=@Prod.mk.injEq
def cv:=@List.length_append
def cw:=@List.mem_map
def cz:=@Nat.div_le_self
def cA:=@Nat.mul_le_mul_left
def cB:=@Nat.zero_mul
def cC:=@Nat.lt_of_le_of_lt
def cD:=@List.getElem?_map
def cE:=@List.any_eq_true
def cF:=@decide_eq_true_eq
def cG:=@List.take_of_length_le
def cH:=@Nat.mul_zero
def cI:=@List.length_set
def cJ:=@Nat.div_div_eq_div_mul
def cK:=@of_decide_eq_true
def cL:=@Option.map_some
def cM:=@List.mem_cons
def cN:=@List.length_cons
def cO:=@Nat.mul_lt_mul_of_pos_right
def cP:=@Nat.add_assoc
def cQ:=@Option.map_eq_some_iff
def cR:=@ne_eq
def cS:=@Option.bind_some
def cT:=@Nat.mod_one
def cU:=@Nat.le_of_ble_eq_true
def cV:=@Nat.sub_self
def cW:=@Nat.mul_left_comm
def cX:=@Array.getElem?_eq_some_iff
def cY:=@Array.getElem?_modify
def c9:=@List.any_eq_false
def dc:=@Int.natAbs_natCast
def de:=@Nat.le_div_iff_mul_le
def df:=@Nat.min_eq_left
def dg:=@Rat.le_refl
def dh:=@List.map_congr_left
def di:=@Nat.mul_le_mul
def dj:=@Nat.div_mul_le_self
def dk:=@Nat.mul_add_div
def dm:=@Int.eq_ofNat_of_zero_le
def dn:=@Bool.eq_iff_iff
def dp:=@Rat.le_of_lt
def dq:=@List.eq_nil_of_length_eq_zero
def dr:=@List.mem_iff_getElem?
def dt:=@Array.ext'
def du:=@Nat.sub_zero
def dv:=@Nat.le_of_lt
def dw:=@List.ext_getElem
def dx:=@List.getElem_map
def dz:=@Array.size_push
def dA:=@Array.getElem?_push
def dB:=@Nat.add_sub_cancel
def dC:=@Nat.mod_add_div
def dD:=@Nat.mul_div_cancel
def dE:=@Nat.beq_refl
def dF:=@beq_false
def dG:=@Nat.mul_add_mod
def dH:=@Array.length_toList
def dI:=@Array.mem_of_getElem?
def dJ:=@Bool.or_eq_true
def dK:=@List.getElem_range
def dL:=@List.length_range
def dM:=@Rat.natCast_mul
def dN:=@List.mem_append
def dO:=@Nat.lt_or_ge
def dP:=@Nat.sub_le
def dQ:=@Int.natCast_mul
def dR:=@Nat.div_one
def dS:=@Classical.choose_spec
def dT:=@Nat.lt_one_iff
def dU:=@Rat.mul_nonneg
def dV:=@Rat.le_trans
def dW:=@Array.size_modify
def dX:=@beq_self_eq_true
def dY:=@Nat.add_mul_mod_self_left
def dZ:=@List.drop_eq_nil_of_le
def ee:=@List.getElem_cons_succ
def ef:=@Nat.ne_of_gt
def eg:=@List.getElem?_take
def ej:=@Nat.add_comm
def ek:=@Nat.eq_zero_or_pos
def en:=@List.getElem?_append_left
def eo:=@List.length_pos_iff
def ep:=@Nat.pos_of_ne_zero
def er:=@Bool.true_and
def eu:=@Nat.lt_irrefl
def ev:=@List.mem_of_mem_take
def ey:=@List.take_succ_cons
def ez:=@Nat.mul_ne_zero
def eA:=@List.mem_of_getElem?
def eB:=@List.getElem?_drop
def eC:=@Bool.not_false
def eD:=@List.getElem?_append_right
def eE:=@List.length_drop
def eF:=@not_false_eq_true
def eG:=@Int.natCast_add
def eH:=@Nat.pow_lt_pow_right
def eI:=@Nat.xor_lt_two_pow
def eJ:=@Rat.natCast_nonneg
def eK:=@Int.toNat_of_nonneg
def eN:=@List.mem_of_mem_drop
def eO:=@Nat.add_mul_div_left
def eP:=@Nat.mul_pos
def eQ:=@Nat.sub_add_cancel
def eR:=@List.drop_eq_getElem_cons
def eU:=@List.getElem_toArray
def eV:=@List.getElem_cons_zero
def eW:=@List.drop_zero
def eX:=@List.drop_succ_cons
def eZ:=@List.take_zero
def e7:=@List.mem_flatMap
def e8:=@Bool.not_true
def e9:=@List.map_cons
def fc:=@Array.mem_append
def fe:=@getElem!_pos
def ff:=@List.foldl_cons
def fg:=@List.mapM_cons
def fh:=@Bool.not_eq_true'
def fi:=@Nat.and_lt_two_pow
def fj:=@Int.natAbs_neg
def fk:=@List.take_length
def fl:=@BitVec.toNat_ofInt
def fm:=@Nat.zero_div
def fo:=@Nat.le_of_not_lt
def fp:=@Nat.lt_trans
def fu:=@List.length_nil
def fv:=@Rat.mul_pos
def fw:=@Rat.neg_neg
def fz:=@List.take_succ_eq_append_getElem
def fA:=@Nat.gcd_comm
def fB:=@Nat.mul_right_comm
def fC:=@Nat.mul_mod_left
def fD:=@Int.toNat_natCast
def fE:=@List.getElem?_append
def fF:=@List.ext_getElem?
def fG:=@Nat.le_mul_of_pos_right
def fH:=@List.size_toArray
def fI:=@Array.mem_map
def fJ:=@Array.mem_range
def fK:=@Bool.or_eq_false_iff
def fL:=@Nat.or_comm
def fM:=@List.getElem?_replicate
def fN:=@decide_true
def fO:=@or_false
def fP:=@Nat.mod_mul
def fQ:=@Bool.false_or
def fR:=@Nat.mod_le
def fS:=@Nat.div_pos
def fT:=@Rat.mul_le_mul_of_nonneg_right
def fU:=@Rat.mul_assoc
def fV:=@Rat.natCast_add
def fW:=@List.length_singleton
def fX:=@Nat.div_lt_self
def fY:=@Array.getElem_mem
def fZ:=@List.getElem?_toArray
def gi:=@List.mem_toArray
def gj:=@not_true_eq_false
def gl:=@Option.bind_eq_some_iff
def gn:=@Option.isSome_iff_exists
def gp:=@BitVec.ofInt_natCast
def gq:=@BitVec.toNat_ofNat
def gv:=@Nat.and_one_is_mod
def gw:=@Nat.mul_lt_mul''
def gy:=@decide_eq_true_iff
def gz:=@beq_iff_eq
def gA:=@List.getElem?_set_ne
def gB:=@Nat.le_of_eq
def gC:=@Nat.mul_mod_mul_left
def gD:=@Nat.mul_eq_zero
def gE:=@Nat.lt_succ_self
def gF:=@Nat.lt_of_not_le
def gG:=@Bool.not_eq_true
def gH:=@Bool.not_eq_false'
def ado:=@Rat.intCast_neg
def ajH:=@Rat.neg_mul
def ajI:=@Rat.natCast_pos
def ajJ:=@Rat.one_mul
def ajK:=@Rat.div_def
def ajL:=@Nat.one_ne_zero
def ajM:=@Int.tmod_eq_emod_of_nonneg
def ajN:=@List.not_mem_nil
def ajO:=@List.cons_append
def ajP:=@List.take_append_drop
def ajQ:=@List.eq_nil_or_concat
def ajR:=@List.concat_eq_append
def ajS:=@List.getElem_of_mem
def ajT:=@List.map_append
def ajU:=@Array.getElem?_setIfInBounds_ne
def ajV:=@Array.size_append
def ajW:=@List.any_cons
def ajX:=@Bool.or_false
def ajY:=@List.set_cons_zero
def ajZ:=@Option.getD_some
def aj0:=@List.pairwise_cons
def aj1:=@List.pairwise_append
def aj2:=@Option.some.inj
def aj3:=@Array.getElem_setIfInBounds_ne
def aj4:=@Nat.or_lt_two_pow
def aj5:=@List.take_add_one
def aj6:=@decide_eq_decide
def aj7:=@Nat.zero_lt_succ
def aj8:=@Nat.testBit_xor
def aj9:=@List.length_eq_zero_iff
def aka:=@List.getElem?_range
def akb:=@List.getElem_set
def akc:=@not_not_intro
def akd:=@Nat.gcd_zero_right
def ake:=@Rat.natCast_le_natCast
def akf:=@Rat.intCast_natCast
def akg:=@Rat.mul_div_cancel
def akh:=@Rat.le_antisymm
def aki:=@List.getElem?_cons_succ
def akj:=@Nat.pow_lt_pow_iff_right
def akk:=@Array.getElem?_setIfInBounds
def akl:=@Array.getElem?_append_left
def akm:=@Int.tdiv_eq_ediv_of_nonneg
def akn:=@Array.toList_setIfInBounds
def ako:=@List.drop_length_add_append
def akp:=@Array.all_eq_true_iff_forall_mem
def akq:=@Array.mapM_eq_mapM_toList
def akr:=@Nat.and_two_pow_sub_one_eq_mod
def aks:=@Nat.eq_of_mul_eq_mul_right
def akt:=@Nat.lt_of_mul_lt_mul_right
def aku:=@Rat.le_of_mul_le_mul_right
def akv:=@Rat.lt_of_mul_lt_mul_right
def akw:=@Lib.hid
end Go.Proofs.YtkjkcjhacddojaaGreatDoor
namespace Go.Proofs.YtkjkcjhacddojaaGreatDoor.Fp
def val:List Nat->Nat
 | []=>0
 |x::l=>x+4294967296*val l
def iw(L:List Nat):Prop:=∀ x,x ∈ L->x<4294967296
def iw.nil:iw []:=by intro x h;cases h
def iw.cons{x:Nat}{l:List Nat}(hx:x<4294967296)(h:iw l):iw (x::l):=by
 intro y hy;rcases cM.1 hy with rfl|hy;exact hx;exact h _ hy
def iw.head{x:Nat}{l:List Nat}(h:iw (x::l)):x<4294967296:=h x aJ 
def iw.tail{x:Nat}{l:List Nat}(h:iw (x::l)):iw l:=λy hy=>h y (by simp[hy])
def iw.append{l m:List Nat}(h:iw l)(k:iw m):iw (l++m):=by
 intro x hx;rcases dN.1 hx with hx|hx;exact h _ hx;exact k _ hx
def iw.take{l:List Nat}(h:iw l)(n:Nat):iw (l.take n):=λx hx=>h x (ev hx)
def iw.drop{l:List Nat}(h:iw l)(n:Nat):iw (l.drop n):=λx hx=>h x (eN hx)
def iw.get{l:List Nat}(h:iw l){i:Nat}(hi:i<l.length):l[i]<4294967296:=h _ (ch hi)
def iw.getD{l:List Nat}(h:iw l)(i:Nat):l.getD i 0<4294967296:=by
 rw[bn];by_cases hi:i<l.length
 .rw [bt hi];exact h.get hi
 .rw [bR aD];decide
def iw.AH(n:Nat):iw (List.replicate n 0):=by
 intro x hx;rw[List.mem_replicate]at hx;rw[hx.2];decide
@[simp] theorem xN:val []=0:=rfl
@[simp] theorem pC (x:Nat) (l:List Nat):val (x::l)=x+4294967296*val l:=rfl
def tH(l m:List Nat):val (l++m)=val l+4294967296^l.length*val m:=by
 induction l with
 |nil=>simp
 |cons x l ih=>
  simp only[ajO,pC,ih,cN,bE];rw[bH,bB (4294967296^l.length) 4294967296,bw];omega
def lW{l:List Nat}(h:iw l):val l<4294967296^l.length:=by
 induction l with
 |nil=>simp
 |cons x l ih=>
  have h1:=h.head;have h2:=ih h.tail;simp only[pC,cN,bE];have:val l+1<=4294967296^l.length:=h2;have:=cA 4294967296 this;rw[bB (4294967296^l.length)];omega
def xP(n:Nat):val (List.replicate n 0)=0:=by
 induction n with
 |zero=>rfl
 |succ n ih=>simp[List.replicate_succ,ih]
def Cx(l:List Nat)(n:Nat)(hn:n<=l.length):val l=val (l.take n)+4294967296^n*val (l.drop n):=by
 conv=>lhs;rw[<-ajP n l,tH]
 rw[cj,df hn]
def wL(l:List Nat)(n:Nat)(hn:n<l.length):val (l.take (n+1))=val (l.take n)+4294967296^n*l[n]:=by
 rw[fz hn,tH,cj,df aD];simp
def ai2{l:List Nat}(h:iw l)(n:Nat):val (l.take n)=val l%4294967296^n:=by
 by_cases hn:n<=l.length
 .rw [Cx l n hn,dY,bJ];have:=lW (h.take n);rwa[cj,df hn]at this
 .rw [cG aD,bJ];refine bN (lW h) (bG aF aD)
def EA{l:List Nat}(h:iw l)(n:Nat):val (l.drop n)=val l/4294967296^n:=by
 by_cases hn:n<=l.length
 .rw [Cx l n hn];have:=lW (h.take n);rw[cj,df hn]at this;rw[eO _ _ (bu aF),ca this,bU]
 .rw [dZ aD,ca];rfl;exact bN (lW h) (bG aF aD)
def gT:List Nat->List Nat
 | []=>[]
 |x::l=>match gT l with
  | []=>if x=0 then[]else[x]
  |y::m=>x::y::m
def lI(L:List Nat):Nat:=(gT L).length
def Wj(l:List Nat):gT (l++[0])=gT l:=by
 induction l with
 |nil=>rfl
 |cons x l ih=>simp only[ajO,gT,ih]
def Wi(l:List Nat)(x:Nat)(hx:x≠0):gT (l++[x])=l++[x]:=by
 induction l with
 |nil=>simp[gT,hx]
 |cons y l ih=>
  simp only[ajO,gT,ih];cases l<;>rfl
def Ey(L:List Nat):gT L=L.take (lI L):=by
 unfold lI
 induction L with
 |nil=>rfl
 |cons x l ih=>
  simp only[gT];cases h:gT l with
  |nil=>by_cases hx:x=0<;>simp[hx]
  |cons y m=>
   rw[h]at ih;simp only[cN,ey];rw[cN]at ih;rw[<-ih]
def n9(L:List Nat):lI L<=L.length:=by
 have h:=congrArg List.length (Ey L);rw[cj]at h;unfold lI at h ⊢;omega
def oc(L:List Nat):val (gT L)=val L:=by
 induction L with
 |nil=>rfl
 |cons x l ih=>
  simp only[gT];cases h:gT l with
  |nil=>rw[h]at ih;by_cases hx:x=0<;>simp[hx,<-ih]
  |cons y m=>rw[h]at ih;simp only[pC]at ih ⊢;rw[ih]
def iw.gT{L:List Nat}(h:iw L):iw (Fp.gT L):=by rw[Ey];exact h.take _
def mG(L:List Nat):Prop:=gT L=L
def xM(L:List Nat):mG (gT L):=by
 unfold mG
 induction L with
 |nil=>rfl
 |cons x l ih=>
  simp only[gT];cases h:gT l with
  |nil=>by_cases hx:x=0<;>simp[hx,gT]
  |cons y m=>rw[h]at ih;simp only[gT]at ih ⊢;rw[ih]
def mG.nil:mG []:=rfl
def y4(L:List Nat):mG L↔∀ h:0<L.length,L[L.length-1]≠0:=by
 rcases ajQ L with rfl|⟨l,x,rfl⟩
 .simp [mG,gT]
 .simp only[ajR,cv,fW,dB,List.getElem_concat_length];constructor
  .intro h _ hx;subst hx;have:=congrArg List.length h;rw[Wj]at this;have h2:=n9 l;unfold lI at h2;rw[cv]at this;simp at this;omega
  .intro h;exact Wi l x (h aD)
def Ib(L:List Nat)(n:Nat)(hn:n<L.length)(h0:L[n]=0):lI (L.take (n+1))=lI (L.take n):=by
 unfold lI;rw[fz hn,h0,Wj]
def Ia(L:List Nat)(n:Nat)(hn:n<L.length)(h0:L[n]≠0):lI (L.take (n+1))=n+1:=by
 unfold lI;rw[fz hn,Wi _ _ h0];simp;omega
def mG.I6{x:Nat}{l:List Nat}(h:mG (x::l)):mG l:=by
 rw[y4]at h ⊢;intro hl;have:=h aJ;simp only[cN,dB]at this;have e:(x::l)[l.length]'(aJ)=l[l.length-1]:=by
  rw[List.getElem_cons];rw[dif_neg aD]
 rwa[e]at this
def mG.xO{L:List Nat}(h:mG L)(hl:L≠[]):0<val L:=by
 induction L with
 |nil=>exact absurd rfl hl
 |cons x l ih=>
  simp only[pC];by_cases oR:l=[]
  .subst oR;have:=(y4 _).1 h aJ;simp at this;simp;omega
  .have:=ih h.I6 oR;omega
def mG.ext{L M:List Nat}(hL:mG L)(hM:mG M)(kL:iw L)(kM:iw M)(h:val L=val M):L=M:=by
 induction L generalizing M with
 |nil=>
  by_cases hm:M=[]
  .exact hm.symm
  .have:=hM.xO hm;rw[<-h]at this;simp at this
 |cons x l ih=>
  cases M with
  |nil=>have:=hL.xO aJ;rw[h]at this;simp at this
  |cons y m=>
   simp only[pC]at h;have h1:=kL.head;have h2:=kM.head;have e:x=y:= aD ;subst e;rw[ih hL.I6 hM.I6 kL.tail kM.tail aD]
def gK(n:Nat):List Nat:=if n=0 then[]else n%4294967296::gK (n/4294967296)
termination_by n
decreasing_by exact fX aD aF 
def nt:gK 0=[]:=by rw[gK];rfl
def xx{n:Nat}(h:n≠0):gK n=n%4294967296::gK (n/4294967296):=by rw[gK,bh h]
def jR(n:Nat):val (gK n)=n:=by
 induction n using Nat.strongRecOn with
 |_ n ih=>
  by_cases h:n=0
  .subst h;rw[nt];rfl
  .rw [xx h,pC,ih _ (fX aD aF)];exact dC n 4294967296
def kO(n:Nat):iw (gK n):=by
 induction n using Nat.strongRecOn with
 |_ n ih=>
  by_cases h:n=0
  .subst h;rw[nt];exact iw.nil
  .rw [xx h];exact iw.cons (bA _ aF) (ih _ (fX aD aF))
def uK(n:Nat):mG (gK n):=by
 induction n using Nat.strongRecOn with
 |_ n ih=>
  by_cases h:n=0
  .subst h;rw[nt];exact mG.nil
  .rw [xx h];have h1:=ih _ (fX aD (aF:1<4294967296));unfold mG at h1 ⊢;simp only[gT,h1];by_cases h2:n/4294967296=0
   .rw [h2,nt];have:n%4294967296≠0:= aD ;simp[this]
   .rw [xx h2]
def qJ{L:List Nat}(h:iw L):gT L=gK (val L):=
 mG.ext (xM L) (uK _) h.gT (kO _) (by rw[oc,jR])
def mG.CS{L:List Nat}(h:mG L)(k:iw L):L=gK (val L):=by
 rw[<-qJ k];exact h.symm
def RZ{n:Nat}:gK n=[]↔n=0:=by
 constructor
 .intro h;have:=jR n;rw[h]at this;exact this.symm
 .rintro rfl;exact nt
def qi{n k:Nat}(h:n<4294967296^k):(gK n).length<=k:=by
 induction k generalizing n with
 |zero=>simp at h;subst h;rw[nt];simp
 |succ k ih=>
  by_cases h0:n=0
  .subst h0;rw[nt];simp
  .rw [xx h0,cN];have:n/4294967296<4294967296^k:=by
    rw[bZ aF];rwa[bE]at h
   have:=ih this;omega
def uy{n k:Nat}(h:(gK n).length<=k):n<4294967296^k:=by
 have h1:=lW (kO n);rw[jR]at h1;exact bN h1 (bG aF h)
def gU(n:Nat):Nat:=if n=0 then 0 else n.log2+1
def ri:gU 0=0:=rfl
def kB{n k:Nat}:gU n<=k↔n<2^k:=by
 unfold gU;by_cases h:n=0
 .subst h;simp[bu]
 .rw [bh h,<-Nat.log2_lt h];omega
def wh{n k:Nat}:k<gU n↔2^k<=n:=by
 have:=@kB n k;omega
def tR{n k:Nat}(h1:2^k<=n)(h2:n<2^(k+1)):gU n=k+1:=by
 have a:=wh.2 h1;have b:=kB.2 h2;omega
def px(n:Nat):n<2^gU n:=kB.1 (bp _)
def qK{n:Nat}(h:n≠0):2^(gU n-1)<=n:=by
 have:gU n-1<gU n:=by
  have:gU n≠0:=by unfold gU;simp[h]
  omega
 exact wh.1 this
def mZ{n:Nat}(h:n≠0):0<gU n:=by unfold gU;simp[h]
def sg{m n:Nat}(h:m<=n):gU m<=gU n:=kB.2 (cC h (px n))
def qw{n:Nat}(h:n≠0)(k:Nat):gU (n*2^k)=gU n+k:=by
 have h1:=px n;have h2:=qK h;have h3:=mZ h;have e:gU n+k=(gU n-1+k)+1:= aD ;rw[e];apply tR
 .rw [bq];exact bL _ h2
 .rw [<-e,bq];exact cO h1 (bu aF)
def nB(k:Nat):(4294967296:Nat)^k=2^(32*k):=by
 rw[Nat.pow_mul]
def XP{l:List Nat}{x:Nat}(h:iw (l++[x]))(hx:x≠0):gU (val (l++[x]))=32*l.length+gU x:=by
 rw[tH];simp only[pC,xN,cH,bK];have hl:val l<4294967296^l.length:=lW (λy hy=>h y (by simp[hy]));rw[nB]at hl ⊢;have h1:=px x;have h2:=qK hx;have h3:=mZ hx;have e:32*l.length+gU x=(32*l.length+(gU x-1))+1:= aD ;rw[e];apply tR
 .rw [bq];have:=cA (2^(32*l.length)) h2;omega
 .rw [<-e,bq];have:=cA (2^(32*l.length)) (show x+1<=2^gU x from h1);rw[bH]at this;omega
def kv(a b:Nat):Int:=if a<b then -1 else if b<a then 1 else 0
def Iq{L M:List Nat}(kL:iw L)(hM:mG M)(h:L.length<M.length):val L<val M:=by
 rcases ajQ M with rfl|⟨m,x,rfl⟩
 .simp at h
 .simp only[ajR,cv,fW]at h hM ⊢;have hx:x≠0:=by
   have:=(y4 _).1 hM aJ;simpa using this
  have h1:=lW kL;rw[tH];have h2:(4294967296:Nat)^L.length<=4294967296^m.length:=bG aF aD;have h3:(4294967296:Nat)^m.length*1<=4294967296^m.length*val [x]:=cA _ aR;omega
def aiY{L M:List Nat}(kL:iw L)(i:Nat)(hi:i<L.length)(hlen:L.length=M.length)(abX:L.drop (i+1)=M.drop (i+1))(iE:L[i]<M[i]'(aD)):val L<val M:=by
 rw[Cx L (i+1) aD,Cx M (i+1) aD,abX,wL L i hi,wL M i aD];have h1:=lW (kL.take i);rw[cj,df aD]at h1;have h2:=cA (4294967296^i) (show L[i]+1<=M[i]'(aD)from iE);rw[bH]at h2;omega
def ai0(L:List Nat)(k:Nat)(h:iw L):val (L.drop k)=val L/2^(32*k):=by
 rw[EA h,nB]
def pS(s:Nat):List Nat->List Nat
 | []=>[]
 |x::l=>((x+4294967296*l.getD 0 0)/2^s)%4294967296::pS s l
def Hz(s:Nat)(L:List Nat):(pS s L).length=L.length:=by
 induction L with
 |nil=>rfl
 |cons x l ih=>simp[pS,ih]
def VH(s:Nat)(L:List Nat)(i:Nat)(h:i<L.length):(pS s L)[i]? = some (((L[i]+4294967296*L.getD (i+1) 0)/2^s)%4294967296):=by
 induction L generalizing i with
 |nil=>simp at h
 |cons x l ih=>
  cases i with
  |zero=>simp[pS]
  |succ i=>
   simp only[cN]at h;simp only[pS,aki,ih i aD,ee];congr 1
def D4(s:Nat)(L:List Nat):iw (pS s L):=by
 induction L with
 |nil=>exact iw.nil
 |cons x l ih=>exact iw.cons (bA _ aF) ih
def ai1{L:List Nat}(h:iw L)(s:Nat)(hs:s<32):val (pS s L)=val L/2^s:=by
 induction L with
 |nil=>simp[pS]
 |cons x l ih=>
  have e:32=s+(32-s):= aD ;have e2:(4294967296:Nat)=2^s*2^(32-s):=by rw[<-bq,<-e]
  have hp:0<2^s:=bu aF;have hx:=h.head;simp only[pS,pC,ih h.tail];generalize hv:val l=v;have hh:l.getD 0 0=v%4294967296:=by
   rw[<-hv];cases l with
   |nil=>simp
   |cons y m=>
    have:=h.tail.head;simp[pC];omega
  rw[hh];have f1:(x+4294967296*(v%4294967296))/2^s=x/2^s+2^(32-s)*(v%4294967296):=by
   rw[show x+4294967296*(v%4294967296)=x+2^s*(2^(32-s)*(v%4294967296))by rw[<-bw,<-e2],eO _ _ hp]
  have f2:(x+4294967296*v)/2^s=x/2^s+2^(32-s)*v:=by
   rw[show x+4294967296*v=x+2^s*(2^(32-s)*v)by rw[<-bw,<-e2],eO _ _ hp]
  rw[f1,f2];have pI:x/2^s<2^(32-s):=by
   rw[bZ hp,bB,<-e2];exact hx
  generalize x/2^s=q at pI ⊢;have g1:(4294967296:Nat)=2^(32-s)*2^s:=by rw[bB];exact e2
  have g2:v=2^s*(v/2^s)+v%2^s:=(ck v (2^s)).symm;have g3:(q+2^(32-s)*(v%4294967296))%4294967296=q+2^(32-s)*(v%2^s):=by
   have k1:v%4294967296%2^s=v%2^s:=by
    rw[e2,Nat.mod_mul_right_mod]
   have k2:(v%4294967296)=2^s*(v%4294967296/2^s)+v%2^s:=by
    rw[<-k1];exact(ck _ _).symm
   conv=>lhs;rw[k2]
   rw[bH,<-bw,<-g1];rw[(aD:q+(4294967296*(v%4294967296/2^s)+2^(32-s)*(v%2^s))=(q+2^(32-s)*(v%2^s))+4294967296*(v%4294967296/2^s)),dY];apply bJ;have:v%2^s+1<=2^s:=bA _ hp;have:=cA (2^(32-s)) this;rw[<-g1,bH]at this;omega
  rw[g3]
  conv=>rhs;rw[g2,bH,<-bw,<-g1]
  omega
def MF{L:List Nat}(h:iw L)(n:Nat):val (pS (n%32) (L.drop (n/32)))=val L/2^n:=by
 rw[ai1 (h.drop _) _ (bA _ aF),ai0 _ _ h,cJ,<-bq];congr 2;omega
def Mq{out a:List Nat}{i c s n0:Nat}(hi:i<a.length)(hlen:out.length=n0+i)
 (h:val out+4294967296^(n0+i)*c=val (a.take i)*2^s*4294967296^n0):
 val (out++[(a[i]*2^s+c)%4294967296])+4294967296^(n0+(i+1))*((a[i]*2^s+c)/4294967296)=val (a.take (i+1))*2^s*4294967296^n0:=by
 rw[tH,wL a i hi,hlen];simp only[pC,xN,cH,bK];generalize hx:a[i]*2^s+c=x;have e:=dC x 4294967296;have p:4294967296^(n0+(i+1))=4294967296^(n0+i)*4294967296:=by rw[<-cP,bE]
 rw[p,cP,bw (4294967296^(n0+i)),<-bH,e,<-hx,bH,<-cP,Nat.add_right_comm,h,bT,bT];congr 1;rw[bq]
 ac_rfl
def tI(b:List Nat)(i:Nat):val (b.take (i+1))=val (b.take i)+4294967296^i*b.getD i 0:=by
 by_cases hi:i<b.length
 .rw [wL b i hi,bn,bt hi];rfl
 .rw [cG aD,cG aD,bn,bR aD];simp
def ajA{out a b:List Nat}{i c y d c':Nat}(hi:i<a.length)(hlen:out.length=i)
 (hb:val (b.take (i+1))=val (b.take i)+4294967296^i*y)
 (hd:d+y+c=a[i]+4294967296*c')
 (h:val out+val (b.take i)=val (a.take i)+4294967296^i*c):
 val (out++[d])+val (b.take (i+1))=val (a.take (i+1))+4294967296^(i+1)*c':=by
 rw[tH,wL a i hi,hb,hlen];simp only[pC,xN,cH,bK];have e:=congrArg (4294967296^i * ·) hd;simp only[bH,<-bw]at e;rw[bE];omega
def jY(n:Nat):Nat:=if n=0 then 0 else(Nat.gcd n (2^(Nat.log2 n+1))).log2
def I7{m:Nat}(hm:m%2=1)(k:Nat):jY (m*2^k)=k:=by
 have h0:m*2^k≠0:=ez aD (ef (bu aF));unfold jY;rw[bh h0];have hk:k<=Nat.log2 (m*2^k):=by
  apply bY;intro h;have h1:m*2^k<2^k:=(Nat.log2_lt h0).1 aD;have:1*2^k<=m*2^k:=bL _ aD;omega
 obtain⟨j,hj⟩:∃ j,Nat.log2 (m*2^k)+1=j+k:=⟨Nat.log2 (m*2^k)+1-k,aD⟩
 rw[hj,bq,Nat.gcd_mul_right];have hg:Nat.gcd m (2^j)=1:=by
  have hc:Nat.Coprime m 2:=by
   unfold Nat.Coprime;rw[fA,Nat.gcd_rec,hm];rfl
  exact Nat.Coprime.pow_right j hc
 rw[hg,bX,Nat.log2_two_pow]
def I8{n:Nat}(h:n%2=1):jY n=0:=by have:=I7 h 0;simpa using this
def aiF{n:Nat}(h:n≠0):∃ m k,m%2=1/\n=m*2^k:=by
 induction n using Nat.strongRecOn with
 |_ n ih=>
  by_cases h2:n%2=1
  .exact ⟨n,0,h2,aJ⟩
  .obtain ⟨m,k,hm,he⟩:=ih (n/2) aD aD ;exact⟨m,k+1,hm,by rw[bE,<-bw,<-he];omega⟩
def Ob{n:Nat}(h:n≠0)(h2:n%2=0):jY n=jY (n/2)+1:=by
 obtain⟨m,k,hm,he⟩:=aiF (n:=n/2) aD;have e:n=m*2^(k+1):=by rw[bE,<-bw,<-he];omega
 rw[he,I7 hm]
 conv=>lhs;rw[e]
 exact I7 hm _
def zu{n:Nat}(h:n≠0):∃ m,m%2=1/\n=m*2^jY n:=by
 induction n using Nat.strongRecOn with
 |_ n ih=>
  by_cases h2:n%2=1
  .exact ⟨n,h2,by rw[I8 h2];omega⟩
  .obtain ⟨m,hm,he⟩:=ih (n/2) aD aD ;refine⟨m,hm,?_⟩;rw[Ob h aD,bE,<-bw,<-he];omega
def wT{m:Nat}(hm:m%2=1)(k:Nat):jY (m*2^k)=k:=by
 induction k with
 |zero=>rw[bV,bW,I8 hm]
 |succ k ih=>
  have hp:0<m*2^k:=eP aD (bu aF);have e:m*2^(k+1)=m*2^k*2:=by rw[bE,bw]
  rw[e,Ob aD aD,dD _ aF,ih]
def BQ{n:Nat}(h:n≠0):(n/2^jY n)%2=1:=by
 obtain⟨m,hm,he⟩:=zu h;have:n/2^jY n=m:=by conv=>lhs;rw[he,wT hm];rw[dD _ (bu aF)]
 rw[this];exact hm
def Fl{n:Nat}(h:n≠0):(n/2^jY n)*2^jY n=n:=by
 obtain⟨m,hm,he⟩:=zu h;have:n/2^jY n=m:=by conv=>lhs;rw[he,wT hm];rw[dD _ (bu aF)]
 rw[this];exact he.symm
def G1{n:Nat}(h:n≠0):2^jY n<=n:=by
 obtain⟨m,hm,he⟩:=zu h
 conv=>rhs;rw[he]
 exact Nat.le_mul_of_pos_left _ aD 
def Yv{x v:Nat}(hx:x≠0)(iE:x<4294967296):jY (x+4294967296*v)=jY x:=by
 obtain⟨m,hm,he⟩:=zu hx;have hk:jY x<32:=by
  have h1:=G1 hx;rcases dO (jY x) 32 with h|h
  .exact h
  .have:=bG (n:=2) aF h;have e:(2:Nat)^32=4294967296:= aF ;omega
 have e:x+4294967296*v=(m+2^(32-jY x)*v)*2^jY x:=by
  rw[bT,<-he,fB,<-bq,eQ aD]
 conv=>lhs;rw[e]
 apply wT;have:2^(32-jY x)=2*2^(31-jY x):=by rw[(aD:32-jY x=(31-jY x)+1),bE,bB]
 rw[this,bw,dY];exact hm
def Yw{v:Nat}(hv:v≠0)(k:Nat):jY (2^k*v)=k+jY v:=by
 obtain⟨m,hm,he⟩:=zu hv
 conv=>lhs;rw[he,<-bw,bB (2^k),bw,<-bq]
 exact wT hm _
def EB{L:List Nat}:val L=0↔∀ x,x ∈ L->x=0:=by
 induction L with
 |nil=>simp
 |cons x l ih=>
  simp only[pC,cM];constructor
  .intro h y hy;rcases hy with rfl|hy
   .omega
   .exact ih.1 aD y hy
  .intro h;have h1:=h x (.inl rfl);have h2:=ih.2 (λy hy=>h y (.inr hy));omega
def Yx{L:List Nat}(h:iw L)(i:Nat)(hi:i<L.length)(h0:∀ j,(hj:j<i)->L[j]=0)(hx:L[i]≠0):jY (val L)=32*i+jY L[i]:=by
 rw[Cx L i aD];have:val (L.take i)=0:=by
  rw[EB];intro y hy;obtain⟨j,hj,rfl⟩:=ajS hy;rw[cj]at hj;rw[List.getElem_take];exact h0 j aD 
 rw[this,bU,nB,eR hi,pC];rw[Yw aD,Yv hx (h.get hi)]
def ME{L:List Nat}{k x:Nat}(hk:k<L.length):val (L.set k x)+4294967296^k*L[k]=val L+4294967296^k*x:=by
 induction L generalizing k with
 |nil=>simp at hk
 |cons y l ih=>
  cases k with
  |zero=>simp;omega
  |succ k=>
   simp only[cN]at hk;have:=ih (k:=k) aD;simp only[List.set_cons_succ,pC,ee,bE];have e1:(4294967296^k*4294967296*l[k])=4294967296*(4294967296^k*l[k]):=by ac_rfl
   have e2:(4294967296^k*4294967296*x)=4294967296*(4294967296^k*x):=by ac_rfl
   rw[e1,e2];omega
def iw.set{L:List Nat}(h:iw L)(k:Nat){x:Nat}(hx:x<4294967296):iw (L.set k x):=by
 intro y hy;rcases List.mem_or_eq_of_mem_set hy with hy|rfl
 .exact h _ hy
 .exact hx
structure Dy where
 neg:Bool
 m:Nat
 e:Int
def Dy.lA(d:Dy):Prop:=(d.m=0/\d.neg=false/\d.e=0)\/d.m%2=1
def canon(neg:Bool)(m:Nat)(e:Int):Dy:=if m=0 then⟨false,0,0⟩else⟨neg,m/2^jY m,e+jY m⟩
def rj(neg:Bool)(m:Nat)(e:Int):(canon neg m e).lA:=by
 unfold canon;split
 .exact .inl ⟨rfl,rfl,rfl⟩
 .rename_i h;exact .inr (BQ h)
def Dy.lA.E7{d:Dy}(h:d.lA):canon d.neg d.m d.e=d:=by
 obtain⟨s,m,e⟩:=d;rcases h with⟨h1,h2,h3⟩|h
 .simp only at h1 h2 h3;subst h1 h2 h3;rfl
 .simp only at h ⊢;unfold canon;rw[bh aD,I8 h];simp
def pe(d:Dy):Prop:=d.m=0\/gU d.m<=4096 /\ -16384<=d.e/\d.e<=16384/\(gU d.m:Int)+d.e<=16384
instance (d:Dy):Decidable (pe d):=by unfold pe;infer_instance
structure Dy.gQ(d:Dy):Prop where
 canon:d.lA
 range:pe d
def ix:Dy:=⟨false,0,0⟩
def re:ix.gQ:=⟨.inl ⟨rfl,rfl,rfl⟩,.inl rfl⟩
def Dy.jc(d:Dy):Int:=if d.m=0 then 0 else if d.neg then -1 else 1
def Dy.jj(d:Dy):Int:=if d.m=0 then 0 else gU d.m+d.e
def Dy.jP(d:Dy)(e:Int):Nat:=d.m*2^(d.e-e).toNat
def Dy.num(d:Dy)(e:Int):Int:=if d.neg then -(d.jP e:Int)else d.jP e
def jh(a b:Dy):Int:=
 if a.num (min a.e b.e)<b.num (min a.e b.e)then -1 else if b.num (min a.e b.e)<a.num (min a.e b.e)then 1 else 0
def vr{d:Dy}(h:d.m≠0)(e:Int):0<d.jP e:=eP aD (bu aF)
def Sj{d:Dy}(h:d.m=0)(e:Int):d.jP e=0:=by unfold Dy.jP;rw[h,cB]
def NC{d:Dy}(h:d.m≠0){e:Int}(he:e<=d.e):(gU (d.jP e):Int)=gU d.m+d.e-e:=by
 unfold Dy.jP;rw[qw h];omega
def Si{a b:Dy}(ha:a.m≠0)(hb:b.m≠0){e:Int}(h1:e<=a.e)(h2:e<=b.e)(h:a.jj<b.jj):a.jP e<b.jP e:=by
 have k1:=NC ha h1;have k2:=NC hb h2;unfold Dy.jj at h;rw[bh ha,bh hb]at h;rcases dO (a.jP e) (b.jP e)with h'|h'
 .exact h'
 .have:=sg h';omega
def rO(a b:Dy):Int:=kv (a.jP (min a.e b.e)) (b.jP (min a.e b.e))
def N3{a b:Dy}(ha:a.m≠0)(hb:b.m≠0)(h:a.jj<b.jj):rO a b = -1:=by
 unfold rO kv;rw[bj (Si ha hb (Int.min_le_left _ _) (Int.min_le_right _ _) h)]
def N2{a b:Dy}(ha:a.m≠0)(hb:b.m≠0)(h:b.jj<a.jj):rO a b=1:=by
 have:=Si hb ha (Int.min_le_right a.e b.e) (Int.min_le_left _ _) h;unfold rO kv;rw[bh aD,bj this]
def AN(d:Dy):(d.m=0/\d.jc=0)\/(d.m≠0/\d.neg=true/\d.jc = -1)\/(d.m≠0/\d.neg=false/\d.jc=1):=by
 unfold Dy.jc;by_cases h:d.m=0
 .exact .inl ⟨h,bj h⟩
 .cases hn:d.neg
  .exact .inr (.inr ⟨h,rfl,by simp[h]⟩)
  .exact .inr (.inl ⟨h,rfl,by simp[h]⟩)
def Lu{d:Dy}(e:Int):(d.jc=0->d.num e=0)/\(d.jc = -1->d.num e<0/\d.num e = -(d.jP e))/\(d.jc=1->0<d.num e/\d.num e=d.jP e):=by
 unfold Dy.num;rcases AN d with⟨h1,h2⟩|⟨h1,h2,h3⟩|⟨h1,h2,h3⟩
 .rw [h2,Sj h1];simp
 .have:=vr h1 e;rw[h3,h2];simp;omega
 .have:=vr h1 e;rw[h3,h2];simp;omega
def A5(a b:Dy):jh a b=if a.jc<b.jc then -1 else if b.jc<a.jc then 1 else if a.jc=0 then 0 else a.jc*rO a b:=by
 unfold jh rO kv;generalize min a.e b.e=e;obtain⟨p1,p2,p3⟩:=Lu (d:=a) e;obtain⟨q1,q2,q3⟩:=Lu (d:=b) e;generalize a.num e=x at *
 generalize b.num e=y at *
 generalize a.jP e=x' at *
 generalize b.jP e=y' at *
 have ha:a.jc=0\/a.jc = -1\/a.jc=1:=by rcases AN a with⟨_,h⟩|⟨_,_,h⟩|⟨_,_,h⟩<;>simp[h]
 have hb:b.jc=0\/b.jc = -1\/b.jc=1:=by rcases AN b with⟨_,h⟩|⟨_,_,h⟩|⟨_,_,h⟩<;>simp[h]
 generalize a.jc=s at *
 generalize b.jc=t at *
 rcases ha with rfl|rfl|rfl<;>rcases hb with rfl|rfl|rfl<;>simp at p1 p2 p3 q1 q2 q3<;>(repeat' split)<;>omega
def lE(z:Int)(e:Int):Dy:=canon (decide (z<0)) z.natAbs e
def iM(a b:Dy):Dy:=
 if a.m=0 then b else if b.m=0 then a else lE (a.num (min a.e b.e)+b.num (min a.e b.e)) (min a.e b.e)
def iB(d:Dy):Dy:=⟨!d.neg&&decide (d.m≠0),d.m,d.e⟩
def Ah{d:Dy}(h:d.lA):(iB d).lA:=by
 rcases h with⟨h1,h2,h3⟩|h
 .exact .inl ⟨h1,by simp[iB,h1],h3⟩
 .exact .inr h
def pL{d:Dy}(h:d.gQ):(iB d).gQ:=⟨Ah h.canon,h.range⟩
def ahK(n:Bool)(m:Nat)(e:Int):(canon n m e).jc=if m=0 then 0 else if n then -1 else 1:=by
 unfold canon;by_cases h:m=0
 .simp [h,Dy.jc]
 .have:(canon n m e).m≠0:=by unfold canon;rw[bh h];have:=BQ h;simp only;omega
  unfold canon at this;rw[bh h]at this ⊢;unfold Dy.jc;rw[bh this,bh h]
def ahL(z e:Int):(lE z e).jc=if z<0 then -1 else if 0<z then 1 else 0:=by
 unfold lE;rw[ahK];by_cases h:z<0
 .rw [bh aD,bj h];simp[h]
 .rw [bh h];by_cases h0:0<z
  .rw [bh aD,bj h0];simp[h]
  .rw [bh h0,bj aD]
def Ls(d:Dy)(e:Int)(hd:d.m≠0):(iB d).num e = -(d.num e):=by
 unfold Dy.num iB Dy.jP;cases d.neg<;>simp[hd]
def NY{a b:Dy}(ha:a.m≠0)(hb:b.m≠0):(iM a (iB b)).jc=jh a b:=by
 unfold iM;rw[bh ha,bh (by simpa[iB]using hb),ahL];have e1:(iB b).e=b.e:=rfl;rw[e1,Ls _ _ hb];unfold jh;generalize a.num _=x;generalize b.num _=y
 repeat' split
 all_goals omega
def Ym{a b:Dy}(ha:a.m≠0)(hb:b.m≠0)(hs:a.jc=b.jc)(h:a.jj<b.jj):jh a b = -a.jc:=by
 rw[A5,bh aD,bh aD,N3 ha hb h];split<;>omega
def Yl{a b:Dy}(ha:a.m≠0)(hb:b.m≠0)(hs:a.jc=b.jc)(h:b.jj<a.jj):jh a b=a.jc:=by
 rw[A5,bh aD,bh aD,N2 ha hb h];split<;>omega
def A6(a b:Dy):jh a b=if a.jc≠b.jc then(if a.jc<b.jc then -1 else 1)else if a.jc=0 then 0 else
 if a.jj≠b.jj then(if(a.jj<b.jj)=(0<a.jc)then -1 else 1)else(iM a (iB b)).jc:=by
 by_cases hs:a.jc=b.jc
 .rw [bh (by simpa using hs)];by_cases h0:a.jc=0
  .rw [bj h0,A5,bh aD,bh aD,bj h0]
  .rw [bh h0];have ha:a.m≠0:=by intro h;exact h0 (by unfold Dy.jc;rw[bj h])
   have hb:b.m≠0:=by intro h;exact h0 (by rw[hs];unfold Dy.jc;rw[bj h])
   have hc:a.jc = -1\/a.jc=1:=by rcases AN a with⟨_,h⟩|⟨_,_,h⟩|⟨_,_,h⟩<;>simp_all
   by_cases ht:a.jj=b.jj
   .rw [bh (by simpa using ht),NY ha hb]
   .rw [bj (by simpa using ht)];rcases Int.lt_or_gt_of_ne ht with h|h
    .rw [Ym ha hb hs h];rcases hc with h'|h'<;>rw[h']<;>simp[h]
    .rw [Yl ha hb hs h];rcases hc with h'|h'<;>rw[h']<;>simp[(aD:¬a.jj<b.jj)]
 .rw [bj (by simpa using hs),A5];by_cases h:a.jc<b.jc
  .rw [bj h,bj h]
  .rw [bh h,bh h,bj aD]
def W0{out:List Nat}{k c x y P Q P' Q':Nat}(hlen:out.length=k)(h:val out+4294967296^k*c=P+Q)
 (hP:P'=P+4294967296^k*x) (hQ:Q'=Q+4294967296^k*y):
 val (out++[(c+x+y)%4294967296])+4294967296^(k+1)*((c+x+y)/4294967296)=P'+Q':=by
 rw[tH,hlen,hP,hQ];simp only[pC,xN,cH,bK];generalize hx:c+x+y=z;have e:=dC z 4294967296;rw[bE,cP,bw,<-bH,e,<-hx,bH,bH];omega
def ah2{out:List Nat}{k c x y d c' P Q P' Q':Nat}(hlen:out.length=k)(h:val out+Q=P+4294967296^k*c)
 (hP:P'=P+4294967296^k*x) (hQ:Q'=Q+4294967296^k*y) (hd:d+y+c=x+4294967296*c'):
 val (out++[d])+Q'=P'+4294967296^(k+1)*c':=by
 rw[tH,hlen,hP,hQ];simp only[pC,xN,cH,bK];have e:=congrArg (4294967296^k * ·) hd;simp only[bH,<-bw]at e;rw[bE];omega
def V1{out:List Nat}{n c P Q:Nat}(ho:iw out)(hlen:out.length=n)(h:val out+Q=P+4294967296^n*c)(hle:Q<=P):c=0/\val out=P-Q:=by
 have h1:=lW ho;rw[hlen]at h1;rcases c with _|c
 .exact ⟨rfl,aD⟩
 .exfalso;have:4294967296^n*1<=4294967296^n*(c+1):=cA _ aD;omega
def IT{L:List Nat}(h:iw L)(k:Nat)(hk:k/32<L.length):val L/2^k%2=L[k/32]/2^(k%32)%2:=by
 have e:k=32*(k/32)+k%32:= aD 
 conv=>lhs;rw[e,bq,<-cJ,<-nB,<-EA h,eR hk,pC]
 have hs:k%32<32:=bA _ aF;have e2:(4294967296:Nat)=2^(k%32)*(2*2^(31-k%32)):=by
  rw[<-Nat.pow_succ',<-bq,(aD:k%32+(31-k%32).succ=32)]
 conv=>lhs;rw[e2,bw,eO _ _ (bu aF),bw,dY]
def Nx{n k:Nat}(h:n≠0)(hk:k<jY n):n/2^k%2=0:=by
 obtain⟨m,hm,he⟩:=zu h;generalize jY n=c at *
 rw[he,(aD:c=k+(c-k)),bq,<-bw,fB,dD _ (bu aF),(aD:c-k=(c-k-1)+1),bE,<-bw,fC]
def Nw{n:Nat}(h:n≠0):n/2^jY n%2=1:=BQ h
def CK{L:List Nat}(h:iw L)(h0:val L≠0):jY (val L)/32<L.length:=by
 have h1:=G1 h0;have h2:=lW h;rw[nB]at h2;have h3:2^jY (val L)<2^(32*L.length):=cC h1 h2;have:=(akj (aF:1<2)).1 h3;omega
end Go.Proofs.YtkjkcjhacddojaaGreatDoor.Fp
namespace Go.Proofs.YtkjkcjhacddojaaGreatDoor
open Go.RowKit Fp
structure Sl(w:World)(A:Option Addr)(c:Nat)(L:List Nat):Prop where
 cap:L.length<=c
 pg:c<=9223372036854775807
 ok:iw L
 vw:A=none->c=0
 cell:∀ (i x:Nat),L[i]? = some x->∃ b o,A=some ⟨b,o,none⟩/\b<w.heap.size/\w.cell? ⟨b,o+i,none⟩=some (.int .u32 (x:Int))
def XS(a:Addr)(n:Nat):(a.add n).block=a.block:=by unfold Addr.add;split<;>rfl
section
variable {w w':World} {A:Option Addr} {c:Nat} {L:List Nat}
def Sl.k0(h:Sl w A c L){i:Nat}(hi:i<L.length):∃ b o,A=some ⟨b,o,none⟩/\b<w.heap.size/\w.cell? ⟨b,o+i,none⟩=some (.int .u32 (L[i]:Int)):=
 h.cell i _ (bt hi)
def Sl.nil(w:World):Sl w none 0 []:=⟨bp _,aF,iw.nil,λ_=>rfl,λi x h=>by simp at h⟩
def Sl.below(h:Sl w A c L)(hb:Below w.heap.size w w'):Sl w' A c L:=
 ⟨h.cap,h.pg,h.ok,h.vw,λi x hx=>by
  obtain⟨b,o,e,h1,h2⟩:=h.cell i x hx;exact⟨b,o,e,bN h1 hb.size,(hb.cell h1).trans h2⟩⟩
def Sl.alloc(h:Sl w A c L)(o:Obj):Sl (w.alloc o) A c L:=h.below ((Below.refl _ _).alloc (bp _) _)
def Sl.drew(h:Sl w A c L):Sl w.drew A c L:=h.below ((Below.refl _ _).drew)
def Sl.take(h:Sl w A c L)(n:Nat):Sl w A c (L.take n):=
 ⟨by have:=h.cap;rw[cj];omega,h.pg,h.ok.take n,h.vw,λi x hx=>h.cell i x (by
  rw[eg]at hx;split at hx
  .exact hx
  .cases hx)⟩
def Sl.len(h:Sl w A c L):L.length<=9223372036854775807:=bM h.cap h.pg
def Sl.ZM{L':List Nat}(h:Sl w A c L)(e:L=L'):Sl w A c L':=e▸h
end
def zh(b o i:Nat):(⟨b,o,none⟩:Addr).add i=⟨b,o+i,none⟩:=by
 unfold Addr.add;split
 .rename_i h0;rw[h0];rfl
 .simp
abbrev iu(w w':World):Prop:=Below w.heap.size w w'
def iu.trans{a b c:World}(h:iu a b)(k:iu b c):iu a c:=Below.trans h (k.mono h.size)
def iu.alloc(w:World)(o:Obj):iu w (w.alloc o):=(Below.refl _ _).alloc (bp _) _
def iu.drew(w:World):iu w w.drew:=(Below.refl _ _).drew
def iu.refl(w:World):iu w w:=Below.refl _ _
def Hn{A:Option Addr}{n m c:Nat}(h:n=m):Ending.returned (.slice A n c) = .returned (.slice A m c):=by rw[h]
def nS{k:IntKind}{a b:Int}(h:a=b):Ending.returned (.int k a) = .returned (.int k b):=by rw[h]
def Hm{a b:Bool}(h:a=b):Ending.returned (.bool a) = .returned (.bool b):=by rw[h]
def rN(w:World)(L:List Nat)(e:Ending)(w':World):Prop:=∃ A c,e = .returned (.slice A L.length c)/\Sl w' A c L/\iu w w'
def AV(w:World)(L:List Nat)(n:Int)(e:Ending)(w':World):Prop:=∃ A c,e = .returned (.tuple #[.slice A L.length c,.int .i64 n])/\Sl w' A c L/\iu w w'
def Tb(w:World):Prop:=TabAt 0 Lib.deBruijn32tab w
def Tb.below{w w':World}(h:Tb w)(hb:iu w w'):Tb w':=λj hj=>by
 have h1:=h j hj;rw[hb.cell (block_lt_of_cell h1)];exact h1
def Tb.alloc{w:World}(h:Tb w)(o:Obj):Tb (w.alloc o):=h.below (iu.alloc _ _)
def XG(x:Nat)(h:x<4294967296):Lib.bitLen x=gU x:=by
 induction x using Nat.strongRecOn with
 |_ x ih=>
  by_cases h0:x=0
  .subst h0;rfl
  .rw [Lib.bitLen_half x h0 aD,ih (x/2) aD aD];by_cases h1:x/2=0
   .have:x=1:= aD ;subst this;rfl
   .have e1:=qK h1;have e2:=px (x/2);have e3:=mZ h1;generalize gU (x/2)=k at *
    obtain⟨j,rfl⟩:∃ j,k=j+1:=⟨k-1,aD⟩
    rw[dB]at e1;rw[ej];refine(tR ?_ ?_).symm
    .rw [bE];omega
    .rw [bE];omega
def Yy(x:Nat)(h0:x≠0)(h:x<4294967296):Lib.ctz 32 x=jY x:=by
 unfold Lib.ctz;rw[bh h0];obtain⟨m,hm,_⟩:=Lib.ctzFrom_spec 32 x aD h
 conv=>rhs;rw[hm,bB]
 exact(wT aD _).symm
def nJ(L:List Nat):List Value:=L.map λ(n:Nat)=>Value.int .u32 (n:Int)
def aiL{L:List Nat}{j:Nat}{u:Value}(h:(nJ L)[j]? = some u):∃ n,L[j]? = some n/\u = .int .u32 (n:Int):=by
 unfold nJ at h;rw[cD]at h;obtain⟨n,hn,rfl⟩:=cQ.1 h;exact⟨n,hn,rfl⟩
def aiK(L M:List Nat):nJ (L++M)=nJ L++nJ M:=ajT
def aiM(L:List Nat):∀ u ∈ nJ L,u.oneCell'=true:=by
 intro u hu;obtain⟨n,_,rfl⟩:=cw.1 hu;rfl
structure Ow(w:World)(base:Nat)(v:Value)(L:List Nat):Prop where
 row:w.ownsRow base 150 1 v L.length (nJ L)
 ok:iw L
def Ow.sl{w:World}{base:Nat}{v:Value}{L:List Nat}(h:Ow w base v L):∃ A c,v = .slice A L.length c/\Sl w A c L:=by
 have hr:=h.row;rcases hr.2 with⟨rfl,h0⟩|⟨g,cap,cur,rfl,hb,hg,o0,nE,ny,Dl⟩
 .have:L=[]:=dq h0;subst this;exact⟨none,0,rfl,Sl.nil w⟩
 .refine ⟨_,_,rfl,o0,(by simpa[maxLen]using nE),h.ok,(λh=>by cases h),λi x hx=>⟨_,_,rfl,(cX.1 hg).1,?_⟩⟩;have h:=hr.cells (g:=g) rfl i (.int .u32 (x:Int)) (by unfold nJ;rw[cD,hx];rfl);rw[zh]at h;exact h
def Ow.nil(w:World)(base:Nat):Ow w base (.slice none 0 0) []:=⟨World.ownsRow_nil w base _ _,iw.nil⟩
def Ow.alloc{w:World}{base:Nat}{v:Value}{L:List Nat}(h:Ow w base v L)(o:Obj):Ow (w.alloc o) base v L:=⟨h.row.alloc o,h.ok⟩
def Ow.empty(w:World)(base:Nat)(hb:base<=w.heap.size):Ow (w.alloc (.cells #[] 150)) base (.slice (some ⟨w.heap.size,0,none⟩) 0 0) []:=
 ⟨World.ownsRow_made w #[] 0 hb aF rfl,iw.nil⟩
def pf{w:World}{n:Nat}(h:n<=w.heap.size)(o:Obj):n<=(w.alloc o).heap.size:= aR 
def Sl.one(w:World)(x:Nat)(hx:x<4294967296):Sl (w.alloc (.cells #[.int .u32 x] 150)) (some ⟨w.heap.size,0,none⟩) 1 [x]:=
 ⟨bp _,aF,iw.cons hx iw.nil,(λh=>by cases h),λi y hy=>by
  obtain⟨h1,h2⟩:=cg.1 hy;obtain rfl:i=0:=by simp at h1;omega
  simp at h2;subst h2;refine⟨_,_,rfl,aJ,?_⟩;exact World.cell?_alloc_at _ _ _ _ rfl⟩
def Sl.r6(w:World)(y:Int)(x:Nat)(e:y=(x:Int))(hx:x<4294967296):Sl (w.alloc (.cells #[.int .u32 y] 150)) (some ⟨w.heap.size,0,none⟩) 1 [x]:=by
 subst e;exact Sl.one w x hx
def KN:(prog.info? 150).map (λi=>(i.zero,i.size,i.bytes))=some (some (.int .u32 0),1,4):= aG 
def qb{gI:Array Oper}{rest:List Oper}{o:Oper}{a:Act}{Q:Exit->Act->World->Prop}{w:World}(zH:o.guard=none)(s x:Operand)
 (ho:o.op = .call { callee:=.builtin .append,args:=#[s,x],argTypes:=#[37,37] })
 (base:Nat) (v:Value) (L:List Nat) (hs:a.eval s=v) (nW:Ow w base v L)
 (A:Option Addr) (m c:Nat) (M:List Nat) (hx:a.eval x = .slice A m c) (hm:m=M.length) (hr:Sl w A c M)
 (lf:L.length+M.length<=10000000000) (FX:base<=w.heap.size)
 (h:∀ v' w',Ow w' base v' (L++M)->w.grownBy w' v.ownBlock->(v'.ownBlock=v.ownBlock\/v'.ownBlock=some w.heap.size)->wpList prog gI Q rest (a.put o.dst v') w'):
 wpList prog gI Q (o::rest) a w:=by
 obtain⟨i,hi,hz,h1,h2⟩:=info_parts KN;subst hm;rcases A with _|ad
 .have hc:=hr.vw rfl;subst hc;have hM:M=[]:=dq (by have:=hr.cap;omega);subst hM;refine wpList_append_own_none zH s x _ ho base _ i 1 underlying37 hi v _ _ hs nW.row hx ?_;have:=h v w (by rw[List.append_nil];exact nW) ⟨rfl,rfl,rfl,bp _,λ_ _ _=>rfl⟩ (.inl rfl);exact this
 .refine wpList_append_own_at w zH s x _ ho base _ i _ 1 4 underlying37 hi hz h1 h2 rfl aF v L.length (nJ L) hs nW.row ad M.length c (nJ M) hx (by simp[nJ]) ?_ (aiM M)
   (by simp only[maxLen];omega) aD FX ?_
  .intro j u hu;obtain⟨n,hn,rfl⟩:=aiL hu;obtain⟨b,o,e,_,hc⟩:=hr.cell j n hn;cases e;rw[zh];exact hc
  .intro v' w' abR hg _ oj;exact h v' w' ⟨by rw[cv,aiK];exact abR,nW.ok.append hr.ok⟩ hg oj
def Rw(w:World)(b:Nat)(L:List Nat):Prop:=w.heap[b]? = some (.cells (nJ L).toArray 150 (0,0))
section
variable {w w':World} {b:Nat} {L:List Nat}
def Rw.lt(h:Rw w b L):b<w.heap.size:=(cX.1 h).1
def Rw.cell(h:Rw w b L){i x:Nat}(hx:L[i]? = some x):w.cell? ⟨b,i,none⟩=some (.int .u32 (x:Int)):=by
 unfold Rw at h;simp only[World.cell?,h];simp[nJ,hx]
def Rw.frozen(h:Rw w b L)(i:Nat):w.frozen? ⟨b,i,none⟩=false:=by
 unfold Rw at h;simp[World.frozen?,h]
def Rw.set(h:Rw w b L)(i x:Nat):Rw (w.setCell ⟨b,i,none⟩ (.int .u32 (x:Int))) b (L.set i x):=by
 unfold Rw at h ⊢;simp only[World.setCell,cY,h];simp[nJ,List.map_set]
def Rw.sl(h:Rw w b L)(hk:iw L)(hl:L.length<=10000000000):Sl w (some ⟨b,0,none⟩) L.length L:=
 ⟨bp _,aD,hk,(λh=>by cases h),λi x hx=>⟨_,_,rfl,h.lt,by
  rw[bU];exact h.cell hx⟩⟩
def Rw.wi(w:World)(n:Nat):Rw (w.alloc (.cells (nJ (List.replicate n 0)).toArray 150)) w.heap.size (List.replicate n 0):=heap_alloc_new w _
end
def WY(b i:Nat):(⟨b,0,none⟩:Addr).add i=⟨b,i,none⟩:=by
 unfold Addr.add;split
 .rename_i h0;rw[h0]
 .simp
def BK(n:Nat)(hn:n<=10000000000)(w:World):
 (Instr.makeSlice 37 (.int .i64 (n:Int)) (.int .i64 (n:Int))).run prog w = .ok (.slice (some ⟨w.heap.size,0,none⟩) n n) (w.alloc (.cells (nJ (List.replicate n 0)).toArray 150)):=by
 obtain⟨i,hi,hz,h1,h2⟩:=info_parts KN;have hr:=run_make (P:=prog) w 37 150 i _ underlying37 hi hz .i64 .i64 n n aD aD (by rw[h2];omega) aD;rw[hr,fD,h1,bW];refine congrArg (λcs=>Result.ok (Value.slice (some ⟨w.heap.size,0,none⟩) n n) (w.alloc (.cells cs 150))) ?_;apply Array.ext
 .simp [madeCells,nJ]
 .intro i h1 h2;simp[madeCells,nJ,Value.cells,cT]
def sO(w:World)(d:Dy)(e:Ending)(w':World):Prop:=
 ∃ A c,e = .returned (.agg #[.bool d.neg,.slice A (gK d.m).length c,.int .i64 d.e])/\Sl w' A c (gK d.m)/\iu w w'
def zf(w:World)(d:Dy)(n:Int)(e:Ending)(w':World):Prop:=
 ∃ A c,e = .returned (.tuple #[.agg #[.bool d.neg,.slice A (gK d.m).length c,.int .i64 d.e],.int .i64 n])/\Sl w' A c (gK d.m)/\iu w w'
def wO(w:World)(g:Nat):Prop:=∀ o x,w.cell? ⟨g,o,none⟩≠some (.int .u32 x)
def Sl.wU{w:World}{A:Option Addr}{c:Nat}{L:List Nat}(h:Sl w A c L){g i:Nat}(hg:wO w g)(u:Value):Sl (w.setCell ⟨g,i,none⟩ u) A c L:=
 ⟨h.cap,h.pg,h.ok,h.vw,λj x hx=>by
  obtain⟨b,o,e,h1,h2⟩:=h.cell j x hx;refine⟨b,o,e,by simpa[World.setCell]using h1,?_⟩;rw[World.cell?_setCell_other w _ _ u]
  .exact h2
  .intro e';simp only[Addr.mk.injEq]at e';exact hg (o+j) x (by rw[e'.1];exact h2)⟩
def wO.BR{w:World}{g:Nat}{cs:Array Value}{t:TypeId}{fr:Nat×Nat}(h:w.heap[g]? = some (.cells cs t fr))(hc:∀ (i:Nat) (x:Int),cs[i]? ≠ some (.int .u32 x)):wO w g:=λo x e=>by
 simp only[World.cell?,h]at e;simp at e;exact hc o x (by simpa using e)
def ju(w:World)(g:Nat)(s:Bool)(A:Option Addr)(n c:Nat)(e:Int):Prop:=w.heap[g]? = some (.cells #[.bool s,.slice A n c,.int .i64 e] 39 (0,0))
section
variable {w w':World} {g n c:Nat} {s:Bool} {A:Option Addr} {e:Int}
def ju.new(W:World)(s:Bool)(A:Option Addr)(n c:Nat)(e:Int):ju (W.alloc (.cells #[.bool s,.slice A n c,.int .i64 e] 39)) W.heap.size s A n c e:=heap_alloc_new W _
def ju.rF{W:World}{g:Nat}(hg:W.heap.size=g)(s:Bool)(A:Option Addr)(n c:Nat)(e:Int):ju (W.alloc (.cells #[.bool s,.slice A n c,.int .i64 e] 39)) g s A n c e:=hg▸heap_alloc_new W _
def ju.lt(h:ju w g s A n c e):g<w.heap.size:=(cX.1 h).1
def ju.ext(h:ju w g s A n c e)(hb:iu w w'):ju w' g s A n c e:=(hb.block g h.lt).trans h
def ju.alloc(h:ju w g s A n c e)(o:Obj):ju (w.alloc o) g s A n c e:=h.ext (iu.alloc _ _)
def ju.drew(h:ju w g s A n c e):ju w.drew g s A n c e:=h
def ju.mX(h:ju w g s A n c e):wO w g:=wO.BR h (λi x=>by rcases i with _|_|_|i<;>simp)
def ju.c0(h:ju w g s A n c e):w.cell? ⟨g,0,none⟩=some (.bool s):=by unfold ju at h;simp[World.cell?,h]
def ju.c1(h:ju w g s A n c e):w.cell? ⟨g,1,none⟩=some (.slice A n c):=by unfold ju at h;simp[World.cell?,h]
def ju.c2(h:ju w g s A n c e):w.cell? ⟨g,2,none⟩=some (.int .i64 e):=by unfold ju at h;simp[World.cell?,h]
def ju.fr(h:ju w g s A n c e)(i:Nat):w.frozen? ⟨g,i,none⟩=false:=by unfold ju at h;simp[World.frozen?,h]
def ju.set(h:ju w g s A n c e)(s':Bool)(A':Option Addr)(n' c':Nat)(e':Int):
 ju (((w.setCell ⟨g,0,none⟩ (.bool s')).setCell ⟨g,1,none⟩ (.slice A' n' c')).setCell ⟨g,2,none⟩ (.int .i64 e')) g s' A' n' c' e':=by
 have h1:=heap_setCell_same w g 0 _ _ (.bool s') h;have h2:=heap_setCell_same _ g 1 _ _ (.slice A' n' c') h1;have h3:=heap_setCell_same _ g 2 _ _ (.int .i64 e') h2;exact h3
def ju.sM{L:List Nat}{A':Option Addr}{c':Nat}(h:ju w g s A n c e)(hs:Sl w A' c' L)(s':Bool)(e':Int)(n' c2:Nat)(A2:Option Addr):
 Sl (((w.setCell ⟨g,0,none⟩ (.bool s')).setCell ⟨g,1,none⟩ (.slice A2 n' c2)).setCell ⟨g,2,none⟩ (.int .i64 e')) A' c' L:=by
 have h1:=heap_setCell_same w g 0 _ _ (.bool s') h;have h2:=heap_setCell_same _ g 1 _ _ (.slice A2 n' c2) h1;have k1:wO (w.setCell ⟨g,0,none⟩ (.bool s')) g:=wO.BR h1 (λi x=>by rcases i with _|_|_|i<;>simp);have k2:wO ((w.setCell ⟨g,0,none⟩ (.bool s')).setCell ⟨g,1,none⟩ (.slice A2 n' c2)) g:=wO.BR h2 (λi x=>by rcases i with _|_|_|i<;>simp);exact((hs.wU h.mX _).wU k1 _).wU k2 _
def ju.sc{w0:World}(hb:iu w0 w)(hg:w0.heap.size<=g)(s':Bool)(A':Option Addr)(n' c':Nat)(e':Int):
 iu w0 (((w.setCell ⟨g,0,none⟩ (.bool s')).setCell ⟨g,1,none⟩ (.slice A' n' c')).setCell ⟨g,2,none⟩ (.int .i64 e')):=
 ((hb.setCell hg _).setCell hg _).setCell hg _
end
def OQ:(prog.info? 39).map (·.size)=some 3:= aG 
def agQ{fn:Func}{p:Tmp}(h:fn.results = #[.cell p 39])(tmps:Array Value){w:World}{g n c:Nat}{s:Bool}{A:Option Addr}{e:Int}
 (hp:tmps.getD p undef = .pointer (some ⟨g,0,none⟩)) (hb:ju w g s A n c e):
 (results fn tmps).run prog w = .ok (.agg #[.bool s,.slice A n c,.int .i64 e]) w:=
 results_cell_row h tmps w g _ _ _ _ hp hb underlying39 rfl OQ
def agR{fn:Func}{p t:Tmp}(h:fn.results = #[.cell p 39,.tmp t])(tmps:Array Value){w:World}{g n c:Nat}{s:Bool}{A:Option Addr}{e:Int}
 (hp:tmps.getD p undef = .pointer (some ⟨g,0,none⟩)) (hb:ju w g s A n c e):
 (results fn tmps).run prog w = .ok (.tuple #[.agg #[.bool s,.slice A n c,.int .i64 e],tmps.getD t undef]) w:=by
 have QS:tmps[p]?.getD undef = .pointer (some ⟨g,0,none⟩):=by simpa using hp
 simp[results,h,QS,asAddr,run_loadVar_row w g _ _ _ _ _ hb underlying39 rfl OQ]
def rT{fn:Func}{p:Tmp}(h:fn.results = #[.cell p 39]){a:Act}{w W:World}{d:Dy}{g:Nat}{A:Option Addr}{c n:Nat}
 (hp:a.tmps.getD p undef = .pointer (some ⟨g,0,none⟩)) (hd:a.defers=[]) (hb:ju W g d.neg A n c d.e) (hn:n=(gK d.m).length) (hs:Sl W A c (gK d.m)) (he:iu w W):
 bodyPost prog fn (sO w d) .ret a W:=by
 subst hn;exact bodyPost_ret (agQ h _ hp hb) hd ⟨A,c,rfl,hs,he⟩
def CP{fn:Func}{p t:Tmp}(h:fn.results = #[.cell p 39,.tmp t]){a:Act}{w W:World}{d:Dy}{k:Int}{g:Nat}{A:Option Addr}{c n:Nat}
 (hp:a.tmps.getD p undef = .pointer (some ⟨g,0,none⟩)) (ht:a.tmps.getD t undef = .int .i64 k) (hd:a.defers=[]) (hb:ju W g d.neg A n c d.e) (hn:n=(gK d.m).length) (hs:Sl W A c (gK d.m)) (he:iu w W):
 bodyPost prog fn (zf w d k) .ret a W:=by
 subst hn;exact bodyPost_ret ((agR h _ hp hb).trans (by rw[ht])) hd ⟨A,c,rfl,hs,he⟩
open Go.ChangeShapes Go.WideShapes Go.ChangeAt
def own:ownKnob prog.godebug=none:= aG 
def DE:laidOutB prog=true:= aG 
def PG:prog.globalNamed "math/bits.deBruijn32tab" = some 0:= aG 
def aaG:(prog.globals[0]?).map (·.type)=some 248:= aG 
def Ye:prog.cellsOf 248=32:= aG 
def Yd:prog.cellsOf 5=1:= aG 
def Yc:prog.cellsOf 150=1:= aG 
def aiz {l:List (String×DataW Unit)} (hl:l=[("math/bits.deBruijn32tab", Rows.laid_math_bits_deBruijn32tab)]) {W:World} (h:laidMet prog l W):Tb W:=by
 subst hl;have ht:Lib.TabIs prog W "math/bits.deBruijn32tab" .u8 (Lib.deBruijn32tab.map λ(n:Nat)=>(n:Int)):=
  Lib.tabIs_of_head (rest:=[]) PG aaG underlying248 underlying5 Yd Ye h
 intro j hj;have:=ht.cell PG j (by simpa using hj);rw[this];simp[bn];rw[bt hj];simp
def ab0{n:Int}(h:(Lit.int .i64 n).wf=true):-9223372036854775808<=n/\n<=9223372036854775807:=by
 have h1:IntKind.i64.min = -9223372036854775808:=rfl;have h2:IntKind.i64.max=9223372036854775807:=rfl;simp[Lit.wf,h1,h2]at h;omega
def aef{H:Type}{enc:TypeId×Value->H}{W:World}{fuel:Nat}{c:Value}{x:DataW H×List MemPlace}
 (h:DataW.trod enc prog W 0 (λ_=>true) true fuel 37 [c]=some x) (_hlt:∀ p ∈ x.2,p.block<W.heap.size):
 ∃ A L cap,c = .slice A L.length cap/\Sl W A cap L:=by
 rcases open_ints underlying37 underlying150 Yc h with⟨ny,hx⟩|⟨a,len,cap,zs,ny,_,hl,hm,hz,hx,lk,hwz⟩
 .simp at ny;exact⟨none,[],0,ny,Sl.nil W⟩
 .simp at ny;simp only[bI]at hz;refine⟨some a,(zs.take len).map Int.toNat,cap,?_,?_⟩
  .rw [ny,cr,cj,df aD]
  .have Ra:∀ n ∈ zs,0<=n/\n<4294967296:=λn hn=>by
    have:=hwz n hn;have h1:IntKind.u32.min=0:=rfl;have h2:IntKind.u32.max=4294967295:=rfl;simp[Lit.wf,h1,h2]at this;omega
   refine⟨by rw[cr,cj];omega,by simpa[maxLen]using hm,?_,(λh=>by cases h),?_⟩
   .intro y hy;obtain⟨z,vZ,rfl⟩:=cw.1 hy;have:=Ra z (ev vZ);omega
   .intro i y hy;rw[cD]at hy;obtain⟨z,vZ,rfl⟩:=cQ.1 hy;rw[eg]at vZ;split at vZ
    .rename_i hi;have hc:=lk i aD;rw[bn,vZ]at hc;obtain⟨b,off,spot⟩:=a;have KE:spot=none:=by
      rcases spot with _|q
      .rfl
      .exfalso;have n5:=lk 0 aD;rw[show(⟨b,off,some q⟩:Addr).add 0=⟨b,off,some q⟩from rfl]at n5;unfold World.cell? at n5;split at n5<;>simp at n5
     subst KE;refine⟨b,off,rfl,?_,?_⟩
     .have:=block_lt_of_cell hc;rwa[XS]at this
     .rw [zh]at hc;rw[hc];have:=Ra z (eA vZ);simp;omega
    .cases vZ
def R2{α:Type}{l:List α}(h:l.length=3):∃ a b c,l=[a,b,c]:=by
 match l,h with
 | [a,b,c],_=>exact⟨a,b,c,rfl⟩
def ac0{α:Type}{l:List α}(h:l.length=7):∃ a b c d e f g,l=[a,b,c,d,e,f,g]:=by
 match l,h with
 | [a,b,c,d,e,f,g],_=>exact⟨a,b,c,d,e,f,g,rfl⟩
def aed{H:Type}{enc:TypeId×Value->H}{W:World}{fuel:Nat}{cs:List Value}{x:DataW H×List MemPlace}
 (h:DataW.trod enc prog W 0 (λ_=>true) true fuel 39 cs=some x) (iE:∀ p ∈ x.2,p.block<W.heap.size):
 ∃ s A L cap e,cs=[.bool s,.slice A L.length cap,.int .i64 e]/\Sl W A cap L/\(-9223372036854775808<=e/\e<=9223372036854775807):=by
 obtain⟨xs,n,rfl,rfl,hl,lC,hf⟩:=DataW.trod_struct underlying39 h;have hC:prog.cellsOf 39=3:= aG ;have hB:prog.cellsOf 4=1:= aG ;have hS:prog.cellsOf 37=1:= aG ;have hI:prog.cellsOf 3=1:= aG ;rw[hC]at hl;obtain⟨a,b,c,rfl⟩:=R2 hl;have h0:=hf 0 _ rfl;have h1:=hf 1 _ rfl;have h2:=hf 2 _ rfl;simp only[eU,eV,ee]at h0 h1 h2;simp only[hB,hS,hI,eW,eX,ey,eZ]at h0 h1 h2;rw[bt (by rw[lC];decide)]at h0 h1 h2;obtain⟨s,hs,_⟩:=DataW.trod_bool underlying4 h0;obtain⟨A,L,cap,hc,sA⟩:=aef h1 (λp hp=>iE p (e7.2 ⟨_,ch _,hp⟩));obtain⟨e,he,_,hw⟩:=DataW.trod_int underlying3 h2;simp at hs he;subst hs he hc;exact⟨s,A,L,cap,e,rfl,sA,ab0 hw⟩
noncomputable def KZ(os:Os)(args:Array Value):World:=
 {World.holding prog os ⟨#[],args,[]⟩with heap:=(World.holding prog os ⟨#[],args,[]⟩).heap.modify 0 fun
   | .cells _ t frozen=>.cells (Lib.deBruijn32tab.map λ(n:Nat)=>Value.int .u8 (n:Int)).toArray t frozen
   |o=>o }
end Go.Proofs.YtkjkcjhacddojaaGreatDoor
namespace Go.Proofs.YtkjkcjhacddojaaGreatDoor.Pu
open Go.RowKit
inductive E where
 |any
 |v (x:Value)
 |agg (l:List E)
 |hH (l:List E)
 |sl (nl:Bool) (n sz:Nat) (el:Nat->Nat->E)
 |jN (m:Nat) (el:Nat->E)
 |fn (f:FuncId) (cap:List E)
 |mp (l:List (Int×FuncId×List FuncId))
def rA:Value->Bool
 | .int .u32 _=>true
 |_=>false
def E.nr:Nat->E->Bool
 |_,.any=>true
 |_,.v _=>true
 |_,.sl ..=>true
 |_,.mp _=>true
 |d+1,.agg l=>l.all (E.nr d)
 |d+1,.hH l=>l.all (E.nr d)
 |d+1,.fn _ l=>l.all (E.nr d)
 |_,_=>false
def y7(bs:Nat->Prop)(w:World):List (Int×FuncId×List FuncId)->List MapEntry->Prop
 | [],[]=>True
 |x::l,e::es=>(e.key = .int .i64 x.1/\∃ vs:List Value,e.val = .func (.func x.2.1) #[] vs.toArray/\vs.length=x.2.2.length /\
  ∀ (i:Nat) (g:FuncId) (v:Value),x.2.2[i]? = some g->vs[i]? = some v->∃ b,v = .pointer (some ⟨b,0,none⟩)/\¬bs b/\b<w.heap.size/\w.cell? ⟨b,0,none⟩=some (.func (.func g) #[] #[]))/\y7 bs w l es
 |_,_=>False
def y7.mono{bs bs':Nat->Prop}{w w':World}(lf:w.heap.size<=w'.heap.size)(h1:∀ b,b<w.heap.size->bs' b->bs b)(hc:∀ b,b<w.heap.size->¬bs b->w'.heap[b]? = w.heap[b]?):
 ∀ {l:List (Int×FuncId×List FuncId)} {es:List MapEntry},y7 bs w l es->y7 bs' w' l es
 | [],[],_=>trivial
 | [],_::_,h=>h
 |_::_,[],h=>h
 |_::_,_::_,⟨⟨k1,vs,k2,k3,k4⟩,h⟩=>⟨⟨k1,vs,k2,k3,λi g v hg hv=>by
  obtain⟨b,q1,q2,q3,q4⟩:=k4 i g v hg hv;exact⟨b,q1,λx=>q2 (h1 b q3 x),bN q3 lf,by rw[World.cell?_of_block (w:=w) (hc b q3 q2)];exact q4⟩⟩,y7.mono lf h1 hc h⟩
inductive iz(bs br:Nat->Prop)(w:World):E->Value->Prop
 |any (x:Value):iz bs br w .any x
 |v (x:Value):iz bs br w (.v x) x
 |agg (l:List E) (vs:List Value) (h:vs.length=l.length) (k:∀ (i:Nat) (p:E) (x:Value),l[i]? = some p->vs[i]? = some x->iz bs br w p x):iz bs br w (.agg l) (.agg vs.toArray)
 |hH (l:List E) (vs:List Value) (h:vs.length=l.length) (k:∀ (i:Nat) (p:E) (x:Value),l[i]? = some p->vs[i]? = some x->iz bs br w p x):iz bs br w (.hH l) (.tuple vs.toArray)
 |sl (nl:Bool) (n sz:Nat) (el:Nat->Nat->E) (A:Option Addr) (c:Nat) (f:Nat->Nat->Value) (hc:n<=c) (hm:c<=9223372036854775807) (h0:A=none->c=0)
  (hl:∀ i j,i<n->j<sz->(f i j).oneCell'=true/\(nl=true->rA (f i j)=false))
  (hr:∀ i j,i<n->j<sz->(el i j).nr 2=true)
  (cell:∀ i j,i<n->j<sz->∃ b o,A=some ⟨b,o,none⟩/\¬bs b/\b<w.heap.size/\w.cell? ⟨b,o+(i*sz+j),none⟩=some (f i j))
  (k:∀ i j,i<n->j<sz->iz bs br w (el i j) (f i j)):iz bs br w (.sl nl n sz el) (.slice A n c)
 |jN (m:Nat) (el:Nat->E) (b o:Nat) (f:Nat->Value) (hb:¬br b) (iE:b<w.heap.size) (hl:∀ j,j<m->(f j).oneCell'=true)
  (cell:∀ j,j<m->w.cell? ⟨b,o+j,none⟩=some (f j))
  (k:∀ j,j<m->iz bs br w (el j) (f j)):iz bs br w (.jN m el) (.pointer (some ⟨b,o,none⟩))
 |fn (f:FuncId) (l:List E) (vs:List Value) (h:vs.length=l.length) (k:∀ (i:Nat) (p:E) (x:Value),l[i]? = some p->vs[i]? = some x->iz bs br w p x):iz bs br w (.fn f l) (.func (.func f) #[] vs.toArray)
 |mp (l:List (Int×FuncId×List FuncId)) (b clk:Nat) (es:Array MapEntry) (hb:¬bs b) (iE:b<w.heap.size) (hh:w.heap[b]? = some (.map es clk)) (ho:y7 bs w l es.toList):iz bs br w (.mp l) (.map (some b))
def iz.mono{bs br bs' br':Nat->Prop}{w w':World}(lf:w.heap.size<=w'.heap.size)
 (h1:∀ b,b<w.heap.size->bs' b->bs b) (h2:∀ b,b<w.heap.size->br' b->br b)
 (hc:∀ b,b<w.heap.size->(¬bs b\/¬br b)->w'.heap[b]? = w.heap[b]?)
 {e:E} {v:Value} (h:iz bs br w e v):iz bs' br' w' e v:=by
 induction h with
 |any x=>exact .any x
 |v x=>exact .v x
 |agg l vs h k ih=>exact .agg l vs h ih
 |hH l vs h k ih=>exact .hH l vs h ih
 |sl nl n sz el A c f hn hm h0 hl hr cell k ih=>
  refine .sl nl n sz el A c f hn hm h0 hl hr (λi j hi hj=>?_) ih;obtain⟨b,o,e,hb,iE,lk⟩:=cell i j hi hj;exact⟨b,o,e,λhx=>hb (h1 b iE hx),bN iE lf,by rw[World.cell?_of_block (w:=w) (hc b iE (.inl hb))];exact lk⟩
 |jN m el b o f hb iE hl cell k ih=>
  exact .jN m el b o f (λhx=>hb (h2 b iE hx)) (bN iE lf) hl (λj hj=>by rw[World.cell?_of_block (w:=w) (hc b iE (.inr hb))];exact cell j hj) ih
 |fn f l vs h k ih=>exact .fn f l vs h ih
 |mp l b clk es hb iE hh ho=>exact .mp l b clk es (λx=>hb (h1 b iE x)) (bN iE lf) (by rw[hc b iE (.inl hb)];exact hh) (ho.mono lf h1 λb iE hb=>hc b iE (.inl hb))
def iz.nX{bs br bs' br':Nat->Prop}{w:World}(h1:∀ b,bs' b->bs b)(h2:∀ b,br' b->br b){e:E}{v:Value}(h:iz bs br w e v):iz bs' br' w e v:=
 h.mono (bp _) (λb _=>h1 b) (λb _=>h2 b) (λ_ _ _=>rfl)
def E.plain:Nat->E->Bool
 |_,.any=>true
 |_,.v _=>true
 |d+1,.agg l=>l.all (E.plain d)
 |d+1,.hH l=>l.all (E.plain d)
 |_,_=>false
def iz.plain{bs br bs' br':Nat->Prop}{w w':World}{e:E}{v:Value}(h:iz bs br w e v):∀ d,e.plain d=true->iz bs' br' w' e v:=by
 induction h with
 |any x=>exact λ_ _=>.any x
 |v x=>exact λ_ _=>.v x
 |agg l vs h k ih=>
  intro d hd;cases d with
  |zero=>simp[E.plain]at hd
  |succ d=>
   simp only[E.plain,bS]at hd;exact .agg l vs h λi p x hp hx=>ih i p x hp hx d (hd p (eA hp))
 |hH l vs h k ih=>
  intro d hd;cases d with
  |zero=>simp[E.plain]at hd
  |succ d=>
   simp only[E.plain,bS]at hd;exact .hH l vs h λi p x hp hx=>ih i p x hp hx d (hd p (eA hp))
 |sl=>intro d hd;cases d<;>simp[E.plain]at hd
 |jN=>intro d hd;cases d<;>simp[E.plain]at hd
 |fn=>intro d hd;cases d<;>simp[E.plain]at hd
 |mp=>intro d hd;cases d<;>simp[E.plain]at hd
def iz.nr{bs br br':Nat->Prop}{w:World}{e:E}{v:Value}(h:iz bs br w e v):∀ d,e.nr d=true->iz bs br' w e v:=by
 induction h with
 |any x=>exact λ_ _=>.any x
 |v x=>exact λ_ _=>.v x
 |agg l vs h k ih=>
  intro d hd;cases d with
  |zero=>simp[E.nr]at hd
  |succ d=>
   simp only[E.nr,bS]at hd;exact .agg l vs h λi p x hp hx=>ih i p x hp hx d (hd p (eA hp))
 |hH l vs h k ih=>
  intro d hd;cases d with
  |zero=>simp[E.nr]at hd
  |succ d=>
   simp only[E.nr,bS]at hd;exact .hH l vs h λi p x hp hx=>ih i p x hp hx d (hd p (eA hp))
 |fn f l vs h k ih=>
  intro d hd;cases d with
  |zero=>simp[E.nr]at hd
  |succ d=>
   simp only[E.nr,bS]at hd;exact .fn f l vs h λi p x hp hx=>ih i p x hp hx d (hd p (eA hp))
 |jN=>intro d hd;cases d<;>simp[E.nr]at hd
 |mp l b clk es hb iE hh ho=>exact λ_ _=>.mp l b clk es hb iE hh ho
 |sl nl n sz el A c f hn hm h0 hl hr cell k ih=>
  exact λ_ _=>.sl nl n sz el A c f hn hm h0 hl hr cell λi j hi hj=>ih i j hi hj 2 (hr i j hi hj)
def E.one:E->Bool
 | .v x=>x.oneCell'
 | .sl ..=>true
 | .jN ..=>true
 | .fn ..=>true
 |_=>false
def E.mX:E->Bool
 | .v x=>!rA x
 | .sl ..=>true
 | .jN ..=>true
 | .fn ..=>true
 |_=>false
def iz.one{bs br:Nat->Prop}{w:World}{e:E}{v:Value}(h:iz bs br w e v)(h1:e.one=true):v.oneCell'=true:=by
 cases h<;>first|exact h1|rfl|(simp[E.one]at h1)
def iz.mX{bs br:Nat->Prop}{w:World}{e:E}{v:Value}(h:iz bs br w e v)(h1:e.mX=true):rA v=false:=by
 cases h with
 |v=>unfold E.mX at h1;cases hb:rA v<;>simp_all
 |any=>cases h1
 |agg=>cases h1
 |hH=>cases h1
 |sl=>rfl
 |jN=>rfl
 |fn=>rfl
 |mp=>cases h1
structure kj(bs br:Nat->Prop)(w:World)(l:List E)(vs:List Value):Prop where
 len:vs.length=l.length
 kZ:∀ (i:Nat) (p:E) (x:Value),l[i]? = some p->vs[i]? = some x->iz bs br w p x
def kj.nil(bs br:Nat->Prop)(w:World):kj bs br w [] []:=⟨rfl,λi p x h=>by simp at h⟩
def kj.cons{bs br:Nat->Prop}{w:World}{p:E}{x:Value}{l:List E}{vs:List Value}(h:iz bs br w p x)(k:kj bs br w l vs):kj bs br w (p::l) (x::vs):=
 ⟨by simp[k.len],λi q y hq hy=>by
  cases i with
  |zero=>simp at hq hy;subst hq hy;exact h
  |succ i=>simp at hq hy;exact k.kZ i q y hq hy⟩
def kj.head{bs br:Nat->Prop}{w:World}{p:E}{x:Value}{l:List E}{vs:List Value}(h:kj bs br w (p::l) (x::vs)):iz bs br w p x:=h.kZ 0 p x rfl rfl
def kj.tail{bs br:Nat->Prop}{w:World}{p:E}{x:Value}{l:List E}{vs:List Value}(h:kj bs br w (p::l) (x::vs)):kj bs br w l vs:=
 ⟨by have:=h.len;simpa using this,λi q y hq hy=>h.kZ (i+1) q y (by simpa using hq) (by simpa using hy)⟩
def kj.lV{bs br:Nat->Prop}{w:World}{p:E}{l:List E}{vs:List Value}(h:kj bs br w (p::l) vs):∃ x ys,vs=x::ys/\iz bs br w p x/\kj bs br w l ys:=by
 cases vs with
 |nil=>have:=h.len;simp at this
 |cons x ys=>exact⟨x,ys,rfl,h.head,h.tail⟩
def kj.ph{bs br:Nat->Prop}{w:World}{vs:List Value}(h:kj bs br w [] vs):vs=[]:=dq h.len
def kj.mono{bs br bs' br':Nat->Prop}{w w':World}{l:List E}{vs:List Value}(h:kj bs br w l vs)(k:∀ e v,iz bs br w e v->iz bs' br' w' e v):kj bs' br' w' l vs:=
 ⟨h.len,λi p x hp hx=>k _ _ (h.kZ i p x hp hx)⟩
def kj.take{bs br:Nat->Prop}{w:World}{l:List E}{vs:List Value}(h:kj bs br w l vs)(n:Nat):kj bs br w (l.take n) (vs.take n):=
 ⟨by simp[h.len],λi p x hp hx=>by
  rw[eg]at hp hx;split at hp
  .rename_i hi;rw[bj hi]at hx;exact h.kZ i p x hp hx
  .cases hp⟩
def kj.drop{bs br:Nat->Prop}{w:World}{l:List E}{vs:List Value}(h:kj bs br w l vs)(n:Nat):kj bs br w (l.drop n) (vs.drop n):=
 ⟨by simp[h.len],λi p x hp hx=>by
  rw[eB]at hp hx;exact h.kZ _ p x hp hx⟩
def kj.app{bs br:Nat->Prop}{w:World}{l m:List E}{vs us:List Value}(h:kj bs br w l vs)(k:kj bs br w m us):kj bs br w (l++m) (vs++us):=
 ⟨by simp[h.len,k.len],λi p x hp hx=>by
  rw[fE]at hp hx;rw[h.len]at hx;split at hp
  .rename_i hi;rw[bj hi]at hx;exact h.kZ i p x hp hx
  .rename_i hi;rw[bh hi]at hx;exact k.kZ _ p x hp hx⟩
def kj.Yt(bs br:Nat->Prop)(w:World)(vs:List Value):kj bs br w (vs.map .v) vs:=
 ⟨aJ,λi p x hp hx=>by
  rw[cD,hx]at hp;simp at hp;subst hp;exact .v x⟩
def iz.AX{bs br:Nat->Prop}{w:World}{l:List E}{v:Value}(h:iz bs br w (.agg l) v):∃ vs:List Value,v = .agg vs.toArray/\kj bs br w l vs:=by
 cases h with
 |agg _ vs h k=>exact⟨vs,rfl,h,k⟩
def iz.Wn{bs br:Nat->Prop}{w:World}{l:List E}{v:Value}(h:iz bs br w (.hH l) v):∃ vs:List Value,v = .tuple vs.toArray/\kj bs br w l vs:=by
 cases h with
 |hH _ vs h k=>exact⟨vs,rfl,h,k⟩
def iz.kE{bs br:Nat->Prop}{w:World}{x v:Value}(h:iz bs br w (.v x) v):v=x:=by cases h;rfl
def iz.Px{bs br:Nat->Prop}{w:World}{f:FuncId}{l:List E}{v:Value}(h:iz bs br w (.fn f l) v):∃ vs:List Value,v = .func (.func f) #[] vs.toArray/\kj bs br w l vs:=by
 cases h with
 |fn _ _ vs h k=>exact⟨vs,rfl,h,k⟩
def kj.agg{bs br:Nat->Prop}{w:World}{l:List E}{vs:List Value}(h:kj bs br w l vs):iz bs br w (.agg l) (.agg vs.toArray):=.agg l vs h.len h.kZ
def kj.hH{bs br:Nat->Prop}{w:World}{l:List E}{vs:List Value}(h:kj bs br w l vs):iz bs br w (.hH l) (.tuple vs.toArray):=.hH l vs h.len h.kZ
def E.cells?:E->Option (List E)
 | .agg l=>if l.all E.one then some l else none
 | .v (.agg cs)=>if cs.toList.all Value.oneCell' then some (cs.toList.map .v)else none
 | .v x=>if x.oneCell' then some [.v x]else none
 | .sl nl n sz el=>some [.sl nl n sz el]
 | .jN m el=>some [.jN m el]
 | .fn f c=>some [.fn f c]
 |_=>none
def iz.cells{bs br:Nat->Prop}{w:World}{e:E}{v:Value}(h:iz bs br w e v){l:List E}(hl:e.cells? = some l):
 kj bs br w l v.cells.toList/\∀ u ∈ v.cells.toList,u.oneCell'=true:=by
 have single:∀ {e:E} {v:Value},iz bs br w e v->v.oneCell'=true->v.cells = #[v]->kj bs br w [e] v.cells.toList/\∀ u ∈ v.cells.toList,u.oneCell'=true:=by
  intro e v h h1 hc;rw[hc];exact⟨.cons h (.nil _ _ _),by simpa using h1⟩
 cases h with
 |any x=>simp[E.cells?]at hl
 |v=>
  by_cases ha:∃ cs,v = .agg cs
  .obtain ⟨cs,rfl⟩:=ha;simp only[E.cells?]at hl;split at hl
   .rename_i h1;cases hl;exact⟨kj.Yt _ _ _ _,λu hu=>bS.1 h1 u hu⟩
   .cases hl
  .have hx:(E.v v).cells? = if v.oneCell' then some [.v v]else none:=by
    cases v<;>first|rfl|exact absurd ⟨_,rfl⟩ ha
   rw[hx]at hl;split at hl
   .rename_i h1;cases hl;exact single (.v v) h1 (by cases v<;>first|rfl|exact absurd ⟨_,rfl⟩ ha)
   .cases hl
 |agg l vs h k=>
  simp only[E.cells?]at hl;split at hl
  .rename_i h1;cases hl;refine⟨⟨h,k⟩,?_⟩;intro u hu;obtain⟨i,hi⟩:=dr.1 hu;have Da:i<l.length:=by
    obtain⟨hi,_⟩:=cg.1 hi;simp[Value.cells]at hi;omega
   exact(k i _ u (bt Da) (by simpa[Value.cells]using hi)).one (bS.1 h1 _ (ch Da))
  .cases hl
 |hH=>simp[E.cells?]at hl
 |mp=>simp[E.cells?]at hl
 |sl nl n sz el A c f hc hm h0 oR hr cell k=>simp only[E.cells?]at hl;cases hl;exact single (.sl nl n sz el A c f hc hm h0 oR hr cell k) rfl rfl
 |jN m el b o f hb iE oR cell k=>simp only[E.cells?]at hl;cases hl;exact single (.jN m el b o f hb iE oR cell k) rfl rfl
 |fn f l' vs h k=>simp only[E.cells?]at hl;cases hl;exact single (.fn f l' vs h k) rfl rfl
structure TI where
 id:TypeId
 d:TypeDesc
 i:TypeInfo
def me(P:Program)(T:List TI):Prop:=∀ x,x ∈ T->P.underlying x.id=some x.d/\P.info? x.id=some x.i
def mc:List TI->TypeId->Option TI
 | [],_=>none
 |x::l,t=>if Nat.beq x.id t then some x else mc l t
def uS(T:List TI)(t:TypeId):Option TypeDesc:=match mc T t with
 |some x=>some x.d
 |none=>none
def TI.isAgg(x:TI):Bool:=match x.d with
 | .struct _ | .array _ _=>true
 |_=>false
inductive CV where
 |e (x:E)
 |box (id:Nat)
inductive PV where
 |e (x:E)
 |box (id off:Nat)
 |own (id:Nat)
 |pj (id sz i j:Nat)
 |jm (id k:Nat)
 |sR (f:FuncId) (cap:List CV)
def CV.pQ:CV->List Nat
 | .e _=>[]
 | .box id=>[id]
def PV.pQ:PV->List Nat
 | .e _=>[]
 | .box id _ | .own id | .pj id _ _ _ | .jm id _=>[id]
 | .sR _ cap=>cap.flatMap CV.pQ
inductive Bx where
 |cells (T:TypeId) (l:List E)
 |row (nl:Bool) (T:TypeId) (n sz:Nat) (el:Nat->Nat->E)
 |iH (nl:Bool) (T1 T0:TypeId) (n sz:Nat) (len:Nat->Nat) (el:Nat->Nat->Nat->E) (pend:Option Nat)
def Bx.nl:Bx->Bool
 | .cells _ l=>l.all E.mX
 | .row nl ..=>nl
 | .iH nl ..=>nl
structure PS where
 n:Nat
 nl:Bool
 t:List (Nat×PV)
 b:List (Nat×Bx)
def look{α:Type}:List (Nat×α)->Nat->Option α
 | [],_=>none
 | (k,x)::l,t=>if Nat.beq k t then some x else look l t
def PS.get(σ:PS)(t:Nat):PV:=(look σ.t t).getD (.e .any)
def PS.bo(σ:PS)(id:Nat):Option Bx:=look σ.b id
def PS.op(σ:PS):Operand->PV
 | .tmp t=>σ.get t
 | .const v=>.e (.v v)
 | .global g=>.e (.v (.pointer (some ⟨g,0,none⟩)))
 | .func f=>.e (.fn f [])
inductive qu where
 |none
 |new (id:Nat) (b:Bx)
 |tG (id:Nat) (b:Bx)
 |qx (id:Nat) (b:Bx)
 |uU (id:Nat) (b:Bx)
 |fin (id:Nat)
structure kA where
 r:PV
 f:qu:=.none
 rb:List Nat:=[]
 jM:List Prop:=[]
 rd:List PV:=[]
def PV.oL:qu->PV->PV
 | .qx id _,.own i=>if Nat.beq i id then .e .any else .own i
 | .qx id _,.pj i s x j=>if Nat.beq i id then .e .any else .pj i s x j
 | .uU id _,.jm i k=>if Nat.beq i id then .e .any else .jm i k
 | .fin id,p=>if p.pQ.any (Nat.beq id)then .e .any else p
 |_,p=>p
def Cp(l:List (Nat×Bx))(id:Nat)(b:Bx):List (Nat×Bx):=(id,b)::l.filter λx=>!Nat.beq x.1 id
def qu.IX:qu->List (Nat×Bx)->List (Nat×Bx)
 | .none,l=>l
 | .new id b,l | .tG id b,l | .qx id b,l | .uU id b,l=>Cp l id b
 | .fin id,l=>l.filter λx=>!Nat.beq x.1 id
def qu.Iw:qu->Bool
 | .qx .. | .uU .. | .fin ..=>true
 |_=>false
def PS.pW(σ:PS)(f:qu):PS:={ σ with t:=if f.Iw then σ.t.map λx=>(x.1,x.2.oL f)else σ.t,b:=f.IX σ.b }
def PS.put(σ:PS)(d:Option Tmp)(p:PV):PS:=match d with
 |some d=>{ σ with t:=(d,p)::σ.t.filter λx=>!Nat.beq x.1 d }
 |none=>σ
def ko:IntKind->Int->Prop
 | .i8,z=>-128<=z/\z<=127
 | .i16,z=>-32768<=z/\z<=32767
 | .i32,z=>-2147483648<=z/\z<=2147483647
 | .i64,z=>-9223372036854775808<=z/\z<=9223372036854775807
 | .u8,z=>0<=z/\z<=255
 | .u16,z=>0<=z/\z<=65535
 | .u32,z=>0<=z/\z<=4294967295
 | .u64,z=>0<=z/\z<=18446744073709551615
def Vz(op:BinOp)(k k':IntKind):Bool:=match op with
 | .shl=>true
 | .shr=>true
 |_=>decide (k=k')
def IN(k:IntKind)(x y:Int):Int:=match k with
 | .u32=>IntKind.u32.wrap (x+y)
 |_=>x+y
def IM(k:IntKind)(x y:Int):List Prop:=match k with
 | .u32=>[]
 |_=>[ko k (x+y)]
def Ju(op:BinOp)(k:IntKind)(x:Int)(y:Int):Option (Value×List Prop):=match op with
 | .add=>some (.int k (IN k x y),IM k x y)
 | .sub=>some (.int k (x-y),[ko k (x-y)])
 | .mul=>some (.int k (x*y),[ko k (x*y)])
 | .quo=>some (.int k (x.tdiv y),[0<y,ko k x])
 | .rem=>some (.int k (x.tmod y),[0<y])
 | .and=>some (.int k (bits .and k x y),[])
 | .or=>some (.int k (bits .or k x y),[])
 | .shl=>some (.int k (k.wrap (x*2^y.toNat)),[0<=y/\y<=k.bits])
 | .shr=>some (.int k (x/2^y.toNat),[0<=y/\y<=k.bits])
 | .eql=>some (.bool (x==y),[])
 | .neq=>some (.bool (x != y),[])
 | .lss=>some (.bool (decide (x<y)),[])
 | .leq=>some (.bool (decide (x<=y)),[])
 | .gtr=>some (.bool (decide (y<x)),[])
 | .geq=>some (.bool (decide (y<=x)),[])
 |_=>none
def PS.read(σ:PS)(p:PV)(m:Nat):Option (List E×List Nat×List Prop):=match p with
 | .box id off=>match σ.bo id with
  |some (.cells _ l)=>if Nat.ble (off+m) l.length then some ((l.drop off).take m,[id],[])else none
  |_=>none
 | .pj id sz i j=>match σ.bo id with
  |some (.row _ _ n s el)=>if Nat.beq s sz&&Nat.ble (j+m) sz then some ((List.range m).map λq=>el i (j+q),[id],[i<n])else none
  |_=>none
 | .e (.jN k el)=>if Nat.ble m k then some ((List.range m).map el,[],[])else none
 |_=>none
def CV.ext(σ:PS):CV->Option (E×List Nat)
 | .e x=>some (x,[])
 | .box id=>match σ.bo id with
  |some (.cells _ l)=>some (.jN l.length λj=>l.getD j .any,[id])
  |_=>none
def vS(σ:PS):List CV->Option (List E×List Nat)
 | []=>some ([],[])
 |c::l=>match c.ext σ,vS σ l with
  |some (x,i),some (xs,is)=>some (x::xs,i++is)
  |_,_=>none
def PV.zZ:PV->Bool
 | .own _=>true
 |_=>false
def PV.ext(σ:PS):PV->Option (E×List Nat)
 | .e x=>some (x,[])
 | .own id=>match σ.bo id with
  |some (.row nl _ n sz el)=>some (.sl nl n sz el,[id])
  |_=>none
 | .box id 0=>match σ.bo id with
  |some (.cells _ l)=>some (.jN l.length λj=>l.getD j .any,[id])
  |_=>none
 | .sR f cap=>match vS σ cap with
  |some (xs,is)=>some (.fn f xs,is)
  |none=>none
 |_=>none
def tO(σ:PS):List Operand->Option (List E×List Nat)
 | []=>some ([],[])
 |o::l=>match(σ.op o).ext σ,tO σ l with
  |some (x,i),some (xs,is)=>some (x::xs,i++is)
  |_,_=>none
def wR:List PV->Option (List CV)
 | []=>some []
 | .e x::l=>(wR l).map (.e x :: ·)
 | .box id 0::l=>(wR l).map (.box id :: ·)
 |_::_=>none
def oe(w:World)(b:Nat):Prop:=∀ o x,w.cell? ⟨b,o,none⟩≠some (.int .u32 x)
structure PC(P:Program)(K:World->Prop)(f:FuncId)(args:List E)(jQ:E):Prop where
 call:∀ (vs:Array Value) (w:World),(callFunc f vs).run P w = .ok (.enter f vs) w
 run:∀ (w:World) (B:Nat->Prop) (vs:List Value),K w->(∀ b,B b->b<w.heap.size/\oe w b)->kj B (λ_=>False) w args vs ->
  Calls P f vs.toArray w (λe w'=>∃ v,e = .returned v/\Below w.heap.size w w'/\iz B (λ_=>True) w' jQ v)
structure ze(P:Program)(K:World->Prop)(f:FuncId)(args:List E)(jQ:E):Prop where
 call:∀ (vs:Array Value) (w:World),(callFunc f vs).run P w = .ok (.enter f vs) w
 run:∀ (w:World) (B:Nat->Prop) (vs:List Value),K w->(∀ b,B b->b<w.heap.size)->kj B (λ_=>False) w args vs ->
  Calls P f vs.toArray w (λe w'=>∃ v,e = .returned v/\Below w.heap.size w w'/\iz B (λ_=>True) w' jQ v)
def ze.pc{P:Program}{K:World->Prop}{f:FuncId}{args:List E}{jQ:E}(h:ze P K f args jQ):PC P K f args jQ:=
 ⟨h.call,λw B vs hK hB hr=>h.run w B vs hK (λb hb=>(hB b hb).1) hr⟩
def pF(w:World)(v:Value)(T:TypeId)(n sz:Nat)(f:Nat->Nat->Value)(nl:Bool):Prop:=
 (v = .slice none 0 0/\n=0) \/
 ∃ (b c:Nat) (cur:Array Value),v = .slice (some ⟨b,0,none⟩) n c/\w.heap[b]? = some (.cells cur T (0,0))/\n<=c/\c<=maxLen/\cur.size=c*sz /\
  (∀ i j,i<n->j<sz->cur[i*sz+j]? = some (f i j)/\(f i j).oneCell'=true)/\(nl=true->∀ u,u ∈ cur->rA u=false)
structure tK(P:Program)(K:World->Prop)(f:FuncId)(args:List E)(nl:Bool)(T:TypeId)(n sz:Nat)(el:Nat->Nat->E):Prop where
 call:∀ (vs:Array Value) (w:World),(callFunc f vs).run P w = .ok (.enter f vs) w
 run:∀ (w:World) (B:Nat->Prop) (vs:List Value),K w->(∀ b,B b->b<w.heap.size/\oe w b)->kj B (λ_=>False) w args vs ->
  Calls P f vs.toArray w (λe w'=>∃ v,e = .returned v/\Below w.heap.size w w'/\∃ g,pF w' v T n sz g nl/\(∀ x,v.ownBlock=some x->w.heap.size<=x/\x<w'.heap.size) /\
   ∀ i j,i<n->j<sz->iz (λb=>B b\/v.ownBlock=some b) (λ_=>True) w' (el i j) (g i j)/\(el i j).nr 2=true)
structure pn where
 cl:List (Nat×E):=[]
 ov:List (Nat×PV):=[]
 nw:List (Nat×Bx):=[]
def Eb(T:List TI):List Field->Option (List (Nat×Nat))
 | []=>some []
 |f::fs=>match mc T f.type,Eb T fs with
  |some ti,some l=>some ((f.offset,ti.i.size)::l)
  |_,_=>none
def yM(l:List E)(off:Nat)(m:List E):List E:=l.take off++m++l.drop (off+m.length)
def qV(σ:PS)(place:Nat->Option (Nat×Nat)):List E->List (Nat×Operand)->Option (List E)
 |l,[]=>some l
 |l,(i,x)::ps=>match place i,σ.op x with
  |some (off,size),.e e=>match e.cells? with
   |some m=>if Nat.beq m.length size&&Nat.ble (off+m.length) l.length then qV σ place (yM l off m) ps else none
   |none=>none
  |_,_=>none
def xS(ti:TI):Option (List E):=match ti.i.zero with
 |some z=>(E.v z).cells?
 |none=>none
def kZ{α:Type}:Nat->List α->List α
 | 0,_=>[]
 |n+1,l=>l++kZ n l
def oN(P:Program)(op:BinOp)(t:TypeId)(x y:E)(v:Value):Prop:=∀ (bs br:Nat->Prop) (w:World) (a b:Value) (ox oy:Operand),iz bs br w x a->iz bs br w y b->(eqGuard op t ox oy a b).run P w = .ok () w/\(binOp op t a b).run P w = .ok v w
def aaM(O:pn)(d:Option Tmp):Option Value:=match d with
 |some d=>match look O.cl d with
  |some (.v v)=>some v
  |_=>none
 |none=>none
def yd(P:Program)(K:World->Prop)(O:pn)(σ:PS)(d:Option Tmp)(f:FuncId)(xs:List E)(is:List Nat)(ow:Bool):Option kA:=
 match(match d with
  |some d=>look O.cl d
  |none=>some .any)with
 |some jQ=>if jQ.plain 3||(σ.nl && !ow)then some { r:=.e jQ,rb:=is,jM:=[PC P K f xs jQ] }else if !ow then some { r:=.e jQ,rb:=is,jM:=[ze P K f xs jQ] }else none
 |none=>match d with
  |some d=>match look O.nw d,σ.bo d with
   |some (.row nl T n sz el),none=>if(σ.nl&&nl) && !ow then some { r:=.own d,f:=.new d (.row nl T n sz el),rb:=is,jM:=[tK P K f xs nl T n sz el] }else none
   |_,_=>none
  |none=>none
def vt(σ:PS)(d:Option Tmp)(b:Bx)(r:Nat->PV)(jM:List Prop):Option kA:=match d with
 |some d=>match σ.bo d with
  |none=>if !σ.nl||b.nl then some { r:=r d,f:=.new d b,jM:=jM }else none
  |some _=>none
 |none=>none
def yc(T:List TI)(σ:PS)(d:Option Tmp)(t:TypeId)(s x:PV):Option kA:=match x with
 | .e (.sl nl2 m sz2 el2)=>match mc T t with
  |some tt=>match tt.d with
   | .slice e=>match mc T e with
    |some te=>match xS te with
     |some z=>if Nat.beq te.i.size sz2&&Nat.ble 1 sz2&&Nat.ble 1 te.i.bytes&&Nat.beq z.length sz2 then match s with
      | .own id=>match σ.bo id with
       |some (.row nl T1 n sz el)=>if Nat.beq T1 e&&Nat.beq sz sz2&&(!σ.nl||(nl&&(nl2&&z.all E.mX)))then
        some { r:=.own id,f:=.qx id (.row (nl&&(nl2&&z.all E.mX)) T1 (n+m) sz λi j=>if i<n then el i j else el2 (i-n) j),rb:=[id],jM:=[(n+m)*te.i.bytes<=140737488355328] }
        else none
       |_=>none
      | .jm id k=>match σ.bo id with
       |some (.iH nl T1 T0 n sz len el none)=>if Nat.beq T0 e&&Nat.beq sz sz2&&(!nl||(nl2&&z.all E.mX))then
        some { r:=.jm id k,f:=.uU id (.iH nl T1 T0 n sz (λq=>if q=k then len q+m else len q) (λq i j=>if q=k then(if i<len q then el q i j else el2 (i-len q) j)else el q i j) (some k)),rb:=[id],jM:=[k<n,(len k+m)*te.i.bytes<=140737488355328] }
        else none
       |_=>none
      | .e (.v (.slice none 0 0))=>vt σ d (.row (nl2&&z.all E.mX) e m sz2 el2) .own [m*te.i.bytes<=140737488355328]
      |_=>none
     else none
     |none=>none
    |none=>none
   |_=>none
  |none=>none
 |_=>none
def zz(T:List TI)(σ:PS)(d:Option Tmp)(t:TypeId)(s x:PV):Option kA:=match yc T { σ with nl:=false } d t s x with
 |some u=>match u.f,u.r with
  | .qx id (.row nl _ n sz el),.own id'=>if Nat.beq id' id then some { r:=.e (.sl nl n sz el),f:=.fin id,rb:=u.rb,jM:=True::u.jM }else none
  |_,_=>none
 |none=>none
def Pj(T:List TI)(t:TypeId)(l c:PV):Option (Bx×List Prop):=match l,c with
 | .e (.v (.int _ l)),.e (.v (.int _ c))=>match mc T t with
  |some tt=>match tt.d with
   | .slice e=>match mc T e with
    |some te=>match xS te with
     |some z=>if Nat.beq te.i.size z.length&&Nat.ble 1 te.i.size then
      let jM:=[0<=l/\l<=c,(te.i.bytes:Int)*c<=281474976710656/\c<=9223372036854775807]
      match te.d with
      | .slice e0=>match mc T e0,z with
       |some t0,[.v (.slice none 0 0)]=>some (.iH true e e0 l.toNat t0.i.size (λ_=>0) (λ_ _ _=>.any) none,jM)
       |_,_=>none
      |_=>some (.row (z.all E.mX) e l.toNat te.i.size (λ_ j=>z.getD j .any),jM)
      else none
     |none=>none
    |none=>none
   |_=>none
  |none=>none
 |_,_=>none
def Fz(T:List TI)(σ:PS)(d:Option Tmp)(t:TypeId)(l c:PV):Option kA:=match Pj T t l c with
 |some (b,jM)=>vt σ d b .own jM
 |none=>none
def FA(T:List TI)(t:TypeId)(x:PV)(lo hi:Option PV):Option kA:=match x with
 | .e (.sl nl n sz el)=>match mc T t with
  |some tt=>match tt.d with
   | .slice e=>match mc T e with
    |some te=>if Nat.beq te.i.size sz then match lo,hi with
     |none,some (.e (.v (.int _ h)))=>some { r:=.e (.sl nl h.toNat sz el),jM:=[0<=h/\h<=n] }
     |some (.e (.v (.int _ l))),none=>some { r:=.e (.sl nl (n-l.toNat) sz λi j=>el (l.toNat+i) j),jM:=[0<=l/\l<=n] }
     |some (.e (.v (.int _ l))),some (.e (.v (.int _ h)))=>some { r:=.e (.sl nl (h.toNat-l.toNat) sz λi j=>el (l.toNat+i) j),jM:=[0<=l/\l<=h/\h<=n] }
     |_,_=>none
     else none
    |none=>none
   |_=>none
  |none=>none
 |_=>none
def Fx(T:List TI)(σ:PS)(t:TypeId)(x i:PV):Option kA:=match i with
 | .e (.v (.int _ z))=>match mc T t with
  |some tt=>match tt.d with
   | .slice e=>match mc T e with
    |some te=>match x with
     | .e (.sl _ n sz el)=>if Nat.beq te.i.size sz&&Nat.ble 1 sz then some { r:=.e (.jN sz (el z.toNat)),jM:=[0<=z/\z<n] }else none
     | .own id=>match σ.bo id with
      |some (.row _ _ n sz _)=>if Nat.beq te.i.size sz then some { r:=.pj id sz z.toNat 0,rb:=[id],jM:=[0<=z/\z<n] }else none
      |some (.iH _ _ _ n _ _ _ _)=>if Nat.beq te.i.size 1 then some { r:=.pj id 1 z.toNat 0,rb:=[id],jM:=[0<=z/\z<n] }else none
      |_=>none
     |_=>none
    |none=>none
   | .array n e=>match mc T e with
    |some te=>match x with
     | .box id off=>some { r:=.box id (off+z.toNat*te.i.size),jM:=[0<=z/\z<n] }
     | .e (.jN m el)=>if Nat.beq (n*te.i.size) m then some { r:=.e (.jN te.i.size λj=>el (z.toNat*te.i.size+j)),jM:=[0<=z/\z<n] }else none
     |_=>none
    |none=>none
   |_=>none
  |none=>none
 |_=>none
def FB(T:List TI)(σ:PS)(t:TypeId)(a x:PV):Option kA:=match mc T t with
 |some ti=>match a,x with
  | .box id off,.e e=>match σ.bo id,e.cells? with
   |some (.cells T1 l),some m=>if Nat.beq m.length ti.i.size&&Nat.ble (off+m.length) l.length&&(!σ.nl||m.all E.mX)then
    some { r:=.e .any,f:=.tG id (.cells T1 (yM l off m)),rb:=[id] }else none
   |_,_=>none
  | .pj id sz i j,.e e=>match σ.bo id,e.cells? with
   |some (.row nl T1 n s el),some m=>if Nat.beq m.length ti.i.size&&Nat.beq s sz&&Nat.ble (j+m.length) sz&&(!nl||m.all E.mX)&&m.all (E.nr 2)then
    some { r:=.e .any,f:=.tG id (.row nl T1 n s λi' j'=>if i'=i/\j<=j'/\j'<j+m.length then m.getD (j'-j) .any else el i' j'),rb:=[id],jM:=[i<n] }else none
   |_,_=>none
  | .pj id 1 i 0,.jm id' k=>match σ.bo id with
   |some (.iH nl T1 T0 n sz len el (some k'))=>if Nat.beq id id'&&Nat.beq ti.i.size 1 then
    some { r:=.e .any,f:=.tG id (.iH nl T1 T0 n sz len el none),rb:=[id],jM:=[i=k',k=k',k'<n] }else none
   |_=>none
  |_,_=>none
 |none=>none
def ub:PV->PS->Option (Value×List Nat)
 | .e (.sl _ n _ _),_=>some (.int .i64 (n:Int),[])
 | .e (.v (.slice _ n _)),_=>some (.int .i64 (n:Int),[])
 | .own id,σ=>match σ.bo id with
  |some (.row _ _ n _ _)=>some (.int .i64 (n:Int),[id])
  |some (.iH _ _ _ n _ _ _ _)=>some (.int .i64 (n:Int),[id])
  |_=>none
 |_,_=>none
def DK(ti:TI):Option (List E×List Nat×List Prop)->Option kA
 |some (l,is,jM)=>if ti.isAgg then some { r:=.e (.agg l),rb:=is,jM:=jM }else match l with
  | [e]=>some { r:=.e e,rb:=is,jM:=jM }
  |_=>none
 |none=>none
def AJ(σ:PS):PV->Option (Nat×Nat×Nat)
 | .pj id sz i j=>match σ.bo id with
  |some (.iH _ _ _ n _ _ _ none)=>if Nat.beq sz 1&&Nat.beq j 0 then some (id,i,n)else none
  |_=>none
 |_=>none
def Fy(T:List TI)(σ:PS)(t:TypeId)(p:PV):Option kA:=match mc T t with
 |some ti=>match AJ σ p with
  |some (id,i,n)=>if ti.isAgg then none else some { r:=.jm id i,rb:=[id],jM:=[i<n] }
  |none=>DK ti (σ.read p ti.i.size)
 |none=>none
def ES(O:pn):Option Tmp->Bool
 |some d=>(look O.nw d).isSome
 |none=>false
def wq:List (Int×FuncId×List FuncId)->Int->Option E
 | [],_=>none
 |x::l,z=>if x.1=z then some (.fn x.2.1 (x.2.2.map λg=>.jN 1 λ_=>.fn g []))else wq l z
def aaL(O:pn):Option Tmp->Option E
 |some d=>look O.cl d
 |none=>none
def jy(P:Program)(K:World->Prop)(T:List TI)(O:pn)(σ:PS)(o:Oper):Option kA:=match o.op with
 | .move x=>some { r:=σ.op x }
 | .assign x=>some { r:=σ.op x }
 | .pick c a b=>match σ.op c with
  | .e (.v (.bool true))=>some { r:=σ.op a }
  | .e (.v (.bool false))=>some { r:=σ.op b }
  |_=>none
 | .alloc t=>match mc T t with
  |some ti=>match xS ti with
   |some z=>vt σ o.dst (.cells t z) (.box · 0) []
   |none=>none
  |none=>none
 | .box t x=>match σ.op x with
  | .e e=>match e.cells? with
   |some l=>vt σ o.dst (.cells t l) (.box · 0) []
   |none=>none
  |_=>none
 | .build t ps=>match mc T t with
  |some ti=>match xS ti with
   |some z=>match ti.d with
    | .struct fs=>match Eb T fs.toList with
     |some pl=>(qV σ (λi=>pl[i]?) z ps.toList).map λl=>{ r:=.e (.agg l) }
     |none=>none
    | .array _ e=>match mc T e with
     |some te=>(qV σ (λi=>some (i*te.i.size,te.i.size)) z ps.toList).map λl=>{ r:=.e (.agg l) }
     |none=>none
    |_=>none
   |none=>none
  |none=>none
 | .buildSlice t n ps=>match mc T t with
  |some tt=>match tt.d with
   | .slice e=>match mc T e with
    |some te=>match xS te with
     |some z=>if Nat.beq z.length te.i.size&&Nat.ble 1 te.i.size&&Nat.ble (n*te.i.size) 16777216 then
      (qV σ (λi=>some (i*te.i.size,te.i.size)) (kZ n z) ps.toList).bind λl=>
       if !(l.all (E.nr 2))then none else if ES O o.dst then vt σ o.dst (.row (l.all E.mX) e n te.i.size λi j=>l.getD (i*te.i.size+j) (.v (.bool false))) .own [True]
       else if l.all E.mX then some { r:=.e (.sl true n te.i.size λi j=>l.getD (i*te.i.size+j) (.v (.bool false))) }
       else some { r:=.e (.sl false n te.i.size λi j=>l.getD (i*te.i.size+j) (.v (.bool false))) }
      else none
     |none=>none
    |none=>none
   |_=>none
  |none=>none
 | .load t a=>Fy T σ t (σ.op a)
 | .store t a x=>FB T σ t (σ.op a) (σ.op x)
 | .nilCheck x=>match σ.op x with
  | .box id off=>some { r:=.box id off }
  | .e (.jN m el)=>some { r:=.e (.jN m el) }
  | .e (.fn f c)=>some { r:=.e (.fn f c) }
  | .sR f c=>some { r:=.sR f c }
  |_=>none
 | .binOp op t x y _=>match σ.op x,σ.op y with
  | .e (.v (.int k a)),.e (.v (.int k' b))=>
   if Vz op k k' then(Ju op k a b).map λr=>{ r:=.e (.v r.1),jM:=r.2 }else none
  | .e (.v (.bool a)),.e (.v (.bool b))=>match uS T t with
   |some .bool=>match op with
    | .eql=>some { r:=.e (.v (.bool (a==b))) }
    | .neq=>some { r:=.e (.v (.bool (!(a==b)))) }
    |_=>none
   |_=>none
  | .e (.sl _ n _ _),.e (.v (.slice none 0 0))=>match uS T t with
   |some (.slice _)=>match op with
    | .eql=>some { r:=.e (.v (.bool false)),jM:=[0<n] }
    | .neq=>some { r:=.e (.v (.bool true)),jM:=[0<n] }
    |_=>none
   |_=>none
  | .e a,.e b=>match aaM O o.dst with
   |some v=>some { r:=.e (.v v),jM:=[oN P op t a b v] }
   |none=>none
  |_,_=>none
 | .unOp op _ x=>match op,σ.op x with
  | .not,.e (.v (.bool b))=>some { r:=.e (.v (.bool (!b))) }
  | .neg,.e (.v (.int k z))=>some { r:=.e (.v (.int k (0-z))),jM:=[ko k (0-z)] }
  |_,_=>none
 | .convert src dst x=>match uS T dst,mc T src,σ.op x with
  |some (.int k),some _,.e (.v (.int _ z))=>some { r:=.e (.v (.int k (k.wrap z))) }
  |_,_,_=>none
 | .makeFunc (.func f) first cap=>if first.isEmpty then match wR (cap.toList.map σ.op)with
  |some l=>some { r:=.sR f l }
  |none=>none
  else none
 | .makeSlice t l c=>Fz T σ o.dst t (σ.op l) (σ.op c)
 | .slice t x lo hi none=>FA T t (σ.op x) (lo.map σ.op) (hi.map σ.op)
 | .fieldAddr t x f=>match uS T t with
  |some (.struct fs)=>match fs[f]? with
   |some fd=>match mc T fd.type with
    |some ft=>if Nat.beq ft.i.size 0 then none else match σ.op x with
     | .box id off=>some { r:=.box id (off+fd.offset) }
     | .pj id sz i j=>some { r:=.pj id sz i (j+fd.offset) }
     | .e (.jN m el)=>if Nat.ble fd.offset m then some { r:=.e (.jN (m-fd.offset) λj=>el (fd.offset+j)) }else none
     |_=>none
    |none=>none
   |none=>none
  |_=>none
 | .indexAddr t x i=>Fx T σ t (σ.op x) (σ.op i)
 | .index t x i=>match σ.op x,σ.op i with
  | .e (.agg l),.e (.v (.int _ z))=>match mc T t with
   |some tt=>match tt.d with
    | .array n e=>match mc T e with
     |some te=>if te.isAgg&&Nat.beq (n*te.i.size) l.length then some { r:=.e (.agg ((l.drop (z.toNat*te.i.size)).take te.i.size)),jM:=[0<=z/\z<n] }else none
     |none=>none
    |_=>none
   |none=>none
  |_,_=>none
 | .field t x f=>match σ.op x,uS T t with
  | .e (.agg l),some (.struct fs)=>match fs[f]? with
   |some fd=>match mc T fd.type with
    |some ft=>if ft.isAgg then none else match l[fd.offset]? with
     |some e=>some { r:=.e e }
     |none=>none
    |none=>none
   |none=>none
  |_,_=>none
 | .lookup t x i false=>match σ.op x,σ.op i,uS T t with
  | .e (.mp l),.e (.v (.int .i64 z)),some (.map k _)=>match uS T k,aaL O o.dst with
   |some (.int .i64),some e=>some { r:=.e e,jM:=[wq l z=some e] }
   |_,_=>none
  |_,_,_=>none
 | .extract x i=>match σ.op x with
  | .e (.hH l)=>match l[i]? with
   |some e=>some { r:=.e e }
   |none=>none
  |_=>none
 | .call c=>match c.callee with
  | .builtin .len=>match c.args.toList,c.argTypes.toList with
   | [x],[t]=>match uS T t with
    |some (.slice _)=>(ub (σ.op x) σ).map λr=>{ r:=.e (.v r.1),rb:=r.2 }
    |_=>none
   |_,_=>none
  | .builtin .append=>match c.args.toList,c.argTypes.toList with
   | [s,x],[t,t']=>if Nat.beq t t' then(if ES O o.dst then zz T σ o.dst t (σ.op s) (σ.op x)else yc T σ o.dst t (σ.op s) (σ.op x))else none
   |_,_=>none
  | .builtin .max=>match c.args.toList.map σ.op with
   | [.e (.v (.int k a)),.e (.v (.int _ b))]=>some { r:=.e (.v (.int k (if b>a then b else a))) }
   | [.e (.v (.int k a)),.e (.v (.int _ b)),.e (.v (.int _ z))]=>some { r:=.e (.v (.int k (if z>(if b>a then b else a)then z else(if b>a then b else a)))) }
   |_=>none
  | .builtin .min=>match c.args.toList.map σ.op with
   | [.e (.v (.int k a)),.e (.v (.int _ b))]=>some { r:=.e (.v (.int k (if b<a then b else a))) }
   |_=>none
  | .value f=>match σ.op f,tO σ c.args.toList with
   | .e (.fn g cap),some (xs,is)=>yd P K O σ o.dst g (xs++cap) is ((c.args.toList.map σ.op).any PV.zZ)
   | .sR g cap,some (xs,is)=>match vS σ cap with
    |some (ys,js)=>yd P K O σ o.dst g (xs++ys) (is++js) ((c.args.toList.map σ.op).any PV.zZ)
    |none=>none
   |_,_=>none
  |_=>none
 |_=>none
structure Lk where
 nR:Nat->Prop
 own:Nat->Nat->Prop
 val:Nat->Value
 jm:Nat->Nat->Value
def j9(L:Lk)(x:Nat):Prop:=∃ id,L.own id x
def jv(B:Nat->Prop)(L:Lk)(x:Nat):Prop:=B x\/j9 L x
def wP(bs br:Nat->Prop)(L:Lk)(w:World):CV->Value->Prop
 | .e x,v=>iz bs br w x v
 | .box id,v=>L.nR id/\∃ b,L.val id = .pointer (some ⟨b,0,none⟩)/\v = .pointer (some ⟨b,0,none⟩)
def nx(bs br:Nat->Prop)(L:Lk)(w:World):PV->Value->Prop
 | .e x,v=>iz bs br w x v
 | .box id off,v=>L.nR id/\∃ b,L.val id = .pointer (some ⟨b,0,none⟩)/\v = .pointer (some ⟨b,off,none⟩)
 | .own id,v=>L.nR id/\v=L.val id
 | .pj id sz i j,v=>L.nR id/\∃ b n c,L.val id = .slice (some ⟨b,0,none⟩) n c/\v = .pointer (some ⟨b,i*sz+j,none⟩)
 | .jm id k,v=>L.nR id/\v=L.jm id k
 | .sR f cap,v=>∃ vs:List Value,v = .func (.func f) #[] vs.toArray/\vs.length=cap.length/\∀ (i:Nat) (c:CV) (x:Value),cap[i]? = some c->vs[i]? = some x->wP bs br L w c x
def PV.le(p q:PV):Prop:=∀ (bs br:Nat->Prop) (L:Lk) (w:World) (v:Value),nx bs br L w p v->nx bs br L w q v
abbrev ai(a b:E):Prop:=PV.le (.e a) (.e b)
def sS(P:Program)(K:World->Prop)(T:List TI)(O:pn)(σ:PS)(o:Oper):Option kA:=match jy P K T O σ o with
 |some u=>match o.dst with
  |some d=>match look O.ov d with
   |some p=>some { u with r:=p,jM:=PV.le u.r p::u.jM }
   |none=>some u
  |none=>some u
 |none=>none
def xQ(gI:Array Oper)(σ:PS)(o:Oper):Option Bool:=match o.guard with
 |none=>some true
 |some (j,want)=>match(gI[j]?).bind (·.dst)with
  |some t=>match σ.get t with
   | .e (.v (.bool true))=>some want
   | .e (.v (.bool false))=>some (!want)
   | .e (.v (.tuple _))=>some false
   |_=>none
  |none=>none
def PS.app(σ:PS)(d:Option Tmp)(u:kA):PS:=(σ.pW u.f).put d u.r
def uw(σ:PS):Option Tmp->Bool
 |some d=>Nat.blt d σ.n
 |none=>true
def D7:Op->List Operand
 | .move x | .assign x | .box _ x | .load _ x | .nilCheck x | .unOp _ _ x | .convert _ _ x | .fieldAddr _ x _ | .field _ x _ | .extract x _=>[x]
 | .pick c a b=>[c,a,b]
 | .build _ ps | .buildSlice _ _ ps=>ps.toList.map (·.2)
 | .store _ a v | .binOp _ _ a v _ | .makeSlice _ a v | .indexAddr _ a v | .index _ a v | .lookup _ a v _=>[a,v]
 | .makeFunc _ first captured=>first.toList++captured.toList
 | .slice _ x l h m=>x::(l.toList++h.toList++m.toList)
 | .call c=>(match c.callee with | .value f=>[f] | .invoke r _=>[r] | .builtin _=>[])++c.args.toList
 |_=>[]
def Cv:List Operand->List Tmp
 | []=>[]
 | .tmp t::l=>t::Cv l
 |_::l=>Cv l
def looks(gI:Array Oper)(o:Oper):List Tmp:=Cv (D7 o.op)++(match o.guard with
 |some (g,_)=>((gI[g]?).bind (·.dst)).toList
 |none=>[])
def qc(P:Program)(K:World->Prop)(T:List TI)(O:pn)(gI:Array Oper)(σ:PS)(o:Oper):Option kA:=
 if uw σ o.dst then match xQ gI σ o with
  |some true=>match sS P K T O σ o with
   |some u=>some { u with rd:=(looks gI o).map σ.get }
   |none=>none
  |some false=>some { r:=.e (.v (.tuple #[])),rd:=(looks gI o).map σ.get }
  |none=>none
 else none
def J3(l:List Nat)(n:Nat):Bool:=l.any (Nat.beq n)
def qu.id:qu->Option Nat
 | .none=>Option.none
 | .new i _ | .tG i _ | .qx i _ | .uU i _ | .fin i=>some i
def xv:qu->PV->Bool
 | .qx id _,.own i=>!Nat.beq i id
 | .qx id _,.pj i _ _ _=>!Nat.beq i id
 | .uU id _,.jm i _=>!Nat.beq i id
 | .fin id,p=>!p.pQ.any (Nat.beq id)
 |_,_=>true
def BP(l:List Nat):Option Nat->Bool
 |some d=>!J3 l d
 |none=>true
def Im:Option Nat->Option Nat->Bool
 |some a,some b=>!Nat.beq a b
 |_,_=>true
def Lp:PV->Bool
 | .e .any=>false
 |_=>true
def zX(gI:Array Oper)(x y:Oper×kA):Bool:=
 BP (looks gI y.1) x.1.dst&&Im x.1.dst y.1.dst&&BP (looks gI x.1) y.1.dst &&
 BP y.2.rb x.2.f.id&&BP x.2.rb y.2.f.id&&Im x.2.f.id y.2.f.id&&xv x.2.f y.2.r&&xv y.2.f x.2.r &&
 (!x.2.f.Iw||y.2.rd.all Lp)&&x.2.rd.all (xv y.2.f)
def zY(o:Oper)(i:Nat):Bool:=o.after.toList.any λe=>Region.binds .any e&&Nat.beq e.on i
def yU(gI:Array Oper):Nat->Oper->Nat->Bool
 | 0,o,i=>zY o i
 |n+1,o,i=>zY o i||o.after.toList.any λe=>Region.binds .any e&&(match gI[e.on]? with
  |some z=>yU gI n z i
  |none=>false)
def BU(gI:Array Oper):Nat->List (Oper×kA)->Bool
 |_,[]=>true
 |i,x::l=>x.1.after.toList.all (λe=>!Region.binds .any e||Nat.blt e.on i)&&l.all (λy=>yU gI 3 y.1 i||zX gI x y)&&BU gI (i+1) l
def Ic(σ:PS):PV->Option E
 | .e x=>if x.nr 3 then some x else none
 | .own id=>match σ.bo id with
  |some (.row nl _ n sz el)=>some (.sl nl n sz el)
  |some (.iH nl _ _ n sz len el none)=>some (.sl true n 1 λk _=>.sl nl (len k) sz (el k))
  |_=>none
 |_=>none
def Mc(T:List TI)(σ:PS):ResultVar->Option E
 | .tmp t=>Ic σ (σ.get t)
 | .cell a t=>match mc T t with
  |some ti=>match σ.read (σ.get a) ti.i.size with
   |some (l,_,[])=>if ti.isAgg then(if(E.agg l).nr 3 then some (.agg l)else none)else match l with
    | [e]=>if e.nr 3 then some e else none
    |_=>none
   |_=>none
  |none=>none
def Ce(T:List TI)(σ:PS):List ResultVar->Option (List E)
 | []=>some []
 |x::l=>match Mc T σ x,Ce T σ l with
  |some e,some es=>some (e::es)
  |_,_=>none
def Hk(T:List TI)(fn:Func)(σ:PS):Option E:=match Ce T σ fn.results.toList with
 |some [e]=>some e
 |some l=>some (.hH l)
 |none=>none
inductive Ex where
 |normal
 |exit (id:Nat)
 |ret
def CU:Code->Nat
 | .region id _ _=>id
 | .seq a _=>CU a
 | .cond _ a _=>CU a
 | .block _ b=>CU b
 | .loop b=>CU b
 |_=>0
def Du:Nat->List E->List (Nat×PV)
 |_,[]=>[]
 |i,x::l=>(i,.e x)::Du (i+1) l
def yx(fn:Func)(nl:Bool)(args:List E):PS:={ n:=fn.ntmps,nl:=nl,t:=Du 0 args,b:=[] }
def mz{a b:Nat}:Nat.beq a b=true↔a=b:=⟨Nat.eq_of_beq_eq_true,λh=>by subst h;exact dE a⟩
def dF{a b:Nat}(h:a≠b):Nat.beq a b=false:=by
 cases hb:Nat.beq a b with
 |false=>rfl
 |true=>exact absurd (mz.1 hb) h
def sD{α:Type}(k:Nat)(x:α)(l:List (Nat×α))(t:Nat):look ((k,x)::l) t=if k=t then some x else look l t:=by
 by_cases h:k=t
 .subst h;simp[look]
 .simp [look,h,dF h]
def DL{α:Type}(l:List (Nat×α))(d t:Nat)(h:d≠t):look (l.filter λx=>!Nat.beq x.1 d) t=look l t:=by
 induction l with
 |nil=>rfl
 |cons y l ih=>
  obtain⟨k,x⟩:=y;rw[List.filter_cons];by_cases hk:k=d
  .subst hk;simp only[dE,e8,b9,bF];rw[ih,sD,bh h]
  .simp only[dF hk,eC,bI];rw[sD,sD,ih]
def R7{α:Type}(l:List (Nat×α))(f:α->α)(t:Nat):look (l.map λx=>(x.1,f x.2)) t=(look l t).map f:=by
 induction l with
 |nil=>rfl
 |cons y l ih=>
  obtain⟨k,x⟩:=y;rw[e9,sD,sD,ih];split<;>rfl
def PS.JN(σ:PS)(d:Nat)(p:PV)(t:Nat):(σ.put (some d) p).get t=if d=t then p else σ.get t:=by
 unfold PS.get PS.put;simp only[sD];by_cases h:d=t
 .rw [bj h,bj h];rfl
 .rw [bh h,bh h,DL _ _ _ h]
def PS.XT(σ:PS)(d:Option Tmp)(p:PV)(id:Nat):(σ.put d p).bo id=σ.bo id:=by cases d<;>rfl
def PS.Lf(σ:PS)(d:Option Tmp)(p:PV):(σ.put d p).n=σ.n:=by cases d<;>rfl
def PS.adT(σ:PS)(d:Option Tmp)(p:PV):(σ.put d p).nl=σ.nl:=by cases d<;>rfl
def GB(l:List (Nat×Bx))(id:Nat)(b:Bx)(t:Nat):look (Cp l id b) t=if id=t then some b else look l t:=by
 unfold Cp;rw[sD];by_cases h:id=t
 .rw [bj h,bj h]
 .rw [bh h,bh h,DL _ _ _ h]
def R6{α:Type}(l:List (Nat×α))(d:Nat):look (l.filter λx=>!Nat.beq x.1 d) d=none:=by
 induction l with
 |nil=>rfl
 |cons y l ih=>
  obtain⟨k,x⟩:=y;rw[List.filter_cons];by_cases hk:k=d
  .subst hk;simpa only[dE,e8,b9,bF]using ih
  .simp only[dF hk,eC,bI];rw[sD,bh hk,ih]
def K6{α:Type}(l:List (Nat×α))(i id:Nat):look (l.filter λx=>!Nat.beq x.1 i) id=if i=id then none else look l id:=by
 by_cases h:i=id
 .subst h;rw[bj rfl];exact R6 _ _
 .rw [bh h];exact DL _ _ _ h
def PS.FL(σ:PS)(f:qu)(t:Nat):(σ.pW f).get t=(σ.get t).oL f:=by
 unfold PS.get PS.pW;by_cases h:f.Iw=true
 .simp only[h,bI];rw[R7];cases look σ.t t with
  |none=>cases f<;>rfl
  |some p=>rfl
 .have hv:∀ p:PV,p.oL f=p:=by
   intro p;cases f<;>first|exact absurd rfl h|(cases p<;>rfl)
  simp only[h,hv];rfl
def qN(bs br:Nat->Prop)(L:Lk)(w:World)(id:Nat):Bx->Prop
 | .cells T l=>∃ b vs,L.val id = .pointer (some ⟨b,0,none⟩)/\(∀ x,L.own id x↔x=b)/\w.heap[b]? = some (.cells vs.toArray T (0,0))/\kj bs br w l vs/\∀ u,u ∈ vs->u.oneCell'=true
 | .row nl T n sz el=>∃ f:Nat->Nat->Value,pF w (L.val id) T n sz f nl/\(∀ x,L.own id x↔(L.val id).ownBlock=some x)/\∀ i j,i<n->j<sz->iz bs br w (el i j) (f i j)/\(el i j).nr 2=true
 | .iH nl T1 T0 n sz len el pend=>∃ (b c:Nat) (cur:Array Value) (f:Nat->Nat->Nat->Value),L.val id = .slice (some ⟨b,0,none⟩) n c/\w.heap[b]? = some (.cells cur T1 (0,0))/\n<=c/\c<=maxLen/\cur.size=c /\
  (∀ k,k<n->pend≠some k->cur[k]? = some (L.jm id k))/\(∀ u,u ∈ cur->u.oneCell'=true/\rA u=false) /\
  (∀ k,k<n->pF w (L.jm id k) T0 (len k) sz (f k) nl/\∀ i j,i<len k->j<sz->iz bs br w (el k i j) (f k i j)/\(el k i j).nr 2=true) /\
  (∀ x,L.own id x↔x=b\/∃ k,k<n/\(L.jm id k).ownBlock=some x) /\
  (∀ k k' x,k<n->k'<n->(L.jm id k).ownBlock=some x->(L.jm id k').ownBlock=some x->k=k')/\(∀ k,k<n->(L.jm id k).ownBlock≠some b)
structure jr(w0:World)(B:Nat->Prop)(σ:PS)(a:Act)(w:World)(L:Lk):Prop where
 hd:a.defers=[]
 hs:a.tmps.size=σ.n
 ht:∀ t,nx (jv B L) (j9 L) L w (σ.get t) (a.tmps.getD t undef)
 hb:∀ id b,σ.bo id=some b->qN (jv B L) (j9 L) L w id b
 hv:∀ id,L.nR id↔(σ.bo id).isSome=true
 hn:∀ id x,L.own id x->L.nR id
 hw:∀ id x,L.own id x->w0.heap.size<=x/\x<w.heap.size
 hi:∀ id id' x,L.own id x->L.own id' x->id=id'
 he:Below w0.heap.size w0 w
 hl:σ.nl=true->∀ id b,σ.bo id=some b->b.nl=true
structure se(L:Lk)(w:World)(L':Lk)(w':World):Prop where
 size:w.heap.size<=w'.heap.size
 j9:∀ x,x<w.heap.size->Pu.j9 L' x->Pu.j9 L x
 oW:∀ x,x<w.heap.size->¬Pu.j9 L x->w'.heap[x]? = w.heap[x]?
def se.kZ{B:Nat->Prop}{L L':Lk}{w w':World}(h:se L w L' w'){e:E}{v:Value}(k:iz (jv B L) (Pu.j9 L) w e v):iz (jv B L') (Pu.j9 L') w' e v:=by
 refine k.mono h.size (λb hb hx=>?_) (λb hb hx=>h.j9 b hb hx) (λb hb sw=>h.oW b hb ?_)
 .rcases hx with hx|hx
  .exact .inl hx
  .exact .inr (h.j9 b hb hx)
 .rcases sw with sw|sw
  .exact λhm=>sw (.inr hm)
  .exact sw
def pF.block{w w':World}{v:Value}{T:TypeId}{n sz:Nat}{f:Nat->Nat->Value}{nl:Bool}(h:pF w v T n sz f nl)
 (hk:∀ x,v.ownBlock=some x->w'.heap[x]? = w.heap[x]?):pF w' v T n sz f nl:=by
 rcases h with h|⟨b,c,cur,rfl,hg,r⟩
 .exact .inl h
 .exact .inr ⟨b,c,cur,rfl,by rw[hk b rfl];exact hg,r⟩
def qN.later{B:Nat->Prop}{L L':Lk}{w w':World}(h:se L w L' w'){id:Nat}{b:Bx}(k:qN (jv B L) (j9 L) L w id b)
 (hv:L'.val id=L.val id) (ho:∀ x,L'.own id x↔L.own id x) (lZ:∀ j,L'.jm id j=L.jm id j) (hk:∀ x,L.own id x->w'.heap[x]? = w.heap[x]?):qN (jv B L') (j9 L') L' w' id b:=by
 cases b with
 |cells T l=>
  obtain⟨b,vs,h1,h2,h3,h4,h5⟩:=k;exact⟨b,vs,by rw[hv];exact h1,λx=>(ho x).trans (h2 x),by rw[hk b ((h2 b).2 rfl)];exact h3,h4.mono λ_ _=>h.kZ,h5⟩
 |row nl T n sz el=>
  obtain⟨f,h1,h2,h3⟩:=k;exact⟨f,by rw[hv];exact h1.block λx hx=>hk x ((h2 x).2 hx),λx=>by rw[ho,hv];exact h2 x,λi j hi hj=>⟨h.kZ (h3 i j hi hj).1,(h3 i j hi hj).2⟩⟩
 |iH nl T1 T0 n sz len el pend=>
  obtain⟨b,c,cur,f,h1,h2,h3,h4,h5,h6,h7,h8,h9,sU,uf⟩:=k;have e:L'.jm id=L.jm id:=funext lZ;refine⟨b,c,cur,f,by rw[hv];exact h1,by rw[hk b ((h9 b).2 (.inl rfl))];exact h2,h3,h4,h5,by rw[e];exact h6,h7,?_,?_,by rw[e];exact sU,by rw[e];exact uf⟩
  .intro k F8;obtain⟨q1,q2⟩:=h8 k F8;rw[e];exact⟨q1.block λx hx=>hk x ((h9 x).2 (.inr ⟨k,F8,hx⟩)),λi j hi hj=>⟨h.kZ (q2 i j hi hj).1,(q2 i j hi hj).2⟩⟩
  .intro x;rw[ho,e];exact h9 x
def wP.later{B:Nat->Prop}{L L':Lk}{w w':World}(h:se L w L' w'){c:CV}{v:Value}(k:wP (jv B L) (j9 L) L w c v)
 (hv:∀ id,L.nR id->L'.nR id/\L'.val id=L.val id):wP (jv B L') (j9 L') L' w' c v:=by
 cases c with
 |e x=>exact h.kZ k
 |box id=>obtain⟨k1,b,k2,k3⟩:=k;exact⟨(hv id k1).1,b,by rw[(hv id k1).2];exact k2,k3⟩
def nx.later{B:Nat->Prop}{L L':Lk}{w w':World}(h:se L w L' w'){p:PV}{v:Value}(k:nx (jv B L) (j9 L) L w p v)
 (hv:∀ id,L.nR id->L'.nR id/\L'.val id=L.val id/\∀ j,L'.jm id j=L.jm id j):nx (jv B L') (j9 L') L' w' p v:=by
 cases p with
 |e x=>exact h.kZ k
 |box id off=>obtain⟨k1,b,k2,k3⟩:=k;exact⟨(hv id k1).1,b,by rw[(hv id k1).2.1];exact k2,k3⟩
 |own id=>obtain⟨k1,k2⟩:=k;exact⟨(hv id k1).1,by rw[(hv id k1).2.1];exact k2⟩
 |pj id sz i j=>obtain⟨k1,b,n,c,k2,k3⟩:=k;exact⟨(hv id k1).1,b,n,c,by rw[(hv id k1).2.1];exact k2,k3⟩
 |jm id q=>obtain⟨k1,k2⟩:=k;exact⟨(hv id k1).1,by rw[(hv id k1).2.2];exact k2⟩
 |sR f cap=>
  obtain⟨vs,k1,k2,k3⟩:=k;exact⟨vs,k1,k2,λi c x hc hx=>(k3 i c x hc hx).later h λid hl=>⟨(hv id hl).1,(hv id hl).2.1⟩⟩
def jr.later{w0:World}{B:Nat->Prop}{σ:PS}{a:Act}{w w':World}{L:Lk}(r:jr w0 B σ a w L)(h:Below w.heap.size w w'):jr w0 B σ a w' L:=by
 have hl:se L w L w':=⟨h.size,λ_ _ h=>h,λx hx _=>h.block x hx⟩
 refine⟨r.hd,r.hs,λt=>(r.ht t).later hl λid k=>⟨k,rfl,λ_=>rfl⟩,λid b hb=>(r.hb id b hb).later hl rfl (λ_=>Iff.rfl) (λ_=>rfl) λx hx=>h.block x (r.hw id x hx).2,r.hv,r.hn,
  λid x hx=>⟨(r.hw id x hx).1,bN (r.hw id x hx).2 h.size⟩,r.hi,r.he.trans (h.mono r.he.size),r.hl⟩
def jr.drew{w0:World}{B:Nat->Prop}{σ:PS}{a:Act}{w:World}{L:Lk}(r:jr w0 B σ a w L):jr w0 B σ a w.drew L:=r.later (Below.refl _ _).drew
def jr.put{w0:World}{B:Nat->Prop}{σ:PS}{a:Act}{w:World}{L:Lk}(r:jr w0 B σ a w L)(d:Option Tmp)(p:PV)(v:Value)(hd:uw σ d=true)(hp:nx (jv B L) (j9 L) L w p v):jr w0 B (σ.put d p) (a.put d v) w L:=by
 cases d with
 |none=>exact r
 |some d=>
  have zE:d<σ.n:=by simpa[uw,Nat.blt_eq]using hd
  refine⟨r.hd,by simp[Act.put,r.hs,PS.Lf],λt=>?_,λid b hb=>r.hb id b hb,r.hv,r.hn,r.hw,r.hi,r.he,r.hl⟩;rw[PS.JN];by_cases h:d=t
  .subst h;rw[bj rfl];have:(a.put (some d) v).tmps.getD d undef=v:=by
    simp[Act.put,akk,r.hs,zE]
   rw[this];exact hp
  .rw [bh h];have:(a.put (some d) v).tmps.getD t undef=a.tmps.getD t undef:=by
    simp[Act.put,ajU h]
   rw[this];exact r.ht t
def jr.op{w0:World}{B:Nat->Prop}{σ:PS}{a:Act}{w:World}{L:Lk}(r:jr w0 B σ a w L)(x:Operand):nx (jv B L) (j9 L) L w (σ.op x) (a.eval x):=by
 cases x with
 |tmp t=>exact r.ht t
 |const v=>exact .v v
 |global g=>exact .v _
 |func f=>exact .fn f [] [] rfl (λi p x h=>by simp at h)
def Lk.set(L:Lk)(id:Nat)(O:Nat->Prop)(v:Value)(jm:Nat->Value):Lk:=
 {nR:=λi=>i=id\/L.nR i
  own:=λi x=>if i=id then O x else L.own i x
  val:=λi=>if i=id then v else L.val i
  jm:=λi=>if i=id then jm else L.jm i }
section
variable {L:Lk} {id:Nat} {O:Nat->Prop} {v:Value} {jm:Nat->Value}
def Lk.rJ(x:Nat):(L.set id O v jm).own id x↔O x:=by simp[Lk.set]
def Lk.oG:(L.set id O v jm).val id=v:=by simp[Lk.set]
def Lk.qI(k:Nat):(L.set id O v jm).jm id k=jm k:=by simp[Lk.set]
def Lk.yX:(L.set id O v jm).nR id:=.inl rfl
def Lk.yY{i:Nat}(h:i≠id)(x:Nat):(L.set id O v jm).own i x↔L.own i x:=by simp[Lk.set,h]
def Lk.yZ{i:Nat}(h:i≠id):(L.set id O v jm).val i=L.val i:=by simp[Lk.set,h]
def Lk.Eu{i:Nat}(h:i≠id)(k:Nat):(L.set id O v jm).jm i k=L.jm i k:=by simp[Lk.set,h]
end
structure qP(L:Lk)(w:World)(id:Nat)(O:Nat->Prop)(w':World):Prop where
 own:∀ x,O x->(L.own id x\/w.heap.size<=x)/\x<w'.heap.size
 size:w.heap.size<=w'.heap.size
 oW:∀ x,x<w.heap.size->¬L.own id x->w'.heap[x]? = w.heap[x]?
 os:w'.os=w.os
 tape:w'.tape=w.tape
 output:w'.output=w.output
def qP.later{L:Lk}{w:World}{id:Nat}{O:Nat->Prop}{w':World}(h:qP L w id O w')(v:Value)(jm:Nat->Value):se L w (L.set id O v jm) w':=by
 refine⟨h.size,λx hx hm=>?_,λx hx hm=>h.oW x hx λho=>hm ⟨id,ho⟩⟩;obtain⟨i,hi⟩:=hm;by_cases e:i=id
 .subst e;rcases(h.own x ((Lk.rJ x).1 hi)).1 with k|k
  .exact ⟨i,k⟩
  .omega
 .exact ⟨i,(Lk.yY e x).1 hi⟩
def jr.set{w0:World}{B:Nat->Prop}{σ:PS}{a:Act}{w:World}{L:Lk}(r:jr w0 B σ a w L)(id:Nat)(b':Bx)(O:Nat->Prop)(v:Value)(jm:Nat->Value)(w':World)(f:qu)
 (hf:f.IX σ.b=Cp σ.b id b') (ht:qP L w id O w')
 (hB:qN (jv B (L.set id O v jm)) (j9 (L.set id O v jm)) (L.set id O v jm) w' id b')
 (hT:∀ p v0,nx (jv B L) (j9 L) L w p v0->nx (jv B (L.set id O v jm)) (j9 (L.set id O v jm)) (L.set id O v jm) w' (p.oL f) v0)
 (jZ:σ.nl=true->b'.nl=true):jr w0 B (σ.pW f) a w' (L.set id O v jm):=by
 have hl:=ht.later v jm;have jS:∀ i,(σ.pW f).bo i=if id=i then some b' else σ.bo i:=by
  intro i;show look (f.IX σ.b) i=_;rw[hf,GB];rfl
 have qA:Below w0.heap.size w w':=⟨ht.os,ht.tape,ht.output,ht.size,λx hx=>ht.oW x (bN hx r.he.size) λho=>by have:=(r.hw id x ho).1;omega⟩
 refine⟨r.hd,r.hs,λt=>?_,λi b hb=>?_,λi=>?_,λi x hx=>?_,λi x hx=>?_,λi j x hi hj=>?_,r.he.trans qA,λGe i b hb=>?_⟩
 .rw [PS.FL];exact hT _ _ (r.ht t)
 .rw [jS]at hb;by_cases e:id=i
  .subst e;rw[bj rfl]at hb;cases hb;exact hB
  .rw [bh e]at hb;have e':i≠id:=λh=>e h.symm
   exact(r.hb i b hb).later hl (Lk.yZ e') (Lk.yY e') (Lk.Eu e') λx hx=>ht.oW x (r.hw i x hx).2 λho=>e (r.hi id i x ho hx)
 .rw [jS];by_cases e:id=i
  .subst e;rw[bj rfl];simp[Lk.set]
  .rw [bh e];have e':i≠id:=λh=>e h.symm
   simp only[Lk.set,e',false_or];exact r.hv i
 .by_cases e:i=id
  .exact .inl e
  .exact .inr (r.hn i x ((Lk.yY e x).1 hx))
 .by_cases e:i=id
  .subst e;obtain⟨k1,k2⟩:=ht.own x ((Lk.rJ x).1 hx);refine⟨?_,k2⟩;rcases k1 with k1|k1
   .exact (r.hw i x k1).1
   .exact bM r.he.size k1
  .have:=r.hw i x ((Lk.yY e x).1 hx);exact⟨this.1,bN this.2 ht.size⟩
 .by_cases e1:i=id
  .by_cases e2:j=id
   .rw [e1,e2]
   .have k2:=(Lk.yY e2 x).1 hj;subst e1;rcases(ht.own x ((Lk.rJ x).1 hi)).1 with k|k
    .exact r.hi _ _ x k k2
    .have:=(r.hw j x k2).2;omega
  .have k1:=(Lk.yY e1 x).1 hi;by_cases e2:j=id
   .subst e2;rcases(ht.own x ((Lk.rJ x).1 hj)).1 with k|k
    .exact r.hi _ _ x k1 k
    .have:=(r.hw i x k1).2;omega
   .exact r.hi _ _ x k1 ((Lk.yY e2 x).1 hj)
 .rw [jS]at hb;by_cases e:id=i
  .rw [bj e]at hb;cases hb;exact jZ Ge
  .rw [bh e]at hb;exact r.hl Ge i b hb
def jr.new{w0:World}{B:Nat->Prop}{σ:PS}{a:Act}{w:World}{L:Lk}(r:jr w0 B σ a w L)(id:Nat)(b':Bx)(O:Nat->Prop)(v:Value)(jm:Nat->Value)(w':World)
 (mh:σ.bo id=none) (hO:∀ x,O x->w.heap.size<=x/\x<w'.heap.size) (hb:Below w.heap.size w w')
 (hB:qN (jv B (L.set id O v jm)) (j9 (L.set id O v jm)) (L.set id O v jm) w' id b')
 (jZ:(!σ.nl||b'.nl)=true):jr w0 B (σ.pW (.new id b')) a w' (L.set id O v jm):=by
 have Qt:¬L.nR id:=λh=>by have:=(r.hv id).1 h;rw[mh]at this;simp at this
 have ht:qP L w id O w':=⟨λx hx=>⟨.inr (hO x hx).1,(hO x hx).2⟩,hb.size,λx hx _=>hb.block x hx,hb.os,hb.tape,hb.output⟩
 refine r.set id b' O v jm w' (.new id b') rfl ht hB (λp v0 hp=>?_) (λh=>by simpa[h]using jZ);have kV:∀ {i},L.nR i->i≠id:=λh e=>Qt (e▸h)
 have:p.oL (.new id b')=p:=by cases p<;>rfl
 rw[this];exact hp.later (ht.later v jm) λi hi=>⟨.inr hi,Lk.yZ (kV hi),λj=>Lk.Eu (kV hi) j⟩
def jr.tG{w0:World}{B:Nat->Prop}{σ:PS}{a:Act}{w:World}{L:Lk}(r:jr w0 B σ a w L)(id:Nat)(b':Bx)(w':World)
 (uk:L.nR id) (ht:qP L w id (L.own id) w')
 (hB:qN (jv B (L.set id (L.own id) (L.val id) (L.jm id))) (j9 (L.set id (L.own id) (L.val id) (L.jm id))) (L.set id (L.own id) (L.val id) (L.jm id)) w' id b')
 (jZ:σ.nl=true->b'.nl=true):jr w0 B (σ.pW (.tG id b')) a w' (L.set id (L.own id) (L.val id) (L.jm id)):=by
 refine r.set id b' _ _ _ w' (.tG id b') rfl ht hB (λp v0 hp=>?_) jZ;have:p.oL (.tG id b')=p:=by cases p<;>rfl
 rw[this];refine hp.later (ht.later _ _) λi hi=>⟨.inr hi,?_,λj=>?_⟩
 .by_cases e:i=id
  .subst e;exact Lk.oG
  .exact Lk.yZ e
 .by_cases e:i=id
  .subst e;exact Lk.qI j
  .exact Lk.Eu e j
def jr.qx{w0:World}{B:Nat->Prop}{σ:PS}{a:Act}{w:World}{L:Lk}(r:jr w0 B σ a w L)(id:Nat)(b':Bx)(O:Nat->Prop)(v:Value)(w':World)
 (hp:∀ b,L.val id ≠ .pointer (some b)) (ht:qP L w id O w')
 (hB:qN (jv B (L.set id O v (L.jm id))) (j9 (L.set id O v (L.jm id))) (L.set id O v (L.jm id)) w' id b')
 (jZ:σ.nl=true->b'.nl=true):jr w0 B (σ.pW (.qx id b')) a w' (L.set id O v (L.jm id)):=by
 have hl:=ht.later v (L.jm id);refine r.set id b' O v (L.jm id) w' (.qx id b') rfl ht hB (λp v0 pr=>?_) jZ;have abI:∀ i j,(L.set id O v (L.jm id)).jm i j=L.jm i j:=λi j=>by
  by_cases e:i=id
  .subst e;exact Lk.qI j
  .exact Lk.Eu e j
 cases p with
 |e x=>exact hl.kZ pr
 |box i off=>
  obtain⟨k1,b,k2,k3⟩:=pr;have e:i≠id:=λe=>by subst e;exact hp _ k2
  exact⟨.inr k1,b,by rw[Lk.yZ e];exact k2,k3⟩
 |own i=>
  by_cases e:i=id
  .subst e;simp only[PV.oL,dE,bI];exact .any _
  .simp only[PV.oL,dF e,b9,bF];exact⟨.inr pr.1,by rw[Lk.yZ e];exact pr.2⟩
 |pj i s x j=>
  by_cases e:i=id
  .subst e;simp only[PV.oL,dE,bI];exact .any _
  .simp only[PV.oL,dF e,b9,bF];obtain⟨k1,b,n,c,k2,k3⟩:=pr;exact⟨.inr k1,b,n,c,by rw[Lk.yZ e];exact k2,k3⟩
 |jm i k=>exact⟨.inr pr.1,by rw[abI];exact pr.2⟩
 |sR f cap=>
  obtain⟨vs,k1,k2,k3⟩:=pr;refine⟨vs,k1,k2,λi c x hc hx=>?_⟩;have hk:=k3 i c x hc hx;cases c with
  |e y=>exact hl.kZ hk
  |box q=>
   obtain⟨q1,b,q2,q3⟩:=hk;have e:q≠id:=λe=>by subst e;exact hp _ q2
   exact⟨.inr q1,b,by rw[Lk.yZ e];exact q2,q3⟩
def jr.uU{w0:World}{B:Nat->Prop}{σ:PS}{a:Act}{w:World}{L:Lk}(r:jr w0 B σ a w L)(id:Nat)(b':Bx)(O:Nat->Prop)(jm:Nat->Value)(w':World)
 (ht:qP L w id O w')
 (hB:qN (jv B (L.set id O (L.val id) jm)) (j9 (L.set id O (L.val id) jm)) (L.set id O (L.val id) jm) w' id b')
 (jZ:σ.nl=true->b'.nl=true):jr w0 B (σ.pW (.uU id b')) a w' (L.set id O (L.val id) jm):=by
 have hl:=ht.later (L.val id) jm;refine r.set id b' O (L.val id) jm w' (.uU id b') rfl ht hB (λp v0 pr=>?_) jZ;have kR:∀ i,(L.set id O (L.val id) jm).val i=L.val i:=λi=>by
  by_cases e:i=id
  .subst e;exact Lk.oG
  .exact Lk.yZ e
 cases p with
 |e x=>exact hl.kZ pr
 |box i off=>obtain⟨k1,b,k2,k3⟩:=pr;exact⟨.inr k1,b,by rw[kR];exact k2,k3⟩
 |own i=>exact⟨.inr pr.1,by rw[kR];exact pr.2⟩
 |pj i s x j=>obtain⟨k1,b,n,c,k2,k3⟩:=pr;exact⟨.inr k1,b,n,c,by rw[kR];exact k2,k3⟩
 |jm i k=>
  by_cases e:i=id
  .subst e;simp only[PV.oL,dE,bI];exact .any _
  .simp only[PV.oL,dF e,b9,bF];exact⟨.inr pr.1,by rw[Lk.Eu e];exact pr.2⟩
 |sR f cap=>
  obtain⟨vs,k1,k2,k3⟩:=pr;refine⟨vs,k1,k2,λi c x hc hx=>(k3 i c x hc hx).later hl λj hj=>⟨.inr hj,kR j⟩⟩
structure MO(w:World)(v:Value)(T:TypeId)(n sz m:Nat)(f g:Nat->Nat->Value)(nl:Bool)(v':Value)(w':World):Prop where
 own:pF w' v' T (n+m) sz (λi j=>if i<n then f i j else g (i-n) j) nl
 IW:∀ x,v'.ownBlock=some x->v.ownBlock=some x\/(w.heap.size<=x/\x<w'.heap.size)
 size:w.heap.size<=w'.heap.size
 oW:∀ x,x<w.heap.size->v.ownBlock≠some x->w'.heap[x]? = w.heap[x]?
 os:w'.os=w.os
 tape:w'.tape=w.tape
 output:w'.output=w.output
def nM(n sz:Nat)(f:Nat->Nat->Value):List Value:=(List.range (n*sz)).map λq=>f (q/sz) (q%sz)
def ud(n sz:Nat)(f:Nat->Nat->Value):(nM n sz f).length=n*sz:=by simp[nM]
def JJ{n sz:Nat}{f:Nat->Nat->Value}{i j:Nat}(hi:i<n)(hj:j<sz):(nM n sz f)[i*sz+j]? = some (f i j):=by
 have h1:i*sz+j<n*sz:=by
  have:=bL sz (show i+1<=n from hi);rw[bT,bX]at this;omega
 have h2:(i*sz+j)/sz=i:=by rw[bB,dk aD,ca hj,bK]
 have h3:(i*sz+j)%sz=j:=by rw[bB,dG,bJ hj]
 simp[nM,h1,h2,h3]
def FJ{n sz:Nat}{f:Nat->Nat->Value}{q:Nat}{u:Value}(h:(nM n sz f)[q]? = some u):q/sz<n/\q%sz<sz/\u=f (q/sz) (q%sz)/\q/sz*sz+q%sz=q:=by
 unfold nM at h;rw[cD]at h;obtain⟨x,hx,rfl⟩:=cQ.1 h;obtain⟨h1,h2⟩:=cg.1 hx;simp at h1 h2;subst h2;have hz:0<sz:=by
  rcases ek sz with h0|h0
  .subst h0;simp at h1
  .exact h0
 exact⟨(bZ hz).2 h1,bA _ hz,rfl,by rw[bB];exact ck q sz⟩
def pF.row{w:World}{v:Value}{T:TypeId}{n sz:Nat}{f:Nat->Nat->Value}{nl:Bool}(h:pF w v T n sz f nl):w.ownsRow 0 T sz v n (nM n sz f):=by
 rcases h with⟨rfl,rfl⟩|⟨b,c,cur,rfl,hg,o0,nE,ny,lk,_⟩
 .exact ⟨ud _ _ _,.inl ⟨rfl,rfl⟩⟩
 .refine ⟨ud _ _ _,.inr ⟨b,c,cur,rfl,b6 _,hg,o0,nE,ny,?_⟩⟩;apply fF;intro q;by_cases hq:q<n*sz
  .have hz:0<sz:=by
    rcases ek sz with h0|h0
    .subst h0;simp at hq
    .exact h0
   have h1:q/sz<n:=(bZ hz).2 hq;have h2:=bA q hz;have h3:q/sz*sz+q%sz=q:=by rw[bB];exact ck q sz
   have h4:=(lk _ _ h1 h2).1;have h5:=JJ (f:=f) h1 h2;rw[h3]at h4 h5;rw[eg,bj hq,h5];simpa using h4
  .rw [eg,bh hq,bR (by rw[ud];omega)]
def ahm(P:Program)(w:World)(t ty e:TypeId)(i:TypeInfo)(z:Value)(sz:Nat)(ht:P.underlying t=some (.slice e))(hi:P.info? e=some i)(hz:i.zero=some z)
 (vY:i.size=sz) (Rl:z.cells.size=sz) (lf:0<sz) (jB:1<=i.bytes) (ajx:∀ u,u ∈ z.cells->u.oneCell'=true)
 (v:Value) (n:Nat) (f:Nat->Nat->Value) (nl:Bool) (nW:pF w v e n sz f nl)
 (A:Option Addr) (m c:Nat) (g:Nat->Nat->Value) (hA:∀ k j,k<m->j<sz->∃ b o,A=some ⟨b,o,none⟩/\w.cell? ⟨b,o+(k*sz+j),none⟩=some (g k j)) (Be:A=none->m=0)
 (h1:∀ k j,k<m->j<sz->(g k j).oneCell'=true/\(nl=true->rA (g k j)=false)) (Rk:nl=true->∀ u,u ∈ z.cells->rA u=false)
 (Qp:(n+m)*i.bytes<=140737488355328):
 ∃ v' w',(Builtin.append_ #[t,t] ty #[v,.slice A m c]).run P w = .ok v' w'/\MO w v e n sz m f g nl v' w':=by
 have hle:n+m<=(n+m)*i.bytes:=fG _ jB;have JO:n+m<=maxLen:=by unfold maxLen;omega
 have vU:∀ i j,i<n+m->j<sz->(nM n sz f++nM m sz g)[i*sz+j]? = some (if i<n then f i j else g (i-n) j):=by
  intro i j hi hj;by_cases lZ:i<n
  .rw [bj lZ,en,JJ lZ hj];rw[ud];have:=bL sz (show i+1<=n from lZ);rw[bT,bX]at this;omega
  .rw [bh lZ,eD,ud]
   .have:i*sz+j-n*sz=(i-n)*sz+j:=by
     have:=Nat.sub_mul i n sz;have:=bL sz (aD:n<=i);omega
    rw[this,JJ aD hj]
   .rw [ud];have:=bL sz (aD:n<=i);omega
 have vj:∀ i j,i<n+m->j<sz->(if i<n then f i j else g (i-n) j).oneCell'=true:=by
  intro i j hi hj;split
  .rename_i lZ;rcases nW with⟨_,h0⟩|⟨b,c,cur,_,_,_,_,_,hc,_⟩
   .omega
   .exact (hc i j lZ hj).2
  .rename_i lZ;exact(h1 (i-n) j aD hj).1
 have h1':∀ u ∈ nM m sz g,u.oneCell'=true:=by
  intro u hu;obtain⟨q,hq⟩:=dr.1 hu;obtain⟨q1,q2,rfl,_⟩:=FJ hq;exact(h1 _ _ q1 q2).1
 have gnl:nl=true->∀ u,u ∈ nM m sz g->rA u=false:=by
  intro hn u hu;obtain⟨q,hq⟩:=dr.1 hu;obtain⟨q1,q2,rfl,_⟩:=FJ hq;exact(h1 _ _ q1 q2).2 hn
 rcases A with _|ad
 .have hm:=Be rfl;subst hm;rcases nW with⟨rfl,rfl⟩|⟨b,cc,cur,rfl,hg,o0,nE,ny,lk,jZ⟩
  .refine ⟨.slice none 0 0,w,?_,.inl ⟨rfl,rfl⟩,λx hx=>.inl hx,bp _,λ_ _ _=>rfl,rfl,rfl,rfl⟩;simp[Builtin.append_,run_underlying ht,sizeOf,typeInfo,hi,Builtin.lenOf,Builtin.firstCells,loadCells,loadCellsFrom]
  .refine ⟨.slice (some ⟨b,0,none⟩) n cc,w,?_,.inr ⟨b,cc,cur,rfl,hg,o0,nE,ny,?_,jZ⟩,λx hx=>.inl hx,bp _,λ_ _ _=>rfl,rfl,rfl,rfl⟩
   .simp [Builtin.append_,run_underlying ht,sizeOf,typeInfo,hi,Builtin.lenOf,Builtin.firstCells,o0,storeCells]
   .intro i j hi hj;have lZ:i<n:= aD ;simp only[lZ,bI];exact lk i j lZ hj
 .have Ku:∀ j u,(nM m sz g)[j]? = some u->w.cell? (ad.add j)=some u:=by
   intro q u hq;obtain⟨q1,q2,rfl,q4⟩:=FJ hq;obtain⟨b,o,e,hc⟩:=hA _ _ q1 q2;cases e;rw[q4]at hc;rw[show(⟨b,o,none⟩:Addr).add q=⟨b,o+q,none⟩from Addr.add_lit _ _ _];exact hc
  rcases nW with⟨rfl,rfl⟩|⟨b,cc,cur,rfl,hg,o0,nE,ny,lk,jZ⟩
  .by_cases hm:m=0
   .subst hm;refine⟨.slice none 0 0,w,?_,.inl ⟨rfl,rfl⟩,λx hx=>.inl hx,bp _,λ_ _ _=>rfl,rfl,rfl,rfl⟩;simp[Builtin.append_,run_underlying ht,sizeOf,typeInfo,hi,Builtin.lenOf,Builtin.firstCells,loadCells,loadCellsFrom]
   .have hr:=run_append_nil (P:=P) w t ty e i z ht hi hz ad m c (nM m sz g) (by rw[ud,vY]) Ku aD (by unfold maxLen at JO;omega) (by have hb:=Qp;simp only[bU]at hb;omega);have rV:=grownCap_ge w m 0 e;have nE:grownCap w m 0 e<=maxLen:=grownCap_le_maxLen w m 0 e aD;refine⟨_,_,hr,.inr ⟨w.heap.size,_,_,aJ,heap_alloc_new w.drew _,aD,nE,?_,?_,?_⟩,λx hx=>.inr ?_,aJ,λx hx _=>Below.heap_alloc w.drew _ x hx,rfl,rfl,rfl⟩
    .simp only[ajV,fH,size_zeroCells,Rl,ud,<-bT];congr 1;omega
    .intro i j hi hj;have:=vU i j hi hj;refine⟨?_,vj i j hi hj⟩;simp only[nM,cB,List.range_zero,List.map_nil,List.nil_append]at this;rw[<-this,akl]
     .simp [nM]
     .obtain ⟨q,_⟩:=cg.1 this;simpa[nM]using q
    .intro hn u hu;rcases fc.1 hu with hu|hu
     .exact gnl hn u (by simpa using hu)
     .simp only[Builtin.zeroCells,fI,fJ]at hu;obtain⟨q,hq,rfl⟩:=hu;have iE:q%z.cells.size<z.cells.size:=bA _ aD;rw[fe z.cells _ iE];exact Rk hn _ (fY iE)
    .simp [Value.ownBlock]at hx;subst hx;simp
  .by_cases KD:n+m<=cc
   .have yi:(nM m sz g).length=m*i.size:=by rw[ud,vY]
    have nO:n*i.size+(nM m sz g).length<=cur.size:=by rw[yi,ny,vY,<-bT];exact bL _ KD
    have hr:=run_append_room (P:=P) w t ty e i ht hi b n cc cur hg ad m c (nM m sz g) yi Ku h1' KD nO;have Dl:cur.toList.take (n*i.size)=nM n sz f:=by
     have pd:w.ownsRow 0 e sz (.slice (some ⟨b,0,none⟩) n cc) n (nM n sz f):=pF.row (nl:=nl) (.inr ⟨b,cc,cur,rfl,hg,o0,nE,ny,lk,jZ⟩);rcases pd.2 with⟨hh,_⟩|⟨b',c',cur',hh,_,QA,_,_,_,yo⟩
     .cases hh
     .cases hh;rw[hg]at QA;cases QA;rw[vY];exact yo
    refine⟨_,_,hr,.inr ⟨b,cc,_,rfl,setRow_heap w b cur _ e _ hg,KD,nE,?_,?_,?_⟩,λx hx=>.inl hx,aJ,λx hx kV=>setRow_other w b x _ (λq=>kV (by simp[Value.ownBlock,q])),rfl,rfl,rfl⟩
    .simp only[fH,cv,cj,eE,dH];omega
    .intro k j hk hj;refine⟨?_,vj k j hk hj⟩;rw[Dl,<-vU k j hk hj];have hq:k*sz+j<(nM n sz f++nM m sz g).length:=by
      obtain⟨q,_⟩:=cg.1 (vU k j hk hj);exact q
     rw[fZ,en hq]
    .intro hn u hu;simp only[gi,dN]at hu;rcases hu with(hu|hu)|hu
     .exact jZ hn u (by have:=ev hu;simpa using this)
     .exact gnl hn u hu
     .exact jZ hn u (by have:=eN hu;simpa using this)
   .have pd:w.ownsRow 0 e sz (.slice (some ⟨b,0,none⟩) n cc) n (nM n sz f):=pF.row (nl:=nl) (.inr ⟨b,cc,cur,rfl,hg,o0,nE,ny,lk,jZ⟩);have holds:∀ j u,(nM n sz f)[j]? = some u->w.cell? ((⟨b,0,none⟩:Addr).add j)=some u:=pd.cells (g:=b) rfl;have hr:=run_append_grow (P:=P) w t ty e i z ht hi hz ⟨b,0,none⟩ n cc (nM n sz f) (by rw[ud,vY]) holds ad m c (nM m sz g) (by rw[ud,vY]) Ku aD (by unfold maxLen at JO;omega) (growslice_fits aD Qp);have rV:=grownCap_ge w (n+m) cc e;have abz:grownCap w (n+m) cc e<=maxLen:=grownCap_le_maxLen w (n+m) cc e JO;refine⟨_,_,hr,.inr ⟨w.heap.size,_,_,aJ,heap_alloc_new w.drew _,aD,abz,?_,?_,?_⟩,λx hx=>.inr ?_,aJ,λx hx _=>Below.heap_alloc w.drew _ x hx,rfl,rfl,rfl⟩
    .simp only[ajV,fH,size_zeroCells,Rl,ud,<-bT];congr 1;omega
    .intro k j hk hj;refine⟨?_,vj k j hk hj⟩;rw[<-vU k j hk hj];have hq:k*sz+j<(nM n sz f++nM m sz g).length:=by
      obtain⟨q,_⟩:=cg.1 (vU k j hk hj);exact q
     rw[akl (by simpa using hq)];simp
    .intro hn u hu;rcases fc.1 hu with hu|hu
     .rcases fc.1 hu with hu|hu
      .obtain ⟨q,hq⟩:=dr.1 (show u ∈ nM n sz f by simpa using hu);obtain⟨q1,q2,rfl,_⟩:=FJ hq;exact jZ hn _ (dI (lk _ _ q1 q2).1)
      .exact gnl hn u (by simpa using hu)
     .simp only[Builtin.zeroCells,fI,fJ]at hu;obtain⟨q,hq,rfl⟩:=hu;have iE:q%z.cells.size<z.cells.size:=bA _ aD;rw[fe z.cells _ iE];exact Rk hn _ (fY iE)
    .simp [Value.ownBlock]at hx;subst hx;simp
def nx.move{B:Nat->Prop}{L L':Lk}{w:World}(h:se L w L' w){p:PV}{v:Value}(k:nx (jv B L) (j9 L) L w p v)
 (hv:∀ id,id ∈ p.pQ->L.nR id->L'.nR id/\L'.val id=L.val id/\∀ j,L'.jm id j=L.jm id j):nx (jv B L') (j9 L') L' w p v:=by
 cases p with
 |e x=>exact h.kZ k
 |box id off=>obtain⟨k1,b,k2,k3⟩:=k;have q:=hv id (by simp[PV.pQ]) k1;exact⟨q.1,b,by rw[q.2.1];exact k2,k3⟩
 |own id=>obtain⟨k1,k2⟩:=k;have q:=hv id (by simp[PV.pQ]) k1;exact⟨q.1,by rw[q.2.1];exact k2⟩
 |pj id sz i j=>obtain⟨k1,b,n,c,k2,k3⟩:=k;have q:=hv id (by simp[PV.pQ]) k1;exact⟨q.1,b,n,c,by rw[q.2.1];exact k2,k3⟩
 |jm id r=>obtain⟨k1,k2⟩:=k;have q:=hv id (by simp[PV.pQ]) k1;exact⟨q.1,by rw[q.2.2];exact k2⟩
 |sR f cap=>
  obtain⟨vs,k1,k2,k3⟩:=k;refine⟨vs,k1,k2,λi c x hc hx=>?_⟩;have q:=k3 i c x hc hx;cases c with
  |e y=>exact h.kZ q
  |box id=>
   obtain⟨q1,b,q2,q3⟩:=q;have r:=hv id (by simp only[PV.pQ,e7];exact⟨.box id,eA hc,by simp[CV.pQ]⟩) q1;exact⟨r.1,b,by rw[r.2.1];exact q2,q3⟩
def ajb{id:Nat}{b:Bx}{p:PV}(h:p.pQ.any (Nat.beq id)=false):p.oL (.qx id b)=p:=by
 cases p with
 |own i=>
  have:Nat.beq i id=false:=by
   simp only[PV.pQ,ajW,List.any_nil,ajX]at h;exact dF λe=>by rw[e,dE]at h;cases h
  simp[PV.oL,this]
 |pj i s x j=>
  have:Nat.beq i id=false:=by
   simp only[PV.pQ,ajW,List.any_nil,ajX]at h;exact dF λe=>by rw[e,dE]at h;cases h
  simp[PV.oL,this]
 |_=>rfl
def jr.fin{w0:World}{B:Nat->Prop}{σ:PS}{a:Act}{w:World}{L:Lk}{id:Nat}{nl:Bool}{T n sz:Nat}{el:Nat->Nat->E}(hB:∀ b,B b->b<w0.heap.size)
 (r:jr w0 B (σ.pW (.qx id (.row nl T n sz el))) a w L):∃ L',jr w0 B (σ.pW (.fin id)) a w L'/\iz (jv B L') (j9 L') w (.sl nl n sz el) (L.val id):=by
 let L':Lk:=⟨λi=>L.nR i/\i≠id,λi x=>L.own i x/\i≠id,L.val,L.jm⟩
 have iE:se L w L' w:=⟨bp _,λx _ ⟨i,h,_⟩=>⟨i,h⟩,λ_ _ _=>rfl⟩
 have uZ:∀ i,(σ.pW (.fin id)).bo i=if i=id then none else(σ.pW (.qx id (.row nl T n sz el))).bo i:=by
  intro i;show look (σ.b.filter λx=>!Nat.beq x.1 id) i=if i=id then none else look (Cp σ.b id (.row nl T n sz el)) i
  rw[K6,GB];by_cases h:i=id
  .subst h;simp
  .rw [bh h,bh (λe=>h e.symm),bh (λe=>h e.symm)]
 have abx:(σ.pW (.qx id (.row nl T n sz el))).bo id=some (.row nl T n sz el):=by
  show look (Cp σ.b id (.row nl T n sz el)) id=_;rw[GB,bj rfl]
 have mS:∀ x,L.own id x->¬jv B L' x:=by
  rintro x hx (h|⟨i,h1,h2⟩)
  .have:=hB x h;have:=(r.hw id x hx).1;omega
  .exact h2 (r.hi i id x h1 hx)
 have hold:iz (jv B L') (j9 L') w (.sl nl n sz el) (L.val id):=by
  obtain⟨f,h1,h2,h3⟩:=r.hb id _ abx;rcases h1 with⟨h0,rfl⟩|⟨b,c,cur,h0,hg,o0,nE,ny,lk,jZ⟩
  .rw [h0];exact .sl nl 0 sz el none 0 f (bp _) aF (λ_=>rfl) (λi j hi=>absurd hi (bC i)) (λi j hi=>absurd hi (bC i)) (λi j hi=>absurd hi (bC i)) (λi j hi=>absurd hi (bC i))
  .have qB:=(h2 b).2 (by rw[h0];rfl);rw[h0];refine .sl nl n sz el _ c f o0 (by unfold maxLen at nE;omega) (λh=>by cases h) (λi j hi hj=>⟨(lk i j hi hj).2,λhn=>jZ hn _ (dI (lk i j hi hj).1)⟩) (λi j hi hj=>(h3 i j hi hj).2)
    (λi j hi hj=>⟨b,0,rfl,mS b qB,(r.hw id b qB).2,?_⟩) (λi j hi hj=>iE.kZ (h3 i j hi hj).1)
   rw[bU];simp only[World.cell?,hg];simpa using(lk i j hi hj).1
 refine⟨L',⟨r.hd,r.hs,λt=>?_,λi b' h=>?_,λi=>?_,λi x h=>⟨r.hn i x h.1,h.2⟩,λi x h=>r.hw i x h.1,λi i' x h k=>r.hi i i' x h.1 k.1,r.he,λh i b' k=>?_⟩,hold⟩
 .have k:=r.ht t;rw[PS.FL]at k ⊢;generalize σ.get t=p at k ⊢;show nx _ _ _ _ (if p.pQ.any (Nat.beq id)then .e .any else p) _;cases hp:p.pQ.any (Nat.beq id)with
  |true=>exact .any _
  |false=>
   rw[ajb hp]at k;refine nx.move iE k λi hi uk=>⟨⟨uk,?_⟩,rfl,λ_=>rfl⟩
   rintro rfl;have:=c9.1 hp i hi;simp at this
 .rw [uZ]at h;split at h
  .cases h
  .rename_i hi;exact(r.hb i b' h).later iE rfl (λx=>⟨λq=>q.1,λq=>⟨q,hi⟩⟩) (λ_=>rfl) λ_ _=>rfl
 .rw [uZ];show L.nR i/\i≠id↔_;by_cases hi:i=id
  .subst hi;simp
  .simp only[hi,cR,eF,and_true,bF];exact r.hv i
 .rw [uZ]at k;split at k
  .cases k
  .exact r.hl h i b' k
def Wp{T:List TI}{t:TypeId}{x:TI}(h:mc T t=some x):x ∈ T/\x.id=t:=by
 induction T with
 |nil=>cases h
 |cons y l ih=>
  unfold mc at h;split at h
  .rename_i hb;cases h;exact⟨aJ,mz.1 hb⟩
  .obtain ⟨h1,h2⟩:=ih h;exact⟨by simp[h1],h2⟩
def me.pT{P:Program}{T:List TI}(hT:me P T){t:TypeId}{x:TI}(h:mc T t=some x):P.underlying t=some x.d:=by
 obtain⟨h1,h2⟩:=Wp h;rw[<-h2];exact(hT x h1).1
def me.yw{P:Program}{T:List TI}(hT:me P T){t:TypeId}{x:TI}(h:mc T t=some x):P.info? t=some x.i:=by
 obtain⟨h1,h2⟩:=Wp h;rw[<-h2];exact(hT x h1).2
def xZ{T:List TI}{t:TypeId}{d:TypeDesc}(h:uS T t=some d):∃ x,mc T t=some x/\x.d=d:=by
 unfold uS at h;split at h
 .rename_i x hx;exact⟨x,hx,by simpa using h⟩
 .cases h
section
variable {P:Program} {T:List TI} (hT:me P T) (w:World)
include hT
def vD{t:TypeId}{x:TI}(h:mc T t=some x):(sizeOf t).run P w = .ok x.i.size w:=by
 simp[sizeOf,typeInfo,hT.yw h]
def Mn{t:TypeId}{x:TI}(h:mc T t=some x){z:Value}(hz:x.i.zero=some z):(zeroValue t).run P w = .ok z w:=by
 simp[zeroValue,typeInfo,hT.yw h,hz]
def Hs{t:TypeId}{x:TI}(h:mc T t=some x):(isAgg t).run P w = .ok x.isAgg w:=by
 unfold isAgg TI.isAgg;rw[Sem.run_bind,run_underlying (hT.pT h) w];cases x.d<;>simp
def Vx{t:TypeId}{x:TI}(h:mc T t=some x)(ha:x.isAgg=true)(b o:Nat)(vs:List Value)(hl:vs.length=x.i.size)
 (hc:∀ (j:Nat) (u:Value),vs[j]? = some u->w.cell? ⟨b,o+j,none⟩=some u):(loadVar t ⟨b,o,none⟩).run P w = .ok (.agg vs.toArray) w:=by
 have hr:=run_loadCells_list (P:=P) w ⟨b,o,none⟩ vs (λj v hv=>by rw[Addr.add_lit];exact hc j v hv);rw[hl]at hr;simp[loadVar,Hs hT w h,ha,vD hT w h,hr]
def Mm{t:TypeId}{x:TI}(h:mc T t=some x)(ha:x.isAgg=false)(b o:Nat)(u:Value)(hc:w.cell? ⟨b,o,none⟩=some u):(loadVar t ⟨b,o,none⟩).run P w = .ok u w:=by
 simp[loadVar,Hs hT w h,ha,hc]
def Ht{t:TypeId}{x:TI}(h:mc T t=some x)(b o:Nat)(E:TypeId)(cur:Array Value)(hg:w.heap[b]? = some (.cells cur E (0,0)))(v:Value)(hl:v.cells.toList.length=x.i.size)
 (nO:o+v.cells.toList.length<=cur.size) (h1:∀ u ∈ v.cells.toList,u.oneCell'=true):
 (storeVar t ⟨b,o,none⟩ v).run P w = .ok () (w.setRow b (cur.toList.take o++v.cells.toList++cur.toList.drop (o+v.cells.toList.length)).toArray):=by
 have hr:=run_storeCells_at P b o E v.cells.toList 0 cur w hg (by simpa using nO) h1;simp only[bK]at hr;have oR:v.cells.size=x.i.size:=by simpa using hl
 simp only[storeVar,Sem.run_bind,vD hT w h,Result.andThen,oR,cR,gj,bF,hr,Sem.run_ite,Sem.run_pure]
end
def qP.setRow{L:Lk}{w:World}{id b:Nat}(hb:L.own id b)(iE:∀ x,L.own id x->x<w.heap.size)(cs:Array Value):qP L w id (L.own id) (w.setRow b cs):=
 ⟨λx hx=>⟨.inl hx,by simpa using iE x hx⟩,aJ,λx _ kV=>setRow_other w b x cs (λe=>kV (e▸hb)),rfl,rfl,rfl⟩
def kg(P:Program)(K:World->Prop)(w0:World)(B:Nat->Prop)(σ:PS)(o:Oper)(a:Act)(w:World)(u:kA):Prop:=
 ∃ v w' L',((execOp a.eval o).run P w = .ok (.value v) w'\/((execOp a.eval o).run P w = .ok .skip w'/\v=undef))/\jr w0 B (σ.pW u.f) a w' L'/\nx (jv B L') (j9 L') L' w' u.r v
section
variable {P:Program} {K:World->Prop} {w0:World} {B:Nat->Prop} {σ:PS} {o:Oper} {a:Act} {w:World} {L:Lk} {u:kA}
def kg.pure(r:jr w0 B σ a w L){v:Value}(lB:(execOp a.eval o).run P w = .ok (.value v) w)(hf:u.f = .none)(hp:nx (jv B L) (j9 L) L w u.r v):kg P K w0 B σ o a w u:=
 ⟨v,w,L,.inl lB,by rw[hf];exact r,hp⟩
def jr.read(r:jr w0 B σ a w L){p:PV}{v:Value}(hp:nx (jv B L) (j9 L) L w p v){m:Nat}{l:List E}{is:List Nat}{jM:List Prop}(h:σ.read p m=some (l,is,jM))(ho:∀ q,q ∈ jM->q):
 ∃ b q vs,v = .pointer (some ⟨b,q,none⟩)/\kj (jv B L) (j9 L) w l vs/\vs.length=m/\∀ (j:Nat) (u:Value),vs[j]? = some u->w.cell? ⟨b,q+j,none⟩=some u:=by
 have tab:∀ (b q:Nat) (g:Nat->E) (f:Nat->Value),(∀ j,j<m->w.cell? ⟨b,q+j,none⟩=some (f j)/\iz (jv B L) (j9 L) w (g j) (f j)) ->
  ∃ vs:List Value,kj (jv B L) (j9 L) w ((List.range m).map g) vs/\vs.length=m/\∀ (j:Nat) (u:Value),vs[j]? = some u->w.cell? ⟨b,q+j,none⟩=some u:=by
  intro b q g f hc;refine⟨(List.range m).map f,⟨aJ,λi p x hp hx=>?_⟩,aJ,λj u hu=>?_⟩
  .rw [cD]at hp hx;obtain⟨i1,vW,rfl⟩:=cQ.1 hp;obtain⟨i2,sX,rfl⟩:=cQ.1 hx;rw[vW]at sX;cases sX;obtain⟨iE,rfl⟩:=cg.1 vW;simp at iE;simpa using(hc i iE).2
  .rw [cD]at hu;obtain⟨i1,vW,rfl⟩:=cQ.1 hu;obtain⟨iE,rfl⟩:=cg.1 vW;simp at iE;simpa using(hc j iE).1
 cases p with
 |box id off=>
  simp only[PS.read]at h;split at h
  .rename_i T l0 jS;split at h
   .rename_i hle;simp only[bO,ct]at h;obtain⟨rfl,rfl,rfl⟩:=h;obtain⟨b,vs,h1,h2,h3,h4,h5⟩:=r.hb id _ jS;obtain⟨_,b',k2,rfl⟩:=hp;rw[h1]at k2;cases k2;have Bo:=cU hle;refine⟨b,off,(vs.drop off).take m,rfl,(h4.drop off).take m,by simp[h4.len];omega,λj u hu=>?_⟩;rw[eg]at hu;split at hu
    .rw [eB]at hu;simp only[World.cell?,h3];simpa using hu
    .cases hu
   .cases h
  .cases h
 |pj id sz i j=>
  simp only[PS.read]at h;split at h
  .rename_i nl T n s el jS;split at h
   .rename_i hle;simp only[bO,ct]at h;obtain⟨rfl,rfl,rfl⟩:=h;simp only[bQ]at hle;have e1:=mz.1 hle.1;have e2:=cU hle.2;subst e1;have hi:i<n:=ho _ aJ;obtain⟨f,h1,h2,h3⟩:=r.hb id _ jS;obtain⟨_,b,n',c',k2,rfl⟩:=hp;rcases h1 with⟨h1,_⟩|⟨b',c,cur,h1,hg,o0,nE,ny,lk,jZ⟩
    .rw [k2]at h1;cases h1
    .rw [k2]at h1;cases h1;obtain⟨vs,q1,q2,q3⟩:=tab b (i*s+j) (λq=>el i (j+q)) (λq=>f i (j+q)) (λq hq=>⟨by
      simp only[World.cell?,hg];have:=(lk i (j+q) hi aD).1;rw[<-cP]at this;simpa using this,(h3 i (j+q) hi aD).1⟩)
     exact⟨b,i*s+j,vs,rfl,q1,q2,q3⟩
   .cases h
  .cases h
 |e x=>
  cases x with
  |jN k el=>
   simp only[PS.read]at h;split at h
   .rename_i hle;simp only[bO,ct]at h;obtain⟨rfl,rfl,rfl⟩:=h;have Bo:=cU hle;cases hp with
    |jN _ _ b q f hb iE hl cell kk=>
     obtain⟨vs,q1,q2,q3⟩:=tab b q el f (λj hj=>⟨cell j aD,kk j aD⟩);exact⟨b,q,vs,rfl,q1,q2,q3⟩
   .cases h
  |_=>cases h
 |_=>cases h
def EJ{ti:TI}{l:List E}(h:xS ti=some l):∃ z,ti.i.zero=some z/\∀ (bs br:Nat->Prop) (w:World),kj bs br w l z.cells.toList/\∀ u ∈ z.cells.toList,u.oneCell'=true:=by
 unfold xS at h;split at h
 .rename_i z hz;exact⟨z,hz,λbs br w=>(iz.v (bs:=bs) (br:=br) (w:=w) z).cells h⟩
 .cases h
def jr.SR(r:jr w0 B σ a w L)(id:Nat)(T:TypeId)(l:List E)(v:Value)(mh:σ.bo id=none)(hv:kj (jv B L) (j9 L) w l v.cells.toList)(h1:∀ u ∈ v.cells.toList,u.oneCell'=true)
 (jZ:(!σ.nl||l.all E.mX)=true):
 ∃ L',jr w0 B (σ.pW (.new id (.cells T l))) a (w.alloc (.cells v.cells T)) L'/\nx (jv B L') (j9 L') L' (w.alloc (.cells v.cells T)) (.box id 0) (.pointer (some ⟨w.heap.size,0,none⟩)):=by
 have hb:Below w.heap.size w (w.alloc (.cells v.cells T)):=(Below.refl _ _).alloc (bp _) _;have Qt:∀ x,¬L.own id x:=λx hx=>by have:=(r.hv id).1 (r.hn id x hx);rw[mh]at this;simp at this
 have ht:qP L w id (λx=>x=w.heap.size) (w.alloc (.cells v.cells T)):=⟨λx hx=>⟨.inr aD,aR⟩,hb.size,λx hx _=>hb.block x hx,rfl,rfl,rfl⟩
 have hl:=ht.later (.pointer (some ⟨w.heap.size,0,none⟩)) (λ_=>undef);refine⟨_,r.new id (.cells T l) (λx=>x=w.heap.size) (.pointer (some ⟨w.heap.size,0,none⟩)) (λ_=>undef) _ mh (λx hx=>by subst hx;simp) hb
  ⟨w.heap.size,v.cells.toList,Lk.oG,λx=>Lk.rJ x,by rw[Array.toArray_toList];exact heap_alloc_new w _,hv.mono λ_ _=>hl.kZ,h1⟩ jZ,Lk.yX,w.heap.size,Lk.oG,rfl⟩
def Ag{d:Option Tmp}{b:Bx}{rr:Nat->PV}{jM:List Prop}(h:vt σ d b rr jM=some u):∃ id,d=some id/\σ.bo id=none/\(!σ.nl||b.nl)=true/\u={ r:=rr id,f:=.new id b,jM:=jM }:=by
 unfold vt at h;split at h
 .rename_i id;split at h
  .rename_i mh;split at h
   .rename_i hc;cases h;exact⟨id,rfl,mh,hc,rfl⟩
   .cases h
  .cases h
 .cases h
end
def EH{k:IntKind}{z:Int}(h:ko k z):k.wrap z=z:=by
 cases k<;>simp only[ko]at h<;>simp only[IntKind.wrap,IntKind.bits,IntKind.signed]<;>simp<;>(try split)<;>omega
def agU{k:IntKind}{x y:Int}(h:ko k x)(hy:0<y):ko k (x.tdiv y):=by
 by_cases h0:0<=x
 .have h1:0<=x/y:=Int.ediv_nonneg h0 aD ;have h2:x/y<=x:=Int.ediv_le_self y h0;rw[akm h0];cases k<;>simp only[ko]at h ⊢ <;> omega
 .obtain ⟨z,rfl⟩:∃ z,x = -z:=⟨-x,aD⟩
  have h0:0<=z:= aD ;have h1:0<=z/y:=Int.ediv_nonneg h0 aD;have h2:z/y<=z:=Int.ediv_le_self y h0;rw[Int.neg_tdiv,akm h0];cases k<;>simp only[ko]at h ⊢ <;> omega
def ZP{P:Program}{op:BinOp}{k k':IntKind}{x y:Int}{v:Value}{jM:List Prop}(h:Ju op k x y=some (v,jM))(ho:∀ q,q ∈ jM->q)
 (hk:Vz op k k'=true) (t:TypeId) (w:World):(binOp op t (.int k x) (.int k' y)).run P w = .ok v w:=by
 cases op<;>simp only[Ju,bO,ct,reduceCtorEq]at h<;>(obtain⟨rfl,rfl⟩:=h)<;>(try (have F6:=cK hk;subst F6))
 case add=>
  rw[binOp_add];by_cases FM:k = .u32
  .subst FM;simp[Op.intArith,IN]
  .have e:IN k x y=x+y:=by cases k<;>first|rfl|exact absurd rfl FM
   have e2:IM k x y=[ko k (x+y)]:=by cases k<;>first|rfl|exact absurd rfl FM
   rw[e];simp[Op.intArith,EH (ho (ko k (x+y)) (by rw[e2];simp))]
 case sub=>rw[binOp_sub];simp[Op.intArith,EH (ho (ko k (x-y)) aJ)]
 case mul=>rw[binOp_mul];simp[Op.intArith,EH (ho (ko k (x*y)) aJ)]
 case quo=>
  have h1:=ho (0<y) aJ;have h2:=ho (ko k x) aJ;rw[binOp_quo];have hy:¬y=0:= aD ;simp[Op.intDiv,hy,EH (agU h2 h1)]
 case rem=>
  have h1:=ho (0<y) aJ;rw[binOp_rem];have hy:¬y=0:= aD ;simp[Op.intDiv,hy]
 case and=>rw[binOp_and,intBits_and];rfl
 case or=>rw[binOp_or,intBits_or];rfl
 case shl=>
  have h1:=ho (0<=y/\y<=k.bits) aJ;rw[binOp_shl,shift_shl k k' x y h1.1 h1.2];rfl
 case shr=>
  have h1:=ho (0<=y/\y<=k.bits) aJ;rw[binOp_shr,shift_shr k k' x y h1.1 h1.2];rfl
 case eql=>rw[binOp_eql];rfl
 case neq=>rw[binOp_neq];rfl
 case lss=>rw[binOp_lss];rfl
 case leq=>rw[binOp_leq];rfl
 case gtr=>rw[binOp_gtr];rfl
 case geq=>rw[binOp_geq];rfl
section
variable {P:Program} {K:World->Prop} {T:List TI} {O:pn} {w0:World} {B:Nat->Prop} {σ:PS} {o:Oper} {a:Act} {w:World} {L:Lk} {u:kA}
def aa8{x:Operand}(im:o.op = .move x)(r:jr w0 B σ a w L)(h:jy P K T O σ o=some u):kg P K w0 B σ o a w u:=by
 simp only[jy,im]at h;cases h;exact kg.pure r (by simp only[execOp,im];rfl) rfl (r.op x)
def aaP{x:Operand}(im:o.op = .assign x)(r:jr w0 B σ a w L)(h:jy P K T O σ o=some u):kg P K w0 B σ o a w u:=by
 simp only[jy,im]at h;cases h;exact kg.pure r (by simp only[execOp,im];rfl) rfl (r.op x)
def aba{c x y:Operand}(im:o.op = .pick c x y)(r:jr w0 B σ a w L)(h:jy P K T O σ o=some u):kg P K w0 B σ o a w u:=by
 simp only[jy,im]at h;have hc:=r.op c;split at h
 .rename_i hv;rw[hv]at hc;have hc:=iz.kE hc;cases h;exact kg.pure r (by simp[execOp,im,hc,asBool]) rfl (r.op x)
 .rename_i hv;rw[hv]at hc;have hc:=iz.kE hc;cases h;exact kg.pure r (by simp[execOp,im,hc,asBool]) rfl (r.op y)
 .cases h
def aa9{x:Operand}(im:o.op = .nilCheck x)(r:jr w0 B σ a w L)(h:jy P K T O σ o=some u):kg P K w0 B σ o a w u:=by
 simp only[jy,im]at h;have hc:=r.op x;split at h
 .rename_i hv;rw[hv]at hc;cases h;obtain⟨k1,b,k2,k3⟩:=hc;exact kg.pure r (v:=a.eval x) (by simp[execOp,im,k3]) rfl ⟨k1,b,k2,k3⟩
 .rename_i hv;rw[hv]at hc;cases h;generalize hq:a.eval x=q at hc;refine kg.pure r (v:=q) ?_ rfl hc;cases hc;simp only[execOp,im,hq];rfl
 .rename_i hv;rw[hv]at hc;cases h;refine kg.pure r (v:=a.eval x) ?_ rfl hc;obtain⟨vs,e,_⟩:=iz.Px hc;simp only[execOp,im,e];rfl
 .rename_i hv;rw[hv]at hc;cases h;refine kg.pure r (v:=a.eval x) ?_ rfl hc;obtain⟨vs,e,_⟩:=hc;simp only[execOp,im,e];rfl
 .cases h
def aaQ(hT:me P T){op:BinOp}{t yt:TypeId}{x y:Operand}(im:o.op = .binOp op t x y yt)(r:jr w0 B σ a w L)(h:jy P K T O σ o=some u)(ho:∀ q,q ∈ u.jM->q):kg P K w0 B σ o a w u:=by
 simp only[jy,im]at h;have hx:=r.op x;have hy:=r.op y;split at h
 .rename_i k z k' z' th zV;rw[th]at hx;rw[zV]at hy;have hx:=iz.kE hx;have hy:=iz.kE hy;split at h
  .rename_i hk;obtain⟨rr,hr,rfl⟩:=cQ.1 h;have lB:=ZP (P:=P) (k':=k') hr ho hk t w;refine kg.pure r (v:=rr.1) ?_ rfl (.v _);simp only[execOp,im,hx,hy,Sem.run_bind,eqGuard_at_int,Sem.run_pure,Result.andThen_ok,lB]
  .cases h
 .rename_i z z' th zV;rw[th]at hx;rw[zV]at hy;have hx:=iz.kE hx;have hy:=iz.kE hy;split at h
  .rename_i hd;obtain⟨ti,h1,h2⟩:=xZ hd;have hu:P.underlying t=some .bool:=by rw[hT.pT h1,h2]
   split at h
   .cases h;refine kg.pure r (v:=.bool (z==z')) ?_ rfl (.v _);simp only[execOp,im,hx,hy,Sem.run_bind,eqGuard_at_bool,Sem.run_pure,Result.andThen_ok,run_eql_bool w t z z' hu]
   .cases h;refine kg.pure r (v:=.bool (!(z==z'))) ?_ rfl (.v _);simp only[execOp,im,hx,hy,Sem.run_bind,eqGuard_at_bool,Sem.run_pure,Result.andThen_ok];have:(binOp .neq t (.bool z) (.bool z')).run P w = .ok (.bool (!(z==z'))) w:=by
     simp only[binOp,Sem.run_bind,run_equal_bool w t z z' hu,Result.andThen_ok,Sem.run_pure]
    rw[this];rfl
   .cases h
  .cases h
 .rename_i nl n sz el th zV;rw[th]at hx;rw[zV]at hy;have hy:=iz.kE hy;have hx:iz (jv B L) (j9 L) w (.sl nl n sz el) (a.eval x):=hx;split at h
  .rename_i e hd;obtain⟨ti,h1,h2⟩:=xZ hd;have hu:P.underlying t=some (.slice e):=by rw[hT.pT h1,h2]
   have key:∀ A c,0<n->a.eval x = .slice A n c->iz (jv B L) (j9 L) w (.sl nl n sz el) (.slice A n c)->A.isNone=false:=by
    intro A c hn e1 hr;cases A with
    |some ad=>rfl
    |none=>
     cases hr with
     |sl _ _ _ _ _ _ f hc hm h0=>have:=h0 rfl;omega
   generalize hv:a.eval x=vx at hx;cases hx with
   |sl _ _ _ _ A c f hc hm h0 hl hr cell k=>
    have tc:iz (jv B L) (j9 L) w (.sl nl n sz el) (.slice A n c):=.sl nl n sz el A c f hc hm h0 hl hr cell k;split at h
    .cases h;have hn:0<n:=ho _ aJ;refine kg.pure r (v:=.bool false) ?_ rfl (.v _);simp only[execOp,im,hv,hy,Sem.run_bind,eqGuard_at_slice,Sem.run_pure,Result.andThen_ok,Lib.run_eql_slice_nil w t e A n c 0 0 hu,key A c hn hv tc]
    .cases h;have hn:0<n:=ho _ aJ;refine kg.pure r (v:=.bool true) ?_ rfl (.v _);simp only[execOp,im,hv,hy,Sem.run_bind,eqGuard_at_slice,Sem.run_pure,Result.andThen_ok,run_neq_slice_nil_any w t e A n c 0 0 hu,key A c hn hv tc,eC]
    .cases h
  .cases h
 .rename_i xe ye th zV;rw[th]at hx;rw[zV]at hy;split at h
  .rename_i v hv;cases h;obtain⟨h1,h2⟩:=ho _ (List.mem_singleton.2 rfl) _ _ w _ _ x y hx hy;refine kg.pure r (v:=v) ?_ rfl (.v _);simp only[execOp,im,Sem.run_bind,h1,Result.andThen_ok,h2,Sem.run_pure]
  .cases h
 .cases h
def abd{op:UnOp}{t:TypeId}{x:Operand}(im:o.op = .unOp op t x)(r:jr w0 B σ a w L)(h:jy P K T O σ o=some u)(ho:∀ q,q ∈ u.jM->q):kg P K w0 B σ o a w u:=by
 simp only[jy,im]at h;have hx:=r.op x;split at h
 .rename_i z hv;rw[hv]at hx;have hx:=iz.kE hx;cases h;exact kg.pure r (v:=.bool (!z)) (by simp[execOp,im,hx,Op.unary]) rfl (.v _)
 .rename_i k z hv;rw[hv]at hx;have hx:=iz.kE hx;cases h;have:=EH (ho (ko k (0-z)) aJ);refine kg.pure r (v:=.int k (0-z)) ?_ rfl (.v _);simp only[execOp,im,hx,Op.unary,Op.intArith,this];rfl
 .cases h
def aaU(hT:me P T){src dst:TypeId}{x:Operand}(im:o.op = .convert src dst x)(r:jr w0 B σ a w L)(h:jy P K T O σ o=some u):kg P K w0 B σ o a w u:=by
 simp only[jy,im]at h;have hx:=r.op x;split at h
 .rename_i k ts k' z hd hs hv;rw[hv]at hx;have hx:=iz.kE hx;obtain⟨td,h1,h2⟩:=xZ hd;have hu:P.underlying dst=some (.int k):=by rw[hT.pT h1,h2]
  have hk:P.intKind dst=k:=by simp[Program.intKind,hu]
  have lB:=run_convert_int (P:=P) w src dst k' z (by rw[hT.pT hs];rfl) (by rw[hk];exact hu);rw[hk]at lB;cases h;exact kg.pure r (v:=.int k (k.wrap z)) (by simp only[execOp,im,hx,Sem.run_bind,lB];rfl) rfl (.v _)
 .cases h
def aaV{x:Operand}{i:Nat}(im:o.op = .extract x i)(r:jr w0 B σ a w L)(h:jy P K T O σ o=some u):kg P K w0 B σ o a w u:=by
 simp only[jy,im]at h;have hx:=r.op x;split at h
 .rename_i l hv;rw[hv]at hx;obtain⟨vs,e,hr⟩:=iz.Wn hx;split at h
  .rename_i y hy;cases h;have iE:i<vs.length:=by rw[hr.len];exact(cg.1 hy).1
   have BE:=bt iE;refine kg.pure r (v:=vs[i]) ?_ rfl (hr.kZ i y _ hy BE);simp only[execOp,im,e,Instr.extract,fZ,BE];rfl
  .cases h
 .cases h
def Sx{bs:Nat->Prop}{z:Int}{e:E}:∀ {l:List (Int×FuncId×List FuncId)} {es:List MapEntry} (i:Nat),y7 bs w l es->wq l z=some e->(∀ b,j9 L b->bs b) ->
 ∃ j v,Instr.findNow (.int .i64) (.int .i64 z) es i=some (some (j,v))/\iz bs (j9 L) w e v
 | [],_,_,_,h,_=>by cases h
 |_::_,[],_,k,_,_=>k.elim
 |x::l,y::es,i,⟨⟨k1,vs,k2,k3,k4⟩,k⟩,h,hm=>by
  unfold wq at h;have e0:Instr.sameNow (.int .i64) (.int .i64 z) y.key=some (z==x.1):=by rw[k1];rfl
  by_cases hz:x.1=z
  .rw [bj hz]at h;cases h;have e1:(z==x.1)=true:=by simp[hz]
   refine⟨i,y.val,?_,?_⟩
   .rw [Instr.findNow,e0,e1]
   .rw [k2];refine .fn _ _ vs (by simpa using k3) λj p v hp hv=>?_
    rw[cD]at hp;obtain⟨g,hg,rfl⟩:=cQ.1 hp;obtain⟨b,rfl,q2,q3,q4⟩:=k4 j g v hg hv;have hc:∀ q,q<1->w.cell? ⟨b,0+q,none⟩=some (.func (.func g) #[] #[]):=λq hq=>by
     obtain rfl:q=0:= aD ;exact q4
    exact .jN 1 _ b 0 (λ_=>.func (.func g) #[] #[]) (λh=>q2 (hm b h)) q3 (λ_ _=>rfl) hc λ_ _=>.fn g [] [] rfl (λi p x h=>by simp at h)
  .rw [bh hz]at h;have e1:(z==x.1)=false:=by simp;exact λe=>hz e.symm
   obtain⟨j,v,q1,q2⟩:=Sx (i+1) k h hm;exact⟨j,v,by rw[Instr.findNow,e0,e1];exact q1,q2⟩
def Yh{k:TypeId}(hk:P.underlying k=some (.int .i64))(e:Bool)(n:Nat)(z:Int):(Instr.checkKey e (n+1) k (.int .i64 z)).run P w = .ok () w:=by
 unfold Instr.checkKey;simp only[Sem.run_bind,run_underlying hk,Result.andThen];rfl
def aa2(hT:me P T){t:TypeId}{x i:Operand}{ok:Bool}(im:o.op = .lookup t x i ok)(r:jr w0 B σ a w L)(h:jy P K T O σ o=some u)(ho:∀ q,q ∈ u.jM->q):kg P K w0 B σ o a w u:=by
 cases ok with
 |true=>simp[jy,im]at h
 |false=>
 simp only[jy,im]at h;have hx:=r.op x;have hi:=r.op i;split at h
 .rename_i l z k e0 hv hw hd;obtain⟨ti,h1,h2⟩:=xZ hd;have hu:P.underlying t=some (.map k e0):=by rw[hT.pT h1,h2]
  rw[hv]at hx;rw[hw]at hi;have hi:=iz.kE hi;split at h
  .rename_i e rn hg;obtain⟨tk,h3,h4⟩:=xZ rn;have hk:P.underlying k=some (.int .i64):=by rw[hT.pT h3,h4]
   cases h;have zI:wq l z=some e:=ho _ aJ;generalize hq:a.eval x=q at hx;cases hx with
   |mp _ b clk es hb iE hh kf=>
    obtain⟨j,v,q1,q2⟩:=Sx (w:=w) (L:=L) 0 kf zI λb h=>.inr h
    refine kg.pure r (v:=v) ?_ rfl q2;have mT:(getObj b).run P w = .ok (.map es clk) w:=by simp[getObj,Sem.run,hh]
    have hck:=Yh (P:=P) (w:=w) hk es.isEmpty 9999 z;have hfk:(Instr.findKey k (.int .i64 z) es.toList).run P w = .ok (some (j,v)) w:=by unfold Instr.findKey;simp[run_underlying hk,Result.andThen,q1]
    have hl:(Instr.lookup t (.map (some b)) (.int .i64 z) false).run P w = .ok v w:=by
     unfold Instr.lookup;simp[run_underlying hu,mT,hck,hfk,Result.andThen]
    simp only[execOp,im,hq,hi,Sem.run_bind,hl,Result.andThen_ok,Sem.run_pure]
  .cases h
 .cases h
def aaW(hT:me P T){t:TypeId}{x:Operand}{f:Nat}(im:o.op = .field t x f)(r:jr w0 B σ a w L)(h:jy P K T O σ o=some u):kg P K w0 B σ o a w u:=by
 simp only[jy,im]at h;have hx:=r.op x;split at h
 .rename_i l fs hv hd;obtain⟨ti,h1,h2⟩:=xZ hd;have hu:P.underlying t=some (.struct fs):=by rw[hT.pT h1,h2]
  rw[hv]at hx;obtain⟨vs,e,hr⟩:=iz.AX hx;split at h
  .rename_i fd Kg;split at h
   .rename_i ft Kj;split at h
    .cases h
    .rename_i hag;split at h
     .rename_i y hy;cases h;have iE:fd.offset<vs.length:=by rw[hr.len];exact(cg.1 hy).1
      have BE:=bt iE;refine kg.pure r (v:=vs[fd.offset]) ?_ rfl (hr.kZ fd.offset y _ hy BE);simp only[execOp,im,e,Instr.field,asAgg,Sem.run_bind,Sem.run_pure,Result.andThen_ok,run_underlying hu,Kg,part,Hs hT w Kj,hag,fZ,BE];rfl
     .cases h
   .cases h
  .cases h
 .cases h
def X5{ps:List PV}{l:List CV}{vs:List Value}(h:wR ps=some l)(hlen:vs.length=ps.length)(hr:∀ (i:Nat) (p:PV) (x:Value),ps[i]? = some p->vs[i]? = some x->nx (jv B L) (j9 L) L w p x):
 vs.length=l.length/\∀ (i:Nat) (c:CV) (x:Value),l[i]? = some c->vs[i]? = some x->wP (jv B L) (j9 L) L w c x:=by
 induction ps generalizing l vs with
 |nil=>cases h;exact⟨hlen,λi c x hc=>by simp at hc⟩
 |cons p ps ih=>
  cases vs with
  |nil=>simp at hlen
  |cons y vs=>
   have step:∀ (c0:CV) (l':List CV),wR ps=some l'->wP (jv B L) (j9 L) L w c0 y->l=c0::l' ->
    (y::vs).length=l.length/\∀ (i:Nat) (c:CV) (x:Value),l[i]? = some c->(y::vs)[i]? = some x->wP (jv B L) (j9 L) L w c x:=by
    intro c0 l' oR n5 hl;obtain⟨i1,i2⟩:=ih oR (by simpa using hlen) (λi p x hp hx=>hr (i+1) p x (by simpa using hp) (by simpa using hx));subst hl;refine⟨by simp[i1],λi c x hc hx=>?_⟩;cases i with
    |zero=>simp at hc hx;subst hc hx;exact n5
    |succ i=>simp at hc hx;exact i2 i c x hc hx
   have h0:=hr 0 p y rfl rfl;cases p with
   |e x=>
    simp only[wR]at h;obtain⟨l',oR,rfl⟩:=cQ.1 h;exact step (.e x) l' oR h0 rfl
   |box id off=>
    cases off with
    |zero=>
     simp only[wR]at h;obtain⟨l',oR,rfl⟩:=cQ.1 h;exact step (.box id) l' oR h0 rfl
    |succ=>simp[wR]at h
   |_=>simp[wR]at h
def aa3{fn:Fn}{first cap:Array Operand}(im:o.op = .makeFunc fn first cap)(r:jr w0 B σ a w L)(h:jy P K T O σ o=some u):kg P K w0 B σ o a w u:=by
 cases fn with
 |func f=>
  simp only[jy,im]at h;split at h
  .rename_i abD;have hf:first = #[]:=by simpa using abD
   subst hf;split at h
   .rename_i l hl;cases h;have hc:=X5 (B:=B) (L:=L) (w:=w) (vs:=cap.toList.map a.eval) hl aJ (λi p x hp hx=>by
     rw[cD]at hp hx;obtain⟨q,hq,rfl⟩:=cQ.1 hp;rw[hq]at hx;simp at hx;subst hx;exact r.op q)
    refine kg.pure r (v:=.func (.func f) #[] (cap.toList.map a.eval).toArray) ?_ rfl ⟨cap.toList.map a.eval,rfl,hc.1,hc.2⟩;have e1:cap.map a.eval=(cap.toList.map a.eval).toArray:=by apply dt;simp
    have e2:(#[]:Array Operand).map a.eval = #[]:= aJ ;simp only[execOp,im,Instr.makeFunc,e1,e2,Sem.run_bind,Sem.run_pure,Result.andThen_ok]
   .cases h
  .cases h
 |_=>simp[jy,im]at h
def aaY(hT:me P T){t:TypeId}{x i:Operand}(im:o.op = .index t x i)(r:jr w0 B σ a w L)(h:jy P K T O σ o=some u)(ho:∀ q,q ∈ u.jM->q):kg P K w0 B σ o a w u:=by
 simp only[jy,im]at h;have hx:=r.op x;have hi:=r.op i;split at h
 .rename_i l k z hv hw;rw[hv]at hx;rw[hw]at hi;have ei:=iz.kE hi;obtain⟨vs,e,hr⟩:=iz.AX hx;split at h
  .rename_i tt qD;split at h
   .rename_i n e' hd;have hu:P.underlying t=some (.array n e'):=by rw[hT.pT qD,hd]
    split at h
    .rename_i te oV;split at h
     .rename_i hc;simp only[bQ,mz]at hc;cases h;obtain⟨xq,sB⟩:=ho (0<=z/\z<n) aJ;refine kg.pure r (v:=.agg ((vs.drop (z.toNat*te.i.size)).take te.i.size).toArray) ?_ rfl ((hr.drop _).take _).agg;simp only[execOp,im,e,ei,Instr.index,asIntOf,Sem.run_bind,Sem.run_pure,Result.andThen_ok,run_underlying hu,xq,sB,and_self,bI,vD hT w oV,part,Hs hT w oV,hc.1];simp
     .cases h
    .cases h
   .cases h
  .cases h
 .cases h
def aaX(hT:me P T){t:TypeId}{x:Operand}{f:Nat}(im:o.op = .fieldAddr t x f)(r:jr w0 B σ a w L)(h:jy P K T O σ o=some u):kg P K w0 B σ o a w u:=by
 simp only[jy,im]at h;have hx:=r.op x;split at h
 .rename_i fs hd;obtain⟨ti,h1,h2⟩:=xZ hd;have hu:P.underlying t=some (.struct fs):=by rw[hT.pT h1,h2]
  split at h
  .rename_i fd Kg;split at h
   .rename_i ft Kj;split at h
    .cases h
    .rename_i kV;have abN:¬ft.i.size=0:=λe=>kV (mz.2 e)
     have lB:∀ b off,a.eval x = .pointer (some ⟨b,off,none⟩)->(execOp a.eval o).run P w = .ok (.value (.pointer (some ⟨b,off+fd.offset,none⟩))) w:=by
      intro b off e;simp only[execOp,im,e,Instr.fieldAt,Instr.sureAddr,fieldPlace,Sem.run_bind,run_underlying hu,Result.andThen_ok,Kg,Sem.run_pure,vD hT w Kj,abN,bF,Addr.add_lit]
     split at h
     .rename_i id off hv;rw[hv]at hx;obtain⟨k1,b,k2,k3⟩:=hx;cases h;exact kg.pure r (lB b off k3) rfl ⟨k1,b,k2,rfl⟩
     .rename_i id sz i j hv;rw[hv]at hx;obtain⟨k1,b,n,c,k2,k3⟩:=hx;cases h;exact kg.pure r (lB b _ k3) rfl ⟨k1,b,n,c,k2,by rw[cP]⟩
     .rename_i m el hv;rw[hv]at hx;split at h
      .rename_i hle;have Bo:=cU hle;cases h;generalize hq:a.eval x=q at hx;cases hx with
       |jN _ _ b off g hb iE hl cell kk=>
        refine kg.pure r (lB b off hq) rfl (.jN _ _ b _ (λj=>g (fd.offset+j)) hb iE (λj hj=>hl _ aD) (λj hj=>?_) (λj hj=>kk _ aD));have:=cell (fd.offset+j) aD;rwa[<-cP]at this
      .cases h
     .cases h
   .cases h
  .cases h
 .cases h
end
section
variable {P:Program} {K:World->Prop} {T:List TI} {O:pn} {w0:World} {B:Nat->Prop} {σ:PS} {o:Oper} {a:Act} {w:World} {L:Lk} {u:kA}
def ac1(hT:me P T){t:TypeId}{x:Operand}{ti:TI}(oA:mc T t=some ti)(im:o.op = .load t x)(r:jr w0 B σ a w L)(h:DK ti (σ.read (σ.op x) ti.i.size)=some u)(ho:∀ q,q ∈ u.jM->q):kg P K w0 B σ o a w u:=by
 cases hr:σ.read (σ.op x) ti.i.size with
 |none=>rw[hr]at h;cases h
 |some y=>
  obtain⟨l,is,jM⟩:=y;rw[hr]at h;simp only[DK]at h;by_cases ha:ti.isAgg=true
  .rw [bj ha]at h;cases h;obtain⟨b,q,vs,e,h1,h2,h3⟩:=r.read (r.op x) hr ho;refine kg.pure r (v:=.agg vs.toArray) ?_ rfl h1.agg;simp only[execOp,im,e,Instr.loadAt,Instr.sureAddr,Sem.run_bind,Sem.run_pure,Result.andThen_ok,Vx hT w oA ha b q vs h2 h3]
  .rw [bh ha]at h;have Bg:ti.isAgg=false:=by simpa using ha
   split at h
   .rename_i p;cases h;obtain⟨b,q,vs,e,h1,h2,h3⟩:=r.read (r.op x) hr ho;obtain⟨y,ys,rfl,hy,BG⟩:=h1.lV;refine kg.pure r (v:=y) ?_ rfl hy;have hc:=h3 0 y rfl;simp only[execOp,im,e,Instr.loadAt,Instr.sureAddr,Sem.run_bind,Sem.run_pure,Result.andThen_ok,Mm hT w oA Bg b q y (by simpa using hc)]
   .cases h
def aa1(hT:me P T){t:TypeId}{x:Operand}(im:o.op = .load t x)(r:jr w0 B σ a w L)(h:jy P K T O σ o=some u)(ho:∀ q,q ∈ u.jM->q):kg P K w0 B σ o a w u:=by
 simp only[jy,im,Fy]at h;split at h
 .rename_i ti oA;split at h
  .rename_i id i n oU;by_cases ha:ti.isAgg=true
   .rw [bj ha]at h;cases h
   .rw [bh ha]at h;have Bg:ti.isAgg=false:=by simpa using ha
    cases h;have hx:=r.op x;cases hp:σ.op x with
    |pj id' sz i' j=>
     rw[hp]at oU hx;simp only[AJ]at oU;split at oU
     .rename_i nl T1 T0 n' sz' len el jS;split at oU
      .rename_i hc;simp only[bO,ct]at oU;obtain⟨rfl,rfl,rfl⟩:=oU;simp only[bQ]at hc;have e1:=mz.1 hc.1;have e2:=mz.1 hc.2;subst e1 e2;have hi:i'<n':=ho _ aJ;obtain⟨b,c,cur,f,h1,h2,h3,h4,h5,h6,h7,h8,h9,sU,uf⟩:=r.hb id' _ jS;obtain⟨k1,b',n2,c2,k2,k3⟩:=hx;rw[h1]at k2;cases k2;refine kg.pure r (v:=L.jm id' i') ?_ rfl ⟨k1,rfl⟩;have lk:w.cell? ⟨b,i'*1+0,none⟩=some (L.jm id' i'):=by
        simp only[World.cell?,h2];simpa using h6 i' hi aJ 
       simp only[execOp,im,k3,Instr.loadAt,Instr.sureAddr,Sem.run_bind,Sem.run_pure,Result.andThen_ok,Mm hT w oA Bg b _ _ lk]
      .cases oU
     .cases oU
    |_=>rw[hp]at oU;cases oU
  .exact ac1 hT oA im r h ho
 .cases h
def To{bs br:Nat->Prop}{l m:List E}{vs us:List Value}(h:kj bs br w l vs)(k:kj bs br w m us)(off:Nat):kj bs br w (yM l off m) (vs.take off++us++vs.drop (off+us.length)):=by
 unfold yM;rw[k.len];exact((h.take off).app k).app (h.drop _)
def aeG{q:E->Bool}{l m:List E}(h:l.all q=true)(k:m.all q=true)(off:Nat):(yM l off m).all q=true:=by
 unfold yM;rw[List.all_append,List.all_append,k];have h1:(l.take off).all q=true:=bS.2 λx hx=>bS.1 h x (ev hx)
 have h2:(l.drop (off+m.length)).all q=true:=bS.2 λx hx=>bS.1 h x (eN hx)
 rw[h1,h2];rfl
def abc(hT:me P T){t:TypeId}{x y:Operand}(im:o.op = .store t x y)(r:jr w0 B σ a w L)(h:jy P K T O σ o=some u)(ho:∀ q,q ∈ u.jM->q):kg P K w0 B σ o a w u:=by
 simp only[jy,im,FB]at h;have hx:=r.op x;have hy:=r.op y;split at h
 .rename_i ti oA;split at h
  .
   rename_i id off e qY Dg;rw[qY]at hx;rw[Dg]at hy;split at h
   .rename_i T1 l m jS hm;split at h
    .rename_i hc;cases h;simp only[bQ]at hc;have c1:=mz.1 hc.1.1;have c2:=cU hc.1.2;obtain⟨b,vs,h1,h2,h3,h4,h5⟩:=r.hb id _ jS;obtain⟨k1,b',k2,k3⟩:=hx;rw[h1]at k2;cases k2;obtain⟨q1,q2⟩:=hy.cells hm;have ht:=qP.setRow (L:=L) ((h2 b).2 rfl) (λx hx=>(r.hw id x hx).2) (vs.take off++(a.eval y).cells.toList++vs.drop (off+(a.eval y).cells.toList.length)).toArray;have hl:=ht.later (L.val id) (L.jm id);refine⟨undef,_,_,.inr ⟨?_,rfl⟩,r.tG id (.cells T1 (yM l off m)) _ k1 ht ⟨b,_,by rw[Lk.oG];exact h1,λx=>(Lk.rJ x).trans (h2 x),setRow_heap w b _ _ T1 _ h3,(To h4 q1 off).mono λ_ _=>hl.kZ,?_⟩ ?_,.any _⟩
     .have hr:=Ht hT w oA b off T1 vs.toArray h3 (a.eval y) (by rw[q1.len,c1]) (by rw[q1.len,fH,h4.len];exact c2) q2;simp only[execOp,im,k3,Instr.storeAt,Instr.sureAddr,Sem.run_bind,Sem.run_pure,Result.andThen_ok,hr]
     .intro v hv;simp only[dN]at hv;rcases hv with(hv|hv)|hv
      .exact h5 v (ev hv)
      .exact q2 v hv
      .exact h5 v (eN hv)
     .intro hn;have:=hc.2;rw[hn]at this;exact aeG (r.hl hn id _ jS) (by simpa using this) off
    .cases h
   .cases h
  .
   rename_i id sz i j e qY Dg;rw[qY]at hx;rw[Dg]at hy;split at h
   .rename_i nl T1 n s el m jS hm;split at h
    .rename_i hc;cases h;simp only[bQ]at hc;have c1:=mz.1 hc.1.1.1.1;have c2:=mz.1 hc.1.1.1.2;have c3:=cU hc.1.1.2;subst c2;have hi:i<n:=ho _ aJ;obtain⟨f,h1,h2,h3⟩:=r.hb id _ jS;obtain⟨k1,b',n',c',k2,k3⟩:=hx;rcases h1 with⟨h1,_⟩|⟨b,c,cur,h1,hg,o0,nE,ny,lk,jZ⟩
     .rw [k2]at h1;cases h1
     .rw [k2]at h1;cases h1;obtain⟨q1,q2⟩:=hy.cells hm;have nW:L.own id b':=(h2 b').2 (by rw[k2];rfl);have ajr:i*s+s<=cur.size:=by
       rw[ny];have:=bL s (aD:i+1<=c');rwa[bT,bX]at this
      have nO:i*s+j+(a.eval y).cells.toList.length<=cur.size:=by rw[q1.len];omega
      have ht:=qP.setRow (L:=L) nW (λx hx=>(r.hw id x hx).2) (cur.toList.take (i*s+j)++(a.eval y).cells.toList++cur.toList.drop (i*s+j+(a.eval y).cells.toList.length)).toArray;have hl:=ht.later (L.val id) (L.jm id);refine⟨undef,_,_,.inr ⟨?_,rfl⟩,r.tG id _ _ k1 ht ⟨λi' j'=>if i'=i/\j<=j'/\j'<j+m.length then(a.eval y).cells.toList.getD (j'-j) undef else f i' j',?_,λx=>?_,?_⟩ ?_,.any _⟩
      .have hr:=Ht hT w oA b' (i*s+j) T1 cur hg (a.eval y) (by rw[q1.len,c1]) nO q2;simp only[execOp,im,k3,Instr.storeAt,Instr.sureAddr,Sem.run_bind,Sem.run_pure,Result.andThen_ok,hr]
      .rw [Lk.oG];refine .inr ⟨b',c',_,k2,setRow_heap w b' _ _ T1 _ hg,o0,nE,?_,?_,?_⟩
       .simp only[fH,cv,cj,eE,dH];have abE:=nO;simp only[dH]at abE;rw[df aD];omega
       .intro i' j' lL oI;obtain⟨o1,o2⟩:=lk i' j' lL oI;have hlen:i'*s+j'<cur.size:=by
         rw[ny];have:=bL s (aD:i'+1<=c');rw[bT,bX]at this;omega
        have pk:i'≠i->i'*s+j'<i*s\/i*s+s<=i'*s+j':=by
         intro kV;rcases Nat.lt_or_gt_of_ne kV with iE|iE
         .left;have:=bL s (show i'+1<=i from iE);rw[bT,bX]at this;omega
         .right;have:=bL s (show i+1<=i' from iE);rw[bT,bX]at this;omega
        simp only[fZ];rw[List.append_assoc,fE,cj,dH,df aD];by_cases lZ:i'=i/\j<=j'/\j'<j+m.length
        .obtain ⟨rfl,p1,p2⟩:=lZ;rw[bh aD,en (by rw[q1.len];omega)];have e1:i'*s+j'-(i'*s+j)=j'-j:= aD ;have iE:j'-j<(a.eval y).cells.toList.length:=by rw[q1.len];omega
         rw[bj ⟨rfl,p1,p2⟩,e1,bn,bt iE];exact⟨rfl,q2 _ (ch iE)⟩
        .rw [bh lZ];refine⟨?_,o2⟩;by_cases kJ:i'*s+j'<i*s+j
         .rw [bj kJ,eg,bj kJ];simpa using o1
         .rw [bh kJ,eD,eB]
          .have:i*s+j+(a.eval y).cells.toList.length+(i'*s+j'-(i*s+j)-(a.eval y).cells.toList.length)=i'*s+j':=by
            rw[q1.len];by_cases C9:i'=i
            .subst C9;omega
            .have:=pk C9;omega
           rw[this];simpa using o1
          .rw [q1.len];by_cases C9:i'=i
           .subst C9;omega
           .have:=pk C9;omega
       .intro hn v hv;simp only[gi,dN]at hv;rcases hv with(hv|hv)|hv
        .exact jZ hn v (by have:=ev hv;simpa using this)
        .obtain ⟨q,hq⟩:=dr.1 hv;have uo:q<m.length:=by rw[<-q1.len];exact(cg.1 hq).1
         have hmn:m.all E.mX=true:=by have:=hc.1.2;rw[hn]at this;simpa using this
         exact(q1.kZ q _ v (bt uo) hq).mX (bS.1 hmn _ (ch uo))
        .exact jZ hn v (by have:=eN hv;simpa using this)
      .rw [Lk.oG];exact(Lk.rJ x).trans (h2 x)
      .intro i' j' lL oI;refine(λ(q:iz _ _ _ _ _/\_)=>⟨hl.kZ q.1,q.2⟩) (?_:_/\_);dsimp only;by_cases lZ:i'=i/\j<=j'/\j'<j+m.length
       .rw [bj lZ,bj lZ];have Gb:j'-j<m.length:= aD ;have xo:j'-j<(a.eval y).cells.toList.length:=by rw[q1.len];omega
        rw[bn,bt Gb,bn,bt xo];exact⟨q1.kZ _ _ _ (bt Gb) (bt xo),bS.1 hc.2 _ (ch Gb)⟩
       .rw [bh lZ,bh lZ];exact h3 i' j' lL oI
      .intro hn;have:=r.hl hn id _ jS;exact this
    .cases h
   .cases h
  .
   rename_i id i id' k qY Dg;rw[qY]at hx;rw[Dg]at hy;split at h
   .rename_i nl T1 T0 n sz len el k' jS;split at h
    .rename_i hc;cases h;simp only[bQ]at hc;have c1:=mz.1 hc.1;have c2:=mz.1 hc.2;subst c1;have e1:i=k':=ho _ aJ;have e2:k=k':=ho _ aJ;have hk:k'<n:=ho _ aJ;subst e1 e2;obtain⟨b,c,cur,f,h1,h2,h3,h4,h5,h6,h7,h8,h9,sU,uf⟩:=r.hb id _ jS;obtain⟨k1,b',n',c',k2,k3⟩:=hx;obtain⟨_,Rg⟩:=hy;rw[h1]at k2;cases k2;have vj:(L.jm id k).oneCell'=true/\rA (L.jm id k)=false/\(L.jm id k).cells = #[L.jm id k]:=by
      rcases(h8 k hk).1 with⟨e,_⟩|⟨_,_,_,e,_⟩<;>rw[e]<;>exact⟨rfl,rfl,rfl⟩
     have nW:L.own id b:=(h9 b).2 (.inl rfl);have ht:=qP.setRow (L:=L) nW (λx hx=>(r.hw id x hx).2) (cur.toList.take (k*1+0)++(a.eval y).cells.toList++cur.toList.drop (k*1+0+(a.eval y).cells.toList.length)).toArray;have hl:=ht.later (L.val id) (L.jm id);have vU:(a.eval y).cells.toList=[L.jm id k]:=by rw[Rg,vj.2.2]
     have Qq:(cur.toList.take (k*1+0)++(a.eval y).cells.toList++cur.toList.drop (k*1+0+(a.eval y).cells.toList.length)).toArray=cur.setIfInBounds k (L.jm id k):=by
      rw[vU];apply dt;simp only[bW,bK,fW,akn];rw[List.set_eq_take_append_cons_drop,bj (by simpa using(aD:k<cur.size))];simp
     rw[Qq]at ht hl;have F7:∀ x,x≠b->(w.setRow b (cur.setIfInBounds k (L.jm id k))).heap[x]? = w.heap[x]?:=λx hx=>setRow_other w b x _ hx
     refine⟨undef,_,_,.inr ⟨?_,rfl⟩,r.tG id _ _ k1 ht ⟨b,c,cur.setIfInBounds k (L.jm id k),f,by rw[Lk.oG];exact h1,setRow_heap w b _ _ T1 _ h2,h3,h4,by simpa using h5,?_,?_,?_,?_,?_,?_⟩ ?_,.any _⟩
     .have hr:=Ht hT w oA b (k*1+0) T1 cur h2 (a.eval y) (by rw[vU];simpa using c2.symm) (by rw[vU];simp;omega) (by rw[vU];simpa using vj.1);rw[Qq]at hr;simp only[execOp,im,k3,Instr.storeAt,Instr.sureAddr,Sem.run_bind,Sem.run_pure,Result.andThen_ok,hr]
     .intro q hq _;rw[Lk.qI];by_cases sy:q=k
      .subst sy;have:q<cur.size:= aD ;simp[this]
      .rw [ajU (λe=>sy e.symm)];exact h6 q hq (by simpa using λe=>sy e.symm)
     .intro v hv;rcases Array.mem_or_eq_of_mem_setIfInBounds hv with hv|hv
      .exact h7 v hv
      .subst hv;exact⟨vj.1,vj.2.1⟩
     .intro q hq;obtain⟨p1,p2⟩:=h8 q hq;rw[Lk.qI];exact⟨p1.block λx hx=>F7 x λe=>uf q hq (e▸hx),λi j hi hj=>⟨hl.kZ (p2 i j hi hj).1,(p2 i j hi hj).2⟩⟩
     .intro x;rw[Lk.rJ];refine(h9 x).trans ?_;simp only[Lk.qI]
     .simp only[Lk.qI];exact sU
     .simp only[Lk.qI];exact uf
     .intro hn;have:=r.hl hn id _ jS;exact this
    .cases h
   .cases h
  .cases h
 .cases h
def aaN(hT:me P T){t:TypeId}(im:o.op = .alloc t)(r:jr w0 B σ a w L)(h:jy P K T O σ o=some u):kg P K w0 B σ o a w u:=by
 simp only[jy,im]at h;split at h
 .rename_i ti oA;split at h
  .rename_i z hz;obtain⟨id,hd,mh,jZ,rfl⟩:=Ag h;obtain⟨zv,wa,qZ⟩:=EJ hz;obtain⟨q1,q2⟩:=qZ (jv B L) (j9 L) w;obtain⟨L',r',hp⟩:=r.SR id t z zv mh q1 q2 (by simpa[Bx.nl]using jZ);refine⟨_,_,L',.inl ?_,r',hp⟩;simp only[execOp,im,Instr.alloc,Sem.run_bind,Mn hT w oA wa,Result.andThen_ok,newVar,newRow,run_newObj_alloc,Sem.run_pure]
  .cases h
 .cases h
def aaR{t:TypeId}{x:Operand}(im:o.op = .box t x)(r:jr w0 B σ a w L)(h:jy P K T O σ o=some u):kg P K w0 B σ o a w u:=by
 simp only[jy,im]at h;have hx:=r.op x;split at h
 .rename_i e hv;rw[hv]at hx;split at h
  .rename_i l hl;obtain⟨id,hd,mh,jZ,rfl⟩:=Ag h;obtain⟨q1,q2⟩:=hx.cells hl;obtain⟨L',r',hp⟩:=r.SR id t l (a.eval x) mh q1 q2 (by simpa[Bx.nl]using jZ);refine⟨_,_,L',.inl ?_,r',hp⟩;simp only[execOp,im,Instr.box,Sem.run_bind,Result.andThen_ok,newVar,newRow,run_newObj_alloc,Sem.run_pure]
  .cases h
 .cases h
end
def aas(us:List Value):∀ (off k:Nat) (cs:Array Value),off+k+us.length<=cs.size ->
 (us.zipIdx k).foldl (λcs (c:Value×Nat)=>cs.setIfInBounds (off+c.2) c.1) cs=(cs.toList.take (off+k)++us++cs.toList.drop (off+k+us.length)).toArray:=by
 induction us with
 |nil=>intro off k cs h;simp
 |cons x us ih=>
  intro off k cs h;simp only[List.zipIdx_cons,ff];rw[ih off (k+1) _ (by simp at h ⊢;omega)];apply dt;simp only[cN]at h;obtain⟨A,y,D,ny,hA⟩:∃ A y D,cs.toList=A++y::D/\A.length=off+k:=by
   have iE:off+k<cs.toList.length:= aR ;refine⟨cs.toList.take (off+k),cs.toList[off+k],cs.toList.drop (off+k+1),?_,by rw[cj];omega⟩;rw[<-eR iE,ajP]
  simp only[akn,cN,ny,<-hA];rw[List.set_append_right _ _ (bp _),cV,ajY,
   show off+(k+1)+us.length=A.length+(us.length+1)by omega,(aD:off+(k+1)=A.length+1),
   List.take_length_add_append,ako,List.take_left,ako]
  simp
def aal(place:Nat->Option (Nat×Nat))(cs:Array Value)(i:Nat)(v:Value)(rest:List (Nat×Value))(off:Nat)(hp:place i=some (off,v.cells.toList.length))(nO:off+v.cells.toList.length<=cs.size):
 Instr.fill place cs ((i,v)::rest)=Instr.fill place (cs.toList.take off++v.cells.toList++cs.toList.drop (off+v.cells.toList.length)).toArray rest:=by
 have h1:¬(v.cells.size≠v.cells.toList.length\/off+v.cells.size>cs.size):=by simp at nO ⊢;omega
 have hf:=aas v.cells.toList off 0 cs (by simpa using nO);simp only[bK]at hf;have h2:(v.cells.zipIdx.foldl (λcs (c,j)=>cs.setIfInBounds (off+j) c) cs)=(cs.toList.take off++v.cells.toList++cs.toList.drop (off+v.cells.toList.length)).toArray:=by
  rw[<-hf,<-Array.foldl_toList,Array.toList_zipIdx]
 rw[Instr.fill,hp];simp only;rw[bh (by simpa using h1),h2]
section
variable {P:Program} {K:World->Prop} {T:List TI} {O:pn} {w0:World} {B:Nat->Prop} {σ:PS} {o:Oper} {a:Act} {w:World} {L:Lk} {u:kA}
def JI(r:jr w0 B σ a w L){place:Nat->Option (Nat×Nat)}{ps:List (Nat×Operand)}{l m:List E}{cs:Array Value}(h:qV σ place l ps=some m)
 (hr:kj (jv B L) (j9 L) w l cs.toList) (h1:∀ u ∈ cs,u.oneCell'=true):
 ∃ cs',Instr.fill place cs (ps.map λx=>(x.1,a.eval x.2))=some cs'/\kj (jv B L) (j9 L) w m cs'.toList/\(∀ u ∈ cs',u.oneCell'=true):=by
 induction ps generalizing l cs with
 |nil=>
  simp only[qV]at h;cases h;exact⟨cs,rfl,hr,h1⟩
 |cons p ps ih=>
  obtain⟨i,x⟩:=p;simp only[qV]at h;have hx:=r.op x;split at h
  .rename_i off size e hp hv;rw[hv]at hx;split at h
   .rename_i q hq;split at h
    .rename_i hc;simp only[bQ]at hc;have c1:=mz.1 hc.1;have c2:=cU hc.2;obtain⟨q1,q2⟩:=hx.cells hq;have hlen:(a.eval x).cells.toList.length=size:=by rw[q1.len,c1]
     have J9:=hr.len;rw[e9,aal place cs i (a.eval x) _ off (by rw[hlen];exact hp) (by rw[q1.len];simp at J9;omega)];refine ih h (To hr q1 off) λv hv=>?_
     simp only[gi,dN]at hv;rcases hv with(hv|hv)|hv
     .exact h1 v (by have:=ev hv;simpa using this)
     .exact q2 v hv
     .exact h1 v (by have:=eN hv;simpa using this)
    .cases h
   .cases h
  .cases h
def Tk(ps:Array (Nat×Operand))(a:Act):(ps.map λ(x:Nat×Operand)=>(x.1,a.eval x.2)).toList=ps.toList.map λx=>(x.1,a.eval x.2):= aJ 
def aex{P:Program}(hT:me P T){fs:List Field}{pl:List (Nat×Nat)}(h:Eb T fs=some pl):fs.mapM (λf=>(P.info? f.type).map λi=>(f.offset,i.size))=some pl:=by
 induction fs generalizing pl with
 |nil=>simp only[Eb]at h;cases h;rfl
 |cons f fs ih=>
  simp only[Eb]at h;split at h
  .rename_i ti l h1 h2;cases h;simp[fg,hT.yw h1,ih h2]
  .cases h
def aaS(hT:me P T){t:TypeId}{ps:Array (Nat×Operand)}(im:o.op = .build t ps)(r:jr w0 B σ a w L)(h:jy P K T O σ o=some u):kg P K w0 B σ o a w u:=by
 simp only[jy,im]at h;have main:∀ (l:List E) (cs:Array Value),P.built t (ps.toList.map λx=>(x.1,a.eval x.2))=some cs->kj (jv B L) (j9 L) w l cs.toList->u={ r:=.e (.agg l) }->kg P K w0 B σ o a w u:=by
  intro l cs hb hr hu;subst hu;have lB:=run_build (P:=P) w t (ps.map λ(x:Nat×Operand)=>(x.1,a.eval x.2)) cs (by rw[Tk];exact hb);refine kg.pure r (v:=.agg cs) ?_ rfl (by have:=hr.agg;rwa[Array.toArray_toList]at this);simp only[execOp,im,Sem.run_bind,lB,Result.andThen_ok,Sem.run_pure]
 split at h
 .rename_i ti oA;split at h
  .rename_i z hz;obtain⟨zv,wa,qZ⟩:=EJ hz;obtain⟨q1,q2⟩:=qZ (jv B L) (j9 L) w;split at h
   .rename_i fs hd;split at h
    .rename_i pl zP;obtain⟨l,hl,rfl⟩:=cQ.1 h;obtain⟨cs,p1,p2,_⟩:=JI r hl q1 (λu hu=>q2 u (by simpa using hu));refine main l cs ?_ p2 rfl;unfold Program.built;rw[hT.yw oA,hT.pT oA,hd];simp only[wa,aex hT zP];have:(λx:Nat=>pl.toArray[x]?)=λx=>pl[x]?:=by funext x;simp
     rw[this];exact p1
    .cases h
   .rename_i n e hd;split at h
    .rename_i te oV;obtain⟨l,hl,rfl⟩:=cQ.1 h;obtain⟨cs,p1,p2,_⟩:=JI r hl q1 (λu hu=>q2 u (by simpa using hu));refine main l cs ?_ p2 rfl;unfold Program.built;rw[hT.yw oA,hT.pT oA,hd];simp only[wa,hT.yw oV];exact p1
    .cases h
   .cases h
  .cases h
 .cases h
def Va{α:Type}(n:Nat)(l:List α):(kZ n l).length=n*l.length:=by
 induction n with
 |zero=>simp[kZ]
 |succ n ih=>simp only[kZ,cv,ih,bT,bX];omega
def agF{α:Type}(n:Nat)(l:List α)(q:Nat)(h:q<n*l.length):(kZ n l)[q]? = l[q%l.length]?:=by
 induction n generalizing q with
 |zero=>simp at h
 |succ n ih=>
  simp only[kZ];rw[bT,bX]at h;by_cases hq:q<l.length
  .rw [en hq,bJ hq]
  .rw [eD aD,ih _ aD];congr 1;exact(Nat.mod_eq_sub_mod aD).symm
def agG{bs br:Nat->Prop}{z:List E}{zs:Array Value}(h:kj bs br w z zs.toList)(n:Nat):kj bs br w (kZ n z) ((Array.range (n*zs.size)).map (zs[· % zs.size]!)).toList:=by
 have hl:=h.len;simp only[dH]at hl;refine⟨by simp[Va,hl],λi p x hp hx=>?_⟩;have hi:i<n*zs.size:=by
  have:=(cg.1 hx).1;simpa using this
 have hz:0<zs.size:=by
  rcases ek zs.size with h0|h0
  .rw [h0]at hi;simp at hi
  .exact h0
 rw[agF _ _ _ (by rw[<-hl];exact hi),<-hl]at hp;have iE:=bA i hz;simp[hi]at hx;subst hx;rw[fe zs _ iE];exact h.kZ _ p _ hp (by simp[iE])
def VQ(hB:∀ b,B b->b<w0.heap.size)(r:jr w0 B σ a w L)(e:TypeId)(n sz:Nat)(l:List E)(cs:Array Value)(nl:Bool)(hr:kj (jv B L) (j9 L) w l cs.toList)(h1:∀ u ∈ cs,u.oneCell'=true)(hlen:cs.size=n*sz)
 (qX:n<=9223372036854775807) (jZ:nl=true->l.all E.mX=true) (vi:l.all (E.nr 2)=true):
 jr w0 B σ a (w.alloc (.cells cs e)) L/\iz (jv B L) (j9 L) (w.alloc (.cells cs e)) (.sl nl n sz λi j=>l.getD (i*sz+j) (.v (.bool false))) (.slice (some ⟨w.heap.size,0,none⟩) n n):=by
 have hb:Below w.heap.size w (w.alloc (.cells cs e)):=(Below.refl _ _).alloc (bp _) _;have hl:se L w L (w.alloc (.cells cs e)):=⟨hb.size,λ_ _ h=>h,λx hx _=>hb.block x hx⟩
 refine⟨r.later hb,?_⟩;have lZ:∀ i j,i<n->j<sz->i*sz+j<cs.size:=by
  intro i j hi hj;rw[hlen];have:=bL sz (show i+1<=n from hi);rw[bT,bX]at this;omega
 have hll:=hr.len;simp only[dH]at hll;refine .sl nl n sz _ _ n (λi j=>cs.getD (i*sz+j) undef) (bp _) qX (λh=>by cases h) (λi j hi hj=>?_) (λi j hi hj=>?_) (λi j hi hj=>?_) (λi j hi hj=>?_)
 .have hq:=lZ i j hi hj;have e1:cs.getD (i*sz+j) undef=cs[i*sz+j]:=by simp[hq]
  rw[e1];refine⟨h1 _ (fY hq),λrW=>?_⟩;have s8:i*sz+j<l.length:= aD ;exact(hr.kZ (i*sz+j) _ _ (bt s8) (by simp[hq])).mX (bS.1 (jZ rW) _ (ch s8))
 .have hq:=lZ i j hi hj;have s8:i*sz+j<l.length:= aD ;rw[bn,bt s8];exact bS.1 vi _ (ch s8)
 .have hq:=lZ i j hi hj;refine⟨w.heap.size,0,rfl,λmS=>?_,aJ,?_⟩
  .rcases mS with hx|⟨id,hx⟩
   .have:=hB _ hx;have:=r.he.size;omega
   .have:=(r.hw id _ hx).2;omega
  .rw [bU,World.cell?_alloc_new];simp[hq]
 .have hq:=lZ i j hi hj;have s8:i*sz+j<l.length:= aD ;have e1:cs.getD (i*sz+j) undef=cs[i*sz+j]:=by simp[hq]
  rw[e1,bn,bt s8];exact hl.kZ (hr.kZ (i*sz+j) _ _ (bt s8) (by simp[hq]))
def acN{l:List E}{vs:List Value}{bs br:Nat->Prop}{w:World}(h:kj bs br w l vs)(hl:l.all E.mX=true):∀ v ∈ vs,rA v=false:=by
 intro v hv;obtain⟨i,hi⟩:=dr.1 hv;obtain⟨vW,_⟩:=cg.1 hi;have Da:i<l.length:=by have:=h.len;omega
 exact(h.kZ i _ v (bt Da) hi).mX (bS.1 hl _ (ch Da))
def aaT(hT:me P T)(hB:∀ b,B b->b<w0.heap.size){t:TypeId}{n:Nat}{ps:Array (Nat×Operand)}(im:o.op = .buildSlice t n ps)(r:jr w0 B σ a w L)(h:jy P K T O σ o=some u):kg P K w0 B σ o a w u:=by
 simp only[jy,im]at h;split at h
 .rename_i tt qD;split at h
  .rename_i e hd;split at h
   .rename_i te oV;split at h
    .rename_i z hz;split at h
     .rename_i hc;simp only[bQ]at hc;have c1:=mz.1 hc.1.1;have c2:=cU hc.2;obtain⟨zv,wa,qZ⟩:=EJ hz;obtain⟨q1,q2⟩:=qZ (jv B L) (j9 L) w;have hu:P.underlying t=some (.slice e):=by rw[hT.pT qD,hd]
      have yu:zv.cells.size=te.i.size:=by have:=q1.len;simp only[dH]at this;omega
      obtain⟨l,hl,h⟩:=gl.1 h;obtain⟨cs,p1,p2,p3⟩:=JI r hl (agG q1 n) (λv hv=>by
       simp only[fI,fJ]at hv;obtain⟨q,hq,rfl⟩:=hv;have zW:0<zv.cells.size:=by
        rcases ek zv.cells.size with h0|h0
        .rw [h0]at hq;simp at hq
        .exact h0
       rw[fe zv.cells _ (bA q zW)];exact q2 _ aJ)
      have hlen:l.length=n*te.i.size:=by
       have:∀ (ps:List (Nat×Operand)) (l m:List E),qV σ (λi=>some (i*te.i.size,te.i.size)) l ps=some m->m.length=l.length:=by
        intro ps
        induction ps with
        |nil=>intro l m h;simp only[qV]at h;cases h;rfl
        |cons p ps ih=>
         intro l m h;obtain⟨i,x⟩:=p;simp only[qV]at h;split at h
         .split at h
          .split at h
           .rename_i hc;simp only[bQ]at hc;have:=cU hc.2;rw[ih _ _ h];simp[yM];omega
           .cases h
          .cases h
         .cases h
       rw[this _ _ _ hl,Va,c1]
      have ny:cs.size=n*te.i.size:=by have:=p2.len;simp only[dH]at this;omega
      have Qx:Instr.fill (λi=>some (i*te.i.size,te.i.size)) ((Array.range (n*te.i.size)).map (zv.cells[· % zv.cells.size]!)) (ps.map λ(x:Nat×Operand)=>(x.1,a.eval x.2)).toList=some cs:=by
       rw[Tk,<-yu];rw[<-yu]at p1;exact p1
      have lB:(execOp a.eval o).run P w = .ok (.value (.slice (some ⟨w.heap.size,0,none⟩) n n)) (w.alloc (.cells cs e)):=by
       have yk:¬(n*te.i.size>16777216):= aD ;by_cases h0:n*te.i.size=0
       .have e0:∀ g:Nat->Value,(Array.range 0).map g = #[]:=λg=>by simp[Array.range]
        have Qy:=Qx;rw[h0,e0]at Qy;have z24:¬(0>2^24):= aF ;simp only[execOp,im,Instr.buildSlice,Sem.run_bind,run_underlying hu,Result.andThen_ok,vD hT w oV,yk,bF,h0,z24,bI,Sem.run_pure,e0,Qy,newRow,run_newObj_alloc]
       .simp only[execOp,im,Instr.buildSlice,Sem.run_bind,run_underlying hu,Result.andThen_ok,vD hT w oV,yk,bF,h0,Sem.run_pure,Mn hT w oV wa,Qx,newRow,run_newObj_alloc]
      have jO:n<=9223372036854775807:=by
       have:=fG n (cU hc.1.2);omega
      by_cases vi:l.all (E.nr 2)=true
      .simp only[vi,e8,b9,bF]at h;split at h
       .
        obtain⟨id,Qu,mh,jZ,rfl⟩:=Ag h;have hb:Below w.heap.size w (w.alloc (.cells cs e)):=(Below.refl _ _).alloc (bp _) _;have ht:qP L w id (λx=>x=w.heap.size) (w.alloc (.cells cs e)):=⟨λx hx=>⟨.inr aD,aR⟩,hb.size,λx hx _=>hb.block x hx,rfl,rfl,rfl⟩
        have iE:=ht.later (.slice (some ⟨w.heap.size,0,none⟩) n n) (λ_=>undef);have Br:∀ i j,i<n->j<te.i.size->i*te.i.size+j<n*te.i.size:=by
         intro i j hi hj;have:=bL te.i.size (show i+1<=n from hi);rw[bT,bX]at this;omega
        refine⟨_,_,_,.inl lB,r.new id _ (λx=>x=w.heap.size) (.slice (some ⟨w.heap.size,0,none⟩) n n) (λ_=>undef) _ mh (λx hx=>by subst hx;simp) hb
         ⟨λi j=>cs.getD (i*te.i.size+j) undef,.inr ⟨w.heap.size,n,cs,Lk.oG,heap_alloc_new w _,bp _,by unfold maxLen;omega,ny,λi j hi hj=>?_,λhn u hu=>?_⟩,λx=>?_,λi j hi hj=>?_⟩ jZ,Lk.yX,Lk.oG.symm⟩
        .have hq:i*te.i.size+j<cs.size:=by rw[ny];exact Br i j hi hj
         have e1:cs.getD (i*te.i.size+j) undef=cs[i*te.i.size+j]:=by simp[hq]
         show cs[i*te.i.size+j]? = some (cs.getD (i*te.i.size+j) undef)/\(cs.getD (i*te.i.size+j) undef).oneCell'=true;rw[e1];exact⟨by simp[hq],p3 _ aJ⟩
        .exact acN p2 hn u (by simpa using hu)
        .rw [Lk.rJ,Lk.oG];simp only[Value.ownBlock,bO];exact eq_comm
        .have hq:i*te.i.size+j<cs.size:=by rw[ny];exact Br i j hi hj
         have uo:i*te.i.size+j<l.length:=by rw[hlen];exact Br i j hi hj
         have e1:cs.getD (i*te.i.size+j) undef=cs[i*te.i.size+j]:=by simp[hq]
         simp only[bn,bt uo,ajZ,e1];exact⟨iE.kZ (p2.kZ _ _ _ (bt uo) (by simp[hq])),bS.1 vi _ (ch uo)⟩
       split at h
       .rename_i nU;cases h;obtain⟨r',hp⟩:=VQ hB r e n te.i.size l cs true p2 p3 ny jO (λ_=>nU) vi;exact⟨_,_,L,.inl lB,r',hp⟩
       .cases h;obtain⟨r',hp⟩:=VQ hB r e n te.i.size l cs false p2 p3 ny jO (λh=>by cases h) vi;exact⟨_,_,L,.inl lB,r',hp⟩
      .simp [vi]at h
     .cases h
    .cases h
   .cases h
  .cases h
 .cases h
end
def Jp{P:Program}{t e:TypeId}(h:P.underlying t=some (.slice e)):P.elem t=e:=by simp[Program.elem,h]
def Zx{P:Program}{t e:TypeId}{n:Nat}(h:P.underlying t=some (.array n e)):P.elem t=e/\P.arrayLen t=n:=by simp[Program.elem,Program.arrayLen,h]
section
variable {P:Program} {K:World->Prop} {T:List TI} {O:pn} {w0:World} {B:Nat->Prop} {σ:PS} {o:Oper} {a:Act} {w:World} {L:Lk} {u:kA}
def aaZ(hT:me P T){t:TypeId}{x i:Operand}(im:o.op = .indexAddr t x i)(r:jr w0 B σ a w L)(h:jy P K T O σ o=some u)(ho:∀ q,q ∈ u.jM->q):kg P K w0 B σ o a w u:=by
 simp only[jy,im,Fx]at h;have hx:=r.op x;have hi:=r.op i;split at h
 .rename_i k z hpi;rw[hpi]at hi;have hi:=iz.kE hi;split at h
  .rename_i tt qD;split at h
   .
    rename_i e hd;have hu:P.underlying t=some (.slice e):=by rw[hT.pT qD,hd]
    have he:=Jp hu;split at h
    .rename_i te oV;have lB:∀ (ad:Addr) (n c:Nat),a.eval x = .slice (some ad) n c->0<=z->z<n->(execOp a.eval o).run P w = .ok (.value (.pointer (some (ad.add (z.toNat*te.i.size))))) w:=by
      intro ad n c e1 h0 h1;have hr:=run_indexAt_slice (P:=P) w t ad n c k z (by rw[he];exact hu);rw[bj ⟨h0,h1⟩,he,vD hT w oV]at hr;simp only[execOp,im,e1,hi,Sem.run_bind,hr,Result.andThen_ok,Sem.run_pure]
     split at h
     .rename_i nl n sz el qY;rw[qY]at hx;split at h
      .rename_i hs;simp only[bQ]at hs;have uq:=cU hs.2;have hs:=mz.1 hs.1;cases h;have hz:0<=z/\z<n:=ho _ aJ;have Gv:z.toNat<n:= aD ;generalize hq:a.eval x=q at hx;cases hx with
       |sl _ _ _ _ A c f hc hm h0 hl vi cell kk=>
        obtain⟨b,of,e1,hb,iE,_⟩:=cell z.toNat 0 Gv uq;subst e1;refine kg.pure r (lB ⟨b,of,none⟩ n c hq hz.1 hz.2) rfl ?_;rw[Addr.add_lit,hs];refine .jN sz _ b _ (λj=>f z.toNat j) (λhm=>hb (.inr hm)) iE (λj hj=>(hl _ _ Gv hj).1) (λj hj=>?_) (λj hj=>kk _ _ Gv hj);obtain⟨b',of',e2,_,_,w9⟩:=cell z.toNat j Gv hj;cases e2;rwa[<-cP]at w9
      .cases h
     .rename_i id qY;rw[qY]at hx;split at h
      .rename_i nl T1 n sz el jS;split at h
       .rename_i hs;have hs:=mz.1 hs;cases h;have hz:0<=z/\z<n:=ho _ aJ;obtain⟨f,h1,h2,h3⟩:=r.hb id _ jS;obtain⟨k1,k2⟩:=hx;rcases h1 with⟨h1,rW⟩|⟨b,c,cur,h1,hg,o0,nE,ny,lk,jZ⟩
        .omega
        .rw [h1]at k2;refine kg.pure r (lB ⟨b,0,none⟩ n c k2 hz.1 hz.2) rfl ⟨k1,b,n,c,h1,?_⟩;rw[Addr.add_lit,hs,bU,bK]
       .cases h
      .rename_i nl T1 T0 n sz len el pend jS;split at h
       .rename_i hs;have hs:=mz.1 hs;cases h;have hz:0<=z/\z<n:=ho _ aJ;obtain⟨b,c,cur,f,h1,h2,h3,h4,h5,h6,h7,h8,h9,sU,uf⟩:=r.hb id _ jS;obtain⟨k1,k2⟩:=hx;rw[h1]at k2;refine kg.pure r (lB ⟨b,0,none⟩ n c k2 hz.1 hz.2) rfl ⟨k1,b,n,c,h1,?_⟩;rw[Addr.add_lit,hs,bU,bK]
       .cases h
      .cases h
     .cases h
    .cases h
   .
    rename_i n e hd;have hu:P.underlying t=some (.array n e):=by rw[hT.pT qD,hd]
    obtain⟨he,hn⟩:=Zx hu;split at h
    .rename_i te oV;have lB:∀ (ad:Addr),a.eval x = .pointer (some ad)->0<=z->z<n->(execOp a.eval o).run P w = .ok (.value (.pointer (some (ad.add (z.toNat*te.i.size))))) w:=by
      intro ad e1 h0 h1;have hr:=run_indexAt_array (P:=P) w t ad k z (by rw[he,hn];exact hu);rw[hn,bj ⟨h0,h1⟩,he,vD hT w oV]at hr;simp only[execOp,im,e1,hi,Sem.run_bind,hr,Result.andThen_ok,Sem.run_pure]
     split at h
     .rename_i id off qY;rw[qY]at hx;cases h;have hz:0<=z/\z<n:=ho _ aJ;obtain⟨k1,b,k2,k3⟩:=hx;refine kg.pure r (lB _ k3 hz.1 hz.2) rfl ⟨k1,b,k2,?_⟩;rw[Addr.add_lit]
     .rename_i m el qY;rw[qY]at hx;split at h
      .rename_i hs;have hs:=mz.1 hs;cases h;have hz:0<=z/\z<n:=ho _ aJ;have lZ:∀ j,j<te.i.size->z.toNat*te.i.size+j<m:=by
        intro j hj;rw[<-hs];have:=bL te.i.size (aD:z.toNat+1<=n);rw[bT,bX]at this;omega
       generalize hq:a.eval x=q at hx;cases hx with
       |jN _ _ b of f hb iE hl cell kk=>
        refine kg.pure r (lB _ hq hz.1 hz.2) rfl ?_;rw[Addr.add_lit];refine .jN te.i.size _ b _ (λj=>f (z.toNat*te.i.size+j)) hb iE (λj hj=>hl _ (lZ j hj)) (λj hj=>?_) (λj hj=>kk _ (lZ j hj));have:=cell _ (lZ j hj);rwa[<-cP]at this
      .cases h
     .cases h
    .cases h
   .cases h
  .cases h
 .cases h
def abb(hT:me P T){t:TypeId}{x:Operand}{lo hi:Option Operand}(im:o.op = .slice t x lo hi none)(r:jr w0 B σ a w L)(h:jy P K T O σ o=some u)(ho:∀ q,q ∈ u.jM->q):kg P K w0 B σ o a w u:=by
 simp only[jy,im,FA]at h;have hx:=r.op x;split at h
 .rename_i nl n sz el qY;rw[qY]at hx;split at h
  .rename_i tt qD;split at h
   .rename_i e hd;have hu:P.underlying t=some (.slice e):=by rw[hT.pT qD,hd]
    have he:=Jp hu;have BD:P.underlying t=some (.slice (P.elem t)):=by rw[he];exact hu
    split at h
    .rename_i te oV;split at h
     .rename_i hs;have hs:=mz.1 hs;generalize hq:a.eval x=q at hx;cases hx with
      |sl _ _ _ _ A c f hc hm h0 hl vi cell kk=>
       have fin:∀ l h':Nat,l<=h'->h'<=n->iz (jv B L) (j9 L) w (.sl nl (h'-l) sz λi j=>el (l+i) j) (sliced A l h' c te.i.size):=by
        intro l h' hlh hhn;unfold sliced;refine .sl nl (h'-l) sz _ _ (c-l) (λi j=>f (l+i) j) aD aD (λhA=>?_) (λi j hi hj=>hl _ _ aD hj) (λi j hi hj=>vi _ _ aD hj) (λi j hi hj=>?_) (λi j hi hj=>kk _ _ aD hj)
        .split at hA
         .have:=h0 hA;omega
         .have:=h0 (by simpa using hA);omega
        .obtain ⟨b,of,e1,hb,iE,lk⟩:=cell (l+i) j aD hj;subst e1;rw[bh aD];refine⟨b,of+l*te.i.size,by rw[cL,Addr.add_lit],hb,iE,?_⟩;rw[hs];rw[bT]at lk;rw[<-lk];congr 2;omega
       have run:∀ (l h':Nat) (lo' lL:Option Value),lo.map a.eval=lo'->hi.map a.eval=lL->(Instr.slice t (.slice A n c) lo' lL none).run P w = .ok (sliced A l h' c te.i.size) w ->
        (execOp a.eval o).run P w = .ok (.value (sliced A l h' c te.i.size)) w:=by
        intro l h' lo' lL e1 e2 hr;simp only[execOp,im,Sem.run_bind,hq,e1,e2,Option.map_none,run_sliceAt_slice (P:=P) w t _ _ _ _ BD,hr,Result.andThen_ok,Sem.run_pure]
       split at h
       .rename_i kh hh uj xf;cases h;have hb:0<=hh/\hh<=n:=ho _ aJ;cases lo with
        |some _=>simp at uj
        |none=>
         cases hi with
         |none=>simp at xf
         |some hi=>
          simp only[cL,bO]at xf;have hv:=r.op hi;rw[xf]at hv;have hv:=iz.kE hv;have hr:=run_slice_h (P:=P) w t A n c BD kh hh hb.1 aD;rw[he,vD hT w oV]at hr;have hf:=fin 0 hh.toNat (b6 _) aD ;simp only[du,bU]at hf;exact kg.pure r (run 0 hh.toNat none (some (.int kh hh)) rfl (by rw[cL,hv]) hr) rfl hf
       .rename_i kl ll uj xf;cases h;have hb:0<=ll/\ll<=n:=ho _ aJ;cases hi with
        |some _=>simp at xf
        |none=>
         cases lo with
         |none=>simp at uj
         |some lo=>
          simp only[cL,bO]at uj;have hv:=r.op lo;rw[uj]at hv;have hv:=iz.kE hv;have hr:=run_slice_l (P:=P) w t A n c BD kl ll hb.1 hb.2;rw[he,vD hT w oV]at hr;exact kg.pure r (run ll.toNat n (some (.int kl ll)) none (by rw[cL,hv]) rfl hr) rfl (fin ll.toNat n aD (bp _))
       .rename_i kl ll kh hh uj xf;cases h;have hb:0<=ll/\ll<=hh/\hh<=n:=ho _ aJ;cases hi with
        |none=>simp at xf
        |some hi=>
         cases lo with
         |none=>simp at uj
         |some lo=>
          simp only[cL,bO]at uj xf;have hv:=r.op lo;rw[uj]at hv;have hv:=iz.kE hv;have qh:=r.op hi;rw[xf]at qh;have qh:=iz.kE qh;have hr:=run_slice_lh (P:=P) w t A n c BD kl kh ll hh hb.1 hb.2.1 aD;rw[he,vD hT w oV]at hr;exact kg.pure r (run ll.toNat hh.toNat (some (.int kl ll)) (some (.int kh hh)) (by rw[cL,hv]) (by rw[cL,qh]) hr) rfl (fin ll.toNat hh.toNat aD aD)
       .cases h
     .cases h
    .cases h
   .cases h
  .cases h
 .cases h
end
section
variable {P:Program} {K:World->Prop} {T:List TI} {O:pn} {w0:World} {B:Nat->Prop} {σ:PS} {o:Oper} {a:Act} {w:World} {L:Lk} {u:kA}
def Yf{x:Value}{l:List E}(h:(E.v x).cells? = some l):∀ e,e ∈ l->e.nr 2=true:=by
 intro e he;cases x<;>simp only[E.cells?]at h
 case agg cs=>
  split at h
  .cases h;obtain⟨q,_,rfl⟩:=cw.1 he;rfl
  .cases h
 all_goals
  split at h
  .cases h;simp only[List.mem_singleton]at he;subst he;rfl
  .cases h
def ajg{ti:TI}{l:List E}(h:xS ti=some l):∀ e,e ∈ l->e.nr 2=true:=by
 unfold xS at h;split at h
 .exact Yf h
 .cases h
def K2{l:List E}{vs:List Value}{bs br:Nat->Prop}(h:kj bs br w l vs)(hl:l.all E.mX=true):∀ v ∈ vs,rA v=false:=by
 intro v hv;obtain⟨q,hq⟩:=dr.1 hv;have uo:q<l.length:=by rw[<-h.len];exact(cg.1 hq).1
 exact(h.kZ q _ v (bt uo) hq).mX (bS.1 hl _ (ch uo))
def Sf{z:Array Value}{n q:Nat}(hz:0<z.size)(hq:q<n):(madeCells z n)[q]? = some (z[q%z.size]'(bA _ hz)):=by
 unfold madeCells;simp[hq];rw[fe z _ (bA _ hz)]
def Sg{z:Array Value}{n:Nat}(hz:0<z.size){v:Value}(hv:v ∈ madeCells z n):v ∈ z:=by
 unfold madeCells at hv;simp only[fI,fJ]at hv;obtain⟨q,hq,rfl⟩:=hv;rw[fe z _ (bA _ hz)];exact fY _
def aa4(hT:me P T){t:TypeId}{l c:Operand}(im:o.op = .makeSlice t l c)(r:jr w0 B σ a w L)(h:jy P K T O σ o=some u)(ho:∀ q,q ∈ u.jM->q):kg P K w0 B σ o a w u:=by
 simp only[jy,im,Fz]at h;have hl:=r.op l;have hc:=r.op c;split at h
 .rename_i bx jM iN;obtain⟨id,Qu,mh,jZ,rfl⟩:=Ag h;clear h;simp only[Pj]at iN;split at iN
  rotate_left
  .cases iN
  rename_i kl zl kc zc zP hpc;rw[zP]at hl;rw[hpc]at hc;have hl:=iz.kE hl;have hc:=iz.kE hc;split at iN
  .rename_i tt qD;split at iN
   .rename_i e hd;have hu:P.underlying t=some (.slice e):=by rw[hT.pT qD,hd]
    split at iN
    .rename_i te oV;split at iN
     .rename_i z hz;split at iN
      .rename_i xc;simp only[bQ]at xc;have c1:=mz.1 xc.1;have c2:=cU xc.2;obtain⟨zv,wa,qZ⟩:=EJ hz;obtain⟨q1,q2⟩:=qZ (jv B L) (j9 L) w;have yu:zv.cells.size=te.i.size:=by have:=q1.len;simp only[dH]at this;omega
       have zW:0<zv.cells.size:= aD ;have key:∀ (h1:0<=zl/\zl<=zc) (h2:(te.i.bytes:Int)*zc<=281474976710656/\zc<=9223372036854775807),
        (execOp a.eval o).run P w = .ok (.value (.slice (some ⟨w.heap.size,0,none⟩) zl.toNat zc.toNat)) (w.alloc (.cells (madeCells zv.cells (zc.toNat*te.i.size)) e)):=by
        intro h1 h2;have hr:=run_make (P:=P) w t e te.i zv hu (hT.yw oV) wa kl kc zl zc h1.1 h1.2 h2.1 h2.2;simp only[execOp,im,hl,hc,Sem.run_bind,hr,Result.andThen_ok,Sem.run_pure]
       have hb:∀ o':Obj,Below w.heap.size w (w.alloc o'):=λo'=>(Below.refl _ _).alloc (bp _) _
       have lens:zl<=zc->zc<=9223372036854775807->zl.toNat<=zc.toNat/\zc.toNat<=maxLen:=by intro h1 h2;unfold maxLen;omega
       split at iN
       .
        rename_i e0 hd0;split at iN
        .rename_i t0 KF;obtain⟨y,ys,BG,hy,zM⟩:=q1.lV;have hy:=iz.kE hy;have zM:=zM.ph;subst hy zM;have Rj:zv.cells = #[.slice none 0 0]:=by apply dt;rw[BG]
         have lf:te.i.size=1:=by rw[<-yu,Rj];rfl
         cases iN;have h1:0<=zl/\zl<=zc:=ho _ aJ;have h2:(te.i.bytes:Int)*zc<=281474976710656/\zc<=9223372036854775807:=ho _ aJ;have hlen:=lens h1.2 h2.2;have nU:∀ v,v ∈ madeCells zv.cells (zc.toNat*te.i.size)->v = .slice none 0 0:=λv hv=>by
          have:=Sg zW hv;rw[Rj]at this;simpa using this
         refine⟨_,_,_,.inl (key h1 h2),r.new id _ (λx=>x=w.heap.size) (.slice (some ⟨w.heap.size,0,none⟩) zl.toNat zc.toNat) (λ_=>.slice none 0 0) _ mh (λx hx=>by subst hx;simp) (hb _)
          ⟨w.heap.size,zc.toNat,_,λ_ _ _=>undef,Lk.oG,heap_alloc_new w _,hlen.1,hlen.2,by rw[size_madeCells,lf,bW],λk hk _=>?_,λv hv=>?_,λk hk=>?_,λx=>?_,λk k' x hk F6 h1=>?_,λk hk=>?_⟩ jZ,Lk.yX,Lk.oG.symm⟩
         .rw [Lk.qI];have hq:k<zc.toNat*te.i.size:=by rw[lf];omega
          have hg:=Sf zW hq;rw[hg];exact congrArg some (nU _ (dI hg))
         .rw [nU v hv];exact⟨rfl,rfl⟩
         .rw [Lk.qI];exact⟨.inl ⟨rfl,rfl⟩,λi j hi=>absurd hi (bC i)⟩
         .rw [Lk.rJ];simp only[Lk.qI,Value.ownBlock];simp
         .rw [Lk.qI]at h1;simp[Value.ownBlock]at h1
         .rw [Lk.qI];simp[Value.ownBlock]
        .cases iN
       .cases iN;have h1:0<=zl/\zl<=zc:=ho _ aJ;have h2:(te.i.bytes:Int)*zc<=281474976710656/\zc<=9223372036854775807:=ho _ aJ;have hlen:=lens h1.2 h2.2;refine⟨_,_,_,.inl (key h1 h2),r.new id _ (λx=>x=w.heap.size) (.slice (some ⟨w.heap.size,0,none⟩) zl.toNat zc.toNat) (λ_=>undef) _ mh (λx hx=>by subst hx;simp) (hb _)
         ⟨λ_ j=>zv.cells.getD j undef,.inr ⟨w.heap.size,zc.toNat,_,Lk.oG,heap_alloc_new w _,hlen.1,hlen.2,size_madeCells _ _,λi j hi hj=>?_,λhn v hv=>?_⟩,λx=>?_,λi j hi hj=>?_⟩ jZ,Lk.yX,Lk.oG.symm⟩
        .have hq:i*te.i.size+j<zc.toNat*te.i.size:=by
          have:=bL te.i.size (aD:i+1<=zc.toNat);rw[bT,bX]at this;omega
         have Ks:(i*te.i.size+j)%zv.cells.size=j:=by rw[yu,bB,dG,bJ hj]
         have oI:j<zv.cells.size:= aD ;rw[Sf zW hq];simp only[Ks];have e1:zv.cells.getD j undef=zv.cells[j]:=by simp[oI]
         rw[e1];exact⟨rfl,q2 _ aJ⟩
        .exact K2 q1 hn v (by have:=Sg zW hv;simpa using this)
        .rw [Lk.rJ,Lk.oG];simp only[Value.ownBlock,bO];exact eq_comm
        .have oI:j<zv.cells.size:= aD ;have Ko:j<z.length:= aD ;have e1:zv.cells.getD j undef=zv.cells[j]:=by simp[oI]
         simp only[e1];rw[bn,bt Ko];obtain⟨p1,_⟩:=qZ (jv B (L.set id (λx=>x=w.heap.size) (.slice (some ⟨w.heap.size,0,none⟩) zl.toNat zc.toNat) (λ_=>undef))) (j9 (L.set id (λx=>x=w.heap.size) (.slice (some ⟨w.heap.size,0,none⟩) zl.toNat zc.toNat) (λ_=>undef))) (w.alloc (.cells (madeCells zv.cells (zc.toNat*te.i.size)) e));exact⟨p1.kZ j _ _ (bt Ko) (by simp[oI]),ajg hz _ (ch Ko)⟩
      .cases iN
     .cases iN
    .cases iN
   .cases iN
  .cases iN
 .cases h
def aa0(hT:me P T){x:Operand}{t:TypeId}{c:Call}(hc:c={ callee:=.builtin .len,args:=#[x],argTypes:=#[t] })(im:o.op = .call c){e:TypeId}(hd:uS T t=some (.slice e))(r:jr w0 B σ a w L){rr:Value×List Nat}(h:ub (σ.op x) σ=some rr)(hu:u={ r:=.e (.v rr.1),rb:=rr.2 }):kg P K w0 B σ o a w u:=by
 obtain⟨ti,h1,h2⟩:=xZ hd;have Q6:P.underlying t=some (.slice e):=by rw[hT.pT h1,h2]
 have he:=Jp Q6;have hx:=r.op x;have key:∀ (A:Option Addr) (n cp:Nat),a.eval x = .slice A n cp->rr.1 = .int .i64 (n:Int)->kg P K w0 B σ o a w u:=by
  intro A n cp e1 e2;have hr:=run_len_slice (P:=P) w t o.type A n cp (by rw[he];exact Q6);subst hu;refine kg.pure r (v:=.int .i64 (n:Int)) ?_ rfl (by rw[e2];exact .v _);subst hc;have em:(#[x]:Array Operand).map a.eval = #[a.eval x]:= aJ ;simp only[execOp,im,resolve,em,e1,Sem.run_bind,Sem.run_pure,Result.andThen_ok,invoke,builtin,hr];rfl
 cases hp:σ.op x with
 |e y=>
  rw[hp]at h hx;cases y with
  |sl nl n sz el=>
   simp only[ub,bO]at h;generalize hq:a.eval x=q at hx;cases hx with
   |sl _ _ _ _ A c f hc hm h0 hl vi cell kk=>exact key A n c hq (by rw[<-h])
  |v y=>
   have hx:=iz.kE hx;cases y with
   |slice A n cp=>
    simp only[ub,bO]at h;exact key A n cp hx (by rw[<-h])
   |_=>simp[ub]at h
  |_=>simp[ub]at h
 |own id=>
  rw[hp]at h hx;obtain⟨_,k2⟩:=hx;simp only[ub]at h;split at h
  .rename_i nl T1 n sz el jS;simp only[bO]at h;obtain⟨f,q1,_,_⟩:=r.hb id _ jS;rcases q1 with⟨q1,q0⟩|⟨b,c,cur,q1,_⟩
   .rw [q1]at k2;exact key none 0 0 k2 (by rw[<-h,q0])
   .rw [q1]at k2;exact key _ n c k2 (by rw[<-h])
  .rename_i nl T1 T0 n sz len el pend jS;simp only[bO]at h;obtain⟨b,c,cur,f,q1,_⟩:=r.hb id _ jS;rw[q1]at k2;exact key _ n c k2 (by rw[<-h])
  .cases h
 |_=>rw[hp]at h;simp[ub]at h
end
section
variable {P:Program} {K:World->Prop} {T:List TI} {O:pn} {w0:World} {B:Nat->Prop} {σ:PS} {o:Oper} {a:Act} {w:World} {L:Lk} {u:kA}
def pF.nX{v:Value}{T:TypeId}{n sz:Nat}{f:Nat->Nat->Value}{nl nl':Bool}(h:pF w v T n sz f nl)(k:nl'=true->nl=true):pF w v T n sz f nl':=by
 rcases h with h|⟨b,c,cur,h1,h2,h3,h4,h5,h6,h7⟩
 .exact .inl h
 .exact .inr ⟨b,c,cur,h1,h2,h3,h4,h5,h6,λq=>h7 (k q)⟩
def PN(hT:me P T){s x:Operand}{t:TypeId}{c:Call}(hc:c={ callee:=.builtin .append,args:=#[s,x],argTypes:=#[t,t] })(im:o.op = .call c)(r:jr w0 B σ a w L)
 (h:yc T σ o.dst t (σ.op s) (σ.op x)=some u) (ho:∀ q,q ∈ u.jM->q):kg P K w0 B σ o a w u:=by
 have hs:=r.op s;have hx:=r.op x;simp only[yc]at h;split at h
 .rename_i nl2 m sz2 el2 qY;rw[qY]at hx;split at h
  .rename_i tt qD;split at h
   .rename_i e hd;have hu:P.underlying t=some (.slice e):=by rw[hT.pT qD,hd]
    split at h
    .rename_i te oV;split at h
     .rename_i z hz;split at h
      .rename_i xc;simp only[bQ]at xc;have c1:=mz.1 xc.1.1.1;have c2:=cU xc.1.1.2;have c3:=cU xc.1.2;have c4:=mz.1 xc.2;obtain⟨zv,wa,qZ⟩:=EJ hz;obtain⟨q1,q2⟩:=qZ (jv B L) (j9 L) w;have yu:zv.cells.size=sz2:=by have:=q1.len;simp only[dH]at this;omega
       generalize hqx:a.eval x=vx at hx;cases hx with
       |sl _ _ _ _ A cx g hgc hgm C8 QF gnr gcell gk0=>
       have gk:=λi j hi hj=>And.intro (gk0 i j hi hj) (gnr i j hi hj)
       have key:∀ (v:Value) (n:Nat) (f:Nat->Nat->Value) (nl:Bool),a.eval s=v->pF w v e n sz2 f nl->(nl=true->nl2=true/\z.all E.mX=true)->(n+m)*te.i.bytes<=140737488355328 ->
        ∃ v' w',(execOp a.eval o).run P w = .ok (.value v') w'/\MO w v e n sz2 m f g nl v' w':=by
        intro v n f nl hv nW jZ jB;obtain⟨v',w',hr,nN⟩:=ahm P w t o.type e te.i zv sz2 hu (hT.yw oV) wa c1 yu aD c3 (λu hu=>q2 u (by simpa using hu)) v n f nl nW A m cx g
         (λk j hk hj=>by obtain⟨b,of,e1,_,_,qW⟩:=gcell k j hk hj;exact⟨b,of,e1,qW⟩) (λhA=>by have:=C8 hA;omega)
         (λk j hk hj=>⟨(QF k j hk hj).1,λhn=>(QF k j hk hj).2 (jZ hn).1⟩) (λhn u hu=>K2 q1 (jZ hn).2 u (by simpa using hu)) jB
        refine⟨v',w',?_,nN⟩;subst hc;have em:(#[s,x]:Array Operand).map a.eval = #[a.eval s,a.eval x]:= aJ ;simp only[execOp,im,resolve,em,hv,hqx,Sem.run_bind,Sem.run_pure,Result.andThen_ok,invoke,builtin,hr]
       split at h
       .
        rename_i id Df;rw[Df]at hs;split at h
        .rename_i nl T1 n sz el jS;split at h
         .rename_i qW;simp only[bQ]at qW;have d1:=mz.1 qW.1.1;have d2:=mz.1 qW.1.2;subst d1 d2;cases h;have jB:(n+m)*te.i.bytes<=140737488355328:=ho _ aJ;obtain⟨f,p1,p2,p3⟩:=r.hb id _ jS;obtain⟨k1,k2⟩:=hs;have jZ:(nl&&(nl2&&z.all E.mX))=true->nl2=true/\z.all E.mX=true:=λhn=>by simp only[bQ]at hn;exact hn.2
          obtain⟨v',w',lB,nN⟩:=key (L.val id) n f _ k2 (p1.nX λhn=>by simp only[bQ]at hn;exact hn.1) jZ jB;have ht:qP L w id (λy=>v'.ownBlock=some y) w':=by
           refine⟨λy hy=>?_,nN.size,λy hy mh=>nN.oW y hy λe1=>mh ((p2 y).2 e1),nN.os,nN.tape,nN.output⟩;rcases nN.IW y hy with e1|⟨e1,e2⟩
           .have:=(p2 y).2 e1;exact⟨.inl this,bN (r.hw id y this).2 nN.size⟩
           .exact ⟨.inr e1,e2⟩
          have hl:=ht.later v' (L.jm id);have hpt:∀ b,L.val id ≠ .pointer (some b):=λb e1=>by
           rcases p1 with⟨e2,_⟩|⟨_,_,_,e2,_⟩<;>rw[e1]at e2<;>cases e2
          refine⟨v',w',_,.inl lB,r.qx id _ _ v' w' hpt ht ⟨λi j=>if i<n then f i j else g (i-n) j,by rw[Lk.oG];exact nN.own,λy=>by rw[Lk.rJ,Lk.oG],λi j hi hj=>(λ(q:iz _ _ _ _ _/\_)=>⟨hl.kZ q.1,q.2⟩) (?_:_/\_)⟩ (λhn=>?_),Lk.yX,Lk.oG.symm⟩
          .by_cases lZ:i<n
           .simp only[lZ,bI];exact p3 i j lZ hj
           .simp only[lZ,bF];exact gk _ _ aD hj
          .have:=qW.2;rw[hn]at this;simpa[Bx.nl]using this
         .cases h
        .cases h
       .
        rename_i id k Df;rw[Df]at hs;split at h
        .rename_i nl T1 T0 n sz len el jS;split at h
         .rename_i qW;simp only[bQ]at qW;have d1:=mz.1 qW.1.1;have d2:=mz.1 qW.1.2;subst d1 d2;cases h;have hk:k<n:=ho _ aJ;have jB:(len k+m)*te.i.bytes<=140737488355328:=ho _ aJ;obtain⟨b,cp,cur,f,p1,p2,p3,p4,p5,p6,p7,p8,p9,p10,p11⟩:=r.hb id _ jS;obtain⟨k1,k2⟩:=hs;have jZ:nl=true->nl2=true/\z.all E.mX=true:=λhn=>by have:=qW.2;rw[hn]at this;simpa using this
          obtain⟨v',w',lB,nN⟩:=key (L.jm id k) (len k) (f k) nl k2 (p8 k hk).1 jZ jB;have Bh:∀ y,v'.ownBlock=some y->(L.jm id k).ownBlock=some y\/(w.heap.size<=y/\y<w'.heap.size):=nN.IW;have Qn:b<w.heap.size:=(r.hw id b ((p9 b).2 (.inl rfl))).2;have Km:∀ q y,q<n->(L.jm id q).ownBlock=some y->y<w.heap.size:=λq y hq hy=>(r.hw id y ((p9 y).2 (.inr ⟨q,hq,hy⟩))).2
          have ht:qP L w id (λy=>y=b\/∃ q,q<n/\(if q=k then v' else L.jm id q).ownBlock=some y) w':=by
           refine⟨λy hy=>?_,nN.size,λy hy mh=>nN.oW y hy λe1=>mh ((p9 y).2 (.inr ⟨k,hk,e1⟩)),nN.os,nN.tape,nN.output⟩;rcases hy with rfl|⟨q,hq,hy⟩
           .exact ⟨.inl ((p9 y).2 (.inl rfl)),bN Qn nN.size⟩
           .by_cases sy:q=k
            .subst sy;rw[bj rfl]at hy;rcases Bh y hy with e1|⟨e1,e2⟩
             .have:=(p9 y).2 (.inr ⟨q,hq,e1⟩);exact⟨.inl this,bN (r.hw id y this).2 nN.size⟩
             .exact ⟨.inr e1,e2⟩
            .rw [bh sy]at hy;have:=(p9 y).2 (.inr ⟨q,hq,hy⟩);exact⟨.inl this,bN (r.hw id y this).2 nN.size⟩
          have hl:=ht.later (L.val id) (λq=>if q=k then v' else L.jm id q);have F7:∀ y,y<w.heap.size->(L.jm id k).ownBlock≠some y->w'.heap[y]? = w.heap[y]?:=nN.oW;refine⟨v',w',_,.inl lB,r.uU id _ _ (λq=>if q=k then v' else L.jm id q) w' ht
           ⟨b,cp,cur,λq i j=>if q=k then(if i<len q then f q i j else g (i-len q) j)else f q i j,by rw[Lk.oG];exact p1,by rw[F7 b Qn (p11 k hk)];exact p2,p3,p4,p5,λq hq sy=>?_,p7,λq hq=>?_,λy=>?_,λq q' y hq s8 hy yq=>?_,λq hq hy=>?_⟩ (λhn=>?_),Lk.yX,?_⟩
          .have kV:q≠k:=λe1=>sy (by rw[e1])
           rw[Lk.qI,bh kV];exact p6 q hq aJ 
          .rw [Lk.qI];by_cases sy:q=k
           .subst sy;simp only[bI];refine⟨nN.own,λi j hi hj=>(λ(q:iz _ _ _ _ _/\_)=>⟨hl.kZ q.1,q.2⟩) (?_:_/\_)⟩;by_cases lZ:i<len q
            .simp only[lZ,bI];exact(p8 q hq).2 i j lZ hj
            .simp only[lZ,bF];exact gk _ _ aD hj
           .simp only[sy,bF];obtain⟨s1,s2⟩:=p8 q hq;exact⟨s1.block λy hy=>F7 y (Km q y hq hy) λe1=>sy (p10 q k y hq hk hy e1),λi j hi hj=>⟨hl.kZ (s2 i j hi hj).1,(s2 i j hi hj).2⟩⟩
          .rw [Lk.rJ];simp only[Lk.qI]
          .simp only[Lk.qI]at hy yq;by_cases h1:q=k
           .subst h1;by_cases h2:q'=q
            .exact h2.symm
            .rw [bj rfl]at hy;rw[bh h2]at yq;rcases Bh y hy with e1|⟨e1,_⟩
             .exact p10 q q' y hq s8 e1 yq
             .have:=Km q' y s8 yq;omega
           .rw [bh h1]at hy;by_cases h2:q'=k
            .subst h2;rw[bj rfl]at yq;rcases Bh y yq with e1|⟨e1,_⟩
             .exact p10 q q' y hq s8 hy e1
             .have:=Km q y hq hy;omega
            .rw [bh h2]at yq;exact p10 q q' y hq s8 hy yq
          .simp only[Lk.qI]at hy;by_cases h1:q=k
           .subst h1;rw[bj rfl]at hy;rcases Bh b hy with e1|⟨e1,_⟩
            .exact p11 q hq e1
            .omega
           .rw [bh h1]at hy;exact p11 q hq hy
          .have:=r.hl hn id _ jS;exact this
          .rw [Lk.qI,bj rfl]
         .cases h
        .cases h
       .
        rename_i Df;rw[Df]at hs;have hs:=iz.kE hs;obtain⟨id,Qu,mh,Ge,rfl⟩:=Ag h;have jB:m*te.i.bytes<=140737488355328:=ho _ aJ;obtain⟨v',w',lB,nN⟩:=key _ 0 g (nl2&&z.all E.mX) hs (.inl ⟨rfl,rfl⟩) (λhn=>by simpa using hn) (by simpa using jB);have hb:Below w.heap.size w w':=⟨nN.os,nN.tape,nN.output,nN.size,λy hy=>nN.oW y hy (by simp[Value.ownBlock])⟩
        have hO:∀ y,v'.ownBlock=some y->w.heap.size<=y/\y<w'.heap.size:=λy hy=>by
         rcases nN.IW y hy with e1|e1
         .simp [Value.ownBlock]at e1
         .exact e1
        have ht:qP L w id (λy=>v'.ownBlock=some y) w':=⟨λy hy=>⟨.inr (hO y hy).1,(hO y hy).2⟩,hb.size,λy hy _=>hb.block y hy,hb.os,hb.tape,hb.output⟩
        have hl:=ht.later v' (λ_=>undef);have nW:=nN.own;rw[bU]at nW;refine⟨v',w',_,.inl lB,r.new id _ (λy=>v'.ownBlock=some y) v' (λ_=>undef) w' mh hO hb ⟨λi j=>if i<0 then g i j else g (i-0) j,by rw[Lk.oG];exact nW,λy=>by rw[Lk.rJ,Lk.oG],λi j hi hj=>(λ(q:iz _ _ _ _ _/\_)=>⟨hl.kZ q.1,q.2⟩) (?_:_/\_)⟩ Ge,Lk.yX,Lk.oG.symm⟩;simp only[bC,bF,du];exact gk i j hi hj
       .cases h
      .cases h
     .cases h
    .cases h
   .cases h
  .cases h
 .cases h
def aaO(hT:me P T)(hB:∀ b,B b->b<w0.heap.size){s x:Operand}{t:TypeId}{c:Call}(hc:c={ callee:=.builtin .append,args:=#[s,x],argTypes:=#[t,t] })(im:o.op = .call c)(r:jr w0 B σ a w L)
 (h:zz T σ o.dst t (σ.op s) (σ.op x)=some u) (ho:∀ q,q ∈ u.jM->q):kg P K w0 B σ o a w u:=by
 unfold zz at h;split at h
 .rename_i u0 h0;split at h
  .rename_i id nl T1 n sz el id' hf hr;split at h
   .rename_i hid;have hid:=mz.1 hid;subst hid;cases h;have r2:jr w0 B { σ with nl:=false } a w L:=⟨r.hd,r.hs,r.ht,r.hb,r.hv,r.hn,r.hw,r.hi,r.he,λh=>by cases h⟩
    obtain⟨v,w',L1,lB,hrel,qZ⟩:=PN (K:=K) hT hc im r2 h0 λq hq=>ho q (List.mem_cons_of_mem _ hq)
    rw[hf]at hrel;rw[hr]at qZ;obtain⟨L',k1,k2⟩:=jr.fin hB hrel;refine⟨v,w',L',lB,⟨k1.hd,k1.hs,k1.ht,k1.hb,k1.hv,k1.hn,k1.hw,k1.hi,k1.he,λhn i b hb=>r.hl hn i b ?_⟩,?_⟩
    .have hb:look (σ.b.filter λx=>!Nat.beq x.1 id') i=some b:=hb;rw[K6]at hb;split at hb
     .cases hb
     .exact hb
    rw[qZ.2];exact k2
   .cases h
  .cases h
 .cases h
def aa5{x y:Operand}{c:Call}(hc:c.callee = .builtin .max/\c.args = #[x,y])(im:o.op = .call c)(r:jr w0 B σ a w L){k k':IntKind}{p q:Int}(hx:σ.op x = .e (.v (.int k p)))(hy:σ.op y = .e (.v (.int k' q)))
 (hu:u={ r:=.e (.v (.int k (if q>p then q else p))) }):kg P K w0 B σ o a w u:=by
 have h1:=r.op x;have h2:=r.op y;rw[hx]at h1;rw[hy]at h2;have h1:=iz.kE h1;have h2:=iz.kE h2;subst hu;refine kg.pure r (v:=.int k (if q>p then q else p)) ?_ rfl (.v _);have em:(#[x,y]:Array Operand).map a.eval = #[.int k p,.int k' q]:=by simp[h1,h2]
 simp only[execOp,im,resolve,hc.1,hc.2,em,Sem.run_bind,Sem.run_pure,Result.andThen_ok,invoke,builtin,run_max_int2]
def aa6{x y z:Operand}{c:Call}(hc:c.callee = .builtin .max/\c.args = #[x,y,z])(im:o.op = .call c)(r:jr w0 B σ a w L){k k' k'':IntKind}{p q s:Int}(hx:σ.op x = .e (.v (.int k p)))(hy:σ.op y = .e (.v (.int k' q)))(hz:σ.op z = .e (.v (.int k'' s)))
 (hu:u={ r:=.e (.v (.int k (if s>(if q>p then q else p)then s else(if q>p then q else p)))) }):kg P K w0 B σ o a w u:=by
 have h1:=r.op x;have h2:=r.op y;have h3:=r.op z;rw[hx]at h1;rw[hy]at h2;rw[hz]at h3;have h1:=iz.kE h1;have h2:=iz.kE h2;have h3:=iz.kE h3;subst hu;refine kg.pure r (v:=.int k (if s>(if q>p then q else p)then s else(if q>p then q else p))) ?_ rfl (.v _);have em:(#[x,y,z]:Array Operand).map a.eval = #[.int k p,.int k' q,.int k'' s]:=by simp[h1,h2,h3]
 simp only[execOp,im,resolve,hc.1,hc.2,em,Sem.run_bind,Sem.run_pure,Result.andThen_ok,invoke,builtin,run_max_int3]
def aa7{x y:Operand}{c:Call}(hc:c.callee = .builtin .min/\c.args = #[x,y])(im:o.op = .call c)(r:jr w0 B σ a w L){k k':IntKind}{p q:Int}(hx:σ.op x = .e (.v (.int k p)))(hy:σ.op y = .e (.v (.int k' q)))
 (hu:u={ r:=.e (.v (.int k (if q<p then q else p))) }):kg P K w0 B σ o a w u:=by
 have h1:=r.op x;have h2:=r.op y;rw[hx]at h1;rw[hy]at h2;have h1:=iz.kE h1;have h2:=iz.kE h2;subst hu;refine kg.pure r (v:=.int k (if q<p then q else p)) ?_ rfl (.v _);have em:(#[x,y]:Array Operand).map a.eval = #[.int k p,.int k' q]:=by simp[h1,h2]
 simp only[execOp,im,resolve,hc.1,hc.2,em,Sem.run_bind,Sem.run_pure,Result.andThen_ok,invoke,builtin,run_min_int2]
end
structure Gd(P:Program)(K:World->Prop)(w0:World)(B:Nat->Prop):Prop where
 k:K w0
 LJ:∀ w w',K w->Below w.heap.size w w'->K w'
 hB:∀ b,B b->b<w0.heap.size/\oe w0 b
def oe.BR{w w':World}{b:Nat}(h:oe w b)(hb:w'.heap[b]? = w.heap[b]?):oe w' b:=by
 intro o x e;exact h o x (by rw[<-e];exact(World.cell?_of_block (w:=w) (w':=w') hb).symm)
def oe.Lw{w:World}{b:Nat}{cs:Array Value}{T:TypeId}{fr:Nat×Nat}(hg:w.heap[b]? = some (.cells cs T fr))(h:∀ v,v ∈ cs->rA v=false):oe w b:=by
 intro o x e;simp only[World.cell?,hg]at e;simp only[Option.isSome_none,b9,bF]at e;have:=h _ (dI e);cases this
section
variable {P:Program} {K:World->Prop} {T:List TI} {O:pn} {w0:World} {B:Nat->Prop} {σ:PS} {o:Oper} {a:Act} {w:World} {L:Lk} {u:kA}
def pF.GN{v:Value}{T:TypeId}{n sz:Nat}{f:Nat->Nat->Value}(h:pF w v T n sz f true){x:Nat}(hx:v.ownBlock=some x):oe w x:=by
 rcases h with⟨rfl,_⟩|⟨b,c,cur,rfl,hg,_,_,_,_,jZ⟩
 .simp [Value.ownBlock]at hx
 .simp [Value.ownBlock]at hx;subst hx;exact oe.Lw hg (jZ rfl)
def qN.GN{id:Nat}{b:Bx}(h:qN (jv B L) (j9 L) L w id b)(hn:b.nl=true){x:Nat}(hx:L.own id x):oe w x:=by
 cases b with
 |cells T l=>
  obtain⟨b,vs,h1,h2,h3,h4,h5⟩:=h;obtain rfl:=(h2 x).1 hx;exact oe.Lw h3 λv hv=>K2 h4 hn v (by simpa using hv)
 |row nl T n sz el=>
  obtain⟨f,h1,h2,h3⟩:=h;have hn:nl=true:=hn;subst hn;exact h1.GN ((h2 x).1 hx)
 |iH nl T1 T0 n sz len el pend=>
  obtain⟨b,c,cur,f,h1,h2,h3,h4,h5,h6,h7,h8,h9,sU,uf⟩:=h;have hn:nl=true:=hn;subst hn;rcases(h9 x).1 hx with rfl|⟨k,hk,hkx⟩
  .exact oe.Lw h2 λv hv=>(h7 v hv).2
  .exact (h8 k hk).1.GN hkx
def jr.Nu(g:Gd P K w0 B)(r:jr w0 B σ a w L)(hn:σ.nl=true):∀ b,jv B L b->b<w.heap.size/\oe w b:=by
 intro b hb;rcases hb with hb|⟨id,hb⟩
 .obtain ⟨h1,h2⟩:=g.hB b hb;exact⟨bN h1 r.he.size,h2.BR (r.he.block b h1)⟩
 .refine ⟨(r.hw id b hb).2,?_⟩;have hl:=(r.hv id).1 (r.hn id b hb);obtain⟨bx,iN⟩:=gn.1 hl;exact(r.hb id bx iN).GN (r.hl hn id bx iN) hb
def qN.jN{id:Nat}{Tt:TypeId}{l:List E}(h:qN (jv B L) (j9 L) L w id (.cells Tt l)){b:Nat}(hv:L.val id = .pointer (some ⟨b,0,none⟩))(iE:∀ x,L.own id x->x<w.heap.size):
 iz (jv B L) (λ_=>False) w (.jN l.length λj=>l.getD j .any) (.pointer (some ⟨b,0,none⟩)):=by
 obtain⟨b',vs,h1,h2,h3,h4,h5⟩:=h;rw[hv]at h1;cases h1;refine .jN _ _ b 0 (λj=>vs.getD j undef) (λh=>h) (iE b ((h2 b).2 rfl)) (λj hj=>?_) (λj hj=>?_) (λj hj=>?_)
 .have oI:j<vs.length:=by rw[h4.len];exact hj
  rw[bn,bt oI];exact h5 _ (ch oI)
 .have oI:j<vs.length:=by rw[h4.len];exact hj
  simp only[World.cell?,h3];simp[oI]
 .have oI:j<vs.length:=by rw[h4.len];exact hj
  rw[bn,bt hj,bn,bt oI];exact(h4.kZ j _ _ (bt hj) (bt oI)).nX (λ_ h=>h) (λ_ h=>h.elim)
def CV.FF(r:jr w0 B σ a w L){c:CV}{e:E}{is:List Nat}(h:c.ext σ=some (e,is)){v:Value}(hv:wP (jv B L) (j9 L) L w c v):iz (jv B L) (λ_=>False) w e v:=by
 cases c with
 |e x=>simp only[CV.ext,bO,ct]at h;obtain⟨rfl,_⟩:=h;exact hv.nX (λ_ h=>h) (λ_ h=>h.elim)
 |box id=>
  simp only[CV.ext]at h;split at h
  .rename_i Tt l jS;simp only[bO,ct]at h;obtain⟨rfl,_⟩:=h;obtain⟨_,b,k2,rfl⟩:=hv;exact(r.hb id _ jS).jN k2 λx hx=>(r.hw id x hx).2
  .cases h
def Po(r:jr w0 B σ a w L){l:List CV}{es:List E}{is:List Nat}(h:vS σ l=some (es,is)){vs:List Value}(hlen:vs.length=l.length)
 (hv:∀ (i:Nat) (c:CV) (x:Value),l[i]? = some c->vs[i]? = some x->wP (jv B L) (j9 L) L w c x):kj (jv B L) (λ_=>False) w es vs:=by
 induction l generalizing es is vs with
 |nil=>simp only[vS,bO,ct]at h;obtain⟨rfl,_⟩:=h;obtain rfl:=dq hlen;exact .nil _ _ _
 |cons c l ih=>
  cases vs with
  |nil=>simp at hlen
  |cons v vs=>
   simp only[vS]at h;split at h
   .rename_i x i xs js h1 h2;simp only[bO,ct]at h;obtain⟨rfl,_⟩:=h;exact .cons (CV.FF r h1 (hv 0 c v rfl rfl)) (ih h2 (by simpa using hlen) λi c x hc hx=>hv (i+1) c x (by simpa using hc) (by simpa using hx))
   .cases h
def PV.FF(r:jr w0 B σ a w L){p:PV}{e:E}{is:List Nat}(h:p.ext σ=some (e,is))(mh:p.zZ=false){v:Value}(hv:nx (jv B L) (j9 L) L w p v):iz (jv B L) (λ_=>False) w e v:=by
 cases p with
 |e x=>simp only[PV.ext,bO,ct]at h;obtain⟨rfl,_⟩:=h;exact iz.nX (λ_ h=>h) (λ_ h=>h.elim) hv
 |box id off=>
  cases off with
  |succ=>simp[PV.ext]at h
  |zero=>
   simp only[PV.ext]at h;split at h
   .rename_i Tt l jS;simp only[bO,ct]at h;obtain⟨rfl,_⟩:=h;obtain⟨_,b,k2,rfl⟩:=hv;exact(r.hb id _ jS).jN k2 λx hx=>(r.hw id x hx).2
   .cases h
 |sR f cap=>
  simp only[PV.ext]at h;split at h
  .rename_i xs js h1;simp only[bO,ct]at h;obtain⟨rfl,_⟩:=h;obtain⟨vs,rfl,k2,k3⟩:=hv;have:=Po r h1 k2 k3;exact .fn f xs vs this.len this.kZ
  .cases h
 |own id=>cases mh
 |_=>simp[PV.ext]at h
def PV.aab(r:jr w0 B σ a w L){p:PV}{e:E}{is:List Nat}(h:p.ext σ=some (e,is)){v:Value}(hv:nx (jv B L) (j9 L) L w p v):iz (λ_=>False) (λ_=>False) w e v:=by
 by_cases mh:p.zZ=false
 .exact (PV.FF r h mh hv).nX (λ_ h=>h.elim) (λ_ h=>h)
 .cases p with
  |own id=>
   obtain⟨_,rfl⟩:=hv;simp only[PV.ext]at h;split at h
   .rename_i nl T n sz el jS;simp only[bO,ct]at h;obtain⟨rfl,_⟩:=h;obtain⟨f,h1,h2,h3⟩:=r.hb id _ jS;generalize Gp:L.val id=v at *
    rcases h1 with⟨rfl,rfl⟩|⟨b,c,cur,rfl,hg,o0,nE,ny,lk,jZ⟩
    .exact .sl nl 0 sz el none 0 f (bp _) aF (λ_=>rfl) (λi j hi=>absurd hi (bC i)) (λi j hi=>absurd hi (bC i)) (λi j hi=>absurd hi (bC i)) (λi j hi=>absurd hi (bC i))
    .have qB:=(h2 b).2 rfl;refine .sl nl n sz el _ c f o0 (by unfold maxLen at nE;omega) (λh=>by cases h) (λi j hi hj=>⟨(lk i j hi hj).2,λhn=>jZ hn _ (dI (lk i j hi hj).1)⟩) (λi j hi hj=>(h3 i j hi hj).2)
      (λi j hi hj=>⟨b,0,rfl,λh=>h,(r.hw id b qB).2,?_⟩) (λi j hi hj=>((h3 i j hi hj).1.nX (λ_ h=>h.elim) (λ_ h=>h)).nr 2 (h3 i j hi hj).2)
     rw[bU];simp only[World.cell?,hg];simpa using(lk i j hi hj).1
   .cases h
  |_=>exact absurd rfl mh
def M8(r:jr w0 B σ a w L){l:List Operand}{es:List E}{is:List Nat}(h:tO σ l=some (es,is)):kj (λ_=>False) (λ_=>False) w es (l.map a.eval):=by
 induction l generalizing es is with
 |nil=>simp only[tO,bO,ct]at h;obtain⟨rfl,_⟩:=h;exact .nil _ _ _
 |cons x l ih=>
  simp only[tO]at h;split at h
  .rename_i y i xs js h1 h2;simp only[bO,ct]at h;obtain⟨rfl,_⟩:=h;exact .cons (PV.aab r h1 (r.op x)) (ih h2)
  .cases h
def M7(r:jr w0 B σ a w L){l:List Operand}{es:List E}{is:List Nat}(h:tO σ l=some (es,is))(mh:(l.map σ.op).any PV.zZ=false):kj (jv B L) (λ_=>False) w es (l.map a.eval):=by
 induction l generalizing es is with
 |nil=>simp only[tO,bO,ct]at h;obtain⟨rfl,_⟩:=h;exact .nil _ _ _
 |cons x l ih=>
  simp only[tO]at h;split at h
  .rename_i y i xs js h1 h2;simp only[bO,ct]at h;obtain⟨rfl,_⟩:=h;simp only[e9,ajW,fK]at mh;exact .cons (PV.FF r h1 mh.1 (r.op x)) (ih h2 mh.2)
  .cases h
def EK(P:Program)(K:World->Prop)(w0:World)(B:Nat->Prop)(σ:PS)(o:Oper)(a:Act)(w:World)(u:kA):Prop:=
 ∀ (Kc:Act->World->Prop) (Q:Exit->Act->World->Prop),(∀ v w' L',jr w0 B (σ.pW u.f) a w' L'->nx (jv B L') (j9 L') L' w' u.r v->Kc (a.put o.dst v) w')->o.wp P a w Kc Q
def kg.n4(h:kg P K w0 B σ o a w u):EK P K w0 B σ o a w u:=by
 intro Kc Q hk;obtain⟨v,w',L',lB,hr,hp⟩:=h;unfold Oper.wp;rcases lB with lB|⟨lB,rfl⟩
 .rw [lB];exact hk v w' L' hr hp
 .rw [lB];exact hk _ w' L' hr hp
def OD(g:Gd P K w0 B)(r:jr w0 B σ a w L){c:Call}{f:Operand}(im:o.op = .call c)(hf:c.callee = .value f){gf:FuncId}{xs ys:List E}{is:List Nat}{us:List Value}
 {ow:Bool} (yj:a.eval f = .func (.func gf) #[] us.toArray) (abY:kj (λ_=>False) (λ_=>False) w xs (c.args.toList.map a.eval)) (pI:ow=false->kj (jv B L) (λ_=>False) w xs (c.args.toList.map a.eval)) (xn:kj (jv B L) (λ_=>False) w ys us)
 (h:yd P K O σ o.dst gf (xs++ys) is ow=some u) (ho:∀ q,q ∈ u.jM->q):EK P K w0 B σ o a w u:=by
 intro Kc Q hk;simp only[yd]at h;split at h
 .rename_i jQ Dh;split at h
  .rename_i hc;cases h;have pc:PC P K gf (xs++ys) jQ:=ho _ aJ;have abq:=abY.app (xn.mono λ_ _=>iz.nX (bs':=λ_=>False) (λ_ h=>h.elim) (λ_ h=>h));have lB:(execOp a.eval o).run P w = .ok (.enter gf ((c.args.toList.map a.eval)++us).toArray) w:=by
    have e1:c.args.map a.eval=(c.args.toList.map a.eval).toArray:=by apply dt;simp
    have e2:#[]++(c.args.toList.map a.eval).toArray++us.toArray=((c.args.toList.map a.eval)++us).toArray:= aJ ;simp only[execOp,im,resolve,hf,yj,Deferred.ofValue,Sem.run_bind,Sem.run_pure,Result.andThen_ok,invoke,e1,e2,pc.call]
   unfold Oper.wp;rw[lB];show Calls P gf _ w _;have hK:K w:=g.LJ _ _ g.k r.he;by_cases zP:jQ.plain 3=true
   .refine (pc.run w (λ_=>False) _ hK (λ_ h=>h.elim) abq).mono ?_;rintro e w' ⟨v,rfl,hb,hv⟩;exact hk v w' L (r.later hb) (iz.plain (w:=w') hv 3 zP)
   .have hn:σ.nl=true/\ow=false:=by simpa[zP]using hc
    refine(pc.run w (jv B L) _ hK (r.Nu g hn.1) ((pI hn.2).app xn)).mono ?_;rintro e w' ⟨v,rfl,hb,hv⟩;exact hk v w' L (r.later hb) (iz.nX (λ_ h=>h) (λ_ _=>trivial) hv)
  .split at h
   .rename_i hc;cases h;have pc:ze P K gf (xs++ys) jQ:=ho _ aJ;have lB:(execOp a.eval o).run P w = .ok (.enter gf ((c.args.toList.map a.eval)++us).toArray) w:=by
     have e1:c.args.map a.eval=(c.args.toList.map a.eval).toArray:=by apply dt;simp
     have e2:#[]++(c.args.toList.map a.eval).toArray++us.toArray=((c.args.toList.map a.eval)++us).toArray:= aJ ;simp only[execOp,im,resolve,hf,yj,Deferred.ofValue,Sem.run_bind,Sem.run_pure,Result.andThen_ok,invoke,e1,e2,pc.call]
    unfold Oper.wp;rw[lB];show Calls P gf _ w _;have hK:K w:=g.LJ _ _ g.k r.he;have hn:ow=false:=by simpa using hc
    refine(pc.run w (jv B L) _ hK (λb hb=>?_) ((pI hn).app xn)).mono ?_
    .rcases hb with hb|⟨id,hb⟩
     .exact bN (g.hB b hb).1 r.he.size
     .exact (r.hw id b hb).2
    .rintro e w' ⟨v,rfl,hb,hv⟩;exact hk v w' L (r.later hb) (iz.nX (λ_ h=>h) (λ_ _=>trivial) hv)
   .cases h
 .split at h
  .rename_i d hd;split at h
   .rename_i nl T n sz el hnw mh;split at h
    .rename_i hc;cases h;simp only[bQ]at hc;have pc:tK P K gf (xs++ys) nl T n sz el:=ho _ aJ;have lB:(execOp a.eval o).run P w = .ok (.enter gf ((c.args.toList.map a.eval)++us).toArray) w:=by
      have e1:c.args.map a.eval=(c.args.toList.map a.eval).toArray:=by apply dt;simp
      have e2:#[]++(c.args.toList.map a.eval).toArray++us.toArray=((c.args.toList.map a.eval)++us).toArray:= aJ ;simp only[execOp,im,resolve,hf,yj,Deferred.ofValue,Sem.run_bind,Sem.run_pure,Result.andThen_ok,invoke,e1,e2,pc.call]
     unfold Oper.wp;rw[lB];show Calls P gf _ w _;have hK:K w:=g.LJ _ _ g.k r.he;have hn:ow=false:=by simpa using hc.2
     refine(pc.run w (jv B L) _ hK (r.Nu g hc.1.1) ((pI hn).app xn)).mono ?_
     .rintro e w' ⟨v,rfl,hb,gg,nW,Bh,Qw⟩;have hl:=(r.later hb)
      have abO:=r.new d (.row nl T n sz el) (λx=>v.ownBlock=some x) v (λ_=>undef) w' mh Bh hb
       ⟨gg,by rw[Lk.oG];exact nW,λx=>by rw[Lk.rJ,Lk.oG],λi j hi hj=>⟨?_,(Qw i j hi hj).2⟩⟩ (by simp[Bx.nl,hc.1.2])
      .exact hk v w' _ abO ⟨Lk.yX,Lk.oG.symm⟩
      .refine (Qw i j hi hj).1.nX (λb h=>?_) (λ_ _=>trivial);rcases h with h|⟨id,h⟩
       .exact .inl (.inl h)
       .by_cases e:id=d
        .subst e;exact .inr ((Lk.rJ b).1 h)
        .exact .inl (.inr ⟨id,(Lk.yY e b).1 h⟩)
    .cases h
   .cases h
  .cases h
def Jw(hT:me P T)(g:Gd P K w0 B)(r:jr w0 B σ a w L)(h:jy P K T O σ o=some u)(ho:∀ q,q ∈ u.jM->q):EK P K w0 B σ o a w u:=by
 cases im:o.op with
 |move x=>exact(aa8 (P:=P) (K:=K) im r h).n4
 |assign x=>exact(aaP (P:=P) (K:=K) im r h).n4
 |pick c x y=>exact(aba (P:=P) (K:=K) im r h).n4
 |alloc t=>exact(aaN hT im r h).n4
 |box t x=>exact(aaR (P:=P) (K:=K) im r h).n4
 |build t ps=>exact(aaS hT im r h).n4
 |buildSlice t n ps=>exact(aaT hT (λb hb=>(g.hB b hb).1) im r h).n4
 |load t x=>exact(aa1 hT im r h ho).n4
 |store t x y=>exact(abc hT im r h ho).n4
 |nilCheck x=>exact(aa9 (P:=P) (K:=K) im r h).n4
 |binOp op t x y yt=>exact(aaQ hT im r h ho).n4
 |unOp op t x=>exact(abd (P:=P) (K:=K) im r h ho).n4
 |convert s d x=>exact(aaU hT im r h).n4
 |makeFunc fn first cap=>exact(aa3 (P:=P) (K:=K) im r h).n4
 |makeSlice t l c=>exact(aa4 hT im r h ho).n4
 |slice t x lo hi mx=>
  cases mx with
  |none=>exact(abb hT im r h ho).n4
  |some=>simp[jy,im]at h
 |fieldAddr t x f=>exact(aaX hT im r h).n4
 |indexAddr t x i=>exact(aaZ hT im r h ho).n4
 |index t x i=>exact(aaY hT im r h ho).n4
 |field t x f=>exact(aaW hT im r h).n4
 |lookup t x i ok=>exact(aa2 hT im r h ho).n4
 |extract x i=>exact(aaV (P:=P) (K:=K) im r h).n4
 |call c=>
  obtain⟨callee,args,ats⟩:=c;cases callee with
  |builtin b=>
   simp only[jy,im]at h;cases b
   case len=>
    dsimp only at h;split at h
    .rename_i x t hx ht;have ha:args = #[x]:=by apply dt;simpa using hx
     have Gn:ats = #[t]:=by apply dt;simpa using ht
     split at h
     .rename_i e hd;obtain⟨rr,hr,rfl⟩:=cQ.1 h;exact(aa0 hT (by rw[ha,Gn]) im hd r hr rfl).n4
     .cases h
    .cases h
   case append=>
    dsimp only at h;split at h
    .rename_i s x t t' hx ht;have ha:args = #[s,x]:=by apply dt;simpa using hx
     have Gn:ats = #[t,t']:=by apply dt;simpa using ht
     split at h
     .rename_i qD;have qD:=mz.1 qD;subst qD;split at h
      .exact (aaO hT (λb hb=>(g.hB b hb).1) (by rw[ha,Gn]) im r h ho).n4
      .exact (PN hT (by rw[ha,Gn]) im r h ho).n4
     .cases h
    .cases h
   case max=>
    dsimp only at h;split at h
    .rename_i k p k' q hx;rcases args with⟨l⟩
     rcases l with _|⟨x,_|⟨y,_|⟨z,l⟩⟩⟩<;>simp at hx
     cases h;exact(aa5 (P:=P) (K:=K) ⟨rfl,rfl⟩ im r hx.1 hx.2 rfl).n4
    .rename_i k p k' q k'' s hx;rcases args with⟨l⟩
     rcases l with _|⟨x,_|⟨y,_|⟨z,_|⟨z',l⟩⟩⟩⟩<;>simp at hx
     cases h;exact(aa6 (P:=P) (K:=K) ⟨rfl,rfl⟩ im r hx.1 hx.2.1 hx.2.2 rfl).n4
    .cases h
   case min=>
    dsimp only at h;split at h
    .rename_i k p k' q hx;rcases args with⟨l⟩
     rcases l with _|⟨x,_|⟨y,_|⟨z,l⟩⟩⟩<;>simp at hx
     cases h;exact(aa7 (P:=P) (K:=K) ⟨rfl,rfl⟩ im r hx.1 hx.2 rfl).n4
    .cases h
   all_goals cases h
  |value f=>
   simp only[jy,im]at h;have yj:=r.op f;split at h
   .rename_i gf cap xs is zO pI;rw[zO]at yj;obtain⟨us,e1,xn⟩:=iz.Px yj;exact OD g r im rfl e1 (M8 r pI) (λmh=>M7 r pI mh) (xn.mono λ_ _=>iz.nX (λ_ h=>h) (λ_ h=>h.elim)) h ho
   .rename_i gf cap xs is zO pI;rw[zO]at yj;obtain⟨us,e1,k2,k3⟩:=yj;split at h
    .rename_i ys js BG;exact OD g r im rfl e1 (M8 r pI) (λmh=>M7 r pI mh) (Po r BG k2 k3) h ho
    .cases h
   .cases h
  |invoke _ _=>simp[jy,im]at h
 |_=>simp[jy,im]at h
def ZV(hT:me P T)(g:Gd P K w0 B)(r:jr w0 B σ a w L)(h:sS P K T O σ o=some u)(ho:∀ q,q ∈ u.jM->q):EK P K w0 B σ o a w u:=by
 unfold sS at h;split at h
 .rename_i u0 h0;split at h
  .split at h
   .rename_i p hp;cases h;have he:PV.le u0.r p:=ho _ aJ;have:=Jw hT g r h0 (λq hq=>ho q (by simp[hq]));intro Kc Q hk;exact this Kc Q λv w' L' hr hv=>hk v w' L' hr (he _ _ _ _ _ hv)
   .cases h;exact Jw hT g r h0 ho
  .cases h;exact Jw hT g r h0 ho
 .cases h
end
section
variable {P:Program} {K:World->Prop} {T:List TI} {O:pn} {σ τ:PS} {o:Oper} {u:kA}
def aec{x:Operand}(h:∀ t,x = .tmp t->σ.get t=τ.get t):τ.op x=σ.op x:=by
 cases x with
 |tmp t=>exact(h t rfl).symm
 |_=>rfl
def agd{p:PV}{m:Nat}{l:List E}{is:List Nat}{jM:List Prop}(h:σ.read p m=some (l,is,jM))(hb:∀ id,id ∈ is->σ.bo id=τ.bo id):τ.read p m=some (l,is,jM):=by
 cases p with
 |box id off=>
  have h0:=h;simp only[PS.read]at h;split at h
  .split at h
   .simp only[bO,ct]at h;obtain⟨_,rfl,_⟩:=h;simp only[PS.read,<-hb id aJ];exact h0
   .cases h
  .cases h
 |pj id sz i j=>
  have h0:=h;simp only[PS.read]at h;split at h
  .split at h
   .simp only[bO,ct]at h;obtain⟨_,rfl,_⟩:=h;simp only[PS.read,<-hb id aJ];exact h0
   .cases h
  .cases h
 |e x=>cases x<;>exact h
 |_=>exact h
def Yg{c:CV}{e:E}{is:List Nat}(h:c.ext σ=some (e,is))(hb:∀ id,id ∈ is->σ.bo id=τ.bo id):c.ext τ=some (e,is):=by
 cases c with
 |e x=>exact h
 |box id=>
  have h0:=h;simp only[CV.ext]at h;split at h
  .simp only[bO,ct]at h;obtain⟨_,rfl⟩:=h;simp only[CV.ext,<-hb id aJ];exact h0
  .cases h
def Pn{l:List CV}{es:List E}{is:List Nat}(h:vS σ l=some (es,is))(hb:∀ id,id ∈ is->σ.bo id=τ.bo id):vS τ l=some (es,is):=by
 induction l generalizing es is with
 |nil=>exact h
 |cons c l ih=>
  simp only[vS]at h;split at h
  .rename_i x i xs js h1 h2;simp only[bO,ct]at h;obtain⟨rfl,rfl⟩:=h;simp only[vS,Yg h1 λid hi=>hb id (by simp[hi]),ih h2 λid hi=>hb id (by simp[hi])]
  .cases h
def aew{p:PV}{e:E}{is:List Nat}(h:p.ext σ=some (e,is))(hb:∀ id,id ∈ is->σ.bo id=τ.bo id):p.ext τ=some (e,is):=by
 cases p with
 |e x=>exact h
 |box id off=>
  cases off with
  |succ=>exact h
  |zero=>
   have h0:=h;simp only[PV.ext]at h;split at h
   .simp only[bO,ct]at h;obtain⟨_,rfl⟩:=h;simp only[PV.ext,<-hb id aJ];exact h0
   .cases h
 |sR f cap=>
  simp only[PV.ext]at h;split at h
  .rename_i xs js h1;simp only[bO,ct]at h;obtain⟨rfl,rfl⟩:=h;simp only[PV.ext,Pn h1 hb]
  .cases h
 |own id=>
  have h0:=h;simp only[PV.ext]at h;split at h
  .simp only[bO,ct]at h;obtain⟨_,rfl⟩:=h;simp only[PV.ext,<-hb id aJ];exact h0
  .cases h
 |_=>exact h
def M6{l:List Operand}{es:List E}{is:List Nat}(h:tO σ l=some (es,is))(hg:∀ x,x ∈ l->τ.op x=σ.op x)(hb:∀ id,id ∈ is->σ.bo id=τ.bo id):tO τ l=some (es,is):=by
 induction l generalizing es is with
 |nil=>exact h
 |cons c l ih=>
  simp only[tO]at h;split at h
  .rename_i x i xs js h1 h2;simp only[bO,ct]at h;obtain⟨rfl,rfl⟩:=h;simp only[tO,hg c aJ,aew h1 λid hi=>hb id (by simp[hi]),ih h2 (λx hx=>hg x (by simp[hx])) λid hi=>hb id (by simp[hi])]
  .cases h
def Pr{place:Nat->Option (Nat×Nat)}{ps:List (Nat×Operand)}(hg:∀ x,x ∈ ps.map (·.2)->τ.op x=σ.op x):∀ l,qV τ place l ps=qV σ place l ps:=by
 induction ps with
 |nil=>intro l;rfl
 |cons p ps ih=>
  intro l;obtain⟨i,x⟩:=p;simp only[qV,hg x aJ,ih λx hx=>hg x (by simp only[e9,cM];exact .inr hx)]
def DQ{d:Option Tmp}{b:Bx}{rr:Nat->PV}{jM:List Prop}(h:vt σ d b rr jM=some u)(jZ:σ.nl=τ.nl)(hn:∀ id b,u.f = .new id b->τ.bo id=none):vt τ d b rr jM=some u:=by
 obtain⟨id,rfl,mh,hc,rfl⟩:=Ag h;rw[jZ]at hc;simp only[vt,hn id b rfl,hc,bI]
def Ph{d:Option Tmp}{t:TypeId}{s x:PV}{u:kA}(h:yc T σ d t s x=some u)(hb:∀ id,id ∈ u.rb->σ.bo id=τ.bo id)(jZ:σ.nl=τ.nl)(hn:∀ id b,u.f = .new id b->τ.bo id=none):yc T τ d t s x=some u:=by
 simp only[yc]at h ⊢;split at h
 .split at h
  .split at h
   .split at h
    .split at h
     .split at h
      .rename_i hc;simp only[hc,bI];split at h
       .rename_i id;split at h
        .rename_i jS;split at h
         .rename_i qW;cases h;simp only[<-hb id aJ,<-jZ,jS,qW,bI]
         .cases h
        .cases h
       .rename_i id k;split at h
        .rename_i jS;split at h
         .rename_i qW;cases h;simp only[<-hb id aJ,jS,qW,bI]
         .cases h
        .cases h
       .exact DQ h jZ hn
       .cases h
      .cases h
     .cases h
    .cases h
   .cases h
  .cases h
 .cases h
def ZO{d:Option Tmp}{t:TypeId}{s x:PV}{u:kA}(h:zz T σ d t s x=some u)(hb:∀ id,id ∈ u.rb->σ.bo id=τ.bo id)(jZ:σ.nl=τ.nl):zz T τ d t s x=some u:=by
 unfold zz at h ⊢;split at h
 .rename_i u0 h0;split at h
  .rename_i id nl T1 n sz el id' hf hr;split at h
   .rename_i hid;cases h;have:=Ph (σ:={ σ with nl:=false }) (τ:={ τ with nl:=false }) h0 hb rfl λi b e=>by rw[hf]at e;cases e
    rw[this];simp only[hf,hr,hid,bI]
   .cases h
  .cases h
 .cases h
def ZQ(h:jy P K T O σ o=some u)(hg:∀ x,x ∈ o.op.operands->τ.op x=σ.op x)(hb:∀ id,id ∈ u.rb->σ.bo id=τ.bo id)(jZ:σ.nl=τ.nl)(hn:∀ id b,u.f = .new id b->τ.bo id=none):
 jy P K T O τ o=some u:=by
 cases im:o.op with
 |move x=>rw[im]at hg;simp only[jy,im]at h ⊢;rw[hg x aT];exact h
 |assign x=>rw[im]at hg;simp only[jy,im]at h ⊢;rw[hg x aT];exact h
 |pick c x y=>rw[im]at hg;simp only[jy,im]at h ⊢;rw[hg c aT,hg x aT,hg y aT];exact h
 |nilCheck x=>rw[im]at hg;simp only[jy,im]at h ⊢;rw[hg x aT];exact h
 |binOp op t x y yt=>rw[im]at hg;simp only[jy,im]at h ⊢;rw[hg x aT,hg y aT];exact h
 |unOp op t x=>rw[im]at hg;simp only[jy,im]at h ⊢;rw[hg x aT];exact h
 |convert s d x=>rw[im]at hg;simp only[jy,im]at h ⊢;rw[hg x aT];exact h
 |index t x i=>rw[im]at hg;simp only[jy,im]at h ⊢;rw[hg x aT,hg i aT];exact h
 |extract x i=>rw[im]at hg;simp only[jy,im]at h ⊢;rw[hg x aT];exact h
 |fieldAddr t x f=>rw[im]at hg;simp only[jy,im]at h ⊢;rw[hg x aT];exact h
 |field t x f=>rw[im]at hg;simp only[jy,im]at h ⊢;rw[hg x aT];exact h
 |lookup t x i ok=>
  rw[im]at hg;cases ok with
  |true=>simp[jy,im]at h
  |false=>simp only[jy,im]at h ⊢;rw[hg x aT,hg i aT];exact h
 |makeFunc fn first cap=>
  rw[im]at hg;cases fn with
  |func f=>
   simp only[jy,im]at h ⊢;have:cap.toList.map τ.op=cap.toList.map σ.op:=dh λx hx=>hg x (by simp only[Op.operands,fc];exact .inr (by simpa using hx))
   rw[this];exact h
  |_=>simp[jy,im]at h
 |slice t x lo hi mx=>
  rw[im]at hg;cases mx with
  |some=>simp[jy,im]at h
  |none=>
   simp only[jy,im]at h ⊢;have e1:lo.map τ.op=lo.map σ.op:=by cases lo with
    |none=>rfl
    |some y=>simp only[cL];rw[hg y aT]
   have e2:hi.map τ.op=hi.map σ.op:=by cases hi with
    |none=>rfl
    |some y=>simp only[cL];rw[hg y aT]
   rw[hg x aT,e1,e2];exact h
 |alloc t=>
  simp only[jy,im]at h ⊢;split at h
  .split at h
   .exact DQ h jZ hn
   .cases h
  .cases h
 |box t x=>
  rw[im]at hg;simp only[jy,im]at h ⊢;rw[hg x aT];split at h
  .split at h
   .exact DQ h jZ hn
   .cases h
  .cases h
 |build t ps=>
  rw[im]at hg;simp only[jy,im]at h ⊢;have hf:∀ place l,qV τ place l ps.toList=qV σ place l ps.toList:=λplace=>Pr λx hx=>hg x (by simpa[Op.operands]using hx)
  simp only[hf];exact h
 |buildSlice t n ps=>
  rw[im]at hg;simp only[jy,im]at h ⊢;have hf:∀ place l,qV τ place l ps.toList=qV σ place l ps.toList:=λplace=>Pr λx hx=>hg x (by simpa[Op.operands]using hx)
  simp only[hf];split at h
  .split at h
   .split at h
    .split at h
     .split at h
      .rename_i hif;rw[bj hif];obtain⟨l,hl,h⟩:=gl.1 h;refine gl.2 ⟨l,hl,?_⟩;split at h
       .cases h
       .rename_i h1;rw[bh h1];split at h
        .rename_i h2;rw[bj h2];exact DQ h jZ hn
        .rename_i h2;rw[bh h2];exact h
      .cases h
     .cases h
    .cases h
   .cases h
  .cases h
 |load t x=>
  rw[im]at hg;simp only[jy,im,Fy]at h ⊢;rw[hg x aT];split at h
  .rename_i ti oA;split at h
   .rename_i id i n oU;have abS:AJ τ (σ.op x)=some (id,i,n):=by
     have hid:σ.bo id=τ.bo id:=by
      split at h
      .cases h
      .cases h;exact hb id aJ 
     cases hp:σ.op x with
     |pj id' sz i' j=>
      rw[hp]at oU;have h0:=oU;simp only[AJ]at oU;split at oU
      .split at oU
       .simp only[bO,ct]at oU;obtain⟨rfl,_,_⟩:=oU;simp only[AJ,<-hid];exact h0
       .cases oU
      .cases oU
     |_=>rw[hp]at oU;cases oU
    simp only[abS];exact h
   .rename_i oU;have key:∀ is,(∃ l jM,σ.read (σ.op x) ti.i.size=some (l,is,jM))->(∀ id,id ∈ is->σ.bo id=τ.bo id)->AJ τ (σ.op x)=none:=by
     rintro is ⟨l,jM,hr⟩ mf;cases hp:σ.op x with
     |pj id sz i j=>
      rw[hp]at hr oU;simp only[PS.read]at hr;split at hr
      .rename_i jS;split at hr
       .simp only[bO,ct]at hr;obtain⟨_,rfl,_⟩:=hr;simp only[AJ,<-mf id aJ,jS]
       .cases hr
      .cases hr
     |_=>rfl
    cases hr:σ.read (σ.op x) ti.i.size with
    |none=>rw[hr]at h;cases h
    |some y=>
     obtain⟨l,is,jM⟩:=y;have hrb:u.rb=is:=by
      rw[hr]at h;simp only[DK]at h;split at h
      .cases h;rfl
      .split at h
       .cases h;rfl
       .cases h
     have mf:∀ id,id ∈ is->σ.bo id=τ.bo id:=λid hi=>hb id (by rw[hrb];exact hi)
     rw[key is ⟨l,jM,hr⟩ mf];simp only;rw[agd hr mf];rw[hr]at h;exact h
  .cases h
 |store t x y=>
  rw[im]at hg;simp only[jy,im,FB]at h ⊢;rw[hg x aT,hg y aT];split at h
  .split at h
   .rename_i id off e _ _;split at h
    .rename_i jS hm;split at h
     .rename_i hc;cases h;rw[jZ]at hc;simp only[<-hb id aJ,jS,hm,hc,bI]
     .cases h
    .cases h
   .rename_i id sz i j e _ _;split at h
    .rename_i jS hm;split at h
     .rename_i hc;cases h;simp only[<-hb id aJ,jS,hm,hc,bI]
     .cases h
    .cases h
   .rename_i id i id' k _ _;split at h
    .rename_i jS;split at h
     .rename_i hc;cases h;simp only[<-hb id aJ,jS,hc,bI]
     .cases h
    .cases h
   .cases h
  .cases h
 |makeSlice t l c=>
  rw[im]at hg;simp only[jy,im,Fz]at h ⊢;rw[hg l aT,hg c aT];split at h
  .exact DQ h jZ hn
  .cases h
 |indexAddr t x i=>
  rw[im]at hg;simp only[jy,im,Fx]at h ⊢;rw[hg x aT,hg i aT];split at h
  .split at h
   .split at h
    .split at h
     .split at h
      .exact h
      .rename_i id _;split at h
       .rename_i jS;split at h
        .rename_i hc;cases h;simp only[<-hb id aJ,jS,hc,bI]
        .cases h
       .rename_i jS;split at h
        .rename_i hc;cases h;simp only[<-hb id aJ,jS,hc,bI]
        .cases h
       .cases h
      .cases h
     .cases h
    .exact h
    .cases h
   .cases h
  .cases h
 |call c=>
  rw[im]at hg;obtain⟨callee,args,ats⟩:=c;have ha:∀ x,x ∈ args.toList->τ.op x=σ.op x:=λx hx=>hg x (by simp only[Op.operands,Call.operands,fc];exact .inr (by simpa using hx))
  have Kr:args.toList.map τ.op=args.toList.map σ.op:=dh ha;cases callee with
  |builtin b=>
   simp only[jy,im]at h ⊢;cases b
   case len=>
    dsimp only at h ⊢;split at h
    .rename_i x t hx ht;split at h
     .obtain ⟨rr,hr,rfl⟩:=cQ.1 h;rw[ha x (by rw[hx];simp)];have:ub (σ.op x) τ=some rr:=by
       cases hp:σ.op x with
       |own id=>
        rw[hp]at hr;have h0:=hr;simp only[ub]at hr;split at hr
        .simp only[bO]at hr;subst hr;simp only[ub,<-hb id aJ];exact h0
        .simp only[bO]at hr;subst hr;simp only[ub,<-hb id aJ];exact h0
        .cases hr
       |e y=>
        rw[hp]at hr;cases y with
        |v z=>cases z<;>exact hr
        |_=>exact hr
       |_=>rw[hp]at hr;exact hr
      rw[this];rfl
     .cases h
    .cases h
   case append=>
    dsimp only at h ⊢;split at h
    .rename_i s x t t' hx ht;split at h
     .rename_i qD;simp only[qD,bI];rw[ha x (by rw[hx];simp),ha s (by rw[hx];simp)];have n5:ES O o.dst=ES O o.dst:=rfl;split at h
      .rename_i J1;simp only[J1,bI];exact ZO h hb jZ
      .rename_i J1;simp only[J1,bF,b9];exact Ph h hb jZ hn
     .cases h
    .cases h
   case max=>dsimp only at h ⊢;rw[Kr];exact h
   case min=>dsimp only at h ⊢;rw[Kr];exact h
   all_goals cases h
  |value f=>
   have hf:τ.op f=σ.op f:=hg f (by simp[Op.operands,Call.operands]);simp only[jy,im]at h ⊢;have kW:(args.toList.map τ.op).any PV.zZ=(args.toList.map σ.op).any PV.zZ:=by rw[Kr]
   rw[hf,kW];have ec:∀ {gf:FuncId} {zs:List E} {is:List Nat} {ow:Bool},yd P K O σ o.dst gf zs is ow=some u->u.rb=is/\yd P K O τ o.dst gf zs is ow=some u:=by
    intro gf zs is ow hh;simp only[yd]at hh ⊢;rw[jZ]at hh;split at hh
    .rename_i jQ Dh;refine⟨?_,hh⟩;split at hh
     .cases hh;rfl
     .split at hh
      .cases hh;rfl
      .cases hh
    .split at hh
     .rename_i d hd;split at hh
      .rename_i nl T n sz el h1 h2;split at hh
       .rename_i hc;cases hh;have h3:=hn _ _ rfl;rw[h1,h3];simp only[hc,bI];constructor<;>first|rfl|trivial
       .cases hh
      .cases hh
     .cases hh
   split at h
   .rename_i gf cap xs is zO pI;obtain⟨e1,e2⟩:=ec h;rw[M6 pI ha λid hi=>hb id (by rw[e1];exact hi),zO];exact e2
   .rename_i gf cap xs is zO pI;split at h
    .rename_i ys js BG;obtain⟨e1,e2⟩:=ec h;rw[M6 pI ha λid hi=>hb id (by rw[e1];simp[hi]),zO];simp only;rw[Pn BG λid hi=>hb id (by rw[e1];simp[hi])];exact e2
    .cases h
   .cases h
  |invoke _ _=>simp[jy,im]at h
 |_=>simp[jy,im]at h
end
def adh{l:List Operand}{t:Tmp}(h:Operand.tmp t ∈ l):t ∈ Cv l:=by
 induction l with
 |nil=>simp at h
 |cons x l ih=>
  rcases cM.1 h with h|h
  .subst h;simp[Cv]
  .have:=ih h;cases x<;>simp[Cv,this]
def abr{l:List Nat}{n:Nat}:J3 l n=true↔n ∈ l:=by
 unfold J3;rw[cE];constructor
 .rintro ⟨x,hx,hb⟩;have:=mz.1 hb;subst this;exact hx
 .intro h;exact⟨n,h,dE n⟩
def GO{l:List Nat}{d:Option Nat}(h:BP l d=true){x:Nat}(hx:d=some x):x ∉ l:=by
 subst hx;simp only[BP,fh]at h;intro hm;rw[abr.2 hm]at h;cases h
def Io{a b:Option Nat}(h:Im a b=true){x y:Nat}(hx:a=some x)(hy:b=some y):x≠y:=by
 subst hx hy;simp only[Im,fh]at h;intro e;rw[mz.2 e]at h;cases h
def EF(f:qu)(p:PV):p.oL f=if xv f p then p else .e .any:=by
 cases f<;>cases p<;>simp only[PV.oL,xv,bI]
 all_goals (split<;>rename_i h<;>simp[h])
def KY{f:qu}{p:PV}(h:xv f p=true):p.oL f=p:=by rw[EF,bj h]
def acD(f:qu):xv f (.e .any)=true:=by cases f<;>rfl
def ajc(p:PV)(f g:qu):(p.oL f).oL g=(p.oL g).oL f:=by
 rw[EF f p,EF g p];cases h1:xv f p<;>cases h2:xv g p<;>simp only[bI,b9,bF,EF,acD,h1,h2]
structure qO(σ τ:PS):Prop where
 n:σ.n=τ.n
 nl:σ.nl=τ.nl
 get:∀ t,σ.get t=τ.get t
 bo:∀ id,σ.bo id=τ.bo id
def qO.refl(σ:PS):qO σ σ:=⟨rfl,rfl,λ_=>rfl,λ_=>rfl⟩
def qO.symm{σ τ:PS}(h:qO σ τ):qO τ σ:=⟨h.n.symm,h.nl.symm,λt=>(h.get t).symm,λi=>(h.bo i).symm⟩
def qO.trans{σ τ υ:PS}(h:qO σ τ)(k:qO τ υ):qO σ υ:=⟨h.n.trans k.n,h.nl.trans k.nl,λt=>(h.get t).trans (k.get t),λi=>(h.bo i).trans (k.bo i)⟩
def jr.pk{w0:World}{B:Nat->Prop}{σ τ:PS}{a:Act}{w:World}{L:Lk}(r:jr w0 B σ a w L)(h:qO σ τ):jr w0 B τ a w L:=
 ⟨r.hd,r.hs.trans h.n,λt=>by rw[<-h.get];exact r.ht t,λid b hb=>r.hb id b (by rw[h.bo];exact hb),λid=>by rw[<-h.bo];exact r.hv id,r.hn,r.hw,r.hi,r.he,λhn id b hb=>r.hl (by rw[h.nl];exact hn) id b (by rw[h.bo];exact hb)⟩
def zk(σ:PS)(f:qu)(id:Nat):(σ.pW f).bo id=match f with
 | .none=>σ.bo id
 | .new i b | .tG i b | .qx i b | .uU i b=>if i=id then some b else σ.bo id
 | .fin i=>if i=id then none else σ.bo id:=by
 cases f<;>first|rfl|exact GB _ _ _ _|exact K6 _ _ _
def CY(σ:PS)(d:Option Tmp)(u:kA)(t:Nat):(σ.app d u).get t=if d=some t then u.r else(σ.get t).oL u.f:=by
 unfold PS.app;cases d with
 |none=>
  rw[bh aJ];exact PS.FL σ u.f t
 |some d=>
  rw[PS.JN,PS.FL];simp only[bO]
def zj(σ:PS)(d:Option Tmp)(u:kA)(id:Nat):(σ.app d u).bo id=(σ.pW u.f).bo id:=PS.XT _ _ _ _
def DU(σ:PS)(d:Option Tmp)(u:kA):(σ.app d u).n=σ.n:=by unfold PS.app;rw[PS.Lf];rfl
def DZ(σ:PS)(d:Option Tmp)(u:kA):(σ.app d u).nl=σ.nl:=by unfold PS.app;rw[PS.adT];rfl
def xX(σ:PS)(d:Option Tmp)(u:kA)(id:Nat)(h:u.f.id≠some id):(σ.app d u).bo id=σ.bo id:=by
 rw[zj,zk];cases hf:u.f<;>rw[hf]at h<;>simp only[qu.id,cR,bO]at h<;>first|rfl|exact bh h
section
variable {P:Program} {K:World->Prop} {T:List TI} {O:pn} {gI:Array Oper} {σ τ:PS} {o:Oper} {u:kA}
def ZS(h:jy P K T O σ o=some u){x:Operand}(hx:x ∈ o.op.operands):x ∈ D7 o.op:=by
 obtain⟨dst,op,ty,pos,after,guard⟩:=o;simp only at hx ⊢;cases op<;>first
  | (simp only[jy]at h;cases h;done)
  | (exfalso;simp[Op.operands]at hx;done)
  | (simpa[Op.operands,D7]using hx)
  | (simpa[Op.operands,D7,or_assoc]using hx)
  |skip
 case call c=>
  obtain⟨callee,args,ats⟩:=c;cases callee<;>simpa[Op.operands,D7,Call.operands]using hx
def DR{d:Option Tmp}{b:Bx}{rr:Nat->PV}{jM:List Prop}(h:vt σ d b rr jM=some u){id:Nat}{b':Bx}(hf:u.f = .new id b'):σ.bo id=none:=by
 obtain⟨i,_,mh,_,rfl⟩:=Ag h;cases hf;exact mh
def ZR(h:jy P K T O σ o=some u){id:Nat}{b:Bx}(hf:u.f = .new id b):σ.bo id=none:=by
 cases im:o.op
 case alloc=>
  simp only[jy,im]at h;split at h
  .split at h
   .exact DR h hf
   .cases h
  .cases h
 case box=>
  simp only[jy,im]at h;split at h
  .split at h
   .exact DR h hf
   .cases h
  .cases h
 case makeSlice=>
  simp only[jy,im,Fz]at h;split at h
  .exact DR h hf
  .cases h
 case makeFunc fn first cap=>
  cases fn with
  |func f=>
   simp only[jy,im]at h
   repeat' split at h
   all_goals first
    | (cases h;done)
    | (cases h;cases hf;done)
  |_=>simp[jy,im]at h
 case lookup t x i ok=>
  cases ok with
  |true=>simp[jy,im]at h
  |false=>
   simp only[jy,im]at h
   repeat' split at h
   all_goals first
    | (cases h;done)
    | (cases h;cases hf;done)
 case slice t x lo hi mx=>
  cases mx with
  |none=>
   simp only[jy,im,FA]at h
   repeat' split at h
   all_goals first
    | (cases h;done)
    | (cases h;cases hf;done)
  |some=>simp[jy,im]at h
 case call c=>
  obtain⟨callee,args,ats⟩:=c;cases callee with
  |builtin b=>
   simp only[jy,im]at h;cases b
   case append=>
    dsimp only at h;split at h
    .split at h
     .split at h
      .unfold zz at h;split at h
       .split at h
        .split at h
         .cases h;cases hf
         .cases h
        .cases h
       .cases h
      .simp only[yc]at h
       repeat' split at h
       all_goals first
        | (cases h;done)
        |exact DR h hf
        | (cases h;cases hf;done)
     .cases h
    .cases h
   all_goals
    dsimp only at h
    repeat' split at h
    all_goals first
     | (cases h;done)
     | (cases h;cases hf;done)
     | (obtain⟨_,_,rfl⟩:=cQ.1 h;cases hf)
  |value f=>
   simp only[jy,im]at h
   repeat' split at h
   all_goals first
    | (cases h;done)
    | (simp only[yd]at h;repeat' split at h)
   all_goals first
    | (cases h;done)
    | (cases h;cases hf;done)
    | (cases h;cases hf;assumption)
  |invoke _ _=>simp[jy,im]at h
 all_goals
  simp only[jy,im,FB,Fx,FA,Fy,DK]at h
  repeat' split at h
  all_goals first
   | (cases h;done)
   | (cases h;cases hf;done)
   | (obtain⟨_,_,rfl⟩:=cQ.1 h;cases hf)
   |skip
 all_goals first
  | (obtain⟨_,_,h⟩:=gl.1 h;repeat' split at h)
  |skip
 all_goals first
  |exact DR h hf
  | (cases h;done)
  | (cases h;cases hf;done)
def Jz(h:sS P K T O σ o=some u):∃ u0,jy P K T O σ o=some u0/\u0.rb=u.rb/\u0.f=u.f:=by
 unfold sS at h;split at h
 .rename_i u0 h0;split at h
  .split at h
   .cases h;exact⟨u0,h0,rfl,rfl⟩
   .cases h;exact⟨_,h0,rfl,rfl⟩
  .cases h;exact⟨_,h0,rfl,rfl⟩
 .cases h
def ZU(h:sS P K T O σ o=some u)(hg:∀ x,x ∈ o.op.operands->τ.op x=σ.op x)(hb:∀ id,id ∈ u.rb->σ.bo id=τ.bo id)(jZ:σ.nl=τ.nl)(hn:∀ id b,u.f = .new id b->τ.bo id=none):
 sS P K T O τ o=some u:=by
 obtain⟨u0,h0,e1,e2⟩:=Jz h;have:=ZQ (τ:=τ) h0 hg (by rw[e1];exact hb) jZ (by rw[e2];exact hn);unfold sS at h ⊢;rw[h0]at h;rw[this];exact h
def CT(h:qc P K T O gI σ o=some u):uw σ o.dst=true/\u.rd=(looks gI o).map σ.get/\((xQ gI σ o=some true/\∃ u0,sS P K T O σ o=some u0/\u={ u0 with rd:=(looks gI o).map σ.get })\/(xQ gI σ o=some false/\u={ r:=.e (.v (.tuple #[])),rd:=(looks gI o).map σ.get })):=by
 unfold qc at h;split at h
 .rename_i hi;split at h
  .rename_i hw;split at h
   .rename_i u0 h0;cases h;exact⟨hi,rfl,.inl ⟨hw,u0,h0,rfl⟩⟩
   .cases h
  .rename_i hw;cases h;exact⟨hi,rfl,.inr ⟨hw,rfl⟩⟩
  .cases h
 .cases h
def Jx(h:qc P K T O gI σ o=some u)(hg:∀ t,t ∈ looks gI o->σ.get t=τ.get t)(hb:∀ id,id ∈ u.rb->σ.bo id=τ.bo id)(jZ:σ.nl=τ.nl)(lf:σ.n=τ.n)(hn:∀ id b,u.f = .new id b->τ.bo id=none):
 qc P K T O gI τ o=some u:=by
 obtain⟨hi,_,hw⟩:=CT h;have lZ:uw τ o.dst=uw σ o.dst:=by cases o.dst<;>simp[uw,lf]
 have Rc:xQ gI τ o=xQ gI σ o:=by
  unfold xQ;cases zH:o.guard with
  |none=>rfl
  |some jw=>
   obtain⟨j,want⟩:=jw;cases hd:(gI[j]?).bind (·.dst)with
   |none=>simp[hd]
   |some t=>
    simp only[hd];rw[hg t (by unfold looks;rw[zH];simp[hd])]
 have Gi:(looks gI o).map τ.get=(looks gI o).map σ.get:=dh λt ht=>(hg t ht).symm
 unfold qc;rw[lZ,hi,Rc,Gi];simp only[bI];rcases hw with⟨hw,u0,h0,rfl⟩|⟨hw,rfl⟩
 .rw [hw];have im:∀ x,x ∈ o.op.operands->τ.op x=σ.op x:=by
   intro x hx;obtain⟨u1,h1,_,_⟩:=Jz h0;have hm:=ZS h1 hx;refine aec λt ht=>hg t ?_
   subst ht;unfold looks;exact List.mem_append_left _ (adh hm)
  simp only[ZU h0 im hb jZ hn]
 .rw [hw]
def Jy(h:qc P K T O gI σ o=some u){id:Nat}{b:Bx}(hf:u.f = .new id b):σ.bo id=none:=by
 obtain⟨_,_,⟨_,u0,h0,rfl⟩|⟨_,rfl⟩⟩:=CT h
 .obtain ⟨u1,h1,_,e2⟩:=Jz h0;exact ZR h1 (by rw[e2];exact hf)
 .cases hf
def ZT(h:qc P K T O gI σ o=some u)(hs:qO σ τ):qc P K T O gI τ o=some u:=
 Jx h (λt _=>hs.get t) (λid _=>hs.bo id) hs.nl hs.n λid b hf=>by rw[<-hs.bo];exact Jy h hf
def Xd(hs:qO σ τ)(d:Option Tmp)(u:kA):qO (σ.app d u) (τ.app d u):=
 ⟨by rw[DU,DU];exact hs.n,by rw[DZ,DZ];exact hs.nl,λt=>by rw[CY,CY,hs.get],λid=>by rw[zj,zj,zk,zk,hs.bo]⟩
def ah9{O':pn}{x y:Oper×kA}(hi:zX gI x y=true)(h1:qc P K T O gI σ x.1=some x.2)(h2:qc P K T O' gI (σ.app x.1.dst x.2) y.1=some y.2):
 qc P K T O' gI σ y.1=some y.2/\qc P K T O gI (σ.app y.1.dst y.2) x.1=some x.2/\qO ((σ.app x.1.dst x.2).app y.1.dst y.2) ((σ.app y.1.dst y.2).app x.1.dst x.2):=by
 simp only[zX,bQ]at hi;obtain⟨⟨⟨⟨⟨⟨⟨⟨⟨i1,i2⟩,i3⟩,i4⟩,i5⟩,i6⟩,i7⟩,i8⟩,i9⟩,i10⟩:=hi;obtain⟨_,rx,_⟩:=CT h1;obtain⟨_,ry,_⟩:=CT h2;have r1:qc P K T O' gI σ y.1=some y.2:=by
  refine Jx h2 (λt ht=>?_) (λid hid=>xX _ _ _ _ λe=>GO i4 e hid) (DZ _ _ _) (DU _ _ _) λid b hf=>?_
  .have hg:(σ.app x.1.dst x.2).get t=(σ.get t).oL x.2.f:=by
    rw[CY,bh λe=>GO i1 e ht]
   rw[hg];by_cases hv:x.2.f.Iw=true
   .have vh:Lp ((σ.get t).oL x.2.f)=true:=by
     have h9:y.2.rd.all Lp=true:=by simpa[hv]using i9
     rw[ry]at h9;exact bS.1 h9 _ (cw.2 ⟨t,ht,hg⟩)
    rw[EF]at vh ⊢;split at vh
    .rename_i hk;rw[bj hk]
    .cases vh
   .cases hf:x.2.f<;>rw[hf]at hv<;>first|exact absurd rfl hv|(cases σ.get t<;>rfl)
  .have:=Jy h2 hf;rwa[xX _ _ _ _ λe=>Io i6 e (by rw[hf];rfl) rfl]at this
 refine⟨r1,?_,?_⟩
 .refine Jx h1 (λt ht=>?_) (λid hid=>(xX _ _ _ _ λe=>GO i5 e hid).symm) (DZ _ _ _).symm (DU _ _ _).symm λid b hf=>?_
  .rw [CY,bh λe=>GO i3 e ht];rw[rx]at i10;exact(KY (bS.1 i10 _ (cw.2 ⟨t,ht,rfl⟩))).symm
  .rw [xX _ _ _ _ λe=>Io i6 (by rw[hf];rfl) e rfl];exact Jy h1 hf
 .refine ⟨by simp only[DU],by simp only[DZ],λt=>?_,λid=>?_⟩
  .simp only[CY];by_cases hx:x.1.dst=some t
   .have hy:¬y.1.dst=some t:=λe=>Io i2 hx e rfl
    rw[bh hy,bj hx,bj hx,KY i8]
   .by_cases hy:y.1.dst=some t
    .rw [bj hy,bh hx,bj hy,KY i7]
    .rw [bh hy,bh hx,bh hx,bh hy,ajc]
  .by_cases hx:x.2.f.id=some id
   .have hy:y.2.f.id≠some id:=λe=>Io i6 hx e rfl
    rw[xX _ _ _ _ hy,zj,zj,zk,zk,xX _ _ _ _ hy]
   .rw [xX _ _ x.2 _ hx];rw[zj,zj,zk,zk,xX _ _ _ _ hx]
end
section
variable {P:Program} {K:World->Prop} {T:List TI} {O:pn} {gI:Array Oper}
def uO(P:Program)(K:World->Prop)(T:List TI)(gI:Array Oper):List (Oper×kA)->PS->PS->Prop
 | [],σ,τ=>qO σ τ
 |x::l,σ,τ=>(∃ O,qc P K T O gI σ x.1=some x.2)/\uO P K T gI l (σ.app x.1.dst x.2) τ
def uO.pk{l:List (Oper×kA)}{σ σ2 τ:PS}(h:uO P K T gI l σ τ)(hs:qO σ σ2):uO P K T gI l σ2 τ:=by
 induction l generalizing σ σ2 with
 |nil=>exact hs.symm.trans h
 |cons x l ih=>exact⟨h.1.imp λ_ h=>ZT h hs,ih h.2 (Xd hs _ _)⟩
def uO.aat{A C:List (Oper×kA)}{y:Oper×kA}{σ τ:PS}(h:uO P K T gI (A++y::C) σ τ)(hi:∀ x,x ∈ A->zX gI x y=true):
 (∃ O,qc P K T O gI σ y.1=some y.2)/\uO P K T gI (A++C) (σ.app y.1.dst y.2) τ:=by
 induction A generalizing σ with
 |nil=>exact h
 |cons x A ih=>
  obtain⟨⟨O1,h1⟩,h2⟩:=h;obtain⟨⟨O2,k1⟩,k2⟩:=ih h2 λz hz=>hi z (by simp[hz])
  obtain⟨s1,s2,s3⟩:=ah9 (hi x aJ) h1 k1;exact⟨⟨O2,s1⟩,⟨O1,s2⟩,k2.pk s3⟩
end
section
variable {P:Program} {K:World->Prop} {T:List TI} {O:pn} {w0:World} {B:Nat->Prop} {σ τ:PS} {o:Oper} {a:Act} {w:World} {L:Lk} {u:kA} {gI:Array Oper}
def WD(r:jr w0 B σ a w L){b:Bool}(h:xQ gI σ o=some b):Region.wanted o (yielded gI a.tmps)=b:=by
 unfold xQ at h;unfold Region.wanted;split at h
 .rename_i hg;rw[hg];simpa using h
 .rename_i j want hg;rw[hg];simp only;split at h
  .rename_i t ht;have hv:=r.ht t;have key:∀ q:Bool,σ.get t = .e (.v (.bool q))->yielded gI a.tmps j=some q:=by
    intro q hq;rw[hq]at hv;have hv:=iz.kE hv;unfold yielded;rw[ht];simp only[cS];have iE:a.tmps[t]? = some (.bool q):=by
     by_cases hs:t<a.tmps.size
     .simpa [hs]using hv
     .simp [hs,undef]at hv
    rw[iE]
   split at h
   .rename_i hq;rw[key true hq];simp only[bO]at h;subst h;cases want<;>rfl
   .rename_i hq;rw[key false hq];simp only[bO]at h;subst h;cases want<;>rfl
   .rename_i q hq;rw[hq]at hv;have hv:=iz.kE hv;have hn:yielded gI a.tmps j=none:=by
     unfold yielded;rw[ht];simp only[cS];by_cases hs:t<a.tmps.size
     .rw [show a.tmps[t]? = some (.tuple q)by simpa[hs]using hv]
     .simp [hs]
    rw[hn];simp only[bO]at h;subst h;cases want<;>rfl
   .cases h
  .cases h
def Pk(hT:me P T)(g:Gd P K w0 B)(r:jr w0 B σ a w L)(h:qc P K T O gI σ o=some u)(ho:∀ q,q ∈ u.jM->q)(Kc:Act->World->Prop)(Q:Exit->Act->World->Prop)
 (hk:∀ a' w' L',jr w0 B (σ.app o.dst u) a' w' L'->Kc a' w'):
 (Region.wanted o (yielded gI a.tmps)=true/\o.wp P a w Kc Q)\/(Region.wanted o (yielded gI a.tmps)=false/\Kc (a.put o.dst undef) w):=by
 obtain⟨hi,_,⟨hw,u0,h0,rfl⟩|⟨hw,rfl⟩⟩:=CT h
 .refine .inl ⟨WD r hw,ZV hT g r h0 ho Kc Q λv w' L' hr hp=>hk _ w' L' ?_⟩;have lL:uw (σ.pW u0.f) o.dst=true:=by cases hd:o.dst<;>rw[hd]at hi<;>exact hi
  exact hr.put o.dst u0.r v lL hp
 .exact .inr ⟨WD r hw,hk _ w L (r.put o.dst (.e (.v (.tuple #[]))) undef hi (.v _))⟩
structure Left(gI:Array Oper)(listed:Array Bool)(R:List (Nat×Oper×kA)):Prop where
 k0:∀ x,x ∈ R->gI[x.1]? = some x.2.1/\listed.getD x.1 true=false
 all:∀ i,i<gI.size->listed.getD i true=false->∃ x,x ∈ R/\x.1=i
 pw:R.Pairwise λx y=>x.1<y.1/\(yU gI 3 y.2.1 x.1||zX gI x.2 y.2)=true
 ed:∀ x,x ∈ R->∀ e,e ∈ x.2.1.after->Region.binds .any e=true->e.on<x.1
 up:∀ x,x ∈ R->∀ j z,gI[j]? = some z->zY z x.1=true->listed.getD j true=false
def Left.yU{listed:Array Bool}{R:List (Nat×Oper×kA)}(h:Left gI listed R){x:Nat×Oper×kA}(hx:x ∈ R):∀ (n:Nat) (j:Nat) (z:Oper),gI[j]? = some z->Pu.yU gI n z x.1=true ->
 listed.getD j true=false/\∃ e,e ∈ z.after/\Region.binds .any e=true/\listed.getD e.on true=false/\e.on<gI.size:=by
 have direct:∀ (j:Nat) (z:Oper),gI[j]? = some z->zY z x.1=true->listed.getD j true=false/\∃ e,e ∈ z.after/\Region.binds .any e=true/\listed.getD e.on true=false/\e.on<gI.size:=by
  intro j z hz he;refine⟨h.up x hx j z hz he,?_⟩;unfold zY at he;obtain⟨e,lh,kF⟩:=cE.1 he;simp only[bQ]at kF;have oj:=h.k0 x hx;refine⟨e,by simpa using lh,kF.1,?_,?_⟩
  .rw [mz.1 kF.2];exact oj.2
  .rw [mz.1 kF.2];exact(cX.1 oj.1).1
 intro n
 induction n with
 |zero=>exact direct
 |succ n ih=>
  intro j z hz hr;simp only[Pu.yU,dJ]at hr;rcases hr with hr|hr
  .exact direct j z hz hr
  .obtain ⟨e,lh,kF⟩:=cE.1 hr;simp only[bQ]at kF;obtain⟨kF,Kb⟩:=kF;split at Kb
   .rename_i z' vZ;obtain⟨k1,_⟩:=ih e.on z' vZ Kb;have iE:=(cX.1 vZ).1;obtain⟨x',yp,Gs⟩:=h.all e.on iE k1;refine⟨h.up x' yp j z hz ?_,e,by simpa using lh,kF,k1,iE⟩;unfold zY;refine cE.2 ⟨e,lh,?_⟩;rw[kF,Gs];simp
   .cases Kb
def L9{md:Region.Mode}{listed:Array Bool}{i:Nat}:i ∈ Region.ready md gI listed↔i<gI.size/\listed.getD i true=false/\∃ o,gI[i]? = some o/\∀ e,e ∈ o.after->Region.binds md e=true->listed.getD e.on false=true:=by
 unfold Region.ready;rw[List.mem_filter];simp only[bD,bQ,fh];constructor
 .rintro ⟨h1,h2,h3⟩;refine⟨h1,h2,gI[i],by simp[h1],λe he hb=>?_⟩;rw[Array.getElem?_eq_getElem h1]at h3;simp only[cL,ajZ,akp]at h3;have:=h3 e he;simpa[hb]using this
 .rintro ⟨h1,h2,o,h3,h4⟩;refine⟨h1,h2,?_⟩;rw[h3];simp only[cL,ajZ,akp];intro e he;cases hb:Region.binds md e with
  |false=>rfl
  |true=>simpa using h4 e he hb
def W7(hT:me P T)(g:Gd P K w0 B){Q:Exit->Act->World->Prop}(hq:∀ a' w' L',jr w0 B τ a' w' L'->Q .normal a' w'):
 ∀ (fuel:Nat) (listed:Array Bool) (R:List (Nat×Oper×kA)) (σ:PS) (a:Act) (w:World) (L:Lk),R.length=fuel->listed.size=gI.size->Left gI listed R->(∀ x,x ∈ R->∀ q,q ∈ x.2.2.jM->q) ->
  uO P K T gI (R.map (·.2)) σ τ->jr w0 B σ a w L->wpAny P .any gI Q fuel listed a w:=by
 intro fuel
 induction fuel with
 |zero=>
  intro listed R σ a w L hlen Bp hleft ho Gj r;have hR:=dq hlen;subst hR;refine⟨?_,hq a w L (r.pk Gj)⟩;apply List.eq_nil_iff_forall_not_mem.2;intro i hi;obtain⟨h1,h2,_⟩:=L9.1 hi;obtain⟨x,hx,_⟩:=hleft.all i h1 h2;simp at hx
 |succ fuel ih=>
  intro listed R σ a w L hlen Bp hleft ho Gj r;refine⟨λzM=>?_,λi hi=>?_⟩
  .
   exfalso;cases R with
   |nil=>simp at hlen
   |cons x R=>
    have hx:=hleft.k0 x aJ;have iE:x.1<gI.size:=(cX.1 hx.1).1;have:x.1 ∈ Region.ready .any gI listed:=L9.2 ⟨iE,hx.2,x.2.1,hx.1,λe he hb=>by
     have Bw:=hleft.ed x aJ e he hb;cases hl:listed.getD e.on true with
     |true=>
      have:e.on<listed.size:= aD ;simp[this]at hl ⊢;exact hl
     |false=>
      exfalso;obtain⟨y,hy,Rg⟩:=hleft.all e.on aD hl;rcases cM.1 hy with hy|hy
      .subst hy;omega
      .have:=(aj0.1 hleft.pw).1 y hy;omega⟩
    rw[zM]at this;simp at this
  .obtain ⟨h1,h2,o,h3,h4⟩:=L9.1 hi;obtain⟨y,hy,hyi⟩:=hleft.all i h1 h2;subst hyi;obtain⟨A,C,rfl⟩:=List.append_of_mem hy;have Gu:=hleft.k0 y hy;have abH:∀ x,x ∈ A->zX gI x.2 y.2=true:=by
    intro x hx;have hp:=(aj1.1 hleft.pw).2.2 x hx y aJ;rcases Bool.or_eq_true_iff.1 hp.2 with he|he
    .exfalso;obtain⟨_,e,lh,kF,lC,iE⟩:=hleft.yU (show x ∈ A++y::C by simp[hx]) 3 y.1 y.2.1 Gu.1 he;have qB:o=y.2.1:=by rw[Gu.1]at h3;exact(aj2 h3).symm
     have hl:=h4 e (by rw[qB];exact lh) kF;have pI:e.on<listed.size:=by rw[Bp];exact iE
     simp[pI]at hl lC;rw[hl]at lC;cases lC
    .exact he
   rw[ajT,e9]at Gj;obtain⟨⟨O,k1⟩,k2⟩:=Gj.aat (λx hx=>by
    obtain⟨z,hz,rfl⟩:=cw.1 hx;exact abH z hz)
   have abK:Left gI (listed.setIfInBounds y.1 true) (A++C):=by
    have kV:∀ x,x ∈ A++C->x.1≠y.1:=by
     intro x hx;rcases dN.1 hx with hx|hx
     .have:=((aj1.1 hleft.pw).2.2 x hx y aJ).1;omega
     .have:=((aj0.1 (aj1.1 hleft.pw).2.1).1 x hx).1;omega
    have Gm:∀ x,x ∈ A++C->x ∈ A++y::C:=λx hx=>by
     rcases dN.1 hx with hx|hx<;>simp[hx]
    refine⟨λx hx=>?_,λj hj hl=>?_,?_,λx hx=>hleft.ed x (Gm x hx),λx hx j z hz he=>?_⟩
    .obtain ⟨q1,q2⟩:=hleft.k0 x (Gm x hx);refine⟨q1,?_⟩;have pI:x.1<listed.size:=by rw[Bp];exact(cX.1 q1).1
     simp[pI]at q2 ⊢;rw[aj3 _ (λe=>kV x hx e.symm)];exact q2
    .have F5:j<listed.size:= aD ;by_cases Bm:j=y.1
     .subst Bm;simp[F5]at hl
     .have:listed.getD j true=false:=by
       simp[F5]at hl ⊢;rw[aj3 _ (λe=>Bm e.symm)]at hl;exact hl
      obtain⟨x,hx,Gt⟩:=hleft.all j hj this;refine⟨x,?_,Gt⟩;rcases dN.1 hx with hx|hx
      .simp [hx]
      .rcases cM.1 hx with hx|hx
       .subst hx;exact absurd Gt.symm Bm
       .simp [hx]
    .exact hleft.pw.sublist (List.Sublist.append (List.Sublist.refl A) (List.sublist_cons_self y C))
    .have q:=hleft.up x (Gm x hx) j z hz he;have F5:j<listed.size:=by rw[Bp];exact(cX.1 hz).1
     by_cases Bm:j=y.1
     .exfalso;subst Bm;rw[Gu.1]at hz h3;cases hz;cases h3;unfold zY at he;obtain⟨e,lh,kF⟩:=cE.1 he;simp only[bQ]at kF;have hl:=h4 e (by simpa using lh) kF.1;rw[mz.1 kF.2]at hl;have lC:=(hleft.k0 x (Gm x hx))
      have pI:x.1<listed.size:=by rw[Bp];exact(cX.1 lC.1).1
      have lC:=lC.2;simp[pI]at hl lC;rw[hl]at lC;cases lC
     .simp [F5]at q ⊢;rw[aj3 _ (λe=>Bm e.symm)];exact q
   unfold wpOp;rw[Gu.1];simp only;rcases Pk hT g r k1 (ho y aJ) (wpAny P .any gI Q fuel (listed.setIfInBounds y.1 true)) Q (λa' w' L' hr=>ih _ (A++C) _ a' w' L' (by simp at hlen ⊢;omega) (by simpa using Bp) abK (λx hx=>ho x (by
    rcases dN.1 hx with hx|hx<;>simp[hx])) (by rw[ajT];exact k2) hr)with⟨p1,p2⟩|⟨p1,p2⟩
   .rw [bj p1];exact .inl p2
   .rw [bh (by rw[p1];simp)];exact p2
def acK{us:List (Oper×kA)}(xn:us.map (·.1)=gI.toList)(hp:BU gI 0 us=true):
 ∃ R:List (Nat×Oper×kA),R.map (·.2)=us/\R.length=gI.size/\Left gI (Array.replicate gI.size false) R:=by
 have key:∀ (us:List (Oper×kA)) (k:Nat),BU gI k us=true->(∀ j x,us[j]? = some x->gI[k+j]? = some x.1) ->
  ∃ R:List (Nat×Oper×kA),R.map (·.2)=us/\(∀ j x,R[j]? = some x->x.1=k+j)/\(∀ x,x ∈ R->gI[x.1]? = some x.2.1)/\(R.Pairwise λx y=>x.1<y.1/\(yU gI 3 y.2.1 x.1||zX gI x.2 y.2)=true) /\
   (∀ x,x ∈ R->∀ e,e ∈ x.2.1.after->Region.binds .any e=true->e.on<x.1):=by
  intro us
  induction us with
  |nil=>exact λk _ _=>⟨[],rfl,λj x h=>by simp at h,λx h=>by simp at h,List.Pairwise.nil,λx h=>by simp at h⟩
  |cons x us ih=>
   intro k hp oj;simp only[BU,bQ]at hp;obtain⟨R,r1,r2,r3,r4,r5⟩:=ih (k+1) hp.2 (λj y hy=>by have:=oj (j+1) y (by simpa using hy);rwa[(aD:k+(j+1)=k+1+j)]at this);have rV:∀ y,y ∈ R->k<y.1/\y.2 ∈ us:=by
    intro y hy;obtain⟨j,hj⟩:=dr.1 hy;have:=r2 j y hj;exact⟨aD,by rw[<-r1];exact cw.2 ⟨y,hy,rfl⟩⟩
   refine⟨(k,x)::R,by simp[r1],λj y hy=>?_,λy hy=>?_,?_,λy hy=>?_⟩
   .cases j with
    |zero=>simp at hy;subst hy;rfl
    |succ j=>have:=r2 j y (by simpa using hy);omega
   .rcases cM.1 hy with hy|hy
    .subst hy;have:=oj 0 x rfl;simpa using this
    .exact r3 y hy
   .rw [aj0];refine⟨λy hy=>⟨(rV y hy).1,?_⟩,r4⟩;exact bS.1 hp.1.2 y.2 (rV y hy).2
   .rcases cM.1 hy with hy|hy
    .subst hy;intro e he hb;have:=bS.1 hp.1.1 e (by simpa using he);simpa[hb]using this
    .exact r5 y hy
 obtain⟨R,r1,r2,r3,r4,r5⟩:=key us 0 hp (λj x hx=>by
  rw[bU];have:=congrArg (·[j]?) xn;simp only[cD,hx,cL]at this;simpa using this.symm)
 have hlen:R.length=gI.size:=by
  have h1:=congrArg List.length r1;have h2:=congrArg List.length xn;simp at h1 h2;omega
 refine⟨R,r1,hlen,λx hx=>⟨r3 x hx,?_⟩,λi hi _=>?_,r4,r5,λx hx j z hz _=>by have:=(cX.1 hz).1;simp[this]⟩
 .have:=(cX.1 (r3 x hx)).1;simp[this]
 .have lL:i<R.length:= aD ;exact⟨R[i],ch lL,by have:=r2 i R[i] (bt lL);omega⟩
end
def PS.le(σ τ:PS):Prop:=∀ (w0:World) (B:Nat->Prop) (a:Act) (w:World) (L:Lk),(∀ b,B b->b<w0.heap.size)->jr w0 B σ a w L->∃ L',jr w0 B τ a w L'
def PS.le.refl(σ:PS):PS.le σ σ:=λ_ _ _ _ L _ r=>⟨L,r⟩
def PS.le.trans{σ τ υ:PS}(h:PS.le σ τ)(k:PS.le τ υ):PS.le σ υ:=λw0 B a w L g r=>let⟨L',r'⟩:=h w0 B a w L g r;k w0 B a w L' g r'
def PV.le.refl(p:PV):PV.le p p:=λ_ _ _ _ _ h=>h
def Bx.le(a b:Bx):Prop:=(a.nl=true->b.nl=true)/\∀ (bs br:Nat->Prop) (L:Lk) (w:World) (id:Nat),qN bs br L w id a->qN bs br L w id b
def Bx.le.refl(a:Bx):Bx.le a a:=⟨id,λ_ _ _ _ _ h=>h⟩
def vJ(σ:PS):List (Nat×PV)->Prop
 | []=>True
 | (k,p)::l=>PV.le (σ.get k) p/\vJ σ l
def uM(σ:PS):List (Nat×Bx)->Prop
 | []=>True
 | (id,b)::l=>(∃ b',σ.bo id=some b'/\Bx.le b' b)/\uM σ l
def El(τ:PS):Bool:=τ.t.all λx=>x.2.pQ.all λid=>(look τ.b id).isSome
def K7{α:Type}{l:List (Nat×α)}{t:Nat}{x:α}(h:look l t=some x):(t,x) ∈ l:=by
 induction l with
 |nil=>cases h
 |cons y l ih=>
  obtain⟨k,z⟩:=y;rw[sD]at h;split at h
  .rename_i e;cases h;subst e;exact .head _
  .exact .tail _ (ih h)
def vJ.get{σ:PS}{l:List (Nat×PV)}(h:vJ σ l){t:Nat}{p:PV}(k:look l t=some p):PV.le (σ.get t) p:=by
 induction l with
 |nil=>cases k
 |cons y l ih=>
  obtain⟨q,z⟩:=y;rw[sD]at k;split at k
  .rename_i e;cases k;subst e;exact h.1
  .exact ih h.2 k
def uM.get{σ:PS}{l:List (Nat×Bx)}(h:uM σ l){t:Nat}{b:Bx}(k:look l t=some b):∃ b',σ.bo t=some b'/\Bx.le b' b:=by
 induction l with
 |nil=>cases k
 |cons y l ih=>
  obtain⟨q,z⟩:=y;rw[sD]at k;split at k
  .rename_i e;cases k;subst e;exact h.1
  .exact ih h.2 k
def PS.le.oW{σ τ:PS}(hn:σ.n=τ.n)(jZ:τ.nl=σ.nl)(hr:El τ=true)(ht:vJ σ τ.t)(hb:uM σ τ.b):PS.le σ τ:=λw0 B a w L _ r=>by
 let L':Lk:=⟨λid=>L.nR id/\(τ.bo id).isSome=true,λid x=>L.own id x/\(τ.bo id).isSome=true,L.val,L.jm⟩
 have iE:se L w L' w:=⟨bp _,λx _ ⟨id,h,_⟩=>⟨id,h⟩,λ_ _ _=>rfl⟩
 refine⟨L',r.hd,by rw[<-hn];exact r.hs,λt=>?_,λid b h=>?_,λid=>?_,λid x h=>⟨r.hn id x h.1,h.2⟩,λid x h=>r.hw id x h.1,λid id' x h k=>r.hi id id' x h.1 k.1,r.he,λh id b k=>?_⟩
 .have hg:τ.get t=((look τ.t t)).getD (.e .any):=rfl;cases hl:look τ.t t with
  |none=>rw[hg,hl];exact .any _
  |some p=>
   rw[hg,hl];have:=ht.get hl _ _ _ _ _ (r.ht t);refine nx.move iE this λid hid uk=>⟨⟨uk,?_⟩,rfl,λ_=>rfl⟩
   have q:=bS.1 hr _ (K7 hl);exact bS.1 q id hid
 .obtain ⟨b',h1,h2⟩:=hb.get h;have hs:(τ.bo id).isSome=true:=by rw[h];rfl
  exact(h2.2 _ _ _ _ _ (r.hb id b' h1)).later iE rfl (λx=>⟨λq=>q.1,λq=>⟨q,hs⟩⟩) (λ_=>rfl) λ_ _=>rfl
 .show L.nR id/\(τ.bo id).isSome=true↔(τ.bo id).isSome=true;refine⟨λh=>h.2,λh=>⟨(r.hv id).2 ?_,h⟩⟩;obtain⟨b,jS⟩:=gn.1 h;obtain⟨b',h1,_⟩:=hb.get jS;rw[h1];rfl
 .obtain ⟨b',h1,h2⟩:=hb.get k;exact h2.1 (r.hl (by rw[<-jZ];exact h) id b' h1)
def CL(σ:PS):List Nat->List (Nat×Bx)
 | []=>[]
 |i::l=>match σ.bo i with
  |some b=>(i,b)::CL σ l
  |none=>CL σ l
def PS.cut(ts bs:List Nat)(σ:PS):PS:={ n:=σ.n,nl:=σ.nl,t:=ts.map λt=>(t,σ.get t),b:=CL σ bs }
def vJ.cut(σ:PS):∀ ts:List Nat,vJ σ (ts.map λt=>(t,σ.get t))
 | []=>trivial
 |_::l=>⟨PV.le.refl _,vJ.cut σ l⟩
def uM.cut(σ:PS):∀ bs:List Nat,uM σ (CL σ bs)
 | []=>trivial
 |i::l=>by
  unfold CL;split
  .rename_i b h;exact⟨⟨b,h,Bx.le.refl b⟩,uM.cut σ l⟩
  .exact uM.cut σ l
def PS.le.cut{σ:PS}(ts bs:List Nat)(hr:El (σ.cut ts bs)=true):PS.le σ (σ.cut ts bs):=PS.le.oW rfl rfl hr (vJ.cut σ ts) (uM.cut σ bs)
def Ex.to:Ex->Exit
 | .normal=>.normal
 | .exit id=>.exit id
 | .ret=>.ret
def Sp(P:Program)(K:World->Prop)(c:Code)(σ:PS)(Q:Ex->PS->Prop):Prop:=
 ∀ (w0:World) (B:Nat->Prop) (a:Act) (w:World) (L:Lk),Gd P K w0 B->jr w0 B σ a w L->c.wp P (λe a' w'=>∃ ex τ L',e=ex.to/\Q ex τ/\jr w0 B τ a' w' L') a w
def Sp.mono{P:Program}{K:World->Prop}{c:Code}{σ:PS}{Q Q':Ex->PS->Prop}(h:Sp P K c σ Q)(hq:∀ e τ,Q e τ->Q' e τ):Sp P K c σ Q':=
 λw0 B a w L g r=>Code.wp_mono (λ_ _ _ ⟨ex,τ,L',h1,h2,h3⟩=>⟨ex,τ,L',h1,hq _ _ h2,h3⟩) (h w0 B a w L g r)
abbrev Lo:=List (Nat×(Ex×PS×List Nat×List Nat))
section
variable {P:Program} {K:World->Prop} {T:List TI} {O:pn} {lo:Lo}
def Sp.loop{b:Code}{Q:Ex->PS->Prop}(J:Nat->PS->Prop)(nG:∀ n σ,J n σ->Sp P K b σ (λe τ=>(e = .normal/\∃ m,m<n/\J m τ)\/(e ≠ .normal/\Q e τ))):
 ∀ n σ,J n σ->Sp P K (.loop b) σ Q:=by
 intro n0 σ0 hJ0 w0 B a0 w1 L0 g r0 bf k cs;have key:∀ n σ a w L,J n σ->jr w0 B σ a w L ->
  ∃ e a' w',(∃ ex τ L',e=ex.to/\Q ex τ/\jr w0 B τ a' w' L')/\Arrives P (lone (bf.at a (.code b :: .inLoop b::k)) cs w) bf k cs e a' w':=by
  intro n
  induction n using Nat.strongRecOn with
  |_ n ih=>
   intro σ a w L hJ r;obtain⟨e,a₁,w₁,⟨ex,υ,L2,rfl,hq,mV⟩,uY⟩:=nG n σ hJ w0 B a w L g r bf (.inLoop b::k) cs;rcases hq with⟨rfl,m,hm,hJm⟩|⟨kV,hq⟩
   .obtain ⟨e₂,a₂,w₂,KA,J2⟩:=ih m hm υ a₁ w₁ L2 hJm mV;exact⟨e₂,a₂,w₂,KA,.of_steps (Steps.trans uY (.one step_inLoop)) J2⟩
   .cases ex with
    |normal=>exact absurd rfl kV
    |exit i=>exact⟨_,a₁,w₁,⟨.exit i,υ,L2,rfl,hq,mV⟩,.pass (x:=.inLoop b) rfl (λ_ _=>.inl (by simp[Ex.to])) uY⟩
    |ret=>exact⟨_,a₁,w₁,⟨.ret,υ,L2,rfl,hq,mV⟩,.pass (x:=.inLoop b) rfl (λ_ _=>.inl (by simp[Ex.to])) uY⟩
 obtain⟨e,a',w',hq,uY⟩:=key n0 σ0 a0 w1 L0 hJ0 r0;exact⟨e,a',w',hq,.of_steps (.one step_loop) uY⟩
def aiA{w0:World}{B:Nat->Prop}{σ:PS}{a:Act}{w:World}{L:Lk}(hB:∀ b,B b->b<w0.heap.size)(r:jr w0 B σ a w L){p:PV}{e:E}(h:Ic σ p=some e){v:Value}(hv:nx (jv B L) (j9 L) L w p v):
 iz B (λ_=>True) w e v:=by
 have Qj:∀ id x,L.own id x->¬B x:=λid x hx hb=>by have:=hB x hb;have:=(r.hw id x hx).1;omega
 have own:∀ (v:Value) (T:TypeId) (n sz:Nat) (f:Nat->Nat->Value) (nl:Bool) (el:Nat->Nat->E) (id:Nat),pF w v T n sz f nl->(∀ x,v.ownBlock=some x->L.own id x) ->
  (∀ i j,i<n->j<sz->iz (jv B L) (j9 L) w (el i j) (f i j)/\(el i j).nr 2=true)->iz B (λ_=>True) w (.sl nl n sz el) v:=by
  intro v T n sz f nl el id h1 h2 h3;rcases h1 with⟨rfl,rfl⟩|⟨b,c,cur,rfl,hg,o0,nE,ny,lk,jZ⟩
  .exact .sl nl 0 sz el none 0 f (bp _) aF (λ_=>rfl) (λi j hi=>absurd hi (bC i)) (λi j hi=>absurd hi (bC i)) (λi j hi=>absurd hi (bC i)) (λi j hi=>absurd hi (bC i))
  .have qB:=h2 b rfl;refine .sl nl n sz el _ c f o0 (by unfold maxLen at nE;omega) (λh=>by cases h) (λi j hi hj=>⟨(lk i j hi hj).2,λhn=>jZ hn _ (dI (lk i j hi hj).1)⟩) (λi j hi hj=>(h3 i j hi hj).2)
    (λi j hi hj=>⟨b,0,rfl,Qj id b qB,(r.hw id b qB).2,?_⟩) (λi j hi hj=>((h3 i j hi hj).1.nX (λ_ h=>.inl h) (λ_ h=>h)).nr 2 (h3 i j hi hj).2)
   rw[bU];simp only[World.cell?,hg];simpa using(lk i j hi hj).1
 cases p with
 |e x=>
  simp only[Ic]at h;split at h
  .rename_i hn;cases h;exact(iz.nX (bs':=B) (br':=j9 L) (λ_ h=>.inl h) (λ_ h=>h) hv).nr 3 hn
  .cases h
 |own id=>
  obtain⟨_,rfl⟩:=hv;simp only[Ic]at h;split at h
  .rename_i nl T n sz el jS;cases h;obtain⟨f,h1,h2,h3⟩:=r.hb id _ jS;exact own _ T n sz f nl el id h1 (λx hx=>(h2 x).2 hx) h3
  .rename_i nl T1 T0 n sz len el jS;cases h;obtain⟨b,c,cur,f,h1,h2,h3,h4,h5,h6,h7,h8,h9,sU,uf⟩:=r.hb id _ jS;have qB:L.own id b:=(h9 b).2 (.inl rfl);rw[h1];refine .sl true n 1 _ _ c (λk _=>L.jm id k) h3 (by unfold maxLen at h4;omega) (λh=>by cases h) (λk j hk hj=>?_) (λk j hk hj=>rfl)
    (λk j hk hj=>⟨b,0,rfl,Qj id b qB,(r.hw id b qB).2,?_⟩) (λk j hk hj=>own _ T0 (len k) sz (f k) nl (el k) id (h8 k hk).1 (λx hx=>(h9 x).2 (.inr ⟨k,hk,hx⟩)) (h8 k hk).2)
   .obtain ⟨q1,q2⟩:=h7 _ (dI (h6 k hk aJ));exact⟨q1,λ_=>q2⟩
   .rw [bU,bW];obtain rfl:j=0:= aD ;simp only[World.cell?,h2];simpa using h6 k hk aJ 
  .cases h
 |_=>cases h
def AI(tmps:Array Value):ResultVar->Sem Value
 | .tmp t=>Pure.pure (tmps.getD t undef)
 | .cell q t=>do loadVar t (<-asAddr (tmps.getD q undef))
def Md(fn:Func)(tmps:Array Value):results fn tmps=(do
 let vs <-fn.results.mapM (AI tmps)
 Pure.pure (if h:vs.size=1 then vs[0]else .tuple vs)):=by
 unfold results;congr 1
def agJ{w0:World}{B:Nat->Prop}{σ:PS}{a:Act}{w:World}{L:Lk}(hT:me P T)(hB:∀ b,B b->b<w0.heap.size)(r:jr w0 B σ a w L){x:ResultVar}{e:E}(h:Mc T σ x=some e):
 ∃ v,(AI a.tmps x).run P w = .ok v w/\iz B (λ_=>True) w e v:=by
 cases x with
 |tmp t=>exact⟨_,rfl,aiA hB r h (r.ht t)⟩
 |cell q t=>
  simp only[Mc]at h;split at h
  .rename_i ti oA;split at h
   .rename_i l is Gi;obtain⟨b,of,vs,e1,h1,h2,h3⟩:=r.read (r.ht q) Gi (λq hq=>by simp at hq);by_cases ha:ti.isAgg=true
    .rw [bj ha]at h;split at h
     .rename_i hn;cases h;refine⟨.agg vs.toArray,?_,(iz.nX (bs':=B) (br':=j9 L) (λ_ h=>.inl h) (λ_ h=>h) h1.agg).nr 3 hn⟩;simp only[AI,e1,asAddr,Sem.run_bind,Sem.run_pure,Result.andThen_ok,Vx hT w oA ha b of vs h2 h3]
     .cases h
    .rw [bh ha]at h;split at h
     .rename_i y;split at h
      .rename_i hn;cases h;obtain⟨z,zs,rfl,hz,_⟩:=h1.lV;refine⟨z,?_,(iz.nX (bs':=B) (br':=j9 L) (λ_ h=>.inl h) (λ_ h=>h) hz).nr 3 hn⟩;simp only[AI,e1,asAddr,Sem.run_bind,Sem.run_pure,Result.andThen_ok,Mm hT w oA (by simpa using ha) b of z (by simpa using h3 0 z rfl)]
      .cases h
     .cases h
   .cases h
  .cases h
def agH{w0:World}{B:Nat->Prop}{σ:PS}{a:Act}{w:World}{L:Lk}(hT:me P T)(hB:∀ b,B b->b<w0.heap.size)(r:jr w0 B σ a w L){l:List ResultVar}{es:List E}(h:Ce T σ l=some es):
 ∃ vs,(l.mapM (AI a.tmps)).run P w = .ok vs w/\kj B (λ_=>True) w es vs:=by
 induction l generalizing es with
 |nil=>simp only[Ce,bO]at h;subst h;exact⟨[],rfl,.nil _ _ _⟩
 |cons x l ih=>
  simp only[Ce]at h;split at h
  .rename_i e es' h1 h2;cases h;obtain⟨v,q1,q2⟩:=agJ hT hB r h1;obtain⟨vs,p1,p2⟩:=ih h2;refine⟨v::vs,?_,.cons q2 p2⟩;rw[fg];simp only[Sem.run_bind,q1,Result.andThen_ok,p1,Sem.run_pure]
  .cases h
def agI{w0:World}{B:Nat->Prop}{σ:PS}{a:Act}{w:World}{L:Lk}(hT:me P T)(hB:∀ b,B b->b<w0.heap.size)(r:jr w0 B σ a w L){fn:Func}{e:E}(h:Hk T fn σ=some e):
 ∃ v,(results fn a.tmps).run P w = .ok v w/\iz B (λ_=>True) w e v:=by
 unfold Hk at h;have main:∀ es,Ce T σ fn.results.toList=some es->∃ vs:List Value,(fn.results.mapM (AI a.tmps)).run P w = .ok vs.toArray w/\kj B (λ_=>True) w es vs:=by
  intro es hes;obtain⟨vs,h1,h2⟩:=agH hT hB r hes;refine⟨vs,?_,h2⟩;rw[akq];simp only[Sem.run_map,h1,Result.andThen_ok]
 split at h
 .rename_i y hy;cases h;obtain⟨vs,h1,h2⟩:=main _ hy;obtain⟨v,vs',rfl,hv,zM⟩:=h2.lV;have:=zM.ph;subst this;refine⟨v,?_,hv⟩;rw[Md,Sem.run_bind,h1];simp
 .rename_i l kV hl;cases h;obtain⟨vs,h1,h2⟩:=main _ hl;refine⟨.tuple vs.toArray,?_,h2.hH⟩;rw[Md,Sem.run_bind,h1];have hlen:¬vs.length=1:=by
   rw[h2.len];intro e1
   match l,e1 with
   | [y],_=>exact kV y rfl
  simp[hlen]
 .cases h
def ab5(args:List E):∀ (k t:Nat),look (Du k args) t=if k<=t then(args[t-k]?).map .e else none:=by
 induction args with
 |nil=>intro k t;simp[Du,look]
 |cons x l ih=>
  intro k t;simp only[Du];rw[sD,ih (k+1) t];by_cases h:k=t
  .subst h;simp
  .rw [bh h];by_cases h2:k<=t
   .rw [bj aD,bj h2,(aD:t-k=(t-(k+1))+1)];simp
   .rw [bh aD,bh h2]
def jr.init{B:Nat->Prop}{w:World}{fn:Func}{args:List E}{vs:List Value}(hr:kj B (λ_=>False) w args vs)(hn:args.length<=fn.ntmps)(nl:Bool)(_hB:∀ b,B b->b<w.heap.size/\oe w b):
 jr w B (yx fn nl args) { tmps:=vs.toArray++Array.replicate (fn.ntmps-vs.toArray.size) undef,defers:=[] } w ⟨λ_=>False,λ_ _=>False,λ_=>undef,λ_ _=>undef⟩:=by
 have hlen:=hr.len;refine⟨rfl,by simp[yx];omega,λt=>?_,λid b hb=>(by cases hb),λid=>⟨λh=>h.elim,λh=>(by cases h)⟩,λ_ _ h=>h.elim,λ_ _ h=>h.elim,λ_ _ _ h=>h.elim,Below.refl _ _,λ_ id b hb=>(by cases hb)⟩;have hg:(yx fn nl args).get t=((args[t]?).map PV.e).getD (.e .any):=by
  unfold PS.get yx;rw[ab5];simp
 rw[hg];by_cases ht:t<args.length
 .have yo:t<vs.length:= aD ;rw[bt ht];have hv:(vs.toArray++Array.replicate (fn.ntmps-vs.toArray.size) undef).getD t undef=vs[t]:=by
   simp[Array.getElem?_append,yo]
  show iz _ _ _ _ _;rw[hv];exact(hr.kZ t _ _ (bt ht) (bt yo)).nX (λb h=>h.elim id λ⟨_,h⟩=>h.elim) (λ_ ⟨_,h⟩=>h.elim)
 .rw [bR aD];exact .any _
def PC.Ld(hT:me P T)(hm:P.follows .mixedOrders=true)(hp:∀ w w',K w->Below w.heap.size w w'->K w'){f:FuncId}{fn:Func}{c:Code}{args:List E}{jQ:E}(vc:∀ (vs:Array Value) (w:World),(callFunc f vs).run P w = .ok (.enter f vs) w)
 (hf:P.funcs[f]? = some fn) (hb:fn.body=some c) (hn:args.length<=fn.ntmps) (nl:Bool)
 (h:Sp P K c (yx fn nl args) (λe τ=>(e = .ret\/e = .normal)/\∃ r,Hk T fn τ=some r/\∀ (bs br:Nat->Prop) (w:World) (v:Value),iz bs br w r v->iz bs br w jQ v)):PC P K f args jQ:=by
 refine⟨vc,λw B vs hK hB hr=>calls_of_wp hf hb ?_⟩;have tc:=jr.init (fn:=fn) hr hn nl hB;refine Code.wp_mono ?_ (h w B _ w _ ⟨hK,hp,hB⟩ tc);rintro e a' w' ⟨ex,τ,L',rfl,⟨he,r,Dh,hle⟩,vm⟩;obtain⟨v,h1,h2⟩:=agI hT (λb hb=>(hB b hb).1) vm Dh;have De:a'.defers=[]/\∃ v,(results fn a'.tmps).run P w' = .ok v w'/\∃ v',Ending.returned v = .returned v'/\Below w.heap.size w w'/\iz B (λ_=>True) w' jQ v':=⟨vm.hd,v,h1,v,rfl,vm.he,hle _ _ _ _ h2⟩
 rcases he with rfl|rfl
 .exact De
 .exact De
def tK.Ld(hT:me P T)(hm:P.follows .mixedOrders=true)(hp:∀ w w',K w->Below w.heap.size w w'->K w'){f:FuncId}{fn:Func}{c:Code}{args:List E}(vc:∀ (vs:Array Value) (w:World),(callFunc f vs).run P w = .ok (.enter f vs) w)
 (hf:P.funcs[f]? = some fn) (hb:fn.body=some c) (hn:args.length<=fn.ntmps) (nl:Bool) {nl':Bool} {T0:TypeId} {n sz:Nat} {el:Nat->Nat->E}
 (h:Sp P K c (yx fn nl args) (λe τ=>(e = .ret\/e = .normal)/\∃ t id b,fn.results.toList=[.tmp t]/\τ.get t = .own id/\τ.bo id=some b/\∀ (bs br:Nat->Prop) (L:Lk) (w:World),qN bs br L w id b->qN bs br L w id (.row nl' T0 n sz el))):tK P K f args nl' T0 n sz el:=by
 refine⟨vc,λw B vs hK hB hr=>calls_of_wp hf hb ?_⟩;have tc:=jr.init (fn:=fn) hr hn nl hB;refine Code.wp_mono ?_ (h w B _ w _ ⟨hK,hp,hB⟩ tc);rintro e a' w' ⟨ex,τ,L',rfl,⟨he,t,id,b,Dh,hg,jS,hle⟩,vm⟩;have ho:=vm.ht t;rw[hg]at ho;obtain⟨uk,hv⟩:=ho;obtain⟨f0,h1,h2,h3⟩:=hle _ _ _ _ (vm.hb id b jS);have lB:(results fn a'.tmps).run P w' = .ok (L'.val id) w':=by
  rw[Md,Sem.run_bind,akq,Dh,Sem.run_map,fg];simp only[AI,Sem.run_bind,Sem.run_pure,Result.andThen_ok,List.mapM_nil,hv];simp
 have De:a'.defers=[]/\∃ v,(results fn a'.tmps).run P w' = .ok v w'/\∃ v',Ending.returned v = .returned v'/\Below w.heap.size w w'/\∃ g,pF w' v' T0 n sz g nl'/\(∀ x,v'.ownBlock=some x->w.heap.size<=x/\x<w'.heap.size) /\
  ∀ i j,i<n->j<sz->iz (λb=>B b\/v'.ownBlock=some b) (λ_=>True) w' (el i j) (g i j)/\(el i j).nr 2=true:=by
  refine⟨vm.hd,_,lB,_,rfl,vm.he,f0,h1,λx hx=>vm.hw id x ((h2 x).2 hx),λi j hi hj=>⟨?_,(h3 i j hi hj).2⟩⟩;refine((h3 i j hi hj).1.nX (bs':=λb=>B b\/(L'.val id).ownBlock=some b) (br':=j9 L') (λb hb=>?_) (λ_ h=>h)).nr 2 (h3 i j hi hj).2;rcases hb with hb|hb
  .exact .inl hb
  .exact .inr ⟨id,(h2 b).2 hb⟩
 rcases he with rfl|rfl
 .exact De
 .exact De
end
def EP(P:Program):List TI->Prop
 | []=>True
 |x::l=>(P.underlying x.id=some x.d/\P.info? x.id=some x.i)/\EP P l
def EP.ok{P:Program}{T:List TI}(h:EP P T):me P T:=by
 induction T with
 |nil=>intro x hx;simp at hx
 |cons y l ih=>
  intro x hx;rcases cM.1 hx with hx|hx
  .subst hx;exact h.1
  .exact ih h.2 x hx
def E.le(p q:E):Prop:=∀ (bs br:Nat->Prop) (w:World) (v:Value),iz bs br w p v->iz bs br w q v
def E.le.refl(p:E):E.le p p:=λ_ _ _ _ h=>h
def E.le.iD{p q:E}(h:p=q):E.le p q:=h▸E.le.refl p
def E.le.trans{p q r:E}(h:E.le p q)(k:E.le q r):E.le p r:=λ_ _ _ _ x=>k _ _ _ _ (h _ _ _ _ x)
def PV.le.e{p q:E}(h:E.le p q):ai p q:=λbs br _ w v k=>h bs br w v k
def PV.le.bool{a b:Bool}(h:a=b):ai (.v (.bool a)) (.v (.bool b)):=PV.le.e (.iD (by rw[h]))
def PV.le.int{k:IntKind}{a b:Int}(h:a=b):ai (.v (.int k a)) (.v (.int k b)):=PV.le.e (.iD (by rw[h]))
def an(a b:Int)(h:a=b):ai (.v (.int .i64 a)) (.v (.int .i64 b)):=.int h
inductive sf:List E->List E->Prop
 |nil:sf [] []
 |cons {p q:E} {l m:List E} (h:E.le p q) (k:sf l m):sf (p::l) (q::m)
def sf.refl:∀ l:List E,sf l l
 | []=>.nil
 |p::l=>.cons (.refl p) (sf.refl l)
def sf.Hj{l m:List E}(h:sf l m){bs br:Nat->Prop}{w:World}{vs:List Value}(k:kj bs br w l vs):kj bs br w m vs:=by
 induction h generalizing vs with
 |nil=>exact k
 |cons h _ ih=>
  obtain⟨x,ys,rfl,h1,h2⟩:=k.lV;exact .cons (h _ _ _ _ h1) (ih h2)
def E.le.agg{l m:List E}(h:sf l m):E.le (.agg l) (.agg m):=λ_ _ _ _ k=>by
 obtain⟨vs,rfl,hr⟩:=iz.AX k;exact(h.Hj hr).agg
def E.le.hH{l m:List E}(h:sf l m):E.le (.hH l) (.hH m):=λ_ _ _ _ k=>by
 obtain⟨vs,rfl,hr⟩:=iz.Wn k;exact(h.Hj hr).hH
def E.le.nil(nl:Bool)(sz:Nat)(el:Nat->Nat->E):E.le (.v (.slice none 0 0)) (.sl nl 0 sz el):=λ_ _ _ _ k=>by
 obtain rfl:=iz.kE k;exact .sl nl 0 sz el none 0 (λ_ _=>undef) (bp _) aF (λ_=>rfl) (λi j h=>absurd h (bC i)) (λi j h=>absurd h (bC i)) (λi j h=>absurd h (bC i)) (λi j h=>absurd h (bC i))
def E.le.sl{nl:Bool}{n sz:Nat}{el el':Nat->Nat->E}(h:∀ i j,i<n->j<sz->E.le (el i j) (el' i j)/\(el' i j).nr 2=true):E.le (.sl nl n sz el) (.sl nl n sz el'):=λbs br w v k=>by
 cases k with
 |sl _ _ _ _ A c f hc hm h0 hl hr cell kk=>
  exact .sl nl n sz el' A c f hc hm h0 hl (λi j hi hj=>(h i j hi hj).2) cell λi j hi hj=>(h i j hi hj).1 _ _ _ _ (kk i j hi hj)
def PC.le{P:Program}{K:World->Prop}{f:FuncId}{args args':List E}{jQ res':E}(h:PC P K f args jQ)(ha:sf args' args)(hr:E.le jQ res'):PC P K f args' res':=
 ⟨h.call,λw B vs hK hB qZ=>(h.run w B vs hK hB (ha.Hj qZ)).mono λ_ _ ⟨v,h1,h2,h3⟩=>⟨v,h1,h2,hr _ _ _ _ h3⟩⟩
def PC.jQ{P:Program}{K:World->Prop}{f:FuncId}{args:List E}{jQ res':E}(h:PC P K f args jQ)(hr:E.le jQ res'):PC P K f args res':=h.le (sf.refl _) hr
end Go.Proofs.YtkjkcjhacddojaaGreatDoor.Pu
namespace Go.Proofs.YtkjkcjhacddojaaGreatDoor
open Go.RowKit Fp
def tu(A:Option Addr)(c:Nat)(L:List Nat)(w:World)(hs:Sl w A c L):
 Calls prog 274 #[.slice A L.length c] w λe w'=>e = .returned (.slice A (gT L).length c)/\w=w':=by
 have hc:=hs.cap;have hl:=hs.pg;go_enter func274,ntmps274;go_wp2;go_loop [3] (λi=>∃ k:Nat,k<=L.length/\i = .int .i64 k/\lI L=lI (L.take k)) (λi=>(intOf i).toNat)
 case atStart=>exact⟨L.length,bp _,rfl,aJ⟩
 case round=>
  obtain⟨k,hk,rfl,ht⟩:=hrel;have HT:=akw ht;clear ht;by_cases h0:0<k
  .obtain ⟨ab,ao,rfl,hb,h1⟩:=hs.k0 (i:=k-1) aD ;have e1:((k:Int)-1).toNat=k-1:= aD ;have Z:=akw (Ib L (k-1) aD);have NZ:=akw (Ia L (k-1) aD);rw[eQ h0]at Z NZ;generalize L[k-1]=x at *
   by_cases hx:x=0
   .have Hx:=akw hx;clear hx;have hb:((x:Int)==0)=true:=by have:=Hx.out;simp;omega
    go_wp2;go_round
    case rel=>exact⟨k-1,aD,by go_num,by rw[HT.out,Z.out Hx.out]⟩
    case measure=>simp[intOf];omega
   .have hb:((x:Int)==0)=false:= aR ;go_wp2;go_ret;exact⟨Hn (by show _=lI L;rw[HT.out,NZ.out hx]),rfl⟩
  .go_wp2;go_ret;have:k=0:= aD ;subst this;exact⟨Hn (by show _=lI L;rw[HT.out];rfl),rfl⟩
def Zl(A:Option Addr)(c:Nat)(L:List Nat)(w:World)(hs:Sl w A c L):
 Calls prog 299 #[.slice A L.length c] w λe w'=>e = .returned (.slice A (gT L).length c)/\w=w':=by
 have hc:=hs.cap;have hl:=hs.pg;go_enter func299,ntmps299;go_wp2;go_loop [3] (λi=>∃ k:Nat,k<=L.length/\i = .int .i64 k/\lI L=lI (L.take k)) (λi=>(intOf i).toNat)
 case atStart=>exact⟨L.length,bp _,rfl,aJ⟩
 case round=>
  obtain⟨k,hk,rfl,ht⟩:=hrel;have HT:=akw ht;clear ht;by_cases h0:0<k
  .obtain ⟨ab,ao,rfl,hb,h1⟩:=hs.k0 (i:=k-1) aD ;have e1:((k:Int)-1).toNat=k-1:= aD ;have Z:=akw (Ib L (k-1) aD);have NZ:=akw (Ia L (k-1) aD);rw[eQ h0]at Z NZ;generalize L[k-1]=x at *
   by_cases hx:x=0
   .have Hx:=akw hx;clear hx;have hb:((x:Int)==0)=true:=by have:=Hx.out;simp;omega
    go_wp2;go_round
    case rel=>exact⟨k-1,aD,by go_num,by rw[HT.out,Z.out Hx.out]⟩
    case measure=>simp[intOf];omega
   .have hb:((x:Int)==0)=false:= aR ;go_wp2;go_ret;exact⟨Hn (by show _=lI L;rw[HT.out,NZ.out hx]),rfl⟩
  .go_wp2;go_ret;have:k=0:= aD ;subst this;exact⟨Hn (by show _=lI L;rw[HT.out];rfl),rfl⟩
def Sl.sN{w:World}{A:Option Addr}{c:Nat}{L:List Nat}(h:Sl w A c L):Sl w A c (gT L):=(h.take (lI L)).ZM (Ey L).symm
def XQ:Go.Shelf.Ren:=⟨λ|128=>345|n=>n,λ|51=>150|3=>3|4=>4|46=>166|5=>5|9=>9|n=>n,λ|n=>n⟩
def XN:Go.Proofs.Lays.n128 prog XQ:={
 mixed:= aG 
 f128:=func345.trans (congrArg some aG)
 t3:=underlying3
 a3:=Tryz.isAgg3
 z3:=Tryz.sizeOf3
 v3:=Tryz.zeroValue3
 t4:=underlying4
 a4:=Tryz.isAgg4
 z4:=Tryz.sizeOf4
 v4:=Tryz.zeroValue4
 t5:=underlying5
 a5:=Tryz.isAgg5
 z5:=Tryz.sizeOf5
 v5:=Tryz.zeroValue5
 t9:=underlying9
 a9:=Tryz.isAgg9
 z9:=Tryz.sizeOf9
 v9:=Tryz.zeroValue9
 t46:=underlying166
 a46:=Tryz.isAgg166
 z46:=Tryz.sizeOf166
 v46:=Tryz.zeroValue166
 t51:=underlying150
 a51:=Tryz.isAgg150
 z51:=Tryz.sizeOf150
 v51:=Tryz.zeroValue150 }
def RV(x:Nat)(hx:x<4294967296)(w:World):
 Calls prog 345 #[.int .u32 x] w λe w'=>e = .returned (.int .i64 (gU x))/\w=w':=by
 refine(Any.bits_Len32 XN x w aD aD).mono ?_;rintro e w' ⟨rfl,rfl⟩;rw[fD,XG x hx];exact⟨rfl,rfl⟩
def aiH(x k idx:Nat)(w:World)(lP:((x:Int)==0)=false)
 (key:bits BinOp.and IntKind.u32 (x:Int) (-(x:Int)%4294967296)*125613361%4294967296/134217728=(idx:Int))
 (hi:idx<32) (hk:k<32) (lk:w.cell? ⟨0,idx,none⟩=some (.int .u8 k)):
 Calls prog 355 #[.int .u32 x] w λe w'=>e = .returned (.int .i64 k)/\w=w':=by
 go_enter func355,ntmps355;go_wp2_with (simp only[key])
 go_ret;exact⟨rfl,rfl⟩
def aiG(x:Nat)(h0:x≠0)(hx:x<4294967296)(w:World)(hT:Tb w):
 Calls prog 355 #[.int .u32 x] w λe w'=>e = .returned (.int .i64 (jY x))/\w=w':=by
 rw[<-Yy x h0 hx];obtain⟨mJ,hk⟩:=Lib.lowest_bit 32 x h0 hx;obtain⟨hi,abW⟩:=Lib.deBruijn32_at _ hk;have lk:=hT _ hi;rw[abW]at lk;exact aiH x _ _ w aR (tz32_key x _ hx h0 mJ) hi hk lk
def i64_in(n:Int)(h0:-9223372036854775808<=n)(h1:n<=9223372036854775807):IntKind.i64.wrap n=n:=by rw[IntKind.wrap_i64];omega
def NH{L M:List Nat}{n:Nat}(hs:iw L)(hM:gT L=M)(hn:M.length=n+1):
 ∃ x,M[n]? = some x/\x<4294967296/\(32*(n:Int)+(gU x:Int))=(gU (val L):Int)/\gU x<=32:=by
 have hk:iw M:=hM▸hs.gT;have ht:mG M:=hM▸xM L;rcases ajQ M with rfl|⟨l,x,rfl⟩
 .simp at hn
 .simp only[ajR,cv,fW,Nat.add_right_cancel_iff]at hn hk ht hM ⊢;subst hn;have hx:x≠0:=by simpa using(y4 _).1 ht aJ 
  have iE:x<4294967296:=hk x aJ;refine⟨x,aJ,iE,?_,kB.2 iE⟩;have:=XP hk hx;rw[<-hM,oc]at this;omega
def SE(A:Option Addr)(c:Nat)(L:List Nat)(w:World)(hs:Sl w A c L)(hlen:L.length<=100000000):
 Calls prog 294 #[.slice A L.length c] w λe w'=>e = .returned (.int .i64 (gU (val L)))/\w=w':=by
 have hT:=akw (tu A c L w hs);have kr:=hs.sN;have nd:=n9 L;unfold lI at nd;generalize hM:gT L=M at *
 obtain⟨n,hn⟩:∃ n,n=M.length:=⟨_,rfl⟩
 rw[<-hn]at hT nd;rcases n with _|n
 .have hv:gU (val L)=0:=by rw[<-oc,hM,dq hn.symm];rfl
  have HV:=akw hv;clear hv hM hn;go_enter func294,ntmps294;go_wp2_with (go_at_call 274;refine hT.out.mono ?_;rintro e w' ⟨rfl,rfl⟩)
  go_ret;exact⟨by rw[HV.out];rfl,rfl⟩
 .obtain ⟨x,hx,iE,hb,J6⟩:=NH hs.ok hM hn.symm;obtain⟨ab,ao,rfl,_,lk⟩:=kr.cell _ _ hx;have HB:=akw hb;clear hb hM hn hx;go_enter func294,ntmps294;go_wp2_with (first|(go_at_call 274;refine hT.out.mono ?_;rintro e w' ⟨rfl,rfl⟩)|(go_at_call 345;refine(RV x iE _).mono ?_;rintro e w' ⟨rfl,rfl⟩))
  go_ret;exact⟨nS HB.out,rfl⟩
def XO{x:Nat}(h:x≠0):gU x=gU (x/2)+1:=by
 by_cases h1:x/2=0
 .have:x=1:= aD ;subst this;rfl
 .have e1:=qK h1;have e2:=px (x/2);have e3:=mZ h1;generalize gU (x/2)=k at *
  obtain⟨j,rfl⟩:∃ j,k=j+1:=⟨k-1,aD⟩
  rw[dB]at e1;refine tR ?_ ?_
  .rw [bE];omega
  .rw [bE];omega
def U6(A:Option Addr)(c:Nat)(L:List Nat)(w:World)(hs:Sl w A c L)(ht:mG L)(hlen:L.length<=100000000):
 Calls prog 170 #[.slice A L.length c] w λe w'=>e = .returned (.int .i64 (gU (val L)))/\w=w':=by
 obtain⟨n,hn⟩:∃ n,n=L.length:=⟨_,rfl⟩
 rcases n with _|n
 .have hv:gU (val L)=0:=by rw[dq hn.symm];rfl
  have HV:=akw hv;rw[<-hn];clear hv ht hn;go_enter func170,ntmps170;go_wp2;go_ret;exact⟨by rw[HV.out];rfl,rfl⟩
 .obtain ⟨x,hx,iE,hb,J6⟩:=NH hs.ok ht hn.symm;obtain⟨ab,ao,rfl,_,lk⟩:=hs.cell _ _ hx;have HB:=akw hb;rw[<-hn]at hlen ⊢;clear hb ht hn hx;go_enter func170,ntmps170;go_wp2;go_loop [3,4] (λm y=>∃ (k z:Nat),z<4294967296/\y = .int .u32 z/\m = .int .i64 k/\k<=10000000000/\k+gU z=gU (val L)) (λ_ y=>(intOf y).toNat)
  case atStart=>exact⟨32*n,x,iE,rfl,by go_num,aD,by have:=HB.out;omega⟩
  case round=>
   obtain⟨k,z,hz,rfl,rfl,hk,he⟩:=hrel;have HE:=akw he;clear he;by_cases h0:0<z
   .have hh:=akw (XO (x:=z) aD);have rp:k<=3300000000:=by have:=HE.out;have:=HB.out;omega
    go_wp2;go_round
    case rel=>exact⟨k+1,z/2,aD,by go_num,by go_num,aD,by rw[<-HE.out,hh.out];omega⟩
    case measure=>simp[intOf];omega
   .obtain rfl:z=0:= aD ;go_wp2;go_ret;exact⟨nS (by rw[<-HE.out];rfl),rfl⟩
def N7{L M:List Nat}(hL:iw L)(h:(gT L).length<(gT M).length):kv (val L) (val M) = -1:=by
 have:=Iq hL.gT (xM M) h;rw[oc,oc]at this;unfold kv;rw[bj this]
def N6{L M:List Nat}(hM:iw M)(h:(gT M).length<(gT L).length):kv (val L) (val M)=1:=by
 have:=Iq hM.gT (xM L) h;rw[oc,oc]at this;unfold kv;rw[bh aD,bj this]
def Fb{M N:List Nat}(hM:iw M){k x y:Nat}(hl:M.length=N.length)(hx:M[k]? = some x)(hy:N[k]? = some y)(hd:M.drop (k+1)=N.drop (k+1))(h:x<y):val M<val N:=by
 obtain⟨h1,rfl⟩:=cg.1 hx;obtain⟨h2,rfl⟩:=cg.1 hy;exact aiY hM k h1 hl hd h
def OH{M N:List Nat}{k x:Nat}(hx:M[k]? = some x)(hy:N[k]? = some x)(hd:M.drop (k+1)=N.drop (k+1)):M.drop k=N.drop k:=by
 obtain⟨h1,e1⟩:=cg.1 hx;obtain⟨h2,e2⟩:=cg.1 hy;rw[eR h1,eR h2,e1,e2,hd]
def GK(A B:Option Addr)(c d:Nat)(L M:List Nat)(w:World)(hs:Sl w A c L)(hr:Sl w B d M)(h1:L.length<=100000000)(_h2:M.length<=100000000):
 Calls prog 220 #[.slice A L.length c,.slice B M.length d] w λe w'=>e = .returned (.int .i64 (kv (val L) (val M)))/\iu w w':=by
 have hT:=akw (tu A c L w hs);have hU:=akw (tu B d M w hr);have kr:=hs.sN;have mV:=hr.sN;have nd:=n9 L;have vg:=n9 M;unfold lI at nd vg;by_cases iE:(gT L).length<(gT M).length
 .have HV:=akw (N7 hs.ok iE);have kV:(((gT L).length:Int) != ((gT M).length:Nat))=true:= aR ;generalize (gT L).length=n at *
  generalize (gT M).length=m at *
  clear kr mV;go_enter func220,ntmps220;go_wp2_with fail;refine hT.out.mono ?_;rintro e w' ⟨rfl,rfl⟩;go_wp2_with fail;refine hU.out.mono ?_;rintro e w' ⟨rfl,rfl⟩;go_wp2;go_ret;exact⟨nS (by rw[HV.out]),iu.refl _⟩
 .by_cases Bl:(gT M).length<(gT L).length
  .have HV:=akw (N6 hr.ok Bl);have kV:(((gT L).length:Int) != ((gT M).length:Nat))=true:= aR ;generalize (gT L).length=n at *
   generalize (gT M).length=m at *
   clear kr mV;go_enter func220,ntmps220;go_wp2_with fail;refine hT.out.mono ?_;rintro e w' ⟨rfl,rfl⟩;go_wp2_with fail;refine hU.out.mono ?_;rintro e w' ⟨rfl,rfl⟩;go_wp2;go_ret;exact⟨nS (by rw[HV.out]),iu.refl _⟩
  .have hl:(gT L).length=(gT M).length:= aD ;have HL:=akw hl;rw[<-hl]at hU vg;have e1:=oc L;have e2:=oc M;generalize gT L=P at *
   generalize gT M=Q at *
   have E1:=akw e1;have E2:=akw e2;clear e1 e2 hl Bl iE;obtain⟨n,hn⟩:∃ n,n=P.length:=⟨_,rfl⟩
   rw[<-hn]at hT hU vg nd;have HN:=akw hn;clear hn;have kV:((n:Int) != (n:Int))=false:= aJ ;have okP:=kr.ok;have Aj:=mV.ok;go_enter func220,ntmps220;go_wp2_with fail;refine hT.out.mono ?_;rintro e w' ⟨rfl,rfl⟩;go_wp2_with fail;refine hU.out.mono ?_;rintro e w' ⟨rfl,rfl⟩;go_wp2;go_loopw [5] (λi wr=>∃ k:Nat,k<=n/\i = .int .i64 ((k:Int)-1)/\P.drop k=Q.drop k/\iu w wr) (λi _=>(intOf i+1).toNat)
   case atStart=>exact⟨n,bp _,rfl,by rw[dZ (by rw[<-HN.out];exact bp _),dZ (by rw[<-HL.out,<-HN.out];exact bp _)],iu.refl _⟩
   case round=>
    obtain⟨k,hk,rfl,hd,hb⟩:=hrel;have HD:=akw hd;clear hd;rcases k with _|k
    .go_wp2;go_ret;have e:P=Q:=by simpa using HD.out
     exact⟨nS (by rw[<-E1.out,<-E2.out,e];unfold kv;simp),hb⟩
    .have zJ:k<P.length:=by have:=HN.out;omega
     have xi:k<Q.length:=by have:=HN.out;have:=HL.out;omega
     have HP:=akw (bt zJ);have HQ:=akw (bt xi);obtain⟨ab,ao,rfl,_,c1⟩:=(kr.below hb).k0 zJ;obtain⟨bb,bo,rfl,_,c2⟩:=(mV.below hb).k0 xi;have F8:(k:Int)<n:= aD ;have qe:(0:Int)<=k:= aD ;have x0:(0:Int)<=P[k]:= aD ;have y0:(0:Int)<=Q[k]:= aD ;generalize P[k]=x at *
     generalize Q[k]=y at *
     clear zJ xi;by_cases pt:x<y
     .have KH:(x:Int)<y:= aD ;go_wp2;go_quiet (fail);go_wp2;go_ret;have h:=Fb okP HL.out HP.out HQ.out HD.out pt;rw[E1.out,E2.out]at h;exact⟨nS (by unfold kv;rw[bj h]),below_drewN hb _⟩
     .have KH:¬(x:Int)<y:= aD ;by_cases KI:y<x
      .have KJ:(y:Int)<x:= aD ;go_wp2;go_quiet (fail);go_wp2;go_quiet (fail);go_wp2;go_ret;have h:=Fb Aj HL.out.symm HQ.out HP.out HD.out.symm KI;rw[E1.out,E2.out]at h;exact⟨nS (by unfold kv;rw[bh aD,bj h]),below_drewN (below_drewN hb _) _⟩
      .have KJ:¬(y:Int)<x:= aD ;have HX:=akw (aD:x=y);go_wp2;go_quiet (fail);go_wp2;go_quiet (fail);go_wp2;go_roundw
       case rel=>exact⟨k,aD,by go_num,OH HP.out (by rw[HX.out];exact HQ.out) HD.out,by repeat (first|exact hb|refine below_drewN ?_ _)⟩
       case measure=>simp[intOf];try omega
def U7(A B:Option Addr)(c d:Nat)(P Q:List Nat)(w:World)(kr:Sl w A c P)(mV:Sl w B d Q)(tP:mG P)(tQ:mG Q)(h1:P.length<=100000000)(_h2:Q.length<=100000000):
 Calls prog 156 #[.slice A P.length c,.slice B Q.length d] w λe w'=>e = .returned (.int .i64 (kv (val P) (val Q)))/\iu w w':=by
 have tP':gT P=P:=tP;have tQ':gT Q=Q:=tQ;by_cases iE:P.length<Q.length
 .have HV:=akw (N7 (M:=Q) kr.ok (by rw[tP',tQ'];exact iE));have kV:((P.length:Int) != (Q.length:Nat))=true:= aR ;generalize P.length=n at *
  generalize Q.length=m at *
  clear kr mV tP' tQ' tP tQ;go_enter func156,ntmps156;go_wp2;go_ret;exact⟨nS (by rw[HV.out]),iu.refl _⟩
 .by_cases Bl:Q.length<P.length
  .have HV:=akw (N6 (L:=P) mV.ok (by rw[tP',tQ'];exact Bl));have kV:((P.length:Int) != (Q.length:Nat))=true:= aR ;generalize P.length=n at *
   generalize Q.length=m at *
   clear kr mV tP' tQ' tP tQ;go_enter func156,ntmps156;go_wp2;go_ret;exact⟨nS (by rw[HV.out]),iu.refl _⟩
  .have hl:P.length=Q.length:= aD ;have HL:=akw hl;rw[<-hl];clear hl Bl iE tP' tQ' tP tQ _h2;obtain⟨n,hn⟩:∃ n,n=P.length:=⟨_,rfl⟩
   rw[<-hn]at h1 ⊢;have HN:=akw hn;clear hn;have kV:((n:Int) != (n:Int))=false:= aJ ;have okP:=kr.ok;have Aj:=mV.ok;go_enter func156,ntmps156;go_wp2;go_loopw [5] (λi wr=>∃ k:Nat,k<=n/\i = .int .i64 ((k:Int)-1)/\P.drop k=Q.drop k/\iu w wr) (λi _=>(intOf i+1).toNat)
   case atStart=>exact⟨n,bp _,rfl,by rw[dZ (by rw[<-HN.out];exact bp _),dZ (by rw[<-HL.out,<-HN.out];exact bp _)],iu.refl _⟩
   case round=>
    obtain⟨k,hk,rfl,hd,hb⟩:=hrel;have HD:=akw hd;clear hd;rcases k with _|k
    .go_wp2;go_ret;have e:P=Q:=by simpa using HD.out
     exact⟨nS (by rw[e];unfold kv;simp),hb⟩
    .have zJ:k<P.length:=by have:=HN.out;omega
     have xi:k<Q.length:=by have:=HN.out;have:=HL.out;omega
     have HP:=akw (bt zJ);have HQ:=akw (bt xi);obtain⟨ab,ao,rfl,_,c1⟩:=(kr.below hb).k0 zJ;obtain⟨bb,bo,rfl,_,c2⟩:=(mV.below hb).k0 xi;have F8:(k:Int)<n:= aD ;have qe:(0:Int)<=k:= aD ;have x0:(0:Int)<=P[k]:= aD ;have y0:(0:Int)<=Q[k]:= aD ;generalize P[k]=x at *
     generalize Q[k]=y at *
     clear zJ xi;by_cases pt:x<y
     .have KH:(x:Int)<y:= aD ;go_wp2;go_quiet (fail);go_wp2;go_ret;have h:=Fb okP HL.out HP.out HQ.out HD.out pt;exact⟨nS (by unfold kv;rw[bj h]),below_drewN hb _⟩
     .have KH:¬(x:Int)<y:= aD ;by_cases KI:y<x
      .have KJ:(y:Int)<x:= aD ;go_wp2;go_quiet (fail);go_wp2;go_quiet (fail);go_wp2;go_ret;have h:=Fb Aj HL.out.symm HQ.out HP.out HD.out.symm KI;exact⟨nS (by unfold kv;rw[bh aD,bj h]),below_drewN (below_drewN hb _) _⟩
      .have KJ:¬(y:Int)<x:= aD ;have HX:=akw (aD:x=y);go_wp2;go_quiet (fail);go_wp2;go_quiet (fail);go_wp2;go_roundw
       case rel=>exact⟨k,aD,by go_num,OH HP.out (by rw[HX.out];exact HQ.out) HD.out,by repeat (first|exact hb|refine below_drewN ?_ _)⟩
       case measure=>simp[intOf];try omega
def I3(A:Option Addr)(c:Nat)(L:List Nat)(w:World)(hs:Sl w A c L):
 Calls prog 302 #[.slice A L.length c] w λe w'=>e = .returned (.slice A L.length L.length)/\w=w':=by
 have hc:=hs.cap;have hl:=hs.pg;go_enter func302,ntmps302;go_wp2;go_ret;exact⟨rfl,rfl⟩
def Sl.NV{w:World}{A:Option Addr}{c:Nat}{L:List Nat}(h:Sl w A c L):Sl w A L.length L:=
 ⟨bp _,bM h.cap h.pg,h.ok,(λe=>by have:=h.vw e;have:=h.cap;omega),h.cell⟩
def I4(A:Option Addr)(c:Nat)(L:List Nat)(w:World)(hs:Sl w A c L)(hlen:L.length<=100000000):
 Calls prog 244 #[.slice A L.length c] w (rN w L):=by
 have hc:=hs.cap;have hl:=hs.pg;rcases A with _|ad
 .have h0:=hs.vw rfl;subst h0;have:L=[]:=dq aD;subst this;have q:=λ(w:World) (n' c':Nat)=>Lib.run_eql_slice_nil (P:=prog) w 37 _ none 0 0 n' c' underlying37
  simp only[Option.isNone_none]at q;go_enter func244,ntmps244;go_wp2;go_ret;exact⟨none,0,rfl,Sl.nil _,iu.refl _⟩
 .have q:=λ(w:World) (n' c':Nat)=>Lib.run_eql_slice_nil (P:=prog) w 37 _ (some ad) L.length c n' c' underlying37
  simp only[Option.isNone_some]at q;go_enter func244,ntmps244;have lf:([]:List Nat).length+L.length<=10000000000:= aR ;have h1:=Ow.empty w w.heap.size (bp _);have h2:=hs.alloc (.cells #[] 150);have h3:=pf (w:=w) (bp _) (.cells #[] 150);go_wp2_with (at_builtin;go_must (refine qb aI _ _ aI w.heap.size _ [] aI h1 _ _ _ L aI aI h2 lf h3 ?_);intro v' w' nW hg oj)
  obtain⟨A',c',rfl,ns⟩:=nW.sl;go_ret;exact⟨A',c',rfl,ns,(iu.alloc _ _).grown hg (pf (bp _) _) (λk hk=>by simp[Value.ownBlock]at hk;omega)⟩
def AG(A:Option Addr)(c:Nat)(L:List Nat)(w:World)(hs:Sl w A c L)(hlen:L.length<=100000000):
 Calls prog 261 #[.slice A L.length c] w (rN w (gT L)):=by
 have hc:=hs.cap;have hl:=hs.pg;have fin:∀ k:Nat,k=(gT L).length->Hid (gT L=L.take k):=λk hk=>by rw[hk];exact Ey L
 go_enter func261,ntmps261;go_wp2;go_loop [3] (λi=>∃ k:Nat,k<=L.length/\i = .int .i64 k/\lI L=lI (L.take k)) (λi=>(intOf i).toNat)
 case atStart=>exact⟨L.length,bp _,rfl,aJ⟩
 case round=>
  obtain⟨k,hk,rfl,ht⟩:=hrel;have HT:=akw ht;clear ht;have lf:([]:List Nat).length+(L.take k).length<=10000000000:=by rw[cj];simp;omega
  have HK:=akw (show k=(L.take k).length by rw[cj];omega);have h1:=Ow.empty w w.heap.size (bp _);have h2:=(hs.take k).alloc (.cells #[] 150);have h3:=pf (w:=w) (bp _) (.cells #[] 150);by_cases h0:0<k
  .obtain ⟨ab,ao,rfl,hb,BF⟩:=hs.k0 (i:=k-1) aD ;have e1:((k:Int)-1).toNat=k-1:= aD ;have Z:=akw (Ib L (k-1) aD);have NZ:=akw (Ia L (k-1) aD);rw[eQ h0]at Z NZ;generalize L[k-1]=x at *
   by_cases hx:x=0
   .have Hx:=akw hx;clear hx;have hb:((x:Int)==0)=true:=by have:=Hx.out;simp;omega
    clear fin;go_wp2;go_round
    case rel=>exact⟨k-1,aD,by go_num,by rw[HT.out,Z.out Hx.out]⟩
    case measure=>simp[intOf];omega
   .have hb:((x:Int)==0)=false:= aR ;have F:=fin k (by show k=lI L;rw[HT.out,NZ.out hx]);clear fin;go_wp2_with (at_builtin;go_must (refine qb aI _ _ aI w.heap.size _ [] aI h1 _ _ _ (L.take k) aI HK.out h2 lf h3 ?_);intro v' w' nW hg oj)
    obtain⟨A',c',rfl,ns⟩:=nW.sl;go_ret;rw[F.out];exact⟨A',c',rfl,ns,(iu.alloc _ _).grown hg (pf (bp _) _) (λk hk=>by simp[Value.ownBlock]at hk;omega)⟩
  .have:k=0:= aD ;subst this;have F:=fin 0 (by show 0=lI L;rw[HT.out];rfl);clear fin;go_wp2_with (at_builtin;go_must (refine qb aI _ _ aI w.heap.size _ [] aI h1 _ _ _ (L.take 0) aI HK.out h2 lf h3 ?_);intro v' w' nW hg oj)
   obtain⟨A',c',rfl,ns⟩:=nW.sl;go_ret;rw[F.out];exact⟨A',c',rfl,ns,(iu.alloc _ _).grown hg (pf (bp _) _) (λk hk=>by simp[Value.ownBlock]at hk;omega)⟩
def R3(A:Option Addr)(n c:Nat)(w:World):
 Calls prog 310 #[.slice A n c] w λe w'=>e = .returned (.bool (decide (256<n)))/\w=w':=by
 by_cases h:256<n
 .have h':(256:Int)<n:= aD ;go_enter func310,ntmps310;go_wp2;go_ret;exact⟨by simp[h],rfl⟩
 .have h':¬(256:Int)<n:= aD ;go_enter func310,ntmps310;go_wp2;go_ret;exact⟨aJ,rfl⟩
def II(w:World)(g:Nat)(xs:List (Option Addr×Nat×Nat)):Prop:=∀ i x,xs[i]? = some x->w.cell? ⟨g,i,none⟩=some (.slice x.1 x.2.1 x.2.2)
def vG(xs:List (Option Addr×Nat×Nat)):Bool:=xs.any λx=>decide (256<x.2.1)
def WN(xs:List (Option Addr×Nat×Nat))(w:World)(e:Ending)(w':World):Prop:=
 ∃ n:Int,e = .returned (.int .i64 n)/\(0<=n↔vG xs=true)/\w=w'
def ab3(g:Nat)(xs:List (Option Addr×Nat×Nat))(w:World)(hs:II w g xs)(hn:xs.length<=1000):
 Calls prog 358 #[.slice (some ⟨g,0,none⟩) xs.length xs.length,.func (.func 310) #[] #[]] w (WN xs w):=by
 go_enter func358,ntmps358;go_wp2;go_loop [8] (λi=>∃ k:Nat,k<=xs.length/\i = .int .i64 k/\vG (xs.take k)=false) (λi=>xs.length-(intOf i).toNat)
 case atStart=>exact⟨0,b6 _,rfl,rfl⟩
 case round=>
  obtain⟨k,hk,rfl,ht⟩:=hrel;have HT:=akw ht;clear ht;by_cases h0:k<xs.length
  .have hc:=hs k _ (bt h0);have e1:((k:Int)).toNat=k:= aD ;have ec:=WY g k;have HX:=akw (show vG (xs.take (k+1))=(vG (xs.take k)||decide (256<xs[k].2.1))by
    unfold vG;rw[fz h0,List.any_append];simp)
   have HM:=akw (ch h0);generalize xs[k]=x at *
   obtain⟨A,n,c⟩:=x;simp only at hc HX;by_cases hx:256<n
   .have hb:decide (256<n)=true:=by simp[hx]
    go_wp2_with (go_at_call 310;refine(R3 A n c _).mono ?_;rw[hb];rintro e w' ⟨rfl,rfl⟩)
    go_ret;refine⟨_,rfl,⟨λ_=>?_,λ_=> aD⟩,rfl⟩;unfold vG;rw[cE];exact⟨_,HM.out,by simpa using hx⟩
   .have hb:decide (256<n)=false:= aR ;go_wp2_with (go_at_call 310;refine(R3 A n c _).mono ?_;rw[hb];rintro e w' ⟨rfl,rfl⟩)
    go_round
    case rel=>exact⟨k+1,aD,by go_num,by rw[HX.out,HT.out,hb];rfl⟩
    case measure=>simp[intOf];omega
  .go_wp2;go_ret;have e:xs.take k=xs:=cG aD;have:=HT.out;rw[e]at this;exact⟨_,rfl,by rw[this];simp,rfl⟩
def Yu(g:Nat)(xs:List (Option Addr×Nat×Nat))(w:World)(hs:II w g xs)(hn:xs.length<=1000):
 Calls prog 309 #[.slice (some ⟨g,0,none⟩) xs.length xs.length,.func (.func 310) #[] #[]] w λe w'=>e = .returned (.bool (vG xs))/\w=w':=by
 have H:=akw (ab3 g xs w hs hn);go_enter func309,ntmps309;go_wp2_with fail;refine H.out.mono ?_;rintro e w' ⟨n,rfl,hn,rfl⟩;have HN:=akw hn;clear hn;go_wp2;go_ret;refine⟨Hm ?_,rfl⟩;have:=HN.out;cases h:vG xs<;>simp[h]at this ⊢ <;> omega
def R5(g:Nat)(xs:List (Option Addr×Nat×Nat))(w:World)(hs:II w g xs)(hn:xs.length<=1000):
 Calls prog 271 #[.slice (some ⟨g,0,none⟩) xs.length xs.length] w λe w'=>e = .returned (.bool (vG xs))/\w=w':=by
 have H:=akw (Yu g xs w hs hn);go_enter func271,ntmps271;go_wp2_with fail;refine H.out.mono ?_;rintro e w' ⟨rfl,rfl⟩;go_wp2;go_ret;exact⟨rfl,rfl⟩
def K5(g:Nat)(A:Option Addr)(n c:Nat)(w:World)(b:Bool)(h:w.cell? ⟨g,0,none⟩=some (.slice A n c))(hb:b=decide (256<n)):
 Calls prog 271 #[.slice (some ⟨g,0,none⟩) 1 1] w λe w'=>e = .returned (.bool b)/\w=w':=by
 have:=R5 g [(A,n,c)] w (λi x hx=>by
  obtain⟨h1,h2⟩:=cg.1 hx;obtain rfl:i=0:=by simp at h1;omega
  simp at h2;subst h2;exact h) aJ 
 simpa[vG,hb]using this
def R4(g:Nat)(A B:Option Addr)(n c m d:Nat)(w:World)(b:Bool)(h:w.cell? ⟨g,0,none⟩=some (.slice A n c))(k:w.cell? ⟨g,1,none⟩=some (.slice B m d))(hb:b=(decide (256<n)||decide (256<m))):
 Calls prog 271 #[.slice (some ⟨g,0,none⟩) 2 2] w λe w'=>e = .returned (.bool b)/\w=w':=by
 have:=R5 g [(A,n,c),(B,m,d)] w (λi x hx=>by
  obtain⟨h1,h2⟩:=cg.1 hx;simp at h1;rcases i with _|_|i
  .simp at h2;subst h2;exact h
  .simp at h2;subst h2;exact k
  .omega) aJ 
 simpa[vG,hb]using this
def DX(A:Option Addr)(c:Nat)(L:List Nat)(w:World)(hs:Sl w A c L)(hl:(gT L).length<=256):
 Calls prog 272 #[.slice A L.length c] w (AV w (gT L) 0):=by
 have hT:=akw (tu A c L w hs);have kr:=hs.sN;have hC:=hs.cap;have hL:=hs.pg;have H2:=akw (λw' (h:Sl w' A c (gT L))=>I3 A c (gT L) w' h);generalize gT L=M at *
 obtain⟨n,hn⟩:∃ n,n=M.length:=⟨_,rfl⟩
 rw[<-hn]at hT hl H2;have HN:=akw hn;clear hn;go_enter func272,ntmps272;go_wp2_with fail;refine hT.out.mono ?_;rintro e w' ⟨rfl,rfl⟩;go_wp2_with fail;refine(K5 _ A n c _ false ?_ aR).mono ?_
 .go_simp
 rintro e w' ⟨rfl,rfl⟩;go_wp2_with fail;refine(H2.out _ (kr.alloc _)).mono ?_;rintro e w' ⟨rfl,rfl⟩;go_wp2;go_ret2;exact⟨A,n,by rw[HN.out];rfl,by have:=kr.NV.alloc (.cells #[.slice A n c] 37);rw[HN.out]at this ⊢;exact this,iu.alloc _ _⟩
def Ij(a b:Nat)(ha:a<18446744073709551616)(hb:b<18446744073709551616):bits .or .u64 (a:Int) (b:Int)=((a |||b:Nat):Int):=by
 have hx:a |||b<2^64:=aj4 aD aD 
 have h1:(BitVec.ofInt 64 (a:Int)).toNat=a:=by
  rw[gp,gq];exact bJ aD 
 have h2:(BitVec.ofInt 64 (b:Int)).toNat=b:=by
  rw[gp,gq];exact bJ aD 
 show IntKind.u64.wrap ((BitVec.ofInt 64 (a:Int) |||BitVec.ofInt 64 (b:Int)).toNat:Int)=_;rw[BitVec.toNat_or,h1,h2,IntKind.wrap_u64];omega
def yL(a b k:Nat)(h:a<2^k):a |||b*2^k=a+b*2^k:=by
 rw[bB,fL,<-Nat.two_pow_add_eq_or_of_lt h];omega
def Sl.drop{w:World}{A:Option Addr}{c:Nat}{L:List Nat}(h:Sl w A c L)(k:Nat):Sl w (A.map (·.add k)) (c-k) (L.drop k):=
 ⟨by have:=h.cap;rw[eE];omega,bM (dP _ _) h.pg,h.ok.drop k,(λe=>by
  rcases A with _|ad
  .rw [h.vw rfl];omega
  .cases e),λi x hx=>by
  rw[eB]at hx;obtain⟨b,o,rfl,h1,h2⟩:=h.cell _ _ hx;exact⟨b,o+k,by rw[cL,zh],h1,by rw[cP];exact h2⟩⟩
def part(T:List Nat)(k:Nat):List Nat:=T.take k++List.replicate (T.length-k) 0
def aeu(T:List Nat):part T 0=List.replicate T.length 0:=by unfold part;simp
def aes(T:List Nat):part T T.length=T:=by unfold part;simp
def aet(T:List Nat)(k:Nat)(h:k<T.length):(part T k)[k]? = some 0:=by
 unfold part;rw[eD aW,cj,fM,bj aD]
def Tj(T:List Nat)(k x:Nat)(h:T[k]? = some x):(part T k).set k x=part T (k+1):=by
 obtain⟨h1,rfl⟩:=cg.1 h;unfold part;rw[List.set_append_right _ _ aW,cj,df aD,cV,
  fz h1,(aD:T.length-k=(T.length-(k+1))+1),List.replicate_succ,ajY,List.append_assoc]
 rfl
def ahG(x y s:Nat)(hx:x<4294967296)(hy:y<4294967296):
 bits BinOp.or IntKind.u64 (x:Int) ((y:Int)*4294967296)/2^s%4294967296=(((x+4294967296*y)/2^s%4294967296:Nat):Int):=by
 have e:((y:Int)*4294967296)=((y*2^32:Nat):Int):= aJ ;rw[e,Ij x (y*2^32) aD aD,yL x y 32 aD];simp[bB]
def ahH(x s:Nat):(x:Int)/2^s%4294967296=(((x+4294967296*0)/2^s%4294967296:Nat):Int):=by
 simp
def SP(A:Option Addr)(c:Nat)(L:List Nat)(n:Nat)(w:World)(hs:Sl w A c L)(hlen:L.length<=100000000)(hn:n<=65536):
 Calls prog 356 #[.slice A L.length c,.int .i64 n] w (rN w (pS (n%32) ((gT L).drop (n/32)))):=by
 have hT:=akw (tu A c L w hs);have kr:=hs.sN;have nd:=n9 L;have hC:=kr.cap;have hL:=hs.pg;unfold lI at nd;generalize gT L=M at *
 obtain⟨m,hm⟩:∃ m,m=M.length:=⟨_,rfl⟩
 rw[<-hm]at hT nd hC;have HM:=akw hm;clear hm;by_cases h0:m<=n/32
 .go_enter func356,ntmps356;go_wp2_with fail;refine hT.out.mono ?_;rintro e w' ⟨rfl,rfl⟩;go_wp2;go_ret;have:M.drop (n/32)=[]:=dZ (by rw[<-HM.out];exact h0);rw[this];exact⟨none,0,rfl,Sl.nil _,iu.refl _⟩
 .obtain ⟨ab,ao,rfl,_,_⟩:=kr.k0 (i:=0) (by have:=HM.out;omega);have hK:=kr.drop (n/32);have sV:=akw (show m-n/32=(M.drop (n/32)).length by rw[eE,HM.out]);have qW:n/32<c:= aD ;have oz:=BK (m-n/32) aD;have mA:0<m-n/32:= aD ;have qd:m-n/32<=100000000:= aD ;generalize M.drop (n/32)=K at *
  simp only[cL,zh]at hK;have uW:=akw (Hz (n%32) K);have JW:=akw (VH (n%32) K);have C5:=akw (D4 (n%32) K);generalize pS (n%32) K=T at *
  go_enter func356,ntmps356;go_wp2_with fail;refine hT.out.mono ?_;rintro e w' ⟨rfl,rfl⟩;go_wp2;go_loopw [25] (λi wr=>∃ k:Nat,k<=m-n/32/\i = .int .i64 k/\Rw wr w.heap.size (part T k)/\iu w wr) (λi _=>m-n/32-(intOf i).toNat)
  case atStart=>
   refine⟨0,b6 _,rfl,?_,iu.alloc _ _⟩;rw[aeu,uW.out,<-sV.out];exact Rw.wi _ _
  case round=>
   obtain⟨k,hk,rfl,hR,hb⟩:=hrel;by_cases iE:k<m-n/32
   .have sZ:k<K.length:=by have:=sV.out;omega
    obtain⟨ab',ao',e',_,c1⟩:=(hK.below hb).k0 sZ;cases e';have hg:=JW.out k sZ;have mi:K[k]<4294967296:=hK.ok.get sZ;have HK:=akw (bt sZ);have c3:=hR.cell (aet T k (by have:=uW.out;omega));have c4:=hR.frozen k;by_cases yl:k+1<m-n/32
    .have xh:k+1<K.length:=by have:=sV.out;omega
     obtain⟨ab',ao',e',_,c2⟩:=(hK.below hb).k0 xh;cases e';have hy:K.getD (k+1) 0=K[k+1]:=by rw[bn,bt xh];rfl
     rw[hy]at hg;have oK:K[k+1]<4294967296:=hK.ok.get xh;have HG:=akw hg;clear hg hy;generalize K[k]=x at *
     generalize K[k+1]=y at *
     clear sZ xh;go_wp2;go_roundw
     case rel=>
      rw[ahG x y (n%32) mi oK];exact⟨k+1,aD,by go_num,by rw[<-Tj T k _ HG.out];exact hR.set k _,hb.setCell (bp _) _⟩
     case measure=>simp[intOf];omega
    .have hy:K.getD (k+1) 0=0:=by rw[bn,bR (by have:=sV.out;omega)];rfl
     rw[hy]at hg;have HG:=akw hg;clear hg hy;generalize K[k]=x at *
     clear sZ;go_wp2;go_roundw
     case rel=>
      rw[ahH x (n%32)];exact⟨k+1,aD,by go_num,by rw[<-Tj T k _ HG.out];exact hR.set k _,hb.setCell (bp _) _⟩
     case measure=>simp[intOf];omega
   .go_wp2;go_ret;obtain rfl:k=m-n/32:= aD ;rw[sV.out,<-uW.out,aes]at hR;have:=hR.sl C5.out (by have:=uW.out;have:=sV.out;omega);rw[uW.out,<-sV.out]at this;exact⟨_,_,by rw[uW.out,<-sV.out];rfl,this,hb⟩
def ahE{L:List Nat}(h:iw L)(n:Nat):gT (pS (n%32) ((gT L).drop (n/32)))=gK (val L/2^n):=by
 rw[qJ (D4 _ _),MF h.gT,oc]
def MR(w:World)(A:Option Addr)(n c:Nat):(w.alloc (.cells #[.slice A n c] 37)).cell? ⟨w.heap.size,0,none⟩=some (.slice A n c):=by
 rw[World.cell?_alloc_at _ _ _ _ rfl];rfl
def MS(w:World)(A B:Option Addr)(n c m d:Nat):(w.alloc (.cells #[.slice A n c,.slice B m d] 37)).cell? ⟨w.heap.size,0,none⟩=some (.slice A n c):=by
 rw[World.cell?_alloc_at _ _ _ _ rfl];rfl
def MT(w:World)(A B:Option Addr)(n c m d:Nat):(w.alloc (.cells #[.slice A n c,.slice B m d] 37)).cell? ⟨w.heap.size,1,none⟩=some (.slice B m d):=by
 rw[World.cell?_alloc_at _ _ _ _ rfl];rfl
def SM(A:Option Addr)(c:Nat)(L:List Nat)(n:Nat)(w:World)(hs:Sl w A c L)(hlen:L.length<=256)(hn:n<=65536):
 Calls prog 301 #[.slice A L.length c,.int .i64 n] w (AV w (gK (val L/2^n)) 0):=by
 have hf:decide (256<L.length)=false:= aR ;have h3:=akw (ahE hs.ok n);have h4:(gT (pS (n%32) ((gT L).drop (n/32)))).length<=256:=by
  have h1:=n9 (pS (n%32) ((gT L).drop (n/32)));unfold lI at h1;rw[Hz,eE]at h1;have h2:=n9 L;unfold lI at h2;omega
 have H1:=akw (λw (h:Sl w A c L)=>SP A c L n w h aD hn);generalize pS (n%32) ((gT L).drop (n/32))=T at *
 go_enter func301,ntmps301;go_wp2_with fail;refine(K5 _ A _ c _ false (MR _ _ _ _) aR).mono ?_;rintro e w' ⟨rfl,rfl⟩;go_wp2_with fail;refine(H1.out _ (hs.alloc _)).mono ?_;rintro e w' ⟨A',c',rfl,ns,hb⟩;go_wp2_with fail;refine(DX A' c' T _ ns h4).mono ?_;rintro e w'' ⟨A'',c'',rfl,pH,mf⟩;go_wp2;go_ret2;rw[<-h3.out];exact⟨A'',c'',rfl,pH,(iu.alloc _ _).trans (hb.trans mf)⟩
end Go.Proofs.YtkjkcjhacddojaaGreatDoor
