/- Lemmas that the last file uses. -/
import Derived.Test.YtbbefgegdllpmaaGreatDoorM01
import Derived.Deep.DeepCutAuto
import Derived.Deep.Slices
import Derived.Carry
set_option linter.unusedSimpArgs false
set_option linter.unusedVariables false
set_option linter.defProp false
set_option maxHeartbeats 4000000
open Go.Proofs.Tryz
namespace Go.Proofs.YtbbefgegdllpmaaGreatDoor.Pu
open Go.RowKit
section
variable {P:Program} {K:World->Prop} {T:List TI} {O:qY} {w0:World} {B:Nat->Prop} {σ τ:PS} {o:Oper} {a:Act} {w:World} {L:Lk} {u:lq} {iN:Array Oper}
def adS(r:jC w0 B σ a w L){b:Bool}(h:BB iN σ o=some b):Region.wanted o (yielded iN a.tmps)=b:=by
 unfold BB at h;unfold Region.wanted;split at h
 .rename_i hg;rw[hg];simpa using h
 .rename_i j want hg;rw[hg];simp only;split at h
  .rename_i t ht;have hv:=r.ht t;have key:∀ q:Bool,σ.get t = .e (.v<|.bool q)->yielded iN a.tmps j=some q:=by
    intro q hq;rw[hq]at hv;have hv:=jd.lh hv;unfold yielded;rw[ht];simp only[Option.bind_some];have je:a.tmps[t]? = some (.bool q):=by
     by_cases hs:t<a.tmps.size
     .simpa [hs]using hv
     .simp [hs,undef]at hv
    rw[je]
   split at h
   .rename_i hq;rw[key true hq];simp only[bT]at h;subst h;cases want<;>rfl
   .rename_i hq;rw[key false hq];simp only[bT]at h;subst h;cases want<;>rfl
   .rename_i q hq;rw[hq]at hv;have hv:=jd.lh hv;have hn:yielded iN a.tmps j=none:=by
     unfold yielded;rw[ht];simp only[Option.bind_some];by_cases hs:t<a.tmps.size
     .rw [show a.tmps[t]? = some (.tuple q)by simpa[hs]using hv]
     .simp [hs]
    rw[hn];simp only[bT]at h;subst h;cases want<;>rfl
   .cases h
  .cases h
def Xw(hT:ni P T)(g:Gd P K w0 B)(r:jC w0 B σ a w L)(h:sJ P K T O iN σ o=some u)(ho:∀ q,q ∈ u.jX->q)(Kc:Act->World->Prop)(Q:Exit->Act->World->Prop)
 (hk:∀ a' w' L',jC w0 B (σ.app o.dst u) a' w' L'->Kc a' w'):
 (Region.wanted o (yielded iN a.tmps)=true/\o.wp P a w Kc Q)\/(Region.wanted o (yielded iN a.tmps)=false/\Kc (a.put o.dst undef) w):=by
 obtain⟨hi,_,⟨hw,u0,h0,rfl⟩|⟨hw,rfl⟩⟩:=Hr h
 .refine .inl ⟨adS r hw,ai3 hT g r h0 ho Kc Q λv w' L' hr hp=>hk _ w' L' ?_⟩;have kG:yb (σ.oL u0.f) o.dst=true:=by cases hd:o.dst<;>rw[hd]at hi<;>exact hi
  exact hr.put o.dst u0.r v kG hp
 .exact .inr ⟨adS r hw,hk _ w L<|r.put o.dst (.e<|.v<|.tuple #[]) undef hi<|.v _⟩
structure Left(iN:Array Oper)(listed:Array Bool)(R:List<|Nat×Oper×lq):Prop where
 mM:∀ x,x ∈ R->iN[x.1]? = some x.2.1/\listed.getD x.1 true=false
 all:∀ i,i<iN.size->listed.getD i true=false->∃ x,x ∈ R/\x.1=i
 pw:R.Pairwise λx y=>x.1<y.1/\(CE iN 3 y.2.1 x.1||DU iN x.2 y.2)=true
 ed:∀ x,x ∈ R->∀ e,e ∈ x.2.1.after->Region.binds .any e=true->e.on<x.1
 up:∀ x,x ∈ R->∀ j z,iN[j]? = some z->DW z x.1=true->listed.getD j true=false
def Left.CE{listed:Array Bool}{R:List<|Nat×Oper×lq}(h:Left iN listed R){x:Nat×Oper×lq}(hx:x ∈ R):∀ (n:Nat) (j:Nat) (z:Oper),iN[j]? = some z->Pu.CE iN n z x.1=true ->
 listed.getD j true=false/\∃ e,e ∈ z.after/\Region.binds .any e=true/\listed.getD e.on true=false/\e.on<iN.size:=by
 have direct:∀ (j:Nat) (z:Oper),iN[j]? = some z->DW z x.1=true->listed.getD j true=false/\∃ e,e ∈ z.after/\Region.binds .any e=true/\listed.getD e.on true=false/\e.on<iN.size:=by
  intro j z hz he;refine⟨h.up x hx j z hz he,?_⟩;unfold DW at he;obtain⟨e,lG,kW⟩:=eE.1 he;simp only[cr]at kW;have qh:=h.mM x hx;refine⟨e,by simpa using lG,kW.1,?_,?_⟩
  .rw [mg.1 kW.2];exact qh.2
  .rw [mg.1 kW.2];exact(dN.1 qh.1).1
 intro n
 induction n with
 |zero=>exact direct
 |succ n ih=>
  intro j z hz hr;simp only[Pu.CE,fj]at hr;rcases hr with hr|hr
  .exact direct j z hz hr
  .obtain ⟨e,lG,kW⟩:=eE.1 hr;simp only[cr]at kW;obtain⟨kW,Qy⟩:=kW;split at Qy
   .rename_i z' Zi;obtain⟨k1,_⟩:=ih e.on z' Zi Qy;have je:=(dN.1 Zi).1;obtain⟨x',xX,FF⟩:=h.all e.on je k1;refine⟨h.up x' xX j z hz ?_,e,by simpa using lG,kW,k1,je⟩;unfold DW;refine eE.2 ⟨e,lG,?_⟩;rw[kW,FF];simp
   .cases Qy
def SD{md:Region.Mode}{listed:Array Bool}{i:Nat}:i ∈ Region.ready md iN listed↔i<iN.size/\listed.getD i true=false/\∃ o,iN[i]? = some o/\∀ e,e ∈ o.after->Region.binds md e=true->listed.getD e.on false=true:=by
 unfold Region.ready;rw[List.mem_filter];simp only[dr,cr,eU];constructor
 .rintro ⟨h1,h2,h3⟩;refine⟨h1,h2,iN[i],by simp[h1],λe he hb=>?_⟩;rw[Array.getElem?_eq_getElem h1]at h3;simp only[df,atK,aue]at h3;have:=h3 e he;simpa[hb]using this
 .rintro ⟨h1,h2,o,h3,h4⟩;refine⟨h1,h2,?_⟩;rw[h3];simp only[df,atK,aue];intro e he;cases hb:Region.binds md e with
  |false=>rfl
  |true=>simpa using h4 e he hb
def aeB(hT:ni P T)(g:Gd P K w0 B){Q:Exit->Act->World->Prop}(hq:∀ a' w' L',jC w0 B τ a' w' L'->Q .normal a' w'):
 ∀ (fuel:Nat) (listed:Array Bool) (R:List<|Nat×Oper×lq) (σ:PS) (a:Act) (w:World) (L:Lk),R.length=fuel->listed.size=iN.size->Left iN listed R->(∀ x,x ∈ R->∀ q,q ∈ x.2.2.jX->q) ->
  yy P K T iN (R.map (·.2)) σ τ->jC w0 B σ a w L->wpAny P .any iN Q fuel listed a w:=by
 intro fuel
 induction fuel with
 |zero=>
  intro listed R σ a w L hlen Fu hleft ho LX r;have hR:=dZ hlen;subst hR;refine⟨?_,hq a w L<|r.qP LX⟩;apply List.eq_nil_iff_forall_not_mem.2;intro i hi;obtain⟨h1,h2,_⟩:=SD.1 hi;obtain⟨x,hx,_⟩:=hleft.all i h1 h2;simp at hx
 |succ fuel ih=>
  intro listed R σ a w L hlen Fu hleft ho LX r;refine⟨λDE=>?_,λi hi=>?_⟩
  .
   exfalso;cases R with
   |nil=>simp at hlen
   |cons x R=>
    have hx:=hleft.mM x aP;have je:x.1<iN.size:=(dN.1 hx.1).1;have:x.1 ∈ Region.ready .any iN listed:=SD.2 ⟨je,hx.2,x.2.1,hx.1,λe he hb=>by
     have Fy:=hleft.ed x aP e he hb;cases hl:listed.getD e.on true with
     |true=>
      have:e.on<listed.size:= aI ;simp[this]at hl ⊢;exact hl
     |false=>
      exfalso;obtain⟨y,hy,FH⟩:=hleft.all e.on aI hl;rcases dM.1 hy with hy|hy
      .subst hy;omega
      .have:=(atL.1 hleft.pw).1 y hy;omega⟩
    rw[DE]at this;simp at this
  .obtain ⟨h1,h2,o,h3,h4⟩:=SD.1 hi;obtain⟨y,hy,hyi⟩:=hleft.all i h1 h2;subst hyi;obtain⟨A,C,rfl⟩:=List.append_of_mem hy;have L7:=hleft.mM y hy;have alh:∀ x,x ∈ A->DU iN x.2 y.2=true:=by
    intro x hx;have hp:=(atM.1 hleft.pw).2.2 x hx y aP;rcases Bool.or_eq_true_iff.1 hp.2 with he|he
    .exfalso;obtain⟨_,e,lG,kW,vj,je⟩:=hleft.CE (show x ∈ A++y::C by simp[hx]) 3 y.1 y.2.1 L7.1 he;have ui:o=y.2.1:=by rw[L7.1]at h3;exact(atN h3).symm
     have hl:=h4 e (by rw[ui];exact lG) kW;have q8:e.on<listed.size:=by rw[Fu];exact je
     simp[q8]at hl vj;rw[hl]at vj;cases vj
    .exact he
   rw[atF,ff]at LX;obtain⟨⟨O,k1⟩,k2⟩:=LX.ajG (λx hx=>by
    obtain⟨z,hz,rfl⟩:=e9.1 hx;exact alh z hz)
   have alj:Left iN (listed.setIfInBounds y.1 true)<|A++C:=by
    have jM:∀ x,x ∈ A++C->x.1≠y.1:=by
     intro x hx;rcases eJ.1 hx with hx|hx
     .have:=((atM.1 hleft.pw).2.2 x hx y aP).1;omega
     .have:=((atL.1 (atM.1 hleft.pw).2.1).1 x hx).1;omega
    have B8:∀ x,x ∈ A++C->x ∈ A++y::C:=λx hx=>by
     rcases eJ.1 hx with hx|hx<;>simp[hx]
    refine⟨λx hx=>?_,λj hj hl=>?_,?_,λx hx=>hleft.ed x<|B8 x hx,λx hx j z hz he=>?_⟩
    .obtain ⟨q1,q2⟩:=hleft.mM x<|B8 x hx;refine⟨q1,?_⟩;have q8:x.1<listed.size:=by rw[Fu];exact(dN.1 q1).1
     simp[q8]at q2 ⊢;rw[atO _ λe=>jM x hx e.symm];exact q2
    .have LJ:j<listed.size:= aI ;by_cases Fs:j=y.1
     .subst Fs;simp[LJ]at hl
     .have:listed.getD j true=false:=by
       simp[LJ]at hl ⊢;rw[atO _ λe=>Fs e.symm]at hl;exact hl
      obtain⟨x,hx,FG⟩:=hleft.all j hj this;refine⟨x,?_,FG⟩;rcases eJ.1 hx with hx|hx
      .simp [hx]
      .rcases dM.1 hx with hx|hx
       .subst hx;exact absurd FG.symm Fs
       .simp [hx]
    .exact hleft.pw.sublist<|List.Sublist.append (List.Sublist.refl A)<|List.sublist_cons_self y C
    .have q:=hleft.up x (B8 x hx) j z hz he;have LJ:j<listed.size:=by rw[Fu];exact(dN.1 hz).1
     by_cases Fs:j=y.1
     .exfalso;subst Fs;rw[L7.1]at hz h3;cases hz;cases h3;unfold DW at he;obtain⟨e,lG,kW⟩:=eE.1 he;simp only[cr]at kW;have hl:=h4 e (by simpa using lG) kW.1;rw[mg.1 kW.2]at hl;have vj:=(hleft.mM x<|B8 x hx)
      have q8:x.1<listed.size:=by rw[Fu];exact(dN.1 vj.1).1
      have vj:=vj.2;simp[q8]at hl vj;rw[hl]at vj;cases vj
     .simp [LJ]at q ⊢;rw[atO _ λe=>Fs e.symm];exact q
   unfold wpOp;rw[L7.1];simp only;rcases Xw hT g r k1 (ho y aP) (wpAny P .any iN Q fuel<|listed.setIfInBounds y.1 true) Q (λa' w' L' hr=>ih _ (A++C) _ a' w' L' (by simp at hlen ⊢;omega) (by simpa using Fu) alj (λx hx=>ho x (by
    rcases eJ.1 hx with hx|hx<;>simp[hx])) (by rw[atF];exact k2) hr)with⟨p1,p2⟩|⟨p1,p2⟩
   .rw [bA p1];exact .inl p2
   .rw [bw<|by rw[p1];simp];exact p2
def amx{us:List<|Oper×lq}(Ba:us.map (·.1)=iN.toList)(hp:FW iN 0 us=true):
 ∃ R:List<|Nat×Oper×lq,R.map (·.2)=us/\R.length=iN.size/\Left iN (Array.replicate iN.size false) R:=by
 have key:∀ (us:List<|Oper×lq) (k:Nat),FW iN k us=true->(∀ j x,us[j]? = some x->iN[k+j]? = some x.1) ->
  ∃ R:List<|Nat×Oper×lq,R.map (·.2)=us/\(∀ j x,R[j]? = some x->x.1=k+j)/\(∀ x,x ∈ R->iN[x.1]? = some x.2.1)/\(R.Pairwise λx y=>x.1<y.1/\(CE iN 3 y.2.1 x.1||DU iN x.2 y.2)=true) /\
   (∀ x,x ∈ R->∀ e,e ∈ x.2.1.after->Region.binds .any e=true->e.on<x.1):=by
  intro us
  induction us with
  |nil=>exact λk _ _=>⟨[],rfl,λj x h=>by simp at h,λx h=>by simp at h,List.Pairwise.nil,λx h=>by simp at h⟩
  |cons x us ih=>
   intro k hp qh;simp only[FW,cr]at hp;obtain⟨R,r1,r2,r3,r4,r5⟩:=ih (k+1) hp.2 (λj y hy=>by have:=qh (j+1) y (by simpa using hy);rwa[(aI:k+(j+1)=k+1+j)]at this);have uV:∀ y,y ∈ R->k<y.1/\y.2 ∈ us:=by
    intro y hy;obtain⟨j,hj⟩:=ej.1 hy;have:=r2 j y hj;exact⟨aI,by rw[<-r1];exact e9.2 ⟨y,hy,rfl⟩⟩
   refine⟨(k,x)::R,by simp[r1],λj y hy=>?_,λy hy=>?_,?_,λy hy=>?_⟩
   .cases j with
    |zero=>simp at hy;subst hy;rfl
    |succ j=>have:=r2 j y (by simpa using hy);omega
   .rcases dM.1 hy with hy|hy
    .subst hy;have:=qh 0 x rfl;simpa using this
    .exact r3 y hy
   .rw [atL];refine⟨λy hy=>⟨(uV y hy).1,?_⟩,r4⟩;exact cL.1 hp.1.2 y.2 (uV y hy).2
   .rcases dM.1 hy with hy|hy
    .subst hy;intro e he hb;have:=cL.1 hp.1.1 e (by simpa using he);simpa[hb]using this
    .exact r5 y hy
 obtain⟨R,r1,r2,r3,r4,r5⟩:=key us 0 hp (λj x hx=>by
  rw[cJ];have:=congrArg (·[j]?) Ba;simp only[dA,hx,df]at this;simpa using this.symm)
 have hlen:R.length=iN.size:=by
  have h1:=congrArg List.length r1;have h2:=congrArg List.length Ba;simp at h1 h2;omega
 refine⟨R,r1,hlen,λx hx=>⟨r3 x hx,?_⟩,λi hi _=>?_,r4,r5,λx hx j z hz _=>by have:=(dN.1 hz).1;simp[this]⟩
 .have:=(dN.1<|r3 x hx).1;simp[this]
 .have kG:i<R.length:= aI ;exact⟨R[i],dI kG,by have:=r2 i R[i] (bS kG);omega⟩
end
def PS.le(σ τ:PS):Prop:=∀ (w0:World) (B:Nat->Prop) (a:Act) (w:World) (L:Lk),(∀ b,B b->b<w0.heap.size)->jC w0 B σ a w L->∃ L',jC w0 B τ a w L'
def PS.le.refl(σ:PS):PS.le σ σ:=λ_ _ _ _ L _ r=>⟨L,r⟩
def PS.le.trans{σ τ υ:PS}(h:PS.le σ τ)(k:PS.le τ υ):PS.le σ υ:=λw0 B a w L g r=>let⟨L',r'⟩:=h w0 B a w L g r;k w0 B a w L' g r'
def PV.le.refl(p:PV):PV.le p p:=λ_ _ _ _ _ h=>h
def Bx.le(a b:Bx):Prop:=(a.nl=true->b.nl=true)/\∀ (bs br:Nat->Prop) (L:Lk) (w:World) (id:Nat),rG bs br L w id a->rG bs br L w id b
def Bx.le.refl(a:Bx):Bx.le a a:=⟨id,λ_ _ _ _ _ h=>h⟩
def zz(σ:PS):List (Nat×PV)->Prop
 | []=>True
 | (k,p)::l=>PV.le (σ.get k) p/\zz σ l
def yv(σ:PS):List (Nat×Bx)->Prop
 | []=>True
 | (id,b)::l=>(∃ b',σ.bo id=some b'/\Bx.le b' b)/\yv σ l
def JI(τ:PS):Bool:=τ.t.all λx=>x.2.mN.all λid=>(look τ.b id).isSome
def RK{α:Type}{l:List<|Nat×α}{t:Nat}{x:α}(h:look l t=some x):(t,x) ∈ l:=by
 induction l with
 |nil=>cases h
 |cons y l ih=>
  obtain⟨k,z⟩:=y;rw[wD]at h;split at h
  .rename_i e;cases h;subst e;exact .head _
  .exact .tail _<|ih h
def zz.get{σ:PS}{l:List<|Nat×PV}(h:zz σ l){t:Nat}{p:PV}(k:look l t=some p):PV.le (σ.get t) p:=by
 induction l with
 |nil=>cases k
 |cons y l ih=>
  obtain⟨q,z⟩:=y;rw[wD]at k;split at k
  .rename_i e;cases k;subst e;exact h.1
  .exact ih h.2 k
def yv.get{σ:PS}{l:List<|Nat×Bx}(h:yv σ l){t:Nat}{b:Bx}(k:look l t=some b):∃ b',σ.bo t=some b'/\Bx.le b' b:=by
 induction l with
 |nil=>cases k
 |cons y l ih=>
  obtain⟨q,z⟩:=y;rw[wD]at k;split at k
  .rename_i e;cases k;subst e;exact h.1
  .exact ih h.2 k
def PS.le.pL{σ τ:PS}(hn:σ.n=τ.n)(kf:τ.nl=σ.nl)(hr:JI τ=true)(ht:zz σ τ.t)(hb:yv σ τ.b):PS.le σ τ:=λw0 B a w L _ r=>by
 let L':Lk:=⟨λid=>L.np id/\(τ.bo id).isSome=true,λid x=>L.own id x/\(τ.bo id).isSome=true,L.val,L.ji⟩
 have je:sZ L w L' w:=⟨bB _,λx _ ⟨id,h,_⟩=>⟨id,h⟩,λ_ _ _=>rfl⟩
 refine⟨L',r.hd,by rw[<-hn];exact r.hs,λt=>?_,λid b h=>?_,λid=>?_,λid x h=>⟨r.hn id x h.1,h.2⟩,λid x h=>r.hw id x h.1,λid id' x h k=>r.hi id id' x h.1 k.1,r.he,λh id b k=>?_⟩
 .have hg:τ.get t=((look τ.t t)).getD (.e .any):=rfl;cases hl:look τ.t t with
  |none=>rw[hg,hl];exact .any _
  |some p=>
   rw[hg,hl];have:=ht.get hl _ _ _ _ _<|r.ht t;refine nY.move je this λid hid tM=>⟨⟨tM,?_⟩,rfl,λ_=>rfl⟩
   have q:=cL.1 hr _<|RK hl;exact cL.1 q id hid
 .obtain ⟨b',h1,h2⟩:=hb.get h;have hs:(τ.bo id).isSome=true:=by rw[h];rfl
  exact(h2.2 _ _ _ _ _<|r.hb id b' h1).later je rfl (λx=>⟨λq=>q.1,λq=>⟨q,hs⟩⟩) (λ_=>rfl) λ_ _=>rfl
 .show L.np id/\(τ.bo id).isSome=true↔(τ.bo id).isSome=true;refine⟨λh=>h.2,λh=>⟨(r.hv id).2 ?_,h⟩⟩;obtain⟨b,jE⟩:=gL.1 h;obtain⟨b',h1,_⟩:=hb.get jE;rw[h1];rfl
 .obtain ⟨b',h1,h2⟩:=hb.get k;exact h2.1<|r.hl (by rw[<-kf];exact h) id b' h1
def He(σ:PS):List Nat->List (Nat×Bx)
 | []=>[]
 |i::l=>match σ.bo i with
  |some b=>(i,b)::He σ l
  |none=>He σ l
def PS.cut(ts bs:List Nat)(σ:PS):PS:={ n:=σ.n,nl:=σ.nl,t:=ts.map λt=>(t,σ.get t),b:=He σ bs }
def zz.cut(σ:PS):∀ ts:List Nat,zz σ (ts.map λt=>(t,σ.get t))
 | []=>trivial
 |_::l=>⟨PV.le.refl _,zz.cut σ l⟩
def yv.cut(σ:PS):∀ bs:List Nat,yv σ (He σ bs)
 | []=>trivial
 |i::l=>by
  unfold He;split
  .rename_i b h;exact⟨⟨b,h,Bx.le.refl b⟩,yv.cut σ l⟩
  .exact yv.cut σ l
def PS.le.cut{σ:PS}(ts bs:List Nat)(hr:JI (σ.cut ts bs)=true):PS.le σ<|σ.cut ts bs:=PS.le.pL rfl rfl hr (zz.cut σ ts) (yv.cut σ bs)
def Ex.to:Ex->Exit
 | .normal=>.normal
 | .exit id=>.exit id
 | .ret=>.ret
def Sp(P:Program)(K:World->Prop)(c:Code)(σ:PS)(Q:Ex->PS->Prop):Prop:=
 ∀ (w0:World) (B:Nat->Prop) (a:Act) (w:World) (L:Lk),Gd P K w0 B->jC w0 B σ a w L->c.wp P (λe a' w'=>∃ ex τ L',e=ex.to/\Q ex τ/\jC w0 B τ a' w' L') a w
def Sp.mono{P:Program}{K:World->Prop}{c:Code}{σ:PS}{Q Q':Ex->PS->Prop}(h:Sp P K c σ Q)(hq:∀ e τ,Q e τ->Q' e τ):Sp P K c σ Q':=
 λw0 B a w L g r=>Code.wp_mono (λ_ _ _ ⟨ex,τ,L',h1,h2,h3⟩=>⟨ex,τ,L',h1,hq _ _ h2,h3⟩)<|h w0 B a w L g r
abbrev Lo:=List<|Nat×(Ex×PS×List Nat×List Nat)
section
variable {P:Program} {K:World->Prop} {T:List TI} {O:qY} {lo:Lo}
def Sp.loop{b:Code}{Q:Ex->PS->Prop}(J:Nat->PS->Prop)(DO:∀ n σ,J n σ->Sp P K b σ (λe τ=>(e = .normal/\∃ m,m<n/\J m τ)\/(e ≠ .normal/\Q e τ))):
 ∀ n σ,J n σ->Sp P K (.loop b) σ Q:=by
 intro n0 σ0 hJ0 w0 B a0 w1 L0 g r0 bf k cs;have key:∀ n σ a w L,J n σ->jC w0 B σ a w L ->
  ∃ e a' w',(∃ ex τ L',e=ex.to/\Q ex τ/\jC w0 B τ a' w' L')/\Arrives P (lone (bf.at a<|.code b :: .inLoop b::k) cs w) bf k cs e a' w':=by
  intro n
  induction n using Nat.strongRecOn with
  |_ n ih=>
   intro σ a w L hJ r;obtain⟨e,a₁,w₁,⟨ex,υ,L2,rfl,hq,pn⟩,uT⟩:=DO n σ hJ w0 B a w L g r bf (.inLoop b::k) cs;rcases hq with⟨rfl,m,hm,P5⟩|⟨jM,hq⟩
   .obtain ⟨e₂,a₂,w₂,Q3,Qp⟩:=ih m hm υ a₁ w₁ L2 P5 pn;exact⟨e₂,a₂,w₂,Q3,.of_steps (Steps.trans uT<|.one step_inLoop) Qp⟩
   .cases ex with
    |normal=>exact absurd rfl jM
    |exit i=>exact⟨_,a₁,w₁,⟨.exit i,υ,L2,rfl,hq,pn⟩,.pass (x:=.inLoop b) rfl (λ_ _=>.inl<|by simp[Ex.to]) uT⟩
    |ret=>exact⟨_,a₁,w₁,⟨.ret,υ,L2,rfl,hq,pn⟩,.pass (x:=.inLoop b) rfl (λ_ _=>.inl<|by simp[Ex.to]) uT⟩
 obtain⟨e,a',w',hq,uT⟩:=key n0 σ0 a0 w1 L0 hJ0 r0;exact⟨e,a',w',hq,.of_steps (.one step_loop) uT⟩
def asd{w0:World}{B:Nat->Prop}{σ:PS}{a:Act}{w:World}{L:Lk}(hB:∀ b,B b->b<w0.heap.size)(r:jC w0 B σ a w L){p:PV}{e:E}(h:JS σ p=some e){v:Value}(hv:nY (jx B L) (j8 L) L w p v):
 jd B (λ_=>True) w e v:=by
 have Yt:∀ id x,L.own id x->¬B x:=λid x hx hb=>by have:=hB x hb;have:=(r.hw id x hx).1;omega
 have own:∀ (v:Value) (T:TypeId) (n sz:Nat) (f:Nat->Nat->Value) (nl:Bool) (el:Nat->Nat->E) (id:Nat),oH w v T n sz f nl->(∀ x,v.ownBlock=some x->L.own id x) ->
  (∀ i j,i<n->j<sz->jd (jx B L) (j8 L) w (el i j) (f i j)/\(el i j).nr 2=true)->jd B (λ_=>True) w (.sl nl n sz el) v:=by
  intro v T n sz f nl el id h1 h2 h3;rcases h1 with⟨rfl,rfl⟩|⟨b,c,cur,rfl,hg,qd,oq,pk,ln,kf⟩
  .exact .sl nl 0 sz el none 0 f (bB _) aK (λ_=>rfl) (λi j hi=>absurd hi<|bM i) (λi j hi=>absurd hi<|bM i) (λi j hi=>absurd hi<|bM i) λi j hi=>absurd hi<|bM i
  .have ui:=h2 b rfl;refine .sl nl n sz el _ c f qd (by unfold maxLen at oq;omega) (λh=>by cases h) (λi j hi hj=>⟨(ln i j hi hj).2,λhn=>kf hn _<|eR (ln i j hi hj).1⟩) (λi j hi hj=>(h3 i j hi hj).2)
    (λi j hi hj=>⟨b,0,rfl,Yt id b ui,(r.hw id b ui).2,?_⟩) (λi j hi hj=>((h3 i j hi hj).1.rf (λ_ h=>.inl h) λ_ h=>h).nr 2 (h3 i j hi hj).2)
   rw[cJ];simp only[World.cell?,hg];simpa using(ln i j hi hj).1
 cases p with
 |e x=>
  simp only[JS]at h;split at h
  .rename_i hn;cases h;exact(jd.rf (bs':=B) (br':=j8 L) (λ_ h=>.inl h) (λ_ h=>h) hv).nr 3 hn
  .cases h
 |own id=>
  obtain⟨_,rfl⟩:=hv;simp only[JS]at h;split at h
  .rename_i nl T n sz el jE;cases h;obtain⟨f,h1,h2,h3⟩:=r.hb id _ jE;exact own _ T n sz f nl el id h1 (λx hx=>(h2 x).2 hx) h3
  .rename_i nl T1 T0 n sz len el jE;cases h;rcases r.hb id _ jE with⟨h1,h2,_⟩|jz
   .subst h2;rw[h1];exact .sl true 0 1 _ none 0 (λ_ _=>undef) (bB _) aK (λ_=>rfl) (λi j hi=>absurd hi<|bM i) (λi j hi=>absurd hi<|bM i) (λi j hi=>absurd hi<|bM i) λi j hi=>absurd hi<|bM i
   obtain⟨b,c,cur,f,h1,h2,h3,h4,h5,h6,h7,h8,h9,rM,ue⟩:=jz;have ui:L.own id b:=(h9 b).2<|.inl rfl;rw[h1];refine .sl true n 1 _ _ c (λk _=>L.ji id k) h3 (by unfold maxLen at h4;omega) (λh=>by cases h) (λk j hk hj=>?_) (λk j hk hj=>rfl)
    (λk j hk hj=>⟨b,0,rfl,Yt id b ui,(r.hw id b ui).2,?_⟩) (λk j hk hj=>own _ T0 (len k) sz (f k) nl (el k) id (h8 k hk).1 (λx hx=>(h9 x).2<|.inr ⟨k,hk,hx⟩) (h8 k hk).2)
   .obtain ⟨_,q1,q2⟩:=(h8 k hk).1.head;exact⟨q1,λ_=>q2⟩
   .rw [cJ,cG];obtain rfl:j=0:= aI ;simp only[World.cell?,h2];simpa using h6 k hk aP 
  .cases h
 |ji id k=>
  obtain⟨_,rfl⟩:=hv;simp only[JS]at h;split at h
  .rename_i nl T1 T0 n sz len el jE;split at h
   .rename_i hk;have hk:k<n:=by simpa[gE]using hk
    cases h;obtain⟨b,c,cur,f,h1,h2,h3,h4,h5,h6,h7,h8,h9,rM,ue⟩:=(r.hb id _ jE).yo aI;exact own _ T0 (len k) sz (f k) nl (el k) id (h8 k hk).1 (λx hx=>(h9 x).2<|.inr ⟨k,hk,hx⟩) (h8 k hk).2
   .cases h
  .cases h
 |_=>cases h
def En(tmps:Array Value):ResultVar->Sem Value
 | .tmp t=>Pure.pure<|tmps.getD t undef
 | .cell q t=>do loadVar t (<-asAddr (tmps.getD q undef))
def SG(fn:Func)(tmps:Array Value):results fn tmps=(do
 let vs <-fn.results.mapM (En tmps)
 Pure.pure (if h:vs.size=1 then vs[0]else .tuple vs)):=by
 unfold results;congr 1
section
variable{w0:World}{B:Nat->Prop}{σ:PS}{a:Act}{w:World}{L:Lk}(hT:ni P T)(hB:∀ b,B b->b<w0.heap.size)(r:jC w0 B σ a w L)
def aqz{x:ResultVar}{e:E}(h:SE T σ x=some e):
 ∃ v,(En a.tmps x).run P w = .ok v w/\jd B (λ_=>True) w e v:=by
 cases x with
 |tmp t=>exact⟨_,rfl,asd hB r h<|r.ht t⟩
 |cell q t=>
  simp only[SE]at h;split at h
  .rename_i ti rS;split at h
   .rename_i l is IB;obtain⟨b,of,vs,e1,h1,h2,h3⟩:=r.read (r.ht q) IB (λq hq=>by simp at hq);by_cases ha:ti.isAgg=true
    .rw [bA ha]at h;split at h
     .rename_i hn;cases h;refine⟨.agg vs.toArray,?_,(jd.rf (bs':=B) (br':=j8 L) (λ_ h=>.inl h) (λ_ h=>h) h1.agg).nr 3 hn⟩;simp only[En,e1,asAddr,Sem.run_bind,Sem.run_pure,Result.andThen_ok,acE hT w rS ha b of vs h2 h3]
     .cases h
    .rw [bw ha]at h;split at h
     .rename_i y;split at h
      .rename_i hn;cases h;obtain⟨z,zs,rfl,hz,_⟩:=h1.nc;refine⟨z,?_,(jd.rf (bs':=B) (br':=j8 L) (λ_ h=>.inl h) (λ_ h=>h) hz).nr 3 hn⟩;simp only[En,e1,asAddr,Sem.run_bind,Sem.run_pure,Result.andThen_ok,SR hT w rS (by simpa using ha) b of z<|by simpa using h3 0 z rfl]
      .cases h
     .cases h
   .cases h
  .cases h
def aqx{l:List ResultVar}{es:List E}(h:F6 T σ l=some es):
 ∃ vs,(l.mapM<|En a.tmps).run P w = .ok vs w/\kR B (λ_=>True) w es vs:=by
 induction l generalizing es with
 |nil=>simp only[F6,bT]at h;subst h;exact⟨[],rfl,.nil _ _ _⟩
 |cons x l ih=>
  simp only[F6]at h;split at h
  .rename_i e es' h1 h2;cases h;obtain⟨v,q1,q2⟩:=aqz hT hB r h1;obtain⟨vs,p1,p2⟩:=ih h2;refine⟨v::vs,?_,.cons q2 p2⟩;rw[il];simp only[Sem.run_bind,q1,Result.andThen_ok,p1,Sem.run_pure]
  .cases h
def aqy{fn:Func}{e:E}(h:MX T fn σ=some e):
 ∃ v,(results fn a.tmps).run P w = .ok v w/\jd B (λ_=>True) w e v:=by
 unfold MX at h;have main:∀ es,F6 T σ fn.results.toList=some es->∃ vs:List Value,(fn.results.mapM<|En a.tmps).run P w = .ok vs.toArray w/\kR B (λ_=>True) w es vs:=by
  intro es hes;obtain⟨vs,h1,h2⟩:=aqx hT hB r hes;refine⟨vs,?_,h2⟩;rw[auf];simp only[Sem.run_map,h1,Result.andThen_ok]
 split at h
 .rename_i y hy;cases h;obtain⟨vs,h1,h2⟩:=main _ hy;obtain⟨v,vs',rfl,hv,DE⟩:=h2.nc;have:=DE.rz;subst this;refine⟨v,?_,hv⟩;rw[SG,Sem.run_bind,h1];simp
 .rename_i l jM hl;cases h;obtain⟨vs,h1,h2⟩:=main _ hl;refine⟨.tuple vs.toArray,?_,h2.iK⟩;rw[SG,Sem.run_bind,h1];have hlen:¬vs.length=1:=by
   rw[h2.len];intro e1
   match l,e1 with
   | [y],_=>exact jM y rfl
  simp[hlen]
 .cases h
end
def alQ(args:List E):∀ (k t:Nat),look (IQ k args) t=if k<=t then(args[t-k]?).map .e else none:=by
 induction args with
 |nil=>intro k t;simp[IQ,look]
 |cons x l ih=>
  intro k t;simp only[IQ];rw[wD,ih (k+1) t];by_cases h:k=t
  .subst h;simp
  .rw [bw h];by_cases h2:k<=t
   .rw [bA aI,bA h2,(aI:t-k=(t-(k+1))+1)];simp
   .rw [bw aI,bw h2]
def jC.init{B:Nat->Prop}{w:World}{fn:Func}{args:List E}{vs:List Value}(hr:kR B (λ_=>False) w args vs)(hn:args.length<=fn.ntmps)(nl:Bool)(_hB:∀ b,B b->b<w.heap.size/\pN w b):
 jC w B (Cd fn nl args) { tmps:=vs.toArray++Array.replicate (fn.ntmps-vs.toArray.size) undef,defers:=[] } w ⟨λ_=>False,λ_ _=>False,λ_=>undef,λ_ _=>undef⟩:=by
 have hlen:=hr.len;refine⟨rfl,by simp[Cd];omega,λt=>?_,λid b hb=>(by cases hb),λid=>⟨λh=>h.elim,λh=>(by cases h)⟩,λ_ _ h=>h.elim,λ_ _ h=>h.elim,λ_ _ _ h=>h.elim,Below.refl _ _,λ_ id b hb=>(by cases hb)⟩;have hg:(Cd fn nl args).get t=((args[t]?).map PV.e).getD (.e .any):=by
  unfold PS.get Cd;rw[alQ];simp
 rw[hg];by_cases ht:t<args.length
 .have xW:t<vs.length:= aI ;rw[bS ht];have hv:(vs.toArray++Array.replicate (fn.ntmps-vs.toArray.size) undef).getD t undef=vs[t]:=by
   simp[Array.getElem?_append,xW]
  show jd _ _ _ _ _;rw[hv];exact(hr.mc t _ _ (bS ht)<|bS xW).rf (λb h=>h.elim id λ⟨_,h⟩=>h.elim) λ_ ⟨_,h⟩=>h.elim
 .rw [dp aI];exact .any _
def PC.RP(hT:ni P T)(hm:P.follows .mixedOrders=true)(hp:∀ w w',K w->Below w.heap.size w w'->K w'){f:FuncId}{fn:Func}{c:Code}{args:List E}{jQ:E}(yP:∀ (vs:Array Value) (w:World),(callFunc f vs).run P w = .ok (.enter f vs) w)
 (hf:P.funcs[f]? = some fn) (hb:fn.body=some c) (hn:args.length<=fn.ntmps) (nl:Bool)
 (h:Sp P K c (Cd fn nl args) (λe τ=>(e = .ret\/e = .normal)/\∃ r,MX T fn τ=some r/\∀ (bs br:Nat->Prop) (w:World) (v:Value),jd bs br w r v->jd bs br w jQ v)):PC P K f args jQ:=by
 refine⟨yP,λw B vs hK hB hr=>calls_of_wp hf hb ?_⟩;have s8:=jC.init (fn:=fn) hr hn nl hB;refine Code.wp_mono ?_ (h w B _ w _ ⟨hK,hp,hB⟩ s8);rintro e a' w' ⟨ex,τ,L',rfl,⟨he,r,IC,hle⟩,wA⟩;obtain⟨v,h1,h2⟩:=aqy hT (λb hb=>(hB b hb).1) wA IC;have IA:a'.defers=[]/\∃ v,(results fn a'.tmps).run P w' = .ok v w'/\∃ v',Ending.returned v = .returned v'/\Below w.heap.size w w'/\jd B (λ_=>True) w' jQ v':=⟨wA.hd,v,h1,v,rfl,wA.he,hle _ _ _ _ h2⟩
 rcases he with rfl|rfl
 .exact IA
 .exact IA
def xI.RP(hT:ni P T)(hm:P.follows .mixedOrders=true)(hp:∀ w w',K w->Below w.heap.size w w'->K w'){f:FuncId}{fn:Func}{c:Code}{args:List E}(yP:∀ (vs:Array Value) (w:World),(callFunc f vs).run P w = .ok (.enter f vs) w)
 (hf:P.funcs[f]? = some fn) (hb:fn.body=some c) (hn:args.length<=fn.ntmps) (nl:Bool) {nl':Bool} {T0:TypeId} {n sz:Nat} {el:Nat->Nat->E}
 (h:Sp P K c (Cd fn nl args) (λe τ=>(e = .ret\/e = .normal)/\∃ t id b,fn.results.toList=[.tmp t]/\τ.get t = .own id/\τ.bo id=some b/\∀ (bs br:Nat->Prop) (L:Lk) (w:World),rG bs br L w id b->rG bs br L w id (.row nl' T0 n sz el))):xI P K f args nl' T0 n sz el:=by
 refine⟨yP,λw B vs hK hB hr=>calls_of_wp hf hb ?_⟩;have s8:=jC.init (fn:=fn) hr hn nl hB;refine Code.wp_mono ?_ (h w B _ w _ ⟨hK,hp,hB⟩ s8);rintro e a' w' ⟨ex,τ,L',rfl,⟨he,t,id,b,IC,hg,jE,hle⟩,wA⟩;have ho:=wA.ht t;rw[hg]at ho;obtain⟨tM,hv⟩:=ho;obtain⟨f0,h1,h2,h3⟩:=hle _ _ _ _<|wA.hb id b jE;have lN:(results fn a'.tmps).run P w' = .ok (L'.val id) w':=by
  rw[SG,Sem.run_bind,auf,IC,Sem.run_map,il];simp only[En,Sem.run_bind,Sem.run_pure,Result.andThen_ok,List.mapM_nil,hv];simp
 have IA:a'.defers=[]/\∃ v,(results fn a'.tmps).run P w' = .ok v w'/\∃ v',Ending.returned v = .returned v'/\Below w.heap.size w w'/\∃ g,oH w' v' T0 n sz g nl'/\(∀ x,v'.ownBlock=some x->w.heap.size<=x/\x<w'.heap.size) /\
  ∀ i j,i<n->j<sz->jd (λb=>B b\/v'.ownBlock=some b) (λ_=>True) w' (el i j) (g i j)/\(el i j).nr 2=true:=by
  refine⟨wA.hd,_,lN,_,rfl,wA.he,f0,h1,λx hx=>wA.hw id x<|(h2 x).2 hx,λi j hi hj=>⟨?_,(h3 i j hi hj).2⟩⟩;refine((h3 i j hi hj).1.rf (bs':=λb=>B b\/(L'.val id).ownBlock=some b) (br':=j8 L') (λb hb=>?_) λ_ h=>h).nr 2 (h3 i j hi hj).2;rcases hb with hb|hb
  .exact .inl hb
  .exact .inr ⟨id,(h2 b).2 hb⟩
 rcases he with rfl|rfl
 .exact IA
 .exact IA
end
def Kp(P:Program):List TI->Prop
 | []=>True
 |x::l=>(P.underlying x.id=some x.d/\P.info? x.id=some x.i)/\Kp P l
def Kp.ok{P:Program}{T:List TI}(h:Kp P T):ni P T:=by
 induction T with
 |nil=>intro x hx;simp at hx
 |cons y l ih=>
  intro x hx;rcases dM.1 hx with hx|hx
  .subst hx;exact h.1
  .exact ih h.2 x hx
def E.le(p q:E):Prop:=∀ (bs br:Nat->Prop) (w:World) (v:Value),jd bs br w p v->jd bs br w q v
def E.le.refl(p:E):E.le p p:=λ_ _ _ _ h=>h
def E.le.jm{p q:E}(h:p=q):E.le p q:=h▸E.le.refl p
def E.le.trans{p q r:E}(h:E.le p q)(k:E.le q r):E.le p r:=λ_ _ _ _ x=>k _ _ _ _<|h _ _ _ _ x
def PV.le.e{p q:E}(h:E.le p q):aj p q:=λbs br _ w v k=>h bs br w v k
def PV.le.bool{a b:Bool}(h:a=b):aj (.v<|.bool a)<|.v<|.bool b:=PV.le.e<|.jm<|by rw[h]
def PV.le.int{k:IntKind}{a b:Int}(h:a=b):aj (.v<|.int k a)<|.v<|.int k b:=PV.le.e<|.jm<|by rw[h]
def ar(a b:Int)(h:a=b:=by omega):aj (.v<|.int .i64 a)<|.v<|.int .i64 b:=.int h
inductive vt:List E->List E->Prop
 |nil:vt [] []
 |cons {p q:E} {l m:List E} (h:E.le p q) (k:vt l m):vt (p::l)<|q::m
def vt.refl:∀ l:List E,vt l l
 | []=>.nil
 |p::l=>.cons (.refl p)<|vt.refl l
def vt.MW{l m:List E}(h:vt l m){bs br:Nat->Prop}{w:World}{vs:List Value}(k:kR bs br w l vs):kR bs br w m vs:=by
 induction h generalizing vs with
 |nil=>exact k
 |cons h _ ih=>
  obtain⟨x,ys,rfl,h1,h2⟩:=k.nc;exact .cons (h _ _ _ _ h1)<|ih h2
def E.le.agg{l m:List E}(h:vt l m):E.le (.agg l)<|.agg m:=λ_ _ _ _ k=>by
 obtain⟨vs,rfl,hr⟩:=jd.GK k;exact(h.MW hr).agg
def E.le.iK{l m:List E}(h:vt l m):E.le (.iK l)<|.iK m:=λ_ _ _ _ k=>by
 obtain⟨vs,rfl,hr⟩:=jd.adI k;exact(h.MW hr).iK
def E.le.nil(nl:Bool)(sz:Nat)(el:Nat->Nat->E):E.le (.v<|.slice none 0 0)<|.sl nl 0 sz el:=λ_ _ _ _ k=>by
 obtain rfl:=jd.lh k;exact .sl nl 0 sz el none 0 (λ_ _=>undef) (bB _) aK (λ_=>rfl) (λi j h=>absurd h<|bM i) (λi j h=>absurd h<|bM i) (λi j h=>absurd h<|bM i) λi j h=>absurd h<|bM i
def E.le.sl{nl:Bool}{n sz:Nat}{el el':Nat->Nat->E}(h:∀ i j,i<n->j<sz->E.le (el i j) (el' i j)/\(el' i j).nr 2=true):E.le (.sl nl n sz el)<|.sl nl n sz el':=λbs br w v k=>by
 cases k with
 |sl _ _ _ _ A c f hc hm h0 hl hr cell kk=>
  exact .sl nl n sz el' A c f hc hm h0 hl (λi j hi hj=>(h i j hi hj).2) cell λi j hi hj=>(h i j hi hj).1 _ _ _ _<|kk i j hi hj
def PC.le{P:Program}{K:World->Prop}{f:FuncId}{args args':List E}{jQ res':E}(h:PC P K f args jQ)(ha:vt args' args)(hr:E.le jQ res'):PC P K f args' res':=
 ⟨h.call,λw B vs hK hB sN=>(h.run w B vs hK hB<|ha.MW sN).mono λ_ _ ⟨v,h1,h2,h3⟩=>⟨v,h1,h2,hr _ _ _ _ h3⟩⟩
def PC.jQ{P:Program}{K:World->Prop}{f:FuncId}{args:List E}{jQ res':E}(h:PC P K f args jQ)(hr:E.le jQ res'):PC P K f args res':=h.le (vt.refl _) hr
end Go.Proofs.YtbbefgegdllpmaaGreatDoor.Pu
namespace Go.Proofs.YtbbefgegdllpmaaGreatDoor
open Go.RowKit Fp
section
variable(A:Option Addr)(c:Nat)(L:List Nat)(w:World)(hs:Sl w A c L)
def xu:
 Calls prog 201 #[.slice A L.length c] w λe w'=>e = .returned (.slice A (iI L).length c)/\w=w':=by
 have hc:=hs.cap;have hl:=hs.nU;go_enter func201,ntmps201;go_wp2;go_loop [3] (λi=>∃ k:Nat,k<=L.length/\i = .int .i64 k/\mV L=mV (L.take k)) (λi=>(intOf i).toNat)
 case atStart=>exact⟨L.length,bB _,rfl,aP⟩
 case round=>
  obtain⟨k,hk,rfl,ht⟩:=hrel;have HT:=aum ht;clear ht;by_cases h0:0<k
  .obtain ⟨ab,ao,rfl,hb,h1⟩:=hs.mM (i:=k-1) aI ;have e1:((k:Int)-1).toNat=k-1:= aI ;have Z:=aum<|Nu L (k-1) aI;have NZ:=aum<|Nt L (k-1) aI;rw[fT h0]at Z NZ;generalize L[k-1]=x at *
   by_cases hx:x=0
   .have Hx:=aum hx;clear hx;have hb:((x:Int)==0)=true:=by have:=Hx.out;simp;omega
    go_wp2;go_round
    case rel=>exact⟨k-1,aI,by go_num,by rw[HT.out,Z.out Hx.out]⟩
    case measure=>simp[intOf];omega
   .have hb:((x:Int)==0)=false:= aV ;go_wp2;go_ret;exact⟨MZ<|by show _=mV L;rw[HT.out,NZ.out hx],rfl⟩
  .go_wp2;go_ret;have:k=0:= aI ;subst this;exact⟨MZ<|by show _=mV L;rw[HT.out];rfl,rfl⟩
def ait:
 Calls prog 177 #[.slice A L.length c] w λe w'=>e = .returned (.slice A (iI L).length c)/\w=w':=by
 have hc:=hs.cap;have hl:=hs.nU;go_enter func177,ntmps177;go_wp2;go_loop [3] (λi=>∃ k:Nat,k<=L.length/\i = .int .i64 k/\mV L=mV (L.take k)) (λi=>(intOf i).toNat)
 case atStart=>exact⟨L.length,bB _,rfl,aP⟩
 case round=>
  obtain⟨k,hk,rfl,ht⟩:=hrel;have HT:=aum ht;clear ht;by_cases h0:0<k
  .obtain ⟨ab,ao,rfl,hb,h1⟩:=hs.mM (i:=k-1) aI ;have e1:((k:Int)-1).toNat=k-1:= aI ;have Z:=aum<|Nu L (k-1) aI;have NZ:=aum<|Nt L (k-1) aI;rw[fT h0]at Z NZ;generalize L[k-1]=x at *
   by_cases hx:x=0
   .have Hx:=aum hx;clear hx;have hb:((x:Int)==0)=true:=by have:=Hx.out;simp;omega
    go_wp2;go_round
    case rel=>exact⟨k-1,aI,by go_num,by rw[HT.out,Z.out Hx.out]⟩
    case measure=>simp[intOf];omega
   .have hb:((x:Int)==0)=false:= aV ;go_wp2;go_ret;exact⟨MZ<|by show _=mV L;rw[HT.out,NZ.out hx],rfl⟩
  .go_wp2;go_ret;have:k=0:= aI ;subst this;exact⟨MZ<|by show _=mV L;rw[HT.out];rfl,rfl⟩
end
def Sl.wO{w:World}{A:Option Addr}{c:Nat}{L:List Nat}(h:Sl w A c L):Sl w A c<|iI L:=(h.take<|mV L).eqv (JU L).symm
def afE:Go.Shelf.Ren:=⟨λ|128=>240|n=>n,λ|51=>99|3=>3|4=>4|46=>100|5=>5|9=>9|n=>n,λ|n=>n⟩
def afB:Go.Proofs.Lays.n128 prog afE:={
 mixed:= aM 
 f128:=func240.trans (congrArg some aM)
 t3:=underlying3
 a3:=Tryz.isAgg3
 z3:=Tryz.sizeOf3
 v3:=Tryz.zeroValue3
 t4:=underlying4
 a4:=Tryz.isAgg4
 z4:=Tryz.sizeOf4
 v4:=Tryz.zeroValue4
 t5:=underlying5
 a5:=Tryz.isAgg5
 z5:=Tryz.sizeOf5
 v5:=Tryz.zeroValue5
 t9:=underlying9
 a9:=Tryz.isAgg9
 z9:=Tryz.sizeOf9
 v9:=Tryz.zeroValue9
 t46:=underlying100
 a46:=Tryz.isAgg100
 z46:=Tryz.sizeOf100
 v46:=Tryz.zeroValue100
 t51:=underlying99
 a51:=Tryz.isAgg99
 z51:=Tryz.sizeOf99
 v51:=Tryz.zeroValue99 }
def Z0(x:Nat)(hx:x<4294967296)(w:World):
 Calls prog 240 #[.int .u32 x] w λe w'=>e = .returned (.int .i64<|iE x)/\w=w':=by
 refine(Any.bits_Len32 afB x w aI aI).mono ?_;rintro e w' ⟨rfl,rfl⟩;rw[gZ,aft x hx];exact⟨rfl,rfl⟩
def ass(x k idx:Nat)(w:World)(pU:((x:Int)==0)=false)
 (key:bits BinOp.and IntKind.u32 (x:Int) (-(x:Int)%4294967296)*125613361%4294967296/134217728=(idx:Int))
 (hi:idx<32) (hk:k<32) (ln:w.cell? ⟨0,idx,none⟩=some (.int .u8 k)):
 Calls prog 214 #[.int .u32 x] w λe w'=>e = .returned (.int .i64 k)/\w=w':=by
 go_enter func214,ntmps214;go_wp2_with (simp only[key])
 go_ret;exact⟨rfl,rfl⟩
def asr(x:Nat)(h0:x≠0)(hx:x<4294967296)(w:World)(hT:Tb w):
 Calls prog 214 #[.int .u32 x] w λe w'=>e = .returned (.int .i64<|kq x)/\w=w':=by
 rw[<-ahR x h0 hx];obtain⟨BZ,hk⟩:=Lib.lowest_bit 32 x h0 hx;obtain⟨hi,alD⟩:=Lib.deBruijn32_at _ hk;have ln:=hT _ hi;rw[alD]at ln;exact ass x _ _ w aV (tz32_key x _ hx h0 BZ) hi hk ln
def i64_in(n:Int)(h0:-9223372036854775808<=n:=by omega)(h1:n<=9223372036854775807:=by omega):IntKind.i64.wrap n=n:=by rw[IntKind.wrap_i64];omega
def VJ{L M:List Nat}{n:Nat}(hs:jc L)(hM:iI L=M)(hn:M.length=n+1):
 ∃ x,M[n]? = some x/\x<4294967296/\(32*(n:Int)+(iE x:Int))=(iE<|val L:Int)/\iE x<=32:=by
 have hk:jc M:=hM▸hs.iI;have ht:oI M:=hM▸By L;rcases atA M with rfl|⟨l,x,rfl⟩
 .simp at hn
 .simp only[atB,c9,gX,Nat.add_right_cancel_iff]at hn hk ht hM ⊢;subst hn;have hx:x≠0:=by simpa using(CO _).1 ht aP 
  have je:x<4294967296:=hk x aP;refine⟨x,aP,je,?_,lE.2 je⟩;have:=afD hk hx;rw[<-hM,pW]at this;omega
def aaB(A:Option Addr)(c:Nat)(L:List Nat)(w:World)(hs:Sl w A c L)(hlen:L.length<=100000000):
 Calls prog 213 #[.slice A L.length c] w λe w'=>e = .returned (.int .i64<|iE<|val L)/\w=w':=by
 have hT:=aum<|xu A c L w hs;have kZ:=hs.wO;have ot:=pV L;unfold mV at ot;generalize hM:iI L=M at *
 obtain⟨n,hn⟩:∃ n,n=M.length:=⟨_,rfl⟩
 rw[<-hn]at hT ot;rcases n with _|n
 .have hv:iE (val L)=0:=by rw[<-pW,hM,dZ hn.symm];rfl
  have HV:=aum hv;clear hv hM hn;go_enter func213,ntmps213;go_wp2_with (go_at_call 201;refine hT.out.mono ?_;rintro e w' ⟨rfl,rfl⟩)
  go_ret;exact⟨by rw[HV.out];rfl,rfl⟩
 .obtain ⟨x,hx,je,hb,Ig⟩:=VJ hs.ok hM hn.symm;obtain⟨ab,ao,rfl,_,ln⟩:=kZ.cell _ _ hx;have HB:=aum hb;clear hb hM hn hx;go_enter func213,ntmps213;go_wp2_with (first|(go_at_call 201;refine hT.out.mono ?_;rintro e w' ⟨rfl,rfl⟩)|(go_at_call 240;refine(Z0 x je _).mono ?_;rintro e w' ⟨rfl,rfl⟩))
  go_ret;exact⟨pG HB.out,rfl⟩
def afC{x:Nat}(h:x≠0):iE x=iE (x/2)+1:=by
 by_cases h1:x/2=0
 .have:x=1:= aI ;subst this;rfl
 .have e1:=tu h1;have e2:=qL<|x/2;have e3:=og h1;generalize iE (x/2)=k at *
  obtain⟨j,rfl⟩:∃ j,k=j+1:=⟨k-1,aI⟩
  rw[eK]at e1;refine xM ?_ ?_
  .rw [bV];omega
  .rw [bV];omega
def ace(A:Option Addr)(c:Nat)(L:List Nat)(w:World)(hs:Sl w A c L)(ht:oI L)(hlen:L.length<=100000000):
 Calls prog 159 #[.slice A L.length c] w λe w'=>e = .returned (.int .i64<|iE<|val L)/\w=w':=by
 obtain⟨n,hn⟩:∃ n,n=L.length:=⟨_,rfl⟩
 rcases n with _|n
 .have hv:iE (val L)=0:=by rw[dZ hn.symm];rfl
  have HV:=aum hv;rw[<-hn];clear hv ht hn;go_enter func159,ntmps159;go_wp2;go_ret;exact⟨by rw[HV.out];rfl,rfl⟩
 .obtain ⟨x,hx,je,hb,Ig⟩:=VJ hs.ok ht hn.symm;obtain⟨ab,ao,rfl,_,ln⟩:=hs.cell _ _ hx;have HB:=aum hb;rw[<-hn]at hlen ⊢;clear hb ht hn hx;go_enter func159,ntmps159;go_wp2;go_loop [3,4] (λm y=>∃ (k z:Nat),z<4294967296/\y = .int .u32 z/\m = .int .i64 k/\k<=10000000000/\k+iE z=iE (val L)) (λ_ y=>(intOf y).toNat)
  case atStart=>exact⟨32*n,x,je,rfl,by go_num,aI,by have:=HB.out;omega⟩
  case round=>
   obtain⟨k,z,hz,rfl,rfl,hk,he⟩:=hrel;have HE:=aum he;clear he;by_cases h0:0<z
   .have hh:=aum<|afC (x:=z) aI;have tL:k<=3300000000:=by have:=HE.out;have:=HB.out;omega
    go_wp2;go_round
    case rel=>exact⟨k+1,z/2,aI,by go_num,by go_num,aI,by rw[<-HE.out,hh.out];omega⟩
    case measure=>simp[intOf];omega
   .obtain rfl:z=0:= aI ;go_wp2;go_ret;exact⟨pG<|by rw[<-HE.out];rfl,rfl⟩
def Wk{L M:List Nat}(hL:jc L)(h:(iI L).length<(iI M).length):kP (val L) (val M) = -1:=by
 have:=Nz hL.iI (By M) h;rw[pW,pW]at this;unfold kP;rw[bA this]
def Wj{L M:List Nat}(hM:jc M)(h:(iI M).length<(iI L).length):kP (val L) (val M)=1:=by
 have:=Nz hM.iI (By L) h;rw[pW,pW]at this;unfold kP;rw[bw aI,bA this]
def KR{M N:List Nat}(hM:jc M){k x y:Nat}(hl:M.length=N.length)(hx:M[k]? = some x)(hy:N[k]? = some y)(hd:M.drop (k+1)=N.drop (k+1))(h:x<y):val M<val N:=by
 obtain⟨h1,rfl⟩:=cP.1 hx;obtain⟨h2,rfl⟩:=cP.1 hy;exact asD hM k h1 hl hd h
def WL{M N:List Nat}{k x:Nat}(hx:M[k]? = some x)(hy:N[k]? = some x)(hd:M.drop (k+1)=N.drop (k+1)):M.drop k=N.drop k:=by
 obtain⟨h1,e1⟩:=cP.1 hx;obtain⟨h2,e2⟩:=cP.1 hy;rw[fU h1,fU h2,e1,e2,hd]
section
variable(A B:Option Addr)(c d:Nat)
def Ms(L M:List Nat)(w:World)(hs:Sl w A c L)(hr:Sl w B d M)(h1:L.length<=100000000)(_h2:M.length<=100000000):
 Calls prog 157 #[.slice A L.length c,.slice B M.length d] w λe w'=>e = .returned (.int .i64<|kP (val L)<|val M)/\iY w w':=by
 have hT:=aum<|xu A c L w hs;have hU:=aum<|xu B d M w hr;have kZ:=hs.wO;have pn:=hr.wO;have ot:=pV L;have uX:=pV M;unfold mV at ot uX;by_cases je:(iI L).length<(iI M).length
 .have HV:=aum<|Wk hs.ok je;have jM:(((iI L).length:Int) != ((iI M).length:Nat))=true:= aV ;generalize (iI L).length=n at *
  generalize (iI M).length=m at *
  clear kZ pn;go_enter func157,ntmps157;go_wp2_with fail;refine hT.out.mono ?_;rintro e w' ⟨rfl,rfl⟩;go_wp2_with fail;refine hU.out.mono ?_;rintro e w' ⟨rfl,rfl⟩;go_wp2;go_ret;exact⟨pG<|by rw[HV.out],iY.refl _⟩
 .by_cases Fo:(iI M).length<(iI L).length
  .have HV:=aum<|Wj hr.ok Fo;have jM:(((iI L).length:Int) != ((iI M).length:Nat))=true:= aV ;generalize (iI L).length=n at *
   generalize (iI M).length=m at *
   clear kZ pn;go_enter func157,ntmps157;go_wp2_with fail;refine hT.out.mono ?_;rintro e w' ⟨rfl,rfl⟩;go_wp2_with fail;refine hU.out.mono ?_;rintro e w' ⟨rfl,rfl⟩;go_wp2;go_ret;exact⟨pG<|by rw[HV.out],iY.refl _⟩
  .have hl:(iI L).length=(iI M).length:= aI ;have HL:=aum hl;rw[<-hl]at hU uX;have e1:=pW L;have e2:=pW M;generalize iI L=P at *
   generalize iI M=Q at *
   have E1:=aum e1;have E2:=aum e2;clear e1 e2 hl Fo je;obtain⟨n,hn⟩:∃ n,n=P.length:=⟨_,rfl⟩
   rw[<-hn]at hT hU uX ot;have HN:=aum hn;clear hn;have jM:((n:Int) != (n:Int))=false:= aP ;have okP:=kZ.ok;have Eb:=pn.ok;go_enter func157,ntmps157;go_wp2_with fail;refine hT.out.mono ?_;rintro e w' ⟨rfl,rfl⟩;go_wp2_with fail;refine hU.out.mono ?_;rintro e w' ⟨rfl,rfl⟩;go_wp2;go_loopw [5] (λi wr=>∃ k:Nat,k<=n/\i = .int .i64 ((k:Int)-1)/\P.drop k=Q.drop k/\iY w wr) (λi _=>(intOf i+1).toNat)
   case atStart=>exact⟨n,bB _,rfl,by rw[eX<|by rw[<-HN.out];exact bB _,eX<|by rw[<-HL.out,<-HN.out];exact bB _],iY.refl _⟩
   case round=>
    obtain⟨k,hk,rfl,hd,hb⟩:=hrel;have HD:=aum hd;clear hd;rcases k with _|k
    .go_wp2;go_ret;have e:P=Q:=by simpa using HD.out
     exact⟨pG<|by rw[<-E1.out,<-E2.out,e];unfold kP;simp,hb⟩
    .have Dz:k<P.length:=by have:=HN.out;omega
     have AY:k<Q.length:=by have:=HN.out;have:=HL.out;omega
     have HP:=aum<|bS Dz;have HQ:=aum<|bS AY;obtain⟨ab,ao,rfl,_,c1⟩:=(kZ.below hb).mM Dz;obtain⟨bb,bo,rfl,_,c2⟩:=(pn.below hb).mM AY;have A4:(k:Int)<n:= aI ;have oM:(0:Int)<=k:= aI ;have x0:(0:Int)<=P[k]:= aI ;have y0:(0:Int)<=Q[k]:= aI ;generalize P[k]=x at *
     generalize Q[k]=y at *
     clear Dz AY;by_cases rq:x<y
     .have Re:(x:Int)<y:= aI ;go_wp2;go_quiet (fail);go_wp2;go_ret;have h:=KR okP HL.out HP.out HQ.out HD.out rq;rw[E1.out,E2.out]at h;exact⟨pG<|by unfold kP;rw[bA h],below_drewN hb _⟩
     .have Re:¬(x:Int)<y:= aI ;by_cases Rf:y<x
      .have Rg:(y:Int)<x:= aI ;go_wp2;go_quiet (fail);go_wp2;go_quiet (fail);go_wp2;go_ret;have h:=KR Eb HL.out.symm HQ.out HP.out HD.out.symm Rf;rw[E1.out,E2.out]at h;exact⟨pG<|by unfold kP;rw[bw aI,bA h],below_drewN (below_drewN hb _) _⟩
      .have Rg:¬(y:Int)<x:= aI ;have HX:=aum (aI:x=y);go_wp2;go_quiet (fail);go_wp2;go_quiet (fail);go_wp2;go_roundw
       case rel=>exact⟨k,aI,by go_num,WL HP.out (by rw[HX.out];exact HQ.out) HD.out,by repeat (first|exact hb|refine below_drewN ?_ _)⟩
       case measure=>simp[intOf];try omega
def ap3(P Q:List Nat)(w:World)(kZ:Sl w A c P)(pn:Sl w B d Q)(tP:oI P)(tQ:oI Q)(h1:P.length<=100000000)(_h2:Q.length<=100000000):
 Calls prog 222 #[.slice A P.length c,.slice B Q.length d] w λe w'=>e = .returned (.int .i64<|kP (val P)<|val Q)/\iY w w':=by
 have tP':iI P=P:=tP;have tQ':iI Q=Q:=tQ;by_cases je:P.length<Q.length
 .have HV:=aum (Wk (M:=Q) kZ.ok<|by rw[tP',tQ'];exact je);have jM:((P.length:Int) != (Q.length:Nat))=true:= aV ;generalize P.length=n at *
  generalize Q.length=m at *
  clear kZ pn tP' tQ' tP tQ;go_enter func222,ntmps222;go_wp2;go_ret;exact⟨pG<|by rw[HV.out],iY.refl _⟩
 .by_cases Fo:Q.length<P.length
  .have HV:=aum (Wj (L:=P) pn.ok<|by rw[tP',tQ'];exact Fo);have jM:((P.length:Int) != (Q.length:Nat))=true:= aV ;generalize P.length=n at *
   generalize Q.length=m at *
   clear kZ pn tP' tQ' tP tQ;go_enter func222,ntmps222;go_wp2;go_ret;exact⟨pG<|by rw[HV.out],iY.refl _⟩
  .have hl:P.length=Q.length:= aI ;have HL:=aum hl;rw[<-hl];clear hl Fo je tP' tQ' tP tQ _h2;obtain⟨n,hn⟩:∃ n,n=P.length:=⟨_,rfl⟩
   rw[<-hn]at h1 ⊢;have HN:=aum hn;clear hn;have jM:((n:Int) != (n:Int))=false:= aP ;have okP:=kZ.ok;have Eb:=pn.ok;go_enter func222,ntmps222;go_wp2;go_loopw [5] (λi wr=>∃ k:Nat,k<=n/\i = .int .i64 ((k:Int)-1)/\P.drop k=Q.drop k/\iY w wr) (λi _=>(intOf i+1).toNat)
   case atStart=>exact⟨n,bB _,rfl,by rw[eX<|by rw[<-HN.out];exact bB _,eX<|by rw[<-HL.out,<-HN.out];exact bB _],iY.refl _⟩
   case round=>
    obtain⟨k,hk,rfl,hd,hb⟩:=hrel;have HD:=aum hd;clear hd;rcases k with _|k
    .go_wp2;go_ret;have e:P=Q:=by simpa using HD.out
     exact⟨pG<|by rw[e];unfold kP;simp,hb⟩
    .have Dz:k<P.length:=by have:=HN.out;omega
     have AY:k<Q.length:=by have:=HN.out;have:=HL.out;omega
     have HP:=aum<|bS Dz;have HQ:=aum<|bS AY;obtain⟨ab,ao,rfl,_,c1⟩:=(kZ.below hb).mM Dz;obtain⟨bb,bo,rfl,_,c2⟩:=(pn.below hb).mM AY;have A4:(k:Int)<n:= aI ;have oM:(0:Int)<=k:= aI ;have x0:(0:Int)<=P[k]:= aI ;have y0:(0:Int)<=Q[k]:= aI ;generalize P[k]=x at *
     generalize Q[k]=y at *
     clear Dz AY;by_cases rq:x<y
     .have Re:(x:Int)<y:= aI ;go_wp2;go_quiet (fail);go_wp2;go_ret;have h:=KR okP HL.out HP.out HQ.out HD.out rq;exact⟨pG<|by unfold kP;rw[bA h],below_drewN hb _⟩
     .have Re:¬(x:Int)<y:= aI ;by_cases Rf:y<x
      .have Rg:(y:Int)<x:= aI ;go_wp2;go_quiet (fail);go_wp2;go_quiet (fail);go_wp2;go_ret;have h:=KR Eb HL.out.symm HQ.out HP.out HD.out.symm Rf;exact⟨pG<|by unfold kP;rw[bw aI,bA h],below_drewN (below_drewN hb _) _⟩
      .have Rg:¬(y:Int)<x:= aI ;have HX:=aum (aI:x=y);go_wp2;go_quiet (fail);go_wp2;go_quiet (fail);go_wp2;go_roundw
       case rel=>exact⟨k,aI,by go_num,WL HP.out (by rw[HX.out];exact HQ.out) HD.out,by repeat (first|exact hb|refine below_drewN ?_ _)⟩
       case measure=>simp[intOf];try omega
end
def O4(A:Option Addr)(c:Nat)(L:List Nat)(w:World)(hs:Sl w A c L):
 Calls prog 180 #[.slice A L.length c] w λe w'=>e = .returned (.slice A L.length L.length)/\w=w':=by
 have hc:=hs.cap;have hl:=hs.nU;go_enter func180,ntmps180;go_wp2;go_ret;exact⟨rfl,rfl⟩
def Sl.Wa{w:World}{A:Option Addr}{c:Nat}{L:List Nat}(h:Sl w A c L):Sl w A L.length L:=
 ⟨bB _,b9 h.cap h.nU,h.ok,(λe=>by have:=h.y4 e;have:=h.cap;omega),h.cell⟩
section
variable(A:Option Addr)(c:Nat)(L:List Nat)(w:World)(hs:Sl w A c L)
def O5(hlen:L.length<=100000000):
 Calls prog 181 #[.slice A L.length c] w (uI w L):=by
 have hc:=hs.cap;have hl:=hs.nU;rcases A with _|ad
 .have h0:=hs.y4 rfl;subst h0;have:L=[]:=dZ aI;subst this;have q:=λ(w:World) (n' c':Nat)=>Lib.run_eql_slice_nil (P:=prog) w 29 _ none 0 0 n' c' underlying29
  simp only[Option.isNone_none]at q;go_enter func181,ntmps181;go_wp2;go_ret;exact⟨none,0,rfl,Sl.nil _,iY.refl _⟩
 .have q:=λ(w:World) (n' c':Nat)=>Lib.run_eql_slice_nil (P:=prog) w 29 _ (some ad) L.length c n' c' underlying29
  simp only[Option.isNone_some]at q;go_enter func181,ntmps181;have lJ:([]:List Nat).length+L.length<=10000000000:= aV ;have h1:=Ow.empty w w.heap.size<|bB _;have h2:=hs.alloc<|.cells #[] 99;have h3:=qW (w:=w) (bB _)<|.cells #[] 99;go_wp2_with (at_builtin;go_must (refine si aO _ _ aO w.heap.size _ [] aO h1 _ _ _ L aO aO h2 lJ h3 ?_);intro v' w' mF hg qh)
  obtain⟨A',c',rfl,oN⟩:=mF.sl;go_ret;exact⟨A',c',rfl,oN,(iY.alloc _ _).grown hg (qW (bB _) _) (λk hk=>by simp[Value.ownBlock]at hk;omega)⟩
def Em(hlen:L.length<=100000000:=by omega):
 Calls prog 160 #[.slice A L.length c] w (uI w<|iI L):=by
 have hc:=hs.cap;have hl:=hs.nU;have fin:∀ k:Nat,k=(iI L).length->Hid (iI L=L.take k):=λk hk=>by rw[hk];exact JU L
 go_enter func160,ntmps160;go_wp2;go_loop [3] (λi=>∃ k:Nat,k<=L.length/\i = .int .i64 k/\mV L=mV (L.take k)) (λi=>(intOf i).toNat)
 case atStart=>exact⟨L.length,bB _,rfl,aP⟩
 case round=>
  obtain⟨k,hk,rfl,ht⟩:=hrel;have HT:=aum ht;clear ht;have lJ:([]:List Nat).length+(L.take k).length<=10000000000:=by rw[cS];simp;omega
  have HK:=aum (show k=(L.take k).length by rw[cS];omega);have h1:=Ow.empty w w.heap.size<|bB _;have h2:=(hs.take k).alloc<|.cells #[] 99;have h3:=qW (w:=w) (bB _)<|.cells #[] 99;by_cases h0:0<k
  .obtain ⟨ab,ao,rfl,hb,B9⟩:=hs.mM (i:=k-1) aI ;have e1:((k:Int)-1).toNat=k-1:= aI ;have Z:=aum<|Nu L (k-1) aI;have NZ:=aum<|Nt L (k-1) aI;rw[fT h0]at Z NZ;generalize L[k-1]=x at *
   by_cases hx:x=0
   .have Hx:=aum hx;clear hx;have hb:((x:Int)==0)=true:=by have:=Hx.out;simp;omega
    clear fin;go_wp2;go_round
    case rel=>exact⟨k-1,aI,by go_num,by rw[HT.out,Z.out Hx.out]⟩
    case measure=>simp[intOf];omega
   .have hb:((x:Int)==0)=false:= aV ;have F:=fin k (by show k=mV L;rw[HT.out,NZ.out hx]);clear fin;go_wp2_with (at_builtin;go_must (refine si aO _ _ aO w.heap.size _ [] aO h1 _ _ _ (L.take k) aO HK.out h2 lJ h3 ?_);intro v' w' mF hg qh)
    obtain⟨A',c',rfl,oN⟩:=mF.sl;go_ret;rw[F.out];exact⟨A',c',rfl,oN,(iY.alloc _ _).grown hg (qW (bB _) _) (λk hk=>by simp[Value.ownBlock]at hk;omega)⟩
  .have:k=0:= aI ;subst this;have F:=fin 0 (by show 0=mV L;rw[HT.out];rfl);clear fin;go_wp2_with (at_builtin;go_must (refine si aO _ _ aO w.heap.size _ [] aO h1 _ _ _ (L.take 0) aO HK.out h2 lJ h3 ?_);intro v' w' mF hg qh)
   obtain⟨A',c',rfl,oN⟩:=mF.sl;go_ret;rw[F.out];exact⟨A',c',rfl,oN,(iY.alloc _ _).grown hg (qW (bB _) _) (λk hk=>by simp[Value.ownBlock]at hk;omega)⟩
end
def Z8(A:Option Addr)(n c:Nat)(w:World):
 Calls prog 242 #[.slice A n c] w λe w'=>e = .returned (.bool<|decide (256<n))/\w=w':=by
 by_cases h:256<n
 .have h':(256:Int)<n:= aI ;go_enter func242,ntmps242;go_wp2;go_ret;exact⟨by simp[h],rfl⟩
 .have h':¬(256:Int)<n:= aI ;go_enter func242,ntmps242;go_wp2;go_ret;exact⟨aP,rfl⟩
def Oh(w:World)(g:Nat)(xs:List<|Option Addr×Nat×Nat):Prop:=∀ i x,xs[i]? = some x->w.cell? ⟨g,i,none⟩=some (.slice x.1 x.2.1 x.2.2)
section
variable(xs:List<|Option Addr×Nat×Nat)
def zp:Bool:=xs.any λx=>decide (256<x.2.1)
def ael(w:World)(e:Ending)(w':World):Prop:=
 ∃ n:Int,e = .returned (.int .i64 n)/\(0<=n↔zp xs=true)/\w=w'
end
section
variable(g:Nat)(xs:List<|Option Addr×Nat×Nat)(w:World)(hs:Oh w g xs)(hn:xs.length<=1000)
def alO:
 Calls prog 259 #[.slice (some ⟨g,0,none⟩) xs.length xs.length,.func (.func 242) #[] #[]] w (ael xs w):=by
 go_enter func259,ntmps259;go_wp2;go_loop [8] (λi=>∃ k:Nat,k<=xs.length/\i = .int .i64 k/\zp (xs.take k)=false) (λi=>xs.length-(intOf i).toNat)
 case atStart=>exact⟨0,cA _,rfl,rfl⟩
 case round=>
  obtain⟨k,hk,rfl,ht⟩:=hrel;have HT:=aum ht;clear ht;by_cases h0:k<xs.length
  .have hc:=hs k _<|bS h0;have e1:((k:Int)).toNat=k:= aI ;have ec:=aew g k;have HX:=aum (show zp (xs.take<|k+1)=(zp (xs.take k)||decide (256<xs[k].2.1))by
    unfold zp;rw[gx h0,List.any_append];simp)
   have HM:=aum<|dI h0;generalize xs[k]=x at *
   obtain⟨A,n,c⟩:=x;simp only at hc HX;by_cases hx:256<n
   .have hb:decide (256<n)=true:=by simp[hx]
    go_wp2_with (go_at_call 242;refine(Z8 A n c _).mono ?_;rw[hb];rintro e w' ⟨rfl,rfl⟩)
    go_ret;refine⟨_,rfl,⟨λ_=>?_,λ_=> aI⟩,rfl⟩;unfold zp;rw[eE];exact⟨_,HM.out,by simpa using hx⟩
   .have hb:decide (256<n)=false:= aV ;go_wp2_with (go_at_call 242;refine(Z8 A n c _).mono ?_;rw[hb];rintro e w' ⟨rfl,rfl⟩)
    go_round
    case rel=>exact⟨k+1,aI,by go_num,by rw[HX.out,HT.out,hb];rfl⟩
    case measure=>simp[intOf];omega
  .go_wp2;go_ret;have e:xs.take k=xs:=dg aI;have:=HT.out;rw[e]at this;exact⟨_,rfl,by rw[this];simp,rfl⟩
def ahA:
 Calls prog 241 #[.slice (some ⟨g,0,none⟩) xs.length xs.length,.func (.func 242) #[] #[]] w λe w'=>e = .returned (.bool<|zp xs)/\w=w':=by
 have H:=aum<|alO g xs w hs hn;go_enter func241,ntmps241;go_wp2_with fail;refine H.out.mono ?_;rintro e w' ⟨n,rfl,hn,rfl⟩;have HN:=aum hn;clear hn;go_wp2;go_ret;refine⟨acj ?_,rfl⟩;have:=HN.out;cases h:zp xs<;>simp[h]at this ⊢ <;> omega
def aaa:
 Calls prog 215 #[.slice (some ⟨g,0,none⟩) xs.length xs.length] w λe w'=>e = .returned (.bool<|zp xs)/\w=w':=by
 have H:=aum<|ahA g xs w hs hn;go_enter func215,ntmps215;go_wp2_with fail;refine H.out.mono ?_;rintro e w' ⟨rfl,rfl⟩;go_wp2;go_ret;exact⟨rfl,rfl⟩
end
def RJ(g:Nat)(A:Option Addr)(n c:Nat)(w:World)(b:Bool)(h:w.cell? ⟨g,0,none⟩=some (.slice A n c))(hb:b=decide (256<n)):
 Calls prog 215 #[.slice (some ⟨g,0,none⟩) 1 1] w λe w'=>e = .returned (.bool b)/\w=w':=by
 have:=aaa g [(A,n,c)] w (λi x hx=>by
  obtain⟨h1,h2⟩:=cP.1 hx;obtain rfl:i=0:=by simp at h1;omega
  simp at h2;subst h2;exact h) aP 
 simpa[zp,hb]using this
def Z9(g:Nat)(A B:Option Addr)(n c m d:Nat)(w:World)(b:Bool)(h:w.cell? ⟨g,0,none⟩=some (.slice A n c))(k:w.cell? ⟨g,1,none⟩=some (.slice B m d))(hb:b=(decide (256<n)||decide (256<m))):
 Calls prog 215 #[.slice (some ⟨g,0,none⟩) 2 2] w λe w'=>e = .returned (.bool b)/\w=w':=by
 have:=aaa g [(A,n,c),(B,m,d)] w (λi x hx=>by
  obtain⟨h1,h2⟩:=cP.1 hx;simp at h1;rcases i with _|_|i
  .simp at h2;subst h2;exact h
  .simp at h2;subst h2;exact k
  .omega) aP 
 simpa[zp,hb]using this
def Jg(A:Option Addr)(c:Nat)(L:List Nat)(w:World)(hs:Sl w A c L)(hl:(iI L).length<=256):
 Calls prog 216 #[.slice A L.length c] w (EG w (iI L) 0):=by
 have hT:=aum<|xu A c L w hs;have kZ:=hs.wO;have hC:=hs.cap;have hL:=hs.nU;have H2:=aum λw' (h:Sl w' A c<|iI L)=>O4 A c (iI L) w' h;generalize iI L=M at *
 obtain⟨n,hn⟩:∃ n,n=M.length:=⟨_,rfl⟩
 rw[<-hn]at hT hl H2;have HN:=aum hn;clear hn;go_enter func216,ntmps216;go_wp2_with fail;refine hT.out.mono ?_;rintro e w' ⟨rfl,rfl⟩;go_wp2_with fail;refine(RJ _ A n c _ false ?_ aV).mono ?_
 .go_simp
 rintro e w' ⟨rfl,rfl⟩;go_wp2_with fail;refine(H2.out _<|kZ.alloc _).mono ?_;rintro e w' ⟨rfl,rfl⟩;go_wp2;go_ret2;exact⟨A,n,by rw[HN.out];rfl,by have:=kZ.Wa.alloc<|.cells #[.slice A n c] 29;rw[HN.out]at this ⊢;exact this,iY.alloc _ _⟩
def Nw(a b:Nat)(ha:a<18446744073709551616:=by omega)(hb:b<18446744073709551616:=by omega):bits .or .u64 (a:Int) (b:Int)=((a |||b:Nat):Int):=by
 have hx:a |||b<2^64:=atP aI aI 
 have h1:(BitVec.ofInt 64 (a:Int)).toNat=a:=by
  rw[iq,iu];exact cw aI 
 have h2:(BitVec.ofInt 64 (b:Int)).toNat=b:=by
  rw[iq,iu];exact cw aI 
 show IntKind.u64.wrap ((BitVec.ofInt 64 (a:Int) |||BitVec.ofInt 64 (b:Int)).toNat:Int)=_;rw[BitVec.toNat_or,h1,h2,IntKind.wrap_u64];omega
def Cu(a b k:Nat)(h:a<2^k):a |||b*2^k=a+b*2^k:=by
 rw[bR,gN,<-Nat.two_pow_add_eq_or_of_lt h];omega
def Sl.drop{w:World}{A:Option Addr}{c:Nat}{L:List Nat}(h:Sl w A c L)(k:Nat):Sl w (A.map (·.add k)) (c-k)<|L.drop k:=
 ⟨by have:=h.cap;rw[fE];omega,b9 (en _ _) h.nU,h.ok.drop k,(λe=>by
  rcases A with _|ad
  .rw [h.y4 rfl];omega
  .cases e),λi x hx=>by
  rw[fD]at hx;obtain⟨b,o,rfl,h1,h2⟩:=h.cell _ _ hx;exact⟨b,o+k,by rw[df,EI],h1,by rw[dm];exact h2⟩⟩
section
variable(T:List Nat)
def part(k:Nat):List Nat:=T.take k++List.replicate (T.length-k) 0
def an9:part T 0=List.replicate T.length 0:=by unfold part;simp
def an4:part T T.length=T:=by unfold part;simp
def an6(k:Nat)(h:k<T.length):(part T k)[k]? = some 0:=by
 unfold part;rw[gF bg,cS,fG,bA aI]
def abd(k x:Nat)(h:T[k]? = some x):(part T k).set k x=part T (k+1):=by
 obtain⟨h1,rfl⟩:=cP.1 h;unfold part;rw[List.set_append_right _ _ bg,cS,dV aI,dD,
  gx h1,(aI:T.length-k=(T.length-(k+1))+1),List.replicate_succ,atJ,List.append_assoc]
 rfl
end
def aro(x y s:Nat)(hx:x<4294967296)(hy:y<4294967296):
 bits BinOp.or IntKind.u64 (x:Int) ((y:Int)*4294967296)/2^s%4294967296=(((x+4294967296*y)/2^s%4294967296:Nat):Int):=by
 have e:((y:Int)*4294967296)=((y*2^32:Nat):Int):= aP ;rw[e,Nw x<|y*2^32,Cu x y 32 aI];simp[bR]
def arp(x s:Nat):(x:Int)/2^s%4294967296=(((x+4294967296*0)/2^s%4294967296:Nat):Int):=by
 simp
def aaL(A:Option Addr)(c:Nat)(L:List Nat)(n:Nat)(w:World)(hs:Sl w A c L)(hlen:L.length<=100000000)(hn:n<=65536):
 Calls prog 217 #[.slice A L.length c,.int .i64 n] w (uI w<|se (n%32)<|(iI L).drop<|n/32):=by
 have hT:=aum<|xu A c L w hs;have kZ:=hs.wO;have ot:=pV L;have hC:=kZ.cap;have hL:=hs.nU;unfold mV at ot;generalize iI L=M at *
 obtain⟨m,hm⟩:∃ m,m=M.length:=⟨_,rfl⟩
 rw[<-hm]at hT ot hC;have HM:=aum hm;clear hm;by_cases h0:m<=n/32
 .go_enter func217,ntmps217;go_wp2_with fail;refine hT.out.mono ?_;rintro e w' ⟨rfl,rfl⟩;go_wp2;go_ret;have:M.drop (n/32)=[]:=eX (by rw[<-HM.out];exact h0);rw[this];exact⟨none,0,rfl,Sl.nil _,iY.refl _⟩
 .obtain ⟨ab,ao,rfl,_,_⟩:=kZ.mM (i:=0) (by have:=HM.out;omega);have hK:=kZ.drop<|n/32;have w9:=aum (show m-n/32=(M.drop<|n/32).length by rw[fE,HM.out]);have pj:n/32<c:= aI ;have qo:=FL (m-n/32) aI;have qD:0<m-n/32:= aI ;have wc:m-n/32<=100000000:= aI ;generalize M.drop (n/32)=K at *
  simp only[df,EI]at hK;have we:=aum<|Nd (n%32) K;have Qg:=aum<|acY (n%32) K;have Ic:=aum<|Jo (n%32) K;generalize se (n%32) K=T at *
  go_enter func217,ntmps217;go_wp2_with fail;refine hT.out.mono ?_;rintro e w' ⟨rfl,rfl⟩;go_wp2;go_loopw [25] (λi wr=>∃ k:Nat,k<=m-n/32/\i = .int .i64 k/\Rw wr w.heap.size (part T k)/\iY w wr) (λi _=>m-n/32-(intOf i).toNat)
  case atStart=>
   refine⟨0,cA _,rfl,?_,iY.alloc _ _⟩;rw[an9,we.out,<-w9.out];exact Rw.Ac _ _
  case round=>
   obtain⟨k,hk,rfl,hR,hb⟩:=hrel;by_cases je:k<m-n/32
   .have xf:k<K.length:=by have:=w9.out;omega
    obtain⟨ab',ao',e',_,c1⟩:=(hK.below hb).mM xf;cases e';have hg:=Qg.out k xf;have nF:K[k]<4294967296:=hK.ok.get xf;have HK:=aum<|bS xf;have c3:=hR.cell (an6 T k<|by have:=we.out;omega);have c4:=hR.frozen k;by_cases yV:k+1<m-n/32
    .have AX:k+1<K.length:=by have:=w9.out;omega
     obtain⟨ab',ao',e',_,c2⟩:=(hK.below hb).mM AX;cases e';have hy:K.getD (k+1) 0=K[k+1]:=by rw[bJ,bS AX];rfl
     rw[hy]at hg;have qK:K[k+1]<4294967296:=hK.ok.get AX;have HG:=aum hg;clear hg hy;generalize K[k]=x at *
     generalize K[k+1]=y at *
     clear xf AX;go_wp2;go_roundw
     case rel=>
      rw[aro x y (n%32) nF qK];exact⟨k+1,aI,by go_num,by rw[<-abd T k _ HG.out];exact hR.set k _,hb.setCell (bB _) _⟩
     case measure=>simp[intOf];omega
    .have hy:K.getD (k+1) 0=0:=by rw[bJ,dp<|by have:=w9.out;omega];rfl
     rw[hy]at hg;have HG:=aum hg;clear hg hy;generalize K[k]=x at *
     clear xf;go_wp2;go_roundw
     case rel=>
      rw[arp x<|n%32];exact⟨k+1,aI,by go_num,by rw[<-abd T k _ HG.out];exact hR.set k _,hb.setCell (bB _) _⟩
     case measure=>simp[intOf];omega
   .go_wp2;go_ret;obtain rfl:k=m-n/32:= aI ;rw[w9.out,<-we.out,an4]at hR;have:=hR.sl Ic.out (by have:=we.out;have:=w9.out;omega);rw[we.out,<-w9.out]at this;exact⟨_,_,by rw[we.out,<-w9.out];rfl,this,hb⟩
def arl{L:List Nat}(h:jc L)(n:Nat):iI (se (n%32)<|(iI L).drop<|n/32)=iB (val L/2^n):=by
 rw[sY<|Jo _ _,Tp h.iI,pW]
def UJ(w:World)(A:Option Addr)(n c:Nat):(w.alloc<|.cells #[.slice A n c] 29).cell? ⟨w.heap.size,0,none⟩=some (.slice A n c):=by
 rw[World.cell?_alloc_at _ _ _ _ rfl];rfl
section
variable(w:World)(A B:Option Addr)(n c m d:Nat)
def UK:(w.alloc<|.cells #[.slice A n c,.slice B m d] 29).cell? ⟨w.heap.size,0,none⟩=some (.slice A n c):=by
 rw[World.cell?_alloc_at _ _ _ _ rfl];rfl
def UL:(w.alloc<|.cells #[.slice A n c,.slice B m d] 29).cell? ⟨w.heap.size,1,none⟩=some (.slice B m d):=by
 rw[World.cell?_alloc_at _ _ _ _ rfl];rfl
end
def aaI(A:Option Addr)(c:Nat)(L:List Nat)(n:Nat)(w:World)(hs:Sl w A c L)(hlen:L.length<=256)(hn:n<=65536):
 Calls prog 179 #[.slice A L.length c,.int .i64 n] w (EG w (iB<|val L/2^n) 0):=by
 have hf:decide (256<L.length)=false:= aV ;have h3:=aum<|arl hs.ok n;have h4:(iI<|se (n%32)<|(iI L).drop<|n/32).length<=256:=by
  have h1:=pV<|se (n%32)<|(iI L).drop<|n/32;unfold mV at h1;rw[Nd,fE]at h1;have h2:=pV L;unfold mV at h2;omega
 have H1:=aum λw (h:Sl w A c L)=>aaL A c L n w h aI hn;generalize se (n%32) ((iI L).drop<|n/32)=T at *
 go_enter func179,ntmps179;go_wp2_with fail;refine(RJ _ A _ c _ false (UJ _ _ _ _) aV).mono ?_;rintro e w' ⟨rfl,rfl⟩;go_wp2_with fail;refine(H1.out _<|hs.alloc _).mono ?_;rintro e w' ⟨A',c',rfl,oN,hb⟩;go_wp2_with fail;refine(Jg A' c' T _ oN h4).mono ?_;rintro e w'' ⟨A'',c'',rfl,rP,oV⟩;go_wp2;go_ret2;rw[<-h3.out];exact⟨A'',c'',rfl,rP,(iY.alloc _ _).trans<|hb.trans oV⟩
def RM(n c:Nat)(hc:n<=c)(hn:c<=10000000000)(w:World):
 (Instr.makeSlice 29 (.int .i64 (n:Int))<|.int .i64 (c:Int)).run prog w = .ok (.slice (some ⟨w.heap.size,0,none⟩) n c) (w.alloc<|.cells (pv<|List.replicate c 0).toArray 99):=by
 obtain⟨i,hi,hz,h1,h2⟩:=info_parts Rm;have hr:=run_make (P:=prog) w 29 99 i _ underlying29 hi hz .i64 .i64 n c aI aI (by rw[h2];omega) aI;rw[hr,gZ,gZ,h1,cG];refine congrArg (λcs=>Result.ok (Value.slice (some ⟨w.heap.size,0,none⟩) n c)<|w.alloc<|.cells cs 99) ?_;apply Array.ext
 .simp [madeCells,pv]
 .intro i h1 h2;simp[madeCells,pv,Value.cells,dz]
def Ow.Ac(w:World)(base n c:Nat)(hb:base<=w.heap.size)(hc:n<=c)(hn:c<=10000000000):
 Ow (w.alloc<|.cells (pv<|List.replicate c 0).toArray 99) base (.slice (some ⟨w.heap.size,0,none⟩) n c) (List.replicate n 0):=
 ⟨⟨by simp[pv],.inr ⟨w.heap.size,c,_,aP,hb,heap_alloc_new w _,by simpa using hc,by simp only[maxLen];omega,by simp[pv],by
  simp[pv,List.take_replicate,dV hc]⟩⟩,jc.CH n⟩
def iY.own{w w1 w2:World}(h:iY w w1)(v:Value)(L:List Nat)(ho:Ow w1 w.heap.size v L)(hg:w1.grownBy w2 v.ownBlock):iY w w2:=
 h.grown hg h.size (λk hk=>(ho.row.lt k hk).1)
def S3(x q s:Nat)(hx:x<4294967296)(hs:s<32)(hq:q<2^s):
 bits BinOp.or IntKind.u64 (IntKind.u64.wrap<|(x:Int)*2^s) (q:Int)=((x*2^s+q:Nat):Int)/\x*2^s+q<18446744073709551616/\(x*2^s+q)/4294967296<2^s:=by
 have hp:2^s<=2^31:=bZ aK aI;have e31:(2:Nat)^31=2147483648:= aK ;have h1:(x+1)*2^s<=4294967296*2^s:=cC _ hx;rw[ca,cj]at h1;have h2:x*2^s<4294967296*2^s:=dJ hx<|bL aK;refine⟨?_,aI,aI⟩;have e:((x:Int)*2^s)=((x*2^s:Nat):Int):= aP ;rw[e,IntKind.wrap_u64,show((x*2^s:Nat):Int)%18446744073709551616=((x*2^s:Nat):Int)by omega,Nw _ _,gN,Cu q x s hq,eZ]
section
variable(A:Option Addr)(c:Nat)(L:List Nat)(n:Nat)(w:World)(hs:Sl w A c L)
def ant(hlen:L.length<=100000000)(hn:n<=65536):
 Calls prog 228 #[.slice A L.length c,.int .i64 n] w (λe w'=>∃ T,val T=val L*2^n/\jc T/\T.length=n/32+(iI L).length+1/\uI w T e w'):=by
 have hT:=aum<|xu A c L w hs;have kZ:=hs.wO;have ot:=pV L;have hC:=kZ.cap;have hL:=hs.nU;unfold mV at ot;have hv:=aum<|pW L;generalize iI L=M at *
 obtain⟨m,hm⟩:∃ m,m=M.length:=⟨_,rfl⟩
 rw[<-hm]at hT ot hC;have HM:=aum hm;clear hm;have qo:=RM (n/32) (n/32+m+1) aI aI;rw[show((n/32:Nat):Int)=n/32 by omega,show((n/32+m+1:Nat):Int)=n/32+m+1 by omega]at qo;have Ia:=aum<|Ow.Ac w w.heap.size (n/32) (n/32+m+1) (bB _) aI aI;go_enter func228,ntmps228;go_wp2_with fail;refine hT.out.mono ?_;rintro e w' ⟨rfl,rfl⟩;go_wp2;go_loopw [5,6,23] (λv cy i wr=>∃ (k q:Nat) (O:List Nat),k<=m/\i = .int .i64 k/\cy = .int .u64 q/\q<2^(n%32)/\O.length=n/32+k/\val O+4294967296^(n/32+k)*q=val (M.take k)*2^(n%32)*4294967296^(n/32)/\Ow wr w.heap.size v O/\iY w wr) (λ_ _ i _=>m-(intOf i).toNat)
 case atStart=>
  exact⟨0,0,List.replicate (n/32) 0,cA _,rfl,rfl,bL aK,aP,by simp[Az],Ia.out,iY.alloc _ _⟩
 case round=>
  obtain⟨k,q,O,hk,rfl,rfl,hq,hO,lI,lX,hb⟩:=hrel;have HV:=aum lI;have HO:=aum hO;have H8:O.length<=200000000:= aI ;have xk:=aum hq;clear lI hO hq;obtain⟨OA,Oc,rfl,vc⟩:=lX.sl;by_cases je:k<m
  .have qk:k<M.length:=by have:=HM.out;omega
   obtain⟨ab,ao,rfl,_,c1⟩:=(kZ.below hb).mM qk;have nF:M[k]<4294967296:=kZ.ok.get qk;have HX:=aum<|S2 (c:=q) (s:=n%32) (n0:=n/32) qk HO.out HV.out;generalize M[k]=x at *
   obtain⟨hw,sQ,rU⟩:=S3 x q (n%32) nF (bQ _ aK) xk.out;generalize x*2^(n%32)+q=z at *
   have Cb:=aum rU;clear rU;have lJ:O.length+[z%4294967296].length<=10000000000:= aV ;go_wp2_with (at_builtin;go_must (refine si aO _ _ aO w.heap.size _ O aO (lX.alloc _) _ _ _ [z%4294967296] aO aO (Sl.uy _ _ (z%4294967296) aI aI) lJ (qW hb.size _) ?_);intro v' w1 pJ hg qh)
   go_roundw
   case rel=>
    exact⟨k+1,z/4294967296,O++[z%4294967296],aI,by go_num,by go_num,Cb.out,by rw[c9,HO.out];rfl,HX.out,pJ,(hb.trans<|iY.alloc _ _).own _ _ (lX.alloc _) hg⟩
   case measure=>simp[intOf];omega
  .obtain rfl:k=m:= aI ;have lJ:O.length+[q].length<=10000000000:= aV ;have LU:q<4294967296:=by
    have:=xk.out;have hp:2^(n%32)<=2^31:=bZ aK aI;have e31:(2:Nat)^31=2147483648:= aK ;omega
   have YV:(q:Int)%4294967296=q:= aI ;go_wp2_with (at_builtin;go_must (refine si aO _ _ aO w.heap.size _ O aO (lX.alloc _) _ _ _ [q] aO aO (Sl.uy _ _ q aI aI) lJ (qW hb.size _) ?_);intro v' w1 pJ hg qh)
   obtain⟨A',c',rfl,oN⟩:=pJ.sl;go_ret;refine⟨O++[q],?_,oN.ok,by rw[c9,HO.out,<-HM.out];rfl,A',c',rfl,oN,(hb.trans<|iY.alloc _ _).own _ _ (lX.alloc _) hg⟩;have h:=HV.out;rw[dg<|by rw[HM.out];exact bB _]at h;rw[xB,HO.out,rE,Bz,cW,ch,h,<-hv.out,oz,bO,<-bG];congr 2;omega
section
variable(hlen:L.length<=256)(hn:n<=65536)(pA:(iB<|val L*2^n).length<=256)
def aaG:
 Calls prog 202 #[.slice A L.length c,.int .i64 n] w (EG w (iB<|val L*2^n) 0):=by
 have H1:=aum λw (h:Sl w A c L)=>ant A c L n w h aI hn;obtain⟨R,hR⟩:∃ R,R=iB (val L*2^n):=⟨_,rfl⟩
 rw[<-hR]at pA ⊢;have HR:=aum hR;clear hR;go_enter func202,ntmps202;go_wp2_with fail;refine(RJ _ A _ c _ false (UJ _ _ _ _) aV).mono ?_;rintro e w' ⟨rfl,rfl⟩;go_wp2_with fail;refine(H1.out _<|hs.alloc _).mono ?_;rintro e w' ⟨T,hT,Ic,-,A',c',rfl,oN,hb⟩;have h3:=aum (show iI T=R by rw[sY Ic,hT,HR.out]);clear hT Ic;go_wp2_with fail;refine(Jg A' c' T _ oN<|by rw[h3.out];exact pA).mono ?_;rintro e w'' ⟨A'',c'',rfl,rP,oV⟩;go_wp2;go_ret2;rw[<-h3.out];exact⟨A'',c'',rfl,rP,(iY.alloc _ _).trans<|hb.trans oV⟩
def arf:
 Calls prog 158 #[.slice A L.length c,.int .i64 n] w (uI w<|iB<|val L*2^n):=by
 have H1:=aum<|aaG A c L n w hs hlen hn pA;generalize iB (val L*2^n)=R at *
 go_enter func158,ntmps158;go_wp2_with fail;refine H1.out.mono ?_;rintro e w'' ⟨A'',c'',rfl,rP,oV⟩;go_wp2;go_ret;exact⟨A'',c'',rfl,rP,oV⟩
end
end
def Tm(a b:Nat)(ha:a<18446744073709551616)(hb:b<18446744073709551616):bits .and .u64 (a:Int) (b:Int)=((a &&& b:Nat):Int):=by
 have hx:a &&& b<2^64:=fH _ aI;have h1:(BitVec.ofInt 64 (a:Int)).toNat=a:=by
  rw[iq,iu];exact cw aI 
 have h2:(BitVec.ofInt 64 (b:Int)).toNat=b:=by
  rw[iq,iu];exact cw aI 
 show IntKind.u64.wrap ((BitVec.ofInt 64 (a:Int) &&& BitVec.ofInt 64 (b:Int)).toNat:Int)=_;rw[atQ,h1,h2,IntKind.wrap_u64];omega
def yA(z:Nat)(hz:z<18446744073709551616:=by omega):bits BinOp.and IntKind.u64 (z:Int) 4294967295=(z:Int)%4294967296:=by
 have e:(4294967295:Int)=((4294967295:Nat):Int):=rfl;rw[e,Tm z _ hz aI,show(4294967295:Nat)=2^32-1 by decide,aug];simp
def ap8(A:Option Addr)(c:Nat)(M:List Nat)(n:Nat)(w:World)(kZ:Sl w A c M)(hlen:M.length<=1000)(hn:n<=65536):
 Calls prog 220 #[.slice A M.length c,.int .i64 n] w (uI w<|iB<|val M*2^n):=by
 have hC:=kZ.cap;have hL:=kZ.nU;obtain⟨m,hm⟩:∃ m,m=M.length:=⟨_,rfl⟩
 rw[<-hm]at hlen hC ⊢;have HM:=aum hm;clear hm;have qo:=RM (n/32) (n/32) aI aI;rw[show((n/32:Nat):Int)=n/32 by omega]at qo;have Ia:=aum<|Ow.Ac w w.heap.size (n/32) (n/32) (bB _) aI aI;go_enter func220,ntmps220;go_wp2;go_loopw [5,6,7] (λv cy i wr=>∃ (k q:Nat) (O:List Nat),k<=m/\i = .int .i64 k/\cy = .int .u64 q/\q<2^(n%32)/\O.length=n/32+k/\val O+4294967296^(n/32+k)*q=val (M.take k)*2^(n%32)*4294967296^(n/32)/\Ow wr w.heap.size v O/\iY w wr) (λ_ _ i _=>m-(intOf i).toNat)
 case atStart=>
  exact⟨0,0,List.replicate (n/32) 0,cA _,rfl,rfl,bL aK,aP,by simp[Az],Ia.out,iY.alloc _ _⟩
 case round=>
  obtain⟨k,q,O,hk,rfl,rfl,hq,hO,lI,lX,hb⟩:=hrel;have HV:=aum lI;have HO:=aum hO;have H8:O.length<=3100:= aI ;have xk:=aum hq;clear lI hO hq;obtain⟨OA,Oc,rfl,vc⟩:=lX.sl;by_cases je:k<m
  .have qk:k<M.length:=by have:=HM.out;omega
   obtain⟨ab,ao,rfl,_,c1⟩:=(kZ.below hb).mM qk;have nF:M[k]<4294967296:=kZ.ok.get qk;have HX:=aum<|S2 (c:=q) (s:=n%32) (n0:=n/32) qk HO.out HV.out;generalize M[k]=x at *
   obtain⟨hw,sQ,rU⟩:=S3 x q (n%32) nF (bQ _ aK) xk.out;generalize x*2^(n%32)+q=z at *
   have Cb:=aum rU;clear rU;have lJ:O.length+[z%4294967296].length<=10000000000:= aV ;have xh:=yA z sQ;go_wp2_with (at_builtin;go_must (refine si aO _ _ aO w.heap.size _ O aO (lX.alloc _) _ _ _ [z%4294967296] aO aO (Sl.uy _ _ (z%4294967296) aI aI) lJ (qW hb.size _) ?_);intro v' w1 pJ hg qh)
   go_roundw
   case rel=>
    exact⟨k+1,z/4294967296,O++[z%4294967296],aI,by go_num,by go_num,Cb.out,by rw[c9,HO.out];rfl,HX.out,pJ,(hb.trans<|iY.alloc _ _).own _ _ (lX.alloc _) hg⟩
   case measure=>simp[intOf];omega
  .obtain rfl:k=m:= aI ;have lJ:O.length+[q].length<=10000000000:= aV ;have LU:q<4294967296:=by
    have:=xk.out;have hp:2^(n%32)<=2^31:=bZ aK aI;have e31:(2:Nat)^31=2147483648:= aK ;omega
   have YV:(q:Int)%4294967296=q:= aI ;have wi:Hid<|iI (O++[q])=iB (val M*2^n):=by
    show iI (O++[q])=iB (val M*2^n);rw[sY<|lX.ok.append<|jc.cons LU jc.nil];have h:=HV.out;rw[dg<|by rw[HM.out];exact bB _]at h;rw[xB,HO.out,rE,Bz,cW,ch,h,oz,bO,<-bG];congr 3;omega
   go_wp2_with (at_builtin;go_must (refine si aO _ _ aO w.heap.size _ O aO (lX.alloc _) _ _ _ [q] aO aO (Sl.uy _ _ q aI aI) lJ (qW hb.size _) ?_);intro v' w1 pJ hg qh;obtain⟨P,hP⟩:∃ P,P=O++[q]:=⟨_,rfl⟩;rw[<-hP]at pJ wi;have Lp:P.length<=3101:=(by rw[hP];simp;omega);clear hP;obtain⟨A',c',rfl,oN⟩:=pJ.sl)
   refine(Em A' c' P _ oN).mono ?_;rintro e w' ⟨A'',c'',rfl,rP,oV⟩;go_wp2;go_ret;rw[<-wi.out];exact⟨A'',c'',rfl,rP,((hb.trans<|iY.alloc _ _).own _ _ (lX.alloc _) hg).trans oV⟩
def ars(x y s:Nat)(hx:x<4294967296)(hy:y<4294967296):
 bits BinOp.and IntKind.u64 (bits BinOp.or IntKind.u64 (x:Int) ((y:Int)*4294967296)/2^s) 4294967295=(((x+4294967296*y)/2^s%4294967296:Nat):Int):=by
 have e:((y:Int)*4294967296)=((y*2^32:Nat):Int):= aP ;rw[e,Nw x<|y*2^32,Cu x y 32 aI];have h:(x+y*2^32)/2^s<18446744073709551616:=dh (cM _ _) aI;have h2:=yA _ h;rw[show(((x+y*2^32:Nat):Int)/2^s)=(((x+y*2^32)/2^s:Nat):Int)by simp,h2];simp[bR]
def arq(x s:Nat)(hx:x<4294967296):bits BinOp.and IntKind.u64 ((x:Int)/2^s) 4294967295=(((x+4294967296*0)/2^s%4294967296:Nat):Int):=by
 have h:x/2^s<18446744073709551616:=dh (cM _ _) aI;rw[show((x:Int)/2^s)=((x/2^s:Nat):Int)by simp,yA _ h];simp
def aqg(A:Option Addr)(c:Nat)(M:List Nat)(n:Nat)(w:World)(kZ:Sl w A c M)(hlen:M.length<=3000)(hn:n<=100000):
 Calls prog 162 #[.slice A M.length c,.int .i64 n] w (uI w<|iB<|val M/2^n):=by
 have hC:=kZ.cap;have hL:=kZ.nU;have wi:Hid<|iI (se (n%32)<|M.drop<|n/32)=iB (val M/2^n):=by
  show _=_;rw[sY<|Jo _ _,Tp kZ.ok]
 obtain⟨R,hR⟩:∃ R,R=iB (val M/2^n):=⟨_,rfl⟩
 rw[<-hR]at wi ⊢;clear hR;obtain⟨m,hm⟩:∃ m,m=M.length:=⟨_,rfl⟩
 rw[<-hm]at hlen hC ⊢;have HM:=aum hm;clear hm;by_cases h0:m<=n/32
 .go_enter func162,ntmps162;go_wp2;go_ret;have:M.drop (n/32)=[]:=eX (by rw[<-HM.out];exact h0);have h:=wi.out;rw[this]at h;rw[<-h];exact⟨none,0,rfl,Sl.nil _,iY.refl _⟩
 .obtain ⟨ab,ao,rfl,_,_⟩:=kZ.mM (i:=0) (by have:=HM.out;omega);have hK:=kZ.drop<|n/32;have w9:=aum (show m-n/32=(M.drop<|n/32).length by rw[fE,HM.out]);have pj:n/32<c:= aI ;have qD:0<m-n/32:= aI ;have wc:m-n/32<=3000:= aI ;generalize M.drop (n/32)=K at *
  simp only[df,EI]at hK;have we:=aum<|Nd (n%32) K;have Qg:=aum<|acY (n%32) K;have Ic:=aum<|Jo (n%32) K;generalize se (n%32) K=T at *
  go_enter func162,ntmps162;go_wp2;go_loopw [5,6] (λv i wr=>∃ (k:Nat) (O:List Nat),k<=m-n/32/\i = .int .i64 k/\O=T.take k/\Ow wr w.heap.size v O/\iY w wr) (λ_ i _=>m-n/32-(intOf i).toNat)
  case atStart=>
   exact⟨0,[],cA _,rfl,aP,Ow.nil _ _,iY.refl _⟩
  case round=>
   obtain⟨k,O,hk,rfl,hO,lX,hb⟩:=hrel;have H8:O.length<=3000:=by rw[hO,cS];omega
   have HO:=aum hO;clear hO;obtain⟨OA,Oc,rfl,vc⟩:=lX.sl;by_cases je:k<m-n/32
   .have xf:k<K.length:=by have:=w9.out;omega
    obtain⟨ab',ao',e',_,c1⟩:=(hK.below hb).mM xf;cases e';have hg:=Qg.out k xf;have nF:K[k]<4294967296:=hK.ok.get xf;have HK:=aum<|bS xf;by_cases yV:k+1<m-n/32
    .have AX:k+1<K.length:=by have:=w9.out;omega
     obtain⟨ab',ao',e',_,c2⟩:=(hK.below hb).mM AX;cases e';have hy:K.getD (k+1) 0=K[k+1]:=by rw[bJ,bS AX];rfl
     rw[hy]at hg;have qK:K[k+1]<4294967296:=hK.ok.get AX;have HG:=aum hg;clear hg hy;generalize K[k]=x at *
     generalize K[k+1]=y at *
     clear xf AX;have hw:=ars x y (n%32) nF qK;have hz:(x+4294967296*y)/2^(n%32)%4294967296<4294967296:=bQ _ aK;generalize (x+4294967296*y)/2^(n%32)%4294967296=z at *
     have lJ:O.length+[z].length<=10000000000:= aV ;go_wp2_with (at_builtin;go_must (refine si aO _ _ aO w.heap.size _ O aO (lX.alloc _) _ _ _ [z] aO aO (Sl.uy _ _ z aI aI) lJ (qW hb.size _) ?_);intro v' w1 pJ hg qh)
     go_roundw
     case rel=>
      exact⟨k+1,O++[z],aI,by go_num,by rw[HO.out,iw,HG.out];rfl,pJ,(hb.trans<|iY.alloc _ _).own _ _ (lX.alloc _) hg⟩
     case measure=>simp[intOf];omega
    .have hy:K.getD (k+1) 0=0:=by rw[bJ,dp<|by have:=w9.out;omega];rfl
     rw[hy]at hg;have HG:=aum hg;clear hg hy;generalize K[k]=x at *
     clear xf;have hw:=arq x (n%32) nF;have hz:(x+4294967296*0)/2^(n%32)%4294967296<4294967296:=bQ _ aK;generalize (x+4294967296*0)/2^(n%32)%4294967296=z at *
     have lJ:O.length+[z].length<=10000000000:= aV ;go_wp2_with (at_builtin;go_must (refine si aO _ _ aO w.heap.size _ O aO (lX.alloc _) _ _ _ [z] aO aO (Sl.uy _ _ z aI aI) lJ (qW hb.size _) ?_);intro v' w1 pJ hg qh)
     go_roundw
     case rel=>
      exact⟨k+1,O++[z],aI,by go_num,by rw[HO.out,iw,HG.out];rfl,pJ,(hb.trans<|iY.alloc _ _).own _ _ (lX.alloc _) hg⟩
     case measure=>simp[intOf];omega
   .have hOT:Hid<|iI O=R:=by
     show iI O=R;rw[HO.out,dg<|by rw[we.out,<-w9.out];omega];exact wi.out
    go_wp2_with fail;refine(Em OA Oc O _ vc).mono ?_;rintro e w' ⟨A'',c'',rfl,rP,oV⟩;go_wp2;go_ret;rw[<-hOT.out];exact⟨A'',c'',rfl,rP,hb.trans oV⟩
def BR{L:List Nat}{k:Nat}(h:k<L.length):L.getD k 0=L[k]:=by
 rw[bJ,bS h];rfl
def Fa{L:List Nat}{k:Nat}(h:¬k<L.length):L.getD k 0=0:=by
 rw[bJ,dp aI];rfl
def aqb(A B:Option Addr)(c d:Nat)(L M:List Nat)(w:World)(hs:Sl w A c L)(hr:Sl w B d M)(h1:L.length<=3000)(h2:M.length<=3000):
 Calls prog 221 #[.slice A L.length c,.slice B M.length d] w (uI w<|iB<|val L+val M):=by
 have HLl:=aum (rfl:L.length=L.length);obtain⟨l,hl⟩:∃ l,l=L.length:=⟨_,rfl⟩
 obtain⟨m,hm⟩:∃ m,m=M.length:=⟨_,rfl⟩
 rw[<-hl]at h1 ⊢;rw[<-hm]at h2 ⊢;have HL:=aum hl;have HM:=aum hm;clear hl hm HLl;go_enter func221,ntmps221;go_wp2;go_loopw [5,6,7] (λv cy i wr=>∃ (k q:Nat) (O:List Nat),(k<=l\/k<=m)/\i = .int .i64 k/\cy = .int .u64 q/\q<=1/\O.length=k/\val O+4294967296^k*q=val (L.take k)+val (M.take k)/\Ow wr w.heap.size v O/\iY w wr) (λ_ _ i _=>3000-(intOf i).toNat)
 case atStart=>exact⟨0,0,[],.inl<|cA _,rfl,rfl,aK,rfl,aP,Ow.nil _ _,iY.refl _⟩
 case round=>
  obtain⟨k,q,O,hk,rfl,rfl,hq,hO,lI,lX,hb⟩:=hrel;have HS:=aum<|aex (x:=L.getD k 0) (y:=M.getD k 0) hO lI (wP L k)<|wP M k;have HV:=aum lI;have HO:=aum hO;have H8:O.length<=3000:= aI ;have QN:k<=3000:= aI ;clear lI hO hk;obtain⟨OA,Oc,rfl,vc⟩:=lX.sl;have xh:=λz:Nat=>λh:z<8589934593=>yA z 
  by_cases hl:k<l
  .have YM:(k:Int)<l:= aI ;have xg:k<L.length:=by have:=HL.out;omega
   obtain⟨ab,ao,rfl,_,c1⟩:=(hs.below hb).mM xg;have nF:L[k]<4294967296:=hs.ok.get xg;rw[BR xg]at HS;generalize L[k]=x at *
   clear xg;by_cases hm:k<m
   .have LN:(k:Int)<m:= aI ;have qk:k<M.length:=by have:=HM.out;omega
    obtain⟨bb,bo,rfl,_,c2⟩:=(hr.below hb).mM qk;have qK:M[k]<4294967296:=hr.ok.get qk;rw[BR qk]at HS;generalize M[k]=y at *
    clear qk;have qo:=xh (q+x+y) aI;simp only[fI]at qo;clear xh;have lJ:O.length+[(q+x+y)%4294967296].length<=10000000000:= aV ;go_wp2_with (at_builtin;go_must (refine si aO _ _ aO w.heap.size _ O aO (lX.alloc _) _ _ _ [(q+x+y)%4294967296] aO aO (Sl.uy _ _ ((q+x+y)%4294967296) aI aI) lJ (qW hb.size _) ?_);intro v' w1 pJ hg qh)
    go_roundw
    case rel=>
     exact⟨k+1,(q+x+y)/4294967296,O++[(q+x+y)%4294967296],aI,by go_num,by go_num,aI,by rw[c9,HO.out];rfl,HS.out,pJ,(hb.trans<|iY.alloc _ _).own _ _ (lX.alloc _) hg⟩
    case measure=>simp[intOf];omega
   .have LN:¬(k:Int)<m:= aI ;rw[Fa<|by have:=HM.out;omega]at HS;have qo:=xh (q+x+0) aI;simp only[fI,ch]at qo;clear xh;have lJ:O.length+[(q+x+0)%4294967296].length<=10000000000:= aV ;go_wp2_with (at_builtin;go_must (refine si aO _ _ aO w.heap.size _ O aO (lX.alloc _) _ _ _ [(q+x+0)%4294967296] aO aO (Sl.uy _ _ ((q+x+0)%4294967296) aI aI) lJ (qW hb.size _) ?_);intro v' w1 pJ hg qh)
    go_roundw
    case rel=>
     exact⟨k+1,(q+x+0)/4294967296,O++[(q+x+0)%4294967296],aI,by go_num,by go_num,aI,by rw[c9,HO.out];rfl,HS.out,pJ,(hb.trans<|iY.alloc _ _).own _ _ (lX.alloc _) hg⟩
    case measure=>simp[intOf];omega
  .have YM:¬(k:Int)<l:= aI ;have hlF:decide ((k:Int)<l)=false:=by simpa using YM
   rw[Fa (L:=L)<|by have:=HL.out;omega]at HS;by_cases hm:k<m
   .have LN:(k:Int)<m:= aI ;have qk:k<M.length:=by have:=HM.out;omega
    obtain⟨bb,bo,rfl,_,c2⟩:=(hr.below hb).mM qk;have qK:M[k]<4294967296:=hr.ok.get qk;rw[BR qk]at HS;generalize M[k]=y at *
    clear qk;have qo:=xh (q+0+y) aI;simp only[fI,ch]at qo;clear xh;have lJ:O.length+[(q+0+y)%4294967296].length<=10000000000:= aV ;go_wp2_with (at_builtin;go_must (refine si aO _ _ aO w.heap.size _ O aO (lX.alloc _) _ _ _ [(q+0+y)%4294967296] aO aO (Sl.uy _ _ ((q+0+y)%4294967296) aI aI) lJ (qW hb.size _) ?_);intro v' w1 pJ hg qh)
    go_roundw
    case rel=>
     exact⟨k+1,(q+0+y)/4294967296,O++[(q+0+y)%4294967296],aI,by go_num,by go_num,aI,by rw[c9,HO.out];rfl,HS.out,pJ,(hb.trans<|iY.alloc _ _).own _ _ (lX.alloc _) hg⟩
    case measure=>simp[intOf];omega
   .have LN:¬(k:Int)<m:= aI ;clear xh;have LU:(q:Int)%4294967296=q:= aI ;have wi:Hid<|iI (O++[q])=iB (val L+val M):=by
     show iI (O++[q])=_;rw[sY<|lX.ok.append<|jc.cons aI jc.nil,xB,HO.out];have h:=HV.out;rw[dg<|by have:=HL.out;omega,dg<|by have:=HM.out;omega]at h;simp only[rE,Bz,cW,ch];rw[h]
    have lJ:O.length+[q].length<=10000000000:= aV ;go_wp2_with (at_builtin;go_must (refine si aO _ _ aO w.heap.size _ O aO (lX.alloc _) _ _ _ [q] aO aO (Sl.uy _ _ q aI aI) lJ (qW hb.size _) ?_);intro v' w1 pJ hg qh;obtain⟨P,hP⟩:∃ P,P=O++[q]:=⟨_,rfl⟩;rw[<-hP]at pJ wi;have Lp:P.length<=3001:=(by rw[hP];simp;omega);clear hP;obtain⟨A',c',rfl,oN⟩:=pJ.sl)
    refine(Em A' c' P _ oN).mono ?_;rintro e w' ⟨A'',c'',rfl,rP,oV⟩;go_wp2;go_ret;rw[<-wi.out];exact⟨A'',c'',rfl,rP,((hb.trans<|iY.alloc _ _).own _ _ (lX.alloc _) hg).trans oV⟩
def asu(x s:Nat)(hx:x<4294967296):bits BinOp.and IntKind.u32 ((x:Int)/2^s) 1=((x/2^s%2:Nat):Int):=by
 have h:x/2^s<4294967296:=dh (cM _ _) aI;rw[show((x:Int)/2^s)=((x/2^s:Nat):Int)by simp,show(1:Int)=((1:Nat):Int)from rfl,bits_and_u32_nat _ _ h aK,ix]
def aqr(A:Option Addr)(c:Nat)(L:List Nat)(w:World)(hs:Sl w A c L)(h1:L.length<=3000)(h0:val L≠0):
 Calls prog 161 #[.slice A L.length c] w λe w'=>e = .returned (.int .i64<|kq<|val L)/\w=w':=by
 have hz:=Hd hs.ok h0;have HB:=aum λk (hk:k<kq (val L))=>OH h0 hk;have HE:=aum<|OG h0;have HV:=aum λk=>OJ hs.ok k;generalize kq (val L)=t at *
 go_enter func161,ntmps161;go_wp2;go_loop [3] (λi=>∃ k:Nat,k<=t/\i = .int .i64 k) (λi=>t-(intOf i).toNat)
 case atStart=>exact⟨0,cA _,rfl⟩
 case round=>
  obtain⟨k,hk,rfl⟩:=hrel;have xg:k/32<L.length:= aI ;obtain⟨ab,ao,rfl,_,c1⟩:=hs.mM xg;have hv:=HV.out k xg;have nF:L[k/32]<4294967296:=hs.ok.get xg;generalize L[k/32]=x at *
  clear HV;have qF:=asu x (k%32) nF;rw[<-hv]at qF;clear hv;by_cases hkt:k<t
  .rw [HB.out k hkt]at qF;have hb:(bits BinOp.and IntKind.u32 ((x:Int)/2^(k%32)) 1==0)=true:=by rw[qF];rfl
   clear qF;go_wp2;go_round
   case rel=>exact⟨k+1,aI,by go_num⟩
   case measure=>simp[intOf];omega
  .obtain rfl:k=t:= aI ;rw[HE.out]at qF;have hb:(bits BinOp.and IntKind.u32 ((x:Int)/2^(k%32)) 1==0)=false:=by rw[qF];rfl
   clear qF;go_wp2;go_ret;exact⟨rfl,rfl⟩
def ap9(A B:Option Addr)(c d:Nat)(L M:List Nat)(w:World)(hs:Sl w A c L)(hr:Sl w B d M)(h1:L.length<=3000)(h2:M.length<=L.length)(hle:val M<=val L):
 Calls prog 223 #[.slice A L.length c,.slice B M.length d] w (uI w<|iB<|val L-val M):=by
 obtain⟨l,hl⟩:∃ l,l=L.length:=⟨_,rfl⟩
 obtain⟨m,hm⟩:∃ m,m=M.length:=⟨_,rfl⟩
 rw[<-hl]at h1 h2 ⊢;rw[<-hm]at h2 ⊢;have HL:=aum hl;have HM:=aum hm;clear hl hm;have HLE:=aum hle;clear hle;go_enter func223,ntmps223;go_wp2;go_loopw [5,6,7] (λv cy i wr=>∃ (k q:Nat) (O:List Nat),k<=l/\i = .int .i64 k/\cy = .int .u64 q/\q<=1/\O.length=k/\val O+val (M.take k)=val (L.take k)+4294967296^k*q/\Ow wr w.heap.size v O/\iY w wr) (λ_ _ i _=>l-(intOf i).toNat)
 case atStart=>exact⟨0,0,[],cA _,rfl,rfl,aK,rfl,aP,Ow.nil _ _,iY.refl _⟩
 case round=>
  obtain⟨k,q,O,hk,rfl,rfl,hq,hO,lI,lX,hb⟩:=hrel;have HS:=aum (λ(x y:Nat) (e1:L.getD k 0=x) (e2:M.getD k 0=y) (dd c':Nat)=>arM (x:=x) (y:=y) (d:=dd) (c':=c') hO lI ((wP L k).trans<|by rw[e1])<|(wP M k).trans<|by rw[e2]);have HV:=aum lI;have HO:=aum hO;have H8:O.length<=3000:= aI ;clear lI hO;obtain⟨OA,Oc,rfl,vc⟩:=lX.sl;by_cases hl:k<l
  .have xg:k<L.length:=by have:=HL.out;omega
   obtain⟨ab,ao,rfl,_,c1⟩:=(hs.below hb).mM xg;have nF:L[k]<4294967296:=hs.ok.get xg;have HX:=aum<|BR xg;generalize L[k]=x at *
   clear xg;by_cases hm:k<m
   .have qk:k<M.length:=by have:=HM.out;omega
    obtain⟨bb,bo,rfl,_,c2⟩:=(hr.below hb).mM qk;have qK:M[k]<4294967296:=hr.ok.get qk;have HY:=aum<|BR qk;generalize M[k]=y at *
    clear qk;have qo:=yA<|x+4294967296-(q+y);rw[show((x+4294967296-(q+y):Nat):Int)=x+4294967296-(q+y)by omega]at qo;have lJ:O.length+[(x+4294967296-(q+y))%4294967296].length<=10000000000:= aV ;go_wp2_with (at_builtin;go_must (refine si aO _ _ aO w.heap.size _ O aO (lX.alloc _) _ _ _ [(x+4294967296-(q+y))%4294967296] aO aO (Sl.uy _ _ ((x+4294967296-(q+y))%4294967296) aI aI) lJ (qW hb.size _) ?_);intro v' w1 pJ hg qh)
    go_roundw
    case rel=>
     exact⟨k+1,1-(x+4294967296-(q+y))/4294967296,O++[(x+4294967296-(q+y))%4294967296],aI,by go_num,by rw[show(1-((x:Int)+4294967296-(q+y))/4294967296)=((1-(x+4294967296-(q+y))/4294967296:Nat):Int)by omega],aI,by rw[c9,HO.out];rfl,HS.out x y HX.out HY.out _ _ aI,pJ,(hb.trans<|iY.alloc _ _).own _ _ (lX.alloc _) hg⟩
    case measure=>simp[intOf];omega
   .have LN:¬(k:Int)<m:= aI ;have HY:=aum (Fa (L:=M) (k:=k)<|by have:=HM.out;omega);have qo:=yA<|x+4294967296-q;rw[show((x+4294967296-q:Nat):Int)=x+4294967296-q by omega]at qo;have lJ:O.length+[(x+4294967296-q)%4294967296].length<=10000000000:= aV ;go_wp2_with (at_builtin;go_must (refine si aO _ _ aO w.heap.size _ O aO (lX.alloc _) _ _ _ [(x+4294967296-q)%4294967296] aO aO (Sl.uy _ _ ((x+4294967296-q)%4294967296) aI aI) lJ (qW hb.size _) ?_);intro v' w1 pJ hg qh)
    go_roundw
    case rel=>
     exact⟨k+1,1-(x+4294967296-q)/4294967296,O++[(x+4294967296-q)%4294967296],aI,by go_num,by rw[show(1-((x:Int)+4294967296-q)/4294967296)=((1-(x+4294967296-q)/4294967296:Nat):Int)by omega],aI,by rw[c9,HO.out];rfl,HS.out x 0 HX.out HY.out _ _ aI,pJ,(hb.trans<|iY.alloc _ _).own _ _ (lX.alloc _) hg⟩
    case measure=>simp[intOf];omega
  .obtain rfl:k=l:= aI ;have wi:Hid<|iI O=iB (val L-val M):=by
    show iI O=_;have h:=HV.out;rw[dg (l:=L)<|by have:=HL.out;omega,dg (l:=M)<|by have:=HM.out;omega]at h;rw[sY lX.ok,(adj lX.ok HO.out h HLE.out).2]
   go_wp2_with fail;refine(Em OA Oc O _ vc).mono ?_;rintro e w' ⟨A'',c'',rfl,rP,oV⟩;go_wp2;go_ret;rw[<-wi.out];exact⟨A'',c'',rfl,rP,hb.trans oV⟩
def RR{O:List Nat}{p a b c o:Nat}(ho:O[p]? = some o):
 val (O.set p<|(a*b+o+c)%4294967296)+4294967296^(p+1)*((a*b+o+c)/4294967296)=val O+4294967296^p*c+4294967296^p*(a*b):=by
 obtain⟨hp,rfl⟩:=cP.1 ho;have h:=To (x:=(a*b+O[p]+c)%4294967296) hp;have e:=congrArg (4294967296^p * ·)<|eA (a*b+O[p]+c) 4294967296;simp only[ct]at e;rw[bV,bO];omega
def OS{O:List Nat}{p c o:Nat}(ho:O[p]? = some o):
 val (O.set p<|(o+c)%4294967296)+4294967296^(p+1)*((o+c)/4294967296)=val O+4294967296^p*c:=by
 have h:=RR (a:=0) (b:=0) (c:=c) ho;simpa using h
def afW{i n k N c:Nat}{O a b:List Nat}(hk:val O+4294967296^k*c=val (a.take<|i+1)*val b)(ha:jc a)(hb:jc b)(hi:i<a.length)(hn:b.length=n)(hc:0<c)(hN:a.length+n<N):k<N:=by
 have h1:=nd<|ha.take<|i+1;rw[cS,dV aI]at h1;have h2:=nd hb;rw[hn]at h2;have h3:val (a.take<|i+1)*val b<4294967296^(i+1+n):=by
  rw[bG];exact iy h1 h2
 have h4:4294967296^k*1<=4294967296^k*c:=cT _ hc;have h5:4294967296^k<4294967296^(i+1+n):= aI ;have:=(atE (aK:1<4294967296)).1 h5;omega
def asz(x y:Nat)(hx:x<4294967296)(hy:y<4294967296):IntKind.u64.wrap ((x:Int)*(y:Int))=((x*y:Nat):Int)/\x*y<=18446744065119617025:=by
 have h:x*y<=4294967295*4294967295:=dE aI aI;refine⟨?_,aI⟩;rw[IntKind.wrap_u64,<-eF];omega
def px(x:Nat)(h:x<18446744073709551616:=by omega):IntKind.u64.wrap (x:Int)=x:=by rw[IntKind.wrap_u64];omega
def Fp.jc.Na{L:List Nat}(h:jc L)(k:Nat)(x:Nat):jc<|L.set k<|x%4294967296:=h.set k<|bQ _ aK
def aql(A B:Option Addr)(c d:Nat)(L M:List Nat)(w:World)(hs:Sl w A c L)(hr:Sl w B d M)(h1:L.length<=3000)(h2:M.length<=3000):
 Calls prog 224 #[.slice A L.length c,.slice B M.length d] w (uI w<|iB<|val L*val M):=by
 obtain⟨l,hl⟩:∃ l,l=L.length:=⟨_,rfl⟩
 obtain⟨m,hm⟩:∃ m,m=M.length:=⟨_,rfl⟩
 rw[<-hl]at h1 ⊢;rw[<-hm]at h2 ⊢;have HL:=aum hl;have HM:=aum hm;clear hl hm;have qo:=FL (l+m+1) aI;rw[show((l+m+1:Nat):Int)=l+m+1 by omega]at qo;have xS:=aum<|Rw.Ac w<|l+m+1;go_enter func224,ntmps224;go_wp2;go_loopw [6] (λi wr=>∃ (k:Nat) (O:List Nat),k<=l/\i = .int .i64 k/\O.length=l+m+1/\jc O/\val O=val (L.take k)*val M/\Rw wr w.heap.size O/\iY w wr) (λi _=>l-(intOf i).toNat)
 case atStart=>
  exact⟨0,List.replicate (l+m+1) 0,cA _,rfl,aP,jc.CH _,by simp[Az],xS.out,iY.alloc _ _⟩
 case round=>
  obtain⟨i,O,hi,rfl,hO,mf,lI,hR,hb⟩:=hrel;have HV:=aum lI;have HO:=aum hO;clear lI hO;by_cases je:i<l
  .have LH:i<L.length:=by have:=HL.out;omega
   obtain⟨x,hx⟩:∃ x,x=L[i]:=⟨_,rfl⟩
   have HX:=aum hx;have nF:x<4294967296:=by rw[hx];exact hs.ok.get LH
   have HXc:=aum λw (h:Sl w A c L)=>hx▸h.mM LH;clear hx;have HST:=aum (show val (L.take<|i+1)=val (L.take i)+4294967296^i*x by rw[HX.out];exact AA L i LH);clear HX LH;go_wp2;obtain⟨wo,rfl⟩:∃ wo:World,wo=wr:=⟨_,rfl⟩
   go_loopw [7,8] (λcy k wr=>∃ (j q:Nat) (O:List Nat),j<=m/\k = .int .i64 j/\cy = .int .u64 q/\q<4294967296/\O.length=l+m+1/\jc O/\val O+4294967296^(i+j)*q=val (L.take i)*val M+4294967296^i*(x*val (M.take j))/\Rw wr w.heap.size O/\iY w wr) (λ_ k _=>m-(intOf k).toNat)
   case atStart=>
    exact⟨0,0,O,cA _,rfl,rfl,aK,HO.out,mf,by simp[HV.out],hR,hb⟩
   case round=>
    clear HO HV mf hR;obtain⟨j,q,O,hj,rfl,rfl,hq,hO,mf,lI,hR,hb⟩:=hrel;have HV:=aum lI;have HO:=aum hO;clear lI hO;by_cases yV:j<m
    .have LI:j<M.length:=by have:=HM.out;omega
     obtain⟨y,hy⟩:∃ y,y=M[j]:=⟨_,rfl⟩
     have qK:y<4294967296:=by rw[hy];exact hr.ok.get LI
     obtain⟨ab,ao,e1,_,c1⟩:=HXc.out _<|hs.below hb;obtain⟨bb,bo,e2,_,c2⟩:=(hr.below hb).mM LI;have HYS:=aum (show val (M.take<|j+1)=val (M.take j)+4294967296^j*y by rw[hy];exact AA M j LI);rw[<-hy]at c2;clear hy LI HXc;subst e1 e2;have hp:i+j<O.length:=by have:=HO.out;omega
     have ho:=bS hp;have alr:O[i+j]<4294967296:=mf.get hp;have c3:=hR.cell ho;have c4:=hR.frozen<|i+j;have HS:=aum<|RR (a:=x) (b:=y) (c:=q) ho;generalize O[i+j]=o at *
     clear ho hp;have LS:=λv=>mf.Na (i+j) v
     have HR2:=aum (λv:Nat=>hR.set (i+j) v);have HE2:=aum λ(n:Nat) (v:Value)=>(below_drewN hb n).setCell (p:=⟨w.heap.size,i+j,none⟩) (bB _) v;have HOK:=aum LS;have HNEW:=aum (show val (L.take i)*val M+4294967296^i*(x*val (M.take<|j+1))=val (L.take i)*val M+4294967296^i*(x*val (M.take j))+4294967296^(i+j)*(x*y)by
      rw[HYS.out,ct x,ct<|4294967296^i,bG,dm];congr 2;rw[dF x,bO])
     obtain⟨sP,Cc⟩:=asz x y nF qK;generalize x*y=z at *
     have sQ:IntKind.u64.wrap ((z:Int)+o)=(z:Int)+o:=by rw[IntKind.wrap_u64];omega
     have rU:IntKind.u64.wrap ((z:Int)+o+q)=(z:Int)+o+q:=by rw[IntKind.wrap_u64];omega
     have xh:=yA<|z+o+q;simp only[fI]at xh;have zR:IntKind.i64.wrap ((i:Int)+j)=(i:Int)+j:=i64_in _;have yR:(0:Int)<=i+j:= aI ;have YI:((i:Int)+j).toNat=i+j:= aI ;have hi4:(i:Int)+j<l+m+1:= aI ;go_wp2;go_quiet (fail);go_wp2;go_roundw
     case rel=>
      exact⟨j+1,(z+o+q)/4294967296,O.set (i+j)<|(z+o+q)%4294967296,aI,by go_num,by go_num,aI,by rw[di];exact HO.out,HOK.out _,by rw[HNEW.out,<-HV.out];exact HS.out,HR2.out _,HE2.out _ _⟩
     case measure=>simp[intOf];omega
    .obtain rfl:j=m:= aI ;have HV2:=aum (show val O+4294967296^(i+j)*q=val (L.take<|i+1)*val M by
      rw[HST.out,HV.out,show M.take j=M from dg<|by rw[HM.out];exact bB _,ca,bO])
     clear HV;go_wp2;obtain⟨wo,rfl⟩:∃ wo:World,wo=wr:=⟨_,rfl⟩
     go_loopw [7,10] (λcy k wr=>∃ (p q:Nat) (O:List Nat),p<=l+j+1/\k = .int .i64 p/\cy = .int .u64 q/\q<4294967296/\O.length=l+j+1/\jc O/\val O+4294967296^p*q=val (L.take<|i+1)*val M/\Rw wr w.heap.size O/\iY w wr) (λ_ k _=>l+j+1-(intOf k).toNat)
     case atStart=>
      exact⟨i+j,q,O,aI,by go_num,rfl,hq,HO.out,mf,HV2.out,hR,hb⟩
     case round=>
      clear HO HV2 mf hR hq;obtain⟨p,q,O,hp,rfl,rfl,hq,hO,mf,lI,hR,hb⟩:=hrel;have HV:=aum lI;have HO:=aum hO;clear lI hO;by_cases hc:0<q
      .have hpN:p<l+j+1:=afW HV.out hs.ok hr.ok (by have:=HL.out;omega) HM.out.symm hc (by have:=HL.out;omega);have QY:p<O.length:=by have:=HO.out;omega
       have ho:=bS QY;have alr:O[p]<4294967296:=mf.get QY;have c3:=hR.cell ho;have c4:=hR.frozen p;have HS:=aum<|OS (c:=q) ho;generalize O[p]=o at *
       clear ho QY;have HR2:=aum (λv:Nat=>hR.set p v);have HE2:=aum (λv:Value=>hb.setCell (p:=⟨w.heap.size,p,none⟩) (bB _) v);have HOK:=aum λv=>mf.Na p v;have xh:=yA<|o+q;simp only[fI]at xh;have FA:decide ((q:Int)>0)=true:=bC aI;have xk:decide (0<q)=true:=bC hc;go_wp2;go_roundw
       case rel=>
        exact⟨p+1,(o+q)/4294967296,O.set p<|(o+q)%4294967296,aI,by go_num,by go_num,aI,by rw[di];exact HO.out,HOK.out _,by rw[<-HV.out];exact HS.out,HR2.out _,HE2.out _⟩
       case measure=>simp[intOf];omega
      .obtain rfl:q=0:= aI ;go_wp2;go_roundw
       case rel=>
        exact⟨i+1,O,aI,by go_num,HO.out,mf,by rw[<-HV.out];simp,hR,hb⟩
       case measure=>simp[intOf];omega
  .obtain rfl:i=l:= aI ;have HF:=aum (show iI O=iB (val L*val M)by
    rw[sY mf,HV.out,show L.take i=L from dg<|by rw[HL.out];exact bB _])
   have A8:=hR.sl mf (by rw[HO.out];omega);obtain⟨n,hn⟩:∃ n,n=O.length:=⟨_,rfl⟩
   have kX:i+m+1=n:=by rw[hn];exact HO.out.symm
   have hT:=aum (Em _ _ O _ A8<|by rw[HO.out];omega);rw[HO.out]at hT;clear hn kX;go_wp2_with fail;refine hT.out.mono ?_;rintro e w' ⟨A'',c'',rfl,rP,oV⟩;go_wp2;go_ret;rw[<-HF.out];exact⟨A'',c'',rfl,rP,hb.trans oV⟩
def JG(s:Bool)(A:Option Addr)(c:Nat)(L:List Nat)(e:Int)(w:World)(hs:Sl w A c L)(hlen:L.length<=3000)(lG:-1000000<=e)(kW:e<=1000000):
 Calls prog 104 #[.bool s,.slice A L.length c,.int .i64 e] w (vv w<|canon s (val L) e):=by
 by_cases h0:val L=0
 .have nD:=aum (show canon s (val L) e=jK by unfold canon;rw[bA h0];rfl);have Q8:iI L=[]:=by rw[sY hs.ok,h0,oP]
  have hT:=aum λw (h:Sl w A c L)=>Em A c L w h;rw[Q8]at hT;clear Q8 h0;go_enter func104,ntmps104;go_wp2_with fail;refine(hT.out _<|hs.alloc _).mono ?_;rintro e w' ⟨A',c',rfl,oN,hb⟩;have bx:=(jO.new w false none 0 0 0).ext hb;have b0:=bx.c0;have b1:=bx.c1;have b2:=bx.c2;have f0:=bx.fr 0;have f1:=bx.fr 1;have f2:=bx.fr 2;go_wp2;rw[nD.out];have hz:iB jK.m=[]:=oP;exact uc rfl rfl rfl (bx.set _ _ _ _ _) (by rw[hz];rfl) (by rw[hz];exact bx.uE (Sl.nil _) _ _ _ _ _) (jO.tV ((iY.alloc _ _).trans hb) (bB _) _ _ _ _ _)
 .have nD:=aum (show canon s (val L) e=⟨s,val L/2^kq (val L),e+kq (val L)⟩by unfold canon;rw[bw h0]);have hT:=aum λw (h:Sl w A c L)=>Em A c L w h;have ht1:=pV L;unfold mV at ht1;have hv:=pW L;have mf:=hs.ok.iI;generalize iI L=M at *
  rw[<-hv]at h0 nD ⊢;clear hv;have hZ:=aum λA c w (h:Sl w A c M)=>aqr A c M w h aI h0;have uW:kq (val M)<=100000:=by have:=Hd mf h0;omega
  have hR:=aum λA c w (h:Sl w A c M)=>aqg A c M (kq<|val M) w h aI uW;have uR:M.length≠0:=by intro h;rw[dZ h]at h0;exact h0 rfl
  generalize val M/2^kq (val M)=q at *
  generalize kq (val M)=t at *
  obtain⟨m,hm⟩:∃ m,m=M.length:=⟨_,rfl⟩
  go_enter func104,ntmps104;go_wp2_with fail;refine(hT.out _<|hs.alloc _).mono ?_;rintro e' w1 ⟨A1,c1,rfl,sO,lu⟩;go_wp2_with fail;refine(hZ.out _ _ _ sO).mono ?_;rintro e' w2 ⟨rfl,rfl⟩;go_wp2_with fail;refine(hR.out _ _ _ sO).mono ?_;rintro e' w2 ⟨A2,c2,rfl,kZ,mq⟩;have hb:=lu.trans mq;have bx:=(jO.new w false none 0 0 0).ext hb;have b0:=bx.c0;have b1:=bx.c1;have b2:=bx.c2;have f0:=bx.fr 0;have f1:=bx.fr 1;have f2:=bx.fr 2;go_wp2;rw[nD.out];exact uc rfl rfl rfl (bx.set _ _ _ _ _) rfl (bx.uE kZ _ _ _ _ _) (jO.tV ((iY.alloc _ _).trans hb) (bB _) _ _ _ _ _)
def aio(A:Option Addr)(c:Nat)(L:List Nat)(w:World)(hs:Sl w A c L)(h1:L.length<=3000)(h0:val L≠0)(hT:Tb w):
 Calls prog 178 #[.slice A L.length c] w λe w'=>e = .returned (.int .i64<|kq<|val L)/\w=w':=by
 have mf:=hs.ok;have HV:=aum λi hi h hx=>ahQ mf i hi h hx;have H0:=aum h0;clear h0;go_enter func178,ntmps178;go_wp2;go_loop [3,8] (λn i=>∃ k:Nat,k<=L.length/\i = .int .i64 k/\n = .int .i64 ((32*k:Nat):Int)/\∀ j,(hj:j<k)->L[j]? = some 0) (λ_ i=>L.length-(intOf i).toNat)
 case atStart=>exact⟨0,cA _,rfl,rfl,λj hj=> aI⟩
 case round=>
  obtain⟨k,hk,rfl,rfl,hz⟩:=hrel;have HZ:=aum hz;clear hz;by_cases je:k<L.length
  .obtain ⟨ab,ao,rfl,_,c1⟩:=hs.mM je;have nF:L[k]<4294967296:=mf.get je;have HG:=aum<|bS je;have HC:=aum (λhx=>HV.out k je (λj hj=>by have:=HZ.out j hj;rw[bS aI]at this;simpa using this) hx);clear HV;generalize L[k]=x at *
   by_cases hx:x=0
   .have HX:=aum hx;clear hx;have hb:((x:Int) != 0)=false:=by have:=HX.out;simp;omega
    go_wp2;go_round
    case rel=>exact⟨k+1,aI,by go_num,by go_num,λj hj=>by
     by_cases e:j=k
     .subst e;rw[HG.out,HX.out]
     .exact HZ.out j aI⟩
    case measure=>simp[intOf];omega
   .have hb:((x:Int) != 0)=true:= aV ;have HX:=aum<|HC.out hx;have as1:kq x<=32:=by
     have h1:=Jv hx;rcases eP 32 (kq x)with h|h
     .have:=fJ (a:=2) aK h;have e:(2:Nat)^32=4294967296:= aK ;omega
     .exact h
    go_wp2_with (go_at_call 214;refine(asr x hx nF _ hT).mono ?_;rintro e w' ⟨rfl,rfl⟩)
    go_ret;exact⟨pG<|by rw[HX.out];simp,rfl⟩
  .exfalso;have:val L=0:=by
    rw[JZ];intro y hy;obtain⟨j,hj,rfl⟩:=List.getElem_of_mem hy;have:=HZ.out j aI;rw[bS hj]at this;simpa using this
   exact H0.out this
def K2(s:Bool)(A:Option Addr)(c:Nat)(L:List Nat)(e:Int)(w:World)(hs:Sl w A c L)(_hlen:L.length<=100000)(ot:(iI L).length<=256)(lG:-1000000<=e)(kW:e<=1000000)(s7:Tb w):
 Calls prog 121 #[.bool s,.slice A L.length c,.int .i64 e] w (vv w<|canon s (val L) e):=by
 have hT:=aum λw (h:Sl w A c L)=>ait A c L w h;have kZ:=hs.wO;have hv:=pW L;have mf:=hs.ok.iI;have DP:=By L;generalize iI L=M at *
 rw[<-hv];clear hv;by_cases h0:val M=0
 .have nD:=aum (show canon s (val M) e=jK by unfold canon;rw[bA h0];rfl);have uR:Hid<|M.length=0:=by
   show M.length=0;rw[DP.E3 mf,h0,oP];rfl
  obtain⟨m,hm⟩:∃ m,m=M.length:=⟨_,rfl⟩
  rw[<-hm]at hT uR;clear hm h0;obtain rfl:m=0:=uR.out;clear uR;go_enter func121,ntmps121;go_wp2_with fail;refine(hT.out _<|hs.alloc _).mono ?_;rintro e w' ⟨rfl,rfl⟩;have bx:=jO.new w false none 0 0 0;have b0:=bx.c0;have b1:=bx.c1;have b2:=bx.c2;have f0:=bx.fr 0;have f1:=bx.fr 1;have f2:=bx.fr 2;go_wp2;rw[nD.out];have hz:iB jK.m=[]:=oP;exact uc rfl rfl rfl bx (by rw[hz];rfl) (by rw[hz];exact Sl.nil _) (iY.alloc _ _)
 .have nD:=aum (show canon s (val M) e=⟨s,val M/2^kq (val M),e+kq (val M)⟩by unfold canon;rw[bw h0]);have hZ:=aum λA c w (h:Sl w A c M) (ht:Tb w)=>aio A c M w h aI h0 ht;have uW:kq (val M)<=65536:=by have:=Hd mf h0;omega
  have hR:=aum λA c w (h:Sl w A c M)=>aaI A c M (kq<|val M) w h ot uW;have uR:M.length≠0:=by intro h;rw[dZ h]at h0;exact h0 rfl
  have xU:(iB<|val M/2^kq (val M)).length<=256:=by
   refine sR<|dh (cM _ _) ?_;exact cg (nd mf)<|bZ aK ot
  generalize val M/2^kq (val M)=q at *
  generalize kq (val M)=t at *
  have hK:=aum λA c w (h:Sl w A c<|iB q)=>O5 A c (iB q) w h aI;have hP:=aum λA c w (h:Sl w A c<|iB q)=>O4 A c (iB q) w h;obtain⟨Q,hQ⟩:∃ Q,Q=iB q:=⟨_,rfl⟩
  have HQ:=aum hQ;rw[<-hQ]at hR hK hP xU;clear hQ;go_enter func121,ntmps121;go_wp2_with fail;refine(hT.out _<|hs.alloc _).mono ?_;rintro e' w1 ⟨rfl,rfl⟩;go_wp2_with fail;refine(hZ.out _ _ _ (kZ.alloc _)<|s7.alloc _).mono ?_;rintro e' w2 ⟨rfl,rfl⟩;go_wp2_with fail;refine(hR.out _ _ _<|kZ.alloc _).mono ?_;rintro e' w2 ⟨A2,c2,rfl,alA,mq⟩;go_wp2_with fail;refine(hK.out _ _ _ alA).mono ?_;rintro e' w3 ⟨A3,c3,rfl,DN,ph⟩;go_wp2_with fail;refine(hP.out _ _ _ DN).mono ?_;rintro e' w4 ⟨rfl,rfl⟩;have hb:=mq.trans ph;have bx:=(jO.new w false none 0 0 0).ext hb;have b0:=bx.c0;have b1:=bx.c1;have b2:=bx.c2;have f0:=bx.fr 0;have f1:=bx.fr 1;have f2:=bx.fr 2;go_wp2;rw[nD.out];rw[HQ.out]at DN ⊢;exact uc rfl rfl rfl (bx.set _ _ _ _ _) rfl (bx.uE DN.Wa _ _ _ _ _) (jO.tV ((iY.alloc _ _).trans hb) (bB _) _ _ _ _ _)
def Pj(A:Option Addr)(c:Nat)(L:List Nat)(w:World)(hs:Sl w A c L)(hlen:L.length<=100000000):
 Calls prog 176 #[.slice A L.length c] w λe w'=>e = .returned (.int .i64<|iE<|val L)/\w=w':=by
 have H:=aum<|aaB A c L w hs hlen;go_enter func176,ntmps176;go_wp2_with fail;refine H.out.mono ?_;rintro e w' ⟨rfl,rfl⟩;go_wp2;go_ret;exact⟨rfl,rfl⟩
def xn(m:Nat)(e:Int):Bool:=decide (oC ⟨false,m,e⟩)
def Rl(s:Bool)(A:Option Addr)(c:Nat)(L:List Nat)(e:Int)(w:World)(hs:Sl w A c L)(hlen:L.length<=100000000)(lG:-9223372036854775808<=e)(kW:e<=9223372036854775807):
 Calls prog 118 #[.agg #[.bool s,.slice A L.length c,.int .i64 e]] w λr w'=>r = .returned (.bool<|xn (val L) e)/\iY w w':=by
 have H:=aum λw (h:Sl w A c L)=>Pj A c L w h hlen;have hn:Hid<|xn (val L) e=decide (iE (val L)=0\/iE (val L)<=4096 /\ -16384<=e/\e<=16384/\(iE<|val L:Int)+e<=16384):=by
  have h:iE (val L)=0↔val L=0:=by
   constructor
   .intro h;apply cF;intro h0;have:=og h0;omega
   .intro h;rw[h];rfl
  exact iz.2<|or_congr h.symm Iff.rfl
 have AT:iE (val L)<=32*L.length:=lE.2 (by rw[<-oz];exact nd hs.ok);generalize iE (val L)=n at *
 generalize xn (val L) e=b at *
 have akX:n=0\/(0<n/\4096<n)\/(0<n/\n<=4096/\e < -16384)\/(0<n/\n<=4096 /\ -16384<=e/\16384<e)\/(0<n/\n<=4096 /\ -16384<=e/\e<=16384/\16384<(n:Int)+e)\/(0<n/\n<=4096 /\ -16384<=e/\e<=16384/\(n:Int)+e<=16384):= aI ;rcases akX with h|⟨h,h1⟩|⟨h,h1,h2⟩|⟨h,h1,h2,h3⟩|⟨h,h1,h2,h3,h4⟩|⟨h,h1,h2,h3,h4⟩
 .subst h;have hb:b=true:=by rw[hn.out];simp
  clear hn;subst hb;go_enter func118,ntmps118;go_wp2_with fail;refine(H.out _<|hs.alloc _).mono ?_;rintro r w' ⟨rfl,rfl⟩;go_wp2;go_ret;exact⟨rfl,iY.alloc _ _⟩
 .have hb:b=false:=by rw[hn.out];simp;omega
  have qp:((n:Int)==0)=false:= aV ;have qT:decide ((n:Int)<=4096)=false:= aV ;clear hn;subst hb;go_enter func118,ntmps118;go_wp2_with fail;refine(H.out _<|hs.alloc _).mono ?_;rintro r w' ⟨rfl,rfl⟩;go_wp2;go_ret;exact⟨rfl,iY.alloc _ _⟩
 .have hb:b=false:=by rw[hn.out];simp;omega
  have qp:((n:Int)==0)=false:= aV ;have qT:decide ((n:Int)<=4096)=true:= aV ;have kX:decide (-16384<=e)=false:= aV ;clear hn;subst hb;go_enter func118,ntmps118;go_wp2_with fail;refine(H.out _<|hs.alloc _).mono ?_;rintro r w' ⟨rfl,rfl⟩;go_wp2;go_ret;exact⟨rfl,iY.alloc _ _⟩
 .have hb:b=false:=by rw[hn.out];simp;omega
  have qp:((n:Int)==0)=false:= aV ;have qT:decide ((n:Int)<=4096)=true:= aV ;have kX:decide (-16384<=e)=true:= aV ;have Fw:decide (e<=16384)=false:= aV ;clear hn;subst hb;go_enter func118,ntmps118;go_wp2_with fail;refine(H.out _<|hs.alloc _).mono ?_;rintro r w' ⟨rfl,rfl⟩;go_wp2;go_ret;exact⟨rfl,iY.alloc _ _⟩
 .have hb:b=false:=by rw[hn.out];simp;omega
  have qp:((n:Int)==0)=false:= aV ;have qT:decide ((n:Int)<=4096)=true:= aV ;have kX:decide (-16384<=e)=true:= aV ;have Fw:decide (e<=16384)=true:= aV ;have hn4:decide ((n:Int)+e<=16384)=false:= aV ;clear hn;subst hb;go_enter func118,ntmps118;go_wp2_with fail;refine(H.out _<|hs.alloc _).mono ?_;rintro r w' ⟨rfl,rfl⟩;go_wp2;go_ret;exact⟨rfl,iY.alloc _ _⟩
 .have hb:b=true:=by rw[hn.out];simp;omega
  have qp:((n:Int)==0)=false:= aV ;have qT:decide ((n:Int)<=4096)=true:= aV ;have kX:decide (-16384<=e)=true:= aV ;have Fw:decide (e<=16384)=true:= aV ;have hn4:decide ((n:Int)+e<=16384)=true:= aV ;clear hn;subst hb;go_enter func118,ntmps118;go_wp2_with fail;refine(H.out _<|hs.alloc _).mono ?_;rintro r w' ⟨rfl,rfl⟩;go_wp2;go_ret;exact⟨rfl,iY.alloc _ _⟩
def pH(s:Bool)(L:List Nat)(e:Int):Prop:=oI L/\L.length<=256/\Dy.iD ⟨s,val L,e⟩
def WK(s:Bool)(e:Int):pH s [] e↔s=false/\e=0:=by
 unfold pH;constructor
 .rintro ⟨_,_,hc,_⟩;rcases hc with⟨_,h1,h2⟩|h
  .exact ⟨h1,h2⟩
  .simp at h
 .rintro ⟨rfl,rfl⟩;exact⟨oI.nil,aP,ri⟩
def WJ{s:Bool}{L:List Nat}{e:Int}{x y:Nat}(hx:L[0]? = some x)(hy:L[L.length-1]? = some y):
 pH s L e↔L.length<=256/\x%2=1/\y≠0/\xn (val L) e=true:=by
 have YT:val L%2=x%2:=by
  cases L with
  |nil=>simp at hx
  |cons z l=>simp at hx;subst hx;simp only[rE];omega
 have DP:oI L↔y≠0:=by
  rw[CO];obtain⟨h1,h2⟩:=cP.1 hy;constructor
  .intro h;rw[<-h2];exact h aI 
  .intro h _;rw[h2];exact h
 unfold pH xn;rw[DP,atS];constructor
 .rintro ⟨h1,h2,hc,hr⟩;have wA:oC ⟨false,val L,e⟩:=hr;refine⟨h2,?_,h1,wA⟩;rcases hc with⟨h,_,_⟩|h
  .exfalso;have:=(DP.2 h1).BA (by intro h0;subst h0;simp at hx);simp only at h;omega
  .rw [<-YT];exact h
 .rintro ⟨h1,h2,h3,h4⟩;exact⟨h3,h1,.inr<|by show val L%2=1;rw[YT];exact h2,h4⟩
section
variable{b:Bool}{P:Prop}(h:b=true↔P)
def s5(hn:¬P):b=false:=by
 cases b
 .rfl
 .exact absurd (h.1 rfl) hn
def OC(hn:P):b=true:=h.2 hn
end
def afj{b v:Bool}{P:Prop}(h:b=true↔P)(hn:P↔v=true):b=v:=by
 cases b<;>cases v<;>simp_all
def EW(s:Bool)(A:Option Addr)(c:Nat)(L:List Nat)(e:Int)(w:World)(b:Bool)(hs:Sl w A c L)(lG:-9223372036854775808<=e)(kW:e<=9223372036854775807)(hb:b=true↔pH s L e):
 Calls prog 72 #[.agg #[.bool s,.slice A L.length c,.int .i64 e]] w λr w'=>r = .returned (.bool b)/\iY w w':=by
 have Fi:=hs.cap;have uW:=hs.nU;by_cases hL:L=[]
 .subst hL;rw[WK]at hb;cases s
  .by_cases h:e=0
   .subst h;have:b=true:=by simpa using hb
    clear hb;subst this;go_enter func72,ntmps72;go_wp2;go_ret;exact⟨rfl,iY.alloc _ _⟩
   .have:b=false:=s5 hb (by simp[h]);have h':(e==0)=false:= aV ;clear hb;subst this;go_enter func72,ntmps72;go_wp2;go_ret;exact⟨rfl,iY.alloc _ _⟩
  .have:b=false:=s5 hb aP ;clear hb;subst this;go_enter func72,ntmps72;go_wp2;go_ret;exact⟨rfl,iY.alloc _ _⟩
 .have qI:0<L.length:=fm.2 hL;clear hL;obtain⟨ab,ao,rfl,_,c1⟩:=hs.mM qI;obtain⟨ab',ao',e',_,c2⟩:=hs.mM (i:=L.length-1) aI;cases e';have nF:=hs.ok.get qI;have qK:=hs.ok.get (aI:L.length-1<L.length);rw[WJ (bS qI)<|bS (aI:L.length-1<L.length)]at hb;have c1':w.cell? ⟨ab,ao,none⟩=some (.int .u32 (L[0]:Int)):=c1;clear c1;generalize L[0]=x at *
  generalize L[L.length-1]=y at *
  have HB:=aum hb;clear hb;have H:=aum λw (h:Sl w (some ⟨ab,ao,none⟩) c L) (hl:L.length<=256)=>Rl s _ c L e w h aI lG kW;obtain⟨n,hn⟩:∃ n,n=L.length:=⟨_,rfl⟩
  rw[<-hn]at qI c2 H HB Fi ⊢;clear hn;generalize xn (val L) e=v at *
  have qp:((n:Int)==0)=false:= aV ;by_cases h1:n<=256
  .have qT:decide ((n:Int)<=256)=true:= aV ;by_cases h2:x%2=1
   .have kX:((x:Int)%2==1)=true:= aV ;by_cases h3:y=0
    .have:b=false:=s5 HB.out (by simp[h3]);have Fw:((y:Int) != 0)=false:= aV ;clear HB;subst this;go_enter func72,ntmps72;go_wp2;go_ret;exact⟨rfl,iY.alloc _ _⟩
    .have:b=v:=afj HB.out (by simp[h1,h2,h3]);have Fw:((y:Int) != 0)=true:= aV ;clear HB;subst this;go_enter func72,ntmps72;go_wp2_with fail;refine(H.out _ (hs.alloc _) h1).mono ?_;rintro r w' ⟨rfl,oV⟩;go_wp2;go_ret;exact⟨rfl,(iY.alloc _ _).trans oV⟩
   .have:b=false:=s5 HB.out λh=>h2 h.2.1;have kX:((x:Int)%2==1)=false:= aV ;clear HB;subst this;go_enter func72,ntmps72;go_wp2;go_ret;exact⟨rfl,iY.alloc _ _⟩
  .have:b=false:=s5 HB.out λh=>h1 h.1;have qT:decide ((n:Int)<=256)=false:= aV ;clear HB;subst this;go_enter func72,ntmps72;go_wp2;go_ret;exact⟨rfl,iY.alloc _ _⟩
def RG{n k:Nat}(h:iE n<=32*k):(iB n).length<=k:=sR<|by rw[oz];exact lE.1 h
def aie(d:Dy):pH d.neg (iB d.m) d.e↔d.iD:=by
 unfold pH;rw[kE];constructor
 .exact λh=>h.2.2
 .intro h;refine⟨Av _,?_,h⟩;rcases h.range with h0|⟨h1,_⟩
  .rw [h0,oP];simp
  .exact RG aI 
def pH.E3{s:Bool}{L:List Nat}{e:Int}(h:pH s L e)(hk:jc L):L=iB (val L):=h.1.E3 hk
section
variable{s:Bool}{L:List Nat}{e:Int}(h:pH s L e)
def pH.len:L.length<=256:=h.2.1
def pH.bits:iE (val L)<=4096:=by
 rcases h.2.2.range with h0|⟨h1,_⟩
 .simp only at h0;rw[h0];decide
 .exact h1
def pH.exp:-16384<=e/\e<=16384:=by
 rcases h.2.2.range with h0|⟨_,h1,h2,_⟩
 .rcases h.2.2.canon with⟨_,_,h3⟩|h3
  .simp only at h3;omega
  .simp only at h0 h3;omega
 .exact ⟨h1,h2⟩
end
section
variable(s:Bool)(A:Option Addr)(c:Nat)(L:List Nat)(e:Int)(w:World)(hs:Sl w A c L)(hd:pH s L e)
def Pk:
 Calls prog 156 #[.agg #[.bool s,.slice A L.length c,.int .i64 e]] w λr w'=>r = .returned (.int .i64<|Dy.jb ⟨s,val L,e⟩)/\iY w w':=by
 obtain⟨lG,kW⟩:=hd.exp;have hl:=hd.len;have Ly:=hd.bits;have HV:=aum (λw (h:Sl w A c L)=>EW s A c L e w true h aI aI<|by simp[hd]);have HS:=aum λw (h:Sl w A c L)=>Pj A c L w h aI;by_cases h0:L=[]
 .subst h0;go_enter func156,ntmps156;go_wp2_with fail;refine(HV.out _<|hs.alloc _).mono ?_;rintro r w' ⟨rfl,hb⟩;have bx:=(jO.new w s A 0 c e).ext hb;have b0:=bx.c0;have b1:=bx.c1;have b2:=bx.c2;go_wp2;go_ret;exact⟨rfl,(iY.alloc _ _).trans hb⟩
 .have qI:0<L.length:=fm.2 h0;have tN:val L≠0:=by have:=hd.1.BA h0;omega
  have ht:=aum (show Dy.jb ⟨s,val L,e⟩=iE (val L)+e by unfold Dy.jb;rw[bw tN]);clear h0 tN;generalize Dy.jb ⟨s,val L,e⟩=t at *
  generalize iE (val L)=q at *
  have hw:IntKind.i64.wrap ((q:Int)+e)=q+e:=i64_in _;have qp:((L.length:Int)==0)=false:=bk aI;go_enter func156,ntmps156;go_wp2_with fail;refine(HV.out _<|hs.alloc _).mono ?_;rintro r w' ⟨rfl,hb⟩;have bx:=(jO.new w s A L.length c e).ext hb;have b0:=bx.c0;have b1:=bx.c1;have b2:=bx.c2;have oN:=(hs.alloc _).below hb;go_wp2_with fail;go_region_held3 (λw'=>w'.cell? ⟨w.heap.size,1,none⟩=some (.slice A L.length c)/\w'.cell? ⟨w.heap.size,2,none⟩=some (.int .i64 e)) (go_keep)
   (first|(go_at_call 176;refine(HS.out _ ?_).mono ?_;(exact oN.drew);rintro r w'' ⟨rfl,rfl⟩))
  go_wp2;go_ret;exact⟨pG<|by rw[ht.out],Below.drew<|(iY.alloc _ _).trans hb⟩
def aih:
 Calls prog 302 #[.agg #[.bool s,.slice A L.length c,.int .i64 e]] w λr w'=>r = .returned (.int .i64<|iE<|val L)/\iY w w':=by
 obtain⟨lG,kW⟩:=hd.exp;have hl:=hd.len;have HV:=aum (λw (h:Sl w A c L)=>EW s A c L e w true h aI aI<|by simp[hd]);have HS:=aum λw (h:Sl w A c L)=>Pj A c L w h aI;go_enter func302,ntmps302;go_wp2_with fail;refine(HV.out _<|hs.alloc _).mono ?_;rintro r w' ⟨rfl,hb⟩;have bx:=(jO.new w s A L.length c e).ext hb;have b0:=bx.c0;have b1:=bx.c1;have b2:=bx.c2;go_wp2_with fail;refine(HS.out _<|(hs.alloc _).below hb).mono ?_;rintro r w' ⟨rfl,rfl⟩;go_wp2;go_ret;exact⟨rfl,(iY.alloc _ _).trans hb⟩
def Ph:
 Calls prog 73 #[.agg #[.bool s,.slice A L.length c,.int .i64 e]] w λr w'=>r = .returned (.int .i64<|Dy.jB ⟨s,val L,e⟩)/\iY w w':=by
 obtain⟨lG,kW⟩:=hd.exp;have hl:=hd.len;have HV:=aum (λw (h:Sl w A c L)=>EW s A c L e w true h aI aI<|by simp[hd]);by_cases h0:L=[]
 .subst h0;go_enter func73,ntmps73;go_wp2_with fail;refine(HV.out _<|hs.alloc _).mono ?_;rintro r w' ⟨rfl,hb⟩;have bx:=(jO.new w s A 0 c e).ext hb;have b0:=bx.c0;have b1:=bx.c1;have b2:=bx.c2;go_wp2;go_ret;exact⟨rfl,(iY.alloc _ _).trans hb⟩
 .have qI:0<L.length:=fm.2 h0;have tN:val L≠0:=by have:=hd.1.BA h0;omega
  have ht:=aum (show Dy.jB ⟨s,val L,e⟩=if s then -1 else 1 by unfold Dy.jB;rw[bw tN]);clear h0 tN;generalize Dy.jB ⟨s,val L,e⟩=t at *
  have qp:((L.length:Int)==0)=false:=bk aI;go_enter func73,ntmps73;go_wp2_with fail;refine(HV.out _<|hs.alloc _).mono ?_;rintro r w' ⟨rfl,hb⟩;have bx:=(jO.new w s A L.length c e).ext hb;have b0:=bx.c0;have b1:=bx.c1;have b2:=bx.c2;cases s
  .go_wp2;go_ret;exact⟨pG<|by rw[ht.out];rfl,(iY.alloc _ _).trans hb⟩
  .go_wp2;go_ret;exact⟨pG<|by rw[ht.out];rfl,(iY.alloc _ _).trans hb⟩
end
def aji(e:Int)(w:World)(b:Bool)(hb:b=true↔(-32768<=e/\e<=32768)):
 Calls prog 119 #[.int .i64 e] w λr w'=>r = .returned (.bool b)/\w=w':=by
 by_cases h1:-32768<=e
 .have d1:decide (-32768<=e)=true:=by simpa using h1
  by_cases h2:e<=32768
  .have d2:decide (e<=32768)=true:=by simpa using h2
   have:=OC hb ⟨h1,h2⟩;clear hb;subst this;go_enter func119,ntmps119;go_wp2;go_ret;exact⟨rfl,rfl⟩
  .have d2:decide (e<=32768)=false:=by simpa using h2
   have:=s5 hb λh=>h2 h.2;clear hb;subst this;go_enter func119,ntmps119;go_wp2;go_ret;exact⟨rfl,rfl⟩
 .have d1:decide (-32768<=e)=false:=by simpa using h1
  have:=s5 hb λh=>h1 h.1;clear hb;subst this;go_enter func119,ntmps119;go_wp2;go_ret;exact⟨rfl,rfl⟩
section
variable(d:Dy)(A:Option Addr)(c:Nat)(w:World)(hs:Sl w A c<|iB d.m)(hl:(iB d.m).length<=100000000)(lG:-10000000<=d.e)(kW:d.e<=10000000)
def V7(hd:oC d):
 Calls prog 120 #[.agg #[.bool d.neg,.slice A (iB d.m).length c,.int .i64 d.e]] w (AG w d 0):=by
 obtain⟨s,m,e⟩:=d;simp only at *
 have hr:xn m e=true:=by unfold xn;exact bC hd
 have HV:=aum λw (h:Sl w A c<|iB m)=>Rl s A c (iB m) e w h hl aI aI;rw[kE,hr]at HV;clear hr hd;go_enter func120,ntmps120;go_wp2_with fail;refine(HV.out _<|(hs.alloc _).alloc _).mono ?_;rintro r w' ⟨rfl,hb⟩;have bx:=((jO.new w s A (iB m).length c e).alloc<|.cells #[.bool false,.slice none 0 0,.int .i64 0] 31).ext hb;have by_:=(jO.new (w.alloc<|.cells #[.bool s,.slice A (iB m).length c,.int .i64 e] 31) false none 0 0 0).ext hb;have b0:=bx.c0;have b1:=bx.c1;have b2:=bx.c2;have bz:(w.alloc<|.cells #[.bool s,.slice A (iB m).length c,.int .i64 e] 31).heap.size=w.heap.size+1:= aP ;rw[bz]at by_;have c0:=by_.c0;have c1:=by_.c1;have c2:=by_.c2;have f0:=by_.fr 0;have f1:=by_.fr 1;have f2:=by_.fr 2;have oN:=((hs.alloc<|.cells #[.bool s,.slice A (iB m).length c,.int .i64 e] 31).alloc<|.cells #[.bool false,.slice none 0 0,.int .i64 0] 31).below hb;have oV:iY w w':=((iY.alloc _ _).trans<|iY.alloc _ _).trans hb;clear bz;go_wp2;exact EX rfl rfl rfl rfl (by_.set _ _ _ _ _) rfl (by_.uE oN _ _ _ _ _) (jO.tV oV aI _ _ _ _ _)
def ahr(hd:¬oC d):
 Calls prog 120 #[.agg #[.bool d.neg,.slice A (iB d.m).length c,.int .i64 d.e]] w (AG w jK 9):=by
 obtain⟨s,m,e⟩:=d;simp only at *
 have hr:xn m e=false:=by unfold xn;exact bE hd
 have HV:=aum λw (h:Sl w A c<|iB m)=>Rl s A c (iB m) e w h hl aI aI;rw[kE,hr]at HV;clear hr hd;go_enter func120,ntmps120;go_wp2_with fail;refine(HV.out _<|(hs.alloc _).alloc _).mono ?_;rintro r w' ⟨rfl,hb⟩;have by_:=(jO.new (w.alloc<|.cells #[.bool s,.slice A (iB m).length c,.int .i64 e] 31) false none 0 0 0).ext hb;have bz:(w.alloc<|.cells #[.bool s,.slice A (iB m).length c,.int .i64 e] 31).heap.size=w.heap.size+1:= aP ;rw[bz]at by_;have c0:=by_.c0;have c1:=by_.c1;have c2:=by_.c2;have f0:=by_.fr 0;have f1:=by_.fr 1;have f2:=by_.fr 2;have oV:iY w w':=((iY.alloc _ _).trans<|iY.alloc _ _).trans hb;have hz:iB jK.m=[]:=oP;have HZ:=aum hz;clear bz hz;go_wp2;exact EX rfl rfl rfl rfl (by_.set _ _ _ _ _) (by rw[HZ.out];rfl) (by rw[HZ.out];exact by_.uE (Sl.nil _) _ _ _ _ _) (jO.tV oV aI _ _ _ _ _)
end
def amY(s:Bool)(A:Option Addr)(c:Nat)(L:List Nat)(e:Int)(w:World)(hs:Sl w A c L)(hlen:L.length<=256)(lG:-32768<=e)(kW:e<=32768)(s7:Tb w)(hd:oC<|canon s (val L) e):
 Calls prog 289 #[.bool s,.slice A L.length c,.int .i64 e] w (AG w (canon s (val L) e) 0):=by
 have zS:decide (256<(L.length:Int))=false:=bE aI;have HE:=aum (λw=>aji e w true<|by simp[lG,kW]);have HC:=aum (λw (h:Sl w A c L) (ht:Tb w)=>K2 s A c L e w h aI (by have:=pV L;unfold mV at this;omega) aI aI ht);have lu:(iB (canon s (val L) e).m).length<=100000000:=by
  unfold canon;split
  .simp [oP]
  .refine b9 (sR (k:=256)<|dh (cM _ _) ?_) aK ;exact cg (nd hs.ok)<|bZ aK hlen
 have mq:-10000000<=(canon s (val L) e).e/\(canon s (val L) e).e<=10000000:=by
  unfold canon;split
  .simp
  .rename_i h0;have:=Hd hs.ok h0;simp only;omega
 obtain⟨mq,ph⟩:=mq;have HK:=aum λA c w (h:Sl w A c<|iB (canon s (val L) e).m)=>V7 _ A c w h lu mq ph hd;generalize canon s (val L) e=d at *
 clear hd lu mq ph;go_enter func289,ntmps289;go_wp2_with fail;refine(HE.out _).mono ?_;rintro r w' ⟨rfl,rfl⟩;go_wp2_with fail;refine(HC.out _ (hs.alloc _)<|s7.alloc _).mono ?_;rintro r w1 ⟨A1,c1,rfl,sO,lu⟩;go_wp2_with fail;refine(HK.out _ _ _ sO).mono ?_;rintro r w2 ⟨A2,c2,rfl,kZ,mq⟩;have hb:=lu.trans mq;have bx:=(jO.new w false none 0 0 0).ext hb;have b0:=bx.c0;have b1:=bx.c1;have b2:=bx.c2;have f0:=bx.fr 0;have f1:=bx.fr 1;have f2:=bx.fr 2;go_wp2;exact EX rfl rfl rfl rfl (bx.set _ _ _ _ _) rfl (bx.uE kZ _ _ _ _ _) (jO.tV ((iY.alloc _ _).trans hb) (bB _) _ _ _ _ _)
def ast(x:Nat)(hx:x<4294967296):bits BinOp.and IntKind.u32 (x:Int) 1=((x%2:Nat):Int):=by
 rw[show(1:Int)=((1:Nat):Int)from rfl,bits_and_u32_nat _ _ hx aK,ix]
def alM{m:Nat}(h0:m≠0)(e:Int):xn m e=true↔(iE m<=4096 /\ -16384<=e/\e<=16384/\(iE m:Int)+e<=16384):=by
 have h:xn m e=true↔oC ⟨false,m,e⟩:=atS;rw[h];constructor
 .rintro (h|h)
  .exact absurd h h0
  .exact h
 .exact λh=>.inr h
def MV(s:Bool)(A:Option Addr)(c:Nat)(L:List Nat)(e:Int)(w:World)(b:Bool)(hs:Sl w A c L)(lG:-9223372036854775808<=e)(kW:e<=9223372036854775807)(hb:b=true↔pH s L e):
 Calls prog 101 #[.agg #[.bool s,.slice A L.length c,.int .i64 e]] w λr w'=>r = .returned (.bool b)/\iY w w':=by
 have Fi:=hs.cap;have uW:=hs.nU;by_cases hL:L=[]
 .subst hL;rw[WK]at hb;cases s
  .by_cases h:e=0
   .subst h;have:b=true:=by simpa using hb
    clear hb;subst this;go_enter func101,ntmps101;go_wp2;go_ret;exact⟨rfl,iY.alloc _ _⟩
   .have:b=false:=s5 hb (by simp[h]);have h':(e==0)=false:= aV ;clear hb;subst this;go_enter func101,ntmps101;go_wp2;go_ret;exact⟨rfl,iY.alloc _ _⟩
  .have:b=false:=s5 hb aP ;clear hb;subst this;go_enter func101,ntmps101;go_wp2;go_ret;exact⟨rfl,iY.alloc _ _⟩
 .have qI:0<L.length:=fm.2 hL;obtain⟨ab,ao,rfl,_,c1⟩:=hs.mM qI;obtain⟨ab',ao',e',_,c2⟩:=hs.mM (i:=L.length-1) aI;cases e';have nF:=hs.ok.get qI;have qK:=hs.ok.get (aI:L.length-1<L.length);rw[WJ (bS qI)<|bS (aI:L.length-1<L.length)]at hb;have c1':w.cell? ⟨ab,ao,none⟩=some (.int .u32 (L[0]:Int)):=c1;have Ff:=aum<|show L[L.length-1]≠0->oI L from λh=>(CO L).2 λ_=>h;have yM:=aum (show L[L.length-1]≠0->val L≠0 from λh=>by have:=((CO L).2 λ_=>h).BA hL;omega);clear c1 hL;generalize L[0]=x at *
  generalize L[L.length-1]=y at *
  have HB:=aum hb;clear hb;have H:=aum λw (h:Sl w (some ⟨ab,ao,none⟩) c L) (hl:L.length<=256) (ht:oI L)=>ace _ c L w h ht aI;have hr:Hid<|val L≠0->(xn (val L) e=true↔(iE (val L)<=4096 /\ -16384<=e/\e<=16384/\(iE<|val L:Int)+e<=16384)):=λh0=>by
   exact alM h0 e
  obtain⟨n,hn⟩:∃ n,n=L.length:=⟨_,rfl⟩
  rw[<-hn]at qI c2 H HB Fi ⊢;have HN:=aum hn;clear hn;have qp:((n:Int)==0)=false:= aV ;by_cases h1:n<=256
  .have qT:decide (256<(n:Int))=false:=bE aI ;by_cases h3:y=0
   .have:b=false:=s5 HB.out (by simp[h3]);have Fw:((y:Int)==0)=true:= aV ;clear HB hr;subst this;go_enter func101,ntmps101;go_wp2;go_ret;exact⟨rfl,iY.alloc _ _⟩
   .have Fw:((y:Int)==0)=false:=bk aI ;have hand:=ast x nF;by_cases h2:x%2=1
    .have kX:(bits BinOp.and IntKind.u32 (x:Int) 1==0)=false:=by rw[hand,h2];rfl
     clear hand;have h0:=yM.out h3;have DP:=Ff.out h3;have AT:iE (val L)<=32*n:=lE.2 (by rw[<-oz,HN.out];exact nd hs.ok);have HB2:Hid<|b=true↔(iE (val L)<=4096 /\ -16384<=e/\e<=16384/\(iE<|val L:Int)+e<=16384):=by
      show b=true↔_;rw[HB.out,hr.out h0];simp[h1,h2,h3]
     have H2:=aum λw h=>H.out w h h1 DP;clear HB hr h0 DP Ff yM H;generalize iE (val L)=q at *
     by_cases h4:-16384<=e
     .have d4:decide (e < -16384)=false:=bE aI ;by_cases h5:e<=16384
      .have d5:decide (16384<e)=false:=bE aI ;by_cases h6:q<=4096
       .have d6:decide ((q:Int)<=4096)=true:=bC aI ;by_cases h7:(q:Int)+e<=16384
        .have d7:decide ((q:Int)+e<=16384)=true:=bC h7;have:=OC HB2.out ⟨h6,h4,h5,h7⟩;clear HB2;subst this;go_enter func101,ntmps101;go_wp2_with fail;refine(H2.out _<|hs.alloc _).mono ?_;rintro r w' ⟨rfl,rfl⟩;go_wp2;go_ret;exact⟨rfl,iY.alloc _ _⟩
        .have d7:decide ((q:Int)+e<=16384)=false:=bE h7;have:=s5 HB2.out λh=>h7 h.2.2.2;clear HB2;subst this;go_enter func101,ntmps101;go_wp2_with fail;refine(H2.out _<|hs.alloc _).mono ?_;rintro r w' ⟨rfl,rfl⟩;go_wp2;go_ret;exact⟨rfl,iY.alloc _ _⟩
       .have d6:decide ((q:Int)<=4096)=false:=bE aI ;have:=s5 HB2.out λh=>h6 h.1;clear HB2;subst this;go_enter func101,ntmps101;go_wp2_with fail;refine(H2.out _<|hs.alloc _).mono ?_;rintro r w' ⟨rfl,rfl⟩;go_wp2;go_ret;exact⟨rfl,iY.alloc _ _⟩
      .have d5:decide (16384<e)=true:=bC aI ;have:=s5 HB2.out λh=>h5 h.2.2.1;clear HB2;subst this;go_enter func101,ntmps101;go_wp2;go_ret;exact⟨rfl,iY.alloc _ _⟩
     .have d4:decide (e < -16384)=true:=bC aI ;have:=s5 HB2.out λh=>h4 h.2.1;clear HB2;subst this;go_enter func101,ntmps101;go_wp2;go_ret;exact⟨rfl,iY.alloc _ _⟩
    .have kX:(bits BinOp.and IntKind.u32 (x:Int) 1==0)=true:=by rw[hand,(aI:x%2=0)];rfl
     have:b=false:=s5 HB.out λh=>h2 h.2.1;clear HB hand hr;subst this;go_enter func101,ntmps101;go_wp2;go_ret;exact⟨rfl,iY.alloc _ _⟩
  .have:b=false:=s5 HB.out λh=>h1 h.1;have qT:decide (256<(n:Int))=true:=bC aI;clear HB hr;subst this;go_enter func101,ntmps101;go_wp2;go_ret;exact⟨rfl,iY.alloc _ _⟩
def ap4(e:Int)(w:World)(b:Bool)(hb:b=true↔(-32768<=e/\e<=32768)):
 Calls prog 102 #[.int .i64 e] w λr w'=>r = .returned (.bool b)/\w=w':=by
 by_cases h1:-32768<=e
 .have d1:decide (-32768<=e)=true:=by simpa using h1
  by_cases h2:e<=32768
  .have d2:decide (e<=32768)=true:=by simpa using h2
   have:=OC hb ⟨h1,h2⟩;clear hb;subst this;go_enter func102,ntmps102;go_wp2;go_ret;exact⟨rfl,rfl⟩
  .have d2:decide (e<=32768)=false:=by simpa using h2
   have:=s5 hb λh=>h2 h.2;clear hb;subst this;go_enter func102,ntmps102;go_wp2;go_ret;exact⟨rfl,rfl⟩
 .have d1:decide (-32768<=e)=false:=by simpa using h1
  have:=s5 hb λh=>h1 h.1;clear hb;subst this;go_enter func102,ntmps102;go_wp2;go_ret;exact⟨rfl,rfl⟩
def ap2(d:Dy)(A:Option Addr)(c:Nat)(w:World)(hs:Sl w A c<|iB d.m)(hl:(iB d.m).length<=100000000)(lG:-10000000<=d.e)(kW:d.e<=10000000)(hd:d.iD):
 Calls prog 103 #[.agg #[.bool d.neg,.slice A (iB d.m).length c,.int .i64 d.e]] w (AG w d 0):=by
 obtain⟨s,m,e⟩:=d;simp only at *
 have HV:=aum λw (h:Sl w A c<|iB m)=>MV s A c (iB m) e w true h aI aI<|iff_of_true rfl ((aie ⟨s,m,e⟩).2 hd);clear hd;go_enter func103,ntmps103;go_wp2_with fail;refine(HV.out _<|(hs.alloc _).alloc _).mono ?_;rintro r w' ⟨rfl,hb⟩;have bx:=((jO.new w s A (iB m).length c e).alloc<|.cells #[.bool false,.slice none 0 0,.int .i64 0] 31).ext hb;have by_:=(jO.new (w.alloc<|.cells #[.bool s,.slice A (iB m).length c,.int .i64 e] 31) false none 0 0 0).ext hb;have b0:=bx.c0;have b1:=bx.c1;have b2:=bx.c2;have bz:(w.alloc<|.cells #[.bool s,.slice A (iB m).length c,.int .i64 e] 31).heap.size=w.heap.size+1:= aP ;rw[bz]at by_;have c0:=by_.c0;have c1:=by_.c1;have c2:=by_.c2;have f0:=by_.fr 0;have f1:=by_.fr 1;have f2:=by_.fr 2;have oN:=((hs.alloc<|.cells #[.bool s,.slice A (iB m).length c,.int .i64 e] 31).alloc<|.cells #[.bool false,.slice none 0 0,.int .i64 0] 31).below hb;have oV:iY w w':=((iY.alloc _ _).trans<|iY.alloc _ _).trans hb;clear bz;go_wp2;exact EX rfl rfl rfl rfl (by_.set _ _ _ _ _) rfl (by_.uE oN _ _ _ _ _) (jO.tV oV aI _ _ _ _ _)
section
variable(s:Bool)(A:Option Addr)(c:Nat)(L:List Nat)(e:Int)(w:World)(hs:Sl w A c L)(ht:oI L)
def aqj:
 Calls prog 135 #[.agg #[.bool s,.slice A L.length c,.int .i64 e]] w λr w'=>r = .returned (.int .i64<|Dy.jB ⟨s,val L,e⟩)/\iY w w':=by
 have hl:=hs.len;by_cases h0:L=[]
 .subst h0;go_enter func135,ntmps135;go_wp2;go_ret;exact⟨rfl,iY.alloc _ _⟩
 .have qI:0<L.length:=fm.2 h0;have tN:val L≠0:=by have:=ht.BA h0;omega
  have ht:=aum (show Dy.jB ⟨s,val L,e⟩=if s then -1 else 1 by unfold Dy.jB;rw[bw tN]);clear h0 tN;generalize Dy.jB ⟨s,val L,e⟩=t at *
  have qp:((L.length:Int)==0)=false:=bk aI;cases s
  .go_enter func135,ntmps135;go_wp2;go_ret;exact⟨pG<|by rw[ht.out];rfl,iY.alloc _ _⟩
  .go_enter func135,ntmps135;go_wp2;go_ret;exact⟨pG<|by rw[ht.out];rfl,iY.alloc _ _⟩
def aqm(hl:L.length<=100000)(lG:-1000000<=e)(kW:e<=1000000):
 Calls prog 141 #[.agg #[.bool s,.slice A L.length c,.int .i64 e]] w λr w'=>r = .returned (.int .i64<|Dy.jb ⟨s,val L,e⟩)/\iY w w':=by
 have HS:=aum λw (h:Sl w A c L)=>ace A c L w h ht aI;have AT:iE (val L)<=32*L.length:=lE.2 (by rw[<-oz];exact nd hs.ok);by_cases h0:L=[]
 .subst h0;go_enter func141,ntmps141;go_wp2;go_ret;exact⟨rfl,iY.alloc _ _⟩
 .have qI:0<L.length:=fm.2 h0;have tN:val L≠0:=by have:=ht.BA h0;omega
  have ht:=aum (show Dy.jb ⟨s,val L,e⟩=iE (val L)+e by unfold Dy.jb;rw[bw tN]);clear h0 tN;generalize Dy.jb ⟨s,val L,e⟩=t at *
  generalize iE (val L)=q at *
  have hw:IntKind.i64.wrap ((q:Int)+e)=q+e:=i64_in _;have qp:((L.length:Int)==0)=false:=bk aI;have oN:=hs.alloc<|.cells #[.bool s,.slice A L.length c,.int .i64 e] 31;go_enter func141,ntmps141;go_wp2_with fail;go_region_held3 (λw'=>w'.cell? ⟨w.heap.size,1,none⟩=some (.slice A L.length c)/\w'.cell? ⟨w.heap.size,2,none⟩=some (.int .i64 e)) (go_keep)
   (first|(go_at_call 159;refine(HS.out _ ?_).mono ?_;(exact oN.drew);rintro r w'' ⟨rfl,rfl⟩))
  go_wp2;go_ret;exact⟨pG<|by rw[ht.out],Below.drew<|iY.alloc _ _⟩
def aqa:
 Calls prog 93 #[.agg #[.bool s,.slice A L.length c,.int .i64 e]] w (vv w<|jl ⟨s,val L,e⟩):=by
 have hl:=hs.len;have HL:=aum<|ht.E3 hs.ok;by_cases h0:L=[]
 .subst h0;have HZ:=aum oP;cases s
  .go_enter func93,ntmps93;go_wp2;exact uc (d:=jl ⟨false,val [],e⟩) rfl rfl rfl (jO.ux aP _ _ _ _ _) (by show _=(iB 0).length;rw[HZ.out];rfl) (by show Sl _ _ _ (iB 0);rw[HZ.out];exact(hs.alloc _).alloc _) ((iY.alloc _ _).trans<|iY.alloc _ _)
  .go_enter func93,ntmps93;go_wp2;exact uc (d:=jl ⟨true,val [],e⟩) rfl rfl rfl (jO.ux aP _ _ _ _ _) (by show _=(iB 0).length;rw[HZ.out];rfl) (by show Sl _ _ _ (iB 0);rw[HZ.out];exact(hs.alloc _).alloc _) ((iY.alloc _ _).trans<|iY.alloc _ _)
 .have qI:0<L.length:=fm.2 h0;have tN:val L≠0:=by have:=ht.BA h0;omega
  have hd:=aum (show jl ⟨s,val L,e⟩=⟨!s,val L,e⟩by unfold jl;simp[tN]);clear h0 tN ht;rw[hd.out];cases s
  .go_enter func93,ntmps93;go_wp2;exact uc (d:=⟨!false,val L,e⟩) rfl rfl rfl (jO.ux aP _ _ _ _ _) (by show _=(iB<|val L).length;rw[<-HL.out]) (by show Sl _ _ _ (iB<|val L);rw[<-HL.out];exact(hs.alloc _).alloc _) ((iY.alloc _ _).trans<|iY.alloc _ _)
  .go_enter func93,ntmps93;go_wp2;exact uc (d:=⟨!true,val L,e⟩) rfl rfl rfl (jO.ux aP _ _ _ _ _) (by show _=(iB<|val L).length;rw[<-HL.out]) (by show Sl _ _ _ (iB<|val L);rw[<-HL.out];exact(hs.alloc _).alloc _) ((iY.alloc _ _).trans<|iY.alloc _ _)
end
def Sl.Aw(w:World)(g:Nat)(hg:w.heap.size=g)(y z:Int)(p q:Nat)(e:y=(p:Int))(e':z=(q:Int))(hp:p<4294967296)(hq:q<4294967296):
 Sl (w.alloc<|.cells #[.int .u32 y,.int .u32 z] 99) (some ⟨g,0,none⟩) 2 [p,q]:=by
 subst e e' hg;refine⟨bB _,aK,jc.cons hp<|jc.cons hq jc.nil,(λh=>by cases h),λi y hy=>?_⟩;obtain⟨h1,h2⟩:=cP.1 hy;simp at h1;refine⟨_,_,rfl,aP,?_⟩;rw[cJ,World.cell?_alloc_at _ _ _ _ rfl];rcases i with _|_|i
 .simp at h2;subst h2;rfl
 .simp at h2;subst h2;rfl
 .omega
def ap6(n:Nat)(w:World)(hn:n<4294967296):
 Calls prog 56 #[.int .i64 n] w (vv w<|canon false n 0):=by
 have hm:=yA n;have uX:(n:Int)%4294967296=n:= aI ;rw[uX]at hm;have hd:(n:Int)/4294967296=0:= aI ;have je:¬(n:Int)<0:= aI ;have Qw:decide ((n:Int)<0)=false:=bE je;have hu:IntKind.u64.wrap (n:Int)=n:=by rw[IntKind.wrap_u64];omega
 have HC:=aum λ(A:Option Addr) c w (h:Sl w A c [n,0])=>JG false A c [n,0] 0 w h aP aK aK;have hv:val [n,0]=n:= aP ;rw[hv]at HC;clear hv;generalize canon false n 0=d at *
 go_enter func56,ntmps56;go_wp2_with fail;refine(HC.out _ _ _<|Sl.Aw _ _ aP _ _ n 0 rfl rfl hn aK).mono ?_;rintro r w1 ⟨A1,c1,rfl,sO,lu⟩;have qi:iY (w.alloc<|.cells #[.bool false,.slice none 0 0,.int .i64 0] 31) w1:=(iY.alloc _ _).trans lu;have bx:=(jO.new w false none 0 0 0).ext qi;have b0:=bx.c0;have b1:=bx.c1;have b2:=bx.c2;have f0:=bx.fr 0;have f1:=bx.fr 1;have f2:=bx.fr 2;go_wp2;exact uc rfl rfl rfl (bx.set _ _ _ _ _) rfl (bx.uE sO _ _ _ _ _) (jO.tV ((iY.alloc _ _).trans qi) (bB _) _ _ _ _ _)
def Ge{w:World}{g g' i:Nat}{v a b c:Value}(h:w.cell? ⟨g,i,none⟩=some v)(jM:g'≠g:=by omega):
 (((w.setCell ⟨g',0,none⟩ a).setCell ⟨g',1,none⟩ b).setCell ⟨g',2,none⟩ c).cell? ⟨g,i,none⟩=some v:=by
 rw[World.cell?_setCell_other _ _ _ _ aR,World.cell?_setCell_other _ _ _ _ aR,World.cell?_setCell_other _ _ _ _ aR];exact h
end Go.Proofs.YtbbefgegdllpmaaGreatDoor
namespace Go.Proofs.YtbbefgegdllpmaaGreatDoor.Fp
def EN(s:Bool)(e:Int):canon s 0 e=jK:=by unfold canon;rw[bA rfl];rfl
def KL(s:Bool)(x:Nat)(k:Int):mz (if s then -(x:Int)else(x:Int)) k=canon s x k:=by
 unfold mz;cases s
 .have h:decide ((x:Int)<0)=false:=bE aI ;simp only[cz,bN];rw[h,eo]
 .by_cases h:x=0
  .subst h;simp[EN]
  .have h:decide (-(x:Int)<0)=true:=bC aI ;simp only[bW];rw[h,gp,eo]
def adp{s:Bool}{m n:Nat}{e f k:Int}(hm:m≠0)(hn:n≠0)(hk:min e f=k):
 jh ⟨s,m,e⟩ ⟨s,n,f⟩=canon s (m*2^(e-k).toNat+n*2^(f-k).toNat) k:=by
 unfold jh;rw[bw hm,bw hn];simp only[hk];rw[<-KL];unfold Dy.num Dy.kg;cases s
 .simp
 .simp;congr 1;omega
section
variable{s t:Bool}{m n:Nat}{e f k:Int}(hm:m≠0)(hn:n≠0)(hk:min e f=k)(hs:s≠t)
def adm(uV:n*2^(f-k).toNat<=m*2^(e-k).toNat):
 jh ⟨s,m,e⟩ ⟨t,n,f⟩=canon s (m*2^(e-k).toNat-n*2^(f-k).toNat) k:=by
 unfold jh;rw[bw hm,bw hn];simp only[hk];rw[<-KL];unfold Dy.num Dy.kg;simp only;generalize m*2^(e-k).toNat=x at *
 generalize n*2^(f-k).toNat=y at *
 congr 1;cases s<;>cases t<;>simp at hs ⊢ <;> omega
def adn(je:m*2^(e-k).toNat<n*2^(f-k).toNat):
 jh ⟨s,m,e⟩ ⟨t,n,f⟩=canon t (n*2^(f-k).toNat-m*2^(e-k).toNat) k:=by
 unfold jh;rw[bw hm,bw hn];simp only[hk];rw[<-KL];unfold Dy.num Dy.kg;simp only;generalize m*2^(e-k).toNat=x at *
 generalize n*2^(f-k).toNat=y at *
 congr 1;cases s<;>cases t<;>simp at hs ⊢ <;> omega
end
def amI{L:List Nat}(h:jc L)(n:Nat):(iB<|val L*2^n).length<=L.length+n/32+1:=by
 refine sR ?_;have h1:=nd h;rw[oz]at h1 ⊢;have h2:val L*2^n<2^(32*L.length)*2^n:=dJ h1<|bL aK;rw[<-bG]at h2;exact cg h2<|bZ aK aI
def Z4{a b k:Nat}(ha:(iB a).length<=k)(hb:(iB b).length<=k):(iB<|a+b).length<=k+1:=by
 refine sR ?_;have h1:=wF ha;have h2:=wF hb;rw[bV];omega
def wC{a b:Nat}(h:a<=b):(iB a).length<=(iB b).length:=
 sR (dh h<|wF<|bB _)
end Go.Proofs.YtbbefgegdllpmaaGreatDoor.Fp
namespace Go.Proofs.YtbbefgegdllpmaaGreatDoor
open Go.RowKit Fp
def oi(a b:Dy):Dy:=canon (a.neg != b.neg) (a.m*b.m)<|a.e+b.e
def amH{a b k l:Nat}(ha:(iB a).length<=k)(hb:(iB b).length<=l):(iB<|a*b).length<=k+l:=by
 have h1:=wF ha;have h2:=wF hb;refine sR ?_;rw[bG];exact iy h1 h2
def RH{L:List Nat}{k:Nat}(h:jc L)(hl:L.length<=k):(iB<|val L).length<=k:=
 sR (cg (nd h)<|bZ aK hl)
def aqd(s : Bool)(A : Option Addr)(c : Nat)(L : List Nat)(e : Int)(t : Bool)(B : Option Addr)(d : Nat)(M : List Nat)(f : Int)(w : World)
    (hs : Sl w A c L) (hr : Sl w B d M) (h1 : L.length<=1000) (h2 : M.length<=1000) (e1 : -200000<=e) (e2 : e<=200000) (f1 : -200000<=f) (f2 : f<=200000):
    Calls prog 187 #[.agg #[.bool s,.slice A L.length c,.int .i64 e],.agg #[.bool t,.slice B M.length d,.int .i64 f]] w (vv w<|oi ⟨s,val L,e⟩ ⟨t,val M,f⟩) := by
  have hE : iY w<|((w.alloc<|.cells #[.bool s,.slice A L.length c,.int .i64 e] 31).alloc<|.cells #[.bool t,.slice B M.length d,.int .i64 f] 31).alloc<|.cells #[.bool false,.slice none 0 0,.int .i64 0] 31 := ((iY.alloc _ _).trans<|iY.alloc _ _).trans<|iY.alloc _ _;have hw : IntKind.i64.wrap (e+f)=e+f := i64_in _;have lT := (((jO.new w s A L.length c e).alloc<|.cells #[.bool t,.slice B M.length d,.int .i64 f] 31).alloc<|.cells #[.bool false,.slice none 0 0,.int .i64 0] 31).drew;have me := ((jO.ux (W := w.alloc<|.cells #[.bool s,.slice A L.length c,.int .i64 e] 31) (g := w.heap.size+1) aP t B M.length d f).alloc<|.cells #[.bool false,.slice none 0 0,.int .i64 0] 31).drew;have bx3 := (jO.ux (W := (w.alloc<|.cells #[.bool s,.slice A L.length c,.int .i64 e] 31).alloc<|.cells #[.bool t,.slice B M.length d,.int .i64 f] 31) (g := w.heap.size+1+1) aP false none 0 0 0).drew;have vh := (hs.below hE).drew;have A7 := (hr.below hE).drew;have HE := aum<|hE.trans<|iY.drew _;clear hE;have hlen := amH (a := val L) (b := val M) (k := 1000) (l := 1000) (RH hs.ok h1)<|RH hr.ok h2;have HO := aum λA c w (h : Sl w A c<|iB<|val L*val M) => JG (s != t) A c (iB<|val L*val M) (e+f) w h aI aI aI;rw[kE]at HO;have hD : oi ⟨s,val L,e⟩ ⟨t,val M,f⟩=canon (s != t) (val L*val M) (e+f) := rfl;rw[hD];have HT := aum λw (h : Sl w A c L) (k : Sl w B d M) => aql A B c d L M w h k aI aI;clear hD hlen;generalize canon (s != t) (val L*val M) (e+f)=D at *
  generalize val L*val M=x at *
  go_enter func187,ntmps187;go_wp2_with fail;go_region_held3 (λw' => w'.cell? ⟨w.heap.size,0,none⟩=some (.bool s)/\w'.cell? ⟨w.heap.size,1,none⟩=some (.slice A L.length c)/\w'.cell? ⟨w.heap.size,2,none⟩=some (.int .i64 e)/\w'.cell? ⟨w.heap.size+1,0,none⟩=some (.bool t)/\w'.cell? ⟨w.heap.size+1,1,none⟩=some (.slice B M.length d)/\w'.cell? ⟨w.heap.size+1,2,none⟩=some (.int .i64 f))
    (first
      |exact⟨lT.c0,lT.c1,lT.c2,me.c0,me.c1,me.c2⟩
      |exact⟨(lT.ext qH).c0,(lT.ext qH).c1,(lT.ext qH).c2,(me.ext qH).c0,(me.ext qH).c1,(me.ext qH).c2⟩
      |exact⟨(lT.ext<|qH.trans jE).c0,(lT.ext<|qH.trans jE).c1,(lT.ext<|qH.trans jE).c2,(me.ext<|qH.trans jE).c0,(me.ext<|qH.trans jE).c1,(me.ext<|qH.trans jE).c2⟩
      |exact⟨Ge (lT.ext<|qH.trans jE).c0,Ge (lT.ext<|qH.trans jE).c1,Ge (lT.ext<|qH.trans jE).c2,Ge (me.ext<|qH.trans jE).c0,Ge (me.ext<|qH.trans jE).c1,Ge (me.ext<|qH.trans jE).c2⟩)
    (first
      | (go_at_call 224
         refine(HT.out _ vh A7).mono ?_;rintro r wp ⟨Ap,cp,rfl,hsp,qH⟩)
      | (go_at_call 104
         refine(HO.out _ _ _ hsp).mono ?_;rintro r wo ⟨Ao,co,rfl,hso,jE⟩;have bz := bx3.ext<|qH.trans jE;have z0 := bz.c0;have z1 := bz.c1;have z2 := bz.c2;have y0 := bz.fr 0;have y1 := bz.fr 1;have y2 := bz.fr 2))
  go_wp2;exact uc rfl rfl rfl (bz.set _ _ _ _ _) rfl (bz.uE hso _ _ _ _ _) (jO.tV (HE.out.trans<|qH.trans jE) aI _ _ _ _ _)
end Go.Proofs.YtbbefgegdllpmaaGreatDoor
namespace Go.Proofs.YtbbefgegdllpmaaGreatDoor.Fp
section
variable{d:Dy}{j k:Int}(h1:j<=k)(h2:k<=d.e)
def amW:d.kg j=d.kg k*2^(k-j).toNat:=by
 unfold Dy.kg;rw[bO,<-bG];congr 2;omega
def MA:d.num j=d.num k*((2^(k-j).toNat:Nat):Int):=by
 unfold Dy.num;rw[amW h1 h2];split
 .rw [eF,Int.neg_mul]
 .rw [eF]
end
def yj{d:Dy}(h:d.m=0)(k:Int):d.num k=0:=by
 unfold Dy.num;rw[aal h];split<;>rfl
def yE(x y:Int):Int:=if x<y then -1 else if y<x then 1 else 0
def Wd(x y:Int){p:Nat}(hp:0<p):yE (x*(p:Int)) (y*(p:Int))=yE x y:=by
 unfold yE;have h:(0:Int)<p:= aI ;have a:=@Int.mul_lt_mul_right (p:Int) x y h;have b:=@Int.mul_lt_mul_right (p:Int) y x h;simp only[a,b]
def oo(d:Dy)(k:Int):Prop:=d.m=0\/k<=d.e
def oo.le{d:Dy}{j k:Int}(h:oo d k)(hj:j<=k):oo d j:=by
 rcases h with h|h
 .exact .inl h
 .exact .inr aI 
def oo.num{d:Dy}{j k:Int}(h:oo d k)(hj:j<=k):d.num j=d.num k*((2^(k-j).toNat:Nat):Int):=by
 rcases h with h|h
 .rw [yj h,yj h,Int.zero_mul]
 .exact MA hj h
def ER{a b:Dy}{k:Int}(ha:oo a k)(hb:oo b k):jI a b=yE (a.num k) (b.num k):=by
 have e0:jI a b=yE (a.num<|min a.e b.e) (b.num<|min a.e b.e):=rfl;rw[e0];obtain⟨j,h1,h2⟩:∃ j:Int,j<=k/\j<=min a.e b.e:=⟨min k<|min a.e b.e,aI,aI⟩
 have a1:=ha.num h1;have b1:=hb.num h1;have a2:=(show oo a (min a.e b.e)from .inr aI).num h2;have b2:=(show oo b (min a.e b.e)from .inr aI).num h2;rw[<-Wd _ _ (p:=2^(min a.e b.e-j).toNat) (bL aK),<-a2,<-b2,a1,b1,Wd _ _<|bL aK]
section
variable{s:Bool}{m:Nat}{e k:Int}(h:k<=e)
def amU:(canon s m e).kg k=m*2^(e-k).toNat:=by
 unfold canon;split
 .rename_i h0;subst h0;simp[Dy.kg]
 .rename_i h0;unfold Dy.kg;simp only;have e1:=KY h0
  conv=>rhs;rw[<-e1]
  rw[bO,<-bG];congr 2;omega
def Ea:(canon s m e).num k=if s then -((m*2^(e-k).toNat:Nat):Int)else((m*2^(e-k).toNat:Nat):Int):=by
 by_cases h0:m=0
 .subst h0;rw[yj<|by simp[canon]];simp
 .have:(canon s m e).neg=s:=by unfold canon;rw[bw h0]
  unfold Dy.num;rw[amU h,this]
end
def aaZ{m:Nat}{e k:Int}(h:k<=e):(canon false m e).num k=((m*2^(e-k).toNat:Nat):Int):=by
 rw[Ea h];simp
def RW{z e k:Int}(h:k<=e):(mz z e).num k=z*((2^(e-k).toNat:Nat):Int):=by
 unfold mz;rw[Ea h];by_cases hz:z<0
 .simp only[hz,gO,bW];rw[eF,<-Int.neg_mul];congr 1;omega
 .simp only[hz,decide_false];rw[eF,show(z.natAbs:Int)=z by omega];simp
def BH{s:Bool}{m:Nat}{e k:Int}(h:k<=e):oo (canon s m e) k:=by
 unfold canon;split
 .exact .inl rfl
 .exact .inr<|by simp only;omega
def Ol{z e k:Int}(h:k<=e):oo (mz z e) k:=BH h
section
variable{a b:Dy}{k:Int}(ha:oo a k)(hb:oo b k)
def No:(jh a b).num k=a.num k+b.num k:=by
 unfold jh;by_cases h1:a.m=0
 .rw [bA h1,yj h1,Int.zero_add]
 .rw [bw h1];by_cases h2:b.m=0
  .rw [bA h2,yj h2,Int.add_zero]
  .rw [bw h2];have ea:k<=a.e:=by rcases ha with h|h;exact absurd h h1;exact h
   have eb:k<=b.e:=by rcases hb with h|h;exact absurd h h2;exact h
   have hm:k<=min a.e b.e:= aI ;rw[RW hm,Int.add_mul,<-MA hm aI,<-MA hm aI]
def Kq:oo (jh a b) k:=by
 unfold jh;by_cases h1:a.m=0
 .rw [bA h1];exact hb
 .rw [bw h1];by_cases h2:b.m=0
  .rw [bA h2];exact ha
  .rw [bw h2];have ea:k<=a.e:=by rcases ha with h|h;exact absurd h h1;exact h
   have eb:k<=b.e:=by rcases hb with h|h;exact absurd h h2;exact h
   exact Ol aI 
end
def Db{a b:Dy}(ha:a.mX)(hb:b.mX):(jh a b).mX:=by
 unfold jh;split
 .exact hb
 .split
  .exact ha
  .exact sG _ _ _
def GH{d:Dy}{k:Int}(h:oo d k):oo (jl d) k:=h
def Jn{d:Dy}(k:Int):(jl d).num k = -(d.num k):=by
 by_cases h:d.m=0
 .rw [yj h,yj<|by exact h];rfl
 .exact aa0 d k h
def Pm{a b:Dy}(ha:a.mX)(hb:b.mX){k:Int}(h1:oo a k)(h2:oo b k)(h:a.num k=b.num k):a=b:=by
 have zero:∀ {d:Dy},d.mX->d.m=0->d=jK:=by
  intro d hd h0;obtain⟨s,m,e⟩:=d;rcases hd with⟨x,y,z⟩|hd
  .simp only at x y z;subst x y z;rfl
  .simp only at hd h0;omega
 have nz:∀ {d:Dy},d.num k=0->d.m=0:=by
  intro d hd;by_cases h0:d.m=0
  .exact h0
  .exfalso;have:=yg h0 k;unfold Dy.num at hd;split at hd<;>omega
 by_cases za:a.m=0
 .have zb:b.m=0:=nz (by rw[<-h];exact yj za k);rw[zero ha za,zero hb zb]
 .have zb:b.m≠0:=λzb=>za (nz<|by rw[h];exact yj zb k)
  have oa:a.m%2=1:=by rcases ha with⟨x,_,_⟩|x;exact absurd x za;exact x
  have ob:b.m%2=1:=by rcases hb with⟨x,_,_⟩|x;exact absurd x zb;exact x
  have ea:k<=a.e:=by rcases h1 with h|h;exact absurd h za;exact h
  have eb:k<=b.e:=by rcases h2 with h|h;exact absurd h zb;exact h
  have pa:=yg za k;have pb:=yg zb k;have hm:a.neg=b.neg/\a.kg k=b.kg k:=by
   unfold Dy.num at h;cases x:a.neg<;>cases y:b.neg<;>simp[x,y]at h<;>first|exact⟨rfl,aI⟩|(exfalso;omega)
  have hc:=congrArg kq hm.2;unfold Dy.kg at hc;rw[AO oa,AO ob]at hc;have uX:=hm.2;unfold Dy.kg at uX;rw[hc]at uX;have zT:=auh (bL aK) uX;obtain⟨s,m,e⟩:=a;obtain⟨t,n,f⟩:=b;simp only at *
  have:e=f:= aI ;rw[hm.1,zT,this]
end Go.Proofs.YtbbefgegdllpmaaGreatDoor.Fp
namespace Go.Proofs.YtbbefgegdllpmaaGreatDoor
open Go.RowKit Fp
def acV(A:Option Addr)(c:Nat)(M:List Nat)(n:Int)(w:World)(kZ:Sl w A c M)(hlen:M.length<=256)(h0:0<=n)(hn:n<=65536)(pA:(iB<|val M*2^n.toNat).length<=256):
 Calls prog 158 #[.slice A M.length c,.int .i64 n] w (uI w<|iB<|val M*2^n.toNat):=by
 obtain⟨k,rfl⟩:=eh h0;exact arf A c M k w kZ hlen aI pA
set_option maxHeartbeats 8000000 in
def aim(s : Bool)(A : Option Addr)(c : Nat)(L : List Nat)(e : Int)(t : Bool)(B : Option Addr)(d : Nat)(M : List Nat)(f : Int)(w : World)
    (hs : Sl w A c L) (hr : Sl w B d M) (da : pH s L e) (db : pH t M f) (HW : val L≠0) (uR : val M≠0):
    Calls prog 100 #[.agg #[.bool s,.slice A L.length c,.int .i64 e],.agg #[.bool t,.slice B M.length d,.int .i64 f]] w λr w' => r = .returned (.int .i64<|uN ⟨s,val L,e⟩ ⟨t,val M,f⟩)/\iY w w' := by
  obtain⟨lG,kW⟩ := da.exp;obtain⟨QA,QB⟩ := db.exp;have hl := da.len;have hm := db.len;have hE : iY w<|(w.alloc<|.cells #[.bool s,.slice A L.length c,.int .i64 e] 31).alloc<|.cells #[.bool t,.slice B M.length d,.int .i64 f] 31 := (iY.alloc _ _).trans<|iY.alloc _ _;have lT := ((jO.new w s A L.length c e).alloc<|.cells #[.bool t,.slice B M.length d,.int .i64 f] 31).drew;have me := (jO.ux (W := w.alloc<|.cells #[.bool s,.slice A L.length c,.int .i64 e] 31) (g := w.heap.size+1) aP t B M.length d f).drew;have vh := (hs.below hE).drew;have A7 := (hr.below hE).drew;have HE := aum<|hE.trans<|iY.drew _;clear hE;have HTa := aum λw (h : Sl w A c L) => Pk s A c L e w h da;have HTb := aum λw (h : Sl w B d M) => Pk t B d M f w h db;have Hlt := aum λh => Wf (a := ⟨s,val L,e⟩) (b := ⟨t,val M,f⟩) HW uR h;have Hgt := aum λh => We (a := ⟨s,val L,e⟩) (b := ⟨t,val M,f⟩) HW uR h;have Hta := aum (show Dy.jb ⟨s,val L,e⟩=iE (val L)+e by unfold Dy.jb;rw[bw HW]);have Htb := aum (show Dy.jb ⟨t,val M,f⟩=iE (val M)+f by unfold Dy.jb;rw[bw uR]);obtain⟨k,hk⟩ : ∃ k,min e f=k := ⟨_,rfl⟩
  have hke : k<=e := aI ;have hkf : k<=f := aI ;have pB : -17000<=k := aI ;have QN := aum (aI:k=e\/k=f);have Ze : IntKind.i64.wrap (e-k)=e-k := i64_in _;have hwf : IntKind.i64.wrap (f-k)=f-k := i64_in _;have HM := aum (show uN ⟨s,val L,e⟩ ⟨t,val M,f⟩=kP (val L*2^(e-k).toNat) (val M*2^(f-k).toNat)by unfold uN;simp only[hk];rfl);have Hfa := aum (show iE (val L)+e=iE (val M)+f->iE (val L*2^(e-k).toNat)<=4096 from λh => by
    rw[rJ HW];have := da.bits;have := db.bits;have := QN.out;omega)
  have Hfb := aum (show iE (val L)+e=iE (val M)+f->iE (val M*2^(f-k).toNat)<=4096 from λh => by
    rw[rJ uR];have := da.bits;have := db.bits;have := QN.out;omega)
  have HXa := aum λw (h : Sl w A c L) pA => acV A c L (e-k) w h hl aI aI pA;have HXb := aum λw (h : Sl w B d M) pA => acV B d M (f-k) w h hm aI aI pA;generalize Dy.jb ⟨s,val L,e⟩=ta at *
  generalize Dy.jb ⟨t,val M,f⟩=tb at *
  generalize uN ⟨s,val L,e⟩ ⟨t,val M,f⟩=R at *
  generalize val L*2^(e-k).toNat=x at *
  generalize val M*2^(f-k).toNat=y at *
  have HC := aum λA B c d w (h : Sl w A c<|iB x) (k : Sl w B d<|iB y) hx hy => Ms A B c d (iB x) (iB y) w h k hx hy;rw[kE,kE]at HC;clear HW uR da db hl hm;go_enter func100,ntmps100;go_wp2_with fail;go_region_held3 (λw' => w'.cell? ⟨w.heap.size,0,none⟩=some (.bool s)/\w'.cell? ⟨w.heap.size,1,none⟩=some (.slice A L.length c)/\w'.cell? ⟨w.heap.size,2,none⟩=some (.int .i64 e)/\w'.cell? ⟨w.heap.size+1,0,none⟩=some (.bool t)/\w'.cell? ⟨w.heap.size+1,1,none⟩=some (.slice B M.length d)/\w'.cell? ⟨w.heap.size+1,2,none⟩=some (.int .i64 f))
    (first
      |exact⟨lT.c0,lT.c1,lT.c2,me.c0,me.c1,me.c2⟩
      |exact⟨(lT.ext jz).c0,(lT.ext jz).c1,(lT.ext jz).c2,(me.ext jz).c0,(me.ext jz).c1,(me.ext jz).c2⟩
      |exact⟨(lT.ext jS).c0,(lT.ext jS).c1,(lT.ext jS).c2,(me.ext jS).c0,(me.ext jS).c1,(me.ext jS).c2⟩
      |exact⟨(lT.ext<|jz.trans jS).c0,(lT.ext<|jz.trans jS).c1,(lT.ext<|jz.trans jS).c2,(me.ext<|jz.trans jS).c0,(me.ext<|jz.trans jS).c1,(me.ext<|jz.trans jS).c2⟩
      |exact⟨(lT.ext<|jS.trans jz).c0,(lT.ext<|jS.trans jz).c1,(lT.ext<|jS.trans jz).c2,(me.ext<|jS.trans jz).c0,(me.ext<|jS.trans jz).c1,(me.ext<|jS.trans jz).c2⟩
      |exact⟨(lT.ext<|(jz.trans jS).trans qj).c0,(lT.ext<|(jz.trans jS).trans qj).c1,(lT.ext<|(jz.trans jS).trans qj).c2,(me.ext<|(jz.trans jS).trans qj).c0,(me.ext<|(jz.trans jS).trans qj).c1,(me.ext<|(jz.trans jS).trans qj).c2⟩
      |exact⟨(lT.ext<|(jS.trans jz).trans qj).c0,(lT.ext<|(jS.trans jz).trans qj).c1,(lT.ext<|(jS.trans jz).trans qj).c2,(me.ext<|(jS.trans jz).trans qj).c0,(me.ext<|(jS.trans jz).trans qj).c1,(me.ext<|(jS.trans jz).trans qj).c2⟩)
    (first
      | (go_at_call_of 156 (Value.agg #[.bool s,.slice A L.length c,.int .i64 e])
         refine(HTa.out _ ?_).mono ?_
         (first|exact vh|exact vh.below jS)
         rintro r wx ⟨rfl,jz⟩)
      | (go_at_call_of 156 (Value.agg #[.bool t,.slice B M.length d,.int .i64 f])
         refine(HTb.out _ ?_).mono ?_
         (first|exact A7|exact A7.below jz)
         rintro r wy ⟨rfl,jS⟩))
  first
    | (have rq := jz.trans jS)
    | (have rq := jS.trans jz)
  have cx1 := (lT.ext rq).drew;have cx2 := (me.ext rq).drew;have kZ := (vh.below rq).drew;have pn := (A7.below rq).drew;have cx1n := (lT.ext rq)
  have cx2n := (me.ext rq)
  have HF := aum<|(HE.out.trans rq).trans<|iY.drew _;have HFr := aum<|HE.out.trans rq;clear jz jS rq;by_cases h1 : ta<tb
  . have hR := aum (Hlt.out h1)
    go_wp2;go_ret;exact⟨pG hR.out.symm,HFr.out⟩
  . by_cases h2 : tb<ta
    . have hR := aum (Hgt.out h2)
      go_wp2;go_ret;exact⟨pG hR.out.symm,HFr.out⟩
    . have ou : (iE<|val L : Int)+e=iE (val M)+f := by rw[<-Hta.out,<-Htb.out];omega
      have hfa := RG (k := 128)<|Hfa.out ou;have hfb := RG (k := 128)<|Hfb.out ou;have HXa2 := aum λw h => HXa.out w h aI;have HXb2 := aum λw h => HXb.out w h aI;have HC2 := aum λA B c d w h k => HC.out A B c d w h k aI aI;have b0 := cx1n.c0;have b1 := cx1n.c1;have b2 := cx1n.c2;have d0 := cx2n.c0;have d1 := cx2n.c1;have d2 := cx2n.c2;clear ou hfa hfb;go_wp2_with fail;go_region_held3 (λw' => w'.cell? ⟨w.heap.size,0,none⟩=some (.bool s)/\w'.cell? ⟨w.heap.size,1,none⟩=some (.slice A L.length c)/\w'.cell? ⟨w.heap.size,2,none⟩=some (.int .i64 e)/\w'.cell? ⟨w.heap.size+1,0,none⟩=some (.bool t)/\w'.cell? ⟨w.heap.size+1,1,none⟩=some (.slice B M.length d)/\w'.cell? ⟨w.heap.size+1,2,none⟩=some (.int .i64 f))
        (first
          |exact⟨cx1.c0,cx1.c1,cx1.c2,cx2.c0,cx2.c1,cx2.c2⟩
          |exact⟨(cx1.ext jz).c0,(cx1.ext jz).c1,(cx1.ext jz).c2,(cx2.ext jz).c0,(cx2.ext jz).c1,(cx2.ext jz).c2⟩
          |exact⟨(cx1.ext jS).c0,(cx1.ext jS).c1,(cx1.ext jS).c2,(cx2.ext jS).c0,(cx2.ext jS).c1,(cx2.ext jS).c2⟩
          |exact⟨(cx1.ext<|jz.trans jS).c0,(cx1.ext<|jz.trans jS).c1,(cx1.ext<|jz.trans jS).c2,(cx2.ext<|jz.trans jS).c0,(cx2.ext<|jz.trans jS).c1,(cx2.ext<|jz.trans jS).c2⟩
          |exact⟨(cx1.ext<|jS.trans jz).c0,(cx1.ext<|jS.trans jz).c1,(cx1.ext<|jS.trans jz).c2,(cx2.ext<|jS.trans jz).c0,(cx2.ext<|jS.trans jz).c1,(cx2.ext<|jS.trans jz).c2⟩
          |exact⟨(cx1.ext<|(jz.trans jS).trans qj).c0,(cx1.ext<|(jz.trans jS).trans qj).c1,(cx1.ext<|(jz.trans jS).trans qj).c2,(cx2.ext<|(jz.trans jS).trans qj).c0,(cx2.ext<|(jz.trans jS).trans qj).c1,(cx2.ext<|(jz.trans jS).trans qj).c2⟩
          |exact⟨(cx1.ext<|(jS.trans jz).trans qj).c0,(cx1.ext<|(jS.trans jz).trans qj).c1,(cx1.ext<|(jS.trans jz).trans qj).c2,(cx2.ext<|(jS.trans jz).trans qj).c0,(cx2.ext<|(jS.trans jz).trans qj).c1,(cx2.ext<|(jS.trans jz).trans qj).c2⟩)
        (first
          | (go_at_call_of 158 (Value.slice A L.length c)
             refine(HXa2.out _ ?_).mono ?_
             (first|exact kZ|exact kZ.below jS)
             rintro r wx ⟨Ax,cx,rfl,Y2,jz⟩)
          | (go_at_call_of 158 (Value.slice B M.length d)
             refine(HXb2.out _ ?_).mono ?_
             (first|exact pn|exact pn.below jz)
             rintro r wy ⟨Ay,cy,rfl,Y3,jS⟩)
          | (go_at_call 157
             refine(HC2.out _ _ _ _ _ ?_ ?_).mono ?_
             (first|exact Y2.below jS|exact Y2)
             (first|exact Y3|exact Y3.below jz)
             rintro r wz ⟨rfl,qj⟩))
      all_goals
        go_wp2;go_ret
        (first|exact⟨pG HM.out.symm,HF.out.trans<|(jz.trans jS).trans qj⟩|exact⟨pG HM.out.symm,HF.out.trans<|(jS.trans jz).trans qj⟩)
def ac5{d:Dy}:d.jB=0↔d.m=0:=by
 rcases Ep d with⟨h1,h2⟩|⟨h1,_,h2⟩|⟨h1,_,h2⟩<;>simp[h1,h2]
def aik(s : Bool)(A : Option Addr)(c : Nat)(L : List Nat)(e : Int)(t : Bool)(B : Option Addr)(d : Nat)(M : List Nat)(f : Int)(w : World)
    (hs : Sl w A c L) (hr : Sl w B d M) (da : pH s L e) (db : pH t M f):
    Calls prog 54 #[.agg #[.bool s,.slice A L.length c,.int .i64 e],.agg #[.bool t,.slice B M.length d,.int .i64 f]] w λr w' => r = .returned (.int .i64<|jI ⟨s,val L,e⟩ ⟨t,val M,f⟩)/\iY w w' := by
  obtain⟨lG,kW⟩ := da.exp;obtain⟨QA,QB⟩ := db.exp;have HVa := aum (λw (h : Sl w A c L) => EW s A c L e w true h aI aI<|by simp[da]);have HVb := aum (λw (h : Sl w B d M) => EW t B d M f w true h aI aI<|by simp[db]);have HSa := aum λw (h : Sl w A c L) => Ph s A c L e w h da;have HSb := aum λw (h : Sl w B d M) => Ph t B d M f w h db;have HK := aum λh1 h2 w (h : Sl w A c L) (k : Sl w B d M) => aim s A c L e t B d M f w h k da db h1 h2;have HP := aum<|ES ⟨s,val L,e⟩ ⟨t,val M,f⟩;have z1 : Hid<|Dy.jB ⟨s,val L,e⟩=0↔val L=0 := ac5;have z2 : Hid<|Dy.jB ⟨t,val M,f⟩=0↔val M=0 := ac5;have LY : Dy.jB ⟨s,val L,e⟩=0\/Dy.jB ⟨s,val L,e⟩ = -1\/Dy.jB ⟨s,val L,e⟩=1 := by
    rcases Ep ⟨s,val L,e⟩with⟨_,h⟩|⟨_,_,h⟩|⟨_,_,h⟩<;>simp[h]
  have oq : uN ⟨s,val L,e⟩ ⟨t,val M,f⟩ = -1\/uN ⟨s,val L,e⟩ ⟨t,val M,f⟩=0\/uN ⟨s,val L,e⟩ ⟨t,val M,f⟩=1 := by
    unfold uN kP;split;simp;split<;>simp
  generalize Dy.jB ⟨s,val L,e⟩=sa at *
  generalize Dy.jB ⟨t,val M,f⟩=sb at *
  generalize uN ⟨s,val L,e⟩ ⟨t,val M,f⟩=cm at *
  generalize jI ⟨s,val L,e⟩ ⟨t,val M,f⟩=R at *
  have yX : IntKind.i64.wrap (sa*cm)=sa*cm := i64_in _ (by rcases LY with rfl|rfl|rfl<;>omega) (by rcases LY with rfl|rfl|rfl<;>omega);have HH := aum LY;clear LY oq da db;go_enter func54,ntmps54;go_wp2_with fail;refine(HVa.out _<|(hs.alloc _).alloc _).mono ?_;rintro r w1 ⟨rfl,lu⟩;have lT := ((jO.new w s A L.length c e).alloc<|.cells #[.bool t,.slice B M.length d,.int .i64 f] 31).ext lu;have me := (jO.ux (W := w.alloc<|.cells #[.bool s,.slice A L.length c,.int .i64 e] 31) (g := w.heap.size+1) aP t B M.length d f).ext lu;have b0 := lT.c0;have b1 := lT.c1;have b2 := lT.c2;have d0 := me.c0;have d1 := me.c1;have d2 := me.c2;have hE := (((iY.alloc w<|.cells #[.bool s,.slice A L.length c,.int .i64 e] 31).trans<|iY.alloc _<|.cells #[.bool t,.slice B M.length d,.int .i64 f] 31).trans lu)
  go_wp2_with fail;refine(HVb.out _<|hr.below hE).mono ?_;rintro r w2 ⟨rfl,mq⟩;have Lm := hE.trans mq;have lT := (lT.ext mq).drew;have me := (me.ext mq).drew;have vh := (hs.below Lm).drew;have A7 := (hr.below Lm).drew;have HE := aum<|Lm.trans<|iY.drew _;clear hE Lm lu mq b0 b1 b2 d0 d1 d2;go_wp2_with fail;go_region_held3 (λw' => w'.cell? ⟨w.heap.size,0,none⟩=some (.bool s)/\w'.cell? ⟨w.heap.size,1,none⟩=some (.slice A L.length c)/\w'.cell? ⟨w.heap.size,2,none⟩=some (.int .i64 e)/\w'.cell? ⟨w.heap.size+1,0,none⟩=some (.bool t)/\w'.cell? ⟨w.heap.size+1,1,none⟩=some (.slice B M.length d)/\w'.cell? ⟨w.heap.size+1,2,none⟩=some (.int .i64 f))
    (first
      |exact⟨lT.c0,lT.c1,lT.c2,me.c0,me.c1,me.c2⟩
      |exact⟨(lT.ext jz).c0,(lT.ext jz).c1,(lT.ext jz).c2,(me.ext jz).c0,(me.ext jz).c1,(me.ext jz).c2⟩
      |exact⟨(lT.ext jS).c0,(lT.ext jS).c1,(lT.ext jS).c2,(me.ext jS).c0,(me.ext jS).c1,(me.ext jS).c2⟩
      |exact⟨(lT.ext<|jz.trans jS).c0,(lT.ext<|jz.trans jS).c1,(lT.ext<|jz.trans jS).c2,(me.ext<|jz.trans jS).c0,(me.ext<|jz.trans jS).c1,(me.ext<|jz.trans jS).c2⟩
      |exact⟨(lT.ext<|jS.trans jz).c0,(lT.ext<|jS.trans jz).c1,(lT.ext<|jS.trans jz).c2,(me.ext<|jS.trans jz).c0,(me.ext<|jS.trans jz).c1,(me.ext<|jS.trans jz).c2⟩)
    (first
      | (go_at_call_of 73 (Value.agg #[.bool s,.slice A L.length c,.int .i64 e])
         refine(HSa.out _ ?_).mono ?_
         (first|exact vh|exact vh.below jS)
         rintro r wx ⟨rfl,jz⟩)
      | (go_at_call_of 73 (Value.agg #[.bool t,.slice B M.length d,.int .i64 f])
         refine(HSb.out _ ?_).mono ?_
         (first|exact A7|exact A7.below jz)
         rintro r wy ⟨rfl,jS⟩))
  first
    | (have rq := jz.trans jS)
    | (have rq := jS.trans jz)
  have cx1 := (lT.ext rq)
  have cx2 := (me.ext rq)
  have kZ := (vh.below rq)
  have pn := (A7.below rq)
  have HFr := aum<|HE.out.trans rq;clear jz jS rq;by_cases h1 : sa<sb
  . have hR := aum (show R = -1 by rw[HP.out,bA h1])
    go_wp2;go_ret;exact⟨pG hR.out.symm,HFr.out⟩
  . by_cases h2 : sb<sa
    . have hR := aum (show R=1 by rw[HP.out,bw h1,bA h2])
      go_wp2;go_ret;exact⟨pG hR.out.symm,HFr.out⟩
    . by_cases h3 : sa=0
      . have hR := aum (show R=0 by rw[HP.out,bw h1,bw h2,bA h3])
        have hz : (sa==0)=true := by simp[h3]
        go_wp2;go_ret;exact⟨pG hR.out.symm,HFr.out⟩
      . have hR := aum (show R=sa*cm by rw[HP.out,bw h1,bw h2,bw h3])
        have hz : (sa==0)=false := bk h3;have HK2 := aum (HK.out (λh => h3<|z1.out.2 h) λh => h3<|by have := z2.out.2 h;omega);have b0 := cx1.c0;have b1 := cx1.c1;have b2 := cx1.c2;have d0 := cx2.c0;have d1 := cx2.c1;have d2 := cx2.c2;go_wp2_with fail;refine(HK2.out _ kZ pn).mono ?_;rintro r w3 ⟨rfl,ph⟩;go_wp2;go_ret;exact⟨pG hR.out.symm,HFr.out.trans ph⟩
def Mi:iB 1=[1]:=by rw[Bh aK];simp[oP]
section
variable{L:List Nat}(h:jc L)(hl:L.length<=256)(s:Bool)(e:Int)
def VT:(iB (canon s (val L) e).m).length<=100000000:=by
 unfold canon;split
 .simp [oP]
 .refine b9 (sR (k:=256)<|dh (cM _ _) ?_) aK ;exact cg (nd h)<|bZ aK hl
def OP(h1:-9000000<=e)(h2:e<=9000000):-10000000<=(canon s (val L) e).e/\(canon s (val L) e).e<=10000000:=by
 unfold canon;split
 .simp
 .rename_i h0;have:=Hd h h0;simp only;omega
end
def aqi(s:Bool)(A:Option Addr)(c:Nat)(L:List Nat)(e k:Int)(w:World)(hs:Sl w A c L)(hd:pH s L e)(pB:-32768<=k)(tL:k<=32768)(hr:oC<|canon s (val L)<|e+k):
 Calls prog 55 #[.agg #[.bool s,.slice A L.length c,.int .i64 e],.int .i64 k] w (AG w (canon s (val L)<|e+k) 0):=by
 obtain⟨lG,kW⟩:=hd.exp;have hlen:=hd.len;have HV:=aum (λw (h:Sl w A c L)=>MV s A c L e w true h aI aI<|by simp[hd]);have HX:=aum (λw=>ap4 k w true<|by simp[pB,tL]);have hw:IntKind.i64.wrap (e+k)=e+k:=i64_in _;have HC:=aum λw (h:Sl w A c L)=>JG s A c L (e+k) w h aI aI aI;have lu:=VT hs.ok hlen s<|e+k;obtain⟨mq,ph⟩:=OP hs.ok hlen s (e+k) aI aI;have hv:(canon s (val L)<|e+k).iD:=⟨sG _ _ _,hr⟩
 have HK:=aum λA c w (h:Sl w A c<|iB (canon s (val L)<|e+k).m)=>ap2 _ A c w h lu mq ph hv;generalize canon s (val L) (e+k)=D at *
 clear hd hr hv lu mq ph;go_enter func55,ntmps55;go_wp2_with fail;refine(HV.out _<|(hs.alloc _).alloc _).mono ?_;rintro r w1 ⟨rfl,lu⟩;have lT:=((jO.new w s A L.length c e).alloc<|.cells #[.bool false,.slice none 0 0,.int .i64 0] 31).ext lu;have me:=(jO.ux (W:=w.alloc<|.cells #[.bool s,.slice A L.length c,.int .i64 e] 31) (g:=w.heap.size+1) aP false none 0 0 0).ext lu;have b0:=lT.c0;have b1:=lT.c1;have b2:=lT.c2;have hE:=(((iY.alloc w<|.cells #[.bool s,.slice A L.length c,.int .i64 e] 31).trans<|iY.alloc _<|.cells #[.bool false,.slice none 0 0,.int .i64 0] 31).trans lu)
 have vh:=hs.below hE;have HE:=aum hE;clear hE lu;go_wp2_with fail;refine(HX.out _).mono ?_;rintro r w2 ⟨rfl,rfl⟩;go_wp2_with fail;refine(HC.out _ vh).mono ?_;rintro r w2 ⟨A1,c1,rfl,sO,mq⟩;go_wp2_with fail;refine(HK.out _ _ _ sO).mono ?_;rintro r w3 ⟨A2,c2,rfl,kZ,ph⟩;have bz:=me.ext<|mq.trans ph;have z0:=bz.c0;have z1:=bz.c1;have z2:=bz.c2;have f0:=bz.fr 0;have f1:=bz.fr 1;have f2:=bz.fr 2;go_wp2;exact EX rfl rfl rfl rfl (bz.set _ _ _ _ _) rfl (bz.uE kZ _ _ _ _ _) (jO.tV (HE.out.trans<|mq.trans ph) aI _ _ _ _ _)
abbrev DV(d:Dy)(A:Option Addr)(c:Nat):Value:=.agg #[.bool d.neg,.slice A (iB d.m).length c,.int .i64 d.e]
def RF{n k:Nat}(h:iE n<=32*k):(iB n).length<=k:=by
 refine sR<|cg (qL _) ?_;rw[oz];exact bZ aK h
def Fp.Dy.iD.yH{d:Dy}(h:d.iD):pH d.neg (iB d.m) d.e:=by
 refine⟨Av _,RF ?_,by rw[kE];exact h⟩;rcases h.range with h0|⟨h1,_⟩
 .rw [h0];exact cA _
 .omega
def Fp.Dy.iD.len{d:Dy}(h:d.iD):(iB d.m).length<=256:=h.yH.2.1
def Fp.Dy.iD.exp{d:Dy}(h:d.iD):-16384<=d.e/\d.e<=16384:=h.yH.exp
def Fp.Dy.iD.bits{d:Dy}(h:d.iD):iE d.m<=4096:=by have:=h.yH.bits;rwa[kE]at this
section
variable{w:World}{g n c:Nat}{s:Bool}{A:Option Addr}{e:Int}(h:jO w g s A n c e)
def jO.all:w.cell? ⟨g,0,none⟩=some (.bool s)/\w.cell? ⟨g,1,none⟩=some (.slice A n c)/\w.cell? ⟨g,2,none⟩=some (.int .i64 e):=⟨h.c0,h.c1,h.c2⟩
def jO.zO{g':Nat}(jM:g'≠g)(i:Nat)(v:Value):jO (w.setCell ⟨g',i,none⟩ v) g s A n c e:=by
 unfold jO at h ⊢;simp only[World.setCell,fW];rw[bw jM];exact h
def jO.PJ{g':Nat}(jM:g'≠g)(v0 v1 v2:Value):
 jO (((w.setCell ⟨g',0,none⟩ v0).setCell ⟨g',1,none⟩ v1).setCell ⟨g',2,none⟩ v2) g s A n c e:=((h.zO jM 0 v0).zO jM 1 v1).zO jM 2 v2
end
structure xH(d:Dy):Prop where
 len:(iB d.m).length<=256
 lo:-17000<=d.e
 hi:d.e<=17000
def Fp.Dy.iD.rY{d:Dy}(h:d.iD):xH d:=⟨h.len,by have:=h.exp;omega,by have:=h.exp;omega⟩
section
variable(a b:Dy)(A B:Option Addr)(c d:Nat)(w:World)(h:Sl w A c<|iB a.m)(k:Sl w B d<|iB b.m)
def aqe(ha:xH a)(hb:xH b):
 Calls prog 187 #[DV a A c,DV b B d] w (vv w<|oi a b):=by
 have:=aqd a.neg A c (iB a.m) a.e b.neg B d (iB b.m) b.e w h k (by have:=ha.len;omega) (by have:=hb.len;omega) (by have:=ha.lo;omega) (by have:=ha.hi;omega) (by have:=hb.lo;omega) (by have:=hb.hi;omega);rw[kE,kE]at this;exact this
def ail(ha:a.iD)(hb:b.iD):
 Calls prog 54 #[DV a A c,DV b B d] w λe w'=>e = .returned (.int .i64<|jI a b)/\iY w w':=by
 have:=aik a.neg A c (iB a.m) a.e b.neg B d (iB b.m) b.e w h k ha.yH hb.yH;rw[kE,kE]at this;exact this
end
section
variable(a:Dy)(A:Option Addr)(c:Nat)(w:World)(h:Sl w A c<|iB a.m)(ha:a.iD)
def aii:
 Calls prog 302 #[DV a A c] w λe w'=>e = .returned (.int .i64<|iE a.m)/\iY w w':=by
 have:=aih a.neg A c (iB a.m) a.e w h ha.yH;rw[kE]at this;exact this
def air:
 Calls prog 73 #[DV a A c] w λe w'=>e = .returned (.int .i64 a.jB)/\iY w w':=by
 have:=Ph a.neg A c (iB a.m) a.e w h ha.yH;rw[kE]at this;exact this
def WW:
 Calls prog 72 #[DV a A c] w λe w'=>e = .returned (.bool true)/\iY w w':=
 EW a.neg A c (iB a.m) a.e w true h (by have:=ha.exp;omega) (by have:=ha.exp;omega) (by simp[ha.yH])
end
def pH.dy{s:Bool}{L:List Nat}{e:Int}(h:pH s L e){w:World}{A:Option Addr}{c:Nat}(hs:Sl w A c L):∃ d:Dy,d.iD/\s=d.neg/\L=iB d.m/\e=d.e/\val L=d.m:=
 ⟨⟨s,val L,e⟩,h.2.2,rfl,h.E3 hs.ok,rfl,rfl⟩
open Pu
def UM:∀ w w',Tb w->Below w.heap.size w w'->Tb w':=λ_ _ h hb=>h.below hb
def mixed:prog.follows .mixedOrders=true:= aM 
abbrev iA(f:FuncId)(args:List E)(jQ:E):Prop:=PC prog Tb f args jQ
def iG(L:List Nat):E:=.sl false L.length 1 λi _=>.v<|.int .u32 (L.getD i 0:Int)
def iF(d:Dy):E:=.agg [.v<|.bool d.neg,iG<|iB d.m,.v<|.int .i64 d.e]
abbrev iP(z:Int):E:=.v<|.int .i64 z
abbrev bP(b:Bool):E:=.v<|.bool b
abbrev av:List E:=[bP false,.v<|.slice none 0 0,iP 0]
abbrev aw:List E:=[bP false,.v<|.slice none 0 0,iP 0,bP false,.v<|.slice none 0 0,iP 0,bP false]
def xy{bs br:Nat->Prop}{w:World}{L:List Nat}{v:Value}(hk:jc L)(h:jd bs br w (iG L) v):∃ A c,v = .slice A L.length c/\Sl w A c L:=by
 cases h with
 |sl _ _ _ _ A c f hc hm h0 hl hr cell kk=>
  refine⟨A,c,rfl,hc,hm,hk,h0,λi x hx=>?_⟩;obtain⟨hi,xX⟩:=cP.1 hx;obtain⟨b,o,e1,_,je,ln⟩:=cell i 0 hi aK;have hv:=jd.lh<|kk i 0 hi aK;refine⟨b,o,e1,je,?_⟩;rw[cG,ch,hv]at ln;rw[ln];simp[bJ,hx]
def zn{B br:Nat->Prop}{w w':World}{A:Option Addr}{c:Nat}{L:List Nat}(hB:∀ b,B b->b<w.heap.size/\pN w b)(hb:iY w w')(h:Sl w' A c L):jd B br w' (iG L)<|.slice A L.length c:=by
 refine .sl false L.length 1 _ A c (λi _=>.int .u32 (L.getD i 0:Int)) h.cap h.nU h.y4 (λi j _ _=>⟨rfl,λh=>by cases h⟩) (λi j _ _=>rfl) (λi j hi hj=>?_) λi j _ _=>.v _
 .obtain rfl:j=0:= aI ;obtain⟨b,o,e1,je,ln⟩:=h.mM hi;have e2:L.getD i 0=L[i]:=by simp[bJ,hi]
  refine⟨b,o,e1,λqR=>?_,je,by rw[cG,ch,ln,e2]⟩;obtain⟨h1,h2⟩:=hB b qR;exact(h2.FR<|hb.block b h1) _ _ ln
def K3{bs br:Nat->Prop}{w:World}{d:Dy}{v:Value}(h:jd bs br w (iF d) v):∃ A c,v=DV d A c/\Sl w A c (iB d.m):=by
 obtain⟨vs,rfl,q⟩:=jd.GK<|show jd bs br w (.agg _) v from h;obtain⟨v1,vs,rfl,h1,q⟩:=q.nc;obtain⟨v2,vs,rfl,h2,q⟩:=q.nc;obtain⟨v3,vs,rfl,h3,q⟩:=q.nc;obtain rfl:=q.rz;obtain rfl:=jd.lh h1;obtain rfl:=jd.lh h3;obtain⟨A,c,rfl,hs⟩:=xy (lO _) h2;exact⟨A,c,rfl,hs⟩
def WU{B br:Nat->Prop}{w w':World}{A:Option Addr}{c:Nat}{d:Dy}(hB:∀ b,B b->b<w.heap.size/\pN w b)(hb:iY w w')(h:Sl w' A c<|iB d.m):jd B br w' (iF d)<|DV d A c:=
 kR.agg (.cons (.v _)<|.cons (zn hB hb h)<|.cons (.v _)<|.nil _ _ _)
section
variable {f:FuncId} {a b:Dy}
section
variable(hc:∀ (vs:Array Value) (w:World),(callFunc f vs).run prog w = .ok (.enter f vs) w){jQ:E}{R:World->Ending->World->Prop}
def Af
 (H:∀ A c w,Sl w A c (iB a.m)->Tb w->Calls prog f #[DV a A c] w (R w)) (hR:∀ (B:Nat->Prop) w e w',(∀ b,B b->b<w.heap.size/\pN w b)->R w e w'->∃ v,e = .returned v/\Below w.heap.size w w'/\jd B (λ_=>True) w' jQ v):iA f [iF a] jQ:=by
 refine⟨hc,λw B vs hK hB hr=>?_⟩;obtain⟨v1,vs,rfl,h1,hr⟩:=hr.nc;obtain rfl:=hr.rz;obtain⟨A,c,rfl,s1⟩:=K3 h1;exact(H A c w s1 hK).mono λe w' h=>hR B w e w' hB h
def pc2
 (H:∀ A c A' c' w,Sl w A c (iB a.m)->Sl w A' c' (iB b.m)->Tb w->Calls prog f #[DV a A c,DV b A' c'] w (R w)) (hR:∀ (B:Nat->Prop) w e w',(∀ b,B b->b<w.heap.size/\pN w b)->R w e w'->∃ v,e = .returned v/\Below w.heap.size w w'/\jd B (λ_=>True) w' jQ v):iA f [iF a,iF b] jQ:=by
 refine⟨hc,λw B vs hK hB hr=>?_⟩;obtain⟨v1,vs,rfl,h1,hr⟩:=hr.nc;obtain⟨v2,vs,rfl,h2,hr⟩:=hr.nc;obtain rfl:=hr.rz;obtain⟨A,c,rfl,s1⟩:=K3 h1;obtain⟨A',c',rfl,s2⟩:=K3 h2;exact(H A c A' c' w s1 s2 hK).mono λe w' h=>hR B w e w' hB h
end
end
def rv{x:Value}:∀ (B:Nat->Prop) (w:World) (e:Ending) (w':World),(∀ b,B b->b<w.heap.size/\pN w b)->(e = .returned x/\iY w w')->∃ v,e = .returned v/\Below w.heap.size w w'/\jd B (λ_=>True) w' (.v x) v:=
 λ_ _ _ _ _ h=>⟨x,h.1,h.2,.v x⟩
def rd{d:Dy}:∀ (B:Nat->Prop) (w:World) (e:Ending) (w':World),(∀ b,B b->b<w.heap.size/\pN w b)->vv w d e w'->∃ v,e = .returned v/\Below w.heap.size w w'/\jd B (λ_=>True) w' (iF d) v:=
 λ_ _ _ _ hB ⟨_,_,h1,h2,h3⟩=>⟨_,h1,h3,WU hB h3 h2⟩
def SB{d:Dy}{n:Int}:∀ (B:Nat->Prop) (w:World) (e:Ending) (w':World),(∀ b,B b->b<w.heap.size/\pN w b)->AG w d n e w'->∃ v,e = .returned v/\Below w.heap.size w w'/\jd B (λ_=>True) w' (.iK [iF d,iP n]) v:=
 λ_ _ _ _ hB ⟨_,_,h1,h2,h3⟩=>⟨_,h1,h3,kR.iK<|.cons (WU hB h3 h2)<|.cons (.v _)<|.nil _ _ _⟩
def tz:E.le (.agg av)<|iF jK:=by
 have:iF jK = .agg [bP false,.sl false 0 1 λi _=>.v<|.int .u32 (((iB 0).getD i 0:Nat):Int),iP 0]:=by
  show E.agg [bP false,iG<|iB 0,iP 0]=_;unfold iG;rw[oP];rfl
 rw[this];exact .agg<|.cons (.refl _)<|.cons (.nil _ _ _)<|.cons (.refl _) .nil
def ss(a b:Dy)(ha:a.iD)(hb:b.iD):iA 54 [iF a,iF b]<|iP<|jI a b:=pc2 call54 (λA c A' c' w h k _=>ail a b A A' c c' w h k ha hb) rv
section
variable(a:Dy)(ha:a.iD)
def vO:iA 73 [iF a]<|iP a.jB:=Af call73 (λA c w h _=>air a A c w h ha) rv
def tI:iA 72 [iF a]<|bP true:=Af call72 (λA c w h _=>WW a A c w h ha) rv
def WT:iA 302 [iF a]<|iP<|iE a.m:=Af call302 (λA c w h _=>aii a A c w h ha) rv
end
def aqf(a b:Dy)(ha:xH a)(hb:xH b):iA 187 [iF a,iF b]<|iF<|oi a b:=pc2 call187 (λA c A' c' w h k _=>aqe a b A A' c c' w h k ha hb) rd
def zo(t e:Nat)(s:String):TI:=⟨t,.slice e,⟨.slice e,s,1,24,true,8,8,some<|.slice none 0 0,false,#[]⟩⟩
def Au(t:Nat)(d:TypeDesc)(s:String):TI:=⟨t,d,⟨d,s,1,8,true,8,8,some<|.nilFunc,false,#[]⟩⟩
def TT:List TI:=[
 ⟨3,.int .i64,⟨.int .i64, "int", 1,8,false,8,8,some<|.int .i64 0,true,#[]⟩⟩,
 ⟨4,.bool,⟨.bool, "bool", 1,1,false,1,1,some<|.bool false,true,#[]⟩⟩,
 ⟨5,.int .u8,⟨.int .u8, "uint8", 1,1,false,1,1,some<|.int .u8 0,true,#[]⟩⟩,
 ⟨9,.string,⟨.string, "string", 1,16,true,8,8,some<|.string ⟨#[]⟩,true,#[]⟩⟩,zo 22 24 "[]api.Ratio",
 ⟨24,.struct #[⟨"N", 3,0,false, "", "", 0⟩,⟨"D", 3,1,false, "", "", 8⟩],⟨.named "flowpipe/api.Ratio" 23, "api.Ratio", 2,16,false,8,8,some<|.agg #[.int .i64 0,.int .i64 0],true,#[]⟩⟩,Au 28 (.func #[24] #[4] false) "func(api.Ratio) bool",zo 29 99 "[]uint32",
 ⟨31,.struct #[⟨"Neg", 4,0,false, "", "", 0⟩,⟨"M", 29,1,false, "", "", 8⟩,⟨"E", 3,2,false, "", "", 32⟩],⟨.named "flowpipe/api.Dyadic" 30, "api.Dyadic", 3,40,true,8,8,some<|.agg #[.bool false,.slice none 0 0,.int .i64 0],false,#[]⟩⟩,zo 36 38 "[]api.Interval",
 ⟨38,.struct #[⟨"Lo", 31,0,false, "", "", 0⟩,⟨"Hi", 31,3,false, "", "", 40⟩,⟨"All", 4,6,false, "", "", 80⟩],⟨.named "flowpipe/api.Interval" 37, "api.Interval", 7,88,true,8,8,some<|.agg #[.bool false,.slice none 0 0,.int .i64 0,.bool false,.slice none 0 0,.int .i64 0,.bool false],false,#[]⟩⟩,zo 40 134 "[]api.Op",zo 41 3 "[]int",
 ⟨43,.struct #[⟨"Ins", 3,0,false, "", "", 0⟩,⟨"Ops", 40,1,false, "", "", 8⟩,⟨"Outs", 41,2,false, "", "", 32⟩],⟨.named "flowpipe/api.Tape" 42, "api.Tape", 3,56,true,8,8,some<|.agg #[.int .i64 0,.slice none 0 0,.slice none 0 0],false,#[]⟩⟩,
 ⟨45,.struct #[⟨"Tape", 43,0,false, "", "", 0⟩,⟨"States", 3,3,false, "", "", 56⟩,⟨"Params", 36,4,false, "", "", 64⟩],⟨.named "flowpipe/api.System" 44, "api.System", 5,88,true,8,8,some<|.agg #[.int .i64 0,.slice none 0 0,.slice none 0 0,.int .i64 0,.slice none 0 0],false,#[]⟩⟩,
 ⟨47,.int .i64,⟨.named "flowpipe/api.Errno" 3, "api.Errno", 1,8,false,8,8,some<|.int .i64 0,true,#[]⟩⟩,
 ⟨60,.int .u64,⟨.int .u64, "uint64", 1,8,false,8,8,some<|.int .u64 0,true,#[]⟩⟩,zo 69 9 "[]string",zo 70 104 "[]api.Expr",Au 84 (.func #[38] #[4] false) "func(api.Interval) bool",
 ⟨99,.int .u32,⟨.int .u32, "uint32", 1,4,false,4,4,some<|.int .u32 0,true,#[]⟩⟩,
 ⟨100,.int .u64,⟨.int .u64, "uint", 1,8,false,8,8,some<|.int .u64 0,true,#[]⟩⟩,
 ⟨104,.struct #[⟨"Kind", 3,0,false, "", "", 0⟩,⟨"Num", 24,1,false, "", "", 8⟩,⟨"Name", 9,3,false, "", "", 24⟩,⟨"N", 3,4,false, "", "", 40⟩,⟨"L", 70,5,false, "", "", 48⟩],⟨.named "flowpipe/api.Expr" 103, "api.Expr", 6,72,true,8,8,some<|.agg #[.int .i64 0,.int .i64 0,.int .i64 0,.string ⟨#[]⟩,.int .i64 0,.slice none 0 0],false,#[]⟩⟩,Au 117 (.func #[31,3] #[31,47] false) "func(api.Dyadic, int) (api.Dyadic, api.Errno)",Au 122 (.func #[38,38,3] #[38] false) "func(api.Interval, api.Interval, int) api.Interval",Au 126 (.func #[3] #[4] false) "func(int) bool",Au 131 (.func #[38,38] #[4] false) "func(api.Interval, api.Interval) bool",
 ⟨134,.struct #[⟨"Kind", 3,0,false, "", "", 0⟩,⟨"A", 3,1,false, "", "", 8⟩,⟨"B", 3,2,false, "", "", 16⟩,⟨"N", 3,3,false, "", "", 24⟩,⟨"C", 24,4,false, "", "", 32⟩],⟨.named "flowpipe/api.Op" 133, "api.Op", 6,48,false,8,8,some<|.agg #[.int .i64 0,.int .i64 0,.int .i64 0,.int .i64 0,.int .i64 0,.int .i64 0],true,#[]⟩⟩,Au 139 (.func #[36] #[4] false) "func([]api.Interval) bool",zo 144 146 "[][2]api.Dyadic",
 ⟨146,.array 2 31,⟨.array 2 31, "[2]api.Dyadic", 6,80,true,8,8,some<|.agg #[.bool false,.slice none 0 0,.int .i64 0,.bool false,.slice none 0 0,.int .i64 0],false,#[]⟩⟩,zo 154 36 "[][]api.Interval",
 ⟨176,.func #[31,31,3] #[31,47] false,⟨.named "flowpipe/interval.rounded" 158, "interval.rounded", 1,8,true,8,8,some<|.nilFunc,false,#[]⟩⟩,
 ⟨177,.array 4 146,⟨.array 4 146, "[4][2]api.Dyadic", 24,320,true,8,8,some<|.agg #[.bool false,.slice none 0 0,.int .i64 0,.bool false,.slice none 0 0,.int .i64 0,.bool false,.slice none 0 0,.int .i64 0,.bool false,.slice none 0 0,.int .i64 0,.bool false,.slice none 0 0,.int .i64 0,.bool false,.slice none 0 0,.int .i64 0,.bool false,.slice none 0 0,.int .i64 0,.bool false,.slice none 0 0,.int .i64 0],false,#[]⟩⟩,
 ⟨192,.struct #[⟨"m", 29,0,false, "", "flowpipe/round", 0⟩,⟨"e", 3,1,false, "", "flowpipe/round", 24⟩,⟨"more", 4,2,false, "", "flowpipe/round", 32⟩],⟨.named "flowpipe/round.exact" 191, "round.exact", 3,40,true,8,8,some<|.agg #[.slice none 0 0,.int .i64 0,.bool false],false,#[]⟩⟩,zo 197 29 "[][]uint32",Au 199 (.func #[29] #[4] false) "func([]uint32) bool",
 ⟨204,.map 3 208,⟨.map 3 208, "map[int]func(gradient.node) api.Interval", 1,8,true,8,8,some<|.map none,false,#[]⟩⟩,
 ⟨207,.struct #[⟨"o", 134,0,false, "", "flowpipe/gradient", 0⟩,⟨"v", 38,6,false, "", "flowpipe/gradient", 48⟩,⟨"a", 38,13,false, "", "flowpipe/gradient", 136⟩,⟨"b", 38,20,false, "", "flowpipe/gradient", 224⟩,⟨"da", 38,27,false, "", "flowpipe/gradient", 312⟩,⟨"db", 38,34,false, "", "flowpipe/gradient", 400⟩,⟨"p", 3,41,false, "", "flowpipe/gradient", 488⟩],⟨.named "flowpipe/gradient.node" 206, "gradient.node", 42,496,true,8,8,some<|.agg #[.int .i64 0,.int .i64 0,.int .i64 0,.int .i64 0,.int .i64 0,.int .i64 0,.bool false,.slice none 0 0,.int .i64 0,.bool false,.slice none 0 0,.int .i64 0,.bool false,.bool false,.slice none 0 0,.int .i64 0,.bool false,.slice none 0 0,.int .i64 0,.bool false,.bool false,.slice none 0 0,.int .i64 0,.bool false,.slice none 0 0,.int .i64 0,.bool false,.bool false,.slice none 0 0,.int .i64 0,.bool false,.slice none 0 0,.int .i64 0,.bool false,.bool false,.slice none 0 0,.int .i64 0,.bool false,.slice none 0 0,.int .i64 0,.bool false,.int .i64 0],false,#[]⟩⟩,Au 208 (.func #[207] #[38] false) "func(gradient.node) api.Interval",zo 209 31 "[]api.Dyadic",
 ⟨226,.struct #[⟨"p", 3,0,false, "", "flowpipe/exponent", 0⟩],⟨.named "flowpipe/exponent.work" 225, "exponent.work", 1,8,false,8,8,some<|.agg #[.int .i64 0],true,#[⟨"flowpipe/exponent.add", 83,#[],some (315,false)⟩,⟨"flowpipe/exponent.div", 83,#[],some (314,false)⟩,⟨"flowpipe/exponent.exp", 86,#[],some (325,false)⟩,⟨"flowpipe/exponent.halved", 85,#[],some (313,false)⟩,⟨"flowpipe/exponent.log", 86,#[],some (316,false)⟩,⟨"flowpipe/exponent.mul", 83,#[],some (317,false)⟩,⟨"flowpipe/exponent.small", 84,#[],some (327,false)⟩]⟩⟩,
 ⟨231,.struct #[⟨"neg", 4,0,false, "", "flowpipe/circle", 0⟩,⟨"m", 29,1,false, "", "flowpipe/circle", 8⟩],⟨.named "flowpipe/circle.fix" 230, "circle.fix", 2,32,true,8,8,some<|.agg #[.bool false,.slice none 0 0],false,#[⟨"flowpipe/circle.add", 242,#[],some (340,false)⟩,⟨"flowpipe/circle.by", 238,#[],some (347,false)⟩,⟨"flowpipe/circle.minus", 236,#[],some (331,false)⟩,⟨"flowpipe/circle.times", 239,#[],some (337,false)⟩,⟨"flowpipe/circle.zero", 25,#[],some (341,false)⟩]⟩⟩,Au 242 (.func #[231] #[231] false) "func(circle.fix) circle.fix"]
def Oj:ni prog TT:=Kp.ok ⟨⟨underlying3,aM⟩,⟨underlying4,aM⟩,⟨underlying5,aM⟩,⟨underlying9,aM⟩,⟨underlying22,aM⟩,⟨underlying24,aM⟩,⟨underlying28,aM⟩,⟨underlying29,aM⟩,⟨underlying31,aM⟩,⟨underlying36,aM⟩,⟨underlying38,aM⟩,⟨underlying40,aM⟩,⟨underlying41,aM⟩,⟨underlying43,aM⟩,⟨underlying45,aM⟩,⟨underlying47,aM⟩,⟨underlying60,aM⟩,⟨underlying69,aM⟩,⟨underlying70,aM⟩,⟨underlying84,aM⟩,⟨underlying99,aM⟩,⟨underlying100,aM⟩,⟨underlying104,aM⟩,⟨underlying117,aM⟩,⟨underlying122,aM⟩,⟨underlying126,aM⟩,⟨underlying131,aM⟩,⟨underlying134,aM⟩,⟨underlying139,aM⟩,⟨underlying144,aM⟩,⟨underlying146,aM⟩,⟨underlying154,aM⟩,⟨underlying176,aM⟩,⟨underlying177,aM⟩,⟨underlying192,aM⟩,⟨underlying197,aM⟩,⟨underlying199,aM⟩,⟨underlying204,aM⟩,⟨underlying207,aM⟩,⟨underlying208,aM⟩,⟨underlying209,aM⟩,⟨underlying226,aM⟩,⟨underlying231,aM⟩,⟨underlying242,aM⟩,trivial⟩
end Go.Proofs.YtbbefgegdllpmaaGreatDoor
namespace Go.Proofs.YtbbefgegdllpmaaGreatDoor.Pu
open Go.RowKit
def E.jV:E->Nat->Nat->E
 | .sl _ _ _ el,i,j=>el i j
 | .py _ _ _ _ el,i,j=>el i j
 |_,_,_=>.any
section
variable {P:Program} {K:World->Prop}
def Sp.pre{c:Code}{σ τ:PS}{Q:Ex->PS->Prop}(h:PS.le σ τ)(k:Sp P K c τ Q):Sp P K c σ Q:=λw0 B a w L g r=>
 let⟨L',r'⟩:=h w0 B a w L (λb hb=>(g.hB b hb).1) r;k w0 B a w L' g r'
def Sp.post{c:Code}{σ:PS}{Q Q':Ex->PS->Prop}(h:Sp P K c σ Q)(k:∀ e τ,Q e τ->∃ τ',PS.le τ τ'/\Q' e τ'):Sp P K c σ Q':=λw0 B a w L g r=>
 Code.wp_mono (λ_ _ _ ⟨ex,τ,L',h1,h2,h3⟩=>let⟨τ',q1,q2⟩:=k ex τ h2;let⟨L2,r2⟩:=q1 w0 B _ _ L' (λb hb=>(g.hB b hb).1) h3;⟨ex,τ',L2,h1,q2,r2⟩) (h w0 B a w L g r)
def Sp.fam{α:Type}(f:α->PS)(p:α->Prop)(m:α->Nat){b:Code}{e:Ex}{τ:PS}
 (step:∀ x,p x->Sp P K b (f x) (λe' υ=>(e' = .normal/\∃ y,p y/\m y<m x/\υ=f y)\/(e' ≠ .normal/\e'=e/\υ=τ))) {σ:PS} (x:α) (hx:p x) (h0:PS.le σ<|f x):
 Sp P K (.loop b) σ (λe' υ=>e'=e/\υ=τ):=by
 refine Sp.pre h0 ?_;refine Sp.loop (Q:=λe' υ=>e'=e/\υ=τ) (λn σ=>∃ x,p x/\m x=n/\σ=f x) (λn σ ⟨x,h1,h2,h3⟩=>?_) (m x) (f x) ⟨x,hx,rfl,rfl⟩;subst h3 h2;exact(step x h1).mono λe' υ h=>h.imp (λ⟨q1,y,q2,q3,q4⟩=>⟨q1,m y,q3,y,q2,rfl,q4⟩) id
def Sp.ajt{α:Type}{f:α->PS}{p:α->Prop}{m:α->Nat}{b:Code}{e:Ex}{τ υ:PS}{x:α}(y:α)(h:Sp P K b (f x) λe' υ'=>e' = .normal/\υ'=υ)(hy:p y)(hm:m y<m x)(hl:PS.le υ<|f y):
 Sp P K b (f x) (λe' υ=>(e' = .normal/\∃ y,p y/\m y<m x/\υ=f y)\/(e' ≠ .normal/\e'=e/\υ=τ)):=
 h.post λ_ _ ⟨h1,h2⟩=>⟨f y,h2▸hl,.inl ⟨h1,y,hy,hm,rfl⟩⟩
def Sp.aju{α:Type}{f:α->PS}{p:α->Prop}{m:α->Nat}{b:Code}{e:Ex}{τ υ:PS}{x:α}(h:Sp P K b (f x) λe' υ'=>e'=e/\υ'=υ)(he:e ≠ .normal)(hl:PS.le υ τ):
 Sp P K b (f x) (λe' υ=>(e' = .normal/\∃ y,p y/\m y<m x/\υ=f y)\/(e' ≠ .normal/\e'=e/\υ=τ)):=
 h.post λ_ _ ⟨h1,h2⟩=>⟨τ,h2▸hl,.inr ⟨h1▸he,h1,rfl⟩⟩
end
def Ck(k:Nat):Code->Option Code
 | .loop b=>if Nat.beq (Ht b) k then some b else Ck k b
 | .seq a b=>match Ck k a with
  |some c=>some c
  |none=>Ck k b
 | .cond _ a b=>match Ck k a with
  |some c=>some c
  |none=>Ck k b
 | .block _ b=>Ck k b
 | .scope b=>Ck k b
 |_=>none
def afI(k:Nat)(fn:Func):Code:=((fn.body.bind<|Ck k).getD .skip)
def Bx.le.jm{a b:Bx}(h:a=b):Bx.le a b:=h▸Bx.le.refl a
def Bx.le.cells{T:TypeId}{l m:List E}(hn:(l.all E.oe=true->m.all E.oe=true))(h:vt l m):Bx.le (.cells T l)<|.cells T m:=⟨hn,λ_ _ _ _ _ ⟨b,vs,h1,h2,h3,h4,h5⟩=>⟨b,vs,h1,h2,h3,h.MW h4,h5⟩⟩
def Bx.le.row{nl:Bool}{T:TypeId}{n n' sz:Nat}{el el':Nat->Nat->E}(hn:n=n')(h:∀ i j,i<n->j<sz->E.le (el i j) (el' i j)/\(el' i j).nr 2=true):Bx.le (.row nl T n sz el)<|.row nl T n' sz el':=
 ⟨id,λ_ _ _ _ _ ⟨f,h1,h2,h3⟩=>by subst hn;exact⟨f,h1,h2,λi j hi hj=>⟨(h i j hi hj).1 _ _ _ _ (h3 i j hi hj).1,(h i j hi hj).2⟩⟩⟩
def PS.le.amf{σ τ:PS}(hn:σ.n=τ.n)(kf:(τ.b.all λx=>x.2.nl)=true)(hr:JI τ=true)(ht:zz σ τ.t)(hb:yv σ τ.b):PS.le σ τ:=λw0 B a w L _ r=>by
 let L':Lk:=⟨λid=>L.np id/\(τ.bo id).isSome=true,λid x=>L.own id x/\(τ.bo id).isSome=true,L.val,L.ji⟩
 have je:sZ L w L' w:=⟨bB _,λx _ ⟨id,h,_⟩=>⟨id,h⟩,λ_ _ _=>rfl⟩
 refine⟨L',r.hd,by rw[<-hn];exact r.hs,λt=>?_,λid b h=>?_,λid=>?_,λid x h=>⟨r.hn id x h.1,h.2⟩,λid x h=>r.hw id x h.1,λid id' x h k=>r.hi id id' x h.1 k.1,r.he,λh id b k=>?_⟩
 .have hg:τ.get t=((look τ.t t)).getD (.e .any):=rfl;cases hl:look τ.t t with
  |none=>rw[hg,hl];exact .any _
  |some p=>
   rw[hg,hl];have:=ht.get hl _ _ _ _ _<|r.ht t;refine nY.move je this λid hid tM=>⟨⟨tM,?_⟩,rfl,λ_=>rfl⟩
   have q:=cL.1 hr _<|RK hl;exact cL.1 q id hid
 .obtain ⟨b',h1,h2⟩:=hb.get h;have hs:(τ.bo id).isSome=true:=by rw[h];rfl
  exact(h2.2 _ _ _ _ _<|r.hb id b' h1).later je rfl (λx=>⟨λq=>q.1,λq=>⟨q,hs⟩⟩) (λ_=>rfl) λ_ _=>rfl
 .show L.np id/\(τ.bo id).isSome=true↔(τ.bo id).isSome=true;refine⟨λh=>h.2,λh=>⟨(r.hv id).2 ?_,h⟩⟩;obtain⟨b,jE⟩:=gL.1 h;obtain⟨b',h1,_⟩:=hb.get jE;rw[h1];rfl
 .exact cL.1 kf _<|RK k
def PV.zP(id:Nat)(e:E)(p:PV):PV:=match p with
 | .own i=>if Nat.beq i id then .e e else .own i
 |p=>if p.mN.any (Nat.beq id)then .e .any else p
def PS.zP(σ:PS)(id:Nat)(e:E):PS:={ σ with t:=σ.t.map λx=>(x.1,x.2.zP id e),b:=σ.b.filter λx=>!Nat.beq x.1 id }
def Bx.as:Bx->Option E
 | .row nl _ n sz el=>some<|.sl nl n sz el
 | .nL nl _ _ n sz len el none=>some<|.sl true n 1 λk _=>.sl nl (len k) sz<|el k
 |_=>none
def PS.le.freeze{σ:PS}(id:Nat){b:Bx}{e:E}(jE:σ.bo id=some b)(he:b.as=some e):PS.le σ<|σ.zP id e:=λw0 B a w L hB r=>by
 let L':Lk:=⟨λi=>L.np i/\i≠id,λi x=>L.own i x/\i≠id,L.val,L.ji⟩
 have je:sZ L w L' w:=⟨bB _,λx _ ⟨i,h,_⟩=>⟨i,h⟩,λ_ _ _=>rfl⟩
 have uf:∀ i,(σ.zP id e).bo i=if i=id then none else σ.bo i:=by
  intro i;unfold PS.bo PS.zP;by_cases h:i=id
  .subst h;simp only[bW];exact aab _ _
  .rw [bw h];exact I9 _ _ _ λe=>h e.symm
 have qR:∀ x,L.own id x->¬jx B L' x:=by
  rintro x hx (h|⟨i,h1,h2⟩)
  .have:=hB x h;have:=(r.hw id x hx).1;omega
  .exact h2<|r.hi i id x h1 hx
 have own:∀ (v:Value) (T:TypeId) (n sz:Nat) (f:Nat->Nat->Value) (nl:Bool) (el:Nat->Nat->E),oH w v T n sz f nl->(∀ x,v.ownBlock=some x->L.own id x) ->
  (∀ i j,i<n->j<sz->jd (jx B L) (j8 L) w (el i j) (f i j)/\(el i j).nr 2=true)->jd (jx B L') (j8 L') w (.sl nl n sz el) v:=by
  intro v T n sz f nl el h1 h2 h3;rcases h1 with⟨rfl,rfl⟩|⟨b,c,cur,rfl,hg,qd,oq,pk,ln,kf⟩
  .exact .sl nl 0 sz el none 0 f (bB _) aK (λ_=>rfl) (λi j hi=>absurd hi<|bM i) (λi j hi=>absurd hi<|bM i) (λi j hi=>absurd hi<|bM i) λi j hi=>absurd hi<|bM i
  .have ui:=h2 b rfl;refine .sl nl n sz el _ c f qd (by unfold maxLen at oq;omega) (λh=>by cases h) (λi j hi hj=>⟨(ln i j hi hj).2,λhn=>kf hn _<|eR (ln i j hi hj).1⟩) (λi j hi hj=>(h3 i j hi hj).2)
    (λi j hi hj=>⟨b,0,rfl,qR b ui,(r.hw id b ui).2,?_⟩) (λi j hi hj=>je.mc (h3 i j hi hj).1)
   rw[cJ];simp only[World.cell?,hg];simpa using(ln i j hi hj).1
 have hold:∀ v,v=L.val id->jd (jx B L') (j8 L') w e v:=by
  rintro v rfl;have Lx:=r.hb id b jE;cases b with
  |cells T l=>cases he
  |row nl T n sz el=>
   cases he;obtain⟨f,h1,h2,h3⟩:=Lx;exact own _ T n sz f nl el h1 (λx hx=>(h2 x).2 hx) h3
  |nL nl T1 T0 n sz len el pend=>
   cases pend with
   |some k=>cases he
   |none=>
    cases he;rcases Lx with⟨h1,h2,_⟩|jz
    .subst h2;rw[h1];exact .sl true 0 1 _ none 0 (λ_ _=>undef) (bB _) aK (λ_=>rfl) (λi j hi=>absurd hi<|bM i) (λi j hi=>absurd hi<|bM i) (λi j hi=>absurd hi<|bM i) λi j hi=>absurd hi<|bM i
    obtain⟨b,c,cur,f,h1,h2,h3,h4,h5,h6,h7,h8,h9,rM,ue⟩:=jz;have ui:L.own id b:=(h9 b).2<|.inl rfl;rw[h1];refine .sl true n 1 _ _ c (λk _=>L.ji id k) h3 (by unfold maxLen at h4;omega) (λh=>by cases h) (λk j hk hj=>?_) (λk j hk hj=>rfl)
     (λk j hk hj=>⟨b,0,rfl,qR b ui,(r.hw id b ui).2,?_⟩) (λk j hk hj=>own _ T0 (len k) sz (f k) nl (el k) (h8 k hk).1 (λx hx=>(h9 x).2<|.inr ⟨k,hk,hx⟩) (h8 k hk).2)
    .obtain ⟨_,q1,q2⟩:=(h8 k hk).1.head;exact⟨q1,λ_=>q2⟩
    .rw [cJ,cG];obtain rfl:j=0:= aI ;simp only[World.cell?,h2];simpa using h6 k hk aP 
 refine⟨L',r.hd,r.hs,λt=>?_,λi b' h=>?_,λi=>?_,λi x h=>⟨r.hn i x h.1,h.2⟩,λi x h=>r.hw i x h.1,λi i' x h k=>r.hi i i' x h.1 k.1,r.he,λh i b' k=>?_⟩
 .have hg:(σ.zP id e).get t=(σ.get t).zP id e:=by
   unfold PS.get PS.zP;rw[aac];cases look σ.t t<;>rfl
  rw[hg];have k:=r.ht t;generalize σ.get t=p at k;have move:∀ (p:PV) (v:Value),nY (jx B L) (j8 L) L w p v->(p.mN.any<|Nat.beq id)=false->nY (jx B L') (j8 L') L' w p v:=by
   intro p v k hp;refine nY.move je k λi hi tM=>⟨⟨tM,?_⟩,rfl,λ_=>rfl⟩
   rintro rfl;have:=dW.1 hp i hi;simp at this
  have gen:∀ (p:PV) (v:Value),nY (jx B L) (j8 L) L w p v->nY (jx B L') (j8 L') L' w (if p.mN.any (Nat.beq id)then .e .any else p) v:=by
   intro p v k;cases hp:p.mN.any (Nat.beq id)with
   |true=>exact .any _
   |false=>exact move p v k hp
  cases p with
  |own i=>
   simp only[PV.zP];by_cases hi:i=id
   .subst hi;rw[cU,bA rfl];exact hold _ k.2
   .rw [dC hi,bw aK];exact⟨⟨k.1,hi⟩,k.2⟩
  |_=>exact gen _ _ k
 .rw [uf]at h;split at h
  .cases h
  .rename_i hi;exact(r.hb i b' h).later je rfl (λx=>⟨λq=>q.1,λq=>⟨q,hi⟩⟩) (λ_=>rfl) λ_ _=>rfl
 .rw [uf];show L.np i/\i≠id↔_;by_cases hi:i=id
  .subst hi;simp
  .simp only[hi,dS,fi,gl,bN];exact r.hv i
 .rw [uf]at k;split at k
  .cases k
  .exact r.hl h i b' k
def PS.EJ(σ:PS)(t id:Nat)(b:Bx):PS:={ σ with t:=(t,.own id)::σ.t.filter (λx=>!Nat.beq x.1 t),b:=(id,b)::σ.b }
def PS.le.aey{σ:PS}(t id:Nat){nl:Bool}{T:TypeId}{sz:Nat}{el:Nat->Nat->E}(jE:σ.bo id=none)(hg:σ.get t = .e (.v<|.slice none 0 0))(kf:σ.nl=true->nl=true):PS.le σ<|σ.EJ t id<|.row nl T 0 sz el:=λw0 B a w L hB r=>by
 have rn:¬L.np id:=λh=>by have:=(r.hv id).1 h;rw[jE]at this;cases this
 let L':Lk:=⟨λi=>L.np i\/i=id,L.own,λi=>if i=id then .slice none 0 0 else L.val i,L.ji⟩
 have je:sZ L w L' w:=⟨bB _,λx _ h=>h,λ_ _ _=>rfl⟩
 have uf:∀ i,(σ.EJ t id<|.row nl T 0 sz el).bo i=if i=id then some (.row nl T 0 sz el)else σ.bo i:=by
  intro i;unfold PS.bo PS.EJ;rw[wD];by_cases h:id=i
  .rw [bA h,bA h.symm]
  .rw [bw h,bw λe=>h e.symm]
 have hv:a.tmps.getD t undef = .slice none 0 0:=by
  have:=r.ht t;rw[hg]at this;exact jd.lh this
 refine⟨L',r.hd,r.hs,λs=>?_,λi b' h=>?_,λi=>?_,λi x h=>.inl<|r.hn i x h,r.hw,r.hi,r.he,λh i b' k=>?_⟩
 .have hgs:(σ.EJ t id<|.row nl T 0 sz el).get s=if t=s then .own id else σ.get s:=by
   unfold PS.get PS.EJ;simp only[wD];by_cases h:t=s
   .rw [bA h,bA h];rfl
   .rw [bw h,bw h,I9 _ _ _ h]
  rw[hgs];by_cases h:t=s
  .subst h;rw[bA rfl,hv];exact⟨.inr rfl,(bA rfl).symm⟩
  .rw [bw h];refine nY.move je (r.ht s) λi _ tM=>⟨.inl tM,bw λ(q:i=id)=>rn<|q▸tM,λ_=>rfl⟩
 .rw [uf]at h;split at h
  .rename_i hi;subst hi;cases h;refine⟨λ_ _=>undef,.inl ⟨bA rfl,rfl⟩,λx=>⟨λq=>absurd (r.hn _ _ q) rn,λq=>?_⟩,λi j hi=>absurd hi<|bM i⟩;have e1:L'.val i = .slice none 0 0:=bA rfl;rw[e1]at q;cases q
  .rename_i hi;exact(r.hb i b' h).later je (bw hi) (λ_=>Iff.rfl) (λ_=>rfl) λ_ _=>rfl
 .rw [uf];show L.np i\/i=id↔_;by_cases hi:i=id
  .subst hi;simp
  .simp only[hi,or_false,bN];exact r.hv i
 .rw [uf]at k;split at k
  .cases k;exact kf h
  .exact r.hl h i b' k
end Go.Proofs.YtbbefgegdllpmaaGreatDoor.Pu
namespace Go.Proofs.YtbbefgegdllpmaaGreatDoor.Fp
def jN(x i:Nat)(b o:List Nat):Nat->List Nat×Nat
 | 0=>(o,0)
 |k+1=>
  let r:=jN x i b o k
  let z:=x*b.getD k 0+r.1.getD (i+k) 0+r.2
  (r.1.set (i+k)<|z%4294967296,z/4294967296)
def mI(a b:List Nat):Nat->List Nat
 | 0=>List.replicate (a.length+b.length) 0
 |i+1=>
  let r:=jN (a.getD i 0) i b (mI a b i) b.length
  r.1.set (i+b.length) (r.2%4294967296)
def RQ{x y:Nat}(hx:x<4294967296)(hy:y<4294967296):x*y<=18446744065119617025:=by
 have:=dE (aI:x<=4294967295) (aI:y<=4294967295);omega
section
variable{L:List Nat}
def zw{k x:Nat}(hk:k<L.length):val (L.set k x)+4294967296^k*L.getD k 0=val L+4294967296^k*x:=by
 have:=To (x:=x) hk;rwa[bJ,bS hk]
def wZ{k j x:Nat}(h:k≠j):(L.set k x).getD j 0=L.getD j 0:=by
 simp only[bJ,ado h]
def PT{k x:Nat}(h:k<L.length):(L.set k x).getD k 0=x:=by
 simp[bJ,h]
end
structure aem(x i:Nat)(b o:List Nat)(k:Nat)(r:List Nat×Nat):Prop where
 ok:jc r.1
 len:r.1.length=o.length
 lt:r.2<4294967296
 eq:val r.1+4294967296^(i+k)*r.2=val o+4294967296^i*(x*val (b.take k))
 qP:∀ j,i+k<=j->r.1.getD j 0=o.getD j 0
def Cq{x i:Nat}{b o:List Nat}(hx:x<4294967296)(hb:jc b)(ho:jc o)(hl:i+b.length<=o.length):∀ k,k<=b.length->aem x i b o k (jN x i b o k)
 | 0,_=>⟨ho,rfl,atT _,by simp[jN,val],λ_ _=>rfl⟩
 |k+1,hk=>by
  obtain⟨h1,h2,h3,h4,h5⟩:=Cq hx hb ho hl k aI;have hy:=hb.getD k;have hw:=h1.getD<|i+k;have hm:=RQ hx hy;have hv:=wP b k;simp only[jN];generalize jN x i b o k=r at *
  generalize hz:x*b.getD k 0+r.1.getD (i+k) 0+r.2=z;have uk:=zw (L:=r.1) (k:=i+k) (x:=z%4294967296) aI;refine⟨h1.set _<|bQ _ aK,by simpa using h2,by show z/4294967296<_;omega,?_,λj hj=>?_⟩
  .have e1:z=z%4294967296+4294967296*(z/4294967296):=(eA z _).symm;show val (r.1.set (i+k)<|z%4294967296)+4294967296^(i+(k+1))*(z/4294967296)=_;rw[hv,ct x,ct<|4294967296^i,<-dm (val o),<-h4];have e2:4294967296^(i+(k+1))*(z/4294967296)=4294967296^(i+k)*(4294967296*(z/4294967296)):=by rw[(aI:i+(k+1)=(i+k)+1),bV,bO]
   have e3:4294967296^i*(x*(4294967296^k*b.getD k 0))=4294967296^(i+k)*(x*b.getD k 0):=by rw[bG];simp only[bO,dF]
   rw[e2,e3];have e4:4294967296^(i+k)*z=4294967296^(i+k)*(x*b.getD k 0)+4294967296^(i+k)*r.1.getD (i+k) 0+4294967296^(i+k)*r.2:=by rw[<-hz,ct,ct]
   have e5:4294967296^(i+k)*z=4294967296^(i+k)*(z%4294967296)+4294967296^(i+k)*(4294967296*(z/4294967296)):=by rw[<-ct,<-e1]
   omega
  .show (r.1.set (i+k) _).getD j 0=_;rw[wZ aI,h5 j aI]
structure aeo(a b:List Nat)(i:Nat)(o:List Nat):Prop where
 ok:jc o
 len:o.length=a.length+b.length
 eq:val o=val (a.take i)*val b
 zero:∀ j,i+b.length<=j->o.getD j 0=0
def Je{a b:List Nat}(ha:jc a)(hb:jc b):∀ i,i<=a.length->aeo a b i (mI a b i)
 | 0,_=>⟨jc.CH _,by simp[mI],by simp[mI,Az,val],λj _=>by
  by_cases h:j<a.length+b.length<;>simp[mI,bJ,fG,h]⟩
 |i+1,hi=>by
  obtain⟨h1,h2,h3,h4⟩:=Je ha hb i aI;obtain⟨q1,q2,q3,q4,q5⟩:=Cq (ha.getD i) hb h1 (i:=i) aI b.length<|bB _;have hv:=wP a i;simp only[mI];generalize jN (a.getD i 0) i b (mI a b i) b.length=r at *
  have uk:=zw (L:=r.1) (k:=i+b.length) (x:=r.2%4294967296) aI;rw[q5 _<|bB _,h4 _<|bB _,cW,ch,cw q3,q4,fo,h3]at uk;refine⟨q1.set _<|bQ _ aK,aV,?_,λj hj=>?_⟩
  .rw [cw q3,uk,hv,ca,bO]
  .rw [wZ aI,q5 _ aI,h4 _ aI]
def asF{a b:List Nat}(ha:jc a)(hb:jc b):val (mI a b a.length)=val a*val b:=by
 have:=(Je ha hb a.length<|bB _).eq;rwa[fo]at this
end Go.Proofs.YtbbefgegdllpmaaGreatDoor.Fp
namespace Go.Proofs.YtbbefgegdllpmaaGreatDoor
open Go.RowKit Fp Pu
abbrev jt(L:List Nat):Nat->Nat->E:=λi _=>.v<|.int .u32 (L.getD i 0:Int)
def tX(n:Nat):IntKind.u32.wrap (n:Int)=((n%4294967296:Nat):Int):=by rw[IntKind.wrap_u32];omega
def Bc(n:Nat)(h:n<9223372036854775808:=by omega):IntKind.i64.wrap (n:Int)=n:=by rw[IntKind.wrap_i64];omega
def Al(n:Nat):(n:Int)/2^32=((n/4294967296:Nat):Int):= aI 
def tW(n k:Nat):(n:Int)/2^k=((n/2^k:Nat):Int):=by rw[Int.natCast_ediv,Int.natCast_pow];rfl
def Am{L:List Nat}{n:Nat}(h:n=L.length):E.le (.sl false n 1<|jt L)<|iG L:=by subst h;exact .refl _
def F9{T n n':Nat}{L:List Nat}(hn:n=n')(h:∀ i,L.getD i 0=0):Bx.le (.row false T n 1 λ_ j=>[.v<|.int .u32 0].getD j .any)<|.row false T n' 1<|jt L:=
 .row hn λi j _ hj=>by
  obtain rfl:j=0:= aI ;refine⟨.jm ?_,rfl⟩;show E.v (.int .u32 0)=E.v (.int .u32 (L.getD i 0:Int));rw[h i];rfl
def JK{T n n' p:Nat}{L:List Nat}{z:Nat}(hn:n=n')(hp:p<L.length:=by omega):Bx.le (.row false T n 1 λi' j'=>if i'=p/\0<=j'/\j'<0+1 then[.v<|.int .u32 (z:Int)].getD (j'-0) .any else(jt L) i' j')<|.row false T n' 1<|jt<|L.set p z:=
 .row hn λi j _ hj=>by
  obtain rfl:j=0:= aI ;refine⟨.jm ?_,rfl⟩;by_cases h:i=p
  .subst h;rw[bA ⟨rfl,aI,aI⟩];show E.v (.int .u32 (z:Int))=E.v (.int .u32 (((L.set i z).getD i 0:Nat):Int));rw[Fp.PT hp]
  .rw [bw λq=>h q.1];show E.v (.int .u32 (L.getD i 0:Int))=E.v (.int .u32 (((L.set p z).getD i 0:Nat):Int));rw[Fp.wZ λq=>h q.symm]
def ack{k l:IntKind}{a b c d:Int}(h:a=b)(h':c=d):Ending.returned (.tuple #[.int k a,.int l c]) = .returned (.tuple #[.int k b,.int l d]):=by rw[h,h']
def GJ(x y c:Nat)(w:World)(hx:x<4294967296)(hy:y<4294967296)(hc:c<=1):
 Calls prog 260 #[.int .u32 x,.int .u32 y,.int .u32 c] w λe w'=>e = .returned (.tuple #[.int .u32 (((x+y+c)%4294967296:Nat):Int),.int .u32 (((x+y+c)/4294967296:Nat):Int)])/\w=w':=by
 go_enter func260,ntmps260;go_wp2;go_ret2;refine⟨?_,rfl⟩;exact ack aI aI 
section
variable(a b:Nat)(ha:a<4294967296)(hb:b<4294967296)
def JX:bits .or .u32 (a:Int) (b:Int)=((a |||b:Nat):Int):=by
 have h2:a |||b<2^32:=atP ha hb
 show IntKind.u32.wrap ((BitVec.ofInt 32 (a:Int) |||BitVec.ofInt 32 (b:Int)).toNat:Int)=_;rw[BitVec.toNat_or,fp,fp];rw[show((a:Int)%((2^32:Nat):Int)).toNat=a by omega,show((b:Int)%((2^32:Nat):Int)).toNat=b by omega];rw[IntKind.wrap_u32];omega
def adO:bits .and .u32 (a:Int) (b:Int)=((a &&& b:Nat):Int):=by
 have h2:a &&& b<2^32:=fH a hb;show IntKind.u32.wrap ((BitVec.ofInt 32 (a:Int) &&& BitVec.ofInt 32 (b:Int)).toNat:Int)=_;rw[atQ,fp,fp];rw[show((a:Int)%((2^32:Nat):Int)).toNat=a by omega,show((b:Int)%((2^32:Nat):Int)).toNat=b by omega];rw[IntKind.wrap_u32];omega
def Tl:bits .xor .u32 (a:Int) (b:Int)=((a ^^^ b:Nat):Int):=by
 have h2:a ^^^ b<2^32:=fK ha hb;show IntKind.u32.wrap ((BitVec.ofInt 32 (a:Int) ^^^ BitVec.ofInt 32 (b:Int)).toNat:Int)=_;rw[BitVec.toNat_xor,fp,fp];rw[show((a:Int)%((2^32:Nat):Int)).toNat=a by omega,show((b:Int)%((2^32:Nat):Int)).toNat=b by omega];rw[IntKind.wrap_u32];omega
end
def Nv(n:Nat)(h:n<4294967296):n/2147483648=(n.testBit 31).toNat:=by
 rw[atU,show(2:Nat)^31=2147483648 from rfl];have h2:n/2147483648<2:= aI ;generalize n/2147483648=q at *
 have:q=0\/q=1:= aI ;rcases this with rfl|rfl<;>rfl
def arK(x y c d:Nat)(hx:x<4294967296)(hy:y<4294967296)(hc:c<=1)(hd:d=(x+(4294967296-y)+(4294967296-c))%4294967296):
 (((4294967295 ^^^ x) &&& y) ||| ((4294967295 ^^^ (x ^^^ y)) &&& d))/2147483648=if x<y+c then 1 else 0:=by
 have Fk:d<4294967296:= aI ;have h1:4294967295 ^^^ x<2^32:=fK aK hx;have h2:x ^^^ y<2^32:=fK hx hy;have h3:4294967295 ^^^ (x ^^^ y)<2^32:=fK aK h2;have h4:(4294967295 ^^^ x) &&& y<2^32:=fH _ hy;have h5:(4294967295 ^^^ (x ^^^ y)) &&& d<2^32:=fH _ Fk;rw[Nv _<|atP h4 h5];have tx:=Nv x hx;have ty:=Nv y hy;have td:=Nv d Fk;rw[Nat.testBit_or,atV,atV,atW,atW,atW,show(4294967295:Nat).testBit 31=true by decide];clear h1 h2 h3 h4 h5;generalize x.testBit 31=p at *
 generalize y.testBit 31=q at *
 generalize d.testBit 31=r at *
 cases p<;>cases q<;>cases r<;>simp at tx ty td ⊢ <;> omega
section
variable(x y c:Nat)
def C9:Nat:=if x<y+c then 1 else 0
def zL:Nat:=(x+(4294967296-y)+(4294967296-c))%4294967296
def Hj(hx:x<4294967296)(hy:y<4294967296)(hc:c<=1):zL x y c+y+c=x+4294967296*C9 x y c/\C9 x y c<=1/\zL x y c<4294967296:=by
 unfold zL C9;split<;>omega
def adh(w:World)(hx:x<4294967296)(hy:y<4294967296)(hc:c<=1):
 Calls prog 261 #[.int .u32 x,.int .u32 y,.int .u32 c] w λe w'=>e = .returned (.tuple #[.int .u32 (zL x y c:Nat),.int .u32 (C9 x y c:Nat)])/\w=w':=by
 go_enter func261,ntmps261;go_wp2;go_ret2;refine⟨?_,rfl⟩;have hd:((x:Int)-y-c)%4294967296=(zL x y c:Int):=by unfold zL;omega
 have hb:=arK x y c (zL x y c) hx hy hc rfl;have hl:=(Hj x y c hx hy hc).2.2;have em:IntKind.u32.max=((4294967295:Nat):Int):=rfl;refine ack hd ?_;rw[hd,em,Tl _ _ aK hx,Tl _ _ hx hy];have h1:4294967295 ^^^ x<2^32:=fK aK hx;have h2:x ^^^ y<2^32:=fK hx hy;have h3:4294967295 ^^^ (x ^^^ y)<2^32:=fK aK h2;rw[Tl _ _ aK h2,adO _ _ h1 hy,adO _ _ h3 hl];have h4:(4294967295 ^^^ x) &&& y<2^32:=fH _ hy;have h5:(4294967295 ^^^ (x ^^^ y)) &&& zL x y c<2^32:=fH _ hl;rw[JX _ _ h4 h5];unfold C9;rw[<-hb];omega
end
def UR{O:List Nat}{k c x y P Q P' Q':Nat}(ho:O[k]? = some 0)(h:val O+4294967296^k*c=P+Q)
 (hP:P'=P+4294967296^k*x) (hQ:Q'=Q+4294967296^k*y):
 val (O.set k<|(x+y+c)%4294967296)+4294967296^(k+1)*((x+y+c)/4294967296)=P'+Q':=by
 have h1:=RR (a:=1) (b:=x+y) (c:=c) ho;rw[cj,ch]at h1;rw[h1,h,hP,hQ,ct];omega
def adk{O:List Nat}{k c x y d c' P Q P' Q':Nat}(ho:O[k]? = some 0)(h:val O+Q=P+4294967296^k*c)
 (hP:P'=P+4294967296^k*x) (hQ:Q'=Q+4294967296^k*y) (hd:d+y+c=x+4294967296*c'):
 val (O.set k d)+Q'=P'+4294967296^(k+1)*c':=by
 obtain⟨hk,h0⟩:=cP.1 ho;have h1:=To (x:=d) hk;rw[h0,cW,ch]at h1;have e:=congrArg (4294967296^k * ·) hd;simp only[ct,<-bO]at e;rw[bV,h1,hP,hQ];omega
def wR(O:List Nat)(k:Nat):Prop:=∀ j,k<=j->j<O.length->O[j]? = some 0
def wR.at{O:List Nat}{k:Nat}(h:wR O k)(hk:k<O.length):O[k]? = some 0:=h k (bB _) hk
def wR.set{O:List Nat}{k:Nat}(h:wR O k)(v:Nat):wR (O.set k v)<|k+1:=λj h1 h2=>by
 rw[ado aI];exact h j aI<|by simpa using h2
def wR.Uo(n:Nat):wR (List.replicate n 0) 0:=λj _ h=>by
 rw[fG];rw[bA<|by simpa using h]
section
variable(w:World)(v n:Nat)(e:Ending)(w':World)
def Og:Prop:=∃ T,val T=v/\jc T/\T.length=n/\uI w T e w'
def UF:Prop:=∃ T,val T=v/\jc T/\T.length<=n/\uI w T e w'
end
section
variable(A B:Option Addr)(c d:Nat)(L M:List Nat)(w:World)
section
variable(hs:Sl w A c L)(hr:Sl w B d M)(h1:L.length<=3000)
def anr(_h2:M.length<=3000)(hc:M.length<=L.length):
 Calls prog 243 #[.slice A L.length c,.slice B M.length d] w (Og w (val L+val M)<|L.length+1):=by
 obtain⟨l,hl⟩:∃ l,l=L.length:=⟨_,rfl⟩
 obtain⟨m,hm⟩:∃ m,m=M.length:=⟨_,rfl⟩
 rw[<-hl,<-hm]at hc;rw[<-hl]at h1;rw[<-hm]at _h2;have HL:=aum hl;have HM:=aum hm;rw[<-hl,<-hm];clear hl hm;have d0:decide ((l:Int)<m)=false:=bE aI;have d1:decide (l<m)=false:=bE aI;have qo:=FL (l+1) aI;rw[show((l+1:Nat):Int)=l+1 by omega]at qo;have xS:=aum<|Rw.Ac w<|l+1;go_enter func243,ntmps243;go_wp2;go_loopw [6,7,8,9,23] (λcy _ _ _ i wr=>∃ (k q:Nat) (O:List Nat),k<=l/\i = .int .i64 k/\cy = .int .u32 q/\q<=1/\O.length=l+1/\jc O/\wR O k/\val O+4294967296^k*q=val (L.take k)+val (M.take k)/\Rw wr w.heap.size O/\iY w wr) (λ_ _ _ _ i _=>l-(intOf i).toNat)
 case atStart=>
  exact⟨0,0,List.replicate (l+1) 0,cA _,rfl,rfl,aK,aP,jc.CH _,wR.Uo _,by simp[Az],xS.out,iY.alloc _ _⟩
 case round=>
  obtain⟨k,q,O,hk,rfl,rfl,hq,hO,mf,hz,lI,hR,hb⟩:=hrel;have HV:=aum lI;have HO:=aum hO;clear lI hO;have HZ:=aum hz;clear hz;by_cases je:k<l
  .have wk:k<L.length:=by have:=HL.out;omega
   obtain⟨ab,ao,e1,_,c1⟩:=(hs.below hb).mM wk;have nF:L[k]<4294967296:=hs.ok.get wk;have ho:=HZ.out.at<|by have:=HO.out;omega
   have c4:=hR.frozen k;have Fj:=hR.cell ho;have HT:=aum<|AA L k wk;have HY:=aum<|wP M k;have qK:M.getD k 0<4294967296:=hr.ok.getD k;have HYc:=aum λ(h:k<M.length)=>(hr.below hb).mM h;have HYg:=aum λ(h:k<M.length)=>BR h;have HYn:=aum λ(h:¬k<M.length)=>Fa h;have HX:=aum (rfl:L[k]=L[k]);obtain⟨a,ha⟩:∃ a,a=L[k]:=⟨_,rfl⟩
   rw[<-ha]at c1 nF HT;clear ha HX wk;have HS:=aum<|UR ho HV.out HT.out HY.out;have HN:=aum λv=>HZ.out.set v;have HOK:=aum λv=>mf.Na k v;have HR2:=aum (λv:Nat=>hR.set k v);have HE2:=aum (λv:Value=>hb.setCell (p:=⟨w.heap.size,k,none⟩) (bB _) v);clear ho hR hb mf;subst e1;by_cases Zh:k<m
   .have yT:k<M.length:=by have:=HM.out;omega
    obtain⟨bb,bo,e2,_,c2⟩:=HYc.out yT;subst e2;rw[<-HYg.out yT]at c2;generalize M.getD k 0=b at *
    clear HYc HYg HYn yT;have HA:=aum λw=>GJ a b q w nF qK hq;go_wp2_with fail;refine(HA.out _).mono ?_;rintro e w1 ⟨rfl,rfl⟩;go_wp2;go_roundw
    case rel=>
     exact⟨k+1,(a+b+q)/4294967296,O.set k<|(a+b+q)%4294967296,aI,by go_num,rfl,aI,by rw[di];exact HO.out,HOK.out _,HN.out _,HS.out,HR2.out _,HE2.out _⟩
    case measure=>simp[intOf];omega
   .rw [HYn.out<|by have:=HM.out;omega]at HS;clear HYc HYg HYn qK HY;have HA:=aum λw=>GJ a 0 q w nF aK hq;go_wp2_with fail;refine(HA.out _).mono ?_;rintro e w1 ⟨rfl,rfl⟩;go_wp2;go_roundw
    case rel=>
     exact⟨k+1,(a+0+q)/4294967296,O.set k<|(a+0+q)%4294967296,aI,by go_num,rfl,aI,by rw[di];exact HO.out,HOK.out _,HN.out _,HS.out,HR2.out _,HE2.out _⟩
    case measure=>simp[intOf];omega
  .obtain rfl:k=l:= aI ;have ho:=HZ.out.at (by have:=HO.out;omega)
   have c4:=hR.frozen k;have Fj:=hR.cell ho;have HF:=aum (show val (O.set k q)=val L+val M by
    have h:=OS (c:=q) ho;rw[cJ,cw aI,cI aI,cW,ch,HV.out,show L.take k=L from dg<|by rw[HL.out];exact bB _,show M.take k=M from dg<|by rw[<-HM.out];omega]at h;omega)
   have HLn:=aum (show(O.set k q).length=k+1 by rw[di];exact HO.out);have HOK:Hid<|jc<|O.set k q:=mf.set k aI;have HR2:=aum<|hR.set k q;have HE2:=aum (λv:Value=>hb.setCell (p:=⟨w.heap.size,k,none⟩) (bB _) v);clear ho hR hb mf;go_wp2;go_ret;have A8:=HR2.out.sl HOK.out (by rw[HLn.out];omega);rw[HLn.out]at A8;exact⟨_,HF.out,HOK.out,HLn.out,_,_,(by rw[HLn.out];rfl),A8,HE2.out _⟩
section
variable(h2:M.length<=3000)
def ans(hc:L.length<M.length):
 Calls prog 243 #[.slice A L.length c,.slice B M.length d] w (Og w (val L+val M)<|M.length+1):=by
 obtain⟨l,hl⟩:∃ l,l=L.length:=⟨_,rfl⟩
 obtain⟨m,hm⟩:∃ m,m=M.length:=⟨_,rfl⟩
 rw[<-hl,<-hm]at hc;rw[<-hl]at h1;rw[<-hm]at h2;have HL:=aum hl;have HM:=aum hm;rw[<-hl,<-hm];clear hl hm;have d0:decide ((l:Int)<m)=true:=bC aI;have d1:decide (l<m)=true:=bC aI;have qo:=FL (m+1) aI;rw[show((m+1:Nat):Int)=m+1 by omega]at qo;have xS:=aum<|Rw.Ac w<|m+1;go_enter func243,ntmps243;go_wp2;go_loopw [6,7,8,9,23] (λcy _ _ _ i wr=>∃ (k q:Nat) (O:List Nat),k<=m/\i = .int .i64 k/\cy = .int .u32 q/\q<=1/\O.length=m+1/\jc O/\wR O k/\val O+4294967296^k*q=val (M.take k)+val (L.take k)/\Rw wr w.heap.size O/\iY w wr) (λ_ _ _ _ i _=>m-(intOf i).toNat)
 case atStart=>
  exact⟨0,0,List.replicate (m+1) 0,cA _,rfl,rfl,aK,aP,jc.CH _,wR.Uo _,by simp[Az],xS.out,iY.alloc _ _⟩
 case round=>
  obtain⟨k,q,O,hk,rfl,rfl,hq,hO,mf,hz,lI,hR,hb⟩:=hrel;have HV:=aum lI;have HO:=aum hO;clear lI hO;have HZ:=aum hz;clear hz;by_cases je:k<m
  .have wk:k<M.length:=by have:=HM.out;omega
   obtain⟨ab,ao,e1,_,c1⟩:=(hr.below hb).mM wk;have nF:M[k]<4294967296:=hr.ok.get wk;have ho:=HZ.out.at<|by have:=HO.out;omega
   have c4:=hR.frozen k;have Fj:=hR.cell ho;have HT:=aum<|AA M k wk;have HY:=aum<|wP L k;have qK:L.getD k 0<4294967296:=hs.ok.getD k;have HYc:=aum λ(h:k<L.length)=>(hs.below hb).mM h;have HYg:=aum λ(h:k<L.length)=>BR h;have HYn:=aum λ(h:¬k<L.length)=>Fa h;have HX:=aum (rfl:M[k]=M[k]);obtain⟨a,ha⟩:∃ a,a=M[k]:=⟨_,rfl⟩
   rw[<-ha]at c1 nF HT;clear ha HX wk;have HS:=aum<|UR ho HV.out HT.out HY.out;have HN:=aum λv=>HZ.out.set v;have HOK:=aum λv=>mf.Na k v;have HR2:=aum (λv:Nat=>hR.set k v);have HE2:=aum (λv:Value=>hb.setCell (p:=⟨w.heap.size,k,none⟩) (bB _) v);clear ho hR hb mf;subst e1;by_cases Zh:k<l
   .have yT:k<L.length:=by have:=HL.out;omega
    obtain⟨bb,bo,e2,_,c2⟩:=HYc.out yT;subst e2;rw[<-HYg.out yT]at c2;generalize L.getD k 0=b at *
    clear HYc HYg HYn yT;have HA:=aum λw=>GJ a b q w nF qK hq;go_wp2_with fail;refine(HA.out _).mono ?_;rintro e w1 ⟨rfl,rfl⟩;go_wp2;go_roundw
    case rel=>
     exact⟨k+1,(a+b+q)/4294967296,O.set k<|(a+b+q)%4294967296,aI,by go_num,rfl,aI,by rw[di];exact HO.out,HOK.out _,HN.out _,HS.out,HR2.out _,HE2.out _⟩
    case measure=>simp[intOf];omega
   .rw [HYn.out<|by have:=HL.out;omega]at HS;clear HYc HYg HYn qK HY;have HA:=aum λw=>GJ a 0 q w nF aK hq;go_wp2_with fail;refine(HA.out _).mono ?_;rintro e w1 ⟨rfl,rfl⟩;go_wp2;go_roundw
    case rel=>
     exact⟨k+1,(a+0+q)/4294967296,O.set k<|(a+0+q)%4294967296,aI,by go_num,rfl,aI,by rw[di];exact HO.out,HOK.out _,HN.out _,HS.out,HR2.out _,HE2.out _⟩
    case measure=>simp[intOf];omega
  .obtain rfl:k=m:= aI ;have ho:=HZ.out.at (by have:=HO.out;omega)
   have c4:=hR.frozen k;have Fj:=hR.cell ho;have HF:=aum (show val (O.set k q)=val L+val M by
    have h:=OS (c:=q) ho;rw[cJ,cw aI,cI aI,cW,ch,HV.out,show M.take k=M from dg<|by rw[HM.out];exact bB _,show L.take k=L from dg<|by rw[<-HL.out];omega]at h;omega)
   have HLn:=aum (show(O.set k q).length=k+1 by rw[di];exact HO.out);have HOK:Hid<|jc<|O.set k q:=mf.set k aI;have HR2:=aum<|hR.set k q;have HE2:=aum (λv:Value=>hb.setCell (p:=⟨w.heap.size,k,none⟩) (bB _) v);clear ho hR hb mf;go_wp2;go_ret;have A8:=HR2.out.sl HOK.out (by rw[HLn.out];omega);rw[HLn.out]at A8;exact⟨_,HF.out,HOK.out,HLn.out,_,_,(by rw[HLn.out];rfl),A8,HE2.out _⟩
def anq:
 Calls prog 243 #[.slice A L.length c,.slice B M.length d] w (Og w (val L+val M)<|max L.length M.length+1):=by
 by_cases hc:M.length<=L.length
 .rw [Nat.max_eq_left hc];exact anr A B c d L M w hs hr h1 h2 hc
 .rw [Nat.max_eq_right aI];exact ans A B c d L M w hs hr h1 h2 aI 
def anp:
 Calls prog 243 #[.slice A L.length c,.slice B M.length d] w (UF w (val L+val M)<|max L.length M.length+1):=
 (anq A B c d L M w hs hr h1 h2).mono λ_ _ ⟨T,a,b,c,d⟩=>⟨T,a,b,apI c,d⟩
end
end
def anu(vg:Sl w A c L)(s8:Sl w B d M)(h1:L.length<=3000)(_h2:M.length<=3000)(hle:val M<=val L):
 Calls prog 244 #[.slice A L.length c,.slice B M.length d] w (UF w (val L-val M) L.length):=by
 have Qd:=aum λw (h:Sl w A c L)=>xu A c L w h;have Qe:=aum λw (h:Sl w B d M)=>xu B d M w h;have hs:=vg.wO;have hr:=s8.wO;have II:=pW L;have Zc:=pW M;have zS:=pV L;have ot:=pV M;have QR:(iI M).length<=(iI L).length:=by
  apply cF;intro h;have:=Nz hs.ok (By M) aI;omega
 unfold mV at zS ot;rw[<-II,<-Zc]at hle ⊢;clear II Zc;obtain⟨n1,qT⟩:∃ n,n=L.length:=⟨_,rfl⟩
 obtain⟨n2,kX⟩:∃ n,n=M.length:=⟨_,rfl⟩
 rw[<-qT]at h1 zS Qd ⊢;rw[<-kX]at _h2 ot Qe ⊢;have HTL:=aum<|Qd.out w vg;have HTM:=aum<|Qe.out w s8;clear Qd Qe vg s8 qT kX;generalize iI L=L at *
 generalize iI M=M at *
 obtain⟨l,hl⟩:∃ l,l=L.length:=⟨_,rfl⟩
 obtain⟨m,hm⟩:∃ m,m=M.length:=⟨_,rfl⟩
 rw[<-hl]at zS HTL QR;rw[<-hm]at ot HTM QR;have HL:=aum hl;have HM:=aum hm;have HLE:=aum hle;clear hl hm hle;have qo:=FL l aI;have xS:=aum<|Rw.Ac w l;go_enter func244,ntmps244;go_wp2_with fail;refine HTL.out.mono ?_;rintro e w1 ⟨rfl,rfl⟩;go_wp2_with fail;refine HTM.out.mono ?_;rintro e w1 ⟨rfl,rfl⟩;go_wp2;go_loopw [6,7,8,9,19] (λcy _ _ _ i wr=>∃ (k q:Nat) (O:List Nat),k<=l/\i = .int .i64 k/\cy = .int .u32 q/\q<=1/\O.length=l/\jc O/\wR O k/\val O+val (M.take k)=val (L.take k)+4294967296^k*q/\Rw wr w.heap.size O/\iY w wr) (λ_ _ _ _ i _=>l-(intOf i).toNat)
 case atStart=>
  exact⟨0,0,List.replicate l 0,cA _,rfl,rfl,aK,aP,jc.CH _,wR.Uo _,by simp[Az],xS.out,iY.alloc _ _⟩
 case round=>
  obtain⟨k,q,O,hk,rfl,rfl,hq,hO,mf,hz,lI,hR,hb⟩:=hrel;have HV:=aum lI;have HO:=aum hO;clear lI hO;have HZ:=aum hz;clear hz;by_cases je:k<l
  .have wk:k<L.length:=by have:=HL.out;omega
   obtain⟨ab,ao,e1,_,c1⟩:=(hs.below hb).mM wk;have nF:L[k]<4294967296:=hs.ok.get wk;have ho:=HZ.out.at<|by have:=HO.out;omega
   have c4:=hR.frozen k;have Fj:=hR.cell ho;have HT:=aum<|AA L k wk;have HY:=aum<|wP M k;have qK:M.getD k 0<4294967296:=hr.ok.getD k;have HYc:=aum λ(h:k<M.length)=>(hr.below hb).mM h;have HYg:=aum λ(h:k<M.length)=>BR h;have HYn:=aum λ(h:¬k<M.length)=>Fa h;obtain⟨a,ha⟩:∃ a,a=L[k]:=⟨_,rfl⟩
   rw[<-ha]at c1 nF HT;clear ha wk;have HN:=aum λv=>HZ.out.set v;have HOK:=aum λ(v:Nat) (h:v<4294967296)=>mf.set k h;have HR2:=aum (λv:Nat=>hR.set k v);have HE2:=aum (λv:Value=>hb.setCell (p:=⟨w.heap.size,k,none⟩) (bB _) v);have HO0:=aum ho;clear ho hR hb mf;subst e1;by_cases Zh:k<m
   .have yT:k<M.length:=by have:=HM.out;omega
    obtain⟨bb,bo,e2,_,c2⟩:=HYc.out yT;subst e2;rw[<-HYg.out yT]at c2;generalize M.getD k 0=b at *
    clear HYc HYg HYn yT;have HS:=aum<|adk HO0.out HV.out HT.out HY.out (Hj a b q nF qK hq).1;have HD:=aum (Hj a b q nF qK hq).2;have HA:=aum λw=>adh a b q w nF qK hq;generalize zL a b q=dd at *
    generalize C9 a b q=bb' at *
    go_wp2_with fail;refine(HA.out _).mono ?_;rintro e w1 ⟨rfl,rfl⟩;go_wp2;go_roundw
    case rel=>
     exact⟨k+1,bb',O.set k dd,aI,by go_num,rfl,HD.out.1,by rw[di];exact HO.out,HOK.out _ HD.out.2,HN.out _,HS.out,HR2.out _,HE2.out _⟩
    case measure=>simp[intOf];omega
   .rw [HYn.out<|by have:=HM.out;omega]at HY;clear HYc HYg HYn qK;have HS:=aum<|adk HO0.out HV.out HT.out HY.out (Hj a 0 q nF aK hq).1;have HD:=aum (Hj a 0 q nF aK hq).2;have HA:=aum λw=>adh a 0 q w nF aK hq;generalize zL a 0 q=dd at *
    generalize C9 a 0 q=bb' at *
    go_wp2_with fail;refine(HA.out _).mono ?_;rintro e w1 ⟨rfl,rfl⟩;go_wp2;go_roundw
    case rel=>
     exact⟨k+1,bb',O.set k dd,aI,by go_num,rfl,HD.out.1,by rw[di];exact HO.out,HOK.out _ HD.out.2,HN.out _,HS.out,HR2.out _,HE2.out _⟩
    case measure=>simp[intOf];omega
  .obtain rfl:k=l:= aI ;have HF:=aum (show val O=val L-val M by
    have h:=HV.out;rw[show L.take k=L from dg<|by rw[HL.out];exact bB _,show M.take k=M from dg<|by rw[<-HM.out];exact QR]at h;exact(adj mf HO.out h HLE.out).2)
   go_wp2;go_ret;have A8:=hR.sl mf (by rw[HO.out];omega);exact⟨_,HF.out,mf,by rw[HO.out];exact zS,_,_,(by rw[HO.out];rfl),A8,hb⟩
end
def adF{T:List Nat}{v:Nat}(h:jc T)(hv:val T=v):iI T=iB v:=by rw[sY h,hv]
section
variable(A B:Option Addr)(c d:Nat)(L M:List Nat)(w:World)(hs:Sl w A c L)(hr:Sl w B d M)(h1:L.length<=256)(h2:M.length<=256)
def anb(hf:(iB<|val L+val M).length<=256):
 Calls prog 218 #[.slice A L.length c,.slice B M.length d] w (EG w (iB<|val L+val M) 0):=by
 have H1:=aum λw (h:Sl w A c L) (k:Sl w B d M)=>anp A B c d L M w h k aI aI;generalize val L+val M=v at *
 go_enter func218,ntmps218;go_wp2_with fail;refine(Z9 _ A B _ c _ d _ false (UK _ _ _ _ _ _ _) (UL _ _ _ _ _ _ _) aV).mono ?_;rintro e w' ⟨rfl,rfl⟩;go_wp2_with fail;refine(H1.out _ (hs.alloc _)<|hr.alloc _).mono ?_;rintro e w' ⟨T,hv,hk,hl,A',c',rfl,oN,hb⟩;have ht:=aum<|adF hk hv;go_wp2_with fail;refine(Jg A' c' T _ oN<|by rw[ht.out];exact hf).mono ?_;rintro e w'' ⟨A'',c'',rfl,rP,oV⟩;rw[ht.out]at rP ⊢;go_wp2;go_ret2;exact⟨A'',c'',rfl,rP,(iY.alloc _ _).trans<|hb.trans oV⟩
def ano(hle:val M<=val L):
 Calls prog 219 #[.slice A L.length c,.slice B M.length d] w (EG w (iB<|val L-val M) 0):=by
 have H1:=aum λw (h:Sl w A c L) (k:Sl w B d M)=>anu A B c d L M w h k aI aI hle;have HC:=aum λw (h:Sl w A c L) (k:Sl w B d M)=>Ms A B c d L M w h k aI aI;have hc:decide (kP (val L) (val M)<0)=false:=by
  apply bE;unfold kP;rw[bw aI];split<;>decide
 have hf:(iB<|val L-val M).length<=256:=b9 (wC<|en _ _)<|RH hs.ok h1;generalize val L-val M=v at *
 generalize kP (val L) (val M)=q at *
 clear hle;go_enter func219,ntmps219;go_wp2_with fail;refine(Z9 _ A B _ c _ d _ false (UK _ _ _ _ _ _ _) (UL _ _ _ _ _ _ _) aV).mono ?_;rintro e w' ⟨rfl,rfl⟩;go_wp2_with fail;refine(HC.out _ (hs.alloc _)<|hr.alloc _).mono ?_;rintro e w1 ⟨rfl,lu⟩;go_wp2_with fail;refine(H1.out _ ((hs.alloc _).below lu)<|(hr.alloc _).below lu).mono ?_;rintro e w' ⟨T,hv,hk,hl,A',c',rfl,oN,hb⟩;have ht:=aum<|adF hk hv;go_wp2_with fail;refine(Jg A' c' T _ oN<|by rw[ht.out];exact hf).mono ?_;rintro e w'' ⟨A'',c'',rfl,rP,oV⟩;rw[ht.out]at rP ⊢;go_wp2;go_ret2;exact⟨A'',c'',rfl,rP,(iY.alloc _ _).trans<|lu.trans<|hb.trans oV⟩
end
end Go.Proofs.YtbbefgegdllpmaaGreatDoor
namespace Go.Proofs.YtbbefgegdllpmaaGreatDoor.Fp
def mA(d:Dy):Dy:=if oC d then d else jK
def oh(d:Dy):Int:=if oC d then 0 else 9
section
variable{d:Dy}
def BL(h:oC d):mA d=d:=bA h
def GZ(h:oC d):oh d=0:=bA h
def OZ(h:¬oC d):mA d=jK:=bw h
def KQ(h:¬oC d):oh d=9:=bw h
def O3(h:d.mX):(mA d).iD:=by
 by_cases hr:oC d
 .rw [BL hr];exact⟨h,hr⟩
 .rw [OZ hr];exact ri
end
def S8{a b:Dy}(ha:a.m≠0)(hb:b.m≠0):jh a b=jh b a:=by
 unfold jh;rw[bw ha,bw hb,bw hb,bw ha,Int.min_comm,Int.add_comm]
section
variable{a b:Dy}(ha:a.iD)(hb:b.iD)(a0:a.m≠0)(b0:b.m≠0){k:Int}(hk:min a.e b.e=k)
def adr(h1:4097<a.jb-k)(h2:1<a.jb-b.jb):¬oC (jh a b):=by
 have hka:k<=a.e:= aI ;have QL:k<=b.e:= aI ;have m1:=KJ a0 hka;have m2:=KJ b0 QL;have ta:a.jb=iE a.m+a.e:=by unfold Dy.jb;rw[bw a0]
 have tb:b.jb=iE b.m+b.e:=by unfold Dy.jb;rw[bw b0]
 have ba:iE a.m<=4096:=by rcases ha.range with h|⟨h,_⟩;exact absurd h a0;exact h
 have jM:a.e≠k:= aI ;have Lx:b.e=k:= aI ;have oa:a.kg k%2=0:=by
  unfold Dy.kg;obtain⟨j,hj⟩:∃ j,(a.e-k).toNat=j+1:=⟨(a.e-k).toNat-1,aI⟩
  rw[hj,bV,<-bO,fV]
 have ob:b.kg k%2=1:=by
  unfold Dy.kg;rw[Lx,show(k-k).toNat=0 by omega,cH,cG];rcases hb.canon with⟨h,_,_⟩|h
  .exact absurd h b0
  .exact h
 have pa:=yg a0 k;obtain⟨p,hp⟩:∃ p,iE (a.kg k)=p+2:=⟨iE (a.kg k)-2,aI⟩
 have l1:=tu (aI:a.kg k≠0);have l2:=qL<|b.kg k;rw[hp,(aI:p+2-1=p+1),bV]at l1;have l3:2^iE (b.kg k)<=2^p:=bZ aK aI;have hz:(a.num k+b.num k).natAbs%2=1/\2^p<=(a.num k+b.num k).natAbs:=by
  unfold Dy.num;generalize a.kg k=x at *
  generalize b.kg k=y at *
  generalize 2^p=P at *
  split<;>split<;>omega
 unfold jh;rw[bw a0,bw b0,hk];unfold mz;generalize (a.num k+b.num k).natAbs=z at *
 generalize decide (a.num k+b.num k<0)=s at *
 have hc:canon s z k=⟨s,z,k⟩:=Dy.mX.BK (d:=⟨s,z,k⟩)<|.inr hz.1;rw[hc];have hb:=xr.2 hz.2;rintro(h|⟨h,_⟩)
 .simp only at h;omega
 .simp only at h;omega
def arO(h1:4097<max a.jb b.jb-k)(h2:1<a.jb-b.jb\/1<b.jb-a.jb):¬oC (jh a b):=by
 rcases h2 with h2|h2
 .exact adr ha hb a0 b0 hk aI h2
 .rw [S8 a0 b0];exact adr (k:=k) hb ha b0 a0 (by rw[Int.min_comm];exact hk) aI h2
def arQ(h:¬(4097<max a.jb b.jb-k/\(1<a.jb-b.jb\/1<b.jb-a.jb))):
 iE (a.m*2^(a.e-k).toNat)<=4097/\iE (b.m*2^(b.e-k).toNat)<=4097:=by
 have ta:a.jb=iE a.m+a.e:=by unfold Dy.jb;rw[bw a0]
 have tb:b.jb=iE b.m+b.e:=by unfold Dy.jb;rw[bw b0]
 have ba:iE a.m<=4096:=by rcases ha.range with h|⟨h,_⟩;exact absurd h a0;exact h
 have bb:iE b.m<=4096:=by rcases hb.range with h|⟨h,_⟩;exact absurd h b0;exact h
 rw[rJ a0,rJ b0];omega
end
def VF{x y n:Nat}(hx:iE x<=n)(hy:iE y<=n):iE (x+y)<=n+1:=by
 rw[lE]at *
 rw[bV];omega
def jy(m:Nat)(e:Int)(p:Nat):Nat:=(max (max ((iE m:Int)-p) (-16384-e)) 0).toNat
section
variable(m:Nat)(e:Int)(more:Bool)(p:Nat)(out:Bool)
def lF:Nat:=
 m/2^jy m e p+if out=true/\(more=true\/m%2^jy m e p≠0)then 1 else 0
def mQ:Bool:=
 decide (lF m e more p out≠0)&&decide (16384<(iE<|lF m e more p out:Int)+e+jy m e p)
end
section
variable(neg:Bool)(m:Nat)(e:Int)(more:Bool)(p:Nat)(up:Bool)
def j9:Dy:=
 if mQ m e more p (neg != up)=true then(if(neg != up)=true then jK else canon neg (2^p-1) (16384-p))else canon neg (lF m e more p<|neg != up) (e+jy m e p)
def jW:Int:=
 if(mQ m e more p (neg != up)&&(neg != up))=true then 9 else 0
end
def ah6{N d k:Nat}:(N/2^d%2^k≠0\/N%2^d≠0)↔N%2^(d+k)≠0:=by
 have e1:N%2^(d+k)=N%2^d+2^d*(N/2^d%2^k):=by rw[bG,gP]
 have hp:0<2^d:=bL aK;rw[e1];constructor
 .rintro (h|h)
  .have:=fB hp<|ep h;omega
  .omega
 .intro h;by_cases h1:N%2^d=0
  .left;intro h2;rw[h1,h2,cW]at h;exact h rfl
  .exact .inr h1
section
variable{N:Nat}{E:Int}{more:Bool}{d p:Nat}
def ahV(hb:p<iE (N/2^d)):
 jy (N/2^d) (E+d) p+d=jy N E p /\
 ∀ out,lF (N/2^d) (E+d) (more||decide (N%2^d≠0)) p out=lF N E more p out:=by
 have hN:d<iE N:=by
  apply cF;intro h;have h1:N<2^d:=lE.1 aI;rw[cI h1]at hb;simp[iE]at hb
 have xT:iE (N/2^d)+d=iE N:=by
  have h0:N/2^d≠0:=by intro h;rw[h]at hb;simp[iE]at hb
  have h1:=tu h0;have h2:=qL<|N/2^d;obtain⟨j,hj⟩:∃ j,iE (N/2^d)=j+1:=⟨iE (N/2^d)-1,aI⟩
  rw[hj]at h1 h2 ⊢;rw[eK,dO<|bL aK,<-bG]at h1;rw[cK<|bL aK,<-bG]at h2;have:=xM (k:=j+d) h1 (by rw[(aI:j+d+1=j+1+d)];exact h2);omega
 have hk:jy (N/2^d) (E+d) p+d=jy N E p:=by
  unfold jy;omega
 refine⟨hk,λout=>?_⟩;unfold lF;rw[<-hk];generalize jy (N/2^d) (E+d) p=k;have Qx:=@ah6 N d k;rw[(aI:k+d=d+k),dc,<-bG];congr 1;have:((more||decide (N%2^d≠0))=true\/N/2^d%2^k≠0)↔(more=true\/N%2^(d+k)≠0):=by
  rw[<-Qx];simp only[fj,dn];constructor
  .rintro ((h|h)|h)
   .exact .inl h
   .exact .inr<|.inr h
   .exact .inr<|.inl h
  .rintro (h|h|h)
   .exact .inl<|.inl h
   .exact .inr h
   .exact .inl<|.inr h
 by_cases ho:out=true
 .simp only[ho,true_and,this]
 .rw [bw λh=>ho h.1,bw λh=>ho h.1]
def KS(neg up:Bool)(hb:p<iE (N/2^d)):
 j9 neg (N/2^d) (E+d) (more||decide (N%2^d≠0)) p up=j9 neg N E more p up /\
 jW neg (N/2^d) (E+d) (more||decide (N%2^d≠0)) p up=jW neg N E more p up:=by
 obtain⟨hk,hq⟩:=ahV (more:=more) (E:=E) hb;have hq:=hq<|neg != up;have e1:E+(d:Int)+(jy (N/2^d) (E+d) p:Int)=E+(jy N E p:Int):= aI ;have e2:(iE<|lF N E more p<|neg != up:Int)+(E+(d:Int))+(jy (N/2^d) (E+d) p:Int)=(iE<|lF N E more p<|neg != up:Int)+E+(jy N E p:Int):= aI ;have ho:mQ (N/2^d) (E+d) (more||decide (N%2^d≠0)) p (neg != up)=mQ N E more p (neg != up):=by
  unfold mQ;rw[hq,e2]
 unfold j9 jW;rw[hq,ho,e1];exact⟨rfl,rfl⟩
end
def OR(s:Bool)(m:Nat)(e:Int)(j:Nat):canon s (m*2^j) (e-j)=canon s m e:=by
 by_cases h0:m=0
 .subst h0;rw[de];rfl
 .have h1:m*2^j≠0:=eN h0<|eO<|bL aK;obtain⟨q,hq,he⟩:=De h0;have hc:kq (m*2^j)=kq m+j:=by
   conv=>lhs;rw[he,bO,<-bG]
   exact AO hq _
  unfold canon;rw[bw h1,bw h0,hc,bG,bR<|2^kq m,<-dc,eB _<|bL aK];rw[(aI:e-(j:Int)+((kq m+j:Nat):Int)=e+(kq m:Int))]
def ahU(neg up:Bool)(N:Nat)(E:Int)(j p:Nat)(h0:N≠0):
 j9 neg (N*2^j) (E-j) false p up=j9 neg N E false p up/\jW neg (N*2^j) (E-j) false p up=jW neg N E false p up:=by
 have xT:=rJ h0 j;by_cases hk:jy N E p=0
 .
  have tL:jy (N*2^j) (E-j) p<=j:=by unfold jy at hk ⊢;rw[xT];omega
  obtain⟨i,hi⟩:∃ i,j=i+jy (N*2^j) (E-j) p:=⟨j-jy (N*2^j) (E-j) p,aI⟩
  generalize hK:jy (N*2^j) (E-j) p=k at *
  have hdiv:N*2^j/2^k=N*2^i:=by
   rw[hi,bG,<-bO,eB _<|bL aK]
  have QV:N*2^j%2^k=0:=by
   rw[hi,bG,<-bO];exact fV _ _
  have hq:∀ out,lF (N*2^j) (E-j) false p out=N*2^i:=λout=>by
   unfold lF;rw[hK,hdiv,QV];simp
  have xk:∀ out,lF N E false p out=N:=λout=>by
   unfold lF;rw[hk];simp[dz]
  have jM:N*2^i≠0:=eN h0<|eO<|bL aK;have ho:∀ out,mQ (N*2^j) (E-j) false p out=mQ N E false p out:=λout=>by
   unfold mQ;rw[hq,xk,hK,hk,rJ h0 i];simp only[dS,jM,h0,fi,gO,fk];rw[iz];omega
  unfold j9 jW;rw[ho,hq,xk,hK,hk];rw[(aI:E-(j:Int)+k=E+((0:Nat):Int)-(i:Int)),OR];exact⟨rfl,rfl⟩
 .have tL:jy (N*2^j) (E-j) p=jy N E p+j:=by unfold jy at hk ⊢;rw[xT];omega
  have hq:∀ out,lF (N*2^j) (E-j) false p out=lF N E false p out:=λout=>by
   unfold lF;rw[tL,bG,bR<|2^jy N E p,<-dc,eB _<|bL aK,bR N,apV];have:(2^j*(N%2^jy N E p)≠0)↔(N%2^jy N E p≠0):=by
    rw[dS,dS,atX];have:=bL (n:=j) (aK:0<2);omega
   simp only[this]
  have ho:∀ out,mQ (N*2^j) (E-j) false p out=mQ N E false p out:=λout=>by
   unfold mQ;rw[hq,tL];congr 2;rw[eq_iff_iff];omega
  unfold j9 jW;rw[ho,hq,tL];rw[(aI:E-(j:Int)+((jy N E p+j:Nat):Int)=E+(jy N E p:Int))];exact⟨rfl,rfl⟩
section
variable(d:Dy)(p:Nat)(up:Bool)
def kt:Dy:=j9 d.neg d.m d.e false p up
def kS:Int:=jW d.neg d.m d.e false p up
end
def acm(s up:Bool)(m:Nat)(e:Int)(p:Nat)(h0:m≠0):
 kt (canon s m e) p up=j9 s m e false p up/\kS (canon s m e) p up=jW s m e false p up:=by
 have hm:=KY h0;have hq:m/2^kq m≠0:=by have:=FQ h0;omega
 have h:=ahU s up (m/2^kq m) (e+kq m) (kq m) p hq;rw[hm,(aI:e+(kq m:Int)-(kq m:Int)=e)]at h;unfold kt kS canon;rw[bw h0];exact⟨h.1.symm,h.2.symm⟩
def EM{s:Bool}{m:Nat}{e:Int}(h0:m≠0):(iE (canon s m e).m:Int)+(canon s m e).e=iE m+e/\e<=(canon s m e).e/\(canon s m e).m≠0/\iE (canon s m e).m<=iE m:=by
 have hm:=KY h0;have hq:m/2^kq m≠0:=by have:=FQ h0;omega
 have h:=rJ hq<|kq m;rw[hm]at h;unfold canon;rw[bw h0];simp only;exact⟨aI,aI,hq,aI⟩
def WE(m:Nat)(e:Int)(p:Nat):m/2^jy m e p<2^p:=by
 rw[cK<|bL aK,<-bG];refine lE.1 ?_;unfold jy;omega
def afS{s:Bool}{q p:Nat}{e:Int}(h:q<=2^p)(hp:1<=p):iE (canon s q e).m<=p:=by
 by_cases h0:q=0
 .subst h0;exact cA _
 .by_cases h1:q=2^p
  .have hc:kq q=p:=by rw[h1];have:=AO (m:=1) rfl p;rwa[cj]at this
   unfold canon;rw[bw h0,hc,h1,Nat.div_self<|bL aK];exact b9 (lE.2<|show 1<2^1 by decide) hp
  .exact b9 (EM h0).2.2.2<|lE.2 aI
def Wt(m:Nat)(e:Int)(more:Bool)(p:Nat)(out:Bool):lF m e more p out<=2^p:=by
 have:=WE m e p;unfold lF;split<;>omega
def nj(neg:Bool)(m:Nat)(e:Int)(more:Bool)(p:Nat)(up:Bool)(hp:1<=p:=by omega)(iJ:p<=4096:=by omega):(j9 neg m e more p up).iD:=by
 unfold j9;by_cases ho:mQ m e more p (neg != up)=true
 .rw [bA ho];by_cases hn:(neg != up)=true
  .rw [bA hn];exact ri
  .rw [bw hn];have qq:2<=2^p:=by
    have:=bZ (n:=2) aK hp;omega
   have h0:2^p-1≠0:= aI ;have hb:iE (2^p-1)=p:=by
    obtain⟨j,rfl⟩:∃ j,p=j+1:=⟨p-1,aI⟩
    have h2:2^(j+1)=2^j*2:=bV _ _;have h3:=bL (n:=j) (aK:0<2);exact xM aI aI 
   obtain⟨h1,h2,h3,h4⟩:=EM (s:=neg) (e:=(16384:Int)-p) h0;have h5:=og h3;exact⟨sG _ _ _,.inr ⟨aI,aI,aI,aI⟩⟩
 .rw [bw ho];refine⟨sG _ _ _,?_⟩;by_cases h0:lF m e more p (neg != up)=0
  .rw [h0];exact .inl rfl
  .have hq:=afS (s:=neg) (e:=e+(jy m e p:Int)) (Wt m e more p<|neg != up) hp;obtain⟨h1,h2,h3,h4⟩:=EM (s:=neg) (e:=e+(jy m e p:Int)) h0;have h5:=og h3;have h6:-16384<=e+(jy m e p:Int):=by unfold jy;omega
   unfold mQ at ho;simp only[dS,h0,fi,gO,fk,dn]at ho;exact .inr ⟨aI,aI,aI,aI⟩
def Hf{neg:Bool}{m:Nat}{e:Int}{more:Bool}{p:Nat}{up:Bool}:jW neg m e more p up=0↔¬(mQ m e more p (neg != up)=true/\(neg != up)=true):=by
 unfold jW;cases mQ m e more p (neg != up)<;>cases(neg != up)<;>simp
def Wv(neg:Bool)(m:Nat)(e:Int)(more:Bool)(p:Nat)(h1:jW neg m e more p false=0)(h2:jW neg m e more p true=0):
 jI (j9 neg m e more p false) (j9 neg m e more p true)<=0:=by
 have pT:¬mQ m e more p true=true:=by
  cases neg
  .rw [Hf]at h2;simpa using h2
  .rw [Hf]at h1;simpa using h1
 have hle:lF m e more p false<=lF m e more p true:=by
  unfold lF;simp only[cz,false_and,bN];omega
 have nx:¬mQ m e more p false=true:=by
  unfold mQ at pT ⊢;intro h;apply pT;simp only[cr,dn]at h ⊢;have:=ub hle;exact⟨aI,aI⟩
 have key:∀ o:Bool,¬mQ m e more p o=true:=λo=>by cases o;exact nx;exact pT
 unfold j9;rw[bw<|key _,bw<|key _];rw[ER (k:=e+(jy m e p:Int)) (BH<|cO _)<|BH<|cO _,Ea<|cO _,Ea<|cO _];rw[show(e+(jy m e p:Int)-(e+(jy m e p:Int))).toNat=0 by omega];simp only[cH,cG];unfold yE;cases neg
 .simp only[cz,bN,Bool.false_bne];split
  .decide
  .split<;>omega
 .simp only[bW,Bool.true_bne,fe,fX];split
  .decide
  .split<;>omega
def nN(b:Dy)(lf:Int):Nat:=if lf<=b.e then b.m*2^(b.e-lf).toNat else b.m/2^(lf-b.e).toNat
def oD(b:Dy)(lf:Int):Bool:=decide (¬lf<=b.e)&&decide (b.m%2^(lf-b.e).toNat≠0)
section
variable{a b:Dy}(ha:a.mX)(hb:b.mX){K:Int}(h1:K<=a.e)(h2:K<=b.e)
def adl:jh a b=mz (a.num K+b.num K) K:=by
 refine Pm (k:=K) (Db ha hb) (sG _ _ _) (Kq (.inr h1)<|.inr h2) (Ol<|cO _) ?_;rw[No (.inr h1)<|.inr h2,RW<|cO _,show(K-K).toNat=0 by omega];simp
def M3(s:Bool)(Z:Nat)(h0:Z≠0)(hz:a.num K+b.num K=if s then -(Z:Int)else(Z:Int))(p:Nat)(up:Bool):
 kt (jh a b) p up=j9 s Z K false p up/\kS (jh a b) p up=jW s Z K false p up:=by
 have:jh a b=canon s Z K:=by rw[adl ha hb h1 h2,hz,KL]
 rw[this];exact acm s up Z K p h0
end
def Mz(d:Dy)(K:Int):d.num K=if d.neg then -(d.kg K:Int)else(d.kg K:Int):=rfl
section
variable {a b:Dy} {lf:Int} {p:Nat}
def SM(a0:a.m≠0)(b0:b.m≠0)(h1:lf<=a.e)(h2:lf<=a.jb-p-8)(h3:lf<=b.e\/3<=a.jb-b.jb):
 ∃ (K:Int) (d:Nat),K<=a.e/\K<=b.e/\lf=K+d/\a.kg K=a.m*2^(a.e-lf).toNat*2^d/\nN b lf=b.kg K/2^d/\(oD b lf=decide (b.kg K%2^d≠0)) /\
  (d=0\/(p+8<=iE (a.m*2^(a.e-lf).toNat)/\iE (b.kg K/2^d)+3<=iE (a.m*2^(a.e-lf).toNat))):=by
 have ta:a.jb=iE a.m+a.e:=by unfold Dy.jb;rw[bw a0]
 have tb:b.jb=iE b.m+b.e:=by unfold Dy.jb;rw[bw b0]
 have hx:=rJ a0 (a.e-lf).toNat
 by_cases h:lf<=b.e
 .refine ⟨lf,0,h1,h,aI,by unfold Dy.kg;simp,?_,?_,.inl rfl⟩
  .unfold nN Dy.kg;rw[bA h];simp
  .unfold oD;simp[h,dz]
 .refine ⟨b.e,(lf-b.e).toNat,aI,cO _,aI,?_,?_,?_,.inr ⟨aI,?_⟩⟩
  .unfold Dy.kg;rw[bO,<-bG];congr 2;omega
  .unfold nN Dy.kg;rw[bw h];simp
  .unfold oD Dy.kg;simp[h]
  .have hm:b.kg b.e=b.m:=by unfold Dy.kg;simp
   rw[hm];have hd:iE (b.m/2^(lf-b.e).toNat)<=iE b.m-(lf-b.e).toNat:=by
    rw[lE,cK<|bL aK,<-bG];exact lE.1 aI 
   have:=h3.resolve_left h;omega
def aqO(ha:a.mX)(hb:b.mX)(a0:a.m≠0)(b0:b.m≠0)(h1:lf<=a.e)(h2:lf<=a.jb-p-8)(h3:lf<=b.e\/3<=a.jb-b.jb)(hs:a.neg=b.neg)(up:Bool):
 j9 a.neg (a.m*2^(a.e-lf).toNat+nN b lf) lf (oD b lf) p up=kt (jh a b) p up/\jW a.neg (a.m*2^(a.e-lf).toNat+nN b lf) lf (oD b lf) p up=kS (jh a b) p up:=by
 obtain⟨K,d,k1,k2,rfl,hx,hy,hl,hd⟩:=SM (p:=p) a0 b0 h1 h2 h3;generalize a.m*2^(a.e-(K+d)).toNat=x at *
 have ma:=yg a0 K;have mb:=yg b0 K;obtain⟨r1,r2⟩:=M3 ha hb k1 k2 a.neg (a.kg K+b.kg K) aI (by
  rw[Mz a,Mz b,<-hs];cases a.neg<;>simp<;>omega) p up
 rw[r1,r2,hy,hl];have e1:(a.kg K+b.kg K)/2^d=x+b.kg K/2^d:=by
  rw[hx,bR x,ef<|bL aK]
 have e2:(a.kg K+b.kg K)%2^d=b.kg K%2^d:=by
  rw[hx,bR x,eD]
 rcases hd with rfl|⟨rO,ug⟩
 .simp only[cH,ew,dz]at e1 ⊢;rw[<-e1];have:K+((0:Nat):Int)=K:= aI ;rw[this];simp
 .have hb:p<iE ((a.kg K+b.kg K)/2^d):=by
   rw[e1];have:=ub (aI:x<=x+b.kg K/2^d);omega
  have h:=KS (E:=K) (more:=false) a.neg up hb;rw[e1,e2,asb]at h;exact h
def arL{x N D:Nat}(hD:0<D)(h:N<=x*D):(x*D-N)/D=x-(N/D+if N%D≠0 then 1 else 0)/\((x*D-N)%D≠0↔N%D≠0)/\N/D+(if N%D≠0 then 1 else 0)<=x:=by
 have hN:=cN N D;have hr:=bQ N hD;generalize N/D=q at *
 generalize N%D=r at *
 by_cases h0:r=0
 .subst h0;simp only[dS,atI,bN,ch]at hN ⊢;have hq:q<=x:=by
   apply cF;intro h';have:=cC D (aI:x+1<=q);rw[ca,bR q]at this;omega
  have e:x*D-N=(x-q)*D:=by rw[Nat.sub_mul,<-hN,bR q]
  rw[e,eB _ hD,fV];exact⟨rfl,aP,hq⟩
 .have hq:q+1<=x:=by
   apply cF;intro h';have:=cC D (aI:x<=q);rw[bR q]at this;omega
  have e:x*D-N=(D-r)+D*(x-(q+1)):=by
   have h1:D*(x-(q+1))=D*x-D*(q+1):=Nat.mul_sub _ _ _;have h2:D*(q+1)<=D*x:=cT _ hq;rw[ct,cG]at h1 h2;rw[bR x];omega
  have je:D-r<D:= aI ;rw[e,fS _ _ hD,cI je,eW,cw je];simp only[dS,h0,fi,bW];exact⟨aI,⟨λ_=>trivial,λ_=> aI⟩,hq⟩
def aqN(ha:a.mX)(hb:b.mX)(a0:a.m≠0)(b0:b.m≠0)(h1:lf<=a.e)(h2:lf<=a.jb-p-8)(h3:lf<=b.e\/3<=a.jb-b.jb)(hs:a.neg≠b.neg)(up:Bool):
  (a.m*2^(a.e-lf).toNat<nN b lf+(if oD b lf=true then 1 else 0) ->
   j9 (!a.neg) (nN b lf+(if oD b lf=true then 1 else 0)-a.m*2^(a.e-lf).toNat) lf false p up=kt (jh a b) p up/\jW (!a.neg) (nN b lf+(if oD b lf=true then 1 else 0)-a.m*2^(a.e-lf).toNat) lf false p up=kS (jh a b) p up) /\
  (nN b lf+(if oD b lf=true then 1 else 0)<=a.m*2^(a.e-lf).toNat ->
   (a.m*2^(a.e-lf).toNat-(nN b lf+(if oD b lf=true then 1 else 0))=0/\oD b lf=false->jh a b=jK) /\
   (¬(a.m*2^(a.e-lf).toNat-(nN b lf+(if oD b lf=true then 1 else 0))=0/\oD b lf=false) ->
    j9 a.neg (a.m*2^(a.e-lf).toNat-(nN b lf+(if oD b lf=true then 1 else 0))) lf (oD b lf) p up=kt (jh a b) p up/\jW a.neg (a.m*2^(a.e-lf).toNat-(nN b lf+(if oD b lf=true then 1 else 0))) lf (oD b lf) p up=kS (jh a b) p up)):=by
 obtain⟨K,d,k1,k2,rfl,hx,hy,hl,hd⟩:=SM (p:=p) a0 b0 h1 h2 h3;generalize a.m*2^(a.e-(K+d)).toNat=x at *
 have ma:=yg a0 K;have mb:=yg b0 K;have LQ:a.num K+b.num K=if a.neg then(b.kg K:Int)-a.kg K else(a.kg K:Int)-b.kg K:=by
  rw[Mz a,Mz b];cases h:a.neg<;>cases h':b.neg<;>simp[h,h']at hs ⊢ <;> omega
 rw[hy,hl];rcases hd with rfl|⟨rO,ug⟩
 .
  rw[cH,cG]at hx;have e0:K+((0:Nat):Int)=K:= aI ;simp only[cH,ew,dz,dS,atI,decide_false,cz,bN,ch,e0,gl];refine⟨λje=>?_,λhle=>⟨λhz=>?_,λhz=>?_⟩⟩
  .obtain ⟨r1,r2⟩:=M3 ha hb k1 k2 (!a.neg) (b.kg K-x) aI (by
    rw[LQ,hx];cases a.neg<;>simp<;>omega) p up
   exact⟨r1.symm,r2.symm⟩
  .rw [adl ha hb k1 k2,LQ,hx];have:x=b.kg K:= aI ;rw[this];cases a.neg<;>simp[mz,canon,jK]
  .obtain ⟨r1,r2⟩:=M3 ha hb k1 k2 a.neg (x-b.kg K) aI (by
    rw[LQ,hx];cases a.neg<;>simp<;>omega) p up
   exact⟨r1.symm,r2.symm⟩
 .
  have hD:=bL (n:=d) (aK:0<2);have pU:x≠0:=by intro h;rw[h]at rO;simp[iE]at rO
  obtain⟨j,hj⟩:∃ j,iE x=j+3:=⟨iE x-3,aI⟩
  have vj:=tu pU;rw[hj,(aI:j+3-1=j+2),bG]at vj;have hyl:b.kg K/2^d<2^j:=lE.1 aI;have hle:b.kg K<=x*2^d:=by
   have h5:=cN (b.kg K)<|2^d;have h6:=bQ (b.kg K) hD;have h7:2^d*(b.kg K/2^d+1)<=2^d*x:=cT _ aI;rw[ct,cG,bR _ x]at h7;omega
  obtain⟨e1,e2,e3⟩:=arL hD hle;have hc:(if decide (b.kg K%2^d≠0)=true then 1 else 0)=(if b.kg K%2^d≠0 then 1 else 0):=by simp only[dn]
  rw[hc];have AT:p<iE (x-(b.kg K/2^d+if b.kg K%2^d≠0 then 1 else 0)):=by
   have h8:2^(j+1)<=x-(b.kg K/2^d+if b.kg K%2^d≠0 then 1 else 0):=by
    rw[bV];have h9:2^j*2^2<=x:=vj;have rM:=bL (n:=j) (aK:0<2);split<;>omega
   have:=xr.2 h8;omega
  refine⟨λje=> aI,λ_=>⟨λhz=>?_,λ_=>?_⟩⟩
  .exfalso;rw[hz.1]at AT;simp[iE]at AT
  .obtain ⟨r1,r2⟩:=M3 ha hb k1 k2 a.neg (a.kg K-b.kg K) (by
    intro h;rw[<-hx,h,fL]at e1;rw[<-e1]at AT;simp[iE]at AT) (by
    rw[LQ];cases a.neg<;>simp<;>omega) p up
   rw[r1,r2,hx];rw[<-e1]at AT ⊢;have h:=KS (E:=K) (more:=false) a.neg up AT;rw[asb]at h;have e4:decide ((x*2^d-b.kg K)%2^d≠0)=decide (b.kg K%2^d≠0):=iz.2 e2;rw[e4]at h;exact h
end
def jF(m:Nat)(e:Int)(p:Nat):Int:=max (e+iE m-p) (-16384)
def oJ(m:Nat)(e:Int)(more:Bool)(p:Nat)(up:Bool):Nat:=
 if jF m e p<=e then m*2^(e-jF m e p).toNat else m/2^(jF m e p-e).toNat+if(up&&(more||decide (m%2^(jF m e p-e).toNat≠0)))=true then 1 else 0
section
variable{m:Nat}{e:Int}{more:Bool}{p:Nat}
def Ws(up:Bool)(h0:m≠0)(hm:more=true->p<iE m)(hp:1<=p):
 (iE<|oJ m e more p up:Int)+jF m e p<=16384/\j9 false m e more p up=canon false (oJ m e more p up) (jF m e p)/\jW false m e more p up=0 \/
 16384<(iE<|oJ m e more p up:Int)+jF m e p/\((up=true/\j9 false m e more p up=jK/\jW false m e more p up=9)\/(up=false/\j9 false m e more p up=canon false (2^p-1) (16384-p)/\jW false m e more p up=0)):=by
 have pT:(false != up)=up:=by cases up<;>rfl
 by_cases hU:jF m e p<=e
 .
  have hmf:more=false:=by
   cases QW:more with
   |false=>rfl
   |true=>have:=hm QW;unfold jF at hU;omega
  subst hmf;have hK:jy m e p=0:=by unfold jF at hU;unfold jy;omega
  have hQ:lF m e false p up=m:=by unfold lF;rw[hK];simp[dz]
  have hP:oJ m e false p up=m*2^(e-jF m e p).toNat:=by unfold oJ;rw[bA hU]
  have hb:iE (oJ m e false p up)=iE m+(e-jF m e p).toNat:=by rw[hP];exact rJ h0 _
  have hc:canon false (oJ m e false p up) (jF m e p)=canon false m e:=by
   rw[hP];have:=OR false m e (e-jF m e p).toNat
   rwa[(aI:e-((e-jF m e p).toNat:Int)=jF m e p)]at this
  have hO:mQ m e false p up=decide (16384<(iE m:Int)+e):=by
   unfold mQ;rw[hQ,hK];simp[h0]
  by_cases wq:16384<(iE m:Int)+e
  .refine .inr ⟨aI,?_⟩;unfold j9 jW;rw[pT,hO,bC wq];cases up
   .exact .inr ⟨rfl,rfl,rfl⟩
   .exact .inl ⟨rfl,rfl,rfl⟩
  .refine .inl ⟨aI,?_,?_⟩
   .unfold j9;rw[pT,hO,bE wq,bw aK,hQ,hK,hc];simp
   .unfold jW;rw[pT,hO,bE wq];simp
 .have hK:jy m e p=(jF m e p-e).toNat:=by unfold jF at hU ⊢;unfold jy;omega
  have hQ:lF m e more p up=oJ m e more p up:=by
   unfold lF oJ;rw[bw hU,hK];congr 1;cases up<;>cases more<;>simp
  have heK:e+(jy m e p:Int)=jF m e p:=by rw[hK];omega
  have jM:16384<(iE<|oJ m e more p up:Int)+jF m e p->oJ m e more p up≠0:=by
   intro h hz;have qU:m/2^(jF m e p-e).toNat=0:=by
    unfold oJ at hz;rw[bw hU]at hz;exact(Nat.add_eq_zero_iff.1 hz).1
   have je:m<2^(jF m e p-e).toNat:=by
    rcases Nat.div_eq_zero_iff.1 qU with h|h
    .exact absurd h<|eO<|bL aK
    .exact h
   have:=lE.2 je;rw[hz,tE]at h;have qI:=og h0;unfold jF at h hU this;omega
  have hO:mQ m e more p up=decide (16384<(iE<|oJ m e more p up:Int)+jF m e p):=by
   unfold mQ;rw[hQ,show(iE<|oJ m e more p up:Int)+e+(jy m e p:Int)=(iE<|oJ m e more p up:Int)+jF m e p by omega];by_cases wq:16384<(iE<|oJ m e more p up:Int)+jF m e p
   .simp [jM wq]
   .simp [wq]
  by_cases wq:16384<(iE<|oJ m e more p up:Int)+jF m e p
  .refine .inr ⟨wq,?_⟩;unfold j9 jW;rw[pT,hO,bC wq];cases up
   .exact .inr ⟨rfl,rfl,rfl⟩
   .exact .inl ⟨rfl,rfl,rfl⟩
  .refine .inl ⟨aI,?_,?_⟩
   .unfold j9;rw[pT,hO,bE wq,bw aK,hQ,heK]
   .unfold jW;rw[pT,hO,bE wq];simp
def Wr{up:Bool}(h0:m≠0):iE (oJ m e more p up)<=p+1:=by
 unfold oJ;split
 .rename_i h;rw[rJ h0];unfold jF at h ⊢;omega
 .rename_i h;have h1:m/2^(jF m e p-e).toNat<2^p:=by
   rw[cK<|bL aK,<-bG];refine lE.1 ?_;unfold jF at h ⊢;omega
  refine lE.2 ?_;rw[bV];have:0<2^p:=bL aK;split<;>omega
end
def nJ{m k:Nat}(h:iE m<=32*k:=by omega):(iB m).length<=k:=by
 refine sR ?_;rw[oz];exact lE.1 h
def zG{m k:Nat}(h:(iB m).length<=k):iE m<=32*k:=by
 have:=wF h;rw[oz]at this;exact lE.2 this
def WH{m n:Nat}(h:iE m<=n):m/2^n=0/\m%2^n=m:=by
 have:=lE.1 h;exact⟨cI this,cw this⟩
def aad(m n:Nat):(kP (m/2^n*2^n) m != 0)=decide (m%2^n≠0):=by
 have h:=cN m<|2^n;rw[bR]at h;unfold kP;by_cases h0:m%2^n=0
 .rw [bw aI,bw aI];simp[h0]
 .rw [bA aI];simp[h0]
def Wy(neg:Bool)(m:Nat)(e:Int)(more:Bool)(p:Nat)(up:Bool):
 jW neg m e more p up=jW false m e more p (up != neg) /\
 (jW false m e more p (up != neg)=0->neg=true->jl (j9 false m e more p<|up != neg)=j9 neg m e more p up) /\
 ((jW false m e more p (up != neg)≠0\/neg=false)->j9 false m e more p (up != neg)=j9 neg m e more p up):=by
 have pT:(false != (up != neg))=(neg != up):=by cases up<;>cases neg<;>rfl
 have hE:jW neg m e more p up=jW false m e more p (up != neg):=by unfold jW;rw[pT]
 refine⟨hE,λh hn=>?_,λh=>?_⟩
 .have h':=Hf.1 h;rw[pT]at h';have neg_canon:∀ q u,jl (canon false q u)=canon true q u:=by
   intro q u;unfold canon jl;by_cases hq:q=0
   .simp [hq]
   .rw [bw hq,bw hq];have:=FQ hq;have h0:q/2^kq q≠0:= aI ;simp[h0]
  subst hn;unfold j9;rw[pT];by_cases ho:mQ m e more p (true != up)=true
  .have hu:(true != up)=false:=by
    cases hq:(true != up)with
    |false=>rfl
    |true=>exact absurd ⟨ho,hq⟩ h'
   rw[bA ho,bA ho,hu];simp only[cz,bN];exact neg_canon _ _
  .rw [bw ho,bw ho];exact neg_canon _ _
 .rcases h with h|h
  .have h1:mQ m e more p (neg != up)=true/\(neg != up)=true:=by
    by_cases q:mQ m e more p (neg != up)=true/\(neg != up)=true
    .exact q
    .exact absurd (Hf.2<|by rw[pT];exact q) h
   unfold j9;rw[pT,bA h1.1,bA h1.2,bA h1.1,bA h1.2]
  .subst h;cases up<;>rfl
section
variable(a b:Dy)(p:Nat)
def jJ:Int:=if a.jb-b.jb<=2 then min (min a.e<|a.jb-p-8) b.e else min a.e (a.jb-p-8)
def oR:Nat:=a.m*2^(a.e-jJ a b p).toNat
def nM:Nat:=nN b (jJ a b p)+if(a.neg != b.neg&&oD b (jJ a b p))=true then 1 else 0
def qu:Bool:=(a.neg != b.neg)&&decide (oR a b p<nM a b p)
def mU:Nat:=if a.neg=b.neg then oR a b p+nM a b p else if oR a b p<nM a b p then nM a b p-oR a b p else oR a b p-nM a b p
def oj:Bool:=oD b (jJ a b p) && !qu a b p
def SI:jJ a b p<=a.e/\jJ a b p<=a.jb-p-8/\(jJ a b p<=b.e\/3<=a.jb-b.jb):=by
 unfold jJ;split<;>omega
end
def JT{a:Dy}(a0:a.m≠0):a.jb=iE a.m+a.e:=by unfold Dy.jb;rw[bw a0]
structure aes(a b:Dy)(p:Nat):Prop where
 lo:-17000<=jJ a b p
 hi:jJ a b p<=16384
 x:iE (oR a b p)<=4100
 x0:oR a b p≠0
 sh:(a.e-jJ a b p).toNat<=60000
 sh2:(b.e-jJ a b p).toNat<=60000
 sh3:(jJ a b p-b.e).toNat<=60000
 y:iE (nN b<|jJ a b p)<=4100
 l:oD b (jJ a b p)=true->p+8<=iE (oR a b p)/\iE (nN b<|jJ a b p)+3<=iE (oR a b p)
section
variable{a b:Dy}{p:Nat}(ha:a.iD)(hb:b.iD)(a0:a.m≠0)(b0:b.m≠0)
section
variable(ht:b.jb<=a.jb)(iJ:p<=512)
def Nq:aes a b p:=by
 have ra:=ha.range.resolve_left a0;have rb:=hb.range.resolve_left b0;have ta:=JT a0;have tb:=JT b0;obtain⟨h1,h2,h3⟩:=SI a b p;have hx:iE (oR a b p)=iE a.m+(a.e-jJ a b p).toNat:=rJ a0 _;have BZ:jJ a b p=a.e\/jJ a b p=a.jb-p-8\/(a.jb-b.jb<=2/\jJ a b p=b.e):=by unfold jJ;split<;>omega
 have hy:iE (nN b<|jJ a b p)<=iE (oR a b p):=by
  unfold nN;split
  .rw [rJ b0];omega
  .have:iE (b.m/2^(jJ a b p-b.e).toNat)<=iE b.m-(jJ a b p-b.e).toNat:=by
    rw[lE,cK<|bL aK,<-bG];exact lE.1 aI 
   omega
 have pa:=og a0;have pb:=og b0;refine⟨aI,aI,aI,?_,aI,aI,aI,aI,λhl=>?_⟩
 .intro h;unfold oR at h;exact(eN a0<|eO<|bL aK) h
 .obtain ⟨K,d,k1,k2,k3,k4,k5,k6,k7⟩:=SM (p:=p) a0 b0 h1 h2 h3;rcases k7 with rfl|⟨k7,k8⟩
  .rw [k6]at hl;simp[dz]at hl
  .rw [k5];exact⟨k7,k8⟩
def Ta:
 iE (nM a b p)<=4101/\iE (mU a b p)<=4102/\(oj a b p=true->p<iE (mU a b p)):=by
 obtain⟨l1,l2,l3,l4,l5,l6,l7,l8,l9⟩:=Nq ha hb a0 b0 ht iJ;have hy:nM a b p<=nN b (jJ a b p)+1:=by unfold nM;split<;>omega
 obtain⟨K,hK⟩:∃ K:Nat,K=4100:=⟨_,rfl⟩
 have g1:4101=K+1:= aI ;have g2:4102=K+2:= aI ;rw[g1,g2];rw[<-hK]at l3 l8;have hy4:nN b (jJ a b p)<2^K:=lE.1 l8;have hx4:oR a b p<2^K:=lE.1 l3;have e1:(2:Nat)^(K+1)=2*2^K:=by rw[bV];omega
 have e2:(2:Nat)^(K+2)=4*2^K:=by rw[bG];omega
 generalize (2:Nat)^K=Z at *
 refine⟨lE.2 aI,lE.2 ?_,λhl=>?_⟩
 .unfold mU;split
  .omega
  .split<;>omega
 .unfold oj at hl;simp only[cr,eU]at hl;obtain⟨q1,q2⟩:=l9 hl.1;have hX:2^(iE (oR a b p)-1)<=oR a b p:=tu l4;rw[xr];have hY:nN b (jJ a b p)<2^(iE (oR a b p)-3):=lE.1 aI;have e3:(2:Nat)^(iE (oR a b p)-1)=4*2^(iE (oR a b p)-3):=by
   rw[(aI:iE (oR a b p)-1=(iE (oR a b p)-3)+2),bG];omega
  have hp:(2:Nat)^p<=2^(iE (oR a b p)-3):=bZ aK aI;unfold mU;split
  .omega
  .rename_i hs;unfold qu at hl;rw[bw (by
    have:=hl.2;simp[hs]at this;omega)]
   omega
end
def ads(up:Bool):
 (mU a b p=0/\oj a b p=false->jh a b=jK) /\
 (¬(mU a b p=0/\oj a b p=false)->j9 (a.neg != qu a b p) (mU a b p) (jJ a b p) (oj a b p) p up=kt (jh a b) p up/\jW (a.neg != qu a b p) (mU a b p) (jJ a b p) (oj a b p) p up=kS (jh a b) p up):=by
 obtain⟨h1,h2,h3⟩:=SI a b p;by_cases hs:a.neg=b.neg
 .have hn:(a.neg != b.neg)=false:=by rw[hs];simp
  have e1:qu a b p=false:=by unfold qu;rw[hn];rfl
  have e2:oj a b p=oD b (jJ a b p):=by unfold oj;rw[e1];simp
  have e3:mU a b p=a.m*2^(a.e-jJ a b p).toNat+nN b (jJ a b p):=by unfold mU;rw[bA hs];unfold oR nM;rw[hn];simp
  have hx:mU a b p≠0:=by
   rw[e3];have:=eN a0 (eO<|bL (n:=(a.e-jJ a b p).toNat)<|show 0<2 by decide);omega
  refine⟨λh=>absurd h.1 hx,λ_=>?_⟩;rw[e1,e2,e3];have:=aqO ha.canon hb.canon a0 b0 h1 h2 h3 hs up;cases hA:a.neg<;>rw[hA]at this<;>exact this
 .have hn:(a.neg != b.neg)=true:=by simpa using hs
  have eY:nM a b p=nN b (jJ a b p)+if oD b (jJ a b p)=true then 1 else 0:=by unfold nM;rw[hn];simp
  obtain⟨r1,r2⟩:=aqN (p:=p) ha.canon hb.canon a0 b0 h1 h2 h3 hs up;rw[<-eY]at r1 r2;change oR a b p<nM a b p->_ at r1;change nM a b p<=oR a b p->_ at r2;by_cases hc:oR a b p<nM a b p
  .have e1:qu a b p=true:=by unfold qu;rw[hn,bC hc];rfl
   have e2:oj a b p=false:=by unfold oj;rw[e1];simp
   have e3:mU a b p=nM a b p-oR a b p:=by unfold mU;rw[bw hs,bA hc]
   rw[e1,e2,e3];refine⟨λh=> aI,λ_=>?_⟩;have:=r1 hc;cases hA:a.neg<;>rw[hA]at this<;>exact this
  .have e1:qu a b p=false:=by unfold qu;rw[hn,bE hc];rfl
   have e2:oj a b p=oD b (jJ a b p):=by unfold oj;rw[e1];simp
   have e3:mU a b p=oR a b p-nM a b p:=by unfold mU;rw[bw hs,bw hc]
   rw[e1,e2,e3];obtain⟨q1,q2⟩:=r2 aI;refine⟨q1,λh=>?_⟩;have:=q2 h;cases hA:a.neg<;>rw[hA]at this<;>exact this
end
end Go.Proofs.YtbbefgegdllpmaaGreatDoor.Fp
namespace Go.Proofs.YtbbefgegdllpmaaGreatDoor
open Go.RowKit Fp
def VH(a b:Nat):iE (a*b)<=iE a+iE b:=by
 rw[lE,bG];exact iy (qL a)<|qL b
section
variable(a:Dy)(A:Option Addr)(c:Nat)(w:World)(h:Sl w A c<|iB a.m)
def aqp(ha:a.iD):
 Calls prog 101 #[DV a A c] w λe w'=>e = .returned (.bool true)/\iY w w':=
 MV a.neg A c (iB a.m) a.e w true h (by have:=ha.exp;omega) (by have:=ha.exp;omega) (by simp[ha.yH])
def aqk:
 Calls prog 135 #[DV a A c] w λe w'=>e = .returned (.int .i64 a.jB)/\iY w w':=by
 have:=aqj a.neg A c (iB a.m) a.e w h<|Av _;rw[kE]at this;exact this
def aqn(ha:xH a):
 Calls prog 141 #[DV a A c] w λe w'=>e = .returned (.int .i64 a.jb)/\iY w w':=by
 have:=aqm a.neg A c (iB a.m) a.e w h (Av _) (by have:=ha.len;omega) (by have:=ha.lo;omega) (by have:=ha.hi;omega);rw[kE]at this;exact this
end
def ahq(d:Dy)(A:Option Addr)(c:Nat)(w:World)(hs:Sl w A c<|iB d.m)(hl:(iB d.m).length<=100000000)(lG:-10000000<=d.e)(kW:d.e<=10000000):
 Calls prog 120 #[DV d A c] w (AG w (mA d)<|oh d):=by
 by_cases hd:oC d
 .rw [BL hd,GZ hd];exact V7 d A c w hs hl lG kW hd
 .rw [OZ hd,KQ hd];exact ahr d A c w hs hl lG kW hd
section
variable(s:Bool)(m:Nat)(e:Int)
def AM{n:Nat}(hm:(iB m).length<=n):(iB (canon s m e).m).length<=n/\e<=max (canon s m e).e e/\((canon s m e).e<=max 0 (e+32*n))/\min 0 e<=(canon s m e).e:=by
 unfold canon;by_cases h0:m=0
 .rw [bA h0];simp only[oP];exact⟨cA _,aI,aI,aI⟩
 .rw [bw h0];have h1:kq m<32*n:=by
   have h1:=Jv h0;have h2:=wF hm;rw[oz]at h2;exact(atE (aK:1<2)).1<|dh h1 h2
  exact⟨b9 (wC<|cM _ _) hm,aI,by simp only;omega,by simp only;omega⟩
def VV(A:Option Addr)(c:Nat)(w:World)(hs:Sl w A c<|iB m)(hl:(iB m).length<=256)(lG:-1000000<=e)(kW:e<=1000000)(s7:Tb w):
 Calls prog 121 #[.bool s,.slice A (iB m).length c,.int .i64 e] w (vv w<|canon s m e):=by
 have:=K2 s A c (iB m) e w hs aI (by have:=pV<|iB m;unfold mV at this;omega) lG kW s7;rw[kE]at this;exact this
end
def aaV{m:Nat}(h:m=0):(((iB m).length:Int)==0)=true:=by rw[h,oP];rfl
def aos{m:Nat}(h:m≠0):(((iB m).length:Int)==0)=false:=by
 refine bk ?_;have:iB m≠[]:=λe=>h<|Z5.1 e
 have:=fm.2 this;omega
def asY(a b:Dy)(A B:Option Addr)(c d:Nat)(w:World)(_hs:Sl w A c<|iB a.m)(hr:Sl w B d<|iB b.m)(s7:Tb w)(hb:b.iD)(h0:a.m=0):
 Calls prog 183 #[DV a A c,DV b B d] w (AG w (mA<|jh a b)<|oh<|jh a b):=by
 have FB:jh a b=b:=by unfold jh;rw[bA h0]
 rw[FB,BL hb.range,GZ hb.range];have hl:=hb.len;obtain⟨lG,kW⟩:=hb.exp;have HC:=aum λw (h:Sl w B d<|iB b.m) (ht:Tb w)=>VV b.neg b.m b.e B d w h hl aI aI ht;rw[hb.canon.BK]at HC;have n0:=aaV h0;clear FB h0;have hE:=((iY.alloc w<|.cells #[.bool b.neg,.slice B ((iB b.m).length) d,.int .i64 b.e] 31).trans<|iY.alloc (w.alloc<|.cells #[.bool b.neg,.slice B ((iB b.m).length) d,.int .i64 b.e] 31)<|.cells #[.bool b.neg,.slice B ((iB b.m).length) d,.int .i64 b.e] 31).trans<|iY.alloc ((w.alloc<|.cells #[.bool b.neg,.slice B ((iB b.m).length) d,.int .i64 b.e] 31).alloc<|.cells #[.bool b.neg,.slice B ((iB b.m).length) d,.int .i64 b.e] 31)<|.cells #[.bool false,.slice none 0 0,.int .i64 0] 31;have b1:=((jO.ux (W:=w) (g:=w.heap.size) aP b.neg B ((iB b.m).length) d b.e).alloc<|.cells #[.bool b.neg,.slice B ((iB b.m).length) d,.int .i64 b.e] 31).alloc<|.cells #[.bool false,.slice none 0 0,.int .i64 0] 31;have b2:=(jO.ux (W:=(w.alloc<|.cells #[.bool b.neg,.slice B ((iB b.m).length) d,.int .i64 b.e] 31)) (g:=w.heap.size+1) aP b.neg B ((iB b.m).length) d b.e).alloc<|.cells #[.bool false,.slice none 0 0,.int .i64 0] 31;have b3:=jO.ux (W:=((w.alloc<|.cells #[.bool b.neg,.slice B ((iB b.m).length) d,.int .i64 b.e] 31).alloc<|.cells #[.bool b.neg,.slice B ((iB b.m).length) d,.int .i64 b.e] 31)) (g:=w.heap.size+2) aP false none 0 0 0;replace hr:=hr.below hE;replace s7:=s7.below hE;go_enter func183,ntmps183;go_wp2_with fail
 (with_reducible refine(HC.out _ hr s7).mono ?_)
 rintro r w1 ⟨A_h4,c_h4,rfl,h4,hb⟩;replace hE:=hE.trans hb;replace hr:=hr.below hb;replace s7:=s7.below hb;replace b1:=b1.ext hb;replace b2:=b2.ext hb;replace b3:=b3.ext hb;clear hb;have atl:=b3.c0;have yb30:=b3.fr 0;have atm:=b3.c1;have yb31:=b3.fr 1;have atn:=b3.c2;have yb32:=b3.fr 2;go_wp2;exact EX (d:=b) rfl rfl rfl rfl (b3.set _ _ _ _ _) rfl (b3.uE h4 _ _ _ _ _) (jO.tV hE aI _ _ _ _ _)
def ais(a:Dy)(A:Option Addr)(c:Nat)(w:World)(h:Sl w A c<|iB a.m)(ha:a.iD):
 Calls prog 156 #[DV a A c] w λe w'=>e = .returned (.int .i64 a.jb)/\iY w w':=by
 have:=Pk a.neg A c (iB a.m) a.e w h ha.yH;rw[kE]at this;exact this
set_option maxRecDepth 100000 in
set_option maxHeartbeats 8000000 in
def aip(a : Dy)(A : Option Addr)(c : Nat)(w : World)(hs : Sl w A c<|iB a.m)(ha : a.iD):
    Calls prog 184 #[DV a A c] w (vv w<|jl a) := by
  have HV := aum λw (h : Sl w A c<|iB a.m) => WW a A c w h ha;have hl := ha.len;by_cases h0 : a.m=0
  . have hz : Hid<|jl a=jK := by
      show jl a=jK;obtain⟨s,m,e⟩ := a;rcases ha.canon with⟨h1,h2,h3⟩|h1
      . simp only at h1 h2 h3;subst h1 h2 h3;rfl
      . simp only at h0 h1;omega
    have n0 := aaV h0;clear h0;have hE := (iY.alloc w<|.cells #[.bool a.neg,.slice A ((iB a.m).length) c,.int .i64 a.e] 31).trans<|iY.alloc (w.alloc<|.cells #[.bool a.neg,.slice A ((iB a.m).length) c,.int .i64 a.e] 31)<|.cells #[.bool false,.slice none 0 0,.int .i64 0] 31;have b1 := (jO.ux (W := w) (g := w.heap.size) aP a.neg A ((iB a.m).length) c a.e).alloc<|.cells #[.bool false,.slice none 0 0,.int .i64 0] 31;have b2 := jO.ux (W := (w.alloc<|.cells #[.bool a.neg,.slice A ((iB a.m).length) c,.int .i64 a.e] 31)) (g := w.heap.size+1) aP false none 0 0 0;replace hs := hs.below hE;go_enter func184,ntmps184;go_wp2_with fail
    (with_reducible refine(HV.out _ hs).mono ?_)
    rintro r w1 ⟨rfl,hb⟩;replace hE := hE.trans hb;replace hs := hs.below hb;replace b1 := b1.ext hb;replace b2 := b2.ext hb;clear hb;have NX := b1.c0;have NY := b1.c1;have N5 := b1.c2;have ati := b2.c0;have yb20 := b2.fr 0;have atj := b2.c1;have yb21 := b2.fr 1;have atk := b2.c2;have yb22 := b2.fr 2;go_wp2;rw[hz.out];exact uc (d := jK) rfl rfl rfl (b2.set _ _ _ _ _) (by rw[show jK.m=0 from rfl,oP];rfl) (by rw[show jK.m=0 from rfl,oP];exact Sl.nil _) (jO.tV hE aI _ _ _ _ _)
  . have n0 := aos h0
    have HN := aum (show jl a=⟨!a.neg,a.m,a.e⟩by unfold jl;simp[h0]);have HC := aum λw (h : Sl w A c<|iB a.m) => O5 A c (iB a.m) w h aI;clear h0;have hE := (iY.alloc w<|.cells #[.bool a.neg,.slice A ((iB a.m).length) c,.int .i64 a.e] 31).trans<|iY.alloc (w.alloc<|.cells #[.bool a.neg,.slice A ((iB a.m).length) c,.int .i64 a.e] 31)<|.cells #[.bool false,.slice none 0 0,.int .i64 0] 31;have b1 := (jO.ux (W := w) (g := w.heap.size) aP a.neg A ((iB a.m).length) c a.e).alloc<|.cells #[.bool false,.slice none 0 0,.int .i64 0] 31;have b2 := jO.ux (W := (w.alloc<|.cells #[.bool a.neg,.slice A ((iB a.m).length) c,.int .i64 a.e] 31)) (g := w.heap.size+1) aP false none 0 0 0;replace hs := hs.below hE;go_enter func184,ntmps184;go_wp2_with fail
    (with_reducible refine(HV.out _ hs).mono ?_)
    rintro r w1 ⟨rfl,hb⟩;replace hE := hE.trans hb;replace hs := hs.below hb;replace b1 := b1.ext hb;replace b2 := b2.ext hb;clear hb;have NX := b1.c0;have NY := b1.c1;have N5 := b1.c2;clear NX NY N5;have NX := b1.c0;have NY := b1.c1;have N5 := b1.c2;go_wp2_with fail;clear NX NY N5;replace hs := hs.drew;replace b1 := b1.drew;replace b2 := b2.drew;replace hE := hE.trans<|iY.drew _;go_region_held3 (λw' => w'.cell? ⟨w.heap.size,0,none⟩=some (.bool a.neg)/\w'.cell? ⟨w.heap.size,1,none⟩=some (.slice A ((iB a.m).length) c)/\w'.cell? ⟨w.heap.size,2,none⟩=some (.int .i64 a.e))
      (first|with_reducible exact⟨(b1).c0,(b1).c1,(b1).c2⟩|with_reducible exact⟨(b1.ext qi).c0,(b1.ext qi).c1,(b1.ext qi).c2⟩|with_reducible exact⟨((b1.ext qi).PJ (g' := w.heap.size+1) aI _ _ _).c0,((b1.ext qi).PJ (g' := w.heap.size+1) aI _ _ _).c1,((b1.ext qi).PJ (g' := w.heap.size+1) aI _ _ _).c2⟩)
      (first
        | (go_at_call 181
           (with_reducible refine(HC.out _ hs).mono ?_)
           rintro r wx0 ⟨A_h4,c_h4,rfl,h4,qi⟩;have bz := b2.ext qi;have z0 := bz.c0;have z1 := bz.c1;have z2 := bz.c2;have y0 := bz.fr 0;have y1 := bz.fr 1;have y2 := bz.fr 2))
    replace hE := hE.trans qi;replace hs := hs.below qi;replace b1 := b1.ext qi;replace b2 := b2.ext qi;go_wp2;rw[HN.out];exact uc (d := ⟨!a.neg,a.m,a.e⟩) rfl rfl rfl (bz.set _ _ _ _ _) rfl (bz.uE h4 _ _ _ _ _) (jO.tV hE aI _ _ _ _ _)
open Pu
section
variable {f:FuncId} {L M:List Nat} {jQ:E}
def Js(hk:jc L)(hc:∀ (vs:Array Value) (w:World),(callFunc f vs).run prog w = .ok (.enter f vs) w)
 {R:Option Addr->Nat->World->Ending->World->Prop} (H:∀ A c w,Sl w A c L->Tb w->Calls prog f #[.slice A L.length c] w (R A c w))
 (hR:∀ (A:Option Addr) (c:Nat) (B:Nat->Prop) w e w',Sl w A c L->(∀ b,B b->b<w.heap.size/\pN w b)->R A c w e w'->∃ v,e = .returned v/\Below w.heap.size w w'/\jd B (λ_=>True) w' jQ v):iA f [iG L] jQ:=by
 refine⟨hc,λw B vs hK hB hr=>?_⟩;obtain⟨v1,vs,rfl,h1,hr⟩:=hr.nc;obtain rfl:=hr.rz;obtain⟨A,c,rfl,s1⟩:=xy hk h1;exact(H A c w s1 hK).mono λe w' h=>hR A c B w e w' s1 hB h
def Sc(hk:jc L){n:Int}(hc:∀ (vs:Array Value) (w:World),(callFunc f vs).run prog w = .ok (.enter f vs) w)
 {R:Option Addr->Nat->World->Ending->World->Prop} (H:∀ A c w,Sl w A c L->Tb w->Calls prog f #[.slice A L.length c,.int .i64 n] w (R A c w))
 (hR:∀ (A:Option Addr) (c:Nat) (B:Nat->Prop) w e w',Sl w A c L->(∀ b,B b->b<w.heap.size/\pN w b)->R A c w e w'->∃ v,e = .returned v/\Below w.heap.size w w'/\jd B (λ_=>True) w' jQ v):iA f [iG L,iP n] jQ:=by
 refine⟨hc,λw B vs hK hB hr=>?_⟩;obtain⟨v1,vs,rfl,h1,hr⟩:=hr.nc;obtain⟨v2,vs,rfl,h2,hr⟩:=hr.nc;obtain rfl:=hr.rz;obtain rfl:=jd.lh h2;obtain⟨A,c,rfl,s1⟩:=xy hk h1;exact(H A c w s1 hK).mono λe w' h=>hR A c B w e w' s1 hB h
def Ec(hk:jc L)(hm:jc M)(hc:∀ (vs:Array Value) (w:World),(callFunc f vs).run prog w = .ok (.enter f vs) w)
 {R:World->Ending->World->Prop} (H:∀ A c B d w,Sl w A c L->Sl w B d M->Tb w->Calls prog f #[.slice A L.length c,.slice B M.length d] w (R w))
 (hR:∀ (B:Nat->Prop) w e w',(∀ b,B b->b<w.heap.size/\pN w b)->R w e w'->∃ v,e = .returned v/\Below w.heap.size w w'/\jd B (λ_=>True) w' jQ v):iA f [iG L,iG M] jQ:=by
 refine⟨hc,λw B vs hK hB hr=>?_⟩;obtain⟨v1,vs,rfl,h1,hr⟩:=hr.nc;obtain⟨v2,vs,rfl,h2,hr⟩:=hr.nc;obtain rfl:=hr.rz;obtain⟨A,c,rfl,s1⟩:=xy hk h1;obtain⟨A',d,rfl,s2⟩:=xy hm h2;exact(H A c A' d w s1 s2 hK).mono λe w' h=>hR B w e w' hB h
end
def JJ{L:List Nat}{n:Int}(B:Nat->Prop)(w:World)(e:Ending)(w':World)(hB:∀ b,B b->b<w.heap.size/\pN w b)(h:EG w L n e w'):∃ v,e = .returned v/\Below w.heap.size w w'/\jd B (λ_=>True) w' (.iK [iG L,iP n]) v:=
 let⟨_,_,h1,h2,h3⟩:=h
 ⟨_,h1,h3,kR.iK<|.cons (zn hB h3 h2)<|.cons (.v _)<|.nil _ _ _⟩
def rl{L:List Nat}(B:Nat->Prop)(w:World)(e:Ending)(w':World)(hB:∀ b,B b->b<w.heap.size/\pN w b)(h:uI w L e w'):∃ v,e = .returned v/\Below w.heap.size w w'/\jd B (λ_=>True) w' (iG L) v:=
 let⟨_,_,h1,h2,h3⟩:=h
 ⟨_,h1,h3,zn hB h3 h2⟩
section
variable(L:List Nat)(hk:jc L)
def Bj:iA 201 [iG L]<|iG<|iI L:=
 Js hk call201 (λA c w h _=>xu A c L w h) λA c B w e w' h hB ⟨h1,h2⟩=>by subst h2;exact⟨_,h1,Below.refl _ _,zn hB (Below.refl _ _) h.wO⟩
def ani(hl:(iI L).length<=256):iA 216 [iG L]<|.iK [iG<|iI L,iP 0]:=
 Js hk call216 (λA c w h _=>Jg A c L w h hl) λA c B w e w' h hB r=>JJ B w e w' hB r
def anc(hl:L.length<=100000):iA 213 [iG L]<|iP<|iE<|val L:=
 Js hk call213 (λA c w h _=>aaB A c L w h aI) λA c B w e w' h hB ⟨h1,h2⟩=>by subst h2;exact⟨_,h1,Below.refl _ _,.v _⟩
end
def RT(L M:List Nat)(hk:jc L)(hm:jc M)(hl:L.length<=100000)(ot:M.length<=100000):iA 157 [iG L,iG M]<|iP<|kP (val L)<|val M:=
 Ec hk hm call157 (λA c B d w h k _=>Ms A B c d L M w h k aI aI) rv
section
variable(m n:Nat)(hl:(iB m).length<=256)(hn:n<=65536)
def aaH(hf:(iB<|m*2^n).length<=256):iA 202 [iG<|iB m,iP (n:Int)]<|.iK [iG<|iB<|m*2^n,iP 0]:=
 Sc (lO m) call202 (λA c w h _=>aaG A c (iB m) n w h hl hn<|by rw[kE];exact hf) λA c B w e w' h hB r=>by rw[kE]at r;exact JJ B w e w' hB r
def aaJ:iA 179 [iG<|iB m,iP (n:Int)]<|.iK [iG<|iB<|m/2^n,iP 0]:=
 Sc (lO m) call179 (λA c w h _=>aaI A c (iB m) n w h hl hn) λA c B w e w' h hB r=>by rw[kE]at r;exact JJ B w e w' hB r
end
section
variable(m n:Nat)(h1:(iB m).length<=256)(h2:(iB n).length<=256)
def Mq(hf:(iB<|m+n).length<=256):iA 218 [iG<|iB m,iG<|iB n]<|.iK [iG<|iB<|m+n,iP 0]:=by
 refine Ec (lO m) (lO n) call218 (λA c B d w h k _=>anb A B c d (iB m) (iB n) w h k h1 h2<|by rw[kE,kE];exact hf) ?_;rw[kE,kE];exact JJ
def Jj(hf:n<=m):iA 219 [iG<|iB m,iG<|iB n]<|.iK [iG<|iB<|m-n,iP 0]:=by
 refine Ec (lO m) (lO n) call219 (λA c B d w h k _=>ano A B c d (iB m) (iB n) w h k h1 h2<|by rw[kE,kE];exact hf) ?_;rw[kE,kE];exact JJ
end
def yh(m:Nat)(hl:(iB m).length<=100000:=by omega):iA 213 [iG<|iB m]<|iP<|iE m:=by
 have:=anc (iB m) (lO m) hl;rwa[kE]at this
def Mr(m n:Nat)(hl:(iB m).length<=100000:=by omega)(ot:(iB n).length<=100000:=by omega):iA 157 [iG<|iB m,iG<|iB n]<|iP<|kP m n:=by
 have:=RT (iB m) (iB n) (lO m) (lO n) hl ot;rwa[kE,kE]at this
def AQ(a:Dy)(ha:a.iD):iA 184 [iF a]<|iF<|jl a:=Af call184 (λA c w h _=>aip a A c w h ha) rd
def uP(a:Dy)(ha:a.iD):iA 156 [iF a]<|iP a.jb:=Af call156 (λA c w h _=>ais a A c w h ha) rv
def Hm(s:Bool)(m:Nat)(e:Int)(hl:(iB m).length<=256)(lG:-32768<=e)(kW:e<=32768)(hd:oC<|canon s m e):iA 289 [bP s,iG<|iB m,iP e]<|.iK [iF<|canon s m e,iP 0]:=by
 refine⟨call289,λw B vs hK hB hr=>?_⟩;obtain⟨v1,vs,rfl,h1,hr⟩:=hr.nc;obtain⟨v2,vs,rfl,h2,hr⟩:=hr.nc;obtain⟨v3,vs,rfl,h3,hr⟩:=hr.nc;obtain rfl:=hr.rz;obtain rfl:=jd.lh h1;obtain rfl:=jd.lh h3;obtain⟨A,c,rfl,s1⟩:=xy (lO m) h2;have:=amY s A c (iB m) e w s1 hl lG kW hK (by rw[kE];exact hd);rw[kE]at this;exact this.mono λe w' h=>SB B w e w' hB h
def wL:E.le (.sl false 1 1 λi j=>[E.v<|.int .u32 1].getD (i*1+j)<|.v<|.bool false)<|iG<|iB 1:=by
 have e1:iB 1=[1]:=by rw[Bh aK,show 1/4294967296=0 by decide,oP]
 rw[e1];refine .sl λi j hi hj=>?_
 obtain rfl:i=0:= aI ;obtain rfl:j=0:= aI ;exact⟨.refl _,rfl⟩
def ke(d:Dy):List E:=[bP d.neg,iG<|iB d.m,iP d.e]
def Dj(l:List Dy):E:=.sl true l.length 3 λi j=>(ke<|l.getD i jK).getD j .any
def aiu(a:Dy):E.le (.sl true 1 3 λi j=>[bP a.neg,iG<|iB a.m,iP a.e].getD (i*3+j)<|.v<|.bool false)<|Dj [a]:=.sl λi j hi hj=>by
 obtain rfl:i=0:= aI ;rcases j with _|_|_|j
 .exact ⟨.refl _,rfl⟩
 .exact ⟨.refl _,rfl⟩
 .exact ⟨.refl _,rfl⟩
 .omega
def yI(a b:Dy):E.le (.sl true 2 3 λi j=>[bP a.neg,iG<|iB a.m,iP a.e,bP b.neg,iG<|iB b.m,iP b.e].getD (i*3+j)<|.v<|.bool false)<|Dj [a,b]:=.sl λi j hi hj=>by
 obtain rfl|rfl:i=0\/i=1:= aI 
 all_goals
  rcases j with _|_|_|j
  .exact ⟨.refl _,rfl⟩
  .exact ⟨.refl _,rfl⟩
  .exact ⟨.refl _,rfl⟩
  .omega
def nK{n:Nat}(h:n≠0):((n:Int)==0)=false:= aV 
def sA{n:Nat}(h:n=0):((n:Int)==0)=true:=by subst h;rfl
def D7{n:Nat}(h:n=0):((n:Int) != 0)=false:=by subst h;rfl
def Ji{n:Nat}(h:n≠0):((n:Int) != 0)=true:= aV 
def oO{m:Nat}:(iB m).length=0↔m=0:=by rw[eG,Z5]
def pF{m:Nat}(h:m≠0):(iB m).length≠0:=λq=>h<|oO.1 q
def Fp.Dy.iD.iB{d:Dy}(h:d.iD):(iB d.m).length<=256:=by have:=h.len;omega
end Go.Proofs.YtbbefgegdllpmaaGreatDoor
namespace Go.Proofs.YtbbefgegdllpmaaGreatDoor.Fp
structure Iv where
 lo:Dy
 hi:Dy
 all:Bool
def iH:Iv:=⟨jK,jK,true⟩
def Iv.iD(x:Iv):Prop:=(x.all=true/\x.lo=jK/\x.hi=jK)\/(x.all=false/\x.lo.iD/\x.hi.iD/\jI x.lo x.hi<=0)
def nP:iH.iD:=.inl ⟨rfl,rfl,rfl⟩
def ns(lo:Dy)(e:Int)(hi:Dy)(f:Int):Iv:=if e≠0\/f≠0 then iH else⟨lo,hi,false⟩
def mJ(a b:Dy):Dy:=canon (a.neg != b.neg) (a.m*b.m)<|a.e+b.e
def lg(x:Iv):Iv:=if x.all then iH else⟨jl x.hi,jl x.lo,false⟩
def iZ(x y:Iv)(p:Nat):Iv:=
 if x.all||y.all then iH else ns (kt (jh x.lo y.lo) p false) (kS (jh x.lo y.lo) p false) (kt (jh x.hi y.hi) p true) (kS (jh x.hi y.hi) p true)
def jP(x y:Iv)(p:Nat):Iv:=iZ x (lg y) p
def ahw{x y:Int}:yE x y<=0↔x<=y:=by
 unfold yE;split
 .constructor<;>intro<;>omega
 .split<;>constructor<;>intro<;>omega
def pD{a b:Dy}{k:Int}(ha:oo a k)(hb:oo b k):jI a b<=0↔a.num k<=b.num k:=by rw[ER ha hb,ahw]
def le_trans{a b c:Dy}(h1:jI a b<=0)(h2:jI b c<=0):jI a c<=0:=by
 obtain⟨k,ka,kb,kc⟩:∃ k:Int,k<=a.e/\k<=b.e/\k<=c.e:=⟨min a.e<|min b.e c.e,aI,aI,aI⟩
 rw[pD (.inr ka)<|.inr kb]at h1;rw[pD (.inr kb)<|.inr kc]at h2;rw[pD (.inr ka)<|.inr kc];omega
def Ci(a:Dy):jI a a<=0:=by rw[pD (k:=a.e) (.inr<|cO _)<|.inr<|cO _];exact cO _
def amv(a b:Dy):jI a b<=0\/jI b a<=0:=by
 obtain⟨k,ka,kb⟩:∃ k:Int,k<=a.e/\k<=b.e:=⟨min a.e b.e,aI,aI⟩
 rw[pD (.inr ka)<|.inr kb,pD (.inr kb)<|.inr ka];omega
def anC{a b:Dy}(h:jI a b<=0):jI (jl b) (jl a)<=0:=by
 obtain⟨k,ka,kb⟩:∃ k:Int,k<=a.e/\k<=b.e:=⟨min a.e b.e,aI,aI⟩
 rw[pD (.inr ka)<|.inr kb]at h;rw[pD (k:=k) (GH<|.inr kb)<|GH<|.inr ka,Jn,Jn];omega
def arR{a b c d:Dy}(h1:jI a b<=0)(h2:jI c d<=0):jI (jh a c) (jh b d)<=0:=by
 obtain⟨k,ka,kb,kc,kd⟩:∃ k:Int,k<=a.e/\k<=b.e/\k<=c.e/\k<=d.e:=⟨min (min a.e b.e)<|min c.e d.e,aI,aI,aI,aI⟩
 rw[pD (.inr ka)<|.inr kb]at h1;rw[pD (.inr kc)<|.inr kd]at h2;rw[pD (k:=k) (Kq (.inr ka)<|.inr kc)<|Kq (.inr kb)<|.inr kd,No (.inr ka)<|.inr kc,No (.inr kb)<|.inr kd];omega
def KT(m:Nat)(e:Int)(p:Nat):
 lF m e false p false*2^jy m e p<=m/\m<=lF m e false p true*2^jy m e p:=by
 have h:=cN m<|2^jy m e p;have hr:=bQ m<|bL (n:=jy m e p) (aK:0<2);unfold lF;simp only[cz,false_and,bN,ch,false_or,true_and];rw[bR];generalize m/2^jy m e p=q at *
 generalize 2^jy m e p=P at *
 refine⟨aI,?_⟩;rw[ca,bR q];split
 .omega
 .omega
def OQ{s:Bool}{m n:Nat}{e f K:Int}(h1:K<=e)(h2:K<=f)(h:m*2^(e-K).toNat<=n*2^(f-K).toNat):
 (s=false->jI (canon s m e) (canon s n f)<=0)/\(s=true->jI (canon s n f) (canon s m e)<=0):=by
 constructor
 .rintro rfl;rw[pD (BH h1)<|BH h2,aaZ h1,aaZ h2]
  exact_mod_cast h
 .rintro rfl;rw[pD (BH h2)<|BH h1,Ea h1,Ea h2];simp only[bW];omega
def Wx(neg:Bool)(m:Nat)(e:Int)(p:Nat)(up:Bool)(he:jW neg m e false p up=0)(_hp:1<=p):
 (up=true->jI (canon neg m e) (j9 neg m e false p up)<=0)/\(up=false->jI (j9 neg m e false p up) (canon neg m e)<=0):=by
 rw[Hf]at he;obtain⟨c1,c2⟩:=KT m e p;have e1:(e-e).toNat=0:= aI ;have e2:(e+(jy m e p:Int)-e).toNat=jy m e p:= aI ;have hk:e<=e+(jy m e p:Int):= aI ;have A:=λs:Bool=>OQ (s:=s) (m:=lF m e false p false) (n:=m) (e:=e+jy m e p) (f:=e) (K:=e) hk (cO _)<|by rw[e1,e2];simpa using c1
 have B:=λs:Bool=>OQ (s:=s) (m:=m) (n:=lF m e false p true) (e:=e) (f:=e+jy m e p) (K:=e) (cO _) hk<|by rw[e1,e2];simpa using c2
 unfold j9;by_cases ho:mQ m e false p (neg != up)=true
 .have hn:¬(neg != up)=true:=λh=>he ⟨ho,h⟩
  rw[bA ho,bw hn];have YR:neg=up:=by cases neg<;>cases up<;>simp at hn ⊢
  have kX:(neg != up)=false:=by rw[YR];simp
  rw[kX]at ho;unfold mQ at ho;simp only[cr,dn]at ho;obtain⟨o1,o2⟩:=ho;have hq:=tu o1;have qH:=og o1;obtain⟨K,k1,k2⟩:∃ K:Int,K<=e/\K<=16384-p:=⟨min e<|16384-p,aI,aI⟩
  have C:(2^p-1)*2^((16384:Int)-p-K).toNat<=m*2^(e-K).toNat:=by
   have h1:2^(iE (lF m e false p false)-1)*2^jy m e p<=m:=b9 (cC _ hq) c1;have h2:=cC (2^(e-K).toNat) h1;rw[<-bG,<-bG]at h2;refine b9 (cC _<|en _ _)<|b9 ?_ h2;rw[<-bG];exact bZ aK aI 
  have D:=OQ (s:=neg) k2 k1 C;subst YR;cases neg
  .exact ⟨λh=>absurd h aK,λ_=>D.1 rfl⟩
  .exact ⟨λ_=>D.2 rfl,λh=>absurd h aK⟩
 .rw [bw ho];cases neg<;>cases up
  .exact ⟨λh=>absurd h aK,λ_=>(A false).1 rfl⟩
  .exact ⟨λ_=>(B false).1 rfl,λh=>absurd h aK⟩
  .exact ⟨λh=>absurd h aK,λ_=>(B true).2 rfl⟩
  .exact ⟨λ_=>(A true).2 rfl,λh=>absurd h aK⟩
def acn{d:Dy}(hd:d.mX)(p:Nat)(hp:1<=p):
 (kS d p true=0->jI d (kt d p true)<=0)/\(kS d p false=0->jI (kt d p false) d<=0):=by
 have h:=hd.BK;constructor
 .intro he;have:=(Wx d.neg d.m d.e p true he hp).1 rfl;rwa[h]at this
 .intro he;have:=(Wx d.neg d.m d.e p false he hp).2 rfl;rwa[h]at this
def mn{x y:Iv}(hx:x.iD)(hy:y.iD){p:Nat}(hp:1<=p:=by omega)(iJ:p<=4096:=by omega):(iZ x y p).iD:=by
 unfold iZ;rcases hx with⟨h,_⟩|⟨h1,h2,h3,h4⟩
 .rw [h];exact nP
 .rcases hy with⟨h,_⟩|⟨k1,k2,k3,k4⟩
  .rw [h,h1];exact nP
  .rw [h1,k1];simp only[ato,cz,bN];unfold ns;by_cases he:kS (jh x.lo y.lo) p false≠0\/kS (jh x.hi y.hi) p true≠0
   .rw [bA he];exact nP
   .rw [bw he];have e1:kS (jh x.lo y.lo) p false=0:= aI ;have e2:kS (jh x.hi y.hi) p true=0:= aI ;refine .inr ⟨rfl,nj _ _ _ _ _ _ hp iJ,nj _ _ _ _ _ _ hp iJ,?_⟩;exact le_trans ((acn (Db h2.canon k2.canon) p hp).2 e1)<|le_trans (arR h4 k4)<|(acn (Db h3.canon k3.canon) p hp).1 e2
def nO{x:Iv}(hx:x.iD):(lg x).iD:=by
 unfold lg;rcases hx with⟨h,_⟩|⟨h1,h2,h3,h4⟩
 .rw [bA h];exact nP
 .rw [h1];exact .inr ⟨rfl,ru h3,ru h2,anC h4⟩
section
variable(a b:Dy)
def jv:Dy:=if jI b a<0 then b else a
def jq:Dy:=if 0<jI b a then b else a
def Ja:jI (jv a b) a<=0:=by
 unfold jv;split
 .omega
 .exact Ci a
def am3:jI (jv a b) b<=0:=by
 unfold jv;split
 .exact Ci b
 .rcases amv a b with h|h
  .exact h
  .have h0:jI b a=0:= aI ;obtain⟨k,ka,kb⟩:∃ k:Int,k<=a.e/\k<=b.e:=⟨min a.e b.e,aI,aI⟩
   rw[ER (k:=k) (.inr kb)<|.inr ka]at h0;rw[pD (.inr ka)<|.inr kb];unfold yE at h0;split at h0
   .omega
   .split at h0<;>omega
def AN:jI a b = -jI b a:=by
 obtain⟨k,ka,kb⟩:∃ k:Int,k<=a.e/\k<=b.e:=⟨min a.e b.e,aI,aI⟩
 rw[ER (k:=k) (.inr ka)<|.inr kb,ER (k:=k) (.inr kb)<|.inr ka];unfold yE;split<;>split<;>(try split)<;>omega
def FM:jI a (jq a b)<=0:=by
 unfold jq;split
 .rw [AN];omega
 .exact Ci a
def amZ:jI b (jq a b)<=0:=by
 unfold jq;split
 .exact Ci b
 .omega
end
section
variable{a b:Dy}(ha:a.iD)(hb:b.iD)
def rX:(jv a b).iD:=by unfold jv;split;exact hb;exact ha
def qM:(jq a b).iD:=by unfold jq;split;exact hb;exact ha
end
def ng(D : Dy->Dy->Bool->Dy)(E : Dy->Dy->Bool->Int)(x y : Iv) : Iv:=
 if(E x.lo y.lo false=0/\E x.lo y.lo true=0)/\(E x.lo y.hi false=0/\E x.lo y.hi true=0)/\(E x.hi y.lo false=0/\E x.hi y.lo true=0)/\(E x.hi y.hi false=0/\E x.hi y.hi true=0)then
  ⟨jv (jv (jv (D x.lo y.lo false)<|D x.lo y.hi false)<|D x.hi y.lo false)<|D x.hi y.hi false,
   jq (jq (jq (D x.lo y.lo true)<|D x.lo y.hi true)<|D x.hi y.lo true) (D x.hi y.hi true),false⟩
 else iH
def XP{D:Dy->Dy->Bool->Dy}{E:Dy->Dy->Bool->Int}{x y:Iv}(hv:∀ a b up,(D a b up).iD)
 (hle:E x.lo y.lo false=0->E x.lo y.lo true=0->jI (D x.lo y.lo false) (D x.lo y.lo true)<=0):(ng D E x y).iD:=by
 unfold ng;split
 .rename_i h;refine .inr ⟨rfl,rX (rX (rX (hv _ _ _)<|hv _ _ _)<|hv _ _ _)<|hv _ _ _,qM (qM (qM (hv _ _ _)<|hv _ _ _)<|hv _ _ _)<|hv _ _ _,?_⟩;refine le_trans (Ja _ _)<|le_trans (Ja _ _)<|le_trans (Ja _ _)<|le_trans (hle h.1.1 h.1.2) ?_;exact le_trans (FM _ _)<|le_trans (FM _ _)<|FM _ _
 .exact nP
def iO(x y:Iv)(p:Nat):Iv:=
 if x.all||y.all then iH else ng (λa b up=>kt (mJ a b) p up) (λa b up=>kS (mJ a b) p up) x y
def ku(x y:Iv){p:Nat}(hp:1<=p:=by omega)(iJ:p<=4096:=by omega):(iO x y p).iD:=by
 unfold iO;split
 .exact nP
 .exact XP (λ_ _ _=>nj _ _ _ _ _ _ hp iJ) λh1 h2=>Wv _ _ _ _ _ h1 h2
section
variable(a b:Dy)(p:Nat)
def kQ(g:Nat):Nat:=p+g+iE b.m-iE a.m
def lj(up:Bool):Dy:=
 if a.m=0 then jK else j9 (a.neg != b.neg) (a.m*2^kQ a b p 2/b.m) (a.e-b.e-kQ a b p 2) (decide (a.m*2^kQ a b p 2%b.m≠0)) p up
def nZ(up:Bool):Int:=
 if a.m=0 then 0 else jW (a.neg != b.neg) (a.m*2^kQ a b p 2/b.m) (a.e-b.e-kQ a b p 2) (decide (a.m*2^kQ a b p 2%b.m≠0)) p up
end
section
variable{a b:Dy}(a0:a.m≠0)(b0:b.m≠0)
def Pf(p g:Nat)(hg:2<=g):p<iE (a.m*2^kQ a b p g/b.m):=by
 have h1:=tu a0;have h2:=qL b.m;have ha:=og a0;have h3:2^p<=a.m*2^kQ a b p g/b.m:=by
  rw[dO aI];refine b9 (cT _<|dU h2)<|b9 ?_ (cC _ h1);rw[<-bG,<-bG];exact bZ aK<|by unfold kQ;omega
 exact xr.2 h3
def ah8(p:Nat)(up:Bool):
 j9 (a.neg != b.neg) (a.m*2^kQ a b p 3/b.m) (a.e-kQ a b p 3-b.e) (decide (a.m*2^kQ a b p 3%b.m≠0)) p up=lj a b p up /\
 jW (a.neg != b.neg) (a.m*2^kQ a b p 3/b.m) (a.e-kQ a b p 3-b.e) (decide (a.m*2^kQ a b p 3%b.m≠0)) p up=nZ a b p up:=by
 obtain⟨d,hd⟩:∃ d,kQ a b p 3=kQ a b p 2+d:=⟨kQ a b p 3-kQ a b p 2,by unfold kQ;omega⟩
 have hb:=Pf a0 b0 p 2 aK;unfold lj nZ;rw[bw a0,bw a0,hd];generalize kQ a b p 2=k at *
 have hB:0<b.m:= aI ;have hP:=bL (n:=d) (aK:0<2);have e1:a.m*2^(k+d)/b.m/2^d=a.m*2^k/b.m:=by
  rw[dc,bG,<-bO,Nat.mul_div_mul_right _ _ hP]
 have e2:(decide (a.m*2^(k+d)%b.m≠0)||decide (a.m*2^(k+d)/b.m%2^d≠0))=decide (a.m*2^k%b.m≠0):=by
  have h1:a.m*2^(k+d)%(b.m*2^d)=a.m*2^k%b.m*2^d:=by rw[bG,<-bO,Nat.mul_mod_mul_right]
  have h2:a.m*2^(k+d)%(b.m*2^d)=a.m*2^(k+d)%b.m+b.m*(a.m*2^(k+d)/b.m%2^d):=gP;rw[h1]at h2;rw[fM];simp only[fj,dn];constructor
  .intro h h0;rw[h0,de]at h2;rcases h with h|h
   .omega
   .have:=fB hB<|ep h;omega
  .intro h;apply cF;intro hn;have n1:a.m*2^(k+d)%b.m=0:=by
    apply cF;intro h';exact hn<|.inl h'
   have n2:a.m*2^(k+d)/b.m%2^d=0:=by
    apply cF;intro h';exact hn<|.inr h'
   rw[n1,n2,cW]at h2;have:=fB (ep h) hP;omega
 have h:=KS (N:=a.m*2^(k+d)/b.m) (E:=a.e-((k+d:Nat):Int)-b.e) (more:=decide (a.m*2^(k+d)%b.m≠0)) (d:=d) (p:=p) (a.neg != b.neg) up (by rw[e1];exact hb);rw[e1,e2,(aI:a.e-((k+d:Nat):Int)-b.e+(d:Int)=a.e-b.e-(k:Int))]at h;exact⟨h.1.symm,h.2.symm⟩
end
def lL(x:Iv):Int:=if x.all then 0 else if 0<x.lo.jB then 1 else if x.hi.jB<0 then -1 else 0
def jo(x y:Iv)(p:Nat):Iv:=
 if x.all||y.all||decide (lL y=0)then iH else ng (λa b up=>lj a b p up) (λa b up=>nZ a b p up) x y
def pf(x y:Iv){p:Nat}(hp:1<=p:=by omega)(iJ:p<=4096:=by omega):(jo x y p).iD:=by
 unfold jo;split
 .exact nP
 .refine XP (λa b up=>?_) (λh1 h2=>?_)
  .unfold lj;split
   .exact ri
   .exact nj _ _ _ _ _ _ hp iJ
  .unfold lj nZ at *
   split
   .exact Ci _
   .rename_i h;rw[bw h]at h1 h2;exact Wv _ _ _ _ _ h1 h2
def mG(d:Dy):Dy:=⟨false,d.m,d.e⟩
def ua{d:Dy}(h:d.iD):(mG d).iD:=by
 refine⟨?_,h.range⟩;rcases h.canon with⟨h1,_,h3⟩|h1
 .exact .inl ⟨h1,rfl,h3⟩
 .exact .inr h1
def aeu(d:Dy)(k:Int):(mG d).num k=(d.kg k:Int):=by unfold Dy.num mG Dy.kg;simp
def mB(x:Iv):Dy:=jq (mG x.lo)<|mG x.hi
def nV(x:Iv):Dy:=if lL x=0 then jK else jv (mG x.lo) (mG x.hi)
def iW(x:Iv):Iv:=if x.all then iH else⟨nV x,mB x,false⟩
def mT(d:Dy):Iv:=⟨d,d,false⟩
def tS{d:Dy}(h:d.iD):(mT d).iD:=.inr ⟨rfl,h,h,Ci d⟩
def RL{x:Iv}(h1:x.lo.iD)(h2:x.hi.iD):(mB x).iD:=qM (ua h1)<|ua h2
def uK{x:Iv}(h:x.iD):(iW x).iD:=by
 unfold iW;rcases h with⟨h,_⟩|⟨h,h1,h2,_⟩
 .rw [h];exact nP
 .rw [h];have v1:=ua h1;have v2:=ua h2;refine .inr ⟨rfl,?_,RL h1 h2,?_⟩
  .show (nV x).iD;unfold nV;split
   .exact ri
   .exact rX v1 v2
  .show jI (nV x) (mB x)<=0;unfold nV;split
   .refine le_trans (b:=mG x.lo) ?_ (FM _ _);rw[pD (a:=jK) (b:=mG x.lo) (k:=x.lo.e) (.inl rfl)<|.inr<|cO _,yj rfl,aeu];omega
   .exact le_trans (Ja _ _)<|FM _ _
def kV(n:Int):Dy:=mz n 0
def iT(n:Int):Iv:=mT<|kV n
def wb:Iv:=mT<|canon false 1 (-1)
end Go.Proofs.YtbbefgegdllpmaaGreatDoor.Fp
namespace Go.Proofs.YtbbefgegdllpmaaGreatDoor
open Go.RowKit Fp Pu
def ju(x:Iv):List E:=[bP x.lo.neg,iG<|iB x.lo.m,iP x.lo.e,bP x.hi.neg,iG<|iB x.hi.m,iP x.hi.e,bP x.all]
def iC(x:Iv):E:=.agg<|ju x
def iQ(l:List Iv):E:=.sl true l.length 7 λi j=>(ju<|l.getD i iH).getD j .any
def tc(m:List<|List Iv):E:=.sl true m.length 1 λi _=>iQ<|m.getD i []
def zZ(x y:Iv):Bool:=y.all||(!x.all&&(decide (jI y.lo x.lo<=0)&&decide (jI x.hi y.hi<=0)))
def FO:E.le (.v<|.slice none 0 0)<|iG<|iB 0:=by
 have:iG (iB 0) = .sl false 0 1 λi _=>.v (.int .u32 (((iB 0).getD i 0:Nat):Int)):=by unfold iG;rw[oP];rfl
 rw[this];exact .nil _ _ _
def J0:E.le (.agg [bP false,.v<|.slice none 0 0,iP 0,bP false,.v<|.slice none 0 0,iP 0,bP true])<|iC iH:=
 .agg (.cons (.refl _)<|.cons FO<|.cons (.refl _)<|.cons (.refl _)<|.cons FO<|.cons (.refl _)<|.cons (.refl _) .nil)
structure RD where
 neg:Bool
 L:List Nat
 e:Int
structure RI where
 lo:RD
 hi:RD
 all:Bool
def rdL(d:RD):List E:=[bP d.neg,iG d.L,iP d.e]
def rdP(d:RD):E:=.agg<|rdL d
def SU:RD:=⟨false,[],0⟩
def M9:RI:=⟨SU,SU,true⟩
structure RD.pX(d:RD):Prop where
 ok:jc d.L
 lo:-9223372036854775808<=d.e
 hi:d.e<=9223372036854775807
structure RI.pX(x:RI):Prop where
 lo:x.lo.pX
 hi:x.hi.pX
def acG:SU.pX:=⟨jc.nil,aK,aK⟩
def acF:M9.pX:=⟨acG,acG⟩
def RD.dy(d:RD):Dy:=⟨d.neg,val d.L,d.e⟩
def RD.Ok(d:RD):Prop:=pH d.neg d.L d.e
def RD.Zero(d:RD):Prop:=d.neg=false/\d.L=[]/\d.e=0
def RI.iv(x:RI):Iv:=⟨x.lo.dy,x.hi.dy,x.all⟩
def RI.Ok(x:RI):Prop:=(x.all=true/\x.lo.Zero/\x.hi.Zero)\/(x.all=false/\x.lo.Ok/\x.hi.Ok/\jI x.lo.dy x.hi.dy<=0)
def Fp.Dy.raw(d:Dy):RD:=⟨d.neg,iB d.m,d.e⟩
def Fp.Iv.raw(x:Iv):RI:=⟨x.lo.raw,x.hi.raw,x.all⟩
def RD.Ok.valid{d:RD}(h:d.Ok):d.dy.iD:=h.2.2
def RD.Ok.eq{d:RD}(h:d.Ok)(g:d.pX):d.dy.raw=d:=by
 obtain⟨n,L,e⟩:=d;show RD.mk n (iB<|val L) e=_;rw[<-pH.E3 h g.ok]
def RD.Zero.eq{d:RD}(h:d.Zero):d.dy=jK/\d.dy.raw=d:=by
 obtain⟨n,L,e⟩:=d;obtain⟨rfl,rfl,rfl⟩:=h;refine⟨rfl,?_⟩;show RD.mk false (iB 0) 0=_;rw[oP]
def RI.Ok.valid{x:RI}(h:x.Ok):x.iv.iD:=by
 rcases h with⟨h1,h2,h3⟩|⟨h1,h2,h3,h4⟩
 .exact .inl ⟨h1,h2.eq.1,h3.eq.1⟩
 .exact .inr ⟨h1,h2.valid,h3.valid,h4⟩
def RI.Ok.eq{x:RI}(h:x.Ok)(g:x.pX):x.iv.raw=x:=by
 obtain⟨lo,hi,a⟩:=x;rcases h with⟨h1,h2,h3⟩|⟨h1,h2,h3,h4⟩
 .show RI.mk lo.dy.raw hi.dy.raw a=_;rw[h2.eq.2,h3.eq.2]
 .show RI.mk lo.dy.raw hi.dy.raw a=_;rw[h2.eq g.lo,h3.eq g.hi]
def Fp.Dy.apS(d:Dy):d.raw.dy=d:=by show Dy.mk d.neg (val<|iB d.m) d.e=d;rw[kE]
def aiq(d:Dy):rdP d.raw=iF d:=rfl
def Fp.Iv.iD.kA{x:Iv}(h:x.iD):x.lo.iD/\x.hi.iD:=by
 rcases h with⟨_,h2,h3⟩|⟨_,h2,h3,_⟩
 .rw [h2,h3];exact⟨ri,ri⟩
 .exact ⟨h2,h3⟩
def UA(m:List<|List RI):Prop:=∀ r,r ∈ m->∀ x,x ∈ r->x.pX
def UA.at{m:List<|List RI}(h:UA m)(i j:Nat):((m.getD i []).getD j M9).pX:=by
 by_cases hi:i<m.length
 .rw [bJ (l:=m),bS hi];show(m[i].getD j M9).pX;by_cases hj:j<m[i].length
  .rw [bJ,bS hj];exact h _ (dI hi) _<|dI hj
  .rw [bJ,dp aI];exact acF
 .rw [bJ (l:=m),dp aI];exact acF
def aqo(d:RD)(g:d.pX)(b:Bool)(hb:b=true↔d.Ok):iA 101 [rdP d]<|bP b:=by
 refine⟨call101,λw B vs hK hB hr=>?_⟩;obtain⟨v1,vs,rfl,h1,hr⟩:=hr.nc;obtain rfl:=hr.rz;obtain⟨us,rfl,q⟩:=jd.GK<|show jd _ _ w (.agg _) v1 from h1;obtain⟨u1,us,rfl,k1,q⟩:=q.nc;obtain⟨u2,us,rfl,k2,q⟩:=q.nc;obtain⟨u3,us,rfl,k3,q⟩:=q.nc;obtain rfl:=q.rz;obtain rfl:=jd.lh k1;obtain rfl:=jd.lh k3;obtain⟨A,c,rfl,hs⟩:=xy g.ok k2;exact(MV d.neg A c d.L d.e w b hs g.lo g.hi hb).mono λe w' h=>rv B w e w' hB h
def D8{a b:Nat}(h:a=b:=by omega):((a:Int) != (b:Int))=false:=by simp[h]
def RU{a b:Nat}(h:a=b):((a:Int)==b)=true:=by simp[h]
open Classical in
open Classical in
open Go.ChangeShapes Go.WideShapes Go.ChangeAt
abbrev tR:Nat->Prop:=λ_=>False
def ahk{W:World}{a:Addr}{v:Value}(h:W.cell? a=some v):a.spot=none:=by
 obtain⟨b,o,s⟩:=a;rcases s with _|q
 .rfl
 .exfalso;unfold World.cell? at h;split at h<;>simp at h
def aqv{W:World}{a:Addr}{len cap sz:Nat}{nl:Bool}(el:Nat->Nat->E)(hl:len<=cap)(hm:cap<=maxLen)(lJ:0<sz)
 (h1:∀ i j,i<len->j<sz->(el i j).one=true/\(nl=true->(el i j).oe=true)/\(el i j).nr 2=true)
 (hx:∀ i,i<len->∃ cs,W.cells? 0 (a.add<|i*sz) sz=some cs/\∀ j,j<sz->∃ v,cs[j]? = some v/\jd tR tR W (el i j) v):
 jd tR tR W (.sl nl len sz el) (.slice (some a) len cap):=by
 have YN:cap<=9223372036854775807:=by simpa[maxLen]using hm
 have cellAt:∀ i j,i<len->j<sz->∃ v,W.cell? (a.add<|i*sz+j)=some v/\jd tR tR W (el i j) v:=by
  intro i j hi hj;obtain⟨cs,h2,h3⟩:=hx i hi;obtain⟨v,h4,h5⟩:=h3 j hj;refine⟨v,?_,h5⟩;rw[<-Deep.add_add,(World.cells?_some h2).2.2 j hj,h4]
 by_cases h0:len=0
 .subst h0;exact .sl nl 0 sz el _ cap (λ_ _=>.bool false) aI YN (λh=>by cases h) (λi j hi=>absurd hi aI) (λi j hi=>absurd hi aI) (λi j hi=>absurd hi aI) λi j hi=>absurd hi aI
 .obtain ⟨b,o,s⟩:=a;have hs:s=none:=by
   obtain⟨v,h2,_⟩:=cellAt 0 0 aI lJ;rw[de,cJ,show(⟨b,o,s⟩:Addr).add 0=⟨b,o,s⟩from rfl]at h2;exact ahk h2
  subst hs;have cell2:∀ i j,∃ v:Value,i<len->j<sz->W.cell? ⟨b,o+(i*sz+j),none⟩=some v/\jd tR tR W (el i j) v:=by
   intro i j;by_cases hi:i<len
   .by_cases hj:j<sz
    .obtain ⟨v,h2,h3⟩:=cellAt i j hi hj;rw[EI]at h2;exact⟨v,λ_ _=>⟨h2,h3⟩⟩
    .exact ⟨.bool false,λ_ h=>absurd h hj⟩
   .exact ⟨.bool false,λh=>absurd h hi⟩
  let f:Nat->Nat->Value:=λi j=>Classical.choose<|cell2 i j
  have hf:∀ i j,i<len->j<sz->W.cell? ⟨b,o+(i*sz+j),none⟩=some (f i j)/\jd tR tR W (el i j) (f i j):=λi j=>dX<|cell2 i j
  refine .sl nl len sz el _ cap f hl YN (λh=>by cases h) (λi j hi hj=>?_) (λi j hi hj=>(h1 i j hi hj).2.2) (λi j hi hj=>?_) λi j hi hj=>(hf i j hi hj).2
  .exact ⟨(hf i j hi hj).2.one (h1 i j hi hj).1,λq=>(hf i j hi hj).2.oe<|(h1 i j hi hj).2.1 q⟩
  .exact ⟨b,o,rfl,id,block_lt_of_cell (hf i j hi hj).1,(hf i j hi hj).1⟩
section
variable {H:Type} {enc:TypeId×Value->H} {W:World} {fuel:Nat} {cs:List Value} {x:DataW H×List MemPlace}
end
def akp{P:Program}{c:OpenClaim}(h:P.funcs.any Func.goes=false)(hs:c.start = .entering):false=c.goesBy P:=by
 have h1:∀ g:Nat,(P.funcs[g]?).any Func.goes=false:=by
  intro g;cases hg:P.funcs[g]? with
  |none=>rfl
  |some fn=>
   rw[Option.any_some];rw[Array.any_eq_false]at h;obtain⟨hl,he⟩:=dN.1 hg;have:=h g hl;rw[he]at this;simpa using this
 have h2:∀ f,P.goes f=false:=by
  intro f;unfold Program.goes;rw[h,Bool.and_false,gj,dW];intro g _;rw[h1 g];decide
 unfold OpenClaim.goesBy Program.goesAt Program.goesFrom;rw[hs];cases P.funcNamed c.func with
 |none=>rfl
 |some f=>simp[h2 f]
def ajH:Tryz.pinned.checked.prog.funcs.any Func.goes=false:= aM 
def Tv{k:IntKind}{z:Int}(h:(Lit.int k z).wf=true):ny k z:=by
 cases k<;>(simp[Lit.wf,IntKind.min,IntKind.max,IntKind.signed,IntKind.bits]at h;simp only[ny];omega)
end Go.Proofs.YtbbefgegdllpmaaGreatDoor
