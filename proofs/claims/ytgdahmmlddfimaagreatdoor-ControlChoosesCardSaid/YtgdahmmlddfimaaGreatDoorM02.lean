/- Lemmas that the last file uses. -/
import Derived.Test.YtgdahmmlddfimaaGreatDoorM01
import Derived.Deep.DeepCutAuto
import Derived.Deep.Slices
import Derived.Carry
set_option linter.unusedSimpArgs false
set_option linter.unusedVariables false
set_option linter.defProp false
set_option maxHeartbeats 4000000
open Go.Proofs.Tryz
namespace Go.Proofs.YtgdahmmlddfimaaGreatDoor.Pu
open Go.RowKit
section
variable {P:Program} {K:World->Prop} {T:List TI} {O:qB} {w0:World} {B:Nat->Prop} {σ τ:PS} {o:Oper} {a:Act} {w:World} {L:Lk} {u:kO} {gX:Array Oper}
def abA(r:jd w0 B σ a w L){b:Bool}(h:AS gX σ o=some b):Region.wanted o (yielded gX a.tmps)=b:=by
 unfold AS at h;unfold Region.wanted;split at h
 .rename_i hg;rw[hg];simpa using h
 .rename_i j want hg;rw[hg];simp only;split at h
  .rename_i t ht;have hv:=r.ht t;have key:∀ q:Bool,σ.get t = .e (.v (.bool q))->yielded gX a.tmps j=some q:=by
    intro q hq;rw[hq]at hv;have hv:=iD.kJ hv;unfold yielded;rw[ht];simp only[Option.bind_some];have iC:a.tmps[t]? = some (.bool q):=by
     by_cases hs:t<a.tmps.size
     .simpa [hs]using hv
     .simp [hs,undef]at hv
    rw[iC]
   split at h
   .rename_i hq;rw[key true hq];simp only[bG]at h;subst h;cases want<;>rfl
   .rename_i hq;rw[key false hq];simp only[bG]at h;subst h;cases want<;>rfl
   .rename_i q hq;rw[hq]at hv;have hv:=iD.kJ hv;have hn:yielded gX a.tmps j=none:=by
     unfold yielded;rw[ht];simp only[Option.bind_some];by_cases hs:t<a.tmps.size
     .rw [show a.tmps[t]? = some (.tuple q)by simpa[hs]using hv]
     .simp [hs]
    rw[hn];simp only[bG]at h;subst h;cases want<;>rfl
   .cases h
  .cases h
def Un(hT:mL P T)(g:Gd P K w0 B)(r:jd w0 B σ a w L)(h:sy P K T O gX σ o=some u)(ho:∀ q,q ∈ u.jE->q)(Kc:Act->World->Prop)(Q:Exit->Act->World->Prop)
 (hk:∀ a' w' L',jd w0 B (σ.app o.dst u) a' w' L'->Kc a' w'):
 (Region.wanted o (yielded gX a.tmps)=true/\o.wp P a w Kc Q)\/(Region.wanted o (yielded gX a.tmps)=false/\Kc (a.put o.dst undef) w):=by
 obtain⟨hi,_,⟨hw,u0,h0,rfl⟩|⟨hw,rfl⟩⟩:=Gj h
 .refine .inl ⟨abA r hw,aga hT g r h0 ho Kc Q λv w' L' hr hp=>hk _ w' L' ?_⟩;have mS:w9 (σ.oo u0.f) o.dst=true:=by cases hd:o.dst<;>rw[hd]at hi<;>exact hi
  exact hr.put o.dst u0.r v mS hp
 .exact .inr ⟨abA r hw,hk _ w L (r.put o.dst (.e (.v (.tuple #[]))) undef hi (.v _))⟩
structure Left(gX:Array Oper)(listed:Array Bool)(R:List (Nat×Oper×kO)):Prop where
 mi:∀ x,x ∈ R->gX[x.1]? = some x.2.1/\listed.getD x.1 true=false
 all:∀ i,i<gX.size->listed.getD i true=false->∃ x,x ∈ R/\x.1=i
 pw:R.Pairwise λx y=>x.1<y.1/\(B2 gX 3 y.2.1 x.1||De gX x.2 y.2)=true
 ed:∀ x,x ∈ R->∀ e,e ∈ x.2.1.after->Region.binds .any e=true->e.on<x.1
 up:∀ x,x ∈ R->∀ j z,gX[j]? = some z->Df z x.1=true->listed.getD j true=false
def Left.B2{listed:Array Bool}{R:List (Nat×Oper×kO)}(h:Left gX listed R){x:Nat×Oper×kO}(hx:x ∈ R):∀ (n:Nat) (j:Nat) (z:Oper),gX[j]? = some z->Pu.B2 gX n z x.1=true ->
 listed.getD j true=false/\∃ e,e ∈ z.after/\Region.binds .any e=true/\listed.getD e.on true=false/\e.on<gX.size:=by
 have direct:∀ (j:Nat) (z:Oper),gX[j]? = some z->Df z x.1=true->listed.getD j true=false/\∃ e,e ∈ z.after/\Region.binds .any e=true/\listed.getD e.on true=false/\e.on<gX.size:=by
  intro j z hz he;refine⟨h.up x hx j z hz he,?_⟩;unfold Df at he;obtain⟨e,mv,lr⟩:=dY.1 he;simp only[bO]at lr;have pC:=h.mi x hx;refine⟨e,by simpa using mv,lr.1,?_,?_⟩
  .rw [lg.1 lr.2];exact pC.2
  .rw [lg.1 lr.2];exact(de.1 pC.1).1
 intro n
 induction n with
 |zero=>exact direct
 |succ n ih=>
  intro j z hz hr;simp only[Pu.B2,dI]at hr;rcases hr with hr|hr
  .exact direct j z hz hr
  .obtain ⟨e,mv,lr⟩:=dY.1 hr;simp only[bO]at lr;obtain⟨lr,Oh⟩:=lr;split at Oh
   .rename_i z' y3;obtain⟨k1,_⟩:=ih e.on z' y3 Oh;have iC:=(de.1 y3).1;obtain⟨x',BE,ES⟩:=h.all e.on iC k1;refine⟨h.up x' BE j z hz ?_,e,by simpa using mv,lr,k1,iC⟩;unfold Df;refine dY.2 ⟨e,mv,?_⟩;rw[lr,ES];simp
   .cases Oh
def Qz{md:Region.Mode}{listed:Array Bool}{i:Nat}:i ∈ Region.ready md gX listed↔i<gX.size/\listed.getD i true=false/\∃ o,gX[i]? = some o/\∀ e,e ∈ o.after->Region.binds md e=true->listed.getD e.on false=true:=by
 unfold Region.ready;rw[List.mem_filter];simp only[b5,bO,dW];constructor
 .rintro ⟨h1,h2,h3⟩;refine⟨h1,h2,gX[i],by simp[h1],λe he hb=>?_⟩;rw[Array.getElem?_eq_getElem h1]at h3;simp only[cH,aqB,aqY]at h3;have:=h3 e he;simpa[hb]using this
 .rintro ⟨h1,h2,o,h3,h4⟩;refine⟨h1,h2,?_⟩;rw[h3];simp only[cH,aqB,aqY];intro e he;cases hb:Region.binds md e with
  |false=>rfl
  |true=>simpa using h4 e he hb
def acd(hT:mL P T)(g:Gd P K w0 B){Q:Exit->Act->World->Prop}(hq:∀ a' w' L',jd w0 B τ a' w' L'->Q .normal a' w'):
 ∀ (fuel:Nat) (listed:Array Bool) (R:List (Nat×Oper×kO)) (σ:PS) (a:Act) (w:World) (L:Lk),R.length=fuel->listed.size=gX.size->Left gX listed R->(∀ x,x ∈ R->∀ q,q ∈ x.2.2.jE->q) ->
  xA P K T gX (R.map (·.2)) σ τ->jd w0 B σ a w L->wpAny P .any gX Q fuel listed a w:=by
 intro fuel
 induction fuel with
 |zero=>
  intro listed R σ a w L hlen EF hleft ho KG r;have hR:=dw hlen;subst hR;refine⟨?_,hq a w L (r.qL KG)⟩;apply List.eq_nil_iff_forall_not_mem.2;intro i hi;obtain⟨h1,h2,_⟩:=Qz.1 hi;obtain⟨x,hx,_⟩:=hleft.all i h1 h2;simp at hx
 |succ fuel ih=>
  intro listed R σ a w L hlen EF hleft ho KG r;refine⟨λCZ=>?_,λi hi=>?_⟩
  .
   exfalso;cases R with
   |nil=>simp at hlen
   |cons x R=>
    have hx:=hleft.mi x aK;have iC:x.1<gX.size:=(de.1 hx.1).1;have:x.1 ∈ Region.ready .any gX listed:=Qz.2 ⟨iC,hx.2,x.2.1,hx.1,λe he hb=>by
     have EM:=hleft.ed x aK e he hb;cases hl:listed.getD e.on true with
     |true=>
      have:e.on<listed.size:= aE ;simp[this]at hl ⊢;exact hl
     |false=>
      exfalso;obtain⟨y,hy,ET⟩:=hleft.all e.on aE hl;rcases di.1 hy with hy|hy
      .subst hy;omega
      .have:=(aqC.1 hleft.pw).1 y hy;omega⟩
    rw[CZ]at this;simp at this
  .obtain ⟨h1,h2,o,h3,h4⟩:=Qz.1 hi;obtain⟨y,hy,hyi⟩:=hleft.all i h1 h2;subst hyi;obtain⟨A,C,rfl⟩:=List.append_of_mem hy;have KL:=hleft.mi y hy;have ah0:∀ x,x ∈ A->De gX x.2 y.2=true:=by
    intro x hx;have hp:=(aqD.1 hleft.pw).2.2 x hx y aK;rcases Bool.or_eq_true_iff.1 hp.2 with he|he
    .exfalso;obtain⟨_,e,mv,lr,ng,iC⟩:=hleft.B2 (show x ∈ A++y::C by simp[hx]) 3 y.1 y.2.1 KL.1 he;have tz:o=y.2.1:=by rw[KL.1]at h3;exact(aqE h3).symm
     have hl:=h4 e (by rw[tz];exact mv) lr;have qf:e.on<listed.size:=by rw[EF];exact iC
     simp[qf]at hl ng;rw[hl]at ng;cases ng
    .exact he
   rw[fV,ey]at KG;obtain⟨⟨O,k1⟩,k2⟩:=KG.agA (λx hx=>by
    obtain⟨z,hz,rfl⟩:=dv.1 hx;exact ah0 z hz)
   have ah1:Left gX (listed.setIfInBounds y.1 true) (A++C):=by
    have ju:∀ x,x ∈ A++C->x.1≠y.1:=by
     intro x hx;rcases dN.1 hx with hx|hx
     .have:=((aqD.1 hleft.pw).2.2 x hx y aK).1;omega
     .have:=((aqC.1 (aqD.1 hleft.pw).2.1).1 x hx).1;omega
    have BD:∀ x,x ∈ A++C->x ∈ A++y::C:=λx hx=>by
     rcases dN.1 hx with hx|hx<;>simp[hx]
    refine⟨λx hx=>?_,λj hj hl=>?_,?_,λx hx=>hleft.ed x (BD x hx),λx hx j z hz he=>?_⟩
    .obtain ⟨q1,q2⟩:=hleft.mi x (BD x hx);refine⟨q1,?_⟩;have qf:x.1<listed.size:=by rw[EF];exact(de.1 q1).1
     simp[qf]at q2 ⊢;rw[aqF _ (λe=>ju x hx e.symm)];exact q2
    .have Kr:j<listed.size:= aE ;by_cases ED:j=y.1
     .subst ED;simp[Kr]at hl
     .have:listed.getD j true=false:=by
       simp[Kr]at hl ⊢;rw[aqF _ (λe=>ED e.symm)]at hl;exact hl
      obtain⟨x,hx,Wy⟩:=hleft.all j hj this;refine⟨x,?_,Wy⟩;rcases dN.1 hx with hx|hx
      .simp [hx]
      .rcases di.1 hx with hx|hx
       .subst hx;exact absurd Wy.symm ED
       .simp [hx]
    .exact hleft.pw.sublist (List.Sublist.append (List.Sublist.refl A) (List.sublist_cons_self y C))
    .have q:=hleft.up x (BD x hx) j z hz he;have Kr:j<listed.size:=by rw[EF];exact(de.1 hz).1
     by_cases ED:j=y.1
     .exfalso;subst ED;rw[KL.1]at hz h3;cases hz;cases h3;unfold Df at he;obtain⟨e,mv,lr⟩:=dY.1 he;simp only[bO]at lr;have hl:=h4 e (by simpa using mv) lr.1;rw[lg.1 lr.2]at hl;have ng:=(hleft.mi x (BD x hx))
      have qf:x.1<listed.size:=by rw[EF];exact(de.1 ng.1).1
      have ng:=ng.2;simp[qf]at hl ng;rw[hl]at ng;cases ng
     .simp [Kr]at q ⊢;rw[aqF _ (λe=>ED e.symm)];exact q
   unfold wpOp;rw[KL.1];simp only;rcases Un hT g r k1 (ho y aK) (wpAny P .any gX Q fuel (listed.setIfInBounds y.1 true)) Q (λa' w' L' hr=>ih _ (A++C) _ a' w' L' (by simp at hlen ⊢;omega) (by simpa using EF) ah1 (λx hx=>ho x (by
    rcases dN.1 hx with hx|hx<;>simp[hx])) (by rw[fV];exact k2) hr)with⟨p1,p2⟩|⟨p1,p2⟩
   .rw [bk p1];exact .inl p2
   .rw [bj (by rw[p1];simp)];exact p2
def ajH{us:List (Oper×kO)}(Ai:us.map (·.1)=gX.toList)(hp:Fj gX 0 us=true):
 ∃ R:List (Nat×Oper×kO),R.map (·.2)=us/\R.length=gX.size/\Left gX (Array.replicate gX.size false) R:=by
 have key:∀ (us:List (Oper×kO)) (k:Nat),Fj gX k us=true->(∀ j x,us[j]? = some x->gX[k+j]? = some x.1) ->
  ∃ R:List (Nat×Oper×kO),R.map (·.2)=us/\(∀ j x,R[j]? = some x->x.1=k+j)/\(∀ x,x ∈ R->gX[x.1]? = some x.2.1)/\(R.Pairwise λx y=>x.1<y.1/\(B2 gX 3 y.2.1 x.1||De gX x.2 y.2)=true) /\
   (∀ x,x ∈ R->∀ e,e ∈ x.2.1.after->Region.binds .any e=true->e.on<x.1):=by
  intro us
  induction us with
  |nil=>exact λk _ _=>⟨[],rfl,λj x h=>by simp at h,λx h=>by simp at h,List.Pairwise.nil,λx h=>by simp at h⟩
  |cons x us ih=>
   intro k hp pC;simp only[Fj,bO]at hp;obtain⟨R,r1,r2,r3,r4,r5⟩:=ih (k+1) hp.2 (λj y hy=>by have:=pC (j+1) y (by simpa using hy);rwa[(aE:k+(j+1)=k+1+j)]at this);have s5:∀ y,y ∈ R->k<y.1/\y.2 ∈ us:=by
    intro y hy;obtain⟨j,hj⟩:=dC.1 hy;have:=r2 j y hj;exact⟨aE,by rw[<-r1];exact dv.2 ⟨y,hy,rfl⟩⟩
   refine⟨(k,x)::R,by simp[r1],λj y hy=>?_,λy hy=>?_,?_,λy hy=>?_⟩
   .cases j with
    |zero=>simp at hy;subst hy;rfl
    |succ j=>have:=r2 j y (by simpa using hy);omega
   .rcases di.1 hy with hy|hy
    .subst hy;have:=pC 0 x rfl;simpa using this
    .exact r3 y hy
   .rw [aqC];refine⟨λy hy=>⟨(s5 y hy).1,?_⟩,r4⟩;exact bX.1 hp.1.2 y.2 (s5 y hy).2
   .rcases di.1 hy with hy|hy
    .subst hy;intro e he hb;have:=bX.1 hp.1.1 e (by simpa using he);simpa[hb]using this
    .exact r5 y hy
 obtain⟨R,r1,r2,r3,r4,r5⟩:=key us 0 hp (λj x hx=>by
  rw[cj];have:=congrArg (·[j]?) Ai;simp only[cF,hx,cH]at this;simpa using this.symm)
 have hlen:R.length=gX.size:=by
  have h1:=congrArg List.length r1;have h2:=congrArg List.length Ai;simp at h1 h2;omega
 refine⟨R,r1,hlen,λx hx=>⟨r3 x hx,?_⟩,λi hi _=>?_,r4,r5,λx hx j z hz _=>by have:=(de.1 hz).1;simp[this]⟩
 .have:=(de.1 (r3 x hx)).1;simp[this]
 .have mS:i<R.length:= aE ;exact⟨R[i],cG mS,by have:=r2 i R[i] (bF mS);omega⟩
end
def PS.le(σ τ:PS):Prop:=∀ (w0:World) (B:Nat->Prop) (a:Act) (w:World) (L:Lk),(∀ b,B b->b<w0.heap.size)->jd w0 B σ a w L->∃ L',jd w0 B τ a w L'
def PS.le.refl(σ:PS):PS.le σ σ:=λ_ _ _ _ L _ r=>⟨L,r⟩
def PS.le.trans{σ τ υ:PS}(h:PS.le σ τ)(k:PS.le τ υ):PS.le σ υ:=λw0 B a w L g r=>let⟨L',r'⟩:=h w0 B a w L g r;k w0 B a w L' g r'
def PV.le.refl(p:PV):PV.le p p:=λ_ _ _ _ _ h=>h
def Bx.le(a b:Bx):Prop:=(a.nl=true->b.nl=true)/\∀ (bs br:Nat->Prop) (L:Lk) (w:World) (id:Nat),rn bs br L w id a->rn bs br L w id b
def Bx.le.refl(a:Bx):Bx.le a a:=⟨id,λ_ _ _ _ _ h=>h⟩
def yA(σ:PS):List (Nat×PV)->Prop
 | []=>True
 | (k,p)::l=>PV.le (σ.get k) p/\yA σ l
def xx(σ:PS):List (Nat×Bx)->Prop
 | []=>True
 | (id,b)::l=>(∃ b',σ.bo id=some b'/\Bx.le b' b)/\xx σ l
def Iu(τ:PS):Bool:=τ.t.all λx=>x.2.mo.all λid=>(look τ.b id).isSome
def Pw{α:Type}{l:List (Nat×α)}{t:Nat}{x:α}(h:look l t=some x):(t,x) ∈ l:=by
 induction l with
 |nil=>cases h
 |cons y l ih=>
  obtain⟨k,z⟩:=y;rw[ve]at h;split at h
  .rename_i e;cases h;subst e;exact .head _
  .exact .tail _ (ih h)
def yA.get{σ:PS}{l:List (Nat×PV)}(h:yA σ l){t:Nat}{p:PV}(k:look l t=some p):PV.le (σ.get t) p:=by
 induction l with
 |nil=>cases k
 |cons y l ih=>
  obtain⟨q,z⟩:=y;rw[ve]at k;split at k
  .rename_i e;cases k;subst e;exact h.1
  .exact ih h.2 k
def xx.get{σ:PS}{l:List (Nat×Bx)}(h:xx σ l){t:Nat}{b:Bx}(k:look l t=some b):∃ b',σ.bo t=some b'/\Bx.le b' b:=by
 induction l with
 |nil=>cases k
 |cons y l ih=>
  obtain⟨q,z⟩:=y;rw[ve]at k;split at k
  .rename_i e;cases k;subst e;exact h.1
  .exact ih h.2 k
def PS.le.pr{σ τ:PS}(hn:σ.n=τ.n)(jL:τ.nl=σ.nl)(hr:Iu τ=true)(ht:yA σ τ.t)(hb:xx σ τ.b):PS.le σ τ:=λw0 B a w L _ r=>by
 let L':Lk:=⟨λid=>L.mP id/\(τ.bo id).isSome=true,λid x=>L.own id x/\(τ.bo id).isSome=true,L.val,L.iN⟩
 have iC:sL L w L' w:=⟨bu _,λx _ ⟨id,h,_⟩=>⟨id,h⟩,λ_ _ _=>rfl⟩
 refine⟨L',r.hd,by rw[<-hn];exact r.hs,λt=>?_,λid b h=>?_,λid=>?_,λid x h=>⟨r.hn id x h.1,h.2⟩,λid x h=>r.hw id x h.1,λid id' x h k=>r.hi id id' x h.1 k.1,r.he,λh id b k=>?_⟩
 .have hg:τ.get t=((look τ.t t)).getD (.e .any):=rfl;cases hl:look τ.t t with
  |none=>rw[hg,hl];exact .any _
  |some p=>
   rw[hg,hl];have:=ht.get hl _ _ _ _ _ (r.ht t);refine nI.move iC this λid hid s6=>⟨⟨s6,?_⟩,rfl,λ_=>rfl⟩
   have q:=bX.1 hr _ (Pw hl);exact bX.1 q id hid
 .obtain ⟨b',h1,h2⟩:=hb.get h;have hs:(τ.bo id).isSome=true:=by rw[h];rfl
  exact(h2.2 _ _ _ _ _ (r.hb id b' h1)).later iC rfl (λx=>⟨λq=>q.1,λq=>⟨q,hs⟩⟩) (λ_=>rfl) λ_ _=>rfl
 .show L.mP id/\(τ.bo id).isSome=true↔(τ.bo id).isSome=true;refine⟨λh=>h.2,λh=>⟨(r.hv id).2 ?_,h⟩⟩;obtain⟨b,jg⟩:=fF.1 h;obtain⟨b',h1,_⟩:=hb.get jg;rw[h1];rfl
 .obtain ⟨b',h1,h2⟩:=hb.get k;exact h2.1 (r.hl (by rw[<-jL];exact h) id b' h1)
def F5(σ:PS):List Nat->List (Nat×Bx)
 | []=>[]
 |i::l=>match σ.bo i with
  |some b=>(i,b)::F5 σ l
  |none=>F5 σ l
def PS.cut(ts bs:List Nat)(σ:PS):PS:={ n:=σ.n,nl:=σ.nl,t:=ts.map λt=>(t,σ.get t),b:=F5 σ bs }
def yA.cut(σ:PS):∀ ts:List Nat,yA σ (ts.map λt=>(t,σ.get t))
 | []=>trivial
 |_::l=>⟨PV.le.refl _,yA.cut σ l⟩
def xx.cut(σ:PS):∀ bs:List Nat,xx σ (F5 σ bs)
 | []=>trivial
 |i::l=>by
  unfold F5;split
  .rename_i b h;exact⟨⟨b,h,Bx.le.refl b⟩,xx.cut σ l⟩
  .exact xx.cut σ l
def PS.le.cut{σ:PS}(ts bs:List Nat)(hr:Iu (σ.cut ts bs)=true):PS.le σ (σ.cut ts bs):=PS.le.pr rfl rfl hr (yA.cut σ ts) (xx.cut σ bs)
def Ex.to:Ex->Exit
 | .normal=>.normal
 | .exit id=>.exit id
 | .ret=>.ret
def Sp(P:Program)(K:World->Prop)(c:Code)(σ:PS)(Q:Ex->PS->Prop):Prop:=
 ∀ (w0:World) (B:Nat->Prop) (a:Act) (w:World) (L:Lk),Gd P K w0 B->jd w0 B σ a w L->c.wp P (λe a' w'=>∃ ex τ L',e=ex.to/\Q ex τ/\jd w0 B τ a' w' L') a w
def Sp.mono{P:Program}{K:World->Prop}{c:Code}{σ:PS}{Q Q':Ex->PS->Prop}(h:Sp P K c σ Q)(hq:∀ e τ,Q e τ->Q' e τ):Sp P K c σ Q':=
 λw0 B a w L g r=>Code.wp_mono (λ_ _ _ ⟨ex,τ,L',h1,h2,h3⟩=>⟨ex,τ,L',h1,hq _ _ h2,h3⟩) (h w0 B a w L g r)
abbrev Lo:=List (Nat×(Ex×PS×List Nat×List Nat))
section
variable {P:Program} {K:World->Prop} {T:List TI} {O:qB} {lo:Lo}
def Sp.loop{b:Code}{Q:Ex->PS->Prop}(J:Nat->PS->Prop)(qe:∀ n σ,J n σ->Sp P K b σ (λe τ=>(e = .normal/\∃ m,m<n/\J m τ)\/(e ≠ .normal/\Q e τ))):
 ∀ n σ,J n σ->Sp P K (.loop b) σ Q:=by
 intro n0 σ0 hJ0 w0 B a0 w1 L0 g r0 bf k cs;have key:∀ n σ a w L,J n σ->jd w0 B σ a w L ->
  ∃ e a' w',(∃ ex τ L',e=ex.to/\Q ex τ/\jd w0 B τ a' w' L')/\Arrives P (lone (bf.at a (.code b :: .inLoop b::k)) cs w) bf k cs e a' w':=by
  intro n
  induction n using Nat.strongRecOn with
  |_ n ih=>
   intro σ a w L hJ r;obtain⟨e,a₁,w₁,⟨ex,υ,L2,rfl,hq,nY⟩,uf⟩:=qe n σ hJ w0 B a w L g r bf (.inLoop b::k) cs;rcases hq with⟨rfl,m,hm,NP⟩|⟨ju,hq⟩
   .obtain ⟨e₂,a₂,w₂,OJ,Ob⟩:=ih m hm υ a₁ w₁ L2 NP nY;exact⟨e₂,a₂,w₂,OJ,.of_steps (Steps.trans uf (.one step_inLoop)) Ob⟩
   .cases ex with
    |normal=>exact absurd rfl ju
    |exit i=>exact⟨_,a₁,w₁,⟨.exit i,υ,L2,rfl,hq,nY⟩,.pass (x:=.inLoop b) rfl (λ_ _=>.inl (by simp[Ex.to])) uf⟩
    |ret=>exact⟨_,a₁,w₁,⟨.ret,υ,L2,rfl,hq,nY⟩,.pass (x:=.inLoop b) rfl (λ_ _=>.inl (by simp[Ex.to])) uf⟩
 obtain⟨e,a',w',hq,uf⟩:=key n0 σ0 a0 w1 L0 hJ0 r0;exact⟨e,a',w',hq,.of_steps (.one step_loop) uf⟩
def aoK{w0:World}{B:Nat->Prop}{σ:PS}{a:Act}{w:World}{L:Lk}(hB:∀ b,B b->b<w0.heap.size)(r:jd w0 B σ a w L){p:PV}{e:E}(h:IM σ p=some e){v:Value}(hv:nI (jl B L) (jJ L) L w p v):
 iD B (λ_=>True) w e v:=by
 have VN:∀ id x,L.own id x->¬B x:=λid x hx hb=>by have:=hB x hb;have:=(r.hw id x hx).1;omega
 have own:∀ (v:Value) (T:TypeId) (n sz:Nat) (f:Nat->Nat->Value) (nl:Bool) (el:Nat->Nat->E) (id:Nat),oi w v T n sz f nl->(∀ x,v.ownBlock=some x->L.own id x) ->
  (∀ i j,i<n->j<sz->iD (jl B L) (jJ L) w (el i j) (f i j)/\(el i j).nr 2=true)->iD B (λ_=>True) w (.sl nl n sz el) v:=by
  intro v T n sz f nl el id h1 h2 h3;rcases h1 with⟨rfl,rfl⟩|⟨b,c,cur,rfl,hg,pj,oq,nC,ky,jL⟩
  .exact .sl nl 0 sz el none 0 f (bu _) aG (λ_=>rfl) (λi j hi=>absurd hi (bE i)) (λi j hi=>absurd hi (bE i)) (λi j hi=>absurd hi (bE i)) (λi j hi=>absurd hi (bE i))
  .have tz:=h2 b rfl;refine .sl nl n sz el _ c f pj (by unfold maxLen at oq;omega) (λh=>by cases h) (λi j hi hj=>⟨(ky i j hi hj).2,λhn=>jL hn _ (dV (ky i j hi hj).1)⟩) (λi j hi hj=>(h3 i j hi hj).2)
    (λi j hi hj=>⟨b,0,rfl,VN id b tz,(r.hw id b tz).2,?_⟩) (λi j hi hj=>((h3 i j hi hj).1.qN (λ_ h=>.inl h) (λ_ h=>h)).nr 2 (h3 i j hi hj).2)
   rw[cj];simp only[World.cell?,hg];simpa using(ky i j hi hj).1
 cases p with
 |e x=>
  simp only[IM]at h;split at h
  .rename_i hn;cases h;exact(iD.qN (bs':=B) (br':=jJ L) (λ_ h=>.inl h) (λ_ h=>h) hv).nr 3 hn
  .cases h
 |own id=>
  obtain⟨_,rfl⟩:=hv;simp only[IM]at h;split at h
  .rename_i nl T n sz el jg;cases h;obtain⟨f,h1,h2,h3⟩:=r.hb id _ jg;exact own _ T n sz f nl el id h1 (λx hx=>(h2 x).2 hx) h3
  .rename_i nl T1 T0 n sz len el jg;cases h;rcases r.hb id _ jg with⟨h1,h2,_⟩|jh
   .subst h2;rw[h1];exact .sl true 0 1 _ none 0 (λ_ _=>undef) (bu _) aG (λ_=>rfl) (λi j hi=>absurd hi (bE i)) (λi j hi=>absurd hi (bE i)) (λi j hi=>absurd hi (bE i)) (λi j hi=>absurd hi (bE i))
   obtain⟨b,c,cur,f,h1,h2,h3,h4,h5,h6,h7,h8,h9,qF,sP⟩:=jh;have tz:L.own id b:=(h9 b).2 (.inl rfl);rw[h1];refine .sl true n 1 _ _ c (λk _=>L.iN id k) h3 (by unfold maxLen at h4;omega) (λh=>by cases h) (λk j hk hj=>?_) (λk j hk hj=>rfl)
    (λk j hk hj=>⟨b,0,rfl,VN id b tz,(r.hw id b tz).2,?_⟩) (λk j hk hj=>own _ T0 (len k) sz (f k) nl (el k) id (h8 k hk).1 (λx hx=>(h9 x).2 (.inr ⟨k,hk,hx⟩)) (h8 k hk).2)
   .obtain ⟨_,q1,q2⟩:=(h8 k hk).1.head;exact⟨q1,λ_=>q2⟩
   .rw [cj,ck];obtain rfl:j=0:= aE ;simp only[World.cell?,h2];simpa using h6 k hk aK 
  .cases h
 |iN id k=>
  obtain⟨_,rfl⟩:=hv;simp only[IM]at h;split at h
  .rename_i nl T1 T0 n sz len el jg;split at h
   .rename_i hk;have hk:k<n:=by simpa[fY]using hk
    cases h;obtain⟨b,c,cur,f,h1,h2,h3,h4,h5,h6,h7,h8,h9,qF,sP⟩:=(r.hb id _ jg).xr aE;exact own _ T0 (len k) sz (f k) nl (el k) id (h8 k hk).1 (λx hx=>(h9 x).2 (.inr ⟨k,hk,hx⟩)) (h8 k hk).2
   .cases h
  .cases h
 |_=>cases h
def DO(tmps:Array Value):ResultVar->Sem Value
 | .tmp t=>Pure.pure (tmps.getD t undef)
 | .cell q t=>do loadVar t (<-asAddr (tmps.getD q undef))
def QG(fn:Func)(tmps:Array Value):results fn tmps=(do
 let vs <-fn.results.mapM (DO tmps)
 Pure.pure (if h:vs.size=1 then vs[0]else .tuple vs)):=by
 unfold results;congr 1
def amM{w0:World}{B:Nat->Prop}{σ:PS}{a:Act}{w:World}{L:Lk}(hT:mL P T)(hB:∀ b,B b->b<w0.heap.size)(r:jd w0 B σ a w L){x:ResultVar}{e:E}(h:QF T σ x=some e):
 ∃ v,(DO a.tmps x).run P w = .ok v w/\iD B (λ_=>True) w e v:=by
 cases x with
 |tmp t=>exact⟨_,rfl,aoK hB r h (r.ht t)⟩
 |cell q t=>
  simp only[QF]at h;split at h
  .rename_i ti rE;split at h
   .rename_i l is OK;obtain⟨b,of,vs,e1,h1,h2,h3⟩:=r.read (r.ht q) OK (λq hq=>by simp at hq);by_cases ha:ti.isAgg=true
    .rw [bk ha]at h;split at h
     .rename_i hn;cases h;refine⟨.agg vs.toArray,?_,(iD.qN (bs':=B) (br':=jJ L) (λ_ h=>.inl h) (λ_ h=>h) h1.agg).nr 3 hn⟩;simp only[DO,e1,asAddr,Sem.run_bind,Sem.run_pure,Result.andThen_ok,ZY hT w rE ha b of vs h2 h3]
     .cases h
    .rw [bj ha]at h;split at h
     .rename_i y;split at h
      .rename_i hn;cases h;obtain⟨z,zs,rfl,hz,_⟩:=h1.mG;refine⟨z,?_,(iD.qN (bs':=B) (br':=jJ L) (λ_ h=>.inl h) (λ_ h=>h) hz).nr 3 hn⟩;simp only[DO,e1,asAddr,Sem.run_bind,Sem.run_pure,Result.andThen_ok,QR hT w rE (by simpa using ha) b of z (by simpa using h3 0 z rfl)]
      .cases h
     .cases h
   .cases h
  .cases h
def amK{w0:World}{B:Nat->Prop}{σ:PS}{a:Act}{w:World}{L:Lk}(hT:mL P T)(hB:∀ b,B b->b<w0.heap.size)(r:jd w0 B σ a w L){l:List ResultVar}{es:List E}(h:Fu T σ l=some es):
 ∃ vs,(l.mapM (DO a.tmps)).run P w = .ok vs w/\kr B (λ_=>True) w es vs:=by
 induction l generalizing es with
 |nil=>simp only[Fu,bG]at h;subst h;exact⟨[],rfl,.nil _ _ _⟩
 |cons x l ih=>
  simp only[Fu]at h;split at h
  .rename_i e es' h1 h2;cases h;obtain⟨v,q1,q2⟩:=amM hT hB r h1;obtain⟨vs,p1,p2⟩:=ih h2;refine⟨v::vs,?_,.cons q2 p2⟩;rw[fD];simp only[Sem.run_bind,q1,Result.andThen_ok,p1,Sem.run_pure]
  .cases h
def amL{w0:World}{B:Nat->Prop}{σ:PS}{a:Act}{w:World}{L:Lk}(hT:mL P T)(hB:∀ b,B b->b<w0.heap.size)(r:jd w0 B σ a w L){fn:Func}{e:E}(h:LC T fn σ=some e):
 ∃ v,(results fn a.tmps).run P w = .ok v w/\iD B (λ_=>True) w e v:=by
 unfold LC at h;have main:∀ es,Fu T σ fn.results.toList=some es->∃ vs:List Value,(fn.results.mapM (DO a.tmps)).run P w = .ok vs.toArray w/\kr B (λ_=>True) w es vs:=by
  intro es hes;obtain⟨vs,h1,h2⟩:=amK hT hB r hes;refine⟨vs,?_,h2⟩;rw[aqZ];simp only[Sem.run_map,h1,Result.andThen_ok]
 split at h
 .rename_i y hy;cases h;obtain⟨vs,h1,h2⟩:=main _ hy;obtain⟨v,vs',rfl,hv,CZ⟩:=h2.mG;have:=CZ.rj;subst this;refine⟨v,?_,hv⟩;rw[QG,Sem.run_bind,h1];simp
 .rename_i l ju hl;cases h;obtain⟨vs,h1,h2⟩:=main _ hl;refine⟨.tuple vs.toArray,?_,h2.iw⟩;rw[QG,Sem.run_bind,h1];have hlen:¬vs.length=1:=by
   rw[h2.len];intro e1
   match l,e1 with
   | [y],_=>exact ju y rfl
  simp[hlen]
 .cases h
def ait(args:List E):∀ (k t:Nat),look (He k args) t=if k<=t then(args[t-k]?).map .e else none:=by
 induction args with
 |nil=>intro k t;simp[He,look]
 |cons x l ih=>
  intro k t;simp only[He];rw[ve,ih (k+1) t];by_cases h:k=t
  .subst h;simp
  .rw [bj h];by_cases h2:k<=t
   .rw [bk aE,bk h2,(aE:t-k=(t-(k+1))+1)];simp
   .rw [bj aE,bj h2]
def jd.init{B:Nat->Prop}{w:World}{fn:Func}{args:List E}{vs:List Value}(hr:kr B (λ_=>False) w args vs)(hn:args.length<=fn.ntmps)(nl:Bool)(_hB:∀ b,B b->b<w.heap.size/\py w b):
 jd w B (BH fn nl args) { tmps:=vs.toArray++Array.replicate (fn.ntmps-vs.toArray.size) undef,defers:=[] } w ⟨λ_=>False,λ_ _=>False,λ_=>undef,λ_ _=>undef⟩:=by
 have hlen:=hr.len;refine⟨rfl,by simp[BH];omega,λt=>?_,λid b hb=>(by cases hb),λid=>⟨λh=>h.elim,λh=>(by cases h)⟩,λ_ _ h=>h.elim,λ_ _ h=>h.elim,λ_ _ _ h=>h.elim,Below.refl _ _,λ_ id b hb=>(by cases hb)⟩;have hg:(BH fn nl args).get t=((args[t]?).map PV.e).getD (.e .any):=by
  unfold PS.get BH;rw[ait];simp
 rw[hg];by_cases ht:t<args.length
 .have G6:t<vs.length:= aE ;rw[bF ht];have hv:(vs.toArray++Array.replicate (fn.ntmps-vs.toArray.size) undef).getD t undef=vs[t]:=by
   simp[Array.getElem?_append,G6]
  show iD _ _ _ _ _;rw[hv];exact(hr.kT t _ _ (bF ht) (bF G6)).qN (λb h=>h.elim id λ⟨_,h⟩=>h.elim) (λ_ ⟨_,h⟩=>h.elim)
 .rw [ch aE];exact .any _
def PC.PE(hT:mL P T)(hm:P.follows .mixedOrders=true)(hp:∀ w w',K w->Below w.heap.size w w'->K w'){f:FuncId}{fn:Func}{c:Code}{args:List E}{kf:E}(xK:∀ (vs:Array Value) (w:World),(callFunc f vs).run P w = .ok (.enter f vs) w)
 (hf:P.funcs[f]? = some fn) (hb:fn.body=some c) (hn:args.length<=fn.ntmps) (nl:Bool)
 (h:Sp P K c (BH fn nl args) (λe τ=>(e = .ret\/e = .normal)/\∃ r,LC T fn τ=some r/\∀ (bs br:Nat->Prop) (w:World) (v:Value),iD bs br w r v->iD bs br w kf v)):PC P K f args kf:=by
 refine⟨xK,λw B vs hK hB hr=>calls_of_wp hf hb ?_⟩;have yZ:=jd.init (fn:=fn) hr hn nl hB;refine Code.wp_mono ?_ (h w B _ w _ ⟨hK,hp,hB⟩ yZ);rintro e a' w' ⟨ex,τ,L',rfl,⟨he,r,GZ,hle⟩,xU⟩;obtain⟨v,h1,h2⟩:=amL hT (λb hb=>(hB b hb).1) xU GZ;have GY:a'.defers=[]/\∃ v,(results fn a'.tmps).run P w' = .ok v w'/\∃ v',Ending.returned v = .returned v'/\Below w.heap.size w w'/\iD B (λ_=>True) w' kf v':=⟨xU.hd,v,h1,v,rfl,xU.he,hle _ _ _ _ h2⟩
 rcases he with rfl|rfl
 .exact GY
 .exact GY
def wL.PE(hT:mL P T)(hm:P.follows .mixedOrders=true)(hp:∀ w w',K w->Below w.heap.size w w'->K w'){f:FuncId}{fn:Func}{c:Code}{args:List E}(xK:∀ (vs:Array Value) (w:World),(callFunc f vs).run P w = .ok (.enter f vs) w)
 (hf:P.funcs[f]? = some fn) (hb:fn.body=some c) (hn:args.length<=fn.ntmps) (nl:Bool) {nl':Bool} {T0:TypeId} {n sz:Nat} {el:Nat->Nat->E}
 (h:Sp P K c (BH fn nl args) (λe τ=>(e = .ret\/e = .normal)/\∃ t id b,fn.results.toList=[.tmp t]/\τ.get t = .own id/\τ.bo id=some b/\∀ (bs br:Nat->Prop) (L:Lk) (w:World),rn bs br L w id b->rn bs br L w id (.row nl' T0 n sz el))):wL P K f args nl' T0 n sz el:=by
 refine⟨xK,λw B vs hK hB hr=>calls_of_wp hf hb ?_⟩;have yZ:=jd.init (fn:=fn) hr hn nl hB;refine Code.wp_mono ?_ (h w B _ w _ ⟨hK,hp,hB⟩ yZ);rintro e a' w' ⟨ex,τ,L',rfl,⟨he,t,id,b,GZ,hg,jg,hle⟩,xU⟩;have ho:=xU.ht t;rw[hg]at ho;obtain⟨s6,hv⟩:=ho;obtain⟨f0,h1,h2,h3⟩:=hle _ _ _ _ (xU.hb id b jg);have kS:(results fn a'.tmps).run P w' = .ok (L'.val id) w':=by
  rw[QG,Sem.run_bind,aqZ,GZ,Sem.run_map,fD];simp only[DO,Sem.run_bind,Sem.run_pure,Result.andThen_ok,List.mapM_nil,hv];simp
 have GY:a'.defers=[]/\∃ v,(results fn a'.tmps).run P w' = .ok v w'/\∃ v',Ending.returned v = .returned v'/\Below w.heap.size w w'/\∃ g,oi w' v' T0 n sz g nl'/\(∀ x,v'.ownBlock=some x->w.heap.size<=x/\x<w'.heap.size) /\
  ∀ i j,i<n->j<sz->iD (λb=>B b\/v'.ownBlock=some b) (λ_=>True) w' (el i j) (g i j)/\(el i j).nr 2=true:=by
  refine⟨xU.hd,_,kS,_,rfl,xU.he,f0,h1,λx hx=>xU.hw id x ((h2 x).2 hx),λi j hi hj=>⟨?_,(h3 i j hi hj).2⟩⟩;refine((h3 i j hi hj).1.qN (bs':=λb=>B b\/(L'.val id).ownBlock=some b) (br':=jJ L') (λb hb=>?_) (λ_ h=>h)).nr 2 (h3 i j hi hj).2;rcases hb with hb|hb
  .exact .inl hb
  .exact .inr ⟨id,(h2 b).2 hb⟩
 rcases he with rfl|rfl
 .exact GY
 .exact GY
end
def I7(P:Program):List TI->Prop
 | []=>True
 |x::l=>(P.underlying x.id=some x.d/\P.info? x.id=some x.i)/\I7 P l
def I7.ok{P:Program}{T:List TI}(h:I7 P T):mL P T:=by
 induction T with
 |nil=>intro x hx;simp at hx
 |cons y l ih=>
  intro x hx;rcases di.1 hx with hx|hx
  .subst hx;exact h.1
  .exact ih h.2 x hx
def E.le(p q:E):Prop:=∀ (bs br:Nat->Prop) (w:World) (v:Value),iD bs br w p v->iD bs br w q v
def E.le.refl(p:E):E.le p p:=λ_ _ _ _ h=>h
def E.le.iT{p q:E}(h:p=q):E.le p q:=h▸E.le.refl p
def E.le.trans{p q r:E}(h:E.le p q)(k:E.le q r):E.le p r:=λ_ _ _ _ x=>k _ _ _ _ (h _ _ _ _ x)
def PV.le.e{p q:E}(h:E.le p q):aj p q:=λbs br _ w v k=>h bs br w v k
def PV.le.bool{a b:Bool}(h:a=b):aj (.v (.bool a)) (.v (.bool b)):=PV.le.e (.iT (by rw[h]))
def PV.le.int{k:IntKind}{a b:Int}(h:a=b):aj (.v (.int k a)) (.v (.int k b)):=PV.le.e (.iT (by rw[h]))
def aq(a b:Int)(h:a=b):aj (.v (.int .i64 a)) (.v (.int .i64 b)):=.int h
inductive uJ:List E->List E->Prop
 |nil:uJ [] []
 |cons {p q:E} {l m:List E} (h:E.le p q) (k:uJ l m):uJ (p::l) (q::m)
def uJ.refl:∀ l:List E,uJ l l
 | []=>.nil
 |p::l=>.cons (.refl p) (uJ.refl l)
def uJ.LB{l m:List E}(h:uJ l m){bs br:Nat->Prop}{w:World}{vs:List Value}(k:kr bs br w l vs):kr bs br w m vs:=by
 induction h generalizing vs with
 |nil=>exact k
 |cons h _ ih=>
  obtain⟨x,ys,rfl,h1,h2⟩:=k.mG;exact .cons (h _ _ _ _ h1) (ih h2)
def E.le.agg{l m:List E}(h:uJ l m):E.le (.agg l) (.agg m):=λ_ _ _ _ k=>by
 obtain⟨vs,rfl,hr⟩:=iD.Cm k;exact(h.LB hr).agg
def E.le.iw{l m:List E}(h:uJ l m):E.le (.iw l) (.iw m):=λ_ _ _ _ k=>by
 obtain⟨vs,rfl,hr⟩:=iD.abm k;exact(h.LB hr).iw
def E.le.nil(nl:Bool)(sz:Nat)(el:Nat->Nat->E):E.le (.v (.slice none 0 0)) (.sl nl 0 sz el):=λ_ _ _ _ k=>by
 obtain rfl:=iD.kJ k;exact .sl nl 0 sz el none 0 (λ_ _=>undef) (bu _) aG (λ_=>rfl) (λi j h=>absurd h (bE i)) (λi j h=>absurd h (bE i)) (λi j h=>absurd h (bE i)) (λi j h=>absurd h (bE i))
def E.le.sl{nl:Bool}{n sz:Nat}{el el':Nat->Nat->E}(h:∀ i j,i<n->j<sz->E.le (el i j) (el' i j)/\(el' i j).nr 2=true):E.le (.sl nl n sz el) (.sl nl n sz el'):=λbs br w v k=>by
 cases k with
 |sl _ _ _ _ A c f hc hm h0 hl hr cell kk=>
  exact .sl nl n sz el' A c f hc hm h0 hl (λi j hi hj=>(h i j hi hj).2) cell λi j hi hj=>(h i j hi hj).1 _ _ _ _ (kk i j hi hj)
def PC.le{P:Program}{K:World->Prop}{f:FuncId}{args args':List E}{kf res':E}(h:PC P K f args kf)(ha:uJ args' args)(hr:E.le kf res'):PC P K f args' res':=
 ⟨h.call,λw B vs hK hB sF=>(h.run w B vs hK hB (ha.LB sF)).mono λ_ _ ⟨v,h1,h2,h3⟩=>⟨v,h1,h2,hr _ _ _ _ h3⟩⟩
def PC.kf{P:Program}{K:World->Prop}{f:FuncId}{args:List E}{kf res':E}(h:PC P K f args kf)(hr:E.le kf res'):PC P K f args res':=h.le (uJ.refl _) hr
end Go.Proofs.YtgdahmmlddfimaaGreatDoor.Pu
namespace Go.Proofs.YtgdahmmlddfimaaGreatDoor
open Go.RowKit Fp
def wm(A:Option Addr)(c:Nat)(L:List Nat)(w:World)(hs:Sl w A c L):
 Calls prog 263 #[.slice A L.length c] w λe w'=>e = .returned (.slice A (iG L).length c)/\w=w':=by
 have hc:=hs.cap;have hl:=hs.rH;go_enter func263,ntmps263;go_wp2;go_loop [3] (λi=>∃ k:Nat,k<=L.length/\i = .int .i64 k/\mX L=mX (L.take k)) (λi=>(intOf i).toNat)
 case atStart=>exact⟨L.length,bu _,rfl,aK⟩
 case round=>
  obtain⟨k,hk,rfl,ht⟩:=hrel;have HT:=aq9 ht;clear ht;by_cases h0:0<k
  .obtain ⟨ab,ao,rfl,hb,h1⟩:=hs.mi (i:=k-1) aE ;have e1:((k:Int)-1).toNat=k-1:= aE ;have Z:=aq9 (Rg L (k-1) aE);have NZ:=aq9 (Rf L (k-1) aE);rw[gG h0]at Z NZ;generalize L[k-1]=x at *
   by_cases hx:x=0
   .have Hx:=aq9 hx;clear hx;have hb:((x:Int)==0)=true:=by have:=Hx.out;simp;omega
    go_wp2;go_round
    case rel=>exact⟨k-1,aE,by go_num,by rw[HT.out,Z.out Hx.out]⟩
    case measure=>simp[intOf];omega
   .have hb:((x:Int)==0)=false:= aS ;go_wp2;go_ret;exact⟨LF (by show _=mX L;rw[HT.out,NZ.out hx]),rfl⟩
  .go_wp2;go_ret;have:k=0:= aE ;subst this;exact⟨LF (by show _=mX L;rw[HT.out];rfl),rfl⟩
def afS(A:Option Addr)(c:Nat)(L:List Nat)(w:World)(hs:Sl w A c L):
 Calls prog 258 #[.slice A L.length c] w λe w'=>e = .returned (.slice A (iG L).length c)/\w=w':=by
 have hc:=hs.cap;have hl:=hs.rH;go_enter func258,ntmps258;go_wp2;go_loop [3] (λi=>∃ k:Nat,k<=L.length/\i = .int .i64 k/\mX L=mX (L.take k)) (λi=>(intOf i).toNat)
 case atStart=>exact⟨L.length,bu _,rfl,aK⟩
 case round=>
  obtain⟨k,hk,rfl,ht⟩:=hrel;have HT:=aq9 ht;clear ht;by_cases h0:0<k
  .obtain ⟨ab,ao,rfl,hb,h1⟩:=hs.mi (i:=k-1) aE ;have e1:((k:Int)-1).toNat=k-1:= aE ;have Z:=aq9 (Rg L (k-1) aE);have NZ:=aq9 (Rf L (k-1) aE);rw[gG h0]at Z NZ;generalize L[k-1]=x at *
   by_cases hx:x=0
   .have Hx:=aq9 hx;clear hx;have hb:((x:Int)==0)=true:=by have:=Hx.out;simp;omega
    go_wp2;go_round
    case rel=>exact⟨k-1,aE,by go_num,by rw[HT.out,Z.out Hx.out]⟩
    case measure=>simp[intOf];omega
   .have hb:((x:Int)==0)=false:= aS ;go_wp2;go_ret;exact⟨LF (by show _=mX L;rw[HT.out,NZ.out hx]),rfl⟩
  .go_wp2;go_ret;have:k=0:= aE ;subst this;exact⟨LF (by show _=mX L;rw[HT.out];rfl),rfl⟩
def Sl.vt{w:World}{A:Option Addr}{c:Nat}{L:List Nat}(h:Sl w A c L):Sl w A c (iG L):=(h.take (mX L)).eqv (L6 L).symm
def adh:Go.Shelf.Ren:=⟨λ|128=>296|n=>n,λ|51=>171|3=>3|4=>4|46=>190|5=>5|9=>9|n=>n,λ|n=>n⟩
def ac9:Go.Proofs.Lays.n128 prog adh:={
 mixed:= aI 
 f128:=func296.trans (congrArg some aI)
 t3:=underlying3
 a3:=Tryz.isAgg3
 z3:=Tryz.sizeOf3
 v3:=Tryz.zeroValue3
 t4:=underlying4
 a4:=Tryz.isAgg4
 z4:=Tryz.sizeOf4
 v4:=Tryz.zeroValue4
 t5:=underlying5
 a5:=Tryz.isAgg5
 z5:=Tryz.sizeOf5
 v5:=Tryz.zeroValue5
 t9:=underlying9
 a9:=Tryz.isAgg9
 z9:=Tryz.sizeOf9
 v9:=Tryz.zeroValue9
 t46:=underlying190
 a46:=Tryz.isAgg190
 z46:=Tryz.sizeOf190
 v46:=Tryz.zeroValue190
 t51:=underlying171
 a51:=Tryz.isAgg171
 z51:=Tryz.sizeOf171
 v51:=Tryz.zeroValue171 }
def Xo(x:Nat)(hx:x<4294967296)(w:World):
 Calls prog 296 #[.int .u32 x] w λe w'=>e = .returned (.int .i64 (ie x))/\w=w':=by
 refine(Any.bits_Len32 ac9 x w aE aE).mono ?_;rintro e w' ⟨rfl,rfl⟩;rw[fX,ac5 x hx];exact⟨rfl,rfl⟩
def aoW(x k idx:Nat)(w:World)(oF:((x:Int)==0)=false)
 (key:bits BinOp.and IntKind.u32 (x:Int) (-(x:Int)%4294967296)*125613361%4294967296/134217728=(idx:Int))
 (hi:idx<32) (hk:k<32) (ky:w.cell? ⟨0,idx,none⟩=some (.int .u8 k)):
 Calls prog 292 #[.int .u32 x] w λe w'=>e = .returned (.int .i64 k)/\w=w':=by
 go_enter func292,ntmps292;go_wp2_with (simp only[key])
 go_ret;exact⟨rfl,rfl⟩
def aoV(x:Nat)(h0:x≠0)(hx:x<4294967296)(w:World)(hT:Tb w):
 Calls prog 292 #[.int .u32 x] w λe w'=>e = .returned (.int .i64 (jz x))/\w=w':=by
 rw[<-afg x h0 hx];obtain⟨CW,hk⟩:=Lib.lowest_bit 32 x h0 hx;obtain⟨hi,aih⟩:=Lib.deBruijn32_at _ hk;have ky:=hT _ hi;rw[aih]at ky;exact aoW x _ _ w aS (tz32_key x _ hx h0 CW) hi hk ky
def i64_in(n:Int)(h0:-9223372036854775808<=n)(h1:n<=9223372036854775807):IntKind.i64.wrap n=n:=by rw[IntKind.wrap_i64];omega
def SD{L M:List Nat}{n:Nat}(hs:iK L)(hM:iG L=M)(hn:M.length=n+1):
 ∃ x,M[n]? = some x/\x<4294967296/\(32*(n:Int)+(ie x:Int))=(ie (val L):Int)/\ie x<=32:=by
 have hk:iK M:=hM▸hs.iG;have ht:nJ M:=hM▸AM L;rcases aqs M with rfl|⟨l,x,rfl⟩
 .simp at hn
 .simp only[aqt,cz,fR,Nat.add_right_cancel_iff]at hn hk ht hM ⊢;subst hn;have hx:x≠0:=by simpa using(Cg _).1 ht aK 
  have iC:x<4294967296:=hk x aK;refine⟨x,aK,iC,?_,lY.2 iC⟩;have:=adg hk hx;rw[<-hM,qA]at this;omega
def Yk(A:Option Addr)(c:Nat)(L:List Nat)(w:World)(hs:Sl w A c L)(hlen:L.length<=100000000):
 Calls prog 265 #[.slice A L.length c] w λe w'=>e = .returned (.int .i64 (ie (val L)))/\w=w':=by
 have hT:=aq9 (wm A c L w hs);have kP:=hs.vt;have nX:=pY L;unfold mX at nX;generalize hM:iG L=M at *
 obtain⟨n,hn⟩:∃ n,n=M.length:=⟨_,rfl⟩
 rw[<-hn]at hT nX;rcases n with _|n
 .have hv:ie (val L)=0:=by rw[<-qA,hM,dw hn.symm];rfl
  have HV:=aq9 hv;clear hv hM hn;go_enter func265,ntmps265;go_wp2_with (go_at_call 263;refine hT.out.mono ?_;rintro e w' ⟨rfl,rfl⟩)
  go_ret;exact⟨by rw[HV.out];rfl,rfl⟩
 .obtain ⟨x,hx,iC,hb,ahO⟩:=SD hs.ok hM hn.symm;obtain⟨ab,ao,rfl,_,ky⟩:=kP.cell _ _ hx;have HB:=aq9 hb;clear hb hM hn hx;go_enter func265,ntmps265;go_wp2_with (first|(go_at_call 263;refine hT.out.mono ?_;rintro e w' ⟨rfl,rfl⟩)|(go_at_call 296;refine(Xo x iC _).mono ?_;rintro e w' ⟨rfl,rfl⟩))
  go_ret;exact⟨oZ HB.out,rfl⟩
def ade{x:Nat}(h:x≠0):ie x=ie (x/2)+1:=by
 by_cases h1:x/2=0
 .have:x=1:= aE ;subst this;rfl
 .have e1:=rP h1;have e2:=qw (x/2);have e3:=ny h1;generalize ie (x/2)=k at *
  obtain⟨j,rfl⟩:∃ j,k=j+1:=⟨k-1,aE⟩
  rw[er]at e1;refine yH ?_ ?_
  .rw [bI];omega
  .rw [bI];omega
def QB(A:Option Addr)(c:Nat)(L:List Nat)(w:World)(hs:Sl w A c L)(ht:nJ L)(hlen:L.length<=100000000):
 Calls prog 156 #[.slice A L.length c] w λe w'=>e = .returned (.int .i64 (ie (val L)))/\w=w':=by
 obtain⟨n,hn⟩:∃ n,n=L.length:=⟨_,rfl⟩
 rcases n with _|n
 .have hv:ie (val L)=0:=by rw[dw hn.symm];rfl
  have HV:=aq9 hv;rw[<-hn];clear hv ht hn;go_enter func156,ntmps156;go_wp2;go_ret;exact⟨by rw[HV.out];rfl,rfl⟩
 .obtain ⟨x,hx,iC,hb,ahO⟩:=SD hs.ok ht hn.symm;obtain⟨ab,ao,rfl,_,ky⟩:=hs.cell _ _ hx;have HB:=aq9 hb;rw[<-hn]at hlen ⊢;clear hb ht hn hx;go_enter func156,ntmps156;go_wp2;go_loop [3,4] (λm y=>∃ (k z:Nat),z<4294967296/\y = .int .u32 z/\m = .int .i64 k/\k<=10000000000/\k+ie z=ie (val L)) (λ_ y=>(intOf y).toNat)
  case atStart=>exact⟨32*n,x,iC,rfl,by go_num,aE,by have:=HB.out;omega⟩
  case round=>
   obtain⟨k,z,hz,rfl,rfl,hk,he⟩:=hrel;have HE:=aq9 he;clear he;by_cases h0:0<z
   .have hh:=aq9 (ade (x:=z) aE);have xM:k<=3300000000:=by have:=HE.out;have:=HB.out;omega
    go_wp2;go_round
    case rel=>exact⟨k+1,z/2,aE,by go_num,by go_num,aE,by rw[<-HE.out,hh.out];omega⟩
    case measure=>simp[intOf];omega
   .obtain rfl:z=0:= aE ;go_wp2;go_ret;exact⟨oZ (by rw[<-HE.out];rfl),rfl⟩
def Tv{L M:List Nat}(hL:iK L)(h:(iG L).length<(iG M).length):kI (val L) (val M) = -1:=by
 have:=Md hL.iG (AM M) h;rw[qA,qA]at this;unfold kI;rw[bk this]
def Tu{L M:List Nat}(hM:iK M)(h:(iG M).length<(iG L).length):kI (val L) (val M)=1:=by
 have:=Md hM.iG (AM L) h;rw[qA,qA]at this;unfold kI;rw[bj aE,bk this]
def JG{M N:List Nat}(hM:iK M){k x y:Nat}(hl:M.length=N.length)(hx:M[k]? = some x)(hy:N[k]? = some y)(hd:M.drop (k+1)=N.drop (k+1))(h:x<y):val M<val N:=by
 obtain⟨h1,rfl⟩:=cr.1 hx;obtain⟨h2,rfl⟩:=cr.1 hy;exact ao9 hM k h1 hl hd h
def TW{M N:List Nat}{k x:Nat}(hx:M[k]? = some x)(hy:N[k]? = some x)(hd:M.drop (k+1)=N.drop (k+1)):M.drop k=N.drop k:=by
 obtain⟨h1,e1⟩:=cr.1 hx;obtain⟨h2,e2⟩:=cr.1 hy;rw[fj h1,fj h2,e1,e2,hd]
def K6(A B:Option Addr)(c d:Nat)(L M:List Nat)(w:World)(hs:Sl w A c L)(hr:Sl w B d M)(h1:L.length<=100000000)(_h2:M.length<=100000000):
 Calls prog 223 #[.slice A L.length c,.slice B M.length d] w λe w'=>e = .returned (.int .i64 (kI (val L) (val M)))/\iF w w':=by
 have hT:=aq9 (wm A c L w hs);have hU:=aq9 (wm B d M w hr);have kP:=hs.vt;have nY:=hr.vt;have nX:=pY L;have sE:=pY M;unfold mX at nX sE;by_cases iC:(iG L).length<(iG M).length
 .have HV:=aq9 (Tv hs.ok iC);have ju:(((iG L).length:Int) != ((iG M).length:Nat))=true:= aS ;generalize (iG L).length=n at *
  generalize (iG M).length=m at *
  clear kP nY;go_enter func223,ntmps223;go_wp2_with fail;refine hT.out.mono ?_;rintro e w' ⟨rfl,rfl⟩;go_wp2_with fail;refine hU.out.mono ?_;rintro e w' ⟨rfl,rfl⟩;go_wp2;go_ret;exact⟨oZ (by rw[HV.out]),iF.refl _⟩
 .by_cases EA:(iG M).length<(iG L).length
  .have HV:=aq9 (Tu hr.ok EA);have ju:(((iG L).length:Int) != ((iG M).length:Nat))=true:= aS ;generalize (iG L).length=n at *
   generalize (iG M).length=m at *
   clear kP nY;go_enter func223,ntmps223;go_wp2_with fail;refine hT.out.mono ?_;rintro e w' ⟨rfl,rfl⟩;go_wp2_with fail;refine hU.out.mono ?_;rintro e w' ⟨rfl,rfl⟩;go_wp2;go_ret;exact⟨oZ (by rw[HV.out]),iF.refl _⟩
  .have hl:(iG L).length=(iG M).length:= aE ;have HL:=aq9 hl;rw[<-hl]at hU sE;have e1:=qA L;have e2:=qA M;generalize iG L=P at *
   generalize iG M=Q at *
   have E1:=aq9 e1;have E2:=aq9 e2;clear e1 e2 hl EA iC;obtain⟨n,hn⟩:∃ n,n=P.length:=⟨_,rfl⟩
   rw[<-hn]at hT hU sE nX;have HN:=aq9 hn;clear hn;have ju:((n:Int) != (n:Int))=false:= aK ;have okP:=kP.ok;have DE:=nY.ok;go_enter func223,ntmps223;go_wp2_with fail;refine hT.out.mono ?_;rintro e w' ⟨rfl,rfl⟩;go_wp2_with fail;refine hU.out.mono ?_;rintro e w' ⟨rfl,rfl⟩;go_wp2;go_loopw [5] (λi wr=>∃ k:Nat,k<=n/\i = .int .i64 ((k:Int)-1)/\P.drop k=Q.drop k/\iF w wr) (λi _=>(intOf i+1).toNat)
   case atStart=>exact⟨n,bu _,rfl,by rw[eo (by rw[<-HN.out];exact bu _),eo (by rw[<-HL.out,<-HN.out];exact bu _)],iF.refl _⟩
   case round=>
    obtain⟨k,hk,rfl,hd,hb⟩:=hrel;have HD:=aq9 hd;clear hd;rcases k with _|k
    .go_wp2;go_ret;have e:P=Q:=by simpa using HD.out
     exact⟨oZ (by rw[<-E1.out,<-E2.out,e];unfold kI;simp),hb⟩
    .have CU:k<P.length:=by have:=HN.out;omega
     have Ac:k<Q.length:=by have:=HN.out;have:=HL.out;omega
     have HP:=aq9 (bF CU);have HQ:=aq9 (bF Ac);obtain⟨ab,ao,rfl,_,c1⟩:=(kP.below hb).mi CU;obtain⟨bb,bo,rfl,_,c2⟩:=(nY.below hb).mi Ac;have Ku:(k:Int)<n:= aE ;have ot:(0:Int)<=k:= aE ;have x0:(0:Int)<=P[k]:= aE ;have y0:(0:Int)<=Q[k]:= aE ;generalize P[k]=x at *
     generalize Q[k]=y at *
     clear CU Ac;by_cases q9:x<y
     .have OX:(x:Int)<y:= aE ;go_wp2;go_quiet (fail);go_wp2;go_ret;have h:=JG okP HL.out HP.out HQ.out HD.out q9;rw[E1.out,E2.out]at h;exact⟨oZ (by unfold kI;rw[bk h]),below_drewN hb _⟩
     .have OX:¬(x:Int)<y:= aE ;by_cases OY:y<x
      .have OZ:(y:Int)<x:= aE ;go_wp2;go_quiet (fail);go_wp2;go_quiet (fail);go_wp2;go_ret;have h:=JG DE HL.out.symm HQ.out HP.out HD.out.symm OY;rw[E1.out,E2.out]at h;exact⟨oZ (by unfold kI;rw[bj aE,bk h]),below_drewN (below_drewN hb _) _⟩
      .have OZ:¬(y:Int)<x:= aE ;have HX:=aq9 (aE:x=y);go_wp2;go_quiet (fail);go_wp2;go_quiet (fail);go_wp2;go_roundw
       case rel=>exact⟨k,aE,by go_num,TW HP.out (by rw[HX.out];exact HQ.out) HD.out,by repeat (first|exact hb|refine below_drewN ?_ _)⟩
       case measure=>simp[intOf];try omega
def ZG(A B:Option Addr)(c d:Nat)(P Q:List Nat)(w:World)(kP:Sl w A c P)(nY:Sl w B d Q)(tP:nJ P)(tQ:nJ Q)(h1:P.length<=100000000)(_h2:Q.length<=100000000):
 Calls prog 97 #[.slice A P.length c,.slice B Q.length d] w λe w'=>e = .returned (.int .i64 (kI (val P) (val Q)))/\iF w w':=by
 have tP':iG P=P:=tP;have tQ':iG Q=Q:=tQ;by_cases iC:P.length<Q.length
 .have HV:=aq9 (Tv (M:=Q) kP.ok (by rw[tP',tQ'];exact iC));have ju:((P.length:Int) != (Q.length:Nat))=true:= aS ;generalize P.length=n at *
  generalize Q.length=m at *
  clear kP nY tP' tQ' tP tQ;go_enter func97,ntmps97;go_wp2;go_ret;exact⟨oZ (by rw[HV.out]),iF.refl _⟩
 .by_cases EA:Q.length<P.length
  .have HV:=aq9 (Tu (L:=P) nY.ok (by rw[tP',tQ'];exact EA));have ju:((P.length:Int) != (Q.length:Nat))=true:= aS ;generalize P.length=n at *
   generalize Q.length=m at *
   clear kP nY tP' tQ' tP tQ;go_enter func97,ntmps97;go_wp2;go_ret;exact⟨oZ (by rw[HV.out]),iF.refl _⟩
  .have hl:P.length=Q.length:= aE ;have HL:=aq9 hl;rw[<-hl];clear hl EA iC tP' tQ' tP tQ _h2;obtain⟨n,hn⟩:∃ n,n=P.length:=⟨_,rfl⟩
   rw[<-hn]at h1 ⊢;have HN:=aq9 hn;clear hn;have ju:((n:Int) != (n:Int))=false:= aK ;have okP:=kP.ok;have DE:=nY.ok;go_enter func97,ntmps97;go_wp2;go_loopw [5] (λi wr=>∃ k:Nat,k<=n/\i = .int .i64 ((k:Int)-1)/\P.drop k=Q.drop k/\iF w wr) (λi _=>(intOf i+1).toNat)
   case atStart=>exact⟨n,bu _,rfl,by rw[eo (by rw[<-HN.out];exact bu _),eo (by rw[<-HL.out,<-HN.out];exact bu _)],iF.refl _⟩
   case round=>
    obtain⟨k,hk,rfl,hd,hb⟩:=hrel;have HD:=aq9 hd;clear hd;rcases k with _|k
    .go_wp2;go_ret;have e:P=Q:=by simpa using HD.out
     exact⟨oZ (by rw[e];unfold kI;simp),hb⟩
    .have CU:k<P.length:=by have:=HN.out;omega
     have Ac:k<Q.length:=by have:=HN.out;have:=HL.out;omega
     have HP:=aq9 (bF CU);have HQ:=aq9 (bF Ac);obtain⟨ab,ao,rfl,_,c1⟩:=(kP.below hb).mi CU;obtain⟨bb,bo,rfl,_,c2⟩:=(nY.below hb).mi Ac;have Ku:(k:Int)<n:= aE ;have ot:(0:Int)<=k:= aE ;have x0:(0:Int)<=P[k]:= aE ;have y0:(0:Int)<=Q[k]:= aE ;generalize P[k]=x at *
     generalize Q[k]=y at *
     clear CU Ac;by_cases q9:x<y
     .have OX:(x:Int)<y:= aE ;go_wp2;go_quiet (fail);go_wp2;go_ret;have h:=JG okP HL.out HP.out HQ.out HD.out q9;exact⟨oZ (by unfold kI;rw[bk h]),below_drewN hb _⟩
     .have OX:¬(x:Int)<y:= aE ;by_cases OY:y<x
      .have OZ:(y:Int)<x:= aE ;go_wp2;go_quiet (fail);go_wp2;go_quiet (fail);go_wp2;go_ret;have h:=JG DE HL.out.symm HQ.out HP.out HD.out.symm OY;exact⟨oZ (by unfold kI;rw[bj aE,bk h]),below_drewN (below_drewN hb _) _⟩
      .have OZ:¬(y:Int)<x:= aE ;have HX:=aq9 (aE:x=y);go_wp2;go_quiet (fail);go_wp2;go_quiet (fail);go_wp2;go_roundw
       case rel=>exact⟨k,aE,by go_num,TW HP.out (by rw[HX.out];exact HQ.out) HD.out,by repeat (first|exact hb|refine below_drewN ?_ _)⟩
       case measure=>simp[intOf];try omega
def M3(A:Option Addr)(c:Nat)(L:List Nat)(w:World)(hs:Sl w A c L):
 Calls prog 260 #[.slice A L.length c] w λe w'=>e = .returned (.slice A L.length L.length)/\w=w':=by
 have hc:=hs.cap;have hl:=hs.rH;go_enter func260,ntmps260;go_wp2;go_ret;exact⟨rfl,rfl⟩
def Sl.Tk{w:World}{A:Option Addr}{c:Nat}{L:List Nat}(h:Sl w A c L):Sl w A L.length L:=
 ⟨bu _,bA h.cap h.rH,h.ok,(λe=>by have:=h.zf e;have:=h.cap;omega),h.cell⟩
def M4(A:Option Addr)(c:Nat)(L:List Nat)(w:World)(hs:Sl w A c L)(hlen:L.length<=100000000):
 Calls prog 204 #[.slice A L.length c] w (uL w L):=by
 have hc:=hs.cap;have hl:=hs.rH;rcases A with _|ad
 .have h0:=hs.zf rfl;subst h0;have:L=[]:=dw aE;subst this;have q:=λ(w:World) (n' c':Nat)=>Lib.run_eql_slice_nil (P:=prog) w 29 _ none 0 0 n' c' underlying29
  simp only[Option.isNone_none]at q;go_enter func204,ntmps204;go_wp2;go_ret;exact⟨none,0,rfl,Sl.nil _,iF.refl _⟩
 .have q:=λ(w:World) (n' c':Nat)=>Lib.run_eql_slice_nil (P:=prog) w 29 _ (some ad) L.length c n' c' underlying29
  simp only[Option.isNone_some]at q;go_enter func204,ntmps204;have lk:([]:List Nat).length+L.length<=10000000000:= aS ;have h1:=Ow.empty w w.heap.size (bu _);have h2:=hs.alloc (.cells #[] 171);have h3:=sH (w:=w) (bu _) (.cells #[] 171);go_wp2_with (at_builtin;go_must (refine tg aJ _ _ aJ w.heap.size _ [] aJ h1 _ _ _ L aJ aJ h2 lk h3 ?_);intro v' w' mc hg pC)
  obtain⟨A',c',rfl,po⟩:=mc.sl;go_ret;exact⟨A',c',rfl,po,(iF.alloc _ _).grown hg (sH (bu _) _) (λk hk=>by simp[Value.ownBlock]at hk;omega)⟩
def DL(A:Option Addr)(c:Nat)(L:List Nat)(w:World)(hs:Sl w A c L)(hlen:L.length<=100000000):
 Calls prog 227 #[.slice A L.length c] w (uL w (iG L)):=by
 have hc:=hs.cap;have hl:=hs.rH;have fin:∀ k:Nat,k=(iG L).length->Hid (iG L=L.take k):=λk hk=>by rw[hk];exact L6 L
 go_enter func227,ntmps227;go_wp2;go_loop [3] (λi=>∃ k:Nat,k<=L.length/\i = .int .i64 k/\mX L=mX (L.take k)) (λi=>(intOf i).toNat)
 case atStart=>exact⟨L.length,bu _,rfl,aK⟩
 case round=>
  obtain⟨k,hk,rfl,ht⟩:=hrel;have HT:=aq9 ht;clear ht;have lk:([]:List Nat).length+(L.take k).length<=10000000000:=by rw[cw];simp;omega
  have HK:=aq9 (show k=(L.take k).length by rw[cw];omega);have h1:=Ow.empty w w.heap.size (bu _);have h2:=(hs.take k).alloc (.cells #[] 171);have h3:=sH (w:=w) (bu _) (.cells #[] 171);by_cases h0:0<k
  .obtain ⟨ab,ao,rfl,hb,KK⟩:=hs.mi (i:=k-1) aE ;have e1:((k:Int)-1).toNat=k-1:= aE ;have Z:=aq9 (Rg L (k-1) aE);have NZ:=aq9 (Rf L (k-1) aE);rw[gG h0]at Z NZ;generalize L[k-1]=x at *
   by_cases hx:x=0
   .have Hx:=aq9 hx;clear hx;have hb:((x:Int)==0)=true:=by have:=Hx.out;simp;omega
    clear fin;go_wp2;go_round
    case rel=>exact⟨k-1,aE,by go_num,by rw[HT.out,Z.out Hx.out]⟩
    case measure=>simp[intOf];omega
   .have hb:((x:Int)==0)=false:= aS ;have F:=fin k (by show k=mX L;rw[HT.out,NZ.out hx]);clear fin;go_wp2_with (at_builtin;go_must (refine tg aJ _ _ aJ w.heap.size _ [] aJ h1 _ _ _ (L.take k) aJ HK.out h2 lk h3 ?_);intro v' w' mc hg pC)
    obtain⟨A',c',rfl,po⟩:=mc.sl;go_ret;rw[F.out];exact⟨A',c',rfl,po,(iF.alloc _ _).grown hg (sH (bu _) _) (λk hk=>by simp[Value.ownBlock]at hk;omega)⟩
  .have:k=0:= aE ;subst this;have F:=fin 0 (by show 0=mX L;rw[HT.out];rfl);clear fin;go_wp2_with (at_builtin;go_must (refine tg aJ _ _ aJ w.heap.size _ [] aJ h1 _ _ _ (L.take 0) aJ HK.out h2 lk h3 ?_);intro v' w' mc hg pC)
   obtain⟨A',c',rfl,po⟩:=mc.sl;go_ret;rw[F.out];exact⟨A',c',rfl,po,(iF.alloc _ _).grown hg (sH (bu _) _) (λk hk=>by simp[Value.ownBlock]at hk;omega)⟩
def XF(A:Option Addr)(n c:Nat)(w:World):
 Calls prog 268 #[.slice A n c] w λe w'=>e = .returned (.bool (decide (256<n)))/\w=w':=by
 by_cases h:256<n
 .have h':(256:Int)<n:= aE ;go_enter func268,ntmps268;go_wp2;go_ret;exact⟨by simp[h],rfl⟩
 .have h':¬(256:Int)<n:= aE ;go_enter func268,ntmps268;go_wp2;go_ret;exact⟨aK,rfl⟩
def Mz(w:World)(g:Nat)(xs:List (Option Addr×Nat×Nat)):Prop:=∀ i x,xs[i]? = some x->w.cell? ⟨g,i,none⟩=some (.slice x.1 x.2.1 x.2.2)
def yy(xs:List (Option Addr×Nat×Nat)):Bool:=xs.any λx=>decide (256<x.2.1)
def abS(xs:List (Option Addr×Nat×Nat))(w:World)(e:Ending)(w':World):Prop:=
 ∃ n:Int,e = .returned (.int .i64 n)/\(0<=n↔yy xs=true)/\w=w'
def air(g:Nat)(xs:List (Option Addr×Nat×Nat))(w:World)(hs:Mz w g xs)(hn:xs.length<=1000):
 Calls prog 302 #[.slice (some ⟨g,0,none⟩) xs.length xs.length,.func (.func 268) #[] #[]] w (abS xs w):=by
 go_enter func302,ntmps302;go_wp2;go_loop [8] (λi=>∃ k:Nat,k<=xs.length/\i = .int .i64 k/\yy (xs.take k)=false) (λi=>xs.length-(intOf i).toNat)
 case atStart=>exact⟨0,bS _,rfl,rfl⟩
 case round=>
  obtain⟨k,hk,rfl,ht⟩:=hrel;have HT:=aq9 ht;clear ht;by_cases h0:k<xs.length
  .have hc:=hs k _ (bF h0);have e1:((k:Int)).toNat=k:= aE ;have ec:=ab6 g k;have HX:=aq9 (show yy (xs.take (k+1))=(yy (xs.take k)||decide (256<xs[k].2.1))by
    unfold yy;rw[fQ h0,List.any_append];simp)
   have HM:=aq9 (cG h0);generalize xs[k]=x at *
   obtain⟨A,n,c⟩:=x;simp only at hc HX;by_cases hx:256<n
   .have hb:decide (256<n)=true:=by simp[hx]
    go_wp2_with (go_at_call 268;refine(XF A n c _).mono ?_;rw[hb];rintro e w' ⟨rfl,rfl⟩)
    go_ret;refine⟨_,rfl,⟨λ_=>?_,λ_=> aE⟩,rfl⟩;unfold yy;rw[dY];exact⟨_,HM.out,by simpa using hx⟩
   .have hb:decide (256<n)=false:= aS ;go_wp2_with (go_at_call 268;refine(XF A n c _).mono ?_;rw[hb];rintro e w' ⟨rfl,rfl⟩)
    go_round
    case rel=>exact⟨k+1,aE,by go_num,by rw[HX.out,HT.out,hb];rfl⟩
    case measure=>simp[intOf];omega
  .go_wp2;go_ret;have e:xs.take k=xs:=cK aE;have:=HT.out;rw[e]at this;exact⟨_,rfl,by rw[this];simp,rfl⟩
def afc(g:Nat)(xs:List (Option Addr×Nat×Nat))(w:World)(hs:Mz w g xs)(hn:xs.length<=1000):
 Calls prog 267 #[.slice (some ⟨g,0,none⟩) xs.length xs.length,.func (.func 268) #[] #[]] w λe w'=>e = .returned (.bool (yy xs))/\w=w':=by
 have H:=aq9 (air g xs w hs hn);go_enter func267,ntmps267;go_wp2_with fail;refine H.out.mono ?_;rintro e w' ⟨n,rfl,hn,rfl⟩;have HN:=aq9 hn;clear hn;go_wp2;go_ret;refine⟨LD ?_,rfl⟩;have:=HN.out;cases h:yy xs<;>simp[h]at this ⊢ <;> omega
def XH(g:Nat)(xs:List (Option Addr×Nat×Nat))(w:World)(hs:Mz w g xs)(hn:xs.length<=1000):
 Calls prog 230 #[.slice (some ⟨g,0,none⟩) xs.length xs.length] w λe w'=>e = .returned (.bool (yy xs))/\w=w':=by
 have H:=aq9 (afc g xs w hs hn);go_enter func230,ntmps230;go_wp2_with fail;refine H.out.mono ?_;rintro e w' ⟨rfl,rfl⟩;go_wp2;go_ret;exact⟨rfl,rfl⟩
def Pv(g:Nat)(A:Option Addr)(n c:Nat)(w:World)(b:Bool)(h:w.cell? ⟨g,0,none⟩=some (.slice A n c))(hb:b=decide (256<n)):
 Calls prog 230 #[.slice (some ⟨g,0,none⟩) 1 1] w λe w'=>e = .returned (.bool b)/\w=w':=by
 have:=XH g [(A,n,c)] w (λi x hx=>by
  obtain⟨h1,h2⟩:=cr.1 hx;obtain rfl:i=0:=by simp at h1;omega
  simp at h2;subst h2;exact h) aK 
 simpa[yy,hb]using this
def XG(g:Nat)(A B:Option Addr)(n c m d:Nat)(w:World)(b:Bool)(h:w.cell? ⟨g,0,none⟩=some (.slice A n c))(k:w.cell? ⟨g,1,none⟩=some (.slice B m d))(hb:b=(decide (256<n)||decide (256<m))):
 Calls prog 230 #[.slice (some ⟨g,0,none⟩) 2 2] w λe w'=>e = .returned (.bool b)/\w=w':=by
 have:=XH g [(A,n,c),(B,m,d)] w (λi x hx=>by
  obtain⟨h1,h2⟩:=cr.1 hx;simp at h1;rcases i with _|_|i
  .simp at h2;subst h2;exact h
  .simp at h2;subst h2;exact k
  .omega) aK 
 simpa[yy,hb]using this
def Ia(A:Option Addr)(c:Nat)(L:List Nat)(w:World)(hs:Sl w A c L)(hl:(iG L).length<=256):
 Calls prog 231 #[.slice A L.length c] w (D3 w (iG L) 0):=by
 have hT:=aq9 (wm A c L w hs);have kP:=hs.vt;have hC:=hs.cap;have hL:=hs.rH;have H2:=aq9 (λw' (h:Sl w' A c (iG L))=>M3 A c (iG L) w' h);generalize iG L=M at *
 obtain⟨n,hn⟩:∃ n,n=M.length:=⟨_,rfl⟩
 rw[<-hn]at hT hl H2;have HN:=aq9 hn;clear hn;go_enter func231,ntmps231;go_wp2_with fail;refine hT.out.mono ?_;rintro e w' ⟨rfl,rfl⟩;go_wp2_with fail;refine(Pv _ A n c _ false ?_ aS).mono ?_
 .go_simp
 rintro e w' ⟨rfl,rfl⟩;go_wp2_with fail;refine(H2.out _ (kP.alloc _)).mono ?_;rintro e w' ⟨rfl,rfl⟩;go_wp2;go_ret2;exact⟨A,n,by rw[HN.out];rfl,by have:=kP.Tk.alloc (.cells #[.slice A n c] 29);rw[HN.out]at this ⊢;exact this,iF.alloc _ _⟩
def L9(a b:Nat)(ha:a<18446744073709551616)(hb:b<18446744073709551616):bits .or .u64 (a:Int) (b:Int)=((a |||b:Nat):Int):=by
 have hx:a |||b<2^64:=aqG aE aE 
 have h1:(BitVec.ofInt 64 (a:Int)).toNat=a:=by
  rw[gN,gO];exact ca aE 
 have h2:(BitVec.ofInt 64 (b:Int)).toNat=b:=by
  rw[gN,gO];exact ca aE 
 show IntKind.u64.wrap ((BitVec.ofInt 64 (a:Int) |||BitVec.ofInt 64 (b:Int)).toNat:Int)=_;rw[BitVec.toNat_or,h1,h2,IntKind.wrap_u64];omega
def Ll(a b k:Nat)(h:a<2^k):a |||b*2^k=a+b*2^k:=by
 rw[bL,Nat.or_comm,<-Nat.two_pow_add_eq_or_of_lt h];omega
def Sl.drop{w:World}{A:Option Addr}{c:Nat}{L:List Nat}(h:Sl w A c L)(k:Nat):Sl w (A.map (·.add k)) (c-k) (L.drop k):=
 ⟨by have:=h.cap;rw[eV];omega,bA (dz _ _) h.rH,h.ok.drop k,(λe=>by
  rcases A with _|ad
  .rw [h.zf rfl];omega
  .cases e),λi x hx=>by
  rw[eR]at hx;obtain⟨b,o,rfl,h1,h2⟩:=h.cell _ _ hx;exact⟨b,o+k,by rw[cH,Cl],h1,by rw[cR];exact h2⟩⟩
def part(T:List Nat)(k:Nat):List Nat:=T.take k++List.replicate (T.length-k) 0
def alw(T:List Nat):part T 0=List.replicate T.length 0:=by unfold part;simp
def alu(T:List Nat):part T T.length=T:=by unfold part;simp
def alv(T:List Nat)(k:Nat)(h:k<T.length):(part T k)[k]? = some 0:=by
 unfold part;rw[fu aX,cw,eZ,bk aE]
def Y1(T:List Nat)(k x:Nat)(h:T[k]? = some x):(part T k).set k x=part T (k+1):=by
 obtain⟨h1,rfl⟩:=cr.1 h;unfold part;rw[List.set_append_right _ _ aX,cw,dj aE,dq,
  fQ h1,(aE:T.length-k=(T.length-(k+1))+1),List.replicate_succ,List.set_cons_zero,aqz]
 rfl
def anN(x y s:Nat)(hx:x<4294967296)(hy:y<4294967296):
 bits BinOp.or IntKind.u64 (x:Int) ((y:Int)*4294967296)/2^s%4294967296=(((x+4294967296*y)/2^s%4294967296:Nat):Int):=by
 have e:((y:Int)*4294967296)=((y*2^32:Nat):Int):= aK ;rw[e,L9 x (y*2^32) aE aE,Ll x y 32 aE];simp[bL]
def anO(x s:Nat):(x:Int)/2^s%4294967296=(((x+4294967296*0)/2^s%4294967296:Nat):Int):=by
 simp
def PW(A:Option Addr)(c:Nat)(L:List Nat)(n:Nat)(w:World)(hs:Sl w A c L)(hlen:L.length<=100000000)(hn:n<=65536):
 Calls prog 232 #[.slice A L.length c,.int .i64 n] w (uL w (rk (n%32) ((iG L).drop (n/32)))):=by
 have hT:=aq9 (wm A c L w hs);have kP:=hs.vt;have nX:=pY L;have hC:=kP.cap;have hL:=hs.rH;unfold mX at nX;generalize iG L=M at *
 obtain⟨m,hm⟩:∃ m,m=M.length:=⟨_,rfl⟩
 rw[<-hm]at hT nX hC;have HM:=aq9 hm;clear hm;by_cases h0:m<=n/32
 .go_enter func232,ntmps232;go_wp2_with fail;refine hT.out.mono ?_;rintro e w' ⟨rfl,rfl⟩;go_wp2;go_ret;have:M.drop (n/32)=[]:=eo (by rw[<-HM.out];exact h0);rw[this];exact⟨none,0,rfl,Sl.nil _,iF.refl _⟩
 .obtain ⟨ab,ao,rfl,_,_⟩:=kP.mi (i:=0) (by have:=HM.out;omega);have hK:=kP.drop (n/32);have vN:=aq9 (show m-n/32=(M.drop (n/32)).length by rw[eV,HM.out]);have oV:n/32<c:= aE ;have pT:=E4 (m-n/32) aE;have oR:0<m-n/32:= aE ;have yQ:m-n/32<=100000000:= aE ;generalize M.drop (n/32)=K at *
  simp only[cH,Cl]at hK;have wY:=aq9 (LS (n%32) K);have NY:=aq9 (aaE (n%32) K);have GF:=aq9 (BU (n%32) K);generalize rk (n%32) K=T at *
  go_enter func232,ntmps232;go_wp2_with fail;refine hT.out.mono ?_;rintro e w' ⟨rfl,rfl⟩;go_wp2;go_loopw [25] (λi wr=>∃ k:Nat,k<=m-n/32/\i = .int .i64 k/\Rw wr w.heap.size (part T k)/\iF w wr) (λi _=>m-n/32-(intOf i).toNat)
  case atStart=>
   refine⟨0,bS _,rfl,?_,iF.alloc _ _⟩;rw[alw,wY.out,<-vN.out];exact Rw.y8 _ _
  case round=>
   obtain⟨k,hk,rfl,hR,hb⟩:=hrel;by_cases iC:k<m-n/32
   .have vS:k<K.length:=by have:=vN.out;omega
    obtain⟨ab',ao',e',_,c1⟩:=(hK.below hb).mi vS;cases e';have hg:=NY.out k vS;have mZ:K[k]<4294967296:=hK.ok.get vS;have HK:=aq9 (bF vS);have c3:=hR.cell (alv T k (by have:=wY.out;omega));have c4:=hR.frozen k;by_cases GS:k+1<m-n/32
    .have Ab:k+1<K.length:=by have:=vN.out;omega
     obtain⟨ab',ao',e',_,c2⟩:=(hK.below hb).mi Ab;cases e';have hy:K.getD (k+1) 0=K[k+1]:=by rw[bw,bF Ab];rfl
     rw[hy]at hg;have qg:K[k+1]<4294967296:=hK.ok.get Ab;have HG:=aq9 hg;clear hg hy;generalize K[k]=x at *
     generalize K[k+1]=y at *
     clear vS Ab;go_wp2;go_roundw
     case rel=>
      rw[anN x y (n%32) mZ qg];exact⟨k+1,aE,by go_num,by rw[<-Y1 T k _ HG.out];exact hR.set k _,hb.setCell (bu _) _⟩
     case measure=>simp[intOf];omega
    .have hy:K.getD (k+1) 0=0:=by rw[bw,ch (by have:=vN.out;omega)];rfl
     rw[hy]at hg;have HG:=aq9 hg;clear hg hy;generalize K[k]=x at *
     clear vS;go_wp2;go_roundw
     case rel=>
      rw[anO x (n%32)];exact⟨k+1,aE,by go_num,by rw[<-Y1 T k _ HG.out];exact hR.set k _,hb.setCell (bu _) _⟩
     case measure=>simp[intOf];omega
   .go_wp2;go_ret;obtain rfl:k=m-n/32:= aE ;rw[vN.out,<-wY.out,alu]at hR;have:=hR.sl GF.out (by have:=wY.out;have:=vN.out;omega);rw[wY.out,<-vN.out]at this;exact⟨_,_,by rw[wY.out,<-vN.out];rfl,this,hb⟩
def anM{L:List Nat}(h:iK L)(n:Nat):iG (rk (n%32) ((iG L).drop (n/32)))=gW (val L/2^n):=by
 rw[rO (BU _ _),Me h.iG,qA]
def RM(w:World)(A:Option Addr)(n c:Nat):(w.alloc (.cells #[.slice A n c] 29)).cell? ⟨w.heap.size,0,none⟩=some (.slice A n c):=by
 rw[World.cell?_alloc_at _ _ _ _ rfl];rfl
def RN(w:World)(A B:Option Addr)(n c m d:Nat):(w.alloc (.cells #[.slice A n c,.slice B m d] 29)).cell? ⟨w.heap.size,0,none⟩=some (.slice A n c):=by
 rw[World.cell?_alloc_at _ _ _ _ rfl];rfl
def RO(w:World)(A B:Option Addr)(n c m d:Nat):(w.alloc (.cells #[.slice A n c,.slice B m d] 29)).cell? ⟨w.heap.size,1,none⟩=some (.slice B m d):=by
 rw[World.cell?_alloc_at _ _ _ _ rfl];rfl
def Ys(A:Option Addr)(c:Nat)(L:List Nat)(n:Nat)(w:World)(hs:Sl w A c L)(hlen:L.length<=256)(hn:n<=65536):
 Calls prog 175 #[.slice A L.length c,.int .i64 n] w (D3 w (gW (val L/2^n)) 0):=by
 have hf:decide (256<L.length)=false:= aS ;have h3:=aq9 (anM hs.ok n);have h4:(iG (rk (n%32) ((iG L).drop (n/32)))).length<=256:=by
  have h1:=pY (rk (n%32) ((iG L).drop (n/32)));unfold mX at h1;rw[LS,eV]at h1;have h2:=pY L;unfold mX at h2;omega
 have H1:=aq9 (λw (h:Sl w A c L)=>PW A c L n w h aE hn);generalize rk (n%32) ((iG L).drop (n/32))=T at *
 go_enter func175,ntmps175;go_wp2_with fail;refine(Pv _ A _ c _ false (RM _ _ _ _) aS).mono ?_;rintro e w' ⟨rfl,rfl⟩;go_wp2_with fail;refine(H1.out _ (hs.alloc _)).mono ?_;rintro e w' ⟨A',c',rfl,po,hb⟩;go_wp2_with fail;refine(Ia A' c' T _ po h4).mono ?_;rintro e w'' ⟨A'',c'',rfl,rD,mR⟩;go_wp2;go_ret2;rw[<-h3.out];exact⟨A'',c'',rfl,rD,(iF.alloc _ _).trans (hb.trans mR)⟩
def Px(n c:Nat)(hc:n<=c)(hn:c<=10000000000)(w:World):
 (Instr.makeSlice 29 (.int .i64 (n:Int)) (.int .i64 (c:Int))).run prog w = .ok (.slice (some ⟨w.heap.size,0,none⟩) n c) (w.alloc (.cells (oN (List.replicate c 0)).toArray 171)):=by
 obtain⟨i,hi,hz,h1,h2⟩:=info_parts O9;have hr:=run_make (P:=prog) w 29 171 i _ underlying29 hi hz .i64 .i64 n c aE aE (by rw[h2];omega) aE;rw[hr,fX,fX,h1,ck];refine congrArg (λcs=>Result.ok (Value.slice (some ⟨w.heap.size,0,none⟩) n c) (w.alloc (.cells cs 171))) ?_;apply Array.ext
 .simp [madeCells,oN]
 .intro i h1 h2;simp[madeCells,oN,Value.cells,dQ]
def Ow.y8(w:World)(base n c:Nat)(hb:base<=w.heap.size)(hc:n<=c)(hn:c<=10000000000):
 Ow (w.alloc (.cells (oN (List.replicate c 0)).toArray 171)) base (.slice (some ⟨w.heap.size,0,none⟩) n c) (List.replicate n 0):=
 ⟨⟨by simp[oN],.inr ⟨w.heap.size,c,_,aK,hb,heap_alloc_new w _,by simpa using hc,by simp only[maxLen];omega,by simp[oN],by
  simp[oN,List.take_replicate,dj hc]⟩⟩,iK.DN n⟩
def iF.own{w w1 w2:World}(h:iF w w1)(v:Value)(L:List Nat)(ho:Ow w1 w.heap.size v L)(hg:w1.grownBy w2 v.ownBlock):iF w w2:=
 h.grown hg h.size (λk hk=>(ho.row.lt k hk).1)
def Q0(x q s:Nat)(hx:x<4294967296)(hs:s<32)(hq:q<2^s):
 bits BinOp.or IntKind.u64 (IntKind.u64.wrap ((x:Int)*2^s)) (q:Int)=((x*2^s+q:Nat):Int)/\x*2^s+q<18446744073709551616/\(x*2^s+q)/4294967296<2^s:=by
 have hp:2^s<=2^31:=bR aG aE;have e31:(2:Nat)^31=2147483648:= aG ;have h1:(x+1)*2^s<=4294967296*2^s:=bW _ hx;rw[b8,b9]at h1;have h2:x*2^s<4294967296*2^s:=du hx (bD aG);refine⟨?_,aE,aE⟩;have e:((x:Int)*2^s)=((x*2^s:Nat):Int):= aK ;rw[e,IntKind.wrap_u64,show((x*2^s:Nat):Int)%18446744073709551616=((x*2^s:Nat):Int)by omega,L9 _ _ aE aE,Nat.or_comm,Ll q x s hq,fk]
def Yw(A:Option Addr)(c:Nat)(L:List Nat)(n:Nat)(w:World)(hs:Sl w A c L)(hlen:L.length<=100000000)(hn:n<=65536):
 Calls prog 293 #[.slice A L.length c,.int .i64 n] w (λe w'=>∃ T,val T=val L*2^n/\iK T/\T.length=n/32+(iG L).length+1/\uL w T e w'):=by
 have hT:=aq9 (wm A c L w hs);have kP:=hs.vt;have nX:=pY L;have hC:=kP.cap;have hL:=hs.rH;unfold mX at nX;have hv:=aq9 (qA L);generalize iG L=M at *
 obtain⟨m,hm⟩:∃ m,m=M.length:=⟨_,rfl⟩
 rw[<-hm]at hT nX hC;have HM:=aq9 hm;clear hm;have pT:=Px (n/32) (n/32+m+1) aE aE;rw[show((n/32:Nat):Int)=n/32 by omega,show((n/32+m+1:Nat):Int)=n/32+m+1 by omega]at pT;have GC:=aq9 (Ow.y8 w w.heap.size (n/32) (n/32+m+1) (bu _) aE aE);go_enter func293,ntmps293;go_wp2_with fail;refine hT.out.mono ?_;rintro e w' ⟨rfl,rfl⟩;go_wp2;go_loopw [5,6,23] (λv cy i wr=>∃ (k q:Nat) (O:List Nat),k<=m/\i = .int .i64 k/\cy = .int .u64 q/\q<2^(n%32)/\O.length=n/32+k/\val O+4294967296^(n/32+k)*q=val (M.take k)*2^(n%32)*4294967296^(n/32)/\Ow wr w.heap.size v O/\iF w wr) (λ_ _ i _=>m-(intOf i).toNat)
 case atStart=>
  exact⟨0,0,List.replicate (n/32) 0,bS _,rfl,rfl,bD aG,aK,by simp[AR],GC.out,iF.alloc _ _⟩
 case round=>
  obtain⟨k,q,O,hk,rfl,rfl,hq,hO,jQ,lv,hb⟩:=hrel;have HV:=aq9 jQ;have HO:=aq9 hO;have GB:O.length<=200000000:= aE ;have ui:=aq9 hq;clear jQ hO hq;obtain⟨OA,Oc,rfl,xR⟩:=lv.sl;by_cases iC:k<m
  .have pR:k<M.length:=by have:=HM.out;omega
   obtain⟨ab,ao,rfl,_,c1⟩:=(kP.below hb).mi pR;have mZ:M[k]<4294967296:=kP.ok.get pR;have HX:=aq9 (QZ (c:=q) (s:=n%32) (n0:=n/32) pR HO.out HV.out);generalize M[k]=x at *
   obtain⟨hw,xX,wb⟩:=Q0 x q (n%32) mZ (bM _ aG) ui.out;generalize x*2^(n%32)+q=z at *
   have Dd:=aq9 wb;clear wb;have lk:O.length+[z%4294967296].length<=10000000000:= aS ;go_wp2_with (at_builtin;go_must (refine tg aJ _ _ aJ w.heap.size _ O aJ (lv.alloc _) _ _ _ [z%4294967296] aJ aJ (Sl.vj _ _ (z%4294967296) aE aE) lk (sH hb.size _) ?_);intro v' w1 pk hg pC)
   go_roundw
   case rel=>
    exact⟨k+1,z/4294967296,O++[z%4294967296],aE,by go_num,by go_num,Dd.out,by rw[cz,HO.out];rfl,HX.out,pk,(hb.trans (iF.alloc _ _)).own _ _ (lv.alloc _) hg⟩
   case measure=>simp[intOf];omega
  .obtain rfl:k=m:= aE ;have lk:O.length+[q].length<=10000000000:= aS ;have KF:q<4294967296:=by
    have:=ui.out;have hp:2^(n%32)<=2^31:=bR aG aE;have e31:(2:Nat)^31=2147483648:= aG ;omega
   have Wg:(q:Int)%4294967296=q:= aE ;go_wp2_with (at_builtin;go_must (refine tg aJ _ _ aJ w.heap.size _ O aJ (lv.alloc _) _ _ _ [q] aJ aJ (Sl.vj _ _ q aE aE) lk (sH hb.size _) ?_);intro v' w1 pk hg pC)
   obtain⟨A',c',rfl,po⟩:=pk.sl;go_ret;refine⟨O++[q],?_,po.ok,by rw[cz,HO.out,<-HM.out];rfl,A',c',rfl,po,(hb.trans (iF.alloc _ _)).own _ _ (lv.alloc _) hg⟩;have h:=HV.out;rw[cK (by rw[HM.out];exact bu _)]at h;rw[wI,HO.out,rm,AO,cL,bY,h,<-hv.out,ss,bH,<-bB];congr 2;omega
def Yq(A:Option Addr)(c:Nat)(L:List Nat)(n:Nat)(w:World)(hs:Sl w A c L)(hlen:L.length<=256)(hn:n<=65536)(r9:(gW (val L*2^n)).length<=256):
 Calls prog 261 #[.slice A L.length c,.int .i64 n] w (D3 w (gW (val L*2^n)) 0):=by
 have H1:=aq9 (λw (h:Sl w A c L)=>Yw A c L n w h aE hn);obtain⟨R,hR⟩:∃ R,R=gW (val L*2^n):=⟨_,rfl⟩
 rw[<-hR]at r9 ⊢;have HR:=aq9 hR;clear hR;go_enter func261,ntmps261;go_wp2_with fail;refine(Pv _ A _ c _ false (RM _ _ _ _) aS).mono ?_;rintro e w' ⟨rfl,rfl⟩;go_wp2_with fail;refine(H1.out _ (hs.alloc _)).mono ?_;rintro e w' ⟨T,hT,GF,-,A',c',rfl,po,hb⟩;have h3:=aq9 (show iG T=R by rw[rO GF,hT,HR.out]);clear hT GF;go_wp2_with fail;refine(Ia A' c' T _ po (by rw[h3.out];exact r9)).mono ?_;rintro e w'' ⟨A'',c'',rfl,rD,mR⟩;go_wp2;go_ret2;rw[<-h3.out];exact⟨A'',c'',rfl,rD,(iF.alloc _ _).trans (hb.trans mR)⟩
def anK(A:Option Addr)(c:Nat)(L:List Nat)(n:Nat)(w:World)(hs:Sl w A c L)(hlen:L.length<=256)(hn:n<=65536)(r9:(gW (val L*2^n)).length<=256):
 Calls prog 220 #[.slice A L.length c,.int .i64 n] w (uL w (gW (val L*2^n))):=by
 have H1:=aq9 (Yq A c L n w hs hlen hn r9);generalize gW (val L*2^n)=R at *
 go_enter func220,ntmps220;go_wp2_with fail;refine H1.out.mono ?_;rintro e w'' ⟨A'',c'',rfl,rD,mR⟩;go_wp2;go_ret;exact⟨A'',c'',rfl,rD,mR⟩
def ao5(a b:Nat)(ha:a<18446744073709551616)(hb:b<18446744073709551616):bits .and .u64 (a:Int) (b:Int)=((a &&& b:Nat):Int):=by
 have hx:a &&& b<2^64:=fG _ aE;have h1:(BitVec.ofInt 64 (a:Int)).toNat=a:=by
  rw[gN,gO];exact ca aE 
 have h2:(BitVec.ofInt 64 (b:Int)).toNat=b:=by
  rw[gN,gO];exact ca aE 
 show IntKind.u64.wrap ((BitVec.ofInt 64 (a:Int) &&& BitVec.ofInt 64 (b:Int)).toNat:Int)=_;rw[BitVec.toNat_and,h1,h2,IntKind.wrap_u64];omega
def xB(z:Nat)(hz:z<18446744073709551616):bits BinOp.and IntKind.u64 (z:Int) 4294967295=(z:Int)%4294967296:=by
 have e:(4294967295:Int)=((4294967295:Nat):Int):=rfl;rw[e,ao5 z _ hz aE,show(4294967295:Nat)=2^32-1 by decide,aq0];simp
def amq(A:Option Addr)(c:Nat)(M:List Nat)(n:Nat)(w:World)(kP:Sl w A c M)(hlen:M.length<=1000)(hn:n<=65536):
 Calls prog 168 #[.slice A M.length c,.int .i64 n] w (uL w (gW (val M*2^n))):=by
 have hC:=kP.cap;have hL:=kP.rH;obtain⟨m,hm⟩:∃ m,m=M.length:=⟨_,rfl⟩
 rw[<-hm]at hlen hC ⊢;have HM:=aq9 hm;clear hm;have pT:=Px (n/32) (n/32) aE aE;rw[show((n/32:Nat):Int)=n/32 by omega]at pT;have GC:=aq9 (Ow.y8 w w.heap.size (n/32) (n/32) (bu _) aE aE);go_enter func168,ntmps168;go_wp2;go_loopw [5,6,7] (λv cy i wr=>∃ (k q:Nat) (O:List Nat),k<=m/\i = .int .i64 k/\cy = .int .u64 q/\q<2^(n%32)/\O.length=n/32+k/\val O+4294967296^(n/32+k)*q=val (M.take k)*2^(n%32)*4294967296^(n/32)/\Ow wr w.heap.size v O/\iF w wr) (λ_ _ i _=>m-(intOf i).toNat)
 case atStart=>
  exact⟨0,0,List.replicate (n/32) 0,bS _,rfl,rfl,bD aG,aK,by simp[AR],GC.out,iF.alloc _ _⟩
 case round=>
  obtain⟨k,q,O,hk,rfl,rfl,hq,hO,jQ,lv,hb⟩:=hrel;have HV:=aq9 jQ;have HO:=aq9 hO;have GB:O.length<=3100:= aE ;have ui:=aq9 hq;clear jQ hO hq;obtain⟨OA,Oc,rfl,xR⟩:=lv.sl;by_cases iC:k<m
  .have pR:k<M.length:=by have:=HM.out;omega
   obtain⟨ab,ao,rfl,_,c1⟩:=(kP.below hb).mi pR;have mZ:M[k]<4294967296:=kP.ok.get pR;have HX:=aq9 (QZ (c:=q) (s:=n%32) (n0:=n/32) pR HO.out HV.out);generalize M[k]=x at *
   obtain⟨hw,xX,wb⟩:=Q0 x q (n%32) mZ (bM _ aG) ui.out;generalize x*2^(n%32)+q=z at *
   have Dd:=aq9 wb;clear wb;have lk:O.length+[z%4294967296].length<=10000000000:= aS ;have vV:=xB z xX;go_wp2_with (at_builtin;go_must (refine tg aJ _ _ aJ w.heap.size _ O aJ (lv.alloc _) _ _ _ [z%4294967296] aJ aJ (Sl.vj _ _ (z%4294967296) aE aE) lk (sH hb.size _) ?_);intro v' w1 pk hg pC)
   go_roundw
   case rel=>
    exact⟨k+1,z/4294967296,O++[z%4294967296],aE,by go_num,by go_num,Dd.out,by rw[cz,HO.out];rfl,HX.out,pk,(hb.trans (iF.alloc _ _)).own _ _ (lv.alloc _) hg⟩
   case measure=>simp[intOf];omega
  .obtain rfl:k=m:= aE ;have lk:O.length+[q].length<=10000000000:= aS ;have KF:q<4294967296:=by
    have:=ui.out;have hp:2^(n%32)<=2^31:=bR aG aE;have e31:(2:Nat)^31=2147483648:= aG ;omega
   have Wg:(q:Int)%4294967296=q:= aE ;have xL:Hid (iG (O++[q])=gW (val M*2^n)):=by
    show iG (O++[q])=gW (val M*2^n);rw[rO (lv.ok.append (iK.cons KF iK.nil))];have h:=HV.out;rw[cK (by rw[HM.out];exact bu _)]at h;rw[wI,HO.out,rm,AO,cL,bY,h,ss,bH,<-bB];congr 3;omega
   go_wp2_with (at_builtin;go_must (refine tg aJ _ _ aJ w.heap.size _ O aJ (lv.alloc _) _ _ _ [q] aJ aJ (Sl.vj _ _ q aE aE) lk (sH hb.size _) ?_);intro v' w1 pk hg pC;obtain⟨P,hP⟩:∃ P,P=O++[q]:=⟨_,rfl⟩;rw[<-hP]at pk xL;have J7:P.length<=3101:=(by rw[hP];simp;omega);clear hP;obtain⟨A',c',rfl,po⟩:=pk.sl)
   refine(DL A' c' P _ po aE).mono ?_;rintro e w' ⟨A'',c'',rfl,rD,mR⟩;go_wp2;go_ret;rw[<-xL.out];exact⟨A'',c'',rfl,rD,((hb.trans (iF.alloc _ _)).own _ _ (lv.alloc _) hg).trans mR⟩
def anQ(x y s:Nat)(hx:x<4294967296)(hy:y<4294967296):
 bits BinOp.and IntKind.u64 (bits BinOp.or IntKind.u64 (x:Int) ((y:Int)*4294967296)/2^s) 4294967295=(((x+4294967296*y)/2^s%4294967296:Nat):Int):=by
 have e:((y:Int)*4294967296)=((y*2^32:Nat):Int):= aK ;rw[e,L9 x (y*2^32) aE aE,Ll x y 32 aE];have h:(x+y*2^32)/2^s<18446744073709551616:=cC (b7 _ _) aE;have h2:=xB _ h;rw[show(((x+y*2^32:Nat):Int)/2^s)=(((x+y*2^32)/2^s:Nat):Int)by simp,h2];simp[bL]
def anP(x s:Nat)(hx:x<4294967296):bits BinOp.and IntKind.u64 ((x:Int)/2^s) 4294967295=(((x+4294967296*0)/2^s%4294967296:Nat):Int):=by
 have h:x/2^s<18446744073709551616:=cC (b7 _ _) aE;rw[show((x:Int)/2^s)=((x/2^s:Nat):Int)by simp,xB _ h];simp
def amv(A:Option Addr)(c:Nat)(M:List Nat)(n:Nat)(w:World)(kP:Sl w A c M)(hlen:M.length<=3000)(hn:n<=100000):
 Calls prog 229 #[.slice A M.length c,.int .i64 n] w (uL w (gW (val M/2^n))):=by
 have hC:=kP.cap;have hL:=kP.rH;have xL:Hid (iG (rk (n%32) (M.drop (n/32)))=gW (val M/2^n)):=by
  show _=_;rw[rO (BU _ _),Me kP.ok]
 obtain⟨R,hR⟩:∃ R,R=gW (val M/2^n):=⟨_,rfl⟩
 rw[<-hR]at xL ⊢;clear hR;obtain⟨m,hm⟩:∃ m,m=M.length:=⟨_,rfl⟩
 rw[<-hm]at hlen hC ⊢;have HM:=aq9 hm;clear hm;by_cases h0:m<=n/32
 .go_enter func229,ntmps229;go_wp2;go_ret;have:M.drop (n/32)=[]:=eo (by rw[<-HM.out];exact h0);have h:=xL.out;rw[this]at h;rw[<-h];exact⟨none,0,rfl,Sl.nil _,iF.refl _⟩
 .obtain ⟨ab,ao,rfl,_,_⟩:=kP.mi (i:=0) (by have:=HM.out;omega);have hK:=kP.drop (n/32);have vN:=aq9 (show m-n/32=(M.drop (n/32)).length by rw[eV,HM.out]);have oV:n/32<c:= aE ;have oR:0<m-n/32:= aE ;have yQ:m-n/32<=3000:= aE ;generalize M.drop (n/32)=K at *
  simp only[cH,Cl]at hK;have wY:=aq9 (LS (n%32) K);have NY:=aq9 (aaE (n%32) K);have GF:=aq9 (BU (n%32) K);generalize rk (n%32) K=T at *
  go_enter func229,ntmps229;go_wp2;go_loopw [5,6] (λv i wr=>∃ (k:Nat) (O:List Nat),k<=m-n/32/\i = .int .i64 k/\O=T.take k/\Ow wr w.heap.size v O/\iF w wr) (λ_ i _=>m-n/32-(intOf i).toNat)
  case atStart=>
   exact⟨0,[],bS _,rfl,aK,Ow.nil _ _,iF.refl _⟩
  case round=>
   obtain⟨k,O,hk,rfl,hO,lv,hb⟩:=hrel;have GB:O.length<=3000:=by rw[hO,cw];omega
   have HO:=aq9 hO;clear hO;obtain⟨OA,Oc,rfl,xR⟩:=lv.sl;by_cases iC:k<m-n/32
   .have vS:k<K.length:=by have:=vN.out;omega
    obtain⟨ab',ao',e',_,c1⟩:=(hK.below hb).mi vS;cases e';have hg:=NY.out k vS;have mZ:K[k]<4294967296:=hK.ok.get vS;have HK:=aq9 (bF vS);by_cases GS:k+1<m-n/32
    .have Ab:k+1<K.length:=by have:=vN.out;omega
     obtain⟨ab',ao',e',_,c2⟩:=(hK.below hb).mi Ab;cases e';have hy:K.getD (k+1) 0=K[k+1]:=by rw[bw,bF Ab];rfl
     rw[hy]at hg;have qg:K[k+1]<4294967296:=hK.ok.get Ab;have HG:=aq9 hg;clear hg hy;generalize K[k]=x at *
     generalize K[k+1]=y at *
     clear vS Ab;have hw:=anQ x y (n%32) mZ qg;have hz:(x+4294967296*y)/2^(n%32)%4294967296<4294967296:=bM _ aG;generalize (x+4294967296*y)/2^(n%32)%4294967296=z at *
     have lk:O.length+[z].length<=10000000000:= aS ;go_wp2_with (at_builtin;go_must (refine tg aJ _ _ aJ w.heap.size _ O aJ (lv.alloc _) _ _ _ [z] aJ aJ (Sl.vj _ _ z aE aE) lk (sH hb.size _) ?_);intro v' w1 pk hg pC)
     go_roundw
     case rel=>
      exact⟨k+1,O++[z],aE,by go_num,by rw[HO.out,aqH,HG.out];rfl,pk,(hb.trans (iF.alloc _ _)).own _ _ (lv.alloc _) hg⟩
     case measure=>simp[intOf];omega
    .have hy:K.getD (k+1) 0=0:=by rw[bw,ch (by have:=vN.out;omega)];rfl
     rw[hy]at hg;have HG:=aq9 hg;clear hg hy;generalize K[k]=x at *
     clear vS;have hw:=anP x (n%32) mZ;have hz:(x+4294967296*0)/2^(n%32)%4294967296<4294967296:=bM _ aG;generalize (x+4294967296*0)/2^(n%32)%4294967296=z at *
     have lk:O.length+[z].length<=10000000000:= aS ;go_wp2_with (at_builtin;go_must (refine tg aJ _ _ aJ w.heap.size _ O aJ (lv.alloc _) _ _ _ [z] aJ aJ (Sl.vj _ _ z aE aE) lk (sH hb.size _) ?_);intro v' w1 pk hg pC)
     go_roundw
     case rel=>
      exact⟨k+1,O++[z],aE,by go_num,by rw[HO.out,aqH,HG.out];rfl,pk,(hb.trans (iF.alloc _ _)).own _ _ (lv.alloc _) hg⟩
     case measure=>simp[intOf];omega
   .have hOT:Hid (iG O=R):=by
     show iG O=R;rw[HO.out,cK (by rw[wY.out,<-vN.out];omega)];exact xL.out
    go_wp2_with fail;refine(DL OA Oc O _ xR aE).mono ?_;rintro e w' ⟨A'',c'',rfl,rD,mR⟩;go_wp2;go_ret;rw[<-hOT.out];exact⟨A'',c'',rfl,rD,hb.trans mR⟩
def Bl{L:List Nat}{k:Nat}(h:k<L.length):L.getD k 0=L[k]:=by
 rw[bw,bF h];rfl
def Es{L:List Nat}{k:Nat}(h:¬k<L.length):L.getD k 0=0:=by
 rw[bw,ch aE];rfl
def amt(A B:Option Addr)(c d:Nat)(L M:List Nat)(w:World)(hs:Sl w A c L)(hr:Sl w B d M)(h1:L.length<=3000)(h2:M.length<=3000):
 Calls prog 170 #[.slice A L.length c,.slice B M.length d] w (uL w (gW (val L+val M))):=by
 have HLl:=aq9 (rfl:L.length=L.length);obtain⟨l,hl⟩:∃ l,l=L.length:=⟨_,rfl⟩
 obtain⟨m,hm⟩:∃ m,m=M.length:=⟨_,rfl⟩
 rw[<-hl]at h1 ⊢;rw[<-hm]at h2 ⊢;have HL:=aq9 hl;have HM:=aq9 hm;clear hl hm HLl;go_enter func170,ntmps170;go_wp2;go_loopw [5,6,7] (λv cy i wr=>∃ (k q:Nat) (O:List Nat),(k<=l\/k<=m)/\i = .int .i64 k/\cy = .int .u64 q/\q<=1/\O.length=k/\val O+4294967296^k*q=val (L.take k)+val (M.take k)/\Ow wr w.heap.size v O/\iF w wr) (λ_ _ i _=>3000-(intOf i).toNat)
 case atStart=>exact⟨0,0,[],.inl (bS _),rfl,rfl,aG,rfl,aK,Ow.nil _ _,iF.refl _⟩
 case round=>
  obtain⟨k,q,O,hk,rfl,rfl,hq,hO,jQ,lv,hb⟩:=hrel;have HS:=aq9 (ab8 (x:=L.getD k 0) (y:=M.getD k 0) hO jQ (xw L k) (xw M k));have HV:=aq9 jQ;have HO:=aq9 hO;have GB:O.length<=3000:= aE ;have Ox:k<=3000:= aE ;clear jQ hO hk;obtain⟨OA,Oc,rfl,xR⟩:=lv.sl;have vV:=λz:Nat=>λh:z<8589934593=>xB z aE 
  by_cases hl:k<l
  .have V4:(k:Int)<l:= aE ;have vU:k<L.length:=by have:=HL.out;omega
   obtain⟨ab,ao,rfl,_,c1⟩:=(hs.below hb).mi vU;have mZ:L[k]<4294967296:=hs.ok.get vU;rw[Bl vU]at HS;generalize L[k]=x at *
   clear vU;by_cases hm:k<m
   .have Ky:(k:Int)<m:= aE ;have pR:k<M.length:=by have:=HM.out;omega
    obtain⟨bb,bo,rfl,_,c2⟩:=(hr.below hb).mi pR;have qg:M[k]<4294967296:=hr.ok.get pR;rw[Bl pR]at HS;generalize M[k]=y at *
    clear pR;have pT:=vV (q+x+y) aE;simp only[dJ]at pT;clear vV;have lk:O.length+[(q+x+y)%4294967296].length<=10000000000:= aS ;go_wp2_with (at_builtin;go_must (refine tg aJ _ _ aJ w.heap.size _ O aJ (lv.alloc _) _ _ _ [(q+x+y)%4294967296] aJ aJ (Sl.vj _ _ ((q+x+y)%4294967296) aE aE) lk (sH hb.size _) ?_);intro v' w1 pk hg pC)
    go_roundw
    case rel=>
     exact⟨k+1,(q+x+y)/4294967296,O++[(q+x+y)%4294967296],aE,by go_num,by go_num,aE,by rw[cz,HO.out];rfl,HS.out,pk,(hb.trans (iF.alloc _ _)).own _ _ (lv.alloc _) hg⟩
    case measure=>simp[intOf];omega
   .have Ky:¬(k:Int)<m:= aE ;rw[Es (by have:=HM.out;omega)]at HS;have pT:=vV (q+x+0) aE;simp only[dJ,bY]at pT;clear vV;have lk:O.length+[(q+x+0)%4294967296].length<=10000000000:= aS ;go_wp2_with (at_builtin;go_must (refine tg aJ _ _ aJ w.heap.size _ O aJ (lv.alloc _) _ _ _ [(q+x+0)%4294967296] aJ aJ (Sl.vj _ _ ((q+x+0)%4294967296) aE aE) lk (sH hb.size _) ?_);intro v' w1 pk hg pC)
    go_roundw
    case rel=>
     exact⟨k+1,(q+x+0)/4294967296,O++[(q+x+0)%4294967296],aE,by go_num,by go_num,aE,by rw[cz,HO.out];rfl,HS.out,pk,(hb.trans (iF.alloc _ _)).own _ _ (lv.alloc _) hg⟩
    case measure=>simp[intOf];omega
  .have V4:¬(k:Int)<l:= aE ;have hlF:decide ((k:Int)<l)=false:=by simpa using V4
   rw[Es (L:=L) (by have:=HL.out;omega)]at HS;by_cases hm:k<m
   .have Ky:(k:Int)<m:= aE ;have pR:k<M.length:=by have:=HM.out;omega
    obtain⟨bb,bo,rfl,_,c2⟩:=(hr.below hb).mi pR;have qg:M[k]<4294967296:=hr.ok.get pR;rw[Bl pR]at HS;generalize M[k]=y at *
    clear pR;have pT:=vV (q+0+y) aE;simp only[dJ,bY]at pT;clear vV;have lk:O.length+[(q+0+y)%4294967296].length<=10000000000:= aS ;go_wp2_with (at_builtin;go_must (refine tg aJ _ _ aJ w.heap.size _ O aJ (lv.alloc _) _ _ _ [(q+0+y)%4294967296] aJ aJ (Sl.vj _ _ ((q+0+y)%4294967296) aE aE) lk (sH hb.size _) ?_);intro v' w1 pk hg pC)
    go_roundw
    case rel=>
     exact⟨k+1,(q+0+y)/4294967296,O++[(q+0+y)%4294967296],aE,by go_num,by go_num,aE,by rw[cz,HO.out];rfl,HS.out,pk,(hb.trans (iF.alloc _ _)).own _ _ (lv.alloc _) hg⟩
    case measure=>simp[intOf];omega
   .have Ky:¬(k:Int)<m:= aE ;clear vV;have KF:(q:Int)%4294967296=q:= aE ;have xL:Hid (iG (O++[q])=gW (val L+val M)):=by
     show iG (O++[q])=_;rw[rO (lv.ok.append (iK.cons aE iK.nil)),wI,HO.out];have h:=HV.out;rw[cK (by have:=HL.out;omega),cK (by have:=HM.out;omega)]at h;simp only[rm,AO,cL,bY];rw[h]
    have lk:O.length+[q].length<=10000000000:= aS ;go_wp2_with (at_builtin;go_must (refine tg aJ _ _ aJ w.heap.size _ O aJ (lv.alloc _) _ _ _ [q] aJ aJ (Sl.vj _ _ q aE aE) lk (sH hb.size _) ?_);intro v' w1 pk hg pC;obtain⟨P,hP⟩:∃ P,P=O++[q]:=⟨_,rfl⟩;rw[<-hP]at pk xL;have J7:P.length<=3001:=(by rw[hP];simp;omega);clear hP;obtain⟨A',c',rfl,po⟩:=pk.sl)
    refine(DL A' c' P _ po aE).mono ?_;rintro e w' ⟨A'',c'',rfl,rD,mR⟩;go_wp2;go_ret;rw[<-xL.out];exact⟨A'',c'',rfl,rD,((hb.trans (iF.alloc _ _)).own _ _ (lv.alloc _) hg).trans mR⟩
def aoZ(x s:Nat)(hx:x<4294967296):bits BinOp.and IntKind.u32 ((x:Int)/2^s) 1=((x/2^s%2:Nat):Int):=by
 have h:x/2^s<4294967296:=cC (b7 _ _) aE;rw[show((x:Int)/2^s)=((x/2^s:Nat):Int)by simp,show(1:Int)=((1:Nat):Int)from rfl,bits_and_u32_nat _ _ h aG,aqI]
def amF(A:Option Addr)(c:Nat)(L:List Nat)(w:World)(hs:Sl w A c L)(h1:L.length<=3000)(h0:val L≠0):
 Calls prog 228 #[.slice A L.length c] w λe w'=>e = .returned (.int .i64 (jz (val L)))/\w=w':=by
 have hz:=F4 hs.ok h0;have HB:=aq9 (λk (hk:k<jz (val L))=>ac7 h0 hk);have HE:=aq9 (ac6 h0);have HV:=aq9 (λk=>ac8 hs.ok k);generalize jz (val L)=t at *
 go_enter func228,ntmps228;go_wp2;go_loop [3] (λi=>∃ k:Nat,k<=t/\i = .int .i64 k) (λi=>t-(intOf i).toNat)
 case atStart=>exact⟨0,bS _,rfl⟩
 case round=>
  obtain⟨k,hk,rfl⟩:=hrel;have vU:k/32<L.length:= aE ;obtain⟨ab,ao,rfl,_,c1⟩:=hs.mi vU;have hv:=HV.out k vU;have mZ:L[k/32]<4294967296:=hs.ok.get vU;generalize L[k/32]=x at *
  clear HV;have CM:=aoZ x (k%32) mZ;rw[<-hv]at CM;clear hv;by_cases hkt:k<t
  .rw [HB.out k hkt]at CM;have hb:(bits BinOp.and IntKind.u32 ((x:Int)/2^(k%32)) 1==0)=true:=by rw[CM];rfl
   clear CM;go_wp2;go_round
   case rel=>exact⟨k+1,aE,by go_num⟩
   case measure=>simp[intOf];omega
  .obtain rfl:k=t:= aE ;rw[HE.out]at CM;have hb:(bits BinOp.and IntKind.u32 ((x:Int)/2^(k%32)) 1==0)=false:=by rw[CM];rfl
   clear CM;go_wp2;go_ret;exact⟨rfl,rfl⟩
def amr(A B:Option Addr)(c d:Nat)(L M:List Nat)(w:World)(hs:Sl w A c L)(hr:Sl w B d M)(h1:L.length<=3000)(h2:M.length<=L.length)(hle:val M<=val L):
 Calls prog 171 #[.slice A L.length c,.slice B M.length d] w (uL w (gW (val L-val M))):=by
 obtain⟨l,hl⟩:∃ l,l=L.length:=⟨_,rfl⟩
 obtain⟨m,hm⟩:∃ m,m=M.length:=⟨_,rfl⟩
 rw[<-hl]at h1 h2 ⊢;rw[<-hm]at h2 ⊢;have HL:=aq9 hl;have HM:=aq9 hm;clear hl hm;have HLE:=aq9 hle;clear hle;go_enter func171,ntmps171;go_wp2;go_loopw [5,6,7] (λv cy i wr=>∃ (k q:Nat) (O:List Nat),k<=l/\i = .int .i64 k/\cy = .int .u64 q/\q<=1/\O.length=k/\val O+val (M.take k)=val (L.take k)+4294967296^k*q/\Ow wr w.heap.size v O/\iF w wr) (λ_ _ i _=>l-(intOf i).toNat)
 case atStart=>exact⟨0,0,[],bS _,rfl,rfl,aG,rfl,aK,Ow.nil _ _,iF.refl _⟩
 case round=>
  obtain⟨k,q,O,hk,rfl,rfl,hq,hO,jQ,lv,hb⟩:=hrel;have HS:=aq9 (λ(x y:Nat) (e1:L.getD k 0=x) (e2:M.getD k 0=y) (dd c':Nat)=>aod (x:=x) (y:=y) (d:=dd) (c':=c') hO jQ ((xw L k).trans (by rw[e1])) ((xw M k).trans (by rw[e2])));have HV:=aq9 jQ;have HO:=aq9 hO;have GB:O.length<=3000:= aE ;clear jQ hO;obtain⟨OA,Oc,rfl,xR⟩:=lv.sl;by_cases hl:k<l
  .have vU:k<L.length:=by have:=HL.out;omega
   obtain⟨ab,ao,rfl,_,c1⟩:=(hs.below hb).mi vU;have mZ:L[k]<4294967296:=hs.ok.get vU;have HX:=aq9 (Bl vU);generalize L[k]=x at *
   clear vU;by_cases hm:k<m
   .have pR:k<M.length:=by have:=HM.out;omega
    obtain⟨bb,bo,rfl,_,c2⟩:=(hr.below hb).mi pR;have qg:M[k]<4294967296:=hr.ok.get pR;have HY:=aq9 (Bl pR);generalize M[k]=y at *
    clear pR;have pT:=xB (x+4294967296-(q+y)) aE;rw[show((x+4294967296-(q+y):Nat):Int)=x+4294967296-(q+y)by omega]at pT;have lk:O.length+[(x+4294967296-(q+y))%4294967296].length<=10000000000:= aS ;go_wp2_with (at_builtin;go_must (refine tg aJ _ _ aJ w.heap.size _ O aJ (lv.alloc _) _ _ _ [(x+4294967296-(q+y))%4294967296] aJ aJ (Sl.vj _ _ ((x+4294967296-(q+y))%4294967296) aE aE) lk (sH hb.size _) ?_);intro v' w1 pk hg pC)
    go_roundw
    case rel=>
     exact⟨k+1,1-(x+4294967296-(q+y))/4294967296,O++[(x+4294967296-(q+y))%4294967296],aE,by go_num,by rw[show(1-((x:Int)+4294967296-(q+y))/4294967296)=((1-(x+4294967296-(q+y))/4294967296:Nat):Int)by omega],aE,by rw[cz,HO.out];rfl,HS.out x y HX.out HY.out _ _ aE,pk,(hb.trans (iF.alloc _ _)).own _ _ (lv.alloc _) hg⟩
    case measure=>simp[intOf];omega
   .have Ky:¬(k:Int)<m:= aE ;have HY:=aq9 (Es (L:=M) (k:=k) (by have:=HM.out;omega));have pT:=xB (x+4294967296-q) aE;rw[show((x+4294967296-q:Nat):Int)=x+4294967296-q by omega]at pT;have lk:O.length+[(x+4294967296-q)%4294967296].length<=10000000000:= aS ;go_wp2_with (at_builtin;go_must (refine tg aJ _ _ aJ w.heap.size _ O aJ (lv.alloc _) _ _ _ [(x+4294967296-q)%4294967296] aJ aJ (Sl.vj _ _ ((x+4294967296-q)%4294967296) aE aE) lk (sH hb.size _) ?_);intro v' w1 pk hg pC)
    go_roundw
    case rel=>
     exact⟨k+1,1-(x+4294967296-q)/4294967296,O++[(x+4294967296-q)%4294967296],aE,by go_num,by rw[show(1-((x:Int)+4294967296-q)/4294967296)=((1-(x+4294967296-q)/4294967296:Nat):Int)by omega],aE,by rw[cz,HO.out];rfl,HS.out x 0 HX.out HY.out _ _ aE,pk,(hb.trans (iF.alloc _ _)).own _ _ (lv.alloc _) hg⟩
    case measure=>simp[intOf];omega
  .obtain rfl:k=l:= aE ;have xL:Hid (iG O=gW (val L-val M)):=by
    show iG O=_;have h:=HV.out;rw[cK (l:=L) (by have:=HL.out;omega),cK (l:=M) (by have:=HM.out;omega)]at h;rw[rO lv.ok,(aaZ lv.ok HO.out h HLE.out).2]
   go_wp2_with fail;refine(DL OA Oc O _ xR aE).mono ?_;rintro e w' ⟨A'',c'',rfl,rD,mR⟩;go_wp2;go_ret;rw[<-xL.out];exact⟨A'',c'',rfl,rD,hb.trans mR⟩
def PJ{O:List Nat}{p a b c o:Nat}(ho:O[p]? = some o):
 val (O.set p ((a*b+o+c)%4294967296))+4294967296^(p+1)*((a*b+o+c)/4294967296)=val O+4294967296^p*c+4294967296^p*(a*b):=by
 obtain⟨hp,rfl⟩:=cr.1 ho;have h:=Rp (x:=(a*b+O[p]+c)%4294967296) hp;have e:=congrArg (4294967296^p * ·) (et (a*b+O[p]+c) 4294967296);simp only[bU]at e;rw[bI,bH];omega
def MZ{O:List Nat}{p c o:Nat}(ho:O[p]? = some o):
 val (O.set p ((o+c)%4294967296))+4294967296^(p+1)*((o+c)/4294967296)=val O+4294967296^p*c:=by
 have h:=PJ (a:=0) (b:=0) (c:=c) ho;simpa using h
def aex{i n k N c:Nat}{O a b:List Nat}(hk:val O+4294967296^k*c=val (a.take (i+1))*val b)(ha:iK a)(hb:iK b)(hi:i<a.length)(hn:b.length=n)(hc:0<c)(hN:a.length+n<N):k<N:=by
 have h1:=oE (ha.take (i+1));rw[cw,dj aE]at h1;have h2:=oE hb;rw[hn]at h2;have h3:val (a.take (i+1))*val b<4294967296^(i+1+n):=by
  rw[bB];exact aqJ h1 h2
 have h4:4294967296^k*1<=4294967296^k*c:=cO _ hc;have h5:4294967296^k<4294967296^(i+1+n):= aE ;have:=(aqv (aG:1<4294967296)).1 h5;omega
def ao6(x y:Nat)(hx:x<4294967296)(hy:y<4294967296):IntKind.u64.wrap ((x:Int)*(y:Int))=((x*y:Nat):Int)/\x*y<=18446744065119617025:=by
 have h:x*y<=4294967295*4294967295:=dr aE aE;refine⟨?_,aE⟩;rw[IntKind.wrap_u64,<-dZ];omega
def sK(x:Nat)(h:x<18446744073709551616):IntKind.u64.wrap (x:Int)=x:=by rw[IntKind.wrap_u64];omega
def Fp.iK.LR{L:List Nat}(h:iK L)(k:Nat)(x:Nat):iK (L.set k (x%4294967296)):=h.set k (bM _ aG)
def amC(A B:Option Addr)(c d:Nat)(L M:List Nat)(w:World)(hs:Sl w A c L)(hr:Sl w B d M)(h1:L.length<=3000)(h2:M.length<=3000):
 Calls prog 239 #[.slice A L.length c,.slice B M.length d] w (uL w (gW (val L*val M))):=by
 obtain⟨l,hl⟩:∃ l,l=L.length:=⟨_,rfl⟩
 obtain⟨m,hm⟩:∃ m,m=M.length:=⟨_,rfl⟩
 rw[<-hl]at h1 ⊢;rw[<-hm]at h2 ⊢;have HL:=aq9 hl;have HM:=aq9 hm;clear hl hm;have pT:=E4 (l+m+1) aE;rw[show((l+m+1:Nat):Int)=l+m+1 by omega]at pT;have wX:=aq9 (Rw.y8 w (l+m+1));go_enter func239,ntmps239;go_wp2;go_loopw [6] (λi wr=>∃ (k:Nat) (O:List Nat),k<=l/\i = .int .i64 k/\O.length=l+m+1/\iK O/\val O=val (L.take k)*val M/\Rw wr w.heap.size O/\iF w wr) (λi _=>l-(intOf i).toNat)
 case atStart=>
  exact⟨0,List.replicate (l+m+1) 0,bS _,rfl,aK,iK.DN _,by simp[AR],wX.out,iF.alloc _ _⟩
 case round=>
  obtain⟨i,O,hi,rfl,hO,lj,jQ,hR,hb⟩:=hrel;have HV:=aq9 jQ;have HO:=aq9 hO;clear jQ hO;by_cases iC:i<l
  .have Ko:i<L.length:=by have:=HL.out;omega
   obtain⟨x,hx⟩:∃ x,x=L[i]:=⟨_,rfl⟩
   have HX:=aq9 hx;have mZ:x<4294967296:=by rw[hx];exact hs.ok.get Ko
   have HXc:=aq9 (λw (h:Sl w A c L)=>hx▸h.mi Ko);clear hx;have HST:=aq9 (show val (L.take (i+1))=val (L.take i)+4294967296^i*x by rw[HX.out];exact zz L i Ko);clear HX Ko;go_wp2;obtain⟨wo,rfl⟩:∃ wo:World,wo=wr:=⟨_,rfl⟩
   go_loopw [7,8] (λcy k wr=>∃ (j q:Nat) (O:List Nat),j<=m/\k = .int .i64 j/\cy = .int .u64 q/\q<4294967296/\O.length=l+m+1/\iK O/\val O+4294967296^(i+j)*q=val (L.take i)*val M+4294967296^i*(x*val (M.take j))/\Rw wr w.heap.size O/\iF w wr) (λ_ k _=>m-(intOf k).toNat)
   case atStart=>
    exact⟨0,0,O,bS _,rfl,rfl,aG,HO.out,lj,by simp[HV.out],hR,hb⟩
   case round=>
    clear HO HV lj hR;obtain⟨j,q,O,hj,rfl,rfl,hq,hO,lj,jQ,hR,hb⟩:=hrel;have HV:=aq9 jQ;have HO:=aq9 hO;clear jQ hO;by_cases GS:j<m
    .have Kp:j<M.length:=by have:=HM.out;omega
     obtain⟨y,hy⟩:∃ y,y=M[j]:=⟨_,rfl⟩
     have qg:y<4294967296:=by rw[hy];exact hr.ok.get Kp
     obtain⟨ab,ao,e1,_,c1⟩:=HXc.out _ (hs.below hb);obtain⟨bb,bo,e2,_,c2⟩:=(hr.below hb).mi Kp;have HYS:=aq9 (show val (M.take (j+1))=val (M.take j)+4294967296^j*y by rw[hy];exact zz M j Kp);rw[<-hy]at c2;clear hy Kp HXc;subst e1 e2;have hp:i+j<O.length:=by have:=HO.out;omega
     have ho:=bF hp;have ah7:O[i+j]<4294967296:=lj.get hp;have c3:=hR.cell ho;have c4:=hR.frozen (i+j);have HS:=aq9 (PJ (a:=x) (b:=y) (c:=q) ho);generalize O[i+j]=o at *
     clear ho hp;have KD:=λv=>lj.LR (i+j) v
     have HR2:=aq9 (λv:Nat=>hR.set (i+j) v);have HE2:=aq9 (λ(n:Nat) (v:Value)=>(below_drewN hb n).setCell (p:=⟨w.heap.size,i+j,none⟩) (bu _) v);have HOK:=aq9 KD;have HNEW:=aq9 (show val (L.take i)*val M+4294967296^i*(x*val (M.take (j+1)))=val (L.take i)*val M+4294967296^i*(x*val (M.take j))+4294967296^(i+j)*(x*y)by
      rw[HYS.out,bU x,bU (4294967296^i),bB,cR];congr 2;rw[dK x,bH])
     obtain⟨Dc,BG⟩:=ao6 x y mZ qg;generalize x*y=z at *
     have xX:IntKind.u64.wrap ((z:Int)+o)=(z:Int)+o:=by rw[IntKind.wrap_u64];omega
     have wb:IntKind.u64.wrap ((z:Int)+o+q)=(z:Int)+o+q:=by rw[IntKind.wrap_u64];omega
     have vV:=xB (z+o+q) aE;simp only[dJ]at vV;have yV:IntKind.i64.wrap ((i:Int)+j)=(i:Int)+j:=i64_in _ aE aE;have CT:(0:Int)<=i+j:= aE ;have VZ:((i:Int)+j).toNat=i+j:= aE ;have hi4:(i:Int)+j<l+m+1:= aE ;go_wp2;go_quiet (fail);go_wp2;go_roundw
     case rel=>
      exact⟨j+1,(z+o+q)/4294967296,O.set (i+j) ((z+o+q)%4294967296),aE,by go_num,by go_num,aE,by rw[dc];exact HO.out,HOK.out _,by rw[HNEW.out,<-HV.out];exact HS.out,HR2.out _,HE2.out _ _⟩
     case measure=>simp[intOf];omega
    .obtain rfl:j=m:= aE ;have HV2:=aq9 (show val O+4294967296^(i+j)*q=val (L.take (i+1))*val M by
      rw[HST.out,HV.out,show M.take j=M from cK (by rw[HM.out];exact bu _),b8,bH])
     clear HV;go_wp2;obtain⟨wo,rfl⟩:∃ wo:World,wo=wr:=⟨_,rfl⟩
     go_loopw [7,10] (λcy k wr=>∃ (p q:Nat) (O:List Nat),p<=l+j+1/\k = .int .i64 p/\cy = .int .u64 q/\q<4294967296/\O.length=l+j+1/\iK O/\val O+4294967296^p*q=val (L.take (i+1))*val M/\Rw wr w.heap.size O/\iF w wr) (λ_ k _=>l+j+1-(intOf k).toNat)
     case atStart=>
      exact⟨i+j,q,O,aE,by go_num,rfl,hq,HO.out,lj,HV2.out,hR,hb⟩
     case round=>
      clear HO HV2 lj hR hq;obtain⟨p,q,O,hp,rfl,rfl,hq,hO,lj,jQ,hR,hb⟩:=hrel;have HV:=aq9 jQ;have HO:=aq9 hO;clear jQ hO;by_cases hc:0<q
      .have hpN:p<l+j+1:=aex HV.out hs.ok hr.ok (by have:=HL.out;omega) HM.out.symm hc (by have:=HL.out;omega);have OH:p<O.length:=by have:=HO.out;omega
       have ho:=bF OH;have ah7:O[p]<4294967296:=lj.get OH;have c3:=hR.cell ho;have c4:=hR.frozen p;have HS:=aq9 (MZ (c:=q) ho);generalize O[p]=o at *
       clear ho OH;have HR2:=aq9 (λv:Nat=>hR.set p v);have HE2:=aq9 (λv:Value=>hb.setCell (p:=⟨w.heap.size,p,none⟩) (bu _) v);have HOK:=aq9 (λv=>lj.LR p v);have vV:=xB (o+q) aE;simp only[dJ]at vV;have BC:decide ((q:Int)>0)=true:=bn aE;have ui:decide (0<q)=true:=bn hc;go_wp2;go_roundw
       case rel=>
        exact⟨p+1,(o+q)/4294967296,O.set p ((o+q)%4294967296),aE,by go_num,by go_num,aE,by rw[dc];exact HO.out,HOK.out _,by rw[<-HV.out];exact HS.out,HR2.out _,HE2.out _⟩
       case measure=>simp[intOf];omega
      .obtain rfl:q=0:= aE ;go_wp2;go_roundw
       case rel=>
        exact⟨i+1,O,aE,by go_num,HO.out,lj,by rw[<-HV.out];simp,hR,hb⟩
       case measure=>simp[intOf];omega
  .obtain rfl:i=l:= aE ;have HF:=aq9 (show iG O=gW (val L*val M)by
    rw[rO lj,HV.out,show L.take i=L from cK (by rw[HL.out];exact bu _)])
   have tD:=hR.sl lj (by rw[HO.out];omega);obtain⟨n,hn⟩:∃ n,n=O.length:=⟨_,rfl⟩
   have lR:i+m+1=n:=by rw[hn];exact HO.out.symm
   have hT:=aq9 (DL _ _ O _ tD (by rw[HO.out];omega));rw[HO.out]at hT;clear hn lR;go_wp2_with fail;refine hT.out.mono ?_;rintro e w' ⟨A'',c'',rfl,rD,mR⟩;go_wp2;go_ret;rw[<-HF.out];exact⟨A'',c'',rfl,rD,hb.trans mR⟩
def Fq(s:Bool)(A:Option Addr)(c:Nat)(L:List Nat)(e:Int)(w:World)(hs:Sl w A c L)(hlen:L.length<=3000)(mv:-1000000<=e)(lr:e<=1000000):
 Calls prog 169 #[.bool s,.slice A L.length c,.int .i64 e] w (xz w (canon s (val L) e)):=by
 by_cases h0:val L=0
 .have pQ:=aq9 (show canon s (val L) e=iA by unfold canon;rw[bk h0];rfl);have OP:iG L=[]:=by rw[rO hs.ok,h0,oz]
  have hT:=aq9 (λw (h:Sl w A c L)=>DL A c L w h aE);rw[OP]at hT;clear OP h0;go_enter func169,ntmps169;go_wp2_with fail;refine(hT.out _ (hs.alloc _)).mono ?_;rintro e w' ⟨A',c',rfl,po,hb⟩;have bx:=(jG.new w false none 0 0 0).ext hb;have b0:=bx.c0;have b1:=bx.c1;have b2:=bx.c2;have f0:=bx.fr 0;have f1:=bx.fr 1;have f2:=bx.fr 2;go_wp2;rw[pQ.out];have hz:gW iA.m=[]:=oz;exact uO rfl rfl rfl (bx.set _ _ _ _ _) (by rw[hz];rfl) (by rw[hz];exact bx.vq (Sl.nil _) _ _ _ _ _) (jG.uH ((iF.alloc _ _).trans hb) (bu _) _ _ _ _ _)
 .have pQ:=aq9 (show canon s (val L) e=⟨s,val L/2^jz (val L),e+jz (val L)⟩by unfold canon;rw[bj h0]);have hT:=aq9 (λw (h:Sl w A c L)=>DL A c L w h aE);have Wm:=pY L;unfold mX at Wm;have hv:=qA L;have lj:=hs.ok.iG;generalize iG L=M at *
  rw[<-hv]at h0 pQ ⊢;clear hv;have hZ:=aq9 (λA c w (h:Sl w A c M)=>amF A c M w h aE h0);have uU:jz (val M)<=100000:=by have:=F4 lj h0;omega
  have hR:=aq9 (λA c w (h:Sl w A c M)=>amv A c M (jz (val M)) w h aE uU);have ue:M.length≠0:=by intro h;rw[dw h]at h0;exact h0 rfl
  generalize val M/2^jz (val M)=q at *
  generalize jz (val M)=t at *
  obtain⟨m,hm⟩:∃ m,m=M.length:=⟨_,rfl⟩
  go_enter func169,ntmps169;go_wp2_with fail;refine(hT.out _ (hs.alloc _)).mono ?_;rintro e' w1 ⟨A1,c1,rfl,vZ,kD⟩;go_wp2_with fail;refine(hZ.out _ _ _ vZ).mono ?_;rintro e' w2 ⟨rfl,rfl⟩;go_wp2_with fail;refine(hR.out _ _ _ vZ).mono ?_;rintro e' w2 ⟨A2,c2,rfl,kP,lZ⟩;have hb:=kD.trans lZ;have bx:=(jG.new w false none 0 0 0).ext hb;have b0:=bx.c0;have b1:=bx.c1;have b2:=bx.c2;have f0:=bx.fr 0;have f1:=bx.fr 1;have f2:=bx.fr 2;go_wp2;rw[pQ.out];exact uO rfl rfl rfl (bx.set _ _ _ _ _) rfl (bx.vq kP _ _ _ _ _) (jG.uH ((iF.alloc _ _).trans hb) (bu _) _ _ _ _ _)
def afN(A:Option Addr)(c:Nat)(L:List Nat)(w:World)(hs:Sl w A c L)(h1:L.length<=3000)(h0:val L≠0)(hT:Tb w):
 Calls prog 259 #[.slice A L.length c] w λe w'=>e = .returned (.int .i64 (jz (val L)))/\w=w':=by
 have lj:=hs.ok;have HV:=aq9 (λi hi h hx=>aff lj i hi h hx);have H0:=aq9 h0;clear h0;go_enter func259,ntmps259;go_wp2;go_loop [3,8] (λn i=>∃ k:Nat,k<=L.length/\i = .int .i64 k/\n = .int .i64 ((32*k:Nat):Int)/\∀ j,(hj:j<k)->L[j]? = some 0) (λ_ i=>L.length-(intOf i).toNat)
 case atStart=>exact⟨0,bS _,rfl,rfl,λj hj=> aE⟩
 case round=>
  obtain⟨k,hk,rfl,rfl,hz⟩:=hrel;have HZ:=aq9 hz;clear hz;by_cases iC:k<L.length
  .obtain ⟨ab,ao,rfl,_,c1⟩:=hs.mi iC;have mZ:L[k]<4294967296:=lj.get iC;have HG:=aq9 (bF iC);have HC:=aq9 (λhx=>HV.out k iC (λj hj=>by have:=HZ.out j hj;rw[bF aE]at this;simpa using this) hx);clear HV;generalize L[k]=x at *
   by_cases hx:x=0
   .have HX:=aq9 hx;clear hx;have hb:((x:Int) != 0)=false:=by have:=HX.out;simp;omega
    go_wp2;go_round
    case rel=>exact⟨k+1,aE,by go_num,by go_num,λj hj=>by
     by_cases e:j=k
     .subst e;rw[HG.out,HX.out]
     .exact HZ.out j aE⟩
    case measure=>simp[intOf];omega
   .have hb:((x:Int) != 0)=true:= aS ;have HX:=aq9 (HC.out hx);have apT:jz x<=32:=by
     have h1:=Io hx;rcases fT 32 (jz x)with h|h
     .have:=gP (a:=2) aG h;have e:(2:Nat)^32=4294967296:= aG ;omega
     .exact h
    go_wp2_with (go_at_call 292;refine(aoV x hx mZ _ hT).mono ?_;rintro e w' ⟨rfl,rfl⟩)
    go_ret;exact⟨oZ (by rw[HX.out];simp),rfl⟩
  .exfalso;have:val L=0:=by
    rw[IV];intro y hy;obtain⟨j,hj,rfl⟩:=List.getElem_of_mem hy;have:=HZ.out j aE;rw[bF hj]at this;simpa using this
   exact H0.out this
def JN(s:Bool)(A:Option Addr)(c:Nat)(L:List Nat)(e:Int)(w:World)(hs:Sl w A c L)(_hlen:L.length<=100000)(nX:(iG L).length<=256)(mv:-1000000<=e)(lr:e<=1000000)(uR:Tb w):
 Calls prog 219 #[.bool s,.slice A L.length c,.int .i64 e] w (xz w (canon s (val L) e)):=by
 have hT:=aq9 (λw (h:Sl w A c L)=>afS A c L w h);have kP:=hs.vt;have hv:=qA L;have lj:=hs.ok.iG;have C7:=AM L;generalize iG L=M at *
 rw[<-hv];clear hv;by_cases h0:val M=0
 .have pQ:=aq9 (show canon s (val M) e=iA by unfold canon;rw[bk h0];rfl);have ue:Hid (M.length=0):=by
   show M.length=0;rw[C7.Eo lj,h0,oz];rfl
  obtain⟨m,hm⟩:∃ m,m=M.length:=⟨_,rfl⟩
  rw[<-hm]at hT ue;clear hm h0;obtain rfl:m=0:=ue.out;clear ue;go_enter func219,ntmps219;go_wp2_with fail;refine(hT.out _ (hs.alloc _)).mono ?_;rintro e w' ⟨rfl,rfl⟩;have bx:=jG.new w false none 0 0 0;have b0:=bx.c0;have b1:=bx.c1;have b2:=bx.c2;have f0:=bx.fr 0;have f1:=bx.fr 1;have f2:=bx.fr 2;go_wp2;rw[pQ.out];have hz:gW iA.m=[]:=oz;exact uO rfl rfl rfl bx (by rw[hz];rfl) (by rw[hz];exact Sl.nil _) (iF.alloc _ _)
 .have pQ:=aq9 (show canon s (val M) e=⟨s,val M/2^jz (val M),e+jz (val M)⟩by unfold canon;rw[bj h0]);have hZ:=aq9 (λA c w (h:Sl w A c M) (ht:Tb w)=>afN A c M w h aE h0 ht);have uU:jz (val M)<=65536:=by have:=F4 lj h0;omega
  have hR:=aq9 (λA c w (h:Sl w A c M)=>Ys A c M (jz (val M)) w h nX uU);have ue:M.length≠0:=by intro h;rw[dw h]at h0;exact h0 rfl
  have xT:(gW (val M/2^jz (val M))).length<=256:=by
   refine s9 (cC (b7 _ _) ?_);exact bV (oE lj) (bR aG nX)
  generalize val M/2^jz (val M)=q at *
  generalize jz (val M)=t at *
  have hK:=aq9 (λA c w (h:Sl w A c (gW q))=>M4 A c (gW q) w h aE);have hP:=aq9 (λA c w (h:Sl w A c (gW q))=>M3 A c (gW q) w h);obtain⟨Q,hQ⟩:∃ Q,Q=gW q:=⟨_,rfl⟩
  have HQ:=aq9 hQ;rw[<-hQ]at hR hK hP xT;clear hQ;go_enter func219,ntmps219;go_wp2_with fail;refine(hT.out _ (hs.alloc _)).mono ?_;rintro e' w1 ⟨rfl,rfl⟩;go_wp2_with fail;refine(hZ.out _ _ _ (kP.alloc _) (uR.alloc _)).mono ?_;rintro e' w2 ⟨rfl,rfl⟩;go_wp2_with fail;refine(hR.out _ _ _ (kP.alloc _)).mono ?_;rintro e' w2 ⟨A2,c2,rfl,aie,lZ⟩;go_wp2_with fail;refine(hK.out _ _ _ aie).mono ?_;rintro e' w3 ⟨A3,c3,rfl,G4,qU⟩;go_wp2_with fail;refine(hP.out _ _ _ G4).mono ?_;rintro e' w4 ⟨rfl,rfl⟩;have hb:=lZ.trans qU;have bx:=(jG.new w false none 0 0 0).ext hb;have b0:=bx.c0;have b1:=bx.c1;have b2:=bx.c2;have f0:=bx.fr 0;have f1:=bx.fr 1;have f2:=bx.fr 2;go_wp2;rw[pQ.out];rw[HQ.out]at G4 ⊢;exact uO rfl rfl rfl (bx.set _ _ _ _ _) rfl (bx.vq G4.Tk _ _ _ _ _) (jG.uH ((iF.alloc _ _).trans hb) (bu _) _ _ _ _ _)
def Nd(A:Option Addr)(c:Nat)(L:List Nat)(w:World)(hs:Sl w A c L)(hlen:L.length<=100000000):
 Calls prog 225 #[.slice A L.length c] w λe w'=>e = .returned (.int .i64 (ie (val L)))/\w=w':=by
 have H:=aq9 (Yk A c L w hs hlen);go_enter func225,ntmps225;go_wp2_with fail;refine H.out.mono ?_;rintro e w' ⟨rfl,rfl⟩;go_wp2;go_ret;exact⟨rfl,rfl⟩
def wc(m:Nat)(e:Int):Bool:=decide (mT ⟨false,m,e⟩)
def O8(s:Bool)(A:Option Addr)(c:Nat)(L:List Nat)(e:Int)(w:World)(hs:Sl w A c L)(hlen:L.length<=100000000)(mv:-9223372036854775808<=e)(lr:e<=9223372036854775807):
 Calls prog 166 #[.agg #[.bool s,.slice A L.length c,.int .i64 e]] w λr w'=>r = .returned (.bool (wc (val L) e))/\iF w w':=by
 have H:=aq9 (λw (h:Sl w A c L)=>Nd A c L w h hlen);have hn:Hid (wc (val L) e=decide (ie (val L)=0\/ie (val L)<=4096 /\ -16384<=e/\e<=16384/\(ie (val L):Int)+e<=16384)):=by
  have h:ie (val L)=0↔val L=0:=by
   constructor
   .intro h;apply bT;intro h0;have:=ny h0;omega
   .intro h;rw[h];rfl
  exact aqK.2 (or_congr h.symm Iff.rfl)
 have yT:ie (val L)<=32*L.length:=lY.2 (by rw[<-ss];exact oE hs.ok);generalize ie (val L)=n at *
 generalize wc (val L) e=b at *
 have ahT:n=0\/(0<n/\4096<n)\/(0<n/\n<=4096/\e < -16384)\/(0<n/\n<=4096 /\ -16384<=e/\16384<e)\/(0<n/\n<=4096 /\ -16384<=e/\e<=16384/\16384<(n:Int)+e)\/(0<n/\n<=4096 /\ -16384<=e/\e<=16384/\(n:Int)+e<=16384):= aE ;rcases ahT with h|⟨h,h1⟩|⟨h,h1,h2⟩|⟨h,h1,h2,h3⟩|⟨h,h1,h2,h3,h4⟩|⟨h,h1,h2,h3,h4⟩
 .subst h;have hb:b=true:=by rw[hn.out];simp
  clear hn;subst hb;go_enter func166,ntmps166;go_wp2_with fail;refine(H.out _ (hs.alloc _)).mono ?_;rintro r w' ⟨rfl,rfl⟩;go_wp2;go_ret;exact⟨rfl,iF.alloc _ _⟩
 .have hb:b=false:=by rw[hn.out];simp;omega
  have sc:((n:Int)==0)=false:= aS ;have ug:decide ((n:Int)<=4096)=false:= aS ;clear hn;subst hb;go_enter func166,ntmps166;go_wp2_with fail;refine(H.out _ (hs.alloc _)).mono ?_;rintro r w' ⟨rfl,rfl⟩;go_wp2;go_ret;exact⟨rfl,iF.alloc _ _⟩
 .have hb:b=false:=by rw[hn.out];simp;omega
  have sc:((n:Int)==0)=false:= aS ;have ug:decide ((n:Int)<=4096)=true:= aS ;have lR:decide (-16384<=e)=false:= aS ;clear hn;subst hb;go_enter func166,ntmps166;go_wp2_with fail;refine(H.out _ (hs.alloc _)).mono ?_;rintro r w' ⟨rfl,rfl⟩;go_wp2;go_ret;exact⟨rfl,iF.alloc _ _⟩
 .have hb:b=false:=by rw[hn.out];simp;omega
  have sc:((n:Int)==0)=false:= aS ;have ug:decide ((n:Int)<=4096)=true:= aS ;have lR:decide (-16384<=e)=true:= aS ;have EK:decide (e<=16384)=false:= aS ;clear hn;subst hb;go_enter func166,ntmps166;go_wp2_with fail;refine(H.out _ (hs.alloc _)).mono ?_;rintro r w' ⟨rfl,rfl⟩;go_wp2;go_ret;exact⟨rfl,iF.alloc _ _⟩
 .have hb:b=false:=by rw[hn.out];simp;omega
  have sc:((n:Int)==0)=false:= aS ;have ug:decide ((n:Int)<=4096)=true:= aS ;have lR:decide (-16384<=e)=true:= aS ;have EK:decide (e<=16384)=true:= aS ;have hn4:decide ((n:Int)+e<=16384)=false:= aS ;clear hn;subst hb;go_enter func166,ntmps166;go_wp2_with fail;refine(H.out _ (hs.alloc _)).mono ?_;rintro r w' ⟨rfl,rfl⟩;go_wp2;go_ret;exact⟨rfl,iF.alloc _ _⟩
 .have hb:b=true:=by rw[hn.out];simp;omega
  have sc:((n:Int)==0)=false:= aS ;have ug:decide ((n:Int)<=4096)=true:= aS ;have lR:decide (-16384<=e)=true:= aS ;have EK:decide (e<=16384)=true:= aS ;have hn4:decide ((n:Int)+e<=16384)=true:= aS ;clear hn;subst hb;go_enter func166,ntmps166;go_wp2_with fail;refine(H.out _ (hs.alloc _)).mono ?_;rintro r w' ⟨rfl,rfl⟩;go_wp2;go_ret;exact⟨rfl,iF.alloc _ _⟩
def pe(s:Bool)(L:List Nat)(e:Int):Prop:=nJ L/\L.length<=256/\Dy.ib ⟨s,val L,e⟩
def TV(s:Bool)(e:Int):pe s [] e↔s=false/\e=0:=by
 unfold pe;constructor
 .rintro ⟨_,_,hc,_⟩;rcases hc with⟨_,h1,h2⟩|h
  .exact ⟨h1,h2⟩
  .simp at h
 .rintro ⟨rfl,rfl⟩;exact⟨nJ.nil,aK,su⟩
def TU{s:Bool}{L:List Nat}{e:Int}{x y:Nat}(hx:L[0]? = some x)(hy:L[L.length-1]? = some y):
 pe s L e↔L.length<=256/\x%2=1/\y≠0/\wc (val L) e=true:=by
 have We:val L%2=x%2:=by
  cases L with
  |nil=>simp at hx
  |cons z l=>simp at hx;subst hx;simp only[rm];omega
 have C7:nJ L↔y≠0:=by
  rw[Cg];obtain⟨h1,h2⟩:=cr.1 hy;constructor
  .intro h;rw[<-h2];exact h aE 
  .intro h _;rw[h2];exact h
 unfold pe wc;rw[C7,gp];constructor
 .rintro ⟨h1,h2,hc,hr⟩;have xU:mT ⟨false,val L,e⟩:=hr;refine⟨h2,?_,h1,xU⟩;rcases hc with⟨h,_,_⟩|h
  .exfalso;have:=(C7.2 h1).AP (by intro h0;subst h0;simp at hx);simp only at h;omega
  .rw [<-We];exact h
 .rintro ⟨h1,h2,h3,h4⟩;exact⟨h3,h1,.inr (by show val L%2=1;rw[We];exact h2),h4⟩
def rq{b:Bool}{P:Prop}(h:b=true↔P)(hn:¬P):b=false:=by
 cases b
 .rfl
 .exact absurd (h.1 rfl) hn
def MK{b:Bool}{P:Prop}(h:b=true↔P)(hn:P):b=true:=h.2 hn
def Sy{b v:Bool}{P:Prop}(h:b=true↔P)(hn:P↔v=true):b=v:=by
 cases b<;>cases v<;>simp_all
def CA(s:Bool)(A:Option Addr)(c:Nat)(L:List Nat)(e:Int)(w:World)(b:Bool)(hs:Sl w A c L)(mv:-9223372036854775808<=e)(lr:e<=9223372036854775807)(hb:b=true↔pe s L e):
 Calls prog 91 #[.agg #[.bool s,.slice A L.length c,.int .i64 e]] w λr w'=>r = .returned (.bool b)/\iF w w':=by
 have Ez:=hs.cap;have uU:=hs.rH;by_cases hL:L=[]
 .subst hL;rw[TV]at hb;cases s
  .by_cases h:e=0
   .subst h;have:b=true:=by simpa using hb
    clear hb;subst this;go_enter func91,ntmps91;go_wp2;go_ret;exact⟨rfl,iF.alloc _ _⟩
   .have:b=false:=rq hb (by simp[h]);have h':(e==0)=false:= aS ;clear hb;subst this;go_enter func91,ntmps91;go_wp2;go_ret;exact⟨rfl,iF.alloc _ _⟩
  .have:b=false:=rq hb aK ;clear hb;subst this;go_enter func91,ntmps91;go_wp2;go_ret;exact⟨rfl,iF.alloc _ _⟩
 .have uh:0<L.length:=eD.2 hL;clear hL;obtain⟨ab,ao,rfl,_,c1⟩:=hs.mi uh;obtain⟨ab',ao',e',_,c2⟩:=hs.mi (i:=L.length-1) aE;cases e';have mZ:=hs.ok.get uh;have qg:=hs.ok.get (aE:L.length-1<L.length);rw[TU (bF uh) (bF (aE:L.length-1<L.length))]at hb;have c1':w.cell? ⟨ab,ao,none⟩=some (.int .u32 (L[0]:Int)):=c1;clear c1;generalize L[0]=x at *
  generalize L[L.length-1]=y at *
  have HB:=aq9 hb;clear hb;have H:=aq9 (λw (h:Sl w (some ⟨ab,ao,none⟩) c L) (hl:L.length<=256)=>O8 s _ c L e w h aE mv lr);obtain⟨n,hn⟩:∃ n,n=L.length:=⟨_,rfl⟩
  rw[<-hn]at uh c2 H HB Ez ⊢;clear hn;generalize wc (val L) e=v at *
  have sc:((n:Int)==0)=false:= aS ;by_cases h1:n<=256
  .have ug:decide ((n:Int)<=256)=true:= aS ;by_cases h2:x%2=1
   .have lR:((x:Int)%2==1)=true:= aS ;by_cases h3:y=0
    .have:b=false:=rq HB.out (by simp[h3]);have EK:((y:Int) != 0)=false:= aS ;clear HB;subst this;go_enter func91,ntmps91;go_wp2;go_ret;exact⟨rfl,iF.alloc _ _⟩
    .have:b=v:=Sy HB.out (by simp[h1,h2,h3]);have EK:((y:Int) != 0)=true:= aS ;clear HB;subst this;go_enter func91,ntmps91;go_wp2_with fail;refine(H.out _ (hs.alloc _) h1).mono ?_;rintro r w' ⟨rfl,mR⟩;go_wp2;go_ret;exact⟨rfl,(iF.alloc _ _).trans mR⟩
   .have:b=false:=rq HB.out (λh=>h2 h.2.1);have lR:((x:Int)%2==1)=false:= aS ;clear HB;subst this;go_enter func91,ntmps91;go_wp2;go_ret;exact⟨rfl,iF.alloc _ _⟩
  .have:b=false:=rq HB.out (λh=>h1 h.1);have ug:decide ((n:Int)<=256)=false:= aS ;clear HB;subst this;go_enter func91,ntmps91;go_wp2;go_ret;exact⟨rfl,iF.alloc _ _⟩
def Ho{n k:Nat}(h:ie n<=32*k):(gW n).length<=k:=s9 (by rw[ss];exact lY.1 h)
def afE(d:Dy):pe d.neg (gW d.m) d.e↔d.ib:=by
 unfold pe;rw[kq];constructor
 .exact λh=>h.2.2
 .intro h;refine⟨uI _,?_,h⟩;rcases h.range with h0|⟨h1,_⟩
  .rw [h0,oz];simp
  .exact Ho aE 
def pe.Eo{s:Bool}{L:List Nat}{e:Int}(h:pe s L e)(hk:iK L):L=gW (val L):=h.1.Eo hk
def pe.len{s:Bool}{L:List Nat}{e:Int}(h:pe s L e):L.length<=256:=h.2.1
def pe.bits{s:Bool}{L:List Nat}{e:Int}(h:pe s L e):ie (val L)<=4096:=by
 rcases h.2.2.range with h0|⟨h1,_⟩
 .simp only at h0;rw[h0];decide
 .exact h1
def pe.exp{s:Bool}{L:List Nat}{e:Int}(h:pe s L e):-16384<=e/\e<=16384:=by
 rcases h.2.2.range with h0|⟨_,h1,h2,_⟩
 .rcases h.2.2.canon with⟨_,_,h3⟩|h3
  .simp only at h3;omega
  .simp only at h0 h3;omega
 .exact ⟨h1,h2⟩
def Nf(s:Bool)(A:Option Addr)(c:Nat)(L:List Nat)(e:Int)(w:World)(hs:Sl w A c L)(hd:pe s L e):
 Calls prog 185 #[.agg #[.bool s,.slice A L.length c,.int .i64 e]] w λr w'=>r = .returned (.int .i64 (Dy.im ⟨s,val L,e⟩))/\iF w w':=by
 obtain⟨mv,lr⟩:=hd.exp;have hl:=hd.len;have hbt:=hd.bits;have HV:=aq9 (λw (h:Sl w A c L)=>CA s A c L e w true h aE aE (by simp[hd]));have HS:=aq9 (λw (h:Sl w A c L)=>Nd A c L w h aE);by_cases h0:L=[]
 .subst h0;go_enter func185,ntmps185;go_wp2_with fail;refine(HV.out _ (hs.alloc _)).mono ?_;rintro r w' ⟨rfl,hb⟩;have bx:=(jG.new w s A 0 c e).ext hb;have b0:=bx.c0;have b1:=bx.c1;have b2:=bx.c2;go_wp2;go_ret;exact⟨rfl,(iF.alloc _ _).trans hb⟩
 .have uh:0<L.length:=eD.2 h0;have sQ:val L≠0:=by have:=hd.1.AP h0;omega
  have ht:=aq9 (show Dy.im ⟨s,val L,e⟩=ie (val L)+e by unfold Dy.im;rw[bj sQ]);clear h0 sQ;generalize Dy.im ⟨s,val L,e⟩=t at *
  generalize ie (val L)=q at *
  have hw:IntKind.i64.wrap ((q:Int)+e)=q+e:=i64_in _ aE aE;have sc:((L.length:Int)==0)=false:=a7 aE;go_enter func185,ntmps185;go_wp2_with fail;refine(HV.out _ (hs.alloc _)).mono ?_;rintro r w' ⟨rfl,hb⟩;have bx:=(jG.new w s A L.length c e).ext hb;have b0:=bx.c0;have b1:=bx.c1;have b2:=bx.c2;have po:=(hs.alloc _).below hb;go_wp2_with fail;go_region_held3 (λw'=>w'.cell? ⟨w.heap.size,1,none⟩=some (.slice A L.length c)/\w'.cell? ⟨w.heap.size,2,none⟩=some (.int .i64 e)) (go_keep)
   (first|(go_at_call 225;refine(HS.out _ ?_).mono ?_;(exact po.drew);rintro r w'' ⟨rfl,rfl⟩))
  go_wp2;go_ret;exact⟨oZ (by rw[ht.out]),Below.drew ((iF.alloc _ _).trans hb)⟩
def afF(s:Bool)(A:Option Addr)(c:Nat)(L:List Nat)(e:Int)(w:World)(hs:Sl w A c L)(hd:pe s L e):
 Calls prog 173 #[.agg #[.bool s,.slice A L.length c,.int .i64 e]] w λr w'=>r = .returned (.int .i64 (ie (val L)))/\iF w w':=by
 obtain⟨mv,lr⟩:=hd.exp;have hl:=hd.len;have HV:=aq9 (λw (h:Sl w A c L)=>CA s A c L e w true h aE aE (by simp[hd]));have HS:=aq9 (λw (h:Sl w A c L)=>Nd A c L w h aE);go_enter func173,ntmps173;go_wp2_with fail;refine(HV.out _ (hs.alloc _)).mono ?_;rintro r w' ⟨rfl,hb⟩;have bx:=(jG.new w s A L.length c e).ext hb;have b0:=bx.c0;have b1:=bx.c1;have b2:=bx.c2;go_wp2_with fail;refine(HS.out _ ((hs.alloc _).below hb)).mono ?_;rintro r w' ⟨rfl,rfl⟩;go_wp2;go_ret;exact⟨rfl,(iF.alloc _ _).trans hb⟩
def Nc(s:Bool)(A:Option Addr)(c:Nat)(L:List Nat)(e:Int)(w:World)(hs:Sl w A c L)(hd:pe s L e):
 Calls prog 92 #[.agg #[.bool s,.slice A L.length c,.int .i64 e]] w λr w'=>r = .returned (.int .i64 (Dy.iI ⟨s,val L,e⟩))/\iF w w':=by
 obtain⟨mv,lr⟩:=hd.exp;have hl:=hd.len;have HV:=aq9 (λw (h:Sl w A c L)=>CA s A c L e w true h aE aE (by simp[hd]));by_cases h0:L=[]
 .subst h0;go_enter func92,ntmps92;go_wp2_with fail;refine(HV.out _ (hs.alloc _)).mono ?_;rintro r w' ⟨rfl,hb⟩;have bx:=(jG.new w s A 0 c e).ext hb;have b0:=bx.c0;have b1:=bx.c1;have b2:=bx.c2;go_wp2;go_ret;exact⟨rfl,(iF.alloc _ _).trans hb⟩
 .have uh:0<L.length:=eD.2 h0;have sQ:val L≠0:=by have:=hd.1.AP h0;omega
  have ht:=aq9 (show Dy.iI ⟨s,val L,e⟩=if s then -1 else 1 by unfold Dy.iI;rw[bj sQ]);clear h0 sQ;generalize Dy.iI ⟨s,val L,e⟩=t at *
  have sc:((L.length:Int)==0)=false:=a7 aE;go_enter func92,ntmps92;go_wp2_with fail;refine(HV.out _ (hs.alloc _)).mono ?_;rintro r w' ⟨rfl,hb⟩;have bx:=(jG.new w s A L.length c e).ext hb;have b0:=bx.c0;have b1:=bx.c1;have b2:=bx.c2;cases s
  .go_wp2;go_ret;exact⟨oZ (by rw[ht.out];rfl),(iF.alloc _ _).trans hb⟩
  .go_wp2;go_ret;exact⟨oZ (by rw[ht.out];rfl),(iF.alloc _ _).trans hb⟩
def agn(e:Int)(w:World)(b:Bool)(hb:b=true↔(-32768<=e/\e<=32768)):
 Calls prog 233 #[.int .i64 e] w λr w'=>r = .returned (.bool b)/\w=w':=by
 by_cases h1:-32768<=e
 .have d1:decide (-32768<=e)=true:=by simpa using h1
  by_cases h2:e<=32768
  .have d2:decide (e<=32768)=true:=by simpa using h2
   have:=MK hb ⟨h1,h2⟩;clear hb;subst this;go_enter func233,ntmps233;go_wp2;go_ret;exact⟨rfl,rfl⟩
  .have d2:decide (e<=32768)=false:=by simpa using h2
   have:=rq hb (λh=>h2 h.2);clear hb;subst this;go_enter func233,ntmps233;go_wp2;go_ret;exact⟨rfl,rfl⟩
 .have d1:decide (-32768<=e)=false:=by simpa using h1
  have:=rq hb (λh=>h1 h.1);clear hb;subst this;go_enter func233,ntmps233;go_wp2;go_ret;exact⟨rfl,rfl⟩
def Td(d:Dy)(A:Option Addr)(c:Nat)(w:World)(hs:Sl w A c (gW d.m))(hl:(gW d.m).length<=100000000)(mv:-10000000<=d.e)(lr:d.e<=10000000)(hd:mT d):
 Calls prog 222 #[.agg #[.bool d.neg,.slice A (gW d.m).length c,.int .i64 d.e]] w (zI w d 0):=by
 obtain⟨s,m,e⟩:=d;simp only at *
 have hr:wc m e=true:=by unfold wc;exact bn hd
 have HV:=aq9 (λw (h:Sl w A c (gW m))=>O8 s A c (gW m) e w h hl aE aE);rw[kq,hr]at HV;clear hr hd;go_enter func222,ntmps222;go_wp2_with fail;refine(HV.out _ ((hs.alloc _).alloc _)).mono ?_;rintro r w' ⟨rfl,hb⟩;have bx:=((jG.new w s A (gW m).length c e).alloc (.cells #[.bool false,.slice none 0 0,.int .i64 0] 31)).ext hb;have by_:=(jG.new (w.alloc (.cells #[.bool s,.slice A (gW m).length c,.int .i64 e] 31)) false none 0 0 0).ext hb;have b0:=bx.c0;have b1:=bx.c1;have b2:=bx.c2;have bz:(w.alloc (.cells #[.bool s,.slice A (gW m).length c,.int .i64 e] 31)).heap.size=w.heap.size+1:= aK ;rw[bz]at by_;have c0:=by_.c0;have c1:=by_.c1;have c2:=by_.c2;have f0:=by_.fr 0;have f1:=by_.fr 1;have f2:=by_.fr 2;have po:=((hs.alloc (.cells #[.bool s,.slice A (gW m).length c,.int .i64 e] 31)).alloc (.cells #[.bool false,.slice none 0 0,.int .i64 0] 31)).below hb;have mR:iF w w':=((iF.alloc _ _).trans (iF.alloc _ _)).trans hb;clear bz;go_wp2;exact En rfl rfl rfl rfl (by_.set _ _ _ _ _) rfl (by_.vq po _ _ _ _ _) (jG.uH mR aE _ _ _ _ _)
def aeZ(d:Dy)(A:Option Addr)(c:Nat)(w:World)(hs:Sl w A c (gW d.m))(hl:(gW d.m).length<=100000000)(mv:-10000000<=d.e)(lr:d.e<=10000000)(hd:¬mT d):
 Calls prog 222 #[.agg #[.bool d.neg,.slice A (gW d.m).length c,.int .i64 d.e]] w (zI w iA 9):=by
 obtain⟨s,m,e⟩:=d;simp only at *
 have hr:wc m e=false:=by unfold wc;exact bt hd
 have HV:=aq9 (λw (h:Sl w A c (gW m))=>O8 s A c (gW m) e w h hl aE aE);rw[kq,hr]at HV;clear hr hd;go_enter func222,ntmps222;go_wp2_with fail;refine(HV.out _ ((hs.alloc _).alloc _)).mono ?_;rintro r w' ⟨rfl,hb⟩;have by_:=(jG.new (w.alloc (.cells #[.bool s,.slice A (gW m).length c,.int .i64 e] 31)) false none 0 0 0).ext hb;have bz:(w.alloc (.cells #[.bool s,.slice A (gW m).length c,.int .i64 e] 31)).heap.size=w.heap.size+1:= aK ;rw[bz]at by_;have c0:=by_.c0;have c1:=by_.c1;have c2:=by_.c2;have f0:=by_.fr 0;have f1:=by_.fr 1;have f2:=by_.fr 2;have mR:iF w w':=((iF.alloc _ _).trans (iF.alloc _ _)).trans hb;have hz:gW iA.m=[]:=oz;have HZ:=aq9 hz;clear bz hz;go_wp2;exact En rfl rfl rfl rfl (by_.set _ _ _ _ _) (by rw[HZ.out];rfl) (by rw[HZ.out];exact by_.vq (Sl.nil _) _ _ _ _ _) (jG.uH mR aE _ _ _ _ _)
def akl(s:Bool)(A:Option Addr)(c:Nat)(L:List Nat)(e:Int)(w:World)(hs:Sl w A c L)(hlen:L.length<=256)(mv:-32768<=e)(lr:e<=32768)(uR:Tb w)(hd:mT (canon s (val L) e)):
 Calls prog 176 #[.bool s,.slice A L.length c,.int .i64 e] w (zI w (canon s (val L) e) 0):=by
 have BA:decide (256<(L.length:Int))=false:=bt aE;have HE:=aq9 (λw=>agn e w true (by simp[mv,lr]));have HC:=aq9 (λw (h:Sl w A c L) (ht:Tb w)=>JN s A c L e w h aE (by have:=pY L;unfold mX at this;omega) aE aE ht);have kD:(gW (canon s (val L) e).m).length<=100000000:=by
  unfold canon;split
  .simp [oz]
  .refine bA (s9 (k:=256) (cC (b7 _ _) ?_)) aG ;exact bV (oE hs.ok) (bR aG hlen)
 have lZ:-10000000<=(canon s (val L) e).e/\(canon s (val L) e).e<=10000000:=by
  unfold canon;split
  .simp
  .rename_i h0;have:=F4 hs.ok h0;simp only;omega
 obtain⟨lZ,qU⟩:=lZ;have HK:=aq9 (λA c w (h:Sl w A c (gW (canon s (val L) e).m))=>Td _ A c w h kD lZ qU hd);generalize canon s (val L) e=d at *
 clear hd kD lZ qU;go_enter func176,ntmps176;go_wp2_with fail;refine(HE.out _).mono ?_;rintro r w' ⟨rfl,rfl⟩;go_wp2_with fail;refine(HC.out _ (hs.alloc _) (uR.alloc _)).mono ?_;rintro r w1 ⟨A1,c1,rfl,vZ,kD⟩;go_wp2_with fail;refine(HK.out _ _ _ vZ).mono ?_;rintro r w2 ⟨A2,c2,rfl,kP,lZ⟩;have hb:=kD.trans lZ;have bx:=(jG.new w false none 0 0 0).ext hb;have b0:=bx.c0;have b1:=bx.c1;have b2:=bx.c2;have f0:=bx.fr 0;have f1:=bx.fr 1;have f2:=bx.fr 2;go_wp2;exact En rfl rfl rfl rfl (bx.set _ _ _ _ _) rfl (bx.vq kP _ _ _ _ _) (jG.uH ((iF.alloc _ _).trans hb) (bu _) _ _ _ _ _)
def aoX(x:Nat)(hx:x<4294967296):bits BinOp.and IntKind.u32 (x:Int) 1=((x%2:Nat):Int):=by
 rw[show(1:Int)=((1:Nat):Int)from rfl,bits_and_u32_nat _ _ hx aG,aqI]
def aiq{m:Nat}(h0:m≠0)(e:Int):wc m e=true↔(ie m<=4096 /\ -16384<=e/\e<=16384/\(ie m:Int)+e<=16384):=by
 have h:wc m e=true↔mT ⟨false,m,e⟩:=gp;rw[h];constructor
 .rintro (h|h)
  .exact absurd h h0
  .exact h
 .exact λh=>.inr h
def LA(s:Bool)(A:Option Addr)(c:Nat)(L:List Nat)(e:Int)(w:World)(b:Bool)(hs:Sl w A c L)(mv:-9223372036854775808<=e)(lr:e<=9223372036854775807)(hb:b=true↔pe s L e):
 Calls prog 74 #[.agg #[.bool s,.slice A L.length c,.int .i64 e]] w λr w'=>r = .returned (.bool b)/\iF w w':=by
 have Ez:=hs.cap;have uU:=hs.rH;by_cases hL:L=[]
 .subst hL;rw[TV]at hb;cases s
  .by_cases h:e=0
   .subst h;have:b=true:=by simpa using hb
    clear hb;subst this;go_enter func74,ntmps74;go_wp2;go_ret;exact⟨rfl,iF.alloc _ _⟩
   .have:b=false:=rq hb (by simp[h]);have h':(e==0)=false:= aS ;clear hb;subst this;go_enter func74,ntmps74;go_wp2;go_ret;exact⟨rfl,iF.alloc _ _⟩
  .have:b=false:=rq hb aK ;clear hb;subst this;go_enter func74,ntmps74;go_wp2;go_ret;exact⟨rfl,iF.alloc _ _⟩
 .have uh:0<L.length:=eD.2 hL;obtain⟨ab,ao,rfl,_,c1⟩:=hs.mi uh;obtain⟨ab',ao',e',_,c2⟩:=hs.mi (i:=L.length-1) aE;cases e';have mZ:=hs.ok.get uh;have qg:=hs.ok.get (aE:L.length-1<L.length);rw[TU (bF uh) (bF (aE:L.length-1<L.length))]at hb;have c1':w.cell? ⟨ab,ao,none⟩=some (.int .u32 (L[0]:Int)):=c1;have VE:=aq9 (show L[L.length-1]≠0->nJ L from λh=>(Cg L).2 (λ_=>h));have xJ:=aq9 (show L[L.length-1]≠0->val L≠0 from λh=>by have:=((Cg L).2 (λ_=>h)).AP hL;omega);clear c1 hL;generalize L[0]=x at *
  generalize L[L.length-1]=y at *
  have HB:=aq9 hb;clear hb;have H:=aq9 (λw (h:Sl w (some ⟨ab,ao,none⟩) c L) (hl:L.length<=256) (ht:nJ L)=>QB _ c L w h ht aE);have hr:Hid (val L≠0->(wc (val L) e=true↔(ie (val L)<=4096 /\ -16384<=e/\e<=16384/\(ie (val L):Int)+e<=16384))):=λh0=>by
   exact aiq h0 e
  obtain⟨n,hn⟩:∃ n,n=L.length:=⟨_,rfl⟩
  rw[<-hn]at uh c2 H HB Ez ⊢;have HN:=aq9 hn;clear hn;have sc:((n:Int)==0)=false:= aS ;by_cases h1:n<=256
  .have ug:decide (256<(n:Int))=false:=bt aE ;by_cases h3:y=0
   .have:b=false:=rq HB.out (by simp[h3]);have EK:((y:Int)==0)=true:= aS ;clear HB hr;subst this;go_enter func74,ntmps74;go_wp2;go_ret;exact⟨rfl,iF.alloc _ _⟩
   .have EK:((y:Int)==0)=false:=a7 aE ;have hand:=aoX x mZ;by_cases h2:x%2=1
    .have lR:(bits BinOp.and IntKind.u32 (x:Int) 1==0)=false:=by rw[hand,h2];rfl
     clear hand;have h0:=xJ.out h3;have C7:=VE.out h3;have yT:ie (val L)<=32*n:=lY.2 (by rw[<-ss,HN.out];exact oE hs.ok);have HB2:Hid (b=true↔(ie (val L)<=4096 /\ -16384<=e/\e<=16384/\(ie (val L):Int)+e<=16384)):=by
      show b=true↔_;rw[HB.out,hr.out h0];simp[h1,h2,h3]
     have H2:=aq9 (λw h=>H.out w h h1 C7);clear HB hr h0 C7 VE xJ H;generalize ie (val L)=q at *
     by_cases h4:-16384<=e
     .have d4:decide (e < -16384)=false:=bt aE ;by_cases h5:e<=16384
      .have d5:decide (16384<e)=false:=bt aE ;by_cases h6:q<=4096
       .have d6:decide ((q:Int)<=4096)=true:=bn aE ;by_cases h7:(q:Int)+e<=16384
        .have d7:decide ((q:Int)+e<=16384)=true:=bn h7;have:=MK HB2.out ⟨h6,h4,h5,h7⟩;clear HB2;subst this;go_enter func74,ntmps74;go_wp2_with fail;refine(H2.out _ (hs.alloc _)).mono ?_;rintro r w' ⟨rfl,rfl⟩;go_wp2;go_ret;exact⟨rfl,iF.alloc _ _⟩
        .have d7:decide ((q:Int)+e<=16384)=false:=bt h7;have:=rq HB2.out (λh=>h7 h.2.2.2);clear HB2;subst this;go_enter func74,ntmps74;go_wp2_with fail;refine(H2.out _ (hs.alloc _)).mono ?_;rintro r w' ⟨rfl,rfl⟩;go_wp2;go_ret;exact⟨rfl,iF.alloc _ _⟩
       .have d6:decide ((q:Int)<=4096)=false:=bt aE ;have:=rq HB2.out (λh=>h6 h.1);clear HB2;subst this;go_enter func74,ntmps74;go_wp2_with fail;refine(H2.out _ (hs.alloc _)).mono ?_;rintro r w' ⟨rfl,rfl⟩;go_wp2;go_ret;exact⟨rfl,iF.alloc _ _⟩
      .have d5:decide (16384<e)=true:=bn aE ;have:=rq HB2.out (λh=>h5 h.2.2.1);clear HB2;subst this;go_enter func74,ntmps74;go_wp2;go_ret;exact⟨rfl,iF.alloc _ _⟩
     .have d4:decide (e < -16384)=true:=bn aE ;have:=rq HB2.out (λh=>h4 h.2.1);clear HB2;subst this;go_enter func74,ntmps74;go_wp2;go_ret;exact⟨rfl,iF.alloc _ _⟩
    .have lR:(bits BinOp.and IntKind.u32 (x:Int) 1==0)=true:=by rw[hand,(aE:x%2=0)];rfl
     have:b=false:=rq HB.out (λh=>h2 h.2.1);clear HB hand hr;subst this;go_enter func74,ntmps74;go_wp2;go_ret;exact⟨rfl,iF.alloc _ _⟩
  .have:b=false:=rq HB.out (λh=>h1 h.1);have ug:decide (256<(n:Int))=true:=bn aE;clear HB hr;subst this;go_enter func74,ntmps74;go_wp2;go_ret;exact⟨rfl,iF.alloc _ _⟩
def aml(e:Int)(w:World)(b:Bool)(hb:b=true↔(-32768<=e/\e<=32768)):
 Calls prog 199 #[.int .i64 e] w λr w'=>r = .returned (.bool b)/\w=w':=by
 by_cases h1:-32768<=e
 .have d1:decide (-32768<=e)=true:=by simpa using h1
  by_cases h2:e<=32768
  .have d2:decide (e<=32768)=true:=by simpa using h2
   have:=MK hb ⟨h1,h2⟩;clear hb;subst this;go_enter func199,ntmps199;go_wp2;go_ret;exact⟨rfl,rfl⟩
  .have d2:decide (e<=32768)=false:=by simpa using h2
   have:=rq hb (λh=>h2 h.2);clear hb;subst this;go_enter func199,ntmps199;go_wp2;go_ret;exact⟨rfl,rfl⟩
 .have d1:decide (-32768<=e)=false:=by simpa using h1
  have:=rq hb (λh=>h1 h.1);clear hb;subst this;go_enter func199,ntmps199;go_wp2;go_ret;exact⟨rfl,rfl⟩
def ami(d:Dy)(A:Option Addr)(c:Nat)(w:World)(hs:Sl w A c (gW d.m))(hl:(gW d.m).length<=100000000)(mv:-10000000<=d.e)(lr:d.e<=10000000)(hd:d.ib):
 Calls prog 95 #[.agg #[.bool d.neg,.slice A (gW d.m).length c,.int .i64 d.e]] w (zI w d 0):=by
 obtain⟨s,m,e⟩:=d;simp only at *
 have HV:=aq9 (λw (h:Sl w A c (gW m))=>LA s A c (gW m) e w true h aE aE (iff_of_true rfl ((afE ⟨s,m,e⟩).2 hd)));clear hd;go_enter func95,ntmps95;go_wp2_with fail;refine(HV.out _ ((hs.alloc _).alloc _)).mono ?_;rintro r w' ⟨rfl,hb⟩;have bx:=((jG.new w s A (gW m).length c e).alloc (.cells #[.bool false,.slice none 0 0,.int .i64 0] 31)).ext hb;have by_:=(jG.new (w.alloc (.cells #[.bool s,.slice A (gW m).length c,.int .i64 e] 31)) false none 0 0 0).ext hb;have b0:=bx.c0;have b1:=bx.c1;have b2:=bx.c2;have bz:(w.alloc (.cells #[.bool s,.slice A (gW m).length c,.int .i64 e] 31)).heap.size=w.heap.size+1:= aK ;rw[bz]at by_;have c0:=by_.c0;have c1:=by_.c1;have c2:=by_.c2;have f0:=by_.fr 0;have f1:=by_.fr 1;have f2:=by_.fr 2;have po:=((hs.alloc (.cells #[.bool s,.slice A (gW m).length c,.int .i64 e] 31)).alloc (.cells #[.bool false,.slice none 0 0,.int .i64 0] 31)).below hb;have mR:iF w w':=((iF.alloc _ _).trans (iF.alloc _ _)).trans hb;clear bz;go_wp2;exact En rfl rfl rfl rfl (by_.set _ _ _ _ _) rfl (by_.vq po _ _ _ _ _) (jG.uH mR aE _ _ _ _ _)
def amy(s:Bool)(A:Option Addr)(c:Nat)(L:List Nat)(e:Int)(w:World)(hs:Sl w A c L)(ht:nJ L):
 Calls prog 157 #[.agg #[.bool s,.slice A L.length c,.int .i64 e]] w λr w'=>r = .returned (.int .i64 (Dy.iI ⟨s,val L,e⟩))/\iF w w':=by
 have hl:=hs.len;by_cases h0:L=[]
 .subst h0;go_enter func157,ntmps157;go_wp2;go_ret;exact⟨rfl,iF.alloc _ _⟩
 .have uh:0<L.length:=eD.2 h0;have sQ:val L≠0:=by have:=ht.AP h0;omega
  have ht:=aq9 (show Dy.iI ⟨s,val L,e⟩=if s then -1 else 1 by unfold Dy.iI;rw[bj sQ]);clear h0 sQ;generalize Dy.iI ⟨s,val L,e⟩=t at *
  have sc:((L.length:Int)==0)=false:=a7 aE;cases s
  .go_enter func157,ntmps157;go_wp2;go_ret;exact⟨oZ (by rw[ht.out];rfl),iF.alloc _ _⟩
  .go_enter func157,ntmps157;go_wp2;go_ret;exact⟨oZ (by rw[ht.out];rfl),iF.alloc _ _⟩
def amh(s:Bool)(A:Option Addr)(c:Nat)(L:List Nat)(e:Int)(w:World)(hs:Sl w A c L)(ht:nJ L)(hl:L.length<=100000):
 Calls prog 190 #[.agg #[.bool s,.slice A L.length c,.int .i64 e]] w λr w'=>r = .returned (.int .i64 (ie (val L)))/\iF w w':=by
 have H:=aq9 (λw (h:Sl w A c L)=>QB A c L w h ht aE);clear ht;go_enter func190,ntmps190;go_wp2_with fail;refine(H.out _ (hs.alloc _)).mono ?_;rintro r w' ⟨rfl,rfl⟩;go_wp2;go_ret;exact⟨rfl,iF.alloc _ _⟩
def ZH(s:Bool)(A:Option Addr)(c:Nat)(L:List Nat)(e:Int)(w:World)(hs:Sl w A c L)(ht:nJ L)(hl:L.length<=100000)(mv:-1000000<=e)(lr:e<=1000000):
 Calls prog 158 #[.agg #[.bool s,.slice A L.length c,.int .i64 e]] w λr w'=>r = .returned (.int .i64 (Dy.im ⟨s,val L,e⟩))/\iF w w':=by
 have HS:=aq9 (λw (h:Sl w A c L)=>QB A c L w h ht aE);have yT:ie (val L)<=32*L.length:=lY.2 (by rw[<-ss];exact oE hs.ok);by_cases h0:L=[]
 .subst h0;go_enter func158,ntmps158;go_wp2;go_ret;exact⟨rfl,iF.alloc _ _⟩
 .have uh:0<L.length:=eD.2 h0;have sQ:val L≠0:=by have:=ht.AP h0;omega
  have ht:=aq9 (show Dy.im ⟨s,val L,e⟩=ie (val L)+e by unfold Dy.im;rw[bj sQ]);clear h0 sQ;generalize Dy.im ⟨s,val L,e⟩=t at *
  generalize ie (val L)=q at *
  have hw:IntKind.i64.wrap ((q:Int)+e)=q+e:=i64_in _ aE aE;have sc:((L.length:Int)==0)=false:=a7 aE;have po:=hs.alloc (.cells #[.bool s,.slice A L.length c,.int .i64 e] 31);go_enter func158,ntmps158;go_wp2_with fail;go_region_held3 (λw'=>w'.cell? ⟨w.heap.size,1,none⟩=some (.slice A L.length c)/\w'.cell? ⟨w.heap.size,2,none⟩=some (.int .i64 e)) (go_keep)
   (first|(go_at_call 156;refine(HS.out _ ?_).mono ?_;(exact po.drew);rintro r w'' ⟨rfl,rfl⟩))
  go_wp2;go_ret;exact⟨oZ (by rw[ht.out]),Below.drew (iF.alloc _ _)⟩
def ams(s:Bool)(A:Option Addr)(c:Nat)(L:List Nat)(e:Int)(w:World)(hs:Sl w A c L)(ht:nJ L):
 Calls prog 159 #[.agg #[.bool s,.slice A L.length c,.int .i64 e]] w (xz w (jf ⟨s,val L,e⟩)):=by
 have hl:=hs.len;have HL:=aq9 (ht.Eo hs.ok);by_cases h0:L=[]
 .subst h0;have HZ:=aq9 oz;cases s
  .go_enter func159,ntmps159;go_wp2;exact uO (d:=jf ⟨false,val [],e⟩) rfl rfl rfl (jG.tO aK _ _ _ _ _) (by show _=(gW 0).length;rw[HZ.out];rfl) (by show Sl _ _ _ (gW 0);rw[HZ.out];exact(hs.alloc _).alloc _) ((iF.alloc _ _).trans (iF.alloc _ _))
  .go_enter func159,ntmps159;go_wp2;exact uO (d:=jf ⟨true,val [],e⟩) rfl rfl rfl (jG.tO aK _ _ _ _ _) (by show _=(gW 0).length;rw[HZ.out];rfl) (by show Sl _ _ _ (gW 0);rw[HZ.out];exact(hs.alloc _).alloc _) ((iF.alloc _ _).trans (iF.alloc _ _))
 .have uh:0<L.length:=eD.2 h0;have sQ:val L≠0:=by have:=ht.AP h0;omega
  have hd:=aq9 (show jf ⟨s,val L,e⟩=⟨!s,val L,e⟩by unfold jf;simp[sQ]);clear h0 sQ ht;rw[hd.out];cases s
  .go_enter func159,ntmps159;go_wp2;exact uO (d:=⟨!false,val L,e⟩) rfl rfl rfl (jG.tO aK _ _ _ _ _) (by show _=(gW (val L)).length;rw[<-HL.out]) (by show Sl _ _ _ (gW (val L));rw[<-HL.out];exact(hs.alloc _).alloc _) ((iF.alloc _ _).trans (iF.alloc _ _))
  .go_enter func159,ntmps159;go_wp2;exact uO (d:=⟨!true,val L,e⟩) rfl rfl rfl (jG.tO aK _ _ _ _ _) (by show _=(gW (val L)).length;rw[<-HL.out]) (by show Sl _ _ _ (gW (val L));rw[<-HL.out];exact(hs.alloc _).alloc _) ((iF.alloc _ _).trans (iF.alloc _ _))
def ae6{a b:Nat}:kI a b=0↔a=b:=by
 unfold kI;by_cases h:a<b
 .rw [bk h];omega
 .by_cases h':b<a
  .rw [bj h,bk h'];omega
  .rw [bj h,bj h'];omega
def amj(s:Bool)(A:Option Addr)(c:Nat)(L:List Nat)(e:Int)(t:Bool)(B:Option Addr)(d:Nat)(M:List Nat)(f:Int)(w:World)(b:Bool)
 (hs:Sl w A c L) (hr:Sl w B d M) (tL:nJ L) (tM:nJ M) (h1:L.length<=100000) (_h2:M.length<=100000) (hb:b=true↔(s=t/\e=f/\L=M)):
 Calls prog 34 #[.agg #[.bool s,.slice A L.length c,.int .i64 e],.agg #[.bool t,.slice B M.length d,.int .i64 f]] w λr w'=>r = .returned (.bool b)/\iF w w':=by
 have hE:iF w ((w.alloc (.cells #[.bool s,.slice A L.length c,.int .i64 e] 31)).alloc (.cells #[.bool t,.slice B M.length d,.int .i64 f] 31)):=(iF.alloc _ _).trans (iF.alloc _ _);by_cases h:s=t
 .subst h;by_cases h':e=f
  .subst h';have mR:b=true↔L=M:=by rw[hb];simp
   clear hb;by_cases hl:L.length=M.length
   .have HC:=aq9 (λw (h:Sl w A c L) (k:Sl w B d M)=>ZG A B c d L M w h k tL tM aE aE);have hv:Hid (b=(kI (val L) (val M)==0)):=by
     show b=_;refine Sy mR ?_;rw[gq,ae6];exact⟨λh=>by rw[h],λh=>nJ.ext tL tM hs.ok hr.ok h⟩
    generalize kI (val L) (val M)=v at *
    rw[<-hl]at HC hE ⊢;have hse:(e==e)=true:= aK ;have kP:=(hs.alloc (.cells #[.bool s,.slice A L.length c,.int .i64 e] 31)).alloc (.cells #[.bool s,.slice B L.length d,.int .i64 e] 31);have nY:=(hr.alloc (.cells #[.bool s,.slice A L.length c,.int .i64 e] 31)).alloc (.cells #[.bool s,.slice B L.length d,.int .i64 e] 31);clear mR hl tL tM;cases s
    .go_enter func34,ntmps34;go_wp2_with fail;refine(HC.out _ kP nY).mono ?_;rintro r w' ⟨rfl,kD⟩;go_wp2;go_ret;exact⟨LD hv.out.symm,hE.trans kD⟩
    .go_enter func34,ntmps34;go_wp2_with fail;refine(HC.out _ kP nY).mono ?_;rintro r w' ⟨rfl,kD⟩;go_wp2;go_ret;exact⟨LD hv.out.symm,hE.trans kD⟩
   .have:=rq mR (λh=>hl (by rw[h]));clear mR;subst this;have ju:((L.length:Int)==M.length)=false:=a7 aE;generalize L.length=n at *
    generalize M.length=m at *
    cases s
    .go_enter func34,ntmps34;go_wp2;go_ret;exact⟨rfl,hE⟩
    .go_enter func34,ntmps34;go_wp2;go_ret;exact⟨rfl,hE⟩
  .have:=rq hb (λh=>h' h.2.1);clear hb;subst this;have ju:(e==f)=false:=a7 h';cases s
   .go_enter func34,ntmps34;go_wp2;go_ret;exact⟨rfl,hE⟩
   .go_enter func34,ntmps34;go_wp2;go_ret;exact⟨rfl,hE⟩
 .have:=rq hb (λh'=>h h'.1);clear hb;subst this;cases s<;>cases t
  .exact absurd rfl h
  .go_enter func34,ntmps34;go_wp2;go_ret;exact⟨rfl,hE⟩
  .go_enter func34,ntmps34;go_wp2;go_ret;exact⟨rfl,hE⟩
  .exact absurd rfl h
def Sl.L7(w:World)(g:Nat)(hg:w.heap.size=g)(y z:Int)(p q:Nat)(e:y=(p:Int))(e':z=(q:Int))(hp:p<4294967296)(hq:q<4294967296):
 Sl (w.alloc (.cells #[.int .u32 y,.int .u32 z] 171)) (some ⟨g,0,none⟩) 2 [p,q]:=by
 subst e e' hg;refine⟨bu _,aG,iK.cons hp (iK.cons hq iK.nil),(λh=>by cases h),λi y hy=>?_⟩;obtain⟨h1,h2⟩:=cr.1 hy;simp at h1;refine⟨_,_,rfl,aK,?_⟩;rw[cj,World.cell?_alloc_at _ _ _ _ rfl];rcases i with _|_|i
 .simp at h2;subst h2;rfl
 .simp at h2;subst h2;rfl
 .omega
def amo(n:Nat)(w:World)(hn:n<4294967296):
 Calls prog 126 #[.int .i64 n] w (xz w (canon false n 0)):=by
 have hm:=xB n aE;have sE:(n:Int)%4294967296=n:= aE ;rw[sE]at hm;have hd:(n:Int)/4294967296=0:= aE ;have iC:¬(n:Int)<0:= aE ;have Of:decide ((n:Int)<0)=false:=bt iC;have hu:IntKind.u64.wrap (n:Int)=n:=by rw[IntKind.wrap_u64];omega
 have HC:=aq9 (λ(A:Option Addr) c w (h:Sl w A c [n,0])=>Fq false A c [n,0] 0 w h aK aG aG);have hv:val [n,0]=n:= aK ;rw[hv]at HC;clear hv;generalize canon false n 0=d at *
 go_enter func126,ntmps126;go_wp2_with fail;refine(HC.out _ _ _ (Sl.L7 _ _ aK _ _ n 0 rfl rfl hn aG)).mono ?_;rintro r w1 ⟨A1,c1,rfl,vZ,kD⟩;have qn:iF (w.alloc (.cells #[.bool false,.slice none 0 0,.int .i64 0] 31)) w1:=(iF.alloc _ _).trans kD;have bx:=(jG.new w false none 0 0 0).ext qn;have b0:=bx.c0;have b1:=bx.c1;have b2:=bx.c2;have f0:=bx.fr 0;have f1:=bx.fr 1;have f2:=bx.fr 2;go_wp2;exact uO rfl rfl rfl (bx.set _ _ _ _ _) rfl (bx.vq vZ _ _ _ _ _) (jG.uH ((iF.alloc _ _).trans qn) (bu _) _ _ _ _ _)
def FA{w:World}{g g' i:Nat}{v a b c:Value}(h:w.cell? ⟨g,i,none⟩=some v)(ju:g'≠g):
 (((w.setCell ⟨g',0,none⟩ a).setCell ⟨g',1,none⟩ b).setCell ⟨g',2,none⟩ c).cell? ⟨g,i,none⟩=some v:=by
 rw[World.cell?_setCell_other _ _ _ _ aO,World.cell?_setCell_other _ _ _ _ aO,World.cell?_setCell_other _ _ _ _ aO];exact h
end Go.Proofs.YtgdahmmlddfimaaGreatDoor
namespace Go.Proofs.YtgdahmmlddfimaaGreatDoor.Fp
def Ee(s:Bool)(e:Int):canon s 0 e=iA:=by unfold canon;rw[bk rfl];rfl
def Jy(s:Bool)(x:Nat)(k:Int):ki (if s then -(x:Int)else(x:Int)) k=canon s x k:=by
 unfold ki;cases s
 .have h:decide ((x:Int)<0)=false:=bt aE ;simp only[bK,bC];rw[h,dL]
 .by_cases h:x=0
  .subst h;simp[Ee]
  .have h:decide (-(x:Int)<0)=true:=bn aE ;simp only[bJ];rw[h,fH,dL]
def Ra{s:Bool}{m n:Nat}{e f k:Int}(hm:m≠0)(hn:n≠0)(hk:min e f=k):
 iJ ⟨s,m,e⟩ ⟨s,n,f⟩=canon s (m*2^(e-k).toNat+n*2^(f-k).toNat) k:=by
 unfold iJ;rw[bj hm,bj hn];simp only[hk];rw[<-Jy];unfold Dy.num Dy.jO;cases s
 .simp
 .simp;congr 1;omega
def Q8{s t:Bool}{m n:Nat}{e f k:Int}(hm:m≠0)(hn:n≠0)(hk:min e f=k)(hs:s≠t)(s5:n*2^(f-k).toNat<=m*2^(e-k).toNat):
 iJ ⟨s,m,e⟩ ⟨t,n,f⟩=canon s (m*2^(e-k).toNat-n*2^(f-k).toNat) k:=by
 unfold iJ;rw[bj hm,bj hn];simp only[hk];rw[<-Jy];unfold Dy.num Dy.jO;simp only;generalize m*2^(e-k).toNat=x at *
 generalize n*2^(f-k).toNat=y at *
 congr 1;cases s<;>cases t<;>simp at hs ⊢ <;> omega
def Q9{s t:Bool}{m n:Nat}{e f k:Int}(hm:m≠0)(hn:n≠0)(hk:min e f=k)(hs:s≠t)(iC:m*2^(e-k).toNat<n*2^(f-k).toNat):
 iJ ⟨s,m,e⟩ ⟨t,n,f⟩=canon t (n*2^(f-k).toNat-m*2^(e-k).toNat) k:=by
 unfold iJ;rw[bj hm,bj hn];simp only[hk];rw[<-Jy];unfold Dy.num Dy.jO;simp only;generalize m*2^(e-k).toNat=x at *
 generalize n*2^(f-k).toNat=y at *
 congr 1;cases s<;>cases t<;>simp at hs ⊢ <;> omega
def ajT{L:List Nat}(h:iK L)(n:Nat):(gW (val L*2^n)).length<=L.length+n/32+1:=by
 refine s9 ?_;have h1:=oE h;rw[ss]at h1 ⊢;have h2:val L*2^n<2^(32*L.length)*2^n:=du h1 (bD aG);rw[<-bB]at h2;exact bV h2 (bR aG aE)
def Xx{a b k:Nat}(ha:(gW a).length<=k)(hb:(gW b).length<=k):(gW (a+b)).length<=k+1:=by
 refine s9 ?_;have h1:=y7 ha;have h2:=y7 hb;rw[bI];omega
def mO{a b:Nat}(h:a<=b):(gW a).length<=(gW b).length:=
 s9 (cC h (y7 (bu _)))
end Go.Proofs.YtgdahmmlddfimaaGreatDoor.Fp
namespace Go.Proofs.YtgdahmmlddfimaaGreatDoor
open Go.RowKit Fp
def iY(a b:Dy):Dy:=canon (a.neg != b.neg) (a.m*b.m) (a.e+b.e)
def ajS{a b k l:Nat}(ha:(gW a).length<=k)(hb:(gW b).length<=l):(gW (a*b)).length<=k+l:=by
 have h1:=y7 ha;have h2:=y7 hb;refine s9 ?_;rw[bB];exact aqJ h1 h2
def Ps{L:List Nat}{k:Nat}(h:iK L)(hl:L.length<=k):(gW (val L)).length<=k:=
 s9 (bV (oE h) (bR aG hl))
def amu(s : Bool)(A : Option Addr)(c : Nat)(L : List Nat)(e : Int)(t : Bool)(B : Option Addr)(d : Nat)(M : List Nat)(f : Int)(w : World)
    (hs : Sl w A c L) (hr : Sl w B d M) (h1 : L.length<=1000) (h2 : M.length<=1000) (e1 : -200000<=e) (e2 : e<=200000) (f1 : -200000<=f) (f2 : f<=200000):
    Calls prog 194 #[.agg #[.bool s,.slice A L.length c,.int .i64 e],.agg #[.bool t,.slice B M.length d,.int .i64 f]] w (xz w (iY ⟨s,val L,e⟩ ⟨t,val M,f⟩)) := by
  have hE : iF w (((w.alloc (.cells #[.bool s,.slice A L.length c,.int .i64 e] 31)).alloc (.cells #[.bool t,.slice B M.length d,.int .i64 f] 31)).alloc (.cells #[.bool false,.slice none 0 0,.int .i64 0] 31)) := ((iF.alloc _ _).trans (iF.alloc _ _)).trans (iF.alloc _ _);have hw : IntKind.i64.wrap (e+f)=e+f := i64_in _ aE aE;have kV := (((jG.new w s A L.length c e).alloc (.cells #[.bool t,.slice B M.length d,.int .i64 f] 31)).alloc (.cells #[.bool false,.slice none 0 0,.int .i64 0] 31)).drew;have k0 := ((jG.tO (W := w.alloc (.cells #[.bool s,.slice A L.length c,.int .i64 e] 31)) (g := w.heap.size+1) aK t B M.length d f).alloc (.cells #[.bool false,.slice none 0 0,.int .i64 0] 31)).drew;have bx3 := (jG.tO (W := (w.alloc (.cells #[.bool s,.slice A L.length c,.int .i64 e] 31)).alloc (.cells #[.bool t,.slice B M.length d,.int .i64 f] 31)) (g := w.heap.size+1+1) aK false none 0 0 0).drew;have xV := (hs.below hE).drew;have Ah := (hr.below hE).drew;have HE := aq9 (hE.trans (iF.drew _));clear hE;have hlen := ajS (a := val L) (b := val M) (k := 1000) (l := 1000) (Ps hs.ok h1) (Ps hr.ok h2);have HO := aq9 (λA c w (h : Sl w A c (gW (val L*val M))) => Fq (s != t) A c (gW (val L*val M)) (e+f) w h aE aE aE);rw[kq]at HO;have hD : iY ⟨s,val L,e⟩ ⟨t,val M,f⟩=canon (s != t) (val L*val M) (e+f) := rfl;rw[hD];have HT := aq9 (λw (h : Sl w A c L) (k : Sl w B d M) => amC A B c d L M w h k aE aE);clear hD hlen;generalize canon (s != t) (val L*val M) (e+f)=D at *
  generalize val L*val M=x at *
  go_enter func194,ntmps194;go_wp2_with fail;go_region_held3 (λw' => w'.cell? ⟨w.heap.size,0,none⟩=some (.bool s)/\w'.cell? ⟨w.heap.size,1,none⟩=some (.slice A L.length c)/\w'.cell? ⟨w.heap.size,2,none⟩=some (.int .i64 e)/\w'.cell? ⟨w.heap.size+1,0,none⟩=some (.bool t)/\w'.cell? ⟨w.heap.size+1,1,none⟩=some (.slice B M.length d)/\w'.cell? ⟨w.heap.size+1,2,none⟩=some (.int .i64 f))
    (first
      |exact⟨kV.c0,kV.c1,kV.c2,k0.c0,k0.c1,k0.c2⟩
      |exact⟨(kV.ext pO).c0,(kV.ext pO).c1,(kV.ext pO).c2,(k0.ext pO).c0,(k0.ext pO).c1,(k0.ext pO).c2⟩
      |exact⟨(kV.ext (pO.trans jg)).c0,(kV.ext (pO.trans jg)).c1,(kV.ext (pO.trans jg)).c2,(k0.ext (pO.trans jg)).c0,(k0.ext (pO.trans jg)).c1,(k0.ext (pO.trans jg)).c2⟩
      |exact⟨FA (kV.ext (pO.trans jg)).c0 aE,FA (kV.ext (pO.trans jg)).c1 aE,FA (kV.ext (pO.trans jg)).c2 aE,FA (k0.ext (pO.trans jg)).c0 aE,FA (k0.ext (pO.trans jg)).c1 aE,FA (k0.ext (pO.trans jg)).c2 aE⟩)
    (first
      | (go_at_call 239
         refine(HT.out _ xV Ah).mono ?_;rintro r wp ⟨Ap,cp,rfl,ON,pO⟩)
      | (go_at_call 169
         refine(HO.out _ _ _ ON).mono ?_;rintro r wo ⟨Ao,co,rfl,pK,jg⟩;have bz := bx3.ext (pO.trans jg);have z0 := bz.c0;have z1 := bz.c1;have z2 := bz.c2;have y0 := bz.fr 0;have y1 := bz.fr 1;have y2 := bz.fr 2))
  go_wp2;exact uO rfl rfl rfl (bz.set _ _ _ _ _) rfl (bz.vq pK _ _ _ _ _) (jG.uH (HE.out.trans (pO.trans jg)) aE _ _ _ _ _)
end Go.Proofs.YtgdahmmlddfimaaGreatDoor
namespace Go.Proofs.YtgdahmmlddfimaaGreatDoor.Fp
def aki{d:Dy}{j k:Int}(h1:j<=k)(h2:k<=d.e):d.jO j=d.jO k*2^(k-j).toNat:=by
 unfold Dy.jO;rw[bH,<-bB];congr 2;omega
def Lc{d:Dy}{j k:Int}(h1:j<=k)(h2:k<=d.e):d.num j=d.num k*((2^(k-j).toNat:Nat):Int):=by
 unfold Dy.num;rw[aki h1 h2];split
 .rw [dZ,Int.neg_mul]
 .rw [dZ]
def xk{d:Dy}(h:d.m=0)(k:Int):d.num k=0:=by
 unfold Dy.num;rw[XS h];split<;>rfl
def xF(x y:Int):Int:=if x<y then -1 else if y<x then 1 else 0
def To(x y:Int){p:Nat}(hp:0<p):xF (x*(p:Int)) (y*(p:Int))=xF x y:=by
 unfold xF;have h:(0:Int)<p:= aE ;have a:=@Int.mul_lt_mul_right (p:Int) x y h;have b:=@Int.mul_lt_mul_right (p:Int) y x h;simp only[a,b]
def oO(d:Dy)(k:Int):Prop:=d.m=0\/k<=d.e
def oO.le{d:Dy}{j k:Int}(h:oO d k)(hj:j<=k):oO d j:=by
 rcases h with h|h
 .exact .inl h
 .exact .inr aE 
def oO.num{d:Dy}{j k:Int}(h:oO d k)(hj:j<=k):d.num j=d.num k*((2^(k-j).toNat:Nat):Int):=by
 rcases h with h|h
 .rw [xk h,xk h,Int.zero_mul]
 .exact Lc hj h
def Eh{a b:Dy}{k:Int}(ha:oO a k)(hb:oO b k):iL a b=xF (a.num k) (b.num k):=by
 have e0:iL a b=xF (a.num (min a.e b.e)) (b.num (min a.e b.e)):=rfl;rw[e0];obtain⟨j,h1,h2⟩:∃ j:Int,j<=k/\j<=min a.e b.e:=⟨min k (min a.e b.e),aE,aE⟩
 have a1:=ha.num h1;have b1:=hb.num h1;have a2:=(show oO a (min a.e b.e)from .inr aE).num h2;have b2:=(show oO b (min a.e b.e)from .inr aE).num h2;rw[<-To _ _ (p:=2^(min a.e b.e-j).toNat) (bD aG),<-a2,<-b2,a1,b1,To _ _ (bD aG)]
def akf{s:Bool}{m:Nat}{e k:Int}(h:k<=e):(canon s m e).jO k=m*2^(e-k).toNat:=by
 unfold canon;split
 .rename_i h0;subst h0;simp[Dy.jO]
 .rename_i h0;unfold Dy.jO;simp only;have e1:=Gc h0
  conv=>rhs;rw[<-e1]
  rw[bH,<-bB];congr 2;omega
def DC{s:Bool}{m:Nat}{e k:Int}(h:k<=e):(canon s m e).num k=if s then -((m*2^(e-k).toNat:Nat):Int)else((m*2^(e-k).toNat:Nat):Int):=by
 by_cases h0:m=0
 .subst h0;rw[xk (by simp[canon])];simp
 .have:(canon s m e).neg=s:=by unfold canon;rw[bj h0]
  unfold Dy.num;rw[akf h,this]
def YO{m:Nat}{e k:Int}(h:k<=e):(canon false m e).num k=((m*2^(e-k).toNat:Nat):Int):=by
 rw[DC h];simp
def PZ{z e k:Int}(h:k<=e):(ki z e).num k=z*((2^(e-k).toNat:Nat):Int):=by
 unfold ki;rw[DC h];by_cases hz:z<0
 .simp only[hz,fI,bJ];rw[dZ,<-Int.neg_mul];congr 1;omega
 .simp only[hz,gQ];rw[dZ,show(z.natAbs:Int)=z by omega];simp
def AY{s:Bool}{m:Nat}{e k:Int}(h:k<=e):oO (canon s m e) k:=by
 unfold canon;split
 .exact .inl rfl
 .exact .inr (by simp only;omega)
def MC{z e k:Int}(h:k<=e):oO (ki z e) k:=AY h
def LY{a b:Dy}{k:Int}(ha:oO a k)(hb:oO b k):(iJ a b).num k=a.num k+b.num k:=by
 unfold iJ;by_cases h1:a.m=0
 .rw [bk h1,xk h1,Int.zero_add]
 .rw [bj h1];by_cases h2:b.m=0
  .rw [bk h2,xk h2,Int.add_zero]
  .rw [bj h2];have ea:k<=a.e:=by rcases ha with h|h;exact absurd h h1;exact h
   have eb:k<=b.e:=by rcases hb with h|h;exact absurd h h2;exact h
   have hm:k<=min a.e b.e:= aE ;rw[PZ hm,gR,<-Lc hm aE,<-Lc hm aE]
def I9{a b:Dy}{k:Int}(ha:oO a k)(hb:oO b k):oO (iJ a b) k:=by
 unfold iJ;by_cases h1:a.m=0
 .rw [bk h1];exact hb
 .rw [bj h1];by_cases h2:b.m=0
  .rw [bk h2];exact ha
  .rw [bj h2];have ea:k<=a.e:=by rcases ha with h|h;exact absurd h h1;exact h
   have eb:k<=b.e:=by rcases hb with h|h;exact absurd h h2;exact h
   exact MC aE 
def Cw{a b:Dy}(ha:a.nx)(hb:b.nx):(iJ a b).nx:=by
 unfold iJ;split
 .exact hb
 .split
  .exact ha
  .exact rY _ _ _
def I8{d:Dy}{k:Int}(h:oO d k):oO (jf d) k:=h
def La{d:Dy}(k:Int):(jf d).num k = -(d.num k):=by
 by_cases h:d.m=0
 .rw [xk h,xk (by exact h)];rfl
 .exact YP d k h
def Ng{a b:Dy}(ha:a.nx)(hb:b.nx){k:Int}(h1:oO a k)(h2:oO b k)(h:a.num k=b.num k):a=b:=by
 have zero:∀ {d:Dy},d.nx->d.m=0->d=iA:=by
  intro d hd h0;obtain⟨s,m,e⟩:=d;rcases hd with⟨x,y,z⟩|hd
  .simp only at x y z;subst x y z;rfl
  .simp only at hd h0;omega
 have nz:∀ {d:Dy},d.num k=0->d.m=0:=by
  intro d hd;by_cases h0:d.m=0
  .exact h0
  .exfalso;have:=xh h0 k;unfold Dy.num at hd;split at hd<;>omega
 by_cases za:a.m=0
 .have zb:b.m=0:=nz (by rw[<-h];exact xk za k);rw[zero ha za,zero hb zb]
 .have zb:b.m≠0:=λzb=>za (nz (by rw[h];exact xk zb k))
  have oa:a.m%2=1:=by rcases ha with⟨x,_,_⟩|x;exact absurd x za;exact x
  have ob:b.m%2=1:=by rcases hb with⟨x,_,_⟩|x;exact absurd x zb;exact x
  have ea:k<=a.e:=by rcases h1 with h|h;exact absurd h za;exact h
  have eb:k<=b.e:=by rcases h2 with h|h;exact absurd h zb;exact h
  have pa:=xh za k;have pb:=xh zb k;have hm:a.neg=b.neg/\a.jO k=b.jO k:=by
   unfold Dy.num at h;cases x:a.neg<;>cases y:b.neg<;>simp[x,y]at h<;>first|exact⟨rfl,aE⟩|(exfalso;omega)
  have hc:=congrArg jz hm.2;unfold Dy.jO at hc;rw[zU oa,zU ob]at hc;have sE:=hm.2;unfold Dy.jO at sE;rw[hc]at sE;have tw:=aq1 (bD aG) sE;obtain⟨s,m,e⟩:=a;obtain⟨t,n,f⟩:=b;simp only at *
  have:e=f:= aE ;rw[hm.1,tw,this]
end Go.Proofs.YtgdahmmlddfimaaGreatDoor.Fp
namespace Go.Proofs.YtgdahmmlddfimaaGreatDoor
open Go.RowKit Fp
def aaA(A:Option Addr)(c:Nat)(M:List Nat)(n:Int)(w:World)(kP:Sl w A c M)(hlen:M.length<=256)(h0:0<=n)(hn:n<=65536)(r9:(gW (val M*2^n.toNat)).length<=256):
 Calls prog 220 #[.slice A M.length c,.int .i64 n] w (uL w (gW (val M*2^n.toNat))):=by
 obtain⟨k,rfl⟩:=eE h0;exact anK A c M k w kP hlen aE r9
set_option maxHeartbeats 8000000 in
def afK(s : Bool)(A : Option Addr)(c : Nat)(L : List Nat)(e : Int)(t : Bool)(B : Option Addr)(d : Nat)(M : List Nat)(f : Int)(w : World)
    (hs : Sl w A c L) (hr : Sl w B d M) (da : pe s L e) (db : pe t M f) (wV : val L≠0) (ue : val M≠0):
    Calls prog 183 #[.agg #[.bool s,.slice A L.length c,.int .i64 e],.agg #[.bool t,.slice B M.length d,.int .i64 f]] w λr w' => r = .returned (.int .i64 (tZ ⟨s,val L,e⟩ ⟨t,val M,f⟩))/\iF w w' := by
  obtain⟨mv,lr⟩ := da.exp;obtain⟨Oj,Ol⟩ := db.exp;have hl := da.len;have hm := db.len;have hE : iF w ((w.alloc (.cells #[.bool s,.slice A L.length c,.int .i64 e] 31)).alloc (.cells #[.bool t,.slice B M.length d,.int .i64 f] 31)) := (iF.alloc _ _).trans (iF.alloc _ _);have kV := ((jG.new w s A L.length c e).alloc (.cells #[.bool t,.slice B M.length d,.int .i64 f] 31)).drew;have k0 := (jG.tO (W := w.alloc (.cells #[.bool s,.slice A L.length c,.int .i64 e] 31)) (g := w.heap.size+1) aK t B M.length d f).drew;have xV := (hs.below hE).drew;have Ah := (hr.below hE).drew;have HE := aq9 (hE.trans (iF.drew _));clear hE;have HTa := aq9 (λw (h : Sl w A c L) => Nf s A c L e w h da);have HTb := aq9 (λw (h : Sl w B d M) => Nf t B d M f w h db);have Hlt := aq9 (λh => Ts (a := ⟨s,val L,e⟩) (b := ⟨t,val M,f⟩) wV ue h);have Hgt := aq9 (λh => Tp (a := ⟨s,val L,e⟩) (b := ⟨t,val M,f⟩) wV ue h);have Hta := aq9 (show Dy.im ⟨s,val L,e⟩=ie (val L)+e by unfold Dy.im;rw[bj wV]);have Htb := aq9 (show Dy.im ⟨t,val M,f⟩=ie (val M)+f by unfold Dy.im;rw[bj ue]);obtain⟨k,hk⟩ : ∃ k,min e f=k := ⟨_,rfl⟩
  have hke : k<=e := aE ;have hkf : k<=f := aE ;have oJ : -17000<=k := aE ;have Ox := aq9 (aE:k=e\/k=f);have Wx : IntKind.i64.wrap (e-k)=e-k := i64_in _ aE aE;have hwf : IntKind.i64.wrap (f-k)=f-k := i64_in _ aE aE;have HM := aq9 (show tZ ⟨s,val L,e⟩ ⟨t,val M,f⟩=kI (val L*2^(e-k).toNat) (val M*2^(f-k).toNat)by unfold tZ;simp only[hk];rfl);have Hfa := aq9 (show ie (val L)+e=ie (val M)+f->ie (val L*2^(e-k).toNat)<=4096 from λh => by
    rw[qC wV];have := da.bits;have := db.bits;have := Ox.out;omega)
  have Hfb := aq9 (show ie (val L)+e=ie (val M)+f->ie (val M*2^(f-k).toNat)<=4096 from λh => by
    rw[qC ue];have := da.bits;have := db.bits;have := Ox.out;omega)
  have HXa := aq9 (λw (h : Sl w A c L) r9 => aaA A c L (e-k) w h hl aE aE r9);have HXb := aq9 (λw (h : Sl w B d M) r9 => aaA B d M (f-k) w h hm aE aE r9);generalize Dy.im ⟨s,val L,e⟩=ta at *
  generalize Dy.im ⟨t,val M,f⟩=tb at *
  generalize tZ ⟨s,val L,e⟩ ⟨t,val M,f⟩=R at *
  generalize val L*2^(e-k).toNat=x at *
  generalize val M*2^(f-k).toNat=y at *
  have HC := aq9 (λA B c d w (h : Sl w A c (gW x)) (k : Sl w B d (gW y)) hx hy => K6 A B c d (gW x) (gW y) w h k hx hy);rw[kq,kq]at HC;clear wV ue da db hl hm;go_enter func183,ntmps183;go_wp2_with fail;go_region_held3 (λw' => w'.cell? ⟨w.heap.size,0,none⟩=some (.bool s)/\w'.cell? ⟨w.heap.size,1,none⟩=some (.slice A L.length c)/\w'.cell? ⟨w.heap.size,2,none⟩=some (.int .i64 e)/\w'.cell? ⟨w.heap.size+1,0,none⟩=some (.bool t)/\w'.cell? ⟨w.heap.size+1,1,none⟩=some (.slice B M.length d)/\w'.cell? ⟨w.heap.size+1,2,none⟩=some (.int .i64 f))
    (first
      |exact⟨kV.c0,kV.c1,kV.c2,k0.c0,k0.c1,k0.c2⟩
      |exact⟨(kV.ext jh).c0,(kV.ext jh).c1,(kV.ext jh).c2,(k0.ext jh).c0,(k0.ext jh).c1,(k0.ext jh).c2⟩
      |exact⟨(kV.ext jx).c0,(kV.ext jx).c1,(kV.ext jx).c2,(k0.ext jx).c0,(k0.ext jx).c1,(k0.ext jx).c2⟩
      |exact⟨(kV.ext (jh.trans jx)).c0,(kV.ext (jh.trans jx)).c1,(kV.ext (jh.trans jx)).c2,(k0.ext (jh.trans jx)).c0,(k0.ext (jh.trans jx)).c1,(k0.ext (jh.trans jx)).c2⟩
      |exact⟨(kV.ext (jx.trans jh)).c0,(kV.ext (jx.trans jh)).c1,(kV.ext (jx.trans jh)).c2,(k0.ext (jx.trans jh)).c0,(k0.ext (jx.trans jh)).c1,(k0.ext (jx.trans jh)).c2⟩
      |exact⟨(kV.ext ((jh.trans jx).trans pP)).c0,(kV.ext ((jh.trans jx).trans pP)).c1,(kV.ext ((jh.trans jx).trans pP)).c2,(k0.ext ((jh.trans jx).trans pP)).c0,(k0.ext ((jh.trans jx).trans pP)).c1,(k0.ext ((jh.trans jx).trans pP)).c2⟩
      |exact⟨(kV.ext ((jx.trans jh).trans pP)).c0,(kV.ext ((jx.trans jh).trans pP)).c1,(kV.ext ((jx.trans jh).trans pP)).c2,(k0.ext ((jx.trans jh).trans pP)).c0,(k0.ext ((jx.trans jh).trans pP)).c1,(k0.ext ((jx.trans jh).trans pP)).c2⟩)
    (first
      | (go_at_call_of 185 (Value.agg #[.bool s,.slice A L.length c,.int .i64 e])
         refine(HTa.out _ ?_).mono ?_
         (first|exact xV|exact xV.below jx)
         rintro r wx ⟨rfl,jh⟩)
      | (go_at_call_of 185 (Value.agg #[.bool t,.slice B M.length d,.int .i64 f])
         refine(HTb.out _ ?_).mono ?_
         (first|exact Ah|exact Ah.below jh)
         rintro r wy ⟨rfl,jx⟩))
  first
    | (have q9 := jh.trans jx)
    | (have q9 := jx.trans jh)
  have cx1 := (kV.ext q9).drew;have cx2 := (k0.ext q9).drew;have kP := (xV.below q9).drew;have nY := (Ah.below q9).drew;have cx1n := (kV.ext q9)
  have cx2n := (k0.ext q9)
  have HF := aq9 ((HE.out.trans q9).trans (iF.drew _));have HFr := aq9 (HE.out.trans q9);clear jh jx q9;by_cases h1 : ta<tb
  . have hR := aq9 (Hlt.out h1)
    go_wp2;go_ret;exact⟨oZ hR.out.symm,HFr.out⟩
  . by_cases h2 : tb<ta
    . have hR := aq9 (Hgt.out h2)
      go_wp2;go_ret;exact⟨oZ hR.out.symm,HFr.out⟩
    . have nT : (ie (val L) : Int)+e=ie (val M)+f := by rw[<-Hta.out,<-Htb.out];omega
      have hfa := Ho (k := 128) (Hfa.out nT);have hfb := Ho (k := 128) (Hfb.out nT);have HXa2 := aq9 (λw h => HXa.out w h aE);have HXb2 := aq9 (λw h => HXb.out w h aE);have HC2 := aq9 (λA B c d w h k => HC.out A B c d w h k aE aE);have b0 := cx1n.c0;have b1 := cx1n.c1;have b2 := cx1n.c2;have d0 := cx2n.c0;have d1 := cx2n.c1;have d2 := cx2n.c2;clear nT hfa hfb;go_wp2_with fail;go_region_held3 (λw' => w'.cell? ⟨w.heap.size,0,none⟩=some (.bool s)/\w'.cell? ⟨w.heap.size,1,none⟩=some (.slice A L.length c)/\w'.cell? ⟨w.heap.size,2,none⟩=some (.int .i64 e)/\w'.cell? ⟨w.heap.size+1,0,none⟩=some (.bool t)/\w'.cell? ⟨w.heap.size+1,1,none⟩=some (.slice B M.length d)/\w'.cell? ⟨w.heap.size+1,2,none⟩=some (.int .i64 f))
        (first
          |exact⟨cx1.c0,cx1.c1,cx1.c2,cx2.c0,cx2.c1,cx2.c2⟩
          |exact⟨(cx1.ext jh).c0,(cx1.ext jh).c1,(cx1.ext jh).c2,(cx2.ext jh).c0,(cx2.ext jh).c1,(cx2.ext jh).c2⟩
          |exact⟨(cx1.ext jx).c0,(cx1.ext jx).c1,(cx1.ext jx).c2,(cx2.ext jx).c0,(cx2.ext jx).c1,(cx2.ext jx).c2⟩
          |exact⟨(cx1.ext (jh.trans jx)).c0,(cx1.ext (jh.trans jx)).c1,(cx1.ext (jh.trans jx)).c2,(cx2.ext (jh.trans jx)).c0,(cx2.ext (jh.trans jx)).c1,(cx2.ext (jh.trans jx)).c2⟩
          |exact⟨(cx1.ext (jx.trans jh)).c0,(cx1.ext (jx.trans jh)).c1,(cx1.ext (jx.trans jh)).c2,(cx2.ext (jx.trans jh)).c0,(cx2.ext (jx.trans jh)).c1,(cx2.ext (jx.trans jh)).c2⟩
          |exact⟨(cx1.ext ((jh.trans jx).trans pP)).c0,(cx1.ext ((jh.trans jx).trans pP)).c1,(cx1.ext ((jh.trans jx).trans pP)).c2,(cx2.ext ((jh.trans jx).trans pP)).c0,(cx2.ext ((jh.trans jx).trans pP)).c1,(cx2.ext ((jh.trans jx).trans pP)).c2⟩
          |exact⟨(cx1.ext ((jx.trans jh).trans pP)).c0,(cx1.ext ((jx.trans jh).trans pP)).c1,(cx1.ext ((jx.trans jh).trans pP)).c2,(cx2.ext ((jx.trans jh).trans pP)).c0,(cx2.ext ((jx.trans jh).trans pP)).c1,(cx2.ext ((jx.trans jh).trans pP)).c2⟩)
        (first
          | (go_at_call_of 220 (Value.slice A L.length c)
             refine(HXa2.out _ ?_).mono ?_
             (first|exact kP|exact kP.below jx)
             rintro r wx ⟨Ax,cx,rfl,Wk,jh⟩)
          | (go_at_call_of 220 (Value.slice B M.length d)
             refine(HXb2.out _ ?_).mono ?_
             (first|exact nY|exact nY.below jh)
             rintro r wy ⟨Ay,cy,rfl,Wl,jx⟩)
          | (go_at_call 223
             refine(HC2.out _ _ _ _ _ ?_ ?_).mono ?_
             (first|exact Wk.below jx|exact Wk)
             (first|exact Wl|exact Wl.below jh)
             rintro r wz ⟨rfl,pP⟩))
      all_goals
        go_wp2;go_ret
        (first|exact⟨oZ HM.out.symm,HF.out.trans ((jh.trans jx).trans pP)⟩|exact⟨oZ HM.out.symm,HF.out.trans ((jx.trans jh).trans pP)⟩)
def aaI{d:Dy}:d.iI=0↔d.m=0:=by
 rcases AJ d with⟨h1,h2⟩|⟨h1,_,h2⟩|⟨h1,_,h2⟩<;>simp[h1,h2]
def afI(s : Bool)(A : Option Addr)(c : Nat)(L : List Nat)(e : Int)(t : Bool)(B : Option Addr)(d : Nat)(M : List Nat)(f : Int)(w : World)
    (hs : Sl w A c L) (hr : Sl w B d M) (da : pe s L e) (db : pe t M f):
    Calls prog 108 #[.agg #[.bool s,.slice A L.length c,.int .i64 e],.agg #[.bool t,.slice B M.length d,.int .i64 f]] w λr w' => r = .returned (.int .i64 (iL ⟨s,val L,e⟩ ⟨t,val M,f⟩))/\iF w w' := by
  obtain⟨mv,lr⟩ := da.exp;obtain⟨Oj,Ol⟩ := db.exp;have HVa := aq9 (λw (h : Sl w A c L) => CA s A c L e w true h aE aE (by simp[da]));have HVb := aq9 (λw (h : Sl w B d M) => CA t B d M f w true h aE aE (by simp[db]));have HSa := aq9 (λw (h : Sl w A c L) => Nc s A c L e w h da);have HSb := aq9 (λw (h : Sl w B d M) => Nc t B d M f w h db);have HK := aq9 (λh1 h2 w (h : Sl w A c L) (k : Sl w B d M) => afK s A c L e t B d M f w h k da db h1 h2);have HP := aq9 (Ei ⟨s,val L,e⟩ ⟨t,val M,f⟩);have z1 : Hid (Dy.iI ⟨s,val L,e⟩=0↔val L=0) := aaI;have z2 : Hid (Dy.iI ⟨t,val M,f⟩=0↔val M=0) := aaI;have KH : Dy.iI ⟨s,val L,e⟩=0\/Dy.iI ⟨s,val L,e⟩ = -1\/Dy.iI ⟨s,val L,e⟩=1 := by
    rcases AJ ⟨s,val L,e⟩with⟨_,h⟩|⟨_,_,h⟩|⟨_,_,h⟩<;>simp[h]
  have oq : tZ ⟨s,val L,e⟩ ⟨t,val M,f⟩ = -1\/tZ ⟨s,val L,e⟩ ⟨t,val M,f⟩=0\/tZ ⟨s,val L,e⟩ ⟨t,val M,f⟩=1 := by
    unfold tZ kI;split;simp;split<;>simp
  generalize Dy.iI ⟨s,val L,e⟩=sa at *
  generalize Dy.iI ⟨t,val M,f⟩=sb at *
  generalize tZ ⟨s,val L,e⟩ ⟨t,val M,f⟩=cm at *
  generalize iL ⟨s,val L,e⟩ ⟨t,val M,f⟩=R at *
  have C9 : IntKind.i64.wrap (sa*cm)=sa*cm := i64_in _ (by rcases KH with rfl|rfl|rfl<;>omega) (by rcases KH with rfl|rfl|rfl<;>omega);have HH := aq9 KH;clear KH oq da db;go_enter func108,ntmps108;go_wp2_with fail;refine(HVa.out _ ((hs.alloc _).alloc _)).mono ?_;rintro r w1 ⟨rfl,kD⟩;have kV := ((jG.new w s A L.length c e).alloc (.cells #[.bool t,.slice B M.length d,.int .i64 f] 31)).ext kD;have k0 := (jG.tO (W := w.alloc (.cells #[.bool s,.slice A L.length c,.int .i64 e] 31)) (g := w.heap.size+1) aK t B M.length d f).ext kD;have b0 := kV.c0;have b1 := kV.c1;have b2 := kV.c2;have d0 := k0.c0;have d1 := k0.c1;have d2 := k0.c2;have hE := (((iF.alloc w (.cells #[.bool s,.slice A L.length c,.int .i64 e] 31)).trans (iF.alloc _ (.cells #[.bool t,.slice B M.length d,.int .i64 f] 31))).trans kD)
  go_wp2_with fail;refine(HVb.out _ (hr.below hE)).mono ?_;rintro r w2 ⟨rfl,lZ⟩;have CI := hE.trans lZ;have kV := (kV.ext lZ).drew;have k0 := (k0.ext lZ).drew;have xV := (hs.below CI).drew;have Ah := (hr.below CI).drew;have HE := aq9 (CI.trans (iF.drew _));clear hE CI kD lZ b0 b1 b2 d0 d1 d2;go_wp2_with fail;go_region_held3 (λw' => w'.cell? ⟨w.heap.size,0,none⟩=some (.bool s)/\w'.cell? ⟨w.heap.size,1,none⟩=some (.slice A L.length c)/\w'.cell? ⟨w.heap.size,2,none⟩=some (.int .i64 e)/\w'.cell? ⟨w.heap.size+1,0,none⟩=some (.bool t)/\w'.cell? ⟨w.heap.size+1,1,none⟩=some (.slice B M.length d)/\w'.cell? ⟨w.heap.size+1,2,none⟩=some (.int .i64 f))
    (first
      |exact⟨kV.c0,kV.c1,kV.c2,k0.c0,k0.c1,k0.c2⟩
      |exact⟨(kV.ext jh).c0,(kV.ext jh).c1,(kV.ext jh).c2,(k0.ext jh).c0,(k0.ext jh).c1,(k0.ext jh).c2⟩
      |exact⟨(kV.ext jx).c0,(kV.ext jx).c1,(kV.ext jx).c2,(k0.ext jx).c0,(k0.ext jx).c1,(k0.ext jx).c2⟩
      |exact⟨(kV.ext (jh.trans jx)).c0,(kV.ext (jh.trans jx)).c1,(kV.ext (jh.trans jx)).c2,(k0.ext (jh.trans jx)).c0,(k0.ext (jh.trans jx)).c1,(k0.ext (jh.trans jx)).c2⟩
      |exact⟨(kV.ext (jx.trans jh)).c0,(kV.ext (jx.trans jh)).c1,(kV.ext (jx.trans jh)).c2,(k0.ext (jx.trans jh)).c0,(k0.ext (jx.trans jh)).c1,(k0.ext (jx.trans jh)).c2⟩)
    (first
      | (go_at_call_of 92 (Value.agg #[.bool s,.slice A L.length c,.int .i64 e])
         refine(HSa.out _ ?_).mono ?_
         (first|exact xV|exact xV.below jx)
         rintro r wx ⟨rfl,jh⟩)
      | (go_at_call_of 92 (Value.agg #[.bool t,.slice B M.length d,.int .i64 f])
         refine(HSb.out _ ?_).mono ?_
         (first|exact Ah|exact Ah.below jh)
         rintro r wy ⟨rfl,jx⟩))
  first
    | (have q9 := jh.trans jx)
    | (have q9 := jx.trans jh)
  have cx1 := (kV.ext q9)
  have cx2 := (k0.ext q9)
  have kP := (xV.below q9)
  have nY := (Ah.below q9)
  have HFr := aq9 (HE.out.trans q9);clear jh jx q9;by_cases h1 : sa<sb
  . have hR := aq9 (show R = -1 by rw[HP.out,bk h1])
    go_wp2;go_ret;exact⟨oZ hR.out.symm,HFr.out⟩
  . by_cases h2 : sb<sa
    . have hR := aq9 (show R=1 by rw[HP.out,bj h1,bk h2])
      go_wp2;go_ret;exact⟨oZ hR.out.symm,HFr.out⟩
    . by_cases h3 : sa=0
      . have hR := aq9 (show R=0 by rw[HP.out,bj h1,bj h2,bk h3])
        have hz : (sa==0)=true := by simp[h3]
        go_wp2;go_ret;exact⟨oZ hR.out.symm,HFr.out⟩
      . have hR := aq9 (show R=sa*cm by rw[HP.out,bj h1,bj h2,bj h3])
        have hz : (sa==0)=false := a7 h3;have HK2 := aq9 (HK.out (λh => h3 (z1.out.2 h)) (λh => h3 (by have := z2.out.2 h;omega)));have b0 := cx1.c0;have b1 := cx1.c1;have b2 := cx1.c2;have d0 := cx2.c0;have d1 := cx2.c1;have d2 := cx2.c2;go_wp2_with fail;refine(HK2.out _ kP nY).mono ?_;rintro r w3 ⟨rfl,qU⟩;go_wp2;go_ret;exact⟨oZ hR.out.symm,HFr.out.trans qU⟩
def MV{L:List Nat}(h:iK L)(hl:L.length<=256)(s:Bool)(e:Int):(gW (canon s (val L) e).m).length<=100000000:=by
 unfold canon;split
 .simp [oz]
 .refine bA (s9 (k:=256) (cC (b7 _ _) ?_)) aG ;exact bV (oE h) (bR aG hl)
def MT{L:List Nat}(h:iK L)(hl:L.length<=256)(s:Bool)(e:Int)(h1:-9000000<=e)(h2:e<=9000000):-10000000<=(canon s (val L) e).e/\(canon s (val L) e).e<=10000000:=by
 unfold canon;split
 .simp
 .rename_i h0;have:=F4 h h0;simp only;omega
def amx(s:Bool)(A:Option Addr)(c:Nat)(L:List Nat)(e k:Int)(w:World)(hs:Sl w A c L)(hd:pe s L e)(oJ:-32768<=k)(xM:k<=32768)(hr:mT (canon s (val L) (e+k))):
 Calls prog 125 #[.agg #[.bool s,.slice A L.length c,.int .i64 e],.int .i64 k] w (zI w (canon s (val L) (e+k)) 0):=by
 obtain⟨mv,lr⟩:=hd.exp;have hlen:=hd.len;have HV:=aq9 (λw (h:Sl w A c L)=>LA s A c L e w true h aE aE (by simp[hd]));have HX:=aq9 (λw=>aml k w true (by simp[oJ,xM]));have hw:IntKind.i64.wrap (e+k)=e+k:=i64_in _ aE aE;have HC:=aq9 (λw (h:Sl w A c L)=>Fq s A c L (e+k) w h aE aE aE);have kD:=MV hs.ok hlen s (e+k);obtain⟨lZ,qU⟩:=MT hs.ok hlen s (e+k) aE aE;have hv:(canon s (val L) (e+k)).ib:=⟨rY _ _ _,hr⟩
 have HK:=aq9 (λA c w (h:Sl w A c (gW (canon s (val L) (e+k)).m))=>ami _ A c w h kD lZ qU hv);generalize canon s (val L) (e+k)=D at *
 clear hd hr hv kD lZ qU;go_enter func125,ntmps125;go_wp2_with fail;refine(HV.out _ ((hs.alloc _).alloc _)).mono ?_;rintro r w1 ⟨rfl,kD⟩;have kV:=((jG.new w s A L.length c e).alloc (.cells #[.bool false,.slice none 0 0,.int .i64 0] 31)).ext kD;have k0:=(jG.tO (W:=w.alloc (.cells #[.bool s,.slice A L.length c,.int .i64 e] 31)) (g:=w.heap.size+1) aK false none 0 0 0).ext kD;have b0:=kV.c0;have b1:=kV.c1;have b2:=kV.c2;have hE:=(((iF.alloc w (.cells #[.bool s,.slice A L.length c,.int .i64 e] 31)).trans (iF.alloc _ (.cells #[.bool false,.slice none 0 0,.int .i64 0] 31))).trans kD)
 have xV:=hs.below hE;have HE:=aq9 hE;clear hE kD;go_wp2_with fail;refine(HX.out _).mono ?_;rintro r w2 ⟨rfl,rfl⟩;go_wp2_with fail;refine(HC.out _ xV).mono ?_;rintro r w2 ⟨A1,c1,rfl,vZ,lZ⟩;go_wp2_with fail;refine(HK.out _ _ _ vZ).mono ?_;rintro r w3 ⟨A2,c2,rfl,kP,qU⟩;have bz:=k0.ext (lZ.trans qU);have z0:=bz.c0;have z1:=bz.c1;have z2:=bz.c2;have f0:=bz.fr 0;have f1:=bz.fr 1;have f2:=bz.fr 2;go_wp2;exact En rfl rfl rfl rfl (bz.set _ _ _ _ _) rfl (bz.vq kP _ _ _ _ _) (jG.uH (HE.out.trans (lZ.trans qU)) aE _ _ _ _ _)
abbrev DV(d:Dy)(A:Option Addr)(c:Nat):Value:=.agg #[.bool d.neg,.slice A (gW d.m).length c,.int .i64 d.e]
def Pr{n k:Nat}(h:ie n<=32*k):(gW n).length<=k:=by
 refine s9 (bV (qw _) ?_);rw[ss];exact bR aG h
def Fp.Dy.ib.wP{d:Dy}(h:d.ib):pe d.neg (gW d.m) d.e:=by
 refine⟨uI _,Pr ?_,by rw[kq];exact h⟩;rcases h.range with h0|⟨h1,_⟩
 .rw [h0];exact bS _
 .omega
def Fp.Dy.ib.len{d:Dy}(h:d.ib):(gW d.m).length<=256:=h.wP.2.1
def Fp.Dy.ib.exp{d:Dy}(h:d.ib):-16384<=d.e/\d.e<=16384:=h.wP.exp
def Fp.Dy.ib.bits{d:Dy}(h:d.ib):ie d.m<=4096:=by have:=h.wP.bits;rwa[kq]at this
def jG.all{w:World}{g n c:Nat}{s:Bool}{A:Option Addr}{e:Int}(h:jG w g s A n c e):w.cell? ⟨g,0,none⟩=some (.bool s)/\w.cell? ⟨g,1,none⟩=some (.slice A n c)/\w.cell? ⟨g,2,none⟩=some (.int .i64 e):=⟨h.c0,h.c1,h.c2⟩
def jG.CE{w:World}{g n c:Nat}{s:Bool}{A:Option Addr}{e:Int}(h:jG w g s A n c e){g':Nat}(ju:g'≠g)(i:Nat)(v:Value):jG (w.setCell ⟨g',i,none⟩ v) g s A n c e:=by
 unfold jG at h ⊢;simp only[World.setCell,fm];rw[bj ju];exact h
def jG.Ny{w:World}{g n c:Nat}{s:Bool}{A:Option Addr}{e:Int}(h:jG w g s A n c e){g':Nat}(ju:g'≠g)(v0 v1 v2:Value):
 jG (((w.setCell ⟨g',0,none⟩ v0).setCell ⟨g',1,none⟩ v1).setCell ⟨g',2,none⟩ v2) g s A n c e:=((h.CE ju 0 v0).CE ju 1 v1).CE ju 2 v2
structure AW(d:Dy):Prop where
 len:(gW d.m).length<=256
 lo:-17000<=d.e
 hi:d.e<=17000
def Fp.Dy.ib.yd{d:Dy}(h:d.ib):AW d:=⟨h.len,by have:=h.exp;omega,by have:=h.exp;omega⟩
def amk(a b:Dy)(A B:Option Addr)(c d:Nat)(w:World)(r:Bool)(h:Sl w A c (gW a.m))(k:Sl w B d (gW b.m))(ha:(gW a.m).length<=100000)(hb:(gW b.m).length<=100000)(hr:r=true↔a=b):
 Calls prog 34 #[DV a A c,DV b B d] w λe w'=>e = .returned (.bool r)/\iF w w':=
 amj a.neg A c (gW a.m) a.e b.neg B d (gW b.m) b.e w r h k (uI _) (uI _) ha hb (by
  rw[hr];obtain⟨s,m,e⟩:=a;obtain⟨t,n,f⟩:=b;simp only[Dy.mk.injEq];constructor
  .rintro ⟨x,y,z⟩;exact⟨x,z,by rw[y]⟩
  .rintro ⟨x,y,z⟩;have:=congrArg val z;rw[kq,kq]at this;exact⟨x,this,y⟩)
def afJ(a b:Dy)(A B:Option Addr)(c d:Nat)(w:World)(h:Sl w A c (gW a.m))(k:Sl w B d (gW b.m))(ha:a.ib)(hb:b.ib):
 Calls prog 108 #[DV a A c,DV b B d] w λe w'=>e = .returned (.int .i64 (iL a b))/\iF w w':=by
 have:=afI a.neg A c (gW a.m) a.e b.neg B d (gW b.m) b.e w h k ha.wP hb.wP;rw[kq,kq]at this;exact this
def afG(a:Dy)(A:Option Addr)(c:Nat)(w:World)(h:Sl w A c (gW a.m))(ha:a.ib):
 Calls prog 173 #[DV a A c] w λe w'=>e = .returned (.int .i64 (ie a.m))/\iF w w':=by
 have:=afF a.neg A c (gW a.m) a.e w h ha.wP;rw[kq]at this;exact this
def afQ(a:Dy)(A:Option Addr)(c:Nat)(w:World)(h:Sl w A c (gW a.m))(ha:a.ib):
 Calls prog 92 #[DV a A c] w λe w'=>e = .returned (.int .i64 a.iI)/\iF w w':=by
 have:=Nc a.neg A c (gW a.m) a.e w h ha.wP;rw[kq]at this;exact this
def T4(a:Dy)(A:Option Addr)(c:Nat)(w:World)(h:Sl w A c (gW a.m))(ha:a.ib):
 Calls prog 91 #[DV a A c] w λe w'=>e = .returned (.bool true)/\iF w w':=
 CA a.neg A c (gW a.m) a.e w true h (by have:=ha.exp;omega) (by have:=ha.exp;omega) (by simp[ha.wP])
def pe.dy{s:Bool}{L:List Nat}{e:Int}(h:pe s L e){w:World}{A:Option Addr}{c:Nat}(hs:Sl w A c L):∃ d:Dy,d.ib/\s=d.neg/\L=gW d.m/\e=d.e/\val L=d.m:=
 ⟨⟨s,val L,e⟩,h.2.2,rfl,h.Eo hs.ok,rfl,rfl⟩
open Pu
def RP:∀ w w',Tb w->Below w.heap.size w w'->Tb w':=λ_ _ h hb=>h.below hb
def mixed:prog.follows .mixedOrders=true:= aI 
abbrev gV(f:FuncId)(args:List E)(kf:E):Prop:=PC prog Tb f args kf
def ia(L:List Nat):E:=.sl false L.length 1 λi _=>.v (.int .u32 (L.getD i 0:Int))
def gZ(d:Dy):E:=.agg [.v (.bool d.neg),ia (gW d.m),.v (.int .i64 d.e)]
abbrev iP(z:Int):E:=.v (.int .i64 z)
abbrev bP(b:Bool):E:=.v (.bool b)
abbrev ar:List E:=[bP false,.v (.slice none 0 0),iP 0]
abbrev au:List E:=[bP false,.v (.slice none 0 0),iP 0,bP false,.v (.slice none 0 0),iP 0,bP false]
def xv{bs br:Nat->Prop}{w:World}{L:List Nat}{v:Value}(hk:iK L)(h:iD bs br w (ia L) v):∃ A c,v = .slice A L.length c/\Sl w A c L:=by
 cases h with
 |sl _ _ _ _ A c f hc hm h0 hl hr cell kk=>
  refine⟨A,c,rfl,hc,hm,hk,h0,λi x hx=>?_⟩;obtain⟨hi,BE⟩:=cr.1 hx;obtain⟨b,o,e1,_,iC,ky⟩:=cell i 0 hi aG;have hv:=iD.kJ (kk i 0 hi aG);refine⟨b,o,e1,iC,?_⟩;rw[ck,bY,hv]at ky;rw[ky];simp[bw,hx]
def Cd{B br:Nat->Prop}{w w':World}{A:Option Addr}{c:Nat}{L:List Nat}(hB:∀ b,B b->b<w.heap.size/\py w b)(hb:iF w w')(h:Sl w' A c L):iD B br w' (ia L) (.slice A L.length c):=by
 refine .sl false L.length 1 _ A c (λi _=>.int .u32 (L.getD i 0:Int)) h.cap h.rH h.zf (λi j _ _=>⟨rfl,λh=>by cases h⟩) (λi j _ _=>rfl) (λi j hi hj=>?_) (λi j _ _=>.v _)
 .obtain rfl:j=0:= aE ;obtain⟨b,o,e1,iC,ky⟩:=h.mi hi;have e2:L.getD i 0=L[i]:=by simp[bw,hi]
  refine⟨b,o,e1,λBr=>?_,iC,by rw[ck,bY,ky,e2]⟩;obtain⟨h1,h2⟩:=hB b Br;exact(h2.Ff (hb.block b h1)) _ _ ky
def JO{bs br:Nat->Prop}{w:World}{d:Dy}{v:Value}(h:iD bs br w (gZ d) v):∃ A c,v=DV d A c/\Sl w A c (gW d.m):=by
 obtain⟨vs,rfl,q⟩:=iD.Cm (show iD bs br w (.agg _) v from h);obtain⟨v1,vs,rfl,h1,q⟩:=q.mG;obtain⟨v2,vs,rfl,h2,q⟩:=q.mG;obtain⟨v3,vs,rfl,h3,q⟩:=q.mG;obtain rfl:=q.rj;obtain rfl:=iD.kJ h1;obtain rfl:=iD.kJ h3;obtain⟨A,c,rfl,hs⟩:=xv (ml _) h2;exact⟨A,c,rfl,hs⟩
def TZ{B br:Nat->Prop}{w w':World}{A:Option Addr}{c:Nat}{d:Dy}(hB:∀ b,B b->b<w.heap.size/\py w b)(hb:iF w w')(h:Sl w' A c (gW d.m)):iD B br w' (gZ d) (DV d A c):=
 kr.agg (.cons (.v _) (.cons (Cd hB hb h) (.cons (.v _) (.nil _ _ _))))
section
variable {f:FuncId} {a b:Dy}
def xn(hc:∀ (vs:Array Value) (w:World),(callFunc f vs).run prog w = .ok (.enter f vs) w){kf:E}{R:World->Ending->World->Prop}
 (H:∀ A c w,Sl w A c (gW a.m)->Tb w->Calls prog f #[DV a A c] w (R w)) (hR:∀ (B:Nat->Prop) w e w',(∀ b,B b->b<w.heap.size/\py w b)->R w e w'->∃ v,e = .returned v/\Below w.heap.size w w'/\iD B (λ_=>True) w' kf v):gV f [gZ a] kf:=by
 refine⟨hc,λw B vs hK hB hr=>?_⟩;obtain⟨v1,vs,rfl,h1,hr⟩:=hr.mG;obtain rfl:=hr.rj;obtain⟨A,c,rfl,s1⟩:=JO h1;exact(H A c w s1 hK).mono λe w' h=>hR B w e w' hB h
def Qh(hc:∀ (vs:Array Value) (w:World),(callFunc f vs).run prog w = .ok (.enter f vs) w){kf:E}{R:World->Ending->World->Prop}
 (H:∀ A c A' c' w,Sl w A c (gW a.m)->Sl w A' c' (gW b.m)->Tb w->Calls prog f #[DV a A c,DV b A' c'] w (R w)) (hR:∀ (B:Nat->Prop) w e w',(∀ b,B b->b<w.heap.size/\py w b)->R w e w'->∃ v,e = .returned v/\Below w.heap.size w w'/\iD B (λ_=>True) w' kf v):gV f [gZ a,gZ b] kf:=by
 refine⟨hc,λw B vs hK hB hr=>?_⟩;obtain⟨v1,vs,rfl,h1,hr⟩:=hr.mG;obtain⟨v2,vs,rfl,h2,hr⟩:=hr.mG;obtain rfl:=hr.rj;obtain⟨A,c,rfl,s1⟩:=JO h1;obtain⟨A',c',rfl,s2⟩:=JO h2;exact(H A c A' c' w s1 s2 hK).mono λe w' h=>hR B w e w' hB h
end
def rv{x:Value}:∀ (B:Nat->Prop) (w:World) (e:Ending) (w':World),(∀ b,B b->b<w.heap.size/\py w b)->(e = .returned x/\iF w w')->∃ v,e = .returned v/\Below w.heap.size w w'/\iD B (λ_=>True) w' (.v x) v:=
 λ_ _ _ _ _ h=>⟨x,h.1,h.2,.v x⟩
def rd{d:Dy}:∀ (B:Nat->Prop) (w:World) (e:Ending) (w':World),(∀ b,B b->b<w.heap.size/\py w b)->xz w d e w'->∃ v,e = .returned v/\Below w.heap.size w w'/\iD B (λ_=>True) w' (gZ d) v:=
 λ_ _ _ _ hB ⟨_,_,h1,h2,h3⟩=>⟨_,h1,h3,TZ hB h3 h2⟩
def Qw{d:Dy}{n:Int}:∀ (B:Nat->Prop) (w:World) (e:Ending) (w':World),(∀ b,B b->b<w.heap.size/\py w b)->zI w d n e w'->∃ v,e = .returned v/\Below w.heap.size w w'/\iD B (λ_=>True) w' (.iw [gZ d,iP n]) v:=
 λ_ _ _ _ hB ⟨_,_,h1,h2,h3⟩=>⟨_,h1,h3,kr.iw (.cons (TZ hB h3 h2) (.cons (.v _) (.nil _ _ _)))⟩
def qO:E.le (.agg ar) (gZ iA):=by
 have:gZ iA = .agg [bP false,.sl false 0 1 λi _=>.v (.int .u32 (((gW 0).getD i 0:Nat):Int)),iP 0]:=by
  show E.agg [bP false,ia (gW 0),iP 0]=_;unfold ia;rw[oz];rfl
 rw[this];exact .agg (.cons (.refl _) (.cons (.nil _ _ _) (.cons (.refl _) .nil)))
def lp(a b:Dy)(ha:a.ib)(hb:b.ib):gV 108 [gZ a,gZ b] (iP (iL a b)):=Qh call108 (λA c A' c' w h k _=>afJ a b A A' c c' w h k ha hb) rv
def nA(a:Dy)(ha:a.ib):gV 92 [gZ a] (iP a.iI):=xn call92 (λA c w h _=>afQ a A c w h ha) rv
def nB(a:Dy)(ha:a.ib):gV 91 [gZ a] (bP true):=xn call91 (λA c w h _=>T4 a A c w h ha) rv
def Em(a:Dy)(ha:a.ib):gV 173 [gZ a] (iP (ie a.m)):=xn call173 (λA c w h _=>afG a A c w h ha) rv
def DX(t e:Nat)(s:String):TI:=⟨t,.slice e,⟨.slice e,s,1,24,true,8,8,some (.slice none 0 0),false,#[]⟩⟩
def yx(t:Nat)(d:TypeDesc)(s:String):TI:=⟨t,d,⟨d,s,1,8,true,8,8,some (.nilFunc),false,#[]⟩⟩
def TT:List TI:=[
 ⟨3,.int .i64,⟨.int .i64, "int", 1,8,false,8,8,some (.int .i64 0),true,#[]⟩⟩,
 ⟨4,.bool,⟨.bool, "bool", 1,1,false,1,1,some (.bool false),true,#[]⟩⟩,
 ⟨9,.string,⟨.string, "string", 1,16,true,8,8,some (.string ⟨#[]⟩),true,#[]⟩⟩,DX 22 107 "[]api.Op",DX 23 3 "[]int",
 ⟨25,.struct #[⟨"Ins", 3,0,false, "", "", 0⟩,⟨"Ops", 22,1,false, "", "", 8⟩,⟨"Outs", 23,2,false, "", "", 32⟩],⟨.named "flowpipe/api.Tape" 24, "api.Tape", 3,56,true,8,8,some (.agg #[.int .i64 0,.slice none 0 0,.slice none 0 0]),false,#[]⟩⟩,DX 26 39 "[]api.Interval",
 ⟨28,.struct #[⟨"Tape", 25,0,false, "", "", 0⟩,⟨"States", 3,3,false, "", "", 56⟩,⟨"Params", 26,4,false, "", "", 64⟩],⟨.named "flowpipe/api.System" 27, "api.System", 5,88,true,8,8,some (.agg #[.int .i64 0,.slice none 0 0,.slice none 0 0,.int .i64 0,.slice none 0 0]),false,#[]⟩⟩,DX 29 171 "[]uint32",
 ⟨31,.struct #[⟨"Neg", 4,0,false, "", "", 0⟩,⟨"M", 29,1,false, "", "", 8⟩,⟨"E", 3,2,false, "", "", 32⟩],⟨.named "flowpipe/api.Dyadic" 30, "api.Dyadic", 3,40,true,8,8,some (.agg #[.bool false,.slice none 0 0,.int .i64 0]),false,#[]⟩⟩,
 ⟨39,.struct #[⟨"Lo", 31,0,false, "", "", 0⟩,⟨"Hi", 31,3,false, "", "", 40⟩,⟨"All", 4,6,false, "", "", 80⟩],⟨.named "flowpipe/api.Interval" 38, "api.Interval", 7,88,true,8,8,some (.agg #[.bool false,.slice none 0 0,.int .i64 0,.bool false,.slice none 0 0,.int .i64 0,.bool false]),false,#[]⟩⟩,
 ⟨42,.int .i64,⟨.named "flowpipe/api.Errno" 3, "api.Errno", 1,8,false,8,8,some (.int .i64 0),true,#[]⟩⟩,yx 62 (.func #[3] #[4] false) "func(int) bool",DX 66 31 "[]api.Dyadic",DX 72 26 "[][]api.Interval",
 ⟨81,.struct #[⟨"Method", 3,0,false, "", "", 0⟩,⟨"Order", 3,1,false, "", "", 8⟩,⟨"Prec", 3,2,false, "", "", 16⟩,⟨"Step", 31,3,false, "", "", 24⟩,⟨"Tol", 3,6,false, "", "", 64⟩,⟨"Most", 3,7,false, "", "", 72⟩],⟨.named "flowpipe/api.Config" 80, "api.Config", 8,80,true,8,8,some (.agg #[.int .i64 0,.int .i64 0,.int .i64 0,.bool false,.slice none 0 0,.int .i64 0,.int .i64 0,.int .i64 0]),false,#[]⟩⟩,
 ⟨93,.struct #[⟨"N", 3,0,false, "", "", 0⟩,⟨"D", 3,1,false, "", "", 8⟩],⟨.named "flowpipe/api.Ratio" 92, "api.Ratio", 2,16,false,8,8,some (.agg #[.int .i64 0,.int .i64 0]),true,#[]⟩⟩,yx 103 (.func #[39] #[4] false) "func(api.Interval) bool",yx 104 (.func #[26] #[4] false) "func([]api.Interval) bool",
 ⟨107,.struct #[⟨"Kind", 3,0,false, "", "", 0⟩,⟨"A", 3,1,false, "", "", 8⟩,⟨"B", 3,2,false, "", "", 16⟩,⟨"N", 3,3,false, "", "", 24⟩,⟨"C", 93,4,false, "", "", 32⟩],⟨.named "flowpipe/api.Op" 106, "api.Op", 6,48,false,8,8,some (.agg #[.int .i64 0,.int .i64 0,.int .i64 0,.int .i64 0,.int .i64 0,.int .i64 0]),true,#[]⟩⟩,yx 113 (.func #[39,39,3] #[39] false) "func(api.Interval, api.Interval, int) api.Interval",yx 121 (.func #[39,39] #[4] false) "func(api.Interval, api.Interval) bool",
 ⟨171,.int .u32,⟨.int .u32, "uint32", 1,4,false,4,4,some (.int .u32 0),true,#[]⟩⟩,yx 179 (.func #[31,3] #[31,42] false) "func(api.Dyadic, int) (api.Dyadic, api.Errno)",
 ⟨189,.int .u64,⟨.int .u64, "uint64", 1,8,false,8,8,some (.int .u64 0),true,#[]⟩⟩,
 ⟨190,.int .u64,⟨.int .u64, "uint", 1,8,false,8,8,some (.int .u64 0),true,#[]⟩⟩,yx 209 (.func #[39,39] #[39] false) "func(api.Interval, api.Interval) api.Interval",
 ⟨215,.struct #[⟨"m", 29,0,false, "", "flowpipe/round", 0⟩,⟨"e", 3,1,false, "", "flowpipe/round", 24⟩,⟨"more", 4,2,false, "", "flowpipe/round", 32⟩],⟨.named "flowpipe/round.exact" 214, "round.exact", 3,40,true,8,8,some (.agg #[.slice none 0 0,.int .i64 0,.bool false]),false,#[]⟩⟩,
 ⟨219,.func #[31,31,3] #[31,42] false,⟨.named "flowpipe/interval.rounded" 160, "interval.rounded", 1,8,true,8,8,some (.nilFunc),false,#[]⟩⟩,
 ⟨220,.array 2 31,⟨.array 2 31, "[2]api.Dyadic", 6,80,true,8,8,some (.agg #[.bool false,.slice none 0 0,.int .i64 0,.bool false,.slice none 0 0,.int .i64 0]),false,#[]⟩⟩,
 ⟨221,.array 4 220,⟨.array 4 220, "[4][2]api.Dyadic", 24,320,true,8,8,some (.agg #[.bool false,.slice none 0 0,.int .i64 0,.bool false,.slice none 0 0,.int .i64 0,.bool false,.slice none 0 0,.int .i64 0,.bool false,.slice none 0 0,.int .i64 0,.bool false,.slice none 0 0,.int .i64 0,.bool false,.slice none 0 0,.int .i64 0,.bool false,.slice none 0 0,.int .i64 0,.bool false,.slice none 0 0,.int .i64 0]),false,#[]⟩⟩,DX 225 29 "[][]uint32",yx 227 (.func #[29] #[4] false) "func([]uint32) bool",yx 250 (.func #[3] #[39] false) "func(int) api.Interval",
 ⟨266,.map 3 270,⟨.map 3 270, "map[int]func(gradient.node) api.Interval", 1,8,true,8,8,some (.map none),false,#[]⟩⟩,
 ⟨269,.struct #[⟨"o", 107,0,false, "", "flowpipe/gradient", 0⟩,⟨"v", 39,6,false, "", "flowpipe/gradient", 48⟩,⟨"a", 39,13,false, "", "flowpipe/gradient", 136⟩,⟨"b", 39,20,false, "", "flowpipe/gradient", 224⟩,⟨"da", 39,27,false, "", "flowpipe/gradient", 312⟩,⟨"db", 39,34,false, "", "flowpipe/gradient", 400⟩,⟨"p", 3,41,false, "", "flowpipe/gradient", 488⟩],⟨.named "flowpipe/gradient.node" 268, "gradient.node", 42,496,true,8,8,some (.agg #[.int .i64 0,.int .i64 0,.int .i64 0,.int .i64 0,.int .i64 0,.int .i64 0,.bool false,.slice none 0 0,.int .i64 0,.bool false,.slice none 0 0,.int .i64 0,.bool false,.bool false,.slice none 0 0,.int .i64 0,.bool false,.slice none 0 0,.int .i64 0,.bool false,.bool false,.slice none 0 0,.int .i64 0,.bool false,.slice none 0 0,.int .i64 0,.bool false,.bool false,.slice none 0 0,.int .i64 0,.bool false,.slice none 0 0,.int .i64 0,.bool false,.bool false,.slice none 0 0,.int .i64 0,.bool false,.slice none 0 0,.int .i64 0,.bool false,.int .i64 0]),false,#[]⟩⟩,yx 270 (.func #[269] #[39] false) "func(gradient.node) api.Interval",
 ⟨272,.struct #[⟨"p", 3,0,false, "", "flowpipe/exponent", 0⟩],⟨.named "flowpipe/exponent.work" 271, "exponent.work", 1,8,false,8,8,some (.agg #[.int .i64 0]),true,#[⟨"flowpipe/exponent.add", 209,#[],some (347,false)⟩,⟨"flowpipe/exponent.div", 209,#[],some (346,false)⟩,⟨"flowpipe/exponent.exp", 195,#[],some (370,false)⟩,⟨"flowpipe/exponent.halved", 252,#[],some (345,false)⟩,⟨"flowpipe/exponent.log", 195,#[],some (348,false)⟩,⟨"flowpipe/exponent.mul", 209,#[],some (349,false)⟩,⟨"flowpipe/exponent.small", 103,#[],some (372,false)⟩]⟩⟩,
 ⟨278,.struct #[⟨"neg", 4,0,false, "", "flowpipe/circle", 0⟩,⟨"m", 29,1,false, "", "flowpipe/circle", 8⟩],⟨.named "flowpipe/circle.fix" 277, "circle.fix", 2,32,true,8,8,some (.agg #[.bool false,.slice none 0 0]),false,#[⟨"flowpipe/circle.add", 289,#[],some (385,false)⟩,⟨"flowpipe/circle.by", 285,#[],some (388,false)⟩,⟨"flowpipe/circle.minus", 283,#[],some (376,false)⟩,⟨"flowpipe/circle.times", 286,#[],some (382,false)⟩,⟨"flowpipe/circle.zero", 34,#[],some (386,false)⟩]⟩⟩,yx 289 (.func #[278] #[278] false) "func(circle.fix) circle.fix"]
def MB:mL prog TT:=I7.ok ⟨⟨underlying3,aI⟩,⟨underlying4,aI⟩,⟨underlying9,aI⟩,⟨underlying22,aI⟩,⟨underlying23,aI⟩,⟨underlying25,aI⟩,⟨underlying26,aI⟩,⟨underlying28,aI⟩,⟨underlying29,aI⟩,⟨underlying31,aI⟩,⟨underlying39,aI⟩,⟨underlying42,aI⟩,⟨underlying62,aI⟩,⟨underlying66,aI⟩,⟨underlying72,aI⟩,⟨underlying81,aI⟩,⟨underlying93,aI⟩,⟨underlying103,aI⟩,⟨underlying104,aI⟩,⟨underlying107,aI⟩,⟨underlying113,aI⟩,⟨underlying121,aI⟩,⟨underlying171,aI⟩,⟨underlying179,aI⟩,⟨underlying189,aI⟩,⟨underlying190,aI⟩,⟨underlying209,aI⟩,⟨underlying215,aI⟩,⟨underlying219,aI⟩,⟨underlying220,aI⟩,⟨underlying221,aI⟩,⟨underlying225,aI⟩,⟨underlying227,aI⟩,⟨underlying250,aI⟩,⟨underlying266,aI⟩,⟨underlying269,aI⟩,⟨underlying270,aI⟩,⟨underlying272,aI⟩,⟨underlying278,aI⟩,⟨underlying289,aI⟩,trivial⟩
end Go.Proofs.YtgdahmmlddfimaaGreatDoor
namespace Go.Proofs.YtgdahmmlddfimaaGreatDoor.Pu
open Go.RowKit
def E.kR:E->Nat->Nat->E
 | .sl _ _ _ el,i,j=>el i j
 | .nO _ _ _ _ el,i,j=>el i j
 |_,_,_=>.any
section
variable {P:Program} {K:World->Prop}
def Sp.pre{c:Code}{σ τ:PS}{Q:Ex->PS->Prop}(h:PS.le σ τ)(k:Sp P K c τ Q):Sp P K c σ Q:=λw0 B a w L g r=>
 let⟨L',r'⟩:=h w0 B a w L (λb hb=>(g.hB b hb).1) r;k w0 B a w L' g r'
def Sp.post{c:Code}{σ:PS}{Q Q':Ex->PS->Prop}(h:Sp P K c σ Q)(k:∀ e τ,Q e τ->∃ τ',PS.le τ τ'/\Q' e τ'):Sp P K c σ Q':=λw0 B a w L g r=>
 Code.wp_mono (λ_ _ _ ⟨ex,τ,L',h1,h2,h3⟩=>let⟨τ',q1,q2⟩:=k ex τ h2;let⟨L2,r2⟩:=q1 w0 B _ _ L' (λb hb=>(g.hB b hb).1) h3;⟨ex,τ',L2,h1,q2,r2⟩) (h w0 B a w L g r)
def Sp.fam{α:Type}(f:α->PS)(p:α->Prop)(m:α->Nat){b:Code}{e:Ex}{τ:PS}
 (step:∀ x,p x->Sp P K b (f x) (λe' υ=>(e' = .normal/\∃ y,p y/\m y<m x/\υ=f y)\/(e' ≠ .normal/\e'=e/\υ=τ))) {σ:PS} (x:α) (hx:p x) (h0:PS.le σ (f x)):
 Sp P K (.loop b) σ (λe' υ=>e'=e/\υ=τ):=by
 refine Sp.pre h0 ?_;refine Sp.loop (Q:=λe' υ=>e'=e/\υ=τ) (λn σ=>∃ x,p x/\m x=n/\σ=f x) (λn σ ⟨x,h1,h2,h3⟩=>?_) (m x) (f x) ⟨x,hx,rfl,rfl⟩;subst h3 h2;exact(step x h1).mono λe' υ h=>h.imp (λ⟨q1,y,q2,q3,q4⟩=>⟨q1,m y,q3,y,q2,rfl,q4⟩) id
def Sp.agt{α:Type}{f:α->PS}{p:α->Prop}{m:α->Nat}{b:Code}{e:Ex}{τ υ:PS}{x:α}(y:α)(h:Sp P K b (f x) (λe' υ'=>e' = .normal/\υ'=υ))(hy:p y)(hm:m y<m x)(hl:PS.le υ (f y)):
 Sp P K b (f x) (λe' υ=>(e' = .normal/\∃ y,p y/\m y<m x/\υ=f y)\/(e' ≠ .normal/\e'=e/\υ=τ)):=
 h.post λ_ _ ⟨h1,h2⟩=>⟨f y,h2▸hl,.inl ⟨h1,y,hy,hm,rfl⟩⟩
def Sp.agu{α:Type}{f:α->PS}{p:α->Prop}{m:α->Nat}{b:Code}{e:Ex}{τ υ:PS}{x:α}(h:Sp P K b (f x) (λe' υ'=>e'=e/\υ'=υ))(he:e ≠ .normal)(hl:PS.le υ τ):
 Sp P K b (f x) (λe' υ=>(e' = .normal/\∃ y,p y/\m y<m x/\υ=f y)\/(e' ≠ .normal/\e'=e/\υ=τ)):=
 h.post λ_ _ ⟨h1,h2⟩=>⟨τ,h2▸hl,.inr ⟨h1▸he,h1,rfl⟩⟩
end
def BP(k:Nat):Code->Option Code
 | .loop b=>if Nat.beq (Gp b) k then some b else BP k b
 | .seq a b=>match BP k a with
  |some c=>some c
  |none=>BP k b
 | .cond _ a b=>match BP k a with
  |some c=>some c
  |none=>BP k b
 | .block _ b=>BP k b
 | .scope b=>BP k b
 |_=>none
def adl(k:Nat)(fn:Func):Code:=((fn.body.bind (BP k)).getD .skip)
def Bx.le.iT{a b:Bx}(h:a=b):Bx.le a b:=h▸Bx.le.refl a
def Bx.le.cells{T:TypeId}{l m:List E}(hn:(l.all E.nE=true->m.all E.nE=true))(h:uJ l m):Bx.le (.cells T l) (.cells T m):=⟨hn,λ_ _ _ _ _ ⟨b,vs,h1,h2,h3,h4,h5⟩=>⟨b,vs,h1,h2,h3,h.LB h4,h5⟩⟩
def Bx.le.row{nl:Bool}{T:TypeId}{n n' sz:Nat}{el el':Nat->Nat->E}(hn:n=n')(h:∀ i j,i<n->j<sz->E.le (el i j) (el' i j)/\(el' i j).nr 2=true):Bx.le (.row nl T n sz el) (.row nl T n' sz el'):=
 ⟨id,λ_ _ _ _ _ ⟨f,h1,h2,h3⟩=>by subst hn;exact⟨f,h1,h2,λi j hi hj=>⟨(h i j hi hj).1 _ _ _ _ (h3 i j hi hj).1,(h i j hi hj).2⟩⟩⟩
def Bx.le.jR{nl:Bool}{T1 T0:TypeId}{n n' sz:Nat}{len len':Nat->Nat}{el el':Nat->Nat->Nat->E}{pend:Option Nat}(hn:n=n')(hl:∀ k,k<n->len k=len' k)
 (h:∀ k i j,k<n->i<len k->j<sz->E.le (el k i j) (el' k i j)/\(el' k i j).nr 2=true):Bx.le (.jR nl T1 T0 n sz len el pend) (.jR nl T1 T0 n' sz len' el' pend):=
 ⟨id,λ_ _ _ _ _ hh=>by
  subst hn;rcases hh with hh|⟨b,c,cur,f,h1,h2,h3,h4,h5,h6,h7,h8,h9,qF,sP⟩
  .exact .inl hh
  refine .inr ⟨b,c,cur,f,h1,h2,h3,h4,h5,h6,h7,λk hk=>?_,h9,qF,sP⟩;rw[<-hl k hk];exact⟨(h8 k hk).1,λi j hi hj=>⟨(h k i j hk hi hj).1 _ _ _ _ ((h8 k hk).2 i j hi hj).1,(h k i j hk hi hj).2⟩⟩⟩
def Bx.le.am7{T1 T0 sz:Nat}{len:Nat->Nat}{el:Nat->Nat->E}{el':Nat->Nat->Nat->E}:Bx.le (.row true T1 0 1 el) (.jR true T1 T0 0 sz len el' none):=
 ⟨id,λ_ _ _ _ _ ⟨f,h1,h2,h3⟩=>by
  rcases h1 with⟨h,_⟩|⟨b,c,cur,h,hg,pj,oq,nC,ky,jL⟩
  .refine .inl ⟨h,rfl,λx hx=>?_⟩;have:=(h2 x).1 hx;rw[h]at this;simp[Value.ownBlock]at this
  .refine .inr ⟨b,c,cur,λ_ _ _=>undef,h,hg,pj,oq,aE,λk hk=>absurd hk (bE k),jL rfl,λk hk=>absurd hk (bE k),λx=>?_,λk k' x hk=>absurd hk (bE k),λk hk=>absurd hk (bE k)⟩;rw[h2,h];simp only[Value.ownBlock,bG];exact⟨λe=>.inl e.symm,λe=>e.elim (λe=>e.symm) λ⟨k,hk,_⟩=>absurd hk (bE k)⟩⟩
def PS.le.ajB{σ τ:PS}(hn:σ.n=τ.n)(jL:(τ.b.all λx=>x.2.nl)=true)(hr:Iu τ=true)(ht:yA σ τ.t)(hb:xx σ τ.b):PS.le σ τ:=λw0 B a w L _ r=>by
 let L':Lk:=⟨λid=>L.mP id/\(τ.bo id).isSome=true,λid x=>L.own id x/\(τ.bo id).isSome=true,L.val,L.iN⟩
 have iC:sL L w L' w:=⟨bu _,λx _ ⟨id,h,_⟩=>⟨id,h⟩,λ_ _ _=>rfl⟩
 refine⟨L',r.hd,by rw[<-hn];exact r.hs,λt=>?_,λid b h=>?_,λid=>?_,λid x h=>⟨r.hn id x h.1,h.2⟩,λid x h=>r.hw id x h.1,λid id' x h k=>r.hi id id' x h.1 k.1,r.he,λh id b k=>?_⟩
 .have hg:τ.get t=((look τ.t t)).getD (.e .any):=rfl;cases hl:look τ.t t with
  |none=>rw[hg,hl];exact .any _
  |some p=>
   rw[hg,hl];have:=ht.get hl _ _ _ _ _ (r.ht t);refine nI.move iC this λid hid s6=>⟨⟨s6,?_⟩,rfl,λ_=>rfl⟩
   have q:=bX.1 hr _ (Pw hl);exact bX.1 q id hid
 .obtain ⟨b',h1,h2⟩:=hb.get h;have hs:(τ.bo id).isSome=true:=by rw[h];rfl
  exact(h2.2 _ _ _ _ _ (r.hb id b' h1)).later iC rfl (λx=>⟨λq=>q.1,λq=>⟨q,hs⟩⟩) (λ_=>rfl) λ_ _=>rfl
 .show L.mP id/\(τ.bo id).isSome=true↔(τ.bo id).isSome=true;refine⟨λh=>h.2,λh=>⟨(r.hv id).2 ?_,h⟩⟩;obtain⟨b,jg⟩:=fF.1 h;obtain⟨b',h1,_⟩:=hb.get jg;rw[h1];rfl
 .exact bX.1 jL _ (Pw k)
def PV.yO(id:Nat)(e:E)(p:PV):PV:=match p with
 | .own i=>if Nat.beq i id then .e e else .own i
 |p=>if p.mo.any (Nat.beq id)then .e .any else p
def PS.yO(σ:PS)(id:Nat)(e:E):PS:={ σ with t:=σ.t.map λx=>(x.1,x.2.yO id e),b:=σ.b.filter λx=>!Nat.beq x.1 id }
def Bx.as:Bx->Option E
 | .row nl _ n sz el=>some (.sl nl n sz el)
 | .jR nl _ _ n sz len el none=>some (.sl true n 1 λk _=>.sl nl (len k) sz (el k))
 |_=>none
def PS.le.freeze{σ:PS}(id:Nat){b:Bx}{e:E}(jg:σ.bo id=some b)(he:b.as=some e):PS.le σ (σ.yO id e):=λw0 B a w L hB r=>by
 let L':Lk:=⟨λi=>L.mP i/\i≠id,λi x=>L.own i x/\i≠id,L.val,L.iN⟩
 have iC:sL L w L' w:=⟨bu _,λx _ ⟨i,h,_⟩=>⟨i,h⟩,λ_ _ _=>rfl⟩
 have tu:∀ i,(σ.yO id e).bo i=if i=id then none else σ.bo i:=by
  intro i;unfold PS.bo PS.yO;by_cases h:i=id
  .subst h;simp only[bJ];exact XI _ _
  .rw [bj h];exact Hs _ _ _ (λe=>h e.symm)
 have Br:∀ x,L.own id x->¬jl B L' x:=by
  rintro x hx (h|⟨i,h1,h2⟩)
  .have:=hB x h;have:=(r.hw id x hx).1;omega
  .exact h2 (r.hi i id x h1 hx)
 have own:∀ (v:Value) (T:TypeId) (n sz:Nat) (f:Nat->Nat->Value) (nl:Bool) (el:Nat->Nat->E),oi w v T n sz f nl->(∀ x,v.ownBlock=some x->L.own id x) ->
  (∀ i j,i<n->j<sz->iD (jl B L) (jJ L) w (el i j) (f i j)/\(el i j).nr 2=true)->iD (jl B L') (jJ L') w (.sl nl n sz el) v:=by
  intro v T n sz f nl el h1 h2 h3;rcases h1 with⟨rfl,rfl⟩|⟨b,c,cur,rfl,hg,pj,oq,nC,ky,jL⟩
  .exact .sl nl 0 sz el none 0 f (bu _) aG (λ_=>rfl) (λi j hi=>absurd hi (bE i)) (λi j hi=>absurd hi (bE i)) (λi j hi=>absurd hi (bE i)) (λi j hi=>absurd hi (bE i))
  .have tz:=h2 b rfl;refine .sl nl n sz el _ c f pj (by unfold maxLen at oq;omega) (λh=>by cases h) (λi j hi hj=>⟨(ky i j hi hj).2,λhn=>jL hn _ (dV (ky i j hi hj).1)⟩) (λi j hi hj=>(h3 i j hi hj).2)
    (λi j hi hj=>⟨b,0,rfl,Br b tz,(r.hw id b tz).2,?_⟩) (λi j hi hj=>iC.kT (h3 i j hi hj).1)
   rw[cj];simp only[World.cell?,hg];simpa using(ky i j hi hj).1
 have hold:∀ v,v=L.val id->iD (jl B L') (jJ L') w e v:=by
  rintro v rfl;have Kh:=r.hb id b jg;cases b with
  |cells T l=>cases he
  |row nl T n sz el=>
   cases he;obtain⟨f,h1,h2,h3⟩:=Kh;exact own _ T n sz f nl el h1 (λx hx=>(h2 x).2 hx) h3
  |jR nl T1 T0 n sz len el pend=>
   cases pend with
   |some k=>cases he
   |none=>
    cases he;rcases Kh with⟨h1,h2,_⟩|jh
    .subst h2;rw[h1];exact .sl true 0 1 _ none 0 (λ_ _=>undef) (bu _) aG (λ_=>rfl) (λi j hi=>absurd hi (bE i)) (λi j hi=>absurd hi (bE i)) (λi j hi=>absurd hi (bE i)) (λi j hi=>absurd hi (bE i))
    obtain⟨b,c,cur,f,h1,h2,h3,h4,h5,h6,h7,h8,h9,qF,sP⟩:=jh;have tz:L.own id b:=(h9 b).2 (.inl rfl);rw[h1];refine .sl true n 1 _ _ c (λk _=>L.iN id k) h3 (by unfold maxLen at h4;omega) (λh=>by cases h) (λk j hk hj=>?_) (λk j hk hj=>rfl)
     (λk j hk hj=>⟨b,0,rfl,Br b tz,(r.hw id b tz).2,?_⟩) (λk j hk hj=>own _ T0 (len k) sz (f k) nl (el k) (h8 k hk).1 (λx hx=>(h9 x).2 (.inr ⟨k,hk,hx⟩)) (h8 k hk).2)
    .obtain ⟨_,q1,q2⟩:=(h8 k hk).1.head;exact⟨q1,λ_=>q2⟩
    .rw [cj,ck];obtain rfl:j=0:= aE ;simp only[World.cell?,h2];simpa using h6 k hk aK 
 refine⟨L',r.hd,r.hs,λt=>?_,λi b' h=>?_,λi=>?_,λi x h=>⟨r.hn i x h.1,h.2⟩,λi x h=>r.hw i x h.1,λi i' x h k=>r.hi i i' x h.1 k.1,r.he,λh i b' k=>?_⟩
 .have hg:(σ.yO id e).get t=(σ.get t).yO id e:=by
   unfold PS.get PS.yO;rw[XJ];cases look σ.t t<;>rfl
  rw[hg];have k:=r.ht t;generalize σ.get t=p at k;have move:∀ (p:PV) (v:Value),nI (jl B L) (jJ L) L w p v->(p.mo.any (Nat.beq id))=false->nI (jl B L') (jJ L') L' w p v:=by
   intro p v k hp;refine nI.move iC k λi hi s6=>⟨⟨s6,?_⟩,rfl,λ_=>rfl⟩
   rintro rfl;have:=dp.1 hp i hi;simp at this
  have gen:∀ (p:PV) (v:Value),nI (jl B L) (jJ L) L w p v->nI (jl B L') (jJ L') L' w (if p.mo.any (Nat.beq id)then .e .any else p) v:=by
   intro p v k;cases hp:p.mo.any (Nat.beq id)with
   |true=>exact .any _
   |false=>exact move p v k hp
  cases p with
  |own i=>
   simp only[PV.yO];by_cases hi:i=id
   .subst hi;rw[cD,bk rfl];exact hold _ k.2
   .rw [cS hi,bj aG];exact⟨⟨k.1,hi⟩,k.2⟩
  |_=>exact gen _ _ k
 .rw [tu]at h;split at h
  .cases h
  .rename_i hi;exact(r.hb i b' h).later iC rfl (λx=>⟨λq=>q.1,λq=>⟨q,hi⟩⟩) (λ_=>rfl) λ_ _=>rfl
 .rw [tu];show L.mP i/\i≠id↔_;by_cases hi:i=id
  .subst hi;simp
  .simp only[hi,df,eB,fB,bC];exact r.hv i
 .rw [tu]at k;split at k
  .cases k
  .exact r.hl h i b' k
def PS.D7(σ:PS)(t id:Nat)(b:Bx):PS:={ σ with t:=(t,.own id)::σ.t.filter (λx=>!Nat.beq x.1 t),b:=(id,b)::σ.b }
def PS.le.ab9{σ:PS}(t id:Nat){nl:Bool}{T:TypeId}{sz:Nat}{el:Nat->Nat->E}(jg:σ.bo id=none)(hg:σ.get t = .e (.v (.slice none 0 0)))(jL:σ.nl=true->nl=true):PS.le σ (σ.D7 t id (.row nl T 0 sz el)):=λw0 B a w L hB r=>by
 have qX:¬L.mP id:=λh=>by have:=(r.hv id).1 h;rw[jg]at this;cases this
 let L':Lk:=⟨λi=>L.mP i\/i=id,L.own,λi=>if i=id then .slice none 0 0 else L.val i,L.iN⟩
 have iC:sL L w L' w:=⟨bu _,λx _ h=>h,λ_ _ _=>rfl⟩
 have tu:∀ i,(σ.D7 t id (.row nl T 0 sz el)).bo i=if i=id then some (.row nl T 0 sz el)else σ.bo i:=by
  intro i;unfold PS.bo PS.D7;rw[ve];by_cases h:id=i
  .rw [bk h,bk h.symm]
  .rw [bj h,bj (λe=>h e.symm)]
 have hv:a.tmps.getD t undef = .slice none 0 0:=by
  have:=r.ht t;rw[hg]at this;exact iD.kJ this
 refine⟨L',r.hd,r.hs,λs=>?_,λi b' h=>?_,λi=>?_,λi x h=>.inl (r.hn i x h),r.hw,r.hi,r.he,λh i b' k=>?_⟩
 .have hgs:(σ.D7 t id (.row nl T 0 sz el)).get s=if t=s then .own id else σ.get s:=by
   unfold PS.get PS.D7;simp only[ve];by_cases h:t=s
   .rw [bk h,bk h];rfl
   .rw [bj h,bj h,Hs _ _ _ h]
  rw[hgs];by_cases h:t=s
  .subst h;rw[bk rfl,hv];exact⟨.inr rfl,(bk rfl).symm⟩
  .rw [bj h];refine nI.move iC (r.ht s) λi _ s6=>⟨.inl s6,bj (λ(q:i=id)=>qX (q▸s6)),λ_=>rfl⟩
 .rw [tu]at h;split at h
  .rename_i hi;subst hi;cases h;refine⟨λ_ _=>undef,.inl ⟨bk rfl,rfl⟩,λx=>⟨λq=>absurd (r.hn _ _ q) qX,λq=>?_⟩,λi j hi=>absurd hi (bE i)⟩;have e1:L'.val i = .slice none 0 0:=bk rfl;rw[e1]at q;cases q
  .rename_i hi;exact(r.hb i b' h).later iC (bj hi) (λ_=>Iff.rfl) (λ_=>rfl) λ_ _=>rfl
 .rw [tu];show L.mP i\/i=id↔_;by_cases hi:i=id
  .subst hi;simp
  .simp only[hi,or_false,bC];exact r.hv i
 .rw [tu]at k;split at k
  .cases k;exact jL h
  .exact r.hl h i b' k
end Go.Proofs.YtgdahmmlddfimaaGreatDoor.Pu
namespace Go.Proofs.YtgdahmmlddfimaaGreatDoor.Fp
def nL(x i:Nat)(b o:List Nat):Nat->List Nat×Nat
 | 0=>(o,0)
 |k+1=>
  let r:=nL x i b o k
  let z:=x*b.getD k 0+r.1.getD (i+k) 0+r.2
  (r.1.set (i+k) (z%4294967296),z/4294967296)
def lP(a b:List Nat):Nat->List Nat
 | 0=>List.replicate (a.length+b.length) 0
 |i+1=>
  let r:=nL (a.getD i 0) i b (lP a b i) b.length
  r.1.set (i+b.length) (r.2%4294967296)
def X9{x y:Nat}(hx:x<4294967296)(hy:y<4294967296):x*y<=18446744065119617025:=by
 have:=dr (aE:x<=4294967295) (aE:y<=4294967295);omega
def DY{L:List Nat}{k x:Nat}(hk:k<L.length):val (L.set k x)+4294967296^k*L.getD k 0=val L+4294967296^k*x:=by
 have:=Rp (x:=x) hk;rwa[bw,bF hk]
def Bm{L:List Nat}{k j x:Nat}(h:k≠j):(L.set k x).getD j 0=L.getD j 0:=by
 simp only[bw,List.getElem?_set_ne h]
def agU{L:List Nat}{k x:Nat}(h:k<L.length):(L.set k x).getD k 0=x:=by
 simp[bw,h]
structure abW(x i:Nat)(b o:List Nat)(k:Nat)(r:List Nat×Nat):Prop where
 ok:iK r.1
 len:r.1.length=o.length
 lt:r.2<4294967296
 eq:val r.1+4294967296^(i+k)*r.2=val o+4294967296^i*(x*val (b.take k))
 qL:∀ j,i+k<=j->r.1.getD j 0=o.getD j 0
def Hv{x i:Nat}{b o:List Nat}(hx:x<4294967296)(hb:iK b)(ho:iK o)(hl:i+b.length<=o.length):∀ k,k<=b.length->abW x i b o k (nL x i b o k)
 | 0,_=>⟨ho,rfl,Nat.zero_lt_succ _,by simp[nL,val],λ_ _=>rfl⟩
 |k+1,hk=>by
  obtain⟨h1,h2,h3,h4,h5⟩:=Hv hx hb ho hl k aE;have hy:=hb.getD k;have hw:=h1.getD (i+k);have hm:=X9 hx hy;have hv:=xw b k;simp only[nL];generalize nL x i b o k=r at *
  generalize hz:x*b.getD k 0+r.1.getD (i+k) 0+r.2=z;have C6:=DY (L:=r.1) (k:=i+k) (x:=z%4294967296) aE;refine⟨h1.set _ (bM _ aG),by simpa using h2,by show z/4294967296<_;omega,?_,λj hj=>?_⟩
  .have e1:z=z%4294967296+4294967296*(z/4294967296):=(et z _).symm;show val (r.1.set (i+k) (z%4294967296))+4294967296^(i+(k+1))*(z/4294967296)=_;rw[hv,bU x,bU (4294967296^i),<-cR (val o),<-h4];have e2:4294967296^(i+(k+1))*(z/4294967296)=4294967296^(i+k)*(4294967296*(z/4294967296)):=by rw[(aE:i+(k+1)=(i+k)+1),bI,bH]
   have e3:4294967296^i*(x*(4294967296^k*b.getD k 0))=4294967296^(i+k)*(x*b.getD k 0):=by rw[bB];simp only[bH,dK]
   rw[e2,e3];have e4:4294967296^(i+k)*z=4294967296^(i+k)*(x*b.getD k 0)+4294967296^(i+k)*r.1.getD (i+k) 0+4294967296^(i+k)*r.2:=by rw[<-hz,bU,bU]
   have e5:4294967296^(i+k)*z=4294967296^(i+k)*(z%4294967296)+4294967296^(i+k)*(4294967296*(z/4294967296)):=by rw[<-bU,<-e1]
   omega
  .show (r.1.set (i+k) _).getD j 0=_;rw[Bm aE,h5 j aE]
structure abX(a b:List Nat)(i:Nat)(o:List Nat):Prop where
 ok:iK o
 len:o.length=a.length+b.length
 eq:val o=val (a.take i)*val b
 zero:∀ j,i+b.length<=j->o.getD j 0=0
def Hy{a b:List Nat}(ha:iK a)(hb:iK b):∀ i,i<=a.length->abX a b i (lP a b i)
 | 0,_=>⟨iK.DN _,by simp[lP],by simp[lP,AR,val],λj _=>by
  by_cases h:j<a.length+b.length<;>simp[lP,bw,eZ,h]⟩
 |i+1,hi=>by
  obtain⟨h1,h2,h3,h4⟩:=Hy ha hb i aE;obtain⟨q1,q2,q3,q4,q5⟩:=Hv (ha.getD i) hb h1 (i:=i) aE b.length (bu _);have hv:=xw a i;simp only[lP];generalize nL (a.getD i 0) i b (lP a b i) b.length=r at *
  have C6:=DY (L:=r.1) (k:=i+b.length) (x:=r.2%4294967296) aE;rw[q5 _ (bu _),h4 _ (bu _),cL,bY,ca q3,q4,e9,h3]at C6;refine⟨q1.set _ (bM _ aG),aS,?_,λj hj=>?_⟩
  .rw [ca q3,C6,hv,b8,bH]
  .rw [Bm aE,q5 _ aE,h4 _ aE]
def apa{a b:List Nat}(ha:iK a)(hb:iK b):val (lP a b a.length)=val a*val b:=by
 have:=(Hy ha hb a.length (bu _)).eq;rwa[e9]at this
end Go.Proofs.YtgdahmmlddfimaaGreatDoor.Fp
namespace Go.Proofs.YtgdahmmlddfimaaGreatDoor
open Go.RowKit Fp Pu
abbrev qv(L:List Nat):Nat->Nat->E:=λi _=>.v (.int .u32 (L.getD i 0:Int))
def FI(n:Nat):IntKind.u32.wrap (n:Int)=((n%4294967296:Nat):Int):=by rw[IntKind.wrap_u32];omega
def KM(n:Nat)(h:n<9223372036854775808):IntKind.i64.wrap (n:Int)=n:=by rw[IntKind.wrap_i64];omega
def aaD(n:Nat):(n:Int)/2^32=((n/4294967296:Nat):Int):= aE 
def aaK{L:List Nat}{n:Nat}(h:n=L.length):E.le (.sl false n 1 (qv L)) (ia L):=by subst h;exact .refl _
def ZS{T n n':Nat}{L:List Nat}(hn:n=n')(h:∀ i,L.getD i 0=0):Bx.le (.row false T n 1 λ_ j=>[.v (.int .u32 0)].getD j .any) (.row false T n' 1 (qv L)):=
 .row hn λi j _ hj=>by
  obtain rfl:j=0:= aE ;refine⟨.iT ?_,rfl⟩;show E.v (.int .u32 0)=E.v (.int .u32 (L.getD i 0:Int));rw[h i];rfl
def QK{T n n' p:Nat}{L:List Nat}{z:Nat}(hn:n=n')(hp:p<L.length):Bx.le (.row false T n 1 λi' j'=>if i'=p/\0<=j'/\j'<0+1 then[.v (.int .u32 (z:Int))].getD (j'-0) .any else(qv L) i' j') (.row false T n' 1 (qv (L.set p z))):=
 .row hn λi j _ hj=>by
  obtain rfl:j=0:= aE ;refine⟨.iT ?_,rfl⟩;by_cases h:i=p
  .subst h;rw[bk ⟨rfl,aE,aE⟩];show E.v (.int .u32 (z:Int))=E.v (.int .u32 (((L.set i z).getD i 0:Nat):Int));rw[Fp.agU hp]
  .rw [bj (λq=>h q.1)];show E.v (.int .u32 (L.getD i 0:Int))=E.v (.int .u32 (((L.set p z).getD i 0:Nat):Int));rw[Fp.Bm (λq=>h q.symm)]
def ZL{k l:IntKind}{a b c d:Int}(h:a=b)(h':c=d):Ending.returned (.tuple #[.int k a,.int l c]) = .returned (.tuple #[.int k b,.int l d]):=by rw[h,h']
def FQ(x y c:Nat)(w:World)(hx:x<4294967296)(hy:y<4294967296)(hc:c<=1):
 Calls prog 294 #[.int .u32 x,.int .u32 y,.int .u32 c] w λe w'=>e = .returned (.tuple #[.int .u32 (((x+y+c)%4294967296:Nat):Int),.int .u32 (((x+y+c)/4294967296:Nat):Int)])/\w=w':=by
 go_enter func294,ntmps294;go_wp2;go_ret2;refine⟨?_,rfl⟩;exact ZL aE aE 
def ao0(a b:Nat)(ha:a<4294967296)(hb:b<4294967296):bits .or .u32 (a:Int) (b:Int)=((a |||b:Nat):Int):=by
 have h2:a |||b<2^32:=aqG ha hb
 show IntKind.u32.wrap ((BitVec.ofInt 32 (a:Int) |||BitVec.ofInt 32 (b:Int)).toNat:Int)=_;rw[BitVec.toNat_or,fJ,fJ];rw[show((a:Int)%((2^32:Nat):Int)).toNat=a by omega,show((b:Int)%((2^32:Nat):Int)).toNat=b by omega];rw[IntKind.wrap_u32];omega
def abq(a b:Nat)(ha:a<4294967296)(hb:b<4294967296):bits .and .u32 (a:Int) (b:Int)=((a &&& b:Nat):Int):=by
 have h2:a &&& b<2^32:=fG a hb;show IntKind.u32.wrap ((BitVec.ofInt 32 (a:Int) &&& BitVec.ofInt 32 (b:Int)).toNat:Int)=_;rw[BitVec.toNat_and,fJ,fJ];rw[show((a:Int)%((2^32:Nat):Int)).toNat=a by omega,show((b:Int)%((2^32:Nat):Int)).toNat=b by omega];rw[IntKind.wrap_u32];omega
def Rn(a b:Nat)(ha:a<4294967296)(hb:b<4294967296):bits .xor .u32 (a:Int) (b:Int)=((a ^^^ b:Nat):Int):=by
 have h2:a ^^^ b<2^32:=fc ha hb;show IntKind.u32.wrap ((BitVec.ofInt 32 (a:Int) ^^^ BitVec.ofInt 32 (b:Int)).toNat:Int)=_;rw[BitVec.toNat_xor,fJ,fJ];rw[show((a:Int)%((2^32:Nat):Int)).toNat=a by omega,show((b:Int)%((2^32:Nat):Int)).toNat=b by omega];rw[IntKind.wrap_u32];omega
def L4(n:Nat)(h:n<4294967296):n/2147483648=(n.testBit 31).toNat:=by
 rw[Nat.testBit_eq_decide_div_mod_eq,show(2:Nat)^31=2147483648 from rfl];have h2:n/2147483648<2:= aE ;generalize n/2147483648=q at *
 have:q=0\/q=1:= aE ;rcases this with rfl|rfl<;>rfl
def aob(x y c d:Nat)(hx:x<4294967296)(hy:y<4294967296)(hc:c<=1)(hd:d=(x+(4294967296-y)+(4294967296-c))%4294967296):
 (((4294967295 ^^^ x) &&& y) ||| ((4294967295 ^^^ (x ^^^ y)) &&& d))/2147483648=if x<y+c then 1 else 0:=by
 have CO:d<4294967296:= aE ;have h1:4294967295 ^^^ x<2^32:=fc aG hx;have h2:x ^^^ y<2^32:=fc hx hy;have h3:4294967295 ^^^ (x ^^^ y)<2^32:=fc aG h2;have h4:(4294967295 ^^^ x) &&& y<2^32:=fG _ hy;have h5:(4294967295 ^^^ (x ^^^ y)) &&& d<2^32:=fG _ CO;rw[L4 _ (aqG h4 h5)];have tx:=L4 x hx;have ty:=L4 y hy;have td:=L4 d CO;rw[Nat.testBit_or,Nat.testBit_and,Nat.testBit_and,aqL,aqL,aqL,show(4294967295:Nat).testBit 31=true by decide];clear h1 h2 h3 h4 h5;generalize x.testBit 31=p at *
 generalize y.testBit 31=q at *
 generalize d.testBit 31=r at *
 cases p<;>cases q<;>cases r<;>simp at tx ty td ⊢ <;> omega
def Cs(x y c:Nat):Nat:=if x<y+c then 1 else 0
def yK(x y c:Nat):Nat:=(x+(4294967296-y)+(4294967296-c))%4294967296
def F9(x y c:Nat)(hx:x<4294967296)(hy:y<4294967296)(hc:c<=1):yK x y c+y+c=x+4294967296*Cs x y c/\Cs x y c<=1/\yK x y c<4294967296:=by
 unfold yK Cs;split<;>omega
def aaY(x y c:Nat)(w:World)(hx:x<4294967296)(hy:y<4294967296)(hc:c<=1):
 Calls prog 295 #[.int .u32 x,.int .u32 y,.int .u32 c] w λe w'=>e = .returned (.tuple #[.int .u32 (yK x y c:Nat),.int .u32 (Cs x y c:Nat)])/\w=w':=by
 go_enter func295,ntmps295;go_wp2;go_ret2;refine⟨?_,rfl⟩;have hd:((x:Int)-y-c)%4294967296=(yK x y c:Int):=by unfold yK;omega
 have hb:=aob x y c (yK x y c) hx hy hc rfl;have hl:=(F9 x y c hx hy hc).2.2;have em:IntKind.u32.max=((4294967295:Nat):Int):=rfl;refine ZL hd ?_;rw[hd,em,Rn _ _ aG hx,Rn _ _ hx hy];have h1:4294967295 ^^^ x<2^32:=fc aG hx;have h2:x ^^^ y<2^32:=fc hx hy;have h3:4294967295 ^^^ (x ^^^ y)<2^32:=fc aG h2;rw[Rn _ _ aG h2,abq _ _ h1 hy,abq _ _ h3 hl];have h4:(4294967295 ^^^ x) &&& y<2^32:=fG _ hy;have h5:(4294967295 ^^^ (x ^^^ y)) &&& yK x y c<2^32:=fG _ hl;rw[ao0 _ _ h4 h5];unfold Cs;rw[<-hb];omega
def RV{O:List Nat}{k c x y P Q P' Q':Nat}(ho:O[k]? = some 0)(h:val O+4294967296^k*c=P+Q)
 (hP:P'=P+4294967296^k*x) (hQ:Q'=Q+4294967296^k*y):
 val (O.set k ((x+y+c)%4294967296))+4294967296^(k+1)*((x+y+c)/4294967296)=P'+Q':=by
 have h1:=PJ (a:=1) (b:=x+y) (c:=c) ho;rw[b9,bY]at h1;rw[h1,h,hP,hQ,bU];omega
def aa0{O:List Nat}{k c x y d c' P Q P' Q':Nat}(ho:O[k]? = some 0)(h:val O+Q=P+4294967296^k*c)
 (hP:P'=P+4294967296^k*x) (hQ:Q'=Q+4294967296^k*y) (hd:d+y+c=x+4294967296*c'):
 val (O.set k d)+Q'=P'+4294967296^(k+1)*c':=by
 obtain⟨hk,h0⟩:=cr.1 ho;have h1:=Rp (x:=d) hk;rw[h0,cL,bY]at h1;have e:=congrArg (4294967296^k * ·) hd;simp only[bU,<-bH]at e;rw[bI,h1,hP,hQ];omega
def vv(O:List Nat)(k:Nat):Prop:=∀ j,k<=j->j<O.length->O[j]? = some 0
def vv.at{O:List Nat}{k:Nat}(h:vv O k)(hk:k<O.length):O[k]? = some 0:=h k (bu _) hk
def vv.set{O:List Nat}{k:Nat}(h:vv O k)(v:Nat):vv (O.set k v) (k+1):=λj h1 h2=>by
 rw[List.getElem?_set_ne aE];exact h j aE (by simpa using h2)
def vv.Rv(n:Nat):vv (List.replicate n 0) 0:=λj _ h=>by
 rw[eZ];rw[bk (by simpa using h)]
def My(w:World)(v n:Nat)(e:Ending)(w':World):Prop:=∃ T,val T=v/\iK T/\T.length=n/\uL w T e w'
def RK(w:World)(v n:Nat)(e:Ending)(w':World):Prop:=∃ T,val T=v/\iK T/\T.length<=n/\uL w T e w'
def akQ(A B:Option Addr)(c d:Nat)(L M:List Nat)(w:World)(hs:Sl w A c L)(hr:Sl w B d M)(h1:L.length<=3000)(_h2:M.length<=3000)(hc:M.length<=L.length):
 Calls prog 262 #[.slice A L.length c,.slice B M.length d] w (My w (val L+val M) (L.length+1)):=by
 obtain⟨l,hl⟩:∃ l,l=L.length:=⟨_,rfl⟩
 obtain⟨m,hm⟩:∃ m,m=M.length:=⟨_,rfl⟩
 rw[<-hl,<-hm]at hc;rw[<-hl]at h1;rw[<-hm]at _h2;have HL:=aq9 hl;have HM:=aq9 hm;rw[<-hl,<-hm];clear hl hm;have d0:decide ((l:Int)<m)=false:=bt aE;have d1:decide (l<m)=false:=bt aE;have pT:=E4 (l+1) aE;rw[show((l+1:Nat):Int)=l+1 by omega]at pT;have wX:=aq9 (Rw.y8 w (l+1));go_enter func262,ntmps262;go_wp2;go_loopw [6,7,8,9,23] (λcy _ _ _ i wr=>∃ (k q:Nat) (O:List Nat),k<=l/\i = .int .i64 k/\cy = .int .u32 q/\q<=1/\O.length=l+1/\iK O/\vv O k/\val O+4294967296^k*q=val (L.take k)+val (M.take k)/\Rw wr w.heap.size O/\iF w wr) (λ_ _ _ _ i _=>l-(intOf i).toNat)
 case atStart=>
  exact⟨0,0,List.replicate (l+1) 0,bS _,rfl,rfl,aG,aK,iK.DN _,vv.Rv _,by simp[AR],wX.out,iF.alloc _ _⟩
 case round=>
  obtain⟨k,q,O,hk,rfl,rfl,hq,hO,lj,hz,jQ,hR,hb⟩:=hrel;have HV:=aq9 jQ;have HO:=aq9 hO;clear jQ hO;have HZ:=aq9 hz;clear hz;by_cases iC:k<l
  .have uT:k<L.length:=by have:=HL.out;omega
   obtain⟨ab,ao,e1,_,c1⟩:=(hs.below hb).mi uT;have mZ:L[k]<4294967296:=hs.ok.get uT;have ho:=HZ.out.at (by have:=HO.out;omega)
   have c4:=hR.frozen k;have Kj:=hR.cell ho;have HT:=aq9 (zz L k uT);have HY:=aq9 (xw M k);have qg:M.getD k 0<4294967296:=hr.ok.getD k;have HYc:=aq9 (λ(h:k<M.length)=>(hr.below hb).mi h);have HYg:=aq9 (λ(h:k<M.length)=>Bl h);have HYn:=aq9 (λ(h:¬k<M.length)=>Es h);have HX:=aq9 (rfl:L[k]=L[k]);obtain⟨a,ha⟩:∃ a,a=L[k]:=⟨_,rfl⟩
   rw[<-ha]at c1 mZ HT;clear ha HX uT;have HS:=aq9 (RV ho HV.out HT.out HY.out);have HN:=aq9 (λv=>HZ.out.set v);have HOK:=aq9 (λv=>lj.LR k v);have HR2:=aq9 (λv:Nat=>hR.set k v);have HE2:=aq9 (λv:Value=>hb.setCell (p:=⟨w.heap.size,k,none⟩) (bu _) v);clear ho hR hb lj;subst e1;by_cases WC:k<m
   .have xN:k<M.length:=by have:=HM.out;omega
    obtain⟨bb,bo,e2,_,c2⟩:=HYc.out xN;subst e2;rw[<-HYg.out xN]at c2;generalize M.getD k 0=b at *
    clear HYc HYg HYn xN;have HA:=aq9 (λw=>FQ a b q w mZ qg hq);go_wp2_with fail;refine(HA.out _).mono ?_;rintro e w1 ⟨rfl,rfl⟩;go_wp2;go_roundw
    case rel=>
     exact⟨k+1,(a+b+q)/4294967296,O.set k ((a+b+q)%4294967296),aE,by go_num,rfl,aE,by rw[dc];exact HO.out,HOK.out _,HN.out _,HS.out,HR2.out _,HE2.out _⟩
    case measure=>simp[intOf];omega
   .rw [HYn.out (by have:=HM.out;omega)]at HS;clear HYc HYg HYn qg HY;have HA:=aq9 (λw=>FQ a 0 q w mZ aG hq);go_wp2_with fail;refine(HA.out _).mono ?_;rintro e w1 ⟨rfl,rfl⟩;go_wp2;go_roundw
    case rel=>
     exact⟨k+1,(a+0+q)/4294967296,O.set k ((a+0+q)%4294967296),aE,by go_num,rfl,aE,by rw[dc];exact HO.out,HOK.out _,HN.out _,HS.out,HR2.out _,HE2.out _⟩
    case measure=>simp[intOf];omega
  .obtain rfl:k=l:= aE ;have ho:=HZ.out.at (by have:=HO.out;omega)
   have c4:=hR.frozen k;have Kj:=hR.cell ho;have HF:=aq9 (show val (O.set k q)=val L+val M by
    have h:=MZ (c:=q) ho;rw[cj,ca aE,c9 aE,cL,bY,HV.out,show L.take k=L from cK (by rw[HL.out];exact bu _),show M.take k=M from cK (by rw[<-HM.out];omega)]at h;omega)
   have HLn:=aq9 (show(O.set k q).length=k+1 by rw[dc];exact HO.out);have HOK:Hid (iK (O.set k q)):=lj.set k aE;have HR2:=aq9 (hR.set k q);have HE2:=aq9 (λv:Value=>hb.setCell (p:=⟨w.heap.size,k,none⟩) (bu _) v);clear ho hR hb lj;go_wp2;go_ret;have tD:=HR2.out.sl HOK.out (by rw[HLn.out];omega);rw[HLn.out]at tD;exact⟨_,HF.out,HOK.out,HLn.out,_,_,(by rw[HLn.out];rfl),tD,HE2.out _⟩
def akR(A B:Option Addr)(c d:Nat)(L M:List Nat)(w:World)(hs:Sl w A c L)(hr:Sl w B d M)(h1:L.length<=3000)(h2:M.length<=3000)(hc:L.length<M.length):
 Calls prog 262 #[.slice A L.length c,.slice B M.length d] w (My w (val L+val M) (M.length+1)):=by
 obtain⟨l,hl⟩:∃ l,l=L.length:=⟨_,rfl⟩
 obtain⟨m,hm⟩:∃ m,m=M.length:=⟨_,rfl⟩
 rw[<-hl,<-hm]at hc;rw[<-hl]at h1;rw[<-hm]at h2;have HL:=aq9 hl;have HM:=aq9 hm;rw[<-hl,<-hm];clear hl hm;have d0:decide ((l:Int)<m)=true:=bn aE;have d1:decide (l<m)=true:=bn aE;have pT:=E4 (m+1) aE;rw[show((m+1:Nat):Int)=m+1 by omega]at pT;have wX:=aq9 (Rw.y8 w (m+1));go_enter func262,ntmps262;go_wp2;go_loopw [6,7,8,9,23] (λcy _ _ _ i wr=>∃ (k q:Nat) (O:List Nat),k<=m/\i = .int .i64 k/\cy = .int .u32 q/\q<=1/\O.length=m+1/\iK O/\vv O k/\val O+4294967296^k*q=val (M.take k)+val (L.take k)/\Rw wr w.heap.size O/\iF w wr) (λ_ _ _ _ i _=>m-(intOf i).toNat)
 case atStart=>
  exact⟨0,0,List.replicate (m+1) 0,bS _,rfl,rfl,aG,aK,iK.DN _,vv.Rv _,by simp[AR],wX.out,iF.alloc _ _⟩
 case round=>
  obtain⟨k,q,O,hk,rfl,rfl,hq,hO,lj,hz,jQ,hR,hb⟩:=hrel;have HV:=aq9 jQ;have HO:=aq9 hO;clear jQ hO;have HZ:=aq9 hz;clear hz;by_cases iC:k<m
  .have uT:k<M.length:=by have:=HM.out;omega
   obtain⟨ab,ao,e1,_,c1⟩:=(hr.below hb).mi uT;have mZ:M[k]<4294967296:=hr.ok.get uT;have ho:=HZ.out.at (by have:=HO.out;omega)
   have c4:=hR.frozen k;have Kj:=hR.cell ho;have HT:=aq9 (zz M k uT);have HY:=aq9 (xw L k);have qg:L.getD k 0<4294967296:=hs.ok.getD k;have HYc:=aq9 (λ(h:k<L.length)=>(hs.below hb).mi h);have HYg:=aq9 (λ(h:k<L.length)=>Bl h);have HYn:=aq9 (λ(h:¬k<L.length)=>Es h);have HX:=aq9 (rfl:M[k]=M[k]);obtain⟨a,ha⟩:∃ a,a=M[k]:=⟨_,rfl⟩
   rw[<-ha]at c1 mZ HT;clear ha HX uT;have HS:=aq9 (RV ho HV.out HT.out HY.out);have HN:=aq9 (λv=>HZ.out.set v);have HOK:=aq9 (λv=>lj.LR k v);have HR2:=aq9 (λv:Nat=>hR.set k v);have HE2:=aq9 (λv:Value=>hb.setCell (p:=⟨w.heap.size,k,none⟩) (bu _) v);clear ho hR hb lj;subst e1;by_cases WC:k<l
   .have xN:k<L.length:=by have:=HL.out;omega
    obtain⟨bb,bo,e2,_,c2⟩:=HYc.out xN;subst e2;rw[<-HYg.out xN]at c2;generalize L.getD k 0=b at *
    clear HYc HYg HYn xN;have HA:=aq9 (λw=>FQ a b q w mZ qg hq);go_wp2_with fail;refine(HA.out _).mono ?_;rintro e w1 ⟨rfl,rfl⟩;go_wp2;go_roundw
    case rel=>
     exact⟨k+1,(a+b+q)/4294967296,O.set k ((a+b+q)%4294967296),aE,by go_num,rfl,aE,by rw[dc];exact HO.out,HOK.out _,HN.out _,HS.out,HR2.out _,HE2.out _⟩
    case measure=>simp[intOf];omega
   .rw [HYn.out (by have:=HL.out;omega)]at HS;clear HYc HYg HYn qg HY;have HA:=aq9 (λw=>FQ a 0 q w mZ aG hq);go_wp2_with fail;refine(HA.out _).mono ?_;rintro e w1 ⟨rfl,rfl⟩;go_wp2;go_roundw
    case rel=>
     exact⟨k+1,(a+0+q)/4294967296,O.set k ((a+0+q)%4294967296),aE,by go_num,rfl,aE,by rw[dc];exact HO.out,HOK.out _,HN.out _,HS.out,HR2.out _,HE2.out _⟩
    case measure=>simp[intOf];omega
  .obtain rfl:k=m:= aE ;have ho:=HZ.out.at (by have:=HO.out;omega)
   have c4:=hR.frozen k;have Kj:=hR.cell ho;have HF:=aq9 (show val (O.set k q)=val L+val M by
    have h:=MZ (c:=q) ho;rw[cj,ca aE,c9 aE,cL,bY,HV.out,show M.take k=M from cK (by rw[HM.out];exact bu _),show L.take k=L from cK (by rw[<-HL.out];omega)]at h;omega)
   have HLn:=aq9 (show(O.set k q).length=k+1 by rw[dc];exact HO.out);have HOK:Hid (iK (O.set k q)):=lj.set k aE;have HR2:=aq9 (hR.set k q);have HE2:=aq9 (λv:Value=>hb.setCell (p:=⟨w.heap.size,k,none⟩) (bu _) v);clear ho hR hb lj;go_wp2;go_ret;have tD:=HR2.out.sl HOK.out (by rw[HLn.out];omega);rw[HLn.out]at tD;exact⟨_,HF.out,HOK.out,HLn.out,_,_,(by rw[HLn.out];rfl),tD,HE2.out _⟩
def Yv(A B:Option Addr)(c d:Nat)(L M:List Nat)(w:World)(hs:Sl w A c L)(hr:Sl w B d M)(h1:L.length<=3000)(h2:M.length<=3000):
 Calls prog 262 #[.slice A L.length c,.slice B M.length d] w (My w (val L+val M) (max L.length M.length+1)):=by
 by_cases hc:M.length<=L.length
 .rw [Nat.max_eq_left hc];exact akQ A B c d L M w hs hr h1 h2 hc
 .rw [Nat.max_eq_right aE];exact akR A B c d L M w hs hr h1 h2 aE 
def akP(A B:Option Addr)(c d:Nat)(L M:List Nat)(w:World)(hs:Sl w A c L)(hr:Sl w B d M)(h1:L.length<=3000)(h2:M.length<=3000):
 Calls prog 262 #[.slice A L.length c,.slice B M.length d] w (RK w (val L+val M) (max L.length M.length+1)):=
 (Yv A B c d L M w hs hr h1 h2).mono λ_ _ ⟨T,a,b,c,d⟩=>⟨T,a,b,gS c,d⟩
def akS(A B:Option Addr)(c d:Nat)(L M:List Nat)(w:World)(uZ:Sl w A c L)(yZ:Sl w B d M)(h1:L.length<=3000)(_h2:M.length<=3000)(hle:val M<=val L):
 Calls prog 264 #[.slice A L.length c,.slice B M.length d] w (RK w (val L-val M) L.length):=by
 have NW:=aq9 (λw (h:Sl w A c L)=>wm A c L w h);have NX:=aq9 (λw (h:Sl w B d M)=>wm B d M w h);have hs:=uZ.vt;have hr:=yZ.vt;have Hb:=qA L;have nQ:=qA M;have BA:=pY L;have nX:=pY M;have EG:(iG M).length<=(iG L).length:=by
  apply bT;intro h;have:=Md hs.ok (AM M) aE;omega
 unfold mX at BA nX;rw[<-Hb,<-nQ]at hle ⊢;clear Hb nQ;obtain⟨n1,ug⟩:∃ n,n=L.length:=⟨_,rfl⟩
 obtain⟨n2,lR⟩:∃ n,n=M.length:=⟨_,rfl⟩
 rw[<-ug]at h1 BA NW ⊢;rw[<-lR]at _h2 nX NX ⊢;have HTL:=aq9 (NW.out w uZ);have HTM:=aq9 (NX.out w yZ);clear NW NX uZ yZ ug lR;generalize iG L=L at *
 generalize iG M=M at *
 obtain⟨l,hl⟩:∃ l,l=L.length:=⟨_,rfl⟩
 obtain⟨m,hm⟩:∃ m,m=M.length:=⟨_,rfl⟩
 rw[<-hl]at BA HTL EG;rw[<-hm]at nX HTM EG;have HL:=aq9 hl;have HM:=aq9 hm;have HLE:=aq9 hle;clear hl hm hle;have pT:=E4 l aE;have wX:=aq9 (Rw.y8 w l);go_enter func264,ntmps264;go_wp2_with fail;refine HTL.out.mono ?_;rintro e w1 ⟨rfl,rfl⟩;go_wp2_with fail;refine HTM.out.mono ?_;rintro e w1 ⟨rfl,rfl⟩;go_wp2;go_loopw [6,7,8,9,19] (λcy _ _ _ i wr=>∃ (k q:Nat) (O:List Nat),k<=l/\i = .int .i64 k/\cy = .int .u32 q/\q<=1/\O.length=l/\iK O/\vv O k/\val O+val (M.take k)=val (L.take k)+4294967296^k*q/\Rw wr w.heap.size O/\iF w wr) (λ_ _ _ _ i _=>l-(intOf i).toNat)
 case atStart=>
  exact⟨0,0,List.replicate l 0,bS _,rfl,rfl,aG,aK,iK.DN _,vv.Rv _,by simp[AR],wX.out,iF.alloc _ _⟩
 case round=>
  obtain⟨k,q,O,hk,rfl,rfl,hq,hO,lj,hz,jQ,hR,hb⟩:=hrel;have HV:=aq9 jQ;have HO:=aq9 hO;clear jQ hO;have HZ:=aq9 hz;clear hz;by_cases iC:k<l
  .have uT:k<L.length:=by have:=HL.out;omega
   obtain⟨ab,ao,e1,_,c1⟩:=(hs.below hb).mi uT;have mZ:L[k]<4294967296:=hs.ok.get uT;have ho:=HZ.out.at (by have:=HO.out;omega)
   have c4:=hR.frozen k;have Kj:=hR.cell ho;have HT:=aq9 (zz L k uT);have HY:=aq9 (xw M k);have qg:M.getD k 0<4294967296:=hr.ok.getD k;have HYc:=aq9 (λ(h:k<M.length)=>(hr.below hb).mi h);have HYg:=aq9 (λ(h:k<M.length)=>Bl h);have HYn:=aq9 (λ(h:¬k<M.length)=>Es h);obtain⟨a,ha⟩:∃ a,a=L[k]:=⟨_,rfl⟩
   rw[<-ha]at c1 mZ HT;clear ha uT;have HN:=aq9 (λv=>HZ.out.set v);have HOK:=aq9 (λ(v:Nat) (h:v<4294967296)=>lj.set k h);have HR2:=aq9 (λv:Nat=>hR.set k v);have HE2:=aq9 (λv:Value=>hb.setCell (p:=⟨w.heap.size,k,none⟩) (bu _) v);have HO0:=aq9 ho;clear ho hR hb lj;subst e1;by_cases WC:k<m
   .have xN:k<M.length:=by have:=HM.out;omega
    obtain⟨bb,bo,e2,_,c2⟩:=HYc.out xN;subst e2;rw[<-HYg.out xN]at c2;generalize M.getD k 0=b at *
    clear HYc HYg HYn xN;have HS:=aq9 (aa0 HO0.out HV.out HT.out HY.out (F9 a b q mZ qg hq).1);have HD:=aq9 (F9 a b q mZ qg hq).2;have HA:=aq9 (λw=>aaY a b q w mZ qg hq);generalize yK a b q=dd at *
    generalize Cs a b q=bb' at *
    go_wp2_with fail;refine(HA.out _).mono ?_;rintro e w1 ⟨rfl,rfl⟩;go_wp2;go_roundw
    case rel=>
     exact⟨k+1,bb',O.set k dd,aE,by go_num,rfl,HD.out.1,by rw[dc];exact HO.out,HOK.out _ HD.out.2,HN.out _,HS.out,HR2.out _,HE2.out _⟩
    case measure=>simp[intOf];omega
   .rw [HYn.out (by have:=HM.out;omega)]at HY;clear HYc HYg HYn qg;have HS:=aq9 (aa0 HO0.out HV.out HT.out HY.out (F9 a 0 q mZ aG hq).1);have HD:=aq9 (F9 a 0 q mZ aG hq).2;have HA:=aq9 (λw=>aaY a 0 q w mZ aG hq);generalize yK a 0 q=dd at *
    generalize Cs a 0 q=bb' at *
    go_wp2_with fail;refine(HA.out _).mono ?_;rintro e w1 ⟨rfl,rfl⟩;go_wp2;go_roundw
    case rel=>
     exact⟨k+1,bb',O.set k dd,aE,by go_num,rfl,HD.out.1,by rw[dc];exact HO.out,HOK.out _ HD.out.2,HN.out _,HS.out,HR2.out _,HE2.out _⟩
    case measure=>simp[intOf];omega
  .obtain rfl:k=l:= aE ;have HF:=aq9 (show val O=val L-val M by
    have h:=HV.out;rw[show L.take k=L from cK (by rw[HL.out];exact bu _),show M.take k=M from cK (by rw[<-HM.out];exact EG)]at h;exact(aaZ lj HO.out h HLE.out).2)
   go_wp2;go_ret;have tD:=hR.sl lj (by rw[HO.out];omega);exact⟨_,HF.out,lj,by rw[HO.out];exact BA,_,_,(by rw[HO.out];rfl),tD,hb⟩
def abj{T:List Nat}{v:Nat}(h:iK T)(hv:val T=v):iG T=gW v:=by rw[rO h,hv]
def akD(A B:Option Addr)(c d:Nat)(L M:List Nat)(w:World)(hs:Sl w A c L)(hr:Sl w B d M)(h1:L.length<=256)(h2:M.length<=256)(hf:(gW (val L+val M)).length<=256):
 Calls prog 221 #[.slice A L.length c,.slice B M.length d] w (D3 w (gW (val L+val M)) 0):=by
 have H1:=aq9 (λw (h:Sl w A c L) (k:Sl w B d M)=>akP A B c d L M w h k aE aE);generalize val L+val M=v at *
 go_enter func221,ntmps221;go_wp2_with fail;refine(XG _ A B _ c _ d _ false (RN _ _ _ _ _ _ _) (RO _ _ _ _ _ _ _) aS).mono ?_;rintro e w' ⟨rfl,rfl⟩;go_wp2_with fail;refine(H1.out _ (hs.alloc _) (hr.alloc _)).mono ?_;rintro e w' ⟨T,hv,hk,hl,A',c',rfl,po,hb⟩;have ht:=aq9 (abj hk hv);go_wp2_with fail;refine(Ia A' c' T _ po (by rw[ht.out];exact hf)).mono ?_;rintro e w'' ⟨A'',c'',rfl,rD,mR⟩;rw[ht.out]at rD ⊢;go_wp2;go_ret2;exact⟨A'',c'',rfl,rD,(iF.alloc _ _).trans (hb.trans mR)⟩
def akO(A B:Option Addr)(c d:Nat)(L M:List Nat)(w:World)(hs:Sl w A c L)(hr:Sl w B d M)(h1:L.length<=256)(h2:M.length<=256)(hle:val M<=val L):
 Calls prog 224 #[.slice A L.length c,.slice B M.length d] w (D3 w (gW (val L-val M)) 0):=by
 have H1:=aq9 (λw (h:Sl w A c L) (k:Sl w B d M)=>akS A B c d L M w h k aE aE hle);have HC:=aq9 (λw (h:Sl w A c L) (k:Sl w B d M)=>K6 A B c d L M w h k aE aE);have hc:decide (kI (val L) (val M)<0)=false:=by
  apply bt;unfold kI;rw[bj aE];split<;>decide
 have hf:(gW (val L-val M)).length<=256:=bA (mO (dz _ _)) (Ps hs.ok h1);generalize val L-val M=v at *
 generalize kI (val L) (val M)=q at *
 clear hle;go_enter func224,ntmps224;go_wp2_with fail;refine(XG _ A B _ c _ d _ false (RN _ _ _ _ _ _ _) (RO _ _ _ _ _ _ _) aS).mono ?_;rintro e w' ⟨rfl,rfl⟩;go_wp2_with fail;refine(HC.out _ (hs.alloc _) (hr.alloc _)).mono ?_;rintro e w1 ⟨rfl,kD⟩;go_wp2_with fail;refine(H1.out _ ((hs.alloc _).below kD) ((hr.alloc _).below kD)).mono ?_;rintro e w' ⟨T,hv,hk,hl,A',c',rfl,po,hb⟩;have ht:=aq9 (abj hk hv);go_wp2_with fail;refine(Ia A' c' T _ po (by rw[ht.out];exact hf)).mono ?_;rintro e w'' ⟨A'',c'',rfl,rD,mR⟩;rw[ht.out]at rD ⊢;go_wp2;go_ret2;exact⟨A'',c'',rfl,rD,(iF.alloc _ _).trans (kD.trans (hb.trans mR))⟩
end Go.Proofs.YtgdahmmlddfimaaGreatDoor
namespace Go.Proofs.YtgdahmmlddfimaaGreatDoor.Fp
def jC(d:Dy):Dy:=if mT d then d else iA
def kC(d:Dy):Int:=if mT d then 0 else 9
def yJ{d:Dy}(h:mT d):jC d=d:=bk h
def Cy{d:Dy}(h:mT d):kC d=0:=bk h
def JC{d:Dy}(h:¬mT d):jC d=iA:=bj h
def Eg{d:Dy}(h:¬mT d):kC d=9:=bj h
def F2{d:Dy}(h:d.nx):(jC d).ib:=by
 by_cases hr:mT d
 .rw [yJ hr];exact⟨h,hr⟩
 .rw [JC hr];exact su
def Q7{a b:Dy}(ha:a.m≠0)(hb:b.m≠0):iJ a b=iJ b a:=by
 unfold iJ;rw[bj ha,bj hb,bj hb,bj ha,Int.min_comm,Int.add_comm]
def aa4{a b:Dy}(ha:a.ib)(hb:b.ib)(a0:a.m≠0)(b0:b.m≠0){k:Int}(hk:min a.e b.e=k)(h1:4097<a.im-k)(h2:1<a.im-b.im):¬mT (iJ a b):=by
 have hka:k<=a.e:= aE ;have Ov:k<=b.e:= aE ;have m1:=Ju a0 hka;have m2:=Ju b0 Ov;have ta:a.im=ie a.m+a.e:=by unfold Dy.im;rw[bj a0]
 have tb:b.im=ie b.m+b.e:=by unfold Dy.im;rw[bj b0]
 have ba:ie a.m<=4096:=by rcases ha.range with h|⟨h,_⟩;exact absurd h a0;exact h
 have ju:a.e≠k:= aE ;have Kh:b.e=k:= aE ;have oa:a.jO k%2=0:=by
  unfold Dy.jO;obtain⟨j,hj⟩:∃ j,(a.e-k).toNat=j+1:=⟨(a.e-k).toNat-1,aE⟩
  rw[hj,bI,<-bH,fU]
 have ob:b.jO k%2=1:=by
  unfold Dy.jO;rw[Kh,show(k-k).toNat=0 by omega,cI,ck];rcases hb.canon with⟨h,_,_⟩|h
  .exact absurd h b0
  .exact h
 have pa:=xh a0 k;obtain⟨p,hp⟩:∃ p,ie (a.jO k)=p+2:=⟨ie (a.jO k)-2,aE⟩
 have l1:=rP (aE:a.jO k≠0);have l2:=qw (b.jO k);rw[hp,(aE:p+2-1=p+1),bI]at l1;have l3:2^ie (b.jO k)<=2^p:=bR aG aE;have hz:(a.num k+b.num k).natAbs%2=1/\2^p<=(a.num k+b.num k).natAbs:=by
  unfold Dy.num;generalize a.jO k=x at *
  generalize b.jO k=y at *
  generalize 2^p=P at *
  split<;>split<;>omega
 unfold iJ;rw[bj a0,bj b0,hk];unfold ki;generalize (a.num k+b.num k).natAbs=z at *
 generalize decide (a.num k+b.num k<0)=s at *
 have hc:canon s z k=⟨s,z,k⟩:=Dy.nx.Cv (d:=⟨s,z,k⟩) (.inr hz.1);rw[hc];have hb:=xg.2 hz.2;rintro(h|⟨h,_⟩)
 .simp only at h;omega
 .simp only at h;omega
def aof{a b:Dy}(ha:a.ib)(hb:b.ib)(a0:a.m≠0)(b0:b.m≠0){k:Int}(hk:min a.e b.e=k)(h1:4097<max a.im b.im-k)(h2:1<a.im-b.im\/1<b.im-a.im):¬mT (iJ a b):=by
 rcases h2 with h2|h2
 .exact aa4 ha hb a0 b0 hk aE h2
 .rw [Q7 a0 b0];exact aa4 (k:=k) hb ha b0 a0 (by rw[Int.min_comm];exact hk) aE h2
def aog{a b:Dy}(ha:a.ib)(hb:b.ib)(a0:a.m≠0)(b0:b.m≠0){k:Int}(hk:min a.e b.e=k)(h:¬(4097<max a.im b.im-k/\(1<a.im-b.im\/1<b.im-a.im))):
 ie (a.m*2^(a.e-k).toNat)<=4097/\ie (b.m*2^(b.e-k).toNat)<=4097:=by
 have ta:a.im=ie a.m+a.e:=by unfold Dy.im;rw[bj a0]
 have tb:b.im=ie b.m+b.e:=by unfold Dy.im;rw[bj b0]
 have ba:ie a.m<=4096:=by rcases ha.range with h|⟨h,_⟩;exact absurd h a0;exact h
 have bb:ie b.m<=4096:=by rcases hb.range with h|⟨h,_⟩;exact absurd h b0;exact h
 rw[qC a0,qC b0];omega
def ada{x y n:Nat}(hx:ie x<=n)(hy:ie y<=n):ie (x+y)<=n+1:=by
 rw[lY]at *
 rw[bI];omega
def jW(m:Nat)(e:Int)(p:Nat):Nat:=(max (max ((ie m:Int)-p) (-16384-e)) 0).toNat
def lF(m:Nat)(e:Int)(more:Bool)(p:Nat)(out:Bool):Nat:=
 m/2^jW m e p+if out=true/\(more=true\/m%2^jW m e p≠0)then 1 else 0
def mN(m:Nat)(e:Int)(more:Bool)(p:Nat)(out:Bool):Bool:=
 decide (lF m e more p out≠0)&&decide (16384<(ie (lF m e more p out):Int)+e+jW m e p)
def kn(neg:Bool)(m:Nat)(e:Int)(more:Bool)(p:Nat)(up:Bool):Dy:=
 if mN m e more p (neg != up)=true then(if(neg != up)=true then iA else canon neg (2^p-1) (16384-p))else canon neg (lF m e more p (neg != up)) (e+jW m e p)
def jY(neg:Bool)(m:Nat)(e:Int)(more:Bool)(p:Nat)(up:Bool):Int:=
 if(mN m e more p (neg != up)&&(neg != up))=true then 9 else 0
def afz{N d k:Nat}:(N/2^d%2^k≠0\/N%2^d≠0)↔N%2^(d+k)≠0:=by
 have e1:N%2^(d+k)=N%2^d+2^d*(N/2^d%2^k):=by rw[bB,Nat.mod_mul]
 have hp:0<2^d:=bD aG;rw[e1];constructor
 .rintro (h|h)
  .have:=fS hp (ef h);omega
  .omega
 .intro h;by_cases h1:N%2^d=0
  .left;intro h2;rw[h1,h2,cL]at h;exact h rfl
  .exact .inr h1
def afl{N:Nat}{E:Int}{more:Bool}{d p:Nat}(hb:p<ie (N/2^d)):
 jW (N/2^d) (E+d) p+d=jW N E p /\
 ∀ out,lF (N/2^d) (E+d) (more||decide (N%2^d≠0)) p out=lF N E more p out:=by
 have hN:d<ie N:=by
  apply bT;intro h;have h1:N<2^d:=lY.1 aE;rw[c9 h1]at hb;simp[ie]at hb
 have Oe:ie (N/2^d)+d=ie N:=by
  have h0:N/2^d≠0:=by intro h;rw[h]at hb;simp[ie]at hb
  have h1:=rP h0;have h2:=qw (N/2^d);obtain⟨j,hj⟩:∃ j,ie (N/2^d)=j+1:=⟨ie (N/2^d)-1,aE⟩
  rw[hj]at h1 h2 ⊢;rw[er,cW (bD aG),<-bB]at h1;rw[cA (bD aG),<-bB]at h2;have:=yH (k:=j+d) h1 (by rw[(aE:j+d+1=j+1+d)];exact h2);omega
 have hk:jW (N/2^d) (E+d) p+d=jW N E p:=by
  unfold jW;omega
 refine⟨hk,λout=>?_⟩;unfold lF;rw[<-hk];generalize jW (N/2^d) (E+d) p=k;have Og:=@afz N d k;rw[(aE:k+d=d+k),dk,<-bB];congr 1;have:((more||decide (N%2^d≠0))=true\/N/2^d%2^k≠0)↔(more=true\/N%2^(d+k)≠0):=by
  rw[<-Og];simp only[dI,cv];constructor
  .rintro ((h|h)|h)
   .exact .inl h
   .exact .inr (.inr h)
   .exact .inr (.inl h)
  .rintro (h|h|h)
   .exact .inl (.inl h)
   .exact .inr h
   .exact .inl (.inr h)
 by_cases ho:out=true
 .simp only[ho,true_and,this]
 .rw [bj (λh=>ho h.1),bj (λh=>ho h.1)]
def JI{N:Nat}{E:Int}{more:Bool}{d p:Nat}(neg up:Bool)(hb:p<ie (N/2^d)):
 kn neg (N/2^d) (E+d) (more||decide (N%2^d≠0)) p up=kn neg N E more p up /\
 jY neg (N/2^d) (E+d) (more||decide (N%2^d≠0)) p up=jY neg N E more p up:=by
 obtain⟨hk,hq⟩:=afl (more:=more) (E:=E) hb;have hq:=hq (neg != up);have e1:E+(d:Int)+(jW (N/2^d) (E+d) p:Int)=E+(jW N E p:Int):= aE ;have e2:(ie (lF N E more p (neg != up)):Int)+(E+(d:Int))+(jW (N/2^d) (E+d) p:Int)=(ie (lF N E more p (neg != up)):Int)+E+(jW N E p:Int):= aE ;have ho:mN (N/2^d) (E+d) (more||decide (N%2^d≠0)) p (neg != up)=mN N E more p (neg != up):=by
  unfold mN;rw[hq,e2]
 unfold kn jY;rw[hq,ho,e1];exact⟨rfl,rfl⟩
def MW(s:Bool)(m:Nat)(e:Int)(j:Nat):canon s (m*2^j) (e-j)=canon s m e:=by
 by_cases h0:m=0
 .subst h0;rw[cM];rfl
 .have h1:m*2^j≠0:=dm h0 (eu (bD aG));obtain⟨q,hq,he⟩:=Cz h0;have hc:jz (m*2^j)=jz m+j:=by
   conv=>lhs;rw[he,bH,<-bB]
   exact zU hq _
  unfold canon;rw[bj h1,bj h0,hc,bB,bL (2^jz m),<-dk,dP _ (bD aG)];rw[(aE:e-(j:Int)+((jz m+j:Nat):Int)=e+(jz m:Int))]
def afk(neg up:Bool)(N:Nat)(E:Int)(j p:Nat)(h0:N≠0):
 kn neg (N*2^j) (E-j) false p up=kn neg N E false p up/\jY neg (N*2^j) (E-j) false p up=jY neg N E false p up:=by
 have Oe:=qC h0 j;by_cases hk:jW N E p=0
 .
  have xM:jW (N*2^j) (E-j) p<=j:=by unfold jW at hk ⊢;rw[Oe];omega
  obtain⟨i,hi⟩:∃ i,j=i+jW (N*2^j) (E-j) p:=⟨j-jW (N*2^j) (E-j) p,aE⟩
  generalize hK:jW (N*2^j) (E-j) p=k at *
  have hdiv:N*2^j/2^k=N*2^i:=by
   rw[hi,bB,<-bH,dP _ (bD aG)]
  have OD:N*2^j%2^k=0:=by
   rw[hi,bB,<-bH];exact fU _ _
  have hq:∀ out,lF (N*2^j) (E-j) false p out=N*2^i:=λout=>by
   unfold lF;rw[hK,hdiv,OD];simp
  have ui:∀ out,lF N E false p out=N:=λout=>by
   unfold lF;rw[hk];simp[dQ]
  have ju:N*2^i≠0:=dm h0 (eu (bD aG));have ho:∀ out,mN (N*2^j) (E-j) false p out=mN N E false p out:=λout=>by
   unfold mN;rw[hq,ui,hK,hk,qC h0 i];simp only[df,ju,h0,eB,fI,dX];rw[aqK];omega
  unfold kn jY;rw[ho,hq,ui,hK,hk];rw[(aE:E-(j:Int)+k=E+((0:Nat):Int)-(i:Int)),MW];exact⟨rfl,rfl⟩
 .have xM:jW (N*2^j) (E-j) p=jW N E p+j:=by unfold jW at hk ⊢;rw[Oe];omega
  have hq:∀ out,lF (N*2^j) (E-j) false p out=lF N E false p out:=λout=>by
   unfold lF;rw[xM,bB,bL (2^jW N E p),<-dk,dP _ (bD aG),bL N,Nat.mul_mod_mul_left];have:(2^j*(N%2^jW N E p)≠0)↔(N%2^jW N E p≠0):=by
    rw[df,df,Nat.mul_eq_zero];have:=bD (n:=j) (aG:0<2);omega
   simp only[this]
  have ho:∀ out,mN (N*2^j) (E-j) false p out=mN N E false p out:=λout=>by
   unfold mN;rw[hq,xM];congr 2;rw[eq_iff_iff];omega
  unfold kn jY;rw[ho,hq,xM];rw[(aE:E-(j:Int)+((jW N E p+j:Nat):Int)=E+(jW N E p:Int))];exact⟨rfl,rfl⟩
def kp(d:Dy)(p:Nat)(up:Bool):Dy:=kn d.neg d.m d.e false p up
def j8(d:Dy)(p:Nat)(up:Bool):Int:=jY d.neg d.m d.e false p up
def ZM(s up:Bool)(m:Nat)(e:Int)(p:Nat)(h0:m≠0):
 kp (canon s m e) p up=kn s m e false p up/\j8 (canon s m e) p up=jY s m e false p up:=by
 have hm:=Gc h0;have hq:m/2^jz m≠0:=by have:=Fe h0;omega
 have h:=afk s up (m/2^jz m) (e+jz m) (jz m) p hq;rw[hm,(aE:e+(jz m:Int)-(jz m:Int)=e)]at h;unfold kp j8 canon;rw[bj h0];exact⟨h.1.symm,h.2.symm⟩
def zQ{s:Bool}{m:Nat}{e:Int}(h0:m≠0):(ie (canon s m e).m:Int)+(canon s m e).e=ie m+e/\e<=(canon s m e).e/\(canon s m e).m≠0/\ie (canon s m e).m<=ie m:=by
 have hm:=Gc h0;have hq:m/2^jz m≠0:=by have:=Fe h0;omega
 have h:=qC hq (jz m);rw[hm]at h;unfold canon;rw[bj h0];simp only;exact⟨aE,aE,hq,aE⟩
def TN(m:Nat)(e:Int)(p:Nat):m/2^jW m e p<2^p:=by
 rw[cA (bD aG),<-bB];refine lY.1 ?_;unfold jW;omega
def MY{s:Bool}{q p:Nat}{e:Int}(h:q<=2^p)(hp:1<=p):ie (canon s q e).m<=p:=by
 by_cases h0:q=0
 .subst h0;exact bS _
 .by_cases h1:q=2^p
  .have hc:jz q=p:=by rw[h1];have:=zU (m:=1) rfl p;rwa[b9]at this
   unfold canon;rw[bj h0,hc,h1,Nat.div_self (bD aG)];exact bA (lY.2 (show 1<2^1 by decide)) hp
  .exact bA (zQ h0).2.2.2 (lY.2 aE)
def M9(m:Nat)(e:Int)(more:Bool)(p:Nat)(out:Bool):lF m e more p out<=2^p:=by
 have:=TN m e p;unfold lF;split<;>omega
def ua(neg:Bool)(m:Nat)(e:Int)(more:Bool)(p:Nat)(up:Bool)(hp:1<=p)(ic:p<=4096):(kn neg m e more p up).ib:=by
 unfold kn;by_cases ho:mN m e more p (neg != up)=true
 .rw [bk ho];by_cases hn:(neg != up)=true
  .rw [bk hn];exact su
  .rw [bj hn];have xS:2<=2^p:=by
    have:=bR (n:=2) aG hp;omega
   have h0:2^p-1≠0:= aE ;have hb:ie (2^p-1)=p:=by
    obtain⟨j,rfl⟩:∃ j,p=j+1:=⟨p-1,aE⟩
    have h2:2^(j+1)=2^j*2:=bI _ _;have h3:=bD (n:=j) (aG:0<2);exact yH aE aE 
   obtain⟨h1,h2,h3,h4⟩:=zQ (s:=neg) (e:=(16384:Int)-p) h0;have h5:=ny h3;exact⟨rY _ _ _,.inr ⟨aE,aE,aE,aE⟩⟩
 .rw [bj ho];refine⟨rY _ _ _,?_⟩;by_cases h0:lF m e more p (neg != up)=0
  .rw [h0];exact .inl rfl
  .have hq:=MY (s:=neg) (e:=e+(jW m e p:Int)) (M9 m e more p (neg != up)) hp;obtain⟨h1,h2,h3,h4⟩:=zQ (s:=neg) (e:=e+(jW m e p:Int)) h0;have h5:=ny h3;have h6:-16384<=e+(jW m e p:Int):=by unfold jW;omega
   unfold mN at ho;simp only[df,h0,eB,fI,dX,cv]at ho;exact .inr ⟨aE,aE,aE,aE⟩
def F6{neg:Bool}{m:Nat}{e:Int}{more:Bool}{p:Nat}{up:Bool}:jY neg m e more p up=0↔¬(mN m e more p (neg != up)=true/\(neg != up)=true):=by
 unfold jY;cases mN m e more p (neg != up)<;>cases(neg != up)<;>simp
def TD(neg:Bool)(m:Nat)(e:Int)(more:Bool)(p:Nat)(h1:jY neg m e more p false=0)(h2:jY neg m e more p true=0):
 iL (kn neg m e more p false) (kn neg m e more p true)<=0:=by
 have qd:¬mN m e more p true=true:=by
  cases neg
  .rw [F6]at h2;simpa using h2
  .rw [F6]at h1;simpa using h1
 have hle:lF m e more p false<=lF m e more p true:=by
  unfold lF;simp only[bK,false_and,bC];omega
 have lO:¬mN m e more p false=true:=by
  unfold mN at qd ⊢;intro h;apply qd;simp only[bO,cv]at h ⊢;have:=vz hle;exact⟨aE,aE⟩
 have key:∀ o:Bool,¬mN m e more p o=true:=λo=>by cases o;exact lO;exact qd
 unfold kn;rw[bj (key _),bj (key _)];rw[Eh (k:=e+(jW m e p:Int)) (AY (cE _)) (AY (cE _)),DC (cE _),DC (cE _)];rw[show(e+(jW m e p:Int)-(e+(jW m e p:Int))).toNat=0 by omega];simp only[cI,ck];unfold xF;cases neg
 .simp only[bK,bC,Bool.false_bne];split
  .decide
  .split<;>omega
 .simp only[bJ,Bool.true_bne,ew,fo];split
  .decide
  .split<;>omega
def nm(b:Dy)(low:Int):Nat:=if low<=b.e then b.m*2^(b.e-low).toNat else b.m/2^(low-b.e).toNat
def od(b:Dy)(low:Int):Bool:=decide (¬low<=b.e)&&decide (b.m%2^(low-b.e).toNat≠0)
def aa1{a b:Dy}(ha:a.nx)(hb:b.nx){K:Int}(h1:K<=a.e)(h2:K<=b.e):iJ a b=ki (a.num K+b.num K) K:=by
 refine Ng (k:=K) (Cw ha hb) (rY _ _ _) (I9 (.inr h1) (.inr h2)) (MC (cE _)) ?_;rw[LY (.inr h1) (.inr h2),PZ (cE _),show(K-K).toNat=0 by omega];simp
def LG{a b:Dy}(ha:a.nx)(hb:b.nx){K:Int}(h1:K<=a.e)(h2:K<=b.e)(s:Bool)(Z:Nat)(h0:Z≠0)(hz:a.num K+b.num K=if s then -(Z:Int)else(Z:Int))(p:Nat)(up:Bool):
 kp (iJ a b) p up=kn s Z K false p up/\j8 (iJ a b) p up=jY s Z K false p up:=by
 have:iJ a b=canon s Z K:=by rw[aa1 ha hb h1 h2,hz,Jy]
 rw[this];exact ZM s up Z K p h0
def Lb(d:Dy)(K:Int):d.num K=if d.neg then -(d.jO K:Int)else(d.jO K:Int):=rfl
section
variable {a b:Dy} {low:Int} {p:Nat}
def QO(a0:a.m≠0)(b0:b.m≠0)(h1:low<=a.e)(h2:low<=a.im-p-8)(h3:low<=b.e\/3<=a.im-b.im):
 ∃ (K:Int) (d:Nat),K<=a.e/\K<=b.e/\low=K+d/\a.jO K=a.m*2^(a.e-low).toNat*2^d/\nm b low=b.jO K/2^d/\(od b low=decide (b.jO K%2^d≠0)) /\
  (d=0\/(p+8<=ie (a.m*2^(a.e-low).toNat)/\ie (b.jO K/2^d)+3<=ie (a.m*2^(a.e-low).toNat))):=by
 have ta:a.im=ie a.m+a.e:=by unfold Dy.im;rw[bj a0]
 have tb:b.im=ie b.m+b.e:=by unfold Dy.im;rw[bj b0]
 have hx:=qC a0 (a.e-low).toNat
 by_cases h:low<=b.e
 .refine ⟨low,0,h1,h,aE,by unfold Dy.jO;simp,?_,?_,.inl rfl⟩
  .unfold nm Dy.jO;rw[bk h];simp
  .unfold od;simp[h,dQ]
 .refine ⟨b.e,(low-b.e).toNat,aE,cE _,aE,?_,?_,?_,.inr ⟨aE,?_⟩⟩
  .unfold Dy.jO;rw[bH,<-bB];congr 2;omega
  .unfold nm Dy.jO;rw[bj h];simp
  .unfold od Dy.jO;simp[h]
  .have hm:b.jO b.e=b.m:=by unfold Dy.jO;simp
   rw[hm];have hd:ie (b.m/2^(low-b.e).toNat)<=ie b.m-(low-b.e).toNat:=by
    rw[lY,cA (bD aG),<-bB];exact lY.1 aE 
   have:=h3.resolve_left h;omega
def anb(ha:a.nx)(hb:b.nx)(a0:a.m≠0)(b0:b.m≠0)(h1:low<=a.e)(h2:low<=a.im-p-8)(h3:low<=b.e\/3<=a.im-b.im)(hs:a.neg=b.neg)(up:Bool):
 kn a.neg (a.m*2^(a.e-low).toNat+nm b low) low (od b low) p up=kp (iJ a b) p up/\jY a.neg (a.m*2^(a.e-low).toNat+nm b low) low (od b low) p up=j8 (iJ a b) p up:=by
 obtain⟨K,d,k1,k2,rfl,hx,hy,hl,hd⟩:=QO (p:=p) a0 b0 h1 h2 h3;generalize a.m*2^(a.e-(K+d)).toNat=x at *
 have ma:=xh a0 K;have mb:=xh b0 K;obtain⟨r1,r2⟩:=LG ha hb k1 k2 a.neg (a.jO K+b.jO K) aE (by
  rw[Lb a,Lb b,<-hs];cases a.neg<;>simp<;>omega) p up
 rw[r1,r2,hy,hl];have e1:(a.jO K+b.jO K)/2^d=x+b.jO K/2^d:=by
  rw[hx,bL x,aqw (bD aG)]
 have e2:(a.jO K+b.jO K)%2^d=b.jO K%2^d:=by
  rw[hx,bL x,fp]
 rcases hd with rfl|⟨Bu,Bv⟩
 .simp only[cI,fe,dQ]at e1 ⊢;rw[<-e1];have:K+((0:Nat):Int)=K:= aE ;rw[this];simp
 .have hb:p<ie ((a.jO K+b.jO K)/2^d):=by
   rw[e1];have:=vz (aE:x<=x+b.jO K/2^d);omega
  have h:=JI (E:=K) (more:=false) a.neg up hb;rw[e1,e2,aqM]at h;exact h
def aoc{x N D:Nat}(hD:0<D)(h:N<=x*D):(x*D-N)/D=x-(N/D+if N%D≠0 then 1 else 0)/\((x*D-N)%D≠0↔N%D≠0)/\N/D+(if N%D≠0 then 1 else 0)<=x:=by
 have hN:=cN N D;have hr:=bM N hD;generalize N/D=q at *
 generalize N%D=r at *
 by_cases h0:r=0
 .subst h0;simp only[df,aqy,bC,bY]at hN ⊢;have hq:q<=x:=by
   apply bT;intro h';have:=bW D (aE:x+1<=q);rw[b8,bL q]at this;omega
  have e:x*D-N=(x-q)*D:=by rw[Nat.sub_mul,<-hN,bL q]
  rw[e,dP _ hD,fU];exact⟨rfl,aK,hq⟩
 .have hq:q+1<=x:=by
   apply bT;intro h';have:=bW D (aE:x<=q);rw[bL q]at this;omega
  have e:x*D-N=(D-r)+D*(x-(q+1)):=by
   have h1:D*(x-(q+1))=D*x-D*(q+1):=Nat.mul_sub _ _ _;have h2:D*(q+1)<=D*x:=cO _ hq;rw[bU,ck]at h1 h2;rw[bL x];omega
  have iC:D-r<D:= aE ;rw[e,eI _ _ hD,c9 iC,en,ca iC];simp only[df,h0,eB,bJ];exact⟨aE,⟨λ_=>trivial,λ_=> aE⟩,hq⟩
def ana(ha:a.nx)(hb:b.nx)(a0:a.m≠0)(b0:b.m≠0)(h1:low<=a.e)(h2:low<=a.im-p-8)(h3:low<=b.e\/3<=a.im-b.im)(hs:a.neg≠b.neg)(up:Bool):
  (a.m*2^(a.e-low).toNat<nm b low+(if od b low=true then 1 else 0) ->
   kn (!a.neg) (nm b low+(if od b low=true then 1 else 0)-a.m*2^(a.e-low).toNat) low false p up=kp (iJ a b) p up/\jY (!a.neg) (nm b low+(if od b low=true then 1 else 0)-a.m*2^(a.e-low).toNat) low false p up=j8 (iJ a b) p up) /\
  (nm b low+(if od b low=true then 1 else 0)<=a.m*2^(a.e-low).toNat ->
   (a.m*2^(a.e-low).toNat-(nm b low+(if od b low=true then 1 else 0))=0/\od b low=false->iJ a b=iA) /\
   (¬(a.m*2^(a.e-low).toNat-(nm b low+(if od b low=true then 1 else 0))=0/\od b low=false) ->
    kn a.neg (a.m*2^(a.e-low).toNat-(nm b low+(if od b low=true then 1 else 0))) low (od b low) p up=kp (iJ a b) p up/\jY a.neg (a.m*2^(a.e-low).toNat-(nm b low+(if od b low=true then 1 else 0))) low (od b low) p up=j8 (iJ a b) p up)):=by
 obtain⟨K,d,k1,k2,rfl,hx,hy,hl,hd⟩:=QO (p:=p) a0 b0 h1 h2 h3;generalize a.m*2^(a.e-(K+d)).toNat=x at *
 have ma:=xh a0 K;have mb:=xh b0 K;have KB:a.num K+b.num K=if a.neg then(b.jO K:Int)-a.jO K else(a.jO K:Int)-b.jO K:=by
  rw[Lb a,Lb b];cases h:a.neg<;>cases h':b.neg<;>simp[h,h']at hs ⊢ <;> omega
 rw[hy,hl];rcases hd with rfl|⟨Bu,Bv⟩
 .
  rw[cI,ck]at hx;have e0:K+((0:Nat):Int)=K:= aE ;simp only[cI,fe,dQ,df,aqy,gQ,bK,bC,bY,e0,fB];refine⟨λiC=>?_,λhle=>⟨λhz=>?_,λhz=>?_⟩⟩
  .obtain ⟨r1,r2⟩:=LG ha hb k1 k2 (!a.neg) (b.jO K-x) aE (by
    rw[KB,hx];cases a.neg<;>simp<;>omega) p up
   exact⟨r1.symm,r2.symm⟩
  .rw [aa1 ha hb k1 k2,KB,hx];have:x=b.jO K:= aE ;rw[this];cases a.neg<;>simp[ki,canon,iA]
  .obtain ⟨r1,r2⟩:=LG ha hb k1 k2 a.neg (x-b.jO K) aE (by
    rw[KB,hx];cases a.neg<;>simp<;>omega) p up
   exact⟨r1.symm,r2.symm⟩
 .
  have hD:=bD (n:=d) (aG:0<2);have oF:x≠0:=by intro h;rw[h]at Bu;simp[ie]at Bu
  obtain⟨j,hj⟩:∃ j,ie x=j+3:=⟨ie x-3,aE⟩
  have ng:=rP oF;rw[hj,(aE:j+3-1=j+2),bB]at ng;have hyl:b.jO K/2^d<2^j:=lY.1 aE;have hle:b.jO K<=x*2^d:=by
   have h5:=cN (b.jO K) (2^d);have h6:=bM (b.jO K) hD;have h7:2^d*(b.jO K/2^d+1)<=2^d*x:=cO _ aE;rw[bU,ck,bL _ x]at h7;omega
  obtain⟨e1,e2,e3⟩:=aoc hD hle;have hc:(if decide (b.jO K%2^d≠0)=true then 1 else 0)=(if b.jO K%2^d≠0 then 1 else 0):=by simp only[cv]
  rw[hc];have yT:p<ie (x-(b.jO K/2^d+if b.jO K%2^d≠0 then 1 else 0)):=by
   have h8:2^(j+1)<=x-(b.jO K/2^d+if b.jO K%2^d≠0 then 1 else 0):=by
    rw[bI];have h9:2^j*2^2<=x:=ng;have qF:=bD (n:=j) (aG:0<2);split<;>omega
   have:=xg.2 h8;omega
  refine⟨λiC=> aE,λ_=>⟨λhz=>?_,λ_=>?_⟩⟩
  .exfalso;rw[hz.1]at yT;simp[ie]at yT
  .obtain ⟨r1,r2⟩:=LG ha hb k1 k2 a.neg (a.jO K-b.jO K) (by
    intro h;rw[<-hx,h,Nat.zero_div]at e1;rw[<-e1]at yT;simp[ie]at yT) (by
    rw[KB];cases a.neg<;>simp<;>omega) p up
   rw[r1,r2,hx];rw[<-e1]at yT ⊢;have h:=JI (E:=K) (more:=false) a.neg up yT;rw[aqM]at h;have e4:decide ((x*2^d-b.jO K)%2^d≠0)=decide (b.jO K%2^d≠0):=aqK.2 e2;rw[e4]at h;exact h
end
def jk(m:Nat)(e:Int)(p:Nat):Int:=max (e+ie m-p) (-16384)
def om(m:Nat)(e:Int)(more:Bool)(p:Nat)(up:Bool):Nat:=
 if jk m e p<=e then m*2^(e-jk m e p).toNat else m/2^(jk m e p-e).toNat+if(up&&(more||decide (m%2^(jk m e p-e).toNat≠0)))=true then 1 else 0
def TC{m:Nat}{e:Int}{more:Bool}{p:Nat}(up:Bool)(h0:m≠0)(hm:more=true->p<ie m)(hp:1<=p):
 (ie (om m e more p up):Int)+jk m e p<=16384/\kn false m e more p up=canon false (om m e more p up) (jk m e p)/\jY false m e more p up=0 \/
 16384<(ie (om m e more p up):Int)+jk m e p/\((up=true/\kn false m e more p up=iA/\jY false m e more p up=9)\/(up=false/\kn false m e more p up=canon false (2^p-1) (16384-p)/\jY false m e more p up=0)):=by
 have qd:(false != up)=up:=by cases up<;>rfl
 by_cases hU:jk m e p<=e
 .
  have hmf:more=false:=by
   cases OE:more with
   |false=>rfl
   |true=>have:=hm OE;unfold jk at hU;omega
  subst hmf;have hK:jW m e p=0:=by unfold jk at hU;unfold jW;omega
  have hQ:lF m e false p up=m:=by unfold lF;rw[hK];simp[dQ]
  have hP:om m e false p up=m*2^(e-jk m e p).toNat:=by unfold om;rw[bk hU]
  have hb:ie (om m e false p up)=ie m+(e-jk m e p).toNat:=by rw[hP];exact qC h0 _
  have hc:canon false (om m e false p up) (jk m e p)=canon false m e:=by
   rw[hP];have:=MW false m e (e-jk m e p).toNat
   rwa[(aE:e-((e-jk m e p).toNat:Int)=jk m e p)]at this
  have hO:mN m e false p up=decide (16384<(ie m:Int)+e):=by
   unfold mN;rw[hQ,hK];simp[h0]
  by_cases uW:16384<(ie m:Int)+e
  .refine .inr ⟨aE,?_⟩;unfold kn jY;rw[qd,hO,bn uW];cases up
   .exact .inr ⟨rfl,rfl,rfl⟩
   .exact .inl ⟨rfl,rfl,rfl⟩
  .refine .inl ⟨aE,?_,?_⟩
   .unfold kn;rw[qd,hO,bt uW,bj aG,hQ,hK,hc];simp
   .unfold jY;rw[qd,hO,bt uW];simp
 .have hK:jW m e p=(jk m e p-e).toNat:=by unfold jk at hU ⊢;unfold jW;omega
  have hQ:lF m e more p up=om m e more p up:=by
   unfold lF om;rw[bj hU,hK];congr 1;cases up<;>cases more<;>simp
  have heK:e+(jW m e p:Int)=jk m e p:=by rw[hK];omega
  have ju:16384<(ie (om m e more p up):Int)+jk m e p->om m e more p up≠0:=by
   intro h hz;have qY:m/2^(jk m e p-e).toNat=0:=by
    unfold om at hz;rw[bj hU]at hz;exact(Nat.add_eq_zero_iff.1 hz).1
   have iC:m<2^(jk m e p-e).toNat:=by
    rcases Nat.div_eq_zero_iff.1 qY with h|h
    .exact absurd h (eu (bD aG))
    .exact h
   have:=lY.2 iC;rw[hz,rX]at h;have uh:=ny h0;unfold jk at h hU this;omega
  have hO:mN m e more p up=decide (16384<(ie (om m e more p up):Int)+jk m e p):=by
   unfold mN;rw[hQ,show(ie (om m e more p up):Int)+e+(jW m e p:Int)=(ie (om m e more p up):Int)+jk m e p by omega];by_cases uW:16384<(ie (om m e more p up):Int)+jk m e p
   .simp [ju uW]
   .simp [uW]
  by_cases uW:16384<(ie (om m e more p up):Int)+jk m e p
  .refine .inr ⟨uW,?_⟩;unfold kn jY;rw[qd,hO,bn uW];cases up
   .exact .inr ⟨rfl,rfl,rfl⟩
   .exact .inl ⟨rfl,rfl,rfl⟩
  .refine .inl ⟨aE,?_,?_⟩
   .unfold kn;rw[qd,hO,bt uW,bj aG,hQ,heK]
   .unfold jY;rw[qd,hO,bt uW];simp
def TB{m:Nat}{e:Int}{more:Bool}{p:Nat}{up:Bool}(h0:m≠0):ie (om m e more p up)<=p+1:=by
 unfold om;split
 .rename_i h;rw[qC h0];unfold jk at h ⊢;omega
 .rename_i h;have h1:m/2^(jk m e p-e).toNat<2^p:=by
   rw[cA (bD aG),<-bB];refine lY.1 ?_;unfold jk at h ⊢;omega
  refine lY.2 ?_;rw[bI];have:0<2^p:=bD aG;split<;>omega
def oX{m k:Nat}(h:ie m<=32*k):(gW m).length<=k:=by
 refine s9 ?_;rw[ss];exact lY.1 h
def zL{m k:Nat}(h:(gW m).length<=k):ie m<=32*k:=by
 have:=y7 h;rw[ss]at this;exact lY.2 this
def TP{m n:Nat}(h:ie m<=n):m/2^n=0/\m%2^n=m:=by
 have:=lY.1 h;exact⟨c9 this,ca this⟩
def XK(m n:Nat):(kI (m/2^n*2^n) m != 0)=decide (m%2^n≠0):=by
 have h:=cN m (2^n);rw[bL]at h;unfold kI;by_cases h0:m%2^n=0
 .rw [bj aE,bj aE];simp[h0]
 .rw [bk aE];simp[h0]
def TF(neg:Bool)(m:Nat)(e:Int)(more:Bool)(p:Nat)(up:Bool):
 jY neg m e more p up=jY false m e more p (up != neg) /\
 (jY false m e more p (up != neg)=0->neg=true->jf (kn false m e more p (up != neg))=kn neg m e more p up) /\
 ((jY false m e more p (up != neg)≠0\/neg=false)->kn false m e more p (up != neg)=kn neg m e more p up):=by
 have qd:(false != (up != neg))=(neg != up):=by cases up<;>cases neg<;>rfl
 have hE:jY neg m e more p up=jY false m e more p (up != neg):=by unfold jY;rw[qd]
 refine⟨hE,λh hn=>?_,λh=>?_⟩
 .have h':=F6.1 h;rw[qd]at h';have neg_canon:∀ q u,jf (canon false q u)=canon true q u:=by
   intro q u;unfold canon jf;by_cases hq:q=0
   .simp [hq]
   .rw [bj hq,bj hq];have:=Fe hq;have h0:q/2^jz q≠0:= aE ;simp[h0]
  subst hn;unfold kn;rw[qd];by_cases ho:mN m e more p (true != up)=true
  .have hu:(true != up)=false:=by
    cases hq:(true != up)with
    |false=>rfl
    |true=>exact absurd ⟨ho,hq⟩ h'
   rw[bk ho,bk ho,hu];simp only[bK,bC];exact neg_canon _ _
  .rw [bj ho,bj ho];exact neg_canon _ _
 .rcases h with h|h
  .have h1:mN m e more p (neg != up)=true/\(neg != up)=true:=by
    by_cases q:mN m e more p (neg != up)=true/\(neg != up)=true
    .exact q
    .exact absurd (F6.2 (by rw[qd];exact q)) h
   unfold kn;rw[qd,bk h1.1,bk h1.2,bk h1.1,bk h1.2]
  .subst h;cases up<;>rfl
def jo(a b:Dy)(p:Nat):Int:=if a.im-b.im<=2 then min (min a.e (a.im-p-8)) b.e else min a.e (a.im-p-8)
def oB(a b:Dy)(p:Nat):Nat:=a.m*2^(a.e-jo a b p).toNat
def nk(a b:Dy)(p:Nat):Nat:=nm b (jo a b p)+if(a.neg != b.neg&&od b (jo a b p))=true then 1 else 0
def pW(a b:Dy)(p:Nat):Bool:=(a.neg != b.neg)&&decide (oB a b p<nk a b p)
def mw(a b:Dy)(p:Nat):Nat:=if a.neg=b.neg then oB a b p+nk a b p else if oB a b p<nk a b p then nk a b p-oB a b p else oB a b p-nk a b p
def nS(a b:Dy)(p:Nat):Bool:=od b (jo a b p) && !pW a b p
def QH(a b:Dy)(p:Nat):jo a b p<=a.e/\jo a b p<=a.im-p-8/\(jo a b p<=b.e\/3<=a.im-b.im):=by
 unfold jo;split<;>omega
def IP{a:Dy}(a0:a.m≠0):a.im=ie a.m+a.e:=by unfold Dy.im;rw[bj a0]
structure ab1(a b:Dy)(p:Nat):Prop where
 lo:-17000<=jo a b p
 hi:jo a b p<=16384
 x:ie (oB a b p)<=4100
 x0:oB a b p≠0
 sh:(a.e-jo a b p).toNat<=60000
 sh2:(b.e-jo a b p).toNat<=60000
 sh3:(jo a b p-b.e).toNat<=60000
 y:ie (nm b (jo a b p))<=4100
 l:od b (jo a b p)=true->p+8<=ie (oB a b p)/\ie (nm b (jo a b p))+3<=ie (oB a b p)
def L3{a b:Dy}{p:Nat}(ha:a.ib)(hb:b.ib)(a0:a.m≠0)(b0:b.m≠0)(ht:b.im<=a.im)(ic:p<=512):ab1 a b p:=by
 have ra:=ha.range.resolve_left a0;have rb:=hb.range.resolve_left b0;have ta:=IP a0;have tb:=IP b0;obtain⟨h1,h2,h3⟩:=QH a b p;have hx:ie (oB a b p)=ie a.m+(a.e-jo a b p).toNat:=qC a0 _;have CW:jo a b p=a.e\/jo a b p=a.im-p-8\/(a.im-b.im<=2/\jo a b p=b.e):=by unfold jo;split<;>omega
 have hy:ie (nm b (jo a b p))<=ie (oB a b p):=by
  unfold nm;split
  .rw [qC b0];omega
  .have:ie (b.m/2^(jo a b p-b.e).toNat)<=ie b.m-(jo a b p-b.e).toNat:=by
    rw[lY,cA (bD aG),<-bB];exact lY.1 aE 
   omega
 have pa:=ny a0;have pb:=ny b0;refine⟨aE,aE,aE,?_,aE,aE,aE,aE,λhl=>?_⟩
 .intro h;unfold oB at h;exact(dm a0 (eu (bD aG))) h
 .obtain ⟨K,d,k1,k2,k3,k4,k5,k6,k7⟩:=QO (p:=p) a0 b0 h1 h2 h3;rcases k7 with rfl|⟨k7,k8⟩
  .rw [k6]at hl;simp[dQ]at hl
  .rw [k5];exact⟨k7,k8⟩
def Rb{a b:Dy}{p:Nat}(ha:a.ib)(hb:b.ib)(a0:a.m≠0)(b0:b.m≠0)(ht:b.im<=a.im)(ic:p<=512):
 ie (nk a b p)<=4101/\ie (mw a b p)<=4102/\(nS a b p=true->p<ie (mw a b p)):=by
 obtain⟨l1,l2,l3,l4,l5,l6,l7,l8,l9⟩:=L3 ha hb a0 b0 ht ic;have hy:nk a b p<=nm b (jo a b p)+1:=by unfold nk;split<;>omega
 obtain⟨K,hK⟩:∃ K:Nat,K=4100:=⟨_,rfl⟩
 have g1:4101=K+1:= aE ;have g2:4102=K+2:= aE ;rw[g1,g2];rw[<-hK]at l3 l8;have hy4:nm b (jo a b p)<2^K:=lY.1 l8;have hx4:oB a b p<2^K:=lY.1 l3;have e1:(2:Nat)^(K+1)=2*2^K:=by rw[bI];omega
 have e2:(2:Nat)^(K+2)=4*2^K:=by rw[bB];omega
 generalize (2:Nat)^K=Z at *
 refine⟨lY.2 aE,lY.2 ?_,λhl=>?_⟩
 .unfold mw;split
  .omega
  .split<;>omega
 .unfold nS at hl;simp only[bO,dW]at hl;obtain⟨q1,q2⟩:=l9 hl.1;have hX:2^(ie (oB a b p)-1)<=oB a b p:=rP l4;rw[xg];have hY:nm b (jo a b p)<2^(ie (oB a b p)-3):=lY.1 aE;have e3:(2:Nat)^(ie (oB a b p)-1)=4*2^(ie (oB a b p)-3):=by
   rw[(aE:ie (oB a b p)-1=(ie (oB a b p)-3)+2),bB];omega
  have hp:(2:Nat)^p<=2^(ie (oB a b p)-3):=bR aG aE;unfold mw;split
  .omega
  .rename_i hs;unfold pW at hl;rw[bj (by
    have:=hl.2;simp[hs]at this;omega)]
   omega
def aa5{a b:Dy}{p:Nat}(ha:a.ib)(hb:b.ib)(a0:a.m≠0)(b0:b.m≠0)(up:Bool):
 (mw a b p=0/\nS a b p=false->iJ a b=iA) /\
 (¬(mw a b p=0/\nS a b p=false)->kn (a.neg != pW a b p) (mw a b p) (jo a b p) (nS a b p) p up=kp (iJ a b) p up/\jY (a.neg != pW a b p) (mw a b p) (jo a b p) (nS a b p) p up=j8 (iJ a b) p up):=by
 obtain⟨h1,h2,h3⟩:=QH a b p;by_cases hs:a.neg=b.neg
 .have hn:(a.neg != b.neg)=false:=by rw[hs];simp
  have e1:pW a b p=false:=by unfold pW;rw[hn];rfl
  have e2:nS a b p=od b (jo a b p):=by unfold nS;rw[e1];simp
  have e3:mw a b p=a.m*2^(a.e-jo a b p).toNat+nm b (jo a b p):=by unfold mw;rw[bk hs];unfold oB nk;rw[hn];simp
  have hx:mw a b p≠0:=by
   rw[e3];have:=dm a0 (eu (bD (n:=(a.e-jo a b p).toNat) (show 0<2 by decide)));omega
  refine⟨λh=>absurd h.1 hx,λ_=>?_⟩;rw[e1,e2,e3];have:=anb ha.canon hb.canon a0 b0 h1 h2 h3 hs up;cases hA:a.neg<;>rw[hA]at this<;>exact this
 .have hn:(a.neg != b.neg)=true:=by simpa using hs
  have eY:nk a b p=nm b (jo a b p)+if od b (jo a b p)=true then 1 else 0:=by unfold nk;rw[hn];simp
  obtain⟨r1,r2⟩:=ana (p:=p) ha.canon hb.canon a0 b0 h1 h2 h3 hs up;rw[<-eY]at r1 r2;change oB a b p<nk a b p->_ at r1;change nk a b p<=oB a b p->_ at r2;by_cases hc:oB a b p<nk a b p
  .have e1:pW a b p=true:=by unfold pW;rw[hn,bn hc];rfl
   have e2:nS a b p=false:=by unfold nS;rw[e1];simp
   have e3:mw a b p=nk a b p-oB a b p:=by unfold mw;rw[bj hs,bk hc]
   rw[e1,e2,e3];refine⟨λh=> aE,λ_=>?_⟩;have:=r1 hc;cases hA:a.neg<;>rw[hA]at this<;>exact this
  .have e1:pW a b p=false:=by unfold pW;rw[hn,bt hc];rfl
   have e2:nS a b p=od b (jo a b p):=by unfold nS;rw[e1];simp
   have e3:mw a b p=oB a b p-nk a b p:=by unfold mw;rw[bj hs,bj hc]
   rw[e1,e2,e3];obtain⟨q1,q2⟩:=r2 aE;refine⟨q1,λh=>?_⟩;have:=q2 h;cases hA:a.neg<;>rw[hA]at this<;>exact this
end Go.Proofs.YtgdahmmlddfimaaGreatDoor.Fp
namespace Go.Proofs.YtgdahmmlddfimaaGreatDoor
open Go.RowKit Fp
def Jv(a b:Nat):ie (a*b)<=ie a+ie b:=by
 rw[lY,bB];exact aqJ (qw a) (qw b)
def amE(a:Dy)(A:Option Addr)(c:Nat)(w:World)(h:Sl w A c (gW a.m))(ha:a.ib):
 Calls prog 74 #[DV a A c] w λe w'=>e = .returned (.bool true)/\iF w w':=
 LA a.neg A c (gW a.m) a.e w true h (by have:=ha.exp;omega) (by have:=ha.exp;omega) (by simp[ha.wP])
def amz(a:Dy)(A:Option Addr)(c:Nat)(w:World)(h:Sl w A c (gW a.m)):
 Calls prog 157 #[DV a A c] w λe w'=>e = .returned (.int .i64 a.iI)/\iF w w':=by
 have:=amy a.neg A c (gW a.m) a.e w h (uI _);rw[kq]at this;exact this
def amD(a:Dy)(A:Option Addr)(c:Nat)(w:World)(h:Sl w A c (gW a.m))(ha:AW a):
 Calls prog 158 #[DV a A c] w λe w'=>e = .returned (.int .i64 a.im)/\iF w w':=by
 have:=ZH a.neg A c (gW a.m) a.e w h (uI _) (by have:=ha.len;omega) (by have:=ha.lo;omega) (by have:=ha.hi;omega);rw[kq]at this;exact this
def aeY(d:Dy)(A:Option Addr)(c:Nat)(w:World)(hs:Sl w A c (gW d.m))(hl:(gW d.m).length<=100000000)(mv:-10000000<=d.e)(lr:d.e<=10000000):
 Calls prog 222 #[DV d A c] w (zI w (jC d) (kC d)):=by
 by_cases hd:mT d
 .rw [yJ hd,Cy hd];exact Td d A c w hs hl mv lr hd
 .rw [JC hd,Eg hd];exact aeZ d A c w hs hl mv lr hd
def zS(s:Bool)(m:Nat)(e:Int){n:Nat}(hm:(gW m).length<=n):(gW (canon s m e).m).length<=n/\e<=max (canon s m e).e e/\((canon s m e).e<=max 0 (e+32*n))/\min 0 e<=(canon s m e).e:=by
 unfold canon;by_cases h0:m=0
 .rw [bk h0];simp only[oz];exact⟨bS _,aE,aE,aE⟩
 .rw [bj h0];have h1:jz m<32*n:=by
   have h1:=Io h0;have h2:=y7 hm;rw[ss]at h2;exact(aqv (aG:1<2)).1 (cC h1 h2)
  exact⟨bA (mO (b7 _ _)) hm,aE,by simp only;omega,by simp only;omega⟩
def SV(s:Bool)(m:Nat)(e:Int)(A:Option Addr)(c:Nat)(w:World)(hs:Sl w A c (gW m))(hl:(gW m).length<=256)(mv:-1000000<=e)(lr:e<=1000000)(uR:Tb w):
 Calls prog 219 #[.bool s,.slice A (gW m).length c,.int .i64 e] w (xz w (canon s m e)):=by
 have:=JN s A c (gW m) e w hs aE (by have:=pY (gW m);unfold mX at this;omega) mv lr uR;rw[kq]at this;exact this
def YH{m:Nat}(h:m=0):(((gW m).length:Int)==0)=true:=by rw[h,oz];rfl
def alB{m:Nat}(h:m≠0):(((gW m).length:Int)==0)=false:=by
 refine a7 ?_;have:gW m≠[]:=λe=>h (Xz.1 e)
 have:=eD.2 this;omega
def apQ(a b:Dy)(A B:Option Addr)(c d:Nat)(w:World)(_hs:Sl w A c (gW a.m))(hr:Sl w B d (gW b.m))(uR:Tb w)(hb:b.ib)(h0:a.m=0):
 Calls prog 164 #[DV a A c,DV b B d] w (zI w (jC (iJ a b)) (kC (iJ a b))):=by
 have EO:iJ a b=b:=by unfold iJ;rw[bk h0]
 rw[EO,yJ hb.range,Cy hb.range];have hl:=hb.len;obtain⟨mv,lr⟩:=hb.exp;have HC:=aq9 (λw (h:Sl w B d (gW b.m)) (ht:Tb w)=>SV b.neg b.m b.e B d w h hl aE aE ht);rw[hb.canon.Cv]at HC;have n0:=YH h0;clear EO h0;have hE:=((iF.alloc w (.cells #[.bool b.neg,.slice B ((gW b.m).length) d,.int .i64 b.e] 31)).trans (iF.alloc (w.alloc (.cells #[.bool b.neg,.slice B ((gW b.m).length) d,.int .i64 b.e] 31)) (.cells #[.bool b.neg,.slice B ((gW b.m).length) d,.int .i64 b.e] 31))).trans (iF.alloc ((w.alloc (.cells #[.bool b.neg,.slice B ((gW b.m).length) d,.int .i64 b.e] 31)).alloc (.cells #[.bool b.neg,.slice B ((gW b.m).length) d,.int .i64 b.e] 31)) (.cells #[.bool false,.slice none 0 0,.int .i64 0] 31));have b1:=((jG.tO (W:=w) (g:=w.heap.size) aK b.neg B ((gW b.m).length) d b.e).alloc (.cells #[.bool b.neg,.slice B ((gW b.m).length) d,.int .i64 b.e] 31)).alloc (.cells #[.bool false,.slice none 0 0,.int .i64 0] 31);have b2:=(jG.tO (W:=(w.alloc (.cells #[.bool b.neg,.slice B ((gW b.m).length) d,.int .i64 b.e] 31))) (g:=w.heap.size+1) aK b.neg B ((gW b.m).length) d b.e).alloc (.cells #[.bool false,.slice none 0 0,.int .i64 0] 31);have b3:=jG.tO (W:=((w.alloc (.cells #[.bool b.neg,.slice B ((gW b.m).length) d,.int .i64 b.e] 31)).alloc (.cells #[.bool b.neg,.slice B ((gW b.m).length) d,.int .i64 b.e] 31))) (g:=w.heap.size+2) aK false none 0 0 0;replace hr:=hr.below hE;replace uR:=uR.below hE;go_enter func164,ntmps164;go_wp2_with fail
 (with_reducible refine(HC.out _ hr uR).mono ?_)
 rintro r w1 ⟨A_h4,c_h4,rfl,h4,hb⟩;replace hE:=hE.trans hb;replace hr:=hr.below hb;replace uR:=uR.below hb;replace b1:=b1.ext hb;replace b2:=b2.ext hb;replace b3:=b3.ext hb;clear hb;have aqk:=b3.c0;have yb30:=b3.fr 0;have aql:=b3.c1;have yb31:=b3.fr 1;have aqm:=b3.c2;have yb32:=b3.fr 2;go_wp2;exact En (d:=b) rfl rfl rfl rfl (b3.set _ _ _ _ _) rfl (b3.vq h4 _ _ _ _ _) (jG.uH hE aE _ _ _ _ _)
def afR(a:Dy)(A:Option Addr)(c:Nat)(w:World)(h:Sl w A c (gW a.m))(ha:a.ib):
 Calls prog 185 #[DV a A c] w λe w'=>e = .returned (.int .i64 a.im)/\iF w w':=by
 have:=Nf a.neg A c (gW a.m) a.e w h ha.wP;rw[kq]at this;exact this
set_option maxRecDepth 100000 in
set_option maxHeartbeats 8000000 in
def afO(a : Dy)(A : Option Addr)(c : Nat)(w : World)(hs : Sl w A c (gW a.m))(ha : a.ib):
    Calls prog 137 #[DV a A c] w (xz w (jf a)) := by
  have HV := aq9 (λw (h : Sl w A c (gW a.m)) => T4 a A c w h ha);have hl := ha.len;by_cases h0 : a.m=0
  . have hz : Hid (jf a=iA) := by
      show jf a=iA;obtain⟨s,m,e⟩ := a;rcases ha.canon with⟨h1,h2,h3⟩|h1
      . simp only at h1 h2 h3;subst h1 h2 h3;rfl
      . simp only at h0 h1;omega
    have n0 := YH h0;clear h0;have hE := (iF.alloc w (.cells #[.bool a.neg,.slice A ((gW a.m).length) c,.int .i64 a.e] 31)).trans (iF.alloc (w.alloc (.cells #[.bool a.neg,.slice A ((gW a.m).length) c,.int .i64 a.e] 31)) (.cells #[.bool false,.slice none 0 0,.int .i64 0] 31));have b1 := (jG.tO (W := w) (g := w.heap.size) aK a.neg A ((gW a.m).length) c a.e).alloc (.cells #[.bool false,.slice none 0 0,.int .i64 0] 31);have b2 := jG.tO (W := (w.alloc (.cells #[.bool a.neg,.slice A ((gW a.m).length) c,.int .i64 a.e] 31))) (g := w.heap.size+1) aK false none 0 0 0;replace hs := hs.below hE;go_enter func137,ntmps137;go_wp2_with fail
    (with_reducible refine(HV.out _ hs).mono ?_)
    rintro r w1 ⟨rfl,hb⟩;replace hE := hE.trans hb;replace hs := hs.below hb;replace b1 := b1.ext hb;replace b2 := b2.ext hb;clear hb;have Mm := b1.c0;have Mn := b1.c1;have Mo := b1.c2;have aqh := b2.c0;have yb20 := b2.fr 0;have aqi := b2.c1;have yb21 := b2.fr 1;have aqj := b2.c2;have yb22 := b2.fr 2;go_wp2;rw[hz.out];exact uO (d := iA) rfl rfl rfl (b2.set _ _ _ _ _) (by rw[show iA.m=0 from rfl,oz];rfl) (by rw[show iA.m=0 from rfl,oz];exact Sl.nil _) (jG.uH hE aE _ _ _ _ _)
  . have n0 := alB h0
    have HN := aq9 (show jf a=⟨!a.neg,a.m,a.e⟩by unfold jf;simp[h0]);have HC := aq9 (λw (h : Sl w A c (gW a.m)) => M4 A c (gW a.m) w h aE);clear h0;have hE := (iF.alloc w (.cells #[.bool a.neg,.slice A ((gW a.m).length) c,.int .i64 a.e] 31)).trans (iF.alloc (w.alloc (.cells #[.bool a.neg,.slice A ((gW a.m).length) c,.int .i64 a.e] 31)) (.cells #[.bool false,.slice none 0 0,.int .i64 0] 31));have b1 := (jG.tO (W := w) (g := w.heap.size) aK a.neg A ((gW a.m).length) c a.e).alloc (.cells #[.bool false,.slice none 0 0,.int .i64 0] 31);have b2 := jG.tO (W := (w.alloc (.cells #[.bool a.neg,.slice A ((gW a.m).length) c,.int .i64 a.e] 31))) (g := w.heap.size+1) aK false none 0 0 0;replace hs := hs.below hE;go_enter func137,ntmps137;go_wp2_with fail
    (with_reducible refine(HV.out _ hs).mono ?_)
    rintro r w1 ⟨rfl,hb⟩;replace hE := hE.trans hb;replace hs := hs.below hb;replace b1 := b1.ext hb;replace b2 := b2.ext hb;clear hb;have Mm := b1.c0;have Mn := b1.c1;have Mo := b1.c2;clear Mm Mn Mo;have Mm := b1.c0;have Mn := b1.c1;have Mo := b1.c2;go_wp2_with fail;clear Mm Mn Mo;replace hs := hs.drew;replace b1 := b1.drew;replace b2 := b2.drew;replace hE := hE.trans (iF.drew _);go_region_held3 (λw' => w'.cell? ⟨w.heap.size,0,none⟩=some (.bool a.neg)/\w'.cell? ⟨w.heap.size,1,none⟩=some (.slice A ((gW a.m).length) c)/\w'.cell? ⟨w.heap.size,2,none⟩=some (.int .i64 a.e))
      (first|with_reducible exact⟨(b1).c0,(b1).c1,(b1).c2⟩|with_reducible exact⟨(b1.ext qn).c0,(b1.ext qn).c1,(b1.ext qn).c2⟩|with_reducible exact⟨((b1.ext qn).Ny (g' := w.heap.size+1) aE _ _ _).c0,((b1.ext qn).Ny (g' := w.heap.size+1) aE _ _ _).c1,((b1.ext qn).Ny (g' := w.heap.size+1) aE _ _ _).c2⟩)
      (first
        | (go_at_call 204
           (with_reducible refine(HC.out _ hs).mono ?_)
           rintro r wx0 ⟨A_h4,c_h4,rfl,h4,qn⟩;have bz := b2.ext qn;have z0 := bz.c0;have z1 := bz.c1;have z2 := bz.c2;have y0 := bz.fr 0;have y1 := bz.fr 1;have y2 := bz.fr 2))
    replace hE := hE.trans qn;replace hs := hs.below qn;replace b1 := b1.ext qn;replace b2 := b2.ext qn;go_wp2;rw[HN.out];exact uO (d := ⟨!a.neg,a.m,a.e⟩) rfl rfl rfl (bz.set _ _ _ _ _) rfl (bz.vq h4 _ _ _ _ _) (jG.uH hE aE _ _ _ _ _)
open Pu
section
variable {f:FuncId} {L M:List Nat} {kf:E}
def Ij(hk:iK L)(hc:∀ (vs:Array Value) (w:World),(callFunc f vs).run prog w = .ok (.enter f vs) w)
 {R:Option Addr->Nat->World->Ending->World->Prop} (H:∀ A c w,Sl w A c L->Tb w->Calls prog f #[.slice A L.length c] w (R A c w))
 (hR:∀ (A:Option Addr) (c:Nat) (B:Nat->Prop) w e w',Sl w A c L->(∀ b,B b->b<w.heap.size/\py w b)->R A c w e w'->∃ v,e = .returned v/\Below w.heap.size w w'/\iD B (λ_=>True) w' kf v):gV f [ia L] kf:=by
 refine⟨hc,λw B vs hK hB hr=>?_⟩;obtain⟨v1,vs,rfl,h1,hr⟩:=hr.mG;obtain rfl:=hr.rj;obtain⟨A,c,rfl,s1⟩:=xv hk h1;exact(H A c w s1 hK).mono λe w' h=>hR A c B w e w' s1 hB h
def Ik(hk:iK L){n:Int}(hc:∀ (vs:Array Value) (w:World),(callFunc f vs).run prog w = .ok (.enter f vs) w)
 {R:Option Addr->Nat->World->Ending->World->Prop} (H:∀ A c w,Sl w A c L->Tb w->Calls prog f #[.slice A L.length c,.int .i64 n] w (R A c w))
 (hR:∀ (A:Option Addr) (c:Nat) (B:Nat->Prop) w e w',Sl w A c L->(∀ b,B b->b<w.heap.size/\py w b)->R A c w e w'->∃ v,e = .returned v/\Below w.heap.size w w'/\iD B (λ_=>True) w' kf v):gV f [ia L,iP n] kf:=by
 refine⟨hc,λw B vs hK hB hr=>?_⟩;obtain⟨v1,vs,rfl,h1,hr⟩:=hr.mG;obtain⟨v2,vs,rfl,h2,hr⟩:=hr.mG;obtain rfl:=hr.rj;obtain rfl:=iD.kJ h2;obtain⟨A,c,rfl,s1⟩:=xv hk h1;exact(H A c w s1 hK).mono λe w' h=>hR A c B w e w' s1 hB h
def BW(hk:iK L)(hm:iK M)(hc:∀ (vs:Array Value) (w:World),(callFunc f vs).run prog w = .ok (.enter f vs) w)
 {R:World->Ending->World->Prop} (H:∀ A c B d w,Sl w A c L->Sl w B d M->Tb w->Calls prog f #[.slice A L.length c,.slice B M.length d] w (R w))
 (hR:∀ (B:Nat->Prop) w e w',(∀ b,B b->b<w.heap.size/\py w b)->R w e w'->∃ v,e = .returned v/\Below w.heap.size w w'/\iD B (λ_=>True) w' kf v):gV f [ia L,ia M] kf:=by
 refine⟨hc,λw B vs hK hB hr=>?_⟩;obtain⟨v1,vs,rfl,h1,hr⟩:=hr.mG;obtain⟨v2,vs,rfl,h2,hr⟩:=hr.mG;obtain rfl:=hr.rj;obtain⟨A,c,rfl,s1⟩:=xv hk h1;obtain⟨A',d,rfl,s2⟩:=xv hm h2;exact(H A c A' d w s1 s2 hK).mono λe w' h=>hR B w e w' hB h
end
def Iw{L:List Nat}{n:Int}(B:Nat->Prop)(w:World)(e:Ending)(w':World)(hB:∀ b,B b->b<w.heap.size/\py w b)(h:D3 w L n e w'):∃ v,e = .returned v/\Below w.heap.size w w'/\iD B (λ_=>True) w' (.iw [ia L,iP n]) v:=
 let⟨_,_,h1,h2,h3⟩:=h
 ⟨_,h1,h3,kr.iw (.cons (Cd hB h3 h2) (.cons (.v _) (.nil _ _ _)))⟩
def rl{L:List Nat}(B:Nat->Prop)(w:World)(e:Ending)(w':World)(hB:∀ b,B b->b<w.heap.size/\py w b)(h:uL w L e w'):∃ v,e = .returned v/\Below w.heap.size w w'/\iD B (λ_=>True) w' (ia L) v:=
 let⟨_,_,h1,h2,h3⟩:=h
 ⟨_,h1,h3,Cd hB h3 h2⟩
def vh(L:List Nat)(hk:iK L):gV 263 [ia L] (ia (iG L)):=
 Ij hk call263 (λA c w h _=>wm A c L w h) λA c B w e w' h hB ⟨h1,h2⟩=>by subst h2;exact⟨_,h1,Below.refl _ _,Cd hB (Below.refl _ _) h.vt⟩
def Yl(L:List Nat)(hk:iK L)(hl:(iG L).length<=256):gV 231 [ia L] (.iw [ia (iG L),iP 0]):=
 Ij hk call231 (λA c w h _=>Ia A c L w h hl) λA c B w e w' h hB r=>Iw B w e w' hB r
def akE(L:List Nat)(hk:iK L)(hl:L.length<=100000):gV 265 [ia L] (iP (ie (val L))):=
 Ij hk call265 (λA c w h _=>Yk A c L w h aE) λA c B w e w' h hB ⟨h1,h2⟩=>by subst h2;exact⟨_,h1,Below.refl _ _,.v _⟩
def PO(L M:List Nat)(hk:iK L)(hm:iK M)(hl:L.length<=100000)(nX:M.length<=100000):gV 223 [ia L,ia M] (iP (kI (val L) (val M))):=
 BW hk hm call223 (λA c B d w h k _=>K6 A B c d L M w h k aE aE) rv
def PU(m n:Nat)(hl:(gW m).length<=256)(hn:n<=65536)(hf:(gW (m*2^n)).length<=256):gV 261 [ia (gW m),iP (n:Int)] (.iw [ia (gW (m*2^n)),iP 0]):=
 Ik (ml m) call261 (λA c w h _=>Yq A c (gW m) n w h hl hn (by rw[kq];exact hf)) λA c B w e w' h hB r=>by rw[kq]at r;exact Iw B w e w' hB r
def K7(m n:Nat)(hl:(gW m).length<=256)(hn:n<=65536):gV 175 [ia (gW m),iP (n:Int)] (.iw [ia (gW (m/2^n)),iP 0]):=
 Ik (ml m) call175 (λA c w h _=>Ys A c (gW m) n w h hl hn) λA c B w e w' h hB r=>by rw[kq]at r;exact Iw B w e w' hB r
def H9(m n:Nat)(h1:(gW m).length<=256)(h2:(gW n).length<=256)(hf:(gW (m+n)).length<=256):gV 221 [ia (gW m),ia (gW n)] (.iw [ia (gW (m+n)),iP 0]):=by
 refine BW (ml m) (ml n) call221 (λA c B d w h k _=>akD A B c d (gW m) (gW n) w h k h1 h2 (by rw[kq,kq];exact hf)) ?_;rw[kq,kq];exact Iw
def Dx(m n:Nat)(h1:(gW m).length<=256)(h2:(gW n).length<=256)(hf:n<=m):gV 224 [ia (gW m),ia (gW n)] (.iw [ia (gW (m-n)),iP 0]):=by
 refine BW (ml m) (ml n) call224 (λA c B d w h k _=>akO A B c d (gW m) (gW n) w h k h1 h2 (by rw[kq,kq];exact hf)) ?_;rw[kq,kq];exact Iw
def tf(m:Nat)(hl:(gW m).length<=100000):gV 265 [ia (gW m)] (iP (ie m)):=by
 have:=akE (gW m) (ml m) hl;rwa[kq]at this
def y9(m n:Nat)(hl:(gW m).length<=100000)(nX:(gW n).length<=100000):gV 223 [ia (gW m),ia (gW n)] (iP (kI m n)):=by
 have:=PO (gW m) (gW n) (ml m) (ml n) hl nX;rwa[kq,kq]at this
def yM(a:Dy)(ha:a.ib):gV 137 [gZ a] (gZ (jf a)):=xn call137 (λA c w h _=>afO a A c w h ha) rd
def mW(a:Dy)(ha:a.ib):gV 185 [gZ a] (iP a.im):=xn call185 (λA c w h _=>afR a A c w h ha) rv
def yL(s:Bool)(m:Nat)(e:Int)(hl:(gW m).length<=256)(mv:-32768<=e)(lr:e<=32768)(hd:mT (canon s m e)):gV 176 [bP s,ia (gW m),iP e] (.iw [gZ (canon s m e),iP 0]):=by
 refine⟨call176,λw B vs hK hB hr=>?_⟩;obtain⟨v1,vs,rfl,h1,hr⟩:=hr.mG;obtain⟨v2,vs,rfl,h2,hr⟩:=hr.mG;obtain⟨v3,vs,rfl,h3,hr⟩:=hr.mG;obtain rfl:=hr.rj;obtain rfl:=iD.kJ h1;obtain rfl:=iD.kJ h3;obtain⟨A,c,rfl,s1⟩:=xv (ml m) h2;have:=akl s A c (gW m) e w s1 hl mv lr hK (by rw[kq];exact hd);rw[kq]at this;exact this.mono λe w' h=>Qw B w e w' hB h
def yi:E.le (.sl false 1 1 λi j=>[E.v (.int .u32 1)].getD (i*1+j) (.v (.bool false))) (ia (gW 1)):=by
 have e1:gW 1=[1]:=by rw[BO aG,show 1/4294967296=0 by decide,oz]
 rw[e1];refine .sl λi j hi hj=>?_
 obtain rfl:i=0:= aE ;obtain rfl:j=0:= aE ;exact⟨.refl _,rfl⟩
def ix(d:Dy):List E:=[bP d.neg,ia (gW d.m),iP d.e]
def jN(l:List Dy):E:=.sl true l.length 3 λi j=>(ix (l.getD i iA)).getD j .any
def Bg(a:Dy):E.le (.sl true 1 3 λi j=>[bP a.neg,ia (gW a.m),iP a.e].getD (i*3+j) (.v (.bool false))) (jN [a]):=.sl λi j hi hj=>by
 obtain rfl:i=0:= aE ;rcases j with _|_|_|j
 .exact ⟨.refl _,rfl⟩
 .exact ⟨.refl _,rfl⟩
 .exact ⟨.refl _,rfl⟩
 .omega
def xH(a b:Dy):E.le (.sl true 2 3 λi j=>[bP a.neg,ia (gW a.m),iP a.e,bP b.neg,ia (gW b.m),iP b.e].getD (i*3+j) (.v (.bool false))) (jN [a,b]):=.sl λi j hi hj=>by
 obtain rfl|rfl:i=0\/i=1:= aE 
 all_goals
  rcases j with _|_|_|j
  .exact ⟨.refl _,rfl⟩
  .exact ⟨.refl _,rfl⟩
  .exact ⟨.refl _,rfl⟩
  .omega
def ni{n:Nat}(h:n≠0):((n:Int)==0)=false:= aS 
def sk{n:Nat}(h:n=0):((n:Int)==0)=true:=by subst h;rfl
def Yo{n:Nat}(h:n=0):((n:Int) != 0)=false:=by subst h;rfl
def Yp{n:Nat}(h:n≠0):((n:Int) != 0)=true:= aS 
def pE{m:Nat}:(gW m).length=0↔m=0:=by rw[gT,Xz]
def nR{m:Nat}(h:m≠0):(gW m).length≠0:=λq=>h (pE.1 q)
def Fp.Dy.ib.gW{d:Dy}(h:d.ib):(gW d.m).length<=256:=by have:=h.len;omega
end Go.Proofs.YtgdahmmlddfimaaGreatDoor
namespace Go.Proofs.YtgdahmmlddfimaaGreatDoor.Fp
structure Iv where
 lo:Dy
 hi:Dy
 all:Bool
def gY:Iv:=⟨iA,iA,true⟩
def Iv.ib(x:Iv):Prop:=(x.all=true/\x.lo=iA/\x.hi=iA)\/(x.all=false/\x.lo.ib/\x.hi.ib/\iL x.lo x.hi<=0)
def mg:gY.ib:=.inl ⟨rfl,rfl,rfl⟩
def mj(lo:Dy)(e:Int)(hi:Dy)(f:Int):Iv:=if e≠0\/f≠0 then gY else⟨lo,hi,false⟩
def yj(a b:Dy):Dy:=canon (a.neg != b.neg) (a.m*b.m) (a.e+b.e)
def qh(x:Iv):Iv:=if x.all then gY else⟨jf x.hi,jf x.lo,false⟩
def jS(x y:Iv)(p:Nat):Iv:=
 if x.all||y.all then gY else mj (kp (iJ x.lo y.lo) p false) (j8 (iJ x.lo y.lo) p false) (kp (iJ x.hi y.hi) p true) (j8 (iJ x.hi y.hi) p true)
def sJ(x y:Iv)(p:Nat):Iv:=jS x (qh y) p
def ae5{x y:Int}:xF x y<=0↔x<=y:=by
 unfold xF;split
 .constructor<;>intro<;>omega
 .split<;>constructor<;>intro<;>omega
def qJ{a b:Dy}{k:Int}(ha:oO a k)(hb:oO b k):iL a b<=0↔a.num k<=b.num k:=by rw[Eh ha hb,ae5]
def le_trans{a b c:Dy}(h1:iL a b<=0)(h2:iL b c<=0):iL a c<=0:=by
 obtain⟨k,ka,kb,kc⟩:∃ k:Int,k<=a.e/\k<=b.e/\k<=c.e:=⟨min a.e (min b.e c.e),aE,aE,aE⟩
 rw[qJ (.inr ka) (.inr kb)]at h1;rw[qJ (.inr kb) (.inr kc)]at h2;rw[qJ (.inr ka) (.inr kc)];omega
def Dm(a:Dy):iL a a<=0:=by rw[qJ (k:=a.e) (.inr (cE _)) (.inr (cE _))];exact cE _
def ajG(a b:Dy):iL a b<=0\/iL b a<=0:=by
 obtain⟨k,ka,kb⟩:∃ k:Int,k<=a.e/\k<=b.e:=⟨min a.e b.e,aE,aE⟩
 rw[qJ (.inr ka) (.inr kb),qJ (.inr kb) (.inr ka)];omega
def akV{a b:Dy}(h:iL a b<=0):iL (jf b) (jf a)<=0:=by
 obtain⟨k,ka,kb⟩:∃ k:Int,k<=a.e/\k<=b.e:=⟨min a.e b.e,aE,aE⟩
 rw[qJ (.inr ka) (.inr kb)]at h;rw[qJ (k:=k) (I8 (.inr kb)) (I8 (.inr ka)),La,La];omega
def aoh{a b c d:Dy}(h1:iL a b<=0)(h2:iL c d<=0):iL (iJ a c) (iJ b d)<=0:=by
 obtain⟨k,ka,kb,kc,kd⟩:∃ k:Int,k<=a.e/\k<=b.e/\k<=c.e/\k<=d.e:=⟨min (min a.e b.e) (min c.e d.e),aE,aE,aE,aE⟩
 rw[qJ (.inr ka) (.inr kb)]at h1;rw[qJ (.inr kc) (.inr kd)]at h2;rw[qJ (k:=k) (I9 (.inr ka) (.inr kc)) (I9 (.inr kb) (.inr kd)),LY (.inr ka) (.inr kc),LY (.inr kb) (.inr kd)];omega
def JJ(m:Nat)(e:Int)(p:Nat):
 lF m e false p false*2^jW m e p<=m/\m<=lF m e false p true*2^jW m e p:=by
 have h:=cN m (2^jW m e p);have hr:=bM m (bD (n:=jW m e p) (aG:0<2));unfold lF;simp only[bK,false_and,bC,bY,false_or,true_and];rw[bL];generalize m/2^jW m e p=q at *
 generalize 2^jW m e p=P at *
 refine⟨aE,?_⟩;rw[b8,bL q];split
 .omega
 .omega
def MU{s:Bool}{m n:Nat}{e f K:Int}(h1:K<=e)(h2:K<=f)(h:m*2^(e-K).toNat<=n*2^(f-K).toNat):
 (s=false->iL (canon s m e) (canon s n f)<=0)/\(s=true->iL (canon s n f) (canon s m e)<=0):=by
 constructor
 .rintro rfl;rw[qJ (AY h1) (AY h2),YO h1,YO h2]
  exact_mod_cast h
 .rintro rfl;rw[qJ (AY h2) (AY h1),DC h1,DC h2];simp only[bJ];omega
def TE(neg:Bool)(m:Nat)(e:Int)(p:Nat)(up:Bool)(he:jY neg m e false p up=0)(_hp:1<=p):
 (up=true->iL (canon neg m e) (kn neg m e false p up)<=0)/\(up=false->iL (kn neg m e false p up) (canon neg m e)<=0):=by
 rw[F6]at he;obtain⟨c1,c2⟩:=JJ m e p;have e1:(e-e).toNat=0:= aE ;have e2:(e+(jW m e p:Int)-e).toNat=jW m e p:= aE ;have hk:e<=e+(jW m e p:Int):= aE ;have A:=λs:Bool=>MU (s:=s) (m:=lF m e false p false) (n:=m) (e:=e+jW m e p) (f:=e) (K:=e) hk (cE _) (by rw[e1,e2];simpa using c1)
 have B:=λs:Bool=>MU (s:=s) (m:=m) (n:=lF m e false p true) (e:=e) (f:=e+jW m e p) (K:=e) (cE _) hk (by rw[e1,e2];simpa using c2)
 unfold kn;by_cases ho:mN m e false p (neg != up)=true
 .have hn:¬(neg != up)=true:=λh=>he ⟨ho,h⟩
  rw[bk ho,bj hn];have Wc:neg=up:=by cases neg<;>cases up<;>simp at hn ⊢
  have lR:(neg != up)=false:=by rw[Wc];simp
  rw[lR]at ho;unfold mN at ho;simp only[bO,cv]at ho;obtain⟨o1,o2⟩:=ho;have hq:=rP o1;have pO:=ny o1;obtain⟨K,k1,k2⟩:∃ K:Int,K<=e/\K<=16384-p:=⟨min e (16384-p),aE,aE⟩
  have C:(2^p-1)*2^((16384:Int)-p-K).toNat<=m*2^(e-K).toNat:=by
   have h1:2^(ie (lF m e false p false)-1)*2^jW m e p<=m:=bA (bW _ hq) c1;have h2:=bW (2^(e-K).toNat) h1;rw[<-bB,<-bB]at h2;refine bA (bW _ (dz _ _)) (bA ?_ h2);rw[<-bB];exact bR aG aE 
  have D:=MU (s:=neg) k2 k1 C;subst Wc;cases neg
  .exact ⟨λh=>absurd h aG,λ_=>D.1 rfl⟩
  .exact ⟨λ_=>D.2 rfl,λh=>absurd h aG⟩
 .rw [bj ho];cases neg<;>cases up
  .exact ⟨λh=>absurd h aG,λ_=>(A false).1 rfl⟩
  .exact ⟨λ_=>(B false).1 rfl,λh=>absurd h aG⟩
  .exact ⟨λh=>absurd h aG,λ_=>(B true).2 rfl⟩
  .exact ⟨λ_=>(A true).2 rfl,λh=>absurd h aG⟩
def ZN{d:Dy}(hd:d.nx)(p:Nat)(hp:1<=p):
 (j8 d p true=0->iL d (kp d p true)<=0)/\(j8 d p false=0->iL (kp d p false) d<=0):=by
 have h:=hd.Cv;constructor
 .intro he;have:=(TE d.neg d.m d.e p true he hp).1 rfl;rwa[h]at this
 .intro he;have:=(TE d.neg d.m d.e p false he hp).2 rfl;rwa[h]at this
def rU{x y:Iv}(hx:x.ib)(hy:y.ib){p:Nat}(hp:1<=p)(ic:p<=4096):(jS x y p).ib:=by
 unfold jS;rcases hx with⟨h,_⟩|⟨h1,h2,h3,h4⟩
 .rw [h];exact mg
 .rcases hy with⟨h,_⟩|⟨k1,k2,k3,k4⟩
  .rw [h,h1];exact mg
  .rw [h1,k1];simp only[gU,bK,bC];unfold mj;by_cases he:j8 (iJ x.lo y.lo) p false≠0\/j8 (iJ x.hi y.hi) p true≠0
   .rw [bk he];exact mg
   .rw [bj he];have e1:j8 (iJ x.lo y.lo) p false=0:= aE ;have e2:j8 (iJ x.hi y.hi) p true=0:= aE ;refine .inr ⟨rfl,ua _ _ _ _ _ _ hp ic,ua _ _ _ _ _ _ hp ic,?_⟩;exact le_trans ((ZN (Cw h2.canon k2.canon) p hp).2 e1) (le_trans (aoh h4 k4) ((ZN (Cw h3.canon k3.canon) p hp).1 e2))
def Dz{x:Iv}(hx:x.ib):(qh x).ib:=by
 unfold qh;rcases hx with⟨h,_⟩|⟨h1,h2,h3,h4⟩
 .rw [bk h];exact mg
 .rw [h1];exact .inr ⟨rfl,yg h3,yg h2,akV h4⟩
def jj(a b:Dy):Dy:=if iL b a<0 then b else a
def iW(a b:Dy):Dy:=if 0<iL b a then b else a
def Ht(a b:Dy):iL (jj a b) a<=0:=by
 unfold jj;split
 .omega
 .exact Dm a
def XX(a b:Dy):iL (jj a b) b<=0:=by
 unfold jj;split
 .exact Dm b
 .rcases ajG a b with h|h
  .exact h
  .have h0:iL b a=0:= aE ;obtain⟨k,ka,kb⟩:∃ k:Int,k<=a.e/\k<=b.e:=⟨min a.e b.e,aE,aE⟩
   rw[Eh (k:=k) (.inr kb) (.inr ka)]at h0;rw[qJ (.inr ka) (.inr kb)];unfold xF at h0;split at h0
   .omega
   .split at h0<;>omega
def Ba(a b:Dy):iL a b = -iL b a:=by
 obtain⟨k,ka,kb⟩:∃ k:Int,k<=a.e/\k<=b.e:=⟨min a.e b.e,aE,aE⟩
 rw[Eh (k:=k) (.inr ka) (.inr kb),Eh (k:=k) (.inr kb) (.inr ka)];unfold xF;split<;>split<;>(try split)<;>omega
def E6(a b:Dy):iL a (iW a b)<=0:=by
 unfold iW;split
 .rw [Ba];omega
 .exact Dm a
def XW(a b:Dy):iL b (iW a b)<=0:=by
 unfold iW;split
 .exact Dm b
 .omega
def yb{a b:Dy}(ha:a.ib)(hb:b.ib):(jj a b).ib:=by unfold jj;split;exact hb;exact ha
def vf{a b:Dy}(ha:a.ib)(hb:b.ib):(iW a b).ib:=by unfold iW;split;exact hb;exact ha
def pB(D : Dy->Dy->Bool->Dy)(E : Dy->Dy->Bool->Int)(x y : Iv) : Iv:=
 if(E x.lo y.lo false=0/\E x.lo y.lo true=0)/\(E x.lo y.hi false=0/\E x.lo y.hi true=0)/\(E x.hi y.lo false=0/\E x.hi y.lo true=0)/\(E x.hi y.hi false=0/\E x.hi y.hi true=0)then
  ⟨jj (jj (jj (D x.lo y.lo false) (D x.lo y.hi false)) (D x.hi y.lo false)) (D x.hi y.hi false),
   iW (iW (iW (D x.lo y.lo true) (D x.lo y.hi true)) (D x.hi y.lo true)) (D x.hi y.hi true),false⟩
 else gY
def U7{D:Dy->Dy->Bool->Dy}{E:Dy->Dy->Bool->Int}{x y:Iv}(hv:∀ a b up,(D a b up).ib)
 (hle:E x.lo y.lo false=0->E x.lo y.lo true=0->iL (D x.lo y.lo false) (D x.lo y.lo true)<=0):(pB D E x y).ib:=by
 unfold pB;split
 .rename_i h;refine .inr ⟨rfl,yb (yb (yb (hv _ _ _) (hv _ _ _)) (hv _ _ _)) (hv _ _ _),vf (vf (vf (hv _ _ _) (hv _ _ _)) (hv _ _ _)) (hv _ _ _),?_⟩;refine le_trans (Ht _ _) (le_trans (Ht _ _) (le_trans (Ht _ _) (le_trans (hle h.1.1 h.1.2) ?_)));exact le_trans (E6 _ _) (le_trans (E6 _ _) (E6 _ _))
 .exact mg
def iH(x y:Iv)(p:Nat):Iv:=
 if x.all||y.all then gY else pB (λa b up=>kp (yj a b) p up) (λa b up=>j8 (yj a b) p up) x y
def oL(x y:Iv){p:Nat}(hp:1<=p)(ic:p<=4096):(iH x y p).ib:=by
 unfold iH;split
 .exact mg
 .exact U7 (λ_ _ _=>ua _ _ _ _ _ _ hp ic) (λh1 h2=>TD _ _ _ _ _ h1 h2)
def lI(a b:Dy)(p:Nat)(g:Nat):Nat:=p+g+ie b.m-ie a.m
def pA(a b:Dy)(p:Nat)(up:Bool):Dy:=
 if a.m=0 then iA else kn (a.neg != b.neg) (a.m*2^lI a b p 2/b.m) (a.e-b.e-lI a b p 2) (decide (a.m*2^lI a b p 2%b.m≠0)) p up
def rz(a b:Dy)(p:Nat)(up:Bool):Int:=
 if a.m=0 then 0 else jY (a.neg != b.neg) (a.m*2^lI a b p 2/b.m) (a.e-b.e-lI a b p 2) (decide (a.m*2^lI a b p 2%b.m≠0)) p up
def Nb{a b:Dy}(a0:a.m≠0)(b0:b.m≠0)(p g:Nat)(hg:2<=g):p<ie (a.m*2^lI a b p g/b.m):=by
 have h1:=rP a0;have h2:=qw b.m;have ha:=ny a0;have h3:2^p<=a.m*2^lI a b p g/b.m:=by
  rw[cW aE];refine bA (cO _ (dt h2)) (bA ?_ (bW _ h1));rw[<-bB,<-bB];exact bR aG (by unfold lI;omega)
 exact xg.2 h3
def afB{a b:Dy}(a0:a.m≠0)(b0:b.m≠0)(p:Nat)(up:Bool):
 kn (a.neg != b.neg) (a.m*2^lI a b p 3/b.m) (a.e-lI a b p 3-b.e) (decide (a.m*2^lI a b p 3%b.m≠0)) p up=pA a b p up /\
 jY (a.neg != b.neg) (a.m*2^lI a b p 3/b.m) (a.e-lI a b p 3-b.e) (decide (a.m*2^lI a b p 3%b.m≠0)) p up=rz a b p up:=by
 obtain⟨d,hd⟩:∃ d,lI a b p 3=lI a b p 2+d:=⟨lI a b p 3-lI a b p 2,by unfold lI;omega⟩
 have hb:=Nb a0 b0 p 2 aG;unfold pA rz;rw[bj a0,bj a0,hd];generalize lI a b p 2=k at *
 have hB:0<b.m:= aE ;have hP:=bD (n:=d) (aG:0<2);have e1:a.m*2^(k+d)/b.m/2^d=a.m*2^k/b.m:=by
  rw[dk,bB,<-bH,Nat.mul_div_mul_right _ _ hP]
 have e2:(decide (a.m*2^(k+d)%b.m≠0)||decide (a.m*2^(k+d)/b.m%2^d≠0))=decide (a.m*2^k%b.m≠0):=by
  have h1:a.m*2^(k+d)%(b.m*2^d)=a.m*2^k%b.m*2^d:=by rw[bB,<-bH,Nat.mul_mod_mul_right]
  have h2:a.m*2^(k+d)%(b.m*2^d)=a.m*2^(k+d)%b.m+b.m*(a.m*2^(k+d)/b.m%2^d):=Nat.mod_mul;rw[h1]at h2;rw[dA];simp only[dI,cv];constructor
  .intro h h0;rw[h0,cM]at h2;rcases h with h|h
   .omega
   .have:=fS hB (ef h);omega
  .intro h;apply bT;intro hn;have n1:a.m*2^(k+d)%b.m=0:=by
    apply bT;intro h';exact hn (.inl h')
   have n2:a.m*2^(k+d)/b.m%2^d=0:=by
    apply bT;intro h';exact hn (.inr h')
   rw[n1,n2,cL]at h2;have:=fS (ef h) hP;omega
 have h:=JI (N:=a.m*2^(k+d)/b.m) (E:=a.e-((k+d:Nat):Int)-b.e) (more:=decide (a.m*2^(k+d)%b.m≠0)) (d:=d) (p:=p) (a.neg != b.neg) up (by rw[e1];exact hb);rw[e1,e2,(aE:a.e-((k+d:Nat):Int)-b.e+(d:Int)=a.e-b.e-(k:Int))]at h;exact⟨h.1.symm,h.2.symm⟩
def nV(x:Iv):Int:=if x.all then 0 else if 0<x.lo.iI then 1 else if x.hi.iI<0 then -1 else 0
def jt(x y:Iv)(p:Nat):Iv:=
 if x.all||y.all||decide (nV y=0)then gY else pB (λa b up=>pA a b p up) (λa b up=>rz a b p up) x y
def qS(x y:Iv){p:Nat}(hp:1<=p)(ic:p<=4096):(jt x y p).ib:=by
 unfold jt;split
 .exact mg
 .refine U7 (λa b up=>?_) (λh1 h2=>?_)
  .unfold pA;split
   .exact su
   .exact ua _ _ _ _ _ _ hp ic
  .unfold pA rz at *
   split
   .exact Dm _
   .rename_i h;rw[bj h]at h1 h2;exact TD _ _ _ _ _ h1 h2
def kU(d:Dy):Dy:=⟨false,d.m,d.e⟩
def vy{d:Dy}(h:d.ib):(kU d).ib:=by
 refine⟨?_,h.range⟩;rcases h.canon with⟨h1,_,h3⟩|h1
 .exact .inl ⟨h1,rfl,h3⟩
 .exact .inr h1
def ab2(d:Dy)(k:Int):(kU d).num k=(d.jO k:Int):=by unfold Dy.num kU Dy.jO;simp
def iR(x:Iv):Dy:=iW (kU x.lo) (kU x.hi)
def pt(x:Iv):Dy:=if nV x=0 then iA else jj (kU x.lo) (kU x.hi)
def ke(x:Iv):Iv:=if x.all then gY else⟨pt x,iR x,false⟩
def mJ(d:Dy):Iv:=⟨d,d,false⟩
def wA{d:Dy}(h:d.ib):(mJ d).ib:=.inr ⟨rfl,h,h,Dm d⟩
def Dt{x:Iv}(h1:x.lo.ib)(h2:x.hi.ib):(iR x).ib:=vf (vy h1) (vy h2)
def Jb{x:Iv}(h:x.ib):(ke x).ib:=by
 unfold ke;rcases h with⟨h,_⟩|⟨h,h1,h2,_⟩
 .rw [h];exact mg
 .rw [h];have v1:=vy h1;have v2:=vy h2;refine .inr ⟨rfl,?_,Dt h1 h2,?_⟩
  .show (pt x).ib;unfold pt;split
   .exact su
   .exact yb v1 v2
  .show iL (pt x) (iR x)<=0;unfold pt;split
   .refine le_trans (b:=kU x.lo) ?_ (E6 _ _);rw[qJ (a:=iA) (b:=kU x.lo) (k:=x.lo.e) (.inl rfl) (.inr (cE _)),xk rfl,ab2];omega
   .exact le_trans (Ht _ _) (E6 _ _)
def ja(n:Int):Dy:=ki n 0
def jv(n:Int):Iv:=mJ (ja n)
end Go.Proofs.YtgdahmmlddfimaaGreatDoor.Fp
namespace Go.Proofs.YtgdahmmlddfimaaGreatDoor
open Go.RowKit Fp Pu
def iO(x:Iv):List E:=[bP x.lo.neg,ia (gW x.lo.m),iP x.lo.e,bP x.hi.neg,ia (gW x.hi.m),iP x.hi.e,bP x.all]
def ij(x:Iv):E:=.agg (iO x)
def ig(l:List Iv):E:=.sl true l.length 7 λi j=>(iO (l.getD i gY)).getD j .any
def kX(m:List (List Iv)):E:=.sl true m.length 1 λi _=>ig (m.getD i [])
def BI(x y:Iv):Bool:=y.all||(!x.all&&(decide (iL y.lo x.lo<=0)&&decide (iL x.hi y.hi<=0)))
def DA:E.le (.v (.slice none 0 0)) (ia (gW 0)):=by
 have:ia (gW 0) = .sl false 0 1 λi _=>.v (.int .u32 (((gW 0).getD i 0:Nat):Int)):=by unfold ia;rw[oz];rfl
 rw[this];exact .nil _ _ _
def Mj:E.le (.agg [bP false,.v (.slice none 0 0),iP 0,bP false,.v (.slice none 0 0),iP 0,bP true]) (ij gY):=
 .agg (.cons (.refl _) (.cons DA (.cons (.refl _) (.cons (.refl _) (.cons DA (.cons (.refl _) (.cons (.refl _) .nil)))))))
structure RD where
 neg:Bool
 L:List Nat
 e:Int
structure RI where
 lo:RD
 hi:RD
 all:Bool
def Zn(d:RD):List E:=[bP d.neg,ia d.L,iP d.e]
def qk(d:RD):E:=.agg (Zn d)
def AE(x:RI):List E:=[bP x.lo.neg,ia x.lo.L,iP x.lo.e,bP x.hi.neg,ia x.hi.L,iP x.hi.e,bP x.all]
def wC(x:RI):E:=.agg (AE x)
def Fz:RD:=⟨false,[],0⟩
def jP:RI:=⟨Fz,Fz,true⟩
def jH(l:List RI):E:=.sl true l.length 7 λi j=>(AE (l.getD i jP)).getD j .any
structure RD.jV(d:RD):Prop where
 ok:iK d.L
 lo:-9223372036854775808<=d.e
 hi:d.e<=9223372036854775807
structure RI.jV(x:RI):Prop where
 lo:x.lo.jV
 hi:x.hi.jV
def ZZ:Fz.jV:=⟨iK.nil,aG,aG⟩
def LM:jP.jV:=⟨ZZ,ZZ⟩
def RD.dy(d:RD):Dy:=⟨d.neg,val d.L,d.e⟩
def RD.Ok(d:RD):Prop:=pe d.neg d.L d.e
def RD.Zero(d:RD):Prop:=d.neg=false/\d.L=[]/\d.e=0
def RI.iv(x:RI):Iv:=⟨x.lo.dy,x.hi.dy,x.all⟩
def RI.Ok(x:RI):Prop:=(x.all=true/\x.lo.Zero/\x.hi.Zero)\/(x.all=false/\x.lo.Ok/\x.hi.Ok/\iL x.lo.dy x.hi.dy<=0)
def Fp.Dy.raw(d:Dy):RD:=⟨d.neg,gW d.m,d.e⟩
def Fp.Iv.raw(x:Iv):RI:=⟨x.lo.raw,x.hi.raw,x.all⟩
def RD.Ok.valid{d:RD}(h:d.Ok):d.dy.ib:=h.2.2
def RD.Ok.eq{d:RD}(h:d.Ok)(g:d.jV):d.dy.raw=d:=by
 obtain⟨n,L,e⟩:=d;show RD.mk n (gW (val L)) e=_;rw[<-pe.Eo h g.ok]
def RD.Zero.eq{d:RD}(h:d.Zero):d.dy=iA/\d.dy.raw=d:=by
 obtain⟨n,L,e⟩:=d;obtain⟨rfl,rfl,rfl⟩:=h;refine⟨rfl,?_⟩;show RD.mk false (gW 0) 0=_;rw[oz]
def RI.Ok.valid{x:RI}(h:x.Ok):x.iv.ib:=by
 rcases h with⟨h1,h2,h3⟩|⟨h1,h2,h3,h4⟩
 .exact .inl ⟨h1,h2.eq.1,h3.eq.1⟩
 .exact .inr ⟨h1,h2.valid,h3.valid,h4⟩
def RI.Ok.eq{x:RI}(h:x.Ok)(g:x.jV):x.iv.raw=x:=by
 obtain⟨lo,hi,a⟩:=x;rcases h with⟨h1,h2,h3⟩|⟨h1,h2,h3,h4⟩
 .show RI.mk lo.dy.raw hi.dy.raw a=_;rw[h2.eq.2,h3.eq.2]
 .show RI.mk lo.dy.raw hi.dy.raw a=_;rw[h2.eq g.lo,h3.eq g.hi]
def Fp.Dy.Qr(d:Dy):d.raw.dy=d:=by show Dy.mk d.neg (val (gW d.m)) d.e=d;rw[kq]
def afP(d:Dy):qk d.raw=gZ d:=rfl
def KT(x:Iv):wC x.raw=ij x:=rfl
def Fp.Dy.ib.J4{d:Dy}(h:d.ib):d.raw.jV:=⟨ml _,by have:=h.exp;show -9223372036854775808<=d.e;omega,by have:=h.exp;show d.e<=9223372036854775807;omega⟩
def Fp.Dy.ib.Lg{d:Dy}(h:d.ib):d.raw.Ok:=h.wP
def Fp.Iv.ib.Lg{x:Iv}(h:x.ib):x.raw.Ok:=by
 rcases h with⟨h1,h2,h3⟩|⟨h1,h2,h3,h4⟩
 .refine .inl ⟨h1,?_,?_⟩
  .show x.lo.raw.Zero;rw[h2];exact⟨rfl,oz,rfl⟩
  .show x.hi.raw.Zero;rw[h3];exact⟨rfl,oz,rfl⟩
 .refine .inr ⟨h1,h2.Lg,h3.Lg,?_⟩;show iL x.lo.raw.dy x.hi.raw.dy<=0;rw[Dy.Qr,Dy.Qr];exact h4
def Fp.Iv.ib.ko{x:Iv}(h:x.ib):x.lo.ib/\x.hi.ib:=by
 rcases h with⟨_,h2,h3⟩|⟨_,h2,h3,_⟩
 .rw [h2,h3];exact⟨su,su⟩
 .exact ⟨h2,h3⟩
def Fp.Iv.ib.J4{x:Iv}(h:x.ib):x.raw.jV:=⟨h.ko.1.J4,h.ko.2.J4⟩
def apq:gY.raw=jP:=by
 show RI.mk iA.raw iA.raw true=RI.mk Fz Fz true;have:iA.raw=Fz:=by show RD.mk false (gW 0) 0=_;rw[oz];rfl
 rw[this]
def DI(l:List Iv):List RI:=l.map Iv.raw
def agT(l:List Iv)(i:Nat):(DI l).getD i jP=(l.getD i gY).raw:=by
 unfold DI;rw[bw,bw,cF];cases l[i]? with
 |none=>exact apq.symm
 |some x=>rfl
def W4(l:List Iv):jH (DI l)=ig l:=by
 unfold jH ig;rw[show(DI l).length=l.length by simp[DI]];congr 1;funext i j;rw[agT];rfl
def RF(m:List (List RI)):Prop:=∀ r,r ∈ m->∀ x,x ∈ r->x.jV
def RF.at{m:List (List RI)}(h:RF m)(i j:Nat):((m.getD i []).getD j jP).jV:=by
 by_cases hi:i<m.length
 .rw [bw (l:=m),bF hi];show(m[i].getD j jP).jV;by_cases hj:j<m[i].length
  .rw [bw,bF hj];exact h _ (cG hi) _ (cG hj)
  .rw [bw,ch aE];exact LM
 .rw [bw (l:=m),ch aE];exact LM
def zV(d:RD)(g:d.jV)(b:Bool)(hb:b=true↔d.Ok):gV 91 [qk d] (bP b):=by
 refine⟨call91,λw B vs hK hB hr=>?_⟩;obtain⟨v1,vs,rfl,h1,hr⟩:=hr.mG;obtain rfl:=hr.rj;obtain⟨us,rfl,q⟩:=iD.Cm (show iD _ _ w (.agg _) v1 from h1);obtain⟨u1,us,rfl,k1,q⟩:=q.mG;obtain⟨u2,us,rfl,k2,q⟩:=q.mG;obtain⟨u3,us,rfl,k3,q⟩:=q.mG;obtain rfl:=q.rj;obtain rfl:=iD.kJ k1;obtain rfl:=iD.kJ k3;obtain⟨A,c,rfl,hs⟩:=xv g.ok k2;exact(CA d.neg A c d.L d.e w b hs g.lo g.hi hb).mono λe w' h=>rv B w e w' hB h
def Lz(d:RD)(g:d.jV)(b:Bool)(hb:b=true↔d.Ok):gV 74 [qk d] (bP b):=by
 refine⟨call74,λw B vs hK hB hr=>?_⟩;obtain⟨v1,vs,rfl,h1,hr⟩:=hr.mG;obtain rfl:=hr.rj;obtain⟨us,rfl,q⟩:=iD.Cm (show iD _ _ w (.agg _) v1 from h1);obtain⟨u1,us,rfl,k1,q⟩:=q.mG;obtain⟨u2,us,rfl,k2,q⟩:=q.mG;obtain⟨u3,us,rfl,k3,q⟩:=q.mG;obtain rfl:=q.rj;obtain rfl:=iD.kJ k1;obtain rfl:=iD.kJ k3;obtain⟨A,c,rfl,hs⟩:=xv g.ok k2;exact(LA d.neg A c d.L d.e w b hs g.lo g.hi hb).mono λe w' h=>rv B w e w' hB h
def wk{a b:Nat}(h:a=b):((a:Int) != (b:Int))=false:=by simp[h]
def PR{a b:Nat}(h:a=b):((a:Int)==b)=true:=by simp[h]
open Classical in
noncomputable def nU(x:RI):Bool:=decide x.Ok
def uC{x:RI}:nU x=true↔x.Ok:=by unfold nU;simp
open Classical in
open Go.ChangeShapes Go.WideShapes Go.ChangeAt
abbrev nv:Nat->Prop:=λ_=>False
def aeF{W:World}{a:Addr}{v:Value}(h:W.cell? a=some v):a.spot=none:=by
 obtain⟨b,o,s⟩:=a;rcases s with _|q
 .rfl
 .exfalso;unfold World.cell? at h;split at h<;>simp at h
def QE{W:World}{a:Addr}{len cap sz:Nat}{nl:Bool}(el:Nat->Nat->E)(hl:len<=cap)(hm:cap<=maxLen)(lk:0<sz)
 (h1:∀ i j,i<len->j<sz->(el i j).one=true/\(nl=true->(el i j).nE=true)/\(el i j).nr 2=true)
 (hx:∀ i,i<len->∃ cs,W.cells? 0 (a.add (i*sz)) sz=some cs/\∀ j,j<sz->∃ v,cs[j]? = some v/\iD nv nv W (el i j) v):
 iD nv nv W (.sl nl len sz el) (.slice (some a) len cap):=by
 have V8:cap<=9223372036854775807:=by simpa[maxLen]using hm
 have cellAt:∀ i j,i<len->j<sz->∃ v,W.cell? (a.add (i*sz+j))=some v/\iD nv nv W (el i j) v:=by
  intro i j hi hj;obtain⟨cs,h2,h3⟩:=hx i hi;obtain⟨v,h4,h5⟩:=h3 j hj;refine⟨v,?_,h5⟩;rw[<-Deep.add_add,(World.cells?_some h2).2.2 j hj,h4]
 by_cases h0:len=0
 .subst h0;exact .sl nl 0 sz el _ cap (λ_ _=>.bool false) aE V8 (λh=>by cases h) (λi j hi=>absurd hi aE) (λi j hi=>absurd hi aE) (λi j hi=>absurd hi aE) (λi j hi=>absurd hi aE)
 .obtain ⟨b,o,s⟩:=a;have hs:s=none:=by
   obtain⟨v,h2,_⟩:=cellAt 0 0 aE lk;rw[cM,cj,show(⟨b,o,s⟩:Addr).add 0=⟨b,o,s⟩from rfl]at h2;exact aeF h2
  subst hs;have cell2:∀ i j,∃ v:Value,i<len->j<sz->W.cell? ⟨b,o+(i*sz+j),none⟩=some v/\iD nv nv W (el i j) v:=by
   intro i j;by_cases hi:i<len
   .by_cases hj:j<sz
    .obtain ⟨v,h2,h3⟩:=cellAt i j hi hj;rw[Cl]at h2;exact⟨v,λ_ _=>⟨h2,h3⟩⟩
    .exact ⟨.bool false,λ_ h=>absurd h hj⟩
   .exact ⟨.bool false,λh=>absurd h hi⟩
  let f:Nat->Nat->Value:=λi j=>Classical.choose (cell2 i j)
  have hf:∀ i j,i<len->j<sz->W.cell? ⟨b,o+(i*sz+j),none⟩=some (f i j)/\iD nv nv W (el i j) (f i j):=λi j=>cU (cell2 i j)
  refine .sl nl len sz el _ cap f hl V8 (λh=>by cases h) (λi j hi hj=>?_) (λi j hi hj=>(h1 i j hi hj).2.2) (λi j hi hj=>?_) (λi j hi hj=>(hf i j hi hj).2)
  .exact ⟨(hf i j hi hj).2.one (h1 i j hi hj).1,λq=>(hf i j hi hj).2.nE ((h1 i j hi hj).2.1 q)⟩
  .exact ⟨b,o,rfl,id,block_lt_of_cell (hf i j hi hj).1,(hf i j hi hj).1⟩
def abT(W:World)(d:RD)(cs:List Value):Prop:=d.jV/\cs.length=3/\∀ j,j<3->∃ v,cs[j]? = some v/\iD nv nv W ((Zn d).getD j .any) v
def Ms(W:World)(x:RI)(cs:List Value):Prop:=x.jV/\cs.length=7/\∀ j,j<7->∃ v,cs[j]? = some v/\iD nv nv W ((AE x).getD j .any) v
section
variable {H:Type} {enc:TypeId×Value->H} {W:World} {fuel:Nat} {cs:List Value} {x:DataW H×List MemPlace}
def Qa(h:DataW.trod enc prog W 0 (λ_=>true) true fuel 31 cs=some x)(iC:∀ p ∈ x.2,p.block<W.heap.size):∃ d,abT W d cs:=by
 obtain⟨s,A,L,cap,e,rfl,tD,h1,h2⟩:=alf h iC;refine⟨⟨s,L,e⟩,⟨tD.ok,h1,h2⟩,rfl,λj hj=>?_⟩;rcases j with _|_|_|j
 .exact ⟨_,rfl,.v _⟩
 .exact ⟨_,rfl,Cd (w:=W) (λ_ h=>h.elim) (.refl _) tD⟩
 .exact ⟨_,rfl,.v _⟩
 .omega
def alj(h:DataW.trod enc prog W 0 (λ_=>true) true fuel 39 cs=some x)(iC:∀ p ∈ x.2,p.block<W.heap.size):∃ d,Ms W d cs:=by
 obtain⟨xs,n,rfl,rfl,hl,ng,hf⟩:=DataW.trod_struct underlying39 h;have hC:prog.cellsOf 39=7:= aI ;have hD:prog.cellsOf 31=3:= aI ;have hB:prog.cellsOf 4=1:= aI ;rw[hC]at hl;obtain⟨c0,c1,c2,c3,c4,c5,c6,rfl⟩:=aj1 hl;have h0:=hf 0 _ rfl;have h1:=hf 1 _ rfl;have h2:=hf 2 _ rfl;simp only[eJ,eK,dO]at h0 h1 h2;simp only[hD,hB,eN,eO,ep,eP]at h0 h1 h2;rw[bF (by rw[ng];decide)]at h0 h1 h2;obtain⟨lo,g1,_,k1⟩:=Qa h0 (λp hp=>iC p (dU.2 ⟨_,cG _,hp⟩));obtain⟨hi,g2,_,k2⟩:=Qa h1 (λp hp=>iC p (dU.2 ⟨_,cG _,hp⟩));obtain⟨al,e2,_⟩:=DataW.trod_bool underlying4 h2;simp at e2;subst e2;refine⟨⟨lo,hi,al⟩,⟨g1,g2⟩,rfl,λj hj=>?_⟩;rcases j with _|_|_|_|_|_|_|j
 .exact k1 0 aG 
 .exact k1 1 aG 
 .exact k1 2 aG 
 .exact k2 0 aG 
 .exact k2 1 aG 
 .exact k2 2 aG 
 .exact ⟨_,rfl,.v _⟩
 .omega
def amP(x:RI)(j:Nat)(hj:j<7):((AE x).getD j .any).one=true/\(((AE x).getD j .any).nE=true)/\((AE x).getD j .any).nr 2=true:=by
 rcases j with _|_|_|_|_|_|_|j
 all_goals first|exact⟨rfl,rfl,rfl⟩|omega
def YV(h:DataW.trod enc prog W 0 (λ_=>true) true fuel 26 cs=some x)(iC:∀ p ∈ x.2,p.block<W.heap.size):
  ∃ l v,cs=[v]/\(∀ y,y ∈ l->y.jV)/\iD nv nv W (jH l) v:=by
 have hC:prog.cellsOf 39=7:= aI ;rcases Deep.open_slice underlying26 h with⟨rfl,_⟩|⟨a,len,cap,m,n,D,Pl,rfl,hb,hl,hm,tw,rfl,hx⟩
 .exact ⟨[],_,rfl,(λy hy=>by cases hy),.sl true 0 7 _ none 0 (λ_ _=>.bool false) (bu _) aG (λ_=>rfl) (λi j hi=>absurd hi (bE i)) (λi j hi=>absurd hi (bE i)) (λi j hi=>absurd hi (bE i)) (λi j hi=>absurd hi (bE i))⟩
 .simp only[bJ]at tw;subst tw;have ex:∀ i,∃ y:RI,i<len->∃ cs',W.cells? 0 (a.add (i*7)) 7=some cs'/\Ms W y cs':=by
   intro i;by_cases hi:i<len
   .obtain ⟨cs',h1,h2⟩:=hx i aE ;rw[hC]at h1;obtain⟨y,hy⟩:=alj h2 (λp hp=>iC p (List.mem_append_right _ (dU.2 ⟨i,b5.2 aE,hp⟩)));exact⟨y,λ_=>⟨cs',h1,hy⟩⟩
   .exact ⟨jP,λh=>absurd h hi⟩
  let X:Nat->RI:=λi=>Classical.choose (ex i)
  have hX:∀ i,i<len->∃ cs',W.cells? 0 (a.add (i*7)) 7=some cs'/\Ms W (X i) cs':=λi=>cU (ex i)
  have hlen:((List.range len).map X).length=len:= aK ;refine⟨(List.range len).map X,_,rfl,?_,?_⟩
  .intro y hy;obtain⟨i,hi,rfl⟩:=dv.1 hy;obtain⟨cs',_,h2⟩:=hX i (b5.1 hi);exact h2.1
  .have CS:∀ i,i<len->((List.range len).map X).getD i jP=X i:=by
    intro i hi;rw[bw,cF,aqN hi];rfl
   have:=QE (W:=W) (a:=a) (len:=len) (cap:=m) (nl:=true) (λi j=>(AE (((List.range len).map X).getD i jP)).getD j .any) hl hm (show 0<7 by decide)
    (λi j _ hj=>let⟨h1,h2,h3⟩:=amP (((List.range len).map X).getD i jP) j hj;⟨h1,λ_=>h2,h3⟩)
    (λi hi=>by
     obtain⟨cs',h1,h2,_,h3⟩:=hX i hi;exact⟨cs',h1,λj hj=>by rw[CS i hi];exact h3 j hj⟩)
   unfold jH;rw[hlen];exact this
end
def ahr{P:Program}{c:OpenClaim}(h:P.funcs.any Func.goes=false)(hs:c.start = .entering):false=c.goesBy P:=by
 have h1:∀ g:Nat,(P.funcs[g]?).any Func.goes=false:=by
  intro g;cases hg:P.funcs[g]? with
  |none=>rfl
  |some fn=>
   rw[Option.any_some];rw[Array.any_eq_false]at h;obtain⟨hl,he⟩:=de.1 hg;have:=h g hl;rw[he]at this;simpa using this
 have h2:∀ f,P.goes f=false:=by
  intro f;unfold Program.goes;rw[h,Bool.and_false,fA,dp];intro g _;rw[h1 g];decide
 unfold OpenClaim.goesBy Program.goesAt Program.goesFrom;rw[hs];cases P.funcNamed c.func with
 |none=>rfl
 |some f=>simp[h2 f]
def agB:Tryz.pinned.checked.prog.funcs.any Func.goes=false:= aI 
def WR(k:IntKind)(l:List Int):E:=.sl true l.length 1 λi _=>.v (.int k (l.getD i 0))
def abB{k:IntKind}{z:Int}(h:(Lit.int k z).wf=true):ku k z:=by
 cases k<;>(simp[Lit.wf,IntKind.min,IntKind.max,IntKind.signed,IntKind.bits]at h;simp only[ku];omega)
def alg{H:Type}{enc:TypeId×Value->H}{W:World}{fuel:Nat}{cs:List Value}{x:DataW H×List MemPlace}{t e:TypeId}{k:IntKind}(hk:∀ z,rf (.int k z)=false)(ht:prog.underlying t=some (.slice e))(he:prog.underlying e=some (.int k))(hC:prog.cellsOf e=1)
  (h:DataW.trod enc prog W 0 (λ_=>true) true fuel t cs=some x):∃ l v,cs=[v]/\(∀ z,z ∈ l->ku k z)/\iD nv nv W (WR k l) v:=by
 rcases Deep.open_slice ht h with⟨rfl,_⟩|⟨a,len,cap,m,n,D,Pl,rfl,hb,hl,hm,tw,rfl,hx⟩
 .exact ⟨[],_,rfl,(λy hy=>by cases hy),.sl true 0 1 _ none 0 (λ_ _=>.bool false) (bu _) aG (λ_=>rfl) (λi j hi=>absurd hi (bE i)) (λi j hi=>absurd hi (bE i)) (λi j hi=>absurd hi (bE i)) (λi j hi=>absurd hi (bE i))⟩
 .simp only[bJ]at tw;subst tw;have ex:∀ i,∃ z:Int,i<len->W.cells? 0 (a.add (i*1)) 1=some [.int k z]/\ku k z:=by
   intro i;by_cases hi:i<len
   .obtain ⟨cs',h1,h2⟩:=hx i aE ;rw[hC]at h1;obtain⟨z,hz,_,hw⟩:=DataW.trod_int he h2;subst hz;exact⟨z,λ_=>⟨h1,abB hw⟩⟩
   .exact ⟨0,λh=>absurd h hi⟩
  let X:Nat->Int:=λi=>Classical.choose (ex i)
  have hX:∀ i,i<len->W.cells? 0 (a.add (i*1)) 1=some [.int k (X i)]/\ku k (X i):=λi=>cU (ex i)
  have hlen:((List.range len).map X).length=len:= aK ;refine⟨(List.range len).map X,_,rfl,?_,?_⟩
  .intro r hr;obtain⟨i,hi,rfl⟩:=dv.1 hr;exact(hX i (b5.1 hi)).2
  .have CS:∀ i,i<len->((List.range len).map X).getD i 0=X i:=by
    intro i hi;rw[bw,cF,aqN hi];rfl
   have:=QE (W:=W) (a:=a) (len:=len) (cap:=m) (nl:=true) (λi _=>.v (.int k (((List.range len).map X).getD i 0))) hl hm (show 0<1 by decide)
    (λi j _ hj=>⟨rfl,λ_=>by show(!rf _)=true;rw[hk];rfl,rfl⟩)
    (λi hi=>by
     refine⟨[.int k (X i)],(hX i hi).1,λj hj=>?_⟩;obtain rfl:j=0:= aE ;exact⟨_,rfl,by rw[CS i hi];exact .v _⟩)
   unfold WR;rw[hlen];exact this
end Go.Proofs.YtgdahmmlddfimaaGreatDoor
