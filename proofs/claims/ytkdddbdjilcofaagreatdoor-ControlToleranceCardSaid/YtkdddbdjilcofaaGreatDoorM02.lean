/- Lemmas that the last file uses. -/
import Derived.Test.YtkdddbdjilcofaaGreatDoorM01
import Derived.Deep.DeepCutAuto
import Derived.Deep.Slices
import Derived.Carry
set_option linter.unusedSimpArgs false
set_option linter.unusedVariables false
set_option linter.defProp false
set_option maxHeartbeats 4000000
open Go.Proofs.Tryz
namespace Go.Proofs.YtkdddbdjilcofaaGreatDoor.Pu
open Go.RowKit
section
variable {P:Program} {K:World->Prop} {T:List TI} {O:pR} {w0:World} {B:Nat->Prop} {σ τ:PS} {o:Oper} {a:Act} {w:World} {L:Lk} {u:ku} {gT:Array Oper}
def Y4(r:iT w0 B σ a w L){b:Bool}(h:zL gT σ o=some b):Region.wanted o (yielded gT a.tmps)=b:=by
 unfold zL at h;unfold Region.wanted;split at h
 .rename_i hg;rw[hg];simpa using h
 .rename_i j want hg;rw[hg];simp only;split at h
  .rename_i t ht;have hv:=r.ht t;have key:∀ q:Bool,σ.get t = .e (.v (.bool q))->yielded gT a.tmps j=some q:=by
    intro q hq;rw[hq]at hv;have hv:=ix.kz hv;unfold yielded;rw[ht];simp only[Option.bind_some];have im:a.tmps[t]? = some (.bool q):=by
     by_cases hs:t<a.tmps.size
     .simpa [hs]using hv
     .simp [hs,undef]at hv
    rw[im]
   split at h
   .rename_i hq;rw[key true hq];simp only[bu]at h;subst h;cases want<;>rfl
   .rename_i hq;rw[key false hq];simp only[bu]at h;subst h;cases want<;>rfl
   .rename_i q hq;rw[hq]at hv;have hv:=ix.kz hv;have hn:yielded gT a.tmps j=none:=by
     unfold yielded;rw[ht];simp only[Option.bind_some];by_cases hs:t<a.tmps.size
     .rw [show a.tmps[t]? = some (.tuple q)by simpa[hs]using hv]
     .simp [hs]
    rw[hn];simp only[bu]at h;subst h;cases want<;>rfl
   .cases h
  .cases h
def Su(hT:mf P T)(g:Gd P K w0 B)(r:iT w0 B σ a w L)(h:rz P K T O gT σ o=some u)(ho:∀ q,q ∈ u.jr->q)(Kc:Act->World->Prop)(Q:Exit->Act->World->Prop)
 (hk:∀ a' w' L',iT w0 B (σ.app o.dst u) a' w' L'->Kc a' w'):
 (Region.wanted o (yielded gT a.tmps)=true/\o.wp P a w Kc Q)\/(Region.wanted o (yielded gT a.tmps)=false/\Kc (a.put o.dst undef) w):=by
 obtain⟨hi,_,⟨hw,u0,h0,rfl⟩|⟨hw,rfl⟩⟩:=E8 h
 .refine .inl ⟨Y4 r hw,adx hT g r h0 ho Kc Q λv w' L' hr hp=>hk _ w' L' ?_⟩;have mo:vX (σ.nL u0.f) o.dst=true:=by cases hd:o.dst<;>rw[hd]at hi<;>exact hi
  exact hr.put o.dst u0.r v mo hp
 .exact .inr ⟨Y4 r hw,hk _ w L (r.put o.dst (.e (.v (.tuple #[]))) undef hi (.v _))⟩
structure Left(gT:Array Oper)(listed:Array Bool)(R:List (Nat×Oper×ku)):Prop where
 mA:∀ x,x ∈ R->gT[x.1]? = some x.2.1/\listed.getD x.1 true=false
 all:∀ i,i<gT.size->listed.getD i true=false->∃ x,x ∈ R/\x.1=i
 pw:R.Pairwise λx y=>x.1<y.1/\(A6 gT 3 y.2.1 x.1||Ch gT x.2 y.2)=true
 ed:∀ x,x ∈ R->∀ e,e ∈ x.2.1.after->Region.binds .any e=true->e.on<x.1
 up:∀ x,x ∈ R->∀ j z,gT[j]? = some z->Cj z x.1=true->listed.getD j true=false
def Left.A6{listed:Array Bool}{R:List (Nat×Oper×ku)}(h:Left gT listed R){x:Nat×Oper×ku}(hx:x ∈ R):∀ (n:Nat) (j:Nat) (z:Oper),gT[j]? = some z->Pu.A6 gT n z x.1=true ->
 listed.getD j true=false/\∃ e,e ∈ z.after/\Region.binds .any e=true/\listed.getD e.on true=false/\e.on<gT.size:=by
 have direct:∀ (j:Nat) (z:Oper),gT[j]? = some z->Cj z x.1=true->listed.getD j true=false/\∃ e,e ∈ z.after/\Region.binds .any e=true/\listed.getD e.on true=false/\e.on<gT.size:=by
  intro j z hz he;refine⟨h.up x hx j z hz he,?_⟩;unfold Cj at he;obtain⟨e,mn,lk⟩:=dJ.1 he;simp only[bF]at lk;have sB:=h.mA x hx;refine⟨e,by simpa using mn,lk.1,?_,?_⟩
  .rw [kK.1 lk.2];exact sB.2
  .rw [kK.1 lk.2];exact(cS.1 sB.1).1
 intro n
 induction n with
 |zero=>exact direct
 |succ n ih=>
  intro j z hz hr;simp only[Pu.A6,dx]at hr;rcases hr with hr|hr
  .exact direct j z hz hr
  .obtain ⟨e,mn,lk⟩:=dJ.1 hr;simp only[bF]at lk;obtain⟨lk,MB⟩:=lk;split at MB
   .rename_i z' xO;obtain⟨k1,_⟩:=ih e.on z' xO MB;have im:=(cS.1 xO).1;obtain⟨x',AD,DM⟩:=h.all e.on im k1;refine⟨h.up x' AD j z hz ?_,e,by simpa using mn,lk,k1,im⟩;unfold Cj;refine dJ.2 ⟨e,mn,?_⟩;rw[lk,DM];simp
   .cases MB
def OQ{md:Region.Mode}{listed:Array Bool}{i:Nat}:i ∈ Region.ready md gT listed↔i<gT.size/\listed.getD i true=false/\∃ o,gT[i]? = some o/\∀ e,e ∈ o.after->Region.binds md e=true->listed.getD e.on false=true:=by
 unfold Region.ready;rw[List.mem_filter];simp only[bW,bF,dI];constructor
 .rintro ⟨h1,h2,h3⟩;refine⟨h1,h2,gT[i],by simp[h1],λe he hb=>?_⟩;rw[Array.getElem?_eq_getElem h1]at h3;simp only[cv,amS,anf]at h3;have:=h3 e he;simpa[hb]using this
 .rintro ⟨h1,h2,o,h3,h4⟩;refine⟨h1,h2,?_⟩;rw[h3];simp only[cv,amS,anf];intro e he;cases hb:Region.binds md e with
  |false=>rfl
  |true=>simpa using h4 e he hb
def ZE(hT:mf P T)(g:Gd P K w0 B){Q:Exit->Act->World->Prop}(hq:∀ a' w' L',iT w0 B τ a' w' L'->Q .normal a' w'):
 ∀ (fuel:Nat) (listed:Array Bool) (R:List (Nat×Oper×ku)) (σ:PS) (a:Act) (w:World) (L:Lk),R.length=fuel->listed.size=gT.size->Left gT listed R->(∀ x,x ∈ R->∀ q,q ∈ x.2.2.jr->q) ->
  wC P K T gT (R.map (·.2)) σ τ->iT w0 B σ a w L->wpAny P .any gT Q fuel listed a w:=by
 intro fuel
 induction fuel with
 |zero=>
  intro listed R σ a w L hlen Dz hleft ho Jo r;have hR:=di hlen;subst hR;refine⟨?_,hq a w L (r.pX Jo)⟩;apply List.eq_nil_iff_forall_not_mem.2;intro i hi;obtain⟨h1,h2,_⟩:=OQ.1 hi;obtain⟨x,hx,_⟩:=hleft.all i h1 h2;simp at hx
 |succ fuel ih=>
  intro listed R σ a w L hlen Dz hleft ho Jo r;refine⟨λBX=>?_,λi hi=>?_⟩
  .
   exfalso;cases R with
   |nil=>simp at hlen
   |cons x R=>
    have hx:=hleft.mA x aH;have im:x.1<gT.size:=(cS.1 hx.1).1;have:x.1 ∈ Region.ready .any gT listed:=OQ.2 ⟨im,hx.2,x.2.1,hx.1,λe he hb=>by
     have DF:=hleft.ed x aH e he hb;cases hl:listed.getD e.on true with
     |true=>
      have:e.on<listed.size:= aC ;simp[this]at hl ⊢;exact hl
     |false=>
      exfalso;obtain⟨y,hy,AF⟩:=hleft.all e.on aC hl;rcases cV.1 hy with hy|hy
      .subst hy;omega
      .have:=(amT.1 hleft.pw).1 y hy;omega⟩
    rw[BX]at this;simp at this
  .obtain ⟨h1,h2,o,h3,h4⟩:=OQ.1 hi;obtain⟨y,hy,hyi⟩:=hleft.all i h1 h2;subst hyi;obtain⟨A,C,rfl⟩:=List.append_of_mem hy;have Js:=hleft.mA y hy;have afm:∀ x,x ∈ A->Ch gT x.2 y.2=true:=by
    intro x hx;have hp:=(amU.1 hleft.pw).2.2 x hx y aH;rcases Bool.or_eq_true_iff.1 hp.2 with he|he
    .exfalso;obtain⟨_,e,mn,lk,mF,im⟩:=hleft.A6 (show x ∈ A++y::C by simp[hx]) 3 y.1 y.2.1 Js.1 he;have sE:o=y.2.1:=by rw[Js.1]at h3;exact(amV h3).symm
     have hl:=h4 e (by rw[sE];exact mn) lk;have pC:e.on<listed.size:=by rw[Dz];exact im
     simp[pC]at hl mF;rw[hl]at mF;cases mF
    .exact he
   rw[fC,dY]at Jo;obtain⟨⟨O,k1⟩,k2⟩:=Jo.adY (λx hx=>by
    obtain⟨z,hz,rfl⟩:=dh.1 hx;exact afm z hz)
   have afn:Left gT (listed.setIfInBounds y.1 true) (A++C):=by
    have jh:∀ x,x ∈ A++C->x.1≠y.1:=by
     intro x hx;rcases dB.1 hx with hx|hx
     .have:=((amU.1 hleft.pw).2.2 x hx y aH).1;omega
     .have:=((amT.1 (amU.1 hleft.pw).2.1).1 x hx).1;omega
    have AB:∀ x,x ∈ A++C->x ∈ A++y::C:=λx hx=>by
     rcases dB.1 hx with hx|hx<;>simp[hx]
    refine⟨λx hx=>?_,λj hj hl=>?_,?_,λx hx=>hleft.ed x (AB x hx),λx hx j z hz he=>?_⟩
    .obtain ⟨q1,q2⟩:=hleft.mA x (AB x hx);refine⟨q1,?_⟩;have pC:x.1<listed.size:=by rw[Dz];exact(cS.1 q1).1
     simp[pC]at q2 ⊢;rw[amW _ (λe=>jh x hx e.symm)];exact q2
    .have I8:j<listed.size:= aC ;by_cases Dw:j=y.1
     .subst Dw;simp[I8]at hl
     .have:listed.getD j true=false:=by
       simp[I8]at hl ⊢;rw[amW _ (λe=>Dw e.symm)]at hl;exact hl
      obtain⟨x,hx,UE⟩:=hleft.all j hj this;refine⟨x,?_,UE⟩;rcases dB.1 hx with hx|hx
      .simp [hx]
      .rcases cV.1 hx with hx|hx
       .subst hx;exact absurd UE.symm Dw
       .simp [hx]
    .exact hleft.pw.sublist (List.Sublist.append (List.Sublist.refl A) (List.sublist_cons_self y C))
    .have q:=hleft.up x (AB x hx) j z hz he;have I8:j<listed.size:=by rw[Dz];exact(cS.1 hz).1
     by_cases Dw:j=y.1
     .exfalso;subst Dw;rw[Js.1]at hz h3;cases hz;cases h3;unfold Cj at he;obtain⟨e,mn,lk⟩:=dJ.1 he;simp only[bF]at lk;have hl:=h4 e (by simpa using mn) lk.1;rw[kK.1 lk.2]at hl;have mF:=(hleft.mA x (AB x hx))
      have pC:x.1<listed.size:=by rw[Dz];exact(cS.1 mF.1).1
      have mF:=mF.2;simp[pC]at hl mF;rw[hl]at mF;cases mF
     .simp [I8]at q ⊢;rw[amW _ (λe=>Dw e.symm)];exact q
   unfold wpOp;rw[Js.1];simp only;rcases Su hT g r k1 (ho y aH) (wpAny P .any gT Q fuel (listed.setIfInBounds y.1 true)) Q (λa' w' L' hr=>ih _ (A++C) _ a' w' L' (by simp at hlen ⊢;omega) (by simpa using Dz) afn (λx hx=>ho x (by
    rcases dB.1 hx with hx|hx<;>simp[hx])) (by rw[fC];exact k2) hr)with⟨p1,p2⟩|⟨p1,p2⟩
   .rw [aZ p1];exact .inl p2
   .rw [aY (by rw[p1];simp)];exact p2
def agB{us:List (Oper×ku)}(yU:us.map (·.1)=gT.toList)(hp:D5 gT 0 us=true):
 ∃ R:List (Nat×Oper×ku),R.map (·.2)=us/\R.length=gT.size/\Left gT (Array.replicate gT.size false) R:=by
 have key:∀ (us:List (Oper×ku)) (k:Nat),D5 gT k us=true->(∀ j x,us[j]? = some x->gT[k+j]? = some x.1) ->
  ∃ R:List (Nat×Oper×ku),R.map (·.2)=us/\(∀ j x,R[j]? = some x->x.1=k+j)/\(∀ x,x ∈ R->gT[x.1]? = some x.2.1)/\(R.Pairwise λx y=>x.1<y.1/\(A6 gT 3 y.2.1 x.1||Ch gT x.2 y.2)=true) /\
   (∀ x,x ∈ R->∀ e,e ∈ x.2.1.after->Region.binds .any e=true->e.on<x.1):=by
  intro us
  induction us with
  |nil=>exact λk _ _=>⟨[],rfl,λj x h=>by simp at h,λx h=>by simp at h,List.Pairwise.nil,λx h=>by simp at h⟩
  |cons x us ih=>
   intro k hp sB;simp only[D5,bF]at hp;obtain⟨R,r1,r2,r3,r4,r5⟩:=ih (k+1) hp.2 (λj y hy=>by have:=sB (j+1) y (by simpa using hy);rwa[(aC:k+(j+1)=k+1+j)]at this);have qX:∀ y,y ∈ R->k<y.1/\y.2 ∈ us:=by
    intro y hy;obtain⟨j,hj⟩:=dq.1 hy;have:=r2 j y hj;exact⟨aC,by rw[<-r1];exact dh.2 ⟨y,hy,rfl⟩⟩
   refine⟨(k,x)::R,by simp[r1],λj y hy=>?_,λy hy=>?_,?_,λy hy=>?_⟩
   .cases j with
    |zero=>simp at hy;subst hy;rfl
    |succ j=>have:=r2 j y (by simpa using hy);omega
   .rcases cV.1 hy with hy|hy
    .subst hy;have:=sB 0 x rfl;simpa using this
    .exact r3 y hy
   .rw [amT];refine⟨λy hy=>⟨(qX y hy).1,?_⟩,r4⟩;exact bN.1 hp.1.2 y.2 (qX y hy).2
   .rcases cV.1 hy with hy|hy
    .subst hy;intro e he hb;have:=bN.1 hp.1.1 e (by simpa using he);simpa[hb]using this
    .exact r5 y hy
 obtain⟨R,r1,r2,r3,r4,r5⟩:=key us 0 hp (λj x hx=>by
  rw[bZ];have:=congrArg (·[j]?) yU;simp only[cr,hx,cv]at this;simpa using this.symm)
 have hlen:R.length=gT.size:=by
  have h1:=congrArg List.length r1;have h2:=congrArg List.length yU;simp at h1 h2;omega
 refine⟨R,r1,hlen,λx hx=>⟨r3 x hx,?_⟩,λi hi _=>?_,r4,r5,λx hx j z hz _=>by have:=(cS.1 hz).1;simp[this]⟩
 .have:=(cS.1 (r3 x hx)).1;simp[this]
 .have mo:i<R.length:= aC ;exact⟨R[i],cz mo,by have:=r2 i R[i] (bt mo);omega⟩
end
def PS.le(σ τ:PS):Prop:=∀ (w0:World) (B:Nat->Prop) (a:Act) (w:World) (L:Lk),(∀ b,B b->b<w0.heap.size)->iT w0 B σ a w L->∃ L',iT w0 B τ a w L'
def PS.le.refl(σ:PS):PS.le σ σ:=λ_ _ _ _ L _ r=>⟨L,r⟩
def PS.le.trans{σ τ υ:PS}(h:PS.le σ τ)(k:PS.le τ υ):PS.le σ υ:=λw0 B a w L g r=>let⟨L',r'⟩:=h w0 B a w L g r;k w0 B a w L' g r'
def PV.le.refl(p:PV):PV.le p p:=λ_ _ _ _ _ h=>h
def Bx.le(a b:Bx):Prop:=(a.nl=true->b.nl=true)/\∀ (bs br:Nat->Prop) (L:Lk) (w:World) (id:Nat),qp bs br L w id a->qp bs br L w id b
def Bx.le.refl(a:Bx):Bx.le a a:=⟨id,λ_ _ _ _ _ h=>h⟩
def xk(σ:PS):List (Nat×PV)->Prop
 | []=>True
 | (k,p)::l=>PV.le (σ.get k) p/\xk σ l
def wA(σ:PS):List (Nat×Bx)->Prop
 | []=>True
 | (id,b)::l=>(∃ b',σ.bo id=some b'/\Bx.le b' b)/\wA σ l
def GF(τ:PS):Bool:=τ.t.all λx=>x.2.lI.all λid=>(look τ.b id).isSome
def NJ{α:Type}{l:List (Nat×α)}{t:Nat}{x:α}(h:look l t=some x):(t,x) ∈ l:=by
 induction l with
 |nil=>cases h
 |cons y l ih=>
  obtain⟨k,z⟩:=y;rw[uf]at h;split at h
  .rename_i e;cases h;subst e;exact .head _
  .exact .tail _ (ih h)
def xk.get{σ:PS}{l:List (Nat×PV)}(h:xk σ l){t:Nat}{p:PV}(k:look l t=some p):PV.le (σ.get t) p:=by
 induction l with
 |nil=>cases k
 |cons y l ih=>
  obtain⟨q,z⟩:=y;rw[uf]at k;split at k
  .rename_i e;cases k;subst e;exact h.1
  .exact ih h.2 k
def wA.get{σ:PS}{l:List (Nat×Bx)}(h:wA σ l){t:Nat}{b:Bx}(k:look l t=some b):∃ b',σ.bo t=some b'/\Bx.le b' b:=by
 induction l with
 |nil=>cases k
 |cons y l ih=>
  obtain⟨q,z⟩:=y;rw[uf]at k;split at k
  .rename_i e;cases k;subst e;exact h.1
  .exact ih h.2 k
def PS.le.oH{σ τ:PS}(hn:σ.n=τ.n)(jA:τ.nl=σ.nl)(hr:GF τ=true)(ht:xk σ τ.t)(hb:wA σ τ.b):PS.le σ τ:=λw0 B a w L _ r=>by
 let L':Lk:=⟨λid=>L.mj id/\(τ.bo id).isSome=true,λid x=>L.own id x/\(τ.bo id).isSome=true,L.val,L.iD⟩
 have im:rL L w L' w:=⟨bc _,λx _ ⟨id,h,_⟩=>⟨id,h⟩,λ_ _ _=>rfl⟩
 refine⟨L',r.hd,by rw[<-hn];exact r.hs,λt=>?_,λid b h=>?_,λid=>?_,λid x h=>⟨r.hn id x h.1,h.2⟩,λid x h=>r.hw id x h.1,λid id' x h k=>r.hi id id' x h.1 k.1,r.he,λh id b k=>?_⟩
 .have hg:τ.get t=((look τ.t t)).getD (.e .any):=rfl;cases hl:look τ.t t with
  |none=>rw[hg,hl];exact .any _
  |some p=>
   rw[hg,hl];have:=ht.get hl _ _ _ _ _ (r.ht t);refine mY.move im this λid hid sc=>⟨⟨sc,?_⟩,rfl,λ_=>rfl⟩
   have q:=bN.1 hr _ (NJ hl);exact bN.1 q id hid
 .obtain ⟨b',h1,h2⟩:=hb.get h;have hs:(τ.bo id).isSome=true:=by rw[h];rfl
  exact(h2.2 _ _ _ _ _ (r.hb id b' h1)).later im rfl (λx=>⟨λq=>q.1,λq=>⟨q,hs⟩⟩) (λ_=>rfl) λ_ _=>rfl
 .show L.mj id/\(τ.bo id).isSome=true↔(τ.bo id).isSome=true;refine⟨λh=>h.2,λh=>⟨(r.hv id).2 ?_,h⟩⟩;obtain⟨b,jf⟩:=fN.1 h;obtain⟨b',h1,_⟩:=hb.get jf;rw[h1];rfl
 .obtain ⟨b',h1,h2⟩:=hb.get k;exact h2.1 (r.hl (by rw[<-jA];exact h) id b' h1)
def ET(σ:PS):List Nat->List (Nat×Bx)
 | []=>[]
 |i::l=>match σ.bo i with
  |some b=>(i,b)::ET σ l
  |none=>ET σ l
def PS.cut(ts bs:List Nat)(σ:PS):PS:={ n:=σ.n,nl:=σ.nl,t:=ts.map λt=>(t,σ.get t),b:=ET σ bs }
def xk.cut(σ:PS):∀ ts:List Nat,xk σ (ts.map λt=>(t,σ.get t))
 | []=>trivial
 |_::l=>⟨PV.le.refl _,xk.cut σ l⟩
def wA.cut(σ:PS):∀ bs:List Nat,wA σ (ET σ bs)
 | []=>trivial
 |i::l=>by
  unfold ET;split
  .rename_i b h;exact⟨⟨b,h,Bx.le.refl b⟩,wA.cut σ l⟩
  .exact wA.cut σ l
def PS.le.cut{σ:PS}(ts bs:List Nat)(hr:GF (σ.cut ts bs)=true):PS.le σ (σ.cut ts bs):=PS.le.oH rfl rfl hr (xk.cut σ ts) (wA.cut σ bs)
def Ex.to:Ex->Exit
 | .normal=>.normal
 | .exit id=>.exit id
 | .ret=>.ret
def Sp(P:Program)(K:World->Prop)(c:Code)(σ:PS)(Q:Ex->PS->Prop):Prop:=
 ∀ (w0:World) (B:Nat->Prop) (a:Act) (w:World) (L:Lk),Gd P K w0 B->iT w0 B σ a w L->c.wp P (λe a' w'=>∃ ex τ L',e=ex.to/\Q ex τ/\iT w0 B τ a' w' L') a w
def Sp.mono{P:Program}{K:World->Prop}{c:Code}{σ:PS}{Q Q':Ex->PS->Prop}(h:Sp P K c σ Q)(hq:∀ e τ,Q e τ->Q' e τ):Sp P K c σ Q':=
 λw0 B a w L g r=>Code.wp_mono (λ_ _ _ ⟨ex,τ,L',h1,h2,h3⟩=>⟨ex,τ,L',h1,hq _ _ h2,h3⟩) (h w0 B a w L g r)
abbrev Lo:=List (Nat×(Ex×PS×List Nat×List Nat))
section
variable {P:Program} {K:World->Prop} {T:List TI} {O:pR} {lo:Lo}
def Sp.loop{b:Code}{Q:Ex->PS->Prop}(J:Nat->PS->Prop)(pA:∀ n σ,J n σ->Sp P K b σ (λe τ=>(e = .normal/\∃ m,m<n/\J m τ)\/(e ≠ .normal/\Q e τ))):
 ∀ n σ,J n σ->Sp P K (.loop b) σ Q:=by
 intro n0 σ0 hJ0 w0 B a0 w1 L0 g r0 bf k cs;have key:∀ n σ a w L,J n σ->iT w0 B σ a w L ->
  ∃ e a' w',(∃ ex τ L',e=ex.to/\Q ex τ/\iT w0 B τ a' w' L')/\Arrives P (lone (bf.at a (.code b :: .inLoop b::k)) cs w) bf k cs e a' w':=by
  intro n
  induction n using Nat.strongRecOn with
  |_ n ih=>
   intro σ a w L hJ r;obtain⟨e,a₁,w₁,⟨ex,υ,L2,rfl,hq,nu⟩,s9⟩:=pA n σ hJ w0 B a w L g r bf (.inLoop b::k) cs;rcases hq with⟨rfl,m,hm,Mh⟩|⟨jh,hq⟩
   .obtain ⟨e₂,a₂,w₂,MZ,Mw⟩:=ih m hm υ a₁ w₁ L2 Mh nu;exact⟨e₂,a₂,w₂,MZ,.of_steps (Steps.trans s9 (.one step_inLoop)) Mw⟩
   .cases ex with
    |normal=>exact absurd rfl jh
    |exit i=>exact⟨_,a₁,w₁,⟨.exit i,υ,L2,rfl,hq,nu⟩,.pass (x:=.inLoop b) rfl (λ_ _=>.inl (by simp[Ex.to])) s9⟩
    |ret=>exact⟨_,a₁,w₁,⟨.ret,υ,L2,rfl,hq,nu⟩,.pass (x:=.inLoop b) rfl (λ_ _=>.inl (by simp[Ex.to])) s9⟩
 obtain⟨e,a',w',hq,s9⟩:=key n0 σ0 a0 w1 L0 hJ0 r0;exact⟨e,a',w',hq,.of_steps (.one step_loop) s9⟩
def ak5{w0:World}{B:Nat->Prop}{σ:PS}{a:Act}{w:World}{L:Lk}(hB:∀ b,B b->b<w0.heap.size)(r:iT w0 B σ a w L){p:PV}{e:E}(h:GX σ p=some e){v:Value}(hv:mY (ja B L) (jx L) L w p v):
 ix B (λ_=>True) w e v:=by
 have TO:∀ id x,L.own id x->¬B x:=λid x hx hb=>by have:=hB x hb;have:=(r.hw id x hx).1;omega
 have own:∀ (v:Value) (T:TypeId) (n sz:Nat) (f:Nat->Nat->Value) (nl:Bool) (el:Nat->Nat->E) (id:Nat),nG w v T n sz f nl->(∀ x,v.ownBlock=some x->L.own id x) ->
  (∀ i j,i<n->j<sz->ix (ja B L) (jx L) w (el i j) (f i j)/\(el i j).nr 2=true)->ix B (λ_=>True) w (.sl nl n sz el) v:=by
  intro v T n sz f nl el id h1 h2 h3;rcases h1 with⟨rfl,rfl⟩|⟨b,c,cur,rfl,hg,oF,nM,mR,ki,jA⟩
  .exact .sl nl 0 sz el none 0 f (bc _) aE (λ_=>rfl) (λi j hi=>absurd hi (bn i)) (λi j hi=>absurd hi (bn i)) (λi j hi=>absurd hi (bn i)) (λi j hi=>absurd hi (bn i))
  .have sE:=h2 b rfl;refine .sl nl n sz el _ c f oF (by unfold maxLen at nM;omega) (λh=>by cases h) (λi j hi hj=>⟨(ki i j hi hj).2,λhn=>jA hn _ (dH (ki i j hi hj).1)⟩) (λi j hi hj=>(h3 i j hi hj).2)
    (λi j hi hj=>⟨b,0,rfl,TO id b sE,(r.hw id b sE).2,?_⟩) (λi j hi hj=>((h3 i j hi hj).1.pZ (λ_ h=>.inl h) (λ_ h=>h)).nr 2 (h3 i j hi hj).2)
   rw[bZ];simp only[World.cell?,hg];simpa using(ki i j hi hj).1
 cases p with
 |e x=>
  simp only[GX]at h;split at h
  .rename_i hn;cases h;exact(ix.pZ (bs':=B) (br':=jx L) (λ_ h=>.inl h) (λ_ h=>h) hv).nr 3 hn
  .cases h
 |own id=>
  obtain⟨_,rfl⟩:=hv;simp only[GX]at h;split at h
  .rename_i nl T n sz el jf;cases h;obtain⟨f,h1,h2,h3⟩:=r.hb id _ jf;exact own _ T n sz f nl el id h1 (λx hx=>(h2 x).2 hx) h3
  .rename_i nl T1 T0 n sz len el jf;cases h;rcases r.hb id _ jf with⟨h1,h2,_⟩|iW
   .subst h2;rw[h1];exact .sl true 0 1 _ none 0 (λ_ _=>undef) (bc _) aE (λ_=>rfl) (λi j hi=>absurd hi (bn i)) (λi j hi=>absurd hi (bn i)) (λi j hi=>absurd hi (bn i)) (λi j hi=>absurd hi (bn i))
   obtain⟨b,c,cur,f,h1,h2,h3,h4,h5,h6,h7,h8,h9,pT,rS⟩:=iW;have sE:L.own id b:=(h9 b).2 (.inl rfl);rw[h1];refine .sl true n 1 _ _ c (λk _=>L.iD id k) h3 (by unfold maxLen at h4;omega) (λh=>by cases h) (λk j hk hj=>?_) (λk j hk hj=>rfl)
    (λk j hk hj=>⟨b,0,rfl,TO id b sE,(r.hw id b sE).2,?_⟩) (λk j hk hj=>own _ T0 (len k) sz (f k) nl (el k) id (h8 k hk).1 (λx hx=>(h9 x).2 (.inr ⟨k,hk,hx⟩)) (h8 k hk).2)
   .obtain ⟨_,q1,q2⟩:=(h8 k hk).1.head;exact⟨q1,λ_=>q2⟩
   .rw [bZ,b5];obtain rfl:j=0:= aC ;simp only[World.cell?,h2];simpa using h6 k hk aH 
  .cases h
 |iD id k=>
  obtain⟨_,rfl⟩:=hv;simp only[GX]at h;split at h
  .rename_i nl T1 T0 n sz len el jf;split at h
   .rename_i hk;have hk:k<n:=by simpa[fF]using hk
    cases h;obtain⟨b,c,cur,f,h1,h2,h3,h4,h5,h6,h7,h8,h9,pT,rS⟩:=(r.hb id _ jf).wq aC;exact own _ T0 (len k) sz (f k) nl (el k) id (h8 k hk).1 (λx hx=>(h9 x).2 (.inr ⟨k,hk,hx⟩)) (h8 k hk).2
   .cases h
  .cases h
 |_=>cases h
def CG(tmps:Array Value):ResultVar->Sem Value
 | .tmp t=>Pure.pure (tmps.getD t undef)
 | .cell q t=>do loadVar t (<-asAddr (tmps.getD q undef))
def OW(fn:Func)(tmps:Array Value):results fn tmps=(do
 let vs <-fn.results.mapM (CG tmps)
 Pure.pure (if h:vs.size=1 then vs[0]else .tuple vs)):=by
 unfold results;congr 1
def ajc{w0:World}{B:Nat->Prop}{σ:PS}{a:Act}{w:World}{L:Lk}(hT:mf P T)(hB:∀ b,B b->b<w0.heap.size)(r:iT w0 B σ a w L){x:ResultVar}{e:E}(h:OV T σ x=some e):
 ∃ v,(CG a.tmps x).run P w = .ok v w/\ix B (λ_=>True) w e v:=by
 cases x with
 |tmp t=>exact⟨_,rfl,ak5 hB r h (r.ht t)⟩
 |cell q t=>
  simp only[OV]at h;split at h
  .rename_i ti qB;split at h
   .rename_i l is M0;obtain⟨b,of,vs,e1,h1,h2,h3⟩:=r.read (r.ht q) M0 (λq hq=>by simp at hq);by_cases ha:ti.isAgg=true
    .rw [aZ ha]at h;split at h
     .rename_i hn;cases h;refine⟨.agg vs.toArray,?_,(ix.pZ (bs':=B) (br':=jx L) (λ_ h=>.inl h) (λ_ h=>h) h1.agg).nr 3 hn⟩;simp only[CG,e1,asAddr,Sem.run_bind,Sem.run_pure,Result.andThen_ok,Xz hT w qB ha b of vs h2 h3]
     .cases h
    .rw [aY ha]at h;split at h
     .rename_i y;split at h
      .rename_i hn;cases h;obtain⟨z,zs,rfl,hz,_⟩:=h1.nj;refine⟨z,?_,(ix.pZ (bs':=B) (br':=jx L) (λ_ h=>.inl h) (λ_ h=>h) hz).nr 3 hn⟩;simp only[CG,e1,asAddr,Sem.run_bind,Sem.run_pure,Result.andThen_ok,O9 hT w qB (by simpa using ha) b of z (by simpa using h3 0 z rfl)]
      .cases h
     .cases h
   .cases h
  .cases h
def aja{w0:World}{B:Nat->Prop}{σ:PS}{a:Act}{w:World}{L:Lk}(hT:mf P T)(hB:∀ b,B b->b<w0.heap.size)(r:iT w0 B σ a w L){l:List ResultVar}{es:List E}(h:Ec T σ l=some es):
 ∃ vs,(l.mapM (CG a.tmps)).run P w = .ok vs w/\j9 B (λ_=>True) w es vs:=by
 induction l generalizing es with
 |nil=>simp only[Ec,bu]at h;subst h;exact⟨[],rfl,.nil _ _ _⟩
 |cons x l ih=>
  simp only[Ec]at h;split at h
  .rename_i e es' h1 h2;cases h;obtain⟨v,q1,q2⟩:=ajc hT hB r h1;obtain⟨vs,p1,p2⟩:=ih h2;refine⟨v::vs,?_,.cons q2 p2⟩;rw[gq];simp only[Sem.run_bind,q1,Result.andThen_ok,p1,Sem.run_pure]
  .cases h
def ajb{w0:World}{B:Nat->Prop}{σ:PS}{a:Act}{w:World}{L:Lk}(hT:mf P T)(hB:∀ b,B b->b<w0.heap.size)(r:iT w0 B σ a w L){fn:Func}{e:E}(h:Kf T fn σ=some e):
 ∃ v,(results fn a.tmps).run P w = .ok v w/\ix B (λ_=>True) w e v:=by
 unfold Kf at h;have main:∀ es,Ec T σ fn.results.toList=some es->∃ vs:List Value,(fn.results.mapM (CG a.tmps)).run P w = .ok vs.toArray w/\j9 B (λ_=>True) w es vs:=by
  intro es hes;obtain⟨vs,h1,h2⟩:=aja hT hB r hes;refine⟨vs,?_,h2⟩;rw[ang];simp only[Sem.run_map,h1,Result.andThen_ok]
 split at h
 .rename_i y hy;cases h;obtain⟨vs,h1,h2⟩:=main _ hy;obtain⟨v,vs',rfl,hv,BX⟩:=h2.nj;have:=BX.rW;subst this;refine⟨v,?_,hv⟩;rw[OW,Sem.run_bind,h1];simp
 .rename_i l jh hl;cases h;obtain⟨vs,h1,h2⟩:=main _ hl;refine⟨.tuple vs.toArray,?_,h2.ig⟩;rw[OW,Sem.run_bind,h1];have hlen:¬vs.length=1:=by
   rw[h2.len];intro e1
   match l,e1 with
   | [y],_=>exact jh y rfl
  simp[hlen]
 .cases h
def afP(args:List E):∀ (k t:Nat),look (FT k args) t=if k<=t then(args[t-k]?).map .e else none:=by
 induction args with
 |nil=>intro k t;simp[FT,look]
 |cons x l ih=>
  intro k t;simp only[FT];rw[uf,ih (k+1) t];by_cases h:k=t
  .subst h;simp
  .rw [aY h];by_cases h2:k<=t
   .rw [aZ aC,aZ h2,(aC:t-k=(t-(k+1))+1)];simp
   .rw [aY aC,aY h2]
def iT.init{B:Nat->Prop}{w:World}{fn:Func}{args:List E}{vs:List Value}(hr:j9 B (λ_=>False) w args vs)(hn:args.length<=fn.ntmps)(nl:Bool)(_hB:∀ b,B b->b<w.heap.size/\oM w b):
 iT w B (AI fn nl args) { tmps:=vs.toArray++Array.replicate (fn.ntmps-vs.toArray.size) undef,defers:=[] } w ⟨λ_=>False,λ_ _=>False,λ_=>undef,λ_ _=>undef⟩:=by
 have hlen:=hr.len;refine⟨rfl,by simp[AI];omega,λt=>?_,λid b hb=>(by cases hb),λid=>⟨λh=>h.elim,λh=>(by cases h)⟩,λ_ _ h=>h.elim,λ_ _ h=>h.elim,λ_ _ _ h=>h.elim,Below.refl _ _,λ_ id b hb=>(by cases hb)⟩;have hg:(AI fn nl args).get t=((args[t]?).map PV.e).getD (.e .any):=by
  unfold PS.get AI;rw[afP];simp
 rw[hg];by_cases ht:t<args.length
 .have DI:t<vs.length:= aC ;rw[bt ht];have hv:(vs.toArray++Array.replicate (fn.ntmps-vs.toArray.size) undef).getD t undef=vs[t]:=by
   simp[Array.getElem?_append,DI]
  show ix _ _ _ _ _;rw[hv];exact(hr.kD t _ _ (bt ht) (bt DI)).pZ (λb h=>h.elim id λ⟨_,h⟩=>h.elim) (λ_ ⟨_,h⟩=>h.elim)
 .rw [b7 aC];exact .any _
def PC.NO(hT:mf P T)(hm:P.follows .mixedOrders=true)(hp:∀ w w',K w->Below w.heap.size w w'->K w'){f:FuncId}{fn:Func}{c:Code}{args:List E}{jT:E}(wM:∀ (vs:Array Value) (w:World),(callFunc f vs).run P w = .ok (.enter f vs) w)
 (hf:P.funcs[f]? = some fn) (hb:fn.body=some c) (hn:args.length<=fn.ntmps) (nl:Bool)
 (h:Sp P K c (AI fn nl args) (λe τ=>(e = .ret\/e = .normal)/\∃ r,Kf T fn τ=some r/\∀ (bs br:Nat->Prop) (w:World) (v:Value),ix bs br w r v->ix bs br w jT v)):PC P K f args jT:=by
 refine⟨wM,λw B vs hK hB hr=>calls_of_wp hf hb ?_⟩;have wV:=iT.init (fn:=fn) hr hn nl hB;refine Code.wp_mono ?_ (h w B _ w _ ⟨hK,hp,hB⟩ wV);rintro e a' w' ⟨ex,τ,L',rfl,⟨he,r,FH,hle⟩,sf⟩;obtain⟨v,h1,h2⟩:=ajb hT (λb hb=>(hB b hb).1) sf FH;have FG:a'.defers=[]/\∃ v,(results fn a'.tmps).run P w' = .ok v w'/\∃ v',Ending.returned v = .returned v'/\Below w.heap.size w w'/\ix B (λ_=>True) w' jT v':=⟨sf.hd,v,h1,v,rfl,sf.he,hle _ _ _ _ h2⟩
 rcases he with rfl|rfl
 .exact FG
 .exact FG
def vz.NO(hT:mf P T)(hm:P.follows .mixedOrders=true)(hp:∀ w w',K w->Below w.heap.size w w'->K w'){f:FuncId}{fn:Func}{c:Code}{args:List E}(wM:∀ (vs:Array Value) (w:World),(callFunc f vs).run P w = .ok (.enter f vs) w)
 (hf:P.funcs[f]? = some fn) (hb:fn.body=some c) (hn:args.length<=fn.ntmps) (nl:Bool) {nl':Bool} {T0:TypeId} {n sz:Nat} {el:Nat->Nat->E}
 (h:Sp P K c (AI fn nl args) (λe τ=>(e = .ret\/e = .normal)/\∃ t id b,fn.results.toList=[.tmp t]/\τ.get t = .own id/\τ.bo id=some b/\∀ (bs br:Nat->Prop) (L:Lk) (w:World),qp bs br L w id b->qp bs br L w id (.row nl' T0 n sz el))):vz P K f args nl' T0 n sz el:=by
 refine⟨wM,λw B vs hK hB hr=>calls_of_wp hf hb ?_⟩;have wV:=iT.init (fn:=fn) hr hn nl hB;refine Code.wp_mono ?_ (h w B _ w _ ⟨hK,hp,hB⟩ wV);rintro e a' w' ⟨ex,τ,L',rfl,⟨he,t,id,b,FH,hg,jf,hle⟩,sf⟩;have ho:=sf.ht t;rw[hg]at ho;obtain⟨sc,hv⟩:=ho;obtain⟨f0,h1,h2,h3⟩:=hle _ _ _ _ (sf.hb id b jf);have kC:(results fn a'.tmps).run P w' = .ok (L'.val id) w':=by
  rw[OW,Sem.run_bind,ang,FH,Sem.run_map,gq];simp only[CG,Sem.run_bind,Sem.run_pure,Result.andThen_ok,List.mapM_nil,hv];simp
 have FG:a'.defers=[]/\∃ v,(results fn a'.tmps).run P w' = .ok v w'/\∃ v',Ending.returned v = .returned v'/\Below w.heap.size w w'/\∃ g,nG w' v' T0 n sz g nl'/\(∀ x,v'.ownBlock=some x->w.heap.size<=x/\x<w'.heap.size) /\
  ∀ i j,i<n->j<sz->ix (λb=>B b\/v'.ownBlock=some b) (λ_=>True) w' (el i j) (g i j)/\(el i j).nr 2=true:=by
  refine⟨sf.hd,_,kC,_,rfl,sf.he,f0,h1,λx hx=>sf.hw id x ((h2 x).2 hx),λi j hi hj=>⟨?_,(h3 i j hi hj).2⟩⟩;refine((h3 i j hi hj).1.pZ (bs':=λb=>B b\/(L'.val id).ownBlock=some b) (br':=jx L') (λb hb=>?_) (λ_ h=>h)).nr 2 (h3 i j hi hj).2;rcases hb with hb|hb
  .exact .inl hb
  .exact .inr ⟨id,(h2 b).2 hb⟩
 rcases he with rfl|rfl
 .exact FG
 .exact FG
end
def Hl(P:Program):List TI->Prop
 | []=>True
 |x::l=>(P.underlying x.id=some x.d/\P.info? x.id=some x.i)/\Hl P l
def Hl.ok{P:Program}{T:List TI}(h:Hl P T):mf P T:=by
 induction T with
 |nil=>intro x hx;simp at hx
 |cons y l ih=>
  intro x hx;rcases cV.1 hx with hx|hx
  .subst hx;exact h.1
  .exact ih h.2 x hx
def E.le(p q:E):Prop:=∀ (bs br:Nat->Prop) (w:World) (v:Value),ix bs br w p v->ix bs br w q v
def E.le.refl(p:E):E.le p p:=λ_ _ _ _ h=>h
def E.le.iM{p q:E}(h:p=q):E.le p q:=h▸E.le.refl p
def E.le.trans{p q r:E}(h:E.le p q)(k:E.le q r):E.le p r:=λ_ _ _ _ x=>k _ _ _ _ (h _ _ _ _ x)
def PV.le.e{p q:E}(h:E.le p q):aj p q:=λbs br _ w v k=>h bs br w v k
def PV.le.bool{a b:Bool}(h:a=b):aj (.v (.bool a)) (.v (.bool b)):=PV.le.e (.iM (by rw[h]))
def PV.le.int{k:IntKind}{a b:Int}(h:a=b):aj (.v (.int k a)) (.v (.int k b)):=PV.le.e (.iM (by rw[h]))
def aq(a b:Int)(h:a=b):aj (.v (.int .i64 a)) (.v (.int .i64 b)):=.int h
inductive tH:List E->List E->Prop
 |nil:tH [] []
 |cons {p q:E} {l m:List E} (h:E.le p q) (k:tH l m):tH (p::l) (q::m)
def tH.refl:∀ l:List E,tH l l
 | []=>.nil
 |p::l=>.cons (.refl p) (tH.refl l)
def tH.Ke{l m:List E}(h:tH l m){bs br:Nat->Prop}{w:World}{vs:List Value}(k:j9 bs br w l vs):j9 bs br w m vs:=by
 induction h generalizing vs with
 |nil=>exact k
 |cons h _ ih=>
  obtain⟨x,ys,rfl,h1,h2⟩:=k.nj;exact .cons (h _ _ _ _ h1) (ih h2)
def E.le.agg{l m:List E}(h:tH l m):E.le (.agg l) (.agg m):=λ_ _ _ _ k=>by
 obtain⟨vs,rfl,hr⟩:=ix.C6 k;exact(h.Ke hr).agg
def E.le.ig{l m:List E}(h:tH l m):E.le (.ig l) (.ig m):=λ_ _ _ _ k=>by
 obtain⟨vs,rfl,hr⟩:=ix.YS k;exact(h.Ke hr).ig
def E.le.nil(nl:Bool)(sz:Nat)(el:Nat->Nat->E):E.le (.v (.slice none 0 0)) (.sl nl 0 sz el):=λ_ _ _ _ k=>by
 obtain rfl:=ix.kz k;exact .sl nl 0 sz el none 0 (λ_ _=>undef) (bc _) aE (λ_=>rfl) (λi j h=>absurd h (bn i)) (λi j h=>absurd h (bn i)) (λi j h=>absurd h (bn i)) (λi j h=>absurd h (bn i))
def E.le.sl{nl:Bool}{n sz:Nat}{el el':Nat->Nat->E}(h:∀ i j,i<n->j<sz->E.le (el i j) (el' i j)/\(el' i j).nr 2=true):E.le (.sl nl n sz el) (.sl nl n sz el'):=λbs br w v k=>by
 cases k with
 |sl _ _ _ _ A c f hc hm h0 hl hr cell kk=>
  exact .sl nl n sz el' A c f hc hm h0 hl (λi j hi hj=>(h i j hi hj).2) cell λi j hi hj=>(h i j hi hj).1 _ _ _ _ (kk i j hi hj)
def PC.le{P:Program}{K:World->Prop}{f:FuncId}{args args':List E}{jT res':E}(h:PC P K f args jT)(ha:tH args' args)(hr:E.le jT res'):PC P K f args' res':=
 ⟨h.call,λw B vs hK hB rF=>(h.run w B vs hK hB (ha.Ke rF)).mono λ_ _ ⟨v,h1,h2,h3⟩=>⟨v,h1,h2,hr _ _ _ _ h3⟩⟩
def PC.jT{P:Program}{K:World->Prop}{f:FuncId}{args:List E}{jT res':E}(h:PC P K f args jT)(hr:E.le jT res'):PC P K f args res':=h.le (tH.refl _) hr
end Go.Proofs.YtkdddbdjilcofaaGreatDoor.Pu
namespace Go.Proofs.YtkdddbdjilcofaaGreatDoor
open Go.RowKit Fp
def ve(A:Option Addr)(c:Nat)(L:List Nat)(w:World)(hs:Sl w A c L):
 Calls prog 145 #[.slice A L.length c] w λe w'=>e = .returned (.slice A (iA L).length c)/\w=w':=by
 have hc:=hs.cap;have hl:=hs.rf;go_enter func145,ntmps145;go_wp2;go_loop [3] (λi=>∃ k:Nat,k<=L.length/\i = .int .i64 k/\mz L=mz (L.take k)) (λi=>(intOf i).toNat)
 case atStart=>exact⟨L.length,bc _,rfl,aH⟩
 case round=>
  obtain⟨k,hk,rfl,ht⟩:=hrel;have HT:=anq ht;clear ht;by_cases h0:0<k
  .obtain ⟨ab,ao,rfl,hb,h1⟩:=hs.mA (i:=k-1) aC ;have e1:((k:Int)-1).toNat=k-1:= aC ;have Z:=anq (Pv L (k-1) aC);have NZ:=anq (Pt L (k-1) aC);rw[fY h0]at Z NZ;generalize L[k-1]=x at *
   by_cases hx:x=0
   .have Hx:=anq hx;clear hx;have hb:((x:Int)==0)=true:=by have:=Hx.out;simp;omega
    go_wp2;go_round
    case rel=>exact⟨k-1,aC,by go_num,by rw[HT.out,Z.out Hx.out]⟩
    case measure=>simp[intOf];omega
   .have hb:((x:Int)==0)=false:= aN ;go_wp2;go_ret;exact⟨Kh (by show _=mz L;rw[HT.out,NZ.out hx]),rfl⟩
  .go_wp2;go_ret;have:k=0:= aC ;subst this;exact⟨Kh (by show _=mz L;rw[HT.out];rfl),rfl⟩
def ac9(A:Option Addr)(c:Nat)(L:List Nat)(w:World)(hs:Sl w A c L):
 Calls prog 147 #[.slice A L.length c] w λe w'=>e = .returned (.slice A (iA L).length c)/\w=w':=by
 have hc:=hs.cap;have hl:=hs.rf;go_enter func147,ntmps147;go_wp2;go_loop [3] (λi=>∃ k:Nat,k<=L.length/\i = .int .i64 k/\mz L=mz (L.take k)) (λi=>(intOf i).toNat)
 case atStart=>exact⟨L.length,bc _,rfl,aH⟩
 case round=>
  obtain⟨k,hk,rfl,ht⟩:=hrel;have HT:=anq ht;clear ht;by_cases h0:0<k
  .obtain ⟨ab,ao,rfl,hb,h1⟩:=hs.mA (i:=k-1) aC ;have e1:((k:Int)-1).toNat=k-1:= aC ;have Z:=anq (Pv L (k-1) aC);have NZ:=anq (Pt L (k-1) aC);rw[fY h0]at Z NZ;generalize L[k-1]=x at *
   by_cases hx:x=0
   .have Hx:=anq hx;clear hx;have hb:((x:Int)==0)=true:=by have:=Hx.out;simp;omega
    go_wp2;go_round
    case rel=>exact⟨k-1,aC,by go_num,by rw[HT.out,Z.out Hx.out]⟩
    case measure=>simp[intOf];omega
   .have hb:((x:Int)==0)=false:= aN ;go_wp2;go_ret;exact⟨Kh (by show _=mz L;rw[HT.out,NZ.out hx]),rfl⟩
  .go_wp2;go_ret;have:k=0:= aC ;subst this;exact⟨Kh (by show _=mz L;rw[HT.out];rfl),rfl⟩
def Sl.um{w:World}{A:Option Addr}{c:Nat}{L:List Nat}(h:Sl w A c L):Sl w A c (iA L):=(h.take (mz L)).eqv (KA L).symm
def aaC:Go.Shelf.Ren:=⟨λ|128=>175|n=>n,λ|51=>96|3=>3|4=>4|46=>121|5=>5|9=>9|n=>n,λ|n=>n⟩
def aax:Go.Proofs.Lays.n128 prog aaC:={
 mixed:= aF 
 f128:=func175.trans (congrArg some aF)
 t3:=underlying3
 a3:=Tryz.isAgg3
 z3:=Tryz.sizeOf3
 v3:=Tryz.zeroValue3
 t4:=underlying4
 a4:=Tryz.isAgg4
 z4:=Tryz.sizeOf4
 v4:=Tryz.zeroValue4
 t5:=underlying5
 a5:=Tryz.isAgg5
 z5:=Tryz.sizeOf5
 v5:=Tryz.zeroValue5
 t9:=underlying9
 a9:=Tryz.isAgg9
 z9:=Tryz.sizeOf9
 v9:=Tryz.zeroValue9
 t46:=underlying121
 a46:=Tryz.isAgg121
 z46:=Tryz.sizeOf121
 v46:=Tryz.zeroValue121
 t51:=underlying96
 a51:=Tryz.isAgg96
 z51:=Tryz.sizeOf96
 v51:=Tryz.zeroValue96 }
def Vq(x:Nat)(hx:x<4294967296)(w:World):
 Calls prog 175 #[.int .u32 x] w λe w'=>e = .returned (.int .i64 (ia x))/\w=w':=by
 refine(Any.bits_Len32 aax x w aC aC).mono ?_;rintro e w' ⟨rfl,rfl⟩;rw[fE,aat x hx];exact⟨rfl,rfl⟩
def als(x k idx:Nat)(w:World)(nS:((x:Int)==0)=false)
 (key:bits BinOp.and IntKind.u32 (x:Int) (-(x:Int)%4294967296)*125613361%4294967296/134217728=(idx:Int))
 (hi:idx<32) (hk:k<32) (ki:w.cell? ⟨0,idx,none⟩=some (.int .u8 k)):
 Calls prog 177 #[.int .u32 x] w λe w'=>e = .returned (.int .i64 k)/\w=w':=by
 go_enter func177,ntmps177;go_wp2_with (simp only[key])
 go_ret;exact⟨rfl,rfl⟩
def alr(x:Nat)(h0:x≠0)(hx:x<4294967296)(w:World)(hT:Tb w):
 Calls prog 177 #[.int .u32 x] w λe w'=>e = .returned (.int .i64 (jl x))/\w=w':=by
 rw[<-acy x h0 hx];obtain⟨Dx,hk⟩:=Lib.lowest_bit 32 x h0 hx;obtain⟨hi,afD⟩:=Lib.deBruijn32_at _ hk;have ki:=hT _ hi;rw[afD]at ki;exact als x _ _ w aN (tz32_key x _ hx h0 Dx) hi hk ki
def i64_in(n:Int)(h0:-9223372036854775808<=n)(h1:n<=9223372036854775807):IntKind.i64.wrap n=n:=by rw[IntKind.wrap_i64];omega
def QQ{L M:List Nat}{n:Nat}(hs:iE L)(hM:iA L=M)(hn:M.length=n+1):
 ∃ x,M[n]? = some x/\x<4294967296/\(32*(n:Int)+(ia x:Int))=(ia (val L):Int)/\ia x<=32:=by
 have hk:iE M:=hM▸hs.iA;have ht:nI M:=hM▸zJ L;rcases amK M with rfl|⟨l,x,rfl⟩
 .simp at hn
 .simp only[amL,cA,fw,Nat.add_right_cancel_iff]at hn hk ht hM ⊢;subst hn;have hx:x≠0:=by simpa using(Bi _).1 ht aH 
  have im:x<4294967296:=hk x aH;refine⟨x,aH,im,?_,lZ.2 im⟩;have:=aaB hk hx;rw[<-hM,pQ]at this;omega
def Wj(A:Option Addr)(c:Nat)(L:List Nat)(w:World)(hs:Sl w A c L)(hlen:L.length<=100000000):
 Calls prog 142 #[.slice A L.length c] w λe w'=>e = .returned (.int .i64 (ia (val L)))/\w=w':=by
 have hT:=anq (ve A c L w hs);have kF:=hs.um;have ns:=pq L;unfold mz at ns;generalize hM:iA L=M at *
 obtain⟨n,hn⟩:∃ n,n=M.length:=⟨_,rfl⟩
 rw[<-hn]at hT ns;rcases n with _|n
 .have hv:ia (val L)=0:=by rw[<-pQ,hM,di hn.symm];rfl
  have HV:=anq hv;clear hv hM hn;go_enter func142,ntmps142;go_wp2_with (go_at_call 145;refine hT.out.mono ?_;rintro e w' ⟨rfl,rfl⟩)
  go_ret;exact⟨by rw[HV.out];rfl,rfl⟩
 .obtain ⟨x,hx,im,hb,afb⟩:=QQ hs.ok hM hn.symm;obtain⟨ab,ao,rfl,_,ki⟩:=kF.cell _ _ hx;have HB:=anq hb;clear hb hM hn hx;go_enter func142,ntmps142;go_wp2_with (first|(go_at_call 145;refine hT.out.mono ?_;rintro e w' ⟨rfl,rfl⟩)|(go_at_call 175;refine(Vq x im _).mono ?_;rintro e w' ⟨rfl,rfl⟩))
  go_ret;exact⟨oZ HB.out,rfl⟩
def aaz{x:Nat}(h:x≠0):ia x=ia (x/2)+1:=by
 by_cases h1:x/2=0
 .have:x=1:= aC ;subst this;rfl
 .have e1:=rK h1;have e2:=ql (x/2);have e3:=nR h1;generalize ia (x/2)=k at *
  obtain⟨j,rfl⟩:∃ j,k=j+1:=⟨k-1,aC⟩
  rw[er]at e1;refine yr ?_ ?_
  .rw [bC];omega
  .rw [bC];omega
def aiS(A:Option Addr)(c:Nat)(L:List Nat)(w:World)(hs:Sl w A c L)(ht:nI L)(hlen:L.length<=100000000):
 Calls prog 127 #[.slice A L.length c] w λe w'=>e = .returned (.int .i64 (ia (val L)))/\w=w':=by
 obtain⟨n,hn⟩:∃ n,n=L.length:=⟨_,rfl⟩
 rcases n with _|n
 .have hv:ia (val L)=0:=by rw[di hn.symm];rfl
  have HV:=anq hv;rw[<-hn];clear hv ht hn;go_enter func127,ntmps127;go_wp2;go_ret;exact⟨by rw[HV.out];rfl,rfl⟩
 .obtain ⟨x,hx,im,hb,afb⟩:=QQ hs.ok ht hn.symm;obtain⟨ab,ao,rfl,_,ki⟩:=hs.cell _ _ hx;have HB:=anq hb;rw[<-hn]at hlen ⊢;clear hb ht hn hx;go_enter func127,ntmps127;go_wp2;go_loop [3,4] (λm y=>∃ (k z:Nat),z<4294967296/\y = .int .u32 z/\m = .int .i64 k/\k<=10000000000/\k+ia z=ia (val L)) (λ_ y=>(intOf y).toNat)
  case atStart=>exact⟨32*n,x,im,rfl,by go_num,aC,by have:=HB.out;omega⟩
  case round=>
   obtain⟨k,z,hz,rfl,rfl,hk,he⟩:=hrel;have HE:=anq he;clear he;by_cases h0:0<z
   .have hh:=anq (aaz (x:=z) aC);have vO:k<=3300000000:=by have:=HE.out;have:=HB.out;omega
    go_wp2;go_round
    case rel=>exact⟨k+1,z/2,aC,by go_num,by go_num,aC,by rw[<-HE.out,hh.out];omega⟩
    case measure=>simp[intOf];omega
   .obtain rfl:z=0:= aC ;go_wp2;go_ret;exact⟨oZ (by rw[<-HE.out];rfl),rfl⟩
def Ry{L M:List Nat}(hL:iE L)(h:(iA L).length<(iA M).length):ky (val L) (val M) = -1:=by
 have:=KH hL.iA (zJ M) h;rw[pQ,pQ]at this;unfold ky;rw[aZ this]
def Rv{L M:List Nat}(hM:iE M)(h:(iA M).length<(iA L).length):ky (val L) (val M)=1:=by
 have:=KH hM.iA (zJ L) h;rw[pQ,pQ]at this;unfold ky;rw[aY aC,aZ this]
def Io{M N:List Nat}(hM:iE M){k x y:Nat}(hl:M.length=N.length)(hx:M[k]? = some x)(hy:N[k]? = some y)(hd:M.drop (k+1)=N.drop (k+1))(h:x<y):val M<val N:=by
 obtain⟨h1,rfl⟩:=bY.1 hx;obtain⟨h2,rfl⟩:=bY.1 hy;exact alD hM k h1 hl hd h
def RZ{M N:List Nat}{k x:Nat}(hx:M[k]? = some x)(hy:N[k]? = some x)(hd:M.drop (k+1)=N.drop (k+1)):M.drop k=N.drop k:=by
 obtain⟨h1,e1⟩:=bY.1 hx;obtain⟨h2,e2⟩:=bY.1 hy;rw[eO h1,eO h2,e1,e2,hd]
def Gj(A B:Option Addr)(c d:Nat)(L M:List Nat)(w:World)(hs:Sl w A c L)(hr:Sl w B d M)(h1:L.length<=100000000)(_h2:M.length<=100000000):
 Calls prog 99 #[.slice A L.length c,.slice B M.length d] w λe w'=>e = .returned (.int .i64 (ky (val L) (val M)))/\iC w w':=by
 have hT:=anq (ve A c L w hs);have hU:=anq (ve B d M w hr);have kF:=hs.um;have nu:=hr.um;have ns:=pq L;have vQ:=pq M;unfold mz at ns vQ;by_cases im:(iA L).length<(iA M).length
 .have HV:=anq (Ry hs.ok im);have jh:(((iA L).length:Int) != ((iA M).length:Nat))=true:= aN ;generalize (iA L).length=n at *
  generalize (iA M).length=m at *
  clear kF nu;go_enter func99,ntmps99;go_wp2_with fail;refine hT.out.mono ?_;rintro e w' ⟨rfl,rfl⟩;go_wp2_with fail;refine hU.out.mono ?_;rintro e w' ⟨rfl,rfl⟩;go_wp2;go_ret;exact⟨oZ (by rw[HV.out]),iC.refl _⟩
 .by_cases Ft:(iA M).length<(iA L).length
  .have HV:=anq (Rv hr.ok Ft);have jh:(((iA L).length:Int) != ((iA M).length:Nat))=true:= aN ;generalize (iA L).length=n at *
   generalize (iA M).length=m at *
   clear kF nu;go_enter func99,ntmps99;go_wp2_with fail;refine hT.out.mono ?_;rintro e w' ⟨rfl,rfl⟩;go_wp2_with fail;refine hU.out.mono ?_;rintro e w' ⟨rfl,rfl⟩;go_wp2;go_ret;exact⟨oZ (by rw[HV.out]),iC.refl _⟩
  .have hl:(iA L).length=(iA M).length:= aC ;have HL:=anq hl;rw[<-hl]at hU vQ;have e1:=pQ L;have e2:=pQ M;generalize iA L=P at *
   generalize iA M=Q at *
   have E1:=anq e1;have E2:=anq e2;clear e1 e2 hl Ft im;obtain⟨n,hn⟩:∃ n,n=P.length:=⟨_,rfl⟩
   rw[<-hn]at hT hU vQ ns;have HN:=anq hn;clear hn;have jh:((n:Int) != (n:Int))=false:= aH ;have okP:=kF.ok;have CB:=nu.ok;go_enter func99,ntmps99;go_wp2_with fail;refine hT.out.mono ?_;rintro e w' ⟨rfl,rfl⟩;go_wp2_with fail;refine hU.out.mono ?_;rintro e w' ⟨rfl,rfl⟩;go_wp2;go_loopw [5] (λi wr=>∃ k:Nat,k<=n/\i = .int .i64 ((k:Int)-1)/\P.drop k=Q.drop k/\iC w wr) (λi _=>(intOf i+1).toNat)
   case atStart=>exact⟨n,bc _,rfl,by rw[dR (by rw[<-HN.out];exact bc _),dR (by rw[<-HL.out,<-HN.out];exact bc _)],iC.refl _⟩
   case round=>
    obtain⟨k,hk,rfl,hd,hb⟩:=hrel;have HD:=anq hd;clear hd;rcases k with _|k
    .go_wp2;go_ret;have e:P=Q:=by simpa using HD.out
     exact⟨oZ (by rw[<-E1.out,<-E2.out,e];unfold ky;simp),hb⟩
    .have BT:k<P.length:=by have:=HN.out;omega
     have yO:k<Q.length:=by have:=HN.out;have:=HL.out;omega
     have HP:=anq (bt BT);have HQ:=anq (bt yO);obtain⟨ab,ao,rfl,_,c1⟩:=(kF.below hb).mA BT;obtain⟨bb,bo,rfl,_,c2⟩:=(nu.below hb).mA yO;have Jc:(k:Int)<n:= aC ;have nN:(0:Int)<=k:= aC ;have x0:(0:Int)<=P[k]:= aC ;have y0:(0:Int)<=Q[k]:= aC ;generalize P[k]=x at *
     generalize Q[k]=y at *
     clear BT yO;by_cases qi:x<y
     .have Nf:(x:Int)<y:= aC ;go_wp2;go_quiet (fail);go_wp2;go_ret;have h:=Io okP HL.out HP.out HQ.out HD.out qi;rw[E1.out,E2.out]at h;exact⟨oZ (by unfold ky;rw[aZ h]),below_drewN hb _⟩
     .have Nf:¬(x:Int)<y:= aC ;by_cases Nh:y<x
      .have Ni:(y:Int)<x:= aC ;go_wp2;go_quiet (fail);go_wp2;go_quiet (fail);go_wp2;go_ret;have h:=Io CB HL.out.symm HQ.out HP.out HD.out.symm Nh;rw[E1.out,E2.out]at h;exact⟨oZ (by unfold ky;rw[aY aC,aZ h]),below_drewN (below_drewN hb _) _⟩
      .have Ni:¬(y:Int)<x:= aC ;have HX:=anq (aC:x=y);go_wp2;go_quiet (fail);go_wp2;go_quiet (fail);go_wp2;go_roundw
       case rel=>exact⟨k,aC,by go_num,RZ HP.out (by rw[HX.out];exact HQ.out) HD.out,by repeat (first|exact hb|refine below_drewN ?_ _)⟩
       case measure=>simp[intOf];try omega
def aiU(A B:Option Addr)(c d:Nat)(P Q:List Nat)(w:World)(kF:Sl w A c P)(nu:Sl w B d Q)(tP:nI P)(tQ:nI Q)(h1:P.length<=100000000)(_h2:Q.length<=100000000):
 Calls prog 44 #[.slice A P.length c,.slice B Q.length d] w λe w'=>e = .returned (.int .i64 (ky (val P) (val Q)))/\iC w w':=by
 have tP':iA P=P:=tP;have tQ':iA Q=Q:=tQ;by_cases im:P.length<Q.length
 .have HV:=anq (Ry (M:=Q) kF.ok (by rw[tP',tQ'];exact im));have jh:((P.length:Int) != (Q.length:Nat))=true:= aN ;generalize P.length=n at *
  generalize Q.length=m at *
  clear kF nu tP' tQ' tP tQ;go_enter func44,ntmps44;go_wp2;go_ret;exact⟨oZ (by rw[HV.out]),iC.refl _⟩
 .by_cases Ft:Q.length<P.length
  .have HV:=anq (Rv (L:=P) nu.ok (by rw[tP',tQ'];exact Ft));have jh:((P.length:Int) != (Q.length:Nat))=true:= aN ;generalize P.length=n at *
   generalize Q.length=m at *
   clear kF nu tP' tQ' tP tQ;go_enter func44,ntmps44;go_wp2;go_ret;exact⟨oZ (by rw[HV.out]),iC.refl _⟩
  .have hl:P.length=Q.length:= aC ;have HL:=anq hl;rw[<-hl];clear hl Ft im tP' tQ' tP tQ _h2;obtain⟨n,hn⟩:∃ n,n=P.length:=⟨_,rfl⟩
   rw[<-hn]at h1 ⊢;have HN:=anq hn;clear hn;have jh:((n:Int) != (n:Int))=false:= aH ;have okP:=kF.ok;have CB:=nu.ok;go_enter func44,ntmps44;go_wp2;go_loopw [5] (λi wr=>∃ k:Nat,k<=n/\i = .int .i64 ((k:Int)-1)/\P.drop k=Q.drop k/\iC w wr) (λi _=>(intOf i+1).toNat)
   case atStart=>exact⟨n,bc _,rfl,by rw[dR (by rw[<-HN.out];exact bc _),dR (by rw[<-HL.out,<-HN.out];exact bc _)],iC.refl _⟩
   case round=>
    obtain⟨k,hk,rfl,hd,hb⟩:=hrel;have HD:=anq hd;clear hd;rcases k with _|k
    .go_wp2;go_ret;have e:P=Q:=by simpa using HD.out
     exact⟨oZ (by rw[e];unfold ky;simp),hb⟩
    .have BT:k<P.length:=by have:=HN.out;omega
     have yO:k<Q.length:=by have:=HN.out;have:=HL.out;omega
     have HP:=anq (bt BT);have HQ:=anq (bt yO);obtain⟨ab,ao,rfl,_,c1⟩:=(kF.below hb).mA BT;obtain⟨bb,bo,rfl,_,c2⟩:=(nu.below hb).mA yO;have Jc:(k:Int)<n:= aC ;have nN:(0:Int)<=k:= aC ;have x0:(0:Int)<=P[k]:= aC ;have y0:(0:Int)<=Q[k]:= aC ;generalize P[k]=x at *
     generalize Q[k]=y at *
     clear BT yO;by_cases qi:x<y
     .have Nf:(x:Int)<y:= aC ;go_wp2;go_quiet (fail);go_wp2;go_ret;have h:=Io okP HL.out HP.out HQ.out HD.out qi;exact⟨oZ (by unfold ky;rw[aZ h]),below_drewN hb _⟩
     .have Nf:¬(x:Int)<y:= aC ;by_cases Nh:y<x
      .have Ni:(y:Int)<x:= aC ;go_wp2;go_quiet (fail);go_wp2;go_quiet (fail);go_wp2;go_ret;have h:=Io CB HL.out.symm HQ.out HP.out HD.out.symm Nh;exact⟨oZ (by unfold ky;rw[aY aC,aZ h]),below_drewN (below_drewN hb _) _⟩
      .have Ni:¬(y:Int)<x:= aC ;have HX:=anq (aC:x=y);go_wp2;go_quiet (fail);go_wp2;go_quiet (fail);go_wp2;go_roundw
       case rel=>exact⟨k,aC,by go_num,RZ HP.out (by rw[HX.out];exact HQ.out) HD.out,by repeat (first|exact hb|refine below_drewN ?_ _)⟩
       case measure=>simp[intOf];try omega
def Lu(A:Option Addr)(c:Nat)(L:List Nat)(w:World)(hs:Sl w A c L):
 Calls prog 146 #[.slice A L.length c] w λe w'=>e = .returned (.slice A L.length L.length)/\w=w':=by
 have hc:=hs.cap;have hl:=hs.rf;go_enter func146,ntmps146;go_wp2;go_ret;exact⟨rfl,rfl⟩
def Sl.Rp{w:World}{A:Option Addr}{c:Nat}{L:List Nat}(h:Sl w A c L):Sl w A L.length L:=
 ⟨bc _,bg h.cap h.rf,h.ok,(λe=>by have:=h.xW e;have:=h.cap;omega),h.cell⟩
def Lv(A:Option Addr)(c:Nat)(L:List Nat)(w:World)(hs:Sl w A c L)(hlen:L.length<=100000000):
 Calls prog 92 #[.slice A L.length c] w (xp w L):=by
 have hc:=hs.cap;have hl:=hs.rf;rcases A with _|ad
 .have h0:=hs.xW rfl;subst h0;have:L=[]:=di aC;subst this;have q:=λ(w:World) (n' c':Nat)=>Lib.run_eql_slice_nil (P:=prog) w 29 _ none 0 0 n' c' underlying29
  simp only[Option.isNone_none]at q;go_enter func92,ntmps92;go_wp2;go_ret;exact⟨none,0,rfl,Sl.nil _,iC.refl _⟩
 .have q:=λ(w:World) (n' c':Nat)=>Lib.run_eql_slice_nil (P:=prog) w 29 _ (some ad) L.length c n' c' underlying29
  simp only[Option.isNone_some]at q;go_enter func92,ntmps92;have my:([]:List Nat).length+L.length<=10000000000:= aN ;have h1:=Ow.empty w w.heap.size (bc _);have h2:=hs.alloc (.cells #[] 96);have h3:=wZ (w:=w) (bc _) (.cells #[] 96);go_wp2_with (at_builtin;go_must (refine zO aG _ _ aG w.heap.size _ [] aG h1 _ _ _ L aG aG h2 my h3 ?_);intro v' w' lr hg sB)
  obtain⟨A',c',rfl,ot⟩:=lr.sl;go_ret;exact⟨A',c',rfl,ot,(iC.alloc _ _).grown hg (wZ (bc _) _) (λk hk=>by simp[Value.ownBlock]at hk;omega)⟩
def OT(A:Option Addr)(c:Nat)(L:List Nat)(w:World)(hs:Sl w A c L)(hlen:L.length<=100000000):
 Calls prog 128 #[.slice A L.length c] w (xp w (iA L)):=by
 have hc:=hs.cap;have hl:=hs.rf;have fin:∀ k:Nat,k=(iA L).length->Hid (iA L=L.take k):=λk hk=>by rw[hk];exact KA L
 go_enter func128,ntmps128;go_wp2;go_loop [3] (λi=>∃ k:Nat,k<=L.length/\i = .int .i64 k/\mz L=mz (L.take k)) (λi=>(intOf i).toNat)
 case atStart=>exact⟨L.length,bc _,rfl,aH⟩
 case round=>
  obtain⟨k,hk,rfl,ht⟩:=hrel;have HT:=anq ht;clear ht;have my:([]:List Nat).length+(L.take k).length<=10000000000:=by rw[b8];simp;omega
  have HK:=anq (show k=(L.take k).length by rw[b8];omega);have h1:=Ow.empty w w.heap.size (bc _);have h2:=(hs.take k).alloc (.cells #[] 96);have h3:=wZ (w:=w) (bc _) (.cells #[] 96);by_cases h0:0<k
  .obtain ⟨ab,ao,rfl,hb,AE⟩:=hs.mA (i:=k-1) aC ;have e1:((k:Int)-1).toNat=k-1:= aC ;have Z:=anq (Pv L (k-1) aC);have NZ:=anq (Pt L (k-1) aC);rw[fY h0]at Z NZ;generalize L[k-1]=x at *
   by_cases hx:x=0
   .have Hx:=anq hx;clear hx;have hb:((x:Int)==0)=true:=by have:=Hx.out;simp;omega
    clear fin;go_wp2;go_round
    case rel=>exact⟨k-1,aC,by go_num,by rw[HT.out,Z.out Hx.out]⟩
    case measure=>simp[intOf];omega
   .have hb:((x:Int)==0)=false:= aN ;have F:=fin k (by show k=mz L;rw[HT.out,NZ.out hx]);clear fin;go_wp2_with (at_builtin;go_must (refine zO aG _ _ aG w.heap.size _ [] aG h1 _ _ _ (L.take k) aG HK.out h2 my h3 ?_);intro v' w' lr hg sB)
    obtain⟨A',c',rfl,ot⟩:=lr.sl;go_ret;rw[F.out];exact⟨A',c',rfl,ot,(iC.alloc _ _).grown hg (wZ (bc _) _) (λk hk=>by simp[Value.ownBlock]at hk;omega)⟩
  .have:k=0:= aC ;subst this;have F:=fin 0 (by show 0=mz L;rw[HT.out];rfl);clear fin;go_wp2_with (at_builtin;go_must (refine zO aG _ _ aG w.heap.size _ [] aG h1 _ _ _ (L.take 0) aG HK.out h2 my h3 ?_);intro v' w' lr hg sB)
   obtain⟨A',c',rfl,ot⟩:=lr.sl;go_ret;rw[F.out];exact⟨A',c',rfl,ot,(iC.alloc _ _).grown hg (wZ (bc _) _) (λk hk=>by simp[Value.ownBlock]at hk;omega)⟩
def VD(A:Option Addr)(n c:Nat)(w:World):
 Calls prog 144 #[.slice A n c] w λe w'=>e = .returned (.bool (decide (256<n)))/\w=w':=by
 by_cases h:256<n
 .have h':(256:Int)<n:= aC ;go_enter func144,ntmps144;go_wp2;go_ret;exact⟨by simp[h],rfl⟩
 .have h':¬(256:Int)<n:= aC ;go_enter func144,ntmps144;go_wp2;go_ret;exact⟨aH,rfl⟩
def KZ(w:World)(g:Nat)(xs:List (Option Addr×Nat×Nat)):Prop:=∀ i x,xs[i]? = some x->w.cell? ⟨g,i,none⟩=some (.slice x.1 x.2.1 x.2.2)
def xi(xs:List (Option Addr×Nat×Nat)):Bool:=xs.any λx=>decide (256<x.2.1)
def Zn(xs:List (Option Addr×Nat×Nat))(w:World)(e:Ending)(w':World):Prop:=
 ∃ n:Int,e = .returned (.int .i64 n)/\(0<=n↔xi xs=true)/\w=w'
def afN(g:Nat)(xs:List (Option Addr×Nat×Nat))(w:World)(hs:KZ w g xs)(hn:xs.length<=1000):
 Calls prog 176 #[.slice (some ⟨g,0,none⟩) xs.length xs.length,.func (.func 144) #[] #[]] w (Zn xs w):=by
 go_enter func176,ntmps176;go_wp2;go_loop [8] (λi=>∃ k:Nat,k<=xs.length/\i = .int .i64 k/\xi (xs.take k)=false) (λi=>xs.length-(intOf i).toNat)
 case atStart=>exact⟨0,bV _,rfl,rfl⟩
 case round=>
  obtain⟨k,hk,rfl,ht⟩:=hrel;have HT:=anq ht;clear ht;by_cases h0:k<xs.length
  .have hc:=hs k _ (bt h0);have e1:((k:Int)).toNat=k:= aC ;have ec:=Zy g k;have HX:=anq (show xi (xs.take (k+1))=(xi (xs.take k)||decide (256<xs[k].2.1))by
    unfold xi;rw[fu h0,List.any_append];simp)
   have HM:=anq (cz h0);generalize xs[k]=x at *
   obtain⟨A,n,c⟩:=x;simp only at hc HX;by_cases hx:256<n
   .have hb:decide (256<n)=true:=by simp[hx]
    go_wp2_with (go_at_call 144;refine(VD A n c _).mono ?_;rw[hb];rintro e w' ⟨rfl,rfl⟩)
    go_ret;refine⟨_,rfl,⟨λ_=>?_,λ_=> aC⟩,rfl⟩;unfold xi;rw[dJ];exact⟨_,HM.out,by simpa using hx⟩
   .have hb:decide (256<n)=false:= aN ;go_wp2_with (go_at_call 144;refine(VD A n c _).mono ?_;rw[hb];rintro e w' ⟨rfl,rfl⟩)
    go_round
    case rel=>exact⟨k+1,aC,by go_num,by rw[HX.out,HT.out,hb];rfl⟩
    case measure=>simp[intOf];omega
  .go_wp2;go_ret;have e:xs.take k=xs:=cN aC;have:=HT.out;rw[e]at this;exact⟨_,rfl,by rw[this];simp,rfl⟩
def ack(g:Nat)(xs:List (Option Addr×Nat×Nat))(w:World)(hs:KZ w g xs)(hn:xs.length<=1000):
 Calls prog 143 #[.slice (some ⟨g,0,none⟩) xs.length xs.length,.func (.func 144) #[] #[]] w λe w'=>e = .returned (.bool (xi xs))/\w=w':=by
 have H:=anq (afN g xs w hs hn);go_enter func143,ntmps143;go_wp2_with fail;refine H.out.mono ?_;rintro e w' ⟨n,rfl,hn,rfl⟩;have HN:=anq hn;clear hn;go_wp2;go_ret;refine⟨Kg ?_,rfl⟩;have:=HN.out;cases h:xi xs<;>simp[h]at this ⊢ <;> omega
def VF(g:Nat)(xs:List (Option Addr×Nat×Nat))(w:World)(hs:KZ w g xs)(hn:xs.length<=1000):
 Calls prog 93 #[.slice (some ⟨g,0,none⟩) xs.length xs.length] w λe w'=>e = .returned (.bool (xi xs))/\w=w':=by
 have H:=anq (ack g xs w hs hn);go_enter func93,ntmps93;go_wp2_with fail;refine H.out.mono ?_;rintro e w' ⟨rfl,rfl⟩;go_wp2;go_ret;exact⟨rfl,rfl⟩
def NI(g:Nat)(A:Option Addr)(n c:Nat)(w:World)(b:Bool)(h:w.cell? ⟨g,0,none⟩=some (.slice A n c))(hb:b=decide (256<n)):
 Calls prog 93 #[.slice (some ⟨g,0,none⟩) 1 1] w λe w'=>e = .returned (.bool b)/\w=w':=by
 have:=VF g [(A,n,c)] w (λi x hx=>by
  obtain⟨h1,h2⟩:=bY.1 hx;obtain rfl:i=0:=by simp at h1;omega
  simp at h2;subst h2;exact h) aH 
 simpa[xi,hb]using this
def VE(g:Nat)(A B:Option Addr)(n c m d:Nat)(w:World)(b:Bool)(h:w.cell? ⟨g,0,none⟩=some (.slice A n c))(k:w.cell? ⟨g,1,none⟩=some (.slice B m d))(hb:b=(decide (256<n)||decide (256<m))):
 Calls prog 93 #[.slice (some ⟨g,0,none⟩) 2 2] w λe w'=>e = .returned (.bool b)/\w=w':=by
 have:=VF g [(A,n,c),(B,m,d)] w (λi x hx=>by
  obtain⟨h1,h2⟩:=bY.1 hx;simp at h1;rcases i with _|_|i
  .simp at h2;subst h2;exact h
  .simp at h2;subst h2;exact k
  .omega) aH 
 simpa[xi,hb]using this
def Gk(A:Option Addr)(c:Nat)(L:List Nat)(w:World)(hs:Sl w A c L)(hl:(iA L).length<=256):
 Calls prog 94 #[.slice A L.length c] w (C0 w (iA L) 0):=by
 have hT:=anq (ve A c L w hs);have kF:=hs.um;have hC:=hs.cap;have hL:=hs.rf;have H2:=anq (λw' (h:Sl w' A c (iA L))=>Lu A c (iA L) w' h);generalize iA L=M at *
 obtain⟨n,hn⟩:∃ n,n=M.length:=⟨_,rfl⟩
 rw[<-hn]at hT hl H2;have HN:=anq hn;clear hn;go_enter func94,ntmps94;go_wp2_with fail;refine hT.out.mono ?_;rintro e w' ⟨rfl,rfl⟩;go_wp2_with fail;refine(NI _ A n c _ false ?_ aN).mono ?_
 .go_simp
 rintro e w' ⟨rfl,rfl⟩;go_wp2_with fail;refine(H2.out _ (kF.alloc _)).mono ?_;rintro e w' ⟨rfl,rfl⟩;go_wp2;go_ret2;exact⟨A,n,by rw[HN.out];rfl,by have:=kF.Rp.alloc (.cells #[.slice A n c] 29);rw[HN.out]at this ⊢;exact this,iC.alloc _ _⟩
def KD(a b:Nat)(ha:a<18446744073709551616)(hb:b<18446744073709551616):bits .or .u64 (a:Int) (b:Int)=((a |||b:Nat):Int):=by
 have hx:a |||b<2^64:=amX aC aC 
 have h1:(BitVec.ofInt 64 (a:Int)).toNat=a:=by
  rw[gv,gy];exact bX aC 
 have h2:(BitVec.ofInt 64 (b:Int)).toNat=b:=by
  rw[gv,gy];exact bX aC 
 show IntKind.u64.wrap ((BitVec.ofInt 64 (a:Int) |||BitVec.ofInt 64 (b:Int)).toNat:Int)=_;rw[BitVec.toNat_or,h1,h2,IntKind.wrap_u64];omega
def J2(a b k:Nat)(h:a<2^k):a |||b*2^k=a+b*2^k:=by
 rw[bD,Nat.or_comm,<-Nat.two_pow_add_eq_or_of_lt h];omega
def Sl.drop{w:World}{A:Option Addr}{c:Nat}{L:List Nat}(h:Sl w A c L)(k:Nat):Sl w (A.map (·.add k)) (c-k) (L.drop k):=
 ⟨by have:=h.cap;rw[eC];omega,bg (eE _ _) h.rf,h.ok.drop k,(λe=>by
  rcases A with _|ad
  .rw [h.xW rfl];omega
  .cases e),λi x hx=>by
  rw[eA]at hx;obtain⟨b,o,rfl,h1,h2⟩:=h.cell _ _ hx;exact⟨b,o+k,by rw[cv,Bp],h1,by rw[cR];exact h2⟩⟩
def part(T:List Nat)(k:Nat):List Nat:=T.take k++List.replicate (T.length-k) 0
def aik(T:List Nat):part T 0=List.replicate T.length 0:=by unfold part;simp
def aii(T:List Nat):part T T.length=T:=by unfold part;simp
def aij(T:List Nat)(k:Nat)(h:k<T.length):(part T k)[k]? = some 0:=by
 unfold part;rw[fI aQ,b8,eF,aZ aC]
def WU(T:List Nat)(k x:Nat)(h:T[k]? = some x):(part T k).set k x=part T (k+1):=by
 obtain⟨h1,rfl⟩:=bY.1 h;unfold part;rw[List.set_append_right _ _ aQ,b8,de aC,cX,
  fu h1,(aC:T.length-k=(T.length-(k+1))+1),List.replicate_succ,List.set_cons_zero,amQ]
 rfl
def akb(x y s:Nat)(hx:x<4294967296)(hy:y<4294967296):
 bits BinOp.or IntKind.u64 (x:Int) ((y:Int)*4294967296)/2^s%4294967296=(((x+4294967296*y)/2^s%4294967296:Nat):Int):=by
 have e:((y:Int)*4294967296)=((y*2^32:Nat):Int):= aH ;rw[e,KD x (y*2^32) aC aC,J2 x y 32 aC];simp[bD]
def akc(x s:Nat):(x:Int)/2^s%4294967296=(((x+4294967296*0)/2^s%4294967296:Nat):Int):=by
 simp
def N9(A:Option Addr)(c:Nat)(L:List Nat)(n:Nat)(w:World)(hs:Sl w A c L)(hlen:L.length<=100000000)(hn:n<=65536):
 Calls prog 95 #[.slice A L.length c,.int .i64 n] w (xp w (qo (n%32) ((iA L).drop (n/32)))):=by
 have hT:=anq (ve A c L w hs);have kF:=hs.um;have ns:=pq L;have hC:=kF.cap;have hL:=hs.rf;unfold mz at ns;generalize iA L=M at *
 obtain⟨m,hm⟩:∃ m,m=M.length:=⟨_,rfl⟩
 rw[<-hm]at hT ns hC;have HM:=anq hm;clear hm;by_cases h0:m<=n/32
 .go_enter func95,ntmps95;go_wp2_with fail;refine hT.out.mono ?_;rintro e w' ⟨rfl,rfl⟩;go_wp2;go_ret;have:M.drop (n/32)=[]:=dR (by rw[<-HM.out];exact h0);rw[this];exact⟨none,0,rfl,Sl.nil _,iC.refl _⟩
 .obtain ⟨ab,ao,rfl,_,_⟩:=kF.mA (i:=0) (by have:=HM.out;omega);have hK:=kF.drop (n/32);have uI:=anq (show m-n/32=(M.drop (n/32)).length by rw[eC,HM.out]);have oo:n/32<c:= aC ;have vR:=F7 (m-n/32) aC;have pU:0<m-n/32:= aC ;have xH:m-n/32<=100000000:= aC ;generalize M.drop (n/32)=K at *
  simp only[cv,Bp]at hK;have vN:=anq (Kq (n%32) K);have Mp:=anq (Yf (n%32) K);have Fm:=anq (AW (n%32) K);generalize qo (n%32) K=T at *
  go_enter func95,ntmps95;go_wp2_with fail;refine hT.out.mono ?_;rintro e w' ⟨rfl,rfl⟩;go_wp2;go_loopw [25] (λi wr=>∃ k:Nat,k<=m-n/32/\i = .int .i64 k/\Rw wr w.heap.size (part T k)/\iC w wr) (λi _=>m-n/32-(intOf i).toNat)
  case atStart=>
   refine⟨0,bV _,rfl,?_,iC.alloc _ _⟩;rw[aik,vN.out,<-uI.out];exact Rw.AO _ _
  case round=>
   obtain⟨k,hk,rfl,hR,hb⟩:=hrel;by_cases im:k<m-n/32
   .have uN:k<K.length:=by have:=uI.out;omega
    obtain⟨ab',ao',e',_,c1⟩:=(hK.below hb).mA uN;cases e';have hg:=Mp.out k uN;have nm:K[k]<4294967296:=hK.ok.get uN;have HK:=anq (bt uN);have c3:=hR.cell (aij T k (by have:=vN.out;omega));have c4:=hR.frozen k;by_cases Je:k+1<m-n/32
    .have yN:k+1<K.length:=by have:=uI.out;omega
     obtain⟨ab',ao',e',_,c2⟩:=(hK.below hb).mA yN;cases e';have hy:K.getD (k+1) 0=K[k+1]:=by rw[bd,bt yN];rfl
     rw[hy]at hg;have q9:K[k+1]<4294967296:=hK.ok.get yN;have HG:=anq hg;clear hg hy;generalize K[k]=x at *
     generalize K[k+1]=y at *
     clear uN yN;go_wp2;go_roundw
     case rel=>
      rw[akb x y (n%32) nm q9];exact⟨k+1,aC,by go_num,by rw[<-WU T k _ HG.out];exact hR.set k _,hb.setCell (bc _) _⟩
     case measure=>simp[intOf];omega
    .have hy:K.getD (k+1) 0=0:=by rw[bd,b7 (by have:=uI.out;omega)];rfl
     rw[hy]at hg;have HG:=anq hg;clear hg hy;generalize K[k]=x at *
     clear uN;go_wp2;go_roundw
     case rel=>
      rw[akc x (n%32)];exact⟨k+1,aC,by go_num,by rw[<-WU T k _ HG.out];exact hR.set k _,hb.setCell (bc _) _⟩
     case measure=>simp[intOf];omega
   .go_wp2;go_ret;obtain rfl:k=m-n/32:= aC ;rw[uI.out,<-vN.out,aii]at hR;have:=hR.sl Fm.out (by have:=vN.out;have:=uI.out;omega);rw[vN.out,<-uI.out]at this;exact⟨_,_,by rw[vN.out,<-uI.out];rfl,this,hb⟩
def aka{L:List Nat}(h:iE L)(n:Nat):iA (qo (n%32) ((iA L).drop (n/32)))=gS (val L/2^n):=by
 rw[sr (AW _ _),KJ h.iA,pQ]
def PY(w:World)(A:Option Addr)(n c:Nat):(w.alloc (.cells #[.slice A n c] 29)).cell? ⟨w.heap.size,0,none⟩=some (.slice A n c):=by
 rw[World.cell?_alloc_at _ _ _ _ rfl];rfl
def PZ(w:World)(A B:Option Addr)(n c m d:Nat):(w.alloc (.cells #[.slice A n c,.slice B m d] 29)).cell? ⟨w.heap.size,0,none⟩=some (.slice A n c):=by
 rw[World.cell?_alloc_at _ _ _ _ rfl];rfl
def P0(w:World)(A B:Option Addr)(n c m d:Nat):(w.alloc (.cells #[.slice A n c,.slice B m d] 29)).cell? ⟨w.heap.size,1,none⟩=some (.slice B m d):=by
 rw[World.cell?_alloc_at _ _ _ _ rfl];rfl
def Wp(A:Option Addr)(c:Nat)(L:List Nat)(n:Nat)(w:World)(hs:Sl w A c L)(hlen:L.length<=256)(hn:n<=65536):
 Calls prog 49 #[.slice A L.length c,.int .i64 n] w (C0 w (gS (val L/2^n)) 0):=by
 have hf:decide (256<L.length)=false:= aN ;have h3:=anq (aka hs.ok n);have h4:(iA (qo (n%32) ((iA L).drop (n/32)))).length<=256:=by
  have h1:=pq (qo (n%32) ((iA L).drop (n/32)));unfold mz at h1;rw[Kq,eC]at h1;have h2:=pq L;unfold mz at h2;omega
 have H1:=anq (λw (h:Sl w A c L)=>N9 A c L n w h aC hn);generalize qo (n%32) ((iA L).drop (n/32))=T at *
 go_enter func49,ntmps49;go_wp2_with fail;refine(NI _ A _ c _ false (PY _ _ _ _) aN).mono ?_;rintro e w' ⟨rfl,rfl⟩;go_wp2_with fail;refine(H1.out _ (hs.alloc _)).mono ?_;rintro e w' ⟨A',c',rfl,ot,hb⟩;go_wp2_with fail;refine(Gk A' c' T _ ot h4).mono ?_;rintro e w'' ⟨A'',c'',rfl,uP,nh⟩;go_wp2;go_ret2;rw[<-h3.out];exact⟨A'',c'',rfl,uP,(iC.alloc _ _).trans (hb.trans nh)⟩
def VR(n c:Nat)(hc:n<=c)(hn:c<=10000000000)(w:World):
 (Instr.makeSlice 29 (.int .i64 (n:Int)) (.int .i64 (c:Int))).run prog w = .ok (.slice (some ⟨w.heap.size,0,none⟩) n c) (w.alloc (.cells (oj (List.replicate c 0)).toArray 96)):=by
 obtain⟨i,hi,hz,h1,h2⟩:=info_parts Nq;have hr:=run_make (P:=prog) w 29 96 i _ underlying29 hi hz .i64 .i64 n c aC aC (by rw[h2];omega) aC;rw[hr,fE,fE,h1,b5];refine congrArg (λcs=>Result.ok (Value.slice (some ⟨w.heap.size,0,none⟩) n c) (w.alloc (.cells cs 96))) ?_;apply Array.ext
 .simp [madeCells,oj]
 .intro i h1 h2;simp[madeCells,oj,Value.cells,dE]
def Ow.AO(w:World)(base n c:Nat)(hb:base<=w.heap.size)(hc:n<=c)(hn:c<=10000000000):
 Ow (w.alloc (.cells (oj (List.replicate c 0)).toArray 96)) base (.slice (some ⟨w.heap.size,0,none⟩) n c) (List.replicate n 0):=
 ⟨⟨by simp[oj],.inr ⟨w.heap.size,c,_,aH,hb,heap_alloc_new w _,by simpa using hc,by simp only[maxLen];omega,by simp[oj],by
  simp[oj,List.take_replicate,de hc]⟩⟩,iE.Eb n⟩
def iC.own{w w1 w2:World}(h:iC w w1)(v:Value)(L:List Nat)(ho:Ow w1 w.heap.size v L)(hg:w1.grownBy w2 v.ownBlock):iC w w2:=
 h.grown hg h.size (λk hk=>(ho.row.lt k hk).1)
def Yb(x q s:Nat)(hx:x<4294967296)(hs:s<32)(hq:q<2^s):
 bits BinOp.or IntKind.u64 (IntKind.u64.wrap ((x:Int)*2^s)) (q:Int)=((x*2^s+q:Nat):Int)/\x*2^s+q<18446744073709551616/\(x*2^s+q)/4294967296<2^s:=by
 have hp:2^s<=2^31:=bI aE aC;have e31:(2:Nat)^31=2147483648:= aE ;have h1:(x+1)*2^s<=4294967296*2^s:=bK _ hx;rw[bR,bU]at h1;have h2:x*2^s<4294967296*2^s:=df hx (bj aE);refine⟨?_,aC,aC⟩;have e:((x:Int)*2^s)=((x*2^s:Nat):Int):= aH ;rw[e,IntKind.wrap_u64,show((x*2^s:Nat):Int)%18446744073709551616=((x*2^s:Nat):Int)by omega,KD _ _ aC aC,Nat.or_comm,J2 q x s hq,Nat.add_comm]
def Wt(A:Option Addr)(c:Nat)(L:List Nat)(n:Nat)(w:World)(hs:Sl w A c L)(hlen:L.length<=100000000)(hn:n<=65536):
 Calls prog 178 #[.slice A L.length c,.int .i64 n] w (λe w'=>∃ T,val T=val L*2^n/\iE T/\T.length=n/32+(iA L).length+1/\xp w T e w'):=by
 have hT:=anq (ve A c L w hs);have kF:=hs.um;have ns:=pq L;have hC:=kF.cap;have hL:=hs.rf;unfold mz at ns;have hv:=anq (pQ L);generalize iA L=M at *
 obtain⟨m,hm⟩:∃ m,m=M.length:=⟨_,rfl⟩
 rw[<-hm]at hT ns hC;have HM:=anq hm;clear hm;have vR:=VR (n/32) (n/32+m+1) aC aC;rw[show((n/32:Nat):Int)=n/32 by omega,show((n/32+m+1:Nat):Int)=n/32+m+1 by omega]at vR;have Mj:=anq (Ow.AO w w.heap.size (n/32) (n/32+m+1) (bc _) aC aC);go_enter func178,ntmps178;go_wp2_with fail;refine hT.out.mono ?_;rintro e w' ⟨rfl,rfl⟩;go_wp2;go_loopw [5,6,23] (λv cy i wr=>∃ (k q:Nat) (O:List Nat),k<=m/\i = .int .i64 k/\cy = .int .u64 q/\q<2^(n%32)/\O.length=n/32+k/\val O+4294967296^(n/32+k)*q=val (M.take k)*2^(n%32)*4294967296^(n/32)/\Ow wr w.heap.size v O/\iC w wr) (λ_ _ i _=>m-(intOf i).toNat)
 case atStart=>
  exact⟨0,0,List.replicate (n/32) 0,bV _,rfl,rfl,bj aE,aH,by simp[CQ],Mj.out,iC.alloc _ _⟩
 case round=>
  obtain⟨k,q,O,hk,rfl,rfl,hq,hO,kE,oq,hb⟩:=hrel;have HV:=anq kE;have HO:=anq hO;have Ts:O.length<=200000000:= aC ;have ua:=anq hq;clear kE hO hq;obtain⟨OA,Oc,rfl,B2⟩:=oq.sl;by_cases im:k<m
  .have BS:k<M.length:=by have:=HM.out;omega
   obtain⟨ab,ao,rfl,_,c1⟩:=(kF.below hb).mA BS;have nm:M[k]<4294967296:=kF.ok.get BS;have HX:=anq (Ya (c:=q) (s:=n%32) (n0:=n/32) BS HO.out HV.out);generalize M[k]=x at *
   obtain⟨hw,AH,yV⟩:=Yb x q (n%32) nm (bE _ aE) ua.out;generalize x*2^(n%32)+q=z at *
   have FP:=anq yV;clear yV;have my:O.length+[z%4294967296].length<=10000000000:= aN ;go_wp2_with (at_builtin;go_must (refine zO aG _ _ aG w.heap.size _ O aG (oq.alloc _) _ _ _ [z%4294967296] aG aG (Sl.D1 _ _ (z%4294967296) aC aC) my (wZ hb.size _) ?_);intro v' w1 wS hg sB)
   go_roundw
   case rel=>
    exact⟨k+1,z/4294967296,O++[z%4294967296],aC,by go_num,by go_num,FP.out,by rw[cA,HO.out];rfl,HX.out,wS,(hb.trans (iC.alloc _ _)).own _ _ (oq.alloc _) hg⟩
   case measure=>simp[intOf];omega
  .obtain rfl:k=m:= aC ;have my:O.length+[q].length<=10000000000:= aN ;have afz:q<4294967296:=by
    have:=ua.out;have hp:2^(n%32)<=2^31:=bI aE aC;have e31:(2:Nat)^31=2147483648:= aE ;omega
   have hqm:(q:Int)%4294967296=q:= aC ;go_wp2_with (at_builtin;go_must (refine zO aG _ _ aG w.heap.size _ O aG (oq.alloc _) _ _ _ [q] aG aG (Sl.D1 _ _ q aC aC) my (wZ hb.size _) ?_);intro v' w1 wS hg sB)
   obtain⟨A',c',rfl,ot⟩:=wS.sl;go_ret;refine⟨O++[q],?_,ot.ok,by rw[cA,HO.out,<-HM.out];rfl,A',c',rfl,ot,(hb.trans (iC.alloc _ _)).own _ _ (oq.alloc _) hg⟩;have h:=HV.out;rw[cN (by rw[HM.out];exact bc _)]at h;rw[Bk,HO.out,su,KI,cI,bS,h,<-hv.out,tz,bA,<-bh];congr 2;omega
def Wm(A:Option Addr)(c:Nat)(L:List Nat)(n:Nat)(w:World)(hs:Sl w A c L)(hlen:L.length<=256)(hn:n<=65536)(qW:(gS (val L*2^n)).length<=256):
 Calls prog 149 #[.slice A L.length c,.int .i64 n] w (C0 w (gS (val L*2^n)) 0):=by
 have H1:=anq (λw (h:Sl w A c L)=>Wt A c L n w h aC hn);obtain⟨R,hR⟩:∃ R,R=gS (val L*2^n):=⟨_,rfl⟩
 rw[<-hR]at qW ⊢;have HR:=anq hR;clear hR;go_enter func149,ntmps149;go_wp2_with fail;refine(NI _ A _ c _ false (PY _ _ _ _) aN).mono ?_;rintro e w' ⟨rfl,rfl⟩;go_wp2_with fail;refine(H1.out _ (hs.alloc _)).mono ?_;rintro e w' ⟨T,hT,Fm,-,A',c',rfl,ot,hb⟩;have h3:=anq (show iA T=R by rw[sr Fm,hT,HR.out]);clear hT Fm;go_wp2_with fail;refine(Gk A' c' T _ ot (by rw[h3.out];exact qW)).mono ?_;rintro e w'' ⟨A'',c'',rfl,uP,nh⟩;go_wp2;go_ret2;rw[<-h3.out];exact⟨A'',c'',rfl,uP,(iC.alloc _ _).trans (hb.trans nh)⟩
def aj8(A:Option Addr)(c:Nat)(L:List Nat)(n:Nat)(w:World)(hs:Sl w A c L)(hlen:L.length<=256)(hn:n<=65536)(qW:(gS (val L*2^n)).length<=256):
 Calls prog 100 #[.slice A L.length c,.int .i64 n] w (xp w (gS (val L*2^n))):=by
 have H1:=anq (Wm A c L n w hs hlen hn qW);generalize gS (val L*2^n)=R at *
 go_enter func100,ntmps100;go_wp2_with fail;refine H1.out.mono ?_;rintro e w'' ⟨A'',c'',rfl,uP,nh⟩;go_wp2;go_ret;exact⟨A'',c'',rfl,uP,nh⟩
def alA(a b:Nat)(ha:a<18446744073709551616)(hb:b<18446744073709551616):bits .and .u64 (a:Int) (b:Int)=((a &&& b:Nat):Int):=by
 have hx:a &&& b<2^64:=fe _ aC;have h1:(BitVec.ofInt 64 (a:Int)).toNat=a:=by
  rw[gv,gy];exact bX aC 
 have h2:(BitVec.ofInt 64 (b:Int)).toNat=b:=by
  rw[gv,gy];exact bX aC 
 show IntKind.u64.wrap ((BitVec.ofInt 64 (a:Int) &&& BitVec.ofInt 64 (b:Int)).toNat:Int)=_;rw[BitVec.toNat_and,h1,h2,IntKind.wrap_u64];omega
def Ez(z:Nat)(hz:z<18446744073709551616):bits BinOp.and IntKind.u64 (z:Int) 4294967295=(z:Int)%4294967296:=by
 have e:(4294967295:Int)=((4294967295:Nat):Int):=rfl;rw[e,alA z _ hz aC,show(4294967295:Nat)=2^32-1 by decide,anh];simp
def ake(x y s:Nat)(hx:x<4294967296)(hy:y<4294967296):
 bits BinOp.and IntKind.u64 (bits BinOp.or IntKind.u64 (x:Int) ((y:Int)*4294967296)/2^s) 4294967295=(((x+4294967296*y)/2^s%4294967296:Nat):Int):=by
 have e:((y:Int)*4294967296)=((y*2^32:Nat):Int):= aH ;rw[e,KD x (y*2^32) aC aC,J2 x y 32 aC];have h:(x+y*2^32)/2^s<18446744073709551616:=ck (bT _ _) aC;have h2:=Ez _ h;rw[show(((x+y*2^32:Nat):Int)/2^s)=(((x+y*2^32)/2^s:Nat):Int)by simp,h2];simp[bD]
def akd(x s:Nat)(hx:x<4294967296):bits BinOp.and IntKind.u64 ((x:Int)/2^s) 4294967295=(((x+4294967296*0)/2^s%4294967296:Nat):Int):=by
 have h:x/2^s<18446744073709551616:=ck (bT _ _) aC;rw[show((x:Int)/2^s)=((x/2^s:Nat):Int)by simp,Ez _ h];simp
def ai2(A:Option Addr)(c:Nat)(M:List Nat)(n:Nat)(w:World)(kF:Sl w A c M)(hlen:M.length<=3000)(hn:n<=100000):
 Calls prog 130 #[.slice A M.length c,.int .i64 n] w (xp w (gS (val M/2^n))):=by
 have hC:=kF.cap;have hL:=kF.rf;have MG:Hid (iA (qo (n%32) (M.drop (n/32)))=gS (val M/2^n)):=by
  show _=_;rw[sr (AW _ _),KJ kF.ok]
 obtain⟨R,hR⟩:∃ R,R=gS (val M/2^n):=⟨_,rfl⟩
 rw[<-hR]at MG ⊢;clear hR;obtain⟨m,hm⟩:∃ m,m=M.length:=⟨_,rfl⟩
 rw[<-hm]at hlen hC ⊢;have HM:=anq hm;clear hm;by_cases h0:m<=n/32
 .go_enter func130,ntmps130;go_wp2;go_ret;have:M.drop (n/32)=[]:=dR (by rw[<-HM.out];exact h0);have h:=MG.out;rw[this]at h;rw[<-h];exact⟨none,0,rfl,Sl.nil _,iC.refl _⟩
 .obtain ⟨ab,ao,rfl,_,_⟩:=kF.mA (i:=0) (by have:=HM.out;omega);have hK:=kF.drop (n/32);have uI:=anq (show m-n/32=(M.drop (n/32)).length by rw[eC,HM.out]);have oo:n/32<c:= aC ;have pU:0<m-n/32:= aC ;have xH:m-n/32<=3000:= aC ;generalize M.drop (n/32)=K at *
  simp only[cv,Bp]at hK;have vN:=anq (Kq (n%32) K);have Mp:=anq (Yf (n%32) K);have Fm:=anq (AW (n%32) K);generalize qo (n%32) K=T at *
  go_enter func130,ntmps130;go_wp2;go_loopw [5,6] (λv i wr=>∃ (k:Nat) (O:List Nat),k<=m-n/32/\i = .int .i64 k/\O=T.take k/\Ow wr w.heap.size v O/\iC w wr) (λ_ i _=>m-n/32-(intOf i).toNat)
  case atStart=>
   exact⟨0,[],bV _,rfl,aH,Ow.nil _ _,iC.refl _⟩
  case round=>
   obtain⟨k,O,hk,rfl,hO,oq,hb⟩:=hrel;have Ts:O.length<=3000:=by rw[hO,b8];omega
   have HO:=anq hO;clear hO;obtain⟨OA,Oc,rfl,B2⟩:=oq.sl;by_cases im:k<m-n/32
   .have uN:k<K.length:=by have:=uI.out;omega
    obtain⟨ab',ao',e',_,c1⟩:=(hK.below hb).mA uN;cases e';have hg:=Mp.out k uN;have nm:K[k]<4294967296:=hK.ok.get uN;have HK:=anq (bt uN);by_cases Je:k+1<m-n/32
    .have yN:k+1<K.length:=by have:=uI.out;omega
     obtain⟨ab',ao',e',_,c2⟩:=(hK.below hb).mA yN;cases e';have hy:K.getD (k+1) 0=K[k+1]:=by rw[bd,bt yN];rfl
     rw[hy]at hg;have q9:K[k+1]<4294967296:=hK.ok.get yN;have HG:=anq hg;clear hg hy;generalize K[k]=x at *
     generalize K[k+1]=y at *
     clear uN yN;have hw:=ake x y (n%32) nm q9;have hz:(x+4294967296*y)/2^(n%32)%4294967296<4294967296:=bE _ aE;generalize (x+4294967296*y)/2^(n%32)%4294967296=z at *
     have my:O.length+[z].length<=10000000000:= aN ;go_wp2_with (at_builtin;go_must (refine zO aG _ _ aG w.heap.size _ O aG (oq.alloc _) _ _ _ [z] aG aG (Sl.D1 _ _ z aC aC) my (wZ hb.size _) ?_);intro v' w1 wS hg sB)
     go_roundw
     case rel=>
      exact⟨k+1,O++[z],aC,by go_num,by rw[HO.out,amY,HG.out];rfl,wS,(hb.trans (iC.alloc _ _)).own _ _ (oq.alloc _) hg⟩
     case measure=>simp[intOf];omega
    .have hy:K.getD (k+1) 0=0:=by rw[bd,b7 (by have:=uI.out;omega)];rfl
     rw[hy]at hg;have HG:=anq hg;clear hg hy;generalize K[k]=x at *
     clear uN;have hw:=akd x (n%32) nm;have hz:(x+4294967296*0)/2^(n%32)%4294967296<4294967296:=bE _ aE;generalize (x+4294967296*0)/2^(n%32)%4294967296=z at *
     have my:O.length+[z].length<=10000000000:= aN ;go_wp2_with (at_builtin;go_must (refine zO aG _ _ aG w.heap.size _ O aG (oq.alloc _) _ _ _ [z] aG aG (Sl.D1 _ _ z aC aC) my (wZ hb.size _) ?_);intro v' w1 wS hg sB)
     go_roundw
     case rel=>
      exact⟨k+1,O++[z],aC,by go_num,by rw[HO.out,amY,HG.out];rfl,wS,(hb.trans (iC.alloc _ _)).own _ _ (oq.alloc _) hg⟩
     case measure=>simp[intOf];omega
   .have hOT:Hid (iA O=R):=by
     show iA O=R;rw[HO.out,cN (by rw[vN.out,<-uI.out];omega)];exact MG.out
    go_wp2_with fail;refine(OT OA Oc O _ B2 aC).mono ?_;rintro e w' ⟨A'',c'',rfl,uP,nh⟩;go_wp2;go_ret;rw[<-hOT.out];exact⟨A'',c'',rfl,uP,hb.trans nh⟩
def Ma{L:List Nat}{k:Nat}(h:k<L.length):L.getD k 0=L[k]:=by
 rw[bd,bt h];rfl
def L9{L:List Nat}{k:Nat}(h:¬k<L.length):L.getD k 0=0:=by
 rw[bd,b7 aC];rfl
def alv(x s:Nat)(hx:x<4294967296):bits BinOp.and IntKind.u32 ((x:Int)/2^s) 1=((x/2^s%2:Nat):Int):=by
 have h:x/2^s<4294967296:=ck (bT _ _) aC;rw[show((x:Int)/2^s)=((x/2^s:Nat):Int)by simp,show(1:Int)=((1:Nat):Int)from rfl,bits_and_u32_nat _ _ h aE,Nat.and_one_is_mod]
def ai5(A:Option Addr)(c:Nat)(L:List Nat)(w:World)(hs:Sl w A c L)(h1:L.length<=3000)(h0:val L≠0):
 Calls prog 129 #[.slice A L.length c] w λe w'=>e = .returned (.int .i64 (jl (val L)))/\w=w':=by
 have hz:=ES hs.ok h0;have HB:=anq (λk (hk:k<jl (val L))=>aav h0 hk);have HE:=anq (aau h0);have HV:=anq (λk=>aaw hs.ok k);generalize jl (val L)=t at *
 go_enter func129,ntmps129;go_wp2;go_loop [3] (λi=>∃ k:Nat,k<=t/\i = .int .i64 k) (λi=>t-(intOf i).toNat)
 case atStart=>exact⟨0,bV _,rfl⟩
 case round=>
  obtain⟨k,hk,rfl⟩:=hrel;have MO:k/32<L.length:= aC ;obtain⟨ab,ao,rfl,_,c1⟩:=hs.mA MO;have hv:=HV.out k MO;have nm:L[k/32]<4294967296:=hs.ok.get MO;generalize L[k/32]=x at *
  clear HV;have BM:=alv x (k%32) nm;rw[<-hv]at BM;clear hv;by_cases hkt:k<t
  .rw [HB.out k hkt]at BM;have hb:(bits BinOp.and IntKind.u32 ((x:Int)/2^(k%32)) 1==0)=true:=by rw[BM];rfl
   clear BM;go_wp2;go_round
   case rel=>exact⟨k+1,aC,by go_num⟩
   case measure=>simp[intOf];omega
  .obtain rfl:k=t:= aC ;rw[HE.out]at BM;have hb:(bits BinOp.and IntKind.u32 ((x:Int)/2^(k%32)) 1==0)=false:=by rw[BM];rfl
   clear BM;go_wp2;go_ret;exact⟨rfl,rfl⟩
def V8{O:List Nat}{p a b c o:Nat}(ho:O[p]? = some o):
 val (O.set p ((a*b+o+c)%4294967296))+4294967296^(p+1)*((a*b+o+c)/4294967296)=val O+4294967296^p*c+4294967296^p*(a*b):=by
 obtain⟨hp,rfl⟩:=bY.1 ho;have h:=PB (x:=(a*b+O[p]+c)%4294967296) hp;have e:=congrArg (4294967296^p * ·) (et (a*b+O[p]+c) 4294967296);simp only[bO]at e;rw[bC,bA];omega
def Q4{O:List Nat}{p c o:Nat}(ho:O[p]? = some o):
 val (O.set p ((o+c)%4294967296))+4294967296^(p+1)*((o+c)/4294967296)=val O+4294967296^p*c:=by
 have h:=V8 (a:=0) (b:=0) (c:=c) ho;simpa using h
def ss(x:Nat)(h:x<18446744073709551616):IntKind.u64.wrap (x:Int)=x:=by rw[IntKind.wrap_u64];omega
def Fp.iE.X9{L:List Nat}(h:iE L)(k:Nat)(x:Nat):iE (L.set k (x%4294967296)):=h.set k (bE _ aE)
def OS(s:Bool)(A:Option Addr)(c:Nat)(L:List Nat)(e:Int)(w:World)(hs:Sl w A c L)(hlen:L.length<=3000)(mn:-1000000<=e)(lk:e<=1000000):
 Calls prog 78 #[.bool s,.slice A L.length c,.int .i64 e] w (yj w (canon s (val L) e)):=by
 by_cases h0:val L=0
 .have pf:=anq (show canon s (val L) e=iq by unfold canon;rw[aZ h0];rfl);have M4:iA L=[]:=by rw[sr hs.ok,h0,nU]
  have hT:=anq (λw (h:Sl w A c L)=>OT A c L w h aC);rw[M4]at hT;clear M4 h0;go_enter func78,ntmps78;go_wp2_with fail;refine(hT.out _ (hs.alloc _)).mono ?_;rintro e w' ⟨A',c',rfl,ot,hb⟩;have bx:=(jg.new w false none 0 0 0).ext hb;have b0:=bx.c0;have b1:=bx.c1;have b2:=bx.c2;have f0:=bx.fr 0;have f1:=bx.fr 1;have f2:=bx.fr 2;go_wp2;rw[pf.out];have hz:gS iq.m=[]:=nU;exact yC rfl rfl rfl (bx.set _ _ _ _ _) (by rw[hz];rfl) (by rw[hz];exact bx.rm (Sl.nil _) _ _ _ _ _) (jg.qL ((iC.alloc _ _).trans hb) (bc _) _ _ _ _ _)
 .have pf:=anq (show canon s (val L) e=⟨s,val L/2^jl (val L),e+jl (val L)⟩by unfold canon;rw[aY h0]);have hT:=anq (λw (h:Sl w A c L)=>OT A c L w h aC);have Uu:=pq L;unfold mz at Uu;have hv:=pQ L;have mi:=hs.ok.iA;generalize iA L=M at *
  rw[<-hv]at h0 pf ⊢;clear hv;have hZ:=anq (λA c w (h:Sl w A c M)=>ai5 A c M w h aC h0);have tW:jl (val M)<=100000:=by have:=ES mi h0;omega
  have hR:=anq (λA c w (h:Sl w A c M)=>ai2 A c M (jl (val M)) w h aC tW);have s8:M.length≠0:=by intro h;rw[di h]at h0;exact h0 rfl
  generalize val M/2^jl (val M)=q at *
  generalize jl (val M)=t at *
  obtain⟨m,hm⟩:∃ m,m=M.length:=⟨_,rfl⟩
  go_enter func78,ntmps78;go_wp2_with fail;refine(hT.out _ (hs.alloc _)).mono ?_;rintro e' w1 ⟨A1,c1,rfl,uQ,iQ⟩;go_wp2_with fail;refine(hZ.out _ _ _ uQ).mono ?_;rintro e' w2 ⟨rfl,rfl⟩;go_wp2_with fail;refine(hR.out _ _ _ uQ).mono ?_;rintro e' w2 ⟨A2,c2,rfl,kF,lQ⟩;have hb:=iQ.trans lQ;have bx:=(jg.new w false none 0 0 0).ext hb;have b0:=bx.c0;have b1:=bx.c1;have b2:=bx.c2;have f0:=bx.fr 0;have f1:=bx.fr 1;have f2:=bx.fr 2;go_wp2;rw[pf.out];exact yC rfl rfl rfl (bx.set _ _ _ _ _) rfl (bx.rm kF _ _ _ _ _) (jg.qL ((iC.alloc _ _).trans hb) (bc _) _ _ _ _ _)
def ac3(A:Option Addr)(c:Nat)(L:List Nat)(w:World)(hs:Sl w A c L)(h1:L.length<=3000)(h0:val L≠0)(hT:Tb w):
 Calls prog 148 #[.slice A L.length c] w λe w'=>e = .returned (.int .i64 (jl (val L)))/\w=w':=by
 have mi:=hs.ok;have HV:=anq (λi hi h hx=>acx mi i hi h hx);have H0:=anq h0;clear h0;go_enter func148,ntmps148;go_wp2;go_loop [3,8] (λn i=>∃ k:Nat,k<=L.length/\i = .int .i64 k/\n = .int .i64 ((32*k:Nat):Int)/\∀ j,(hj:j<k)->L[j]? = some 0) (λ_ i=>L.length-(intOf i).toNat)
 case atStart=>exact⟨0,bV _,rfl,rfl,λj hj=> aC⟩
 case round=>
  obtain⟨k,hk,rfl,rfl,hz⟩:=hrel;have HZ:=anq hz;clear hz;by_cases im:k<L.length
  .obtain ⟨ab,ao,rfl,_,c1⟩:=hs.mA im;have nm:L[k]<4294967296:=mi.get im;have HG:=anq (bt im);have HC:=anq (λhx=>HV.out k im (λj hj=>by have:=HZ.out j hj;rw[bt aC]at this;simpa using this) hx);clear HV;generalize L[k]=x at *
   by_cases hx:x=0
   .have HX:=anq hx;clear hx;have hb:((x:Int) != 0)=false:=by have:=HX.out;simp;omega
    go_wp2;go_round
    case rel=>exact⟨k+1,aC,by go_num,by go_num,λj hj=>by
     by_cases e:j=k
     .subst e;rw[HG.out,HX.out]
     .exact HZ.out j aC⟩
    case measure=>simp[intOf];omega
   .have hb:((x:Int) != 0)=true:= aN ;have HX:=anq (HC.out hx);have amj:jl x<=32:=by
     have h1:=Gy hx;rcases fA 32 (jl x)with h|h
     .have:=gz (a:=2) aE h;have e:(2:Nat)^32=4294967296:= aE ;omega
     .exact h
    go_wp2_with (go_at_call 177;refine(alr x hx nm _ hT).mono ?_;rintro e w' ⟨rfl,rfl⟩)
    go_ret;exact⟨oZ (by rw[HX.out];simp),rfl⟩
  .exfalso;have:val L=0:=by
    rw[G6];intro y hy;obtain⟨j,hj,rfl⟩:=List.getElem_of_mem hy;have:=HZ.out j aC;rw[bt hj]at this;simpa using this
   exact H0.out this
def Iu(s:Bool)(A:Option Addr)(c:Nat)(L:List Nat)(e:Int)(w:World)(hs:Sl w A c L)(_hlen:L.length<=100000)(ns:(iA L).length<=256)(mn:-1000000<=e)(lk:e<=1000000)(kq:Tb w):
 Calls prog 98 #[.bool s,.slice A L.length c,.int .i64 e] w (yj w (canon s (val L) e)):=by
 have hT:=anq (λw (h:Sl w A c L)=>ac9 A c L w h);have kF:=hs.um;have hv:=pQ L;have mi:=hs.ok.iA;have Ca:=zJ L;generalize iA L=M at *
 rw[<-hv];clear hv;by_cases h0:val M=0
 .have pf:=anq (show canon s (val M) e=iq by unfold canon;rw[aZ h0];rfl);have s8:Hid (M.length=0):=by
   show M.length=0;rw[Ca.E7 mi,h0,nU];rfl
  obtain⟨m,hm⟩:∃ m,m=M.length:=⟨_,rfl⟩
  rw[<-hm]at hT s8;clear hm h0;obtain rfl:m=0:=s8.out;clear s8;go_enter func98,ntmps98;go_wp2_with fail;refine(hT.out _ (hs.alloc _)).mono ?_;rintro e w' ⟨rfl,rfl⟩;have bx:=jg.new w false none 0 0 0;have b0:=bx.c0;have b1:=bx.c1;have b2:=bx.c2;have f0:=bx.fr 0;have f1:=bx.fr 1;have f2:=bx.fr 2;go_wp2;rw[pf.out];have hz:gS iq.m=[]:=nU;exact yC rfl rfl rfl bx (by rw[hz];rfl) (by rw[hz];exact Sl.nil _) (iC.alloc _ _)
 .have pf:=anq (show canon s (val M) e=⟨s,val M/2^jl (val M),e+jl (val M)⟩by unfold canon;rw[aY h0]);have hZ:=anq (λA c w (h:Sl w A c M) (ht:Tb w)=>ac3 A c M w h aC h0 ht);have tW:jl (val M)<=65536:=by have:=ES mi h0;omega
  have hR:=anq (λA c w (h:Sl w A c M)=>Wp A c M (jl (val M)) w h ns tW);have s8:M.length≠0:=by intro h;rw[di h]at h0;exact h0 rfl
  have wU:(gS (val M/2^jl (val M))).length<=256:=by
   refine uX (ck (bT _ _) ?_);exact bJ (oA mi) (bI aE ns)
  generalize val M/2^jl (val M)=q at *
  generalize jl (val M)=t at *
  have hK:=anq (λA c w (h:Sl w A c (gS q))=>Lv A c (gS q) w h aC);have hP:=anq (λA c w (h:Sl w A c (gS q))=>Lu A c (gS q) w h);obtain⟨Q,hQ⟩:∃ Q,Q=gS q:=⟨_,rfl⟩
  have HQ:=anq hQ;rw[<-hQ]at hR hK hP wU;clear hQ;go_enter func98,ntmps98;go_wp2_with fail;refine(hT.out _ (hs.alloc _)).mono ?_;rintro e' w1 ⟨rfl,rfl⟩;go_wp2_with fail;refine(hZ.out _ _ _ (kF.alloc _) (kq.alloc _)).mono ?_;rintro e' w2 ⟨rfl,rfl⟩;go_wp2_with fail;refine(hR.out _ _ _ (kF.alloc _)).mono ?_;rintro e' w2 ⟨A2,c2,rfl,afB,lQ⟩;go_wp2_with fail;refine(hK.out _ _ _ afB).mono ?_;rintro e' w3 ⟨A3,c3,rfl,FJ,qV⟩;go_wp2_with fail;refine(hP.out _ _ _ FJ).mono ?_;rintro e' w4 ⟨rfl,rfl⟩;have hb:=lQ.trans qV;have bx:=(jg.new w false none 0 0 0).ext hb;have b0:=bx.c0;have b1:=bx.c1;have b2:=bx.c2;have f0:=bx.fr 0;have f1:=bx.fr 1;have f2:=bx.fr 2;go_wp2;rw[pf.out];rw[HQ.out]at FJ ⊢;exact yC rfl rfl rfl (bx.set _ _ _ _ _) rfl (bx.rm FJ.Rp _ _ _ _ _) (jg.qL ((iC.alloc _ _).trans hb) (bc _) _ _ _ _ _)
def LD(A:Option Addr)(c:Nat)(L:List Nat)(w:World)(hs:Sl w A c L)(hlen:L.length<=100000000):
 Calls prog 91 #[.slice A L.length c] w λe w'=>e = .returned (.int .i64 (ia (val L)))/\w=w':=by
 have H:=anq (Wj A c L w hs hlen);go_enter func91,ntmps91;go_wp2_with fail;refine H.out.mono ?_;rintro e w' ⟨rfl,rfl⟩;go_wp2;go_ret;exact⟨rfl,rfl⟩
def uS(m:Nat)(e:Int):Bool:=decide (mB ⟨false,m,e⟩)
def Np(s:Bool)(A:Option Addr)(c:Nat)(L:List Nat)(e:Int)(w:World)(hs:Sl w A c L)(hlen:L.length<=100000000)(mn:-9223372036854775808<=e)(lk:e<=9223372036854775807):
 Calls prog 90 #[.agg #[.bool s,.slice A L.length c,.int .i64 e]] w λr w'=>r = .returned (.bool (uS (val L) e))/\iC w w':=by
 have H:=anq (λw (h:Sl w A c L)=>LD A c L w h hlen);have hn:Hid (uS (val L) e=decide (ia (val L)=0\/ia (val L)<=4096 /\ -16384<=e/\e<=16384/\(ia (val L):Int)+e<=16384)):=by
  have h:ia (val L)=0↔val L=0:=by
   constructor
   .intro h;apply bL;intro h0;have:=nR h0;omega
   .intro h;rw[h];rfl
  exact amZ.2 (or_congr h.symm Iff.rfl)
 have Ap:ia (val L)<=32*L.length:=lZ.2 (by rw[<-tz];exact oA hs.ok);generalize ia (val L)=n at *
 generalize uS (val L) e=b at *
 have aff:n=0\/(0<n/\4096<n)\/(0<n/\n<=4096/\e < -16384)\/(0<n/\n<=4096 /\ -16384<=e/\16384<e)\/(0<n/\n<=4096 /\ -16384<=e/\e<=16384/\16384<(n:Int)+e)\/(0<n/\n<=4096 /\ -16384<=e/\e<=16384/\(n:Int)+e<=16384):= aC ;rcases aff with h|⟨h,h1⟩|⟨h,h1,h2⟩|⟨h,h1,h2,h3⟩|⟨h,h1,h2,h3,h4⟩|⟨h,h1,h2,h3,h4⟩
 .subst h;have hb:b=true:=by rw[hn.out];simp
  clear hn;subst hb;go_enter func90,ntmps90;go_wp2_with fail;refine(H.out _ (hs.alloc _)).mono ?_;rintro r w' ⟨rfl,rfl⟩;go_wp2;go_ret;exact⟨rfl,iC.alloc _ _⟩
 .have hb:b=false:=by rw[hn.out];simp;omega
  have qA:((n:Int)==0)=false:= aN ;have rU:decide ((n:Int)<=4096)=false:= aN ;clear hn;subst hb;go_enter func90,ntmps90;go_wp2_with fail;refine(H.out _ (hs.alloc _)).mono ?_;rintro r w' ⟨rfl,rfl⟩;go_wp2;go_ret;exact⟨rfl,iC.alloc _ _⟩
 .have hb:b=false:=by rw[hn.out];simp;omega
  have qA:((n:Int)==0)=false:= aN ;have rU:decide ((n:Int)<=4096)=true:= aN ;have mh:decide (-16384<=e)=false:= aN ;clear hn;subst hb;go_enter func90,ntmps90;go_wp2_with fail;refine(H.out _ (hs.alloc _)).mono ?_;rintro r w' ⟨rfl,rfl⟩;go_wp2;go_ret;exact⟨rfl,iC.alloc _ _⟩
 .have hb:b=false:=by rw[hn.out];simp;omega
  have qA:((n:Int)==0)=false:= aN ;have rU:decide ((n:Int)<=4096)=true:= aN ;have mh:decide (-16384<=e)=true:= aN ;have DC:decide (e<=16384)=false:= aN ;clear hn;subst hb;go_enter func90,ntmps90;go_wp2_with fail;refine(H.out _ (hs.alloc _)).mono ?_;rintro r w' ⟨rfl,rfl⟩;go_wp2;go_ret;exact⟨rfl,iC.alloc _ _⟩
 .have hb:b=false:=by rw[hn.out];simp;omega
  have qA:((n:Int)==0)=false:= aN ;have rU:decide ((n:Int)<=4096)=true:= aN ;have mh:decide (-16384<=e)=true:= aN ;have DC:decide (e<=16384)=true:= aN ;have hn4:decide ((n:Int)+e<=16384)=false:= aN ;clear hn;subst hb;go_enter func90,ntmps90;go_wp2_with fail;refine(H.out _ (hs.alloc _)).mono ?_;rintro r w' ⟨rfl,rfl⟩;go_wp2;go_ret;exact⟨rfl,iC.alloc _ _⟩
 .have hb:b=true:=by rw[hn.out];simp;omega
  have qA:((n:Int)==0)=false:= aN ;have rU:decide ((n:Int)<=4096)=true:= aN ;have mh:decide (-16384<=e)=true:= aN ;have DC:decide (e<=16384)=true:= aN ;have hn4:decide ((n:Int)+e<=16384)=true:= aN ;clear hn;subst hb;go_enter func90,ntmps90;go_wp2_with fail;refine(H.out _ (hs.alloc _)).mono ?_;rintro r w' ⟨rfl,rfl⟩;go_wp2;go_ret;exact⟨rfl,iC.alloc _ _⟩
def oC(s:Bool)(L:List Nat)(e:Int):Prop:=nI L/\L.length<=256/\Dy.gY ⟨s,val L,e⟩
def RY(s:Bool)(e:Int):oC s [] e↔s=false/\e=0:=by
 unfold oC;constructor
 .rintro ⟨_,_,hc,_⟩;rcases hc with⟨_,h1,h2⟩|h
  .exact ⟨h1,h2⟩
  .simp at h
 .rintro ⟨rfl,rfl⟩;exact⟨nI.nil,aH,rn⟩
def RX{s:Bool}{L:List Nat}{e:Int}{x y:Nat}(hx:L[0]? = some x)(hy:L[L.length-1]? = some y):
 oC s L e↔L.length<=256/\x%2=1/\y≠0/\uS (val L) e=true:=by
 have Ul:val L%2=x%2:=by
  cases L with
  |nil=>simp at hx
  |cons z l=>simp at hx;subst hx;simp only[su];omega
 have Ca:nI L↔y≠0:=by
  rw[Bi];obtain⟨h1,h2⟩:=bY.1 hy;constructor
  .intro h;rw[<-h2];exact h aC 
  .intro h _;rw[h2];exact h
 unfold oC uS;rw[Ca,gE];constructor
 .rintro ⟨h1,h2,hc,hr⟩;have sf:mB ⟨false,val L,e⟩:=hr;refine⟨h2,?_,h1,sf⟩;rcases hc with⟨h,_,_⟩|h
  .exfalso;have:=(Ca.2 h1).En (by intro h0;subst h0;simp at hx);simp only at h;omega
  .rw [<-Ul];exact h
 .rintro ⟨h1,h2,h3,h4⟩;exact⟨h3,h1,.inr (by show val L%2=1;rw[Ul];exact h2),h4⟩
def qs{b:Bool}{P:Prop}(h:b=true↔P)(hn:¬P):b=false:=by
 cases b
 .rfl
 .exact absurd (h.1 rfl) hn
def Lb{b:Bool}{P:Prop}(h:b=true↔P)(hn:P):b=true:=h.2 hn
def QJ{b v:Bool}{P:Prop}(h:b=true↔P)(hn:P↔v=true):b=v:=by
 cases b<;>cases v<;>simp_all
def BD(s:Bool)(A:Option Addr)(c:Nat)(L:List Nat)(e:Int)(w:World)(b:Bool)(hs:Sl w A c L)(mn:-9223372036854775808<=e)(lk:e<=9223372036854775807)(hb:b=true↔oC s L e):
 Calls prog 45 #[.agg #[.bool s,.slice A L.length c,.int .i64 e]] w λr w'=>r = .returned (.bool b)/\iC w w':=by
 have Ds:=hs.cap;have tW:=hs.rf;by_cases hL:L=[]
 .subst hL;rw[RY]at hb;cases s
  .by_cases h:e=0
   .subst h;have:b=true:=by simpa using hb
    clear hb;subst this;go_enter func45,ntmps45;go_wp2;go_ret;exact⟨rfl,iC.alloc _ _⟩
   .have:b=false:=qs hb (by simp[h]);have h':(e==0)=false:= aN ;clear hb;subst this;go_enter func45,ntmps45;go_wp2;go_ret;exact⟨rfl,iC.alloc _ _⟩
  .have:b=false:=qs hb aH ;clear hb;subst this;go_enter func45,ntmps45;go_wp2;go_ret;exact⟨rfl,iC.alloc _ _⟩
 .have vU:0<L.length:=fO.2 hL;clear hL;obtain⟨ab,ao,rfl,_,c1⟩:=hs.mA vU;obtain⟨ab',ao',e',_,c2⟩:=hs.mA (i:=L.length-1) aC;cases e';have nm:=hs.ok.get vU;have q9:=hs.ok.get (aC:L.length-1<L.length);rw[RX (bt vU) (bt (aC:L.length-1<L.length))]at hb;have c1':w.cell? ⟨ab,ao,none⟩=some (.int .u32 (L[0]:Int)):=c1;clear c1;generalize L[0]=x at *
  generalize L[L.length-1]=y at *
  have HB:=anq hb;clear hb;have H:=anq (λw (h:Sl w (some ⟨ab,ao,none⟩) c L) (hl:L.length<=256)=>Np s _ c L e w h aC mn lk);obtain⟨n,hn⟩:∃ n,n=L.length:=⟨_,rfl⟩
  rw[<-hn]at vU c2 H HB Ds ⊢;clear hn;generalize uS (val L) e=v at *
  have qA:((n:Int)==0)=false:= aN ;by_cases h1:n<=256
  .have rU:decide ((n:Int)<=256)=true:= aN ;by_cases h2:x%2=1
   .have mh:((x:Int)%2==1)=true:= aN ;by_cases h3:y=0
    .have:b=false:=qs HB.out (by simp[h3]);have DC:((y:Int) != 0)=false:= aN ;clear HB;subst this;go_enter func45,ntmps45;go_wp2;go_ret;exact⟨rfl,iC.alloc _ _⟩
    .have:b=v:=QJ HB.out (by simp[h1,h2,h3]);have DC:((y:Int) != 0)=true:= aN ;clear HB;subst this;go_enter func45,ntmps45;go_wp2_with fail;refine(H.out _ (hs.alloc _) h1).mono ?_;rintro r w' ⟨rfl,nh⟩;go_wp2;go_ret;exact⟨rfl,(iC.alloc _ _).trans nh⟩
   .have:b=false:=qs HB.out (λh=>h2 h.2.1);have mh:((x:Int)%2==1)=false:= aN ;clear HB;subst this;go_enter func45,ntmps45;go_wp2;go_ret;exact⟨rfl,iC.alloc _ _⟩
  .have:b=false:=qs HB.out (λh=>h1 h.1);have rU:decide ((n:Int)<=256)=false:= aN ;clear HB;subst this;go_enter func45,ntmps45;go_wp2;go_ret;exact⟨rfl,iC.alloc _ _⟩
def JH{n k:Nat}(h:ia n<=32*k):(gS n).length<=k:=uX (by rw[tz];exact lZ.1 h)
def acU(d:Dy):oC d.neg (gS d.m) d.e↔d.gY:=by
 unfold oC;rw[kf];constructor
 .exact λh=>h.2.2
 .intro h;refine⟨Bj _,?_,h⟩;rcases h.range with h0|⟨h1,_⟩
  .rw [h0,nU];simp
  .exact JH aC 
def oC.E7{s:Bool}{L:List Nat}{e:Int}(h:oC s L e)(hk:iE L):L=gS (val L):=h.1.E7 hk
def oC.len{s:Bool}{L:List Nat}{e:Int}(h:oC s L e):L.length<=256:=h.2.1
def oC.bits{s:Bool}{L:List Nat}{e:Int}(h:oC s L e):ia (val L)<=4096:=by
 rcases h.2.2.range with h0|⟨h1,_⟩
 .simp only at h0;rw[h0];decide
 .exact h1
def oC.exp{s:Bool}{L:List Nat}{e:Int}(h:oC s L e):-16384<=e/\e<=16384:=by
 rcases h.2.2.range with h0|⟨_,h1,h2,_⟩
 .rcases h.2.2.canon with⟨_,_,h3⟩|h3
  .simp only at h3;omega
  .simp only at h0 h3;omega
 .exact ⟨h1,h2⟩
def LF(s:Bool)(A:Option Addr)(c:Nat)(L:List Nat)(e:Int)(w:World)(hs:Sl w A c L)(hd:oC s L e):
 Calls prog 67 #[.agg #[.bool s,.slice A L.length c,.int .i64 e]] w λr w'=>r = .returned (.int .i64 (Dy.ij ⟨s,val L,e⟩))/\iC w w':=by
 obtain⟨mn,lk⟩:=hd.exp;have hl:=hd.len;have hbt:=hd.bits;have HV:=anq (λw (h:Sl w A c L)=>BD s A c L e w true h aC aC (by simp[hd]));have HS:=anq (λw (h:Sl w A c L)=>LD A c L w h aC);by_cases h0:L=[]
 .subst h0;go_enter func67,ntmps67;go_wp2_with fail;refine(HV.out _ (hs.alloc _)).mono ?_;rintro r w' ⟨rfl,hb⟩;have bx:=(jg.new w s A 0 c e).ext hb;have b0:=bx.c0;have b1:=bx.c1;have b2:=bx.c2;go_wp2;go_ret;exact⟨rfl,(iC.alloc _ _).trans hb⟩
 .have vU:0<L.length:=fO.2 h0;have DJ:val L≠0:=by have:=hd.1.En h0;omega
  have ht:=anq (show Dy.ij ⟨s,val L,e⟩=ia (val L)+e by unfold Dy.ij;rw[aY DJ]);clear h0 DJ;generalize Dy.ij ⟨s,val L,e⟩=t at *
  generalize ia (val L)=q at *
  have hw:IntKind.i64.wrap ((q:Int)+e)=q+e:=i64_in _ aC aC;have qA:((L.length:Int)==0)=false:=aT aC;go_enter func67,ntmps67;go_wp2_with fail;refine(HV.out _ (hs.alloc _)).mono ?_;rintro r w' ⟨rfl,hb⟩;have bx:=(jg.new w s A L.length c e).ext hb;have b0:=bx.c0;have b1:=bx.c1;have b2:=bx.c2;have ot:=(hs.alloc _).below hb;go_wp2_with fail;go_region_held3 (λw'=>w'.cell? ⟨w.heap.size,1,none⟩=some (.slice A L.length c)/\w'.cell? ⟨w.heap.size,2,none⟩=some (.int .i64 e)) (go_keep)
   (first|(go_at_call 91;refine(HS.out _ ?_).mono ?_;(exact ot.drew);rintro r w'' ⟨rfl,rfl⟩))
  go_wp2;go_ret;exact⟨oZ (by rw[ht.out]),Below.drew ((iC.alloc _ _).trans hb)⟩
def acV(s:Bool)(A:Option Addr)(c:Nat)(L:List Nat)(e:Int)(w:World)(hs:Sl w A c L)(hd:oC s L e):
 Calls prog 47 #[.agg #[.bool s,.slice A L.length c,.int .i64 e]] w λr w'=>r = .returned (.int .i64 (ia (val L)))/\iC w w':=by
 obtain⟨mn,lk⟩:=hd.exp;have hl:=hd.len;have HV:=anq (λw (h:Sl w A c L)=>BD s A c L e w true h aC aC (by simp[hd]));have HS:=anq (λw (h:Sl w A c L)=>LD A c L w h aC);go_enter func47,ntmps47;go_wp2_with fail;refine(HV.out _ (hs.alloc _)).mono ?_;rintro r w' ⟨rfl,hb⟩;have bx:=(jg.new w s A L.length c e).ext hb;have b0:=bx.c0;have b1:=bx.c1;have b2:=bx.c2;go_wp2_with fail;refine(HS.out _ ((hs.alloc _).below hb)).mono ?_;rintro r w' ⟨rfl,rfl⟩;go_wp2;go_ret;exact⟨rfl,(iC.alloc _ _).trans hb⟩
def LC(s:Bool)(A:Option Addr)(c:Nat)(L:List Nat)(e:Int)(w:World)(hs:Sl w A c L)(hd:oC s L e):
 Calls prog 46 #[.agg #[.bool s,.slice A L.length c,.int .i64 e]] w λr w'=>r = .returned (.int .i64 (Dy.iK ⟨s,val L,e⟩))/\iC w w':=by
 obtain⟨mn,lk⟩:=hd.exp;have hl:=hd.len;have HV:=anq (λw (h:Sl w A c L)=>BD s A c L e w true h aC aC (by simp[hd]));by_cases h0:L=[]
 .subst h0;go_enter func46,ntmps46;go_wp2_with fail;refine(HV.out _ (hs.alloc _)).mono ?_;rintro r w' ⟨rfl,hb⟩;have bx:=(jg.new w s A 0 c e).ext hb;have b0:=bx.c0;have b1:=bx.c1;have b2:=bx.c2;go_wp2;go_ret;exact⟨rfl,(iC.alloc _ _).trans hb⟩
 .have vU:0<L.length:=fO.2 h0;have DJ:val L≠0:=by have:=hd.1.En h0;omega
  have ht:=anq (show Dy.iK ⟨s,val L,e⟩=if s then -1 else 1 by unfold Dy.iK;rw[aY DJ]);clear h0 DJ;generalize Dy.iK ⟨s,val L,e⟩=t at *
  have qA:((L.length:Int)==0)=false:=aT aC;go_enter func46,ntmps46;go_wp2_with fail;refine(HV.out _ (hs.alloc _)).mono ?_;rintro r w' ⟨rfl,hb⟩;have bx:=(jg.new w s A L.length c e).ext hb;have b0:=bx.c0;have b1:=bx.c1;have b2:=bx.c2;cases s
  .go_wp2;go_ret;exact⟨oZ (by rw[ht.out];rfl),(iC.alloc _ _).trans hb⟩
  .go_wp2;go_ret;exact⟨oZ (by rw[ht.out];rfl),(iC.alloc _ _).trans hb⟩
def adL(e:Int)(w:World)(b:Bool)(hb:b=true↔(-32768<=e/\e<=32768)):
 Calls prog 96 #[.int .i64 e] w λr w'=>r = .returned (.bool b)/\w=w':=by
 by_cases h1:-32768<=e
 .have d1:decide (-32768<=e)=true:=by simpa using h1
  by_cases h2:e<=32768
  .have d2:decide (e<=32768)=true:=by simpa using h2
   have:=Lb hb ⟨h1,h2⟩;clear hb;subst this;go_enter func96,ntmps96;go_wp2;go_ret;exact⟨rfl,rfl⟩
  .have d2:decide (e<=32768)=false:=by simpa using h2
   have:=qs hb (λh=>h2 h.2);clear hb;subst this;go_enter func96,ntmps96;go_wp2;go_ret;exact⟨rfl,rfl⟩
 .have d1:decide (-32768<=e)=false:=by simpa using h1
  have:=qs hb (λh=>h1 h.1);clear hb;subst this;go_enter func96,ntmps96;go_wp2;go_ret;exact⟨rfl,rfl⟩
def Rl(d:Dy)(A:Option Addr)(c:Nat)(w:World)(hs:Sl w A c (gS d.m))(hl:(gS d.m).length<=100000000)(mn:-10000000<=d.e)(lk:d.e<=10000000)(hd:mB d):
 Calls prog 97 #[.agg #[.bool d.neg,.slice A (gS d.m).length c,.int .i64 d.e]] w (tI w d 0):=by
 obtain⟨s,m,e⟩:=d;simp only at *
 have hr:uS m e=true:=by unfold uS;exact a6 hd
 have HV:=anq (λw (h:Sl w A c (gS m))=>Np s A c (gS m) e w h hl aC aC);rw[kf,hr]at HV;clear hr hd;go_enter func97,ntmps97;go_wp2_with fail;refine(HV.out _ ((hs.alloc _).alloc _)).mono ?_;rintro r w' ⟨rfl,hb⟩;have bx:=((jg.new w s A (gS m).length c e).alloc (.cells #[.bool false,.slice none 0 0,.int .i64 0] 31)).ext hb;have by_:=(jg.new (w.alloc (.cells #[.bool s,.slice A (gS m).length c,.int .i64 e] 31)) false none 0 0 0).ext hb;have b0:=bx.c0;have b1:=bx.c1;have b2:=bx.c2;have bz:(w.alloc (.cells #[.bool s,.slice A (gS m).length c,.int .i64 e] 31)).heap.size=w.heap.size+1:= aH ;rw[bz]at by_;have c0:=by_.c0;have c1:=by_.c1;have c2:=by_.c2;have f0:=by_.fr 0;have f1:=by_.fr 1;have f2:=by_.fr 2;have ot:=((hs.alloc (.cells #[.bool s,.slice A (gS m).length c,.int .i64 e] 31)).alloc (.cells #[.bool false,.slice none 0 0,.int .i64 0] 31)).below hb;have nh:iC w w':=((iC.alloc _ _).trans (iC.alloc _ _)).trans hb;clear bz;go_wp2;exact vF rfl rfl rfl rfl (by_.set _ _ _ _ _) rfl (by_.rm ot _ _ _ _ _) (jg.qL nh aC _ _ _ _ _)
def ab6(d:Dy)(A:Option Addr)(c:Nat)(w:World)(hs:Sl w A c (gS d.m))(hl:(gS d.m).length<=100000000)(mn:-10000000<=d.e)(lk:d.e<=10000000)(hd:¬mB d):
 Calls prog 97 #[.agg #[.bool d.neg,.slice A (gS d.m).length c,.int .i64 d.e]] w (tI w iq 9):=by
 obtain⟨s,m,e⟩:=d;simp only at *
 have hr:uS m e=false:=by unfold uS;exact a7 hd
 have HV:=anq (λw (h:Sl w A c (gS m))=>Np s A c (gS m) e w h hl aC aC);rw[kf,hr]at HV;clear hr hd;go_enter func97,ntmps97;go_wp2_with fail;refine(HV.out _ ((hs.alloc _).alloc _)).mono ?_;rintro r w' ⟨rfl,hb⟩;have by_:=(jg.new (w.alloc (.cells #[.bool s,.slice A (gS m).length c,.int .i64 e] 31)) false none 0 0 0).ext hb;have bz:(w.alloc (.cells #[.bool s,.slice A (gS m).length c,.int .i64 e] 31)).heap.size=w.heap.size+1:= aH ;rw[bz]at by_;have c0:=by_.c0;have c1:=by_.c1;have c2:=by_.c2;have f0:=by_.fr 0;have f1:=by_.fr 1;have f2:=by_.fr 2;have nh:iC w w':=((iC.alloc _ _).trans (iC.alloc _ _)).trans hb;have hz:gS iq.m=[]:=nU;have HZ:=anq hz;clear bz hz;go_wp2;exact vF rfl rfl rfl rfl (by_.set _ _ _ _ _) (by rw[HZ.out];rfl) (by rw[HZ.out];exact by_.rm (Sl.nil _) _ _ _ _ _) (jg.qL nh aC _ _ _ _ _)
def aha(s:Bool)(A:Option Addr)(c:Nat)(L:List Nat)(e:Int)(w:World)(hs:Sl w A c L)(hlen:L.length<=256)(mn:-32768<=e)(lk:e<=32768)(kq:Tb w)(hd:mB (canon s (val L) e)):
 Calls prog 50 #[.bool s,.slice A L.length c,.int .i64 e] w (tI w (canon s (val L) e) 0):=by
 have Fz:decide (256<(L.length:Int))=false:=a7 aC;have HE:=anq (λw=>adL e w true (by simp[mn,lk]));have HC:=anq (λw (h:Sl w A c L) (ht:Tb w)=>Iu s A c L e w h aC (by have:=pq L;unfold mz at this;omega) aC aC ht);have iQ:(gS (canon s (val L) e).m).length<=100000000:=by
  unfold canon;split
  .simp [nU]
  .refine bg (uX (k:=256) (ck (bT _ _) ?_)) aE ;exact bJ (oA hs.ok) (bI aE hlen)
 have lQ:-10000000<=(canon s (val L) e).e/\(canon s (val L) e).e<=10000000:=by
  unfold canon;split
  .simp
  .rename_i h0;have:=ES hs.ok h0;simp only;omega
 obtain⟨lQ,qV⟩:=lQ;have HK:=anq (λA c w (h:Sl w A c (gS (canon s (val L) e).m))=>Rl _ A c w h iQ lQ qV hd);generalize canon s (val L) e=d at *
 clear hd iQ lQ qV;go_enter func50,ntmps50;go_wp2_with fail;refine(HE.out _).mono ?_;rintro r w' ⟨rfl,rfl⟩;go_wp2_with fail;refine(HC.out _ (hs.alloc _) (kq.alloc _)).mono ?_;rintro r w1 ⟨A1,c1,rfl,uQ,iQ⟩;go_wp2_with fail;refine(HK.out _ _ _ uQ).mono ?_;rintro r w2 ⟨A2,c2,rfl,kF,lQ⟩;have hb:=iQ.trans lQ;have bx:=(jg.new w false none 0 0 0).ext hb;have b0:=bx.c0;have b1:=bx.c1;have b2:=bx.c2;have f0:=bx.fr 0;have f1:=bx.fr 1;have f2:=bx.fr 2;go_wp2;exact vF rfl rfl rfl rfl (bx.set _ _ _ _ _) rfl (bx.rm kF _ _ _ _ _) (jg.qL ((iC.alloc _ _).trans hb) (bc _) _ _ _ _ _)
def alu(x:Nat)(hx:x<4294967296):bits BinOp.and IntKind.u32 (x:Int) 1=((x%2:Nat):Int):=by
 rw[show(1:Int)=((1:Nat):Int)from rfl,bits_and_u32_nat _ _ hx aE,Nat.and_one_is_mod]
def afM{m:Nat}(h0:m≠0)(e:Int):uS m e=true↔(ia m<=4096 /\ -16384<=e/\e<=16384/\(ia m:Int)+e<=16384):=by
 have h:uS m e=true↔mB ⟨false,m,e⟩:=gE;rw[h];constructor
 .rintro (h|h)
  .exact absurd h h0
  .exact h
 .exact λh=>.inr h
def Xh(s:Bool)(A:Option Addr)(c:Nat)(L:List Nat)(e:Int)(w:World)(b:Bool)(hs:Sl w A c L)(mn:-9223372036854775808<=e)(lk:e<=9223372036854775807)(hb:b=true↔oC s L e):
 Calls prog 107 #[.agg #[.bool s,.slice A L.length c,.int .i64 e]] w λr w'=>r = .returned (.bool b)/\iC w w':=by
 have Ds:=hs.cap;have tW:=hs.rf;by_cases hL:L=[]
 .subst hL;rw[RY]at hb;cases s
  .by_cases h:e=0
   .subst h;have:b=true:=by simpa using hb
    clear hb;subst this;go_enter func107,ntmps107;go_wp2;go_ret;exact⟨rfl,iC.alloc _ _⟩
   .have:b=false:=qs hb (by simp[h]);have h':(e==0)=false:= aN ;clear hb;subst this;go_enter func107,ntmps107;go_wp2;go_ret;exact⟨rfl,iC.alloc _ _⟩
  .have:b=false:=qs hb aH ;clear hb;subst this;go_enter func107,ntmps107;go_wp2;go_ret;exact⟨rfl,iC.alloc _ _⟩
 .have vU:0<L.length:=fO.2 hL;obtain⟨ab,ao,rfl,_,c1⟩:=hs.mA vU;obtain⟨ab',ao',e',_,c2⟩:=hs.mA (i:=L.length-1) aC;cases e';have nm:=hs.ok.get vU;have q9:=hs.ok.get (aC:L.length-1<L.length);rw[RX (bt vU) (bt (aC:L.length-1<L.length))]at hb;have c1':w.cell? ⟨ab,ao,none⟩=some (.int .u32 (L[0]:Int)):=c1;have TE:=anq (show L[L.length-1]≠0->nI L from λh=>(Bi L).2 (λ_=>h));have wL:=anq (show L[L.length-1]≠0->val L≠0 from λh=>by have:=((Bi L).2 (λ_=>h)).En hL;omega);clear c1 hL;generalize L[0]=x at *
  generalize L[L.length-1]=y at *
  have HB:=anq hb;clear hb;have H:=anq (λw (h:Sl w (some ⟨ab,ao,none⟩) c L) (hl:L.length<=256) (ht:nI L)=>aiS _ c L w h ht aC);have hr:Hid (val L≠0->(uS (val L) e=true↔(ia (val L)<=4096 /\ -16384<=e/\e<=16384/\(ia (val L):Int)+e<=16384))):=λh0=>by
   exact afM h0 e
  obtain⟨n,hn⟩:∃ n,n=L.length:=⟨_,rfl⟩
  rw[<-hn]at vU c2 H HB Ds ⊢;have HN:=anq hn;clear hn;have qA:((n:Int)==0)=false:= aN ;by_cases h1:n<=256
  .have rU:decide (256<(n:Int))=false:=a7 aC ;by_cases h3:y=0
   .have:b=false:=qs HB.out (by simp[h3]);have DC:((y:Int)==0)=true:= aN ;clear HB hr;subst this;go_enter func107,ntmps107;go_wp2;go_ret;exact⟨rfl,iC.alloc _ _⟩
   .have DC:((y:Int)==0)=false:=aT aC ;have hand:=alu x nm;by_cases h2:x%2=1
    .have mh:(bits BinOp.and IntKind.u32 (x:Int) 1==0)=false:=by rw[hand,h2];rfl
     clear hand;have h0:=wL.out h3;have Ca:=TE.out h3;have Ap:ia (val L)<=32*n:=lZ.2 (by rw[<-tz,HN.out];exact oA hs.ok);have HB2:Hid (b=true↔(ia (val L)<=4096 /\ -16384<=e/\e<=16384/\(ia (val L):Int)+e<=16384)):=by
      show b=true↔_;rw[HB.out,hr.out h0];simp[h1,h2,h3]
     have H2:=anq (λw h=>H.out w h h1 Ca);clear HB hr h0 Ca TE wL H;generalize ia (val L)=q at *
     by_cases h4:-16384<=e
     .have d4:decide (e < -16384)=false:=a7 aC ;by_cases h5:e<=16384
      .have d5:decide (16384<e)=false:=a7 aC ;by_cases h6:q<=4096
       .have d6:decide ((q:Int)<=4096)=true:=a6 aC ;by_cases h7:(q:Int)+e<=16384
        .have d7:decide ((q:Int)+e<=16384)=true:=a6 h7;have:=Lb HB2.out ⟨h6,h4,h5,h7⟩;clear HB2;subst this;go_enter func107,ntmps107;go_wp2_with fail;refine(H2.out _ (hs.alloc _)).mono ?_;rintro r w' ⟨rfl,rfl⟩;go_wp2;go_ret;exact⟨rfl,iC.alloc _ _⟩
        .have d7:decide ((q:Int)+e<=16384)=false:=a7 h7;have:=qs HB2.out (λh=>h7 h.2.2.2);clear HB2;subst this;go_enter func107,ntmps107;go_wp2_with fail;refine(H2.out _ (hs.alloc _)).mono ?_;rintro r w' ⟨rfl,rfl⟩;go_wp2;go_ret;exact⟨rfl,iC.alloc _ _⟩
       .have d6:decide ((q:Int)<=4096)=false:=a7 aC ;have:=qs HB2.out (λh=>h6 h.1);clear HB2;subst this;go_enter func107,ntmps107;go_wp2_with fail;refine(H2.out _ (hs.alloc _)).mono ?_;rintro r w' ⟨rfl,rfl⟩;go_wp2;go_ret;exact⟨rfl,iC.alloc _ _⟩
      .have d5:decide (16384<e)=true:=a6 aC ;have:=qs HB2.out (λh=>h5 h.2.2.1);clear HB2;subst this;go_enter func107,ntmps107;go_wp2;go_ret;exact⟨rfl,iC.alloc _ _⟩
     .have d4:decide (e < -16384)=true:=a6 aC ;have:=qs HB2.out (λh=>h4 h.2.1);clear HB2;subst this;go_enter func107,ntmps107;go_wp2;go_ret;exact⟨rfl,iC.alloc _ _⟩
    .have mh:(bits BinOp.and IntKind.u32 (x:Int) 1==0)=true:=by rw[hand,(aC:x%2=0)];rfl
     have:b=false:=qs HB.out (λh=>h2 h.2.1);clear HB hand hr;subst this;go_enter func107,ntmps107;go_wp2;go_ret;exact⟨rfl,iC.alloc _ _⟩
  .have:b=false:=qs HB.out (λh=>h1 h.1);have rU:decide (256<(n:Int))=true:=a6 aC;clear HB hr;subst this;go_enter func107,ntmps107;go_wp2;go_ret;exact⟨rfl,iC.alloc _ _⟩
def aiX(e:Int)(w:World)(b:Bool)(hb:b=true↔(-32768<=e/\e<=32768)):
 Calls prog 108 #[.int .i64 e] w λr w'=>r = .returned (.bool b)/\w=w':=by
 by_cases h1:-32768<=e
 .have d1:decide (-32768<=e)=true:=by simpa using h1
  by_cases h2:e<=32768
  .have d2:decide (e<=32768)=true:=by simpa using h2
   have:=Lb hb ⟨h1,h2⟩;clear hb;subst this;go_enter func108,ntmps108;go_wp2;go_ret;exact⟨rfl,rfl⟩
  .have d2:decide (e<=32768)=false:=by simpa using h2
   have:=qs hb (λh=>h2 h.2);clear hb;subst this;go_enter func108,ntmps108;go_wp2;go_ret;exact⟨rfl,rfl⟩
 .have d1:decide (-32768<=e)=false:=by simpa using h1
  have:=qs hb (λh=>h1 h.1);clear hb;subst this;go_enter func108,ntmps108;go_wp2;go_ret;exact⟨rfl,rfl⟩
def aiT(d:Dy)(A:Option Addr)(c:Nat)(w:World)(hs:Sl w A c (gS d.m))(hl:(gS d.m).length<=100000000)(mn:-10000000<=d.e)(lk:d.e<=10000000)(hd:d.gY):
 Calls prog 109 #[.agg #[.bool d.neg,.slice A (gS d.m).length c,.int .i64 d.e]] w (tI w d 0):=by
 obtain⟨s,m,e⟩:=d;simp only at *
 have HV:=anq (λw (h:Sl w A c (gS m))=>Xh s A c (gS m) e w true h aC aC (iff_of_true rfl ((acU ⟨s,m,e⟩).2 hd)));clear hd;go_enter func109,ntmps109;go_wp2_with fail;refine(HV.out _ ((hs.alloc _).alloc _)).mono ?_;rintro r w' ⟨rfl,hb⟩;have bx:=((jg.new w s A (gS m).length c e).alloc (.cells #[.bool false,.slice none 0 0,.int .i64 0] 31)).ext hb;have by_:=(jg.new (w.alloc (.cells #[.bool s,.slice A (gS m).length c,.int .i64 e] 31)) false none 0 0 0).ext hb;have b0:=bx.c0;have b1:=bx.c1;have b2:=bx.c2;have bz:(w.alloc (.cells #[.bool s,.slice A (gS m).length c,.int .i64 e] 31)).heap.size=w.heap.size+1:= aH ;rw[bz]at by_;have c0:=by_.c0;have c1:=by_.c1;have c2:=by_.c2;have f0:=by_.fr 0;have f1:=by_.fr 1;have f2:=by_.fr 2;have ot:=((hs.alloc (.cells #[.bool s,.slice A (gS m).length c,.int .i64 e] 31)).alloc (.cells #[.bool false,.slice none 0 0,.int .i64 0] 31)).below hb;have nh:iC w w':=((iC.alloc _ _).trans (iC.alloc _ _)).trans hb;clear bz;go_wp2;exact vF rfl rfl rfl rfl (by_.set _ _ _ _ _) rfl (by_.rm ot _ _ _ _ _) (jg.qL nh aC _ _ _ _ _)
def acb{a b:Nat}:ky a b=0↔a=b:=by
 unfold ky;by_cases h:a<b
 .rw [aZ h];omega
 .by_cases h':b<a
  .rw [aY h,aZ h'];omega
  .rw [aY h,aY h'];omega
def aiV(s:Bool)(A:Option Addr)(c:Nat)(L:List Nat)(e:Int)(t:Bool)(B:Option Addr)(d:Nat)(M:List Nat)(f:Int)(w:World)(b:Bool)
 (hs:Sl w A c L) (hr:Sl w B d M) (tL:nI L) (tM:nI M) (h1:L.length<=100000) (_h2:M.length<=100000) (hb:b=true↔(s=t/\e=f/\L=M)):
 Calls prog 14 #[.agg #[.bool s,.slice A L.length c,.int .i64 e],.agg #[.bool t,.slice B M.length d,.int .i64 f]] w λr w'=>r = .returned (.bool b)/\iC w w':=by
 have hE:iC w ((w.alloc (.cells #[.bool s,.slice A L.length c,.int .i64 e] 31)).alloc (.cells #[.bool t,.slice B M.length d,.int .i64 f] 31)):=(iC.alloc _ _).trans (iC.alloc _ _);by_cases h:s=t
 .subst h;by_cases h':e=f
  .subst h';have nh:b=true↔L=M:=by rw[hb];simp
   clear hb;by_cases hl:L.length=M.length
   .have HC:=anq (λw (h:Sl w A c L) (k:Sl w B d M)=>aiU A B c d L M w h k tL tM aC aC);have hv:Hid (b=(ky (val L) (val M)==0)):=by
     show b=_;refine QJ nh ?_;rw[fP,acb];exact⟨λh=>by rw[h],λh=>nI.ext tL tM hs.ok hr.ok h⟩
    generalize ky (val L) (val M)=v at *
    rw[<-hl]at HC hE ⊢;have hse:(e==e)=true:= aH ;have kF:=(hs.alloc (.cells #[.bool s,.slice A L.length c,.int .i64 e] 31)).alloc (.cells #[.bool s,.slice B L.length d,.int .i64 e] 31);have nu:=(hr.alloc (.cells #[.bool s,.slice A L.length c,.int .i64 e] 31)).alloc (.cells #[.bool s,.slice B L.length d,.int .i64 e] 31);clear nh hl tL tM;cases s
    .go_enter func14,ntmps14;go_wp2_with fail;refine(HC.out _ kF nu).mono ?_;rintro r w' ⟨rfl,iQ⟩;go_wp2;go_ret;exact⟨Kg hv.out.symm,hE.trans iQ⟩
    .go_enter func14,ntmps14;go_wp2_with fail;refine(HC.out _ kF nu).mono ?_;rintro r w' ⟨rfl,iQ⟩;go_wp2;go_ret;exact⟨Kg hv.out.symm,hE.trans iQ⟩
   .have:=qs nh (λh=>hl (by rw[h]));clear nh;subst this;have jh:((L.length:Int)==M.length)=false:=aT aC;generalize L.length=n at *
    generalize M.length=m at *
    cases s
    .go_enter func14,ntmps14;go_wp2;go_ret;exact⟨rfl,hE⟩
    .go_enter func14,ntmps14;go_wp2;go_ret;exact⟨rfl,hE⟩
  .have:=qs hb (λh=>h' h.2.1);clear hb;subst this;have jh:(e==f)=false:=aT h';cases s
   .go_enter func14,ntmps14;go_wp2;go_ret;exact⟨rfl,hE⟩
   .go_enter func14,ntmps14;go_wp2;go_ret;exact⟨rfl,hE⟩
 .have:=qs hb (λh'=>h h'.1);clear hb;subst this;cases s<;>cases t
  .exact absurd rfl h
  .go_enter func14,ntmps14;go_wp2;go_ret;exact⟨rfl,hE⟩
  .go_enter func14,ntmps14;go_wp2;go_ret;exact⟨rfl,hE⟩
  .exact absurd rfl h
def Sl.KB(w:World)(g:Nat)(hg:w.heap.size=g)(y z:Int)(p q:Nat)(e:y=(p:Int))(e':z=(q:Int))(hp:p<4294967296)(hq:q<4294967296):
 Sl (w.alloc (.cells #[.int .u32 y,.int .u32 z] 96)) (some ⟨g,0,none⟩) 2 [p,q]:=by
 subst e e' hg;refine⟨bc _,aE,iE.cons hp (iE.cons hq iE.nil),(λh=>by cases h),λi y hy=>?_⟩;obtain⟨h1,h2⟩:=bY.1 hy;simp at h1;refine⟨_,_,rfl,aH,?_⟩;rw[bZ,World.cell?_alloc_at _ _ _ _ rfl];rcases i with _|_|i
 .simp at h2;subst h2;rfl
 .simp at h2;subst h2;rfl
 .omega
def ai0(n:Nat)(w:World)(hn:n<4294967296):
 Calls prog 56 #[.int .i64 n] w (yj w (canon false n 0)):=by
 have hm:=Ez n aC;have vQ:(n:Int)%4294967296=n:= aC ;rw[vQ]at hm;have hd:(n:Int)/4294967296=0:= aC ;have im:¬(n:Int)<0:= aC ;have Mz:decide ((n:Int)<0)=false:=a7 im;have hu:IntKind.u64.wrap (n:Int)=n:=by rw[IntKind.wrap_u64];omega
 have HC:=anq (λ(A:Option Addr) c w (h:Sl w A c [n,0])=>OS false A c [n,0] 0 w h aH aE aE);have hv:val [n,0]=n:= aH ;rw[hv]at HC;clear hv;generalize canon false n 0=d at *
 go_enter func56,ntmps56;go_wp2_with fail;refine(HC.out _ _ _ (Sl.KB _ _ aH _ _ n 0 rfl rfl hn aE)).mono ?_;rintro r w1 ⟨A1,c1,rfl,uQ,iQ⟩;have jv:iC (w.alloc (.cells #[.bool false,.slice none 0 0,.int .i64 0] 31)) w1:=(iC.alloc _ _).trans iQ;have bx:=(jg.new w false none 0 0 0).ext jv;have b0:=bx.c0;have b1:=bx.c1;have b2:=bx.c2;have f0:=bx.fr 0;have f1:=bx.fr 1;have f2:=bx.fr 2;go_wp2;exact yC rfl rfl rfl (bx.set _ _ _ _ _) rfl (bx.rm uQ _ _ _ _ _) (jg.qL ((iC.alloc _ _).trans jv) (bc _) _ _ _ _ _)
end Go.Proofs.YtkdddbdjilcofaaGreatDoor
namespace Go.Proofs.YtkdddbdjilcofaaGreatDoor.Fp
def EK(s:Bool)(e:Int):canon s 0 e=iq:=by unfold canon;rw[aZ rfl];rfl
def Ih(s:Bool)(x:Nat)(k:Int):jW (if s then -(x:Int)else(x:Int)) k=canon s x k:=by
 unfold jW;cases s
 .have h:decide ((x:Int)<0)=false:=a7 aC ;simp only[bB,bk];rw[h,fQ]
 .by_cases h:x=0
  .subst h;simp[EK]
  .have h:decide (-(x:Int)<0)=true:=a6 aC ;simp only[bw];rw[h,am0,fQ]
def aky{s:Bool}{m n:Nat}{e f k:Int}(hm:m≠0)(hn:n≠0)(hk:min e f=k):
 iJ ⟨s,m,e⟩ ⟨s,n,f⟩=canon s (m*2^(e-k).toNat+n*2^(f-k).toNat) k:=by
 unfold iJ;rw[aY hm,aY hn];simp only[hk];rw[<-Ih];unfold Dy.num Dy.jK;cases s
 .simp
 .simp;congr 1;omega
def akw{s t:Bool}{m n:Nat}{e f k:Int}(hm:m≠0)(hn:n≠0)(hk:min e f=k)(hs:s≠t)(qX:n*2^(f-k).toNat<=m*2^(e-k).toNat):
 iJ ⟨s,m,e⟩ ⟨t,n,f⟩=canon s (m*2^(e-k).toNat-n*2^(f-k).toNat) k:=by
 unfold iJ;rw[aY hm,aY hn];simp only[hk];rw[<-Ih];unfold Dy.num Dy.jK;simp only;generalize m*2^(e-k).toNat=x at *
 generalize n*2^(f-k).toNat=y at *
 congr 1;cases s<;>cases t<;>simp at hs ⊢ <;> omega
def akx{s t:Bool}{m n:Nat}{e f k:Int}(hm:m≠0)(hn:n≠0)(hk:min e f=k)(hs:s≠t)(im:m*2^(e-k).toNat<n*2^(f-k).toNat):
 iJ ⟨s,m,e⟩ ⟨t,n,f⟩=canon t (n*2^(f-k).toNat-m*2^(e-k).toNat) k:=by
 unfold iJ;rw[aY hm,aY hn];simp only[hk];rw[<-Ih];unfold Dy.num Dy.jK;simp only;generalize m*2^(e-k).toNat=x at *
 generalize n*2^(f-k).toNat=y at *
 congr 1;cases s<;>cases t<;>simp at hs ⊢ <;> omega
def agK{L:List Nat}(h:iE L)(n:Nat):(gS (val L*2^n)).length<=L.length+n/32+1:=by
 refine uX ?_;have h1:=oA h;rw[tz]at h1 ⊢;have h2:val L*2^n<2^(32*L.length)*2^n:=df h1 (bj aE);rw[<-bh]at h2;exact bJ h2 (bI aE aC)
def mC{a b:Nat}(h:a<=b):(gS a).length<=(gS b).length:=
 uX (ck h (JI (bc _)))
end Go.Proofs.YtkdddbdjilcofaaGreatDoor.Fp
namespace Go.Proofs.YtkdddbdjilcofaaGreatDoor
open Go.RowKit Fp
def jt(a b:Dy):Dy:=canon (a.neg != b.neg) (a.m*b.m) (a.e+b.e)
def agM{L:List Nat}{k:Nat}(h:iE L)(hl:L.length<=k):(gS (val L)).length<=k:=
 uX (bJ (oA h) (bI aE hl))
end Go.Proofs.YtkdddbdjilcofaaGreatDoor
namespace Go.Proofs.YtkdddbdjilcofaaGreatDoor.Fp
def ag8{d:Dy}{j k:Int}(h1:j<=k)(h2:k<=d.e):d.jK j=d.jK k*2^(k-j).toNat:=by
 unfold Dy.jK;rw[bA,<-bh];congr 2;omega
def JU{d:Dy}{j k:Int}(h1:j<=k)(h2:k<=d.e):d.num j=d.num k*((2^(k-j).toNat:Nat):Int):=by
 unfold Dy.num;rw[ag8 h1 h2];split
 .rw [ek,Int.neg_mul]
 .rw [ek]
def wj{d:Dy}(h:d.m=0)(k:Int):d.num k=0:=by
 unfold Dy.num;rw[VQ h];split<;>rfl
def xx(x y:Int):Int:=if x<y then -1 else if y<x then 1 else 0
def Ru(x y:Int){p:Nat}(hp:0<p):xx (x*(p:Int)) (y*(p:Int))=xx x y:=by
 unfold xx;have h:(0:Int)<p:= aC ;have a:=@Int.mul_lt_mul_right (p:Int) x y h;have b:=@Int.mul_lt_mul_right (p:Int) y x h;simp only[a,b]
def qO(d:Dy)(k:Int):Prop:=d.m=0\/k<=d.e
def qO.num{d:Dy}{j k:Int}(h:qO d k)(hj:j<=k):d.num j=d.num k*((2^(k-j).toNat:Nat):Int):=by
 rcases h with h|h
 .rw [wj h,wj h,Int.zero_mul]
 .exact JU hj h
def ER{a b:Dy}{k:Int}(ha:qO a k)(hb:qO b k):iO a b=xx (a.num k) (b.num k):=by
 have e0:iO a b=xx (a.num (min a.e b.e)) (b.num (min a.e b.e)):=rfl;rw[e0];obtain⟨j,h1,h2⟩:∃ j:Int,j<=k/\j<=min a.e b.e:=⟨min k (min a.e b.e),aC,aC⟩
 have a1:=ha.num h1;have b1:=hb.num h1;have a2:=(show qO a (min a.e b.e)from .inr aC).num h2;have b2:=(show qO b (min a.e b.e)from .inr aC).num h2;rw[<-Ru _ _ (p:=2^(min a.e b.e-j).toNat) (bj aE),<-a2,<-b2,a1,b1,Ru _ _ (bj aE)]
def ag7{s:Bool}{m:Nat}{e k:Int}(h:k<=e):(canon s m e).jK k=m*2^(e-k).toNat:=by
 unfold canon;split
 .rename_i h0;subst h0;simp[Dy.jK]
 .rename_i h0;unfold Dy.jK;simp only;have e1:=E3 h0
  conv=>rhs;rw[<-e1]
  rw[bA,<-bh];congr 2;omega
def CA{s:Bool}{m:Nat}{e k:Int}(h:k<=e):(canon s m e).num k=if s then -((m*2^(e-k).toNat:Nat):Int)else((m*2^(e-k).toNat:Nat):Int):=by
 by_cases h0:m=0
 .subst h0;rw[wj (by simp[canon])];simp
 .have:(canon s m e).neg=s:=by unfold canon;rw[aY h0]
  unfold Dy.num;rw[ag7 h,this]
def WH{m:Nat}{e k:Int}(h:k<=e):(canon false m e).num k=((m*2^(e-k).toNat:Nat):Int):=by
 rw[CA h];simp
def Og{z e k:Int}(h:k<=e):(jW z e).num k=z*((2^(e-k).toNat:Nat):Int):=by
 unfold jW;rw[CA h];by_cases hz:z<0
 .simp only[hz,ff,bw];rw[ek,<-Int.neg_mul];congr 1;omega
 .simp only[hz,gF];rw[ek,show(z.natAbs:Int)=z by omega];simp
def zU{s:Bool}{m:Nat}{e k:Int}(h:k<=e):qO (canon s m e) k:=by
 unfold canon;split
 .exact .inl rfl
 .exact .inr (by simp only;omega)
def K2{z e k:Int}(h:k<=e):qO (jW z e) k:=zU h
def Kv{a b:Dy}{k:Int}(ha:qO a k)(hb:qO b k):(iJ a b).num k=a.num k+b.num k:=by
 unfold iJ;by_cases h1:a.m=0
 .rw [aZ h1,wj h1,Int.zero_add]
 .rw [aY h1];by_cases h2:b.m=0
  .rw [aZ h2,wj h2,Int.add_zero]
  .rw [aY h2];have ea:k<=a.e:=by rcases ha with h|h;exact absurd h h1;exact h
   have eb:k<=b.e:=by rcases hb with h|h;exact absurd h h2;exact h
   have hm:k<=min a.e b.e:= aC ;rw[Og hm,Int.add_mul,<-JU hm aC,<-JU hm aC]
def Hm{a b:Dy}{k:Int}(ha:qO a k)(hb:qO b k):qO (iJ a b) k:=by
 unfold iJ;by_cases h1:a.m=0
 .rw [aZ h1];exact hb
 .rw [aY h1];by_cases h2:b.m=0
  .rw [aZ h2];exact ha
  .rw [aY h2];have ea:k<=a.e:=by rcases ha with h|h;exact absurd h h1;exact h
   have eb:k<=b.e:=by rcases hb with h|h;exact absurd h h2;exact h
   exact K2 aC 
def By{a b:Dy}(ha:a.nc)(hb:b.nc):(iJ a b).nc:=by
 unfold iJ;split
 .exact hb
 .split
  .exact ha
  .exact rq _ _ _
def K3{d:Dy}{k:Int}(h:qO d k):qO (jo d) k:=h
def Oh{d:Dy}(k:Int):(jo d).num k = -(d.num k):=by
 by_cases h:d.m=0
 .rw [wj h,wj (by exact h)];rfl
 .exact ahT d k h
def R7{a b:Dy}(ha:a.nc)(hb:b.nc){k:Int}(h1:qO a k)(h2:qO b k)(h:a.num k=b.num k):a=b:=by
 have zero:∀ {d:Dy},d.nc->d.m=0->d=iq:=by
  intro d hd h0;obtain⟨s,m,e⟩:=d;rcases hd with⟨x,y,z⟩|hd
  .simp only at x y z;subst x y z;rfl
  .simp only at hd h0;omega
 have nz:∀ {d:Dy},d.num k=0->d.m=0:=by
  intro d hd;by_cases h0:d.m=0
  .exact h0
  .exfalso;have:=xU h0 k;unfold Dy.num at hd;split at hd<;>omega
 by_cases za:a.m=0
 .have zb:b.m=0:=nz (by rw[<-h];exact wj za k);rw[zero ha za,zero hb zb]
 .have zb:b.m≠0:=λzb=>za (nz (by rw[h];exact wj zb k))
  have oa:a.m%2=1:=by rcases ha with⟨x,_,_⟩|x;exact absurd x za;exact x
  have ob:b.m%2=1:=by rcases hb with⟨x,_,_⟩|x;exact absurd x zb;exact x
  have ea:k<=a.e:=by rcases h1 with h|h;exact absurd h za;exact h
  have eb:k<=b.e:=by rcases h2 with h|h;exact absurd h zb;exact h
  have pa:=xU za k;have pb:=xU zb k;have hm:a.neg=b.neg/\a.jK k=b.jK k:=by
   unfold Dy.num at h;cases x:a.neg<;>cases y:b.neg<;>simp[x,y]at h<;>first|exact⟨rfl,aC⟩|(exfalso;omega)
  have hc:=congrArg jl hm.2;unfold Dy.jK at hc;rw[yA oa,yA ob]at hc;have vQ:=hm.2;unfold Dy.jK at vQ;rw[hc]at vQ;have sD:=ani (bj aE) vQ;obtain⟨s,m,e⟩:=a;obtain⟨t,n,f⟩:=b;simp only at *
  have:e=f:= aC ;rw[hm.1,sD,this]
end Go.Proofs.YtkdddbdjilcofaaGreatDoor.Fp
namespace Go.Proofs.YtkdddbdjilcofaaGreatDoor
open Go.RowKit Fp
def Kp(A:Option Addr)(c:Nat)(M:List Nat)(n:Int)(w:World)(kF:Sl w A c M)(hlen:M.length<=256)(h0:0<=n)(hn:n<=65536)(qW:(gS (val M*2^n.toNat)).length<=256):
 Calls prog 100 #[.slice A M.length c,.int .i64 n] w (xp w (gS (val M*2^n.toNat))):=by
 obtain⟨k,rfl⟩:=en h0;exact aj8 A c M k w kF hlen aC qW
set_option maxHeartbeats 8000000 in
def ac0(s : Bool)(A : Option Addr)(c : Nat)(L : List Nat)(e : Int)(t : Bool)(B : Option Addr)(d : Nat)(M : List Nat)(f : Int)(w : World)
    (hs : Sl w A c L) (hr : Sl w B d M) (da : oC s L e) (db : oC t M f) (vK : val L≠0) (s8 : val M≠0):
    Calls prog 51 #[.agg #[.bool s,.slice A L.length c,.int .i64 e],.agg #[.bool t,.slice B M.length d,.int .i64 f]] w λr w' => r = .returned (.int .i64 (sY ⟨s,val L,e⟩ ⟨t,val M,f⟩))/\iC w w' := by
  obtain⟨mn,lk⟩ := da.exp;obtain⟨MD,ME⟩ := db.exp;have hl := da.len;have hm := db.len;have hE : iC w ((w.alloc (.cells #[.bool s,.slice A L.length c,.int .i64 e] 31)).alloc (.cells #[.bool t,.slice B M.length d,.int .i64 f] 31)) := (iC.alloc _ _).trans (iC.alloc _ _);have lF := ((jg.new w s A L.length c e).alloc (.cells #[.bool t,.slice B M.length d,.int .i64 f] 31)).drew;have lW := (jg.rG (W := w.alloc (.cells #[.bool s,.slice A L.length c,.int .i64 e] 31)) (g := w.heap.size+1) aH t B M.length d f).drew;have yS := (hs.below hE).drew;have B6 := (hr.below hE).drew;have HE := anq (hE.trans (iC.drew _));clear hE;have HTa := anq (λw (h : Sl w A c L) => LF s A c L e w h da);have HTb := anq (λw (h : Sl w B d M) => LF t B d M f w h db);have Hlt := anq (λh => aca (a := ⟨s,val L,e⟩) (b := ⟨t,val M,f⟩) vK s8 h);have Hgt := anq (λh => ab9 (a := ⟨s,val L,e⟩) (b := ⟨t,val M,f⟩) vK s8 h);have Hta := anq (show Dy.ij ⟨s,val L,e⟩=ia (val L)+e by unfold Dy.ij;rw[aY vK]);have Htb := anq (show Dy.ij ⟨t,val M,f⟩=ia (val M)+f by unfold Dy.ij;rw[aY s8]);obtain⟨k,hk⟩ : ∃ k,min e f=k := ⟨_,rfl⟩
  have hke : k<=e := aC ;have hkf : k<=f := aC ;have oe : -17000<=k := aC ;have T9 := anq (aC:k=e\/k=f);have Nc : IntKind.i64.wrap (e-k)=e-k := i64_in _ aC aC;have hwf : IntKind.i64.wrap (f-k)=f-k := i64_in _ aC aC;have HM := anq (show sY ⟨s,val L,e⟩ ⟨t,val M,f⟩=ky (val L*2^(e-k).toNat) (val M*2^(f-k).toNat)by unfold sY;simp only[hk];rfl);have Hfa := anq (show ia (val L)+e=ia (val M)+f->ia (val L*2^(e-k).toNat)<=4096 from λh => by
    rw[rN vK];have := da.bits;have := db.bits;have := T9.out;omega)
  have Hfb := anq (show ia (val L)+e=ia (val M)+f->ia (val M*2^(f-k).toNat)<=4096 from λh => by
    rw[rN s8];have := da.bits;have := db.bits;have := T9.out;omega)
  have HXa := anq (λw (h : Sl w A c L) qW => Kp A c L (e-k) w h hl aC aC qW);have HXb := anq (λw (h : Sl w B d M) qW => Kp B d M (f-k) w h hm aC aC qW);generalize Dy.ij ⟨s,val L,e⟩=ta at *
  generalize Dy.ij ⟨t,val M,f⟩=tb at *
  generalize sY ⟨s,val L,e⟩ ⟨t,val M,f⟩=R at *
  generalize val L*2^(e-k).toNat=x at *
  generalize val M*2^(f-k).toNat=y at *
  have HC := anq (λA B c d w (h : Sl w A c (gS x)) (k : Sl w B d (gS y)) hx hy => Gj A B c d (gS x) (gS y) w h k hx hy);rw[kf,kf]at HC;clear vK s8 da db hl hm;go_enter func51,ntmps51;go_wp2_with fail;go_region_held3 (λw' => w'.cell? ⟨w.heap.size,0,none⟩=some (.bool s)/\w'.cell? ⟨w.heap.size,1,none⟩=some (.slice A L.length c)/\w'.cell? ⟨w.heap.size,2,none⟩=some (.int .i64 e)/\w'.cell? ⟨w.heap.size+1,0,none⟩=some (.bool t)/\w'.cell? ⟨w.heap.size+1,1,none⟩=some (.slice B M.length d)/\w'.cell? ⟨w.heap.size+1,2,none⟩=some (.int .i64 f))
    (first
      |exact⟨lF.c0,lF.c1,lF.c2,lW.c0,lW.c1,lW.c2⟩
      |exact⟨(lF.ext iW).c0,(lF.ext iW).c1,(lF.ext iW).c2,(lW.ext iW).c0,(lW.ext iW).c1,(lW.ext iW).c2⟩
      |exact⟨(lF.ext ji).c0,(lF.ext ji).c1,(lF.ext ji).c2,(lW.ext ji).c0,(lW.ext ji).c1,(lW.ext ji).c2⟩
      |exact⟨(lF.ext (iW.trans ji)).c0,(lF.ext (iW.trans ji)).c1,(lF.ext (iW.trans ji)).c2,(lW.ext (iW.trans ji)).c0,(lW.ext (iW.trans ji)).c1,(lW.ext (iW.trans ji)).c2⟩
      |exact⟨(lF.ext (ji.trans iW)).c0,(lF.ext (ji.trans iW)).c1,(lF.ext (ji.trans iW)).c2,(lW.ext (ji.trans iW)).c0,(lW.ext (ji.trans iW)).c1,(lW.ext (ji.trans iW)).c2⟩
      |exact⟨(lF.ext ((iW.trans ji).trans pe)).c0,(lF.ext ((iW.trans ji).trans pe)).c1,(lF.ext ((iW.trans ji).trans pe)).c2,(lW.ext ((iW.trans ji).trans pe)).c0,(lW.ext ((iW.trans ji).trans pe)).c1,(lW.ext ((iW.trans ji).trans pe)).c2⟩
      |exact⟨(lF.ext ((ji.trans iW).trans pe)).c0,(lF.ext ((ji.trans iW).trans pe)).c1,(lF.ext ((ji.trans iW).trans pe)).c2,(lW.ext ((ji.trans iW).trans pe)).c0,(lW.ext ((ji.trans iW).trans pe)).c1,(lW.ext ((ji.trans iW).trans pe)).c2⟩)
    (first
      | (go_at_call_of 67 (Value.agg #[.bool s,.slice A L.length c,.int .i64 e])
         refine(HTa.out _ ?_).mono ?_
         (first|exact yS|exact yS.below ji)
         rintro r wx ⟨rfl,iW⟩)
      | (go_at_call_of 67 (Value.agg #[.bool t,.slice B M.length d,.int .i64 f])
         refine(HTb.out _ ?_).mono ?_
         (first|exact B6|exact B6.below iW)
         rintro r wy ⟨rfl,ji⟩))
  first
    | (have qi := iW.trans ji)
    | (have qi := ji.trans iW)
  have cx1 := (lF.ext qi).drew;have cx2 := (lW.ext qi).drew;have kF := (yS.below qi).drew;have nu := (B6.below qi).drew;have cx1n := (lF.ext qi)
  have cx2n := (lW.ext qi)
  have HF := anq ((HE.out.trans qi).trans (iC.drew _));have HFr := anq (HE.out.trans qi);clear iW ji qi;by_cases h1 : ta<tb
  . have hR := anq (Hlt.out h1)
    go_wp2;go_ret;exact⟨oZ hR.out.symm,HFr.out⟩
  . by_cases h2 : tb<ta
    . have hR := anq (Hgt.out h2)
      go_wp2;go_ret;exact⟨oZ hR.out.symm,HFr.out⟩
    . have nk : (ia (val L) : Int)+e=ia (val M)+f := by rw[<-Hta.out,<-Htb.out];omega
      have hfa := JH (k := 128) (Hfa.out nk);have hfb := JH (k := 128) (Hfb.out nk);have HXa2 := anq (λw h => HXa.out w h aC);have HXb2 := anq (λw h => HXb.out w h aC);have HC2 := anq (λA B c d w h k => HC.out A B c d w h k aC aC);have b0 := cx1n.c0;have b1 := cx1n.c1;have b2 := cx1n.c2;have d0 := cx2n.c0;have d1 := cx2n.c1;have d2 := cx2n.c2;clear nk hfa hfb;go_wp2_with fail;go_region_held3 (λw' => w'.cell? ⟨w.heap.size,0,none⟩=some (.bool s)/\w'.cell? ⟨w.heap.size,1,none⟩=some (.slice A L.length c)/\w'.cell? ⟨w.heap.size,2,none⟩=some (.int .i64 e)/\w'.cell? ⟨w.heap.size+1,0,none⟩=some (.bool t)/\w'.cell? ⟨w.heap.size+1,1,none⟩=some (.slice B M.length d)/\w'.cell? ⟨w.heap.size+1,2,none⟩=some (.int .i64 f))
        (first
          |exact⟨cx1.c0,cx1.c1,cx1.c2,cx2.c0,cx2.c1,cx2.c2⟩
          |exact⟨(cx1.ext iW).c0,(cx1.ext iW).c1,(cx1.ext iW).c2,(cx2.ext iW).c0,(cx2.ext iW).c1,(cx2.ext iW).c2⟩
          |exact⟨(cx1.ext ji).c0,(cx1.ext ji).c1,(cx1.ext ji).c2,(cx2.ext ji).c0,(cx2.ext ji).c1,(cx2.ext ji).c2⟩
          |exact⟨(cx1.ext (iW.trans ji)).c0,(cx1.ext (iW.trans ji)).c1,(cx1.ext (iW.trans ji)).c2,(cx2.ext (iW.trans ji)).c0,(cx2.ext (iW.trans ji)).c1,(cx2.ext (iW.trans ji)).c2⟩
          |exact⟨(cx1.ext (ji.trans iW)).c0,(cx1.ext (ji.trans iW)).c1,(cx1.ext (ji.trans iW)).c2,(cx2.ext (ji.trans iW)).c0,(cx2.ext (ji.trans iW)).c1,(cx2.ext (ji.trans iW)).c2⟩
          |exact⟨(cx1.ext ((iW.trans ji).trans pe)).c0,(cx1.ext ((iW.trans ji).trans pe)).c1,(cx1.ext ((iW.trans ji).trans pe)).c2,(cx2.ext ((iW.trans ji).trans pe)).c0,(cx2.ext ((iW.trans ji).trans pe)).c1,(cx2.ext ((iW.trans ji).trans pe)).c2⟩
          |exact⟨(cx1.ext ((ji.trans iW).trans pe)).c0,(cx1.ext ((ji.trans iW).trans pe)).c1,(cx1.ext ((ji.trans iW).trans pe)).c2,(cx2.ext ((ji.trans iW).trans pe)).c0,(cx2.ext ((ji.trans iW).trans pe)).c1,(cx2.ext ((ji.trans iW).trans pe)).c2⟩)
        (first
          | (go_at_call_of 100 (Value.slice A L.length c)
             refine(HXa2.out _ ?_).mono ?_
             (first|exact kF|exact kF.below ji)
             rintro r wx ⟨Ax,cx,rfl,Us,iW⟩)
          | (go_at_call_of 100 (Value.slice B M.length d)
             refine(HXb2.out _ ?_).mono ?_
             (first|exact nu|exact nu.below iW)
             rintro r wy ⟨Ay,cy,rfl,Ut,ji⟩)
          | (go_at_call 99
             refine(HC2.out _ _ _ _ _ ?_ ?_).mono ?_
             (first|exact Us.below ji|exact Us)
             (first|exact Ut|exact Ut.below iW)
             rintro r wz ⟨rfl,pe⟩))
      all_goals
        go_wp2;go_ret
        (first|exact⟨oZ HM.out.symm,HF.out.trans ((iW.trans ji).trans pe)⟩|exact⟨oZ HM.out.symm,HF.out.trans ((ji.trans iW).trans pe)⟩)
def Yj{d:Dy}:d.iK=0↔d.m=0:=by
 rcases CN d with⟨h1,h2⟩|⟨h1,_,h2⟩|⟨h1,_,h2⟩<;>simp[h1,h2]
def acY(s : Bool)(A : Option Addr)(c : Nat)(L : List Nat)(e : Int)(t : Bool)(B : Option Addr)(d : Nat)(M : List Nat)(f : Int)(w : World)
    (hs : Sl w A c L) (hr : Sl w B d M) (da : oC s L e) (db : oC t M f):
    Calls prog 16 #[.agg #[.bool s,.slice A L.length c,.int .i64 e],.agg #[.bool t,.slice B M.length d,.int .i64 f]] w λr w' => r = .returned (.int .i64 (iO ⟨s,val L,e⟩ ⟨t,val M,f⟩))/\iC w w' := by
  obtain⟨mn,lk⟩ := da.exp;obtain⟨MD,ME⟩ := db.exp;have HVa := anq (λw (h : Sl w A c L) => BD s A c L e w true h aC aC (by simp[da]));have HVb := anq (λw (h : Sl w B d M) => BD t B d M f w true h aC aC (by simp[db]));have HSa := anq (λw (h : Sl w A c L) => LC s A c L e w h da);have HSb := anq (λw (h : Sl w B d M) => LC t B d M f w h db);have HK := anq (λh1 h2 w (h : Sl w A c L) (k : Sl w B d M) => ac0 s A c L e t B d M f w h k da db h1 h2);have HP := anq (Rt ⟨s,val L,e⟩ ⟨t,val M,f⟩);have z1 : Hid (Dy.iK ⟨s,val L,e⟩=0↔val L=0) := Yj;have z2 : Hid (Dy.iK ⟨t,val M,f⟩=0↔val M=0) := Yj;have Jp : Dy.iK ⟨s,val L,e⟩=0\/Dy.iK ⟨s,val L,e⟩ = -1\/Dy.iK ⟨s,val L,e⟩=1 := by
    rcases CN ⟨s,val L,e⟩with⟨_,h⟩|⟨_,_,h⟩|⟨_,_,h⟩<;>simp[h]
  have nM : sY ⟨s,val L,e⟩ ⟨t,val M,f⟩ = -1\/sY ⟨s,val L,e⟩ ⟨t,val M,f⟩=0\/sY ⟨s,val L,e⟩ ⟨t,val M,f⟩=1 := by
    unfold sY ky;split;simp;split<;>simp
  generalize Dy.iK ⟨s,val L,e⟩=sa at *
  generalize Dy.iK ⟨t,val M,f⟩=sb at *
  generalize sY ⟨s,val L,e⟩ ⟨t,val M,f⟩=cm at *
  generalize iO ⟨s,val L,e⟩ ⟨t,val M,f⟩=R at *
  have Cd : IntKind.i64.wrap (sa*cm)=sa*cm := i64_in _ (by rcases Jp with rfl|rfl|rfl<;>omega) (by rcases Jp with rfl|rfl|rfl<;>omega);have HH := anq Jp;clear Jp nM da db;go_enter func16,ntmps16;go_wp2_with fail;refine(HVa.out _ ((hs.alloc _).alloc _)).mono ?_;rintro r w1 ⟨rfl,iQ⟩;have lF := ((jg.new w s A L.length c e).alloc (.cells #[.bool t,.slice B M.length d,.int .i64 f] 31)).ext iQ;have lW := (jg.rG (W := w.alloc (.cells #[.bool s,.slice A L.length c,.int .i64 e] 31)) (g := w.heap.size+1) aH t B M.length d f).ext iQ;have b0 := lF.c0;have b1 := lF.c1;have b2 := lF.c2;have d0 := lW.c0;have d1 := lW.c1;have d2 := lW.c2;have hE := (((iC.alloc w (.cells #[.bool s,.slice A L.length c,.int .i64 e] 31)).trans (iC.alloc _ (.cells #[.bool t,.slice B M.length d,.int .i64 f] 31))).trans iQ)
  go_wp2_with fail;refine(HVb.out _ (hr.below hE)).mono ?_;rintro r w2 ⟨rfl,lQ⟩;have IT := hE.trans lQ;have lF := (lF.ext lQ).drew;have lW := (lW.ext lQ).drew;have yS := (hs.below IT).drew;have B6 := (hr.below IT).drew;have HE := anq (IT.trans (iC.drew _));clear hE IT iQ lQ b0 b1 b2 d0 d1 d2;go_wp2_with fail;go_region_held3 (λw' => w'.cell? ⟨w.heap.size,0,none⟩=some (.bool s)/\w'.cell? ⟨w.heap.size,1,none⟩=some (.slice A L.length c)/\w'.cell? ⟨w.heap.size,2,none⟩=some (.int .i64 e)/\w'.cell? ⟨w.heap.size+1,0,none⟩=some (.bool t)/\w'.cell? ⟨w.heap.size+1,1,none⟩=some (.slice B M.length d)/\w'.cell? ⟨w.heap.size+1,2,none⟩=some (.int .i64 f))
    (first
      |exact⟨lF.c0,lF.c1,lF.c2,lW.c0,lW.c1,lW.c2⟩
      |exact⟨(lF.ext iW).c0,(lF.ext iW).c1,(lF.ext iW).c2,(lW.ext iW).c0,(lW.ext iW).c1,(lW.ext iW).c2⟩
      |exact⟨(lF.ext ji).c0,(lF.ext ji).c1,(lF.ext ji).c2,(lW.ext ji).c0,(lW.ext ji).c1,(lW.ext ji).c2⟩
      |exact⟨(lF.ext (iW.trans ji)).c0,(lF.ext (iW.trans ji)).c1,(lF.ext (iW.trans ji)).c2,(lW.ext (iW.trans ji)).c0,(lW.ext (iW.trans ji)).c1,(lW.ext (iW.trans ji)).c2⟩
      |exact⟨(lF.ext (ji.trans iW)).c0,(lF.ext (ji.trans iW)).c1,(lF.ext (ji.trans iW)).c2,(lW.ext (ji.trans iW)).c0,(lW.ext (ji.trans iW)).c1,(lW.ext (ji.trans iW)).c2⟩)
    (first
      | (go_at_call_of 46 (Value.agg #[.bool s,.slice A L.length c,.int .i64 e])
         refine(HSa.out _ ?_).mono ?_
         (first|exact yS|exact yS.below ji)
         rintro r wx ⟨rfl,iW⟩)
      | (go_at_call_of 46 (Value.agg #[.bool t,.slice B M.length d,.int .i64 f])
         refine(HSb.out _ ?_).mono ?_
         (first|exact B6|exact B6.below iW)
         rintro r wy ⟨rfl,ji⟩))
  first
    | (have qi := iW.trans ji)
    | (have qi := ji.trans iW)
  have cx1 := (lF.ext qi)
  have cx2 := (lW.ext qi)
  have kF := (yS.below qi)
  have nu := (B6.below qi)
  have HFr := anq (HE.out.trans qi);clear iW ji qi;by_cases h1 : sa<sb
  . have hR := anq (show R = -1 by rw[HP.out,aZ h1])
    go_wp2;go_ret;exact⟨oZ hR.out.symm,HFr.out⟩
  . by_cases h2 : sb<sa
    . have hR := anq (show R=1 by rw[HP.out,aY h1,aZ h2])
      go_wp2;go_ret;exact⟨oZ hR.out.symm,HFr.out⟩
    . by_cases h3 : sa=0
      . have hR := anq (show R=0 by rw[HP.out,aY h1,aY h2,aZ h3])
        have hz : (sa==0)=true := by simp[h3]
        go_wp2;go_ret;exact⟨oZ hR.out.symm,HFr.out⟩
      . have hR := anq (show R=sa*cm by rw[HP.out,aY h1,aY h2,aY h3])
        have hz : (sa==0)=false := aT h3;have HK2 := anq (HK.out (λh => h3 (z1.out.2 h)) (λh => h3 (by have := z2.out.2 h;omega)));have b0 := cx1.c0;have b1 := cx1.c1;have b2 := cx1.c2;have d0 := cx2.c0;have d1 := cx2.c1;have d2 := cx2.c2;go_wp2_with fail;refine(HK2.out _ kF nu).mono ?_;rintro r w3 ⟨rfl,qV⟩;go_wp2;go_ret;exact⟨oZ hR.out.symm,HFr.out.trans qV⟩
def Ln{L:List Nat}(h:iE L)(hl:L.length<=256)(s:Bool)(e:Int):(gS (canon s (val L) e).m).length<=100000000:=by
 unfold canon;split
 .simp [nU]
 .refine bg (uX (k:=256) (ck (bT _ _) ?_)) aE ;exact bJ (oA h) (bI aE hl)
def Lj{L:List Nat}(h:iE L)(hl:L.length<=256)(s:Bool)(e:Int)(h1:-9000000<=e)(h2:e<=9000000):-10000000<=(canon s (val L) e).e/\(canon s (val L) e).e<=10000000:=by
 unfold canon;split
 .simp
 .rename_i h0;have:=ES h h0;simp only;omega
def ai4(s:Bool)(A:Option Addr)(c:Nat)(L:List Nat)(e k:Int)(w:World)(hs:Sl w A c L)(hd:oC s L e)(oe:-32768<=k)(vO:k<=32768)(hr:mB (canon s (val L) (e+k))):
 Calls prog 55 #[.agg #[.bool s,.slice A L.length c,.int .i64 e],.int .i64 k] w (tI w (canon s (val L) (e+k)) 0):=by
 obtain⟨mn,lk⟩:=hd.exp;have hlen:=hd.len;have HV:=anq (λw (h:Sl w A c L)=>Xh s A c L e w true h aC aC (by simp[hd]));have HX:=anq (λw=>aiX k w true (by simp[oe,vO]));have hw:IntKind.i64.wrap (e+k)=e+k:=i64_in _ aC aC;have HC:=anq (λw (h:Sl w A c L)=>OS s A c L (e+k) w h aC aC aC);have iQ:=Ln hs.ok hlen s (e+k);obtain⟨lQ,qV⟩:=Lj hs.ok hlen s (e+k) aC aC;have hv:(canon s (val L) (e+k)).gY:=⟨rq _ _ _,hr⟩
 have HK:=anq (λA c w (h:Sl w A c (gS (canon s (val L) (e+k)).m))=>aiT _ A c w h iQ lQ qV hv);generalize canon s (val L) (e+k)=D at *
 clear hd hr hv iQ lQ qV;go_enter func55,ntmps55;go_wp2_with fail;refine(HV.out _ ((hs.alloc _).alloc _)).mono ?_;rintro r w1 ⟨rfl,iQ⟩;have lF:=((jg.new w s A L.length c e).alloc (.cells #[.bool false,.slice none 0 0,.int .i64 0] 31)).ext iQ;have lW:=(jg.rG (W:=w.alloc (.cells #[.bool s,.slice A L.length c,.int .i64 e] 31)) (g:=w.heap.size+1) aH false none 0 0 0).ext iQ;have b0:=lF.c0;have b1:=lF.c1;have b2:=lF.c2;have hE:=(((iC.alloc w (.cells #[.bool s,.slice A L.length c,.int .i64 e] 31)).trans (iC.alloc _ (.cells #[.bool false,.slice none 0 0,.int .i64 0] 31))).trans iQ)
 have yS:=hs.below hE;have HE:=anq hE;clear hE iQ;go_wp2_with fail;refine(HX.out _).mono ?_;rintro r w2 ⟨rfl,rfl⟩;go_wp2_with fail;refine(HC.out _ yS).mono ?_;rintro r w2 ⟨A1,c1,rfl,uQ,lQ⟩;go_wp2_with fail;refine(HK.out _ _ _ uQ).mono ?_;rintro r w3 ⟨A2,c2,rfl,kF,qV⟩;have bz:=lW.ext (lQ.trans qV);have z0:=bz.c0;have z1:=bz.c1;have z2:=bz.c2;have f0:=bz.fr 0;have f1:=bz.fr 1;have f2:=bz.fr 2;go_wp2;exact vF rfl rfl rfl rfl (bz.set _ _ _ _ _) rfl (bz.rm kF _ _ _ _ _) (jg.qL (HE.out.trans (lQ.trans qV)) aC _ _ _ _ _)
abbrev DV(d:Dy)(A:Option Addr)(c:Nat):Value:=.agg #[.bool d.neg,.slice A (gS d.m).length c,.int .i64 d.e]
def JG{n k:Nat}(h:ia n<=32*k):(gS n).length<=k:=by
 refine uX (bJ (ql _) ?_);rw[tz];exact bI aE h
def Fp.Dy.gY.xz{d:Dy}(h:d.gY):oC d.neg (gS d.m) d.e:=by
 refine⟨Bj _,JG ?_,by rw[kf];exact h⟩;rcases h.range with h0|⟨h1,_⟩
 .rw [h0];exact bV _
 .omega
def Fp.Dy.gY.len{d:Dy}(h:d.gY):(gS d.m).length<=256:=h.xz.2.1
def Fp.Dy.gY.exp{d:Dy}(h:d.gY):-16384<=d.e/\d.e<=16384:=h.xz.exp
def Fp.Dy.gY.YJ{d:Dy}(h:d.gY)(h0:d.m≠0):(ia d.m:Int)+d.e<=16384:=by
 rcases h.range with h|⟨_,_,_,h⟩
 .exact absurd h h0
 .exact h
def jg.all{w:World}{g n c:Nat}{s:Bool}{A:Option Addr}{e:Int}(h:jg w g s A n c e):w.cell? ⟨g,0,none⟩=some (.bool s)/\w.cell? ⟨g,1,none⟩=some (.slice A n c)/\w.cell? ⟨g,2,none⟩=some (.int .i64 e):=⟨h.c0,h.c1,h.c2⟩
def jg.BH{w:World}{g n c:Nat}{s:Bool}{A:Option Addr}{e:Int}(h:jg w g s A n c e){g':Nat}(jh:g'≠g)(i:Nat)(v:Value):jg (w.setCell ⟨g',i,none⟩ v) g s A n c e:=by
 unfold jg at h ⊢;simp only[World.setCell,eP];rw[aY jh];exact h
def jg.xC{w:World}{g n c:Nat}{s:Bool}{A:Option Addr}{e:Int}(h:jg w g s A n c e){g':Nat}(jh:g'≠g)(v0 v1 v2:Value):
 jg (((w.setCell ⟨g',0,none⟩ v0).setCell ⟨g',1,none⟩ v1).setCell ⟨g',2,none⟩ v2) g s A n c e:=((h.BH jh 0 v0).BH jh 1 v1).BH jh 2 v2
def aiW(a b:Dy)(A B:Option Addr)(c d:Nat)(w:World)(r:Bool)(h:Sl w A c (gS a.m))(k:Sl w B d (gS b.m))(ha:(gS a.m).length<=100000)(hb:(gS b.m).length<=100000)(hr:r=true↔a=b):
 Calls prog 14 #[DV a A c,DV b B d] w λe w'=>e = .returned (.bool r)/\iC w w':=
 aiV a.neg A c (gS a.m) a.e b.neg B d (gS b.m) b.e w r h k (Bj _) (Bj _) ha hb (by
  rw[hr];obtain⟨s,m,e⟩:=a;obtain⟨t,n,f⟩:=b;simp only[Dy.mk.injEq];constructor
  .rintro ⟨x,y,z⟩;exact⟨x,z,by rw[y]⟩
  .rintro ⟨x,y,z⟩;have:=congrArg val z;rw[kf,kf]at this;exact⟨x,this,y⟩)
def acZ(a b:Dy)(A B:Option Addr)(c d:Nat)(w:World)(h:Sl w A c (gS a.m))(k:Sl w B d (gS b.m))(ha:a.gY)(hb:b.gY):
 Calls prog 16 #[DV a A c,DV b B d] w λe w'=>e = .returned (.int .i64 (iO a b))/\iC w w':=by
 have:=acY a.neg A c (gS a.m) a.e b.neg B d (gS b.m) b.e w h k ha.xz hb.xz;rw[kf,kf]at this;exact this
def acW(a:Dy)(A:Option Addr)(c:Nat)(w:World)(h:Sl w A c (gS a.m))(ha:a.gY):
 Calls prog 47 #[DV a A c] w λe w'=>e = .returned (.int .i64 (ia a.m))/\iC w w':=by
 have:=acV a.neg A c (gS a.m) a.e w h ha.xz;rw[kf]at this;exact this
def ac4(a:Dy)(A:Option Addr)(c:Nat)(w:World)(h:Sl w A c (gS a.m))(ha:a.gY):
 Calls prog 46 #[DV a A c] w λe w'=>e = .returned (.int .i64 a.iK)/\iC w w':=by
 have:=LC a.neg A c (gS a.m) a.e w h ha.xz;rw[kf]at this;exact this
def Iy(a:Dy)(A:Option Addr)(c:Nat)(w:World)(h:Sl w A c (gS a.m))(ha:a.gY):
 Calls prog 45 #[DV a A c] w λe w'=>e = .returned (.bool true)/\iC w w':=
 BD a.neg A c (gS a.m) a.e w true h (by have:=ha.exp;omega) (by have:=ha.exp;omega) (by simp[ha.xz])
def oC.dy{s:Bool}{L:List Nat}{e:Int}(h:oC s L e){w:World}{A:Option Addr}{c:Nat}(hs:Sl w A c L):∃ d:Dy,d.gY/\s=d.neg/\L=gS d.m/\e=d.e/\val L=d.m:=
 ⟨⟨s,val L,e⟩,h.2.2,rfl,h.E7 hs.ok,rfl,rfl⟩
open Pu
def P4:∀ w w',Tb w->Below w.heap.size w w'->Tb w':=λ_ _ h hb=>h.below hb
def mixed:prog.follows .mixedOrders=true:= aF 
abbrev gR(f:FuncId)(args:List E)(jT:E):Prop:=PC prog Tb f args jT
def gW(L:List Nat):E:=.sl false L.length 1 λi _=>.v (.int .u32 (L.getD i 0:Int))
def gV(d:Dy):E:=.agg [.v (.bool d.neg),gW (gS d.m),.v (.int .i64 d.e)]
abbrev iP(z:Int):E:=.v (.int .i64 z)
abbrev bP(b:Bool):E:=.v (.bool b)
abbrev ar:List E:=[bP false,.v (.slice none 0 0),iP 0]
abbrev au:List E:=[bP false,.v (.slice none 0 0),iP 0,bP false,.v (.slice none 0 0),iP 0,bP false]
def zF{bs br:Nat->Prop}{w:World}{L:List Nat}{v:Value}(hk:iE L)(h:ix bs br w (gW L) v):∃ A c,v = .slice A L.length c/\Sl w A c L:=by
 cases h with
 |sl _ _ _ _ A c f hc hm h0 hl hr cell kk=>
  refine⟨A,c,rfl,hc,hm,hk,h0,λi x hx=>?_⟩;obtain⟨hi,AD⟩:=bY.1 hx;obtain⟨b,o,e1,_,im,ki⟩:=cell i 0 hi aE;have hv:=ix.kz (kk i 0 hi aE);refine⟨b,o,e1,im,?_⟩;rw[b5,bS,hv]at ki;rw[ki];simp[bd,hx]
def Bf{B br:Nat->Prop}{w w':World}{A:Option Addr}{c:Nat}{L:List Nat}(hB:∀ b,B b->b<w.heap.size/\oM w b)(hb:iC w w')(h:Sl w' A c L):ix B br w' (gW L) (.slice A L.length c):=by
 refine .sl false L.length 1 _ A c (λi _=>.int .u32 (L.getD i 0:Int)) h.cap h.rf h.xW (λi j _ _=>⟨rfl,λh=>by cases h⟩) (λi j _ _=>rfl) (λi j hi hj=>?_) (λi j _ _=>.v _)
 .obtain rfl:j=0:= aC ;obtain⟨b,o,e1,im,ki⟩:=h.mA hi;have e2:L.getD i 0=L[i]:=by simp[bd,hi]
  refine⟨b,o,e1,λAo=>?_,im,by rw[b5,bS,ki,e2]⟩;obtain⟨h1,h2⟩:=hB b Ao;exact(h2.D0 (hb.block b h1)) _ _ ki
def Iw{bs br:Nat->Prop}{w:World}{d:Dy}{v:Value}(h:ix bs br w (gV d) v):∃ A c,v=DV d A c/\Sl w A c (gS d.m):=by
 obtain⟨vs,rfl,q⟩:=ix.C6 (show ix bs br w (.agg _) v from h);obtain⟨v1,vs,rfl,h1,q⟩:=q.nj;obtain⟨v2,vs,rfl,h2,q⟩:=q.nj;obtain⟨v3,vs,rfl,h3,q⟩:=q.nj;obtain rfl:=q.rW;obtain rfl:=ix.kz h1;obtain rfl:=ix.kz h3;obtain⟨A,c,rfl,hs⟩:=zF (mH _) h2;exact⟨A,c,rfl,hs⟩
def R4{B br:Nat->Prop}{w w':World}{A:Option Addr}{c:Nat}{d:Dy}(hB:∀ b,B b->b<w.heap.size/\oM w b)(hb:iC w w')(h:Sl w' A c (gS d.m)):ix B br w' (gV d) (DV d A c):=
 j9.agg (.cons (.v _) (.cons (Bf hB hb h) (.cons (.v _) (.nil _ _ _))))
section
variable {f:FuncId} {a b:Dy}
def D6(hc:∀ (vs:Array Value) (w:World),(callFunc f vs).run prog w = .ok (.enter f vs) w){jT:E}{R:World->Ending->World->Prop}
 (H:∀ A c w,Sl w A c (gS a.m)->Tb w->Calls prog f #[DV a A c] w (R w)) (hR:∀ (B:Nat->Prop) w e w',(∀ b,B b->b<w.heap.size/\oM w b)->R w e w'->∃ v,e = .returned v/\Below w.heap.size w w'/\ix B (λ_=>True) w' jT v):gR f [gV a] jT:=by
 refine⟨hc,λw B vs hK hB hr=>?_⟩;obtain⟨v1,vs,rfl,h1,hr⟩:=hr.nj;obtain rfl:=hr.rW;obtain⟨A,c,rfl,s1⟩:=Iw h1;exact(H A c w s1 hK).mono λe w' h=>hR B w e w' hB h
def J3(hc:∀ (vs:Array Value) (w:World),(callFunc f vs).run prog w = .ok (.enter f vs) w){jT:E}{R:World->Ending->World->Prop}
 (H:∀ A c A' c' w,Sl w A c (gS a.m)->Sl w A' c' (gS b.m)->Tb w->Calls prog f #[DV a A c,DV b A' c'] w (R w)) (hR:∀ (B:Nat->Prop) w e w',(∀ b,B b->b<w.heap.size/\oM w b)->R w e w'->∃ v,e = .returned v/\Below w.heap.size w w'/\ix B (λ_=>True) w' jT v):gR f [gV a,gV b] jT:=by
 refine⟨hc,λw B vs hK hB hr=>?_⟩;obtain⟨v1,vs,rfl,h1,hr⟩:=hr.nj;obtain⟨v2,vs,rfl,h2,hr⟩:=hr.nj;obtain rfl:=hr.rW;obtain⟨A,c,rfl,s1⟩:=Iw h1;obtain⟨A',c',rfl,s2⟩:=Iw h2;exact(H A c A' c' w s1 s2 hK).mono λe w' h=>hR B w e w' hB h
end
def rv{x:Value}:∀ (B:Nat->Prop) (w:World) (e:Ending) (w':World),(∀ b,B b->b<w.heap.size/\oM w b)->(e = .returned x/\iC w w')->∃ v,e = .returned v/\Below w.heap.size w w'/\ix B (λ_=>True) w' (.v x) v:=
 λ_ _ _ _ _ h=>⟨x,h.1,h.2,.v x⟩
def rd{d:Dy}:∀ (B:Nat->Prop) (w:World) (e:Ending) (w':World),(∀ b,B b->b<w.heap.size/\oM w b)->yj w d e w'->∃ v,e = .returned v/\Below w.heap.size w w'/\ix B (λ_=>True) w' (gV d) v:=
 λ_ _ _ _ hB ⟨_,_,h1,h2,h3⟩=>⟨_,h1,h3,R4 hB h3 h2⟩
def GD{d:Dy}{n:Int}:∀ (B:Nat->Prop) (w:World) (e:Ending) (w':World),(∀ b,B b->b<w.heap.size/\oM w b)->tI w d n e w'->∃ v,e = .returned v/\Below w.heap.size w w'/\ix B (λ_=>True) w' (.ig [gV d,iP n]) v:=
 λ_ _ _ _ hB ⟨_,_,h1,h2,h3⟩=>⟨_,h1,h3,j9.ig (.cons (R4 hB h3 h2) (.cons (.v _) (.nil _ _ _)))⟩
def qN:E.le (.agg ar) (gV iq):=by
 have:gV iq = .agg [bP false,.sl false 0 1 λi _=>.v (.int .u32 (((gS 0).getD i 0:Nat):Int)),iP 0]:=by
  show E.agg [bP false,gW (gS 0),iP 0]=_;unfold gW;rw[nU];rfl
 rw[this];exact .agg (.cons (.refl _) (.cons (.nil _ _ _) (.cons (.refl _) .nil)))
def kI(a b:Dy)(ha:a.gY)(hb:b.gY):gR 16 [gV a,gV b] (iP (iO a b)):=J3 call16 (λA c A' c' w h k _=>acZ a b A A' c c' w h k ha hb) rv
def mP(a:Dy)(ha:a.gY):gR 46 [gV a] (iP a.iK):=D6 call46 (λA c w h _=>ac4 a A c w h ha) rv
def ng(a:Dy)(ha:a.gY):gR 45 [gV a] (bP true):=D6 call45 (λA c w h _=>Iy a A c w h ha) rv
def Dk(a:Dy)(ha:a.gY):gR 47 [gV a] (iP (ia a.m)):=D6 call47 (λA c w h _=>acW a A c w h ha) rv
def TT:List TI:=[
 ⟨3,.int .i64,⟨.int .i64, "int", 1,8,false,8,8,some (.int .i64 0),true,#[]⟩⟩,
 ⟨4,.bool,⟨.bool, "bool", 1,1,false,1,1,some (.bool false),true,#[]⟩⟩,
 ⟨5,.int .u8,⟨.int .u8, "uint8", 1,1,false,1,1,some (.int .u8 0),true,#[]⟩⟩,
 ⟨9,.string,⟨.string, "string", 1,16,true,8,8,some (.string ⟨#[]⟩),true,#[]⟩⟩,
 ⟨22,.slice 91,⟨.slice 91, "[]api.Op", 1,24,true,8,8,some (.slice none 0 0),false,#[]⟩⟩,
 ⟨23,.slice 3,⟨.slice 3, "[]int", 1,24,true,8,8,some (.slice none 0 0),false,#[]⟩⟩,
 ⟨25,.struct #[⟨"Ins", 3,0,false, "", "", 0⟩,⟨"Ops", 22,1,false, "", "", 8⟩,⟨"Outs", 23,2,false, "", "", 32⟩],⟨.named "flowpipe/api.Tape" 24, "api.Tape", 3,56,true,8,8,some (.agg #[.int .i64 0,.slice none 0 0,.slice none 0 0]),false,#[]⟩⟩,
 ⟨26,.slice 44,⟨.slice 44, "[]api.Interval", 1,24,true,8,8,some (.slice none 0 0),false,#[]⟩⟩,
 ⟨28,.struct #[⟨"Tape", 25,0,false, "", "", 0⟩,⟨"States", 3,3,false, "", "", 56⟩,⟨"Params", 26,4,false, "", "", 64⟩],⟨.named "flowpipe/api.System" 27, "api.System", 5,88,true,8,8,some (.agg #[.int .i64 0,.slice none 0 0,.slice none 0 0,.int .i64 0,.slice none 0 0]),false,#[]⟩⟩,
 ⟨29,.slice 96,⟨.slice 96, "[]uint32", 1,24,true,8,8,some (.slice none 0 0),false,#[]⟩⟩,
 ⟨31,.struct #[⟨"Neg", 4,0,false, "", "", 0⟩,⟨"M", 29,1,false, "", "", 8⟩,⟨"E", 3,2,false, "", "", 32⟩],⟨.named "flowpipe/api.Dyadic" 30, "api.Dyadic", 3,40,true,8,8,some (.agg #[.bool false,.slice none 0 0,.int .i64 0]),false,#[]⟩⟩,
 ⟨33,.struct #[⟨"Method", 3,0,false, "", "", 0⟩,⟨"Order", 3,1,false, "", "", 8⟩,⟨"Prec", 3,2,false, "", "", 16⟩,⟨"Step", 31,3,false, "", "", 24⟩,⟨"Tol", 3,6,false, "", "", 64⟩,⟨"Most", 3,7,false, "", "", 72⟩],⟨.named "flowpipe/api.Config" 32, "api.Config", 8,80,true,8,8,some (.agg #[.int .i64 0,.int .i64 0,.int .i64 0,.bool false,.slice none 0 0,.int .i64 0,.int .i64 0,.int .i64 0]),false,#[]⟩⟩,
 ⟨36,.int .i64,⟨.named "flowpipe/api.Errno" 3, "api.Errno", 1,8,false,8,8,some (.int .i64 0),true,#[]⟩⟩,
 ⟨40,.slice 26,⟨.slice 26, "[][]api.Interval", 1,24,true,8,8,some (.slice none 0 0),false,#[]⟩⟩,
 ⟨44,.struct #[⟨"Lo", 31,0,false, "", "", 0⟩,⟨"Hi", 31,3,false, "", "", 40⟩,⟨"All", 4,6,false, "", "", 80⟩],⟨.named "flowpipe/api.Interval" 43, "api.Interval", 7,88,true,8,8,some (.agg #[.bool false,.slice none 0 0,.int .i64 0,.bool false,.slice none 0 0,.int .i64 0,.bool false]),false,#[]⟩⟩,
 ⟨45,.slice 31,⟨.slice 31, "[]api.Dyadic", 1,24,true,8,8,some (.slice none 0 0),false,#[]⟩⟩,
 ⟨59,.func #[44] #[4] false,⟨.func #[44] #[4] false, "func(api.Interval) bool", 1,8,true,8,8,some (.nilFunc),false,#[]⟩⟩,
 ⟨63,.func #[26] #[4] false,⟨.func #[26] #[4] false, "func([]api.Interval) bool", 1,8,true,8,8,some (.nilFunc),false,#[]⟩⟩,
 ⟨86,.func #[31,3] #[31,36] false,⟨.func #[31,3] #[31,36] false, "func(api.Dyadic, int) (api.Dyadic, api.Errno)", 1,8,true,8,8,some (.nilFunc),false,#[]⟩⟩,
 ⟨89,.struct #[⟨"N", 3,0,false, "", "", 0⟩,⟨"D", 3,1,false, "", "", 8⟩],⟨.named "flowpipe/api.Ratio" 88, "api.Ratio", 2,16,false,8,8,some (.agg #[.int .i64 0,.int .i64 0]),true,#[]⟩⟩,
 ⟨91,.struct #[⟨"Kind", 3,0,false, "", "", 0⟩,⟨"A", 3,1,false, "", "", 8⟩,⟨"B", 3,2,false, "", "", 16⟩,⟨"N", 3,3,false, "", "", 24⟩,⟨"C", 89,4,false, "", "", 32⟩],⟨.named "flowpipe/api.Op" 90, "api.Op", 6,48,false,8,8,some (.agg #[.int .i64 0,.int .i64 0,.int .i64 0,.int .i64 0,.int .i64 0,.int .i64 0]),true,#[]⟩⟩,
 ⟨94,.func #[3] #[4] false,⟨.func #[3] #[4] false, "func(int) bool", 1,8,true,8,8,some (.nilFunc),false,#[]⟩⟩,
 ⟨96,.int .u32,⟨.int .u32, "uint32", 1,4,false,4,4,some (.int .u32 0),true,#[]⟩⟩,
 ⟨100,.func #[44,44,3] #[44] false,⟨.func #[44,44,3] #[44] false, "func(api.Interval, api.Interval, int) api.Interval", 1,8,true,8,8,some (.nilFunc),false,#[]⟩⟩,
 ⟨118,.func #[44,44] #[4] false,⟨.func #[44,44] #[4] false, "func(api.Interval, api.Interval) bool", 1,8,true,8,8,some (.nilFunc),false,#[]⟩⟩,
 ⟨120,.int .u64,⟨.int .u64, "uint64", 1,8,false,8,8,some (.int .u64 0),true,#[]⟩⟩,
 ⟨121,.int .u64,⟨.int .u64, "uint", 1,8,false,8,8,some (.int .u64 0),true,#[]⟩⟩,
 ⟨134,.func #[44,44] #[44] false,⟨.func #[44,44] #[44] false, "func(api.Interval, api.Interval) api.Interval", 1,8,true,8,8,some (.nilFunc),false,#[]⟩⟩,
 ⟨136,.slice 29,⟨.slice 29, "[][]uint32", 1,24,true,8,8,some (.slice none 0 0),false,#[]⟩⟩,
 ⟨138,.func #[29] #[4] false,⟨.func #[29] #[4] false, "func([]uint32) bool", 1,8,true,8,8,some (.nilFunc),false,#[]⟩⟩,
 ⟨150,.func #[31,31,3] #[31,36] false,⟨.named "flowpipe/interval.rounded" 132, "interval.rounded", 1,8,true,8,8,some (.nilFunc),false,#[]⟩⟩,
 ⟨151,.array 2 31,⟨.array 2 31, "[2]api.Dyadic", 6,80,true,8,8,some (.agg #[.bool false,.slice none 0 0,.int .i64 0,.bool false,.slice none 0 0,.int .i64 0]),false,#[]⟩⟩,
 ⟨152,.array 4 151,⟨.array 4 151, "[4][2]api.Dyadic", 24,320,true,8,8,some (.agg #[.bool false,.slice none 0 0,.int .i64 0,.bool false,.slice none 0 0,.int .i64 0,.bool false,.slice none 0 0,.int .i64 0,.bool false,.slice none 0 0,.int .i64 0,.bool false,.slice none 0 0,.int .i64 0,.bool false,.slice none 0 0,.int .i64 0,.bool false,.slice none 0 0,.int .i64 0,.bool false,.slice none 0 0,.int .i64 0]),false,#[]⟩⟩,
 ⟨163,.func #[3] #[44] false,⟨.func #[3] #[44] false, "func(int) api.Interval", 1,8,true,8,8,some (.nilFunc),false,#[]⟩⟩,
 ⟨174,.struct #[⟨"m", 29,0,false, "", "flowpipe/round", 0⟩,⟨"e", 3,1,false, "", "flowpipe/round", 24⟩,⟨"more", 4,2,false, "", "flowpipe/round", 32⟩],⟨.named "flowpipe/round.exact" 173, "round.exact", 3,40,true,8,8,some (.agg #[.slice none 0 0,.int .i64 0,.bool false]),false,#[]⟩⟩,
 ⟨193,.map 3 197,⟨.map 3 197, "map[int]func(gradient.node) api.Interval", 1,8,true,8,8,some (.map none),false,#[]⟩⟩,
 ⟨196,.struct #[⟨"o", 91,0,false, "", "flowpipe/gradient", 0⟩,⟨"v", 44,6,false, "", "flowpipe/gradient", 48⟩,⟨"a", 44,13,false, "", "flowpipe/gradient", 136⟩,⟨"b", 44,20,false, "", "flowpipe/gradient", 224⟩,⟨"da", 44,27,false, "", "flowpipe/gradient", 312⟩,⟨"db", 44,34,false, "", "flowpipe/gradient", 400⟩,⟨"p", 3,41,false, "", "flowpipe/gradient", 488⟩],⟨.named "flowpipe/gradient.node" 195, "gradient.node", 42,496,true,8,8,some (.agg #[.int .i64 0,.int .i64 0,.int .i64 0,.int .i64 0,.int .i64 0,.int .i64 0,.bool false,.slice none 0 0,.int .i64 0,.bool false,.slice none 0 0,.int .i64 0,.bool false,.bool false,.slice none 0 0,.int .i64 0,.bool false,.slice none 0 0,.int .i64 0,.bool false,.bool false,.slice none 0 0,.int .i64 0,.bool false,.slice none 0 0,.int .i64 0,.bool false,.bool false,.slice none 0 0,.int .i64 0,.bool false,.slice none 0 0,.int .i64 0,.bool false,.bool false,.slice none 0 0,.int .i64 0,.bool false,.slice none 0 0,.int .i64 0,.bool false,.int .i64 0]),false,#[]⟩⟩,
 ⟨197,.func #[196] #[44] false,⟨.func #[196] #[44] false, "func(gradient.node) api.Interval", 1,8,true,8,8,some (.nilFunc),false,#[]⟩⟩,
 ⟨203,.struct #[⟨"p", 3,0,false, "", "flowpipe/exponent", 0⟩],⟨.named "flowpipe/exponent.work" 202, "exponent.work", 1,8,false,8,8,some (.agg #[.int .i64 0]),true,#[⟨"flowpipe/exponent.add", 134,#[],some (257,false)⟩,⟨"flowpipe/exponent.div", 134,#[],some (256,false)⟩,⟨"flowpipe/exponent.exp", 165,#[],some (287,false)⟩,⟨"flowpipe/exponent.halved", 167,#[],some (255,false)⟩,⟨"flowpipe/exponent.log", 165,#[],some (258,false)⟩,⟨"flowpipe/exponent.mul", 134,#[],some (259,false)⟩,⟨"flowpipe/exponent.small", 59,#[],some (289,false)⟩]⟩⟩,
 ⟨216,.struct #[⟨"neg", 4,0,false, "", "flowpipe/circle", 0⟩,⟨"m", 29,1,false, "", "flowpipe/circle", 8⟩],⟨.named "flowpipe/circle.fix" 215, "circle.fix", 2,32,true,8,8,some (.agg #[.bool false,.slice none 0 0]),false,#[⟨"flowpipe/circle.add", 227,#[],some (302,false)⟩,⟨"flowpipe/circle.by", 223,#[],some (307,false)⟩,⟨"flowpipe/circle.minus", 221,#[],some (293,false)⟩,⟨"flowpipe/circle.times", 224,#[],some (299,false)⟩,⟨"flowpipe/circle.zero", 34,#[],some (303,false)⟩]⟩⟩,
 ⟨227,.func #[216] #[216] false,⟨.func #[216] #[216] false, "func(circle.fix) circle.fix", 1,8,true,8,8,some (.nilFunc),false,#[]⟩⟩]
def K1:mf prog TT:=Hl.ok ⟨⟨underlying3,aF⟩,⟨underlying4,aF⟩,⟨underlying5,aF⟩,⟨underlying9,aF⟩,⟨underlying22,aF⟩,⟨underlying23,aF⟩,⟨underlying25,aF⟩,⟨underlying26,aF⟩,⟨underlying28,aF⟩,⟨underlying29,aF⟩,⟨underlying31,aF⟩,⟨underlying33,aF⟩,⟨underlying36,aF⟩,⟨underlying40,aF⟩,⟨underlying44,aF⟩,⟨underlying45,aF⟩,⟨underlying59,aF⟩,⟨underlying63,aF⟩,⟨underlying86,aF⟩,⟨underlying89,aF⟩,⟨underlying91,aF⟩,⟨underlying94,aF⟩,⟨underlying96,aF⟩,⟨underlying100,aF⟩,⟨underlying118,aF⟩,⟨underlying120,aF⟩,⟨underlying121,aF⟩,⟨underlying134,aF⟩,⟨underlying136,aF⟩,⟨underlying138,aF⟩,⟨underlying150,aF⟩,⟨underlying151,aF⟩,⟨underlying152,aF⟩,⟨underlying163,aF⟩,⟨underlying174,aF⟩,⟨underlying193,aF⟩,⟨underlying196,aF⟩,⟨underlying197,aF⟩,⟨underlying203,aF⟩,⟨underlying216,aF⟩,⟨underlying227,aF⟩,trivial⟩
end Go.Proofs.YtkdddbdjilcofaaGreatDoor
namespace Go.Proofs.YtkdddbdjilcofaaGreatDoor.Pu
open Go.RowKit
def E.kJ:E->Nat->Nat->E
 | .sl _ _ _ el,i,j=>el i j
 | .nf _ _ _ _ el,i,j=>el i j
 |_,_,_=>.any
section
variable {P:Program} {K:World->Prop}
def Sp.pre{c:Code}{σ τ:PS}{Q:Ex->PS->Prop}(h:PS.le σ τ)(k:Sp P K c τ Q):Sp P K c σ Q:=λw0 B a w L g r=>
 let⟨L',r'⟩:=h w0 B a w L (λb hb=>(g.hB b hb).1) r;k w0 B a w L' g r'
def Sp.post{c:Code}{σ:PS}{Q Q':Ex->PS->Prop}(h:Sp P K c σ Q)(k:∀ e τ,Q e τ->∃ τ',PS.le τ τ'/\Q' e τ'):Sp P K c σ Q':=λw0 B a w L g r=>
 Code.wp_mono (λ_ _ _ ⟨ex,τ,L',h1,h2,h3⟩=>let⟨τ',q1,q2⟩:=k ex τ h2;let⟨L2,r2⟩:=q1 w0 B _ _ L' (λb hb=>(g.hB b hb).1) h3;⟨ex,τ',L2,h1,q2,r2⟩) (h w0 B a w L g r)
def Sp.fam{α:Type}(f:α->PS)(p:α->Prop)(m:α->Nat){b:Code}{e:Ex}{τ:PS}
 (step:∀ x,p x->Sp P K b (f x) (λe' υ=>(e' = .normal/\∃ y,p y/\m y<m x/\υ=f y)\/(e' ≠ .normal/\e'=e/\υ=τ))) {σ:PS} (x:α) (hx:p x) (h0:PS.le σ (f x)):
 Sp P K (.loop b) σ (λe' υ=>e'=e/\υ=τ):=by
 refine Sp.pre h0 ?_;refine Sp.loop (Q:=λe' υ=>e'=e/\υ=τ) (λn σ=>∃ x,p x/\m x=n/\σ=f x) (λn σ ⟨x,h1,h2,h3⟩=>?_) (m x) (f x) ⟨x,hx,rfl,rfl⟩;subst h3 h2;exact(step x h1).mono λe' υ h=>h.imp (λ⟨q1,y,q2,q3,q4⟩=>⟨q1,m y,q3,y,q2,rfl,q4⟩) id
def Sp.adR{α:Type}{f:α->PS}{p:α->Prop}{m:α->Nat}{b:Code}{e:Ex}{τ υ:PS}{x:α}(y:α)(h:Sp P K b (f x) (λe' υ'=>e' = .normal/\υ'=υ))(hy:p y)(hm:m y<m x)(hl:PS.le υ (f y)):
 Sp P K b (f x) (λe' υ=>(e' = .normal/\∃ y,p y/\m y<m x/\υ=f y)\/(e' ≠ .normal/\e'=e/\υ=τ)):=
 h.post λ_ _ ⟨h1,h2⟩=>⟨f y,h2▸hl,.inl ⟨h1,y,hy,hm,rfl⟩⟩
def Sp.adS{α:Type}{f:α->PS}{p:α->Prop}{m:α->Nat}{b:Code}{e:Ex}{τ υ:PS}{x:α}(h:Sp P K b (f x) (λe' υ'=>e'=e/\υ'=υ))(he:e ≠ .normal)(hl:PS.le υ τ):
 Sp P K b (f x) (λe' υ=>(e' = .normal/\∃ y,p y/\m y<m x/\υ=f y)\/(e' ≠ .normal/\e'=e/\υ=τ)):=
 h.post λ_ _ ⟨h1,h2⟩=>⟨τ,h2▸hl,.inr ⟨h1▸he,h1,rfl⟩⟩
end
def AN(k:Nat):Code->Option Code
 | .loop b=>if Nat.beq (Fe b) k then some b else AN k b
 | .seq a b=>match AN k a with
  |some c=>some c
  |none=>AN k b
 | .cond _ a b=>match AN k a with
  |some c=>some c
  |none=>AN k b
 | .block _ b=>AN k b
 | .scope b=>AN k b
 |_=>none
def aaG(k:Nat)(fn:Func):Code:=((fn.body.bind (AN k)).getD .skip)
def Bx.le.iM{a b:Bx}(h:a=b):Bx.le a b:=h▸Bx.le.refl a
def Bx.le.cells{T:TypeId}{l m:List E}(hn:(l.all E.mS=true->m.all E.mS=true))(h:tH l m):Bx.le (.cells T l) (.cells T m):=⟨hn,λ_ _ _ _ _ ⟨b,vs,h1,h2,h3,h4,h5⟩=>⟨b,vs,h1,h2,h3,h.Ke h4,h5⟩⟩
def Bx.le.row{nl:Bool}{T:TypeId}{n n' sz:Nat}{el el':Nat->Nat->E}(hn:n=n')(h:∀ i j,i<n->j<sz->E.le (el i j) (el' i j)/\(el' i j).nr 2=true):Bx.le (.row nl T n sz el) (.row nl T n' sz el'):=
 ⟨id,λ_ _ _ _ _ ⟨f,h1,h2,h3⟩=>by subst hn;exact⟨f,h1,h2,λi j hi hj=>⟨(h i j hi hj).1 _ _ _ _ (h3 i j hi hj).1,(h i j hi hj).2⟩⟩⟩
def Bx.le.jC{nl:Bool}{T1 T0:TypeId}{n n' sz:Nat}{len len':Nat->Nat}{el el':Nat->Nat->Nat->E}{pend:Option Nat}(hn:n=n')(hl:∀ k,k<n->len k=len' k)
 (h:∀ k i j,k<n->i<len k->j<sz->E.le (el k i j) (el' k i j)/\(el' k i j).nr 2=true):Bx.le (.jC nl T1 T0 n sz len el pend) (.jC nl T1 T0 n' sz len' el' pend):=
 ⟨id,λ_ _ _ _ _ hh=>by
  subst hn;rcases hh with hh|⟨b,c,cur,f,h1,h2,h3,h4,h5,h6,h7,h8,h9,pT,rS⟩
  .exact .inl hh
  refine .inr ⟨b,c,cur,f,h1,h2,h3,h4,h5,h6,h7,λk hk=>?_,h9,pT,rS⟩;rw[<-hl k hk];exact⟨(h8 k hk).1,λi j hi hj=>⟨(h k i j hk hi hj).1 _ _ _ _ ((h8 k hk).2 i j hi hj).1,(h k i j hk hi hj).2⟩⟩⟩
def Bx.le.ajy{T1 T0 sz:Nat}{len:Nat->Nat}{el:Nat->Nat->E}{el':Nat->Nat->Nat->E}:Bx.le (.row true T1 0 1 el) (.jC true T1 T0 0 sz len el' none):=
 ⟨id,λ_ _ _ _ _ ⟨f,h1,h2,h3⟩=>by
  rcases h1 with⟨h,_⟩|⟨b,c,cur,h,hg,oF,nM,mR,ki,jA⟩
  .refine .inl ⟨h,rfl,λx hx=>?_⟩;have:=(h2 x).1 hx;rw[h]at this;simp[Value.ownBlock]at this
  .refine .inr ⟨b,c,cur,λ_ _ _=>undef,h,hg,oF,nM,aC,λk hk=>absurd hk (bn k),jA rfl,λk hk=>absurd hk (bn k),λx=>?_,λk k' x hk=>absurd hk (bn k),λk hk=>absurd hk (bn k)⟩;rw[h2,h];simp only[Value.ownBlock,bu];exact⟨λe=>.inl e.symm,λe=>e.elim (λe=>e.symm) λ⟨k,hk,_⟩=>absurd hk (bn k)⟩⟩
def PS.le.agv{σ τ:PS}(hn:σ.n=τ.n)(jA:(τ.b.all λx=>x.2.nl)=true)(hr:GF τ=true)(ht:xk σ τ.t)(hb:wA σ τ.b):PS.le σ τ:=λw0 B a w L _ r=>by
 let L':Lk:=⟨λid=>L.mj id/\(τ.bo id).isSome=true,λid x=>L.own id x/\(τ.bo id).isSome=true,L.val,L.iD⟩
 have im:rL L w L' w:=⟨bc _,λx _ ⟨id,h,_⟩=>⟨id,h⟩,λ_ _ _=>rfl⟩
 refine⟨L',r.hd,by rw[<-hn];exact r.hs,λt=>?_,λid b h=>?_,λid=>?_,λid x h=>⟨r.hn id x h.1,h.2⟩,λid x h=>r.hw id x h.1,λid id' x h k=>r.hi id id' x h.1 k.1,r.he,λh id b k=>?_⟩
 .have hg:τ.get t=((look τ.t t)).getD (.e .any):=rfl;cases hl:look τ.t t with
  |none=>rw[hg,hl];exact .any _
  |some p=>
   rw[hg,hl];have:=ht.get hl _ _ _ _ _ (r.ht t);refine mY.move im this λid hid sc=>⟨⟨sc,?_⟩,rfl,λ_=>rfl⟩
   have q:=bN.1 hr _ (NJ hl);exact bN.1 q id hid
 .obtain ⟨b',h1,h2⟩:=hb.get h;have hs:(τ.bo id).isSome=true:=by rw[h];rfl
  exact(h2.2 _ _ _ _ _ (r.hb id b' h1)).later im rfl (λx=>⟨λq=>q.1,λq=>⟨q,hs⟩⟩) (λ_=>rfl) λ_ _=>rfl
 .show L.mj id/\(τ.bo id).isSome=true↔(τ.bo id).isSome=true;refine⟨λh=>h.2,λh=>⟨(r.hv id).2 ?_,h⟩⟩;obtain⟨b,jf⟩:=fN.1 h;obtain⟨b',h1,_⟩:=hb.get jf;rw[h1];rfl
 .exact bN.1 jA _ (NJ k)
def PV.xD(id:Nat)(e:E)(p:PV):PV:=match p with
 | .own i=>if Nat.beq i id then .e e else .own i
 |p=>if p.lI.any (Nat.beq id)then .e .any else p
def PS.xD(σ:PS)(id:Nat)(e:E):PS:={ σ with t:=σ.t.map λx=>(x.1,x.2.xD id e),b:=σ.b.filter λx=>!Nat.beq x.1 id }
def Bx.as:Bx->Option E
 | .row nl _ n sz el=>some (.sl nl n sz el)
 | .jC nl _ _ n sz len el none=>some (.sl true n 1 λk _=>.sl nl (len k) sz (el k))
 |_=>none
def PS.le.freeze{σ:PS}(id:Nat){b:Bx}{e:E}(jf:σ.bo id=some b)(he:b.as=some e):PS.le σ (σ.xD id e):=λw0 B a w L hB r=>by
 let L':Lk:=⟨λi=>L.mj i/\i≠id,λi x=>L.own i x/\i≠id,L.val,L.iD⟩
 have im:rL L w L' w:=⟨bc _,λx _ ⟨i,h,_⟩=>⟨i,h⟩,λ_ _ _=>rfl⟩
 have sC:∀ i,(σ.xD id e).bo i=if i=id then none else σ.bo i:=by
  intro i;unfold PS.bo PS.xD;by_cases h:i=id
  .subst h;simp only[bw];exact VG _ _
  .rw [aY h];exact F5 _ _ _ (λe=>h e.symm)
 have Ao:∀ x,L.own id x->¬ja B L' x:=by
  rintro x hx (h|⟨i,h1,h2⟩)
  .have:=hB x h;have:=(r.hw id x hx).1;omega
  .exact h2 (r.hi i id x h1 hx)
 have own:∀ (v:Value) (T:TypeId) (n sz:Nat) (f:Nat->Nat->Value) (nl:Bool) (el:Nat->Nat->E),nG w v T n sz f nl->(∀ x,v.ownBlock=some x->L.own id x) ->
  (∀ i j,i<n->j<sz->ix (ja B L) (jx L) w (el i j) (f i j)/\(el i j).nr 2=true)->ix (ja B L') (jx L') w (.sl nl n sz el) v:=by
  intro v T n sz f nl el h1 h2 h3;rcases h1 with⟨rfl,rfl⟩|⟨b,c,cur,rfl,hg,oF,nM,mR,ki,jA⟩
  .exact .sl nl 0 sz el none 0 f (bc _) aE (λ_=>rfl) (λi j hi=>absurd hi (bn i)) (λi j hi=>absurd hi (bn i)) (λi j hi=>absurd hi (bn i)) (λi j hi=>absurd hi (bn i))
  .have sE:=h2 b rfl;refine .sl nl n sz el _ c f oF (by unfold maxLen at nM;omega) (λh=>by cases h) (λi j hi hj=>⟨(ki i j hi hj).2,λhn=>jA hn _ (dH (ki i j hi hj).1)⟩) (λi j hi hj=>(h3 i j hi hj).2)
    (λi j hi hj=>⟨b,0,rfl,Ao b sE,(r.hw id b sE).2,?_⟩) (λi j hi hj=>im.kD (h3 i j hi hj).1)
   rw[bZ];simp only[World.cell?,hg];simpa using(ki i j hi hj).1
 have hold:∀ v,v=L.val id->ix (ja B L') (jx L') w e v:=by
  rintro v rfl;have I0:=r.hb id b jf;cases b with
  |cells T l=>cases he
  |row nl T n sz el=>
   cases he;obtain⟨f,h1,h2,h3⟩:=I0;exact own _ T n sz f nl el h1 (λx hx=>(h2 x).2 hx) h3
  |jC nl T1 T0 n sz len el pend=>
   cases pend with
   |some k=>cases he
   |none=>
    cases he;rcases I0 with⟨h1,h2,_⟩|iW
    .subst h2;rw[h1];exact .sl true 0 1 _ none 0 (λ_ _=>undef) (bc _) aE (λ_=>rfl) (λi j hi=>absurd hi (bn i)) (λi j hi=>absurd hi (bn i)) (λi j hi=>absurd hi (bn i)) (λi j hi=>absurd hi (bn i))
    obtain⟨b,c,cur,f,h1,h2,h3,h4,h5,h6,h7,h8,h9,pT,rS⟩:=iW;have sE:L.own id b:=(h9 b).2 (.inl rfl);rw[h1];refine .sl true n 1 _ _ c (λk _=>L.iD id k) h3 (by unfold maxLen at h4;omega) (λh=>by cases h) (λk j hk hj=>?_) (λk j hk hj=>rfl)
     (λk j hk hj=>⟨b,0,rfl,Ao b sE,(r.hw id b sE).2,?_⟩) (λk j hk hj=>own _ T0 (len k) sz (f k) nl (el k) (h8 k hk).1 (λx hx=>(h9 x).2 (.inr ⟨k,hk,hx⟩)) (h8 k hk).2)
    .obtain ⟨_,q1,q2⟩:=(h8 k hk).1.head;exact⟨q1,λ_=>q2⟩
    .rw [bZ,b5];obtain rfl:j=0:= aC ;simp only[World.cell?,h2];simpa using h6 k hk aH 
 refine⟨L',r.hd,r.hs,λt=>?_,λi b' h=>?_,λi=>?_,λi x h=>⟨r.hn i x h.1,h.2⟩,λi x h=>r.hw i x h.1,λi i' x h k=>r.hi i i' x h.1 k.1,r.he,λh i b' k=>?_⟩
 .have hg:(σ.xD id e).get t=(σ.get t).xD id e:=by
   unfold PS.get PS.xD;rw[VH];cases look σ.t t<;>rfl
  rw[hg];have k:=r.ht t;generalize σ.get t=p at k;have move:∀ (p:PV) (v:Value),mY (ja B L) (jx L) L w p v->(p.lI.any (Nat.beq id))=false->mY (ja B L') (jx L') L' w p v:=by
   intro p v k hp;refine mY.move im k λi hi sc=>⟨⟨sc,?_⟩,rfl,λ_=>rfl⟩
   rintro rfl;have:=cW.1 hp i hi;simp at this
  have gen:∀ (p:PV) (v:Value),mY (ja B L) (jx L) L w p v->mY (ja B L') (jx L') L' w (if p.lI.any (Nat.beq id)then .e .any else p) v:=by
   intro p v k;cases hp:p.lI.any (Nat.beq id)with
   |true=>exact .any _
   |false=>exact move p v k hp
  cases p with
  |own i=>
   simp only[PV.xD];by_cases hi:i=id
   .subst hi;rw[cg,aZ rfl];exact hold _ k.2
   .rw [cJ hi,aY aE];exact⟨⟨k.1,hi⟩,k.2⟩
  |_=>exact gen _ _ k
 .rw [sC]at h;split at h
  .cases h
  .rename_i hi;exact(r.hb i b' h).later im rfl (λx=>⟨λq=>q.1,λq=>⟨q,hi⟩⟩) (λ_=>rfl) λ_ _=>rfl
 .rw [sC];show L.mj i/\i≠id↔_;by_cases hi:i=id
  .subst hi;simp
  .simp only[hi,cT,eh,eX,bk];exact r.hv i
 .rw [sC]at k;split at k
  .cases k
  .exact r.hl h i b' k
def PS.C5(σ:PS)(t id:Nat)(b:Bx):PS:={ σ with t:=(t,.own id)::σ.t.filter (λx=>!Nat.beq x.1 t),b:=(id,b)::σ.b }
def PS.le.ZA{σ:PS}(t id:Nat){nl:Bool}{T:TypeId}{sz:Nat}{el:Nat->Nat->E}(jf:σ.bo id=none)(hg:σ.get t = .e (.v (.slice none 0 0)))(jA:σ.nl=true->nl=true):PS.le σ (σ.C5 t id (.row nl T 0 sz el)):=λw0 B a w L hB r=>by
 have qg:¬L.mj id:=λh=>by have:=(r.hv id).1 h;rw[jf]at this;cases this
 let L':Lk:=⟨λi=>L.mj i\/i=id,L.own,λi=>if i=id then .slice none 0 0 else L.val i,L.iD⟩
 have im:rL L w L' w:=⟨bc _,λx _ h=>h,λ_ _ _=>rfl⟩
 have sC:∀ i,(σ.C5 t id (.row nl T 0 sz el)).bo i=if i=id then some (.row nl T 0 sz el)else σ.bo i:=by
  intro i;unfold PS.bo PS.C5;rw[uf];by_cases h:id=i
  .rw [aZ h,aZ h.symm]
  .rw [aY h,aY (λe=>h e.symm)]
 have hv:a.tmps.getD t undef = .slice none 0 0:=by
  have:=r.ht t;rw[hg]at this;exact ix.kz this
 refine⟨L',r.hd,r.hs,λs=>?_,λi b' h=>?_,λi=>?_,λi x h=>.inl (r.hn i x h),r.hw,r.hi,r.he,λh i b' k=>?_⟩
 .have hgs:(σ.C5 t id (.row nl T 0 sz el)).get s=if t=s then .own id else σ.get s:=by
   unfold PS.get PS.C5;simp only[uf];by_cases h:t=s
   .rw [aZ h,aZ h];rfl
   .rw [aY h,aY h,F5 _ _ _ h]
  rw[hgs];by_cases h:t=s
  .subst h;rw[aZ rfl,hv];exact⟨.inr rfl,(aZ rfl).symm⟩
  .rw [aY h];refine mY.move im (r.ht s) λi _ sc=>⟨.inl sc,aY (λ(q:i=id)=>qg (q▸sc)),λ_=>rfl⟩
 .rw [sC]at h;split at h
  .rename_i hi;subst hi;cases h;refine⟨λ_ _=>undef,.inl ⟨aZ rfl,rfl⟩,λx=>⟨λq=>absurd (r.hn _ _ q) qg,λq=>?_⟩,λi j hi=>absurd hi (bn i)⟩;have e1:L'.val i = .slice none 0 0:=aZ rfl;rw[e1]at q;cases q
  .rename_i hi;exact(r.hb i b' h).later im (aY hi) (λ_=>Iff.rfl) (λ_=>rfl) λ_ _=>rfl
 .rw [sC];show L.mj i\/i=id↔_;by_cases hi:i=id
  .subst hi;simp
  .simp only[hi,or_false,bk];exact r.hv i
 .rw [sC]at k;split at k
  .cases k;exact jA h
  .exact r.hl h i b' k
end Go.Proofs.YtkdddbdjilcofaaGreatDoor.Pu
namespace Go.Proofs.YtkdddbdjilcofaaGreatDoor.Fp
def na(x i:Nat)(b o:List Nat):Nat->List Nat×Nat
 | 0=>(o,0)
 |k+1=>
  let r:=na x i b o k
  let z:=x*b.getD k 0+r.1.getD (i+k) 0+r.2
  (r.1.set (i+k) (z%4294967296),z/4294967296)
def lh(a b:List Nat):Nat->List Nat
 | 0=>List.replicate (a.length+b.length) 0
 |i+1=>
  let r:=na (a.getD i 0) i b (lh a b i) b.length
  r.1.set (i+b.length) (r.2%4294967296)
def V7{x y:Nat}(hx:x<4294967296)(hy:y<4294967296):x*y<=18446744065119617025:=by
 have:=dk (aC:x<=4294967295) (aC:y<=4294967295);omega
def CR{L:List Nat}{k x:Nat}(hk:k<L.length):val (L.set k x)+4294967296^k*L.getD k 0=val L+4294967296^k*x:=by
 have:=PB (x:=x) hk;rwa[bd,bt hk]
def Ak{L:List Nat}{k j x:Nat}(h:k≠j):(L.set k x).getD j 0=L.getD j 0:=by
 simp only[bd,List.getElem?_set_ne h]
def aeg{L:List Nat}{k x:Nat}(h:k<L.length):(L.set k x).getD k 0=x:=by
 simp[bd,h]
structure Zq(x i:Nat)(b o:List Nat)(k:Nat)(r:List Nat×Nat):Prop where
 ok:iE r.1
 len:r.1.length=o.length
 lt:r.2<4294967296
 eq:val r.1+4294967296^(i+k)*r.2=val o+4294967296^i*(x*val (b.take k))
 pX:∀ j,i+k<=j->r.1.getD j 0=o.getD j 0
def Ga{x i:Nat}{b o:List Nat}(hx:x<4294967296)(hb:iE b)(ho:iE o)(hl:i+b.length<=o.length):∀ k,k<=b.length->Zq x i b o k (na x i b o k)
 | 0,_=>⟨ho,rfl,Nat.zero_lt_succ _,by simp[na,val],λ_ _=>rfl⟩
 |k+1,hk=>by
  obtain⟨h1,h2,h3,h4,h5⟩:=Ga hx hb ho hl k aC;have hy:=hb.getD k;have hw:=h1.getD (i+k);have hm:=V7 hx hy;have hv:=Bl b k;simp only[na];generalize na x i b o k=r at *
  generalize hz:x*b.getD k 0+r.1.getD (i+k) 0+r.2=z;have B8:=CR (L:=r.1) (k:=i+k) (x:=z%4294967296) aC;refine⟨h1.set _ (bE _ aE),by simpa using h2,by show z/4294967296<_;omega,?_,λj hj=>?_⟩
  .have e1:z=z%4294967296+4294967296*(z/4294967296):=(et z _).symm;show val (r.1.set (i+k) (z%4294967296))+4294967296^(i+(k+1))*(z/4294967296)=_;rw[hv,bO x,bO (4294967296^i),<-cR (val o),<-h4];have e2:4294967296^(i+(k+1))*(z/4294967296)=4294967296^(i+k)*(4294967296*(z/4294967296)):=by rw[(aC:i+(k+1)=(i+k)+1),bC,bA]
   have e3:4294967296^i*(x*(4294967296^k*b.getD k 0))=4294967296^(i+k)*(x*b.getD k 0):=by rw[bh];simp only[bA,dK]
   rw[e2,e3];have e4:4294967296^(i+k)*z=4294967296^(i+k)*(x*b.getD k 0)+4294967296^(i+k)*r.1.getD (i+k) 0+4294967296^(i+k)*r.2:=by rw[<-hz,bO,bO]
   have e5:4294967296^(i+k)*z=4294967296^(i+k)*(z%4294967296)+4294967296^(i+k)*(4294967296*(z/4294967296)):=by rw[<-bO,<-e1]
   omega
  .show (r.1.set (i+k) _).getD j 0=_;rw[Ak aC,h5 j aC]
structure Zr(a b:List Nat)(i:Nat)(o:List Nat):Prop where
 ok:iE o
 len:o.length=a.length+b.length
 eq:val o=val (a.take i)*val b
 zero:∀ j,i+b.length<=j->o.getD j 0=0
def Gc{a b:List Nat}(ha:iE a)(hb:iE b):∀ i,i<=a.length->Zr a b i (lh a b i)
 | 0,_=>⟨iE.Eb _,by simp[lh],by simp[lh,CQ,val],λj _=>by
  by_cases h:j<a.length+b.length<;>simp[lh,bd,eF,h]⟩
 |i+1,hi=>by
  obtain⟨h1,h2,h3,h4⟩:=Gc ha hb i aC;obtain⟨q1,q2,q3,q4,q5⟩:=Ga (ha.getD i) hb h1 (i:=i) aC b.length (bc _);have hv:=Bl a i;simp only[lh];generalize na (a.getD i 0) i b (lh a b i) b.length=r at *
  have B8:=CR (L:=r.1) (k:=i+b.length) (x:=r.2%4294967296) aC;rw[q5 _ (bc _),h4 _ (bc _),cI,bS,bX q3,q4,eG,h3]at B8;refine⟨q1.set _ (bE _ aE),aN,?_,λj hj=>?_⟩
  .rw [bX q3,B8,hv,bR,bA]
  .rw [Ak aC,q5 _ aC,h4 _ aC]
def alE{a b:List Nat}(ha:iE a)(hb:iE b):val (lh a b a.length)=val a*val b:=by
 have:=(Gc ha hb a.length (bc _)).eq;rwa[eG]at this
end Go.Proofs.YtkdddbdjilcofaaGreatDoor.Fp
namespace Go.Proofs.YtkdddbdjilcofaaGreatDoor
open Go.RowKit Fp Pu
abbrev pN(L:List Nat):Nat->Nat->E:=λi _=>.v (.int .u32 (L.getD i 0:Int))
def Em(n:Nat):IntKind.u32.wrap (n:Int)=((n%4294967296:Nat):Int):=by rw[IntKind.wrap_u32];omega
def Jt(n:Nat)(h:n<9223372036854775808):IntKind.i64.wrap (n:Int)=n:=by rw[IntKind.wrap_i64];omega
def Ye(n:Nat):(n:Int)/2^32=((n/4294967296:Nat):Int):= aC 
def Yl{L:List Nat}{n:Nat}(h:n=L.length):E.le (.sl false n 1 (pN L)) (gW L):=by subst h;exact .refl _
def Xt{T n n':Nat}{L:List Nat}(hn:n=n')(h:∀ i,L.getD i 0=0):Bx.le (.row false T n 1 λ_ j=>[.v (.int .u32 0)].getD j .any) (.row false T n' 1 (pN L)):=
 .row hn λi j _ hj=>by
  obtain rfl:j=0:= aC ;refine⟨.iM ?_,rfl⟩;show E.v (.int .u32 0)=E.v (.int .u32 (L.getD i 0:Int));rw[h i];rfl
def O3{T n n' p:Nat}{L:List Nat}{z:Nat}(hn:n=n')(hp:p<L.length):Bx.le (.row false T n 1 λi' j'=>if i'=p/\0<=j'/\j'<0+1 then[.v (.int .u32 (z:Int))].getD (j'-0) .any else(pN L) i' j') (.row false T n' 1 (pN (L.set p z))):=
 .row hn λi j _ hj=>by
  obtain rfl:j=0:= aC ;refine⟨.iM ?_,rfl⟩;by_cases h:i=p
  .subst h;rw[aZ ⟨rfl,aC,aC⟩];show E.v (.int .u32 (z:Int))=E.v (.int .u32 (((L.set i z).getD i 0:Nat):Int));rw[Fp.aeg hp]
  .rw [aY (λq=>h q.1)];show E.v (.int .u32 (L.getD i 0:Int))=E.v (.int .u32 (((L.set p z).getD i 0:Nat):Int));rw[Fp.Ak (λq=>h q.symm)]
def Xl{k l:IntKind}{a b c d:Int}(h:a=b)(h':c=d):Ending.returned (.tuple #[.int k a,.int l c]) = .returned (.tuple #[.int k b,.int l d]):=by rw[h,h']
def Ey(x y c:Nat)(w:World)(hx:x<4294967296)(hy:y<4294967296)(hc:c<=1):
 Calls prog 271 #[.int .u32 x,.int .u32 y,.int .u32 c] w λe w'=>e = .returned (.tuple #[.int .u32 (((x+y+c)%4294967296:Nat):Int),.int .u32 (((x+y+c)/4294967296:Nat):Int)])/\w=w':=by
 go_enter func271,ntmps271;go_wp2;go_ret2;refine⟨?_,rfl⟩;exact Xl aC aC 
def alw(a b:Nat)(ha:a<4294967296)(hb:b<4294967296):bits .or .u32 (a:Int) (b:Int)=((a |||b:Nat):Int):=by
 have h2:a |||b<2^32:=amX ha hb
 show IntKind.u32.wrap ((BitVec.ofInt 32 (a:Int) |||BitVec.ofInt 32 (b:Int)).toNat:Int)=_;rw[BitVec.toNat_or,fg,fg];rw[show((a:Int)%((2^32:Nat):Int)).toNat=a by omega,show((b:Int)%((2^32:Nat):Int)).toNat=b by omega];rw[IntKind.wrap_u32];omega
def YV(a b:Nat)(ha:a<4294967296)(hb:b<4294967296):bits .and .u32 (a:Int) (b:Int)=((a &&& b:Nat):Int):=by
 have h2:a &&& b<2^32:=fe a hb;show IntKind.u32.wrap ((BitVec.ofInt 32 (a:Int) &&& BitVec.ofInt 32 (b:Int)).toNat:Int)=_;rw[BitVec.toNat_and,fg,fg];rw[show((a:Int)%((2^32:Nat):Int)).toNat=a by omega,show((b:Int)%((2^32:Nat):Int)).toNat=b by omega];rw[IntKind.wrap_u32];omega
def Pz(a b:Nat)(ha:a<4294967296)(hb:b<4294967296):bits .xor .u32 (a:Int) (b:Int)=((a ^^^ b:Nat):Int):=by
 have h2:a ^^^ b<2^32:=eH ha hb;show IntKind.u32.wrap ((BitVec.ofInt 32 (a:Int) ^^^ BitVec.ofInt 32 (b:Int)).toNat:Int)=_;rw[BitVec.toNat_xor,fg,fg];rw[show((a:Int)%((2^32:Nat):Int)).toNat=a by omega,show((b:Int)%((2^32:Nat):Int)).toNat=b by omega];rw[IntKind.wrap_u32];omega
def Ky(n:Nat)(h:n<4294967296):n/2147483648=(n.testBit 31).toNat:=by
 rw[Nat.testBit_eq_decide_div_mod_eq,show(2:Nat)^31=2147483648 from rfl];have h2:n/2147483648<2:= aC ;generalize n/2147483648=q at *
 have:q=0\/q=1:= aC ;rcases this with rfl|rfl<;>rfl
def akt(x y c d:Nat)(hx:x<4294967296)(hy:y<4294967296)(hc:c<=1)(hd:d=(x+(4294967296-y)+(4294967296-c))%4294967296):
 (((4294967295 ^^^ x) &&& y) ||| ((4294967295 ^^^ (x ^^^ y)) &&& d))/2147483648=if x<y+c then 1 else 0:=by
 have As:d<4294967296:= aC ;have h1:4294967295 ^^^ x<2^32:=eH aE hx;have h2:x ^^^ y<2^32:=eH hx hy;have h3:4294967295 ^^^ (x ^^^ y)<2^32:=eH aE h2;have h4:(4294967295 ^^^ x) &&& y<2^32:=fe _ hy;have h5:(4294967295 ^^^ (x ^^^ y)) &&& d<2^32:=fe _ As;rw[Ky _ (amX h4 h5)];have tx:=Ky x hx;have ty:=Ky y hy;have td:=Ky d As;rw[Nat.testBit_or,Nat.testBit_and,Nat.testBit_and,am1,am1,am1,show(4294967295:Nat).testBit 31=true by decide];clear h1 h2 h3 h4 h5;generalize x.testBit 31=p at *
 generalize y.testBit 31=q at *
 generalize d.testBit 31=r at *
 cases p<;>cases q<;>cases r<;>simp at tx ty td ⊢ <;> omega
def Bu(x y c:Nat):Nat:=if x<y+c then 1 else 0
def xy(x y c:Nat):Nat:=(x+(4294967296-y)+(4294967296-c))%4294967296
def EX(x y c:Nat)(hx:x<4294967296)(hy:y<4294967296)(hc:c<=1):xy x y c+y+c=x+4294967296*Bu x y c/\Bu x y c<=1/\xy x y c<4294967296:=by
 unfold xy Bu;split<;>omega
def Yu(x y c:Nat)(w:World)(hx:x<4294967296)(hy:y<4294967296)(hc:c<=1):
 Calls prog 272 #[.int .u32 x,.int .u32 y,.int .u32 c] w λe w'=>e = .returned (.tuple #[.int .u32 (xy x y c:Nat),.int .u32 (Bu x y c:Nat)])/\w=w':=by
 go_enter func272,ntmps272;go_wp2;go_ret2;refine⟨?_,rfl⟩;have hd:((x:Int)-y-c)%4294967296=(xy x y c:Int):=by unfold xy;omega
 have hb:=akt x y c (xy x y c) hx hy hc rfl;have hl:=(EX x y c hx hy hc).2.2;have em:IntKind.u32.max=((4294967295:Nat):Int):=rfl;refine Xl hd ?_;rw[hd,em,Pz _ _ aE hx,Pz _ _ hx hy];have h1:4294967295 ^^^ x<2^32:=eH aE hx;have h2:x ^^^ y<2^32:=eH hx hy;have h3:4294967295 ^^^ (x ^^^ y)<2^32:=eH aE h2;rw[Pz _ _ aE h2,YV _ _ h1 hy,YV _ _ h3 hl];have h4:(4294967295 ^^^ x) &&& y<2^32:=fe _ hy;have h5:(4294967295 ^^^ (x ^^^ y)) &&& xy x y c<2^32:=fe _ hl;rw[alw _ _ h4 h5];unfold Bu;rw[<-hb];omega
def Qa{O:List Nat}{k c x y P Q P' Q':Nat}(ho:O[k]? = some 0)(h:val O+4294967296^k*c=P+Q)
 (hP:P'=P+4294967296^k*x) (hQ:Q'=Q+4294967296^k*y):
 val (O.set k ((x+y+c)%4294967296))+4294967296^(k+1)*((x+y+c)/4294967296)=P'+Q':=by
 have h1:=V8 (a:=1) (b:=x+y) (c:=c) ho;rw[bU,bS]at h1;rw[h1,h,hP,hQ,bO];omega
def Yv{O:List Nat}{k c x y d c' P Q P' Q':Nat}(ho:O[k]? = some 0)(h:val O+Q=P+4294967296^k*c)
 (hP:P'=P+4294967296^k*x) (hQ:Q'=Q+4294967296^k*y) (hd:d+y+c=x+4294967296*c'):
 val (O.set k d)+Q'=P'+4294967296^(k+1)*c':=by
 obtain⟨hk,h0⟩:=bY.1 ho;have h1:=PB (x:=d) hk;rw[h0,cI,bS]at h1;have e:=congrArg (4294967296^k * ·) hd;simp only[bO,<-bA]at e;rw[bC,h1,hP,hQ];omega
def uw(O:List Nat)(k:Nat):Prop:=∀ j,k<=j->j<O.length->O[j]? = some 0
def uw.at{O:List Nat}{k:Nat}(h:uw O k)(hk:k<O.length):O[k]? = some 0:=h k (bc _) hk
def uw.set{O:List Nat}{k:Nat}(h:uw O k)(v:Nat):uw (O.set k v) (k+1):=λj h1 h2=>by
 rw[List.getElem?_set_ne aC];exact h j aC (by simpa using h2)
def uw.PJ(n:Nat):uw (List.replicate n 0) 0:=λj _ h=>by
 rw[eF];rw[aZ (by simpa using h)]
def KY(w:World)(v n:Nat)(e:Ending)(w':World):Prop:=∃ T,val T=v/\iE T/\T.length=n/\xp w T e w'
def PW(w:World)(v n:Nat)(e:Ending)(w':World):Prop:=∃ T,val T=v/\iE T/\T.length<=n/\xp w T e w'
def ahF(A B:Option Addr)(c d:Nat)(L M:List Nat)(w:World)(hs:Sl w A c L)(hr:Sl w B d M)(h1:L.length<=3000)(_h2:M.length<=3000)(hc:M.length<=L.length):
 Calls prog 238 #[.slice A L.length c,.slice B M.length d] w (KY w (val L+val M) (L.length+1)):=by
 obtain⟨l,hl⟩:∃ l,l=L.length:=⟨_,rfl⟩
 obtain⟨m,hm⟩:∃ m,m=M.length:=⟨_,rfl⟩
 rw[<-hl,<-hm]at hc;rw[<-hl]at h1;rw[<-hm]at _h2;have HL:=anq hl;have HM:=anq hm;rw[<-hl,<-hm];clear hl hm;have d0:decide ((l:Int)<m)=false:=a7 aC;have d1:decide (l<m)=false:=a7 aC;have vR:=F7 (l+1) aC;rw[show((l+1:Nat):Int)=l+1 by omega]at vR;have xK:=anq (Rw.AO w (l+1));go_enter func238,ntmps238;go_wp2;go_loopw [6,7,8,9,23] (λcy _ _ _ i wr=>∃ (k q:Nat) (O:List Nat),k<=l/\i = .int .i64 k/\cy = .int .u32 q/\q<=1/\O.length=l+1/\iE O/\uw O k/\val O+4294967296^k*q=val (L.take k)+val (M.take k)/\Rw wr w.heap.size O/\iC w wr) (λ_ _ _ _ i _=>l-(intOf i).toNat)
 case atStart=>
  exact⟨0,0,List.replicate (l+1) 0,bV _,rfl,rfl,aE,aH,iE.Eb _,uw.PJ _,by simp[CQ],xK.out,iC.alloc _ _⟩
 case round=>
  obtain⟨k,q,O,hk,rfl,rfl,hq,hO,mi,hz,kE,hR,hb⟩:=hrel;have HV:=anq kE;have HO:=anq hO;clear kE hO;have HZ:=anq hz;clear hz;by_cases im:k<l
  .have tV:k<L.length:=by have:=HL.out;omega
   obtain⟨ab,ao,e1,_,c1⟩:=(hs.below hb).mA tV;have nm:L[k]<4294967296:=hs.ok.get tV;have ho:=HZ.out.at (by have:=HO.out;omega)
   have c4:=hR.frozen k;have I3:=hR.cell ho;have HT:=anq (CS L k tV);have HY:=anq (Bl M k);have q9:M.getD k 0<4294967296:=hr.ok.getD k;have HYc:=anq (λ(h:k<M.length)=>(hr.below hb).mA h);have HYg:=anq (λ(h:k<M.length)=>Ma h);have HYn:=anq (λ(h:¬k<M.length)=>L9 h);have HX:=anq (rfl:L[k]=L[k]);obtain⟨a,ha⟩:∃ a,a=L[k]:=⟨_,rfl⟩
   rw[<-ha]at c1 nm HT;clear ha HX tV;have HS:=anq (Qa ho HV.out HT.out HY.out);have HN:=anq (λv=>HZ.out.set v);have HOK:=anq (λv=>mi.X9 k v);have HR2:=anq (λv:Nat=>hR.set k v);have HE2:=anq (λv:Value=>hb.setCell (p:=⟨w.heap.size,k,none⟩) (bc _) v);clear ho hR hb mi;subst e1;by_cases UI:k<m
   .have wO:k<M.length:=by have:=HM.out;omega
    obtain⟨bb,bo,e2,_,c2⟩:=HYc.out wO;subst e2;rw[<-HYg.out wO]at c2;generalize M.getD k 0=b at *
    clear HYc HYg HYn wO;have HA:=anq (λw=>Ey a b q w nm q9 hq);go_wp2_with fail;refine(HA.out _).mono ?_;rintro e w1 ⟨rfl,rfl⟩;go_wp2;go_roundw
    case rel=>
     exact⟨k+1,(a+b+q)/4294967296,O.set k ((a+b+q)%4294967296),aC,by go_num,rfl,aC,by rw[cY];exact HO.out,HOK.out _,HN.out _,HS.out,HR2.out _,HE2.out _⟩
    case measure=>simp[intOf];omega
   .rw [HYn.out (by have:=HM.out;omega)]at HS;clear HYc HYg HYn q9 HY;have HA:=anq (λw=>Ey a 0 q w nm aE hq);go_wp2_with fail;refine(HA.out _).mono ?_;rintro e w1 ⟨rfl,rfl⟩;go_wp2;go_roundw
    case rel=>
     exact⟨k+1,(a+0+q)/4294967296,O.set k ((a+0+q)%4294967296),aC,by go_num,rfl,aC,by rw[cY];exact HO.out,HOK.out _,HN.out _,HS.out,HR2.out _,HE2.out _⟩
    case measure=>simp[intOf];omega
  .obtain rfl:k=l:= aC ;have ho:=HZ.out.at (by have:=HO.out;omega)
   have c4:=hR.frozen k;have I3:=hR.cell ho;have HF:=anq (show val (O.set k q)=val L+val M by
    have h:=Q4 (c:=q) ho;rw[bZ,bX aC,cO aC,cI,bS,HV.out,show L.take k=L from cN (by rw[HL.out];exact bc _),show M.take k=M from cN (by rw[<-HM.out];omega)]at h;omega)
   have HLn:=anq (show(O.set k q).length=k+1 by rw[cY];exact HO.out);have HOK:Hid (iE (O.set k q)):=mi.set k aC;have HR2:=anq (hR.set k q);have HE2:=anq (λv:Value=>hb.setCell (p:=⟨w.heap.size,k,none⟩) (bc _) v);clear ho hR hb mi;go_wp2;go_ret;have vW:=HR2.out.sl HOK.out (by rw[HLn.out];omega);rw[HLn.out]at vW;exact⟨_,HF.out,HOK.out,HLn.out,_,_,(by rw[HLn.out];rfl),vW,HE2.out _⟩
def ahG(A B:Option Addr)(c d:Nat)(L M:List Nat)(w:World)(hs:Sl w A c L)(hr:Sl w B d M)(h1:L.length<=3000)(h2:M.length<=3000)(hc:L.length<M.length):
 Calls prog 238 #[.slice A L.length c,.slice B M.length d] w (KY w (val L+val M) (M.length+1)):=by
 obtain⟨l,hl⟩:∃ l,l=L.length:=⟨_,rfl⟩
 obtain⟨m,hm⟩:∃ m,m=M.length:=⟨_,rfl⟩
 rw[<-hl,<-hm]at hc;rw[<-hl]at h1;rw[<-hm]at h2;have HL:=anq hl;have HM:=anq hm;rw[<-hl,<-hm];clear hl hm;have d0:decide ((l:Int)<m)=true:=a6 aC;have d1:decide (l<m)=true:=a6 aC;have vR:=F7 (m+1) aC;rw[show((m+1:Nat):Int)=m+1 by omega]at vR;have xK:=anq (Rw.AO w (m+1));go_enter func238,ntmps238;go_wp2;go_loopw [6,7,8,9,23] (λcy _ _ _ i wr=>∃ (k q:Nat) (O:List Nat),k<=m/\i = .int .i64 k/\cy = .int .u32 q/\q<=1/\O.length=m+1/\iE O/\uw O k/\val O+4294967296^k*q=val (M.take k)+val (L.take k)/\Rw wr w.heap.size O/\iC w wr) (λ_ _ _ _ i _=>m-(intOf i).toNat)
 case atStart=>
  exact⟨0,0,List.replicate (m+1) 0,bV _,rfl,rfl,aE,aH,iE.Eb _,uw.PJ _,by simp[CQ],xK.out,iC.alloc _ _⟩
 case round=>
  obtain⟨k,q,O,hk,rfl,rfl,hq,hO,mi,hz,kE,hR,hb⟩:=hrel;have HV:=anq kE;have HO:=anq hO;clear kE hO;have HZ:=anq hz;clear hz;by_cases im:k<m
  .have tV:k<M.length:=by have:=HM.out;omega
   obtain⟨ab,ao,e1,_,c1⟩:=(hr.below hb).mA tV;have nm:M[k]<4294967296:=hr.ok.get tV;have ho:=HZ.out.at (by have:=HO.out;omega)
   have c4:=hR.frozen k;have I3:=hR.cell ho;have HT:=anq (CS M k tV);have HY:=anq (Bl L k);have q9:L.getD k 0<4294967296:=hs.ok.getD k;have HYc:=anq (λ(h:k<L.length)=>(hs.below hb).mA h);have HYg:=anq (λ(h:k<L.length)=>Ma h);have HYn:=anq (λ(h:¬k<L.length)=>L9 h);have HX:=anq (rfl:M[k]=M[k]);obtain⟨a,ha⟩:∃ a,a=M[k]:=⟨_,rfl⟩
   rw[<-ha]at c1 nm HT;clear ha HX tV;have HS:=anq (Qa ho HV.out HT.out HY.out);have HN:=anq (λv=>HZ.out.set v);have HOK:=anq (λv=>mi.X9 k v);have HR2:=anq (λv:Nat=>hR.set k v);have HE2:=anq (λv:Value=>hb.setCell (p:=⟨w.heap.size,k,none⟩) (bc _) v);clear ho hR hb mi;subst e1;by_cases UI:k<l
   .have wO:k<L.length:=by have:=HL.out;omega
    obtain⟨bb,bo,e2,_,c2⟩:=HYc.out wO;subst e2;rw[<-HYg.out wO]at c2;generalize L.getD k 0=b at *
    clear HYc HYg HYn wO;have HA:=anq (λw=>Ey a b q w nm q9 hq);go_wp2_with fail;refine(HA.out _).mono ?_;rintro e w1 ⟨rfl,rfl⟩;go_wp2;go_roundw
    case rel=>
     exact⟨k+1,(a+b+q)/4294967296,O.set k ((a+b+q)%4294967296),aC,by go_num,rfl,aC,by rw[cY];exact HO.out,HOK.out _,HN.out _,HS.out,HR2.out _,HE2.out _⟩
    case measure=>simp[intOf];omega
   .rw [HYn.out (by have:=HL.out;omega)]at HS;clear HYc HYg HYn q9 HY;have HA:=anq (λw=>Ey a 0 q w nm aE hq);go_wp2_with fail;refine(HA.out _).mono ?_;rintro e w1 ⟨rfl,rfl⟩;go_wp2;go_roundw
    case rel=>
     exact⟨k+1,(a+0+q)/4294967296,O.set k ((a+0+q)%4294967296),aC,by go_num,rfl,aC,by rw[cY];exact HO.out,HOK.out _,HN.out _,HS.out,HR2.out _,HE2.out _⟩
    case measure=>simp[intOf];omega
  .obtain rfl:k=m:= aC ;have ho:=HZ.out.at (by have:=HO.out;omega)
   have c4:=hR.frozen k;have I3:=hR.cell ho;have HF:=anq (show val (O.set k q)=val L+val M by
    have h:=Q4 (c:=q) ho;rw[bZ,bX aC,cO aC,cI,bS,HV.out,show M.take k=M from cN (by rw[HM.out];exact bc _),show L.take k=L from cN (by rw[<-HL.out];omega)]at h;omega)
   have HLn:=anq (show(O.set k q).length=k+1 by rw[cY];exact HO.out);have HOK:Hid (iE (O.set k q)):=mi.set k aC;have HR2:=anq (hR.set k q);have HE2:=anq (λv:Value=>hb.setCell (p:=⟨w.heap.size,k,none⟩) (bc _) v);clear ho hR hb mi;go_wp2;go_ret;have vW:=HR2.out.sl HOK.out (by rw[HLn.out];omega);rw[HLn.out]at vW;exact⟨_,HF.out,HOK.out,HLn.out,_,_,(by rw[HLn.out];rfl),vW,HE2.out _⟩
def Ws(A B:Option Addr)(c d:Nat)(L M:List Nat)(w:World)(hs:Sl w A c L)(hr:Sl w B d M)(h1:L.length<=3000)(h2:M.length<=3000):
 Calls prog 238 #[.slice A L.length c,.slice B M.length d] w (KY w (val L+val M) (max L.length M.length+1)):=by
 by_cases hc:M.length<=L.length
 .rw [Nat.max_eq_left hc];exact ahF A B c d L M w hs hr h1 h2 hc
 .rw [Nat.max_eq_right aC];exact ahG A B c d L M w hs hr h1 h2 aC 
def ahE(A B:Option Addr)(c d:Nat)(L M:List Nat)(w:World)(hs:Sl w A c L)(hr:Sl w B d M)(h1:L.length<=3000)(h2:M.length<=3000):
 Calls prog 238 #[.slice A L.length c,.slice B M.length d] w (PW w (val L+val M) (max L.length M.length+1)):=
 (Ws A B c d L M w hs hr h1 h2).mono λ_ _ ⟨T,a,b,c,d⟩=>⟨T,a,b,gG c,d⟩
def ahH(A B:Option Addr)(c d:Nat)(L M:List Nat)(w:World)(tf:Sl w A c L)(wV:Sl w B d M)(h1:L.length<=3000)(_h2:M.length<=3000)(hle:val M<=val L):
 Calls prog 239 #[.slice A L.length c,.slice B M.length d] w (PW w (val L-val M) L.length):=by
 have Mn:=anq (λw (h:Sl w A c L)=>ve A c L w h);have Mo:=anq (λw (h:Sl w B d M)=>ve B d M w h);have hs:=tf.um;have hr:=wV.um;have FO:=pQ L;have pB:=pQ M;have Fz:=pq L;have ns:=pq M;have DA:(iA M).length<=(iA L).length:=by
  apply bL;intro h;have:=KH hs.ok (zJ M) aC;omega
 unfold mz at Fz ns;rw[<-FO,<-pB]at hle ⊢;clear FO pB;obtain⟨n1,rU⟩:∃ n,n=L.length:=⟨_,rfl⟩
 obtain⟨n2,mh⟩:∃ n,n=M.length:=⟨_,rfl⟩
 rw[<-rU]at h1 Fz Mn ⊢;rw[<-mh]at _h2 ns Mo ⊢;have HTL:=anq (Mn.out w tf);have HTM:=anq (Mo.out w wV);clear Mn Mo tf wV rU mh;generalize iA L=L at *
 generalize iA M=M at *
 obtain⟨l,hl⟩:∃ l,l=L.length:=⟨_,rfl⟩
 obtain⟨m,hm⟩:∃ m,m=M.length:=⟨_,rfl⟩
 rw[<-hl]at Fz HTL DA;rw[<-hm]at ns HTM DA;have HL:=anq hl;have HM:=anq hm;have HLE:=anq hle;clear hl hm hle;have vR:=F7 l aC;have xK:=anq (Rw.AO w l);go_enter func239,ntmps239;go_wp2_with fail;refine HTL.out.mono ?_;rintro e w1 ⟨rfl,rfl⟩;go_wp2_with fail;refine HTM.out.mono ?_;rintro e w1 ⟨rfl,rfl⟩;go_wp2;go_loopw [6,7,8,9,19] (λcy _ _ _ i wr=>∃ (k q:Nat) (O:List Nat),k<=l/\i = .int .i64 k/\cy = .int .u32 q/\q<=1/\O.length=l/\iE O/\uw O k/\val O+val (M.take k)=val (L.take k)+4294967296^k*q/\Rw wr w.heap.size O/\iC w wr) (λ_ _ _ _ i _=>l-(intOf i).toNat)
 case atStart=>
  exact⟨0,0,List.replicate l 0,bV _,rfl,rfl,aE,aH,iE.Eb _,uw.PJ _,by simp[CQ],xK.out,iC.alloc _ _⟩
 case round=>
  obtain⟨k,q,O,hk,rfl,rfl,hq,hO,mi,hz,kE,hR,hb⟩:=hrel;have HV:=anq kE;have HO:=anq hO;clear kE hO;have HZ:=anq hz;clear hz;by_cases im:k<l
  .have tV:k<L.length:=by have:=HL.out;omega
   obtain⟨ab,ao,e1,_,c1⟩:=(hs.below hb).mA tV;have nm:L[k]<4294967296:=hs.ok.get tV;have ho:=HZ.out.at (by have:=HO.out;omega)
   have c4:=hR.frozen k;have I3:=hR.cell ho;have HT:=anq (CS L k tV);have HY:=anq (Bl M k);have q9:M.getD k 0<4294967296:=hr.ok.getD k;have HYc:=anq (λ(h:k<M.length)=>(hr.below hb).mA h);have HYg:=anq (λ(h:k<M.length)=>Ma h);have HYn:=anq (λ(h:¬k<M.length)=>L9 h);obtain⟨a,ha⟩:∃ a,a=L[k]:=⟨_,rfl⟩
   rw[<-ha]at c1 nm HT;clear ha tV;have HN:=anq (λv=>HZ.out.set v);have HOK:=anq (λ(v:Nat) (h:v<4294967296)=>mi.set k h);have HR2:=anq (λv:Nat=>hR.set k v);have HE2:=anq (λv:Value=>hb.setCell (p:=⟨w.heap.size,k,none⟩) (bc _) v);have HO0:=anq ho;clear ho hR hb mi;subst e1;by_cases UI:k<m
   .have wO:k<M.length:=by have:=HM.out;omega
    obtain⟨bb,bo,e2,_,c2⟩:=HYc.out wO;subst e2;rw[<-HYg.out wO]at c2;generalize M.getD k 0=b at *
    clear HYc HYg HYn wO;have HS:=anq (Yv HO0.out HV.out HT.out HY.out (EX a b q nm q9 hq).1);have HD:=anq (EX a b q nm q9 hq).2;have HA:=anq (λw=>Yu a b q w nm q9 hq);generalize xy a b q=dd at *
    generalize Bu a b q=bb' at *
    go_wp2_with fail;refine(HA.out _).mono ?_;rintro e w1 ⟨rfl,rfl⟩;go_wp2;go_roundw
    case rel=>
     exact⟨k+1,bb',O.set k dd,aC,by go_num,rfl,HD.out.1,by rw[cY];exact HO.out,HOK.out _ HD.out.2,HN.out _,HS.out,HR2.out _,HE2.out _⟩
    case measure=>simp[intOf];omega
   .rw [HYn.out (by have:=HM.out;omega)]at HY;clear HYc HYg HYn q9;have HS:=anq (Yv HO0.out HV.out HT.out HY.out (EX a 0 q nm aE hq).1);have HD:=anq (EX a 0 q nm aE hq).2;have HA:=anq (λw=>Yu a 0 q w nm aE hq);generalize xy a 0 q=dd at *
    generalize Bu a 0 q=bb' at *
    go_wp2_with fail;refine(HA.out _).mono ?_;rintro e w1 ⟨rfl,rfl⟩;go_wp2;go_roundw
    case rel=>
     exact⟨k+1,bb',O.set k dd,aC,by go_num,rfl,HD.out.1,by rw[cY];exact HO.out,HOK.out _ HD.out.2,HN.out _,HS.out,HR2.out _,HE2.out _⟩
    case measure=>simp[intOf];omega
  .obtain rfl:k=l:= aC ;have HF:=anq (show val O=val L-val M by
    have h:=HV.out;rw[show L.take k=L from cN (by rw[HL.out];exact bc _),show M.take k=M from cN (by rw[<-HM.out];exact DA)]at h;exact(akv mi HO.out h HLE.out).2)
   go_wp2;go_ret;have vW:=hR.sl mi (by rw[HO.out];omega);exact⟨_,HF.out,mi,by rw[HO.out];exact Fz,_,_,(by rw[HO.out];rfl),vW,hb⟩
def YO{T:List Nat}{v:Nat}(h:iE T)(hv:val T=v):iA T=gS v:=by rw[sr h,hv]
def Wi(A B:Option Addr)(c d:Nat)(L M:List Nat)(w:World)(hs:Sl w A c L)(hr:Sl w B d M)(h1:L.length<=256)(h2:M.length<=256)(hf:(gS (val L+val M)).length<=256):
 Calls prog 215 #[.slice A L.length c,.slice B M.length d] w (C0 w (gS (val L+val M)) 0):=by
 have H1:=anq (λw (h:Sl w A c L) (k:Sl w B d M)=>ahE A B c d L M w h k aC aC);generalize val L+val M=v at *
 go_enter func215,ntmps215;go_wp2_with fail;refine(VE _ A B _ c _ d _ false (PZ _ _ _ _ _ _ _) (P0 _ _ _ _ _ _ _) aN).mono ?_;rintro e w' ⟨rfl,rfl⟩;go_wp2_with fail;refine(H1.out _ (hs.alloc _) (hr.alloc _)).mono ?_;rintro e w' ⟨T,hv,hk,hl,A',c',rfl,ot,hb⟩;have ht:=anq (YO hk hv);go_wp2_with fail;refine(Gk A' c' T _ ot (by rw[ht.out];exact hf)).mono ?_;rintro e w'' ⟨A'',c'',rfl,uP,nh⟩;rw[ht.out]at uP ⊢;go_wp2;go_ret2;exact⟨A'',c'',rfl,uP,(iC.alloc _ _).trans (hb.trans nh)⟩
def N8(A B:Option Addr)(c d:Nat)(L M:List Nat)(w:World)(hs:Sl w A c L)(hr:Sl w B d M)(h1:L.length<=256)(h2:M.length<=256)(hle:val M<=val L):
 Calls prog 216 #[.slice A L.length c,.slice B M.length d] w (C0 w (gS (val L-val M)) 0):=by
 have H1:=anq (λw (h:Sl w A c L) (k:Sl w B d M)=>ahH A B c d L M w h k aC aC hle);have HC:=anq (λw (h:Sl w A c L) (k:Sl w B d M)=>Gj A B c d L M w h k aC aC);have hc:decide (ky (val L) (val M)<0)=false:=by
  apply a7;unfold ky;rw[aY aC];split<;>decide
 have hf:(gS (val L-val M)).length<=256:=bg (mC (eE _ _)) (agM hs.ok h1);generalize val L-val M=v at *
 generalize ky (val L) (val M)=q at *
 clear hle;go_enter func216,ntmps216;go_wp2_with fail;refine(VE _ A B _ c _ d _ false (PZ _ _ _ _ _ _ _) (P0 _ _ _ _ _ _ _) aN).mono ?_;rintro e w' ⟨rfl,rfl⟩;go_wp2_with fail;refine(HC.out _ (hs.alloc _) (hr.alloc _)).mono ?_;rintro e w1 ⟨rfl,iQ⟩;go_wp2_with fail;refine(H1.out _ ((hs.alloc _).below iQ) ((hr.alloc _).below iQ)).mono ?_;rintro e w' ⟨T,hv,hk,hl,A',c',rfl,ot,hb⟩;have ht:=anq (YO hk hv);go_wp2_with fail;refine(Gk A' c' T _ ot (by rw[ht.out];exact hf)).mono ?_;rintro e w'' ⟨A'',c'',rfl,uP,nh⟩;rw[ht.out]at uP ⊢;go_wp2;go_ret2;exact⟨A'',c'',rfl,uP,(iC.alloc _ _).trans (iQ.trans (hb.trans nh))⟩
end Go.Proofs.YtkdddbdjilcofaaGreatDoor
namespace Go.Proofs.YtkdddbdjilcofaaGreatDoor.Fp
def jq(d:Dy):Dy:=if mB d then d else iq
def kp(d:Dy):Int:=if mB d then 0 else 9
def Ab{d:Dy}(h:mB d):jq d=d:=aZ h
def EN{d:Dy}(h:mB d):kp d=0:=aZ h
def Ik{d:Dy}(h:¬mB d):jq d=iq:=aY h
def EM{d:Dy}(h:¬mB d):kp d=9:=aY h
def EO{d:Dy}(h:d.nc):(jq d).gY:=by
 by_cases hr:mB d
 .rw [Ab hr];exact⟨h,hr⟩
 .rw [Ik hr];exact rn
def Po{a b:Dy}(ha:a.m≠0)(hb:b.m≠0):iJ a b=iJ b a:=by
 unfold iJ;rw[aY ha,aY hb,aY hb,aY ha,Int.min_comm,Int.add_comm]
def Yy{a b:Dy}(ha:a.gY)(hb:b.gY)(a0:a.m≠0)(b0:b.m≠0){k:Int}(hk:min a.e b.e=k)(h1:4097<a.ij-k)(h2:1<a.ij-b.ij):¬mB (iJ a b):=by
 have T7:k<=a.e:= aC ;have Jb:k<=b.e:= aC ;have m1:=Ic a0 T7;have m2:=Ic b0 Jb;have ta:a.ij=ia a.m+a.e:=by unfold Dy.ij;rw[aY a0]
 have tb:b.ij=ia b.m+b.e:=by unfold Dy.ij;rw[aY b0]
 have ba:ia a.m<=4096:=by rcases ha.range with h|⟨h,_⟩;exact absurd h a0;exact h
 have jh:a.e≠k:= aC ;have I0:b.e=k:= aC ;have oa:a.jK k%2=0:=by
  unfold Dy.jK;obtain⟨j,hj⟩:∃ j,(a.e-k).toNat=j+1:=⟨(a.e-k).toNat-1,aC⟩
  rw[hj,bC,<-bA,fB]
 have ob:b.jK k%2=1:=by
  unfold Dy.jK;rw[I0,show(k-k).toNat=0 by omega,cw,b5];rcases hb.canon with⟨h,_,_⟩|h
  .exact absurd h b0
  .exact h
 have pa:=xU a0 k;obtain⟨p,hp⟩:∃ p,ia (a.jK k)=p+2:=⟨ia (a.jK k)-2,aC⟩
 have l1:=rK (aC:a.jK k≠0);have l2:=ql (b.jK k);rw[hp,(aC:p+2-1=p+1),bC]at l1;have l3:2^ia (b.jK k)<=2^p:=bI aE aC;have hz:(a.num k+b.num k).natAbs%2=1/\2^p<=(a.num k+b.num k).natAbs:=by
  unfold Dy.num;generalize a.jK k=x at *
  generalize b.jK k=y at *
  generalize 2^p=P at *
  split<;>split<;>omega
 unfold iJ;rw[aY a0,aY b0,hk];unfold jW;generalize (a.num k+b.num k).natAbs=z at *
 generalize decide (a.num k+b.num k<0)=s at *
 have hc:canon s z k=⟨s,z,k⟩:=Dy.nc.De (d:=⟨s,z,k⟩) (.inr hz.1);rw[hc];have hb:=wb.2 hz.2;rintro(h|⟨h,_⟩)
 .simp only at h;omega
 .simp only at h;omega
def akA{a b:Dy}(ha:a.gY)(hb:b.gY)(a0:a.m≠0)(b0:b.m≠0){k:Int}(hk:min a.e b.e=k)(h1:4097<max a.ij b.ij-k)(h2:1<a.ij-b.ij\/1<b.ij-a.ij):¬mB (iJ a b):=by
 rcases h2 with h2|h2
 .exact Yy ha hb a0 b0 hk aC h2
 .rw [Po a0 b0];exact Yy (k:=k) hb ha b0 a0 (by rw[Int.min_comm];exact hk) aC h2
def akB{a b:Dy}(ha:a.gY)(hb:b.gY)(a0:a.m≠0)(b0:b.m≠0){k:Int}(hk:min a.e b.e=k)(h:¬(4097<max a.ij b.ij-k/\(1<a.ij-b.ij\/1<b.ij-a.ij))):
 ia (a.m*2^(a.e-k).toNat)<=4097/\ia (b.m*2^(b.e-k).toNat)<=4097:=by
 have ta:a.ij=ia a.m+a.e:=by unfold Dy.ij;rw[aY a0]
 have tb:b.ij=ia b.m+b.e:=by unfold Dy.ij;rw[aY b0]
 have ba:ia a.m<=4096:=by rcases ha.range with h|⟨h,_⟩;exact absurd h a0;exact h
 have bb:ia b.m<=4096:=by rcases hb.range with h|⟨h,_⟩;exact absurd h b0;exact h
 rw[rN a0,rN b0];omega
def aay{x y n:Nat}(hx:ia x<=n)(hy:ia y<=n):ia (x+y)<=n+1:=by
 rw[lZ]at *
 rw[bC];omega
def jL(m:Nat)(e:Int)(p:Nat):Nat:=(max (max ((ia m:Int)-p) (-16384-e)) 0).toNat
def kV(m:Nat)(e:Int)(more:Bool)(p:Nat)(out:Bool):Nat:=
 m/2^jL m e p+if out=true/\(more=true\/m%2^jL m e p≠0)then 1 else 0
def mg(m:Nat)(e:Int)(more:Bool)(p:Nat)(out:Bool):Bool:=
 decide (kV m e more p out≠0)&&decide (16384<(ia (kV m e more p out):Int)+e+jL m e p)
def jY(neg:Bool)(m:Nat)(e:Int)(more:Bool)(p:Nat)(up:Bool):Dy:=
 if mg m e more p (neg != up)=true then(if(neg != up)=true then iq else canon neg (2^p-1) (16384-p))else canon neg (kV m e more p (neg != up)) (e+jL m e p)
def jN(neg:Bool)(m:Nat)(e:Int)(more:Bool)(p:Nat)(up:Bool):Int:=
 if(mg m e more p (neg != up)&&(neg != up))=true then 9 else 0
def acP{N d k:Nat}:(N/2^d%2^k≠0\/N%2^d≠0)↔N%2^(d+k)≠0:=by
 have e1:N%2^(d+k)=N%2^d+2^d*(N/2^d%2^k):=by rw[bh,Nat.mod_mul]
 have hp:0<2^d:=bj aE;rw[e1];constructor
 .rintro (h|h)
  .have:=fz hp (dL h);omega
  .omega
 .intro h;by_cases h1:N%2^d=0
  .left;intro h2;rw[h1,h2,cI]at h;exact h rfl
  .exact .inr h1
def acC{N:Nat}{E:Int}{more:Bool}{d p:Nat}(hb:p<ia (N/2^d)):
 jL (N/2^d) (E+d) p+d=jL N E p /\
 ∀ out,kV (N/2^d) (E+d) (more||decide (N%2^d≠0)) p out=kV N E more p out:=by
 have hN:d<ia N:=by
  apply bL;intro h;have h1:N<2^d:=lZ.1 aC;rw[cO h1]at hb;simp[ia]at hb
 have My:ia (N/2^d)+d=ia N:=by
  have h0:N/2^d≠0:=by intro h;rw[h]at hb;simp[ia]at hb
  have h1:=rK h0;have h2:=ql (N/2^d);obtain⟨j,hj⟩:∃ j,ia (N/2^d)=j+1:=⟨ia (N/2^d)-1,aC⟩
  rw[hj]at h1 h2 ⊢;rw[er,cP (bj aE),<-bh]at h1;rw[ct (bj aE),<-bh]at h2;have:=yr (k:=j+d) h1 (by rw[(aC:j+d+1=j+1+d)];exact h2);omega
 have hk:jL (N/2^d) (E+d) p+d=jL N E p:=by
  unfold jL;omega
 refine⟨hk,λout=>?_⟩;unfold kV;rw[<-hk];generalize jL (N/2^d) (E+d) p=k;have MA:=@acP N d k;rw[(aC:k+d=d+k),dp,<-bh];congr 1;have:((more||decide (N%2^d≠0))=true\/N/2^d%2^k≠0)↔(more=true\/N%2^(d+k)≠0):=by
  rw[<-MA];simp only[dx,b9];constructor
  .rintro ((h|h)|h)
   .exact .inl h
   .exact .inr (.inr h)
   .exact .inr (.inl h)
  .rintro (h|h|h)
   .exact .inl (.inl h)
   .exact .inr h
   .exact .inl (.inr h)
 by_cases ho:out=true
 .simp only[ho,true_and,this]
 .rw [aY (λh=>ho h.1),aY (λh=>ho h.1)]
def Iq{N:Nat}{E:Int}{more:Bool}{d p:Nat}(neg up:Bool)(hb:p<ia (N/2^d)):
 jY neg (N/2^d) (E+d) (more||decide (N%2^d≠0)) p up=jY neg N E more p up /\
 jN neg (N/2^d) (E+d) (more||decide (N%2^d≠0)) p up=jN neg N E more p up:=by
 obtain⟨hk,hq⟩:=acC (more:=more) (E:=E) hb;have hq:=hq (neg != up);have e1:E+(d:Int)+(jL (N/2^d) (E+d) p:Int)=E+(jL N E p:Int):= aC ;have e2:(ia (kV N E more p (neg != up)):Int)+(E+(d:Int))+(jL (N/2^d) (E+d) p:Int)=(ia (kV N E more p (neg != up)):Int)+E+(jL N E p:Int):= aC ;have ho:mg (N/2^d) (E+d) (more||decide (N%2^d≠0)) p (neg != up)=mg N E more p (neg != up):=by
  unfold mg;rw[hq,e2]
 unfold jY jN;rw[hq,ho,e1];exact⟨rfl,rfl⟩
def Lp(s:Bool)(m:Nat)(e:Int)(j:Nat):canon s (m*2^j) (e-j)=canon s m e:=by
 by_cases h0:m=0
 .subst h0;rw[cD];rfl
 .have h1:m*2^j≠0:=dg h0 (dV (bj aE));obtain⟨q,hq,he⟩:=BC h0;have hc:jl (m*2^j)=jl m+j:=by
   conv=>lhs;rw[he,bA,<-bh]
   exact yA hq _
  unfold canon;rw[aY h1,aY h0,hc,bh,bD (2^jl m),<-dp,dD _ (bj aE)];rw[(aC:e-(j:Int)+((jl m+j:Nat):Int)=e+(jl m:Int))]
def acB(neg up:Bool)(N:Nat)(E:Int)(j p:Nat)(h0:N≠0):
 jY neg (N*2^j) (E-j) false p up=jY neg N E false p up/\jN neg (N*2^j) (E-j) false p up=jN neg N E false p up:=by
 have My:=rN h0 j;by_cases hk:jL N E p=0
 .
  have vO:jL (N*2^j) (E-j) p<=j:=by unfold jL at hk ⊢;rw[My];omega
  obtain⟨i,hi⟩:∃ i,j=i+jL (N*2^j) (E-j) p:=⟨j-jL (N*2^j) (E-j) p,aC⟩
  generalize hK:jL (N*2^j) (E-j) p=k at *
  have hdiv:N*2^j/2^k=N*2^i:=by
   rw[hi,bh,<-bA,dD _ (bj aE)]
  have MV:N*2^j%2^k=0:=by
   rw[hi,bh,<-bA];exact fB _ _
  have hq:∀ out,kV (N*2^j) (E-j) false p out=N*2^i:=λout=>by
   unfold kV;rw[hK,hdiv,MV];simp
  have ua:∀ out,kV N E false p out=N:=λout=>by
   unfold kV;rw[hk];simp[dE]
  have jh:N*2^i≠0:=dg h0 (dV (bj aE));have ho:∀ out,mg (N*2^j) (E-j) false p out=mg N E false p out:=λout=>by
   unfold mg;rw[hq,ua,hK,hk,rN h0 i];simp only[cT,jh,h0,eh,ff,e9];rw[amZ];omega
  unfold jY jN;rw[ho,hq,ua,hK,hk];rw[(aC:E-(j:Int)+k=E+((0:Nat):Int)-(i:Int)),Lp];exact⟨rfl,rfl⟩
 .have vO:jL (N*2^j) (E-j) p=jL N E p+j:=by unfold jL at hk ⊢;rw[My];omega
  have hq:∀ out,kV (N*2^j) (E-j) false p out=kV N E false p out:=λout=>by
   unfold kV;rw[vO,bh,bD (2^jL N E p),<-dp,dD _ (bj aE),bD N,Nat.mul_mod_mul_left];have:(2^j*(N%2^jL N E p)≠0)↔(N%2^jL N E p≠0):=by
    rw[cT,cT,Nat.mul_eq_zero];have:=bj (n:=j) (aE:0<2);omega
   simp only[this]
  have ho:∀ out,mg (N*2^j) (E-j) false p out=mg N E false p out:=λout=>by
   unfold mg;rw[hq,vO];congr 2;rw[eq_iff_iff];omega
  unfold jY jN;rw[ho,hq,vO];rw[(aC:E-(j:Int)+((jL N E p+j:Nat):Int)=E+(jL N E p:Int))];exact⟨rfl,rfl⟩
def jZ(d:Dy)(p:Nat)(up:Bool):Dy:=jY d.neg d.m d.e false p up
def jO(d:Dy)(p:Nat)(up:Bool):Int:=jN d.neg d.m d.e false p up
def Xm(s up:Bool)(m:Nat)(e:Int)(p:Nat)(h0:m≠0):
 jZ (canon s m e) p up=jY s m e false p up/\jO (canon s m e) p up=jN s m e false p up:=by
 have hm:=E3 h0;have hq:m/2^jl m≠0:=by have:=Gp h0;omega
 have h:=acB s up (m/2^jl m) (e+jl m) (jl m) p hq;rw[hm,(aC:e+(jl m:Int)-(jl m:Int)=e)]at h;unfold jZ jO canon;rw[aY h0];exact⟨h.1.symm,h.2.symm⟩
def Dd{s:Bool}{m:Nat}{e:Int}(h0:m≠0):(ia (canon s m e).m:Int)+(canon s m e).e=ia m+e/\e<=(canon s m e).e/\(canon s m e).m≠0/\ia (canon s m e).m<=ia m:=by
 have hm:=E3 h0;have hq:m/2^jl m≠0:=by have:=Gp h0;omega
 have h:=rN hq (jl m);rw[hm]at h;unfold canon;rw[aY h0];simp only;exact⟨aC,aC,hq,aC⟩
def RS(m:Nat)(e:Int)(p:Nat):m/2^jL m e p<2^p:=by
 rw[ct (bj aE),<-bh];refine lZ.1 ?_;unfold jL;omega
def abR{s:Bool}{q p:Nat}{e:Int}(h:q<=2^p)(hp:1<=p):ia (canon s q e).m<=p:=by
 by_cases h0:q=0
 .subst h0;exact bV _
 .by_cases h1:q=2^p
  .have hc:jl q=p:=by rw[h1];have:=yA (m:=1) rfl p;rwa[bU]at this
   unfold canon;rw[aY h0,hc,h1,Nat.div_self (bj aE)];exact bg (lZ.2 (show 1<2^1 by decide)) hp
  .exact bg (Dd h0).2.2.2 (lZ.2 aC)
def RH(m:Nat)(e:Int)(more:Bool)(p:Nat)(out:Bool):kV m e more p out<=2^p:=by
 have:=RS m e p;unfold kV;split<;>omega
def sZ(neg:Bool)(m:Nat)(e:Int)(more:Bool)(p:Nat)(up:Bool)(hp:1<=p)(gX:p<=4096):(jY neg m e more p up).gY:=by
 unfold jY;by_cases ho:mg m e more p (neg != up)=true
 .rw [aZ ho];by_cases hn:(neg != up)=true
  .rw [aZ hn];exact rn
  .rw [aY hn];have wT:2<=2^p:=by
    have:=bI (n:=2) aE hp;omega
   have h0:2^p-1≠0:= aC ;have hb:ia (2^p-1)=p:=by
    obtain⟨j,rfl⟩:∃ j,p=j+1:=⟨p-1,aC⟩
    have h2:2^(j+1)=2^j*2:=bC _ _;have h3:=bj (n:=j) (aE:0<2);exact yr aC aC 
   obtain⟨h1,h2,h3,h4⟩:=Dd (s:=neg) (e:=(16384:Int)-p) h0;have h5:=nR h3;exact⟨rq _ _ _,.inr ⟨aC,aC,aC,aC⟩⟩
 .rw [aY ho];refine⟨rq _ _ _,?_⟩;by_cases h0:kV m e more p (neg != up)=0
  .rw [h0];exact .inl rfl
  .have hq:=abR (s:=neg) (e:=e+(jL m e p:Int)) (RH m e more p (neg != up)) hp;obtain⟨h1,h2,h3,h4⟩:=Dd (s:=neg) (e:=e+(jL m e p:Int)) h0;have h5:=nR h3;have h6:-16384<=e+(jL m e p:Int):=by unfold jL;omega
   unfold mg at ho;simp only[cT,h0,eh,ff,e9,b9]at ho;exact .inr ⟨aC,aC,aC,aC⟩
def EU{neg:Bool}{m:Nat}{e:Int}{more:Bool}{p:Nat}{up:Bool}:jN neg m e more p up=0↔¬(mg m e more p (neg != up)=true/\(neg != up)=true):=by
 unfold jN;cases mg m e more p (neg != up)<;>cases(neg != up)<;>simp
def RJ(neg:Bool)(m:Nat)(e:Int)(more:Bool)(p:Nat)(h1:jN neg m e more p false=0)(h2:jN neg m e more p true=0):
 iO (jY neg m e more p false) (jY neg m e more p true)<=0:=by
 have py:¬mg m e more p true=true:=by
  cases neg
  .rw [EU]at h2;simpa using h2
  .rw [EU]at h1;simpa using h1
 have hle:kV m e more p false<=kV m e more p true:=by
  unfold kV;simp only[bB,false_and,bk];omega
 have lg:¬mg m e more p false=true:=by
  unfold mg at py ⊢;intro h;apply py;simp only[bF,b9]at h ⊢;have:=wF hle;exact⟨aC,aC⟩
 have key:∀ o:Bool,¬mg m e more p o=true:=λo=>by cases o;exact lg;exact py
 unfold jY;rw[aY (key _),aY (key _)];rw[ER (k:=e+(jL m e p:Int)) (zU (ch _)) (zU (ch _)),CA (ch _),CA (ch _)];rw[show(e+(jL m e p:Int)-(e+(jL m e p:Int))).toNat=0 by omega];simp only[cw,b5];unfold xx;cases neg
 .simp only[bB,bk,Bool.false_bne];split
  .decide
  .split<;>omega
 .simp only[bw,Bool.true_bne,dX,eR];split
  .decide
  .split<;>omega
def mK(b:Dy)(low:Int):Nat:=if low<=b.e then b.m*2^(b.e-low).toNat else b.m/2^(low-b.e).toNat
def ny(b:Dy)(low:Int):Bool:=decide (¬low<=b.e)&&decide (b.m%2^(low-b.e).toNat≠0)
def Yw{a b:Dy}(ha:a.nc)(hb:b.nc){K:Int}(h1:K<=a.e)(h2:K<=b.e):iJ a b=jW (a.num K+b.num K) K:=by
 refine R7 (k:=K) (By ha hb) (rq _ _ _) (Hm (.inr h1) (.inr h2)) (K2 (ch _)) ?_;rw[Kv (.inr h1) (.inr h2),Og (ch _),show(K-K).toNat=0 by omega];simp
def Ki{a b:Dy}(ha:a.nc)(hb:b.nc){K:Int}(h1:K<=a.e)(h2:K<=b.e)(s:Bool)(Z:Nat)(h0:Z≠0)(hz:a.num K+b.num K=if s then -(Z:Int)else(Z:Int))(p:Nat)(up:Bool):
 jZ (iJ a b) p up=jY s Z K false p up/\jO (iJ a b) p up=jN s Z K false p up:=by
 have:iJ a b=canon s Z K:=by rw[Yw ha hb h1 h2,hz,Ih]
 rw[this];exact Xm s up Z K p h0
def JT(d:Dy)(K:Int):d.num K=if d.neg then -(d.jK K:Int)else(d.jK K:Int):=rfl
section
variable {a b:Dy} {low:Int} {p:Nat}
def O6(a0:a.m≠0)(b0:b.m≠0)(h1:low<=a.e)(h2:low<=a.ij-p-8)(h3:low<=b.e\/3<=a.ij-b.ij):
 ∃ (K:Int) (d:Nat),K<=a.e/\K<=b.e/\low=K+d/\a.jK K=a.m*2^(a.e-low).toNat*2^d/\mK b low=b.jK K/2^d/\(ny b low=decide (b.jK K%2^d≠0)) /\
  (d=0\/(p+8<=ia (a.m*2^(a.e-low).toNat)/\ia (b.jK K/2^d)+3<=ia (a.m*2^(a.e-low).toNat))):=by
 have ta:a.ij=ia a.m+a.e:=by unfold Dy.ij;rw[aY a0]
 have tb:b.ij=ia b.m+b.e:=by unfold Dy.ij;rw[aY b0]
 have hx:=rN a0 (a.e-low).toNat
 by_cases h:low<=b.e
 .refine ⟨low,0,h1,h,aC,by unfold Dy.jK;simp,?_,?_,.inl rfl⟩
  .unfold mK Dy.jK;rw[aZ h];simp
  .unfold ny;simp[h,dE]
 .refine ⟨b.e,(low-b.e).toNat,aC,ch _,aC,?_,?_,?_,.inr ⟨aC,?_⟩⟩
  .unfold Dy.jK;rw[bA,<-bh];congr 2;omega
  .unfold mK Dy.jK;rw[aY h];simp
  .unfold ny Dy.jK;simp[h]
  .have hm:b.jK b.e=b.m:=by unfold Dy.jK;simp
   rw[hm];have hd:ia (b.m/2^(low-b.e).toNat)<=ia b.m-(low-b.e).toNat:=by
    rw[lZ,ct (bj aE),<-bh];exact lZ.1 aC 
   have:=h3.resolve_left h;omega
def ajC(ha:a.nc)(hb:b.nc)(a0:a.m≠0)(b0:b.m≠0)(h1:low<=a.e)(h2:low<=a.ij-p-8)(h3:low<=b.e\/3<=a.ij-b.ij)(hs:a.neg=b.neg)(up:Bool):
 jY a.neg (a.m*2^(a.e-low).toNat+mK b low) low (ny b low) p up=jZ (iJ a b) p up/\jN a.neg (a.m*2^(a.e-low).toNat+mK b low) low (ny b low) p up=jO (iJ a b) p up:=by
 obtain⟨K,d,k1,k2,rfl,hx,hy,hl,hd⟩:=O6 (p:=p) a0 b0 h1 h2 h3;generalize a.m*2^(a.e-(K+d)).toNat=x at *
 have ma:=xU a0 K;have mb:=xU b0 K;obtain⟨r1,r2⟩:=Ki ha hb k1 k2 a.neg (a.jK K+b.jK K) aC (by
  rw[JT a,JT b,<-hs];cases a.neg<;>simp<;>omega) p up
 rw[r1,r2,hy,hl];have e1:(a.jK K+b.jK K)/2^d=x+b.jK K/2^d:=by
  rw[hx,bD x,amN (bj aE)]
 have e2:(a.jK K+b.jK K)%2^d=b.jK K%2^d:=by
  rw[hx,bD x,fG]
 rcases hd with rfl|⟨At,Au⟩
 .simp only[cw,eI,dE]at e1 ⊢;rw[<-e1];have:K+((0:Nat):Int)=K:= aC ;rw[this];simp
 .have hb:p<ia ((a.jK K+b.jK K)/2^d):=by
   rw[e1];have:=wF (aC:x<=x+b.jK K/2^d);omega
  have h:=Iq (E:=K) (more:=false) a.neg up hb;rw[e1,e2,am2]at h;exact h
def aku{x N D:Nat}(hD:0<D)(h:N<=x*D):(x*D-N)/D=x-(N/D+if N%D≠0 then 1 else 0)/\((x*D-N)%D≠0↔N%D≠0)/\N/D+(if N%D≠0 then 1 else 0)<=x:=by
 have hN:=cB N D;have hr:=bE N hD;generalize N/D=q at *
 generalize N%D=r at *
 by_cases h0:r=0
 .subst h0;simp only[cT,amP,bk,bS]at hN ⊢;have hq:q<=x:=by
   apply bL;intro h';have:=bK D (aC:x+1<=q);rw[bR,bD q]at this;omega
  have e:x*D-N=(x-q)*D:=by rw[Nat.sub_mul,<-hN,bD q]
  rw[e,dD _ hD,fB];exact⟨rfl,aH,hq⟩
 .have hq:q+1<=x:=by
   apply bL;intro h';have:=bK D (aC:x<=q);rw[bD q]at this;omega
  have e:x*D-N=(D-r)+D*(x-(q+1)):=by
   have h1:D*(x-(q+1))=D*x-D*(q+1):=Nat.mul_sub _ _ _;have h2:D*(q+1)<=D*x:=cE _ hq;rw[bO,b5]at h1 h2;rw[bD x];omega
  have im:D-r<D:= aC ;rw[e,eN _ _ hD,cO im,dQ,bX im];simp only[cT,h0,eh,bw];exact⟨aC,⟨λ_=>trivial,λ_=> aC⟩,hq⟩
def ajB(ha:a.nc)(hb:b.nc)(a0:a.m≠0)(b0:b.m≠0)(h1:low<=a.e)(h2:low<=a.ij-p-8)(h3:low<=b.e\/3<=a.ij-b.ij)(hs:a.neg≠b.neg)(up:Bool):
  (a.m*2^(a.e-low).toNat<mK b low+(if ny b low=true then 1 else 0) ->
   jY (!a.neg) (mK b low+(if ny b low=true then 1 else 0)-a.m*2^(a.e-low).toNat) low false p up=jZ (iJ a b) p up/\jN (!a.neg) (mK b low+(if ny b low=true then 1 else 0)-a.m*2^(a.e-low).toNat) low false p up=jO (iJ a b) p up) /\
  (mK b low+(if ny b low=true then 1 else 0)<=a.m*2^(a.e-low).toNat ->
   (a.m*2^(a.e-low).toNat-(mK b low+(if ny b low=true then 1 else 0))=0/\ny b low=false->iJ a b=iq) /\
   (¬(a.m*2^(a.e-low).toNat-(mK b low+(if ny b low=true then 1 else 0))=0/\ny b low=false) ->
    jY a.neg (a.m*2^(a.e-low).toNat-(mK b low+(if ny b low=true then 1 else 0))) low (ny b low) p up=jZ (iJ a b) p up/\jN a.neg (a.m*2^(a.e-low).toNat-(mK b low+(if ny b low=true then 1 else 0))) low (ny b low) p up=jO (iJ a b) p up)):=by
 obtain⟨K,d,k1,k2,rfl,hx,hy,hl,hd⟩:=O6 (p:=p) a0 b0 h1 h2 h3;generalize a.m*2^(a.e-(K+d)).toNat=x at *
 have ma:=xU a0 K;have mb:=xU b0 K;have Jm:a.num K+b.num K=if a.neg then(b.jK K:Int)-a.jK K else(a.jK K:Int)-b.jK K:=by
  rw[JT a,JT b];cases h:a.neg<;>cases h':b.neg<;>simp[h,h']at hs ⊢ <;> omega
 rw[hy,hl];rcases hd with rfl|⟨At,Au⟩
 .
  rw[cw,b5]at hx;have e0:K+((0:Nat):Int)=K:= aC ;simp only[cw,eI,dE,cT,amP,gF,bB,bk,bS,e0,eX];refine⟨λim=>?_,λhle=>⟨λhz=>?_,λhz=>?_⟩⟩
  .obtain ⟨r1,r2⟩:=Ki ha hb k1 k2 (!a.neg) (b.jK K-x) aC (by
    rw[Jm,hx];cases a.neg<;>simp<;>omega) p up
   exact⟨r1.symm,r2.symm⟩
  .rw [Yw ha hb k1 k2,Jm,hx];have:x=b.jK K:= aC ;rw[this];cases a.neg<;>simp[jW,canon,iq]
  .obtain ⟨r1,r2⟩:=Ki ha hb k1 k2 a.neg (x-b.jK K) aC (by
    rw[Jm,hx];cases a.neg<;>simp<;>omega) p up
   exact⟨r1.symm,r2.symm⟩
 .
  have hD:=bj (n:=d) (aE:0<2);have nS:x≠0:=by intro h;rw[h]at At;simp[ia]at At
  obtain⟨j,hj⟩:∃ j,ia x=j+3:=⟨ia x-3,aC⟩
  have mF:=rK nS;rw[hj,(aC:j+3-1=j+2),bh]at mF;have DN:b.jK K/2^d<2^j:=lZ.1 aC;have hle:b.jK K<=x*2^d:=by
   have h5:=cB (b.jK K) (2^d);have h6:=bE (b.jK K) hD;have h7:2^d*(b.jK K/2^d+1)<=2^d*x:=cE _ aC;rw[bO,b5,bD _ x]at h7;omega
  obtain⟨e1,e2,e3⟩:=aku hD hle;have hc:(if decide (b.jK K%2^d≠0)=true then 1 else 0)=(if b.jK K%2^d≠0 then 1 else 0):=by simp only[b9]
  rw[hc];have Ap:p<ia (x-(b.jK K/2^d+if b.jK K%2^d≠0 then 1 else 0)):=by
   have h8:2^(j+1)<=x-(b.jK K/2^d+if b.jK K%2^d≠0 then 1 else 0):=by
    rw[bC];have h9:2^j*2^2<=x:=mF;have pT:=bj (n:=j) (aE:0<2);split<;>omega
   have:=wb.2 h8;omega
  refine⟨λim=> aC,λ_=>⟨λhz=>?_,λ_=>?_⟩⟩
  .exfalso;rw[hz.1]at Ap;simp[ia]at Ap
  .obtain ⟨r1,r2⟩:=Ki ha hb k1 k2 a.neg (a.jK K-b.jK K) (by
    intro h;rw[<-hx,h,Nat.zero_div]at e1;rw[<-e1]at Ap;simp[ia]at Ap) (by
    rw[Jm];cases a.neg<;>simp<;>omega) p up
   rw[r1,r2,hx];rw[<-e1]at Ap ⊢;have h:=Iq (E:=K) (more:=false) a.neg up Ap;rw[am2]at h;have e4:decide ((x*2^d-b.jK K)%2^d≠0)=decide (b.jK K%2^d≠0):=amZ.2 e2;rw[e4]at h;exact h
end
def iY(m:Nat)(e:Int)(p:Nat):Int:=max (e+ia m-p) (-16384)
def nK(m:Nat)(e:Int)(more:Bool)(p:Nat)(up:Bool):Nat:=
 if iY m e p<=e then m*2^(e-iY m e p).toNat else m/2^(iY m e p-e).toNat+if(up&&(more||decide (m%2^(iY m e p-e).toNat≠0)))=true then 1 else 0
def RG{m:Nat}{e:Int}{more:Bool}{p:Nat}(up:Bool)(h0:m≠0)(hm:more=true->p<ia m)(hp:1<=p):
 (ia (nK m e more p up):Int)+iY m e p<=16384/\jY false m e more p up=canon false (nK m e more p up) (iY m e p)/\jN false m e more p up=0 \/
 16384<(ia (nK m e more p up):Int)+iY m e p/\((up=true/\jY false m e more p up=iq/\jN false m e more p up=9)\/(up=false/\jY false m e more p up=canon false (2^p-1) (16384-p)/\jN false m e more p up=0)):=by
 have py:(false != up)=up:=by cases up<;>rfl
 by_cases hU:iY m e p<=e
 .
  have hmf:more=false:=by
   cases MW:more with
   |false=>rfl
   |true=>have:=hm MW;unfold iY at hU;omega
  subst hmf;have hK:jL m e p=0:=by unfold iY at hU;unfold jL;omega
  have hQ:kV m e false p up=m:=by unfold kV;rw[hK];simp[dE]
  have hP:nK m e false p up=m*2^(e-iY m e p).toNat:=by unfold nK;rw[aZ hU]
  have hb:ia (nK m e false p up)=ia m+(e-iY m e p).toNat:=by rw[hP];exact rN h0 _
  have hc:canon false (nK m e false p up) (iY m e p)=canon false m e:=by
   rw[hP];have:=Lp false m e (e-iY m e p).toNat
   rwa[(aC:e-((e-iY m e p).toNat:Int)=iY m e p)]at this
  have hO:mg m e false p up=decide (16384<(ia m:Int)+e):=by
   unfold mg;rw[hQ,hK];simp[h0]
  by_cases tZ:16384<(ia m:Int)+e
  .refine .inr ⟨aC,?_⟩;unfold jY jN;rw[py,hO,a6 tZ];cases up
   .exact .inr ⟨rfl,rfl,rfl⟩
   .exact .inl ⟨rfl,rfl,rfl⟩
  .refine .inl ⟨aC,?_,?_⟩
   .unfold jY;rw[py,hO,a7 tZ,aY aE,hQ,hK,hc];simp
   .unfold jN;rw[py,hO,a7 tZ];simp
 .have hK:jL m e p=(iY m e p-e).toNat:=by unfold iY at hU ⊢;unfold jL;omega
  have hQ:kV m e more p up=nK m e more p up:=by
   unfold kV nK;rw[aY hU,hK];congr 1;cases up<;>cases more<;>simp
  have heK:e+(jL m e p:Int)=iY m e p:=by rw[hK];omega
  have jh:16384<(ia (nK m e more p up):Int)+iY m e p->nK m e more p up≠0:=by
   intro h hz;have qh:m/2^(iY m e p-e).toNat=0:=by
    unfold nK at hz;rw[aY hU]at hz;exact(Nat.add_eq_zero_iff.1 hz).1
   have im:m<2^(iY m e p-e).toNat:=by
    rcases Nat.div_eq_zero_iff.1 qh with h|h
    .exact absurd h (dV (bj aE))
    .exact h
   have:=lZ.2 im;rw[hz,rO]at h;have vU:=nR h0;unfold iY at h hU this;omega
  have hO:mg m e more p up=decide (16384<(ia (nK m e more p up):Int)+iY m e p):=by
   unfold mg;rw[hQ,show(ia (nK m e more p up):Int)+e+(jL m e p:Int)=(ia (nK m e more p up):Int)+iY m e p by omega];by_cases tZ:16384<(ia (nK m e more p up):Int)+iY m e p
   .simp [jh tZ]
   .simp [tZ]
  by_cases tZ:16384<(ia (nK m e more p up):Int)+iY m e p
  .refine .inr ⟨tZ,?_⟩;unfold jY jN;rw[py,hO,a6 tZ];cases up
   .exact .inr ⟨rfl,rfl,rfl⟩
   .exact .inl ⟨rfl,rfl,rfl⟩
  .refine .inl ⟨aC,?_,?_⟩
   .unfold jY;rw[py,hO,a7 tZ,aY aE,hQ,heK]
   .unfold jN;rw[py,hO,a7 tZ];simp
def RF{m:Nat}{e:Int}{more:Bool}{p:Nat}{up:Bool}(h0:m≠0):ia (nK m e more p up)<=p+1:=by
 unfold nK;split
 .rename_i h;rw[rN h0];unfold iY at h ⊢;omega
 .rename_i h;have h1:m/2^(iY m e p-e).toNat<2^p:=by
   rw[ct (bj aE),<-bh];refine lZ.1 ?_;unfold iY at h ⊢;omega
  refine lZ.2 ?_;rw[bC];have:0<2^p:=bj aE;split<;>omega
def ph{m k:Nat}(h:ia m<=32*k):(gS m).length<=k:=by
 refine uX ?_;rw[tz];exact lZ.1 h
def EI{m k:Nat}(h:(gS m).length<=k):ia m<=32*k:=by
 have:=JI h;rw[tz]at this;exact lZ.2 this
def RU{m n:Nat}(h:ia m<=n):m/2^n=0/\m%2^n=m:=by
 have:=lZ.1 h;exact⟨cO this,bX this⟩
def VI(m n:Nat):(ky (m/2^n*2^n) m != 0)=decide (m%2^n≠0):=by
 have h:=cB m (2^n);rw[bD]at h;unfold ky;by_cases h0:m%2^n=0
 .rw [aY aC,aY aC];simp[h0]
 .rw [aZ aC];simp[h0]
def RL(neg:Bool)(m:Nat)(e:Int)(more:Bool)(p:Nat)(up:Bool):
 jN neg m e more p up=jN false m e more p (up != neg) /\
 (jN false m e more p (up != neg)=0->neg=true->jo (jY false m e more p (up != neg))=jY neg m e more p up) /\
 ((jN false m e more p (up != neg)≠0\/neg=false)->jY false m e more p (up != neg)=jY neg m e more p up):=by
 have py:(false != (up != neg))=(neg != up):=by cases up<;>cases neg<;>rfl
 have hE:jN neg m e more p up=jN false m e more p (up != neg):=by unfold jN;rw[py]
 refine⟨hE,λh hn=>?_,λh=>?_⟩
 .have h':=EU.1 h;rw[py]at h';have neg_canon:∀ q u,jo (canon false q u)=canon true q u:=by
   intro q u;unfold canon jo;by_cases hq:q=0
   .simp [hq]
   .rw [aY hq,aY hq];have:=Gp hq;have h0:q/2^jl q≠0:= aC ;simp[h0]
  subst hn;unfold jY;rw[py];by_cases ho:mg m e more p (true != up)=true
  .have hu:(true != up)=false:=by
    cases hq:(true != up)with
    |false=>rfl
    |true=>exact absurd ⟨ho,hq⟩ h'
   rw[aZ ho,aZ ho,hu];simp only[bB,bk];exact neg_canon _ _
  .rw [aY ho,aY ho];exact neg_canon _ _
 .rcases h with h|h
  .have h1:mg m e more p (neg != up)=true/\(neg != up)=true:=by
    by_cases q:mg m e more p (neg != up)=true/\(neg != up)=true
    .exact q
    .exact absurd (EU.2 (by rw[py];exact q)) h
   unfold jY;rw[py,aZ h1.1,aZ h1.2,aZ h1.1,aZ h1.2]
  .subst h;cases up<;>rfl
def jb(a b:Dy)(p:Nat):Int:=if a.ij-b.ij<=2 then min (min a.e (a.ij-p-8)) b.e else min a.e (a.ij-p-8)
def nO(a b:Dy)(p:Nat):Nat:=a.m*2^(a.e-jb a b p).toNat
def mJ(a b:Dy)(p:Nat):Nat:=mK b (jb a b p)+if(a.neg != b.neg&&ny b (jb a b p))=true then 1 else 0
def pn(a b:Dy)(p:Nat):Bool:=(a.neg != b.neg)&&decide (nO a b p<mJ a b p)
def lR(a b:Dy)(p:Nat):Nat:=if a.neg=b.neg then nO a b p+mJ a b p else if nO a b p<mJ a b p then mJ a b p-nO a b p else nO a b p-mJ a b p
def ni(a b:Dy)(p:Nat):Bool:=ny b (jb a b p) && !pn a b p
def OX(a b:Dy)(p:Nat):jb a b p<=a.e/\jb a b p<=a.ij-p-8/\(jb a b p<=b.e\/3<=a.ij-b.ij):=by
 unfold jb;split<;>omega
def GZ{a:Dy}(a0:a.m≠0):a.ij=ia a.m+a.e:=by unfold Dy.ij;rw[aY a0]
structure Zv(a b:Dy)(p:Nat):Prop where
 lo:-17000<=jb a b p
 hi:jb a b p<=16384
 x:ia (nO a b p)<=4100
 x0:nO a b p≠0
 sh:(a.e-jb a b p).toNat<=60000
 sh2:(b.e-jb a b p).toNat<=60000
 sh3:(jb a b p-b.e).toNat<=60000
 y:ia (mK b (jb a b p))<=4100
 l:ny b (jb a b p)=true->p+8<=ia (nO a b p)/\ia (mK b (jb a b p))+3<=ia (nO a b p)
def Kx{a b:Dy}{p:Nat}(ha:a.gY)(hb:b.gY)(a0:a.m≠0)(b0:b.m≠0)(ht:b.ij<=a.ij)(gX:p<=512):Zv a b p:=by
 have ra:=ha.range.resolve_left a0;have rb:=hb.range.resolve_left b0;have ta:=GZ a0;have tb:=GZ b0;obtain⟨h1,h2,h3⟩:=OX a b p;have hx:ia (nO a b p)=ia a.m+(a.e-jb a b p).toNat:=rN a0 _;have Dx:jb a b p=a.e\/jb a b p=a.ij-p-8\/(a.ij-b.ij<=2/\jb a b p=b.e):=by unfold jb;split<;>omega
 have hy:ia (mK b (jb a b p))<=ia (nO a b p):=by
  unfold mK;split
  .rw [rN b0];omega
  .have:ia (b.m/2^(jb a b p-b.e).toNat)<=ia b.m-(jb a b p-b.e).toNat:=by
    rw[lZ,ct (bj aE),<-bh];exact lZ.1 aC 
   omega
 have pa:=nR a0;have pb:=nR b0;refine⟨aC,aC,aC,?_,aC,aC,aC,aC,λhl=>?_⟩
 .intro h;unfold nO at h;exact(dg a0 (dV (bj aE))) h
 .obtain ⟨K,d,k1,k2,k3,k4,k5,k6,k7⟩:=O6 (p:=p) a0 b0 h1 h2 h3;rcases k7 with rfl|⟨k7,k8⟩
  .rw [k6]at hl;simp[dE]at hl
  .rw [k5];exact⟨k7,k8⟩
def Pp{a b:Dy}{p:Nat}(ha:a.gY)(hb:b.gY)(a0:a.m≠0)(b0:b.m≠0)(ht:b.ij<=a.ij)(gX:p<=512):
 ia (mJ a b p)<=4101/\ia (lR a b p)<=4102/\(ni a b p=true->p<ia (lR a b p)):=by
 obtain⟨l1,l2,l3,l4,l5,l6,l7,l8,l9⟩:=Kx ha hb a0 b0 ht gX;have hy:mJ a b p<=mK b (jb a b p)+1:=by unfold mJ;split<;>omega
 obtain⟨K,hK⟩:∃ K:Nat,K=4100:=⟨_,rfl⟩
 have g1:4101=K+1:= aC ;have g2:4102=K+2:= aC ;rw[g1,g2];rw[<-hK]at l3 l8;have hy4:mK b (jb a b p)<2^K:=lZ.1 l8;have hx4:nO a b p<2^K:=lZ.1 l3;have e1:(2:Nat)^(K+1)=2*2^K:=by rw[bC];omega
 have e2:(2:Nat)^(K+2)=4*2^K:=by rw[bh];omega
 generalize (2:Nat)^K=Z at *
 refine⟨lZ.2 aC,lZ.2 ?_,λhl=>?_⟩
 .unfold lR;split
  .omega
  .split<;>omega
 .unfold ni at hl;simp only[bF,dI]at hl;obtain⟨q1,q2⟩:=l9 hl.1;have hX:2^(ia (nO a b p)-1)<=nO a b p:=rK l4;rw[wb];have hY:mK b (jb a b p)<2^(ia (nO a b p)-3):=lZ.1 aC;have e3:(2:Nat)^(ia (nO a b p)-1)=4*2^(ia (nO a b p)-3):=by
   rw[(aC:ia (nO a b p)-1=(ia (nO a b p)-3)+2),bh];omega
  have hp:(2:Nat)^p<=2^(ia (nO a b p)-3):=bI aE aC;unfold lR;split
  .omega
  .rename_i hs;unfold pn at hl;rw[aY (by
    have:=hl.2;simp[hs]at this;omega)]
   omega
def Yz{a b:Dy}{p:Nat}(ha:a.gY)(hb:b.gY)(a0:a.m≠0)(b0:b.m≠0)(up:Bool):
 (lR a b p=0/\ni a b p=false->iJ a b=iq) /\
 (¬(lR a b p=0/\ni a b p=false)->jY (a.neg != pn a b p) (lR a b p) (jb a b p) (ni a b p) p up=jZ (iJ a b) p up/\jN (a.neg != pn a b p) (lR a b p) (jb a b p) (ni a b p) p up=jO (iJ a b) p up):=by
 obtain⟨h1,h2,h3⟩:=OX a b p;by_cases hs:a.neg=b.neg
 .have hn:(a.neg != b.neg)=false:=by rw[hs];simp
  have e1:pn a b p=false:=by unfold pn;rw[hn];rfl
  have e2:ni a b p=ny b (jb a b p):=by unfold ni;rw[e1];simp
  have e3:lR a b p=a.m*2^(a.e-jb a b p).toNat+mK b (jb a b p):=by unfold lR;rw[aZ hs];unfold nO mJ;rw[hn];simp
  have hx:lR a b p≠0:=by
   rw[e3];have:=dg a0 (dV (bj (n:=(a.e-jb a b p).toNat) (show 0<2 by decide)));omega
  refine⟨λh=>absurd h.1 hx,λ_=>?_⟩;rw[e1,e2,e3];have:=ajC ha.canon hb.canon a0 b0 h1 h2 h3 hs up;cases hA:a.neg<;>rw[hA]at this<;>exact this
 .have hn:(a.neg != b.neg)=true:=by simpa using hs
  have eY:mJ a b p=mK b (jb a b p)+if ny b (jb a b p)=true then 1 else 0:=by unfold mJ;rw[hn];simp
  obtain⟨r1,r2⟩:=ajB (p:=p) ha.canon hb.canon a0 b0 h1 h2 h3 hs up;rw[<-eY]at r1 r2;change nO a b p<mJ a b p->_ at r1;change mJ a b p<=nO a b p->_ at r2;by_cases hc:nO a b p<mJ a b p
  .have e1:pn a b p=true:=by unfold pn;rw[hn,a6 hc];rfl
   have e2:ni a b p=false:=by unfold ni;rw[e1];simp
   have e3:lR a b p=mJ a b p-nO a b p:=by unfold lR;rw[aY hs,aZ hc]
   rw[e1,e2,e3];refine⟨λh=> aC,λ_=>?_⟩;have:=r1 hc;cases hA:a.neg<;>rw[hA]at this<;>exact this
  .have e1:pn a b p=false:=by unfold pn;rw[hn,a7 hc];rfl
   have e2:ni a b p=ny b (jb a b p):=by unfold ni;rw[e1];simp
   have e3:lR a b p=nO a b p-mJ a b p:=by unfold lR;rw[aY hs,aY hc]
   rw[e1,e2,e3];obtain⟨q1,q2⟩:=r2 aC;refine⟨q1,λh=>?_⟩;have:=q2 h;cases hA:a.neg<;>rw[hA]at this<;>exact this
end Go.Proofs.YtkdddbdjilcofaaGreatDoor.Fp
namespace Go.Proofs.YtkdddbdjilcofaaGreatDoor
open Go.RowKit Fp
def QO(a b:Nat):ia (a*b)<=ia a+ia b:=by
 rw[lZ,bh];exact Nat.mul_lt_mul'' (ql a) (ql b)
def Ij(d:Dy)(A:Option Addr)(c:Nat)(w:World)(hs:Sl w A c (gS d.m))(hl:(gS d.m).length<=100000000)(mn:-10000000<=d.e)(lk:d.e<=10000000):
 Calls prog 97 #[DV d A c] w (tI w (jq d) (kp d)):=by
 by_cases hd:mB d
 .rw [Ab hd,EN hd];exact Rl d A c w hs hl mn lk hd
 .rw [Ik hd,EM hd];exact ab6 d A c w hs hl mn lk hd
def Ll(s:Bool)(m:Nat)(e:Int){n:Nat}(hm:(gS m).length<=n):(gS (canon s m e).m).length<=n/\e<=max (canon s m e).e e/\((canon s m e).e<=max 0 (e+32*n))/\min 0 e<=(canon s m e).e:=by
 unfold canon;by_cases h0:m=0
 .rw [aZ h0];simp only[nU];exact⟨bV _,aC,aC,aC⟩
 .rw [aY h0];have h1:jl m<32*n:=by
   have h1:=Gy h0;have h2:=JI hm;rw[tz]at h2;exact(am9 (aE:1<2)).1 (ck h1 h2)
  exact⟨bg (mC (bT _ _)) hm,aC,by simp only;omega,by simp only;omega⟩
def Df(s:Bool)(m:Nat)(e:Int)(A:Option Addr)(c:Nat)(w:World)(hs:Sl w A c (gS m))(hl:(gS m).length<=256)(mn:-1000000<=e)(lk:e<=1000000)(kq:Tb w):
 Calls prog 98 #[.bool s,.slice A (gS m).length c,.int .i64 e] w (yj w (canon s m e)):=by
 have:=Iu s A c (gS m) e w hs aC (by have:=pq (gS m);unfold mz at this;omega) mn lk kq;rw[kf]at this;exact this
def Od{m:Nat}(h:m=0):(((gS m).length:Int)==0)=true:=by rw[h,nU];rfl
def J6{m:Nat}(h:m≠0):(((gS m).length:Int)==0)=false:=by
 refine aT ?_;have:gS m≠[]:=λe=>h (Vx.1 e)
 have:=fO.2 this;omega
def ac6(a b:Dy)(A B:Option Addr)(c d:Nat)(w:World)(_hs:Sl w A c (gS a.m))(hr:Sl w B d (gS b.m))(kq:Tb w)(hb:b.gY)(h0:a.m=0):
 Calls prog 172 #[DV a A c,DV b B d] w (tI w (jq (iJ a b)) (kp (iJ a b))):=by
 have yT:iJ a b=b:=by unfold iJ;rw[aZ h0]
 rw[yT,Ab hb.range,EN hb.range];have hl:=hb.len;obtain⟨mn,lk⟩:=hb.exp;have HC:=anq (λw (h:Sl w B d (gS b.m)) (ht:Tb w)=>Df b.neg b.m b.e B d w h hl aC aC ht);rw[hb.canon.De]at HC;have n0:=Od h0;clear yT h0;have hE:=((iC.alloc w (.cells #[.bool b.neg,.slice B ((gS b.m).length) d,.int .i64 b.e] 31)).trans (iC.alloc (w.alloc (.cells #[.bool b.neg,.slice B ((gS b.m).length) d,.int .i64 b.e] 31)) (.cells #[.bool b.neg,.slice B ((gS b.m).length) d,.int .i64 b.e] 31))).trans (iC.alloc ((w.alloc (.cells #[.bool b.neg,.slice B ((gS b.m).length) d,.int .i64 b.e] 31)).alloc (.cells #[.bool b.neg,.slice B ((gS b.m).length) d,.int .i64 b.e] 31)) (.cells #[.bool false,.slice none 0 0,.int .i64 0] 31));have b1:=((jg.rG (W:=w) (g:=w.heap.size) aH b.neg B ((gS b.m).length) d b.e).alloc (.cells #[.bool b.neg,.slice B ((gS b.m).length) d,.int .i64 b.e] 31)).alloc (.cells #[.bool false,.slice none 0 0,.int .i64 0] 31);have b2:=(jg.rG (W:=(w.alloc (.cells #[.bool b.neg,.slice B ((gS b.m).length) d,.int .i64 b.e] 31))) (g:=w.heap.size+1) aH b.neg B ((gS b.m).length) d b.e).alloc (.cells #[.bool false,.slice none 0 0,.int .i64 0] 31);have b3:=jg.rG (W:=((w.alloc (.cells #[.bool b.neg,.slice B ((gS b.m).length) d,.int .i64 b.e] 31)).alloc (.cells #[.bool b.neg,.slice B ((gS b.m).length) d,.int .i64 b.e] 31))) (g:=w.heap.size+2) aH false none 0 0 0;replace hr:=hr.below hE;replace kq:=kq.below hE;go_enter func172,ntmps172;go_wp2_with fail
 (with_reducible refine(HC.out _ hr kq).mono ?_)
 rintro r w1 ⟨A_h4,c_h4,rfl,h4,hb⟩;replace hE:=hE.trans hb;replace hr:=hr.below hb;replace kq:=kq.below hb;replace b1:=b1.ext hb;replace b2:=b2.ext hb;replace b3:=b3.ext hb;clear hb;have Hc:=b3.c0;have yb30:=b3.fr 0;have Hd:=b3.c1;have yb31:=b3.fr 1;have He:=b3.c2;have yb32:=b3.fr 2;go_wp2;exact vF (d:=b) rfl rfl rfl rfl (b3.set _ _ _ _ _) rfl (b3.rm h4 _ _ _ _ _) (jg.qL hE aC _ _ _ _ _)
def ac7(a b:Dy)(A B:Option Addr)(c d:Nat)(w:World)(hs:Sl w A c (gS a.m))(kq:Tb w)(ha:a.gY)(h1:a.m≠0)(h0:b.m=0):
 Calls prog 172 #[DV a A c,DV b B d] w (tI w (jq (iJ a b)) (kp (iJ a b))):=by
 have yT:iJ a b=a:=by unfold iJ;rw[aY h1,aZ h0]
 rw[yT,Ab ha.range,EN ha.range];have hl:=ha.len;obtain⟨mn,lk⟩:=ha.exp;have HC:=anq (λw (h:Sl w A c (gS a.m)) (ht:Tb w)=>Df a.neg a.m a.e A c w h hl aC aC ht);rw[ha.canon.De]at HC;have n0:=Od h0;have n1:=J6 h1;clear yT h0 h1;have hE:=((iC.alloc w (.cells #[.bool a.neg,.slice A ((gS a.m).length) c,.int .i64 a.e] 31)).trans (iC.alloc (w.alloc (.cells #[.bool a.neg,.slice A ((gS a.m).length) c,.int .i64 a.e] 31)) (.cells #[.bool b.neg,.slice B ((gS b.m).length) d,.int .i64 b.e] 31))).trans (iC.alloc ((w.alloc (.cells #[.bool a.neg,.slice A ((gS a.m).length) c,.int .i64 a.e] 31)).alloc (.cells #[.bool b.neg,.slice B ((gS b.m).length) d,.int .i64 b.e] 31)) (.cells #[.bool false,.slice none 0 0,.int .i64 0] 31));have b1:=((jg.rG (W:=w) (g:=w.heap.size) aH a.neg A ((gS a.m).length) c a.e).alloc (.cells #[.bool b.neg,.slice B ((gS b.m).length) d,.int .i64 b.e] 31)).alloc (.cells #[.bool false,.slice none 0 0,.int .i64 0] 31);have b2:=(jg.rG (W:=(w.alloc (.cells #[.bool a.neg,.slice A ((gS a.m).length) c,.int .i64 a.e] 31))) (g:=w.heap.size+1) aH b.neg B ((gS b.m).length) d b.e).alloc (.cells #[.bool false,.slice none 0 0,.int .i64 0] 31);have b3:=jg.rG (W:=((w.alloc (.cells #[.bool a.neg,.slice A ((gS a.m).length) c,.int .i64 a.e] 31)).alloc (.cells #[.bool b.neg,.slice B ((gS b.m).length) d,.int .i64 b.e] 31))) (g:=w.heap.size+2) aH false none 0 0 0;replace hs:=hs.below hE;replace kq:=kq.below hE;go_enter func172,ntmps172;go_wp2_with fail
 (with_reducible refine(HC.out _ hs kq).mono ?_)
 rintro r w1 ⟨A_h4,c_h4,rfl,h4,hb⟩;replace hE:=hE.trans hb;replace hs:=hs.below hb;replace kq:=kq.below hb;replace b1:=b1.ext hb;replace b2:=b2.ext hb;replace b3:=b3.ext hb;clear hb;have Hc:=b3.c0;have yb30:=b3.fr 0;have Hd:=b3.c1;have yb31:=b3.fr 1;have He:=b3.c2;have yb32:=b3.fr 2;go_wp2;exact vF (d:=a) rfl rfl rfl rfl (b3.set _ _ _ _ _) rfl (b3.rm h4 _ _ _ _ _) (jg.qL hE aC _ _ _ _ _)
def LG(a:Dy)(A:Option Addr)(c:Nat)(w:World)(h:Sl w A c (gS a.m))(ha:a.gY):
 Calls prog 67 #[DV a A c] w λe w'=>e = .returned (.int .i64 a.ij)/\iC w w':=by
 have:=LF a.neg A c (gS a.m) a.e w h ha.xz;rw[kf]at this;exact this
def P3(L:List Nat)(w:World)(v:Value):Prop:=∃ A c,v = .slice A L.length c/\Sl w A c L
def amf{fn:Func}{p t:Tmp}(h:fn.results = #[.cell p 31,.tmp t]){a:Act}{w W:World}{k:Int}{g:Nat}
 (hp:a.tmps.getD p undef = .pointer (some ⟨g,0,none⟩)) (ht:a.tmps.getD t undef = .int .i64 k) (hd:a.defers=[]) (hb:jg W g false none 0 0 0) (he:iC w W):
 bodyPost prog fn (tI w iq k) .ret a W:=
 vF (d:=iq) h hp ht hd hb (by rw[show iq.m=0 from rfl,nU];rfl) (by rw[show iq.m=0 from rfl,nU];exact Sl.nil _) he
set_option maxRecDepth 100000 in
set_option maxHeartbeats 8000000 in
def ac8(a b:Dy)(A B:Option Addr)(c d:Nat)(w:World)(hs:Sl w A c (gS a.m))(hr:Sl w B d (gS b.m))(kq:Tb w)(ha:a.gY)(hb:b.gY)(a0:a.m≠0)(b0:b.m≠0):
  Calls prog 172 #[DV a A c,DV b B d] w (tI w (jq (iJ a b)) (kp (iJ a b))):=by
 have n1:=J6 a0;have n2:=J6 b0;have la:=ha.len;have lb:=hb.len;obtain⟨ea1,ea2⟩:=ha.exp;obtain⟨eb1,eb2⟩:=hb.exp;obtain⟨k,hk⟩:∃ k,min a.e b.e=k:=⟨_,rfl⟩
 have T7:k<=a.e:= aC ;have Jb:k<=b.e:= aC ;have oe:-16384<=k:= aC ;have vO:k<=16384:= aC ;have HTa:=anq (λw (h:Sl w A c (gS a.m))=>LG a A c w h ha);have HTb:=anq (λw (h:Sl w B d (gS b.m))=>LG b B d w h hb);have HBIG:=anq (λh1 h2=>akA ha hb a0 b0 hk h1 h2);have HFIT:=anq (λh=>akB ha hb a0 b0 hk h);have HS1:=anq (λ(h:a.neg=b.neg)=>show iJ a b=canon a.neg (a.m*2^(a.e-k).toNat+b.m*2^(b.e-k).toNat) k from by
  have:=aky (s:=a.neg) a0 b0 hk;rw[<-this,show(⟨a.neg,b.m,b.e⟩:Dy)=b by rw[h]])
 have HS2:=anq (λ(h:a.neg≠b.neg) (qX:b.m*2^(b.e-k).toNat<=a.m*2^(a.e-k).toNat)=>akw a0 b0 hk h qX);have HS3:=anq (λ(h:a.neg≠b.neg) (qX:a.m*2^(a.e-k).toNat<b.m*2^(b.e-k).toNat)=>akx a0 b0 hk h qX);have B9:-16384<=a.ij/\a.ij<=16384:=by unfold Dy.ij;rw[aY a0];have:=ha.YJ a0;omega
 have htb:-16384<=b.ij/\b.ij<=16384:=by unfold Dy.ij;rw[aY b0];have:=hb.YJ b0;omega
 obtain⟨amC,amD⟩:=B9;obtain⟨amE,amF⟩:=htb;obtain⟨S,hS⟩:∃ S,iJ a b=S:=⟨_,rfl⟩
 rw[hS]at HBIG HS1 ⊢;have HS2:=anq (λh h'=>hS▸HS2.out h h');have HS3:=anq (λh h'=>hS▸HS3.out h h');have HXa:=anq (λw (h:Sl w A c (gS a.m)) (hf:(gS (a.m*2^(a.e-k).toNat)).length<=256)=>Kp A c (gS a.m) (a.e-k) w h la aC aC (by rw[kf];exact hf));have HXb:=anq (λw (h:Sl w B d (gS b.m)) (hf:(gS (b.m*2^(b.e-k).toNat)).length<=256)=>Kp B d (gS b.m) (b.e-k) w h lb aC aC (by rw[kf];exact hf));rw[kf]at HXa HXb;generalize a.m*2^(a.e-k).toNat=x at *
 generalize b.m*2^(b.e-k).toNat=y at *
 generalize a.ij=ta at *
 generalize b.ij=tb at *
 obtain⟨mx,Jj⟩:∃ mx,max ta tb=mx:=⟨_,rfl⟩
 have Ji:-16384<=mx/\mx<=16384:= aC ;obtain⟨Ji,vQ⟩:=Ji;rw[Jj]at HBIG HFIT;have ae5:=kq;have tf:=hs;have wV:=hr;clear a0 b0 hS;have hE:=((iC.alloc w (.cells #[.bool a.neg,.slice A ((gS a.m).length) c,.int .i64 a.e] 31)).trans (iC.alloc (w.alloc (.cells #[.bool a.neg,.slice A ((gS a.m).length) c,.int .i64 a.e] 31)) (.cells #[.bool b.neg,.slice B ((gS b.m).length) d,.int .i64 b.e] 31))).trans (iC.alloc ((w.alloc (.cells #[.bool a.neg,.slice A ((gS a.m).length) c,.int .i64 a.e] 31)).alloc (.cells #[.bool b.neg,.slice B ((gS b.m).length) d,.int .i64 b.e] 31)) (.cells #[.bool false,.slice none 0 0,.int .i64 0] 31));have b1:=((jg.rG (W:=w) (g:=w.heap.size) aH a.neg A ((gS a.m).length) c a.e).alloc (.cells #[.bool b.neg,.slice B ((gS b.m).length) d,.int .i64 b.e] 31)).alloc (.cells #[.bool false,.slice none 0 0,.int .i64 0] 31);have b2:=(jg.rG (W:=(w.alloc (.cells #[.bool a.neg,.slice A ((gS a.m).length) c,.int .i64 a.e] 31))) (g:=w.heap.size+1) aH b.neg B ((gS b.m).length) d b.e).alloc (.cells #[.bool false,.slice none 0 0,.int .i64 0] 31);have b3:=jg.rG (W:=((w.alloc (.cells #[.bool a.neg,.slice A ((gS a.m).length) c,.int .i64 a.e] 31)).alloc (.cells #[.bool b.neg,.slice B ((gS b.m).length) d,.int .i64 b.e] 31))) (g:=w.heap.size+2) aH false none 0 0 0;replace hs:=hs.below hE;replace hr:=hr.below hE;replace kq:=kq.below hE;go_enter func172,ntmps172;have nW:=b1.c0;have nX:=b1.c1;have nY:=b1.c2
 have sT:=b2.c0;have sU:=b2.c1;have sV:=b2.c2;go_upto_region 6 with fail;clear nW nX nY sT sU sV;obtain⟨W1,hW⟩:∃ W,(((w.alloc (.cells #[.bool a.neg,.slice A ((gS a.m).length) c,.int .i64 a.e] 31)).alloc (.cells #[.bool b.neg,.slice B ((gS b.m).length) d,.int .i64 b.e] 31)).alloc (.cells #[.bool false,.slice none 0 0,.int .i64 0] 31))=W:=⟨_,rfl⟩
 rw[hW]at hs hr kq b1 b2 b3 hE ⊢;clear hW;go_cut [7,8] (λs0 s1 wx=>s0=(.int .i64 ta)/\s1=(.int .i64 tb)/\iC W1 wx)
 case first=>
  have b1':=b1.drew;have b2':=b2.drew;have ot:=hs.drew;have sf:=hr.drew;go_region_held3 (λw'=>w'.cell? ⟨w.heap.size,0,none⟩=some (.bool a.neg)/\w'.cell? ⟨w.heap.size,1,none⟩=some (.slice A ((gS a.m).length) c)/\w'.cell? ⟨w.heap.size,2,none⟩=some (.int .i64 a.e)/\w'.cell? ⟨w.heap.size+1,0,none⟩=some (.bool b.neg)/\w'.cell? ⟨w.heap.size+1,1,none⟩=some (.slice B ((gS b.m).length) d)/\w'.cell? ⟨w.heap.size+1,2,none⟩=some (.int .i64 b.e))
   (first|with_reducible exact⟨(b1').c0,(b1').c1,(b1').c2,(b2').c0,(b2').c1,(b2').c2⟩|with_reducible exact⟨(b1'.ext jv).c0,(b1'.ext jv).c1,(b1'.ext jv).c2,(b2'.ext jv).c0,(b2'.ext jv).c1,(b2'.ext jv).c2⟩|with_reducible exact⟨(b1'.ext iQ).c0,(b1'.ext iQ).c1,(b1'.ext iQ).c2,(b2'.ext iQ).c0,(b2'.ext iQ).c1,(b2'.ext iQ).c2⟩|with_reducible exact⟨(b1'.ext (jv.trans iQ)).c0,(b1'.ext (jv.trans iQ)).c1,(b1'.ext (jv.trans iQ)).c2,(b2'.ext (jv.trans iQ)).c0,(b2'.ext (jv.trans iQ)).c1,(b2'.ext (jv.trans iQ)).c2⟩|with_reducible exact⟨(b1'.ext (iQ.trans jv)).c0,(b1'.ext (iQ.trans jv)).c1,(b1'.ext (iQ.trans jv)).c2,(b2'.ext (iQ.trans jv)).c0,(b2'.ext (iQ.trans jv)).c1,(b2'.ext (iQ.trans jv)).c2⟩)
   (first
    | (go_at_call_of 67 (Value.agg #[.bool a.neg,.slice A (gS a.m).length c,.int .i64 a.e]);(first|(with_reducible refine(HTa.out _ ot).mono ?_)|(with_reducible refine(HTa.out _ (ot.below iQ)).mono ?_));rintro r wx0 ⟨rfl,jv⟩)
    | (go_at_call_of 67 (Value.agg #[.bool b.neg,.slice B (gS b.m).length d,.int .i64 b.e]);(first|(with_reducible refine(HTb.out _ sf).mono ?_)|(with_reducible refine(HTb.out _ (sf.below jv)).mono ?_));rintro r wx1 ⟨rfl,iQ⟩))
  all_goals (go_wp2_with fail;go_meet;(first|exact⟨rfl,rfl,(iC.drew _).trans (jv.trans iQ)⟩|exact⟨rfl,rfl,(iC.drew _).trans (iQ.trans jv)⟩))
 obtain⟨rfl,rfl,hb⟩:=hcut;replace hE:=hE.trans hb;replace hs:=hs.below hb;replace hr:=hr.below hb;replace kq:=kq.below hb;replace b1:=b1.ext hb;replace b2:=b2.ext hb;replace b3:=b3.ext hb;clear hb;go_upto_region 7 with fail;go_cut [63] (λs wx=>s = .bool (decide (4097<mx-k/\(1<ta-tb\/1<tb-ta)))/\wx=wc)
 case first=>
  by_cases c1:4097<mx-k
  .by_cases c2:1<ta-tb
   .go_wp2;go_meet;exact⟨congrArg Value.bool (a6 ⟨c1,.inl c2⟩).symm,rfl⟩
   .by_cases c3:1<tb-ta
    .go_wp2;go_meet;exact⟨congrArg Value.bool (a6 ⟨c1,.inr c3⟩).symm,rfl⟩
    .go_wp2;go_meet;exact⟨congrArg Value.bool (a7 aC).symm,rfl⟩
  .go_wp2;go_meet;exact⟨congrArg Value.bool (a7 aC).symm,rfl⟩
 obtain⟨rfl,hwc⟩:=hcut;subst hwc;by_cases hB:4097<mx-k/\(1<ta-tb\/1<tb-ta)
 .have hd:decide (4097<mx-k/\(1<ta-tb\/1<tb-ta))=true:=a6 hB;have kr:=anq (HBIG.out hB.1 hB.2);rw[hd];clear hB hd;have Hc:=b3.c0;have yb30:=b3.fr 0;have Hd:=b3.c1;have yb31:=b3.fr 1;have He:=b3.c2;have yb32:=b3.fr 2;go_wp2;rw[Ik kr.out,EM kr.out];exact amf rfl rfl rfl rfl (b3.set _ _ _ _ _) (jg.qL hE aC _ _ _ _ _)
 .have hd:decide (4097<mx-k/\(1<ta-tb\/1<tb-ta))=false:=a7 hB;obtain⟨AE,Ng⟩:=HFIT.out hB;have HXY:=anq (JG (k:=129) (bg (aay AE Ng) aE));have tl:=JG (k:=129) (bg AE aE);have AF:=JG (k:=129) (bg Ng aE);have HXa2:=anq (λw h=>HXa.out w h aC);have HXb2:=anq (λw h=>HXb.out w h aC);rw[hd];clear hB hd AE Ng Jj HBIG HFIT HXa HXb HTa HTb;have Nc:IntKind.i64.wrap (a.e-k)=a.e-k:=i64_in _ aC aC;have hwf:IntKind.i64.wrap (b.e-k)=b.e-k:=i64_in _ aC aC;have nW:=b1.c0;have nX:=b1.c1;have nY:=b1.c2;have sT:=b2.c0;have sU:=b2.c1;have sV:=b2.c2;go_upto_region 9 with fail;clear nW nX nY sT sU sV;go_cut [9,10] (λs0 s1 wx=>P3 (gS x) wx s0/\P3 (gS y) wx s1/\iC wc wx)
  case first=>
   have b1':=b1.drew;have b2':=b2.drew;have ot:=hs.drew;have sf:=hr.drew;go_region_held3 (λw'=>w'.cell? ⟨w.heap.size,0,none⟩=some (.bool a.neg)/\w'.cell? ⟨w.heap.size,1,none⟩=some (.slice A ((gS a.m).length) c)/\w'.cell? ⟨w.heap.size,2,none⟩=some (.int .i64 a.e)/\w'.cell? ⟨w.heap.size+1,0,none⟩=some (.bool b.neg)/\w'.cell? ⟨w.heap.size+1,1,none⟩=some (.slice B ((gS b.m).length) d)/\w'.cell? ⟨w.heap.size+1,2,none⟩=some (.int .i64 b.e))
    (first|with_reducible exact⟨(b1').c0,(b1').c1,(b1').c2,(b2').c0,(b2').c1,(b2').c2⟩|with_reducible exact⟨(b1'.ext jv).c0,(b1'.ext jv).c1,(b1'.ext jv).c2,(b2'.ext jv).c0,(b2'.ext jv).c1,(b2'.ext jv).c2⟩|with_reducible exact⟨(b1'.ext iQ).c0,(b1'.ext iQ).c1,(b1'.ext iQ).c2,(b2'.ext iQ).c0,(b2'.ext iQ).c1,(b2'.ext iQ).c2⟩|with_reducible exact⟨(b1'.ext (jv.trans iQ)).c0,(b1'.ext (jv.trans iQ)).c1,(b1'.ext (jv.trans iQ)).c2,(b2'.ext (jv.trans iQ)).c0,(b2'.ext (jv.trans iQ)).c1,(b2'.ext (jv.trans iQ)).c2⟩|with_reducible exact⟨(b1'.ext (iQ.trans jv)).c0,(b1'.ext (iQ.trans jv)).c1,(b1'.ext (iQ.trans jv)).c2,(b2'.ext (iQ.trans jv)).c0,(b2'.ext (iQ.trans jv)).c1,(b2'.ext (iQ.trans jv)).c2⟩)
    (first
     | (go_at_call_of 100 (Value.slice A (gS a.m).length c);(first|(with_reducible refine(HXa2.out _ ot).mono ?_)|(with_reducible refine(HXa2.out _ (ot.below iQ)).mono ?_));rintro r wx0 ⟨A0,c0,rfl,qA,jv⟩)
     | (go_at_call_of 100 (Value.slice B (gS b.m).length d);(first|(with_reducible refine(HXb2.out _ sf).mono ?_)|(with_reducible refine(HXb2.out _ (sf.below jv)).mono ?_));rintro r wx1 ⟨A1,c1,rfl,rU,iQ⟩))
   all_goals (go_wp2_with fail;go_meet;(first|exact⟨⟨_,_,rfl,qA.below iQ⟩,⟨_,_,rfl,rU⟩,(iC.drew _).trans (jv.trans iQ)⟩|exact⟨⟨_,_,rfl,qA⟩,⟨_,_,rfl,rU.below jv⟩,(iC.drew _).trans (iQ.trans jv)⟩))
  obtain⟨⟨A_hx,c_hx,rfl,hx⟩,⟨A_hy,c_hy,rfl,hy⟩,hb⟩:=hcut;replace hE:=hE.trans hb;replace hs:=hs.below hb;replace hr:=hr.below hb;replace kq:=kq.below hb;replace b1:=b1.ext hb;replace b2:=b2.ext hb;replace b3:=b3.ext hb;clear hb;have HA:=anq (λw A c B d (h:Sl w A c (gS x)) (k:Sl w B d (gS y))=>Wi A B c d (gS x) (gS y) w h k aC aC (by rw[kf,kf];exact bg HXY.out aE));rw[kf,kf]at HA;by_cases hn:a.neg=b.neg
  .have e1:(a.neg==b.neg)=true:=by rw[hn];exact beq_self_eq_true _
   have hD:=anq (HS1.out hn);have HO:=anq (λw A c (h:Sl w A c (gS (x+y))) (ht:Tb w)=>Df a.neg (x+y) k A c w h (bg HXY.out aE) aC aC ht);clear hn;have BN:=Ll a.neg (x+y) k HXY.out;have HK:=anq (λw A c (h:Sl w A c (gS (canon a.neg (x+y) k).m))=>Ij (canon a.neg (x+y) k) A c w h aC aC aC);generalize canon a.neg (x+y) k=D at *
   clear BN HS1 HS2 HS3;have nW:=b1.c0;have nX:=b1.c1;have nY:=b1.c2;have sT:=b2.c0;have sU:=b2.c1;have sV:=b2.c2;go_wp2_with fail
   (with_reducible refine(HA.out _ _ _ _ _ hx hy).mono ?_)
   rintro r w2 ⟨A3,c3,rfl,h3,hb⟩;clear nW nX nY sT sU sV;replace hE:=hE.trans hb;replace hs:=hs.below hb;replace hr:=hr.below hb;replace kq:=kq.below hb;replace hx:=hx.below hb;replace hy:=hy.below hb;replace b1:=b1.ext hb;replace b2:=b2.ext hb;replace b3:=b3.ext hb;clear hb;have nW:=b1.c0;have nX:=b1.c1;have nY:=b1.c2;go_wp2_with fail
   (with_reducible refine(HO.out _ _ _ h3 kq).mono ?_)
   rintro r w3 ⟨A_h4,c_h4,rfl,h4,hb⟩;clear nW nX nY;replace hE:=hE.trans hb;replace hs:=hs.below hb;replace hr:=hr.below hb;replace kq:=kq.below hb;replace hx:=hx.below hb;replace hy:=hy.below hb;replace h3:=h3.below hb;replace b1:=b1.ext hb;replace b2:=b2.ext hb;replace b3:=b3.ext hb;clear hb;have nW:=b1.c0;have nX:=b1.c1;have nY:=b1.c2;go_wp2_with fail
   (with_reducible refine(HK.out _ _ _ h4).mono ?_)
   rintro r w4 ⟨A_h5,c_h5,rfl,h5,hb⟩;clear nW nX nY;replace hE:=hE.trans hb;replace hs:=hs.below hb;replace hr:=hr.below hb;replace kq:=kq.below hb;replace hx:=hx.below hb;replace hy:=hy.below hb;replace h3:=h3.below hb;replace h4:=h4.below hb;replace b1:=b1.ext hb;replace b2:=b2.ext hb;replace b3:=b3.ext hb;clear hb;have Hc:=b3.c0;have yb30:=b3.fr 0;have Hd:=b3.c1;have yb31:=b3.fr 1;have He:=b3.c2;have yb32:=b3.fr 2;go_wp2;rw[hD.out];exact vF (d:=(jq D)) rfl rfl rfl rfl (b3.set _ _ _ _ _) rfl (b3.rm h5 _ _ _ _ _) (jg.qL hE aC _ _ _ _ _)
  .have e1:(a.neg==b.neg)=false:=aT hn;have HC:=anq (λw A c B d (h:Sl w A c (gS x)) (k:Sl w B d (gS y))=>Gj A B c d (gS x) (gS y) w h k aC aC);rw[kf,kf]at HC;by_cases im:x<y
   .have hD:=anq (HS3.out hn im);have d0:decide (ky x y<0)=true:=by unfold ky;rw[aZ im];rfl
    have HSb:=anq (λw A c B d (h:Sl w A c (gS y)) (k:Sl w B d (gS x))=>N8 A B c d (gS y) (gS x) w h k aC aC (by rw[kf,kf];omega));rw[kf,kf]at HSb;have DN:=bg (mC (eE y x)) AF;have HO:=anq (λw A c (h:Sl w A c (gS (y-x))) (ht:Tb w)=>Df b.neg (y-x) k A c w h aC aC aC ht);have BN:=Ll b.neg (y-x) k DN;have HK:=anq (λw A c (h:Sl w A c (gS (canon b.neg (y-x) k).m))=>Ij (canon b.neg (y-x) k) A c w h aC aC aC);generalize canon b.neg (y-x) k=D at *
    generalize ky x y=q at *
    clear BN HS1 HS2 HS3 hn im DN HA;have nW:=b1.c0;have nX:=b1.c1;have nY:=b1.c2;have sT:=b2.c0;have sU:=b2.c1;have sV:=b2.c2;go_wp2_with fail
    (with_reducible refine(HC.out _ _ _ _ _ hx hy).mono ?_)
    rintro r w2 ⟨rfl,hb⟩;clear nW nX nY sT sU sV;replace hE:=hE.trans hb;replace hs:=hs.below hb;replace hr:=hr.below hb;replace kq:=kq.below hb;replace hx:=hx.below hb;replace hy:=hy.below hb;replace b1:=b1.ext hb;replace b2:=b2.ext hb;replace b3:=b3.ext hb;clear hb;have BU:w.heap.size<=w.heap.size:=bc _;have nW:=b1.c0;have nX:=b1.c1;have nY:=b1.c2;have sT:=b2.c0;have sU:=b2.c1;have sV:=b2.c2;have fb0:=b1.fr 0;have fb1:=b1.fr 1;have fb2:=b1.fr 2;have hx:=b1.rm hx b.neg b.e (gS b.m).length d B;have hy:=b1.rm hy b.neg b.e (gS b.m).length d B;have hE:=jg.qL hE (bc _) b.neg B (gS b.m).length d b.e;have b3:=b3.xC (g':=w.heap.size) aC (.bool b.neg) (.slice B (gS b.m).length d) (.int .i64 b.e);have b1:=b1.set b.neg B (gS b.m).length d b.e;have kq:=ae5.below hE;clear hs hr b2;go_wp2_with fail
    (with_reducible refine(HSb.out _ _ _ _ _ hy hx).mono ?_)
    rintro r w3 ⟨A3,c3,rfl,h3,hb⟩;clear nW nX nY sT sU sV;replace hE:=hE.trans hb;replace kq:=kq.below hb;replace hx:=hx.below hb;replace hy:=hy.below hb;replace b1:=b1.ext hb;replace b3:=b3.ext hb;clear hb;have nW:=b1.c0;have nX:=b1.c1;have nY:=b1.c2;go_wp2_with fail
    (with_reducible refine(HO.out _ _ _ h3 kq).mono ?_)
    rintro r w4 ⟨A_h4,c_h4,rfl,h4,hb⟩;clear nW nX nY;replace hE:=hE.trans hb;replace kq:=kq.below hb;replace hx:=hx.below hb;replace hy:=hy.below hb;replace h3:=h3.below hb;replace b1:=b1.ext hb;replace b3:=b3.ext hb;clear hb;have nW:=b1.c0;have nX:=b1.c1;have nY:=b1.c2;go_wp2_with fail
    (with_reducible refine(HK.out _ _ _ h4).mono ?_)
    rintro r w5 ⟨A_h5,c_h5,rfl,h5,hb⟩;clear nW nX nY;replace hE:=hE.trans hb;replace kq:=kq.below hb;replace hx:=hx.below hb;replace hy:=hy.below hb;replace h3:=h3.below hb;replace h4:=h4.below hb;replace b1:=b1.ext hb;replace b3:=b3.ext hb;clear hb;have Hc:=b3.c0;have yb30:=b3.fr 0;have Hd:=b3.c1;have yb31:=b3.fr 1;have He:=b3.c2;have yb32:=b3.fr 2;go_wp2;rw[hD.out];exact vF (d:=(jq D)) rfl rfl rfl rfl (b3.set _ _ _ _ _) rfl (b3.rm h5 _ _ _ _ _) (jg.qL hE aC _ _ _ _ _)
   .have hD:=anq (HS2.out hn aC);have d0:decide (ky x y<0)=false:=by unfold ky;rw[aY im];split<;>rfl
    have HSb:=anq (λw A c B d (h:Sl w A c (gS x)) (k:Sl w B d (gS y))=>N8 A B c d (gS x) (gS y) w h k aC aC (by rw[kf,kf];omega));rw[kf,kf]at HSb;have DN:=bg (mC (eE x y)) tl;have HO:=anq (λw A c (h:Sl w A c (gS (x-y))) (ht:Tb w)=>Df a.neg (x-y) k A c w h aC aC aC ht);have BN:=Ll a.neg (x-y) k DN;have HK:=anq (λw A c (h:Sl w A c (gS (canon a.neg (x-y) k).m))=>Ij (canon a.neg (x-y) k) A c w h aC aC aC);generalize canon a.neg (x-y) k=D at *
    generalize ky x y=q at *
    clear BN HS1 HS2 HS3 hn im DN HA;have nW:=b1.c0;have nX:=b1.c1;have nY:=b1.c2;have sT:=b2.c0;have sU:=b2.c1;have sV:=b2.c2;go_wp2_with fail
    (with_reducible refine(HC.out _ _ _ _ _ hx hy).mono ?_)
    rintro r w2 ⟨rfl,hb⟩;clear nW nX nY sT sU sV;replace hE:=hE.trans hb;replace hs:=hs.below hb;replace hr:=hr.below hb;replace kq:=kq.below hb;replace hx:=hx.below hb;replace hy:=hy.below hb;replace b1:=b1.ext hb;replace b2:=b2.ext hb;replace b3:=b3.ext hb;clear hb;go_wp2_with fail
    (with_reducible refine(HSb.out _ _ _ _ _ hx hy).mono ?_)
    rintro r w3 ⟨A3,c3,rfl,h3,hb⟩;replace hE:=hE.trans hb;replace hs:=hs.below hb;replace hr:=hr.below hb;replace kq:=kq.below hb;replace hx:=hx.below hb;replace hy:=hy.below hb;replace b1:=b1.ext hb;replace b2:=b2.ext hb;replace b3:=b3.ext hb;clear hb;have nW:=b1.c0;have nX:=b1.c1;have nY:=b1.c2;go_wp2_with fail
    (with_reducible refine(HO.out _ _ _ h3 kq).mono ?_)
    rintro r w4 ⟨A_h4,c_h4,rfl,h4,hb⟩;clear nW nX nY;replace hE:=hE.trans hb;replace hs:=hs.below hb;replace hr:=hr.below hb;replace kq:=kq.below hb;replace hx:=hx.below hb;replace hy:=hy.below hb;replace h3:=h3.below hb;replace b1:=b1.ext hb;replace b2:=b2.ext hb;replace b3:=b3.ext hb;clear hb;have nW:=b1.c0;have nX:=b1.c1;have nY:=b1.c2;go_wp2_with fail
    (with_reducible refine(HK.out _ _ _ h4).mono ?_)
    rintro r w5 ⟨A_h5,c_h5,rfl,h5,hb⟩;clear nW nX nY;replace hE:=hE.trans hb;replace hs:=hs.below hb;replace hr:=hr.below hb;replace kq:=kq.below hb;replace hx:=hx.below hb;replace hy:=hy.below hb;replace h3:=h3.below hb;replace h4:=h4.below hb;replace b1:=b1.ext hb;replace b2:=b2.ext hb;replace b3:=b3.ext hb;clear hb;have Hc:=b3.c0;have yb30:=b3.fr 0;have Hd:=b3.c1;have yb31:=b3.fr 1;have He:=b3.c2;have yb32:=b3.fr 2;go_wp2;rw[hD.out];exact vF (d:=(jq D)) rfl rfl rfl rfl (b3.set _ _ _ _ _) rfl (b3.rm h5 _ _ _ _ _) (jg.qL hE aC _ _ _ _ _)
def R6(a b:Dy)(A B:Option Addr)(c d:Nat)(w:World)(hs:Sl w A c (gS a.m))(hr:Sl w B d (gS b.m))(kq:Tb w)(ha:a.gY)(hb:b.gY):
 Calls prog 172 #[DV a A c,DV b B d] w (tI w (jq (iJ a b)) (kp (iJ a b))):=by
 by_cases a0:a.m=0
 .exact ac6 a b A B c d w hs hr kq hb a0
 .by_cases b0:b.m=0
  .exact ac7 a b A B c d w hs kq ha a0 b0
  .exact ac8 a b A B c d w hs hr kq ha hb a0 b0
def R2(a : Dy)(A : Option Addr)(c : Nat)(w : World)(hs : Sl w A c (gS a.m))(ha : a.gY):
    Calls prog 173 #[DV a A c] w (yj w (jo a)) := by
  have HV := anq (λw (h : Sl w A c (gS a.m)) => Iy a A c w h ha);have hl := ha.len;by_cases h0 : a.m=0
  . have hz : Hid (jo a=iq) := by
      show jo a=iq;obtain⟨s,m,e⟩ := a;rcases ha.canon with⟨h1,h2,h3⟩|h1
      . simp only at h1 h2 h3;subst h1 h2 h3;rfl
      . simp only at h0 h1;omega
    have n0 := Od h0;clear h0;have hE := (iC.alloc w (.cells #[.bool a.neg,.slice A ((gS a.m).length) c,.int .i64 a.e] 31)).trans (iC.alloc (w.alloc (.cells #[.bool a.neg,.slice A ((gS a.m).length) c,.int .i64 a.e] 31)) (.cells #[.bool false,.slice none 0 0,.int .i64 0] 31));have b1 := (jg.rG (W := w) (g := w.heap.size) aH a.neg A ((gS a.m).length) c a.e).alloc (.cells #[.bool false,.slice none 0 0,.int .i64 0] 31);have b2 := jg.rG (W := (w.alloc (.cells #[.bool a.neg,.slice A ((gS a.m).length) c,.int .i64 a.e] 31))) (g := w.heap.size+1) aH false none 0 0 0;replace hs := hs.below hE;go_enter func173,ntmps173;go_wp2_with fail
    (with_reducible refine(HV.out _ hs).mono ?_)
    rintro r w1 ⟨rfl,hb⟩;replace hE := hE.trans hb;replace hs := hs.below hb;replace b1 := b1.ext hb;replace b2 := b2.ext hb;clear hb;have nW := b1.c0;have nX := b1.c1;have nY := b1.c2;have sT := b2.c0;have yb20 := b2.fr 0;have sU := b2.c1;have yb21 := b2.fr 1;have sV := b2.c2;have yb22 := b2.fr 2;go_wp2;rw[hz.out];exact yC (d := iq) rfl rfl rfl (b2.set _ _ _ _ _) (by rw[show iq.m=0 from rfl,nU];rfl) (by rw[show iq.m=0 from rfl,nU];exact Sl.nil _) (jg.qL hE aC _ _ _ _ _)
  . have n0 := J6 h0
    have HN := anq (show jo a=⟨!a.neg,a.m,a.e⟩by unfold jo;simp[h0]);have HC := anq (λw (h : Sl w A c (gS a.m)) => Lv A c (gS a.m) w h aC);clear h0;have hE := (iC.alloc w (.cells #[.bool a.neg,.slice A ((gS a.m).length) c,.int .i64 a.e] 31)).trans (iC.alloc (w.alloc (.cells #[.bool a.neg,.slice A ((gS a.m).length) c,.int .i64 a.e] 31)) (.cells #[.bool false,.slice none 0 0,.int .i64 0] 31));have b1 := (jg.rG (W := w) (g := w.heap.size) aH a.neg A ((gS a.m).length) c a.e).alloc (.cells #[.bool false,.slice none 0 0,.int .i64 0] 31);have b2 := jg.rG (W := (w.alloc (.cells #[.bool a.neg,.slice A ((gS a.m).length) c,.int .i64 a.e] 31))) (g := w.heap.size+1) aH false none 0 0 0;replace hs := hs.below hE;go_enter func173,ntmps173;go_wp2_with fail
    (with_reducible refine(HV.out _ hs).mono ?_)
    rintro r w1 ⟨rfl,hb⟩;replace hE := hE.trans hb;replace hs := hs.below hb;replace b1 := b1.ext hb;replace b2 := b2.ext hb;clear hb;have nW := b1.c0;have nX := b1.c1;have nY := b1.c2;clear nW nX nY;have nW := b1.c0;have nX := b1.c1;have nY := b1.c2;go_wp2_with fail;clear nW nX nY;replace hs := hs.drew;replace b1 := b1.drew;replace b2 := b2.drew;replace hE := hE.trans (iC.drew _);go_region_held3 (λw' => w'.cell? ⟨w.heap.size,0,none⟩=some (.bool a.neg)/\w'.cell? ⟨w.heap.size,1,none⟩=some (.slice A ((gS a.m).length) c)/\w'.cell? ⟨w.heap.size,2,none⟩=some (.int .i64 a.e))
      (first|with_reducible exact⟨(b1).c0,(b1).c1,(b1).c2⟩|with_reducible exact⟨(b1.ext jv).c0,(b1.ext jv).c1,(b1.ext jv).c2⟩|with_reducible exact⟨((b1.ext jv).xC (g' := w.heap.size+1) aC _ _ _).c0,((b1.ext jv).xC (g' := w.heap.size+1) aC _ _ _).c1,((b1.ext jv).xC (g' := w.heap.size+1) aC _ _ _).c2⟩)
      (first
        | (go_at_call 92
           (with_reducible refine(HC.out _ hs).mono ?_)
           rintro r wx0 ⟨A_h4,c_h4,rfl,h4,jv⟩;have bz := b2.ext jv;have z0 := bz.c0;have z1 := bz.c1;have z2 := bz.c2;have y0 := bz.fr 0;have y1 := bz.fr 1;have y2 := bz.fr 2))
    replace hE := hE.trans jv;replace hs := hs.below jv;replace b1 := b1.ext jv;replace b2 := b2.ext jv;go_wp2;rw[HN.out];exact yC (d := ⟨!a.neg,a.m,a.e⟩) rfl rfl rfl (bz.set _ _ _ _ _) rfl (bz.rm h4 _ _ _ _ _) (jg.qL hE aC _ _ _ _ _)
def ac5(a b : Dy)(A B : Option Addr)(c d : Nat)(w : World)(hs : Sl w A c (gS a.m))(hr : Sl w B d (gS b.m))(kq : Tb w)(ha : a.gY)(hb : b.gY):
    Calls prog 137 #[DV a A c,DV b B d] w (tI w (jq (iJ a (jo b))) (kp (iJ a (jo b)))) := by
  have HVa := anq (λw (h : Sl w A c (gS a.m)) => Iy a A c w h ha);have HVb := anq (λw (h : Sl w B d (gS b.m)) => Iy b B d w h hb);have HN := anq (λw (h : Sl w B d (gS b.m)) => R2 b B d w h hb);have HS := anq (λw B d (h : Sl w A c (gS a.m)) (k : Sl w B d (gS (jo b).m)) (ht : Tb w) => R6 a (jo b) A B c d w h k ht ha (zf hb));generalize kp (iJ a (jo b))=E at *
  generalize jq (iJ a (jo b))=D at *
  generalize jo b=nb at *
  have hE := ((iC.alloc w (.cells #[.bool a.neg,.slice A ((gS a.m).length) c,.int .i64 a.e] 31)).trans (iC.alloc (w.alloc (.cells #[.bool a.neg,.slice A ((gS a.m).length) c,.int .i64 a.e] 31)) (.cells #[.bool b.neg,.slice B ((gS b.m).length) d,.int .i64 b.e] 31))).trans (iC.alloc ((w.alloc (.cells #[.bool a.neg,.slice A ((gS a.m).length) c,.int .i64 a.e] 31)).alloc (.cells #[.bool b.neg,.slice B ((gS b.m).length) d,.int .i64 b.e] 31)) (.cells #[.bool false,.slice none 0 0,.int .i64 0] 31));have b1 := ((jg.rG (W := w) (g := w.heap.size) aH a.neg A ((gS a.m).length) c a.e).alloc (.cells #[.bool b.neg,.slice B ((gS b.m).length) d,.int .i64 b.e] 31)).alloc (.cells #[.bool false,.slice none 0 0,.int .i64 0] 31);have b2 := (jg.rG (W := (w.alloc (.cells #[.bool a.neg,.slice A ((gS a.m).length) c,.int .i64 a.e] 31))) (g := w.heap.size+1) aH b.neg B ((gS b.m).length) d b.e).alloc (.cells #[.bool false,.slice none 0 0,.int .i64 0] 31);have b3 := jg.rG (W := ((w.alloc (.cells #[.bool a.neg,.slice A ((gS a.m).length) c,.int .i64 a.e] 31)).alloc (.cells #[.bool b.neg,.slice B ((gS b.m).length) d,.int .i64 b.e] 31))) (g := w.heap.size+2) aH false none 0 0 0;replace hs := hs.below hE;replace hr := hr.below hE;replace kq := kq.below hE;go_enter func137,ntmps137;go_wp2_with fail
  (with_reducible refine(HVa.out _ hs).mono ?_)
  rintro r w1 ⟨rfl,hb⟩;replace hE := hE.trans hb;replace hs := hs.below hb;replace hr := hr.below hb;replace kq := kq.below hb;replace b1 := b1.ext hb;replace b2 := b2.ext hb;replace b3 := b3.ext hb;clear hb;have nW := b1.c0;have nX := b1.c1;have nY := b1.c2;have sT := b2.c0;have sU := b2.c1;have sV := b2.c2;go_wp2_with fail
  (with_reducible refine(HVb.out _ hr).mono ?_)
  rintro r w2 ⟨rfl,hb⟩;clear nW nX nY sT sU sV;replace hE := hE.trans hb;replace hs := hs.below hb;replace hr := hr.below hb;replace kq := kq.below hb;replace b1 := b1.ext hb;replace b2 := b2.ext hb;replace b3 := b3.ext hb;clear hb;have nW := b1.c0;have nX := b1.c1;have nY := b1.c2;have sT := b2.c0;have sU := b2.c1;have sV := b2.c2;go_wp2_with fail;clear nW nX nY sT sU sV;replace hs := hs.drew;replace hr := hr.drew;replace kq := kq.drew;replace b1 := b1.drew;replace b2 := b2.drew;replace b3 := b3.drew;replace hE := hE.trans (iC.drew _);go_region_held3 (λw' => w'.cell? ⟨w.heap.size,0,none⟩=some (.bool a.neg)/\w'.cell? ⟨w.heap.size,1,none⟩=some (.slice A ((gS a.m).length) c)/\w'.cell? ⟨w.heap.size,2,none⟩=some (.int .i64 a.e)/\w'.cell? ⟨w.heap.size+1,0,none⟩=some (.bool b.neg)/\w'.cell? ⟨w.heap.size+1,1,none⟩=some (.slice B ((gS b.m).length) d)/\w'.cell? ⟨w.heap.size+1,2,none⟩=some (.int .i64 b.e))
    (first|with_reducible exact⟨(b1).c0,(b1).c1,(b1).c2,(b2).c0,(b2).c1,(b2).c2⟩|with_reducible exact⟨(b1.ext jv).c0,(b1.ext jv).c1,(b1.ext jv).c2,(b2.ext jv).c0,(b2.ext jv).c1,(b2.ext jv).c2⟩|with_reducible exact⟨(b1.ext (jv.trans iQ)).c0,(b1.ext (jv.trans iQ)).c1,(b1.ext (jv.trans iQ)).c2,(b2.ext (jv.trans iQ)).c0,(b2.ext (jv.trans iQ)).c1,(b2.ext (jv.trans iQ)).c2⟩|with_reducible exact⟨((b1.ext (jv.trans iQ)).xC (g' := w.heap.size+2) aC _ _ _).c0,((b1.ext (jv.trans iQ)).xC (g' := w.heap.size+2) aC _ _ _).c1,((b1.ext (jv.trans iQ)).xC (g' := w.heap.size+2) aC _ _ _).c2,((b2.ext (jv.trans iQ)).xC (g' := w.heap.size+2) aC _ _ _).c0,((b2.ext (jv.trans iQ)).xC (g' := w.heap.size+2) aC _ _ _).c1,((b2.ext (jv.trans iQ)).xC (g' := w.heap.size+2) aC _ _ _).c2⟩)
    (first
      | (go_at_call 173
         (with_reducible refine(HN.out _ hr).mono ?_)
         rintro r wx0 ⟨A_h4,c_h4,rfl,h4,jv⟩)
      | (go_at_call 172
         (with_reducible refine(HS.out _ _ _ (hs.below jv) h4 (kq.below jv)).mono ?_)
         rintro r wx1 ⟨A_h5,c_h5,rfl,h5,iQ⟩;have bz := b3.ext (jv.trans iQ);have z0 := bz.c0;have z1 := bz.c1;have z2 := bz.c2;have y0 := bz.fr 0;have y1 := bz.fr 1;have y2 := bz.fr 2))
  replace h4 := h4.below iQ;replace hE := hE.trans (jv.trans iQ);replace hs := hs.below (jv.trans iQ);replace hr := hr.below (jv.trans iQ);replace kq := kq.below (jv.trans iQ);replace b1 := b1.ext (jv.trans iQ);replace b2 := b2.ext (jv.trans iQ);replace b3 := b3.ext (jv.trans iQ);go_wp2;exact vF (d := D) rfl rfl rfl rfl (bz.set _ _ _ _ _) rfl (bz.rm h5 _ _ _ _ _) (jg.qL hE aC _ _ _ _ _)
open Pu
section
variable {f:FuncId} {L M:List Nat} {jT:E}
def Gu(hk:iE L)(hc:∀ (vs:Array Value) (w:World),(callFunc f vs).run prog w = .ok (.enter f vs) w)
 {R:Option Addr->Nat->World->Ending->World->Prop} (H:∀ A c w,Sl w A c L->Tb w->Calls prog f #[.slice A L.length c] w (R A c w))
 (hR:∀ (A:Option Addr) (c:Nat) (B:Nat->Prop) w e w',Sl w A c L->(∀ b,B b->b<w.heap.size/\oM w b)->R A c w e w'->∃ v,e = .returned v/\Below w.heap.size w w'/\ix B (λ_=>True) w' jT v):gR f [gW L] jT:=by
 refine⟨hc,λw B vs hK hB hr=>?_⟩;obtain⟨v1,vs,rfl,h1,hr⟩:=hr.nj;obtain rfl:=hr.rW;obtain⟨A,c,rfl,s1⟩:=zF hk h1;exact(H A c w s1 hK).mono λe w' h=>hR A c B w e w' s1 hB h
def J4(hk:iE L){n:Int}(hc:∀ (vs:Array Value) (w:World),(callFunc f vs).run prog w = .ok (.enter f vs) w)
 {R:Option Addr->Nat->World->Ending->World->Prop} (H:∀ A c w,Sl w A c L->Tb w->Calls prog f #[.slice A L.length c,.int .i64 n] w (R A c w))
 (hR:∀ (A:Option Addr) (c:Nat) (B:Nat->Prop) w e w',Sl w A c L->(∀ b,B b->b<w.heap.size/\oM w b)->R A c w e w'->∃ v,e = .returned v/\Below w.heap.size w w'/\ix B (λ_=>True) w' jT v):gR f [gW L,iP n] jT:=by
 refine⟨hc,λw B vs hK hB hr=>?_⟩;obtain⟨v1,vs,rfl,h1,hr⟩:=hr.nj;obtain⟨v2,vs,rfl,h2,hr⟩:=hr.nj;obtain rfl:=hr.rW;obtain rfl:=ix.kz h2;obtain⟨A,c,rfl,s1⟩:=zF hk h1;exact(H A c w s1 hK).mono λe w' h=>hR A c B w e w' s1 hB h
def Gv(hk:iE L)(hm:iE M)(hc:∀ (vs:Array Value) (w:World),(callFunc f vs).run prog w = .ok (.enter f vs) w)
 {R:World->Ending->World->Prop} (H:∀ A c B d w,Sl w A c L->Sl w B d M->Tb w->Calls prog f #[.slice A L.length c,.slice B M.length d] w (R w))
 (hR:∀ (B:Nat->Prop) w e w',(∀ b,B b->b<w.heap.size/\oM w b)->R w e w'->∃ v,e = .returned v/\Below w.heap.size w w'/\ix B (λ_=>True) w' jT v):gR f [gW L,gW M] jT:=by
 refine⟨hc,λw B vs hK hB hr=>?_⟩;obtain⟨v1,vs,rfl,h1,hr⟩:=hr.nj;obtain⟨v2,vs,rfl,h2,hr⟩:=hr.nj;obtain rfl:=hr.rW;obtain⟨A,c,rfl,s1⟩:=zF hk h1;obtain⟨A',d,rfl,s2⟩:=zF hm h2;exact(H A c A' d w s1 s2 hK).mono λe w' h=>hR B w e w' hB h
end
def GG{L:List Nat}{n:Int}(B:Nat->Prop)(w:World)(e:Ending)(w':World)(hB:∀ b,B b->b<w.heap.size/\oM w b)(h:C0 w L n e w'):∃ v,e = .returned v/\Below w.heap.size w w'/\ix B (λ_=>True) w' (.ig [gW L,iP n]) v:=
 let⟨_,_,h1,h2,h3⟩:=h
 ⟨_,h1,h3,j9.ig (.cons (Bf hB h3 h2) (.cons (.v _) (.nil _ _ _)))⟩
def rl{L:List Nat}(B:Nat->Prop)(w:World)(e:Ending)(w':World)(hB:∀ b,B b->b<w.heap.size/\oM w b)(h:xp w L e w'):∃ v,e = .returned v/\Below w.heap.size w w'/\ix B (λ_=>True) w' (gW L) v:=
 let⟨_,_,h1,h2,h3⟩:=h
 ⟨_,h1,h3,Bf hB h3 h2⟩
def ui(L:List Nat)(hk:iE L):gR 145 [gW L] (gW (iA L)):=
 Gu hk call145 (λA c w h _=>ve A c L w h) λA c B w e w' h hB ⟨h1,h2⟩=>by subst h2;exact⟨_,h1,Below.refl _ _,Bf hB (Below.refl _ _) h.um⟩
def Wk(L:List Nat)(hk:iE L)(hl:(iA L).length<=256):gR 94 [gW L] (.ig [gW (iA L),iP 0]):=
 Gu hk call94 (λA c w h _=>Gk A c L w h hl) λA c B w e w' h hB r=>GG B w e w' hB r
def ahs(L:List Nat)(hk:iE L)(hl:L.length<=100000):gR 142 [gW L] (iP (ia (val L))):=
 Gu hk call142 (λA c w h _=>Wj A c L w h aC) λA c B w e w' h hB ⟨h1,h2⟩=>by subst h2;exact⟨_,h1,Below.refl _ _,.v _⟩
def N4(L M:List Nat)(hk:iE L)(hm:iE M)(hl:L.length<=100000)(ns:M.length<=100000):gR 99 [gW L,gW M] (iP (ky (val L) (val M))):=
 Gv hk hm call99 (λA c B d w h k _=>Gj A B c d L M w h k aC aC) rv
def Wn(m n:Nat)(hl:(gS m).length<=256)(hn:n<=65536)(hf:(gS (m*2^n)).length<=256):gR 149 [gW (gS m),iP (n:Int)] (.ig [gW (gS (m*2^n)),iP 0]):=
 J4 (mH m) call149 (λA c w h _=>Wm A c (gS m) n w h hl hn (by rw[kf];exact hf)) λA c B w e w' h hB r=>by rw[kf]at r;exact GG B w e w' hB r
def JP(m n:Nat)(hl:(gS m).length<=256)(hn:n<=65536):gR 49 [gW (gS m),iP (n:Int)] (.ig [gW (gS (m/2^n)),iP 0]):=
 J4 (mH m) call49 (λA c w h _=>Wp A c (gS m) n w h hl hn) λA c B w e w' h hB r=>by rw[kf]at r;exact GG B w e w' hB r
def JO(m n:Nat)(h1:(gS m).length<=256)(h2:(gS n).length<=256)(hf:(gS (m+n)).length<=256):gR 215 [gW (gS m),gW (gS n)] (.ig [gW (gS (m+n)),iP 0]):=by
 refine Gv (mH m) (mH n) call215 (λA c B d w h k _=>Wi A B c d (gS m) (gS n) w h k h1 h2 (by rw[kf,kf];exact hf)) ?_;rw[kf,kf];exact GG
def Gl(m n:Nat)(h1:(gS m).length<=256)(h2:(gS n).length<=256)(hf:n<=m):gR 216 [gW (gS m),gW (gS n)] (.ig [gW (gS (m-n)),iP 0]):=by
 refine Gv (mH m) (mH n) call216 (λA c B d w h k _=>N8 A B c d (gS m) (gS n) w h k h1 h2 (by rw[kf,kf];exact hf)) ?_;rw[kf,kf];exact GG
def sj(m:Nat)(hl:(gS m).length<=100000):gR 142 [gW (gS m)] (iP (ia m)):=by
 have:=ahs (gS m) (mH m) hl;rwa[kf]at this
def y9(m n:Nat)(hl:(gS m).length<=100000)(ns:(gS n).length<=100000):gR 99 [gW (gS m),gW (gS n)] (iP (ky m n)):=by
 have:=N4 (gS m) (gS n) (mH m) (mH n) hl ns;rwa[kf,kf]at this
def yB(a:Dy)(ha:a.gY):gR 173 [gV a] (gV (jo a)):=D6 call173 (λA c w h _=>R2 a A c w h ha) rd
def mQ(a:Dy)(ha:a.gY):gR 67 [gV a] (iP a.ij):=D6 call67 (λA c w h _=>LG a A c w h ha) rv
def xA(s:Bool)(m:Nat)(e:Int)(hl:(gS m).length<=256)(mn:-32768<=e)(lk:e<=32768)(hd:mB (canon s m e)):gR 50 [bP s,gW (gS m),iP e] (.ig [gV (canon s m e),iP 0]):=by
 refine⟨call50,λw B vs hK hB hr=>?_⟩;obtain⟨v1,vs,rfl,h1,hr⟩:=hr.nj;obtain⟨v2,vs,rfl,h2,hr⟩:=hr.nj;obtain⟨v3,vs,rfl,h3,hr⟩:=hr.nj;obtain rfl:=hr.rW;obtain rfl:=ix.kz h1;obtain rfl:=ix.kz h3;obtain⟨A,c,rfl,s1⟩:=zF (mH m) h2;have:=aha s A c (gS m) e w s1 hl mn lk hK (by rw[kf];exact hd);rw[kf]at this;exact this.mono λe w' h=>GD B w e w' hB h
def w8:E.le (.sl false 1 1 λi j=>[E.v (.int .u32 1)].getD (i*1+j) (.v (.bool false))) (gW (gS 1)):=by
 have e1:gS 1=[1]:=by rw[AM aE,show 1/4294967296=0 by decide,nU]
 rw[e1];refine .sl λi j hi hj=>?_
 obtain rfl:i=0:= aC ;obtain rfl:j=0:= aC ;exact⟨.refl _,rfl⟩
def iu(d:Dy):List E:=[bP d.neg,gW (gS d.m),iP d.e]
def kg(l:List Dy):E:=.sl true l.length 3 λi j=>(iu (l.getD i iq)).getD j .any
def E4(a:Dy):E.le (.sl true 1 3 λi j=>[bP a.neg,gW (gS a.m),iP a.e].getD (i*3+j) (.v (.bool false))) (kg [a]):=.sl λi j hi hj=>by
 obtain rfl:i=0:= aC ;rcases j with _|_|_|j
 .exact ⟨.refl _,rfl⟩
 .exact ⟨.refl _,rfl⟩
 .exact ⟨.refl _,rfl⟩
 .omega
def wJ(a b:Dy):E.le (.sl true 2 3 λi j=>[bP a.neg,gW (gS a.m),iP a.e,bP b.neg,gW (gS b.m),iP b.e].getD (i*3+j) (.v (.bool false))) (kg [a,b]):=.sl λi j hi hj=>by
 obtain rfl|rfl:i=0\/i=1:= aC 
 all_goals
  rcases j with _|_|_|j
  .exact ⟨.refl _,rfl⟩
  .exact ⟨.refl _,rfl⟩
  .exact ⟨.refl _,rfl⟩
  .omega
def nA{n:Nat}(h:n≠0):((n:Int)==0)=false:= aN 
def tw{n:Nat}(h:n=0):((n:Int)==0)=true:=by subst h;rfl
def ahz{n:Nat}(h:n=0):((n:Int) != 0)=false:=by subst h;rfl
def ahA{n:Nat}(h:n≠0):((n:Int) != 0)=true:= aN 
def wa{m:Nat}:(gS m).length=0↔m=0:=by rw[am3,Vx]
def pg{m:Nat}(h:m≠0):(gS m).length≠0:=λq=>h (wa.1 q)
def Fp.Dy.gY.gS{d:Dy}(h:d.gY):(gS d.m).length<=256:=by have:=h.len;omega
end Go.Proofs.YtkdddbdjilcofaaGreatDoor
namespace Go.Proofs.YtkdddbdjilcofaaGreatDoor.Fp
structure Iv where
 lo:Dy
 hi:Dy
 all:Bool
def gU:Iv:=⟨iq,iq,true⟩
def Iv.gY(x:Iv):Prop:=(x.all=true/\x.lo=iq/\x.hi=iq)\/(x.all=false/\x.lo.gY/\x.hi.gY/\iO x.lo x.hi<=0)
def lL:gU.gY:=.inl ⟨rfl,rfl,rfl⟩
def lH(lo:Dy)(e:Int)(hi:Dy)(f:Int):Iv:=if e≠0\/f≠0 then gU else⟨lo,hi,false⟩
def w9(a b:Dy):Dy:=canon (a.neg != b.neg) (a.m*b.m) (a.e+b.e)
def pD(x:Iv):Iv:=if x.all then gU else⟨jo x.hi,jo x.lo,false⟩
def jE(x y:Iv)(p:Nat):Iv:=
 if x.all||y.all then gU else lH (jZ (iJ x.lo y.lo) p false) (jO (iJ x.lo y.lo) p false) (jZ (iJ x.hi y.hi) p true) (jO (iJ x.hi y.hi) p true)
def rJ(x y:Iv)(p:Nat):Iv:=jE x (pD y) p
def ab8{x y:Int}:xx x y<=0↔x<=y:=by
 unfold xx;split
 .constructor<;>intro<;>omega
 .split<;>constructor<;>intro<;>omega
def sK{a b:Dy}{k:Int}(ha:qO a k)(hb:qO b k):iO a b<=0↔a.num k<=b.num k:=by rw[ER ha hb,ab8]
def le_trans{a b c:Dy}(h1:iO a b<=0)(h2:iO b c<=0):iO a c<=0:=by
 obtain⟨k,ka,kb,kc⟩:∃ k:Int,k<=a.e/\k<=b.e/\k<=c.e:=⟨min a.e (min b.e c.e),aC,aC,aC⟩
 rw[sK (.inr ka) (.inr kb)]at h1;rw[sK (.inr kb) (.inr kc)]at h2;rw[sK (.inr ka) (.inr kc)];omega
def Co(a:Dy):iO a a<=0:=by rw[sK (k:=a.e) (.inr (ch _)) (.inr (ch _))];exact ch _
def agA(a b:Dy):iO a b<=0\/iO b a<=0:=by
 obtain⟨k,ka,kb⟩:∃ k:Int,k<=a.e/\k<=b.e:=⟨min a.e b.e,aC,aC⟩
 rw[sK (.inr ka) (.inr kb),sK (.inr kb) (.inr ka)];omega
def ahK{a b:Dy}(h:iO a b<=0):iO (jo b) (jo a)<=0:=by
 obtain⟨k,ka,kb⟩:∃ k:Int,k<=a.e/\k<=b.e:=⟨min a.e b.e,aC,aC⟩
 rw[sK (.inr ka) (.inr kb)]at h;rw[sK (k:=k) (K3 (.inr kb)) (K3 (.inr ka)),Oh,Oh];omega
def akC{a b c d:Dy}(h1:iO a b<=0)(h2:iO c d<=0):iO (iJ a c) (iJ b d)<=0:=by
 obtain⟨k,ka,kb,kc,kd⟩:∃ k:Int,k<=a.e/\k<=b.e/\k<=c.e/\k<=d.e:=⟨min (min a.e b.e) (min c.e d.e),aC,aC,aC,aC⟩
 rw[sK (.inr ka) (.inr kb)]at h1;rw[sK (.inr kc) (.inr kd)]at h2;rw[sK (k:=k) (Hm (.inr ka) (.inr kc)) (Hm (.inr kb) (.inr kd)),Kv (.inr ka) (.inr kc),Kv (.inr kb) (.inr kd)];omega
def Ir(m:Nat)(e:Int)(p:Nat):
 kV m e false p false*2^jL m e p<=m/\m<=kV m e false p true*2^jL m e p:=by
 have h:=cB m (2^jL m e p);have hr:=bE m (bj (n:=jL m e p) (aE:0<2));unfold kV;simp only[bB,false_and,bk,bS,false_or,true_and];rw[bD];generalize m/2^jL m e p=q at *
 generalize 2^jL m e p=P at *
 refine⟨aC,?_⟩;rw[bR,bD q];split
 .omega
 .omega
def Lm{s:Bool}{m n:Nat}{e f K:Int}(h1:K<=e)(h2:K<=f)(h:m*2^(e-K).toNat<=n*2^(f-K).toNat):
 (s=false->iO (canon s m e) (canon s n f)<=0)/\(s=true->iO (canon s n f) (canon s m e)<=0):=by
 constructor
 .rintro rfl;rw[sK (zU h1) (zU h2),WH h1,WH h2]
  exact_mod_cast h
 .rintro rfl;rw[sK (zU h2) (zU h1),CA h1,CA h2];simp only[bw];omega
def RK(neg:Bool)(m:Nat)(e:Int)(p:Nat)(up:Bool)(he:jN neg m e false p up=0)(_hp:1<=p):
 (up=true->iO (canon neg m e) (jY neg m e false p up)<=0)/\(up=false->iO (jY neg m e false p up) (canon neg m e)<=0):=by
 rw[EU]at he;obtain⟨c1,c2⟩:=Ir m e p;have e1:(e-e).toNat=0:= aC ;have e2:(e+(jL m e p:Int)-e).toNat=jL m e p:= aC ;have hk:e<=e+(jL m e p:Int):= aC ;have A:=λs:Bool=>Lm (s:=s) (m:=kV m e false p false) (n:=m) (e:=e+jL m e p) (f:=e) (K:=e) hk (ch _) (by rw[e1,e2];simpa using c1)
 have B:=λs:Bool=>Lm (s:=s) (m:=m) (n:=kV m e false p true) (e:=e) (f:=e+jL m e p) (K:=e) (ch _) hk (by rw[e1,e2];simpa using c2)
 unfold jY;by_cases ho:mg m e false p (neg != up)=true
 .have hn:¬(neg != up)=true:=λh=>he ⟨ho,h⟩
  rw[aZ ho,aY hn];have Ui:neg=up:=by cases neg<;>cases up<;>simp at hn ⊢
  have mh:(neg != up)=false:=by rw[Ui];simp
  rw[mh]at ho;unfold mg at ho;simp only[bF,b9]at ho;obtain⟨o1,o2⟩:=ho;have hq:=rK o1;have I1:=nR o1;obtain⟨K,k1,k2⟩:∃ K:Int,K<=e/\K<=16384-p:=⟨min e (16384-p),aC,aC⟩
  have C:(2^p-1)*2^((16384:Int)-p-K).toNat<=m*2^(e-K).toNat:=by
   have h1:2^(ia (kV m e false p false)-1)*2^jL m e p<=m:=bg (bK _ hq) c1;have h2:=bK (2^(e-K).toNat) h1;rw[<-bh,<-bh]at h2;refine bg (bK _ (eE _ _)) (bg ?_ h2);rw[<-bh];exact bI aE aC 
  have D:=Lm (s:=neg) k2 k1 C;subst Ui;cases neg
  .exact ⟨λh=>absurd h aE,λ_=>D.1 rfl⟩
  .exact ⟨λ_=>D.2 rfl,λh=>absurd h aE⟩
 .rw [aY ho];cases neg<;>cases up
  .exact ⟨λh=>absurd h aE,λ_=>(A false).1 rfl⟩
  .exact ⟨λ_=>(B false).1 rfl,λh=>absurd h aE⟩
  .exact ⟨λh=>absurd h aE,λ_=>(B true).2 rfl⟩
  .exact ⟨λ_=>(A true).2 rfl,λh=>absurd h aE⟩
def Xn{d:Dy}(hd:d.nc)(p:Nat)(hp:1<=p):
 (jO d p true=0->iO d (jZ d p true)<=0)/\(jO d p false=0->iO (jZ d p false) d<=0):=by
 have h:=hd.De;constructor
 .intro he;have:=(RK d.neg d.m d.e p true he hp).1 rfl;rwa[h]at this
 .intro he;have:=(RK d.neg d.m d.e p false he hp).2 rfl;rwa[h]at this
def qP{x y:Iv}(hx:x.gY)(hy:y.gY){p:Nat}(hp:1<=p)(gX:p<=4096):(jE x y p).gY:=by
 unfold jE;rcases hx with⟨h,_⟩|⟨h1,h2,h3,h4⟩
 .rw [h];exact lL
 .rcases hy with⟨h,_⟩|⟨k1,k2,k3,k4⟩
  .rw [h,h1];exact lL
  .rw [h1,k1];simp only[gH,bB,bk];unfold lH;by_cases he:jO (iJ x.lo y.lo) p false≠0\/jO (iJ x.hi y.hi) p true≠0
   .rw [aZ he];exact lL
   .rw [aY he];have e1:jO (iJ x.lo y.lo) p false=0:= aC ;have e2:jO (iJ x.hi y.hi) p true=0:= aC ;refine .inr ⟨rfl,sZ _ _ _ _ _ _ hp gX,sZ _ _ _ _ _ _ hp gX,?_⟩;exact le_trans ((Xn (By h2.canon k2.canon) p hp).2 e1) (le_trans (akC h4 k4) ((Xn (By h3.canon k3.canon) p hp).1 e2))
def Cw{x:Iv}(hx:x.gY):(pD x).gY:=by
 unfold pD;rcases hx with⟨h,_⟩|⟨h1,h2,h3,h4⟩
 .rw [aZ h];exact lL
 .rw [h1];exact .inr ⟨rfl,zf h3,zf h2,ahK h4⟩
def jc(a b:Dy):Dy:=if iO b a<0 then b else a
def iZ(a b:Dy):Dy:=if 0<iO b a then b else a
def F8(a b:Dy):iO (jc a b) a<=0:=by
 unfold jc;split
 .omega
 .exact Co a
def VV(a b:Dy):iO (jc a b) b<=0:=by
 unfold jc;split
 .exact Co b
 .rcases agA a b with h|h
  .exact h
  .have h0:iO b a=0:= aC ;obtain⟨k,ka,kb⟩:∃ k:Int,k<=a.e/\k<=b.e:=⟨min a.e b.e,aC,aC⟩
   rw[ER (k:=k) (.inr kb) (.inr ka)]at h0;rw[sK (.inr ka) (.inr kb)];unfold xx at h0;split at h0
   .omega
   .split at h0<;>omega
def Dg(a b:Dy):iO a b = -iO b a:=by
 obtain⟨k,ka,kb⟩:∃ k:Int,k<=a.e/\k<=b.e:=⟨min a.e b.e,aC,aC⟩
 rw[ER (k:=k) (.inr ka) (.inr kb),ER (k:=k) (.inr kb) (.inr ka)];unfold xx;split<;>split<;>(try split)<;>omega
def DX(a b:Dy):iO a (iZ a b)<=0:=by
 unfold iZ;split
 .rw [Dg];omega
 .exact Co a
def VU(a b:Dy):iO b (iZ a b)<=0:=by
 unfold iZ;split
 .exact Co b
 .omega
def w7{a b:Dy}(ha:a.gY)(hb:b.gY):(jc a b).gY:=by unfold jc;split;exact hb;exact ha
def ug{a b:Dy}(ha:a.gY)(hb:b.gY):(iZ a b).gY:=by unfold iZ;split;exact hb;exact ha
def oX(D : Dy->Dy->Bool->Dy)(E : Dy->Dy->Bool->Int)(x y : Iv) : Iv:=
 if(E x.lo y.lo false=0/\E x.lo y.lo true=0)/\(E x.lo y.hi false=0/\E x.lo y.hi true=0)/\(E x.hi y.lo false=0/\E x.hi y.lo true=0)/\(E x.hi y.hi false=0/\E x.hi y.hi true=0)then
  ⟨jc (jc (jc (D x.lo y.lo false) (D x.lo y.hi false)) (D x.hi y.lo false)) (D x.hi y.hi false),
   iZ (iZ (iZ (D x.lo y.lo true) (D x.lo y.hi true)) (D x.hi y.lo true)) (D x.hi y.hi true),false⟩
 else gU
def S4{D:Dy->Dy->Bool->Dy}{E:Dy->Dy->Bool->Int}{x y:Iv}(hv:∀ a b up,(D a b up).gY)
 (hle:E x.lo y.lo false=0->E x.lo y.lo true=0->iO (D x.lo y.lo false) (D x.lo y.lo true)<=0):(oX D E x y).gY:=by
 unfold oX;split
 .rename_i h;refine .inr ⟨rfl,w7 (w7 (w7 (hv _ _ _) (hv _ _ _)) (hv _ _ _)) (hv _ _ _),ug (ug (ug (hv _ _ _) (hv _ _ _)) (hv _ _ _)) (hv _ _ _),?_⟩;refine le_trans (F8 _ _) (le_trans (F8 _ _) (le_trans (F8 _ _) (le_trans (hle h.1.1 h.1.2) ?_)));exact le_trans (DX _ _) (le_trans (DX _ _) (DX _ _))
 .exact lL
def iz(x y:Iv)(p:Nat):Iv:=
 if x.all||y.all then gU else oX (λa b up=>jZ (w9 a b) p up) (λa b up=>jO (w9 a b) p up) x y
def og(x y:Iv){p:Nat}(hp:1<=p)(gX:p<=4096):(iz x y p).gY:=by
 unfold iz;split
 .exact lL
 .exact S4 (λ_ _ _=>sZ _ _ _ _ _ _ hp gX) (λh1 h2=>RJ _ _ _ _ _ h1 h2)
def kX(a b:Dy)(p:Nat)(g:Nat):Nat:=p+g+ia b.m-ia a.m
def o0(a b:Dy)(p:Nat)(up:Bool):Dy:=
 if a.m=0 then iq else jY (a.neg != b.neg) (a.m*2^kX a b p 2/b.m) (a.e-b.e-kX a b p 2) (decide (a.m*2^kX a b p 2%b.m≠0)) p up
def qv(a b:Dy)(p:Nat)(up:Bool):Int:=
 if a.m=0 then 0 else jN (a.neg != b.neg) (a.m*2^kX a b p 2/b.m) (a.e-b.e-kX a b p 2) (decide (a.m*2^kX a b p 2%b.m≠0)) p up
def LB{a b:Dy}(a0:a.m≠0)(b0:b.m≠0)(p g:Nat)(hg:2<=g):p<ia (a.m*2^kX a b p g/b.m):=by
 have h1:=rK a0;have h2:=ql b.m;have ha:=nR a0;have h3:2^p<=a.m*2^kX a b p g/b.m:=by
  rw[cP aC];refine bg (cE _ (du h2)) (bg ?_ (bK _ h1));rw[<-bh,<-bh];exact bI aE (by unfold kX;omega)
 exact wb.2 h3
def acR{a b:Dy}(a0:a.m≠0)(b0:b.m≠0)(p:Nat)(up:Bool):
 jY (a.neg != b.neg) (a.m*2^kX a b p 3/b.m) (a.e-kX a b p 3-b.e) (decide (a.m*2^kX a b p 3%b.m≠0)) p up=o0 a b p up /\
 jN (a.neg != b.neg) (a.m*2^kX a b p 3/b.m) (a.e-kX a b p 3-b.e) (decide (a.m*2^kX a b p 3%b.m≠0)) p up=qv a b p up:=by
 obtain⟨d,hd⟩:∃ d,kX a b p 3=kX a b p 2+d:=⟨kX a b p 3-kX a b p 2,by unfold kX;omega⟩
 have hb:=LB a0 b0 p 2 aE;unfold o0 qv;rw[aY a0,aY a0,hd];generalize kX a b p 2=k at *
 have hB:0<b.m:= aC ;have hP:=bj (n:=d) (aE:0<2);have e1:a.m*2^(k+d)/b.m/2^d=a.m*2^k/b.m:=by
  rw[dp,bh,<-bA,Nat.mul_div_mul_right _ _ hP]
 have e2:(decide (a.m*2^(k+d)%b.m≠0)||decide (a.m*2^(k+d)/b.m%2^d≠0))=decide (a.m*2^k%b.m≠0):=by
  have h1:a.m*2^(k+d)%(b.m*2^d)=a.m*2^k%b.m*2^d:=by rw[bh,<-bA,Nat.mul_mod_mul_right]
  have h2:a.m*2^(k+d)%(b.m*2^d)=a.m*2^(k+d)%b.m+b.m*(a.m*2^(k+d)/b.m%2^d):=Nat.mod_mul;rw[h1]at h2;rw[dz];simp only[dx,b9];constructor
  .intro h h0;rw[h0,cD]at h2;rcases h with h|h
   .omega
   .have:=fz hB (dL h);omega
  .intro h;apply bL;intro hn;have n1:a.m*2^(k+d)%b.m=0:=by
    apply bL;intro h';exact hn (.inl h')
   have n2:a.m*2^(k+d)/b.m%2^d=0:=by
    apply bL;intro h';exact hn (.inr h')
   rw[n1,n2,cI]at h2;have:=fz (dL h) hP;omega
 have h:=Iq (N:=a.m*2^(k+d)/b.m) (E:=a.e-((k+d:Nat):Int)-b.e) (more:=decide (a.m*2^(k+d)%b.m≠0)) (d:=d) (p:=p) (a.neg != b.neg) up (by rw[e1];exact hb);rw[e1,e2,(aC:a.e-((k+d:Nat):Int)-b.e+(d:Int)=a.e-b.e-(k:Int))]at h;exact⟨h.1.symm,h.2.symm⟩
def nn(x:Iv):Int:=if x.all then 0 else if 0<x.lo.iK then 1 else if x.hi.iK<0 then -1 else 0
def jj(x y:Iv)(p:Nat):Iv:=
 if x.all||y.all||decide (nn y=0)then gU else oX (λa b up=>o0 a b p up) (λa b up=>qv a b p up) x y
def qc(x y:Iv){p:Nat}(hp:1<=p)(gX:p<=4096):(jj x y p).gY:=by
 unfold jj;split
 .exact lL
 .refine S4 (λa b up=>?_) (λh1 h2=>?_)
  .unfold o0;split
   .exact rn
   .exact sZ _ _ _ _ _ _ hp gX
  .unfold o0 qv at *
   split
   .exact Co _
   .rename_i h;rw[aY h]at h1 h2;exact RJ _ _ _ _ _ h1 h2
def lN(d:Dy):Dy:=⟨false,d.m,d.e⟩
def yo{d:Dy}(h:d.gY):(lN d).gY:=by
 refine⟨?_,h.range⟩;rcases h.canon with⟨h1,_,h3⟩|h1
 .exact .inl ⟨h1,rfl,h3⟩
 .exact .inr h1
def Zw(d:Dy)(k:Int):(lN d).num k=(d.jK k:Int):=by unfold Dy.num lN Dy.jK;simp
def kB(x:Iv):Dy:=iZ (lN x.lo) (lN x.hi)
def oI(x:Iv):Dy:=if nn x=0 then iq else jc (lN x.lo) (lN x.hi)
def jQ(x:Iv):Iv:=if x.all then gU else⟨oI x,kB x,false⟩
def ml(d:Dy):Iv:=⟨d,d,false⟩
def vi{d:Dy}(h:d.gY):(ml d).gY:=.inr ⟨rfl,h,h,Co d⟩
def F6{x:Iv}(h1:x.lo.gY)(h2:x.hi.gY):(kB x).gY:=ug (yo h1) (yo h2)
def Ho{x:Iv}(h:x.gY):(jQ x).gY:=by
 unfold jQ;rcases h with⟨h,_⟩|⟨h,h1,h2,_⟩
 .rw [h];exact lL
 .rw [h];have v1:=yo h1;have v2:=yo h2;refine .inr ⟨rfl,?_,F6 h1 h2,?_⟩
  .show (oI x).gY;unfold oI;split
   .exact rn
   .exact w7 v1 v2
  .show iO (oI x) (kB x)<=0;unfold oI;split
   .refine le_trans (b:=lN x.lo) ?_ (DX _ _);rw[sK (a:=iq) (b:=lN x.lo) (k:=x.lo.e) (.inl rfl) (.inr (ch _)),wj rfl,Zw];omega
   .exact le_trans (F8 _ _) (DX _ _)
def iS(n:Int):Dy:=jW n 0
def jk(n:Int):Iv:=ml (iS n)
end Go.Proofs.YtkdddbdjilcofaaGreatDoor.Fp
namespace Go.Proofs.YtkdddbdjilcofaaGreatDoor
open Go.RowKit Fp Pu
def iF(x:Iv):List E:=[bP x.lo.neg,gW (gS x.lo.m),iP x.lo.e,bP x.hi.neg,gW (gS x.hi.m),iP x.hi.e,bP x.all]
def ib(x:Iv):E:=.agg (iF x)
def gZ(l:List Iv):E:=.sl true l.length 7 λi j=>(iF (l.getD i gU)).getD j .any
def kS(m:List (List Iv)):E:=.sl true m.length 1 λi _=>gZ (m.getD i [])
def AJ(x y:Iv):Bool:=y.all||(!x.all&&(decide (iO y.lo x.lo<=0)&&decide (iO x.hi y.hi<=0)))
def Cy:E.le (.v (.slice none 0 0)) (gW (gS 0)):=by
 have:gW (gS 0) = .sl false 0 1 λi _=>.v (.int .u32 (((gS 0).getD i 0:Nat):Int)):=by unfold gW;rw[nU];rfl
 rw[this];exact .nil _ _ _
def KO:E.le (.agg [bP false,.v (.slice none 0 0),iP 0,bP false,.v (.slice none 0 0),iP 0,bP true]) (ib gU):=
 .agg (.cons (.refl _) (.cons Cy (.cons (.refl _) (.cons (.refl _) (.cons Cy (.cons (.refl _) (.cons (.refl _) .nil)))))))
structure RD where
 neg:Bool
 L:List Nat
 e:Int
structure RI where
 lo:RD
 hi:RD
 all:Bool
def OM(d:RD):List E:=[bP d.neg,gW d.L,iP d.e]
def kN(d:RD):E:=.agg (OM d)
def zw(x:RI):List E:=[bP x.lo.neg,gW x.lo.L,iP x.lo.e,bP x.hi.neg,gW x.hi.L,iP x.hi.e,bP x.all]
def xf(x:RI):E:=.agg (zw x)
def Ee:RD:=⟨false,[],0⟩
def nP:RI:=⟨Ee,Ee,true⟩
def kO(l:List RI):E:=.sl true l.length 7 λi j=>(zw (l.getD i nP)).getD j .any
structure RD.ke(d:RD):Prop where
 ok:iE d.L
 lo:-9223372036854775808<=d.e
 hi:d.e<=9223372036854775807
structure RI.ke(x:RI):Prop where
 lo:x.lo.ke
 hi:x.hi.ke
def XB:Ee.ke:=⟨iE.nil,aE,aE⟩
def XA:nP.ke:=⟨XB,XB⟩
def RD.dy(d:RD):Dy:=⟨d.neg,val d.L,d.e⟩
def RD.Ok(d:RD):Prop:=oC d.neg d.L d.e
def RD.Zero(d:RD):Prop:=d.neg=false/\d.L=[]/\d.e=0
def RI.iv(x:RI):Iv:=⟨x.lo.dy,x.hi.dy,x.all⟩
def RI.Ok(x:RI):Prop:=(x.all=true/\x.lo.Zero/\x.hi.Zero)\/(x.all=false/\x.lo.Ok/\x.hi.Ok/\iO x.lo.dy x.hi.dy<=0)
def Fp.Dy.raw(d:Dy):RD:=⟨d.neg,gS d.m,d.e⟩
def Fp.Iv.raw(x:Iv):RI:=⟨x.lo.raw,x.hi.raw,x.all⟩
def RD.Ok.valid{d:RD}(h:d.Ok):d.dy.gY:=h.2.2
def RD.Ok.eq{d:RD}(h:d.Ok)(g:d.ke):d.dy.raw=d:=by
 obtain⟨n,L,e⟩:=d;show RD.mk n (gS (val L)) e=_;rw[<-oC.E7 h g.ok]
def RD.Zero.eq{d:RD}(h:d.Zero):d.dy=iq/\d.dy.raw=d:=by
 obtain⟨n,L,e⟩:=d;obtain⟨rfl,rfl,rfl⟩:=h;refine⟨rfl,?_⟩;show RD.mk false (gS 0) 0=_;rw[nU]
def RI.Ok.valid{x:RI}(h:x.Ok):x.iv.gY:=by
 rcases h with⟨h1,h2,h3⟩|⟨h1,h2,h3,h4⟩
 .exact .inl ⟨h1,h2.eq.1,h3.eq.1⟩
 .exact .inr ⟨h1,h2.valid,h3.valid,h4⟩
def RI.Ok.eq{x:RI}(h:x.Ok)(g:x.ke):x.iv.raw=x:=by
 obtain⟨lo,hi,a⟩:=x;rcases h with⟨h1,h2,h3⟩|⟨h1,h2,h3,h4⟩
 .show RI.mk lo.dy.raw hi.dy.raw a=_;rw[h2.eq.2,h3.eq.2]
 .show RI.mk lo.dy.raw hi.dy.raw a=_;rw[h2.eq g.lo,h3.eq g.hi]
def Fp.Dy.OJ(d:Dy):d.raw.dy=d:=by show Dy.mk d.neg (val (gS d.m)) d.e=d;rw[kf]
def R3(d:Dy):kN d.raw=gV d:=rfl
def Nw(x:Iv):xf x.raw=ib x:=rfl
def Fp.Dy.gY.IQ{d:Dy}(h:d.gY):d.raw.ke:=⟨mH _,by have:=h.exp;show -9223372036854775808<=d.e;omega,by have:=h.exp;show d.e<=9223372036854775807;omega⟩
def Fp.Dy.gY.JY{d:Dy}(h:d.gY):d.raw.Ok:=h.xz
def Fp.Iv.gY.JY{x:Iv}(h:x.gY):x.raw.Ok:=by
 rcases h with⟨h1,h2,h3⟩|⟨h1,h2,h3,h4⟩
 .refine .inl ⟨h1,?_,?_⟩
  .show x.lo.raw.Zero;rw[h2];exact⟨rfl,nU,rfl⟩
  .show x.hi.raw.Zero;rw[h3];exact⟨rfl,nU,rfl⟩
 .refine .inr ⟨h1,h2.JY,h3.JY,?_⟩;show iO x.lo.raw.dy x.hi.raw.dy<=0;rw[Dy.OJ,Dy.OJ];exact h4
def Fp.Iv.gY.j8{x:Iv}(h:x.gY):x.lo.gY/\x.hi.gY:=by
 rcases h with⟨_,h2,h3⟩|⟨_,h2,h3,_⟩
 .rw [h2,h3];exact⟨rn,rn⟩
 .exact ⟨h2,h3⟩
def Fp.Iv.gY.IQ{x:Iv}(h:x.gY):x.raw.ke:=⟨h.j8.1.IQ,h.j8.2.IQ⟩
def alS:gU.raw=nP:=by
 show RI.mk iq.raw iq.raw true=RI.mk Ee Ee true;have:iq.raw=Ee:=by show RD.mk false (gS 0) 0=_;rw[nU];rfl
 rw[this]
def CF(l:List Iv):List RI:=l.map Iv.raw
def aef(l:List Iv)(i:Nat):(CF l).getD i nP=(l.getD i gU).raw:=by
 unfold CF;rw[bd,bd,cr];cases l[i]? with
 |none=>exact alS.symm
 |some x=>rfl
def Vb(l:List Iv):kO (CF l)=gZ l:=by
 unfold kO gZ;rw[show(CF l).length=l.length by simp[CF]];congr 1;funext i j;rw[aef];rfl
def vE(d:RD)(g:d.ke)(b:Bool)(hb:b=true↔d.Ok):gR 45 [kN d] (bP b):=by
 refine⟨call45,λw B vs hK hB hr=>?_⟩;obtain⟨v1,vs,rfl,h1,hr⟩:=hr.nj;obtain rfl:=hr.rW;obtain⟨us,rfl,q⟩:=ix.C6 (show ix _ _ w (.agg _) v1 from h1);obtain⟨u1,us,rfl,k1,q⟩:=q.nj;obtain⟨u2,us,rfl,k2,q⟩:=q.nj;obtain⟨u3,us,rfl,k3,q⟩:=q.nj;obtain rfl:=q.rW;obtain rfl:=ix.kz k1;obtain rfl:=ix.kz k3;obtain⟨A,c,rfl,hs⟩:=zF g.ok k2;exact(BD d.neg A c d.L d.e w b hs g.lo g.hi hb).mono λe w' h=>rv B w e w' hB h
def vc{a b:Nat}(h:a=b):((a:Int) != (b:Int))=false:=by simp[h]
def N6{a b:Nat}(h:a=b):((a:Int)==b)=true:=by simp[h]
open Classical in
noncomputable def zi(x:RI):Bool:=decide x.Ok
def AU{x:RI}:zi x=true↔x.Ok:=by unfold zi;simp
open Classical in
open Go.ChangeShapes Go.WideShapes Go.ChangeAt
abbrev mq:Nat->Prop:=λ_=>False
def abT{W:World}{a:Addr}{v:Value}(h:W.cell? a=some v):a.spot=none:=by
 obtain⟨b,o,s⟩:=a;rcases s with _|q
 .rfl
 .exfalso;unfold World.cell? at h;split at h<;>simp at h
def OU{W:World}{a:Addr}{len cap sz:Nat}{nl:Bool}(el:Nat->Nat->E)(hl:len<=cap)(hm:cap<=maxLen)(my:0<sz)
 (h1:∀ i j,i<len->j<sz->(el i j).one=true/\(nl=true->(el i j).mS=true)/\(el i j).nr 2=true)
 (hx:∀ i,i<len->∃ cs,W.cells? 0 (a.add (i*sz)) sz=some cs/\∀ j,j<sz->∃ v,cs[j]? = some v/\ix mq mq W (el i j) v):
 ix mq mq W (.sl nl len sz el) (.slice (some a) len cap):=by
 have Uf:cap<=9223372036854775807:=by simpa[maxLen]using hm
 have cellAt:∀ i j,i<len->j<sz->∃ v,W.cell? (a.add (i*sz+j))=some v/\ix mq mq W (el i j) v:=by
  intro i j hi hj;obtain⟨cs,h2,h3⟩:=hx i hi;obtain⟨v,h4,h5⟩:=h3 j hj;refine⟨v,?_,h5⟩;rw[<-Deep.add_add,(World.cells?_some h2).2.2 j hj,h4]
 by_cases h0:len=0
 .subst h0;exact .sl nl 0 sz el _ cap (λ_ _=>.bool false) aC Uf (λh=>by cases h) (λi j hi=>absurd hi aC) (λi j hi=>absurd hi aC) (λi j hi=>absurd hi aC) (λi j hi=>absurd hi aC)
 .obtain ⟨b,o,s⟩:=a;have hs:s=none:=by
   obtain⟨v,h2,_⟩:=cellAt 0 0 aC my;rw[cD,bZ,show(⟨b,o,s⟩:Addr).add 0=⟨b,o,s⟩from rfl]at h2;exact abT h2
  subst hs;have cell2:∀ i j,∃ v:Value,i<len->j<sz->W.cell? ⟨b,o+(i*sz+j),none⟩=some v/\ix mq mq W (el i j) v:=by
   intro i j;by_cases hi:i<len
   .by_cases hj:j<sz
    .obtain ⟨v,h2,h3⟩:=cellAt i j hi hj;rw[Bp]at h2;exact⟨v,λ_ _=>⟨h2,h3⟩⟩
    .exact ⟨.bool false,λ_ h=>absurd h hj⟩
   .exact ⟨.bool false,λh=>absurd h hi⟩
  let f:Nat->Nat->Value:=λi j=>Classical.choose (cell2 i j)
  have hf:∀ i j,i<len->j<sz->W.cell? ⟨b,o+(i*sz+j),none⟩=some (f i j)/\ix mq mq W (el i j) (f i j):=λi j=>cK (cell2 i j)
  refine .sl nl len sz el _ cap f hl Uf (λh=>by cases h) (λi j hi hj=>?_) (λi j hi hj=>(h1 i j hi hj).2.2) (λi j hi hj=>?_) (λi j hi hj=>(hf i j hi hj).2)
  .exact ⟨(hf i j hi hj).2.one (h1 i j hi hj).1,λq=>(hf i j hi hj).2.mS ((h1 i j hi hj).2.1 q)⟩
  .exact ⟨b,o,rfl,id,block_lt_of_cell (hf i j hi hj).1,(hf i j hi hj).1⟩
def PO(W:World)(d:RD)(cs:List Value):Prop:=d.ke/\cs.length=3/\∀ j,j<3->∃ v,cs[j]? = some v/\ix mq mq W ((OM d).getD j .any) v
def KU(W:World)(x:RI)(cs:List Value):Prop:=x.ke/\cs.length=7/\∀ j,j<7->∃ v,cs[j]? = some v/\ix mq mq W ((zw x).getD j .any) v
section
variable {H:Type} {enc:TypeId×Value->H} {W:World} {fuel:Nat} {cs:List Value} {x:DataW H×List MemPlace}
def J1(h:DataW.trod enc prog W 0 (λ_=>true) true fuel 31 cs=some x)(im:∀ p ∈ x.2,p.block<W.heap.size):∃ d,PO W d cs:=by
 obtain⟨s,A,L,cap,e,rfl,vW,h1,h2⟩:=ah4 h im;refine⟨⟨s,L,e⟩,⟨vW.ok,h1,h2⟩,rfl,λj hj=>?_⟩;rcases j with _|_|_|j
 .exact ⟨_,rfl,.v _⟩
 .exact ⟨_,rfl,Bf (w:=W) (λ_ h=>h.elim) (.refl _) vW⟩
 .exact ⟨_,rfl,.v _⟩
 .omega
def ah8(h:DataW.trod enc prog W 0 (λ_=>true) true fuel 44 cs=some x)(im:∀ p ∈ x.2,p.block<W.heap.size):∃ d,KU W d cs:=by
 obtain⟨xs,n,rfl,rfl,hl,mF,hf⟩:=DataW.trod_struct underlying44 h;have hC:prog.cellsOf 44=7:= aF ;have hD:prog.cellsOf 31=3:= aF ;have hB:prog.cellsOf 4=1:= aF ;rw[hC]at hl;obtain⟨c0,c1,c2,c3,c4,c5,c6,rfl⟩:=agS hl;have h0:=hf 0 _ rfl;have h1:=hf 1 _ rfl;have h2:=hf 2 _ rfl;simp only[eu,ev,dC]at h0 h1 h2;simp only[hD,hB,ew,ey,dU,ez]at h0 h1 h2;rw[bt (by rw[mF];decide)]at h0 h1 h2;obtain⟨lo,g1,_,k1⟩:=J1 h0 (λp hp=>im p (dG.2 ⟨_,cz _,hp⟩));obtain⟨hi,g2,_,k2⟩:=J1 h1 (λp hp=>im p (dG.2 ⟨_,cz _,hp⟩));obtain⟨al,e2,_⟩:=DataW.trod_bool underlying4 h2;simp at e2;subst e2;refine⟨⟨lo,hi,al⟩,⟨g1,g2⟩,rfl,λj hj=>?_⟩;rcases j with _|_|_|_|_|_|_|j
 .exact k1 0 aE 
 .exact k1 1 aE 
 .exact k1 2 aE 
 .exact k2 0 aE 
 .exact k2 1 aE 
 .exact k2 2 aE 
 .exact ⟨_,rfl,.v _⟩
 .omega
def ajf(x:RI)(j:Nat)(hj:j<7):((zw x).getD j .any).one=true/\(((zw x).getD j .any).mS=true)/\((zw x).getD j .any).nr 2=true:=by
 rcases j with _|_|_|_|_|_|_|j
 all_goals first|exact⟨rfl,rfl,rfl⟩|omega
def WN(h:DataW.trod enc prog W 0 (λ_=>true) true fuel 26 cs=some x)(im:∀ p ∈ x.2,p.block<W.heap.size):
  ∃ l v,cs=[v]/\(∀ y,y ∈ l->y.ke)/\ix mq mq W (kO l) v:=by
 have hC:prog.cellsOf 44=7:= aF ;rcases Deep.open_slice underlying26 h with⟨rfl,_⟩|⟨a,len,cap,m,n,D,Pl,rfl,hb,hl,hm,sD,rfl,hx⟩
 .exact ⟨[],_,rfl,(λy hy=>by cases hy),.sl true 0 7 _ none 0 (λ_ _=>.bool false) (bc _) aE (λ_=>rfl) (λi j hi=>absurd hi (bn i)) (λi j hi=>absurd hi (bn i)) (λi j hi=>absurd hi (bn i)) (λi j hi=>absurd hi (bn i))⟩
 .simp only[bw]at sD;subst sD;have ex:∀ i,∃ y:RI,i<len->∃ cs',W.cells? 0 (a.add (i*7)) 7=some cs'/\KU W y cs':=by
   intro i;by_cases hi:i<len
   .obtain ⟨cs',h1,h2⟩:=hx i aC ;rw[hC]at h1;obtain⟨y,hy⟩:=ah8 h2 (λp hp=>im p (List.mem_append_right _ (dG.2 ⟨i,bW.2 aC,hp⟩)));exact⟨y,λ_=>⟨cs',h1,hy⟩⟩
   .exact ⟨nP,λh=>absurd h hi⟩
  let X:Nat->RI:=λi=>Classical.choose (ex i)
  have hX:∀ i,i<len->∃ cs',W.cells? 0 (a.add (i*7)) 7=some cs'/\KU W (X i) cs':=λi=>cK (ex i)
  have hlen:((List.range len).map X).length=len:= aH ;refine⟨(List.range len).map X,_,rfl,?_,?_⟩
  .intro y hy;obtain⟨i,hi,rfl⟩:=dh.1 hy;obtain⟨cs',_,h2⟩:=hX i (bW.1 hi);exact h2.1
  .have BR:∀ i,i<len->((List.range len).map X).getD i nP=X i:=by
    intro i hi;rw[bd,cr,am4 hi];rfl
   have:=OU (W:=W) (a:=a) (len:=len) (cap:=m) (nl:=true) (λi j=>(zw (((List.range len).map X).getD i nP)).getD j .any) hl hm (show 0<7 by decide)
    (λi j _ hj=>let⟨h1,h2,h3⟩:=ajf (((List.range len).map X).getD i nP) j hj;⟨h1,λ_=>h2,h3⟩)
    (λi hi=>by
     obtain⟨cs',h1,h2,_,h3⟩:=hX i hi;exact⟨cs',h1,λj hj=>by rw[BR i hi];exact h3 j hj⟩)
   unfold kO;rw[hlen];exact this
end
def aeN{P:Program}{c:OpenClaim}(h:P.funcs.any Func.goes=false)(hs:c.start = .entering):false=c.goesBy P:=by
 have h1:∀ g:Nat,(P.funcs[g]?).any Func.goes=false:=by
  intro g;cases hg:P.funcs[g]? with
  |none=>rfl
  |some fn=>
   rw[Option.any_some];rw[Array.any_eq_false]at h;obtain⟨hl,he⟩:=cS.1 hg;have:=h g hl;rw[he]at this;simpa using this
 have h2:∀ f,P.goes f=false:=by
  intro f;unfold Program.goes;rw[h,Bool.and_false,eW,cW];intro g _;rw[h1 g];decide
 unfold OpenClaim.goesBy Program.goesAt Program.goesFrom;rw[hs];cases P.funcNamed c.func with
 |none=>rfl
 |some f=>simp[h2 f]
def adZ:Tryz.pinned.checked.prog.funcs.any Func.goes=false:= aF 
def UX(k:IntKind)(l:List Int):E:=.sl true l.length 1 λi _=>.v (.int k (l.getD i 0))
def PG{k:IntKind}{z:Int}(h:(Lit.int k z).wf=true):kP k z:=by
 cases k<;>(simp[Lit.wf,IntKind.min,IntKind.max,IntKind.signed,IntKind.bits]at h;simp only[kP];omega)
def ah5{H:Type}{enc:TypeId×Value->H}{W:World}{fuel:Nat}{cs:List Value}{x:DataW H×List MemPlace}{t e:TypeId}{k:IntKind}(hk:∀ z,qk (.int k z)=false)(ht:prog.underlying t=some (.slice e))(he:prog.underlying e=some (.int k))(hC:prog.cellsOf e=1)
  (h:DataW.trod enc prog W 0 (λ_=>true) true fuel t cs=some x):∃ l v,cs=[v]/\(∀ z,z ∈ l->kP k z)/\ix mq mq W (UX k l) v:=by
 rcases Deep.open_slice ht h with⟨rfl,_⟩|⟨a,len,cap,m,n,D,Pl,rfl,hb,hl,hm,sD,rfl,hx⟩
 .exact ⟨[],_,rfl,(λy hy=>by cases hy),.sl true 0 1 _ none 0 (λ_ _=>.bool false) (bc _) aE (λ_=>rfl) (λi j hi=>absurd hi (bn i)) (λi j hi=>absurd hi (bn i)) (λi j hi=>absurd hi (bn i)) (λi j hi=>absurd hi (bn i))⟩
 .simp only[bw]at sD;subst sD;have ex:∀ i,∃ z:Int,i<len->W.cells? 0 (a.add (i*1)) 1=some [.int k z]/\kP k z:=by
   intro i;by_cases hi:i<len
   .obtain ⟨cs',h1,h2⟩:=hx i aC ;rw[hC]at h1;obtain⟨z,hz,_,hw⟩:=DataW.trod_int he h2;subst hz;exact⟨z,λ_=>⟨h1,PG hw⟩⟩
   .exact ⟨0,λh=>absurd h hi⟩
  let X:Nat->Int:=λi=>Classical.choose (ex i)
  have hX:∀ i,i<len->W.cells? 0 (a.add (i*1)) 1=some [.int k (X i)]/\kP k (X i):=λi=>cK (ex i)
  have hlen:((List.range len).map X).length=len:= aH ;refine⟨(List.range len).map X,_,rfl,?_,?_⟩
  .intro r hr;obtain⟨i,hi,rfl⟩:=dh.1 hr;exact(hX i (bW.1 hi)).2
  .have BR:∀ i,i<len->((List.range len).map X).getD i 0=X i:=by
    intro i hi;rw[bd,cr,am4 hi];rfl
   have:=OU (W:=W) (a:=a) (len:=len) (cap:=m) (nl:=true) (λi _=>.v (.int k (((List.range len).map X).getD i 0))) hl hm (show 0<1 by decide)
    (λi j _ hj=>⟨rfl,λ_=>by show(!qk _)=true;rw[hk];rfl,rfl⟩)
    (λi hi=>by
     refine⟨[.int k (X i)],(hX i hi).1,λj hj=>?_⟩;obtain rfl:j=0:= aC ;exact⟨_,rfl,by rw[BR i hi];exact .v _⟩)
   unfold UX;rw[hlen];exact this
end Go.Proofs.YtkdddbdjilcofaaGreatDoor
