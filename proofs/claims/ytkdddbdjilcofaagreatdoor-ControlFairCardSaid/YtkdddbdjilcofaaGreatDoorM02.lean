/- Lemmas that the last file uses. -/
import Derived.Test.YtkdddbdjilcofaaGreatDoorM01
import Derived.Deep.DeepCutAuto
import Derived.Deep.Slices
import Derived.Carry
set_option linter.unusedSimpArgs false
set_option linter.unusedVariables false
set_option linter.defProp false
set_option maxHeartbeats 4000000
open Go.Proofs.Tryz
namespace Go.Proofs.YtkdddbdjilcofaaGreatDoor.Pu
open Go.RowKit
section
variable {P:Program} {K:World->Prop} {T:List TI} {O:pK} {w0:World} {B:Nat->Prop} {σ τ:PS} {o:Oper} {a:Act} {w:World} {L:Lk} {u:kp} {gS:Array Oper}
def YP(r:iS w0 B σ a w L){b:Bool}(h:zC gS σ o=some b):Region.wanted o (yielded gS a.tmps)=b:=by
 unfold zC at h;unfold Region.wanted;split at h
 .rename_i hg;rw[hg];simpa using h
 .rename_i j want hg;rw[hg];simp only;split at h
  .rename_i t ht;have hv:=r.ht t;have key:∀ q:Bool,σ.get t = .e (.v (.bool q))->yielded gS a.tmps j=some q:=by
    intro q hq;rw[hq]at hv;have hv:=ix.ku hv;unfold yielded;rw[ht];simp only[Option.bind_some];have im:a.tmps[t]? = some (.bool q):=by
     by_cases hs:t<a.tmps.size
     .simpa [hs]using hv
     .simp [hs,undef]at hv
    rw[im]
   split at h
   .rename_i hq;rw[key true hq];simp only[bu]at h;subst h;cases want<;>rfl
   .rename_i hq;rw[key false hq];simp only[bu]at h;subst h;cases want<;>rfl
   .rename_i q hq;rw[hq]at hv;have hv:=ix.ku hv;have hn:yielded gS a.tmps j=none:=by
     unfold yielded;rw[ht];simp only[Option.bind_some];by_cases hs:t<a.tmps.size
     .rw [show a.tmps[t]? = some (.tuple q)by simpa[hs]using hv]
     .simp [hs]
    rw[hn];simp only[bu]at h;subst h;cases want<;>rfl
   .cases h
  .cases h
def Sb(hT:lY P T)(g:Gd P K w0 B)(r:iS w0 B σ a w L)(h:rk P K T O gS σ o=some u)(ho:∀ q,q ∈ u.jo->q)(Kc:Act->World->Prop)(Q:Exit->Act->World->Prop)
 (hk:∀ a' w' L',iS w0 B (σ.app o.dst u) a' w' L'->Kc a' w'):
 (Region.wanted o (yielded gS a.tmps)=true/\o.wp P a w Kc Q)\/(Region.wanted o (yielded gS a.tmps)=false/\Kc (a.put o.dst undef) w):=by
 obtain⟨hi,_,⟨hw,u0,h0,rfl⟩|⟨hw,rfl⟩⟩:=ES h
 .refine .inl ⟨YP r hw,adh hT g r h0 ho Kc Q λv w' L' hr hp=>hk _ w' L' ?_⟩;have mi:vN (σ.nE u0.f) o.dst=true:=by cases hd:o.dst<;>rw[hd]at hi<;>exact hi
  exact hr.put o.dst u0.r v mi hp
 .exact .inr ⟨YP r hw,hk _ w L (r.put o.dst (.e (.v (.tuple #[]))) undef hi (.v _))⟩
structure Left(gS:Array Oper)(listed:Array Bool)(R:List (Nat×Oper×kp)):Prop where
 mu:∀ x,x ∈ R->gS[x.1]? = some x.2.1/\listed.getD x.1 true=false
 all:∀ i,i<gS.size->listed.getD i true=false->∃ x,x ∈ R/\x.1=i
 pw:R.Pairwise λx y=>x.1<y.1/\(AP gS 3 y.2.1 x.1||B6 gS x.2 y.2)=true
 ed:∀ x,x ∈ R->∀ e,e ∈ x.2.1.after->Region.binds .any e=true->e.on<x.1
 up:∀ x,x ∈ R->∀ j z,gS[j]? = some z->B8 z x.1=true->listed.getD j true=false
def Left.AP{listed:Array Bool}{R:List (Nat×Oper×kp)}(h:Left gS listed R){x:Nat×Oper×kp}(hx:x ∈ R):∀ (n:Nat) (j:Nat) (z:Oper),gS[j]? = some z->Pu.AP gS n z x.1=true ->
 listed.getD j true=false/\∃ e,e ∈ z.after/\Region.binds .any e=true/\listed.getD e.on true=false/\e.on<gS.size:=by
 have direct:∀ (j:Nat) (z:Oper),gS[j]? = some z->B8 z x.1=true->listed.getD j true=false/\∃ e,e ∈ z.after/\Region.binds .any e=true/\listed.getD e.on true=false/\e.on<gS.size:=by
  intro j z hz he;refine⟨h.up x hx j z hz he,?_⟩;unfold B8 at he;obtain⟨e,mh,lf⟩:=dJ.1 he;simp only[bE]at lf;have ss:=h.mu x hx;refine⟨e,by simpa using mh,lf.1,?_,?_⟩
  .rw [kG.1 lf.2];exact ss.2
  .rw [kG.1 lf.2];exact(cR.1 ss.1).1
 intro n
 induction n with
 |zero=>exact direct
 |succ n ih=>
  intro j z hz hr;simp only[Pu.AP,dx]at hr;rcases hr with hr|hr
  .exact direct j z hz hr
  .obtain ⟨e,mh,lf⟩:=dJ.1 hr;simp only[bE]at lf;obtain⟨lf,Mp⟩:=lf;split at Mp
   .rename_i z' xE;obtain⟨k1,_⟩:=ih e.on z' xE Mp;have im:=(cR.1 xE).1;obtain⟨x',Ar,Dw⟩:=h.all e.on im k1;refine⟨h.up x' Ar j z hz ?_,e,by simpa using mh,lf,k1,im⟩;unfold B8;refine dJ.2 ⟨e,mh,?_⟩;rw[lf,Dw];simp
   .cases Mp
def OC{md:Region.Mode}{listed:Array Bool}{i:Nat}:i ∈ Region.ready md gS listed↔i<gS.size/\listed.getD i true=false/\∃ o,gS[i]? = some o/\∀ e,e ∈ o.after->Region.binds md e=true->listed.getD e.on false=true:=by
 unfold Region.ready;rw[List.mem_filter];simp only[bW,bE,dI];constructor
 .rintro ⟨h1,h2,h3⟩;refine⟨h1,h2,gS[i],by simp[h1],λe he hb=>?_⟩;rw[Array.getElem?_eq_getElem h1]at h3;simp only[ct,amp,amK]at h3;have:=h3 e he;simpa[hb]using this
 .rintro ⟨h1,h2,o,h3,h4⟩;refine⟨h1,h2,?_⟩;rw[h3];simp only[ct,amp,amK];intro e he;cases hb:Region.binds md e with
  |false=>rfl
  |true=>simpa using h4 e he hb
def Zr(hT:lY P T)(g:Gd P K w0 B){Q:Exit->Act->World->Prop}(hq:∀ a' w' L',iS w0 B τ a' w' L'->Q .normal a' w'):
 ∀ (fuel:Nat) (listed:Array Bool) (R:List (Nat×Oper×kp)) (σ:PS) (a:Act) (w:World) (L:Lk),R.length=fuel->listed.size=gS.size->Left gS listed R->(∀ x,x ∈ R->∀ q,q ∈ x.2.2.jo->q) ->
  wi P K T gS (R.map (·.2)) σ τ->iS w0 B σ a w L->wpAny P .any gS Q fuel listed a w:=by
 intro fuel
 induction fuel with
 |zero=>
  intro listed R σ a w L hlen Di hleft ho I9 r;have hR:=dh hlen;subst hR;refine⟨?_,hq a w L (r.pR I9)⟩;apply List.eq_nil_iff_forall_not_mem.2;intro i hi;obtain⟨h1,h2,_⟩:=OC.1 hi;obtain⟨x,hx,_⟩:=hleft.all i h1 h2;simp at hx
 |succ fuel ih=>
  intro listed R σ a w L hlen Di hleft ho I9 r;refine⟨λBM=>?_,λi hi=>?_⟩
  .
   exfalso;cases R with
   |nil=>simp at hlen
   |cons x R=>
    have hx:=hleft.mu x aH;have im:x.1<gS.size:=(cR.1 hx.1).1;have:x.1 ∈ Region.ready .any gS listed:=OC.2 ⟨im,hx.2,x.2.1,hx.1,λe he hb=>by
     have Dq:=hleft.ed x aH e he hb;cases hl:listed.getD e.on true with
     |true=>
      have:e.on<listed.size:= aC ;simp[this]at hl ⊢;exact hl
     |false=>
      exfalso;obtain⟨y,hy,At⟩:=hleft.all e.on aC hl;rcases cV.1 hy with hy|hy
      .subst hy;omega
      .have:=(amq.1 hleft.pw).1 y hy;omega⟩
    rw[BM]at this;simp at this
  .obtain ⟨h1,h2,o,h3,h4⟩:=OC.1 hi;obtain⟨y,hy,hyi⟩:=hleft.all i h1 h2;subst hyi;obtain⟨A,C,rfl⟩:=List.append_of_mem hy;have Je:=hleft.mu y hy;have ae8:∀ x,x ∈ A->B6 gS x.2 y.2=true:=by
    intro x hx;have hp:=(amr.1 hleft.pw).2.2 x hx y aH;rcases Bool.or_eq_true_iff.1 hp.2 with he|he
    .exfalso;obtain⟨_,e,mh,lf,mN,im⟩:=hleft.AP (show x ∈ A++y::C by simp[hx]) 3 y.1 y.2.1 Je.1 he;have sy:o=y.2.1:=by rw[Je.1]at h3;exact(ams h3).symm
     have hl:=h4 e (by rw[sy];exact mh) lf;have py:e.on<listed.size:=by rw[Di];exact im
     simp[py]at hl mN;rw[hl]at mN;cases mN
    .exact he
   rw[fD,dX]at I9;obtain⟨⟨O,k1⟩,k2⟩:=I9.adK (λx hx=>by
    obtain⟨z,hz,rfl⟩:=dg.1 hx;exact ae8 z hz)
   have ae9:Left gS (listed.setIfInBounds y.1 true) (A++C):=by
    have jf:∀ x,x ∈ A++C->x.1≠y.1:=by
     intro x hx;rcases dB.1 hx with hx|hx
     .have:=((amr.1 hleft.pw).2.2 x hx y aH).1;omega
     .have:=((amq.1 (amr.1 hleft.pw).2.1).1 x hx).1;omega
    have Aq:∀ x,x ∈ A++C->x ∈ A++y::C:=λx hx=>by
     rcases dB.1 hx with hx|hx<;>simp[hx]
    refine⟨λx hx=>?_,λj hj hl=>?_,?_,λx hx=>hleft.ed x (Aq x hx),λx hx j z hz he=>?_⟩
    .obtain ⟨q1,q2⟩:=hleft.mu x (Aq x hx);refine⟨q1,?_⟩;have py:x.1<listed.size:=by rw[Di];exact(cR.1 q1).1
     simp[py]at q2 ⊢;rw[amt _ (λe=>jf x hx e.symm)];exact q2
    .have IT:j<listed.size:= aC ;by_cases Dg:j=y.1
     .subst Dg;simp[IT]at hl
     .have:listed.getD j true=false:=by
       simp[IT]at hl ⊢;rw[amt _ (λe=>Dg e.symm)]at hl;exact hl
      obtain⟨x,hx,Un⟩:=hleft.all j hj this;refine⟨x,?_,Un⟩;rcases dB.1 hx with hx|hx
      .simp [hx]
      .rcases cV.1 hx with hx|hx
       .subst hx;exact absurd Un.symm Dg
       .simp [hx]
    .exact hleft.pw.sublist (List.Sublist.append (List.Sublist.refl A) (List.sublist_cons_self y C))
    .have q:=hleft.up x (Aq x hx) j z hz he;have IT:j<listed.size:=by rw[Di];exact(cR.1 hz).1
     by_cases Dg:j=y.1
     .exfalso;subst Dg;rw[Je.1]at hz h3;cases hz;cases h3;unfold B8 at he;obtain⟨e,mh,lf⟩:=dJ.1 he;simp only[bE]at lf;have hl:=h4 e (by simpa using mh) lf.1;rw[kG.1 lf.2]at hl;have mN:=(hleft.mu x (Aq x hx))
      have py:x.1<listed.size:=by rw[Di];exact(cR.1 mN.1).1
      have mN:=mN.2;simp[py]at hl mN;rw[hl]at mN;cases mN
     .simp [IT]at q ⊢;rw[amt _ (λe=>Dg e.symm)];exact q
   unfold wpOp;rw[Je.1];simp only;rcases Sb hT g r k1 (ho y aH) (wpAny P .any gS Q fuel (listed.setIfInBounds y.1 true)) Q (λa' w' L' hr=>ih _ (A++C) _ a' w' L' (by simp at hlen ⊢;omega) (by simpa using Di) ae9 (λx hx=>ho x (by
    rcases dB.1 hx with hx|hx<;>simp[hx])) (by rw[fD];exact k2) hr)with⟨p1,p2⟩|⟨p1,p2⟩
   .rw [aZ p1];exact .inl p2
   .rw [aY (by rw[p1];simp)];exact p2
def agn{us:List (Oper×kp)}(yK:us.map (·.1)=gS.toList)(hp:DR gS 0 us=true):
 ∃ R:List (Nat×Oper×kp),R.map (·.2)=us/\R.length=gS.size/\Left gS (Array.replicate gS.size false) R:=by
 have key:∀ (us:List (Oper×kp)) (k:Nat),DR gS k us=true->(∀ j x,us[j]? = some x->gS[k+j]? = some x.1) ->
  ∃ R:List (Nat×Oper×kp),R.map (·.2)=us/\(∀ j x,R[j]? = some x->x.1=k+j)/\(∀ x,x ∈ R->gS[x.1]? = some x.2.1)/\(R.Pairwise λx y=>x.1<y.1/\(AP gS 3 y.2.1 x.1||B6 gS x.2 y.2)=true) /\
   (∀ x,x ∈ R->∀ e,e ∈ x.2.1.after->Region.binds .any e=true->e.on<x.1):=by
  intro us
  induction us with
  |nil=>exact λk _ _=>⟨[],rfl,λj x h=>by simp at h,λx h=>by simp at h,List.Pairwise.nil,λx h=>by simp at h⟩
  |cons x us ih=>
   intro k hp ss;simp only[DR,bE]at hp;obtain⟨R,r1,r2,r3,r4,r5⟩:=ih (k+1) hp.2 (λj y hy=>by have:=ss (j+1) y (by simpa using hy);rwa[(aC:k+(j+1)=k+1+j)]at this);have qS:∀ y,y ∈ R->k<y.1/\y.2 ∈ us:=by
    intro y hy;obtain⟨j,hj⟩:=dp.1 hy;have:=r2 j y hj;exact⟨aC,by rw[<-r1];exact dg.2 ⟨y,hy,rfl⟩⟩
   refine⟨(k,x)::R,by simp[r1],λj y hy=>?_,λy hy=>?_,?_,λy hy=>?_⟩
   .cases j with
    |zero=>simp at hy;subst hy;rfl
    |succ j=>have:=r2 j y (by simpa using hy);omega
   .rcases cV.1 hy with hy|hy
    .subst hy;have:=ss 0 x rfl;simpa using this
    .exact r3 y hy
   .rw [amq];refine⟨λy hy=>⟨(qS y hy).1,?_⟩,r4⟩;exact bN.1 hp.1.2 y.2 (qS y hy).2
   .rcases cV.1 hy with hy|hy
    .subst hy;intro e he hb;have:=bN.1 hp.1.1 e (by simpa using he);simpa[hb]using this
    .exact r5 y hy
 obtain⟨R,r1,r2,r3,r4,r5⟩:=key us 0 hp (λj x hx=>by
  rw[bY];have:=congrArg (·[j]?) yK;simp only[cr,hx,ct]at this;simpa using this.symm)
 have hlen:R.length=gS.size:=by
  have h1:=congrArg List.length r1;have h2:=congrArg List.length yK;simp at h1 h2;omega
 refine⟨R,r1,hlen,λx hx=>⟨r3 x hx,?_⟩,λi hi _=>?_,r4,r5,λx hx j z hz _=>by have:=(cR.1 hz).1;simp[this]⟩
 .have:=(cR.1 (r3 x hx)).1;simp[this]
 .have mi:i<R.length:= aC ;exact⟨R[i],cz mi,by have:=r2 i R[i] (bt mi);omega⟩
end
def PS.le(σ τ:PS):Prop:=∀ (w0:World) (B:Nat->Prop) (a:Act) (w:World) (L:Lk),(∀ b,B b->b<w0.heap.size)->iS w0 B σ a w L->∃ L',iS w0 B τ a w L'
def PS.le.refl(σ:PS):PS.le σ σ:=λ_ _ _ _ L _ r=>⟨L,r⟩
def PS.le.trans{σ τ υ:PS}(h:PS.le σ τ)(k:PS.le τ υ):PS.le σ υ:=λw0 B a w L g r=>let⟨L',r'⟩:=h w0 B a w L g r;k w0 B a w L' g r'
def PV.le.refl(p:PV):PV.le p p:=λ_ _ _ _ _ h=>h
def Bx.le(a b:Bx):Prop:=(a.nl=true->b.nl=true)/\∀ (bs br:Nat->Prop) (L:Lk) (w:World) (id:Nat),qi bs br L w id a->qi bs br L w id b
def Bx.le.refl(a:Bx):Bx.le a a:=⟨id,λ_ _ _ _ _ h=>h⟩
def w9(σ:PS):List (Nat×PV)->Prop
 | []=>True
 | (k,p)::l=>PV.le (σ.get k) p/\w9 σ l
def wb(σ:PS):List (Nat×Bx)->Prop
 | []=>True
 | (id,b)::l=>(∃ b',σ.bo id=some b'/\Bx.le b' b)/\wb σ l
def Gn(τ:PS):Bool:=τ.t.all λx=>x.2.lv.all λid=>(look τ.b id).isSome
def Nv{α:Type}{l:List (Nat×α)}{t:Nat}{x:α}(h:look l t=some x):(t,x) ∈ l:=by
 induction l with
 |nil=>cases h
 |cons y l ih=>
  obtain⟨k,z⟩:=y;rw[tY]at h;split at h
  .rename_i e;cases h;subst e;exact .head _
  .exact .tail _ (ih h)
def w9.get{σ:PS}{l:List (Nat×PV)}(h:w9 σ l){t:Nat}{p:PV}(k:look l t=some p):PV.le (σ.get t) p:=by
 induction l with
 |nil=>cases k
 |cons y l ih=>
  obtain⟨q,z⟩:=y;rw[tY]at k;split at k
  .rename_i e;cases k;subst e;exact h.1
  .exact ih h.2 k
def wb.get{σ:PS}{l:List (Nat×Bx)}(h:wb σ l){t:Nat}{b:Bx}(k:look l t=some b):∃ b',σ.bo t=some b'/\Bx.le b' b:=by
 induction l with
 |nil=>cases k
 |cons y l ih=>
  obtain⟨q,z⟩:=y;rw[tY]at k;split at k
  .rename_i e;cases k;subst e;exact h.1
  .exact ih h.2 k
def PS.le.oE{σ τ:PS}(hn:σ.n=τ.n)(jx:τ.nl=σ.nl)(hr:Gn τ=true)(ht:w9 σ τ.t)(hb:wb σ τ.b):PS.le σ τ:=λw0 B a w L _ r=>by
 let L':Lk:=⟨λid=>L.mf id/\(τ.bo id).isSome=true,λid x=>L.own id x/\(τ.bo id).isSome=true,L.val,L.iC⟩
 have im:rE L w L' w:=⟨bc _,λx _ ⟨id,h,_⟩=>⟨id,h⟩,λ_ _ _=>rfl⟩
 refine⟨L',r.hd,by rw[<-hn];exact r.hs,λt=>?_,λid b h=>?_,λid=>?_,λid x h=>⟨r.hn id x h.1,h.2⟩,λid x h=>r.hw id x h.1,λid id' x h k=>r.hi id id' x h.1 k.1,r.he,λh id b k=>?_⟩
 .have hg:τ.get t=((look τ.t t)).getD (.e .any):=rfl;cases hl:look τ.t t with
  |none=>rw[hg,hl];exact .any _
  |some p=>
   rw[hg,hl];have:=ht.get hl _ _ _ _ _ (r.ht t);refine mS.move im this λid hid rX=>⟨⟨rX,?_⟩,rfl,λ_=>rfl⟩
   have q:=bN.1 hr _ (Nv hl);exact bN.1 q id hid
 .obtain ⟨b',h1,h2⟩:=hb.get h;have hs:(τ.bo id).isSome=true:=by rw[h];rfl
  exact(h2.2 _ _ _ _ _ (r.hb id b' h1)).later im rfl (λx=>⟨λq=>q.1,λq=>⟨q,hs⟩⟩) (λ_=>rfl) λ_ _=>rfl
 .show L.mf id/\(τ.bo id).isSome=true↔(τ.bo id).isSome=true;refine⟨λh=>h.2,λh=>⟨(r.hv id).2 ?_,h⟩⟩;obtain⟨b,jd⟩:=fc.1 h;obtain⟨b',h1,_⟩:=hb.get jd;rw[h1];rfl
 .obtain ⟨b',h1,h2⟩:=hb.get k;exact h2.1 (r.hl (by rw[<-jx];exact h) id b' h1)
def EF(σ:PS):List Nat->List (Nat×Bx)
 | []=>[]
 |i::l=>match σ.bo i with
  |some b=>(i,b)::EF σ l
  |none=>EF σ l
def PS.cut(ts bs:List Nat)(σ:PS):PS:={ n:=σ.n,nl:=σ.nl,t:=ts.map λt=>(t,σ.get t),b:=EF σ bs }
def w9.cut(σ:PS):∀ ts:List Nat,w9 σ (ts.map λt=>(t,σ.get t))
 | []=>trivial
 |_::l=>⟨PV.le.refl _,w9.cut σ l⟩
def wb.cut(σ:PS):∀ bs:List Nat,wb σ (EF σ bs)
 | []=>trivial
 |i::l=>by
  unfold EF;split
  .rename_i b h;exact⟨⟨b,h,Bx.le.refl b⟩,wb.cut σ l⟩
  .exact wb.cut σ l
def PS.le.cut{σ:PS}(ts bs:List Nat)(hr:Gn (σ.cut ts bs)=true):PS.le σ (σ.cut ts bs):=PS.le.oE rfl rfl hr (w9.cut σ ts) (wb.cut σ bs)
def Ex.to:Ex->Exit
 | .normal=>.normal
 | .exit id=>.exit id
 | .ret=>.ret
def Sp(P:Program)(K:World->Prop)(c:Code)(σ:PS)(Q:Ex->PS->Prop):Prop:=
 ∀ (w0:World) (B:Nat->Prop) (a:Act) (w:World) (L:Lk),Gd P K w0 B->iS w0 B σ a w L->c.wp P (λe a' w'=>∃ ex τ L',e=ex.to/\Q ex τ/\iS w0 B τ a' w' L') a w
def Sp.mono{P:Program}{K:World->Prop}{c:Code}{σ:PS}{Q Q':Ex->PS->Prop}(h:Sp P K c σ Q)(hq:∀ e τ,Q e τ->Q' e τ):Sp P K c σ Q':=
 λw0 B a w L g r=>Code.wp_mono (λ_ _ _ ⟨ex,τ,L',h1,h2,h3⟩=>⟨ex,τ,L',h1,hq _ _ h2,h3⟩) (h w0 B a w L g r)
abbrev Lo:=List (Nat×(Ex×PS×List Nat×List Nat))
section
variable {P:Program} {K:World->Prop} {T:List TI} {O:pK} {lo:Lo}
def Sp.loop{b:Code}{Q:Ex->PS->Prop}(J:Nat->PS->Prop)(pv:∀ n σ,J n σ->Sp P K b σ (λe τ=>(e = .normal/\∃ m,m<n/\J m τ)\/(e ≠ .normal/\Q e τ))):
 ∀ n σ,J n σ->Sp P K (.loop b) σ Q:=by
 intro n0 σ0 hJ0 w0 B a0 w1 L0 g r0 bf k cs;have key:∀ n σ a w L,J n σ->iS w0 B σ a w L ->
  ∃ e a' w',(∃ ex τ L',e=ex.to/\Q ex τ/\iS w0 B τ a' w' L')/\Arrives P (lone (bf.at a (.code b :: .inLoop b::k)) cs w) bf k cs e a' w':=by
  intro n
  induction n using Nat.strongRecOn with
  |_ n ih=>
   intro σ a w L hJ r;obtain⟨e,a₁,w₁,⟨ex,υ,L2,rfl,hq,nk⟩,s5⟩:=pv n σ hJ w0 B a w L g r bf (.inLoop b::k) cs;rcases hq with⟨rfl,m,hm,L5⟩|⟨jf,hq⟩
   .obtain ⟨e₂,a₂,w₂,ML,Mk⟩:=ih m hm υ a₁ w₁ L2 L5 nk;exact⟨e₂,a₂,w₂,ML,.of_steps (Steps.trans s5 (.one step_inLoop)) Mk⟩
   .cases ex with
    |normal=>exact absurd rfl jf
    |exit i=>exact⟨_,a₁,w₁,⟨.exit i,υ,L2,rfl,hq,nk⟩,.pass (x:=.inLoop b) rfl (λ_ _=>.inl (by simp[Ex.to])) s5⟩
    |ret=>exact⟨_,a₁,w₁,⟨.ret,υ,L2,rfl,hq,nk⟩,.pass (x:=.inLoop b) rfl (λ_ _=>.inl (by simp[Ex.to])) s5⟩
 obtain⟨e,a',w',hq,s5⟩:=key n0 σ0 a0 w1 L0 hJ0 r0;exact⟨e,a',w',hq,.of_steps (.one step_loop) s5⟩
def akO{w0:World}{B:Nat->Prop}{σ:PS}{a:Act}{w:World}{L:Lk}(hB:∀ b,B b->b<w0.heap.size)(r:iS w0 B σ a w L){p:PV}{e:E}(h:GF σ p=some e){v:Value}(hv:mS (iY B L) (ju L) L w p v):
 ix B (λ_=>True) w e v:=by
 have Ty:∀ id x,L.own id x->¬B x:=λid x hx hb=>by have:=hB x hb;have:=(r.hw id x hx).1;omega
 have own:∀ (v:Value) (T:TypeId) (n sz:Nat) (f:Nat->Nat->Value) (nl:Bool) (el:Nat->Nat->E) (id:Nat),ny w v T n sz f nl->(∀ x,v.ownBlock=some x->L.own id x) ->
  (∀ i j,i<n->j<sz->ix (iY B L) (ju L) w (el i j) (f i j)/\(el i j).nr 2=true)->ix B (λ_=>True) w (.sl nl n sz el) v:=by
  intro v T n sz f nl el id h1 h2 h3;rcases h1 with⟨rfl,rfl⟩|⟨b,c,cur,rfl,hg,oB,nG,mL,j8,jx⟩
  .exact .sl nl 0 sz el none 0 f (bc _) aE (λ_=>rfl) (λi j hi=>absurd hi (bk i)) (λi j hi=>absurd hi (bk i)) (λi j hi=>absurd hi (bk i)) (λi j hi=>absurd hi (bk i))
  .have sy:=h2 b rfl;refine .sl nl n sz el _ c f oB (by unfold maxLen at nG;omega) (λh=>by cases h) (λi j hi hj=>⟨(j8 i j hi hj).2,λhn=>jx hn _ (dH (j8 i j hi hj).1)⟩) (λi j hi hj=>(h3 i j hi hj).2)
    (λi j hi hj=>⟨b,0,rfl,Ty id b sy,(r.hw id b sy).2,?_⟩) (λi j hi hj=>((h3 i j hi hj).1.pT (λ_ h=>.inl h) (λ_ h=>h)).nr 2 (h3 i j hi hj).2)
   rw[bY];simp only[World.cell?,hg];simpa using(j8 i j hi hj).1
 cases p with
 |e x=>
  simp only[GF]at h;split at h
  .rename_i hn;cases h;exact(ix.pT (bs':=B) (br':=ju L) (λ_ h=>.inl h) (λ_ h=>h) hv).nr 3 hn
  .cases h
 |own id=>
  obtain⟨_,rfl⟩:=hv;simp only[GF]at h;split at h
  .rename_i nl T n sz el jd;cases h;obtain⟨f,h1,h2,h3⟩:=r.hb id _ jd;exact own _ T n sz f nl el id h1 (λx hx=>(h2 x).2 hx) h3
  .rename_i nl T1 T0 n sz len el jd;cases h;rcases r.hb id _ jd with⟨h1,h2,_⟩|iU
   .subst h2;rw[h1];exact .sl true 0 1 _ none 0 (λ_ _=>undef) (bc _) aE (λ_=>rfl) (λi j hi=>absurd hi (bk i)) (λi j hi=>absurd hi (bk i)) (λi j hi=>absurd hi (bk i)) (λi j hi=>absurd hi (bk i))
   obtain⟨b,c,cur,f,h1,h2,h3,h4,h5,h6,h7,h8,h9,pM,rJ⟩:=iU;have sy:L.own id b:=(h9 b).2 (.inl rfl);rw[h1];refine .sl true n 1 _ _ c (λk _=>L.iC id k) h3 (by unfold maxLen at h4;omega) (λh=>by cases h) (λk j hk hj=>?_) (λk j hk hj=>rfl)
    (λk j hk hj=>⟨b,0,rfl,Ty id b sy,(r.hw id b sy).2,?_⟩) (λk j hk hj=>own _ T0 (len k) sz (f k) nl (el k) id (h8 k hk).1 (λx hx=>(h9 x).2 (.inr ⟨k,hk,hx⟩)) (h8 k hk).2)
   .obtain ⟨_,q1,q2⟩:=(h8 k hk).1.head;exact⟨q1,λ_=>q2⟩
   .rw [bY,bZ];obtain rfl:j=0:= aC ;simp only[World.cell?,h2];simpa using h6 k hk aH 
  .cases h
 |iC id k=>
  obtain⟨_,rfl⟩:=hv;simp only[GF]at h;split at h
  .rename_i nl T1 T0 n sz len el jd;split at h
   .rename_i hk;have hk:k<n:=by simpa[fG]using hk
    cases h;obtain⟨b,c,cur,f,h1,h2,h3,h4,h5,h6,h7,h8,h9,pM,rJ⟩:=(r.hb id _ jd).vZ aC;exact own _ T0 (len k) sz (f k) nl (el k) id (h8 k hk).1 (λx hx=>(h9 x).2 (.inr ⟨k,hk,hx⟩)) (h8 k hk).2
   .cases h
  .cases h
 |_=>cases h
def Cv(tmps:Array Value):ResultVar->Sem Value
 | .tmp t=>Pure.pure (tmps.getD t undef)
 | .cell q t=>do loadVar t (<-asAddr (tmps.getD q undef))
def OJ(fn:Func)(tmps:Array Value):results fn tmps=(do
 let vs <-fn.results.mapM (Cv tmps)
 Pure.pure (if h:vs.size=1 then vs[0]else .tuple vs)):=by
 unfold results;congr 1
def aiV{w0:World}{B:Nat->Prop}{σ:PS}{a:Act}{w:World}{L:Lk}(hT:lY P T)(hB:∀ b,B b->b<w0.heap.size)(r:iS w0 B σ a w L){x:ResultVar}{e:E}(h:OI T σ x=some e):
 ∃ v,(Cv a.tmps x).run P w = .ok v w/\ix B (λ_=>True) w e v:=by
 cases x with
 |tmp t=>exact⟨_,rfl,akO hB r h (r.ht t)⟩
 |cell q t=>
  simp only[OI]at h;split at h
  .rename_i ti qs;split at h
   .rename_i l is MM;obtain⟨b,of,vs,e1,h1,h2,h3⟩:=r.read (r.ht q) MM (λq hq=>by simp at hq);by_cases ha:ti.isAgg=true
    .rw [aZ ha]at h;split at h
     .rename_i hn;cases h;refine⟨.agg vs.toArray,?_,(ix.pT (bs':=B) (br':=ju L) (λ_ h=>.inl h) (λ_ h=>h) h1.agg).nr 3 hn⟩;simp only[Cv,e1,asAddr,Sem.run_bind,Sem.run_pure,Result.andThen_ok,Xk hT w qs ha b of vs h2 h3]
     .cases h
    .rw [aY ha]at h;split at h
     .rename_i y;split at h
      .rename_i hn;cases h;obtain⟨z,zs,rfl,hz,_⟩:=h1.nc;refine⟨z,?_,(ix.pT (bs':=B) (br':=ju L) (λ_ h=>.inl h) (λ_ h=>h) hz).nr 3 hn⟩;simp only[Cv,e1,asAddr,Sem.run_bind,Sem.run_pure,Result.andThen_ok,OT hT w qs (by simpa using ha) b of z (by simpa using h3 0 z rfl)]
      .cases h
     .cases h
   .cases h
  .cases h
def aiT{w0:World}{B:Nat->Prop}{σ:PS}{a:Act}{w:World}{L:Lk}(hT:lY P T)(hB:∀ b,B b->b<w0.heap.size)(r:iS w0 B σ a w L){l:List ResultVar}{es:List E}(h:DZ T σ l=some es):
 ∃ vs,(l.mapM (Cv a.tmps)).run P w = .ok vs w/\jX B (λ_=>True) w es vs:=by
 induction l generalizing es with
 |nil=>simp only[DZ,bu]at h;subst h;exact⟨[],rfl,.nil _ _ _⟩
 |cons x l ih=>
  simp only[DZ]at h;split at h
  .rename_i e es' h1 h2;cases h;obtain⟨v,q1,q2⟩:=aiV hT hB r h1;obtain⟨vs,p1,p2⟩:=ih h2;refine⟨v::vs,?_,.cons q2 p2⟩;rw[gq];simp only[Sem.run_bind,q1,Result.andThen_ok,p1,Sem.run_pure]
  .cases h
def aiU{w0:World}{B:Nat->Prop}{σ:PS}{a:Act}{w:World}{L:Lk}(hT:lY P T)(hB:∀ b,B b->b<w0.heap.size)(r:iS w0 B σ a w L){fn:Func}{e:E}(h:J0 T fn σ=some e):
 ∃ v,(results fn a.tmps).run P w = .ok v w/\ix B (λ_=>True) w e v:=by
 unfold J0 at h;have main:∀ es,DZ T σ fn.results.toList=some es->∃ vs:List Value,(fn.results.mapM (Cv a.tmps)).run P w = .ok vs.toArray w/\jX B (λ_=>True) w es vs:=by
  intro es hes;obtain⟨vs,h1,h2⟩:=aiT hT hB r hes;refine⟨vs,?_,h2⟩;rw[amL];simp only[Sem.run_map,h1,Result.andThen_ok]
 split at h
 .rename_i y hy;cases h;obtain⟨vs,h1,h2⟩:=main _ hy;obtain⟨v,vs',rfl,hv,BM⟩:=h2.nc;have:=BM.rM;subst this;refine⟨v,?_,hv⟩;rw[OJ,Sem.run_bind,h1];simp
 .rename_i l jf hl;cases h;obtain⟨vs,h1,h2⟩:=main _ hl;refine⟨.tuple vs.toArray,?_,h2.ie⟩;rw[OJ,Sem.run_bind,h1];have hlen:¬vs.length=1:=by
   rw[h2.len];intro e1
   match l,e1 with
   | [y],_=>exact jf y rfl
  simp[hlen]
 .cases h
def afB(args:List E):∀ (k t:Nat),look (FE k args) t=if k<=t then(args[t-k]?).map .e else none:=by
 induction args with
 |nil=>intro k t;simp[FE,look]
 |cons x l ih=>
  intro k t;simp only[FE];rw[tY,ih (k+1) t];by_cases h:k=t
  .subst h;simp
  .rw [aY h];by_cases h2:k<=t
   .rw [aZ aC,aZ h2,(aC:t-k=(t-(k+1))+1)];simp
   .rw [aY aC,aY h2]
def iS.init{B:Nat->Prop}{w:World}{fn:Func}{args:List E}{vs:List Value}(hr:jX B (λ_=>False) w args vs)(hn:args.length<=fn.ntmps)(nl:Bool)(_hB:∀ b,B b->b<w.heap.size/\oI w b):
 iS w B (Aw fn nl args) { tmps:=vs.toArray++Array.replicate (fn.ntmps-vs.toArray.size) undef,defers:=[] } w ⟨λ_=>False,λ_ _=>False,λ_=>undef,λ_ _=>undef⟩:=by
 have hlen:=hr.len;refine⟨rfl,by simp[Aw];omega,λt=>?_,λid b hb=>(by cases hb),λid=>⟨λh=>h.elim,λh=>(by cases h)⟩,λ_ _ h=>h.elim,λ_ _ h=>h.elim,λ_ _ _ h=>h.elim,Below.refl _ _,λ_ id b hb=>(by cases hb)⟩;have hg:(Aw fn nl args).get t=((args[t]?).map PV.e).getD (.e .any):=by
  unfold PS.get Aw;rw[afB];simp
 rw[hg];by_cases ht:t<args.length
 .have Jc:t<vs.length:= aC ;rw[bt ht];have hv:(vs.toArray++Array.replicate (fn.ntmps-vs.toArray.size) undef).getD t undef=vs[t]:=by
   simp[Array.getElem?_append,Jc]
  show ix _ _ _ _ _;rw[hv];exact(hr.kA t _ _ (bt ht) (bt Jc)).pT (λb h=>h.elim id λ⟨_,h⟩=>h.elim) (λ_ ⟨_,h⟩=>h.elim)
 .rw [b7 aC];exact .any _
def PC.NA(hT:lY P T)(hm:P.follows .mixedOrders=true)(hp:∀ w w',K w->Below w.heap.size w w'->K w'){f:FuncId}{fn:Func}{c:Code}{args:List E}{jP:E}(wE:∀ (vs:Array Value) (w:World),(callFunc f vs).run P w = .ok (.enter f vs) w)
 (hf:P.funcs[f]? = some fn) (hb:fn.body=some c) (hn:args.length<=fn.ntmps) (nl:Bool)
 (h:Sp P K c (Aw fn nl args) (λe τ=>(e = .ret\/e = .normal)/\∃ r,J0 T fn τ=some r/\∀ (bs br:Nat->Prop) (w:World) (v:Value),ix bs br w r v->ix bs br w jP v)):PC P K f args jP:=by
 refine⟨wE,λw B vs hK hB hr=>calls_of_wp hf hb ?_⟩;have wO:=iS.init (fn:=fn) hr hn nl hB;refine Code.wp_mono ?_ (h w B _ w _ ⟨hK,hp,hB⟩ wO);rintro e a' w' ⟨ex,τ,L',rfl,⟨he,r,Ft,hle⟩,r6⟩;obtain⟨v,h1,h2⟩:=aiU hT (λb hb=>(hB b hb).1) r6 Ft;have Fs:a'.defers=[]/\∃ v,(results fn a'.tmps).run P w' = .ok v w'/\∃ v',Ending.returned v = .returned v'/\Below w.heap.size w w'/\ix B (λ_=>True) w' jP v':=⟨r6.hd,v,h1,v,rfl,r6.he,hle _ _ _ _ h2⟩
 rcases he with rfl|rfl
 .exact Fs
 .exact Fs
def vh.NA(hT:lY P T)(hm:P.follows .mixedOrders=true)(hp:∀ w w',K w->Below w.heap.size w w'->K w'){f:FuncId}{fn:Func}{c:Code}{args:List E}(wE:∀ (vs:Array Value) (w:World),(callFunc f vs).run P w = .ok (.enter f vs) w)
 (hf:P.funcs[f]? = some fn) (hb:fn.body=some c) (hn:args.length<=fn.ntmps) (nl:Bool) {nl':Bool} {T0:TypeId} {n sz:Nat} {el:Nat->Nat->E}
 (h:Sp P K c (Aw fn nl args) (λe τ=>(e = .ret\/e = .normal)/\∃ t id b,fn.results.toList=[.tmp t]/\τ.get t = .own id/\τ.bo id=some b/\∀ (bs br:Nat->Prop) (L:Lk) (w:World),qi bs br L w id b->qi bs br L w id (.row nl' T0 n sz el))):vh P K f args nl' T0 n sz el:=by
 refine⟨wE,λw B vs hK hB hr=>calls_of_wp hf hb ?_⟩;have wO:=iS.init (fn:=fn) hr hn nl hB;refine Code.wp_mono ?_ (h w B _ w _ ⟨hK,hp,hB⟩ wO);rintro e a' w' ⟨ex,τ,L',rfl,⟨he,t,id,b,Ft,hg,jd,hle⟩,r6⟩;have ho:=r6.ht t;rw[hg]at ho;obtain⟨rX,hv⟩:=ho;obtain⟨f0,h1,h2,h3⟩:=hle _ _ _ _ (r6.hb id b jd);have ky:(results fn a'.tmps).run P w' = .ok (L'.val id) w':=by
  rw[OJ,Sem.run_bind,amL,Ft,Sem.run_map,gq];simp only[Cv,Sem.run_bind,Sem.run_pure,Result.andThen_ok,List.mapM_nil,hv];simp
 have Fs:a'.defers=[]/\∃ v,(results fn a'.tmps).run P w' = .ok v w'/\∃ v',Ending.returned v = .returned v'/\Below w.heap.size w w'/\∃ g,ny w' v' T0 n sz g nl'/\(∀ x,v'.ownBlock=some x->w.heap.size<=x/\x<w'.heap.size) /\
  ∀ i j,i<n->j<sz->ix (λb=>B b\/v'.ownBlock=some b) (λ_=>True) w' (el i j) (g i j)/\(el i j).nr 2=true:=by
  refine⟨r6.hd,_,ky,_,rfl,r6.he,f0,h1,λx hx=>r6.hw id x ((h2 x).2 hx),λi j hi hj=>⟨?_,(h3 i j hi hj).2⟩⟩;refine((h3 i j hi hj).1.pT (bs':=λb=>B b\/(L'.val id).ownBlock=some b) (br':=ju L') (λb hb=>?_) (λ_ h=>h)).nr 2 (h3 i j hi hj).2;rcases hb with hb|hb
  .exact .inl hb
  .exact .inr ⟨id,(h2 b).2 hb⟩
 rcases he with rfl|rfl
 .exact Fs
 .exact Fs
end
def G4(P:Program):List TI->Prop
 | []=>True
 |x::l=>(P.underlying x.id=some x.d/\P.info? x.id=some x.i)/\G4 P l
def G4.ok{P:Program}{T:List TI}(h:G4 P T):lY P T:=by
 induction T with
 |nil=>intro x hx;simp at hx
 |cons y l ih=>
  intro x hx;rcases cV.1 hx with hx|hx
  .subst hx;exact h.1
  .exact ih h.2 x hx
def E.le(p q:E):Prop:=∀ (bs br:Nat->Prop) (w:World) (v:Value),ix bs br w p v->ix bs br w q v
def E.le.refl(p:E):E.le p p:=λ_ _ _ _ h=>h
def E.le.iL{p q:E}(h:p=q):E.le p q:=h▸E.le.refl p
def E.le.trans{p q r:E}(h:E.le p q)(k:E.le q r):E.le p r:=λ_ _ _ _ x=>k _ _ _ _ (h _ _ _ _ x)
def PV.le.e{p q:E}(h:E.le p q):aj p q:=λbs br _ w v k=>h bs br w v k
def PV.le.bool{a b:Bool}(h:a=b):aj (.v (.bool a)) (.v (.bool b)):=PV.le.e (.iL (by rw[h]))
def PV.le.int{k:IntKind}{a b:Int}(h:a=b):aj (.v (.int k a)) (.v (.int k b)):=PV.le.e (.iL (by rw[h]))
def aq(a b:Int)(h:a=b):aj (.v (.int .i64 a)) (.v (.int .i64 b)):=.int h
inductive tA:List E->List E->Prop
 |nil:tA [] []
 |cons {p q:E} {l m:List E} (h:E.le p q) (k:tA l m):tA (p::l) (q::m)
def tA.refl:∀ l:List E,tA l l
 | []=>.nil
 |p::l=>.cons (.refl p) (tA.refl l)
def tA.JZ{l m:List E}(h:tA l m){bs br:Nat->Prop}{w:World}{vs:List Value}(k:jX bs br w l vs):jX bs br w m vs:=by
 induction h generalizing vs with
 |nil=>exact k
 |cons h _ ih=>
  obtain⟨x,ys,rfl,h1,h2⟩:=k.nc;exact .cons (h _ _ _ _ h1) (ih h2)
def E.le.agg{l m:List E}(h:tA l m):E.le (.agg l) (.agg m):=λ_ _ _ _ k=>by
 obtain⟨vs,rfl,hr⟩:=ix.CQ k;exact(h.JZ hr).agg
def E.le.ie{l m:List E}(h:tA l m):E.le (.ie l) (.ie m):=λ_ _ _ _ k=>by
 obtain⟨vs,rfl,hr⟩:=ix.YD k;exact(h.JZ hr).ie
def E.le.nil(nl:Bool)(sz:Nat)(el:Nat->Nat->E):E.le (.v (.slice none 0 0)) (.sl nl 0 sz el):=λ_ _ _ _ k=>by
 obtain rfl:=ix.ku k;exact .sl nl 0 sz el none 0 (λ_ _=>undef) (bc _) aE (λ_=>rfl) (λi j h=>absurd h (bk i)) (λi j h=>absurd h (bk i)) (λi j h=>absurd h (bk i)) (λi j h=>absurd h (bk i))
def E.le.sl{nl:Bool}{n sz:Nat}{el el':Nat->Nat->E}(h:∀ i j,i<n->j<sz->E.le (el i j) (el' i j)/\(el' i j).nr 2=true):E.le (.sl nl n sz el) (.sl nl n sz el'):=λbs br w v k=>by
 cases k with
 |sl _ _ _ _ A c f hc hm h0 hl hr cell kk=>
  exact .sl nl n sz el' A c f hc hm h0 hl (λi j hi hj=>(h i j hi hj).2) cell λi j hi hj=>(h i j hi hj).1 _ _ _ _ (kk i j hi hj)
def PC.le{P:Program}{K:World->Prop}{f:FuncId}{args args':List E}{jP res':E}(h:PC P K f args jP)(ha:tA args' args)(hr:E.le jP res'):PC P K f args' res':=
 ⟨h.call,λw B vs hK hB ru=>(h.run w B vs hK hB (ha.JZ ru)).mono λ_ _ ⟨v,h1,h2,h3⟩=>⟨v,h1,h2,hr _ _ _ _ h3⟩⟩
def PC.jP{P:Program}{K:World->Prop}{f:FuncId}{args:List E}{jP res':E}(h:PC P K f args jP)(hr:E.le jP res'):PC P K f args res':=h.le (tA.refl _) hr
end Go.Proofs.YtkdddbdjilcofaaGreatDoor.Pu
namespace Go.Proofs.YtkdddbdjilcofaaGreatDoor
open Go.RowKit Fp
def uT(A:Option Addr)(c:Nat)(L:List Nat)(w:World)(hs:Sl w A c L):
 Calls prog 145 #[.slice A L.length c] w λe w'=>e = .returned (.slice A (iz L).length c)/\w=w':=by
 have hc:=hs.cap;have hl:=hs.qW;go_enter func145,ntmps145;go_wp2;go_loop [3] (λi=>∃ k:Nat,k<=L.length/\i = .int .i64 k/\mr L=mr (L.take k)) (λi=>(intOf i).toNat)
 case atStart=>exact⟨L.length,bc _,rfl,aH⟩
 case round=>
  obtain⟨k,hk,rfl,ht⟩:=hrel;have HT:=amW ht;clear ht;by_cases h0:0<k
  .obtain ⟨ab,ao,rfl,hb,h1⟩:=hs.mu (i:=k-1) aC ;have e1:((k:Int)-1).toNat=k-1:= aC ;have Z:=amW (Pf L (k-1) aC);have NZ:=amW (Pe L (k-1) aC);rw[fY h0]at Z NZ;generalize L[k-1]=x at *
   by_cases hx:x=0
   .have Hx:=amW hx;clear hx;have hb:((x:Int)==0)=true:=by have:=Hx.out;simp;omega
    go_wp2;go_round
    case rel=>exact⟨k-1,aC,by go_num,by rw[HT.out,Z.out Hx.out]⟩
    case measure=>simp[intOf];omega
   .have hb:((x:Int)==0)=false:= aN ;go_wp2;go_ret;exact⟨J2 (by show _=mr L;rw[HT.out,NZ.out hx]),rfl⟩
  .go_wp2;go_ret;have:k=0:= aC ;subst this;exact⟨J2 (by show _=mr L;rw[HT.out];rfl),rfl⟩
def acV(A:Option Addr)(c:Nat)(L:List Nat)(w:World)(hs:Sl w A c L):
 Calls prog 147 #[.slice A L.length c] w λe w'=>e = .returned (.slice A (iz L).length c)/\w=w':=by
 have hc:=hs.cap;have hl:=hs.qW;go_enter func147,ntmps147;go_wp2;go_loop [3] (λi=>∃ k:Nat,k<=L.length/\i = .int .i64 k/\mr L=mr (L.take k)) (λi=>(intOf i).toNat)
 case atStart=>exact⟨L.length,bc _,rfl,aH⟩
 case round=>
  obtain⟨k,hk,rfl,ht⟩:=hrel;have HT:=amW ht;clear ht;by_cases h0:0<k
  .obtain ⟨ab,ao,rfl,hb,h1⟩:=hs.mu (i:=k-1) aC ;have e1:((k:Int)-1).toNat=k-1:= aC ;have Z:=amW (Pf L (k-1) aC);have NZ:=amW (Pe L (k-1) aC);rw[fY h0]at Z NZ;generalize L[k-1]=x at *
   by_cases hx:x=0
   .have Hx:=amW hx;clear hx;have hb:((x:Int)==0)=true:=by have:=Hx.out;simp;omega
    go_wp2;go_round
    case rel=>exact⟨k-1,aC,by go_num,by rw[HT.out,Z.out Hx.out]⟩
    case measure=>simp[intOf];omega
   .have hb:((x:Int)==0)=false:= aN ;go_wp2;go_ret;exact⟨J2 (by show _=mr L;rw[HT.out,NZ.out hx]),rfl⟩
  .go_wp2;go_ret;have:k=0:= aC ;subst this;exact⟨J2 (by show _=mr L;rw[HT.out];rfl),rfl⟩
def Sl.ud{w:World}{A:Option Addr}{c:Nat}{L:List Nat}(h:Sl w A c L):Sl w A c (iz L):=(h.take (mr L)).eqv (Km L).symm
def aap:Go.Shelf.Ren:=⟨λ|128=>175|n=>n,λ|51=>96|3=>3|4=>4|46=>121|5=>5|9=>9|n=>n,λ|n=>n⟩
def aak:Go.Proofs.Lays.n128 prog aap:={
 mixed:= aF 
 f128:=func175.trans (congrArg some aF)
 t3:=underlying3
 a3:=Tryz.isAgg3
 z3:=Tryz.sizeOf3
 v3:=Tryz.zeroValue3
 t4:=underlying4
 a4:=Tryz.isAgg4
 z4:=Tryz.sizeOf4
 v4:=Tryz.zeroValue4
 t5:=underlying5
 a5:=Tryz.isAgg5
 z5:=Tryz.sizeOf5
 v5:=Tryz.zeroValue5
 t9:=underlying9
 a9:=Tryz.isAgg9
 z9:=Tryz.sizeOf9
 v9:=Tryz.zeroValue9
 t46:=underlying121
 a46:=Tryz.isAgg121
 z46:=Tryz.sizeOf121
 v46:=Tryz.zeroValue121
 t51:=underlying96
 a51:=Tryz.isAgg96
 z51:=Tryz.sizeOf96
 v51:=Tryz.zeroValue96 }
def Vb(x:Nat)(hx:x<4294967296)(w:World):
 Calls prog 175 #[.int .u32 x] w λe w'=>e = .returned (.int .i64 (gZ x))/\w=w':=by
 refine(Any.bits_Len32 aak x w aC aC).mono ?_;rintro e w' ⟨rfl,rfl⟩;rw[fF,aag x hx];exact⟨rfl,rfl⟩
def ak0(x k idx:Nat)(w:World)(nN:((x:Int)==0)=false)
 (key:bits BinOp.and IntKind.u32 (x:Int) (-(x:Int)%4294967296)*125613361%4294967296/134217728=(idx:Int))
 (hi:idx<32) (hk:k<32) (j8:w.cell? ⟨0,idx,none⟩=some (.int .u8 k)):
 Calls prog 177 #[.int .u32 x] w λe w'=>e = .returned (.int .i64 k)/\w=w':=by
 go_enter func177,ntmps177;go_wp2_with (simp only[key])
 go_ret;exact⟨rfl,rfl⟩
def akZ(x:Nat)(h0:x≠0)(hx:x<4294967296)(w:World)(hT:Tb w):
 Calls prog 177 #[.int .u32 x] w λe w'=>e = .returned (.int .i64 (jj x))/\w=w':=by
 rw[<-ach x h0 hx];obtain⟨Dh,hk⟩:=Lib.lowest_bit 32 x h0 hx;obtain⟨hi,afp⟩:=Lib.deBruijn32_at _ hk;have j8:=hT _ hi;rw[afp]at j8;exact ak0 x _ _ w aN (tz32_key x _ hx h0 Dh) hi hk j8
def i64_in(n:Int)(h0:-9223372036854775808<=n)(h1:n<=9223372036854775807):IntKind.i64.wrap n=n:=by rw[IntKind.wrap_i64];omega
def QB{L M:List Nat}{n:Nat}(hs:iD L)(hM:iz L=M)(hn:M.length=n+1):
 ∃ x,M[n]? = some x/\x<4294967296/\(32*(n:Int)+(gZ x:Int))=(gZ (val L):Int)/\gZ x<=32:=by
 have hk:iD M:=hM▸hs.iz;have ht:nA M:=hM▸zz L;rcases ado M with rfl|⟨l,x,rfl⟩
 .simp at hn
 .simp only[ami,cA,fz,Nat.add_right_cancel_iff]at hn hk ht hM ⊢;subst hn;have hx:x≠0:=by simpa using(A7 _).1 ht aH 
  have im:x<4294967296:=hk x aH;refine⟨x,aH,im,?_,lR.2 im⟩;have:=aao hk hx;rw[<-hM,pJ]at this;omega
def V5(A:Option Addr)(c:Nat)(L:List Nat)(w:World)(hs:Sl w A c L)(hlen:L.length<=100000000):
 Calls prog 142 #[.slice A L.length c] w λe w'=>e = .returned (.int .i64 (gZ (val L)))/\w=w':=by
 have hT:=amW (uT A c L w hs);have kB:=hs.ud;have nj:=pj L;unfold mr at nj;generalize hM:iz L=M at *
 obtain⟨n,hn⟩:∃ n,n=M.length:=⟨_,rfl⟩
 rw[<-hn]at hT nj;rcases n with _|n
 .have hv:gZ (val L)=0:=by rw[<-pJ,hM,dh hn.symm];rfl
  have HV:=amW hv;clear hv hM hn;go_enter func142,ntmps142;go_wp2_with (go_at_call 145;refine hT.out.mono ?_;rintro e w' ⟨rfl,rfl⟩)
  go_ret;exact⟨by rw[HV.out];rfl,rfl⟩
 .obtain ⟨x,hx,im,hb,aeX⟩:=QB hs.ok hM hn.symm;obtain⟨ab,ao,rfl,_,j8⟩:=kB.cell _ _ hx;have HB:=amW hb;clear hb hM hn hx;go_enter func142,ntmps142;go_wp2_with (first|(go_at_call 145;refine hT.out.mono ?_;rintro e w' ⟨rfl,rfl⟩)|(go_at_call 175;refine(Vb x im _).mono ?_;rintro e w' ⟨rfl,rfl⟩))
  go_ret;exact⟨oV HB.out,rfl⟩
def aam{x:Nat}(h:x≠0):gZ x=gZ (x/2)+1:=by
 by_cases h1:x/2=0
 .have:x=1:= aC ;subst this;rfl
 .have e1:=rS h1;have e2:=qw (x/2);have e3:=nM h1;generalize gZ (x/2)=k at *
  obtain⟨j,rfl⟩:∃ j,k=j+1:=⟨k-1,aC⟩
  rw[ep]at e1;refine xZ ?_ ?_
  .rw [bC];omega
  .rw [bC];omega
def aiB(A:Option Addr)(c:Nat)(L:List Nat)(w:World)(hs:Sl w A c L)(ht:nA L)(hlen:L.length<=100000000):
 Calls prog 127 #[.slice A L.length c] w λe w'=>e = .returned (.int .i64 (gZ (val L)))/\w=w':=by
 obtain⟨n,hn⟩:∃ n,n=L.length:=⟨_,rfl⟩
 rcases n with _|n
 .have hv:gZ (val L)=0:=by rw[dh hn.symm];rfl
  have HV:=amW hv;rw[<-hn];clear hv ht hn;go_enter func127,ntmps127;go_wp2;go_ret;exact⟨by rw[HV.out];rfl,rfl⟩
 .obtain ⟨x,hx,im,hb,aeX⟩:=QB hs.ok ht hn.symm;obtain⟨ab,ao,rfl,_,j8⟩:=hs.cell _ _ hx;have HB:=amW hb;rw[<-hn]at hlen ⊢;clear hb ht hn hx;go_enter func127,ntmps127;go_wp2;go_loop [3,4] (λm y=>∃ (k z:Nat),z<4294967296/\y = .int .u32 z/\m = .int .i64 k/\k<=10000000000/\k+gZ z=gZ (val L)) (λ_ y=>(intOf y).toNat)
  case atStart=>exact⟨32*n,x,im,rfl,by go_num,aC,by have:=HB.out;omega⟩
  case round=>
   obtain⟨k,z,hz,rfl,rfl,hk,he⟩:=hrel;have HE:=amW he;clear he;by_cases h0:0<z
   .have hh:=amW (aam (x:=z) aC);have vE:k<=3300000000:=by have:=HE.out;have:=HB.out;omega
    go_wp2;go_round
    case rel=>exact⟨k+1,z/2,aC,by go_num,by go_num,aC,by rw[<-HE.out,hh.out];omega⟩
    case measure=>simp[intOf];omega
   .obtain rfl:z=0:= aC ;go_wp2;go_ret;exact⟨oV (by rw[<-HE.out];rfl),rfl⟩
def Rg{L M:List Nat}(hL:iD L)(h:(iz L).length<(iz M).length):kq (val L) (val M) = -1:=by
 have:=Kt hL.iz (zz M) h;rw[pJ,pJ]at this;unfold kq;rw[aZ this]
def Rf{L M:List Nat}(hM:iD M)(h:(iz M).length<(iz L).length):kq (val L) (val M)=1:=by
 have:=Kt hM.iz (zz L) h;rw[pJ,pJ]at this;unfold kq;rw[aY aC,aZ this]
def Hz{M N:List Nat}(hM:iD M){k x y:Nat}(hl:M.length=N.length)(hx:M[k]? = some x)(hy:N[k]? = some y)(hd:M.drop (k+1)=N.drop (k+1))(h:x<y):val M<val N:=by
 obtain⟨h1,rfl⟩:=b5.1 hx;obtain⟨h2,rfl⟩:=b5.1 hy;exact ala hM k h1 hl hd h
def RK{M N:List Nat}{k x:Nat}(hx:M[k]? = some x)(hy:N[k]? = some x)(hd:M.drop (k+1)=N.drop (k+1)):M.drop k=N.drop k:=by
 obtain⟨h1,e1⟩:=b5.1 hx;obtain⟨h2,e2⟩:=b5.1 hy;rw[eO h1,eO h2,e1,e2,hd]
def F2(A B:Option Addr)(c d:Nat)(L M:List Nat)(w:World)(hs:Sl w A c L)(hr:Sl w B d M)(h1:L.length<=100000000)(_h2:M.length<=100000000):
 Calls prog 99 #[.slice A L.length c,.slice B M.length d] w λe w'=>e = .returned (.int .i64 (kq (val L) (val M)))/\iB w w':=by
 have hT:=amW (uT A c L w hs);have hU:=amW (uT B d M w hr);have kB:=hs.ud;have nk:=hr.ud;have nj:=pj L;have vG:=pj M;unfold mr at nj vG;by_cases im:(iz L).length<(iz M).length
 .have HV:=amW (Rg hs.ok im);have jf:(((iz L).length:Int) != ((iz M).length:Nat))=true:= aN ;generalize (iz L).length=n at *
  generalize (iz M).length=m at *
  clear kB nk;go_enter func99,ntmps99;go_wp2_with fail;refine hT.out.mono ?_;rintro e w' ⟨rfl,rfl⟩;go_wp2_with fail;refine hU.out.mono ?_;rintro e w' ⟨rfl,rfl⟩;go_wp2;go_ret;exact⟨oV (by rw[HV.out]),iB.refl _⟩
 .by_cases Fc:(iz M).length<(iz L).length
  .have HV:=amW (Rf hr.ok Fc);have jf:(((iz L).length:Int) != ((iz M).length:Nat))=true:= aN ;generalize (iz L).length=n at *
   generalize (iz M).length=m at *
   clear kB nk;go_enter func99,ntmps99;go_wp2_with fail;refine hT.out.mono ?_;rintro e w' ⟨rfl,rfl⟩;go_wp2_with fail;refine hU.out.mono ?_;rintro e w' ⟨rfl,rfl⟩;go_wp2;go_ret;exact⟨oV (by rw[HV.out]),iB.refl _⟩
  .have hl:(iz L).length=(iz M).length:= aC ;have HL:=amW hl;rw[<-hl]at hU vG;have e1:=pJ L;have e2:=pJ M;generalize iz L=P at *
   generalize iz M=Q at *
   have E1:=amW e1;have E2:=amW e2;clear e1 e2 hl Fc im;obtain⟨n,hn⟩:∃ n,n=P.length:=⟨_,rfl⟩
   rw[<-hn]at hT hU vG nj;have HN:=amW hn;clear hn;have jf:((n:Int) != (n:Int))=false:= aH ;have okP:=kB.ok;have Cq:=nk.ok;go_enter func99,ntmps99;go_wp2_with fail;refine hT.out.mono ?_;rintro e w' ⟨rfl,rfl⟩;go_wp2_with fail;refine hU.out.mono ?_;rintro e w' ⟨rfl,rfl⟩;go_wp2;go_loopw [5] (λi wr=>∃ k:Nat,k<=n/\i = .int .i64 ((k:Int)-1)/\P.drop k=Q.drop k/\iB w wr) (λi _=>(intOf i+1).toNat)
   case atStart=>exact⟨n,bc _,rfl,by rw[dQ (by rw[<-HN.out];exact bc _),dQ (by rw[<-HL.out,<-HN.out];exact bc _)],iB.refl _⟩
   case round=>
    obtain⟨k,hk,rfl,hd,hb⟩:=hrel;have HD:=amW hd;clear hd;rcases k with _|k
    .go_wp2;go_ret;have e:P=Q:=by simpa using HD.out
     exact⟨oV (by rw[<-E1.out,<-E2.out,e];unfold kq;simp),hb⟩
    .have BI:k<P.length:=by have:=HN.out;omega
     have yE:k<Q.length:=by have:=HN.out;have:=HL.out;omega
     have HP:=amW (bt BI);have HQ:=amW (bt yE);obtain⟨ab,ao,rfl,_,c1⟩:=(kB.below hb).mu BI;obtain⟨bb,bo,rfl,_,c2⟩:=(nk.below hb).mu yE;have IX:(k:Int)<n:= aC ;have nI:(0:Int)<=k:= aC ;have x0:(0:Int)<=P[k]:= aC ;have y0:(0:Int)<=Q[k]:= aC ;generalize P[k]=x at *
     generalize Q[k]=y at *
     clear BI yE;by_cases qd:x<y
     .have MZ:(x:Int)<y:= aC ;go_wp2;go_quiet (fail);go_wp2;go_ret;have h:=Hz okP HL.out HP.out HQ.out HD.out qd;rw[E1.out,E2.out]at h;exact⟨oV (by unfold kq;rw[aZ h]),below_drewN hb _⟩
     .have MZ:¬(x:Int)<y:= aC ;by_cases M1:y<x
      .have M3:(y:Int)<x:= aC ;go_wp2;go_quiet (fail);go_wp2;go_quiet (fail);go_wp2;go_ret;have h:=Hz Cq HL.out.symm HQ.out HP.out HD.out.symm M1;rw[E1.out,E2.out]at h;exact⟨oV (by unfold kq;rw[aY aC,aZ h]),below_drewN (below_drewN hb _) _⟩
      .have M3:¬(y:Int)<x:= aC ;have HX:=amW (aC:x=y);go_wp2;go_quiet (fail);go_wp2;go_quiet (fail);go_wp2;go_roundw
       case rel=>exact⟨k,aC,by go_num,RK HP.out (by rw[HX.out];exact HQ.out) HD.out,by repeat (first|exact hb|refine below_drewN ?_ _)⟩
       case measure=>simp[intOf];try omega
def aiD(A B:Option Addr)(c d:Nat)(P Q:List Nat)(w:World)(kB:Sl w A c P)(nk:Sl w B d Q)(tP:nA P)(tQ:nA Q)(h1:P.length<=100000000)(_h2:Q.length<=100000000):
 Calls prog 44 #[.slice A P.length c,.slice B Q.length d] w λe w'=>e = .returned (.int .i64 (kq (val P) (val Q)))/\iB w w':=by
 have tP':iz P=P:=tP;have tQ':iz Q=Q:=tQ;by_cases im:P.length<Q.length
 .have HV:=amW (Rg (M:=Q) kB.ok (by rw[tP',tQ'];exact im));have jf:((P.length:Int) != (Q.length:Nat))=true:= aN ;generalize P.length=n at *
  generalize Q.length=m at *
  clear kB nk tP' tQ' tP tQ;go_enter func44,ntmps44;go_wp2;go_ret;exact⟨oV (by rw[HV.out]),iB.refl _⟩
 .by_cases Fc:Q.length<P.length
  .have HV:=amW (Rf (L:=P) nk.ok (by rw[tP',tQ'];exact Fc));have jf:((P.length:Int) != (Q.length:Nat))=true:= aN ;generalize P.length=n at *
   generalize Q.length=m at *
   clear kB nk tP' tQ' tP tQ;go_enter func44,ntmps44;go_wp2;go_ret;exact⟨oV (by rw[HV.out]),iB.refl _⟩
  .have hl:P.length=Q.length:= aC ;have HL:=amW hl;rw[<-hl];clear hl Fc im tP' tQ' tP tQ _h2;obtain⟨n,hn⟩:∃ n,n=P.length:=⟨_,rfl⟩
   rw[<-hn]at h1 ⊢;have HN:=amW hn;clear hn;have jf:((n:Int) != (n:Int))=false:= aH ;have okP:=kB.ok;have Cq:=nk.ok;go_enter func44,ntmps44;go_wp2;go_loopw [5] (λi wr=>∃ k:Nat,k<=n/\i = .int .i64 ((k:Int)-1)/\P.drop k=Q.drop k/\iB w wr) (λi _=>(intOf i+1).toNat)
   case atStart=>exact⟨n,bc _,rfl,by rw[dQ (by rw[<-HN.out];exact bc _),dQ (by rw[<-HL.out,<-HN.out];exact bc _)],iB.refl _⟩
   case round=>
    obtain⟨k,hk,rfl,hd,hb⟩:=hrel;have HD:=amW hd;clear hd;rcases k with _|k
    .go_wp2;go_ret;have e:P=Q:=by simpa using HD.out
     exact⟨oV (by rw[e];unfold kq;simp),hb⟩
    .have BI:k<P.length:=by have:=HN.out;omega
     have yE:k<Q.length:=by have:=HN.out;have:=HL.out;omega
     have HP:=amW (bt BI);have HQ:=amW (bt yE);obtain⟨ab,ao,rfl,_,c1⟩:=(kB.below hb).mu BI;obtain⟨bb,bo,rfl,_,c2⟩:=(nk.below hb).mu yE;have IX:(k:Int)<n:= aC ;have nI:(0:Int)<=k:= aC ;have x0:(0:Int)<=P[k]:= aC ;have y0:(0:Int)<=Q[k]:= aC ;generalize P[k]=x at *
     generalize Q[k]=y at *
     clear BI yE;by_cases qd:x<y
     .have MZ:(x:Int)<y:= aC ;go_wp2;go_quiet (fail);go_wp2;go_ret;have h:=Hz okP HL.out HP.out HQ.out HD.out qd;exact⟨oV (by unfold kq;rw[aZ h]),below_drewN hb _⟩
     .have MZ:¬(x:Int)<y:= aC ;by_cases M1:y<x
      .have M3:(y:Int)<x:= aC ;go_wp2;go_quiet (fail);go_wp2;go_quiet (fail);go_wp2;go_ret;have h:=Hz Cq HL.out.symm HQ.out HP.out HD.out.symm M1;exact⟨oV (by unfold kq;rw[aY aC,aZ h]),below_drewN (below_drewN hb _) _⟩
      .have M3:¬(y:Int)<x:= aC ;have HX:=amW (aC:x=y);go_wp2;go_quiet (fail);go_wp2;go_quiet (fail);go_wp2;go_roundw
       case rel=>exact⟨k,aC,by go_num,RK HP.out (by rw[HX.out];exact HQ.out) HD.out,by repeat (first|exact hb|refine below_drewN ?_ _)⟩
       case measure=>simp[intOf];try omega
def Lf(A:Option Addr)(c:Nat)(L:List Nat)(w:World)(hs:Sl w A c L):
 Calls prog 146 #[.slice A L.length c] w λe w'=>e = .returned (.slice A L.length L.length)/\w=w':=by
 have hc:=hs.cap;have hl:=hs.qW;go_enter func146,ntmps146;go_wp2;go_ret;exact⟨rfl,rfl⟩
def Sl.Q9{w:World}{A:Option Addr}{c:Nat}{L:List Nat}(h:Sl w A c L):Sl w A L.length L:=
 ⟨bc _,bg h.cap h.qW,h.ok,(λe=>by have:=h.xL e;have:=h.cap;omega),h.cell⟩
def Lg(A:Option Addr)(c:Nat)(L:List Nat)(w:World)(hs:Sl w A c L)(hlen:L.length<=100000000):
 Calls prog 92 #[.slice A L.length c] w (xg w L):=by
 have hc:=hs.cap;have hl:=hs.qW;rcases A with _|ad
 .have h0:=hs.xL rfl;subst h0;have:L=[]:=dh aC;subst this;have q:=λ(w:World) (n' c':Nat)=>Lib.run_eql_slice_nil (P:=prog) w 29 _ none 0 0 n' c' underlying29
  simp only[Option.isNone_none]at q;go_enter func92,ntmps92;go_wp2;go_ret;exact⟨none,0,rfl,Sl.nil _,iB.refl _⟩
 .have q:=λ(w:World) (n' c':Nat)=>Lib.run_eql_slice_nil (P:=prog) w 29 _ (some ad) L.length c n' c' underlying29
  simp only[Option.isNone_some]at q;go_enter func92,ntmps92;have mo:([]:List Nat).length+L.length<=10000000000:= aN ;have h1:=Ow.empty w w.heap.size (bc _);have h2:=hs.alloc (.cells #[] 96);have h3:=wS (w:=w) (bc _) (.cells #[] 96);go_wp2_with (at_builtin;go_must (refine zD aG _ _ aG w.heap.size _ [] aG h1 _ _ _ L aG aG h2 mo h3 ?_);intro v' w' lh hg ss)
  obtain⟨A',c',rfl,oD⟩:=lh.sl;go_ret;exact⟨A',c',rfl,oD,(iB.alloc _ _).grown hg (wS (bc _) _) (λk hk=>by simp[Value.ownBlock]at hk;omega)⟩
def OG(A:Option Addr)(c:Nat)(L:List Nat)(w:World)(hs:Sl w A c L)(hlen:L.length<=100000000):
 Calls prog 128 #[.slice A L.length c] w (xg w (iz L)):=by
 have hc:=hs.cap;have hl:=hs.qW;have fin:∀ k:Nat,k=(iz L).length->Hid (iz L=L.take k):=λk hk=>by rw[hk];exact Km L
 go_enter func128,ntmps128;go_wp2;go_loop [3] (λi=>∃ k:Nat,k<=L.length/\i = .int .i64 k/\mr L=mr (L.take k)) (λi=>(intOf i).toNat)
 case atStart=>exact⟨L.length,bc _,rfl,aH⟩
 case round=>
  obtain⟨k,hk,rfl,ht⟩:=hrel;have HT:=amW ht;clear ht;have mo:([]:List Nat).length+(L.take k).length<=10000000000:=by rw[b8];simp;omega
  have HK:=amW (show k=(L.take k).length by rw[b8];omega);have h1:=Ow.empty w w.heap.size (bc _);have h2:=(hs.take k).alloc (.cells #[] 96);have h3:=wS (w:=w) (bc _) (.cells #[] 96);by_cases h0:0<k
  .obtain ⟨ab,ao,rfl,hb,As⟩:=hs.mu (i:=k-1) aC ;have e1:((k:Int)-1).toNat=k-1:= aC ;have Z:=amW (Pf L (k-1) aC);have NZ:=amW (Pe L (k-1) aC);rw[fY h0]at Z NZ;generalize L[k-1]=x at *
   by_cases hx:x=0
   .have Hx:=amW hx;clear hx;have hb:((x:Int)==0)=true:=by have:=Hx.out;simp;omega
    clear fin;go_wp2;go_round
    case rel=>exact⟨k-1,aC,by go_num,by rw[HT.out,Z.out Hx.out]⟩
    case measure=>simp[intOf];omega
   .have hb:((x:Int)==0)=false:= aN ;have F:=fin k (by show k=mr L;rw[HT.out,NZ.out hx]);clear fin;go_wp2_with (at_builtin;go_must (refine zD aG _ _ aG w.heap.size _ [] aG h1 _ _ _ (L.take k) aG HK.out h2 mo h3 ?_);intro v' w' lh hg ss)
    obtain⟨A',c',rfl,oD⟩:=lh.sl;go_ret;rw[F.out];exact⟨A',c',rfl,oD,(iB.alloc _ _).grown hg (wS (bc _) _) (λk hk=>by simp[Value.ownBlock]at hk;omega)⟩
  .have:k=0:= aC ;subst this;have F:=fin 0 (by show 0=mr L;rw[HT.out];rfl);clear fin;go_wp2_with (at_builtin;go_must (refine zD aG _ _ aG w.heap.size _ [] aG h1 _ _ _ (L.take 0) aG HK.out h2 mo h3 ?_);intro v' w' lh hg ss)
   obtain⟨A',c',rfl,oD⟩:=lh.sl;go_ret;rw[F.out];exact⟨A',c',rfl,oD,(iB.alloc _ _).grown hg (wS (bc _) _) (λk hk=>by simp[Value.ownBlock]at hk;omega)⟩
def Vo(A:Option Addr)(n c:Nat)(w:World):
 Calls prog 144 #[.slice A n c] w λe w'=>e = .returned (.bool (decide (256<n)))/\w=w':=by
 by_cases h:256<n
 .have h':(256:Int)<n:= aC ;go_enter func144,ntmps144;go_wp2;go_ret;exact⟨by simp[h],rfl⟩
 .have h':¬(256:Int)<n:= aC ;go_enter func144,ntmps144;go_wp2;go_ret;exact⟨aH,rfl⟩
def KM(w:World)(g:Nat)(xs:List (Option Addr×Nat×Nat)):Prop:=∀ i x,xs[i]? = some x->w.cell? ⟨g,i,none⟩=some (.slice x.1 x.2.1 x.2.2)
def w7(xs:List (Option Addr×Nat×Nat)):Bool:=xs.any λx=>decide (256<x.2.1)
def Y9(xs:List (Option Addr×Nat×Nat))(w:World)(e:Ending)(w':World):Prop:=
 ∃ n:Int,e = .returned (.int .i64 n)/\(0<=n↔w7 xs=true)/\w=w'
def afz(g:Nat)(xs:List (Option Addr×Nat×Nat))(w:World)(hs:KM w g xs)(hn:xs.length<=1000):
 Calls prog 176 #[.slice (some ⟨g,0,none⟩) xs.length xs.length,.func (.func 144) #[] #[]] w (Y9 xs w):=by
 go_enter func176,ntmps176;go_wp2;go_loop [8] (λi=>∃ k:Nat,k<=xs.length/\i = .int .i64 k/\w7 (xs.take k)=false) (λi=>xs.length-(intOf i).toNat)
 case atStart=>exact⟨0,bV _,rfl,rfl⟩
 case round=>
  obtain⟨k,hk,rfl,ht⟩:=hrel;have HT:=amW ht;clear ht;by_cases h0:k<xs.length
  .have hc:=hs k _ (bt h0);have e1:((k:Int)).toNat=k:= aC ;have ec:=Zl g k;have HX:=amW (show w7 (xs.take (k+1))=(w7 (xs.take k)||decide (256<xs[k].2.1))by
    unfold w7;rw[fw h0,List.any_append];simp)
   have HM:=amW (cz h0);generalize xs[k]=x at *
   obtain⟨A,n,c⟩:=x;simp only at hc HX;by_cases hx:256<n
   .have hb:decide (256<n)=true:=by simp[hx]
    go_wp2_with (go_at_call 144;refine(Vo A n c _).mono ?_;rw[hb];rintro e w' ⟨rfl,rfl⟩)
    go_ret;refine⟨_,rfl,⟨λ_=>?_,λ_=> aC⟩,rfl⟩;unfold w7;rw[dJ];exact⟨_,HM.out,by simpa using hx⟩
   .have hb:decide (256<n)=false:= aN ;go_wp2_with (go_at_call 144;refine(Vo A n c _).mono ?_;rw[hb];rintro e w' ⟨rfl,rfl⟩)
    go_round
    case rel=>exact⟨k+1,aC,by go_num,by rw[HX.out,HT.out,hb];rfl⟩
    case measure=>simp[intOf];omega
  .go_wp2;go_ret;have e:xs.take k=xs:=cN aC;have:=HT.out;rw[e]at this;exact⟨_,rfl,by rw[this];simp,rfl⟩
def acd(g:Nat)(xs:List (Option Addr×Nat×Nat))(w:World)(hs:KM w g xs)(hn:xs.length<=1000):
 Calls prog 143 #[.slice (some ⟨g,0,none⟩) xs.length xs.length,.func (.func 144) #[] #[]] w λe w'=>e = .returned (.bool (w7 xs))/\w=w':=by
 have H:=amW (afz g xs w hs hn);go_enter func143,ntmps143;go_wp2_with fail;refine H.out.mono ?_;rintro e w' ⟨n,rfl,hn,rfl⟩;have HN:=amW hn;clear hn;go_wp2;go_ret;refine⟨J1 ?_,rfl⟩;have:=HN.out;cases h:w7 xs<;>simp[h]at this ⊢ <;> omega
def Vq(g:Nat)(xs:List (Option Addr×Nat×Nat))(w:World)(hs:KM w g xs)(hn:xs.length<=1000):
 Calls prog 93 #[.slice (some ⟨g,0,none⟩) xs.length xs.length] w λe w'=>e = .returned (.bool (w7 xs))/\w=w':=by
 have H:=amW (acd g xs w hs hn);go_enter func93,ntmps93;go_wp2_with fail;refine H.out.mono ?_;rintro e w' ⟨rfl,rfl⟩;go_wp2;go_ret;exact⟨rfl,rfl⟩
def Nu(g:Nat)(A:Option Addr)(n c:Nat)(w:World)(b:Bool)(h:w.cell? ⟨g,0,none⟩=some (.slice A n c))(hb:b=decide (256<n)):
 Calls prog 93 #[.slice (some ⟨g,0,none⟩) 1 1] w λe w'=>e = .returned (.bool b)/\w=w':=by
 have:=Vq g [(A,n,c)] w (λi x hx=>by
  obtain⟨h1,h2⟩:=b5.1 hx;obtain rfl:i=0:=by simp at h1;omega
  simp at h2;subst h2;exact h) aH 
 simpa[w7,hb]using this
def Vp(g:Nat)(A B:Option Addr)(n c m d:Nat)(w:World)(b:Bool)(h:w.cell? ⟨g,0,none⟩=some (.slice A n c))(k:w.cell? ⟨g,1,none⟩=some (.slice B m d))(hb:b=(decide (256<n)||decide (256<m))):
 Calls prog 93 #[.slice (some ⟨g,0,none⟩) 2 2] w λe w'=>e = .returned (.bool b)/\w=w':=by
 have:=Vq g [(A,n,c),(B,m,d)] w (λi x hx=>by
  obtain⟨h1,h2⟩:=b5.1 hx;simp at h1;rcases i with _|_|i
  .simp at h2;subst h2;exact h
  .simp at h2;subst h2;exact k
  .omega) aH 
 simpa[w7,hb]using this
def F3(A:Option Addr)(c:Nat)(L:List Nat)(w:World)(hs:Sl w A c L)(hl:(iz L).length<=256):
 Calls prog 94 #[.slice A L.length c] w (CL w (iz L) 0):=by
 have hT:=amW (uT A c L w hs);have kB:=hs.ud;have hC:=hs.cap;have hL:=hs.qW;have H2:=amW (λw' (h:Sl w' A c (iz L))=>Lf A c (iz L) w' h);generalize iz L=M at *
 obtain⟨n,hn⟩:∃ n,n=M.length:=⟨_,rfl⟩
 rw[<-hn]at hT hl H2;have HN:=amW hn;clear hn;go_enter func94,ntmps94;go_wp2_with fail;refine hT.out.mono ?_;rintro e w' ⟨rfl,rfl⟩;go_wp2_with fail;refine(Nu _ A n c _ false ?_ aN).mono ?_
 .go_simp
 rintro e w' ⟨rfl,rfl⟩;go_wp2_with fail;refine(H2.out _ (kB.alloc _)).mono ?_;rintro e w' ⟨rfl,rfl⟩;go_wp2;go_ret2;exact⟨A,n,by rw[HN.out];rfl,by have:=kB.Q9.alloc (.cells #[.slice A n c] 29);rw[HN.out]at this ⊢;exact this,iB.alloc _ _⟩
def Kp(a b:Nat)(ha:a<18446744073709551616)(hb:b<18446744073709551616):bits .or .u64 (a:Int) (b:Int)=((a |||b:Nat):Int):=by
 have hx:a |||b<2^64:=amu aC aC 
 have h1:(BitVec.ofInt 64 (a:Int)).toNat=a:=by
  rw[gv,gw];exact bX aC 
 have h2:(BitVec.ofInt 64 (b:Int)).toNat=b:=by
  rw[gv,gw];exact bX aC 
 show IntKind.u64.wrap ((BitVec.ofInt 64 (a:Int) |||BitVec.ofInt 64 (b:Int)).toNat:Int)=_;rw[BitVec.toNat_or,h1,h2,IntKind.wrap_u64];omega
def JO(a b k:Nat)(h:a<2^k):a |||b*2^k=a+b*2^k:=by
 rw[bD,Nat.or_comm,<-Nat.two_pow_add_eq_or_of_lt h];omega
def Sl.drop{w:World}{A:Option Addr}{c:Nat}{L:List Nat}(h:Sl w A c L)(k:Nat):Sl w (A.map (·.add k)) (c-k) (L.drop k):=
 ⟨by have:=h.cap;rw[eB];omega,bg (eD _ _) h.qW,h.ok.drop k,(λe=>by
  rcases A with _|ad
  .rw [h.xL rfl];omega
  .cases e),λi x hx=>by
  rw[ez]at hx;obtain⟨b,o,rfl,h1,h2⟩:=h.cell _ _ hx;exact⟨b,o+k,by rw[ct,Be],h1,by rw[cQ];exact h2⟩⟩
def part(T:List Nat)(k:Nat):List Nat:=T.take k++List.replicate (T.length-k) 0
def ah2(T:List Nat):part T 0=List.replicate T.length 0:=by unfold part;simp
def ah0(T:List Nat):part T T.length=T:=by unfold part;simp
def ah1(T:List Nat)(k:Nat)(h:k<T.length):(part T k)[k]? = some 0:=by
 unfold part;rw[fJ aQ,b8,eE,aZ aC]
def WE(T:List Nat)(k x:Nat)(h:T[k]? = some x):(part T k).set k x=part T (k+1):=by
 obtain⟨h1,rfl⟩:=b5.1 h;unfold part;rw[List.set_append_right _ _ aQ,b8,dc aC,cX,
  fw h1,(aC:T.length-k=(T.length-(k+1))+1),List.replicate_succ,List.set_cons_zero,amn]
 rfl
def ajU(x y s:Nat)(hx:x<4294967296)(hy:y<4294967296):
 bits BinOp.or IntKind.u64 (x:Int) ((y:Int)*4294967296)/2^s%4294967296=(((x+4294967296*y)/2^s%4294967296:Nat):Int):=by
 have e:((y:Int)*4294967296)=((y*2^32:Nat):Int):= aH ;rw[e,Kp x (y*2^32) aC aC,JO x y 32 aC];simp[bD]
def ajV(x s:Nat):(x:Int)/2^s%4294967296=(((x+4294967296*0)/2^s%4294967296:Nat):Int):=by
 simp
def NQ(A:Option Addr)(c:Nat)(L:List Nat)(n:Nat)(w:World)(hs:Sl w A c L)(hlen:L.length<=100000000)(hn:n<=65536):
 Calls prog 95 #[.slice A L.length c,.int .i64 n] w (xg w (qh (n%32) ((iz L).drop (n/32)))):=by
 have hT:=amW (uT A c L w hs);have kB:=hs.ud;have nj:=pj L;have hC:=kB.cap;have hL:=hs.qW;unfold mr at nj;generalize iz L=M at *
 obtain⟨m,hm⟩:∃ m,m=M.length:=⟨_,rfl⟩
 rw[<-hm]at hT nj hC;have HM:=amW hm;clear hm;by_cases h0:m<=n/32
 .go_enter func95,ntmps95;go_wp2_with fail;refine hT.out.mono ?_;rintro e w' ⟨rfl,rfl⟩;go_wp2;go_ret;have:M.drop (n/32)=[]:=dQ (by rw[<-HM.out];exact h0);rw[this];exact⟨none,0,rfl,Sl.nil _,iB.refl _⟩
 .obtain ⟨ab,ao,rfl,_,_⟩:=kB.mu (i:=0) (by have:=HM.out;omega);have hK:=kB.drop (n/32);have uy:=amW (show m-n/32=(M.drop (n/32)).length by rw[eB,HM.out]);have oh:n/32<c:= aC ;have vH:=FT (m-n/32) aC;have pN:0<m-n/32:= aC ;have xy:m-n/32<=100000000:= aC ;generalize M.drop (n/32)=K at *
  simp only[ct,Be]at hK;have vD:=amW (Kb (n%32) K);have Md:=amW (X0 (n%32) K);have E8:=amW (AK (n%32) K);generalize qh (n%32) K=T at *
  go_enter func95,ntmps95;go_wp2_with fail;refine hT.out.mono ?_;rintro e w' ⟨rfl,rfl⟩;go_wp2;go_loopw [25] (λi wr=>∃ k:Nat,k<=m-n/32/\i = .int .i64 k/\Rw wr w.heap.size (part T k)/\iB w wr) (λi _=>m-n/32-(intOf i).toNat)
  case atStart=>
   refine⟨0,bV _,rfl,?_,iB.alloc _ _⟩;rw[ah2,vD.out,<-uy.out];exact Rw.AE _ _
  case round=>
   obtain⟨k,hk,rfl,hR,hb⟩:=hrel;by_cases im:k<m-n/32
   .have uE:k<K.length:=by have:=uy.out;omega
    obtain⟨ab',ao',e',_,c1⟩:=(hK.below hb).mu uE;cases e';have hg:=Md.out k uE;have ng:K[k]<4294967296:=hK.ok.get uE;have HK:=amW (bt uE);have c3:=hR.cell (ah1 T k (by have:=vD.out;omega));have c4:=hR.frozen k;by_cases IZ:k+1<m-n/32
    .have yD:k+1<K.length:=by have:=uy.out;omega
     obtain⟨ab',ao',e',_,c2⟩:=(hK.below hb).mu yD;cases e';have hy:K.getD (k+1) 0=K[k+1]:=by rw[bd,bt yD];rfl
     rw[hy]at hg;have qU:K[k+1]<4294967296:=hK.ok.get yD;have HG:=amW hg;clear hg hy;generalize K[k]=x at *
     generalize K[k+1]=y at *
     clear uE yD;go_wp2;go_roundw
     case rel=>
      rw[ajU x y (n%32) ng qU];exact⟨k+1,aC,by go_num,by rw[<-WE T k _ HG.out];exact hR.set k _,hb.setCell (bc _) _⟩
     case measure=>simp[intOf];omega
    .have hy:K.getD (k+1) 0=0:=by rw[bd,b7 (by have:=uy.out;omega)];rfl
     rw[hy]at hg;have HG:=amW hg;clear hg hy;generalize K[k]=x at *
     clear uE;go_wp2;go_roundw
     case rel=>
      rw[ajV x (n%32)];exact⟨k+1,aC,by go_num,by rw[<-WE T k _ HG.out];exact hR.set k _,hb.setCell (bc _) _⟩
     case measure=>simp[intOf];omega
   .go_wp2;go_ret;obtain rfl:k=m-n/32:= aC ;rw[uy.out,<-vD.out,ah0]at hR;have:=hR.sl E8.out (by have:=vD.out;have:=uy.out;omega);rw[vD.out,<-uy.out]at this;exact⟨_,_,by rw[vD.out,<-uy.out];rfl,this,hb⟩
def ajT{L:List Nat}(h:iD L)(n:Nat):iz (qh (n%32) ((iz L).drop (n/32)))=gR (val L/2^n):=by
 rw[sc (AK _ _),Kv h.iz,pJ]
def PH(w:World)(A:Option Addr)(n c:Nat):(w.alloc (.cells #[.slice A n c] 29)).cell? ⟨w.heap.size,0,none⟩=some (.slice A n c):=by
 rw[World.cell?_alloc_at _ _ _ _ rfl];rfl
def PI(w:World)(A B:Option Addr)(n c m d:Nat):(w.alloc (.cells #[.slice A n c,.slice B m d] 29)).cell? ⟨w.heap.size,0,none⟩=some (.slice A n c):=by
 rw[World.cell?_alloc_at _ _ _ _ rfl];rfl
def PJ(w:World)(A B:Option Addr)(n c m d:Nat):(w.alloc (.cells #[.slice A n c,.slice B m d] 29)).cell? ⟨w.heap.size,1,none⟩=some (.slice B m d):=by
 rw[World.cell?_alloc_at _ _ _ _ rfl];rfl
def Wb(A:Option Addr)(c:Nat)(L:List Nat)(n:Nat)(w:World)(hs:Sl w A c L)(hlen:L.length<=256)(hn:n<=65536):
 Calls prog 49 #[.slice A L.length c,.int .i64 n] w (CL w (gR (val L/2^n)) 0):=by
 have hf:decide (256<L.length)=false:= aN ;have h3:=amW (ajT hs.ok n);have h4:(iz (qh (n%32) ((iz L).drop (n/32)))).length<=256:=by
  have h1:=pj (qh (n%32) ((iz L).drop (n/32)));unfold mr at h1;rw[Kb,eB]at h1;have h2:=pj L;unfold mr at h2;omega
 have H1:=amW (λw (h:Sl w A c L)=>NQ A c L n w h aC hn);generalize qh (n%32) ((iz L).drop (n/32))=T at *
 go_enter func49,ntmps49;go_wp2_with fail;refine(Nu _ A _ c _ false (PH _ _ _ _) aN).mono ?_;rintro e w' ⟨rfl,rfl⟩;go_wp2_with fail;refine(H1.out _ (hs.alloc _)).mono ?_;rintro e w' ⟨A',c',rfl,oD,hb⟩;go_wp2_with fail;refine(F3 A' c' T _ oD h4).mono ?_;rintro e w'' ⟨A'',c'',rfl,uH,nF⟩;go_wp2;go_ret2;rw[<-h3.out];exact⟨A'',c'',rfl,uH,(iB.alloc _ _).trans (hb.trans nF)⟩
def VC(n c:Nat)(hc:n<=c)(hn:c<=10000000000)(w:World):
 (Instr.makeSlice 29 (.int .i64 (n:Int)) (.int .i64 (c:Int))).run prog w = .ok (.slice (some ⟨w.heap.size,0,none⟩) n c) (w.alloc (.cells (oe (List.replicate c 0)).toArray 96)):=by
 obtain⟨i,hi,hz,h1,h2⟩:=info_parts Na;have hr:=run_make (P:=prog) w 29 96 i _ underlying29 hi hz .i64 .i64 n c aC aC (by rw[h2];omega) aC;rw[hr,fF,fF,h1,bZ];refine congrArg (λcs=>Result.ok (Value.slice (some ⟨w.heap.size,0,none⟩) n c) (w.alloc (.cells cs 96))) ?_;apply Array.ext
 .simp [madeCells,oe]
 .intro i h1 h2;simp[madeCells,oe,Value.cells,dE]
def Ow.AE(w:World)(base n c:Nat)(hb:base<=w.heap.size)(hc:n<=c)(hn:c<=10000000000):
 Ow (w.alloc (.cells (oe (List.replicate c 0)).toArray 96)) base (.slice (some ⟨w.heap.size,0,none⟩) n c) (List.replicate n 0):=
 ⟨⟨by simp[oe],.inr ⟨w.heap.size,c,_,aH,hb,heap_alloc_new w _,by simpa using hc,by simp only[maxLen];omega,by simp[oe],by
  simp[oe,List.take_replicate,dc hc]⟩⟩,iD.DY n⟩
def iB.own{w w1 w2:World}(h:iB w w1)(v:Value)(L:List Nat)(ho:Ow w1 w.heap.size v L)(hg:w1.grownBy w2 v.ownBlock):iB w w2:=
 h.grown hg h.size (λk hk=>(ho.row.lt k hk).1)
def XW(x q s:Nat)(hx:x<4294967296)(hs:s<32)(hq:q<2^s):
 bits BinOp.or IntKind.u64 (IntKind.u64.wrap ((x:Int)*2^s)) (q:Int)=((x*2^s+q:Nat):Int)/\x*2^s+q<18446744073709551616/\(x*2^s+q)/4294967296<2^s:=by
 have hp:2^s<=2^31:=bH aE aC;have e31:(2:Nat)^31=2147483648:= aE ;have h1:(x+1)*2^s<=4294967296*2^s:=bK _ hx;rw[bS,bU]at h1;have h2:x*2^s<4294967296*2^s:=de hx (bn aE);refine⟨?_,aC,aC⟩;have e:((x:Int)*2^s)=((x*2^s:Nat):Int):= aH ;rw[e,IntKind.wrap_u64,show((x*2^s:Nat):Int)%18446744073709551616=((x*2^s:Nat):Int)by omega,Kp _ _ aC aC,Nat.or_comm,JO q x s hq,Nat.add_comm]
def Wf(A:Option Addr)(c:Nat)(L:List Nat)(n:Nat)(w:World)(hs:Sl w A c L)(hlen:L.length<=100000000)(hn:n<=65536):
 Calls prog 178 #[.slice A L.length c,.int .i64 n] w (λe w'=>∃ T,val T=val L*2^n/\iD T/\T.length=n/32+(iz L).length+1/\xg w T e w'):=by
 have hT:=amW (uT A c L w hs);have kB:=hs.ud;have nj:=pj L;have hC:=kB.cap;have hL:=hs.qW;unfold mr at nj;have hv:=amW (pJ L);generalize iz L=M at *
 obtain⟨m,hm⟩:∃ m,m=M.length:=⟨_,rfl⟩
 rw[<-hm]at hT nj hC;have HM:=amW hm;clear hm;have vH:=VC (n/32) (n/32+m+1) aC aC;rw[show((n/32:Nat):Int)=n/32 by omega,show((n/32+m+1:Nat):Int)=n/32+m+1 by omega]at vH;have L7:=amW (Ow.AE w w.heap.size (n/32) (n/32+m+1) (bc _) aC aC);go_enter func178,ntmps178;go_wp2_with fail;refine hT.out.mono ?_;rintro e w' ⟨rfl,rfl⟩;go_wp2;go_loopw [5,6,23] (λv cy i wr=>∃ (k q:Nat) (O:List Nat),k<=m/\i = .int .i64 k/\cy = .int .u64 q/\q<2^(n%32)/\O.length=n/32+k/\val O+4294967296^(n/32+k)*q=val (M.take k)*2^(n%32)*4294967296^(n/32)/\Ow wr w.heap.size v O/\iB w wr) (λ_ _ i _=>m-(intOf i).toNat)
 case atStart=>
  exact⟨0,0,List.replicate (n/32) 0,bV _,rfl,rfl,bn aE,aH,by simp[CE],L7.out,iB.alloc _ _⟩
 case round=>
  obtain⟨k,q,O,hk,rfl,rfl,hq,hO,kF,oi,hb⟩:=hrel;have HV:=amW kF;have HO:=amW hO;have Ta:O.length<=200000000:= aC ;have wM:=amW hq;clear kF hO hq;obtain⟨OA,Oc,rfl,BP⟩:=oi.sl;by_cases im:k<m
  .have BH:k<M.length:=by have:=HM.out;omega
   obtain⟨ab,ao,rfl,_,c1⟩:=(kB.below hb).mu BH;have ng:M[k]<4294967296:=kB.ok.get BH;have HX:=amW (XV (c:=q) (s:=n%32) (n0:=n/32) BH HO.out HV.out);generalize M[k]=x at *
   obtain⟨hw,Av,yL⟩:=XW x q (n%32) ng (bF _ aE) wM.out;generalize x*2^(n%32)+q=z at *
   have FB:=amW yL;clear yL;have mo:O.length+[z%4294967296].length<=10000000000:= aN ;go_wp2_with (at_builtin;go_must (refine zD aG _ _ aG w.heap.size _ O aG (oi.alloc _) _ _ _ [z%4294967296] aG aG (Sl.DN _ _ (z%4294967296) aC aC) mo (wS hb.size _) ?_);intro v' w1 wK hg ss)
   go_roundw
   case rel=>
    exact⟨k+1,z/4294967296,O++[z%4294967296],aC,by go_num,by go_num,FB.out,by rw[cA,HO.out];rfl,HX.out,wK,(hb.trans (iB.alloc _ _)).own _ _ (oi.alloc _) hg⟩
   case measure=>simp[intOf];omega
  .obtain rfl:k=m:= aC ;have mo:O.length+[q].length<=10000000000:= aN ;have afl:q<4294967296:=by
    have:=wM.out;have hp:2^(n%32)<=2^31:=bH aE aC;have e31:(2:Nat)^31=2147483648:= aE ;omega
   have hqm:(q:Int)%4294967296=q:= aC ;go_wp2_with (at_builtin;go_must (refine zD aG _ _ aG w.heap.size _ O aG (oi.alloc _) _ _ _ [q] aG aG (Sl.DN _ _ q aC aC) mo (wS hb.size _) ?_);intro v' w1 wK hg ss)
   obtain⟨A',c',rfl,oD⟩:=wK.sl;go_ret;refine⟨O++[q],?_,oD.ok,by rw[cA,HO.out,<-HM.out];rfl,A',c',rfl,oD,(hb.trans (iB.alloc _ _)).own _ _ (oi.alloc _) hg⟩;have h:=HV.out;rw[cN (by rw[HM.out];exact bc _)]at h;rw[A9,HO.out,se,Ku,cH,bR,h,<-hv.out,tn,bA,<-bh];congr 2;omega
def V8(A:Option Addr)(c:Nat)(L:List Nat)(n:Nat)(w:World)(hs:Sl w A c L)(hlen:L.length<=256)(hn:n<=65536)(qR:(gR (val L*2^n)).length<=256):
 Calls prog 149 #[.slice A L.length c,.int .i64 n] w (CL w (gR (val L*2^n)) 0):=by
 have H1:=amW (λw (h:Sl w A c L)=>Wf A c L n w h aC hn);obtain⟨R,hR⟩:∃ R,R=gR (val L*2^n):=⟨_,rfl⟩
 rw[<-hR]at qR ⊢;have HR:=amW hR;clear hR;go_enter func149,ntmps149;go_wp2_with fail;refine(Nu _ A _ c _ false (PH _ _ _ _) aN).mono ?_;rintro e w' ⟨rfl,rfl⟩;go_wp2_with fail;refine(H1.out _ (hs.alloc _)).mono ?_;rintro e w' ⟨T,hT,E8,-,A',c',rfl,oD,hb⟩;have h3:=amW (show iz T=R by rw[sc E8,hT,HR.out]);clear hT E8;go_wp2_with fail;refine(F3 A' c' T _ oD (by rw[h3.out];exact qR)).mono ?_;rintro e w'' ⟨A'',c'',rfl,uH,nF⟩;go_wp2;go_ret2;rw[<-h3.out];exact⟨A'',c'',rfl,uH,(iB.alloc _ _).trans (hb.trans nF)⟩
def ajR(A:Option Addr)(c:Nat)(L:List Nat)(n:Nat)(w:World)(hs:Sl w A c L)(hlen:L.length<=256)(hn:n<=65536)(qR:(gR (val L*2^n)).length<=256):
 Calls prog 100 #[.slice A L.length c,.int .i64 n] w (xg w (gR (val L*2^n))):=by
 have H1:=amW (V8 A c L n w hs hlen hn qR);generalize gR (val L*2^n)=R at *
 go_enter func100,ntmps100;go_wp2_with fail;refine H1.out.mono ?_;rintro e w'' ⟨A'',c'',rfl,uH,nF⟩;go_wp2;go_ret;exact⟨A'',c'',rfl,uH,nF⟩
def ak7(a b:Nat)(ha:a<18446744073709551616)(hb:b<18446744073709551616):bits .and .u64 (a:Int) (b:Int)=((a &&& b:Nat):Int):=by
 have hx:a &&& b<2^64:=ff _ aC;have h1:(BitVec.ofInt 64 (a:Int)).toNat=a:=by
  rw[gv,gw];exact bX aC 
 have h2:(BitVec.ofInt 64 (b:Int)).toNat=b:=by
  rw[gv,gw];exact bX aC 
 show IntKind.u64.wrap ((BitVec.ofInt 64 (a:Int) &&& BitVec.ofInt 64 (b:Int)).toNat:Int)=_;rw[BitVec.toNat_and,h1,h2,IntKind.wrap_u64];omega
def El(z:Nat)(hz:z<18446744073709551616):bits BinOp.and IntKind.u64 (z:Int) 4294967295=(z:Int)%4294967296:=by
 have e:(4294967295:Int)=((4294967295:Nat):Int):=rfl;rw[e,ak7 z _ hz aC,show(4294967295:Nat)=2^32-1 by decide,amM];simp
def ajX(x y s:Nat)(hx:x<4294967296)(hy:y<4294967296):
 bits BinOp.and IntKind.u64 (bits BinOp.or IntKind.u64 (x:Int) ((y:Int)*4294967296)/2^s) 4294967295=(((x+4294967296*y)/2^s%4294967296:Nat):Int):=by
 have e:((y:Int)*4294967296)=((y*2^32:Nat):Int):= aH ;rw[e,Kp x (y*2^32) aC aC,JO x y 32 aC];have h:(x+y*2^32)/2^s<18446744073709551616:=ck (bT _ _) aC;have h2:=El _ h;rw[show(((x+y*2^32:Nat):Int)/2^s)=(((x+y*2^32)/2^s:Nat):Int)by simp,h2];simp[bD]
def ajW(x s:Nat)(hx:x<4294967296):bits BinOp.and IntKind.u64 ((x:Int)/2^s) 4294967295=(((x+4294967296*0)/2^s%4294967296:Nat):Int):=by
 have h:x/2^s<18446744073709551616:=ck (bT _ _) aC;rw[show((x:Int)/2^s)=((x/2^s:Nat):Int)by simp,El _ h];simp
def aiL(A:Option Addr)(c:Nat)(M:List Nat)(n:Nat)(w:World)(kB:Sl w A c M)(hlen:M.length<=3000)(hn:n<=100000):
 Calls prog 130 #[.slice A M.length c,.int .i64 n] w (xg w (gR (val M/2^n))):=by
 have hC:=kB.cap;have hL:=kB.qW;have Mu:Hid (iz (qh (n%32) (M.drop (n/32)))=gR (val M/2^n)):=by
  show _=_;rw[sc (AK _ _),Kv kB.ok]
 obtain⟨R,hR⟩:∃ R,R=gR (val M/2^n):=⟨_,rfl⟩
 rw[<-hR]at Mu ⊢;clear hR;obtain⟨m,hm⟩:∃ m,m=M.length:=⟨_,rfl⟩
 rw[<-hm]at hlen hC ⊢;have HM:=amW hm;clear hm;by_cases h0:m<=n/32
 .go_enter func130,ntmps130;go_wp2;go_ret;have:M.drop (n/32)=[]:=dQ (by rw[<-HM.out];exact h0);have h:=Mu.out;rw[this]at h;rw[<-h];exact⟨none,0,rfl,Sl.nil _,iB.refl _⟩
 .obtain ⟨ab,ao,rfl,_,_⟩:=kB.mu (i:=0) (by have:=HM.out;omega);have hK:=kB.drop (n/32);have uy:=amW (show m-n/32=(M.drop (n/32)).length by rw[eB,HM.out]);have oh:n/32<c:= aC ;have pN:0<m-n/32:= aC ;have xy:m-n/32<=3000:= aC ;generalize M.drop (n/32)=K at *
  simp only[ct,Be]at hK;have vD:=amW (Kb (n%32) K);have Md:=amW (X0 (n%32) K);have E8:=amW (AK (n%32) K);generalize qh (n%32) K=T at *
  go_enter func130,ntmps130;go_wp2;go_loopw [5,6] (λv i wr=>∃ (k:Nat) (O:List Nat),k<=m-n/32/\i = .int .i64 k/\O=T.take k/\Ow wr w.heap.size v O/\iB w wr) (λ_ i _=>m-n/32-(intOf i).toNat)
  case atStart=>
   exact⟨0,[],bV _,rfl,aH,Ow.nil _ _,iB.refl _⟩
  case round=>
   obtain⟨k,O,hk,rfl,hO,oi,hb⟩:=hrel;have Ta:O.length<=3000:=by rw[hO,b8];omega
   have HO:=amW hO;clear hO;obtain⟨OA,Oc,rfl,BP⟩:=oi.sl;by_cases im:k<m-n/32
   .have uE:k<K.length:=by have:=uy.out;omega
    obtain⟨ab',ao',e',_,c1⟩:=(hK.below hb).mu uE;cases e';have hg:=Md.out k uE;have ng:K[k]<4294967296:=hK.ok.get uE;have HK:=amW (bt uE);by_cases IZ:k+1<m-n/32
    .have yD:k+1<K.length:=by have:=uy.out;omega
     obtain⟨ab',ao',e',_,c2⟩:=(hK.below hb).mu yD;cases e';have hy:K.getD (k+1) 0=K[k+1]:=by rw[bd,bt yD];rfl
     rw[hy]at hg;have qU:K[k+1]<4294967296:=hK.ok.get yD;have HG:=amW hg;clear hg hy;generalize K[k]=x at *
     generalize K[k+1]=y at *
     clear uE yD;have hw:=ajX x y (n%32) ng qU;have hz:(x+4294967296*y)/2^(n%32)%4294967296<4294967296:=bF _ aE;generalize (x+4294967296*y)/2^(n%32)%4294967296=z at *
     have mo:O.length+[z].length<=10000000000:= aN ;go_wp2_with (at_builtin;go_must (refine zD aG _ _ aG w.heap.size _ O aG (oi.alloc _) _ _ _ [z] aG aG (Sl.DN _ _ z aC aC) mo (wS hb.size _) ?_);intro v' w1 wK hg ss)
     go_roundw
     case rel=>
      exact⟨k+1,O++[z],aC,by go_num,by rw[HO.out,amv,HG.out];rfl,wK,(hb.trans (iB.alloc _ _)).own _ _ (oi.alloc _) hg⟩
     case measure=>simp[intOf];omega
    .have hy:K.getD (k+1) 0=0:=by rw[bd,b7 (by have:=uy.out;omega)];rfl
     rw[hy]at hg;have HG:=amW hg;clear hg hy;generalize K[k]=x at *
     clear uE;have hw:=ajW x (n%32) ng;have hz:(x+4294967296*0)/2^(n%32)%4294967296<4294967296:=bF _ aE;generalize (x+4294967296*0)/2^(n%32)%4294967296=z at *
     have mo:O.length+[z].length<=10000000000:= aN ;go_wp2_with (at_builtin;go_must (refine zD aG _ _ aG w.heap.size _ O aG (oi.alloc _) _ _ _ [z] aG aG (Sl.DN _ _ z aC aC) mo (wS hb.size _) ?_);intro v' w1 wK hg ss)
     go_roundw
     case rel=>
      exact⟨k+1,O++[z],aC,by go_num,by rw[HO.out,amv,HG.out];rfl,wK,(hb.trans (iB.alloc _ _)).own _ _ (oi.alloc _) hg⟩
     case measure=>simp[intOf];omega
   .have hOT:Hid (iz O=R):=by
     show iz O=R;rw[HO.out,cN (by rw[vD.out,<-uy.out];omega)];exact Mu.out
    go_wp2_with fail;refine(OG OA Oc O _ BP aC).mono ?_;rintro e w' ⟨A'',c'',rfl,uH,nF⟩;go_wp2;go_ret;rw[<-hOT.out];exact⟨A'',c'',rfl,uH,hb.trans nF⟩
def LV{L:List Nat}{k:Nat}(h:k<L.length):L.getD k 0=L[k]:=by
 rw[bd,bt h];rfl
def LU{L:List Nat}{k:Nat}(h:¬k<L.length):L.getD k 0=0:=by
 rw[bd,b7 aC];rfl
def ak2(x s:Nat)(hx:x<4294967296):bits BinOp.and IntKind.u32 ((x:Int)/2^s) 1=((x/2^s%2:Nat):Int):=by
 have h:x/2^s<4294967296:=ck (bT _ _) aC;rw[show((x:Int)/2^s)=((x/2^s:Nat):Int)by simp,show(1:Int)=((1:Nat):Int)from rfl,bits_and_u32_nat _ _ h aE,Nat.and_one_is_mod]
def aiO(A:Option Addr)(c:Nat)(L:List Nat)(w:World)(hs:Sl w A c L)(h1:L.length<=3000)(h0:val L≠0):
 Calls prog 129 #[.slice A L.length c] w λe w'=>e = .returned (.int .i64 (jj (val L)))/\w=w':=by
 have hz:=ED hs.ok h0;have HB:=amW (λk (hk:k<jj (val L))=>aai h0 hk);have HE:=amW (aah h0);have HV:=amW (λk=>aaj hs.ok k);generalize jj (val L)=t at *
 go_enter func129,ntmps129;go_wp2;go_loop [3] (λi=>∃ k:Nat,k<=t/\i = .int .i64 k) (λi=>t-(intOf i).toNat)
 case atStart=>exact⟨0,bV _,rfl⟩
 case round=>
  obtain⟨k,hk,rfl⟩:=hrel;have MB:k/32<L.length:= aC ;obtain⟨ab,ao,rfl,_,c1⟩:=hs.mu MB;have hv:=HV.out k MB;have ng:L[k/32]<4294967296:=hs.ok.get MB;generalize L[k/32]=x at *
  clear HV;have BB:=ak2 x (k%32) ng;rw[<-hv]at BB;clear hv;by_cases hkt:k<t
  .rw [HB.out k hkt]at BB;have hb:(bits BinOp.and IntKind.u32 ((x:Int)/2^(k%32)) 1==0)=true:=by rw[BB];rfl
   clear BB;go_wp2;go_round
   case rel=>exact⟨k+1,aC,by go_num⟩
   case measure=>simp[intOf];omega
  .obtain rfl:k=t:= aC ;rw[HE.out]at BB;have hb:(bits BinOp.and IntKind.u32 ((x:Int)/2^(k%32)) 1==0)=false:=by rw[BB];rfl
   clear BB;go_wp2;go_ret;exact⟨rfl,rfl⟩
def VT{O:List Nat}{p a b c o:Nat}(ho:O[p]? = some o):
 val (O.set p ((a*b+o+c)%4294967296))+4294967296^(p+1)*((a*b+o+c)/4294967296)=val O+4294967296^p*c+4294967296^p*(a*b):=by
 obtain⟨hp,rfl⟩:=b5.1 ho;have h:=Pn (x:=(a*b+O[p]+c)%4294967296) hp;have e:=congrArg (4294967296^p * ·) (er (a*b+O[p]+c) 4294967296);simp only[bO]at e;rw[bC,bA];omega
def QP{O:List Nat}{p c o:Nat}(ho:O[p]? = some o):
 val (O.set p ((o+c)%4294967296))+4294967296^(p+1)*((o+c)/4294967296)=val O+4294967296^p*c:=by
 have h:=VT (a:=0) (b:=0) (c:=c) ho;simpa using h
def sd(x:Nat)(h:x<18446744073709551616):IntKind.u64.wrap (x:Int)=x:=by rw[IntKind.wrap_u64];omega
def Fp.iD.XU{L:List Nat}(h:iD L)(k:Nat)(x:Nat):iD (L.set k (x%4294967296)):=h.set k (bF _ aE)
def OF(s:Bool)(A:Option Addr)(c:Nat)(L:List Nat)(e:Int)(w:World)(hs:Sl w A c L)(hlen:L.length<=3000)(mh:-1000000<=e)(lf:e<=1000000):
 Calls prog 78 #[.bool s,.slice A L.length c,.int .i64 e] w (xV w (canon s (val L) e)):=by
 by_cases h0:val L=0
 .have o0:=amW (show canon s (val L) e=il by unfold canon;rw[aZ h0];rfl);have MQ:iz L=[]:=by rw[sc hs.ok,h0,nP]
  have hT:=amW (λw (h:Sl w A c L)=>OG A c L w h aC);rw[MQ]at hT;clear MQ h0;go_enter func78,ntmps78;go_wp2_with fail;refine(hT.out _ (hs.alloc _)).mono ?_;rintro e w' ⟨A',c',rfl,oD,hb⟩;have bx:=(je.new w false none 0 0 0).ext hb;have b0:=bx.c0;have b1:=bx.c1;have b2:=bx.c2;have f0:=bx.fr 0;have f1:=bx.fr 1;have f2:=bx.fr 2;go_wp2;rw[o0.out];have hz:gR il.m=[]:=nP;exact yl rfl rfl rfl (bx.set _ _ _ _ _) (by rw[hz];rfl) (by rw[hz];exact bx.re (Sl.nil _) _ _ _ _ _) (je.qF ((iB.alloc _ _).trans hb) (bc _) _ _ _ _ _)
 .have o0:=amW (show canon s (val L) e=⟨s,val L/2^jj (val L),e+jj (val L)⟩by unfold canon;rw[aY h0]);have hT:=amW (λw (h:Sl w A c L)=>OG A c L w h aC);have Ud:=pj L;unfold mr at Ud;have hv:=pJ L;have me:=hs.ok.iz;generalize iz L=M at *
  rw[<-hv]at h0 o0 ⊢;clear hv;have hZ:=amW (λA c w (h:Sl w A c M)=>aiO A c M w h aC h0);have tN:jj (val M)<=100000:=by have:=ED me h0;omega
  have hR:=amW (λA c w (h:Sl w A c M)=>aiL A c M (jj (val M)) w h aC tN);have sZ:M.length≠0:=by intro h;rw[dh h]at h0;exact h0 rfl
  generalize val M/2^jj (val M)=q at *
  generalize jj (val M)=t at *
  obtain⟨m,hm⟩:∃ m,m=M.length:=⟨_,rfl⟩
  go_enter func78,ntmps78;go_wp2_with fail;refine(hT.out _ (hs.alloc _)).mono ?_;rintro e' w1 ⟨A1,c1,rfl,uI,iO⟩;go_wp2_with fail;refine(hZ.out _ _ _ uI).mono ?_;rintro e' w2 ⟨rfl,rfl⟩;go_wp2_with fail;refine(hR.out _ _ _ uI).mono ?_;rintro e' w2 ⟨A2,c2,rfl,kB,lL⟩;have hb:=iO.trans lL;have bx:=(je.new w false none 0 0 0).ext hb;have b0:=bx.c0;have b1:=bx.c1;have b2:=bx.c2;have f0:=bx.fr 0;have f1:=bx.fr 1;have f2:=bx.fr 2;go_wp2;rw[o0.out];exact yl rfl rfl rfl (bx.set _ _ _ _ _) rfl (bx.re kB _ _ _ _ _) (je.qF ((iB.alloc _ _).trans hb) (bc _) _ _ _ _ _)
def acO(A:Option Addr)(c:Nat)(L:List Nat)(w:World)(hs:Sl w A c L)(h1:L.length<=3000)(h0:val L≠0)(hT:Tb w):
 Calls prog 148 #[.slice A L.length c] w λe w'=>e = .returned (.int .i64 (jj (val L)))/\w=w':=by
 have me:=hs.ok;have HV:=amW (λi hi h hx=>acg me i hi h hx);have H0:=amW h0;clear h0;go_enter func148,ntmps148;go_wp2;go_loop [3,8] (λn i=>∃ k:Nat,k<=L.length/\i = .int .i64 k/\n = .int .i64 ((32*k:Nat):Int)/\∀ j,(hj:j<k)->L[j]? = some 0) (λ_ i=>L.length-(intOf i).toNat)
 case atStart=>exact⟨0,bV _,rfl,rfl,λj hj=> aC⟩
 case round=>
  obtain⟨k,hk,rfl,rfl,hz⟩:=hrel;have HZ:=amW hz;clear hz;by_cases im:k<L.length
  .obtain ⟨ab,ao,rfl,_,c1⟩:=hs.mu im;have ng:L[k]<4294967296:=me.get im;have HG:=amW (bt im);have HC:=amW (λhx=>HV.out k im (λj hj=>by have:=HZ.out j hj;rw[bt aC]at this;simpa using this) hx);clear HV;generalize L[k]=x at *
   by_cases hx:x=0
   .have HX:=amW hx;clear hx;have hb:((x:Int) != 0)=false:=by have:=HX.out;simp;omega
    go_wp2;go_round
    case rel=>exact⟨k+1,aC,by go_num,by go_num,λj hj=>by
     by_cases e:j=k
     .subst e;rw[HG.out,HX.out]
     .exact HZ.out j aC⟩
    case measure=>simp[intOf];omega
   .have hb:((x:Int) != 0)=true:= aN ;have HX:=amW (HC.out hx);have alS:jj x<=32:=by
     have h1:=Gh hx;rcases fB 32 (jj x)with h|h
     .have:=gy (a:=2) aE h;have e:(2:Nat)^32=4294967296:= aE ;omega
     .exact h
    go_wp2_with (go_at_call 177;refine(akZ x hx ng _ hT).mono ?_;rintro e w' ⟨rfl,rfl⟩)
    go_ret;exact⟨oV (by rw[HX.out];simp),rfl⟩
  .exfalso;have:val L=0:=by
    rw[GL];intro y hy;obtain⟨j,hj,rfl⟩:=List.getElem_of_mem hy;have:=HZ.out j aC;rw[bt hj]at this;simpa using this
   exact H0.out this
def Ib(s:Bool)(A:Option Addr)(c:Nat)(L:List Nat)(e:Int)(w:World)(hs:Sl w A c L)(_hlen:L.length<=100000)(nj:(iz L).length<=256)(mh:-1000000<=e)(lf:e<=1000000)(ki:Tb w):
 Calls prog 98 #[.bool s,.slice A L.length c,.int .i64 e] w (xV w (canon s (val L) e)):=by
 have hT:=amW (λw (h:Sl w A c L)=>acV A c L w h);have kB:=hs.ud;have hv:=pJ L;have me:=hs.ok.iz;have BY:=zz L;generalize iz L=M at *
 rw[<-hv];clear hv;by_cases h0:val M=0
 .have o0:=amW (show canon s (val M) e=il by unfold canon;rw[aZ h0];rfl);have sZ:Hid (M.length=0):=by
   show M.length=0;rw[BY.ER me,h0,nP];rfl
  obtain⟨m,hm⟩:∃ m,m=M.length:=⟨_,rfl⟩
  rw[<-hm]at hT sZ;clear hm h0;obtain rfl:m=0:=sZ.out;clear sZ;go_enter func98,ntmps98;go_wp2_with fail;refine(hT.out _ (hs.alloc _)).mono ?_;rintro e w' ⟨rfl,rfl⟩;have bx:=je.new w false none 0 0 0;have b0:=bx.c0;have b1:=bx.c1;have b2:=bx.c2;have f0:=bx.fr 0;have f1:=bx.fr 1;have f2:=bx.fr 2;go_wp2;rw[o0.out];have hz:gR il.m=[]:=nP;exact yl rfl rfl rfl bx (by rw[hz];rfl) (by rw[hz];exact Sl.nil _) (iB.alloc _ _)
 .have o0:=amW (show canon s (val M) e=⟨s,val M/2^jj (val M),e+jj (val M)⟩by unfold canon;rw[aY h0]);have hZ:=amW (λA c w (h:Sl w A c M) (ht:Tb w)=>acO A c M w h aC h0 ht);have tN:jj (val M)<=65536:=by have:=ED me h0;omega
  have hR:=amW (λA c w (h:Sl w A c M)=>Wb A c M (jj (val M)) w h nj tN);have sZ:M.length≠0:=by intro h;rw[dh h]at h0;exact h0 rfl
  have wN:(gR (val M/2^jj (val M))).length<=256:=by
   refine uO (ck (bT _ _) ?_);exact bJ (oo me) (bH aE nj)
  generalize val M/2^jj (val M)=q at *
  generalize jj (val M)=t at *
  have hK:=amW (λA c w (h:Sl w A c (gR q))=>Lg A c (gR q) w h aC);have hP:=amW (λA c w (h:Sl w A c (gR q))=>Lf A c (gR q) w h);obtain⟨Q,hQ⟩:∃ Q,Q=gR q:=⟨_,rfl⟩
  have HQ:=amW hQ;rw[<-hQ]at hR hK hP wN;clear hQ;go_enter func98,ntmps98;go_wp2_with fail;refine(hT.out _ (hs.alloc _)).mono ?_;rintro e' w1 ⟨rfl,rfl⟩;go_wp2_with fail;refine(hZ.out _ _ _ (kB.alloc _) (ki.alloc _)).mono ?_;rintro e' w2 ⟨rfl,rfl⟩;go_wp2_with fail;refine(hR.out _ _ _ (kB.alloc _)).mono ?_;rintro e' w2 ⟨A2,c2,rfl,afn,lL⟩;go_wp2_with fail;refine(hK.out _ _ _ afn).mono ?_;rintro e' w3 ⟨A3,c3,rfl,Fv,qQ⟩;go_wp2_with fail;refine(hP.out _ _ _ Fv).mono ?_;rintro e' w4 ⟨rfl,rfl⟩;have hb:=lL.trans qQ;have bx:=(je.new w false none 0 0 0).ext hb;have b0:=bx.c0;have b1:=bx.c1;have b2:=bx.c2;have f0:=bx.fr 0;have f1:=bx.fr 1;have f2:=bx.fr 2;go_wp2;rw[o0.out];rw[HQ.out]at Fv ⊢;exact yl rfl rfl rfl (bx.set _ _ _ _ _) rfl (bx.re Fv.Q9 _ _ _ _ _) (je.qF ((iB.alloc _ _).trans hb) (bc _) _ _ _ _ _)
def Lq(A:Option Addr)(c:Nat)(L:List Nat)(w:World)(hs:Sl w A c L)(hlen:L.length<=100000000):
 Calls prog 91 #[.slice A L.length c] w λe w'=>e = .returned (.int .i64 (gZ (val L)))/\w=w':=by
 have H:=amW (V5 A c L w hs hlen);go_enter func91,ntmps91;go_wp2_with fail;refine H.out.mono ?_;rintro e w' ⟨rfl,rfl⟩;go_wp2;go_ret;exact⟨rfl,rfl⟩
def uJ(m:Nat)(e:Int):Bool:=decide (mv ⟨false,m,e⟩)
def M9(s:Bool)(A:Option Addr)(c:Nat)(L:List Nat)(e:Int)(w:World)(hs:Sl w A c L)(hlen:L.length<=100000000)(mh:-9223372036854775808<=e)(lf:e<=9223372036854775807):
 Calls prog 90 #[.agg #[.bool s,.slice A L.length c,.int .i64 e]] w λr w'=>r = .returned (.bool (uJ (val L) e))/\iB w w':=by
 have H:=amW (λw (h:Sl w A c L)=>Lq A c L w h hlen);have hn:Hid (uJ (val L) e=decide (gZ (val L)=0\/gZ (val L)<=4096 /\ -16384<=e/\e<=16384/\(gZ (val L):Int)+e<=16384)):=by
  have h:gZ (val L)=0↔val L=0:=by
   constructor
   .intro h;apply bM;intro h0;have:=nM h0;omega
   .intro h;rw[h];rfl
  exact amw.2 (or_congr h.symm Iff.rfl)
 have Ah:gZ (val L)<=32*L.length:=lR.2 (by rw[<-tn];exact oo hs.ok);generalize gZ (val L)=n at *
 generalize uJ (val L) e=b at *
 have ae1:n=0\/(0<n/\4096<n)\/(0<n/\n<=4096/\e < -16384)\/(0<n/\n<=4096 /\ -16384<=e/\16384<e)\/(0<n/\n<=4096 /\ -16384<=e/\e<=16384/\16384<(n:Int)+e)\/(0<n/\n<=4096 /\ -16384<=e/\e<=16384/\(n:Int)+e<=16384):= aC ;rcases ae1 with h|⟨h,h1⟩|⟨h,h1,h2⟩|⟨h,h1,h2,h3⟩|⟨h,h1,h2,h3,h4⟩|⟨h,h1,h2,h3,h4⟩
 .subst h;have hb:b=true:=by rw[hn.out];simp
  clear hn;subst hb;go_enter func90,ntmps90;go_wp2_with fail;refine(H.out _ (hs.alloc _)).mono ?_;rintro r w' ⟨rfl,rfl⟩;go_wp2;go_ret;exact⟨rfl,iB.alloc _ _⟩
 .have hb:b=false:=by rw[hn.out];simp;omega
  have qq:((n:Int)==0)=false:= aN ;have rK:decide ((n:Int)<=4096)=false:= aN ;clear hn;subst hb;go_enter func90,ntmps90;go_wp2_with fail;refine(H.out _ (hs.alloc _)).mono ?_;rintro r w' ⟨rfl,rfl⟩;go_wp2;go_ret;exact⟨rfl,iB.alloc _ _⟩
 .have hb:b=false:=by rw[hn.out];simp;omega
  have qq:((n:Int)==0)=false:= aN ;have rK:decide ((n:Int)<=4096)=true:= aN ;have mc:decide (-16384<=e)=false:= aN ;clear hn;subst hb;go_enter func90,ntmps90;go_wp2_with fail;refine(H.out _ (hs.alloc _)).mono ?_;rintro r w' ⟨rfl,rfl⟩;go_wp2;go_ret;exact⟨rfl,iB.alloc _ _⟩
 .have hb:b=false:=by rw[hn.out];simp;omega
  have qq:((n:Int)==0)=false:= aN ;have rK:decide ((n:Int)<=4096)=true:= aN ;have mc:decide (-16384<=e)=true:= aN ;have Dl:decide (e<=16384)=false:= aN ;clear hn;subst hb;go_enter func90,ntmps90;go_wp2_with fail;refine(H.out _ (hs.alloc _)).mono ?_;rintro r w' ⟨rfl,rfl⟩;go_wp2;go_ret;exact⟨rfl,iB.alloc _ _⟩
 .have hb:b=false:=by rw[hn.out];simp;omega
  have qq:((n:Int)==0)=false:= aN ;have rK:decide ((n:Int)<=4096)=true:= aN ;have mc:decide (-16384<=e)=true:= aN ;have Dl:decide (e<=16384)=true:= aN ;have hn4:decide ((n:Int)+e<=16384)=false:= aN ;clear hn;subst hb;go_enter func90,ntmps90;go_wp2_with fail;refine(H.out _ (hs.alloc _)).mono ?_;rintro r w' ⟨rfl,rfl⟩;go_wp2;go_ret;exact⟨rfl,iB.alloc _ _⟩
 .have hb:b=true:=by rw[hn.out];simp;omega
  have qq:((n:Int)==0)=false:= aN ;have rK:decide ((n:Int)<=4096)=true:= aN ;have mc:decide (-16384<=e)=true:= aN ;have Dl:decide (e<=16384)=true:= aN ;have hn4:decide ((n:Int)+e<=16384)=true:= aN ;clear hn;subst hb;go_enter func90,ntmps90;go_wp2_with fail;refine(H.out _ (hs.alloc _)).mono ?_;rintro r w' ⟨rfl,rfl⟩;go_wp2;go_ret;exact⟨rfl,iB.alloc _ _⟩
def ot(s:Bool)(L:List Nat)(e:Int):Prop:=nA L/\L.length<=256/\Dy.gX ⟨s,val L,e⟩
def RJ(s:Bool)(e:Int):ot s [] e↔s=false/\e=0:=by
 unfold ot;constructor
 .rintro ⟨_,_,hc,_⟩;rcases hc with⟨_,h1,h2⟩|h
  .exact ⟨h1,h2⟩
  .simp at h
 .rintro ⟨rfl,rfl⟩;exact⟨nA.nil,aH,rf⟩
def RH{s:Bool}{L:List Nat}{e:Int}{x y:Nat}(hx:L[0]? = some x)(hy:L[L.length-1]? = some y):
 ot s L e↔L.length<=256/\x%2=1/\y≠0/\uJ (val L) e=true:=by
 have T6:val L%2=x%2:=by
  cases L with
  |nil=>simp at hx
  |cons z l=>simp at hx;subst hx;simp only[se];omega
 have BY:nA L↔y≠0:=by
  rw[A7];obtain⟨h1,h2⟩:=b5.1 hy;constructor
  .intro h;rw[<-h2];exact h aC 
  .intro h _;rw[h2];exact h
 unfold ot uJ;rw[BY,gz];constructor
 .rintro ⟨h1,h2,hc,hr⟩;have r6:mv ⟨false,val L,e⟩:=hr;refine⟨h2,?_,h1,r6⟩;rcases hc with⟨h,_,_⟩|h
  .exfalso;have:=(BY.2 h1).Eb (by intro h0;subst h0;simp at hx);simp only at h;omega
  .rw [<-T6];exact h
 .rintro ⟨h1,h2,h3,h4⟩;exact⟨h3,h1,.inr (by show val L%2=1;rw[T6];exact h2),h4⟩
def ql{b:Bool}{P:Prop}(h:b=true↔P)(hn:¬P):b=false:=by
 cases b
 .rfl
 .exact absurd (h.1 rfl) hn
def KY{b:Bool}{P:Prop}(h:b=true↔P)(hn:P):b=true:=h.2 hn
def Qv{b v:Bool}{P:Prop}(h:b=true↔P)(hn:P↔v=true):b=v:=by
 cases b<;>cases v<;>simp_all
def Br(s:Bool)(A:Option Addr)(c:Nat)(L:List Nat)(e:Int)(w:World)(b:Bool)(hs:Sl w A c L)(mh:-9223372036854775808<=e)(lf:e<=9223372036854775807)(hb:b=true↔ot s L e):
 Calls prog 45 #[.agg #[.bool s,.slice A L.length c,.int .i64 e]] w λr w'=>r = .returned (.bool b)/\iB w w':=by
 have Dc:=hs.cap;have tN:=hs.qW;by_cases hL:L=[]
 .subst hL;rw[RJ]at hb;cases s
  .by_cases h:e=0
   .subst h;have:b=true:=by simpa using hb
    clear hb;subst this;go_enter func45,ntmps45;go_wp2;go_ret;exact⟨rfl,iB.alloc _ _⟩
   .have:b=false:=ql hb (by simp[h]);have h':(e==0)=false:= aN ;clear hb;subst this;go_enter func45,ntmps45;go_wp2;go_ret;exact⟨rfl,iB.alloc _ _⟩
  .have:b=false:=ql hb aH ;clear hb;subst this;go_enter func45,ntmps45;go_wp2;go_ret;exact⟨rfl,iB.alloc _ _⟩
 .have vJ:0<L.length:=fO.2 hL;clear hL;obtain⟨ab,ao,rfl,_,c1⟩:=hs.mu vJ;obtain⟨ab',ao',e',_,c2⟩:=hs.mu (i:=L.length-1) aC;cases e';have ng:=hs.ok.get vJ;have qU:=hs.ok.get (aC:L.length-1<L.length);rw[RH (bt vJ) (bt (aC:L.length-1<L.length))]at hb;have c1':w.cell? ⟨ab,ao,none⟩=some (.int .u32 (L[0]:Int)):=c1;clear c1;generalize L[0]=x at *
  generalize L[L.length-1]=y at *
  have HB:=amW hb;clear hb;have H:=amW (λw (h:Sl w (some ⟨ab,ao,none⟩) c L) (hl:L.length<=256)=>M9 s _ c L e w h aC mh lf);obtain⟨n,hn⟩:∃ n,n=L.length:=⟨_,rfl⟩
  rw[<-hn]at vJ c2 H HB Dc ⊢;clear hn;generalize uJ (val L) e=v at *
  have qq:((n:Int)==0)=false:= aN ;by_cases h1:n<=256
  .have rK:decide ((n:Int)<=256)=true:= aN ;by_cases h2:x%2=1
   .have mc:((x:Int)%2==1)=true:= aN ;by_cases h3:y=0
    .have:b=false:=ql HB.out (by simp[h3]);have Dl:((y:Int) != 0)=false:= aN ;clear HB;subst this;go_enter func45,ntmps45;go_wp2;go_ret;exact⟨rfl,iB.alloc _ _⟩
    .have:b=v:=Qv HB.out (by simp[h1,h2,h3]);have Dl:((y:Int) != 0)=true:= aN ;clear HB;subst this;go_enter func45,ntmps45;go_wp2_with fail;refine(H.out _ (hs.alloc _) h1).mono ?_;rintro r w' ⟨rfl,nF⟩;go_wp2;go_ret;exact⟨rfl,(iB.alloc _ _).trans nF⟩
   .have:b=false:=ql HB.out (λh=>h2 h.2.1);have mc:((x:Int)%2==1)=false:= aN ;clear HB;subst this;go_enter func45,ntmps45;go_wp2;go_ret;exact⟨rfl,iB.alloc _ _⟩
  .have:b=false:=ql HB.out (λh=>h1 h.1);have rK:decide ((n:Int)<=256)=false:= aN ;clear HB;subst this;go_enter func45,ntmps45;go_wp2;go_ret;exact⟨rfl,iB.alloc _ _⟩
def Ju{n k:Nat}(h:gZ n<=32*k):(gR n).length<=k:=uO (by rw[tn];exact lR.1 h)
def acF(d:Dy):ot d.neg (gR d.m) d.e↔d.gX:=by
 unfold ot;rw[jY];constructor
 .exact λh=>h.2.2
 .intro h;refine⟨A8 _,?_,h⟩;rcases h.range with h0|⟨h1,_⟩
  .rw [h0,nP];simp
  .exact Ju aC 
def ot.ER{s:Bool}{L:List Nat}{e:Int}(h:ot s L e)(hk:iD L):L=gR (val L):=h.1.ER hk
def ot.len{s:Bool}{L:List Nat}{e:Int}(h:ot s L e):L.length<=256:=h.2.1
def ot.bits{s:Bool}{L:List Nat}{e:Int}(h:ot s L e):gZ (val L)<=4096:=by
 rcases h.2.2.range with h0|⟨h1,_⟩
 .simp only at h0;rw[h0];decide
 .exact h1
def ot.exp{s:Bool}{L:List Nat}{e:Int}(h:ot s L e):-16384<=e/\e<=16384:=by
 rcases h.2.2.range with h0|⟨_,h1,h2,_⟩
 .rcases h.2.2.canon with⟨_,_,h3⟩|h3
  .simp only at h3;omega
  .simp only at h0 h3;omega
 .exact ⟨h1,h2⟩
def Lr(s:Bool)(A:Option Addr)(c:Nat)(L:List Nat)(e:Int)(w:World)(hs:Sl w A c L)(hd:ot s L e):
 Calls prog 67 #[.agg #[.bool s,.slice A L.length c,.int .i64 e]] w λr w'=>r = .returned (.int .i64 (Dy.ig ⟨s,val L,e⟩))/\iB w w':=by
 obtain⟨mh,lf⟩:=hd.exp;have hl:=hd.len;have hbt:=hd.bits;have HV:=amW (λw (h:Sl w A c L)=>Br s A c L e w true h aC aC (by simp[hd]));have HS:=amW (λw (h:Sl w A c L)=>Lq A c L w h aC);by_cases h0:L=[]
 .subst h0;go_enter func67,ntmps67;go_wp2_with fail;refine(HV.out _ (hs.alloc _)).mono ?_;rintro r w' ⟨rfl,hb⟩;have bx:=(je.new w s A 0 c e).ext hb;have b0:=bx.c0;have b1:=bx.c1;have b2:=bx.c2;go_wp2;go_ret;exact⟨rfl,(iB.alloc _ _).trans hb⟩
 .have vJ:0<L.length:=fO.2 h0;have Dt:val L≠0:=by have:=hd.1.Eb h0;omega
  have ht:=amW (show Dy.ig ⟨s,val L,e⟩=gZ (val L)+e by unfold Dy.ig;rw[aY Dt]);clear h0 Dt;generalize Dy.ig ⟨s,val L,e⟩=t at *
  generalize gZ (val L)=q at *
  have hw:IntKind.i64.wrap ((q:Int)+e)=q+e:=i64_in _ aC aC;have qq:((L.length:Int)==0)=false:=aT aC;go_enter func67,ntmps67;go_wp2_with fail;refine(HV.out _ (hs.alloc _)).mono ?_;rintro r w' ⟨rfl,hb⟩;have bx:=(je.new w s A L.length c e).ext hb;have b0:=bx.c0;have b1:=bx.c1;have b2:=bx.c2;have oD:=(hs.alloc _).below hb;go_wp2_with fail;go_region_held3 (λw'=>w'.cell? ⟨w.heap.size,1,none⟩=some (.slice A L.length c)/\w'.cell? ⟨w.heap.size,2,none⟩=some (.int .i64 e)) (go_keep)
   (first|(go_at_call 91;refine(HS.out _ ?_).mono ?_;(exact oD.drew);rintro r w'' ⟨rfl,rfl⟩))
  go_wp2;go_ret;exact⟨oV (by rw[ht.out]),Below.drew ((iB.alloc _ _).trans hb)⟩
def acG(s:Bool)(A:Option Addr)(c:Nat)(L:List Nat)(e:Int)(w:World)(hs:Sl w A c L)(hd:ot s L e):
 Calls prog 47 #[.agg #[.bool s,.slice A L.length c,.int .i64 e]] w λr w'=>r = .returned (.int .i64 (gZ (val L)))/\iB w w':=by
 obtain⟨mh,lf⟩:=hd.exp;have hl:=hd.len;have HV:=amW (λw (h:Sl w A c L)=>Br s A c L e w true h aC aC (by simp[hd]));have HS:=amW (λw (h:Sl w A c L)=>Lq A c L w h aC);go_enter func47,ntmps47;go_wp2_with fail;refine(HV.out _ (hs.alloc _)).mono ?_;rintro r w' ⟨rfl,hb⟩;have bx:=(je.new w s A L.length c e).ext hb;have b0:=bx.c0;have b1:=bx.c1;have b2:=bx.c2;go_wp2_with fail;refine(HS.out _ ((hs.alloc _).below hb)).mono ?_;rintro r w' ⟨rfl,rfl⟩;go_wp2;go_ret;exact⟨rfl,(iB.alloc _ _).trans hb⟩
def Lp(s:Bool)(A:Option Addr)(c:Nat)(L:List Nat)(e:Int)(w:World)(hs:Sl w A c L)(hd:ot s L e):
 Calls prog 46 #[.agg #[.bool s,.slice A L.length c,.int .i64 e]] w λr w'=>r = .returned (.int .i64 (Dy.iJ ⟨s,val L,e⟩))/\iB w w':=by
 obtain⟨mh,lf⟩:=hd.exp;have hl:=hd.len;have HV:=amW (λw (h:Sl w A c L)=>Br s A c L e w true h aC aC (by simp[hd]));by_cases h0:L=[]
 .subst h0;go_enter func46,ntmps46;go_wp2_with fail;refine(HV.out _ (hs.alloc _)).mono ?_;rintro r w' ⟨rfl,hb⟩;have bx:=(je.new w s A 0 c e).ext hb;have b0:=bx.c0;have b1:=bx.c1;have b2:=bx.c2;go_wp2;go_ret;exact⟨rfl,(iB.alloc _ _).trans hb⟩
 .have vJ:0<L.length:=fO.2 h0;have Dt:val L≠0:=by have:=hd.1.Eb h0;omega
  have ht:=amW (show Dy.iJ ⟨s,val L,e⟩=if s then -1 else 1 by unfold Dy.iJ;rw[aY Dt]);clear h0 Dt;generalize Dy.iJ ⟨s,val L,e⟩=t at *
  have qq:((L.length:Int)==0)=false:=aT aC;go_enter func46,ntmps46;go_wp2_with fail;refine(HV.out _ (hs.alloc _)).mono ?_;rintro r w' ⟨rfl,hb⟩;have bx:=(je.new w s A L.length c e).ext hb;have b0:=bx.c0;have b1:=bx.c1;have b2:=bx.c2;cases s
  .go_wp2;go_ret;exact⟨oV (by rw[ht.out];rfl),(iB.alloc _ _).trans hb⟩
  .go_wp2;go_ret;exact⟨oV (by rw[ht.out];rfl),(iB.alloc _ _).trans hb⟩
def adu(e:Int)(w:World)(b:Bool)(hb:b=true↔(-32768<=e/\e<=32768)):
 Calls prog 96 #[.int .i64 e] w λr w'=>r = .returned (.bool b)/\w=w':=by
 by_cases h1:-32768<=e
 .have d1:decide (-32768<=e)=true:=by simpa using h1
  by_cases h2:e<=32768
  .have d2:decide (e<=32768)=true:=by simpa using h2
   have:=KY hb ⟨h1,h2⟩;clear hb;subst this;go_enter func96,ntmps96;go_wp2;go_ret;exact⟨rfl,rfl⟩
  .have d2:decide (e<=32768)=false:=by simpa using h2
   have:=ql hb (λh=>h2 h.2);clear hb;subst this;go_enter func96,ntmps96;go_wp2;go_ret;exact⟨rfl,rfl⟩
 .have d1:decide (-32768<=e)=false:=by simpa using h1
  have:=ql hb (λh=>h1 h.1);clear hb;subst this;go_enter func96,ntmps96;go_wp2;go_ret;exact⟨rfl,rfl⟩
def Q6(d:Dy)(A:Option Addr)(c:Nat)(w:World)(hs:Sl w A c (gR d.m))(hl:(gR d.m).length<=100000000)(mh:-10000000<=d.e)(lf:d.e<=10000000)(hd:mv d):
 Calls prog 97 #[.agg #[.bool d.neg,.slice A (gR d.m).length c,.int .i64 d.e]] w (tC w d 0):=by
 obtain⟨s,m,e⟩:=d;simp only at *
 have hr:uJ m e=true:=by unfold uJ;exact a6 hd
 have HV:=amW (λw (h:Sl w A c (gR m))=>M9 s A c (gR m) e w h hl aC aC);rw[jY,hr]at HV;clear hr hd;go_enter func97,ntmps97;go_wp2_with fail;refine(HV.out _ ((hs.alloc _).alloc _)).mono ?_;rintro r w' ⟨rfl,hb⟩;have bx:=((je.new w s A (gR m).length c e).alloc (.cells #[.bool false,.slice none 0 0,.int .i64 0] 31)).ext hb;have by_:=(je.new (w.alloc (.cells #[.bool s,.slice A (gR m).length c,.int .i64 e] 31)) false none 0 0 0).ext hb;have b0:=bx.c0;have b1:=bx.c1;have b2:=bx.c2;have bz:(w.alloc (.cells #[.bool s,.slice A (gR m).length c,.int .i64 e] 31)).heap.size=w.heap.size+1:= aH ;rw[bz]at by_;have c0:=by_.c0;have c1:=by_.c1;have c2:=by_.c2;have f0:=by_.fr 0;have f1:=by_.fr 1;have f2:=by_.fr 2;have oD:=((hs.alloc (.cells #[.bool s,.slice A (gR m).length c,.int .i64 e] 31)).alloc (.cells #[.bool false,.slice none 0 0,.int .i64 0] 31)).below hb;have nF:iB w w':=((iB.alloc _ _).trans (iB.alloc _ _)).trans hb;clear bz;go_wp2;exact vk rfl rfl rfl rfl (by_.set _ _ _ _ _) rfl (by_.re oD _ _ _ _ _) (je.qF nF aC _ _ _ _ _)
def ab0(d:Dy)(A:Option Addr)(c:Nat)(w:World)(hs:Sl w A c (gR d.m))(hl:(gR d.m).length<=100000000)(mh:-10000000<=d.e)(lf:d.e<=10000000)(hd:¬mv d):
 Calls prog 97 #[.agg #[.bool d.neg,.slice A (gR d.m).length c,.int .i64 d.e]] w (tC w il 9):=by
 obtain⟨s,m,e⟩:=d;simp only at *
 have hr:uJ m e=false:=by unfold uJ;exact a7 hd
 have HV:=amW (λw (h:Sl w A c (gR m))=>M9 s A c (gR m) e w h hl aC aC);rw[jY,hr]at HV;clear hr hd;go_enter func97,ntmps97;go_wp2_with fail;refine(HV.out _ ((hs.alloc _).alloc _)).mono ?_;rintro r w' ⟨rfl,hb⟩;have by_:=(je.new (w.alloc (.cells #[.bool s,.slice A (gR m).length c,.int .i64 e] 31)) false none 0 0 0).ext hb;have bz:(w.alloc (.cells #[.bool s,.slice A (gR m).length c,.int .i64 e] 31)).heap.size=w.heap.size+1:= aH ;rw[bz]at by_;have c0:=by_.c0;have c1:=by_.c1;have c2:=by_.c2;have f0:=by_.fr 0;have f1:=by_.fr 1;have f2:=by_.fr 2;have nF:iB w w':=((iB.alloc _ _).trans (iB.alloc _ _)).trans hb;have hz:gR il.m=[]:=nP;have HZ:=amW hz;clear bz hz;go_wp2;exact vk rfl rfl rfl rfl (by_.set _ _ _ _ _) (by rw[HZ.out];rfl) (by rw[HZ.out];exact by_.re (Sl.nil _) _ _ _ _ _) (je.qF nF aC _ _ _ _ _)
def agV(s:Bool)(A:Option Addr)(c:Nat)(L:List Nat)(e:Int)(w:World)(hs:Sl w A c L)(hlen:L.length<=256)(mh:-32768<=e)(lf:e<=32768)(ki:Tb w)(hd:mv (canon s (val L) e)):
 Calls prog 50 #[.bool s,.slice A L.length c,.int .i64 e] w (tC w (canon s (val L) e) 0):=by
 have Fj:decide (256<(L.length:Int))=false:=a7 aC;have HE:=amW (λw=>adu e w true (by simp[mh,lf]));have HC:=amW (λw (h:Sl w A c L) (ht:Tb w)=>Ib s A c L e w h aC (by have:=pj L;unfold mr at this;omega) aC aC ht);have iO:(gR (canon s (val L) e).m).length<=100000000:=by
  unfold canon;split
  .simp [nP]
  .refine bg (uO (k:=256) (ck (bT _ _) ?_)) aE ;exact bJ (oo hs.ok) (bH aE hlen)
 have lL:-10000000<=(canon s (val L) e).e/\(canon s (val L) e).e<=10000000:=by
  unfold canon;split
  .simp
  .rename_i h0;have:=ED hs.ok h0;simp only;omega
 obtain⟨lL,qQ⟩:=lL;have HK:=amW (λA c w (h:Sl w A c (gR (canon s (val L) e).m))=>Q6 _ A c w h iO lL qQ hd);generalize canon s (val L) e=d at *
 clear hd iO lL qQ;go_enter func50,ntmps50;go_wp2_with fail;refine(HE.out _).mono ?_;rintro r w' ⟨rfl,rfl⟩;go_wp2_with fail;refine(HC.out _ (hs.alloc _) (ki.alloc _)).mono ?_;rintro r w1 ⟨A1,c1,rfl,uI,iO⟩;go_wp2_with fail;refine(HK.out _ _ _ uI).mono ?_;rintro r w2 ⟨A2,c2,rfl,kB,lL⟩;have hb:=iO.trans lL;have bx:=(je.new w false none 0 0 0).ext hb;have b0:=bx.c0;have b1:=bx.c1;have b2:=bx.c2;have f0:=bx.fr 0;have f1:=bx.fr 1;have f2:=bx.fr 2;go_wp2;exact vk rfl rfl rfl rfl (bx.set _ _ _ _ _) rfl (bx.re kB _ _ _ _ _) (je.qF ((iB.alloc _ _).trans hb) (bc _) _ _ _ _ _)
def ak1(x:Nat)(hx:x<4294967296):bits BinOp.and IntKind.u32 (x:Int) 1=((x%2:Nat):Int):=by
 rw[show(1:Int)=((1:Nat):Int)from rfl,bits_and_u32_nat _ _ hx aE,Nat.and_one_is_mod]
def afy{m:Nat}(h0:m≠0)(e:Int):uJ m e=true↔(gZ m<=4096 /\ -16384<=e/\e<=16384/\(gZ m:Int)+e<=16384):=by
 have h:uJ m e=true↔mv ⟨false,m,e⟩:=gz;rw[h];constructor
 .rintro (h|h)
  .exact absurd h h0
  .exact h
 .exact λh=>.inr h
def W2(s:Bool)(A:Option Addr)(c:Nat)(L:List Nat)(e:Int)(w:World)(b:Bool)(hs:Sl w A c L)(mh:-9223372036854775808<=e)(lf:e<=9223372036854775807)(hb:b=true↔ot s L e):
 Calls prog 107 #[.agg #[.bool s,.slice A L.length c,.int .i64 e]] w λr w'=>r = .returned (.bool b)/\iB w w':=by
 have Dc:=hs.cap;have tN:=hs.qW;by_cases hL:L=[]
 .subst hL;rw[RJ]at hb;cases s
  .by_cases h:e=0
   .subst h;have:b=true:=by simpa using hb
    clear hb;subst this;go_enter func107,ntmps107;go_wp2;go_ret;exact⟨rfl,iB.alloc _ _⟩
   .have:b=false:=ql hb (by simp[h]);have h':(e==0)=false:= aN ;clear hb;subst this;go_enter func107,ntmps107;go_wp2;go_ret;exact⟨rfl,iB.alloc _ _⟩
  .have:b=false:=ql hb aH ;clear hb;subst this;go_enter func107,ntmps107;go_wp2;go_ret;exact⟨rfl,iB.alloc _ _⟩
 .have vJ:0<L.length:=fO.2 hL;obtain⟨ab,ao,rfl,_,c1⟩:=hs.mu vJ;obtain⟨ab',ao',e',_,c2⟩:=hs.mu (i:=L.length-1) aC;cases e';have ng:=hs.ok.get vJ;have qU:=hs.ok.get (aC:L.length-1<L.length);rw[RH (bt vJ) (bt (aC:L.length-1<L.length))]at hb;have c1':w.cell? ⟨ab,ao,none⟩=some (.int .u32 (L[0]:Int)):=c1;have Tm:=amW (show L[L.length-1]≠0->nA L from λh=>(A7 L).2 (λ_=>h));have wD:=amW (show L[L.length-1]≠0->val L≠0 from λh=>by have:=((A7 L).2 (λ_=>h)).Eb hL;omega);clear c1 hL;generalize L[0]=x at *
  generalize L[L.length-1]=y at *
  have HB:=amW hb;clear hb;have H:=amW (λw (h:Sl w (some ⟨ab,ao,none⟩) c L) (hl:L.length<=256) (ht:nA L)=>aiB _ c L w h ht aC);have hr:Hid (val L≠0->(uJ (val L) e=true↔(gZ (val L)<=4096 /\ -16384<=e/\e<=16384/\(gZ (val L):Int)+e<=16384))):=λh0=>by
   exact afy h0 e
  obtain⟨n,hn⟩:∃ n,n=L.length:=⟨_,rfl⟩
  rw[<-hn]at vJ c2 H HB Dc ⊢;have HN:=amW hn;clear hn;have qq:((n:Int)==0)=false:= aN ;by_cases h1:n<=256
  .have rK:decide (256<(n:Int))=false:=a7 aC ;by_cases h3:y=0
   .have:b=false:=ql HB.out (by simp[h3]);have Dl:((y:Int)==0)=true:= aN ;clear HB hr;subst this;go_enter func107,ntmps107;go_wp2;go_ret;exact⟨rfl,iB.alloc _ _⟩
   .have Dl:((y:Int)==0)=false:=aT aC ;have hand:=ak1 x ng;by_cases h2:x%2=1
    .have mc:(bits BinOp.and IntKind.u32 (x:Int) 1==0)=false:=by rw[hand,h2];rfl
     clear hand;have h0:=wD.out h3;have BY:=Tm.out h3;have Ah:gZ (val L)<=32*n:=lR.2 (by rw[<-tn,HN.out];exact oo hs.ok);have HB2:Hid (b=true↔(gZ (val L)<=4096 /\ -16384<=e/\e<=16384/\(gZ (val L):Int)+e<=16384)):=by
      show b=true↔_;rw[HB.out,hr.out h0];simp[h1,h2,h3]
     have H2:=amW (λw h=>H.out w h h1 BY);clear HB hr h0 BY Tm wD H;generalize gZ (val L)=q at *
     by_cases h4:-16384<=e
     .have d4:decide (e < -16384)=false:=a7 aC ;by_cases h5:e<=16384
      .have d5:decide (16384<e)=false:=a7 aC ;by_cases h6:q<=4096
       .have d6:decide ((q:Int)<=4096)=true:=a6 aC ;by_cases h7:(q:Int)+e<=16384
        .have d7:decide ((q:Int)+e<=16384)=true:=a6 h7;have:=KY HB2.out ⟨h6,h4,h5,h7⟩;clear HB2;subst this;go_enter func107,ntmps107;go_wp2_with fail;refine(H2.out _ (hs.alloc _)).mono ?_;rintro r w' ⟨rfl,rfl⟩;go_wp2;go_ret;exact⟨rfl,iB.alloc _ _⟩
        .have d7:decide ((q:Int)+e<=16384)=false:=a7 h7;have:=ql HB2.out (λh=>h7 h.2.2.2);clear HB2;subst this;go_enter func107,ntmps107;go_wp2_with fail;refine(H2.out _ (hs.alloc _)).mono ?_;rintro r w' ⟨rfl,rfl⟩;go_wp2;go_ret;exact⟨rfl,iB.alloc _ _⟩
       .have d6:decide ((q:Int)<=4096)=false:=a7 aC ;have:=ql HB2.out (λh=>h6 h.1);clear HB2;subst this;go_enter func107,ntmps107;go_wp2_with fail;refine(H2.out _ (hs.alloc _)).mono ?_;rintro r w' ⟨rfl,rfl⟩;go_wp2;go_ret;exact⟨rfl,iB.alloc _ _⟩
      .have d5:decide (16384<e)=true:=a6 aC ;have:=ql HB2.out (λh=>h5 h.2.2.1);clear HB2;subst this;go_enter func107,ntmps107;go_wp2;go_ret;exact⟨rfl,iB.alloc _ _⟩
     .have d4:decide (e < -16384)=true:=a6 aC ;have:=ql HB2.out (λh=>h4 h.2.1);clear HB2;subst this;go_enter func107,ntmps107;go_wp2;go_ret;exact⟨rfl,iB.alloc _ _⟩
    .have mc:(bits BinOp.and IntKind.u32 (x:Int) 1==0)=true:=by rw[hand,(aC:x%2=0)];rfl
     have:b=false:=ql HB.out (λh=>h2 h.2.1);clear HB hand hr;subst this;go_enter func107,ntmps107;go_wp2;go_ret;exact⟨rfl,iB.alloc _ _⟩
  .have:b=false:=ql HB.out (λh=>h1 h.1);have rK:decide (256<(n:Int))=true:=a6 aC;clear HB hr;subst this;go_enter func107,ntmps107;go_wp2;go_ret;exact⟨rfl,iB.alloc _ _⟩
def aiG(e:Int)(w:World)(b:Bool)(hb:b=true↔(-32768<=e/\e<=32768)):
 Calls prog 108 #[.int .i64 e] w λr w'=>r = .returned (.bool b)/\w=w':=by
 by_cases h1:-32768<=e
 .have d1:decide (-32768<=e)=true:=by simpa using h1
  by_cases h2:e<=32768
  .have d2:decide (e<=32768)=true:=by simpa using h2
   have:=KY hb ⟨h1,h2⟩;clear hb;subst this;go_enter func108,ntmps108;go_wp2;go_ret;exact⟨rfl,rfl⟩
  .have d2:decide (e<=32768)=false:=by simpa using h2
   have:=ql hb (λh=>h2 h.2);clear hb;subst this;go_enter func108,ntmps108;go_wp2;go_ret;exact⟨rfl,rfl⟩
 .have d1:decide (-32768<=e)=false:=by simpa using h1
  have:=ql hb (λh=>h1 h.1);clear hb;subst this;go_enter func108,ntmps108;go_wp2;go_ret;exact⟨rfl,rfl⟩
def aiC(d:Dy)(A:Option Addr)(c:Nat)(w:World)(hs:Sl w A c (gR d.m))(hl:(gR d.m).length<=100000000)(mh:-10000000<=d.e)(lf:d.e<=10000000)(hd:d.gX):
 Calls prog 109 #[.agg #[.bool d.neg,.slice A (gR d.m).length c,.int .i64 d.e]] w (tC w d 0):=by
 obtain⟨s,m,e⟩:=d;simp only at *
 have HV:=amW (λw (h:Sl w A c (gR m))=>W2 s A c (gR m) e w true h aC aC (iff_of_true rfl ((acF ⟨s,m,e⟩).2 hd)));clear hd;go_enter func109,ntmps109;go_wp2_with fail;refine(HV.out _ ((hs.alloc _).alloc _)).mono ?_;rintro r w' ⟨rfl,hb⟩;have bx:=((je.new w s A (gR m).length c e).alloc (.cells #[.bool false,.slice none 0 0,.int .i64 0] 31)).ext hb;have by_:=(je.new (w.alloc (.cells #[.bool s,.slice A (gR m).length c,.int .i64 e] 31)) false none 0 0 0).ext hb;have b0:=bx.c0;have b1:=bx.c1;have b2:=bx.c2;have bz:(w.alloc (.cells #[.bool s,.slice A (gR m).length c,.int .i64 e] 31)).heap.size=w.heap.size+1:= aH ;rw[bz]at by_;have c0:=by_.c0;have c1:=by_.c1;have c2:=by_.c2;have f0:=by_.fr 0;have f1:=by_.fr 1;have f2:=by_.fr 2;have oD:=((hs.alloc (.cells #[.bool s,.slice A (gR m).length c,.int .i64 e] 31)).alloc (.cells #[.bool false,.slice none 0 0,.int .i64 0] 31)).below hb;have nF:iB w w':=((iB.alloc _ _).trans (iB.alloc _ _)).trans hb;clear bz;go_wp2;exact vk rfl rfl rfl rfl (by_.set _ _ _ _ _) rfl (by_.re oD _ _ _ _ _) (je.qF nF aC _ _ _ _ _)
def ab7{a b:Nat}:kq a b=0↔a=b:=by
 unfold kq;by_cases h:a<b
 .rw [aZ h];omega
 .by_cases h':b<a
  .rw [aY h,aZ h'];omega
  .rw [aY h,aY h'];omega
def aiE(s:Bool)(A:Option Addr)(c:Nat)(L:List Nat)(e:Int)(t:Bool)(B:Option Addr)(d:Nat)(M:List Nat)(f:Int)(w:World)(b:Bool)
 (hs:Sl w A c L) (hr:Sl w B d M) (tL:nA L) (tM:nA M) (h1:L.length<=100000) (_h2:M.length<=100000) (hb:b=true↔(s=t/\e=f/\L=M)):
 Calls prog 14 #[.agg #[.bool s,.slice A L.length c,.int .i64 e],.agg #[.bool t,.slice B M.length d,.int .i64 f]] w λr w'=>r = .returned (.bool b)/\iB w w':=by
 have hE:iB w ((w.alloc (.cells #[.bool s,.slice A L.length c,.int .i64 e] 31)).alloc (.cells #[.bool t,.slice B M.length d,.int .i64 f] 31)):=(iB.alloc _ _).trans (iB.alloc _ _);by_cases h:s=t
 .subst h;by_cases h':e=f
  .subst h';have nF:b=true↔L=M:=by rw[hb];simp
   clear hb;by_cases hl:L.length=M.length
   .have HC:=amW (λw (h:Sl w A c L) (k:Sl w B d M)=>aiD A B c d L M w h k tL tM aC aC);have hv:Hid (b=(kq (val L) (val M)==0)):=by
     show b=_;refine Qv nF ?_;rw[fP,ab7];exact⟨λh=>by rw[h],λh=>nA.ext tL tM hs.ok hr.ok h⟩
    generalize kq (val L) (val M)=v at *
    rw[<-hl]at HC hE ⊢;have hse:(e==e)=true:= aH ;have kB:=(hs.alloc (.cells #[.bool s,.slice A L.length c,.int .i64 e] 31)).alloc (.cells #[.bool s,.slice B L.length d,.int .i64 e] 31);have nk:=(hr.alloc (.cells #[.bool s,.slice A L.length c,.int .i64 e] 31)).alloc (.cells #[.bool s,.slice B L.length d,.int .i64 e] 31);clear nF hl tL tM;cases s
    .go_enter func14,ntmps14;go_wp2_with fail;refine(HC.out _ kB nk).mono ?_;rintro r w' ⟨rfl,iO⟩;go_wp2;go_ret;exact⟨J1 hv.out.symm,hE.trans iO⟩
    .go_enter func14,ntmps14;go_wp2_with fail;refine(HC.out _ kB nk).mono ?_;rintro r w' ⟨rfl,iO⟩;go_wp2;go_ret;exact⟨J1 hv.out.symm,hE.trans iO⟩
   .have:=ql nF (λh=>hl (by rw[h]));clear nF;subst this;have jf:((L.length:Int)==M.length)=false:=aT aC;generalize L.length=n at *
    generalize M.length=m at *
    cases s
    .go_enter func14,ntmps14;go_wp2;go_ret;exact⟨rfl,hE⟩
    .go_enter func14,ntmps14;go_wp2;go_ret;exact⟨rfl,hE⟩
  .have:=ql hb (λh=>h' h.2.1);clear hb;subst this;have jf:(e==f)=false:=aT h';cases s
   .go_enter func14,ntmps14;go_wp2;go_ret;exact⟨rfl,hE⟩
   .go_enter func14,ntmps14;go_wp2;go_ret;exact⟨rfl,hE⟩
 .have:=ql hb (λh'=>h h'.1);clear hb;subst this;cases s<;>cases t
  .exact absurd rfl h
  .go_enter func14,ntmps14;go_wp2;go_ret;exact⟨rfl,hE⟩
  .go_enter func14,ntmps14;go_wp2;go_ret;exact⟨rfl,hE⟩
  .exact absurd rfl h
def Sl.Kn(w:World)(g:Nat)(hg:w.heap.size=g)(y z:Int)(p q:Nat)(e:y=(p:Int))(e':z=(q:Int))(hp:p<4294967296)(hq:q<4294967296):
 Sl (w.alloc (.cells #[.int .u32 y,.int .u32 z] 96)) (some ⟨g,0,none⟩) 2 [p,q]:=by
 subst e e' hg;refine⟨bc _,aE,iD.cons hp (iD.cons hq iD.nil),(λh=>by cases h),λi y hy=>?_⟩;obtain⟨h1,h2⟩:=b5.1 hy;simp at h1;refine⟨_,_,rfl,aH,?_⟩;rw[bY,World.cell?_alloc_at _ _ _ _ rfl];rcases i with _|_|i
 .simp at h2;subst h2;rfl
 .simp at h2;subst h2;rfl
 .omega
def aiJ(n:Nat)(w:World)(hn:n<4294967296):
 Calls prog 56 #[.int .i64 n] w (xV w (canon false n 0)):=by
 have hm:=El n aC;have vG:(n:Int)%4294967296=n:= aC ;rw[vG]at hm;have hd:(n:Int)/4294967296=0:= aC ;have im:¬(n:Int)<0:= aC ;have Mn:decide ((n:Int)<0)=false:=a7 im;have hu:IntKind.u64.wrap (n:Int)=n:=by rw[IntKind.wrap_u64];omega
 have HC:=amW (λ(A:Option Addr) c w (h:Sl w A c [n,0])=>OF false A c [n,0] 0 w h aH aE aE);have hv:val [n,0]=n:= aH ;rw[hv]at HC;clear hv;generalize canon false n 0=d at *
 go_enter func56,ntmps56;go_wp2_with fail;refine(HC.out _ _ _ (Sl.Kn _ _ aH _ _ n 0 rfl rfl hn aE)).mono ?_;rintro r w1 ⟨A1,c1,rfl,uI,iO⟩;have jt:iB (w.alloc (.cells #[.bool false,.slice none 0 0,.int .i64 0] 31)) w1:=(iB.alloc _ _).trans iO;have bx:=(je.new w false none 0 0 0).ext jt;have b0:=bx.c0;have b1:=bx.c1;have b2:=bx.c2;have f0:=bx.fr 0;have f1:=bx.fr 1;have f2:=bx.fr 2;go_wp2;exact yl rfl rfl rfl (bx.set _ _ _ _ _) rfl (bx.re uI _ _ _ _ _) (je.qF ((iB.alloc _ _).trans jt) (bc _) _ _ _ _ _)
end Go.Proofs.YtkdddbdjilcofaaGreatDoor
namespace Go.Proofs.YtkdddbdjilcofaaGreatDoor.Fp
def Ew(s:Bool)(e:Int):canon s 0 e=il:=by unfold canon;rw[aZ rfl];rfl
def Hs(s:Bool)(x:Nat)(k:Int):jS (if s then -(x:Int)else(x:Int)) k=canon s x k:=by
 unfold jS;cases s
 .have h:decide ((x:Int)<0)=false:=a7 aC ;simp only[bB,bj];rw[h,fQ]
 .by_cases h:x=0
  .subst h;simp[Ew]
  .have h:decide (-(x:Int)<0)=true:=a6 aC ;simp only[bw];rw[h,amx,fQ]
def akh{s:Bool}{m n:Nat}{e f k:Int}(hm:m≠0)(hn:n≠0)(hk:min e f=k):
 iI ⟨s,m,e⟩ ⟨s,n,f⟩=canon s (m*2^(e-k).toNat+n*2^(f-k).toNat) k:=by
 unfold iI;rw[aY hm,aY hn];simp only[hk];rw[<-Hs];unfold Dy.num Dy.jH;cases s
 .simp
 .simp;congr 1;omega
def akf{s t:Bool}{m n:Nat}{e f k:Int}(hm:m≠0)(hn:n≠0)(hk:min e f=k)(hs:s≠t)(qS:n*2^(f-k).toNat<=m*2^(e-k).toNat):
 iI ⟨s,m,e⟩ ⟨t,n,f⟩=canon s (m*2^(e-k).toNat-n*2^(f-k).toNat) k:=by
 unfold iI;rw[aY hm,aY hn];simp only[hk];rw[<-Hs];unfold Dy.num Dy.jH;simp only;generalize m*2^(e-k).toNat=x at *
 generalize n*2^(f-k).toNat=y at *
 congr 1;cases s<;>cases t<;>simp at hs ⊢ <;> omega
def akg{s t:Bool}{m n:Nat}{e f k:Int}(hm:m≠0)(hn:n≠0)(hk:min e f=k)(hs:s≠t)(im:m*2^(e-k).toNat<n*2^(f-k).toNat):
 iI ⟨s,m,e⟩ ⟨t,n,f⟩=canon t (n*2^(f-k).toNat-m*2^(e-k).toNat) k:=by
 unfold iI;rw[aY hm,aY hn];simp only[hk];rw[<-Hs];unfold Dy.num Dy.jH;simp only;generalize m*2^(e-k).toNat=x at *
 generalize n*2^(f-k).toNat=y at *
 congr 1;cases s<;>cases t<;>simp at hs ⊢ <;> omega
def agw{L:List Nat}(h:iD L)(n:Nat):(gR (val L*2^n)).length<=L.length+n/32+1:=by
 refine uO ?_;have h1:=oo h;rw[tn]at h1 ⊢;have h2:val L*2^n<2^(32*L.length)*2^n:=de h1 (bn aE);rw[<-bh]at h2;exact bJ h2 (bH aE aC)
def mw{a b:Nat}(h:a<=b):(gR a).length<=(gR b).length:=
 uO (ck h (Jv (bc _)))
end Go.Proofs.YtkdddbdjilcofaaGreatDoor.Fp
namespace Go.Proofs.YtkdddbdjilcofaaGreatDoor
open Go.RowKit Fp
def jq(a b:Dy):Dy:=canon (a.neg != b.neg) (a.m*b.m) (a.e+b.e)
def agy{L:List Nat}{k:Nat}(h:iD L)(hl:L.length<=k):(gR (val L)).length<=k:=
 uO (bJ (oo h) (bH aE hl))
end Go.Proofs.YtkdddbdjilcofaaGreatDoor
namespace Go.Proofs.YtkdddbdjilcofaaGreatDoor.Fp
def agT{d:Dy}{j k:Int}(h1:j<=k)(h2:k<=d.e):d.jH j=d.jH k*2^(k-j).toNat:=by
 unfold Dy.jH;rw[bA,<-bh];congr 2;omega
def JH{d:Dy}{j k:Int}(h1:j<=k)(h2:k<=d.e):d.num j=d.num k*((2^(k-j).toNat:Nat):Int):=by
 unfold Dy.num;rw[agT h1 h2];split
 .rw [ej,Int.neg_mul]
 .rw [ej]
def vV{d:Dy}(h:d.m=0)(k:Int):d.num k=0:=by
 unfold Dy.num;rw[VB h];split<;>rfl
def xn(x y:Int):Int:=if x<y then -1 else if y<x then 1 else 0
def Re(x y:Int){p:Nat}(hp:0<p):xn (x*(p:Int)) (y*(p:Int))=xn x y:=by
 unfold xn;have h:(0:Int)<p:= aC ;have a:=@Int.mul_lt_mul_right (p:Int) x y h;have b:=@Int.mul_lt_mul_right (p:Int) y x h;simp only[a,b]
def qI(d:Dy)(k:Int):Prop:=d.m=0\/k<=d.e
def qI.num{d:Dy}{j k:Int}(h:qI d k)(hj:j<=k):d.num j=d.num k*((2^(k-j).toNat:Nat):Int):=by
 rcases h with h|h
 .rw [vV h,vV h,Int.zero_mul]
 .exact JH hj h
def EC{a b:Dy}{k:Int}(ha:qI a k)(hb:qI b k):iN a b=xn (a.num k) (b.num k):=by
 have e0:iN a b=xn (a.num (min a.e b.e)) (b.num (min a.e b.e)):=rfl;rw[e0];obtain⟨j,h1,h2⟩:∃ j:Int,j<=k/\j<=min a.e b.e:=⟨min k (min a.e b.e),aC,aC⟩
 have a1:=ha.num h1;have b1:=hb.num h1;have a2:=(show qI a (min a.e b.e)from .inr aC).num h2;have b2:=(show qI b (min a.e b.e)from .inr aC).num h2;rw[<-Re _ _ (p:=2^(min a.e b.e-j).toNat) (bn aE),<-a2,<-b2,a1,b1,Re _ _ (bn aE)]
def agS{s:Bool}{m:Nat}{e k:Int}(h:k<=e):(canon s m e).jH k=m*2^(e-k).toNat:=by
 unfold canon;split
 .rename_i h0;subst h0;simp[Dy.jH]
 .rename_i h0;unfold Dy.jH;simp only;have e1:=EM h0
  conv=>rhs;rw[<-e1]
  rw[bA,<-bh];congr 2;omega
def Cp{s:Bool}{m:Nat}{e k:Int}(h:k<=e):(canon s m e).num k=if s then -((m*2^(e-k).toNat:Nat):Int)else((m*2^(e-k).toNat:Nat):Int):=by
 by_cases h0:m=0
 .subst h0;rw[vV (by simp[canon])];simp
 .have:(canon s m e).neg=s:=by unfold canon;rw[aY h0]
  unfold Dy.num;rw[agS h,this]
def Ws{m:Nat}{e k:Int}(h:k<=e):(canon false m e).num k=((m*2^(e-k).toNat:Nat):Int):=by
 rw[Cp h];simp
def NW{z e k:Int}(h:k<=e):(jS z e).num k=z*((2^(e-k).toNat:Nat):Int):=by
 unfold jS;rw[Cp h];by_cases hz:z<0
 .simp only[hz,fg,bw];rw[ej,<-Int.neg_mul];congr 1;omega
 .simp only[hz,gE];rw[ej,show(z.natAbs:Int)=z by omega];simp
def zJ{s:Bool}{m:Nat}{e k:Int}(h:k<=e):qI (canon s m e) k:=by
 unfold canon;split
 .exact .inl rfl
 .exact .inr (by simp only;omega)
def KP{z e k:Int}(h:k<=e):qI (jS z e) k:=zJ h
def Kh{a b:Dy}{k:Int}(ha:qI a k)(hb:qI b k):(iI a b).num k=a.num k+b.num k:=by
 unfold iI;by_cases h1:a.m=0
 .rw [aZ h1,vV h1,Int.zero_add]
 .rw [aY h1];by_cases h2:b.m=0
  .rw [aZ h2,vV h2,Int.add_zero]
  .rw [aY h2];have ea:k<=a.e:=by rcases ha with h|h;exact absurd h h1;exact h
   have eb:k<=b.e:=by rcases hb with h|h;exact absurd h h2;exact h
   have hm:k<=min a.e b.e:= aC ;rw[NW hm,Int.add_mul,<-JH hm aC,<-JH hm aC]
def G5{a b:Dy}{k:Int}(ha:qI a k)(hb:qI b k):qI (iI a b) k:=by
 unfold iI;by_cases h1:a.m=0
 .rw [aZ h1];exact hb
 .rw [aY h1];by_cases h2:b.m=0
  .rw [aZ h2];exact ha
  .rw [aY h2];have ea:k<=a.e:=by rcases ha with h|h;exact absurd h h1;exact h
   have eb:k<=b.e:=by rcases hb with h|h;exact absurd h h2;exact h
   exact KP aC 
def Bm{a b:Dy}(ha:a.mV)(hb:b.mV):(iI a b).mV:=by
 unfold iI;split
 .exact hb
 .split
  .exact ha
  .exact ri _ _ _
def KQ{d:Dy}{k:Int}(h:qI d k):qI (jl d) k:=h
def NX{d:Dy}(k:Int):(jl d).num k = -(d.num k):=by
 by_cases h:d.m=0
 .rw [vV h,vV (by exact h)];rfl
 .exact ahC d k h
def RR{a b:Dy}(ha:a.mV)(hb:b.mV){k:Int}(h1:qI a k)(h2:qI b k)(h:a.num k=b.num k):a=b:=by
 have zero:∀ {d:Dy},d.mV->d.m=0->d=il:=by
  intro d hd h0;obtain⟨s,m,e⟩:=d;rcases hd with⟨x,y,z⟩|hd
  .simp only at x y z;subst x y z;rfl
  .simp only at hd h0;omega
 have nz:∀ {d:Dy},d.num k=0->d.m=0:=by
  intro d hd;by_cases h0:d.m=0
  .exact h0
  .exfalso;have:=xJ h0 k;unfold Dy.num at hd;split at hd<;>omega
 by_cases za:a.m=0
 .have zb:b.m=0:=nz (by rw[<-h];exact vV za k);rw[zero ha za,zero hb zb]
 .have zb:b.m≠0:=λzb=>za (nz (by rw[h];exact vV zb k))
  have oa:a.m%2=1:=by rcases ha with⟨x,_,_⟩|x;exact absurd x za;exact x
  have ob:b.m%2=1:=by rcases hb with⟨x,_,_⟩|x;exact absurd x zb;exact x
  have ea:k<=a.e:=by rcases h1 with h|h;exact absurd h za;exact h
  have eb:k<=b.e:=by rcases h2 with h|h;exact absurd h zb;exact h
  have pa:=xJ za k;have pb:=xJ zb k;have hm:a.neg=b.neg/\a.jH k=b.jH k:=by
   unfold Dy.num at h;cases x:a.neg<;>cases y:b.neg<;>simp[x,y]at h<;>first|exact⟨rfl,aC⟩|(exfalso;omega)
  have hc:=congrArg jj hm.2;unfold Dy.jH at hc;rw[yh oa,yh ob]at hc;have vG:=hm.2;unfold Dy.jH at vG;rw[hc]at vG;have sx:=amN (bn aE) vG;obtain⟨s,m,e⟩:=a;obtain⟨t,n,f⟩:=b;simp only at *
  have:e=f:= aC ;rw[hm.1,sx,this]
end Go.Proofs.YtkdddbdjilcofaaGreatDoor.Fp
namespace Go.Proofs.YtkdddbdjilcofaaGreatDoor
open Go.RowKit Fp
def Ka(A:Option Addr)(c:Nat)(M:List Nat)(n:Int)(w:World)(kB:Sl w A c M)(hlen:M.length<=256)(h0:0<=n)(hn:n<=65536)(qR:(gR (val M*2^n.toNat)).length<=256):
 Calls prog 100 #[.slice A M.length c,.int .i64 n] w (xg w (gR (val M*2^n.toNat))):=by
 obtain⟨k,rfl⟩:=eF h0;exact ajR A c M k w kB hlen aC qR
set_option maxHeartbeats 8000000 in
def acL(s : Bool)(A : Option Addr)(c : Nat)(L : List Nat)(e : Int)(t : Bool)(B : Option Addr)(d : Nat)(M : List Nat)(f : Int)(w : World)
    (hs : Sl w A c L) (hr : Sl w B d M) (da : ot s L e) (db : ot t M f) (vz : val L≠0) (sZ : val M≠0):
    Calls prog 51 #[.agg #[.bool s,.slice A L.length c,.int .i64 e],.agg #[.bool t,.slice B M.length d,.int .i64 f]] w λr w' => r = .returned (.int .i64 (sU ⟨s,val L,e⟩ ⟨t,val M,f⟩))/\iB w w' := by
  obtain⟨mh,lf⟩ := da.exp;obtain⟨Mr,Ms⟩ := db.exp;have hl := da.len;have hm := db.len;have hE : iB w ((w.alloc (.cells #[.bool s,.slice A L.length c,.int .i64 e] 31)).alloc (.cells #[.bool t,.slice B M.length d,.int .i64 f] 31)) := (iB.alloc _ _).trans (iB.alloc _ _);have lp := ((je.new w s A L.length c e).alloc (.cells #[.bool t,.slice B M.length d,.int .i64 f] 31)).drew;have lO := (je.rz (W := w.alloc (.cells #[.bool s,.slice A L.length c,.int .i64 e] 31)) (g := w.heap.size+1) aH t B M.length d f).drew;have yI := (hs.below hE).drew;have BU := (hr.below hE).drew;have HE := amW (hE.trans (iB.drew _));clear hE;have HTa := amW (λw (h : Sl w A c L) => Lr s A c L e w h da);have HTb := amW (λw (h : Sl w B d M) => Lr t B d M f w h db);have Hlt := amW (λh => ab6 (a := ⟨s,val L,e⟩) (b := ⟨t,val M,f⟩) vz sZ h);have Hgt := amW (λh => ab5 (a := ⟨s,val L,e⟩) (b := ⟨t,val M,f⟩) vz sZ h);have Hta := amW (show Dy.ig ⟨s,val L,e⟩=gZ (val L)+e by unfold Dy.ig;rw[aY vz]);have Htb := amW (show Dy.ig ⟨t,val M,f⟩=gZ (val M)+f by unfold Dy.ig;rw[aY sZ]);obtain⟨k,hk⟩ : ∃ k,min e f=k := ⟨_,rfl⟩
  have hke : k<=e := aC ;have hkf : k<=f := aC ;have nX : -17000<=k := aC ;have TR := amW (aC:k=e\/k=f);have MX : IntKind.i64.wrap (e-k)=e-k := i64_in _ aC aC;have hwf : IntKind.i64.wrap (f-k)=f-k := i64_in _ aC aC;have HM := amW (show sU ⟨s,val L,e⟩ ⟨t,val M,f⟩=kq (val L*2^(e-k).toNat) (val M*2^(f-k).toNat)by unfold sU;simp only[hk];rfl);have Hfa := amW (show gZ (val L)+e=gZ (val M)+f->gZ (val L*2^(e-k).toNat)<=4096 from λh => by
    rw[rG vz];have := da.bits;have := db.bits;have := TR.out;omega)
  have Hfb := amW (show gZ (val L)+e=gZ (val M)+f->gZ (val M*2^(f-k).toNat)<=4096 from λh => by
    rw[rG sZ];have := da.bits;have := db.bits;have := TR.out;omega)
  have HXa := amW (λw (h : Sl w A c L) qR => Ka A c L (e-k) w h hl aC aC qR);have HXb := amW (λw (h : Sl w B d M) qR => Ka B d M (f-k) w h hm aC aC qR);generalize Dy.ig ⟨s,val L,e⟩=ta at *
  generalize Dy.ig ⟨t,val M,f⟩=tb at *
  generalize sU ⟨s,val L,e⟩ ⟨t,val M,f⟩=R at *
  generalize val L*2^(e-k).toNat=x at *
  generalize val M*2^(f-k).toNat=y at *
  have HC := amW (λA B c d w (h : Sl w A c (gR x)) (k : Sl w B d (gR y)) hx hy => F2 A B c d (gR x) (gR y) w h k hx hy);rw[jY,jY]at HC;clear vz sZ da db hl hm;go_enter func51,ntmps51;go_wp2_with fail;go_region_held3 (λw' => w'.cell? ⟨w.heap.size,0,none⟩=some (.bool s)/\w'.cell? ⟨w.heap.size,1,none⟩=some (.slice A L.length c)/\w'.cell? ⟨w.heap.size,2,none⟩=some (.int .i64 e)/\w'.cell? ⟨w.heap.size+1,0,none⟩=some (.bool t)/\w'.cell? ⟨w.heap.size+1,1,none⟩=some (.slice B M.length d)/\w'.cell? ⟨w.heap.size+1,2,none⟩=some (.int .i64 f))
    (first
      |exact⟨lp.c0,lp.c1,lp.c2,lO.c0,lO.c1,lO.c2⟩
      |exact⟨(lp.ext iU).c0,(lp.ext iU).c1,(lp.ext iU).c2,(lO.ext iU).c0,(lO.ext iU).c1,(lO.ext iU).c2⟩
      |exact⟨(lp.ext jg).c0,(lp.ext jg).c1,(lp.ext jg).c2,(lO.ext jg).c0,(lO.ext jg).c1,(lO.ext jg).c2⟩
      |exact⟨(lp.ext (iU.trans jg)).c0,(lp.ext (iU.trans jg)).c1,(lp.ext (iU.trans jg)).c2,(lO.ext (iU.trans jg)).c0,(lO.ext (iU.trans jg)).c1,(lO.ext (iU.trans jg)).c2⟩
      |exact⟨(lp.ext (jg.trans iU)).c0,(lp.ext (jg.trans iU)).c1,(lp.ext (jg.trans iU)).c2,(lO.ext (jg.trans iU)).c0,(lO.ext (jg.trans iU)).c1,(lO.ext (jg.trans iU)).c2⟩
      |exact⟨(lp.ext ((iU.trans jg).trans oZ)).c0,(lp.ext ((iU.trans jg).trans oZ)).c1,(lp.ext ((iU.trans jg).trans oZ)).c2,(lO.ext ((iU.trans jg).trans oZ)).c0,(lO.ext ((iU.trans jg).trans oZ)).c1,(lO.ext ((iU.trans jg).trans oZ)).c2⟩
      |exact⟨(lp.ext ((jg.trans iU).trans oZ)).c0,(lp.ext ((jg.trans iU).trans oZ)).c1,(lp.ext ((jg.trans iU).trans oZ)).c2,(lO.ext ((jg.trans iU).trans oZ)).c0,(lO.ext ((jg.trans iU).trans oZ)).c1,(lO.ext ((jg.trans iU).trans oZ)).c2⟩)
    (first
      | (go_at_call_of 67 (Value.agg #[.bool s,.slice A L.length c,.int .i64 e])
         refine(HTa.out _ ?_).mono ?_
         (first|exact yI|exact yI.below jg)
         rintro r wx ⟨rfl,iU⟩)
      | (go_at_call_of 67 (Value.agg #[.bool t,.slice B M.length d,.int .i64 f])
         refine(HTb.out _ ?_).mono ?_
         (first|exact BU|exact BU.below iU)
         rintro r wy ⟨rfl,jg⟩))
  first
    | (have qd := iU.trans jg)
    | (have qd := jg.trans iU)
  have cx1 := (lp.ext qd).drew;have cx2 := (lO.ext qd).drew;have kB := (yI.below qd).drew;have nk := (BU.below qd).drew;have cx1n := (lp.ext qd)
  have cx2n := (lO.ext qd)
  have HF := amW ((HE.out.trans qd).trans (iB.drew _));have HFr := amW (HE.out.trans qd);clear iU jg qd;by_cases h1 : ta<tb
  . have hR := amW (Hlt.out h1)
    go_wp2;go_ret;exact⟨oV hR.out.symm,HFr.out⟩
  . by_cases h2 : tb<ta
    . have hR := amW (Hgt.out h2)
      go_wp2;go_ret;exact⟨oV hR.out.symm,HFr.out⟩
    . have nf : (gZ (val L) : Int)+e=gZ (val M)+f := by rw[<-Hta.out,<-Htb.out];omega
      have hfa := Ju (k := 128) (Hfa.out nf);have hfb := Ju (k := 128) (Hfb.out nf);have HXa2 := amW (λw h => HXa.out w h aC);have HXb2 := amW (λw h => HXb.out w h aC);have HC2 := amW (λA B c d w h k => HC.out A B c d w h k aC aC);have b0 := cx1n.c0;have b1 := cx1n.c1;have b2 := cx1n.c2;have d0 := cx2n.c0;have d1 := cx2n.c1;have d2 := cx2n.c2;clear nf hfa hfb;go_wp2_with fail;go_region_held3 (λw' => w'.cell? ⟨w.heap.size,0,none⟩=some (.bool s)/\w'.cell? ⟨w.heap.size,1,none⟩=some (.slice A L.length c)/\w'.cell? ⟨w.heap.size,2,none⟩=some (.int .i64 e)/\w'.cell? ⟨w.heap.size+1,0,none⟩=some (.bool t)/\w'.cell? ⟨w.heap.size+1,1,none⟩=some (.slice B M.length d)/\w'.cell? ⟨w.heap.size+1,2,none⟩=some (.int .i64 f))
        (first
          |exact⟨cx1.c0,cx1.c1,cx1.c2,cx2.c0,cx2.c1,cx2.c2⟩
          |exact⟨(cx1.ext iU).c0,(cx1.ext iU).c1,(cx1.ext iU).c2,(cx2.ext iU).c0,(cx2.ext iU).c1,(cx2.ext iU).c2⟩
          |exact⟨(cx1.ext jg).c0,(cx1.ext jg).c1,(cx1.ext jg).c2,(cx2.ext jg).c0,(cx2.ext jg).c1,(cx2.ext jg).c2⟩
          |exact⟨(cx1.ext (iU.trans jg)).c0,(cx1.ext (iU.trans jg)).c1,(cx1.ext (iU.trans jg)).c2,(cx2.ext (iU.trans jg)).c0,(cx2.ext (iU.trans jg)).c1,(cx2.ext (iU.trans jg)).c2⟩
          |exact⟨(cx1.ext (jg.trans iU)).c0,(cx1.ext (jg.trans iU)).c1,(cx1.ext (jg.trans iU)).c2,(cx2.ext (jg.trans iU)).c0,(cx2.ext (jg.trans iU)).c1,(cx2.ext (jg.trans iU)).c2⟩
          |exact⟨(cx1.ext ((iU.trans jg).trans oZ)).c0,(cx1.ext ((iU.trans jg).trans oZ)).c1,(cx1.ext ((iU.trans jg).trans oZ)).c2,(cx2.ext ((iU.trans jg).trans oZ)).c0,(cx2.ext ((iU.trans jg).trans oZ)).c1,(cx2.ext ((iU.trans jg).trans oZ)).c2⟩
          |exact⟨(cx1.ext ((jg.trans iU).trans oZ)).c0,(cx1.ext ((jg.trans iU).trans oZ)).c1,(cx1.ext ((jg.trans iU).trans oZ)).c2,(cx2.ext ((jg.trans iU).trans oZ)).c0,(cx2.ext ((jg.trans iU).trans oZ)).c1,(cx2.ext ((jg.trans iU).trans oZ)).c2⟩)
        (first
          | (go_at_call_of 100 (Value.slice A L.length c)
             refine(HXa2.out _ ?_).mono ?_
             (first|exact kB|exact kB.below jg)
             rintro r wx ⟨Ax,cx,rfl,Ub,iU⟩)
          | (go_at_call_of 100 (Value.slice B M.length d)
             refine(HXb2.out _ ?_).mono ?_
             (first|exact nk|exact nk.below iU)
             rintro r wy ⟨Ay,cy,rfl,Uc,jg⟩)
          | (go_at_call 99
             refine(HC2.out _ _ _ _ _ ?_ ?_).mono ?_
             (first|exact Ub.below jg|exact Ub)
             (first|exact Uc|exact Uc.below iU)
             rintro r wz ⟨rfl,oZ⟩))
      all_goals
        go_wp2;go_ret
        (first|exact⟨oV HM.out.symm,HF.out.trans ((iU.trans jg).trans oZ)⟩|exact⟨oV HM.out.symm,HF.out.trans ((jg.trans iU).trans oZ)⟩)
def X4{d:Dy}:d.iJ=0↔d.m=0:=by
 rcases D3 d with⟨h1,h2⟩|⟨h1,_,h2⟩|⟨h1,_,h2⟩<;>simp[h1,h2]
def acJ(s : Bool)(A : Option Addr)(c : Nat)(L : List Nat)(e : Int)(t : Bool)(B : Option Addr)(d : Nat)(M : List Nat)(f : Int)(w : World)
    (hs : Sl w A c L) (hr : Sl w B d M) (da : ot s L e) (db : ot t M f):
    Calls prog 16 #[.agg #[.bool s,.slice A L.length c,.int .i64 e],.agg #[.bool t,.slice B M.length d,.int .i64 f]] w λr w' => r = .returned (.int .i64 (iN ⟨s,val L,e⟩ ⟨t,val M,f⟩))/\iB w w' := by
  obtain⟨mh,lf⟩ := da.exp;obtain⟨Mr,Ms⟩ := db.exp;have HVa := amW (λw (h : Sl w A c L) => Br s A c L e w true h aC aC (by simp[da]));have HVb := amW (λw (h : Sl w B d M) => Br t B d M f w true h aC aC (by simp[db]));have HSa := amW (λw (h : Sl w A c L) => Lp s A c L e w h da);have HSb := amW (λw (h : Sl w B d M) => Lp t B d M f w h db);have HK := amW (λh1 h2 w (h : Sl w A c L) (k : Sl w B d M) => acL s A c L e t B d M f w h k da db h1 h2);have HP := amW (Rd ⟨s,val L,e⟩ ⟨t,val M,f⟩);have z1 : Hid (Dy.iJ ⟨s,val L,e⟩=0↔val L=0) := X4;have z2 : Hid (Dy.iJ ⟨t,val M,f⟩=0↔val M=0) := X4;have Ja : Dy.iJ ⟨s,val L,e⟩=0\/Dy.iJ ⟨s,val L,e⟩ = -1\/Dy.iJ ⟨s,val L,e⟩=1 := by
    rcases D3 ⟨s,val L,e⟩with⟨_,h⟩|⟨_,_,h⟩|⟨_,_,h⟩<;>simp[h]
  have nG : sU ⟨s,val L,e⟩ ⟨t,val M,f⟩ = -1\/sU ⟨s,val L,e⟩ ⟨t,val M,f⟩=0\/sU ⟨s,val L,e⟩ ⟨t,val M,f⟩=1 := by
    unfold sU kq;split;simp;split<;>simp
  generalize Dy.iJ ⟨s,val L,e⟩=sa at *
  generalize Dy.iJ ⟨t,val M,f⟩=sb at *
  generalize sU ⟨s,val L,e⟩ ⟨t,val M,f⟩=cm at *
  generalize iN ⟨s,val L,e⟩ ⟨t,val M,f⟩=R at *
  have B2 : IntKind.i64.wrap (sa*cm)=sa*cm := i64_in _ (by rcases Ja with rfl|rfl|rfl<;>omega) (by rcases Ja with rfl|rfl|rfl<;>omega);have HH := amW Ja;clear Ja nG da db;go_enter func16,ntmps16;go_wp2_with fail;refine(HVa.out _ ((hs.alloc _).alloc _)).mono ?_;rintro r w1 ⟨rfl,iO⟩;have lp := ((je.new w s A L.length c e).alloc (.cells #[.bool t,.slice B M.length d,.int .i64 f] 31)).ext iO;have lO := (je.rz (W := w.alloc (.cells #[.bool s,.slice A L.length c,.int .i64 e] 31)) (g := w.heap.size+1) aH t B M.length d f).ext iO;have b0 := lp.c0;have b1 := lp.c1;have b2 := lp.c2;have d0 := lO.c0;have d1 := lO.c1;have d2 := lO.c2;have hE := (((iB.alloc w (.cells #[.bool s,.slice A L.length c,.int .i64 e] 31)).trans (iB.alloc _ (.cells #[.bool t,.slice B M.length d,.int .i64 f] 31))).trans iO)
  go_wp2_with fail;refine(HVb.out _ (hr.below hE)).mono ?_;rintro r w2 ⟨rfl,lL⟩;have IB := hE.trans lL;have lp := (lp.ext lL).drew;have lO := (lO.ext lL).drew;have yI := (hs.below IB).drew;have BU := (hr.below IB).drew;have HE := amW (IB.trans (iB.drew _));clear hE IB iO lL b0 b1 b2 d0 d1 d2;go_wp2_with fail;go_region_held3 (λw' => w'.cell? ⟨w.heap.size,0,none⟩=some (.bool s)/\w'.cell? ⟨w.heap.size,1,none⟩=some (.slice A L.length c)/\w'.cell? ⟨w.heap.size,2,none⟩=some (.int .i64 e)/\w'.cell? ⟨w.heap.size+1,0,none⟩=some (.bool t)/\w'.cell? ⟨w.heap.size+1,1,none⟩=some (.slice B M.length d)/\w'.cell? ⟨w.heap.size+1,2,none⟩=some (.int .i64 f))
    (first
      |exact⟨lp.c0,lp.c1,lp.c2,lO.c0,lO.c1,lO.c2⟩
      |exact⟨(lp.ext iU).c0,(lp.ext iU).c1,(lp.ext iU).c2,(lO.ext iU).c0,(lO.ext iU).c1,(lO.ext iU).c2⟩
      |exact⟨(lp.ext jg).c0,(lp.ext jg).c1,(lp.ext jg).c2,(lO.ext jg).c0,(lO.ext jg).c1,(lO.ext jg).c2⟩
      |exact⟨(lp.ext (iU.trans jg)).c0,(lp.ext (iU.trans jg)).c1,(lp.ext (iU.trans jg)).c2,(lO.ext (iU.trans jg)).c0,(lO.ext (iU.trans jg)).c1,(lO.ext (iU.trans jg)).c2⟩
      |exact⟨(lp.ext (jg.trans iU)).c0,(lp.ext (jg.trans iU)).c1,(lp.ext (jg.trans iU)).c2,(lO.ext (jg.trans iU)).c0,(lO.ext (jg.trans iU)).c1,(lO.ext (jg.trans iU)).c2⟩)
    (first
      | (go_at_call_of 46 (Value.agg #[.bool s,.slice A L.length c,.int .i64 e])
         refine(HSa.out _ ?_).mono ?_
         (first|exact yI|exact yI.below jg)
         rintro r wx ⟨rfl,iU⟩)
      | (go_at_call_of 46 (Value.agg #[.bool t,.slice B M.length d,.int .i64 f])
         refine(HSb.out _ ?_).mono ?_
         (first|exact BU|exact BU.below iU)
         rintro r wy ⟨rfl,jg⟩))
  first
    | (have qd := iU.trans jg)
    | (have qd := jg.trans iU)
  have cx1 := (lp.ext qd)
  have cx2 := (lO.ext qd)
  have kB := (yI.below qd)
  have nk := (BU.below qd)
  have HFr := amW (HE.out.trans qd);clear iU jg qd;by_cases h1 : sa<sb
  . have hR := amW (show R = -1 by rw[HP.out,aZ h1])
    go_wp2;go_ret;exact⟨oV hR.out.symm,HFr.out⟩
  . by_cases h2 : sb<sa
    . have hR := amW (show R=1 by rw[HP.out,aY h1,aZ h2])
      go_wp2;go_ret;exact⟨oV hR.out.symm,HFr.out⟩
    . by_cases h3 : sa=0
      . have hR := amW (show R=0 by rw[HP.out,aY h1,aY h2,aZ h3])
        have hz : (sa==0)=true := by simp[h3]
        go_wp2;go_ret;exact⟨oV hR.out.symm,HFr.out⟩
      . have hR := amW (show R=sa*cm by rw[HP.out,aY h1,aY h2,aY h3])
        have hz : (sa==0)=false := aT h3;have HK2 := amW (HK.out (λh => h3 (z1.out.2 h)) (λh => h3 (by have := z2.out.2 h;omega)));have b0 := cx1.c0;have b1 := cx1.c1;have b2 := cx1.c2;have d0 := cx2.c0;have d1 := cx2.c1;have d2 := cx2.c2;go_wp2_with fail;refine(HK2.out _ kB nk).mono ?_;rintro r w3 ⟨rfl,qQ⟩;go_wp2;go_ret;exact⟨oV hR.out.symm,HFr.out.trans qQ⟩
def La{L:List Nat}(h:iD L)(hl:L.length<=256)(s:Bool)(e:Int):(gR (canon s (val L) e).m).length<=100000000:=by
 unfold canon;split
 .simp [nP]
 .refine bg (uO (k:=256) (ck (bT _ _) ?_)) aE ;exact bJ (oo h) (bH aE hl)
def K7{L:List Nat}(h:iD L)(hl:L.length<=256)(s:Bool)(e:Int)(h1:-9000000<=e)(h2:e<=9000000):-10000000<=(canon s (val L) e).e/\(canon s (val L) e).e<=10000000:=by
 unfold canon;split
 .simp
 .rename_i h0;have:=ED h h0;simp only;omega
def aiN(s:Bool)(A:Option Addr)(c:Nat)(L:List Nat)(e k:Int)(w:World)(hs:Sl w A c L)(hd:ot s L e)(nX:-32768<=k)(vE:k<=32768)(hr:mv (canon s (val L) (e+k))):
 Calls prog 55 #[.agg #[.bool s,.slice A L.length c,.int .i64 e],.int .i64 k] w (tC w (canon s (val L) (e+k)) 0):=by
 obtain⟨mh,lf⟩:=hd.exp;have hlen:=hd.len;have HV:=amW (λw (h:Sl w A c L)=>W2 s A c L e w true h aC aC (by simp[hd]));have HX:=amW (λw=>aiG k w true (by simp[nX,vE]));have hw:IntKind.i64.wrap (e+k)=e+k:=i64_in _ aC aC;have HC:=amW (λw (h:Sl w A c L)=>OF s A c L (e+k) w h aC aC aC);have iO:=La hs.ok hlen s (e+k);obtain⟨lL,qQ⟩:=K7 hs.ok hlen s (e+k) aC aC;have hv:(canon s (val L) (e+k)).gX:=⟨ri _ _ _,hr⟩
 have HK:=amW (λA c w (h:Sl w A c (gR (canon s (val L) (e+k)).m))=>aiC _ A c w h iO lL qQ hv);generalize canon s (val L) (e+k)=D at *
 clear hd hr hv iO lL qQ;go_enter func55,ntmps55;go_wp2_with fail;refine(HV.out _ ((hs.alloc _).alloc _)).mono ?_;rintro r w1 ⟨rfl,iO⟩;have lp:=((je.new w s A L.length c e).alloc (.cells #[.bool false,.slice none 0 0,.int .i64 0] 31)).ext iO;have lO:=(je.rz (W:=w.alloc (.cells #[.bool s,.slice A L.length c,.int .i64 e] 31)) (g:=w.heap.size+1) aH false none 0 0 0).ext iO;have b0:=lp.c0;have b1:=lp.c1;have b2:=lp.c2;have hE:=(((iB.alloc w (.cells #[.bool s,.slice A L.length c,.int .i64 e] 31)).trans (iB.alloc _ (.cells #[.bool false,.slice none 0 0,.int .i64 0] 31))).trans iO)
 have yI:=hs.below hE;have HE:=amW hE;clear hE iO;go_wp2_with fail;refine(HX.out _).mono ?_;rintro r w2 ⟨rfl,rfl⟩;go_wp2_with fail;refine(HC.out _ yI).mono ?_;rintro r w2 ⟨A1,c1,rfl,uI,lL⟩;go_wp2_with fail;refine(HK.out _ _ _ uI).mono ?_;rintro r w3 ⟨A2,c2,rfl,kB,qQ⟩;have bz:=lO.ext (lL.trans qQ);have z0:=bz.c0;have z1:=bz.c1;have z2:=bz.c2;have f0:=bz.fr 0;have f1:=bz.fr 1;have f2:=bz.fr 2;go_wp2;exact vk rfl rfl rfl rfl (bz.set _ _ _ _ _) rfl (bz.re kB _ _ _ _ _) (je.qF (HE.out.trans (lL.trans qQ)) aC _ _ _ _ _)
abbrev DV(d:Dy)(A:Option Addr)(c:Nat):Value:=.agg #[.bool d.neg,.slice A (gR d.m).length c,.int .i64 d.e]
def Jt{n k:Nat}(h:gZ n<=32*k):(gR n).length<=k:=by
 refine uO (bJ (qw _) ?_);rw[tn];exact bH aE h
def Fp.Dy.gX.xq{d:Dy}(h:d.gX):ot d.neg (gR d.m) d.e:=by
 refine⟨A8 _,Jt ?_,by rw[jY];exact h⟩;rcases h.range with h0|⟨h1,_⟩
 .rw [h0];exact bV _
 .omega
def Fp.Dy.gX.len{d:Dy}(h:d.gX):(gR d.m).length<=256:=h.xq.2.1
def Fp.Dy.gX.exp{d:Dy}(h:d.gX):-16384<=d.e/\d.e<=16384:=h.xq.exp
def Fp.Dy.gX.Yu{d:Dy}(h:d.gX)(h0:d.m≠0):(gZ d.m:Int)+d.e<=16384:=by
 rcases h.range with h|⟨_,_,_,h⟩
 .exact absurd h h0
 .exact h
def je.all{w:World}{g n c:Nat}{s:Bool}{A:Option Addr}{e:Int}(h:je w g s A n c e):w.cell? ⟨g,0,none⟩=some (.bool s)/\w.cell? ⟨g,1,none⟩=some (.slice A n c)/\w.cell? ⟨g,2,none⟩=some (.int .i64 e):=⟨h.c0,h.c1,h.c2⟩
def je.Bv{w:World}{g n c:Nat}{s:Bool}{A:Option Addr}{e:Int}(h:je w g s A n c e){g':Nat}(jf:g'≠g)(i:Nat)(v:Value):je (w.setCell ⟨g',i,none⟩ v) g s A n c e:=by
 unfold je at h ⊢;simp only[World.setCell,eP];rw[aY jf];exact h
def je.xv{w:World}{g n c:Nat}{s:Bool}{A:Option Addr}{e:Int}(h:je w g s A n c e){g':Nat}(jf:g'≠g)(v0 v1 v2:Value):
 je (((w.setCell ⟨g',0,none⟩ v0).setCell ⟨g',1,none⟩ v1).setCell ⟨g',2,none⟩ v2) g s A n c e:=((h.Bv jf 0 v0).Bv jf 1 v1).Bv jf 2 v2
def aiF(a b:Dy)(A B:Option Addr)(c d:Nat)(w:World)(r:Bool)(h:Sl w A c (gR a.m))(k:Sl w B d (gR b.m))(ha:(gR a.m).length<=100000)(hb:(gR b.m).length<=100000)(hr:r=true↔a=b):
 Calls prog 14 #[DV a A c,DV b B d] w λe w'=>e = .returned (.bool r)/\iB w w':=
 aiE a.neg A c (gR a.m) a.e b.neg B d (gR b.m) b.e w r h k (A8 _) (A8 _) ha hb (by
  rw[hr];obtain⟨s,m,e⟩:=a;obtain⟨t,n,f⟩:=b;simp only[Dy.mk.injEq];constructor
  .rintro ⟨x,y,z⟩;exact⟨x,z,by rw[y]⟩
  .rintro ⟨x,y,z⟩;have:=congrArg val z;rw[jY,jY]at this;exact⟨x,this,y⟩)
def acK(a b:Dy)(A B:Option Addr)(c d:Nat)(w:World)(h:Sl w A c (gR a.m))(k:Sl w B d (gR b.m))(ha:a.gX)(hb:b.gX):
 Calls prog 16 #[DV a A c,DV b B d] w λe w'=>e = .returned (.int .i64 (iN a b))/\iB w w':=by
 have:=acJ a.neg A c (gR a.m) a.e b.neg B d (gR b.m) b.e w h k ha.xq hb.xq;rw[jY,jY]at this;exact this
def acH(a:Dy)(A:Option Addr)(c:Nat)(w:World)(h:Sl w A c (gR a.m))(ha:a.gX):
 Calls prog 47 #[DV a A c] w λe w'=>e = .returned (.int .i64 (gZ a.m))/\iB w w':=by
 have:=acG a.neg A c (gR a.m) a.e w h ha.xq;rw[jY]at this;exact this
def acQ(a:Dy)(A:Option Addr)(c:Nat)(w:World)(h:Sl w A c (gR a.m))(ha:a.gX):
 Calls prog 46 #[DV a A c] w λe w'=>e = .returned (.int .i64 a.iJ)/\iB w w':=by
 have:=Lp a.neg A c (gR a.m) a.e w h ha.xq;rw[jY]at this;exact this
def Ig(a:Dy)(A:Option Addr)(c:Nat)(w:World)(h:Sl w A c (gR a.m))(ha:a.gX):
 Calls prog 45 #[DV a A c] w λe w'=>e = .returned (.bool true)/\iB w w':=
 Br a.neg A c (gR a.m) a.e w true h (by have:=ha.exp;omega) (by have:=ha.exp;omega) (by simp[ha.xq])
def ot.dy{s:Bool}{L:List Nat}{e:Int}(h:ot s L e){w:World}{A:Option Addr}{c:Nat}(hs:Sl w A c L):∃ d:Dy,d.gX/\s=d.neg/\L=gR d.m/\e=d.e/\val L=d.m:=
 ⟨⟨s,val L,e⟩,h.2.2,rfl,h.ER hs.ok,rfl,rfl⟩
open Pu
def PL:∀ w w',Tb w->Below w.heap.size w w'->Tb w':=λ_ _ h hb=>h.below hb
def mixed:prog.follows .mixedOrders=true:= aF 
abbrev gQ(f:FuncId)(args:List E)(jP:E):Prop:=PC prog Tb f args jP
def gV(L:List Nat):E:=.sl false L.length 1 λi _=>.v (.int .u32 (L.getD i 0:Int))
def gU(d:Dy):E:=.agg [.v (.bool d.neg),gV (gR d.m),.v (.int .i64 d.e)]
abbrev iP(z:Int):E:=.v (.int .i64 z)
abbrev bP(b:Bool):E:=.v (.bool b)
abbrev ar:List E:=[bP false,.v (.slice none 0 0),iP 0]
abbrev au:List E:=[bP false,.v (.slice none 0 0),iP 0,bP false,.v (.slice none 0 0),iP 0,bP false]
def zo{bs br:Nat->Prop}{w:World}{L:List Nat}{v:Value}(hk:iD L)(h:ix bs br w (gV L) v):∃ A c,v = .slice A L.length c/\Sl w A c L:=by
 cases h with
 |sl _ _ _ _ A c f hc hm h0 hl hr cell kk=>
  refine⟨A,c,rfl,hc,hm,hk,h0,λi x hx=>?_⟩;obtain⟨hi,Ar⟩:=b5.1 hx;obtain⟨b,o,e1,_,im,j8⟩:=cell i 0 hi aE;have hv:=ix.ku (kk i 0 hi aE);refine⟨b,o,e1,im,?_⟩;rw[bZ,bR,hv]at j8;rw[j8];simp[bd,hx]
def A4{B br:Nat->Prop}{w w':World}{A:Option Addr}{c:Nat}{L:List Nat}(hB:∀ b,B b->b<w.heap.size/\oI w b)(hb:iB w w')(h:Sl w' A c L):ix B br w' (gV L) (.slice A L.length c):=by
 refine .sl false L.length 1 _ A c (λi _=>.int .u32 (L.getD i 0:Int)) h.cap h.qW h.xL (λi j _ _=>⟨rfl,λh=>by cases h⟩) (λi j _ _=>rfl) (λi j hi hj=>?_) (λi j _ _=>.v _)
 .obtain rfl:j=0:= aC ;obtain⟨b,o,e1,im,j8⟩:=h.mu hi;have e2:L.getD i 0=L[i]:=by simp[bd,hi]
  refine⟨b,o,e1,λAg=>?_,im,by rw[bZ,bR,j8,e2]⟩;obtain⟨h1,h2⟩:=hB b Ag;exact(h2.DM (hb.block b h1)) _ _ j8
def Ic{bs br:Nat->Prop}{w:World}{d:Dy}{v:Value}(h:ix bs br w (gU d) v):∃ A c,v=DV d A c/\Sl w A c (gR d.m):=by
 obtain⟨vs,rfl,q⟩:=ix.CQ (show ix bs br w (.agg _) v from h);obtain⟨v1,vs,rfl,h1,q⟩:=q.nc;obtain⟨v2,vs,rfl,h2,q⟩:=q.nc;obtain⟨v3,vs,rfl,h3,q⟩:=q.nc;obtain rfl:=q.rM;obtain rfl:=ix.ku h1;obtain rfl:=ix.ku h3;obtain⟨A,c,rfl,hs⟩:=zo (mB _) h2;exact⟨A,c,rfl,hs⟩
def RO{B br:Nat->Prop}{w w':World}{A:Option Addr}{c:Nat}{d:Dy}(hB:∀ b,B b->b<w.heap.size/\oI w b)(hb:iB w w')(h:Sl w' A c (gR d.m)):ix B br w' (gU d) (DV d A c):=
 jX.agg (.cons (.v _) (.cons (A4 hB hb h) (.cons (.v _) (.nil _ _ _))))
section
variable {f:FuncId} {a b:Dy}
def DS(hc:∀ (vs:Array Value) (w:World),(callFunc f vs).run prog w = .ok (.enter f vs) w){jP:E}{R:World->Ending->World->Prop}
 (H:∀ A c w,Sl w A c (gR a.m)->Tb w->Calls prog f #[DV a A c] w (R w)) (hR:∀ (B:Nat->Prop) w e w',(∀ b,B b->b<w.heap.size/\oI w b)->R w e w'->∃ v,e = .returned v/\Below w.heap.size w w'/\ix B (λ_=>True) w' jP v):gQ f [gU a] jP:=by
 refine⟨hc,λw B vs hK hB hr=>?_⟩;obtain⟨v1,vs,rfl,h1,hr⟩:=hr.nc;obtain rfl:=hr.rM;obtain⟨A,c,rfl,s1⟩:=Ic h1;exact(H A c w s1 hK).mono λe w' h=>hR B w e w' hB h
def JP(hc:∀ (vs:Array Value) (w:World),(callFunc f vs).run prog w = .ok (.enter f vs) w){jP:E}{R:World->Ending->World->Prop}
 (H:∀ A c A' c' w,Sl w A c (gR a.m)->Sl w A' c' (gR b.m)->Tb w->Calls prog f #[DV a A c,DV b A' c'] w (R w)) (hR:∀ (B:Nat->Prop) w e w',(∀ b,B b->b<w.heap.size/\oI w b)->R w e w'->∃ v,e = .returned v/\Below w.heap.size w w'/\ix B (λ_=>True) w' jP v):gQ f [gU a,gU b] jP:=by
 refine⟨hc,λw B vs hK hB hr=>?_⟩;obtain⟨v1,vs,rfl,h1,hr⟩:=hr.nc;obtain⟨v2,vs,rfl,h2,hr⟩:=hr.nc;obtain rfl:=hr.rM;obtain⟨A,c,rfl,s1⟩:=Ic h1;obtain⟨A',c',rfl,s2⟩:=Ic h2;exact(H A c A' c' w s1 s2 hK).mono λe w' h=>hR B w e w' hB h
end
def rv{x:Value}:∀ (B:Nat->Prop) (w:World) (e:Ending) (w':World),(∀ b,B b->b<w.heap.size/\oI w b)->(e = .returned x/\iB w w')->∃ v,e = .returned v/\Below w.heap.size w w'/\ix B (λ_=>True) w' (.v x) v:=
 λ_ _ _ _ _ h=>⟨x,h.1,h.2,.v x⟩
def rd{d:Dy}:∀ (B:Nat->Prop) (w:World) (e:Ending) (w':World),(∀ b,B b->b<w.heap.size/\oI w b)->xV w d e w'->∃ v,e = .returned v/\Below w.heap.size w w'/\ix B (λ_=>True) w' (gU d) v:=
 λ_ _ _ _ hB ⟨_,_,h1,h2,h3⟩=>⟨_,h1,h3,RO hB h3 h2⟩
def Gm{d:Dy}{n:Int}:∀ (B:Nat->Prop) (w:World) (e:Ending) (w':World),(∀ b,B b->b<w.heap.size/\oI w b)->tC w d n e w'->∃ v,e = .returned v/\Below w.heap.size w w'/\ix B (λ_=>True) w' (.ie [gU d,iP n]) v:=
 λ_ _ _ _ hB ⟨_,_,h1,h2,h3⟩=>⟨_,h1,h3,jX.ie (.cons (RO hB h3 h2) (.cons (.v _) (.nil _ _ _)))⟩
def qH:E.le (.agg ar) (gU il):=by
 have:gU il = .agg [bP false,.sl false 0 1 λi _=>.v (.int .u32 (((gR 0).getD i 0:Nat):Int)),iP 0]:=by
  show E.agg [bP false,gV (gR 0),iP 0]=_;unfold gV;rw[nP];rfl
 rw[this];exact .agg (.cons (.refl _) (.cons (.nil _ _ _) (.cons (.refl _) .nil)))
def kH(a b:Dy)(ha:a.gX)(hb:b.gX):gQ 16 [gU a,gU b] (iP (iN a b)):=JP call16 (λA c A' c' w h k _=>acK a b A A' c c' w h k ha hb) rv
def mJ(a:Dy)(ha:a.gX):gQ 46 [gU a] (iP a.iJ):=DS call46 (λA c w h _=>acQ a A c w h ha) rv
def mZ(a:Dy)(ha:a.gX):gQ 45 [gU a] (bP true):=DS call45 (λA c w h _=>Ig a A c w h ha) rv
def C5(a:Dy)(ha:a.gX):gQ 47 [gU a] (iP (gZ a.m)):=DS call47 (λA c w h _=>acH a A c w h ha) rv
def TT:List TI:=[
 ⟨3,.int .i64,⟨.int .i64, "int", 1,8,false,8,8,some (.int .i64 0),true,#[]⟩⟩,
 ⟨4,.bool,⟨.bool, "bool", 1,1,false,1,1,some (.bool false),true,#[]⟩⟩,
 ⟨5,.int .u8,⟨.int .u8, "uint8", 1,1,false,1,1,some (.int .u8 0),true,#[]⟩⟩,
 ⟨9,.string,⟨.string, "string", 1,16,true,8,8,some (.string ⟨#[]⟩),true,#[]⟩⟩,
 ⟨22,.slice 91,⟨.slice 91, "[]api.Op", 1,24,true,8,8,some (.slice none 0 0),false,#[]⟩⟩,
 ⟨23,.slice 3,⟨.slice 3, "[]int", 1,24,true,8,8,some (.slice none 0 0),false,#[]⟩⟩,
 ⟨25,.struct #[⟨"Ins", 3,0,false, "", "", 0⟩,⟨"Ops", 22,1,false, "", "", 8⟩,⟨"Outs", 23,2,false, "", "", 32⟩],⟨.named "flowpipe/api.Tape" 24, "api.Tape", 3,56,true,8,8,some (.agg #[.int .i64 0,.slice none 0 0,.slice none 0 0]),false,#[]⟩⟩,
 ⟨26,.slice 44,⟨.slice 44, "[]api.Interval", 1,24,true,8,8,some (.slice none 0 0),false,#[]⟩⟩,
 ⟨28,.struct #[⟨"Tape", 25,0,false, "", "", 0⟩,⟨"States", 3,3,false, "", "", 56⟩,⟨"Params", 26,4,false, "", "", 64⟩],⟨.named "flowpipe/api.System" 27, "api.System", 5,88,true,8,8,some (.agg #[.int .i64 0,.slice none 0 0,.slice none 0 0,.int .i64 0,.slice none 0 0]),false,#[]⟩⟩,
 ⟨29,.slice 96,⟨.slice 96, "[]uint32", 1,24,true,8,8,some (.slice none 0 0),false,#[]⟩⟩,
 ⟨31,.struct #[⟨"Neg", 4,0,false, "", "", 0⟩,⟨"M", 29,1,false, "", "", 8⟩,⟨"E", 3,2,false, "", "", 32⟩],⟨.named "flowpipe/api.Dyadic" 30, "api.Dyadic", 3,40,true,8,8,some (.agg #[.bool false,.slice none 0 0,.int .i64 0]),false,#[]⟩⟩,
 ⟨33,.struct #[⟨"Method", 3,0,false, "", "", 0⟩,⟨"Order", 3,1,false, "", "", 8⟩,⟨"Prec", 3,2,false, "", "", 16⟩,⟨"Step", 31,3,false, "", "", 24⟩,⟨"Tol", 3,6,false, "", "", 64⟩,⟨"Most", 3,7,false, "", "", 72⟩],⟨.named "flowpipe/api.Config" 32, "api.Config", 8,80,true,8,8,some (.agg #[.int .i64 0,.int .i64 0,.int .i64 0,.bool false,.slice none 0 0,.int .i64 0,.int .i64 0,.int .i64 0]),false,#[]⟩⟩,
 ⟨36,.int .i64,⟨.named "flowpipe/api.Errno" 3, "api.Errno", 1,8,false,8,8,some (.int .i64 0),true,#[]⟩⟩,
 ⟨40,.slice 26,⟨.slice 26, "[][]api.Interval", 1,24,true,8,8,some (.slice none 0 0),false,#[]⟩⟩,
 ⟨44,.struct #[⟨"Lo", 31,0,false, "", "", 0⟩,⟨"Hi", 31,3,false, "", "", 40⟩,⟨"All", 4,6,false, "", "", 80⟩],⟨.named "flowpipe/api.Interval" 43, "api.Interval", 7,88,true,8,8,some (.agg #[.bool false,.slice none 0 0,.int .i64 0,.bool false,.slice none 0 0,.int .i64 0,.bool false]),false,#[]⟩⟩,
 ⟨45,.slice 31,⟨.slice 31, "[]api.Dyadic", 1,24,true,8,8,some (.slice none 0 0),false,#[]⟩⟩,
 ⟨59,.func #[44] #[4] false,⟨.func #[44] #[4] false, "func(api.Interval) bool", 1,8,true,8,8,some (.nilFunc),false,#[]⟩⟩,
 ⟨63,.func #[26] #[4] false,⟨.func #[26] #[4] false, "func([]api.Interval) bool", 1,8,true,8,8,some (.nilFunc),false,#[]⟩⟩,
 ⟨86,.func #[31,3] #[31,36] false,⟨.func #[31,3] #[31,36] false, "func(api.Dyadic, int) (api.Dyadic, api.Errno)", 1,8,true,8,8,some (.nilFunc),false,#[]⟩⟩,
 ⟨89,.struct #[⟨"N", 3,0,false, "", "", 0⟩,⟨"D", 3,1,false, "", "", 8⟩],⟨.named "flowpipe/api.Ratio" 88, "api.Ratio", 2,16,false,8,8,some (.agg #[.int .i64 0,.int .i64 0]),true,#[]⟩⟩,
 ⟨91,.struct #[⟨"Kind", 3,0,false, "", "", 0⟩,⟨"A", 3,1,false, "", "", 8⟩,⟨"B", 3,2,false, "", "", 16⟩,⟨"N", 3,3,false, "", "", 24⟩,⟨"C", 89,4,false, "", "", 32⟩],⟨.named "flowpipe/api.Op" 90, "api.Op", 6,48,false,8,8,some (.agg #[.int .i64 0,.int .i64 0,.int .i64 0,.int .i64 0,.int .i64 0,.int .i64 0]),true,#[]⟩⟩,
 ⟨94,.func #[3] #[4] false,⟨.func #[3] #[4] false, "func(int) bool", 1,8,true,8,8,some (.nilFunc),false,#[]⟩⟩,
 ⟨96,.int .u32,⟨.int .u32, "uint32", 1,4,false,4,4,some (.int .u32 0),true,#[]⟩⟩,
 ⟨100,.func #[44,44,3] #[44] false,⟨.func #[44,44,3] #[44] false, "func(api.Interval, api.Interval, int) api.Interval", 1,8,true,8,8,some (.nilFunc),false,#[]⟩⟩,
 ⟨118,.func #[44,44] #[4] false,⟨.func #[44,44] #[4] false, "func(api.Interval, api.Interval) bool", 1,8,true,8,8,some (.nilFunc),false,#[]⟩⟩,
 ⟨120,.int .u64,⟨.int .u64, "uint64", 1,8,false,8,8,some (.int .u64 0),true,#[]⟩⟩,
 ⟨121,.int .u64,⟨.int .u64, "uint", 1,8,false,8,8,some (.int .u64 0),true,#[]⟩⟩,
 ⟨134,.func #[44,44] #[44] false,⟨.func #[44,44] #[44] false, "func(api.Interval, api.Interval) api.Interval", 1,8,true,8,8,some (.nilFunc),false,#[]⟩⟩,
 ⟨136,.slice 29,⟨.slice 29, "[][]uint32", 1,24,true,8,8,some (.slice none 0 0),false,#[]⟩⟩,
 ⟨138,.func #[29] #[4] false,⟨.func #[29] #[4] false, "func([]uint32) bool", 1,8,true,8,8,some (.nilFunc),false,#[]⟩⟩,
 ⟨150,.func #[31,31,3] #[31,36] false,⟨.named "flowpipe/interval.rounded" 132, "interval.rounded", 1,8,true,8,8,some (.nilFunc),false,#[]⟩⟩,
 ⟨151,.array 2 31,⟨.array 2 31, "[2]api.Dyadic", 6,80,true,8,8,some (.agg #[.bool false,.slice none 0 0,.int .i64 0,.bool false,.slice none 0 0,.int .i64 0]),false,#[]⟩⟩,
 ⟨152,.array 4 151,⟨.array 4 151, "[4][2]api.Dyadic", 24,320,true,8,8,some (.agg #[.bool false,.slice none 0 0,.int .i64 0,.bool false,.slice none 0 0,.int .i64 0,.bool false,.slice none 0 0,.int .i64 0,.bool false,.slice none 0 0,.int .i64 0,.bool false,.slice none 0 0,.int .i64 0,.bool false,.slice none 0 0,.int .i64 0,.bool false,.slice none 0 0,.int .i64 0,.bool false,.slice none 0 0,.int .i64 0]),false,#[]⟩⟩,
 ⟨163,.func #[3] #[44] false,⟨.func #[3] #[44] false, "func(int) api.Interval", 1,8,true,8,8,some (.nilFunc),false,#[]⟩⟩,
 ⟨174,.struct #[⟨"m", 29,0,false, "", "flowpipe/round", 0⟩,⟨"e", 3,1,false, "", "flowpipe/round", 24⟩,⟨"more", 4,2,false, "", "flowpipe/round", 32⟩],⟨.named "flowpipe/round.exact" 173, "round.exact", 3,40,true,8,8,some (.agg #[.slice none 0 0,.int .i64 0,.bool false]),false,#[]⟩⟩,
 ⟨193,.map 3 197,⟨.map 3 197, "map[int]func(gradient.node) api.Interval", 1,8,true,8,8,some (.map none),false,#[]⟩⟩,
 ⟨196,.struct #[⟨"o", 91,0,false, "", "flowpipe/gradient", 0⟩,⟨"v", 44,6,false, "", "flowpipe/gradient", 48⟩,⟨"a", 44,13,false, "", "flowpipe/gradient", 136⟩,⟨"b", 44,20,false, "", "flowpipe/gradient", 224⟩,⟨"da", 44,27,false, "", "flowpipe/gradient", 312⟩,⟨"db", 44,34,false, "", "flowpipe/gradient", 400⟩,⟨"p", 3,41,false, "", "flowpipe/gradient", 488⟩],⟨.named "flowpipe/gradient.node" 195, "gradient.node", 42,496,true,8,8,some (.agg #[.int .i64 0,.int .i64 0,.int .i64 0,.int .i64 0,.int .i64 0,.int .i64 0,.bool false,.slice none 0 0,.int .i64 0,.bool false,.slice none 0 0,.int .i64 0,.bool false,.bool false,.slice none 0 0,.int .i64 0,.bool false,.slice none 0 0,.int .i64 0,.bool false,.bool false,.slice none 0 0,.int .i64 0,.bool false,.slice none 0 0,.int .i64 0,.bool false,.bool false,.slice none 0 0,.int .i64 0,.bool false,.slice none 0 0,.int .i64 0,.bool false,.bool false,.slice none 0 0,.int .i64 0,.bool false,.slice none 0 0,.int .i64 0,.bool false,.int .i64 0]),false,#[]⟩⟩,
 ⟨197,.func #[196] #[44] false,⟨.func #[196] #[44] false, "func(gradient.node) api.Interval", 1,8,true,8,8,some (.nilFunc),false,#[]⟩⟩,
 ⟨203,.struct #[⟨"p", 3,0,false, "", "flowpipe/exponent", 0⟩],⟨.named "flowpipe/exponent.work" 202, "exponent.work", 1,8,false,8,8,some (.agg #[.int .i64 0]),true,#[⟨"flowpipe/exponent.add", 134,#[],some (257,false)⟩,⟨"flowpipe/exponent.div", 134,#[],some (256,false)⟩,⟨"flowpipe/exponent.exp", 165,#[],some (287,false)⟩,⟨"flowpipe/exponent.halved", 167,#[],some (255,false)⟩,⟨"flowpipe/exponent.log", 165,#[],some (258,false)⟩,⟨"flowpipe/exponent.mul", 134,#[],some (259,false)⟩,⟨"flowpipe/exponent.small", 59,#[],some (289,false)⟩]⟩⟩,
 ⟨216,.struct #[⟨"neg", 4,0,false, "", "flowpipe/circle", 0⟩,⟨"m", 29,1,false, "", "flowpipe/circle", 8⟩],⟨.named "flowpipe/circle.fix" 215, "circle.fix", 2,32,true,8,8,some (.agg #[.bool false,.slice none 0 0]),false,#[⟨"flowpipe/circle.add", 227,#[],some (302,false)⟩,⟨"flowpipe/circle.by", 223,#[],some (307,false)⟩,⟨"flowpipe/circle.minus", 221,#[],some (293,false)⟩,⟨"flowpipe/circle.times", 224,#[],some (299,false)⟩,⟨"flowpipe/circle.zero", 34,#[],some (303,false)⟩]⟩⟩,
 ⟨227,.func #[216] #[216] false,⟨.func #[216] #[216] false, "func(circle.fix) circle.fix", 1,8,true,8,8,some (.nilFunc),false,#[]⟩⟩]
def KO:lY prog TT:=G4.ok ⟨⟨underlying3,aF⟩,⟨underlying4,aF⟩,⟨underlying5,aF⟩,⟨underlying9,aF⟩,⟨underlying22,aF⟩,⟨underlying23,aF⟩,⟨underlying25,aF⟩,⟨underlying26,aF⟩,⟨underlying28,aF⟩,⟨underlying29,aF⟩,⟨underlying31,aF⟩,⟨underlying33,aF⟩,⟨underlying36,aF⟩,⟨underlying40,aF⟩,⟨underlying44,aF⟩,⟨underlying45,aF⟩,⟨underlying59,aF⟩,⟨underlying63,aF⟩,⟨underlying86,aF⟩,⟨underlying89,aF⟩,⟨underlying91,aF⟩,⟨underlying94,aF⟩,⟨underlying96,aF⟩,⟨underlying100,aF⟩,⟨underlying118,aF⟩,⟨underlying120,aF⟩,⟨underlying121,aF⟩,⟨underlying134,aF⟩,⟨underlying136,aF⟩,⟨underlying138,aF⟩,⟨underlying150,aF⟩,⟨underlying151,aF⟩,⟨underlying152,aF⟩,⟨underlying163,aF⟩,⟨underlying174,aF⟩,⟨underlying193,aF⟩,⟨underlying196,aF⟩,⟨underlying197,aF⟩,⟨underlying203,aF⟩,⟨underlying216,aF⟩,⟨underlying227,aF⟩,trivial⟩
end Go.Proofs.YtkdddbdjilcofaaGreatDoor
namespace Go.Proofs.YtkdddbdjilcofaaGreatDoor.Pu
open Go.RowKit
def E.kE:E->Nat->Nat->E
 | .sl _ _ _ el,i,j=>el i j
 | .mY _ _ _ _ el,i,j=>el i j
 |_,_,_=>.any
section
variable {P:Program} {K:World->Prop}
def Sp.pre{c:Code}{σ τ:PS}{Q:Ex->PS->Prop}(h:PS.le σ τ)(k:Sp P K c τ Q):Sp P K c σ Q:=λw0 B a w L g r=>
 let⟨L',r'⟩:=h w0 B a w L (λb hb=>(g.hB b hb).1) r;k w0 B a w L' g r'
def Sp.post{c:Code}{σ:PS}{Q Q':Ex->PS->Prop}(h:Sp P K c σ Q)(k:∀ e τ,Q e τ->∃ τ',PS.le τ τ'/\Q' e τ'):Sp P K c σ Q':=λw0 B a w L g r=>
 Code.wp_mono (λ_ _ _ ⟨ex,τ,L',h1,h2,h3⟩=>let⟨τ',q1,q2⟩:=k ex τ h2;let⟨L2,r2⟩:=q1 w0 B _ _ L' (λb hb=>(g.hB b hb).1) h3;⟨ex,τ',L2,h1,q2,r2⟩) (h w0 B a w L g r)
def Sp.fam{α:Type}(f:α->PS)(p:α->Prop)(m:α->Nat){b:Code}{e:Ex}{τ:PS}
 (step:∀ x,p x->Sp P K b (f x) (λe' υ=>(e' = .normal/\∃ y,p y/\m y<m x/\υ=f y)\/(e' ≠ .normal/\e'=e/\υ=τ))) {σ:PS} (x:α) (hx:p x) (h0:PS.le σ (f x)):
 Sp P K (.loop b) σ (λe' υ=>e'=e/\υ=τ):=by
 refine Sp.pre h0 ?_;refine Sp.loop (Q:=λe' υ=>e'=e/\υ=τ) (λn σ=>∃ x,p x/\m x=n/\σ=f x) (λn σ ⟨x,h1,h2,h3⟩=>?_) (m x) (f x) ⟨x,hx,rfl,rfl⟩;subst h3 h2;exact(step x h1).mono λe' υ h=>h.imp (λ⟨q1,y,q2,q3,q4⟩=>⟨q1,m y,q3,y,q2,rfl,q4⟩) id
def Sp.adE{α:Type}{f:α->PS}{p:α->Prop}{m:α->Nat}{b:Code}{e:Ex}{τ υ:PS}{x:α}(y:α)(h:Sp P K b (f x) (λe' υ'=>e' = .normal/\υ'=υ))(hy:p y)(hm:m y<m x)(hl:PS.le υ (f y)):
 Sp P K b (f x) (λe' υ=>(e' = .normal/\∃ y,p y/\m y<m x/\υ=f y)\/(e' ≠ .normal/\e'=e/\υ=τ)):=
 h.post λ_ _ ⟨h1,h2⟩=>⟨f y,h2▸hl,.inl ⟨h1,y,hy,hm,rfl⟩⟩
def Sp.adF{α:Type}{f:α->PS}{p:α->Prop}{m:α->Nat}{b:Code}{e:Ex}{τ υ:PS}{x:α}(h:Sp P K b (f x) (λe' υ'=>e'=e/\υ'=υ))(he:e ≠ .normal)(hl:PS.le υ τ):
 Sp P K b (f x) (λe' υ=>(e' = .normal/\∃ y,p y/\m y<m x/\υ=f y)\/(e' ≠ .normal/\e'=e/\υ=τ)):=
 h.post λ_ _ ⟨h1,h2⟩=>⟨τ,h2▸hl,.inr ⟨h1▸he,h1,rfl⟩⟩
end
def AD(k:Nat):Code->Option Code
 | .loop b=>if Nat.beq (EX b) k then some b else AD k b
 | .seq a b=>match AD k a with
  |some c=>some c
  |none=>AD k b
 | .cond _ a b=>match AD k a with
  |some c=>some c
  |none=>AD k b
 | .block _ b=>AD k b
 | .scope b=>AD k b
 |_=>none
def aat(k:Nat)(fn:Func):Code:=((fn.body.bind (AD k)).getD .skip)
def Bx.le.iL{a b:Bx}(h:a=b):Bx.le a b:=h▸Bx.le.refl a
def Bx.le.cells{T:TypeId}{l m:List E}(hn:(l.all E.mO=true->m.all E.mO=true))(h:tA l m):Bx.le (.cells T l) (.cells T m):=⟨hn,λ_ _ _ _ _ ⟨b,vs,h1,h2,h3,h4,h5⟩=>⟨b,vs,h1,h2,h3,h.JZ h4,h5⟩⟩
def Bx.le.row{nl:Bool}{T:TypeId}{n n' sz:Nat}{el el':Nat->Nat->E}(hn:n=n')(h:∀ i j,i<n->j<sz->E.le (el i j) (el' i j)/\(el' i j).nr 2=true):Bx.le (.row nl T n sz el) (.row nl T n' sz el'):=
 ⟨id,λ_ _ _ _ _ ⟨f,h1,h2,h3⟩=>by subst hn;exact⟨f,h1,h2,λi j hi hj=>⟨(h i j hi hj).1 _ _ _ _ (h3 i j hi hj).1,(h i j hi hj).2⟩⟩⟩
def Bx.le.jA{nl:Bool}{T1 T0:TypeId}{n n' sz:Nat}{len len':Nat->Nat}{el el':Nat->Nat->Nat->E}{pend:Option Nat}(hn:n=n')(hl:∀ k,k<n->len k=len' k)
 (h:∀ k i j,k<n->i<len k->j<sz->E.le (el k i j) (el' k i j)/\(el' k i j).nr 2=true):Bx.le (.jA nl T1 T0 n sz len el pend) (.jA nl T1 T0 n' sz len' el' pend):=
 ⟨id,λ_ _ _ _ _ hh=>by
  subst hn;rcases hh with hh|⟨b,c,cur,f,h1,h2,h3,h4,h5,h6,h7,h8,h9,pM,rJ⟩
  .exact .inl hh
  refine .inr ⟨b,c,cur,f,h1,h2,h3,h4,h5,h6,h7,λk hk=>?_,h9,pM,rJ⟩;rw[<-hl k hk];exact⟨(h8 k hk).1,λi j hi hj=>⟨(h k i j hk hi hj).1 _ _ _ _ ((h8 k hk).2 i j hi hj).1,(h k i j hk hi hj).2⟩⟩⟩
def Bx.le.ajh{T1 T0 sz:Nat}{len:Nat->Nat}{el:Nat->Nat->E}{el':Nat->Nat->Nat->E}:Bx.le (.row true T1 0 1 el) (.jA true T1 T0 0 sz len el' none):=
 ⟨id,λ_ _ _ _ _ ⟨f,h1,h2,h3⟩=>by
  rcases h1 with⟨h,_⟩|⟨b,c,cur,h,hg,oB,nG,mL,j8,jx⟩
  .refine .inl ⟨h,rfl,λx hx=>?_⟩;have:=(h2 x).1 hx;rw[h]at this;simp[Value.ownBlock]at this
  .refine .inr ⟨b,c,cur,λ_ _ _=>undef,h,hg,oB,nG,aC,λk hk=>absurd hk (bk k),jx rfl,λk hk=>absurd hk (bk k),λx=>?_,λk k' x hk=>absurd hk (bk k),λk hk=>absurd hk (bk k)⟩;rw[h2,h];simp only[Value.ownBlock,bu];exact⟨λe=>.inl e.symm,λe=>e.elim (λe=>e.symm) λ⟨k,hk,_⟩=>absurd hk (bk k)⟩⟩
def PS.le.agh{σ τ:PS}(hn:σ.n=τ.n)(jx:(τ.b.all λx=>x.2.nl)=true)(hr:Gn τ=true)(ht:w9 σ τ.t)(hb:wb σ τ.b):PS.le σ τ:=λw0 B a w L _ r=>by
 let L':Lk:=⟨λid=>L.mf id/\(τ.bo id).isSome=true,λid x=>L.own id x/\(τ.bo id).isSome=true,L.val,L.iC⟩
 have im:rE L w L' w:=⟨bc _,λx _ ⟨id,h,_⟩=>⟨id,h⟩,λ_ _ _=>rfl⟩
 refine⟨L',r.hd,by rw[<-hn];exact r.hs,λt=>?_,λid b h=>?_,λid=>?_,λid x h=>⟨r.hn id x h.1,h.2⟩,λid x h=>r.hw id x h.1,λid id' x h k=>r.hi id id' x h.1 k.1,r.he,λh id b k=>?_⟩
 .have hg:τ.get t=((look τ.t t)).getD (.e .any):=rfl;cases hl:look τ.t t with
  |none=>rw[hg,hl];exact .any _
  |some p=>
   rw[hg,hl];have:=ht.get hl _ _ _ _ _ (r.ht t);refine mS.move im this λid hid rX=>⟨⟨rX,?_⟩,rfl,λ_=>rfl⟩
   have q:=bN.1 hr _ (Nv hl);exact bN.1 q id hid
 .obtain ⟨b',h1,h2⟩:=hb.get h;have hs:(τ.bo id).isSome=true:=by rw[h];rfl
  exact(h2.2 _ _ _ _ _ (r.hb id b' h1)).later im rfl (λx=>⟨λq=>q.1,λq=>⟨q,hs⟩⟩) (λ_=>rfl) λ_ _=>rfl
 .show L.mf id/\(τ.bo id).isSome=true↔(τ.bo id).isSome=true;refine⟨λh=>h.2,λh=>⟨(r.hv id).2 ?_,h⟩⟩;obtain⟨b,jd⟩:=fc.1 h;obtain⟨b',h1,_⟩:=hb.get jd;rw[h1];rfl
 .exact bN.1 jx _ (Nv k)
def PV.xw(id:Nat)(e:E)(p:PV):PV:=match p with
 | .own i=>if Nat.beq i id then .e e else .own i
 |p=>if p.lv.any (Nat.beq id)then .e .any else p
def PS.xw(σ:PS)(id:Nat)(e:E):PS:={ σ with t:=σ.t.map λx=>(x.1,x.2.xw id e),b:=σ.b.filter λx=>!Nat.beq x.1 id }
def Bx.as:Bx->Option E
 | .row nl _ n sz el=>some (.sl nl n sz el)
 | .jA nl _ _ n sz len el none=>some (.sl true n 1 λk _=>.sl nl (len k) sz (el k))
 |_=>none
def PS.le.freeze{σ:PS}(id:Nat){b:Bx}{e:E}(jd:σ.bo id=some b)(he:b.as=some e):PS.le σ (σ.xw id e):=λw0 B a w L hB r=>by
 let L':Lk:=⟨λi=>L.mf i/\i≠id,λi x=>L.own i x/\i≠id,L.val,L.iC⟩
 have im:rE L w L' w:=⟨bc _,λx _ ⟨i,h,_⟩=>⟨i,h⟩,λ_ _ _=>rfl⟩
 have su:∀ i,(σ.xw id e).bo i=if i=id then none else σ.bo i:=by
  intro i;unfold PS.bo PS.xw;by_cases h:i=id
  .subst h;simp only[bw];exact Vr _ _
  .rw [aY h];exact FQ _ _ _ (λe=>h e.symm)
 have Ag:∀ x,L.own id x->¬iY B L' x:=by
  rintro x hx (h|⟨i,h1,h2⟩)
  .have:=hB x h;have:=(r.hw id x hx).1;omega
  .exact h2 (r.hi i id x h1 hx)
 have own:∀ (v:Value) (T:TypeId) (n sz:Nat) (f:Nat->Nat->Value) (nl:Bool) (el:Nat->Nat->E),ny w v T n sz f nl->(∀ x,v.ownBlock=some x->L.own id x) ->
  (∀ i j,i<n->j<sz->ix (iY B L) (ju L) w (el i j) (f i j)/\(el i j).nr 2=true)->ix (iY B L') (ju L') w (.sl nl n sz el) v:=by
  intro v T n sz f nl el h1 h2 h3;rcases h1 with⟨rfl,rfl⟩|⟨b,c,cur,rfl,hg,oB,nG,mL,j8,jx⟩
  .exact .sl nl 0 sz el none 0 f (bc _) aE (λ_=>rfl) (λi j hi=>absurd hi (bk i)) (λi j hi=>absurd hi (bk i)) (λi j hi=>absurd hi (bk i)) (λi j hi=>absurd hi (bk i))
  .have sy:=h2 b rfl;refine .sl nl n sz el _ c f oB (by unfold maxLen at nG;omega) (λh=>by cases h) (λi j hi hj=>⟨(j8 i j hi hj).2,λhn=>jx hn _ (dH (j8 i j hi hj).1)⟩) (λi j hi hj=>(h3 i j hi hj).2)
    (λi j hi hj=>⟨b,0,rfl,Ag b sy,(r.hw id b sy).2,?_⟩) (λi j hi hj=>im.kA (h3 i j hi hj).1)
   rw[bY];simp only[World.cell?,hg];simpa using(j8 i j hi hj).1
 have hold:∀ v,v=L.val id->ix (iY B L') (ju L') w e v:=by
  rintro v rfl;have IJ:=r.hb id b jd;cases b with
  |cells T l=>cases he
  |row nl T n sz el=>
   cases he;obtain⟨f,h1,h2,h3⟩:=IJ;exact own _ T n sz f nl el h1 (λx hx=>(h2 x).2 hx) h3
  |jA nl T1 T0 n sz len el pend=>
   cases pend with
   |some k=>cases he
   |none=>
    cases he;rcases IJ with⟨h1,h2,_⟩|iU
    .subst h2;rw[h1];exact .sl true 0 1 _ none 0 (λ_ _=>undef) (bc _) aE (λ_=>rfl) (λi j hi=>absurd hi (bk i)) (λi j hi=>absurd hi (bk i)) (λi j hi=>absurd hi (bk i)) (λi j hi=>absurd hi (bk i))
    obtain⟨b,c,cur,f,h1,h2,h3,h4,h5,h6,h7,h8,h9,pM,rJ⟩:=iU;have sy:L.own id b:=(h9 b).2 (.inl rfl);rw[h1];refine .sl true n 1 _ _ c (λk _=>L.iC id k) h3 (by unfold maxLen at h4;omega) (λh=>by cases h) (λk j hk hj=>?_) (λk j hk hj=>rfl)
     (λk j hk hj=>⟨b,0,rfl,Ag b sy,(r.hw id b sy).2,?_⟩) (λk j hk hj=>own _ T0 (len k) sz (f k) nl (el k) (h8 k hk).1 (λx hx=>(h9 x).2 (.inr ⟨k,hk,hx⟩)) (h8 k hk).2)
    .obtain ⟨_,q1,q2⟩:=(h8 k hk).1.head;exact⟨q1,λ_=>q2⟩
    .rw [bY,bZ];obtain rfl:j=0:= aC ;simp only[World.cell?,h2];simpa using h6 k hk aH 
 refine⟨L',r.hd,r.hs,λt=>?_,λi b' h=>?_,λi=>?_,λi x h=>⟨r.hn i x h.1,h.2⟩,λi x h=>r.hw i x h.1,λi i' x h k=>r.hi i i' x h.1 k.1,r.he,λh i b' k=>?_⟩
 .have hg:(σ.xw id e).get t=(σ.get t).xw id e:=by
   unfold PS.get PS.xw;rw[Vs];cases look σ.t t<;>rfl
  rw[hg];have k:=r.ht t;generalize σ.get t=p at k;have move:∀ (p:PV) (v:Value),mS (iY B L) (ju L) L w p v->(p.lv.any (Nat.beq id))=false->mS (iY B L') (ju L') L' w p v:=by
   intro p v k hp;refine mS.move im k λi hi rX=>⟨⟨rX,?_⟩,rfl,λ_=>rfl⟩
   rintro rfl;have:=cW.1 hp i hi;simp at this
  have gen:∀ (p:PV) (v:Value),mS (iY B L) (ju L) L w p v->mS (iY B L') (ju L') L' w (if p.lv.any (Nat.beq id)then .e .any else p) v:=by
   intro p v k;cases hp:p.lv.any (Nat.beq id)with
   |true=>exact .any _
   |false=>exact move p v k hp
  cases p with
  |own i=>
   simp only[PV.xw];by_cases hi:i=id
   .subst hi;rw[cg,aZ rfl];exact hold _ k.2
   .rw [cI hi,aY aE];exact⟨⟨k.1,hi⟩,k.2⟩
  |_=>exact gen _ _ k
 .rw [su]at h;split at h
  .cases h
  .rename_i hi;exact(r.hb i b' h).later im rfl (λx=>⟨λq=>q.1,λq=>⟨q,hi⟩⟩) (λ_=>rfl) λ_ _=>rfl
 .rw [su];show L.mf i/\i≠id↔_;by_cases hi:i=id
  .subst hi;simp
  .simp only[hi,cS,ef,eX,bj];exact r.hv i
 .rw [su]at k;split at k
  .cases k
  .exact r.hl h i b' k
def PS.CP(σ:PS)(t id:Nat)(b:Bx):PS:={ σ with t:=(t,.own id)::σ.t.filter (λx=>!Nat.beq x.1 t),b:=(id,b)::σ.b }
def PS.le.Zn{σ:PS}(t id:Nat){nl:Bool}{T:TypeId}{sz:Nat}{el:Nat->Nat->E}(jd:σ.bo id=none)(hg:σ.get t = .e (.v (.slice none 0 0)))(jx:σ.nl=true->nl=true):PS.le σ (σ.CP t id (.row nl T 0 sz el)):=λw0 B a w L hB r=>by
 have qa:¬L.mf id:=λh=>by have:=(r.hv id).1 h;rw[jd]at this;cases this
 let L':Lk:=⟨λi=>L.mf i\/i=id,L.own,λi=>if i=id then .slice none 0 0 else L.val i,L.iC⟩
 have im:rE L w L' w:=⟨bc _,λx _ h=>h,λ_ _ _=>rfl⟩
 have su:∀ i,(σ.CP t id (.row nl T 0 sz el)).bo i=if i=id then some (.row nl T 0 sz el)else σ.bo i:=by
  intro i;unfold PS.bo PS.CP;rw[tY];by_cases h:id=i
  .rw [aZ h,aZ h.symm]
  .rw [aY h,aY (λe=>h e.symm)]
 have hv:a.tmps.getD t undef = .slice none 0 0:=by
  have:=r.ht t;rw[hg]at this;exact ix.ku this
 refine⟨L',r.hd,r.hs,λs=>?_,λi b' h=>?_,λi=>?_,λi x h=>.inl (r.hn i x h),r.hw,r.hi,r.he,λh i b' k=>?_⟩
 .have hgs:(σ.CP t id (.row nl T 0 sz el)).get s=if t=s then .own id else σ.get s:=by
   unfold PS.get PS.CP;simp only[tY];by_cases h:t=s
   .rw [aZ h,aZ h];rfl
   .rw [aY h,aY h,FQ _ _ _ h]
  rw[hgs];by_cases h:t=s
  .subst h;rw[aZ rfl,hv];exact⟨.inr rfl,(aZ rfl).symm⟩
  .rw [aY h];refine mS.move im (r.ht s) λi _ rX=>⟨.inl rX,aY (λ(q:i=id)=>qa (q▸rX)),λ_=>rfl⟩
 .rw [su]at h;split at h
  .rename_i hi;subst hi;cases h;refine⟨λ_ _=>undef,.inl ⟨aZ rfl,rfl⟩,λx=>⟨λq=>absurd (r.hn _ _ q) qa,λq=>?_⟩,λi j hi=>absurd hi (bk i)⟩;have e1:L'.val i = .slice none 0 0:=aZ rfl;rw[e1]at q;cases q
  .rename_i hi;exact(r.hb i b' h).later im (aY hi) (λ_=>Iff.rfl) (λ_=>rfl) λ_ _=>rfl
 .rw [su];show L.mf i\/i=id↔_;by_cases hi:i=id
  .subst hi;simp
  .simp only[hi,or_false,bj];exact r.hv i
 .rw [su]at k;split at k
  .cases k;exact jx h
  .exact r.hl h i b' k
end Go.Proofs.YtkdddbdjilcofaaGreatDoor.Pu
namespace Go.Proofs.YtkdddbdjilcofaaGreatDoor.Fp
def mU(x i:Nat)(b o:List Nat):Nat->List Nat×Nat
 | 0=>(o,0)
 |k+1=>
  let r:=mU x i b o k
  let z:=x*b.getD k 0+r.1.getD (i+k) 0+r.2
  (r.1.set (i+k) (z%4294967296),z/4294967296)
def kZ(a b:List Nat):Nat->List Nat
 | 0=>List.replicate (a.length+b.length) 0
 |i+1=>
  let r:=mU (a.getD i 0) i b (kZ a b i) b.length
  r.1.set (i+b.length) (r.2%4294967296)
def VS{x y:Nat}(hx:x<4294967296)(hy:y<4294967296):x*y<=18446744065119617025:=by
 have:=dj (aC:x<=4294967295) (aC:y<=4294967295);omega
def CF{L:List Nat}{k x:Nat}(hk:k<L.length):val (L.set k x)+4294967296^k*L.getD k 0=val L+4294967296^k*x:=by
 have:=Pn (x:=x) hk;rwa[bd,bt hk]
def Ac{L:List Nat}{k j x:Nat}(h:k≠j):(L.set k x).getD j 0=L.getD j 0:=by
 simp only[bd,List.getElem?_set_ne h]
def ad2{L:List Nat}{k x:Nat}(h:k<L.length):(L.set k x).getD k 0=x:=by
 simp[bd,h]
structure Zd(x i:Nat)(b o:List Nat)(k:Nat)(r:List Nat×Nat):Prop where
 ok:iD r.1
 len:r.1.length=o.length
 lt:r.2<4294967296
 eq:val r.1+4294967296^(i+k)*r.2=val o+4294967296^i*(x*val (b.take k))
 pR:∀ j,i+k<=j->r.1.getD j 0=o.getD j 0
def FW{x i:Nat}{b o:List Nat}(hx:x<4294967296)(hb:iD b)(ho:iD o)(hl:i+b.length<=o.length):∀ k,k<=b.length->Zd x i b o k (mU x i b o k)
 | 0,_=>⟨ho,rfl,Nat.zero_lt_succ _,by simp[mU,val],λ_ _=>rfl⟩
 |k+1,hk=>by
  obtain⟨h1,h2,h3,h4,h5⟩:=FW hx hb ho hl k aC;have hy:=hb.getD k;have hw:=h1.getD (i+k);have hm:=VS hx hy;have hv:=Ba b k;simp only[mU];generalize mU x i b o k=r at *
  generalize hz:x*b.getD k 0+r.1.getD (i+k) 0+r.2=z;have BW:=CF (L:=r.1) (k:=i+k) (x:=z%4294967296) aC;refine⟨h1.set _ (bF _ aE),by simpa using h2,by show z/4294967296<_;omega,?_,λj hj=>?_⟩
  .have e1:z=z%4294967296+4294967296*(z/4294967296):=(er z _).symm;show val (r.1.set (i+k) (z%4294967296))+4294967296^(i+(k+1))*(z/4294967296)=_;rw[hv,bO x,bO (4294967296^i),<-cQ (val o),<-h4];have e2:4294967296^(i+(k+1))*(z/4294967296)=4294967296^(i+k)*(4294967296*(z/4294967296)):=by rw[(aC:i+(k+1)=(i+k)+1),bC,bA]
   have e3:4294967296^i*(x*(4294967296^k*b.getD k 0))=4294967296^(i+k)*(x*b.getD k 0):=by rw[bh];simp only[bA,dK]
   rw[e2,e3];have e4:4294967296^(i+k)*z=4294967296^(i+k)*(x*b.getD k 0)+4294967296^(i+k)*r.1.getD (i+k) 0+4294967296^(i+k)*r.2:=by rw[<-hz,bO,bO]
   have e5:4294967296^(i+k)*z=4294967296^(i+k)*(z%4294967296)+4294967296^(i+k)*(4294967296*(z/4294967296)):=by rw[<-bO,<-e1]
   omega
  .show (r.1.set (i+k) _).getD j 0=_;rw[Ac aC,h5 j aC]
structure Ze(a b:List Nat)(i:Nat)(o:List Nat):Prop where
 ok:iD o
 len:o.length=a.length+b.length
 eq:val o=val (a.take i)*val b
 zero:∀ j,i+b.length<=j->o.getD j 0=0
def FY{a b:List Nat}(ha:iD a)(hb:iD b):∀ i,i<=a.length->Ze a b i (kZ a b i)
 | 0,_=>⟨iD.DY _,by simp[kZ],by simp[kZ,CE,val],λj _=>by
  by_cases h:j<a.length+b.length<;>simp[kZ,bd,eE,h]⟩
 |i+1,hi=>by
  obtain⟨h1,h2,h3,h4⟩:=FY ha hb i aC;obtain⟨q1,q2,q3,q4,q5⟩:=FW (ha.getD i) hb h1 (i:=i) aC b.length (bc _);have hv:=Ba a i;simp only[kZ];generalize mU (a.getD i 0) i b (kZ a b i) b.length=r at *
  have BW:=CF (L:=r.1) (k:=i+b.length) (x:=r.2%4294967296) aC;rw[q5 _ (bc _),h4 _ (bc _),cH,bR,bX q3,q4,eG,h3]at BW;refine⟨q1.set _ (bF _ aE),aN,?_,λj hj=>?_⟩
  .rw [bX q3,BW,hv,bS,bA]
  .rw [Ac aC,q5 _ aC,h4 _ aC]
def alb{a b:List Nat}(ha:iD a)(hb:iD b):val (kZ a b a.length)=val a*val b:=by
 have:=(FY ha hb a.length (bc _)).eq;rwa[eG]at this
end Go.Proofs.YtkdddbdjilcofaaGreatDoor.Fp
namespace Go.Proofs.YtkdddbdjilcofaaGreatDoor
open Go.RowKit Fp Pu
abbrev pG(L:List Nat):Nat->Nat->E:=λi _=>.v (.int .u32 (L.getD i 0:Int))
def Ea(n:Nat):IntKind.u32.wrap (n:Int)=((n%4294967296:Nat):Int):=by rw[IntKind.wrap_u32];omega
def Jf(n:Nat)(h:n<9223372036854775808):IntKind.i64.wrap (n:Int)=n:=by rw[IntKind.wrap_i64];omega
def XZ(n:Nat):(n:Int)/2^32=((n/4294967296:Nat):Int):= aC 
def X6{L:List Nat}{n:Nat}(h:n=L.length):E.le (.sl false n 1 (pG L)) (gV L):=by subst h;exact .refl _
def Xe{T n n':Nat}{L:List Nat}(hn:n=n')(h:∀ i,L.getD i 0=0):Bx.le (.row false T n 1 λ_ j=>[.v (.int .u32 0)].getD j .any) (.row false T n' 1 (pG L)):=
 .row hn λi j _ hj=>by
  obtain rfl:j=0:= aC ;refine⟨.iL ?_,rfl⟩;show E.v (.int .u32 0)=E.v (.int .u32 (L.getD i 0:Int));rw[h i];rfl
def ON{T n n' p:Nat}{L:List Nat}{z:Nat}(hn:n=n')(hp:p<L.length):Bx.le (.row false T n 1 λi' j'=>if i'=p/\0<=j'/\j'<0+1 then[.v (.int .u32 (z:Int))].getD (j'-0) .any else(pG L) i' j') (.row false T n' 1 (pG (L.set p z))):=
 .row hn λi j _ hj=>by
  obtain rfl:j=0:= aC ;refine⟨.iL ?_,rfl⟩;by_cases h:i=p
  .subst h;rw[aZ ⟨rfl,aC,aC⟩];show E.v (.int .u32 (z:Int))=E.v (.int .u32 (((L.set i z).getD i 0:Nat):Int));rw[Fp.ad2 hp]
  .rw [aY (λq=>h q.1)];show E.v (.int .u32 (L.getD i 0:Int))=E.v (.int .u32 (((L.set p z).getD i 0:Nat):Int));rw[Fp.Ac (λq=>h q.symm)]
def W6{k l:IntKind}{a b c d:Int}(h:a=b)(h':c=d):Ending.returned (.tuple #[.int k a,.int l c]) = .returned (.tuple #[.int k b,.int l d]):=by rw[h,h']
def Ek(x y c:Nat)(w:World)(hx:x<4294967296)(hy:y<4294967296)(hc:c<=1):
 Calls prog 271 #[.int .u32 x,.int .u32 y,.int .u32 c] w λe w'=>e = .returned (.tuple #[.int .u32 (((x+y+c)%4294967296:Nat):Int),.int .u32 (((x+y+c)/4294967296:Nat):Int)])/\w=w':=by
 go_enter func271,ntmps271;go_wp2;go_ret2;refine⟨?_,rfl⟩;exact W6 aC aC 
def ak3(a b:Nat)(ha:a<4294967296)(hb:b<4294967296):bits .or .u32 (a:Int) (b:Int)=((a |||b:Nat):Int):=by
 have h2:a |||b<2^32:=amu ha hb
 show IntKind.u32.wrap ((BitVec.ofInt 32 (a:Int) |||BitVec.ofInt 32 (b:Int)).toNat:Int)=_;rw[BitVec.toNat_or,fh,fh];rw[show((a:Int)%((2^32:Nat):Int)).toNat=a by omega,show((b:Int)%((2^32:Nat):Int)).toNat=b by omega];rw[IntKind.wrap_u32];omega
def YG(a b:Nat)(ha:a<4294967296)(hb:b<4294967296):bits .and .u32 (a:Int) (b:Int)=((a &&& b:Nat):Int):=by
 have h2:a &&& b<2^32:=ff a hb;show IntKind.u32.wrap ((BitVec.ofInt 32 (a:Int) &&& BitVec.ofInt 32 (b:Int)).toNat:Int)=_;rw[BitVec.toNat_and,fh,fh];rw[show((a:Int)%((2^32:Nat):Int)).toNat=a by omega,show((b:Int)%((2^32:Nat):Int)).toNat=b by omega];rw[IntKind.wrap_u32];omega
def Pk(a b:Nat)(ha:a<4294967296)(hb:b<4294967296):bits .xor .u32 (a:Int) (b:Int)=((a ^^^ b:Nat):Int):=by
 have h2:a ^^^ b<2^32:=eH ha hb;show IntKind.u32.wrap ((BitVec.ofInt 32 (a:Int) ^^^ BitVec.ofInt 32 (b:Int)).toNat:Int)=_;rw[BitVec.toNat_xor,fh,fh];rw[show((a:Int)%((2^32:Nat):Int)).toNat=a by omega,show((b:Int)%((2^32:Nat):Int)).toNat=b by omega];rw[IntKind.wrap_u32];omega
def Kk(n:Nat)(h:n<4294967296):n/2147483648=(n.testBit 31).toNat:=by
 rw[Nat.testBit_eq_decide_div_mod_eq,show(2:Nat)^31=2147483648 from rfl];have h2:n/2147483648<2:= aC ;generalize n/2147483648=q at *
 have:q=0\/q=1:= aC ;rcases this with rfl|rfl<;>rfl
def akc(x y c d:Nat)(hx:x<4294967296)(hy:y<4294967296)(hc:c<=1)(hd:d=(x+(4294967296-y)+(4294967296-c))%4294967296):
 (((4294967295 ^^^ x) &&& y) ||| ((4294967295 ^^^ (x ^^^ y)) &&& d))/2147483648=if x<y+c then 1 else 0:=by
 have Fa:d<4294967296:= aC ;have h1:4294967295 ^^^ x<2^32:=eH aE hx;have h2:x ^^^ y<2^32:=eH hx hy;have h3:4294967295 ^^^ (x ^^^ y)<2^32:=eH aE h2;have h4:(4294967295 ^^^ x) &&& y<2^32:=ff _ hy;have h5:(4294967295 ^^^ (x ^^^ y)) &&& d<2^32:=ff _ Fa;rw[Kk _ (amu h4 h5)];have tx:=Kk x hx;have ty:=Kk y hy;have td:=Kk d Fa;rw[Nat.testBit_or,Nat.testBit_and,Nat.testBit_and,amy,amy,amy,show(4294967295:Nat).testBit 31=true by decide];clear h1 h2 h3 h4 h5;generalize x.testBit 31=p at *
 generalize y.testBit 31=q at *
 generalize d.testBit 31=r at *
 cases p<;>cases q<;>cases r<;>simp at tx ty td ⊢ <;> omega
def Bj(x y c:Nat):Nat:=if x<y+c then 1 else 0
def xp(x y c:Nat):Nat:=(x+(4294967296-y)+(4294967296-c))%4294967296
def EJ(x y c:Nat)(hx:x<4294967296)(hy:y<4294967296)(hc:c<=1):xp x y c+y+c=x+4294967296*Bj x y c/\Bj x y c<=1/\xp x y c<4294967296:=by
 unfold xp Bj;split<;>omega
def Yf(x y c:Nat)(w:World)(hx:x<4294967296)(hy:y<4294967296)(hc:c<=1):
 Calls prog 272 #[.int .u32 x,.int .u32 y,.int .u32 c] w λe w'=>e = .returned (.tuple #[.int .u32 (xp x y c:Nat),.int .u32 (Bj x y c:Nat)])/\w=w':=by
 go_enter func272,ntmps272;go_wp2;go_ret2;refine⟨?_,rfl⟩;have hd:((x:Int)-y-c)%4294967296=(xp x y c:Int):=by unfold xp;omega
 have hb:=akc x y c (xp x y c) hx hy hc rfl;have hl:=(EJ x y c hx hy hc).2.2;have em:IntKind.u32.max=((4294967295:Nat):Int):=rfl;refine W6 hd ?_;rw[hd,em,Pk _ _ aE hx,Pk _ _ hx hy];have h1:4294967295 ^^^ x<2^32:=eH aE hx;have h2:x ^^^ y<2^32:=eH hx hy;have h3:4294967295 ^^^ (x ^^^ y)<2^32:=eH aE h2;rw[Pk _ _ aE h2,YG _ _ h1 hy,YG _ _ h3 hl];have h4:(4294967295 ^^^ x) &&& y<2^32:=ff _ hy;have h5:(4294967295 ^^^ (x ^^^ y)) &&& xp x y c<2^32:=ff _ hl;rw[ak3 _ _ h4 h5];unfold Bj;rw[<-hb];omega
def PT{O:List Nat}{k c x y P Q P' Q':Nat}(ho:O[k]? = some 0)(h:val O+4294967296^k*c=P+Q)
 (hP:P'=P+4294967296^k*x) (hQ:Q'=Q+4294967296^k*y):
 val (O.set k ((x+y+c)%4294967296))+4294967296^(k+1)*((x+y+c)/4294967296)=P'+Q':=by
 have h1:=VT (a:=1) (b:=x+y) (c:=c) ho;rw[bU,bR]at h1;rw[h1,h,hP,hQ,bO];omega
def Yg{O:List Nat}{k c x y d c' P Q P' Q':Nat}(ho:O[k]? = some 0)(h:val O+Q=P+4294967296^k*c)
 (hP:P'=P+4294967296^k*x) (hQ:Q'=Q+4294967296^k*y) (hd:d+y+c=x+4294967296*c'):
 val (O.set k d)+Q'=P'+4294967296^(k+1)*c':=by
 obtain⟨hk,h0⟩:=b5.1 ho;have h1:=Pn (x:=d) hk;rw[h0,cH,bR]at h1;have e:=congrArg (4294967296^k * ·) hd;simp only[bO,<-bA]at e;rw[bC,h1,hP,hQ];omega
def uf(O:List Nat)(k:Nat):Prop:=∀ j,k<=j->j<O.length->O[j]? = some 0
def uf.at{O:List Nat}{k:Nat}(h:uf O k)(hk:k<O.length):O[k]? = some 0:=h k (bc _) hk
def uf.set{O:List Nat}{k:Nat}(h:uf O k)(v:Nat):uf (O.set k v) (k+1):=λj h1 h2=>by
 rw[List.getElem?_set_ne aC];exact h j aC (by simpa using h2)
def uf.Pt(n:Nat):uf (List.replicate n 0) 0:=λj _ h=>by
 rw[eE];rw[aZ (by simpa using h)]
def KL(w:World)(v n:Nat)(e:Ending)(w':World):Prop:=∃ T,val T=v/\iD T/\T.length=n/\xg w T e w'
def PF(w:World)(v n:Nat)(e:Ending)(w':World):Prop:=∃ T,val T=v/\iD T/\T.length<=n/\xg w T e w'
def ahp(A B:Option Addr)(c d:Nat)(L M:List Nat)(w:World)(hs:Sl w A c L)(hr:Sl w B d M)(h1:L.length<=3000)(_h2:M.length<=3000)(hc:M.length<=L.length):
 Calls prog 238 #[.slice A L.length c,.slice B M.length d] w (KL w (val L+val M) (L.length+1)):=by
 obtain⟨l,hl⟩:∃ l,l=L.length:=⟨_,rfl⟩
 obtain⟨m,hm⟩:∃ m,m=M.length:=⟨_,rfl⟩
 rw[<-hl,<-hm]at hc;rw[<-hl]at h1;rw[<-hm]at _h2;have HL:=amW hl;have HM:=amW hm;rw[<-hl,<-hm];clear hl hm;have d0:decide ((l:Int)<m)=false:=a7 aC;have d1:decide (l<m)=false:=a7 aC;have vH:=FT (l+1) aC;rw[show((l+1:Nat):Int)=l+1 by omega]at vH;have xB:=amW (Rw.AE w (l+1));go_enter func238,ntmps238;go_wp2;go_loopw [6,7,8,9,23] (λcy _ _ _ i wr=>∃ (k q:Nat) (O:List Nat),k<=l/\i = .int .i64 k/\cy = .int .u32 q/\q<=1/\O.length=l+1/\iD O/\uf O k/\val O+4294967296^k*q=val (L.take k)+val (M.take k)/\Rw wr w.heap.size O/\iB w wr) (λ_ _ _ _ i _=>l-(intOf i).toNat)
 case atStart=>
  exact⟨0,0,List.replicate (l+1) 0,bV _,rfl,rfl,aE,aH,iD.DY _,uf.Pt _,by simp[CE],xB.out,iB.alloc _ _⟩
 case round=>
  obtain⟨k,q,O,hk,rfl,rfl,hq,hO,me,hz,kF,hR,hb⟩:=hrel;have HV:=amW kF;have HO:=amW hO;clear kF hO;have HZ:=amW hz;clear hz;by_cases im:k<l
  .have tK:k<L.length:=by have:=HL.out;omega
   obtain⟨ab,ao,e1,_,c1⟩:=(hs.below hb).mu tK;have ng:L[k]<4294967296:=hs.ok.get tK;have ho:=HZ.out.at (by have:=HO.out;omega)
   have c4:=hR.frozen k;have IM:=hR.cell ho;have HT:=amW (CG L k tK);have HY:=amW (Ba M k);have qU:M.getD k 0<4294967296:=hr.ok.getD k;have HYc:=amW (λ(h:k<M.length)=>(hr.below hb).mu h);have HYg:=amW (λ(h:k<M.length)=>LV h);have HYn:=amW (λ(h:¬k<M.length)=>LU h);have HX:=amW (rfl:L[k]=L[k]);obtain⟨a,ha⟩:∃ a,a=L[k]:=⟨_,rfl⟩
   rw[<-ha]at c1 ng HT;clear ha HX tK;have HS:=amW (PT ho HV.out HT.out HY.out);have HN:=amW (λv=>HZ.out.set v);have HOK:=amW (λv=>me.XU k v);have HR2:=amW (λv:Nat=>hR.set k v);have HE2:=amW (λv:Value=>hb.setCell (p:=⟨w.heap.size,k,none⟩) (bc _) v);clear ho hR hb me;subst e1;by_cases Ut:k<m
   .have wG:k<M.length:=by have:=HM.out;omega
    obtain⟨bb,bo,e2,_,c2⟩:=HYc.out wG;subst e2;rw[<-HYg.out wG]at c2;generalize M.getD k 0=b at *
    clear HYc HYg HYn wG;have HA:=amW (λw=>Ek a b q w ng qU hq);go_wp2_with fail;refine(HA.out _).mono ?_;rintro e w1 ⟨rfl,rfl⟩;go_wp2;go_roundw
    case rel=>
     exact⟨k+1,(a+b+q)/4294967296,O.set k ((a+b+q)%4294967296),aC,by go_num,rfl,aC,by rw[cY];exact HO.out,HOK.out _,HN.out _,HS.out,HR2.out _,HE2.out _⟩
    case measure=>simp[intOf];omega
   .rw [HYn.out (by have:=HM.out;omega)]at HS;clear HYc HYg HYn qU HY;have HA:=amW (λw=>Ek a 0 q w ng aE hq);go_wp2_with fail;refine(HA.out _).mono ?_;rintro e w1 ⟨rfl,rfl⟩;go_wp2;go_roundw
    case rel=>
     exact⟨k+1,(a+0+q)/4294967296,O.set k ((a+0+q)%4294967296),aC,by go_num,rfl,aC,by rw[cY];exact HO.out,HOK.out _,HN.out _,HS.out,HR2.out _,HE2.out _⟩
    case measure=>simp[intOf];omega
  .obtain rfl:k=l:= aC ;have ho:=HZ.out.at (by have:=HO.out;omega)
   have c4:=hR.frozen k;have IM:=hR.cell ho;have HF:=amW (show val (O.set k q)=val L+val M by
    have h:=QP (c:=q) ho;rw[bY,bX aC,cO aC,cH,bR,HV.out,show L.take k=L from cN (by rw[HL.out];exact bc _),show M.take k=M from cN (by rw[<-HM.out];omega)]at h;omega)
   have HLn:=amW (show(O.set k q).length=k+1 by rw[cY];exact HO.out);have HOK:Hid (iD (O.set k q)):=me.set k aC;have HR2:=amW (hR.set k q);have HE2:=amW (λv:Value=>hb.setCell (p:=⟨w.heap.size,k,none⟩) (bc _) v);clear ho hR hb me;go_wp2;go_ret;have vL:=HR2.out.sl HOK.out (by rw[HLn.out];omega);rw[HLn.out]at vL;exact⟨_,HF.out,HOK.out,HLn.out,_,_,(by rw[HLn.out];rfl),vL,HE2.out _⟩
def ahq(A B:Option Addr)(c d:Nat)(L M:List Nat)(w:World)(hs:Sl w A c L)(hr:Sl w B d M)(h1:L.length<=3000)(h2:M.length<=3000)(hc:L.length<M.length):
 Calls prog 238 #[.slice A L.length c,.slice B M.length d] w (KL w (val L+val M) (M.length+1)):=by
 obtain⟨l,hl⟩:∃ l,l=L.length:=⟨_,rfl⟩
 obtain⟨m,hm⟩:∃ m,m=M.length:=⟨_,rfl⟩
 rw[<-hl,<-hm]at hc;rw[<-hl]at h1;rw[<-hm]at h2;have HL:=amW hl;have HM:=amW hm;rw[<-hl,<-hm];clear hl hm;have d0:decide ((l:Int)<m)=true:=a6 aC;have d1:decide (l<m)=true:=a6 aC;have vH:=FT (m+1) aC;rw[show((m+1:Nat):Int)=m+1 by omega]at vH;have xB:=amW (Rw.AE w (m+1));go_enter func238,ntmps238;go_wp2;go_loopw [6,7,8,9,23] (λcy _ _ _ i wr=>∃ (k q:Nat) (O:List Nat),k<=m/\i = .int .i64 k/\cy = .int .u32 q/\q<=1/\O.length=m+1/\iD O/\uf O k/\val O+4294967296^k*q=val (M.take k)+val (L.take k)/\Rw wr w.heap.size O/\iB w wr) (λ_ _ _ _ i _=>m-(intOf i).toNat)
 case atStart=>
  exact⟨0,0,List.replicate (m+1) 0,bV _,rfl,rfl,aE,aH,iD.DY _,uf.Pt _,by simp[CE],xB.out,iB.alloc _ _⟩
 case round=>
  obtain⟨k,q,O,hk,rfl,rfl,hq,hO,me,hz,kF,hR,hb⟩:=hrel;have HV:=amW kF;have HO:=amW hO;clear kF hO;have HZ:=amW hz;clear hz;by_cases im:k<m
  .have tK:k<M.length:=by have:=HM.out;omega
   obtain⟨ab,ao,e1,_,c1⟩:=(hr.below hb).mu tK;have ng:M[k]<4294967296:=hr.ok.get tK;have ho:=HZ.out.at (by have:=HO.out;omega)
   have c4:=hR.frozen k;have IM:=hR.cell ho;have HT:=amW (CG M k tK);have HY:=amW (Ba L k);have qU:L.getD k 0<4294967296:=hs.ok.getD k;have HYc:=amW (λ(h:k<L.length)=>(hs.below hb).mu h);have HYg:=amW (λ(h:k<L.length)=>LV h);have HYn:=amW (λ(h:¬k<L.length)=>LU h);have HX:=amW (rfl:M[k]=M[k]);obtain⟨a,ha⟩:∃ a,a=M[k]:=⟨_,rfl⟩
   rw[<-ha]at c1 ng HT;clear ha HX tK;have HS:=amW (PT ho HV.out HT.out HY.out);have HN:=amW (λv=>HZ.out.set v);have HOK:=amW (λv=>me.XU k v);have HR2:=amW (λv:Nat=>hR.set k v);have HE2:=amW (λv:Value=>hb.setCell (p:=⟨w.heap.size,k,none⟩) (bc _) v);clear ho hR hb me;subst e1;by_cases Ut:k<l
   .have wG:k<L.length:=by have:=HL.out;omega
    obtain⟨bb,bo,e2,_,c2⟩:=HYc.out wG;subst e2;rw[<-HYg.out wG]at c2;generalize L.getD k 0=b at *
    clear HYc HYg HYn wG;have HA:=amW (λw=>Ek a b q w ng qU hq);go_wp2_with fail;refine(HA.out _).mono ?_;rintro e w1 ⟨rfl,rfl⟩;go_wp2;go_roundw
    case rel=>
     exact⟨k+1,(a+b+q)/4294967296,O.set k ((a+b+q)%4294967296),aC,by go_num,rfl,aC,by rw[cY];exact HO.out,HOK.out _,HN.out _,HS.out,HR2.out _,HE2.out _⟩
    case measure=>simp[intOf];omega
   .rw [HYn.out (by have:=HL.out;omega)]at HS;clear HYc HYg HYn qU HY;have HA:=amW (λw=>Ek a 0 q w ng aE hq);go_wp2_with fail;refine(HA.out _).mono ?_;rintro e w1 ⟨rfl,rfl⟩;go_wp2;go_roundw
    case rel=>
     exact⟨k+1,(a+0+q)/4294967296,O.set k ((a+0+q)%4294967296),aC,by go_num,rfl,aC,by rw[cY];exact HO.out,HOK.out _,HN.out _,HS.out,HR2.out _,HE2.out _⟩
    case measure=>simp[intOf];omega
  .obtain rfl:k=m:= aC ;have ho:=HZ.out.at (by have:=HO.out;omega)
   have c4:=hR.frozen k;have IM:=hR.cell ho;have HF:=amW (show val (O.set k q)=val L+val M by
    have h:=QP (c:=q) ho;rw[bY,bX aC,cO aC,cH,bR,HV.out,show M.take k=M from cN (by rw[HM.out];exact bc _),show L.take k=L from cN (by rw[<-HL.out];omega)]at h;omega)
   have HLn:=amW (show(O.set k q).length=k+1 by rw[cY];exact HO.out);have HOK:Hid (iD (O.set k q)):=me.set k aC;have HR2:=amW (hR.set k q);have HE2:=amW (λv:Value=>hb.setCell (p:=⟨w.heap.size,k,none⟩) (bc _) v);clear ho hR hb me;go_wp2;go_ret;have vL:=HR2.out.sl HOK.out (by rw[HLn.out];omega);rw[HLn.out]at vL;exact⟨_,HF.out,HOK.out,HLn.out,_,_,(by rw[HLn.out];rfl),vL,HE2.out _⟩
def We(A B:Option Addr)(c d:Nat)(L M:List Nat)(w:World)(hs:Sl w A c L)(hr:Sl w B d M)(h1:L.length<=3000)(h2:M.length<=3000):
 Calls prog 238 #[.slice A L.length c,.slice B M.length d] w (KL w (val L+val M) (max L.length M.length+1)):=by
 by_cases hc:M.length<=L.length
 .rw [Nat.max_eq_left hc];exact ahp A B c d L M w hs hr h1 h2 hc
 .rw [Nat.max_eq_right aC];exact ahq A B c d L M w hs hr h1 h2 aC 
def aho(A B:Option Addr)(c d:Nat)(L M:List Nat)(w:World)(hs:Sl w A c L)(hr:Sl w B d M)(h1:L.length<=3000)(h2:M.length<=3000):
 Calls prog 238 #[.slice A L.length c,.slice B M.length d] w (PF w (val L+val M) (max L.length M.length+1)):=
 (We A B c d L M w hs hr h1 h2).mono λ_ _ ⟨T,a,b,c,d⟩=>⟨T,a,b,gF c,d⟩
def ahr(A B:Option Addr)(c d:Nat)(L M:List Nat)(w:World)(s7:Sl w A c L)(wO:Sl w B d M)(h1:L.length<=3000)(_h2:M.length<=3000)(hle:val M<=val L):
 Calls prog 239 #[.slice A L.length c,.slice B M.length d] w (PF w (val L-val M) L.length):=by
 have Mb:=amW (λw (h:Sl w A c L)=>uT A c L w h);have Mc:=amW (λw (h:Sl w B d M)=>uT B d M w h);have hs:=s7.ud;have hr:=wO.ud;have FA:=pJ L;have px:=pJ M;have Fj:=pj L;have nj:=pj M;have Dj:(iz M).length<=(iz L).length:=by
  apply bM;intro h;have:=Kt hs.ok (zz M) aC;omega
 unfold mr at Fj nj;rw[<-FA,<-px]at hle ⊢;clear FA px;obtain⟨n1,rK⟩:∃ n,n=L.length:=⟨_,rfl⟩
 obtain⟨n2,mc⟩:∃ n,n=M.length:=⟨_,rfl⟩
 rw[<-rK]at h1 Fj Mb ⊢;rw[<-mc]at _h2 nj Mc ⊢;have HTL:=amW (Mb.out w s7);have HTM:=amW (Mc.out w wO);clear Mb Mc s7 wO rK mc;generalize iz L=L at *
 generalize iz M=M at *
 obtain⟨l,hl⟩:∃ l,l=L.length:=⟨_,rfl⟩
 obtain⟨m,hm⟩:∃ m,m=M.length:=⟨_,rfl⟩
 rw[<-hl]at Fj HTL Dj;rw[<-hm]at nj HTM Dj;have HL:=amW hl;have HM:=amW hm;have HLE:=amW hle;clear hl hm hle;have vH:=FT l aC;have xB:=amW (Rw.AE w l);go_enter func239,ntmps239;go_wp2_with fail;refine HTL.out.mono ?_;rintro e w1 ⟨rfl,rfl⟩;go_wp2_with fail;refine HTM.out.mono ?_;rintro e w1 ⟨rfl,rfl⟩;go_wp2;go_loopw [6,7,8,9,19] (λcy _ _ _ i wr=>∃ (k q:Nat) (O:List Nat),k<=l/\i = .int .i64 k/\cy = .int .u32 q/\q<=1/\O.length=l/\iD O/\uf O k/\val O+val (M.take k)=val (L.take k)+4294967296^k*q/\Rw wr w.heap.size O/\iB w wr) (λ_ _ _ _ i _=>l-(intOf i).toNat)
 case atStart=>
  exact⟨0,0,List.replicate l 0,bV _,rfl,rfl,aE,aH,iD.DY _,uf.Pt _,by simp[CE],xB.out,iB.alloc _ _⟩
 case round=>
  obtain⟨k,q,O,hk,rfl,rfl,hq,hO,me,hz,kF,hR,hb⟩:=hrel;have HV:=amW kF;have HO:=amW hO;clear kF hO;have HZ:=amW hz;clear hz;by_cases im:k<l
  .have tK:k<L.length:=by have:=HL.out;omega
   obtain⟨ab,ao,e1,_,c1⟩:=(hs.below hb).mu tK;have ng:L[k]<4294967296:=hs.ok.get tK;have ho:=HZ.out.at (by have:=HO.out;omega)
   have c4:=hR.frozen k;have IM:=hR.cell ho;have HT:=amW (CG L k tK);have HY:=amW (Ba M k);have qU:M.getD k 0<4294967296:=hr.ok.getD k;have HYc:=amW (λ(h:k<M.length)=>(hr.below hb).mu h);have HYg:=amW (λ(h:k<M.length)=>LV h);have HYn:=amW (λ(h:¬k<M.length)=>LU h);obtain⟨a,ha⟩:∃ a,a=L[k]:=⟨_,rfl⟩
   rw[<-ha]at c1 ng HT;clear ha tK;have HN:=amW (λv=>HZ.out.set v);have HOK:=amW (λ(v:Nat) (h:v<4294967296)=>me.set k h);have HR2:=amW (λv:Nat=>hR.set k v);have HE2:=amW (λv:Value=>hb.setCell (p:=⟨w.heap.size,k,none⟩) (bc _) v);have HO0:=amW ho;clear ho hR hb me;subst e1;by_cases Ut:k<m
   .have wG:k<M.length:=by have:=HM.out;omega
    obtain⟨bb,bo,e2,_,c2⟩:=HYc.out wG;subst e2;rw[<-HYg.out wG]at c2;generalize M.getD k 0=b at *
    clear HYc HYg HYn wG;have HS:=amW (Yg HO0.out HV.out HT.out HY.out (EJ a b q ng qU hq).1);have HD:=amW (EJ a b q ng qU hq).2;have HA:=amW (λw=>Yf a b q w ng qU hq);generalize xp a b q=dd at *
    generalize Bj a b q=bb' at *
    go_wp2_with fail;refine(HA.out _).mono ?_;rintro e w1 ⟨rfl,rfl⟩;go_wp2;go_roundw
    case rel=>
     exact⟨k+1,bb',O.set k dd,aC,by go_num,rfl,HD.out.1,by rw[cY];exact HO.out,HOK.out _ HD.out.2,HN.out _,HS.out,HR2.out _,HE2.out _⟩
    case measure=>simp[intOf];omega
   .rw [HYn.out (by have:=HM.out;omega)]at HY;clear HYc HYg HYn qU;have HS:=amW (Yg HO0.out HV.out HT.out HY.out (EJ a 0 q ng aE hq).1);have HD:=amW (EJ a 0 q ng aE hq).2;have HA:=amW (λw=>Yf a 0 q w ng aE hq);generalize xp a 0 q=dd at *
    generalize Bj a 0 q=bb' at *
    go_wp2_with fail;refine(HA.out _).mono ?_;rintro e w1 ⟨rfl,rfl⟩;go_wp2;go_roundw
    case rel=>
     exact⟨k+1,bb',O.set k dd,aC,by go_num,rfl,HD.out.1,by rw[cY];exact HO.out,HOK.out _ HD.out.2,HN.out _,HS.out,HR2.out _,HE2.out _⟩
    case measure=>simp[intOf];omega
  .obtain rfl:k=l:= aC ;have HF:=amW (show val O=val L-val M by
    have h:=HV.out;rw[show L.take k=L from cN (by rw[HL.out];exact bc _),show M.take k=M from cN (by rw[<-HM.out];exact Dj)]at h;exact(ake me HO.out h HLE.out).2)
   go_wp2;go_ret;have vL:=hR.sl me (by rw[HO.out];omega);exact⟨_,HF.out,me,by rw[HO.out];exact Fj,_,_,(by rw[HO.out];rfl),vL,hb⟩
def Yz{T:List Nat}{v:Nat}(h:iD T)(hv:val T=v):iz T=gR v:=by rw[sc h,hv]
def V4(A B:Option Addr)(c d:Nat)(L M:List Nat)(w:World)(hs:Sl w A c L)(hr:Sl w B d M)(h1:L.length<=256)(h2:M.length<=256)(hf:(gR (val L+val M)).length<=256):
 Calls prog 215 #[.slice A L.length c,.slice B M.length d] w (CL w (gR (val L+val M)) 0):=by
 have H1:=amW (λw (h:Sl w A c L) (k:Sl w B d M)=>aho A B c d L M w h k aC aC);generalize val L+val M=v at *
 go_enter func215,ntmps215;go_wp2_with fail;refine(Vp _ A B _ c _ d _ false (PI _ _ _ _ _ _ _) (PJ _ _ _ _ _ _ _) aN).mono ?_;rintro e w' ⟨rfl,rfl⟩;go_wp2_with fail;refine(H1.out _ (hs.alloc _) (hr.alloc _)).mono ?_;rintro e w' ⟨T,hv,hk,hl,A',c',rfl,oD,hb⟩;have ht:=amW (Yz hk hv);go_wp2_with fail;refine(F3 A' c' T _ oD (by rw[ht.out];exact hf)).mono ?_;rintro e w'' ⟨A'',c'',rfl,uH,nF⟩;rw[ht.out]at uH ⊢;go_wp2;go_ret2;exact⟨A'',c'',rfl,uH,(iB.alloc _ _).trans (hb.trans nF)⟩
def NP(A B:Option Addr)(c d:Nat)(L M:List Nat)(w:World)(hs:Sl w A c L)(hr:Sl w B d M)(h1:L.length<=256)(h2:M.length<=256)(hle:val M<=val L):
 Calls prog 216 #[.slice A L.length c,.slice B M.length d] w (CL w (gR (val L-val M)) 0):=by
 have H1:=amW (λw (h:Sl w A c L) (k:Sl w B d M)=>ahr A B c d L M w h k aC aC hle);have HC:=amW (λw (h:Sl w A c L) (k:Sl w B d M)=>F2 A B c d L M w h k aC aC);have hc:decide (kq (val L) (val M)<0)=false:=by
  apply a7;unfold kq;rw[aY aC];split<;>decide
 have hf:(gR (val L-val M)).length<=256:=bg (mw (eD _ _)) (agy hs.ok h1);generalize val L-val M=v at *
 generalize kq (val L) (val M)=q at *
 clear hle;go_enter func216,ntmps216;go_wp2_with fail;refine(Vp _ A B _ c _ d _ false (PI _ _ _ _ _ _ _) (PJ _ _ _ _ _ _ _) aN).mono ?_;rintro e w' ⟨rfl,rfl⟩;go_wp2_with fail;refine(HC.out _ (hs.alloc _) (hr.alloc _)).mono ?_;rintro e w1 ⟨rfl,iO⟩;go_wp2_with fail;refine(H1.out _ ((hs.alloc _).below iO) ((hr.alloc _).below iO)).mono ?_;rintro e w' ⟨T,hv,hk,hl,A',c',rfl,oD,hb⟩;have ht:=amW (Yz hk hv);go_wp2_with fail;refine(F3 A' c' T _ oD (by rw[ht.out];exact hf)).mono ?_;rintro e w'' ⟨A'',c'',rfl,uH,nF⟩;rw[ht.out]at uH ⊢;go_wp2;go_ret2;exact⟨A'',c'',rfl,uH,(iB.alloc _ _).trans (iO.trans (hb.trans nF))⟩
end Go.Proofs.YtkdddbdjilcofaaGreatDoor
namespace Go.Proofs.YtkdddbdjilcofaaGreatDoor.Fp
def jm(d:Dy):Dy:=if mv d then d else il
def kg(d:Dy):Int:=if mv d then 0 else 9
def zT{d:Dy}(h:mv d):jm d=d:=aZ h
def Ez{d:Dy}(h:mv d):kg d=0:=aZ h
def Hw{d:Dy}(h:¬mv d):jm d=il:=aY h
def Ey{d:Dy}(h:¬mv d):kg d=9:=aY h
def EA{d:Dy}(h:d.mV):(jm d).gX:=by
 by_cases hr:mv d
 .rw [zT hr];exact⟨h,hr⟩
 .rw [Hw hr];exact rf
def O9{a b:Dy}(ha:a.m≠0)(hb:b.m≠0):iI a b=iI b a:=by
 unfold iI;rw[aY ha,aY hb,aY hb,aY ha,Int.min_comm,Int.add_comm]
def Yj{a b:Dy}(ha:a.gX)(hb:b.gX)(a0:a.m≠0)(b0:b.m≠0){k:Int}(hk:min a.e b.e=k)(h1:4097<a.ig-k)(h2:1<a.ig-b.ig):¬mv (iI a b):=by
 have TO:k<=a.e:= aC ;have IW:k<=b.e:= aC ;have m1:=Hp a0 TO;have m2:=Hp b0 IW;have ta:a.ig=gZ a.m+a.e:=by unfold Dy.ig;rw[aY a0]
 have tb:b.ig=gZ b.m+b.e:=by unfold Dy.ig;rw[aY b0]
 have ba:gZ a.m<=4096:=by rcases ha.range with h|⟨h,_⟩;exact absurd h a0;exact h
 have jf:a.e≠k:= aC ;have IJ:b.e=k:= aC ;have oa:a.jH k%2=0:=by
  unfold Dy.jH;obtain⟨j,hj⟩:∃ j,(a.e-k).toNat=j+1:=⟨(a.e-k).toNat-1,aC⟩
  rw[hj,bC,<-bA,fC]
 have ob:b.jH k%2=1:=by
  unfold Dy.jH;rw[IJ,show(k-k).toNat=0 by omega,cw,bZ];rcases hb.canon with⟨h,_,_⟩|h
  .exact absurd h b0
  .exact h
 have pa:=xJ a0 k;obtain⟨p,hp⟩:∃ p,gZ (a.jH k)=p+2:=⟨gZ (a.jH k)-2,aC⟩
 have l1:=rS (aC:a.jH k≠0);have l2:=qw (b.jH k);rw[hp,(aC:p+2-1=p+1),bC]at l1;have l3:2^gZ (b.jH k)<=2^p:=bH aE aC;have hz:(a.num k+b.num k).natAbs%2=1/\2^p<=(a.num k+b.num k).natAbs:=by
  unfold Dy.num;generalize a.jH k=x at *
  generalize b.jH k=y at *
  generalize 2^p=P at *
  split<;>split<;>omega
 unfold iI;rw[aY a0,aY b0,hk];unfold jS;generalize (a.num k+b.num k).natAbs=z at *
 generalize decide (a.num k+b.num k<0)=s at *
 have hc:canon s z k=⟨s,z,k⟩:=Dy.mV.CZ (d:=⟨s,z,k⟩) (.inr hz.1);rw[hc];have hb:=vQ.2 hz.2;rintro(h|⟨h,_⟩)
 .simp only at h;omega
 .simp only at h;omega
def akj{a b:Dy}(ha:a.gX)(hb:b.gX)(a0:a.m≠0)(b0:b.m≠0){k:Int}(hk:min a.e b.e=k)(h1:4097<max a.ig b.ig-k)(h2:1<a.ig-b.ig\/1<b.ig-a.ig):¬mv (iI a b):=by
 rcases h2 with h2|h2
 .exact Yj ha hb a0 b0 hk aC h2
 .rw [O9 a0 b0];exact Yj (k:=k) hb ha b0 a0 (by rw[Int.min_comm];exact hk) aC h2
def akk{a b:Dy}(ha:a.gX)(hb:b.gX)(a0:a.m≠0)(b0:b.m≠0){k:Int}(hk:min a.e b.e=k)(h:¬(4097<max a.ig b.ig-k/\(1<a.ig-b.ig\/1<b.ig-a.ig))):
 gZ (a.m*2^(a.e-k).toNat)<=4097/\gZ (b.m*2^(b.e-k).toNat)<=4097:=by
 have ta:a.ig=gZ a.m+a.e:=by unfold Dy.ig;rw[aY a0]
 have tb:b.ig=gZ b.m+b.e:=by unfold Dy.ig;rw[aY b0]
 have ba:gZ a.m<=4096:=by rcases ha.range with h|⟨h,_⟩;exact absurd h a0;exact h
 have bb:gZ b.m<=4096:=by rcases hb.range with h|⟨h,_⟩;exact absurd h b0;exact h
 rw[rG a0,rG b0];omega
def aal{x y n:Nat}(hx:gZ x<=n)(hy:gZ y<=n):gZ (x+y)<=n+1:=by
 rw[lR]at *
 rw[bC];omega
def jI(m:Nat)(e:Int)(p:Nat):Nat:=(max (max ((gZ m:Int)-p) (-16384-e)) 0).toNat
def kR(m:Nat)(e:Int)(more:Bool)(p:Nat)(out:Bool):Nat:=
 m/2^jI m e p+if out=true/\(more=true\/m%2^jI m e p≠0)then 1 else 0
def lZ(m:Nat)(e:Int)(more:Bool)(p:Nat)(out:Bool):Bool:=
 decide (kR m e more p out≠0)&&decide (16384<(gZ (kR m e more p out):Int)+e+jI m e p)
def jU(neg:Bool)(m:Nat)(e:Int)(more:Bool)(p:Nat)(up:Bool):Dy:=
 if lZ m e more p (neg != up)=true then(if(neg != up)=true then il else canon neg (2^p-1) (16384-p))else canon neg (kR m e more p (neg != up)) (e+jI m e p)
def jJ(neg:Bool)(m:Nat)(e:Int)(more:Bool)(p:Nat)(up:Bool):Int:=
 if(lZ m e more p (neg != up)&&(neg != up))=true then 9 else 0
def acA{N d k:Nat}:(N/2^d%2^k≠0\/N%2^d≠0)↔N%2^(d+k)≠0:=by
 have e1:N%2^(d+k)=N%2^d+2^d*(N/2^d%2^k):=by rw[bh,Nat.mod_mul]
 have hp:0<2^d:=bn aE;rw[e1];constructor
 .rintro (h|h)
  .have:=fA hp (dL h);omega
  .omega
 .intro h;by_cases h1:N%2^d=0
  .left;intro h2;rw[h1,h2,cH]at h;exact h rfl
  .exact .inr h1
def acm{N:Nat}{E:Int}{more:Bool}{d p:Nat}(hb:p<gZ (N/2^d)):
 jI (N/2^d) (E+d) p+d=jI N E p /\
 ∀ out,kR (N/2^d) (E+d) (more||decide (N%2^d≠0)) p out=kR N E more p out:=by
 have hN:d<gZ N:=by
  apply bM;intro h;have h1:N<2^d:=lR.1 aC;rw[cO h1]at hb;simp[gZ]at hb
 have Mm:gZ (N/2^d)+d=gZ N:=by
  have h0:N/2^d≠0:=by intro h;rw[h]at hb;simp[gZ]at hb
  have h1:=rS h0;have h2:=qw (N/2^d);obtain⟨j,hj⟩:∃ j,gZ (N/2^d)=j+1:=⟨gZ (N/2^d)-1,aC⟩
  rw[hj]at h1 h2 ⊢;rw[ep,cT (bn aE),<-bh]at h1;rw[cv (bn aE),<-bh]at h2;have:=xZ (k:=j+d) h1 (by rw[(aC:j+d+1=j+1+d)];exact h2);omega
 have hk:jI (N/2^d) (E+d) p+d=jI N E p:=by
  unfold jI;omega
 refine⟨hk,λout=>?_⟩;unfold kR;rw[<-hk];generalize jI (N/2^d) (E+d) p=k;have Mo:=@acA N d k;rw[(aC:k+d=d+k),dm,<-bh];congr 1;have:((more||decide (N%2^d≠0))=true\/N/2^d%2^k≠0)↔(more=true\/N%2^(d+k)≠0):=by
  rw[<-Mo];simp only[dx,b9];constructor
  .rintro ((h|h)|h)
   .exact .inl h
   .exact .inr (.inr h)
   .exact .inr (.inl h)
  .rintro (h|h|h)
   .exact .inl (.inl h)
   .exact .inr h
   .exact .inl (.inr h)
 by_cases ho:out=true
 .simp only[ho,true_and,this]
 .rw [aY (λh=>ho h.1),aY (λh=>ho h.1)]
def HW{N:Nat}{E:Int}{more:Bool}{d p:Nat}(neg up:Bool)(hb:p<gZ (N/2^d)):
 jU neg (N/2^d) (E+d) (more||decide (N%2^d≠0)) p up=jU neg N E more p up /\
 jJ neg (N/2^d) (E+d) (more||decide (N%2^d≠0)) p up=jJ neg N E more p up:=by
 obtain⟨hk,hq⟩:=acm (more:=more) (E:=E) hb;have hq:=hq (neg != up);have e1:E+(d:Int)+(jI (N/2^d) (E+d) p:Int)=E+(jI N E p:Int):= aC ;have e2:(gZ (kR N E more p (neg != up)):Int)+(E+(d:Int))+(jI (N/2^d) (E+d) p:Int)=(gZ (kR N E more p (neg != up)):Int)+E+(jI N E p:Int):= aC ;have ho:lZ (N/2^d) (E+d) (more||decide (N%2^d≠0)) p (neg != up)=lZ N E more p (neg != up):=by
  unfold lZ;rw[hq,e2]
 unfold jU jJ;rw[hq,ho,e1];exact⟨rfl,rfl⟩
def Lb(s:Bool)(m:Nat)(e:Int)(j:Nat):canon s (m*2^j) (e-j)=canon s m e:=by
 by_cases h0:m=0
 .subst h0;rw[cC];rfl
 .have h1:m*2^j≠0:=df h0 (dU (bn aE));obtain⟨q,hq,he⟩:=Bq h0;have hc:jj (m*2^j)=jj m+j:=by
   conv=>lhs;rw[he,bA,<-bh]
   exact yh hq _
  unfold canon;rw[aY h1,aY h0,hc,bh,bD (2^jj m),<-dm,dD _ (bn aE)];rw[(aC:e-(j:Int)+((jj m+j:Nat):Int)=e+(jj m:Int))]
def ack(neg up:Bool)(N:Nat)(E:Int)(j p:Nat)(h0:N≠0):
 jU neg (N*2^j) (E-j) false p up=jU neg N E false p up/\jJ neg (N*2^j) (E-j) false p up=jJ neg N E false p up:=by
 have Mm:=rG h0 j;by_cases hk:jI N E p=0
 .
  have vE:jI (N*2^j) (E-j) p<=j:=by unfold jI at hk ⊢;rw[Mm];omega
  obtain⟨i,hi⟩:∃ i,j=i+jI (N*2^j) (E-j) p:=⟨j-jI (N*2^j) (E-j) p,aC⟩
  generalize hK:jI (N*2^j) (E-j) p=k at *
  have hdiv:N*2^j/2^k=N*2^i:=by
   rw[hi,bh,<-bA,dD _ (bn aE)]
  have MH:N*2^j%2^k=0:=by
   rw[hi,bh,<-bA];exact fC _ _
  have hq:∀ out,kR (N*2^j) (E-j) false p out=N*2^i:=λout=>by
   unfold kR;rw[hK,hdiv,MH];simp
  have wM:∀ out,kR N E false p out=N:=λout=>by
   unfold kR;rw[hk];simp[dE]
  have jf:N*2^i≠0:=df h0 (dU (bn aE));have ho:∀ out,lZ (N*2^j) (E-j) false p out=lZ N E false p out:=λout=>by
   unfold lZ;rw[hq,wM,hK,hk,rG h0 i];simp only[cS,jf,h0,ef,fg,e9];rw[amw];omega
  unfold jU jJ;rw[ho,hq,wM,hK,hk];rw[(aC:E-(j:Int)+k=E+((0:Nat):Int)-(i:Int)),Lb];exact⟨rfl,rfl⟩
 .have vE:jI (N*2^j) (E-j) p=jI N E p+j:=by unfold jI at hk ⊢;rw[Mm];omega
  have hq:∀ out,kR (N*2^j) (E-j) false p out=kR N E false p out:=λout=>by
   unfold kR;rw[vE,bh,bD (2^jI N E p),<-dm,dD _ (bn aE),bD N,Nat.mul_mod_mul_left];have:(2^j*(N%2^jI N E p)≠0)↔(N%2^jI N E p≠0):=by
    rw[cS,cS,Nat.mul_eq_zero];have:=bn (n:=j) (aE:0<2);omega
   simp only[this]
  have ho:∀ out,lZ (N*2^j) (E-j) false p out=lZ N E false p out:=λout=>by
   unfold lZ;rw[hq,vE];congr 2;rw[eq_iff_iff];omega
  unfold jU jJ;rw[ho,hq,vE];rw[(aC:E-(j:Int)+((jI N E p+j:Nat):Int)=E+(jI N E p:Int))];exact⟨rfl,rfl⟩
def jV(d:Dy)(p:Nat)(up:Bool):Dy:=jU d.neg d.m d.e false p up
def jL(d:Dy)(p:Nat)(up:Bool):Int:=jJ d.neg d.m d.e false p up
def W7(s up:Bool)(m:Nat)(e:Int)(p:Nat)(h0:m≠0):
 jV (canon s m e) p up=jU s m e false p up/\jL (canon s m e) p up=jJ s m e false p up:=by
 have hm:=EM h0;have hq:m/2^jj m≠0:=by have:=F7 h0;omega
 have h:=ack s up (m/2^jj m) (e+jj m) (jj m) p hq;rw[hm,(aC:e+(jj m:Int)-(jj m:Int)=e)]at h;unfold jV jL canon;rw[aY h0];exact⟨h.1.symm,h.2.symm⟩
def CY{s:Bool}{m:Nat}{e:Int}(h0:m≠0):(gZ (canon s m e).m:Int)+(canon s m e).e=gZ m+e/\e<=(canon s m e).e/\(canon s m e).m≠0/\gZ (canon s m e).m<=gZ m:=by
 have hm:=EM h0;have hq:m/2^jj m≠0:=by have:=F7 h0;omega
 have h:=rG hq (jj m);rw[hm]at h;unfold canon;rw[aY h0];simp only;exact⟨aC,aC,hq,aC⟩
def RB(m:Nat)(e:Int)(p:Nat):m/2^jI m e p<2^p:=by
 rw[cv (bn aE),<-bh];refine lR.1 ?_;unfold jI;omega
def abE{s:Bool}{q p:Nat}{e:Int}(h:q<=2^p)(hp:1<=p):gZ (canon s q e).m<=p:=by
 by_cases h0:q=0
 .subst h0;exact bV _
 .by_cases h1:q=2^p
  .have hc:jj q=p:=by rw[h1];have:=yh (m:=1) rfl p;rwa[bU]at this
   unfold canon;rw[aY h0,hc,h1,Nat.div_self (bn aE)];exact bg (lR.2 (show 1<2^1 by decide)) hp
  .exact bg (CY h0).2.2.2 (lR.2 aC)
def Rp(m:Nat)(e:Int)(more:Bool)(p:Nat)(out:Bool):kR m e more p out<=2^p:=by
 have:=RB m e p;unfold kR;split<;>omega
def sV(neg:Bool)(m:Nat)(e:Int)(more:Bool)(p:Nat)(up:Bool)(hp:1<=p)(gW:p<=4096):(jU neg m e more p up).gX:=by
 unfold jU;by_cases ho:lZ m e more p (neg != up)=true
 .rw [aZ ho];by_cases hn:(neg != up)=true
  .rw [aZ hn];exact rf
  .rw [aY hn];have wL:2<=2^p:=by
    have:=bH (n:=2) aE hp;omega
   have h0:2^p-1≠0:= aC ;have hb:gZ (2^p-1)=p:=by
    obtain⟨j,rfl⟩:∃ j,p=j+1:=⟨p-1,aC⟩
    have h2:2^(j+1)=2^j*2:=bC _ _;have h3:=bn (n:=j) (aE:0<2);exact xZ aC aC 
   obtain⟨h1,h2,h3,h4⟩:=CY (s:=neg) (e:=(16384:Int)-p) h0;have h5:=nM h3;exact⟨ri _ _ _,.inr ⟨aC,aC,aC,aC⟩⟩
 .rw [aY ho];refine⟨ri _ _ _,?_⟩;by_cases h0:kR m e more p (neg != up)=0
  .rw [h0];exact .inl rfl
  .have hq:=abE (s:=neg) (e:=e+(jI m e p:Int)) (Rp m e more p (neg != up)) hp;obtain⟨h1,h2,h3,h4⟩:=CY (s:=neg) (e:=e+(jI m e p:Int)) h0;have h5:=nM h3;have h6:-16384<=e+(jI m e p:Int):=by unfold jI;omega
   unfold lZ at ho;simp only[cS,h0,ef,fg,e9,b9]at ho;exact .inr ⟨aC,aC,aC,aC⟩
def EG{neg:Bool}{m:Nat}{e:Int}{more:Bool}{p:Nat}{up:Bool}:jJ neg m e more p up=0↔¬(lZ m e more p (neg != up)=true/\(neg != up)=true):=by
 unfold jJ;cases lZ m e more p (neg != up)<;>cases(neg != up)<;>simp
def Rq(neg:Bool)(m:Nat)(e:Int)(more:Bool)(p:Nat)(h1:jJ neg m e more p false=0)(h2:jJ neg m e more p true=0):
 iN (jU neg m e more p false) (jU neg m e more p true)<=0:=by
 have pr:¬lZ m e more p true=true:=by
  cases neg
  .rw [EG]at h2;simpa using h2
  .rw [EG]at h1;simpa using h1
 have hle:kR m e more p false<=kR m e more p true:=by
  unfold kR;simp only[bB,false_and,bj];omega
 have kY:¬lZ m e more p false=true:=by
  unfold lZ at pr ⊢;intro h;apply pr;simp only[bE,b9]at h ⊢;have:=wm hle;exact⟨aC,aC⟩
 have key:∀ o:Bool,¬lZ m e more p o=true:=λo=>by cases o;exact kY;exact pr
 unfold jU;rw[aY (key _),aY (key _)];rw[EC (k:=e+(jI m e p:Int)) (zJ (ch _)) (zJ (ch _)),Cp (ch _),Cp (ch _)];rw[show(e+(jI m e p:Int)-(e+(jI m e p:Int))).toNat=0 by omega];simp only[cw,bZ];unfold xn;cases neg
 .simp only[bB,bj,Bool.false_bne];split
  .decide
  .split<;>omega
 .simp only[bw,Bool.true_bne,dW,eR];split
  .decide
  .split<;>omega
def mE(b:Dy)(low:Int):Nat:=if low<=b.e then b.m*2^(b.e-low).toNat else b.m/2^(low-b.e).toNat
def np(b:Dy)(low:Int):Bool:=decide (¬low<=b.e)&&decide (b.m%2^(low-b.e).toNat≠0)
def Yh{a b:Dy}(ha:a.mV)(hb:b.mV){K:Int}(h1:K<=a.e)(h2:K<=b.e):iI a b=jS (a.num K+b.num K) K:=by
 refine RR (k:=K) (Bm ha hb) (ri _ _ _) (G5 (.inr h1) (.inr h2)) (KP (ch _)) ?_;rw[Kh (.inr h1) (.inr h2),NW (ch _),show(K-K).toNat=0 by omega];simp
def J3{a b:Dy}(ha:a.mV)(hb:b.mV){K:Int}(h1:K<=a.e)(h2:K<=b.e)(s:Bool)(Z:Nat)(h0:Z≠0)(hz:a.num K+b.num K=if s then -(Z:Int)else(Z:Int))(p:Nat)(up:Bool):
 jV (iI a b) p up=jU s Z K false p up/\jL (iI a b) p up=jJ s Z K false p up:=by
 have:iI a b=canon s Z K:=by rw[Yh ha hb h1 h2,hz,Hs]
 rw[this];exact W7 s up Z K p h0
def JG(d:Dy)(K:Int):d.num K=if d.neg then -(d.jH K:Int)else(d.jH K:Int):=rfl
section
variable {a b:Dy} {low:Int} {p:Nat}
def OQ(a0:a.m≠0)(b0:b.m≠0)(h1:low<=a.e)(h2:low<=a.ig-p-8)(h3:low<=b.e\/3<=a.ig-b.ig):
 ∃ (K:Int) (d:Nat),K<=a.e/\K<=b.e/\low=K+d/\a.jH K=a.m*2^(a.e-low).toNat*2^d/\mE b low=b.jH K/2^d/\(np b low=decide (b.jH K%2^d≠0)) /\
  (d=0\/(p+8<=gZ (a.m*2^(a.e-low).toNat)/\gZ (b.jH K/2^d)+3<=gZ (a.m*2^(a.e-low).toNat))):=by
 have ta:a.ig=gZ a.m+a.e:=by unfold Dy.ig;rw[aY a0]
 have tb:b.ig=gZ b.m+b.e:=by unfold Dy.ig;rw[aY b0]
 have hx:=rG a0 (a.e-low).toNat
 by_cases h:low<=b.e
 .refine ⟨low,0,h1,h,aC,by unfold Dy.jH;simp,?_,?_,.inl rfl⟩
  .unfold mE Dy.jH;rw[aZ h];simp
  .unfold np;simp[h,dE]
 .refine ⟨b.e,(low-b.e).toNat,aC,ch _,aC,?_,?_,?_,.inr ⟨aC,?_⟩⟩
  .unfold Dy.jH;rw[bA,<-bh];congr 2;omega
  .unfold mE Dy.jH;rw[aY h];simp
  .unfold np Dy.jH;simp[h]
  .have hm:b.jH b.e=b.m:=by unfold Dy.jH;simp
   rw[hm];have hd:gZ (b.m/2^(low-b.e).toNat)<=gZ b.m-(low-b.e).toNat:=by
    rw[lR,cv (bn aE),<-bh];exact lR.1 aC 
   have:=h3.resolve_left h;omega
def ajl(ha:a.mV)(hb:b.mV)(a0:a.m≠0)(b0:b.m≠0)(h1:low<=a.e)(h2:low<=a.ig-p-8)(h3:low<=b.e\/3<=a.ig-b.ig)(hs:a.neg=b.neg)(up:Bool):
 jU a.neg (a.m*2^(a.e-low).toNat+mE b low) low (np b low) p up=jV (iI a b) p up/\jJ a.neg (a.m*2^(a.e-low).toNat+mE b low) low (np b low) p up=jL (iI a b) p up:=by
 obtain⟨K,d,k1,k2,rfl,hx,hy,hl,hd⟩:=OQ (p:=p) a0 b0 h1 h2 h3;generalize a.m*2^(a.e-(K+d)).toNat=x at *
 have ma:=xJ a0 K;have mb:=xJ b0 K;obtain⟨r1,r2⟩:=J3 ha hb k1 k2 a.neg (a.jH K+b.jH K) aC (by
  rw[JG a,JG b,<-hs];cases a.neg<;>simp<;>omega) p up
 rw[r1,r2,hy,hl];have e1:(a.jH K+b.jH K)/2^d=x+b.jH K/2^d:=by
  rw[hx,bD x,amk (bn aE)]
 have e2:(a.jH K+b.jH K)%2^d=b.jH K%2^d:=by
  rw[hx,bD x,fH]
 rcases hd with rfl|⟨Ak,Al⟩
 .simp only[cw,eI,dE]at e1 ⊢;rw[<-e1];have:K+((0:Nat):Int)=K:= aC ;rw[this];simp
 .have hb:p<gZ ((a.jH K+b.jH K)/2^d):=by
   rw[e1];have:=wm (aC:x<=x+b.jH K/2^d);omega
  have h:=HW (E:=K) (more:=false) a.neg up hb;rw[e1,e2,amz]at h;exact h
def akd{x N D:Nat}(hD:0<D)(h:N<=x*D):(x*D-N)/D=x-(N/D+if N%D≠0 then 1 else 0)/\((x*D-N)%D≠0↔N%D≠0)/\N/D+(if N%D≠0 then 1 else 0)<=x:=by
 have hN:=cB N D;have hr:=bF N hD;generalize N/D=q at *
 generalize N%D=r at *
 by_cases h0:r=0
 .subst h0;simp only[cS,amm,bj,bR]at hN ⊢;have hq:q<=x:=by
   apply bM;intro h';have:=bK D (aC:x+1<=q);rw[bS,bD q]at this;omega
  have e:x*D-N=(x-q)*D:=by rw[Nat.sub_mul,<-hN,bD q]
  rw[e,dD _ hD,fC];exact⟨rfl,aH,hq⟩
 .have hq:q+1<=x:=by
   apply bM;intro h';have:=bK D (aC:x<=q);rw[bD q]at this;omega
  have e:x*D-N=(D-r)+D*(x-(q+1)):=by
   have h1:D*(x-(q+1))=D*x-D*(q+1):=Nat.mul_sub _ _ _;have h2:D*(q+1)<=D*x:=cD _ hq;rw[bO,bZ]at h1 h2;rw[bD x];omega
  have im:D-r<D:= aC ;rw[e,eN _ _ hD,cO im,dP,bX im];simp only[cS,h0,ef,bw];exact⟨aC,⟨λ_=>trivial,λ_=> aC⟩,hq⟩
def ajk(ha:a.mV)(hb:b.mV)(a0:a.m≠0)(b0:b.m≠0)(h1:low<=a.e)(h2:low<=a.ig-p-8)(h3:low<=b.e\/3<=a.ig-b.ig)(hs:a.neg≠b.neg)(up:Bool):
  (a.m*2^(a.e-low).toNat<mE b low+(if np b low=true then 1 else 0) ->
   jU (!a.neg) (mE b low+(if np b low=true then 1 else 0)-a.m*2^(a.e-low).toNat) low false p up=jV (iI a b) p up/\jJ (!a.neg) (mE b low+(if np b low=true then 1 else 0)-a.m*2^(a.e-low).toNat) low false p up=jL (iI a b) p up) /\
  (mE b low+(if np b low=true then 1 else 0)<=a.m*2^(a.e-low).toNat ->
   (a.m*2^(a.e-low).toNat-(mE b low+(if np b low=true then 1 else 0))=0/\np b low=false->iI a b=il) /\
   (¬(a.m*2^(a.e-low).toNat-(mE b low+(if np b low=true then 1 else 0))=0/\np b low=false) ->
    jU a.neg (a.m*2^(a.e-low).toNat-(mE b low+(if np b low=true then 1 else 0))) low (np b low) p up=jV (iI a b) p up/\jJ a.neg (a.m*2^(a.e-low).toNat-(mE b low+(if np b low=true then 1 else 0))) low (np b low) p up=jL (iI a b) p up)):=by
 obtain⟨K,d,k1,k2,rfl,hx,hy,hl,hd⟩:=OQ (p:=p) a0 b0 h1 h2 h3;generalize a.m*2^(a.e-(K+d)).toNat=x at *
 have ma:=xJ a0 K;have mb:=xJ b0 K;have I7:a.num K+b.num K=if a.neg then(b.jH K:Int)-a.jH K else(a.jH K:Int)-b.jH K:=by
  rw[JG a,JG b];cases h:a.neg<;>cases h':b.neg<;>simp[h,h']at hs ⊢ <;> omega
 rw[hy,hl];rcases hd with rfl|⟨Ak,Al⟩
 .
  rw[cw,bZ]at hx;have e0:K+((0:Nat):Int)=K:= aC ;simp only[cw,eI,dE,cS,amm,gE,bB,bj,bR,e0,eX];refine⟨λim=>?_,λhle=>⟨λhz=>?_,λhz=>?_⟩⟩
  .obtain ⟨r1,r2⟩:=J3 ha hb k1 k2 (!a.neg) (b.jH K-x) aC (by
    rw[I7,hx];cases a.neg<;>simp<;>omega) p up
   exact⟨r1.symm,r2.symm⟩
  .rw [Yh ha hb k1 k2,I7,hx];have:x=b.jH K:= aC ;rw[this];cases a.neg<;>simp[jS,canon,il]
  .obtain ⟨r1,r2⟩:=J3 ha hb k1 k2 a.neg (x-b.jH K) aC (by
    rw[I7,hx];cases a.neg<;>simp<;>omega) p up
   exact⟨r1.symm,r2.symm⟩
 .
  have hD:=bn (n:=d) (aE:0<2);have nN:x≠0:=by intro h;rw[h]at Ak;simp[gZ]at Ak
  obtain⟨j,hj⟩:∃ j,gZ x=j+3:=⟨gZ x-3,aC⟩
  have mN:=rS nN;rw[hj,(aC:j+3-1=j+2),bh]at mN;have Dx:b.jH K/2^d<2^j:=lR.1 aC;have hle:b.jH K<=x*2^d:=by
   have h5:=cB (b.jH K) (2^d);have h6:=bF (b.jH K) hD;have h7:2^d*(b.jH K/2^d+1)<=2^d*x:=cD _ aC;rw[bO,bZ,bD _ x]at h7;omega
  obtain⟨e1,e2,e3⟩:=akd hD hle;have hc:(if decide (b.jH K%2^d≠0)=true then 1 else 0)=(if b.jH K%2^d≠0 then 1 else 0):=by simp only[b9]
  rw[hc];have Ah:p<gZ (x-(b.jH K/2^d+if b.jH K%2^d≠0 then 1 else 0)):=by
   have h8:2^(j+1)<=x-(b.jH K/2^d+if b.jH K%2^d≠0 then 1 else 0):=by
    rw[bC];have h9:2^j*2^2<=x:=mN;have pM:=bn (n:=j) (aE:0<2);split<;>omega
   have:=vQ.2 h8;omega
  refine⟨λim=> aC,λ_=>⟨λhz=>?_,λ_=>?_⟩⟩
  .exfalso;rw[hz.1]at Ah;simp[gZ]at Ah
  .obtain ⟨r1,r2⟩:=J3 ha hb k1 k2 a.neg (a.jH K-b.jH K) (by
    intro h;rw[<-hx,h,Nat.zero_div]at e1;rw[<-e1]at Ah;simp[gZ]at Ah) (by
    rw[I7];cases a.neg<;>simp<;>omega) p up
   rw[r1,r2,hx];rw[<-e1]at Ah ⊢;have h:=HW (E:=K) (more:=false) a.neg up Ah;rw[amz]at h;have e4:decide ((x*2^d-b.jH K)%2^d≠0)=decide (b.jH K%2^d≠0):=amw.2 e2;rw[e4]at h;exact h
end
def iV(m:Nat)(e:Int)(p:Nat):Int:=max (e+gZ m-p) (-16384)
def nC(m:Nat)(e:Int)(more:Bool)(p:Nat)(up:Bool):Nat:=
 if iV m e p<=e then m*2^(e-iV m e p).toNat else m/2^(iV m e p-e).toNat+if(up&&(more||decide (m%2^(iV m e p-e).toNat≠0)))=true then 1 else 0
def Ro{m:Nat}{e:Int}{more:Bool}{p:Nat}(up:Bool)(h0:m≠0)(hm:more=true->p<gZ m)(hp:1<=p):
 (gZ (nC m e more p up):Int)+iV m e p<=16384/\jU false m e more p up=canon false (nC m e more p up) (iV m e p)/\jJ false m e more p up=0 \/
 16384<(gZ (nC m e more p up):Int)+iV m e p/\((up=true/\jU false m e more p up=il/\jJ false m e more p up=9)\/(up=false/\jU false m e more p up=canon false (2^p-1) (16384-p)/\jJ false m e more p up=0)):=by
 have pr:(false != up)=up:=by cases up<;>rfl
 by_cases hU:iV m e p<=e
 .
  have hmf:more=false:=by
   cases MI:more with
   |false=>rfl
   |true=>have:=hm MI;unfold iV at hU;omega
  subst hmf;have hK:jI m e p=0:=by unfold iV at hU;unfold jI;omega
  have hQ:kR m e false p up=m:=by unfold kR;rw[hK];simp[dE]
  have hP:nC m e false p up=m*2^(e-iV m e p).toNat:=by unfold nC;rw[aZ hU]
  have hb:gZ (nC m e false p up)=gZ m+(e-iV m e p).toNat:=by rw[hP];exact rG h0 _
  have hc:canon false (nC m e false p up) (iV m e p)=canon false m e:=by
   rw[hP];have:=Lb false m e (e-iV m e p).toNat
   rwa[(aC:e-((e-iV m e p).toNat:Int)=iV m e p)]at this
  have hO:lZ m e false p up=decide (16384<(gZ m:Int)+e):=by
   unfold lZ;rw[hQ,hK];simp[h0]
  by_cases tR:16384<(gZ m:Int)+e
  .refine .inr ⟨aC,?_⟩;unfold jU jJ;rw[pr,hO,a6 tR];cases up
   .exact .inr ⟨rfl,rfl,rfl⟩
   .exact .inl ⟨rfl,rfl,rfl⟩
  .refine .inl ⟨aC,?_,?_⟩
   .unfold jU;rw[pr,hO,a7 tR,aY aE,hQ,hK,hc];simp
   .unfold jJ;rw[pr,hO,a7 tR];simp
 .have hK:jI m e p=(iV m e p-e).toNat:=by unfold iV at hU ⊢;unfold jI;omega
  have hQ:kR m e more p up=nC m e more p up:=by
   unfold kR nC;rw[aY hU,hK];congr 1;cases up<;>cases more<;>simp
  have heK:e+(jI m e p:Int)=iV m e p:=by rw[hK];omega
  have jf:16384<(gZ (nC m e more p up):Int)+iV m e p->nC m e more p up≠0:=by
   intro h hz;have qb:m/2^(iV m e p-e).toNat=0:=by
    unfold nC at hz;rw[aY hU]at hz;exact(Nat.add_eq_zero_iff.1 hz).1
   have im:m<2^(iV m e p-e).toNat:=by
    rcases Nat.div_eq_zero_iff.1 qb with h|h
    .exact absurd h (dU (bn aE))
    .exact h
   have:=lR.2 im;rw[hz,rH]at h;have vJ:=nM h0;unfold iV at h hU this;omega
  have hO:lZ m e more p up=decide (16384<(gZ (nC m e more p up):Int)+iV m e p):=by
   unfold lZ;rw[hQ,show(gZ (nC m e more p up):Int)+e+(jI m e p:Int)=(gZ (nC m e more p up):Int)+iV m e p by omega];by_cases tR:16384<(gZ (nC m e more p up):Int)+iV m e p
   .simp [jf tR]
   .simp [tR]
  by_cases tR:16384<(gZ (nC m e more p up):Int)+iV m e p
  .refine .inr ⟨tR,?_⟩;unfold jU jJ;rw[pr,hO,a6 tR];cases up
   .exact .inr ⟨rfl,rfl,rfl⟩
   .exact .inl ⟨rfl,rfl,rfl⟩
  .refine .inl ⟨aC,?_,?_⟩
   .unfold jU;rw[pr,hO,a7 tR,aY aE,hQ,heK]
   .unfold jJ;rw[pr,hO,a7 tR];simp
def Rn{m:Nat}{e:Int}{more:Bool}{p:Nat}{up:Bool}(h0:m≠0):gZ (nC m e more p up)<=p+1:=by
 unfold nC;split
 .rename_i h;rw[rG h0];unfold iV at h ⊢;omega
 .rename_i h;have h1:m/2^(iV m e p-e).toNat<2^p:=by
   rw[cv (bn aE),<-bh];refine lR.1 ?_;unfold iV at h ⊢;omega
  refine lR.2 ?_;rw[bC];have:0<2^p:=bn aE;split<;>omega
def pd{m k:Nat}(h:gZ m<=32*k):(gR m).length<=k:=by
 refine uO ?_;rw[tn];exact lR.1 h
def Eu{m k:Nat}(h:(gR m).length<=k):gZ m<=32*k:=by
 have:=Jv h;rw[tn]at this;exact lR.2 this
def RE{m n:Nat}(h:gZ m<=n):m/2^n=0/\m%2^n=m:=by
 have:=lR.1 h;exact⟨cO this,bX this⟩
def Vt(m n:Nat):(kq (m/2^n*2^n) m != 0)=decide (m%2^n≠0):=by
 have h:=cB m (2^n);rw[bD]at h;unfold kq;by_cases h0:m%2^n=0
 .rw [aY aC,aY aC];simp[h0]
 .rw [aZ aC];simp[h0]
def Rs(neg:Bool)(m:Nat)(e:Int)(more:Bool)(p:Nat)(up:Bool):
 jJ neg m e more p up=jJ false m e more p (up != neg) /\
 (jJ false m e more p (up != neg)=0->neg=true->jl (jU false m e more p (up != neg))=jU neg m e more p up) /\
 ((jJ false m e more p (up != neg)≠0\/neg=false)->jU false m e more p (up != neg)=jU neg m e more p up):=by
 have pr:(false != (up != neg))=(neg != up):=by cases up<;>cases neg<;>rfl
 have hE:jJ neg m e more p up=jJ false m e more p (up != neg):=by unfold jJ;rw[pr]
 refine⟨hE,λh hn=>?_,λh=>?_⟩
 .have h':=EG.1 h;rw[pr]at h';have neg_canon:∀ q u,jl (canon false q u)=canon true q u:=by
   intro q u;unfold canon jl;by_cases hq:q=0
   .simp [hq]
   .rw [aY hq,aY hq];have:=F7 hq;have h0:q/2^jj q≠0:= aC ;simp[h0]
  subst hn;unfold jU;rw[pr];by_cases ho:lZ m e more p (true != up)=true
  .have hu:(true != up)=false:=by
    cases hq:(true != up)with
    |false=>rfl
    |true=>exact absurd ⟨ho,hq⟩ h'
   rw[aZ ho,aZ ho,hu];simp only[bB,bj];exact neg_canon _ _
  .rw [aY ho,aY ho];exact neg_canon _ _
 .rcases h with h|h
  .have h1:lZ m e more p (neg != up)=true/\(neg != up)=true:=by
    by_cases q:lZ m e more p (neg != up)=true/\(neg != up)=true
    .exact q
    .exact absurd (EG.2 (by rw[pr];exact q)) h
   unfold jU;rw[pr,aZ h1.1,aZ h1.2,aZ h1.1,aZ h1.2]
  .subst h;cases up<;>rfl
def iZ(a b:Dy)(p:Nat):Int:=if a.ig-b.ig<=2 then min (min a.e (a.ig-p-8)) b.e else min a.e (a.ig-p-8)
def nJ(a b:Dy)(p:Nat):Nat:=a.m*2^(a.e-iZ a b p).toNat
def mD(a b:Dy)(p:Nat):Nat:=mE b (iZ a b p)+if(a.neg != b.neg&&np b (iZ a b p))=true then 1 else 0
def pg(a b:Dy)(p:Nat):Bool:=(a.neg != b.neg)&&decide (nJ a b p<mD a b p)
def lM(a b:Dy)(p:Nat):Nat:=if a.neg=b.neg then nJ a b p+mD a b p else if nJ a b p<mD a b p then mD a b p-nJ a b p else nJ a b p-mD a b p
def na(a b:Dy)(p:Nat):Bool:=np b (iZ a b p) && !pg a b p
def OK(a b:Dy)(p:Nat):iZ a b p<=a.e/\iZ a b p<=a.ig-p-8/\(iZ a b p<=b.e\/3<=a.ig-b.ig):=by
 unfold iZ;split<;>omega
def GH{a:Dy}(a0:a.m≠0):a.ig=gZ a.m+a.e:=by unfold Dy.ig;rw[aY a0]
structure Zi(a b:Dy)(p:Nat):Prop where
 lo:-17000<=iZ a b p
 hi:iZ a b p<=16384
 x:gZ (nJ a b p)<=4100
 x0:nJ a b p≠0
 sh:(a.e-iZ a b p).toNat<=60000
 sh2:(b.e-iZ a b p).toNat<=60000
 sh3:(iZ a b p-b.e).toNat<=60000
 y:gZ (mE b (iZ a b p))<=4100
 l:np b (iZ a b p)=true->p+8<=gZ (nJ a b p)/\gZ (mE b (iZ a b p))+3<=gZ (nJ a b p)
def Kj{a b:Dy}{p:Nat}(ha:a.gX)(hb:b.gX)(a0:a.m≠0)(b0:b.m≠0)(ht:b.ig<=a.ig)(gW:p<=512):Zi a b p:=by
 have ra:=ha.range.resolve_left a0;have rb:=hb.range.resolve_left b0;have ta:=GH a0;have tb:=GH b0;obtain⟨h1,h2,h3⟩:=OK a b p;have hx:gZ (nJ a b p)=gZ a.m+(a.e-iZ a b p).toNat:=rG a0 _;have Dh:iZ a b p=a.e\/iZ a b p=a.ig-p-8\/(a.ig-b.ig<=2/\iZ a b p=b.e):=by unfold iZ;split<;>omega
 have hy:gZ (mE b (iZ a b p))<=gZ (nJ a b p):=by
  unfold mE;split
  .rw [rG b0];omega
  .have:gZ (b.m/2^(iZ a b p-b.e).toNat)<=gZ b.m-(iZ a b p-b.e).toNat:=by
    rw[lR,cv (bn aE),<-bh];exact lR.1 aC 
   omega
 have pa:=nM a0;have pb:=nM b0;refine⟨aC,aC,aC,?_,aC,aC,aC,aC,λhl=>?_⟩
 .intro h;unfold nJ at h;exact(df a0 (dU (bn aE))) h
 .obtain ⟨K,d,k1,k2,k3,k4,k5,k6,k7⟩:=OQ (p:=p) a0 b0 h1 h2 h3;rcases k7 with rfl|⟨k7,k8⟩
  .rw [k6]at hl;simp[dE]at hl
  .rw [k5];exact⟨k7,k8⟩
def Pa{a b:Dy}{p:Nat}(ha:a.gX)(hb:b.gX)(a0:a.m≠0)(b0:b.m≠0)(ht:b.ig<=a.ig)(gW:p<=512):
 gZ (mD a b p)<=4101/\gZ (lM a b p)<=4102/\(na a b p=true->p<gZ (lM a b p)):=by
 obtain⟨l1,l2,l3,l4,l5,l6,l7,l8,l9⟩:=Kj ha hb a0 b0 ht gW;have hy:mD a b p<=mE b (iZ a b p)+1:=by unfold mD;split<;>omega
 obtain⟨K,hK⟩:∃ K:Nat,K=4100:=⟨_,rfl⟩
 have g1:4101=K+1:= aC ;have g2:4102=K+2:= aC ;rw[g1,g2];rw[<-hK]at l3 l8;have hy4:mE b (iZ a b p)<2^K:=lR.1 l8;have hx4:nJ a b p<2^K:=lR.1 l3;have e1:(2:Nat)^(K+1)=2*2^K:=by rw[bC];omega
 have e2:(2:Nat)^(K+2)=4*2^K:=by rw[bh];omega
 generalize (2:Nat)^K=Z at *
 refine⟨lR.2 aC,lR.2 ?_,λhl=>?_⟩
 .unfold lM;split
  .omega
  .split<;>omega
 .unfold na at hl;simp only[bE,dI]at hl;obtain⟨q1,q2⟩:=l9 hl.1;have hX:2^(gZ (nJ a b p)-1)<=nJ a b p:=rS l4;rw[vQ];have hY:mE b (iZ a b p)<2^(gZ (nJ a b p)-3):=lR.1 aC;have e3:(2:Nat)^(gZ (nJ a b p)-1)=4*2^(gZ (nJ a b p)-3):=by
   rw[(aC:gZ (nJ a b p)-1=(gZ (nJ a b p)-3)+2),bh];omega
  have hp:(2:Nat)^p<=2^(gZ (nJ a b p)-3):=bH aE aC;unfold lM;split
  .omega
  .rename_i hs;unfold pg at hl;rw[aY (by
    have:=hl.2;simp[hs]at this;omega)]
   omega
def Yk{a b:Dy}{p:Nat}(ha:a.gX)(hb:b.gX)(a0:a.m≠0)(b0:b.m≠0)(up:Bool):
 (lM a b p=0/\na a b p=false->iI a b=il) /\
 (¬(lM a b p=0/\na a b p=false)->jU (a.neg != pg a b p) (lM a b p) (iZ a b p) (na a b p) p up=jV (iI a b) p up/\jJ (a.neg != pg a b p) (lM a b p) (iZ a b p) (na a b p) p up=jL (iI a b) p up):=by
 obtain⟨h1,h2,h3⟩:=OK a b p;by_cases hs:a.neg=b.neg
 .have hn:(a.neg != b.neg)=false:=by rw[hs];simp
  have e1:pg a b p=false:=by unfold pg;rw[hn];rfl
  have e2:na a b p=np b (iZ a b p):=by unfold na;rw[e1];simp
  have e3:lM a b p=a.m*2^(a.e-iZ a b p).toNat+mE b (iZ a b p):=by unfold lM;rw[aZ hs];unfold nJ mD;rw[hn];simp
  have hx:lM a b p≠0:=by
   rw[e3];have:=df a0 (dU (bn (n:=(a.e-iZ a b p).toNat) (show 0<2 by decide)));omega
  refine⟨λh=>absurd h.1 hx,λ_=>?_⟩;rw[e1,e2,e3];have:=ajl ha.canon hb.canon a0 b0 h1 h2 h3 hs up;cases hA:a.neg<;>rw[hA]at this<;>exact this
 .have hn:(a.neg != b.neg)=true:=by simpa using hs
  have eY:mD a b p=mE b (iZ a b p)+if np b (iZ a b p)=true then 1 else 0:=by unfold mD;rw[hn];simp
  obtain⟨r1,r2⟩:=ajk (p:=p) ha.canon hb.canon a0 b0 h1 h2 h3 hs up;rw[<-eY]at r1 r2;change nJ a b p<mD a b p->_ at r1;change mD a b p<=nJ a b p->_ at r2;by_cases hc:nJ a b p<mD a b p
  .have e1:pg a b p=true:=by unfold pg;rw[hn,a6 hc];rfl
   have e2:na a b p=false:=by unfold na;rw[e1];simp
   have e3:lM a b p=mD a b p-nJ a b p:=by unfold lM;rw[aY hs,aZ hc]
   rw[e1,e2,e3];refine⟨λh=> aC,λ_=>?_⟩;have:=r1 hc;cases hA:a.neg<;>rw[hA]at this<;>exact this
  .have e1:pg a b p=false:=by unfold pg;rw[hn,a7 hc];rfl
   have e2:na a b p=np b (iZ a b p):=by unfold na;rw[e1];simp
   have e3:lM a b p=nJ a b p-mD a b p:=by unfold lM;rw[aY hs,aY hc]
   rw[e1,e2,e3];obtain⟨q1,q2⟩:=r2 aC;refine⟨q1,λh=>?_⟩;have:=q2 h;cases hA:a.neg<;>rw[hA]at this<;>exact this
end Go.Proofs.YtkdddbdjilcofaaGreatDoor.Fp
namespace Go.Proofs.YtkdddbdjilcofaaGreatDoor
open Go.RowKit Fp
def Qz(a b:Nat):gZ (a*b)<=gZ a+gZ b:=by
 rw[lR,bh];exact Nat.mul_lt_mul'' (qw a) (qw b)
def Hv(d:Dy)(A:Option Addr)(c:Nat)(w:World)(hs:Sl w A c (gR d.m))(hl:(gR d.m).length<=100000000)(mh:-10000000<=d.e)(lf:d.e<=10000000):
 Calls prog 97 #[DV d A c] w (tC w (jm d) (kg d)):=by
 by_cases hd:mv d
 .rw [zT hd,Ez hd];exact Q6 d A c w hs hl mh lf hd
 .rw [Hw hd,Ey hd];exact ab0 d A c w hs hl mh lf hd
def K8(s:Bool)(m:Nat)(e:Int){n:Nat}(hm:(gR m).length<=n):(gR (canon s m e).m).length<=n/\e<=max (canon s m e).e e/\((canon s m e).e<=max 0 (e+32*n))/\min 0 e<=(canon s m e).e:=by
 unfold canon;by_cases h0:m=0
 .rw [aZ h0];simp only[nP];exact⟨bV _,aC,aC,aC⟩
 .rw [aY h0];have h1:jj m<32*n:=by
   have h1:=Gh h0;have h2:=Jv hm;rw[tn]at h2;exact(amF (aE:1<2)).1 (ck h1 h2)
  exact⟨bg (mw (bT _ _)) hm,aC,by simp only;omega,by simp only;omega⟩
def C0(s:Bool)(m:Nat)(e:Int)(A:Option Addr)(c:Nat)(w:World)(hs:Sl w A c (gR m))(hl:(gR m).length<=256)(mh:-1000000<=e)(lf:e<=1000000)(ki:Tb w):
 Calls prog 98 #[.bool s,.slice A (gR m).length c,.int .i64 e] w (xV w (canon s m e)):=by
 have:=Ib s A c (gR m) e w hs aC (by have:=pj (gR m);unfold mr at this;omega) mh lf ki;rw[jY]at this;exact this
def NT{m:Nat}(h:m=0):(((gR m).length:Int)==0)=true:=by rw[h,nP];rfl
def JS{m:Nat}(h:m≠0):(((gR m).length:Int)==0)=false:=by
 refine aT ?_;have:gR m≠[]:=λe=>h (Vi.1 e)
 have:=fO.2 this;omega
def acS(a b:Dy)(A B:Option Addr)(c d:Nat)(w:World)(_hs:Sl w A c (gR a.m))(hr:Sl w B d (gR b.m))(ki:Tb w)(hb:b.gX)(h0:a.m=0):
 Calls prog 172 #[DV a A c,DV b B d] w (tC w (jm (iI a b)) (kg (iI a b))):=by
 have yJ:iI a b=b:=by unfold iI;rw[aZ h0]
 rw[yJ,zT hb.range,Ez hb.range];have hl:=hb.len;obtain⟨mh,lf⟩:=hb.exp;have HC:=amW (λw (h:Sl w B d (gR b.m)) (ht:Tb w)=>C0 b.neg b.m b.e B d w h hl aC aC ht);rw[hb.canon.CZ]at HC;have n0:=NT h0;clear yJ h0;have hE:=((iB.alloc w (.cells #[.bool b.neg,.slice B ((gR b.m).length) d,.int .i64 b.e] 31)).trans (iB.alloc (w.alloc (.cells #[.bool b.neg,.slice B ((gR b.m).length) d,.int .i64 b.e] 31)) (.cells #[.bool b.neg,.slice B ((gR b.m).length) d,.int .i64 b.e] 31))).trans (iB.alloc ((w.alloc (.cells #[.bool b.neg,.slice B ((gR b.m).length) d,.int .i64 b.e] 31)).alloc (.cells #[.bool b.neg,.slice B ((gR b.m).length) d,.int .i64 b.e] 31)) (.cells #[.bool false,.slice none 0 0,.int .i64 0] 31));have b1:=((je.rz (W:=w) (g:=w.heap.size) aH b.neg B ((gR b.m).length) d b.e).alloc (.cells #[.bool b.neg,.slice B ((gR b.m).length) d,.int .i64 b.e] 31)).alloc (.cells #[.bool false,.slice none 0 0,.int .i64 0] 31);have b2:=(je.rz (W:=(w.alloc (.cells #[.bool b.neg,.slice B ((gR b.m).length) d,.int .i64 b.e] 31))) (g:=w.heap.size+1) aH b.neg B ((gR b.m).length) d b.e).alloc (.cells #[.bool false,.slice none 0 0,.int .i64 0] 31);have b3:=je.rz (W:=((w.alloc (.cells #[.bool b.neg,.slice B ((gR b.m).length) d,.int .i64 b.e] 31)).alloc (.cells #[.bool b.neg,.slice B ((gR b.m).length) d,.int .i64 b.e] 31))) (g:=w.heap.size+2) aH false none 0 0 0;replace hr:=hr.below hE;replace ki:=ki.below hE;go_enter func172,ntmps172;go_wp2_with fail
 (with_reducible refine(HC.out _ hr ki).mono ?_)
 rintro r w1 ⟨A_h4,c_h4,rfl,h4,hb⟩;replace hE:=hE.trans hb;replace hr:=hr.below hb;replace ki:=ki.below hb;replace b1:=b1.ext hb;replace b2:=b2.ext hb;replace b3:=b3.ext hb;clear hb;have GS:=b3.c0;have yb30:=b3.fr 0;have GU:=b3.c1;have yb31:=b3.fr 1;have GV:=b3.c2;have yb32:=b3.fr 2;go_wp2;exact vk (d:=b) rfl rfl rfl rfl (b3.set _ _ _ _ _) rfl (b3.re h4 _ _ _ _ _) (je.qF hE aC _ _ _ _ _)
def acT(a b:Dy)(A B:Option Addr)(c d:Nat)(w:World)(hs:Sl w A c (gR a.m))(ki:Tb w)(ha:a.gX)(h1:a.m≠0)(h0:b.m=0):
 Calls prog 172 #[DV a A c,DV b B d] w (tC w (jm (iI a b)) (kg (iI a b))):=by
 have yJ:iI a b=a:=by unfold iI;rw[aY h1,aZ h0]
 rw[yJ,zT ha.range,Ez ha.range];have hl:=ha.len;obtain⟨mh,lf⟩:=ha.exp;have HC:=amW (λw (h:Sl w A c (gR a.m)) (ht:Tb w)=>C0 a.neg a.m a.e A c w h hl aC aC ht);rw[ha.canon.CZ]at HC;have n0:=NT h0;have n1:=JS h1;clear yJ h0 h1;have hE:=((iB.alloc w (.cells #[.bool a.neg,.slice A ((gR a.m).length) c,.int .i64 a.e] 31)).trans (iB.alloc (w.alloc (.cells #[.bool a.neg,.slice A ((gR a.m).length) c,.int .i64 a.e] 31)) (.cells #[.bool b.neg,.slice B ((gR b.m).length) d,.int .i64 b.e] 31))).trans (iB.alloc ((w.alloc (.cells #[.bool a.neg,.slice A ((gR a.m).length) c,.int .i64 a.e] 31)).alloc (.cells #[.bool b.neg,.slice B ((gR b.m).length) d,.int .i64 b.e] 31)) (.cells #[.bool false,.slice none 0 0,.int .i64 0] 31));have b1:=((je.rz (W:=w) (g:=w.heap.size) aH a.neg A ((gR a.m).length) c a.e).alloc (.cells #[.bool b.neg,.slice B ((gR b.m).length) d,.int .i64 b.e] 31)).alloc (.cells #[.bool false,.slice none 0 0,.int .i64 0] 31);have b2:=(je.rz (W:=(w.alloc (.cells #[.bool a.neg,.slice A ((gR a.m).length) c,.int .i64 a.e] 31))) (g:=w.heap.size+1) aH b.neg B ((gR b.m).length) d b.e).alloc (.cells #[.bool false,.slice none 0 0,.int .i64 0] 31);have b3:=je.rz (W:=((w.alloc (.cells #[.bool a.neg,.slice A ((gR a.m).length) c,.int .i64 a.e] 31)).alloc (.cells #[.bool b.neg,.slice B ((gR b.m).length) d,.int .i64 b.e] 31))) (g:=w.heap.size+2) aH false none 0 0 0;replace hs:=hs.below hE;replace ki:=ki.below hE;go_enter func172,ntmps172;go_wp2_with fail
 (with_reducible refine(HC.out _ hs ki).mono ?_)
 rintro r w1 ⟨A_h4,c_h4,rfl,h4,hb⟩;replace hE:=hE.trans hb;replace hs:=hs.below hb;replace ki:=ki.below hb;replace b1:=b1.ext hb;replace b2:=b2.ext hb;replace b3:=b3.ext hb;clear hb;have GS:=b3.c0;have yb30:=b3.fr 0;have GU:=b3.c1;have yb31:=b3.fr 1;have GV:=b3.c2;have yb32:=b3.fr 2;go_wp2;exact vk (d:=a) rfl rfl rfl rfl (b3.set _ _ _ _ _) rfl (b3.re h4 _ _ _ _ _) (je.qF hE aC _ _ _ _ _)
def Ls(a:Dy)(A:Option Addr)(c:Nat)(w:World)(h:Sl w A c (gR a.m))(ha:a.gX):
 Calls prog 67 #[DV a A c] w λe w'=>e = .returned (.int .i64 a.ig)/\iB w w':=by
 have:=Lr a.neg A c (gR a.m) a.e w h ha.xq;rw[jY]at this;exact this
def PK(L:List Nat)(w:World)(v:Value):Prop:=∃ A c,v = .slice A L.length c/\Sl w A c L
def alO{fn:Func}{p t:Tmp}(h:fn.results = #[.cell p 31,.tmp t]){a:Act}{w W:World}{k:Int}{g:Nat}
 (hp:a.tmps.getD p undef = .pointer (some ⟨g,0,none⟩)) (ht:a.tmps.getD t undef = .int .i64 k) (hd:a.defers=[]) (hb:je W g false none 0 0 0) (he:iB w W):
 bodyPost prog fn (tC w il k) .ret a W:=
 vk (d:=il) h hp ht hd hb (by rw[show il.m=0 from rfl,nP];rfl) (by rw[show il.m=0 from rfl,nP];exact Sl.nil _) he
set_option maxRecDepth 100000 in
set_option maxHeartbeats 8000000 in
def acU(a b:Dy)(A B:Option Addr)(c d:Nat)(w:World)(hs:Sl w A c (gR a.m))(hr:Sl w B d (gR b.m))(ki:Tb w)(ha:a.gX)(hb:b.gX)(a0:a.m≠0)(b0:b.m≠0):
  Calls prog 172 #[DV a A c,DV b B d] w (tC w (jm (iI a b)) (kg (iI a b))):=by
 have n1:=JS a0;have n2:=JS b0;have la:=ha.len;have lb:=hb.len;obtain⟨ea1,ea2⟩:=ha.exp;obtain⟨eb1,eb2⟩:=hb.exp;obtain⟨k,hk⟩:∃ k,min a.e b.e=k:=⟨_,rfl⟩
 have TO:k<=a.e:= aC ;have IW:k<=b.e:= aC ;have nX:-16384<=k:= aC ;have vE:k<=16384:= aC ;have HTa:=amW (λw (h:Sl w A c (gR a.m))=>Ls a A c w h ha);have HTb:=amW (λw (h:Sl w B d (gR b.m))=>Ls b B d w h hb);have HBIG:=amW (λh1 h2=>akj ha hb a0 b0 hk h1 h2);have HFIT:=amW (λh=>akk ha hb a0 b0 hk h);have HS1:=amW (λ(h:a.neg=b.neg)=>show iI a b=canon a.neg (a.m*2^(a.e-k).toNat+b.m*2^(b.e-k).toNat) k from by
  have:=akh (s:=a.neg) a0 b0 hk;rw[<-this,show(⟨a.neg,b.m,b.e⟩:Dy)=b by rw[h]])
 have HS2:=amW (λ(h:a.neg≠b.neg) (qS:b.m*2^(b.e-k).toNat<=a.m*2^(a.e-k).toNat)=>akf a0 b0 hk h qS);have HS3:=amW (λ(h:a.neg≠b.neg) (qS:a.m*2^(a.e-k).toNat<b.m*2^(b.e-k).toNat)=>akg a0 b0 hk h qS);have BX:-16384<=a.ig/\a.ig<=16384:=by unfold Dy.ig;rw[aY a0];have:=ha.Yu a0;omega
 have htb:-16384<=b.ig/\b.ig<=16384:=by unfold Dy.ig;rw[aY b0];have:=hb.Yu b0;omega
 obtain⟨ama,amb⟩:=BX;obtain⟨amc,amd⟩:=htb;obtain⟨S,hS⟩:∃ S,iI a b=S:=⟨_,rfl⟩
 rw[hS]at HBIG HS1 ⊢;have HS2:=amW (λh h'=>hS▸HS2.out h h');have HS3:=amW (λh h'=>hS▸HS3.out h h');have HXa:=amW (λw (h:Sl w A c (gR a.m)) (hf:(gR (a.m*2^(a.e-k).toNat)).length<=256)=>Ka A c (gR a.m) (a.e-k) w h la aC aC (by rw[jY];exact hf));have HXb:=amW (λw (h:Sl w B d (gR b.m)) (hf:(gR (b.m*2^(b.e-k).toNat)).length<=256)=>Ka B d (gR b.m) (b.e-k) w h lb aC aC (by rw[jY];exact hf));rw[jY]at HXa HXb;generalize a.m*2^(a.e-k).toNat=x at *
 generalize b.m*2^(b.e-k).toNat=y at *
 generalize a.ig=ta at *
 generalize b.ig=tb at *
 obtain⟨mx,I4⟩:∃ mx,max ta tb=mx:=⟨_,rfl⟩
 have I3:-16384<=mx/\mx<=16384:= aC ;obtain⟨I3,vG⟩:=I3;rw[I4]at HBIG HFIT;have aeR:=ki;have s7:=hs;have wO:=hr;clear a0 b0 hS;have hE:=((iB.alloc w (.cells #[.bool a.neg,.slice A ((gR a.m).length) c,.int .i64 a.e] 31)).trans (iB.alloc (w.alloc (.cells #[.bool a.neg,.slice A ((gR a.m).length) c,.int .i64 a.e] 31)) (.cells #[.bool b.neg,.slice B ((gR b.m).length) d,.int .i64 b.e] 31))).trans (iB.alloc ((w.alloc (.cells #[.bool a.neg,.slice A ((gR a.m).length) c,.int .i64 a.e] 31)).alloc (.cells #[.bool b.neg,.slice B ((gR b.m).length) d,.int .i64 b.e] 31)) (.cells #[.bool false,.slice none 0 0,.int .i64 0] 31));have b1:=((je.rz (W:=w) (g:=w.heap.size) aH a.neg A ((gR a.m).length) c a.e).alloc (.cells #[.bool b.neg,.slice B ((gR b.m).length) d,.int .i64 b.e] 31)).alloc (.cells #[.bool false,.slice none 0 0,.int .i64 0] 31);have b2:=(je.rz (W:=(w.alloc (.cells #[.bool a.neg,.slice A ((gR a.m).length) c,.int .i64 a.e] 31))) (g:=w.heap.size+1) aH b.neg B ((gR b.m).length) d b.e).alloc (.cells #[.bool false,.slice none 0 0,.int .i64 0] 31);have b3:=je.rz (W:=((w.alloc (.cells #[.bool a.neg,.slice A ((gR a.m).length) c,.int .i64 a.e] 31)).alloc (.cells #[.bool b.neg,.slice B ((gR b.m).length) d,.int .i64 b.e] 31))) (g:=w.heap.size+2) aH false none 0 0 0;replace hs:=hs.below hE;replace hr:=hr.below hE;replace ki:=ki.below hE;go_enter func172,ntmps172;have nR:=b1.c0;have nS:=b1.c1;have nT:=b1.c2
 have sP:=b2.c0;have sQ:=b2.c1;have sR:=b2.c2;go_upto_region 6 with fail;clear nR nS nT sP sQ sR;obtain⟨W1,hW⟩:∃ W,(((w.alloc (.cells #[.bool a.neg,.slice A ((gR a.m).length) c,.int .i64 a.e] 31)).alloc (.cells #[.bool b.neg,.slice B ((gR b.m).length) d,.int .i64 b.e] 31)).alloc (.cells #[.bool false,.slice none 0 0,.int .i64 0] 31))=W:=⟨_,rfl⟩
 rw[hW]at hs hr ki b1 b2 b3 hE ⊢;clear hW;go_cut [7,8] (λs0 s1 wx=>s0=(.int .i64 ta)/\s1=(.int .i64 tb)/\iB W1 wx)
 case first=>
  have b1':=b1.drew;have b2':=b2.drew;have oD:=hs.drew;have r6:=hr.drew;go_region_held3 (λw'=>w'.cell? ⟨w.heap.size,0,none⟩=some (.bool a.neg)/\w'.cell? ⟨w.heap.size,1,none⟩=some (.slice A ((gR a.m).length) c)/\w'.cell? ⟨w.heap.size,2,none⟩=some (.int .i64 a.e)/\w'.cell? ⟨w.heap.size+1,0,none⟩=some (.bool b.neg)/\w'.cell? ⟨w.heap.size+1,1,none⟩=some (.slice B ((gR b.m).length) d)/\w'.cell? ⟨w.heap.size+1,2,none⟩=some (.int .i64 b.e))
   (first|with_reducible exact⟨(b1').c0,(b1').c1,(b1').c2,(b2').c0,(b2').c1,(b2').c2⟩|with_reducible exact⟨(b1'.ext jt).c0,(b1'.ext jt).c1,(b1'.ext jt).c2,(b2'.ext jt).c0,(b2'.ext jt).c1,(b2'.ext jt).c2⟩|with_reducible exact⟨(b1'.ext iO).c0,(b1'.ext iO).c1,(b1'.ext iO).c2,(b2'.ext iO).c0,(b2'.ext iO).c1,(b2'.ext iO).c2⟩|with_reducible exact⟨(b1'.ext (jt.trans iO)).c0,(b1'.ext (jt.trans iO)).c1,(b1'.ext (jt.trans iO)).c2,(b2'.ext (jt.trans iO)).c0,(b2'.ext (jt.trans iO)).c1,(b2'.ext (jt.trans iO)).c2⟩|with_reducible exact⟨(b1'.ext (iO.trans jt)).c0,(b1'.ext (iO.trans jt)).c1,(b1'.ext (iO.trans jt)).c2,(b2'.ext (iO.trans jt)).c0,(b2'.ext (iO.trans jt)).c1,(b2'.ext (iO.trans jt)).c2⟩)
   (first
    | (go_at_call_of 67 (Value.agg #[.bool a.neg,.slice A (gR a.m).length c,.int .i64 a.e]);(first|(with_reducible refine(HTa.out _ oD).mono ?_)|(with_reducible refine(HTa.out _ (oD.below iO)).mono ?_));rintro r wx0 ⟨rfl,jt⟩)
    | (go_at_call_of 67 (Value.agg #[.bool b.neg,.slice B (gR b.m).length d,.int .i64 b.e]);(first|(with_reducible refine(HTb.out _ r6).mono ?_)|(with_reducible refine(HTb.out _ (r6.below jt)).mono ?_));rintro r wx1 ⟨rfl,iO⟩))
  all_goals (go_wp2_with fail;go_meet;(first|exact⟨rfl,rfl,(iB.drew _).trans (jt.trans iO)⟩|exact⟨rfl,rfl,(iB.drew _).trans (iO.trans jt)⟩))
 obtain⟨rfl,rfl,hb⟩:=hcut;replace hE:=hE.trans hb;replace hs:=hs.below hb;replace hr:=hr.below hb;replace ki:=ki.below hb;replace b1:=b1.ext hb;replace b2:=b2.ext hb;replace b3:=b3.ext hb;clear hb;go_upto_region 7 with fail;go_cut [63] (λs wx=>s = .bool (decide (4097<mx-k/\(1<ta-tb\/1<tb-ta)))/\wx=wc)
 case first=>
  by_cases c1:4097<mx-k
  .by_cases c2:1<ta-tb
   .go_wp2;go_meet;exact⟨congrArg Value.bool (a6 ⟨c1,.inl c2⟩).symm,rfl⟩
   .by_cases c3:1<tb-ta
    .go_wp2;go_meet;exact⟨congrArg Value.bool (a6 ⟨c1,.inr c3⟩).symm,rfl⟩
    .go_wp2;go_meet;exact⟨congrArg Value.bool (a7 aC).symm,rfl⟩
  .go_wp2;go_meet;exact⟨congrArg Value.bool (a7 aC).symm,rfl⟩
 obtain⟨rfl,hwc⟩:=hcut;subst hwc;by_cases hB:4097<mx-k/\(1<ta-tb\/1<tb-ta)
 .have hd:decide (4097<mx-k/\(1<ta-tb\/1<tb-ta))=true:=a6 hB;have kj:=amW (HBIG.out hB.1 hB.2);rw[hd];clear hB hd;have GS:=b3.c0;have yb30:=b3.fr 0;have GU:=b3.c1;have yb31:=b3.fr 1;have GV:=b3.c2;have yb32:=b3.fr 2;go_wp2;rw[Hw kj.out,Ey kj.out];exact alO rfl rfl rfl rfl (b3.set _ _ _ _ _) (je.qF hE aC _ _ _ _ _)
 .have hd:decide (4097<mx-k/\(1<ta-tb\/1<tb-ta))=false:=a7 hB;obtain⟨As,M0⟩:=HFIT.out hB;have HXY:=amW (Jt (k:=129) (bg (aal As M0) aE));have tc:=Jt (k:=129) (bg As aE);have At:=Jt (k:=129) (bg M0 aE);have HXa2:=amW (λw h=>HXa.out w h aC);have HXb2:=amW (λw h=>HXb.out w h aC);rw[hd];clear hB hd As M0 I4 HBIG HFIT HXa HXb HTa HTb;have MX:IntKind.i64.wrap (a.e-k)=a.e-k:=i64_in _ aC aC;have hwf:IntKind.i64.wrap (b.e-k)=b.e-k:=i64_in _ aC aC;have nR:=b1.c0;have nS:=b1.c1;have nT:=b1.c2;have sP:=b2.c0;have sQ:=b2.c1;have sR:=b2.c2;go_upto_region 9 with fail;clear nR nS nT sP sQ sR;go_cut [9,10] (λs0 s1 wx=>PK (gR x) wx s0/\PK (gR y) wx s1/\iB wc wx)
  case first=>
   have b1':=b1.drew;have b2':=b2.drew;have oD:=hs.drew;have r6:=hr.drew;go_region_held3 (λw'=>w'.cell? ⟨w.heap.size,0,none⟩=some (.bool a.neg)/\w'.cell? ⟨w.heap.size,1,none⟩=some (.slice A ((gR a.m).length) c)/\w'.cell? ⟨w.heap.size,2,none⟩=some (.int .i64 a.e)/\w'.cell? ⟨w.heap.size+1,0,none⟩=some (.bool b.neg)/\w'.cell? ⟨w.heap.size+1,1,none⟩=some (.slice B ((gR b.m).length) d)/\w'.cell? ⟨w.heap.size+1,2,none⟩=some (.int .i64 b.e))
    (first|with_reducible exact⟨(b1').c0,(b1').c1,(b1').c2,(b2').c0,(b2').c1,(b2').c2⟩|with_reducible exact⟨(b1'.ext jt).c0,(b1'.ext jt).c1,(b1'.ext jt).c2,(b2'.ext jt).c0,(b2'.ext jt).c1,(b2'.ext jt).c2⟩|with_reducible exact⟨(b1'.ext iO).c0,(b1'.ext iO).c1,(b1'.ext iO).c2,(b2'.ext iO).c0,(b2'.ext iO).c1,(b2'.ext iO).c2⟩|with_reducible exact⟨(b1'.ext (jt.trans iO)).c0,(b1'.ext (jt.trans iO)).c1,(b1'.ext (jt.trans iO)).c2,(b2'.ext (jt.trans iO)).c0,(b2'.ext (jt.trans iO)).c1,(b2'.ext (jt.trans iO)).c2⟩|with_reducible exact⟨(b1'.ext (iO.trans jt)).c0,(b1'.ext (iO.trans jt)).c1,(b1'.ext (iO.trans jt)).c2,(b2'.ext (iO.trans jt)).c0,(b2'.ext (iO.trans jt)).c1,(b2'.ext (iO.trans jt)).c2⟩)
    (first
     | (go_at_call_of 100 (Value.slice A (gR a.m).length c);(first|(with_reducible refine(HXa2.out _ oD).mono ?_)|(with_reducible refine(HXa2.out _ (oD.below iO)).mono ?_));rintro r wx0 ⟨A0,c0,rfl,qq,jt⟩)
     | (go_at_call_of 100 (Value.slice B (gR b.m).length d);(first|(with_reducible refine(HXb2.out _ r6).mono ?_)|(with_reducible refine(HXb2.out _ (r6.below jt)).mono ?_));rintro r wx1 ⟨A1,c1,rfl,rK,iO⟩))
   all_goals (go_wp2_with fail;go_meet;(first|exact⟨⟨_,_,rfl,qq.below iO⟩,⟨_,_,rfl,rK⟩,(iB.drew _).trans (jt.trans iO)⟩|exact⟨⟨_,_,rfl,qq⟩,⟨_,_,rfl,rK.below jt⟩,(iB.drew _).trans (iO.trans jt)⟩))
  obtain⟨⟨A_hx,c_hx,rfl,hx⟩,⟨A_hy,c_hy,rfl,hy⟩,hb⟩:=hcut;replace hE:=hE.trans hb;replace hs:=hs.below hb;replace hr:=hr.below hb;replace ki:=ki.below hb;replace b1:=b1.ext hb;replace b2:=b2.ext hb;replace b3:=b3.ext hb;clear hb;have HA:=amW (λw A c B d (h:Sl w A c (gR x)) (k:Sl w B d (gR y))=>V4 A B c d (gR x) (gR y) w h k aC aC (by rw[jY,jY];exact bg HXY.out aE));rw[jY,jY]at HA;by_cases hn:a.neg=b.neg
  .have e1:(a.neg==b.neg)=true:=by rw[hn];exact beq_self_eq_true _
   have hD:=amW (HS1.out hn);have HO:=amW (λw A c (h:Sl w A c (gR (x+y))) (ht:Tb w)=>C0 a.neg (x+y) k A c w h (bg HXY.out aE) aC aC ht);clear hn;have BC:=K8 a.neg (x+y) k HXY.out;have HK:=amW (λw A c (h:Sl w A c (gR (canon a.neg (x+y) k).m))=>Hv (canon a.neg (x+y) k) A c w h aC aC aC);generalize canon a.neg (x+y) k=D at *
   clear BC HS1 HS2 HS3;have nR:=b1.c0;have nS:=b1.c1;have nT:=b1.c2;have sP:=b2.c0;have sQ:=b2.c1;have sR:=b2.c2;go_wp2_with fail
   (with_reducible refine(HA.out _ _ _ _ _ hx hy).mono ?_)
   rintro r w2 ⟨A3,c3,rfl,h3,hb⟩;clear nR nS nT sP sQ sR;replace hE:=hE.trans hb;replace hs:=hs.below hb;replace hr:=hr.below hb;replace ki:=ki.below hb;replace hx:=hx.below hb;replace hy:=hy.below hb;replace b1:=b1.ext hb;replace b2:=b2.ext hb;replace b3:=b3.ext hb;clear hb;have nR:=b1.c0;have nS:=b1.c1;have nT:=b1.c2;go_wp2_with fail
   (with_reducible refine(HO.out _ _ _ h3 ki).mono ?_)
   rintro r w3 ⟨A_h4,c_h4,rfl,h4,hb⟩;clear nR nS nT;replace hE:=hE.trans hb;replace hs:=hs.below hb;replace hr:=hr.below hb;replace ki:=ki.below hb;replace hx:=hx.below hb;replace hy:=hy.below hb;replace h3:=h3.below hb;replace b1:=b1.ext hb;replace b2:=b2.ext hb;replace b3:=b3.ext hb;clear hb;have nR:=b1.c0;have nS:=b1.c1;have nT:=b1.c2;go_wp2_with fail
   (with_reducible refine(HK.out _ _ _ h4).mono ?_)
   rintro r w4 ⟨A_h5,c_h5,rfl,h5,hb⟩;clear nR nS nT;replace hE:=hE.trans hb;replace hs:=hs.below hb;replace hr:=hr.below hb;replace ki:=ki.below hb;replace hx:=hx.below hb;replace hy:=hy.below hb;replace h3:=h3.below hb;replace h4:=h4.below hb;replace b1:=b1.ext hb;replace b2:=b2.ext hb;replace b3:=b3.ext hb;clear hb;have GS:=b3.c0;have yb30:=b3.fr 0;have GU:=b3.c1;have yb31:=b3.fr 1;have GV:=b3.c2;have yb32:=b3.fr 2;go_wp2;rw[hD.out];exact vk (d:=(jm D)) rfl rfl rfl rfl (b3.set _ _ _ _ _) rfl (b3.re h5 _ _ _ _ _) (je.qF hE aC _ _ _ _ _)
  .have e1:(a.neg==b.neg)=false:=aT hn;have HC:=amW (λw A c B d (h:Sl w A c (gR x)) (k:Sl w B d (gR y))=>F2 A B c d (gR x) (gR y) w h k aC aC);rw[jY,jY]at HC;by_cases im:x<y
   .have hD:=amW (HS3.out hn im);have d0:decide (kq x y<0)=true:=by unfold kq;rw[aZ im];rfl
    have HSb:=amW (λw A c B d (h:Sl w A c (gR y)) (k:Sl w B d (gR x))=>NP A B c d (gR y) (gR x) w h k aC aC (by rw[jY,jY];omega));rw[jY,jY]at HSb;have Dx:=bg (mw (eD y x)) At;have HO:=amW (λw A c (h:Sl w A c (gR (y-x))) (ht:Tb w)=>C0 b.neg (y-x) k A c w h aC aC aC ht);have BC:=K8 b.neg (y-x) k Dx;have HK:=amW (λw A c (h:Sl w A c (gR (canon b.neg (y-x) k).m))=>Hv (canon b.neg (y-x) k) A c w h aC aC aC);generalize canon b.neg (y-x) k=D at *
    generalize kq x y=q at *
    clear BC HS1 HS2 HS3 hn im Dx HA;have nR:=b1.c0;have nS:=b1.c1;have nT:=b1.c2;have sP:=b2.c0;have sQ:=b2.c1;have sR:=b2.c2;go_wp2_with fail
    (with_reducible refine(HC.out _ _ _ _ _ hx hy).mono ?_)
    rintro r w2 ⟨rfl,hb⟩;clear nR nS nT sP sQ sR;replace hE:=hE.trans hb;replace hs:=hs.below hb;replace hr:=hr.below hb;replace ki:=ki.below hb;replace hx:=hx.below hb;replace hy:=hy.below hb;replace b1:=b1.ext hb;replace b2:=b2.ext hb;replace b3:=b3.ext hb;clear hb;have BJ:w.heap.size<=w.heap.size:=bc _;have nR:=b1.c0;have nS:=b1.c1;have nT:=b1.c2;have sP:=b2.c0;have sQ:=b2.c1;have sR:=b2.c2;have fb0:=b1.fr 0;have fb1:=b1.fr 1;have fb2:=b1.fr 2;have hx:=b1.re hx b.neg b.e (gR b.m).length d B;have hy:=b1.re hy b.neg b.e (gR b.m).length d B;have hE:=je.qF hE (bc _) b.neg B (gR b.m).length d b.e;have b3:=b3.xv (g':=w.heap.size) aC (.bool b.neg) (.slice B (gR b.m).length d) (.int .i64 b.e);have b1:=b1.set b.neg B (gR b.m).length d b.e;have ki:=aeR.below hE;clear hs hr b2;go_wp2_with fail
    (with_reducible refine(HSb.out _ _ _ _ _ hy hx).mono ?_)
    rintro r w3 ⟨A3,c3,rfl,h3,hb⟩;clear nR nS nT sP sQ sR;replace hE:=hE.trans hb;replace ki:=ki.below hb;replace hx:=hx.below hb;replace hy:=hy.below hb;replace b1:=b1.ext hb;replace b3:=b3.ext hb;clear hb;have nR:=b1.c0;have nS:=b1.c1;have nT:=b1.c2;go_wp2_with fail
    (with_reducible refine(HO.out _ _ _ h3 ki).mono ?_)
    rintro r w4 ⟨A_h4,c_h4,rfl,h4,hb⟩;clear nR nS nT;replace hE:=hE.trans hb;replace ki:=ki.below hb;replace hx:=hx.below hb;replace hy:=hy.below hb;replace h3:=h3.below hb;replace b1:=b1.ext hb;replace b3:=b3.ext hb;clear hb;have nR:=b1.c0;have nS:=b1.c1;have nT:=b1.c2;go_wp2_with fail
    (with_reducible refine(HK.out _ _ _ h4).mono ?_)
    rintro r w5 ⟨A_h5,c_h5,rfl,h5,hb⟩;clear nR nS nT;replace hE:=hE.trans hb;replace ki:=ki.below hb;replace hx:=hx.below hb;replace hy:=hy.below hb;replace h3:=h3.below hb;replace h4:=h4.below hb;replace b1:=b1.ext hb;replace b3:=b3.ext hb;clear hb;have GS:=b3.c0;have yb30:=b3.fr 0;have GU:=b3.c1;have yb31:=b3.fr 1;have GV:=b3.c2;have yb32:=b3.fr 2;go_wp2;rw[hD.out];exact vk (d:=(jm D)) rfl rfl rfl rfl (b3.set _ _ _ _ _) rfl (b3.re h5 _ _ _ _ _) (je.qF hE aC _ _ _ _ _)
   .have hD:=amW (HS2.out hn aC);have d0:decide (kq x y<0)=false:=by unfold kq;rw[aY im];split<;>rfl
    have HSb:=amW (λw A c B d (h:Sl w A c (gR x)) (k:Sl w B d (gR y))=>NP A B c d (gR x) (gR y) w h k aC aC (by rw[jY,jY];omega));rw[jY,jY]at HSb;have Dx:=bg (mw (eD x y)) tc;have HO:=amW (λw A c (h:Sl w A c (gR (x-y))) (ht:Tb w)=>C0 a.neg (x-y) k A c w h aC aC aC ht);have BC:=K8 a.neg (x-y) k Dx;have HK:=amW (λw A c (h:Sl w A c (gR (canon a.neg (x-y) k).m))=>Hv (canon a.neg (x-y) k) A c w h aC aC aC);generalize canon a.neg (x-y) k=D at *
    generalize kq x y=q at *
    clear BC HS1 HS2 HS3 hn im Dx HA;have nR:=b1.c0;have nS:=b1.c1;have nT:=b1.c2;have sP:=b2.c0;have sQ:=b2.c1;have sR:=b2.c2;go_wp2_with fail
    (with_reducible refine(HC.out _ _ _ _ _ hx hy).mono ?_)
    rintro r w2 ⟨rfl,hb⟩;clear nR nS nT sP sQ sR;replace hE:=hE.trans hb;replace hs:=hs.below hb;replace hr:=hr.below hb;replace ki:=ki.below hb;replace hx:=hx.below hb;replace hy:=hy.below hb;replace b1:=b1.ext hb;replace b2:=b2.ext hb;replace b3:=b3.ext hb;clear hb;go_wp2_with fail
    (with_reducible refine(HSb.out _ _ _ _ _ hx hy).mono ?_)
    rintro r w3 ⟨A3,c3,rfl,h3,hb⟩;replace hE:=hE.trans hb;replace hs:=hs.below hb;replace hr:=hr.below hb;replace ki:=ki.below hb;replace hx:=hx.below hb;replace hy:=hy.below hb;replace b1:=b1.ext hb;replace b2:=b2.ext hb;replace b3:=b3.ext hb;clear hb;have nR:=b1.c0;have nS:=b1.c1;have nT:=b1.c2;go_wp2_with fail
    (with_reducible refine(HO.out _ _ _ h3 ki).mono ?_)
    rintro r w4 ⟨A_h4,c_h4,rfl,h4,hb⟩;clear nR nS nT;replace hE:=hE.trans hb;replace hs:=hs.below hb;replace hr:=hr.below hb;replace ki:=ki.below hb;replace hx:=hx.below hb;replace hy:=hy.below hb;replace h3:=h3.below hb;replace b1:=b1.ext hb;replace b2:=b2.ext hb;replace b3:=b3.ext hb;clear hb;have nR:=b1.c0;have nS:=b1.c1;have nT:=b1.c2;go_wp2_with fail
    (with_reducible refine(HK.out _ _ _ h4).mono ?_)
    rintro r w5 ⟨A_h5,c_h5,rfl,h5,hb⟩;clear nR nS nT;replace hE:=hE.trans hb;replace hs:=hs.below hb;replace hr:=hr.below hb;replace ki:=ki.below hb;replace hx:=hx.below hb;replace hy:=hy.below hb;replace h3:=h3.below hb;replace h4:=h4.below hb;replace b1:=b1.ext hb;replace b2:=b2.ext hb;replace b3:=b3.ext hb;clear hb;have GS:=b3.c0;have yb30:=b3.fr 0;have GU:=b3.c1;have yb31:=b3.fr 1;have GV:=b3.c2;have yb32:=b3.fr 2;go_wp2;rw[hD.out];exact vk (d:=(jm D)) rfl rfl rfl rfl (b3.set _ _ _ _ _) rfl (b3.re h5 _ _ _ _ _) (je.qF hE aC _ _ _ _ _)
def RQ(a b:Dy)(A B:Option Addr)(c d:Nat)(w:World)(hs:Sl w A c (gR a.m))(hr:Sl w B d (gR b.m))(ki:Tb w)(ha:a.gX)(hb:b.gX):
 Calls prog 172 #[DV a A c,DV b B d] w (tC w (jm (iI a b)) (kg (iI a b))):=by
 by_cases a0:a.m=0
 .exact acS a b A B c d w hs hr ki hb a0
 .by_cases b0:b.m=0
  .exact acT a b A B c d w hs ki ha a0 b0
  .exact acU a b A B c d w hs hr ki ha hb a0 b0
def RN(a : Dy)(A : Option Addr)(c : Nat)(w : World)(hs : Sl w A c (gR a.m))(ha : a.gX):
    Calls prog 173 #[DV a A c] w (xV w (jl a)) := by
  have HV := amW (λw (h : Sl w A c (gR a.m)) => Ig a A c w h ha);have hl := ha.len;by_cases h0 : a.m=0
  . have hz : Hid (jl a=il) := by
      show jl a=il;obtain⟨s,m,e⟩ := a;rcases ha.canon with⟨h1,h2,h3⟩|h1
      . simp only at h1 h2 h3;subst h1 h2 h3;rfl
      . simp only at h0 h1;omega
    have n0 := NT h0;clear h0;have hE := (iB.alloc w (.cells #[.bool a.neg,.slice A ((gR a.m).length) c,.int .i64 a.e] 31)).trans (iB.alloc (w.alloc (.cells #[.bool a.neg,.slice A ((gR a.m).length) c,.int .i64 a.e] 31)) (.cells #[.bool false,.slice none 0 0,.int .i64 0] 31));have b1 := (je.rz (W := w) (g := w.heap.size) aH a.neg A ((gR a.m).length) c a.e).alloc (.cells #[.bool false,.slice none 0 0,.int .i64 0] 31);have b2 := je.rz (W := (w.alloc (.cells #[.bool a.neg,.slice A ((gR a.m).length) c,.int .i64 a.e] 31))) (g := w.heap.size+1) aH false none 0 0 0;replace hs := hs.below hE;go_enter func173,ntmps173;go_wp2_with fail
    (with_reducible refine(HV.out _ hs).mono ?_)
    rintro r w1 ⟨rfl,hb⟩;replace hE := hE.trans hb;replace hs := hs.below hb;replace b1 := b1.ext hb;replace b2 := b2.ext hb;clear hb;have nR := b1.c0;have nS := b1.c1;have nT := b1.c2;have sP := b2.c0;have yb20 := b2.fr 0;have sQ := b2.c1;have yb21 := b2.fr 1;have sR := b2.c2;have yb22 := b2.fr 2;go_wp2;rw[hz.out];exact yl (d := il) rfl rfl rfl (b2.set _ _ _ _ _) (by rw[show il.m=0 from rfl,nP];rfl) (by rw[show il.m=0 from rfl,nP];exact Sl.nil _) (je.qF hE aC _ _ _ _ _)
  . have n0 := JS h0
    have HN := amW (show jl a=⟨!a.neg,a.m,a.e⟩by unfold jl;simp[h0]);have HC := amW (λw (h : Sl w A c (gR a.m)) => Lg A c (gR a.m) w h aC);clear h0;have hE := (iB.alloc w (.cells #[.bool a.neg,.slice A ((gR a.m).length) c,.int .i64 a.e] 31)).trans (iB.alloc (w.alloc (.cells #[.bool a.neg,.slice A ((gR a.m).length) c,.int .i64 a.e] 31)) (.cells #[.bool false,.slice none 0 0,.int .i64 0] 31));have b1 := (je.rz (W := w) (g := w.heap.size) aH a.neg A ((gR a.m).length) c a.e).alloc (.cells #[.bool false,.slice none 0 0,.int .i64 0] 31);have b2 := je.rz (W := (w.alloc (.cells #[.bool a.neg,.slice A ((gR a.m).length) c,.int .i64 a.e] 31))) (g := w.heap.size+1) aH false none 0 0 0;replace hs := hs.below hE;go_enter func173,ntmps173;go_wp2_with fail
    (with_reducible refine(HV.out _ hs).mono ?_)
    rintro r w1 ⟨rfl,hb⟩;replace hE := hE.trans hb;replace hs := hs.below hb;replace b1 := b1.ext hb;replace b2 := b2.ext hb;clear hb;have nR := b1.c0;have nS := b1.c1;have nT := b1.c2;clear nR nS nT;have nR := b1.c0;have nS := b1.c1;have nT := b1.c2;go_wp2_with fail;clear nR nS nT;replace hs := hs.drew;replace b1 := b1.drew;replace b2 := b2.drew;replace hE := hE.trans (iB.drew _);go_region_held3 (λw' => w'.cell? ⟨w.heap.size,0,none⟩=some (.bool a.neg)/\w'.cell? ⟨w.heap.size,1,none⟩=some (.slice A ((gR a.m).length) c)/\w'.cell? ⟨w.heap.size,2,none⟩=some (.int .i64 a.e))
      (first|with_reducible exact⟨(b1).c0,(b1).c1,(b1).c2⟩|with_reducible exact⟨(b1.ext jt).c0,(b1.ext jt).c1,(b1.ext jt).c2⟩|with_reducible exact⟨((b1.ext jt).xv (g' := w.heap.size+1) aC _ _ _).c0,((b1.ext jt).xv (g' := w.heap.size+1) aC _ _ _).c1,((b1.ext jt).xv (g' := w.heap.size+1) aC _ _ _).c2⟩)
      (first
        | (go_at_call 92
           (with_reducible refine(HC.out _ hs).mono ?_)
           rintro r wx0 ⟨A_h4,c_h4,rfl,h4,jt⟩;have bz := b2.ext jt;have z0 := bz.c0;have z1 := bz.c1;have z2 := bz.c2;have y0 := bz.fr 0;have y1 := bz.fr 1;have y2 := bz.fr 2))
    replace hE := hE.trans jt;replace hs := hs.below jt;replace b1 := b1.ext jt;replace b2 := b2.ext jt;go_wp2;rw[HN.out];exact yl (d := ⟨!a.neg,a.m,a.e⟩) rfl rfl rfl (bz.set _ _ _ _ _) rfl (bz.re h4 _ _ _ _ _) (je.qF hE aC _ _ _ _ _)
def acR(a b : Dy)(A B : Option Addr)(c d : Nat)(w : World)(hs : Sl w A c (gR a.m))(hr : Sl w B d (gR b.m))(ki : Tb w)(ha : a.gX)(hb : b.gX):
    Calls prog 137 #[DV a A c,DV b B d] w (tC w (jm (iI a (jl b))) (kg (iI a (jl b)))) := by
  have HVa := amW (λw (h : Sl w A c (gR a.m)) => Ig a A c w h ha);have HVb := amW (λw (h : Sl w B d (gR b.m)) => Ig b B d w h hb);have HN := amW (λw (h : Sl w B d (gR b.m)) => RN b B d w h hb);have HS := amW (λw B d (h : Sl w A c (gR a.m)) (k : Sl w B d (gR (jl b).m)) (ht : Tb w) => RQ a (jl b) A B c d w h k ht ha (yZ hb));generalize kg (iI a (jl b))=E at *
  generalize jm (iI a (jl b))=D at *
  generalize jl b=nb at *
  have hE := ((iB.alloc w (.cells #[.bool a.neg,.slice A ((gR a.m).length) c,.int .i64 a.e] 31)).trans (iB.alloc (w.alloc (.cells #[.bool a.neg,.slice A ((gR a.m).length) c,.int .i64 a.e] 31)) (.cells #[.bool b.neg,.slice B ((gR b.m).length) d,.int .i64 b.e] 31))).trans (iB.alloc ((w.alloc (.cells #[.bool a.neg,.slice A ((gR a.m).length) c,.int .i64 a.e] 31)).alloc (.cells #[.bool b.neg,.slice B ((gR b.m).length) d,.int .i64 b.e] 31)) (.cells #[.bool false,.slice none 0 0,.int .i64 0] 31));have b1 := ((je.rz (W := w) (g := w.heap.size) aH a.neg A ((gR a.m).length) c a.e).alloc (.cells #[.bool b.neg,.slice B ((gR b.m).length) d,.int .i64 b.e] 31)).alloc (.cells #[.bool false,.slice none 0 0,.int .i64 0] 31);have b2 := (je.rz (W := (w.alloc (.cells #[.bool a.neg,.slice A ((gR a.m).length) c,.int .i64 a.e] 31))) (g := w.heap.size+1) aH b.neg B ((gR b.m).length) d b.e).alloc (.cells #[.bool false,.slice none 0 0,.int .i64 0] 31);have b3 := je.rz (W := ((w.alloc (.cells #[.bool a.neg,.slice A ((gR a.m).length) c,.int .i64 a.e] 31)).alloc (.cells #[.bool b.neg,.slice B ((gR b.m).length) d,.int .i64 b.e] 31))) (g := w.heap.size+2) aH false none 0 0 0;replace hs := hs.below hE;replace hr := hr.below hE;replace ki := ki.below hE;go_enter func137,ntmps137;go_wp2_with fail
  (with_reducible refine(HVa.out _ hs).mono ?_)
  rintro r w1 ⟨rfl,hb⟩;replace hE := hE.trans hb;replace hs := hs.below hb;replace hr := hr.below hb;replace ki := ki.below hb;replace b1 := b1.ext hb;replace b2 := b2.ext hb;replace b3 := b3.ext hb;clear hb;have nR := b1.c0;have nS := b1.c1;have nT := b1.c2;have sP := b2.c0;have sQ := b2.c1;have sR := b2.c2;go_wp2_with fail
  (with_reducible refine(HVb.out _ hr).mono ?_)
  rintro r w2 ⟨rfl,hb⟩;clear nR nS nT sP sQ sR;replace hE := hE.trans hb;replace hs := hs.below hb;replace hr := hr.below hb;replace ki := ki.below hb;replace b1 := b1.ext hb;replace b2 := b2.ext hb;replace b3 := b3.ext hb;clear hb;have nR := b1.c0;have nS := b1.c1;have nT := b1.c2;have sP := b2.c0;have sQ := b2.c1;have sR := b2.c2;go_wp2_with fail;clear nR nS nT sP sQ sR;replace hs := hs.drew;replace hr := hr.drew;replace ki := ki.drew;replace b1 := b1.drew;replace b2 := b2.drew;replace b3 := b3.drew;replace hE := hE.trans (iB.drew _);go_region_held3 (λw' => w'.cell? ⟨w.heap.size,0,none⟩=some (.bool a.neg)/\w'.cell? ⟨w.heap.size,1,none⟩=some (.slice A ((gR a.m).length) c)/\w'.cell? ⟨w.heap.size,2,none⟩=some (.int .i64 a.e)/\w'.cell? ⟨w.heap.size+1,0,none⟩=some (.bool b.neg)/\w'.cell? ⟨w.heap.size+1,1,none⟩=some (.slice B ((gR b.m).length) d)/\w'.cell? ⟨w.heap.size+1,2,none⟩=some (.int .i64 b.e))
    (first|with_reducible exact⟨(b1).c0,(b1).c1,(b1).c2,(b2).c0,(b2).c1,(b2).c2⟩|with_reducible exact⟨(b1.ext jt).c0,(b1.ext jt).c1,(b1.ext jt).c2,(b2.ext jt).c0,(b2.ext jt).c1,(b2.ext jt).c2⟩|with_reducible exact⟨(b1.ext (jt.trans iO)).c0,(b1.ext (jt.trans iO)).c1,(b1.ext (jt.trans iO)).c2,(b2.ext (jt.trans iO)).c0,(b2.ext (jt.trans iO)).c1,(b2.ext (jt.trans iO)).c2⟩|with_reducible exact⟨((b1.ext (jt.trans iO)).xv (g' := w.heap.size+2) aC _ _ _).c0,((b1.ext (jt.trans iO)).xv (g' := w.heap.size+2) aC _ _ _).c1,((b1.ext (jt.trans iO)).xv (g' := w.heap.size+2) aC _ _ _).c2,((b2.ext (jt.trans iO)).xv (g' := w.heap.size+2) aC _ _ _).c0,((b2.ext (jt.trans iO)).xv (g' := w.heap.size+2) aC _ _ _).c1,((b2.ext (jt.trans iO)).xv (g' := w.heap.size+2) aC _ _ _).c2⟩)
    (first
      | (go_at_call 173
         (with_reducible refine(HN.out _ hr).mono ?_)
         rintro r wx0 ⟨A_h4,c_h4,rfl,h4,jt⟩)
      | (go_at_call 172
         (with_reducible refine(HS.out _ _ _ (hs.below jt) h4 (ki.below jt)).mono ?_)
         rintro r wx1 ⟨A_h5,c_h5,rfl,h5,iO⟩;have bz := b3.ext (jt.trans iO);have z0 := bz.c0;have z1 := bz.c1;have z2 := bz.c2;have y0 := bz.fr 0;have y1 := bz.fr 1;have y2 := bz.fr 2))
  replace h4 := h4.below iO;replace hE := hE.trans (jt.trans iO);replace hs := hs.below (jt.trans iO);replace hr := hr.below (jt.trans iO);replace ki := ki.below (jt.trans iO);replace b1 := b1.ext (jt.trans iO);replace b2 := b2.ext (jt.trans iO);replace b3 := b3.ext (jt.trans iO);go_wp2;exact vk (d := D) rfl rfl rfl rfl (bz.set _ _ _ _ _) rfl (bz.re h5 _ _ _ _ _) (je.qF hE aC _ _ _ _ _)
open Pu
section
variable {f:FuncId} {L M:List Nat} {jP:E}
def Gc(hk:iD L)(hc:∀ (vs:Array Value) (w:World),(callFunc f vs).run prog w = .ok (.enter f vs) w)
 {R:Option Addr->Nat->World->Ending->World->Prop} (H:∀ A c w,Sl w A c L->Tb w->Calls prog f #[.slice A L.length c] w (R A c w))
 (hR:∀ (A:Option Addr) (c:Nat) (B:Nat->Prop) w e w',Sl w A c L->(∀ b,B b->b<w.heap.size/\oI w b)->R A c w e w'->∃ v,e = .returned v/\Below w.heap.size w w'/\ix B (λ_=>True) w' jP v):gQ f [gV L] jP:=by
 refine⟨hc,λw B vs hK hB hr=>?_⟩;obtain⟨v1,vs,rfl,h1,hr⟩:=hr.nc;obtain rfl:=hr.rM;obtain⟨A,c,rfl,s1⟩:=zo hk h1;exact(H A c w s1 hK).mono λe w' h=>hR A c B w e w' s1 hB h
def JQ(hk:iD L){n:Int}(hc:∀ (vs:Array Value) (w:World),(callFunc f vs).run prog w = .ok (.enter f vs) w)
 {R:Option Addr->Nat->World->Ending->World->Prop} (H:∀ A c w,Sl w A c L->Tb w->Calls prog f #[.slice A L.length c,.int .i64 n] w (R A c w))
 (hR:∀ (A:Option Addr) (c:Nat) (B:Nat->Prop) w e w',Sl w A c L->(∀ b,B b->b<w.heap.size/\oI w b)->R A c w e w'->∃ v,e = .returned v/\Below w.heap.size w w'/\ix B (λ_=>True) w' jP v):gQ f [gV L,iP n] jP:=by
 refine⟨hc,λw B vs hK hB hr=>?_⟩;obtain⟨v1,vs,rfl,h1,hr⟩:=hr.nc;obtain⟨v2,vs,rfl,h2,hr⟩:=hr.nc;obtain rfl:=hr.rM;obtain rfl:=ix.ku h2;obtain⟨A,c,rfl,s1⟩:=zo hk h1;exact(H A c w s1 hK).mono λe w' h=>hR A c B w e w' s1 hB h
def Ge(hk:iD L)(hm:iD M)(hc:∀ (vs:Array Value) (w:World),(callFunc f vs).run prog w = .ok (.enter f vs) w)
 {R:World->Ending->World->Prop} (H:∀ A c B d w,Sl w A c L->Sl w B d M->Tb w->Calls prog f #[.slice A L.length c,.slice B M.length d] w (R w))
 (hR:∀ (B:Nat->Prop) w e w',(∀ b,B b->b<w.heap.size/\oI w b)->R w e w'->∃ v,e = .returned v/\Below w.heap.size w w'/\ix B (λ_=>True) w' jP v):gQ f [gV L,gV M] jP:=by
 refine⟨hc,λw B vs hK hB hr=>?_⟩;obtain⟨v1,vs,rfl,h1,hr⟩:=hr.nc;obtain⟨v2,vs,rfl,h2,hr⟩:=hr.nc;obtain rfl:=hr.rM;obtain⟨A,c,rfl,s1⟩:=zo hk h1;obtain⟨A',d,rfl,s2⟩:=zo hm h2;exact(H A c A' d w s1 s2 hK).mono λe w' h=>hR B w e w' hB h
end
def Gp{L:List Nat}{n:Int}(B:Nat->Prop)(w:World)(e:Ending)(w':World)(hB:∀ b,B b->b<w.heap.size/\oI w b)(h:CL w L n e w'):∃ v,e = .returned v/\Below w.heap.size w w'/\ix B (λ_=>True) w' (.ie [gV L,iP n]) v:=
 let⟨_,_,h1,h2,h3⟩:=h
 ⟨_,h1,h3,jX.ie (.cons (A4 hB h3 h2) (.cons (.v _) (.nil _ _ _)))⟩
def rl{L:List Nat}(B:Nat->Prop)(w:World)(e:Ending)(w':World)(hB:∀ b,B b->b<w.heap.size/\oI w b)(h:xg w L e w'):∃ v,e = .returned v/\Below w.heap.size w w'/\ix B (λ_=>True) w' (gV L) v:=
 let⟨_,_,h1,h2,h3⟩:=h
 ⟨_,h1,h3,A4 hB h3 h2⟩
def ua(L:List Nat)(hk:iD L):gQ 145 [gV L] (gV (iz L)):=
 Gc hk call145 (λA c w h _=>uT A c L w h) λA c B w e w' h hB ⟨h1,h2⟩=>by subst h2;exact⟨_,h1,Below.refl _ _,A4 hB (Below.refl _ _) h.ud⟩
def V6(L:List Nat)(hk:iD L)(hl:(iz L).length<=256):gQ 94 [gV L] (.ie [gV (iz L),iP 0]):=
 Gc hk call94 (λA c w h _=>F3 A c L w h hl) λA c B w e w' h hB r=>Gp B w e w' hB r
def ahc(L:List Nat)(hk:iD L)(hl:L.length<=100000):gQ 142 [gV L] (iP (gZ (val L))):=
 Gc hk call142 (λA c w h _=>V5 A c L w h aC) λA c B w e w' h hB ⟨h1,h2⟩=>by subst h2;exact⟨_,h1,Below.refl _ _,.v _⟩
def NL(L M:List Nat)(hk:iD L)(hm:iD M)(hl:L.length<=100000)(nj:M.length<=100000):gQ 99 [gV L,gV M] (iP (kq (val L) (val M))):=
 Ge hk hm call99 (λA c B d w h k _=>F2 A B c d L M w h k aC aC) rv
def V9(m n:Nat)(hl:(gR m).length<=256)(hn:n<=65536)(hf:(gR (m*2^n)).length<=256):gQ 149 [gV (gR m),iP (n:Int)] (.ie [gV (gR (m*2^n)),iP 0]):=
 JQ (mB m) call149 (λA c w h _=>V8 A c (gR m) n w h hl hn (by rw[jY];exact hf)) λA c B w e w' h hB r=>by rw[jY]at r;exact Gp B w e w' hB r
def JC(m n:Nat)(hl:(gR m).length<=256)(hn:n<=65536):gQ 49 [gV (gR m),iP (n:Int)] (.ie [gV (gR (m/2^n)),iP 0]):=
 JQ (mB m) call49 (λA c w h _=>Wb A c (gR m) n w h hl hn) λA c B w e w' h hB r=>by rw[jY]at r;exact Gp B w e w' hB r
def JB(m n:Nat)(h1:(gR m).length<=256)(h2:(gR n).length<=256)(hf:(gR (m+n)).length<=256):gQ 215 [gV (gR m),gV (gR n)] (.ie [gV (gR (m+n)),iP 0]):=by
 refine Ge (mB m) (mB n) call215 (λA c B d w h k _=>V4 A B c d (gR m) (gR n) w h k h1 h2 (by rw[jY,jY];exact hf)) ?_;rw[jY,jY];exact Gp
def F4(m n:Nat)(h1:(gR m).length<=256)(h2:(gR n).length<=256)(hf:n<=m):gQ 216 [gV (gR m),gV (gR n)] (.ie [gV (gR (m-n)),iP 0]):=by
 refine Ge (mB m) (mB n) call216 (λA c B d w h k _=>NP A B c d (gR m) (gR n) w h k h1 h2 (by rw[jY,jY];exact hf)) ?_;rw[jY,jY];exact Gp
def r8(m:Nat)(hl:(gR m).length<=100000):gQ 142 [gV (gR m)] (iP (gZ m)):=by
 have:=ahc (gR m) (mB m) hl;rwa[jY]at this
def yX(m n:Nat)(hl:(gR m).length<=100000)(nj:(gR n).length<=100000):gQ 99 [gV (gR m),gV (gR n)] (iP (kq m n)):=by
 have:=NL (gR m) (gR n) (mB m) (mB n) hl nj;rwa[jY,jY]at this
def yi(a:Dy)(ha:a.gX):gQ 173 [gU a] (gU (jl a)):=DS call173 (λA c w h _=>RN a A c w h ha) rd
def mK(a:Dy)(ha:a.gX):gQ 67 [gU a] (iP a.ig):=DS call67 (λA c w h _=>Ls a A c w h ha) rv
def xr(s:Bool)(m:Nat)(e:Int)(hl:(gR m).length<=256)(mh:-32768<=e)(lf:e<=32768)(hd:mv (canon s m e)):gQ 50 [bP s,gV (gR m),iP e] (.ie [gU (canon s m e),iP 0]):=by
 refine⟨call50,λw B vs hK hB hr=>?_⟩;obtain⟨v1,vs,rfl,h1,hr⟩:=hr.nc;obtain⟨v2,vs,rfl,h2,hr⟩:=hr.nc;obtain⟨v3,vs,rfl,h3,hr⟩:=hr.nc;obtain rfl:=hr.rM;obtain rfl:=ix.ku h1;obtain rfl:=ix.ku h3;obtain⟨A,c,rfl,s1⟩:=zo (mB m) h2;have:=agV s A c (gR m) e w s1 hl mh lf hK (by rw[jY];exact hd);rw[jY]at this;exact this.mono λe w' h=>Gm B w e w' hB h
def wU:E.le (.sl false 1 1 λi j=>[E.v (.int .u32 1)].getD (i*1+j) (.v (.bool false))) (gV (gR 1)):=by
 have e1:gR 1=[1]:=by rw[AB aE,show 1/4294967296=0 by decide,nP]
 rw[e1];refine .sl λi j hi hj=>?_
 obtain rfl:i=0:= aC ;obtain rfl:j=0:= aC ;exact⟨.refl _,rfl⟩
def iq(d:Dy):List E:=[bP d.neg,gV (gR d.m),iP d.e]
def jZ(l:List Dy):E:=.sl true l.length 3 λi j=>(iq (l.getD i il)).getD j .any
def EN(a:Dy):E.le (.sl true 1 3 λi j=>[bP a.neg,gV (gR a.m),iP a.e].getD (i*3+j) (.v (.bool false))) (jZ [a]):=.sl λi j hi hj=>by
 obtain rfl:i=0:= aC ;rcases j with _|_|_|j
 .exact ⟨.refl _,rfl⟩
 .exact ⟨.refl _,rfl⟩
 .exact ⟨.refl _,rfl⟩
 .omega
def wA(a b:Dy):E.le (.sl true 2 3 λi j=>[bP a.neg,gV (gR a.m),iP a.e,bP b.neg,gV (gR b.m),iP b.e].getD (i*3+j) (.v (.bool false))) (jZ [a,b]):=.sl λi j hi hj=>by
 obtain rfl|rfl:i=0\/i=1:= aC 
 all_goals
  rcases j with _|_|_|j
  .exact ⟨.refl _,rfl⟩
  .exact ⟨.refl _,rfl⟩
  .exact ⟨.refl _,rfl⟩
  .omega
def ns{n:Nat}(h:n≠0):((n:Int)==0)=false:= aN 
def r9{n:Nat}(h:n=0):((n:Int)==0)=true:=by subst h;rfl
def ahj{n:Nat}(h:n=0):((n:Int) != 0)=false:=by subst h;rfl
def ahk{n:Nat}(h:n≠0):((n:Int) != 0)=true:= aN 
def tW{m:Nat}:(gR m).length=0↔m=0:=by rw[amA,Vi]
def o9{m:Nat}(h:m≠0):(gR m).length≠0:=λq=>h (tW.1 q)
def Fp.Dy.gX.gR{d:Dy}(h:d.gX):(gR d.m).length<=256:=by have:=h.len;omega
end Go.Proofs.YtkdddbdjilcofaaGreatDoor
namespace Go.Proofs.YtkdddbdjilcofaaGreatDoor.Fp
structure Iv where
 lo:Dy
 hi:Dy
 all:Bool
def gT:Iv:=⟨il,il,true⟩
def Iv.gX(x:Iv):Prop:=(x.all=true/\x.lo=il/\x.hi=il)\/(x.all=false/\x.lo.gX/\x.hi.gX/\iN x.lo x.hi<=0)
def lG:gT.gX:=.inl ⟨rfl,rfl,rfl⟩
def lr(lo:Dy)(e:Int)(hi:Dy)(f:Int):Iv:=if e≠0\/f≠0 then gT else⟨lo,hi,false⟩
def wV(a b:Dy):Dy:=canon (a.neg != b.neg) (a.m*b.m) (a.e+b.e)
def pz(x:Iv):Iv:=if x.all then gT else⟨jl x.hi,jl x.lo,false⟩
def jC(x y:Iv)(p:Nat):Iv:=
 if x.all||y.all then gT else lr (jV (iI x.lo y.lo) p false) (jL (iI x.lo y.lo) p false) (jV (iI x.hi y.hi) p true) (jL (iI x.hi y.hi) p true)
def rD(x y:Iv)(p:Nat):Iv:=jC x (pz y) p
def ab4{x y:Int}:xn x y<=0↔x<=y:=by
 unfold xn;split
 .constructor<;>intro<;>omega
 .split<;>constructor<;>intro<;>omega
def sF{a b:Dy}{k:Int}(ha:qI a k)(hb:qI b k):iN a b<=0↔a.num k<=b.num k:=by rw[EC ha hb,ab4]
def le_trans{a b c:Dy}(h1:iN a b<=0)(h2:iN b c<=0):iN a c<=0:=by
 obtain⟨k,ka,kb,kc⟩:∃ k:Int,k<=a.e/\k<=b.e/\k<=c.e:=⟨min a.e (min b.e c.e),aC,aC,aC⟩
 rw[sF (.inr ka) (.inr kb)]at h1;rw[sF (.inr kb) (.inr kc)]at h2;rw[sF (.inr ka) (.inr kc)];omega
def Cd(a:Dy):iN a a<=0:=by rw[sF (k:=a.e) (.inr (ch _)) (.inr (ch _))];exact ch _
def agm(a b:Dy):iN a b<=0\/iN b a<=0:=by
 obtain⟨k,ka,kb⟩:∃ k:Int,k<=a.e/\k<=b.e:=⟨min a.e b.e,aC,aC⟩
 rw[sF (.inr ka) (.inr kb),sF (.inr kb) (.inr ka)];omega
def ahu{a b:Dy}(h:iN a b<=0):iN (jl b) (jl a)<=0:=by
 obtain⟨k,ka,kb⟩:∃ k:Int,k<=a.e/\k<=b.e:=⟨min a.e b.e,aC,aC⟩
 rw[sF (.inr ka) (.inr kb)]at h;rw[sF (k:=k) (KQ (.inr kb)) (KQ (.inr ka)),NX,NX];omega
def akl{a b c d:Dy}(h1:iN a b<=0)(h2:iN c d<=0):iN (iI a c) (iI b d)<=0:=by
 obtain⟨k,ka,kb,kc,kd⟩:∃ k:Int,k<=a.e/\k<=b.e/\k<=c.e/\k<=d.e:=⟨min (min a.e b.e) (min c.e d.e),aC,aC,aC,aC⟩
 rw[sF (.inr ka) (.inr kb)]at h1;rw[sF (.inr kc) (.inr kd)]at h2;rw[sF (k:=k) (G5 (.inr ka) (.inr kc)) (G5 (.inr kb) (.inr kd)),Kh (.inr ka) (.inr kc),Kh (.inr kb) (.inr kd)];omega
def H8(m:Nat)(e:Int)(p:Nat):
 kR m e false p false*2^jI m e p<=m/\m<=kR m e false p true*2^jI m e p:=by
 have h:=cB m (2^jI m e p);have hr:=bF m (bn (n:=jI m e p) (aE:0<2));unfold kR;simp only[bB,false_and,bj,bR,false_or,true_and];rw[bD];generalize m/2^jI m e p=q at *
 generalize 2^jI m e p=P at *
 refine⟨aC,?_⟩;rw[bS,bD q];split
 .omega
 .omega
def K9{s:Bool}{m n:Nat}{e f K:Int}(h1:K<=e)(h2:K<=f)(h:m*2^(e-K).toNat<=n*2^(f-K).toNat):
 (s=false->iN (canon s m e) (canon s n f)<=0)/\(s=true->iN (canon s n f) (canon s m e)<=0):=by
 constructor
 .rintro rfl;rw[sF (zJ h1) (zJ h2),Ws h1,Ws h2]
  exact_mod_cast h
 .rintro rfl;rw[sF (zJ h2) (zJ h1),Cp h1,Cp h2];simp only[bw];omega
def Rr(neg:Bool)(m:Nat)(e:Int)(p:Nat)(up:Bool)(he:jJ neg m e false p up=0)(_hp:1<=p):
 (up=true->iN (canon neg m e) (jU neg m e false p up)<=0)/\(up=false->iN (jU neg m e false p up) (canon neg m e)<=0):=by
 rw[EG]at he;obtain⟨c1,c2⟩:=H8 m e p;have e1:(e-e).toNat=0:= aC ;have e2:(e+(jI m e p:Int)-e).toNat=jI m e p:= aC ;have hk:e<=e+(jI m e p:Int):= aC ;have A:=λs:Bool=>K9 (s:=s) (m:=kR m e false p false) (n:=m) (e:=e+jI m e p) (f:=e) (K:=e) hk (ch _) (by rw[e1,e2];simpa using c1)
 have B:=λs:Bool=>K9 (s:=s) (m:=m) (n:=kR m e false p true) (e:=e) (f:=e+jI m e p) (K:=e) (ch _) hk (by rw[e1,e2];simpa using c2)
 unfold jU;by_cases ho:lZ m e false p (neg != up)=true
 .have hn:¬(neg != up)=true:=λh=>he ⟨ho,h⟩
  rw[aZ ho,aY hn];have T3:neg=up:=by cases neg<;>cases up<;>simp at hn ⊢
  have mc:(neg != up)=false:=by rw[T3];simp
  rw[mc]at ho;unfold lZ at ho;simp only[bE,b9]at ho;obtain⟨o1,o2⟩:=ho;have hq:=rS o1;have IK:=nM o1;obtain⟨K,k1,k2⟩:∃ K:Int,K<=e/\K<=16384-p:=⟨min e (16384-p),aC,aC⟩
  have C:(2^p-1)*2^((16384:Int)-p-K).toNat<=m*2^(e-K).toNat:=by
   have h1:2^(gZ (kR m e false p false)-1)*2^jI m e p<=m:=bg (bK _ hq) c1;have h2:=bK (2^(e-K).toNat) h1;rw[<-bh,<-bh]at h2;refine bg (bK _ (eD _ _)) (bg ?_ h2);rw[<-bh];exact bH aE aC 
  have D:=K9 (s:=neg) k2 k1 C;subst T3;cases neg
  .exact ⟨λh=>absurd h aE,λ_=>D.1 rfl⟩
  .exact ⟨λ_=>D.2 rfl,λh=>absurd h aE⟩
 .rw [aY ho];cases neg<;>cases up
  .exact ⟨λh=>absurd h aE,λ_=>(A false).1 rfl⟩
  .exact ⟨λ_=>(B false).1 rfl,λh=>absurd h aE⟩
  .exact ⟨λh=>absurd h aE,λ_=>(B true).2 rfl⟩
  .exact ⟨λ_=>(A true).2 rfl,λh=>absurd h aE⟩
def W8{d:Dy}(hd:d.mV)(p:Nat)(hp:1<=p):
 (jL d p true=0->iN d (jV d p true)<=0)/\(jL d p false=0->iN (jV d p false) d<=0):=by
 have h:=hd.CZ;constructor
 .intro he;have:=(Rr d.neg d.m d.e p true he hp).1 rfl;rwa[h]at this
 .intro he;have:=(Rr d.neg d.m d.e p false he hp).2 rfl;rwa[h]at this
def qJ{x y:Iv}(hx:x.gX)(hy:y.gX){p:Nat}(hp:1<=p)(gW:p<=4096):(jC x y p).gX:=by
 unfold jC;rcases hx with⟨h,_⟩|⟨h1,h2,h3,h4⟩
 .rw [h];exact lG
 .rcases hy with⟨h,_⟩|⟨k1,k2,k3,k4⟩
  .rw [h,h1];exact lG
  .rw [h1,k1];simp only[gG,bB,bj];unfold lr;by_cases he:jL (iI x.lo y.lo) p false≠0\/jL (iI x.hi y.hi) p true≠0
   .rw [aZ he];exact lG
   .rw [aY he];have e1:jL (iI x.lo y.lo) p false=0:= aC ;have e2:jL (iI x.hi y.hi) p true=0:= aC ;refine .inr ⟨rfl,sV _ _ _ _ _ _ hp gW,sV _ _ _ _ _ _ hp gW,?_⟩;exact le_trans ((W8 (Bm h2.canon k2.canon) p hp).2 e1) (le_trans (akl h4 k4) ((W8 (Bm h3.canon k3.canon) p hp).1 e2))
def Cl{x:Iv}(hx:x.gX):(pz x).gX:=by
 unfold pz;rcases hx with⟨h,_⟩|⟨h1,h2,h3,h4⟩
 .rw [aZ h];exact lG
 .rw [h1];exact .inr ⟨rfl,yZ h3,yZ h2,ahu h4⟩
def ja(a b:Dy):Dy:=if iN b a<0 then b else a
def iW(a b:Dy):Dy:=if 0<iN b a then b else a
def FU(a b:Dy):iN (ja a b) a<=0:=by
 unfold ja;split
 .omega
 .exact Cd a
def VG(a b:Dy):iN (ja a b) b<=0:=by
 unfold ja;split
 .exact Cd b
 .rcases agm a b with h|h
  .exact h
  .have h0:iN b a=0:= aC ;obtain⟨k,ka,kb⟩:∃ k:Int,k<=a.e/\k<=b.e:=⟨min a.e b.e,aC,aC⟩
   rw[EC (k:=k) (.inr kb) (.inr ka)]at h0;rw[sF (.inr ka) (.inr kb)];unfold xn at h0;split at h0
   .omega
   .split at h0<;>omega
def C1(a b:Dy):iN a b = -iN b a:=by
 obtain⟨k,ka,kb⟩:∃ k:Int,k<=a.e/\k<=b.e:=⟨min a.e b.e,aC,aC⟩
 rw[EC (k:=k) (.inr ka) (.inr kb),EC (k:=k) (.inr kb) (.inr ka)];unfold xn;split<;>split<;>(try split)<;>omega
def DI(a b:Dy):iN a (iW a b)<=0:=by
 unfold iW;split
 .rw [C1];omega
 .exact Cd a
def VF(a b:Dy):iN b (iW a b)<=0:=by
 unfold iW;split
 .exact Cd b
 .omega
def wT{a b:Dy}(ha:a.gX)(hb:b.gX):(ja a b).gX:=by unfold ja;split;exact hb;exact ha
def tZ{a b:Dy}(ha:a.gX)(hb:b.gX):(iW a b).gX:=by unfold iW;split;exact hb;exact ha
def oQ(D : Dy->Dy->Bool->Dy)(E : Dy->Dy->Bool->Int)(x y : Iv) : Iv:=
 if(E x.lo y.lo false=0/\E x.lo y.lo true=0)/\(E x.lo y.hi false=0/\E x.lo y.hi true=0)/\(E x.hi y.lo false=0/\E x.hi y.lo true=0)/\(E x.hi y.hi false=0/\E x.hi y.hi true=0)then
  ⟨ja (ja (ja (D x.lo y.lo false) (D x.lo y.hi false)) (D x.hi y.lo false)) (D x.hi y.hi false),
   iW (iW (iW (D x.lo y.lo true) (D x.lo y.hi true)) (D x.hi y.lo true)) (D x.hi y.hi true),false⟩
 else gT
def SK{D:Dy->Dy->Bool->Dy}{E:Dy->Dy->Bool->Int}{x y:Iv}(hv:∀ a b up,(D a b up).gX)
 (hle:E x.lo y.lo false=0->E x.lo y.lo true=0->iN (D x.lo y.lo false) (D x.lo y.lo true)<=0):(oQ D E x y).gX:=by
 unfold oQ;split
 .rename_i h;refine .inr ⟨rfl,wT (wT (wT (hv _ _ _) (hv _ _ _)) (hv _ _ _)) (hv _ _ _),tZ (tZ (tZ (hv _ _ _) (hv _ _ _)) (hv _ _ _)) (hv _ _ _),?_⟩;refine le_trans (FU _ _) (le_trans (FU _ _) (le_trans (FU _ _) (le_trans (hle h.1.1 h.1.2) ?_)));exact le_trans (DI _ _) (le_trans (DI _ _) (DI _ _))
 .exact lG
def iy(x y:Iv)(p:Nat):Iv:=
 if x.all||y.all then gT else oQ (λa b up=>jV (wV a b) p up) (λa b up=>jL (wV a b) p up) x y
def nY(x y:Iv){p:Nat}(hp:1<=p)(gW:p<=4096):(iy x y p).gX:=by
 unfold iy;split
 .exact lG
 .exact SK (λ_ _ _=>sV _ _ _ _ _ _ hp gW) (λh1 h2=>Rq _ _ _ _ _ h1 h2)
def kT(a b:Dy)(p:Nat)(g:Nat):Nat:=p+g+gZ b.m-gZ a.m
def oW(a b:Dy)(p:Nat)(up:Bool):Dy:=
 if a.m=0 then il else jU (a.neg != b.neg) (a.m*2^kT a b p 2/b.m) (a.e-b.e-kT a b p 2) (decide (a.m*2^kT a b p 2%b.m≠0)) p up
def qn(a b:Dy)(p:Nat)(up:Bool):Int:=
 if a.m=0 then 0 else jJ (a.neg != b.neg) (a.m*2^kT a b p 2/b.m) (a.e-b.e-kT a b p 2) (decide (a.m*2^kT a b p 2%b.m≠0)) p up
def Ln{a b:Dy}(a0:a.m≠0)(b0:b.m≠0)(p g:Nat)(hg:2<=g):p<gZ (a.m*2^kT a b p g/b.m):=by
 have h1:=rS a0;have h2:=qw b.m;have ha:=nM a0;have h3:2^p<=a.m*2^kT a b p g/b.m:=by
  rw[cT aC];refine bg (cD _ (dt h2)) (bg ?_ (bK _ h1));rw[<-bh,<-bh];exact bH aE (by unfold kT;omega)
 exact vQ.2 h3
def acC{a b:Dy}(a0:a.m≠0)(b0:b.m≠0)(p:Nat)(up:Bool):
 jU (a.neg != b.neg) (a.m*2^kT a b p 3/b.m) (a.e-kT a b p 3-b.e) (decide (a.m*2^kT a b p 3%b.m≠0)) p up=oW a b p up /\
 jJ (a.neg != b.neg) (a.m*2^kT a b p 3/b.m) (a.e-kT a b p 3-b.e) (decide (a.m*2^kT a b p 3%b.m≠0)) p up=qn a b p up:=by
 obtain⟨d,hd⟩:∃ d,kT a b p 3=kT a b p 2+d:=⟨kT a b p 3-kT a b p 2,by unfold kT;omega⟩
 have hb:=Ln a0 b0 p 2 aE;unfold oW qn;rw[aY a0,aY a0,hd];generalize kT a b p 2=k at *
 have hB:0<b.m:= aC ;have hP:=bn (n:=d) (aE:0<2);have e1:a.m*2^(k+d)/b.m/2^d=a.m*2^k/b.m:=by
  rw[dm,bh,<-bA,Nat.mul_div_mul_right _ _ hP]
 have e2:(decide (a.m*2^(k+d)%b.m≠0)||decide (a.m*2^(k+d)/b.m%2^d≠0))=decide (a.m*2^k%b.m≠0):=by
  have h1:a.m*2^(k+d)%(b.m*2^d)=a.m*2^k%b.m*2^d:=by rw[bh,<-bA,Nat.mul_mod_mul_right]
  have h2:a.m*2^(k+d)%(b.m*2^d)=a.m*2^(k+d)%b.m+b.m*(a.m*2^(k+d)/b.m%2^d):=Nat.mod_mul;rw[h1]at h2;rw[dz];simp only[dx,b9];constructor
  .intro h h0;rw[h0,cC]at h2;rcases h with h|h
   .omega
   .have:=fA hB (dL h);omega
  .intro h;apply bM;intro hn;have n1:a.m*2^(k+d)%b.m=0:=by
    apply bM;intro h';exact hn (.inl h')
   have n2:a.m*2^(k+d)/b.m%2^d=0:=by
    apply bM;intro h';exact hn (.inr h')
   rw[n1,n2,cH]at h2;have:=fA (dL h) hP;omega
 have h:=HW (N:=a.m*2^(k+d)/b.m) (E:=a.e-((k+d:Nat):Int)-b.e) (more:=decide (a.m*2^(k+d)%b.m≠0)) (d:=d) (p:=p) (a.neg != b.neg) up (by rw[e1];exact hb);rw[e1,e2,(aC:a.e-((k+d:Nat):Int)-b.e+(d:Int)=a.e-b.e-(k:Int))]at h;exact⟨h.1.symm,h.2.symm⟩
def nh(x:Iv):Int:=if x.all then 0 else if 0<x.lo.iJ then 1 else if x.hi.iJ<0 then -1 else 0
def jh(x y:Iv)(p:Nat):Iv:=
 if x.all||y.all||decide (nh y=0)then gT else oQ (λa b up=>oW a b p up) (λa b up=>qn a b p up) x y
def pX(x y:Iv){p:Nat}(hp:1<=p)(gW:p<=4096):(jh x y p).gX:=by
 unfold jh;split
 .exact lG
 .refine SK (λa b up=>?_) (λh1 h2=>?_)
  .unfold oW;split
   .exact rf
   .exact sV _ _ _ _ _ _ hp gW
  .unfold oW qn at *
   split
   .exact Cd _
   .rename_i h;rw[aY h]at h1 h2;exact Rq _ _ _ _ _ h1 h2
def lI(d:Dy):Dy:=⟨false,d.m,d.e⟩
def xX{d:Dy}(h:d.gX):(lI d).gX:=by
 refine⟨?_,h.range⟩;rcases h.canon with⟨h1,_,h3⟩|h1
 .exact .inl ⟨h1,rfl,h3⟩
 .exact .inr h1
def Zj(d:Dy)(k:Int):(lI d).num k=(d.jH k:Int):=by unfold Dy.num lI Dy.jH;simp
def kt(x:Iv):Dy:=iW (lI x.lo) (lI x.hi)
def oF(x:Iv):Dy:=if nh x=0 then il else ja (lI x.lo) (lI x.hi)
def jN(x:Iv):Iv:=if x.all then gT else⟨oF x,kt x,false⟩
def mg(d:Dy):Iv:=⟨d,d,false⟩
def uV{d:Dy}(h:d.gX):(mg d).gX:=.inr ⟨rfl,h,h,Cd d⟩
def FR{x:Iv}(h1:x.lo.gX)(h2:x.hi.gX):(kt x).gX:=tZ (xX h1) (xX h2)
def G7{x:Iv}(h:x.gX):(jN x).gX:=by
 unfold jN;rcases h with⟨h,_⟩|⟨h,h1,h2,_⟩
 .rw [h];exact lG
 .rw [h];have v1:=xX h1;have v2:=xX h2;refine .inr ⟨rfl,?_,FR h1 h2,?_⟩
  .show (oF x).gX;unfold oF;split
   .exact rf
   .exact wT v1 v2
  .show iN (oF x) (kt x)<=0;unfold oF;split
   .refine le_trans (b:=lI x.lo) ?_ (DI _ _);rw[sF (a:=il) (b:=lI x.lo) (k:=x.lo.e) (.inl rfl) (.inr (ch _)),vV rfl,Zj];omega
   .exact le_trans (FU _ _) (DI _ _)
def iR(n:Int):Dy:=jS n 0
def ji(n:Int):Iv:=mg (iR n)
end Go.Proofs.YtkdddbdjilcofaaGreatDoor.Fp
namespace Go.Proofs.YtkdddbdjilcofaaGreatDoor
open Go.RowKit Fp Pu
def iE(x:Iv):List E:=[bP x.lo.neg,gV (gR x.lo.m),iP x.lo.e,bP x.hi.neg,gV (gR x.hi.m),iP x.hi.e,bP x.all]
def ia(x:Iv):E:=.agg (iE x)
def gY(l:List Iv):E:=.sl true l.length 7 λi j=>(iE (l.getD i gT)).getD j .any
def kK(m:List (List Iv)):E:=.sl true m.length 1 λi _=>gY (m.getD i [])
def Az(x y:Iv):Bool:=y.all||(!x.all&&(decide (iN y.lo x.lo<=0)&&decide (iN x.hi y.hi<=0)))
def Cn:E.le (.v (.slice none 0 0)) (gV (gR 0)):=by
 have:gV (gR 0) = .sl false 0 1 λi _=>.v (.int .u32 (((gR 0).getD i 0:Nat):Int)):=by unfold gV;rw[nP];rfl
 rw[this];exact .nil _ _ _
def KA:E.le (.agg [bP false,.v (.slice none 0 0),iP 0,bP false,.v (.slice none 0 0),iP 0,bP true]) (ia gT):=
 .agg (.cons (.refl _) (.cons Cn (.cons (.refl _) (.cons (.refl _) (.cons Cn (.cons (.refl _) (.cons (.refl _) .nil)))))))
structure RD where
 neg:Bool
 L:List Nat
 e:Int
structure RI where
 lo:RD
 hi:RD
 all:Bool
def WX(d:RD):List E:=[bP d.neg,gV d.L,iP d.e]
def sM(d:RD):E:=.agg (WX d)
def ze(x:RI):List E:=[bP x.lo.neg,gV x.lo.L,iP x.lo.e,bP x.hi.neg,gV x.hi.L,iP x.hi.e,bP x.all]
def wX(x:RI):E:=.agg (ze x)
def D1:RD:=⟨false,[],0⟩
def nK:RI:=⟨D1,D1,true⟩
def mq(l:List RI):E:=.sl true l.length 7 λi j=>(ze (l.getD i nK)).getD j .any
structure RD.ko(d:RD):Prop where
 ok:iD d.L
 lo:-9223372036854775808<=d.e
 hi:d.e<=9223372036854775807
structure RI.ko(x:RI):Prop where
 lo:x.lo.ko
 hi:x.hi.ko
def Xm:D1.ko:=⟨iD.nil,aE,aE⟩
def Xl:nK.ko:=⟨Xm,Xm⟩
def RD.dy(d:RD):Dy:=⟨d.neg,val d.L,d.e⟩
def RD.Ok(d:RD):Prop:=ot d.neg d.L d.e
def RD.Zero(d:RD):Prop:=d.neg=false/\d.L=[]/\d.e=0
def RI.iv(x:RI):Iv:=⟨x.lo.dy,x.hi.dy,x.all⟩
def RI.Ok(x:RI):Prop:=(x.all=true/\x.lo.Zero/\x.hi.Zero)\/(x.all=false/\x.lo.Ok/\x.hi.Ok/\iN x.lo.dy x.hi.dy<=0)
def Fp.Dy.raw(d:Dy):RD:=⟨d.neg,gR d.m,d.e⟩
def Fp.Iv.raw(x:Iv):RI:=⟨x.lo.raw,x.hi.raw,x.all⟩
def RD.Ok.valid{d:RD}(h:d.Ok):d.dy.gX:=h.2.2
def RD.Ok.eq{d:RD}(h:d.Ok)(g:d.ko):d.dy.raw=d:=by
 obtain⟨n,L,e⟩:=d;show RD.mk n (gR (val L)) e=_;rw[<-ot.ER h g.ok]
def RD.Zero.eq{d:RD}(h:d.Zero):d.dy=il/\d.dy.raw=d:=by
 obtain⟨n,L,e⟩:=d;obtain⟨rfl,rfl,rfl⟩:=h;refine⟨rfl,?_⟩;show RD.mk false (gR 0) 0=_;rw[nP]
def RI.Ok.valid{x:RI}(h:x.Ok):x.iv.gX:=by
 rcases h with⟨h1,h2,h3⟩|⟨h1,h2,h3,h4⟩
 .exact .inl ⟨h1,h2.eq.1,h3.eq.1⟩
 .exact .inr ⟨h1,h2.valid,h3.valid,h4⟩
def RI.Ok.eq{x:RI}(h:x.Ok)(g:x.ko):x.iv.raw=x:=by
 obtain⟨lo,hi,a⟩:=x;rcases h with⟨h1,h2,h3⟩|⟨h1,h2,h3,h4⟩
 .show RI.mk lo.dy.raw hi.dy.raw a=_;rw[h2.eq.2,h3.eq.2]
 .show RI.mk lo.dy.raw hi.dy.raw a=_;rw[h2.eq g.lo,h3.eq g.hi]
def Fp.Dy.Ou(d:Dy):d.raw.dy=d:=by show Dy.mk d.neg (val (gR d.m)) d.e=d;rw[jY]
def acP(d:Dy):sM d.raw=gU d:=rfl
def Nh(x:Iv):wX x.raw=ia x:=rfl
def Fp.Dy.gX.Iz{d:Dy}(h:d.gX):d.raw.ko:=⟨mB _,by have:=h.exp;show -9223372036854775808<=d.e;omega,by have:=h.exp;show d.e<=9223372036854775807;omega⟩
def Fp.Dy.gX.JL{d:Dy}(h:d.gX):d.raw.Ok:=h.xq
def Fp.Iv.gX.JL{x:Iv}(h:x.gX):x.raw.Ok:=by
 rcases h with⟨h1,h2,h3⟩|⟨h1,h2,h3,h4⟩
 .refine .inl ⟨h1,?_,?_⟩
  .show x.lo.raw.Zero;rw[h2];exact⟨rfl,nP,rfl⟩
  .show x.hi.raw.Zero;rw[h3];exact⟨rfl,nP,rfl⟩
 .refine .inr ⟨h1,h2.JL,h3.JL,?_⟩;show iN x.lo.raw.dy x.hi.raw.dy<=0;rw[Dy.Ou,Dy.Ou];exact h4
def Fp.Iv.gX.jW{x:Iv}(h:x.gX):x.lo.gX/\x.hi.gX:=by
 rcases h with⟨_,h2,h3⟩|⟨_,h2,h3,_⟩
 .rw [h2,h3];exact⟨rf,rf⟩
 .exact ⟨h2,h3⟩
def Fp.Iv.gX.Iz{x:Iv}(h:x.gX):x.raw.ko:=⟨h.jW.1.Iz,h.jW.2.Iz⟩
def alq:gT.raw=nK:=by
 show RI.mk il.raw il.raw true=RI.mk D1 D1 true;have:il.raw=D1:=by show RD.mk false (gR 0) 0=_;rw[nP];rfl
 rw[this]
def Cu(l:List Iv):List RI:=l.map Iv.raw
def ad1(l:List Iv)(i:Nat):(Cu l).getD i nK=(l.getD i gT).raw:=by
 unfold Cu;rw[bd,bd,cr];cases l[i]? with
 |none=>exact alq.symm
 |some x=>rfl
def UU(l:List Iv):mq (Cu l)=gY l:=by
 unfold mq gY;rw[show(Cu l).length=l.length by simp[Cu]];congr 1;funext i j;rw[ad1];rfl
def yj(d:RD)(g:d.ko)(b:Bool)(hb:b=true↔d.Ok):gQ 45 [sM d] (bP b):=by
 refine⟨call45,λw B vs hK hB hr=>?_⟩;obtain⟨v1,vs,rfl,h1,hr⟩:=hr.nc;obtain rfl:=hr.rM;obtain⟨us,rfl,q⟩:=ix.CQ (show ix _ _ w (.agg _) v1 from h1);obtain⟨u1,us,rfl,k1,q⟩:=q.nc;obtain⟨u2,us,rfl,k2,q⟩:=q.nc;obtain⟨u3,us,rfl,k3,q⟩:=q.nc;obtain rfl:=q.rM;obtain rfl:=ix.ku k1;obtain rfl:=ix.ku k3;obtain⟨A,c,rfl,hs⟩:=zo g.ok k2;exact(Br d.neg A c d.L d.e w b hs g.lo g.hi hb).mono λe w' h=>rv B w e w' hB h
def uS{a b:Nat}(h:a=b):((a:Int) != (b:Int))=false:=by simp[h]
def NN{a b:Nat}(h:a=b):((a:Int)==b)=true:=by simp[h]
open Classical in
noncomputable def y5(x:RI):Bool:=decide x.Ok
def AI{x:RI}:y5 x=true↔x.Ok:=by unfold y5;simp
open Classical in
open Go.ChangeShapes Go.WideShapes Go.ChangeAt
abbrev mI:Nat->Prop:=λ_=>False
def abG{W:World}{a:Addr}{v:Value}(h:W.cell? a=some v):a.spot=none:=by
 obtain⟨b,o,s⟩:=a;rcases s with _|q
 .rfl
 .exfalso;unfold World.cell? at h;split at h<;>simp at h
def OH{W:World}{a:Addr}{len cap sz:Nat}{nl:Bool}(el:Nat->Nat->E)(hl:len<=cap)(hm:cap<=maxLen)(mo:0<sz)
 (h1:∀ i j,i<len->j<sz->(el i j).one=true/\(nl=true->(el i j).mO=true)/\(el i j).nr 2=true)
 (hx:∀ i,i<len->∃ cs,W.cells? 0 (a.add (i*sz)) sz=some cs/\∀ j,j<sz->∃ v,cs[j]? = some v/\ix mI mI W (el i j) v):
 ix mI mI W (.sl nl len sz el) (.slice (some a) len cap):=by
 have TX:cap<=9223372036854775807:=by simpa[maxLen]using hm
 have cellAt:∀ i j,i<len->j<sz->∃ v,W.cell? (a.add (i*sz+j))=some v/\ix mI mI W (el i j) v:=by
  intro i j hi hj;obtain⟨cs,h2,h3⟩:=hx i hi;obtain⟨v,h4,h5⟩:=h3 j hj;refine⟨v,?_,h5⟩;rw[<-Deep.add_add,(World.cells?_some h2).2.2 j hj,h4]
 by_cases h0:len=0
 .subst h0;exact .sl nl 0 sz el _ cap (λ_ _=>.bool false) aC TX (λh=>by cases h) (λi j hi=>absurd hi aC) (λi j hi=>absurd hi aC) (λi j hi=>absurd hi aC) (λi j hi=>absurd hi aC)
 .obtain ⟨b,o,s⟩:=a;have hs:s=none:=by
   obtain⟨v,h2,_⟩:=cellAt 0 0 aC mo;rw[cC,bY,show(⟨b,o,s⟩:Addr).add 0=⟨b,o,s⟩from rfl]at h2;exact abG h2
  subst hs;have cell2:∀ i j,∃ v:Value,i<len->j<sz->W.cell? ⟨b,o+(i*sz+j),none⟩=some v/\ix mI mI W (el i j) v:=by
   intro i j;by_cases hi:i<len
   .by_cases hj:j<sz
    .obtain ⟨v,h2,h3⟩:=cellAt i j hi hj;rw[Be]at h2;exact⟨v,λ_ _=>⟨h2,h3⟩⟩
    .exact ⟨.bool false,λ_ h=>absurd h hj⟩
   .exact ⟨.bool false,λh=>absurd h hi⟩
  let f:Nat->Nat->Value:=λi j=>Classical.choose (cell2 i j)
  have hf:∀ i j,i<len->j<sz->W.cell? ⟨b,o+(i*sz+j),none⟩=some (f i j)/\ix mI mI W (el i j) (f i j):=λi j=>cK (cell2 i j)
  refine .sl nl len sz el _ cap f hl TX (λh=>by cases h) (λi j hi hj=>?_) (λi j hi hj=>(h1 i j hi hj).2.2) (λi j hi hj=>?_) (λi j hi hj=>(hf i j hi hj).2)
  .exact ⟨(hf i j hi hj).2.one (h1 i j hi hj).1,λq=>(hf i j hi hj).2.mO ((h1 i j hi hj).2.1 q)⟩
  .exact ⟨b,o,rfl,id,block_lt_of_cell (hf i j hi hj).1,(hf i j hi hj).1⟩
def Za(W:World)(d:RD)(cs:List Value):Prop:=d.ko/\cs.length=3/\∀ j,j<3->∃ v,cs[j]? = some v/\ix mI mI W ((WX d).getD j .any) v
def KG(W:World)(x:RI)(cs:List Value):Prop:=x.ko/\cs.length=7/\∀ j,j<7->∃ v,cs[j]? = some v/\ix mI mI W ((ze x).getD j .any) v
section
variable {H:Type} {enc:TypeId×Value->H} {W:World} {fuel:Nat} {cs:List Value} {x:DataW H×List MemPlace}
def Oa(h:DataW.trod enc prog W 0 (λ_=>true) true fuel 31 cs=some x)(im:∀ p ∈ x.2,p.block<W.heap.size):∃ d,Za W d cs:=by
 obtain⟨s,A,L,cap,e,rfl,vL,h1,h2⟩:=ahN h im;refine⟨⟨s,L,e⟩,⟨vL.ok,h1,h2⟩,rfl,λj hj=>?_⟩;rcases j with _|_|_|j
 .exact ⟨_,rfl,.v _⟩
 .exact ⟨_,rfl,A4 (w:=W) (λ_ h=>h.elim) (.refl _) vL⟩
 .exact ⟨_,rfl,.v _⟩
 .omega
def ahR(h:DataW.trod enc prog W 0 (λ_=>true) true fuel 44 cs=some x)(im:∀ p ∈ x.2,p.block<W.heap.size):∃ d,KG W d cs:=by
 obtain⟨xs,n,rfl,rfl,hl,mN,hf⟩:=DataW.trod_struct underlying44 h;have hC:prog.cellsOf 44=7:= aF ;have hD:prog.cellsOf 31=3:= aF ;have hB:prog.cellsOf 4=1:= aF ;rw[hC]at hl;obtain⟨c0,c1,c2,c3,c4,c5,c6,rfl⟩:=agE hl;have h0:=hf 0 _ rfl;have h1:=hf 1 _ rfl;have h2:=hf 2 _ rfl;simp only[et,eu,dC]at h0 h1 h2;simp only[hD,hB,ev,ew,dR,ey]at h0 h1 h2;rw[bt (by rw[mN];decide)]at h0 h1 h2;obtain⟨lo,g1,_,k1⟩:=Oa h0 (λp hp=>im p (dG.2 ⟨_,cz _,hp⟩));obtain⟨hi,g2,_,k2⟩:=Oa h1 (λp hp=>im p (dG.2 ⟨_,cz _,hp⟩));obtain⟨al,e2,_⟩:=DataW.trod_bool underlying4 h2;simp at e2;subst e2;refine⟨⟨lo,hi,al⟩,⟨g1,g2⟩,rfl,λj hj=>?_⟩;rcases j with _|_|_|_|_|_|_|j
 .exact k1 0 aE 
 .exact k1 1 aE 
 .exact k1 2 aE 
 .exact k2 0 aE 
 .exact k2 1 aE 
 .exact k2 2 aE 
 .exact ⟨_,rfl,.v _⟩
 .omega
def aiY(x:RI)(j:Nat)(hj:j<7):((ze x).getD j .any).one=true/\(((ze x).getD j .any).mO=true)/\((ze x).getD j .any).nr 2=true:=by
 rcases j with _|_|_|_|_|_|_|j
 all_goals first|exact⟨rfl,rfl,rfl⟩|omega
def Wy(h:DataW.trod enc prog W 0 (λ_=>true) true fuel 26 cs=some x)(im:∀ p ∈ x.2,p.block<W.heap.size):
  ∃ l v,cs=[v]/\(∀ y,y ∈ l->y.ko)/\ix mI mI W (mq l) v:=by
 have hC:prog.cellsOf 44=7:= aF ;rcases Deep.open_slice underlying26 h with⟨rfl,_⟩|⟨a,len,cap,m,n,D,Pl,rfl,hb,hl,hm,sx,rfl,hx⟩
 .exact ⟨[],_,rfl,(λy hy=>by cases hy),.sl true 0 7 _ none 0 (λ_ _=>.bool false) (bc _) aE (λ_=>rfl) (λi j hi=>absurd hi (bk i)) (λi j hi=>absurd hi (bk i)) (λi j hi=>absurd hi (bk i)) (λi j hi=>absurd hi (bk i))⟩
 .simp only[bw]at sx;subst sx;have ex:∀ i,∃ y:RI,i<len->∃ cs',W.cells? 0 (a.add (i*7)) 7=some cs'/\KG W y cs':=by
   intro i;by_cases hi:i<len
   .obtain ⟨cs',h1,h2⟩:=hx i aC ;rw[hC]at h1;obtain⟨y,hy⟩:=ahR h2 (λp hp=>im p (List.mem_append_right _ (dG.2 ⟨i,bW.2 aC,hp⟩)));exact⟨y,λ_=>⟨cs',h1,hy⟩⟩
   .exact ⟨nK,λh=>absurd h hi⟩
  let X:Nat->RI:=λi=>Classical.choose (ex i)
  have hX:∀ i,i<len->∃ cs',W.cells? 0 (a.add (i*7)) 7=some cs'/\KG W (X i) cs':=λi=>cK (ex i)
  have hlen:((List.range len).map X).length=len:= aH ;refine⟨(List.range len).map X,_,rfl,?_,?_⟩
  .intro y hy;obtain⟨i,hi,rfl⟩:=dg.1 hy;obtain⟨cs',_,h2⟩:=hX i (bW.1 hi);exact h2.1
  .have BG:∀ i,i<len->((List.range len).map X).getD i nK=X i:=by
    intro i hi;rw[bd,cr,amB hi];rfl
   have:=OH (W:=W) (a:=a) (len:=len) (cap:=m) (nl:=true) (λi j=>(ze (((List.range len).map X).getD i nK)).getD j .any) hl hm (show 0<7 by decide)
    (λi j _ hj=>let⟨h1,h2,h3⟩:=aiY (((List.range len).map X).getD i nK) j hj;⟨h1,λ_=>h2,h3⟩)
    (λi hi=>by
     obtain⟨cs',h1,h2,_,h3⟩:=hX i hi;exact⟨cs',h1,λj hj=>by rw[BG i hi];exact h3 j hj⟩)
   unfold mq;rw[hlen];exact this
end
def aez{P:Program}{c:OpenClaim}(h:P.funcs.any Func.goes=false)(hs:c.start = .entering):false=c.goesBy P:=by
 have h1:∀ g:Nat,(P.funcs[g]?).any Func.goes=false:=by
  intro g;cases hg:P.funcs[g]? with
  |none=>rfl
  |some fn=>
   rw[Option.any_some];rw[Array.any_eq_false]at h;obtain⟨hl,he⟩:=cR.1 hg;have:=h g hl;rw[he]at this;simpa using this
 have h2:∀ f,P.goes f=false:=by
  intro f;unfold Program.goes;rw[h,Bool.and_false,eW,cW];intro g _;rw[h1 g];decide
 unfold OpenClaim.goesBy Program.goesAt Program.goesFrom;rw[hs];cases P.funcNamed c.func with
 |none=>rfl
 |some f=>simp[h2 f]
def adL:Tryz.pinned.checked.prog.funcs.any Func.goes=false:= aF 
def UH(k:IntKind)(l:List Int):E:=.sl true l.length 1 λi _=>.v (.int k (l.getD i 0))
def YQ{k:IntKind}{z:Int}(h:(Lit.int k z).wf=true):kP k z:=by
 cases k<;>(simp[Lit.wf,IntKind.min,IntKind.max,IntKind.signed,IntKind.bits]at h;simp only[kP];omega)
def ahO{H:Type}{enc:TypeId×Value->H}{W:World}{fuel:Nat}{cs:List Value}{x:DataW H×List MemPlace}{t e:TypeId}{k:IntKind}(hk:∀ z,qf (.int k z)=false)(ht:prog.underlying t=some (.slice e))(he:prog.underlying e=some (.int k))(hC:prog.cellsOf e=1)
  (h:DataW.trod enc prog W 0 (λ_=>true) true fuel t cs=some x):∃ l v,cs=[v]/\(∀ z,z ∈ l->kP k z)/\ix mI mI W (UH k l) v:=by
 rcases Deep.open_slice ht h with⟨rfl,_⟩|⟨a,len,cap,m,n,D,Pl,rfl,hb,hl,hm,sx,rfl,hx⟩
 .exact ⟨[],_,rfl,(λy hy=>by cases hy),.sl true 0 1 _ none 0 (λ_ _=>.bool false) (bc _) aE (λ_=>rfl) (λi j hi=>absurd hi (bk i)) (λi j hi=>absurd hi (bk i)) (λi j hi=>absurd hi (bk i)) (λi j hi=>absurd hi (bk i))⟩
 .simp only[bw]at sx;subst sx;have ex:∀ i,∃ z:Int,i<len->W.cells? 0 (a.add (i*1)) 1=some [.int k z]/\kP k z:=by
   intro i;by_cases hi:i<len
   .obtain ⟨cs',h1,h2⟩:=hx i aC ;rw[hC]at h1;obtain⟨z,hz,_,hw⟩:=DataW.trod_int he h2;subst hz;exact⟨z,λ_=>⟨h1,YQ hw⟩⟩
   .exact ⟨0,λh=>absurd h hi⟩
  let X:Nat->Int:=λi=>Classical.choose (ex i)
  have hX:∀ i,i<len->W.cells? 0 (a.add (i*1)) 1=some [.int k (X i)]/\kP k (X i):=λi=>cK (ex i)
  have hlen:((List.range len).map X).length=len:= aH ;refine⟨(List.range len).map X,_,rfl,?_,?_⟩
  .intro r hr;obtain⟨i,hi,rfl⟩:=dg.1 hr;exact(hX i (bW.1 hi)).2
  .have BG:∀ i,i<len->((List.range len).map X).getD i 0=X i:=by
    intro i hi;rw[bd,cr,amB hi];rfl
   have:=OH (W:=W) (a:=a) (len:=len) (cap:=m) (nl:=true) (λi _=>.v (.int k (((List.range len).map X).getD i 0))) hl hm (show 0<1 by decide)
    (λi j _ hj=>⟨rfl,λ_=>by show(!qf _)=true;rw[hk];rfl,rfl⟩)
    (λi hi=>by
     refine⟨[.int k (X i)],(hX i hi).1,λj hj=>?_⟩;obtain rfl:j=0:= aC ;exact⟨_,rfl,by rw[BG i hi];exact .v _⟩)
   unfold UH;rw[hlen];exact this
end Go.Proofs.YtkdddbdjilcofaaGreatDoor
