/- Lemmas that the last file uses. -/
import Derived.Test.YtjkmahljfblobaaGreatDoorM01
import Derived.Deep.DeepCutAuto
set_option linter.unusedSimpArgs false
set_option linter.unusedVariables false
set_option linter.defProp false
set_option maxHeartbeats 4000000
open Go.Proofs.Tryz
namespace Go.Proofs.YtjkmahljfblobaaGreatDoor.Pu
open Go.RowKit
structure Gd(P:Program)(K:World->Prop)(w0:lZ)(B:Nat->Prop):Prop where
 k:∀ w,sE w0 w0.w w->K w
 hB:∀ b,B b->w0.tf b/\nC w0.w b
def nC.C0{w w':World}{b:Nat}(h:nC w b)(hb:w'.heap[b]? = w.heap[b]?):nC w' b:=by
 intro o x e;exact h o x (by rw[<-e];exact(World.cell?_of_block (w:=w) (w':=w') hb).symm)
def nC.C1{w:World}{b:Nat}{cs:Array Value}{T:TypeId}{fr:Nat×Nat}(hg:w.heap[b]? = some (.cells cs T fr))(h:∀ v,v ∈ cs->pO v=false):nC w b:=by
 intro o x e;simp only[World.cell?,hg]at e;simp only[Option.isSome_none,bV,bB]at e;have:=h _ (dI e);cases this
section
variable {P:Program} {K:World->Prop} {T:List TI} {O:pS} {w0:lZ} {B:Nat->Prop} {σ:PS} {o:Oper} {a:Act} {w:World} {L:Lk} {u:kq}
def mL.Fy{v:Value}{T:TypeId}{n sz:Nat}{f:Nat->Nat->Value}(h:mL w v T n sz f true){x:Nat}(hx:v.ownBlock=some x):nC w x:=by
 rcases h with⟨rfl,_⟩|⟨b,ofs,c,cur,rfl,hg,_,_,_,_,jB⟩
 .simp [Value.ownBlock]at hx
 .simp [Value.ownBlock]at hx;subst hx;exact nC.C1 hg (jB rfl)
def mA.Fy{id:Nat}{b:Bx}(h:mA (bad B L) (jg L) L w id b)(hn:b.nl=true){x:Nat}(hx:L.own id x):nC w x:=by
 cases b with
 |cells T l=>
  obtain⟨b,vs,h1,h2,h3,h4,h5⟩:=h;obtain rfl:=(h2 x).1 hx;exact nC.C1 h3 λv hv=>Fb h4 hn v (by simpa using hv)
 |row nl T n sz el=>
  obtain⟨f,h1,h2,h3⟩:=h;have hn:nl=true:=hn;subst hn;exact h1.Fy ((h2 x).1 hx)
 |il nl T1 T0 n sz len el pend=>
  rcases h with⟨_,_,h⟩|h
  .exact absurd hx (h x)
  obtain⟨b,ofs,c,cur,f,h1,h2,h3,h4,h5,h6,h7,h8,h9,mY,mZ⟩:=h;have hn:nl=true:=hn;subst hn;rcases(h9 x).1 hx with rfl|⟨k,hk,Mn⟩
  .exact nC.C1 h2 λv hv=>h7 v hv
  .exact (h8 k hk).1.Fy Mn
 |mS T b l=>
  obtain⟨vs,h1,h2,h3,h4,h5⟩:=h;obtain rfl:=(h2 x).1 hx;exact nC.C1 h3 λv hv=>Fb h4 hn v (by simpa using hv)
 |xT nl T1 T0 n sz len el c r=>
  obtain⟨⟨b,ofs,c,cur,f,h1,h2,h3,h4,h5,h6,h7,h8,h9,mY,mZ⟩,_⟩:=h;have hn:nl=true:=hn;subst hn;rcases(h9 x).1 hx with rfl|⟨k,hk,Mn⟩
  .exact nC.C1 h2 λv hv=>h7 v hv
  .exact (h8 k hk).1.Fy Mn
 |pj nl T l=>
  obtain⟨b,vs,h1,h2,h3,h4,h5,h6⟩:=h;obtain rfl:=(h2 x).1 hx;exact nC.C1 h3 λv hv=>(h6 v (by simpa using hv)).2 hn
def jb.Aw(g:Gd P K w0 B)(r:jb w0 B σ a w L)(hn:σ.nl=true):∀ b,bad B L b->b<w.heap.size/\nC w b:=by
 intro b hb;rcases hb with hb|⟨id,hb⟩
 .obtain ⟨h1,h2⟩:=g.hB b hb;exact⟨bO h1.1 r.he.size,h2.C0 (r.he.block b h1)⟩
 .refine ⟨(r.hw id b hb).2,?_⟩;have hl:=(r.hv id).1 (r.hn id b hb);obtain⟨bx,jf⟩:=fX.1 hl;exact(r.hb id bx jf).Fy (r.hl hn id bx jf) hb
def mA.jD{id:Nat}{Tt:TypeId}{l:List E}(h:mA (bad B L) (jg L) L w id (.cells Tt l)){b:Nat}(hv:L.val id = .pointer (some ⟨b,0,none⟩))(iJ:∀ x,L.own id x->x<w.heap.size):
 iC (bad B L) (λ_=>False) w (.jD l.length λj=>l.getD j .any) (.pointer (some ⟨b,0,none⟩)):=by
 obtain⟨b',vs,h1,h2,h3,h4,h5⟩:=h;rw[hv]at h1;cases h1;refine .jD _ _ b 0 (λj=>vs.getD j undef) (λh=>h) (iJ b ((h2 b).2 rfl)) (λj hj=>?_) (λj hj=>?_) (λj hj=>?_)
 .have pX:j<vs.length:=by rw[h4.len];exact hj
  rw[bk,bw pX];exact h5 _ (cz pX)
 .have pX:j<vs.length:=by rw[h4.len];exact hj
  simp only[World.cell?,h3];simp[pX]
 .have pX:j<vs.length:=by rw[h4.len];exact hj
  rw[bk,bw hj,bk,bw pX];exact(h4.ko j _ _ (bw hj) (bw pX)).mX (λ_ h=>h) (λ_ h=>h.elim)
def mL.Wa{v:Value}{T:TypeId}{n sz:Nat}{f:Nat->Nat->Value}{nl:Bool}{el:Nat->Nat->E}{bs br:Nat->Prop}(h1:mL w v T n sz f nl)(iJ:∀ x,v.ownBlock=some x->x<w.heap.size)
 (h3:∀ i j,i<n->j<sz->iC bs br w (el i j) (f i j)/\(el i j).nr 2=true):iC (λ_=>False) (λ_=>False) w (.sl nl n sz el) v:=by
 rcases h1 with⟨rfl,rfl⟩|⟨b,ofs,c,cur,rfl,hg,oW,nM,oh,ku,jB⟩
 .exact .sl nl 0 sz el none 0 f (bl _) aC (λ_=>rfl) (λi j hi=>absurd hi (bu i)) (λi j hi=>absurd hi (bu i)) (λi j hi=>absurd hi (bu i)) (λi j hi=>absurd hi (bu i))
 .refine .sl nl n sz el _ c f oW (by unfold maxLen at nM;omega) (λh=>by cases h) (λi j hi hj=>⟨(ku i j hi hj).2,λhn=>jB hn _ (dI (ku i j hi hj).1)⟩) (λi j hi hj=>(h3 i j hi hj).2)
   (λi j hi hj=>⟨b,ofs,rfl,λh=>h,iJ b rfl,?_⟩) (λi j hi hj=>(iC.nr ((h3 i j hi hj).1.mX (λ_ h=>h.elim) (λ_ h=>h)) 2 (h3 i j hi hj).2))
  simp only[World.cell?,hg];simpa using(ku i j hi hj).1
def jb.Tj(r:jb w0 B σ a w L){id T1 T0 n sz k:Nat}{nl:Bool}{len:Nat->Nat}{el:Nat->Nat->Nat->E}{pend:Option Nat}(iN:σ.bo id=some (.il nl T1 T0 n sz len el pend))(hk:k<n):
 iC (λ_=>False) (λ_=>False) w (.sl nl (len k) sz (el k)) (L.iB id k):=by
 obtain⟨b,ofs,c,cur,f,h1,h2,h3,h4,h5,h6,h7,h8,h9,mY,mZ⟩:=(r.hb id _ iN).tR aA;exact(h8 k hk).1.Wa (λx hx=>(r.hw id x ((h9 x).2 (.inr ⟨k,hk,hx⟩))).2) (h8 k hk).2
def CV.D6(r:jb w0 B σ a w L){c:CV}{e:E}{is:List Nat}(h:c.ext σ=some (e,is))(kg:c.EU=false){v:Value}(hv:vZ (bad B L) (jg L) L w c v):iC (bad B L) (λ_=>False) w e v:=by
 cases c with
 |e x=>simp only[CV.ext,bt,bH]at h;obtain⟨rfl,_⟩:=h;exact hv.mX (λ_ h=>h) (λ_ h=>h.elim)
 |box id=>
  simp only[CV.ext]at h;split at h
  .rename_i Tt l iN;simp only[bt,bH]at h;obtain⟨rfl,_⟩:=h;obtain⟨_,b,k2,rfl⟩:=hv;exact(r.hb id _ iN).jD k2 λx hx=>(r.hw id x hx).2
  .cases h
 |row id=>cases kg
def CV.Lu(r:jb w0 B σ a w L){c:CV}{e:E}{is:List Nat}(h:c.ext σ=some (e,is)){v:Value}(hv:vZ (bad B L) (jg L) L w c v):iC (λ_=>False) (λ_=>False) w e v:=by
 cases kg:c.EU with
 |false=>exact(CV.D6 r h kg hv).mX (λ_ h=>h.elim) (λ_ h=>h)
 |true=>
  cases c with
  |row id=>
   simp only[CV.ext]at h;split at h
   .rename_i nl T1 T0 n sz len el iN;split at h
    .rename_i hn;have hn:=kz.1 hn;subst hn;simp only[bt,bH]at h;obtain⟨rfl,_⟩:=h;obtain⟨_,b,ofs,n',c,k2,rfl⟩:=hv;have jP:=r.Tj iN (fA 0);obtain⟨b',ofs',c',cur,f,h1,h2,h3,h4,h5,h6,h7,h8,h9,mY,mZ⟩:=(r.hb id _ iN).tR aC;rw[k2]at h1;cases h1;have pW:=h6 0 (fA 0) aF;refine .jD 1 _ b ofs (λ_=>L.iB id 0) (λh=>h) (r.hw id b ((h9 b).2 (.inl rfl))).2 (λj hj=>(h8 0 (fA 0)).1.head.2.1) (λj hj=>?_) (λj hj=>jP);obtain rfl:j=0:= aA ;simp only[World.cell?,h2];simpa using pW
    .cases h
   .cases h
  |_=>cases kg
def Rb(r:jb w0 B σ a w L){l:List CV}{es:List E}{is:List Nat}(h:ui σ l=some (es,is))(kg:l.any CV.EU=false){vs:List Value}(hlen:vs.length=l.length)
 (hv:∀ (i:Nat) (c:CV) (x:Value),l[i]? = some c->vs[i]? = some x->vZ (bad B L) (jg L) L w c x):jZ (bad B L) (λ_=>False) w es vs:=by
 induction l generalizing es is vs with
 |nil=>simp only[ui,bt,bH]at h;obtain⟨rfl,_⟩:=h;obtain rfl:=dn hlen;exact .nil _ _ _
 |cons c l ih=>
  cases vs with
  |nil=>simp at hlen
  |cons v vs=>
   simp only[ui]at h;split at h
   .rename_i x i xs js h1 h2;simp only[bt,bH]at h;obtain⟨rfl,_⟩:=h;simp only[dJ,dQ]at kg;exact .cons (CV.D6 r h1 kg.1 (hv 0 c v rfl rfl)) (ih h2 kg.2 (by simpa using hlen) λi c x hc hx=>hv (i+1) c x (by simpa using hc) (by simpa using hx))
   .cases h
def Rc(r:jb w0 B σ a w L){l:List CV}{es:List E}{is:List Nat}(h:ui σ l=some (es,is)){vs:List Value}(hlen:vs.length=l.length)
 (hv:∀ (i:Nat) (c:CV) (x:Value),l[i]? = some c->vs[i]? = some x->vZ (bad B L) (jg L) L w c x):jZ (λ_=>False) (λ_=>False) w es vs:=by
 induction l generalizing es is vs with
 |nil=>simp only[ui,bt,bH]at h;obtain⟨rfl,_⟩:=h;obtain rfl:=dn hlen;exact .nil _ _ _
 |cons c l ih=>
  cases vs with
  |nil=>simp at hlen
  |cons v vs=>
   simp only[ui]at h;split at h
   .rename_i x i xs js h1 h2;simp only[bt,bH]at h;obtain⟨rfl,_⟩:=h;exact .cons (CV.Lu r h1 (hv 0 c v rfl rfl)) (ih h2 (by simpa using hlen) λi c x hc hx=>hv (i+1) c x (by simpa using hc) (by simpa using hx))
   .cases h
def mL.mS{v:Value}{T:TypeId}{n sz:Nat}{f:Nat->Nat->Value}{nl:Bool}{el:Nat->Nat->E}{bs br:Nat->Prop}(h1:mL w v T n sz f nl)(iJ:∀ x,v.ownBlock=some x->x<w.heap.size)
 (h3:∀ i j,i<n->j<sz->iC bs br w (el i j) (f i j)/\(el i j).nr 2=true):iC bs (λ_=>False) w (.kY true nl n sz el) v:=by
 rcases h1 with⟨rfl,rfl⟩|⟨b,ofs,c,cur,rfl,hg,oW,nM,oh,ku,jB⟩
 .exact .kY true nl 0 sz el none 0 f (bl _) aC (λ_=>rfl) (λi j hi=>absurd hi (bu i)) (λ_ i j hi=>absurd hi (bu i)) (λi j hi=>absurd hi (bu i)) (λi j hi=>absurd hi (bu i))
 .refine .kY true nl n sz el _ c f oW (by unfold maxLen at nM;omega) (λh=>by cases h) (λi j hi hj=>⟨(ku i j hi hj).2,λhn=>jB hn _ (dI (ku i j hi hj).1)⟩) (λ_ i j hi hj=>(h3 i j hi hj).2)
   (λi j hi hj=>⟨b,ofs,rfl,λh=>h,iJ b rfl,?_⟩) (λi j hi hj=>iC.nr (h3 i j hi hj).1 2 (h3 i j hi hj).2)
  simp only[World.cell?,hg];simpa using(ku i j hi hj).1
def PV.D6(r:jb w0 B σ a w L){p:PV}{e:E}{is:List Nat}(h:p.ext σ=some (e,is))(kg:p.tH σ=false){v:Value}(hv:kH (bad B L) (jg L) L w p v):iC (bad B L) (λ_=>False) w e v:=by
 cases p with
 |e x=>simp only[PV.ext,bt,bH]at h;obtain⟨rfl,_⟩:=h;exact iC.mX (λ_ h=>h) (λ_ h=>h.elim) hv
 |box id off=>
  cases off with
  |succ=>simp[PV.ext]at h
  |zero=>
   simp only[PV.ext]at h;split at h
   .rename_i Tt l iN;simp only[bt,bH]at h;obtain⟨rfl,_⟩:=h;obtain⟨_,b,k2,rfl⟩:=hv;exact(r.hb id _ iN).jD k2 λx hx=>(r.hw id x hx).2
   .cases h
 |qh f cap=>
  simp only[PV.ext]at h;split at h
  .rename_i xs js h1;simp only[bt,bH]at h;obtain⟨rfl,_⟩:=h;obtain⟨vs,rfl,k2,k3⟩:=hv;have:=Rb r h1 kg k2 k3;exact .fn f xs vs this.len this.ko
  .cases h
 |own id=>
  obtain⟨_,rfl⟩:=hv;simp only[PV.tH]at kg;split at kg
  .rename_i nl T1 T0 n sz len el pend iN;simp only[PV.ext,iN]at h;cases pend with
   |some k=>cases h
   |none=>
    simp only[bt,bH]at h;obtain⟨rfl,_⟩:=h;rcases r.hb id _ iN with⟨h1,h2,_⟩|⟨b,ofs,c,cur,f,h1,h2,h3,h4,h5,h6,h7,h8,h9,mY,mZ⟩
    .subst h2;rw[h1];exact .kY false true 0 1 _ none 0 (λ_ _=>undef) (bl _) aC (λ_=>rfl) (λi j hi=>absurd hi (bu i)) (λh=>by cases h) (λi j hi=>absurd hi (bu i)) (λi j hi=>absurd hi (bu i))
    .rw [h1];refine .kY false true n 1 _ _ c (λk _=>L.iB id k) h3 (by unfold maxLen at h4;omega) (λh=>by cases h) (λk j hk hj=>⟨(h8 k hk).1.head.2.1,λ_=>(h8 k hk).1.head.2.2⟩) (λh=>by cases h)
      (λk j hk hj=>⟨b,ofs,rfl,λh=>h,(r.hw id b ((h9 b).2 (.inl rfl))).2,?_⟩) (λk j hk hj=>(h8 k hk).1.mS (λx hx=>(r.hw id x ((h9 x).2 (.inr ⟨k,hk,hx⟩))).2) (h8 k hk).2)
     rw[cv];obtain rfl:j=0:= aA ;simp only[World.cell?,h2];simpa using h6 k hk aF 
  .cases kg
 |iB id k=>cases kg
 |ny=>simp[PV.ext]at h
 |qo=>simp[PV.ext]at h
def PV.Lu(r:jb w0 B σ a w L){p:PV}{e:E}{is:List Nat}(h:p.ext σ=some (e,is)){v:Value}(hv:kH (bad B L) (jg L) L w p v):iC (λ_=>False) (λ_=>False) w e v:=by
 by_cases kg:p.tH σ=false
 .exact (PV.D6 r h kg hv).mX (λ_ h=>h.elim) (λ_ h=>h)
 .cases p with
  |own id=>
   obtain⟨_,rfl⟩:=hv;simp only[PV.ext]at h;split at h
   .rename_i nl T n sz el iN;simp only[bt,bH]at h;obtain⟨rfl,_⟩:=h;obtain⟨f,h1,h2,h3⟩:=r.hb id _ iN;exact h1.Wa (λx hx=>(r.hw id x ((h2 x).2 hx)).2) h3
   .rename_i nl T1 T0 n sz len el iN;exact absurd (by simp only[PV.tH,iN]) kg
   .cases h
  |iB id k=>
   obtain⟨_,rfl⟩:=hv;simp only[PV.ext]at h;split at h
   .rename_i nl T1 T0 n sz len el iN;split at h
    .rename_i hk;simp only[bt,bH]at h;obtain⟨rfl,_⟩:=h;exact r.Tj iN (by simpa[eV]using hk)
    .cases h
   .cases h
  |qh f cap=>
   simp only[PV.ext]at h;split at h
   .rename_i xs js h1;simp only[bt,bH]at h;obtain⟨rfl,_⟩:=h;obtain⟨vs,rfl,k2,k3⟩:=hv;have:=Rc r h1 k2 k3;exact .fn f xs vs this.len this.ko
   .cases h
  |e x=>exact absurd rfl kg
  |box id off=>exact absurd rfl kg
  |ny id sz i j=>exact absurd rfl kg
  |qo id sz k i j=>exact absurd rfl kg
def Pf(r:jb w0 B σ a w L){l:List Operand}{es:List E}{is:List Nat}(h:sG σ l=some (es,is)):jZ (λ_=>False) (λ_=>False) w es (l.map a.eval):=by
 induction l generalizing es is with
 |nil=>simp only[sG,bt,bH]at h;obtain⟨rfl,_⟩:=h;exact .nil _ _ _
 |cons x l ih=>
  simp only[sG]at h;split at h
  .rename_i y i xs js h1 h2;simp only[bt,bH]at h;obtain⟨rfl,_⟩:=h;exact .cons (PV.Lu r h1 (r.op x)) (ih h2)
  .cases h
def Gu(r:jb w0 B σ a w L){l:List Operand}{es:List E}{is:List Nat}(h:sG σ l=some (es,is))(kg:(l.map σ.op).any (PV.tH σ)=false):jZ (bad B L) (λ_=>False) w es (l.map a.eval):=by
 induction l generalizing es is with
 |nil=>simp only[sG,bt,bH]at h;obtain⟨rfl,_⟩:=h;exact .nil _ _ _
 |cons x l ih=>
  simp only[sG]at h;split at h
  .rename_i y i xs js h1 h2;simp only[bt,bH]at h;obtain⟨rfl,_⟩:=h;simp only[ee,dJ,dQ]at kg;exact .cons (PV.D6 r h1 kg.1 (r.op x)) (ih h2 kg.2)
  .cases h
def Dz(P:Program)(K:World->Prop)(w0:lZ)(B:Nat->Prop)(σ:PS)(o:Oper)(a:Act)(w:World)(u:kq):Prop:=
 ∀ (Kc:Act->World->Prop) (Q:Exit->Act->World->Prop),(∀ v w' L',jb w0 B (σ.np u.f) a w' L'->kH (bad B L') (jg L') L' w' u.r v->Kc (a.put o.dst v) w')->o.wp P a w Kc Q
def jL.oM(h:jL P K w0 B σ o a w u):Dz P K w0 B σ o a w u:=by
 intro Kc Q hk;obtain⟨v,w',L',jX,hr,hp⟩:=h;unfold Oper.wp;rcases jX with jX|⟨jX,rfl⟩
 .rw [jX];exact hk v w' L' hr hp
 .rw [jX];exact hk _ w' L' hr hp
def QK(g:Gd P K w0 B)(r:jb w0 B σ a w L){c:Call}{f:Operand}(iq:o.op = .call c)(hf:c.callee = .value f){gf:FuncId}{xs ys:List E}{is:List Nat}{us:List Value}
 {ow:Bool} (re:a.eval f = .func (.func gf) #[] us.toArray) (MH:jZ (λ_=>False) (λ_=>False) w xs (c.args.toList.map a.eval)) (qa:ow=false->jZ (bad B L) (λ_=>False) w xs (c.args.toList.map a.eval)) (MD:jZ (λ_=>False) (λ_=>False) w ys us) (vB:ow=false->jZ (bad B L) (λ_=>False) w ys us)
 (h:zz P K O σ o.dst gf (xs++ys) is ow=some u) (ho:∀ q,q ∈ u.ju->q):Dz P K w0 B σ o a w u:=by
 intro Kc Q hk;simp only[zz]at h;split at h
 .rename_i jk uw;split at h
  .rename_i hc;cases h;have pc:PC P K gf (xs++ys) jk:=ho _ aF;have L3:=MH.app MD;have jX:(execOp a.eval o).run P w = .ok (.enter gf ((c.args.toList.map a.eval)++us).toArray) w:=by
    have e1:c.args.map a.eval=(c.args.toList.map a.eval).toArray:=by apply dc;simp
    have e2:#[]++(c.args.toList.map a.eval).toArray++us.toArray=((c.args.toList.map a.eval)++us).toArray:= aF ;simp only[execOp,iq,resolve,hf,re,Deferred.ofValue,Sem.run_bind,Sem.run_pure,Result.andThen_ok,invoke,e1,e2,pc.call]
   unfold Oper.wp;rw[jX];show Calls P gf _ w _;have hK:K w:=g.k _ r.he;by_cases A0:jk.plain 3=true
   .refine (pc.run w (λ_=>False) _ hK (λ_ h=>h.elim) L3).mono ?_;rintro e w' ⟨v,rfl,hb,hv⟩;exact hk v w' L (r.later hb) (iC.plain (w:=w') hv 3 A0)
   .have hn:σ.nl=true/\ow=false:=by simpa[A0]using hc
    refine(pc.run w (bad B L) _ hK (r.Aw g hn.1) ((qa hn.2).app (vB hn.2))).mono ?_;rintro e w' ⟨v,rfl,hb,hv⟩;exact hk v w' L (r.later hb) (iC.mX (λ_ h=>h) (λ_ _=>trivial) hv)
  .split at h
   .rename_i hc;cases h;have pc:Gm P K gf (xs++ys) jk:=ho _ aF;have jX:(execOp a.eval o).run P w = .ok (.enter gf ((c.args.toList.map a.eval)++us).toArray) w:=by
     have e1:c.args.map a.eval=(c.args.toList.map a.eval).toArray:=by apply dc;simp
     have e2:#[]++(c.args.toList.map a.eval).toArray++us.toArray=((c.args.toList.map a.eval)++us).toArray:= aF ;simp only[execOp,iq,resolve,hf,re,Deferred.ofValue,Sem.run_bind,Sem.run_pure,Result.andThen_ok,invoke,e1,e2,pc.call]
    unfold Oper.wp;rw[jX];show Calls P gf _ w _;have hK:K w:=g.k _ r.he;have hn:ow=false:=by simpa using hc
    refine(pc.run w (bad B L) _ hK (λb hb=>?_) ((qa hn).app (vB hn))).mono ?_
    .rcases hb with hb|⟨id,hb⟩
     .exact bO (g.hB b hb).1.1 r.he.size
     .exact (r.hw id b hb).2
    .rintro e w' ⟨v,rfl,hb,hv⟩;exact hk v w' L (r.later hb) (iC.mX (λ_ h=>h) (λ_ _=>trivial) hv)
   .split at h
    .rename_i jB;cases h;have pc:PC P K gf (xs++ys) jk:=ho _ aF;have tv:Kq jk:=ho _ aF;have L3:=MH.app MD;have jX:(execOp a.eval o).run P w = .ok (.enter gf ((c.args.toList.map a.eval)++us).toArray) w:=by
      have e1:c.args.map a.eval=(c.args.toList.map a.eval).toArray:=by apply dc;simp
      have e2:#[]++(c.args.toList.map a.eval).toArray++us.toArray=((c.args.toList.map a.eval)++us).toArray:= aF ;simp only[execOp,iq,resolve,hf,re,Deferred.ofValue,Sem.run_bind,Sem.run_pure,Result.andThen_ok,invoke,e1,e2,pc.call]
     unfold Oper.wp;rw[jX];show Calls P gf _ w _;have hK:K w:=g.k _ r.he;refine(pc.run w (λ_=>False) _ hK (λ_ h=>h.elim) L3).mono ?_;rintro e w' ⟨v,rfl,hb,hv⟩;have r':=r.later hb;exact hk v w' L r' (iC.mX (λ_ h=>h) (λ_ _=>trivial) (tv _ _ _ _ _ (λx hx=>.inr (r'.Aw g jB x hx).2) hv))
    .cases h
 .split at h
  .rename_i d hd;split at h
   .rename_i nl T n sz el hnw;split at h
    .rename_i hc;cases h;simp only[bF]at hc;have pc:tZ P K gf (xs++ys) nl T n sz el:=ho _ aF;have jX:(execOp a.eval o).run P w = .ok (.enter gf ((c.args.toList.map a.eval)++us).toArray) w:=by
      have e1:c.args.map a.eval=(c.args.toList.map a.eval).toArray:=by apply dc;simp
      have e2:#[]++(c.args.toList.map a.eval).toArray++us.toArray=((c.args.toList.map a.eval)++us).toArray:= aF ;simp only[execOp,iq,resolve,hf,re,Deferred.ofValue,Sem.run_bind,Sem.run_pure,Result.andThen_ok,invoke,e1,e2,pc.call]
     unfold Oper.wp;rw[jX];show Calls P gf _ w _;have hK:K w:=g.k _ r.he;have fin:∀ (v:Value) (w':World) (gg:Nat->Nat->Value),Below w.heap.size w w'->mL w' v T n sz gg nl->(∀ x,v.ownBlock=some x->w.heap.size<=x/\x<w'.heap.size) ->
      (∀ i j,i<n->j<sz->iC (λb=>bad B L b\/v.ownBlock=some b) (λ_=>True) w' (el i j) (gg i j)/\(el i j).nr 2=true)->Kc (a.put o.dst v) w':=by
      intro v w' gg hb lp rW xx;have key:∀ (σ1:PS) (L1:Lk),jb w0 B σ1 a w L1->(∀ i x,L1.own i x->L.own i x)->σ1.bo d=none->σ1.nl=σ.nl->∃ L',jb w0 B (σ1.np (.new d (.row nl T n sz el))) a w' L'/\kH (bad B L') (jg L') L' w' (.own d) v:=by
       intro σ1 L1 r1 vA kg ac9;have ac8:=r1.new d (.row nl T n sz el) (λx=>v.ownBlock=some x) v (λ_=>undef) w' kg rW hb
        ⟨gg,by rw[Lk.mz];exact lp,λx=>by rw[Lk.oP,Lk.mz],λi j hi hj=>⟨?_,(xx i j hi hj).2⟩⟩ (by simp[Bx.nl,hc.2])
       .exact ⟨_,ac8,Lk.xR,Lk.mz.symm⟩
       .refine (xx i j hi hj).1.mX (λb h=>?_) (λ_ _=>trivial);rcases h with h|⟨id,h⟩
        .exact .inl (.inl h)
        .by_cases e:id=d
         .subst e;exact .inr ((Lk.oP b).1 h)
         .exact .inl (.inr ⟨id,vA _ _ ((Lk.wY e b).1 h)⟩)
      cases iN:σ.bo d with
      |none=>
       obtain⟨L',k1,k2⟩:=key σ L r (λ_ _ h=>h) iN rfl;exact hk v w' L' (by simpa only[sc,iN]using k1) k2
      |some b=>
       obtain⟨L1,r1,vA,kg⟩:=r.La d;obtain⟨L',k1,k2⟩:=key _ L1 r1 vA kg rfl;rw[Lh]at k1;exact hk v w' L' (by simpa only[sc,iN]using k1) k2
     cases oB:ow with
     |false=>
      refine(pc.run w (bad B L) _ hK (r.Aw g hc.1) ((qa oB).app (vB oB))).mono ?_;rintro e w' ⟨v,rfl,hb,gg,lp,rW,xx⟩;exact fin v w' gg hb lp rW xx
     |true=>
      have tv:OZ n sz el:=ho _ (by simp[oB]);refine(pc.run w (λ_=>False) _ hK (λ_ h=>h.elim) (MH.app MD)).mono ?_;rintro e w' ⟨v,rfl,hb,gg,lp,rW,xx⟩;have r':=r.later hb;refine fin v w' gg hb lp rW λi j hi hj=>⟨tv i j hi hj _ _ _ _ _ (λx hx=>?_) (xx i j hi hj).1,(xx i j hi hj).2⟩
      rcases hx with hx|hx
      .exact .inr (r'.Aw g hc.1 x hx).2
      .exact .inl (.inr hx)
    .cases h
   .rename_i nl T1 T0 n sz len el hnw;split at h
    .rename_i hc;cases h;simp only[bF,de]at hc;have pc:vX P K gf (xs++ys) nl T1 T0 n sz len el:=ho _ aF;have jX:(execOp a.eval o).run P w = .ok (.enter gf ((c.args.toList.map a.eval)++us).toArray) w:=by
      have e1:c.args.map a.eval=(c.args.toList.map a.eval).toArray:=by apply dc;simp
      have e2:#[]++(c.args.toList.map a.eval).toArray++us.toArray=((c.args.toList.map a.eval)++us).toArray:= aF ;simp only[execOp,iq,resolve,hf,re,Deferred.ofValue,Sem.run_bind,Sem.run_pure,Result.andThen_ok,invoke,e1,e2,pc.call]
     unfold Oper.wp;rw[jX];show Calls P gf _ w _;have hK:K w:=g.k _ r.he;refine(pc.run w (bad B L) _ hK (r.Aw g hc.1.1) ((qa hc.2).app (vB hc.2))).mono ?_;rintro e w' ⟨Lr,rfl,hb,rW,EB⟩;have key:∀ (σ1:PS) (L1:Lk),jb w0 B σ1 a w L1->(∀ i x,L1.own i x->L.own i x)->σ1.bo d=none->σ1.nl=σ.nl->∃ L',jb w0 B (σ1.np (.new d (.il nl T1 T0 n sz len el none))) a w' L'/\kH (bad B L') (jg L') L' w' (.own d) (Lr.val 0):=by
      intro σ1 L1 r1 vA kg ac9;refine⟨_,r1.new d (.il nl T1 T0 n sz len el none) (Lr.own 0) (Lr.val 0) (Lr.iB 0) w' kg rW hb ?_ (by simp[Bx.nl,hc.1.2]),Lk.xR,Lk.mz.symm⟩;rcases EB with⟨h1,h2,h3⟩|⟨b,ofs,c,cur,f,h1,h2,h3,h4,h5,h6,h7,h8,h9,mY,mZ⟩
      .exact .inl ⟨by rw[Lk.mz];exact h1,h2,λx hx=>h3 x ((Lk.oP x).1 hx)⟩
      .refine .inr ⟨b,ofs,c,cur,f,by rw[Lk.mz];exact h1,h2,h3,h4,h5,by simp only[Lk.nm];exact h6,h7,λk hk=>?_,λx=>by rw[Lk.oP];simp only[Lk.nm];exact h9 x,by simp only[Lk.nm];exact mY,by simp only[Lk.nm];exact mZ⟩;rw[Lk.nm];obtain⟨p1,p2⟩:=h8 k hk;refine⟨p1,λi j hi hj=>⟨(p2 i j hi hj).1.mX (λb h=>?_) (λ_ _=>trivial),(p2 i j hi hj).2⟩⟩;rcases h with h|⟨id,h⟩
       .exact .inl (.inl h)
       .by_cases e:id=d
        .subst e;exact .inr ((Lk.oP b).1 h)
        .exact .inl (.inr ⟨id,vA _ _ ((Lk.wY e b).1 h)⟩)
     cases iN:σ.bo d with
     |none=>
      obtain⟨L',k1,k2⟩:=key σ L r (λ_ _ h=>h) iN rfl;exact hk _ w' L' (by simpa only[sc,iN]using k1) k2
     |some b=>
      obtain⟨L1,r1,vA,kg⟩:=r.La d;obtain⟨L',k1,k2⟩:=key _ L1 r1 vA kg rfl;rw[Lh]at k1;exact hk _ w' L' (by simpa only[sc,iN]using k1) k2
    .cases h
   .cases h
  .cases h
def aag(g:Gd P K w0 B)(r:jb w0 B σ a w L){c:Call}{f:Operand}(iq:o.op = .call c)(hf:c.callee = .value f){l':List E}{jk:E}
 (h:zA P K σ (σ.op f) c.args.toList l' jk=some u) (ho:∀ q,q ∈ u.ju->q):Dz P K w0 B σ o a w u:=by
 intro Kc Q hk;have re:=r.op f;unfold zA at h;split at h
 .rename_i gf x xs yC Sf;rw[yC]at re;obtain⟨us,e1,vB⟩:=iC.LA re;obtain rfl:us=[]:=vB.qY;have hx:=r.op x;split at h
  .rename_i id mP;rw[mP]at hx;split at h
   .rename_i T l es is iN sN;split at h
    .rename_i hc;cases h;simp only[bF,de]at hc;have pc:tY P K gf T l l' es jk:=ho _ aF;obtain⟨k1,b,k2,k3⟩:=hx;obtain⟨b',cs,h1,h2,h3,h4,h5⟩:=r.hb id _ iN;rw[k2]at h1;cases h1;have jX:(execOp a.eval o).run P w = .ok (.enter gf (.pointer (some ⟨b,0,none⟩)::(xs.map a.eval)).toArray) w:=by
      have e3:c.args.map a.eval=((c.args.toList.map a.eval)).toArray:=by apply dc;simp
      have e2:#[]++(c.args.toList.map a.eval).toArray++([]:List Value).toArray=(.pointer (some ⟨b,0,none⟩)::(xs.map a.eval)).toArray:=by rw[Sf];simp[k3]
      simp only[execOp,iq,resolve,hf,e1,Deferred.ofValue,Sem.run_bind,Sem.run_pure,Result.andThen_ok,invoke,e3,e2,pc.call]
     unfold Oper.wp;rw[jX];show Calls P gf _ w _;have oX:L.own id b:=(h2 b).2 rfl;refine(pc.run w (bad B L) b cs (xs.map a.eval) (λw2 hm=>g.k _ (r.he.trans ⟨hm.os,hm.tape,hm.output,hm.size,λx hx=>hm.nu x (bO hx.1 r.he.size) λe=>(r.hw id b oX).1 (e▸hx)⟩)) (r.Aw g hc.1.1) (.inr ⟨id,oX⟩) h3 h5 (h4.mono λ_ _=>iC.mX (λ_ h=>h) (λ_ h=>h.elim)) (Gu r sN hc.2)).mono ?_;rintro e w' ⟨v,cs',rfl,hm,Ct,vu,pz,uw⟩;have ht:ph L w id (L.own id) w':=⟨λy hy=>⟨.inl hy,bO (r.hw id y hy).2 hm.size⟩,hm.size,λy hy kg=>hm.nu y hy λe=>kg (by rw[e];exact oX),hm.os,hm.tape,hm.output⟩
     have pM:∀ x,bad B (L.set id (L.own id) (L.val id) (L.iB id)) x->bad B L x:=by
      rintro x (h|⟨i,h⟩)
      .exact .inl h
      .by_cases e:i=id
       .subst e;exact .inr ⟨i,(Lk.oP x).1 h⟩
       .exact .inr ⟨i,(Lk.wY e x).1 h⟩
     exact hk v w' _ (r.ot id _ w' k1 ht ⟨b,cs',by rw[Lk.mz];exact k2,λx=>by rw[Lk.oP];exact h2 x,Ct,pz.mono λ_ _=>iC.mX pM (λ_ _=>trivial),vu⟩ (λ_=>hc.1.2)) (iC.mX pM (λ_ _=>trivial) uw)
    .cases h
   .rename_i T b l es is iN sN;split at h
    .rename_i hc;cases h;simp only[bF,de]at hc;have pc:tY P K gf T l l' es jk:=ho _ aF;obtain⟨k1,b1,k2,k3⟩:=hx;obtain⟨cs,h1,h2,h3,h4,h5⟩:=r.hb id _ iN;rw[k2]at h1;cases h1;have jX:(execOp a.eval o).run P w = .ok (.enter gf (.pointer (some ⟨b,0,none⟩)::(xs.map a.eval)).toArray) w:=by
      have e3:c.args.map a.eval=((c.args.toList.map a.eval)).toArray:=by apply dc;simp
      have e2:#[]++(c.args.toList.map a.eval).toArray++([]:List Value).toArray=(.pointer (some ⟨b,0,none⟩)::(xs.map a.eval)).toArray:=by rw[Sf];simp[k3]
      simp only[execOp,iq,resolve,hf,e1,Deferred.ofValue,Sem.run_bind,Sem.run_pure,Result.andThen_ok,invoke,e3,e2,pc.call]
     unfold Oper.wp;rw[jX];show Calls P gf _ w _;have oX:L.own id b:=(h2 b).2 rfl;refine(pc.run w (bad B L) b cs (xs.map a.eval) (λw2 hm=>g.k _ (r.he.trans ⟨hm.os,hm.tape,hm.output,hm.size,λx hx=>hm.nu x (bO hx.1 r.he.size) λe=>(r.hw id b oX).1 (e▸hx)⟩)) (r.Aw g hc.1.1) (.inr ⟨id,oX⟩) h3 h5 (h4.mono λ_ _=>iC.mX (λ_ h=>h) (λ_ h=>h.elim)) (Gu r sN hc.2)).mono ?_;rintro e w' ⟨v,cs',rfl,hm,Ct,vu,pz,uw⟩;have ht:ph L w id (L.own id) w':=⟨λy hy=>⟨.inl hy,bO (r.hw id y hy).2 hm.size⟩,hm.size,λy hy kg=>hm.nu y hy λe=>kg (by rw[e];exact oX),hm.os,hm.tape,hm.output⟩
     have pM:∀ x,bad B (L.set id (L.own id) (L.val id) (L.iB id)) x->bad B L x:=by
      rintro x (h|⟨i,h⟩)
      .exact .inl h
      .by_cases e:i=id
       .subst e;exact .inr ⟨i,(Lk.oP x).1 h⟩
       .exact .inr ⟨i,(Lk.wY e x).1 h⟩
     exact hk v w' _ (r.ot id _ w' k1 ht ⟨cs',by rw[Lk.mz];exact k2,λx=>by rw[Lk.oP];exact h2 x,Ct,pz.mono λ_ _=>iC.mX pM (λ_ _=>trivial),vu⟩ (λ_=>hc.1.2)) (iC.mX pM (λ_ _=>trivial) uw)
    .cases h
   .cases h
  .cases h
 .cases h
def Ll(hT:lE P T)(g:Gd P K w0 B)(r:jb w0 B σ a w L)(h:jC P K T O σ o=some u)(ho:∀ q,q ∈ u.ju->q):Dz P K w0 B σ o a w u:=by
 cases iq:o.op with
 |move x=>exact(aci (P:=P) (K:=K) iq r h).oM
 |assign x=>exact(abX (P:=P) (K:=K) iq r h).oM
 |pick c x y=>exact(ack (P:=P) (K:=K) iq r h).oM
 |alloc t=>exact(abV hT iq r h).oM
 |box t x=>exact(abZ (P:=P) (K:=K) iq r h).oM
 |build t ps=>exact(ab0 hT iq r h).oM
 |buildSlice t n ps=>exact(ab1 hT (λb hb=>(g.hB b hb).1) iq r h).oM
 |load t x=>exact(aca hT iq r h ho).oM
 |store t x y=>exact(aco hT iq r h ho).oM
 |nilCheck x=>exact(acj (P:=P) (K:=K) iq r h).oM
 |binOp op t x y yt=>exact(abY hT iq r h ho).oM
 |unOp op t x=>exact(acp (P:=P) (K:=K) iq r h ho).oM
 |convert s d x=>exact(ab2 hT iq r h).oM
 |makeFunc fn first cap=>exact(acd (P:=P) (K:=K) iq r h).oM
 |makeSlice t l c=>exact(ace hT iq r h ho).oM
 |slice t x lo hi mx=>
  cases mx with
  |none=>exact(acm hT iq r h ho).oM
  |some=>simp[jC,iq]at h
 |fieldAddr t x f=>exact(ab5 hT iq r h).oM
 |indexAddr t x i=>exact(ab7 hT iq r h ho).oM
 |index t x i=>exact(ab6 hT iq r h ho).oM
 |field t x f=>exact(ab4 hT iq r h).oM
 |lookup t x i ok=>exact(acb hT iq r h ho).oM
 |extract x i=>exact(ab3 (P:=P) (K:=K) iq r h).oM
 |call c=>
  obtain⟨callee,args,ats⟩:=c;cases callee with
  |builtin b=>
   simp only[jC,iq]at h;cases b
   case len=>
    dsimp only at h;split at h
    .rename_i x t hx ht;have ha:args = #[x]:=by apply dc;simpa using hx
     have EK:ats = #[t]:=by apply dc;simpa using ht
     split at h
     .rename_i e hd;obtain⟨rr,hr,rfl⟩:=bQ.1 h;exact(ab9 hT (by rw[ha,EK]) iq hd r hr rfl).oM
     .cases h
    .cases h
   case append=>
    dsimp only at h;split at h
    .rename_i s x t t' hx ht;have ha:args = #[s,x]:=by apply dc;simpa using hx
     have EK:ats = #[t,t']:=by apply dc;simpa using ht
     split at h
     .rename_i pZ;have pZ:=kz.1 pZ;subst pZ;split at h
      .rename_i q hq;exact(ab8 hT (by rw[ha,EK]) iq r hq h ho).oM
      split at h
      .exact (abW hT (λb hb=>(g.hB b hb).1) (by rw[ha,EK]) iq r h ho).oM
      .exact (RP hT (by rw[ha,EK]) iq r h ho).oM
     .cases h
    .cases h
   case max=>
    dsimp only at h;split at h
    .rename_i k p k' q hx;rcases args with⟨l⟩
     rcases l with _|⟨x,_|⟨y,_|⟨z,l⟩⟩⟩<;>simp at hx
     cases h;exact(acf (P:=P) (K:=K) ⟨rfl,rfl⟩ iq r hx.1 hx.2 rfl).oM
    .rename_i k p k' q k'' s hx;rcases args with⟨l⟩
     rcases l with _|⟨x,_|⟨y,_|⟨z,_|⟨z',l⟩⟩⟩⟩<;>simp at hx
     cases h;exact(acg (P:=P) (K:=K) ⟨rfl,rfl⟩ iq r hx.1 hx.2.1 hx.2.2 rfl).oM
    .cases h
   case min=>
    dsimp only at h;split at h
    .rename_i k p k' q hx;rcases args with⟨l⟩
     rcases l with _|⟨x,_|⟨y,_|⟨z,l⟩⟩⟩<;>simp at hx
     cases h;exact(ach (P:=P) (K:=K) ⟨rfl,rfl⟩ iq r hx.1 hx.2 rfl).oM
    .cases h
   all_goals cases h
  |value f=>
   simp only[jC,iq]at h;have re:=r.op f;split at h
   .exact aag g r iq rfl h ho
   split at h
   .rename_i gf cap xs is yC qa;rw[yC]at re;obtain⟨us,e1,vB⟩:=iC.LA re;exact QK g r iq rfl e1 (Pf r qa) (λkg=>Gu r qa kg) (vB.mono λ_ _=>iC.mX (λ_ h=>h.elim) (λ_ h=>h.elim)) (λ_=>vB.mono λ_ _=>iC.mX (λ_ h=>h) (λ_ h=>h.elim)) h ho
   .rename_i gf cap xs is yC qa;rw[yC]at re;obtain⟨us,e1,k2,k3⟩:=re;split at h
    .rename_i ys js Bb;exact QK g r iq rfl e1 (Pf r qa) (λkg=>Gu r qa (dQ.1 kg).1) (Rc r Bb k2 k3) (λkg=>Rb r Bb (dQ.1 kg).2 k2 k3) h ho
    .cases h
   .cases h
  |invoke _ _=>simp[jC,iq]at h
 |_=>simp[jC,iq]at h
def aa1(hT:lE P T)(g:Gd P K w0 B)(r:jb w0 B σ a w L)(h:uh P K T O σ o=some u)(ho:∀ q,q ∈ u.ju->q):Dz P K w0 B σ o a w u:=by
 unfold uh at h;split at h
 .rename_i u0 h0;split at h
  .split at h
   .rename_i p hp;cases h;have he:PV.le u0.r p:=ho _ aF;have:=Ll hT g r h0 (λq hq=>ho q (by simp[hq]));intro Kc Q hk;exact this Kc Q λv w' L' hr hv=>hk v w' L' hr (he _ _ _ _ _ hv)
   .cases h;exact Ll hT g r h0 ho
  .cases h;exact Ll hT g r h0 ho
 .cases h
end
section
variable {P:Program} {K:World->Prop} {T:List TI} {O:pS} {σ τ:PS} {o:Oper} {u:kq}
def agH{x:Operand}(h:∀ t,x = .tmp t->σ.get t=τ.get t):τ.op x=σ.op x:=by
 cases x with
 |tmp t=>exact(h t rfl).symm
 |_=>rfl
def ahj{id off m:Nat}{l:List E}{is:List Nat}{ju:List Prop}(h:σ.read (.box id off) m=some (l,is,ju)):is=[id]:=by
 simp only[PS.read]at h;split at h
 .split at h
  .simp only[bt,bH]at h;exact h.2.1.symm
  .cases h
 .split at h
  .obtain ⟨es,sN,h⟩:=bQ.1 h;simp only[bH]at h;exact h.2.1.symm
  .cases h
 .split at h
  .simp only[bt,bH]at h;exact h.2.1.symm
  .cases h
 .cases h
def aeW{ti:TI}{l:List E}{is:List Nat}{ju:List Prop}(h:Aa ti (some (l,is,ju))=some u):u.rb=is:=by
 simp only[Aa]at h;split at h
 .cases h;rfl
 .split at h
  .cases h;rfl
  .cases h
def aaU{ti:TI}{bi bq:Option Bx}{id off q:Nat}(h:Cg ti bi bq id off q=some u):u.rb=[id,q]:=by
 unfold Cg at h;split at h
 .rename_i hM;cases h;unfold He at hM;split at hM
  .split at hM
   .cases hM;rfl
   .cases hM
  .cases hM
 .unfold Hd at h;split at h
  .split at h
   .cases h;rfl
   .cases h
  .cases h
def ahk{p:PV}{m:Nat}{l:List E}{is:List Nat}{ju:List Prop}(h:σ.read p m=some (l,is,ju))(hb:∀ id,id ∈ is->σ.bo id=τ.bo id):τ.read p m=some (l,is,ju):=by
 cases p with
 |box id off=>
  have h0:=h;simp only[PS.read]at h;split at h
  .split at h
   .simp only[bt,bH]at h;obtain⟨_,rfl,_⟩:=h;simp only[PS.read,<-hb id aF];exact h0
   .cases h
  .split at h
   .obtain ⟨es,sN,h⟩:=bQ.1 h;simp only[bH]at h;obtain⟨_,rfl,_⟩:=h;simp only[PS.read,<-hb id aF];exact h0
   .cases h
  .split at h
   .simp only[bt,bH]at h;obtain⟨_,rfl,_⟩:=h;simp only[PS.read,<-hb id aF];exact h0
   .cases h
  .cases h
 |ny id sz i j=>
  have h0:=h;simp only[PS.read]at h;split at h
  .split at h
   .simp only[bt,bH]at h;obtain⟨_,rfl,_⟩:=h;simp only[PS.read,<-hb id aF];exact h0
   .cases h
  .cases h
 |qo id sz k i j=>
  have h0:=h;simp only[PS.read]at h;split at h
  .split at h
   .simp only[bt,bH]at h;obtain⟨_,rfl,_⟩:=h;simp only[PS.read,<-hb id aF];exact h0
   .cases h
  .cases h
 |e x=>cases x<;>exact h
 |_=>exact h
def Zg{c:CV}{e:E}{is:List Nat}(h:c.ext σ=some (e,is))(hb:∀ id,id ∈ is->σ.bo id=τ.bo id):c.ext τ=some (e,is):=by
 cases c with
 |e x=>exact h
 |box id=>
  have h0:=h;simp only[CV.ext]at h;split at h
  .simp only[bt,bH]at h;obtain⟨_,rfl⟩:=h;simp only[CV.ext,<-hb id aF];exact h0
  .cases h
 |row id=>
  have h0:=h;simp only[CV.ext]at h;split at h
  .split at h
   .simp only[bt,bH]at h;obtain⟨_,rfl⟩:=h;simp only[CV.ext,<-hb id aF];exact h0
   .cases h
  .cases h
def Ra{l:List CV}{es:List E}{is:List Nat}(h:ui σ l=some (es,is))(hb:∀ id,id ∈ is->σ.bo id=τ.bo id):ui τ l=some (es,is):=by
 induction l generalizing es is with
 |nil=>exact h
 |cons c l ih=>
  simp only[ui]at h;split at h
  .rename_i x i xs js h1 h2;simp only[bt,bH]at h;obtain⟨rfl,rfl⟩:=h;simp only[ui,Zg h1 λid hi=>hb id (by simp[hi]),ih h2 λid hi=>hb id (by simp[hi])]
  .cases h
def agT{p:PV}{e:E}{is:List Nat}(h:p.ext σ=some (e,is))(hb:∀ id,id ∈ is->σ.bo id=τ.bo id):p.ext τ=some (e,is):=by
 cases p with
 |e x=>exact h
 |box id off=>
  cases off with
  |succ=>exact h
  |zero=>
   have h0:=h;simp only[PV.ext]at h;split at h
   .simp only[bt,bH]at h;obtain⟨_,rfl⟩:=h;simp only[PV.ext,<-hb id aF];exact h0
   .cases h
 |qh f cap=>
  simp only[PV.ext]at h;split at h
  .rename_i xs js h1;simp only[bt,bH]at h;obtain⟨rfl,rfl⟩:=h;simp only[PV.ext,Ra h1 hb]
  .cases h
 |own id=>
  have h0:=h;simp only[PV.ext]at h;split at h
  .simp only[bt,bH]at h;obtain⟨_,rfl⟩:=h;simp only[PV.ext,<-hb id aF];exact h0
  .simp only[bt,bH]at h;obtain⟨_,rfl⟩:=h;simp only[PV.ext,<-hb id aF];exact h0
  .cases h
 |iB id k=>
  have h0:=h;simp only[PV.ext]at h;split at h
  .split at h
   .simp only[bt,bH]at h;obtain⟨_,rfl⟩:=h;simp only[PV.ext,<-hb id aF];exact h0
   .cases h
  .cases h
 |_=>exact h
def Gt{l:List Operand}{es:List E}{is:List Nat}(h:sG σ l=some (es,is))(hg:∀ x,x ∈ l->τ.op x=σ.op x)(hb:∀ id,id ∈ is->σ.bo id=τ.bo id):sG τ l=some (es,is):=by
 induction l generalizing es is with
 |nil=>exact h
 |cons c l ih=>
  simp only[sG]at h;split at h
  .rename_i x i xs js h1 h2;simp only[bt,bH]at h;obtain⟨rfl,rfl⟩:=h;simp only[sG,hg c aF,agT h1 λid hi=>hb id (by simp[hi]),ih h2 (λx hx=>hg x (by simp[hx])) λid hi=>hb id (by simp[hi])]
  .cases h
def adB{p:PV}{e:E}{is:List Nat}(h:p.ext σ=some (e,is))(hb:∀ id,id ∈ is->σ.bo id=τ.bo id):p.tH τ=p.tH σ:=by
 cases p with
 |own id=>
  have hid:σ.bo id=τ.bo id:=by
   simp only[PV.ext]at h;split at h
   .simp only[bt,bH]at h;obtain⟨_,rfl⟩:=h;exact hb id aF 
   .simp only[bt,bH]at h;obtain⟨_,rfl⟩:=h;exact hb id aF 
   .cases h
  simp only[PV.tH,hid]
 |_=>rfl
def Gs{l:List Operand}{es:List E}{is:List Nat}(h:sG σ l=some (es,is))(hg:∀ x,x ∈ l->τ.op x=σ.op x)(hb:∀ id,id ∈ is->σ.bo id=τ.bo id):(l.map τ.op).any (PV.tH τ)=(l.map σ.op).any (PV.tH σ):=by
 induction l generalizing es is with
 |nil=>rfl
 |cons c l ih=>
  simp only[sG]at h;split at h
  .rename_i x i xs js h1 h2;simp only[bt,bH]at h;obtain⟨rfl,rfl⟩:=h;simp only[ee,dJ,hg c aF,adB h1 λid hi=>hb id (by simp[hi]),ih h2 (λx hx=>hg x (by simp[hx])) λid hi=>hb id (by simp[hi])]
  .cases h
def Rl{place:Nat->Option (Nat×Nat)}{ps:List (Nat×Operand)}(hg:∀ x,x ∈ ps.map (·.2)->τ.op x=σ.op x):∀ l,rV τ place l ps=rV σ place l ps:=by
 induction ps with
 |nil=>intro l;rfl
 |cons p ps ih=>
  intro l;obtain⟨i,x⟩:=p;simp only[rV,hg x aF,ih λx hx=>hg x (by simp only[ee,cW];exact .inr hx)]
def No{d:Option Tmp}{b:Bx}{rr:Nat->PV}{ju:List Prop}(h:yV σ d b rr ju=some u)(jB:σ.nl=τ.nl)(hn:∀ id b,u.f = .new id b->τ.bo id=none):yV τ d b rr ju=some u:=by
 obtain⟨id,rfl,kg,hc,rfl⟩:=Fo h;rw[jB]at hc;simp only[yV,hn id b rfl,hc,bC]
def Ny{d:Nat}{b:Bx}(h:σ.bo d=τ.bo d):sc τ d b=sc σ d b:=by unfold sc;rw[h]
def Nz{d:Nat}{is:List Nat}(h:σ.bo d=τ.bo d):wQ τ d is=wQ σ d is:=by unfold wQ;rw[h]
def NA{d:Nat}{b:Bx}{is:List Nat}{u:kq}(hf:u.f=sc σ d b)(hr:u.rb=wQ σ d is)(hb:∀ id,id ∈ u.rb->σ.bo id=τ.bo id)(hn:∀ id b,u.f = .new id b->τ.bo id=none):σ.bo d=τ.bo d:=by
 cases iN:σ.bo d with
 |none=>exact(hn d b (by rw[hf,sc,iN])).symm
 |some x=>rw[<-iN];exact hb d (by rw[hr,wQ,iN];simp)
def UU{d:Option Tmp}{b:Bx}{rr:Nat->PV}(h:Ad σ d b rr=some u)(hb:∀ id,id ∈ u.rb->σ.bo id=τ.bo id)(jB:σ.nl=τ.nl)(hn:∀ id b,u.f = .new id b->τ.bo id=none):Ad τ d b rr=some u:=by
 obtain⟨id,rfl,hc,rfl⟩:=IZ h;have e:σ.bo id=τ.bo id:=NA (b:=b) (is:=[]) rfl rfl hb hn;rw[jB]at hc;simp only[Ad,hc,bC,Ny e,Nz e]
def Q5{d:Option Tmp}{t:TypeId}{s x:PV}{u:kq}(h:zx T σ d t s x=some u)(hb:∀ id,id ∈ u.rb->σ.bo id=τ.bo id)(jB:σ.nl=τ.nl)(hn:∀ id b,u.f = .new id b->τ.bo id=none):zx T τ d t s x=some u:=by
 simp only[zx]at h ⊢;split at h
 .split at h
  .split at h
   .split at h
    .split at h
     .split at h
      .rename_i hc;simp only[hc,bC];split at h
       .rename_i id;split at h
        .rename_i iN;split at h
         .rename_i oz;cases h;simp only[<-hb id aF,<-jB,iN,oz,bC]
         .cases h
        .cases h
       .rename_i id k;split at h
        .rename_i iN;split at h
         .rename_i oz;cases h;simp only[<-hb id aF,iN,oz,bC]
         .cases h
        .cases h
       .exact No h jB hn
       .cases h
      .cases h
     .cases h
    .cases h
   .cases h
  .cases h
 .cases h
def aaN{d:Option Tmp}{t:TypeId}{s x:PV}{u:kq}(h:AJ T σ d t s x=some u)(hb:∀ id,id ∈ u.rb->σ.bo id=τ.bo id)(jB:σ.nl=τ.nl):AJ T τ d t s x=some u:=by
 unfold AJ at h ⊢;split at h
 .rename_i u0 h0;split at h
  .rename_i id nl T1 n sz el id' hf hr;split at h
   .rename_i hid;cases h;have:=Q5 (σ:={ σ with nl:=false }) (τ:={ τ with nl:=false }) h0 hb rfl λi b e=>by rw[hf]at e;cases e
    rw[this];simp only[hf,hr,hid,bC]
   .cases h
  .cases h
 .cases h
def aaV{d:Option Tmp}{t:TypeId}{n q:Nat}{u:kq}(h:AM T σ d t n q=some u)(hb:∀ id,id ∈ u.rb->σ.bo id=τ.bo id):AM T τ d t n q=some u:=by
 unfold AM at h ⊢;split at h
 .rename_i id;have h0:=h;split at h
  .rename_i h1 h2 h3;split at h
   .rename_i hc;cases h;simp only[<-hb id aF,<-hb q aF];exact h0
   .cases h
  .cases h
 .cases h
def aaR{d:Option Tmp}{t:TypeId}{s:PV}{q:Nat}{u:kq}(h:AK T σ d t s q=some u)(hb:∀ id,id ∈ u.rb->σ.bo id=τ.bo id):AK T τ d t s q=some u:=by
 unfold AK at h ⊢;have h0:=h;split at h
 .rename_i h1 h2;split at h
  .rename_i id;split at h
   .rename_i h3;split at h
    .rename_i hc;cases h;simp only[<-hb id aF,<-hb q aF];exact h0
    .cases h
   .cases h
  .rename_i id;split at h
   .rename_i h3;split at h
    .rename_i hc;cases h;simp only[<-hb id aF,<-hb q aF];exact h0
    .cases h
   .cases h
  .cases h
 .cases h
def agP{ps:List (Nat×Operand)}(hg:∀ x,x ∈ ps.map (·.2)->τ.op x=σ.op x):Ag τ ps=Ag σ ps:=by
 unfold Ag;split
 .rw [hg _ aF]
 .rfl
def aaS{t:TypeId}{id:Nat}{lo hi:Option PV}(h:AL T σ t id lo hi=some u)(hb:∀ id,id ∈ u.rb->σ.bo id=τ.bo id):AL T τ t id lo hi=some u:=by
 unfold AL at h ⊢;split at h
 .split at h
  .split at h
   .split at h
    .rename_i iN;split at h
     .split at h
      .rename_i hc;cases h;simp only[<-hb id aF,iN,hc,bC]
      .cases h
     .cases h
    .cases h
   .cases h
  .cases h
 .cases h
def aaP{fv:PV}{xs:List Operand}{l':List E}{jk:E}(h:zA P K σ fv xs l' jk=some u)(ha:∀ x,x ∈ xs->τ.op x=σ.op x)(hb:∀ id,id ∈ u.rb->σ.bo id=τ.bo id)(jB:σ.nl=τ.nl):zA P K τ fv xs l' jk=some u:=by
 unfold zA at h ⊢;split at h
 .rename_i g x xs;have hx:=ha x aF;rw[hx];split at h
  .rename_i id mP;split at h
   .rename_i T l es is iN sN;split at h
    .rename_i hc;cases h;have uo:∀ y,y ∈ xs->τ.op y=σ.op y:=λy hy=>ha y (by simp[hy])
     have e1:=Gt sN uo λi hi=>hb i (by simp[hi])
     have e2:=Gs sN uo λi hi=>hb i (by simp[hi])
     simp only[<-hb id aF,iN,e1,e2,<-jB,hc,bC]
    .cases h
   .rename_i T b l es is iN sN;split at h
    .rename_i hc;cases h;have uo:∀ y,y ∈ xs->τ.op y=σ.op y:=λy hy=>ha y (by simp[hy])
     have e1:=Gt sN uo λi hi=>hb i (by simp[hi])
     have e2:=Gs sN uo λi hi=>hb i (by simp[hi])
     simp only[<-hb id aF,iN,e1,e2,<-jB,hc,bC]
    .cases h
   .cases h
  .cases h
 .cases h
def aaW(h:jC P K T O σ o=some u)(hg:∀ x,x ∈ o.op.operands->τ.op x=σ.op x)(hb:∀ id,id ∈ u.rb->σ.bo id=τ.bo id)(jB:σ.nl=τ.nl)(hn:∀ id b,u.f = .new id b->τ.bo id=none):
 jC P K T O τ o=some u:=by
 cases iq:o.op with
 |move x=>rw[iq]at hg;simp only[jC,iq]at h ⊢;rw[hg x aN];exact h
 |assign x=>rw[iq]at hg;simp only[jC,iq]at h ⊢;rw[hg x aN];exact h
 |pick c x y=>rw[iq]at hg;simp only[jC,iq]at h ⊢;rw[hg c aN,hg x aN,hg y aN];exact h
 |nilCheck x=>rw[iq]at hg;simp only[jC,iq]at h ⊢;rw[hg x aN];exact h
 |binOp op t x y yt=>rw[iq]at hg;simp only[jC,iq]at h ⊢;rw[hg x aN,hg y aN];exact h
 |unOp op t x=>rw[iq]at hg;simp only[jC,iq]at h ⊢;rw[hg x aN];exact h
 |convert s d x=>rw[iq]at hg;simp only[jC,iq]at h ⊢;rw[hg x aN];exact h
 |index t x i=>rw[iq]at hg;simp only[jC,iq]at h ⊢;rw[hg x aN,hg i aN];exact h
 |extract x i=>rw[iq]at hg;simp only[jC,iq]at h ⊢;rw[hg x aN];exact h
 |fieldAddr t x f=>rw[iq]at hg;simp only[jC,iq]at h ⊢;rw[hg x aN];exact h
 |field t x f=>rw[iq]at hg;simp only[jC,iq]at h ⊢;rw[hg x aN];exact h
 |lookup t x i ok=>
  rw[iq]at hg;cases ok with
  |true=>simp[jC,iq]at h
  |false=>simp only[jC,iq]at h ⊢;rw[hg x aN,hg i aN];exact h
 |makeFunc fn first cap=>
  rw[iq]at hg;cases fn with
  |func f=>
   simp only[jC,iq]at h ⊢;have:cap.toList.map τ.op=cap.toList.map σ.op:=dx λx hx=>hg x (by simp only[Op.operands,eW];exact .inr (by simpa using hx))
   rw[this];exact h
  |_=>simp[jC,iq]at h
 |slice t x lo hi mx=>
  rw[iq]at hg;cases mx with
  |some=>simp[jC,iq]at h
  |none=>
   simp only[jC,iq]at h ⊢;have e1:lo.map τ.op=lo.map σ.op:=by cases lo with
    |none=>rfl
    |some y=>simp only[bZ];rw[hg y aN]
   have e2:hi.map τ.op=hi.map σ.op:=by cases hi with
    |none=>rfl
    |some y=>simp only[bZ];rw[hg y aN]
   rw[hg x aN,e1,e2];split at h
   .exact aaS h hb
   .exact h
 |alloc t=>
  simp only[jC,iq]at h ⊢;split at h
  .split at h
   .exact UU h hb jB hn
   .cases h
  .cases h
 |box t x=>
  rw[iq]at hg;simp only[jC,iq]at h ⊢;rw[hg x aN];split at h
  .split at h
   .exact UU h hb jB hn
   .cases h
  .cases h
 |build t ps=>
  rw[iq]at hg;simp only[jC,iq]at h ⊢;have hf:∀ place l,rV τ place l ps.toList=rV σ place l ps.toList:=λplace=>Rl λx hx=>hg x (by simpa[Op.operands]using hx)
  simp only[hf];exact h
 |buildSlice t n ps=>
  rw[iq]at hg;simp only[jC,iq]at h ⊢;have hf:∀ place l,rV τ place l ps.toList=rV σ place l ps.toList:=λplace=>Rl λx hx=>hg x (by simpa[Op.operands]using hx)
  have ho:Ag τ ps.toList=Ag σ ps.toList:=agP λx hx=>hg x (by simpa[Op.operands]using hx)
  simp only[hf,ho];split at h
  .exact aaV h hb
  split at h
  .split at h
   .split at h
    .split at h
     .split at h
      .rename_i hif;rw[bj hif];obtain⟨l,hl,h⟩:=fW.1 h;refine fW.2 ⟨l,hl,?_⟩;split at h
       .cases h
       .rename_i h1;rw[bh h1];split at h
        .rename_i h2;rw[bj h2];exact No h jB hn
        .rename_i h2;rw[bh h2];exact h
      .cases h
     .cases h
    .cases h
   .cases h
  .cases h
 |load t x=>
  rw[iq]at hg;simp only[jC,iq,G8]at h ⊢;rw[hg x aN];split at h
  .rename_i ti mN;split at h
   .rename_i id q pn;have hid:σ.bo id=τ.bo id:=by
     split at h
     .cases h
     .cases h;exact hb id aF 
    have Me:AO τ (σ.op x)=some (id,q):=by
     cases hp:σ.op x with
     |box id' off=>
      rw[hp]at pn;have h0:=pn;simp only[AO]at pn;split at pn
      .obtain ⟨q',hq,pn⟩:=bQ.1 pn;simp only[bH]at pn;obtain⟨rfl,rfl⟩:=pn;simp only[AO,<-hid];exact h0
      .cases pn
     |_=>rw[hp]at pn;cases pn
    simp only[Me];exact h
   rename_i pn;have Me:AO τ (σ.op x)=none:=by
    cases hp:σ.op x with
    |box id off=>
     have hid:id ∈ u.rb:=by
      rw[hp]at h;have h':Aa ti (σ.read (.box id off) ti.i.size)=some u:=h;cases hr:σ.read (.box id off) ti.i.size with
      |none=>rw[hr]at h';cases h'
      |some y=>
       obtain⟨l,is,ju⟩:=y;rw[hr]at h';rw[aeW h',ahj hr];simp
     rw[hp]at pn;simp only[AO,<-hb id hid];exact pn
    |_=>rfl
   simp only[Me];unfold G9 at h ⊢;split at h
   .rename_i id i n pY;have adh:BM τ (σ.op x)=some (id,i,n):=by
     have hid:σ.bo id=τ.bo id:=by
      split at h
      .cases h
      .cases h;exact hb id aF 
     cases hp:σ.op x with
     |ny id' sz i' j=>
      rw[hp]at pY;have h0:=pY;simp only[BM]at pY;split at pY
      .split at pY
       .simp only[bt,bH]at pY;obtain⟨rfl,_,_⟩:=pY;simp only[BM,<-hid];exact h0
       .cases pY
      .cases pY
     |_=>rw[hp]at pY;cases pY
    simp only[adh];exact h
   .rename_i pY;have key:∀ is,(∃ l ju,σ.read (σ.op x) ti.i.size=some (l,is,ju))->(∀ id,id ∈ is->σ.bo id=τ.bo id)->BM τ (σ.op x)=none:=by
     rintro is ⟨l,ju,hr⟩ px;cases hp:σ.op x with
     |ny id sz i j=>
      rw[hp]at hr pY;simp only[PS.read]at hr;split at hr
      .rename_i iN;split at hr
       .simp only[bt,bH]at hr;obtain⟨_,rfl,_⟩:=hr;simp only[BM,<-px id aF,iN]
       .cases hr
      .cases hr
     |_=>rfl
    cases hr:σ.read (σ.op x) ti.i.size with
    |none=>rw[hr]at h;cases h
    |some y=>
     obtain⟨l,is,ju⟩:=y;have hrb:u.rb=is:=by
      rw[hr]at h;simp only[Aa]at h;split at h
      .cases h;rfl
      .split at h
       .cases h;rfl
       .cases h
     have px:∀ id,id ∈ is->σ.bo id=τ.bo id:=λid hi=>hb id (by rw[hrb];exact hi)
     rw[key is ⟨l,ju,hr⟩ px];simp only;rw[ahk hr px];rw[hr]at h;exact h
  .cases h
 |store t x y=>
  rw[iq]at hg;simp only[jC,iq,Hc]at h ⊢;rw[hg x aN,hg y aN];split at h
  .split at h
   .rename_i id off e _ _;split at h
    .rename_i iN hm;split at h
     .rename_i hc;cases h;rw[jB]at hc;simp only[<-hb id aF,iN,hm,hc,bC]
     .cases h
    .rename_i iN hm;split at h
     .rename_i hc;cases h;simp only[<-hb id aF,iN,hm,hc,bC]
     .cases h
    .rename_i iN hm;split at h
     .rename_i hc;cases h;rw[jB]at hc;simp only[<-hb id aF,iN,hm,hc,bC]
     .cases h
    .cases h
   .rename_i id off q _ _;have e:=aaU h;rw[<-hb id (by rw[e];simp),<-hb q (by rw[e];simp)];exact h
   .rename_i id sz i j e _ _;split at h
    .rename_i iN hm;split at h
     .rename_i hc;cases h;simp only[<-hb id aF,iN,hm,hc,bC]
     .cases h
    .cases h
   .rename_i id i id' k _ _;split at h
    .rename_i iN;split at h
     .rename_i hc;cases h;simp only[<-hb id aF,iN,hc,bC]
     .cases h
    .rename_i iN;split at h
     .rename_i hc;cases h;simp only[<-hb id aF,iN,hc,bC]
     .cases h
    .rename_i iN;split at h
     .rename_i hc;cases h;simp only[<-hb id aF,iN,hc,bC]
     .cases h
    .cases h
   .rename_i id sz i j k e _ _;split at h
    .rename_i iN hm;split at h
     .rename_i hc;cases h;simp only[<-hb id aF,iN,hm,hc,bC]
     .cases h
    .cases h
   .cases h
  .cases h
 |makeSlice t l c=>
  rw[iq]at hg;simp only[jC,iq,Ha]at h ⊢;rw[hg l aN,hg c aN];split at h
  .exact No h jB hn
  .cases h
 |indexAddr t x i=>
  rw[iq]at hg;simp only[jC,iq,G7]at h ⊢;rw[hg x aN,hg i aN];split at h
  .split at h
   .split at h
    .split at h
     .split at h
      .exact h
      .exact h
      .rename_i id _;split at h
       .rename_i iN;split at h
        .rename_i hc;cases h;simp only[<-hb id aF,iN,hc,bC]
        .cases h
       .rename_i iN;split at h
        .rename_i hc;cases h;simp only[<-hb id aF,iN,hc,bC]
        .cases h
       .rename_i iN;split at h
        .rename_i hc;cases h;simp only[<-hb id aF,iN,hc,bC]
        .cases h
       .cases h
      .rename_i id _ _;split at h
       .rename_i iN;split at h
        .rename_i hc;cases h;simp only[<-hb id aF,iN,hc,bC]
        .cases h
       .cases h
      .cases h
     .cases h
    .exact h
    .cases h
   .cases h
  .cases h
 |call c=>
  rw[iq]at hg;obtain⟨callee,args,ats⟩:=c;have ha:∀ x,x ∈ args.toList->τ.op x=σ.op x:=λx hx=>hg x (by simp only[Op.operands,Call.operands,eW];exact .inr (by simpa using hx))
  have SD:args.toList.map τ.op=args.toList.map σ.op:=dx ha;cases callee with
  |builtin b=>
   simp only[jC,iq]at h ⊢;cases b
   case len=>
    dsimp only at h ⊢;split at h
    .rename_i x t hx ht;split at h
     .obtain ⟨rr,hr,rfl⟩:=bQ.1 h;rw[ha x (by rw[hx];simp)];have:si (σ.op x) τ=some rr:=by
       cases hp:σ.op x with
       |own id=>
        rw[hp]at hr;have h0:=hr;simp only[si]at hr;split at hr
        .simp only[bt]at hr;subst hr;simp only[si,<-hb id aF];exact h0
        .simp only[bt]at hr;subst hr;simp only[si,<-hb id aF];exact h0
        .cases hr
       |iB id k=>
        rw[hp]at hr;have h0:=hr;simp only[si]at hr;split at hr
        .split at hr
         .simp only[bt]at hr;subst hr;simp only[si,<-hb id aF];exact h0
         .cases hr
        .cases hr
       |e y=>
        rw[hp]at hr;cases y with
        |v z=>cases z<;>exact hr
        |_=>exact hr
       |_=>rw[hp]at hr;exact hr
      rw[this];rfl
     .cases h
    .cases h
   case append=>
    dsimp only at h ⊢;split at h
    .rename_i s x t t' hx ht;split at h
     .rename_i pZ;simp only[pZ,bC];rw[ha x (by rw[hx];simp),ha s (by rw[hx];simp)];have pW:Gv O o.dst=Gv O o.dst:=rfl;split at h
      .exact aaR h hb
      split at h
      .rename_i LZ;simp only[LZ,bC];exact aaN h hb jB
      .rename_i LZ;simp only[LZ,bB,bV];exact Q5 h hb jB hn
     .cases h
    .cases h
   case max=>dsimp only at h ⊢;rw[SD];exact h
   case min=>dsimp only at h ⊢;rw[SD];exact h
   all_goals cases h
  |value f=>
   have hf:τ.op f=σ.op f:=hg f (by simp[Op.operands,Call.operands]);simp only[jC,iq]at h ⊢;rw[hf];have ec:∀ {gf:FuncId} {zs:List E} {is:List Nat} {ow:Bool},zz P K O σ o.dst gf zs is ow=some u->(∀ id,id ∈ is->id ∈ u.rb)/\zz P K O τ o.dst gf zs is ow=some u:=by
    intro gf zs is ow hh;simp only[zz]at hh ⊢;rw[jB]at hh;split at hh
    .rename_i jk uw;refine⟨?_,hh⟩;split at hh
     .cases hh;exact λ_ h=>h
     .split at hh
      .cases hh;exact λ_ h=>h
      .split at hh
       .cases hh;exact λ_ h=>h
       .cases hh
    .split at hh
     .rename_i d hd;split at hh
      .rename_i nl T n sz el h1;split at hh
       .rename_i hc;cases hh;have e:=NA (σ:=σ) (τ:=τ) (b:=.row nl T n sz el) (is:=is) rfl rfl hb hn;refine⟨λid hid=>?_,?_⟩
        .unfold wQ;split
         .exact hid
         .simp [hid]
        .simp only[hc,bC,Ny e,Nz e]
       .cases hh
      .rename_i nl T1 T0 n sz len el h1;split at hh
       .rename_i hc;cases hh;have e:=NA (σ:=σ) (τ:=τ) (b:=.il nl T1 T0 n sz len el none) (is:=is) rfl rfl hb hn;refine⟨λid hid=>?_,?_⟩
        .unfold wQ;split
         .exact hid
         .simp [hid]
        .simp only[hc,bC,Ny e,Nz e]
       .cases hh
      .cases hh
     .cases hh
   split at h
   .exact aaP h ha hb jB
   split at h
   .rename_i gf cap xs is yC qa;obtain⟨e1,e2⟩:=ec h;rw[Gs qa ha λid hi=>hb id (e1 id hi),Gt qa ha λid hi=>hb id (e1 id hi),yC];exact e2
   .rename_i gf cap xs is yC qa;split at h
    .rename_i ys js Bb;obtain⟨e1,e2⟩:=ec h;rw[Gs qa ha λid hi=>hb id (e1 id (by simp[hi])),Gt qa ha λid hi=>hb id (e1 id (by simp[hi])),yC];simp only;rw[Ra Bb λid hi=>hb id (e1 id (by simp[hi]))];exact e2
    .cases h
   .cases h
  |invoke _ _=>simp[jC,iq]at h
 |_=>simp[jC,iq]at h
end
def afw{l:List Operand}{t:Tmp}(h:Operand.tmp t ∈ l):t ∈ Dp l:=by
 induction l with
 |nil=>simp at h
 |cons x l ih=>
  rcases cW.1 h with h|h
  .subst h;simp[Dp]
  .have:=ih h;cases x<;>simp[Dp,this]
def acD{l:List Nat}{n:Nat}:L6 l n=true↔n ∈ l:=by
 unfold L6;rw[dT];constructor
 .rintro ⟨x,hx,hb⟩;have:=kz.1 hb;subst this;exact hx
 .intro h;exact⟨n,h,ck n⟩
def CZ{l:List Nat}{d:Option Nat}(h:wR l d=true){x:Nat}(hx:d=some x):x ∉ l:=by
 subst hx;simp only[wR,de]at h;intro hm;rw[acD.2 hm]at h;cases h
def Dq{a b:Option Nat}(h:Kb a b=true){x y:Nat}(hx:a=some x)(hy:b=some y):x≠y:=by
 subst hx hy;simp only[Kb,de]at h;intro e;rw[kz.2 e]at h;cases h
def Dv{f:lQ}(hf:f.wI=false)(p:PV):p.kN f=if yR f p then p else .e .any:=by
 cases f<;>first|(cases hf;done)|skip
 all_goals (cases p<;>simp only[PV.kN,yR,bC])
 all_goals (split<;>rename_i h<;>simp[h])
def M1{f:lQ}(hf:f.wI=false){p:PV}(h:yR f p=true):p.kN f=p:=by rw[Dv hf,bj h]
def aem(f:lQ):yR f (.e .any)=true:=by cases f<;>rfl
def ajK(p:PV){f g:lQ}(hf:f.wI=false)(hg:g.wI=false):(p.kN f).kN g=(p.kN g).kN f:=by
 rw[Dv hf p,Dv hg p];cases h1:yR f p<;>cases h2:yR g p<;>simp only[bC,bV,bB,Dv hf,Dv hg,aem,h1,h2]
structure rP(σ τ:PS):Prop where
 n:σ.n=τ.n
 nl:σ.nl=τ.nl
 get:∀ t,σ.get t=τ.get t
 bo:∀ id,σ.bo id=τ.bo id
def rP.refl(σ:PS):rP σ σ:=⟨rfl,rfl,λ_=>rfl,λ_=>rfl⟩
def rP.symm{σ τ:PS}(h:rP σ τ):rP τ σ:=⟨h.n.symm,h.nl.symm,λt=>(h.get t).symm,λi=>(h.bo i).symm⟩
def rP.trans{σ τ υ:PS}(h:rP σ τ)(k:rP τ υ):rP σ υ:=⟨h.n.trans k.n,h.nl.trans k.nl,λt=>(h.get t).trans (k.get t),λi=>(h.bo i).trans (k.bo i)⟩
def jb.qu{w0:lZ}{B:Nat->Prop}{σ τ:PS}{a:Act}{w:World}{L:Lk}(r:jb w0 B σ a w L)(h:rP σ τ):jb w0 B τ a w L:=
 ⟨r.hd,r.hs.trans h.n,λt=>by rw[<-h.get];exact r.ht t,λid b hb=>r.hb id b (by rw[h.bo];exact hb),λid=>by rw[<-h.bo];exact r.hv id,r.hn,r.hw,r.hi,r.he,λhn id b hb=>r.hl (by rw[h.nl];exact hn) id b (by rw[h.bo];exact hb)⟩
def zq(σ:PS)(f:lQ)(id:Nat):(σ.np f).bo id=match f with
 | .none=>σ.bo id
 | .new i b | .ot i b | .ou i b | .rG i b | .vQ i b=>if i=id then some b else(σ.bo id).map (Bx.qE (PV.kN f))
 | .fin i=>if i=id then none else(σ.bo id).map (Bx.qE (PV.kN f))
 | .om i r b=>if i=id then some b else if r=id then none else(σ.bo id).map (Bx.qE (PV.kN f)):=by
 have key:=PS.zr σ f id;cases f with
 |none=>rfl
 |fin i=>
  show look ((σ.pre (.fin i)).filter λx=>!Nat.beq x.1 i) id=_;rw[Bm,key]
 |om i r b=>
  show look (s8 ((σ.pre (.om i r b)).filter λx=>!Nat.beq x.1 r) i b) id=_;rw[Bn,Bm,key]
 |_=>exact(Bn _ _ _ _).trans (by rw[key])
def ajJ{f:lQ}{p:PV}(hv:f.vc=true)(h:(p.kK.any λr=>f.yK.any λi=>Nat.beq i r)=false):p.kN f=p:=by
 cases f with
 |none=>cases hv
 |new=>cases hv
 |ot=>cases hv
 |ou i b=>exact Xr (by simpa[lQ.yK]using h)
 |rG i b=>
  have h':p.kK.any (Nat.beq i)=false:=by simpa[lQ.yK]using h
  cases p with
  |iB j k=>
   have:Nat.beq j i=false:=by
    simp only[PV.kK,dJ,ez,dP]at h';exact cJ λe=>by rw[e,ck]at h';cases h'
   simp[PV.kN,this]
  |qo j s k x y=>
   have:Nat.beq j i=false:=by
    simp only[PV.kK,dJ,ez,dP]at h';exact cJ λe=>by rw[e,ck]at h';cases h'
   simp[PV.kN,this]
  |_=>rfl
 |fin i=>
  have h':p.kK.any (Nat.beq i)=false:=by simpa[lQ.yK]using h
  cases p<;>(simp only[PV.kN];rw[h'];rfl)
 |vQ i b=>
  have h':p.kK.any (Nat.beq i)=false:=by simpa[lQ.yK]using h
  cases p<;>(simp only[PV.kN];rw[h'];rfl)
 |om i r b=>exact OQ (by simpa[lQ.yK]using h)
def ac0{f:lQ}{b:Bx}(h:b.oN f=false):b.qE (PV.kN f)=b:=by
 refine UM λp hp=>?_
 by_cases hv:f.vc=true
 .refine ajJ hv ?_;unfold Bx.oN at h;rw[hv,ej]at h;rw[cw]at h ⊢;intro r hr;exact h r (eU.2 ⟨p,hp,hr⟩)
 .exact Xt (by simpa using hv) p
def afb{α:Type}{l:List (Nat×α)}{t:Nat}{x:α}(h:look l t=some x):(t,x) ∈ l:=by
 induction l with
 |nil=>cases h
 |cons y l ih=>
  obtain⟨k,z⟩:=y;rw[rM]at h;split at h
  .rename_i e;cases h;subst e;exact .head _
  .exact .tail _ (ih h)
def yy{σ:PS}{f:lQ}:σ.oN f=false↔∀ id b,σ.bo id=some b->b.oN f=false:=by
 unfold PS.oN;by_cases hv:f.vc=true
 .rw [hv,ej];constructor
  .intro h id b hb;have:=cw.1 h (id,b) (afb hb);simpa[hb]using this
  .intro h;rw[cw];intro x hx;split
   .rename_i b hb;rw[h _ _ hb];simp
   .simp
 .have SW:f.vc=false:=by simpa using hv
  rw[SW,Bool.false_and];exact⟨λ_ id b _=>by unfold Bx.oN;rw[SW];rfl,λ_=>rfl⟩
def acZ{σ τ:PS}(h:∀ id,σ.bo id=τ.bo id)(f:lQ):τ.oN f=σ.oN f:=by
 cases h1:σ.oN f with
 |false=>exact yy.2 λid b hb=>yy.1 h1 id b (by rw[h];exact hb)
 |true=>
  cases h2:τ.oN f with
  |true=>rfl
  |false=>rw[yy.2 λid b hb=>yy.1 h2 id b (by rw[<-h];exact hb)]at h1;cases h1
def Eb(σ:PS)(d:Option Tmp)(u:kq)(t:Nat):(σ.app d u).get t=if d=some t then u.r else(σ.get t).kN u.f:=by
 unfold PS.app;cases d with
 |none=>
  rw[bh aF];exact PS.AP σ u.f t
 |some d=>
  rw[PS.LH,PS.AP];simp only[bt]
def zp(σ:PS)(d:Option Tmp)(u:kq)(id:Nat):(σ.app d u).bo id=(σ.np u.f).bo id:=PS.YO _ _ _ _
def Ft(σ:PS)(d:Option Tmp)(u:kq):(σ.app d u).n=σ.n:=by unfold PS.app;rw[PS.Nv];rfl
def Fx(σ:PS)(d:Option Tmp)(u:kq):(σ.app d u).nl=σ.nl:=by unfold PS.app;rw[PS.af9];rfl
def vj(σ:PS)(d:Option Tmp)(u:kq)(id:Nat)(hm:u.f.wI=false)(hh:σ.oN u.f=false)(h:u.f.id≠some id):(σ.app d u).bo id=σ.bo id:=by
 have e:(σ.bo id).map (Bx.qE (PV.kN u.f))=σ.bo id:=by
  cases hb:σ.bo id with
  |none=>rfl
  |some b=>simp only[bZ];rw[ac0 (yy.1 hh id b hb)]
 rw[zp,zq];cases hf:u.f<;>rw[hf]at h hm e<;>simp only[lQ.id,cO,bt]at h<;>first|rfl|exact(bh h).trans e|cases hm
def NM{σ τ:PS}{f:lQ}(h:∀ id,f.id=some id->σ.bo id=τ.bo id):τ.wT f=σ.wT f:=by
 unfold PS.wT;split
 .rename_i i hi;rw[h i hi]
 .rfl
section
variable {P:Program} {K:World->Prop} {T:List TI} {O:pS} {gX:Array Oper} {σ τ:PS} {o:Oper} {u:kq}
def aaY(h:jC P K T O σ o=some u){x:Operand}(hx:x ∈ o.op.operands):x ∈ FJ o.op:=by
 obtain⟨dst,op,ty,pos,after,guard⟩:=o;simp only at hx ⊢;cases op<;>first
  | (simp only[jC]at h;cases h;done)
  | (exfalso;simp[Op.operands]at hx;done)
  | (simpa[Op.operands,FJ]using hx)
  | (simpa[Op.operands,FJ,or_assoc]using hx)
  |skip
 case call c=>
  obtain⟨callee,args,ats⟩:=c;cases callee<;>simpa[Op.operands,FJ,Call.operands]using hx
def Np{d:Option Tmp}{b:Bx}{rr:Nat->PV}{ju:List Prop}(h:yV σ d b rr ju=some u){id:Nat}{b':Bx}(hf:u.f = .new id b'):σ.bo id=none:=by
 obtain⟨i,_,kg,_,rfl⟩:=Fo h;cases hf;exact kg
def Vm{d:Nat}{b:Bx}{id:Nat}{b':Bx}(hf:sc σ d b = .new id b'):σ.bo id=none:=by
 unfold sc at hf;split at hf
 .rename_i h;cases hf;exact h
 .cases hf
def UW{d:Option Tmp}{b:Bx}{rr:Nat->PV}(h:Ad σ d b rr=some u){id:Nat}{b':Bx}(hf:u.f = .new id b'):σ.bo id=none:=by
 obtain⟨i,_,_,rfl⟩:=IZ h;exact Vm hf
def aaT{ti:TI}{bi bq:Option Bx}{i off q:Nat}(h:Cg ti bi bq i off q=some u)(id:Nat)(b:Bx):u.f ≠ .new id b:=by
 intro hf;unfold Cg at h;split at h
 .rename_i hM;cases h;unfold He at hM;split at hM
  .split at hM
   .cases hM;cases hf
   .cases hM
  .cases hM
 .unfold Hd at h;split at h
  .split at h
   .cases h;cases hf
   .cases h
  .cases h
def aaQ{fv:PV}{xs:List Operand}{l':List E}{jk:E}(h:zA P K σ fv xs l' jk=some u):∃ id b,u.f = .ot id b:=by
 unfold zA at h;split at h
 .split at h
  .split at h
   .split at h
    .cases h;exact⟨_,_,rfl⟩
    .cases h
   .split at h
    .cases h;exact⟨_,_,rfl⟩
    .cases h
   .cases h
  .cases h
 .cases h
def aaX(h:jC P K T O σ o=some u){id:Nat}{b:Bx}(hf:u.f = .new id b):σ.bo id=none:=by
 cases iq:o.op
 case alloc=>
  simp only[jC,iq]at h;split at h
  .split at h
   .exact UW h hf
   .cases h
  .cases h
 case box=>
  simp only[jC,iq]at h;split at h
  .split at h
   .exact UW h hf
   .cases h
  .cases h
 case makeSlice=>
  simp only[jC,iq,Ha]at h;split at h
  .exact Np h hf
  .cases h
 case makeFunc fn first cap=>
  cases fn with
  |func f=>
   simp only[jC,iq]at h
   repeat' split at h
   all_goals first
    | (cases h;done)
    | (cases h;cases hf;done)
  |_=>simp[jC,iq]at h
 case lookup t x i ok=>
  cases ok with
  |true=>simp[jC,iq]at h
  |false=>
   simp only[jC,iq]at h
   repeat' split at h
   all_goals first
    | (cases h;done)
    | (cases h;cases hf;done)
 case slice t x lo hi mx=>
  cases mx with
  |none=>
   simp only[jC,iq,Hb,AL]at h
   repeat' split at h
   all_goals first
    | (cases h;done)
    | (cases h;cases hf;done)
  |some=>simp[jC,iq]at h
 case call c=>
  obtain⟨callee,args,ats⟩:=c;cases callee with
  |builtin b=>
   simp only[jC,iq]at h;cases b
   case append=>
    dsimp only at h;split at h
    .split at h
     .split at h
      .unfold AK at h
       repeat' split at h
       all_goals first
        | (cases h;done)
        | (cases h;cases hf;done)
      split at h
      .unfold AJ at h;split at h
       .split at h
        .split at h
         .cases h;cases hf
         .cases h
        .cases h
       .cases h
      .simp only[zx]at h
       repeat' split at h
       all_goals first
        | (cases h;done)
        |exact Np h hf
        | (cases h;cases hf;done)
     .cases h
    .cases h
   all_goals
    dsimp only at h
    repeat' split at h
    all_goals first
     | (cases h;done)
     | (cases h;cases hf;done)
     | (obtain⟨_,_,rfl⟩:=bQ.1 h;cases hf)
  |value f=>
   simp only[jC,iq]at h;split at h
   .obtain ⟨_,_,e⟩:=aaQ h;rw[e]at hf;cases hf
   repeat' split at h
   all_goals first
    | (cases h;done)
    | (simp only[zz]at h;repeat' split at h)
   all_goals first
    | (cases h;done)
    | (cases h;cases hf;done)
    | (cases h;cases hf;assumption)
    | (cases h;exact Vm hf)
  |invoke _ _=>simp[jC,iq]at h
 all_goals
  simp only[jC,iq,Hc,G7,Hb,G8,G9,Aa,AM]at h
  repeat' split at h
  all_goals first
   |exact absurd hf (aaT h _ _)
   | (cases h;done)
   | (cases h;cases hf;done)
   | (obtain⟨_,_,rfl⟩:=bQ.1 h;cases hf)
   |skip
 all_goals first
  | (obtain⟨_,_,h⟩:=fW.1 h;repeat' split at h)
  |skip
 all_goals first
  |exact Np h hf
  | (cases h;done)
  | (cases h;cases hf;done)
def Lp(h:uh P K T O σ o=some u):∃ u0,jC P K T O σ o=some u0/\u0.rb=u.rb/\u0.f=u.f:=by
 unfold uh at h;split at h
 .rename_i u0 h0;split at h
  .split at h
   .cases h;exact⟨u0,h0,rfl,rfl⟩
   .cases h;exact⟨_,h0,rfl,rfl⟩
  .cases h;exact⟨_,h0,rfl,rfl⟩
 .cases h
def aa0(h:uh P K T O σ o=some u)(hg:∀ x,x ∈ o.op.operands->τ.op x=σ.op x)(hb:∀ id,id ∈ u.rb->σ.bo id=τ.bo id)(jB:σ.nl=τ.nl)(hn:∀ id b,u.f = .new id b->τ.bo id=none):
 uh P K T O τ o=some u:=by
 obtain⟨u0,h0,e1,e2⟩:=Lp h;have:=aaW (τ:=τ) h0 hg (by rw[e1];exact hb) jB (by rw[e2];exact hn);unfold uh at h ⊢;rw[h0]at h;rw[this];exact h
def Ch(h:qR P K T O gX σ o=some u):vD σ o.dst=true/\u.rd=(looks gX o).map σ.get/\((zk gX σ o=some true/\∃ u0,uh P K T O σ o=some u0/\u={ u0 with rd:=(looks gX o).map σ.get,hb:=σ.oN u0.f,ob:=σ.wT u0.f })\/(zk gX σ o=some false/\u={ r:=.e (.v (.tuple #[])),rd:=(looks gX o).map σ.get })):=by
 unfold qR at h;split at h
 .rename_i hi;split at h
  .rename_i hw;split at h
   .rename_i u0 h0;cases h;exact⟨hi,rfl,.inl ⟨hw,u0,h0,rfl⟩⟩
   .cases h
  .rename_i hw;cases h;exact⟨hi,rfl,.inr ⟨hw,rfl⟩⟩
  .cases h
 .cases h
def Lm(h:qR P K T O gX σ o=some u)(hg:∀ t,t ∈ looks gX o->σ.get t=τ.get t)(hb:∀ id,id ∈ u.rb->σ.bo id=τ.bo id)(jB:σ.nl=τ.nl)(mG:σ.n=τ.n)(hn:∀ id b,u.f = .new id b->τ.bo id=none)(hh:τ.oN u.f=σ.oN u.f)(ho:τ.wT u.f=σ.wT u.f):
 qR P K T O gX τ o=some u:=by
 obtain⟨hi,_,hw⟩:=Ch h;have jP:vD τ o.dst=vD σ o.dst:=by cases o.dst<;>simp[vD,mG]
 have S0:zk gX τ o=zk gX σ o:=by
  unfold zk;cases AS:o.guard with
  |none=>rfl
  |some jw=>
   obtain⟨j,want⟩:=jw;cases hd:(gX[j]?).bind (·.dst)with
   |none=>simp[hd]
   |some t=>
    simp only[hd];rw[hg t (by unfold looks;rw[AS];simp[hd])]
 have Ez:(looks gX o).map τ.get=(looks gX o).map σ.get:=dx λt ht=>(hg t ht).symm
 unfold qR;rw[jP,hi,S0,Ez];simp only[bC];rcases hw with⟨hw,u0,h0,rfl⟩|⟨hw,rfl⟩
 .rw [hw];have iq:∀ x,x ∈ o.op.operands->τ.op x=σ.op x:=by
   intro x hx;obtain⟨u1,h1,_,_⟩:=Lp h0;have hm:=aaY h1 hx;refine agH λt ht=>hg t ?_
   subst ht;unfold looks;exact gP _ (afw hm)
  simp only[aa0 h0 iq hb jB hn];simp only at hh ho;rw[hh,ho]
 .rw [hw]
def Ln(h:qR P K T O gX σ o=some u){id:Nat}{b:Bx}(hf:u.f = .new id b):σ.bo id=none:=by
 obtain⟨_,_,⟨_,u0,h0,rfl⟩|⟨_,rfl⟩⟩:=Ch h
 .obtain ⟨u1,h1,_,e2⟩:=Lp h0;exact aaX h1 (by rw[e2];exact hf)
 .cases hf
def aaZ(h:qR P K T O gX σ o=some u)(hs:rP σ τ):qR P K T O gX τ o=some u:=
 Lm h (λt _=>hs.get t) (λid _=>hs.bo id) hs.nl hs.n (λid b hf=>by rw[<-hs.bo];exact Ln h hf) (acZ hs.bo _) (NM λid _=>hs.bo id)
def Q7(h:qR P K T O gX σ o=some u):u.hb=σ.oN u.f/\u.ob=σ.wT u.f:=by
 obtain⟨_,_,⟨_,u0,_,rfl⟩|⟨_,rfl⟩⟩:=Ch h
 .exact ⟨rfl,rfl⟩
 .exact ⟨rfl,rfl⟩
def XX(hs:rP σ τ)(d:Option Tmp)(u:kq):rP (σ.app d u) (τ.app d u):=
 ⟨by rw[Ft,Ft];exact hs.n,by rw[Fx,Fx];exact hs.nl,λt=>by rw[Eb,Eb,hs.get],λid=>by rw[zp,zp,zq,zq,hs.bo]⟩
def adp{f:lQ}(hm:f.wI=false)(r:Nat):(f.yK.any λi=>Nat.beq i r)=true↔f.id=some r:=by
 cases f<;>first|(cases hm;done)|simp[lQ.yK,lQ.id,kz]
def Sv{f:lQ}(hm:f.wI=false){b:Bx}(h:∀ r,f.id=some r->r ∉ b.kK):b.oN f=false:=by
 unfold Bx.oN;rw[Bool.and_eq_false_iff];right;rw[cw];intro r hr hi;exact h r ((adp hm r).1 hi) hr
def acY{x y:lQ}{σ:PS}{d:Option Tmp}{u:kq}(hu:u.f=x)(m1:x.wI=false)(m2:y.wI=false)(hx:σ.oN x=false)(hy:σ.oN y=false)(hc:wR x.KY y.id=true):(σ.app d u).oN y=false:=by
 subst hu;refine yy.2 λid b hb=>?_
 by_cases e:u.f.id=some id
 .refine Sv m2 λr hr hm=>?_
  have hn:=CZ hc hr;rw[zp,zq]at hb;cases hf:u.f<;>rw[hf]at e hb hn m1<;>simp only[lQ.id,bt]at e<;>first
   | (cases e;done)
   | (cases m1;done)
   | (subst e;simp only[bC,bt]at hb;subst hb;exact hn hm)
   | (subst e;simp at hb;done)
 .rw [vj _ _ _ _ m1 hx e]at hb;exact yy.1 hy id b hb
def aiX{O':pS}{x y:Oper×kq}(hi:Bd gX x y=true)(h1:qR P K T O gX σ x.1=some x.2)(h2:qR P K T O' gX (σ.app x.1.dst x.2) y.1=some y.2):
 qR P K T O' gX σ y.1=some y.2/\qR P K T O gX (σ.app y.1.dst y.2) x.1=some x.2/\rP ((σ.app x.1.dst x.2).app y.1.dst y.2) ((σ.app y.1.dst y.2).app x.1.dst x.2):=by
 simp only[Bd,bF]at hi;obtain⟨⟨⟨⟨⟨⟨⟨⟨⟨⟨⟨⟨⟨⟨⟨⟨⟨i1,i2⟩,i3⟩,i4⟩,i5⟩,i6⟩,i7⟩,i8⟩,i9⟩,i10⟩,m1⟩,m2⟩,v1⟩,v2⟩,o1⟩,o2⟩,c1⟩,c2⟩:=hi;simp only[de]at m1 m2 v1 v2;obtain⟨_,rx,_⟩:=Ch h1;obtain⟨_,ry,_⟩:=Ch h2;obtain⟨fx1,fx2⟩:=Q7 h1;obtain⟨fy1,fy2⟩:=Q7 h2;have hx:σ.oN x.2.f=false:=by rw[<-fx1];exact v1
 have qC:(σ.app x.1.dst x.2).oN y.2.f=false:=by rw[<-fy1];exact v2
 have hy:σ.oN y.2.f=false:=by
  refine yy.2 λid b hb=>?_
  by_cases e:x.2.f.id=some id
  .refine Sv m2 λr hr hm=>?_
   have:=CZ o1 hr;rw[fx2]at this;unfold PS.wT at this;rw[e]at this;simp only[hb]at this;exact this hm
  .exact yy.1 qC id b (by rw[vj _ _ _ _ m1 hx e];exact hb)
 have uA:(σ.app y.1.dst y.2).oN x.2.f=false:=acY rfl m2 m1 hy hx c2;have r1:qR P K T O' gX σ y.1=some y.2:=by
  refine Lm h2 (λt ht=>?_) (λid hid=>vj _ _ _ _ m1 hx λe=>CZ i4 e hid) (Fx _ _ _) (Ft _ _ _) (λid b hf=>?_) (by rw[hy,qC]) (NM λid e=>vj _ _ _ _ m1 hx λe'=>Dq i6 e' e rfl)
  .have hg:(σ.app x.1.dst x.2).get t=(σ.get t).kN x.2.f:=by
    rw[Eb,bh λe=>CZ i1 e ht]
   rw[hg];by_cases hv:x.2.f.vc=true
   .have sn:NF ((σ.get t).kN x.2.f)=true:=by
     have h9:y.2.rd.all NF=true:=by simpa[hv]using i9
     rw[ry]at h9;exact bG.1 h9 _ (cI.2 ⟨t,ht,hg⟩)
    rw[Dv m1]at sn ⊢;split at sn
    .rename_i hk;rw[bj hk]
    .cases sn
   .cases hf:x.2.f<;>rw[hf]at hv<;>first|exact absurd rfl hv|(cases σ.get t<;>rfl)
  .have:=Ln h2 hf;rwa[vj _ _ _ _ m1 hx λe=>Dq i6 e (by rw[hf];rfl) rfl]at this
 refine⟨r1,?_,?_⟩
 .refine Lm h1 (λt ht=>?_) (λid hid=>(vj _ _ _ _ m2 hy λe=>CZ i5 e hid).symm) (Fx _ _ _).symm (Ft _ _ _).symm (λid b hf=>?_) (by rw[hx,uA]) (NM λid e=>(vj _ _ _ _ m2 hy λe'=>Dq i6 e e' rfl).symm)
  .rw [Eb,bh λe=>CZ i3 e ht];rw[rx]at i10;exact(M1 m2 (bG.1 i10 _ (cI.2 ⟨t,ht,rfl⟩))).symm
  .rw [vj _ _ _ _ m2 hy λe=>Dq i6 (by rw[hf];rfl) e rfl];exact Ln h1 hf
 .refine ⟨by simp only[Ft],by simp only[Fx],λt=>?_,λid=>?_⟩
  .simp only[Eb];by_cases hx:x.1.dst=some t
   .have hy:¬y.1.dst=some t:=λe=>Dq i2 hx e rfl
    rw[bh hy,bj hx,bj hx,M1 m2 i8]
   .by_cases hy:y.1.dst=some t
    .rw [bj hy,bh hx,bj hy,M1 m1 i7]
    .rw [bh hy,bh hx,bh hx,bh hy,ajK _ m1 m2]
  .by_cases ex:x.2.f.id=some id
   .have ey:y.2.f.id≠some id:=λe=>Dq i6 ex e rfl
    rw[vj _ _ _ _ m2 qC ey,zp,zp,zq,zq,vj _ _ _ _ m2 hy ey]
   .rw [vj _ _ x.2 _ m1 uA ex];rw[zp,zp,zq,zq,vj _ _ _ _ m1 hx ex]
end
section
variable {P:Program} {K:World->Prop} {T:List TI} {O:pS} {gX:Array Oper}
def wa(P:Program)(K:World->Prop)(T:List TI)(gX:Array Oper):List (Oper×kq)->PS->PS->Prop
 | [],σ,τ=>rP σ τ
 |x::l,σ,τ=>(∃ O,qR P K T O gX σ x.1=some x.2)/\wa P K T gX l (σ.app x.1.dst x.2) τ
def wa.qu{l:List (Oper×kq)}{σ σ2 τ:PS}(h:wa P K T gX l σ τ)(hs:rP σ σ2):wa P K T gX l σ2 τ:=by
 induction l generalizing σ σ2 with
 |nil=>exact hs.symm.trans h
 |cons x l ih=>exact⟨h.1.imp λ_ h=>aaZ h hs,ih h.2 (XX hs _ _)⟩
def wa.abE{A C:List (Oper×kq)}{y:Oper×kq}{σ τ:PS}(h:wa P K T gX (A++y::C) σ τ)(hi:∀ x,x ∈ A->Bd gX x y=true):
 (∃ O,qR P K T O gX σ y.1=some y.2)/\wa P K T gX (A++C) (σ.app y.1.dst y.2) τ:=by
 induction A generalizing σ with
 |nil=>exact h
 |cons x A ih=>
  obtain⟨⟨O1,h1⟩,h2⟩:=h;obtain⟨⟨O2,k1⟩,k2⟩:=ih h2 λz hz=>hi z (by simp[hz])
  obtain⟨s1,s2,s3⟩:=aiX (hi x aF) h1 k1;exact⟨⟨O2,s1⟩,⟨O1,s2⟩,k2.qu s3⟩
end
section
variable {P:Program} {K:World->Prop} {T:List TI} {O:pS} {w0:lZ} {B:Nat->Prop} {σ τ:PS} {o:Oper} {a:Act} {w:World} {L:Lk} {u:kq} {gX:Array Oper}
def Xu(r:jb w0 B σ a w L){b:Bool}(h:zk gX σ o=some b):Region.wanted o (yielded gX a.tmps)=b:=by
 unfold zk at h;unfold Region.wanted;split at h
 .rename_i hg;rw[hg];simpa using h
 .rename_i j want hg;rw[hg];simp only;split at h
  .rename_i t ht;have hv:=r.ht t;have key:∀ q:Bool,σ.get t = .e (.v (.bool q))->yielded gX a.tmps j=some q:=by
    intro q hq;rw[hq]at hv;have hv:=iC.kD hv;unfold yielded;rw[ht];simp only[Option.bind_some];have iJ:a.tmps[t]? = some (.bool q):=by
     by_cases hs:t<a.tmps.size
     .simpa [hs]using hv
     .simp [hs,undef]at hv
    rw[iJ]
   split at h
   .rename_i hq;rw[key true hq];simp only[bt]at h;subst h;cases want<;>rfl
   .rename_i hq;rw[key false hq];simp only[bt]at h;subst h;cases want<;>rfl
   .rename_i q hq;rw[hq]at hv;have hv:=iC.kD hv;have hn:yielded gX a.tmps j=none:=by
     unfold yielded;rw[ht];simp only[Option.bind_some];by_cases hs:t<a.tmps.size
     .rw [show a.tmps[t]? = some (.tuple q)by simpa[hs]using hv]
     .simp [hs]
    rw[hn];simp only[bt]at h;subst h;cases want<;>rfl
   .cases h
  .cases h
def Q8(hT:lE P T)(g:Gd P K w0 B)(r:jb w0 B σ a w L)(h:qR P K T O gX σ o=some u)(ho:∀ q,q ∈ u.ju->q)(Kc:Act->World->Prop)(Q:Exit->Act->World->Prop)
 (hk:∀ a' w' L',jb w0 B (σ.app o.dst u) a' w' L'->Kc a' w'):
 (Region.wanted o (yielded gX a.tmps)=true/\o.wp P a w Kc Q)\/(Region.wanted o (yielded gX a.tmps)=false/\Kc (a.put o.dst undef) w):=by
 obtain⟨hi,_,⟨hw,u0,h0,rfl⟩|⟨hw,rfl⟩⟩:=Ch h
 .refine .inl ⟨Xu r hw,aa1 hT g r h0 ho Kc Q λv w' L' hr hp=>hk _ w' L' ?_⟩;have kI:vD (σ.np u0.f) o.dst=true:=by cases hd:o.dst<;>rw[hd]at hi<;>exact hi
  exact hr.put o.dst u0.r v kI hp
 .exact .inr ⟨Xu r hw,hk _ w L (r.put o.dst (.e (.v (.tuple #[]))) undef hi (.v _))⟩
structure Left(gX:Array Oper)(listed:Array Bool)(R:List (Nat×Oper×kq)):Prop where
 mr:∀ x,x ∈ R->gX[x.1]? = some x.2.1/\listed.getD x.1 true=false
 all:∀ i,i<gX.size->listed.getD i true=false->∃ x,x ∈ R/\x.1=i
 pw:R.Pairwise λx y=>x.1<y.1/\(Al gX 3 y.2.1 x.1||Bd gX x.2 y.2)=true
 ed:∀ x,x ∈ R->∀ e,e ∈ x.2.1.after->Region.binds .any e=true->e.on<x.1
 up:∀ x,x ∈ R->∀ j z,gX[j]? = some z->Bg z x.1=true->listed.getD j true=false
def Left.Al{listed:Array Bool}{R:List (Nat×Oper×kq)}(h:Left gX listed R){x:Nat×Oper×kq}(hx:x ∈ R):∀ (n:Nat) (j:Nat) (z:Oper),gX[j]? = some z->Pu.Al gX n z x.1=true ->
 listed.getD j true=false/\∃ e,e ∈ z.after/\Region.binds .any e=true/\listed.getD e.on true=false/\e.on<gX.size:=by
 have direct:∀ (j:Nat) (z:Oper),gX[j]? = some z->Bg z x.1=true->listed.getD j true=false/\∃ e,e ∈ z.after/\Region.binds .any e=true/\listed.getD e.on true=false/\e.on<gX.size:=by
  intro j z hz he;refine⟨h.up x hx j z hz he,?_⟩;unfold Bg at he;obtain⟨e,ml,lH⟩:=dT.1 he;simp only[bF]at lH;have sj:=h.mr x hx;refine⟨e,by simpa using ml,lH.1,?_,?_⟩
  .rw [kz.1 lH.2];exact sj.2
  .rw [kz.1 lH.2];exact(cX.1 sj.1).1
 intro n
 induction n with
 |zero=>exact direct
 |succ n ih=>
  intro j z hz hr;simp only[Pu.Al,dK]at hr;rcases hr with hr|hr
  .exact direct j z hz hr
  .obtain ⟨e,ml,lH⟩:=dT.1 hr;simp only[bF]at lH;obtain⟨lH,Mc⟩:=lH;split at Mc
   .rename_i z' S7;obtain⟨k1,_⟩:=ih e.on z' S7 Mc;have iJ:=(cX.1 S7).1;obtain⟨x',uA,CF⟩:=h.all e.on iJ k1;refine⟨h.up x' uA j z hz ?_,e,by simpa using ml,lH,k1,iJ⟩;unfold Bg;refine dT.2 ⟨e,ml,?_⟩;rw[lH,CF];simp
   .cases Mc
def Oe{md:Region.Mode}{listed:Array Bool}{i:Nat}:i ∈ Region.ready md gX listed↔i<gX.size/\listed.getD i true=false/\∃ o,gX[i]? = some o/\∀ e,e ∈ o.after->Region.binds md e=true->listed.getD e.on false=true:=by
 unfold Region.ready;rw[List.mem_filter];simp only[bJ,bF,de];constructor
 .rintro ⟨h1,h2,h3⟩;refine⟨h1,h2,gX[i],by simp[h1],λe he hb=>?_⟩;rw[Array.getElem?_eq_getElem h1]at h3;simp only[bZ,fz,akD]at h3;have:=h3 e he;simpa[hb]using this
 .rintro ⟨h1,h2,o,h3,h4⟩;refine⟨h1,h2,?_⟩;rw[h3];simp only[bZ,fz,akD];intro e he;cases hb:Region.binds md e with
  |false=>rfl
  |true=>simpa using h4 e he hb
def XR(hT:lE P T)(g:Gd P K w0 B){Q:Exit->Act->World->Prop}(hq:∀ a' w' L',jb w0 B τ a' w' L'->Q .normal a' w'):
 ∀ (fuel:Nat) (listed:Array Bool) (R:List (Nat×Oper×kq)) (σ:PS) (a:Act) (w:World) (L:Lk),R.length=fuel->listed.size=gX.size->Left gX listed R->(∀ x,x ∈ R->∀ q,q ∈ x.2.2.ju->q) ->
  wa P K T gX (R.map (·.2)) σ τ->jb w0 B σ a w L->wpAny P .any gX Q fuel listed a w:=by
 intro fuel
 induction fuel with
 |zero=>
  intro listed R σ a w L hlen Cx hleft ho Ik r;have hR:=dn hlen;subst hR;refine⟨?_,hq a w L (r.qu Ik)⟩;apply List.eq_nil_iff_forall_not_mem.2;intro i hi;obtain⟨h1,h2,_⟩:=Oe.1 hi;obtain⟨x,hx,_⟩:=hleft.all i h1 h2;simp at hx
 |succ fuel ih=>
  intro listed R σ a w L hlen Cx hleft ho Ik r;refine⟨λAX=>?_,λi hi=>?_⟩
  .
   exfalso;cases R with
   |nil=>simp at hlen
   |cons x R=>
    have hx:=hleft.mr x aF;have iJ:x.1<gX.size:=(cX.1 hx.1).1;have:x.1 ∈ Region.ready .any gX listed:=Oe.2 ⟨iJ,hx.2,x.2.1,hx.1,λe he hb=>by
     have CB:=hleft.ed x aF e he hb;cases hl:listed.getD e.on true with
     |true=>
      have:e.on<listed.size:= aA ;simp[this]at hl ⊢;exact hl
     |false=>
      exfalso;obtain⟨y,hy,CG⟩:=hleft.all e.on aA hl;rcases cW.1 hy with hy|hy
      .subst hy;omega
      .have:=(gQ.1 hleft.pw).1 y hy;omega⟩
    rw[AX]at this;simp at this
  .obtain ⟨h1,h2,o,h3,h4⟩:=Oe.1 hi;obtain⟨y,hy,hyi⟩:=hleft.all i h1 h2;subst hyi;obtain⟨A,C,rfl⟩:=List.append_of_mem hy;have Iq:=hleft.mr y hy;have acX:∀ x,x ∈ A->Bd gX x.2 y.2=true:=by
    intro x hx;have hp:=(gR.1 hleft.pw).2.2 x hx y aF;rcases Bool.or_eq_true_iff.1 hp.2 with he|he
    .exfalso;obtain⟨_,e,ml,lH,uB,iJ⟩:=hleft.Al (show x ∈ A++y::C by simp[hx]) 3 y.1 y.2.1 Iq.1 he;have oX:o=y.2.1:=by rw[Iq.1]at h3;exact(gS h3).symm
     have hl:=h4 e (by rw[oX];exact ml) lH;have qa:e.on<listed.size:=by rw[Cx];exact iJ
     simp[qa]at hl uB;rw[hl]at uB;cases uB
    .exact he
   rw[gI,ee]at Ik;obtain⟨⟨O,k1⟩,k2⟩:=Ik.abE (λx hx=>by
    obtain⟨z,hz,rfl⟩:=cI.1 hx;exact acX z hz)
   have ac2:Left gX (listed.setIfInBounds y.1 true) (A++C):=by
    have jQ:∀ x,x ∈ A++C->x.1≠y.1:=by
     intro x hx;rcases cS.1 hx with hx|hx
     .have:=((gR.1 hleft.pw).2.2 x hx y aF).1;omega
     .have:=((gQ.1 (gR.1 hleft.pw).2.1).1 x hx).1;omega
    have vA:∀ x,x ∈ A++C->x ∈ A++y::C:=λx hx=>by
     rcases cS.1 hx with hx|hx<;>simp[hx]
    refine⟨λx hx=>?_,λj hj hl=>?_,?_,λx hx=>hleft.ed x (vA x hx),λx hx j z hz he=>?_⟩
    .obtain ⟨q1,q2⟩:=hleft.mr x (vA x hx);refine⟨q1,?_⟩;have qa:x.1<listed.size:=by rw[Cx];exact(cX.1 q1).1
     simp[qa]at q2 ⊢;rw[gT _ (λe=>jQ x hx e.symm)];exact q2
    .have Ib:j<listed.size:= aA ;by_cases Cv:j=y.1
     .subst Cv;simp[Ib]at hl
     .have:listed.getD j true=false:=by
       simp[Ib]at hl ⊢;rw[gT _ (λe=>Cv e.symm)]at hl;exact hl
      obtain⟨x,hx,S1⟩:=hleft.all j hj this;refine⟨x,?_,S1⟩;rcases cS.1 hx with hx|hx
      .simp [hx]
      .rcases cW.1 hx with hx|hx
       .subst hx;exact absurd S1.symm Cv
       .simp [hx]
    .exact hleft.pw.sublist (List.Sublist.append (List.Sublist.refl A) (List.sublist_cons_self y C))
    .have q:=hleft.up x (vA x hx) j z hz he;have Ib:j<listed.size:=by rw[Cx];exact(cX.1 hz).1
     by_cases Cv:j=y.1
     .exfalso;subst Cv;rw[Iq.1]at hz h3;cases hz;cases h3;unfold Bg at he;obtain⟨e,ml,lH⟩:=dT.1 he;simp only[bF]at lH;have hl:=h4 e (by simpa using ml) lH.1;rw[kz.1 lH.2]at hl;have uB:=(hleft.mr x (vA x hx))
      have qa:x.1<listed.size:=by rw[Cx];exact(cX.1 uB.1).1
      have uB:=uB.2;simp[qa]at hl uB;rw[hl]at uB;cases uB
     .simp [Ib]at q ⊢;rw[gT _ (λe=>Cv e.symm)];exact q
   unfold wpOp;rw[Iq.1];simp only;rcases Q8 hT g r k1 (ho y aF) (wpAny P .any gX Q fuel (listed.setIfInBounds y.1 true)) Q (λa' w' L' hr=>ih _ (A++C) _ a' w' L' (by simp at hlen ⊢;omega) (by simpa using Cx) ac2 (λx hx=>ho x (by
    rcases cS.1 hx with hx|hx<;>simp[hx])) (by rw[gI];exact k2) hr)with⟨p1,p2⟩|⟨p1,p2⟩
   .rw [bj p1];exact .inl p2
   .rw [bh (by rw[p1];simp)];exact p2
def aer{us:List (Oper×kq)}(vB:us.map (·.1)=gX.toList)(hp:C4 gX 0 us=true):
 ∃ R:List (Nat×Oper×kq),R.map (·.2)=us/\R.length=gX.size/\Left gX (Array.replicate gX.size false) R:=by
 have key:∀ (us:List (Oper×kq)) (k:Nat),C4 gX k us=true->(∀ j x,us[j]? = some x->gX[k+j]? = some x.1) ->
  ∃ R:List (Nat×Oper×kq),R.map (·.2)=us/\(∀ j x,R[j]? = some x->x.1=k+j)/\(∀ x,x ∈ R->gX[x.1]? = some x.2.1)/\(R.Pairwise λx y=>x.1<y.1/\(Al gX 3 y.2.1 x.1||Bd gX x.2 y.2)=true) /\
   (∀ x,x ∈ R->∀ e,e ∈ x.2.1.after->Region.binds .any e=true->e.on<x.1):=by
  intro us
  induction us with
  |nil=>exact λk _ _=>⟨[],rfl,λj x h=>by simp at h,λx h=>by simp at h,List.Pairwise.nil,λx h=>by simp at h⟩
  |cons x us ih=>
   intro k hp sj;simp only[C4,bF]at hp;obtain⟨R,r1,r2,r3,r4,r5⟩:=ih (k+1) hp.2 (λj y hy=>by have:=sj (j+1) y (by simpa using hy);rwa[(aA:k+(j+1)=k+1+j)]at this);have tq:∀ y,y ∈ R->k<y.1/\y.2 ∈ us:=by
    intro y hy;obtain⟨j,hj⟩:=dh.1 hy;have:=r2 j y hj;exact⟨aA,by rw[<-r1];exact cI.2 ⟨y,hy,rfl⟩⟩
   refine⟨(k,x)::R,by simp[r1],λj y hy=>?_,λy hy=>?_,?_,λy hy=>?_⟩
   .cases j with
    |zero=>simp at hy;subst hy;rfl
    |succ j=>have:=r2 j y (by simpa using hy);omega
   .rcases cW.1 hy with hy|hy
    .subst hy;have:=sj 0 x rfl;simpa using this
    .exact r3 y hy
   .rw [gQ];refine⟨λy hy=>⟨(tq y hy).1,?_⟩,r4⟩;exact bG.1 hp.1.2 y.2 (tq y hy).2
   .rcases cW.1 hy with hy|hy
    .subst hy;intro e he hb;have:=bG.1 hp.1.1 e (by simpa using he);simpa[hb]using this
    .exact r5 y hy
 obtain⟨R,r1,r2,r3,r4,r5⟩:=key us 0 hp (λj x hx=>by
  rw[bX];have:=congrArg (·[j]?) vB;simp only[cD,hx,bZ]at this;simpa using this.symm)
 have hlen:R.length=gX.size:=by
  have h1:=congrArg List.length r1;have h2:=congrArg List.length vB;simp at h1 h2;omega
 refine⟨R,r1,hlen,λx hx=>⟨r3 x hx,?_⟩,λi hi _=>?_,r4,r5,λx hx j z hz _=>by have:=(cX.1 hz).1;simp[this]⟩
 .have:=(cX.1 (r3 x hx)).1;simp[this]
 .have kI:i<R.length:= aA ;exact⟨R[i],cz kI,by have:=r2 i R[i] (bw kI);omega⟩
end
def PS.le(σ τ:PS):Prop:=∀ (w0:lZ) (B:Nat->Prop) (a:Act) (w:World) (L:Lk),(∀ b,B b->w0.tf b)->jb w0 B σ a w L->∃ L',jb w0 B τ a w L'
def PS.le.refl(σ:PS):PS.le σ σ:=λ_ _ _ _ L _ r=>⟨L,r⟩
def PS.le.trans{σ τ υ:PS}(h:PS.le σ τ)(k:PS.le τ υ):PS.le σ υ:=λw0 B a w L g r=>let⟨L',r'⟩:=h w0 B a w L g r;k w0 B a w L' g r'
def PV.le.refl(p:PV):PV.le p p:=λ_ _ _ _ _ h=>h
def Bx.le(a b:Bx):Prop:=(a.nl=true->b.nl=true)/\∀ (bs br:Nat->Prop) (L:Lk) (w:World) (id:Nat),mA bs br L w id a->mA bs br L w id b
def Bx.le.refl(a:Bx):Bx.le a a:=⟨id,λ_ _ _ _ _ h=>h⟩
def w9(σ:PS):List (Nat×PV)->Prop
 | []=>True
 | (k,p)::l=>PV.le (σ.get k) p/\w9 σ l
def vW(σ:PS):List (Nat×Bx)->Prop
 | []=>True
 | (id,b)::l=>(∃ b',σ.bo id=some b'/\Bx.le b' b)/\vW σ l
def FV(τ:PS):Bool:=(τ.t.all λx=>x.2.kK.all λid=>(look τ.b id).isSome)&&(τ.b.all λx=>x.2.kK.all λid=>(look τ.b id).isSome)
def Fh{α:Type}{l:List (Nat×α)}{t:Nat}{x:α}(h:look l t=some x):(t,x) ∈ l:=by
 induction l with
 |nil=>cases h
 |cons y l ih=>
  obtain⟨k,z⟩:=y;rw[rM]at h;split at h
  .rename_i e;cases h;subst e;exact .head _
  .exact .tail _ (ih h)
def w9.get{σ:PS}{l:List (Nat×PV)}(h:w9 σ l){t:Nat}{p:PV}(k:look l t=some p):PV.le (σ.get t) p:=by
 induction l with
 |nil=>cases k
 |cons y l ih=>
  obtain⟨q,z⟩:=y;rw[rM]at k;split at k
  .rename_i e;cases k;subst e;exact h.1
  .exact ih h.2 k
def vW.get{σ:PS}{l:List (Nat×Bx)}(h:vW σ l){t:Nat}{b:Bx}(k:look l t=some b):∃ b',σ.bo t=some b'/\Bx.le b' b:=by
 induction l with
 |nil=>cases k
 |cons y l ih=>
  obtain⟨q,z⟩:=y;rw[rM]at k;split at k
  .rename_i e;cases k;subst e;exact h.1
  .exact ih h.2 k
def PS.le.nu{σ τ:PS}(hn:σ.n=τ.n)(jB:τ.nl=σ.nl)(hr:FV τ=true)(ht:w9 σ τ.t)(hb:vW σ τ.b):PS.le σ τ:=λw0 B a w L _ r=>by
 let L':Lk:=⟨λid=>L.lL id/\(τ.bo id).isSome=true,λid x=>L.own id x/\(τ.bo id).isSome=true,L.val,L.iB⟩
 have iJ:qw L w L' w:=⟨bl _,λx _ ⟨id,h,_⟩=>⟨id,h⟩,λ_ _ _=>rfl⟩
 refine⟨L',r.hd,by rw[<-hn];exact r.hs,λt=>?_,λid b h=>?_,λid=>?_,λid x h=>⟨r.hn id x h.1,h.2⟩,λid x h=>r.hw id x h.1,λid id' x h k=>r.hi id id' x h.1 k.1,r.he,λh id b k=>?_⟩
 .have hg:τ.get t=((look τ.t t)).getD (.e .any):=rfl;cases hl:look τ.t t with
  |none=>rw[hg,hl];exact .any _
  |some p=>
   rw[hg,hl];have:=ht.get hl _ _ _ _ _ (r.ht t);refine kH.move iJ this λid hid oV=>⟨⟨oV,?_⟩,rfl,λ_=>rfl⟩
   have q:=bG.1 (fY.1 hr).1 _ (Fh hl);exact bG.1 q id hid
 .obtain ⟨b',h1,h2⟩:=hb.get h;have hs:(τ.bo id).isSome=true:=by rw[h];rfl
  refine(h2.2 _ _ _ _ _ (r.hb id b' h1)).later iJ rfl (λx=>⟨λq=>q.1,λq=>⟨q,hs⟩⟩) (λ_=>rfl) (λ_ _=>rfl) λp v hp k=>kH.move iJ k λid hid oV=>⟨⟨oV,?_⟩,rfl,λ_=>rfl⟩
  have q:=bG.1 (fY.1 hr).2 _ (Fh h);exact bG.1 q id (eU.2 ⟨p,hp,hid⟩)
 .show L.lL id/\(τ.bo id).isSome=true↔(τ.bo id).isSome=true;refine⟨λh=>h.2,λh=>⟨(r.hv id).2 ?_,h⟩⟩;obtain⟨b,iN⟩:=fX.1 h;obtain⟨b',h1,_⟩:=hb.get iN;rw[h1];rfl
 .obtain ⟨b',h1,h2⟩:=hb.get k;exact h2.1 (r.hl (by rw[<-jB];exact h) id b' h1)
def DX(σ:PS):List Nat->List (Nat×Bx)
 | []=>[]
 |i::l=>match σ.bo i with
  |some b=>(i,b)::DX σ l
  |none=>DX σ l
def PS.cut(ts bs:List Nat)(σ:PS):PS:={ n:=σ.n,nl:=σ.nl,t:=ts.map λt=>(t,σ.get t),b:=DX σ bs }
def w9.cut(σ:PS):∀ ts:List Nat,w9 σ (ts.map λt=>(t,σ.get t))
 | []=>trivial
 |_::l=>⟨PV.le.refl _,w9.cut σ l⟩
def vW.cut(σ:PS):∀ bs:List Nat,vW σ (DX σ bs)
 | []=>trivial
 |i::l=>by
  unfold DX;split
  .rename_i b h;exact⟨⟨b,h,Bx.le.refl b⟩,vW.cut σ l⟩
  .exact vW.cut σ l
def PS.le.cut{σ:PS}(ts bs:List Nat)(hr:FV (σ.cut ts bs)=true):PS.le σ (σ.cut ts bs):=PS.le.nu rfl rfl hr (w9.cut σ ts) (vW.cut σ bs)
def Ex.to:Ex->Exit
 | .normal=>.normal
 | .exit id=>.exit id
 | .ret=>.ret
def Sp(P:Program)(K:World->Prop)(c:Code)(σ:PS)(Q:Ex->PS->Prop):Prop:=
 ∀ (w0:lZ) (B:Nat->Prop) (a:Act) (w:World) (L:Lk),Gd P K w0 B->jb w0 B σ a w L->c.wp P (λe a' w'=>∃ ex τ L',e=ex.to/\Q ex τ/\jb w0 B τ a' w' L') a w
def Sp.mono{P:Program}{K:World->Prop}{c:Code}{σ:PS}{Q Q':Ex->PS->Prop}(h:Sp P K c σ Q)(hq:∀ e τ,Q e τ->Q' e τ):Sp P K c σ Q':=
 λw0 B a w L g r=>Code.wp_mono (λ_ _ _ ⟨ex,τ,L',h1,h2,h3⟩=>⟨ex,τ,L',h1,hq _ _ h2,h3⟩) (h w0 B a w L g r)
abbrev Lo:=List (Nat×(Ex×PS×List Nat×List Nat))
section
variable {P:Program} {K:World->Prop} {T:List TI} {O:pS} {lo:Lo}
def Sp.loop{b:Code}{Q:Ex->PS->Prop}(J:Nat->PS->Prop)(rk:∀ n σ,J n σ->Sp P K b σ (λe τ=>(e = .normal/\∃ m,m<n/\J m τ)\/(e ≠ .normal/\Q e τ))):
 ∀ n σ,J n σ->Sp P K (.loop b) σ Q:=by
 intro n0 σ0 hJ0 w0 B a0 w1 L0 g r0 bf k cs;have key:∀ n σ a w L,J n σ->jb w0 B σ a w L ->
  ∃ e a' w',(∃ ex τ L',e=ex.to/\Q ex τ/\jb w0 B τ a' w' L')/\Arrives P (lone (bf.at a (.code b :: .inLoop b::k)) cs w) bf k cs e a' w':=by
  intro n
  induction n using Nat.strongRecOn with
  |_ n ih=>
   intro σ a w L hJ r;obtain⟨e,a₁,w₁,⟨ex,υ,L2,rfl,hq,pD⟩,sL⟩:=rk n σ hJ w0 B a w L g r bf (.inLoop b::k) cs;rcases hq with⟨rfl,m,hm,hJm⟩|⟨jQ,hq⟩
   .obtain ⟨e₂,a₂,w₂,Mx,L4⟩:=ih m hm υ a₁ w₁ L2 hJm pD;exact⟨e₂,a₂,w₂,Mx,.of_steps (Steps.trans sL (.one step_inLoop)) L4⟩
   .cases ex with
    |normal=>exact absurd rfl jQ
    |exit i=>exact⟨_,a₁,w₁,⟨.exit i,υ,L2,rfl,hq,pD⟩,.pass (x:=.inLoop b) rfl (λ_ _=>.inl (by simp[Ex.to])) sL⟩
    |ret=>exact⟨_,a₁,w₁,⟨.ret,υ,L2,rfl,hq,pD⟩,.pass (x:=.inLoop b) rfl (λ_ _=>.inl (by simp[Ex.to])) sL⟩
 obtain⟨e,a',w',hq,sL⟩:=key n0 σ0 a0 w1 L0 hJ0 r0;exact⟨e,a',w',hq,.of_steps (.one step_loop) sL⟩
def ajg{w0:lZ}{B:Nat->Prop}{σ:PS}{a:Act}{w:World}{L:Lk}(hB:∀ b,B b->w0.tf b)(r:jb w0 B σ a w L){p:PV}{e:E}(h:Gb σ p=some e){v:Value}(hv:kH (bad B L) (jg L) L w p v):
 iC B (λ_=>True) w e v:=by
 have Sg:∀ id x,L.own id x->¬B x:=λid x hx hb=>(r.hw id x hx).1 (hB x hb)
 have own:∀ (v:Value) (T:TypeId) (n sz:Nat) (f:Nat->Nat->Value) (nl:Bool) (el:Nat->Nat->E) (id:Nat),mL w v T n sz f nl->(∀ x,v.ownBlock=some x->L.own id x) ->
  (∀ i j,i<n->j<sz->iC (bad B L) (jg L) w (el i j) (f i j)/\(el i j).nr 2=true)->iC B (λ_=>True) w (.sl nl n sz el) v:=by
  intro v T n sz f nl el id h1 h2 h3;rcases h1 with⟨rfl,rfl⟩|⟨b,ofs,c,cur,rfl,hg,oW,nM,oh,ku,jB⟩
  .exact .sl nl 0 sz el none 0 f (bl _) aC (λ_=>rfl) (λi j hi=>absurd hi (bu i)) (λi j hi=>absurd hi (bu i)) (λi j hi=>absurd hi (bu i)) (λi j hi=>absurd hi (bu i))
  .have oX:=h2 b rfl;refine .sl nl n sz el _ c f oW (by unfold maxLen at nM;omega) (λh=>by cases h) (λi j hi hj=>⟨(ku i j hi hj).2,λhn=>jB hn _ (dI (ku i j hi hj).1)⟩) (λi j hi hj=>(h3 i j hi hj).2)
    (λi j hi hj=>⟨b,ofs,rfl,Sg id b oX,(r.hw id b oX).2,?_⟩) (λi j hi hj=>((h3 i j hi hj).1.mX (λ_ h=>.inl h) (λ_ h=>h)).nr 2 (h3 i j hi hj).2)
   simp only[World.cell?,hg];simpa using(ku i j hi hj).1
 cases p with
 |e x=>
  simp only[Gb]at h;split at h
  .rename_i hn;cases h;exact(iC.mX (bs':=B) (br':=jg L) (λ_ h=>.inl h) (λ_ h=>h) hv).nr 3 hn
  .cases h
 |own id=>
  obtain⟨_,rfl⟩:=hv;simp only[Gb]at h;split at h
  .rename_i nl T n sz el iN;cases h;obtain⟨f,h1,h2,h3⟩:=r.hb id _ iN;exact own _ T n sz f nl el id h1 (λx hx=>(h2 x).2 hx) h3
  .rename_i nl T1 T0 n sz len el iN;cases h;rcases r.hb id _ iN with⟨h1,h2,_⟩|jf
   .subst h2;rw[h1];exact .sl true 0 1 _ none 0 (λ_ _=>undef) (bl _) aC (λ_=>rfl) (λi j hi=>absurd hi (bu i)) (λi j hi=>absurd hi (bu i)) (λi j hi=>absurd hi (bu i)) (λi j hi=>absurd hi (bu i))
   obtain⟨b,ofs,c,cur,f,h1,h2,h3,h4,h5,h6,h7,h8,h9,mY,mZ⟩:=jf;have oX:L.own id b:=(h9 b).2 (.inl rfl);rw[h1];refine .sl true n 1 _ _ c (λk _=>L.iB id k) h3 (by unfold maxLen at h4;omega) (λh=>by cases h) (λk j hk hj=>?_) (λk j hk hj=>rfl)
    (λk j hk hj=>⟨b,ofs,rfl,Sg id b oX,(r.hw id b oX).2,?_⟩) (λk j hk hj=>own _ T0 (len k) sz (f k) nl (el k) id (h8 k hk).1 (λx hx=>(h9 x).2 (.inr ⟨k,hk,hx⟩)) (h8 k hk).2)
   .obtain ⟨_,q1,q2⟩:=(h8 k hk).1.head;exact⟨q1,λ_=>q2⟩
   .rw [cv];obtain rfl:j=0:= aA ;simp only[World.cell?,h2];simpa using h6 k hk aF 
  .cases h
 |iB id k=>
  obtain⟨_,rfl⟩:=hv;simp only[Gb]at h;split at h
  .rename_i nl T1 T0 n sz len el iN;split at h
   .rename_i hk;have hk:k<n:=by simpa[eV]using hk
    cases h;obtain⟨b,ofs,c,cur,f,h1,h2,h3,h4,h5,h6,h7,h8,h9,mY,mZ⟩:=(r.hb id _ iN).tR aA;exact own _ T0 (len k) sz (f k) nl (el k) id (h8 k hk).1 (λx hx=>(h9 x).2 (.inr ⟨k,hk,hx⟩)) (h8 k hk).2
   .cases h
  .cases h
 |_=>cases h
def wW(tmps:Array Value):ResultVar->Sem Value
 | .tmp t=>Pure.pure (tmps.getD t undef)
 | .cell q t=>do loadVar t (<-asAddr (tmps.getD q undef))
def FX(fn:Func)(tmps:Array Value):results fn tmps=(do
 let vs <-fn.results.mapM (wW tmps)
 Pure.pure (if h:vs.size=1 then vs[0]else .tuple vs)):=by
 unfold results;congr 1
def ahC{w0:lZ}{B:Nat->Prop}{σ:PS}{a:Act}{w:World}{L:Lk}(hT:lE P T)(hB:∀ b,B b->w0.tf b)(r:jb w0 B σ a w L){x:ResultVar}{e:E}(h:BI T σ x=some e):
 ∃ v,(wW a.tmps x).run P w = .ok v w/\iC B (λ_=>True) w e v:=by
 cases x with
 |tmp t=>exact⟨_,rfl,ajg hB r h (r.ht t)⟩
 |cell q t=>
  simp only[BI]at h;split at h
  .rename_i ti mN;split at h
   .rename_i l is Ez;obtain⟨b,of,vs,e1,h1,h2,h3⟩:=r.read (r.ht q) Ez (λq hq=>by simp at hq);by_cases ha:ti.isAgg=true
    .rw [bj ha]at h;split at h
     .rename_i hn;cases h;refine⟨.agg vs.toArray,?_,(iC.mX (bs':=B) (br':=jg L) (λ_ h=>.inl h) (λ_ h=>h) h1.agg).nr 3 hn⟩;simp only[wW,e1,asAddr,Sem.run_bind,Sem.run_pure,Result.andThen_ok,On hT w mN ha b of vs h2 h3]
     .cases h
    .rw [bh ha]at h;split at h
     .rename_i y;split at h
      .rename_i hn;cases h;obtain⟨z,zs,rfl,hz,_⟩:=h1.mW;refine⟨z,?_,(iC.mX (bs':=B) (br':=jg L) (λ_ h=>.inl h) (λ_ h=>h) hz).nr 3 hn⟩;simp only[wW,e1,asAddr,Sem.run_bind,Sem.run_pure,Result.andThen_ok,F3 hT w mN (by simpa using ha) b of z (by simpa using h3 0 z rfl)]
      .cases h
     .cases h
   .cases h
  .cases h
def ahz{w0:lZ}{B:Nat->Prop}{σ:PS}{a:Act}{w:World}{L:Lk}(hT:lE P T)(hB:∀ b,B b->w0.tf b)(r:jb w0 B σ a w L){l:List ResultVar}{es:List E}(h:De T σ l=some es):
 ∃ vs,(l.mapM (wW a.tmps)).run P w = .ok vs w/\jZ B (λ_=>True) w es vs:=by
 induction l generalizing es with
 |nil=>simp only[De,bt]at h;subst h;exact⟨[],rfl,.nil _ _ _⟩
 |cons x l ih=>
  simp only[De]at h;split at h
  .rename_i e es' h1 h2;cases h;obtain⟨v,q1,q2⟩:=ahC hT hB r h1;obtain⟨vs,p1,p2⟩:=ih h2;refine⟨v::vs,?_,.cons q2 p2⟩;rw[eh];simp only[Sem.run_bind,q1,Result.andThen_ok,p1,Sem.run_pure]
  .cases h
def ahB{w0:lZ}{B:Nat->Prop}{σ:PS}{a:Act}{w:World}{L:Lk}(hT:lE P T)(hB:∀ b,B b->w0.tf b)(r:jb w0 B σ a w L){fn:Func}{e:E}(h:Jz T fn σ=some e):
 ∃ v,(results fn a.tmps).run P w = .ok v w/\iC B (λ_=>True) w e v:=by
 unfold Jz at h;have main:∀ es,De T σ fn.results.toList=some es->∃ vs:List Value,(fn.results.mapM (wW a.tmps)).run P w = .ok vs.toArray w/\jZ B (λ_=>True) w es vs:=by
  intro es sN;obtain⟨vs,h1,h2⟩:=ahz hT hB r sN;refine⟨vs,?_,h2⟩;rw[fZ];simp only[Sem.run_map,h1,Result.andThen_ok]
 split at h
 .rename_i y hy;cases h;obtain⟨vs,h1,h2⟩:=main _ hy;obtain⟨v,vs',rfl,hv,AX⟩:=h2.mW;have:=AX.qY;subst this;refine⟨v,?_,hv⟩;rw[FX,Sem.run_bind,h1];simp
 .rename_i l jQ hl;cases h;obtain⟨vs,h1,h2⟩:=main _ hl;refine⟨.tuple vs.toArray,?_,h2.ik⟩;rw[FX,Sem.run_bind,h1];have hlen:¬vs.length=1:=by
   rw[h2.len];intro e1
   match l,e1 with
   | [y],_=>exact jQ y rfl
  simp[hlen]
 .cases h
def Ti(args:List E):∀ (k t:Nat),look (Bf k args) t=if k<=t then(args[t-k]?).map .e else none:=by
 induction args with
 |nil=>intro k t;simp[Bf,look]
 |cons x l ih=>
  intro k t;simp only[Bf];rw[rM,ih (k+1) t];by_cases h:k=t
  .subst h;simp
  .rw [bh h];by_cases h2:k<=t
   .rw [bj aA,bj h2,(aA:t-k=(t-(k+1))+1)];simp
   .rw [bh aA,bh h2]
def jb.init{B:Nat->Prop}{w:World}{fn:Func}{args:List E}{vs:List Value}(hr:jZ B (λ_=>False) w args vs)(hn:args.length<=fn.ntmps)(nl:Bool)(_hB:∀ b,B b->b<w.heap.size/\nC w b):
 jb ⟨w,λ_=>False⟩ B (yM fn nl args) { tmps:=vs.toArray++Array.replicate (fn.ntmps-vs.toArray.size) undef,defers:=[] } w ⟨λ_=>False,λ_ _=>False,λ_=>undef,λ_ _=>undef⟩:=by
 have hlen:=hr.len;refine⟨rfl,by simp[yM];omega,λt=>?_,λid b hb=>(by cases hb),λid=>⟨λh=>h.elim,λh=>(by cases h)⟩,λ_ _ h=>h.elim,λ_ _ h=>h.elim,λ_ _ _ h=>h.elim,sE.refl _ _,λ_ id b hb=>(by cases hb)⟩;have hg:(yM fn nl args).get t=((args[t]?).map PV.e).getD (.e .any):=by
  unfold PS.get yM;rw[Ti];simp
 rw[hg];by_cases ht:t<args.length
 .have CD:t<vs.length:= aA ;rw[bw ht];have hv:(vs.toArray++Array.replicate (fn.ntmps-vs.toArray.size) undef).getD t undef=vs[t]:=by
   simp[gU,CD]
  show iC _ _ _ _ _;rw[hv];exact(hr.ko t _ _ (bw ht) (bw CD)).mX (λb h=>h.elim id λ⟨_,h⟩=>h.elim) (λ_ ⟨_,h⟩=>h.elim)
 .rw [bR aA];exact .any _
def PC.Bu(hT:lE P T)(hm:P.follows .mixedOrders=true)(hp:∀ w w',K w->Below w.heap.size w w'->K w'){f:FuncId}{fn:Func}{c:Code}{args:List E}{jk:E}(qj:∀ (vs:Array Value) (w:World),(callFunc f vs).run P w = .ok (.enter f vs) w)
 (hf:P.funcs[f]? = some fn) (hb:fn.body=some c) (hn:args.length<=fn.ntmps) (nl:Bool)
 (h:Sp P K c (yM fn nl args) (λe τ=>(e = .ret\/e = .normal)/\∃ r,Jz T fn τ=some r/\∀ (bs br:Nat->Prop) (w:World) (v:Value),iC bs br w r v->iC bs br w jk v)):PC P K f args jk:=by
 refine⟨qj,λw B vs hK hB hr=>calls_of_wp hf hb ?_⟩;have ri:=jb.init (fn:=fn) hr hn nl hB;have hg:Gd P K ⟨w,λ_=>False⟩ B:=⟨λw' k=>hp _ _ hK k.below,λb hb=>⟨⟨(hB b hb).1,λh=>h⟩,(hB b hb).2⟩⟩
 refine Code.wp_mono ?_ (h ⟨w,λ_=>False⟩ B _ w _ hg ri);rintro e a' w' ⟨ex,τ,L',rfl,⟨he,r,uw,hle⟩,pC⟩;obtain⟨v,h1,h2⟩:=ahB hT (λb hb=>(hg.hB b hb).1) pC uw;have wD:a'.defers=[]/\∃ v,(results fn a'.tmps).run P w' = .ok v w'/\∃ v',Ending.returned v = .returned v'/\Below w.heap.size w w'/\iC B (λ_=>True) w' jk v':=⟨pC.hd,v,h1,v,rfl,pC.he.below,hle _ _ _ _ h2⟩
 rcases he with rfl|rfl
 .exact wD
 .exact wD
def tZ.Bu(hT:lE P T)(hm:P.follows .mixedOrders=true)(hp:∀ w w',K w->Below w.heap.size w w'->K w'){f:FuncId}{fn:Func}{c:Code}{args:List E}(qj:∀ (vs:Array Value) (w:World),(callFunc f vs).run P w = .ok (.enter f vs) w)
 (hf:P.funcs[f]? = some fn) (hb:fn.body=some c) (hn:args.length<=fn.ntmps) (nl:Bool) {nl':Bool} {T0:TypeId} {n sz:Nat} {el:Nat->Nat->E}
 (h:Sp P K c (yM fn nl args) (λe τ=>(e = .ret\/e = .normal)/\∃ t id b,fn.results.toList=[.tmp t]/\τ.get t = .own id/\τ.bo id=some b/\∀ (bs br:Nat->Prop) (L:Lk) (w:World),mA bs br L w id b->mA bs br L w id (.row nl' T0 n sz el))):tZ P K f args nl' T0 n sz el:=by
 refine⟨qj,λw B vs hK hB hr=>calls_of_wp hf hb ?_⟩;have ri:=jb.init (fn:=fn) hr hn nl hB;have hg:Gd P K ⟨w,λ_=>False⟩ B:=⟨λw' k=>hp _ _ hK k.below,λb hb=>⟨⟨(hB b hb).1,λh=>h⟩,(hB b hb).2⟩⟩
 refine Code.wp_mono ?_ (h ⟨w,λ_=>False⟩ B _ w _ hg ri);rintro e a' w' ⟨ex,τ,L',rfl,⟨he,t,id,b,uw,hg,iN,hle⟩,pC⟩;have ho:=pC.ht t;rw[hg]at ho;obtain⟨oV,hv⟩:=ho;obtain⟨f0,h1,h2,h3⟩:=hle _ _ _ _ (pC.hb id b iN);have jX:(results fn a'.tmps).run P w' = .ok (L'.val id) w':=by
  rw[FX,Sem.run_bind,fZ,uw,Sem.run_map,eh];simp only[wW,Sem.run_bind,Sem.run_pure,Result.andThen_ok,gV,hv];simp
 have wD:a'.defers=[]/\∃ v,(results fn a'.tmps).run P w' = .ok v w'/\∃ v',Ending.returned v = .returned v'/\Below w.heap.size w w'/\∃ g,mL w' v' T0 n sz g nl'/\(∀ x,v'.ownBlock=some x->w.heap.size<=x/\x<w'.heap.size) /\
  ∀ i j,i<n->j<sz->iC (λb=>B b\/v'.ownBlock=some b) (λ_=>True) w' (el i j) (g i j)/\(el i j).nr 2=true:=by
  refine⟨pC.hd,_,jX,_,rfl,pC.he.below,f0,h1,λx hx=>pC.SY ((h2 x).2 hx),λi j hi hj=>⟨?_,(h3 i j hi hj).2⟩⟩;refine((h3 i j hi hj).1.mX (bs':=λb=>B b\/(L'.val id).ownBlock=some b) (br':=jg L') (λb hb=>?_) (λ_ h=>h)).nr 2 (h3 i j hi hj).2;rcases hb with hb|hb
  .exact .inl hb
  .exact .inr ⟨id,(h2 b).2 hb⟩
 rcases he with rfl|rfl
 .exact wD
 .exact wD
def vX.Bu(hT:lE P T)(hm:P.follows .mixedOrders=true)(hp:∀ w w',K w->Below w.heap.size w w'->K w'){f:FuncId}{fn:Func}{c:Code}{args:List E}(qj:∀ (vs:Array Value) (w:World),(callFunc f vs).run P w = .ok (.enter f vs) w)
 (hf:P.funcs[f]? = some fn) (hb:fn.body=some c) (hn:args.length<=fn.ntmps) (nl:Bool) {nl':Bool} {T1 T0:TypeId} {n sz:Nat} {len:Nat->Nat} {el:Nat->Nat->Nat->E}
 (h:Sp P K c (yM fn nl args) (λe τ=>(e = .ret\/e = .normal)/\∃ t id b,fn.results.toList=[.tmp t]/\τ.get t = .own id/\τ.bo id=some b/\∀ (bs br:Nat->Prop) (L:Lk) (w:World),mA bs br L w id b->mA bs br L w id (.il nl' T1 T0 n sz len el none))):vX P K f args nl' T1 T0 n sz len el:=by
 refine⟨qj,λw B vs hK hB hr=>calls_of_wp hf hb ?_⟩;have ri:=jb.init (fn:=fn) hr hn nl hB;have hg:Gd P K ⟨w,λ_=>False⟩ B:=⟨λw' k=>hp _ _ hK k.below,λb hb=>⟨⟨(hB b hb).1,λh=>h⟩,(hB b hb).2⟩⟩
 refine Code.wp_mono ?_ (h ⟨w,λ_=>False⟩ B _ w _ hg ri);rintro e a' w' ⟨ex,τ,L',rfl,⟨he,t,id,b,uw,hg,iN,hle⟩,pC⟩;have ho:=pC.ht t;rw[hg]at ho;obtain⟨oV,hv⟩:=ho;have jf:=hle _ _ _ _ (pC.hb id b iN);have jX:(results fn a'.tmps).run P w' = .ok (L'.val id) w':=by
  rw[FX,Sem.run_bind,fZ,uw,Sem.run_map,eh];simp only[wW,Sem.run_bind,Sem.run_pure,Result.andThen_ok,gV,hv];simp
 have wD:a'.defers=[]/\∃ v,(results fn a'.tmps).run P w' = .ok v w'/\∃ L:Lk,Ending.returned v = .returned (L.val 0)/\Below w.heap.size w w'/\(∀ x,L.own 0 x->w.heap.size<=x/\x<w'.heap.size) /\
  ((L.val 0 = .slice none 0 0/\n=0/\∀ x,¬L.own 0 x)\/vg (λb=>B b\/L.own 0 b) (λ_=>True) L w' 0 nl' T1 T0 n sz len el none):=by
  refine⟨pC.hd,_,jX,⟨λ_=>True,λ_=>L'.own id,λ_=>L'.val id,λ_=>L'.iB id⟩,rfl,pC.he.below,λx hx=>pC.SY hx,?_⟩;rcases jf with jf|⟨b,ofs,c,cur,f,h1,h2,h3,h4,h5,h6,h7,h8,h9,mY,mZ⟩
  .exact .inl jf
  .refine .inr ⟨b,ofs,c,cur,f,h1,h2,h3,h4,h5,h6,h7,λk hk=>⟨(h8 k hk).1,λi j hi hj=>⟨?_,((h8 k hk).2 i j hi hj).2⟩⟩,h9,mY,mZ⟩;refine(((h8 k hk).2 i j hi hj).1.mX (bs':=λb=>B b\/L'.own id b) (br':=jg L') (λb hb=>?_) (λ_ h=>h)).nr 2 ((h8 k hk).2 i j hi hj).2;rcases hb with hb|hb
   .exact .inl hb
   .exact .inr ⟨id,hb⟩
 rcases he with rfl|rfl
 .exact wD
 .exact wD
def Be(fn:Func)(T:TypeId)(b:Nat)(l args:List E):PS:={ n:=fn.ntmps,nl:=true,t:=(0,.box fn.ntmps 0)::Bf 1 args,b:=[(fn.ntmps,.mS T b l)] }
def ahA{w0:lZ}{B:Nat->Prop}{σ:PS}{a:Act}{w:World}{L:Lk}(hT:lE P T)(r:jb w0 B σ a w L){q:Tmp}{t:TypeId}{e:E}(h:BI T σ (.cell q t)=some e):
 ∃ v,(wW a.tmps (.cell q t)).run P w = .ok v w/\∀ BB:Nat->Prop,(∀ x,BB x->bad B L x)->iC BB (λ_=>True) w e v:=by
 simp only[BI]at h;split at h
 .rename_i ti mN;split at h
  .rename_i l is Ez;obtain⟨b,of,vs,e1,h1,h2,h3⟩:=r.read (r.ht q) Ez (λq hq=>by simp at hq);by_cases ha:ti.isAgg=true
   .rw [bj ha]at h;split at h
    .rename_i hn;cases h;refine⟨.agg vs.toArray,?_,λBB LK=>(iC.mX (bs':=BB) (br':=jg L) LK (λ_ h=>h) h1.agg).nr 3 hn⟩;simp only[wW,e1,asAddr,Sem.run_bind,Sem.run_pure,Result.andThen_ok,On hT w mN ha b of vs h2 h3]
    .cases h
   .rw [bh ha]at h;split at h
    .rename_i y;split at h
     .rename_i hn;cases h;obtain⟨z,zs,rfl,hz,_⟩:=h1.mW;refine⟨z,?_,λBB LK=>(iC.mX (bs':=BB) (br':=jg L) LK (λ_ h=>h) hz).nr 3 hn⟩;simp only[wW,e1,asAddr,Sem.run_bind,Sem.run_pure,Result.andThen_ok,F3 hT w mN (by simpa using ha) b of z (by simpa using h3 0 z rfl)]
     .cases h
    .cases h
  .cases h
 .cases h
def tY.Bu(hT:lE P T)(hm:P.follows .mixedOrders=true){f:FuncId}{fn:Func}{c:Code}{Tv:TypeId}{l l' args:List E}{jk:E}(qj:∀ (vs:Array Value) (w:World),(callFunc f vs).run P w = .ok (.enter f vs) w)
 (hf:P.funcs[f]? = some fn) (hb:fn.body=some c) (hn:args.length+1<=fn.ntmps) (zN:l.all E.mc=true) (mF:l.all (E.nr 3)=true) (ha2:args.all (E.nr 3)=true) (hl3:l'.all (E.nr 3)=true)
 (h:∀ b,Sp P K c (Be fn Tv b l args) (λe τ=>(e = .ret\/e = .normal)/\∃ q t r,fn.results.toList=[.cell q t]/\BI T τ (.cell q t)=some r/\(∀ (bs br:Nat->Prop) (w:World) (v:Value),iC bs br w r v->iC bs br w jk v)/\∃ bx,τ.bo fn.ntmps=some bx/\∀ (bs br:Nat->Prop) (L:Lk) (w:World) (id:Nat),mA bs br L w id bx->mA bs br L w id (.mS Tv b l'))):tY P K f Tv l l' args jk:=by
 refine⟨qj,λw B b cs vs hK hB hBb Ct vu hl hr=>calls_of_wp hf hb ?_⟩
 let L0:Lk:=⟨λid=>id=fn.ntmps,λid x=>id=fn.ntmps/\x=b,λ_=>.pointer (some ⟨b,0,none⟩),λ_ _=>undef⟩
 have hg:Gd P K ⟨w,λx=>x=b⟩ (λx=>B x/\x≠b):=⟨λw' k=>hK w' ⟨k.os,k.tape,k.output,k.size,λx hx jQ=>k.block x ⟨hx,jQ⟩⟩,λx hx=>⟨⟨(hB x hx.1).1,hx.2⟩,(hB x hx.1).2⟩⟩
 have pM:∀ x,bad (λx=>B x/\x≠b) L0 x->B x:=by
  rintro x (h|⟨id,_,rfl⟩)
  .exact h.1
  .exact hBb
 have acG:∀ (L:Lk),L.own fn.ntmps b->∀ x,B x->bad (λx=>B x/\x≠b) L x:=λL hL x hx=>by
  by_cases e:x=b
  .subst e;exact .inr ⟨_,hL⟩
  .exact .inl ⟨hx,e⟩
 have hlen:=hr.len;have iJ:b<w.heap.size:=(cX.1 Ct).1;have iN:∀ id,(Be fn Tv b l args).bo id=if fn.ntmps=id then some (.mS Tv b l)else none:=λid=>by
  show look [(fn.ntmps,_)] id=_;rw[rM];rfl
 have ri:jb ⟨w,λx=>x=b⟩ (λx=>B x/\x≠b) (Be fn Tv b l args) { tmps:=(.pointer (some ⟨b,0,none⟩)::vs).toArray++Array.replicate (fn.ntmps-(.pointer (some ⟨b,0,none⟩)::vs).toArray.size) undef,defers:=[] } w L0:=by
  refine⟨rfl,by simp[Be];omega,λt=>?_,λid bx hb=>?_,λid=>?_,λid x h=>h.1,λid x h=>?_,λid id' x h k=>h.1.trans k.1.symm,sE.refl _ _,λ_ id bx hb=>?_⟩
  .have H9:(Be fn Tv b l args).get t=if 0=t then .box fn.ntmps 0 else((look (Bf 1 args) t).getD (.e .any)):=by
    unfold PS.get Be;rw[rM];split<;>rfl
   rw[H9];by_cases h0:0=t
   .subst h0;rw[bj rfl];refine⟨rfl,b,rfl,?_⟩;simp[gU]
   .rw [bh h0,Ti];rw[bj aA];by_cases ht:t-1<args.length
    .have CD:t-1<vs.length:= aA ;rw[bw ht];have hv:((.pointer (some ⟨b,0,none⟩)::vs).toArray++Array.replicate (fn.ntmps-(.pointer (some ⟨b,0,none⟩)::vs).toArray.size) undef).getD t undef=vs[t-1]:=by
      obtain⟨q,rfl⟩:∃ q,t=q+1:=⟨t-1,aA⟩
      simp at CD;simp[gU,CD]
     show iC _ _ _ _ _;rw[hv];exact((hr.ko (t-1) _ _ (bw ht) (bw CD)).mX pM (br':=λ_=>False) (λ_ h=>h)).nr 3 (bG.1 ha2 _ (cz ht))
    .rw [bR aA];exact .any _
  .rw [iN]at hb;split at hb
   .rename_i e;cases hb;subst e;exact⟨cs,rfl,λx=>⟨λh=>h.2,λh=>⟨rfl,h⟩⟩,Ct,⟨hl.len,λi e v he hv=>((hl.ko i e v he hv).mX pM (br':=λ_=>False) (λ_ h=>h)).nr 3 (bG.1 mF _ (dw he))⟩,vu⟩
   .cases hb
  .rw [iN];constructor
   .intro h;rw[bj (show fn.ntmps=id from(show id=fn.ntmps from h).symm)];rfl
   .intro h;split at h
    .rename_i e;exact e.symm
    .cases h
  .obtain ⟨_,rfl⟩:=h;exact⟨λh=>h.2 rfl,iJ⟩
  .rw [iN]at hb;split at hb
   .cases hb;exact zN
   .cases hb
 refine Code.wp_mono ?_ (h b _ _ _ w L0 hg ri);rintro e a' w' ⟨ex,τ,L',rfl,⟨he,q,t,r,uw,adb,hle,bx,qA,ac1⟩,pC⟩;obtain⟨cs',k1,k2,k3,k4,k5⟩:=ac1 _ _ _ _ _ (pC.hb _ _ qA);obtain⟨v,h1,h2⟩:=ahA hT pC adb;have Hm:=acG L' ((k2 b).2 rfl);have jX:(results fn a'.tmps).run P w' = .ok v w':=by
  rw[FX,Sem.run_bind,fZ,uw,Sem.run_map,eh];simp only[Sem.run_bind,h1,Sem.run_pure,Result.andThen_ok,gV]
  try simp
 have wD:a'.defers=[]/\∃ v,(results fn a'.tmps).run P w' = .ok v w'/\∃ v' cs',Ending.returned v = .returned v'/\Kr w b w'/\w'.heap[b]? = some (.cells (List.toArray cs') Tv (0,0))/\(∀ u,u ∈ cs'->u.oneCell'=true)/\jZ B (λ_=>True) w' l' cs'/\iC B (λ_=>True) w' jk v':=
  ⟨pC.hd,v,jX,v,cs',rfl,⟨pC.he.os,pC.he.tape,pC.he.output,pC.he.size,λx hx jQ=>pC.he.block x ⟨hx,jQ⟩⟩,k3,k5,
   ⟨k4.len,λi e v he hv=>(((k4.ko i e v he hv).mX Hm (br':=jg L') (λ_ h=>h)).nr 3 (bG.1 hl3 _ (dw he)))⟩,hle _ _ _ _ (h2 B Hm)⟩
 rcases he with rfl|rfl
 .exact wD
 .exact wD
end
def Gp(P:Program):List TI->Prop
 | []=>True
 |x::l=>(P.underlying x.id=some x.d/\P.info? x.id=some x.i)/\Gp P l
def Gp.ok{P:Program}{T:List TI}(h:Gp P T):lE P T:=by
 induction T with
 |nil=>intro x hx;simp at hx
 |cons y l ih=>
  intro x hx;rcases cW.1 hx with hx|hx
  .subst hx;exact h.1
  .exact ih h.2 x hx
def E.le(p q:E):Prop:=∀ (bs br:Nat->Prop) (w:World) (v:Value),iC bs br w p v->iC bs br w q v
def E.le.refl(p:E):E.le p p:=λ_ _ _ _ h=>h
def E.le.iD{p q:E}(h:p=q):E.le p q:=h▸E.le.refl p
def E.le.trans{p q r:E}(h:E.le p q)(k:E.le q r):E.le p r:=λ_ _ _ _ x=>k _ _ _ _ (h _ _ _ _ x)
def PV.le.e{p q:E}(h:E.le p q):ai p q:=λbs br _ w v k=>h bs br w v k
def PV.le.bool{a b:Bool}(h:a=b):ai (.v (.bool a)) (.v (.bool b)):=PV.le.e (.iD (by rw[h]))
def PV.le.int{k:IntKind}{a b:Int}(h:a=b):ai (.v (.int k a)) (.v (.int k b)):=PV.le.e (.iD (by rw[h]))
def al(a b:Int)(h:a=b):ai (.v (.int .i64 a)) (.v (.int .i64 b)):=.int h
inductive tX:List E->List E->Prop
 |nil:tX [] []
 |cons {p q:E} {l m:List E} (h:E.le p q) (k:tX l m):tX (p::l) (q::m)
def tX.refl:∀ l:List E,tX l l
 | []=>.nil
 |p::l=>.cons (.refl p) (tX.refl l)
def tX.Oh{l m:List E}(h:tX l m){bs br:Nat->Prop}{w:World}{vs:List Value}(k:jZ bs br w l vs):jZ bs br w m vs:=by
 induction h generalizing vs with
 |nil=>exact k
 |cons h _ ih=>
  obtain⟨x,ys,rfl,h1,h2⟩:=k.mW;exact .cons (h _ _ _ _ h1) (ih h2)
def E.le.agg{l m:List E}(h:tX l m):E.le (.agg l) (.agg m):=λ_ _ _ _ k=>by
 obtain⟨vs,rfl,hr⟩:=iC.DI k;exact(h.Oh hr).agg
def E.le.ik{l m:List E}(h:tX l m):E.le (.ik l) (.ik m):=λ_ _ _ _ k=>by
 obtain⟨vs,rfl,hr⟩:=iC.Xg k;exact(h.Oh hr).ik
def E.le.nil(nl:Bool)(sz:Nat)(el:Nat->Nat->E):E.le (.v (.slice none 0 0)) (.sl nl 0 sz el):=λ_ _ _ _ k=>by
 obtain rfl:=iC.kD k;exact .sl nl 0 sz el none 0 (λ_ _=>undef) (bl _) aC (λ_=>rfl) (λi j h=>absurd h (bu i)) (λi j h=>absurd h (bu i)) (λi j h=>absurd h (bu i)) (λi j h=>absurd h (bu i))
def E.le.sl{nl:Bool}{n sz:Nat}{el el':Nat->Nat->E}(h:∀ i j,i<n->j<sz->E.le (el i j) (el' i j)/\(el' i j).nr 2=true):E.le (.sl nl n sz el) (.sl nl n sz el'):=λbs br w v k=>by
 cases k with
 |sl _ _ _ _ A c f hc hm h0 hl hr cell kk=>
  exact .sl nl n sz el' A c f hc hm h0 hl (λi j hi hj=>(h i j hi hj).2) cell λi j hi hj=>(h i j hi hj).1 _ _ _ _ (kk i j hi hj)
def PC.le{P:Program}{K:World->Prop}{f:FuncId}{args args':List E}{jk res':E}(h:PC P K f args jk)(ha:tX args' args)(hr:E.le jk res'):PC P K f args' res':=
 ⟨h.call,λw B vs hK hB rj=>(h.run w B vs hK hB (ha.Oh rj)).mono λ_ _ ⟨v,h1,h2,h3⟩=>⟨v,h1,h2,hr _ _ _ _ h3⟩⟩
def PC.jk{P:Program}{K:World->Prop}{f:FuncId}{args:List E}{jk res':E}(h:PC P K f args jk)(hr:E.le jk res'):PC P K f args res':=h.le (tX.refl _) hr
end Go.Proofs.YtjkmahljfblobaaGreatDoor.Pu
namespace Go.Proofs.YtjkmahljfblobaaGreatDoor
open Go.RowKit Fp
def uQ(A:Option Addr)(c:Nat)(L:List Nat)(w:World)(hs:Sl w A c L):
 Calls prog 235 #[.slice A L.length c] w λe w'=>e = .returned (.slice A (iH L).length c)/\w=w':=by
 have hc:=hs.cap;have hl:=hs.qV;go_enter func235,ntmps235;go_wp2;go_loop [3] (λi=>∃ k:Nat,k<=L.length/\i = .int .i64 k/\mo L=mo (L.take k)) (λi=>(intOf i).toNat)
 case atStart=>exact⟨L.length,bl _,rfl,aF⟩
 case round=>
  obtain⟨k,hk,rfl,ht⟩:=hrel;have HT:=akH ht;clear ht;by_cases h0:0<k
  .obtain ⟨ab,ao,rfl,hb,h1⟩:=hs.mr (i:=k-1) aA ;have e1:((k:Int)-1).toNat=k-1:= aA ;have Z:=akH (OD L (k-1) aA);have NZ:=akH (OC L (k-1) aA);rw[fP h0]at Z NZ;generalize L[k-1]=x at *
   by_cases hx:x=0
   .have Hx:=akH hx;clear hx;have hb:((x:Int)==0)=true:=by have:=Hx.out;simp;omega
    go_wp2;go_round
    case rel=>exact⟨k-1,aA,by go_num,by rw[HT.out,Z.out Hx.out]⟩
    case measure=>simp[intOf];omega
   .have hb:((x:Int)==0)=false:= aL ;go_wp2;go_ret;exact⟨JB (by show _=mo L;rw[HT.out,NZ.out hx]),rfl⟩
  .go_wp2;go_ret;have:k=0:= aA ;subst this;exact⟨JB (by show _=mo L;rw[HT.out];rfl),rfl⟩
def aaC(A:Option Addr)(c:Nat)(L:List Nat)(w:World)(hs:Sl w A c L):
 Calls prog 200 #[.slice A L.length c] w λe w'=>e = .returned (.slice A (iH L).length c)/\w=w':=by
 have hc:=hs.cap;have hl:=hs.qV;go_enter func200,ntmps200;go_wp2;go_loop [3] (λi=>∃ k:Nat,k<=L.length/\i = .int .i64 k/\mo L=mo (L.take k)) (λi=>(intOf i).toNat)
 case atStart=>exact⟨L.length,bl _,rfl,aF⟩
 case round=>
  obtain⟨k,hk,rfl,ht⟩:=hrel;have HT:=akH ht;clear ht;by_cases h0:0<k
  .obtain ⟨ab,ao,rfl,hb,h1⟩:=hs.mr (i:=k-1) aA ;have e1:((k:Int)-1).toNat=k-1:= aA ;have Z:=akH (OD L (k-1) aA);have NZ:=akH (OC L (k-1) aA);rw[fP h0]at Z NZ;generalize L[k-1]=x at *
   by_cases hx:x=0
   .have Hx:=akH hx;clear hx;have hb:((x:Int)==0)=true:=by have:=Hx.out;simp;omega
    go_wp2;go_round
    case rel=>exact⟨k-1,aA,by go_num,by rw[HT.out,Z.out Hx.out]⟩
    case measure=>simp[intOf];omega
   .have hb:((x:Int)==0)=false:= aL ;go_wp2;go_ret;exact⟨JB (by show _=mo L;rw[HT.out,NZ.out hx]),rfl⟩
  .go_wp2;go_ret;have:k=0:= aA ;subst this;exact⟨JB (by show _=mo L;rw[HT.out];rfl),rfl⟩
def Sl.tV{w:World}{A:Option Addr}{c:Nat}{L:List Nat}(h:Sl w A c L):Sl w A c (iH L):=(h.take (mo L)).eqv (J7 L).symm
def YL:Go.Shelf.Ren:=⟨λ|128=>284|n=>n,λ|51=>95|3=>3|4=>4|46=>134|5=>5|9=>9|n=>n,λ|n=>n⟩
def YG:Go.Proofs.Lays.n128 prog YL:={
 mixed:= aD 
 f128:=func284.trans (congrArg some aD)
 t3:=underlying3
 a3:=Tryz.isAgg3
 z3:=Tryz.sizeOf3
 v3:=Tryz.zeroValue3
 t4:=underlying4
 a4:=Tryz.isAgg4
 z4:=Tryz.sizeOf4
 v4:=Tryz.zeroValue4
 t5:=underlying5
 a5:=Tryz.isAgg5
 z5:=Tryz.sizeOf5
 v5:=Tryz.zeroValue5
 t9:=underlying9
 a9:=Tryz.isAgg9
 z9:=Tryz.sizeOf9
 v9:=Tryz.zeroValue9
 t46:=underlying134
 a46:=Tryz.isAgg134
 z46:=Tryz.sizeOf134
 v46:=Tryz.zeroValue134
 t51:=underlying95
 a51:=Tryz.isAgg95
 z51:=Tryz.sizeOf95
 v51:=Tryz.zeroValue95 }
def T3(x:Nat)(hx:x<4294967296)(w:World):
 Calls prog 284 #[.int .u32 x] w λe w'=>e = .returned (.int .i64 (iy x))/\w=w':=by
 refine(Any.bits_Len32 YG x w aA aA).mono ?_;rintro e w' ⟨rfl,rfl⟩;rw[fR,YC x hx];exact⟨rfl,rfl⟩
def ajo(x k idx:Nat)(w:World)(oZ:((x:Int)==0)=false)
 (key:bits BinOp.and IntKind.u32 (x:Int) (-(x:Int)%4294967296)*125613361%4294967296/134217728=(idx:Int))
 (hi:idx<32) (hk:k<32) (ku:w.cell? ⟨0,idx,none⟩=some (.int .u8 k)):
 Calls prog 249 #[.int .u32 x] w λe w'=>e = .returned (.int .i64 k)/\w=w':=by
 go_enter func249,ntmps249;go_wp2_with (simp only[key])
 go_ret;exact⟨rfl,rfl⟩
def ajn(x:Nat)(h0:x≠0)(hx:x<4294967296)(w:World)(hT:Tb w):
 Calls prog 249 #[.int .u32 x] w λe w'=>e = .returned (.int .i64 (kj x))/\w=w':=by
 rw[<-ZB x h0 hx];obtain⟨Cw,hk⟩:=Lib.lowest_bit 32 x h0 hx;obtain⟨hi,adk⟩:=Lib.deBruijn32_at _ hk;have ku:=hT _ hi;rw[adk]at ku;exact ajo x _ _ w aL (tz32_key x _ hx h0 Cw) hi hk ku
def i64_in(n:Int)(h0:-9223372036854775808<=n)(h1:n<=9223372036854775807):IntKind.i64.wrap n=n:=by rw[IntKind.wrap_i64];omega
def PH{L M:List Nat}{n:Nat}(hs:iM L)(hM:iH L=M)(hn:M.length=n+1):
 ∃ x,M[n]? = some x/\x<4294967296/\(32*(n:Int)+(iy x:Int))=(iy (val L):Int)/\iy x<=32:=by
 have hk:iM M:=hM▸hs.iH;have ht:oQ M:=hM▸zj L;rcases gG M with rfl|⟨l,x,rfl⟩
 .simp at hn
 .simp only[gH,bY,fh,Nat.add_right_cancel_iff]at hn hk ht hM ⊢;subst hn;have hx:x≠0:=by simpa using(Ap _).1 ht aF 
  have iJ:x<4294967296:=hk x aF;refine⟨x,aF,iJ,?_,mv.2 iJ⟩;have:=YK hk hx;rw[<-hM,qG]at this;omega
def Va(A:Option Addr)(c:Nat)(L:List Nat)(w:World)(hs:Sl w A c L)(hlen:L.length<=100000000):
 Calls prog 237 #[.slice A L.length c] w λe w'=>e = .returned (.int .i64 (iy (val L)))/\w=w':=by
 have hT:=akH (uQ A c L w hs);have lq:=hs.tV;have mF:=pJ L;unfold mo at mF;generalize hM:iH L=M at *
 obtain⟨n,hn⟩:∃ n,n=M.length:=⟨_,rfl⟩
 rw[<-hn]at hT mF;rcases n with _|n
 .have hv:iy (val L)=0:=by rw[<-qG,hM,dn hn.symm];rfl
  have HV:=akH hv;clear hv hM hn;go_enter func237,ntmps237;go_wp2_with (go_at_call 235;refine hT.out.mono ?_;rintro e w' ⟨rfl,rfl⟩)
  go_ret;exact⟨by rw[HV.out];rfl,rfl⟩
 .obtain ⟨x,hx,iJ,hb,acF⟩:=PH hs.ok hM hn.symm;obtain⟨ab,ao,rfl,_,ku⟩:=lq.cell _ _ hx;have HB:=akH hb;clear hb hM hn hx;go_enter func237,ntmps237;go_wp2_with (first|(go_at_call 235;refine hT.out.mono ?_;rintro e w' ⟨rfl,rfl⟩)|(go_at_call 284;refine(T3 x iJ _).mono ?_;rintro e w' ⟨rfl,rfl⟩))
  go_ret;exact⟨qF HB.out,rfl⟩
def YI{x:Nat}(h:x≠0):iy x=iy (x/2)+1:=by
 by_cases h1:x/2=0
 .have:x=1:= aA ;subst this;rfl
 .have e1:=s9 h1;have e2:=uK (x/2);have e3:=qf h1;generalize iy (x/2)=k at *
  obtain⟨j,rfl⟩:∃ j,k=j+1:=⟨k-1,aA⟩
  rw[ek]at e1;refine yg ?_ ?_
  .rw [bT];omega
  .rw [bT];omega
def ahl(A:Option Addr)(c:Nat)(L:List Nat)(w:World)(hs:Sl w A c L)(ht:oQ L)(hlen:L.length<=100000000):
 Calls prog 59 #[.slice A L.length c] w λe w'=>e = .returned (.int .i64 (iy (val L)))/\w=w':=by
 obtain⟨n,hn⟩:∃ n,n=L.length:=⟨_,rfl⟩
 rcases n with _|n
 .have hv:iy (val L)=0:=by rw[dn hn.symm];rfl
  have HV:=akH hv;rw[<-hn];clear hv ht hn;go_enter func59,ntmps59;go_wp2;go_ret;exact⟨by rw[HV.out];rfl,rfl⟩
 .obtain ⟨x,hx,iJ,hb,acF⟩:=PH hs.ok ht hn.symm;obtain⟨ab,ao,rfl,_,ku⟩:=hs.cell _ _ hx;have HB:=akH hb;rw[<-hn]at hlen ⊢;clear hb ht hn hx;go_enter func59,ntmps59;go_wp2;go_loop [3,4] (λm y=>∃ (k z:Nat),z<4294967296/\y = .int .u32 z/\m = .int .i64 k/\k<=10000000000/\k+iy z=iy (val L)) (λ_ y=>(intOf y).toNat)
  case atStart=>exact⟨32*n,x,iJ,rfl,by go_num,aA,by have:=HB.out;omega⟩
  case round=>
   obtain⟨k,z,hz,rfl,rfl,hk,he⟩:=hrel;have HE:=akH he;clear he;by_cases h0:0<z
   .have hh:=akH (YI (x:=z) aA);have xy:k<=3300000000:=by have:=HE.out;have:=HB.out;omega
    go_wp2;go_round
    case rel=>exact⟨k+1,z/2,aA,by go_num,by go_num,aA,by rw[<-HE.out,hh.out];omega⟩
    case measure=>simp[intOf];omega
   .obtain rfl:z=0:= aA ;go_wp2;go_ret;exact⟨qF (by rw[<-HE.out];rfl),rfl⟩
def Zp{L M:List Nat}(hL:iM L)(h:(iH L).length<(iH M).length):mC (val L) (val M) = -1:=by
 have:=Ke hL.iH (zj M) h;rw[qG,qG]at this;unfold mC;rw[bj this]
def Zo{L M:List Nat}(hM:iM M)(h:(iH M).length<(iH L).length):mC (val L) (val M)=1:=by
 have:=Ke hM.iH (zj L) h;rw[qG,qG]at this;unfold mC;rw[bh aA,bj this]
def Qf{M N:List Nat}(hM:iM M){k x y:Nat}(hl:M.length=N.length)(hx:M[k]? = some x)(hy:N[k]? = some y)(hd:M.drop (k+1)=N.drop (k+1))(h:x<y):val M<val N:=by
 obtain⟨h1,rfl⟩:=ca.1 hx;obtain⟨h2,rfl⟩:=ca.1 hy;exact ajE hM k h1 hl hd h
def aak{M N:List Nat}{k x:Nat}(hx:M[k]? = some x)(hy:N[k]? = some x)(hd:M.drop (k+1)=N.drop (k+1)):M.drop k=N.drop k:=by
 obtain⟨h1,e1⟩:=ca.1 hx;obtain⟨h2,e2⟩:=ca.1 hy;rw[eP h1,eP h2,e1,e2,hd]
def I7(A B:Option Addr)(c d:Nat)(L M:List Nat)(w:World)(hs:Sl w A c L)(hr:Sl w B d M)(h1:L.length<=100000000)(_h2:M.length<=100000000):
 Calls prog 180 #[.slice A L.length c,.slice B M.length d] w λe w'=>e = .returned (.int .i64 (mC (val L) (val M)))/\iT w w':=by
 have hT:=akH (uQ A c L w hs);have hU:=akH (uQ B d M w hr);have lq:=hs.tV;have pD:=hr.tV;have mF:=pJ L;have wB:=pJ M;unfold mo at mF wB;by_cases iJ:(iH L).length<(iH M).length
 .have HV:=akH (Zp hs.ok iJ);have jQ:(((iH L).length:Int) != ((iH M).length:Nat))=true:= aL ;generalize (iH L).length=n at *
  generalize (iH M).length=m at *
  clear lq pD;go_enter func180,ntmps180;go_wp2_with fail;refine hT.out.mono ?_;rintro e w' ⟨rfl,rfl⟩;go_wp2_with fail;refine hU.out.mono ?_;rintro e w' ⟨rfl,rfl⟩;go_wp2;go_ret;exact⟨qF (by rw[HV.out]),iT.refl _⟩
 .by_cases H9:(iH M).length<(iH L).length
  .have HV:=akH (Zo hr.ok H9);have jQ:(((iH L).length:Int) != ((iH M).length:Nat))=true:= aL ;generalize (iH L).length=n at *
   generalize (iH M).length=m at *
   clear lq pD;go_enter func180,ntmps180;go_wp2_with fail;refine hT.out.mono ?_;rintro e w' ⟨rfl,rfl⟩;go_wp2_with fail;refine hU.out.mono ?_;rintro e w' ⟨rfl,rfl⟩;go_wp2;go_ret;exact⟨qF (by rw[HV.out]),iT.refl _⟩
  .have hl:(iH L).length=(iH M).length:= aA ;have HL:=akH hl;rw[<-hl]at hU wB;have e1:=qG L;have e2:=qG M;generalize iH L=P at *
   generalize iH M=Q at *
   have E1:=akH e1;have E2:=akH e2;clear e1 e2 hl H9 iJ;obtain⟨n,hn⟩:∃ n,n=P.length:=⟨_,rfl⟩
   rw[<-hn]at hT hU wB mF;have HN:=akH hn;clear hn;have jQ:((n:Int) != (n:Int))=false:= aF ;have okP:=lq.ok;have FF:=pD.ok;go_enter func180,ntmps180;go_wp2_with fail;refine hT.out.mono ?_;rintro e w' ⟨rfl,rfl⟩;go_wp2_with fail;refine hU.out.mono ?_;rintro e w' ⟨rfl,rfl⟩;go_wp2;go_loopw [5] (λi wr=>∃ k:Nat,k<=n/\i = .int .i64 ((k:Int)-1)/\P.drop k=Q.drop k/\iT w wr) (λi _=>(intOf i+1).toNat)
   case atStart=>exact⟨n,bl _,rfl,by rw[eN (by rw[<-HN.out];exact bl _),eN (by rw[<-HL.out,<-HN.out];exact bl _)],iT.refl _⟩
   case round=>
    obtain⟨k,hk,rfl,hd,hb⟩:=hrel;have HD:=akH hd;clear hd;rcases k with _|k
    .go_wp2;go_ret;have e:P=Q:=by simpa using HD.out
     exact⟨qF (by rw[<-E1.out,<-E2.out,e];unfold mC;simp),hb⟩
    .have Ml:k<P.length:=by have:=HN.out;omega
     have Er:k<Q.length:=by have:=HN.out;have:=HL.out;omega
     have HP:=akH (bw Ml);have HQ:=akH (bw Er);obtain⟨ab,ao,rfl,_,c1⟩:=(lq.below hb).mr Ml;obtain⟨bb,bo,rfl,_,c2⟩:=(pD.below hb).mr Er;have vq:(k:Int)<n:= aA ;have rf:(0:Int)<=k:= aA ;have x0:(0:Int)<=P[k]:= aA ;have y0:(0:Int)<=Q[k]:= aA ;generalize P[k]=x at *
     generalize Q[k]=y at *
     clear Ml Er;by_cases qT:x<y
     .have adm:(x:Int)<y:= aA ;go_wp2;go_quiet (fail);go_wp2;go_ret;have h:=Qf okP HL.out HP.out HQ.out HD.out qT;rw[E1.out,E2.out]at h;exact⟨qF (by unfold mC;rw[bj h]),below_drewN hb _⟩
     .have adm:¬(x:Int)<y:= aA ;by_cases hyx:y<x
      .have adn:(y:Int)<x:= aA ;go_wp2;go_quiet (fail);go_wp2;go_quiet (fail);go_wp2;go_ret;have h:=Qf FF HL.out.symm HQ.out HP.out HD.out.symm hyx;rw[E1.out,E2.out]at h;exact⟨qF (by unfold mC;rw[bh aA,bj h]),below_drewN (below_drewN hb _) _⟩
      .have adn:¬(y:Int)<x:= aA ;have HX:=akH (aA:x=y);go_wp2;go_quiet (fail);go_wp2;go_quiet (fail);go_wp2;go_roundw
       case rel=>exact⟨k,aA,by go_num,aak HP.out (by rw[HX.out];exact HQ.out) HD.out,by repeat (first|exact hb|refine below_drewN ?_ _)⟩
       case measure=>simp[intOf];try omega
def KT(A:Option Addr)(c:Nat)(L:List Nat)(w:World)(hs:Sl w A c L):
 Calls prog 203 #[.slice A L.length c] w λe w'=>e = .returned (.slice A L.length L.length)/\w=w':=by
 have hc:=hs.cap;have hl:=hs.qV;go_enter func203,ntmps203;go_wp2;go_ret;exact⟨rfl,rfl⟩
def Sl.P6{w:World}{A:Option Addr}{c:Nat}{L:List Nat}(h:Sl w A c L):Sl w A L.length L:=
 ⟨bl _,bK h.cap h.qV,h.ok,(λe=>by have:=h.xM e;have:=h.cap;omega),h.cell⟩
def KU(A:Option Addr)(c:Nat)(L:List Nat)(w:World)(hs:Sl w A c L)(hlen:L.length<=100000000):
 Calls prog 204 #[.slice A L.length c] w (xd w L):=by
 have hc:=hs.cap;have hl:=hs.qV;rcases A with _|ad
 .have h0:=hs.xM rfl;subst h0;have:L=[]:=dn aA;subst this;have q:=λ(w:World) (n' c':Nat)=>Lib.run_eql_slice_nil (P:=prog) w 35 _ none 0 0 n' c' underlying35
  simp only[Option.isNone_none]at q;go_enter func204,ntmps204;go_wp2;go_ret;exact⟨none,0,rfl,Sl.nil _,iT.refl _⟩
 .have q:=λ(w:World) (n' c':Nat)=>Lib.run_eql_slice_nil (P:=prog) w 35 _ (some ad) L.length c n' c' underlying35
  simp only[Option.isNone_some]at q;go_enter func204,ntmps204;have mG:([]:List Nat).length+L.length<=10000000000:= aL ;have h1:=Ow.empty w w.heap.size (bl _);have h2:=hs.alloc (.cells #[] 95);have h3:=wM (w:=w) (bl _) (.cells #[] 95);go_wp2_with (at_builtin;go_must (refine zn aE _ _ aE w.heap.size _ [] aE h1 _ _ _ L aE aE h2 mG h3 ?_);intro v' w' lp hg sj)
  obtain⟨A',c',rfl,qn⟩:=lp.sl;go_ret;exact⟨A',c',rfl,qn,(iT.alloc _ _).grown hg (wM (bl _) _) (λk hk=>by simp[Value.ownBlock]at hk;omega)⟩
def Og(A:Option Addr)(c:Nat)(L:List Nat)(w:World)(hs:Sl w A c L)(hlen:L.length<=100000000):
 Calls prog 218 #[.slice A L.length c] w (xd w (iH L)):=by
 have hc:=hs.cap;have hl:=hs.qV;have fin:∀ k:Nat,k=(iH L).length->Hid (iH L=L.take k):=λk hk=>by rw[hk];exact J7 L
 go_enter func218,ntmps218;go_wp2;go_loop [3] (λi=>∃ k:Nat,k<=L.length/\i = .int .i64 k/\mo L=mo (L.take k)) (λi=>(intOf i).toNat)
 case atStart=>exact⟨L.length,bl _,rfl,aF⟩
 case round=>
  obtain⟨k,hk,rfl,ht⟩:=hrel;have HT:=akH ht;clear ht;have mG:([]:List Nat).length+(L.take k).length<=10000000000:=by rw[cC];simp;omega
  have HK:=akH (show k=(L.take k).length by rw[cC];omega);have h1:=Ow.empty w w.heap.size (bl _);have h2:=(hs.take k).alloc (.cells #[] 95);have h3:=wM (w:=w) (bl _) (.cells #[] 95);by_cases h0:0<k
  .obtain ⟨ab,ao,rfl,hb,MG⟩:=hs.mr (i:=k-1) aA ;have e1:((k:Int)-1).toNat=k-1:= aA ;have Z:=akH (OD L (k-1) aA);have NZ:=akH (OC L (k-1) aA);rw[fP h0]at Z NZ;generalize L[k-1]=x at *
   by_cases hx:x=0
   .have Hx:=akH hx;clear hx;have hb:((x:Int)==0)=true:=by have:=Hx.out;simp;omega
    clear fin;go_wp2;go_round
    case rel=>exact⟨k-1,aA,by go_num,by rw[HT.out,Z.out Hx.out]⟩
    case measure=>simp[intOf];omega
   .have hb:((x:Int)==0)=false:= aL ;have F:=fin k (by show k=mo L;rw[HT.out,NZ.out hx]);clear fin;go_wp2_with (at_builtin;go_must (refine zn aE _ _ aE w.heap.size _ [] aE h1 _ _ _ (L.take k) aE HK.out h2 mG h3 ?_);intro v' w' lp hg sj)
    obtain⟨A',c',rfl,qn⟩:=lp.sl;go_ret;rw[F.out];exact⟨A',c',rfl,qn,(iT.alloc _ _).grown hg (wM (bl _) _) (λk hk=>by simp[Value.ownBlock]at hk;omega)⟩
  .have:k=0:= aA ;subst this;have F:=fin 0 (by show 0=mo L;rw[HT.out];rfl);clear fin;go_wp2_with (at_builtin;go_must (refine zn aE _ _ aE w.heap.size _ [] aE h1 _ _ _ (L.take 0) aE HK.out h2 mG h3 ?_);intro v' w' lp hg sj)
   obtain⟨A',c',rfl,qn⟩:=lp.sl;go_ret;rw[F.out];exact⟨A',c',rfl,qn,(iT.alloc _ _).grown hg (wM (bl _) _) (λk hk=>by simp[Value.ownBlock]at hk;omega)⟩
def UA(A:Option Addr)(n c:Nat)(w:World):
 Calls prog 283 #[.slice A n c] w λe w'=>e = .returned (.bool (decide (256<n)))/\w=w':=by
 by_cases h:256<n
 .have h':(256:Int)<n:= aA ;go_enter func283,ntmps283;go_wp2;go_ret;exact⟨by simp[h],rfl⟩
 .have h':¬(256:Int)<n:= aA ;go_enter func283,ntmps283;go_wp2;go_ret;exact⟨aF,rfl⟩
def Kt(w:World)(g:Nat)(xs:List (Option Addr×Nat×Nat)):Prop:=∀ i x,xs[i]? = some x->w.cell? ⟨g,i,none⟩=some (.slice x.1 x.2.1 x.2.2)
def w7(xs:List (Option Addr×Nat×Nat)):Bool:=xs.any λx=>decide (256<x.2.1)
def XC(xs:List (Option Addr×Nat×Nat))(w:World)(e:Ending)(w':World):Prop:=
 ∃ n:Int,e = .returned (.int .i64 n)/\(0<=n↔w7 xs=true)/\w=w'
def adt(g:Nat)(xs:List (Option Addr×Nat×Nat))(w:World)(hs:Kt w g xs)(hn:xs.length<=1000):
 Calls prog 335 #[.slice (some ⟨g,0,none⟩) xs.length xs.length,.func (.func 283) #[] #[]] w (XC xs w):=by
 go_enter func335,ntmps335;go_wp2;go_loop [8] (λi=>∃ k:Nat,k<=xs.length/\i = .int .i64 k/\w7 (xs.take k)=false) (λi=>xs.length-(intOf i).toNat)
 case atStart=>exact⟨0,cg _,rfl,rfl⟩
 case round=>
  obtain⟨k,hk,rfl,ht⟩:=hrel;have HT:=akH ht;clear ht;by_cases h0:k<xs.length
  .have hc:=hs k _ (bw h0);have e1:((k:Int)).toNat=k:= aA ;have ec:=XK g k;have HX:=akH (show w7 (xs.take (k+1))=(w7 (xs.take k)||decide (256<xs[k].2.1))by
    unfold w7;rw[fg h0,List.any_append];simp)
   have HM:=akH (cz h0);generalize xs[k]=x at *
   obtain⟨A,n,c⟩:=x;simp only at hc HX;by_cases hx:256<n
   .have hb:decide (256<n)=true:=by simp[hx]
    go_wp2_with (go_at_call 283;refine(UA A n c _).mono ?_;rw[hb];rintro e w' ⟨rfl,rfl⟩)
    go_ret;refine⟨_,rfl,⟨λ_=>?_,λ_=> aA⟩,rfl⟩;unfold w7;rw[dT];exact⟨_,HM.out,by simpa using hx⟩
   .have hb:decide (256<n)=false:= aL ;go_wp2_with (go_at_call 283;refine(UA A n c _).mono ?_;rw[hb];rintro e w' ⟨rfl,rfl⟩)
    go_round
    case rel=>exact⟨k+1,aA,by go_num,by rw[HX.out,HT.out,hb];rfl⟩
    case measure=>simp[intOf];omega
  .go_wp2;go_ret;have e:xs.take k=xs:=df aA;have:=HT.out;rw[e]at this;exact⟨_,rfl,by rw[this];simp,rfl⟩
def Zw(g:Nat)(xs:List (Option Addr×Nat×Nat))(w:World)(hs:Kt w g xs)(hn:xs.length<=1000):
 Calls prog 282 #[.slice (some ⟨g,0,none⟩) xs.length xs.length,.func (.func 283) #[] #[]] w λe w'=>e = .returned (.bool (w7 xs))/\w=w':=by
 have H:=akH (adt g xs w hs hn);go_enter func282,ntmps282;go_wp2_with fail;refine H.out.mono ?_;rintro e w' ⟨n,rfl,hn,rfl⟩;have HN:=akH hn;clear hn;go_wp2;go_ret;refine⟨Wg ?_,rfl⟩;have:=HN.out;cases h:w7 xs<;>simp[h]at this ⊢ <;> omega
def UC(g:Nat)(xs:List (Option Addr×Nat×Nat))(w:World)(hs:Kt w g xs)(hn:xs.length<=1000):
 Calls prog 232 #[.slice (some ⟨g,0,none⟩) xs.length xs.length] w λe w'=>e = .returned (.bool (w7 xs))/\w=w':=by
 have H:=akH (Zw g xs w hs hn);go_enter func232,ntmps232;go_wp2_with fail;refine H.out.mono ?_;rintro e w' ⟨rfl,rfl⟩;go_wp2;go_ret;exact⟨rfl,rfl⟩
def Nh(g:Nat)(A:Option Addr)(n c:Nat)(w:World)(b:Bool)(h:w.cell? ⟨g,0,none⟩=some (.slice A n c))(hb:b=decide (256<n)):
 Calls prog 232 #[.slice (some ⟨g,0,none⟩) 1 1] w λe w'=>e = .returned (.bool b)/\w=w':=by
 have:=UC g [(A,n,c)] w (λi x hx=>by
  obtain⟨h1,h2⟩:=ca.1 hx;obtain rfl:i=0:=by simp at h1;omega
  simp at h2;subst h2;exact h) aF 
 simpa[w7,hb]using this
def UB(g:Nat)(A B:Option Addr)(n c m d:Nat)(w:World)(b:Bool)(h:w.cell? ⟨g,0,none⟩=some (.slice A n c))(k:w.cell? ⟨g,1,none⟩=some (.slice B m d))(hb:b=(decide (256<n)||decide (256<m))):
 Calls prog 232 #[.slice (some ⟨g,0,none⟩) 2 2] w λe w'=>e = .returned (.bool b)/\w=w':=by
 have:=UC g [(A,n,c),(B,m,d)] w (λi x hx=>by
  obtain⟨h1,h2⟩:=ca.1 hx;simp at h1;rcases i with _|_|i
  .simp at h2;subst h2;exact h
  .simp at h2;subst h2;exact k
  .omega) aF 
 simpa[w7,hb]using this
def Fu(A:Option Addr)(c:Nat)(L:List Nat)(w:World)(hs:Sl w A c L)(hl:(iH L).length<=256):
 Calls prog 233 #[.slice A L.length c] w (B4 w (iH L) 0):=by
 have hT:=akH (uQ A c L w hs);have lq:=hs.tV;have hC:=hs.cap;have hL:=hs.qV;have H2:=akH (λw' (h:Sl w' A c (iH L))=>KT A c (iH L) w' h);generalize iH L=M at *
 obtain⟨n,hn⟩:∃ n,n=M.length:=⟨_,rfl⟩
 rw[<-hn]at hT hl H2;have HN:=akH hn;clear hn;go_enter func233,ntmps233;go_wp2_with fail;refine hT.out.mono ?_;rintro e w' ⟨rfl,rfl⟩;go_wp2_with fail;refine(Nh _ A n c _ false ?_ aL).mono ?_
 .go_simp
 rintro e w' ⟨rfl,rfl⟩;go_wp2_with fail;refine(H2.out _ (lq.alloc _)).mono ?_;rintro e w' ⟨rfl,rfl⟩;go_wp2;go_ret2;exact⟨A,n,by rw[HN.out];rfl,by have:=lq.P6.alloc (.cells #[.slice A n c] 35);rw[HN.out]at this ⊢;exact this,iT.alloc _ _⟩
def Ka(a b:Nat)(ha:a<18446744073709551616)(hb:b<18446744073709551616):bits .or .u64 (a:Int) (b:Int)=((a |||b:Nat):Int):=by
 have hx:a |||b<2^64:=ado aA aA 
 have h1:(BitVec.ofInt 64 (a:Int)).toNat=a:=by
  rw[gh,gl];exact ct aA 
 have h2:(BitVec.ofInt 64 (b:Int)).toNat=b:=by
  rw[gh,gl];exact ct aA 
 show IntKind.u64.wrap ((BitVec.ofInt 64 (a:Int) |||BitVec.ofInt 64 (b:Int)).toNat:Int)=_;rw[BitVec.toNat_or,h1,h2,IntKind.wrap_u64];omega
def Jk(a b k:Nat)(h:a<2^k):a |||b*2^k=a+b*2^k:=by
 rw[bM,Nat.or_comm,<-Nat.two_pow_add_eq_or_of_lt h];omega
def Sl.drop{w:World}{A:Option Addr}{c:Nat}{L:List Nat}(h:Sl w A c L)(k:Nat):Sl w (A.map (·.add k)) (c-k) (L.drop k):=
 ⟨by have:=h.cap;rw[cG];omega,bK (eA _ _) h.qV,h.ok.drop k,(λe=>by
  rcases A with _|ad
  .rw [h.xM rfl];omega
  .cases e),λi x hx=>by
  rw[dp]at hx;obtain⟨b,o,rfl,h1,h2⟩:=h.cell _ _ hx;exact⟨b,o+k,by rw[bZ,DH],h1,by rw[cN];exact h2⟩⟩
def part(T:List Nat)(k:Nat):List Nat:=T.take k++List.replicate (T.length-k) 0
def agS(T:List Nat):part T 0=List.replicate T.length 0:=by unfold part;simp
def agQ(T:List Nat):part T T.length=T:=by unfold part;simp
def agR(T:List Nat)(k:Nat)(h:k<T.length):(part T k)[k]? = some 0:=by
 unfold part;rw[dH aV,cC,fB,bj aA]
def VN(T:List Nat)(k x:Nat)(h:T[k]? = some x):(part T k).set k x=part T (k+1):=by
 obtain⟨h1,rfl⟩:=ca.1 h;unfold part;rw[List.set_append_right _ _ aV,cC,dj aA,cV,
  fg h1,(aA:T.length-k=(T.length-(k+1))+1),List.replicate_succ,List.set_cons_zero,gL]
 rfl
def aim(x y s:Nat)(hx:x<4294967296)(hy:y<4294967296):
 bits BinOp.or IntKind.u64 (x:Int) ((y:Int)*4294967296)/2^s%4294967296=(((x+4294967296*y)/2^s%4294967296:Nat):Int):=by
 have e:((y:Int)*4294967296)=((y*2^32:Nat):Int):= aF ;rw[e,Ka x (y*2^32) aA aA,Jk x y 32 aA];simp[bM]
def ain(x s:Nat):(x:Int)/2^s%4294967296=(((x+4294967296*0)/2^s%4294967296:Nat):Int):=by
 simp
def Vj(A:Option Addr)(c:Nat)(L:List Nat)(n:Nat)(w:World)(hs:Sl w A c L)(hlen:L.length<=100000000)(hn:n<=65536):
 Calls prog 250 #[.slice A L.length c,.int .i64 n] w (xd w (qO (n%32) ((iH L).drop (n/32)))):=by
 have hT:=akH (uQ A c L w hs);have lq:=hs.tV;have mF:=pJ L;have hC:=lq.cap;have hL:=hs.qV;unfold mo at mF;generalize iH L=M at *
 obtain⟨m,hm⟩:∃ m,m=M.length:=⟨_,rfl⟩
 rw[<-hm]at hT mF hC;have HM:=akH hm;clear hm;by_cases h0:m<=n/32
 .go_enter func250,ntmps250;go_wp2_with fail;refine hT.out.mono ?_;rintro e w' ⟨rfl,rfl⟩;go_wp2;go_ret;have:M.drop (n/32)=[]:=eN (by rw[<-HM.out];exact h0);rw[this];exact⟨none,0,rfl,Sl.nil _,iT.refl _⟩
 .obtain ⟨ab,ao,rfl,_,_⟩:=lq.mr (i:=0) (by have:=HM.out;omega);have hK:=lq.drop (n/32);have um:=akH (show m-n/32=(M.drop (n/32)).length by rw[cG,HM.out]);have oz:n/32<c:= aA ;have vt:=Fi (m-n/32) aA;have pV:0<m-n/32:= aA ;have xr:m-n/32<=100000000:= aA ;generalize M.drop (n/32)=K at *
  simp only[bZ,DH]at hK;have zE:=akH (JU (n%32) K);have LV:=akH (WE (n%32) K);have Eg:=akH (FG (n%32) K);generalize qO (n%32) K=T at *
  go_enter func250,ntmps250;go_wp2_with fail;refine hT.out.mono ?_;rintro e w' ⟨rfl,rfl⟩;go_wp2;go_loopw [25] (λi wr=>∃ k:Nat,k<=m-n/32/\i = .int .i64 k/\Rw wr w.heap.size (part T k)/\iT w wr) (λi _=>m-n/32-(intOf i).toNat)
  case atStart=>
   refine⟨0,cg _,rfl,?_,iT.alloc _ _⟩;rw[agS,zE.out,<-um.out];exact Rw.Ac _ _
  case round=>
   obtain⟨k,hk,rfl,hR,hb⟩:=hrel;by_cases iJ:k<m-n/32
   .have ur:k<K.length:=by have:=um.out;omega
    obtain⟨ab',ao',e',_,c1⟩:=(hK.below hb).mr ur;cases e';have hg:=LV.out k ur;have ni:K[k]<4294967296:=hK.ok.get ur;have HK:=akH (bw ur);have c3:=hR.cell (agR T k (by have:=zE.out;omega));have c4:=hR.frozen k;by_cases ac5:k+1<m-n/32
    .have yz:k+1<K.length:=by have:=um.out;omega
     obtain⟨ab',ao',e',_,c2⟩:=(hK.below hb).mr yz;cases e';have hy:K.getD (k+1) 0=K[k+1]:=by rw[bk,bw yz];rfl
     rw[hy]at hg;have qU:K[k+1]<4294967296:=hK.ok.get yz;have HG:=akH hg;clear hg hy;generalize K[k]=x at *
     generalize K[k+1]=y at *
     clear ur yz;go_wp2;go_roundw
     case rel=>
      rw[aim x y (n%32) ni qU];exact⟨k+1,aA,by go_num,by rw[<-VN T k _ HG.out];exact hR.set k _,hb.setCell (bl _) _⟩
     case measure=>simp[intOf];omega
    .have hy:K.getD (k+1) 0=0:=by rw[bk,bR (by have:=um.out;omega)];rfl
     rw[hy]at hg;have HG:=akH hg;clear hg hy;generalize K[k]=x at *
     clear ur;go_wp2;go_roundw
     case rel=>
      rw[ain x (n%32)];exact⟨k+1,aA,by go_num,by rw[<-VN T k _ HG.out];exact hR.set k _,hb.setCell (bl _) _⟩
     case measure=>simp[intOf];omega
   .go_wp2;go_ret;obtain rfl:k=m-n/32:= aA ;rw[um.out,<-zE.out,agQ]at hR;have:=hR.sl Eg.out (by have:=zE.out;have:=um.out;omega);rw[zE.out,<-um.out]at this;exact⟨_,_,by rw[zE.out,<-um.out];rfl,this,hb⟩
def ail{L:List Nat}(h:iM L)(n:Nat):iH (qO (n%32) ((iH L).drop (n/32)))=ia (val L/2^n):=by
 rw[uZ (FG _ _),OM h.iH,qG]
def O5(w:World)(A:Option Addr)(n c:Nat):(w.alloc (.cells #[.slice A n c] 35)).cell? ⟨w.heap.size,0,none⟩=some (.slice A n c):=by
 rw[World.cell?_alloc_at _ _ _ _ rfl];rfl
def O6(w:World)(A B:Option Addr)(n c m d:Nat):(w.alloc (.cells #[.slice A n c,.slice B m d] 35)).cell? ⟨w.heap.size,0,none⟩=some (.slice A n c):=by
 rw[World.cell?_alloc_at _ _ _ _ rfl];rfl
def O7(w:World)(A B:Option Addr)(n c m d:Nat):(w.alloc (.cells #[.slice A n c,.slice B m d] 35)).cell? ⟨w.heap.size,1,none⟩=some (.slice B m d):=by
 rw[World.cell?_alloc_at _ _ _ _ rfl];rfl
def Vf(A:Option Addr)(c:Nat)(L:List Nat)(n:Nat)(w:World)(hs:Sl w A c L)(hlen:L.length<=256)(hn:n<=65536):
 Calls prog 202 #[.slice A L.length c,.int .i64 n] w (B4 w (ia (val L/2^n)) 0):=by
 have hf:decide (256<L.length)=false:= aL ;have h3:=akH (ail hs.ok n);have h4:(iH (qO (n%32) ((iH L).drop (n/32)))).length<=256:=by
  have h1:=pJ (qO (n%32) ((iH L).drop (n/32)));unfold mo at h1;rw[JU,cG]at h1;have h2:=pJ L;unfold mo at h2;omega
 have H1:=akH (λw (h:Sl w A c L)=>Vj A c L n w h aA hn);generalize qO (n%32) ((iH L).drop (n/32))=T at *
 go_enter func202,ntmps202;go_wp2_with fail;refine(Nh _ A _ c _ false (O5 _ _ _ _) aL).mono ?_;rintro e w' ⟨rfl,rfl⟩;go_wp2_with fail;refine(H1.out _ (hs.alloc _)).mono ?_;rintro e w' ⟨A',c',rfl,qn,hb⟩;go_wp2_with fail;refine(Fu A' c' T _ qn h4).mono ?_;rintro e w'' ⟨A'',c'',rfl,ux,px⟩;go_wp2;go_ret2;rw[<-h3.out];exact⟨A'',c'',rfl,ux,(iT.alloc _ _).trans (hb.trans px)⟩
def UK(n c:Nat)(hc:n<=c)(hn:c<=10000000000)(w:World):
 (Instr.makeSlice 35 (.int .i64 (n:Int)) (.int .i64 (c:Int))).run prog w = .ok (.slice (some ⟨w.heap.size,0,none⟩) n c) (w.alloc (.cells (oq (List.replicate c 0)).toArray 95)):=by
 obtain⟨i,hi,hz,h1,h2⟩:=info_parts MO;have hr:=run_make (P:=prog) w 35 95 i _ underlying35 hi hz .i64 .i64 n c aA aA (by rw[h2];omega) aA;rw[hr,fR,fR,h1,cv];refine congrArg (λcs=>Result.ok (Value.slice (some ⟨w.heap.size,0,none⟩) n c) (w.alloc (.cells cs 95))) ?_;apply Array.ext
 .simp [madeCells,oq]
 .intro i h1 h2;simp[madeCells,oq,Value.cells,dO]
def Ow.Ac(w:World)(base n c:Nat)(hb:base<=w.heap.size)(hc:n<=c)(hn:c<=10000000000):
 Ow (w.alloc (.cells (oq (List.replicate c 0)).toArray 95)) base (.slice (some ⟨w.heap.size,0,none⟩) n c) (List.replicate n 0):=
 ⟨⟨by simp[oq],.inr ⟨w.heap.size,c,_,aF,hb,heap_alloc_new w _,by simpa using hc,by simp only[maxLen];omega,by simp[oq],by
  simp[oq,List.take_replicate,dj hc]⟩⟩,iM.Dd n⟩
def iT.own{w w1 w2:World}(h:iT w w1)(v:Value)(L:List Nat)(ho:Ow w1 w.heap.size v L)(hg:w1.grownBy w2 v.ownBlock):iT w w2:=
 h.grown hg h.size (λk hk=>(ho.row.lt k hk).1)
def WC(x q s:Nat)(hx:x<4294967296)(hs:s<32)(hq:q<2^s):
 bits BinOp.or IntKind.u64 (IntKind.u64.wrap ((x:Int)*2^s)) (q:Int)=((x*2^s+q:Nat):Int)/\x*2^s+q<18446744073709551616/\(x*2^s+q)/4294967296<2^s:=by
 have hp:2^s<=2^31:=b9 aC aA;have e31:(2:Nat)^31=2147483648:= aC ;have h1:(x+1)*2^s<=4294967296*2^s:=bN _ hx;rw[bS,cj]at h1;have h2:x*2^s<4294967296*2^s:=dF hx (bD aC);refine⟨?_,aA,aA⟩;have e:((x:Int)*2^s)=((x*2^s:Nat):Int):= aF ;rw[e,IntKind.wrap_u64,show((x*2^s:Nat):Int)%18446744073709551616=((x*2^s:Nat):Int)by omega,Ka _ _ aA aA,Nat.or_comm,Jk q x s hq,fk]
def af5(A:Option Addr)(c:Nat)(L:List Nat)(n:Nat)(w:World)(hs:Sl w A c L)(hlen:L.length<=100000000)(hn:n<=65536):
 Calls prog 236 #[.slice A L.length c,.int .i64 n] w (λe w'=>∃ T,val T=val L*2^n/\iM T/\T.length=n/32+(iH L).length+1/\xd w T e w'):=by
 have hT:=akH (uQ A c L w hs);have lq:=hs.tV;have mF:=pJ L;have hC:=lq.cap;have hL:=hs.qV;unfold mo at mF;have hv:=akH (qG L);generalize iH L=M at *
 obtain⟨m,hm⟩:∃ m,m=M.length:=⟨_,rfl⟩
 rw[<-hm]at hT mF hC;have HM:=akH hm;clear hm;have vt:=UK (n/32) (n/32+m+1) aA aA;rw[show((n/32:Nat):Int)=n/32 by omega,show((n/32+m+1:Nat):Int)=n/32+m+1 by omega]at vt;have LO:=akH (Ow.Ac w w.heap.size (n/32) (n/32+m+1) (bl _) aA aA);go_enter func236,ntmps236;go_wp2_with fail;refine hT.out.mono ?_;rintro e w' ⟨rfl,rfl⟩;go_wp2;go_loopw [5,6,23] (λv cy i wr=>∃ (k q:Nat) (O:List Nat),k<=m/\i = .int .i64 k/\cy = .int .u64 q/\q<2^(n%32)/\O.length=n/32+k/\val O+4294967296^(n/32+k)*q=val (M.take k)*2^(n%32)*4294967296^(n/32)/\Ow wr w.heap.size v O/\iT w wr) (λ_ _ i _=>m-(intOf i).toNat)
 case atStart=>
  exact⟨0,0,List.replicate (n/32) 0,cg _,rfl,rfl,bD aC,aF,by simp[BX],LO.out,iT.alloc _ _⟩
 case round=>
  obtain⟨k,q,O,hk,rfl,rfl,hq,hO,mm,oB,hb⟩:=hrel;have HV:=akH mm;have HO:=akH hO;have RW:O.length<=200000000:= aA ;have yE:=akH hq;clear mm hO hq;obtain⟨OA,Oc,rfl,AY⟩:=oB.sl;by_cases iJ:k<m
  .have AW:k<M.length:=by have:=HM.out;omega
   obtain⟨ab,ao,rfl,_,c1⟩:=(lq.below hb).mr AW;have ni:M[k]<4294967296:=lq.ok.get AW;have HX:=akH (WB (c:=q) (s:=n%32) (n0:=n/32) AW HO.out HV.out);generalize M[k]=x at *
   obtain⟨hw,rJ,yI⟩:=WC x q (n%32) ni (bI _ aC) yE.out;generalize x*2^(n%32)+q=z at *
   have EP:=akH yI;clear yI;have mG:O.length+[z%4294967296].length<=10000000000:= aL ;go_wp2_with (at_builtin;go_must (refine zn aE _ _ aE w.heap.size _ O aE (oB.alloc _) _ _ _ [z%4294967296] aE aE (Sl.C2 _ _ (z%4294967296) aA aA) mG (wM hb.size _) ?_);intro v' w1 wC hg sj)
   go_roundw
   case rel=>
    exact⟨k+1,z/4294967296,O++[z%4294967296],aA,by go_num,by go_num,EP.out,by rw[bY,HO.out];rfl,HX.out,wC,(hb.trans (iT.alloc _ _)).own _ _ (oB.alloc _) hg⟩
   case measure=>simp[intOf];omega
  .obtain rfl:k=m:= aA ;have mG:O.length+[q].length<=10000000000:= aL ;have adg:q<4294967296:=by
    have:=yE.out;have hp:2^(n%32)<=2^31:=b9 aC aA;have e31:(2:Nat)^31=2147483648:= aC ;omega
   have hqm:(q:Int)%4294967296=q:= aA ;go_wp2_with (at_builtin;go_must (refine zn aE _ _ aE w.heap.size _ O aE (oB.alloc _) _ _ _ [q] aE aE (Sl.C2 _ _ q aA aA) mG (wM hb.size _) ?_);intro v' w1 wC hg sj)
   obtain⟨A',c',rfl,qn⟩:=wC.sl;go_ret;refine⟨O++[q],?_,qn.ok,by rw[bY,HO.out,<-HM.out];rfl,A',c',rfl,qn,(hb.trans (iT.alloc _ _)).own _ _ (oB.alloc _) hg⟩;have h:=HV.out;rw[df (by rw[HM.out];exact bl _)]at h;rw[Ar,HO.out,se,Kf,cT,bW,h,<-hv.out,s6,bE,<-bA];congr 2;omega
def Vd(A:Option Addr)(c:Nat)(L:List Nat)(n:Nat)(w:World)(hs:Sl w A c L)(hlen:L.length<=256)(hn:n<=65536)(pN:(ia (val L*2^n)).length<=256):
 Calls prog 179 #[.slice A L.length c,.int .i64 n] w (B4 w (ia (val L*2^n)) 0):=by
 have H1:=akH (λw (h:Sl w A c L)=>af5 A c L n w h aA hn);obtain⟨R,hR⟩:∃ R,R=ia (val L*2^n):=⟨_,rfl⟩
 rw[<-hR]at pN ⊢;have HR:=akH hR;clear hR;go_enter func179,ntmps179;go_wp2_with fail;refine(Nh _ A _ c _ false (O5 _ _ _ _) aL).mono ?_;rintro e w' ⟨rfl,rfl⟩;go_wp2_with fail;refine(H1.out _ (hs.alloc _)).mono ?_;rintro e w' ⟨T,hT,Eg,-,A',c',rfl,qn,hb⟩;have h3:=akH (show iH T=R by rw[uZ Eg,hT,HR.out]);clear hT Eg;go_wp2_with fail;refine(Fu A' c' T _ qn (by rw[h3.out];exact pN)).mono ?_;rintro e w'' ⟨A'',c'',rfl,ux,px⟩;go_wp2;go_ret2;rw[<-h3.out];exact⟨A'',c'',rfl,ux,(iT.alloc _ _).trans (hb.trans px)⟩
def aij(A:Option Addr)(c:Nat)(L:List Nat)(n:Nat)(w:World)(hs:Sl w A c L)(hlen:L.length<=256)(hn:n<=65536)(pN:(ia (val L*2^n)).length<=256):
 Calls prog 206 #[.slice A L.length c,.int .i64 n] w (xd w (ia (val L*2^n))):=by
 have H1:=akH (Vd A c L n w hs hlen hn pN);generalize ia (val L*2^n)=R at *
 go_enter func206,ntmps206;go_wp2_with fail;refine H1.out.mono ?_;rintro e w'' ⟨A'',c'',rfl,ux,px⟩;go_wp2;go_ret;exact⟨A'',c'',rfl,ux,px⟩
def ajv(a b:Nat)(ha:a<18446744073709551616)(hb:b<18446744073709551616):bits .and .u64 (a:Int) (b:Int)=((a &&& b:Nat):Int):=by
 have hx:a &&& b<2^64:=fc _ aA;have h1:(BitVec.ofInt 64 (a:Int)).toNat=a:=by
  rw[gh,gl];exact ct aA 
 have h2:(BitVec.ofInt 64 (b:Int)).toNat=b:=by
  rw[gh,gl];exact ct aA 
 show IntKind.u64.wrap ((BitVec.ofInt 64 (a:Int) &&& BitVec.ofInt 64 (b:Int)).toNat:Int)=_;rw[BitVec.toNat_and,h1,h2,IntKind.wrap_u64];omega
def DJ(z:Nat)(hz:z<18446744073709551616):bits BinOp.and IntKind.u64 (z:Int) 4294967295=(z:Int)%4294967296:=by
 have e:(4294967295:Int)=((4294967295:Nat):Int):=rfl;rw[e,ajv z _ hz aA,show(4294967295:Nat)=2^32-1 by decide,Nat.and_two_pow_sub_one_eq_mod];simp
def aip(x y s:Nat)(hx:x<4294967296)(hy:y<4294967296):
 bits BinOp.and IntKind.u64 (bits BinOp.or IntKind.u64 (x:Int) ((y:Int)*4294967296)/2^s) 4294967295=(((x+4294967296*y)/2^s%4294967296:Nat):Int):=by
 have e:((y:Int)*4294967296)=((y*2^32:Nat):Int):= aF ;rw[e,Ka x (y*2^32) aA aA,Jk x y 32 aA];have h:(x+y*2^32)/2^s<18446744073709551616:=du (dA _ _) aA;have h2:=DJ _ h;rw[show(((x+y*2^32:Nat):Int)/2^s)=(((x+y*2^32)/2^s:Nat):Int)by simp,h2];simp[bM]
def aio(x s:Nat)(hx:x<4294967296):bits BinOp.and IntKind.u64 ((x:Int)/2^s) 4294967295=(((x+4294967296*0)/2^s%4294967296:Nat):Int):=by
 have h:x/2^s<18446744073709551616:=du (dA _ _) aA;rw[show((x:Int)/2^s)=((x/2^s:Nat):Int)by simp,DJ _ h];simp
def ahs(A:Option Addr)(c:Nat)(M:List Nat)(n:Nat)(w:World)(lq:Sl w A c M)(hlen:M.length<=3000)(hn:n<=100000):
 Calls prog 220 #[.slice A M.length c,.int .i64 n] w (xd w (ia (val M/2^n))):=by
 have hC:=lq.cap;have hL:=lq.qV;have Mg:Hid (iH (qO (n%32) (M.drop (n/32)))=ia (val M/2^n)):=by
  show _=_;rw[uZ (FG _ _),OM lq.ok]
 obtain⟨R,hR⟩:∃ R,R=ia (val M/2^n):=⟨_,rfl⟩
 rw[<-hR]at Mg ⊢;clear hR;obtain⟨m,hm⟩:∃ m,m=M.length:=⟨_,rfl⟩
 rw[<-hm]at hlen hC ⊢;have HM:=akH hm;clear hm;by_cases h0:m<=n/32
 .go_enter func220,ntmps220;go_wp2;go_ret;have:M.drop (n/32)=[]:=eN (by rw[<-HM.out];exact h0);have h:=Mg.out;rw[this]at h;rw[<-h];exact⟨none,0,rfl,Sl.nil _,iT.refl _⟩
 .obtain ⟨ab,ao,rfl,_,_⟩:=lq.mr (i:=0) (by have:=HM.out;omega);have hK:=lq.drop (n/32);have um:=akH (show m-n/32=(M.drop (n/32)).length by rw[cG,HM.out]);have oz:n/32<c:= aA ;have pV:0<m-n/32:= aA ;have xr:m-n/32<=3000:= aA ;generalize M.drop (n/32)=K at *
  simp only[bZ,DH]at hK;have zE:=akH (JU (n%32) K);have LV:=akH (WE (n%32) K);have Eg:=akH (FG (n%32) K);generalize qO (n%32) K=T at *
  go_enter func220,ntmps220;go_wp2;go_loopw [5,6] (λv i wr=>∃ (k:Nat) (O:List Nat),k<=m-n/32/\i = .int .i64 k/\O=T.take k/\Ow wr w.heap.size v O/\iT w wr) (λ_ i _=>m-n/32-(intOf i).toNat)
  case atStart=>
   exact⟨0,[],cg _,rfl,aF,Ow.nil _ _,iT.refl _⟩
  case round=>
   obtain⟨k,O,hk,rfl,hO,oB,hb⟩:=hrel;have RW:O.length<=3000:=by rw[hO,cC];omega
   have HO:=akH hO;clear hO;obtain⟨OA,Oc,rfl,AY⟩:=oB.sl;by_cases iJ:k<m-n/32
   .have ur:k<K.length:=by have:=um.out;omega
    obtain⟨ab',ao',e',_,c1⟩:=(hK.below hb).mr ur;cases e';have hg:=LV.out k ur;have ni:K[k]<4294967296:=hK.ok.get ur;have HK:=akH (bw ur);by_cases ac5:k+1<m-n/32
    .have yz:k+1<K.length:=by have:=um.out;omega
     obtain⟨ab',ao',e',_,c2⟩:=(hK.below hb).mr yz;cases e';have hy:K.getD (k+1) 0=K[k+1]:=by rw[bk,bw yz];rfl
     rw[hy]at hg;have qU:K[k+1]<4294967296:=hK.ok.get yz;have HG:=akH hg;clear hg hy;generalize K[k]=x at *
     generalize K[k+1]=y at *
     clear ur yz;have hw:=aip x y (n%32) ni qU;have hz:(x+4294967296*y)/2^(n%32)%4294967296<4294967296:=bI _ aC;generalize (x+4294967296*y)/2^(n%32)%4294967296=z at *
     have mG:O.length+[z].length<=10000000000:= aL ;go_wp2_with (at_builtin;go_must (refine zn aE _ _ aE w.heap.size _ O aE (oB.alloc _) _ _ _ [z] aE aE (Sl.C2 _ _ z aA aA) mG (wM hb.size _) ?_);intro v' w1 wC hg sj)
     go_roundw
     case rel=>
      exact⟨k+1,O++[z],aA,by go_num,by rw[HO.out,List.take_add_one,HG.out];rfl,wC,(hb.trans (iT.alloc _ _)).own _ _ (oB.alloc _) hg⟩
     case measure=>simp[intOf];omega
    .have hy:K.getD (k+1) 0=0:=by rw[bk,bR (by have:=um.out;omega)];rfl
     rw[hy]at hg;have HG:=akH hg;clear hg hy;generalize K[k]=x at *
     clear ur;have hw:=aio x (n%32) ni;have hz:(x+4294967296*0)/2^(n%32)%4294967296<4294967296:=bI _ aC;generalize (x+4294967296*0)/2^(n%32)%4294967296=z at *
     have mG:O.length+[z].length<=10000000000:= aL ;go_wp2_with (at_builtin;go_must (refine zn aE _ _ aE w.heap.size _ O aE (oB.alloc _) _ _ _ [z] aE aE (Sl.C2 _ _ z aA aA) mG (wM hb.size _) ?_);intro v' w1 wC hg sj)
     go_roundw
     case rel=>
      exact⟨k+1,O++[z],aA,by go_num,by rw[HO.out,List.take_add_one,HG.out];rfl,wC,(hb.trans (iT.alloc _ _)).own _ _ (oB.alloc _) hg⟩
     case measure=>simp[intOf];omega
   .have hOT:Hid (iH O=R):=by
     show iH O=R;rw[HO.out,df (by rw[zE.out,<-um.out];omega)];exact Mg.out
    go_wp2_with fail;refine(Og OA Oc O _ AY aA).mono ?_;rintro e w' ⟨A'',c'',rfl,ux,px⟩;go_wp2;go_ret;rw[<-hOT.out];exact⟨A'',c'',rfl,ux,hb.trans px⟩
def LG{L:List Nat}{k:Nat}(h:k<L.length):L.getD k 0=L[k]:=by
 rw[bk,bw h];rfl
def LF{L:List Nat}{k:Nat}(h:¬k<L.length):L.getD k 0=0:=by
 rw[bk,bR aA];rfl
def ajq(x s:Nat)(hx:x<4294967296):bits BinOp.and IntKind.u32 ((x:Int)/2^s) 1=((x/2^s%2:Nat):Int):=by
 have h:x/2^s<4294967296:=du (dA _ _) aA;rw[show((x:Int)/2^s)=((x/2^s:Nat):Int)by simp,show(1:Int)=((1:Nat):Int)from rfl,bits_and_u32_nat _ _ h aC,Nat.and_one_is_mod]
def ahv(A:Option Addr)(c:Nat)(L:List Nat)(w:World)(hs:Sl w A c L)(h1:L.length<=3000)(h0:val L≠0):
 Calls prog 219 #[.slice A L.length c] w λe w'=>e = .returned (.int .i64 (kj (val L)))/\w=w':=by
 have hz:=DW hs.ok h0;have HB:=akH (λk (hk:k<kj (val L))=>YE h0 hk);have HE:=akH (YD h0);have HV:=akH (λk=>YF hs.ok k);generalize kj (val L)=t at *
 go_enter func219,ntmps219;go_wp2;go_loop [3] (λi=>∃ k:Nat,k<=t/\i = .int .i64 k) (λi=>t-(intOf i).toNat)
 case atStart=>exact⟨0,cg _,rfl⟩
 case round=>
  obtain⟨k,hk,rfl⟩:=hrel;have Mk:k/32<L.length:= aA ;obtain⟨ab,ao,rfl,_,c1⟩:=hs.mr Mk;have hv:=HV.out k Mk;have ni:L[k/32]<4294967296:=hs.ok.get Mk;generalize L[k/32]=x at *
  clear HV;have AQ:=ajq x (k%32) ni;rw[<-hv]at AQ;clear hv;by_cases hkt:k<t
  .rw [HB.out k hkt]at AQ;have hb:(bits BinOp.and IntKind.u32 ((x:Int)/2^(k%32)) 1==0)=true:=by rw[AQ];rfl
   clear AQ;go_wp2;go_round
   case rel=>exact⟨k+1,aA,by go_num⟩
   case measure=>simp[intOf];omega
  .obtain rfl:k=t:= aA ;rw[HE.out]at AQ;have hb:(bits BinOp.and IntKind.u32 ((x:Int)/2^(k%32)) 1==0)=false:=by rw[AQ];rfl
   clear AQ;go_wp2;go_ret;exact⟨rfl,rfl⟩
def U7{O:List Nat}{p a b c o:Nat}(ho:O[p]? = some o):
 val (O.set p ((a*b+o+c)%4294967296))+4294967296^(p+1)*((a*b+o+c)/4294967296)=val O+4294967296^p*c+4294967296^p*(a*b):=by
 obtain⟨hp,rfl⟩:=ca.1 ho;have h:=OL (x:=(a*b+O[p]+c)%4294967296) hp;have e:=congrArg (4294967296^p * ·) (en (a*b+O[p]+c) 4294967296);simp only[bU]at e;rw[bT,bE];omega
def PU{O:List Nat}{p c o:Nat}(ho:O[p]? = some o):
 val (O.set p ((o+c)%4294967296))+4294967296^(p+1)*((o+c)/4294967296)=val O+4294967296^p*c:=by
 have h:=U7 (a:=0) (b:=0) (c:=c) ho;simpa using h
def rz(x:Nat)(h:x<18446744073709551616):IntKind.u64.wrap (x:Int)=x:=by rw[IntKind.wrap_u64];omega
def Fp.iM.Wz{L:List Nat}(h:iM L)(k:Nat)(x:Nat):iM (L.set k (x%4294967296)):=h.set k (bI _ aC)
def Of(s:Bool)(A:Option Addr)(c:Nat)(L:List Nat)(e:Int)(w:World)(hs:Sl w A c L)(hlen:L.length<=3000)(ml:-1000000<=e)(lH:e<=1000000):
 Calls prog 149 #[.bool s,.slice A L.length c,.int .i64 e] w (yb w (canon s (val L) e)):=by
 by_cases h0:val L=0
 .have pW:=akH (show canon s (val L) e=iL by unfold canon;rw[bj h0];rfl);have MA:iH L=[]:=by rw[uZ hs.ok,h0,oD]
  have hT:=akH (λw (h:Sl w A c L)=>Og A c L w h aA);rw[MA]at hT;clear MA h0;go_enter func149,ntmps149;go_wp2_with fail;refine(hT.out _ (hs.alloc _)).mono ?_;rintro e w' ⟨A',c',rfl,qn,hb⟩;have bx:=(jF.new w false none 0 0 0).ext hb;have b0:=bx.c0;have b1:=bx.c1;have b2:=bx.c2;have f0:=bx.fr 0;have f1:=bx.fr 1;have f2:=bx.fr 2;go_wp2;rw[pW.out];have hz:ia iL.m=[]:=oD;exact yl rfl rfl rfl (bx.set _ _ _ _ _) (by rw[hz];rfl) (by rw[hz];exact bx.uY (Sl.nil _) _ _ _ _ _) (jF.tS ((iT.alloc _ _).trans hb) (bl _) _ _ _ _ _)
 .have pW:=akH (show canon s (val L) e=⟨s,val L/2^kj (val L),e+kj (val L)⟩by unfold canon;rw[bh h0]);have hT:=akH (λw (h:Sl w A c L)=>Og A c L w h aA);have ht1:=pJ L;unfold mo at ht1;have hv:=qG L;have lg:=hs.ok.iH;generalize iH L=M at *
  rw[<-hv]at h0 pW ⊢;clear hv;have hZ:=akH (λA c w (h:Sl w A c M)=>ahv A c M w h aA h0);have tv:kj (val M)<=100000:=by have:=DW lg h0;omega
  have hR:=akH (λA c w (h:Sl w A c M)=>ahs A c M (kj (val M)) w h aA tv);have wo:M.length≠0:=by intro h;rw[dn h]at h0;exact h0 rfl
  generalize val M/2^kj (val M)=q at *
  generalize kj (val M)=t at *
  obtain⟨m,hm⟩:∃ m,m=M.length:=⟨_,rfl⟩
  go_enter func149,ntmps149;go_wp2_with fail;refine(hT.out _ (hs.alloc _)).mono ?_;rintro e' w1 ⟨A1,c1,rfl,uy,kV⟩;go_wp2_with fail;refine(hZ.out _ _ _ uy).mono ?_;rintro e' w2 ⟨rfl,rfl⟩;go_wp2_with fail;refine(hR.out _ _ _ uy).mono ?_;rintro e' w2 ⟨A2,c2,rfl,lq,nh⟩;have hb:=kV.trans nh;have bx:=(jF.new w false none 0 0 0).ext hb;have b0:=bx.c0;have b1:=bx.c1;have b2:=bx.c2;have f0:=bx.fr 0;have f1:=bx.fr 1;have f2:=bx.fr 2;go_wp2;rw[pW.out];exact yl rfl rfl rfl (bx.set _ _ _ _ _) rfl (bx.uY lq _ _ _ _ _) (jF.tS ((iT.alloc _ _).trans hb) (bl _) _ _ _ _ _)
def aay(A:Option Addr)(c:Nat)(L:List Nat)(w:World)(hs:Sl w A c L)(h1:L.length<=3000)(h0:val L≠0)(hT:Tb w):
 Calls prog 201 #[.slice A L.length c] w λe w'=>e = .returned (.int .i64 (kj (val L)))/\w=w':=by
 have lg:=hs.ok;have HV:=akH (λi hi h hx=>ZA lg i hi h hx);have H0:=akH h0;clear h0;go_enter func201,ntmps201;go_wp2;go_loop [3,8] (λn i=>∃ k:Nat,k<=L.length/\i = .int .i64 k/\n = .int .i64 ((32*k:Nat):Int)/\∀ j,(hj:j<k)->L[j]? = some 0) (λ_ i=>L.length-(intOf i).toNat)
 case atStart=>exact⟨0,cg _,rfl,rfl,λj hj=> aA⟩
 case round=>
  obtain⟨k,hk,rfl,rfl,hz⟩:=hrel;have HZ:=akH hz;clear hz;by_cases iJ:k<L.length
  .obtain ⟨ab,ao,rfl,_,c1⟩:=hs.mr iJ;have ni:L[k]<4294967296:=lg.get iJ;have HG:=akH (bw iJ);have HC:=akH (λhx=>HV.out k iJ (λj hj=>by have:=HZ.out j hj;rw[bw aA]at this;simpa using this) hx);clear HV;generalize L[k]=x at *
   by_cases hx:x=0
   .have HX:=akH hx;clear hx;have hb:((x:Int) != 0)=false:=by have:=HX.out;simp;omega
    go_wp2;go_round
    case rel=>exact⟨k+1,aA,by go_num,by go_num,λj hj=>by
     by_cases e:j=k
     .subst e;rw[HG.out,HX.out]
     .exact HZ.out j aA⟩
    case measure=>simp[intOf];omega
   .have hb:((x:Int) != 0)=true:= aL ;have HX:=akH (HC.out hx);have ajT:kj x<=32:=by
     have h1:=Jn hx;rcases fN 32 (kj x)with h|h
     .have:=akd (a:=2) aC h;have e:(2:Nat)^32=4294967296:= aC ;omega
     .exact h
    go_wp2_with (go_at_call 249;refine(ajn x hx ni _ hT).mono ?_;rintro e w' ⟨rfl,rfl⟩)
    go_ret;exact⟨qF (by rw[HX.out];simp),rfl⟩
  .exfalso;have:val L=0:=by
    rw[Gh];intro y hy;obtain⟨j,hj,rfl⟩:=fQ hy;have:=HZ.out j aA;rw[bw hj]at this;simpa using this
   exact H0.out this
def G2(s:Bool)(A:Option Addr)(c:Nat)(L:List Nat)(e:Int)(w:World)(hs:Sl w A c L)(_hlen:L.length<=100000)(mF:(iH L).length<=256)(ml:-1000000<=e)(lH:e<=1000000)(tn:Tb w):
 Calls prog 123 #[.bool s,.slice A L.length c,.int .i64 e] w (yb w (canon s (val L) e)):=by
 have hT:=akH (λw (h:Sl w A c L)=>aaC A c L w h);have lq:=hs.tV;have hv:=qG L;have lg:=hs.ok.iH;have A8:=zj L;generalize iH L=M at *
 rw[<-hv];clear hv;by_cases h0:val M=0
 .have pW:=akH (show canon s (val M) e=iL by unfold canon;rw[bj h0];rfl);have wo:Hid (M.length=0):=by
   show M.length=0;rw[A8.G6 lg,h0,oD];rfl
  obtain⟨m,hm⟩:∃ m,m=M.length:=⟨_,rfl⟩
  rw[<-hm]at hT wo;clear hm h0;obtain rfl:m=0:=wo.out;clear wo;go_enter func123,ntmps123;go_wp2_with fail;refine(hT.out _ (hs.alloc _)).mono ?_;rintro e w' ⟨rfl,rfl⟩;have bx:=jF.new w false none 0 0 0;have b0:=bx.c0;have b1:=bx.c1;have b2:=bx.c2;have f0:=bx.fr 0;have f1:=bx.fr 1;have f2:=bx.fr 2;go_wp2;rw[pW.out];have hz:ia iL.m=[]:=oD;exact yl rfl rfl rfl bx (by rw[hz];rfl) (by rw[hz];exact Sl.nil _) (iT.alloc _ _)
 .have pW:=akH (show canon s (val M) e=⟨s,val M/2^kj (val M),e+kj (val M)⟩by unfold canon;rw[bh h0]);have hZ:=akH (λA c w (h:Sl w A c M) (ht:Tb w)=>aay A c M w h aA h0 ht);have tv:kj (val M)<=65536:=by have:=DW lg h0;omega
  have hR:=akH (λA c w (h:Sl w A c M)=>Vf A c M (kj (val M)) w h mF tv);have wo:M.length≠0:=by intro h;rw[dn h]at h0;exact h0 rfl
  have sT:(ia (val M/2^kj (val M))).length<=256:=by
   refine wN (du (dA _ _) ?_);exact bO (pq lg) (b9 aC mF)
  generalize val M/2^kj (val M)=q at *
  generalize kj (val M)=t at *
  have hK:=akH (λA c w (h:Sl w A c (ia q))=>KU A c (ia q) w h aA);have hP:=akH (λA c w (h:Sl w A c (ia q))=>KT A c (ia q) w h);obtain⟨Q,hQ⟩:∃ Q,Q=ia q:=⟨_,rfl⟩
  have HQ:=akH hQ;rw[<-hQ]at hR hK hP sT;clear hQ;go_enter func123,ntmps123;go_wp2_with fail;refine(hT.out _ (hs.alloc _)).mono ?_;rintro e' w1 ⟨rfl,rfl⟩;go_wp2_with fail;refine(hZ.out _ _ _ (lq.alloc _) (tn.alloc _)).mono ?_;rintro e' w2 ⟨rfl,rfl⟩;go_wp2_with fail;refine(hR.out _ _ _ (lq.alloc _)).mono ?_;rintro e' w2 ⟨A2,c2,rfl,adi,nh⟩;go_wp2_with fail;refine(hK.out _ _ _ adi).mono ?_;rintro e' w3 ⟨A3,c3,rfl,EF,rH⟩;go_wp2_with fail;refine(hP.out _ _ _ EF).mono ?_;rintro e' w4 ⟨rfl,rfl⟩;have hb:=nh.trans rH;have bx:=(jF.new w false none 0 0 0).ext hb;have b0:=bx.c0;have b1:=bx.c1;have b2:=bx.c2;have f0:=bx.fr 0;have f1:=bx.fr 1;have f2:=bx.fr 2;go_wp2;rw[pW.out];rw[HQ.out]at EF ⊢;exact yl rfl rfl rfl (bx.set _ _ _ _ _) rfl (bx.uY EF.P6 _ _ _ _ _) (jF.tS ((iT.alloc _ _).trans hb) (bl _) _ _ _ _ _)
def Ld(A:Option Addr)(c:Nat)(L:List Nat)(w:World)(hs:Sl w A c L)(hlen:L.length<=100000000):
 Calls prog 181 #[.slice A L.length c] w λe w'=>e = .returned (.int .i64 (iy (val L)))/\w=w':=by
 have H:=akH (Va A c L w hs hlen);go_enter func181,ntmps181;go_wp2_with fail;refine H.out.mono ?_;rintro e w' ⟨rfl,rfl⟩;go_wp2;go_ret;exact⟨rfl,rfl⟩
def uC(m:Nat)(e:Int):Bool:=decide (oC ⟨false,m,e⟩)
def MN(s:Bool)(A:Option Addr)(c:Nat)(L:List Nat)(e:Int)(w:World)(hs:Sl w A c L)(hlen:L.length<=100000000)(ml:-9223372036854775808<=e)(lH:e<=9223372036854775807):
 Calls prog 105 #[.agg #[.bool s,.slice A L.length c,.int .i64 e]] w λr w'=>r = .returned (.bool (uC (val L) e))/\iT w w':=by
 have H:=akH (λw (h:Sl w A c L)=>Ld A c L w h hlen);have hn:Hid (uC (val L) e=decide (iy (val L)=0\/iy (val L)<=4096 /\ -16384<=e/\e<=16384/\(iy (val L):Int)+e<=16384)):=by
  have h:iy (val L)=0↔val L=0:=by
   constructor
   .intro h;apply ch;intro h0;have:=qf h0;omega
   .intro h;rw[h];rfl
  exact ake.2 (or_congr h.symm Iff.rfl)
 have zF:iy (val L)<=32*L.length:=mv.2 (by rw[<-s6];exact pq hs.ok);generalize iy (val L)=n at *
 generalize uC (val L) e=b at *
 have acK:n=0\/(0<n/\4096<n)\/(0<n/\n<=4096/\e < -16384)\/(0<n/\n<=4096 /\ -16384<=e/\16384<e)\/(0<n/\n<=4096 /\ -16384<=e/\e<=16384/\16384<(n:Int)+e)\/(0<n/\n<=4096 /\ -16384<=e/\e<=16384/\(n:Int)+e<=16384):= aA ;rcases acK with h|⟨h,h1⟩|⟨h,h1,h2⟩|⟨h,h1,h2,h3⟩|⟨h,h1,h2,h3,h4⟩|⟨h,h1,h2,h3,h4⟩
 .subst h;have hb:b=true:=by rw[hn.out];simp
  clear hn;subst hb;go_enter func105,ntmps105;go_wp2_with fail;refine(H.out _ (hs.alloc _)).mono ?_;rintro r w' ⟨rfl,rfl⟩;go_wp2;go_ret;exact⟨rfl,iT.alloc _ _⟩
 .have hb:b=false:=by rw[hn.out];simp;omega
  have sQ:((n:Int)==0)=false:= aL ;have tz:decide ((n:Int)<=4096)=false:= aL ;clear hn;subst hb;go_enter func105,ntmps105;go_wp2_with fail;refine(H.out _ (hs.alloc _)).mono ?_;rintro r w' ⟨rfl,rfl⟩;go_wp2;go_ret;exact⟨rfl,iT.alloc _ _⟩
 .have hb:b=false:=by rw[hn.out];simp;omega
  have sQ:((n:Int)==0)=false:= aL ;have tz:decide ((n:Int)<=4096)=true:= aL ;have lI:decide (-16384<=e)=false:= aL ;clear hn;subst hb;go_enter func105,ntmps105;go_wp2_with fail;refine(H.out _ (hs.alloc _)).mono ?_;rintro r w' ⟨rfl,rfl⟩;go_wp2;go_ret;exact⟨rfl,iT.alloc _ _⟩
 .have hb:b=false:=by rw[hn.out];simp;omega
  have sQ:((n:Int)==0)=false:= aL ;have tz:decide ((n:Int)<=4096)=true:= aL ;have lI:decide (-16384<=e)=true:= aL ;have Cy:decide (e<=16384)=false:= aL ;clear hn;subst hb;go_enter func105,ntmps105;go_wp2_with fail;refine(H.out _ (hs.alloc _)).mono ?_;rintro r w' ⟨rfl,rfl⟩;go_wp2;go_ret;exact⟨rfl,iT.alloc _ _⟩
 .have hb:b=false:=by rw[hn.out];simp;omega
  have sQ:((n:Int)==0)=false:= aL ;have tz:decide ((n:Int)<=4096)=true:= aL ;have lI:decide (-16384<=e)=true:= aL ;have Cy:decide (e<=16384)=true:= aL ;have hn4:decide ((n:Int)+e<=16384)=false:= aL ;clear hn;subst hb;go_enter func105,ntmps105;go_wp2_with fail;refine(H.out _ (hs.alloc _)).mono ?_;rintro r w' ⟨rfl,rfl⟩;go_wp2;go_ret;exact⟨rfl,iT.alloc _ _⟩
 .have hb:b=true:=by rw[hn.out];simp;omega
  have sQ:((n:Int)==0)=false:= aL ;have tz:decide ((n:Int)<=4096)=true:= aL ;have lI:decide (-16384<=e)=true:= aL ;have Cy:decide (e<=16384)=true:= aL ;have hn4:decide ((n:Int)+e<=16384)=true:= aL ;clear hn;subst hb;go_enter func105,ntmps105;go_wp2_with fail;refine(H.out _ (hs.alloc _)).mono ?_;rintro r w' ⟨rfl,rfl⟩;go_wp2;go_ret;exact⟨rfl,iT.alloc _ _⟩
def pg(s:Bool)(L:List Nat)(e:Int):Prop:=oQ L/\L.length<=256/\Dy.ic ⟨s,val L,e⟩
def QN(s:Bool)(e:Int):pg s [] e↔s=false/\e=0:=by
 unfold pg;constructor
 .rintro ⟨_,_,hc,_⟩;rcases hc with⟨_,h1,h2⟩|h
  .exact ⟨h1,h2⟩
  .simp at h
 .rintro ⟨rfl,rfl⟩;exact⟨oQ.nil,aF,oI⟩
def QL{s:Bool}{L:List Nat}{e:Int}{x y:Nat}(hx:L[0]? = some x)(hy:L[L.length-1]? = some y):
 pg s L e↔L.length<=256/\x%2=1/\y≠0/\uC (val L) e=true:=by
 have SK:val L%2=x%2:=by
  cases L with
  |nil=>simp at hx
  |cons z l=>simp at hx;subst hx;simp only[se];omega
 have A8:oQ L↔y≠0:=by
  rw[Ap];obtain⟨h1,h2⟩:=ca.1 hy;constructor
  .intro h;rw[<-h2];exact h aA 
  .intro h _;rw[h2];exact h
 unfold pg uC;rw[A8,akf];constructor
 .rintro ⟨h1,h2,hc,hr⟩;have pC:oC ⟨false,val L,e⟩:=hr;refine⟨h2,?_,h1,pC⟩;rcases hc with⟨h,_,_⟩|h
  .exfalso;have:=(A8.2 h1).Dr (by intro h0;subst h0;simp at hx);simp only at h;omega
  .rw [<-SK];exact h
 .rintro ⟨h1,h2,h3,h4⟩;exact⟨h3,h1,.inr (by show val L%2=1;rw[SK];exact h2),h4⟩
def rD{b:Bool}{P:Prop}(h:b=true↔P)(hn:¬P):b=false:=by
 cases b
 .rfl
 .exact absurd (h.1 rfl) hn
def KG{b:Bool}{P:Prop}(h:b=true↔P)(hn:P):b=true:=h.2 hn
def Yz{b v:Bool}{P:Prop}(h:b=true↔P)(hn:P↔v=true):b=v:=by
 cases b<;>cases v<;>simp_all
def AH(s:Bool)(A:Option Addr)(c:Nat)(L:List Nat)(e:Int)(w:World)(b:Bool)(hs:Sl w A c L)(ml:-9223372036854775808<=e)(lH:e<=9223372036854775807)(hb:b=true↔pg s L e):
 Calls prog 60 #[.agg #[.bool s,.slice A L.length c,.int .i64 e]] w λr w'=>r = .returned (.bool b)/\iT w w':=by
 have Cs:=hs.cap;have tv:=hs.qV;by_cases hL:L=[]
 .subst hL;rw[QN]at hb;cases s
  .by_cases h:e=0
   .subst h;have:b=true:=by simpa using hb
    clear hb;subst this;go_enter func60,ntmps60;go_wp2;go_ret;exact⟨rfl,iT.alloc _ _⟩
   .have:b=false:=rD hb (by simp[h]);have h':(e==0)=false:= aL ;clear hb;subst this;go_enter func60,ntmps60;go_wp2;go_ret;exact⟨rfl,iT.alloc _ _⟩
  .have:b=false:=rD hb aF ;clear hb;subst this;go_enter func60,ntmps60;go_wp2;go_ret;exact⟨rfl,iT.alloc _ _⟩
 .have vw:0<L.length:=fC.2 hL;clear hL;obtain⟨ab,ao,rfl,_,c1⟩:=hs.mr vw;obtain⟨ab',ao',e',_,c2⟩:=hs.mr (i:=L.length-1) aA;cases e';have ni:=hs.ok.get vw;have qU:=hs.ok.get (aA:L.length-1<L.length);rw[QL (bw vw) (bw (aA:L.length-1<L.length))]at hb;have c1':w.cell? ⟨ab,ao,none⟩=some (.int .u32 (L[0]:Int)):=c1;clear c1;generalize L[0]=x at *
  generalize L[L.length-1]=y at *
  have HB:=akH hb;clear hb;have H:=akH (λw (h:Sl w (some ⟨ab,ao,none⟩) c L) (hl:L.length<=256)=>MN s _ c L e w h aA ml lH);obtain⟨n,hn⟩:∃ n,n=L.length:=⟨_,rfl⟩
  rw[<-hn]at vw c2 H HB Cs ⊢;clear hn;generalize uC (val L) e=v at *
  have sQ:((n:Int)==0)=false:= aL ;by_cases h1:n<=256
  .have tz:decide ((n:Int)<=256)=true:= aL ;by_cases h2:x%2=1
   .have lI:((x:Int)%2==1)=true:= aL ;by_cases h3:y=0
    .have:b=false:=rD HB.out (by simp[h3]);have Cy:((y:Int) != 0)=false:= aL ;clear HB;subst this;go_enter func60,ntmps60;go_wp2;go_ret;exact⟨rfl,iT.alloc _ _⟩
    .have:b=v:=Yz HB.out (by simp[h1,h2,h3]);have Cy:((y:Int) != 0)=true:= aL ;clear HB;subst this;go_enter func60,ntmps60;go_wp2_with fail;refine(H.out _ (hs.alloc _) h1).mono ?_;rintro r w' ⟨rfl,px⟩;go_wp2;go_ret;exact⟨rfl,(iT.alloc _ _).trans px⟩
   .have:b=false:=rD HB.out (λh=>h2 h.2.1);have lI:((x:Int)%2==1)=false:= aL ;clear HB;subst this;go_enter func60,ntmps60;go_wp2;go_ret;exact⟨rfl,iT.alloc _ _⟩
  .have:b=false:=rD HB.out (λh=>h1 h.1);have tz:decide ((n:Int)<=256)=false:= aL ;clear HB;subst this;go_enter func60,ntmps60;go_wp2;go_ret;exact⟨rfl,iT.alloc _ _⟩
def IH{n k:Nat}(h:iy n<=32*k):(ia n).length<=k:=wN (by rw[s6];exact mv.1 h)
def aah(d:Dy):pg d.neg (ia d.m) d.e↔d.ic:=by
 unfold pg;rw[lW];constructor
 .exact λh=>h.2.2
 .intro h;refine⟨J8 _,?_,h⟩;rcases h.range with h0|⟨h1,_⟩
  .rw [h0,oD];simp
  .exact IH aA 
def pg.G6{s:Bool}{L:List Nat}{e:Int}(h:pg s L e)(hk:iM L):L=ia (val L):=h.1.G6 hk
def pg.len{s:Bool}{L:List Nat}{e:Int}(h:pg s L e):L.length<=256:=h.2.1
def pg.bits{s:Bool}{L:List Nat}{e:Int}(h:pg s L e):iy (val L)<=4096:=by
 rcases h.2.2.range with h0|⟨h1,_⟩
 .simp only at h0;rw[h0];decide
 .exact h1
def pg.exp{s:Bool}{L:List Nat}{e:Int}(h:pg s L e):-16384<=e/\e<=16384:=by
 rcases h.2.2.range with h0|⟨_,h1,h2,_⟩
 .rcases h.2.2.canon with⟨_,_,h3⟩|h3
  .simp only at h3;omega
  .simp only at h0 h3;omega
 .exact ⟨h1,h2⟩
def Le(s:Bool)(A:Option Addr)(c:Nat)(L:List Nat)(e:Int)(w:World)(hs:Sl w A c L)(hd:pg s L e):
 Calls prog 176 #[.agg #[.bool s,.slice A L.length c,.int .i64 e]] w λr w'=>r = .returned (.int .i64 (Dy.iI ⟨s,val L,e⟩))/\iT w w':=by
 obtain⟨ml,lH⟩:=hd.exp;have hl:=hd.len;have Cr:=hd.bits;have HV:=akH (λw (h:Sl w A c L)=>AH s A c L e w true h aA aA (by simp[hd]));have HS:=akH (λw (h:Sl w A c L)=>Ld A c L w h aA);by_cases h0:L=[]
 .subst h0;go_enter func176,ntmps176;go_wp2_with fail;refine(HV.out _ (hs.alloc _)).mono ?_;rintro r w' ⟨rfl,hb⟩;have bx:=(jF.new w s A 0 c e).ext hb;have b0:=bx.c0;have b1:=bx.c1;have b2:=bx.c2;go_wp2;go_ret;exact⟨rfl,(iT.alloc _ _).trans hb⟩
 .have vw:0<L.length:=fC.2 h0;have zS:val L≠0:=by have:=hd.1.Dr h0;omega
  have ht:=akH (show Dy.iI ⟨s,val L,e⟩=iy (val L)+e by unfold Dy.iI;rw[bh zS]);clear h0 zS;generalize Dy.iI ⟨s,val L,e⟩=t at *
  generalize iy (val L)=q at *
  have hw:IntKind.i64.wrap ((q:Int)+e)=q+e:=i64_in _ aA aA;have sQ:((L.length:Int)==0)=false:=aX aA;go_enter func176,ntmps176;go_wp2_with fail;refine(HV.out _ (hs.alloc _)).mono ?_;rintro r w' ⟨rfl,hb⟩;have bx:=(jF.new w s A L.length c e).ext hb;have b0:=bx.c0;have b1:=bx.c1;have b2:=bx.c2;have qn:=(hs.alloc _).below hb;go_wp2_with fail;go_region_held3 (λw'=>w'.cell? ⟨w.heap.size,1,none⟩=some (.slice A L.length c)/\w'.cell? ⟨w.heap.size,2,none⟩=some (.int .i64 e)) (go_keep)
   (first|(go_at_call 181;refine(HS.out _ ?_).mono ?_;(exact qn.drew);rintro r w'' ⟨rfl,rfl⟩))
  go_wp2;go_ret;exact⟨qF (by rw[ht.out]),Below.drew ((iT.alloc _ _).trans hb)⟩
def aas(s:Bool)(A:Option Addr)(c:Nat)(L:List Nat)(e:Int)(w:World)(hs:Sl w A c L)(hd:pg s L e):
 Calls prog 279 #[.agg #[.bool s,.slice A L.length c,.int .i64 e]] w λr w'=>r = .returned (.int .i64 (iy (val L)))/\iT w w':=by
 obtain⟨ml,lH⟩:=hd.exp;have hl:=hd.len;have HV:=akH (λw (h:Sl w A c L)=>AH s A c L e w true h aA aA (by simp[hd]));have HS:=akH (λw (h:Sl w A c L)=>Ld A c L w h aA);go_enter func279,ntmps279;go_wp2_with fail;refine(HV.out _ (hs.alloc _)).mono ?_;rintro r w' ⟨rfl,hb⟩;have bx:=(jF.new w s A L.length c e).ext hb;have b0:=bx.c0;have b1:=bx.c1;have b2:=bx.c2;go_wp2_with fail;refine(HS.out _ ((hs.alloc _).below hb)).mono ?_;rintro r w' ⟨rfl,rfl⟩;go_wp2;go_ret;exact⟨rfl,(iT.alloc _ _).trans hb⟩
def Lc(s:Bool)(A:Option Addr)(c:Nat)(L:List Nat)(e:Int)(w:World)(hs:Sl w A c L)(hd:pg s L e):
 Calls prog 50 #[.agg #[.bool s,.slice A L.length c,.int .i64 e]] w λr w'=>r = .returned (.int .i64 (Dy.kf ⟨s,val L,e⟩))/\iT w w':=by
 obtain⟨ml,lH⟩:=hd.exp;have hl:=hd.len;have HV:=akH (λw (h:Sl w A c L)=>AH s A c L e w true h aA aA (by simp[hd]));by_cases h0:L=[]
 .subst h0;go_enter func50,ntmps50;go_wp2_with fail;refine(HV.out _ (hs.alloc _)).mono ?_;rintro r w' ⟨rfl,hb⟩;have bx:=(jF.new w s A 0 c e).ext hb;have b0:=bx.c0;have b1:=bx.c1;have b2:=bx.c2;go_wp2;go_ret;exact⟨rfl,(iT.alloc _ _).trans hb⟩
 .have vw:0<L.length:=fC.2 h0;have zS:val L≠0:=by have:=hd.1.Dr h0;omega
  have ht:=akH (show Dy.kf ⟨s,val L,e⟩=if s then -1 else 1 by unfold Dy.kf;rw[bh zS]);clear h0 zS;generalize Dy.kf ⟨s,val L,e⟩=t at *
  have sQ:((L.length:Int)==0)=false:=aX aA;go_enter func50,ntmps50;go_wp2_with fail;refine(HV.out _ (hs.alloc _)).mono ?_;rintro r w' ⟨rfl,hb⟩;have bx:=(jF.new w s A L.length c e).ext hb;have b0:=bx.c0;have b1:=bx.c1;have b2:=bx.c2;cases s
  .go_wp2;go_ret;exact⟨qF (by rw[ht.out];rfl),(iT.alloc _ _).trans hb⟩
  .go_wp2;go_ret;exact⟨qF (by rw[ht.out];rfl),(iT.alloc _ _).trans hb⟩
def abq(e:Int)(w:World)(b:Bool)(hb:b=true↔(-32768<=e/\e<=32768)):
 Calls prog 183 #[.int .i64 e] w λr w'=>r = .returned (.bool b)/\w=w':=by
 by_cases h1:-32768<=e
 .have d1:decide (-32768<=e)=true:=by simpa using h1
  by_cases h2:e<=32768
  .have d2:decide (e<=32768)=true:=by simpa using h2
   have:=KG hb ⟨h1,h2⟩;clear hb;subst this;go_enter func183,ntmps183;go_wp2;go_ret;exact⟨rfl,rfl⟩
  .have d2:decide (e<=32768)=false:=by simpa using h2
   have:=rD hb (λh=>h2 h.2);clear hb;subst this;go_enter func183,ntmps183;go_wp2;go_ret;exact⟨rfl,rfl⟩
 .have d1:decide (-32768<=e)=false:=by simpa using h1
  have:=rD hb (λh=>h1 h.1);clear hb;subst this;go_enter func183,ntmps183;go_wp2;go_ret;exact⟨rfl,rfl⟩
def P1(d:Dy)(A:Option Addr)(c:Nat)(w:World)(hs:Sl w A c (ia d.m))(hl:(ia d.m).length<=100000000)(ml:-10000000<=d.e)(lH:d.e<=10000000)(hd:oC d):
 Calls prog 184 #[.agg #[.bool d.neg,.slice A (ia d.m).length c,.int .i64 d.e]] w (yc w d 0):=by
 obtain⟨s,m,e⟩:=d;simp only at *
 have hr:uC m e=true:=by unfold uC;exact bn hd
 have HV:=akH (λw (h:Sl w A c (ia m))=>MN s A c (ia m) e w h hl aA aA);rw[lW,hr]at HV;clear hr hd;go_enter func184,ntmps184;go_wp2_with fail;refine(HV.out _ ((hs.alloc _).alloc _)).mono ?_;rintro r w' ⟨rfl,hb⟩;have bx:=((jF.new w s A (ia m).length c e).alloc (.cells #[.bool false,.slice none 0 0,.int .i64 0] 37)).ext hb;have by_:=(jF.new (w.alloc (.cells #[.bool s,.slice A (ia m).length c,.int .i64 e] 37)) false none 0 0 0).ext hb;have b0:=bx.c0;have b1:=bx.c1;have b2:=bx.c2;have bz:(w.alloc (.cells #[.bool s,.slice A (ia m).length c,.int .i64 e] 37)).heap.size=w.heap.size+1:= aF ;rw[bz]at by_;have c0:=by_.c0;have c1:=by_.c1;have c2:=by_.c2;have f0:=by_.fr 0;have f1:=by_.fr 1;have f2:=by_.fr 2;have qn:=((hs.alloc (.cells #[.bool s,.slice A (ia m).length c,.int .i64 e] 37)).alloc (.cells #[.bool false,.slice none 0 0,.int .i64 0] 37)).below hb;have px:iT w w':=((iT.alloc _ _).trans (iT.alloc _ _)).trans hb;clear bz;go_wp2;exact Ce rfl rfl rfl rfl (by_.set _ _ _ _ _) rfl (by_.uY qn _ _ _ _ _) (jF.tS px aA _ _ _ _ _)
def Zj(d:Dy)(A:Option Addr)(c:Nat)(w:World)(hs:Sl w A c (ia d.m))(hl:(ia d.m).length<=100000000)(ml:-10000000<=d.e)(lH:d.e<=10000000)(hd:¬oC d):
 Calls prog 184 #[.agg #[.bool d.neg,.slice A (ia d.m).length c,.int .i64 d.e]] w (yc w iL 9):=by
 obtain⟨s,m,e⟩:=d;simp only at *
 have hr:uC m e=false:=by unfold uC;exact bp hd
 have HV:=akH (λw (h:Sl w A c (ia m))=>MN s A c (ia m) e w h hl aA aA);rw[lW,hr]at HV;clear hr hd;go_enter func184,ntmps184;go_wp2_with fail;refine(HV.out _ ((hs.alloc _).alloc _)).mono ?_;rintro r w' ⟨rfl,hb⟩;have by_:=(jF.new (w.alloc (.cells #[.bool s,.slice A (ia m).length c,.int .i64 e] 37)) false none 0 0 0).ext hb;have bz:(w.alloc (.cells #[.bool s,.slice A (ia m).length c,.int .i64 e] 37)).heap.size=w.heap.size+1:= aF ;rw[bz]at by_;have c0:=by_.c0;have c1:=by_.c1;have c2:=by_.c2;have f0:=by_.fr 0;have f1:=by_.fr 1;have f2:=by_.fr 2;have px:iT w w':=((iT.alloc _ _).trans (iT.alloc _ _)).trans hb;have hz:ia iL.m=[]:=oD;have HZ:=akH hz;clear bz hz;go_wp2;exact Ce rfl rfl rfl rfl (by_.set _ _ _ _ _) (by rw[HZ.out];rfl) (by rw[HZ.out];exact by_.uY (Sl.nil _) _ _ _ _ _) (jF.tS px aA _ _ _ _ _)
def afk(s:Bool)(A:Option Addr)(c:Nat)(L:List Nat)(e:Int)(w:World)(hs:Sl w A c L)(hlen:L.length<=256)(ml:-32768<=e)(lH:e<=32768)(tn:Tb w)(hd:oC (canon s (val L) e)):
 Calls prog 338 #[.bool s,.slice A L.length c,.int .i64 e] w (yc w (canon s (val L) e) 0):=by
 have vr:decide (256<(L.length:Int))=false:=bp aA;have HE:=akH (λw=>abq e w true (by simp[ml,lH]));have HC:=akH (λw (h:Sl w A c L) (ht:Tb w)=>G2 s A c L e w h aA (by have:=pJ L;unfold mo at this;omega) aA aA ht);have kV:(ia (canon s (val L) e).m).length<=100000000:=by
  unfold canon;split
  .simp [oD]
  .refine bK (wN (k:=256) (du (dA _ _) ?_)) aC ;exact bO (pq hs.ok) (b9 aC hlen)
 have nh:-10000000<=(canon s (val L) e).e/\(canon s (val L) e).e<=10000000:=by
  unfold canon;split
  .simp
  .rename_i h0;have:=DW hs.ok h0;simp only;omega
 obtain⟨nh,rH⟩:=nh;have HK:=akH (λA c w (h:Sl w A c (ia (canon s (val L) e).m))=>P1 _ A c w h kV nh rH hd);generalize canon s (val L) e=d at *
 clear hd kV nh rH;go_enter func338,ntmps338;go_wp2_with fail;refine(HE.out _).mono ?_;rintro r w' ⟨rfl,rfl⟩;go_wp2_with fail;refine(HC.out _ (hs.alloc _) (tn.alloc _)).mono ?_;rintro r w1 ⟨A1,c1,rfl,uy,kV⟩;go_wp2_with fail;refine(HK.out _ _ _ uy).mono ?_;rintro r w2 ⟨A2,c2,rfl,lq,nh⟩;have hb:=kV.trans nh;have bx:=(jF.new w false none 0 0 0).ext hb;have b0:=bx.c0;have b1:=bx.c1;have b2:=bx.c2;have f0:=bx.fr 0;have f1:=bx.fr 1;have f2:=bx.fr 2;go_wp2;exact Ce rfl rfl rfl rfl (bx.set _ _ _ _ _) rfl (bx.uY lq _ _ _ _ _) (jF.tS ((iT.alloc _ _).trans hb) (bl _) _ _ _ _ _)
def ajp(x:Nat)(hx:x<4294967296):bits BinOp.and IntKind.u32 (x:Int) 1=((x%2:Nat):Int):=by
 rw[show(1:Int)=((1:Nat):Int)from rfl,bits_and_u32_nat _ _ hx aC,Nat.and_one_is_mod]
def adr{m:Nat}(h0:m≠0)(e:Int):uC m e=true↔(iy m<=4096 /\ -16384<=e/\e<=16384/\(iy m:Int)+e<=16384):=by
 have h:uC m e=true↔oC ⟨false,m,e⟩:=akf;rw[h];constructor
 .rintro (h|h)
  .exact absurd h h0
  .exact h
 .exact λh=>.inr h
def V9(s:Bool)(A:Option Addr)(c:Nat)(L:List Nat)(e:Int)(w:World)(b:Bool)(hs:Sl w A c L)(ml:-9223372036854775808<=e)(lH:e<=9223372036854775807)(hb:b=true↔pg s L e):
 Calls prog 17 #[.agg #[.bool s,.slice A L.length c,.int .i64 e]] w λr w'=>r = .returned (.bool b)/\iT w w':=by
 have Cs:=hs.cap;have tv:=hs.qV;by_cases hL:L=[]
 .subst hL;rw[QN]at hb;cases s
  .by_cases h:e=0
   .subst h;have:b=true:=by simpa using hb
    clear hb;subst this;go_enter func17,ntmps17;go_wp2;go_ret;exact⟨rfl,iT.alloc _ _⟩
   .have:b=false:=rD hb (by simp[h]);have h':(e==0)=false:= aL ;clear hb;subst this;go_enter func17,ntmps17;go_wp2;go_ret;exact⟨rfl,iT.alloc _ _⟩
  .have:b=false:=rD hb aF ;clear hb;subst this;go_enter func17,ntmps17;go_wp2;go_ret;exact⟨rfl,iT.alloc _ _⟩
 .have vw:0<L.length:=fC.2 hL;obtain⟨ab,ao,rfl,_,c1⟩:=hs.mr vw;obtain⟨ab',ao',e',_,c2⟩:=hs.mr (i:=L.length-1) aA;cases e';have ni:=hs.ok.get vw;have qU:=hs.ok.get (aA:L.length-1<L.length);rw[QL (bw vw) (bw (aA:L.length-1<L.length))]at hb;have c1':w.cell? ⟨ab,ao,none⟩=some (.int .u32 (L[0]:Int)):=c1;have R6:=akH (show L[L.length-1]≠0->oQ L from λh=>(Ap L).2 (λ_=>h));have wu:=akH (show L[L.length-1]≠0->val L≠0 from λh=>by have:=((Ap L).2 (λ_=>h)).Dr hL;omega);clear c1 hL;generalize L[0]=x at *
  generalize L[L.length-1]=y at *
  have HB:=akH hb;clear hb;have H:=akH (λw (h:Sl w (some ⟨ab,ao,none⟩) c L) (hl:L.length<=256) (ht:oQ L)=>ahl _ c L w h ht aA);have hr:Hid (val L≠0->(uC (val L) e=true↔(iy (val L)<=4096 /\ -16384<=e/\e<=16384/\(iy (val L):Int)+e<=16384))):=λh0=>by
   exact adr h0 e
  obtain⟨n,hn⟩:∃ n,n=L.length:=⟨_,rfl⟩
  rw[<-hn]at vw c2 H HB Cs ⊢;have HN:=akH hn;clear hn;have sQ:((n:Int)==0)=false:= aL ;by_cases h1:n<=256
  .have tz:decide (256<(n:Int))=false:=bp aA ;by_cases h3:y=0
   .have:b=false:=rD HB.out (by simp[h3]);have Cy:((y:Int)==0)=true:= aL ;clear HB hr;subst this;go_enter func17,ntmps17;go_wp2;go_ret;exact⟨rfl,iT.alloc _ _⟩
   .have Cy:((y:Int)==0)=false:=aX aA ;have hand:=ajp x ni;by_cases h2:x%2=1
    .have lI:(bits BinOp.and IntKind.u32 (x:Int) 1==0)=false:=by rw[hand,h2];rfl
     clear hand;have h0:=wu.out h3;have A8:=R6.out h3;have zF:iy (val L)<=32*n:=mv.2 (by rw[<-s6,HN.out];exact pq hs.ok);have HB2:Hid (b=true↔(iy (val L)<=4096 /\ -16384<=e/\e<=16384/\(iy (val L):Int)+e<=16384)):=by
      show b=true↔_;rw[HB.out,hr.out h0];simp[h1,h2,h3]
     have H2:=akH (λw h=>H.out w h h1 A8);clear HB hr h0 A8 R6 wu H;generalize iy (val L)=q at *
     by_cases h4:-16384<=e
     .have d4:decide (e < -16384)=false:=bp aA ;by_cases h5:e<=16384
      .have d5:decide (16384<e)=false:=bp aA ;by_cases h6:q<=4096
       .have d6:decide ((q:Int)<=4096)=true:=bn aA ;by_cases h7:(q:Int)+e<=16384
        .have d7:decide ((q:Int)+e<=16384)=true:=bn h7;have:=KG HB2.out ⟨h6,h4,h5,h7⟩;clear HB2;subst this;go_enter func17,ntmps17;go_wp2_with fail;refine(H2.out _ (hs.alloc _)).mono ?_;rintro r w' ⟨rfl,rfl⟩;go_wp2;go_ret;exact⟨rfl,iT.alloc _ _⟩
        .have d7:decide ((q:Int)+e<=16384)=false:=bp h7;have:=rD HB2.out (λh=>h7 h.2.2.2);clear HB2;subst this;go_enter func17,ntmps17;go_wp2_with fail;refine(H2.out _ (hs.alloc _)).mono ?_;rintro r w' ⟨rfl,rfl⟩;go_wp2;go_ret;exact⟨rfl,iT.alloc _ _⟩
       .have d6:decide ((q:Int)<=4096)=false:=bp aA ;have:=rD HB2.out (λh=>h6 h.1);clear HB2;subst this;go_enter func17,ntmps17;go_wp2_with fail;refine(H2.out _ (hs.alloc _)).mono ?_;rintro r w' ⟨rfl,rfl⟩;go_wp2;go_ret;exact⟨rfl,iT.alloc _ _⟩
      .have d5:decide (16384<e)=true:=bn aA ;have:=rD HB2.out (λh=>h5 h.2.2.1);clear HB2;subst this;go_enter func17,ntmps17;go_wp2;go_ret;exact⟨rfl,iT.alloc _ _⟩
     .have d4:decide (e < -16384)=true:=bn aA ;have:=rD HB2.out (λh=>h4 h.2.1);clear HB2;subst this;go_enter func17,ntmps17;go_wp2;go_ret;exact⟨rfl,iT.alloc _ _⟩
    .have lI:(bits BinOp.and IntKind.u32 (x:Int) 1==0)=true:=by rw[hand,(aA:x%2=0)];rfl
     have:b=false:=rD HB.out (λh=>h2 h.2.1);clear HB hand hr;subst this;go_enter func17,ntmps17;go_wp2;go_ret;exact⟨rfl,iT.alloc _ _⟩
  .have:b=false:=rD HB.out (λh=>h1 h.1);have tz:decide (256<(n:Int))=true:=bn aA;clear HB hr;subst this;go_enter func17,ntmps17;go_wp2;go_ret;exact⟨rfl,iT.alloc _ _⟩
def ahn(e:Int)(w:World)(b:Bool)(hb:b=true↔(-32768<=e/\e<=32768)):
 Calls prog 147 #[.int .i64 e] w λr w'=>r = .returned (.bool b)/\w=w':=by
 by_cases h1:-32768<=e
 .have d1:decide (-32768<=e)=true:=by simpa using h1
  by_cases h2:e<=32768
  .have d2:decide (e<=32768)=true:=by simpa using h2
   have:=KG hb ⟨h1,h2⟩;clear hb;subst this;go_enter func147,ntmps147;go_wp2;go_ret;exact⟨rfl,rfl⟩
  .have d2:decide (e<=32768)=false:=by simpa using h2
   have:=rD hb (λh=>h2 h.2);clear hb;subst this;go_enter func147,ntmps147;go_wp2;go_ret;exact⟨rfl,rfl⟩
 .have d1:decide (-32768<=e)=false:=by simpa using h1
  have:=rD hb (λh=>h1 h.1);clear hb;subst this;go_enter func147,ntmps147;go_wp2;go_ret;exact⟨rfl,rfl⟩
def ahm(d:Dy)(A:Option Addr)(c:Nat)(w:World)(hs:Sl w A c (ia d.m))(hl:(ia d.m).length<=100000000)(ml:-10000000<=d.e)(lH:d.e<=10000000)(hd:d.ic):
 Calls prog 148 #[.agg #[.bool d.neg,.slice A (ia d.m).length c,.int .i64 d.e]] w (yc w d 0):=by
 obtain⟨s,m,e⟩:=d;simp only at *
 have HV:=akH (λw (h:Sl w A c (ia m))=>V9 s A c (ia m) e w true h aA aA (iff_of_true rfl ((aah ⟨s,m,e⟩).2 hd)));clear hd;go_enter func148,ntmps148;go_wp2_with fail;refine(HV.out _ ((hs.alloc _).alloc _)).mono ?_;rintro r w' ⟨rfl,hb⟩;have bx:=((jF.new w s A (ia m).length c e).alloc (.cells #[.bool false,.slice none 0 0,.int .i64 0] 37)).ext hb;have by_:=(jF.new (w.alloc (.cells #[.bool s,.slice A (ia m).length c,.int .i64 e] 37)) false none 0 0 0).ext hb;have b0:=bx.c0;have b1:=bx.c1;have b2:=bx.c2;have bz:(w.alloc (.cells #[.bool s,.slice A (ia m).length c,.int .i64 e] 37)).heap.size=w.heap.size+1:= aF ;rw[bz]at by_;have c0:=by_.c0;have c1:=by_.c1;have c2:=by_.c2;have f0:=by_.fr 0;have f1:=by_.fr 1;have f2:=by_.fr 2;have qn:=((hs.alloc (.cells #[.bool s,.slice A (ia m).length c,.int .i64 e] 37)).alloc (.cells #[.bool false,.slice none 0 0,.int .i64 0] 37)).below hb;have px:iT w w':=((iT.alloc _ _).trans (iT.alloc _ _)).trans hb;clear bz;go_wp2;exact Ce rfl rfl rfl rfl (by_.set _ _ _ _ _) rfl (by_.uY qn _ _ _ _ _) (jF.tS px aA _ _ _ _ _)
def Sl.J9(w:World)(g:Nat)(hg:w.heap.size=g)(y z:Int)(p q:Nat)(e:y=(p:Int))(e':z=(q:Int))(hp:p<4294967296)(hq:q<4294967296):
 Sl (w.alloc (.cells #[.int .u32 y,.int .u32 z] 95)) (some ⟨g,0,none⟩) 2 [p,q]:=by
 subst e e' hg;refine⟨bl _,aC,iM.cons hp (iM.cons hq iM.nil),(λh=>by cases h),λi y hy=>?_⟩;obtain⟨h1,h2⟩:=ca.1 hy;simp at h1;refine⟨_,_,rfl,aF,?_⟩;rw[bX,World.cell?_alloc_at _ _ _ _ rfl];rcases i with _|_|i
 .simp at h2;subst h2;rfl
 .simp at h2;subst h2;rfl
 .omega
def ahq(n:Nat)(w:World)(hn:n<4294967296):
 Calls prog 84 #[.int .i64 n] w (yb w (canon false n 0)):=by
 have hm:=DJ n aA;have wB:(n:Int)%4294967296=n:= aA ;rw[wB]at hm;have hd:(n:Int)/4294967296=0:= aA ;have iJ:¬(n:Int)<0:= aA ;have xv:decide ((n:Int)<0)=false:=bp iJ;have hu:IntKind.u64.wrap (n:Int)=n:=by rw[IntKind.wrap_u64];omega
 have HC:=akH (λ(A:Option Addr) c w (h:Sl w A c [n,0])=>Of false A c [n,0] 0 w h aF aC aC);have hv:val [n,0]=n:= aF ;rw[hv]at HC;clear hv;generalize canon false n 0=d at *
 go_enter func84,ntmps84;go_wp2_with fail;refine(HC.out _ _ _ (Sl.J9 _ _ aF _ _ n 0 rfl rfl hn aC)).mono ?_;rintro r w1 ⟨A1,c1,rfl,uy,kV⟩;have lG:iT (w.alloc (.cells #[.bool false,.slice none 0 0,.int .i64 0] 37)) w1:=(iT.alloc _ _).trans kV;have bx:=(jF.new w false none 0 0 0).ext lG;have b0:=bx.c0;have b1:=bx.c1;have b2:=bx.c2;have f0:=bx.fr 0;have f1:=bx.fr 1;have f2:=bx.fr 2;go_wp2;exact yl rfl rfl rfl (bx.set _ _ _ _ _) rfl (bx.uY uy _ _ _ _ _) (jF.tS ((iT.alloc _ _).trans lG) (bl _) _ _ _ _ _)
end Go.Proofs.YtjkmahljfblobaaGreatDoor
namespace Go.Proofs.YtjkmahljfblobaaGreatDoor.Fp
def DP(s:Bool)(e:Int):canon s 0 e=iL:=by unfold canon;rw[bj rfl];rfl
def GG(s:Bool)(x:Nat)(k:Int):iK (if s then -(x:Int)else(x:Int)) k=canon s x k:=by
 unfold iK;cases s
 .have h:decide ((x:Int)<0)=false:=bp aA ;simp only[bV,bB];rw[h,fD]
 .by_cases h:x=0
  .subst h;simp[DP]
  .have h:decide (-(x:Int)<0)=true:=bn aA ;simp only[bC];rw[h,akg,fD]
def aiR{s:Bool}{m n:Nat}{e f k:Int}(hm:m≠0)(hn:n≠0)(hk:min e f=k):
 iR ⟨s,m,e⟩ ⟨s,n,f⟩=canon s (m*2^(e-k).toNat+n*2^(f-k).toNat) k:=by
 unfold iR;rw[bh hm,bh hn];simp only[hk];rw[<-GG];unfold Dy.num Dy.jH;cases s
 .simp
 .simp;congr 1;omega
def aiP{s t:Bool}{m n:Nat}{e f k:Int}(hm:m≠0)(hn:n≠0)(hk:min e f=k)(hs:s≠t)(tq:n*2^(f-k).toNat<=m*2^(e-k).toNat):
 iR ⟨s,m,e⟩ ⟨t,n,f⟩=canon s (m*2^(e-k).toNat-n*2^(f-k).toNat) k:=by
 unfold iR;rw[bh hm,bh hn];simp only[hk];rw[<-GG];unfold Dy.num Dy.jH;simp only;generalize m*2^(e-k).toNat=x at *
 generalize n*2^(f-k).toNat=y at *
 congr 1;cases s<;>cases t<;>simp at hs ⊢ <;> omega
def aiQ{s t:Bool}{m n:Nat}{e f k:Int}(hm:m≠0)(hn:n≠0)(hk:min e f=k)(hs:s≠t)(iJ:m*2^(e-k).toNat<n*2^(f-k).toNat):
 iR ⟨s,m,e⟩ ⟨t,n,f⟩=canon t (n*2^(f-k).toNat-m*2^(e-k).toNat) k:=by
 unfold iR;rw[bh hm,bh hn];simp only[hk];rw[<-GG];unfold Dy.num Dy.jH;simp only;generalize m*2^(e-k).toNat=x at *
 generalize n*2^(f-k).toNat=y at *
 congr 1;cases s<;>cases t<;>simp at hs ⊢ <;> omega
def aeD{L:List Nat}(h:iM L)(n:Nat):(ia (val L*2^n)).length<=L.length+n/32+1:=by
 refine wN ?_;have h1:=pq h;rw[s6]at h1 ⊢;have h2:val L*2^n<2^(32*L.length)*2^n:=dF h1 (bD aC);rw[<-bA]at h2;exact bO h2 (b9 aC aA)
def Na{a b:Nat}(h:a<=b):(ia a).length<=(ia b).length:=
 wN (du h (IW (bl _)))
end Go.Proofs.YtjkmahljfblobaaGreatDoor.Fp
namespace Go.Proofs.YtjkmahljfblobaaGreatDoor
open Go.RowKit Fp
def mI(a b:Dy):Dy:=canon (a.neg != b.neg) (a.m*b.m) (a.e+b.e)
def aeF{L:List Nat}{k:Nat}(h:iM L)(hl:L.length<=k):(ia (val L)).length<=k:=
 wN (bO (pq h) (b9 aC hl))
end Go.Proofs.YtjkmahljfblobaaGreatDoor
namespace Go.Proofs.YtjkmahljfblobaaGreatDoor.Fp
def afj{d:Dy}{j k:Int}(h1:j<=k)(h2:k<=d.e):d.jH j=d.jH k*2^(k-j).toNat:=by
 unfold Dy.jH;rw[bE,<-bA];congr 2;omega
def Jd{d:Dy}{j k:Int}(h1:j<=k)(h2:k<=d.e):d.num j=d.num k*((2^(k-j).toNat:Nat):Int):=by
 unfold Dy.num;rw[afj h1 h2];split
 .rw [eB,Int.neg_mul]
 .rw [eB]
def vK{d:Dy}(h:d.m=0)(k:Int):d.num k=0:=by
 unfold Dy.num;rw[UJ h];split<;>rfl
def xl(x y:Int):Int:=if x<y then -1 else if y<x then 1 else 0
def Qd(x y:Int){p:Nat}(hp:0<p):xl (x*(p:Int)) (y*(p:Int))=xl x y:=by
 unfold xl;have h:(0:Int)<p:= aA ;have a:=@Int.mul_lt_mul_right (p:Int) x y h;have b:=@Int.mul_lt_mul_right (p:Int) y x h;simp only[a,b]
def qe(d:Dy)(k:Int):Prop:=d.m=0\/k<=d.e
def qe.le{d:Dy}{j k:Int}(h:qe d k)(hj:j<=k):qe d j:=by
 rcases h with h|h
 .exact .inl h
 .exact .inr aA 
def qe.num{d:Dy}{j k:Int}(h:qe d k)(hj:j<=k):d.num j=d.num k*((2^(k-j).toNat:Nat):Int):=by
 rcases h with h|h
 .rw [vK h,vK h,Int.zero_mul]
 .exact Jd hj h
def DT{a b:Dy}{k:Int}(ha:qe a k)(hb:qe b k):ke a b=xl (a.num k) (b.num k):=by
 have e0:ke a b=xl (a.num (min a.e b.e)) (b.num (min a.e b.e)):=rfl;rw[e0];obtain⟨j,h1,h2⟩:∃ j:Int,j<=k/\j<=min a.e b.e:=⟨min k (min a.e b.e),aA,aA⟩
 have a1:=ha.num h1;have b1:=hb.num h1;have a2:=(show qe a (min a.e b.e)from .inr aA).num h2;have b2:=(show qe b (min a.e b.e)from .inr aA).num h2;rw[<-Qd _ _ (p:=2^(min a.e b.e-j).toNat) (bD aC),<-a2,<-b2,a1,b1,Qd _ _ (bD aC)]
def afi{s:Bool}{m:Nat}{e k:Int}(h:k<=e):(canon s m e).jH k=m*2^(e-k).toNat:=by
 unfold canon;split
 .rename_i h0;subst h0;simp[Dy.jH]
 .rename_i h0;unfold Dy.jH;simp only;have e1:=GX h0
  conv=>rhs;rw[<-e1]
  rw[bE,<-bA];congr 2;omega
def Bw{s:Bool}{m:Nat}{e k:Int}(h:k<=e):(canon s m e).num k=if s then -((m*2^(e-k).toNat:Nat):Int)else((m*2^(e-k).toNat:Nat):Int):=by
 by_cases h0:m=0
 .subst h0;rw[vK (by simp[canon])];simp
 .have:(canon s m e).neg=s:=by unfold canon;rw[bh h0]
  unfold Dy.num;rw[afi h,this]
def Vy{m:Nat}{e k:Int}(h:k<=e):(canon false m e).num k=((m*2^(e-k).toNat:Nat):Int):=by
 rw[Bw h];simp
def NH{z e k:Int}(h:k<=e):(iK z e).num k=z*((2^(e-k).toNat:Nat):Int):=by
 unfold iK;rw[Bw h];by_cases hz:z<0
 .simp only[hz,fE,bC];rw[eB,<-Int.neg_mul];congr 1;omega
 .simp only[hz,decide_false];rw[eB,show(z.natAbs:Int)=z by omega];simp
def zo{s:Bool}{m:Nat}{e k:Int}(h:k<=e):qe (canon s m e) k:=by
 unfold canon;split
 .exact .inl rfl
 .exact .inr (by simp only;omega)
def Kx{z e k:Int}(h:k<=e):qe (iK z e) k:=zo h
def J0{a b:Dy}{k:Int}(ha:qe a k)(hb:qe b k):(iR a b).num k=a.num k+b.num k:=by
 unfold iR;by_cases h1:a.m=0
 .rw [bj h1,vK h1,Int.zero_add]
 .rw [bh h1];by_cases h2:b.m=0
  .rw [bj h2,vK h2,Int.add_zero]
  .rw [bh h2];have ea:k<=a.e:=by rcases ha with h|h;exact absurd h h1;exact h
   have eb:k<=b.e:=by rcases hb with h|h;exact absurd h h2;exact h
   have hm:k<=min a.e b.e:= aA ;rw[NH hm,Int.add_mul,<-Jd hm aA,<-Jd hm aA]
def Gq{a b:Dy}{k:Int}(ha:qe a k)(hb:qe b k):qe (iR a b) k:=by
 unfold iR;by_cases h1:a.m=0
 .rw [bj h1];exact hb
 .rw [bh h1];by_cases h2:b.m=0
  .rw [bj h2];exact ha
  .rw [bh h2];have ea:k<=a.e:=by rcases ha with h|h;exact absurd h h1;exact h
   have eb:k<=b.e:=by rcases hb with h|h;exact absurd h h2;exact h
   exact Kx aA 
def AD{a b:Dy}(ha:a.nL)(hb:b.nL):(iR a b).nL:=by
 unfold iR;split
 .exact hb
 .split
  .exact ha
  .exact vm _ _ _
def Ky{d:Dy}{k:Int}(h:qe d k):qe (kB d) k:=h
def NI{d:Dy}(k:Int):(kB d).num k = -(d.num k):=by
 by_cases h:d.m=0
 .rw [vK h,vK (by exact h)];rfl
 .exact agf d k h
def aaD{a b:Dy}(ha:a.nL)(hb:b.nL){k:Int}(h1:qe a k)(h2:qe b k)(h:a.num k=b.num k):a=b:=by
 have zero:∀ {d:Dy},d.nL->d.m=0->d=iL:=by
  intro d hd h0;obtain⟨s,m,e⟩:=d;rcases hd with⟨x,y,z⟩|hd
  .simp only at x y z;subst x y z;rfl
  .simp only at hd h0;omega
 have nz:∀ {d:Dy},d.num k=0->d.m=0:=by
  intro d hd;by_cases h0:d.m=0
  .exact h0
  .exfalso;have:=xI h0 k;unfold Dy.num at hd;split at hd<;>omega
 by_cases za:a.m=0
 .have zb:b.m=0:=nz (by rw[<-h];exact vK za k);rw[zero ha za,zero hb zb]
 .have zb:b.m≠0:=λzb=>za (nz (by rw[h];exact vK zb k))
  have oa:a.m%2=1:=by rcases ha with⟨x,_,_⟩|x;exact absurd x za;exact x
  have ob:b.m%2=1:=by rcases hb with⟨x,_,_⟩|x;exact absurd x zb;exact x
  have ea:k<=a.e:=by rcases h1 with h|h;exact absurd h za;exact h
  have eb:k<=b.e:=by rcases h2 with h|h;exact absurd h zb;exact h
  have pa:=xI za k;have pb:=xI zb k;have hm:a.neg=b.neg/\a.jH k=b.jH k:=by
   unfold Dy.num at h;cases x:a.neg<;>cases y:b.neg<;>simp[x,y]at h<;>first|exact⟨rfl,aA⟩|(exfalso;omega)
  have hc:=congrArg kj hm.2;unfold Dy.jH at hc;rw[yj oa,yj ob]at hc;have wB:=hm.2;unfold Dy.jH at wB;rw[hc]at wB;have pA:=akE (bD aC) wB;obtain⟨s,m,e⟩:=a;obtain⟨t,n,f⟩:=b;simp only at *
  have:e=f:= aA ;rw[hm.1,pA,this]
end Go.Proofs.YtjkmahljfblobaaGreatDoor.Fp
namespace Go.Proofs.YtjkmahljfblobaaGreatDoor
open Go.RowKit Fp
def WA(A:Option Addr)(c:Nat)(M:List Nat)(n:Int)(w:World)(lq:Sl w A c M)(hlen:M.length<=256)(h0:0<=n)(hn:n<=65536)(pN:(ia (val M*2^n.toNat)).length<=256):
 Calls prog 206 #[.slice A M.length c,.int .i64 n] w (xd w (ia (val M*2^n.toNat))):=by
 obtain⟨k,rfl⟩:=gn h0;exact aij A c M k w lq hlen aA pN
set_option maxHeartbeats 8000000 in
def aaw(s : Bool)(A : Option Addr)(c : Nat)(L : List Nat)(e : Int)(t : Bool)(B : Option Addr)(d : Nat)(M : List Nat)(f : Int)(w : World)
    (hs : Sl w A c L) (hr : Sl w B d M) (da : pg s L e) (db : pg t M f) (Ed : val L≠0) (wo : val M≠0):
    Calls prog 128 #[.agg #[.bool s,.slice A L.length c,.int .i64 e],.agg #[.bool t,.slice B M.length d,.int .i64 f]] w λr w' => r = .returned (.int .i64 (sH ⟨s,val L,e⟩ ⟨t,val M,f⟩))/\iT w w' := by
  obtain⟨ml,lH⟩ := da.exp;obtain⟨hf1,hf2⟩ := db.exp;have hl := da.len;have hm := db.len;have hE : iT w ((w.alloc (.cells #[.bool s,.slice A L.length c,.int .i64 e] 37)).alloc (.cells #[.bool t,.slice B M.length d,.int .i64 f] 37)) := (iT.alloc _ _).trans (iT.alloc _ _);have lK := ((jF.new w s A L.length c e).alloc (.cells #[.bool t,.slice B M.length d,.int .i64 f] 37)).drew;have lT := (jF.xL (W := w.alloc (.cells #[.bool s,.slice A L.length c,.int .i64 e] 37)) (g := w.heap.size+1) aF t B M.length d f).drew;have yF := (hs.below hE).drew;have A4 := (hr.below hE).drew;have HE := akH (hE.trans (iT.drew _));clear hE;have HTa := akH (λw (h : Sl w A c L) => Le s A c L e w h da);have HTb := akH (λw (h : Sl w B d M) => Le t B d M f w h db);have Hlt := akH (λh => Zm (a := ⟨s,val L,e⟩) (b := ⟨t,val M,f⟩) Ed wo h);have Hgt := akH (λh => Zl (a := ⟨s,val L,e⟩) (b := ⟨t,val M,f⟩) Ed wo h);have Hta := akH (show Dy.iI ⟨s,val L,e⟩=iy (val L)+e by unfold Dy.iI;rw[bh Ed]);have Htb := akH (show Dy.iI ⟨t,val M,f⟩=iy (val M)+f by unfold Dy.iI;rw[bh wo]);obtain⟨k,hk⟩ : ∃ k,min e f=k := ⟨_,rfl⟩
  have Ic : k<=e := aA ;have hkf : k<=f := aA ;have nN : -17000<=k := aA ;have na := akH (aA:k=e\/k=f);have S0 : IntKind.i64.wrap (e-k)=e-k := i64_in _ aA aA;have hwf : IntKind.i64.wrap (f-k)=f-k := i64_in _ aA aA;have HM := akH (show sH ⟨s,val L,e⟩ ⟨t,val M,f⟩=mC (val L*2^(e-k).toNat) (val M*2^(f-k).toNat)by unfold sH;simp only[hk];rfl);have Hfa := akH (show iy (val L)+e=iy (val M)+f->iy (val L*2^(e-k).toNat)<=4096 from λh => by
    rw[th Ed];have := da.bits;have := db.bits;have := na.out;omega)
  have Hfb := akH (show iy (val L)+e=iy (val M)+f->iy (val M*2^(f-k).toNat)<=4096 from λh => by
    rw[th wo];have := da.bits;have := db.bits;have := na.out;omega)
  have HXa := akH (λw (h : Sl w A c L) pN => WA A c L (e-k) w h hl aA aA pN);have HXb := akH (λw (h : Sl w B d M) pN => WA B d M (f-k) w h hm aA aA pN);generalize Dy.iI ⟨s,val L,e⟩=ta at *
  generalize Dy.iI ⟨t,val M,f⟩=tb at *
  generalize sH ⟨s,val L,e⟩ ⟨t,val M,f⟩=R at *
  generalize val L*2^(e-k).toNat=x at *
  generalize val M*2^(f-k).toNat=y at *
  have HC := akH (λA B c d w (h : Sl w A c (ia x)) (k : Sl w B d (ia y)) hx hy => I7 A B c d (ia x) (ia y) w h k hx hy);rw[lW,lW]at HC;clear Ed wo da db hl hm;go_enter func128,ntmps128;go_wp2_with fail;go_region_held3 (λw' => w'.cell? ⟨w.heap.size,0,none⟩=some (.bool s)/\w'.cell? ⟨w.heap.size,1,none⟩=some (.slice A L.length c)/\w'.cell? ⟨w.heap.size,2,none⟩=some (.int .i64 e)/\w'.cell? ⟨w.heap.size+1,0,none⟩=some (.bool t)/\w'.cell? ⟨w.heap.size+1,1,none⟩=some (.slice B M.length d)/\w'.cell? ⟨w.heap.size+1,2,none⟩=some (.int .i64 f))
    (first
      |exact⟨lK.c0,lK.c1,lK.c2,lT.c0,lT.c1,lT.c2⟩
      |exact⟨(lK.ext jf).c0,(lK.ext jf).c1,(lK.ext jf).c2,(lT.ext jf).c0,(lT.ext jf).c1,(lT.ext jf).c2⟩
      |exact⟨(lK.ext jz).c0,(lK.ext jz).c1,(lK.ext jz).c2,(lT.ext jz).c0,(lT.ext jz).c1,(lT.ext jz).c2⟩
      |exact⟨(lK.ext (jf.trans jz)).c0,(lK.ext (jf.trans jz)).c1,(lK.ext (jf.trans jz)).c2,(lT.ext (jf.trans jz)).c0,(lT.ext (jf.trans jz)).c1,(lT.ext (jf.trans jz)).c2⟩
      |exact⟨(lK.ext (jz.trans jf)).c0,(lK.ext (jz.trans jf)).c1,(lK.ext (jz.trans jf)).c2,(lT.ext (jz.trans jf)).c0,(lT.ext (jz.trans jf)).c1,(lT.ext (jz.trans jf)).c2⟩
      |exact⟨(lK.ext ((jf.trans jz).trans py)).c0,(lK.ext ((jf.trans jz).trans py)).c1,(lK.ext ((jf.trans jz).trans py)).c2,(lT.ext ((jf.trans jz).trans py)).c0,(lT.ext ((jf.trans jz).trans py)).c1,(lT.ext ((jf.trans jz).trans py)).c2⟩
      |exact⟨(lK.ext ((jz.trans jf).trans py)).c0,(lK.ext ((jz.trans jf).trans py)).c1,(lK.ext ((jz.trans jf).trans py)).c2,(lT.ext ((jz.trans jf).trans py)).c0,(lT.ext ((jz.trans jf).trans py)).c1,(lT.ext ((jz.trans jf).trans py)).c2⟩)
    (first
      | (go_at_call_of 176 (Value.agg #[.bool s,.slice A L.length c,.int .i64 e])
         refine(HTa.out _ ?_).mono ?_
         (first|exact yF|exact yF.below jz)
         rintro r wx ⟨rfl,jf⟩)
      | (go_at_call_of 176 (Value.agg #[.bool t,.slice B M.length d,.int .i64 f])
         refine(HTb.out _ ?_).mono ?_
         (first|exact A4|exact A4.below jf)
         rintro r wy ⟨rfl,jz⟩))
  first
    | (have qT := jf.trans jz)
    | (have qT := jz.trans jf)
  have cx1 := (lK.ext qT).drew;have cx2 := (lT.ext qT).drew;have lq := (yF.below qT).drew;have pD := (A4.below qT).drew;have cx1n := (lK.ext qT)
  have cx2n := (lT.ext qT)
  have HF := akH ((HE.out.trans qT).trans (iT.drew _));have HFr := akH (HE.out.trans qT);clear jf jz qT;by_cases h1 : ta<tb
  . have hR := akH (Hlt.out h1)
    go_wp2;go_ret;exact⟨qF hR.out.symm,HFr.out⟩
  . by_cases h2 : tb<ta
    . have hR := akH (Hgt.out h2)
      go_wp2;go_ret;exact⟨qF hR.out.symm,HFr.out⟩
    . have mR : (iy (val L) : Int)+e=iy (val M)+f := by rw[<-Hta.out,<-Htb.out];omega
      have pn := IH (k := 128) (Hfa.out mR);have hfb := IH (k := 128) (Hfb.out mR);have HXa2 := akH (λw h => HXa.out w h aA);have HXb2 := akH (λw h => HXb.out w h aA);have HC2 := akH (λA B c d w h k => HC.out A B c d w h k aA aA);have b0 := cx1n.c0;have b1 := cx1n.c1;have b2 := cx1n.c2;have d0 := cx2n.c0;have d1 := cx2n.c1;have d2 := cx2n.c2;clear mR pn hfb;go_wp2_with fail;go_region_held3 (λw' => w'.cell? ⟨w.heap.size,0,none⟩=some (.bool s)/\w'.cell? ⟨w.heap.size,1,none⟩=some (.slice A L.length c)/\w'.cell? ⟨w.heap.size,2,none⟩=some (.int .i64 e)/\w'.cell? ⟨w.heap.size+1,0,none⟩=some (.bool t)/\w'.cell? ⟨w.heap.size+1,1,none⟩=some (.slice B M.length d)/\w'.cell? ⟨w.heap.size+1,2,none⟩=some (.int .i64 f))
        (first
          |exact⟨cx1.c0,cx1.c1,cx1.c2,cx2.c0,cx2.c1,cx2.c2⟩
          |exact⟨(cx1.ext jf).c0,(cx1.ext jf).c1,(cx1.ext jf).c2,(cx2.ext jf).c0,(cx2.ext jf).c1,(cx2.ext jf).c2⟩
          |exact⟨(cx1.ext jz).c0,(cx1.ext jz).c1,(cx1.ext jz).c2,(cx2.ext jz).c0,(cx2.ext jz).c1,(cx2.ext jz).c2⟩
          |exact⟨(cx1.ext (jf.trans jz)).c0,(cx1.ext (jf.trans jz)).c1,(cx1.ext (jf.trans jz)).c2,(cx2.ext (jf.trans jz)).c0,(cx2.ext (jf.trans jz)).c1,(cx2.ext (jf.trans jz)).c2⟩
          |exact⟨(cx1.ext (jz.trans jf)).c0,(cx1.ext (jz.trans jf)).c1,(cx1.ext (jz.trans jf)).c2,(cx2.ext (jz.trans jf)).c0,(cx2.ext (jz.trans jf)).c1,(cx2.ext (jz.trans jf)).c2⟩
          |exact⟨(cx1.ext ((jf.trans jz).trans py)).c0,(cx1.ext ((jf.trans jz).trans py)).c1,(cx1.ext ((jf.trans jz).trans py)).c2,(cx2.ext ((jf.trans jz).trans py)).c0,(cx2.ext ((jf.trans jz).trans py)).c1,(cx2.ext ((jf.trans jz).trans py)).c2⟩
          |exact⟨(cx1.ext ((jz.trans jf).trans py)).c0,(cx1.ext ((jz.trans jf).trans py)).c1,(cx1.ext ((jz.trans jf).trans py)).c2,(cx2.ext ((jz.trans jf).trans py)).c0,(cx2.ext ((jz.trans jf).trans py)).c1,(cx2.ext ((jz.trans jf).trans py)).c2⟩)
        (first
          | (go_at_call_of 206 (Value.slice A L.length c)
             refine(HXa2.out _ ?_).mono ?_
             (first|exact lq|exact lq.below jz)
             rintro r wx ⟨Ax,cx,rfl,qS,jf⟩)
          | (go_at_call_of 206 (Value.slice B M.length d)
             refine(HXb2.out _ ?_).mono ?_
             (first|exact pD|exact pD.below jf)
             rintro r wy ⟨Ay,cy,rfl,SP,jz⟩)
          | (go_at_call 180
             refine(HC2.out _ _ _ _ _ ?_ ?_).mono ?_
             (first|exact qS.below jz|exact qS)
             (first|exact SP|exact SP.below jf)
             rintro r wz ⟨rfl,py⟩))
      all_goals
        go_wp2;go_ret
        (first|exact⟨qF HM.out.symm,HF.out.trans ((jf.trans jz).trans py)⟩|exact⟨qF HM.out.symm,HF.out.trans ((jz.trans jf).trans py)⟩)
def WH{d:Dy}:d.kf=0↔d.m=0:=by
 rcases F6 d with⟨h1,h2⟩|⟨h1,_,h2⟩|⟨h1,_,h2⟩<;>simp[h1,h2]
def aau(s : Bool)(A : Option Addr)(c : Nat)(L : List Nat)(e : Int)(t : Bool)(B : Option Addr)(d : Nat)(M : List Nat)(f : Int)(w : World)
    (hs : Sl w A c L) (hr : Sl w B d M) (da : pg s L e) (db : pg t M f):
    Calls prog 76 #[.agg #[.bool s,.slice A L.length c,.int .i64 e],.agg #[.bool t,.slice B M.length d,.int .i64 f]] w λr w' => r = .returned (.int .i64 (ke ⟨s,val L,e⟩ ⟨t,val M,f⟩))/\iT w w' := by
  obtain⟨ml,lH⟩ := da.exp;obtain⟨hf1,hf2⟩ := db.exp;have HVa := akH (λw (h : Sl w A c L) => AH s A c L e w true h aA aA (by simp[da]));have HVb := akH (λw (h : Sl w B d M) => AH t B d M f w true h aA aA (by simp[db]));have HSa := akH (λw (h : Sl w A c L) => Lc s A c L e w h da);have HSb := akH (λw (h : Sl w B d M) => Lc t B d M f w h db);have HK := akH (λh1 h2 w (h : Sl w A c L) (k : Sl w B d M) => aaw s A c L e t B d M f w h k da db h1 h2);have HP := akH (Qa ⟨s,val L,e⟩ ⟨t,val M,f⟩);have z1 : Hid (Dy.kf ⟨s,val L,e⟩=0↔val L=0) := WH;have z2 : Hid (Dy.kf ⟨t,val M,f⟩=0↔val M=0) := WH;have Il : Dy.kf ⟨s,val L,e⟩=0\/Dy.kf ⟨s,val L,e⟩ = -1\/Dy.kf ⟨s,val L,e⟩=1 := by
    rcases F6 ⟨s,val L,e⟩with⟨_,h⟩|⟨_,_,h⟩|⟨_,_,h⟩<;>simp[h]
  have nM : sH ⟨s,val L,e⟩ ⟨t,val M,f⟩ = -1\/sH ⟨s,val L,e⟩ ⟨t,val M,f⟩=0\/sH ⟨s,val L,e⟩ ⟨t,val M,f⟩=1 := by
    unfold sH mC;split;simp;split<;>simp
  generalize Dy.kf ⟨s,val L,e⟩=sa at *
  generalize Dy.kf ⟨t,val M,f⟩=sb at *
  generalize sH ⟨s,val L,e⟩ ⟨t,val M,f⟩=cm at *
  generalize ke ⟨s,val L,e⟩ ⟨t,val M,f⟩=R at *
  have wG : IntKind.i64.wrap (sa*cm)=sa*cm := i64_in _ (by rcases Il with rfl|rfl|rfl<;>omega) (by rcases Il with rfl|rfl|rfl<;>omega);have HH := akH Il;clear Il nM da db;go_enter func76,ntmps76;go_wp2_with fail;refine(HVa.out _ ((hs.alloc _).alloc _)).mono ?_;rintro r w1 ⟨rfl,kV⟩;have lK := ((jF.new w s A L.length c e).alloc (.cells #[.bool t,.slice B M.length d,.int .i64 f] 37)).ext kV;have lT := (jF.xL (W := w.alloc (.cells #[.bool s,.slice A L.length c,.int .i64 e] 37)) (g := w.heap.size+1) aF t B M.length d f).ext kV;have b0 := lK.c0;have b1 := lK.c1;have b2 := lK.c2;have d0 := lT.c0;have d1 := lT.c1;have d2 := lT.c2;have hE := (((iT.alloc w (.cells #[.bool s,.slice A L.length c,.int .i64 e] 37)).trans (iT.alloc _ (.cells #[.bool t,.slice B M.length d,.int .i64 f] 37))).trans kV)
  go_wp2_with fail;refine(HVb.out _ (hr.below hE)).mono ?_;rintro r w2 ⟨rfl,nh⟩;have Hn := hE.trans nh;have lK := (lK.ext nh).drew;have lT := (lT.ext nh).drew;have yF := (hs.below Hn).drew;have A4 := (hr.below Hn).drew;have HE := akH (Hn.trans (iT.drew _));clear hE Hn kV nh b0 b1 b2 d0 d1 d2;go_wp2_with fail;go_region_held3 (λw' => w'.cell? ⟨w.heap.size,0,none⟩=some (.bool s)/\w'.cell? ⟨w.heap.size,1,none⟩=some (.slice A L.length c)/\w'.cell? ⟨w.heap.size,2,none⟩=some (.int .i64 e)/\w'.cell? ⟨w.heap.size+1,0,none⟩=some (.bool t)/\w'.cell? ⟨w.heap.size+1,1,none⟩=some (.slice B M.length d)/\w'.cell? ⟨w.heap.size+1,2,none⟩=some (.int .i64 f))
    (first
      |exact⟨lK.c0,lK.c1,lK.c2,lT.c0,lT.c1,lT.c2⟩
      |exact⟨(lK.ext jf).c0,(lK.ext jf).c1,(lK.ext jf).c2,(lT.ext jf).c0,(lT.ext jf).c1,(lT.ext jf).c2⟩
      |exact⟨(lK.ext jz).c0,(lK.ext jz).c1,(lK.ext jz).c2,(lT.ext jz).c0,(lT.ext jz).c1,(lT.ext jz).c2⟩
      |exact⟨(lK.ext (jf.trans jz)).c0,(lK.ext (jf.trans jz)).c1,(lK.ext (jf.trans jz)).c2,(lT.ext (jf.trans jz)).c0,(lT.ext (jf.trans jz)).c1,(lT.ext (jf.trans jz)).c2⟩
      |exact⟨(lK.ext (jz.trans jf)).c0,(lK.ext (jz.trans jf)).c1,(lK.ext (jz.trans jf)).c2,(lT.ext (jz.trans jf)).c0,(lT.ext (jz.trans jf)).c1,(lT.ext (jz.trans jf)).c2⟩)
    (first
      | (go_at_call_of 50 (Value.agg #[.bool s,.slice A L.length c,.int .i64 e])
         refine(HSa.out _ ?_).mono ?_
         (first|exact yF|exact yF.below jz)
         rintro r wx ⟨rfl,jf⟩)
      | (go_at_call_of 50 (Value.agg #[.bool t,.slice B M.length d,.int .i64 f])
         refine(HSb.out _ ?_).mono ?_
         (first|exact A4|exact A4.below jf)
         rintro r wy ⟨rfl,jz⟩))
  first
    | (have qT := jf.trans jz)
    | (have qT := jz.trans jf)
  have cx1 := (lK.ext qT)
  have cx2 := (lT.ext qT)
  have lq := (yF.below qT)
  have pD := (A4.below qT)
  have HFr := akH (HE.out.trans qT);clear jf jz qT;by_cases h1 : sa<sb
  . have hR := akH (show R = -1 by rw[HP.out,bj h1])
    go_wp2;go_ret;exact⟨qF hR.out.symm,HFr.out⟩
  . by_cases h2 : sb<sa
    . have hR := akH (show R=1 by rw[HP.out,bh h1,bj h2])
      go_wp2;go_ret;exact⟨qF hR.out.symm,HFr.out⟩
    . by_cases h3 : sa=0
      . have hR := akH (show R=0 by rw[HP.out,bh h1,bh h2,bj h3])
        have hz : (sa==0)=true := by simp[h3]
        go_wp2;go_ret;exact⟨qF hR.out.symm,HFr.out⟩
      . have hR := akH (show R=sa*cm by rw[HP.out,bh h1,bh h2,bh h3])
        have hz : (sa==0)=false := aX h3;have HK2 := akH (HK.out (λh => h3 (z1.out.2 h)) (λh => h3 (by have := z2.out.2 h;omega)));have b0 := cx1.c0;have b1 := cx1.c1;have b2 := cx1.c2;have d0 := cx2.c0;have d1 := cx2.c1;have d2 := cx2.c2;go_wp2_with fail;refine(HK2.out _ lq pD).mono ?_;rintro r w3 ⟨rfl,rH⟩;go_wp2;go_ret;exact⟨qF hR.out.symm,HFr.out.trans rH⟩
def PR{L:List Nat}(h:iM L)(hl:L.length<=256)(s:Bool)(e:Int):(ia (canon s (val L) e).m).length<=100000000:=by
 unfold canon;split
 .simp [oD]
 .refine bK (wN (k:=256) (du (dA _ _) ?_)) aC ;exact bO (pq h) (b9 aC hl)
def PQ{L:List Nat}(h:iM L)(hl:L.length<=256)(s:Bool)(e:Int)(h1:-9000000<=e)(h2:e<=9000000):-10000000<=(canon s (val L) e).e/\(canon s (val L) e).e<=10000000:=by
 unfold canon;split
 .simp
 .rename_i h0;have:=DW h h0;simp only;omega
def ahu(s:Bool)(A:Option Addr)(c:Nat)(L:List Nat)(e k:Int)(w:World)(hs:Sl w A c L)(hd:pg s L e)(nN:-32768<=k)(xy:k<=32768)(hr:oC (canon s (val L) (e+k))):
 Calls prog 83 #[.agg #[.bool s,.slice A L.length c,.int .i64 e],.int .i64 k] w (yc w (canon s (val L) (e+k)) 0):=by
 obtain⟨ml,lH⟩:=hd.exp;have hlen:=hd.len;have HV:=akH (λw (h:Sl w A c L)=>V9 s A c L e w true h aA aA (by simp[hd]));have HX:=akH (λw=>ahn k w true (by simp[nN,xy]));have hw:IntKind.i64.wrap (e+k)=e+k:=i64_in _ aA aA;have HC:=akH (λw (h:Sl w A c L)=>Of s A c L (e+k) w h aA aA aA);have kV:=PR hs.ok hlen s (e+k);obtain⟨nh,rH⟩:=PQ hs.ok hlen s (e+k) aA aA;have hv:(canon s (val L) (e+k)).ic:=⟨vm _ _ _,hr⟩
 have HK:=akH (λA c w (h:Sl w A c (ia (canon s (val L) (e+k)).m))=>ahm _ A c w h kV nh rH hv);generalize canon s (val L) (e+k)=D at *
 clear hd hr hv kV nh rH;go_enter func83,ntmps83;go_wp2_with fail;refine(HV.out _ ((hs.alloc _).alloc _)).mono ?_;rintro r w1 ⟨rfl,kV⟩;have lK:=((jF.new w s A L.length c e).alloc (.cells #[.bool false,.slice none 0 0,.int .i64 0] 37)).ext kV;have lT:=(jF.xL (W:=w.alloc (.cells #[.bool s,.slice A L.length c,.int .i64 e] 37)) (g:=w.heap.size+1) aF false none 0 0 0).ext kV;have b0:=lK.c0;have b1:=lK.c1;have b2:=lK.c2;have hE:=(((iT.alloc w (.cells #[.bool s,.slice A L.length c,.int .i64 e] 37)).trans (iT.alloc _ (.cells #[.bool false,.slice none 0 0,.int .i64 0] 37))).trans kV)
 have yF:=hs.below hE;have HE:=akH hE;clear hE kV;go_wp2_with fail;refine(HX.out _).mono ?_;rintro r w2 ⟨rfl,rfl⟩;go_wp2_with fail;refine(HC.out _ yF).mono ?_;rintro r w2 ⟨A1,c1,rfl,uy,nh⟩;go_wp2_with fail;refine(HK.out _ _ _ uy).mono ?_;rintro r w3 ⟨A2,c2,rfl,lq,rH⟩;have bz:=lT.ext (nh.trans rH);have z0:=bz.c0;have z1:=bz.c1;have z2:=bz.c2;have f0:=bz.fr 0;have f1:=bz.fr 1;have f2:=bz.fr 2;go_wp2;exact Ce rfl rfl rfl rfl (bz.set _ _ _ _ _) rfl (bz.uY lq _ _ _ _ _) (jF.tS (HE.out.trans (nh.trans rH)) aA _ _ _ _ _)
abbrev DV(d:Dy)(A:Option Addr)(c:Nat):Value:=.agg #[.bool d.neg,.slice A (ia d.m).length c,.int .i64 d.e]
def Ud{n k:Nat}(h:iy n<=32*k):(ia n).length<=k:=by
 refine wN (bO (uK _) ?_);rw[s6];exact b9 aC h
def Fp.Dy.ic.wk{d:Dy}(h:d.ic):pg d.neg (ia d.m) d.e:=by
 refine⟨J8 _,Ud ?_,by rw[lW];exact h⟩;rcases h.range with h0|⟨h1,_⟩
 .rw [h0];exact cg _
 .omega
def Fp.Dy.ic.len{d:Dy}(h:d.ic):(ia d.m).length<=256:=h.wk.2.1
def Fp.Dy.ic.exp{d:Dy}(h:d.ic):-16384<=d.e/\d.e<=16384:=h.wk.exp
def Fp.Dy.ic.bits{d:Dy}(h:d.ic):iy d.m<=4096:=by have:=h.wk.bits;rwa[lW]at this
def jF.all{w:World}{g n c:Nat}{s:Bool}{A:Option Addr}{e:Int}(h:jF w g s A n c e):w.cell? ⟨g,0,none⟩=some (.bool s)/\w.cell? ⟨g,1,none⟩=some (.slice A n c)/\w.cell? ⟨g,2,none⟩=some (.int .i64 e):=⟨h.c0,h.c1,h.c2⟩
def jF.AN{w:World}{g n c:Nat}{s:Bool}{A:Option Addr}{e:Int}(h:jF w g s A n c e){g':Nat}(jQ:g'≠g)(i:Nat)(v:Value):jF (w.setCell ⟨g',i,none⟩ v) g s A n c e:=by
 unfold jF at h ⊢;simp only[World.setCell,cY];rw[bh jQ];exact h
def jF.Lv{w:World}{g n c:Nat}{s:Bool}{A:Option Addr}{e:Int}(h:jF w g s A n c e){g':Nat}(jQ:g'≠g)(v0 v1 v2:Value):
 jF (((w.setCell ⟨g',0,none⟩ v0).setCell ⟨g',1,none⟩ v1).setCell ⟨g',2,none⟩ v2) g s A n c e:=((h.AN jQ 0 v0).AN jQ 1 v1).AN jQ 2 v2
def aav(a b:Dy)(A B:Option Addr)(c d:Nat)(w:World)(h:Sl w A c (ia a.m))(k:Sl w B d (ia b.m))(ha:a.ic)(hb:b.ic):
 Calls prog 76 #[DV a A c,DV b B d] w λe w'=>e = .returned (.int .i64 (ke a b))/\iT w w':=by
 have:=aau a.neg A c (ia a.m) a.e b.neg B d (ia b.m) b.e w h k ha.wk hb.wk;rw[lW,lW]at this;exact this
def aat(a:Dy)(A:Option Addr)(c:Nat)(w:World)(h:Sl w A c (ia a.m))(ha:a.ic):
 Calls prog 279 #[DV a A c] w λe w'=>e = .returned (.int .i64 (iy a.m))/\iT w w':=by
 have:=aas a.neg A c (ia a.m) a.e w h ha.wk;rw[lW]at this;exact this
def aaA(a:Dy)(A:Option Addr)(c:Nat)(w:World)(h:Sl w A c (ia a.m))(ha:a.ic):
 Calls prog 50 #[DV a A c] w λe w'=>e = .returned (.int .i64 a.kf)/\iT w w':=by
 have:=Lc a.neg A c (ia a.m) a.e w h ha.wk;rw[lW]at this;exact this
def QW(a:Dy)(A:Option Addr)(c:Nat)(w:World)(h:Sl w A c (ia a.m))(ha:a.ic):
 Calls prog 60 #[DV a A c] w λe w'=>e = .returned (.bool true)/\iT w w':=
 AH a.neg A c (ia a.m) a.e w true h (by have:=ha.exp;omega) (by have:=ha.exp;omega) (by simp[ha.wk])
open Pu
def Ku:∀ w w',Tb w->Below w.heap.size w w'->Tb w':=λ_ _ h hb=>h.below hb
def mixed:prog.follows .mixedOrders=true:= aD 
abbrev gW(f:FuncId)(args:List E)(jk:E):Prop:=PC prog Tb f args jk
def iz(L:List Nat):E:=.sl false L.length 1 λi _=>.v (.int .u32 (L.getD i 0:Int))
def ib(d:Dy):E:=.agg [.v (.bool d.neg),iz (ia d.m),.v (.int .i64 d.e)]
abbrev iP(z:Int):E:=.v (.int .i64 z)
abbrev bP(b:Bool):E:=.v (.bool b)
abbrev an:List E:=[bP false,.v (.slice none 0 0),iP 0]
abbrev aq:List E:=[bP false,.v (.slice none 0 0),iP 0,bP false,.v (.slice none 0 0),iP 0,bP false]
def zh{bs br:Nat->Prop}{w:World}{L:List Nat}{v:Value}(hk:iM L)(h:iC bs br w (iz L) v):∃ A c,v = .slice A L.length c/\Sl w A c L:=by
 cases h with
 |sl _ _ _ _ A c f hc hm h0 hl hr cell kk=>
  refine⟨A,c,rfl,hc,hm,hk,h0,λi x hx=>?_⟩;obtain⟨hi,uA⟩:=ca.1 hx;obtain⟨b,o,e1,_,iJ,ku⟩:=cell i 0 hi aC;have hv:=iC.kD (kk i 0 hi aC);refine⟨b,o,e1,iJ,?_⟩;rw[cv,bW,hv]at ku;rw[ku];simp[bk,hx]
def BU{B br:Nat->Prop}{w w':World}{A:Option Addr}{c:Nat}{L:List Nat}(hB:∀ b,B b->b<w.heap.size/\nC w b)(hb:iT w w')(h:Sl w' A c L):iC B br w' (iz L) (.slice A L.length c):=by
 refine .sl false L.length 1 _ A c (λi _=>.int .u32 (L.getD i 0:Int)) h.cap h.qV h.xM (λi j _ _=>⟨rfl,λh=>by cases h⟩) (λi j _ _=>rfl) (λi j hi hj=>?_) (λi j _ _=>.v _)
 .obtain rfl:j=0:= aA ;obtain⟨b,o,e1,iJ,ku⟩:=h.mr hi;have e2:L.getD i 0=L[i]:=by simp[bk,hi]
  refine⟨b,o,e1,λpM=>?_,iJ,by rw[cv,bW,ku,e2]⟩;obtain⟨h1,h2⟩:=hB b pM;exact(h2.C0 (hb.block b h1)) _ _ ku
def G3{bs br:Nat->Prop}{w:World}{d:Dy}{v:Value}(h:iC bs br w (ib d) v):∃ A c,v=DV d A c/\Sl w A c (ia d.m):=by
 obtain⟨vs,rfl,q⟩:=iC.DI (show iC bs br w (.agg _) v from h);obtain⟨v1,vs,rfl,h1,q⟩:=q.mW;obtain⟨v2,vs,rfl,h2,q⟩:=q.mW;obtain⟨v3,vs,rfl,h3,q⟩:=q.mW;obtain rfl:=q.qY;obtain rfl:=iC.kD h1;obtain rfl:=iC.kD h3;obtain⟨A,c,rfl,hs⟩:=zh (o9 _) h2;exact⟨A,c,rfl,hs⟩
def QU{B br:Nat->Prop}{w w':World}{A:Option Addr}{c:Nat}{d:Dy}(hB:∀ b,B b->b<w.heap.size/\nC w b)(hb:iT w w')(h:Sl w' A c (ia d.m)):iC B br w' (ib d) (DV d A c):=
 jZ.agg (.cons (.v _) (.cons (BU hB hb h) (.cons (.v _) (.nil _ _ _))))
section
variable {f:FuncId} {a b:Dy}
def C5(hc:∀ (vs:Array Value) (w:World),(callFunc f vs).run prog w = .ok (.enter f vs) w){jk:E}{R:World->Ending->World->Prop}
 (H:∀ A c w,Sl w A c (ia a.m)->Tb w->Calls prog f #[DV a A c] w (R w)) (hR:∀ (B:Nat->Prop) w e w',(∀ b,B b->b<w.heap.size/\nC w b)->R w e w'->∃ v,e = .returned v/\Below w.heap.size w w'/\iC B (λ_=>True) w' jk v):gW f [ib a] jk:=by
 refine⟨hc,λw B vs hK hB hr=>?_⟩;obtain⟨v1,vs,rfl,h1,hr⟩:=hr.mW;obtain rfl:=hr.qY;obtain⟨A,c,rfl,s1⟩:=G3 h1;exact(H A c w s1 hK).mono λe w' h=>hR B w e w' hB h
def pc2(hc:∀ (vs:Array Value) (w:World),(callFunc f vs).run prog w = .ok (.enter f vs) w){jk:E}{R:World->Ending->World->Prop}
 (H:∀ A c A' c' w,Sl w A c (ia a.m)->Sl w A' c' (ia b.m)->Tb w->Calls prog f #[DV a A c,DV b A' c'] w (R w)) (hR:∀ (B:Nat->Prop) w e w',(∀ b,B b->b<w.heap.size/\nC w b)->R w e w'->∃ v,e = .returned v/\Below w.heap.size w w'/\iC B (λ_=>True) w' jk v):gW f [ib a,ib b] jk:=by
 refine⟨hc,λw B vs hK hB hr=>?_⟩;obtain⟨v1,vs,rfl,h1,hr⟩:=hr.mW;obtain⟨v2,vs,rfl,h2,hr⟩:=hr.mW;obtain rfl:=hr.qY;obtain⟨A,c,rfl,s1⟩:=G3 h1;obtain⟨A',c',rfl,s2⟩:=G3 h2;exact(H A c A' c' w s1 s2 hK).mono λe w' h=>hR B w e w' hB h
end
def rv{x:Value}:∀ (B:Nat->Prop) (w:World) (e:Ending) (w':World),(∀ b,B b->b<w.heap.size/\nC w b)->(e = .returned x/\iT w w')->∃ v,e = .returned v/\Below w.heap.size w w'/\iC B (λ_=>True) w' (.v x) v:=
 λ_ _ _ _ _ h=>⟨x,h.1,h.2,.v x⟩
def rd{d:Dy}:∀ (B:Nat->Prop) (w:World) (e:Ending) (w':World),(∀ b,B b->b<w.heap.size/\nC w b)->yb w d e w'->∃ v,e = .returned v/\Below w.heap.size w w'/\iC B (λ_=>True) w' (ib d) v:=
 λ_ _ _ _ hB ⟨_,_,h1,h2,h3⟩=>⟨_,h1,h3,QU hB h3 h2⟩
def Ob{d:Dy}{n:Int}:∀ (B:Nat->Prop) (w:World) (e:Ending) (w':World),(∀ b,B b->b<w.heap.size/\nC w b)->yc w d n e w'->∃ v,e = .returned v/\Below w.heap.size w w'/\iC B (λ_=>True) w' (.ik [ib d,iP n]) v:=
 λ_ _ _ _ hB ⟨_,_,h1,h2,h3⟩=>⟨_,h1,h3,jZ.ik (.cons (QU hB h3 h2) (.cons (.v _) (.nil _ _ _)))⟩
def tc:E.le (.agg an) (ib iL):=by
 have:ib iL = .agg [bP false,.sl false 0 1 λi _=>.v (.int .u32 (((ia 0).getD i 0:Nat):Int)),iP 0]:=by
  show E.agg [bP false,iz (ia 0),iP 0]=_;unfold iz;rw[oD];rfl
 rw[this];exact .agg (.cons (.refl _) (.cons (.nil _ _ _) (.cons (.refl _) .nil)))
def pK(a b:Dy)(ha:a.ic)(hb:b.ic):gW 76 [ib a,ib b] (iP (ke a b)):=pc2 call76 (λA c A' c' w h k _=>aav a b A A' c c' w h k ha hb) rv
def uf(a:Dy)(ha:a.ic):gW 50 [ib a] (iP a.kf):=C5 call50 (λA c w h _=>aaA a A c w h ha) rv
def rT(a:Dy)(ha:a.ic):gW 60 [ib a] (bP true):=C5 call60 (λA c w h _=>QW a A c w h ha) rv
def QR(a:Dy)(ha:a.ic):gW 279 [ib a] (iP (iy a.m)):=C5 call279 (λA c w h _=>aat a A c w h ha) rv
def wZ(t e:Nat)(s:String):TI:=⟨t,.slice e,⟨.slice e,s,1,24,true,8,8,some (.slice none 0 0),false,#[]⟩⟩
def sd(t:Nat)(d:TypeDesc)(s:String):TI:=⟨t,d,⟨d,s,1,8,true,8,8,some (.nilFunc),false,#[]⟩⟩
def TT:List TI:=[
 ⟨3,.int .i64,⟨.int .i64, "int", 1,8,false,8,8,some (.int .i64 0),true,#[]⟩⟩,
 ⟨4,.bool,⟨.bool, "bool", 1,1,false,1,1,some (.bool false),true,#[]⟩⟩,
 ⟨5,.int .u8,⟨.int .u8, "uint8", 1,1,false,1,1,some (.int .u8 0),true,#[]⟩⟩,
 ⟨9,.string,⟨.string, "string", 1,16,true,8,8,some (.string ⟨#[]⟩),true,#[]⟩⟩,
 ⟨22,.int .i8,⟨.int .i8, "int8", 1,1,false,1,1,some (.int .i8 0),true,#[]⟩⟩,wZ 23 41 "[]api.Interval",sd 25 (.func #[23] #[4] false) "func([]api.Interval) bool",wZ 26 153 "[]api.Op",wZ 27 3 "[]int",
 ⟨29,.struct #[⟨"Ins", 3,0,false, "", "", 0⟩,⟨"Ops", 26,1,false, "", "", 8⟩,⟨"Outs", 27,2,false, "", "", 32⟩],⟨.named "flowpipe/api.Tape" 28, "api.Tape", 3,56,true,8,8,some (.agg #[.int .i64 0,.slice none 0 0,.slice none 0 0]),false,#[]⟩⟩,
 ⟨31,.struct #[⟨"Tape", 29,0,false, "", "", 0⟩,⟨"States", 3,3,false, "", "", 56⟩,⟨"Params", 23,4,false, "", "", 64⟩],⟨.named "flowpipe/api.System" 30, "api.System", 5,88,true,8,8,some (.agg #[.int .i64 0,.slice none 0 0,.slice none 0 0,.int .i64 0,.slice none 0 0]),false,#[]⟩⟩,wZ 35 95 "[]uint32",
 ⟨37,.struct #[⟨"Neg", 4,0,false, "", "", 0⟩,⟨"M", 35,1,false, "", "", 8⟩,⟨"E", 3,2,false, "", "", 32⟩],⟨.named "flowpipe/api.Dyadic" 36, "api.Dyadic", 3,40,true,8,8,some (.agg #[.bool false,.slice none 0 0,.int .i64 0]),false,#[]⟩⟩,sd 39 (.func #[37] #[4] false) "func(api.Dyadic) bool",
 ⟨41,.struct #[⟨"Lo", 37,0,false, "", "", 0⟩,⟨"Hi", 37,3,false, "", "", 40⟩,⟨"All", 4,6,false, "", "", 80⟩],⟨.named "flowpipe/api.Interval" 40, "api.Interval", 7,88,true,8,8,some (.agg #[.bool false,.slice none 0 0,.int .i64 0,.bool false,.slice none 0 0,.int .i64 0,.bool false]),false,#[]⟩⟩,
 ⟨43,.int .i64,⟨.named "flowpipe/api.Errno" 3, "api.Errno", 1,8,false,8,8,some (.int .i64 0),true,#[]⟩⟩,wZ 49 23 "[][]api.Interval",wZ 57 62 "[]krawczyk.Root",
 ⟨62,.struct #[⟨"X", 23,0,false, "", "", 0⟩,⟨"Sure", 4,1,false, "", "", 24⟩],⟨.named "flowpipe/krawczyk.Root" 61, "krawczyk.Root", 2,32,true,8,8,some (.agg #[.slice none 0 0,.bool false]),false,#[]⟩⟩,sd 63 (.func #[62] #[4] false) "func(krawczyk.Root) bool",sd 66 (.func #[41,41] #[4] false) "func(api.Interval, api.Interval) bool",sd 67 (.func #[23,62] #[4] false) "func([]api.Interval, krawczyk.Root) bool",sd 76 (.func #[41] #[4] false) "func(api.Interval) bool",
 ⟨78,.struct #[⟨"N", 3,0,false, "", "", 0⟩,⟨"D", 3,1,false, "", "", 8⟩],⟨.named "flowpipe/api.Ratio" 77, "api.Ratio", 2,16,false,8,8,some (.agg #[.int .i64 0,.int .i64 0]),true,#[]⟩⟩,wZ 79 81 "[]api.Expr",
 ⟨81,.struct #[⟨"Kind", 3,0,false, "", "", 0⟩,⟨"Num", 78,1,false, "", "", 8⟩,⟨"Name", 9,3,false, "", "", 24⟩,⟨"N", 3,4,false, "", "", 40⟩,⟨"L", 79,5,false, "", "", 48⟩],⟨.named "flowpipe/api.Expr" 80, "api.Expr", 6,72,true,8,8,some (.agg #[.int .i64 0,.int .i64 0,.int .i64 0,.string ⟨#[]⟩,.int .i64 0,.slice none 0 0]),false,#[]⟩⟩,wZ 86 9 "[]string",
 ⟨95,.int .u32,⟨.int .u32, "uint32", 1,4,false,4,4,some (.int .u32 0),true,#[]⟩⟩,sd 104 (.func #[41,41,3] #[41] false) "func(api.Interval, api.Interval, int) api.Interval",sd 105 (.func #[3] #[4] false) "func(int) bool",sd 131 (.func #[3] #[41] false) "func(int) api.Interval",
 ⟨134,.int .u64,⟨.int .u64, "uint", 1,8,false,8,8,some (.int .u64 0),true,#[]⟩⟩,sd 137 (.func #[37,3] #[37,43] false) "func(api.Dyadic, int) (api.Dyadic, api.Errno)",
 ⟨148,.int .u64,⟨.int .u64, "uint64", 1,8,false,8,8,some (.int .u64 0),true,#[]⟩⟩,
 ⟨153,.struct #[⟨"Kind", 3,0,false, "", "", 0⟩,⟨"A", 3,1,false, "", "", 8⟩,⟨"B", 3,2,false, "", "", 16⟩,⟨"N", 3,3,false, "", "", 24⟩,⟨"C", 78,4,false, "", "", 32⟩],⟨.named "flowpipe/api.Op" 152, "api.Op", 6,48,false,8,8,some (.agg #[.int .i64 0,.int .i64 0,.int .i64 0,.int .i64 0,.int .i64 0,.int .i64 0]),true,#[]⟩⟩,sd 175 (.func #[3,3,41] #[41] false) "func(int, int, api.Interval) api.Interval",
 ⟨188,.struct #[⟨"p", 3,0,false, "", "flowpipe/exponent", 0⟩],⟨.named "flowpipe/exponent.work" 187, "exponent.work", 1,8,false,8,8,some (.agg #[.int .i64 0]),true,#[⟨"flowpipe/exponent.add", 144,#[],some (289,false)⟩,⟨"flowpipe/exponent.div", 144,#[],some (287,false)⟩,⟨"flowpipe/exponent.exp", 108,#[],some (242,false)⟩,⟨"flowpipe/exponent.halved", 103,#[],some (197,false)⟩,⟨"flowpipe/exponent.log", 108,#[],some (364,false)⟩,⟨"flowpipe/exponent.mul", 144,#[],some (288,false)⟩,⟨"flowpipe/exponent.small", 76,#[],some (290,false)⟩]⟩⟩,
 ⟨190,.func #[37,37,3] #[37,43] false,⟨.named "flowpipe/interval.rounded" 147, "interval.rounded", 1,8,true,8,8,some (.nilFunc),false,#[]⟩⟩,
 ⟨191,.array 2 37,⟨.array 2 37, "[2]api.Dyadic", 6,80,true,8,8,some (.agg #[.bool false,.slice none 0 0,.int .i64 0,.bool false,.slice none 0 0,.int .i64 0]),false,#[]⟩⟩,
 ⟨192,.array 4 191,⟨.array 4 191, "[4][2]api.Dyadic", 24,320,true,8,8,some (.agg #[.bool false,.slice none 0 0,.int .i64 0,.bool false,.slice none 0 0,.int .i64 0,.bool false,.slice none 0 0,.int .i64 0,.bool false,.slice none 0 0,.int .i64 0,.bool false,.slice none 0 0,.int .i64 0,.bool false,.slice none 0 0,.int .i64 0,.bool false,.slice none 0 0,.int .i64 0,.bool false,.slice none 0 0,.int .i64 0]),false,#[]⟩⟩,
 ⟨213,.struct #[⟨"m", 35,0,false, "", "flowpipe/round", 0⟩,⟨"e", 3,1,false, "", "flowpipe/round", 24⟩,⟨"more", 4,2,false, "", "flowpipe/round", 32⟩],⟨.named "flowpipe/round.exact" 212, "round.exact", 3,40,true,8,8,some (.agg #[.slice none 0 0,.int .i64 0,.bool false]),false,#[]⟩⟩,wZ 219 37 "[]api.Dyadic",wZ 221 219 "[][]api.Dyadic",
 ⟨233,.map 3 237,⟨.map 3 237, "map[int]func(gradient.node) api.Interval", 1,8,true,8,8,some (.map none),false,#[]⟩⟩,
 ⟨236,.struct #[⟨"o", 153,0,false, "", "flowpipe/gradient", 0⟩,⟨"v", 41,6,false, "", "flowpipe/gradient", 48⟩,⟨"a", 41,13,false, "", "flowpipe/gradient", 136⟩,⟨"b", 41,20,false, "", "flowpipe/gradient", 224⟩,⟨"da", 41,27,false, "", "flowpipe/gradient", 312⟩,⟨"db", 41,34,false, "", "flowpipe/gradient", 400⟩,⟨"p", 3,41,false, "", "flowpipe/gradient", 488⟩],⟨.named "flowpipe/gradient.node" 235, "gradient.node", 42,496,true,8,8,some (.agg #[.int .i64 0,.int .i64 0,.int .i64 0,.int .i64 0,.int .i64 0,.int .i64 0,.bool false,.slice none 0 0,.int .i64 0,.bool false,.slice none 0 0,.int .i64 0,.bool false,.bool false,.slice none 0 0,.int .i64 0,.bool false,.slice none 0 0,.int .i64 0,.bool false,.bool false,.slice none 0 0,.int .i64 0,.bool false,.slice none 0 0,.int .i64 0,.bool false,.bool false,.slice none 0 0,.int .i64 0,.bool false,.slice none 0 0,.int .i64 0,.bool false,.bool false,.slice none 0 0,.int .i64 0,.bool false,.slice none 0 0,.int .i64 0,.bool false,.int .i64 0]),false,#[]⟩⟩,sd 237 (.func #[236] #[41] false) "func(gradient.node) api.Interval",wZ 240 35 "[][]uint32",sd 242 (.func #[35] #[4] false) "func([]uint32) bool",sd 248 (.func #[219] #[4] false) "func([]api.Dyadic) bool",
 ⟨252,.struct #[⟨"p", 3,0,false, "", "flowpipe/linear", 0⟩,⟨"bad", 4,1,false, "", "flowpipe/linear", 8⟩],⟨.named "flowpipe/linear.rough" 251, "linear.rough", 2,16,false,8,8,some (.agg #[.int .i64 0,.bool false]),true,#[]⟩⟩,sd 258 (.func #[3,3,41] #[37] false) "func(int, int, api.Interval) api.Dyadic",sd 261 (.func #[3,3,37] #[41] false) "func(int, int, api.Dyadic) api.Interval",
 ⟨287,.struct #[⟨"neg", 4,0,false, "", "flowpipe/circle", 0⟩,⟨"m", 35,1,false, "", "flowpipe/circle", 8⟩],⟨.named "flowpipe/circle.fix" 286, "circle.fix", 2,32,true,8,8,some (.agg #[.bool false,.slice none 0 0]),false,#[⟨"flowpipe/circle.add", 298,#[],some (384,false)⟩,⟨"flowpipe/circle.by", 294,#[],some (387,false)⟩,⟨"flowpipe/circle.minus", 292,#[],some (375,false)⟩,⟨"flowpipe/circle.times", 295,#[],some (381,false)⟩,⟨"flowpipe/circle.zero", 24,#[],some (385,false)⟩]⟩⟩,sd 298 (.func #[287] #[287] false) "func(circle.fix) circle.fix"]
def yd:lE prog TT:=Gp.ok ⟨⟨underlying3,aD⟩,⟨underlying4,aD⟩,⟨underlying5,aD⟩,⟨underlying9,aD⟩,⟨underlying22,aD⟩,⟨underlying23,aD⟩,⟨underlying25,aD⟩,⟨underlying26,aD⟩,⟨underlying27,aD⟩,⟨underlying29,aD⟩,⟨underlying31,aD⟩,⟨underlying35,aD⟩,⟨underlying37,aD⟩,⟨underlying39,aD⟩,⟨underlying41,aD⟩,⟨underlying43,aD⟩,⟨underlying49,aD⟩,⟨underlying57,aD⟩,⟨underlying62,aD⟩,⟨underlying63,aD⟩,⟨underlying66,aD⟩,⟨underlying67,aD⟩,⟨underlying76,aD⟩,⟨underlying78,aD⟩,⟨underlying79,aD⟩,⟨underlying81,aD⟩,⟨underlying86,aD⟩,⟨underlying95,aD⟩,⟨underlying104,aD⟩,⟨underlying105,aD⟩,⟨underlying131,aD⟩,⟨underlying134,aD⟩,⟨underlying137,aD⟩,⟨underlying148,aD⟩,⟨underlying153,aD⟩,⟨underlying175,aD⟩,⟨underlying188,aD⟩,⟨underlying190,aD⟩,⟨underlying191,aD⟩,⟨underlying192,aD⟩,⟨underlying213,aD⟩,⟨underlying219,aD⟩,⟨underlying221,aD⟩,⟨underlying233,aD⟩,⟨underlying236,aD⟩,⟨underlying237,aD⟩,⟨underlying240,aD⟩,⟨underlying242,aD⟩,⟨underlying248,aD⟩,⟨underlying252,aD⟩,⟨underlying258,aD⟩,⟨underlying261,aD⟩,⟨underlying287,aD⟩,⟨underlying298,aD⟩,trivial⟩
end Go.Proofs.YtjkmahljfblobaaGreatDoor
namespace Go.Proofs.YtjkmahljfblobaaGreatDoor.Pu
open Go.RowKit
def E.iS:E->Nat->Nat->E
 | .sl _ _ _ el,i,j=>el i j
 | .kY _ _ _ _ el,i,j=>el i j
 |_,_,_=>.any
section
variable {P:Program} {K:World->Prop}
def Sp.pre{c:Code}{σ τ:PS}{Q:Ex->PS->Prop}(h:PS.le σ τ)(k:Sp P K c τ Q):Sp P K c σ Q:=λw0 B a w L g r=>
 let⟨L',r'⟩:=h w0 B a w L (λb hb=>(g.hB b hb).1) r;k w0 B a w L' g r'
def Sp.post{c:Code}{σ:PS}{Q Q':Ex->PS->Prop}(h:Sp P K c σ Q)(k:∀ e τ,Q e τ->∃ τ',PS.le τ τ'/\Q' e τ'):Sp P K c σ Q':=λw0 B a w L g r=>
 Code.wp_mono (λ_ _ _ ⟨ex,τ,L',h1,h2,h3⟩=>let⟨τ',q1,q2⟩:=k ex τ h2;let⟨L2,r2⟩:=q1 w0 B _ _ L' (λb hb=>(g.hB b hb).1) h3;⟨ex,τ',L2,h1,q2,r2⟩) (h w0 B a w L g r)
def Sp.fam{α:Type}(f:α->PS)(p:α->Prop)(m:α->Nat){b:Code}{e:Ex}{τ:PS}
 (step:∀ x,p x->Sp P K b (f x) (λe' υ=>(e' = .normal/\∃ y,p y/\m y<m x/\υ=f y)\/(e' ≠ .normal/\e'=e/\υ=τ))) {σ:PS} (x:α) (hx:p x) (h0:PS.le σ (f x)):
 Sp P K (.loop b) σ (λe' υ=>e'=e/\υ=τ):=by
 refine Sp.pre h0 ?_;refine Sp.loop (Q:=λe' υ=>e'=e/\υ=τ) (λn σ=>∃ x,p x/\m x=n/\σ=f x) (λn σ ⟨x,h1,h2,h3⟩=>?_) (m x) (f x) ⟨x,hx,rfl,rfl⟩;subst h3 h2;exact(step x h1).mono λe' υ h=>h.imp (λ⟨q1,y,q2,q3,q4⟩=>⟨q1,m y,q3,y,q2,rfl,q4⟩) id
def Sp.abA{α:Type}{f:α->PS}{p:α->Prop}{m:α->Nat}{b:Code}{e:Ex}{τ υ:PS}{x:α}(y:α)(h:Sp P K b (f x) (λe' υ'=>e' = .normal/\υ'=υ))(hy:p y)(hm:m y<m x)(hl:PS.le υ (f y)):
 Sp P K b (f x) (λe' υ=>(e' = .normal/\∃ y,p y/\m y<m x/\υ=f y)\/(e' ≠ .normal/\e'=e/\υ=τ)):=
 h.post λ_ _ ⟨h1,h2⟩=>⟨f y,h2▸hl,.inl ⟨h1,y,hy,hm,rfl⟩⟩
def Sp.abB{α:Type}{f:α->PS}{p:α->Prop}{m:α->Nat}{b:Code}{e:Ex}{τ υ:PS}{x:α}(h:Sp P K b (f x) (λe' υ'=>e'=e/\υ'=υ))(he:e ≠ .normal)(hl:PS.le υ τ):
 Sp P K b (f x) (λe' υ=>(e' = .normal/\∃ y,p y/\m y<m x/\υ=f y)\/(e' ≠ .normal/\e'=e/\υ=τ)):=
 h.post λ_ _ ⟨h1,h2⟩=>⟨τ,h2▸hl,.inr ⟨h1▸he,h1,rfl⟩⟩
end
def Ab(k:Nat):Code->Option Code
 | .loop b=>if Nat.beq (D7 b) k then some b else Ab k b
 | .seq a b=>match Ab k a with
  |some c=>some c
  |none=>Ab k b
 | .cond _ a b=>match Ab k a with
  |some c=>some c
  |none=>Ab k b
 | .block _ b=>Ab k b
 | .scope b=>Ab k b
 |_=>none
def YP(k:Nat)(fn:Func):Code:=((fn.body.bind (Ab k)).getD .skip)
def Bx.le.iD{a b:Bx}(h:a=b):Bx.le a b:=h▸Bx.le.refl a
inductive DE:List PV->List PV->Prop
 |nil:DE [] []
 |cons {p q:PV} {l m:List PV} (h:PV.le p q) (k:DE l m):DE (p::l) (q::m)
def DE.len{l m:List PV}(h:DE l m):l.length=m.length:=by
 induction h with
 |nil=>rfl
 |cons _ _ ih=>simp[ih]
def Bx.le.row{nl:Bool}{T:TypeId}{n n' sz:Nat}{el el':Nat->Nat->E}(hn:n=n')(h:∀ i j,i<n->j<sz->E.le (el i j) (el' i j)/\(el' i j).nr 2=true):Bx.le (.row nl T n sz el) (.row nl T n' sz el'):=
 ⟨id,λ_ _ _ _ _ ⟨f,h1,h2,h3⟩=>by subst hn;exact⟨f,h1,h2,λi j hi hj=>⟨(h i j hi hj).1 _ _ _ _ (h3 i j hi hj).1,(h i j hi hj).2⟩⟩⟩
def Bx.le.il{nl:Bool}{T1 T0:TypeId}{n n' sz:Nat}{len len':Nat->Nat}{el el':Nat->Nat->Nat->E}{pend:Option Nat}(hn:n=n')(hl:∀ k,k<n->len k=len' k)
 (h:∀ k i j,k<n->i<len k->j<sz->E.le (el k i j) (el' k i j)/\(el' k i j).nr 2=true):Bx.le (.il nl T1 T0 n sz len el pend) (.il nl T1 T0 n' sz len' el' pend):=
 ⟨id,λ_ _ _ _ _ hh=>by
  subst hn;rcases hh with hh|⟨b,ofs,c,cur,f,h1,h2,h3,h4,h5,h6,h7,h8,h9,mY,mZ⟩
  .exact .inl hh
  refine .inr ⟨b,ofs,c,cur,f,h1,h2,h3,h4,h5,h6,h7,λk hk=>?_,h9,mY,mZ⟩;rw[<-hl k hk];exact⟨(h8 k hk).1,λi j hi hj=>⟨(h k i j hk hi hj).1 _ _ _ _ ((h8 k hk).2 i j hi hj).1,(h k i j hk hi hj).2⟩⟩⟩
def Bx.le.Wp{T1 T0 sz:Nat}{len:Nat->Nat}{el:Nat->Nat->E}{el':Nat->Nat->Nat->E}:Bx.le (.row true T1 0 1 el) (.il true T1 T0 0 sz len el' none):=
 ⟨id,λ_ _ _ _ _ ⟨f,h1,h2,h3⟩=>by
  rcases h1 with⟨h,_⟩|⟨b,ofs,c,cur,h,hg,oW,nM,oh,ku,jB⟩
  .refine .inl ⟨h,rfl,λx hx=>?_⟩;have:=(h2 x).1 hx;rw[h]at this;simp[Value.ownBlock]at this
  .refine .inr ⟨b,ofs,c,cur,λ_ _ _=>undef,h,hg,oW,nM,aA,λk hk=>absurd hk (bu k),jB rfl,λk hk=>absurd hk (bu k),λx=>?_,λk k' x hk=>absurd hk (bu k),λk hk=>absurd hk (bu k)⟩;rw[h2,h];simp only[Value.ownBlock,bt];exact⟨λe=>.inl e.symm,λe=>e.elim (λe=>e.symm) λ⟨k,hk,_⟩=>absurd hk (bu k)⟩⟩
def PS.le.ael{σ τ:PS}(hn:σ.n=τ.n)(jB:(τ.b.all λx=>x.2.nl)=true)(hr:FV τ=true)(ht:w9 σ τ.t)(hb:vW σ τ.b):PS.le σ τ:=λw0 B a w L _ r=>by
 let L':Lk:=⟨λid=>L.lL id/\(τ.bo id).isSome=true,λid x=>L.own id x/\(τ.bo id).isSome=true,L.val,L.iB⟩
 have iJ:qw L w L' w:=⟨bl _,λx _ ⟨id,h,_⟩=>⟨id,h⟩,λ_ _ _=>rfl⟩
 refine⟨L',r.hd,by rw[<-hn];exact r.hs,λt=>?_,λid b h=>?_,λid=>?_,λid x h=>⟨r.hn id x h.1,h.2⟩,λid x h=>r.hw id x h.1,λid id' x h k=>r.hi id id' x h.1 k.1,r.he,λh id b k=>?_⟩
 .have hg:τ.get t=((look τ.t t)).getD (.e .any):=rfl;cases hl:look τ.t t with
  |none=>rw[hg,hl];exact .any _
  |some p=>
   rw[hg,hl];have:=ht.get hl _ _ _ _ _ (r.ht t);refine kH.move iJ this λid hid oV=>⟨⟨oV,?_⟩,rfl,λ_=>rfl⟩
   have q:=bG.1 (fY.1 hr).1 _ (Fh hl);exact bG.1 q id hid
 .obtain ⟨b',h1,h2⟩:=hb.get h;have hs:(τ.bo id).isSome=true:=by rw[h];rfl
  refine(h2.2 _ _ _ _ _ (r.hb id b' h1)).later iJ rfl (λx=>⟨λq=>q.1,λq=>⟨q,hs⟩⟩) (λ_=>rfl) (λ_ _=>rfl) λp v hp k=>kH.move iJ k λid hid oV=>⟨⟨oV,?_⟩,rfl,λ_=>rfl⟩
  have q:=bG.1 (fY.1 hr).2 _ (Fh h);exact bG.1 q id (eU.2 ⟨p,hp,hid⟩)
 .show L.lL id/\(τ.bo id).isSome=true↔(τ.bo id).isSome=true;refine⟨λh=>h.2,λh=>⟨(r.hv id).2 ?_,h⟩⟩;obtain⟨b,iN⟩:=fX.1 h;obtain⟨b',h1,_⟩:=hb.get iN;rw[h1];rfl
 .exact bG.1 jB _ (Fh k)
def PV.uk(id:Nat)(e:E)(p:PV):PV:=match p with
 | .own i=>if Nat.beq i id then .e e else .own i
 |p=>if p.kK.any (Nat.beq id)then .e .any else p
def PS.uk(σ:PS)(id:Nat)(e:E):PS:={ σ with t:=σ.t.map λx=>(x.1,x.2.uk id e),b:=(σ.b.filter λx=>!Nat.beq x.1 id).map λx=>(x.1,x.2.qE (PV.uk id e)) }
def Bx.as:Bx->Option E
 | .row nl _ n sz el=>some (.sl nl n sz el)
 | .il nl _ _ n sz len el none=>some (.sl true n 1 λk _=>.sl nl (len k) sz (el k))
 |_=>none
def PS.le.freeze{σ:PS}(id:Nat){b:Bx}{e:E}(iN:σ.bo id=some b)(he:b.as=some e):PS.le σ (σ.uk id e):=λw0 B a w L hB r=>by
 let L':Lk:=⟨λi=>L.lL i/\i≠id,λi x=>L.own i x/\i≠id,L.val,L.iB⟩
 have iJ:qw L w L' w:=⟨bl _,λx _ ⟨i,h,_⟩=>⟨i,h⟩,λ_ _ _=>rfl⟩
 have qA:∀ i,(σ.uk id e).bo i=if i=id then none else(σ.bo i).map (Bx.qE (PV.uk id e)):=by
  intro i;unfold PS.bo PS.uk;simp only[IU];by_cases h:i=id
  .subst h;rw[bj rfl,UD];rfl
  .rw [bh h,Fg _ _ _ (λe=>h e.symm)]
 have pM:∀ x,L.own id x->¬bad B L' x:=by
  rintro x hx (h|⟨i,h1,h2⟩)
  .exact (r.hw id x hx).1 (hB x h)
  .exact h2 (r.hi i id x h1 hx)
 have own:∀ (v:Value) (T:TypeId) (n sz:Nat) (f:Nat->Nat->Value) (nl:Bool) (el:Nat->Nat->E),mL w v T n sz f nl->(∀ x,v.ownBlock=some x->L.own id x) ->
  (∀ i j,i<n->j<sz->iC (bad B L) (jg L) w (el i j) (f i j)/\(el i j).nr 2=true)->iC (bad B L') (jg L') w (.sl nl n sz el) v:=by
  intro v T n sz f nl el h1 h2 h3;rcases h1 with⟨rfl,rfl⟩|⟨b,ofs,c,cur,rfl,hg,oW,nM,oh,ku,jB⟩
  .exact .sl nl 0 sz el none 0 f (bl _) aC (λ_=>rfl) (λi j hi=>absurd hi (bu i)) (λi j hi=>absurd hi (bu i)) (λi j hi=>absurd hi (bu i)) (λi j hi=>absurd hi (bu i))
  .have oX:=h2 b rfl;refine .sl nl n sz el _ c f oW (by unfold maxLen at nM;omega) (λh=>by cases h) (λi j hi hj=>⟨(ku i j hi hj).2,λhn=>jB hn _ (dI (ku i j hi hj).1)⟩) (λi j hi hj=>(h3 i j hi hj).2)
    (λi j hi hj=>⟨b,ofs,rfl,pM b oX,(r.hw id b oX).2,?_⟩) (λi j hi hj=>iJ.ko (h3 i j hi hj).1)
   simp only[World.cell?,hg];simpa using(ku i j hi hj).1
 have hold:∀ v,v=L.val id->iC (bad B L') (jg L') w e v:=by
  rintro v rfl;have zG:=r.hb id b iN;cases b with
  |cells T l=>cases he
  |pj nl T l=>cases he
  |xT=>cases he
  |mS=>cases he
  |row nl T n sz el=>
   cases he;obtain⟨f,h1,h2,h3⟩:=zG;exact own _ T n sz f nl el h1 (λx hx=>(h2 x).2 hx) h3
  |il nl T1 T0 n sz len el pend=>
   cases pend with
   |some k=>cases he
   |none=>
    cases he;rcases zG with⟨h1,h2,_⟩|jf
    .subst h2;rw[h1];exact .sl true 0 1 _ none 0 (λ_ _=>undef) (bl _) aC (λ_=>rfl) (λi j hi=>absurd hi (bu i)) (λi j hi=>absurd hi (bu i)) (λi j hi=>absurd hi (bu i)) (λi j hi=>absurd hi (bu i))
    obtain⟨b,ofs,c,cur,f,h1,h2,h3,h4,h5,h6,h7,h8,h9,mY,mZ⟩:=jf;have oX:L.own id b:=(h9 b).2 (.inl rfl);rw[h1];refine .sl true n 1 _ _ c (λk _=>L.iB id k) h3 (by unfold maxLen at h4;omega) (λh=>by cases h) (λk j hk hj=>?_) (λk j hk hj=>rfl)
     (λk j hk hj=>⟨b,ofs,rfl,pM b oX,(r.hw id b oX).2,?_⟩) (λk j hk hj=>own _ T0 (len k) sz (f k) nl (el k) (h8 k hk).1 (λx hx=>(h9 x).2 (.inr ⟨k,hk,hx⟩)) (h8 k hk).2)
    .obtain ⟨_,q1,q2⟩:=(h8 k hk).1.head;exact⟨q1,λ_=>q2⟩
    .rw [cv];obtain rfl:j=0:= aA ;simp only[World.cell?,h2];simpa using h6 k hk aF 
 have hT:∀ (p:PV) (v:Value),kH (bad B L) (jg L) L w p v->kH (bad B L') (jg L') L' w (p.uk id e) v:=by
  intro p v k;have move:∀ (p:PV) (v:Value),kH (bad B L) (jg L) L w p v->(p.kK.any (Nat.beq id))=false->kH (bad B L') (jg L') L' w p v:=by
   intro p v k hp;refine kH.move iJ k λi hi oV=>⟨⟨oV,?_⟩,rfl,λ_=>rfl⟩
   rintro rfl;have:=cw.1 hp i hi;simp at this
  have gen:∀ (p:PV) (v:Value),kH (bad B L) (jg L) L w p v->kH (bad B L') (jg L') L' w (if p.kK.any (Nat.beq id)then .e .any else p) v:=by
   intro p v k;cases hp:p.kK.any (Nat.beq id)with
   |true=>exact .any _
   |false=>exact move p v k hp
  cases p with
  |own i=>
   simp only[PV.uk];by_cases hi:i=id
   .subst hi;rw[ck,bj rfl];exact hold _ k.2
   .rw [cJ hi,bh aC];exact⟨⟨k.1,hi⟩,k.2⟩
  |_=>exact gen _ _ k
 refine⟨L',r.hd,r.hs,λt=>?_,λi b' h=>?_,λi=>?_,λi x h=>⟨r.hn i x h.1,h.2⟩,λi x h=>r.hw i x h.1,λi i' x h k=>r.hi i i' x h.1 k.1,r.he,λh i b' k=>?_⟩
 .have hg:(σ.uk id e).get t=(σ.get t).uk id e:=by
   unfold PS.get PS.uk;rw[IU];cases look σ.t t<;>rfl
  rw[hg];exact hT _ _ (r.ht t)
 .rw [qA]at h;split at h
  .cases h
  .rename_i hi;obtain⟨b0',lG,rfl⟩:=bQ.1 h;exact mA.map (g:=λp=>p) iJ (by rw[Bq];exact r.hb i b0' lG) rfl (λx=>⟨λq=>q.1,λq=>⟨q,hi⟩⟩) (λ_=>rfl) (λ_ _=>rfl) λp v _ k=>hT p v k
 .rw [qA];show L.lL i/\i≠id↔_;by_cases hi:i=id
  .subst hi;simp
  .simp only[hi,cO,eg,eZ,bB,eu];exact r.hv i
 .rw [qA]at k;split at k
  .cases k
  .obtain ⟨b0',lG,rfl⟩:=bQ.1 k;rw[Br];exact r.hl h i b0' lG
def PS.B5(σ:PS)(t id:Nat)(b:Bx):PS:={ σ with t:=(t,.own id)::σ.t.filter (λx=>!Nat.beq x.1 t),b:=(id,b)::σ.b }
def PS.le.XM{σ:PS}(t id:Nat){nl:Bool}{T:TypeId}{sz:Nat}{el:Nat->Nat->E}(iN:σ.bo id=none)(hg:σ.get t = .e (.v (.slice none 0 0)))(jB:σ.nl=true->nl=true):PS.le σ (σ.B5 t id (.row nl T 0 sz el)):=λw0 B a w L hB r=>by
 have nO:¬L.lL id:=λh=>by have:=(r.hv id).1 h;rw[iN]at this;cases this
 let L':Lk:=⟨λi=>L.lL i\/i=id,L.own,λi=>if i=id then .slice none 0 0 else L.val i,L.iB⟩
 have iJ:qw L w L' w:=⟨bl _,λx _ h=>h,λ_ _ _=>rfl⟩
 have qA:∀ i,(σ.B5 t id (.row nl T 0 sz el)).bo i=if i=id then some (.row nl T 0 sz el)else σ.bo i:=by
  intro i;unfold PS.bo PS.B5;rw[rM];by_cases h:id=i
  .rw [bj h,bj h.symm]
  .rw [bh h,bh (λe=>h e.symm)]
 have hv:a.tmps.getD t undef = .slice none 0 0:=by
  have:=r.ht t;rw[hg]at this;exact iC.kD this
 refine⟨L',r.hd,r.hs,λs=>?_,λi b' h=>?_,λi=>?_,λi x h=>.inl (r.hn i x h),r.hw,r.hi,r.he,λh i b' k=>?_⟩
 .have hgs:(σ.B5 t id (.row nl T 0 sz el)).get s=if t=s then .own id else σ.get s:=by
   unfold PS.get PS.B5;simp only[rM];by_cases h:t=s
   .rw [bj h,bj h];rfl
   .rw [bh h,bh h,Fg _ _ _ h]
  rw[hgs];by_cases h:t=s
  .subst h;rw[bj rfl,hv];exact⟨.inr rfl,(bj rfl).symm⟩
  .rw [bh h];refine kH.move iJ (r.ht s) λi _ oV=>⟨.inl oV,bh (λ(q:i=id)=>nO (q▸oV)),λ_=>rfl⟩
 .rw [qA]at h;split at h
  .rename_i hi;subst hi;cases h;refine⟨λ_ _=>undef,.inl ⟨bj rfl,rfl⟩,λx=>⟨λq=>absurd (r.hn _ _ q) nO,λq=>?_⟩,λi j hi=>absurd hi (bu i)⟩;have e1:L'.val i = .slice none 0 0:=bj rfl;rw[e1]at q;cases q
  .rename_i hi;exact(r.hb i b' h).later iJ (bh hi) (λ_=>Iff.rfl) (λ_=>rfl) (λ_ _=>rfl) λp v _ k=>kH.move iJ k λi _ oV=>⟨.inl oV,bh (λ(q:i=id)=>nO (q▸oV)),λ_=>rfl⟩
 .rw [qA];show L.lL i\/i=id↔_;by_cases hi:i=id
  .subst hi;simp
  .simp only[hi,or_false,bB];exact r.hv i
 .rw [qA]at k;split at k
  .cases k;exact jB h
  .exact r.hl h i b' k
def Bx.Ga:Bx->Option (Bool×TypeId×List PV)
 | .cells T l=>some (l.all E.mc,T,l.map .e)
 | .pj nl T l=>some (nl,T,l)
 |_=>none
def mA.Ga{B:Nat->Prop}{L:Lk}{w:World}{id:Nat}{b:Bx}{nl:Bool}{T:TypeId}{l:List PV}(h:mA (bad B L) (jg L) L w id b)(hf:b.Ga=some (nl,T,l)):mA (bad B L) (jg L) L w id (.pj nl T l):=by
 cases b with
 |cells T' l'=>
  cases hf;obtain⟨b,vs,h1,h2,h3,h4,h5⟩:=h;refine⟨b,vs,h1,h2,h3,by rw[h4.len,cU],λi p v hp hv=>?_,λu hu=>⟨h5 u hu,λhn=>Fb h4 hn u hu⟩⟩;rw[cD]at hp;obtain⟨e,he,rfl⟩:=bQ.1 hp;exact h4.ko i e v he hv
 |pj nl' T' l'=>cases hf;exact h
 |row=>cases hf
 |il=>cases hf
 |xT=>cases hf
 |mS=>cases hf
def ajf{b:Bx}{nl:Bool}{T:TypeId}{l:List PV}(hf:b.Ga=some (nl,T,l)):b.nl=nl:=by
 cases b<;>cases hf<;>rfl
def isNil:PV->Bool
 | .e (.v (.slice none 0 0))=>true
 |_=>false
def adA{p:PV}(h:isNil p=true):p = .e (.v (.slice none 0 0)):=by
 unfold isNil at h;split at h
 .rfl
 .cases h
def PS.KA(σ:PS)(d off id:Nat)(b:Bx):Option PS:=match σ.bo id,σ.bo d with
 |none,some bd=>match bd.Ga with
  |some (nl,T,l)=>match l[off]? with
   |some p=>if isNil p then some { σ with b:=(id,b)::(d,.pj nl T (l.set off (.own id)))::σ.b }else none
   |none=>none
  |none=>none
 |_,_=>none
def PS.le.XN{σ τ:PS}{d off id:Nat}{nl:Bool}{T:TypeId}{sz:Nat}{el:Nat->Nat->E}(h:σ.KA d off id (.row nl T 0 sz el)=some τ)(jB:σ.nl=true->nl=true):PS.le σ τ:=λw0 B a w L hB r=>by
 unfold PS.KA at h;split at h
 .rename_i bd iN Ei;split at h
  .rename_i nl' T' l hf;split at h
   .rename_i p hp;split at h
    .rename_i hn;obtain rfl:=adA hn;cases h;have jQ:d≠id:=λe=>by subst e;rw[iN]at Ei;cases Ei
     have nO:¬L.lL id:=λh=>by have:=(r.hv id).1 h;rw[iN]at this;cases this
     let L':Lk:=⟨λi=>L.lL i\/i=id,L.own,λi=>if i=id then .slice none 0 0 else L.val i,L.iB⟩
     have iJ:qw L w L' w:=⟨bl _,λx _ h=>h,λ_ _ _=>rfl⟩
     have Et:∀ (p:PV) (v:Value),kH (bad B L) (jg L) L w p v->kH (bad B L') (jg L') L' w p v:=λp v k=>kH.move iJ k λi _ oV=>⟨.inl oV,bh (λ(q:i=id)=>nO (q▸oV)),λ_=>rfl⟩
     have qA:∀ i,PS.bo { σ with b:=(id,.row nl T 0 sz el)::(d,.pj nl' T' (l.set off (.own id)))::σ.b } i=if i=id then some (.row nl T 0 sz el)else if i=d then some (.pj nl' T' (l.set off (.own id)))else σ.bo i:=by
      intro i;unfold PS.bo;simp only[rM];by_cases h:id=i
      .rw [bj h,bj h.symm]
      .rw [bh h,bh (show ¬i=id from λe=>h e.symm)];by_cases h2:d=i
       .rw [bj h2,bj h2.symm]
       .rw [bh h2,bh (λe=>h2 e.symm)]
     refine⟨L',r.hd,r.hs,λs=>Et _ _ (r.ht s),λi b' h=>?_,λi=>?_,λi x h=>.inl (r.hn i x h),r.hw,r.hi,r.he,λh i b' k=>?_⟩
     .rw [qA]at h;split at h
      .rename_i hi;subst hi;cases h;refine⟨λ_ _=>undef,.inl ⟨bj rfl,rfl⟩,λx=>⟨λq=>absurd (r.hn _ _ q) nO,λq=>?_⟩,λi j hi=>absurd hi (bu i)⟩;have e1:L'.val i = .slice none 0 0:=bj rfl;rw[e1]at q;cases q
      .rename_i hi;split at h
       .rename_i hd;subst hd;cases h;obtain⟨b,vs,h1,h2,h3,h4,h5,h6⟩:=(r.hb i _ Ei).Ga hf;refine⟨b,vs,(bh hi).trans h1,h2,h3,by simpa using h4,λj p v zQ hv=>?_,h6⟩;rw[List.getElem?_set]at zQ;split at zQ
        .rename_i hj;subst hj;split at zQ
         .cases zQ;have zS:=iC.kD (h5 off _ v hp hv);exact⟨.inr rfl,zS.trans (bj rfl).symm⟩
         .cases zQ
        .exact Et _ _ (h5 j p v zQ hv)
       .exact (r.hb i b' h).later iJ (bh hi) (λ_=>Iff.rfl) (λ_=>rfl) (λ_ _=>rfl) λp v _ k=>Et p v k
     .rw [qA];show L.lL i\/i=id↔_;by_cases hi:i=id
      .subst hi;simp
      .simp only[hi,or_false,bB];by_cases hd:i=d
       .subst hd;simp only[bC,Option.isSome_some,iff_true];exact(r.hv i).2 (by rw[Ei];rfl)
       .simp only[hd,bB];exact r.hv i
     .rw [qA]at k;split at k
      .cases k;exact jB h
      .split at k
       .cases k;show nl'=true;rw[<-ajf hf];exact r.hl h d _ Ei
       .exact r.hl h i b' k
    .cases h
   .cases h
  .cases h
 .cases h
end Go.Proofs.YtjkmahljfblobaaGreatDoor.Pu
namespace Go.Proofs.YtjkmahljfblobaaGreatDoor.Fp
def mT(x i:Nat)(b o:List Nat):Nat->List Nat×Nat
 | 0=>(o,0)
 |k+1=>
  let r:=mT x i b o k
  let z:=x*b.getD k 0+r.1.getD (i+k) 0+r.2
  (r.1.set (i+k) (z%4294967296),z/4294967296)
def lv(a b:List Nat):Nat->List Nat
 | 0=>List.replicate (a.length+b.length) 0
 |i+1=>
  let r:=mT (a.getD i 0) i b (lv a b i) b.length
  r.1.set (i+b.length) (r.2%4294967296)
def U6{x y:Nat}(hx:x<4294967296)(hy:y<4294967296):x*y<=18446744065119617025:=by
 have:=eC (aA:x<=4294967295) (aA:y<=4294967295);omega
def BY{L:List Nat}{k x:Nat}(hk:k<L.length):val (L.set k x)+4294967296^k*L.getD k 0=val L+4294967296^k*x:=by
 have:=OL (x:=x) hk;rwa[bk,bw hk]
def zC{L:List Nat}{k j x:Nat}(h:k≠j):(L.set k x).getD j 0=L.getD j 0:=by
 simp only[bk,List.getElem?_set_ne h]
def abQ{L:List Nat}{k x:Nat}(h:k<L.length):(L.set k x).getD k 0=x:=by
 simp[bk,h]
structure XD(x i:Nat)(b o:List Nat)(k:Nat)(r:List Nat×Nat):Prop where
 ok:iM r.1
 len:r.1.length=o.length
 lt:r.2<4294967296
 eq:val r.1+4294967296^(i+k)*r.2=val o+4294967296^i*(x*val (b.take k))
 qu:∀ j,i+k<=j->r.1.getD j 0=o.getD j 0
def Fq{x i:Nat}{b o:List Nat}(hx:x<4294967296)(hb:iM b)(ho:iM o)(hl:i+b.length<=o.length):∀ k,k<=b.length->XD x i b o k (mT x i b o k)
 | 0,_=>⟨ho,rfl,eD _,by simp[mT,val],λ_ _=>rfl⟩
 |k+1,hk=>by
  obtain⟨h1,h2,h3,h4,h5⟩:=Fq hx hb ho hl k aA;have hy:=hb.getD k;have hw:=h1.getD (i+k);have hm:=U6 hx hy;have hv:=As b k;simp only[mT];generalize mT x i b o k=r at *
  generalize hz:x*b.getD k 0+r.1.getD (i+k) 0+r.2=z;have EH:=BY (L:=r.1) (k:=i+k) (x:=z%4294967296) aA;refine⟨h1.set _ (bI _ aC),by simpa using h2,by show z/4294967296<_;omega,?_,λj hj=>?_⟩
  .have e1:z=z%4294967296+4294967296*(z/4294967296):=(en z _).symm;show val (r.1.set (i+k) (z%4294967296))+4294967296^(i+(k+1))*(z/4294967296)=_;rw[hv,bU x,bU (4294967296^i),<-cN (val o),<-h4];have e2:4294967296^(i+(k+1))*(z/4294967296)=4294967296^(i+k)*(4294967296*(z/4294967296)):=by rw[(aA:i+(k+1)=(i+k)+1),bT,bE]
   have e3:4294967296^i*(x*(4294967296^k*b.getD k 0))=4294967296^(i+k)*(x*b.getD k 0):=by rw[bA];simp only[bE,eE]
   rw[e2,e3];have e4:4294967296^(i+k)*z=4294967296^(i+k)*(x*b.getD k 0)+4294967296^(i+k)*r.1.getD (i+k) 0+4294967296^(i+k)*r.2:=by rw[<-hz,bU,bU]
   have e5:4294967296^(i+k)*z=4294967296^(i+k)*(z%4294967296)+4294967296^(i+k)*(4294967296*(z/4294967296)):=by rw[<-bU,<-e1]
   omega
  .show (r.1.set (i+k) _).getD j 0=_;rw[zC aA,h5 j aA]
structure XE(a b:List Nat)(i:Nat)(o:List Nat):Prop where
 ok:iM o
 len:o.length=a.length+b.length
 eq:val o=val (a.take i)*val b
 zero:∀ j,i+b.length<=j->o.getD j 0=0
def Fs{a b:List Nat}(ha:iM a)(hb:iM b):∀ i,i<=a.length->XE a b i (lv a b i)
 | 0,_=>⟨iM.Dd _,by simp[lv],by simp[lv,BX,val],λj _=>by
  by_cases h:j<a.length+b.length<;>simp[lv,bk,fB,h]⟩
 |i+1,hi=>by
  obtain⟨h1,h2,h3,h4⟩:=Fs ha hb i aA;obtain⟨q1,q2,q3,q4,q5⟩:=Fq (ha.getD i) hb h1 (i:=i) aA b.length (bl _);have hv:=As a i;simp only[lv];generalize mT (a.getD i 0) i b (lv a b i) b.length=r at *
  have EH:=BY (L:=r.1) (k:=i+b.length) (x:=r.2%4294967296) aA;rw[q5 _ (bl _),h4 _ (bl _),cT,bW,ct q3,q4,gp,h3]at EH;refine⟨q1.set _ (bI _ aC),aL,?_,λj hj=>?_⟩
  .rw [ct q3,EH,hv,bS,bE]
  .rw [zC aA,q5 _ aA,h4 _ aA]
def ajF{a b:List Nat}(ha:iM a)(hb:iM b):val (lv a b a.length)=val a*val b:=by
 have:=(Fs ha hb a.length (bl _)).eq;rwa[gp]at this
end Go.Proofs.YtjkmahljfblobaaGreatDoor.Fp
namespace Go.Proofs.YtjkmahljfblobaaGreatDoor
open Go.RowKit Fp Pu
abbrev qc(L:List Nat):Nat->Nat->E:=λi _=>.v (.int .u32 (L.getD i 0:Int))
def Aq(n:Nat):IntKind.u32.wrap (n:Int)=((n%4294967296:Nat):Int):=by rw[IntKind.wrap_u32];omega
def Oq(n:Nat):(n:Int)/2^32=((n/4294967296:Nat):Int):= aA 
def WJ{L:List Nat}{n:Nat}(h:n=L.length):E.le (.sl false n 1 (qc L)) (iz L):=by subst h;exact .refl _
def Wo{T n n':Nat}{L:List Nat}(hn:n=n')(h:∀ i,L.getD i 0=0):Bx.le (.row false T n 1 λ_ j=>[.v (.int .u32 0)].getD j .any) (.row false T n' 1 (qc L)):=
 .row hn λi j _ hj=>by
  obtain rfl:j=0:= aA ;refine⟨.iD ?_,rfl⟩;show E.v (.int .u32 0)=E.v (.int .u32 (L.getD i 0:Int));rw[h i];rfl
def Ol{T n n' p:Nat}{L:List Nat}{z:Nat}(hn:n=n')(hp:p<L.length):Bx.le (.row false T n 1 λi' j'=>if i'=p/\0<=j'/\j'<0+1 then[.v (.int .u32 (z:Int))].getD (j'-0) .any else(qc L) i' j') (.row false T n' 1 (qc (L.set p z))):=
 .row hn λi j _ hj=>by
  obtain rfl:j=0:= aA ;refine⟨.iD ?_,rfl⟩;by_cases h:i=p
  .subst h;rw[bj ⟨rfl,aA,aA⟩];show E.v (.int .u32 (z:Int))=E.v (.int .u32 (((L.set i z).getD i 0:Nat):Int));rw[Fp.abQ hp]
  .rw [bh (λq=>h q.1)];show E.v (.int .u32 (L.getD i 0:Int))=E.v (.int .u32 (((L.set p z).getD i 0:Nat):Int));rw[Fp.zC (λq=>h q.symm)]
def Wh{k l:IntKind}{a b c d:Int}(h:a=b)(h':c=d):Ending.returned (.tuple #[.int k a,.int l c]) = .returned (.tuple #[.int k b,.int l d]):=by rw[h,h']
def DG(x y c:Nat)(w:World)(hx:x<4294967296)(hy:y<4294967296)(hc:c<=1):
 Calls prog 359 #[.int .u32 x,.int .u32 y,.int .u32 c] w λe w'=>e = .returned (.tuple #[.int .u32 (((x+y+c)%4294967296:Nat):Int),.int .u32 (((x+y+c)/4294967296:Nat):Int)])/\w=w':=by
 go_enter func359,ntmps359;go_wp2;go_ret2;refine⟨?_,rfl⟩;exact Wh aA aA 
def ajr(a b:Nat)(ha:a<4294967296)(hb:b<4294967296):bits .or .u32 (a:Int) (b:Int)=((a |||b:Nat):Int):=by
 have h2:a |||b<2^32:=ado ha hb
 show IntKind.u32.wrap ((BitVec.ofInt 32 (a:Int) |||BitVec.ofInt 32 (b:Int)).toNat:Int)=_;rw[BitVec.toNat_or,fe,fe];rw[show((a:Int)%((2^32:Nat):Int)).toNat=a by omega,show((b:Int)%((2^32:Nat):Int)).toNat=b by omega];rw[IntKind.wrap_u32];omega
def Xj(a b:Nat)(ha:a<4294967296)(hb:b<4294967296):bits .and .u32 (a:Int) (b:Int)=((a &&& b:Nat):Int):=by
 have h2:a &&& b<2^32:=fc a hb;show IntKind.u32.wrap ((BitVec.ofInt 32 (a:Int) &&& BitVec.ofInt 32 (b:Int)).toNat:Int)=_;rw[BitVec.toNat_and,fe,fe];rw[show((a:Int)%((2^32:Nat):Int)).toNat=a by omega,show((b:Int)%((2^32:Nat):Int)).toNat=b by omega];rw[IntKind.wrap_u32];omega
def OF(a b:Nat)(ha:a<4294967296)(hb:b<4294967296):bits .xor .u32 (a:Int) (b:Int)=((a ^^^ b:Nat):Int):=by
 have h2:a ^^^ b<2^32:=eF ha hb;show IntKind.u32.wrap ((BitVec.ofInt 32 (a:Int) ^^^ BitVec.ofInt 32 (b:Int)).toNat:Int)=_;rw[BitVec.toNat_xor,fe,fe];rw[show((a:Int)%((2^32:Nat):Int)).toNat=a by omega,show((b:Int)%((2^32:Nat):Int)).toNat=b by omega];rw[IntKind.wrap_u32];omega
def J5(n:Nat)(h:n<4294967296):n/2147483648=(n.testBit 31).toNat:=by
 rw[Nat.testBit_eq_decide_div_mod_eq,show(2:Nat)^31=2147483648 from rfl];have h2:n/2147483648<2:= aA ;generalize n/2147483648=q at *
 have:q=0\/q=1:= aA ;rcases this with rfl|rfl<;>rfl
def aiM(x y c d:Nat)(hx:x<4294967296)(hy:y<4294967296)(hc:c<=1)(hd:d=(x+(4294967296-y)+(4294967296-c))%4294967296):
 (((4294967295 ^^^ x) &&& y) ||| ((4294967295 ^^^ (x ^^^ y)) &&& d))/2147483648=if x<y+c then 1 else 0:=by
 have AR:d<4294967296:= aA ;have h1:4294967295 ^^^ x<2^32:=eF aC hx;have h2:x ^^^ y<2^32:=eF hx hy;have h3:4294967295 ^^^ (x ^^^ y)<2^32:=eF aC h2;have h4:(4294967295 ^^^ x) &&& y<2^32:=fc _ hy;have h5:(4294967295 ^^^ (x ^^^ y)) &&& d<2^32:=fc _ AR;rw[J5 _ (ado h4 h5)];have tx:=J5 x hx;have ty:=J5 y hy;have td:=J5 d AR;rw[Nat.testBit_or,Nat.testBit_and,Nat.testBit_and,akh,akh,akh,show(4294967295:Nat).testBit 31=true by decide];clear h1 h2 h3 h4 h5;generalize x.testBit 31=p at *
 generalize y.testBit 31=q at *
 generalize d.testBit 31=r at *
 cases p<;>cases q<;>cases r<;>simp at tx ty td ⊢ <;> omega
def AA(x y c:Nat):Nat:=if x<y+c then 1 else 0
def xn(x y c:Nat):Nat:=(x+(4294967296-y)+(4294967296-c))%4294967296
def D0(x y c:Nat)(hx:x<4294967296)(hy:y<4294967296)(hc:c<=1):xn x y c+y+c=x+4294967296*AA x y c/\AA x y c<=1/\xn x y c<4294967296:=by
 unfold xn AA;split<;>omega
def WO(x y c:Nat)(w:World)(hx:x<4294967296)(hy:y<4294967296)(hc:c<=1):
 Calls prog 360 #[.int .u32 x,.int .u32 y,.int .u32 c] w λe w'=>e = .returned (.tuple #[.int .u32 (xn x y c:Nat),.int .u32 (AA x y c:Nat)])/\w=w':=by
 go_enter func360,ntmps360;go_wp2;go_ret2;refine⟨?_,rfl⟩;have hd:((x:Int)-y-c)%4294967296=(xn x y c:Int):=by unfold xn;omega
 have hb:=aiM x y c (xn x y c) hx hy hc rfl;have hl:=(D0 x y c hx hy hc).2.2;have em:IntKind.u32.max=((4294967295:Nat):Int):=rfl;refine Wh hd ?_;rw[hd,em,OF _ _ aC hx,OF _ _ hx hy];have h1:4294967295 ^^^ x<2^32:=eF aC hx;have h2:x ^^^ y<2^32:=eF hx hy;have h3:4294967295 ^^^ (x ^^^ y)<2^32:=eF aC h2;rw[OF _ _ aC h2,Xj _ _ h1 hy,Xj _ _ h3 hl];have h4:(4294967295 ^^^ x) &&& y<2^32:=fc _ hy;have h5:(4294967295 ^^^ (x ^^^ y)) &&& xn x y c<2^32:=fc _ hl;rw[ajr _ _ h4 h5];unfold AA;rw[<-hb];omega
def Pd{O:List Nat}{k c x y P Q P' Q':Nat}(ho:O[k]? = some 0)(h:val O+4294967296^k*c=P+Q)
 (hP:P'=P+4294967296^k*x) (hQ:Q'=Q+4294967296^k*y):
 val (O.set k ((x+y+c)%4294967296))+4294967296^(k+1)*((x+y+c)/4294967296)=P'+Q':=by
 have h1:=U7 (a:=1) (b:=x+y) (c:=c) ho;rw[cj,bW]at h1;rw[h1,h,hP,hQ,bU];omega
def WQ{O:List Nat}{k c x y d c' P Q P' Q':Nat}(ho:O[k]? = some 0)(h:val O+Q=P+4294967296^k*c)
 (hP:P'=P+4294967296^k*x) (hQ:Q'=Q+4294967296^k*y) (hd:d+y+c=x+4294967296*c'):
 val (O.set k d)+Q'=P'+4294967296^(k+1)*c':=by
 obtain⟨hk,h0⟩:=ca.1 ho;have h1:=OL (x:=d) hk;rw[h0,cT,bW]at h1;have e:=congrArg (4294967296^k * ·) hd;simp only[bU,<-bE]at e;rw[bT,h1,hP,hQ];omega
def ua(O:List Nat)(k:Nat):Prop:=∀ j,k<=j->j<O.length->O[j]? = some 0
def ua.at{O:List Nat}{k:Nat}(h:ua O k)(hk:k<O.length):O[k]? = some 0:=h k (bl _) hk
def ua.set{O:List Nat}{k:Nat}(h:ua O k)(v:Nat):ua (O.set k v) (k+1):=λj h1 h2=>by
 rw[List.getElem?_set_ne aA];exact h j aA (by simpa using h2)
def ua.OV(n:Nat):ua (List.replicate n 0) 0:=λj _ h=>by
 rw[fB];rw[bj (by simpa using h)]
def Ks(w:World)(v n:Nat)(e:Ending)(w':World):Prop:=∃ T,val T=v/\iM T/\T.length=n/\xd w T e w'
def O4(w:World)(v n:Nat)(e:Ending)(w':World):Prop:=∃ T,val T=v/\iM T/\T.length<=n/\xd w T e w'
def af3(A B:Option Addr)(c d:Nat)(L M:List Nat)(w:World)(hs:Sl w A c L)(hr:Sl w B d M)(h1:L.length<=3000)(_h2:M.length<=3000)(hc:M.length<=L.length):
 Calls prog 336 #[.slice A L.length c,.slice B M.length d] w (Ks w (val L+val M) (L.length+1)):=by
 obtain⟨l,hl⟩:∃ l,l=L.length:=⟨_,rfl⟩
 obtain⟨m,hm⟩:∃ m,m=M.length:=⟨_,rfl⟩
 rw[<-hl,<-hm]at hc;rw[<-hl]at h1;rw[<-hm]at _h2;have HL:=akH hl;have HM:=akH hm;rw[<-hl,<-hm];clear hl hm;have d0:decide ((l:Int)<m)=false:=bp aA;have d1:decide (l<m)=false:=bp aA;have vt:=Fi (l+1) aA;rw[show((l+1:Nat):Int)=l+1 by omega]at vt;have xt:=akH (Rw.Ac w (l+1));go_enter func336,ntmps336;go_wp2;go_loopw [6,7,8,9,23] (λcy _ _ _ i wr=>∃ (k q:Nat) (O:List Nat),k<=l/\i = .int .i64 k/\cy = .int .u32 q/\q<=1/\O.length=l+1/\iM O/\ua O k/\val O+4294967296^k*q=val (L.take k)+val (M.take k)/\Rw wr w.heap.size O/\iT w wr) (λ_ _ _ _ i _=>l-(intOf i).toNat)
 case atStart=>
  exact⟨0,0,List.replicate (l+1) 0,cg _,rfl,rfl,aC,aF,iM.Dd _,ua.OV _,by simp[BX],xt.out,iT.alloc _ _⟩
 case round=>
  obtain⟨k,q,O,hk,rfl,rfl,hq,hO,lg,hz,mm,hR,hb⟩:=hrel;have HV:=akH mm;have HO:=akH hO;clear mm hO;have HZ:=akH hz;clear hz;by_cases iJ:k<l
  .have tu:k<L.length:=by have:=HL.out;omega
   obtain⟨ab,ao,e1,_,c1⟩:=(hs.below hb).mr tu;have ni:L[k]<4294967296:=hs.ok.get tu;have ho:=HZ.out.at (by have:=HO.out;omega)
   have c4:=hR.frozen k;have Hy:=hR.cell ho;have HT:=akH (BZ L k tu);have HY:=akH (As M k);have qU:M.getD k 0<4294967296:=hr.ok.getD k;have HYc:=akH (λ(h:k<M.length)=>(hr.below hb).mr h);have HYg:=akH (λ(h:k<M.length)=>LG h);have HYn:=akH (λ(h:¬k<M.length)=>LF h);have HX:=akH (rfl:L[k]=L[k]);obtain⟨a,ha⟩:∃ a,a=L[k]:=⟨_,rfl⟩
   rw[<-ha]at c1 ni HT;clear ha HX tu;have HS:=akH (Pd ho HV.out HT.out HY.out);have HN:=akH (λv=>HZ.out.set v);have HOK:=akH (λv=>lg.Wz k v);have HR2:=akH (λv:Nat=>hR.set k v);have HE2:=akH (λv:Value=>hb.setCell (p:=⟨w.heap.size,k,none⟩) (bl _) v);clear ho hR hb lg;subst e1;by_cases S6:k<m
   .have wA:k<M.length:=by have:=HM.out;omega
    obtain⟨bb,bo,e2,_,c2⟩:=HYc.out wA;subst e2;rw[<-HYg.out wA]at c2;generalize M.getD k 0=b at *
    clear HYc HYg HYn wA;have HA:=akH (λw=>DG a b q w ni qU hq);go_wp2_with fail;refine(HA.out _).mono ?_;rintro e w1 ⟨rfl,rfl⟩;go_wp2;go_roundw
    case rel=>
     exact⟨k+1,(a+b+q)/4294967296,O.set k ((a+b+q)%4294967296),aA,by go_num,rfl,aA,by rw[cL];exact HO.out,HOK.out _,HN.out _,HS.out,HR2.out _,HE2.out _⟩
    case measure=>simp[intOf];omega
   .rw [HYn.out (by have:=HM.out;omega)]at HS;clear HYc HYg HYn qU HY;have HA:=akH (λw=>DG a 0 q w ni aC hq);go_wp2_with fail;refine(HA.out _).mono ?_;rintro e w1 ⟨rfl,rfl⟩;go_wp2;go_roundw
    case rel=>
     exact⟨k+1,(a+0+q)/4294967296,O.set k ((a+0+q)%4294967296),aA,by go_num,rfl,aA,by rw[cL];exact HO.out,HOK.out _,HN.out _,HS.out,HR2.out _,HE2.out _⟩
    case measure=>simp[intOf];omega
  .obtain rfl:k=l:= aA ;have ho:=HZ.out.at (by have:=HO.out;omega)
   have c4:=hR.frozen k;have Hy:=hR.cell ho;have HF:=akH (show val (O.set k q)=val L+val M by
    have h:=PU (c:=q) ho;rw[bX,ct aA,dk aA,cT,bW,HV.out,show L.take k=L from df (by rw[HL.out];exact bl _),show M.take k=M from df (by rw[<-HM.out];omega)]at h;omega)
   have HLn:=akH (show(O.set k q).length=k+1 by rw[cL];exact HO.out);have HOK:Hid (iM (O.set k q)):=lg.set k aA;have HR2:=akH (hR.set k q);have HE2:=akH (λv:Value=>hb.setCell (p:=⟨w.heap.size,k,none⟩) (bl _) v);clear ho hR hb lg;go_wp2;go_ret;have A6:=HR2.out.sl HOK.out (by rw[HLn.out];omega);rw[HLn.out]at A6;exact⟨_,HF.out,HOK.out,HLn.out,_,_,(by rw[HLn.out];rfl),A6,HE2.out _⟩
def af4(A B:Option Addr)(c d:Nat)(L M:List Nat)(w:World)(hs:Sl w A c L)(hr:Sl w B d M)(h1:L.length<=3000)(h2:M.length<=3000)(hc:L.length<M.length):
 Calls prog 336 #[.slice A L.length c,.slice B M.length d] w (Ks w (val L+val M) (M.length+1)):=by
 obtain⟨l,hl⟩:∃ l,l=L.length:=⟨_,rfl⟩
 obtain⟨m,hm⟩:∃ m,m=M.length:=⟨_,rfl⟩
 rw[<-hl,<-hm]at hc;rw[<-hl]at h1;rw[<-hm]at h2;have HL:=akH hl;have HM:=akH hm;rw[<-hl,<-hm];clear hl hm;have d0:decide ((l:Int)<m)=true:=bn aA;have d1:decide (l<m)=true:=bn aA;have vt:=Fi (m+1) aA;rw[show((m+1:Nat):Int)=m+1 by omega]at vt;have xt:=akH (Rw.Ac w (m+1));go_enter func336,ntmps336;go_wp2;go_loopw [6,7,8,9,23] (λcy _ _ _ i wr=>∃ (k q:Nat) (O:List Nat),k<=m/\i = .int .i64 k/\cy = .int .u32 q/\q<=1/\O.length=m+1/\iM O/\ua O k/\val O+4294967296^k*q=val (M.take k)+val (L.take k)/\Rw wr w.heap.size O/\iT w wr) (λ_ _ _ _ i _=>m-(intOf i).toNat)
 case atStart=>
  exact⟨0,0,List.replicate (m+1) 0,cg _,rfl,rfl,aC,aF,iM.Dd _,ua.OV _,by simp[BX],xt.out,iT.alloc _ _⟩
 case round=>
  obtain⟨k,q,O,hk,rfl,rfl,hq,hO,lg,hz,mm,hR,hb⟩:=hrel;have HV:=akH mm;have HO:=akH hO;clear mm hO;have HZ:=akH hz;clear hz;by_cases iJ:k<m
  .have tu:k<M.length:=by have:=HM.out;omega
   obtain⟨ab,ao,e1,_,c1⟩:=(hr.below hb).mr tu;have ni:M[k]<4294967296:=hr.ok.get tu;have ho:=HZ.out.at (by have:=HO.out;omega)
   have c4:=hR.frozen k;have Hy:=hR.cell ho;have HT:=akH (BZ M k tu);have HY:=akH (As L k);have qU:L.getD k 0<4294967296:=hs.ok.getD k;have HYc:=akH (λ(h:k<L.length)=>(hs.below hb).mr h);have HYg:=akH (λ(h:k<L.length)=>LG h);have HYn:=akH (λ(h:¬k<L.length)=>LF h);have HX:=akH (rfl:M[k]=M[k]);obtain⟨a,ha⟩:∃ a,a=M[k]:=⟨_,rfl⟩
   rw[<-ha]at c1 ni HT;clear ha HX tu;have HS:=akH (Pd ho HV.out HT.out HY.out);have HN:=akH (λv=>HZ.out.set v);have HOK:=akH (λv=>lg.Wz k v);have HR2:=akH (λv:Nat=>hR.set k v);have HE2:=akH (λv:Value=>hb.setCell (p:=⟨w.heap.size,k,none⟩) (bl _) v);clear ho hR hb lg;subst e1;by_cases S6:k<l
   .have wA:k<L.length:=by have:=HL.out;omega
    obtain⟨bb,bo,e2,_,c2⟩:=HYc.out wA;subst e2;rw[<-HYg.out wA]at c2;generalize L.getD k 0=b at *
    clear HYc HYg HYn wA;have HA:=akH (λw=>DG a b q w ni qU hq);go_wp2_with fail;refine(HA.out _).mono ?_;rintro e w1 ⟨rfl,rfl⟩;go_wp2;go_roundw
    case rel=>
     exact⟨k+1,(a+b+q)/4294967296,O.set k ((a+b+q)%4294967296),aA,by go_num,rfl,aA,by rw[cL];exact HO.out,HOK.out _,HN.out _,HS.out,HR2.out _,HE2.out _⟩
    case measure=>simp[intOf];omega
   .rw [HYn.out (by have:=HL.out;omega)]at HS;clear HYc HYg HYn qU HY;have HA:=akH (λw=>DG a 0 q w ni aC hq);go_wp2_with fail;refine(HA.out _).mono ?_;rintro e w1 ⟨rfl,rfl⟩;go_wp2;go_roundw
    case rel=>
     exact⟨k+1,(a+0+q)/4294967296,O.set k ((a+0+q)%4294967296),aA,by go_num,rfl,aA,by rw[cL];exact HO.out,HOK.out _,HN.out _,HS.out,HR2.out _,HE2.out _⟩
    case measure=>simp[intOf];omega
  .obtain rfl:k=m:= aA ;have ho:=HZ.out.at (by have:=HO.out;omega)
   have c4:=hR.frozen k;have Hy:=hR.cell ho;have HF:=akH (show val (O.set k q)=val L+val M by
    have h:=PU (c:=q) ho;rw[bX,ct aA,dk aA,cT,bW,HV.out,show M.take k=M from df (by rw[HM.out];exact bl _),show L.take k=L from df (by rw[<-HL.out];omega)]at h;omega)
   have HLn:=akH (show(O.set k q).length=k+1 by rw[cL];exact HO.out);have HOK:Hid (iM (O.set k q)):=lg.set k aA;have HR2:=akH (hR.set k q);have HE2:=akH (λv:Value=>hb.setCell (p:=⟨w.heap.size,k,none⟩) (bl _) v);clear ho hR hb lg;go_wp2;go_ret;have A6:=HR2.out.sl HOK.out (by rw[HLn.out];omega);rw[HLn.out]at A6;exact⟨_,HF.out,HOK.out,HLn.out,_,_,(by rw[HLn.out];rfl),A6,HE2.out _⟩
def af2(A B:Option Addr)(c d:Nat)(L M:List Nat)(w:World)(hs:Sl w A c L)(hr:Sl w B d M)(h1:L.length<=3000)(h2:M.length<=3000):
 Calls prog 336 #[.slice A L.length c,.slice B M.length d] w (Ks w (val L+val M) (max L.length M.length+1)):=by
 by_cases hc:M.length<=L.length
 .rw [Nat.max_eq_left hc];exact af3 A B c d L M w hs hr h1 h2 hc
 .rw [Nat.max_eq_right aA];exact af4 A B c d L M w hs hr h1 h2 aA 
def af1(A B:Option Addr)(c d:Nat)(L M:List Nat)(w:World)(hs:Sl w A c L)(hr:Sl w B d M)(h1:L.length<=3000)(h2:M.length<=3000):
 Calls prog 336 #[.slice A L.length c,.slice B M.length d] w (O4 w (val L+val M) (max L.length M.length+1)):=
 (af2 A B c d L M w hs hr h1 h2).mono λ_ _ ⟨T,a,b,c,d⟩=>⟨T,a,b,fp c,d⟩
def af6(A B:Option Addr)(c d:Nat)(L M:List Nat)(w:World)(tA:Sl w A c L)(ri:Sl w B d M)(h1:L.length<=3000)(_h2:M.length<=3000)(hle:val M<=val L):
 Calls prog 337 #[.slice A L.length c,.slice B M.length d] w (O4 w (val L-val M) L.length):=by
 have LS:=akH (λw (h:Sl w A c L)=>uQ A c L w h);have LU:=akH (λw (h:Sl w B d M)=>uQ B d M w h);have hs:=tA.tV;have hr:=ri.tV;have xA:=qG L;have SX:=qG M;have vr:=pJ L;have mF:=pJ M;have Mo:(iH M).length<=(iH L).length:=by
  apply ch;intro h;have:=Ke hs.ok (zj M) aA;omega
 unfold mo at vr mF;rw[<-xA,<-SX]at hle ⊢;clear xA SX;obtain⟨n1,tz⟩:∃ n,n=L.length:=⟨_,rfl⟩
 obtain⟨n2,lI⟩:∃ n,n=M.length:=⟨_,rfl⟩
 rw[<-tz]at h1 vr LS ⊢;rw[<-lI]at _h2 mF LU ⊢;have HTL:=akH (LS.out w tA);have HTM:=akH (LU.out w ri);clear LS LU tA ri tz lI;generalize iH L=L at *
 generalize iH M=M at *
 obtain⟨l,hl⟩:∃ l,l=L.length:=⟨_,rfl⟩
 obtain⟨m,hm⟩:∃ m,m=M.length:=⟨_,rfl⟩
 rw[<-hl]at vr HTL Mo;rw[<-hm]at mF HTM Mo;have HL:=akH hl;have HM:=akH hm;have HLE:=akH hle;clear hl hm hle;have vt:=Fi l aA;have xt:=akH (Rw.Ac w l);go_enter func337,ntmps337;go_wp2_with fail;refine HTL.out.mono ?_;rintro e w1 ⟨rfl,rfl⟩;go_wp2_with fail;refine HTM.out.mono ?_;rintro e w1 ⟨rfl,rfl⟩;go_wp2;go_loopw [6,7,8,9,19] (λcy _ _ _ i wr=>∃ (k q:Nat) (O:List Nat),k<=l/\i = .int .i64 k/\cy = .int .u32 q/\q<=1/\O.length=l/\iM O/\ua O k/\val O+val (M.take k)=val (L.take k)+4294967296^k*q/\Rw wr w.heap.size O/\iT w wr) (λ_ _ _ _ i _=>l-(intOf i).toNat)
 case atStart=>
  exact⟨0,0,List.replicate l 0,cg _,rfl,rfl,aC,aF,iM.Dd _,ua.OV _,by simp[BX],xt.out,iT.alloc _ _⟩
 case round=>
  obtain⟨k,q,O,hk,rfl,rfl,hq,hO,lg,hz,mm,hR,hb⟩:=hrel;have HV:=akH mm;have HO:=akH hO;clear mm hO;have HZ:=akH hz;clear hz;by_cases iJ:k<l
  .have tu:k<L.length:=by have:=HL.out;omega
   obtain⟨ab,ao,e1,_,c1⟩:=(hs.below hb).mr tu;have ni:L[k]<4294967296:=hs.ok.get tu;have ho:=HZ.out.at (by have:=HO.out;omega)
   have c4:=hR.frozen k;have Hy:=hR.cell ho;have HT:=akH (BZ L k tu);have HY:=akH (As M k);have qU:M.getD k 0<4294967296:=hr.ok.getD k;have HYc:=akH (λ(h:k<M.length)=>(hr.below hb).mr h);have HYg:=akH (λ(h:k<M.length)=>LG h);have HYn:=akH (λ(h:¬k<M.length)=>LF h);obtain⟨a,ha⟩:∃ a,a=L[k]:=⟨_,rfl⟩
   rw[<-ha]at c1 ni HT;clear ha tu;have HN:=akH (λv=>HZ.out.set v);have HOK:=akH (λ(v:Nat) (h:v<4294967296)=>lg.set k h);have HR2:=akH (λv:Nat=>hR.set k v);have HE2:=akH (λv:Value=>hb.setCell (p:=⟨w.heap.size,k,none⟩) (bl _) v);have HO0:=akH ho;clear ho hR hb lg;subst e1;by_cases S6:k<m
   .have wA:k<M.length:=by have:=HM.out;omega
    obtain⟨bb,bo,e2,_,c2⟩:=HYc.out wA;subst e2;rw[<-HYg.out wA]at c2;generalize M.getD k 0=b at *
    clear HYc HYg HYn wA;have HS:=akH (WQ HO0.out HV.out HT.out HY.out (D0 a b q ni qU hq).1);have HD:=akH (D0 a b q ni qU hq).2;have HA:=akH (λw=>WO a b q w ni qU hq);generalize xn a b q=dd at *
    generalize AA a b q=bb' at *
    go_wp2_with fail;refine(HA.out _).mono ?_;rintro e w1 ⟨rfl,rfl⟩;go_wp2;go_roundw
    case rel=>
     exact⟨k+1,bb',O.set k dd,aA,by go_num,rfl,HD.out.1,by rw[cL];exact HO.out,HOK.out _ HD.out.2,HN.out _,HS.out,HR2.out _,HE2.out _⟩
    case measure=>simp[intOf];omega
   .rw [HYn.out (by have:=HM.out;omega)]at HY;clear HYc HYg HYn qU;have HS:=akH (WQ HO0.out HV.out HT.out HY.out (D0 a 0 q ni aC hq).1);have HD:=akH (D0 a 0 q ni aC hq).2;have HA:=akH (λw=>WO a 0 q w ni aC hq);generalize xn a 0 q=dd at *
    generalize AA a 0 q=bb' at *
    go_wp2_with fail;refine(HA.out _).mono ?_;rintro e w1 ⟨rfl,rfl⟩;go_wp2;go_roundw
    case rel=>
     exact⟨k+1,bb',O.set k dd,aA,by go_num,rfl,HD.out.1,by rw[cL];exact HO.out,HOK.out _ HD.out.2,HN.out _,HS.out,HR2.out _,HE2.out _⟩
    case measure=>simp[intOf];omega
  .obtain rfl:k=l:= aA ;have HF:=akH (show val O=val L-val M by
    have h:=HV.out;rw[show L.take k=L from df (by rw[HL.out];exact bl _),show M.take k=M from df (by rw[<-HM.out];exact Mo)]at h;exact(aiO lg HO.out h HLE.out).2)
   go_wp2;go_ret;have A6:=hR.sl lg (by rw[HO.out];omega);exact⟨_,HF.out,lg,by rw[HO.out];exact vr,_,_,(by rw[HO.out];rfl),A6,hb⟩
def Xb{T:List Nat}{v:Nat}(h:iM T)(hv:val T=v):iH T=ia v:=by rw[uZ h,hv]
def afL(A B:Option Addr)(c d:Nat)(L M:List Nat)(w:World)(hs:Sl w A c L)(hr:Sl w B d M)(h1:L.length<=256)(h2:M.length<=256)(hf:(ia (val L+val M)).length<=256):
 Calls prog 285 #[.slice A L.length c,.slice B M.length d] w (B4 w (ia (val L+val M)) 0):=by
 have H1:=akH (λw (h:Sl w A c L) (k:Sl w B d M)=>af1 A B c d L M w h k aA aA);generalize val L+val M=v at *
 go_enter func285,ntmps285;go_wp2_with fail;refine(UB _ A B _ c _ d _ false (O6 _ _ _ _ _ _ _) (O7 _ _ _ _ _ _ _) aL).mono ?_;rintro e w' ⟨rfl,rfl⟩;go_wp2_with fail;refine(H1.out _ (hs.alloc _) (hr.alloc _)).mono ?_;rintro e w' ⟨T,hv,hk,hl,A',c',rfl,qn,hb⟩;have ht:=akH (Xb hk hv);go_wp2_with fail;refine(Fu A' c' T _ qn (by rw[ht.out];exact hf)).mono ?_;rintro e w'' ⟨A'',c'',rfl,ux,px⟩;rw[ht.out]at ux ⊢;go_wp2;go_ret2;exact⟨A'',c'',rfl,ux,(iT.alloc _ _).trans (hb.trans px)⟩
def af0(A B:Option Addr)(c d:Nat)(L M:List Nat)(w:World)(hs:Sl w A c L)(hr:Sl w B d M)(h1:L.length<=256)(h2:M.length<=256)(hle:val M<=val L):
 Calls prog 286 #[.slice A L.length c,.slice B M.length d] w (B4 w (ia (val L-val M)) 0):=by
 have H1:=akH (λw (h:Sl w A c L) (k:Sl w B d M)=>af6 A B c d L M w h k aA aA hle);have HC:=akH (λw (h:Sl w A c L) (k:Sl w B d M)=>I7 A B c d L M w h k aA aA);have hc:decide (mC (val L) (val M)<0)=false:=by
  apply bp;unfold mC;rw[bh aA];split<;>decide
 have hf:(ia (val L-val M)).length<=256:=bK (Na (eA _ _)) (aeF hs.ok h1);generalize val L-val M=v at *
 generalize mC (val L) (val M)=q at *
 clear hle;go_enter func286,ntmps286;go_wp2_with fail;refine(UB _ A B _ c _ d _ false (O6 _ _ _ _ _ _ _) (O7 _ _ _ _ _ _ _) aL).mono ?_;rintro e w' ⟨rfl,rfl⟩;go_wp2_with fail;refine(HC.out _ (hs.alloc _) (hr.alloc _)).mono ?_;rintro e w1 ⟨rfl,kV⟩;go_wp2_with fail;refine(H1.out _ ((hs.alloc _).below kV) ((hr.alloc _).below kV)).mono ?_;rintro e w' ⟨T,hv,hk,hl,A',c',rfl,qn,hb⟩;have ht:=akH (Xb hk hv);go_wp2_with fail;refine(Fu A' c' T _ qn (by rw[ht.out];exact hf)).mono ?_;rintro e w'' ⟨A'',c'',rfl,ux,px⟩;rw[ht.out]at ux ⊢;go_wp2;go_ret2;exact⟨A'',c'',rfl,ux,(iT.alloc _ _).trans (kV.trans (hb.trans px))⟩
end Go.Proofs.YtjkmahljfblobaaGreatDoor
namespace Go.Proofs.YtjkmahljfblobaaGreatDoor.Fp
def nf(d:Dy):Dy:=if oC d then d else iL
def qg(d:Dy):Int:=if oC d then 0 else 9
def DS{d:Dy}(h:oC d):nf d=d:=bj h
def GK{d:Dy}(h:oC d):qg d=0:=bj h
def KS{d:Dy}(h:¬oC d):nf d=iL:=bh h
def P3{d:Dy}(h:¬oC d):qg d=9:=bh h
def GL{d:Dy}(h:d.nL):(nf d).ic:=by
 by_cases hr:oC d
 .rw [DS hr];exact⟨h,hr⟩
 .rw [KS hr];exact oI
def Ou{a b:Dy}(ha:a.m≠0)(hb:b.m≠0):iR a b=iR b a:=by
 unfold iR;rw[bh ha,bh hb,bh hb,bh ha,Int.min_comm,Int.add_comm]
def WT{a b:Dy}(ha:a.ic)(hb:b.ic)(a0:a.m≠0)(b0:b.m≠0){k:Int}(hk:min a.e b.e=k)(h1:4097<a.iI-k)(h2:1<a.iI-b.iI):¬oC (iR a b):=by
 have hka:k<=a.e:= aA ;have jN:k<=b.e:= aA ;have m1:=Gz a0 hka;have m2:=Gz b0 jN;have ta:a.iI=iy a.m+a.e:=by unfold Dy.iI;rw[bh a0]
 have tb:b.iI=iy b.m+b.e:=by unfold Dy.iI;rw[bh b0]
 have ba:iy a.m<=4096:=by rcases ha.range with h|⟨h,_⟩;exact absurd h a0;exact h
 have jQ:a.e≠k:= aA ;have zG:b.e=k:= aA ;have oa:a.jH k%2=0:=by
  unfold Dy.jH;obtain⟨j,hj⟩:∃ j,(a.e-k).toNat=j+1:=⟨(a.e-k).toNat-1,aA⟩
  rw[hj,bT,<-bE,fj]
 have ob:b.jH k%2=1:=by
  unfold Dy.jH;rw[zG,show(k-k).toNat=0 by omega,cR,cv];rcases hb.canon with⟨h,_,_⟩|h
  .exact absurd h b0
  .exact h
 have pa:=xI a0 k;obtain⟨p,hp⟩:∃ p,iy (a.jH k)=p+2:=⟨iy (a.jH k)-2,aA⟩
 have l1:=s9 (aA:a.jH k≠0);have l2:=uK (b.jH k);rw[hp,(aA:p+2-1=p+1),bT]at l1;have l3:2^iy (b.jH k)<=2^p:=b9 aC aA;have hz:(a.num k+b.num k).natAbs%2=1/\2^p<=(a.num k+b.num k).natAbs:=by
  unfold Dy.num;generalize a.jH k=x at *
  generalize b.jH k=y at *
  generalize 2^p=P at *
  split<;>split<;>omega
 unfold iR;rw[bh a0,bh b0,hk];unfold iK;generalize (a.num k+b.num k).natAbs=z at *
 generalize decide (a.num k+b.num k<0)=s at *
 have hc:canon s z k=⟨s,z,k⟩:=Dy.nL.AB (d:=⟨s,z,k⟩) (.inr hz.1);rw[hc];have hb:=Bp.2 hz.2;rintro(h|⟨h,_⟩)
 .simp only at h;omega
 .simp only at h;omega
def aiS{a b:Dy}(ha:a.ic)(hb:b.ic)(a0:a.m≠0)(b0:b.m≠0){k:Int}(hk:min a.e b.e=k)(h1:4097<max a.iI b.iI-k)(h2:1<a.iI-b.iI\/1<b.iI-a.iI):¬oC (iR a b):=by
 rcases h2 with h2|h2
 .exact WT ha hb a0 b0 hk aA h2
 .rw [Ou a0 b0];exact WT (k:=k) hb ha b0 a0 (by rw[Int.min_comm];exact hk) aA h2
def aiT{a b:Dy}(ha:a.ic)(hb:b.ic)(a0:a.m≠0)(b0:b.m≠0){k:Int}(hk:min a.e b.e=k)(h:¬(4097<max a.iI b.iI-k/\(1<a.iI-b.iI\/1<b.iI-a.iI))):
 iy (a.m*2^(a.e-k).toNat)<=4097/\iy (b.m*2^(b.e-k).toNat)<=4097:=by
 have ta:a.iI=iy a.m+a.e:=by unfold Dy.iI;rw[bh a0]
 have tb:b.iI=iy b.m+b.e:=by unfold Dy.iI;rw[bh b0]
 have ba:iy a.m<=4096:=by rcases ha.range with h|⟨h,_⟩;exact absurd h a0;exact h
 have bb:iy b.m<=4096:=by rcases hb.range with h|⟨h,_⟩;exact absurd h b0;exact h
 rw[th a0,th b0];omega
def YH{x y n:Nat}(hx:iy x<=n)(hy:iy y<=n):iy (x+y)<=n+1:=by
 rw[mv]at *
 rw[bT];omega
def jJ(m:Nat)(e:Int)(p:Nat):Nat:=(max (max ((iy m:Int)-p) (-16384-e)) 0).toNat
def lj(m:Nat)(e:Int)(more:Bool)(p:Nat)(out:Bool):Nat:=
 m/2^jJ m e p+if out=true/\(more=true\/m%2^jJ m e p≠0)then 1 else 0
def mg(m:Nat)(e:Int)(more:Bool)(p:Nat)(out:Bool):Bool:=
 decide (lj m e more p out≠0)&&decide (16384<(iy (lj m e more p out):Int)+e+jJ m e p)
def kr(neg:Bool)(m:Nat)(e:Int)(more:Bool)(p:Nat)(up:Bool):Dy:=
 if mg m e more p (neg != up)=true then(if(neg != up)=true then iL else canon neg (2^p-1) (16384-p))else canon neg (lj m e more p (neg != up)) (e+jJ m e p)
def jW(neg:Bool)(m:Nat)(e:Int)(more:Bool)(p:Nat)(up:Bool):Int:=
 if(mg m e more p (neg != up)&&(neg != up))=true then 9 else 0
def Z5{N d k:Nat}:(N/2^d%2^k≠0\/N%2^d≠0)↔N%2^(d+k)≠0:=by
 have e1:N%2^(d+k)=N%2^d+2^d*(N/2^d%2^k):=by rw[bA,Nat.mod_mul]
 have hp:0<2^d:=bD aC;rw[e1];constructor
 .rintro (h|h)
  .have:=fi hp (fF h);omega
  .omega
 .intro h;by_cases h1:N%2^d=0
  .left;intro h2;rw[h1,h2,cT]at h;exact h rfl
  .exact .inr h1
def ZE{N:Nat}{E:Int}{more:Bool}{d p:Nat}(hb:p<iy (N/2^d)):
 jJ (N/2^d) (E+d) p+d=jJ N E p /\
 ∀ out,lj (N/2^d) (E+d) (more||decide (N%2^d≠0)) p out=lj N E more p out:=by
 have hN:d<iy N:=by
  apply ch;intro h;have h1:N<2^d:=mv.1 aA;rw[dk h1]at hb;simp[iy]at hb
 have L7:iy (N/2^d)+d=iy N:=by
  have h0:N/2^d≠0:=by intro h;rw[h]at hb;simp[iy]at hb
  have h1:=s9 h0;have h2:=uK (N/2^d);obtain⟨j,hj⟩:∃ j,iy (N/2^d)=j+1:=⟨iy (N/2^d)-1,aA⟩
  rw[hj]at h1 h2 ⊢;rw[ek,dq (bD aC),<-bA]at h1;rw[cF (bD aC),<-bA]at h2;have:=yg (k:=j+d) h1 (by rw[(aA:j+d+1=j+1+d)];exact h2);omega
 have hk:jJ (N/2^d) (E+d) p+d=jJ N E p:=by
  unfold jJ;omega
 refine⟨hk,λout=>?_⟩;unfold lj;rw[<-hk];generalize jJ (N/2^d) (E+d) p=k;have Ma:=@Z5 N d k;rw[(aA:k+d=d+k),dv,<-bA];congr 1;have:((more||decide (N%2^d≠0))=true\/N/2^d%2^k≠0)↔(more=true\/N%2^(d+k)≠0):=by
  rw[<-Ma];simp only[dK,di];constructor
  .rintro ((h|h)|h)
   .exact .inl h
   .exact .inr (.inr h)
   .exact .inr (.inl h)
  .rintro (h|h|h)
   .exact .inl (.inl h)
   .exact .inr h
   .exact .inl (.inr h)
 by_cases ho:out=true
 .simp only[ho,eR,this]
 .rw [bh (λh=>ho h.1),bh (λh=>ho h.1)]
def GU{N:Nat}{E:Int}{more:Bool}{d p:Nat}(neg up:Bool)(hb:p<iy (N/2^d)):
 kr neg (N/2^d) (E+d) (more||decide (N%2^d≠0)) p up=kr neg N E more p up /\
 jW neg (N/2^d) (E+d) (more||decide (N%2^d≠0)) p up=jW neg N E more p up:=by
 obtain⟨hk,hq⟩:=ZE (more:=more) (E:=E) hb;have hq:=hq (neg != up);have e1:E+(d:Int)+(jJ (N/2^d) (E+d) p:Int)=E+(jJ N E p:Int):= aA ;have e2:(iy (lj N E more p (neg != up)):Int)+(E+(d:Int))+(jJ (N/2^d) (E+d) p:Int)=(iy (lj N E more p (neg != up)):Int)+E+(jJ N E p:Int):= aA ;have ho:mg (N/2^d) (E+d) (more||decide (N%2^d≠0)) p (neg != up)=mg N E more p (neg != up):=by
  unfold mg;rw[hq,e2]
 unfold kr jW;rw[hq,ho,e1];exact⟨rfl,rfl⟩
def KP(s:Bool)(m:Nat)(e:Int)(j:Nat):canon s (m*2^j) (e-j)=canon s m e:=by
 by_cases h0:m=0
 .subst h0;rw[cH];rfl
 .have h1:m*2^j≠0:=eo h0 (eO (bD aC));obtain⟨q,hq,he⟩:=AE h0;have hc:kj (m*2^j)=kj m+j:=by
   conv=>lhs;rw[he,bE,<-bA]
   exact yj hq _
  unfold canon;rw[bh h1,bh h0,hc,bA,bM (2^kj m),<-dv,dN _ (bD aC)];rw[(aA:e-(j:Int)+((kj m+j:Nat):Int)=e+(kj m:Int))]
def ZD(neg up:Bool)(N:Nat)(E:Int)(j p:Nat)(h0:N≠0):
 kr neg (N*2^j) (E-j) false p up=kr neg N E false p up/\jW neg (N*2^j) (E-j) false p up=jW neg N E false p up:=by
 have L7:=th h0 j;by_cases hk:jJ N E p=0
 .
  have xy:jJ (N*2^j) (E-j) p<=j:=by unfold jJ at hk ⊢;rw[L7];omega
  obtain⟨i,hi⟩:∃ i,j=i+jJ (N*2^j) (E-j) p:=⟨j-jJ (N*2^j) (E-j) p,aA⟩
  generalize hK:jJ (N*2^j) (E-j) p=k at *
  have hdiv:N*2^j/2^k=N*2^i:=by
   rw[hi,bA,<-bE,dN _ (bD aC)]
  have Ms:N*2^j%2^k=0:=by
   rw[hi,bA,<-bE];exact fj _ _
  have hq:∀ out,lj (N*2^j) (E-j) false p out=N*2^i:=λout=>by
   unfold lj;rw[hK,hdiv,Ms];simp
  have yE:∀ out,lj N E false p out=N:=λout=>by
   unfold lj;rw[hk];simp[dO]
  have jQ:N*2^i≠0:=eo h0 (eO (bD aC));have ho:∀ out,mg (N*2^j) (E-j) false p out=mg N E false p out:=λout=>by
   unfold mg;rw[hq,yE,hK,hk,th h0 i];simp only[cO,jQ,h0,eg,fE,ej];rw[ake];omega
  unfold kr jW;rw[ho,hq,yE,hK,hk];rw[(aA:E-(j:Int)+k=E+((0:Nat):Int)-(i:Int)),KP];exact⟨rfl,rfl⟩
 .have xy:jJ (N*2^j) (E-j) p=jJ N E p+j:=by unfold jJ at hk ⊢;rw[L7];omega
  have hq:∀ out,lj (N*2^j) (E-j) false p out=lj N E false p out:=λout=>by
   unfold lj;rw[xy,bA,bM (2^jJ N E p),<-dv,dN _ (bD aC),bM N,Nat.mul_mod_mul_left];have:(2^j*(N%2^jJ N E p)≠0)↔(N%2^jJ N E p≠0):=by
    rw[cO,cO,Nat.mul_eq_zero];have:=bD (n:=j) (aC:0<2);omega
   simp only[this]
  have ho:∀ out,mg (N*2^j) (E-j) false p out=mg N E false p out:=λout=>by
   unfold mg;rw[hq,xy];congr 2;rw[eq_iff_iff];omega
  unfold kr jW;rw[ho,hq,xy];rw[(aA:E-(j:Int)+((jJ N E p+j:Nat):Int)=E+(jJ N E p:Int))];exact⟨rfl,rfl⟩
def jd(d:Dy)(p:Nat)(up:Bool):Dy:=kr d.neg d.m d.e false p up
def jI(d:Dy)(p:Nat)(up:Bool):Int:=jW d.neg d.m d.e false p up
def Wj(s up:Bool)(m:Nat)(e:Int)(p:Nat)(h0:m≠0):
 jd (canon s m e) p up=kr s m e false p up/\jI (canon s m e) p up=jW s m e false p up:=by
 have hm:=GX h0;have hq:m/2^kj m≠0:=by have:=FE h0;omega
 have h:=ZD s up (m/2^kj m) (e+kj m) (kj m) p hq;rw[hm,(aA:e+(kj m:Int)-(kj m:Int)=e)]at h;unfold jd jI canon;rw[bh h0];exact⟨h.1.symm,h.2.symm⟩
def DO{s:Bool}{m:Nat}{e:Int}(h0:m≠0):(iy (canon s m e).m:Int)+(canon s m e).e=iy m+e/\e<=(canon s m e).e/\(canon s m e).m≠0/\iy (canon s m e).m<=iy m:=by
 have hm:=GX h0;have hq:m/2^kj m≠0:=by have:=FE h0;omega
 have h:=th hq (kj m);rw[hm]at h;unfold canon;rw[bh h0];simp only;exact⟨aA,aA,hq,aA⟩
def QF(m:Nat)(e:Int)(p:Nat):m/2^jJ m e p<2^p:=by
 rw[cF (bD aC),<-bA];refine mv.1 ?_;unfold jJ;omega
def YV{s:Bool}{q p:Nat}{e:Int}(h:q<=2^p)(hp:1<=p):iy (canon s q e).m<=p:=by
 by_cases h0:q=0
 .subst h0;exact cg _
 .by_cases h1:q=2^p
  .have hc:kj q=p:=by rw[h1];have:=yj (m:=1) rfl p;rwa[cj]at this
   unfold canon;rw[bh h0,hc,h1,Nat.div_self (bD aC)];exact bK (mv.2 (show 1<2^1 by decide)) hp
  .exact bK (DO h0).2.2.2 (mv.2 aA)
def Ql(m:Nat)(e:Int)(more:Bool)(p:Nat)(out:Bool):lj m e more p out<=2^p:=by
 have:=QF m e p;unfold lj;split<;>omega
def tl(neg:Bool)(m:Nat)(e:Int)(more:Bool)(p:Nat)(up:Bool)(hp:1<=p)(ie:p<=4096):(kr neg m e more p up).ic:=by
 unfold kr;by_cases ho:mg m e more p (neg != up)=true
 .rw [bj ho];by_cases hn:(neg != up)=true
  .rw [bj hn];exact oI
  .rw [bh hn];have hpp:2<=2^p:=by
    have:=b9 (n:=2) aC hp;omega
   have h0:2^p-1≠0:= aA ;have hb:iy (2^p-1)=p:=by
    obtain⟨j,rfl⟩:∃ j,p=j+1:=⟨p-1,aA⟩
    have h2:2^(j+1)=2^j*2:=bT _ _;have h3:=bD (n:=j) (aC:0<2);exact yg aA aA 
   obtain⟨h1,h2,h3,h4⟩:=DO (s:=neg) (e:=(16384:Int)-p) h0;have h5:=qf h3;exact⟨vm _ _ _,.inr ⟨aA,aA,aA,aA⟩⟩
 .rw [bh ho];refine⟨vm _ _ _,?_⟩;by_cases h0:lj m e more p (neg != up)=0
  .rw [h0];exact .inl rfl
  .have hq:=YV (s:=neg) (e:=e+(jJ m e p:Int)) (Ql m e more p (neg != up)) hp;obtain⟨h1,h2,h3,h4⟩:=DO (s:=neg) (e:=e+(jJ m e p:Int)) h0;have h5:=qf h3;have h6:-16384<=e+(jJ m e p:Int):=by unfold jJ;omega
   unfold mg at ho;simp only[cO,h0,eg,fE,ej,di]at ho;exact .inr ⟨aA,aA,aA,aA⟩
def DY{neg:Bool}{m:Nat}{e:Int}{more:Bool}{p:Nat}{up:Bool}:jW neg m e more p up=0↔¬(mg m e more p (neg != up)=true/\(neg != up)=true):=by
 unfold jW;cases mg m e more p (neg != up)<;>cases(neg != up)<;>simp
def Qm(neg:Bool)(m:Nat)(e:Int)(more:Bool)(p:Nat)(h1:jW neg m e more p false=0)(h2:jW neg m e more p true=0):
 ke (kr neg m e more p false) (kr neg m e more p true)<=0:=by
 have qm:¬mg m e more p true=true:=by
  cases neg
  .rw [DY]at h2;simpa using h2
  .rw [DY]at h1;simpa using h1
 have hle:lj m e more p false<=lj m e more p true:=by
  unfold lj;simp only[bV,false_and,bB];omega
 have jP:¬mg m e more p false=true:=by
  unfold mg at qm ⊢;intro h;apply qm;simp only[bF,di]at h ⊢;have:=vh hle;exact⟨aA,aA⟩
 have key:∀ o:Bool,¬mg m e more p o=true:=λo=>by cases o;exact jP;exact qm
 unfold kr;rw[bh (key _),bh (key _)];rw[DT (k:=e+(jJ m e p:Int)) (zo (cB _)) (zo (cB _)),Bw (cB _),Bw (cB _)];rw[show(e+(jJ m e p:Int)-(e+(jJ m e p:Int))).toNat=0 by omega];simp only[cR,cv];unfold xl;cases neg
 .simp only[bV,bB,Bool.false_bne];split
  .decide
  .split<;>omega
 .simp only[bC,Bool.true_bne,dZ,eQ];split
  .decide
  .split<;>omega
def mK(b:Dy)(low:Int):Nat:=if low<=b.e then b.m*2^(b.e-low).toNat else b.m/2^(low-b.e).toNat
def nv(b:Dy)(low:Int):Bool:=decide (¬low<=b.e)&&decide (b.m%2^(low-b.e).toNat≠0)
def WR{a b:Dy}(ha:a.nL)(hb:b.nL){K:Int}(h1:K<=a.e)(h2:K<=b.e):iR a b=iK (a.num K+b.num K) K:=by
 refine aaD (k:=K) (AD ha hb) (vm _ _ _) (Gq (.inr h1) (.inr h2)) (Kx (cB _)) ?_;rw[J0 (.inr h1) (.inr h2),NH (cB _),show(K-K).toNat=0 by omega];simp
def JG{a b:Dy}(ha:a.nL)(hb:b.nL){K:Int}(h1:K<=a.e)(h2:K<=b.e)(s:Bool)(Z:Nat)(h0:Z≠0)(hz:a.num K+b.num K=if s then -(Z:Int)else(Z:Int))(p:Nat)(up:Bool):
 jd (iR a b) p up=kr s Z K false p up/\jI (iR a b) p up=jW s Z K false p up:=by
 have:iR a b=canon s Z K:=by rw[WR ha hb h1 h2,hz,GG]
 rw[this];exact Wj s up Z K p h0
def Jc(d:Dy)(K:Int):d.num K=if d.neg then -(d.jH K:Int)else(d.jH K:Int):=rfl
section
variable {a b:Dy} {low:Int} {p:Nat}
def Om(a0:a.m≠0)(b0:b.m≠0)(h1:low<=a.e)(h2:low<=a.iI-p-8)(h3:low<=b.e\/3<=a.iI-b.iI):
 ∃ (K:Int) (d:Nat),K<=a.e/\K<=b.e/\low=K+d/\a.jH K=a.m*2^(a.e-low).toNat*2^d/\mK b low=b.jH K/2^d/\(nv b low=decide (b.jH K%2^d≠0)) /\
  (d=0\/(p+8<=iy (a.m*2^(a.e-low).toNat)/\iy (b.jH K/2^d)+3<=iy (a.m*2^(a.e-low).toNat))):=by
 have ta:a.iI=iy a.m+a.e:=by unfold Dy.iI;rw[bh a0]
 have tb:b.iI=iy b.m+b.e:=by unfold Dy.iI;rw[bh b0]
 have hx:=th a0 (a.e-low).toNat
 by_cases h:low<=b.e
 .refine ⟨low,0,h1,h,aA,by unfold Dy.jH;simp,?_,?_,.inl rfl⟩
  .unfold mK Dy.jH;rw[bj h];simp
  .unfold nv;simp[h,dO]
 .refine ⟨b.e,(low-b.e).toNat,aA,cB _,aA,?_,?_,?_,.inr ⟨aA,?_⟩⟩
  .unfold Dy.jH;rw[bE,<-bA];congr 2;omega
  .unfold mK Dy.jH;rw[bh h];simp
  .unfold nv Dy.jH;simp[h]
  .have hm:b.jH b.e=b.m:=by unfold Dy.jH;simp
   rw[hm];have hd:iy (b.m/2^(low-b.e).toNat)<=iy b.m-(low-b.e).toNat:=by
    rw[mv,cF (bD aC),<-bA];exact mv.1 aA 
   have:=h3.resolve_left h;omega
def ahR(ha:a.nL)(hb:b.nL)(a0:a.m≠0)(b0:b.m≠0)(h1:low<=a.e)(h2:low<=a.iI-p-8)(h3:low<=b.e\/3<=a.iI-b.iI)(hs:a.neg=b.neg)(up:Bool):
 kr a.neg (a.m*2^(a.e-low).toNat+mK b low) low (nv b low) p up=jd (iR a b) p up/\jW a.neg (a.m*2^(a.e-low).toNat+mK b low) low (nv b low) p up=jI (iR a b) p up:=by
 obtain⟨K,d,k1,k2,rfl,hx,hy,hl,hd⟩:=Om (p:=p) a0 b0 h1 h2 h3;generalize a.m*2^(a.e-(K+d)).toNat=x at *
 have ma:=xI a0 K;have mb:=xI b0 K;obtain⟨r1,r2⟩:=JG ha hb k1 k2 a.neg (a.jH K+b.jH K) aA (by
  rw[Jc a,Jc b,<-hs];cases a.neg<;>simp<;>omega) p up
 rw[r1,r2,hy,hl];have e1:(a.jH K+b.jH K)/2^d=x+b.jH K/2^d:=by
  rw[hx,bM x,gJ (bD aC)]
 have e2:(a.jH K+b.jH K)%2^d=b.jH K%2^d:=by
  rw[hx,bM x,fo]
 rcases hd with rfl|⟨zI,zJ⟩
 .simp only[cR,fG,dO]at e1 ⊢;rw[<-e1];have:K+((0:Nat):Int)=K:= aA ;rw[this];simp
 .have hb:p<iy ((a.jH K+b.jH K)/2^d):=by
   rw[e1];have:=vh (aA:x<=x+b.jH K/2^d);omega
  have h:=GU (E:=K) (more:=false) a.neg up hb;rw[e1,e2,eG]at h;exact h
def aiN{x N D:Nat}(hD:0<D)(h:N<=x*D):(x*D-N)/D=x-(N/D+if N%D≠0 then 1 else 0)/\((x*D-N)%D≠0↔N%D≠0)/\N/D+(if N%D≠0 then 1 else 0)<=x:=by
 have hN:=cQ N D;have hr:=bI N hD;generalize N/D=q at *
 generalize N%D=r at *
 by_cases h0:r=0
 .subst h0;simp only[cO,gM,bB,bW]at hN ⊢;have hq:q<=x:=by
   apply ch;intro h';have:=bN D (aA:x+1<=q);rw[bS,bM q]at this;omega
  have e:x*D-N=(x-q)*D:=by rw[Nat.sub_mul,<-hN,bM q]
  rw[e,dN _ hD,fj];exact⟨rfl,aF,hq⟩
 .have hq:q+1<=x:=by
   apply ch;intro h';have:=bN D (aA:x<=q);rw[bM q]at this;omega
  have e:x*D-N=(D-r)+D*(x-(q+1)):=by
   have h1:D*(x-(q+1))=D*x-D*(q+1):=Nat.mul_sub _ _ _;have h2:D*(q+1)<=D*x:=cM _ hq;rw[bU,cv]at h1 h2;rw[bM x];omega
  have iJ:D-r<D:= aA ;rw[e,eK _ _ hD,dk iJ,dX,ct iJ];simp only[cO,h0,eg,bC];exact⟨aA,⟨λ_=>trivial,λ_=> aA⟩,hq⟩
def ahQ(ha:a.nL)(hb:b.nL)(a0:a.m≠0)(b0:b.m≠0)(h1:low<=a.e)(h2:low<=a.iI-p-8)(h3:low<=b.e\/3<=a.iI-b.iI)(hs:a.neg≠b.neg)(up:Bool):
  (a.m*2^(a.e-low).toNat<mK b low+(if nv b low=true then 1 else 0) ->
   kr (!a.neg) (mK b low+(if nv b low=true then 1 else 0)-a.m*2^(a.e-low).toNat) low false p up=jd (iR a b) p up/\jW (!a.neg) (mK b low+(if nv b low=true then 1 else 0)-a.m*2^(a.e-low).toNat) low false p up=jI (iR a b) p up) /\
  (mK b low+(if nv b low=true then 1 else 0)<=a.m*2^(a.e-low).toNat ->
   (a.m*2^(a.e-low).toNat-(mK b low+(if nv b low=true then 1 else 0))=0/\nv b low=false->iR a b=iL) /\
   (¬(a.m*2^(a.e-low).toNat-(mK b low+(if nv b low=true then 1 else 0))=0/\nv b low=false) ->
    kr a.neg (a.m*2^(a.e-low).toNat-(mK b low+(if nv b low=true then 1 else 0))) low (nv b low) p up=jd (iR a b) p up/\jW a.neg (a.m*2^(a.e-low).toNat-(mK b low+(if nv b low=true then 1 else 0))) low (nv b low) p up=jI (iR a b) p up)):=by
 obtain⟨K,d,k1,k2,rfl,hx,hy,hl,hd⟩:=Om (p:=p) a0 b0 h1 h2 h3;generalize a.m*2^(a.e-(K+d)).toNat=x at *
 have ma:=xI a0 K;have mb:=xI b0 K;have zO:a.num K+b.num K=if a.neg then(b.jH K:Int)-a.jH K else(a.jH K:Int)-b.jH K:=by
  rw[Jc a,Jc b];cases h:a.neg<;>cases h':b.neg<;>simp[h,h']at hs ⊢ <;> omega
 rw[hy,hl];rcases hd with rfl|⟨zI,zJ⟩
 .
  rw[cR,cv]at hx;have e0:K+((0:Nat):Int)=K:= aA ;simp only[cR,fG,dO,cO,gM,decide_false,bV,bB,bW,e0,eZ];refine⟨λiJ=>?_,λhle=>⟨λhz=>?_,λhz=>?_⟩⟩
  .obtain ⟨r1,r2⟩:=JG ha hb k1 k2 (!a.neg) (b.jH K-x) aA (by
    rw[zO,hx];cases a.neg<;>simp<;>omega) p up
   exact⟨r1.symm,r2.symm⟩
  .rw [WR ha hb k1 k2,zO,hx];have:x=b.jH K:= aA ;rw[this];cases a.neg<;>simp[iK,canon,iL]
  .obtain ⟨r1,r2⟩:=JG ha hb k1 k2 a.neg (x-b.jH K) aA (by
    rw[zO,hx];cases a.neg<;>simp<;>omega) p up
   exact⟨r1.symm,r2.symm⟩
 .
  have hD:=bD (n:=d) (aC:0<2);have oZ:x≠0:=by intro h;rw[h]at zI;simp[iy]at zI
  obtain⟨j,hj⟩:∃ j,iy x=j+3:=⟨iy x-3,aA⟩
  have uB:=s9 oZ;rw[hj,(aA:j+3-1=j+2),bA]at uB;have S5:b.jH K/2^d<2^j:=mv.1 aA;have hle:b.jH K<=x*2^d:=by
   have h5:=cQ (b.jH K) (2^d);have h6:=bI (b.jH K) hD;have h7:2^d*(b.jH K/2^d+1)<=2^d*x:=cM _ aA;rw[bU,cv,bM _ x]at h7;omega
  obtain⟨e1,e2,e3⟩:=aiN hD hle;have hc:(if decide (b.jH K%2^d≠0)=true then 1 else 0)=(if b.jH K%2^d≠0 then 1 else 0):=by simp only[di]
  rw[hc];have zF:p<iy (x-(b.jH K/2^d+if b.jH K%2^d≠0 then 1 else 0)):=by
   have h8:2^(j+1)<=x-(b.jH K/2^d+if b.jH K%2^d≠0 then 1 else 0):=by
    rw[bT];have h9:2^j*2^2<=x:=uB;have mY:=bD (n:=j) (aC:0<2);split<;>omega
   have:=Bp.2 h8;omega
  refine⟨λiJ=> aA,λ_=>⟨λhz=>?_,λ_=>?_⟩⟩
  .exfalso;rw[hz.1]at zF;simp[iy]at zF
  .obtain ⟨r1,r2⟩:=JG ha hb k1 k2 a.neg (a.jH K-b.jH K) (by
    intro h;rw[<-hx,h,Nat.zero_div]at e1;rw[<-e1]at zF;simp[iy]at zF) (by
    rw[zO];cases a.neg<;>simp<;>omega) p up
   rw[r1,r2,hx];rw[<-e1]at zF ⊢;have h:=GU (E:=K) (more:=false) a.neg up zF;rw[eG]at h;have e4:decide ((x*2^d-b.jH K)%2^d≠0)=decide (b.jH K%2^d≠0):=ake.2 e2;rw[e4]at h;exact h
end
def jm(m:Nat)(e:Int)(p:Nat):Int:=max (e+iy m-p) (-16384)
def nD(m:Nat)(e:Int)(more:Bool)(p:Nat)(up:Bool):Nat:=
 if jm m e p<=e then m*2^(e-jm m e p).toNat else m/2^(jm m e p-e).toNat+if(up&&(more||decide (m%2^(jm m e p-e).toNat≠0)))=true then 1 else 0
def Qk{m:Nat}{e:Int}{more:Bool}{p:Nat}(up:Bool)(h0:m≠0)(hm:more=true->p<iy m)(hp:1<=p):
 (iy (nD m e more p up):Int)+jm m e p<=16384/\kr false m e more p up=canon false (nD m e more p up) (jm m e p)/\jW false m e more p up=0 \/
 16384<(iy (nD m e more p up):Int)+jm m e p/\((up=true/\kr false m e more p up=iL/\jW false m e more p up=9)\/(up=false/\kr false m e more p up=canon false (2^p-1) (16384-p)/\jW false m e more p up=0)):=by
 have qm:(false != up)=up:=by cases up<;>rfl
 by_cases hU:jm m e p<=e
 .
  have hmf:more=false:=by
   cases Mt:more with
   |false=>rfl
   |true=>have:=hm Mt;unfold jm at hU;omega
  subst hmf;have hK:jJ m e p=0:=by unfold jm at hU;unfold jJ;omega
  have hQ:lj m e false p up=m:=by unfold lj;rw[hK];simp[dO]
  have hP:nD m e false p up=m*2^(e-jm m e p).toNat:=by unfold nD;rw[bj hU]
  have hb:iy (nD m e false p up)=iy m+(e-jm m e p).toNat:=by rw[hP];exact th h0 _
  have hc:canon false (nD m e false p up) (jm m e p)=canon false m e:=by
   rw[hP];have:=KP false m e (e-jm m e p).toNat
   rwa[(aA:e-((e-jm m e p).toNat:Int)=jm m e p)]at this
  have hO:mg m e false p up=decide (16384<(iy m:Int)+e):=by
   unfold mg;rw[hQ,hK];simp[h0]
  by_cases sq:16384<(iy m:Int)+e
  .refine .inr ⟨aA,?_⟩;unfold kr jW;rw[qm,hO,bn sq];cases up
   .exact .inr ⟨rfl,rfl,rfl⟩
   .exact .inl ⟨rfl,rfl,rfl⟩
  .refine .inl ⟨aA,?_,?_⟩
   .unfold kr;rw[qm,hO,bp sq,bh aC,hQ,hK,hc];simp
   .unfold jW;rw[qm,hO,bp sq];simp
 .have hK:jJ m e p=(jm m e p-e).toNat:=by unfold jm at hU ⊢;unfold jJ;omega
  have hQ:lj m e more p up=nD m e more p up:=by
   unfold lj nD;rw[bh hU,hK];congr 1;cases up<;>cases more<;>simp
  have heK:e+(jJ m e p:Int)=jm m e p:=by rw[hK];omega
  have jQ:16384<(iy (nD m e more p up):Int)+jm m e p->nD m e more p up≠0:=by
   intro h hz;have qM:m/2^(jm m e p-e).toNat=0:=by
    unfold nD at hz;rw[bh hU]at hz;exact(Nat.add_eq_zero_iff.1 hz).1
   have iJ:m<2^(jm m e p-e).toNat:=by
    rcases Nat.div_eq_zero_iff.1 qM with h|h
    .exact absurd h (eO (bD aC))
    .exact h
   have:=mv.2 iJ;rw[hz,vi]at h;have vw:=qf h0;unfold jm at h hU this;omega
  have hO:mg m e more p up=decide (16384<(iy (nD m e more p up):Int)+jm m e p):=by
   unfold mg;rw[hQ,show(iy (nD m e more p up):Int)+e+(jJ m e p:Int)=(iy (nD m e more p up):Int)+jm m e p by omega];by_cases sq:16384<(iy (nD m e more p up):Int)+jm m e p
   .simp [jQ sq]
   .simp [sq]
  by_cases sq:16384<(iy (nD m e more p up):Int)+jm m e p
  .refine .inr ⟨sq,?_⟩;unfold kr jW;rw[qm,hO,bn sq];cases up
   .exact .inr ⟨rfl,rfl,rfl⟩
   .exact .inl ⟨rfl,rfl,rfl⟩
  .refine .inl ⟨aA,?_,?_⟩
   .unfold kr;rw[qm,hO,bp sq,bh aC,hQ,heK]
   .unfold jW;rw[qm,hO,bp sq];simp
def Qj{m:Nat}{e:Int}{more:Bool}{p:Nat}{up:Bool}(h0:m≠0):iy (nD m e more p up)<=p+1:=by
 unfold nD;split
 .rename_i h;rw[th h0];unfold jm at h ⊢;omega
 .rename_i h;have h1:m/2^(jm m e p-e).toNat<2^p:=by
   rw[cF (bD aC),<-bA];refine mv.1 ?_;unfold jm at h ⊢;omega
  refine mv.2 ?_;rw[bT];have:0<2^p:=bD aC;split<;>omega
def qD{m k:Nat}(h:iy m<=32*k):(ia m).length<=k:=by
 refine wN ?_;rw[s6];exact mv.1 h
def GA{m k:Nat}(h:(ia m).length<=k):iy m<=32*k:=by
 have:=IW h;rw[s6]at this;exact mv.2 this
def QG{m n:Nat}(h:iy m<=n):m/2^n=0/\m%2^n=m:=by
 have:=mv.1 h;exact⟨dk this,ct this⟩
def UE(m n:Nat):(mC (m/2^n*2^n) m != 0)=decide (m%2^n≠0):=by
 have h:=cQ m (2^n);rw[bM]at h;unfold mC;by_cases h0:m%2^n=0
 .rw [bh aA,bh aA];simp[h0]
 .rw [bj aA];simp[h0]
end Go.Proofs.YtjkmahljfblobaaGreatDoor.Fp
