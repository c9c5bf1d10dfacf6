/- Lemmas that the last file uses. -/
import Derived.Test.YtjkmahljfblobaaGreatDoorM01
import Derived.Deep.DeepCutAuto
set_option linter.unusedSimpArgs false
set_option linter.unusedVariables false
set_option linter.defProp false
set_option maxHeartbeats 4000000
open Go.Proofs.Tryz
namespace Go.Proofs.YtjkmahljfblobaaGreatDoor.Pu
open Go.RowKit
structure Gd(P:Program)(K:World->Prop)(w0:mA)(B:Nat->Prop):Prop where
 k:∀ w,uU w0 w0.w w->K w
 hB:∀ b,B b->w0.uT b/\oi w0.w b
def oi.FV{w w':World}{b:Nat}(h:oi w b)(hb:w'.heap[b]? = w.heap[b]?):oi w' b:=by
 intro o x e;exact h o x<|by rw[<-e];exact(World.cell?_of_block (w:=w) (w':=w') hb).symm
def oi.FW{w:World}{b:Nat}{cs:Array Value}{T:TypeId}{fr:Nat×Nat}(hg:w.heap[b]? = some (.cells cs T fr))(h:∀ v,v ∈ cs->pU v=false):oi w b:=by
 intro o x e;simp only[World.cell?,hg]at e;simp only[Option.isSome_none,bC,bh]at e;have:=h _<|ej e;cases this
section
variable {P:Program} {K:World->Prop} {T:List TI} {O:qw} {w0:mA} {B:Nat->Prop} {σ:PS} {o:Oper} {a:Act} {w:World} {L:Lk} {u:ko}
def nb.Jb{v:Value}{T:TypeId}{n sz:Nat}{f:Nat->Nat->Value}(h:nb w v T n sz f true){x:Nat}(hx:v.ownBlock=some x):oi w x:=by
 rcases h with⟨rfl,_⟩|⟨b,ofs,c,cur,rfl,hg,_,_,_,_,jI⟩
 .simp [Value.ownBlock]at hx
 .simp [Value.ownBlock]at hx;subst hx;exact oi.FW hg<|jI rfl
def nB.Jb{id:Nat}{b:Bx}(h:nB (bad B L) (jl L) L w id b)(hn:b.nl=true){x:Nat}(hx:L.own id x):oi w x:=by
 cases b with
 |cells T l=>
  obtain⟨b,vs,h1,h2,h3,h4,h5⟩:=h;obtain rfl:=(h2 x).1 hx;exact oi.FW h3 λv hv=>IS h4 hn v<|by simpa using hv
 |row nl T n sz el=>
  obtain⟨f,h1,h2,h3⟩:=h;have hn:nl=true:=hn;subst hn;exact h1.Jb<|(h2 x).1 hx
 |iT nl T1 T0 n sz len el pend=>
  rcases h with⟨_,_,h⟩|h
  .exact absurd hx<|h x
  obtain⟨b,ofs,c,cur,f,h1,h2,h3,h4,h5,h6,h7,h8,h9,nh,nW⟩:=h;have hn:nl=true:=hn;subst hn;rcases(h9 x).1 hx with rfl|⟨k,hk,PB⟩
  .exact oi.FW h2 λv hv=>h7 v hv
  .exact (h8 k hk).1.Jb PB
 |uJ T b l=>
  obtain⟨vs,h1,h2,h3,h4,h5⟩:=h;obtain rfl:=(h2 x).1 hx;exact oi.FW h3 λv hv=>IS h4 hn v<|by simpa using hv
 |Ak nl T1 T0 n sz len el c r=>
  obtain⟨⟨b,ofs,c,cur,f,h1,h2,h3,h4,h5,h6,h7,h8,h9,nh,nW⟩,_⟩:=h;have hn:nl=true:=hn;subst hn;rcases(h9 x).1 hx with rfl|⟨k,hk,PB⟩
  .exact oi.FW h2 λv hv=>h7 v hv
  .exact (h8 k hk).1.Jb PB
 |pQ nl T l=>
  obtain⟨b,vs,h1,h2,h3,h4,h5,h6⟩:=h;obtain rfl:=(h2 x).1 hx;exact oi.FW h3 λv hv=>(h6 v<|by simpa using hv).2 hn
def jd.C0(g:Gd P K w0 B)(r:jd w0 B σ a w L)(hn:σ.nl=true):∀ b,bad B L b->b<w.heap.size/\oi w b:=by
 intro b hb;rcases hb with hb|⟨id,hb⟩
 .obtain ⟨h1,h2⟩:=g.hB b hb;exact⟨bM h1.1 r.he.size,h2.FV<|r.he.block b h1⟩
 .refine ⟨(r.hw id b hb).2,?_⟩;have hl:=(r.hv id).1<|r.hn id b hb;obtain⟨bx,ju⟩:=gz.1 hl;exact(r.hb id bx ju).Jb (r.hl hn id bx ju) hb
def nB.ji{id:Nat}{Tt:TypeId}{l:List E}(h:nB (bad B L) (jl L) L w id<|.cells Tt l){b:Nat}(hv:L.val id = .pointer (some ⟨b,0,none⟩))(iE:∀ x,L.own id x->x<w.heap.size):
 iI (bad B L) (λ_=>False) w (.ji l.length λj=>l.getD j .any) (.pointer<|some ⟨b,0,none⟩):=by
 obtain⟨b',vs,h1,h2,h3,h4,h5⟩:=h;rw[hv]at h1;cases h1;refine .ji _ _ b 0 (λj=>vs.getD j undef) (λh=>h) (iE b<|(h2 b).2 rfl) (λj hj=>?_) (λj hj=>?_) λj hj=>?_
 .have qB:j<vs.length:=by rw[h4.len];exact hj
  rw[bc,bk qB];exact h5 _<|b9 qB
 .have qB:j<vs.length:=by rw[h4.len];exact hj
  simp only[World.cell?,h3];simp[qB]
 .have qB:j<vs.length:=by rw[h4.len];exact hj
  rw[bc,bk hj,bc,bk qB];exact(h4.kq j _ _ (bk hj)<|bk qB).pn (λ_ h=>h) λ_ h=>h.elim
def nb.aaj{v:Value}{T:TypeId}{n sz:Nat}{f:Nat->Nat->Value}{nl:Bool}{el:Nat->Nat->E}{bs br:Nat->Prop}(h1:nb w v T n sz f nl)(iE:∀ x,v.ownBlock=some x->x<w.heap.size)
 (h3:∀ i j,i<n->j<sz->iI bs br w (el i j) (f i j)/\(el i j).nr 2=true):iI (λ_=>False) (λ_=>False) w (.sl nl n sz el) v:=by
 rcases h1 with⟨rfl,rfl⟩|⟨b,ofs,c,cur,rfl,hg,qC,pF,nO,kr,jI⟩
 .exact .sl nl 0 sz el none 0 f (a7 _) aE (λ_=>rfl) (λi j hi=>absurd hi<|bt i) (λi j hi=>absurd hi<|bt i) (λi j hi=>absurd hi<|bt i) λi j hi=>absurd hi<|bt i
 .refine .sl nl n sz el _ c f qC (by unfold maxLen at pF;omega) (λh=>by cases h) (λi j hi hj=>⟨(kr i j hi hj).2,λhn=>jI hn _<|ej (kr i j hi hj).1⟩) (λi j hi hj=>(h3 i j hi hj).2)
   (λi j hi hj=>⟨b,ofs,rfl,λh=>h,iE b rfl,?_⟩) (λi j hi hj=>(iI.nr ((h3 i j hi hj).1.pn (λ_ h=>h.elim) λ_ h=>h) 2 (h3 i j hi hj).2))
  simp only[World.cell?,hg];simpa using(kr i j hi hj).1
section
variable(r:jd w0 B σ a w L)
def jd.XO{id T1 T0 n sz k:Nat}{nl:Bool}{len:Nat->Nat}{el:Nat->Nat->Nat->E}{pend:Option Nat}(iV:σ.bo id=some (.iT nl T1 T0 n sz len el pend))(hk:k<n):
 iI (λ_=>False) (λ_=>False) w (.sl nl (len k) sz<|el k) (L.iG id k):=by
 obtain⟨b,ofs,c,cur,f,h1,h2,h3,h4,h5,h6,h7,h8,h9,nh,nW⟩:=(r.hb id _ iV).vE aC;exact(h8 k hk).1.aaj (λx hx=>(r.hw id x<|(h9 x).2<|.inr ⟨k,hk,hx⟩).2) (h8 k hk).2
section
variable{c:CV}{e:E}{is:List Nat}(h:c.ext σ=some (e,is))
def CV.Hh(kj:c.IC=false){v:Value}(hv:xR (bad B L) (jl L) L w c v):iI (bad B L) (λ_=>False) w e v:=by
 cases c with
 |e x=>simp only[CV.ext,bu,bK]at h;obtain⟨rfl,_⟩:=h;exact hv.pn (λ_ h=>h) λ_ h=>h.elim
 |box id=>
  simp only[CV.ext]at h;split at h
  .rename_i Tt l iV;simp only[bu,bK]at h;obtain⟨rfl,_⟩:=h;obtain⟨_,b,k2,rfl⟩:=hv;exact(r.hb id _ iV).ji k2 λx hx=>(r.hw id x hx).2
  .cases h
 |row id=>cases kj
def CV.Oz{v:Value}(hv:xR (bad B L) (jl L) L w c v):iI (λ_=>False) (λ_=>False) w e v:=by
 cases kj:c.IC with
 |false=>exact(CV.Hh r h kj hv).pn (λ_ h=>h.elim) λ_ h=>h
 |true=>
  cases c with
  |row id=>
   simp only[CV.ext]at h;split at h
   .rename_i nl T1 T0 n sz len el iV;split at h
    .rename_i hn;have hn:=ku.1 hn;subst hn;simp only[bu,bK]at h;obtain⟨rfl,_⟩:=h;obtain⟨_,b,ofs,n',c,k2,rfl⟩:=hv;have kS:=r.XO iV<|fQ 0;obtain⟨b',ofs',c',cur,f,h1,h2,h3,h4,h5,h6,h7,h8,h9,nh,nW⟩:=(r.hb id _ iV).vE aE;rw[k2]at h1;cases h1;have nN:=h6 0 (fQ 0) aH;refine .ji 1 _ b ofs (λ_=>L.iG id 0) (λh=>h) (r.hw id b<|(h9 b).2<|.inl rfl).2 (λj hj=>(h8 0<|fQ 0).1.head.2.1) (λj hj=>?_) λj hj=>kS;obtain rfl:j=0:= aC ;simp only[World.cell?,h2];simpa using nN
    .cases h
   .cases h
  |_=>cases kj
end
section
variable{l:List CV}{es:List E}{is:List Nat}(h:vQ σ l=some (es,is))
def Vp(kj:l.any CV.IC=false){vs:List Value}(hlen:vs.length=l.length)
 (hv:∀ (i:Nat) (c:CV) (x:Value),l[i]? = some c->vs[i]? = some x->xR (bad B L) (jl L) L w c x):kf (bad B L) (λ_=>False) w es vs:=by
 induction l generalizing es is vs with
 |nil=>simp only[vQ,bu,bK]at h;obtain⟨rfl,_⟩:=h;obtain rfl:=dw hlen;exact .nil _ _ _
 |cons c l ih=>
  cases vs with
  |nil=>simp at hlen
  |cons v vs=>
   simp only[vQ]at h;split at h
   .rename_i x i xs js h1 h2;simp only[bu,bK]at h;obtain⟨rfl,_⟩:=h;simp only[dP,fe]at kj;exact .cons (CV.Hh r h1 kj.1<|hv 0 c v rfl rfl)<|ih h2 kj.2 (by simpa using hlen) λi c x hc hx=>hv (i+1) c x (by simpa using hc)<|by simpa using hx
   .cases h
def Vq{vs:List Value}(hlen:vs.length=l.length)
 (hv:∀ (i:Nat) (c:CV) (x:Value),l[i]? = some c->vs[i]? = some x->xR (bad B L) (jl L) L w c x):kf (λ_=>False) (λ_=>False) w es vs:=by
 induction l generalizing es is vs with
 |nil=>simp only[vQ,bu,bK]at h;obtain⟨rfl,_⟩:=h;obtain rfl:=dw hlen;exact .nil _ _ _
 |cons c l ih=>
  cases vs with
  |nil=>simp at hlen
  |cons v vs=>
   simp only[vQ]at h;split at h
   .rename_i x i xs js h1 h2;simp only[bu,bK]at h;obtain⟨rfl,_⟩:=h;exact .cons (CV.Oz r h1<|hv 0 c v rfl rfl)<|ih h2 (by simpa using hlen) λi c x hc hx=>hv (i+1) c x (by simpa using hc)<|by simpa using hx
   .cases h
end
end
def nb.uJ{v:Value}{T:TypeId}{n sz:Nat}{f:Nat->Nat->Value}{nl:Bool}{el:Nat->Nat->E}{bs br:Nat->Prop}(h1:nb w v T n sz f nl)(iE:∀ x,v.ownBlock=some x->x<w.heap.size)
 (h3:∀ i j,i<n->j<sz->iI bs br w (el i j) (f i j)/\(el i j).nr 2=true):iI bs (λ_=>False) w (.oW true nl n sz el) v:=by
 rcases h1 with⟨rfl,rfl⟩|⟨b,ofs,c,cur,rfl,hg,qC,pF,nO,kr,jI⟩
 .exact .oW true nl 0 sz el none 0 f (a7 _) aE (λ_=>rfl) (λi j hi=>absurd hi<|bt i) (λ_ i j hi=>absurd hi<|bt i) (λi j hi=>absurd hi<|bt i) λi j hi=>absurd hi<|bt i
 .refine .oW true nl n sz el _ c f qC (by unfold maxLen at pF;omega) (λh=>by cases h) (λi j hi hj=>⟨(kr i j hi hj).2,λhn=>jI hn _<|ej (kr i j hi hj).1⟩) (λ_ i j hi hj=>(h3 i j hi hj).2)
   (λi j hi hj=>⟨b,ofs,rfl,λh=>h,iE b rfl,?_⟩) (λi j hi hj=>iI.nr (h3 i j hi hj).1 2 (h3 i j hi hj).2)
  simp only[World.cell?,hg];simpa using(kr i j hi hj).1
section
variable(r:jd w0 B σ a w L){p:PV}{e:E}{is:List Nat}(h:p.ext σ=some (e,is))
def PV.Hh(kj:p.vi σ=false){v:Value}(hv:kD (bad B L) (jl L) L w p v):iI (bad B L) (λ_=>False) w e v:=by
 cases p with
 |e x=>simp only[PV.ext,bu,bK]at h;obtain⟨rfl,_⟩:=h;exact iI.pn (λ_ h=>h) (λ_ h=>h.elim) hv
 |box id off=>
  cases off with
  |succ=>simp[PV.ext]at h
  |zero=>
   simp only[PV.ext]at h;split at h
   .rename_i Tt l iV;simp only[bu,bK]at h;obtain⟨rfl,_⟩:=h;obtain⟨_,b,k2,rfl⟩:=hv;exact(r.hb id _ iV).ji k2 λx hx=>(r.hw id x hx).2
   .cases h
 |pN f cap=>
  simp only[PV.ext]at h;split at h
  .rename_i xs js h1;simp only[bu,bK]at h;obtain⟨rfl,_⟩:=h;obtain⟨vs,rfl,k2,k3⟩:=hv;have:=Vp r h1 kj k2 k3;exact .fn f xs vs this.len this.kq
  .cases h
 |own id=>
  obtain⟨_,rfl⟩:=hv;simp only[PV.vi]at kj;split at kj
  .rename_i nl T1 T0 n sz len el pend iV;simp only[PV.ext,iV]at h;cases pend with
   |some k=>cases h
   |none=>
    simp only[bu,bK]at h;obtain⟨rfl,_⟩:=h;rcases r.hb id _ iV with⟨h1,h2,_⟩|⟨b,ofs,c,cur,f,h1,h2,h3,h4,h5,h6,h7,h8,h9,nh,nW⟩
    .subst h2;rw[h1];exact .oW false true 0 1 _ none 0 (λ_ _=>undef) (a7 _) aE (λ_=>rfl) (λi j hi=>absurd hi<|bt i) (λh=>by cases h) (λi j hi=>absurd hi<|bt i) λi j hi=>absurd hi<|bt i
    .rw [h1];refine .oW false true n 1 _ _ c (λk _=>L.iG id k) h3 (by unfold maxLen at h4;omega) (λh=>by cases h) (λk j hk hj=>⟨(h8 k hk).1.head.2.1,λ_=>(h8 k hk).1.head.2.2⟩) (λh=>by cases h)
      (λk j hk hj=>⟨b,ofs,rfl,λh=>h,(r.hw id b<|(h9 b).2<|.inl rfl).2,?_⟩) (λk j hk hj=>(h8 k hk).1.uJ (λx hx=>(r.hw id x<|(h9 x).2<|.inr ⟨k,hk,hx⟩).2) (h8 k hk).2)
     rw[b6];obtain rfl:j=0:= aC ;simp only[World.cell?,h2];simpa using h6 k hk aH 
  .cases kj
 |iG id k=>cases kj
 |oc=>simp[PV.ext]at h
 |qS=>simp[PV.ext]at h
def PV.Oz{v:Value}(hv:kD (bad B L) (jl L) L w p v):iI (λ_=>False) (λ_=>False) w e v:=by
 by_cases kj:p.vi σ=false
 .exact (PV.Hh r h kj hv).pn (λ_ h=>h.elim) λ_ h=>h
 .cases p with
  |own id=>
   obtain⟨_,rfl⟩:=hv;simp only[PV.ext]at h;split at h
   .rename_i nl T n sz el iV;simp only[bu,bK]at h;obtain⟨rfl,_⟩:=h;obtain⟨f,h1,h2,h3⟩:=r.hb id _ iV;exact h1.aaj (λx hx=>(r.hw id x<|(h2 x).2 hx).2) h3
   .rename_i nl T1 T0 n sz len el iV;exact absurd (by simp only[PV.vi,iV]) kj
   .cases h
  |iG id k=>
   obtain⟨_,rfl⟩:=hv;simp only[PV.ext]at h;split at h
   .rename_i nl T1 T0 n sz len el iV;split at h
    .rename_i hk;simp only[bu,bK]at h;obtain⟨rfl,_⟩:=h;exact r.XO iV<|by simpa[fG]using hk
    .cases h
   .cases h
  |pN f cap=>
   simp only[PV.ext]at h;split at h
   .rename_i xs js h1;simp only[bu,bK]at h;obtain⟨rfl,_⟩:=h;obtain⟨vs,rfl,k2,k3⟩:=hv;have:=Vq r h1 k2 k3;exact .fn f xs vs this.len this.kq
   .cases h
  |e x=>exact absurd rfl kj
  |box id off=>exact absurd rfl kj
  |oc id sz i j=>exact absurd rfl kj
  |qS id sz k i j=>exact absurd rfl kj
end
section
variable(r:jd w0 B σ a w L){l:List Operand}{es:List E}{is:List Nat}(h:ub σ l=some (es,is))
def S5:kf (λ_=>False) (λ_=>False) w es<|l.map a.eval:=by
 induction l generalizing es is with
 |nil=>simp only[ub,bu,bK]at h;obtain⟨rfl,_⟩:=h;exact .nil _ _ _
 |cons x l ih=>
  simp only[ub]at h;split at h
  .rename_i y i xs js h1 h2;simp only[bu,bK]at h;obtain⟨rfl,_⟩:=h;exact .cons (PV.Oz r h1<|r.op x)<|ih h2
  .cases h
def Kd(kj:(l.map σ.op).any (PV.vi σ)=false):kf (bad B L) (λ_=>False) w es<|l.map a.eval:=by
 induction l generalizing es is with
 |nil=>simp only[ub,bu,bK]at h;obtain⟨rfl,_⟩:=h;exact .nil _ _ _
 |cons x l ih=>
  simp only[ub]at h;split at h
  .rename_i y i xs js h1 h2;simp only[bu,bK]at h;obtain⟨rfl,_⟩:=h;simp only[eI,dP,fe]at kj;exact .cons (PV.Hh r h1 kj.1<|r.op x)<|ih h2 kj.2
  .cases h
end
def Gx(P:Program)(K:World->Prop)(w0:mA)(B:Nat->Prop)(σ:PS)(o:Oper)(a:Act)(w:World)(u:ko):Prop:=
 ∀ (Kc:Act->World->Prop) (Q:Exit->Act->World->Prop),(∀ v w' L',jd w0 B (σ.nT u.f) a w' L'->kD (bad B L') (jl L') L' w' u.r v->Kc (a.put o.dst v) w')->o.wp P a w Kc Q
def jV.pq(h:jV P K w0 B σ o a w u):Gx P K w0 B σ o a w u:=by
 intro Kc Q hk;obtain⟨v,w',L',ki,hr,hp⟩:=h;unfold Oper.wp;rcases ki with ki|⟨ki,rfl⟩
 .rw [ki];exact hk v w' L' hr hp
 .rw [ki];exact hk _ w' L' hr hp
section
variable(g:Gd P K w0 B)(r:jd w0 B σ a w L){c:Call}{f:Operand}(iC:o.op = .call c)(hf:c.callee = .value f)
def UO{gf:FuncId}{xs ys:List E}{is:List Nat}{us:List Value}
 {ow:Bool} (vY:a.eval f = .func (.func gf) #[] us.toArray) (PZ:kf (λ_=>False) (λ_=>False) w xs<|c.args.toList.map a.eval) (qc:ow=false->kf (bad B L) (λ_=>False) w xs (c.args.toList.map a.eval)) (PW:kf (λ_=>False) (λ_=>False) w ys us) (xr:ow=false->kf (bad B L) (λ_=>False) w ys us)
 (h:B4 P K O σ o.dst gf (xs++ys) is ow=some u) (ho:∀ q,q ∈ u.jz->q):Gx P K w0 B σ o a w u:=by
 intro Kc Q hk;simp only[B4]at h;split at h
 .rename_i jA A7;split at h
  .rename_i hc;cases h;have pc:PC P K gf (xs++ys) jA:=ho _ aH;have Pa:=PZ.app PW;have ki:(execOp a.eval o).run P w = .ok (.enter gf ((c.args.toList.map a.eval)++us).toArray) w:=by
    have e1:c.args.map a.eval=(c.args.toList.map a.eval).toArray:=by apply cW;simp
    have e2:#[]++(c.args.toList.map a.eval).toArray++us.toArray=((c.args.toList.map a.eval)++us).toArray:= aH ;simp only[execOp,iC,resolve,hf,vY,Deferred.ofValue,Sem.run_bind,Sem.run_pure,Result.andThen_ok,invoke,e1,e2,pc.call]
   unfold Oper.wp;rw[ki];show Calls P gf _ w _;have hK:K w:=g.k _ r.he;by_cases DI:jA.plain 3=true
   .refine (pc.run w (λ_=>False) _ hK (λ_ h=>h.elim) Pa).mono ?_;rintro e w' ⟨v,rfl,hb,hv⟩;exact hk v w' L (r.later hb)<|iI.plain (w:=w') hv 3 DI
   .have hn:σ.nl=true/\ow=false:=by simpa[DI]using hc
    refine(pc.run w (bad B L) _ hK (r.C0 g hn.1)<|(qc hn.2).app<|xr hn.2).mono ?_;rintro e w' ⟨v,rfl,hb,hv⟩;exact hk v w' L (r.later hb)<|iI.pn (λ_ h=>h) (λ_ _=>trivial) hv
  .split at h
   .rename_i hc;cases h;have pc:J1 P K gf (xs++ys) jA:=ho _ aH;have ki:(execOp a.eval o).run P w = .ok (.enter gf ((c.args.toList.map a.eval)++us).toArray) w:=by
     have e1:c.args.map a.eval=(c.args.toList.map a.eval).toArray:=by apply cW;simp
     have e2:#[]++(c.args.toList.map a.eval).toArray++us.toArray=((c.args.toList.map a.eval)++us).toArray:= aH ;simp only[execOp,iC,resolve,hf,vY,Deferred.ofValue,Sem.run_bind,Sem.run_pure,Result.andThen_ok,invoke,e1,e2,pc.call]
    unfold Oper.wp;rw[ki];show Calls P gf _ w _;have hK:K w:=g.k _ r.he;have hn:ow=false:=by simpa using hc
    refine(pc.run w (bad B L) _ hK (λb hb=>?_)<|(qc hn).app<|xr hn).mono ?_
    .rcases hb with hb|⟨id,hb⟩
     .exact bM (g.hB b hb).1.1 r.he.size
     .exact (r.hw id b hb).2
    .rintro e w' ⟨v,rfl,hb,hv⟩;exact hk v w' L (r.later hb)<|iI.pn (λ_ h=>h) (λ_ _=>trivial) hv
   .split at h
    .rename_i jI;cases h;have pc:PC P K gf (xs++ys) jA:=ho _ aH;have tz:Ni jA:=ho _ aH;have Pa:=PZ.app PW;have ki:(execOp a.eval o).run P w = .ok (.enter gf ((c.args.toList.map a.eval)++us).toArray) w:=by
      have e1:c.args.map a.eval=(c.args.toList.map a.eval).toArray:=by apply cW;simp
      have e2:#[]++(c.args.toList.map a.eval).toArray++us.toArray=((c.args.toList.map a.eval)++us).toArray:= aH ;simp only[execOp,iC,resolve,hf,vY,Deferred.ofValue,Sem.run_bind,Sem.run_pure,Result.andThen_ok,invoke,e1,e2,pc.call]
     unfold Oper.wp;rw[ki];show Calls P gf _ w _;have hK:K w:=g.k _ r.he;refine(pc.run w (λ_=>False) _ hK (λ_ h=>h.elim) Pa).mono ?_;rintro e w' ⟨v,rfl,hb,hv⟩;have r':=r.later hb;exact hk v w' L r'<|iI.pn (λ_ h=>h) (λ_ _=>trivial)<|tz _ _ _ _ _ (λx hx=>.inr (r'.C0 g jI x hx).2) hv
    .cases h
 .split at h
  .rename_i d hd;split at h
   .rename_i nl T n sz el hnw;split at h
    .rename_i hc;cases h;simp only[bD]at hc;have pc:wO P K gf (xs++ys) nl T n sz el:=ho _ aH;have ki:(execOp a.eval o).run P w = .ok (.enter gf ((c.args.toList.map a.eval)++us).toArray) w:=by
      have e1:c.args.map a.eval=(c.args.toList.map a.eval).toArray:=by apply cW;simp
      have e2:#[]++(c.args.toList.map a.eval).toArray++us.toArray=((c.args.toList.map a.eval)++us).toArray:= aH ;simp only[execOp,iC,resolve,hf,vY,Deferred.ofValue,Sem.run_bind,Sem.run_pure,Result.andThen_ok,invoke,e1,e2,pc.call]
     unfold Oper.wp;rw[ki];show Calls P gf _ w _;have hK:K w:=g.k _ r.he;have fin:∀ (v:Value) (w':World) (gg:Nat->Nat->Value),Below w.heap.size w w'->nb w' v T n sz gg nl->(∀ x,v.ownBlock=some x->w.heap.size<=x/\x<w'.heap.size) ->
      (∀ i j,i<n->j<sz->iI (λb=>bad B L b\/v.ownBlock=some b) (λ_=>True) w' (el i j) (gg i j)/\(el i j).nr 2=true)->Kc (a.put o.dst v) w':=by
      intro v w' gg hb lq uq Dt;have key:∀ (σ1:PS) (L1:Lk),jd w0 B σ1 a w L1->(∀ i x,L1.own i x->L.own i x)->σ1.bo d=none->σ1.nl=σ.nl->∃ L',jd w0 B (σ1.nT<|.new d<|.row nl T n sz el) a w' L'/\kD (bad B L') (jl L') L' w' (.own d) v:=by
       intro σ1 L1 r1 vg kj ai2;have ai1:=r1.new d (.row nl T n sz el) (λx=>v.ownBlock=some x) v (λ_=>undef) w' kj uq hb
        ⟨gg,by rw[Lk.mU];exact lq,λx=>by rw[Lk.px,Lk.mU],λi j hi hj=>⟨?_,(Dt i j hi hj).2⟩⟩ (by simp[Bx.nl,hc.2])
       .exact ⟨_,ai1,Lk.Ah,Lk.mU.symm⟩
       .refine (Dt i j hi hj).1.pn (λb h=>?_) λ_ _=>trivial;rcases h with h|⟨id,h⟩
        .exact .inl<|.inl h
        .by_cases e:id=d
         .subst e;exact .inr<|(Lk.px b).1 h
         .exact .inl<|.inr ⟨id,vg _ _<|(Lk.yR e b).1 h⟩
      cases iV:σ.bo d with
      |none=>
       obtain⟨L',k1,k2⟩:=key σ L r (λ_ _ h=>h) iV rfl;exact hk v w' L' (by simpa only[sZ,iV]using k1) k2
      |some b=>
       obtain⟨L1,r1,vg,kj⟩:=r.N8 d;obtain⟨L',k1,k2⟩:=key _ L1 r1 vg kj rfl;rw[Of]at k1;exact hk v w' L' (by simpa only[sZ,iV]using k1) k2
     cases o0:ow with
     |false=>
      refine(pc.run w (bad B L) _ hK (r.C0 g hc.1)<|(qc o0).app<|xr o0).mono ?_;rintro e w' ⟨v,rfl,hb,gg,lq,uq,Dt⟩;exact fin v w' gg hb lq uq Dt
     |true=>
      have tz:SG n sz el:=ho _ (by simp[o0]);refine(pc.run w (λ_=>False) _ hK (λ_ h=>h.elim)<|PZ.app PW).mono ?_;rintro e w' ⟨v,rfl,hb,gg,lq,uq,Dt⟩;have r':=r.later hb;refine fin v w' gg hb lq uq λi j hi hj=>⟨tz i j hi hj _ _ _ _ _ (λx hx=>?_) (Dt i j hi hj).1,(Dt i j hi hj).2⟩
      rcases hx with hx|hx
      .exact .inr (r'.C0 g hc.1 x hx).2
      .exact .inl<|.inr hx
    .cases h
   .rename_i nl T1 T0 n sz len el hnw;split at h
    .rename_i hc;cases h;simp only[bD,di]at hc;have pc:J2 P K gf (xs++ys) nl T1 T0 n sz len el:=ho _ aH;have ki:(execOp a.eval o).run P w = .ok (.enter gf ((c.args.toList.map a.eval)++us).toArray) w:=by
      have e1:c.args.map a.eval=(c.args.toList.map a.eval).toArray:=by apply cW;simp
      have e2:#[]++(c.args.toList.map a.eval).toArray++us.toArray=((c.args.toList.map a.eval)++us).toArray:= aH ;simp only[execOp,iC,resolve,hf,vY,Deferred.ofValue,Sem.run_bind,Sem.run_pure,Result.andThen_ok,invoke,e1,e2,pc.call]
     unfold Oper.wp;rw[ki];show Calls P gf _ w _;have hK:K w:=g.k _ r.he;refine(pc.run w (bad B L) _ hK (r.C0 g hc.1.1)<|(qc hc.2).app<|xr hc.2).mono ?_;rintro e w' ⟨Lr,rfl,hb,uq,A8⟩;have key:∀ (σ1:PS) (L1:Lk),jd w0 B σ1 a w L1->(∀ i x,L1.own i x->L.own i x)->σ1.bo d=none->σ1.nl=σ.nl->∃ L',jd w0 B (σ1.nT<|.new d<|.iT nl T1 T0 n sz len el none) a w' L'/\kD (bad B L') (jl L') L' w' (.own d) (Lr.val 0):=by
      intro σ1 L1 r1 vg kj ai2;refine⟨_,r1.new d (.iT nl T1 T0 n sz len el none) (Lr.own 0) (Lr.val 0) (Lr.iG 0) w' kj uq hb ?_ (by simp[Bx.nl,hc.1.2]),Lk.Ah,Lk.mU.symm⟩;rcases A8 with⟨h1,h2,h3⟩|⟨b,ofs,c,cur,f,h1,h2,h3,h4,h5,h6,h7,h8,h9,nh,nW⟩
      .exact .inl ⟨by rw[Lk.mU];exact h1,h2,λx hx=>h3 x<|(Lk.px x).1 hx⟩
      .refine .inr ⟨b,ofs,c,cur,f,by rw[Lk.mU];exact h1,h2,h3,h4,h5,by simp only[Lk.nR];exact h6,h7,λk hk=>?_,λx=>by rw[Lk.px];simp only[Lk.nR];exact h9 x,by simp only[Lk.nR];exact nh,by simp only[Lk.nR];exact nW⟩;rw[Lk.nR];obtain⟨p1,p2⟩:=h8 k hk;refine⟨p1,λi j hi hj=>⟨(p2 i j hi hj).1.pn (λb h=>?_) λ_ _=>trivial,(p2 i j hi hj).2⟩⟩;rcases h with h|⟨id,h⟩
       .exact .inl<|.inl h
       .by_cases e:id=d
        .subst e;exact .inr<|(Lk.px b).1 h
        .exact .inl<|.inr ⟨id,vg _ _<|(Lk.yR e b).1 h⟩
     cases iV:σ.bo d with
     |none=>
      obtain⟨L',k1,k2⟩:=key σ L r (λ_ _ h=>h) iV rfl;exact hk _ w' L' (by simpa only[sZ,iV]using k1) k2
     |some b=>
      obtain⟨L1,r1,vg,kj⟩:=r.N8 d;obtain⟨L',k1,k2⟩:=key _ L1 r1 vg kj rfl;rw[Of]at k1;exact hk _ w' L' (by simpa only[sZ,iV]using k1) k2
    .cases h
   .cases h
  .cases h
def afT{l':List E}{jA:E}
 (h:B5 P K σ (σ.op f) c.args.toList l' jA=some u) (ho:∀ q,q ∈ u.jz->q):Gx P K w0 B σ o a w u:=by
 intro Kc Q hk;have vY:=r.op f;unfold B5 at h;split at h
 .rename_i gf x xs A0 Wv;rw[A0]at vY;obtain⟨us,e1,xr⟩:=iI.OF vY;obtain rfl:us=[]:=xr.re;have hx:=r.op x;split at h
  .rename_i id ni;rw[ni]at hx;split at h
   .rename_i T l es is iV uw;split at h
    .rename_i hc;cases h;simp only[bD,di]at hc;have pc:EI P K gf T l l' es jA:=ho _ aH;obtain⟨k1,b,k2,k3⟩:=hx;obtain⟨b',cs,h1,h2,h3,h4,h5⟩:=r.hb id _ iV;rw[k2]at h1;cases h1;have ki:(execOp a.eval o).run P w = .ok (.enter gf (.pointer (some ⟨b,0,none⟩)::(xs.map a.eval)).toArray) w:=by
      have e3:c.args.map a.eval=((c.args.toList.map a.eval)).toArray:=by apply cW;simp
      have e2:#[]++(c.args.toList.map a.eval).toArray++([]:List Value).toArray=(.pointer (some ⟨b,0,none⟩)::(xs.map a.eval)).toArray:=by rw[Wv];simp[k3]
      simp only[execOp,iC,resolve,hf,e1,Deferred.ofValue,Sem.run_bind,Sem.run_pure,Result.andThen_ok,invoke,e3,e2,pc.call]
     unfold Oper.wp;rw[ki];show Calls P gf _ w _;have oZ:L.own id b:=(h2 b).2 rfl;refine(pc.run w (bad B L) b cs (xs.map a.eval) (λw2 hm=>g.k _<|r.he.trans ⟨hm.os,hm.tape,hm.output,hm.size,λx hx=>hm.nY x (bM hx.1 r.he.size) λe=>(r.hw id b oZ).1<|e▸hx⟩) (r.C0 g hc.1.1) (.inr ⟨id,oZ⟩) h3 h5 (h4.mono λ_ _=>iI.pn (λ_ h=>h) λ_ h=>h.elim)<|Kd r uw hc.2).mono ?_;rintro e w' ⟨v,cs',rfl,hm,Pv,xk,qa,A7⟩;have ht:pM L w id (L.own id) w':=⟨λy hy=>⟨.inl hy,bM (r.hw id y hy).2 hm.size⟩,hm.size,λy hy kj=>hm.nY y hy λe=>kj<|by rw[e];exact oZ,hm.os,hm.tape,hm.output⟩
     have sy:∀ x,bad B (L.set id (L.own id) (L.val id)<|L.iG id) x->bad B L x:=by
      rintro x (h|⟨i,h⟩)
      .exact .inl h
      .by_cases e:i=id
       .subst e;exact .inr ⟨i,(Lk.px x).1 h⟩
       .exact .inr ⟨i,(Lk.yR e x).1 h⟩
     exact hk v w' _ (r.oR id _ w' k1 ht ⟨b,cs',by rw[Lk.mU];exact k2,λx=>by rw[Lk.px];exact h2 x,Pv,qa.mono λ_ _=>iI.pn sy λ_ _=>trivial,xk⟩ λ_=>hc.1.2)<|iI.pn sy (λ_ _=>trivial) A7
    .cases h
   .rename_i T b l es is iV uw;split at h
    .rename_i hc;cases h;simp only[bD,di]at hc;have pc:EI P K gf T l l' es jA:=ho _ aH;obtain⟨k1,b1,k2,k3⟩:=hx;obtain⟨cs,h1,h2,h3,h4,h5⟩:=r.hb id _ iV;rw[k2]at h1;cases h1;have ki:(execOp a.eval o).run P w = .ok (.enter gf (.pointer (some ⟨b,0,none⟩)::(xs.map a.eval)).toArray) w:=by
      have e3:c.args.map a.eval=((c.args.toList.map a.eval)).toArray:=by apply cW;simp
      have e2:#[]++(c.args.toList.map a.eval).toArray++([]:List Value).toArray=(.pointer (some ⟨b,0,none⟩)::(xs.map a.eval)).toArray:=by rw[Wv];simp[k3]
      simp only[execOp,iC,resolve,hf,e1,Deferred.ofValue,Sem.run_bind,Sem.run_pure,Result.andThen_ok,invoke,e3,e2,pc.call]
     unfold Oper.wp;rw[ki];show Calls P gf _ w _;have oZ:L.own id b:=(h2 b).2 rfl;refine(pc.run w (bad B L) b cs (xs.map a.eval) (λw2 hm=>g.k _<|r.he.trans ⟨hm.os,hm.tape,hm.output,hm.size,λx hx=>hm.nY x (bM hx.1 r.he.size) λe=>(r.hw id b oZ).1<|e▸hx⟩) (r.C0 g hc.1.1) (.inr ⟨id,oZ⟩) h3 h5 (h4.mono λ_ _=>iI.pn (λ_ h=>h) λ_ h=>h.elim)<|Kd r uw hc.2).mono ?_;rintro e w' ⟨v,cs',rfl,hm,Pv,xk,qa,A7⟩;have ht:pM L w id (L.own id) w':=⟨λy hy=>⟨.inl hy,bM (r.hw id y hy).2 hm.size⟩,hm.size,λy hy kj=>hm.nY y hy λe=>kj<|by rw[e];exact oZ,hm.os,hm.tape,hm.output⟩
     have sy:∀ x,bad B (L.set id (L.own id) (L.val id)<|L.iG id) x->bad B L x:=by
      rintro x (h|⟨i,h⟩)
      .exact .inl h
      .by_cases e:i=id
       .subst e;exact .inr ⟨i,(Lk.px x).1 h⟩
       .exact .inr ⟨i,(Lk.yR e x).1 h⟩
     exact hk v w' _ (r.oR id _ w' k1 ht ⟨cs',by rw[Lk.mU];exact k2,λx=>by rw[Lk.px];exact h2 x,Pv,qa.mono λ_ _=>iI.pn sy λ_ _=>trivial,xk⟩ λ_=>hc.1.2)<|iI.pn sy (λ_ _=>trivial) A7
    .cases h
   .cases h
  .cases h
 .cases h
end
section
variable(hT:mw P T)(g:Gd P K w0 B)(r:jd w0 B σ a w L)
def Oo(h:jG P K T O σ o=some u)(ho:∀ q,q ∈ u.jz->q):Gx P K w0 B σ o a w u:=by
 cases iC:o.op with
 |move x=>exact(aia (P:=P) (K:=K) iC r h).pq
 |assign x=>exact(ahQ (P:=P) (K:=K) iC r h).pq
 |pick c x y=>exact(aic (P:=P) (K:=K) iC r h).pq
 |alloc t=>exact(ahO hT iC r h).pq
 |box t x=>exact(ahS (P:=P) (K:=K) iC r h).pq
 |build t ps=>exact(ahT hT iC r h).pq
 |buildSlice t n ps=>exact(ahU hT (λb hb=>(g.hB b hb).1) iC r h).pq
 |load t x=>exact(ah3 hT iC r h ho).pq
 |store t x y=>exact(aif hT iC r h ho).pq
 |nilCheck x=>exact(aib (P:=P) (K:=K) iC r h).pq
 |binOp op t x y yt=>exact(ahR hT iC r h ho).pq
 |unOp op t x=>exact(aih (P:=P) (K:=K) iC r h ho).pq
 |convert s d x=>exact(ahV hT iC r h).pq
 |makeFunc fn first cap=>exact(ah5 (P:=P) (K:=K) iC r h).pq
 |makeSlice t l c=>exact(ah6 hT iC r h ho).pq
 |slice t x lo hi mx=>
  cases mx with
  |none=>exact(aid hT iC r h ho).pq
  |some=>simp[jG,iC]at h
 |fieldAddr t x f=>exact(ahY hT iC r h).pq
 |indexAddr t x i=>exact(ah0 hT iC r h ho).pq
 |index t x i=>exact(ahZ hT iC r h ho).pq
 |field t x f=>exact(ahX hT iC r h).pq
 |lookup t x i ok=>exact(ah4 hT iC r h ho).pq
 |extract x i=>exact(ahW (P:=P) (K:=K) iC r h).pq
 |call c=>
  obtain⟨callee,args,ats⟩:=c;cases callee with
  |builtin b=>
   simp only[jG,iC]at h;cases b
   case len=>
    dsimp only at h;split at h
    .rename_i x t hx ht;have ha:args = #[x]:=by apply cW;simpa using hx
     have It:ats = #[t]:=by apply cW;simpa using ht
     split at h
     .rename_i e hd;obtain⟨rr,hr,rfl⟩:=bU.1 h;exact(ah2 hT (by rw[ha,It]) iC hd r hr rfl).pq
     .cases h
    .cases h
   case append=>
    dsimp only at h;split at h
    .rename_i s x t t' hx ht;have ha:args = #[s,x]:=by apply cW;simpa using hx
     have It:ats = #[t,t']:=by apply cW;simpa using ht
     split at h
     .rename_i qE;have qE:=ku.1 qE;subst qE;split at h
      .rename_i q hq;exact(ah1 hT (by rw[ha,It]) iC r hq h ho).pq
      split at h
      .exact (ahP hT (λb hb=>(g.hB b hb).1) (by rw[ha,It]) iC r h ho).pq
      .exact (V2 hT (by rw[ha,It]) iC r h ho).pq
     .cases h
    .cases h
   case max=>
    dsimp only at h;split at h
    .rename_i k p k' q hx;rcases args with⟨l⟩
     rcases l with _|⟨x,_|⟨y,_|⟨z,l⟩⟩⟩<;>simp at hx
     cases h;exact(ah7 (P:=P) (K:=K) ⟨rfl,rfl⟩ iC r hx.1 hx.2 rfl).pq
    .rename_i k p k' q k'' s hx;rcases args with⟨l⟩
     rcases l with _|⟨x,_|⟨y,_|⟨z,_|⟨z',l⟩⟩⟩⟩<;>simp at hx
     cases h;exact(ah8 (P:=P) (K:=K) ⟨rfl,rfl⟩ iC r hx.1 hx.2.1 hx.2.2 rfl).pq
    .cases h
   case min=>
    dsimp only at h;split at h
    .rename_i k p k' q hx;rcases args with⟨l⟩
     rcases l with _|⟨x,_|⟨y,_|⟨z,l⟩⟩⟩<;>simp at hx
     cases h;exact(ah9 (P:=P) (K:=K) ⟨rfl,rfl⟩ iC r hx.1 hx.2 rfl).pq
    .cases h
   all_goals cases h
  |value f=>
   simp only[jG,iC]at h;have vY:=r.op f;split at h
   .exact afT g r iC rfl h ho
   split at h
   .rename_i gf cap xs is A0 qc;rw[A0]at vY;obtain⟨us,e1,xr⟩:=iI.OF vY;exact UO g r iC rfl e1 (S5 r qc) (λkj=>Kd r qc kj) (xr.mono λ_ _=>iI.pn (λ_ h=>h.elim) λ_ h=>h.elim) (λ_=>xr.mono λ_ _=>iI.pn (λ_ h=>h) λ_ h=>h.elim) h ho
   .rename_i gf cap xs is A0 qc;rw[A0]at vY;obtain⟨us,e1,k2,k3⟩:=vY;split at h
    .rename_i ys js DR;exact UO g r iC rfl e1 (S5 r qc) (λkj=>Kd r qc (fe.1 kj).1) (Vq r DR k2 k3) (λkj=>Vp r DR (fe.1 kj).2 k2 k3) h ho
    .cases h
   .cases h
  |invoke _ _=>simp[jG,iC]at h
 |_=>simp[jG,iC]at h
def agK(h:vO P K T O σ o=some u)(ho:∀ q,q ∈ u.jz->q):Gx P K w0 B σ o a w u:=by
 unfold vO at h;split at h
 .rename_i u0 h0;split at h
  .split at h
   .rename_i p hp;cases h;have he:PV.le u0.r p:=ho _ aH;have:=Oo hT g r h0 (λq hq=>ho q<|by simp[hq]);intro Kc Q hk;exact this Kc Q λv w' L' hr hv=>hk v w' L' hr<|he _ _ _ _ _ hv
   .cases h;exact Oo hT g r h0 ho
  .cases h;exact Oo hT g r h0 ho
 .cases h
end
end
section
variable {P:Program} {K:World->Prop} {T:List TI} {O:qw} {σ τ:PS} {o:Oper} {u:ko}
def alM{x:Operand}(h:∀ t,x = .tmp t->σ.get t=τ.get t):τ.op x=σ.op x:=by
 cases x with
 |tmp t=>exact(h t rfl).symm
 |_=>rfl
def amF{id off m:Nat}{l:List E}{is:List Nat}{jz:List Prop}(h:σ.read (.box id off) m=some (l,is,jz)):is=[id]:=by
 simp only[PS.read]at h;split at h
 .split at h
  .simp only[bu,bK]at h;exact h.2.1.symm
  .cases h
 .split at h
  .obtain ⟨es,uw,h⟩:=bU.1 h;simp only[bK]at h;exact h.2.1.symm
  .cases h
 .split at h
  .simp only[bu,bK]at h;exact h.2.1.symm
  .cases h
 .cases h
def aku{ti:TI}{l:List E}{is:List Nat}{jz:List Prop}(h:Cv ti (some (l,is,jz))=some u):u.rb=is:=by
 simp only[Cv]at h;split at h
 .cases h;rfl
 .split at h
  .cases h;rfl
  .cases h
def agD{ti:TI}{bi bq:Option Bx}{id off q:Nat}(h:E9 ti bi bq id off q=some u):u.rb=[id,q]:=by
 unfold E9 at h;split at h
 .rename_i hM;cases h;unfold KR at hM;split at hM
  .split at hM
   .cases hM;rfl
   .cases hM
  .cases hM
 .unfold KQ at h;split at h
  .split at h
   .cases h;rfl
   .cases h
  .cases h
def amG{p:PV}{m:Nat}{l:List E}{is:List Nat}{jz:List Prop}(h:σ.read p m=some (l,is,jz))(hb:∀ id,id ∈ is->σ.bo id=τ.bo id):τ.read p m=some (l,is,jz):=by
 cases p with
 |box id off=>
  have h0:=h;simp only[PS.read]at h;split at h
  .split at h
   .simp only[bu,bK]at h;obtain⟨_,rfl,_⟩:=h;simp only[PS.read,<-hb id aH];exact h0
   .cases h
  .split at h
   .obtain ⟨es,uw,h⟩:=bU.1 h;simp only[bK]at h;obtain⟨_,rfl,_⟩:=h;simp only[PS.read,<-hb id aH];exact h0
   .cases h
  .split at h
   .simp only[bu,bK]at h;obtain⟨_,rfl,_⟩:=h;simp only[PS.read,<-hb id aH];exact h0
   .cases h
  .cases h
 |oc id sz i j=>
  have h0:=h;simp only[PS.read]at h;split at h
  .split at h
   .simp only[bu,bK]at h;obtain⟨_,rfl,_⟩:=h;simp only[PS.read,<-hb id aH];exact h0
   .cases h
  .cases h
 |qS id sz k i j=>
  have h0:=h;simp only[PS.read]at h;split at h
  .split at h
   .simp only[bu,bK]at h;obtain⟨_,rfl,_⟩:=h;simp only[PS.read,<-hb id aH];exact h0
   .cases h
  .cases h
 |e x=>cases x<;>exact h
 |_=>exact h
def aeX{c:CV}{e:E}{is:List Nat}(h:c.ext σ=some (e,is))(hb:∀ id,id ∈ is->σ.bo id=τ.bo id):c.ext τ=some (e,is):=by
 cases c with
 |e x=>exact h
 |box id=>
  have h0:=h;simp only[CV.ext]at h;split at h
  .simp only[bu,bK]at h;obtain⟨_,rfl⟩:=h;simp only[CV.ext,<-hb id aH];exact h0
  .cases h
 |row id=>
  have h0:=h;simp only[CV.ext]at h;split at h
  .split at h
   .simp only[bu,bK]at h;obtain⟨_,rfl⟩:=h;simp only[CV.ext,<-hb id aH];exact h0
   .cases h
  .cases h
def Vo{l:List CV}{es:List E}{is:List Nat}(h:vQ σ l=some (es,is))(hb:∀ id,id ∈ is->σ.bo id=τ.bo id):vQ τ l=some (es,is):=by
 induction l generalizing es is with
 |nil=>exact h
 |cons c l ih=>
  simp only[vQ]at h;split at h
  .rename_i x i xs js h1 h2;simp only[bu,bK]at h;obtain⟨rfl,rfl⟩:=h;simp only[vQ,aeX h1 λid hi=>hb id<|by simp[hi],ih h2 λid hi=>hb id<|by simp[hi]]
  .cases h
def al4{p:PV}{e:E}{is:List Nat}(h:p.ext σ=some (e,is))(hb:∀ id,id ∈ is->σ.bo id=τ.bo id):p.ext τ=some (e,is):=by
 cases p with
 |e x=>exact h
 |box id off=>
  cases off with
  |succ=>exact h
  |zero=>
   have h0:=h;simp only[PV.ext]at h;split at h
   .simp only[bu,bK]at h;obtain⟨_,rfl⟩:=h;simp only[PV.ext,<-hb id aH];exact h0
   .cases h
 |pN f cap=>
  simp only[PV.ext]at h;split at h
  .rename_i xs js h1;simp only[bu,bK]at h;obtain⟨rfl,rfl⟩:=h;simp only[PV.ext,Vo h1 hb]
  .cases h
 |own id=>
  have h0:=h;simp only[PV.ext]at h;split at h
  .simp only[bu,bK]at h;obtain⟨_,rfl⟩:=h;simp only[PV.ext,<-hb id aH];exact h0
  .simp only[bu,bK]at h;obtain⟨_,rfl⟩:=h;simp only[PV.ext,<-hb id aH];exact h0
  .cases h
 |iG id k=>
  have h0:=h;simp only[PV.ext]at h;split at h
  .split at h
   .simp only[bu,bK]at h;obtain⟨_,rfl⟩:=h;simp only[PV.ext,<-hb id aH];exact h0
   .cases h
  .cases h
 |_=>exact h
def Kb{l:List Operand}{es:List E}{is:List Nat}(h:ub σ l=some (es,is))(hg:∀ x,x ∈ l->τ.op x=σ.op x)(hb:∀ id,id ∈ is->σ.bo id=τ.bo id):ub τ l=some (es,is):=by
 induction l generalizing es is with
 |nil=>exact h
 |cons c l ih=>
  simp only[ub]at h;split at h
  .rename_i x i xs js h1 h2;simp only[bu,bK]at h;obtain⟨rfl,rfl⟩:=h;simp only[ub,hg c aH,al4 h1 λid hi=>hb id<|by simp[hi],ih h2 (λx hx=>hg x<|by simp[hx]) λid hi=>hb id<|by simp[hi]]
  .cases h
def ajD{p:PV}{e:E}{is:List Nat}(h:p.ext σ=some (e,is))(hb:∀ id,id ∈ is->σ.bo id=τ.bo id):p.vi τ=p.vi σ:=by
 cases p with
 |own id=>
  have hid:σ.bo id=τ.bo id:=by
   simp only[PV.ext]at h;split at h
   .simp only[bu,bK]at h;obtain⟨_,rfl⟩:=h;exact hb id aH 
   .simp only[bu,bK]at h;obtain⟨_,rfl⟩:=h;exact hb id aH 
   .cases h
  simp only[PV.vi,hid]
 |_=>rfl
def Ka{l:List Operand}{es:List E}{is:List Nat}(h:ub σ l=some (es,is))(hg:∀ x,x ∈ l->τ.op x=σ.op x)(hb:∀ id,id ∈ is->σ.bo id=τ.bo id):(l.map τ.op).any (PV.vi τ)=(l.map σ.op).any (PV.vi σ):=by
 induction l generalizing es is with
 |nil=>rfl
 |cons c l ih=>
  simp only[ub]at h;split at h
  .rename_i x i xs js h1 h2;simp only[bu,bK]at h;obtain⟨rfl,rfl⟩:=h;simp only[eI,dP,hg c aH,ajD h1 λid hi=>hb id<|by simp[hi],ih h2 (λx hx=>hg x<|by simp[hx]) λid hi=>hb id<|by simp[hi]]
  .cases h
def Vy{place:Nat->Option (Nat×Nat)}{ps:List<|Nat×Operand}(hg:∀ x,x ∈ ps.map (·.2)->τ.op x=σ.op x):∀ l,sQ τ place l ps=sQ σ place l ps:=by
 induction ps with
 |nil=>intro l;rfl
 |cons p ps ih=>
  intro l;obtain⟨i,x⟩:=p;simp only[sQ,hg x aH,ih λx hx=>hg x<|by simp only[eI,cP];exact .inr hx]
def Qz{d:Option Tmp}{b:Bx}{rr:Nat->PV}{jz:List Prop}(h:Bl σ d b rr jz=some u)(jI:σ.nl=τ.nl)(hn:∀ id b,u.f = .new id b->τ.bo id=none):Bl τ d b rr jz=some u:=by
 obtain⟨id,rfl,kj,hc,rfl⟩:=I0 h;rw[jI]at hc;simp only[Bl,hn id b rfl,hc,bA]
def QN{d:Nat}{b:Bx}(h:σ.bo d=τ.bo d):sZ τ d b=sZ σ d b:=by unfold sZ;rw[h]
def QO{d:Nat}{is:List Nat}(h:σ.bo d=τ.bo d):yJ τ d is=yJ σ d is:=by unfold yJ;rw[h]
def QP{d:Nat}{b:Bx}{is:List Nat}{u:ko}(hf:u.f=sZ σ d b)(hr:u.rb=yJ σ d is)(hb:∀ id,id ∈ u.rb->σ.bo id=τ.bo id)(hn:∀ id b,u.f = .new id b->τ.bo id=none):σ.bo d=τ.bo d:=by
 cases iV:σ.bo d with
 |none=>exact(hn d b<|by rw[hf,sZ,iV]).symm
 |some x=>rw[<-iV];exact hb d<|by rw[hr,yJ,iV];simp
def YJ{d:Option Tmp}{b:Bx}{rr:Nat->PV}(h:CA σ d b rr=some u)(hb:∀ id,id ∈ u.rb->σ.bo id=τ.bo id)(jI:σ.nl=τ.nl)(hn:∀ id b,u.f = .new id b->τ.bo id=none):CA τ d b rr=some u:=by
 obtain⟨id,rfl,hc,rfl⟩:=LR h;have e:σ.bo id=τ.bo id:=QP (b:=b) (is:=[]) rfl rfl hb hn;rw[jI]at hc;simp only[CA,hc,bA,QN e,QO e]
section
variable{d:Option Tmp}{t:TypeId}
def Vi{s x:PV}{u:ko}(h:B3 T σ d t s x=some u)(hb:∀ id,id ∈ u.rb->σ.bo id=τ.bo id)(jI:σ.nl=τ.nl)(hn:∀ id b,u.f = .new id b->τ.bo id=none):B3 T τ d t s x=some u:=by
 simp only[B3]at h ⊢;split at h
 .split at h
  .split at h
   .split at h
    .split at h
     .split at h
      .rename_i hc;simp only[hc,bA];split at h
       .rename_i id;split at h
        .rename_i iV;split at h
         .rename_i nX;cases h;simp only[<-hb id aH,<-jI,iV,nX,bA]
         .cases h
        .cases h
       .rename_i id k;split at h
        .rename_i iV;split at h
         .rename_i nX;cases h;simp only[<-hb id aH,iV,nX,bA]
         .cases h
        .cases h
       .exact Qz h jI hn
       .cases h
      .cases h
     .cases h
    .cases h
   .cases h
  .cases h
 .cases h
def agw{s x:PV}{u:ko}(h:De T σ d t s x=some u)(hb:∀ id,id ∈ u.rb->σ.bo id=τ.bo id)(jI:σ.nl=τ.nl):De T τ d t s x=some u:=by
 unfold De at h ⊢;split at h
 .rename_i u0 h0;split at h
  .rename_i id nl T1 n sz el id' hf hr;split at h
   .rename_i hid;cases h;have:=Vi (σ:={ σ with nl:=false }) (τ:={ τ with nl:=false }) h0 hb rfl λi b e=>by rw[hf]at e;cases e
    rw[this];simp only[hf,hr,hid,bA]
   .cases h
  .cases h
 .cases h
def agE{n q:Nat}{u:ko}(h:Dh T σ d t n q=some u)(hb:∀ id,id ∈ u.rb->σ.bo id=τ.bo id):Dh T τ d t n q=some u:=by
 unfold Dh at h ⊢;split at h
 .rename_i id;have h0:=h;split at h
  .rename_i h1 h2 h3;split at h
   .rename_i hc;cases h;simp only[<-hb id aH,<-hb q aH];exact h0
   .cases h
  .cases h
 .cases h
def agA{s:PV}{q:Nat}{u:ko}(h:Df T σ d t s q=some u)(hb:∀ id,id ∈ u.rb->σ.bo id=τ.bo id):Df T τ d t s q=some u:=by
 unfold Df at h ⊢;have h0:=h;split at h
 .rename_i h1 h2;split at h
  .rename_i id;split at h
   .rename_i h3;split at h
    .rename_i hc;cases h;simp only[<-hb id aH,<-hb q aH];exact h0
    .cases h
   .cases h
  .rename_i id;split at h
   .rename_i h3;split at h
    .rename_i hc;cases h;simp only[<-hb id aH,<-hb q aH];exact h0
    .cases h
   .cases h
  .cases h
 .cases h
end
def al0{ps:List<|Nat×Operand}(hg:∀ x,x ∈ ps.map (·.2)->τ.op x=σ.op x):CG τ ps=CG σ ps:=by
 unfold CG;split
 .rw [hg _ aH]
 .rfl
def agB{t:TypeId}{id:Nat}{lo hi:Option PV}(h:Dg T σ t id lo hi=some u)(hb:∀ id,id ∈ u.rb->σ.bo id=τ.bo id):Dg T τ t id lo hi=some u:=by
 unfold Dg at h ⊢;split at h
 .split at h
  .split at h
   .split at h
    .rename_i iV;split at h
     .split at h
      .rename_i hc;cases h;simp only[<-hb id aH,iV,hc,bA]
      .cases h
     .cases h
    .cases h
   .cases h
  .cases h
 .cases h
def agy{fv:PV}{xs:List Operand}{l':List E}{jA:E}(h:B5 P K σ fv xs l' jA=some u)(ha:∀ x,x ∈ xs->τ.op x=σ.op x)(hb:∀ id,id ∈ u.rb->σ.bo id=τ.bo id)(jI:σ.nl=τ.nl):B5 P K τ fv xs l' jA=some u:=by
 unfold B5 at h ⊢;split at h
 .rename_i g x xs;have hx:=ha x aH;rw[hx];split at h
  .rename_i id ni;split at h
   .rename_i T l es is iV uw;split at h
    .rename_i hc;cases h;have xd:∀ y,y ∈ xs->τ.op y=σ.op y:=λy hy=>ha y (by simp[hy])
     have e1:=Kb uw xd λi hi=>hb i<|by simp[hi]
     have e2:=Ka uw xd λi hi=>hb i<|by simp[hi]
     simp only[<-hb id aH,iV,e1,e2,<-jI,hc,bA]
    .cases h
   .rename_i T b l es is iV uw;split at h
    .rename_i hc;cases h;have xd:∀ y,y ∈ xs->τ.op y=σ.op y:=λy hy=>ha y (by simp[hy])
     have e1:=Kb uw xd λi hi=>hb i<|by simp[hi]
     have e2:=Ka uw xd λi hi=>hb i<|by simp[hi]
     simp only[<-hb id aH,iV,e1,e2,<-jI,hc,bA]
    .cases h
   .cases h
  .cases h
 .cases h
def agF(h:jG P K T O σ o=some u)(hg:∀ x,x ∈ o.op.operands->τ.op x=σ.op x)(hb:∀ id,id ∈ u.rb->σ.bo id=τ.bo id)(jI:σ.nl=τ.nl)(hn:∀ id b,u.f = .new id b->τ.bo id=none):
 jG P K T O τ o=some u:=by
 cases iC:o.op with
 |move x=>rw[iC]at hg;simp only[jG,iC]at h ⊢;rw[hg x aP];exact h
 |assign x=>rw[iC]at hg;simp only[jG,iC]at h ⊢;rw[hg x aP];exact h
 |pick c x y=>rw[iC]at hg;simp only[jG,iC]at h ⊢;rw[hg c aP,hg x aP,hg y aP];exact h
 |nilCheck x=>rw[iC]at hg;simp only[jG,iC]at h ⊢;rw[hg x aP];exact h
 |binOp op t x y yt=>rw[iC]at hg;simp only[jG,iC]at h ⊢;rw[hg x aP,hg y aP];exact h
 |unOp op t x=>rw[iC]at hg;simp only[jG,iC]at h ⊢;rw[hg x aP];exact h
 |convert s d x=>rw[iC]at hg;simp only[jG,iC]at h ⊢;rw[hg x aP];exact h
 |index t x i=>rw[iC]at hg;simp only[jG,iC]at h ⊢;rw[hg x aP,hg i aP];exact h
 |extract x i=>rw[iC]at hg;simp only[jG,iC]at h ⊢;rw[hg x aP];exact h
 |fieldAddr t x f=>rw[iC]at hg;simp only[jG,iC]at h ⊢;rw[hg x aP];exact h
 |field t x f=>rw[iC]at hg;simp only[jG,iC]at h ⊢;rw[hg x aP];exact h
 |lookup t x i ok=>
  rw[iC]at hg;cases ok with
  |true=>simp[jG,iC]at h
  |false=>simp only[jG,iC]at h ⊢;rw[hg x aP,hg i aP];exact h
 |makeFunc fn first cap=>
  rw[iC]at hg;cases fn with
  |func f=>
   simp only[jG,iC]at h ⊢;have:cap.toList.map τ.op=cap.toList.map σ.op:=ef λx hx=>hg x<|by simp only[Op.operands,fK];exact .inr<|by simpa using hx
   rw[this];exact h
  |_=>simp[jG,iC]at h
 |slice t x lo hi mx=>
  rw[iC]at hg;cases mx with
  |some=>simp[jG,iC]at h
  |none=>
   simp only[jG,iC]at h ⊢;have e1:lo.map τ.op=lo.map σ.op:=by cases lo with
    |none=>rfl
    |some y=>simp only[cg];rw[hg y aP]
   have e2:hi.map τ.op=hi.map σ.op:=by cases hi with
    |none=>rfl
    |some y=>simp only[cg];rw[hg y aP]
   rw[hg x aP,e1,e2];split at h
   .exact agB h hb
   .exact h
 |alloc t=>
  simp only[jG,iC]at h ⊢;split at h
  .split at h
   .exact YJ h hb jI hn
   .cases h
  .cases h
 |box t x=>
  rw[iC]at hg;simp only[jG,iC]at h ⊢;rw[hg x aP];split at h
  .split at h
   .exact YJ h hb jI hn
   .cases h
  .cases h
 |build t ps=>
  rw[iC]at hg;simp only[jG,iC]at h ⊢;have hf:∀ place l,sQ τ place l ps.toList=sQ σ place l ps.toList:=λplace=>Vy λx hx=>hg x<|by simpa[Op.operands]using hx
  simp only[hf];exact h
 |buildSlice t n ps=>
  rw[iC]at hg;simp only[jG,iC]at h ⊢;have hf:∀ place l,sQ τ place l ps.toList=sQ σ place l ps.toList:=λplace=>Vy λx hx=>hg x<|by simpa[Op.operands]using hx
  have ho:CG τ ps.toList=CG σ ps.toList:=al0 λx hx=>hg x<|by simpa[Op.operands]using hx
  simp only[hf,ho];split at h
  .exact agE h hb
  split at h
  .split at h
   .split at h
    .split at h
     .split at h
      .rename_i hif;rw[aY hif];obtain⟨l,hl,h⟩:=gV.1 h;refine gV.2 ⟨l,hl,?_⟩;split at h
       .cases h
       .rename_i h1;rw[aX h1];split at h
        .rename_i h2;rw[aY h2];exact Qz h jI hn
        .rename_i h2;rw[aX h2];exact h
      .cases h
     .cases h
    .cases h
   .cases h
  .cases h
 |load t x=>
  rw[iC]at hg;simp only[jG,iC,KL]at h ⊢;rw[hg x aP];split at h
  .rename_i ti nE;split at h
   .rename_i id q pS;have hid:σ.bo id=τ.bo id:=by
     split at h
     .cases h
     .cases h;exact hb id aH 
    have Po:Dl τ (σ.op x)=some (id,q):=by
     cases hp:σ.op x with
     |box id' off=>
      rw[hp]at pS;have h0:=pS;simp only[Dl]at pS;split at pS
      .obtain ⟨q',hq,pS⟩:=bU.1 pS;simp only[bK]at pS;obtain⟨rfl,rfl⟩:=pS;simp only[Dl,<-hid];exact h0
      .cases pS
     |_=>rw[hp]at pS;cases pS
    simp only[Po];exact h
   rename_i pS;have Po:Dl τ (σ.op x)=none:=by
    cases hp:σ.op x with
    |box id off=>
     have hid:id ∈ u.rb:=by
      rw[hp]at h;have h':Cv ti (σ.read (.box id off) ti.i.size)=some u:=h;cases hr:σ.read (.box id off) ti.i.size with
      |none=>rw[hr]at h';cases h'
      |some y=>
       obtain⟨l,is,jz⟩:=y;rw[hr]at h';rw[aku h',amF hr];simp
     rw[hp]at pS;simp only[Dl,<-hb id hid];exact pS
    |_=>rfl
   simp only[Po];unfold KM at h ⊢;split at h
   .rename_i id i n qD;have ai9:Ei τ (σ.op x)=some (id,i,n):=by
     have hid:σ.bo id=τ.bo id:=by
      split at h
      .cases h
      .cases h;exact hb id aH 
     cases hp:σ.op x with
     |oc id' sz i' j=>
      rw[hp]at qD;have h0:=qD;simp only[Ei]at qD;split at qD
      .split at qD
       .simp only[bu,bK]at qD;obtain⟨rfl,_,_⟩:=qD;simp only[Ei,<-hid];exact h0
       .cases qD
      .cases qD
     |_=>rw[hp]at qD;cases qD
    simp only[ai9];exact h
   .rename_i qD;have key:∀ is,(∃ l jz,σ.read (σ.op x) ti.i.size=some (l,is,jz))->(∀ id,id ∈ is->σ.bo id=τ.bo id)->Ei τ (σ.op x)=none:=by
     rintro is ⟨l,jz,hr⟩ oY;cases hp:σ.op x with
     |oc id sz i j=>
      rw[hp]at hr qD;simp only[PS.read]at hr;split at hr
      .rename_i iV;split at hr
       .simp only[bu,bK]at hr;obtain⟨_,rfl,_⟩:=hr;simp only[Ei,<-oY id aH,iV]
       .cases hr
      .cases hr
     |_=>rfl
    cases hr:σ.read (σ.op x) ti.i.size with
    |none=>rw[hr]at h;cases h
    |some y=>
     obtain⟨l,is,jz⟩:=y;have A6:u.rb=is:=by
      rw[hr]at h;simp only[Cv]at h;split at h
      .cases h;rfl
      .split at h
       .cases h;rfl
       .cases h
     have oY:∀ id,id ∈ is->σ.bo id=τ.bo id:=λid hi=>hb id<|by rw[A6];exact hi
     rw[key is ⟨l,jz,hr⟩ oY];simp only;rw[amG hr oY];rw[hr]at h;exact h
  .cases h
 |store t x y=>
  rw[iC]at hg;simp only[jG,iC,KP]at h ⊢;rw[hg x aP,hg y aP];split at h
  .split at h
   .rename_i id off e _ _;split at h
    .rename_i iV hm;split at h
     .rename_i hc;cases h;rw[jI]at hc;simp only[<-hb id aH,iV,hm,hc,bA]
     .cases h
    .rename_i iV hm;split at h
     .rename_i hc;cases h;simp only[<-hb id aH,iV,hm,hc,bA]
     .cases h
    .rename_i iV hm;split at h
     .rename_i hc;cases h;rw[jI]at hc;simp only[<-hb id aH,iV,hm,hc,bA]
     .cases h
    .cases h
   .rename_i id off q _ _;have e:=agD h;rw[<-hb id (by rw[e];simp),<-hb q (by rw[e];simp)];exact h
   .rename_i id sz i j e _ _;split at h
    .rename_i iV hm;split at h
     .rename_i hc;cases h;simp only[<-hb id aH,iV,hm,hc,bA]
     .cases h
    .cases h
   .rename_i id i id' k _ _;split at h
    .rename_i iV;split at h
     .rename_i hc;cases h;simp only[<-hb id aH,iV,hc,bA]
     .cases h
    .rename_i iV;split at h
     .rename_i hc;cases h;simp only[<-hb id aH,iV,hc,bA]
     .cases h
    .rename_i iV;split at h
     .rename_i hc;cases h;simp only[<-hb id aH,iV,hc,bA]
     .cases h
    .cases h
   .rename_i id sz i j k e _ _;split at h
    .rename_i iV hm;split at h
     .rename_i hc;cases h;simp only[<-hb id aH,iV,hm,hc,bA]
     .cases h
    .cases h
   .cases h
  .cases h
 |makeSlice t l c=>
  rw[iC]at hg;simp only[jG,iC,KN]at h ⊢;rw[hg l aP,hg c aP];split at h
  .exact Qz h jI hn
  .cases h
 |indexAddr t x i=>
  rw[iC]at hg;simp only[jG,iC,KK]at h ⊢;rw[hg x aP,hg i aP];split at h
  .split at h
   .split at h
    .split at h
     .split at h
      .exact h
      .exact h
      .rename_i id _;split at h
       .rename_i iV;split at h
        .rename_i hc;cases h;simp only[<-hb id aH,iV,hc,bA]
        .cases h
       .rename_i iV;split at h
        .rename_i hc;cases h;simp only[<-hb id aH,iV,hc,bA]
        .cases h
       .rename_i iV;split at h
        .rename_i hc;cases h;simp only[<-hb id aH,iV,hc,bA]
        .cases h
       .cases h
      .rename_i id _ _;split at h
       .rename_i iV;split at h
        .rename_i hc;cases h;simp only[<-hb id aH,iV,hc,bA]
        .cases h
       .cases h
      .cases h
     .cases h
    .exact h
    .cases h
   .cases h
  .cases h
 |call c=>
  rw[iC]at hg;obtain⟨callee,args,ats⟩:=c;have ha:∀ x,x ∈ args.toList->τ.op x=σ.op x:=λx hx=>hg x<|by simp only[Op.operands,Call.operands,fK];exact .inr<|by simpa using hx
  have WW:args.toList.map τ.op=args.toList.map σ.op:=ef ha;cases callee with
  |builtin b=>
   simp only[jG,iC]at h ⊢;cases b
   case len=>
    dsimp only at h ⊢;split at h
    .rename_i x t hx ht;split at h
     .obtain ⟨rr,hr,rfl⟩:=bU.1 h;rw[ha x<|by rw[hx];simp];have:tu (σ.op x) τ=some rr:=by
       cases hp:σ.op x with
       |own id=>
        rw[hp]at hr;have h0:=hr;simp only[tu]at hr;split at hr
        .simp only[bu]at hr;subst hr;simp only[tu,<-hb id aH];exact h0
        .simp only[bu]at hr;subst hr;simp only[tu,<-hb id aH];exact h0
        .cases hr
       |iG id k=>
        rw[hp]at hr;have h0:=hr;simp only[tu]at hr;split at hr
        .split at hr
         .simp only[bu]at hr;subst hr;simp only[tu,<-hb id aH];exact h0
         .cases hr
        .cases hr
       |e y=>
        rw[hp]at hr;cases y with
        |v z=>cases z<;>exact hr
        |_=>exact hr
       |_=>rw[hp]at hr;exact hr
      rw[this];rfl
     .cases h
    .cases h
   case append=>
    dsimp only at h ⊢;split at h
    .rename_i s x t t' hx ht;split at h
     .rename_i qE;simp only[qE,bA];rw[ha x<|by rw[hx];simp,ha s<|by rw[hx];simp];have nN:Ke O o.dst=Ke O o.dst:=rfl;split at h
      .exact agA h hb
      split at h
      .rename_i O9;simp only[O9,bA];exact agw h hb jI
      .rename_i O9;simp only[O9,bh,bC];exact Vi h hb jI hn
     .cases h
    .cases h
   case max=>dsimp only at h ⊢;rw[WW];exact h
   case min=>dsimp only at h ⊢;rw[WW];exact h
   all_goals cases h
  |value f=>
   have hf:τ.op f=σ.op f:=hg f (by simp[Op.operands,Call.operands]);simp only[jG,iC]at h ⊢;rw[hf];have ec:∀ {gf:FuncId} {zs:List E} {is:List Nat} {ow:Bool},B4 P K O σ o.dst gf zs is ow=some u->(∀ id,id ∈ is->id ∈ u.rb)/\B4 P K O τ o.dst gf zs is ow=some u:=by
    intro gf zs is ow hh;simp only[B4]at hh ⊢;rw[jI]at hh;split at hh
    .rename_i jA A7;refine⟨?_,hh⟩;split at hh
     .cases hh;exact λ_ h=>h
     .split at hh
      .cases hh;exact λ_ h=>h
      .split at hh
       .cases hh;exact λ_ h=>h
       .cases hh
    .split at hh
     .rename_i d hd;split at hh
      .rename_i nl T n sz el h1;split at hh
       .rename_i hc;cases hh;have e:=QP (σ:=σ) (τ:=τ) (b:=.row nl T n sz el) (is:=is) rfl rfl hb hn;refine⟨λid hid=>?_,?_⟩
        .unfold yJ;split
         .exact hid
         .simp [hid]
        .simp only[hc,bA,QN e,QO e]
       .cases hh
      .rename_i nl T1 T0 n sz len el h1;split at hh
       .rename_i hc;cases hh;have e:=QP (σ:=σ) (τ:=τ) (b:=.iT nl T1 T0 n sz len el none) (is:=is) rfl rfl hb hn;refine⟨λid hid=>?_,?_⟩
        .unfold yJ;split
         .exact hid
         .simp [hid]
        .simp only[hc,bA,QN e,QO e]
       .cases hh
      .cases hh
     .cases hh
   split at h
   .exact agy h ha hb jI
   split at h
   .rename_i gf cap xs is A0 qc;obtain⟨e1,e2⟩:=ec h;rw[Ka qc ha λid hi=>hb id<|e1 id hi,Kb qc ha λid hi=>hb id<|e1 id hi,A0];exact e2
   .rename_i gf cap xs is A0 qc;split at h
    .rename_i ys js DR;obtain⟨e1,e2⟩:=ec h;rw[Ka qc ha λid hi=>hb id<|e1 id<|by simp[hi],Kb qc ha λid hi=>hb id<|e1 id<|by simp[hi],A0];simp only;rw[Vo DR λid hi=>hb id<|e1 id<|by simp[hi]];exact e2
    .cases h
   .cases h
  |invoke _ _=>simp[jG,iC]at h
 |_=>simp[jG,iC]at h
end
def akS{l:List Operand}{t:Tmp}(h:Operand.tmp t ∈ l):t ∈ Gl l:=by
 induction l with
 |nil=>simp at h
 |cons x l ih=>
  rcases cP.1 h with h|h
  .subst h;simp[Gl]
  .have:=ih h;cases x<;>simp[Gl,this]
def aiD{l:List Nat}{n:Nat}:Pc l n=true↔n ∈ l:=by
 unfold Pc;rw[dc];constructor
 .rintro ⟨x,hx,hb⟩;have:=ku.1 hb;subst this;exact hx
 .intro h;exact⟨n,h,cw n⟩
def FT{l:List Nat}{d:Option Nat}(h:yK l d=true){x:Nat}(hx:d=some x):x ∉ l:=by
 subst hx;simp only[yK,di]at h;intro hm;rw[aiD.2 hm]at h;cases h
def Gp{a b:Option Nat}(h:MS a b=true){x y:Nat}(hx:a=some x)(hy:b=some y):x≠y:=by
 subst hx hy;simp only[MS,di]at h;intro e;rw[ku.2 e]at h;cases h
def Gv{f:mj}(hf:f.yD=false)(p:PV):p.kP f=if Bj f p then p else .e .any:=by
 cases f<;>first|(cases hf;done)|skip
 all_goals (cases p<;>simp only[PV.kP,Bj,bA])
 all_goals (split<;>rename_i h<;>simp[h])
def Qi{f:mj}(hf:f.yD=false){p:PV}(h:Bj f p=true):p.kP f=p:=by rw[Gv hf,aY h]
def aj1(f:mj):Bj f (.e .any)=true:=by cases f<;>rfl
def apD(p:PV){f g:mj}(hf:f.yD=false)(hg:g.yD=false):(p.kP f).kP g=(p.kP g).kP f:=by
 rw[Gv hf p,Gv hg p];cases h1:Bj f p<;>cases h2:Bj g p<;>simp only[bA,bC,bh,Gv hf,Gv hg,aj1,h1,h2]
structure sM(σ τ:PS):Prop where
 n:σ.n=τ.n
 nl:σ.nl=τ.nl
 get:∀ t,σ.get t=τ.get t
 bo:∀ id,σ.bo id=τ.bo id
def sM.refl(σ:PS):sM σ σ:=⟨rfl,rfl,λ_=>rfl,λ_=>rfl⟩
def sM.symm{σ τ:PS}(h:sM σ τ):sM τ σ:=⟨h.n.symm,h.nl.symm,λt=>(h.get t).symm,λi=>(h.bo i).symm⟩
def sM.trans{σ τ υ:PS}(h:sM σ τ)(k:sM τ υ):sM σ υ:=⟨h.n.trans k.n,h.nl.trans k.nl,λt=>(h.get t).trans<|k.get t,λi=>(h.bo i).trans<|k.bo i⟩
def jd.qW{w0:mA}{B:Nat->Prop}{σ τ:PS}{a:Act}{w:World}{L:Lk}(r:jd w0 B σ a w L)(h:sM σ τ):jd w0 B τ a w L:=
 ⟨r.hd,r.hs.trans h.n,λt=>by rw[<-h.get];exact r.ht t,λid b hb=>r.hb id b<|by rw[h.bo];exact hb,λid=>by rw[<-h.bo];exact r.hv id,r.hn,r.hw,r.hi,r.he,λhn id b hb=>r.hl (by rw[h.nl];exact hn) id b<|by rw[h.bo];exact hb⟩
def BS(σ:PS)(f:mj)(id:Nat):(σ.nT f).bo id=match f with
 | .none=>σ.bo id
 | .new i b | .oR i b | .oX i b | .sw i b | .xJ i b=>if i=id then some b else(σ.bo id).map (Bx.q9<|PV.kP f)
 | .fin i=>if i=id then none else(σ.bo id).map (Bx.q9<|PV.kP f)
 | .oM i r b=>if i=id then some b else if r=id then none else(σ.bo id).map (Bx.q9<|PV.kP f):=by
 have key:=PS.BT σ f id;cases f with
 |none=>rfl
 |fin i=>
  show look ((σ.pre<|.fin i).filter λx=>!Nat.beq x.1 i) id=_;rw[D1,key]
 |oM i r b=>
  show look (uS ((σ.pre<|.oM i r b).filter λx=>!Nat.beq x.1 r) i b) id=_;rw[D2,D1,key]
 |_=>exact(D2 _ _ _ _).trans<|by rw[key]
def apC{f:mj}{p:PV}(hv:f.wM=true)(h:(p.kN.any λr=>f.Be.any λi=>Nat.beq i r)=false):p.kP f=p:=by
 cases f with
 |none=>cases hv
 |new=>cases hv
 |oR=>cases hv
 |oX i b=>exact ab0<|by simpa[mj.Be]using h
 |sw i b=>
  have h':p.kN.any (Nat.beq i)=false:=by simpa[mj.Be]using h
  cases p with
  |iG j k=>
   have:Nat.beq j i=false:=by
    simp only[PV.kN,dP,fc,eO]at h';exact cM λe=>by rw[e,cw]at h';cases h'
   simp[PV.kP,this]
  |qS j s k x y=>
   have:Nat.beq j i=false:=by
    simp only[PV.kN,dP,fc,eO]at h';exact cM λe=>by rw[e,cw]at h';cases h'
   simp[PV.kP,this]
  |_=>rfl
 |fin i=>
  have h':p.kN.any (Nat.beq i)=false:=by simpa[mj.Be]using h
  cases p<;>(simp only[PV.kP];rw[h'];rfl)
 |xJ i b=>
  have h':p.kN.any (Nat.beq i)=false:=by simpa[mj.Be]using h
  cases p<;>(simp only[PV.kP];rw[h'];rfl)
 |oM i r b=>exact St<|by simpa[mj.Be]using h
def aiV{f:mj}{b:Bx}(h:b.pr f=false):b.q9 (PV.kP f)=b:=by
 refine Yz λp hp=>?_
 by_cases hv:f.wM=true
 .refine apC hv ?_;unfold Bx.pr at h;rw[hv,eR]at h;rw[cF]at h ⊢;intro r hr;exact h r<|dG.2 ⟨p,hp,hr⟩
 .exact ab2 (by simpa using hv) p
def akz{α:Type}{l:List<|Nat×α}{t:Nat}{x:α}(h:look l t=some x):(t,x) ∈ l:=by
 induction l with
 |nil=>cases h
 |cons y l ih=>
  obtain⟨k,z⟩:=y;rw[tK]at h;split at h
  .rename_i e;cases h;subst e;exact .head _
  .exact .tail _<|ih h
def AV{σ:PS}{f:mj}:σ.pr f=false↔∀ id b,σ.bo id=some b->b.pr f=false:=by
 unfold PS.pr;by_cases hv:f.wM=true
 .rw [hv,eR];constructor
  .intro h id b hb;have:=cF.1 h (id,b)<|akz hb;simpa[hb]using this
  .intro h;rw[cF];intro x hx;split
   .rename_i b hb;rw[h _ _ hb];simp
   .simp
 .have Xo:f.wM=false:=by simpa using hv
  rw[Xo,Bool.false_and];exact⟨λ_ id b _=>by unfold Bx.pr;rw[Xo];rfl,λ_=>rfl⟩
def aiU{σ τ:PS}(h:∀ id,σ.bo id=τ.bo id)(f:mj):τ.pr f=σ.pr f:=by
 cases h1:σ.pr f with
 |false=>exact AV.2 λid b hb=>AV.1 h1 id b<|by rw[h];exact hb
 |true=>
  cases h2:τ.pr f with
  |true=>rfl
  |false=>rw[AV.2 λid b hb=>AV.1 h2 id b<|by rw[<-h];exact hb]at h1;cases h1
section
variable(σ:PS)(d:Option Tmp)(u:ko)
def Hr(t:Nat):(σ.app d u).get t=if d=some t then u.r else(σ.get t).kP u.f:=by
 unfold PS.app;cases d with
 |none=>
  rw[aX aH];exact PS.Dm σ u.f t
 |some d=>
  rw[PS.OM,PS.Dm];simp only[bu]
def BR(id:Nat):(σ.app d u).bo id=(σ.nT u.f).bo id:=PS.adZ _ _ _ _
def I5:(σ.app d u).n=σ.n:=by unfold PS.app;rw[PS.QE];rfl
def I9:(σ.app d u).nl=σ.nl:=by unfold PS.app;rw[PS.alp];rfl
def wQ(id:Nat)(hm:u.f.yD=false)(hh:σ.pr u.f=false)(h:u.f.id≠some id):(σ.app d u).bo id=σ.bo id:=by
 have e:(σ.bo id).map (Bx.q9<|PV.kP u.f)=σ.bo id:=by
  cases hb:σ.bo id with
  |none=>rfl
  |some b=>simp only[cg];rw[aiV<|AV.1 hh id b hb]
 rw[BR,BS];cases hf:u.f<;>rw[hf]at h hm e<;>simp only[mj.id,cQ,bu]at h<;>first|rfl|exact(aX h).trans e|cases hm
end
def Q5{σ τ:PS}{f:mj}(h:∀ id,f.id=some id->σ.bo id=τ.bo id):τ.yL f=σ.yL f:=by
 unfold PS.yL;split
 .rename_i i hi;rw[h i hi]
 .rfl
section
variable {P:Program} {K:World->Prop} {T:List TI} {O:qw} {ij:Array Oper} {σ τ:PS} {o:Oper} {u:ko}
def agH(h:jG P K T O σ o=some u){x:Operand}(hx:x ∈ o.op.operands):x ∈ Jh o.op:=by
 obtain⟨dst,op,ty,pos,after,guard⟩:=o;simp only at hx ⊢;cases op<;>first
  | (simp only[jG]at h;cases h;done)
  | (exfalso;simp[Op.operands]at hx;done)
  | (simpa[Op.operands,Jh]using hx)
  | (simpa[Op.operands,Jh,or_assoc]using hx)
  |skip
 case call c=>
  obtain⟨callee,args,ats⟩:=c;cases callee<;>simpa[Op.operands,Jh,Call.operands]using hx
def QA{d:Option Tmp}{b:Bx}{rr:Nat->PV}{jz:List Prop}(h:Bl σ d b rr jz=some u){id:Nat}{b':Bx}(hf:u.f = .new id b'):σ.bo id=none:=by
 obtain⟨i,_,kj,_,rfl⟩:=I0 h;cases hf;exact kj
def Zk{d:Nat}{b:Bx}{id:Nat}{b':Bx}(hf:sZ σ d b = .new id b'):σ.bo id=none:=by
 unfold sZ at hf;split at hf
 .rename_i h;cases hf;exact h
 .cases hf
def YK{d:Option Tmp}{b:Bx}{rr:Nat->PV}(h:CA σ d b rr=some u){id:Nat}{b':Bx}(hf:u.f = .new id b'):σ.bo id=none:=by
 obtain⟨i,_,_,rfl⟩:=LR h;exact Zk hf
def agC{ti:TI}{bi bq:Option Bx}{i off q:Nat}(h:E9 ti bi bq i off q=some u)(id:Nat)(b:Bx):u.f ≠ .new id b:=by
 intro hf;unfold E9 at h;split at h
 .rename_i hM;cases h;unfold KR at hM;split at hM
  .split at hM
   .cases hM;cases hf
   .cases hM
  .cases hM
 .unfold KQ at h;split at h
  .split at h
   .cases h;cases hf
   .cases h
  .cases h
def agz{fv:PV}{xs:List Operand}{l':List E}{jA:E}(h:B5 P K σ fv xs l' jA=some u):∃ id b,u.f = .oR id b:=by
 unfold B5 at h;split at h
 .split at h
  .split at h
   .split at h
    .cases h;exact⟨_,_,rfl⟩
    .cases h
   .split at h
    .cases h;exact⟨_,_,rfl⟩
    .cases h
   .cases h
  .cases h
 .cases h
def agG(h:jG P K T O σ o=some u){id:Nat}{b:Bx}(hf:u.f = .new id b):σ.bo id=none:=by
 cases iC:o.op
 case alloc=>
  simp only[jG,iC]at h;split at h
  .split at h
   .exact YK h hf
   .cases h
  .cases h
 case box=>
  simp only[jG,iC]at h;split at h
  .split at h
   .exact YK h hf
   .cases h
  .cases h
 case makeSlice=>
  simp only[jG,iC,KN]at h;split at h
  .exact QA h hf
  .cases h
 case makeFunc fn first cap=>
  cases fn with
  |func f=>
   simp only[jG,iC]at h
   repeat' split at h
   all_goals first
    | (cases h;done)
    | (cases h;cases hf;done)
  |_=>simp[jG,iC]at h
 case lookup t x i ok=>
  cases ok with
  |true=>simp[jG,iC]at h
  |false=>
   simp only[jG,iC]at h
   repeat' split at h
   all_goals first
    | (cases h;done)
    | (cases h;cases hf;done)
 case slice t x lo hi mx=>
  cases mx with
  |none=>
   simp only[jG,iC,KO,Dg]at h
   repeat' split at h
   all_goals first
    | (cases h;done)
    | (cases h;cases hf;done)
  |some=>simp[jG,iC]at h
 case call c=>
  obtain⟨callee,args,ats⟩:=c;cases callee with
  |builtin b=>
   simp only[jG,iC]at h;cases b
   case append=>
    dsimp only at h;split at h
    .split at h
     .split at h
      .unfold Df at h
       repeat' split at h
       all_goals first
        | (cases h;done)
        | (cases h;cases hf;done)
      split at h
      .unfold De at h;split at h
       .split at h
        .split at h
         .cases h;cases hf
         .cases h
        .cases h
       .cases h
      .simp only[B3]at h
       repeat' split at h
       all_goals first
        | (cases h;done)
        |exact QA h hf
        | (cases h;cases hf;done)
     .cases h
    .cases h
   all_goals
    dsimp only at h
    repeat' split at h
    all_goals first
     | (cases h;done)
     | (cases h;cases hf;done)
     | (obtain⟨_,_,rfl⟩:=bU.1 h;cases hf)
  |value f=>
   simp only[jG,iC]at h;split at h
   .obtain ⟨_,_,e⟩:=agz h;rw[e]at hf;cases hf
   repeat' split at h
   all_goals first
    | (cases h;done)
    | (simp only[B4]at h;repeat' split at h)
   all_goals first
    | (cases h;done)
    | (cases h;cases hf;done)
    | (cases h;cases hf;assumption)
    | (cases h;exact Zk hf)
  |invoke _ _=>simp[jG,iC]at h
 all_goals
  simp only[jG,iC,KP,KK,KO,KL,KM,Cv,Dh]at h
  repeat' split at h
  all_goals first
   |exact absurd hf<|agC h _ _
   | (cases h;done)
   | (cases h;cases hf;done)
   | (obtain⟨_,_,rfl⟩:=bU.1 h;cases hf)
   |skip
 all_goals first
  | (obtain⟨_,_,h⟩:=gV.1 h;repeat' split at h)
  |skip
 all_goals first
  |exact QA h hf
  | (cases h;done)
  | (cases h;cases hf;done)
section
variable(h:vO P K T O σ o=some u)
def Ou:∃ u0,jG P K T O σ o=some u0/\u0.rb=u.rb/\u0.f=u.f:=by
 unfold vO at h;split at h
 .rename_i u0 h0;split at h
  .split at h
   .cases h;exact⟨u0,h0,rfl,rfl⟩
   .cases h;exact⟨_,h0,rfl,rfl⟩
  .cases h;exact⟨_,h0,rfl,rfl⟩
 .cases h
def agJ(hg:∀ x,x ∈ o.op.operands->τ.op x=σ.op x)(hb:∀ id,id ∈ u.rb->σ.bo id=τ.bo id)(jI:σ.nl=τ.nl)(hn:∀ id b,u.f = .new id b->τ.bo id=none):
 vO P K T O τ o=some u:=by
 obtain⟨u0,h0,e1,e2⟩:=Ou h;have:=agF (τ:=τ) h0 hg (by rw[e1];exact hb) jI (by rw[e2];exact hn);unfold vO at h ⊢;rw[h0]at h;rw[this];exact h
end
section
variable(h:rK P K T O ij σ o=some u)
def Fa:xt σ o.dst=true/\u.rd=(looks ij o).map σ.get/\((BG ij σ o=some true/\∃ u0,vO P K T O σ o=some u0/\u={ u0 with rd:=(looks ij o).map σ.get,hb:=σ.pr u0.f,ob:=σ.yL u0.f })\/(BG ij σ o=some false/\u={ r:=.e<|.v<|.tuple #[],rd:=(looks ij o).map σ.get })):=by
 unfold rK at h;split at h
 .rename_i hi;split at h
  .rename_i hw;split at h
   .rename_i u0 h0;cases h;exact⟨hi,rfl,.inl ⟨hw,u0,h0,rfl⟩⟩
   .cases h
  .rename_i hw;cases h;exact⟨hi,rfl,.inr ⟨hw,rfl⟩⟩
  .cases h
 .cases h
def Oq(hg:∀ t,t ∈ looks ij o->σ.get t=τ.get t)(hb:∀ id,id ∈ u.rb->σ.bo id=τ.bo id)(jI:σ.nl=τ.nl)(mP:σ.n=τ.n)(hn:∀ id b,u.f = .new id b->τ.bo id=none)(hh:τ.pr u.f=σ.pr u.f)(ho:τ.yL u.f=σ.yL u.f):
 rK P K T O ij τ o=some u:=by
 obtain⟨hi,_,hw⟩:=Fa h;have kS:xt τ o.dst=xt σ o.dst:=by cases o.dst<;>simp[xt,mP]
 have Xu:BG ij τ o=BG ij σ o:=by
  unfold BG;cases Dv:o.guard with
  |none=>rfl
  |some jw=>
   obtain⟨j,want⟩:=jw;cases hd:(ij[j]?).bind (·.dst)with
   |none=>simp[hd]
   |some t=>
    simp only[hd];rw[hg t<|by unfold looks;rw[Dv];simp[hd]]
 have PN:(looks ij o).map τ.get=(looks ij o).map σ.get:=ef λt ht=>(hg t ht).symm
 unfold rK;rw[kS,hi,Xu,PN];simp only[bA];rcases hw with⟨hw,u0,h0,rfl⟩|⟨hw,rfl⟩
 .rw [hw];have iC:∀ x,x ∈ o.op.operands->τ.op x=σ.op x:=by
   intro x hx;obtain⟨u1,h1,_,_⟩:=Ou h0;have hm:=agH h1 hx;refine alM λt ht=>hg t ?_
   subst ht;unfold looks;exact List.mem_append_left _<|akS hm
  simp only[agJ h0 iC hb jI hn];simp only at hh ho;rw[hh,ho]
 .rw [hw]
def Ot{id:Nat}{b:Bx}(hf:u.f = .new id b):σ.bo id=none:=by
 obtain⟨_,_,⟨_,u0,h0,rfl⟩|⟨_,rfl⟩⟩:=Fa h
 .obtain ⟨u1,h1,_,e2⟩:=Ou h0;exact agG h1<|by rw[e2];exact hf
 .cases hf
def agI(hs:sM σ τ):rK P K T O ij τ o=some u:=
 Oq h (λt _=>hs.get t) (λid _=>hs.bo id) hs.nl hs.n (λid b hf=>by rw[<-hs.bo];exact Ot h hf) (aiU hs.bo _) (Q5 λid _=>hs.bo id)
def Vk:u.hb=σ.pr u.f/\u.ob=σ.yL u.f:=by
 obtain⟨_,_,⟨_,u0,_,rfl⟩|⟨_,rfl⟩⟩:=Fa h
 .exact ⟨rfl,rfl⟩
 .exact ⟨rfl,rfl⟩
end
def acW(hs:sM σ τ)(d:Option Tmp)(u:ko):sM (σ.app d u)<|τ.app d u:=
 ⟨by rw[I5,I5];exact hs.n,by rw[I9,I9];exact hs.nl,λt=>by rw[Hr,Hr,hs.get],λid=>by rw[BR,BR,BS,BS,hs.bo]⟩
def ajj{f:mj}(hm:f.yD=false)(r:Nat):(f.Be.any λi=>Nat.beq i r)=true↔f.id=some r:=by
 cases f<;>first|(cases hm;done)|simp[mj.Be,mj.id,ku]
def WN{f:mj}(hm:f.yD=false){b:Bx}(h:∀ r,f.id=some r->r ∉ b.kN):b.pr f=false:=by
 unfold Bx.pr;rw[Bool.and_eq_false_iff];right;rw[cF];intro r hr hi;exact h r ((ajj hm r).1 hi) hr
def aiT{x y:mj}{σ:PS}{d:Option Tmp}{u:ko}(hu:u.f=x)(m1:x.yD=false)(m2:y.yD=false)(hx:σ.pr x=false)(hy:σ.pr y=false)(hc:yK x.NV y.id=true):(σ.app d u).pr y=false:=by
 subst hu;refine AV.2 λid b hb=>?_
 by_cases e:u.f.id=some id
 .refine WN m2 λr hr hm=>?_
  have hn:=FT hc hr;rw[BR,BS]at hb;cases hf:u.f<;>rw[hf]at e hb hn m1<;>simp only[mj.id,bu]at e<;>first
   | (cases e;done)
   | (cases m1;done)
   | (subst e;simp only[bA,bu]at hb;subst hb;exact hn hm)
   | (subst e;simp at hb;done)
 .rw [wQ _ _ _ _ m1 hx e]at hb;exact AV.1 hy id b hb
def aoJ{O':qw}{x y:Oper×ko}(hi:DT ij x y=true)(h1:rK P K T O ij σ x.1=some x.2)(h2:rK P K T O' ij (σ.app x.1.dst x.2) y.1=some y.2):
 rK P K T O' ij σ y.1=some y.2/\rK P K T O ij (σ.app y.1.dst y.2) x.1=some x.2/\sM ((σ.app x.1.dst x.2).app y.1.dst y.2) ((σ.app y.1.dst y.2).app x.1.dst x.2):=by
 simp only[DT,bD]at hi;obtain⟨⟨⟨⟨⟨⟨⟨⟨⟨⟨⟨⟨⟨⟨⟨⟨⟨i1,i2⟩,i3⟩,i4⟩,i5⟩,i6⟩,i7⟩,i8⟩,i9⟩,i10⟩,m1⟩,m2⟩,v1⟩,v2⟩,o1⟩,o2⟩,c1⟩,c2⟩:=hi;simp only[di]at m1 m2 v1 v2;obtain⟨_,rx,_⟩:=Fa h1;obtain⟨_,ry,_⟩:=Fa h2;obtain⟨fx1,fx2⟩:=Vk h1;obtain⟨fy1,fy2⟩:=Vk h2;have hx:σ.pr x.2.f=false:=by rw[<-fx1];exact v1
 have oq:(σ.app x.1.dst x.2).pr y.2.f=false:=by rw[<-fy1];exact v2
 have hy:σ.pr y.2.f=false:=by
  refine AV.2 λid b hb=>?_
  by_cases e:x.2.f.id=some id
  .refine WN m2 λr hr hm=>?_
   have:=FT o1 hr;rw[fx2]at this;unfold PS.yL at this;rw[e]at this;simp only[hb]at this;exact this hm
  .exact AV.1 oq id b<|by rw[wQ _ _ _ _ m1 hx e];exact hb
 have rC:(σ.app y.1.dst y.2).pr x.2.f=false:=aiT rfl m2 m1 hy hx c2;have r1:rK P K T O' ij σ y.1=some y.2:=by
  refine Oq h2 (λt ht=>?_) (λid hid=>wQ _ _ _ _ m1 hx λe=>FT i4 e hid) (I9 _ _ _) (I5 _ _ _) (λid b hf=>?_) (by rw[hy,oq])<|Q5 λid e=>wQ _ _ _ _ m1 hx λe'=>Gp i6 e' e rfl
  .have hg:(σ.app x.1.dst x.2).get t=(σ.get t).kP x.2.f:=by
    rw[Hr,aX λe=>FT i1 e ht]
   rw[hg];by_cases hv:x.2.f.wM=true
   .have wc:QU ((σ.get t).kP x.2.f)=true:=by
     have h9:y.2.rd.all QU=true:=by simpa[hv]using i9
     rw[ry]at h9;exact bR.1 h9 _<|cC.2 ⟨t,ht,hg⟩
    rw[Gv m1]at wc ⊢;split at wc
    .rename_i hk;rw[aY hk]
    .cases wc
   .cases hf:x.2.f<;>rw[hf]at hv<;>first|exact absurd rfl hv|(cases σ.get t<;>rfl)
  .have:=Ot h2 hf;rwa[wQ _ _ _ _ m1 hx λe=>Gp i6 e (by rw[hf];rfl) rfl]at this
 refine⟨r1,?_,?_⟩
 .refine Oq h1 (λt ht=>?_) (λid hid=>(wQ _ _ _ _ m2 hy λe=>FT i5 e hid).symm) (I9 _ _ _).symm (I5 _ _ _).symm (λid b hf=>?_) (by rw[hx,rC]) (Q5 λid e=>(wQ _ _ _ _ m2 hy λe'=>Gp i6 e e' rfl).symm)
  .rw [Hr,aX λe=>FT i3 e ht];rw[rx]at i10;exact(Qi m2<|bR.1 i10 _<|cC.2 ⟨t,ht,rfl⟩).symm
  .rw [wQ _ _ _ _ m2 hy λe=>Gp i6 (by rw[hf];rfl) e rfl];exact Ot h1 hf
 .refine ⟨by simp only[I5],by simp only[I9],λt=>?_,λid=>?_⟩
  .simp only[Hr];by_cases hx:x.1.dst=some t
   .have hy:¬y.1.dst=some t:=λe=>Gp i2 hx e rfl
    rw[aX hy,aY hx,aY hx,Qi m2 i8]
   .by_cases hy:y.1.dst=some t
    .rw [aY hy,aX hx,aY hy,Qi m1 i7]
    .rw [aX hy,aX hx,aX hx,aX hy,apD _ m1 m2]
  .by_cases ex:x.2.f.id=some id
   .have ey:y.2.f.id≠some id:=λe=>Gp i6 ex e rfl
    rw[wQ _ _ _ _ m2 oq ey,BR,BR,BS,BS,wQ _ _ _ _ m2 hy ey]
   .rw [wQ _ _ x.2 _ m1 rC ex];rw[BR,BR,BS,BS,wQ _ _ _ _ m1 hx ex]
end
section
variable {P:Program} {K:World->Prop} {T:List TI} {O:qw} {ij:Array Oper}
def xU(P:Program)(K:World->Prop)(T:List TI)(ij:Array Oper):List (Oper×ko)->PS->PS->Prop
 | [],σ,τ=>sM σ τ
 |x::l,σ,τ=>(∃ O,rK P K T O ij σ x.1=some x.2)/\xU P K T ij l (σ.app x.1.dst x.2) τ
def xU.qW{l:List<|Oper×ko}{σ σ2 τ:PS}(h:xU P K T ij l σ τ)(hs:sM σ σ2):xU P K T ij l σ2 τ:=by
 induction l generalizing σ σ2 with
 |nil=>exact hs.symm.trans h
 |cons x l ih=>exact⟨h.1.imp λ_ h=>agI h hs,ih h.2<|acW hs _ _⟩
def xU.ahq{A C:List<|Oper×ko}{y:Oper×ko}{σ τ:PS}(h:xU P K T ij (A++y::C) σ τ)(hi:∀ x,x ∈ A->DT ij x y=true):
 (∃ O,rK P K T O ij σ y.1=some y.2)/\xU P K T ij (A++C) (σ.app y.1.dst y.2) τ:=by
 induction A generalizing σ with
 |nil=>exact h
 |cons x A ih=>
  obtain⟨⟨O1,h1⟩,h2⟩:=h;obtain⟨⟨O2,k1⟩,k2⟩:=ih h2 λz hz=>hi z<|by simp[hz]
  obtain⟨s1,s2,s3⟩:=aoJ (hi x aH) h1 k1;exact⟨⟨O2,s1⟩,⟨O1,s2⟩,k2.qW s3⟩
end
section
variable {P:Program} {K:World->Prop} {T:List TI} {O:qw} {w0:mA} {B:Nat->Prop} {σ τ:PS} {o:Oper} {a:Act} {w:World} {L:Lk} {u:ko} {ij:Array Oper}
def ab8(r:jd w0 B σ a w L){b:Bool}(h:BG ij σ o=some b):Region.wanted o (yielded ij a.tmps)=b:=by
 unfold BG at h;unfold Region.wanted;split at h
 .rename_i hg;rw[hg];simpa using h
 .rename_i j want hg;rw[hg];simp only;split at h
  .rename_i t ht;have hv:=r.ht t;have key:∀ q:Bool,σ.get t = .e (.v<|.bool q)->yielded ij a.tmps j=some q:=by
    intro q hq;rw[hq]at hv;have hv:=iI.kG hv;unfold yielded;rw[ht];simp only[dj];have iE:a.tmps[t]? = some (.bool q):=by
     by_cases hs:t<a.tmps.size
     .simpa [hs]using hv
     .simp [hs,undef]at hv
    rw[iE]
   split at h
   .rename_i hq;rw[key true hq];simp only[bu]at h;subst h;cases want<;>rfl
   .rename_i hq;rw[key false hq];simp only[bu]at h;subst h;cases want<;>rfl
   .rename_i q hq;rw[hq]at hv;have hv:=iI.kG hv;have hn:yielded ij a.tmps j=none:=by
     unfold yielded;rw[ht];simp only[dj];by_cases hs:t<a.tmps.size
     .rw [show a.tmps[t]? = some (.tuple q)by simpa[hs]using hv]
     .simp [hs]
    rw[hn];simp only[bu]at h;subst h;cases want<;>rfl
   .cases h
  .cases h
def Vl(hT:mw P T)(g:Gd P K w0 B)(r:jd w0 B σ a w L)(h:rK P K T O ij σ o=some u)(ho:∀ q,q ∈ u.jz->q)(Kc:Act->World->Prop)(Q:Exit->Act->World->Prop)
 (hk:∀ a' w' L',jd w0 B (σ.app o.dst u) a' w' L'->Kc a' w'):
 (Region.wanted o (yielded ij a.tmps)=true/\o.wp P a w Kc Q)\/(Region.wanted o (yielded ij a.tmps)=false/\Kc (a.put o.dst undef) w):=by
 obtain⟨hi,_,⟨hw,u0,h0,rfl⟩|⟨hw,rfl⟩⟩:=Fa h
 .refine .inl ⟨ab8 r hw,agK hT g r h0 ho Kc Q λv w' L' hr hp=>hk _ w' L' ?_⟩;have lg:xt (σ.nT u0.f) o.dst=true:=by cases hd:o.dst<;>rw[hd]at hi<;>exact hi
  exact hr.put o.dst u0.r v lg hp
 .exact .inr ⟨ab8 r hw,hk _ w L<|r.put o.dst (.e<|.v<|.tuple #[]) undef hi<|.v _⟩
structure Left(ij:Array Oper)(listed:Array Bool)(R:List<|Nat×Oper×ko):Prop where
 mE:∀ x,x ∈ R->ij[x.1]? = some x.2.1/\listed.getD x.1 true=false
 all:∀ i,i<ij.size->listed.getD i true=false->∃ x,x ∈ R/\x.1=i
 pw:R.Pairwise λx y=>x.1<y.1/\(CJ ij 3 y.2.1 x.1||DT ij x.2 y.2)=true
 ed:∀ x,x ∈ R->∀ e,e ∈ x.2.1.after->Region.binds .any e=true->e.on<x.1
 up:∀ x,x ∈ R->∀ j z,ij[j]? = some z->DU z x.1=true->listed.getD j true=false
def Left.CJ{listed:Array Bool}{R:List<|Nat×Oper×ko}(h:Left ij listed R){x:Nat×Oper×ko}(hx:x ∈ R):∀ (n:Nat) (j:Nat) (z:Oper),ij[j]? = some z->Pu.CJ ij n z x.1=true ->
 listed.getD j true=false/\∃ e,e ∈ z.after/\Region.binds .any e=true/\listed.getD e.on true=false/\e.on<ij.size:=by
 have direct:∀ (j:Nat) (z:Oper),ij[j]? = some z->DU z x.1=true->listed.getD j true=false/\∃ e,e ∈ z.after/\Region.binds .any e=true/\listed.getD e.on true=false/\e.on<ij.size:=by
  intro j z hz he;refine⟨h.up x hx j z hz he,?_⟩;unfold DU at he;obtain⟨e,mO,lL⟩:=dc.1 he;simp only[bD]at lL;have tw:=h.mE x hx;refine⟨e,by simpa using mO,lL.1,?_,?_⟩
  .rw [ku.1 lL.2];exact tw.2
  .rw [ku.1 lL.2];exact(c9.1 tw.1).1
 intro n
 induction n with
 |zero=>exact direct
 |succ n ih=>
  intro j z hz hr;simp only[Pu.CJ,dz]at hr;rcases hr with hr|hr
  .exact direct j z hz hr
  .obtain ⟨e,mO,lL⟩:=dc.1 hr;simp only[bD]at lL;obtain⟨lL,Pj⟩:=lL;split at Pj
   .rename_i z' zE;obtain⟨k1,_⟩:=ih e.on z' zE Pj;have iE:=(c9.1 zE).1;obtain⟨x',rC,FE⟩:=h.all e.on iE k1;refine⟨h.up x' rC j z hz ?_,e,by simpa using mO,lL,k1,iE⟩;unfold DU;refine dc.2 ⟨e,mO,?_⟩;rw[lL,FE];simp
   .cases Pj
def Rv{md:Region.Mode}{listed:Array Bool}{i:Nat}:i ∈ Region.ready md ij listed↔i<ij.size/\listed.getD i true=false/\∃ o,ij[i]? = some o/\∀ e,e ∈ o.after->Region.binds md e=true->listed.getD e.on false=true:=by
 unfold Region.ready;rw[List.mem_filter];simp only[bS,bD,di];constructor
 .rintro ⟨h1,h2,h3⟩;refine⟨h1,h2,ij[i],by simp[h1],λe he hb=>?_⟩;rw[Array.getElem?_eq_getElem h1]at h3;simp only[cg,aq8,arD]at h3;have:=h3 e he;simpa[hb]using this
 .rintro ⟨h1,h2,o,h3,h4⟩;refine⟨h1,h2,?_⟩;rw[h3];simp only[cg,aq8,arD];intro e he;cases hb:Region.binds md e with
  |false=>rfl
  |true=>simpa using h4 e he hb
def acT(hT:mw P T)(g:Gd P K w0 B){Q:Exit->Act->World->Prop}(hq:∀ a' w' L',jd w0 B τ a' w' L'->Q .normal a' w'):
 ∀ (fuel:Nat) (listed:Array Bool) (R:List<|Nat×Oper×ko) (σ:PS) (a:Act) (w:World) (L:Lk),R.length=fuel->listed.size=ij.size->Left ij listed R->(∀ x,x ∈ R->∀ q,q ∈ x.2.2.jz->q) ->
  xU P K T ij (R.map (·.2)) σ τ->jd w0 B σ a w L->wpAny P .any ij Q fuel listed a w:=by
 intro fuel
 induction fuel with
 |zero=>
  intro listed R σ a w L hlen Fv hleft ho Lv r;have hR:=dw hlen;subst hR;refine⟨?_,hq a w L<|r.qW Lv⟩;apply List.eq_nil_iff_forall_not_mem.2;intro i hi;obtain⟨h1,h2,_⟩:=Rv.1 hi;obtain⟨x,hx,_⟩:=hleft.all i h1 h2;simp at hx
 |succ fuel ih=>
  intro listed R σ a w L hlen Fv hleft ho Lv r;refine⟨λDF=>?_,λi hi=>?_⟩
  .
   exfalso;cases R with
   |nil=>simp at hlen
   |cons x R=>
    have hx:=hleft.mE x aH;have iE:x.1<ij.size:=(c9.1 hx.1).1;have:x.1 ∈ Region.ready .any ij listed:=Rv.2 ⟨iE,hx.2,x.2.1,hx.1,λe he hb=>by
     have FA:=hleft.ed x aH e he hb;cases hl:listed.getD e.on true with
     |true=>
      have:e.on<listed.size:= aC ;simp[this]at hl ⊢;exact hl
     |false=>
      exfalso;obtain⟨y,hy,FF⟩:=hleft.all e.on aC hl;rcases cP.1 hy with hy|hy
      .subst hy;omega
      .have:=(aq9.1 hleft.pw).1 y hy;omega⟩
    rw[DF]at this;simp at this
  .obtain ⟨h1,h2,o,h3,h4⟩:=Rv.1 hi;obtain⟨y,hy,hyi⟩:=hleft.all i h1 h2;subst hyi;obtain⟨A,C,rfl⟩:=List.append_of_mem hy;have LB:=hleft.mE y hy;have aiS:∀ x,x ∈ A->DT ij x.2 y.2=true:=by
    intro x hx;have hp:=(ara.1 hleft.pw).2.2 x hx y aH;rcases Bool.or_eq_true_iff.1 hp.2 with he|he
    .exfalso;obtain⟨_,e,mO,lL,nF,iE⟩:=hleft.CJ (show x ∈ A++y::C by simp[hx]) 3 y.1 y.2.1 LB.1 he;have oZ:o=y.2.1:=by rw[LB.1]at h3;exact(arb h3).symm
     have hl:=h4 e (by rw[oZ];exact mO) lL;have qc:e.on<listed.size:=by rw[Fv];exact iE
     simp[qc]at hl nF;rw[hl]at nF;cases nF
    .exact he
   rw[aq4,eI]at Lv;obtain⟨⟨O,k1⟩,k2⟩:=Lv.ahq (λx hx=>by
    obtain⟨z,hz,rfl⟩:=cC.1 hx;exact aiS z hz)
   have aiW:Left ij (listed.setIfInBounds y.1 true)<|A++C:=by
    have jD:∀ x,x ∈ A++C->x.1≠y.1:=by
     intro x hx;rcases du.1 hx with hx|hx
     .have:=((ara.1 hleft.pw).2.2 x hx y aH).1;omega
     .have:=((aq9.1 (ara.1 hleft.pw).2.1).1 x hx).1;omega
    have vg:∀ x,x ∈ A++C->x ∈ A++y::C:=λx hx=>by
     rcases du.1 hx with hx|hx<;>simp[hx]
    refine⟨λx hx=>?_,λj hj hl=>?_,?_,λx hx=>hleft.ed x<|vg x hx,λx hx j z hz he=>?_⟩
    .obtain ⟨q1,q2⟩:=hleft.mE x<|vg x hx;refine⟨q1,?_⟩;have qc:x.1<listed.size:=by rw[Fv];exact(c9.1 q1).1
     simp[qc]at q2 ⊢;rw[arc _ λe=>jD x hx e.symm];exact q2
    .have Ll:j<listed.size:= aC ;by_cases Ft:j=y.1
     .subst Ft;simp[Ll]at hl
     .have:listed.getD j true=false:=by
       simp[Ll]at hl ⊢;rw[arc _ λe=>Ft e.symm]at hl;exact hl
      obtain⟨x,hx,Xv⟩:=hleft.all j hj this;refine⟨x,?_,Xv⟩;rcases du.1 hx with hx|hx
      .simp [hx]
      .rcases cP.1 hx with hx|hx
       .subst hx;exact absurd Xv.symm Ft
       .simp [hx]
    .exact hleft.pw.sublist<|List.Sublist.append (List.Sublist.refl A)<|List.sublist_cons_self y C
    .have q:=hleft.up x (vg x hx) j z hz he;have Ll:j<listed.size:=by rw[Fv];exact(c9.1 hz).1
     by_cases Ft:j=y.1
     .exfalso;subst Ft;rw[LB.1]at hz h3;cases hz;cases h3;unfold DU at he;obtain⟨e,mO,lL⟩:=dc.1 he;simp only[bD]at lL;have hl:=h4 e (by simpa using mO) lL.1;rw[ku.1 lL.2]at hl;have nF:=(hleft.mE x<|vg x hx)
      have qc:x.1<listed.size:=by rw[Fv];exact(c9.1 nF.1).1
      have nF:=nF.2;simp[qc]at hl nF;rw[hl]at nF;cases nF
     .simp [Ll]at q ⊢;rw[arc _ λe=>Ft e.symm];exact q
   unfold wpOp;rw[LB.1];simp only;rcases Vl hT g r k1 (ho y aH) (wpAny P .any ij Q fuel<|listed.setIfInBounds y.1 true) Q (λa' w' L' hr=>ih _ (A++C) _ a' w' L' (by simp at hlen ⊢;omega) (by simpa using Fv) aiW (λx hx=>ho x (by
    rcases du.1 hx with hx|hx<;>simp[hx])) (by rw[aq4];exact k2) hr)with⟨p1,p2⟩|⟨p1,p2⟩
   .rw [aY p1];exact .inl p2
   .rw [aX<|by rw[p1];simp];exact p2
def aj8{us:List<|Oper×ko}(xr:us.map (·.1)=ij.toList)(hp:F2 ij 0 us=true):
 ∃ R:List<|Nat×Oper×ko,R.map (·.2)=us/\R.length=ij.size/\Left ij (Array.replicate ij.size false) R:=by
 have key:∀ (us:List<|Oper×ko) (k:Nat),F2 ij k us=true->(∀ j x,us[j]? = some x->ij[k+j]? = some x.1) ->
  ∃ R:List<|Nat×Oper×ko,R.map (·.2)=us/\(∀ j x,R[j]? = some x->x.1=k+j)/\(∀ x,x ∈ R->ij[x.1]? = some x.2.1)/\(R.Pairwise λx y=>x.1<y.1/\(CJ ij 3 y.2.1 x.1||DT ij x.2 y.2)=true) /\
   (∀ x,x ∈ R->∀ e,e ∈ x.2.1.after->Region.binds .any e=true->e.on<x.1):=by
  intro us
  induction us with
  |nil=>exact λk _ _=>⟨[],rfl,λj x h=>by simp at h,λx h=>by simp at h,List.Pairwise.nil,λx h=>by simp at h⟩
  |cons x us ih=>
   intro k hp tw;simp only[F2,bD]at hp;obtain⟨R,r1,r2,r3,r4,r5⟩:=ih (k+1) hp.2 (λj y hy=>by have:=tw (j+1) y (by simpa using hy);rwa[(aC:k+(j+1)=k+1+j)]at this);have sA:∀ y,y ∈ R->k<y.1/\y.2 ∈ us:=by
    intro y hy;obtain⟨j,hj⟩:=dh.1 hy;have:=r2 j y hj;exact⟨aC,by rw[<-r1];exact cC.2 ⟨y,hy,rfl⟩⟩
   refine⟨(k,x)::R,by simp[r1],λj y hy=>?_,λy hy=>?_,?_,λy hy=>?_⟩
   .cases j with
    |zero=>simp at hy;subst hy;rfl
    |succ j=>have:=r2 j y (by simpa using hy);omega
   .rcases cP.1 hy with hy|hy
    .subst hy;have:=tw 0 x rfl;simpa using this
    .exact r3 y hy
   .rw [aq9];refine⟨λy hy=>⟨(sA y hy).1,?_⟩,r4⟩;exact bR.1 hp.1.2 y.2 (sA y hy).2
   .rcases cP.1 hy with hy|hy
    .subst hy;intro e he hb;have:=bR.1 hp.1.1 e (by simpa using he);simpa[hb]using this
    .exact r5 y hy
 obtain⟨R,r1,r2,r3,r4,r5⟩:=key us 0 hp (λj x hx=>by
  rw[bZ];have:=congrArg (·[j]?) xr;simp only[ch,hx,cg]at this;simpa using this.symm)
 have hlen:R.length=ij.size:=by
  have h1:=congrArg List.length r1;have h2:=congrArg List.length xr;simp at h1 h2;omega
 refine⟨R,r1,hlen,λx hx=>⟨r3 x hx,?_⟩,λi hi _=>?_,r4,r5,λx hx j z hz _=>by have:=(c9.1 hz).1;simp[this]⟩
 .have:=(c9.1<|r3 x hx).1;simp[this]
 .have lg:i<R.length:= aC ;exact⟨R[i],b9 lg,by have:=r2 i R[i] (bk lg);omega⟩
end
def PS.le(σ τ:PS):Prop:=∀ (w0:mA) (B:Nat->Prop) (a:Act) (w:World) (L:Lk),(∀ b,B b->w0.uT b)->jd w0 B σ a w L->∃ L',jd w0 B τ a w L'
def PS.le.refl(σ:PS):PS.le σ σ:=λ_ _ _ _ L _ r=>⟨L,r⟩
def PS.le.trans{σ τ υ:PS}(h:PS.le σ τ)(k:PS.le τ υ):PS.le σ υ:=λw0 B a w L g r=>let⟨L',r'⟩:=h w0 B a w L g r;k w0 B a w L' g r'
def PV.le.refl(p:PV):PV.le p p:=λ_ _ _ _ _ h=>h
def Bx.le(a b:Bx):Prop:=(a.nl=true->b.nl=true)/\∀ (bs br:Nat->Prop) (L:Lk) (w:World) (id:Nat),nB bs br L w id a->nB bs br L w id b
def Bx.le.refl(a:Bx):Bx.le a a:=⟨id,λ_ _ _ _ _ h=>h⟩
def yY(σ:PS):List (Nat×PV)->Prop
 | []=>True
 | (k,p)::l=>PV.le (σ.get k) p/\yY σ l
def xQ(σ:PS):List (Nat×Bx)->Prop
 | []=>True
 | (id,b)::l=>(∃ b',σ.bo id=some b'/\Bx.le b' b)/\xQ σ l
def Jv(τ:PS):Bool:=(τ.t.all λx=>x.2.kN.all λid=>(look τ.b id).isSome)&&(τ.b.all λx=>x.2.kN.all λid=>(look τ.b id).isSome)
def IU{α:Type}{l:List<|Nat×α}{t:Nat}{x:α}(h:look l t=some x):(t,x) ∈ l:=by
 induction l with
 |nil=>cases h
 |cons y l ih=>
  obtain⟨k,z⟩:=y;rw[tK]at h;split at h
  .rename_i e;cases h;subst e;exact .head _
  .exact .tail _<|ih h
def yY.get{σ:PS}{l:List<|Nat×PV}(h:yY σ l){t:Nat}{p:PV}(k:look l t=some p):PV.le (σ.get t) p:=by
 induction l with
 |nil=>cases k
 |cons y l ih=>
  obtain⟨q,z⟩:=y;rw[tK]at k;split at k
  .rename_i e;cases k;subst e;exact h.1
  .exact ih h.2 k
def xQ.get{σ:PS}{l:List<|Nat×Bx}(h:xQ σ l){t:Nat}{b:Bx}(k:look l t=some b):∃ b',σ.bo t=some b'/\Bx.le b' b:=by
 induction l with
 |nil=>cases k
 |cons y l ih=>
  obtain⟨q,z⟩:=y;rw[tK]at k;split at k
  .rename_i e;cases k;subst e;exact h.1
  .exact ih h.2 k
def PS.le.nY{σ τ:PS}(hn:σ.n=τ.n)(jI:τ.nl=σ.nl)(hr:Jv τ=true)(ht:yY σ τ.t)(hb:xQ σ τ.b):PS.le σ τ:=λw0 B a w L _ r=>by
 let L':Lk:=⟨λid=>L.lX id/\(τ.bo id).isSome=true,λid x=>L.own id x/\(τ.bo id).isSome=true,L.val,L.iG⟩
 have iE:qv L w L' w:=⟨a7 _,λx _ ⟨id,h,_⟩=>⟨id,h⟩,λ_ _ _=>rfl⟩
 refine⟨L',r.hd,by rw[<-hn];exact r.hs,λt=>?_,λid b h=>?_,λid=>?_,λid x h=>⟨r.hn id x h.1,h.2⟩,λid x h=>r.hw id x h.1,λid id' x h k=>r.hi id id' x h.1 k.1,r.he,λh id b k=>?_⟩
 .have hg:τ.get t=((look τ.t t)).getD (.e .any):=rfl;cases hl:look τ.t t with
  |none=>rw[hg,hl];exact .any _
  |some p=>
   rw[hg,hl];have:=ht.get hl _ _ _ _ _<|r.ht t;refine kD.move iE this λid hid pT=>⟨⟨pT,?_⟩,rfl,λ_=>rfl⟩
   have q:=bR.1 (gX.1 hr).1 _<|IU hl;exact bR.1 q id hid
 .obtain ⟨b',h1,h2⟩:=hb.get h;have hs:(τ.bo id).isSome=true:=by rw[h];rfl
  refine(h2.2 _ _ _ _ _<|r.hb id b' h1).later iE rfl (λx=>⟨λq=>q.1,λq=>⟨q,hs⟩⟩) (λ_=>rfl) (λ_ _=>rfl) λp v hp k=>kD.move iE k λid hid pT=>⟨⟨pT,?_⟩,rfl,λ_=>rfl⟩
  have q:=bR.1 (gX.1 hr).2 _<|IU h;exact bR.1 q id<|dG.2 ⟨p,hp,hid⟩
 .show L.lX id/\(τ.bo id).isSome=true↔(τ.bo id).isSome=true;refine⟨λh=>h.2,λh=>⟨(r.hv id).2 ?_,h⟩⟩;obtain⟨b,iV⟩:=gz.1 h;obtain⟨b',h1,_⟩:=hb.get iV;rw[h1];rfl
 .obtain ⟨b',h1,h2⟩:=hb.get k;exact h2.1<|r.hl (by rw[<-jI];exact h) id b' h1
def G3(σ:PS):List Nat->List (Nat×Bx)
 | []=>[]
 |i::l=>match σ.bo i with
  |some b=>(i,b)::G3 σ l
  |none=>G3 σ l
def PS.cut(ts bs:List Nat)(σ:PS):PS:={ n:=σ.n,nl:=σ.nl,t:=ts.map λt=>(t,σ.get t),b:=G3 σ bs }
def yY.cut(σ:PS):∀ ts:List Nat,yY σ (ts.map λt=>(t,σ.get t))
 | []=>trivial
 |_::l=>⟨PV.le.refl _,yY.cut σ l⟩
def xQ.cut(σ:PS):∀ bs:List Nat,xQ σ (G3 σ bs)
 | []=>trivial
 |i::l=>by
  unfold G3;split
  .rename_i b h;exact⟨⟨b,h,Bx.le.refl b⟩,xQ.cut σ l⟩
  .exact xQ.cut σ l
def PS.le.cut{σ:PS}(ts bs:List Nat)(hr:Jv (σ.cut ts bs)=true):PS.le σ<|σ.cut ts bs:=PS.le.nY rfl rfl hr (yY.cut σ ts) (xQ.cut σ bs)
def Ex.to:Ex->Exit
 | .normal=>.normal
 | .exit id=>.exit id
 | .ret=>.ret
def Sp(P:Program)(K:World->Prop)(c:Code)(σ:PS)(Q:Ex->PS->Prop):Prop:=
 ∀ (w0:mA) (B:Nat->Prop) (a:Act) (w:World) (L:Lk),Gd P K w0 B->jd w0 B σ a w L->c.wp P (λe a' w'=>∃ ex τ L',e=ex.to/\Q ex τ/\jd w0 B τ a' w' L') a w
def Sp.mono{P:Program}{K:World->Prop}{c:Code}{σ:PS}{Q Q':Ex->PS->Prop}(h:Sp P K c σ Q)(hq:∀ e τ,Q e τ->Q' e τ):Sp P K c σ Q':=
 λw0 B a w L g r=>Code.wp_mono (λ_ _ _ ⟨ex,τ,L',h1,h2,h3⟩=>⟨ex,τ,L',h1,hq _ _ h2,h3⟩)<|h w0 B a w L g r
abbrev Lo:=List<|Nat×(Ex×PS×List Nat×List Nat)
section
variable {P:Program} {K:World->Prop} {T:List TI} {O:qw} {lo:Lo}
def Sp.loop{b:Code}{Q:Ex->PS->Prop}(J:Nat->PS->Prop)(r8:∀ n σ,J n σ->Sp P K b σ (λe τ=>(e = .normal/\∃ m,m<n/\J m τ)\/(e ≠ .normal/\Q e τ))):
 ∀ n σ,J n σ->Sp P K (.loop b) σ Q:=by
 intro n0 σ0 hJ0 w0 B a0 w1 L0 g r0 bf k cs;have key:∀ n σ a w L,J n σ->jd w0 B σ a w L ->
  ∃ e a' w',(∃ ex τ L',e=ex.to/\Q ex τ/\jd w0 B τ a' w' L')/\Arrives P (lone (bf.at a<|.code b :: .inLoop b::k) cs w) bf k cs e a' w':=by
  intro n
  induction n using Nat.strongRecOn with
  |_ n ih=>
   intro σ a w L hJ r;obtain⟨e,a₁,w₁,⟨ex,υ,L2,rfl,hq,qb⟩,um⟩:=r8 n σ hJ w0 B a w L g r bf (.inLoop b::k) cs;rcases hq with⟨rfl,m,hm,OR⟩|⟨jD,hq⟩
   .obtain ⟨e₂,a₂,w₂,PM,Pb⟩:=ih m hm υ a₁ w₁ L2 OR qb;exact⟨e₂,a₂,w₂,PM,.of_steps (Steps.trans um<|.one step_inLoop) Pb⟩
   .cases ex with
    |normal=>exact absurd rfl jD
    |exit i=>exact⟨_,a₁,w₁,⟨.exit i,υ,L2,rfl,hq,qb⟩,.pass (x:=.inLoop b) rfl (λ_ _=>.inl<|by simp[Ex.to]) um⟩
    |ret=>exact⟨_,a₁,w₁,⟨.ret,υ,L2,rfl,hq,qb⟩,.pass (x:=.inLoop b) rfl (λ_ _=>.inl<|by simp[Ex.to]) um⟩
 obtain⟨e,a',w',hq,um⟩:=key n0 σ0 a0 w1 L0 hJ0 r0;exact⟨e,a',w',hq,.of_steps (.one step_loop) um⟩
def apa{w0:mA}{B:Nat->Prop}{σ:PS}{a:Act}{w:World}{L:Lk}(hB:∀ b,B b->w0.uT b)(r:jd w0 B σ a w L){p:PV}{e:E}(h:JL σ p=some e){v:Value}(hv:kD (bad B L) (jl L) L w p v):
 iI B (λ_=>True) w e v:=by
 have Ww:∀ id x,L.own id x->¬B x:=λid x hx hb=>(r.hw id x hx).1<|hB x hb
 have own:∀ (v:Value) (T:TypeId) (n sz:Nat) (f:Nat->Nat->Value) (nl:Bool) (el:Nat->Nat->E) (id:Nat),nb w v T n sz f nl->(∀ x,v.ownBlock=some x->L.own id x) ->
  (∀ i j,i<n->j<sz->iI (bad B L) (jl L) w (el i j) (f i j)/\(el i j).nr 2=true)->iI B (λ_=>True) w (.sl nl n sz el) v:=by
  intro v T n sz f nl el id h1 h2 h3;rcases h1 with⟨rfl,rfl⟩|⟨b,ofs,c,cur,rfl,hg,qC,pF,nO,kr,jI⟩
  .exact .sl nl 0 sz el none 0 f (a7 _) aE (λ_=>rfl) (λi j hi=>absurd hi<|bt i) (λi j hi=>absurd hi<|bt i) (λi j hi=>absurd hi<|bt i) λi j hi=>absurd hi<|bt i
  .have oZ:=h2 b rfl;refine .sl nl n sz el _ c f qC (by unfold maxLen at pF;omega) (λh=>by cases h) (λi j hi hj=>⟨(kr i j hi hj).2,λhn=>jI hn _<|ej (kr i j hi hj).1⟩) (λi j hi hj=>(h3 i j hi hj).2)
    (λi j hi hj=>⟨b,ofs,rfl,Ww id b oZ,(r.hw id b oZ).2,?_⟩) (λi j hi hj=>((h3 i j hi hj).1.pn (λ_ h=>.inl h) λ_ h=>h).nr 2 (h3 i j hi hj).2)
   simp only[World.cell?,hg];simpa using(kr i j hi hj).1
 cases p with
 |e x=>
  simp only[JL]at h;split at h
  .rename_i hn;cases h;exact(iI.pn (bs':=B) (br':=jl L) (λ_ h=>.inl h) (λ_ h=>h) hv).nr 3 hn
  .cases h
 |own id=>
  obtain⟨_,rfl⟩:=hv;simp only[JL]at h;split at h
  .rename_i nl T n sz el iV;cases h;obtain⟨f,h1,h2,h3⟩:=r.hb id _ iV;exact own _ T n sz f nl el id h1 (λx hx=>(h2 x).2 hx) h3
  .rename_i nl T1 T0 n sz len el iV;cases h;rcases r.hb id _ iV with⟨h1,h2,_⟩|ju
   .subst h2;rw[h1];exact .sl true 0 1 _ none 0 (λ_ _=>undef) (a7 _) aE (λ_=>rfl) (λi j hi=>absurd hi<|bt i) (λi j hi=>absurd hi<|bt i) (λi j hi=>absurd hi<|bt i) λi j hi=>absurd hi<|bt i
   obtain⟨b,ofs,c,cur,f,h1,h2,h3,h4,h5,h6,h7,h8,h9,nh,nW⟩:=ju;have oZ:L.own id b:=(h9 b).2<|.inl rfl;rw[h1];refine .sl true n 1 _ _ c (λk _=>L.iG id k) h3 (by unfold maxLen at h4;omega) (λh=>by cases h) (λk j hk hj=>?_) (λk j hk hj=>rfl)
    (λk j hk hj=>⟨b,ofs,rfl,Ww id b oZ,(r.hw id b oZ).2,?_⟩) (λk j hk hj=>own _ T0 (len k) sz (f k) nl (el k) id (h8 k hk).1 (λx hx=>(h9 x).2<|.inr ⟨k,hk,hx⟩) (h8 k hk).2)
   .obtain ⟨_,q1,q2⟩:=(h8 k hk).1.head;exact⟨q1,λ_=>q2⟩
   .rw [b6];obtain rfl:j=0:= aC ;simp only[World.cell?,h2];simpa using h6 k hk aH 
  .cases h
 |iG id k=>
  obtain⟨_,rfl⟩:=hv;simp only[JL]at h;split at h
  .rename_i nl T1 T0 n sz len el iV;split at h
   .rename_i hk;have hk:k<n:=by simpa[fG]using hk
    cases h;obtain⟨b,ofs,c,cur,f,h1,h2,h3,h4,h5,h6,h7,h8,h9,nh,nW⟩:=(r.hb id _ iV).vE aC;exact own _ T0 (len k) sz (f k) nl (el k) id (h8 k hk).1 (λx hx=>(h9 x).2<|.inr ⟨k,hk,hx⟩) (h8 k hk).2
   .cases h
  .cases h
 |_=>cases h
def Ee(tmps:Array Value):ResultVar->Sem Value
 | .tmp t=>Pure.pure<|tmps.getD t undef
 | .cell q t=>do loadVar t (<-asAddr (tmps.getD q undef))
def RC(fn:Func)(tmps:Array Value):results fn tmps=(do
 let vs <-fn.results.mapM (Ee tmps)
 Pure.pure (if h:vs.size=1 then vs[0]else .tuple vs)):=by
 unfold results;congr 1
section
variable{w0:mA}{B:Nat->Prop}{σ:PS}{a:Act}{w:World}{L:Lk}(hT:mw P T)(hB:∀ b,B b->w0.uT b)(r:jd w0 B σ a w L)
def am3{x:ResultVar}{e:E}(h:RB T σ x=some e):
 ∃ v,(Ee a.tmps x).run P w = .ok v w/\iI B (λ_=>True) w e v:=by
 cases x with
 |tmp t=>exact⟨_,rfl,apa hB r h<|r.ht t⟩
 |cell q t=>
  simp only[RB]at h;split at h
  .rename_i ti nE;split at h
   .rename_i l is PN;obtain⟨b,of,vs,e1,h1,h2,h3⟩:=r.read (r.ht q) PN (λq hq=>by simp at hq);by_cases ha:ti.isAgg=true
    .rw [aY ha]at h;split at h
     .rename_i hn;cases h;refine⟨.agg vs.toArray,?_,(iI.pn (bs':=B) (br':=jl L) (λ_ h=>.inl h) (λ_ h=>h) h1.agg).nr 3 hn⟩;simp only[Ee,e1,asAddr,Sem.run_bind,Sem.run_pure,Result.andThen_ok,aaL hT w nE ha b of vs h2 h3]
     .cases h
    .rw [aX ha]at h;split at h
     .rename_i y;split at h
      .rename_i hn;cases h;obtain⟨z,zs,rfl,hz,_⟩:=h1.mY;refine⟨z,?_,(iI.pn (bs':=B) (br':=jl L) (λ_ h=>.inl h) (λ_ h=>h) hz).nr 3 hn⟩;simp only[Ee,e1,asAddr,Sem.run_bind,Sem.run_pure,Result.andThen_ok,My hT w nE (by simpa using ha) b of z<|by simpa using h3 0 z rfl]
      .cases h
     .cases h
   .cases h
  .cases h
def am1{l:List ResultVar}{es:List E}(h:F7 T σ l=some es):
 ∃ vs,(l.mapM<|Ee a.tmps).run P w = .ok vs w/\kf B (λ_=>True) w es vs:=by
 induction l generalizing es with
 |nil=>simp only[F7,bu]at h;subst h;exact⟨[],rfl,.nil _ _ _⟩
 |cons x l ih=>
  simp only[F7]at h;split at h
  .rename_i e es' h1 h2;cases h;obtain⟨v,q1,q2⟩:=am3 hT hB r h1;obtain⟨vs,p1,p2⟩:=ih h2;refine⟨v::vs,?_,.cons q2 p2⟩;rw[gU];simp only[Sem.run_bind,q1,Result.andThen_ok,p1,Sem.run_pure]
  .cases h
def am2{fn:Func}{e:E}(h:Mq T fn σ=some e):
 ∃ v,(results fn a.tmps).run P w = .ok v w/\iI B (λ_=>True) w e v:=by
 unfold Mq at h;have main:∀ es,F7 T σ fn.results.toList=some es->∃ vs:List Value,(fn.results.mapM<|Ee a.tmps).run P w = .ok vs.toArray w/\kf B (λ_=>True) w es vs:=by
  intro es uw;obtain⟨vs,h1,h2⟩:=am1 hT hB r uw;refine⟨vs,?_,h2⟩;rw[arE];simp only[Sem.run_map,h1,Result.andThen_ok]
 split at h
 .rename_i y hy;cases h;obtain⟨vs,h1,h2⟩:=main _ hy;obtain⟨v,vs',rfl,hv,DF⟩:=h2.mY;have:=DF.re;subst this;refine⟨v,?_,hv⟩;rw[RC,Sem.run_bind,h1];simp
 .rename_i l jD hl;cases h;obtain⟨vs,h1,h2⟩:=main _ hl;refine⟨.tuple vs.toArray,?_,h2.ix⟩;rw[RC,Sem.run_bind,h1];have hlen:¬vs.length=1:=by
   rw[h2.len];intro e1
   match l,e1 with
   | [y],_=>exact jD y rfl
  simp[hlen]
 .cases h
end
def ajs(args:List E):∀ (k t:Nat),look (IA k args) t=if k<=t then(args[t-k]?).map .e else none:=by
 induction args with
 |nil=>intro k t;simp[IA,look]
 |cons x l ih=>
  intro k t;simp only[IA];rw[tK,ih (k+1) t];by_cases h:k=t
  .subst h;simp
  .rw [aX h];by_cases h2:k<=t
   .rw [aY aC,aY h2,(aC:t-k=(t-(k+1))+1)];simp
   .rw [aX aC,aX h2]
def jd.init{B:Nat->Prop}{w:World}{fn:Func}{args:List E}{vs:List Value}(hr:kf B (λ_=>False) w args vs)(hn:args.length<=fn.ntmps)(nl:Bool)(_hB:∀ b,B b->b<w.heap.size/\oi w b):
 jd ⟨w,λ_=>False⟩ B (Cs fn nl args) { tmps:=vs.toArray++Array.replicate (fn.ntmps-vs.toArray.size) undef,defers:=[] } w ⟨λ_=>False,λ_ _=>False,λ_=>undef,λ_ _=>undef⟩:=by
 have hlen:=hr.len;refine⟨rfl,by simp[Cs];omega,λt=>?_,λid b hb=>(by cases hb),λid=>⟨λh=>h.elim,λh=>(by cases h)⟩,λ_ _ h=>h.elim,λ_ _ h=>h.elim,λ_ _ _ h=>h.elim,uU.refl _ _,λ_ id b hb=>(by cases hb)⟩;have hg:(Cs fn nl args).get t=((args[t]?).map PV.e).getD (.e .any):=by
  unfold PS.get Cs;rw[ajs];simp
 rw[hg];by_cases ht:t<args.length
 .have Xf:t<vs.length:= aC ;rw[bk ht];have hv:(vs.toArray++Array.replicate (fn.ntmps-vs.toArray.size) undef).getD t undef=vs[t]:=by
   simp[Array.getElem?_append,Xf]
  show iI _ _ _ _ _;rw[hv];exact(hr.kq t _ _ (bk ht)<|bk Xf).pn (λb h=>h.elim id λ⟨_,h⟩=>h.elim) λ_ ⟨_,h⟩=>h.elim
 .rw [bX aC];exact .any _
def PC.QB(hT:mw P T)(hm:P.follows .mixedOrders=true)(hp:∀ w w',K w->Below w.heap.size w w'->K w'){f:FuncId}{fn:Func}{c:Code}{args:List E}{jA:E}(yp:∀ (vs:Array Value) (w:World),(callFunc f vs).run P w = .ok (.enter f vs) w)
 (hf:P.funcs[f]? = some fn) (hb:fn.body=some c) (hn:args.length<=fn.ntmps) (nl:Bool)
 (h:Sp P K c (Cs fn nl args) (λe τ=>(e = .ret\/e = .normal)/\∃ r,Mq T fn τ=some r/\∀ (bs br:Nat->Prop) (w:World) (v:Value),iI bs br w r v->iI bs br w jA v)):PC P K f args jA:=by
 refine⟨yp,λw B vs hK hB hr=>calls_of_wp hf hb ?_⟩;have uC:=jd.init (fn:=fn) hr hn nl hB;have hg:Gd P K ⟨w,λ_=>False⟩ B:=⟨λw' k=>hp _ _ hK k.below,λb hb=>⟨⟨(hB b hb).1,λh=>h⟩,(hB b hb).2⟩⟩
 refine Code.wp_mono ?_ (h ⟨w,λ_=>False⟩ B _ w _ hg uC);rintro e a' w' ⟨ex,τ,L',rfl,⟨he,r,A7,hle⟩,yB⟩;obtain⟨v,h1,h2⟩:=am2 hT (λb hb=>(hg.hB b hb).1) yB A7;have Il:a'.defers=[]/\∃ v,(results fn a'.tmps).run P w' = .ok v w'/\∃ v',Ending.returned v = .returned v'/\Below w.heap.size w w'/\iI B (λ_=>True) w' jA v':=⟨yB.hd,v,h1,v,rfl,yB.he.below,hle _ _ _ _ h2⟩
 rcases he with rfl|rfl
 .exact Il
 .exact Il
def wO.QB(hT:mw P T)(hm:P.follows .mixedOrders=true)(hp:∀ w w',K w->Below w.heap.size w w'->K w'){f:FuncId}{fn:Func}{c:Code}{args:List E}(yp:∀ (vs:Array Value) (w:World),(callFunc f vs).run P w = .ok (.enter f vs) w)
 (hf:P.funcs[f]? = some fn) (hb:fn.body=some c) (hn:args.length<=fn.ntmps) (nl:Bool) {nl':Bool} {T0:TypeId} {n sz:Nat} {el:Nat->Nat->E}
 (h:Sp P K c (Cs fn nl args) (λe τ=>(e = .ret\/e = .normal)/\∃ t id b,fn.results.toList=[.tmp t]/\τ.get t = .own id/\τ.bo id=some b/\∀ (bs br:Nat->Prop) (L:Lk) (w:World),nB bs br L w id b->nB bs br L w id (.row nl' T0 n sz el))):wO P K f args nl' T0 n sz el:=by
 refine⟨yp,λw B vs hK hB hr=>calls_of_wp hf hb ?_⟩;have uC:=jd.init (fn:=fn) hr hn nl hB;have hg:Gd P K ⟨w,λ_=>False⟩ B:=⟨λw' k=>hp _ _ hK k.below,λb hb=>⟨⟨(hB b hb).1,λh=>h⟩,(hB b hb).2⟩⟩
 refine Code.wp_mono ?_ (h ⟨w,λ_=>False⟩ B _ w _ hg uC);rintro e a' w' ⟨ex,τ,L',rfl,⟨he,t,id,b,A7,hg,iV,hle⟩,yB⟩;have ho:=yB.ht t;rw[hg]at ho;obtain⟨pT,hv⟩:=ho;obtain⟨f0,h1,h2,h3⟩:=hle _ _ _ _<|yB.hb id b iV;have ki:(results fn a'.tmps).run P w' = .ok (L'.val id) w':=by
  rw[RC,Sem.run_bind,arE,A7,Sem.run_map,gU];simp only[Ee,Sem.run_bind,Sem.run_pure,Result.andThen_ok,List.mapM_nil,hv];simp
 have Il:a'.defers=[]/\∃ v,(results fn a'.tmps).run P w' = .ok v w'/\∃ v',Ending.returned v = .returned v'/\Below w.heap.size w w'/\∃ g,nb w' v' T0 n sz g nl'/\(∀ x,v'.ownBlock=some x->w.heap.size<=x/\x<w'.heap.size) /\
  ∀ i j,i<n->j<sz->iI (λb=>B b\/v'.ownBlock=some b) (λ_=>True) w' (el i j) (g i j)/\(el i j).nr 2=true:=by
  refine⟨yB.hd,_,ki,_,rfl,yB.he.below,f0,h1,λx hx=>yB.aje<|(h2 x).2 hx,λi j hi hj=>⟨?_,(h3 i j hi hj).2⟩⟩;refine((h3 i j hi hj).1.pn (bs':=λb=>B b\/(L'.val id).ownBlock=some b) (br':=jl L') (λb hb=>?_) λ_ h=>h).nr 2 (h3 i j hi hj).2;rcases hb with hb|hb
  .exact .inl hb
  .exact .inr ⟨id,(h2 b).2 hb⟩
 rcases he with rfl|rfl
 .exact Il
 .exact Il
end
def J4(P:Program):List TI->Prop
 | []=>True
 |x::l=>(P.underlying x.id=some x.d/\P.info? x.id=some x.i)/\J4 P l
def J4.ok{P:Program}{T:List TI}(h:J4 P T):mw P T:=by
 induction T with
 |nil=>intro x hx;simp at hx
 |cons y l ih=>
  intro x hx;rcases cP.1 hx with hx|hx
  .subst hx;exact h.1
  .exact ih h.2 x hx
def E.le(p q:E):Prop:=∀ (bs br:Nat->Prop) (w:World) (v:Value),iI bs br w p v->iI bs br w q v
def E.le.refl(p:E):E.le p p:=λ_ _ _ _ h=>h
def E.le.jP{p q:E}(h:p=q):E.le p q:=h▸E.le.refl p
def E.le.trans{p q r:E}(h:E.le p q)(k:E.le q r):E.le p r:=λ_ _ _ _ x=>k _ _ _ _<|h _ _ _ _ x
def PV.le.e{p q:E}(h:E.le p q):aj p q:=λbs br _ w v k=>h bs br w v k
def PV.le.bool{a b:Bool}(h:a=b):aj (.v<|.bool a)<|.v<|.bool b:=PV.le.e<|.jP<|by rw[h]
def PV.le.int{k:IntKind}{a b:Int}(h:a=b):aj (.v<|.int k a)<|.v<|.int k b:=PV.le.e<|.jP<|by rw[h]
def aq(a b:Int)(h:a=b:=by omega):aj (.v<|.int .i64 a)<|.v<|.int .i64 b:=.int h
inductive tW:List E->List E->Prop
 |nil:tW [] []
 |cons {p q:E} {l m:List E} (h:E.le p q) (k:tW l m):tW (p::l)<|q::m
def tW.refl:∀ l:List E,tW l l
 | []=>.nil
 |p::l=>.cons (.refl p)<|tW.refl l
def tW.Mp{l m:List E}(h:tW l m){bs br:Nat->Prop}{w:World}{vs:List Value}(k:kf bs br w l vs):kf bs br w m vs:=by
 induction h generalizing vs with
 |nil=>exact k
 |cons h _ ih=>
  obtain⟨x,ys,rfl,h1,h2⟩:=k.mY;exact .cons (h _ _ _ _ h1)<|ih h2
def E.le.agg{l m:List E}(h:tW l m):E.le (.agg l)<|.agg m:=λ_ _ _ _ k=>by
 obtain⟨vs,rfl,hr⟩:=iI.EM k;exact(h.Mp hr).agg
def E.le.ix{l m:List E}(h:tW l m):E.le (.ix l)<|.ix m:=λ_ _ _ _ k=>by
 obtain⟨vs,rfl,hr⟩:=iI.abR k;exact(h.Mp hr).ix
def E.le.nil(nl:Bool)(sz:Nat)(el:Nat->Nat->E):E.le (.v<|.slice none 0 0)<|.sl nl 0 sz el:=λ_ _ _ _ k=>by
 obtain rfl:=iI.kG k;exact .sl nl 0 sz el none 0 (λ_ _=>undef) (a7 _) aE (λ_=>rfl) (λi j h=>absurd h<|bt i) (λi j h=>absurd h<|bt i) (λi j h=>absurd h<|bt i) λi j h=>absurd h<|bt i
def E.le.sl{nl:Bool}{n sz:Nat}{el el':Nat->Nat->E}(h:∀ i j,i<n->j<sz->E.le (el i j) (el' i j)/\(el' i j).nr 2=true):E.le (.sl nl n sz el)<|.sl nl n sz el':=λbs br w v k=>by
 cases k with
 |sl _ _ _ _ A c f hc hm h0 hl hr cell kk=>
  exact .sl nl n sz el' A c f hc hm h0 hl (λi j hi hj=>(h i j hi hj).2) cell λi j hi hj=>(h i j hi hj).1 _ _ _ _<|kk i j hi hj
def PC.le{P:Program}{K:World->Prop}{f:FuncId}{args args':List E}{jA res':E}(h:PC P K f args jA)(ha:tW args' args)(hr:E.le jA res'):PC P K f args' res':=
 ⟨h.call,λw B vs hK hB r7=>(h.run w B vs hK hB<|ha.Mp r7).mono λ_ _ ⟨v,h1,h2,h3⟩=>⟨v,h1,h2,hr _ _ _ _ h3⟩⟩
def PC.jA{P:Program}{K:World->Prop}{f:FuncId}{args:List E}{jA res':E}(h:PC P K f args jA)(hr:E.le jA res'):PC P K f args res':=h.le (tW.refl _) hr
end Go.Proofs.YtjkmahljfblobaaGreatDoor.Pu
namespace Go.Proofs.YtjkmahljfblobaaGreatDoor
open Go.RowKit Fp
section
variable(A:Option Addr)(c:Nat)(L:List Nat)(w:World)(hs:Sl w A c L)
def wA:
 Calls prog 235 #[.slice A L.length c] w λe w'=>e = .returned (.slice A (iO L).length c)/\w=w':=by
 have hc:=hs.cap;have hl:=hs.rS;go_enter func235,ntmps235;go_wp2;go_loop [3] (λi=>∃ k:Nat,k<=L.length/\i = .int .i64 k/\mS L=mS (L.take k)) (λi=>(intOf i).toNat)
 case atStart=>exact⟨L.length,a7 _,rfl,aH⟩
 case round=>
  obtain⟨k,hk,rfl,ht⟩:=hrel;have HT:=arM ht;clear ht;by_cases h0:0<k
  .obtain ⟨ab,ao,rfl,hb,h1⟩:=hs.mE (i:=k-1) aC ;have e1:((k:Int)-1).toNat=k-1:= aC ;have Z:=arM<|Sb L (k-1) aC;have NZ:=arM<|Sa L (k-1) aC;rw[gP h0]at Z NZ;generalize L[k-1]=x at *
   by_cases hx:x=0
   .have Hx:=arM hx;clear hx;have hb:((x:Int)==0)=true:=by have:=Hx.out;simp;omega
    go_wp2;go_round
    case rel=>exact⟨k-1,aC,by go_num,by rw[HT.out,Z.out Hx.out]⟩
    case measure=>simp[intOf];omega
   .have hb:((x:Int)==0)=false:= aN ;go_wp2;go_ret;exact⟨Mt<|by show _=mS L;rw[HT.out,NZ.out hx],rfl⟩
  .go_wp2;go_ret;have:k=0:= aC ;subst this;exact⟨Mt<|by show _=mS L;rw[HT.out];rfl,rfl⟩
def agb:
 Calls prog 200 #[.slice A L.length c] w λe w'=>e = .returned (.slice A (iO L).length c)/\w=w':=by
 have hc:=hs.cap;have hl:=hs.rS;go_enter func200,ntmps200;go_wp2;go_loop [3] (λi=>∃ k:Nat,k<=L.length/\i = .int .i64 k/\mS L=mS (L.take k)) (λi=>(intOf i).toNat)
 case atStart=>exact⟨L.length,a7 _,rfl,aH⟩
 case round=>
  obtain⟨k,hk,rfl,ht⟩:=hrel;have HT:=arM ht;clear ht;by_cases h0:0<k
  .obtain ⟨ab,ao,rfl,hb,h1⟩:=hs.mE (i:=k-1) aC ;have e1:((k:Int)-1).toNat=k-1:= aC ;have Z:=arM<|Sb L (k-1) aC;have NZ:=arM<|Sa L (k-1) aC;rw[gP h0]at Z NZ;generalize L[k-1]=x at *
   by_cases hx:x=0
   .have Hx:=arM hx;clear hx;have hb:((x:Int)==0)=true:=by have:=Hx.out;simp;omega
    go_wp2;go_round
    case rel=>exact⟨k-1,aC,by go_num,by rw[HT.out,Z.out Hx.out]⟩
    case measure=>simp[intOf];omega
   .have hb:((x:Int)==0)=false:= aN ;go_wp2;go_ret;exact⟨Mt<|by show _=mS L;rw[HT.out,NZ.out hx],rfl⟩
  .go_wp2;go_ret;have:k=0:= aC ;subst this;exact⟨Mt<|by show _=mS L;rw[HT.out];rfl,rfl⟩
end
def Sl.vG{w:World}{A:Option Addr}{c:Nat}{L:List Nat}(h:Sl w A c L):Sl w A c<|iO L:=(h.take<|mS L).eqv (MO L).symm
def adW:Go.Shelf.Ren:=⟨λ|128=>284|n=>n,λ|51=>95|3=>3|4=>4|46=>134|5=>5|9=>9|n=>n,λ|n=>n⟩
def adS:Go.Proofs.Lays.n128 prog adW:={
 mixed:= aF 
 f128:=func284.trans (congrArg some aF)
 t3:=underlying3
 a3:=Tryz.isAgg3
 z3:=Tryz.sizeOf3
 v3:=Tryz.zeroValue3
 t4:=underlying4
 a4:=Tryz.isAgg4
 z4:=Tryz.sizeOf4
 v4:=Tryz.zeroValue4
 t5:=underlying5
 a5:=Tryz.isAgg5
 z5:=Tryz.sizeOf5
 v5:=Tryz.zeroValue5
 t9:=underlying9
 a9:=Tryz.isAgg9
 z9:=Tryz.sizeOf9
 v9:=Tryz.zeroValue9
 t46:=underlying134
 a46:=Tryz.isAgg134
 z46:=Tryz.sizeOf134
 v46:=Tryz.zeroValue134
 t51:=underlying95
 a51:=Tryz.isAgg95
 z51:=Tryz.sizeOf95
 v51:=Tryz.zeroValue95 }
def Ye(x:Nat)(hx:x<4294967296)(w:World):
 Calls prog 284 #[.int .u32 x] w λe w'=>e = .returned (.int .i64<|iq x)/\w=w':=by
 refine(Any.bits_Len32 adS x w aC aC).mono ?_;rintro e w' ⟨rfl,rfl⟩;rw[fz,adM x hx];exact⟨rfl,rfl⟩
def apl(x k idx:Nat)(w:World)(o9:((x:Int)==0)=false)
 (key:bits BinOp.and IntKind.u32 (x:Int) (-(x:Int)%4294967296)*125613361%4294967296/134217728=(idx:Int))
 (hi:idx<32) (hk:k<32) (kr:w.cell? ⟨0,idx,none⟩=some (.int .u8 k)):
 Calls prog 249 #[.int .u32 x] w λe w'=>e = .returned (.int .i64 k)/\w=w':=by
 go_enter func249,ntmps249;go_wp2_with (simp only[key])
 go_ret;exact⟨rfl,rfl⟩
def apk(x:Nat)(h0:x≠0)(hx:x<4294967296)(w:World)(hT:Tb w):
 Calls prog 249 #[.int .u32 x] w λe w'=>e = .returned (.int .i64<|jU x)/\w=w':=by
 rw[<-afg x h0 hx];obtain⟨Fu,hk⟩:=Lib.lowest_bit 32 x h0 hx;obtain⟨hi,ajc⟩:=Lib.deBruijn32_at _ hk;have kr:=hT _ hi;rw[ajc]at kr;exact apl x _ _ w aN (tz32_key x _ hx h0 Fu) hi hk kr
def i64_in(n:Int)(h0:-9223372036854775808<=n:=by omega)(h1:n<=9223372036854775807:=by omega):IntKind.i64.wrap n=n:=by rw[IntKind.wrap_i64];omega
def TM{L M:List Nat}{n:Nat}(hs:iQ L)(hM:iO L=M)(hn:M.length=n+1):
 ∃ x,M[n]? = some x/\x<4294967296/\(32*(n:Int)+(iq x:Int))=(iq<|val L:Int)/\iq x<=32:=by
 have hk:iQ M:=hM▸hs.iO;have ht:pB M:=hM▸BE L;rcases aq1 M with rfl|⟨l,x,rfl⟩
 .simp at hn
 .simp only[aq2,cK,gL,Nat.add_right_cancel_iff]at hn hk ht hM ⊢;subst hn;have hx:x≠0:=by simpa using(CO _).1 ht aH 
  have iE:x<4294967296:=hk x aH;refine⟨x,aH,iE,?_,me.2 iE⟩;have:=adV hk hx;rw[<-hM,qL]at this;omega
def Y2(A:Option Addr)(c:Nat)(L:List Nat)(w:World)(hs:Sl w A c L)(hlen:L.length<=100000000):
 Calls prog 237 #[.slice A L.length c] w λe w'=>e = .returned (.int .i64<|iq<|val L)/\w=w':=by
 have hT:=arM<|wA A c L w hs;have lv:=hs.vG;have oE:=qh L;unfold mS at oE;generalize hM:iO L=M at *
 obtain⟨n,hn⟩:∃ n,n=M.length:=⟨_,rfl⟩
 rw[<-hn]at hT oE;rcases n with _|n
 .have hv:iq (val L)=0:=by rw[<-qL,hM,dw hn.symm];rfl
  have HV:=arM hv;clear hv hM hn;go_enter func237,ntmps237;go_wp2_with (go_at_call 235;refine hT.out.mono ?_;rintro e w' ⟨rfl,rfl⟩)
  go_ret;exact⟨by rw[HV.out];rfl,rfl⟩
 .obtain ⟨x,hx,iE,hb,aiF⟩:=TM hs.ok hM hn.symm;obtain⟨ab,ao,rfl,_,kr⟩:=lv.cell _ _ hx;have HB:=arM hb;clear hb hM hn hx;go_enter func237,ntmps237;go_wp2_with (first|(go_at_call 235;refine hT.out.mono ?_;rintro e w' ⟨rfl,rfl⟩)|(go_at_call 284;refine(Ye x iE _).mono ?_;rintro e w' ⟨rfl,rfl⟩))
  go_ret;exact⟨rf HB.out,rfl⟩
def adU{x:Nat}(h:x≠0):iq x=iq (x/2)+1:=by
 by_cases h1:x/2=0
 .have:x=1:= aC ;subst this;rfl
 .have e1:=tV h1;have e2:=sc<|x/2;have e3:=oV h1;generalize iq (x/2)=k at *
  obtain⟨j,rfl⟩:∃ j,k=j+1:=⟨k-1,aC⟩
  rw[eE]at e1;refine AB ?_ ?_
  .rw [bF];omega
  .rw [bF];omega
def amK(A:Option Addr)(c:Nat)(L:List Nat)(w:World)(hs:Sl w A c L)(ht:pB L)(hlen:L.length<=100000000):
 Calls prog 59 #[.slice A L.length c] w λe w'=>e = .returned (.int .i64<|iq<|val L)/\w=w':=by
 obtain⟨n,hn⟩:∃ n,n=L.length:=⟨_,rfl⟩
 rcases n with _|n
 .have hv:iq (val L)=0:=by rw[dw hn.symm];rfl
  have HV:=arM hv;rw[<-hn];clear hv ht hn;go_enter func59,ntmps59;go_wp2;go_ret;exact⟨by rw[HV.out];rfl,rfl⟩
 .obtain ⟨x,hx,iE,hb,aiF⟩:=TM hs.ok ht hn.symm;obtain⟨ab,ao,rfl,_,kr⟩:=hs.cell _ _ hx;have HB:=arM hb;rw[<-hn]at hlen ⊢;clear hb ht hn hx;go_enter func59,ntmps59;go_wp2;go_loop [3,4] (λm y=>∃ (k z:Nat),z<4294967296/\y = .int .u32 z/\m = .int .i64 k/\k<=10000000000/\k+iq z=iq (val L)) (λ_ y=>(intOf y).toNat)
  case atStart=>exact⟨32*n,x,iE,rfl,by go_num,aC,by have:=HB.out;omega⟩
  case round=>
   obtain⟨k,z,hz,rfl,rfl,hk,he⟩:=hrel;have HE:=arM he;clear he;by_cases h0:0<z
   .have hh:=arM<|adU (x:=z) aC;have xf:k<=3300000000:=by have:=HE.out;have:=HB.out;omega
    go_wp2;go_round
    case rel=>exact⟨k+1,z/2,aC,by go_num,by go_num,aC,by rw[<-HE.out,hh.out];omega⟩
    case measure=>simp[intOf];omega
   .obtain rfl:z=0:= aC ;go_wp2;go_ret;exact⟨rf<|by rw[<-HE.out];rfl,rfl⟩
def ae6{L M:List Nat}(hL:iQ L)(h:(iO L).length<(iO M).length):kI (val L) (val M) = -1:=by
 have:=MT hL.iO (BE M) h;rw[qL,qL]at this;unfold kI;rw[aY this]
def ae5{L M:List Nat}(hM:iQ M)(h:(iO M).length<(iO L).length):kI (val L) (val M)=1:=by
 have:=MT hM.iO (BE L) h;rw[qL,qL]at this;unfold kI;rw[aX aC,aY this]
def Uk{M N:List Nat}(hM:iQ M){k x y:Nat}(hl:M.length=N.length)(hx:M[k]? = some x)(hy:N[k]? = some y)(hd:M.drop (k+1)=N.drop (k+1))(h:x<y):val M<val N:=by
 obtain⟨h1,rfl⟩:=ca.1 hx;obtain⟨h2,rfl⟩:=ca.1 hy;exact apx hM k h1 hl hd h
def afY{M N:List Nat}{k x:Nat}(hx:M[k]? = some x)(hy:N[k]? = some x)(hd:M.drop (k+1)=N.drop (k+1)):M.drop k=N.drop k:=by
 obtain⟨h1,e1⟩:=ca.1 hx;obtain⟨h2,e2⟩:=ca.1 hy;rw[fw h1,fw h2,e1,e2,hd]
def LV(A B:Option Addr)(c d:Nat)(L M:List Nat)(w:World)(hs:Sl w A c L)(hr:Sl w B d M)(h1:L.length<=100000000)(_h2:M.length<=100000000):
 Calls prog 180 #[.slice A L.length c,.slice B M.length d] w λe w'=>e = .returned (.int .i64<|kI (val L)<|val M)/\iZ w w':=by
 have hT:=arM<|wA A c L w hs;have hU:=arM<|wA B d M w hr;have lv:=hs.vG;have qb:=hr.vG;have oE:=qh L;have yy:=qh M;unfold mS at oE yy;by_cases iE:(iO L).length<(iO M).length
 .have HV:=arM<|ae6 hs.ok iE;have jD:(((iO L).length:Int) != ((iO M).length:Nat))=true:= aN ;generalize (iO L).length=n at *
  generalize (iO M).length=m at *
  clear lv qb;go_enter func180,ntmps180;go_wp2_with fail;refine hT.out.mono ?_;rintro e w' ⟨rfl,rfl⟩;go_wp2_with fail;refine hU.out.mono ?_;rintro e w' ⟨rfl,rfl⟩;go_wp2;go_ret;exact⟨rf<|by rw[HV.out],iZ.refl _⟩
 .by_cases WK:(iO M).length<(iO L).length
  .have HV:=arM<|ae5 hr.ok WK;have jD:(((iO L).length:Int) != ((iO M).length:Nat))=true:= aN ;generalize (iO L).length=n at *
   generalize (iO M).length=m at *
   clear lv qb;go_enter func180,ntmps180;go_wp2_with fail;refine hT.out.mono ?_;rintro e w' ⟨rfl,rfl⟩;go_wp2_with fail;refine hU.out.mono ?_;rintro e w' ⟨rfl,rfl⟩;go_wp2;go_ret;exact⟨rf<|by rw[HV.out],iZ.refl _⟩
  .have hl:(iO L).length=(iO M).length:= aC ;have HL:=arM hl;rw[<-hl]at hU yy;have e1:=qL L;have e2:=qL M;generalize iO L=P at *
   generalize iO M=Q at *
   have E1:=arM e1;have E2:=arM e2;clear e1 e2 hl WK iE;obtain⟨n,hn⟩:∃ n,n=P.length:=⟨_,rfl⟩
   rw[<-hn]at hT hU yy oE;have HN:=arM hn;clear hn;have jD:((n:Int) != (n:Int))=false:= aH ;have okP:=lv.ok;have Je:=qb.ok;go_enter func180,ntmps180;go_wp2_with fail;refine hT.out.mono ?_;rintro e w' ⟨rfl,rfl⟩;go_wp2_with fail;refine hU.out.mono ?_;rintro e w' ⟨rfl,rfl⟩;go_wp2;go_loopw [5] (λi wr=>∃ k:Nat,k<=n/\i = .int .i64 ((k:Int)-1)/\P.drop k=Q.drop k/\iZ w wr) (λi _=>(intOf i+1).toNat)
   case atStart=>exact⟨n,a7 _,rfl,by rw[fu<|by rw[<-HN.out];exact a7 _,fu<|by rw[<-HL.out,<-HN.out];exact a7 _],iZ.refl _⟩
   case round=>
    obtain⟨k,hk,rfl,hd,hb⟩:=hrel;have HD:=arM hd;clear hd;rcases k with _|k
    .go_wp2;go_ret;have e:P=Q:=by simpa using HD.out
     exact⟨rf<|by rw[<-E1.out,<-E2.out,e];unfold kI;simp,hb⟩
    .have PA:k<P.length:=by have:=HN.out;omega
     have Ia:k<Q.length:=by have:=HN.out;have:=HL.out;omega
     have HP:=arM<|bk PA;have HQ:=arM<|bk Ia;obtain⟨ab,ao,rfl,_,c1⟩:=(lv.below hb).mE PA;obtain⟨bb,bo,rfl,_,c2⟩:=(qb.below hb).mE Ia;have xh:(k:Int)<n:= aC ;have ux:(0:Int)<=k:= aC ;have x0:(0:Int)<=P[k]:= aC ;have y0:(0:Int)<=Q[k]:= aC ;generalize P[k]=x at *
     generalize Q[k]=y at *
     clear PA Ia;by_cases rM:x<y
     .have ajf:(x:Int)<y:= aC ;go_wp2;go_quiet (fail);go_wp2;go_ret;have h:=Uk okP HL.out HP.out HQ.out HD.out rM;rw[E1.out,E2.out]at h;exact⟨rf<|by unfold kI;rw[aY h],below_drewN hb _⟩
     .have ajf:¬(x:Int)<y:= aC ;by_cases hyx:y<x
      .have ajg:(y:Int)<x:= aC ;go_wp2;go_quiet (fail);go_wp2;go_quiet (fail);go_wp2;go_ret;have h:=Uk Je HL.out.symm HQ.out HP.out HD.out.symm hyx;rw[E1.out,E2.out]at h;exact⟨rf<|by unfold kI;rw[aX aC,aY h],below_drewN (below_drewN hb _) _⟩
      .have ajg:¬(y:Int)<x:= aC ;have HX:=arM (aC:x=y);go_wp2;go_quiet (fail);go_wp2;go_quiet (fail);go_wp2;go_roundw
       case rel=>exact⟨k,aC,by go_num,afY HP.out (by rw[HX.out];exact HQ.out) HD.out,by repeat (first|exact hb|refine below_drewN ?_ _)⟩
       case measure=>simp[intOf];try omega
def NR(A:Option Addr)(c:Nat)(L:List Nat)(w:World)(hs:Sl w A c L):
 Calls prog 203 #[.slice A L.length c] w λe w'=>e = .returned (.slice A L.length L.length)/\w=w':=by
 have hc:=hs.cap;have hl:=hs.rS;go_enter func203,ntmps203;go_wp2;go_ret;exact⟨rfl,rfl⟩
def Sl.Uf{w:World}{A:Option Addr}{c:Nat}{L:List Nat}(h:Sl w A c L):Sl w A L.length L:=
 ⟨a7 _,bg h.cap h.rS,h.ok,(λe=>by have:=h.z8 e;have:=h.cap;omega),h.cell⟩
section
variable(A:Option Addr)(c:Nat)(L:List Nat)(w:World)(hs:Sl w A c L)(hlen:L.length<=100000000)
def NS:
 Calls prog 204 #[.slice A L.length c] w (y4 w L):=by
 have hc:=hs.cap;have hl:=hs.rS;rcases A with _|ad
 .have h0:=hs.z8 rfl;subst h0;have:L=[]:=dw aC;subst this;have q:=λ(w:World) (n' c':Nat)=>Lib.run_eql_slice_nil (P:=prog) w 35 _ none 0 0 n' c' underlying35
  simp only[Option.isNone_none]at q;go_enter func204,ntmps204;go_wp2;go_ret;exact⟨none,0,rfl,Sl.nil _,iZ.refl _⟩
 .have q:=λ(w:World) (n' c':Nat)=>Lib.run_eql_slice_nil (P:=prog) w 35 _ (some ad) L.length c n' c' underlying35
  simp only[Option.isNone_some]at q;go_enter func204,ntmps204;have mP:([]:List Nat).length+L.length<=10000000000:= aN ;have h1:=Ow.empty w w.heap.size<|a7 _;have h2:=hs.alloc<|.cells #[] 95;have h3:=yF (w:=w) (a7 _)<|.cells #[] 95;go_wp2_with (at_builtin;go_must (refine BI aG _ _ aG w.heap.size _ [] aG h1 _ _ _ L aG aG h2 mP h3 ?_);intro v' w' lq hg tw)
  obtain⟨A',c',rfl,qR⟩:=lq.sl;go_ret;exact⟨A',c',rfl,qR,(iZ.alloc _ _).grown hg (yF (a7 _) _) (λk hk=>by simp[Value.ownBlock]at hk;omega)⟩
def Rz:
 Calls prog 218 #[.slice A L.length c] w (y4 w<|iO L):=by
 have hc:=hs.cap;have hl:=hs.rS;have fin:∀ k:Nat,k=(iO L).length->Hid (iO L=L.take k):=λk hk=>by rw[hk];exact MO L
 go_enter func218,ntmps218;go_wp2;go_loop [3] (λi=>∃ k:Nat,k<=L.length/\i = .int .i64 k/\mS L=mS (L.take k)) (λi=>(intOf i).toNat)
 case atStart=>exact⟨L.length,a7 _,rfl,aH⟩
 case round=>
  obtain⟨k,hk,rfl,ht⟩:=hrel;have HT:=arM ht;clear ht;have mP:([]:List Nat).length+(L.take k).length<=10000000000:=by rw[cB];simp;omega
  have HK:=arM (show k=(L.take k).length by rw[cB];omega);have h1:=Ow.empty w w.heap.size<|a7 _;have h2:=(hs.take k).alloc<|.cells #[] 95;have h3:=yF (w:=w) (a7 _)<|.cells #[] 95;by_cases h0:0<k
  .obtain ⟨ab,ao,rfl,hb,LA⟩:=hs.mE (i:=k-1) aC ;have e1:((k:Int)-1).toNat=k-1:= aC ;have Z:=arM<|Sb L (k-1) aC;have NZ:=arM<|Sa L (k-1) aC;rw[gP h0]at Z NZ;generalize L[k-1]=x at *
   by_cases hx:x=0
   .have Hx:=arM hx;clear hx;have hb:((x:Int)==0)=true:=by have:=Hx.out;simp;omega
    clear fin;go_wp2;go_round
    case rel=>exact⟨k-1,aC,by go_num,by rw[HT.out,Z.out Hx.out]⟩
    case measure=>simp[intOf];omega
   .have hb:((x:Int)==0)=false:= aN ;have F:=fin k (by show k=mS L;rw[HT.out,NZ.out hx]);clear fin;go_wp2_with (at_builtin;go_must (refine BI aG _ _ aG w.heap.size _ [] aG h1 _ _ _ (L.take k) aG HK.out h2 mP h3 ?_);intro v' w' lq hg tw)
    obtain⟨A',c',rfl,qR⟩:=lq.sl;go_ret;rw[F.out];exact⟨A',c',rfl,qR,(iZ.alloc _ _).grown hg (yF (a7 _) _) (λk hk=>by simp[Value.ownBlock]at hk;omega)⟩
  .have:k=0:= aC ;subst this;have F:=fin 0 (by show 0=mS L;rw[HT.out];rfl);clear fin;go_wp2_with (at_builtin;go_must (refine BI aG _ _ aG w.heap.size _ [] aG h1 _ _ _ (L.take 0) aG HK.out h2 mP h3 ?_);intro v' w' lq hg tw)
   obtain⟨A',c',rfl,qR⟩:=lq.sl;go_ret;rw[F.out];exact⟨A',c',rfl,qR,(iZ.alloc _ _).grown hg (yF (a7 _) _) (λk hk=>by simp[Value.ownBlock]at hk;omega)⟩
end
def Yn(A:Option Addr)(n c:Nat)(w:World):
 Calls prog 283 #[.slice A n c] w λe w'=>e = .returned (.bool<|decide (256<n))/\w=w':=by
 by_cases h:256<n
 .have h':(256:Int)<n:= aC ;go_enter func283,ntmps283;go_wp2;go_ret;exact⟨by simp[h],rfl⟩
 .have h':¬(256:Int)<n:= aC ;go_enter func283,ntmps283;go_wp2;go_ret;exact⟨aH,rfl⟩
def Nl(w:World)(g:Nat)(xs:List<|Option Addr×Nat×Nat):Prop:=∀ i x,xs[i]? = some x->w.cell? ⟨g,i,none⟩=some (.slice x.1 x.2.1 x.2.2)
section
variable(xs:List<|Option Addr×Nat×Nat)
def yU:Bool:=xs.any λx=>decide (256<x.2.1)
def acx(w:World)(e:Ending)(w':World):Prop:=
 ∃ n:Int,e = .returned (.int .i64 n)/\(0<=n↔yU xs=true)/\w=w'
end
section
variable(g:Nat)(xs:List<|Option Addr×Nat×Nat)(w:World)(hs:Nl w g xs)(hn:xs.length<=1000)
def ajq:
 Calls prog 335 #[.slice (some ⟨g,0,none⟩) xs.length xs.length,.func (.func 283) #[] #[]] w (acx xs w):=by
 go_enter func335,ntmps335;go_wp2;go_loop [8] (λi=>∃ k:Nat,k<=xs.length/\i = .int .i64 k/\yU (xs.take k)=false) (λi=>xs.length-(intOf i).toNat)
 case atStart=>exact⟨0,b7 _,rfl,rfl⟩
 case round=>
  obtain⟨k,hk,rfl,ht⟩:=hrel;have HT:=arM ht;clear ht;by_cases h0:k<xs.length
  .have hc:=hs k _<|bk h0;have e1:((k:Int)).toNat=k:= aC ;have ec:=acI g k;have HX:=arM (show yU (xs.take<|k+1)=(yU (xs.take k)||decide (256<xs[k].2.1))by
    unfold yU;rw[fZ h0,List.any_append];simp)
   have HM:=arM<|b9 h0;generalize xs[k]=x at *
   obtain⟨A,n,c⟩:=x;simp only at hc HX;by_cases hx:256<n
   .have hb:decide (256<n)=true:=by simp[hx]
    go_wp2_with (go_at_call 283;refine(Yn A n c _).mono ?_;rw[hb];rintro e w' ⟨rfl,rfl⟩)
    go_ret;refine⟨_,rfl,⟨λ_=>?_,λ_=> aC⟩,rfl⟩;unfold yU;rw[dc];exact⟨_,HM.out,by simpa using hx⟩
   .have hb:decide (256<n)=false:= aN ;go_wp2_with (go_at_call 283;refine(Yn A n c _).mono ?_;rw[hb];rintro e w' ⟨rfl,rfl⟩)
    go_round
    case rel=>exact⟨k+1,aC,by go_num,by rw[HX.out,HT.out,hb];rfl⟩
    case measure=>simp[intOf];omega
  .go_wp2;go_ret;have e:xs.take k=xs:=cX aC;have:=HT.out;rw[e]at this;exact⟨_,rfl,by rw[this];simp,rfl⟩
def afb:
 Calls prog 282 #[.slice (some ⟨g,0,none⟩) xs.length xs.length,.func (.func 283) #[] #[]] w λe w'=>e = .returned (.bool<|yU xs)/\w=w':=by
 have H:=arM<|ajq g xs w hs hn;go_enter func282,ntmps282;go_wp2_with fail;refine H.out.mono ?_;rintro e w' ⟨n,rfl,hn,rfl⟩;have HN:=arM hn;clear hn;go_wp2;go_ret;refine⟨aao ?_,rfl⟩;have:=HN.out;cases h:yU xs<;>simp[h]at this ⊢ <;> omega
def Yp:
 Calls prog 232 #[.slice (some ⟨g,0,none⟩) xs.length xs.length] w λe w'=>e = .returned (.bool<|yU xs)/\w=w':=by
 have H:=arM<|afb g xs w hs hn;go_enter func232,ntmps232;go_wp2_with fail;refine H.out.mono ?_;rintro e w' ⟨rfl,rfl⟩;go_wp2;go_ret;exact⟨rfl,rfl⟩
end
def Qt(g:Nat)(A:Option Addr)(n c:Nat)(w:World)(b:Bool)(h:w.cell? ⟨g,0,none⟩=some (.slice A n c))(hb:b=decide (256<n)):
 Calls prog 232 #[.slice (some ⟨g,0,none⟩) 1 1] w λe w'=>e = .returned (.bool b)/\w=w':=by
 have:=Yp g [(A,n,c)] w (λi x hx=>by
  obtain⟨h1,h2⟩:=ca.1 hx;obtain rfl:i=0:=by simp at h1;omega
  simp at h2;subst h2;exact h) aH 
 simpa[yU,hb]using this
def Yo(g:Nat)(A B:Option Addr)(n c m d:Nat)(w:World)(b:Bool)(h:w.cell? ⟨g,0,none⟩=some (.slice A n c))(k:w.cell? ⟨g,1,none⟩=some (.slice B m d))(hb:b=(decide (256<n)||decide (256<m))):
 Calls prog 232 #[.slice (some ⟨g,0,none⟩) 2 2] w λe w'=>e = .returned (.bool b)/\w=w':=by
 have:=Yp g [(A,n,c),(B,m,d)] w (λi x hx=>by
  obtain⟨h1,h2⟩:=ca.1 hx;simp at h1;rcases i with _|_|i
  .simp at h2;subst h2;exact h
  .simp at h2;subst h2;exact k
  .omega) aH 
 simpa[yU,hb]using this
def I8(A:Option Addr)(c:Nat)(L:List Nat)(w:World)(hs:Sl w A c L)(hl:(iO L).length<=256):
 Calls prog 233 #[.slice A L.length c] w (EJ w (iO L) 0):=by
 have hT:=arM<|wA A c L w hs;have lv:=hs.vG;have hC:=hs.cap;have hL:=hs.rS;have H2:=arM λw' (h:Sl w' A c<|iO L)=>NR A c (iO L) w' h;generalize iO L=M at *
 obtain⟨n,hn⟩:∃ n,n=M.length:=⟨_,rfl⟩
 rw[<-hn]at hT hl H2;have HN:=arM hn;clear hn;go_enter func233,ntmps233;go_wp2_with fail;refine hT.out.mono ?_;rintro e w' ⟨rfl,rfl⟩;go_wp2_with fail;refine(Qt _ A n c _ false ?_ aN).mono ?_
 .go_simp
 rintro e w' ⟨rfl,rfl⟩;go_wp2_with fail;refine(H2.out _<|lv.alloc _).mono ?_;rintro e w' ⟨rfl,rfl⟩;go_wp2;go_ret2;exact⟨A,n,by rw[HN.out];rfl,by have:=lv.Uf.alloc<|.cells #[.slice A n c] 35;rw[HN.out]at this ⊢;exact this,iZ.alloc _ _⟩
def MR(a b:Nat)(ha:a<18446744073709551616:=by omega)(hb:b<18446744073709551616:=by omega):bits .or .u64 (a:Int) (b:Int)=((a |||b:Nat):Int):=by
 have hx:a |||b<2^64:=ard aC aC 
 have h1:(BitVec.ofInt 64 (a:Int)).toNat=a:=by
  rw[gY,gZ];exact cj aC 
 have h2:(BitVec.ofInt 64 (b:Int)).toNat=b:=by
  rw[gY,gZ];exact cj aC 
 show IntKind.u64.wrap ((BitVec.ofInt 64 (a:Int) |||BitVec.ofInt 64 (b:Int)).toNat:Int)=_;rw[BitVec.toNat_or,h1,h2,IntKind.wrap_u64];omega
def Ma(a b k:Nat)(h:a<2^k):a |||b*2^k=a+b*2^k:=by
 rw[bI,Nat.or_comm,<-Nat.two_pow_add_eq_or_of_lt h];omega
def Sl.drop{w:World}{A:Option Addr}{c:Nat}{L:List Nat}(h:Sl w A c L)(k:Nat):Sl w (A.map (·.add k)) (c-k)<|L.drop k:=
 ⟨by have:=h.cap;rw[eK];omega,bg (eU _ _) h.rS,h.ok.drop k,(λe=>by
  rcases A with _|ad
  .rw [h.z8 rfl];omega
  .cases e),λi x hx=>by
  rw[dx]at hx;obtain⟨b,o,rfl,h1,h2⟩:=h.cell _ _ hx;exact⟨b,o+k,by rw[cg,CZ],h1,by rw[cO];exact h2⟩⟩
section
variable(T:List Nat)
def part(k:Nat):List Nat:=T.take k++List.replicate (T.length-k) 0
def al3:part T 0=List.replicate T.length 0:=by unfold part;simp
def al1:part T T.length=T:=by unfold part;simp
def al2(k:Nat)(h:k<T.length):(part T k)[k]? = some 0:=by
 unfold part;rw[fI aQ,cB,gE,aY aC]
def ZN(k x:Nat)(h:T[k]? = some x):(part T k).set k x=part T (k+1):=by
 obtain⟨h1,rfl⟩:=ca.1 h;unfold part;rw[List.set_append_right _ _ aQ,cB,df aC,dA,
  fZ h1,(aC:T.length-k=(T.length-(k+1))+1),List.replicate_succ,List.set_cons_zero,aq7]
 rfl
end
def an8(x y s:Nat)(hx:x<4294967296)(hy:y<4294967296):
 bits BinOp.or IntKind.u64 (x:Int) ((y:Int)*4294967296)/2^s%4294967296=(((x+4294967296*y)/2^s%4294967296:Nat):Int):=by
 have e:((y:Int)*4294967296)=((y*2^32:Nat):Int):= aH ;rw[e,MR x<|y*2^32,Ma x y 32 aC];simp[bI]
def an9(x s:Nat):(x:Int)/2^s%4294967296=(((x+4294967296*0)/2^s%4294967296:Nat):Int):=by
 simp
def QK(A:Option Addr)(c:Nat)(L:List Nat)(n:Nat)(w:World)(hs:Sl w A c L)(hlen:L.length<=100000000)(hn:n<=65536):
 Calls prog 250 #[.slice A L.length c,.int .i64 n] w (y4 w<|rh (n%32)<|(iO L).drop<|n/32):=by
 have hT:=arM<|wA A c L w hs;have lv:=hs.vG;have oE:=qh L;have hC:=lv.cap;have hL:=hs.rS;unfold mS at oE;generalize iO L=M at *
 obtain⟨m,hm⟩:∃ m,m=M.length:=⟨_,rfl⟩
 rw[<-hm]at hT oE hC;have HM:=arM hm;clear hm;by_cases h0:m<=n/32
 .go_enter func250,ntmps250;go_wp2_with fail;refine hT.out.mono ?_;rintro e w' ⟨rfl,rfl⟩;go_wp2;go_ret;have:M.drop (n/32)=[]:=fu (by rw[<-HM.out];exact h0);rw[this];exact⟨none,0,rfl,Sl.nil _,iZ.refl _⟩
 .obtain ⟨ab,ao,rfl,_,_⟩:=lv.mE (i:=0) (by have:=HM.out;omega);have hK:=lv.drop<|n/32;have vW:=arM (show m-n/32=(M.drop<|n/32).length by rw[eK,HM.out]);have nX:n/32<c:= aC ;have xj:=IV (m-n/32) aC;have pR:0<m-n/32:= aC ;have uj:m-n/32<=100000000:= aC ;generalize M.drop (n/32)=K at *
  simp only[cg,CZ]at hK;have Cb:=arM<|ME (n%32) K;have OZ:=arM<|aa6 (n%32) K;have Hu:=arM<|CD (n%32) K;generalize rh (n%32) K=T at *
  go_enter func250,ntmps250;go_wp2_with fail;refine hT.out.mono ?_;rintro e w' ⟨rfl,rfl⟩;go_wp2;go_loopw [25] (λi wr=>∃ k:Nat,k<=m-n/32/\i = .int .i64 k/\Rw wr w.heap.size (part T k)/\iZ w wr) (λi _=>m-n/32-(intOf i).toNat)
  case atStart=>
   refine⟨0,b7 _,rfl,?_,iZ.alloc _ _⟩;rw[al3,Cb.out,<-vW.out];exact Rw.Cx _ _
  case round=>
   obtain⟨k,hk,rfl,hR,hb⟩:=hrel;by_cases iE:k<m-n/32
   .have wb:k<K.length:=by have:=vW.out;omega
    obtain⟨ab',ao',e',_,c1⟩:=(hK.below hb).mE wb;cases e';have hg:=OZ.out k wb;have nP:K[k]<4294967296:=hK.ok.get wb;have HK:=arM<|bk wb;have c3:=hR.cell (al2 T k<|by have:=Cb.out;omega);have c4:=hR.frozen k;by_cases Lp:k+1<m-n/32
    .have AW:k+1<K.length:=by have:=vW.out;omega
     obtain⟨ab',ao',e',_,c2⟩:=(hK.below hb).mE AW;cases e';have hy:K.getD (k+1) 0=K[k+1]:=by rw[bc,bk AW];rfl
     rw[hy]at hg;have rN:K[k+1]<4294967296:=hK.ok.get AW;have HG:=arM hg;clear hg hy;generalize K[k]=x at *
     generalize K[k+1]=y at *
     clear wb AW;go_wp2;go_roundw
     case rel=>
      rw[an8 x y (n%32) nP rN];exact⟨k+1,aC,by go_num,by rw[<-ZN T k _ HG.out];exact hR.set k _,hb.setCell (a7 _) _⟩
     case measure=>simp[intOf];omega
    .have hy:K.getD (k+1) 0=0:=by rw[bc,bX<|by have:=vW.out;omega];rfl
     rw[hy]at hg;have HG:=arM hg;clear hg hy;generalize K[k]=x at *
     clear wb;go_wp2;go_roundw
     case rel=>
      rw[an9 x<|n%32];exact⟨k+1,aC,by go_num,by rw[<-ZN T k _ HG.out];exact hR.set k _,hb.setCell (a7 _) _⟩
     case measure=>simp[intOf];omega
   .go_wp2;go_ret;obtain rfl:k=m-n/32:= aC ;rw[vW.out,<-Cb.out,al1]at hR;have:=hR.sl Hu.out (by have:=Cb.out;have:=vW.out;omega);rw[Cb.out,<-vW.out]at this;exact⟨_,_,by rw[Cb.out,<-vW.out];rfl,this,hb⟩
def an7{L:List Nat}(h:iQ L)(n:Nat):iO (rh (n%32)<|(iO L).drop<|n/32)=ib (val L/2^n):=by
 rw[s8<|CD _ _,MV h.iO,qL]
def SM(w:World)(A:Option Addr)(n c:Nat):(w.alloc<|.cells #[.slice A n c] 35).cell? ⟨w.heap.size,0,none⟩=some (.slice A n c):=by
 rw[World.cell?_alloc_at _ _ _ _ rfl];rfl
section
variable(w:World)(A B:Option Addr)(n c m d:Nat)
def SN:(w.alloc<|.cells #[.slice A n c,.slice B m d] 35).cell? ⟨w.heap.size,0,none⟩=some (.slice A n c):=by
 rw[World.cell?_alloc_at _ _ _ _ rfl];rfl
def SO:(w.alloc<|.cells #[.slice A n c,.slice B m d] 35).cell? ⟨w.heap.size,1,none⟩=some (.slice B m d):=by
 rw[World.cell?_alloc_at _ _ _ _ rfl];rfl
end
def Zb(A:Option Addr)(c:Nat)(L:List Nat)(n:Nat)(w:World)(hs:Sl w A c L)(hlen:L.length<=256)(hn:n<=65536):
 Calls prog 202 #[.slice A L.length c,.int .i64 n] w (EJ w (ib<|val L/2^n) 0):=by
 have hf:decide (256<L.length)=false:= aN ;have h3:=arM<|an7 hs.ok n;have h4:(iO<|rh (n%32)<|(iO L).drop<|n/32).length<=256:=by
  have h1:=qh<|rh (n%32)<|(iO L).drop<|n/32;unfold mS at h1;rw[ME,eK]at h1;have h2:=qh L;unfold mS at h2;omega
 have H1:=arM λw (h:Sl w A c L)=>QK A c L n w h aC hn;generalize rh (n%32) ((iO L).drop<|n/32)=T at *
 go_enter func202,ntmps202;go_wp2_with fail;refine(Qt _ A _ c _ false (SM _ _ _ _) aN).mono ?_;rintro e w' ⟨rfl,rfl⟩;go_wp2_with fail;refine(H1.out _<|hs.alloc _).mono ?_;rintro e w' ⟨A',c',rfl,qR,hb⟩;go_wp2_with fail;refine(I8 A' c' T _ qR h4).mono ?_;rintro e w'' ⟨A'',c'',rfl,we,oY⟩;go_wp2;go_ret2;rw[<-h3.out];exact⟨A'',c'',rfl,we,(iZ.alloc _ _).trans<|hb.trans oY⟩
def Yy(n c:Nat)(hc:n<=c)(hn:c<=10000000000)(w:World):
 (Instr.makeSlice 35 (.int .i64 (n:Int))<|.int .i64 (c:Int)).run prog w = .ok (.slice (some ⟨w.heap.size,0,none⟩) n c) (w.alloc<|.cells (oQ<|List.replicate c 0).toArray 95):=by
 obtain⟨i,hi,hz,h1,h2⟩:=info_parts P8;have hr:=run_make (P:=prog) w 35 95 i _ underlying35 hi hz .i64 .i64 n c aC aC (by rw[h2];omega) aC;rw[hr,fz,fz,h1,b6];refine congrArg (λcs=>Result.ok (Value.slice (some ⟨w.heap.size,0,none⟩) n c)<|w.alloc<|.cells cs 95) ?_;apply Array.ext
 .simp [madeCells,oQ]
 .intro i h1 h2;simp[madeCells,oQ,Value.cells,dZ]
def Ow.Cx(w:World)(base n c:Nat)(hb:base<=w.heap.size)(hc:n<=c)(hn:c<=10000000000):
 Ow (w.alloc<|.cells (oQ<|List.replicate c 0).toArray 95) base (.slice (some ⟨w.heap.size,0,none⟩) n c) (List.replicate n 0):=
 ⟨⟨by simp[oQ],.inr ⟨w.heap.size,c,_,aH,hb,heap_alloc_new w _,by simpa using hc,by simp only[maxLen];omega,by simp[oQ],by
  simp[oQ,List.take_replicate,df hc]⟩⟩,iQ.F6 n⟩
def iZ.own{w w1 w2:World}(h:iZ w w1)(v:Value)(L:List Nat)(ho:Ow w1 w.heap.size v L)(hg:w1.grownBy w2 v.ownBlock):iZ w w2:=
 h.grown hg h.size (λk hk=>(ho.row.lt k hk).1)
def aa2(x q s:Nat)(hx:x<4294967296)(hs:s<32)(hq:q<2^s):
 bits BinOp.or IntKind.u64 (IntKind.u64.wrap<|(x:Int)*2^s) (q:Int)=((x*2^s+q:Nat):Int)/\x*2^s+q<18446744073709551616/\(x*2^s+q)/4294967296<2^s:=by
 have hp:2^s<=2^31:=bO aE aC;have e31:(2:Nat)^31=2147483648:= aE ;have h1:(x+1)*2^s<=4294967296*2^s:=bG _ hx;rw[bL,bN]at h1;have h2:x*2^s<4294967296*2^s:=dg hx<|bn aE;refine⟨?_,aC,aC⟩;have e:((x:Int)*2^s)=((x*2^s:Nat):Int):= aH ;rw[e,IntKind.wrap_u64,show((x*2^s:Nat):Int)%18446744073709551616=((x*2^s:Nat):Int)by omega,MR _ _,Nat.or_comm,Ma q x s hq,Nat.add_comm]
section
variable(A:Option Addr)(c:Nat)(L:List Nat)(n:Nat)(w:World)(hs:Sl w A c L)
def Zf(hlen:L.length<=100000000)(hn:n<=65536):
 Calls prog 236 #[.slice A L.length c,.int .i64 n] w (λe w'=>∃ T,val T=val L*2^n/\iQ T/\T.length=n/32+(iO L).length+1/\y4 w T e w'):=by
 have hT:=arM<|wA A c L w hs;have lv:=hs.vG;have oE:=qh L;have hC:=lv.cap;have hL:=hs.rS;unfold mS at oE;have hv:=arM<|qL L;generalize iO L=M at *
 obtain⟨m,hm⟩:∃ m,m=M.length:=⟨_,rfl⟩
 rw[<-hm]at hT oE hC;have HM:=arM hm;clear hm;have xj:=Yy (n/32) (n/32+m+1) aC aC;rw[show((n/32:Nat):Int)=n/32 by omega,show((n/32+m+1:Nat):Int)=n/32+m+1 by omega]at xj;have OT:=arM<|Ow.Cx w w.heap.size (n/32) (n/32+m+1) (a7 _) aC aC;go_enter func236,ntmps236;go_wp2_with fail;refine hT.out.mono ?_;rintro e w' ⟨rfl,rfl⟩;go_wp2;go_loopw [5,6,23] (λv cy i wr=>∃ (k q:Nat) (O:List Nat),k<=m/\i = .int .i64 k/\cy = .int .u64 q/\q<2^(n%32)/\O.length=n/32+k/\val O+4294967296^(n/32+k)*q=val (M.take k)*2^(n%32)*4294967296^(n/32)/\Ow wr w.heap.size v O/\iZ w wr) (λ_ _ i _=>m-(intOf i).toNat)
 case atStart=>
  exact⟨0,0,List.replicate (n/32) 0,b7 _,rfl,rfl,bn aE,aH,by simp[Ey],OT.out,iZ.alloc _ _⟩
 case round=>
  obtain⟨k,q,O,hk,rfl,rfl,hq,hO,mI,o0,hb⟩:=hrel;have HV:=arM mI;have HO:=arM hO;have Wc:O.length<=200000000:= aC ;have A5:=arM hq;clear mI hO hq;obtain⟨OA,Oc,rfl,DH⟩:=o0.sl;by_cases iE:k<m
  .have DB:k<M.length:=by have:=HM.out;omega
   obtain⟨ab,ao,rfl,_,c1⟩:=(lv.below hb).mE DB;have nP:M[k]<4294967296:=lv.ok.get DB;have HX:=arM<|aa1 (c:=q) (s:=n%32) (n0:=n/32) DB HO.out HV.out;generalize M[k]=x at *
   obtain⟨hw,Cr,Bc⟩:=aa2 x q (n%32) nP (bJ _ aE) A5.out;generalize x*2^(n%32)+q=z at *
   have Ix:=arM Bc;clear Bc;have mP:O.length+[z%4294967296].length<=10000000000:= aN ;go_wp2_with (at_builtin;go_must (refine BI aG _ _ aG w.heap.size _ O aG (o0.alloc _) _ _ _ [z%4294967296] aG aG (Sl.FY _ _ (z%4294967296) aC aC) mP (yF hb.size _) ?_);intro v' w1 yz hg tw)
   go_roundw
   case rel=>
    exact⟨k+1,z/4294967296,O++[z%4294967296],aC,by go_num,by go_num,Ix.out,by rw[cK,HO.out];rfl,HX.out,yz,(hb.trans<|iZ.alloc _ _).own _ _ (o0.alloc _) hg⟩
   case measure=>simp[intOf];omega
  .obtain rfl:k=m:= aC ;have mP:O.length+[q].length<=10000000000:= aN ;have ai8:q<4294967296:=by
    have:=A5.out;have hp:2^(n%32)<=2^31:=bO aE aC;have e31:(2:Nat)^31=2147483648:= aE ;omega
   have hqm:(q:Int)%4294967296=q:= aC ;go_wp2_with (at_builtin;go_must (refine BI aG _ _ aG w.heap.size _ O aG (o0.alloc _) _ _ _ [q] aG aG (Sl.FY _ _ q aC aC) mP (yF hb.size _) ?_);intro v' w1 yz hg tw)
   obtain⟨A',c',rfl,qR⟩:=yz.sl;go_ret;refine⟨O++[q],?_,qR.ok,by rw[cK,HO.out,<-HM.out];rfl,A',c',rfl,qR,(hb.trans<|iZ.alloc _ _).own _ _ (o0.alloc _) hg⟩;have h:=HV.out;rw[cX<|by rw[HM.out];exact a7 _]at h;rw[CP,HO.out,s9,MU,cS,bT,h,<-hv.out,uP,bB,<-bj];congr 2;omega
section
variable(hlen:L.length<=256)(hn:n<=65536)(qm:(ib<|val L*2^n).length<=256)
def QH:
 Calls prog 179 #[.slice A L.length c,.int .i64 n] w (EJ w (ib<|val L*2^n) 0):=by
 have H1:=arM λw (h:Sl w A c L)=>Zf A c L n w h aC hn;obtain⟨R,hR⟩:∃ R,R=ib (val L*2^n):=⟨_,rfl⟩
 rw[<-hR]at qm ⊢;have HR:=arM hR;clear hR;go_enter func179,ntmps179;go_wp2_with fail;refine(Qt _ A _ c _ false (SM _ _ _ _) aN).mono ?_;rintro e w' ⟨rfl,rfl⟩;go_wp2_with fail;refine(H1.out _<|hs.alloc _).mono ?_;rintro e w' ⟨T,hT,Hu,-,A',c',rfl,qR,hb⟩;have h3:=arM (show iO T=R by rw[s8 Hu,hT,HR.out]);clear hT Hu;go_wp2_with fail;refine(I8 A' c' T _ qR<|by rw[h3.out];exact qm).mono ?_;rintro e w'' ⟨A'',c'',rfl,we,oY⟩;go_wp2;go_ret2;rw[<-h3.out];exact⟨A'',c'',rfl,we,(iZ.alloc _ _).trans<|hb.trans oY⟩
def an5:
 Calls prog 206 #[.slice A L.length c,.int .i64 n] w (y4 w<|ib<|val L*2^n):=by
 have H1:=arM<|QH A c L n w hs hlen hn qm;generalize ib (val L*2^n)=R at *
 go_enter func206,ntmps206;go_wp2_with fail;refine H1.out.mono ?_;rintro e w'' ⟨A'',c'',rfl,we,oY⟩;go_wp2;go_ret;exact⟨A'',c'',rfl,we,oY⟩
end
end
def apt(a b:Nat)(ha:a<18446744073709551616)(hb:b<18446744073709551616):bits .and .u64 (a:Int) (b:Int)=((a &&& b:Nat):Int):=by
 have hx:a &&& b<2^64:=fR _ aC;have h1:(BitVec.ofInt 64 (a:Int)).toNat=a:=by
  rw[gY,gZ];exact cj aC 
 have h2:(BitVec.ofInt 64 (b:Int)).toNat=b:=by
  rw[gY,gZ];exact cj aC 
 show IntKind.u64.wrap ((BitVec.ofInt 64 (a:Int) &&& BitVec.ofInt 64 (b:Int)).toNat:Int)=_;rw[BitVec.toNat_and,h1,h2,IntKind.wrap_u64];omega
def GJ(z:Nat)(hz:z<18446744073709551616):bits BinOp.and IntKind.u64 (z:Int) 4294967295=(z:Int)%4294967296:=by
 have e:(4294967295:Int)=((4294967295:Nat):Int):=rfl;rw[e,apt z _ hz aC,show(4294967295:Nat)=2^32-1 by decide,arF];simp
def aob(x y s:Nat)(hx:x<4294967296)(hy:y<4294967296):
 bits BinOp.and IntKind.u64 (bits BinOp.or IntKind.u64 (x:Int) ((y:Int)*4294967296)/2^s) 4294967295=(((x+4294967296*y)/2^s%4294967296:Nat):Int):=by
 have e:((y:Int)*4294967296)=((y*2^32:Nat):Int):= aH ;rw[e,MR x<|y*2^32,Ma x y 32 aC];have h:(x+y*2^32)/2^s<18446744073709551616:=ck (b5 _ _) aC;have h2:=GJ _ h;rw[show(((x+y*2^32:Nat):Int)/2^s)=(((x+y*2^32)/2^s:Nat):Int)by simp,h2];simp[bI]
def aoa(x s:Nat)(hx:x<4294967296):bits BinOp.and IntKind.u64 ((x:Int)/2^s) 4294967295=(((x+4294967296*0)/2^s%4294967296:Nat):Int):=by
 have h:x/2^s<18446744073709551616:=ck (b5 _ _) aC;rw[show((x:Int)/2^s)=((x/2^s:Nat):Int)by simp,GJ _ h];simp
def amR(A:Option Addr)(c:Nat)(M:List Nat)(n:Nat)(w:World)(lv:Sl w A c M)(hlen:M.length<=3000)(hn:n<=100000):
 Calls prog 220 #[.slice A M.length c,.int .i64 n] w (y4 w<|ib<|val M/2^n):=by
 have hC:=lv.cap;have hL:=lv.rS;have Pq:Hid<|iO (rh (n%32)<|M.drop<|n/32)=ib (val M/2^n):=by
  show _=_;rw[s8<|CD _ _,MV lv.ok]
 obtain⟨R,hR⟩:∃ R,R=ib (val M/2^n):=⟨_,rfl⟩
 rw[<-hR]at Pq ⊢;clear hR;obtain⟨m,hm⟩:∃ m,m=M.length:=⟨_,rfl⟩
 rw[<-hm]at hlen hC ⊢;have HM:=arM hm;clear hm;by_cases h0:m<=n/32
 .go_enter func220,ntmps220;go_wp2;go_ret;have:M.drop (n/32)=[]:=fu (by rw[<-HM.out];exact h0);have h:=Pq.out;rw[this]at h;rw[<-h];exact⟨none,0,rfl,Sl.nil _,iZ.refl _⟩
 .obtain ⟨ab,ao,rfl,_,_⟩:=lv.mE (i:=0) (by have:=HM.out;omega);have hK:=lv.drop<|n/32;have vW:=arM (show m-n/32=(M.drop<|n/32).length by rw[eK,HM.out]);have nX:n/32<c:= aC ;have pR:0<m-n/32:= aC ;have uj:m-n/32<=3000:= aC ;generalize M.drop (n/32)=K at *
  simp only[cg,CZ]at hK;have Cb:=arM<|ME (n%32) K;have OZ:=arM<|aa6 (n%32) K;have Hu:=arM<|CD (n%32) K;generalize rh (n%32) K=T at *
  go_enter func220,ntmps220;go_wp2;go_loopw [5,6] (λv i wr=>∃ (k:Nat) (O:List Nat),k<=m-n/32/\i = .int .i64 k/\O=T.take k/\Ow wr w.heap.size v O/\iZ w wr) (λ_ i _=>m-n/32-(intOf i).toNat)
  case atStart=>
   exact⟨0,[],b7 _,rfl,aH,Ow.nil _ _,iZ.refl _⟩
  case round=>
   obtain⟨k,O,hk,rfl,hO,o0,hb⟩:=hrel;have Wc:O.length<=3000:=by rw[hO,cB];omega
   have HO:=arM hO;clear hO;obtain⟨OA,Oc,rfl,DH⟩:=o0.sl;by_cases iE:k<m-n/32
   .have wb:k<K.length:=by have:=vW.out;omega
    obtain⟨ab',ao',e',_,c1⟩:=(hK.below hb).mE wb;cases e';have hg:=OZ.out k wb;have nP:K[k]<4294967296:=hK.ok.get wb;have HK:=arM<|bk wb;by_cases Lp:k+1<m-n/32
    .have AW:k+1<K.length:=by have:=vW.out;omega
     obtain⟨ab',ao',e',_,c2⟩:=(hK.below hb).mE AW;cases e';have hy:K.getD (k+1) 0=K[k+1]:=by rw[bc,bk AW];rfl
     rw[hy]at hg;have rN:K[k+1]<4294967296:=hK.ok.get AW;have HG:=arM hg;clear hg hy;generalize K[k]=x at *
     generalize K[k+1]=y at *
     clear wb AW;have hw:=aob x y (n%32) nP rN;have hz:(x+4294967296*y)/2^(n%32)%4294967296<4294967296:=bJ _ aE;generalize (x+4294967296*y)/2^(n%32)%4294967296=z at *
     have mP:O.length+[z].length<=10000000000:= aN ;go_wp2_with (at_builtin;go_must (refine BI aG _ _ aG w.heap.size _ O aG (o0.alloc _) _ _ _ [z] aG aG (Sl.FY _ _ z aC aC) mP (yF hb.size _) ?_);intro v' w1 yz hg tw)
     go_roundw
     case rel=>
      exact⟨k+1,O++[z],aC,by go_num,by rw[HO.out,List.take_add_one,HG.out];rfl,yz,(hb.trans<|iZ.alloc _ _).own _ _ (o0.alloc _) hg⟩
     case measure=>simp[intOf];omega
    .have hy:K.getD (k+1) 0=0:=by rw[bc,bX<|by have:=vW.out;omega];rfl
     rw[hy]at hg;have HG:=arM hg;clear hg hy;generalize K[k]=x at *
     clear wb;have hw:=aoa x (n%32) nP;have hz:(x+4294967296*0)/2^(n%32)%4294967296<4294967296:=bJ _ aE;generalize (x+4294967296*0)/2^(n%32)%4294967296=z at *
     have mP:O.length+[z].length<=10000000000:= aN ;go_wp2_with (at_builtin;go_must (refine BI aG _ _ aG w.heap.size _ O aG (o0.alloc _) _ _ _ [z] aG aG (Sl.FY _ _ z aC aC) mP (yF hb.size _) ?_);intro v' w1 yz hg tw)
     go_roundw
     case rel=>
      exact⟨k+1,O++[z],aC,by go_num,by rw[HO.out,List.take_add_one,HG.out];rfl,yz,(hb.trans<|iZ.alloc _ _).own _ _ (o0.alloc _) hg⟩
     case measure=>simp[intOf];omega
   .have hOT:Hid<|iO O=R:=by
     show iO O=R;rw[HO.out,cX<|by rw[Cb.out,<-vW.out];omega];exact Pq.out
    go_wp2_with fail;refine(Rz OA Oc O _ DH aC).mono ?_;rintro e w' ⟨A'',c'',rfl,we,oY⟩;go_wp2;go_ret;rw[<-hOT.out];exact⟨A'',c'',rfl,we,hb.trans oY⟩
def OL{L:List Nat}{k:Nat}(h:k<L.length):L.getD k 0=L[k]:=by
 rw[bc,bk h];rfl
def OK{L:List Nat}{k:Nat}(h:¬k<L.length):L.getD k 0=0:=by
 rw[bc,bX aC];rfl
def apn(x s:Nat)(hx:x<4294967296):bits BinOp.and IntKind.u32 ((x:Int)/2^s) 1=((x/2^s%2:Nat):Int):=by
 have h:x/2^s<4294967296:=ck (b5 _ _) aC;rw[show((x:Int)/2^s)=((x/2^s:Nat):Int)by simp,show(1:Int)=((1:Nat):Int)from rfl,bits_and_u32_nat _ _ h aE,Nat.and_one_is_mod]
def amW(A:Option Addr)(c:Nat)(L:List Nat)(w:World)(hs:Sl w A c L)(h1:L.length<=3000)(h0:val L≠0):
 Calls prog 219 #[.slice A L.length c] w λe w'=>e = .returned (.int .i64<|jU<|val L)/\w=w':=by
 have hz:=GZ hs.ok h0;have HB:=arM λk (hk:k<jU (val L))=>adO h0 hk;have HE:=arM<|adN h0;have HV:=arM λk=>adR hs.ok k;generalize jU (val L)=t at *
 go_enter func219,ntmps219;go_wp2;go_loop [3] (λi=>∃ k:Nat,k<=t/\i = .int .i64 k) (λi=>t-(intOf i).toNat)
 case atStart=>exact⟨0,b7 _,rfl⟩
 case round=>
  obtain⟨k,hk,rfl⟩:=hrel;have Pz:k/32<L.length:= aC ;obtain⟨ab,ao,rfl,_,c1⟩:=hs.mE Pz;have hv:=HV.out k Pz;have nP:L[k/32]<4294967296:=hs.ok.get Pz;generalize L[k/32]=x at *
  clear HV;have Dr:=apn x (k%32) nP;rw[<-hv]at Dr;clear hv;by_cases hkt:k<t
  .rw [HB.out k hkt]at Dr;have hb:(bits BinOp.and IntKind.u32 ((x:Int)/2^(k%32)) 1==0)=true:=by rw[Dr];rfl
   clear Dr;go_wp2;go_round
   case rel=>exact⟨k+1,aC,by go_num⟩
   case measure=>simp[intOf];omega
  .obtain rfl:k=t:= aC ;rw[HE.out]at Dr;have hb:(bits BinOp.and IntKind.u32 ((x:Int)/2^(k%32)) 1==0)=false:=by rw[Dr];rfl
   clear Dr;go_wp2;go_ret;exact⟨rfl,rfl⟩
def Y0{O:List Nat}{p a b c o:Nat}(ho:O[p]? = some o):
 val (O.set p<|(a*b+o+c)%4294967296)+4294967296^(p+1)*((a*b+o+c)/4294967296)=val O+4294967296^p*c+4294967296^p*(a*b):=by
 obtain⟨hp,rfl⟩:=ca.1 ho;have h:=Sm (x:=(a*b+O[p]+c)%4294967296) hp;have e:=congrArg (4294967296^p * ·)<|eX (a*b+O[p]+c) 4294967296;simp only[bW]at e;rw[bF,bB];omega
def T7{O:List Nat}{p c o:Nat}(ho:O[p]? = some o):
 val (O.set p<|(o+c)%4294967296)+4294967296^(p+1)*((o+c)/4294967296)=val O+4294967296^p*c:=by
 have h:=Y0 (a:=0) (b:=0) (c:=c) ho;simpa using h
def sI(x:Nat)(h:x<18446744073709551616:=by omega):IntKind.u64.wrap (x:Int)=x:=by rw[IntKind.wrap_u64];omega
def Fp.iQ.aaZ{L:List Nat}(h:iQ L)(k:Nat)(x:Nat):iQ<|L.set k<|x%4294967296:=h.set k<|bJ _ aE
def Ry(s:Bool)(A:Option Addr)(c:Nat)(L:List Nat)(e:Int)(w:World)(hs:Sl w A c L)(hlen:L.length<=3000)(mO:-1000000<=e)(lL:e<=1000000):
 Calls prog 149 #[.bool s,.slice A L.length c,.int .i64 e] w (At w<|canon s (val L) e):=by
 by_cases h0:val L=0
 .have nN:=arM (show canon s (val L) e=iR by unfold canon;rw[aY h0];rfl);have PQ:iO L=[]:=by rw[s8 hs.ok,h0,pG]
  have hT:=arM λw (h:Sl w A c L)=>Rz A c L w h aC;rw[PQ]at hT;clear PQ h0;go_enter func149,ntmps149;go_wp2_with fail;refine(hT.out _<|hs.alloc _).mono ?_;rintro e w' ⟨A',c',rfl,qR,hb⟩;have bx:=(jQ.new w false none 0 0 0).ext hb;have b0:=bx.c0;have b1:=bx.c1;have b2:=bx.c2;have f0:=bx.fr 0;have f1:=bx.fr 1;have f2:=bx.fr 2;go_wp2;rw[nN.out];have hz:ib iR.m=[]:=pG;exact AI rfl rfl rfl (bx.set _ _ _ _ _) (by rw[hz];rfl) (by rw[hz];exact bx.wG (Sl.nil _) _ _ _ _ _) (jQ.vF ((iZ.alloc _ _).trans hb) (a7 _) _ _ _ _ _)
 .have nN:=arM (show canon s (val L) e=⟨s,val L/2^jU (val L),e+jU (val L)⟩by unfold canon;rw[aX h0]);have hT:=arM λw (h:Sl w A c L)=>Rz A c L w h aC;have Xg:=qh L;unfold mS at Xg;have hv:=qL L;have mC:=hs.ok.iO;generalize iO L=M at *
  rw[<-hv]at h0 nN ⊢;clear hv;have hZ:=arM λA c w (h:Sl w A c M)=>amW A c M w h aC h0;have tz:jU (val M)<=100000:=by have:=GZ mC h0;omega
  have hR:=arM λA c w (h:Sl w A c M)=>amR A c M (jU<|val M) w h aC tz;have ui:M.length≠0:=by intro h;rw[dw h]at h0;exact h0 rfl
  generalize val M/2^jU (val M)=q at *
  generalize jU (val M)=t at *
  obtain⟨m,hm⟩:∃ m,m=M.length:=⟨_,rfl⟩
  go_enter func149,ntmps149;go_wp2_with fail;refine(hT.out _<|hs.alloc _).mono ?_;rintro e' w1 ⟨A1,c1,rfl,uE,kE⟩;go_wp2_with fail;refine(hZ.out _ _ _ uE).mono ?_;rintro e' w2 ⟨rfl,rfl⟩;go_wp2_with fail;refine(hR.out _ _ _ uE).mono ?_;rintro e' w2 ⟨A2,c2,rfl,lv,lV⟩;have hb:=kE.trans lV;have bx:=(jQ.new w false none 0 0 0).ext hb;have b0:=bx.c0;have b1:=bx.c1;have b2:=bx.c2;have f0:=bx.fr 0;have f1:=bx.fr 1;have f2:=bx.fr 2;go_wp2;rw[nN.out];exact AI rfl rfl rfl (bx.set _ _ _ _ _) rfl (bx.wG lv _ _ _ _ _) (jQ.vF ((iZ.alloc _ _).trans hb) (a7 _) _ _ _ _ _)
def af7(A:Option Addr)(c:Nat)(L:List Nat)(w:World)(hs:Sl w A c L)(h1:L.length<=3000)(h0:val L≠0)(hT:Tb w):
 Calls prog 201 #[.slice A L.length c] w λe w'=>e = .returned (.int .i64<|jU<|val L)/\w=w':=by
 have mC:=hs.ok;have HV:=arM λi hi h hx=>aff mC i hi h hx;have H0:=arM h0;clear h0;go_enter func201,ntmps201;go_wp2;go_loop [3,8] (λn i=>∃ k:Nat,k<=L.length/\i = .int .i64 k/\n = .int .i64 ((32*k:Nat):Int)/\∀ j,(hj:j<k)->L[j]? = some 0) (λ_ i=>L.length-(intOf i).toNat)
 case atStart=>exact⟨0,b7 _,rfl,rfl,λj hj=> aC⟩
 case round=>
  obtain⟨k,hk,rfl,rfl,hz⟩:=hrel;have HZ:=arM hz;clear hz;by_cases iE:k<L.length
  .obtain ⟨ab,ao,rfl,_,c1⟩:=hs.mE iE;have nP:L[k]<4294967296:=mC.get iE;have HG:=arM<|bk iE;have HC:=arM (λhx=>HV.out k iE (λj hj=>by have:=HZ.out j hj;rw[bk aC]at this;simpa using this) hx);clear HV;generalize L[k]=x at *
   by_cases hx:x=0
   .have HX:=arM hx;clear hx;have hb:((x:Int) != 0)=false:=by have:=HX.out;simp;omega
    go_wp2;go_round
    case rel=>exact⟨k+1,aC,by go_num,by go_num,λj hj=>by
     by_cases e:j=k
     .subst e;rw[HG.out,HX.out]
     .exact HZ.out j aC⟩
    case measure=>simp[intOf];omega
   .have hb:((x:Int) != 0)=true:= aN ;have HX:=arM<|HC.out hx;have aqu:jU x<=32:=by
     have h1:=Jo hx;rcases gN 32 (jU x)with h|h
     .have:=gF (a:=2) aE h;have e:(2:Nat)^32=4294967296:= aE ;omega
     .exact h
    go_wp2_with (go_at_call 249;refine(apk x hx nP _ hT).mono ?_;rintro e w' ⟨rfl,rfl⟩)
    go_ret;exact⟨rf<|by rw[HX.out];simp,rfl⟩
  .exfalso;have:val L=0:=by
    rw[JP];intro y hy;obtain⟨j,hj,rfl⟩:=aq3 hy;have:=HZ.out j aC;rw[bk hj]at this;simpa using this
   exact H0.out this
def KB(s:Bool)(A:Option Addr)(c:Nat)(L:List Nat)(e:Int)(w:World)(hs:Sl w A c L)(_hlen:L.length<=100000)(oE:(iO L).length<=256)(mO:-1000000<=e)(lL:e<=1000000)(uX:Tb w):
 Calls prog 123 #[.bool s,.slice A L.length c,.int .i64 e] w (At w<|canon s (val L) e):=by
 have hT:=arM λw (h:Sl w A c L)=>agb A c L w h;have lv:=hs.vG;have hv:=qL L;have mC:=hs.ok.iO;have DO:=BE L;generalize iO L=M at *
 rw[<-hv];clear hv;by_cases h0:val M=0
 .have nN:=arM (show canon s (val M) e=iR by unfold canon;rw[aY h0];rfl);have ui:Hid<|M.length=0:=by
   show M.length=0;rw[DO.KE mC,h0,pG];rfl
  obtain⟨m,hm⟩:∃ m,m=M.length:=⟨_,rfl⟩
  rw[<-hm]at hT ui;clear hm h0;obtain rfl:m=0:=ui.out;clear ui;go_enter func123,ntmps123;go_wp2_with fail;refine(hT.out _<|hs.alloc _).mono ?_;rintro e w' ⟨rfl,rfl⟩;have bx:=jQ.new w false none 0 0 0;have b0:=bx.c0;have b1:=bx.c1;have b2:=bx.c2;have f0:=bx.fr 0;have f1:=bx.fr 1;have f2:=bx.fr 2;go_wp2;rw[nN.out];have hz:ib iR.m=[]:=pG;exact AI rfl rfl rfl bx (by rw[hz];rfl) (by rw[hz];exact Sl.nil _) (iZ.alloc _ _)
 .have nN:=arM (show canon s (val M) e=⟨s,val M/2^jU (val M),e+jU (val M)⟩by unfold canon;rw[aX h0]);have hZ:=arM λA c w (h:Sl w A c M) (ht:Tb w)=>af7 A c M w h aC h0 ht;have tz:jU (val M)<=65536:=by have:=GZ mC h0;omega
  have hR:=arM λA c w (h:Sl w A c M)=>Zb A c M (jU<|val M) w h oE tz;have ui:M.length≠0:=by intro h;rw[dw h]at h0;exact h0 rfl
  have vd:(ib<|val M/2^jU (val M)).length<=256:=by
   refine yG<|ck (b5 _ _) ?_;exact bM (pk mC)<|bO aE oE
  generalize val M/2^jU (val M)=q at *
  generalize jU (val M)=t at *
  have hK:=arM λA c w (h:Sl w A c<|ib q)=>NS A c (ib q) w h aC;have hP:=arM λA c w (h:Sl w A c<|ib q)=>NR A c (ib q) w h;obtain⟨Q,hQ⟩:∃ Q,Q=ib q:=⟨_,rfl⟩
  have HQ:=arM hQ;rw[<-hQ]at hR hK hP vd;clear hQ;go_enter func123,ntmps123;go_wp2_with fail;refine(hT.out _<|hs.alloc _).mono ?_;rintro e' w1 ⟨rfl,rfl⟩;go_wp2_with fail;refine(hZ.out _ _ _ (lv.alloc _)<|uX.alloc _).mono ?_;rintro e' w2 ⟨rfl,rfl⟩;go_wp2_with fail;refine(hR.out _ _ _<|lv.alloc _).mono ?_;rintro e' w2 ⟨A2,c2,rfl,aja,lV⟩;go_wp2_with fail;refine(hK.out _ _ _ aja).mono ?_;rintro e' w3 ⟨A3,c3,rfl,Iq,sx⟩;go_wp2_with fail;refine(hP.out _ _ _ Iq).mono ?_;rintro e' w4 ⟨rfl,rfl⟩;have hb:=lV.trans sx;have bx:=(jQ.new w false none 0 0 0).ext hb;have b0:=bx.c0;have b1:=bx.c1;have b2:=bx.c2;have f0:=bx.fr 0;have f1:=bx.fr 1;have f2:=bx.fr 2;go_wp2;rw[nN.out];rw[HQ.out]at Iq ⊢;exact AI rfl rfl rfl (bx.set _ _ _ _ _) rfl (bx.wG Iq.Uf _ _ _ _ _) (jQ.vF ((iZ.alloc _ _).trans hb) (a7 _) _ _ _ _ _)
def Ob(A:Option Addr)(c:Nat)(L:List Nat)(w:World)(hs:Sl w A c L)(hlen:L.length<=100000000):
 Calls prog 181 #[.slice A L.length c] w λe w'=>e = .returned (.int .i64<|iq<|val L)/\w=w':=by
 have H:=arM<|Y2 A c L w hs hlen;go_enter func181,ntmps181;go_wp2_with fail;refine H.out.mono ?_;rintro e w' ⟨rfl,rfl⟩;go_wp2;go_ret;exact⟨rfl,rfl⟩
def wh(m:Nat)(e:Int):Bool:=decide (nj ⟨false,m,e⟩)
def P7(s:Bool)(A:Option Addr)(c:Nat)(L:List Nat)(e:Int)(w:World)(hs:Sl w A c L)(hlen:L.length<=100000000)(mO:-9223372036854775808<=e)(lL:e<=9223372036854775807):
 Calls prog 105 #[.agg #[.bool s,.slice A L.length c,.int .i64 e]] w λr w'=>r = .returned (.bool<|wh (val L) e)/\iZ w w':=by
 have H:=arM λw (h:Sl w A c L)=>Ob A c L w h hlen;have hn:Hid<|wh (val L) e=decide (iq (val L)=0\/iq (val L)<=4096 /\ -16384<=e/\e<=16384/\(iq<|val L:Int)+e<=16384):=by
  have h:iq (val L)=0↔val L=0:=by
   constructor
   .intro h;apply bQ;intro h0;have:=oV h0;omega
   .intro h;rw[h];rfl
  exact are.2<|or_congr h.symm Iff.rfl
 have Cc:iq (val L)<=32*L.length:=me.2 (by rw[<-uP];exact pk hs.ok);generalize iq (val L)=n at *
 generalize wh (val L) e=b at *
 have aiJ:n=0\/(0<n/\4096<n)\/(0<n/\n<=4096/\e < -16384)\/(0<n/\n<=4096 /\ -16384<=e/\16384<e)\/(0<n/\n<=4096 /\ -16384<=e/\e<=16384/\16384<(n:Int)+e)\/(0<n/\n<=4096 /\ -16384<=e/\e<=16384/\(n:Int)+e<=16384):= aC ;rcases aiJ with h|⟨h,h1⟩|⟨h,h1,h2⟩|⟨h,h1,h2,h3⟩|⟨h,h1,h2,h3,h4⟩|⟨h,h1,h2,h3,h4⟩
 .subst h;have hb:b=true:=by rw[hn.out];simp
  clear hn;subst hb;go_enter func105,ntmps105;go_wp2_with fail;refine(H.out _<|hs.alloc _).mono ?_;rintro r w' ⟨rfl,rfl⟩;go_wp2;go_ret;exact⟨rfl,iZ.alloc _ _⟩
 .have hb:b=false:=by rw[hn.out];simp;omega
  have rB:((n:Int)==0)=false:= aN ;have vc:decide ((n:Int)<=4096)=false:= aN ;clear hn;subst hb;go_enter func105,ntmps105;go_wp2_with fail;refine(H.out _<|hs.alloc _).mono ?_;rintro r w' ⟨rfl,rfl⟩;go_wp2;go_ret;exact⟨rfl,iZ.alloc _ _⟩
 .have hb:b=false:=by rw[hn.out];simp;omega
  have rB:((n:Int)==0)=false:= aN ;have vc:decide ((n:Int)<=4096)=true:= aN ;have lM:decide (-16384<=e)=false:= aN ;clear hn;subst hb;go_enter func105,ntmps105;go_wp2_with fail;refine(H.out _<|hs.alloc _).mono ?_;rintro r w' ⟨rfl,rfl⟩;go_wp2;go_ret;exact⟨rfl,iZ.alloc _ _⟩
 .have hb:b=false:=by rw[hn.out];simp;omega
  have rB:((n:Int)==0)=false:= aN ;have vc:decide ((n:Int)<=4096)=true:= aN ;have lM:decide (-16384<=e)=true:= aN ;have Fy:decide (e<=16384)=false:= aN ;clear hn;subst hb;go_enter func105,ntmps105;go_wp2_with fail;refine(H.out _<|hs.alloc _).mono ?_;rintro r w' ⟨rfl,rfl⟩;go_wp2;go_ret;exact⟨rfl,iZ.alloc _ _⟩
 .have hb:b=false:=by rw[hn.out];simp;omega
  have rB:((n:Int)==0)=false:= aN ;have vc:decide ((n:Int)<=4096)=true:= aN ;have lM:decide (-16384<=e)=true:= aN ;have Fy:decide (e<=16384)=true:= aN ;have hn4:decide ((n:Int)+e<=16384)=false:= aN ;clear hn;subst hb;go_enter func105,ntmps105;go_wp2_with fail;refine(H.out _<|hs.alloc _).mono ?_;rintro r w' ⟨rfl,rfl⟩;go_wp2;go_ret;exact⟨rfl,iZ.alloc _ _⟩
 .have hb:b=true:=by rw[hn.out];simp;omega
  have rB:((n:Int)==0)=false:= aN ;have vc:decide ((n:Int)<=4096)=true:= aN ;have lM:decide (-16384<=e)=true:= aN ;have Fy:decide (e<=16384)=true:= aN ;have hn4:decide ((n:Int)+e<=16384)=true:= aN ;clear hn;subst hb;go_enter func105,ntmps105;go_wp2_with fail;refine(H.out _<|hs.alloc _).mono ?_;rintro r w' ⟨rfl,rfl⟩;go_wp2;go_ret;exact⟨rfl,iZ.alloc _ _⟩
def pK(s:Bool)(L:List Nat)(e:Int):Prop:=pB L/\L.length<=256/\Dy.ig ⟨s,val L,e⟩
def UQ(s:Bool)(e:Int):pK s [] e↔s=false/\e=0:=by
 unfold pK;constructor
 .rintro ⟨_,_,hc,_⟩;rcases hc with⟨_,h1,h2⟩|h
  .exact ⟨h1,h2⟩
  .simp at h
 .rintro ⟨rfl,rfl⟩;exact⟨pB.nil,aH,qu⟩
def UP{s:Bool}{L:List Nat}{e:Int}{x y:Nat}(hx:L[0]? = some x)(hy:L[L.length-1]? = some y):
 pK s L e↔L.length<=256/\x%2=1/\y≠0/\wh (val L) e=true:=by
 have W4:val L%2=x%2:=by
  cases L with
  |nil=>simp at hx
  |cons z l=>simp at hx;subst hx;simp only[s9];omega
 have DO:pB L↔y≠0:=by
  rw[CO];obtain⟨h1,h2⟩:=ca.1 hy;constructor
  .intro h;rw[<-h2];exact h aC 
  .intro h _;rw[h2];exact h
 unfold pK wh;rw[DO,ia];constructor
 .rintro ⟨h1,h2,hc,hr⟩;have yB:nj ⟨false,val L,e⟩:=hr;refine⟨h2,?_,h1,yB⟩;rcases hc with⟨h,_,_⟩|h
  .exfalso;have:=(DO.2 h1).Gq (by intro h0;subst h0;simp at hx);simp only at h;omega
  .rw [<-W4];exact h
 .rintro ⟨h1,h2,h3,h4⟩;exact⟨h3,h1,.inr<|by show val L%2=1;rw[W4];exact h2,h4⟩
section
variable{b:Bool}{P:Prop}(h:b=true↔P)
def ss(hn:¬P):b=false:=by
 cases b
 .rfl
 .exact absurd (h.1 rfl) hn
def Nz(hn:P):b=true:=h.2 hn
end
def adI{b v:Bool}{P:Prop}(h:b=true↔P)(hn:P↔v=true):b=v:=by
 cases b<;>cases v<;>simp_all
def Dd(s:Bool)(A:Option Addr)(c:Nat)(L:List Nat)(e:Int)(w:World)(b:Bool)(hs:Sl w A c L)(mO:-9223372036854775808<=e)(lL:e<=9223372036854775807)(hb:b=true↔pK s L e):
 Calls prog 60 #[.agg #[.bool s,.slice A L.length c,.int .i64 e]] w λr w'=>r = .returned (.bool b)/\iZ w w':=by
 have Fl:=hs.cap;have tz:=hs.rS;by_cases hL:L=[]
 .subst hL;rw[UQ]at hb;cases s
  .by_cases h:e=0
   .subst h;have:b=true:=by simpa using hb
    clear hb;subst this;go_enter func60,ntmps60;go_wp2;go_ret;exact⟨rfl,iZ.alloc _ _⟩
   .have:b=false:=ss hb (by simp[h]);have h':(e==0)=false:= aN ;clear hb;subst this;go_enter func60,ntmps60;go_wp2;go_ret;exact⟨rfl,iZ.alloc _ _⟩
  .have:b=false:=ss hb aH ;clear hb;subst this;go_enter func60,ntmps60;go_wp2;go_ret;exact⟨rfl,iZ.alloc _ _⟩
 .have tG:0<L.length:=gG.2 hL;clear hL;obtain⟨ab,ao,rfl,_,c1⟩:=hs.mE tG;obtain⟨ab',ao',e',_,c2⟩:=hs.mE (i:=L.length-1) aC;cases e';have nP:=hs.ok.get tG;have rN:=hs.ok.get (aC:L.length-1<L.length);rw[UP (bk tG)<|bk (aC:L.length-1<L.length)]at hb;have c1':w.cell? ⟨ab,ao,none⟩=some (.int .u32 (L[0]:Int)):=c1;clear c1;generalize L[0]=x at *
  generalize L[L.length-1]=y at *
  have HB:=arM hb;clear hb;have H:=arM λw (h:Sl w (some ⟨ab,ao,none⟩) c L) (hl:L.length<=256)=>P7 s _ c L e w h aC mO lL;obtain⟨n,hn⟩:∃ n,n=L.length:=⟨_,rfl⟩
  rw[<-hn]at tG c2 H HB Fl ⊢;clear hn;generalize wh (val L) e=v at *
  have rB:((n:Int)==0)=false:= aN ;by_cases h1:n<=256
  .have vc:decide ((n:Int)<=256)=true:= aN ;by_cases h2:x%2=1
   .have lM:((x:Int)%2==1)=true:= aN ;by_cases h3:y=0
    .have:b=false:=ss HB.out (by simp[h3]);have Fy:((y:Int) != 0)=false:= aN ;clear HB;subst this;go_enter func60,ntmps60;go_wp2;go_ret;exact⟨rfl,iZ.alloc _ _⟩
    .have:b=v:=adI HB.out (by simp[h1,h2,h3]);have Fy:((y:Int) != 0)=true:= aN ;clear HB;subst this;go_enter func60,ntmps60;go_wp2_with fail;refine(H.out _ (hs.alloc _) h1).mono ?_;rintro r w' ⟨rfl,oY⟩;go_wp2;go_ret;exact⟨rfl,(iZ.alloc _ _).trans oY⟩
   .have:b=false:=ss HB.out λh=>h2 h.2.1;have lM:((x:Int)%2==1)=false:= aN ;clear HB;subst this;go_enter func60,ntmps60;go_wp2;go_ret;exact⟨rfl,iZ.alloc _ _⟩
  .have:b=false:=ss HB.out λh=>h1 h.1;have vc:decide ((n:Int)<=256)=false:= aN ;clear HB;subst this;go_enter func60,ntmps60;go_wp2;go_ret;exact⟨rfl,iZ.alloc _ _⟩
def Qp{n k:Nat}(h:iq n<=32*k):(ib n).length<=k:=yG<|by rw[uP];exact me.1 h
def afU(d:Dy):pK d.neg (ib d.m) d.e↔d.ig:=by
 unfold pK;rw[kK];constructor
 .exact λh=>h.2.2
 .intro h;refine⟨Gn _,?_,h⟩;rcases h.range with h0|⟨h1,_⟩
  .rw [h0,pG];simp
  .exact Qp aC 
def pK.KE{s:Bool}{L:List Nat}{e:Int}(h:pK s L e)(hk:iQ L):L=ib (val L):=h.1.KE hk
section
variable{s:Bool}{L:List Nat}{e:Int}(h:pK s L e)
def pK.len:L.length<=256:=h.2.1
def pK.bits:iq (val L)<=4096:=by
 rcases h.2.2.range with h0|⟨h1,_⟩
 .simp only at h0;rw[h0];decide
 .exact h1
def pK.exp:-16384<=e/\e<=16384:=by
 rcases h.2.2.range with h0|⟨_,h1,h2,_⟩
 .rcases h.2.2.canon with⟨_,_,h3⟩|h3
  .simp only at h3;omega
  .simp only at h0 h3;omega
 .exact ⟨h1,h2⟩
end
section
variable(s:Bool)(A:Option Addr)(c:Nat)(L:List Nat)(e:Int)(w:World)(hs:Sl w A c L)(hd:pK s L e)
def Od:
 Calls prog 176 #[.agg #[.bool s,.slice A L.length c,.int .i64 e]] w λr w'=>r = .returned (.int .i64<|Dy.iz ⟨s,val L,e⟩)/\iZ w w':=by
 obtain⟨mO,lL⟩:=hd.exp;have hl:=hd.len;have hbt:=hd.bits;have HV:=arM (λw (h:Sl w A c L)=>Dd s A c L e w true h aC aC<|by simp[hd]);have HS:=arM λw (h:Sl w A c L)=>Ob A c L w h aC;by_cases h0:L=[]
 .subst h0;go_enter func176,ntmps176;go_wp2_with fail;refine(HV.out _<|hs.alloc _).mono ?_;rintro r w' ⟨rfl,hb⟩;have bx:=(jQ.new w s A 0 c e).ext hb;have b0:=bx.c0;have b1:=bx.c1;have b2:=bx.c2;go_wp2;go_ret;exact⟨rfl,(iZ.alloc _ _).trans hb⟩
 .have tG:0<L.length:=gG.2 h0;have Co:val L≠0:=by have:=hd.1.Gq h0;omega
  have ht:=arM (show Dy.iz ⟨s,val L,e⟩=iq (val L)+e by unfold Dy.iz;rw[aX Co]);clear h0 Co;generalize Dy.iz ⟨s,val L,e⟩=t at *
  generalize iq (val L)=q at *
  have hw:IntKind.i64.wrap ((q:Int)+e)=q+e:=i64_in _;have rB:((L.length:Int)==0)=false:=aS aC;go_enter func176,ntmps176;go_wp2_with fail;refine(HV.out _<|hs.alloc _).mono ?_;rintro r w' ⟨rfl,hb⟩;have bx:=(jQ.new w s A L.length c e).ext hb;have b0:=bx.c0;have b1:=bx.c1;have b2:=bx.c2;have qR:=(hs.alloc _).below hb;go_wp2_with fail;go_region_held3 (λw'=>w'.cell? ⟨w.heap.size,1,none⟩=some (.slice A L.length c)/\w'.cell? ⟨w.heap.size,2,none⟩=some (.int .i64 e)) (go_keep)
   (first|(go_at_call 181;refine(HS.out _ ?_).mono ?_;(exact qR.drew);rintro r w'' ⟨rfl,rfl⟩))
  go_wp2;go_ret;exact⟨rf<|by rw[ht.out],Below.drew<|(iZ.alloc _ _).trans hb⟩
def af1:
 Calls prog 279 #[.agg #[.bool s,.slice A L.length c,.int .i64 e]] w λr w'=>r = .returned (.int .i64<|iq<|val L)/\iZ w w':=by
 obtain⟨mO,lL⟩:=hd.exp;have hl:=hd.len;have HV:=arM (λw (h:Sl w A c L)=>Dd s A c L e w true h aC aC<|by simp[hd]);have HS:=arM λw (h:Sl w A c L)=>Ob A c L w h aC;go_enter func279,ntmps279;go_wp2_with fail;refine(HV.out _<|hs.alloc _).mono ?_;rintro r w' ⟨rfl,hb⟩;have bx:=(jQ.new w s A L.length c e).ext hb;have b0:=bx.c0;have b1:=bx.c1;have b2:=bx.c2;go_wp2_with fail;refine(HS.out _<|(hs.alloc _).below hb).mono ?_;rintro r w' ⟨rfl,rfl⟩;go_wp2;go_ret;exact⟨rfl,(iZ.alloc _ _).trans hb⟩
def Oa:
 Calls prog 50 #[.agg #[.bool s,.slice A L.length c,.int .i64 e]] w λr w'=>r = .returned (.int .i64<|Dy.jc ⟨s,val L,e⟩)/\iZ w w':=by
 obtain⟨mO,lL⟩:=hd.exp;have hl:=hd.len;have HV:=arM (λw (h:Sl w A c L)=>Dd s A c L e w true h aC aC<|by simp[hd]);by_cases h0:L=[]
 .subst h0;go_enter func50,ntmps50;go_wp2_with fail;refine(HV.out _<|hs.alloc _).mono ?_;rintro r w' ⟨rfl,hb⟩;have bx:=(jQ.new w s A 0 c e).ext hb;have b0:=bx.c0;have b1:=bx.c1;have b2:=bx.c2;go_wp2;go_ret;exact⟨rfl,(iZ.alloc _ _).trans hb⟩
 .have tG:0<L.length:=gG.2 h0;have Co:val L≠0:=by have:=hd.1.Gq h0;omega
  have ht:=arM (show Dy.jc ⟨s,val L,e⟩=if s then -1 else 1 by unfold Dy.jc;rw[aX Co]);clear h0 Co;generalize Dy.jc ⟨s,val L,e⟩=t at *
  have rB:((L.length:Int)==0)=false:=aS aC;go_enter func50,ntmps50;go_wp2_with fail;refine(HV.out _<|hs.alloc _).mono ?_;rintro r w' ⟨rfl,hb⟩;have bx:=(jQ.new w s A L.length c e).ext hb;have b0:=bx.c0;have b1:=bx.c1;have b2:=bx.c2;cases s
  .go_wp2;go_ret;exact⟨rf<|by rw[ht.out];rfl,(iZ.alloc _ _).trans hb⟩
  .go_wp2;go_ret;exact⟨rf<|by rw[ht.out];rfl,(iZ.alloc _ _).trans hb⟩
end
def ag2(e:Int)(w:World)(b:Bool)(hb:b=true↔(-32768<=e/\e<=32768)):
 Calls prog 183 #[.int .i64 e] w λr w'=>r = .returned (.bool b)/\w=w':=by
 by_cases h1:-32768<=e
 .have d1:decide (-32768<=e)=true:=by simpa using h1
  by_cases h2:e<=32768
  .have d2:decide (e<=32768)=true:=by simpa using h2
   have:=Nz hb ⟨h1,h2⟩;clear hb;subst this;go_enter func183,ntmps183;go_wp2;go_ret;exact⟨rfl,rfl⟩
  .have d2:decide (e<=32768)=false:=by simpa using h2
   have:=ss hb λh=>h2 h.2;clear hb;subst this;go_enter func183,ntmps183;go_wp2;go_ret;exact⟨rfl,rfl⟩
 .have d1:decide (-32768<=e)=false:=by simpa using h1
  have:=ss hb λh=>h1 h.1;clear hb;subst this;go_enter func183,ntmps183;go_wp2;go_ret;exact⟨rfl,rfl⟩
section
variable(d:Dy)(A:Option Addr)(c:Nat)(w:World)(hs:Sl w A c<|ib d.m)(hl:(ib d.m).length<=100000000)(mO:-10000000<=d.e)(lL:d.e<=10000000)
def Ud(hd:nj d):
 Calls prog 184 #[.agg #[.bool d.neg,.slice A (ib d.m).length c,.int .i64 d.e]] w (Au w d 0):=by
 obtain⟨s,m,e⟩:=d;simp only at *
 have hr:wh m e=true:=by unfold wh;exact aZ hd
 have HV:=arM λw (h:Sl w A c<|ib m)=>P7 s A c (ib m) e w h hl aC aC;rw[kK,hr]at HV;clear hr hd;go_enter func184,ntmps184;go_wp2_with fail;refine(HV.out _<|(hs.alloc _).alloc _).mono ?_;rintro r w' ⟨rfl,hb⟩;have bx:=((jQ.new w s A (ib m).length c e).alloc<|.cells #[.bool false,.slice none 0 0,.int .i64 0] 37).ext hb;have by_:=(jQ.new (w.alloc<|.cells #[.bool s,.slice A (ib m).length c,.int .i64 e] 37) false none 0 0 0).ext hb;have b0:=bx.c0;have b1:=bx.c1;have b2:=bx.c2;have bz:(w.alloc<|.cells #[.bool s,.slice A (ib m).length c,.int .i64 e] 37).heap.size=w.heap.size+1:= aH ;rw[bz]at by_;have c0:=by_.c0;have c1:=by_.c1;have c2:=by_.c2;have f0:=by_.fr 0;have f1:=by_.fr 1;have f2:=by_.fr 2;have qR:=((hs.alloc<|.cells #[.bool s,.slice A (ib m).length c,.int .i64 e] 37).alloc<|.cells #[.bool false,.slice none 0 0,.int .i64 0] 37).below hb;have oY:iZ w w':=((iZ.alloc _ _).trans<|iZ.alloc _ _).trans hb;clear bz;go_wp2;exact E5 rfl rfl rfl rfl (by_.set _ _ _ _ _) rfl (by_.wG qR _ _ _ _ _) (jQ.vF oY aC _ _ _ _ _)
def ae0(hd:¬nj d):
 Calls prog 184 #[.agg #[.bool d.neg,.slice A (ib d.m).length c,.int .i64 d.e]] w (Au w iR 9):=by
 obtain⟨s,m,e⟩:=d;simp only at *
 have hr:wh m e=false:=by unfold wh;exact a6 hd
 have HV:=arM λw (h:Sl w A c<|ib m)=>P7 s A c (ib m) e w h hl aC aC;rw[kK,hr]at HV;clear hr hd;go_enter func184,ntmps184;go_wp2_with fail;refine(HV.out _<|(hs.alloc _).alloc _).mono ?_;rintro r w' ⟨rfl,hb⟩;have by_:=(jQ.new (w.alloc<|.cells #[.bool s,.slice A (ib m).length c,.int .i64 e] 37) false none 0 0 0).ext hb;have bz:(w.alloc<|.cells #[.bool s,.slice A (ib m).length c,.int .i64 e] 37).heap.size=w.heap.size+1:= aH ;rw[bz]at by_;have c0:=by_.c0;have c1:=by_.c1;have c2:=by_.c2;have f0:=by_.fr 0;have f1:=by_.fr 1;have f2:=by_.fr 2;have oY:iZ w w':=((iZ.alloc _ _).trans<|iZ.alloc _ _).trans hb;have hz:ib iR.m=[]:=pG;have HZ:=arM hz;clear bz hz;go_wp2;exact E5 rfl rfl rfl rfl (by_.set _ _ _ _ _) (by rw[HZ.out];rfl) (by rw[HZ.out];exact by_.wG (Sl.nil _) _ _ _ _ _) (jQ.vF oY aC _ _ _ _ _)
end
def akG(s:Bool)(A:Option Addr)(c:Nat)(L:List Nat)(e:Int)(w:World)(hs:Sl w A c L)(hlen:L.length<=256)(mO:-32768<=e)(lL:e<=32768)(uX:Tb w)(hd:nj<|canon s (val L) e):
 Calls prog 338 #[.bool s,.slice A L.length c,.int .i64 e] w (Au w (canon s (val L) e) 0):=by
 have Ic:decide (256<(L.length:Int))=false:=a6 aC;have HE:=arM (λw=>ag2 e w true<|by simp[mO,lL]);have HC:=arM (λw (h:Sl w A c L) (ht:Tb w)=>KB s A c L e w h aC (by have:=qh L;unfold mS at this;omega) aC aC ht);have kE:(ib (canon s (val L) e).m).length<=100000000:=by
  unfold canon;split
  .simp [pG]
  .refine bg (yG (k:=256)<|ck (b5 _ _) ?_) aE ;exact bM (pk hs.ok)<|bO aE hlen
 have lV:-10000000<=(canon s (val L) e).e/\(canon s (val L) e).e<=10000000:=by
  unfold canon;split
  .simp
  .rename_i h0;have:=GZ hs.ok h0;simp only;omega
 obtain⟨lV,sx⟩:=lV;have HK:=arM λA c w (h:Sl w A c<|ib (canon s (val L) e).m)=>Ud _ A c w h kE lV sx hd;generalize canon s (val L) e=d at *
 clear hd kE lV sx;go_enter func338,ntmps338;go_wp2_with fail;refine(HE.out _).mono ?_;rintro r w' ⟨rfl,rfl⟩;go_wp2_with fail;refine(HC.out _ (hs.alloc _)<|uX.alloc _).mono ?_;rintro r w1 ⟨A1,c1,rfl,uE,kE⟩;go_wp2_with fail;refine(HK.out _ _ _ uE).mono ?_;rintro r w2 ⟨A2,c2,rfl,lv,lV⟩;have hb:=kE.trans lV;have bx:=(jQ.new w false none 0 0 0).ext hb;have b0:=bx.c0;have b1:=bx.c1;have b2:=bx.c2;have f0:=bx.fr 0;have f1:=bx.fr 1;have f2:=bx.fr 2;go_wp2;exact E5 rfl rfl rfl rfl (bx.set _ _ _ _ _) rfl (bx.wG lv _ _ _ _ _) (jQ.vF ((iZ.alloc _ _).trans hb) (a7 _) _ _ _ _ _)
def apm(x:Nat)(hx:x<4294967296):bits BinOp.and IntKind.u32 (x:Int) 1=((x%2:Nat):Int):=by
 rw[show(1:Int)=((1:Nat):Int)from rfl,bits_and_u32_nat _ _ hx aE,Nat.and_one_is_mod]
def ajp{m:Nat}(h0:m≠0)(e:Int):wh m e=true↔(iq m<=4096 /\ -16384<=e/\e<=16384/\(iq m:Int)+e<=16384):=by
 have h:wh m e=true↔nj ⟨false,m,e⟩:=ia;rw[h];constructor
 .rintro (h|h)
  .exact absurd h h0
  .exact h
 .exact λh=>.inr h
def Mn(s:Bool)(A:Option Addr)(c:Nat)(L:List Nat)(e:Int)(w:World)(b:Bool)(hs:Sl w A c L)(mO:-9223372036854775808<=e)(lL:e<=9223372036854775807)(hb:b=true↔pK s L e):
 Calls prog 17 #[.agg #[.bool s,.slice A L.length c,.int .i64 e]] w λr w'=>r = .returned (.bool b)/\iZ w w':=by
 have Fl:=hs.cap;have tz:=hs.rS;by_cases hL:L=[]
 .subst hL;rw[UQ]at hb;cases s
  .by_cases h:e=0
   .subst h;have:b=true:=by simpa using hb
    clear hb;subst this;go_enter func17,ntmps17;go_wp2;go_ret;exact⟨rfl,iZ.alloc _ _⟩
   .have:b=false:=ss hb (by simp[h]);have h':(e==0)=false:= aN ;clear hb;subst this;go_enter func17,ntmps17;go_wp2;go_ret;exact⟨rfl,iZ.alloc _ _⟩
  .have:b=false:=ss hb aH ;clear hb;subst this;go_enter func17,ntmps17;go_wp2;go_ret;exact⟨rfl,iZ.alloc _ _⟩
 .have tG:0<L.length:=gG.2 hL;obtain⟨ab,ao,rfl,_,c1⟩:=hs.mE tG;obtain⟨ab',ao',e',_,c2⟩:=hs.mE (i:=L.length-1) aC;cases e';have nP:=hs.ok.get tG;have rN:=hs.ok.get (aC:L.length-1<L.length);rw[UP (bk tG)<|bk (aC:L.length-1<L.length)]at hb;have c1':w.cell? ⟨ab,ao,none⟩=some (.int .u32 (L[0]:Int)):=c1;have Wm:=arM<|show L[L.length-1]≠0->pB L from λh=>(CO L).2 λ_=>h;have yl:=arM (show L[L.length-1]≠0->val L≠0 from λh=>by have:=((CO L).2 λ_=>h).Gq hL;omega);clear c1 hL;generalize L[0]=x at *
  generalize L[L.length-1]=y at *
  have HB:=arM hb;clear hb;have H:=arM λw (h:Sl w (some ⟨ab,ao,none⟩) c L) (hl:L.length<=256) (ht:pB L)=>amK _ c L w h ht aC;have hr:Hid<|val L≠0->(wh (val L) e=true↔(iq (val L)<=4096 /\ -16384<=e/\e<=16384/\(iq<|val L:Int)+e<=16384)):=λh0=>by
   exact ajp h0 e
  obtain⟨n,hn⟩:∃ n,n=L.length:=⟨_,rfl⟩
  rw[<-hn]at tG c2 H HB Fl ⊢;have HN:=arM hn;clear hn;have rB:((n:Int)==0)=false:= aN ;by_cases h1:n<=256
  .have vc:decide (256<(n:Int))=false:=a6 aC ;by_cases h3:y=0
   .have:b=false:=ss HB.out (by simp[h3]);have Fy:((y:Int)==0)=true:= aN ;clear HB hr;subst this;go_enter func17,ntmps17;go_wp2;go_ret;exact⟨rfl,iZ.alloc _ _⟩
   .have Fy:((y:Int)==0)=false:=aS aC ;have hand:=apm x nP;by_cases h2:x%2=1
    .have lM:(bits BinOp.and IntKind.u32 (x:Int) 1==0)=false:=by rw[hand,h2];rfl
     clear hand;have h0:=yl.out h3;have DO:=Wm.out h3;have Cc:iq (val L)<=32*n:=me.2 (by rw[<-uP,HN.out];exact pk hs.ok);have HB2:Hid<|b=true↔(iq (val L)<=4096 /\ -16384<=e/\e<=16384/\(iq<|val L:Int)+e<=16384):=by
      show b=true↔_;rw[HB.out,hr.out h0];simp[h1,h2,h3]
     have H2:=arM λw h=>H.out w h h1 DO;clear HB hr h0 DO Wm yl H;generalize iq (val L)=q at *
     by_cases h4:-16384<=e
     .have d4:decide (e < -16384)=false:=a6 aC ;by_cases h5:e<=16384
      .have d5:decide (16384<e)=false:=a6 aC ;by_cases h6:q<=4096
       .have d6:decide ((q:Int)<=4096)=true:=aZ aC ;by_cases h7:(q:Int)+e<=16384
        .have d7:decide ((q:Int)+e<=16384)=true:=aZ h7;have:=Nz HB2.out ⟨h6,h4,h5,h7⟩;clear HB2;subst this;go_enter func17,ntmps17;go_wp2_with fail;refine(H2.out _<|hs.alloc _).mono ?_;rintro r w' ⟨rfl,rfl⟩;go_wp2;go_ret;exact⟨rfl,iZ.alloc _ _⟩
        .have d7:decide ((q:Int)+e<=16384)=false:=a6 h7;have:=ss HB2.out λh=>h7 h.2.2.2;clear HB2;subst this;go_enter func17,ntmps17;go_wp2_with fail;refine(H2.out _<|hs.alloc _).mono ?_;rintro r w' ⟨rfl,rfl⟩;go_wp2;go_ret;exact⟨rfl,iZ.alloc _ _⟩
       .have d6:decide ((q:Int)<=4096)=false:=a6 aC ;have:=ss HB2.out λh=>h6 h.1;clear HB2;subst this;go_enter func17,ntmps17;go_wp2_with fail;refine(H2.out _<|hs.alloc _).mono ?_;rintro r w' ⟨rfl,rfl⟩;go_wp2;go_ret;exact⟨rfl,iZ.alloc _ _⟩
      .have d5:decide (16384<e)=true:=aZ aC ;have:=ss HB2.out λh=>h5 h.2.2.1;clear HB2;subst this;go_enter func17,ntmps17;go_wp2;go_ret;exact⟨rfl,iZ.alloc _ _⟩
     .have d4:decide (e < -16384)=true:=aZ aC ;have:=ss HB2.out λh=>h4 h.2.1;clear HB2;subst this;go_enter func17,ntmps17;go_wp2;go_ret;exact⟨rfl,iZ.alloc _ _⟩
    .have lM:(bits BinOp.and IntKind.u32 (x:Int) 1==0)=true:=by rw[hand,(aC:x%2=0)];rfl
     have:b=false:=ss HB.out λh=>h2 h.2.1;clear HB hand hr;subst this;go_enter func17,ntmps17;go_wp2;go_ret;exact⟨rfl,iZ.alloc _ _⟩
  .have:b=false:=ss HB.out λh=>h1 h.1;have vc:decide (256<(n:Int))=true:=aZ aC;clear HB hr;subst this;go_enter func17,ntmps17;go_wp2;go_ret;exact⟨rfl,iZ.alloc _ _⟩
def amM(e:Int)(w:World)(b:Bool)(hb:b=true↔(-32768<=e/\e<=32768)):
 Calls prog 147 #[.int .i64 e] w λr w'=>r = .returned (.bool b)/\w=w':=by
 by_cases h1:-32768<=e
 .have d1:decide (-32768<=e)=true:=by simpa using h1
  by_cases h2:e<=32768
  .have d2:decide (e<=32768)=true:=by simpa using h2
   have:=Nz hb ⟨h1,h2⟩;clear hb;subst this;go_enter func147,ntmps147;go_wp2;go_ret;exact⟨rfl,rfl⟩
  .have d2:decide (e<=32768)=false:=by simpa using h2
   have:=ss hb λh=>h2 h.2;clear hb;subst this;go_enter func147,ntmps147;go_wp2;go_ret;exact⟨rfl,rfl⟩
 .have d1:decide (-32768<=e)=false:=by simpa using h1
  have:=ss hb λh=>h1 h.1;clear hb;subst this;go_enter func147,ntmps147;go_wp2;go_ret;exact⟨rfl,rfl⟩
def amL(d:Dy)(A:Option Addr)(c:Nat)(w:World)(hs:Sl w A c<|ib d.m)(hl:(ib d.m).length<=100000000)(mO:-10000000<=d.e)(lL:d.e<=10000000)(hd:d.ig):
 Calls prog 148 #[.agg #[.bool d.neg,.slice A (ib d.m).length c,.int .i64 d.e]] w (Au w d 0):=by
 obtain⟨s,m,e⟩:=d;simp only at *
 have HV:=arM λw (h:Sl w A c<|ib m)=>Mn s A c (ib m) e w true h aC aC<|iff_of_true rfl ((afU ⟨s,m,e⟩).2 hd);clear hd;go_enter func148,ntmps148;go_wp2_with fail;refine(HV.out _<|(hs.alloc _).alloc _).mono ?_;rintro r w' ⟨rfl,hb⟩;have bx:=((jQ.new w s A (ib m).length c e).alloc<|.cells #[.bool false,.slice none 0 0,.int .i64 0] 37).ext hb;have by_:=(jQ.new (w.alloc<|.cells #[.bool s,.slice A (ib m).length c,.int .i64 e] 37) false none 0 0 0).ext hb;have b0:=bx.c0;have b1:=bx.c1;have b2:=bx.c2;have bz:(w.alloc<|.cells #[.bool s,.slice A (ib m).length c,.int .i64 e] 37).heap.size=w.heap.size+1:= aH ;rw[bz]at by_;have c0:=by_.c0;have c1:=by_.c1;have c2:=by_.c2;have f0:=by_.fr 0;have f1:=by_.fr 1;have f2:=by_.fr 2;have qR:=((hs.alloc<|.cells #[.bool s,.slice A (ib m).length c,.int .i64 e] 37).alloc<|.cells #[.bool false,.slice none 0 0,.int .i64 0] 37).below hb;have oY:iZ w w':=((iZ.alloc _ _).trans<|iZ.alloc _ _).trans hb;clear bz;go_wp2;exact E5 rfl rfl rfl rfl (by_.set _ _ _ _ _) rfl (by_.wG qR _ _ _ _ _) (jQ.vF oY aC _ _ _ _ _)
def Sl.MQ(w:World)(g:Nat)(hg:w.heap.size=g)(y z:Int)(p q:Nat)(e:y=(p:Int))(e':z=(q:Int))(hp:p<4294967296)(hq:q<4294967296):
 Sl (w.alloc<|.cells #[.int .u32 y,.int .u32 z] 95) (some ⟨g,0,none⟩) 2 [p,q]:=by
 subst e e' hg;refine⟨a7 _,aE,iQ.cons hp<|iQ.cons hq iQ.nil,(λh=>by cases h),λi y hy=>?_⟩;obtain⟨h1,h2⟩:=ca.1 hy;simp at h1;refine⟨_,_,rfl,aH,?_⟩;rw[bZ,World.cell?_alloc_at _ _ _ _ rfl];rcases i with _|_|i
 .simp at h2;subst h2;rfl
 .simp at h2;subst h2;rfl
 .omega
def amP(n:Nat)(w:World)(hn:n<4294967296):
 Calls prog 84 #[.int .i64 n] w (At w<|canon false n 0):=by
 have hm:=GJ n aC;have yy:(n:Int)%4294967296=n:= aC ;rw[yy]at hm;have hd:(n:Int)/4294967296=0:= aC ;have iE:¬(n:Int)<0:= aC ;have Pf:decide ((n:Int)<0)=false:=a6 iE;have hu:IntKind.u64.wrap (n:Int)=n:=by rw[IntKind.wrap_u64];omega
 have HC:=arM λ(A:Option Addr) c w (h:Sl w A c [n,0])=>Ry false A c [n,0] 0 w h aH aE aE;have hv:val [n,0]=n:= aH ;rw[hv]at HC;clear hv;generalize canon false n 0=d at *
 go_enter func84,ntmps84;go_wp2_with fail;refine(HC.out _ _ _<|Sl.MQ _ _ aH _ _ n 0 rfl rfl hn aE).mono ?_;rintro r w1 ⟨A1,c1,rfl,uE,kE⟩;have ln:iZ (w.alloc<|.cells #[.bool false,.slice none 0 0,.int .i64 0] 37) w1:=(iZ.alloc _ _).trans kE;have bx:=(jQ.new w false none 0 0 0).ext ln;have b0:=bx.c0;have b1:=bx.c1;have b2:=bx.c2;have f0:=bx.fr 0;have f1:=bx.fr 1;have f2:=bx.fr 2;go_wp2;exact AI rfl rfl rfl (bx.set _ _ _ _ _) rfl (bx.wG uE _ _ _ _ _) (jQ.vF ((iZ.alloc _ _).trans ln) (a7 _) _ _ _ _ _)
end Go.Proofs.YtjkmahljfblobaaGreatDoor
namespace Go.Proofs.YtjkmahljfblobaaGreatDoor.Fp
def GW(s:Bool)(e:Int):canon s 0 e=iR:=by unfold canon;rw[aY rfl];rfl
def Kq(s:Bool)(x:Nat)(k:Int):mB (if s then -(x:Int)else(x:Int)) k=canon s x k:=by
 unfold mB;cases s
 .have h:decide ((x:Int)<0)=false:=a6 aC ;simp only[bC,bh];rw[h,dR]
 .by_cases h:x=0
  .subst h;simp[GW]
  .have h:decide (-(x:Int)<0)=true:=aZ aC ;simp only[bA];rw[h,arf,dR]
def aoC{s:Bool}{m n:Nat}{e f k:Int}(hm:m≠0)(hn:n≠0)(hk:min e f=k):
 iM ⟨s,m,e⟩ ⟨s,n,f⟩=canon s (m*2^(e-k).toNat+n*2^(f-k).toNat) k:=by
 unfold iM;rw[aX hm,aX hn];simp only[hk];rw[<-Kq];unfold Dy.num Dy.jR;cases s
 .simp
 .simp;congr 1;omega
section
variable{s t:Bool}{m n:Nat}{e f k:Int}(hm:m≠0)(hn:n≠0)(hk:min e f=k)(hs:s≠t)
def aoz(sA:n*2^(f-k).toNat<=m*2^(e-k).toNat):
 iM ⟨s,m,e⟩ ⟨t,n,f⟩=canon s (m*2^(e-k).toNat-n*2^(f-k).toNat) k:=by
 unfold iM;rw[aX hm,aX hn];simp only[hk];rw[<-Kq];unfold Dy.num Dy.jR;simp only;generalize m*2^(e-k).toNat=x at *
 generalize n*2^(f-k).toNat=y at *
 congr 1;cases s<;>cases t<;>simp at hs ⊢ <;> omega
def aoA(iE:m*2^(e-k).toNat<n*2^(f-k).toNat):
 iM ⟨s,m,e⟩ ⟨t,n,f⟩=canon t (n*2^(f-k).toNat-m*2^(e-k).toNat) k:=by
 unfold iM;rw[aX hm,aX hn];simp only[hk];rw[<-Kq];unfold Dy.num Dy.jR;simp only;generalize m*2^(e-k).toNat=x at *
 generalize n*2^(f-k).toNat=y at *
 congr 1;cases s<;>cases t<;>simp at hs ⊢ <;> omega
end
def akm{L:List Nat}(h:iQ L)(n:Nat):(ib<|val L*2^n).length<=L.length+n/32+1:=by
 refine yG ?_;have h1:=pk h;rw[uP]at h1 ⊢;have h2:val L*2^n<2^(32*L.length)*2^n:=dg h1<|bn aE;rw[<-bj]at h2;exact bM h2<|bO aE aC
def nk{a b:Nat}(h:a<=b):(ib a).length<=(ib b).length:=
 yG (ck h<|LN<|a7 _)
end Go.Proofs.YtjkmahljfblobaaGreatDoor.Fp
namespace Go.Proofs.YtjkmahljfblobaaGreatDoor
open Go.RowKit Fp
def mW(a b:Dy):Dy:=canon (a.neg != b.neg) (a.m*b.m)<|a.e+b.e
def ako{L:List Nat}{k:Nat}(h:iQ L)(hl:L.length<=k):(ib<|val L).length<=k:=
 yG (bM (pk h)<|bO aE hl)
end Go.Proofs.YtjkmahljfblobaaGreatDoor
namespace Go.Proofs.YtjkmahljfblobaaGreatDoor.Fp
section
variable{d:Dy}{j k:Int}(h1:j<=k)(h2:k<=d.e)
def akF:d.jR j=d.jR k*2^(k-j).toNat:=by
 unfold Dy.jR;rw[bB,<-bj];congr 2;omega
def L7:d.num j=d.num k*((2^(k-j).toNat:Nat):Int):=by
 unfold Dy.num;rw[akF h1 h2];split
 .rw [fg,Int.neg_mul]
 .rw [fg]
end
def xG{d:Dy}(h:d.m=0)(k:Int):d.num k=0:=by
 unfold Dy.num;rw[Yx h];split<;>rfl
def yb(x y:Int):Int:=if x<y then -1 else if y<x then 1 else 0
def Uj(x y:Int){p:Nat}(hp:0<p):yb (x*(p:Int)) (y*(p:Int))=yb x y:=by
 unfold yb;have h:(0:Int)<p:= aC ;have a:=@Int.mul_lt_mul_right (p:Int) x y h;have b:=@Int.mul_lt_mul_right (p:Int) y x h;simp only[a,b]
def qM(d:Dy)(k:Int):Prop:=d.m=0\/k<=d.e
def qM.le{d:Dy}{j k:Int}(h:qM d k)(hj:j<=k):qM d j:=by
 rcases h with h|h
 .exact .inl h
 .exact .inr aC 
def qM.num{d:Dy}{j k:Int}(h:qM d k)(hj:j<=k):d.num j=d.num k*((2^(k-j).toNat:Nat):Int):=by
 rcases h with h|h
 .rw [xG h,xG h,Int.zero_mul]
 .exact L7 hj h
def EY{a b:Dy}{k:Int}(ha:qM a k)(hb:qM b k):jm a b=yb (a.num k) (b.num k):=by
 have e0:jm a b=yb (a.num<|min a.e b.e) (b.num<|min a.e b.e):=rfl;rw[e0];obtain⟨j,h1,h2⟩:∃ j:Int,j<=k/\j<=min a.e b.e:=⟨min k<|min a.e b.e,aC,aC⟩
 have a1:=ha.num h1;have b1:=hb.num h1;have a2:=(show qM a (min a.e b.e)from .inr aC).num h2;have b2:=(show qM b (min a.e b.e)from .inr aC).num h2;rw[<-Uj _ _ (p:=2^(min a.e b.e-j).toNat) (bn aE),<-a2,<-b2,a1,b1,Uj _ _<|bn aE]
section
variable{s:Bool}{m:Nat}{e k:Int}(h:k<=e)
def akE:(canon s m e).jR k=m*2^(e-k).toNat:=by
 unfold canon;split
 .rename_i h0;subst h0;simp[Dy.jR]
 .rename_i h0;unfold Dy.jR;simp only;have e1:=Ha h0
  conv=>rhs;rw[<-e1]
  rw[bB,<-bj];congr 2;omega
def D9:(canon s m e).num k=if s then -((m*2^(e-k).toNat:Nat):Int)else((m*2^(e-k).toNat:Nat):Int):=by
 by_cases h0:m=0
 .subst h0;rw[xG<|by simp[canon]];simp
 .have:(canon s m e).neg=s:=by unfold canon;rw[aX h0]
  unfold Dy.num;rw[akE h,this]
end
def Zy{m:Nat}{e k:Int}(h:k<=e):(canon false m e).num k=((m*2^(e-k).toNat:Nat):Int):=by
 rw[D9 h];simp
def QY{z e k:Int}(h:k<=e):(mB z e).num k=z*((2^(e-k).toNat:Nat):Int):=by
 unfold mB;rw[D9 h];by_cases hz:z<0
 .simp only[hz,gH,bA];rw[fg,<-Int.neg_mul];congr 1;omega
 .simp only[hz,decide_false];rw[fg,show(z.natAbs:Int)=z by omega];simp
def BN{s:Bool}{m:Nat}{e k:Int}(h:k<=e):qM (canon s m e) k:=by
 unfold canon;split
 .exact .inl rfl
 .exact .inr<|by simp only;omega
def Np{z e k:Int}(h:k<=e):qM (mB z e) k:=BN h
section
variable{a b:Dy}{k:Int}(ha:qM a k)(hb:qM b k)
def MK:(iM a b).num k=a.num k+b.num k:=by
 unfold iM;by_cases h1:a.m=0
 .rw [aY h1,xG h1,Int.zero_add]
 .rw [aX h1];by_cases h2:b.m=0
  .rw [aY h2,xG h2,Int.add_zero]
  .rw [aX h2];have ea:k<=a.e:=by rcases ha with h|h;exact absurd h h1;exact h
   have eb:k<=b.e:=by rcases hb with h|h;exact absurd h h2;exact h
   have hm:k<=min a.e b.e:= aC ;rw[QY hm,Int.add_mul,<-L7 hm aC,<-L7 hm aC]
def J5:qM (iM a b) k:=by
 unfold iM;by_cases h1:a.m=0
 .rw [aY h1];exact hb
 .rw [aX h1];by_cases h2:b.m=0
  .rw [aY h2];exact ha
  .rw [aX h2];have ea:k<=a.e:=by rcases ha with h|h;exact absurd h h1;exact h
   have eb:k<=b.e:=by rcases hb with h|h;exact absurd h h2;exact h
   exact Np aC 
end
def xY{a b:Dy}(ha:a.mi)(hb:b.mi):(iM a b).mi:=by
 unfold iM;split
 .exact hb
 .split
  .exact ha
  .exact tl _ _ _
def Nq{d:Dy}{k:Int}(h:qM d k):qM (jo d) k:=h
def QZ{d:Dy}(k:Int):(jo d).num k = -(d.num k):=by
 by_cases h:d.m=0
 .rw [xG h,xG<|by exact h];rfl
 .exact Q0 d k h
def U1{a b:Dy}(ha:a.mi)(hb:b.mi){k:Int}(h1:qM a k)(h2:qM b k)(h:a.num k=b.num k):a=b:=by
 have zero:∀ {d:Dy},d.mi->d.m=0->d=iR:=by
  intro d hd h0;obtain⟨s,m,e⟩:=d;rcases hd with⟨x,y,z⟩|hd
  .simp only at x y z;subst x y z;rfl
  .simp only at hd h0;omega
 have nz:∀ {d:Dy},d.num k=0->d.m=0:=by
  intro d hd;by_cases h0:d.m=0
  .exact h0
  .exfalso;have:=zS h0 k;unfold Dy.num at hd;split at hd<;>omega
 by_cases za:a.m=0
 .have zb:b.m=0:=nz (by rw[<-h];exact xG za k);rw[zero ha za,zero hb zb]
 .have zb:b.m≠0:=λzb=>za (nz<|by rw[h];exact xG zb k)
  have oa:a.m%2=1:=by rcases ha with⟨x,_,_⟩|x;exact absurd x za;exact x
  have ob:b.m%2=1:=by rcases hb with⟨x,_,_⟩|x;exact absurd x zb;exact x
  have ea:k<=a.e:=by rcases h1 with h|h;exact absurd h za;exact h
  have eb:k<=b.e:=by rcases h2 with h|h;exact absurd h zb;exact h
  have pa:=zS za k;have pb:=zS zb k;have hm:a.neg=b.neg/\a.jR k=b.jR k:=by
   unfold Dy.num at h;cases x:a.neg<;>cases y:b.neg<;>simp[x,y]at h<;>first|exact⟨rfl,aC⟩|(exfalso;omega)
  have hc:=congrArg jU hm.2;unfold Dy.jR at hc;rw[AG oa,AG ob]at hc;have yy:=hm.2;unfold Dy.jR at yy;rw[hc]at yy;have tC:=arG (bn aE) yy;obtain⟨s,m,e⟩:=a;obtain⟨t,n,f⟩:=b;simp only at *
  have:e=f:= aC ;rw[hm.1,tC,this]
end Go.Proofs.YtjkmahljfblobaaGreatDoor.Fp
namespace Go.Proofs.YtjkmahljfblobaaGreatDoor
open Go.RowKit Fp
def aa0(A:Option Addr)(c:Nat)(M:List Nat)(n:Int)(w:World)(lv:Sl w A c M)(hlen:M.length<=256)(h0:0<=n)(hn:n<=65536)(qm:(ib<|val M*2^n.toNat).length<=256):
 Calls prog 206 #[.slice A M.length c,.int .i64 n] w (y4 w<|ib<|val M*2^n.toNat):=by
 obtain⟨k,rfl⟩:=gI h0;exact an5 A c M k w lv hlen aC qm
set_option maxHeartbeats 8000000 in
def af5(s : Bool)(A : Option Addr)(c : Nat)(L : List Nat)(e : Int)(t : Bool)(B : Option Addr)(d : Nat)(M : List Nat)(f : Int)(w : World)
    (hs : Sl w A c L) (hr : Sl w B d M) (da : pK s L e) (db : pK t M f) (w8 : val L≠0) (ui : val M≠0):
    Calls prog 128 #[.agg #[.bool s,.slice A L.length c,.int .i64 e],.agg #[.bool t,.slice B M.length d,.int .i64 f]] w λr w' => r = .returned (.int .i64<|uc ⟨s,val L,e⟩ ⟨t,val M,f⟩)/\iZ w w' := by
  obtain⟨mO,lL⟩ := da.exp;obtain⟨Pm,Pn⟩ := db.exp;have hl := da.len;have hm := db.len;have hE : iZ w<|(w.alloc<|.cells #[.bool s,.slice A L.length c,.int .i64 e] 37).alloc<|.cells #[.bool t,.slice B M.length d,.int .i64 f] 37 := (iZ.alloc _ _).trans<|iZ.alloc _ _;have lR := ((jQ.new w s A L.length c e).alloc<|.cells #[.bool t,.slice B M.length d,.int .i64 f] 37).drew;have ml := (jQ.zY (W := w.alloc<|.cells #[.bool s,.slice A L.length c,.int .i64 e] 37) (g := w.heap.size+1) aH t B M.length d f).drew;have A9 := (hs.below hE).drew;have DK := (hr.below hE).drew;have HE := arM<|hE.trans<|iZ.drew _;clear hE;have HTa := arM λw (h : Sl w A c L) => Od s A c L e w h da;have HTb := arM λw (h : Sl w B d M) => Od t B d M f w h db;have Hlt := arM λh => ae4 (a := ⟨s,val L,e⟩) (b := ⟨t,val M,f⟩) w8 ui h;have Hgt := arM λh => ae3 (a := ⟨s,val L,e⟩) (b := ⟨t,val M,f⟩) w8 ui h;have Hta := arM (show Dy.iz ⟨s,val L,e⟩=iq (val L)+e by unfold Dy.iz;rw[aX w8]);have Htb := arM (show Dy.iz ⟨t,val M,f⟩=iq (val M)+f by unfold Dy.iz;rw[aX ui]);obtain⟨k,hk⟩ : ∃ k,min e f=k := ⟨_,rfl⟩
  have hke : k<=e := aC ;have hkf : k<=f := aC ;have mT : -17000<=k := aC ;have WR := arM (aC:k=e\/k=f);have Xu : IntKind.i64.wrap (e-k)=e-k := i64_in _;have hwf : IntKind.i64.wrap (f-k)=f-k := i64_in _;have HM := arM (show uc ⟨s,val L,e⟩ ⟨t,val M,f⟩=kI (val L*2^(e-k).toNat) (val M*2^(f-k).toNat)by unfold uc;simp only[hk];rfl);have Hfa := arM (show iq (val L)+e=iq (val M)+f->iq (val L*2^(e-k).toNat)<=4096 from λh => by
    rw[rI w8];have := da.bits;have := db.bits;have := WR.out;omega)
  have Hfb := arM (show iq (val L)+e=iq (val M)+f->iq (val M*2^(f-k).toNat)<=4096 from λh => by
    rw[rI ui];have := da.bits;have := db.bits;have := WR.out;omega)
  have HXa := arM λw (h : Sl w A c L) qm => aa0 A c L (e-k) w h hl aC aC qm;have HXb := arM λw (h : Sl w B d M) qm => aa0 B d M (f-k) w h hm aC aC qm;generalize Dy.iz ⟨s,val L,e⟩=ta at *
  generalize Dy.iz ⟨t,val M,f⟩=tb at *
  generalize uc ⟨s,val L,e⟩ ⟨t,val M,f⟩=R at *
  generalize val L*2^(e-k).toNat=x at *
  generalize val M*2^(f-k).toNat=y at *
  have HC := arM λA B c d w (h : Sl w A c<|ib x) (k : Sl w B d<|ib y) hx hy => LV A B c d (ib x) (ib y) w h k hx hy;rw[kK,kK]at HC;clear w8 ui da db hl hm;go_enter func128,ntmps128;go_wp2_with fail;go_region_held3 (λw' => w'.cell? ⟨w.heap.size,0,none⟩=some (.bool s)/\w'.cell? ⟨w.heap.size,1,none⟩=some (.slice A L.length c)/\w'.cell? ⟨w.heap.size,2,none⟩=some (.int .i64 e)/\w'.cell? ⟨w.heap.size+1,0,none⟩=some (.bool t)/\w'.cell? ⟨w.heap.size+1,1,none⟩=some (.slice B M.length d)/\w'.cell? ⟨w.heap.size+1,2,none⟩=some (.int .i64 f))
    (first
      |exact⟨lR.c0,lR.c1,lR.c2,ml.c0,ml.c1,ml.c2⟩
      |exact⟨(lR.ext ju).c0,(lR.ext ju).c1,(lR.ext ju).c2,(ml.ext ju).c0,(ml.ext ju).c1,(ml.ext ju).c2⟩
      |exact⟨(lR.ext jE).c0,(lR.ext jE).c1,(lR.ext jE).c2,(ml.ext jE).c0,(ml.ext jE).c1,(ml.ext jE).c2⟩
      |exact⟨(lR.ext<|ju.trans jE).c0,(lR.ext<|ju.trans jE).c1,(lR.ext<|ju.trans jE).c2,(ml.ext<|ju.trans jE).c0,(ml.ext<|ju.trans jE).c1,(ml.ext<|ju.trans jE).c2⟩
      |exact⟨(lR.ext<|jE.trans ju).c0,(lR.ext<|jE.trans ju).c1,(lR.ext<|jE.trans ju).c2,(ml.ext<|jE.trans ju).c0,(ml.ext<|jE.trans ju).c1,(ml.ext<|jE.trans ju).c2⟩
      |exact⟨(lR.ext<|(ju.trans jE).trans pY).c0,(lR.ext<|(ju.trans jE).trans pY).c1,(lR.ext<|(ju.trans jE).trans pY).c2,(ml.ext<|(ju.trans jE).trans pY).c0,(ml.ext<|(ju.trans jE).trans pY).c1,(ml.ext<|(ju.trans jE).trans pY).c2⟩
      |exact⟨(lR.ext<|(jE.trans ju).trans pY).c0,(lR.ext<|(jE.trans ju).trans pY).c1,(lR.ext<|(jE.trans ju).trans pY).c2,(ml.ext<|(jE.trans ju).trans pY).c0,(ml.ext<|(jE.trans ju).trans pY).c1,(ml.ext<|(jE.trans ju).trans pY).c2⟩)
    (first
      | (go_at_call_of 176 (Value.agg #[.bool s,.slice A L.length c,.int .i64 e])
         refine(HTa.out _ ?_).mono ?_
         (first|exact A9|exact A9.below jE)
         rintro r wx ⟨rfl,ju⟩)
      | (go_at_call_of 176 (Value.agg #[.bool t,.slice B M.length d,.int .i64 f])
         refine(HTb.out _ ?_).mono ?_
         (first|exact DK|exact DK.below ju)
         rintro r wy ⟨rfl,jE⟩))
  first
    | (have rM := ju.trans jE)
    | (have rM := jE.trans ju)
  have cx1 := (lR.ext rM).drew;have cx2 := (ml.ext rM).drew;have lv := (A9.below rM).drew;have qb := (DK.below rM).drew;have cx1n := (lR.ext rM)
  have cx2n := (ml.ext rM)
  have HF := arM<|(HE.out.trans rM).trans<|iZ.drew _;have HFr := arM<|HE.out.trans rM;clear ju jE rM;by_cases h1 : ta<tb
  . have hR := arM (Hlt.out h1)
    go_wp2;go_ret;exact⟨rf hR.out.symm,HFr.out⟩
  . by_cases h2 : tb<ta
    . have hR := arM (Hgt.out h2)
      go_wp2;go_ret;exact⟨rf hR.out.symm,HFr.out⟩
    . have np : (iq<|val L : Int)+e=iq (val M)+f := by rw[<-Hta.out,<-Htb.out];omega
      have pS := Qp (k := 128)<|Hfa.out np;have hfb := Qp (k := 128)<|Hfb.out np;have HXa2 := arM λw h => HXa.out w h aC;have HXb2 := arM λw h => HXb.out w h aC;have HC2 := arM λA B c d w h k => HC.out A B c d w h k aC aC;have b0 := cx1n.c0;have b1 := cx1n.c1;have b2 := cx1n.c2;have d0 := cx2n.c0;have d1 := cx2n.c1;have d2 := cx2n.c2;clear np pS hfb;go_wp2_with fail;go_region_held3 (λw' => w'.cell? ⟨w.heap.size,0,none⟩=some (.bool s)/\w'.cell? ⟨w.heap.size,1,none⟩=some (.slice A L.length c)/\w'.cell? ⟨w.heap.size,2,none⟩=some (.int .i64 e)/\w'.cell? ⟨w.heap.size+1,0,none⟩=some (.bool t)/\w'.cell? ⟨w.heap.size+1,1,none⟩=some (.slice B M.length d)/\w'.cell? ⟨w.heap.size+1,2,none⟩=some (.int .i64 f))
        (first
          |exact⟨cx1.c0,cx1.c1,cx1.c2,cx2.c0,cx2.c1,cx2.c2⟩
          |exact⟨(cx1.ext ju).c0,(cx1.ext ju).c1,(cx1.ext ju).c2,(cx2.ext ju).c0,(cx2.ext ju).c1,(cx2.ext ju).c2⟩
          |exact⟨(cx1.ext jE).c0,(cx1.ext jE).c1,(cx1.ext jE).c2,(cx2.ext jE).c0,(cx2.ext jE).c1,(cx2.ext jE).c2⟩
          |exact⟨(cx1.ext<|ju.trans jE).c0,(cx1.ext<|ju.trans jE).c1,(cx1.ext<|ju.trans jE).c2,(cx2.ext<|ju.trans jE).c0,(cx2.ext<|ju.trans jE).c1,(cx2.ext<|ju.trans jE).c2⟩
          |exact⟨(cx1.ext<|jE.trans ju).c0,(cx1.ext<|jE.trans ju).c1,(cx1.ext<|jE.trans ju).c2,(cx2.ext<|jE.trans ju).c0,(cx2.ext<|jE.trans ju).c1,(cx2.ext<|jE.trans ju).c2⟩
          |exact⟨(cx1.ext<|(ju.trans jE).trans pY).c0,(cx1.ext<|(ju.trans jE).trans pY).c1,(cx1.ext<|(ju.trans jE).trans pY).c2,(cx2.ext<|(ju.trans jE).trans pY).c0,(cx2.ext<|(ju.trans jE).trans pY).c1,(cx2.ext<|(ju.trans jE).trans pY).c2⟩
          |exact⟨(cx1.ext<|(jE.trans ju).trans pY).c0,(cx1.ext<|(jE.trans ju).trans pY).c1,(cx1.ext<|(jE.trans ju).trans pY).c2,(cx2.ext<|(jE.trans ju).trans pY).c0,(cx2.ext<|(jE.trans ju).trans pY).c1,(cx2.ext<|(jE.trans ju).trans pY).c2⟩)
        (first
          | (go_at_call_of 206 (Value.slice A L.length c)
             refine(HXa2.out _ ?_).mono ?_
             (first|exact lv|exact lv.below jE)
             rintro r wx ⟨Ax,cx,rfl,Xd,ju⟩)
          | (go_at_call_of 206 (Value.slice B M.length d)
             refine(HXb2.out _ ?_).mono ?_
             (first|exact qb|exact qb.below ju)
             rintro r wy ⟨Ay,cy,rfl,Xe,jE⟩)
          | (go_at_call 180
             refine(HC2.out _ _ _ _ _ ?_ ?_).mono ?_
             (first|exact Xd.below jE|exact Xd)
             (first|exact Xe|exact Xe.below ju)
             rintro r wz ⟨rfl,pY⟩))
      all_goals
        go_wp2;go_ret
        (first|exact⟨rf HM.out.symm,HF.out.trans<|(ju.trans jE).trans pY⟩|exact⟨rf HM.out.symm,HF.out.trans<|(jE.trans ju).trans pY⟩)
def abc{d:Dy}:d.jc=0↔d.m=0:=by
 rcases JE d with⟨h1,h2⟩|⟨h1,_,h2⟩|⟨h1,_,h2⟩<;>simp[h1,h2]
def af3(s : Bool)(A : Option Addr)(c : Nat)(L : List Nat)(e : Int)(t : Bool)(B : Option Addr)(d : Nat)(M : List Nat)(f : Int)(w : World)
    (hs : Sl w A c L) (hr : Sl w B d M) (da : pK s L e) (db : pK t M f):
    Calls prog 76 #[.agg #[.bool s,.slice A L.length c,.int .i64 e],.agg #[.bool t,.slice B M.length d,.int .i64 f]] w λr w' => r = .returned (.int .i64<|jm ⟨s,val L,e⟩ ⟨t,val M,f⟩)/\iZ w w' := by
  obtain⟨mO,lL⟩ := da.exp;obtain⟨Pm,Pn⟩ := db.exp;have HVa := arM (λw (h : Sl w A c L) => Dd s A c L e w true h aC aC<|by simp[da]);have HVb := arM (λw (h : Sl w B d M) => Dd t B d M f w true h aC aC<|by simp[db]);have HSa := arM λw (h : Sl w A c L) => Oa s A c L e w h da;have HSb := arM λw (h : Sl w B d M) => Oa t B d M f w h db;have HK := arM λh1 h2 w (h : Sl w A c L) (k : Sl w B d M) => af5 s A c L e t B d M f w h k da db h1 h2;have HP := arM<|Ui ⟨s,val L,e⟩ ⟨t,val M,f⟩;have z1 : Hid<|Dy.jc ⟨s,val L,e⟩=0↔val L=0 := abc;have z2 : Hid<|Dy.jc ⟨t,val M,f⟩=0↔val M=0 := abc;have Lw : Dy.jc ⟨s,val L,e⟩=0\/Dy.jc ⟨s,val L,e⟩ = -1\/Dy.jc ⟨s,val L,e⟩=1 := by
    rcases JE ⟨s,val L,e⟩with⟨_,h⟩|⟨_,_,h⟩|⟨_,_,h⟩<;>simp[h]
  have pF : uc ⟨s,val L,e⟩ ⟨t,val M,f⟩ = -1\/uc ⟨s,val L,e⟩ ⟨t,val M,f⟩=0\/uc ⟨s,val L,e⟩ ⟨t,val M,f⟩=1 := by
    unfold uc kI;split;simp;split<;>simp
  generalize Dy.jc ⟨s,val L,e⟩=sa at *
  generalize Dy.jc ⟨t,val M,f⟩=sb at *
  generalize uc ⟨s,val L,e⟩ ⟨t,val M,f⟩=cm at *
  generalize jm ⟨s,val L,e⟩ ⟨t,val M,f⟩=R at *
  have DQ : IntKind.i64.wrap (sa*cm)=sa*cm := i64_in _ (by rcases Lw with rfl|rfl|rfl<;>omega) (by rcases Lw with rfl|rfl|rfl<;>omega);have HH := arM Lw;clear Lw pF da db;go_enter func76,ntmps76;go_wp2_with fail;refine(HVa.out _<|(hs.alloc _).alloc _).mono ?_;rintro r w1 ⟨rfl,kE⟩;have lR := ((jQ.new w s A L.length c e).alloc<|.cells #[.bool t,.slice B M.length d,.int .i64 f] 37).ext kE;have ml := (jQ.zY (W := w.alloc<|.cells #[.bool s,.slice A L.length c,.int .i64 e] 37) (g := w.heap.size+1) aH t B M.length d f).ext kE;have b0 := lR.c0;have b1 := lR.c1;have b2 := lR.c2;have d0 := ml.c0;have d1 := ml.c1;have d2 := ml.c2;have hE := (((iZ.alloc w<|.cells #[.bool s,.slice A L.length c,.int .i64 e] 37).trans<|iZ.alloc _<|.cells #[.bool t,.slice B M.length d,.int .i64 f] 37).trans kE)
  go_wp2_with fail;refine(HVb.out _<|hr.below hE).mono ?_;rintro r w2 ⟨rfl,lV⟩;have K2 := hE.trans lV;have lR := (lR.ext lV).drew;have ml := (ml.ext lV).drew;have A9 := (hs.below K2).drew;have DK := (hr.below K2).drew;have HE := arM<|K2.trans<|iZ.drew _;clear hE K2 kE lV b0 b1 b2 d0 d1 d2;go_wp2_with fail;go_region_held3 (λw' => w'.cell? ⟨w.heap.size,0,none⟩=some (.bool s)/\w'.cell? ⟨w.heap.size,1,none⟩=some (.slice A L.length c)/\w'.cell? ⟨w.heap.size,2,none⟩=some (.int .i64 e)/\w'.cell? ⟨w.heap.size+1,0,none⟩=some (.bool t)/\w'.cell? ⟨w.heap.size+1,1,none⟩=some (.slice B M.length d)/\w'.cell? ⟨w.heap.size+1,2,none⟩=some (.int .i64 f))
    (first
      |exact⟨lR.c0,lR.c1,lR.c2,ml.c0,ml.c1,ml.c2⟩
      |exact⟨(lR.ext ju).c0,(lR.ext ju).c1,(lR.ext ju).c2,(ml.ext ju).c0,(ml.ext ju).c1,(ml.ext ju).c2⟩
      |exact⟨(lR.ext jE).c0,(lR.ext jE).c1,(lR.ext jE).c2,(ml.ext jE).c0,(ml.ext jE).c1,(ml.ext jE).c2⟩
      |exact⟨(lR.ext<|ju.trans jE).c0,(lR.ext<|ju.trans jE).c1,(lR.ext<|ju.trans jE).c2,(ml.ext<|ju.trans jE).c0,(ml.ext<|ju.trans jE).c1,(ml.ext<|ju.trans jE).c2⟩
      |exact⟨(lR.ext<|jE.trans ju).c0,(lR.ext<|jE.trans ju).c1,(lR.ext<|jE.trans ju).c2,(ml.ext<|jE.trans ju).c0,(ml.ext<|jE.trans ju).c1,(ml.ext<|jE.trans ju).c2⟩)
    (first
      | (go_at_call_of 50 (Value.agg #[.bool s,.slice A L.length c,.int .i64 e])
         refine(HSa.out _ ?_).mono ?_
         (first|exact A9|exact A9.below jE)
         rintro r wx ⟨rfl,ju⟩)
      | (go_at_call_of 50 (Value.agg #[.bool t,.slice B M.length d,.int .i64 f])
         refine(HSb.out _ ?_).mono ?_
         (first|exact DK|exact DK.below ju)
         rintro r wy ⟨rfl,jE⟩))
  first
    | (have rM := ju.trans jE)
    | (have rM := jE.trans ju)
  have cx1 := (lR.ext rM)
  have cx2 := (ml.ext rM)
  have lv := (A9.below rM)
  have qb := (DK.below rM)
  have HFr := arM<|HE.out.trans rM;clear ju jE rM;by_cases h1 : sa<sb
  . have hR := arM (show R = -1 by rw[HP.out,aY h1])
    go_wp2;go_ret;exact⟨rf hR.out.symm,HFr.out⟩
  . by_cases h2 : sb<sa
    . have hR := arM (show R=1 by rw[HP.out,aX h1,aY h2])
      go_wp2;go_ret;exact⟨rf hR.out.symm,HFr.out⟩
    . by_cases h3 : sa=0
      . have hR := arM (show R=0 by rw[HP.out,aX h1,aX h2,aY h3])
        have hz : (sa==0)=true := by simp[h3]
        go_wp2;go_ret;exact⟨rf hR.out.symm,HFr.out⟩
      . have hR := arM (show R=sa*cm by rw[HP.out,aX h1,aX h2,aX h3])
        have hz : (sa==0)=false := aS h3;have HK2 := arM (HK.out (λh => h3<|z1.out.2 h) λh => h3<|by have := z2.out.2 h;omega);have b0 := cx1.c0;have b1 := cx1.c1;have b2 := cx1.c2;have d0 := cx2.c0;have d1 := cx2.c1;have d2 := cx2.c2;go_wp2_with fail;refine(HK2.out _ lv qb).mono ?_;rintro r w3 ⟨rfl,sx⟩;go_wp2;go_ret;exact⟨rf hR.out.symm,HFr.out.trans sx⟩
section
variable{L:List Nat}(h:iQ L)(hl:L.length<=256)(s:Bool)(e:Int)
def T4:(ib (canon s (val L) e).m).length<=100000000:=by
 unfold canon;split
 .simp [pG]
 .refine bg (yG (k:=256)<|ck (b5 _ _) ?_) aE ;exact bM (pk h)<|bO aE hl
def T3(h1:-9000000<=e)(h2:e<=9000000):-10000000<=(canon s (val L) e).e/\(canon s (val L) e).e<=10000000:=by
 unfold canon;split
 .simp
 .rename_i h0;have:=GZ h h0;simp only;omega
end
def amT(s:Bool)(A:Option Addr)(c:Nat)(L:List Nat)(e k:Int)(w:World)(hs:Sl w A c L)(hd:pK s L e)(mT:-32768<=k)(xf:k<=32768)(hr:nj<|canon s (val L)<|e+k):
 Calls prog 83 #[.agg #[.bool s,.slice A L.length c,.int .i64 e],.int .i64 k] w (Au w (canon s (val L)<|e+k) 0):=by
 obtain⟨mO,lL⟩:=hd.exp;have hlen:=hd.len;have HV:=arM (λw (h:Sl w A c L)=>Mn s A c L e w true h aC aC<|by simp[hd]);have HX:=arM (λw=>amM k w true<|by simp[mT,xf]);have hw:IntKind.i64.wrap (e+k)=e+k:=i64_in _;have HC:=arM λw (h:Sl w A c L)=>Ry s A c L (e+k) w h aC aC aC;have kE:=T4 hs.ok hlen s<|e+k;obtain⟨lV,sx⟩:=T3 hs.ok hlen s (e+k) aC aC;have hv:(canon s (val L)<|e+k).ig:=⟨tl _ _ _,hr⟩
 have HK:=arM λA c w (h:Sl w A c<|ib (canon s (val L)<|e+k).m)=>amL _ A c w h kE lV sx hv;generalize canon s (val L) (e+k)=D at *
 clear hd hr hv kE lV sx;go_enter func83,ntmps83;go_wp2_with fail;refine(HV.out _<|(hs.alloc _).alloc _).mono ?_;rintro r w1 ⟨rfl,kE⟩;have lR:=((jQ.new w s A L.length c e).alloc<|.cells #[.bool false,.slice none 0 0,.int .i64 0] 37).ext kE;have ml:=(jQ.zY (W:=w.alloc<|.cells #[.bool s,.slice A L.length c,.int .i64 e] 37) (g:=w.heap.size+1) aH false none 0 0 0).ext kE;have b0:=lR.c0;have b1:=lR.c1;have b2:=lR.c2;have hE:=(((iZ.alloc w<|.cells #[.bool s,.slice A L.length c,.int .i64 e] 37).trans<|iZ.alloc _<|.cells #[.bool false,.slice none 0 0,.int .i64 0] 37).trans kE)
 have A9:=hs.below hE;have HE:=arM hE;clear hE kE;go_wp2_with fail;refine(HX.out _).mono ?_;rintro r w2 ⟨rfl,rfl⟩;go_wp2_with fail;refine(HC.out _ A9).mono ?_;rintro r w2 ⟨A1,c1,rfl,uE,lV⟩;go_wp2_with fail;refine(HK.out _ _ _ uE).mono ?_;rintro r w3 ⟨A2,c2,rfl,lv,sx⟩;have bz:=ml.ext<|lV.trans sx;have z0:=bz.c0;have z1:=bz.c1;have z2:=bz.c2;have f0:=bz.fr 0;have f1:=bz.fr 1;have f2:=bz.fr 2;go_wp2;exact E5 rfl rfl rfl rfl (bz.set _ _ _ _ _) rfl (bz.wG lv _ _ _ _ _) (jQ.vF (HE.out.trans<|lV.trans sx) aC _ _ _ _ _)
abbrev DV(d:Dy)(A:Option Addr)(c:Nat):Value:=.agg #[.bool d.neg,.slice A (ib d.m).length c,.int .i64 d.e]
def FI{n k:Nat}(h:iq n<=32*k):(ib n).length<=k:=by
 refine yG<|bM (sc _) ?_;rw[uP];exact bO aE h
def Fp.Dy.ig.wT{d:Dy}(h:d.ig):pK d.neg (ib d.m) d.e:=by
 refine⟨Gn _,FI ?_,by rw[kK];exact h⟩;rcases h.range with h0|⟨h1,_⟩
 .rw [h0];exact b7 _
 .omega
def Fp.Dy.ig.len{d:Dy}(h:d.ig):(ib d.m).length<=256:=h.wT.2.1
def Fp.Dy.ig.exp{d:Dy}(h:d.ig):-16384<=d.e/\d.e<=16384:=h.wT.exp
def Fp.Dy.ig.bits{d:Dy}(h:d.ig):iq d.m<=4096:=by have:=h.wT.bits;rwa[kK]at this
section
variable{w:World}{g n c:Nat}{s:Bool}{A:Option Addr}{e:Int}(h:jQ w g s A n c e)
def jQ.all:w.cell? ⟨g,0,none⟩=some (.bool s)/\w.cell? ⟨g,1,none⟩=some (.slice A n c)/\w.cell? ⟨g,2,none⟩=some (.int .i64 e):=⟨h.c0,h.c1,h.c2⟩
def jQ.Di{g':Nat}(jD:g'≠g)(i:Nat)(v:Value):jQ (w.setCell ⟨g',i,none⟩ v) g s A n c e:=by
 unfold jQ at h ⊢;simp only[World.setCell,cV];rw[aX jD];exact h
def jQ.OD{g':Nat}(jD:g'≠g)(v0 v1 v2:Value):
 jQ (((w.setCell ⟨g',0,none⟩ v0).setCell ⟨g',1,none⟩ v1).setCell ⟨g',2,none⟩ v2) g s A n c e:=((h.Di jD 0 v0).Di jD 1 v1).Di jD 2 v2
end
def af4(a b:Dy)(A B:Option Addr)(c d:Nat)(w:World)(h:Sl w A c<|ib a.m)(k:Sl w B d<|ib b.m)(ha:a.ig)(hb:b.ig):
 Calls prog 76 #[DV a A c,DV b B d] w λe w'=>e = .returned (.int .i64<|jm a b)/\iZ w w':=by
 have:=af3 a.neg A c (ib a.m) a.e b.neg B d (ib b.m) b.e w h k ha.wT hb.wT;rw[kK,kK]at this;exact this
section
variable(a:Dy)(A:Option Addr)(c:Nat)(w:World)(h:Sl w A c<|ib a.m)(ha:a.ig)
def af2:
 Calls prog 279 #[DV a A c] w λe w'=>e = .returned (.int .i64<|iq a.m)/\iZ w w':=by
 have:=af1 a.neg A c (ib a.m) a.e w h ha.wT;rw[kK]at this;exact this
def af9:
 Calls prog 50 #[DV a A c] w λe w'=>e = .returned (.int .i64 a.jc)/\iZ w w':=by
 have:=Oa a.neg A c (ib a.m) a.e w h ha.wT;rw[kK]at this;exact this
def UZ:
 Calls prog 60 #[DV a A c] w λe w'=>e = .returned (.bool true)/\iZ w w':=
 Dd a.neg A c (ib a.m) a.e w true h (by have:=ha.exp;omega) (by have:=ha.exp;omega) (by simp[ha.wT])
end
open Pu
def SR:∀ w w',Tb w->Below w.heap.size w w'->Tb w':=λ_ _ h hb=>h.below hb
def mixed:prog.follows .mixedOrders=true:= aF 
abbrev ic(f:FuncId)(args:List E)(jA:E):Prop:=PC prog Tb f args jA
def il(L:List Nat):E:=.sl false L.length 1 λi _=>.v<|.int .u32 (L.getD i 0:Int)
def iw(d:Dy):E:=.agg [.v<|.bool d.neg,il<|ib d.m,.v<|.int .i64 d.e]
abbrev iP(z:Int):E:=.v<|.int .i64 z
abbrev bP(b:Bool):E:=.v<|.bool b
abbrev ar:List E:=[bP false,.v<|.slice none 0 0,iP 0]
abbrev au:List E:=[bP false,.v<|.slice none 0 0,iP 0,bP false,.v<|.slice none 0 0,iP 0,bP false]
def Aj{bs br:Nat->Prop}{w:World}{L:List Nat}{v:Value}(hk:iQ L)(h:iI bs br w (il L) v):∃ A c,v = .slice A L.length c/\Sl w A c L:=by
 cases h with
 |sl _ _ _ _ A c f hc hm h0 hl hr cell kk=>
  refine⟨A,c,rfl,hc,hm,hk,h0,λi x hx=>?_⟩;obtain⟨hi,rC⟩:=ca.1 hx;obtain⟨b,o,e1,_,iE,kr⟩:=cell i 0 hi aE;have hv:=iI.kG<|kk i 0 hi aE;refine⟨b,o,e1,iE,?_⟩;rw[b6,bT,hv]at kr;rw[kr];simp[bc,hx]
def CM{B br:Nat->Prop}{w w':World}{A:Option Addr}{c:Nat}{L:List Nat}(hB:∀ b,B b->b<w.heap.size/\oi w b)(hb:iZ w w')(h:Sl w' A c L):iI B br w' (il L)<|.slice A L.length c:=by
 refine .sl false L.length 1 _ A c (λi _=>.int .u32 (L.getD i 0:Int)) h.cap h.rS h.z8 (λi j _ _=>⟨rfl,λh=>by cases h⟩) (λi j _ _=>rfl) (λi j hi hj=>?_) λi j _ _=>.v _
 .obtain rfl:j=0:= aC ;obtain⟨b,o,e1,iE,kr⟩:=h.mE hi;have e2:L.getD i 0=L[i]:=by simp[bc,hi]
  refine⟨b,o,e1,λsy=>?_,iE,by rw[b6,bT,kr,e2]⟩;obtain⟨h1,h2⟩:=hB b sy;exact(h2.FV<|hb.block b h1) _ _ kr
def KC{bs br:Nat->Prop}{w:World}{d:Dy}{v:Value}(h:iI bs br w (iw d) v):∃ A c,v=DV d A c/\Sl w A c (ib d.m):=by
 obtain⟨vs,rfl,q⟩:=iI.EM<|show iI bs br w (.agg _) v from h;obtain⟨v1,vs,rfl,h1,q⟩:=q.mY;obtain⟨v2,vs,rfl,h2,q⟩:=q.mY;obtain⟨v3,vs,rfl,h3,q⟩:=q.mY;obtain rfl:=q.re;obtain rfl:=iI.kG h1;obtain rfl:=iI.kG h3;obtain⟨A,c,rfl,hs⟩:=Aj (mJ _) h2;exact⟨A,c,rfl,hs⟩
def UX{B br:Nat->Prop}{w w':World}{A:Option Addr}{c:Nat}{d:Dy}(hB:∀ b,B b->b<w.heap.size/\oi w b)(hb:iZ w w')(h:Sl w' A c<|ib d.m):iI B br w' (iw d)<|DV d A c:=
 kf.agg (.cons (.v _)<|.cons (CM hB hb h)<|.cons (.v _)<|.nil _ _ _)
section
variable {f:FuncId} {a b:Dy}
section
variable(hc:∀ (vs:Array Value) (w:World),(callFunc f vs).run prog w = .ok (.enter f vs) w){jA:E}{R:World->Ending->World->Prop}
def Eb
 (H:∀ A c w,Sl w A c (ib a.m)->Tb w->Calls prog f #[DV a A c] w (R w)) (hR:∀ (B:Nat->Prop) w e w',(∀ b,B b->b<w.heap.size/\oi w b)->R w e w'->∃ v,e = .returned v/\Below w.heap.size w w'/\iI B (λ_=>True) w' jA v):ic f [iw a] jA:=by
 refine⟨hc,λw B vs hK hB hr=>?_⟩;obtain⟨v1,vs,rfl,h1,hr⟩:=hr.mY;obtain rfl:=hr.re;obtain⟨A,c,rfl,s1⟩:=KC h1;exact(H A c w s1 hK).mono λe w' h=>hR B w e w' hB h
def pc2
 (H:∀ A c A' c' w,Sl w A c (ib a.m)->Sl w A' c' (ib b.m)->Tb w->Calls prog f #[DV a A c,DV b A' c'] w (R w)) (hR:∀ (B:Nat->Prop) w e w',(∀ b,B b->b<w.heap.size/\oi w b)->R w e w'->∃ v,e = .returned v/\Below w.heap.size w w'/\iI B (λ_=>True) w' jA v):ic f [iw a,iw b] jA:=by
 refine⟨hc,λw B vs hK hB hr=>?_⟩;obtain⟨v1,vs,rfl,h1,hr⟩:=hr.mY;obtain⟨v2,vs,rfl,h2,hr⟩:=hr.mY;obtain rfl:=hr.re;obtain⟨A,c,rfl,s1⟩:=KC h1;obtain⟨A',c',rfl,s2⟩:=KC h2;exact(H A c A' c' w s1 s2 hK).mono λe w' h=>hR B w e w' hB h
end
end
def rv{x:Value}:∀ (B:Nat->Prop) (w:World) (e:Ending) (w':World),(∀ b,B b->b<w.heap.size/\oi w b)->(e = .returned x/\iZ w w')->∃ v,e = .returned v/\Below w.heap.size w w'/\iI B (λ_=>True) w' (.v x) v:=
 λ_ _ _ _ _ h=>⟨x,h.1,h.2,.v x⟩
def rd{d:Dy}:∀ (B:Nat->Prop) (w:World) (e:Ending) (w':World),(∀ b,B b->b<w.heap.size/\oi w b)->At w d e w'->∃ v,e = .returned v/\Below w.heap.size w w'/\iI B (λ_=>True) w' (iw d) v:=
 λ_ _ _ _ hB ⟨_,_,h1,h2,h3⟩=>⟨_,h1,h3,UX hB h3 h2⟩
def Rt{d:Dy}{n:Int}:∀ (B:Nat->Prop) (w:World) (e:Ending) (w':World),(∀ b,B b->b<w.heap.size/\oi w b)->Au w d n e w'->∃ v,e = .returned v/\Below w.heap.size w w'/\iI B (λ_=>True) w' (.ix [iw d,iP n]) v:=
 λ_ _ _ _ hB ⟨_,_,h1,h2,h3⟩=>⟨_,h1,h3,kf.ix<|.cons (UX hB h3 h2)<|.cons (.v _)<|.nil _ _ _⟩
def tc:E.le (.agg ar)<|iw iR:=by
 have:iw iR = .agg [bP false,.sl false 0 1 λi _=>.v<|.int .u32 (((ib 0).getD i 0:Nat):Int),iP 0]:=by
  show E.agg [bP false,il<|ib 0,iP 0]=_;unfold il;rw[pG];rfl
 rw[this];exact .agg<|.cons (.refl _)<|.cons (.nil _ _ _)<|.cons (.refl _) .nil
def mF(a b:Dy)(ha:a.ig)(hb:b.ig):ic 76 [iw a,iw b]<|iP<|jm a b:=pc2 call76 (λA c A' c' w h k _=>af4 a b A A' c c' w h k ha hb) rv
section
variable(a:Dy)(ha:a.ig)
def nL:ic 50 [iw a]<|iP a.jc:=Eb call50 (λA c w h _=>af9 a A c w h ha) rv
def qk:ic 60 [iw a]<|bP true:=Eb call60 (λA c w h _=>UZ a A c w h ha) rv
def KA:ic 279 [iw a]<|iP<|iq a.m:=Eb call279 (λA c w h _=>af2 a A c w h ha) rv
end
def yT(t e:Nat)(s:String):TI:=⟨t,.slice e,⟨.slice e,s,1,24,true,8,8,some<|.slice none 0 0,false,#[]⟩⟩
def s7(t:Nat)(d:TypeDesc)(s:String):TI:=⟨t,d,⟨d,s,1,8,true,8,8,some<|.nilFunc,false,#[]⟩⟩
def TT:List TI:=[
 ⟨3,.int .i64,⟨.int .i64, "int", 1,8,false,8,8,some<|.int .i64 0,true,#[]⟩⟩,
 ⟨4,.bool,⟨.bool, "bool", 1,1,false,1,1,some<|.bool false,true,#[]⟩⟩,
 ⟨5,.int .u8,⟨.int .u8, "uint8", 1,1,false,1,1,some<|.int .u8 0,true,#[]⟩⟩,
 ⟨9,.string,⟨.string, "string", 1,16,true,8,8,some<|.string ⟨#[]⟩,true,#[]⟩⟩,
 ⟨22,.int .i8,⟨.int .i8, "int8", 1,1,false,1,1,some<|.int .i8 0,true,#[]⟩⟩,yT 23 41 "[]api.Interval",s7 25 (.func #[23] #[4] false) "func([]api.Interval) bool",yT 26 153 "[]api.Op",yT 27 3 "[]int",
 ⟨29,.struct #[⟨"Ins", 3,0,false, "", "", 0⟩,⟨"Ops", 26,1,false, "", "", 8⟩,⟨"Outs", 27,2,false, "", "", 32⟩],⟨.named "flowpipe/api.Tape" 28, "api.Tape", 3,56,true,8,8,some<|.agg #[.int .i64 0,.slice none 0 0,.slice none 0 0],false,#[]⟩⟩,
 ⟨31,.struct #[⟨"Tape", 29,0,false, "", "", 0⟩,⟨"States", 3,3,false, "", "", 56⟩,⟨"Params", 23,4,false, "", "", 64⟩],⟨.named "flowpipe/api.System" 30, "api.System", 5,88,true,8,8,some<|.agg #[.int .i64 0,.slice none 0 0,.slice none 0 0,.int .i64 0,.slice none 0 0],false,#[]⟩⟩,yT 35 95 "[]uint32",
 ⟨37,.struct #[⟨"Neg", 4,0,false, "", "", 0⟩,⟨"M", 35,1,false, "", "", 8⟩,⟨"E", 3,2,false, "", "", 32⟩],⟨.named "flowpipe/api.Dyadic" 36, "api.Dyadic", 3,40,true,8,8,some<|.agg #[.bool false,.slice none 0 0,.int .i64 0],false,#[]⟩⟩,s7 39 (.func #[37] #[4] false) "func(api.Dyadic) bool",
 ⟨41,.struct #[⟨"Lo", 37,0,false, "", "", 0⟩,⟨"Hi", 37,3,false, "", "", 40⟩,⟨"All", 4,6,false, "", "", 80⟩],⟨.named "flowpipe/api.Interval" 40, "api.Interval", 7,88,true,8,8,some<|.agg #[.bool false,.slice none 0 0,.int .i64 0,.bool false,.slice none 0 0,.int .i64 0,.bool false],false,#[]⟩⟩,
 ⟨43,.int .i64,⟨.named "flowpipe/api.Errno" 3, "api.Errno", 1,8,false,8,8,some<|.int .i64 0,true,#[]⟩⟩,yT 49 23 "[][]api.Interval",yT 57 62 "[]krawczyk.Root",
 ⟨62,.struct #[⟨"X", 23,0,false, "", "", 0⟩,⟨"Sure", 4,1,false, "", "", 24⟩],⟨.named "flowpipe/krawczyk.Root" 61, "krawczyk.Root", 2,32,true,8,8,some<|.agg #[.slice none 0 0,.bool false],false,#[]⟩⟩,s7 63 (.func #[62] #[4] false) "func(krawczyk.Root) bool",s7 66 (.func #[41,41] #[4] false) "func(api.Interval, api.Interval) bool",s7 67 (.func #[23,62] #[4] false) "func([]api.Interval, krawczyk.Root) bool",s7 76 (.func #[41] #[4] false) "func(api.Interval) bool",
 ⟨78,.struct #[⟨"N", 3,0,false, "", "", 0⟩,⟨"D", 3,1,false, "", "", 8⟩],⟨.named "flowpipe/api.Ratio" 77, "api.Ratio", 2,16,false,8,8,some<|.agg #[.int .i64 0,.int .i64 0],true,#[]⟩⟩,yT 79 81 "[]api.Expr",
 ⟨81,.struct #[⟨"Kind", 3,0,false, "", "", 0⟩,⟨"Num", 78,1,false, "", "", 8⟩,⟨"Name", 9,3,false, "", "", 24⟩,⟨"N", 3,4,false, "", "", 40⟩,⟨"L", 79,5,false, "", "", 48⟩],⟨.named "flowpipe/api.Expr" 80, "api.Expr", 6,72,true,8,8,some<|.agg #[.int .i64 0,.int .i64 0,.int .i64 0,.string ⟨#[]⟩,.int .i64 0,.slice none 0 0],false,#[]⟩⟩,yT 86 9 "[]string",
 ⟨95,.int .u32,⟨.int .u32, "uint32", 1,4,false,4,4,some<|.int .u32 0,true,#[]⟩⟩,s7 104 (.func #[41,41,3] #[41] false) "func(api.Interval, api.Interval, int) api.Interval",s7 105 (.func #[3] #[4] false) "func(int) bool",s7 131 (.func #[3] #[41] false) "func(int) api.Interval",
 ⟨134,.int .u64,⟨.int .u64, "uint", 1,8,false,8,8,some<|.int .u64 0,true,#[]⟩⟩,s7 137 (.func #[37,3] #[37,43] false) "func(api.Dyadic, int) (api.Dyadic, api.Errno)",
 ⟨148,.int .u64,⟨.int .u64, "uint64", 1,8,false,8,8,some<|.int .u64 0,true,#[]⟩⟩,
 ⟨153,.struct #[⟨"Kind", 3,0,false, "", "", 0⟩,⟨"A", 3,1,false, "", "", 8⟩,⟨"B", 3,2,false, "", "", 16⟩,⟨"N", 3,3,false, "", "", 24⟩,⟨"C", 78,4,false, "", "", 32⟩],⟨.named "flowpipe/api.Op" 152, "api.Op", 6,48,false,8,8,some<|.agg #[.int .i64 0,.int .i64 0,.int .i64 0,.int .i64 0,.int .i64 0,.int .i64 0],true,#[]⟩⟩,s7 175 (.func #[3,3,41] #[41] false) "func(int, int, api.Interval) api.Interval",
 ⟨188,.struct #[⟨"p", 3,0,false, "", "flowpipe/exponent", 0⟩],⟨.named "flowpipe/exponent.work" 187, "exponent.work", 1,8,false,8,8,some<|.agg #[.int .i64 0],true,#[⟨"flowpipe/exponent.add", 144,#[],some (289,false)⟩,⟨"flowpipe/exponent.div", 144,#[],some (287,false)⟩,⟨"flowpipe/exponent.exp", 108,#[],some (242,false)⟩,⟨"flowpipe/exponent.halved", 103,#[],some (197,false)⟩,⟨"flowpipe/exponent.log", 108,#[],some (364,false)⟩,⟨"flowpipe/exponent.mul", 144,#[],some (288,false)⟩,⟨"flowpipe/exponent.small", 76,#[],some (290,false)⟩]⟩⟩,
 ⟨190,.func #[37,37,3] #[37,43] false,⟨.named "flowpipe/interval.rounded" 147, "interval.rounded", 1,8,true,8,8,some<|.nilFunc,false,#[]⟩⟩,
 ⟨191,.array 2 37,⟨.array 2 37, "[2]api.Dyadic", 6,80,true,8,8,some<|.agg #[.bool false,.slice none 0 0,.int .i64 0,.bool false,.slice none 0 0,.int .i64 0],false,#[]⟩⟩,
 ⟨192,.array 4 191,⟨.array 4 191, "[4][2]api.Dyadic", 24,320,true,8,8,some<|.agg #[.bool false,.slice none 0 0,.int .i64 0,.bool false,.slice none 0 0,.int .i64 0,.bool false,.slice none 0 0,.int .i64 0,.bool false,.slice none 0 0,.int .i64 0,.bool false,.slice none 0 0,.int .i64 0,.bool false,.slice none 0 0,.int .i64 0,.bool false,.slice none 0 0,.int .i64 0,.bool false,.slice none 0 0,.int .i64 0],false,#[]⟩⟩,
 ⟨213,.struct #[⟨"m", 35,0,false, "", "flowpipe/round", 0⟩,⟨"e", 3,1,false, "", "flowpipe/round", 24⟩,⟨"more", 4,2,false, "", "flowpipe/round", 32⟩],⟨.named "flowpipe/round.exact" 212, "round.exact", 3,40,true,8,8,some<|.agg #[.slice none 0 0,.int .i64 0,.bool false],false,#[]⟩⟩,yT 219 37 "[]api.Dyadic",yT 221 219 "[][]api.Dyadic",
 ⟨233,.map 3 237,⟨.map 3 237, "map[int]func(gradient.node) api.Interval", 1,8,true,8,8,some<|.map none,false,#[]⟩⟩,
 ⟨236,.struct #[⟨"o", 153,0,false, "", "flowpipe/gradient", 0⟩,⟨"v", 41,6,false, "", "flowpipe/gradient", 48⟩,⟨"a", 41,13,false, "", "flowpipe/gradient", 136⟩,⟨"b", 41,20,false, "", "flowpipe/gradient", 224⟩,⟨"da", 41,27,false, "", "flowpipe/gradient", 312⟩,⟨"db", 41,34,false, "", "flowpipe/gradient", 400⟩,⟨"p", 3,41,false, "", "flowpipe/gradient", 488⟩],⟨.named "flowpipe/gradient.node" 235, "gradient.node", 42,496,true,8,8,some<|.agg #[.int .i64 0,.int .i64 0,.int .i64 0,.int .i64 0,.int .i64 0,.int .i64 0,.bool false,.slice none 0 0,.int .i64 0,.bool false,.slice none 0 0,.int .i64 0,.bool false,.bool false,.slice none 0 0,.int .i64 0,.bool false,.slice none 0 0,.int .i64 0,.bool false,.bool false,.slice none 0 0,.int .i64 0,.bool false,.slice none 0 0,.int .i64 0,.bool false,.bool false,.slice none 0 0,.int .i64 0,.bool false,.slice none 0 0,.int .i64 0,.bool false,.bool false,.slice none 0 0,.int .i64 0,.bool false,.slice none 0 0,.int .i64 0,.bool false,.int .i64 0],false,#[]⟩⟩,s7 237 (.func #[236] #[41] false) "func(gradient.node) api.Interval",yT 240 35 "[][]uint32",s7 242 (.func #[35] #[4] false) "func([]uint32) bool",s7 248 (.func #[219] #[4] false) "func([]api.Dyadic) bool",
 ⟨252,.struct #[⟨"p", 3,0,false, "", "flowpipe/linear", 0⟩,⟨"bad", 4,1,false, "", "flowpipe/linear", 8⟩],⟨.named "flowpipe/linear.rough" 251, "linear.rough", 2,16,false,8,8,some<|.agg #[.int .i64 0,.bool false],true,#[]⟩⟩,s7 258 (.func #[3,3,41] #[37] false) "func(int, int, api.Interval) api.Dyadic",s7 261 (.func #[3,3,37] #[41] false) "func(int, int, api.Dyadic) api.Interval",
 ⟨287,.struct #[⟨"neg", 4,0,false, "", "flowpipe/circle", 0⟩,⟨"m", 35,1,false, "", "flowpipe/circle", 8⟩],⟨.named "flowpipe/circle.fix" 286, "circle.fix", 2,32,true,8,8,some<|.agg #[.bool false,.slice none 0 0],false,#[⟨"flowpipe/circle.add", 298,#[],some (384,false)⟩,⟨"flowpipe/circle.by", 294,#[],some (387,false)⟩,⟨"flowpipe/circle.minus", 292,#[],some (375,false)⟩,⟨"flowpipe/circle.times", 295,#[],some (381,false)⟩,⟨"flowpipe/circle.zero", 24,#[],some (385,false)⟩]⟩⟩,s7 298 (.func #[287] #[287] false) "func(circle.fix) circle.fix"]
def CW:mw prog TT:=J4.ok ⟨⟨underlying3,aF⟩,⟨underlying4,aF⟩,⟨underlying5,aF⟩,⟨underlying9,aF⟩,⟨underlying22,aF⟩,⟨underlying23,aF⟩,⟨underlying25,aF⟩,⟨underlying26,aF⟩,⟨underlying27,aF⟩,⟨underlying29,aF⟩,⟨underlying31,aF⟩,⟨underlying35,aF⟩,⟨underlying37,aF⟩,⟨underlying39,aF⟩,⟨underlying41,aF⟩,⟨underlying43,aF⟩,⟨underlying49,aF⟩,⟨underlying57,aF⟩,⟨underlying62,aF⟩,⟨underlying63,aF⟩,⟨underlying66,aF⟩,⟨underlying67,aF⟩,⟨underlying76,aF⟩,⟨underlying78,aF⟩,⟨underlying79,aF⟩,⟨underlying81,aF⟩,⟨underlying86,aF⟩,⟨underlying95,aF⟩,⟨underlying104,aF⟩,⟨underlying105,aF⟩,⟨underlying131,aF⟩,⟨underlying134,aF⟩,⟨underlying137,aF⟩,⟨underlying148,aF⟩,⟨underlying153,aF⟩,⟨underlying175,aF⟩,⟨underlying188,aF⟩,⟨underlying190,aF⟩,⟨underlying191,aF⟩,⟨underlying192,aF⟩,⟨underlying213,aF⟩,⟨underlying219,aF⟩,⟨underlying221,aF⟩,⟨underlying233,aF⟩,⟨underlying236,aF⟩,⟨underlying237,aF⟩,⟨underlying240,aF⟩,⟨underlying242,aF⟩,⟨underlying248,aF⟩,⟨underlying252,aF⟩,⟨underlying258,aF⟩,⟨underlying261,aF⟩,⟨underlying287,aF⟩,⟨underlying298,aF⟩,trivial⟩
end Go.Proofs.YtjkmahljfblobaaGreatDoor
namespace Go.Proofs.YtjkmahljfblobaaGreatDoor.Pu
open Go.RowKit
def E.ng:E->Nat->Nat->E
 | .sl _ _ _ el,i,j=>el i j
 | .oW _ _ _ _ el,i,j=>el i j
 |_,_,_=>.any
section
variable {P:Program} {K:World->Prop}
def Sp.pre{c:Code}{σ τ:PS}{Q:Ex->PS->Prop}(h:PS.le σ τ)(k:Sp P K c τ Q):Sp P K c σ Q:=λw0 B a w L g r=>
 let⟨L',r'⟩:=h w0 B a w L (λb hb=>(g.hB b hb).1) r;k w0 B a w L' g r'
def Sp.post{c:Code}{σ:PS}{Q Q':Ex->PS->Prop}(h:Sp P K c σ Q)(k:∀ e τ,Q e τ->∃ τ',PS.le τ τ'/\Q' e τ'):Sp P K c σ Q':=λw0 B a w L g r=>
 Code.wp_mono (λ_ _ _ ⟨ex,τ,L',h1,h2,h3⟩=>let⟨τ',q1,q2⟩:=k ex τ h2;let⟨L2,r2⟩:=q1 w0 B _ _ L' (λb hb=>(g.hB b hb).1) h3;⟨ex,τ',L2,h1,q2,r2⟩) (h w0 B a w L g r)
def Sp.fam{α:Type}(f:α->PS)(p:α->Prop)(m:α->Nat){b:Code}{e:Ex}{τ:PS}
 (step:∀ x,p x->Sp P K b (f x) (λe' υ=>(e' = .normal/\∃ y,p y/\m y<m x/\υ=f y)\/(e' ≠ .normal/\e'=e/\υ=τ))) {σ:PS} (x:α) (hx:p x) (h0:PS.le σ<|f x):
 Sp P K (.loop b) σ (λe' υ=>e'=e/\υ=τ):=by
 refine Sp.pre h0 ?_;refine Sp.loop (Q:=λe' υ=>e'=e/\υ=τ) (λn σ=>∃ x,p x/\m x=n/\σ=f x) (λn σ ⟨x,h1,h2,h3⟩=>?_) (m x) (f x) ⟨x,hx,rfl,rfl⟩;subst h3 h2;exact(step x h1).mono λe' υ h=>h.imp (λ⟨q1,y,q2,q3,q4⟩=>⟨q1,m y,q3,y,q2,rfl,q4⟩) id
def Sp.ahe{α:Type}{f:α->PS}{p:α->Prop}{m:α->Nat}{b:Code}{e:Ex}{τ υ:PS}{x:α}(y:α)(h:Sp P K b (f x) λe' υ'=>e' = .normal/\υ'=υ)(hy:p y)(hm:m y<m x)(hl:PS.le υ<|f y):
 Sp P K b (f x) (λe' υ=>(e' = .normal/\∃ y,p y/\m y<m x/\υ=f y)\/(e' ≠ .normal/\e'=e/\υ=τ)):=
 h.post λ_ _ ⟨h1,h2⟩=>⟨f y,h2▸hl,.inl ⟨h1,y,hy,hm,rfl⟩⟩
def Sp.ahf{α:Type}{f:α->PS}{p:α->Prop}{m:α->Nat}{b:Code}{e:Ex}{τ υ:PS}{x:α}(h:Sp P K b (f x) λe' υ'=>e'=e/\υ'=υ)(he:e ≠ .normal)(hl:PS.le υ τ):
 Sp P K b (f x) (λe' υ=>(e' = .normal/\∃ y,p y/\m y<m x/\υ=f y)\/(e' ≠ .normal/\e'=e/\υ=τ)):=
 h.post λ_ _ ⟨h1,h2⟩=>⟨τ,h2▸hl,.inr ⟨h1▸he,h1,rfl⟩⟩
end
def Cw(k:Nat):Code->Option Code
 | .loop b=>if Nat.beq (Hl b) k then some b else Cw k b
 | .seq a b=>match Cw k a with
  |some c=>some c
  |none=>Cw k b
 | .cond _ a b=>match Cw k a with
  |some c=>some c
  |none=>Cw k b
 | .block _ b=>Cw k b
 | .scope b=>Cw k b
 |_=>none
def ad0(k:Nat)(fn:Func):Code:=((fn.body.bind<|Cw k).getD .skip)
def Bx.le.jP{a b:Bx}(h:a=b):Bx.le a b:=h▸Bx.le.refl a
def Bx.le.cells{T:TypeId}{l m:List E}(hn:(l.all E.lY=true->m.all E.lY=true))(h:tW l m):Bx.le (.cells T l)<|.cells T m:=⟨hn,λ_ _ _ _ _ ⟨b,vs,h1,h2,h3,h4,h5⟩=>⟨b,vs,h1,h2,h3,h.Mp h4,h5⟩⟩
inductive GD:List PV->List PV->Prop
 |nil:GD [] []
 |cons {p q:PV} {l m:List PV} (h:PV.le p q) (k:GD l m):GD (p::l)<|q::m
def GD.len{l m:List PV}(h:GD l m):l.length=m.length:=by
 induction h with
 |nil=>rfl
 |cons _ _ ih=>simp[ih]
def Bx.le.row{nl:Bool}{T:TypeId}{n n' sz:Nat}{el el':Nat->Nat->E}(hn:n=n')(h:∀ i j,i<n->j<sz->E.le (el i j) (el' i j)/\(el' i j).nr 2=true):Bx.le (.row nl T n sz el)<|.row nl T n' sz el':=
 ⟨id,λ_ _ _ _ _ ⟨f,h1,h2,h3⟩=>by subst hn;exact⟨f,h1,h2,λi j hi hj=>⟨(h i j hi hj).1 _ _ _ _ (h3 i j hi hj).1,(h i j hi hj).2⟩⟩⟩
def Bx.le.iT{nl:Bool}{T1 T0:TypeId}{n n' sz:Nat}{len len':Nat->Nat}{el el':Nat->Nat->Nat->E}{pend:Option Nat}(hn:n=n')(hl:∀ k,k<n->len k=len' k)
 (h:∀ k i j,k<n->i<len k->j<sz->E.le (el k i j) (el' k i j)/\(el' k i j).nr 2=true):Bx.le (.iT nl T1 T0 n sz len el pend)<|.iT nl T1 T0 n' sz len' el' pend:=
 ⟨id,λ_ _ _ _ _ hh=>by
  subst hn;rcases hh with hh|⟨b,ofs,c,cur,f,h1,h2,h3,h4,h5,h6,h7,h8,h9,nh,nW⟩
  .exact .inl hh
  refine .inr ⟨b,ofs,c,cur,f,h1,h2,h3,h4,h5,h6,h7,λk hk=>?_,h9,nh,nW⟩;rw[<-hl k hk];exact⟨(h8 k hk).1,λi j hi hj=>⟨(h k i j hk hi hj).1 _ _ _ _ ((h8 k hk).2 i j hi hj).1,(h k i j hk hi hj).2⟩⟩⟩
def PS.le.aj0{σ τ:PS}(hn:σ.n=τ.n)(jI:(τ.b.all λx=>x.2.nl)=true)(hr:Jv τ=true)(ht:yY σ τ.t)(hb:xQ σ τ.b):PS.le σ τ:=λw0 B a w L _ r=>by
 let L':Lk:=⟨λid=>L.lX id/\(τ.bo id).isSome=true,λid x=>L.own id x/\(τ.bo id).isSome=true,L.val,L.iG⟩
 have iE:qv L w L' w:=⟨a7 _,λx _ ⟨id,h,_⟩=>⟨id,h⟩,λ_ _ _=>rfl⟩
 refine⟨L',r.hd,by rw[<-hn];exact r.hs,λt=>?_,λid b h=>?_,λid=>?_,λid x h=>⟨r.hn id x h.1,h.2⟩,λid x h=>r.hw id x h.1,λid id' x h k=>r.hi id id' x h.1 k.1,r.he,λh id b k=>?_⟩
 .have hg:τ.get t=((look τ.t t)).getD (.e .any):=rfl;cases hl:look τ.t t with
  |none=>rw[hg,hl];exact .any _
  |some p=>
   rw[hg,hl];have:=ht.get hl _ _ _ _ _<|r.ht t;refine kD.move iE this λid hid pT=>⟨⟨pT,?_⟩,rfl,λ_=>rfl⟩
   have q:=bR.1 (gX.1 hr).1 _<|IU hl;exact bR.1 q id hid
 .obtain ⟨b',h1,h2⟩:=hb.get h;have hs:(τ.bo id).isSome=true:=by rw[h];rfl
  refine(h2.2 _ _ _ _ _<|r.hb id b' h1).later iE rfl (λx=>⟨λq=>q.1,λq=>⟨q,hs⟩⟩) (λ_=>rfl) (λ_ _=>rfl) λp v hp k=>kD.move iE k λid hid pT=>⟨⟨pT,?_⟩,rfl,λ_=>rfl⟩
  have q:=bR.1 (gX.1 hr).2 _<|IU h;exact bR.1 q id<|dG.2 ⟨p,hp,hid⟩
 .show L.lX id/\(τ.bo id).isSome=true↔(τ.bo id).isSome=true;refine⟨λh=>h.2,λh=>⟨(r.hv id).2 ?_,h⟩⟩;obtain⟨b,iV⟩:=gz.1 h;obtain⟨b',h1,_⟩:=hb.get iV;rw[h1];rfl
 .exact bR.1 jI _<|IU k
def PV.vR(id:Nat)(e:E)(p:PV):PV:=match p with
 | .own i=>if Nat.beq i id then .e e else .own i
 |p=>if p.kN.any (Nat.beq id)then .e .any else p
def PS.vR(σ:PS)(id:Nat)(e:E):PS:={ σ with t:=σ.t.map λx=>(x.1,x.2.vR id e),b:=(σ.b.filter λx=>!Nat.beq x.1 id).map λx=>(x.1,x.2.q9<|PV.vR id e) }
def Bx.as:Bx->Option E
 | .row nl _ n sz el=>some<|.sl nl n sz el
 | .iT nl _ _ n sz len el none=>some<|.sl true n 1 λk _=>.sl nl (len k) sz<|el k
 |_=>none
def PS.le.freeze{σ:PS}(id:Nat){b:Bx}{e:E}(iV:σ.bo id=some b)(he:b.as=some e):PS.le σ<|σ.vR id e:=λw0 B a w L hB r=>by
 let L':Lk:=⟨λi=>L.lX i/\i≠id,λi x=>L.own i x/\i≠id,L.val,L.iG⟩
 have iE:qv L w L' w:=⟨a7 _,λx _ ⟨i,h,_⟩=>⟨i,h⟩,λ_ _ _=>rfl⟩
 have rL:∀ i,(σ.vR id e).bo i=if i=id then none else(σ.bo i).map (Bx.q9<|PV.vR id e):=by
  intro i;unfold PS.bo PS.vR;simp only[LM];by_cases h:i=id
  .subst h;rw[aY rfl,Yq];rfl
  .rw [aX h,IT _ _ _ λe=>h e.symm]
 have sy:∀ x,L.own id x->¬bad B L' x:=by
  rintro x hx (h|⟨i,h1,h2⟩)
  .exact (r.hw id x hx).1<|hB x h
  .exact h2<|r.hi i id x h1 hx
 have own:∀ (v:Value) (T:TypeId) (n sz:Nat) (f:Nat->Nat->Value) (nl:Bool) (el:Nat->Nat->E),nb w v T n sz f nl->(∀ x,v.ownBlock=some x->L.own id x) ->
  (∀ i j,i<n->j<sz->iI (bad B L) (jl L) w (el i j) (f i j)/\(el i j).nr 2=true)->iI (bad B L') (jl L') w (.sl nl n sz el) v:=by
  intro v T n sz f nl el h1 h2 h3;rcases h1 with⟨rfl,rfl⟩|⟨b,ofs,c,cur,rfl,hg,qC,pF,nO,kr,jI⟩
  .exact .sl nl 0 sz el none 0 f (a7 _) aE (λ_=>rfl) (λi j hi=>absurd hi<|bt i) (λi j hi=>absurd hi<|bt i) (λi j hi=>absurd hi<|bt i) λi j hi=>absurd hi<|bt i
  .have oZ:=h2 b rfl;refine .sl nl n sz el _ c f qC (by unfold maxLen at pF;omega) (λh=>by cases h) (λi j hi hj=>⟨(kr i j hi hj).2,λhn=>jI hn _<|ej (kr i j hi hj).1⟩) (λi j hi hj=>(h3 i j hi hj).2)
    (λi j hi hj=>⟨b,ofs,rfl,sy b oZ,(r.hw id b oZ).2,?_⟩) (λi j hi hj=>iE.kq (h3 i j hi hj).1)
   simp only[World.cell?,hg];simpa using(kr i j hi hj).1
 have hold:∀ v,v=L.val id->iI (bad B L') (jl L') w e v:=by
  rintro v rfl;have Lc:=r.hb id b iV;cases b with
  |cells T l=>cases he
  |pQ nl T l=>cases he
  |Ak=>cases he
  |uJ=>cases he
  |row nl T n sz el=>
   cases he;obtain⟨f,h1,h2,h3⟩:=Lc;exact own _ T n sz f nl el h1 (λx hx=>(h2 x).2 hx) h3
  |iT nl T1 T0 n sz len el pend=>
   cases pend with
   |some k=>cases he
   |none=>
    cases he;rcases Lc with⟨h1,h2,_⟩|ju
    .subst h2;rw[h1];exact .sl true 0 1 _ none 0 (λ_ _=>undef) (a7 _) aE (λ_=>rfl) (λi j hi=>absurd hi<|bt i) (λi j hi=>absurd hi<|bt i) (λi j hi=>absurd hi<|bt i) λi j hi=>absurd hi<|bt i
    obtain⟨b,ofs,c,cur,f,h1,h2,h3,h4,h5,h6,h7,h8,h9,nh,nW⟩:=ju;have oZ:L.own id b:=(h9 b).2<|.inl rfl;rw[h1];refine .sl true n 1 _ _ c (λk _=>L.iG id k) h3 (by unfold maxLen at h4;omega) (λh=>by cases h) (λk j hk hj=>?_) (λk j hk hj=>rfl)
     (λk j hk hj=>⟨b,ofs,rfl,sy b oZ,(r.hw id b oZ).2,?_⟩) (λk j hk hj=>own _ T0 (len k) sz (f k) nl (el k) (h8 k hk).1 (λx hx=>(h9 x).2<|.inr ⟨k,hk,hx⟩) (h8 k hk).2)
    .obtain ⟨_,q1,q2⟩:=(h8 k hk).1.head;exact⟨q1,λ_=>q2⟩
    .rw [b6];obtain rfl:j=0:= aC ;simp only[World.cell?,h2];simpa using h6 k hk aH 
 have hT:∀ (p:PV) (v:Value),kD (bad B L) (jl L) L w p v->kD (bad B L') (jl L') L' w (p.vR id e) v:=by
  intro p v k;have move:∀ (p:PV) (v:Value),kD (bad B L) (jl L) L w p v->(p.kN.any<|Nat.beq id)=false->kD (bad B L') (jl L') L' w p v:=by
   intro p v k hp;refine kD.move iE k λi hi pT=>⟨⟨pT,?_⟩,rfl,λ_=>rfl⟩
   rintro rfl;have:=cF.1 hp i hi;simp at this
  have gen:∀ (p:PV) (v:Value),kD (bad B L) (jl L) L w p v->kD (bad B L') (jl L') L' w (if p.kN.any (Nat.beq id)then .e .any else p) v:=by
   intro p v k;cases hp:p.kN.any (Nat.beq id)with
   |true=>exact .any _
   |false=>exact move p v k hp
  cases p with
  |own i=>
   simp only[PV.vR];by_cases hi:i=id
   .subst hi;rw[cw,aY rfl];exact hold _ k.2
   .rw [cM hi,aX aE];exact⟨⟨k.1,hi⟩,k.2⟩
  |_=>exact gen _ _ k
 refine⟨L',r.hd,r.hs,λt=>?_,λi b' h=>?_,λi=>?_,λi x h=>⟨r.hn i x h.1,h.2⟩,λi x h=>r.hw i x h.1,λi i' x h k=>r.hi i i' x h.1 k.1,r.he,λh i b' k=>?_⟩
 .have hg:(σ.vR id e).get t=(σ.get t).vR id e:=by
   unfold PS.get PS.vR;rw[LM];cases look σ.t t<;>rfl
  rw[hg];exact hT _ _<|r.ht t
 .rw [rL]at h;split at h
  .cases h
  .rename_i hi;obtain⟨b0',ln,rfl⟩:=bU.1 h;exact nB.map (g:=λp=>p) iE (by rw[D3];exact r.hb i b0' ln) rfl (λx=>⟨λq=>q.1,λq=>⟨q,hi⟩⟩) (λ_=>rfl) (λ_ _=>rfl) λp v _ k=>hT p v k
 .rw [rL];show L.lX i/\i≠id↔_;by_cases hi:i=id
  .subst hi;simp
  .simp only[hi,cQ,eP,fM,bh,eZ];exact r.hv i
 .rw [rL]at k;split at k
  .cases k
  .obtain ⟨b0',ln,rfl⟩:=bU.1 k;rw[D4];exact r.hl h i b0' ln
def PS.EL(σ:PS)(t id:Nat)(b:Bx):PS:={ σ with t:=(t,.own id)::σ.t.filter (λx=>!Nat.beq x.1 t),b:=(id,b)::σ.b }
def PS.le.acM{σ:PS}(t id:Nat){nl:Bool}{T:TypeId}{sz:Nat}{el:Nat->Nat->E}(iV:σ.bo id=none)(hg:σ.get t = .e (.v<|.slice none 0 0))(jI:σ.nl=true->nl=true):PS.le σ<|σ.EL t id<|.row nl T 0 sz el:=λw0 B a w L hB r=>by
 have oD:¬L.lX id:=λh=>by have:=(r.hv id).1 h;rw[iV]at this;cases this
 let L':Lk:=⟨λi=>L.lX i\/i=id,L.own,λi=>if i=id then .slice none 0 0 else L.val i,L.iG⟩
 have iE:qv L w L' w:=⟨a7 _,λx _ h=>h,λ_ _ _=>rfl⟩
 have rL:∀ i,(σ.EL t id<|.row nl T 0 sz el).bo i=if i=id then some (.row nl T 0 sz el)else σ.bo i:=by
  intro i;unfold PS.bo PS.EL;rw[tK];by_cases h:id=i
  .rw [aY h,aY h.symm]
  .rw [aX h,aX λe=>h e.symm]
 have hv:a.tmps.getD t undef = .slice none 0 0:=by
  have:=r.ht t;rw[hg]at this;exact iI.kG this
 refine⟨L',r.hd,r.hs,λs=>?_,λi b' h=>?_,λi=>?_,λi x h=>.inl<|r.hn i x h,r.hw,r.hi,r.he,λh i b' k=>?_⟩
 .have hgs:(σ.EL t id<|.row nl T 0 sz el).get s=if t=s then .own id else σ.get s:=by
   unfold PS.get PS.EL;simp only[tK];by_cases h:t=s
   .rw [aY h,aY h];rfl
   .rw [aX h,aX h,IT _ _ _ h]
  rw[hgs];by_cases h:t=s
  .subst h;rw[aY rfl,hv];exact⟨.inr rfl,(aY rfl).symm⟩
  .rw [aX h];refine kD.move iE (r.ht s) λi _ pT=>⟨.inl pT,aX λ(q:i=id)=>oD<|q▸pT,λ_=>rfl⟩
 .rw [rL]at h;split at h
  .rename_i hi;subst hi;cases h;refine⟨λ_ _=>undef,.inl ⟨aY rfl,rfl⟩,λx=>⟨λq=>absurd (r.hn _ _ q) oD,λq=>?_⟩,λi j hi=>absurd hi<|bt i⟩;have e1:L'.val i = .slice none 0 0:=aY rfl;rw[e1]at q;cases q
  .rename_i hi;exact(r.hb i b' h).later iE (aX hi) (λ_=>Iff.rfl) (λ_=>rfl) (λ_ _=>rfl) λp v _ k=>kD.move iE k λi _ pT=>⟨.inl pT,aX λ(q:i=id)=>oD<|q▸pT,λ_=>rfl⟩
 .rw [rL];show L.lX i\/i=id↔_;by_cases hi:i=id
  .subst hi;simp
  .simp only[hi,fS,bh];exact r.hv i
 .rw [rL]at k;split at k
  .cases k;exact jI h
  .exact r.hl h i b' k
def Bx.JK:Bx->Option (Bool×TypeId×List PV)
 | .cells T l=>some (l.all E.lY,T,l.map .e)
 | .pQ nl T l=>some (nl,T,l)
 |_=>none
def nB.JK{B:Nat->Prop}{L:Lk}{w:World}{id:Nat}{b:Bx}{nl:Bool}{T:TypeId}{l:List PV}(h:nB (bad B L) (jl L) L w id b)(hf:b.JK=some (nl,T,l)):nB (bad B L) (jl L) L w id<|.pQ nl T l:=by
 cases b with
 |cells T' l'=>
  cases hf;obtain⟨b,vs,h1,h2,h3,h4,h5⟩:=h;refine⟨b,vs,h1,h2,h3,by rw[h4.len,cv],λi p v hp hv=>?_,λu hu=>⟨h5 u hu,λhn=>IS h4 hn u hu⟩⟩;rw[ch]at hp;obtain⟨e,he,rfl⟩:=bU.1 hp;exact h4.kq i e v he hv
 |pQ nl' T' l'=>cases hf;exact h
 |row=>cases hf
 |iT=>cases hf
 |Ak=>cases hf
 |uJ=>cases hf
def ao9{b:Bx}{nl:Bool}{T:TypeId}{l:List PV}(hf:b.JK=some (nl,T,l)):b.nl=nl:=by
 cases b<;>cases hf<;>rfl
def isNil:PV->Bool
 | .e (.v<|.slice none 0 0)=>true
 |_=>false
def ajC{p:PV}(h:isNil p=true):p = .e (.v<|.slice none 0 0):=by
 unfold isNil at h;split at h
 .rfl
 .cases h
def PS.Nu(σ:PS)(d off id:Nat)(b:Bx):Option PS:=match σ.bo id,σ.bo d with
 |none,some bd=>match bd.JK with
  |some (nl,T,l)=>match l[off]? with
   |some p=>if isNil p then some { σ with b:=(id,b)::(d,.pQ nl T<|l.set off<|.own id)::σ.b }else none
   |none=>none
  |none=>none
 |_,_=>none
def PS.le.acN{σ τ:PS}{d off id:Nat}{nl:Bool}{T:TypeId}{sz:Nat}{el:Nat->Nat->E}(h:σ.Nu d off id (.row nl T 0 sz el)=some τ)(jI:σ.nl=true->nl=true):PS.le σ τ:=λw0 B a w L hB r=>by
 unfold PS.Nu at h;split at h
 .rename_i bd iV Hv;split at h
  .rename_i nl' T' l hf;split at h
   .rename_i p hp;split at h
    .rename_i hn;obtain rfl:=ajC hn;cases h;have jD:d≠id:=λe=>by subst e;rw[iV]at Hv;cases Hv
     have oD:¬L.lX id:=λh=>by have:=(r.hv id).1 h;rw[iV]at this;cases this
     let L':Lk:=⟨λi=>L.lX i\/i=id,L.own,λi=>if i=id then .slice none 0 0 else L.val i,L.iG⟩
     have iE:qv L w L' w:=⟨a7 _,λx _ h=>h,λ_ _ _=>rfl⟩
     have PJ:∀ (p:PV) (v:Value),kD (bad B L) (jl L) L w p v->kD (bad B L') (jl L') L' w p v:=λp v k=>kD.move iE k λi _ pT=>⟨.inl pT,aX λ(q:i=id)=>oD<|q▸pT,λ_=>rfl⟩
     have rL:∀ i,PS.bo { σ with b:=(id,.row nl T 0 sz el)::(d,.pQ nl' T'<|l.set off<|.own id)::σ.b } i=if i=id then some (.row nl T 0 sz el)else if i=d then some (.pQ nl' T'<|l.set off<|.own id)else σ.bo i:=by
      intro i;unfold PS.bo;simp only[tK];by_cases h:id=i
      .rw [aY h,aY h.symm]
      .rw [aX h,aX<|show ¬i=id from λe=>h e.symm];by_cases h2:d=i
       .rw [aY h2,aY h2.symm]
       .rw [aX h2,aX λe=>h2 e.symm]
     refine⟨L',r.hd,r.hs,λs=>PJ _ _<|r.ht s,λi b' h=>?_,λi=>?_,λi x h=>.inl<|r.hn i x h,r.hw,r.hi,r.he,λh i b' k=>?_⟩
     .rw [rL]at h;split at h
      .rename_i hi;subst hi;cases h;refine⟨λ_ _=>undef,.inl ⟨aY rfl,rfl⟩,λx=>⟨λq=>absurd (r.hn _ _ q) oD,λq=>?_⟩,λi j hi=>absurd hi<|bt i⟩;have e1:L'.val i = .slice none 0 0:=aY rfl;rw[e1]at q;cases q
      .rename_i hi;split at h
       .rename_i hd;subst hd;cases h;obtain⟨b,vs,h1,h2,h3,h4,h5,h6⟩:=(r.hb i _ Hv).JK hf;refine⟨b,vs,(aX hi).trans h1,h2,h3,by simpa using h4,λj p v zw hv=>?_,h6⟩;rw[List.getElem?_set]at zw;split at zw
        .rename_i hj;subst hj;split at zw
         .cases zw;have Co:=iI.kG<|h5 off _ v hp hv;exact⟨.inr rfl,Co.trans (aY rfl).symm⟩
         .cases zw
        .exact PJ _ _<|h5 j p v zw hv
       .exact (r.hb i b' h).later iE (aX hi) (λ_=>Iff.rfl) (λ_=>rfl) (λ_ _=>rfl) λp v _ k=>PJ p v k
     .rw [rL];show L.lX i\/i=id↔_;by_cases hi:i=id
      .subst hi;simp
      .simp only[hi,fS,bh];by_cases hd:i=d
       .subst hd;simp only[bA,Option.isSome_some,iff_true];exact(r.hv i).2<|by rw[Hv];rfl
       .simp only[hd,bh];exact r.hv i
     .rw [rL]at k;split at k
      .cases k;exact jI h
      .split at k
       .cases k;show nl'=true;rw[<-ao9 hf];exact r.hl h d _ Hv
       .exact r.hl h i b' k
    .cases h
   .cases h
  .cases h
 .cases h
end Go.Proofs.YtjkmahljfblobaaGreatDoor.Pu
namespace Go.Proofs.YtjkmahljfblobaaGreatDoor.Fp
def nx(x i:Nat)(b o:List Nat):Nat->List Nat×Nat
 | 0=>(o,0)
 |k+1=>
  let r:=nx x i b o k
  let z:=x*b.getD k 0+r.1.getD (i+k) 0+r.2
  (r.1.set (i+k)<|z%4294967296,z/4294967296)
def lI(a b:List Nat):Nat->List Nat
 | 0=>List.replicate (a.length+b.length) 0
 |i+1=>
  let r:=nx (a.getD i 0) i b (lI a b i) b.length
  r.1.set (i+b.length) (r.2%4294967296)
def YZ{x y:Nat}(hx:x<4294967296)(hy:y<4294967296):x*y<=18446744065119617025:=by
 have:=dB (aC:x<=4294967295) (aC:y<=4294967295);omega
section
variable{L:List Nat}
def Ez{k x:Nat}(hk:k<L.length):val (L.set k x)+4294967296^k*L.getD k 0=val L+4294967296^k*x:=by
 have:=Sm (x:=x) hk;rwa[bc,bk hk]
def B7{k j x:Nat}(h:k≠j):(L.set k x).getD j 0=L.getD j 0:=by
 simp only[bc,List.getElem?_set_ne h]
def ahJ{k x:Nat}(h:k<L.length):(L.set k x).getD k 0=x:=by
 simp[bc,h]
end
structure acA(x i:Nat)(b o:List Nat)(k:Nat)(r:List Nat×Nat):Prop where
 ok:iQ r.1
 len:r.1.length=o.length
 lt:r.2<4294967296
 eq:val r.1+4294967296^(i+k)*r.2=val o+4294967296^i*(x*val (b.take k))
 qW:∀ j,i+k<=j->r.1.getD j 0=o.getD j 0
def I2{x i:Nat}{b o:List Nat}(hx:x<4294967296)(hb:iQ b)(ho:iQ o)(hl:i+b.length<=o.length):∀ k,k<=b.length->acA x i b o k (nx x i b o k)
 | 0,_=>⟨ho,rfl,Nat.zero_lt_succ _,by simp[nx,val],λ_ _=>rfl⟩
 |k+1,hk=>by
  obtain⟨h1,h2,h3,h4,h5⟩:=I2 hx hb ho hl k aC;have hy:=hb.getD k;have hw:=h1.getD<|i+k;have hm:=YZ hx hy;have hv:=CQ b k;simp only[nx];generalize nx x i b o k=r at *
  generalize hz:x*b.getD k 0+r.1.getD (i+k) 0+r.2=z;have Ir:=Ez (L:=r.1) (k:=i+k) (x:=z%4294967296) aC;refine⟨h1.set _<|bJ _ aE,by simpa using h2,by show z/4294967296<_;omega,?_,λj hj=>?_⟩
  .have e1:z=z%4294967296+4294967296*(z/4294967296):=(eX z _).symm;show val (r.1.set (i+k)<|z%4294967296)+4294967296^(i+(k+1))*(z/4294967296)=_;rw[hv,bW x,bW<|4294967296^i,<-cO (val o),<-h4];have e2:4294967296^(i+(k+1))*(z/4294967296)=4294967296^(i+k)*(4294967296*(z/4294967296)):=by rw[(aC:i+(k+1)=(i+k)+1),bF,bB]
   have e3:4294967296^i*(x*(4294967296^k*b.getD k 0))=4294967296^(i+k)*(x*b.getD k 0):=by rw[bj];simp only[bB,en]
   rw[e2,e3];have e4:4294967296^(i+k)*z=4294967296^(i+k)*(x*b.getD k 0)+4294967296^(i+k)*r.1.getD (i+k) 0+4294967296^(i+k)*r.2:=by rw[<-hz,bW,bW]
   have e5:4294967296^(i+k)*z=4294967296^(i+k)*(z%4294967296)+4294967296^(i+k)*(4294967296*(z/4294967296)):=by rw[<-bW,<-e1]
   omega
  .show (r.1.set (i+k) _).getD j 0=_;rw[B7 aC,h5 j aC]
structure acB(a b:List Nat)(i:Nat)(o:List Nat):Prop where
 ok:iQ o
 len:o.length=a.length+b.length
 eq:val o=val (a.take i)*val b
 zero:∀ j,i+b.length<=j->o.getD j 0=0
def I3{a b:List Nat}(ha:iQ a)(hb:iQ b):∀ i,i<=a.length->acB a b i (lI a b i)
 | 0,_=>⟨iQ.F6 _,by simp[lI],by simp[lI,Ey,val],λj _=>by
  by_cases h:j<a.length+b.length<;>simp[lI,bc,gE,h]⟩
 |i+1,hi=>by
  obtain⟨h1,h2,h3,h4⟩:=I3 ha hb i aC;obtain⟨q1,q2,q3,q4,q5⟩:=I2 (ha.getD i) hb h1 (i:=i) aC b.length<|a7 _;have hv:=CQ a i;simp only[lI];generalize nx (a.getD i 0) i b (lI a b i) b.length=r at *
  have Ir:=Ez (L:=r.1) (k:=i+b.length) (x:=r.2%4294967296) aC;rw[q5 _<|a7 _,h4 _<|a7 _,cS,bT,cj q3,q4,ado,h3]at Ir;refine⟨q1.set _<|bJ _ aE,aN,?_,λj hj=>?_⟩
  .rw [cj q3,Ir,hv,bL,bB]
  .rw [B7 aC,q5 _ aC,h4 _ aC]
def apy{a b:List Nat}(ha:iQ a)(hb:iQ b):val (lI a b a.length)=val a*val b:=by
 have:=(I3 ha hb a.length<|a7 _).eq;rwa[ado]at this
end Go.Proofs.YtjkmahljfblobaaGreatDoor.Fp
namespace Go.Proofs.YtjkmahljfblobaaGreatDoor
open Go.RowKit Fp Pu
abbrev qT(L:List Nat):Nat->Nat->E:=λi _=>.v<|.int .u32 (L.getD i 0:Int)
def Al(n:Nat):IntKind.u32.wrap (n:Int)=((n%4294967296:Nat):Int):=by rw[IntKind.wrap_u32];omega
def XH(n:Nat)(h:n<9223372036854775808):IntKind.i64.wrap (n:Int)=n:=by rw[IntKind.wrap_i64];omega
def MD(n:Nat):(n:Int)/2^32=((n/4294967296:Nat):Int):= aC 
def aa7(n k:Nat):(n:Int)/2^k=((n/2^k:Nat):Int):=by rw[Int.natCast_ediv,Int.natCast_pow];rfl
def abe{L:List Nat}{n:Nat}(h:n=L.length):E.le (.sl false n 1<|qT L)<|il L:=by subst h;exact .refl _
def aaD{T n n':Nat}{L:List Nat}(hn:n=n')(h:∀ i,L.getD i 0=0):Bx.le (.row false T n 1 λ_ j=>[.v<|.int .u32 0].getD j .any)<|.row false T n' 1<|qT L:=
 .row hn λi j _ hj=>by
  obtain rfl:j=0:= aC ;refine⟨.jP ?_,rfl⟩;show E.v (.int .u32 0)=E.v (.int .u32 (L.getD i 0:Int));rw[h i];rfl
def RK{T n n' p:Nat}{L:List Nat}{z:Nat}(hn:n=n')(hp:p<L.length):Bx.le (.row false T n 1 λi' j'=>if i'=p/\0<=j'/\j'<0+1 then[.v<|.int .u32 (z:Int)].getD (j'-0) .any else(qT L) i' j')<|.row false T n' 1<|qT<|L.set p z:=
 .row hn λi j _ hj=>by
  obtain rfl:j=0:= aC ;refine⟨.jP ?_,rfl⟩;by_cases h:i=p
  .subst h;rw[aY ⟨rfl,aC,aC⟩];show E.v (.int .u32 (z:Int))=E.v (.int .u32 (((L.set i z).getD i 0:Nat):Int));rw[Fp.ahJ hp]
  .rw [aX λq=>h q.1];show E.v (.int .u32 (L.getD i 0:Int))=E.v (.int .u32 (((L.set p z).getD i 0:Nat):Int));rw[Fp.B7 λq=>h q.symm]
def aap{k l:IntKind}{a b c d:Int}(h:a=b)(h':c=d):Ending.returned (.tuple #[.int k a,.int l c]) = .returned (.tuple #[.int k b,.int l d]):=by rw[h,h']
def GI(x y c:Nat)(w:World)(hx:x<4294967296)(hy:y<4294967296)(hc:c<=1):
 Calls prog 359 #[.int .u32 x,.int .u32 y,.int .u32 c] w λe w'=>e = .returned (.tuple #[.int .u32 (((x+y+c)%4294967296:Nat):Int),.int .u32 (((x+y+c)/4294967296:Nat):Int)])/\w=w':=by
 go_enter func359,ntmps359;go_wp2;go_ret2;refine⟨?_,rfl⟩;exact aap aC aC 
section
variable(a b:Nat)(ha:a<4294967296)(hb:b<4294967296)
def apo:bits .or .u32 (a:Int) (b:Int)=((a |||b:Nat):Int):=by
 have h2:a |||b<2^32:=ard ha hb
 show IntKind.u32.wrap ((BitVec.ofInt 32 (a:Int) |||BitVec.ofInt 32 (b:Int)).toNat:Int)=_;rw[BitVec.toNat_or,fT,fT];rw[show((a:Int)%((2^32:Nat):Int)).toNat=a by omega,show((b:Int)%((2^32:Nat):Int)).toNat=b by omega];rw[IntKind.wrap_u32];omega
def abU:bits .and .u32 (a:Int) (b:Int)=((a &&& b:Nat):Int):=by
 have h2:a &&& b<2^32:=fR a hb;show IntKind.u32.wrap ((BitVec.ofInt 32 (a:Int) &&& BitVec.ofInt 32 (b:Int)).toNat:Int)=_;rw[BitVec.toNat_and,fT,fT];rw[show((a:Int)%((2^32:Nat):Int)).toNat=a by omega,show((b:Int)%((2^32:Nat):Int)).toNat=b by omega];rw[IntKind.wrap_u32];omega
def Si:bits .xor .u32 (a:Int) (b:Int)=((a ^^^ b:Nat):Int):=by
 have h2:a ^^^ b<2^32:=fh ha hb;show IntKind.u32.wrap ((BitVec.ofInt 32 (a:Int) ^^^ BitVec.ofInt 32 (b:Int)).toNat:Int)=_;rw[BitVec.toNat_xor,fT,fT];rw[show((a:Int)%((2^32:Nat):Int)).toNat=a by omega,show((b:Int)%((2^32:Nat):Int)).toNat=b by omega];rw[IntKind.wrap_u32];omega
end
def MN(n:Nat)(h:n<4294967296):n/2147483648=(n.testBit 31).toNat:=by
 rw[Nat.testBit_eq_decide_div_mod_eq,show(2:Nat)^31=2147483648 from rfl];have h2:n/2147483648<2:= aC ;generalize n/2147483648=q at *
 have:q=0\/q=1:= aC ;rcases this with rfl|rfl<;>rfl
def aow(x y c d:Nat)(hx:x<4294967296)(hy:y<4294967296)(hc:c<=1)(hd:d=(x+(4294967296-y)+(4294967296-c))%4294967296):
 (((4294967295 ^^^ x) &&& y) ||| ((4294967295 ^^^ (x ^^^ y)) &&& d))/2147483648=if x<y+c then 1 else 0:=by
 have Hz:d<4294967296:= aC ;have h1:4294967295 ^^^ x<2^32:=fh aE hx;have h2:x ^^^ y<2^32:=fh hx hy;have h3:4294967295 ^^^ (x ^^^ y)<2^32:=fh aE h2;have h4:(4294967295 ^^^ x) &&& y<2^32:=fR _ hy;have h5:(4294967295 ^^^ (x ^^^ y)) &&& d<2^32:=fR _ Hz;rw[MN _<|ard h4 h5];have tx:=MN x hx;have ty:=MN y hy;have td:=MN d Hz;rw[Nat.testBit_or,Nat.testBit_and,Nat.testBit_and,arh,arh,arh,show(4294967295:Nat).testBit 31=true by decide];clear h1 h2 h3 h4 h5;generalize x.testBit 31=p at *
 generalize y.testBit 31=q at *
 generalize d.testBit 31=r at *
 cases p<;>cases q<;>cases r<;>simp at tx ty td ⊢ <;> omega
section
variable(x y c:Nat)
def C2:Nat:=if x<y+c then 1 else 0
def y7:Nat:=(x+(4294967296-y)+(4294967296-c))%4294967296
def G7(hx:x<4294967296)(hy:y<4294967296)(hc:c<=1):y7 x y c+y+c=x+4294967296*C2 x y c/\C2 x y c<=1/\y7 x y c<4294967296:=by
 unfold y7 C2;split<;>omega
def abm(w:World)(hx:x<4294967296)(hy:y<4294967296)(hc:c<=1):
 Calls prog 360 #[.int .u32 x,.int .u32 y,.int .u32 c] w λe w'=>e = .returned (.tuple #[.int .u32 (y7 x y c:Nat),.int .u32 (C2 x y c:Nat)])/\w=w':=by
 go_enter func360,ntmps360;go_wp2;go_ret2;refine⟨?_,rfl⟩;have hd:((x:Int)-y-c)%4294967296=(y7 x y c:Int):=by unfold y7;omega
 have hb:=aow x y c (y7 x y c) hx hy hc rfl;have hl:=(G7 x y c hx hy hc).2.2;have em:IntKind.u32.max=((4294967295:Nat):Int):=rfl;refine aap hd ?_;rw[hd,em,Si _ _ aE hx,Si _ _ hx hy];have h1:4294967295 ^^^ x<2^32:=fh aE hx;have h2:x ^^^ y<2^32:=fh hx hy;have h3:4294967295 ^^^ (x ^^^ y)<2^32:=fh aE h2;rw[Si _ _ aE h2,abU _ _ h1 hy,abU _ _ h3 hl];have h4:(4294967295 ^^^ x) &&& y<2^32:=fR _ hy;have h5:(4294967295 ^^^ (x ^^^ y)) &&& y7 x y c<2^32:=fR _ hl;rw[apo _ _ h4 h5];unfold C2;rw[<-hb];omega
end
def SW{O:List Nat}{k c x y P Q P' Q':Nat}(ho:O[k]? = some 0)(h:val O+4294967296^k*c=P+Q)
 (hP:P'=P+4294967296^k*x) (hQ:Q'=Q+4294967296^k*y):
 val (O.set k<|(x+y+c)%4294967296)+4294967296^(k+1)*((x+y+c)/4294967296)=P'+Q':=by
 have h1:=Y0 (a:=1) (b:=x+y) (c:=c) ho;rw[bN,bT]at h1;rw[h1,h,hP,hQ,bW];omega
def abo{O:List Nat}{k c x y d c' P Q P' Q':Nat}(ho:O[k]? = some 0)(h:val O+Q=P+4294967296^k*c)
 (hP:P'=P+4294967296^k*x) (hQ:Q'=Q+4294967296^k*y) (hd:d+y+c=x+4294967296*c'):
 val (O.set k d)+Q'=P'+4294967296^(k+1)*c':=by
 obtain⟨hk,h0⟩:=ca.1 ho;have h1:=Sm (x:=d) hk;rw[h0,cS,bT]at h1;have e:=congrArg (4294967296^k * ·) hd;simp only[bW,<-bB]at e;rw[bF,h1,hP,hQ];omega
def vI(O:List Nat)(k:Nat):Prop:=∀ j,k<=j->j<O.length->O[j]? = some 0
def vI.at{O:List Nat}{k:Nat}(h:vI O k)(hk:k<O.length):O[k]? = some 0:=h k (a7 _) hk
def vI.set{O:List Nat}{k:Nat}(h:vI O k)(v:Nat):vI (O.set k v)<|k+1:=λj h1 h2=>by
 rw[List.getElem?_set_ne aC];exact h j aC<|by simpa using h2
def vI.Sy(n:Nat):vI (List.replicate n 0) 0:=λj _ h=>by
 rw[gE];rw[aY<|by simpa using h]
section
variable(w:World)(v n:Nat)(e:Ending)(w':World)
def Nk:Prop:=∃ T,val T=v/\iQ T/\T.length=n/\y4 w T e w'
def SK:Prop:=∃ T,val T=v/\iQ T/\T.length<=n/\y4 w T e w'
end
section
variable(A B:Option Addr)(c d:Nat)(L M:List Nat)(w:World)
section
variable(hs:Sl w A c L)(hr:Sl w B d M)(h1:L.length<=3000)
def alg(_h2:M.length<=3000)(hc:M.length<=L.length):
 Calls prog 336 #[.slice A L.length c,.slice B M.length d] w (Nk w (val L+val M)<|L.length+1):=by
 obtain⟨l,hl⟩:∃ l,l=L.length:=⟨_,rfl⟩
 obtain⟨m,hm⟩:∃ m,m=M.length:=⟨_,rfl⟩
 rw[<-hl,<-hm]at hc;rw[<-hl]at h1;rw[<-hm]at _h2;have HL:=arM hl;have HM:=arM hm;rw[<-hl,<-hm];clear hl hm;have d0:decide ((l:Int)<m)=false:=a6 aC;have d1:decide (l<m)=false:=a6 aC;have xj:=IV (l+1) aC;rw[show((l+1:Nat):Int)=l+1 by omega]at xj;have zh:=arM<|Rw.Cx w<|l+1;go_enter func336,ntmps336;go_wp2;go_loopw [6,7,8,9,23] (λcy _ _ _ i wr=>∃ (k q:Nat) (O:List Nat),k<=l/\i = .int .i64 k/\cy = .int .u32 q/\q<=1/\O.length=l+1/\iQ O/\vI O k/\val O+4294967296^k*q=val (L.take k)+val (M.take k)/\Rw wr w.heap.size O/\iZ w wr) (λ_ _ _ _ i _=>l-(intOf i).toNat)
 case atStart=>
  exact⟨0,0,List.replicate (l+1) 0,b7 _,rfl,rfl,aE,aH,iQ.F6 _,vI.Sy _,by simp[Ey],zh.out,iZ.alloc _ _⟩
 case round=>
  obtain⟨k,q,O,hk,rfl,rfl,hq,hO,mC,hz,mI,hR,hb⟩:=hrel;have HV:=arM mI;have HO:=arM hO;clear mI hO;have HZ:=arM hz;clear hz;by_cases iE:k<l
  .have uZ:k<L.length:=by have:=HL.out;omega
   obtain⟨ab,ao,e1,_,c1⟩:=(hs.below hb).mE uZ;have nP:L[k]<4294967296:=hs.ok.get uZ;have ho:=HZ.out.at<|by have:=HO.out;omega
   have c4:=hR.frozen k;have Le:=hR.cell ho;have HT:=arM<|EA L k uZ;have HY:=arM<|CQ M k;have rN:M.getD k 0<4294967296:=hr.ok.getD k;have HYc:=arM λ(h:k<M.length)=>(hr.below hb).mE h;have HYg:=arM λ(h:k<M.length)=>OL h;have HYn:=arM λ(h:¬k<M.length)=>OK h;have HX:=arM (rfl:L[k]=L[k]);obtain⟨a,ha⟩:∃ a,a=L[k]:=⟨_,rfl⟩
   rw[<-ha]at c1 nP HT;clear ha HX uZ;have HS:=arM<|SW ho HV.out HT.out HY.out;have HN:=arM λv=>HZ.out.set v;have HOK:=arM λv=>mC.aaZ k v;have HR2:=arM (λv:Nat=>hR.set k v);have HE2:=arM (λv:Value=>hb.setCell (p:=⟨w.heap.size,k,none⟩) (a7 _) v);clear ho hR hb mC;subst e1;by_cases XA:k<m
   .have yx:k<M.length:=by have:=HM.out;omega
    obtain⟨bb,bo,e2,_,c2⟩:=HYc.out yx;subst e2;rw[<-HYg.out yx]at c2;generalize M.getD k 0=b at *
    clear HYc HYg HYn yx;have HA:=arM λw=>GI a b q w nP rN hq;go_wp2_with fail;refine(HA.out _).mono ?_;rintro e w1 ⟨rfl,rfl⟩;go_wp2;go_roundw
    case rel=>
     exact⟨k+1,(a+b+q)/4294967296,O.set k<|(a+b+q)%4294967296,aC,by go_num,rfl,aC,by rw[dm];exact HO.out,HOK.out _,HN.out _,HS.out,HR2.out _,HE2.out _⟩
    case measure=>simp[intOf];omega
   .rw [HYn.out<|by have:=HM.out;omega]at HS;clear HYc HYg HYn rN HY;have HA:=arM λw=>GI a 0 q w nP aE hq;go_wp2_with fail;refine(HA.out _).mono ?_;rintro e w1 ⟨rfl,rfl⟩;go_wp2;go_roundw
    case rel=>
     exact⟨k+1,(a+0+q)/4294967296,O.set k<|(a+0+q)%4294967296,aC,by go_num,rfl,aC,by rw[dm];exact HO.out,HOK.out _,HN.out _,HS.out,HR2.out _,HE2.out _⟩
    case measure=>simp[intOf];omega
  .obtain rfl:k=l:= aC ;have ho:=HZ.out.at (by have:=HO.out;omega)
   have c4:=hR.frozen k;have Le:=hR.cell ho;have HF:=arM (show val (O.set k q)=val L+val M by
    have h:=T7 (c:=q) ho;rw[bZ,cj aC,cY aC,cS,bT,HV.out,show L.take k=L from cX<|by rw[HL.out];exact a7 _,show M.take k=M from cX<|by rw[<-HM.out];omega]at h;omega)
   have HLn:=arM (show(O.set k q).length=k+1 by rw[dm];exact HO.out);have HOK:Hid<|iQ<|O.set k q:=mC.set k aC;have HR2:=arM<|hR.set k q;have HE2:=arM (λv:Value=>hb.setCell (p:=⟨w.heap.size,k,none⟩) (a7 _) v);clear ho hR hb mC;go_wp2;go_ret;have xq:=HR2.out.sl HOK.out (by rw[HLn.out];omega);rw[HLn.out]at xq;exact⟨_,HF.out,HOK.out,HLn.out,_,_,(by rw[HLn.out];rfl),xq,HE2.out _⟩
section
variable(h2:M.length<=3000)
def alh(hc:L.length<M.length):
 Calls prog 336 #[.slice A L.length c,.slice B M.length d] w (Nk w (val L+val M)<|M.length+1):=by
 obtain⟨l,hl⟩:∃ l,l=L.length:=⟨_,rfl⟩
 obtain⟨m,hm⟩:∃ m,m=M.length:=⟨_,rfl⟩
 rw[<-hl,<-hm]at hc;rw[<-hl]at h1;rw[<-hm]at h2;have HL:=arM hl;have HM:=arM hm;rw[<-hl,<-hm];clear hl hm;have d0:decide ((l:Int)<m)=true:=aZ aC;have d1:decide (l<m)=true:=aZ aC;have xj:=IV (m+1) aC;rw[show((m+1:Nat):Int)=m+1 by omega]at xj;have zh:=arM<|Rw.Cx w<|m+1;go_enter func336,ntmps336;go_wp2;go_loopw [6,7,8,9,23] (λcy _ _ _ i wr=>∃ (k q:Nat) (O:List Nat),k<=m/\i = .int .i64 k/\cy = .int .u32 q/\q<=1/\O.length=m+1/\iQ O/\vI O k/\val O+4294967296^k*q=val (M.take k)+val (L.take k)/\Rw wr w.heap.size O/\iZ w wr) (λ_ _ _ _ i _=>m-(intOf i).toNat)
 case atStart=>
  exact⟨0,0,List.replicate (m+1) 0,b7 _,rfl,rfl,aE,aH,iQ.F6 _,vI.Sy _,by simp[Ey],zh.out,iZ.alloc _ _⟩
 case round=>
  obtain⟨k,q,O,hk,rfl,rfl,hq,hO,mC,hz,mI,hR,hb⟩:=hrel;have HV:=arM mI;have HO:=arM hO;clear mI hO;have HZ:=arM hz;clear hz;by_cases iE:k<m
  .have uZ:k<M.length:=by have:=HM.out;omega
   obtain⟨ab,ao,e1,_,c1⟩:=(hr.below hb).mE uZ;have nP:M[k]<4294967296:=hr.ok.get uZ;have ho:=HZ.out.at<|by have:=HO.out;omega
   have c4:=hR.frozen k;have Le:=hR.cell ho;have HT:=arM<|EA M k uZ;have HY:=arM<|CQ L k;have rN:L.getD k 0<4294967296:=hs.ok.getD k;have HYc:=arM λ(h:k<L.length)=>(hs.below hb).mE h;have HYg:=arM λ(h:k<L.length)=>OL h;have HYn:=arM λ(h:¬k<L.length)=>OK h;have HX:=arM (rfl:M[k]=M[k]);obtain⟨a,ha⟩:∃ a,a=M[k]:=⟨_,rfl⟩
   rw[<-ha]at c1 nP HT;clear ha HX uZ;have HS:=arM<|SW ho HV.out HT.out HY.out;have HN:=arM λv=>HZ.out.set v;have HOK:=arM λv=>mC.aaZ k v;have HR2:=arM (λv:Nat=>hR.set k v);have HE2:=arM (λv:Value=>hb.setCell (p:=⟨w.heap.size,k,none⟩) (a7 _) v);clear ho hR hb mC;subst e1;by_cases XA:k<l
   .have yx:k<L.length:=by have:=HL.out;omega
    obtain⟨bb,bo,e2,_,c2⟩:=HYc.out yx;subst e2;rw[<-HYg.out yx]at c2;generalize L.getD k 0=b at *
    clear HYc HYg HYn yx;have HA:=arM λw=>GI a b q w nP rN hq;go_wp2_with fail;refine(HA.out _).mono ?_;rintro e w1 ⟨rfl,rfl⟩;go_wp2;go_roundw
    case rel=>
     exact⟨k+1,(a+b+q)/4294967296,O.set k<|(a+b+q)%4294967296,aC,by go_num,rfl,aC,by rw[dm];exact HO.out,HOK.out _,HN.out _,HS.out,HR2.out _,HE2.out _⟩
    case measure=>simp[intOf];omega
   .rw [HYn.out<|by have:=HL.out;omega]at HS;clear HYc HYg HYn rN HY;have HA:=arM λw=>GI a 0 q w nP aE hq;go_wp2_with fail;refine(HA.out _).mono ?_;rintro e w1 ⟨rfl,rfl⟩;go_wp2;go_roundw
    case rel=>
     exact⟨k+1,(a+0+q)/4294967296,O.set k<|(a+0+q)%4294967296,aC,by go_num,rfl,aC,by rw[dm];exact HO.out,HOK.out _,HN.out _,HS.out,HR2.out _,HE2.out _⟩
    case measure=>simp[intOf];omega
  .obtain rfl:k=m:= aC ;have ho:=HZ.out.at (by have:=HO.out;omega)
   have c4:=hR.frozen k;have Le:=hR.cell ho;have HF:=arM (show val (O.set k q)=val L+val M by
    have h:=T7 (c:=q) ho;rw[bZ,cj aC,cY aC,cS,bT,HV.out,show M.take k=M from cX<|by rw[HM.out];exact a7 _,show L.take k=L from cX<|by rw[<-HL.out];omega]at h;omega)
   have HLn:=arM (show(O.set k q).length=k+1 by rw[dm];exact HO.out);have HOK:Hid<|iQ<|O.set k q:=mC.set k aC;have HR2:=arM<|hR.set k q;have HE2:=arM (λv:Value=>hb.setCell (p:=⟨w.heap.size,k,none⟩) (a7 _) v);clear ho hR hb mC;go_wp2;go_ret;have xq:=HR2.out.sl HOK.out (by rw[HLn.out];omega);rw[HLn.out]at xq;exact⟨_,HF.out,HOK.out,HLn.out,_,_,(by rw[HLn.out];rfl),xq,HE2.out _⟩
def Ze:
 Calls prog 336 #[.slice A L.length c,.slice B M.length d] w (Nk w (val L+val M)<|max L.length M.length+1):=by
 by_cases hc:M.length<=L.length
 .rw [Nat.max_eq_left hc];exact alg A B c d L M w hs hr h1 h2 hc
 .rw [Nat.max_eq_right aC];exact alh A B c d L M w hs hr h1 h2 aC 
def alf:
 Calls prog 336 #[.slice A L.length c,.slice B M.length d] w (SK w (val L+val M)<|max L.length M.length+1):=
 (Ze A B c d L M w hs hr h1 h2).mono λ_ _ ⟨T,a,b,c,d⟩=>⟨T,a,b,fJ c,d⟩
end
end
def ali(vf:Sl w A c L)(uC:Sl w B d M)(h1:L.length<=3000)(_h2:M.length<=3000)(hle:val M<=val L):
 Calls prog 337 #[.slice A L.length c,.slice B M.length d] w (SK w (val L-val M) L.length):=by
 have OX:=arM λw (h:Sl w A c L)=>wA A c L w h;have OY:=arM λw (h:Sl w B d M)=>wA B d M w h;have hs:=vf.vG;have hr:=uC.vG;have zC:=qL L;have Xq:=qL M;have Ic:=qh L;have oE:=qh M;have Fw:(iO M).length<=(iO L).length:=by
  apply bQ;intro h;have:=MT hs.ok (BE M) aC;omega
 unfold mS at Ic oE;rw[<-zC,<-Xq]at hle ⊢;clear zC Xq;obtain⟨n1,vc⟩:∃ n,n=L.length:=⟨_,rfl⟩
 obtain⟨n2,lM⟩:∃ n,n=M.length:=⟨_,rfl⟩
 rw[<-vc]at h1 Ic OX ⊢;rw[<-lM]at _h2 oE OY ⊢;have HTL:=arM<|OX.out w vf;have HTM:=arM<|OY.out w uC;clear OX OY vf uC vc lM;generalize iO L=L at *
 generalize iO M=M at *
 obtain⟨l,hl⟩:∃ l,l=L.length:=⟨_,rfl⟩
 obtain⟨m,hm⟩:∃ m,m=M.length:=⟨_,rfl⟩
 rw[<-hl]at Ic HTL Fw;rw[<-hm]at oE HTM Fw;have HL:=arM hl;have HM:=arM hm;have HLE:=arM hle;clear hl hm hle;have xj:=IV l aC;have zh:=arM<|Rw.Cx w l;go_enter func337,ntmps337;go_wp2_with fail;refine HTL.out.mono ?_;rintro e w1 ⟨rfl,rfl⟩;go_wp2_with fail;refine HTM.out.mono ?_;rintro e w1 ⟨rfl,rfl⟩;go_wp2;go_loopw [6,7,8,9,19] (λcy _ _ _ i wr=>∃ (k q:Nat) (O:List Nat),k<=l/\i = .int .i64 k/\cy = .int .u32 q/\q<=1/\O.length=l/\iQ O/\vI O k/\val O+val (M.take k)=val (L.take k)+4294967296^k*q/\Rw wr w.heap.size O/\iZ w wr) (λ_ _ _ _ i _=>l-(intOf i).toNat)
 case atStart=>
  exact⟨0,0,List.replicate l 0,b7 _,rfl,rfl,aE,aH,iQ.F6 _,vI.Sy _,by simp[Ey],zh.out,iZ.alloc _ _⟩
 case round=>
  obtain⟨k,q,O,hk,rfl,rfl,hq,hO,mC,hz,mI,hR,hb⟩:=hrel;have HV:=arM mI;have HO:=arM hO;clear mI hO;have HZ:=arM hz;clear hz;by_cases iE:k<l
  .have uZ:k<L.length:=by have:=HL.out;omega
   obtain⟨ab,ao,e1,_,c1⟩:=(hs.below hb).mE uZ;have nP:L[k]<4294967296:=hs.ok.get uZ;have ho:=HZ.out.at<|by have:=HO.out;omega
   have c4:=hR.frozen k;have Le:=hR.cell ho;have HT:=arM<|EA L k uZ;have HY:=arM<|CQ M k;have rN:M.getD k 0<4294967296:=hr.ok.getD k;have HYc:=arM λ(h:k<M.length)=>(hr.below hb).mE h;have HYg:=arM λ(h:k<M.length)=>OL h;have HYn:=arM λ(h:¬k<M.length)=>OK h;obtain⟨a,ha⟩:∃ a,a=L[k]:=⟨_,rfl⟩
   rw[<-ha]at c1 nP HT;clear ha uZ;have HN:=arM λv=>HZ.out.set v;have HOK:=arM λ(v:Nat) (h:v<4294967296)=>mC.set k h;have HR2:=arM (λv:Nat=>hR.set k v);have HE2:=arM (λv:Value=>hb.setCell (p:=⟨w.heap.size,k,none⟩) (a7 _) v);have HO0:=arM ho;clear ho hR hb mC;subst e1;by_cases XA:k<m
   .have yx:k<M.length:=by have:=HM.out;omega
    obtain⟨bb,bo,e2,_,c2⟩:=HYc.out yx;subst e2;rw[<-HYg.out yx]at c2;generalize M.getD k 0=b at *
    clear HYc HYg HYn yx;have HS:=arM<|abo HO0.out HV.out HT.out HY.out (G7 a b q nP rN hq).1;have HD:=arM (G7 a b q nP rN hq).2;have HA:=arM λw=>abm a b q w nP rN hq;generalize y7 a b q=dd at *
    generalize C2 a b q=bb' at *
    go_wp2_with fail;refine(HA.out _).mono ?_;rintro e w1 ⟨rfl,rfl⟩;go_wp2;go_roundw
    case rel=>
     exact⟨k+1,bb',O.set k dd,aC,by go_num,rfl,HD.out.1,by rw[dm];exact HO.out,HOK.out _ HD.out.2,HN.out _,HS.out,HR2.out _,HE2.out _⟩
    case measure=>simp[intOf];omega
   .rw [HYn.out<|by have:=HM.out;omega]at HY;clear HYc HYg HYn rN;have HS:=arM<|abo HO0.out HV.out HT.out HY.out (G7 a 0 q nP aE hq).1;have HD:=arM (G7 a 0 q nP aE hq).2;have HA:=arM λw=>abm a 0 q w nP aE hq;generalize y7 a 0 q=dd at *
    generalize C2 a 0 q=bb' at *
    go_wp2_with fail;refine(HA.out _).mono ?_;rintro e w1 ⟨rfl,rfl⟩;go_wp2;go_roundw
    case rel=>
     exact⟨k+1,bb',O.set k dd,aC,by go_num,rfl,HD.out.1,by rw[dm];exact HO.out,HOK.out _ HD.out.2,HN.out _,HS.out,HR2.out _,HE2.out _⟩
    case measure=>simp[intOf];omega
  .obtain rfl:k=l:= aC ;have HF:=arM (show val O=val L-val M by
    have h:=HV.out;rw[show L.take k=L from cX<|by rw[HL.out];exact a7 _,show M.take k=M from cX<|by rw[<-HM.out];exact Fw]at h;exact(aoy mC HO.out h HLE.out).2)
   go_wp2;go_ret;have xq:=hR.sl mC (by rw[HO.out];omega);exact⟨_,HF.out,mC,by rw[HO.out];exact Ic,_,_,(by rw[HO.out];rfl),xq,hb⟩
end
def abO{T:List Nat}{v:Nat}(h:iQ T)(hv:val T=v):iO T=ib v:=by rw[s8 h,hv]
section
variable(A B:Option Addr)(c d:Nat)(L M:List Nat)(w:World)(hs:Sl w A c L)(hr:Sl w B d M)(h1:L.length<=256)(h2:M.length<=256)
def ak3(hf:(ib<|val L+val M).length<=256):
 Calls prog 285 #[.slice A L.length c,.slice B M.length d] w (EJ w (ib<|val L+val M) 0):=by
 have H1:=arM λw (h:Sl w A c L) (k:Sl w B d M)=>alf A B c d L M w h k aC aC;generalize val L+val M=v at *
 go_enter func285,ntmps285;go_wp2_with fail;refine(Yo _ A B _ c _ d _ false (SN _ _ _ _ _ _ _) (SO _ _ _ _ _ _ _) aN).mono ?_;rintro e w' ⟨rfl,rfl⟩;go_wp2_with fail;refine(H1.out _ (hs.alloc _)<|hr.alloc _).mono ?_;rintro e w' ⟨T,hv,hk,hl,A',c',rfl,qR,hb⟩;have ht:=arM<|abO hk hv;go_wp2_with fail;refine(I8 A' c' T _ qR<|by rw[ht.out];exact hf).mono ?_;rintro e w'' ⟨A'',c'',rfl,we,oY⟩;rw[ht.out]at we ⊢;go_wp2;go_ret2;exact⟨A'',c'',rfl,we,(iZ.alloc _ _).trans<|hb.trans oY⟩
def ale(hle:val M<=val L):
 Calls prog 286 #[.slice A L.length c,.slice B M.length d] w (EJ w (ib<|val L-val M) 0):=by
 have H1:=arM λw (h:Sl w A c L) (k:Sl w B d M)=>ali A B c d L M w h k aC aC hle;have HC:=arM λw (h:Sl w A c L) (k:Sl w B d M)=>LV A B c d L M w h k aC aC;have hc:decide (kI (val L) (val M)<0)=false:=by
  apply a6;unfold kI;rw[aX aC];split<;>decide
 have hf:(ib<|val L-val M).length<=256:=bg (nk<|eU _ _)<|ako hs.ok h1;generalize val L-val M=v at *
 generalize kI (val L) (val M)=q at *
 clear hle;go_enter func286,ntmps286;go_wp2_with fail;refine(Yo _ A B _ c _ d _ false (SN _ _ _ _ _ _ _) (SO _ _ _ _ _ _ _) aN).mono ?_;rintro e w' ⟨rfl,rfl⟩;go_wp2_with fail;refine(HC.out _ (hs.alloc _)<|hr.alloc _).mono ?_;rintro e w1 ⟨rfl,kE⟩;go_wp2_with fail;refine(H1.out _ ((hs.alloc _).below kE)<|(hr.alloc _).below kE).mono ?_;rintro e w' ⟨T,hv,hk,hl,A',c',rfl,qR,hb⟩;have ht:=arM<|abO hk hv;go_wp2_with fail;refine(I8 A' c' T _ qR<|by rw[ht.out];exact hf).mono ?_;rintro e w'' ⟨A'',c'',rfl,we,oY⟩;rw[ht.out]at we ⊢;go_wp2;go_ret2;exact⟨A'',c'',rfl,we,(iZ.alloc _ _).trans<|kE.trans<|hb.trans oY⟩
end
end Go.Proofs.YtjkmahljfblobaaGreatDoor
namespace Go.Proofs.YtjkmahljfblobaaGreatDoor.Fp
def kQ(d:Dy):Dy:=if nj d then d else iR
def mN(d:Dy):Int:=if nj d then 0 else 9
section
variable{d:Dy}
def BY(h:nj d):kQ d=d:=aY h
def GX(h:nj d):mN d=0:=aY h
def NP(h:¬nj d):kQ d=iR:=aX h
def Ks(h:¬nj d):mN d=9:=aX h
def NQ(h:d.mi):(kQ d).ig:=by
 by_cases hr:nj d
 .rw [BY hr];exact⟨h,hr⟩
 .rw [NP hr];exact qu
end
def R2{a b:Dy}(ha:a.m≠0)(hb:b.m≠0):iM a b=iM b a:=by
 unfold iM;rw[aX ha,aX hb,aX hb,aX ha,Int.min_comm,Int.add_comm]
section
variable{a b:Dy}(ha:a.ig)(hb:b.ig)(a0:a.m≠0)(b0:b.m≠0){k:Int}(hk:min a.e b.e=k)
def abv(h1:4097<a.iz-k)(h2:1<a.iz-b.iz):¬nj (iM a b):=by
 have hka:k<=a.e:= aC ;have hkb:k<=b.e:= aC ;have m1:=Ko a0 hka;have m2:=Ko b0 hkb;have ta:a.iz=iq a.m+a.e:=by unfold Dy.iz;rw[aX a0]
 have tb:b.iz=iq b.m+b.e:=by unfold Dy.iz;rw[aX b0]
 have ba:iq a.m<=4096:=by rcases ha.range with h|⟨h,_⟩;exact absurd h a0;exact h
 have jD:a.e≠k:= aC ;have Lc:b.e=k:= aC ;have oa:a.jR k%2=0:=by
  unfold Dy.jR;obtain⟨j,hj⟩:∃ j,(a.e-k).toNat=j+1:=⟨(a.e-k).toNat-1,aC⟩
  rw[hj,bF,<-bB,gn]
 have ob:b.jR k%2=1:=by
  unfold Dy.jR;rw[Lc,show(k-k).toNat=0 by omega,cA,b6];rcases hb.canon with⟨h,_,_⟩|h
  .exact absurd h b0
  .exact h
 have pa:=zS a0 k;obtain⟨p,hp⟩:∃ p,iq (a.jR k)=p+2:=⟨iq (a.jR k)-2,aC⟩
 have l1:=tV (aC:a.jR k≠0);have l2:=sc<|b.jR k;rw[hp,(aC:p+2-1=p+1),bF]at l1;have l3:2^iq (b.jR k)<=2^p:=bO aE aC;have hz:(a.num k+b.num k).natAbs%2=1/\2^p<=(a.num k+b.num k).natAbs:=by
  unfold Dy.num;generalize a.jR k=x at *
  generalize b.jR k=y at *
  generalize 2^p=P at *
  split<;>split<;>omega
 unfold iM;rw[aX a0,aX b0,hk];unfold mB;generalize (a.num k+b.num k).natAbs=z at *
 generalize decide (a.num k+b.num k<0)=s at *
 have hc:canon s z k=⟨s,z,k⟩:=Dy.mi.C4 (d:=⟨s,z,k⟩)<|.inr hz.1;rw[hc];have hb:=xy.2 hz.2;rintro(h|⟨h,_⟩)
 .simp only at h;omega
 .simp only at h;omega
def aoE(h1:4097<max a.iz b.iz-k)(h2:1<a.iz-b.iz\/1<b.iz-a.iz):¬nj (iM a b):=by
 rcases h2 with h2|h2
 .exact abv ha hb a0 b0 hk aC h2
 .rw [R2 a0 b0];exact abv (k:=k) hb ha b0 a0 (by rw[Int.min_comm];exact hk) aC h2
def aoF(h:¬(4097<max a.iz b.iz-k/\(1<a.iz-b.iz\/1<b.iz-a.iz))):
 iq (a.m*2^(a.e-k).toNat)<=4097/\iq (b.m*2^(b.e-k).toNat)<=4097:=by
 have ta:a.iz=iq a.m+a.e:=by unfold Dy.iz;rw[aX a0]
 have tb:b.iz=iq b.m+b.e:=by unfold Dy.iz;rw[aX b0]
 have ba:iq a.m<=4096:=by rcases ha.range with h|⟨h,_⟩;exact absurd h a0;exact h
 have bb:iq b.m<=4096:=by rcases hb.range with h|⟨h,_⟩;exact absurd h b0;exact h
 rw[rI a0,rI b0];omega
end
def adT{x y n:Nat}(hx:iq x<=n)(hy:iq y<=n):iq (x+y)<=n+1:=by
 rw[me]at *
 rw[bF];omega
def jJ(m:Nat)(e:Int)(p:Nat):Nat:=(max (max ((iq m:Int)-p) (-16384-e)) 0).toNat
section
variable(m:Nat)(e:Int)(more:Bool)(p:Nat)(out:Bool)
def kV:Nat:=
 m/2^jJ m e p+if out=true/\(more=true\/m%2^jJ m e p≠0)then 1 else 0
def mz:Bool:=
 decide (kV m e more p out≠0)&&decide (16384<(iq<|kV m e more p out:Int)+e+jJ m e p)
end
section
variable(neg:Bool)(m:Nat)(e:Int)(more:Bool)(p:Nat)(up:Bool)
def j9:Dy:=
 if mz m e more p (neg != up)=true then(if(neg != up)=true then iR else canon neg (2^p-1) (16384-p))else canon neg (kV m e more p<|neg != up) (e+jJ m e p)
def jY:Int:=
 if(mz m e more p (neg != up)&&(neg != up))=true then 9 else 0
end
def afM{N d k:Nat}:(N/2^d%2^k≠0\/N%2^d≠0)↔N%2^(d+k)≠0:=by
 have e1:N%2^(d+k)=N%2^d+2^d*(N/2^d%2^k):=by rw[bj,Nat.mod_mul]
 have hp:0<2^d:=bn aE;rw[e1];constructor
 .rintro (h|h)
  .have:=gj hp<|dI h;omega
  .omega
 .intro h;by_cases h1:N%2^d=0
  .left;intro h2;rw[h1,h2,cS]at h;exact h rfl
  .exact .inr h1
section
variable{N:Nat}{E:Int}{more:Bool}{d p:Nat}
def afk(hb:p<iq (N/2^d)):
 jJ (N/2^d) (E+d) p+d=jJ N E p /\
 ∀ out,kV (N/2^d) (E+d) (more||decide (N%2^d≠0)) p out=kV N E more p out:=by
 have hN:d<iq N:=by
  apply bQ;intro h;have h1:N<2^d:=me.1 aC;rw[cY h1]at hb;simp[iq]at hb
 have Lb:iq (N/2^d)+d=iq N:=by
  have h0:N/2^d≠0:=by intro h;rw[h]at hb;simp[iq]at hb
  have h1:=tV h0;have h2:=sc<|N/2^d;obtain⟨j,hj⟩:∃ j,iq (N/2^d)=j+1:=⟨iq (N/2^d)-1,aC⟩
  rw[hj]at h1 h2 ⊢;rw[eE,dp<|bn aE,<-bj]at h1;rw[cG<|bn aE,<-bj]at h2;have:=AB (k:=j+d) h1 (by rw[(aC:j+d+1=j+1+d)];exact h2);omega
 have hk:jJ (N/2^d) (E+d) p+d=jJ N E p:=by
  unfold jJ;omega
 refine⟨hk,λout=>?_⟩;unfold kV;rw[<-hk];generalize jJ (N/2^d) (E+d) p=k;have Pg:=@afM N d k;rw[(aC:k+d=d+k),dE,<-bj];congr 1;have:((more||decide (N%2^d≠0))=true\/N/2^d%2^k≠0)↔(more=true\/N%2^(d+k)≠0):=by
  rw[<-Pg];simp only[dz,cz];constructor
  .rintro ((h|h)|h)
   .exact .inl h
   .exact .inr<|.inr h
   .exact .inr<|.inl h
  .rintro (h|h|h)
   .exact .inl<|.inl h
   .exact .inr h
   .exact .inl<|.inr h
 by_cases ho:out=true
 .simp only[ho,true_and,this]
 .rw [aX λh=>ho h.1,aX λh=>ho h.1]
def Kw(neg up:Bool)(hb:p<iq (N/2^d)):
 j9 neg (N/2^d) (E+d) (more||decide (N%2^d≠0)) p up=j9 neg N E more p up /\
 jY neg (N/2^d) (E+d) (more||decide (N%2^d≠0)) p up=jY neg N E more p up:=by
 obtain⟨hk,hq⟩:=afk (more:=more) (E:=E) hb;have hq:=hq<|neg != up;have e1:E+(d:Int)+(jJ (N/2^d) (E+d) p:Int)=E+(jJ N E p:Int):= aC ;have e2:(iq<|kV N E more p<|neg != up:Int)+(E+(d:Int))+(jJ (N/2^d) (E+d) p:Int)=(iq<|kV N E more p<|neg != up:Int)+E+(jJ N E p:Int):= aC ;have ho:mz (N/2^d) (E+d) (more||decide (N%2^d≠0)) p (neg != up)=mz N E more p (neg != up):=by
  unfold mz;rw[hq,e2]
 unfold j9 jY;rw[hq,ho,e1];exact⟨rfl,rfl⟩
end
def NM(s:Bool)(m:Nat)(e:Int)(j:Nat):canon s (m*2^j) (e-j)=canon s m e:=by
 by_cases h0:m=0
 .subst h0;rw[cH];rfl
 .have h1:m*2^j≠0:=dN h0<|dX<|bn aE;obtain⟨q,hq,he⟩:=C8 h0;have hc:jU (m*2^j)=jU m+j:=by
   conv=>lhs;rw[he,bB,<-bj]
   exact AG hq _
  unfold canon;rw[aX h1,aX h0,hc,bj,bI<|2^jU m,<-dE,dY _<|bn aE];rw[(aC:e-(j:Int)+((jU m+j:Nat):Int)=e+(jU m:Int))]
def afj(neg up:Bool)(N:Nat)(E:Int)(j p:Nat)(h0:N≠0):
 j9 neg (N*2^j) (E-j) false p up=j9 neg N E false p up/\jY neg (N*2^j) (E-j) false p up=jY neg N E false p up:=by
 have Lb:=rI h0 j;by_cases hk:jJ N E p=0
 .
  have xf:jJ (N*2^j) (E-j) p<=j:=by unfold jJ at hk ⊢;rw[Lb];omega
  obtain⟨i,hi⟩:∃ i,j=i+jJ (N*2^j) (E-j) p:=⟨j-jJ (N*2^j) (E-j) p,aC⟩
  generalize hK:jJ (N*2^j) (E-j) p=k at *
  have hdiv:N*2^j/2^k=N*2^i:=by
   rw[hi,bj,<-bB,dY _<|bn aE]
  have PH:N*2^j%2^k=0:=by
   rw[hi,bj,<-bB];exact gn _ _
  have hq:∀ out,kV (N*2^j) (E-j) false p out=N*2^i:=λout=>by
   unfold kV;rw[hK,hdiv,PH];simp
  have A5:∀ out,kV N E false p out=N:=λout=>by
   unfold kV;rw[hk];simp[dZ]
  have jD:N*2^i≠0:=dN h0<|dX<|bn aE;have ho:∀ out,mz (N*2^j) (E-j) false p out=mz N E false p out:=λout=>by
   unfold mz;rw[hq,A5,hK,hk,rI h0 i];simp only[cQ,jD,h0,eP,gH,eR];rw[are];omega
  unfold j9 jY;rw[ho,hq,A5,hK,hk];rw[(aC:E-(j:Int)+k=E+((0:Nat):Int)-(i:Int)),NM];exact⟨rfl,rfl⟩
 .have xf:jJ (N*2^j) (E-j) p=jJ N E p+j:=by unfold jJ at hk ⊢;rw[Lb];omega
  have hq:∀ out,kV (N*2^j) (E-j) false p out=kV N E false p out:=λout=>by
   unfold kV;rw[xf,bj,bI<|2^jJ N E p,<-dE,dY _<|bn aE,bI N,Nat.mul_mod_mul_left];have:(2^j*(N%2^jJ N E p)≠0)↔(N%2^jJ N E p≠0):=by
    rw[cQ,cQ,Nat.mul_eq_zero];have:=bn (n:=j) (aE:0<2);omega
   simp only[this]
  have ho:∀ out,mz (N*2^j) (E-j) false p out=mz N E false p out:=λout=>by
   unfold mz;rw[hq,xf];congr 2;rw[eq_iff_iff];omega
  unfold j9 jY;rw[ho,hq,xf];rw[(aC:E-(j:Int)+((jJ N E p+j:Nat):Int)=E+(jJ N E p:Int))];exact⟨rfl,rfl⟩
section
variable(d:Dy)(p:Nat)(up:Bool)
def jN:Dy:=j9 d.neg d.m d.e false p up
def jC:Int:=jY d.neg d.m d.e false p up
end
def aar(s up:Bool)(m:Nat)(e:Int)(p:Nat)(h0:m≠0):
 jN (canon s m e) p up=j9 s m e false p up/\jC (canon s m e) p up=jY s m e false p up:=by
 have hm:=Ha h0;have hq:m/2^jU m≠0:=by have:=FU h0;omega
 have h:=afj s up (m/2^jU m) (e+jU m) (jU m) p hq;rw[hm,(aC:e+(jU m:Int)-(jU m:Int)=e)]at h;unfold jN jC canon;rw[aX h0];exact⟨h.1.symm,h.2.symm⟩
def EX{s:Bool}{m:Nat}{e:Int}(h0:m≠0):(iq (canon s m e).m:Int)+(canon s m e).e=iq m+e/\e<=(canon s m e).e/\(canon s m e).m≠0/\iq (canon s m e).m<=iq m:=by
 have hm:=Ha h0;have hq:m/2^jU m≠0:=by have:=FU h0;omega
 have h:=rI hq<|jU m;rw[hm]at h;unfold canon;rw[aX h0];simp only;exact⟨aC,aC,hq,aC⟩
def UJ(m:Nat)(e:Int)(p:Nat):m/2^jJ m e p<2^p:=by
 rw[cG<|bn aE,<-bj];refine me.1 ?_;unfold jJ;omega
def aeQ{s:Bool}{q p:Nat}{e:Int}(h:q<=2^p)(hp:1<=p):iq (canon s q e).m<=p:=by
 by_cases h0:q=0
 .subst h0;exact b7 _
 .by_cases h1:q=2^p
  .have hc:jU q=p:=by rw[h1];have:=AG (m:=1) rfl p;rwa[bN]at this
   unfold canon;rw[aX h0,hc,h1,Nat.div_self<|bn aE];exact bg (me.2<|show 1<2^1 by decide) hp
  .exact bg (EX h0).2.2.2<|me.2 aC
def Us(m:Nat)(e:Int)(more:Bool)(p:Nat)(out:Bool):kV m e more p out<=2^p:=by
 have:=UJ m e p;unfold kV;split<;>omega
def tn(neg:Bool)(m:Nat)(e:Int)(more:Bool)(p:Nat)(up:Bool)(hp:1<=p:=by omega)(ie:p<=4096:=by omega):(j9 neg m e more p up).ig:=by
 unfold j9;by_cases ho:mz m e more p (neg != up)=true
 .rw [aY ho];by_cases hn:(neg != up)=true
  .rw [aY hn];exact qu
  .rw [aX hn];have yA:2<=2^p:=by
    have:=bO (n:=2) aE hp;omega
   have h0:2^p-1≠0:= aC ;have hb:iq (2^p-1)=p:=by
    obtain⟨j,rfl⟩:∃ j,p=j+1:=⟨p-1,aC⟩
    have h2:2^(j+1)=2^j*2:=bF _ _;have h3:=bn (n:=j) (aE:0<2);exact AB aC aC 
   obtain⟨h1,h2,h3,h4⟩:=EX (s:=neg) (e:=(16384:Int)-p) h0;have h5:=oV h3;exact⟨tl _ _ _,.inr ⟨aC,aC,aC,aC⟩⟩
 .rw [aX ho];refine⟨tl _ _ _,?_⟩;by_cases h0:kV m e more p (neg != up)=0
  .rw [h0];exact .inl rfl
  .have hq:=aeQ (s:=neg) (e:=e+(jJ m e p:Int)) (Us m e more p<|neg != up) hp;obtain⟨h1,h2,h3,h4⟩:=EX (s:=neg) (e:=e+(jJ m e p:Int)) h0;have h5:=oV h3;have h6:-16384<=e+(jJ m e p:Int):=by unfold jJ;omega
   unfold mz at ho;simp only[cQ,h0,eP,gH,eR,cz]at ho;exact .inr ⟨aC,aC,aC,aC⟩
def G4{neg:Bool}{m:Nat}{e:Int}{more:Bool}{p:Nat}{up:Bool}:jY neg m e more p up=0↔¬(mz m e more p (neg != up)=true/\(neg != up)=true):=by
 unfold jY;cases mz m e more p (neg != up)<;>cases(neg != up)<;>simp
def Ut(neg:Bool)(m:Nat)(e:Int)(more:Bool)(p:Nat)(h1:jY neg m e more p false=0)(h2:jY neg m e more p true=0):
 jm (j9 neg m e more p false) (j9 neg m e more p true)<=0:=by
 have qn:¬mz m e more p true=true:=by
  cases neg
  .rw [G4]at h2;simpa using h2
  .rw [G4]at h1;simpa using h1
 have hle:kV m e more p false<=kV m e more p true:=by
  unfold kV;simp only[bC,false_and,bh];omega
 have kS:¬mz m e more p false=true:=by
  unfold mz at qn ⊢;intro h;apply qn;simp only[bD,cz]at h ⊢;have:=uW hle;exact⟨aC,aC⟩
 have key:∀ o:Bool,¬mz m e more p o=true:=λo=>by cases o;exact kS;exact qn
 unfold j9;rw[aX<|key _,aX<|key _];rw[EY (k:=e+(jJ m e p:Int)) (BN<|ct _)<|BN<|ct _,D9<|ct _,D9<|ct _];rw[show(e+(jJ m e p:Int)-(e+(jJ m e p:Int))).toNat=0 by omega];simp only[cA,b6];unfold yb;cases neg
 .simp only[bC,bh,Bool.false_bne];split
  .decide
  .split<;>omega
 .simp only[bA,Bool.true_bne,eH,fF];split
  .decide
  .split<;>omega
def mZ(b:Dy)(low:Int):Nat:=if low<=b.e then b.m*2^(b.e-low).toNat else b.m/2^(low-b.e).toNat
def nZ(b:Dy)(low:Int):Bool:=decide (¬low<=b.e)&&decide (b.m%2^(low-b.e).toNat≠0)
section
variable{a b:Dy}(ha:a.mi)(hb:b.mi){K:Int}(h1:K<=a.e)(h2:K<=b.e)
def abp:iM a b=mB (a.num K+b.num K) K:=by
 refine U1 (k:=K) (xY ha hb) (tl _ _ _) (J5 (.inr h1)<|.inr h2) (Np<|ct _) ?_;rw[MK (.inr h1)<|.inr h2,QY<|ct _,show(K-K).toNat=0 by omega];simp
def Mu(s:Bool)(Z:Nat)(h0:Z≠0)(hz:a.num K+b.num K=if s then -(Z:Int)else(Z:Int))(p:Nat)(up:Bool):
 jN (iM a b) p up=j9 s Z K false p up/\jC (iM a b) p up=jY s Z K false p up:=by
 have:iM a b=canon s Z K:=by rw[abp ha hb h1 h2,hz,Kq]
 rw[this];exact aar s up Z K p h0
end
def LZ(d:Dy)(K:Int):d.num K=if d.neg then -(d.jR K:Int)else(d.jR K:Int):=rfl
section
variable {a b:Dy} {low:Int} {p:Nat}
def RQ(a0:a.m≠0)(b0:b.m≠0)(h1:low<=a.e)(h2:low<=a.iz-p-8)(h3:low<=b.e\/3<=a.iz-b.iz):
 ∃ (K:Int) (d:Nat),K<=a.e/\K<=b.e/\low=K+d/\a.jR K=a.m*2^(a.e-low).toNat*2^d/\mZ b low=b.jR K/2^d/\(nZ b low=decide (b.jR K%2^d≠0)) /\
  (d=0\/(p+8<=iq (a.m*2^(a.e-low).toNat)/\iq (b.jR K/2^d)+3<=iq (a.m*2^(a.e-low).toNat))):=by
 have ta:a.iz=iq a.m+a.e:=by unfold Dy.iz;rw[aX a0]
 have tb:b.iz=iq b.m+b.e:=by unfold Dy.iz;rw[aX b0]
 have hx:=rI a0 (a.e-low).toNat
 by_cases h:low<=b.e
 .refine ⟨low,0,h1,h,aC,by unfold Dy.jR;simp,?_,?_,.inl rfl⟩
  .unfold mZ Dy.jR;rw[aY h];simp
  .unfold nZ;simp[h,dZ]
 .refine ⟨b.e,(low-b.e).toNat,aC,ct _,aC,?_,?_,?_,.inr ⟨aC,?_⟩⟩
  .unfold Dy.jR;rw[bB,<-bj];congr 2;omega
  .unfold mZ Dy.jR;rw[aX h];simp
  .unfold nZ Dy.jR;simp[h]
  .have hm:b.jR b.e=b.m:=by unfold Dy.jR;simp
   rw[hm];have hd:iq (b.m/2^(low-b.e).toNat)<=iq b.m-(low-b.e).toNat:=by
    rw[me,cG<|bn aE,<-bj];exact me.1 aC 
   have:=h3.resolve_left h;omega
def anw(ha:a.mi)(hb:b.mi)(a0:a.m≠0)(b0:b.m≠0)(h1:low<=a.e)(h2:low<=a.iz-p-8)(h3:low<=b.e\/3<=a.iz-b.iz)(hs:a.neg=b.neg)(up:Bool):
 j9 a.neg (a.m*2^(a.e-low).toNat+mZ b low) low (nZ b low) p up=jN (iM a b) p up/\jY a.neg (a.m*2^(a.e-low).toNat+mZ b low) low (nZ b low) p up=jC (iM a b) p up:=by
 obtain⟨K,d,k1,k2,rfl,hx,hy,hl,hd⟩:=RQ (p:=p) a0 b0 h1 h2 h3;generalize a.m*2^(a.e-(K+d)).toNat=x at *
 have ma:=zS a0 K;have mb:=zS b0 K;obtain⟨r1,r2⟩:=Mu ha hb k1 k2 a.neg (a.jR K+b.jR K) aC (by
  rw[LZ a,LZ b,<-hs];cases a.neg<;>simp<;>omega) p up
 rw[r1,r2,hy,hl];have e1:(a.jR K+b.jR K)/2^d=x+b.jR K/2^d:=by
  rw[hx,bI x,aq5<|bn aE]
 have e2:(a.jR K+b.jR K)%2^d=b.jR K%2^d:=by
  rw[hx,bI x,gq]
 rcases hd with rfl|⟨Cf,Cg⟩
 .simp only[cA,fU,dZ]at e1 ⊢;rw[<-e1];have:K+((0:Nat):Int)=K:= aC ;rw[this];simp
 .have hb:p<iq ((a.jR K+b.jR K)/2^d):=by
   rw[e1];have:=uW (aC:x<=x+b.jR K/2^d);omega
  have h:=Kw (E:=K) (more:=false) a.neg up hb;rw[e1,e2,fi]at h;exact h
def aox{x N D:Nat}(hD:0<D)(h:N<=x*D):(x*D-N)/D=x-(N/D+if N%D≠0 then 1 else 0)/\((x*D-N)%D≠0↔N%D≠0)/\N/D+(if N%D≠0 then 1 else 0)<=x:=by
 have hN:=cL N D;have hr:=bJ N hD;generalize N/D=q at *
 generalize N%D=r at *
 by_cases h0:r=0
 .subst h0;simp only[cQ,gT,bh,bT]at hN ⊢;have hq:q<=x:=by
   apply bQ;intro h';have:=bG D (aC:x+1<=q);rw[bL,bI q]at this;omega
  have e:x*D-N=(x-q)*D:=by rw[Nat.sub_mul,<-hN,bI q]
  rw[e,dY _ hD,gn];exact⟨rfl,aH,hq⟩
 .have hq:q+1<=x:=by
   apply bQ;intro h';have:=bG D (aC:x<=q);rw[bI q]at this;omega
  have e:x*D-N=(D-r)+D*(x-(q+1)):=by
   have h1:D*(x-(q+1))=D*x-D*(q+1):=Nat.mul_sub _ _ _;have h2:D*(q+1)<=D*x:=cJ _ hq;rw[bW,b6]at h1 h2;rw[bI x];omega
  have iE:D-r<D:= aC ;rw[e,fp _ _ hD,cY iE,eD,cj iE];simp only[cQ,h0,eP,bA];exact⟨aC,⟨λ_=>trivial,λ_=> aC⟩,hq⟩
def anv(ha:a.mi)(hb:b.mi)(a0:a.m≠0)(b0:b.m≠0)(h1:low<=a.e)(h2:low<=a.iz-p-8)(h3:low<=b.e\/3<=a.iz-b.iz)(hs:a.neg≠b.neg)(up:Bool):
  (a.m*2^(a.e-low).toNat<mZ b low+(if nZ b low=true then 1 else 0) ->
   j9 (!a.neg) (mZ b low+(if nZ b low=true then 1 else 0)-a.m*2^(a.e-low).toNat) low false p up=jN (iM a b) p up/\jY (!a.neg) (mZ b low+(if nZ b low=true then 1 else 0)-a.m*2^(a.e-low).toNat) low false p up=jC (iM a b) p up) /\
  (mZ b low+(if nZ b low=true then 1 else 0)<=a.m*2^(a.e-low).toNat ->
   (a.m*2^(a.e-low).toNat-(mZ b low+(if nZ b low=true then 1 else 0))=0/\nZ b low=false->iM a b=iR) /\
   (¬(a.m*2^(a.e-low).toNat-(mZ b low+(if nZ b low=true then 1 else 0))=0/\nZ b low=false) ->
    j9 a.neg (a.m*2^(a.e-low).toNat-(mZ b low+(if nZ b low=true then 1 else 0))) low (nZ b low) p up=jN (iM a b) p up/\jY a.neg (a.m*2^(a.e-low).toNat-(mZ b low+(if nZ b low=true then 1 else 0))) low (nZ b low) p up=jC (iM a b) p up)):=by
 obtain⟨K,d,k1,k2,rfl,hx,hy,hl,hd⟩:=RQ (p:=p) a0 b0 h1 h2 h3;generalize a.m*2^(a.e-(K+d)).toNat=x at *
 have ma:=zS a0 K;have mb:=zS b0 K;have Cm:a.num K+b.num K=if a.neg then(b.jR K:Int)-a.jR K else(a.jR K:Int)-b.jR K:=by
  rw[LZ a,LZ b];cases h:a.neg<;>cases h':b.neg<;>simp[h,h']at hs ⊢ <;> omega
 rw[hy,hl];rcases hd with rfl|⟨Cf,Cg⟩
 .
  rw[cA,b6]at hx;have e0:K+((0:Nat):Int)=K:= aC ;simp only[cA,fU,dZ,cQ,gT,decide_false,bC,bh,bT,e0,fM];refine⟨λiE=>?_,λhle=>⟨λhz=>?_,λhz=>?_⟩⟩
  .obtain ⟨r1,r2⟩:=Mu ha hb k1 k2 (!a.neg) (b.jR K-x) aC (by
    rw[Cm,hx];cases a.neg<;>simp<;>omega) p up
   exact⟨r1.symm,r2.symm⟩
  .rw [abp ha hb k1 k2,Cm,hx];have:x=b.jR K:= aC ;rw[this];cases a.neg<;>simp[mB,canon,iR]
  .obtain ⟨r1,r2⟩:=Mu ha hb k1 k2 a.neg (x-b.jR K) aC (by
    rw[Cm,hx];cases a.neg<;>simp<;>omega) p up
   exact⟨r1.symm,r2.symm⟩
 .
  have hD:=bn (n:=d) (aE:0<2);have o9:x≠0:=by intro h;rw[h]at Cf;simp[iq]at Cf
  obtain⟨j,hj⟩:∃ j,iq x=j+3:=⟨iq x-3,aC⟩
  have nF:=tV o9;rw[hj,(aC:j+3-1=j+2),bj]at nF;have Xz:b.jR K/2^d<2^j:=me.1 aC;have hle:b.jR K<=x*2^d:=by
   have h5:=cL (b.jR K)<|2^d;have h6:=bJ (b.jR K) hD;have h7:2^d*(b.jR K/2^d+1)<=2^d*x:=cJ _ aC;rw[bW,b6,bI _ x]at h7;omega
  obtain⟨e1,e2,e3⟩:=aox hD hle;have hc:(if decide (b.jR K%2^d≠0)=true then 1 else 0)=(if b.jR K%2^d≠0 then 1 else 0):=by simp only[cz]
  rw[hc];have Cc:p<iq (x-(b.jR K/2^d+if b.jR K%2^d≠0 then 1 else 0)):=by
   have h8:2^(j+1)<=x-(b.jR K/2^d+if b.jR K%2^d≠0 then 1 else 0):=by
    rw[bF];have h9:2^j*2^2<=x:=nF;have nh:=bn (n:=j) (aE:0<2);split<;>omega
   have:=xy.2 h8;omega
  refine⟨λiE=> aC,λ_=>⟨λhz=>?_,λ_=>?_⟩⟩
  .exfalso;rw[hz.1]at Cc;simp[iq]at Cc
  .obtain ⟨r1,r2⟩:=Mu ha hb k1 k2 a.neg (a.jR K-b.jR K) (by
    intro h;rw[<-hx,h,apI]at e1;rw[<-e1]at Cc;simp[iq]at Cc) (by
    rw[Cm];cases a.neg<;>simp<;>omega) p up
   rw[r1,r2,hx];rw[<-e1]at Cc ⊢;have h:=Kw (E:=K) (more:=false) a.neg up Cc;rw[fi]at h;have e4:decide ((x*2^d-b.jR K)%2^d≠0)=decide (b.jR K%2^d≠0):=are.2 e2;rw[e4]at h;exact h
end
def jq(m:Nat)(e:Int)(p:Nat):Int:=max (e+iq m-p) (-16384)
def om(m:Nat)(e:Int)(more:Bool)(p:Nat)(up:Bool):Nat:=
 if jq m e p<=e then m*2^(e-jq m e p).toNat else m/2^(jq m e p-e).toNat+if(up&&(more||decide (m%2^(jq m e p-e).toNat≠0)))=true then 1 else 0
section
variable{m:Nat}{e:Int}{more:Bool}{p:Nat}
def Ur(up:Bool)(h0:m≠0)(hm:more=true->p<iq m)(hp:1<=p):
 (iq<|om m e more p up:Int)+jq m e p<=16384/\j9 false m e more p up=canon false (om m e more p up) (jq m e p)/\jY false m e more p up=0 \/
 16384<(iq<|om m e more p up:Int)+jq m e p/\((up=true/\j9 false m e more p up=iR/\jY false m e more p up=9)\/(up=false/\j9 false m e more p up=canon false (2^p-1) (16384-p)/\jY false m e more p up=0)):=by
 have qn:(false != up)=up:=by cases up<;>rfl
 by_cases hU:jq m e p<=e
 .
  have hmf:more=false:=by
   cases PI:more with
   |false=>rfl
   |true=>have:=hm PI;unfold jq at hU;omega
  subst hmf;have hK:jJ m e p=0:=by unfold jq at hU;unfold jJ;omega
  have hQ:kV m e false p up=m:=by unfold kV;rw[hK];simp[dZ]
  have hP:om m e false p up=m*2^(e-jq m e p).toNat:=by unfold om;rw[aY hU]
  have hb:iq (om m e false p up)=iq m+(e-jq m e p).toNat:=by rw[hP];exact rI h0 _
  have hc:canon false (om m e false p up) (jq m e p)=canon false m e:=by
   rw[hP];have:=NM false m e (e-jq m e p).toNat
   rwa[(aC:e-((e-jq m e p).toNat:Int)=jq m e p)]at this
  have hO:mz m e false p up=decide (16384<(iq m:Int)+e):=by
   unfold mz;rw[hQ,hK];simp[h0]
  by_cases tE:16384<(iq m:Int)+e
  .refine .inr ⟨aC,?_⟩;unfold j9 jY;rw[qn,hO,aZ tE];cases up
   .exact .inr ⟨rfl,rfl,rfl⟩
   .exact .inl ⟨rfl,rfl,rfl⟩
  .refine .inl ⟨aC,?_,?_⟩
   .unfold j9;rw[qn,hO,a6 tE,aX aE,hQ,hK,hc];simp
   .unfold jY;rw[qn,hO,a6 tE];simp
 .have hK:jJ m e p=(jq m e p-e).toNat:=by unfold jq at hU ⊢;unfold jJ;omega
  have hQ:kV m e more p up=om m e more p up:=by
   unfold kV om;rw[aX hU,hK];congr 1;cases up<;>cases more<;>simp
  have heK:e+(jJ m e p:Int)=jq m e p:=by rw[hK];omega
  have jD:16384<(iq<|om m e more p up:Int)+jq m e p->om m e more p up≠0:=by
   intro h hz;have q7:m/2^(jq m e p-e).toNat=0:=by
    unfold om at hz;rw[aX hU]at hz;exact(Nat.add_eq_zero_iff.1 hz).1
   have iE:m<2^(jq m e p-e).toNat:=by
    rcases Nat.div_eq_zero_iff.1 q7 with h|h
    .exact absurd h<|dX<|bn aE
    .exact h
   have:=me.2 iE;rw[hz,sO]at h;have tG:=oV h0;unfold jq at h hU this;omega
  have hO:mz m e more p up=decide (16384<(iq<|om m e more p up:Int)+jq m e p):=by
   unfold mz;rw[hQ,show(iq<|om m e more p up:Int)+e+(jJ m e p:Int)=(iq<|om m e more p up:Int)+jq m e p by omega];by_cases tE:16384<(iq<|om m e more p up:Int)+jq m e p
   .simp [jD tE]
   .simp [tE]
  by_cases tE:16384<(iq<|om m e more p up:Int)+jq m e p
  .refine .inr ⟨tE,?_⟩;unfold j9 jY;rw[qn,hO,aZ tE];cases up
   .exact .inr ⟨rfl,rfl,rfl⟩
   .exact .inl ⟨rfl,rfl,rfl⟩
  .refine .inl ⟨aC,?_,?_⟩
   .unfold j9;rw[qn,hO,a6 tE,aX aE,hQ,heK]
   .unfold jY;rw[qn,hO,a6 tE];simp
def Uo{up:Bool}(h0:m≠0):iq (om m e more p up)<=p+1:=by
 unfold om;split
 .rename_i h;rw[rI h0];unfold jq at h ⊢;omega
 .rename_i h;have h1:m/2^(jq m e p-e).toNat<2^p:=by
   rw[cG<|bn aE,<-bj];refine me.1 ?_;unfold jq at h ⊢;omega
  refine me.2 ?_;rw[bF];have:0<2^p:=bn aE;split<;>omega
end
def qd{m k:Nat}(h:iq m<=32*k:=by omega):(ib m).length<=k:=by
 refine yG ?_;rw[uP];exact me.1 h
def GR{m k:Nat}(h:(ib m).length<=k):iq m<=32*k:=by
 have:=LN h;rw[uP]at this;exact me.2 this
def UK{m n:Nat}(h:iq m<=n):m/2^n=0/\m%2^n=m:=by
 have:=me.1 h;exact⟨cY this,cj this⟩
def Yr(m n:Nat):(kI (m/2^n*2^n) m != 0)=decide (m%2^n≠0):=by
 have h:=cL m<|2^n;rw[bI]at h;unfold kI;by_cases h0:m%2^n=0
 .rw [aX aC,aX aC];simp[h0]
 .rw [aY aC];simp[h0]
def Uv(neg:Bool)(m:Nat)(e:Int)(more:Bool)(p:Nat)(up:Bool):
 jY neg m e more p up=jY false m e more p (up != neg) /\
 (jY false m e more p (up != neg)=0->neg=true->jo (j9 false m e more p<|up != neg)=j9 neg m e more p up) /\
 ((jY false m e more p (up != neg)≠0\/neg=false)->j9 false m e more p (up != neg)=j9 neg m e more p up):=by
 have qn:(false != (up != neg))=(neg != up):=by cases up<;>cases neg<;>rfl
 have hE:jY neg m e more p up=jY false m e more p (up != neg):=by unfold jY;rw[qn]
 refine⟨hE,λh hn=>?_,λh=>?_⟩
 .have h':=G4.1 h;rw[qn]at h';have neg_canon:∀ q u,jo (canon false q u)=canon true q u:=by
   intro q u;unfold canon jo;by_cases hq:q=0
   .simp [hq]
   .rw [aX hq,aX hq];have:=FU hq;have h0:q/2^jU q≠0:= aC ;simp[h0]
  subst hn;unfold j9;rw[qn];by_cases ho:mz m e more p (true != up)=true
  .have hu:(true != up)=false:=by
    cases hq:(true != up)with
    |false=>rfl
    |true=>exact absurd ⟨ho,hq⟩ h'
   rw[aY ho,aY ho,hu];simp only[bC,bh];exact neg_canon _ _
  .rw [aX ho,aX ho];exact neg_canon _ _
 .rcases h with h|h
  .have h1:mz m e more p (neg != up)=true/\(neg != up)=true:=by
    by_cases q:mz m e more p (neg != up)=true/\(neg != up)=true
    .exact q
    .exact absurd (G4.2<|by rw[qn];exact q) h
   unfold j9;rw[qn,aY h1.1,aY h1.2,aY h1.1,aY h1.2]
  .subst h;cases up<;>rfl
section
variable(a b:Dy)(p:Nat)
def jv:Int:=if a.iz-b.iz<=2 then min (min a.e<|a.iz-p-8) b.e else min a.e (a.iz-p-8)
def oC:Nat:=a.m*2^(a.e-jv a b p).toNat
def mX:Nat:=mZ b (jv a b p)+if(a.neg != b.neg&&nZ b (jv a b p))=true then 1 else 0
def qf:Bool:=(a.neg != b.neg)&&decide (oC a b p<mX a b p)
def mh:Nat:=if a.neg=b.neg then oC a b p+mX a b p else if oC a b p<mX a b p then mX a b p-oC a b p else oC a b p-mX a b p
def nI:Bool:=nZ b (jv a b p) && !qf a b p
def RE:jv a b p<=a.e/\jv a b p<=a.iz-p-8/\(jv a b p<=b.e\/3<=a.iz-b.iz):=by
 unfold jv;split<;>omega
end
def Gm{a:Dy}(a0:a.m≠0):a.iz=iq a.m+a.e:=by unfold Dy.iz;rw[aX a0]
structure acF(a b:Dy)(p:Nat):Prop where
 lo:-17000<=jv a b p
 hi:jv a b p<=16384
 x:iq (oC a b p)<=4100
 x0:oC a b p≠0
 sh:(a.e-jv a b p).toNat<=60000
 sh2:(b.e-jv a b p).toNat<=60000
 sh3:(jv a b p-b.e).toNat<=60000
 y:iq (mZ b<|jv a b p)<=4100
 l:nZ b (jv a b p)=true->p+8<=iq (oC a b p)/\iq (mZ b<|jv a b p)+3<=iq (oC a b p)
section
variable{a b:Dy}{p:Nat}(ha:a.ig)(hb:b.ig)(a0:a.m≠0)(b0:b.m≠0)
section
variable(ht:b.iz<=a.iz)(ie:p<=512)
def MM:acF a b p:=by
 have ra:=ha.range.resolve_left a0;have rb:=hb.range.resolve_left b0;have ta:=Gm a0;have tb:=Gm b0;obtain⟨h1,h2,h3⟩:=RE a b p;have hx:iq (oC a b p)=iq a.m+(a.e-jv a b p).toNat:=rI a0 _;have Fu:jv a b p=a.e\/jv a b p=a.iz-p-8\/(a.iz-b.iz<=2/\jv a b p=b.e):=by unfold jv;split<;>omega
 have hy:iq (mZ b<|jv a b p)<=iq (oC a b p):=by
  unfold mZ;split
  .rw [rI b0];omega
  .have:iq (b.m/2^(jv a b p-b.e).toNat)<=iq b.m-(jv a b p-b.e).toNat:=by
    rw[me,cG<|bn aE,<-bj];exact me.1 aC 
   omega
 have pa:=oV a0;have pb:=oV b0;refine⟨aC,aC,aC,?_,aC,aC,aC,aC,λhl=>?_⟩
 .intro h;unfold oC at h;exact(dN a0<|dX<|bn aE) h
 .obtain ⟨K,d,k1,k2,k3,k4,k5,k6,k7⟩:=RQ (p:=p) a0 b0 h1 h2 h3;rcases k7 with rfl|⟨k7,k8⟩
  .rw [k6]at hl;simp[dZ]at hl
  .rw [k5];exact⟨k7,k8⟩
def R5:
 iq (mX a b p)<=4101/\iq (mh a b p)<=4102/\(nI a b p=true->p<iq (mh a b p)):=by
 obtain⟨l1,l2,l3,l4,l5,l6,l7,l8,l9⟩:=MM ha hb a0 b0 ht ie;have hy:mX a b p<=mZ b (jv a b p)+1:=by unfold mX;split<;>omega
 obtain⟨K,hK⟩:∃ K:Nat,K=4100:=⟨_,rfl⟩
 have g1:4101=K+1:= aC ;have g2:4102=K+2:= aC ;rw[g1,g2];rw[<-hK]at l3 l8;have hy4:mZ b (jv a b p)<2^K:=me.1 l8;have hx4:oC a b p<2^K:=me.1 l3;have e1:(2:Nat)^(K+1)=2*2^K:=by rw[bF];omega
 have e2:(2:Nat)^(K+2)=4*2^K:=by rw[bj];omega
 generalize (2:Nat)^K=Z at *
 refine⟨me.2 aC,me.2 ?_,λhl=>?_⟩
 .unfold mh;split
  .omega
  .split<;>omega
 .unfold nI at hl;simp only[bD,di]at hl;obtain⟨q1,q2⟩:=l9 hl.1;have hX:2^(iq (oC a b p)-1)<=oC a b p:=tV l4;rw[xy];have hY:mZ b (jv a b p)<2^(iq (oC a b p)-3):=me.1 aC;have e3:(2:Nat)^(iq (oC a b p)-1)=4*2^(iq (oC a b p)-3):=by
   rw[(aC:iq (oC a b p)-1=(iq (oC a b p)-3)+2),bj];omega
  have hp:(2:Nat)^p<=2^(iq (oC a b p)-3):=bO aE aC;unfold mh;split
  .omega
  .rename_i hs;unfold qf at hl;rw[aX (by
    have:=hl.2;simp[hs]at this;omega)]
   omega
end
def abw(up:Bool):
 (mh a b p=0/\nI a b p=false->iM a b=iR) /\
 (¬(mh a b p=0/\nI a b p=false)->j9 (a.neg != qf a b p) (mh a b p) (jv a b p) (nI a b p) p up=jN (iM a b) p up/\jY (a.neg != qf a b p) (mh a b p) (jv a b p) (nI a b p) p up=jC (iM a b) p up):=by
 obtain⟨h1,h2,h3⟩:=RE a b p;by_cases hs:a.neg=b.neg
 .have hn:(a.neg != b.neg)=false:=by rw[hs];simp
  have e1:qf a b p=false:=by unfold qf;rw[hn];rfl
  have e2:nI a b p=nZ b (jv a b p):=by unfold nI;rw[e1];simp
  have e3:mh a b p=a.m*2^(a.e-jv a b p).toNat+mZ b (jv a b p):=by unfold mh;rw[aY hs];unfold oC mX;rw[hn];simp
  have hx:mh a b p≠0:=by
   rw[e3];have:=dN a0 (dX<|bn (n:=(a.e-jv a b p).toNat)<|show 0<2 by decide);omega
  refine⟨λh=>absurd h.1 hx,λ_=>?_⟩;rw[e1,e2,e3];have:=anw ha.canon hb.canon a0 b0 h1 h2 h3 hs up;cases hA:a.neg<;>rw[hA]at this<;>exact this
 .have hn:(a.neg != b.neg)=true:=by simpa using hs
  have eY:mX a b p=mZ b (jv a b p)+if nZ b (jv a b p)=true then 1 else 0:=by unfold mX;rw[hn];simp
  obtain⟨r1,r2⟩:=anv (p:=p) ha.canon hb.canon a0 b0 h1 h2 h3 hs up;rw[<-eY]at r1 r2;change oC a b p<mX a b p->_ at r1;change mX a b p<=oC a b p->_ at r2;by_cases hc:oC a b p<mX a b p
  .have e1:qf a b p=true:=by unfold qf;rw[hn,aZ hc];rfl
   have e2:nI a b p=false:=by unfold nI;rw[e1];simp
   have e3:mh a b p=mX a b p-oC a b p:=by unfold mh;rw[aX hs,aY hc]
   rw[e1,e2,e3];refine⟨λh=> aC,λ_=>?_⟩;have:=r1 hc;cases hA:a.neg<;>rw[hA]at this<;>exact this
  .have e1:qf a b p=false:=by unfold qf;rw[hn,a6 hc];rfl
   have e2:nI a b p=nZ b (jv a b p):=by unfold nI;rw[e1];simp
   have e3:mh a b p=oC a b p-mX a b p:=by unfold mh;rw[aX hs,aX hc]
   rw[e1,e2,e3];obtain⟨q1,q2⟩:=r2 aC;refine⟨q1,λh=>?_⟩;have:=q2 h;cases hA:a.neg<;>rw[hA]at this<;>exact this
end
end Go.Proofs.YtjkmahljfblobaaGreatDoor.Fp
namespace Go.Proofs.YtjkmahljfblobaaGreatDoor
open Go.RowKit Fp
def ND(a b:Nat):iq (a*b)<=iq a+iq b:=by
 rw[me,bj];exact Nat.mul_lt_mul'' (sc a)<|sc b
def amV(a:Dy)(A:Option Addr)(c:Nat)(w:World)(h:Sl w A c<|ib a.m)(ha:a.ig):
 Calls prog 17 #[DV a A c] w λe w'=>e = .returned (.bool true)/\iZ w w':=
 Mn a.neg A c (ib a.m) a.e w true h (by have:=ha.exp;omega) (by have:=ha.exp;omega) (by simp[ha.wT])
def aeZ(d:Dy)(A:Option Addr)(c:Nat)(w:World)(hs:Sl w A c<|ib d.m)(hl:(ib d.m).length<=100000000)(mO:-10000000<=d.e)(lL:d.e<=10000000):
 Calls prog 184 #[DV d A c] w (Au w (kQ d)<|mN d):=by
 by_cases hd:nj d
 .rw [BY hd,GX hd];exact Ud d A c w hs hl mO lL hd
 .rw [NP hd,Ks hd];exact ae0 d A c w hs hl mO lL hd
section
variable(s:Bool)(m:Nat)(e:Int)
def AF{n:Nat}(hm:(ib m).length<=n):(ib (canon s m e).m).length<=n/\e<=max (canon s m e).e e/\((canon s m e).e<=max 0 (e+32*n))/\min 0 e<=(canon s m e).e:=by
 unfold canon;by_cases h0:m=0
 .rw [aY h0];simp only[pG];exact⟨b7 _,aC,aC,aC⟩
 .rw [aX h0];have h1:jU m<32*n:=by
   have h1:=Jo h0;have h2:=LN hm;rw[uP]at h2;exact(arw (aE:1<2)).1<|ck h1 h2
  exact⟨bg (nk<|b5 _ _) hm,aC,by simp only;omega,by simp only;omega⟩
def T6(A:Option Addr)(c:Nat)(w:World)(hs:Sl w A c<|ib m)(hl:(ib m).length<=256)(mO:-1000000<=e)(lL:e<=1000000)(uX:Tb w):
 Calls prog 123 #[.bool s,.slice A (ib m).length c,.int .i64 e] w (At w<|canon s m e):=by
 have:=KB s A c (ib m) e w hs aC (by have:=qh<|ib m;unfold mS at this;omega) mO lL uX;rw[kK]at this;exact this
end
def Zm{m:Nat}(h:m=0):(((ib m).length:Int)==0)=true:=by rw[h,pG];rfl
def al7{m:Nat}(h:m≠0):(((ib m).length:Int)==0)=false:=by
 refine aS ?_;have:ib m≠[]:=λe=>h<|Yj.1 e
 have:=gG.2 this;omega
def aqt(a b:Dy)(A B:Option Addr)(c d:Nat)(w:World)(_hs:Sl w A c<|ib a.m)(hr:Sl w B d<|ib b.m)(uX:Tb w)(hb:b.ig)(h0:a.m=0):
 Calls prog 239 #[DV a A c,DV b B d] w (Au w (kQ<|iM a b)<|mN<|iM a b):=by
 have Ba:iM a b=b:=by unfold iM;rw[aY h0]
 rw[Ba,BY hb.range,GX hb.range];have hl:=hb.len;obtain⟨mO,lL⟩:=hb.exp;have HC:=arM λw (h:Sl w B d<|ib b.m) (ht:Tb w)=>T6 b.neg b.m b.e B d w h hl aC aC ht;rw[hb.canon.C4]at HC;have n0:=Zm h0;clear Ba h0;have hE:=((iZ.alloc w<|.cells #[.bool b.neg,.slice B ((ib b.m).length) d,.int .i64 b.e] 37).trans<|iZ.alloc (w.alloc<|.cells #[.bool b.neg,.slice B ((ib b.m).length) d,.int .i64 b.e] 37)<|.cells #[.bool b.neg,.slice B ((ib b.m).length) d,.int .i64 b.e] 37).trans<|iZ.alloc ((w.alloc<|.cells #[.bool b.neg,.slice B ((ib b.m).length) d,.int .i64 b.e] 37).alloc<|.cells #[.bool b.neg,.slice B ((ib b.m).length) d,.int .i64 b.e] 37)<|.cells #[.bool false,.slice none 0 0,.int .i64 0] 37;have b1:=((jQ.zY (W:=w) (g:=w.heap.size) aH b.neg B ((ib b.m).length) d b.e).alloc<|.cells #[.bool b.neg,.slice B ((ib b.m).length) d,.int .i64 b.e] 37).alloc<|.cells #[.bool false,.slice none 0 0,.int .i64 0] 37;have b2:=(jQ.zY (W:=(w.alloc<|.cells #[.bool b.neg,.slice B ((ib b.m).length) d,.int .i64 b.e] 37)) (g:=w.heap.size+1) aH b.neg B ((ib b.m).length) d b.e).alloc<|.cells #[.bool false,.slice none 0 0,.int .i64 0] 37;have b3:=jQ.zY (W:=((w.alloc<|.cells #[.bool b.neg,.slice B ((ib b.m).length) d,.int .i64 b.e] 37).alloc<|.cells #[.bool b.neg,.slice B ((ib b.m).length) d,.int .i64 b.e] 37)) (g:=w.heap.size+2) aH false none 0 0 0;replace hr:=hr.below hE;replace uX:=uX.below hE;go_enter func239,ntmps239;go_wp2_with fail
 (with_reducible refine(HC.out _ hr uX).mono ?_)
 rintro r w1 ⟨A_h4,c_h4,rfl,h4,hb⟩;replace hE:=hE.trans hb;replace hr:=hr.below hb;replace uX:=uX.below hb;replace b1:=b1.ext hb;replace b2:=b2.ext hb;replace b3:=b3.ext hb;clear hb;have aqO:=b3.c0;have yb30:=b3.fr 0;have aqP:=b3.c1;have yb31:=b3.fr 1;have aqQ:=b3.c2;have yb32:=b3.fr 2;go_wp2;exact E5 (d:=b) rfl rfl rfl rfl (b3.set _ _ _ _ _) rfl (b3.wG h4 _ _ _ _ _) (jQ.vF hE aC _ _ _ _ _)
def aga(a:Dy)(A:Option Addr)(c:Nat)(w:World)(h:Sl w A c<|ib a.m)(ha:a.ig):
 Calls prog 176 #[DV a A c] w λe w'=>e = .returned (.int .i64 a.iz)/\iZ w w':=by
 have:=Od a.neg A c (ib a.m) a.e w h ha.wT;rw[kK]at this;exact this
set_option maxRecDepth 100000 in
set_option maxHeartbeats 8000000 in
def af8(a : Dy)(A : Option Addr)(c : Nat)(w : World)(hs : Sl w A c<|ib a.m)(ha : a.ig):
    Calls prog 124 #[DV a A c] w (At w<|jo a) := by
  have HV := arM λw (h : Sl w A c<|ib a.m) => UZ a A c w h ha;have hl := ha.len;by_cases h0 : a.m=0
  . have hz : Hid<|jo a=iR := by
      show jo a=iR;obtain⟨s,m,e⟩ := a;rcases ha.canon with⟨h1,h2,h3⟩|h1
      . simp only at h1 h2 h3;subst h1 h2 h3;rfl
      . simp only at h0 h1;omega
    have n0 := Zm h0;clear h0;have hE := (iZ.alloc w<|.cells #[.bool a.neg,.slice A ((ib a.m).length) c,.int .i64 a.e] 37).trans<|iZ.alloc (w.alloc<|.cells #[.bool a.neg,.slice A ((ib a.m).length) c,.int .i64 a.e] 37)<|.cells #[.bool false,.slice none 0 0,.int .i64 0] 37;have b1 := (jQ.zY (W := w) (g := w.heap.size) aH a.neg A ((ib a.m).length) c a.e).alloc<|.cells #[.bool false,.slice none 0 0,.int .i64 0] 37;have b2 := jQ.zY (W := (w.alloc<|.cells #[.bool a.neg,.slice A ((ib a.m).length) c,.int .i64 a.e] 37)) (g := w.heap.size+1) aH false none 0 0 0;replace hs := hs.below hE;go_enter func124,ntmps124;go_wp2_with fail
    (with_reducible refine(HV.out _ hs).mono ?_)
    rintro r w1 ⟨rfl,hb⟩;replace hE := hE.trans hb;replace hs := hs.below hb;replace b1 := b1.ext hb;replace b2 := b2.ext hb;clear hb;have M7 := b1.c0;have M8 := b1.c1;have M9 := b1.c2;have aqL := b2.c0;have yb20 := b2.fr 0;have aqM := b2.c1;have yb21 := b2.fr 1;have aqN := b2.c2;have yb22 := b2.fr 2;go_wp2;rw[hz.out];exact AI (d := iR) rfl rfl rfl (b2.set _ _ _ _ _) (by rw[show iR.m=0 from rfl,pG];rfl) (by rw[show iR.m=0 from rfl,pG];exact Sl.nil _) (jQ.vF hE aC _ _ _ _ _)
  . have n0 := al7 h0
    have HN := arM (show jo a=⟨!a.neg,a.m,a.e⟩by unfold jo;simp[h0]);have HC := arM λw (h : Sl w A c<|ib a.m) => NS A c (ib a.m) w h aC;clear h0;have hE := (iZ.alloc w<|.cells #[.bool a.neg,.slice A ((ib a.m).length) c,.int .i64 a.e] 37).trans<|iZ.alloc (w.alloc<|.cells #[.bool a.neg,.slice A ((ib a.m).length) c,.int .i64 a.e] 37)<|.cells #[.bool false,.slice none 0 0,.int .i64 0] 37;have b1 := (jQ.zY (W := w) (g := w.heap.size) aH a.neg A ((ib a.m).length) c a.e).alloc<|.cells #[.bool false,.slice none 0 0,.int .i64 0] 37;have b2 := jQ.zY (W := (w.alloc<|.cells #[.bool a.neg,.slice A ((ib a.m).length) c,.int .i64 a.e] 37)) (g := w.heap.size+1) aH false none 0 0 0;replace hs := hs.below hE;go_enter func124,ntmps124;go_wp2_with fail
    (with_reducible refine(HV.out _ hs).mono ?_)
    rintro r w1 ⟨rfl,hb⟩;replace hE := hE.trans hb;replace hs := hs.below hb;replace b1 := b1.ext hb;replace b2 := b2.ext hb;clear hb;have M7 := b1.c0;have M8 := b1.c1;have M9 := b1.c2;clear M7 M8 M9;have M7 := b1.c0;have M8 := b1.c1;have M9 := b1.c2;go_wp2_with fail;clear M7 M8 M9;replace hs := hs.drew;replace b1 := b1.drew;replace b2 := b2.drew;replace hE := hE.trans<|iZ.drew _;go_region_held3 (λw' => w'.cell? ⟨w.heap.size,0,none⟩=some (.bool a.neg)/\w'.cell? ⟨w.heap.size,1,none⟩=some (.slice A ((ib a.m).length) c)/\w'.cell? ⟨w.heap.size,2,none⟩=some (.int .i64 a.e))
      (first|with_reducible exact⟨(b1).c0,(b1).c1,(b1).c2⟩|with_reducible exact⟨(b1.ext ln).c0,(b1.ext ln).c1,(b1.ext ln).c2⟩|with_reducible exact⟨((b1.ext ln).OD (g' := w.heap.size+1) aC _ _ _).c0,((b1.ext ln).OD (g' := w.heap.size+1) aC _ _ _).c1,((b1.ext ln).OD (g' := w.heap.size+1) aC _ _ _).c2⟩)
      (first
        | (go_at_call 204
           (with_reducible refine(HC.out _ hs).mono ?_)
           rintro r wx0 ⟨A_h4,c_h4,rfl,h4,ln⟩;have bz := b2.ext ln;have z0 := bz.c0;have z1 := bz.c1;have z2 := bz.c2;have y0 := bz.fr 0;have y1 := bz.fr 1;have y2 := bz.fr 2))
    replace hE := hE.trans ln;replace hs := hs.below ln;replace b1 := b1.ext ln;replace b2 := b2.ext ln;go_wp2;rw[HN.out];exact AI (d := ⟨!a.neg,a.m,a.e⟩) rfl rfl rfl (bz.set _ _ _ _ _) rfl (bz.wG h4 _ _ _ _ _) (jQ.vF hE aC _ _ _ _ _)
end Go.Proofs.YtjkmahljfblobaaGreatDoor
