/- Lemmas that the last file uses. -/
import Derived.Test.YtjkmahljfblobaaGreatDoorM01
import Derived.Deep.DeepCutAuto
set_option linter.unusedSimpArgs false
set_option linter.unusedVariables false
set_option linter.defProp false
set_option maxHeartbeats 4000000
open Go.Proofs.Tryz
namespace Go.Proofs.YtjkmahljfblobaaGreatDoor.Pu
open Go.RowKit
structure Gd(P:Program)(K:World->Prop)(w0:mQ)(B:Nat->Prop):Prop where
 k:∀ w,uS w0 w0.w w->K w
 hB:∀ b,B b->w0.vH b/\oL w0.w b
def oL.GQ{w w':World}{b:Nat}(h:oL w b)(hb:w'.heap[b]? = w.heap[b]?):oL w' b:=by
 intro o x e;exact h o x<|by rw[<-e];exact(World.cell?_of_block (w:=w) (w':=w') hb).symm
def oL.GR{w:World}{b:Nat}{cs:Array Value}{T:TypeId}{fr:Nat×Nat}(hg:w.heap[b]? = some (.cells cs T fr))(h:∀ v,v ∈ cs->qs v=false):oL w b:=by
 intro o x e;simp only[World.cell?,hg]at e;simp only[Option.isSome_none,bJ,bB]at e;have:=h _<|ek e;cases this
section
variable {P:Program} {K:World->Prop} {T:List TI} {O:qY} {w0:mQ} {B:Nat->Prop} {σ:PS} {o:Oper} {a:Act} {w:World} {L:Lk} {u:kN}
def nu.J1{v:Value}{T:TypeId}{n sz:Nat}{f:Nat->Nat->Value}(h:nu w v T n sz f true){x:Nat}(hx:v.ownBlock=some x):oL w x:=by
 rcases h with⟨rfl,_⟩|⟨b,ofs,c,cur,rfl,hg,_,_,_,_,jQ⟩
 .simp [Value.ownBlock]at hx
 .simp [Value.ownBlock]at hx;subst hx;exact oL.GR hg<|jQ rfl
def nh.J1{id:Nat}{b:Bx}(h:nh (bad B L) (jt L) L w id b)(hn:b.nl=true){x:Nat}(hx:L.own id x):oL w x:=by
 cases b with
 |cells T l=>
  obtain⟨b,vs,h1,h2,h3,h4,h5⟩:=h;obtain rfl:=(h2 x).1 hx;exact oL.GR h3 λv hv=>JI h4 hn v<|by simpa using hv
 |row nl T n sz el=>
  obtain⟨f,h1,h2,h3⟩:=h;have hn:nl=true:=hn;subst hn;exact h1.J1<|(h2 x).1 hx
 |iM nl T1 T0 n sz len el pend=>
  rcases h with⟨_,_,h⟩|h
  .exact absurd hx<|h x
  obtain⟨b,ofs,c,cur,f,h1,h2,h3,h4,h5,h6,h7,h8,h9,nU,nV⟩:=h;have hn:nl=true:=hn;subst hn;rcases(h9 x).1 hx with rfl|⟨k,hk,Q0⟩
  .exact oL.GR h2 λv hv=>h7 v hv
  .exact (h8 k hk).1.J1 Q0
 |nN T b l=>
  obtain⟨vs,h1,h2,h3,h4,h5⟩:=h;obtain rfl:=(h2 x).1 hx;exact oL.GR h3 λv hv=>JI h4 hn v<|by simpa using hv
 |A8 nl T1 T0 n sz len el c r=>
  obtain⟨⟨b,ofs,c,cur,f,h1,h2,h3,h4,h5,h6,h7,h8,h9,nU,nV⟩,_⟩:=h;have hn:nl=true:=hn;subst hn;rcases(h9 x).1 hx with rfl|⟨k,hk,Q0⟩
  .exact oL.GR h2 λv hv=>h7 v hv
  .exact (h8 k hk).1.J1 Q0
 |qn nl T l=>
  obtain⟨b,vs,h1,h2,h3,h4,h5,h6⟩:=h;obtain rfl:=(h2 x).1 hx;exact oL.GR h3 λv hv=>(h6 v<|by simpa using hv).2 hn
def jh.DT(g:Gd P K w0 B)(r:jh w0 B σ a w L)(hn:σ.nl=true):∀ b,bad B L b->b<w.heap.size/\oL w b:=by
 intro b hb;rcases hb with hb|⟨id,hb⟩
 .obtain ⟨h1,h2⟩:=g.hB b hb;exact⟨bV h1.1 r.he.size,h2.GQ<|r.he.block b h1⟩
 .refine ⟨(r.hw id b hb).2,?_⟩;have hl:=(r.hv id).1<|r.hn id b hb;obtain⟨bx,ju⟩:=gJ.1 hl;exact(r.hb id bx ju).J1 (r.hl hn id bx ju) hb
def nh.jK{id:Nat}{Tt:TypeId}{l:List E}(h:nh (bad B L) (jt L) L w id<|.cells Tt l){b:Nat}(hv:L.val id = .pointer (some ⟨b,0,none⟩))(iN:∀ x,L.own id x->x<w.heap.size):
 iO (bad B L) (λ_=>False) w (.jK l.length λj=>l.getD j .any) (.pointer<|some ⟨b,0,none⟩):=by
 obtain⟨b',vs,h1,h2,h3,h4,h5⟩:=h;rw[hv]at h1;cases h1;refine .jK _ _ b 0 (λj=>vs.getD j undef) (λh=>h) (iN b<|(h2 b).2 rfl) (λj hj=>?_) (λj hj=>?_) λj hj=>?_
 .have q8:j<vs.length:=by rw[h4.len];exact hj
  rw[bt,bD q8];exact h5 _<|cB q8
 .have q8:j<vs.length:=by rw[h4.len];exact hj
  simp only[World.cell?,h3];simp[q8]
 .have q8:j<vs.length:=by rw[h4.len];exact hj
  rw[bt,bD hj,bt,bD q8];exact(h4.kJ j _ _ (bD hj)<|bD q8).nS (λ_ h=>h) λ_ h=>h.elim
def nu.abE{v:Value}{T:TypeId}{n sz:Nat}{f:Nat->Nat->Value}{nl:Bool}{el:Nat->Nat->E}{bs br:Nat->Prop}(h1:nu w v T n sz f nl)(iN:∀ x,v.ownBlock=some x->x<w.heap.size)
 (h3:∀ i j,i<n->j<sz->iO bs br w (el i j) (f i j)/\(el i j).nr 2=true):iO (λ_=>False) (λ_=>False) w (.sl nl n sz el) v:=by
 rcases h1 with⟨rfl,rfl⟩|⟨b,ofs,c,cur,rfl,hg,qf,oZ,nL,kF,jQ⟩
 .exact .sl nl 0 sz el none 0 f (bw _) aE (λ_=>rfl) (λi j hi=>absurd hi<|bC i) (λi j hi=>absurd hi<|bC i) (λi j hi=>absurd hi<|bC i) λi j hi=>absurd hi<|bC i
 .refine .sl nl n sz el _ c f qf (by unfold maxLen at oZ;omega) (λh=>by cases h) (λi j hi hj=>⟨(kF i j hi hj).2,λhn=>jQ hn _<|ek (kF i j hi hj).1⟩) (λi j hi hj=>(h3 i j hi hj).2)
   (λi j hi hj=>⟨b,ofs,rfl,λh=>h,iN b rfl,?_⟩) (λi j hi hj=>(iO.nr ((h3 i j hi hj).1.nS (λ_ h=>h.elim) λ_ h=>h) 2 (h3 i j hi hj).2))
  simp only[World.cell?,hg];simpa using(kF i j hi hj).1
section
variable(r:jh w0 B σ a w L)
def jh.YH{id T1 T0 n sz k:Nat}{nl:Bool}{len:Nat->Nat}{el:Nat->Nat->Nat->E}{pend:Option Nat}(iZ:σ.bo id=some (.iM nl T1 T0 n sz len el pend))(hk:k<n):
 iO (λ_=>False) (λ_=>False) w (.sl nl (len k) sz<|el k) (L.iQ id k):=by
 obtain⟨b,ofs,c,cur,f,h1,h2,h3,h4,h5,h6,h7,h8,h9,nU,nV⟩:=(r.hb id _ iZ).wm aC;exact(h8 k hk).1.abE (λx hx=>(r.hw id x<|(h9 x).2<|.inr ⟨k,hk,hx⟩).2) (h8 k hk).2
section
variable{c:CV}{e:E}{is:List Nat}(h:c.ext σ=some (e,is))
def CV.IP(kE:c.Jv=false){v:Value}(hv:yL (bad B L) (jt L) L w c v):iO (bad B L) (λ_=>False) w e v:=by
 cases c with
 |e x=>simp only[CV.ext,bG,bS]at h;obtain⟨rfl,_⟩:=h;exact hv.nS (λ_ h=>h) λ_ h=>h.elim
 |box id=>
  simp only[CV.ext]at h;split at h
  .rename_i Tt l iZ;simp only[bG,bS]at h;obtain⟨rfl,_⟩:=h;obtain⟨_,b,k2,rfl⟩:=hv;exact(r.hb id _ iZ).jK k2 λx hx=>(r.hw id x hx).2
  .cases h
 |row id=>cases kE
def CV.P3{v:Value}(hv:yL (bad B L) (jt L) L w c v):iO (λ_=>False) (λ_=>False) w e v:=by
 cases kE:c.Jv with
 |false=>exact(CV.IP r h kE hv).nS (λ_ h=>h.elim) λ_ h=>h
 |true=>
  cases c with
  |row id=>
   simp only[CV.ext]at h;split at h
   .rename_i nl T1 T0 n sz len el iZ;split at h
    .rename_i hn;have hn:=kQ.1 hn;subst hn;simp only[bG,bS]at h;obtain⟨rfl,_⟩:=h;obtain⟨_,b,ofs,n',c,k2,rfl⟩:=hv;have kP:=r.YH iZ<|gK 0;obtain⟨b',ofs',c',cur,f,h1,h2,h3,h4,h5,h6,h7,h8,h9,nU,nV⟩:=(r.hb id _ iZ).wm aE;rw[k2]at h1;cases h1;have pR:=h6 0 (gK 0) aH;refine .jK 1 _ b ofs (λ_=>L.iQ id 0) (λh=>h) (r.hw id b<|(h9 b).2<|.inl rfl).2 (λj hj=>(h8 0<|gK 0).1.head.2.1) (λj hj=>?_) λj hj=>kP;obtain rfl:j=0:= aC ;simp only[World.cell?,h2];simpa using pR
    .cases h
   .cases h
  |_=>cases kE
end
section
variable{l:List CV}{es:List E}{is:List Nat}(h:wP σ l=some (es,is))
def Wq(kE:l.any CV.Jv=false){vs:List Value}(hlen:vs.length=l.length)
 (hv:∀ (i:Nat) (c:CV) (x:Value),l[i]? = some c->vs[i]? = some x->yL (bad B L) (jt L) L w c x):ku (bad B L) (λ_=>False) w es vs:=by
 induction l generalizing es is vs with
 |nil=>simp only[wP,bG,bS]at h;obtain⟨rfl,_⟩:=h;obtain rfl:=dJ hlen;exact .nil _ _ _
 |cons c l ih=>
  cases vs with
  |nil=>simp at hlen
  |cons v vs=>
   simp only[wP]at h;split at h
   .rename_i x i xs js h1 h2;simp only[bG,bS]at h;obtain⟨rfl,_⟩:=h;simp only[en,eo]at kE;exact .cons (CV.IP r h1 kE.1<|hv 0 c v rfl rfl)<|ih h2 kE.2 (by simpa using hlen) λi c x hc hx=>hv (i+1) c x (by simpa using hc)<|by simpa using hx
   .cases h
def Wr{vs:List Value}(hlen:vs.length=l.length)
 (hv:∀ (i:Nat) (c:CV) (x:Value),l[i]? = some c->vs[i]? = some x->yL (bad B L) (jt L) L w c x):ku (λ_=>False) (λ_=>False) w es vs:=by
 induction l generalizing es is vs with
 |nil=>simp only[wP,bG,bS]at h;obtain⟨rfl,_⟩:=h;obtain rfl:=dJ hlen;exact .nil _ _ _
 |cons c l ih=>
  cases vs with
  |nil=>simp at hlen
  |cons v vs=>
   simp only[wP]at h;split at h
   .rename_i x i xs js h1 h2;simp only[bG,bS]at h;obtain⟨rfl,_⟩:=h;exact .cons (CV.P3 r h1<|hv 0 c v rfl rfl)<|ih h2 (by simpa using hlen) λi c x hc hx=>hv (i+1) c x (by simpa using hc)<|by simpa using hx
   .cases h
end
end
def nu.nN{v:Value}{T:TypeId}{n sz:Nat}{f:Nat->Nat->Value}{nl:Bool}{el:Nat->Nat->E}{bs br:Nat->Prop}(h1:nu w v T n sz f nl)(iN:∀ x,v.ownBlock=some x->x<w.heap.size)
 (h3:∀ i j,i<n->j<sz->iO bs br w (el i j) (f i j)/\(el i j).nr 2=true):iO bs (λ_=>False) w (.lJ true nl n sz el) v:=by
 rcases h1 with⟨rfl,rfl⟩|⟨b,ofs,c,cur,rfl,hg,qf,oZ,nL,kF,jQ⟩
 .exact .lJ true nl 0 sz el none 0 f (bw _) aE (λ_=>rfl) (λi j hi=>absurd hi<|bC i) (λ_ i j hi=>absurd hi<|bC i) (λi j hi=>absurd hi<|bC i) λi j hi=>absurd hi<|bC i
 .refine .lJ true nl n sz el _ c f qf (by unfold maxLen at oZ;omega) (λh=>by cases h) (λi j hi hj=>⟨(kF i j hi hj).2,λhn=>jQ hn _<|ek (kF i j hi hj).1⟩) (λ_ i j hi hj=>(h3 i j hi hj).2)
   (λi j hi hj=>⟨b,ofs,rfl,λh=>h,iN b rfl,?_⟩) (λi j hi hj=>iO.nr (h3 i j hi hj).1 2 (h3 i j hi hj).2)
  simp only[World.cell?,hg];simpa using(kF i j hi hj).1
section
variable(r:jh w0 B σ a w L){p:PV}{e:E}{is:List Nat}(h:p.ext σ=some (e,is))
def PV.IP(kE:p.vX σ=false){v:Value}(hv:kZ (bad B L) (jt L) L w p v):iO (bad B L) (λ_=>False) w e v:=by
 cases p with
 |e x=>simp only[PV.ext,bG,bS]at h;obtain⟨rfl,_⟩:=h;exact iO.nS (λ_ h=>h) (λ_ h=>h.elim) hv
 |box id off=>
  cases off with
  |succ=>simp[PV.ext]at h
  |zero=>
   simp only[PV.ext]at h;split at h
   .rename_i Tt l iZ;simp only[bG,bS]at h;obtain⟨rfl,_⟩:=h;obtain⟨_,b,k2,rfl⟩:=hv;exact(r.hb id _ iZ).jK k2 λx hx=>(r.hw id x hx).2
   .cases h
 |rq f cap=>
  simp only[PV.ext]at h;split at h
  .rename_i xs js h1;simp only[bG,bS]at h;obtain⟨rfl,_⟩:=h;obtain⟨vs,rfl,k2,k3⟩:=hv;have:=Wq r h1 kE k2 k3;exact .fn f xs vs this.len this.kJ
  .cases h
 |own id=>
  obtain⟨_,rfl⟩:=hv;simp only[PV.vX]at kE;split at kE
  .rename_i nl T1 T0 n sz len el pend iZ;simp only[PV.ext,iZ]at h;cases pend with
   |some k=>cases h
   |none=>
    simp only[bG,bS]at h;obtain⟨rfl,_⟩:=h;rcases r.hb id _ iZ with⟨h1,h2,_⟩|⟨b,ofs,c,cur,f,h1,h2,h3,h4,h5,h6,h7,h8,h9,nU,nV⟩
    .subst h2;rw[h1];exact .lJ false true 0 1 _ none 0 (λ_ _=>undef) (bw _) aE (λ_=>rfl) (λi j hi=>absurd hi<|bC i) (λh=>by cases h) (λi j hi=>absurd hi<|bC i) λi j hi=>absurd hi<|bC i
    .rw [h1];refine .lJ false true n 1 _ _ c (λk _=>L.iQ id k) h3 (by unfold maxLen at h4;omega) (λh=>by cases h) (λk j hk hj=>⟨(h8 k hk).1.head.2.1,λ_=>(h8 k hk).1.head.2.2⟩) (λh=>by cases h)
      (λk j hk hj=>⟨b,ofs,rfl,λh=>h,(r.hw id b<|(h9 b).2<|.inl rfl).2,?_⟩) (λk j hk hj=>(h8 k hk).1.nN (λx hx=>(r.hw id x<|(h9 x).2<|.inr ⟨k,hk,hx⟩).2) (h8 k hk).2)
     rw[cE];obtain rfl:j=0:= aC ;simp only[World.cell?,h2];simpa using h6 k hk aH 
  .cases kE
 |iQ id k=>cases kE
 |oI=>simp[PV.ext]at h
 |rB=>simp[PV.ext]at h
def PV.P3{v:Value}(hv:kZ (bad B L) (jt L) L w p v):iO (λ_=>False) (λ_=>False) w e v:=by
 by_cases kE:p.vX σ=false
 .exact (PV.IP r h kE hv).nS (λ_ h=>h.elim) λ_ h=>h
 .cases p with
  |own id=>
   obtain⟨_,rfl⟩:=hv;simp only[PV.ext]at h;split at h
   .rename_i nl T n sz el iZ;simp only[bG,bS]at h;obtain⟨rfl,_⟩:=h;obtain⟨f,h1,h2,h3⟩:=r.hb id _ iZ;exact h1.abE (λx hx=>(r.hw id x<|(h2 x).2 hx).2) h3
   .rename_i nl T1 T0 n sz len el iZ;exact absurd (by simp only[PV.vX,iZ]) kE
   .cases h
  |iQ id k=>
   obtain⟨_,rfl⟩:=hv;simp only[PV.ext]at h;split at h
   .rename_i nl T1 T0 n sz len el iZ;split at h
    .rename_i hk;simp only[bG,bS]at h;obtain⟨rfl,_⟩:=h;exact r.YH iZ<|by simpa[fK]using hk
    .cases h
   .cases h
  |rq f cap=>
   simp only[PV.ext]at h;split at h
   .rename_i xs js h1;simp only[bG,bS]at h;obtain⟨rfl,_⟩:=h;obtain⟨vs,rfl,k2,k3⟩:=hv;have:=Wr r h1 k2 k3;exact .fn f xs vs this.len this.kJ
   .cases h
  |e x=>exact absurd rfl kE
  |box id off=>exact absurd rfl kE
  |oI id sz i j=>exact absurd rfl kE
  |rB id sz k i j=>exact absurd rfl kE
end
section
variable(r:jh w0 B σ a w L){l:List Operand}{es:List E}{is:List Nat}(h:uU σ l=some (es,is))
def Ug:ku (λ_=>False) (λ_=>False) w es<|l.map a.eval:=by
 induction l generalizing es is with
 |nil=>simp only[uU,bG,bS]at h;obtain⟨rfl,_⟩:=h;exact .nil _ _ _
 |cons x l ih=>
  simp only[uU]at h;split at h
  .rename_i y i xs js h1 h2;simp only[bG,bS]at h;obtain⟨rfl,_⟩:=h;exact .cons (PV.P3 r h1<|r.op x)<|ih h2
  .cases h
def K9(kE:(l.map σ.op).any (PV.vX σ)=false):ku (bad B L) (λ_=>False) w es<|l.map a.eval:=by
 induction l generalizing es is with
 |nil=>simp only[uU,bG,bS]at h;obtain⟨rfl,_⟩:=h;exact .nil _ _ _
 |cons x l ih=>
  simp only[uU]at h;split at h
  .rename_i y i xs js h1 h2;simp only[bG,bS]at h;obtain⟨rfl,_⟩:=h;simp only[eU,en,eo]at kE;exact .cons (PV.IP r h1 kE.1<|r.op x)<|ih h2 kE.2
  .cases h
end
def Hy(P:Program)(K:World->Prop)(w0:mQ)(B:Nat->Prop)(σ:PS)(o:Oper)(a:Act)(w:World)(u:kN):Prop:=
 ∀ (Kc:Act->World->Prop) (Q:Exit->Act->World->Prop),(∀ v w' L',jh w0 B (σ.oz u.f) a w' L'->kZ (bad B L') (jt L') L' w' u.r v->Kc (a.put o.dst v) w')->o.wp P a w Kc Q
def kg.pO(h:kg P K w0 B σ o a w u):Hy P K w0 B σ o a w u:=by
 intro Kc Q hk;obtain⟨v,w',L',kr,hr,hp⟩:=h;unfold Oper.wp;rcases kr with kr|⟨kr,rfl⟩
 .rw [kr];exact hk v w' L' hr hp
 .rw [kr];exact hk _ w' L' hr hp
section
variable(g:Gd P K w0 B)(r:jh w0 B σ a w L){c:Call}{f:Operand}(iK:o.op = .call c)(hf:c.callee = .value f)
def VX{gf:FuncId}{xs ys:List E}{is:List Nat}{us:List Value}
 {ow:Bool} (tK:a.eval f = .func (.func gf) #[] us.toArray) (Rj:ku (λ_=>False) (λ_=>False) w xs<|c.args.toList.map a.eval) (qF:ow=false->ku (bad B L) (λ_=>False) w xs (c.args.toList.map a.eval)) (Rh:ku (λ_=>False) (λ_=>False) w ys us) (yd:ow=false->ku (bad B L) (λ_=>False) w ys us)
 (h:CM P K O σ o.dst gf (xs++ys) is ow=some u) (ho:∀ q,q ∈ u.jG->q):Hy P K w0 B σ o a w u:=by
 intro Kc Q hk;simp only[CM]at h;split at h
 .rename_i jk wZ;split at h
  .rename_i hc;cases h;have pc:PC P K gf (xs++ys) jk:=ho _ aH;have QG:=Rj.app Rh;have kr:(execOp a.eval o).run P w = .ok (.enter gf ((c.args.toList.map a.eval)++us).toArray) w:=by
    have e1:c.args.map a.eval=(c.args.toList.map a.eval).toArray:=by apply dt;simp
    have e2:#[]++(c.args.toList.map a.eval).toArray++us.toArray=((c.args.toList.map a.eval)++us).toArray:= aH ;simp only[execOp,iK,resolve,hf,tK,Deferred.ofValue,Sem.run_bind,Sem.run_pure,Result.andThen_ok,invoke,e1,e2,pc.call]
   unfold Oper.wp;rw[kr];show Calls P gf _ w _;have hK:K w:=g.k _ r.he;by_cases Eu:jk.plain 3=true
   .refine (pc.run w (λ_=>False) _ hK (λ_ h=>h.elim) QG).mono ?_;rintro e w' ⟨v,rfl,hb,hv⟩;exact hk v w' L (r.later hb)<|iO.plain (w:=w') hv 3 Eu
   .have hn:σ.nl=true/\ow=false:=by simpa[Eu]using hc
    refine(pc.run w (bad B L) _ hK (r.DT g hn.1)<|(qF hn.2).app<|yd hn.2).mono ?_;rintro e w' ⟨v,rfl,hb,hv⟩;exact hk v w' L (r.later hb)<|iO.nS (λ_ h=>h) (λ_ _=>trivial) hv
  .split at h
   .rename_i hc;cases h;have pc:KX P K gf (xs++ys) jk:=ho _ aH;have kr:(execOp a.eval o).run P w = .ok (.enter gf ((c.args.toList.map a.eval)++us).toArray) w:=by
     have e1:c.args.map a.eval=(c.args.toList.map a.eval).toArray:=by apply dt;simp
     have e2:#[]++(c.args.toList.map a.eval).toArray++us.toArray=((c.args.toList.map a.eval)++us).toArray:= aH ;simp only[execOp,iK,resolve,hf,tK,Deferred.ofValue,Sem.run_bind,Sem.run_pure,Result.andThen_ok,invoke,e1,e2,pc.call]
    unfold Oper.wp;rw[kr];show Calls P gf _ w _;have hK:K w:=g.k _ r.he;have hn:ow=false:=by simpa using hc
    refine(pc.run w (bad B L) _ hK (λb hb=>?_)<|(qF hn).app<|yd hn).mono ?_
    .rcases hb with hb|⟨id,hb⟩
     .exact bV (g.hB b hb).1.1 r.he.size
     .exact (r.hw id b hb).2
    .rintro e w' ⟨v,rfl,hb,hv⟩;exact hk v w' L (r.later hb)<|iO.nS (λ_ h=>h) (λ_ _=>trivial) hv
   .split at h
    .rename_i jQ;cases h;have pc:PC P K gf (xs++ys) jk:=ho _ aH;have vQ:OF jk:=ho _ aH;have QG:=Rj.app Rh;have kr:(execOp a.eval o).run P w = .ok (.enter gf ((c.args.toList.map a.eval)++us).toArray) w:=by
      have e1:c.args.map a.eval=(c.args.toList.map a.eval).toArray:=by apply dt;simp
      have e2:#[]++(c.args.toList.map a.eval).toArray++us.toArray=((c.args.toList.map a.eval)++us).toArray:= aH ;simp only[execOp,iK,resolve,hf,tK,Deferred.ofValue,Sem.run_bind,Sem.run_pure,Result.andThen_ok,invoke,e1,e2,pc.call]
     unfold Oper.wp;rw[kr];show Calls P gf _ w _;have hK:K w:=g.k _ r.he;refine(pc.run w (λ_=>False) _ hK (λ_ h=>h.elim) QG).mono ?_;rintro e w' ⟨v,rfl,hb,hv⟩;have r':=r.later hb;exact hk v w' L r'<|iO.nS (λ_ h=>h) (λ_ _=>trivial)<|vQ _ _ _ _ _ (λx hx=>.inr (r'.DT g jQ x hx).2) hv
    .cases h
 .split at h
  .rename_i d hd;split at h
   .rename_i nl T n sz el hnw;split at h
    .rename_i hc;cases h;simp only[bK]at hc;have pc:wD P K gf (xs++ys) nl T n sz el:=ho _ aH;have kr:(execOp a.eval o).run P w = .ok (.enter gf ((c.args.toList.map a.eval)++us).toArray) w:=by
      have e1:c.args.map a.eval=(c.args.toList.map a.eval).toArray:=by apply dt;simp
      have e2:#[]++(c.args.toList.map a.eval).toArray++us.toArray=((c.args.toList.map a.eval)++us).toArray:= aH ;simp only[execOp,iK,resolve,hf,tK,Deferred.ofValue,Sem.run_bind,Sem.run_pure,Result.andThen_ok,invoke,e1,e2,pc.call]
     unfold Oper.wp;rw[kr];show Calls P gf _ w _;have hK:K w:=g.k _ r.he;have fin:∀ (v:Value) (w':World) (gg:Nat->Nat->Value),Below w.heap.size w w'->nu w' v T n sz gg nl->(∀ x,v.ownBlock=some x->w.heap.size<=x/\x<w'.heap.size) ->
      (∀ i j,i<n->j<sz->iO (λb=>bad B L b\/v.ownBlock=some b) (λ_=>True) w' (el i j) (gg i j)/\(el i j).nr 2=true)->Kc (a.put o.dst v) w':=by
      intro v w' gg hb lW tJ At;have key:∀ (σ1:PS) (L1:Lk),jh w0 B σ1 a w L1->(∀ i x,L1.own i x->L.own i x)->σ1.bo d=none->σ1.nl=σ.nl->∃ L',jh w0 B (σ1.oz<|.new d<|.row nl T n sz el) a w' L'/\kZ (bad B L') (jt L') L' w' (.own d) v:=by
       intro σ1 L1 r1 yb kE akl;have akk:=r1.new d (.row nl T n sz el) (λx=>v.ownBlock=some x) v (λ_=>undef) w' kE tJ hb
        ⟨gg,by rw[Lk.ng];exact lW,λx=>by rw[Lk.pX,Lk.ng],λi j hi hj=>⟨?_,(At i j hi hj).2⟩⟩ (by simp[Bx.nl,hc.2])
       .exact ⟨_,akk,Lk.A6,Lk.ng.symm⟩
       .refine (At i j hi hj).1.nS (λb h=>?_) λ_ _=>trivial;rcases h with h|⟨id,h⟩
        .exact .inl<|.inl h
        .by_cases e:id=d
         .subst e;exact .inr<|(Lk.pX b).1 h
         .exact .inl<|.inr ⟨id,yb _ _<|(Lk.zS e b).1 h⟩
      cases iZ:σ.bo d with
      |none=>
       obtain⟨L',k1,k2⟩:=key σ L r (λ_ _ h=>h) iZ rfl;exact hk v w' L' (by simpa only[ub,iZ]using k1) k2
      |some b=>
       obtain⟨L1,r1,yb,kE⟩:=r.PG d;obtain⟨L',k1,k2⟩:=key _ L1 r1 yb kE rfl;rw[PN]at k1;exact hk v w' L' (by simpa only[ub,iZ]using k1) k2
     cases pF:ow with
     |false=>
      refine(pc.run w (bad B L) _ hK (r.DT g hc.1)<|(qF pF).app<|yd pF).mono ?_;rintro e w' ⟨v,rfl,hb,gg,lW,tJ,At⟩;exact fin v w' gg hb lW tJ At
     |true=>
      have vQ:TP n sz el:=ho _ (by simp[pF]);refine(pc.run w (λ_=>False) _ hK (λ_ h=>h.elim)<|Rj.app Rh).mono ?_;rintro e w' ⟨v,rfl,hb,gg,lW,tJ,At⟩;have r':=r.later hb;refine fin v w' gg hb lW tJ λi j hi hj=>⟨vQ i j hi hj _ _ _ _ _ (λx hx=>?_) (At i j hi hj).1,(At i j hi hj).2⟩
      rcases hx with hx|hx
      .exact .inr (r'.DT g hc.1 x hx).2
      .exact .inl<|.inr hx
    .cases h
   .rename_i nl T1 T0 n sz len el hnw;split at h
    .rename_i hc;cases h;simp only[bK,du]at hc;have pc:yJ P K gf (xs++ys) nl T1 T0 n sz len el:=ho _ aH;have kr:(execOp a.eval o).run P w = .ok (.enter gf ((c.args.toList.map a.eval)++us).toArray) w:=by
      have e1:c.args.map a.eval=(c.args.toList.map a.eval).toArray:=by apply dt;simp
      have e2:#[]++(c.args.toList.map a.eval).toArray++us.toArray=((c.args.toList.map a.eval)++us).toArray:= aH ;simp only[execOp,iK,resolve,hf,tK,Deferred.ofValue,Sem.run_bind,Sem.run_pure,Result.andThen_ok,invoke,e1,e2,pc.call]
     unfold Oper.wp;rw[kr];show Calls P gf _ w _;have hK:K w:=g.k _ r.he;refine(pc.run w (bad B L) _ hK (r.DT g hc.1.1)<|(qF hc.2).app<|yd hc.2).mono ?_;rintro e w' ⟨Lr,rfl,hb,tJ,Jg⟩;have key:∀ (σ1:PS) (L1:Lk),jh w0 B σ1 a w L1->(∀ i x,L1.own i x->L.own i x)->σ1.bo d=none->σ1.nl=σ.nl->∃ L',jh w0 B (σ1.oz<|.new d<|.iM nl T1 T0 n sz len el none) a w' L'/\kZ (bad B L') (jt L') L' w' (.own d) (Lr.val 0):=by
      intro σ1 L1 r1 yb kE akl;refine⟨_,r1.new d (.iM nl T1 T0 n sz len el none) (Lr.own 0) (Lr.val 0) (Lr.iQ 0) w' kE tJ hb ?_ (by simp[Bx.nl,hc.1.2]),Lk.A6,Lk.ng.symm⟩;rcases Jg with⟨h1,h2,h3⟩|⟨b,ofs,c,cur,f,h1,h2,h3,h4,h5,h6,h7,h8,h9,nU,nV⟩
      .exact .inl ⟨by rw[Lk.ng];exact h1,h2,λx hx=>h3 x<|(Lk.pX x).1 hx⟩
      .refine .inr ⟨b,ofs,c,cur,f,by rw[Lk.ng];exact h1,h2,h3,h4,h5,by simp only[Lk.ot];exact h6,h7,λk hk=>?_,λx=>by rw[Lk.pX];simp only[Lk.ot];exact h9 x,by simp only[Lk.ot];exact nU,by simp only[Lk.ot];exact nV⟩;rw[Lk.ot];obtain⟨p1,p2⟩:=h8 k hk;refine⟨p1,λi j hi hj=>⟨(p2 i j hi hj).1.nS (λb h=>?_) λ_ _=>trivial,(p2 i j hi hj).2⟩⟩;rcases h with h|⟨id,h⟩
       .exact .inl<|.inl h
       .by_cases e:id=d
        .subst e;exact .inr<|(Lk.pX b).1 h
        .exact .inl<|.inr ⟨id,yb _ _<|(Lk.zS e b).1 h⟩
     cases iZ:σ.bo d with
     |none=>
      obtain⟨L',k1,k2⟩:=key σ L r (λ_ _ h=>h) iZ rfl;exact hk _ w' L' (by simpa only[ub,iZ]using k1) k2
     |some b=>
      obtain⟨L1,r1,yb,kE⟩:=r.PG d;obtain⟨L',k1,k2⟩:=key _ L1 r1 yb kE rfl;rw[PN]at k1;exact hk _ w' L' (by simpa only[ub,iZ]using k1) k2
    .cases h
   .cases h
  .cases h
def ahe{l':List E}{jk:E}
 (h:CN P K σ (σ.op f) c.args.toList l' jk=some u) (ho:∀ q,q ∈ u.jG->q):Hy P K w0 B σ o a w u:=by
 intro Kc Q hk;have tK:=r.op f;unfold CN at h;split at h
 .rename_i gf x xs BJ Xy;rw[BJ]at tK;obtain⟨us,e1,yd⟩:=iO.Qb tK;obtain rfl:us=[]:=yd.sK;have hx:=r.op x;split at h
  .rename_i id nF;rw[nF]at hx;split at h
   .rename_i T l es is iZ vg;split at h
    .rename_i hc;cases h;simp only[bK,du]at hc;have pc:wC P K gf T l l' es jk:=ho _ aH;obtain⟨k1,b,k2,k3⟩:=hx;obtain⟨b',cs,h1,h2,h3,h4,h5⟩:=r.hb id _ iZ;rw[k2]at h1;cases h1;have kr:(execOp a.eval o).run P w = .ok (.enter gf (.pointer (some ⟨b,0,none⟩)::(xs.map a.eval)).toArray) w:=by
      have e3:c.args.map a.eval=((c.args.toList.map a.eval)).toArray:=by apply dt;simp
      have e2:#[]++(c.args.toList.map a.eval).toArray++([]:List Value).toArray=(.pointer (some ⟨b,0,none⟩)::(xs.map a.eval)).toArray:=by rw[Xy];simp[k3]
      simp only[execOp,iK,resolve,hf,e1,Deferred.ofValue,Sem.run_bind,Sem.run_pure,Result.andThen_ok,invoke,e3,e2,pc.call]
     unfold Oper.wp;rw[kr];show Calls P gf _ w _;have qg:L.own id b:=(h2 b).2 rfl;refine(pc.run w (bad B L) b cs (xs.map a.eval) (λw2 hm=>g.k _<|r.he.trans ⟨hm.os,hm.tape,hm.output,hm.size,λx hx=>hm.oE x (bV hx.1 r.he.size) λe=>(r.hw id b qg).1<|e▸hx⟩) (r.DT g hc.1.1) (.inr ⟨id,qg⟩) h3 h5 (h4.mono λ_ _=>iO.nS (λ_ h=>h) λ_ h=>h.elim)<|K9 r vg hc.2).mono ?_;rintro e w' ⟨v,cs',rfl,hm,Gb,xU,qA,wZ⟩;have ht:ql L w id (L.own id) w':=⟨λy hy=>⟨.inl hy,bV (r.hw id y hy).2 hm.size⟩,hm.size,λy hy kE=>hm.oE y hy λe=>kE<|by rw[e];exact qg,hm.os,hm.tape,hm.output⟩
     have pQ:∀ x,bad B (L.set id (L.own id) (L.val id)<|L.iQ id) x->bad B L x:=by
      rintro x (h|⟨i,h⟩)
      .exact .inl h
      .by_cases e:i=id
       .subst e;exact .inr ⟨i,(Lk.pX x).1 h⟩
       .exact .inr ⟨i,(Lk.zS e x).1 h⟩
     exact hk v w' _ (r.pC id _ w' k1 ht ⟨b,cs',by rw[Lk.ng];exact k2,λx=>by rw[Lk.pX];exact h2 x,Gb,qA.mono λ_ _=>iO.nS pQ λ_ _=>trivial,xU⟩ λ_=>hc.1.2)<|iO.nS pQ (λ_ _=>trivial) wZ
    .cases h
   .rename_i T b l es is iZ vg;split at h
    .rename_i hc;cases h;simp only[bK,du]at hc;have pc:wC P K gf T l l' es jk:=ho _ aH;obtain⟨k1,b1,k2,k3⟩:=hx;obtain⟨cs,h1,h2,h3,h4,h5⟩:=r.hb id _ iZ;rw[k2]at h1;cases h1;have kr:(execOp a.eval o).run P w = .ok (.enter gf (.pointer (some ⟨b,0,none⟩)::(xs.map a.eval)).toArray) w:=by
      have e3:c.args.map a.eval=((c.args.toList.map a.eval)).toArray:=by apply dt;simp
      have e2:#[]++(c.args.toList.map a.eval).toArray++([]:List Value).toArray=(.pointer (some ⟨b,0,none⟩)::(xs.map a.eval)).toArray:=by rw[Xy];simp[k3]
      simp only[execOp,iK,resolve,hf,e1,Deferred.ofValue,Sem.run_bind,Sem.run_pure,Result.andThen_ok,invoke,e3,e2,pc.call]
     unfold Oper.wp;rw[kr];show Calls P gf _ w _;have qg:L.own id b:=(h2 b).2 rfl;refine(pc.run w (bad B L) b cs (xs.map a.eval) (λw2 hm=>g.k _<|r.he.trans ⟨hm.os,hm.tape,hm.output,hm.size,λx hx=>hm.oE x (bV hx.1 r.he.size) λe=>(r.hw id b qg).1<|e▸hx⟩) (r.DT g hc.1.1) (.inr ⟨id,qg⟩) h3 h5 (h4.mono λ_ _=>iO.nS (λ_ h=>h) λ_ h=>h.elim)<|K9 r vg hc.2).mono ?_;rintro e w' ⟨v,cs',rfl,hm,Gb,xU,qA,wZ⟩;have ht:ql L w id (L.own id) w':=⟨λy hy=>⟨.inl hy,bV (r.hw id y hy).2 hm.size⟩,hm.size,λy hy kE=>hm.oE y hy λe=>kE<|by rw[e];exact qg,hm.os,hm.tape,hm.output⟩
     have pQ:∀ x,bad B (L.set id (L.own id) (L.val id)<|L.iQ id) x->bad B L x:=by
      rintro x (h|⟨i,h⟩)
      .exact .inl h
      .by_cases e:i=id
       .subst e;exact .inr ⟨i,(Lk.pX x).1 h⟩
       .exact .inr ⟨i,(Lk.zS e x).1 h⟩
     exact hk v w' _ (r.pC id _ w' k1 ht ⟨cs',by rw[Lk.ng];exact k2,λx=>by rw[Lk.pX];exact h2 x,Gb,qA.mono λ_ _=>iO.nS pQ λ_ _=>trivial,xU⟩ λ_=>hc.1.2)<|iO.nS pQ (λ_ _=>trivial) wZ
    .cases h
   .cases h
  .cases h
 .cases h
end
section
variable(hT:mh P T)(g:Gd P K w0 B)(r:jh w0 B σ a w L)
def PR(h:jR P K T O σ o=some u)(ho:∀ q,q ∈ u.jG->q):Hy P K w0 B σ o a w u:=by
 cases iK:o.op with
 |move x=>exact(ajw (P:=P) (K:=K) iK r h).pO
 |assign x=>exact(ajc (P:=P) (K:=K) iK r h).pO
 |pick c x y=>exact(ajy (P:=P) (K:=K) iK r h).pO
 |alloc t=>exact(aja hT iK r h).pO
 |box t x=>exact(aje (P:=P) (K:=K) iK r h).pO
 |build t ps=>exact(ajf hT iK r h).pO
 |buildSlice t n ps=>exact(ajg hT (λb hb=>(g.hB b hb).1) iK r h).pO
 |load t x=>exact(ajp hT iK r h ho).pO
 |store t x y=>exact(ajB hT iK r h ho).pO
 |nilCheck x=>exact(ajx (P:=P) (K:=K) iK r h).pO
 |binOp op t x y yt=>exact(ajd hT iK r h ho).pO
 |unOp op t x=>exact(ajC (P:=P) (K:=K) iK r h ho).pO
 |convert s d x=>exact(ajh hT iK r h).pO
 |makeFunc fn first cap=>exact(ajr (P:=P) (K:=K) iK r h).pO
 |makeSlice t l c=>exact(ajs hT iK r h ho).pO
 |slice t x lo hi mx=>
  cases mx with
  |none=>exact(ajz hT iK r h ho).pO
  |some=>simp[jR,iK]at h
 |fieldAddr t x f=>exact(ajk hT iK r h).pO
 |indexAddr t x i=>exact(ajm hT iK r h ho).pO
 |index t x i=>exact(ajl hT iK r h ho).pO
 |field t x f=>exact(ajj hT iK r h).pO
 |lookup t x i ok=>exact(ajq hT iK r h ho).pO
 |extract x i=>exact(aji (P:=P) (K:=K) iK r h).pO
 |call c=>
  obtain⟨callee,args,ats⟩:=c;cases callee with
  |builtin b=>
   simp only[jR,iK]at h;cases b
   case len=>
    dsimp only at h;split at h
    .rename_i x t hx ht;have ha:args = #[x]:=by apply dt;simpa using hx
     have Jm:ats = #[t]:=by apply dt;simpa using ht
     split at h
     .rename_i e hd;obtain⟨rr,hr,rfl⟩:=cg.1 h;exact(ajo hT (by rw[ha,Jm]) iK hd r hr rfl).pO
     .cases h
    .cases h
   case append=>
    dsimp only at h;split at h
    .rename_i s x t t' hx ht;have ha:args = #[s,x]:=by apply dt;simpa using hx
     have Jm:ats = #[t,t']:=by apply dt;simpa using ht
     split at h
     .rename_i re;have re:=kQ.1 re;subst re;split at h
      .rename_i q hq;exact(ajn hT (by rw[ha,Jm]) iK r hq h ho).pO
      split at h
      .exact (ajb hT (λb hb=>(g.hB b hb).1) (by rw[ha,Jm]) iK r h ho).pO
      .exact (W6 hT (by rw[ha,Jm]) iK r h ho).pO
     .cases h
    .cases h
   case max=>
    dsimp only at h;split at h
    .rename_i k p k' q hx;rcases args with⟨l⟩
     rcases l with _|⟨x,_|⟨y,_|⟨z,l⟩⟩⟩<;>simp at hx
     cases h;exact(ajt (P:=P) (K:=K) ⟨rfl,rfl⟩ iK r hx.1 hx.2 rfl).pO
    .rename_i k p k' q k'' s hx;rcases args with⟨l⟩
     rcases l with _|⟨x,_|⟨y,_|⟨z,_|⟨z',l⟩⟩⟩⟩<;>simp at hx
     cases h;exact(aju (P:=P) (K:=K) ⟨rfl,rfl⟩ iK r hx.1 hx.2.1 hx.2.2 rfl).pO
    .cases h
   case min=>
    dsimp only at h;split at h
    .rename_i k p k' q hx;rcases args with⟨l⟩
     rcases l with _|⟨x,_|⟨y,_|⟨z,l⟩⟩⟩<;>simp at hx
     cases h;exact(ajv (P:=P) (K:=K) ⟨rfl,rfl⟩ iK r hx.1 hx.2 rfl).pO
    .cases h
   all_goals cases h
  |value f=>
   simp only[jR,iK]at h;have tK:=r.op f;split at h
   .exact ahe g r iK rfl h ho
   split at h
   .rename_i gf cap xs is BJ qF;rw[BJ]at tK;obtain⟨us,e1,yd⟩:=iO.Qb tK;exact VX g r iK rfl e1 (Ug r qF) (λkE=>K9 r qF kE) (yd.mono λ_ _=>iO.nS (λ_ h=>h.elim) λ_ h=>h.elim) (λ_=>yd.mono λ_ _=>iO.nS (λ_ h=>h) λ_ h=>h.elim) h ho
   .rename_i gf cap xs is BJ qF;rw[BJ]at tK;obtain⟨us,e1,k2,k3⟩:=tK;split at h
    .rename_i ys js EF;exact VX g r iK rfl e1 (Ug r qF) (λkE=>K9 r qF (eo.1 kE).1) (Wr r EF k2 k3) (λkE=>Wq r EF (eo.1 kE).2 k2 k3) h ho
    .cases h
   .cases h
  |invoke _ _=>simp[jR,iK]at h
 |_=>simp[jR,iK]at h
def ahY(h:wN P K T O σ o=some u)(ho:∀ q,q ∈ u.jG->q):Hy P K w0 B σ o a w u:=by
 unfold wN at h;split at h
 .rename_i u0 h0;split at h
  .split at h
   .rename_i p hp;cases h;have he:PV.le u0.r p:=ho _ aH;have:=PR hT g r h0 (λq hq=>ho q<|by simp[hq]);intro Kc Q hk;exact this Kc Q λv w' L' hr hv=>hk v w' L' hr<|he _ _ _ _ _ hv
   .cases h;exact PR hT g r h0 ho
  .cases h;exact PR hT g r h0 ho
 .cases h
end
end
section
variable {P:Program} {K:World->Prop} {T:List TI} {O:qY} {σ τ:PS} {o:Oper} {u:kN}
def anX{x:Operand}(h:∀ t,x = .tmp t->σ.get t=τ.get t):τ.op x=σ.op x:=by
 cases x with
 |tmp t=>exact(h t rfl).symm
 |_=>rfl
def aoW{id off m:Nat}{l:List E}{is:List Nat}{jG:List Prop}(h:σ.read (.box id off) m=some (l,is,jG)):is=[id]:=by
 simp only[PS.read]at h;split at h
 .split at h
  .simp only[bG,bS]at h;exact h.2.1.symm
  .cases h
 .split at h
  .obtain ⟨es,vg,h⟩:=cg.1 h;simp only[bS]at h;exact h.2.1.symm
  .cases h
 .split at h
  .simp only[bG,bS]at h;exact h.2.1.symm
  .cases h
 .cases h
def amp{ti:TI}{l:List E}{is:List Nat}{jG:List Prop}(h:Dh ti (some (l,is,jG))=some u):u.rb=is:=by
 simp only[Dh]at h;split at h
 .cases h;rfl
 .split at h
  .cases h;rfl
  .cases h
def ahR{ti:TI}{bi bq:Option Bx}{id off q:Nat}(h:FW ti bi bq id off q=some u):u.rb=[id,q]:=by
 unfold FW at h;split at h
 .rename_i hM;cases h;unfold LZ at hM;split at hM
  .split at hM
   .cases hM;rfl
   .cases hM
  .cases hM
 .unfold LY at h;split at h
  .split at h
   .cases h;rfl
   .cases h
  .cases h
def aoX{p:PV}{m:Nat}{l:List E}{is:List Nat}{jG:List Prop}(h:σ.read p m=some (l,is,jG))(hb:∀ id,id ∈ is->σ.bo id=τ.bo id):τ.read p m=some (l,is,jG):=by
 cases p with
 |box id off=>
  have h0:=h;simp only[PS.read]at h;split at h
  .split at h
   .simp only[bG,bS]at h;obtain⟨_,rfl,_⟩:=h;simp only[PS.read,<-hb id aH];exact h0
   .cases h
  .split at h
   .obtain ⟨es,vg,h⟩:=cg.1 h;simp only[bS]at h;obtain⟨_,rfl,_⟩:=h;simp only[PS.read,<-hb id aH];exact h0
   .cases h
  .split at h
   .simp only[bG,bS]at h;obtain⟨_,rfl,_⟩:=h;simp only[PS.read,<-hb id aH];exact h0
   .cases h
  .cases h
 |oI id sz i j=>
  have h0:=h;simp only[PS.read]at h;split at h
  .split at h
   .simp only[bG,bS]at h;obtain⟨_,rfl,_⟩:=h;simp only[PS.read,<-hb id aH];exact h0
   .cases h
  .cases h
 |rB id sz k i j=>
  have h0:=h;simp only[PS.read]at h;split at h
  .split at h
   .simp only[bG,bS]at h;obtain⟨_,rfl,_⟩:=h;simp only[PS.read,<-hb id aH];exact h0
   .cases h
  .cases h
 |e x=>cases x<;>exact h
 |_=>exact h
def agf{c:CV}{e:E}{is:List Nat}(h:c.ext σ=some (e,is))(hb:∀ id,id ∈ is->σ.bo id=τ.bo id):c.ext τ=some (e,is):=by
 cases c with
 |e x=>exact h
 |box id=>
  have h0:=h;simp only[CV.ext]at h;split at h
  .simp only[bG,bS]at h;obtain⟨_,rfl⟩:=h;simp only[CV.ext,<-hb id aH];exact h0
  .cases h
 |row id=>
  have h0:=h;simp only[CV.ext]at h;split at h
  .split at h
   .simp only[bG,bS]at h;obtain⟨_,rfl⟩:=h;simp only[CV.ext,<-hb id aH];exact h0
   .cases h
  .cases h
def Wp{l:List CV}{es:List E}{is:List Nat}(h:wP σ l=some (es,is))(hb:∀ id,id ∈ is->σ.bo id=τ.bo id):wP τ l=some (es,is):=by
 induction l generalizing es is with
 |nil=>exact h
 |cons c l ih=>
  simp only[wP]at h;split at h
  .rename_i x i xs js h1 h2;simp only[bG,bS]at h;obtain⟨rfl,rfl⟩:=h;simp only[wP,agf h1 λid hi=>hb id<|by simp[hi],ih h2 λid hi=>hb id<|by simp[hi]]
  .cases h
def aop{p:PV}{e:E}{is:List Nat}(h:p.ext σ=some (e,is))(hb:∀ id,id ∈ is->σ.bo id=τ.bo id):p.ext τ=some (e,is):=by
 cases p with
 |e x=>exact h
 |box id off=>
  cases off with
  |succ=>exact h
  |zero=>
   have h0:=h;simp only[PV.ext]at h;split at h
   .simp only[bG,bS]at h;obtain⟨_,rfl⟩:=h;simp only[PV.ext,<-hb id aH];exact h0
   .cases h
 |rq f cap=>
  simp only[PV.ext]at h;split at h
  .rename_i xs js h1;simp only[bG,bS]at h;obtain⟨rfl,rfl⟩:=h;simp only[PV.ext,Wp h1 hb]
  .cases h
 |own id=>
  have h0:=h;simp only[PV.ext]at h;split at h
  .simp only[bG,bS]at h;obtain⟨_,rfl⟩:=h;simp only[PV.ext,<-hb id aH];exact h0
  .simp only[bG,bS]at h;obtain⟨_,rfl⟩:=h;simp only[PV.ext,<-hb id aH];exact h0
  .cases h
 |iQ id k=>
  have h0:=h;simp only[PV.ext]at h;split at h
  .split at h
   .simp only[bG,bS]at h;obtain⟨_,rfl⟩:=h;simp only[PV.ext,<-hb id aH];exact h0
   .cases h
  .cases h
 |_=>exact h
def K8{l:List Operand}{es:List E}{is:List Nat}(h:uU σ l=some (es,is))(hg:∀ x,x ∈ l->τ.op x=σ.op x)(hb:∀ id,id ∈ is->σ.bo id=τ.bo id):uU τ l=some (es,is):=by
 induction l generalizing es is with
 |nil=>exact h
 |cons c l ih=>
  simp only[uU]at h;split at h
  .rename_i x i xs js h1 h2;simp only[bG,bS]at h;obtain⟨rfl,rfl⟩:=h;simp only[uU,hg c aH,aop h1 λid hi=>hb id<|by simp[hi],ih h2 (λx hx=>hg x<|by simp[hx]) λid hi=>hb id<|by simp[hi]]
  .cases h
def akV{p:PV}{e:E}{is:List Nat}(h:p.ext σ=some (e,is))(hb:∀ id,id ∈ is->σ.bo id=τ.bo id):p.vX τ=p.vX σ:=by
 cases p with
 |own id=>
  have hid:σ.bo id=τ.bo id:=by
   simp only[PV.ext]at h;split at h
   .simp only[bG,bS]at h;obtain⟨_,rfl⟩:=h;exact hb id aH 
   .simp only[bG,bS]at h;obtain⟨_,rfl⟩:=h;exact hb id aH 
   .cases h
  simp only[PV.vX,hid]
 |_=>rfl
def K6{l:List Operand}{es:List E}{is:List Nat}(h:uU σ l=some (es,is))(hg:∀ x,x ∈ l->τ.op x=σ.op x)(hb:∀ id,id ∈ is->σ.bo id=τ.bo id):(l.map τ.op).any (PV.vX τ)=(l.map σ.op).any (PV.vX σ):=by
 induction l generalizing es is with
 |nil=>rfl
 |cons c l ih=>
  simp only[uU]at h;split at h
  .rename_i x i xs js h1 h2;simp only[bG,bS]at h;obtain⟨rfl,rfl⟩:=h;simp only[eU,en,hg c aH,akV h1 λid hi=>hb id<|by simp[hi],ih h2 (λx hx=>hg x<|by simp[hx]) λid hi=>hb id<|by simp[hi]]
  .cases h
def WA{place:Nat->Option (Nat×Nat)}{ps:List<|Nat×Operand}(hg:∀ x,x ∈ ps.map (·.2)->τ.op x=σ.op x):∀ l,tI τ place l ps=tI σ place l ps:=by
 induction ps with
 |nil=>intro l;rfl
 |cons p ps ih=>
  intro l;obtain⟨i,x⟩:=p;simp only[tI,hg x aH,ih λx hx=>hg x<|by simp only[eU,dw];exact .inr hx]
def RV{d:Option Tmp}{b:Bx}{rr:Nat->PV}{jG:List Prop}(h:B7 σ d b rr jG=some u)(jQ:σ.nl=τ.nl)(hn:∀ id b,u.f = .new id b->τ.bo id=none):B7 τ d b rr jG=some u:=by
 obtain⟨id,rfl,kE,hc,rfl⟩:=JT h;rw[jQ]at hc;simp only[B7,hn id b rfl,hc,bH]
def R9{d:Nat}{b:Bx}(h:σ.bo d=τ.bo d):ub τ d b=ub σ d b:=by unfold ub;rw[h]
def Sa{d:Nat}{is:List Nat}(h:σ.bo d=τ.bo d):zB τ d is=zB σ d is:=by unfold zB;rw[h]
def Sb{d:Nat}{b:Bx}{is:List Nat}{u:kN}(hf:u.f=ub σ d b)(hr:u.rb=zB σ d is)(hb:∀ id,id ∈ u.rb->σ.bo id=τ.bo id)(hn:∀ id b,u.f = .new id b->τ.bo id=none):σ.bo d=τ.bo d:=by
 cases iZ:σ.bo d with
 |none=>exact(hn d b<|by rw[hf,ub,iZ]).symm
 |some x=>rw[<-iZ];exact hb d<|by rw[hr,zB,iZ];simp
def aab{d:Option Tmp}{b:Bx}{rr:Nat->PV}(h:Dk σ d b rr=some u)(hb:∀ id,id ∈ u.rb->σ.bo id=τ.bo id)(jQ:σ.nl=τ.nl)(hn:∀ id b,u.f = .new id b->τ.bo id=none):Dk τ d b rr=some u:=by
 obtain⟨id,rfl,hc,rfl⟩:=MZ h;have e:σ.bo id=τ.bo id:=Sb (b:=b) (is:=[]) rfl rfl hb hn;rw[jQ]at hc;simp only[Dk,hc,bH,R9 e,Sa e]
section
variable{d:Option Tmp}{t:TypeId}
def Wj{s x:PV}{u:kN}(h:CL T σ d t s x=some u)(hb:∀ id,id ∈ u.rb->σ.bo id=τ.bo id)(jQ:σ.nl=τ.nl)(hn:∀ id b,u.f = .new id b->τ.bo id=none):CL T τ d t s x=some u:=by
 simp only[CL]at h ⊢;split at h
 .split at h
  .split at h
   .split at h
    .split at h
     .split at h
      .rename_i hc;simp only[hc,bH];split at h
       .rename_i id;split at h
        .rename_i iZ;split at h
         .rename_i pE;cases h;simp only[<-hb id aH,<-jQ,iZ,pE,bH]
         .cases h
        .cases h
       .rename_i id k;split at h
        .rename_i iZ;split at h
         .rename_i pE;cases h;simp only[<-hb id aH,iZ,pE,bH]
         .cases h
        .cases h
       .exact RV h jQ hn
       .cases h
      .cases h
     .cases h
    .cases h
   .cases h
  .cases h
 .cases h
def ahK{s x:PV}{u:kN}(h:D5 T σ d t s x=some u)(hb:∀ id,id ∈ u.rb->σ.bo id=τ.bo id)(jQ:σ.nl=τ.nl):D5 T τ d t s x=some u:=by
 unfold D5 at h ⊢;split at h
 .rename_i u0 h0;split at h
  .rename_i id nl T1 n sz el id' hf hr;split at h
   .rename_i hid;cases h;have:=Wj (σ:={ σ with nl:=false }) (τ:={ τ with nl:=false }) h0 hb rfl λi b e=>by rw[hf]at e;cases e
    rw[this];simp only[hf,hr,hid,bH]
   .cases h
  .cases h
 .cases h
def ahS{n q:Nat}{u:kN}(h:D8 T σ d t n q=some u)(hb:∀ id,id ∈ u.rb->σ.bo id=τ.bo id):D8 T τ d t n q=some u:=by
 unfold D8 at h ⊢;split at h
 .rename_i id;have h0:=h;split at h
  .rename_i h1 h2 h3;split at h
   .rename_i hc;cases h;simp only[<-hb id aH,<-hb q aH];exact h0
   .cases h
  .cases h
 .cases h
def ahO{s:PV}{q:Nat}{u:kN}(h:D6 T σ d t s q=some u)(hb:∀ id,id ∈ u.rb->σ.bo id=τ.bo id):D6 T τ d t s q=some u:=by
 unfold D6 at h ⊢;have h0:=h;split at h
 .rename_i h1 h2;split at h
  .rename_i id;split at h
   .rename_i h3;split at h
    .rename_i hc;cases h;simp only[<-hb id aH,<-hb q aH];exact h0
    .cases h
   .cases h
  .rename_i id;split at h
   .rename_i h3;split at h
    .rename_i hc;cases h;simp only[<-hb id aH,<-hb q aH];exact h0
    .cases h
   .cases h
  .cases h
 .cases h
end
def aok{ps:List<|Nat×Operand}(hg:∀ x,x ∈ ps.map (·.2)->τ.op x=σ.op x):Du τ ps=Du σ ps:=by
 unfold Du;split
 .rw [hg _ aH]
 .rfl
def ahP{t:TypeId}{id:Nat}{lo hi:Option PV}(h:D7 T σ t id lo hi=some u)(hb:∀ id,id ∈ u.rb->σ.bo id=τ.bo id):D7 T τ t id lo hi=some u:=by
 unfold D7 at h ⊢;split at h
 .split at h
  .split at h
   .split at h
    .rename_i iZ;split at h
     .split at h
      .rename_i hc;cases h;simp only[<-hb id aH,iZ,hc,bH]
      .cases h
     .cases h
    .cases h
   .cases h
  .cases h
 .cases h
def ahM{fv:PV}{xs:List Operand}{l':List E}{jk:E}(h:CN P K σ fv xs l' jk=some u)(ha:∀ x,x ∈ xs->τ.op x=σ.op x)(hb:∀ id,id ∈ u.rb->σ.bo id=τ.bo id)(jQ:σ.nl=τ.nl):CN P K τ fv xs l' jk=some u:=by
 unfold CN at h ⊢;split at h
 .rename_i g x xs;have hx:=ha x aH;rw[hx];split at h
  .rename_i id nF;split at h
   .rename_i T l es is iZ vg;split at h
    .rename_i hc;cases h;have vN:∀ y,y ∈ xs->τ.op y=σ.op y:=λy hy=>ha y (by simp[hy])
     have e1:=K8 vg vN λi hi=>hb i<|by simp[hi]
     have e2:=K6 vg vN λi hi=>hb i<|by simp[hi]
     simp only[<-hb id aH,iZ,e1,e2,<-jQ,hc,bH]
    .cases h
   .rename_i T b l es is iZ vg;split at h
    .rename_i hc;cases h;have vN:∀ y,y ∈ xs->τ.op y=σ.op y:=λy hy=>ha y (by simp[hy])
     have e1:=K8 vg vN λi hi=>hb i<|by simp[hi]
     have e2:=K6 vg vN λi hi=>hb i<|by simp[hi]
     simp only[<-hb id aH,iZ,e1,e2,<-jQ,hc,bH]
    .cases h
   .cases h
  .cases h
 .cases h
def ahT(h:jR P K T O σ o=some u)(hg:∀ x,x ∈ o.op.operands->τ.op x=σ.op x)(hb:∀ id,id ∈ u.rb->σ.bo id=τ.bo id)(jQ:σ.nl=τ.nl)(hn:∀ id b,u.f = .new id b->τ.bo id=none):
 jR P K T O τ o=some u:=by
 cases iK:o.op with
 |move x=>rw[iK]at hg;simp only[jR,iK]at h ⊢;rw[hg x aP];exact h
 |assign x=>rw[iK]at hg;simp only[jR,iK]at h ⊢;rw[hg x aP];exact h
 |pick c x y=>rw[iK]at hg;simp only[jR,iK]at h ⊢;rw[hg c aP,hg x aP,hg y aP];exact h
 |nilCheck x=>rw[iK]at hg;simp only[jR,iK]at h ⊢;rw[hg x aP];exact h
 |binOp op t x y yt=>rw[iK]at hg;simp only[jR,iK]at h ⊢;rw[hg x aP,hg y aP];exact h
 |unOp op t x=>rw[iK]at hg;simp only[jR,iK]at h ⊢;rw[hg x aP];exact h
 |convert s d x=>rw[iK]at hg;simp only[jR,iK]at h ⊢;rw[hg x aP];exact h
 |index t x i=>rw[iK]at hg;simp only[jR,iK]at h ⊢;rw[hg x aP,hg i aP];exact h
 |extract x i=>rw[iK]at hg;simp only[jR,iK]at h ⊢;rw[hg x aP];exact h
 |fieldAddr t x f=>rw[iK]at hg;simp only[jR,iK]at h ⊢;rw[hg x aP];exact h
 |field t x f=>rw[iK]at hg;simp only[jR,iK]at h ⊢;rw[hg x aP];exact h
 |lookup t x i ok=>
  rw[iK]at hg;cases ok with
  |true=>simp[jR,iK]at h
  |false=>simp only[jR,iK]at h ⊢;rw[hg x aP,hg i aP];exact h
 |makeFunc fn first cap=>
  rw[iK]at hg;cases fn with
  |func f=>
   simp only[jR,iK]at h ⊢;have:cap.toList.map τ.op=cap.toList.map σ.op:=dQ λx hx=>hg x<|by simp only[Op.operands,fM];exact .inr<|by simpa using hx
   rw[this];exact h
  |_=>simp[jR,iK]at h
 |slice t x lo hi mx=>
  rw[iK]at hg;cases mx with
  |some=>simp[jR,iK]at h
  |none=>
   simp only[jR,iK]at h ⊢;have e1:lo.map τ.op=lo.map σ.op:=by cases lo with
    |none=>rfl
    |some y=>simp only[cA];rw[hg y aP]
   have e2:hi.map τ.op=hi.map σ.op:=by cases hi with
    |none=>rfl
    |some y=>simp only[cA];rw[hg y aP]
   rw[hg x aP,e1,e2];split at h
   .exact ahP h hb
   .exact h
 |alloc t=>
  simp only[jR,iK]at h ⊢;split at h
  .split at h
   .exact aab h hb jQ hn
   .cases h
  .cases h
 |box t x=>
  rw[iK]at hg;simp only[jR,iK]at h ⊢;rw[hg x aP];split at h
  .split at h
   .exact aab h hb jQ hn
   .cases h
  .cases h
 |build t ps=>
  rw[iK]at hg;simp only[jR,iK]at h ⊢;have hf:∀ place l,tI τ place l ps.toList=tI σ place l ps.toList:=λplace=>WA λx hx=>hg x<|by simpa[Op.operands]using hx
  simp only[hf];exact h
 |buildSlice t n ps=>
  rw[iK]at hg;simp only[jR,iK]at h ⊢;have hf:∀ place l,tI τ place l ps.toList=tI σ place l ps.toList:=λplace=>WA λx hx=>hg x<|by simpa[Op.operands]using hx
  have ho:Du τ ps.toList=Du σ ps.toList:=aok λx hx=>hg x<|by simpa[Op.operands]using hx
  simp only[hf,ho];split at h
  .exact ahS h hb
  split at h
  .split at h
   .split at h
    .split at h
     .split at h
      .rename_i hif;rw[bk hif];obtain⟨l,hl,h⟩:=ib.1 h;refine ib.2 ⟨l,hl,?_⟩;split at h
       .cases h
       .rename_i h1;rw[bj h1];split at h
        .rename_i h2;rw[bk h2];exact RV h jQ hn
        .rename_i h2;rw[bj h2];exact h
      .cases h
     .cases h
    .cases h
   .cases h
  .cases h
 |load t x=>
  rw[iK]at hg;simp only[jR,iK,LS]at h ⊢;rw[hg x aP];split at h
  .rename_i ti nx;split at h
   .rename_i id q qp;have hid:σ.bo id=τ.bo id:=by
     split at h
     .cases h
     .cases h;exact hb id aH 
    have QR:Ea τ (σ.op x)=some (id,q):=by
     cases hp:σ.op x with
     |box id' off=>
      rw[hp]at qp;have h0:=qp;simp only[Ea]at qp;split at qp
      .obtain ⟨q',hq,qp⟩:=cg.1 qp;simp only[bS]at qp;obtain⟨rfl,rfl⟩:=qp;simp only[Ea,<-hid];exact h0
      .cases qp
     |_=>rw[hp]at qp;cases qp
    simp only[QR];exact h
   rename_i qp;have QR:Ea τ (σ.op x)=none:=by
    cases hp:σ.op x with
    |box id off=>
     have hid:id ∈ u.rb:=by
      rw[hp]at h;have h':Dh ti (σ.read (.box id off) ti.i.size)=some u:=h;cases hr:σ.read (.box id off) ti.i.size with
      |none=>rw[hr]at h';cases h'
      |some y=>
       obtain⟨l,is,jG⟩:=y;rw[hr]at h';rw[amp h',aoW hr];simp
     rw[hp]at qp;simp only[Ea,<-hb id hid];exact qp
    |_=>rfl
   simp only[QR];unfold LU at h ⊢;split at h
   .rename_i id i n q9;have akr:Fk τ (σ.op x)=some (id,i,n):=by
     have hid:σ.bo id=τ.bo id:=by
      split at h
      .cases h
      .cases h;exact hb id aH 
     cases hp:σ.op x with
     |oI id' sz i' j=>
      rw[hp]at q9;have h0:=q9;simp only[Fk]at q9;split at q9
      .split at q9
       .simp only[bG,bS]at q9;obtain⟨rfl,_,_⟩:=q9;simp only[Fk,<-hid];exact h0
       .cases q9
      .cases q9
     |_=>rw[hp]at q9;cases q9
    simp only[akr];exact h
   .rename_i q9;have key:∀ is,(∃ l jG,σ.read (σ.op x) ti.i.size=some (l,is,jG))->(∀ id,id ∈ is->σ.bo id=τ.bo id)->Fk τ (σ.op x)=none:=by
     rintro is ⟨l,jG,hr⟩ oe;cases hp:σ.op x with
     |oI id sz i j=>
      rw[hp]at hr q9;simp only[PS.read]at hr;split at hr
      .rename_i iZ;split at hr
       .simp only[bG,bS]at hr;obtain⟨_,rfl,_⟩:=hr;simp only[Fk,<-oe id aH,iZ]
       .cases hr
      .cases hr
     |_=>rfl
    cases hr:σ.read (σ.op x) ti.i.size with
    |none=>rw[hr]at h;cases h
    |some y=>
     obtain⟨l,is,jG⟩:=y;have Ew:u.rb=is:=by
      rw[hr]at h;simp only[Dh]at h;split at h
      .cases h;rfl
      .split at h
       .cases h;rfl
       .cases h
     have oe:∀ id,id ∈ is->σ.bo id=τ.bo id:=λid hi=>hb id<|by rw[Ew];exact hi
     rw[key is ⟨l,jG,hr⟩ oe];simp only;rw[aoX hr oe];rw[hr]at h;exact h
  .cases h
 |store t x y=>
  rw[iK]at hg;simp only[jR,iK,LX]at h ⊢;rw[hg x aP,hg y aP];split at h
  .split at h
   .rename_i id off e _ _;split at h
    .rename_i iZ hm;split at h
     .rename_i hc;cases h;rw[jQ]at hc;simp only[<-hb id aH,iZ,hm,hc,bH]
     .cases h
    .rename_i iZ hm;split at h
     .rename_i hc;cases h;simp only[<-hb id aH,iZ,hm,hc,bH]
     .cases h
    .rename_i iZ hm;split at h
     .rename_i hc;cases h;rw[jQ]at hc;simp only[<-hb id aH,iZ,hm,hc,bH]
     .cases h
    .cases h
   .rename_i id off q _ _;have e:=ahR h;rw[<-hb id (by rw[e];simp),<-hb q (by rw[e];simp)];exact h
   .rename_i id sz i j e _ _;split at h
    .rename_i iZ hm;split at h
     .rename_i hc;cases h;simp only[<-hb id aH,iZ,hm,hc,bH]
     .cases h
    .cases h
   .rename_i id i id' k _ _;split at h
    .rename_i iZ;split at h
     .rename_i hc;cases h;simp only[<-hb id aH,iZ,hc,bH]
     .cases h
    .rename_i iZ;split at h
     .rename_i hc;cases h;simp only[<-hb id aH,iZ,hc,bH]
     .cases h
    .rename_i iZ;split at h
     .rename_i hc;cases h;simp only[<-hb id aH,iZ,hc,bH]
     .cases h
    .cases h
   .rename_i id sz i j k e _ _;split at h
    .rename_i iZ hm;split at h
     .rename_i hc;cases h;simp only[<-hb id aH,iZ,hm,hc,bH]
     .cases h
    .cases h
   .cases h
  .cases h
 |makeSlice t l c=>
  rw[iK]at hg;simp only[jR,iK,LV]at h ⊢;rw[hg l aP,hg c aP];split at h
  .exact RV h jQ hn
  .cases h
 |indexAddr t x i=>
  rw[iK]at hg;simp only[jR,iK,LR]at h ⊢;rw[hg x aP,hg i aP];split at h
  .split at h
   .split at h
    .split at h
     .split at h
      .exact h
      .exact h
      .rename_i id _;split at h
       .rename_i iZ;split at h
        .rename_i hc;cases h;simp only[<-hb id aH,iZ,hc,bH]
        .cases h
       .rename_i iZ;split at h
        .rename_i hc;cases h;simp only[<-hb id aH,iZ,hc,bH]
        .cases h
       .rename_i iZ;split at h
        .rename_i hc;cases h;simp only[<-hb id aH,iZ,hc,bH]
        .cases h
       .cases h
      .rename_i id _ _;split at h
       .rename_i iZ;split at h
        .rename_i hc;cases h;simp only[<-hb id aH,iZ,hc,bH]
        .cases h
       .cases h
      .cases h
     .cases h
    .exact h
    .cases h
   .cases h
  .cases h
 |call c=>
  rw[iK]at hg;obtain⟨callee,args,ats⟩:=c;have ha:∀ x,x ∈ args.toList->τ.op x=σ.op x:=λx hx=>hg x<|by simp only[Op.operands,Call.operands,fM];exact .inr<|by simpa using hx
  have XX:args.toList.map τ.op=args.toList.map σ.op:=dQ ha;cases callee with
  |builtin b=>
   simp only[jR,iK]at h ⊢;cases b
   case len=>
    dsimp only at h ⊢;split at h
    .rename_i x t hx ht;split at h
     .obtain ⟨rr,hr,rfl⟩:=cg.1 h;rw[ha x<|by rw[hx];simp];have:uw (σ.op x) τ=some rr:=by
       cases hp:σ.op x with
       |own id=>
        rw[hp]at hr;have h0:=hr;simp only[uw]at hr;split at hr
        .simp only[bG]at hr;subst hr;simp only[uw,<-hb id aH];exact h0
        .simp only[bG]at hr;subst hr;simp only[uw,<-hb id aH];exact h0
        .cases hr
       |iQ id k=>
        rw[hp]at hr;have h0:=hr;simp only[uw]at hr;split at hr
        .split at hr
         .simp only[bG]at hr;subst hr;simp only[uw,<-hb id aH];exact h0
         .cases hr
        .cases hr
       |e y=>
        rw[hp]at hr;cases y with
        |v z=>cases z<;>exact hr
        |_=>exact hr
       |_=>rw[hp]at hr;exact hr
      rw[this];rfl
     .cases h
    .cases h
   case append=>
    dsimp only at h ⊢;split at h
    .rename_i s x t t' hx ht;split at h
     .rename_i re;simp only[re,bH];rw[ha x<|by rw[hx];simp,ha s<|by rw[hx];simp];have pR:La O o.dst=La O o.dst:=rfl;split at h
      .exact ahO h hb
      split at h
      .rename_i QF;simp only[QF,bH];exact ahK h hb jQ
      .rename_i QF;simp only[QF,bB,bJ];exact Wj h hb jQ hn
     .cases h
    .cases h
   case max=>dsimp only at h ⊢;rw[XX];exact h
   case min=>dsimp only at h ⊢;rw[XX];exact h
   all_goals cases h
  |value f=>
   have hf:τ.op f=σ.op f:=hg f (by simp[Op.operands,Call.operands]);simp only[jR,iK]at h ⊢;rw[hf];have ec:∀ {gf:FuncId} {zs:List E} {is:List Nat} {ow:Bool},CM P K O σ o.dst gf zs is ow=some u->(∀ id,id ∈ is->id ∈ u.rb)/\CM P K O τ o.dst gf zs is ow=some u:=by
    intro gf zs is ow hh;simp only[CM]at hh ⊢;rw[jQ]at hh;split at hh
    .rename_i jk wZ;refine⟨?_,hh⟩;split at hh
     .cases hh;exact λ_ h=>h
     .split at hh
      .cases hh;exact λ_ h=>h
      .split at hh
       .cases hh;exact λ_ h=>h
       .cases hh
    .split at hh
     .rename_i d hd;split at hh
      .rename_i nl T n sz el h1;split at hh
       .rename_i hc;cases hh;have e:=Sb (σ:=σ) (τ:=τ) (b:=.row nl T n sz el) (is:=is) rfl rfl hb hn;refine⟨λid hid=>?_,?_⟩
        .unfold zB;split
         .exact hid
         .simp [hid]
        .simp only[hc,bH,R9 e,Sa e]
       .cases hh
      .rename_i nl T1 T0 n sz len el h1;split at hh
       .rename_i hc;cases hh;have e:=Sb (σ:=σ) (τ:=τ) (b:=.iM nl T1 T0 n sz len el none) (is:=is) rfl rfl hb hn;refine⟨λid hid=>?_,?_⟩
        .unfold zB;split
         .exact hid
         .simp [hid]
        .simp only[hc,bH,R9 e,Sa e]
       .cases hh
      .cases hh
     .cases hh
   split at h
   .exact ahM h ha hb jQ
   split at h
   .rename_i gf cap xs is BJ qF;obtain⟨e1,e2⟩:=ec h;rw[K6 qF ha λid hi=>hb id<|e1 id hi,K8 qF ha λid hi=>hb id<|e1 id hi,BJ];exact e2
   .rename_i gf cap xs is BJ qF;split at h
    .rename_i ys js EF;obtain⟨e1,e2⟩:=ec h;rw[K6 qF ha λid hi=>hb id<|e1 id<|by simp[hi],K8 qF ha λid hi=>hb id<|e1 id<|by simp[hi],BJ];simp only;rw[Wp EF λid hi=>hb id<|e1 id<|by simp[hi]];exact e2
    .cases h
   .cases h
  |invoke _ _=>simp[jR,iK]at h
 |_=>simp[jR,iK]at h
end
def amP{l:List Operand}{t:Tmp}(h:Operand.tmp t ∈ l):t ∈ Ho l:=by
 induction l with
 |nil=>simp at h
 |cons x l ih=>
  rcases dw.1 h with h|h
  .subst h;simp[Ho]
  .have:=ih h;cases x<;>simp[Ho,this]
def ajV{l:List Nat}{n:Nat}:QI l n=true↔n ∈ l:=by
 unfold QI;rw[dE];constructor
 .rintro ⟨x,hx,hb⟩;have:=kQ.1 hb;subst this;exact hx
 .intro h;exact⟨n,h,cH n⟩
def GP{l:List Nat}{d:Option Nat}(h:zC l d=true){x:Nat}(hx:d=some x):x ∉ l:=by
 subst hx;simp only[zC,du]at h;intro hm;rw[ajV.2 hm]at h;cases h
def Hp{a b:Option Nat}(h:Og a b=true){x y:Nat}(hx:a=some x)(hy:b=some y):x≠y:=by
 subst hx hy;simp only[Og,du]at h;intro e;rw[kQ.2 e]at h;cases h
def Hu{f:mK}(hf:f.zh=false)(p:PV):p.lk f=if B0 f p then p else .e .any:=by
 cases f<;>first|(cases hf;done)|skip
 all_goals (cases p<;>simp only[PV.lk,B0,bH])
 all_goals (split<;>rename_i h<;>simp[h])
def RK{f:mK}(hf:f.zh=false){p:PV}(h:B0 f p=true):p.lk f=p:=by rw[Hu hf,bk h]
def alM(f:mK):B0 f (.e .any)=true:=by cases f<;>rfl
def asr(p:PV){f g:mK}(hf:f.zh=false)(hg:g.zh=false):(p.lk f).lk g=(p.lk g).lk f:=by
 rw[Hu hf p,Hu hg p];cases h1:B0 f p<;>cases h2:B0 g p<;>simp only[bH,bJ,bB,Hu hf,Hu hg,alM,h1,h2]
structure tE(σ τ:PS):Prop where
 n:σ.n=τ.n
 nl:σ.nl=τ.nl
 get:∀ t,σ.get t=τ.get t
 bo:∀ id,σ.bo id=τ.bo id
def tE.refl(σ:PS):tE σ σ:=⟨rfl,rfl,λ_=>rfl,λ_=>rfl⟩
def tE.symm{σ τ:PS}(h:tE σ τ):tE τ σ:=⟨h.n.symm,h.nl.symm,λt=>(h.get t).symm,λi=>(h.bo i).symm⟩
def tE.trans{σ τ υ:PS}(h:tE σ τ)(k:tE τ υ):tE σ υ:=⟨h.n.trans k.n,h.nl.trans k.nl,λt=>(h.get t).trans<|k.get t,λi=>(h.bo i).trans<|k.bo i⟩
def jh.rG{w0:mQ}{B:Nat->Prop}{σ τ:PS}{a:Act}{w:World}{L:Lk}(r:jh w0 B σ a w L)(h:tE σ τ):jh w0 B τ a w L:=
 ⟨r.hd,r.hs.trans h.n,λt=>by rw[<-h.get];exact r.ht t,λid b hb=>r.hb id b<|by rw[h.bo];exact hb,λid=>by rw[<-h.bo];exact r.hv id,r.hn,r.hw,r.hi,r.he,λhn id b hb=>r.hl (by rw[h.nl];exact hn) id b<|by rw[h.bo];exact hb⟩
def CB(σ:PS)(f:mK)(id:Nat):(σ.oz f).bo id=match f with
 | .none=>σ.bo id
 | .new i b | .pC i b | .pD i b | .tf i b | .yB i b=>if i=id then some b else(σ.bo id).map (Bx.rY<|PV.lk f)
 | .fin i=>if i=id then none else(σ.bo id).map (Bx.rY<|PV.lk f)
 | .py i r b=>if i=id then some b else if r=id then none else(σ.bo id).map (Bx.rY<|PV.lk f):=by
 have key:=PS.CC σ f id;cases f with
 |none=>rfl
 |fin i=>
  show look ((σ.pre<|.fin i).filter λx=>!Nat.beq x.1 i) id=_;rw[EU,key]
 |py i r b=>
  show look (vE ((σ.pre<|.py i r b).filter λx=>!Nat.beq x.1 r) i b) id=_;rw[EV,EU,key]
 |_=>exact(EV _ _ _ _).trans<|by rw[key]
def asq{f:mK}{p:PV}(hv:f.xD=true)(h:(p.lh.any λr=>f.BS.any λi=>Nat.beq i r)=false):p.lk f=p:=by
 cases f with
 |none=>cases hv
 |new=>cases hv
 |pC=>cases hv
 |pD i b=>exact adx<|by simpa[mK.BS]using h
 |tf i b=>
  have h':p.lh.any (Nat.beq i)=false:=by simpa[mK.BS]using h
  cases p with
  |iQ j k=>
   have:Nat.beq j i=false:=by
    simp only[PV.lh,en,fj,eB]at h';exact cX λe=>by rw[e,cH]at h';cases h'
   simp[PV.lk,this]
  |rB j s k x y=>
   have:Nat.beq j i=false:=by
    simp only[PV.lh,en,fj,eB]at h';exact cX λe=>by rw[e,cH]at h';cases h'
   simp[PV.lk,this]
  |_=>rfl
 |fin i=>
  have h':p.lh.any (Nat.beq i)=false:=by simpa[mK.BS]using h
  cases p<;>(simp only[PV.lk];rw[h'];rfl)
 |yB i b=>
  have h':p.lh.any (Nat.beq i)=false:=by simpa[mK.BS]using h
  cases p<;>(simp only[PV.lk];rw[h'];rfl)
 |py i r b=>exact TE<|by simpa[mK.BS]using h
def ake{f:mK}{b:Bx}(h:b.pS f=false):b.rY (PV.lk f)=b:=by
 refine ZZ λp hp=>?_
 by_cases hv:f.xD=true
 .refine asq hv ?_;unfold Bx.pS at h;rw[hv,fk]at h;rw[cI]at h ⊢;intro r hr;exact h r<|dP.2 ⟨p,hp,hr⟩
 .exact adz (by simpa using hv) p
def amu{α:Type}{l:List<|Nat×α}{t:Nat}{x:α}(h:look l t=some x):(t,x) ∈ l:=by
 induction l with
 |nil=>cases h
 |cons y l ih=>
  obtain⟨k,z⟩:=y;rw[tn]at h;split at h
  .rename_i e;cases h;subst e;exact .head _
  .exact .tail _<|ih h
def BE{σ:PS}{f:mK}:σ.pS f=false↔∀ id b,σ.bo id=some b->b.pS f=false:=by
 unfold PS.pS;by_cases hv:f.xD=true
 .rw [hv,fk];constructor
  .intro h id b hb;have:=cI.1 h (id,b)<|amu hb;simpa[hb]using this
  .intro h;rw[cI];intro x hx;split
   .rename_i b hb;rw[h _ _ hb];simp
   .simp
 .have Yi:f.xD=false:=by simpa using hv
  rw[Yi,Bool.false_and];exact⟨λ_ id b _=>by unfold Bx.pS;rw[Yi];rfl,λ_=>rfl⟩
def akd{σ τ:PS}(h:∀ id,σ.bo id=τ.bo id)(f:mK):τ.pS f=σ.pS f:=by
 cases h1:σ.pS f with
 |false=>exact BE.2 λid b hb=>BE.1 h1 id b<|by rw[h];exact hb
 |true=>
  cases h2:τ.pS f with
  |true=>rfl
  |false=>rw[BE.2 λid b hb=>BE.1 h2 id b<|by rw[<-h];exact hb]at h1;cases h1
section
variable(σ:PS)(d:Option Tmp)(u:kN)
def IY(t:Nat):(σ.app d u).get t=if d=some t then u.r else(σ.get t).lk u.f:=by
 unfold PS.app;cases d with
 |none=>
  rw[bj aH];exact PS.Eb σ u.f t
 |some d=>
  rw[PS.Ql,PS.Eb];simp only[bG]
def CA(id:Nat):(σ.app d u).bo id=(σ.oz u.f).bo id:=PS.afj _ _ _ _
def JW:(σ.app d u).n=σ.n:=by unfold PS.app;rw[PS.R1];rfl
def J0:(σ.app d u).nl=σ.nl:=by unfold PS.app;rw[PS.ant];rfl
def xI(id:Nat)(hm:u.f.zh=false)(hh:σ.pS u.f=false)(h:u.f.id≠some id):(σ.app d u).bo id=σ.bo id:=by
 have e:(σ.bo id).map (Bx.rY<|PV.lk u.f)=σ.bo id:=by
  cases hb:σ.bo id with
  |none=>rfl
  |some b=>simp only[cA];rw[ake<|BE.1 hh id b hb]
 rw[CA,CB];cases hf:u.f<;>rw[hf]at h hm e<;>simp only[mK.id,df,bG]at h<;>first|rfl|exact(bj h).trans e|cases hm
end
def Sr{σ τ:PS}{f:mK}(h:∀ id,f.id=some id->σ.bo id=τ.bo id):τ.zE f=σ.zE f:=by
 unfold PS.zE;split
 .rename_i i hi;rw[h i hi]
 .rfl
section
variable {P:Program} {K:World->Prop} {T:List TI} {O:qY} {iq:Array Oper} {σ τ:PS} {o:Oper} {u:kN}
def ahV(h:jR P K T O σ o=some u){x:Operand}(hx:x ∈ o.op.operands):x ∈ J9 o.op:=by
 obtain⟨dst,op,ty,pos,after,guard⟩:=o;simp only at hx ⊢;cases op<;>first
  | (simp only[jR]at h;cases h;done)
  | (exfalso;simp[Op.operands]at hx;done)
  | (simpa[Op.operands,J9]using hx)
  | (simpa[Op.operands,J9,or_assoc]using hx)
  |skip
 case call c=>
  obtain⟨callee,args,ats⟩:=c;cases callee<;>simpa[Op.operands,J9,Call.operands]using hx
def RW{d:Option Tmp}{b:Bx}{rr:Nat->PV}{jG:List Prop}(h:B7 σ d b rr jG=some u){id:Nat}{b':Bx}(hf:u.f = .new id b'):σ.bo id=none:=by
 obtain⟨i,_,kE,_,rfl⟩:=JT h;cases hf;exact kE
def aaL{d:Nat}{b:Bx}{id:Nat}{b':Bx}(hf:ub σ d b = .new id b'):σ.bo id=none:=by
 unfold ub at hf;split at hf
 .rename_i h;cases hf;exact h
 .cases hf
def aac{d:Option Tmp}{b:Bx}{rr:Nat->PV}(h:Dk σ d b rr=some u){id:Nat}{b':Bx}(hf:u.f = .new id b'):σ.bo id=none:=by
 obtain⟨i,_,_,rfl⟩:=MZ h;exact aaL hf
def ahQ{ti:TI}{bi bq:Option Bx}{i off q:Nat}(h:FW ti bi bq i off q=some u)(id:Nat)(b:Bx):u.f ≠ .new id b:=by
 intro hf;unfold FW at h;split at h
 .rename_i hM;cases h;unfold LZ at hM;split at hM
  .split at hM
   .cases hM;cases hf
   .cases hM
  .cases hM
 .unfold LY at h;split at h
  .split at h
   .cases h;cases hf
   .cases h
  .cases h
def ahN{fv:PV}{xs:List Operand}{l':List E}{jk:E}(h:CN P K σ fv xs l' jk=some u):∃ id b,u.f = .pC id b:=by
 unfold CN at h;split at h
 .split at h
  .split at h
   .split at h
    .cases h;exact⟨_,_,rfl⟩
    .cases h
   .split at h
    .cases h;exact⟨_,_,rfl⟩
    .cases h
   .cases h
  .cases h
 .cases h
def ahU(h:jR P K T O σ o=some u){id:Nat}{b:Bx}(hf:u.f = .new id b):σ.bo id=none:=by
 cases iK:o.op
 case alloc=>
  simp only[jR,iK]at h;split at h
  .split at h
   .exact aac h hf
   .cases h
  .cases h
 case box=>
  simp only[jR,iK]at h;split at h
  .split at h
   .exact aac h hf
   .cases h
  .cases h
 case makeSlice=>
  simp only[jR,iK,LV]at h;split at h
  .exact RW h hf
  .cases h
 case makeFunc fn first cap=>
  cases fn with
  |func f=>
   simp only[jR,iK]at h
   repeat' split at h
   all_goals first
    | (cases h;done)
    | (cases h;cases hf;done)
  |_=>simp[jR,iK]at h
 case lookup t x i ok=>
  cases ok with
  |true=>simp[jR,iK]at h
  |false=>
   simp only[jR,iK]at h
   repeat' split at h
   all_goals first
    | (cases h;done)
    | (cases h;cases hf;done)
 case slice t x lo hi mx=>
  cases mx with
  |none=>
   simp only[jR,iK,LW,D7]at h
   repeat' split at h
   all_goals first
    | (cases h;done)
    | (cases h;cases hf;done)
  |some=>simp[jR,iK]at h
 case call c=>
  obtain⟨callee,args,ats⟩:=c;cases callee with
  |builtin b=>
   simp only[jR,iK]at h;cases b
   case append=>
    dsimp only at h;split at h
    .split at h
     .split at h
      .unfold D6 at h
       repeat' split at h
       all_goals first
        | (cases h;done)
        | (cases h;cases hf;done)
      split at h
      .unfold D5 at h;split at h
       .split at h
        .split at h
         .cases h;cases hf
         .cases h
        .cases h
       .cases h
      .simp only[CL]at h
       repeat' split at h
       all_goals first
        | (cases h;done)
        |exact RW h hf
        | (cases h;cases hf;done)
     .cases h
    .cases h
   all_goals
    dsimp only at h
    repeat' split at h
    all_goals first
     | (cases h;done)
     | (cases h;cases hf;done)
     | (obtain⟨_,_,rfl⟩:=cg.1 h;cases hf)
  |value f=>
   simp only[jR,iK]at h;split at h
   .obtain ⟨_,_,e⟩:=ahN h;rw[e]at hf;cases hf
   repeat' split at h
   all_goals first
    | (cases h;done)
    | (simp only[CM]at h;repeat' split at h)
   all_goals first
    | (cases h;done)
    | (cases h;cases hf;done)
    | (cases h;cases hf;assumption)
    | (cases h;exact aaL hf)
  |invoke _ _=>simp[jR,iK]at h
 all_goals
  simp only[jR,iK,LX,LR,LW,LS,LU,Dh,D8]at h
  repeat' split at h
  all_goals first
   |exact absurd hf<|ahQ h _ _
   | (cases h;done)
   | (cases h;cases hf;done)
   | (obtain⟨_,_,rfl⟩:=cg.1 h;cases hf)
   |skip
 all_goals first
  | (obtain⟨_,_,h⟩:=ib.1 h;repeat' split at h)
  |skip
 all_goals first
  |exact RW h hf
  | (cases h;done)
  | (cases h;cases hf;done)
section
variable(h:wN P K T O σ o=some u)
def PW:∃ u0,jR P K T O σ o=some u0/\u0.rb=u.rb/\u0.f=u.f:=by
 unfold wN at h;split at h
 .rename_i u0 h0;split at h
  .split at h
   .cases h;exact⟨u0,h0,rfl,rfl⟩
   .cases h;exact⟨_,h0,rfl,rfl⟩
  .cases h;exact⟨_,h0,rfl,rfl⟩
 .cases h
def ahX(hg:∀ x,x ∈ o.op.operands->τ.op x=σ.op x)(hb:∀ id,id ∈ u.rb->σ.bo id=τ.bo id)(jQ:σ.nl=τ.nl)(hn:∀ id b,u.f = .new id b->τ.bo id=none):
 wN P K T O τ o=some u:=by
 obtain⟨u0,h0,e1,e2⟩:=PW h;have:=ahT (τ:=τ) h0 hg (by rw[e1];exact hb) jQ (by rw[e2];exact hn);unfold wN at h ⊢;rw[h0]at h;rw[this];exact h
end
section
variable(h:sF P K T O iq σ o=some u)
def FX:yg σ o.dst=true/\u.rd=(looks iq o).map σ.get/\((Cr iq σ o=some true/\∃ u0,wN P K T O σ o=some u0/\u={ u0 with rd:=(looks iq o).map σ.get,hb:=σ.pS u0.f,ob:=σ.zE u0.f })\/(Cr iq σ o=some false/\u={ r:=.e<|.v<|.tuple #[],rd:=(looks iq o).map σ.get })):=by
 unfold sF at h;split at h
 .rename_i hi;split at h
  .rename_i hw;split at h
   .rename_i u0 h0;cases h;exact⟨hi,rfl,.inl ⟨hw,u0,h0,rfl⟩⟩
   .cases h
  .rename_i hw;cases h;exact⟨hi,rfl,.inr ⟨hw,rfl⟩⟩
  .cases h
 .cases h
def PT(hg:∀ t,t ∈ looks iq o->σ.get t=τ.get t)(hb:∀ id,id ∈ u.rb->σ.bo id=τ.bo id)(jQ:σ.nl=τ.nl)(nc:σ.n=τ.n)(hn:∀ id b,u.f = .new id b->τ.bo id=none)(hh:τ.pS u.f=σ.pS u.f)(ho:τ.zE u.f=σ.zE u.f):
 sF P K T O iq τ o=some u:=by
 obtain⟨hi,_,hw⟩:=FX h;have kP:yg τ o.dst=yg σ o.dst:=by cases o.dst<;>simp[yg,nc]
 have Yn:Cr iq τ o=Cr iq σ o:=by
  unfold Cr;cases El:o.guard with
  |none=>rfl
  |some jw=>
   obtain⟨j,want⟩:=jw;cases hd:(iq[j]?).bind (·.dst)with
   |none=>simp[hd]
   |some t=>
    simp only[hd];rw[hg t<|by unfold looks;rw[El];simp[hd]]
 have Je:(looks iq o).map τ.get=(looks iq o).map σ.get:=dQ λt ht=>(hg t ht).symm
 unfold sF;rw[kP,hi,Yn,Je];simp only[bH];rcases hw with⟨hw,u0,h0,rfl⟩|⟨hw,rfl⟩
 .rw [hw];have iK:∀ x,x ∈ o.op.operands->τ.op x=σ.op x:=by
   intro x hx;obtain⟨u1,h1,_,_⟩:=PW h0;have hm:=ahV h1 hx;refine anX λt ht=>hg t ?_
   subst ht;unfold looks;exact List.mem_append_left _<|amP hm
  simp only[ahX h0 iK hb jQ hn];simp only at hh ho;rw[hh,ho]
 .rw [hw]
def PU{id:Nat}{b:Bx}(hf:u.f = .new id b):σ.bo id=none:=by
 obtain⟨_,_,⟨_,u0,h0,rfl⟩|⟨_,rfl⟩⟩:=FX h
 .obtain ⟨u1,h1,_,e2⟩:=PW h0;exact ahU h1<|by rw[e2];exact hf
 .cases hf
def ahW(hs:tE σ τ):sF P K T O iq τ o=some u:=
 PT h (λt _=>hs.get t) (λid _=>hs.bo id) hs.nl hs.n (λid b hf=>by rw[<-hs.bo];exact PU h hf) (akd hs.bo _) (Sr λid _=>hs.bo id)
def Wl:u.hb=σ.pS u.f/\u.ob=σ.zE u.f:=by
 obtain⟨_,_,⟨_,u0,_,rfl⟩|⟨_,rfl⟩⟩:=FX h
 .exact ⟨rfl,rfl⟩
 .exact ⟨rfl,rfl⟩
end
def aej(hs:tE σ τ)(d:Option Tmp)(u:kN):tE (σ.app d u)<|τ.app d u:=
 ⟨by rw[JW,JW];exact hs.n,by rw[J0,J0];exact hs.nl,λt=>by rw[IY,IY,hs.get],λid=>by rw[CA,CA,CB,CB,hs.bo]⟩
def akz{f:mK}(hm:f.zh=false)(r:Nat):(f.BS.any λi=>Nat.beq i r)=true↔f.id=some r:=by
 cases f<;>first|(cases hm;done)|simp[mK.BS,mK.id,kQ]
def XN{f:mK}(hm:f.zh=false){b:Bx}(h:∀ r,f.id=some r->r ∉ b.lh):b.pS f=false:=by
 unfold Bx.pS;rw[Bool.and_eq_false_iff];right;rw[cI];intro r hr hi;exact h r ((akz hm r).1 hi) hr
def akc{x y:mK}{σ:PS}{d:Option Tmp}{u:kN}(hu:u.f=x)(m1:x.zh=false)(m2:y.zh=false)(hx:σ.pS x=false)(hy:σ.pS y=false)(hc:zC x.Pv y.id=true):(σ.app d u).pS y=false:=by
 subst hu;refine BE.2 λid b hb=>?_
 by_cases e:u.f.id=some id
 .refine XN m2 λr hr hm=>?_
  have hn:=GP hc hr;rw[CA,CB]at hb;cases hf:u.f<;>rw[hf]at e hb hn m1<;>simp only[mK.id,bG]at e<;>first
   | (cases e;done)
   | (cases m1;done)
   | (subst e;simp only[bH,bG]at hb;subst hb;exact hn hm)
   | (subst e;simp at hb;done)
 .rw [xI _ _ _ _ m1 hx e]at hb;exact BE.1 hy id b hb
def aro{O':qY}{x y:Oper×kN}(hi:EI iq x y=true)(h1:sF P K T O iq σ x.1=some x.2)(h2:sF P K T O' iq (σ.app x.1.dst x.2) y.1=some y.2):
 sF P K T O' iq σ y.1=some y.2/\sF P K T O iq (σ.app y.1.dst y.2) x.1=some x.2/\tE ((σ.app x.1.dst x.2).app y.1.dst y.2) ((σ.app y.1.dst y.2).app x.1.dst x.2):=by
 simp only[EI,bK]at hi;obtain⟨⟨⟨⟨⟨⟨⟨⟨⟨⟨⟨⟨⟨⟨⟨⟨⟨i1,i2⟩,i3⟩,i4⟩,i5⟩,i6⟩,i7⟩,i8⟩,i9⟩,i10⟩,m1⟩,m2⟩,v1⟩,v2⟩,o1⟩,o2⟩,c1⟩,c2⟩:=hi;simp only[du]at m1 m2 v1 v2;obtain⟨_,rx,_⟩:=FX h1;obtain⟨_,ry,_⟩:=FX h2;obtain⟨fx1,fx2⟩:=Wl h1;obtain⟨fy1,fy2⟩:=Wl h2;have hx:σ.pS x.2.f=false:=by rw[<-fx1];exact v1
 have rW:(σ.app x.1.dst x.2).pS y.2.f=false:=by rw[<-fy1];exact v2
 have hy:σ.pS y.2.f=false:=by
  refine BE.2 λid b hb=>?_
  by_cases e:x.2.f.id=some id
  .refine XN m2 λr hr hm=>?_
   have:=GP o1 hr;rw[fx2]at this;unfold PS.zE at this;rw[e]at this;simp only[hb]at this;exact this hm
  .exact BE.1 rW id b<|by rw[xI _ _ _ _ m1 hx e];exact hb
 have w9:(σ.app y.1.dst y.2).pS x.2.f=false:=akc rfl m2 m1 hy hx c2;have r1:sF P K T O' iq σ y.1=some y.2:=by
  refine PT h2 (λt ht=>?_) (λid hid=>xI _ _ _ _ m1 hx λe=>GP i4 e hid) (J0 _ _ _) (JW _ _ _) (λid b hf=>?_) (by rw[hy,rW])<|Sr λid e=>xI _ _ _ _ m1 hx λe'=>Hp i6 e' e rfl
  .have hg:(σ.app x.1.dst x.2).get t=(σ.get t).lk x.2.f:=by
    rw[IY,bj λe=>GP i1 e ht]
   rw[hg];by_cases hv:x.2.f.xD=true
   .have uB:Se ((σ.get t).lk x.2.f)=true:=by
     have h9:y.2.rd.all Se=true:=by simpa[hv]using i9
     rw[ry]at h9;exact bO.1 h9 _<|cP.2 ⟨t,ht,hg⟩
    rw[Hu m1]at uB ⊢;split at uB
    .rename_i hk;rw[bk hk]
    .cases uB
   .cases hf:x.2.f<;>rw[hf]at hv<;>first|exact absurd rfl hv|(cases σ.get t<;>rfl)
  .have:=PU h2 hf;rwa[xI _ _ _ _ m1 hx λe=>Hp i6 e (by rw[hf];rfl) rfl]at this
 refine⟨r1,?_,?_⟩
 .refine PT h1 (λt ht=>?_) (λid hid=>(xI _ _ _ _ m2 hy λe=>GP i5 e hid).symm) (J0 _ _ _).symm (JW _ _ _).symm (λid b hf=>?_) (by rw[hx,w9]) (Sr λid e=>(xI _ _ _ _ m2 hy λe'=>Hp i6 e e' rfl).symm)
  .rw [IY,bj λe=>GP i3 e ht];rw[rx]at i10;exact(RK m2<|bO.1 i10 _<|cP.2 ⟨t,ht,rfl⟩).symm
  .rw [xI _ _ _ _ m2 hy λe=>Hp i6 (by rw[hf];rfl) e rfl];exact PU h1 hf
 .refine ⟨by simp only[JW],by simp only[J0],λt=>?_,λid=>?_⟩
  .simp only[IY];by_cases hx:x.1.dst=some t
   .have hy:¬y.1.dst=some t:=λe=>Hp i2 hx e rfl
    rw[bj hy,bk hx,bk hx,RK m2 i8]
   .by_cases hy:y.1.dst=some t
    .rw [bk hy,bj hx,bk hy,RK m1 i7]
    .rw [bj hy,bj hx,bj hx,bj hy,asr _ m1 m2]
  .by_cases ex:x.2.f.id=some id
   .have ey:y.2.f.id≠some id:=λe=>Hp i6 ex e rfl
    rw[xI _ _ _ _ m2 rW ey,CA,CA,CB,CB,xI _ _ _ _ m2 hy ey]
   .rw [xI _ _ x.2 _ m1 w9 ex];rw[CA,CA,CB,CB,xI _ _ _ _ m1 hx ex]
end
section
variable {P:Program} {K:World->Prop} {T:List TI} {O:qY} {iq:Array Oper}
def yM(P:Program)(K:World->Prop)(T:List TI)(iq:Array Oper):List (Oper×kN)->PS->PS->Prop
 | [],σ,τ=>tE σ τ
 |x::l,σ,τ=>(∃ O,sF P K T O iq σ x.1=some x.2)/\yM P K T iq l (σ.app x.1.dst x.2) τ
def yM.rG{l:List<|Oper×kN}{σ σ2 τ:PS}(h:yM P K T iq l σ τ)(hs:tE σ σ2):yM P K T iq l σ2 τ:=by
 induction l generalizing σ σ2 with
 |nil=>exact hs.symm.trans h
 |cons x l ih=>exact⟨h.1.imp λ_ h=>ahW h hs,ih h.2<|aej hs _ _⟩
def yM.aiP{A C:List<|Oper×kN}{y:Oper×kN}{σ τ:PS}(h:yM P K T iq (A++y::C) σ τ)(hi:∀ x,x ∈ A->EI iq x y=true):
 (∃ O,sF P K T O iq σ y.1=some y.2)/\yM P K T iq (A++C) (σ.app y.1.dst y.2) τ:=by
 induction A generalizing σ with
 |nil=>exact h
 |cons x A ih=>
  obtain⟨⟨O1,h1⟩,h2⟩:=h;obtain⟨⟨O2,k1⟩,k2⟩:=ih h2 λz hz=>hi z<|by simp[hz]
  obtain⟨s1,s2,s3⟩:=aro (hi x aH) h1 k1;exact⟨⟨O2,s1⟩,⟨O1,s2⟩,k2.rG s3⟩
end
section
variable {P:Program} {K:World->Prop} {T:List TI} {O:qY} {w0:mQ} {B:Nat->Prop} {σ τ:PS} {o:Oper} {a:Act} {w:World} {L:Lk} {u:kN} {iq:Array Oper}
def adE(r:jh w0 B σ a w L){b:Bool}(h:Cr iq σ o=some b):Region.wanted o (yielded iq a.tmps)=b:=by
 unfold Cr at h;unfold Region.wanted;split at h
 .rename_i hg;rw[hg];simpa using h
 .rename_i j want hg;rw[hg];simp only;split at h
  .rename_i t ht;have hv:=r.ht t;have key:∀ q:Bool,σ.get t = .e (.v<|.bool q)->yielded iq a.tmps j=some q:=by
    intro q hq;rw[hq]at hv;have hv:=iO.kW hv;unfold yielded;rw[ht];simp only[Option.bind_some];have iN:a.tmps[t]? = some (.bool q):=by
     by_cases hs:t<a.tmps.size
     .simpa [hs]using hv
     .simp [hs,undef]at hv
    rw[iN]
   split at h
   .rename_i hq;rw[key true hq];simp only[bG]at h;subst h;cases want<;>rfl
   .rename_i hq;rw[key false hq];simp only[bG]at h;subst h;cases want<;>rfl
   .rename_i q hq;rw[hq]at hv;have hv:=iO.kW hv;have hn:yielded iq a.tmps j=none:=by
     unfold yielded;rw[ht];simp only[Option.bind_some];by_cases hs:t<a.tmps.size
     .rw [show a.tmps[t]? = some (.tuple q)by simpa[hs]using hv]
     .simp [hs]
    rw[hn];simp only[bG]at h;subst h;cases want<;>rfl
   .cases h
  .cases h
def Wm(hT:mh P T)(g:Gd P K w0 B)(r:jh w0 B σ a w L)(h:sF P K T O iq σ o=some u)(ho:∀ q,q ∈ u.jG->q)(Kc:Act->World->Prop)(Q:Exit->Act->World->Prop)
 (hk:∀ a' w' L',jh w0 B (σ.app o.dst u) a' w' L'->Kc a' w'):
 (Region.wanted o (yielded iq a.tmps)=true/\o.wp P a w Kc Q)\/(Region.wanted o (yielded iq a.tmps)=false/\Kc (a.put o.dst undef) w):=by
 obtain⟨hi,_,⟨hw,u0,h0,rfl⟩|⟨hw,rfl⟩⟩:=FX h
 .refine .inl ⟨adE r hw,ahY hT g r h0 ho Kc Q λv w' L' hr hp=>hk _ w' L' ?_⟩;have lg:yg (σ.oz u0.f) o.dst=true:=by cases hd:o.dst<;>rw[hd]at hi<;>exact hi
  exact hr.put o.dst u0.r v lg hp
 .exact .inr ⟨adE r hw,hk _ w L<|r.put o.dst (.e<|.v<|.tuple #[]) undef hi<|.v _⟩
structure Left(iq:Array Oper)(listed:Array Bool)(R:List<|Nat×Oper×kN):Prop where
 mT:∀ x,x ∈ R->iq[x.1]? = some x.2.1/\listed.getD x.1 true=false
 all:∀ i,i<iq.size->listed.getD i true=false->∃ x,x ∈ R/\x.1=i
 pw:R.Pairwise λx y=>x.1<y.1/\(DA iq 3 y.2.1 x.1||EI iq x.2 y.2)=true
 ed:∀ x,x ∈ R->∀ e,e ∈ x.2.1.after->Region.binds .any e=true->e.on<x.1
 up:∀ x,x ∈ R->∀ j z,iq[j]? = some z->EM z x.1=true->listed.getD j true=false
def Left.DA{listed:Array Bool}{R:List<|Nat×Oper×kN}(h:Left iq listed R){x:Nat×Oper×kN}(hx:x ∈ R):∀ (n:Nat) (j:Nat) (z:Oper),iq[j]? = some z->Pu.DA iq n z x.1=true ->
 listed.getD j true=false/\∃ e,e ∈ z.after/\Region.binds .any e=true/\listed.getD e.on true=false/\e.on<iq.size:=by
 have direct:∀ (j:Nat) (z:Oper),iq[j]? = some z->EM z x.1=true->listed.getD j true=false/\∃ e,e ∈ z.after/\Region.binds .any e=true/\listed.getD e.on true=false/\e.on<iq.size:=by
  intro j z hz he;refine⟨h.up x hx j z hz he,?_⟩;unfold EM at he;obtain⟨e,nb,mv⟩:=dE.1 he;simp only[bK]at mv;have uy:=h.mT x hx;refine⟨e,by simpa using nb,mv.1,?_,?_⟩
  .rw [kQ.1 mv.2];exact uy.2
  .rw [kQ.1 mv.2];exact(dq.1 uy.1).1
 intro n
 induction n with
 |zero=>exact direct
 |succ n ih=>
  intro j z hz hr;simp only[Pu.DA,ep]at hr;rcases hr with hr|hr
  .exact direct j z hz hr
  .obtain ⟨e,nb,mv⟩:=dE.1 hr;simp only[bK]at mv;obtain⟨mv,QO⟩:=mv;split at QO
   .rename_i z' AA;obtain⟨k1,_⟩:=ih e.on z' AA QO;have iN:=(dq.1 AA).1;obtain⟨x',w9,Gu⟩:=h.all e.on iN k1;refine⟨h.up x' w9 j z hz ?_,e,by simpa using nb,mv,k1,iN⟩;unfold EM;refine dE.2 ⟨e,nb,?_⟩;rw[mv,Gu];simp
   .cases QO
def SP{md:Region.Mode}{listed:Array Bool}{i:Nat}:i ∈ Region.ready md iq listed↔i<iq.size/\listed.getD i true=false/\∃ o,iq[i]? = some o/\∀ e,e ∈ o.after->Region.binds md e=true->listed.getD e.on false=true:=by
 unfold Region.ready;rw[List.mem_filter];simp only[bN,bK,du];constructor
 .rintro ⟨h1,h2,h3⟩;refine⟨h1,h2,iq[i],by simp[h1],λe he hb=>?_⟩;rw[Array.getElem?_eq_getElem h1]at h3;simp only[cA,gI,aua]at h3;have:=h3 e he;simpa[hb]using this
 .rintro ⟨h1,h2,o,h3,h4⟩;refine⟨h1,h2,?_⟩;rw[h3];simp only[cA,gI,aua];intro e he;cases hb:Region.binds md e with
  |false=>rfl
  |true=>simpa using h4 e he hb
def aed(hT:mh P T)(g:Gd P K w0 B){Q:Exit->Act->World->Prop}(hq:∀ a' w' L',jh w0 B τ a' w' L'->Q .normal a' w'):
 ∀ (fuel:Nat) (listed:Array Bool) (R:List<|Nat×Oper×kN) (σ:PS) (a:Act) (w:World) (L:Lk),R.length=fuel->listed.size=iq.size->Left iq listed R->(∀ x,x ∈ R->∀ q,q ∈ x.2.2.jG->q) ->
  yM P K T iq (R.map (·.2)) σ τ->jh w0 B σ a w L->wpAny P .any iq Q fuel listed a w:=by
 intro fuel
 induction fuel with
 |zero=>
  intro listed R σ a w L hlen Gh hleft ho MA r;have hR:=dJ hlen;subst hR;refine⟨?_,hq a w L<|r.rG MA⟩;apply List.eq_nil_iff_forall_not_mem.2;intro i hi;obtain⟨h1,h2,_⟩:=SP.1 hi;obtain⟨x,hx,_⟩:=hleft.all i h1 h2;simp at hx
 |succ fuel ih=>
  intro listed R σ a w L hlen Gh hleft ho MA r;refine⟨λEs=>?_,λi hi=>?_⟩
  .
   exfalso;cases R with
   |nil=>simp at hlen
   |cons x R=>
    have hx:=hleft.mT x aH;have iN:x.1<iq.size:=(dq.1 hx.1).1;have:x.1 ∈ Region.ready .any iq listed:=SP.2 ⟨iN,hx.2,x.2.1,hx.1,λe he hb=>by
     have Gn:=hleft.ed x aH e he hb;cases hl:listed.getD e.on true with
     |true=>
      have:e.on<listed.size:= aC ;simp[this]at hl ⊢;exact hl
     |false=>
      exfalso;obtain⟨y,hy,Gv⟩:=hleft.all e.on aC hl;rcases dw.1 hy with hy|hy
      .subst hy;omega
      .have:=(atH.1 hleft.pw).1 y hy;omega⟩
    rw[Es]at this;simp at this
  .obtain ⟨h1,h2,o,h3,h4⟩:=SP.1 hi;obtain⟨y,hy,hyi⟩:=hleft.all i h1 h2;subst hyi;obtain⟨A,C,rfl⟩:=List.append_of_mem hy;have MG:=hleft.mT y hy;have akb:∀ x,x ∈ A->EI iq x.2 y.2=true:=by
    intro x hx;have hp:=(atI.1 hleft.pw).2.2 x hx y aH;rcases Bool.or_eq_true_iff.1 hp.2 with he|he
    .exfalso;obtain⟨_,e,nb,mv,qE,iN⟩:=hleft.DA (show x ∈ A++y::C by simp[hx]) 3 y.1 y.2.1 MG.1 he;have qg:o=y.2.1:=by rw[MG.1]at h3;exact(atJ h3).symm
     have hl:=h4 e (by rw[qg];exact nb) mv;have qF:e.on<listed.size:=by rw[Gh];exact iN
     simp[qF]at hl qE;rw[hl]at qE;cases qE
    .exact he
   rw[atA,eU]at MA;obtain⟨⟨O,k1⟩,k2⟩:=MA.aiP (λx hx=>by
    obtain⟨z,hz,rfl⟩:=cP.1 hx;exact akb z hz)
   have akg:Left iq (listed.setIfInBounds y.1 true)<|A++C:=by
    have jV:∀ x,x ∈ A++C->x.1≠y.1:=by
     intro x hx;rcases di.1 hx with hx|hx
     .have:=((atI.1 hleft.pw).2.2 x hx y aH).1;omega
     .have:=((atH.1 (atI.1 hleft.pw).2.1).1 x hx).1;omega
    have yb:∀ x,x ∈ A++C->x ∈ A++y::C:=λx hx=>by
     rcases di.1 hx with hx|hx<;>simp[hx]
    refine⟨λx hx=>?_,λj hj hl=>?_,?_,λx hx=>hleft.ed x<|yb x hx,λx hx j z hz he=>?_⟩
    .obtain ⟨q1,q2⟩:=hleft.mT x<|yb x hx;refine⟨q1,?_⟩;have qF:x.1<listed.size:=by rw[Gh];exact(dq.1 q1).1
     simp[qF]at q2 ⊢;rw[atK _ λe=>jV x hx e.symm];exact q2
    .have Mt:j<listed.size:= aC ;by_cases Gf:j=y.1
     .subst Gf;simp[Mt]at hl
     .have:listed.getD j true=false:=by
       simp[Mt]at hl ⊢;rw[atK _ λe=>Gf e.symm]at hl;exact hl
      obtain⟨x,hx,Yo⟩:=hleft.all j hj this;refine⟨x,?_,Yo⟩;rcases di.1 hx with hx|hx
      .simp [hx]
      .rcases dw.1 hx with hx|hx
       .subst hx;exact absurd Yo.symm Gf
       .simp [hx]
    .exact hleft.pw.sublist<|List.Sublist.append (List.Sublist.refl A)<|List.sublist_cons_self y C
    .have q:=hleft.up x (yb x hx) j z hz he;have Mt:j<listed.size:=by rw[Gh];exact(dq.1 hz).1
     by_cases Gf:j=y.1
     .exfalso;subst Gf;rw[MG.1]at hz h3;cases hz;cases h3;unfold EM at he;obtain⟨e,nb,mv⟩:=dE.1 he;simp only[bK]at mv;have hl:=h4 e (by simpa using nb) mv.1;rw[kQ.1 mv.2]at hl;have qE:=(hleft.mT x<|yb x hx)
      have qF:x.1<listed.size:=by rw[Gh];exact(dq.1 qE.1).1
      have qE:=qE.2;simp[qF]at hl qE;rw[hl]at qE;cases qE
     .simp [Mt]at q ⊢;rw[atK _ λe=>Gf e.symm];exact q
   unfold wpOp;rw[MG.1];simp only;rcases Wm hT g r k1 (ho y aH) (wpAny P .any iq Q fuel<|listed.setIfInBounds y.1 true) Q (λa' w' L' hr=>ih _ (A++C) _ a' w' L' (by simp at hlen ⊢;omega) (by simpa using Gh) akg (λx hx=>ho x (by
    rcases di.1 hx with hx|hx<;>simp[hx])) (by rw[atA];exact k2) hr)with⟨p1,p2⟩|⟨p1,p2⟩
   .rw [bk p1];exact .inl p2
   .rw [bj<|by rw[p1];simp];exact p2
def alW{us:List<|Oper×kN}(yd:us.map (·.1)=iq.toList)(hp:GX iq 0 us=true):
 ∃ R:List<|Nat×Oper×kN,R.map (·.2)=us/\R.length=iq.size/\Left iq (Array.replicate iq.size false) R:=by
 have key:∀ (us:List<|Oper×kN) (k:Nat),GX iq k us=true->(∀ j x,us[j]? = some x->iq[k+j]? = some x.1) ->
  ∃ R:List<|Nat×Oper×kN,R.map (·.2)=us/\(∀ j x,R[j]? = some x->x.1=k+j)/\(∀ x,x ∈ R->iq[x.1]? = some x.2.1)/\(R.Pairwise λx y=>x.1<y.1/\(DA iq 3 y.2.1 x.1||EI iq x.2 y.2)=true) /\
   (∀ x,x ∈ R->∀ e,e ∈ x.2.1.after->Region.binds .any e=true->e.on<x.1):=by
  intro us
  induction us with
  |nil=>exact λk _ _=>⟨[],rfl,λj x h=>by simp at h,λx h=>by simp at h,List.Pairwise.nil,λx h=>by simp at h⟩
  |cons x us ih=>
   intro k hp uy;simp only[GX,bK]at hp;obtain⟨R,r1,r2,r3,r4,r5⟩:=ih (k+1) hp.2 (λj y hy=>by have:=uy (j+1) y (by simpa using hy);rwa[(aC:k+(j+1)=k+1+j)]at this);have th:∀ y,y ∈ R->k<y.1/\y.2 ∈ us:=by
    intro y hy;obtain⟨j,hj⟩:=dD.1 hy;have:=r2 j y hj;exact⟨aC,by rw[<-r1];exact cP.2 ⟨y,hy,rfl⟩⟩
   refine⟨(k,x)::R,by simp[r1],λj y hy=>?_,λy hy=>?_,?_,λy hy=>?_⟩
   .cases j with
    |zero=>simp at hy;subst hy;rfl
    |succ j=>have:=r2 j y (by simpa using hy);omega
   .rcases dw.1 hy with hy|hy
    .subst hy;have:=uy 0 x rfl;simpa using this
    .exact r3 y hy
   .rw [atH];refine⟨λy hy=>⟨(th y hy).1,?_⟩,r4⟩;exact bO.1 hp.1.2 y.2 (th y hy).2
   .rcases dw.1 hy with hy|hy
    .subst hy;intro e he hb;have:=bO.1 hp.1.1 e (by simpa using he);simpa[hb]using this
    .exact r5 y hy
 obtain⟨R,r1,r2,r3,r4,r5⟩:=key us 0 hp (λj x hx=>by
  rw[cw];have:=congrArg (·[j]?) yd;simp only[cC,hx,cA]at this;simpa using this.symm)
 have hlen:R.length=iq.size:=by
  have h1:=congrArg List.length r1;have h2:=congrArg List.length yd;simp at h1 h2;omega
 refine⟨R,r1,hlen,λx hx=>⟨r3 x hx,?_⟩,λi hi _=>?_,r4,r5,λx hx j z hz _=>by have:=(dq.1 hz).1;simp[this]⟩
 .have:=(dq.1<|r3 x hx).1;simp[this]
 .have lg:i<R.length:= aC ;exact⟨R[i],cB lg,by have:=r2 i R[i] (bD lg);omega⟩
end
def PS.le(σ τ:PS):Prop:=∀ (w0:mQ) (B:Nat->Prop) (a:Act) (w:World) (L:Lk),(∀ b,B b->w0.vH b)->jh w0 B σ a w L->∃ L',jh w0 B τ a w L'
def PS.le.refl(σ:PS):PS.le σ σ:=λ_ _ _ _ L _ r=>⟨L,r⟩
def PS.le.trans{σ τ υ:PS}(h:PS.le σ τ)(k:PS.le τ υ):PS.le σ υ:=λw0 B a w L g r=>let⟨L',r'⟩:=h w0 B a w L g r;k w0 B a w L' g r'
def PV.le.refl(p:PV):PV.le p p:=λ_ _ _ _ _ h=>h
def Bx.le(a b:Bx):Prop:=(a.nl=true->b.nl=true)/\∀ (bs br:Nat->Prop) (L:Lk) (w:World) (id:Nat),nh bs br L w id a->nh bs br L w id b
def Bx.le.refl(a:Bx):Bx.le a a:=⟨id,λ_ _ _ _ _ h=>h⟩
def zY(σ:PS):List (Nat×PV)->Prop
 | []=>True
 | (k,p)::l=>PV.le (σ.get k) p/\zY σ l
def yI(σ:PS):List (Nat×Bx)->Prop
 | []=>True
 | (id,b)::l=>(∃ b',σ.bo id=some b'/\Bx.le b' b)/\yI σ l
def Kp(τ:PS):Bool:=(τ.t.all λx=>x.2.lh.all λid=>(look τ.b id).isSome)&&(τ.b.all λx=>x.2.lh.all λid=>(look τ.b id).isSome)
def JN{α:Type}{l:List<|Nat×α}{t:Nat}{x:α}(h:look l t=some x):(t,x) ∈ l:=by
 induction l with
 |nil=>cases h
 |cons y l ih=>
  obtain⟨k,z⟩:=y;rw[tn]at h;split at h
  .rename_i e;cases h;subst e;exact .head _
  .exact .tail _<|ih h
def zY.get{σ:PS}{l:List<|Nat×PV}(h:zY σ l){t:Nat}{p:PV}(k:look l t=some p):PV.le (σ.get t) p:=by
 induction l with
 |nil=>cases k
 |cons y l ih=>
  obtain⟨q,z⟩:=y;rw[tn]at k;split at k
  .rename_i e;cases k;subst e;exact h.1
  .exact ih h.2 k
def yI.get{σ:PS}{l:List<|Nat×Bx}(h:yI σ l){t:Nat}{b:Bx}(k:look l t=some b):∃ b',σ.bo t=some b'/\Bx.le b' b:=by
 induction l with
 |nil=>cases k
 |cons y l ih=>
  obtain⟨q,z⟩:=y;rw[tn]at k;split at k
  .rename_i e;cases k;subst e;exact h.1
  .exact ih h.2 k
def PS.le.oE{σ τ:PS}(hn:σ.n=τ.n)(jQ:τ.nl=σ.nl)(hr:Kp τ=true)(ht:zY σ τ.t)(hb:yI σ τ.b):PS.le σ τ:=λw0 B a w L _ r=>by
 let L':Lk:=⟨λid=>L.mE id/\(τ.bo id).isSome=true,λid x=>L.own id x/\(τ.bo id).isSome=true,L.val,L.iQ⟩
 have iN:rJ L w L' w:=⟨bw _,λx _ ⟨id,h,_⟩=>⟨id,h⟩,λ_ _ _=>rfl⟩
 refine⟨L',r.hd,by rw[<-hn];exact r.hs,λt=>?_,λid b h=>?_,λid=>?_,λid x h=>⟨r.hn id x h.1,h.2⟩,λid x h=>r.hw id x h.1,λid id' x h k=>r.hi id id' x h.1 k.1,r.he,λh id b k=>?_⟩
 .have hg:τ.get t=((look τ.t t)).getD (.e .any):=rfl;cases hl:look τ.t t with
  |none=>rw[hg,hl];exact .any _
  |some p=>
   rw[hg,hl];have:=ht.get hl _ _ _ _ _<|r.ht t;refine kZ.move iN this λid hid qe=>⟨⟨qe,?_⟩,rfl,λ_=>rfl⟩
   have q:=bO.1 (ic.1 hr).1 _<|JN hl;exact bO.1 q id hid
 .obtain ⟨b',h1,h2⟩:=hb.get h;have hs:(τ.bo id).isSome=true:=by rw[h];rfl
  refine(h2.2 _ _ _ _ _<|r.hb id b' h1).later iN rfl (λx=>⟨λq=>q.1,λq=>⟨q,hs⟩⟩) (λ_=>rfl) (λ_ _=>rfl) λp v hp k=>kZ.move iN k λid hid qe=>⟨⟨qe,?_⟩,rfl,λ_=>rfl⟩
  have q:=bO.1 (ic.1 hr).2 _<|JN h;exact bO.1 q id<|dP.2 ⟨p,hp,hid⟩
 .show L.mE id/\(τ.bo id).isSome=true↔(τ.bo id).isSome=true;refine⟨λh=>h.2,λh=>⟨(r.hv id).2 ?_,h⟩⟩;obtain⟨b,iZ⟩:=gJ.1 h;obtain⟨b',h1,_⟩:=hb.get iZ;rw[h1];rfl
 .obtain ⟨b',h1,h2⟩:=hb.get k;exact h2.1<|r.hl (by rw[<-jQ];exact h) id b' h1
def Iw(σ:PS):List Nat->List (Nat×Bx)
 | []=>[]
 |i::l=>match σ.bo i with
  |some b=>(i,b)::Iw σ l
  |none=>Iw σ l
def PS.cut(ts bs:List Nat)(σ:PS):PS:={ n:=σ.n,nl:=σ.nl,t:=ts.map λt=>(t,σ.get t),b:=Iw σ bs }
def zY.cut(σ:PS):∀ ts:List Nat,zY σ (ts.map λt=>(t,σ.get t))
 | []=>trivial
 |_::l=>⟨PV.le.refl _,zY.cut σ l⟩
def yI.cut(σ:PS):∀ bs:List Nat,yI σ (Iw σ bs)
 | []=>trivial
 |i::l=>by
  unfold Iw;split
  .rename_i b h;exact⟨⟨b,h,Bx.le.refl b⟩,yI.cut σ l⟩
  .exact yI.cut σ l
def PS.le.cut{σ:PS}(ts bs:List Nat)(hr:Kp (σ.cut ts bs)=true):PS.le σ<|σ.cut ts bs:=PS.le.oE rfl rfl hr (zY.cut σ ts) (yI.cut σ bs)
def Ex.to:Ex->Exit
 | .normal=>.normal
 | .exit id=>.exit id
 | .ret=>.ret
def Sp(P:Program)(K:World->Prop)(c:Code)(σ:PS)(Q:Ex->PS->Prop):Prop:=
 ∀ (w0:mQ) (B:Nat->Prop) (a:Act) (w:World) (L:Lk),Gd P K w0 B->jh w0 B σ a w L->c.wp P (λe a' w'=>∃ ex τ L',e=ex.to/\Q ex τ/\jh w0 B τ a' w' L') a w
def Sp.mono{P:Program}{K:World->Prop}{c:Code}{σ:PS}{Q Q':Ex->PS->Prop}(h:Sp P K c σ Q)(hq:∀ e τ,Q e τ->Q' e τ):Sp P K c σ Q':=
 λw0 B a w L g r=>Code.wp_mono (λ_ _ _ ⟨ex,τ,L',h1,h2,h3⟩=>⟨ex,τ,L',h1,hq _ _ h2,h3⟩)<|h w0 B a w L g r
abbrev Lo:=List<|Nat×(Ex×PS×List Nat×List Nat)
section
variable {P:Program} {K:World->Prop} {T:List TI} {O:qY} {lo:Lo}
def Sp.loop{b:Code}{Q:Ex->PS->Prop}(J:Nat->PS->Prop)(sX:∀ n σ,J n σ->Sp P K b σ (λe τ=>(e = .normal/\∃ m,m<n/\J m τ)\/(e ≠ .normal/\Q e τ))):
 ∀ n σ,J n σ->Sp P K (.loop b) σ Q:=by
 intro n0 σ0 hJ0 w0 B a0 w1 L0 g r0 bf k cs;have key:∀ n σ a w L,J n σ->jh w0 B σ a w L ->
  ∃ e a' w',(∃ ex τ L',e=ex.to/\Q ex τ/\jh w0 B τ a' w' L')/\Arrives P (lone (bf.at a<|.code b :: .inLoop b::k) cs w) bf k cs e a' w':=by
  intro n
  induction n using Nat.strongRecOn with
  |_ n ih=>
   intro σ a w L hJ r;obtain⟨e,a₁,w₁,⟨ex,υ,L2,rfl,hq,og⟩,ve⟩:=sX n σ hJ w0 B a w L g r bf (.inLoop b::k) cs;rcases hq with⟨rfl,m,hm,Qr⟩|⟨jV,hq⟩
   .obtain ⟨e₂,a₂,w₂,Q9,QH⟩:=ih m hm υ a₁ w₁ L2 Qr og;exact⟨e₂,a₂,w₂,Q9,.of_steps (Steps.trans ve<|.one step_inLoop) QH⟩
   .cases ex with
    |normal=>exact absurd rfl jV
    |exit i=>exact⟨_,a₁,w₁,⟨.exit i,υ,L2,rfl,hq,og⟩,.pass (x:=.inLoop b) rfl (λ_ _=>.inl<|by simp[Ex.to]) ve⟩
    |ret=>exact⟨_,a₁,w₁,⟨.ret,υ,L2,rfl,hq,og⟩,.pass (x:=.inLoop b) rfl (λ_ _=>.inl<|by simp[Ex.to]) ve⟩
 obtain⟨e,a',w',hq,ve⟩:=key n0 σ0 a0 w1 L0 hJ0 r0;exact⟨e,a',w',hq,.of_steps (.one step_loop) ve⟩
def arQ{w0:mQ}{B:Nat->Prop}{σ:PS}{a:Act}{w:World}{L:Lk}(hB:∀ b,B b->w0.vH b)(r:jh w0 B σ a w L){p:PV}{e:E}(h:KJ σ p=some e){v:Value}(hv:kZ (bad B L) (jt L) L w p v):
 iO B (λ_=>True) w e v:=by
 have Xz:∀ id x,L.own id x->¬B x:=λid x hx hb=>(r.hw id x hx).1<|hB x hb
 have own:∀ (v:Value) (T:TypeId) (n sz:Nat) (f:Nat->Nat->Value) (nl:Bool) (el:Nat->Nat->E) (id:Nat),nu w v T n sz f nl->(∀ x,v.ownBlock=some x->L.own id x) ->
  (∀ i j,i<n->j<sz->iO (bad B L) (jt L) w (el i j) (f i j)/\(el i j).nr 2=true)->iO B (λ_=>True) w (.sl nl n sz el) v:=by
  intro v T n sz f nl el id h1 h2 h3;rcases h1 with⟨rfl,rfl⟩|⟨b,ofs,c,cur,rfl,hg,qf,oZ,nL,kF,jQ⟩
  .exact .sl nl 0 sz el none 0 f (bw _) aE (λ_=>rfl) (λi j hi=>absurd hi<|bC i) (λi j hi=>absurd hi<|bC i) (λi j hi=>absurd hi<|bC i) λi j hi=>absurd hi<|bC i
  .have qg:=h2 b rfl;refine .sl nl n sz el _ c f qf (by unfold maxLen at oZ;omega) (λh=>by cases h) (λi j hi hj=>⟨(kF i j hi hj).2,λhn=>jQ hn _<|ek (kF i j hi hj).1⟩) (λi j hi hj=>(h3 i j hi hj).2)
    (λi j hi hj=>⟨b,ofs,rfl,Xz id b qg,(r.hw id b qg).2,?_⟩) (λi j hi hj=>((h3 i j hi hj).1.nS (λ_ h=>.inl h) λ_ h=>h).nr 2 (h3 i j hi hj).2)
   simp only[World.cell?,hg];simpa using(kF i j hi hj).1
 cases p with
 |e x=>
  simp only[KJ]at h;split at h
  .rename_i hn;cases h;exact(iO.nS (bs':=B) (br':=jt L) (λ_ h=>.inl h) (λ_ h=>h) hv).nr 3 hn
  .cases h
 |own id=>
  obtain⟨_,rfl⟩:=hv;simp only[KJ]at h;split at h
  .rename_i nl T n sz el iZ;cases h;obtain⟨f,h1,h2,h3⟩:=r.hb id _ iZ;exact own _ T n sz f nl el id h1 (λx hx=>(h2 x).2 hx) h3
  .rename_i nl T1 T0 n sz len el iZ;cases h;rcases r.hb id _ iZ with⟨h1,h2,_⟩|ju
   .subst h2;rw[h1];exact .sl true 0 1 _ none 0 (λ_ _=>undef) (bw _) aE (λ_=>rfl) (λi j hi=>absurd hi<|bC i) (λi j hi=>absurd hi<|bC i) (λi j hi=>absurd hi<|bC i) λi j hi=>absurd hi<|bC i
   obtain⟨b,ofs,c,cur,f,h1,h2,h3,h4,h5,h6,h7,h8,h9,nU,nV⟩:=ju;have qg:L.own id b:=(h9 b).2<|.inl rfl;rw[h1];refine .sl true n 1 _ _ c (λk _=>L.iQ id k) h3 (by unfold maxLen at h4;omega) (λh=>by cases h) (λk j hk hj=>?_) (λk j hk hj=>rfl)
    (λk j hk hj=>⟨b,ofs,rfl,Xz id b qg,(r.hw id b qg).2,?_⟩) (λk j hk hj=>own _ T0 (len k) sz (f k) nl (el k) id (h8 k hk).1 (λx hx=>(h9 x).2<|.inr ⟨k,hk,hx⟩) (h8 k hk).2)
   .obtain ⟨_,q1,q2⟩:=(h8 k hk).1.head;exact⟨q1,λ_=>q2⟩
   .rw [cE];obtain rfl:j=0:= aC ;simp only[World.cell?,h2];simpa using h6 k hk aH 
  .cases h
 |iQ id k=>
  obtain⟨_,rfl⟩:=hv;simp only[KJ]at h;split at h
  .rename_i nl T1 T0 n sz len el iZ;split at h
   .rename_i hk;have hk:k<n:=by simpa[fK]using hk
    cases h;obtain⟨b,ofs,c,cur,f,h1,h2,h3,h4,h5,h6,h7,h8,h9,nU,nV⟩:=(r.hb id _ iZ).wm aC;exact own _ T0 (len k) sz (f k) nl (el k) id (h8 k hk).1 (λx hx=>(h9 x).2<|.inr ⟨k,hk,hx⟩) (h8 k hk).2
   .cases h
  .cases h
 |_=>cases h
def zK(tmps:Array Value):ResultVar->Sem Value
 | .tmp t=>Pure.pure<|tmps.getD t undef
 | .cell q t=>do loadVar t (<-asAddr (tmps.getD q undef))
def Kq(fn:Func)(tmps:Array Value):results fn tmps=(do
 let vs <-fn.results.mapM (zK tmps)
 Pure.pure (if h:vs.size=1 then vs[0]else .tuple vs)):=by
 unfold results;congr 1
section
variable{w0:mQ}{B:Nat->Prop}{σ:PS}{a:Act}{w:World}{L:Lk}(hT:mh P T)(hB:∀ b,B b->w0.vH b)(r:jh w0 B σ a w L)
def apm{x:ResultVar}{e:E}(h:Fi T σ x=some e):
 ∃ v,(zK a.tmps x).run P w = .ok v w/\iO B (λ_=>True) w e v:=by
 cases x with
 |tmp t=>exact⟨_,rfl,arQ hB r h<|r.ht t⟩
 |cell q t=>
  simp only[Fi]at h;split at h
  .rename_i ti nx;split at h
   .rename_i l is Je;obtain⟨b,of,vs,e1,h1,h2,h3⟩:=r.read (r.ht q) Je (λq hq=>by simp at hq);by_cases ha:ti.isAgg=true
    .rw [bk ha]at h;split at h
     .rename_i hn;cases h;refine⟨.agg vs.toArray,?_,(iO.nS (bs':=B) (br':=jt L) (λ_ h=>.inl h) (λ_ h=>h) h1.agg).nr 3 hn⟩;simp only[zK,e1,asAddr,Sem.run_bind,Sem.run_pure,Result.andThen_ok,S4 hT w nx ha b of vs h2 h3]
     .cases h
    .rw [bj ha]at h;split at h
     .rename_i y;split at h
      .rename_i hn;cases h;obtain⟨z,zs,rfl,hz,_⟩:=h1.nR;refine⟨z,?_,(iO.nS (bs':=B) (br':=jt L) (λ_ h=>.inl h) (λ_ h=>h) hz).nr 3 hn⟩;simp only[zK,e1,asAddr,Sem.run_bind,Sem.run_pure,Result.andThen_ok,Kx hT w nx (by simpa using ha) b of z<|by simpa using h3 0 z rfl]
      .cases h
     .cases h
   .cases h
  .cases h
def apj{l:List ResultVar}{es:List E}(h:Hb T σ l=some es):
 ∃ vs,(l.mapM<|zK a.tmps).run P w = .ok vs w/\ku B (λ_=>True) w es vs:=by
 induction l generalizing es with
 |nil=>simp only[Hb,bG]at h;subst h;exact⟨[],rfl,.nil _ _ _⟩
 |cons x l ih=>
  simp only[Hb]at h;split at h
  .rename_i e es' h1 h2;cases h;obtain⟨v,q1,q2⟩:=apm hT hB r h1;obtain⟨vs,p1,p2⟩:=ih h2;refine⟨v::vs,?_,.cons q2 p2⟩;rw[eX];simp only[Sem.run_bind,q1,Result.andThen_ok,p1,Sem.run_pure]
  .cases h
def apl{fn:Func}{e:E}(h:Ny T fn σ=some e):
 ∃ v,(results fn a.tmps).run P w = .ok v w/\iO B (λ_=>True) w e v:=by
 unfold Ny at h;have main:∀ es,Hb T σ fn.results.toList=some es->∃ vs:List Value,(fn.results.mapM<|zK a.tmps).run P w = .ok vs.toArray w/\ku B (λ_=>True) w es vs:=by
  intro es vg;obtain⟨vs,h1,h2⟩:=apj hT hB r vg;refine⟨vs,?_,h2⟩;rw[ie];simp only[Sem.run_map,h1,Result.andThen_ok]
 split at h
 .rename_i y hy;cases h;obtain⟨vs,h1,h2⟩:=main _ hy;obtain⟨v,vs',rfl,hv,Es⟩:=h2.nR;have:=Es.sK;subst this;refine⟨v,?_,hv⟩;rw[Kq,Sem.run_bind,h1];simp
 .rename_i l jV hl;cases h;obtain⟨vs,h1,h2⟩:=main _ hl;refine⟨.tuple vs.toArray,?_,h2.iH⟩;rw[Kq,Sem.run_bind,h1];have hlen:¬vs.length=1:=by
   rw[h2.len];intro e1
   match l,e1 with
   | [y],_=>exact jV y rfl
  simp[hlen]
 .cases h
end
def YG(args:List E):∀ (k t:Nat),look (EK k args) t=if k<=t then(args[t-k]?).map .e else none:=by
 induction args with
 |nil=>intro k t;simp[EK,look]
 |cons x l ih=>
  intro k t;simp only[EK];rw[tn,ih (k+1) t];by_cases h:k=t
  .subst h;simp
  .rw [bj h];by_cases h2:k<=t
   .rw [bk aC,bk h2,(aC:t-k=(t-(k+1))+1)];simp
   .rw [bj aC,bj h2]
def jh.init{B:Nat->Prop}{w:World}{fn:Func}{args:List E}{vs:List Value}(hr:ku B (λ_=>False) w args vs)(hn:args.length<=fn.ntmps)(nl:Bool)(_hB:∀ b,B b->b<w.heap.size/\oL w b):
 jh ⟨w,λ_=>False⟩ B (BU fn nl args) { tmps:=vs.toArray++Array.replicate (fn.ntmps-vs.toArray.size) undef,defers:=[] } w ⟨λ_=>False,λ_ _=>False,λ_=>undef,λ_ _=>undef⟩:=by
 have hlen:=hr.len;refine⟨rfl,by simp[BU];omega,λt=>?_,λid b hb=>(by cases hb),λid=>⟨λh=>h.elim,λh=>(by cases h)⟩,λ_ _ h=>h.elim,λ_ _ h=>h.elim,λ_ _ _ h=>h.elim,uS.refl _ _,λ_ id b hb=>(by cases hb)⟩;have hg:(BU fn nl args).get t=((args[t]?).map PV.e).getD (.e .any):=by
  unfold PS.get BU;rw[YG];simp
 rw[hg];by_cases ht:t<args.length
 .have Gq:t<vs.length:= aC ;rw[bD ht];have hv:(vs.toArray++Array.replicate (fn.ntmps-vs.toArray.size) undef).getD t undef=vs[t]:=by
   simp[atL,Gq]
  show iO _ _ _ _ _;rw[hv];exact(hr.kJ t _ _ (bD ht)<|bD Gq).nS (λb h=>h.elim id λ⟨_,h⟩=>h.elim) λ_ ⟨_,h⟩=>h.elim
 .rw [bW aC];exact .any _
def PC.E4(hT:mh P T)(hm:P.follows .mixedOrders=true)(hp:∀ w w',K w->Below w.heap.size w w'->K w'){f:FuncId}{fn:Func}{c:Code}{args:List E}{jk:E}(ru:∀ (vs:Array Value) (w:World),(callFunc f vs).run P w = .ok (.enter f vs) w)
 (hf:P.funcs[f]? = some fn) (hb:fn.body=some c) (hn:args.length<=fn.ntmps) (nl:Bool)
 (h:Sp P K c (BU fn nl args) (λe τ=>(e = .ret\/e = .normal)/\∃ r,Ny T fn τ=some r/\∀ (bs br:Nat->Prop) (w:World) (v:Value),iO bs br w r v->iO bs br w jk v)):PC P K f args jk:=by
 refine⟨ru,λw B vs hK hB hr=>calls_of_wp hf hb ?_⟩;have sV:=jh.init (fn:=fn) hr hn nl hB;have hg:Gd P K ⟨w,λ_=>False⟩ B:=⟨λw' k=>hp _ _ hK k.below,λb hb=>⟨⟨(hB b hb).1,λh=>h⟩,(hB b hb).2⟩⟩
 refine Code.wp_mono ?_ (h ⟨w,λ_=>False⟩ B _ w _ hg sV);rintro e a' w' ⟨ex,τ,L',rfl,⟨he,r,wZ,hle⟩,qC⟩;obtain⟨v,h1,h2⟩:=apl hT (λb hb=>(hg.hB b hb).1) qC wZ;have y7:a'.defers=[]/\∃ v,(results fn a'.tmps).run P w' = .ok v w'/\∃ v',Ending.returned v = .returned v'/\Below w.heap.size w w'/\iO B (λ_=>True) w' jk v':=⟨qC.hd,v,h1,v,rfl,qC.he.below,hle _ _ _ _ h2⟩
 rcases he with rfl|rfl
 .exact y7
 .exact y7
def wD.E4(hT:mh P T)(hm:P.follows .mixedOrders=true)(hp:∀ w w',K w->Below w.heap.size w w'->K w'){f:FuncId}{fn:Func}{c:Code}{args:List E}(ru:∀ (vs:Array Value) (w:World),(callFunc f vs).run P w = .ok (.enter f vs) w)
 (hf:P.funcs[f]? = some fn) (hb:fn.body=some c) (hn:args.length<=fn.ntmps) (nl:Bool) {nl':Bool} {T0:TypeId} {n sz:Nat} {el:Nat->Nat->E}
 (h:Sp P K c (BU fn nl args) (λe τ=>(e = .ret\/e = .normal)/\∃ t id b,fn.results.toList=[.tmp t]/\τ.get t = .own id/\τ.bo id=some b/\∀ (bs br:Nat->Prop) (L:Lk) (w:World),nh bs br L w id b->nh bs br L w id (.row nl' T0 n sz el))):wD P K f args nl' T0 n sz el:=by
 refine⟨ru,λw B vs hK hB hr=>calls_of_wp hf hb ?_⟩;have sV:=jh.init (fn:=fn) hr hn nl hB;have hg:Gd P K ⟨w,λ_=>False⟩ B:=⟨λw' k=>hp _ _ hK k.below,λb hb=>⟨⟨(hB b hb).1,λh=>h⟩,(hB b hb).2⟩⟩
 refine Code.wp_mono ?_ (h ⟨w,λ_=>False⟩ B _ w _ hg sV);rintro e a' w' ⟨ex,τ,L',rfl,⟨he,t,id,b,wZ,hg,iZ,hle⟩,qC⟩;have ho:=qC.ht t;rw[hg]at ho;obtain⟨qe,hv⟩:=ho;obtain⟨f0,h1,h2,h3⟩:=hle _ _ _ _<|qC.hb id b iZ;have kr:(results fn a'.tmps).run P w' = .ok (L'.val id) w':=by
  rw[Kq,Sem.run_bind,ie,wZ,Sem.run_map,eX];simp only[zK,Sem.run_bind,Sem.run_pure,Result.andThen_ok,atM,hv];simp
 have y7:a'.defers=[]/\∃ v,(results fn a'.tmps).run P w' = .ok v w'/\∃ v',Ending.returned v = .returned v'/\Below w.heap.size w w'/\∃ g,nu w' v' T0 n sz g nl'/\(∀ x,v'.ownBlock=some x->w.heap.size<=x/\x<w'.heap.size) /\
  ∀ i j,i<n->j<sz->iO (λb=>B b\/v'.ownBlock=some b) (λ_=>True) w' (el i j) (g i j)/\(el i j).nr 2=true:=by
  refine⟨qC.hd,_,kr,_,rfl,qC.he.below,f0,h1,λx hx=>qC.Yl<|(h2 x).2 hx,λi j hi hj=>⟨?_,(h3 i j hi hj).2⟩⟩;refine((h3 i j hi hj).1.nS (bs':=λb=>B b\/(L'.val id).ownBlock=some b) (br':=jt L') (λb hb=>?_) λ_ h=>h).nr 2 (h3 i j hi hj).2;rcases hb with hb|hb
  .exact .inl hb
  .exact .inr ⟨id,(h2 b).2 hb⟩
 rcases he with rfl|rfl
 .exact y7
 .exact y7
def yJ.E4(hT:mh P T)(hm:P.follows .mixedOrders=true)(hp:∀ w w',K w->Below w.heap.size w w'->K w'){f:FuncId}{fn:Func}{c:Code}{args:List E}(ru:∀ (vs:Array Value) (w:World),(callFunc f vs).run P w = .ok (.enter f vs) w)
 (hf:P.funcs[f]? = some fn) (hb:fn.body=some c) (hn:args.length<=fn.ntmps) (nl:Bool) {nl':Bool} {T1 T0:TypeId} {n sz:Nat} {len:Nat->Nat} {el:Nat->Nat->Nat->E}
 (h:Sp P K c (BU fn nl args) (λe τ=>(e = .ret\/e = .normal)/\∃ t id b,fn.results.toList=[.tmp t]/\τ.get t = .own id/\τ.bo id=some b/\∀ (bs br:Nat->Prop) (L:Lk) (w:World),nh bs br L w id b->nh bs br L w id (.iM nl' T1 T0 n sz len el none))):yJ P K f args nl' T1 T0 n sz len el:=by
 refine⟨ru,λw B vs hK hB hr=>calls_of_wp hf hb ?_⟩;have sV:=jh.init (fn:=fn) hr hn nl hB;have hg:Gd P K ⟨w,λ_=>False⟩ B:=⟨λw' k=>hp _ _ hK k.below,λb hb=>⟨⟨(hB b hb).1,λh=>h⟩,(hB b hb).2⟩⟩
 refine Code.wp_mono ?_ (h ⟨w,λ_=>False⟩ B _ w _ hg sV);rintro e a' w' ⟨ex,τ,L',rfl,⟨he,t,id,b,wZ,hg,iZ,hle⟩,qC⟩;have ho:=qC.ht t;rw[hg]at ho;obtain⟨qe,hv⟩:=ho;have ju:=hle _ _ _ _<|qC.hb id b iZ;have kr:(results fn a'.tmps).run P w' = .ok (L'.val id) w':=by
  rw[Kq,Sem.run_bind,ie,wZ,Sem.run_map,eX];simp only[zK,Sem.run_bind,Sem.run_pure,Result.andThen_ok,atM,hv];simp
 have y7:a'.defers=[]/\∃ v,(results fn a'.tmps).run P w' = .ok v w'/\∃ L:Lk,Ending.returned v = .returned (L.val 0)/\Below w.heap.size w w'/\(∀ x,L.own 0 x->w.heap.size<=x/\x<w'.heap.size) /\
  ((L.val 0 = .slice none 0 0/\n=0/\∀ x,¬L.own 0 x)\/xG (λb=>B b\/L.own 0 b) (λ_=>True) L w' 0 nl' T1 T0 n sz len el none):=by
  refine⟨qC.hd,_,kr,⟨λ_=>True,λ_=>L'.own id,λ_=>L'.val id,λ_=>L'.iQ id⟩,rfl,qC.he.below,λx hx=>qC.Yl hx,?_⟩;rcases ju with ju|⟨b,ofs,c,cur,f,h1,h2,h3,h4,h5,h6,h7,h8,h9,nU,nV⟩
  .exact .inl ju
  .refine .inr ⟨b,ofs,c,cur,f,h1,h2,h3,h4,h5,h6,h7,λk hk=>⟨(h8 k hk).1,λi j hi hj=>⟨?_,((h8 k hk).2 i j hi hj).2⟩⟩,h9,nU,nV⟩;refine(((h8 k hk).2 i j hi hj).1.nS (bs':=λb=>B b\/L'.own id b) (br':=jt L') (λb hb=>?_) λ_ h=>h).nr 2 ((h8 k hk).2 i j hi hj).2;rcases hb with hb|hb
   .exact .inl hb
   .exact .inr ⟨id,hb⟩
 rcases he with rfl|rfl
 .exact y7
 .exact y7
def EJ(fn:Func)(T:TypeId)(b:Nat)(l args:List E):PS:={ n:=fn.ntmps,nl:=true,t:=(0,.box fn.ntmps 0)::EK 1 args,b:=[(fn.ntmps,.nN T b l)] }
def apk{w0:mQ}{B:Nat->Prop}{σ:PS}{a:Act}{w:World}{L:Lk}(hT:mh P T)(r:jh w0 B σ a w L){q:Tmp}{t:TypeId}{e:E}(h:Fi T σ (.cell q t)=some e):
 ∃ v,(zK a.tmps<|.cell q t).run P w = .ok v w/\∀ BB:Nat->Prop,(∀ x,BB x->bad B L x)->iO BB (λ_=>True) w e v:=by
 simp only[Fi]at h;split at h
 .rename_i ti nx;split at h
  .rename_i l is Je;obtain⟨b,of,vs,e1,h1,h2,h3⟩:=r.read (r.ht q) Je (λq hq=>by simp at hq);by_cases ha:ti.isAgg=true
   .rw [bk ha]at h;split at h
    .rename_i hn;cases h;refine⟨.agg vs.toArray,?_,λBB Qo=>(iO.nS (bs':=BB) (br':=jt L) Qo (λ_ h=>h) h1.agg).nr 3 hn⟩;simp only[zK,e1,asAddr,Sem.run_bind,Sem.run_pure,Result.andThen_ok,S4 hT w nx ha b of vs h2 h3]
    .cases h
   .rw [bj ha]at h;split at h
    .rename_i y;split at h
     .rename_i hn;cases h;obtain⟨z,zs,rfl,hz,_⟩:=h1.nR;refine⟨z,?_,λBB Qo=>(iO.nS (bs':=BB) (br':=jt L) Qo (λ_ h=>h) hz).nr 3 hn⟩;simp only[zK,e1,asAddr,Sem.run_bind,Sem.run_pure,Result.andThen_ok,Kx hT w nx (by simpa using ha) b of z<|by simpa using h3 0 z rfl]
     .cases h
    .cases h
  .cases h
 .cases h
def wC.E4(hT:mh P T)(hm:P.follows .mixedOrders=true){f:FuncId}{fn:Func}{c:Code}{Tv:TypeId}{l l' args:List E}{jk:E}(ru:∀ (vs:Array Value) (w:World),(callFunc f vs).run P w = .ok (.enter f vs) w)
 (hf:P.funcs[f]? = some fn) (hb:fn.body=some c) (hn:args.length+1<=fn.ntmps) (C4:l.all E.mf=true) (nj:l.all (E.nr 3)=true) (ha2:args.all (E.nr 3)=true) (hl3:l'.all (E.nr 3)=true)
 (h:∀ b,Sp P K c (EJ fn Tv b l args) (λe τ=>(e = .ret\/e = .normal)/\∃ q t r,fn.results.toList=[.cell q t]/\Fi T τ (.cell q t)=some r/\(∀ (bs br:Nat->Prop) (w:World) (v:Value),iO bs br w r v->iO bs br w jk v)/\∃ bx,τ.bo fn.ntmps=some bx/\∀ (bs br:Nat->Prop) (L:Lk) (w:World) (id:Nat),nh bs br L w id bx->nh bs br L w id (.nN Tv b l'))):wC P K f Tv l l' args jk:=by
 refine⟨ru,λw B b cs vs hK hB hBb Gb xU hl hr=>calls_of_wp hf hb ?_⟩
 let L0:Lk:=⟨λid=>id=fn.ntmps,λid x=>id=fn.ntmps/\x=b,λ_=>.pointer<|some ⟨b,0,none⟩,λ_ _=>undef⟩
 have hg:Gd P K ⟨w,λx=>x=b⟩ λx=>B x/\x≠b:=⟨λw' k=>hK w' ⟨k.os,k.tape,k.output,k.size,λx hx jV=>k.block x ⟨hx,jV⟩⟩,λx hx=>⟨⟨(hB x hx.1).1,hx.2⟩,(hB x hx.1).2⟩⟩
 have pQ:∀ x,bad (λx=>B x/\x≠b) L0 x->B x:=by
  rintro x (h|⟨id,_,rfl⟩)
  .exact h.1
  .exact hBb
 have ajY:∀ (L:Lk),L.own fn.ntmps b->∀ x,B x->bad (λx=>B x/\x≠b) L x:=λL hL x hx=>by
  by_cases e:x=b
  .subst e;exact .inr ⟨_,hL⟩
  .exact .inl ⟨hx,e⟩
 have hlen:=hr.len;have iN:b<w.heap.size:=(dq.1 Gb).1;have iZ:∀ id,(EJ fn Tv b l args).bo id=if fn.ntmps=id then some (.nN Tv b l)else none:=λid=>by
  show look [(fn.ntmps,_)] id=_;rw[tn];rfl
 have sV:jh ⟨w,λx=>x=b⟩ (λx=>B x/\x≠b) (EJ fn Tv b l args) { tmps:=(.pointer (some ⟨b,0,none⟩)::vs).toArray++Array.replicate (fn.ntmps-(.pointer (some ⟨b,0,none⟩)::vs).toArray.size) undef,defers:=[] } w L0:=by
  refine⟨rfl,by simp[EJ];omega,λt=>?_,λid bx hb=>?_,λid=>?_,λid x h=>h.1,λid x h=>?_,λid id' x h k=>h.1.trans k.1.symm,uS.refl _ _,λ_ id bx hb=>?_⟩
  .have En:(EJ fn Tv b l args).get t=if 0=t then .box fn.ntmps 0 else((look (EK 1 args) t).getD<|.e .any):=by
    unfold PS.get EJ;rw[tn];split<;>rfl
   rw[En];by_cases h0:0=t
   .subst h0;rw[bk rfl];refine⟨rfl,b,rfl,?_⟩;simp[atL]
   .rw [bj h0,YG];rw[bk aC];by_cases ht:t-1<args.length
    .have Gq:t-1<vs.length:= aC ;rw[bD ht];have hv:((.pointer (some ⟨b,0,none⟩)::vs).toArray++Array.replicate (fn.ntmps-(.pointer (some ⟨b,0,none⟩)::vs).toArray.size) undef).getD t undef=vs[t-1]:=by
      obtain⟨q,rfl⟩:∃ q,t=q+1:=⟨t-1,aC⟩
      simp at Gq;simp[atL,Gq]
     show iO _ _ _ _ _;rw[hv];exact((hr.kJ (t-1) _ _ (bD ht)<|bD Gq).nS pQ (br':=λ_=>False) λ_ h=>h).nr 3<|bO.1 ha2 _<|cB ht
    .rw [bW aC];exact .any _
  .rw [iZ]at hb;split at hb
   .rename_i e;cases hb;subst e;exact⟨cs,rfl,λx=>⟨λh=>h.2,λh=>⟨rfl,h⟩⟩,Gb,⟨hl.len,λi e v he hv=>((hl.kJ i e v he hv).nS pQ (br':=λ_=>False) λ_ h=>h).nr 3<|bO.1 nj _<|dC he⟩,xU⟩
   .cases hb
  .rw [iZ];constructor
   .intro h;rw[bk<|show fn.ntmps=id from(show id=fn.ntmps from h).symm];rfl
   .intro h;split at h
    .rename_i e;exact e.symm
    .cases h
  .obtain ⟨_,rfl⟩:=h;exact⟨λh=>h.2 rfl,iN⟩
  .rw [iZ]at hb;split at hb
   .cases hb;exact C4
   .cases hb
 refine Code.wp_mono ?_ (h b _ _ _ w L0 hg sV);rintro e a' w' ⟨ex,τ,L',rfl,⟨he,q,t,r,wZ,akn,hle,bx,rP,akf⟩,qC⟩;obtain⟨cs',k1,k2,k3,k4,k5⟩:=akf _ _ _ _ _<|qC.hb _ _ rP;obtain⟨v,h1,h2⟩:=apk hT qC akn;have Mc:=ajY L'<|(k2 b).2 rfl;have kr:(results fn a'.tmps).run P w' = .ok v w':=by
  rw[Kq,Sem.run_bind,ie,wZ,Sem.run_map,eX];simp only[Sem.run_bind,h1,Sem.run_pure,Result.andThen_ok,atM]
  try simp
 have y7:a'.defers=[]/\∃ v,(results fn a'.tmps).run P w' = .ok v w'/\∃ v' cs',Ending.returned v = .returned v'/\OG w b w'/\w'.heap[b]? = some (.cells (List.toArray cs') Tv (0,0))/\(∀ u,u ∈ cs'->u.oneCell'=true)/\ku B (λ_=>True) w' l' cs'/\iO B (λ_=>True) w' jk v':=
  ⟨qC.hd,v,kr,v,cs',rfl,⟨qC.he.os,qC.he.tape,qC.he.output,qC.he.size,λx hx jV=>qC.he.block x ⟨hx,jV⟩⟩,k3,k5,
   ⟨k4.len,λi e v he hv=>(((k4.kJ i e v he hv).nS Mc (br':=jt L') λ_ h=>h).nr 3<|bO.1 hl3 _<|dC he)⟩,hle _ _ _ _<|h2 B Mc⟩
 rcases he with rfl|rfl
 .exact y7
 .exact y7
end
def KY(P:Program):List TI->Prop
 | []=>True
 |x::l=>(P.underlying x.id=some x.d/\P.info? x.id=some x.i)/\KY P l
def KY.ok{P:Program}{T:List TI}(h:KY P T):mh P T:=by
 induction T with
 |nil=>intro x hx;simp at hx
 |cons y l ih=>
  intro x hx;rcases dw.1 hx with hx|hx
  .subst hx;exact h.1
  .exact ih h.2 x hx
def E.le(p q:E):Prop:=∀ (bs br:Nat->Prop) (w:World) (v:Value),iO bs br w p v->iO bs br w q v
def E.le.refl(p:E):E.le p p:=λ_ _ _ _ h=>h
def E.le.jq{p q:E}(h:p=q):E.le p q:=h▸E.le.refl p
def E.le.trans{p q r:E}(h:E.le p q)(k:E.le q r):E.le p r:=λ_ _ _ _ x=>k _ _ _ _<|h _ _ _ _ x
def PV.le.e{p q:E}(h:E.le p q):aj p q:=λbs br _ w v k=>h bs br w v k
def PV.le.bool{a b:Bool}(h:a=b):aj (.v<|.bool a)<|.v<|.bool b:=PV.le.e<|.jq<|by rw[h]
def PV.le.int{k:IntKind}{a b:Int}(h:a=b):aj (.v<|.int k a)<|.v<|.int k b:=PV.le.e<|.jq<|by rw[h]
def aq(a b:Int)(h:a=b:=by omega):aj (.v<|.int .i64 a)<|.v<|.int .i64 b:=.int h
def PV.le.any(p:PV):PV.le p<|.e .any:=λ_ _ _ _ _ _=>.any _
inductive vG:List E->List E->Prop
 |nil:vG [] []
 |cons {p q:E} {l m:List E} (h:E.le p q) (k:vG l m):vG (p::l)<|q::m
def vG.refl:∀ l:List E,vG l l
 | []=>.nil
 |p::l=>.cons (.refl p)<|vG.refl l
def vG.Nx{l m:List E}(h:vG l m){bs br:Nat->Prop}{w:World}{vs:List Value}(k:ku bs br w l vs):ku bs br w m vs:=by
 induction h generalizing vs with
 |nil=>exact k
 |cons h _ ih=>
  obtain⟨x,ys,rfl,h1,h2⟩:=k.nR;exact .cons (h _ _ _ _ h1)<|ih h2
def E.le.agg{l m:List E}(h:vG l m):E.le (.agg l)<|.agg m:=λ_ _ _ _ k=>by
 obtain⟨vs,rfl,hr⟩:=iO.Ic k;exact(h.Nx hr).agg
def E.le.iH{l m:List E}(h:vG l m):E.le (.iH l)<|.iH m:=λ_ _ _ _ k=>by
 obtain⟨vs,rfl,hr⟩:=iO.adi k;exact(h.Nx hr).iH
def E.le.nil(nl:Bool)(sz:Nat)(el:Nat->Nat->E):E.le (.v<|.slice none 0 0)<|.sl nl 0 sz el:=λ_ _ _ _ k=>by
 obtain rfl:=iO.kW k;exact .sl nl 0 sz el none 0 (λ_ _=>undef) (bw _) aE (λ_=>rfl) (λi j h=>absurd h<|bC i) (λi j h=>absurd h<|bC i) (λi j h=>absurd h<|bC i) λi j h=>absurd h<|bC i
def E.le.sl{nl:Bool}{n sz:Nat}{el el':Nat->Nat->E}(h:∀ i j,i<n->j<sz->E.le (el i j) (el' i j)/\(el' i j).nr 2=true):E.le (.sl nl n sz el)<|.sl nl n sz el':=λbs br w v k=>by
 cases k with
 |sl _ _ _ _ A c f hc hm h0 hl hr cell kk=>
  exact .sl nl n sz el' A c f hc hm h0 hl (λi j hi hj=>(h i j hi hj).2) cell λi j hi hj=>(h i j hi hj).1 _ _ _ _<|kk i j hi hj
def PC.le{P:Program}{K:World->Prop}{f:FuncId}{args args':List E}{jk res':E}(h:PC P K f args jk)(ha:vG args' args)(hr:E.le jk res'):PC P K f args' res':=
 ⟨h.call,λw B vs hK hB sW=>(h.run w B vs hK hB<|ha.Nx sW).mono λ_ _ ⟨v,h1,h2,h3⟩=>⟨v,h1,h2,hr _ _ _ _ h3⟩⟩
def PC.jk{P:Program}{K:World->Prop}{f:FuncId}{args:List E}{jk res':E}(h:PC P K f args jk)(hr:E.le jk res'):PC P K f args res':=h.le (vG.refl _) hr
end Go.Proofs.YtjkmahljfblobaaGreatDoor.Pu
namespace Go.Proofs.YtjkmahljfblobaaGreatDoor
open Go.RowKit Fp
section
variable(A:Option Addr)(c:Nat)(L:List Nat)(w:World)(hs:Sl w A c L)
def xq:
 Calls prog 235 #[.slice A L.length c] w λe w'=>e = .returned (.slice A (iT L).length c)/\w=w':=by
 have hc:=hs.cap;have hl:=hs.sJ;go_enter func235,ntmps235;go_wp2;go_loop [3] (λi=>∃ k:Nat,k<=L.length/\i = .int .i64 k/\nf L=nf (L.take k)) (λi=>(intOf i).toNat)
 case atStart=>exact⟨L.length,bw _,rfl,aH⟩
 case round=>
  obtain⟨k,hk,rfl,ht⟩:=hrel;have HT:=auj ht;clear ht;by_cases h0:0<k
  .obtain ⟨ab,ao,rfl,hb,h1⟩:=hs.mT (i:=k-1) aC ;have e1:((k:Int)-1).toNat=k-1:= aC ;have Z:=auj<|Ts L (k-1) aC;have NZ:=auj<|Tp L (k-1) aC;rw[gW h0]at Z NZ;generalize L[k-1]=x at *
   by_cases hx:x=0
   .have Hx:=auj hx;clear hx;have hb:((x:Int)==0)=true:=by have:=Hx.out;simp;omega
    go_wp2;go_round
    case rel=>exact⟨k-1,aC,by go_num,by rw[HT.out,Z.out Hx.out]⟩
    case measure=>simp[intOf];omega
   .have hb:((x:Int)==0)=false:= aN ;go_wp2;go_ret;exact⟨NG<|by show _=nf L;rw[HT.out,NZ.out hx],rfl⟩
  .go_wp2;go_ret;have:k=0:= aC ;subst this;exact⟨NG<|by show _=nf L;rw[HT.out];rfl,rfl⟩
def ahz:
 Calls prog 200 #[.slice A L.length c] w λe w'=>e = .returned (.slice A (iT L).length c)/\w=w':=by
 have hc:=hs.cap;have hl:=hs.sJ;go_enter func200,ntmps200;go_wp2;go_loop [3] (λi=>∃ k:Nat,k<=L.length/\i = .int .i64 k/\nf L=nf (L.take k)) (λi=>(intOf i).toNat)
 case atStart=>exact⟨L.length,bw _,rfl,aH⟩
 case round=>
  obtain⟨k,hk,rfl,ht⟩:=hrel;have HT:=auj ht;clear ht;by_cases h0:0<k
  .obtain ⟨ab,ao,rfl,hb,h1⟩:=hs.mT (i:=k-1) aC ;have e1:((k:Int)-1).toNat=k-1:= aC ;have Z:=auj<|Ts L (k-1) aC;have NZ:=auj<|Tp L (k-1) aC;rw[gW h0]at Z NZ;generalize L[k-1]=x at *
   by_cases hx:x=0
   .have Hx:=auj hx;clear hx;have hb:((x:Int)==0)=true:=by have:=Hx.out;simp;omega
    go_wp2;go_round
    case rel=>exact⟨k-1,aC,by go_num,by rw[HT.out,Z.out Hx.out]⟩
    case measure=>simp[intOf];omega
   .have hb:((x:Int)==0)=false:= aN ;go_wp2;go_ret;exact⟨NG<|by show _=nf L;rw[HT.out,NZ.out hx],rfl⟩
  .go_wp2;go_ret;have:k=0:= aC ;subst this;exact⟨NG<|by show _=nf L;rw[HT.out];rfl,rfl⟩
end
def Sl.wu{w:World}{A:Option Addr}{c:Nat}{L:List Nat}(h:Sl w A c L):Sl w A c<|iT L:=(h.take<|nf L).eqv (Od L).symm
def afg:Go.Shelf.Ren:=⟨λ|128=>284|n=>n,λ|51=>95|3=>3|4=>4|46=>134|5=>5|9=>9|n=>n,λ|n=>n⟩
def afb:Go.Proofs.Lays.n128 prog afg:={
 mixed:= aF 
 f128:=func284.trans (congrArg some aF)
 t3:=underlying3
 a3:=Tryz.isAgg3
 z3:=Tryz.sizeOf3
 v3:=Tryz.zeroValue3
 t4:=underlying4
 a4:=Tryz.isAgg4
 z4:=Tryz.sizeOf4
 v4:=Tryz.zeroValue4
 t5:=underlying5
 a5:=Tryz.isAgg5
 z5:=Tryz.sizeOf5
 v5:=Tryz.zeroValue5
 t9:=underlying9
 a9:=Tryz.isAgg9
 z9:=Tryz.sizeOf9
 v9:=Tryz.zeroValue9
 t46:=underlying134
 a46:=Tryz.isAgg134
 z46:=Tryz.sizeOf134
 v46:=Tryz.zeroValue134
 t51:=underlying95
 a51:=Tryz.isAgg95
 z51:=Tryz.sizeOf95
 v51:=Tryz.zeroValue95 }
def Zj(x:Nat)(hx:x<4294967296)(w:World):
 Calls prog 284 #[.int .u32 x] w λe w'=>e = .returned (.int .i64<|iD x)/\w=w':=by
 refine(Any.bits_Len32 afb x w aC aC).mono ?_;rintro e w' ⟨rfl,rfl⟩;rw[gz,ae7 x hx];exact⟨rfl,rfl⟩
def ar2(x k idx:Nat)(w:World)(qh:((x:Int)==0)=false)
 (key:bits BinOp.and IntKind.u32 (x:Int) (-(x:Int)%4294967296)*125613361%4294967296/134217728=(idx:Int))
 (hi:idx<32) (hk:k<32) (kF:w.cell? ⟨0,idx,none⟩=some (.int .u8 k)):
 Calls prog 249 #[.int .u32 x] w λe w'=>e = .returned (.int .i64 k)/\w=w':=by
 go_enter func249,ntmps249;go_wp2_with (simp only[key])
 go_ret;exact⟨rfl,rfl⟩
def ar1(x:Nat)(h0:x≠0)(hx:x<4294967296)(w:World)(hT:Tb w):
 Calls prog 249 #[.int .u32 x] w λe w'=>e = .returned (.int .i64<|jZ x)/\w=w':=by
 rw[<-agA x h0 hx];obtain⟨Gg,hk⟩:=Lib.lowest_bit 32 x h0 hx;obtain⟨hi,aku⟩:=Lib.deBruijn32_at _ hk;have kF:=hT _ hi;rw[aku]at kF;exact ar2 x _ _ w aN (tz32_key x _ hx h0 Gg) hi hk kF
def i64_in(n:Int)(h0:-9223372036854775808<=n:=by omega)(h1:n<=9223372036854775807:=by omega):IntKind.i64.wrap n=n:=by rw[IntKind.wrap_i64];omega
def UK{L M:List Nat}{n:Nat}(hs:iW L)(hM:iT L=M)(hn:M.length=n+1):
 ∃ x,M[n]? = some x/\x<4294967296/\(32*(n:Int)+(iD x:Int))=(iD<|val L:Int)/\iD x<=32:=by
 have hk:iW M:=hM▸hs.iT;have ht:oM M:=hM▸Cp L;rcases atx M with rfl|⟨l,x,rfl⟩
 .simp at hn
 .simp only[aty,cz,gp,Nat.add_right_cancel_iff]at hn hk ht hM ⊢;subst hn;have hx:x≠0:=by simpa using(DI _).1 ht aH 
  have iN:x<4294967296:=hk x aH;refine⟨x,aH,iN,?_,mU.2 iN⟩;have:=aff hk hx;rw[<-hM,rk]at this;omega
def aaw(A:Option Addr)(c:Nat)(L:List Nat)(w:World)(hs:Sl w A c L)(hlen:L.length<=100000000):
 Calls prog 237 #[.slice A L.length c] w λe w'=>e = .returned (.int .i64<|iD<|val L)/\w=w':=by
 have hT:=auj<|xq A c L w hs;have lq:=hs.wu;have nj:=qN L;unfold nf at nj;generalize hM:iT L=M at *
 obtain⟨n,hn⟩:∃ n,n=M.length:=⟨_,rfl⟩
 rw[<-hn]at hT nj;rcases n with _|n
 .have hv:iD (val L)=0:=by rw[<-rk,hM,dJ hn.symm];rfl
  have HV:=auj hv;clear hv hM hn;go_enter func237,ntmps237;go_wp2_with (go_at_call 235;refine hT.out.mono ?_;rintro e w' ⟨rfl,rfl⟩)
  go_ret;exact⟨by rw[HV.out];rfl,rfl⟩
 .obtain ⟨x,hx,iN,hb,ajX⟩:=UK hs.ok hM hn.symm;obtain⟨ab,ao,rfl,_,kF⟩:=lq.cell _ _ hx;have HB:=auj hb;clear hb hM hn hx;go_enter func237,ntmps237;go_wp2_with (first|(go_at_call 235;refine hT.out.mono ?_;rintro e w' ⟨rfl,rfl⟩)|(go_at_call 284;refine(Zj x iN _).mono ?_;rintro e w' ⟨rfl,rfl⟩))
  go_ret;exact⟨qv HB.out,rfl⟩
def afd{x:Nat}(h:x≠0):iD x=iD (x/2)+1:=by
 by_cases h1:x/2=0
 .have:x=1:= aC ;subst this;rfl
 .have e1:=vF h1;have e2:=tp<|x/2;have e3:=qa h1;generalize iD (x/2)=k at *
  obtain⟨j,rfl⟩:∃ j,k=j+1:=⟨k-1,aC⟩
  rw[fe]at e1;refine Bm ?_ ?_
  .rw [bM];omega
  .rw [bM];omega
def ao1(A:Option Addr)(c:Nat)(L:List Nat)(w:World)(hs:Sl w A c L)(ht:oM L)(hlen:L.length<=100000000):
 Calls prog 59 #[.slice A L.length c] w λe w'=>e = .returned (.int .i64<|iD<|val L)/\w=w':=by
 obtain⟨n,hn⟩:∃ n,n=L.length:=⟨_,rfl⟩
 rcases n with _|n
 .have hv:iD (val L)=0:=by rw[dJ hn.symm];rfl
  have HV:=auj hv;rw[<-hn];clear hv ht hn;go_enter func59,ntmps59;go_wp2;go_ret;exact⟨by rw[HV.out];rfl,rfl⟩
 .obtain ⟨x,hx,iN,hb,ajX⟩:=UK hs.ok ht hn.symm;obtain⟨ab,ao,rfl,_,kF⟩:=hs.cell _ _ hx;have HB:=auj hb;rw[<-hn]at hlen ⊢;clear hb ht hn hx;go_enter func59,ntmps59;go_wp2;go_loop [3,4] (λm y=>∃ (k z:Nat),z<4294967296/\y = .int .u32 z/\m = .int .i64 k/\k<=10000000000/\k+iD z=iD (val L)) (λ_ y=>(intOf y).toNat)
  case atStart=>exact⟨32*n,x,iN,rfl,by go_num,aC,by have:=HB.out;omega⟩
  case round=>
   obtain⟨k,z,hz,rfl,rfl,hk,he⟩:=hrel;have HE:=auj he;clear he;by_cases h0:0<z
   .have hh:=auj<|afd (x:=z) aC;have Au:k<=3300000000:=by have:=HE.out;have:=HB.out;omega
    go_wp2;go_round
    case rel=>exact⟨k+1,z/2,aC,by go_num,by go_num,aC,by rw[<-HE.out,hh.out];omega⟩
    case measure=>simp[intOf];omega
   .obtain rfl:z=0:= aC ;go_wp2;go_ret;exact⟨qv<|by rw[<-HE.out];rfl,rfl⟩
def Vp{L M:List Nat}(hL:iW L)(h:(iT L).length<(iT M).length):lf (val L) (val M) = -1:=by
 have:=Oh hL.iT (Cp M) h;rw[rk,rk]at this;unfold lf;rw[bk this]
def Vo{L M:List Nat}(hM:iW M)(h:(iT M).length<(iT L).length):lf (val L) (val M)=1:=by
 have:=Oh hM.iT (Cp L) h;rw[rk,rk]at this;unfold lf;rw[bj aC,bk this]
def Lw{M N:List Nat}(hM:iW M){k x y:Nat}(hl:M.length=N.length)(hx:M[k]? = some x)(hy:N[k]? = some y)(hd:M.drop (k+1)=N.drop (k+1))(h:x<y):val M<val N:=by
 obtain⟨h1,rfl⟩:=cD.1 hx;obtain⟨h2,rfl⟩:=cD.1 hy;exact asl hM k h1 hl hd h
def V3{M N:List Nat}{k x:Nat}(hx:M[k]? = some x)(hy:N[k]? = some x)(hd:M.drop (k+1)=N.drop (k+1)):M.drop k=N.drop k:=by
 obtain⟨h1,e1⟩:=cD.1 hx;obtain⟨h2,e2⟩:=cD.1 hy;rw[fC h1,fC h2,e1,e2,hd]
section
variable(A B:Option Addr)(c d:Nat)
def M5(L M:List Nat)(w:World)(hs:Sl w A c L)(hr:Sl w B d M)(h1:L.length<=100000000)(_h2:M.length<=100000000):
 Calls prog 180 #[.slice A L.length c,.slice B M.length d] w λe w'=>e = .returned (.int .i64<|lf (val L)<|val M)/\ja w w':=by
 have hT:=auj<|xq A c L w hs;have hU:=auj<|xq B d M w hr;have lq:=hs.wu;have og:=hr.wu;have nj:=qN L;have y4:=qN M;unfold nf at nj y4;by_cases iN:(iT L).length<(iT M).length
 .have HV:=auj<|Vp hs.ok iN;have jV:(((iT L).length:Int) != ((iT M).length:Nat))=true:= aN ;generalize (iT L).length=n at *
  generalize (iT M).length=m at *
  clear lq og;go_enter func180,ntmps180;go_wp2_with fail;refine hT.out.mono ?_;rintro e w' ⟨rfl,rfl⟩;go_wp2_with fail;refine hU.out.mono ?_;rintro e w' ⟨rfl,rfl⟩;go_wp2;go_ret;exact⟨qv<|by rw[HV.out],ja.refl _⟩
 .by_cases En:(iT M).length<(iT L).length
  .have HV:=auj<|Vo hr.ok En;have jV:(((iT L).length:Int) != ((iT M).length:Nat))=true:= aN ;generalize (iT L).length=n at *
   generalize (iT M).length=m at *
   clear lq og;go_enter func180,ntmps180;go_wp2_with fail;refine hT.out.mono ?_;rintro e w' ⟨rfl,rfl⟩;go_wp2_with fail;refine hU.out.mono ?_;rintro e w' ⟨rfl,rfl⟩;go_wp2;go_ret;exact⟨qv<|by rw[HV.out],ja.refl _⟩
  .have hl:(iT L).length=(iT M).length:= aC ;have HL:=auj hl;rw[<-hl]at hU y4;have e1:=rk L;have e2:=rk M;generalize iT L=P at *
   generalize iT M=Q at *
   have E1:=auj e1;have E2:=auj e2;clear e1 e2 hl En iN;obtain⟨n,hn⟩:∃ n,n=P.length:=⟨_,rfl⟩
   rw[<-hn]at hT hU y4 nj;have HN:=auj hn;clear hn;have jV:((n:Int) != (n:Int))=false:= aH ;have okP:=lq.ok;have E9:=og.ok;go_enter func180,ntmps180;go_wp2_with fail;refine hT.out.mono ?_;rintro e w' ⟨rfl,rfl⟩;go_wp2_with fail;refine hU.out.mono ?_;rintro e w' ⟨rfl,rfl⟩;go_wp2;go_loopw [5] (λi wr=>∃ k:Nat,k<=n/\i = .int .i64 ((k:Int)-1)/\P.drop k=Q.drop k/\ja w wr) (λi _=>(intOf i+1).toNat)
   case atStart=>exact⟨n,bw _,rfl,by rw[eN<|by rw[<-HN.out];exact bw _,eN<|by rw[<-HL.out,<-HN.out];exact bw _],ja.refl _⟩
   case round=>
    obtain⟨k,hk,rfl,hd,hb⟩:=hrel;have HD:=auj hd;clear hd;rcases k with _|k
    .go_wp2;go_ret;have e:P=Q:=by simpa using HD.out
     exact⟨qv<|by rw[<-E1.out,<-E2.out,e];unfold lf;simp,hb⟩
    .have Er:k<P.length:=by have:=HN.out;omega
     have BG:k<Q.length:=by have:=HN.out;have:=HL.out;omega
     have HP:=auj<|bD Er;have HQ:=auj<|bD BG;obtain⟨ab,ao,rfl,_,c1⟩:=(lq.below hb).mT Er;obtain⟨bb,bo,rfl,_,c2⟩:=(og.below hb).mT BG;have wY:(k:Int)<n:= aC ;have sG:(0:Int)<=k:= aC ;have x0:(0:Int)<=P[k]:= aC ;have y0:(0:Int)<=Q[k]:= aC ;generalize P[k]=x at *
     generalize Q[k]=y at *
     clear Er BG;by_cases rV:x<y
     .have Rk:(x:Int)<y:= aC ;go_wp2;go_quiet (fail);go_wp2;go_ret;have h:=Lw okP HL.out HP.out HQ.out HD.out rV;rw[E1.out,E2.out]at h;exact⟨qv<|by unfold lf;rw[bk h],below_drewN hb _⟩
     .have Rk:¬(x:Int)<y:= aC ;by_cases Rl:y<x
      .have Rm:(y:Int)<x:= aC ;go_wp2;go_quiet (fail);go_wp2;go_quiet (fail);go_wp2;go_ret;have h:=Lw E9 HL.out.symm HQ.out HP.out HD.out.symm Rl;rw[E1.out,E2.out]at h;exact⟨qv<|by unfold lf;rw[bj aC,bk h],below_drewN (below_drewN hb _) _⟩
      .have Rm:¬(y:Int)<x:= aC ;have HX:=auj (aC:x=y);go_wp2;go_quiet (fail);go_wp2;go_quiet (fail);go_wp2;go_roundw
       case rel=>exact⟨k,aC,by go_num,V3 HP.out (by rw[HX.out];exact HQ.out) HD.out,by repeat (first|exact hb|refine below_drewN ?_ _)⟩
       case measure=>simp[intOf];try omega
def ao3(P Q:List Nat)(w:World)(lq:Sl w A c P)(og:Sl w B d Q)(tP:oM P)(tQ:oM Q)(h1:P.length<=100000000)(_h2:Q.length<=100000000):
 Calls prog 141 #[.slice A P.length c,.slice B Q.length d] w λe w'=>e = .returned (.int .i64<|lf (val P)<|val Q)/\ja w w':=by
 have tP':iT P=P:=tP;have tQ':iT Q=Q:=tQ;by_cases iN:P.length<Q.length
 .have HV:=auj (Vp (M:=Q) lq.ok<|by rw[tP',tQ'];exact iN);have jV:((P.length:Int) != (Q.length:Nat))=true:= aN ;generalize P.length=n at *
  generalize Q.length=m at *
  clear lq og tP' tQ' tP tQ;go_enter func141,ntmps141;go_wp2;go_ret;exact⟨qv<|by rw[HV.out],ja.refl _⟩
 .by_cases En:Q.length<P.length
  .have HV:=auj (Vo (L:=P) og.ok<|by rw[tP',tQ'];exact En);have jV:((P.length:Int) != (Q.length:Nat))=true:= aN ;generalize P.length=n at *
   generalize Q.length=m at *
   clear lq og tP' tQ' tP tQ;go_enter func141,ntmps141;go_wp2;go_ret;exact⟨qv<|by rw[HV.out],ja.refl _⟩
  .have hl:P.length=Q.length:= aC ;have HL:=auj hl;rw[<-hl];clear hl En iN tP' tQ' tP tQ _h2;obtain⟨n,hn⟩:∃ n,n=P.length:=⟨_,rfl⟩
   rw[<-hn]at h1 ⊢;have HN:=auj hn;clear hn;have jV:((n:Int) != (n:Int))=false:= aH ;have okP:=lq.ok;have E9:=og.ok;go_enter func141,ntmps141;go_wp2;go_loopw [5] (λi wr=>∃ k:Nat,k<=n/\i = .int .i64 ((k:Int)-1)/\P.drop k=Q.drop k/\ja w wr) (λi _=>(intOf i+1).toNat)
   case atStart=>exact⟨n,bw _,rfl,by rw[eN<|by rw[<-HN.out];exact bw _,eN<|by rw[<-HL.out,<-HN.out];exact bw _],ja.refl _⟩
   case round=>
    obtain⟨k,hk,rfl,hd,hb⟩:=hrel;have HD:=auj hd;clear hd;rcases k with _|k
    .go_wp2;go_ret;have e:P=Q:=by simpa using HD.out
     exact⟨qv<|by rw[e];unfold lf;simp,hb⟩
    .have Er:k<P.length:=by have:=HN.out;omega
     have BG:k<Q.length:=by have:=HN.out;have:=HL.out;omega
     have HP:=auj<|bD Er;have HQ:=auj<|bD BG;obtain⟨ab,ao,rfl,_,c1⟩:=(lq.below hb).mT Er;obtain⟨bb,bo,rfl,_,c2⟩:=(og.below hb).mT BG;have wY:(k:Int)<n:= aC ;have sG:(0:Int)<=k:= aC ;have x0:(0:Int)<=P[k]:= aC ;have y0:(0:Int)<=Q[k]:= aC ;generalize P[k]=x at *
     generalize Q[k]=y at *
     clear Er BG;by_cases rV:x<y
     .have Rk:(x:Int)<y:= aC ;go_wp2;go_quiet (fail);go_wp2;go_ret;have h:=Lw okP HL.out HP.out HQ.out HD.out rV;exact⟨qv<|by unfold lf;rw[bk h],below_drewN hb _⟩
     .have Rk:¬(x:Int)<y:= aC ;by_cases Rl:y<x
      .have Rm:(y:Int)<x:= aC ;go_wp2;go_quiet (fail);go_wp2;go_quiet (fail);go_wp2;go_ret;have h:=Lw E9 HL.out.symm HQ.out HP.out HD.out.symm Rl;exact⟨qv<|by unfold lf;rw[bj aC,bk h],below_drewN (below_drewN hb _) _⟩
      .have Rm:¬(y:Int)<x:= aC ;have HX:=auj (aC:x=y);go_wp2;go_quiet (fail);go_wp2;go_quiet (fail);go_wp2;go_roundw
       case rel=>exact⟨k,aC,by go_num,V3 HP.out (by rw[HX.out];exact HQ.out) HD.out,by repeat (first|exact hb|refine below_drewN ?_ _)⟩
       case measure=>simp[intOf];try omega
end
def Pp(A:Option Addr)(c:Nat)(L:List Nat)(w:World)(hs:Sl w A c L):
 Calls prog 203 #[.slice A L.length c] w λe w'=>e = .returned (.slice A L.length L.length)/\w=w':=by
 have hc:=hs.cap;have hl:=hs.sJ;go_enter func203,ntmps203;go_wp2;go_ret;exact⟨rfl,rfl⟩
def Sl.Vg{w:World}{A:Option Addr}{c:Nat}{L:List Nat}(h:Sl w A c L):Sl w A L.length L:=
 ⟨bw _,bA h.cap h.sJ,h.ok,(λe=>by have:=h.AV e;have:=h.cap;omega),h.cell⟩
section
variable(A:Option Addr)(c:Nat)(L:List Nat)(w:World)(hs:Sl w A c L)(hlen:L.length<=100000000)
def Pq:
 Calls prog 204 #[.slice A L.length c] w (Aa w L):=by
 have hc:=hs.cap;have hl:=hs.sJ;rcases A with _|ad
 .have h0:=hs.AV rfl;subst h0;have:L=[]:=dJ aC;subst this;have q:=λ(w:World) (n' c':Nat)=>Lib.run_eql_slice_nil (P:=prog) w 35 _ none 0 0 n' c' underlying35
  simp only[Option.isNone_none]at q;go_enter func204,ntmps204;go_wp2;go_ret;exact⟨none,0,rfl,Sl.nil _,ja.refl _⟩
 .have q:=λ(w:World) (n' c':Nat)=>Lib.run_eql_slice_nil (P:=prog) w 35 _ (some ad) L.length c n' c' underlying35
  simp only[Option.isNone_some]at q;go_enter func204,ntmps204;have nc:([]:List Nat).length+L.length<=10000000000:= aN ;have h1:=Ow.empty w w.heap.size<|bw _;have h2:=hs.alloc<|.cells #[] 95;have h3:=zo (w:=w) (bw _)<|.cells #[] 95;go_wp2_with (at_builtin;go_must (refine Cs aG _ _ aG w.heap.size _ [] aG h1 _ _ _ L aG aG h2 nc h3 ?_);intro v' w' lW hg uy)
  obtain⟨A',c',rfl,rA⟩:=lW.sl;go_ret;exact⟨A',c',rfl,rA,(ja.alloc _ _).grown hg (zo (bw _) _) (λk hk=>by simp[Value.ownBlock]at hk;omega)⟩
def SS:
 Calls prog 218 #[.slice A L.length c] w (Aa w<|iT L):=by
 have hc:=hs.cap;have hl:=hs.sJ;have fin:∀ k:Nat,k=(iT L).length->Hid (iT L=L.take k):=λk hk=>by rw[hk];exact Od L
 go_enter func218,ntmps218;go_wp2;go_loop [3] (λi=>∃ k:Nat,k<=L.length/\i = .int .i64 k/\nf L=nf (L.take k)) (λi=>(intOf i).toNat)
 case atStart=>exact⟨L.length,bw _,rfl,aH⟩
 case round=>
  obtain⟨k,hk,rfl,ht⟩:=hrel;have HT:=auj ht;clear ht;have nc:([]:List Nat).length+(L.take k).length<=10000000000:=by rw[cJ];simp;omega
  have HK:=auj (show k=(L.take k).length by rw[cJ];omega);have h1:=Ow.empty w w.heap.size<|bw _;have h2:=(hs.take k).alloc<|.cells #[] 95;have h3:=zo (w:=w) (bw _)<|.cells #[] 95;by_cases h0:0<k
  .obtain ⟨ab,ao,rfl,hb,MF⟩:=hs.mT (i:=k-1) aC ;have e1:((k:Int)-1).toNat=k-1:= aC ;have Z:=auj<|Ts L (k-1) aC;have NZ:=auj<|Tp L (k-1) aC;rw[gW h0]at Z NZ;generalize L[k-1]=x at *
   by_cases hx:x=0
   .have Hx:=auj hx;clear hx;have hb:((x:Int)==0)=true:=by have:=Hx.out;simp;omega
    clear fin;go_wp2;go_round
    case rel=>exact⟨k-1,aC,by go_num,by rw[HT.out,Z.out Hx.out]⟩
    case measure=>simp[intOf];omega
   .have hb:((x:Int)==0)=false:= aN ;have F:=fin k (by show k=nf L;rw[HT.out,NZ.out hx]);clear fin;go_wp2_with (at_builtin;go_must (refine Cs aG _ _ aG w.heap.size _ [] aG h1 _ _ _ (L.take k) aG HK.out h2 nc h3 ?_);intro v' w' lW hg uy)
    obtain⟨A',c',rfl,rA⟩:=lW.sl;go_ret;rw[F.out];exact⟨A',c',rfl,rA,(ja.alloc _ _).grown hg (zo (bw _) _) (λk hk=>by simp[Value.ownBlock]at hk;omega)⟩
  .have:k=0:= aC ;subst this;have F:=fin 0 (by show 0=nf L;rw[HT.out];rfl);clear fin;go_wp2_with (at_builtin;go_must (refine Cs aG _ _ aG w.heap.size _ [] aG h1 _ _ _ (L.take 0) aG HK.out h2 nc h3 ?_);intro v' w' lW hg uy)
   obtain⟨A',c',rfl,rA⟩:=lW.sl;go_ret;rw[F.out];exact⟨A',c',rfl,rA,(ja.alloc _ _).grown hg (zo (bw _) _) (λk hk=>by simp[Value.ownBlock]at hk;omega)⟩
end
def ZM(A:Option Addr)(n c:Nat)(w:World):
 Calls prog 283 #[.slice A n c] w λe w'=>e = .returned (.bool<|decide (256<n))/\w=w':=by
 by_cases h:256<n
 .have h':(256:Int)<n:= aC ;go_enter func283,ntmps283;go_wp2;go_ret;exact⟨by simp[h],rfl⟩
 .have h':¬(256:Int)<n:= aC ;go_enter func283,ntmps283;go_wp2;go_ret;exact⟨aH,rfl⟩
def OJ(w:World)(g:Nat)(xs:List<|Option Addr×Nat×Nat):Prop:=∀ i x,xs[i]? = some x->w.cell? ⟨g,i,none⟩=some (.slice x.1 x.2.1 x.2.2)
section
variable(xs:List<|Option Addr×Nat×Nat)
def zU:Bool:=xs.any λx=>decide (256<x.2.1)
def adW(w:World)(e:Ending)(w':World):Prop:=
 ∃ n:Int,e = .returned (.int .i64 n)/\(0<=n↔zU xs=true)/\w=w'
end
section
variable(g:Nat)(xs:List<|Option Addr×Nat×Nat)(w:World)(hs:OJ w g xs)(hn:xs.length<=1000)
def akE:
 Calls prog 335 #[.slice (some ⟨g,0,none⟩) xs.length xs.length,.func (.func 283) #[] #[]] w (adW xs w):=by
 go_enter func335,ntmps335;go_wp2;go_loop [8] (λi=>∃ k:Nat,k<=xs.length/\i = .int .i64 k/\zU (xs.take k)=false) (λi=>xs.length-(intOf i).toNat)
 case atStart=>exact⟨0,ck _,rfl,rfl⟩
 case round=>
  obtain⟨k,hk,rfl,ht⟩:=hrel;have HT:=auj ht;clear ht;by_cases h0:k<xs.length
  .have hc:=hs k _<|bD h0;have e1:((k:Int)).toNat=k:= aC ;have ec:=ad8 g k;have HX:=auj (show zU (xs.take<|k+1)=(zU (xs.take k)||decide (256<xs[k].2.1))by
    unfold zU;rw[gn h0,List.any_append];simp)
   have HM:=auj<|cB h0;generalize xs[k]=x at *
   obtain⟨A,n,c⟩:=x;simp only at hc HX;by_cases hx:256<n
   .have hb:decide (256<n)=true:=by simp[hx]
    go_wp2_with (go_at_call 283;refine(ZM A n c _).mono ?_;rw[hb];rintro e w' ⟨rfl,rfl⟩)
    go_ret;refine⟨_,rfl,⟨λ_=>?_,λ_=> aC⟩,rfl⟩;unfold zU;rw[dE];exact⟨_,HM.out,by simpa using hx⟩
   .have hb:decide (256<n)=false:= aN ;go_wp2_with (go_at_call 283;refine(ZM A n c _).mono ?_;rw[hb];rintro e w' ⟨rfl,rfl⟩)
    go_round
    case rel=>exact⟨k+1,aC,by go_num,by rw[HX.out,HT.out,hb];rfl⟩
    case measure=>simp[intOf];omega
  .go_wp2;go_ret;have e:xs.take k=xs:=dx aC;have:=HT.out;rw[e]at this;exact⟨_,rfl,by rw[this];simp,rfl⟩
def agw:
 Calls prog 282 #[.slice (some ⟨g,0,none⟩) xs.length xs.length,.func (.func 283) #[] #[]] w λe w'=>e = .returned (.bool<|zU xs)/\w=w':=by
 have H:=auj<|akE g xs w hs hn;go_enter func282,ntmps282;go_wp2_with fail;refine H.out.mono ?_;rintro e w' ⟨n,rfl,hn,rfl⟩;have HN:=auj hn;clear hn;go_wp2;go_ret;refine⟨NF ?_,rfl⟩;have:=HN.out;cases h:zU xs<;>simp[h]at this ⊢ <;> omega
def ZO:
 Calls prog 232 #[.slice (some ⟨g,0,none⟩) xs.length xs.length] w λe w'=>e = .returned (.bool<|zU xs)/\w=w':=by
 have H:=auj<|agw g xs w hs hn;go_enter func232,ntmps232;go_wp2_with fail;refine H.out.mono ?_;rintro e w' ⟨rfl,rfl⟩;go_wp2;go_ret;exact⟨rfl,rfl⟩
end
def RR(g:Nat)(A:Option Addr)(n c:Nat)(w:World)(b:Bool)(h:w.cell? ⟨g,0,none⟩=some (.slice A n c))(hb:b=decide (256<n)):
 Calls prog 232 #[.slice (some ⟨g,0,none⟩) 1 1] w λe w'=>e = .returned (.bool b)/\w=w':=by
 have:=ZO g [(A,n,c)] w (λi x hx=>by
  obtain⟨h1,h2⟩:=cD.1 hx;obtain rfl:i=0:=by simp at h1;omega
  simp at h2;subst h2;exact h) aH 
 simpa[zU,hb]using this
def ZN(g:Nat)(A B:Option Addr)(n c m d:Nat)(w:World)(b:Bool)(h:w.cell? ⟨g,0,none⟩=some (.slice A n c))(k:w.cell? ⟨g,1,none⟩=some (.slice B m d))(hb:b=(decide (256<n)||decide (256<m))):
 Calls prog 232 #[.slice (some ⟨g,0,none⟩) 2 2] w λe w'=>e = .returned (.bool b)/\w=w':=by
 have:=ZO g [(A,n,c),(B,m,d)] w (λi x hx=>by
  obtain⟨h1,h2⟩:=cD.1 hx;simp at h1;rcases i with _|_|i
  .simp at h2;subst h2;exact h
  .simp at h2;subst h2;exact k
  .omega) aH 
 simpa[zU,hb]using this
def JY(A:Option Addr)(c:Nat)(L:List Nat)(w:World)(hs:Sl w A c L)(hl:(iT L).length<=256):
 Calls prog 233 #[.slice A L.length c] w (FG w (iT L) 0):=by
 have hT:=auj<|xq A c L w hs;have lq:=hs.wu;have hC:=hs.cap;have hL:=hs.sJ;have H2:=auj λw' (h:Sl w' A c<|iT L)=>Pp A c (iT L) w' h;generalize iT L=M at *
 obtain⟨n,hn⟩:∃ n,n=M.length:=⟨_,rfl⟩
 rw[<-hn]at hT hl H2;have HN:=auj hn;clear hn;go_enter func233,ntmps233;go_wp2_with fail;refine hT.out.mono ?_;rintro e w' ⟨rfl,rfl⟩;go_wp2_with fail;refine(RR _ A n c _ false ?_ aN).mono ?_
 .go_simp
 rintro e w' ⟨rfl,rfl⟩;go_wp2_with fail;refine(H2.out _<|lq.alloc _).mono ?_;rintro e w' ⟨rfl,rfl⟩;go_wp2;go_ret2;exact⟨A,n,by rw[HN.out];rfl,by have:=lq.Vg.alloc<|.cells #[.slice A n c] 35;rw[HN.out]at this ⊢;exact this,ja.alloc _ _⟩
def Of(a b:Nat)(ha:a<18446744073709551616:=by omega)(hb:b<18446744073709551616:=by omega):bits .or .u64 (a:Int) (b:Int)=((a |||b:Nat):Int):=by
 have hx:a |||b<2^64:=atN aC aC 
 have h1:(BitVec.ofInt 64 (a:Int)).toNat=a:=by
  rw[ig,ij];exact cF aC 
 have h2:(BitVec.ofInt 64 (b:Int)).toNat=b:=by
  rw[ig,ij];exact cF aC 
 show IntKind.u64.wrap ((BitVec.ofInt 64 (a:Int) |||BitVec.ofInt 64 (b:Int)).toNat:Int)=_;rw[BitVec.toNat_or,h1,h2,IntKind.wrap_u64];omega
def Nh(a b k:Nat)(h:a<2^k):a |||b*2^k=a+b*2^k:=by
 rw[bQ,Nat.or_comm,<-Nat.two_pow_add_eq_or_of_lt h];omega
def Sl.drop{w:World}{A:Option Addr}{c:Nat}{L:List Nat}(h:Sl w A c L)(k:Nat):Sl w (A.map (·.add k)) (c-k)<|L.drop k:=
 ⟨by have:=h.cap;rw[dz];omega,bA (fm _ _) h.sJ,h.ok.drop k,(λe=>by
  rcases A with _|ad
  .rw [h.AV rfl];omega
  .cases e),λi x hx=>by
  rw[dK]at hx;obtain⟨b,o,rfl,h1,h2⟩:=h.cell _ _ hx;exact⟨b,o+k,by rw[cA,DR],h1,by rw[de];exact h2⟩⟩
section
variable(T:List Nat)
def part(k:Nat):List Nat:=T.take k++List.replicate (T.length-k) 0
def aoo:part T 0=List.replicate T.length 0:=by unfold part;simp
def aom:part T T.length=T:=by unfold part;simp
def aon(k:Nat)(h:k<T.length):(part T k)[k]? = some 0:=by
 unfold part;rw[dL aW,cJ,gL,bk aC]
def abg(k x:Nat)(h:T[k]? = some x):(part T k).set k x=part T (k+1):=by
 obtain⟨h1,rfl⟩:=cD.1 h;unfold part;rw[List.set_append_right _ _ aW,cJ,dA aC,dg,
  gn h1,(aC:T.length-k=(T.length-(k+1))+1),List.replicate_succ,List.set_cons_zero,atD]
 rfl
end
def aqK(x y s:Nat)(hx:x<4294967296)(hy:y<4294967296):
 bits BinOp.or IntKind.u64 (x:Int) ((y:Int)*4294967296)/2^s%4294967296=(((x+4294967296*y)/2^s%4294967296:Nat):Int):=by
 have e:((y:Int)*4294967296)=((y*2^32:Nat):Int):= aH ;rw[e,Of x<|y*2^32,Nh x y 32 aC];simp[bQ]
def aqL(x s:Nat):(x:Int)/2^s%4294967296=(((x+4294967296*0)/2^s%4294967296:Nat):Int):=by
 simp
def R7(A:Option Addr)(c:Nat)(L:List Nat)(n:Nat)(w:World)(hs:Sl w A c L)(hlen:L.length<=100000000)(hn:n<=65536):
 Calls prog 250 #[.slice A L.length c,.int .i64 n] w (Aa w<|r9 (n%32)<|(iT L).drop<|n/32):=by
 have hT:=auj<|xq A c L w hs;have lq:=hs.wu;have nj:=qN L;have hC:=lq.cap;have hL:=hs.sJ;unfold nf at nj;generalize iT L=M at *
 obtain⟨m,hm⟩:∃ m,m=M.length:=⟨_,rfl⟩
 rw[<-hm]at hT nj hC;have HM:=auj hm;clear hm;by_cases h0:m<=n/32
 .go_enter func250,ntmps250;go_wp2_with fail;refine hT.out.mono ?_;rintro e w' ⟨rfl,rfl⟩;go_wp2;go_ret;have:M.drop (n/32)=[]:=eN (by rw[<-HM.out];exact h0);rw[this];exact⟨none,0,rfl,Sl.nil _,ja.refl _⟩
 .obtain ⟨ab,ao,rfl,_,_⟩:=lq.mT (i:=0) (by have:=HM.out;omega);have hK:=lq.drop<|n/32;have wS:=auj (show m-n/32=(M.drop<|n/32).length by rw[dz,HM.out]);have pE:n/32<c:= aC ;have xS:=JO (m-n/32) aC;have qd:0<m-n/32:= aC ;have Ao:m-n/32<=100000000:= aC ;generalize M.drop (n/32)=K at *
  simp only[cA,DR]at hK;have CU:=auj<|NT (n%32) K;have Qz:=auj<|acw (n%32) K;have I1:=auj<|Dr (n%32) K;generalize r9 (n%32) K=T at *
  go_enter func250,ntmps250;go_wp2_with fail;refine hT.out.mono ?_;rintro e w' ⟨rfl,rfl⟩;go_wp2;go_loopw [25] (λi wr=>∃ k:Nat,k<=m-n/32/\i = .int .i64 k/\Rw wr w.heap.size (part T k)/\ja w wr) (λi _=>m-n/32-(intOf i).toNat)
  case atStart=>
   refine⟨0,ck _,rfl,?_,ja.alloc _ _⟩;rw[aoo,CU.out,<-wS.out];exact Rw.Dj _ _
  case round=>
   obtain⟨k,hk,rfl,hR,hb⟩:=hrel;by_cases iN:k<m-n/32
   .have wW:k<K.length:=by have:=wS.out;omega
    obtain⟨ab',ao',e',_,c1⟩:=(hK.below hb).mT wW;cases e';have hg:=Qz.out k wW;have oh:K[k]<4294967296:=hK.ok.get wW;have HK:=auj<|bD wW;have c3:=hR.cell (aon T k<|by have:=CU.out;omega);have c4:=hR.frozen k;by_cases akh:k+1<m-n/32
    .have BF:k+1<K.length:=by have:=wS.out;omega
     obtain⟨ab',ao',e',_,c2⟩:=(hK.below hb).mT BF;cases e';have hy:K.getD (k+1) 0=K[k+1]:=by rw[bt,bD BF];rfl
     rw[hy]at hg;have sI:K[k+1]<4294967296:=hK.ok.get BF;have HG:=auj hg;clear hg hy;generalize K[k]=x at *
     generalize K[k+1]=y at *
     clear wW BF;go_wp2;go_roundw
     case rel=>
      rw[aqK x y (n%32) oh sI];exact⟨k+1,aC,by go_num,by rw[<-abg T k _ HG.out];exact hR.set k _,hb.setCell (bw _) _⟩
     case measure=>simp[intOf];omega
    .have hy:K.getD (k+1) 0=0:=by rw[bt,bW<|by have:=wS.out;omega];rfl
     rw[hy]at hg;have HG:=auj hg;clear hg hy;generalize K[k]=x at *
     clear wW;go_wp2;go_roundw
     case rel=>
      rw[aqL x<|n%32];exact⟨k+1,aC,by go_num,by rw[<-abg T k _ HG.out];exact hR.set k _,hb.setCell (bw _) _⟩
     case measure=>simp[intOf];omega
   .go_wp2;go_ret;obtain rfl:k=m-n/32:= aC ;rw[wS.out,<-CU.out,aom]at hR;have:=hR.sl I1.out (by have:=CU.out;have:=wS.out;omega);rw[CU.out,<-wS.out]at this;exact⟨_,_,by rw[CU.out,<-wS.out];rfl,this,hb⟩
def aqJ{L:List Nat}(h:iW L)(n:Nat):iT (r9 (n%32)<|(iT L).drop<|n/32)=im (val L/2^n):=by
 rw[ug<|Dr _ _,Oj h.iT,rk]
def TW(w:World)(A:Option Addr)(n c:Nat):(w.alloc<|.cells #[.slice A n c] 35).cell? ⟨w.heap.size,0,none⟩=some (.slice A n c):=by
 rw[World.cell?_alloc_at _ _ _ _ rfl];rfl
section
variable(w:World)(A B:Option Addr)(n c m d:Nat)
def TX:(w.alloc<|.cells #[.slice A n c,.slice B m d] 35).cell? ⟨w.heap.size,0,none⟩=some (.slice A n c):=by
 rw[World.cell?_alloc_at _ _ _ _ rfl];rfl
def TY:(w.alloc<|.cells #[.slice A n c,.slice B m d] 35).cell? ⟨w.heap.size,1,none⟩=some (.slice B m d):=by
 rw[World.cell?_alloc_at _ _ _ _ rfl];rfl
end
def aaB(A:Option Addr)(c:Nat)(L:List Nat)(n:Nat)(w:World)(hs:Sl w A c L)(hlen:L.length<=256)(hn:n<=65536):
 Calls prog 202 #[.slice A L.length c,.int .i64 n] w (FG w (im<|val L/2^n) 0):=by
 have hf:decide (256<L.length)=false:= aN ;have h3:=auj<|aqJ hs.ok n;have h4:(iT<|r9 (n%32)<|(iT L).drop<|n/32).length<=256:=by
  have h1:=qN<|r9 (n%32)<|(iT L).drop<|n/32;unfold nf at h1;rw[NT,dz]at h1;have h2:=qN L;unfold nf at h2;omega
 have H1:=auj λw (h:Sl w A c L)=>R7 A c L n w h aC hn;generalize r9 (n%32) ((iT L).drop<|n/32)=T at *
 go_enter func202,ntmps202;go_wp2_with fail;refine(RR _ A _ c _ false (TW _ _ _ _) aN).mono ?_;rintro e w' ⟨rfl,rfl⟩;go_wp2_with fail;refine(H1.out _<|hs.alloc _).mono ?_;rintro e w' ⟨A',c',rfl,rA,hb⟩;go_wp2_with fail;refine(JY A' c' T _ rA h4).mono ?_;rintro e w'' ⟨A'',c'',rfl,w7,oe⟩;go_wp2;go_ret2;rw[<-h3.out];exact⟨A'',c'',rfl,w7,(ja.alloc _ _).trans<|hb.trans oe⟩
def ZY(n c:Nat)(hc:n<=c)(hn:c<=10000000000)(w:World):
 (Instr.makeSlice 35 (.int .i64 (n:Int))<|.int .i64 (c:Int)).run prog w = .ok (.slice (some ⟨w.heap.size,0,none⟩) n c) (w.alloc<|.cells (pB<|List.replicate c 0).toArray 95):=by
 obtain⟨i,hi,hz,h1,h2⟩:=info_parts Rr;have hr:=run_make (P:=prog) w 35 95 i _ underlying35 hi hz .i64 .i64 n c aC aC (by rw[h2];omega) aC;rw[hr,gz,gz,h1,cE];refine congrArg (λcs=>Result.ok (Value.slice (some ⟨w.heap.size,0,none⟩) n c)<|w.alloc<|.cells cs 95) ?_;apply Array.ext
 .simp [madeCells,pB]
 .intro i h1 h2;simp[madeCells,pB,Value.cells,eA]
def Ow.Dj(w:World)(base n c:Nat)(hb:base<=w.heap.size)(hc:n<=c)(hn:c<=10000000000):
 Ow (w.alloc<|.cells (pB<|List.replicate c 0).toArray 95) base (.slice (some ⟨w.heap.size,0,none⟩) n c) (List.replicate n 0):=
 ⟨⟨by simp[pB],.inr ⟨w.heap.size,c,_,aH,hb,heap_alloc_new w _,by simpa using hc,by simp only[maxLen];omega,by simp[pB],by
  simp[pB,List.take_replicate,dA hc]⟩⟩,iW.Ha n⟩
def ja.own{w w1 w2:World}(h:ja w w1)(v:Value)(L:List Nat)(ho:Ow w1 w.heap.size v L)(hg:w1.grownBy w2 v.ownBlock):ja w w2:=
 h.grown hg h.size (λk hk=>(ho.row.lt k hk).1)
def acr(x q s:Nat)(hx:x<4294967296)(hs:s<32)(hq:q<2^s):
 bits BinOp.or IntKind.u64 (IntKind.u64.wrap<|(x:Int)*2^s) (q:Int)=((x*2^s+q:Nat):Int)/\x*2^s+q<18446744073709551616/\(x*2^s+q)/4294967296<2^s:=by
 have hp:2^s<=2^31:=bY aE aC;have e31:(2:Nat)^31=2147483648:= aE ;have h1:(x+1)*2^s<=4294967296*2^s:=bU _ hx;rw[bT,bX]at h1;have h2:x*2^s<4294967296*2^s:=dI hx<|bF aE;refine⟨?_,aC,aC⟩;have e:((x:Int)*2^s)=((x*2^s:Nat):Int):= aH ;rw[e,IntKind.wrap_u64,show((x*2^s:Nat):Int)%18446744073709551616=((x*2^s:Nat):Int)by omega,Of _ _,Nat.or_comm,Nh q x s hq,gw]
section
variable(A:Option Addr)(c:Nat)(L:List Nat)(n:Nat)(w:World)(hs:Sl w A c L)
def aaG(hlen:L.length<=100000000)(hn:n<=65536):
 Calls prog 236 #[.slice A L.length c,.int .i64 n] w (λe w'=>∃ T,val T=val L*2^n/\iW T/\T.length=n/32+(iT L).length+1/\Aa w T e w'):=by
 have hT:=auj<|xq A c L w hs;have lq:=hs.wu;have nj:=qN L;have hC:=lq.cap;have hL:=hs.sJ;unfold nf at nj;have hv:=auj<|rk L;generalize iT L=M at *
 obtain⟨m,hm⟩:∃ m,m=M.length:=⟨_,rfl⟩
 rw[<-hm]at hT nj hC;have HM:=auj hm;clear hm;have xS:=ZY (n/32) (n/32+m+1) aC aC;rw[show((n/32:Nat):Int)=n/32 by omega,show((n/32+m+1:Nat):Int)=n/32+m+1 by omega]at xS;have Qt:=auj<|Ow.Dj w w.heap.size (n/32) (n/32+m+1) (bw _) aC aC;go_enter func236,ntmps236;go_wp2_with fail;refine hT.out.mono ?_;rintro e w' ⟨rfl,rfl⟩;go_wp2;go_loopw [5,6,23] (λv cy i wr=>∃ (k q:Nat) (O:List Nat),k<=m/\i = .int .i64 k/\cy = .int .u64 q/\q<2^(n%32)/\O.length=n/32+k/\val O+4294967296^(n/32+k)*q=val (M.take k)*2^(n%32)*4294967296^(n/32)/\Ow wr w.heap.size v O/\ja w wr) (λ_ _ i _=>m-(intOf i).toNat)
 case atStart=>
  exact⟨0,0,List.replicate (n/32) 0,ck _,rfl,rfl,bF aE,aH,by simp[FB],Qt.out,ja.alloc _ _⟩
 case round=>
  obtain⟨k,q,O,hk,rfl,rfl,hq,hO,mY,pF,hb⟩:=hrel;have HV:=auj mY;have HO:=auj hO;have Xf:O.length<=200000000:= aC ;have BL:=auj hq;clear mY hO hq;obtain⟨OA,Oc,rfl,Et⟩:=pF.sl;by_cases iN:k<m
  .have Ep:k<M.length:=by have:=HM.out;omega
   obtain⟨ab,ao,rfl,_,c1⟩:=(lq.below hb).mT Ep;have oh:M[k]<4294967296:=lq.ok.get Ep;have HX:=auj<|acq (c:=q) (s:=n%32) (n0:=n/32) Ep HO.out HV.out;generalize M[k]=x at *
   obtain⟨hw,Db,BQ⟩:=acr x q (n%32) oh (bR _ aE) BL.out;generalize x*2^(n%32)+q=z at *
   have Jr:=auj BQ;clear BQ;have nc:O.length+[z%4294967296].length<=10000000000:= aN ;go_wp2_with (at_builtin;go_must (refine Cs aG _ _ aG w.heap.size _ O aG (pF.alloc _) _ _ _ [z%4294967296] aG aG (Sl.GU _ _ (z%4294967296) aC aC) nc (zo hb.size _) ?_);intro v' w1 y6 hg uy)
   go_roundw
   case rel=>
    exact⟨k+1,z/4294967296,O++[z%4294967296],aC,by go_num,by go_num,Jr.out,by rw[cz,HO.out];rfl,HX.out,y6,(hb.trans<|ja.alloc _ _).own _ _ (pF.alloc _) hg⟩
   case measure=>simp[intOf];omega
  .obtain rfl:k=m:= aC ;have nc:O.length+[q].length<=10000000000:= aN ;have akq:q<4294967296:=by
    have:=BL.out;have hp:2^(n%32)<=2^31:=bY aE aC;have e31:(2:Nat)^31=2147483648:= aE ;omega
   have hqm:(q:Int)%4294967296=q:= aC ;go_wp2_with (at_builtin;go_must (refine Cs aG _ _ aG w.heap.size _ O aG (pF.alloc _) _ _ _ [q] aG aG (Sl.GU _ _ q aC aC) nc (zo hb.size _) ?_);intro v' w1 y6 hg uy)
   obtain⟨A',c',rfl,rA⟩:=y6.sl;go_ret;refine⟨O++[q],?_,rA.ok,by rw[cz,HO.out,<-HM.out];rfl,A',c',rfl,rA,(hb.trans<|ja.alloc _ _).own _ _ (pF.alloc _) hg⟩;have h:=HV.out;rw[dx<|by rw[HM.out];exact bw _]at h;rw[DL,HO.out,ui,Oi,dj,cj,h,<-hv.out,vC,bI,<-bE];congr 2;omega
section
variable(hlen:L.length<=256)(hn:n<=65536)(qS:(im<|val L*2^n).length<=256)
def aaz:
 Calls prog 179 #[.slice A L.length c,.int .i64 n] w (FG w (im<|val L*2^n) 0):=by
 have H1:=auj λw (h:Sl w A c L)=>aaG A c L n w h aC hn;obtain⟨R,hR⟩:∃ R,R=im (val L*2^n):=⟨_,rfl⟩
 rw[<-hR]at qS ⊢;have HR:=auj hR;clear hR;go_enter func179,ntmps179;go_wp2_with fail;refine(RR _ A _ c _ false (TW _ _ _ _) aN).mono ?_;rintro e w' ⟨rfl,rfl⟩;go_wp2_with fail;refine(H1.out _<|hs.alloc _).mono ?_;rintro e w' ⟨T,hT,I1,-,A',c',rfl,rA,hb⟩;have h3:=auj (show iT T=R by rw[ug I1,hT,HR.out]);clear hT I1;go_wp2_with fail;refine(JY A' c' T _ rA<|by rw[h3.out];exact qS).mono ?_;rintro e w'' ⟨A'',c'',rfl,w7,oe⟩;go_wp2;go_ret2;rw[<-h3.out];exact⟨A'',c'',rfl,w7,(ja.alloc _ _).trans<|hb.trans oe⟩
def aqH:
 Calls prog 206 #[.slice A L.length c,.int .i64 n] w (Aa w<|im<|val L*2^n):=by
 have H1:=auj<|aaz A c L n w hs hlen hn qS;generalize im (val L*2^n)=R at *
 go_enter func206,ntmps206;go_wp2_with fail;refine H1.out.mono ?_;rintro e w'' ⟨A'',c'',rfl,w7,oe⟩;go_wp2;go_ret;exact⟨A'',c'',rfl,w7,oe⟩
end
end
def ar9(a b:Nat)(ha:a<18446744073709551616)(hb:b<18446744073709551616):bits .and .u64 (a:Int) (b:Int)=((a &&& b:Nat):Int):=by
 have hx:a &&& b<2^64:=fQ _ aC;have h1:(BitVec.ofInt 64 (a:Int)).toNat=a:=by
  rw[ig,ij];exact cF aC 
 have h2:(BitVec.ofInt 64 (b:Int)).toNat=b:=by
  rw[ig,ij];exact cF aC 
 show IntKind.u64.wrap ((BitVec.ofInt 64 (a:Int) &&& BitVec.ofInt 64 (b:Int)).toNat:Int)=_;rw[BitVec.toNat_and,h1,h2,IntKind.wrap_u64];omega
def Ie(z:Nat)(hz:z<18446744073709551616):bits BinOp.and IntKind.u64 (z:Int) 4294967295=(z:Int)%4294967296:=by
 have e:(4294967295:Int)=((4294967295:Nat):Int):=rfl;rw[e,ar9 z _ hz aC,show(4294967295:Nat)=2^32-1 by decide,aub];simp
def aqN(x y s:Nat)(hx:x<4294967296)(hy:y<4294967296):
 bits BinOp.and IntKind.u64 (bits BinOp.or IntKind.u64 (x:Int) ((y:Int)*4294967296)/2^s) 4294967295=(((x+4294967296*y)/2^s%4294967296:Nat):Int):=by
 have e:((y:Int)*4294967296)=((y*2^32:Nat):Int):= aH ;rw[e,Of x<|y*2^32,Nh x y 32 aC];have h:(x+y*2^32)/2^s<18446744073709551616:=cO (cv _ _) aC;have h2:=Ie _ h;rw[show(((x+y*2^32:Nat):Int)/2^s)=(((x+y*2^32)/2^s:Nat):Int)by simp,h2];simp[bQ]
def aqM(x s:Nat)(hx:x<4294967296):bits BinOp.and IntKind.u64 ((x:Int)/2^s) 4294967295=(((x+4294967296*0)/2^s%4294967296:Nat):Int):=by
 have h:x/2^s<18446744073709551616:=cO (cv _ _) aC;rw[show((x:Int)/2^s)=((x/2^s:Nat):Int)by simp,Ie _ h];simp
def apb(A:Option Addr)(c:Nat)(M:List Nat)(n:Nat)(w:World)(lq:Sl w A c M)(hlen:M.length<=3000)(hn:n<=100000):
 Calls prog 220 #[.slice A M.length c,.int .i64 n] w (Aa w<|im<|val M/2^n):=by
 have hC:=lq.cap;have hL:=lq.sJ;have QT:Hid<|iT (r9 (n%32)<|M.drop<|n/32)=im (val M/2^n):=by
  show _=_;rw[ug<|Dr _ _,Oj lq.ok]
 obtain⟨R,hR⟩:∃ R,R=im (val M/2^n):=⟨_,rfl⟩
 rw[<-hR]at QT ⊢;clear hR;obtain⟨m,hm⟩:∃ m,m=M.length:=⟨_,rfl⟩
 rw[<-hm]at hlen hC ⊢;have HM:=auj hm;clear hm;by_cases h0:m<=n/32
 .go_enter func220,ntmps220;go_wp2;go_ret;have:M.drop (n/32)=[]:=eN (by rw[<-HM.out];exact h0);have h:=QT.out;rw[this]at h;rw[<-h];exact⟨none,0,rfl,Sl.nil _,ja.refl _⟩
 .obtain ⟨ab,ao,rfl,_,_⟩:=lq.mT (i:=0) (by have:=HM.out;omega);have hK:=lq.drop<|n/32;have wS:=auj (show m-n/32=(M.drop<|n/32).length by rw[dz,HM.out]);have pE:n/32<c:= aC ;have qd:0<m-n/32:= aC ;have Ao:m-n/32<=3000:= aC ;generalize M.drop (n/32)=K at *
  simp only[cA,DR]at hK;have CU:=auj<|NT (n%32) K;have Qz:=auj<|acw (n%32) K;have I1:=auj<|Dr (n%32) K;generalize r9 (n%32) K=T at *
  go_enter func220,ntmps220;go_wp2;go_loopw [5,6] (λv i wr=>∃ (k:Nat) (O:List Nat),k<=m-n/32/\i = .int .i64 k/\O=T.take k/\Ow wr w.heap.size v O/\ja w wr) (λ_ i _=>m-n/32-(intOf i).toNat)
  case atStart=>
   exact⟨0,[],ck _,rfl,aH,Ow.nil _ _,ja.refl _⟩
  case round=>
   obtain⟨k,O,hk,rfl,hO,pF,hb⟩:=hrel;have Xf:O.length<=3000:=by rw[hO,cJ];omega
   have HO:=auj hO;clear hO;obtain⟨OA,Oc,rfl,Et⟩:=pF.sl;by_cases iN:k<m-n/32
   .have wW:k<K.length:=by have:=wS.out;omega
    obtain⟨ab',ao',e',_,c1⟩:=(hK.below hb).mT wW;cases e';have hg:=Qz.out k wW;have oh:K[k]<4294967296:=hK.ok.get wW;have HK:=auj<|bD wW;by_cases akh:k+1<m-n/32
    .have BF:k+1<K.length:=by have:=wS.out;omega
     obtain⟨ab',ao',e',_,c2⟩:=(hK.below hb).mT BF;cases e';have hy:K.getD (k+1) 0=K[k+1]:=by rw[bt,bD BF];rfl
     rw[hy]at hg;have sI:K[k+1]<4294967296:=hK.ok.get BF;have HG:=auj hg;clear hg hy;generalize K[k]=x at *
     generalize K[k+1]=y at *
     clear wW BF;have hw:=aqN x y (n%32) oh sI;have hz:(x+4294967296*y)/2^(n%32)%4294967296<4294967296:=bR _ aE;generalize (x+4294967296*y)/2^(n%32)%4294967296=z at *
     have nc:O.length+[z].length<=10000000000:= aN ;go_wp2_with (at_builtin;go_must (refine Cs aG _ _ aG w.heap.size _ O aG (pF.alloc _) _ _ _ [z] aG aG (Sl.GU _ _ z aC aC) nc (zo hb.size _) ?_);intro v' w1 y6 hg uy)
     go_roundw
     case rel=>
      exact⟨k+1,O++[z],aC,by go_num,by rw[HO.out,List.take_add_one,HG.out];rfl,y6,(hb.trans<|ja.alloc _ _).own _ _ (pF.alloc _) hg⟩
     case measure=>simp[intOf];omega
    .have hy:K.getD (k+1) 0=0:=by rw[bt,bW<|by have:=wS.out;omega];rfl
     rw[hy]at hg;have HG:=auj hg;clear hg hy;generalize K[k]=x at *
     clear wW;have hw:=aqM x (n%32) oh;have hz:(x+4294967296*0)/2^(n%32)%4294967296<4294967296:=bR _ aE;generalize (x+4294967296*0)/2^(n%32)%4294967296=z at *
     have nc:O.length+[z].length<=10000000000:= aN ;go_wp2_with (at_builtin;go_must (refine Cs aG _ _ aG w.heap.size _ O aG (pF.alloc _) _ _ _ [z] aG aG (Sl.GU _ _ z aC aC) nc (zo hb.size _) ?_);intro v' w1 y6 hg uy)
     go_roundw
     case rel=>
      exact⟨k+1,O++[z],aC,by go_num,by rw[HO.out,List.take_add_one,HG.out];rfl,y6,(hb.trans<|ja.alloc _ _).own _ _ (pF.alloc _) hg⟩
     case measure=>simp[intOf];omega
   .have hOT:Hid<|iT O=R:=by
     show iT O=R;rw[HO.out,dx<|by rw[CU.out,<-wS.out];omega];exact QT.out
    go_wp2_with fail;refine(SS OA Oc O _ Et aC).mono ?_;rintro e w' ⟨A'',c'',rfl,w7,oe⟩;go_wp2;go_ret;rw[<-hOT.out];exact⟨A'',c'',rfl,w7,hb.trans oe⟩
def Qk{L:List Nat}{k:Nat}(h:k<L.length):L.getD k 0=L[k]:=by
 rw[bt,bD h];rfl
def Qj{L:List Nat}{k:Nat}(h:¬k<L.length):L.getD k 0=0:=by
 rw[bt,bW aC];rfl
def ar4(x s:Nat)(hx:x<4294967296):bits BinOp.and IntKind.u32 ((x:Int)/2^s) 1=((x/2^s%2:Nat):Int):=by
 have h:x/2^s<4294967296:=cO (cv _ _) aC;rw[show((x:Int)/2^s)=((x/2^s:Nat):Int)by simp,show(1:Int)=((1:Nat):Int)from rfl,bits_and_u32_nat _ _ h aE,Nat.and_one_is_mod]
def ape(A:Option Addr)(c:Nat)(L:List Nat)(w:World)(hs:Sl w A c L)(h1:L.length<=3000)(h0:val L≠0):
 Calls prog 219 #[.slice A L.length c] w λe w'=>e = .returned (.int .i64<|jZ<|val L)/\w=w':=by
 have hz:=Iu hs.ok h0;have HB:=auj λk (hk:k<jZ (val L))=>ae9 h0 hk;have HE:=auj<|ae8 h0;have HV:=auj λk=>afa hs.ok k;generalize jZ (val L)=t at *
 go_enter func219,ntmps219;go_wp2;go_loop [3] (λi=>∃ k:Nat,k<=t/\i = .int .i64 k) (λi=>t-(intOf i).toNat)
 case atStart=>exact⟨0,ck _,rfl⟩
 case round=>
  obtain⟨k,hk,rfl⟩:=hrel;have QZ:k/32<L.length:= aC ;obtain⟨ab,ao,rfl,_,c1⟩:=hs.mT QZ;have hv:=HV.out k QZ;have oh:L[k/32]<4294967296:=hs.ok.get QZ;generalize L[k/32]=x at *
  clear HV;have Ee:=ar4 x (k%32) oh;rw[<-hv]at Ee;clear hv;by_cases hkt:k<t
  .rw [HB.out k hkt]at Ee;have hb:(bits BinOp.and IntKind.u32 ((x:Int)/2^(k%32)) 1==0)=true:=by rw[Ee];rfl
   clear Ee;go_wp2;go_round
   case rel=>exact⟨k+1,aC,by go_num⟩
   case measure=>simp[intOf];omega
  .obtain rfl:k=t:= aC ;rw[HE.out]at Ee;have hb:(bits BinOp.and IntKind.u32 ((x:Int)/2^(k%32)) 1==0)=false:=by rw[Ee];rfl
   clear Ee;go_wp2;go_ret;exact⟨rfl,rfl⟩
def aaq{O:List Nat}{p a b c o:Nat}(ho:O[p]? = some o):
 val (O.set p<|(a*b+o+c)%4294967296)+4294967296^(p+1)*((a*b+o+c)/4294967296)=val O+4294967296^p*c+4294967296^p*(a*b):=by
 obtain⟨hp,rfl⟩:=cD.1 ho;have h:=TB (x:=(a*b+O[p]+c)%4294967296) hp;have e:=congrArg (4294967296^p * ·)<|ff (a*b+O[p]+c) 4294967296;simp only[ch]at e;rw[bM,bI];omega
def U4{O:List Nat}{p c o:Nat}(ho:O[p]? = some o):
 val (O.set p<|(o+c)%4294967296)+4294967296^(p+1)*((o+c)/4294967296)=val O+4294967296^p*c:=by
 have h:=aaq (a:=0) (b:=0) (c:=c) ho;simpa using h
def s7(x:Nat)(h:x<18446744073709551616:=by omega):IntKind.u64.wrap (x:Int)=x:=by rw[IntKind.wrap_u64];omega
def Fp.iW.acn{L:List Nat}(h:iW L)(k:Nat)(x:Nat):iW<|L.set k<|x%4294967296:=h.set k<|bR _ aE
def SR(s:Bool)(A:Option Addr)(c:Nat)(L:List Nat)(e:Int)(w:World)(hs:Sl w A c L)(hlen:L.length<=3000)(nb:-1000000<=e)(mv:e<=1000000):
 Calls prog 149 #[.bool s,.slice A L.length c,.int .i64 e] w (Bh w<|canon s (val L) e):=by
 by_cases h0:val L=0
 .have pR:=auj (show canon s (val L) e=iY by unfold canon;rw[bk h0];rfl);have Rd:iT L=[]:=by rw[ug hs.ok,h0,px]
  have hT:=auj λw (h:Sl w A c L)=>SS A c L w h aC;rw[Rd]at hT;clear Rd h0;go_enter func149,ntmps149;go_wp2_with fail;refine(hT.out _<|hs.alloc _).mono ?_;rintro e w' ⟨A',c',rfl,rA,hb⟩;have bx:=(jW.new w false none 0 0 0).ext hb;have b0:=bx.c0;have b1:=bx.c1;have b2:=bx.c2;have f0:=bx.fr 0;have f1:=bx.fr 1;have f2:=bx.fr 2;go_wp2;rw[pR.out];have hz:im iY.m=[]:=px;exact Br rfl rfl rfl (bx.set _ _ _ _ _) (by rw[hz];rfl) (by rw[hz];exact bx.xy (Sl.nil _) _ _ _ _ _) (jW.wq ((ja.alloc _ _).trans hb) (bw _) _ _ _ _ _)
 .have pR:=auj (show canon s (val L) e=⟨s,val L/2^jZ (val L),e+jZ (val L)⟩by unfold canon;rw[bj h0]);have hT:=auj λw (h:Sl w A c L)=>SS A c L w h aC;have Yc:=qN L;unfold nf at Yc;have hv:=rk L;have lP:=hs.ok.iT;generalize iT L=M at *
  rw[<-hv]at h0 pR ⊢;clear hv;have hZ:=auj λA c w (h:Sl w A c M)=>ape A c M w h aC h0;have vQ:jZ (val M)<=100000:=by have:=Iu lP h0;omega
  have hR:=auj λA c w (h:Sl w A c M)=>apb A c M (jZ<|val M) w h aC vQ;have vd:M.length≠0:=by intro h;rw[dJ h]at h0;exact h0 rfl
  generalize val M/2^jZ (val M)=q at *
  generalize jZ (val M)=t at *
  obtain⟨m,hm⟩:∃ m,m=M.length:=⟨_,rfl⟩
  go_enter func149,ntmps149;go_wp2_with fail;refine(hT.out _<|hs.alloc _).mono ?_;rintro e' w1 ⟨A1,c1,rfl,w8,kI⟩;go_wp2_with fail;refine(hZ.out _ _ _ w8).mono ?_;rintro e' w2 ⟨rfl,rfl⟩;go_wp2_with fail;refine(hR.out _ _ _ w8).mono ?_;rintro e' w2 ⟨A2,c2,rfl,lq,oB⟩;have hb:=kI.trans oB;have bx:=(jW.new w false none 0 0 0).ext hb;have b0:=bx.c0;have b1:=bx.c1;have b2:=bx.c2;have f0:=bx.fr 0;have f1:=bx.fr 1;have f2:=bx.fr 2;go_wp2;rw[pR.out];exact Br rfl rfl rfl (bx.set _ _ _ _ _) rfl (bx.xy lq _ _ _ _ _) (jW.wq ((ja.alloc _ _).trans hb) (bw _) _ _ _ _ _)
def ahv(A:Option Addr)(c:Nat)(L:List Nat)(w:World)(hs:Sl w A c L)(h1:L.length<=3000)(h0:val L≠0)(hT:Tb w):
 Calls prog 201 #[.slice A L.length c] w λe w'=>e = .returned (.int .i64<|jZ<|val L)/\w=w':=by
 have lP:=hs.ok;have HV:=auj λi hi h hx=>agz lP i hi h hx;have H0:=auj h0;clear h0;go_enter func201,ntmps201;go_wp2;go_loop [3,8] (λn i=>∃ k:Nat,k<=L.length/\i = .int .i64 k/\n = .int .i64 ((32*k:Nat):Int)/\∀ j,(hj:j<k)->L[j]? = some 0) (λ_ i=>L.length-(intOf i).toNat)
 case atStart=>exact⟨0,ck _,rfl,rfl,λj hj=> aC⟩
 case round=>
  obtain⟨k,hk,rfl,rfl,hz⟩:=hrel;have HZ:=auj hz;clear hz;by_cases iN:k<L.length
  .obtain ⟨ab,ao,rfl,_,c1⟩:=hs.mT iN;have oh:L[k]<4294967296:=lP.get iN;have HG:=auj<|bD iN;have HC:=auj (λhx=>HV.out k iN (λj hj=>by have:=HZ.out j hj;rw[bD aC]at this;simpa using this) hx);clear HV;generalize L[k]=x at *
   by_cases hx:x=0
   .have HX:=auj hx;clear hx;have hb:((x:Int) != 0)=false:=by have:=HX.out;simp;omega
    go_wp2;go_round
    case rel=>exact⟨k+1,aC,by go_num,by go_num,λj hj=>by
     by_cases e:j=k
     .subst e;rw[HG.out,HX.out]
     .exact HZ.out j aC⟩
    case measure=>simp[intOf];omega
   .have hb:((x:Int) != 0)=true:= aN ;have HX:=auj<|HC.out hx;have asY:jZ x<=32:=by
     have h1:=Kg hx;rcases gU 32 (jZ x)with h|h
     .have:=ik (a:=2) aE h;have e:(2:Nat)^32=4294967296:= aE ;omega
     .exact h
    go_wp2_with (go_at_call 249;refine(ar1 x hx oh _ hT).mono ?_;rintro e w' ⟨rfl,rfl⟩)
    go_ret;exact⟨qv<|by rw[HX.out];simp,rfl⟩
  .exfalso;have:val L=0:=by
    rw[KQ];intro y hy;obtain⟨j,hj,rfl⟩:=atz hy;have:=HZ.out j aC;rw[bD hj]at this;simpa using this
   exact H0.out this
def LK(s:Bool)(A:Option Addr)(c:Nat)(L:List Nat)(e:Int)(w:World)(hs:Sl w A c L)(_hlen:L.length<=100000)(nj:(iT L).length<=256)(nb:-1000000<=e)(mv:e<=1000000)(vL:Tb w):
 Calls prog 123 #[.bool s,.slice A L.length c,.int .i64 e] w (Bh w<|canon s (val L) e):=by
 have hT:=auj λw (h:Sl w A c L)=>ahz A c L w h;have lq:=hs.wu;have hv:=rk L;have lP:=hs.ok.iT;have EB:=Cp L;generalize iT L=M at *
 rw[<-hv];clear hv;by_cases h0:val M=0
 .have pR:=auj (show canon s (val M) e=iY by unfold canon;rw[bk h0];rfl);have vd:Hid<|M.length=0:=by
   show M.length=0;rw[EB.LP lP,h0,px];rfl
  obtain⟨m,hm⟩:∃ m,m=M.length:=⟨_,rfl⟩
  rw[<-hm]at hT vd;clear hm h0;obtain rfl:m=0:=vd.out;clear vd;go_enter func123,ntmps123;go_wp2_with fail;refine(hT.out _<|hs.alloc _).mono ?_;rintro e w' ⟨rfl,rfl⟩;have bx:=jW.new w false none 0 0 0;have b0:=bx.c0;have b1:=bx.c1;have b2:=bx.c2;have f0:=bx.fr 0;have f1:=bx.fr 1;have f2:=bx.fr 2;go_wp2;rw[pR.out];have hz:im iY.m=[]:=px;exact Br rfl rfl rfl bx (by rw[hz];rfl) (by rw[hz];exact Sl.nil _) (ja.alloc _ _)
 .have pR:=auj (show canon s (val M) e=⟨s,val M/2^jZ (val M),e+jZ (val M)⟩by unfold canon;rw[bj h0]);have hZ:=auj λA c w (h:Sl w A c M) (ht:Tb w)=>ahv A c M w h aC h0 ht;have vQ:jZ (val M)<=65536:=by have:=Iu lP h0;omega
  have hR:=auj λA c w (h:Sl w A c M)=>aaB A c M (jZ<|val M) w h nj vQ;have vd:M.length≠0:=by intro h;rw[dJ h]at h0;exact h0 rfl
  have vj:(im<|val M/2^jZ (val M)).length<=256:=by
   refine zp<|cO (cv _ _) ?_;exact bV (pL lP)<|bY aE nj
  generalize val M/2^jZ (val M)=q at *
  generalize jZ (val M)=t at *
  have hK:=auj λA c w (h:Sl w A c<|im q)=>Pq A c (im q) w h aC;have hP:=auj λA c w (h:Sl w A c<|im q)=>Pp A c (im q) w h;obtain⟨Q,hQ⟩:∃ Q,Q=im q:=⟨_,rfl⟩
  have HQ:=auj hQ;rw[<-hQ]at hR hK hP vj;clear hQ;go_enter func123,ntmps123;go_wp2_with fail;refine(hT.out _<|hs.alloc _).mono ?_;rintro e' w1 ⟨rfl,rfl⟩;go_wp2_with fail;refine(hZ.out _ _ _ (lq.alloc _)<|vL.alloc _).mono ?_;rintro e' w2 ⟨rfl,rfl⟩;go_wp2_with fail;refine(hR.out _ _ _<|lq.alloc _).mono ?_;rintro e' w2 ⟨A2,c2,rfl,aks,oB⟩;go_wp2_with fail;refine(hK.out _ _ _ aks).mono ?_;rintro e' w3 ⟨A3,c3,rfl,Ji,tg⟩;go_wp2_with fail;refine(hP.out _ _ _ Ji).mono ?_;rintro e' w4 ⟨rfl,rfl⟩;have hb:=oB.trans tg;have bx:=(jW.new w false none 0 0 0).ext hb;have b0:=bx.c0;have b1:=bx.c1;have b2:=bx.c2;have f0:=bx.fr 0;have f1:=bx.fr 1;have f2:=bx.fr 2;go_wp2;rw[pR.out];rw[HQ.out]at Ji ⊢;exact Br rfl rfl rfl (bx.set _ _ _ _ _) rfl (bx.xy Ji.Vg _ _ _ _ _) (jW.wq ((ja.alloc _ _).trans hb) (bw _) _ _ _ _ _)
def PJ(A:Option Addr)(c:Nat)(L:List Nat)(w:World)(hs:Sl w A c L)(hlen:L.length<=100000000):
 Calls prog 181 #[.slice A L.length c] w λe w'=>e = .returned (.int .i64<|iD<|val L)/\w=w':=by
 have H:=auj<|aaw A c L w hs hlen;go_enter func181,ntmps181;go_wp2_with fail;refine H.out.mono ?_;rintro e w' ⟨rfl,rfl⟩;go_wp2;go_ret;exact⟨rfl,rfl⟩
def xd(m:Nat)(e:Int):Bool:=decide (oi ⟨false,m,e⟩)
def Rq(s:Bool)(A:Option Addr)(c:Nat)(L:List Nat)(e:Int)(w:World)(hs:Sl w A c L)(hlen:L.length<=100000000)(nb:-9223372036854775808<=e)(mv:e<=9223372036854775807):
 Calls prog 105 #[.agg #[.bool s,.slice A L.length c,.int .i64 e]] w λr w'=>r = .returned (.bool<|xd (val L) e)/\ja w w':=by
 have H:=auj λw (h:Sl w A c L)=>PJ A c L w h hlen;have hn:Hid<|xd (val L) e=decide (iD (val L)=0\/iD (val L)<=4096 /\ -16384<=e/\e<=16384/\(iD<|val L:Int)+e<=16384):=by
  have h:iD (val L)=0↔val L=0:=by
   constructor
   .intro h;apply ca;intro h0;have:=qa h0;omega
   .intro h;rw[h];rfl
  exact atO.2<|or_congr h.symm Iff.rfl
 have CY:iD (val L)<=32*L.length:=mU.2 (by rw[<-vC];exact pL hs.ok);generalize iD (val L)=n at *
 generalize xd (val L) e=b at *
 have aj2:n=0\/(0<n/\4096<n)\/(0<n/\n<=4096/\e < -16384)\/(0<n/\n<=4096 /\ -16384<=e/\16384<e)\/(0<n/\n<=4096 /\ -16384<=e/\e<=16384/\16384<(n:Int)+e)\/(0<n/\n<=4096 /\ -16384<=e/\e<=16384/\(n:Int)+e<=16384):= aC ;rcases aj2 with h|⟨h,h1⟩|⟨h,h1,h2⟩|⟨h,h1,h2,h3⟩|⟨h,h1,h2,h3,h4⟩|⟨h,h1,h2,h3,h4⟩
 .subst h;have hb:b=true:=by rw[hn.out];simp
  clear hn;subst hb;go_enter func105,ntmps105;go_wp2_with fail;refine(H.out _<|hs.alloc _).mono ?_;rintro r w' ⟨rfl,rfl⟩;go_wp2;go_ret;exact⟨rfl,ja.alloc _ _⟩
 .have hb:b=false:=by rw[hn.out];simp;omega
  have sn:((n:Int)==0)=false:= aN ;have vR:decide ((n:Int)<=4096)=false:= aN ;clear hn;subst hb;go_enter func105,ntmps105;go_wp2_with fail;refine(H.out _<|hs.alloc _).mono ?_;rintro r w' ⟨rfl,rfl⟩;go_wp2;go_ret;exact⟨rfl,ja.alloc _ _⟩
 .have hb:b=false:=by rw[hn.out];simp;omega
  have sn:((n:Int)==0)=false:= aN ;have vR:decide ((n:Int)<=4096)=true:= aN ;have mw:decide (-16384<=e)=false:= aN ;clear hn;subst hb;go_enter func105,ntmps105;go_wp2_with fail;refine(H.out _<|hs.alloc _).mono ?_;rintro r w' ⟨rfl,rfl⟩;go_wp2;go_ret;exact⟨rfl,ja.alloc _ _⟩
 .have hb:b=false:=by rw[hn.out];simp;omega
  have sn:((n:Int)==0)=false:= aN ;have vR:decide ((n:Int)<=4096)=true:= aN ;have mw:decide (-16384<=e)=true:= aN ;have Gk:decide (e<=16384)=false:= aN ;clear hn;subst hb;go_enter func105,ntmps105;go_wp2_with fail;refine(H.out _<|hs.alloc _).mono ?_;rintro r w' ⟨rfl,rfl⟩;go_wp2;go_ret;exact⟨rfl,ja.alloc _ _⟩
 .have hb:b=false:=by rw[hn.out];simp;omega
  have sn:((n:Int)==0)=false:= aN ;have vR:decide ((n:Int)<=4096)=true:= aN ;have mw:decide (-16384<=e)=true:= aN ;have Gk:decide (e<=16384)=true:= aN ;have hn4:decide ((n:Int)+e<=16384)=false:= aN ;clear hn;subst hb;go_enter func105,ntmps105;go_wp2_with fail;refine(H.out _<|hs.alloc _).mono ?_;rintro r w' ⟨rfl,rfl⟩;go_wp2;go_ret;exact⟨rfl,ja.alloc _ _⟩
 .have hb:b=true:=by rw[hn.out];simp;omega
  have sn:((n:Int)==0)=false:= aN ;have vR:decide ((n:Int)<=4096)=true:= aN ;have mw:decide (-16384<=e)=true:= aN ;have Gk:decide (e<=16384)=true:= aN ;have hn4:decide ((n:Int)+e<=16384)=true:= aN ;clear hn;subst hb;go_enter func105,ntmps105;go_wp2_with fail;refine(H.out _<|hs.alloc _).mono ?_;rintro r w' ⟨rfl,rfl⟩;go_wp2;go_ret;exact⟨rfl,ja.alloc _ _⟩
def qk(s:Bool)(L:List Nat)(e:Int):Prop:=oM L/\L.length<=256/\Dy.ix ⟨s,val L,e⟩
def VZ(s:Bool)(e:Int):qk s [] e↔s=false/\e=0:=by
 unfold qk;constructor
 .rintro ⟨_,_,hc,_⟩;rcases hc with⟨_,h1,h2⟩|h
  .exact ⟨h1,h2⟩
  .simp at h
 .rintro ⟨rfl,rfl⟩;exact⟨oM.nil,aH,ph⟩
def VY{s:Bool}{L:List Nat}{e:Int}{x y:Nat}(hx:L[0]? = some x)(hy:L[L.length-1]? = some y):
 qk s L e↔L.length<=256/\x%2=1/\y≠0/\xd (val L) e=true:=by
 have X4:val L%2=x%2:=by
  cases L with
  |nil=>simp at hx
  |cons z l=>simp at hx;subst hx;simp only[ui];omega
 have EB:oM L↔y≠0:=by
  rw[DI];obtain⟨h1,h2⟩:=cD.1 hy;constructor
  .intro h;rw[<-h2];exact h aC 
  .intro h _;rw[h2];exact h
 unfold qk xd;rw[EB,atP];constructor
 .rintro ⟨h1,h2,hc,hr⟩;have qC:oi ⟨false,val L,e⟩:=hr;refine⟨h2,?_,h1,qC⟩;rcases hc with⟨h,_,_⟩|h
  .exfalso;have:=(EB.2 h1).Hq (by intro h0;subst h0;simp at hx);simp only at h;omega
  .rw [<-X4];exact h
 .rintro ⟨h1,h2,h3,h4⟩;exact⟨h3,h1,.inr<|by show val L%2=1;rw[X4];exact h2,h4⟩
section
variable{b:Bool}{P:Prop}(h:b=true↔P)
def se(hn:¬P):b=false:=by
 cases b
 .rfl
 .exact absurd (h.1 rfl) hn
def O6(hn:P):b=true:=h.2 hn
end
def UF{b v:Bool}{P:Prop}(h:b=true↔P)(hn:P↔v=true):b=v:=by
 cases b<;>cases v<;>simp_all
def D3(s:Bool)(A:Option Addr)(c:Nat)(L:List Nat)(e:Int)(w:World)(b:Bool)(hs:Sl w A c L)(nb:-9223372036854775808<=e)(mv:e<=9223372036854775807)(hb:b=true↔qk s L e):
 Calls prog 60 #[.agg #[.bool s,.slice A L.length c,.int .i64 e]] w λr w'=>r = .returned (.bool b)/\ja w w':=by
 have Ga:=hs.cap;have vQ:=hs.sJ;by_cases hL:L=[]
 .subst hL;rw[VZ]at hb;cases s
  .by_cases h:e=0
   .subst h;have:b=true:=by simpa using hb
    clear hb;subst this;go_enter func60,ntmps60;go_wp2;go_ret;exact⟨rfl,ja.alloc _ _⟩
   .have:b=false:=se hb (by simp[h]);have h':(e==0)=false:= aN ;clear hb;subst this;go_enter func60,ntmps60;go_wp2;go_ret;exact⟨rfl,ja.alloc _ _⟩
  .have:b=false:=se hb aH ;clear hb;subst this;go_enter func60,ntmps60;go_wp2;go_ret;exact⟨rfl,ja.alloc _ _⟩
 .have xW:0<L.length:=gM.2 hL;clear hL;obtain⟨ab,ao,rfl,_,c1⟩:=hs.mT xW;obtain⟨ab',ao',e',_,c2⟩:=hs.mT (i:=L.length-1) aC;cases e';have oh:=hs.ok.get xW;have sI:=hs.ok.get (aC:L.length-1<L.length);rw[VY (bD xW)<|bD (aC:L.length-1<L.length)]at hb;have c1':w.cell? ⟨ab,ao,none⟩=some (.int .u32 (L[0]:Int)):=c1;clear c1;generalize L[0]=x at *
  generalize L[L.length-1]=y at *
  have HB:=auj hb;clear hb;have H:=auj λw (h:Sl w (some ⟨ab,ao,none⟩) c L) (hl:L.length<=256)=>Rq s _ c L e w h aC nb mv;obtain⟨n,hn⟩:∃ n,n=L.length:=⟨_,rfl⟩
  rw[<-hn]at xW c2 H HB Ga ⊢;clear hn;generalize xd (val L) e=v at *
  have sn:((n:Int)==0)=false:= aN ;by_cases h1:n<=256
  .have vR:decide ((n:Int)<=256)=true:= aN ;by_cases h2:x%2=1
   .have mw:((x:Int)%2==1)=true:= aN ;by_cases h3:y=0
    .have:b=false:=se HB.out (by simp[h3]);have Gk:((y:Int) != 0)=false:= aN ;clear HB;subst this;go_enter func60,ntmps60;go_wp2;go_ret;exact⟨rfl,ja.alloc _ _⟩
    .have:b=v:=UF HB.out (by simp[h1,h2,h3]);have Gk:((y:Int) != 0)=true:= aN ;clear HB;subst this;go_enter func60,ntmps60;go_wp2_with fail;refine(H.out _ (hs.alloc _) h1).mono ?_;rintro r w' ⟨rfl,oe⟩;go_wp2;go_ret;exact⟨rfl,(ja.alloc _ _).trans oe⟩
   .have:b=false:=se HB.out λh=>h2 h.2.1;have mw:((x:Int)%2==1)=false:= aN ;clear HB;subst this;go_enter func60,ntmps60;go_wp2;go_ret;exact⟨rfl,ja.alloc _ _⟩
  .have:b=false:=se HB.out λh=>h1 h.1;have vR:decide ((n:Int)<=256)=false:= aN ;clear HB;subst this;go_enter func60,ntmps60;go_wp2;go_ret;exact⟨rfl,ja.alloc _ _⟩
def JJ{n k:Nat}(h:iD n<=32*k):(im n).length<=k:=zp<|by rw[vC];exact mU.1 h
def ahf(d:Dy):qk d.neg (im d.m) d.e↔d.ix:=by
 unfold qk;rw[lF];constructor
 .exact λh=>h.2.2
 .intro h;refine⟨DJ _,?_,h⟩;rcases h.range with h0|⟨h1,_⟩
  .rw [h0,px];simp
  .exact JJ aC 
def qk.LP{s:Bool}{L:List Nat}{e:Int}(h:qk s L e)(hk:iW L):L=im (val L):=h.1.LP hk
section
variable{s:Bool}{L:List Nat}{e:Int}(h:qk s L e)
def qk.len:L.length<=256:=h.2.1
def qk.bits:iD (val L)<=4096:=by
 rcases h.2.2.range with h0|⟨h1,_⟩
 .simp only at h0;rw[h0];decide
 .exact h1
def qk.exp:-16384<=e/\e<=16384:=by
 rcases h.2.2.range with h0|⟨_,h1,h2,_⟩
 .rcases h.2.2.canon with⟨_,_,h3⟩|h3
  .simp only at h3;omega
  .simp only at h0 h3;omega
 .exact ⟨h1,h2⟩
end
section
variable(s:Bool)(A:Option Addr)(c:Nat)(L:List Nat)(e:Int)(w:World)(hs:Sl w A c L)(hd:qk s L e)
def PK:
 Calls prog 176 #[.agg #[.bool s,.slice A L.length c,.int .i64 e]] w λr w'=>r = .returned (.int .i64<|Dy.iJ ⟨s,val L,e⟩)/\ja w w':=by
 obtain⟨nb,mv⟩:=hd.exp;have hl:=hd.len;have Mn:=hd.bits;have HV:=auj (λw (h:Sl w A c L)=>D3 s A c L e w true h aC aC<|by simp[hd]);have HS:=auj λw (h:Sl w A c L)=>PJ A c L w h aC;by_cases h0:L=[]
 .subst h0;go_enter func176,ntmps176;go_wp2_with fail;refine(HV.out _<|hs.alloc _).mono ?_;rintro r w' ⟨rfl,hb⟩;have bx:=(jW.new w s A 0 c e).ext hb;have b0:=bx.c0;have b1:=bx.c1;have b2:=bx.c2;go_wp2;go_ret;exact⟨rfl,(ja.alloc _ _).trans hb⟩
 .have xW:0<L.length:=gM.2 h0;have C8:val L≠0:=by have:=hd.1.Hq h0;omega
  have ht:=auj (show Dy.iJ ⟨s,val L,e⟩=iD (val L)+e by unfold Dy.iJ;rw[bj C8]);clear h0 C8;generalize Dy.iJ ⟨s,val L,e⟩=t at *
  generalize iD (val L)=q at *
  have hw:IntKind.i64.wrap ((q:Int)+e)=q+e:=i64_in _;have sn:((L.length:Int)==0)=false:=aY aC;go_enter func176,ntmps176;go_wp2_with fail;refine(HV.out _<|hs.alloc _).mono ?_;rintro r w' ⟨rfl,hb⟩;have bx:=(jW.new w s A L.length c e).ext hb;have b0:=bx.c0;have b1:=bx.c1;have b2:=bx.c2;have rA:=(hs.alloc _).below hb;go_wp2_with fail;go_region_held3 (λw'=>w'.cell? ⟨w.heap.size,1,none⟩=some (.slice A L.length c)/\w'.cell? ⟨w.heap.size,2,none⟩=some (.int .i64 e)) (go_keep)
   (first|(go_at_call 181;refine(HS.out _ ?_).mono ?_;(exact rA.drew);rintro r w'' ⟨rfl,rfl⟩))
  go_wp2;go_ret;exact⟨qv<|by rw[ht.out],Below.drew<|(ja.alloc _ _).trans hb⟩
def ahp:
 Calls prog 279 #[.agg #[.bool s,.slice A L.length c,.int .i64 e]] w λr w'=>r = .returned (.int .i64<|iD<|val L)/\ja w w':=by
 obtain⟨nb,mv⟩:=hd.exp;have hl:=hd.len;have HV:=auj (λw (h:Sl w A c L)=>D3 s A c L e w true h aC aC<|by simp[hd]);have HS:=auj λw (h:Sl w A c L)=>PJ A c L w h aC;go_enter func279,ntmps279;go_wp2_with fail;refine(HV.out _<|hs.alloc _).mono ?_;rintro r w' ⟨rfl,hb⟩;have bx:=(jW.new w s A L.length c e).ext hb;have b0:=bx.c0;have b1:=bx.c1;have b2:=bx.c2;go_wp2_with fail;refine(HS.out _<|(hs.alloc _).below hb).mono ?_;rintro r w' ⟨rfl,rfl⟩;go_wp2;go_ret;exact⟨rfl,(ja.alloc _ _).trans hb⟩
def PI:
 Calls prog 50 #[.agg #[.bool s,.slice A L.length c,.int .i64 e]] w λr w'=>r = .returned (.int .i64<|Dy.jL ⟨s,val L,e⟩)/\ja w w':=by
 obtain⟨nb,mv⟩:=hd.exp;have hl:=hd.len;have HV:=auj (λw (h:Sl w A c L)=>D3 s A c L e w true h aC aC<|by simp[hd]);by_cases h0:L=[]
 .subst h0;go_enter func50,ntmps50;go_wp2_with fail;refine(HV.out _<|hs.alloc _).mono ?_;rintro r w' ⟨rfl,hb⟩;have bx:=(jW.new w s A 0 c e).ext hb;have b0:=bx.c0;have b1:=bx.c1;have b2:=bx.c2;go_wp2;go_ret;exact⟨rfl,(ja.alloc _ _).trans hb⟩
 .have xW:0<L.length:=gM.2 h0;have C8:val L≠0:=by have:=hd.1.Hq h0;omega
  have ht:=auj (show Dy.jL ⟨s,val L,e⟩=if s then -1 else 1 by unfold Dy.jL;rw[bj C8]);clear h0 C8;generalize Dy.jL ⟨s,val L,e⟩=t at *
  have sn:((L.length:Int)==0)=false:=aY aC;go_enter func50,ntmps50;go_wp2_with fail;refine(HV.out _<|hs.alloc _).mono ?_;rintro r w' ⟨rfl,hb⟩;have bx:=(jW.new w s A L.length c e).ext hb;have b0:=bx.c0;have b1:=bx.c1;have b2:=bx.c2;cases s
  .go_wp2;go_ret;exact⟨qv<|by rw[ht.out];rfl,(ja.alloc _ _).trans hb⟩
  .go_wp2;go_ret;exact⟨qv<|by rw[ht.out];rfl,(ja.alloc _ _).trans hb⟩
end
def aiw(e:Int)(w:World)(b:Bool)(hb:b=true↔(-32768<=e/\e<=32768)):
 Calls prog 183 #[.int .i64 e] w λr w'=>r = .returned (.bool b)/\w=w':=by
 by_cases h1:-32768<=e
 .have d1:decide (-32768<=e)=true:=by simpa using h1
  by_cases h2:e<=32768
  .have d2:decide (e<=32768)=true:=by simpa using h2
   have:=O6 hb ⟨h1,h2⟩;clear hb;subst this;go_enter func183,ntmps183;go_wp2;go_ret;exact⟨rfl,rfl⟩
  .have d2:decide (e<=32768)=false:=by simpa using h2
   have:=se hb λh=>h2 h.2;clear hb;subst this;go_enter func183,ntmps183;go_wp2;go_ret;exact⟨rfl,rfl⟩
 .have d1:decide (-32768<=e)=false:=by simpa using h1
  have:=se hb λh=>h1 h.1;clear hb;subst this;go_enter func183,ntmps183;go_wp2;go_ret;exact⟨rfl,rfl⟩
section
variable(d:Dy)(A:Option Addr)(c:Nat)(w:World)(hs:Sl w A c<|im d.m)(hl:(im d.m).length<=100000000)(nb:-10000000<=d.e)(mv:d.e<=10000000)
def Vc(hd:oi d):
 Calls prog 184 #[.agg #[.bool d.neg,.slice A (im d.m).length c,.int .i64 d.e]] w (Bi w d 0):=by
 obtain⟨s,m,e⟩:=d;simp only at *
 have hr:xd m e=true:=by unfold xd;exact bu hd
 have HV:=auj λw (h:Sl w A c<|im m)=>Rq s A c (im m) e w h hl aC aC;rw[lF,hr]at HV;clear hr hd;go_enter func184,ntmps184;go_wp2_with fail;refine(HV.out _<|(hs.alloc _).alloc _).mono ?_;rintro r w' ⟨rfl,hb⟩;have bx:=((jW.new w s A (im m).length c e).alloc<|.cells #[.bool false,.slice none 0 0,.int .i64 0] 37).ext hb;have by_:=(jW.new (w.alloc<|.cells #[.bool s,.slice A (im m).length c,.int .i64 e] 37) false none 0 0 0).ext hb;have b0:=bx.c0;have b1:=bx.c1;have b2:=bx.c2;have bz:(w.alloc<|.cells #[.bool s,.slice A (im m).length c,.int .i64 e] 37).heap.size=w.heap.size+1:= aH ;rw[bz]at by_;have c0:=by_.c0;have c1:=by_.c1;have c2:=by_.c2;have f0:=by_.fr 0;have f1:=by_.fr 1;have f2:=by_.fr 2;have rA:=((hs.alloc<|.cells #[.bool s,.slice A (im m).length c,.int .i64 e] 37).alloc<|.cells #[.bool false,.slice none 0 0,.int .i64 0] 37).below hb;have oe:ja w w':=((ja.alloc _ _).trans<|ja.alloc _ _).trans hb;clear bz;go_wp2;exact FV rfl rfl rfl rfl (by_.set _ _ _ _ _) rfl (by_.xy rA _ _ _ _ _) (jW.wq oe aC _ _ _ _ _)
def agj(hd:¬oi d):
 Calls prog 184 #[.agg #[.bool d.neg,.slice A (im d.m).length c,.int .i64 d.e]] w (Bi w iY 9):=by
 obtain⟨s,m,e⟩:=d;simp only at *
 have hr:xd m e=false:=by unfold xd;exact bn hd
 have HV:=auj λw (h:Sl w A c<|im m)=>Rq s A c (im m) e w h hl aC aC;rw[lF,hr]at HV;clear hr hd;go_enter func184,ntmps184;go_wp2_with fail;refine(HV.out _<|(hs.alloc _).alloc _).mono ?_;rintro r w' ⟨rfl,hb⟩;have by_:=(jW.new (w.alloc<|.cells #[.bool s,.slice A (im m).length c,.int .i64 e] 37) false none 0 0 0).ext hb;have bz:(w.alloc<|.cells #[.bool s,.slice A (im m).length c,.int .i64 e] 37).heap.size=w.heap.size+1:= aH ;rw[bz]at by_;have c0:=by_.c0;have c1:=by_.c1;have c2:=by_.c2;have f0:=by_.fr 0;have f1:=by_.fr 1;have f2:=by_.fr 2;have oe:ja w w':=((ja.alloc _ _).trans<|ja.alloc _ _).trans hb;have hz:im iY.m=[]:=px;have HZ:=auj hz;clear bz hz;go_wp2;exact FV rfl rfl rfl rfl (by_.set _ _ _ _ _) (by rw[HZ.out];rfl) (by rw[HZ.out];exact by_.xy (Sl.nil _) _ _ _ _ _) (jW.wq oe aC _ _ _ _ _)
end
def amC(s:Bool)(A:Option Addr)(c:Nat)(L:List Nat)(e:Int)(w:World)(hs:Sl w A c L)(hlen:L.length<=256)(nb:-32768<=e)(mv:e<=32768)(vL:Tb w)(hd:oi<|canon s (val L) e):
 Calls prog 338 #[.bool s,.slice A L.length c,.int .i64 e] w (Bi w (canon s (val L) e) 0):=by
 have y3:decide (256<(L.length:Int))=false:=bn aC;have HE:=auj (λw=>aiw e w true<|by simp[nb,mv]);have HC:=auj (λw (h:Sl w A c L) (ht:Tb w)=>LK s A c L e w h aC (by have:=qN L;unfold nf at this;omega) aC aC ht);have kI:(im (canon s (val L) e).m).length<=100000000:=by
  unfold canon;split
  .simp [px]
  .refine bA (zp (k:=256)<|cO (cv _ _) ?_) aE ;exact bV (pL hs.ok)<|bY aE hlen
 have oB:-10000000<=(canon s (val L) e).e/\(canon s (val L) e).e<=10000000:=by
  unfold canon;split
  .simp
  .rename_i h0;have:=Iu hs.ok h0;simp only;omega
 obtain⟨oB,tg⟩:=oB;have HK:=auj λA c w (h:Sl w A c<|im (canon s (val L) e).m)=>Vc _ A c w h kI oB tg hd;generalize canon s (val L) e=d at *
 clear hd kI oB tg;go_enter func338,ntmps338;go_wp2_with fail;refine(HE.out _).mono ?_;rintro r w' ⟨rfl,rfl⟩;go_wp2_with fail;refine(HC.out _ (hs.alloc _)<|vL.alloc _).mono ?_;rintro r w1 ⟨A1,c1,rfl,w8,kI⟩;go_wp2_with fail;refine(HK.out _ _ _ w8).mono ?_;rintro r w2 ⟨A2,c2,rfl,lq,oB⟩;have hb:=kI.trans oB;have bx:=(jW.new w false none 0 0 0).ext hb;have b0:=bx.c0;have b1:=bx.c1;have b2:=bx.c2;have f0:=bx.fr 0;have f1:=bx.fr 1;have f2:=bx.fr 2;go_wp2;exact FV rfl rfl rfl rfl (bx.set _ _ _ _ _) rfl (bx.xy lq _ _ _ _ _) (jW.wq ((ja.alloc _ _).trans hb) (bw _) _ _ _ _ _)
def ar3(x:Nat)(hx:x<4294967296):bits BinOp.and IntKind.u32 (x:Int) 1=((x%2:Nat):Int):=by
 rw[show(1:Int)=((1:Nat):Int)from rfl,bits_and_u32_nat _ _ hx aE,Nat.and_one_is_mod]
def akC{m:Nat}(h0:m≠0)(e:Int):xd m e=true↔(iD m<=4096 /\ -16384<=e/\e<=16384/\(iD m:Int)+e<=16384):=by
 have h:xd m e=true↔oi ⟨false,m,e⟩:=atP;rw[h];constructor
 .rintro (h|h)
  .exact absurd h h0
  .exact h
 .exact λh=>.inr h
def abD(s:Bool)(A:Option Addr)(c:Nat)(L:List Nat)(e:Int)(w:World)(b:Bool)(hs:Sl w A c L)(nb:-9223372036854775808<=e)(mv:e<=9223372036854775807)(hb:b=true↔qk s L e):
 Calls prog 17 #[.agg #[.bool s,.slice A L.length c,.int .i64 e]] w λr w'=>r = .returned (.bool b)/\ja w w':=by
 have Ga:=hs.cap;have vQ:=hs.sJ;by_cases hL:L=[]
 .subst hL;rw[VZ]at hb;cases s
  .by_cases h:e=0
   .subst h;have:b=true:=by simpa using hb
    clear hb;subst this;go_enter func17,ntmps17;go_wp2;go_ret;exact⟨rfl,ja.alloc _ _⟩
   .have:b=false:=se hb (by simp[h]);have h':(e==0)=false:= aN ;clear hb;subst this;go_enter func17,ntmps17;go_wp2;go_ret;exact⟨rfl,ja.alloc _ _⟩
  .have:b=false:=se hb aH ;clear hb;subst this;go_enter func17,ntmps17;go_wp2;go_ret;exact⟨rfl,ja.alloc _ _⟩
 .have xW:0<L.length:=gM.2 hL;obtain⟨ab,ao,rfl,_,c1⟩:=hs.mT xW;obtain⟨ab',ao',e',_,c2⟩:=hs.mT (i:=L.length-1) aC;cases e';have oh:=hs.ok.get xW;have sI:=hs.ok.get (aC:L.length-1<L.length);rw[VY (bD xW)<|bD (aC:L.length-1<L.length)]at hb;have c1':w.cell? ⟨ab,ao,none⟩=some (.int .u32 (L[0]:Int)):=c1;have Xp:=auj<|show L[L.length-1]≠0->oM L from λh=>(DI L).2 λ_=>h;have yY:=auj (show L[L.length-1]≠0->val L≠0 from λh=>by have:=((DI L).2 λ_=>h).Hq hL;omega);clear c1 hL;generalize L[0]=x at *
  generalize L[L.length-1]=y at *
  have HB:=auj hb;clear hb;have H:=auj λw (h:Sl w (some ⟨ab,ao,none⟩) c L) (hl:L.length<=256) (ht:oM L)=>ao1 _ c L w h ht aC;have hr:Hid<|val L≠0->(xd (val L) e=true↔(iD (val L)<=4096 /\ -16384<=e/\e<=16384/\(iD<|val L:Int)+e<=16384)):=λh0=>by
   exact akC h0 e
  obtain⟨n,hn⟩:∃ n,n=L.length:=⟨_,rfl⟩
  rw[<-hn]at xW c2 H HB Ga ⊢;have HN:=auj hn;clear hn;have sn:((n:Int)==0)=false:= aN ;by_cases h1:n<=256
  .have vR:decide (256<(n:Int))=false:=bn aC ;by_cases h3:y=0
   .have:b=false:=se HB.out (by simp[h3]);have Gk:((y:Int)==0)=true:= aN ;clear HB hr;subst this;go_enter func17,ntmps17;go_wp2;go_ret;exact⟨rfl,ja.alloc _ _⟩
   .have Gk:((y:Int)==0)=false:=aY aC ;have hand:=ar3 x oh;by_cases h2:x%2=1
    .have mw:(bits BinOp.and IntKind.u32 (x:Int) 1==0)=false:=by rw[hand,h2];rfl
     clear hand;have h0:=yY.out h3;have EB:=Xp.out h3;have CY:iD (val L)<=32*n:=mU.2 (by rw[<-vC,HN.out];exact pL hs.ok);have HB2:Hid<|b=true↔(iD (val L)<=4096 /\ -16384<=e/\e<=16384/\(iD<|val L:Int)+e<=16384):=by
      show b=true↔_;rw[HB.out,hr.out h0];simp[h1,h2,h3]
     have H2:=auj λw h=>H.out w h h1 EB;clear HB hr h0 EB Xp yY H;generalize iD (val L)=q at *
     by_cases h4:-16384<=e
     .have d4:decide (e < -16384)=false:=bn aC ;by_cases h5:e<=16384
      .have d5:decide (16384<e)=false:=bn aC ;by_cases h6:q<=4096
       .have d6:decide ((q:Int)<=4096)=true:=bu aC ;by_cases h7:(q:Int)+e<=16384
        .have d7:decide ((q:Int)+e<=16384)=true:=bu h7;have:=O6 HB2.out ⟨h6,h4,h5,h7⟩;clear HB2;subst this;go_enter func17,ntmps17;go_wp2_with fail;refine(H2.out _<|hs.alloc _).mono ?_;rintro r w' ⟨rfl,rfl⟩;go_wp2;go_ret;exact⟨rfl,ja.alloc _ _⟩
        .have d7:decide ((q:Int)+e<=16384)=false:=bn h7;have:=se HB2.out λh=>h7 h.2.2.2;clear HB2;subst this;go_enter func17,ntmps17;go_wp2_with fail;refine(H2.out _<|hs.alloc _).mono ?_;rintro r w' ⟨rfl,rfl⟩;go_wp2;go_ret;exact⟨rfl,ja.alloc _ _⟩
       .have d6:decide ((q:Int)<=4096)=false:=bn aC ;have:=se HB2.out λh=>h6 h.1;clear HB2;subst this;go_enter func17,ntmps17;go_wp2_with fail;refine(H2.out _<|hs.alloc _).mono ?_;rintro r w' ⟨rfl,rfl⟩;go_wp2;go_ret;exact⟨rfl,ja.alloc _ _⟩
      .have d5:decide (16384<e)=true:=bu aC ;have:=se HB2.out λh=>h5 h.2.2.1;clear HB2;subst this;go_enter func17,ntmps17;go_wp2;go_ret;exact⟨rfl,ja.alloc _ _⟩
     .have d4:decide (e < -16384)=true:=bu aC ;have:=se HB2.out λh=>h4 h.2.1;clear HB2;subst this;go_enter func17,ntmps17;go_wp2;go_ret;exact⟨rfl,ja.alloc _ _⟩
    .have mw:(bits BinOp.and IntKind.u32 (x:Int) 1==0)=true:=by rw[hand,(aC:x%2=0)];rfl
     have:b=false:=se HB.out λh=>h2 h.2.1;clear HB hand hr;subst this;go_enter func17,ntmps17;go_wp2;go_ret;exact⟨rfl,ja.alloc _ _⟩
  .have:b=false:=se HB.out λh=>h1 h.1;have vR:decide (256<(n:Int))=true:=bu aC;clear HB hr;subst this;go_enter func17,ntmps17;go_wp2;go_ret;exact⟨rfl,ja.alloc _ _⟩
def ao6(e:Int)(w:World)(b:Bool)(hb:b=true↔(-32768<=e/\e<=32768)):
 Calls prog 147 #[.int .i64 e] w λr w'=>r = .returned (.bool b)/\w=w':=by
 by_cases h1:-32768<=e
 .have d1:decide (-32768<=e)=true:=by simpa using h1
  by_cases h2:e<=32768
  .have d2:decide (e<=32768)=true:=by simpa using h2
   have:=O6 hb ⟨h1,h2⟩;clear hb;subst this;go_enter func147,ntmps147;go_wp2;go_ret;exact⟨rfl,rfl⟩
  .have d2:decide (e<=32768)=false:=by simpa using h2
   have:=se hb λh=>h2 h.2;clear hb;subst this;go_enter func147,ntmps147;go_wp2;go_ret;exact⟨rfl,rfl⟩
 .have d1:decide (-32768<=e)=false:=by simpa using h1
  have:=se hb λh=>h1 h.1;clear hb;subst this;go_enter func147,ntmps147;go_wp2;go_ret;exact⟨rfl,rfl⟩
def ao2(d:Dy)(A:Option Addr)(c:Nat)(w:World)(hs:Sl w A c<|im d.m)(hl:(im d.m).length<=100000000)(nb:-10000000<=d.e)(mv:d.e<=10000000)(hd:d.ix):
 Calls prog 148 #[.agg #[.bool d.neg,.slice A (im d.m).length c,.int .i64 d.e]] w (Bi w d 0):=by
 obtain⟨s,m,e⟩:=d;simp only at *
 have HV:=auj λw (h:Sl w A c<|im m)=>abD s A c (im m) e w true h aC aC<|iff_of_true rfl ((ahf ⟨s,m,e⟩).2 hd);clear hd;go_enter func148,ntmps148;go_wp2_with fail;refine(HV.out _<|(hs.alloc _).alloc _).mono ?_;rintro r w' ⟨rfl,hb⟩;have bx:=((jW.new w s A (im m).length c e).alloc<|.cells #[.bool false,.slice none 0 0,.int .i64 0] 37).ext hb;have by_:=(jW.new (w.alloc<|.cells #[.bool s,.slice A (im m).length c,.int .i64 e] 37) false none 0 0 0).ext hb;have b0:=bx.c0;have b1:=bx.c1;have b2:=bx.c2;have bz:(w.alloc<|.cells #[.bool s,.slice A (im m).length c,.int .i64 e] 37).heap.size=w.heap.size+1:= aH ;rw[bz]at by_;have c0:=by_.c0;have c1:=by_.c1;have c2:=by_.c2;have f0:=by_.fr 0;have f1:=by_.fr 1;have f2:=by_.fr 2;have rA:=((hs.alloc<|.cells #[.bool s,.slice A (im m).length c,.int .i64 e] 37).alloc<|.cells #[.bool false,.slice none 0 0,.int .i64 0] 37).below hb;have oe:ja w w':=((ja.alloc _ _).trans<|ja.alloc _ _).trans hb;clear bz;go_wp2;exact FV rfl rfl rfl rfl (by_.set _ _ _ _ _) rfl (by_.xy rA _ _ _ _ _) (jW.wq oe aC _ _ _ _ _)
def agn{a b:Nat}:lf a b=0↔a=b:=by
 unfold lf;by_cases h:a<b
 .rw [bk h];omega
 .by_cases h':b<a
  .rw [bj h,bk h'];omega
  .rw [bj h,bj h'];omega
def ao4(s:Bool)(A:Option Addr)(c:Nat)(L:List Nat)(e:Int)(t:Bool)(B:Option Addr)(d:Nat)(M:List Nat)(f:Int)(w:World)(b:Bool)
 (hs:Sl w A c L) (hr:Sl w B d M) (tL:oM L) (tM:oM M) (h1:L.length<=100000) (_h2:M.length<=100000) (hb:b=true↔(s=t/\e=f/\L=M)):
 Calls prog 81 #[.agg #[.bool s,.slice A L.length c,.int .i64 e],.agg #[.bool t,.slice B M.length d,.int .i64 f]] w λr w'=>r = .returned (.bool b)/\ja w w':=by
 have hE:ja w<|(w.alloc<|.cells #[.bool s,.slice A L.length c,.int .i64 e] 37).alloc<|.cells #[.bool t,.slice B M.length d,.int .i64 f] 37:=(ja.alloc _ _).trans<|ja.alloc _ _;by_cases h:s=t
 .subst h;by_cases h':e=f
  .subst h';have oe:b=true↔L=M:=by rw[hb];simp
   clear hb;by_cases hl:L.length=M.length
   .have HC:=auj λw (h:Sl w A c L) (k:Sl w B d M)=>ao3 A B c d L M w h k tL tM aC aC;have hv:Hid<|b=(lf (val L) (val M)==0):=by
     show b=_;refine UF oe ?_;rw[beq_iff_eq,agn];exact⟨λh=>by rw[h],λh=>oM.ext tL tM hs.ok hr.ok h⟩
    generalize lf (val L) (val M)=v at *
    rw[<-hl]at HC hE ⊢;have hse:(e==e)=true:= aH ;have lq:=(hs.alloc<|.cells #[.bool s,.slice A L.length c,.int .i64 e] 37).alloc<|.cells #[.bool s,.slice B L.length d,.int .i64 e] 37;have og:=(hr.alloc<|.cells #[.bool s,.slice A L.length c,.int .i64 e] 37).alloc<|.cells #[.bool s,.slice B L.length d,.int .i64 e] 37;clear oe hl tL tM;cases s
    .go_enter func81,ntmps81;go_wp2_with fail;refine(HC.out _ lq og).mono ?_;rintro r w' ⟨rfl,kI⟩;go_wp2;go_ret;exact⟨NF hv.out.symm,hE.trans kI⟩
    .go_enter func81,ntmps81;go_wp2_with fail;refine(HC.out _ lq og).mono ?_;rintro r w' ⟨rfl,kI⟩;go_wp2;go_ret;exact⟨NF hv.out.symm,hE.trans kI⟩
   .have:=se oe (λh=>hl<|by rw[h]);clear oe;subst this;have jV:((L.length:Int)==M.length)=false:=aY aC;generalize L.length=n at *
    generalize M.length=m at *
    cases s
    .go_enter func81,ntmps81;go_wp2;go_ret;exact⟨rfl,hE⟩
    .go_enter func81,ntmps81;go_wp2;go_ret;exact⟨rfl,hE⟩
  .have:=se hb λh=>h' h.2.1;clear hb;subst this;have jV:(e==f)=false:=aY h';cases s
   .go_enter func81,ntmps81;go_wp2;go_ret;exact⟨rfl,hE⟩
   .go_enter func81,ntmps81;go_wp2;go_ret;exact⟨rfl,hE⟩
 .have:=se hb λh'=>h h'.1;clear hb;subst this;cases s<;>cases t
  .exact absurd rfl h
  .go_enter func81,ntmps81;go_wp2;go_ret;exact⟨rfl,hE⟩
  .go_enter func81,ntmps81;go_wp2;go_ret;exact⟨rfl,hE⟩
  .exact absurd rfl h
def Sl.Oe(w:World)(g:Nat)(hg:w.heap.size=g)(y z:Int)(p q:Nat)(e:y=(p:Int))(e':z=(q:Int))(hp:p<4294967296)(hq:q<4294967296):
 Sl (w.alloc<|.cells #[.int .u32 y,.int .u32 z] 95) (some ⟨g,0,none⟩) 2 [p,q]:=by
 subst e e' hg;refine⟨bw _,aE,iW.cons hp<|iW.cons hq iW.nil,(λh=>by cases h),λi y hy=>?_⟩;obtain⟨h1,h2⟩:=cD.1 hy;simp at h1;refine⟨_,_,rfl,aH,?_⟩;rw[cw,World.cell?_alloc_at _ _ _ _ rfl];rcases i with _|_|i
 .simp at h2;subst h2;rfl
 .simp at h2;subst h2;rfl
 .omega
def ao9(n:Nat)(w:World)(hn:n<4294967296):
 Calls prog 84 #[.int .i64 n] w (Bh w<|canon false n 0):=by
 have hm:=Ie n aC;have y4:(n:Int)%4294967296=n:= aC ;rw[y4]at hm;have hd:(n:Int)/4294967296=0:= aC ;have iN:¬(n:Int)<0:= aC ;have Eh:decide ((n:Int)<0)=false:=bn iN;have hu:IntKind.u64.wrap (n:Int)=n:=by rw[IntKind.wrap_u64];omega
 have HC:=auj λ(A:Option Addr) c w (h:Sl w A c [n,0])=>SR false A c [n,0] 0 w h aH aE aE;have hv:val [n,0]=n:= aH ;rw[hv]at HC;clear hv;generalize canon false n 0=d at *
 go_enter func84,ntmps84;go_wp2_with fail;refine(HC.out _ _ _<|Sl.Oe _ _ aH _ _ n 0 rfl rfl hn aE).mono ?_;rintro r w1 ⟨A1,c1,rfl,w8,kI⟩;have ml:ja (w.alloc<|.cells #[.bool false,.slice none 0 0,.int .i64 0] 37) w1:=(ja.alloc _ _).trans kI;have bx:=(jW.new w false none 0 0 0).ext ml;have b0:=bx.c0;have b1:=bx.c1;have b2:=bx.c2;have f0:=bx.fr 0;have f1:=bx.fr 1;have f2:=bx.fr 2;go_wp2;exact Br rfl rfl rfl (bx.set _ _ _ _ _) rfl (bx.xy w8 _ _ _ _ _) (jW.wq ((ja.alloc _ _).trans ml) (bw _) _ _ _ _ _)
end Go.Proofs.YtjkmahljfblobaaGreatDoor
namespace Go.Proofs.YtjkmahljfblobaaGreatDoor.Fp
def Ip(s:Bool)(e:Int):canon s 0 e=iY:=by unfold canon;rw[bk rfl];rfl
def Lq(s:Bool)(x:Nat)(k:Int):qQ (if s then -(x:Int)else(x:Int)) k=canon s x k:=by
 unfold qQ;cases s
 .have h:decide ((x:Int)<0)=false:=bn aC ;simp only[bJ,bB];rw[h,gN]
 .by_cases h:x=0
  .subst h;simp[Ip]
  .have h:decide (-(x:Int)<0)=true:=bu aC ;simp only[bH];rw[h,atQ,gN]
def are{s:Bool}{m n:Nat}{e f k:Int}(hm:m≠0)(hn:n≠0)(hk:min e f=k):
 jc ⟨s,m,e⟩ ⟨s,n,f⟩=canon s (m*2^(e-k).toNat+n*2^(f-k).toNat) k:=by
 unfold jc;rw[bj hm,bj hn];simp only[hk];rw[<-Lq];unfold Dy.num Dy.j8;cases s
 .simp
 .simp;congr 1;omega
section
variable{s t:Bool}{m n:Nat}{e f k:Int}(hm:m≠0)(hn:n≠0)(hk:min e f=k)(hs:s≠t)
def arc(th:n*2^(f-k).toNat<=m*2^(e-k).toNat):
 jc ⟨s,m,e⟩ ⟨t,n,f⟩=canon s (m*2^(e-k).toNat-n*2^(f-k).toNat) k:=by
 unfold jc;rw[bj hm,bj hn];simp only[hk];rw[<-Lq];unfold Dy.num Dy.j8;simp only;generalize m*2^(e-k).toNat=x at *
 generalize n*2^(f-k).toNat=y at *
 congr 1;cases s<;>cases t<;>simp at hs ⊢ <;> omega
def ard(iN:m*2^(e-k).toNat<n*2^(f-k).toNat):
 jc ⟨s,m,e⟩ ⟨t,n,f⟩=canon t (n*2^(f-k).toNat-m*2^(e-k).toNat) k:=by
 unfold jc;rw[bj hm,bj hn];simp only[hk];rw[<-Lq];unfold Dy.num Dy.j8;simp only;generalize m*2^(e-k).toNat=x at *
 generalize n*2^(f-k).toNat=y at *
 congr 1;cases s<;>cases t<;>simp at hs ⊢ <;> omega
end
def al6{L:List Nat}(h:iW L)(n:Nat):(im<|val L*2^n).length<=L.length+n/32+1:=by
 refine zp ?_;have h1:=pL h;rw[vC]at h1 ⊢;have h2:val L*2^n<2^(32*L.length)*2^n:=dI h1<|bF aE;rw[<-bE]at h2;exact bV h2<|bY aE aC
def nG{a b:Nat}(h:a<=b):(im a).length<=(im b).length:=
 zp (cO h<|MY<|bw _)
end Go.Proofs.YtjkmahljfblobaaGreatDoor.Fp
namespace Go.Proofs.YtjkmahljfblobaaGreatDoor
open Go.RowKit Fp
def mI(a b:Dy):Dy:=canon (a.neg != b.neg) (a.m*b.m)<|a.e+b.e
def al8{L:List Nat}{k:Nat}(h:iW L)(hl:L.length<=k):(im<|val L).length<=k:=
 zp (bV (pL h)<|bY aE hl)
end Go.Proofs.YtjkmahljfblobaaGreatDoor
namespace Go.Proofs.YtjkmahljfblobaaGreatDoor.Fp
section
variable{d:Dy}{j k:Int}(h1:j<=k)(h2:k<=d.e)
def amB:d.j8 j=d.j8 k*2^(k-j).toNat:=by
 unfold Dy.j8;rw[bI,<-bE];congr 2;omega
def Na:d.num j=d.num k*((2^(k-j).toNat:Nat):Int):=by
 unfold Dy.num;rw[amB h1 h2];split
 .rw [fo,Int.neg_mul]
 .rw [fo]
end
def yz{d:Dy}(h:d.m=0)(k:Int):d.num k=0:=by
 unfold Dy.num;rw[ZX h];split<;>rfl
def Ah(x y:Int):Int:=if x<y then -1 else if y<x then 1 else 0
def Vn(x y:Int){p:Nat}(hp:0<p):Ah (x*(p:Int)) (y*(p:Int))=Ah x y:=by
 unfold Ah;have h:(0:Int)<p:= aC ;have a:=@Int.mul_lt_mul_right (p:Int) x y h;have b:=@Int.mul_lt_mul_right (p:Int) y x h;simp only[a,b]
def rn(d:Dy)(k:Int):Prop:=d.m=0\/k<=d.e
def rn.le{d:Dy}{j k:Int}(h:rn d k)(hj:j<=k):rn d j:=by
 rcases h with h|h
 .exact .inl h
 .exact .inr aC 
def rn.num{d:Dy}{j k:Int}(h:rn d k)(hj:j<=k):d.num j=d.num k*((2^(k-j).toNat:Nat):Int):=by
 rcases h with h|h
 .rw [yz h,yz h,Int.zero_mul]
 .exact Na hj h
def Is{a b:Dy}{k:Int}(ha:rn a k)(hb:rn b k):jN a b=Ah (a.num k) (b.num k):=by
 have e0:jN a b=Ah (a.num<|min a.e b.e) (b.num<|min a.e b.e):=rfl;rw[e0];obtain⟨j,h1,h2⟩:∃ j:Int,j<=k/\j<=min a.e b.e:=⟨min k<|min a.e b.e,aC,aC⟩
 have a1:=ha.num h1;have b1:=hb.num h1;have a2:=(show rn a (min a.e b.e)from .inr aC).num h2;have b2:=(show rn b (min a.e b.e)from .inr aC).num h2;rw[<-Vn _ _ (p:=2^(min a.e b.e-j).toNat) (bF aE),<-a2,<-b2,a1,b1,Vn _ _<|bF aE]
section
variable{s:Bool}{m:Nat}{e k:Int}(h:k<=e)
def amA:(canon s m e).j8 k=m*2^(e-k).toNat:=by
 unfold canon;split
 .rename_i h0;subst h0;simp[Dy.j8]
 .rename_i h0;unfold Dy.j8;simp only;have e1:=IE h0
  conv=>rhs;rw[<-e1]
  rw[bI,<-bE];congr 2;omega
def E8:(canon s m e).num k=if s then -((m*2^(e-k).toNat:Nat):Int)else((m*2^(e-k).toNat:Nat):Int):=by
 by_cases h0:m=0
 .subst h0;rw[yz<|by simp[canon]];simp
 .have:(canon s m e).neg=s:=by unfold canon;rw[bj h0]
  unfold Dy.num;rw[amA h,this]
end
def aa0{m:Nat}{e k:Int}(h:k<=e):(canon false m e).num k=((m*2^(e-k).toNat:Nat):Int):=by
 rw[E8 h];simp
def Si{z e k:Int}(h:k<=e):(qQ z e).num k=z*((2^(e-k).toNat:Nat):Int):=by
 unfold qQ;rw[E8 h];by_cases hz:z<0
 .simp only[hz,gO,bH];rw[fo,<-Int.neg_mul];congr 1;omega
 .simp only[hz,decide_false];rw[fo,show(z.natAbs:Int)=z by omega];simp
def Cx{s:Bool}{m:Nat}{e k:Int}(h:k<=e):rn (canon s m e) k:=by
 unfold canon;split
 .exact .inl rfl
 .exact .inr<|by simp only;omega
def OO{z e k:Int}(h:k<=e):rn (qQ z e) k:=Cx h
section
variable{a b:Dy}{k:Int}(ha:rn a k)(hb:rn b k)
def N6:(jc a b).num k=a.num k+b.num k:=by
 unfold jc;by_cases h1:a.m=0
 .rw [bk h1,yz h1,Int.zero_add]
 .rw [bj h1];by_cases h2:b.m=0
  .rw [bk h2,yz h2,Int.add_zero]
  .rw [bj h2];have ea:k<=a.e:=by rcases ha with h|h;exact absurd h h1;exact h
   have eb:k<=b.e:=by rcases hb with h|h;exact absurd h h2;exact h
   have hm:k<=min a.e b.e:= aC ;rw[Si hm,Int.add_mul,<-Na hm aC,<-Na hm aC]
def KZ:rn (jc a b) k:=by
 unfold jc;by_cases h1:a.m=0
 .rw [bk h1];exact hb
 .rw [bj h1];by_cases h2:b.m=0
  .rw [bk h2];exact ha
  .rw [bj h2];have ea:k<=a.e:=by rcases ha with h|h;exact absurd h h1;exact h
   have eb:k<=b.e:=by rcases hb with h|h;exact absurd h h2;exact h
   exact OO aC 
end
def DY{a b:Dy}(ha:a.nT)(hb:b.nT):(jc a b).nT:=by
 unfold jc;split
 .exact hb
 .split
  .exact ha
  .exact uV _ _ _
def OP{d:Dy}{k:Int}(h:rn d k):rn (ki d) k:=h
def Sj{d:Dy}(k:Int):(ki d).num k = -(d.num k):=by
 by_cases h:d.m=0
 .rw [yz h,yz<|by exact h];rfl
 .exact anC d k h
def V9{a b:Dy}(ha:a.nT)(hb:b.nT){k:Int}(h1:rn a k)(h2:rn b k)(h:a.num k=b.num k):a=b:=by
 have zero:∀ {d:Dy},d.nT->d.m=0->d=iY:=by
  intro d hd h0;obtain⟨s,m,e⟩:=d;rcases hd with⟨x,y,z⟩|hd
  .simp only at x y z;subst x y z;rfl
  .simp only at hd h0;omega
 have nz:∀ {d:Dy},d.num k=0->d.m=0:=by
  intro d hd;by_cases h0:d.m=0
  .exact h0
  .exfalso;have:=AP h0 k;unfold Dy.num at hd;split at hd<;>omega
 by_cases za:a.m=0
 .have zb:b.m=0:=nz (by rw[<-h];exact yz za k);rw[zero ha za,zero hb zb]
 .have zb:b.m≠0:=λzb=>za (nz<|by rw[h];exact yz zb k)
  have oa:a.m%2=1:=by rcases ha with⟨x,_,_⟩|x;exact absurd x za;exact x
  have ob:b.m%2=1:=by rcases hb with⟨x,_,_⟩|x;exact absurd x zb;exact x
  have ea:k<=a.e:=by rcases h1 with h|h;exact absurd h za;exact h
  have eb:k<=b.e:=by rcases h2 with h|h;exact absurd h zb;exact h
  have pa:=AP za k;have pb:=AP zb k;have hm:a.neg=b.neg/\a.j8 k=b.j8 k:=by
   unfold Dy.num at h;cases x:a.neg<;>cases y:b.neg<;>simp[x,y]at h<;>first|exact⟨rfl,aC⟩|(exfalso;omega)
  have hc:=congrArg jZ hm.2;unfold Dy.j8 at hc;rw[Bp oa,Bp ob]at hc;have y4:=hm.2;unfold Dy.j8 at y4;rw[hc]at y4;have rT:=auc (bF aE) y4;obtain⟨s,m,e⟩:=a;obtain⟨t,n,f⟩:=b;simp only at *
  have:e=f:= aC ;rw[hm.1,rT,this]
end Go.Proofs.YtjkmahljfblobaaGreatDoor.Fp
namespace Go.Proofs.YtjkmahljfblobaaGreatDoor
open Go.RowKit Fp
def acp(A:Option Addr)(c:Nat)(M:List Nat)(n:Int)(w:World)(lq:Sl w A c M)(hlen:M.length<=256)(h0:0<=n)(hn:n<=65536)(qS:(im<|val M*2^n.toNat).length<=256):
 Calls prog 206 #[.slice A M.length c,.int .i64 n] w (Aa w<|im<|val M*2^n.toNat):=by
 obtain⟨k,rfl⟩:=gP h0;exact aqH A c M k w lq hlen aC qS
set_option maxHeartbeats 8000000 in
def aht(s : Bool)(A : Option Addr)(c : Nat)(L : List Nat)(e : Int)(t : Bool)(B : Option Addr)(d : Nat)(M : List Nat)(f : Int)(w : World)
    (hs : Sl w A c L) (hr : Sl w B d M) (da : qk s L e) (db : qk t M f) (xP : val L≠0) (vd : val M≠0):
    Calls prog 128 #[.agg #[.bool s,.slice A L.length c,.int .i64 e],.agg #[.bool t,.slice B M.length d,.int .i64 f]] w λr w' => r = .returned (.int .i64<|uX ⟨s,val L,e⟩ ⟨t,val M,f⟩)/\ja w w' := by
  obtain⟨nb,mv⟩ := da.exp;obtain⟨QQ,hf2⟩ := db.exp;have hl := da.len;have hm := db.len;have hE : ja w<|(w.alloc<|.cells #[.bool s,.slice A L.length c,.int .i64 e] 37).alloc<|.cells #[.bool t,.slice B M.length d,.int .i64 f] 37 := (ja.alloc _ _).trans<|ja.alloc _ _;have mC := ((jW.new w s A L.length c e).alloc<|.cells #[.bool t,.slice B M.length d,.int .i64 f] 37).drew;have mN := (jW.AU (W := w.alloc<|.cells #[.bool s,.slice A L.length c,.int .i64 e] 37) (g := w.heap.size+1) aH t B M.length d f).drew;have BM := (hs.below hE).drew;have Ev := (hr.below hE).drew;have HE := auj<|hE.trans<|ja.drew _;clear hE;have HTa := auj λw (h : Sl w A c L) => PK s A c L e w h da;have HTb := auj λw (h : Sl w B d M) => PK t B d M f w h db;have Hlt := auj λh => agm (a := ⟨s,val L,e⟩) (b := ⟨t,val M,f⟩) xP vd h;have Hgt := auj λh => agl (a := ⟨s,val L,e⟩) (b := ⟨t,val M,f⟩) xP vd h;have Hta := auj (show Dy.iJ ⟨s,val L,e⟩=iD (val L)+e by unfold Dy.iJ;rw[bj xP]);have Htb := auj (show Dy.iJ ⟨t,val M,f⟩=iD (val M)+f by unfold Dy.iJ;rw[bj vd]);obtain⟨k,hk⟩ : ∃ k,min e f=k := ⟨_,rfl⟩
  have Mu : k<=e := aC ;have hkf : k<=f := aC ;have oP : -17000<=k := aC ;have uA := auj (aC:k=e\/k=f);have Yn : IntKind.i64.wrap (e-k)=e-k := i64_in _;have hwf : IntKind.i64.wrap (f-k)=f-k := i64_in _;have HM := auj (show uX ⟨s,val L,e⟩ ⟨t,val M,f⟩=lf (val L*2^(e-k).toNat) (val M*2^(f-k).toNat)by unfold uX;simp only[hk];rfl);have Hfa := auj (show iD (val L)+e=iD (val M)+f->iD (val L*2^(e-k).toNat)<=4096 from λh => by
    rw[s9 xP];have := da.bits;have := db.bits;have := uA.out;omega)
  have Hfb := auj (show iD (val L)+e=iD (val M)+f->iD (val M*2^(f-k).toNat)<=4096 from λh => by
    rw[s9 vd];have := da.bits;have := db.bits;have := uA.out;omega)
  have HXa := auj λw (h : Sl w A c L) qS => acp A c L (e-k) w h hl aC aC qS;have HXb := auj λw (h : Sl w B d M) qS => acp B d M (f-k) w h hm aC aC qS;generalize Dy.iJ ⟨s,val L,e⟩=ta at *
  generalize Dy.iJ ⟨t,val M,f⟩=tb at *
  generalize uX ⟨s,val L,e⟩ ⟨t,val M,f⟩=R at *
  generalize val L*2^(e-k).toNat=x at *
  generalize val M*2^(f-k).toNat=y at *
  have HC := auj λA B c d w (h : Sl w A c<|im x) (k : Sl w B d<|im y) hx hy => M5 A B c d (im x) (im y) w h k hx hy;rw[lF,lF]at HC;clear xP vd da db hl hm;go_enter func128,ntmps128;go_wp2_with fail;go_region_held3 (λw' => w'.cell? ⟨w.heap.size,0,none⟩=some (.bool s)/\w'.cell? ⟨w.heap.size,1,none⟩=some (.slice A L.length c)/\w'.cell? ⟨w.heap.size,2,none⟩=some (.int .i64 e)/\w'.cell? ⟨w.heap.size+1,0,none⟩=some (.bool t)/\w'.cell? ⟨w.heap.size+1,1,none⟩=some (.slice B M.length d)/\w'.cell? ⟨w.heap.size+1,2,none⟩=some (.int .i64 f))
    (first
      |exact⟨mC.c0,mC.c1,mC.c2,mN.c0,mN.c1,mN.c2⟩
      |exact⟨(mC.ext ju).c0,(mC.ext ju).c1,(mC.ext ju).c2,(mN.ext ju).c0,(mN.ext ju).c1,(mN.ext ju).c2⟩
      |exact⟨(mC.ext jO).c0,(mC.ext jO).c1,(mC.ext jO).c2,(mN.ext jO).c0,(mN.ext jO).c1,(mN.ext jO).c2⟩
      |exact⟨(mC.ext<|ju.trans jO).c0,(mC.ext<|ju.trans jO).c1,(mC.ext<|ju.trans jO).c2,(mN.ext<|ju.trans jO).c0,(mN.ext<|ju.trans jO).c1,(mN.ext<|ju.trans jO).c2⟩
      |exact⟨(mC.ext<|jO.trans ju).c0,(mC.ext<|jO.trans ju).c1,(mC.ext<|jO.trans ju).c2,(mN.ext<|jO.trans ju).c0,(mN.ext<|jO.trans ju).c1,(mN.ext<|jO.trans ju).c2⟩
      |exact⟨(mC.ext<|(ju.trans jO).trans qy).c0,(mC.ext<|(ju.trans jO).trans qy).c1,(mC.ext<|(ju.trans jO).trans qy).c2,(mN.ext<|(ju.trans jO).trans qy).c0,(mN.ext<|(ju.trans jO).trans qy).c1,(mN.ext<|(ju.trans jO).trans qy).c2⟩
      |exact⟨(mC.ext<|(jO.trans ju).trans qy).c0,(mC.ext<|(jO.trans ju).trans qy).c1,(mC.ext<|(jO.trans ju).trans qy).c2,(mN.ext<|(jO.trans ju).trans qy).c0,(mN.ext<|(jO.trans ju).trans qy).c1,(mN.ext<|(jO.trans ju).trans qy).c2⟩)
    (first
      | (go_at_call_of 176 (Value.agg #[.bool s,.slice A L.length c,.int .i64 e])
         refine(HTa.out _ ?_).mono ?_
         (first|exact BM|exact BM.below jO)
         rintro r wx ⟨rfl,ju⟩)
      | (go_at_call_of 176 (Value.agg #[.bool t,.slice B M.length d,.int .i64 f])
         refine(HTb.out _ ?_).mono ?_
         (first|exact Ev|exact Ev.below ju)
         rintro r wy ⟨rfl,jO⟩))
  first
    | (have rV := ju.trans jO)
    | (have rV := jO.trans ju)
  have cx1 := (mC.ext rV).drew;have cx2 := (mN.ext rV).drew;have lq := (BM.below rV).drew;have og := (Ev.below rV).drew;have cx1n := (mC.ext rV)
  have cx2n := (mN.ext rV)
  have HF := auj<|(HE.out.trans rV).trans<|ja.drew _;have HFr := auj<|HE.out.trans rV;clear ju jO rV;by_cases h1 : ta<tb
  . have hR := auj (Hlt.out h1)
    go_wp2;go_ret;exact⟨qv hR.out.symm,HFr.out⟩
  . by_cases h2 : tb<ta
    . have hR := auj (Hgt.out h2)
      go_wp2;go_ret;exact⟨qv hR.out.symm,HFr.out⟩
    . have nM : (iD<|val L : Int)+e=iD (val M)+f := by rw[<-Hta.out,<-Htb.out];omega
      have qp := JJ (k := 128)<|Hfa.out nM;have hfb := JJ (k := 128)<|Hfb.out nM;have HXa2 := auj λw h => HXa.out w h aC;have HXb2 := auj λw h => HXb.out w h aC;have HC2 := auj λA B c d w h k => HC.out A B c d w h k aC aC;have b0 := cx1n.c0;have b1 := cx1n.c1;have b2 := cx1n.c2;have d0 := cx2n.c0;have d1 := cx2n.c1;have d2 := cx2n.c2;clear nM qp hfb;go_wp2_with fail;go_region_held3 (λw' => w'.cell? ⟨w.heap.size,0,none⟩=some (.bool s)/\w'.cell? ⟨w.heap.size,1,none⟩=some (.slice A L.length c)/\w'.cell? ⟨w.heap.size,2,none⟩=some (.int .i64 e)/\w'.cell? ⟨w.heap.size+1,0,none⟩=some (.bool t)/\w'.cell? ⟨w.heap.size+1,1,none⟩=some (.slice B M.length d)/\w'.cell? ⟨w.heap.size+1,2,none⟩=some (.int .i64 f))
        (first
          |exact⟨cx1.c0,cx1.c1,cx1.c2,cx2.c0,cx2.c1,cx2.c2⟩
          |exact⟨(cx1.ext ju).c0,(cx1.ext ju).c1,(cx1.ext ju).c2,(cx2.ext ju).c0,(cx2.ext ju).c1,(cx2.ext ju).c2⟩
          |exact⟨(cx1.ext jO).c0,(cx1.ext jO).c1,(cx1.ext jO).c2,(cx2.ext jO).c0,(cx2.ext jO).c1,(cx2.ext jO).c2⟩
          |exact⟨(cx1.ext<|ju.trans jO).c0,(cx1.ext<|ju.trans jO).c1,(cx1.ext<|ju.trans jO).c2,(cx2.ext<|ju.trans jO).c0,(cx2.ext<|ju.trans jO).c1,(cx2.ext<|ju.trans jO).c2⟩
          |exact⟨(cx1.ext<|jO.trans ju).c0,(cx1.ext<|jO.trans ju).c1,(cx1.ext<|jO.trans ju).c2,(cx2.ext<|jO.trans ju).c0,(cx2.ext<|jO.trans ju).c1,(cx2.ext<|jO.trans ju).c2⟩
          |exact⟨(cx1.ext<|(ju.trans jO).trans qy).c0,(cx1.ext<|(ju.trans jO).trans qy).c1,(cx1.ext<|(ju.trans jO).trans qy).c2,(cx2.ext<|(ju.trans jO).trans qy).c0,(cx2.ext<|(ju.trans jO).trans qy).c1,(cx2.ext<|(ju.trans jO).trans qy).c2⟩
          |exact⟨(cx1.ext<|(jO.trans ju).trans qy).c0,(cx1.ext<|(jO.trans ju).trans qy).c1,(cx1.ext<|(jO.trans ju).trans qy).c2,(cx2.ext<|(jO.trans ju).trans qy).c0,(cx2.ext<|(jO.trans ju).trans qy).c1,(cx2.ext<|(jO.trans ju).trans qy).c2⟩)
        (first
          | (go_at_call_of 206 (Value.slice A L.length c)
             refine(HXa2.out _ ?_).mono ?_
             (first|exact lq|exact lq.below jO)
             rintro r wx ⟨Ax,cx,rfl,sH,ju⟩)
          | (go_at_call_of 206 (Value.slice B M.length d)
             refine(HXb2.out _ ?_).mono ?_
             (first|exact og|exact og.below ju)
             rintro r wy ⟨Ay,cy,rfl,Yb,jO⟩)
          | (go_at_call 180
             refine(HC2.out _ _ _ _ _ ?_ ?_).mono ?_
             (first|exact sH.below jO|exact sH)
             (first|exact Yb|exact Yb.below ju)
             rintro r wz ⟨rfl,qy⟩))
      all_goals
        go_wp2;go_ret
        (first|exact⟨qv HM.out.symm,HF.out.trans<|(ju.trans jO).trans qy⟩|exact⟨qv HM.out.symm,HF.out.trans<|(jO.trans ju).trans qy⟩)
def acz{d:Dy}:d.jL=0↔d.m=0:=by
 rcases KB d with⟨h1,h2⟩|⟨h1,_,h2⟩|⟨h1,_,h2⟩<;>simp[h1,h2]
def ahr(s : Bool)(A : Option Addr)(c : Nat)(L : List Nat)(e : Int)(t : Bool)(B : Option Addr)(d : Nat)(M : List Nat)(f : Int)(w : World)
    (hs : Sl w A c L) (hr : Sl w B d M) (da : qk s L e) (db : qk t M f):
    Calls prog 76 #[.agg #[.bool s,.slice A L.length c,.int .i64 e],.agg #[.bool t,.slice B M.length d,.int .i64 f]] w λr w' => r = .returned (.int .i64<|jN ⟨s,val L,e⟩ ⟨t,val M,f⟩)/\ja w w' := by
  obtain⟨nb,mv⟩ := da.exp;obtain⟨QQ,hf2⟩ := db.exp;have HVa := auj (λw (h : Sl w A c L) => D3 s A c L e w true h aC aC<|by simp[da]);have HVb := auj (λw (h : Sl w B d M) => D3 t B d M f w true h aC aC<|by simp[db]);have HSa := auj λw (h : Sl w A c L) => PI s A c L e w h da;have HSb := auj λw (h : Sl w B d M) => PI t B d M f w h db;have HK := auj λh1 h2 w (h : Sl w A c L) (k : Sl w B d M) => aht s A c L e t B d M f w h k da db h1 h2;have HP := auj<|Vk ⟨s,val L,e⟩ ⟨t,val M,f⟩;have z1 : Hid<|Dy.jL ⟨s,val L,e⟩=0↔val L=0 := acz;have z2 : Hid<|Dy.jL ⟨t,val M,f⟩=0↔val M=0 := acz;have MB : Dy.jL ⟨s,val L,e⟩=0\/Dy.jL ⟨s,val L,e⟩ = -1\/Dy.jL ⟨s,val L,e⟩=1 := by
    rcases KB ⟨s,val L,e⟩with⟨_,h⟩|⟨_,_,h⟩|⟨_,_,h⟩<;>simp[h]
  have oZ : uX ⟨s,val L,e⟩ ⟨t,val M,f⟩ = -1\/uX ⟨s,val L,e⟩ ⟨t,val M,f⟩=0\/uX ⟨s,val L,e⟩ ⟨t,val M,f⟩=1 := by
    unfold uX lf;split;simp;split<;>simp
  generalize Dy.jL ⟨s,val L,e⟩=sa at *
  generalize Dy.jL ⟨t,val M,f⟩=sb at *
  generalize uX ⟨s,val L,e⟩ ⟨t,val M,f⟩=cm at *
  generalize jN ⟨s,val L,e⟩ ⟨t,val M,f⟩=R at *
  have zf : IntKind.i64.wrap (sa*cm)=sa*cm := i64_in _ (by rcases MB with rfl|rfl|rfl<;>omega) (by rcases MB with rfl|rfl|rfl<;>omega);have HH := auj MB;clear MB oZ da db;go_enter func76,ntmps76;go_wp2_with fail;refine(HVa.out _<|(hs.alloc _).alloc _).mono ?_;rintro r w1 ⟨rfl,kI⟩;have mC := ((jW.new w s A L.length c e).alloc<|.cells #[.bool t,.slice B M.length d,.int .i64 f] 37).ext kI;have mN := (jW.AU (W := w.alloc<|.cells #[.bool s,.slice A L.length c,.int .i64 e] 37) (g := w.heap.size+1) aH t B M.length d f).ext kI;have b0 := mC.c0;have b1 := mC.c1;have b2 := mC.c2;have d0 := mN.c0;have d1 := mN.c1;have d2 := mN.c2;have hE := (((ja.alloc w<|.cells #[.bool s,.slice A L.length c,.int .i64 e] 37).trans<|ja.alloc _<|.cells #[.bool t,.slice B M.length d,.int .i64 f] 37).trans kI)
  go_wp2_with fail;refine(HVb.out _<|hr.below hE).mono ?_;rintro r w2 ⟨rfl,oB⟩;have Md := hE.trans oB;have mC := (mC.ext oB).drew;have mN := (mN.ext oB).drew;have BM := (hs.below Md).drew;have Ev := (hr.below Md).drew;have HE := auj<|Md.trans<|ja.drew _;clear hE Md kI oB b0 b1 b2 d0 d1 d2;go_wp2_with fail;go_region_held3 (λw' => w'.cell? ⟨w.heap.size,0,none⟩=some (.bool s)/\w'.cell? ⟨w.heap.size,1,none⟩=some (.slice A L.length c)/\w'.cell? ⟨w.heap.size,2,none⟩=some (.int .i64 e)/\w'.cell? ⟨w.heap.size+1,0,none⟩=some (.bool t)/\w'.cell? ⟨w.heap.size+1,1,none⟩=some (.slice B M.length d)/\w'.cell? ⟨w.heap.size+1,2,none⟩=some (.int .i64 f))
    (first
      |exact⟨mC.c0,mC.c1,mC.c2,mN.c0,mN.c1,mN.c2⟩
      |exact⟨(mC.ext ju).c0,(mC.ext ju).c1,(mC.ext ju).c2,(mN.ext ju).c0,(mN.ext ju).c1,(mN.ext ju).c2⟩
      |exact⟨(mC.ext jO).c0,(mC.ext jO).c1,(mC.ext jO).c2,(mN.ext jO).c0,(mN.ext jO).c1,(mN.ext jO).c2⟩
      |exact⟨(mC.ext<|ju.trans jO).c0,(mC.ext<|ju.trans jO).c1,(mC.ext<|ju.trans jO).c2,(mN.ext<|ju.trans jO).c0,(mN.ext<|ju.trans jO).c1,(mN.ext<|ju.trans jO).c2⟩
      |exact⟨(mC.ext<|jO.trans ju).c0,(mC.ext<|jO.trans ju).c1,(mC.ext<|jO.trans ju).c2,(mN.ext<|jO.trans ju).c0,(mN.ext<|jO.trans ju).c1,(mN.ext<|jO.trans ju).c2⟩)
    (first
      | (go_at_call_of 50 (Value.agg #[.bool s,.slice A L.length c,.int .i64 e])
         refine(HSa.out _ ?_).mono ?_
         (first|exact BM|exact BM.below jO)
         rintro r wx ⟨rfl,ju⟩)
      | (go_at_call_of 50 (Value.agg #[.bool t,.slice B M.length d,.int .i64 f])
         refine(HSb.out _ ?_).mono ?_
         (first|exact Ev|exact Ev.below ju)
         rintro r wy ⟨rfl,jO⟩))
  first
    | (have rV := ju.trans jO)
    | (have rV := jO.trans ju)
  have cx1 := (mC.ext rV)
  have cx2 := (mN.ext rV)
  have lq := (BM.below rV)
  have og := (Ev.below rV)
  have HFr := auj<|HE.out.trans rV;clear ju jO rV;by_cases h1 : sa<sb
  . have hR := auj (show R = -1 by rw[HP.out,bk h1])
    go_wp2;go_ret;exact⟨qv hR.out.symm,HFr.out⟩
  . by_cases h2 : sb<sa
    . have hR := auj (show R=1 by rw[HP.out,bj h1,bk h2])
      go_wp2;go_ret;exact⟨qv hR.out.symm,HFr.out⟩
    . by_cases h3 : sa=0
      . have hR := auj (show R=0 by rw[HP.out,bj h1,bj h2,bk h3])
        have hz : (sa==0)=true := by simp[h3]
        go_wp2;go_ret;exact⟨qv hR.out.symm,HFr.out⟩
      . have hR := auj (show R=sa*cm by rw[HP.out,bj h1,bj h2,bj h3])
        have hz : (sa==0)=false := aY h3;have HK2 := auj (HK.out (λh => h3<|z1.out.2 h) λh => h3<|by have := z2.out.2 h;omega);have b0 := cx1.c0;have b1 := cx1.c1;have b2 := cx1.c2;have d0 := cx2.c0;have d1 := cx2.c1;have d2 := cx2.c2;go_wp2_with fail;refine(HK2.out _ lq og).mono ?_;rintro r w3 ⟨rfl,tg⟩;go_wp2;go_ret;exact⟨qv hR.out.symm,HFr.out.trans tg⟩
section
variable{L:List Nat}(h:iW L)(hl:L.length<=256)(s:Bool)(e:Int)
def U2:(im (canon s (val L) e).m).length<=100000000:=by
 unfold canon;split
 .simp [px]
 .refine bA (zp (k:=256)<|cO (cv _ _) ?_) aE ;exact bV (pL h)<|bY aE hl
def U1(h1:-9000000<=e)(h2:e<=9000000):-10000000<=(canon s (val L) e).e/\(canon s (val L) e).e<=10000000:=by
 unfold canon;split
 .simp
 .rename_i h0;have:=Iu h h0;simp only;omega
end
def apd(s:Bool)(A:Option Addr)(c:Nat)(L:List Nat)(e k:Int)(w:World)(hs:Sl w A c L)(hd:qk s L e)(oP:-32768<=k)(Au:k<=32768)(hr:oi<|canon s (val L)<|e+k):
 Calls prog 83 #[.agg #[.bool s,.slice A L.length c,.int .i64 e],.int .i64 k] w (Bi w (canon s (val L)<|e+k) 0):=by
 obtain⟨nb,mv⟩:=hd.exp;have hlen:=hd.len;have HV:=auj (λw (h:Sl w A c L)=>abD s A c L e w true h aC aC<|by simp[hd]);have HX:=auj (λw=>ao6 k w true<|by simp[oP,Au]);have hw:IntKind.i64.wrap (e+k)=e+k:=i64_in _;have HC:=auj λw (h:Sl w A c L)=>SR s A c L (e+k) w h aC aC aC;have kI:=U2 hs.ok hlen s<|e+k;obtain⟨oB,tg⟩:=U1 hs.ok hlen s (e+k) aC aC;have hv:(canon s (val L)<|e+k).ix:=⟨uV _ _ _,hr⟩
 have HK:=auj λA c w (h:Sl w A c<|im (canon s (val L)<|e+k).m)=>ao2 _ A c w h kI oB tg hv;generalize canon s (val L) (e+k)=D at *
 clear hd hr hv kI oB tg;go_enter func83,ntmps83;go_wp2_with fail;refine(HV.out _<|(hs.alloc _).alloc _).mono ?_;rintro r w1 ⟨rfl,kI⟩;have mC:=((jW.new w s A L.length c e).alloc<|.cells #[.bool false,.slice none 0 0,.int .i64 0] 37).ext kI;have mN:=(jW.AU (W:=w.alloc<|.cells #[.bool s,.slice A L.length c,.int .i64 e] 37) (g:=w.heap.size+1) aH false none 0 0 0).ext kI;have b0:=mC.c0;have b1:=mC.c1;have b2:=mC.c2;have hE:=(((ja.alloc w<|.cells #[.bool s,.slice A L.length c,.int .i64 e] 37).trans<|ja.alloc _<|.cells #[.bool false,.slice none 0 0,.int .i64 0] 37).trans kI)
 have BM:=hs.below hE;have HE:=auj hE;clear hE kI;go_wp2_with fail;refine(HX.out _).mono ?_;rintro r w2 ⟨rfl,rfl⟩;go_wp2_with fail;refine(HC.out _ BM).mono ?_;rintro r w2 ⟨A1,c1,rfl,w8,oB⟩;go_wp2_with fail;refine(HK.out _ _ _ w8).mono ?_;rintro r w3 ⟨A2,c2,rfl,lq,tg⟩;have bz:=mN.ext<|oB.trans tg;have z0:=bz.c0;have z1:=bz.c1;have z2:=bz.c2;have f0:=bz.fr 0;have f1:=bz.fr 1;have f2:=bz.fr 2;go_wp2;exact FV rfl rfl rfl rfl (bz.set _ _ _ _ _) rfl (bz.xy lq _ _ _ _ _) (jW.wq (HE.out.trans<|oB.trans tg) aC _ _ _ _ _)
abbrev DV(d:Dy)(A:Option Addr)(c:Nat):Value:=.agg #[.bool d.neg,.slice A (im d.m).length c,.int .i64 d.e]
def Zp{n k:Nat}(h:iD n<=32*k):(im n).length<=k:=by
 refine zp<|bV (tp _) ?_;rw[vC];exact bY aE h
def Fp.Dy.ix.yT{d:Dy}(h:d.ix):qk d.neg (im d.m) d.e:=by
 refine⟨DJ _,Zp ?_,by rw[lF];exact h⟩;rcases h.range with h0|⟨h1,_⟩
 .rw [h0];exact ck _
 .omega
def Fp.Dy.ix.len{d:Dy}(h:d.ix):(im d.m).length<=256:=h.yT.2.1
def Fp.Dy.ix.exp{d:Dy}(h:d.ix):-16384<=d.e/\d.e<=16384:=h.yT.exp
def Fp.Dy.ix.bits{d:Dy}(h:d.ix):iD d.m<=4096:=by have:=h.yT.bits;rwa[lF]at this
section
variable{w:World}{g n c:Nat}{s:Bool}{A:Option Addr}{e:Int}(h:jW w g s A n c e)
def jW.all:w.cell? ⟨g,0,none⟩=some (.bool s)/\w.cell? ⟨g,1,none⟩=some (.slice A n c)/\w.cell? ⟨g,2,none⟩=some (.int .i64 e):=⟨h.c0,h.c1,h.c2⟩
def jW.D9{g':Nat}(jV:g'≠g)(i:Nat)(v:Value):jW (w.setCell ⟨g',i,none⟩ v) g s A n c e:=by
 unfold jW at h ⊢;simp only[World.setCell,dr];rw[bj jV];exact h
def jW.P6{g':Nat}(jV:g'≠g)(v0 v1 v2:Value):
 jW (((w.setCell ⟨g',0,none⟩ v0).setCell ⟨g',1,none⟩ v1).setCell ⟨g',2,none⟩ v2) g s A n c e:=((h.D9 jV 0 v0).D9 jV 1 v1).D9 jV 2 v2
end
section
variable(a b:Dy)(A B:Option Addr)(c d:Nat)(w:World)
def ao5(r:Bool)(h:Sl w A c<|im a.m)(k:Sl w B d<|im b.m)(ha:(im a.m).length<=100000)(hb:(im b.m).length<=100000)(hr:r=true↔a=b):
 Calls prog 81 #[DV a A c,DV b B d] w λe w'=>e = .returned (.bool r)/\ja w w':=
 ao4 a.neg A c (im a.m) a.e b.neg B d (im b.m) b.e w r h k (DJ _) (DJ _) ha hb (by
  rw[hr];obtain⟨s,m,e⟩:=a;obtain⟨t,n,f⟩:=b;simp only[Dy.mk.injEq];constructor
  .rintro ⟨x,y,z⟩;exact⟨x,z,by rw[y]⟩
  .rintro ⟨x,y,z⟩;have:=congrArg val z;rw[lF,lF]at this;exact⟨x,this,y⟩)
def ahs(h:Sl w A c<|im a.m)(k:Sl w B d<|im b.m)(ha:a.ix)(hb:b.ix):
 Calls prog 76 #[DV a A c,DV b B d] w λe w'=>e = .returned (.int .i64<|jN a b)/\ja w w':=by
 have:=ahr a.neg A c (im a.m) a.e b.neg B d (im b.m) b.e w h k ha.yT hb.yT;rw[lF,lF]at this;exact this
end
section
variable(a:Dy)(A:Option Addr)(c:Nat)(w:World)(h:Sl w A c<|im a.m)(ha:a.ix)
def ahq:
 Calls prog 279 #[DV a A c] w λe w'=>e = .returned (.int .i64<|iD a.m)/\ja w w':=by
 have:=ahp a.neg A c (im a.m) a.e w h ha.yT;rw[lF]at this;exact this
def ahx:
 Calls prog 50 #[DV a A c] w λe w'=>e = .returned (.int .i64 a.jL)/\ja w w':=by
 have:=PI a.neg A c (im a.m) a.e w h ha.yT;rw[lF]at this;exact this
def V8:
 Calls prog 60 #[DV a A c] w λe w'=>e = .returned (.bool true)/\ja w w':=
 D3 a.neg A c (im a.m) a.e w true h (by have:=ha.exp;omega) (by have:=ha.exp;omega) (by simp[ha.yT])
end
open Pu
def OL:∀ w w',Tb w->Below w.heap.size w w'->Tb w':=λ_ _ h hb=>h.below hb
def mixed:prog.follows .mixedOrders=true:= aF 
abbrev il(f:FuncId)(args:List E)(jk:E):Prop:=PC prog Tb f args jk
def iy(L:List Nat):E:=.sl false L.length 1 λi _=>.v<|.int .u32 (L.getD i 0:Int)
def iB(d:Dy):E:=.agg [.v<|.bool d.neg,iy<|im d.m,.v<|.int .i64 d.e]
abbrev iP(z:Int):E:=.v<|.int .i64 z
abbrev bP(b:Bool):E:=.v<|.bool b
abbrev ar:List E:=[bP false,.v<|.slice none 0 0,iP 0]
abbrev au:List E:=[bP false,.v<|.slice none 0 0,iP 0,bP false,.v<|.slice none 0 0,iP 0,bP false]
def Cn{bs br:Nat->Prop}{w:World}{L:List Nat}{v:Value}(hk:iW L)(h:iO bs br w (iy L) v):∃ A c,v = .slice A L.length c/\Sl w A c L:=by
 cases h with
 |sl _ _ _ _ A c f hc hm h0 hl hr cell kk=>
  refine⟨A,c,rfl,hc,hm,hk,h0,λi x hx=>?_⟩;obtain⟨hi,w9⟩:=cD.1 hx;obtain⟨b,o,e1,_,iN,kF⟩:=cell i 0 hi aE;have hv:=iO.kW<|kk i 0 hi aE;refine⟨b,o,e1,iN,?_⟩;rw[cE,cj,hv]at kF;rw[kF];simp[bt,hx]
def DG{B br:Nat->Prop}{w w':World}{A:Option Addr}{c:Nat}{L:List Nat}(hB:∀ b,B b->b<w.heap.size/\oL w b)(hb:ja w w')(h:Sl w' A c L):iO B br w' (iy L)<|.slice A L.length c:=by
 refine .sl false L.length 1 _ A c (λi _=>.int .u32 (L.getD i 0:Int)) h.cap h.sJ h.AV (λi j _ _=>⟨rfl,λh=>by cases h⟩) (λi j _ _=>rfl) (λi j hi hj=>?_) λi j _ _=>.v _
 .obtain rfl:j=0:= aC ;obtain⟨b,o,e1,iN,kF⟩:=h.mT hi;have e2:L.getD i 0=L[i]:=by simp[bt,hi]
  refine⟨b,o,e1,λpQ=>?_,iN,by rw[cE,cj,kF,e2]⟩;obtain⟨h1,h2⟩:=hB b pQ;exact(h2.GQ<|hb.block b h1) _ _ kF
def LL{bs br:Nat->Prop}{w:World}{d:Dy}{v:Value}(h:iO bs br w (iB d) v):∃ A c,v=DV d A c/\Sl w A c (im d.m):=by
 obtain⟨vs,rfl,q⟩:=iO.Ic<|show iO bs br w (.agg _) v from h;obtain⟨v1,vs,rfl,h1,q⟩:=q.nR;obtain⟨v2,vs,rfl,h2,q⟩:=q.nR;obtain⟨v3,vs,rfl,h3,q⟩:=q.nR;obtain rfl:=q.sK;obtain rfl:=iO.kW h1;obtain rfl:=iO.kW h3;obtain⟨A,c,rfl,hs⟩:=Cn (nA _) h2;exact⟨A,c,rfl,hs⟩
def V6{B br:Nat->Prop}{w w':World}{A:Option Addr}{c:Nat}{d:Dy}(hB:∀ b,B b->b<w.heap.size/\oL w b)(hb:ja w w')(h:Sl w' A c<|im d.m):iO B br w' (iB d)<|DV d A c:=
 ku.agg (.cons (.v _)<|.cons (DG hB hb h)<|.cons (.v _)<|.nil _ _ _)
section
variable {f:FuncId} {a b:Dy}
section
variable(hc:∀ (vs:Array Value) (w:World),(callFunc f vs).run prog w = .ok (.enter f vs) w){jk:E}{R:World->Ending->World->Prop}
def GY
 (H:∀ A c w,Sl w A c (im a.m)->Tb w->Calls prog f #[DV a A c] w (R w)) (hR:∀ (B:Nat->Prop) w e w',(∀ b,B b->b<w.heap.size/\oL w b)->R w e w'->∃ v,e = .returned v/\Below w.heap.size w w'/\iO B (λ_=>True) w' jk v):il f [iB a] jk:=by
 refine⟨hc,λw B vs hK hB hr=>?_⟩;obtain⟨v1,vs,rfl,h1,hr⟩:=hr.nR;obtain rfl:=hr.sK;obtain⟨A,c,rfl,s1⟩:=LL h1;exact(H A c w s1 hK).mono λe w' h=>hR B w e w' hB h
def pc2
 (H:∀ A c A' c' w,Sl w A c (im a.m)->Sl w A' c' (im b.m)->Tb w->Calls prog f #[DV a A c,DV b A' c'] w (R w)) (hR:∀ (B:Nat->Prop) w e w',(∀ b,B b->b<w.heap.size/\oL w b)->R w e w'->∃ v,e = .returned v/\Below w.heap.size w w'/\iO B (λ_=>True) w' jk v):il f [iB a,iB b] jk:=by
 refine⟨hc,λw B vs hK hB hr=>?_⟩;obtain⟨v1,vs,rfl,h1,hr⟩:=hr.nR;obtain⟨v2,vs,rfl,h2,hr⟩:=hr.nR;obtain rfl:=hr.sK;obtain⟨A,c,rfl,s1⟩:=LL h1;obtain⟨A',c',rfl,s2⟩:=LL h2;exact(H A c A' c' w s1 s2 hK).mono λe w' h=>hR B w e w' hB h
end
end
def rv{x:Value}:∀ (B:Nat->Prop) (w:World) (e:Ending) (w':World),(∀ b,B b->b<w.heap.size/\oL w b)->(e = .returned x/\ja w w')->∃ v,e = .returned v/\Below w.heap.size w w'/\iO B (λ_=>True) w' (.v x) v:=
 λ_ _ _ _ _ h=>⟨x,h.1,h.2,.v x⟩
def rd{d:Dy}:∀ (B:Nat->Prop) (w:World) (e:Ending) (w':World),(∀ b,B b->b<w.heap.size/\oL w b)->Bh w d e w'->∃ v,e = .returned v/\Below w.heap.size w w'/\iO B (λ_=>True) w' (iB d) v:=
 λ_ _ _ _ hB ⟨_,_,h1,h2,h3⟩=>⟨_,h1,h3,V6 hB h3 h2⟩
def SO{d:Dy}{n:Int}:∀ (B:Nat->Prop) (w:World) (e:Ending) (w':World),(∀ b,B b->b<w.heap.size/\oL w b)->Bi w d n e w'->∃ v,e = .returned v/\Below w.heap.size w w'/\iO B (λ_=>True) w' (.iH [iB d,iP n]) v:=
 λ_ _ _ _ hB ⟨_,_,h1,h2,h3⟩=>⟨_,h1,h3,ku.iH<|.cons (V6 hB h3 h2)<|.cons (.v _)<|.nil _ _ _⟩
def uQ:E.le (.agg ar)<|iB iY:=by
 have:iB iY = .agg [bP false,.sl false 0 1 λi _=>.v<|.int .u32 (((im 0).getD i 0:Nat):Int),iP 0]:=by
  show E.agg [bP false,iy<|im 0,iP 0]=_;unfold iy;rw[px];rfl
 rw[this];exact .agg<|.cons (.refl _)<|.cons (.nil _ _ _)<|.cons (.refl _) .nil
def nE(a b:Dy)(ha:a.ix)(hb:b.ix):il 76 [iB a,iB b]<|iP<|jN a b:=pc2 call76 (λA c A' c' w h k _=>ahs a b A A' c c' w h k ha hb) rv
section
variable(a:Dy)(ha:a.ix)
def pP:il 50 [iB a]<|iP a.jL:=GY call50 (λA c w h _=>ahx a A c w h ha) rv
def sj:il 60 [iB a]<|bP true:=GY call60 (λA c w h _=>V8 a A c w h ha) rv
def LJ:il 279 [iB a]<|iP<|iD a.m:=GY call279 (λA c w h _=>ahq a A c w h ha) rv
end
def zT(t e:Nat)(s:String):TI:=⟨t,.slice e,⟨.slice e,s,1,24,true,8,8,some<|.slice none 0 0,false,#[]⟩⟩
def uf(t:Nat)(d:TypeDesc)(s:String):TI:=⟨t,d,⟨d,s,1,8,true,8,8,some<|.nilFunc,false,#[]⟩⟩
def TT:List TI:=[
 ⟨3,.int .i64,⟨.int .i64, "int", 1,8,false,8,8,some<|.int .i64 0,true,#[]⟩⟩,
 ⟨4,.bool,⟨.bool, "bool", 1,1,false,1,1,some<|.bool false,true,#[]⟩⟩,
 ⟨5,.int .u8,⟨.int .u8, "uint8", 1,1,false,1,1,some<|.int .u8 0,true,#[]⟩⟩,
 ⟨9,.string,⟨.string, "string", 1,16,true,8,8,some<|.string ⟨#[]⟩,true,#[]⟩⟩,
 ⟨22,.int .i8,⟨.int .i8, "int8", 1,1,false,1,1,some<|.int .i8 0,true,#[]⟩⟩,zT 23 41 "[]api.Interval",uf 25 (.func #[23] #[4] false) "func([]api.Interval) bool",zT 26 153 "[]api.Op",zT 27 3 "[]int",
 ⟨29,.struct #[⟨"Ins", 3,0,false, "", "", 0⟩,⟨"Ops", 26,1,false, "", "", 8⟩,⟨"Outs", 27,2,false, "", "", 32⟩],⟨.named "flowpipe/api.Tape" 28, "api.Tape", 3,56,true,8,8,some<|.agg #[.int .i64 0,.slice none 0 0,.slice none 0 0],false,#[]⟩⟩,
 ⟨31,.struct #[⟨"Tape", 29,0,false, "", "", 0⟩,⟨"States", 3,3,false, "", "", 56⟩,⟨"Params", 23,4,false, "", "", 64⟩],⟨.named "flowpipe/api.System" 30, "api.System", 5,88,true,8,8,some<|.agg #[.int .i64 0,.slice none 0 0,.slice none 0 0,.int .i64 0,.slice none 0 0],false,#[]⟩⟩,zT 35 95 "[]uint32",
 ⟨37,.struct #[⟨"Neg", 4,0,false, "", "", 0⟩,⟨"M", 35,1,false, "", "", 8⟩,⟨"E", 3,2,false, "", "", 32⟩],⟨.named "flowpipe/api.Dyadic" 36, "api.Dyadic", 3,40,true,8,8,some<|.agg #[.bool false,.slice none 0 0,.int .i64 0],false,#[]⟩⟩,uf 39 (.func #[37] #[4] false) "func(api.Dyadic) bool",
 ⟨41,.struct #[⟨"Lo", 37,0,false, "", "", 0⟩,⟨"Hi", 37,3,false, "", "", 40⟩,⟨"All", 4,6,false, "", "", 80⟩],⟨.named "flowpipe/api.Interval" 40, "api.Interval", 7,88,true,8,8,some<|.agg #[.bool false,.slice none 0 0,.int .i64 0,.bool false,.slice none 0 0,.int .i64 0,.bool false],false,#[]⟩⟩,
 ⟨43,.int .i64,⟨.named "flowpipe/api.Errno" 3, "api.Errno", 1,8,false,8,8,some<|.int .i64 0,true,#[]⟩⟩,zT 49 23 "[][]api.Interval",zT 57 62 "[]krawczyk.Root",
 ⟨62,.struct #[⟨"X", 23,0,false, "", "", 0⟩,⟨"Sure", 4,1,false, "", "", 24⟩],⟨.named "flowpipe/krawczyk.Root" 61, "krawczyk.Root", 2,32,true,8,8,some<|.agg #[.slice none 0 0,.bool false],false,#[]⟩⟩,uf 63 (.func #[62] #[4] false) "func(krawczyk.Root) bool",uf 66 (.func #[41,41] #[4] false) "func(api.Interval, api.Interval) bool",uf 67 (.func #[23,62] #[4] false) "func([]api.Interval, krawczyk.Root) bool",uf 76 (.func #[41] #[4] false) "func(api.Interval) bool",
 ⟨78,.struct #[⟨"N", 3,0,false, "", "", 0⟩,⟨"D", 3,1,false, "", "", 8⟩],⟨.named "flowpipe/api.Ratio" 77, "api.Ratio", 2,16,false,8,8,some<|.agg #[.int .i64 0,.int .i64 0],true,#[]⟩⟩,zT 79 81 "[]api.Expr",
 ⟨81,.struct #[⟨"Kind", 3,0,false, "", "", 0⟩,⟨"Num", 78,1,false, "", "", 8⟩,⟨"Name", 9,3,false, "", "", 24⟩,⟨"N", 3,4,false, "", "", 40⟩,⟨"L", 79,5,false, "", "", 48⟩],⟨.named "flowpipe/api.Expr" 80, "api.Expr", 6,72,true,8,8,some<|.agg #[.int .i64 0,.int .i64 0,.int .i64 0,.string ⟨#[]⟩,.int .i64 0,.slice none 0 0],false,#[]⟩⟩,zT 86 9 "[]string",
 ⟨95,.int .u32,⟨.int .u32, "uint32", 1,4,false,4,4,some<|.int .u32 0,true,#[]⟩⟩,uf 104 (.func #[41,41,3] #[41] false) "func(api.Interval, api.Interval, int) api.Interval",uf 105 (.func #[3] #[4] false) "func(int) bool",uf 131 (.func #[3] #[41] false) "func(int) api.Interval",
 ⟨134,.int .u64,⟨.int .u64, "uint", 1,8,false,8,8,some<|.int .u64 0,true,#[]⟩⟩,uf 137 (.func #[37,3] #[37,43] false) "func(api.Dyadic, int) (api.Dyadic, api.Errno)",
 ⟨148,.int .u64,⟨.int .u64, "uint64", 1,8,false,8,8,some<|.int .u64 0,true,#[]⟩⟩,
 ⟨153,.struct #[⟨"Kind", 3,0,false, "", "", 0⟩,⟨"A", 3,1,false, "", "", 8⟩,⟨"B", 3,2,false, "", "", 16⟩,⟨"N", 3,3,false, "", "", 24⟩,⟨"C", 78,4,false, "", "", 32⟩],⟨.named "flowpipe/api.Op" 152, "api.Op", 6,48,false,8,8,some<|.agg #[.int .i64 0,.int .i64 0,.int .i64 0,.int .i64 0,.int .i64 0,.int .i64 0],true,#[]⟩⟩,uf 175 (.func #[3,3,41] #[41] false) "func(int, int, api.Interval) api.Interval",
 ⟨188,.struct #[⟨"p", 3,0,false, "", "flowpipe/exponent", 0⟩],⟨.named "flowpipe/exponent.work" 187, "exponent.work", 1,8,false,8,8,some<|.agg #[.int .i64 0],true,#[⟨"flowpipe/exponent.add", 144,#[],some (289,false)⟩,⟨"flowpipe/exponent.div", 144,#[],some (287,false)⟩,⟨"flowpipe/exponent.exp", 108,#[],some (242,false)⟩,⟨"flowpipe/exponent.halved", 103,#[],some (197,false)⟩,⟨"flowpipe/exponent.log", 108,#[],some (364,false)⟩,⟨"flowpipe/exponent.mul", 144,#[],some (288,false)⟩,⟨"flowpipe/exponent.small", 76,#[],some (290,false)⟩]⟩⟩,
 ⟨190,.func #[37,37,3] #[37,43] false,⟨.named "flowpipe/interval.rounded" 147, "interval.rounded", 1,8,true,8,8,some<|.nilFunc,false,#[]⟩⟩,
 ⟨191,.array 2 37,⟨.array 2 37, "[2]api.Dyadic", 6,80,true,8,8,some<|.agg #[.bool false,.slice none 0 0,.int .i64 0,.bool false,.slice none 0 0,.int .i64 0],false,#[]⟩⟩,
 ⟨192,.array 4 191,⟨.array 4 191, "[4][2]api.Dyadic", 24,320,true,8,8,some<|.agg #[.bool false,.slice none 0 0,.int .i64 0,.bool false,.slice none 0 0,.int .i64 0,.bool false,.slice none 0 0,.int .i64 0,.bool false,.slice none 0 0,.int .i64 0,.bool false,.slice none 0 0,.int .i64 0,.bool false,.slice none 0 0,.int .i64 0,.bool false,.slice none 0 0,.int .i64 0,.bool false,.slice none 0 0,.int .i64 0],false,#[]⟩⟩,
 ⟨213,.struct #[⟨"m", 35,0,false, "", "flowpipe/round", 0⟩,⟨"e", 3,1,false, "", "flowpipe/round", 24⟩,⟨"more", 4,2,false, "", "flowpipe/round", 32⟩],⟨.named "flowpipe/round.exact" 212, "round.exact", 3,40,true,8,8,some<|.agg #[.slice none 0 0,.int .i64 0,.bool false],false,#[]⟩⟩,zT 219 37 "[]api.Dyadic",zT 221 219 "[][]api.Dyadic",
 ⟨233,.map 3 237,⟨.map 3 237, "map[int]func(gradient.node) api.Interval", 1,8,true,8,8,some<|.map none,false,#[]⟩⟩,
 ⟨236,.struct #[⟨"o", 153,0,false, "", "flowpipe/gradient", 0⟩,⟨"v", 41,6,false, "", "flowpipe/gradient", 48⟩,⟨"a", 41,13,false, "", "flowpipe/gradient", 136⟩,⟨"b", 41,20,false, "", "flowpipe/gradient", 224⟩,⟨"da", 41,27,false, "", "flowpipe/gradient", 312⟩,⟨"db", 41,34,false, "", "flowpipe/gradient", 400⟩,⟨"p", 3,41,false, "", "flowpipe/gradient", 488⟩],⟨.named "flowpipe/gradient.node" 235, "gradient.node", 42,496,true,8,8,some<|.agg #[.int .i64 0,.int .i64 0,.int .i64 0,.int .i64 0,.int .i64 0,.int .i64 0,.bool false,.slice none 0 0,.int .i64 0,.bool false,.slice none 0 0,.int .i64 0,.bool false,.bool false,.slice none 0 0,.int .i64 0,.bool false,.slice none 0 0,.int .i64 0,.bool false,.bool false,.slice none 0 0,.int .i64 0,.bool false,.slice none 0 0,.int .i64 0,.bool false,.bool false,.slice none 0 0,.int .i64 0,.bool false,.slice none 0 0,.int .i64 0,.bool false,.bool false,.slice none 0 0,.int .i64 0,.bool false,.slice none 0 0,.int .i64 0,.bool false,.int .i64 0],false,#[]⟩⟩,uf 237 (.func #[236] #[41] false) "func(gradient.node) api.Interval",zT 240 35 "[][]uint32",uf 242 (.func #[35] #[4] false) "func([]uint32) bool",uf 248 (.func #[219] #[4] false) "func([]api.Dyadic) bool",
 ⟨252,.struct #[⟨"p", 3,0,false, "", "flowpipe/linear", 0⟩,⟨"bad", 4,1,false, "", "flowpipe/linear", 8⟩],⟨.named "flowpipe/linear.rough" 251, "linear.rough", 2,16,false,8,8,some<|.agg #[.int .i64 0,.bool false],true,#[]⟩⟩,uf 258 (.func #[3,3,41] #[37] false) "func(int, int, api.Interval) api.Dyadic",uf 261 (.func #[3,3,37] #[41] false) "func(int, int, api.Dyadic) api.Interval",
 ⟨287,.struct #[⟨"neg", 4,0,false, "", "flowpipe/circle", 0⟩,⟨"m", 35,1,false, "", "flowpipe/circle", 8⟩],⟨.named "flowpipe/circle.fix" 286, "circle.fix", 2,32,true,8,8,some<|.agg #[.bool false,.slice none 0 0],false,#[⟨"flowpipe/circle.add", 298,#[],some (384,false)⟩,⟨"flowpipe/circle.by", 294,#[],some (387,false)⟩,⟨"flowpipe/circle.minus", 292,#[],some (375,false)⟩,⟨"flowpipe/circle.times", 295,#[],some (381,false)⟩,⟨"flowpipe/circle.zero", 24,#[],some (385,false)⟩]⟩⟩,uf 298 (.func #[287] #[287] false) "func(circle.fix) circle.fix"]
def Bj:mh prog TT:=KY.ok ⟨⟨underlying3,aF⟩,⟨underlying4,aF⟩,⟨underlying5,aF⟩,⟨underlying9,aF⟩,⟨underlying22,aF⟩,⟨underlying23,aF⟩,⟨underlying25,aF⟩,⟨underlying26,aF⟩,⟨underlying27,aF⟩,⟨underlying29,aF⟩,⟨underlying31,aF⟩,⟨underlying35,aF⟩,⟨underlying37,aF⟩,⟨underlying39,aF⟩,⟨underlying41,aF⟩,⟨underlying43,aF⟩,⟨underlying49,aF⟩,⟨underlying57,aF⟩,⟨underlying62,aF⟩,⟨underlying63,aF⟩,⟨underlying66,aF⟩,⟨underlying67,aF⟩,⟨underlying76,aF⟩,⟨underlying78,aF⟩,⟨underlying79,aF⟩,⟨underlying81,aF⟩,⟨underlying86,aF⟩,⟨underlying95,aF⟩,⟨underlying104,aF⟩,⟨underlying105,aF⟩,⟨underlying131,aF⟩,⟨underlying134,aF⟩,⟨underlying137,aF⟩,⟨underlying148,aF⟩,⟨underlying153,aF⟩,⟨underlying175,aF⟩,⟨underlying188,aF⟩,⟨underlying190,aF⟩,⟨underlying191,aF⟩,⟨underlying192,aF⟩,⟨underlying213,aF⟩,⟨underlying219,aF⟩,⟨underlying221,aF⟩,⟨underlying233,aF⟩,⟨underlying236,aF⟩,⟨underlying237,aF⟩,⟨underlying240,aF⟩,⟨underlying242,aF⟩,⟨underlying248,aF⟩,⟨underlying252,aF⟩,⟨underlying258,aF⟩,⟨underlying261,aF⟩,⟨underlying287,aF⟩,⟨underlying298,aF⟩,trivial⟩
end Go.Proofs.YtjkmahljfblobaaGreatDoor
namespace Go.Proofs.YtjkmahljfblobaaGreatDoor.Pu
open Go.RowKit
def E.ky:E->Nat->Nat->E
 | .sl _ _ _ el,i,j=>el i j
 | .lJ _ _ _ _ el,i,j=>el i j
 |_,_,_=>.any
section
variable {P:Program} {K:World->Prop}
def Sp.pre{c:Code}{σ τ:PS}{Q:Ex->PS->Prop}(h:PS.le σ τ)(k:Sp P K c τ Q):Sp P K c σ Q:=λw0 B a w L g r=>
 let⟨L',r'⟩:=h w0 B a w L (λb hb=>(g.hB b hb).1) r;k w0 B a w L' g r'
def Sp.post{c:Code}{σ:PS}{Q Q':Ex->PS->Prop}(h:Sp P K c σ Q)(k:∀ e τ,Q e τ->∃ τ',PS.le τ τ'/\Q' e τ'):Sp P K c σ Q':=λw0 B a w L g r=>
 Code.wp_mono (λ_ _ _ ⟨ex,τ,L',h1,h2,h3⟩=>let⟨τ',q1,q2⟩:=k ex τ h2;let⟨L2,r2⟩:=q1 w0 B _ _ L' (λb hb=>(g.hB b hb).1) h3;⟨ex,τ',L2,h1,q2,r2⟩) (h w0 B a w L g r)
def Sp.fam{α:Type}(f:α->PS)(p:α->Prop)(m:α->Nat){b:Code}{e:Ex}{τ:PS}
 (step:∀ x,p x->Sp P K b (f x) (λe' υ=>(e' = .normal/\∃ y,p y/\m y<m x/\υ=f y)\/(e' ≠ .normal/\e'=e/\υ=τ))) {σ:PS} (x:α) (hx:p x) (h0:PS.le σ<|f x):
 Sp P K (.loop b) σ (λe' υ=>e'=e/\υ=τ):=by
 refine Sp.pre h0 ?_;refine Sp.loop (Q:=λe' υ=>e'=e/\υ=τ) (λn σ=>∃ x,p x/\m x=n/\σ=f x) (λn σ ⟨x,h1,h2,h3⟩=>?_) (m x) (f x) ⟨x,hx,rfl,rfl⟩;subst h3 h2;exact(step x h1).mono λe' υ h=>h.imp (λ⟨q1,y,q2,q3,q4⟩=>⟨q1,m y,q3,y,q2,rfl,q4⟩) id
def Sp.aiK{α:Type}{f:α->PS}{p:α->Prop}{m:α->Nat}{b:Code}{e:Ex}{τ υ:PS}{x:α}(y:α)(h:Sp P K b (f x) λe' υ'=>e' = .normal/\υ'=υ)(hy:p y)(hm:m y<m x)(hl:PS.le υ<|f y):
 Sp P K b (f x) (λe' υ=>(e' = .normal/\∃ y,p y/\m y<m x/\υ=f y)\/(e' ≠ .normal/\e'=e/\υ=τ)):=
 h.post λ_ _ ⟨h1,h2⟩=>⟨f y,h2▸hl,.inl ⟨h1,y,hy,hm,rfl⟩⟩
def Sp.aiL{α:Type}{f:α->PS}{p:α->Prop}{m:α->Nat}{b:Code}{e:Ex}{τ υ:PS}{x:α}(h:Sp P K b (f x) λe' υ'=>e'=e/\υ'=υ)(he:e ≠ .normal)(hl:PS.le υ τ):
 Sp P K b (f x) (λe' υ=>(e' = .normal/\∃ y,p y/\m y<m x/\υ=f y)\/(e' ≠ .normal/\e'=e/\υ=τ)):=
 h.post λ_ _ ⟨h1,h2⟩=>⟨τ,h2▸hl,.inr ⟨h1▸he,h1,rfl⟩⟩
end
def Di(k:Nat):Code->Option Code
 | .loop b=>if Nat.beq (IT b) k then some b else Di k b
 | .seq a b=>match Di k a with
  |some c=>some c
  |none=>Di k b
 | .cond _ a b=>match Di k a with
  |some c=>some c
  |none=>Di k b
 | .block _ b=>Di k b
 | .scope b=>Di k b
 |_=>none
def O9(k:Nat)(fn:Func):Code:=((fn.body.bind<|Di k).getD .skip)
def Bx.le.jq{a b:Bx}(h:a=b):Bx.le a b:=h▸Bx.le.refl a
def Bx.le.cells{T:TypeId}{l m:List E}(hn:(l.all E.mf=true->m.all E.mf=true))(h:vG l m):Bx.le (.cells T l)<|.cells T m:=⟨hn,λ_ _ _ _ _ ⟨b,vs,h1,h2,h3,h4,h5⟩=>⟨b,vs,h1,h2,h3,h.Nx h4,h5⟩⟩
inductive H8:List PV->List PV->Prop
 |nil:H8 [] []
 |cons {p q:PV} {l m:List PV} (h:PV.le p q) (k:H8 l m):H8 (p::l)<|q::m
def H8.len{l m:List PV}(h:H8 l m):l.length=m.length:=by
 induction h with
 |nil=>rfl
 |cons _ _ ih=>simp[ih]
def Bx.le.row{nl:Bool}{T:TypeId}{n n' sz:Nat}{el el':Nat->Nat->E}(hn:n=n')(h:∀ i j,i<n->j<sz->E.le (el i j) (el' i j)/\(el' i j).nr 2=true):Bx.le (.row nl T n sz el)<|.row nl T n' sz el':=
 ⟨id,λ_ _ _ _ _ ⟨f,h1,h2,h3⟩=>by subst hn;exact⟨f,h1,h2,λi j hi hj=>⟨(h i j hi hj).1 _ _ _ _ (h3 i j hi hj).1,(h i j hi hj).2⟩⟩⟩
def Bx.le.iM{nl:Bool}{T1 T0:TypeId}{n n' sz:Nat}{len len':Nat->Nat}{el el':Nat->Nat->Nat->E}{pend:Option Nat}(hn:n=n')(hl:∀ k,k<n->len k=len' k)
 (h:∀ k i j,k<n->i<len k->j<sz->E.le (el k i j) (el' k i j)/\(el' k i j).nr 2=true):Bx.le (.iM nl T1 T0 n sz len el pend)<|.iM nl T1 T0 n' sz len' el' pend:=
 ⟨id,λ_ _ _ _ _ hh=>by
  subst hn;rcases hh with hh|⟨b,ofs,c,cur,f,h1,h2,h3,h4,h5,h6,h7,h8,h9,nU,nV⟩
  .exact .inl hh
  refine .inr ⟨b,ofs,c,cur,f,h1,h2,h3,h4,h5,h6,h7,λk hk=>?_,h9,nU,nV⟩;rw[<-hl k hk];exact⟨(h8 k hk).1,λi j hi hj=>⟨(h k i j hk hi hj).1 _ _ _ _ ((h8 k hk).2 i j hi hj).1,(h k i j hk hi hj).2⟩⟩⟩
def Bx.le.ab1{T1 T0 sz:Nat}{len:Nat->Nat}{el:Nat->Nat->E}{el':Nat->Nat->Nat->E}:Bx.le (.row true T1 0 1 el)<|.iM true T1 T0 0 sz len el' none:=
 ⟨id,λ_ _ _ _ _ ⟨f,h1,h2,h3⟩=>by
  rcases h1 with⟨h,_⟩|⟨b,ofs,c,cur,h,hg,qf,oZ,nL,kF,jQ⟩
  .refine .inl ⟨h,rfl,λx hx=>?_⟩;have:=(h2 x).1 hx;rw[h]at this;simp[Value.ownBlock]at this
  .refine .inr ⟨b,ofs,c,cur,λ_ _ _=>undef,h,hg,qf,oZ,aC,λk hk=>absurd hk<|bC k,jQ rfl,λk hk=>absurd hk<|bC k,λx=>?_,λk k' x hk=>absurd hk<|bC k,λk hk=>absurd hk<|bC k⟩;rw[h2,h];simp only[Value.ownBlock,bG];exact⟨λe=>.inl e.symm,λe=>e.elim (λe=>e.symm) λ⟨k,hk,_⟩=>absurd hk<|bC k⟩⟩
def PS.le.alL{σ τ:PS}(hn:σ.n=τ.n)(jQ:(τ.b.all λx=>x.2.nl)=true)(hr:Kp τ=true)(ht:zY σ τ.t)(hb:yI σ τ.b):PS.le σ τ:=λw0 B a w L _ r=>by
 let L':Lk:=⟨λid=>L.mE id/\(τ.bo id).isSome=true,λid x=>L.own id x/\(τ.bo id).isSome=true,L.val,L.iQ⟩
 have iN:rJ L w L' w:=⟨bw _,λx _ ⟨id,h,_⟩=>⟨id,h⟩,λ_ _ _=>rfl⟩
 refine⟨L',r.hd,by rw[<-hn];exact r.hs,λt=>?_,λid b h=>?_,λid=>?_,λid x h=>⟨r.hn id x h.1,h.2⟩,λid x h=>r.hw id x h.1,λid id' x h k=>r.hi id id' x h.1 k.1,r.he,λh id b k=>?_⟩
 .have hg:τ.get t=((look τ.t t)).getD (.e .any):=rfl;cases hl:look τ.t t with
  |none=>rw[hg,hl];exact .any _
  |some p=>
   rw[hg,hl];have:=ht.get hl _ _ _ _ _<|r.ht t;refine kZ.move iN this λid hid qe=>⟨⟨qe,?_⟩,rfl,λ_=>rfl⟩
   have q:=bO.1 (ic.1 hr).1 _<|JN hl;exact bO.1 q id hid
 .obtain ⟨b',h1,h2⟩:=hb.get h;have hs:(τ.bo id).isSome=true:=by rw[h];rfl
  refine(h2.2 _ _ _ _ _<|r.hb id b' h1).later iN rfl (λx=>⟨λq=>q.1,λq=>⟨q,hs⟩⟩) (λ_=>rfl) (λ_ _=>rfl) λp v hp k=>kZ.move iN k λid hid qe=>⟨⟨qe,?_⟩,rfl,λ_=>rfl⟩
  have q:=bO.1 (ic.1 hr).2 _<|JN h;exact bO.1 q id<|dP.2 ⟨p,hp,hid⟩
 .show L.mE id/\(τ.bo id).isSome=true↔(τ.bo id).isSome=true;refine⟨λh=>h.2,λh=>⟨(r.hv id).2 ?_,h⟩⟩;obtain⟨b,iZ⟩:=gJ.1 h;obtain⟨b',h1,_⟩:=hb.get iZ;rw[h1];rfl
 .exact bO.1 jQ _<|JN k
def PV.wQ(id:Nat)(e:E)(p:PV):PV:=match p with
 | .own i=>if Nat.beq i id then .e e else .own i
 |p=>if p.lh.any (Nat.beq id)then .e .any else p
def PS.wQ(σ:PS)(id:Nat)(e:E):PS:={ σ with t:=σ.t.map λx=>(x.1,x.2.wQ id e),b:=(σ.b.filter λx=>!Nat.beq x.1 id).map λx=>(x.1,x.2.rY<|PV.wQ id e) }
def Bx.as:Bx->Option E
 | .row nl _ n sz el=>some<|.sl nl n sz el
 | .iM nl _ _ n sz len el none=>some<|.sl true n 1 λk _=>.sl nl (len k) sz<|el k
 |_=>none
def PS.le.freeze{σ:PS}(id:Nat){b:Bx}{e:E}(iZ:σ.bo id=some b)(he:b.as=some e):PS.le σ<|σ.wQ id e:=λw0 B a w L hB r=>by
 let L':Lk:=⟨λi=>L.mE i/\i≠id,λi x=>L.own i x/\i≠id,L.val,L.iQ⟩
 have iN:rJ L w L' w:=⟨bw _,λx _ ⟨i,h,_⟩=>⟨i,h⟩,λ_ _ _=>rfl⟩
 have rP:∀ i,(σ.wQ id e).bo i=if i=id then none else(σ.bo i).map (Bx.rY<|PV.wQ id e):=by
  intro i;unfold PS.bo PS.wQ;simp only[MX];by_cases h:i=id
  .subst h;rw[bk rfl,ZP];rfl
  .rw [bj h,JM _ _ _ λe=>h e.symm]
 have pQ:∀ x,L.own id x->¬bad B L' x:=by
  rintro x hx (h|⟨i,h1,h2⟩)
  .exact (r.hw id x hx).1<|hB x h
  .exact h2<|r.hi i id x h1 hx
 have own:∀ (v:Value) (T:TypeId) (n sz:Nat) (f:Nat->Nat->Value) (nl:Bool) (el:Nat->Nat->E),nu w v T n sz f nl->(∀ x,v.ownBlock=some x->L.own id x) ->
  (∀ i j,i<n->j<sz->iO (bad B L) (jt L) w (el i j) (f i j)/\(el i j).nr 2=true)->iO (bad B L') (jt L') w (.sl nl n sz el) v:=by
  intro v T n sz f nl el h1 h2 h3;rcases h1 with⟨rfl,rfl⟩|⟨b,ofs,c,cur,rfl,hg,qf,oZ,nL,kF,jQ⟩
  .exact .sl nl 0 sz el none 0 f (bw _) aE (λ_=>rfl) (λi j hi=>absurd hi<|bC i) (λi j hi=>absurd hi<|bC i) (λi j hi=>absurd hi<|bC i) λi j hi=>absurd hi<|bC i
  .have qg:=h2 b rfl;refine .sl nl n sz el _ c f qf (by unfold maxLen at oZ;omega) (λh=>by cases h) (λi j hi hj=>⟨(kF i j hi hj).2,λhn=>jQ hn _<|ek (kF i j hi hj).1⟩) (λi j hi hj=>(h3 i j hi hj).2)
    (λi j hi hj=>⟨b,ofs,rfl,pQ b qg,(r.hw id b qg).2,?_⟩) (λi j hi hj=>iN.kJ (h3 i j hi hj).1)
   simp only[World.cell?,hg];simpa using(kF i j hi hj).1
 have hold:∀ v,v=L.val id->iO (bad B L') (jt L') w e v:=by
  rintro v rfl;have Ml:=r.hb id b iZ;cases b with
  |cells T l=>cases he
  |qn nl T l=>cases he
  |A8=>cases he
  |nN=>cases he
  |row nl T n sz el=>
   cases he;obtain⟨f,h1,h2,h3⟩:=Ml;exact own _ T n sz f nl el h1 (λx hx=>(h2 x).2 hx) h3
  |iM nl T1 T0 n sz len el pend=>
   cases pend with
   |some k=>cases he
   |none=>
    cases he;rcases Ml with⟨h1,h2,_⟩|ju
    .subst h2;rw[h1];exact .sl true 0 1 _ none 0 (λ_ _=>undef) (bw _) aE (λ_=>rfl) (λi j hi=>absurd hi<|bC i) (λi j hi=>absurd hi<|bC i) (λi j hi=>absurd hi<|bC i) λi j hi=>absurd hi<|bC i
    obtain⟨b,ofs,c,cur,f,h1,h2,h3,h4,h5,h6,h7,h8,h9,nU,nV⟩:=ju;have qg:L.own id b:=(h9 b).2<|.inl rfl;rw[h1];refine .sl true n 1 _ _ c (λk _=>L.iQ id k) h3 (by unfold maxLen at h4;omega) (λh=>by cases h) (λk j hk hj=>?_) (λk j hk hj=>rfl)
     (λk j hk hj=>⟨b,ofs,rfl,pQ b qg,(r.hw id b qg).2,?_⟩) (λk j hk hj=>own _ T0 (len k) sz (f k) nl (el k) (h8 k hk).1 (λx hx=>(h9 x).2<|.inr ⟨k,hk,hx⟩) (h8 k hk).2)
    .obtain ⟨_,q1,q2⟩:=(h8 k hk).1.head;exact⟨q1,λ_=>q2⟩
    .rw [cE];obtain rfl:j=0:= aC ;simp only[World.cell?,h2];simpa using h6 k hk aH 
 have hT:∀ (p:PV) (v:Value),kZ (bad B L) (jt L) L w p v->kZ (bad B L') (jt L') L' w (p.wQ id e) v:=by
  intro p v k;have move:∀ (p:PV) (v:Value),kZ (bad B L) (jt L) L w p v->(p.lh.any<|Nat.beq id)=false->kZ (bad B L') (jt L') L' w p v:=by
   intro p v k hp;refine kZ.move iN k λi hi qe=>⟨⟨qe,?_⟩,rfl,λ_=>rfl⟩
   rintro rfl;have:=cI.1 hp i hi;simp at this
  have gen:∀ (p:PV) (v:Value),kZ (bad B L) (jt L) L w p v->kZ (bad B L') (jt L') L' w (if p.lh.any (Nat.beq id)then .e .any else p) v:=by
   intro p v k;cases hp:p.lh.any (Nat.beq id)with
   |true=>exact .any _
   |false=>exact move p v k hp
  cases p with
  |own i=>
   simp only[PV.wQ];by_cases hi:i=id
   .subst hi;rw[cH,bk rfl];exact hold _ k.2
   .rw [cX hi,bj aE];exact⟨⟨k.1,hi⟩,k.2⟩
  |_=>exact gen _ _ k
 refine⟨L',r.hd,r.hs,λt=>?_,λi b' h=>?_,λi=>?_,λi x h=>⟨r.hn i x h.1,h.2⟩,λi x h=>r.hw i x h.1,λi i' x h k=>r.hi i i' x h.1 k.1,r.he,λh i b' k=>?_⟩
 .have hg:(σ.wQ id e).get t=(σ.get t).wQ id e:=by
   unfold PS.get PS.wQ;rw[MX];cases look σ.t t<;>rfl
  rw[hg];exact hT _ _<|r.ht t
 .rw [rP]at h;split at h
  .cases h
  .rename_i hi;obtain⟨b0',ml,rfl⟩:=cg.1 h;exact nh.map (g:=λp=>p) iN (by rw[EY];exact r.hb i b0' ml) rfl (λx=>⟨λq=>q.1,λq=>⟨q,hi⟩⟩) (λ_=>rfl) (λ_ _=>rfl) λp v _ k=>hT p v k
 .rw [rP];show L.mE i/\i≠id↔_;by_cases hi:i=id
  .subst hi;simp
  .simp only[hi,df,eW,fO,bB,fh];exact r.hv i
 .rw [rP]at k;split at k
  .cases k
  .obtain ⟨b0',ml,rfl⟩:=cg.1 k;rw[EZ];exact r.hl h i b0' ml
def PS.FI(σ:PS)(t id:Nat)(b:Bx):PS:={ σ with t:=(t,.own id)::σ.t.filter (λx=>!Nat.beq x.1 t),b:=(id,b)::σ.b }
def PS.le.ad9{σ:PS}(t id:Nat){nl:Bool}{T:TypeId}{sz:Nat}{el:Nat->Nat->E}(iZ:σ.bo id=none)(hg:σ.get t = .e (.v<|.slice none 0 0))(jQ:σ.nl=true->nl=true):PS.le σ<|σ.FI t id<|.row nl T 0 sz el:=λw0 B a w L hB r=>by
 have o0:¬L.mE id:=λh=>by have:=(r.hv id).1 h;rw[iZ]at this;cases this
 let L':Lk:=⟨λi=>L.mE i\/i=id,L.own,λi=>if i=id then .slice none 0 0 else L.val i,L.iQ⟩
 have iN:rJ L w L' w:=⟨bw _,λx _ h=>h,λ_ _ _=>rfl⟩
 have rP:∀ i,(σ.FI t id<|.row nl T 0 sz el).bo i=if i=id then some (.row nl T 0 sz el)else σ.bo i:=by
  intro i;unfold PS.bo PS.FI;rw[tn];by_cases h:id=i
  .rw [bk h,bk h.symm]
  .rw [bj h,bj λe=>h e.symm]
 have hv:a.tmps.getD t undef = .slice none 0 0:=by
  have:=r.ht t;rw[hg]at this;exact iO.kW this
 refine⟨L',r.hd,r.hs,λs=>?_,λi b' h=>?_,λi=>?_,λi x h=>.inl<|r.hn i x h,r.hw,r.hi,r.he,λh i b' k=>?_⟩
 .have hgs:(σ.FI t id<|.row nl T 0 sz el).get s=if t=s then .own id else σ.get s:=by
   unfold PS.get PS.FI;simp only[tn];by_cases h:t=s
   .rw [bk h,bk h];rfl
   .rw [bj h,bj h,JM _ _ _ h]
  rw[hgs];by_cases h:t=s
  .subst h;rw[bk rfl,hv];exact⟨.inr rfl,(bk rfl).symm⟩
  .rw [bj h];refine kZ.move iN (r.ht s) λi _ qe=>⟨.inl qe,bj λ(q:i=id)=>o0<|q▸qe,λ_=>rfl⟩
 .rw [rP]at h;split at h
  .rename_i hi;subst hi;cases h;refine⟨λ_ _=>undef,.inl ⟨bk rfl,rfl⟩,λx=>⟨λq=>absurd (r.hn _ _ q) o0,λq=>?_⟩,λi j hi=>absurd hi<|bC i⟩;have e1:L'.val i = .slice none 0 0:=bk rfl;rw[e1]at q;cases q
  .rename_i hi;exact(r.hb i b' h).later iN (bj hi) (λ_=>Iff.rfl) (λ_=>rfl) (λ_ _=>rfl) λp v _ k=>kZ.move iN k λi _ qe=>⟨.inl qe,bj λ(q:i=id)=>o0<|q▸qe,λ_=>rfl⟩
 .rw [rP];show L.mE i\/i=id↔_;by_cases hi:i=id
  .subst hi;simp
  .simp only[hi,or_false,bB];exact r.hv i
 .rw [rP]at k;split at k
  .cases k;exact jQ h
  .exact r.hl h i b' k
def Bx.KI:Bx->Option (Bool×TypeId×List PV)
 | .cells T l=>some (l.all E.mf,T,l.map .e)
 | .qn nl T l=>some (nl,T,l)
 |_=>none
def nh.KI{B:Nat->Prop}{L:Lk}{w:World}{id:Nat}{b:Bx}{nl:Bool}{T:TypeId}{l:List PV}(h:nh (bad B L) (jt L) L w id b)(hf:b.KI=some (nl,T,l)):nh (bad B L) (jt L) L w id<|.qn nl T l:=by
 cases b with
 |cells T' l'=>
  cases hf;obtain⟨b,vs,h1,h2,h3,h4,h5⟩:=h;refine⟨b,vs,h1,h2,h3,by rw[h4.len,cG],λi p v hp hv=>?_,λu hu=>⟨h5 u hu,λhn=>JI h4 hn u hu⟩⟩;rw[cC]at hp;obtain⟨e,he,rfl⟩:=cg.1 hp;exact h4.kJ i e v he hv
 |qn nl' T' l'=>cases hf;exact h
 |row=>cases hf
 |iM=>cases hf
 |A8=>cases hf
 |nN=>cases hf
def arP{b:Bx}{nl:Bool}{T:TypeId}{l:List PV}(hf:b.KI=some (nl,T,l)):b.nl=nl:=by
 cases b<;>cases hf<;>rfl
def isNil:PV->Bool
 | .e (.v<|.slice none 0 0)=>true
 |_=>false
def akU{p:PV}(h:isNil p=true):p = .e (.v<|.slice none 0 0):=by
 unfold isNil at h;split at h
 .rfl
 .cases h
def PS.OT(σ:PS)(d off id:Nat)(b:Bx):Option PS:=match σ.bo id,σ.bo d with
 |none,some bd=>match bd.KI with
  |some (nl,T,l)=>match l[off]? with
   |some p=>if isNil p then some { σ with b:=(id,b)::(d,.qn nl T<|l.set off<|.own id)::σ.b }else none
   |none=>none
  |none=>none
 |_,_=>none
def PS.le.aea{σ τ:PS}{d off id:Nat}{nl:Bool}{T:TypeId}{sz:Nat}{el:Nat->Nat->E}(h:σ.OT d off id (.row nl T 0 sz el)=some τ)(jQ:σ.nl=true->nl=true):PS.le σ τ:=λw0 B a w L hB r=>by
 unfold PS.OT at h;split at h
 .rename_i bd iZ I2;split at h
  .rename_i nl' T' l hf;split at h
   .rename_i p hp;split at h
    .rename_i hn;obtain rfl:=akU hn;cases h;have jV:d≠id:=λe=>by subst e;rw[iZ]at I2;cases I2
     have o0:¬L.mE id:=λh=>by have:=(r.hv id).1 h;rw[iZ]at this;cases this
     let L':Lk:=⟨λi=>L.mE i\/i=id,L.own,λi=>if i=id then .slice none 0 0 else L.val i,L.iQ⟩
     have iN:rJ L w L' w:=⟨bw _,λx _ h=>h,λ_ _ _=>rfl⟩
     have Ja:∀ (p:PV) (v:Value),kZ (bad B L) (jt L) L w p v->kZ (bad B L') (jt L') L' w p v:=λp v k=>kZ.move iN k λi _ qe=>⟨.inl qe,bj λ(q:i=id)=>o0<|q▸qe,λ_=>rfl⟩
     have rP:∀ i,PS.bo { σ with b:=(id,.row nl T 0 sz el)::(d,.qn nl' T'<|l.set off<|.own id)::σ.b } i=if i=id then some (.row nl T 0 sz el)else if i=d then some (.qn nl' T'<|l.set off<|.own id)else σ.bo i:=by
      intro i;unfold PS.bo;simp only[tn];by_cases h:id=i
      .rw [bk h,bk h.symm]
      .rw [bj h,bj<|show ¬i=id from λe=>h e.symm];by_cases h2:d=i
       .rw [bk h2,bk h2.symm]
       .rw [bj h2,bj λe=>h2 e.symm]
     refine⟨L',r.hd,r.hs,λs=>Ja _ _<|r.ht s,λi b' h=>?_,λi=>?_,λi x h=>.inl<|r.hn i x h,r.hw,r.hi,r.he,λh i b' k=>?_⟩
     .rw [rP]at h;split at h
      .rename_i hi;subst hi;cases h;refine⟨λ_ _=>undef,.inl ⟨bk rfl,rfl⟩,λx=>⟨λq=>absurd (r.hn _ _ q) o0,λq=>?_⟩,λi j hi=>absurd hi<|bC i⟩;have e1:L'.val i = .slice none 0 0:=bk rfl;rw[e1]at q;cases q
      .rename_i hi;split at h
       .rename_i hd;subst hd;cases h;obtain⟨b,vs,h1,h2,h3,h4,h5,h6⟩:=(r.hb i _ I2).KI hf;refine⟨b,vs,(bj hi).trans h1,h2,h3,by simpa using h4,λj p v C7 hv=>?_,h6⟩;rw[List.getElem?_set]at C7;split at C7
        .rename_i hj;subst hj;split at C7
         .cases C7;have C8:=iO.kW<|h5 off _ v hp hv;exact⟨.inr rfl,C8.trans (bk rfl).symm⟩
         .cases C7
        .exact Ja _ _<|h5 j p v C7 hv
       .exact (r.hb i b' h).later iN (bj hi) (λ_=>Iff.rfl) (λ_=>rfl) (λ_ _=>rfl) λp v _ k=>Ja p v k
     .rw [rP];show L.mE i\/i=id↔_;by_cases hi:i=id
      .subst hi;simp
      .simp only[hi,or_false,bB];by_cases hd:i=d
       .subst hd;simp only[bH,Option.isSome_some,iff_true];exact(r.hv i).2<|by rw[I2];rfl
       .simp only[hd,bB];exact r.hv i
     .rw [rP]at k;split at k
      .cases k;exact jQ h
      .split at k
       .cases k;show nl'=true;rw[<-arP hf];exact r.hl h d _ I2
       .exact r.hl h i b' k
    .cases h
   .cases h
  .cases h
 .cases h
end Go.Proofs.YtjkmahljfblobaaGreatDoor.Pu
namespace Go.Proofs.YtjkmahljfblobaaGreatDoor.Fp
def nO(x i:Nat)(b o:List Nat):Nat->List Nat×Nat
 | 0=>(o,0)
 |k+1=>
  let r:=nO x i b o k
  let z:=x*b.getD k 0+r.1.getD (i+k) 0+r.2
  (r.1.set (i+k)<|z%4294967296,z/4294967296)
def mr(a b:List Nat):Nat->List Nat
 | 0=>List.replicate (a.length+b.length) 0
 |i+1=>
  let r:=nO (a.getD i 0) i b (mr a b i) b.length
  r.1.set (i+b.length) (r.2%4294967296)
def aap{x y:Nat}(hx:x<4294967296)(hy:y<4294967296):x*y<=18446744065119617025:=by
 have:=dU (aC:x<=4294967295) (aC:y<=4294967295);omega
section
variable{L:List Nat}
def FC{k x:Nat}(hk:k<L.length):val (L.set k x)+4294967296^k*L.getD k 0=val L+4294967296^k*x:=by
 have:=TB (x:=x) hk;rwa[bt,bD hk]
def CR{k j x:Nat}(h:k≠j):(L.set k x).getD j 0=L.getD j 0:=by
 simp only[bt,List.getElem?_set_ne h]
def ai5{k x:Nat}(h:k<L.length):(L.set k x).getD k 0=x:=by
 simp[bt,h]
end
structure ad0(x i:Nat)(b o:List Nat)(k:Nat)(r:List Nat×Nat):Prop where
 ok:iW r.1
 len:r.1.length=o.length
 lt:r.2<4294967296
 eq:val r.1+4294967296^(i+k)*r.2=val o+4294967296^i*(x*val (b.take k))
 rG:∀ j,i+k<=j->r.1.getD j 0=o.getD j 0
def JU{x i:Nat}{b o:List Nat}(hx:x<4294967296)(hb:iW b)(ho:iW o)(hl:i+b.length<=o.length):∀ k,k<=b.length->ad0 x i b o k (nO x i b o k)
 | 0,_=>⟨ho,rfl,Nat.zero_lt_succ _,by simp[nO,val],λ_ _=>rfl⟩
 |k+1,hk=>by
  obtain⟨h1,h2,h3,h4,h5⟩:=JU hx hb ho hl k aC;have hy:=hb.getD k;have hw:=h1.getD<|i+k;have hm:=aap hx hy;have hv:=DM b k;simp only[nO];generalize nO x i b o k=r at *
  generalize hz:x*b.getD k 0+r.1.getD (i+k) 0+r.2=z;have Jk:=FC (L:=r.1) (k:=i+k) (x:=z%4294967296) aC;refine⟨h1.set _<|bR _ aE,by simpa using h2,by show z/4294967296<_;omega,?_,λj hj=>?_⟩
  .have e1:z=z%4294967296+4294967296*(z/4294967296):=(ff z _).symm;show val (r.1.set (i+k)<|z%4294967296)+4294967296^(i+(k+1))*(z/4294967296)=_;rw[hv,ch x,ch<|4294967296^i,<-de (val o),<-h4];have e2:4294967296^(i+(k+1))*(z/4294967296)=4294967296^(i+k)*(4294967296*(z/4294967296)):=by rw[(aC:i+(k+1)=(i+k)+1),bM,bI]
   have e3:4294967296^i*(x*(4294967296^k*b.getD k 0))=4294967296^(i+k)*(x*b.getD k 0):=by rw[bE];simp only[bI,eE]
   rw[e2,e3];have e4:4294967296^(i+k)*z=4294967296^(i+k)*(x*b.getD k 0)+4294967296^(i+k)*r.1.getD (i+k) 0+4294967296^(i+k)*r.2:=by rw[<-hz,ch,ch]
   have e5:4294967296^(i+k)*z=4294967296^(i+k)*(z%4294967296)+4294967296^(i+k)*(4294967296*(z/4294967296)):=by rw[<-ch,<-e1]
   omega
  .show (r.1.set (i+k) _).getD j 0=_;rw[CR aC,h5 j aC]
structure ad1(a b:List Nat)(i:Nat)(o:List Nat):Prop where
 ok:iW o
 len:o.length=a.length+b.length
 eq:val o=val (a.take i)*val b
 zero:∀ j,i+b.length<=j->o.getD j 0=0
def JV{a b:List Nat}(ha:iW a)(hb:iW b):∀ i,i<=a.length->ad1 a b i (mr a b i)
 | 0,_=>⟨iW.Ha _,by simp[mr],by simp[mr,FB,val],λj _=>by
  by_cases h:j<a.length+b.length<;>simp[mr,bt,gL,h]⟩
 |i+1,hi=>by
  obtain⟨h1,h2,h3,h4⟩:=JV ha hb i aC;obtain⟨q1,q2,q3,q4,q5⟩:=JU (ha.getD i) hb h1 (i:=i) aC b.length<|bw _;have hv:=DM a i;simp only[mr];generalize nO (a.getD i 0) i b (mr a b i) b.length=r at *
  have Jk:=FC (L:=r.1) (k:=i+b.length) (x:=r.2%4294967296) aC;rw[q5 _<|bw _,h4 _<|bw _,dj,cj,cF q3,q4,ado,h3]at Jk;refine⟨q1.set _<|bR _ aE,aN,?_,λj hj=>?_⟩
  .rw [cF q3,Jk,hv,bT,bI]
  .rw [CR aC,q5 _ aC,h4 _ aC]
def asm{a b:List Nat}(ha:iW a)(hb:iW b):val (mr a b a.length)=val a*val b:=by
 have:=(JV ha hb a.length<|bw _).eq;rwa[ado]at this
end Go.Proofs.YtjkmahljfblobaaGreatDoor.Fp
namespace Go.Proofs.YtjkmahljfblobaaGreatDoor
open Go.RowKit Fp Pu
abbrev rC(L:List Nat):Nat->Nat->E:=λi _=>.v<|.int .u32 (L.getD i 0:Int)
def DK(n:Nat):IntKind.u32.wrap (n:Int)=((n%4294967296:Nat):Int):=by rw[IntKind.wrap_u32];omega
def Yz(n:Nat)(h:n<9223372036854775808):IntKind.i64.wrap (n:Int)=n:=by rw[IntKind.wrap_i64];omega
def S9(n:Nat):(n:Int)/2^32=((n/4294967296:Nat):Int):= aC 
def acB{L:List Nat}{n:Nat}(h:n=L.length):E.le (.sl false n 1<|rC L)<|iy L:=by subst h;exact .refl _
def ab0{T n n':Nat}{L:List Nat}(hn:n=n')(h:∀ i,L.getD i 0=0):Bx.le (.row false T n 1 λ_ j=>[.v<|.int .u32 0].getD j .any)<|.row false T n' 1<|rC L:=
 .row hn λi j _ hj=>by
  obtain rfl:j=0:= aC ;refine⟨.jq ?_,rfl⟩;show E.v (.int .u32 0)=E.v (.int .u32 (L.getD i 0:Int));rw[h i];rfl
def SY{T n n' p:Nat}{L:List Nat}{z:Nat}(hn:n=n')(hp:p<L.length):Bx.le (.row false T n 1 λi' j'=>if i'=p/\0<=j'/\j'<0+1 then[.v<|.int .u32 (z:Int)].getD (j'-0) .any else(rC L) i' j')<|.row false T n' 1<|rC<|L.set p z:=
 .row hn λi j _ hj=>by
  obtain rfl:j=0:= aC ;refine⟨.jq ?_,rfl⟩;by_cases h:i=p
  .subst h;rw[bk ⟨rfl,aC,aC⟩];show E.v (.int .u32 (z:Int))=E.v (.int .u32 (((L.set i z).getD i 0:Nat):Int));rw[Fp.ai5 hp]
  .rw [bj λq=>h q.1];show E.v (.int .u32 (L.getD i 0:Int))=E.v (.int .u32 (((L.set p z).getD i 0:Nat):Int));rw[Fp.CR λq=>h q.symm]
def abK{k l:IntKind}{a b c d:Int}(h:a=b)(h':c=d):Ending.returned (.tuple #[.int k a,.int l c]) = .returned (.tuple #[.int k b,.int l d]):=by rw[h,h']
def Ib(x y c:Nat)(w:World)(hx:x<4294967296)(hy:y<4294967296)(hc:c<=1):
 Calls prog 359 #[.int .u32 x,.int .u32 y,.int .u32 c] w λe w'=>e = .returned (.tuple #[.int .u32 (((x+y+c)%4294967296:Nat):Int),.int .u32 (((x+y+c)/4294967296:Nat):Int)])/\w=w':=by
 go_enter func359,ntmps359;go_wp2;go_ret2;refine⟨?_,rfl⟩;exact abK aC aC 
section
variable(a b:Nat)(ha:a<4294967296)(hb:b<4294967296)
def ar5:bits .or .u32 (a:Int) (b:Int)=((a |||b:Nat):Int):=by
 have h2:a |||b<2^32:=atN ha hb
 show IntKind.u32.wrap ((BitVec.ofInt 32 (a:Int) |||BitVec.ofInt 32 (b:Int)).toNat:Int)=_;rw[BitVec.toNat_or,fR,fR];rw[show((a:Int)%((2^32:Nat):Int)).toNat=a by omega,show((b:Int)%((2^32:Nat):Int)).toNat=b by omega];rw[IntKind.wrap_u32];omega
def adm:bits .and .u32 (a:Int) (b:Int)=((a &&& b:Nat):Int):=by
 have h2:a &&& b<2^32:=fQ a hb;show IntKind.u32.wrap ((BitVec.ofInt 32 (a:Int) &&& BitVec.ofInt 32 (b:Int)).toNat:Int)=_;rw[BitVec.toNat_and,fR,fR];rw[show((a:Int)%((2^32:Nat):Int)).toNat=a by omega,show((b:Int)%((2^32:Nat):Int)).toNat=b by omega];rw[IntKind.wrap_u32];omega
def Tw:bits .xor .u32 (a:Int) (b:Int)=((a ^^^ b:Nat):Int):=by
 have h2:a ^^^ b<2^32:=fp ha hb;show IntKind.u32.wrap ((BitVec.ofInt 32 (a:Int) ^^^ BitVec.ofInt 32 (b:Int)).toNat:Int)=_;rw[BitVec.toNat_xor,fR,fR];rw[show((a:Int)%((2^32:Nat):Int)).toNat=a by omega,show((b:Int)%((2^32:Nat):Int)).toNat=b by omega];rw[IntKind.wrap_u32];omega
end
def Ob(n:Nat)(h:n<4294967296):n/2147483648=(n.testBit 31).toNat:=by
 rw[Nat.testBit_eq_decide_div_mod_eq,show(2:Nat)^31=2147483648 from rfl];have h2:n/2147483648<2:= aC ;generalize n/2147483648=q at *
 have:q=0\/q=1:= aC ;rcases this with rfl|rfl<;>rfl
def aq9(x y c d:Nat)(hx:x<4294967296)(hy:y<4294967296)(hc:c<=1)(hd:d=(x+(4294967296-y)+(4294967296-c))%4294967296):
 (((4294967295 ^^^ x) &&& y) ||| ((4294967295 ^^^ (x ^^^ y)) &&& d))/2147483648=if x<y+c then 1 else 0:=by
 have Eg:d<4294967296:= aC ;have h1:4294967295 ^^^ x<2^32:=fp aE hx;have h2:x ^^^ y<2^32:=fp hx hy;have h3:4294967295 ^^^ (x ^^^ y)<2^32:=fp aE h2;have h4:(4294967295 ^^^ x) &&& y<2^32:=fQ _ hy;have h5:(4294967295 ^^^ (x ^^^ y)) &&& d<2^32:=fQ _ Eg;rw[Ob _<|atN h4 h5];have tx:=Ob x hx;have ty:=Ob y hy;have td:=Ob d Eg;rw[Nat.testBit_or,Nat.testBit_and,Nat.testBit_and,atS,atS,atS,show(4294967295:Nat).testBit 31=true by decide];clear h1 h2 h3 h4 h5;generalize x.testBit 31=p at *
 generalize y.testBit 31=q at *
 generalize d.testBit 31=r at *
 cases p<;>cases q<;>cases r<;>simp at tx ty td ⊢ <;> omega
section
variable(x y c:Nat)
def DW:Nat:=if x<y+c then 1 else 0
def Aj:Nat:=(x+(4294967296-y)+(4294967296-c))%4294967296
def IB(hx:x<4294967296)(hy:y<4294967296)(hc:c<=1):Aj x y c+y+c=x+4294967296*DW x y c/\DW x y c<=1/\Aj x y c<4294967296:=by
 unfold Aj DW;split<;>omega
def acK(w:World)(hx:x<4294967296)(hy:y<4294967296)(hc:c<=1):
 Calls prog 360 #[.int .u32 x,.int .u32 y,.int .u32 c] w λe w'=>e = .returned (.tuple #[.int .u32 (Aj x y c:Nat),.int .u32 (DW x y c:Nat)])/\w=w':=by
 go_enter func360,ntmps360;go_wp2;go_ret2;refine⟨?_,rfl⟩;have hd:((x:Int)-y-c)%4294967296=(Aj x y c:Int):=by unfold Aj;omega
 have hb:=aq9 x y c (Aj x y c) hx hy hc rfl;have hl:=(IB x y c hx hy hc).2.2;have em:IntKind.u32.max=((4294967295:Nat):Int):=rfl;refine abK hd ?_;rw[hd,em,Tw _ _ aE hx,Tw _ _ hx hy];have h1:4294967295 ^^^ x<2^32:=fp aE hx;have h2:x ^^^ y<2^32:=fp hx hy;have h3:4294967295 ^^^ (x ^^^ y)<2^32:=fp aE h2;rw[Tw _ _ aE h2,adm _ _ h1 hy,adm _ _ h3 hl];have h4:(4294967295 ^^^ x) &&& y<2^32:=fQ _ hy;have h5:(4294967295 ^^^ (x ^^^ y)) &&& Aj x y c<2^32:=fQ _ hl;rw[ar5 _ _ h4 h5];unfold DW;rw[<-hb];omega
end
def T7{O:List Nat}{k c x y P Q P' Q':Nat}(ho:O[k]? = some 0)(h:val O+4294967296^k*c=P+Q)
 (hP:P'=P+4294967296^k*x) (hQ:Q'=Q+4294967296^k*y):
 val (O.set k<|(x+y+c)%4294967296)+4294967296^(k+1)*((x+y+c)/4294967296)=P'+Q':=by
 have h1:=aaq (a:=1) (b:=x+y) (c:=c) ho;rw[bX,cj]at h1;rw[h1,h,hP,hQ,ch];omega
def acL{O:List Nat}{k c x y d c' P Q P' Q':Nat}(ho:O[k]? = some 0)(h:val O+Q=P+4294967296^k*c)
 (hP:P'=P+4294967296^k*x) (hQ:Q'=Q+4294967296^k*y) (hd:d+y+c=x+4294967296*c'):
 val (O.set k d)+Q'=P'+4294967296^(k+1)*c':=by
 obtain⟨hk,h0⟩:=cD.1 ho;have h1:=TB (x:=d) hk;rw[h0,dj,cj]at h1;have e:=congrArg (4294967296^k * ·) hd;simp only[ch,<-bI]at e;rw[bM,h1,hP,hQ];omega
def wG(O:List Nat)(k:Nat):Prop:=∀ j,k<=j->j<O.length->O[j]? = some 0
def wG.at{O:List Nat}{k:Nat}(h:wG O k)(hk:k<O.length):O[k]? = some 0:=h k (bw _) hk
def wG.set{O:List Nat}{k:Nat}(h:wG O k)(v:Nat):wG (O.set k v)<|k+1:=λj h1 h2=>by
 rw[List.getElem?_set_ne aC];exact h j aC<|by simpa using h2
def wG.TK(n:Nat):wG (List.replicate n 0) 0:=λj _ h=>by
 rw[gL];rw[bk<|by simpa using h]
section
variable(w:World)(v n:Nat)(e:Ending)(w':World)
def OI:Prop:=∃ T,val T=v/\iW T/\T.length=n/\Aa w T e w'
def TV:Prop:=∃ T,val T=v/\iW T/\T.length<=n/\Aa w T e w'
end
section
variable(A B:Option Addr)(c d:Nat)(L M:List Nat)(w:World)
section
variable(hs:Sl w A c L)(hr:Sl w B d M)(h1:L.length<=3000)
def anm(_h2:M.length<=3000)(hc:M.length<=L.length):
 Calls prog 336 #[.slice A L.length c,.slice B M.length d] w (OI w (val L+val M)<|L.length+1):=by
 obtain⟨l,hl⟩:∃ l,l=L.length:=⟨_,rfl⟩
 obtain⟨m,hm⟩:∃ m,m=M.length:=⟨_,rfl⟩
 rw[<-hl,<-hm]at hc;rw[<-hl]at h1;rw[<-hm]at _h2;have HL:=auj hl;have HM:=auj hm;rw[<-hl,<-hm];clear hl hm;have d0:decide ((l:Int)<m)=false:=bn aC;have d1:decide (l<m)=false:=bn aC;have xS:=JO (l+1) aC;rw[show((l+1:Nat):Int)=l+1 by omega]at xS;have Ar:=auj<|Rw.Dj w<|l+1;go_enter func336,ntmps336;go_wp2;go_loopw [6,7,8,9,23] (λcy _ _ _ i wr=>∃ (k q:Nat) (O:List Nat),k<=l/\i = .int .i64 k/\cy = .int .u32 q/\q<=1/\O.length=l+1/\iW O/\wG O k/\val O+4294967296^k*q=val (L.take k)+val (M.take k)/\Rw wr w.heap.size O/\ja w wr) (λ_ _ _ _ i _=>l-(intOf i).toNat)
 case atStart=>
  exact⟨0,0,List.replicate (l+1) 0,ck _,rfl,rfl,aE,aH,iW.Ha _,wG.TK _,by simp[FB],Ar.out,ja.alloc _ _⟩
 case round=>
  obtain⟨k,q,O,hk,rfl,rfl,hq,hO,lP,hz,mY,hR,hb⟩:=hrel;have HV:=auj mY;have HO:=auj hO;clear mY hO;have HZ:=auj hz;clear hz;by_cases iN:k<l
  .have vP:k<L.length:=by have:=HL.out;omega
   obtain⟨ab,ao,e1,_,c1⟩:=(hs.below hb).mT vP;have oh:L[k]<4294967296:=hs.ok.get vP;have ho:=HZ.out.at<|by have:=HO.out;omega
   have c4:=hR.frozen k;have Mp:=hR.cell ho;have HT:=auj<|FD L k vP;have HY:=auj<|DM M k;have sI:M.getD k 0<4294967296:=hr.ok.getD k;have HYc:=auj λ(h:k<M.length)=>(hr.below hb).mT h;have HYg:=auj λ(h:k<M.length)=>Qk h;have HYn:=auj λ(h:¬k<M.length)=>Qj h;have HX:=auj (rfl:L[k]=L[k]);obtain⟨a,ha⟩:∃ a,a=L[k]:=⟨_,rfl⟩
   rw[<-ha]at c1 oh HT;clear ha HX vP;have HS:=auj<|T7 ho HV.out HT.out HY.out;have HN:=auj λv=>HZ.out.set v;have HOK:=auj λv=>lP.acn k v;have HR2:=auj (λv:Nat=>hR.set k v);have HE2:=auj (λv:Value=>hb.setCell (p:=⟨w.heap.size,k,none⟩) (bw _) v);clear ho hR hb lP;subst e1;by_cases Yt:k<m
   .have yZ:k<M.length:=by have:=HM.out;omega
    obtain⟨bb,bo,e2,_,c2⟩:=HYc.out yZ;subst e2;rw[<-HYg.out yZ]at c2;generalize M.getD k 0=b at *
    clear HYc HYg HYn yZ;have HA:=auj λw=>Ib a b q w oh sI hq;go_wp2_with fail;refine(HA.out _).mono ?_;rintro e w1 ⟨rfl,rfl⟩;go_wp2;go_roundw
    case rel=>
     exact⟨k+1,(a+b+q)/4294967296,O.set k<|(a+b+q)%4294967296,aC,by go_num,rfl,aC,by rw[cY];exact HO.out,HOK.out _,HN.out _,HS.out,HR2.out _,HE2.out _⟩
    case measure=>simp[intOf];omega
   .rw [HYn.out<|by have:=HM.out;omega]at HS;clear HYc HYg HYn sI HY;have HA:=auj λw=>Ib a 0 q w oh aE hq;go_wp2_with fail;refine(HA.out _).mono ?_;rintro e w1 ⟨rfl,rfl⟩;go_wp2;go_roundw
    case rel=>
     exact⟨k+1,(a+0+q)/4294967296,O.set k<|(a+0+q)%4294967296,aC,by go_num,rfl,aC,by rw[cY];exact HO.out,HOK.out _,HN.out _,HS.out,HR2.out _,HE2.out _⟩
    case measure=>simp[intOf];omega
  .obtain rfl:k=l:= aC ;have ho:=HZ.out.at (by have:=HO.out;omega)
   have c4:=hR.frozen k;have Mp:=hR.cell ho;have HF:=auj (show val (O.set k q)=val L+val M by
    have h:=U4 (c:=q) ho;rw[cw,cF aC,dB aC,dj,cj,HV.out,show L.take k=L from dx<|by rw[HL.out];exact bw _,show M.take k=M from dx<|by rw[<-HM.out];omega]at h;omega)
   have HLn:=auj (show(O.set k q).length=k+1 by rw[cY];exact HO.out);have HOK:Hid<|iW<|O.set k q:=lP.set k aC;have HR2:=auj<|hR.set k q;have HE2:=auj (λv:Value=>hb.setCell (p:=⟨w.heap.size,k,none⟩) (bw _) v);clear ho hR hb lP;go_wp2;go_ret;have xZ:=HR2.out.sl HOK.out (by rw[HLn.out];omega);rw[HLn.out]at xZ;exact⟨_,HF.out,HOK.out,HLn.out,_,_,(by rw[HLn.out];rfl),xZ,HE2.out _⟩
section
variable(h2:M.length<=3000)
def ann(hc:L.length<M.length):
 Calls prog 336 #[.slice A L.length c,.slice B M.length d] w (OI w (val L+val M)<|M.length+1):=by
 obtain⟨l,hl⟩:∃ l,l=L.length:=⟨_,rfl⟩
 obtain⟨m,hm⟩:∃ m,m=M.length:=⟨_,rfl⟩
 rw[<-hl,<-hm]at hc;rw[<-hl]at h1;rw[<-hm]at h2;have HL:=auj hl;have HM:=auj hm;rw[<-hl,<-hm];clear hl hm;have d0:decide ((l:Int)<m)=true:=bu aC;have d1:decide (l<m)=true:=bu aC;have xS:=JO (m+1) aC;rw[show((m+1:Nat):Int)=m+1 by omega]at xS;have Ar:=auj<|Rw.Dj w<|m+1;go_enter func336,ntmps336;go_wp2;go_loopw [6,7,8,9,23] (λcy _ _ _ i wr=>∃ (k q:Nat) (O:List Nat),k<=m/\i = .int .i64 k/\cy = .int .u32 q/\q<=1/\O.length=m+1/\iW O/\wG O k/\val O+4294967296^k*q=val (M.take k)+val (L.take k)/\Rw wr w.heap.size O/\ja w wr) (λ_ _ _ _ i _=>m-(intOf i).toNat)
 case atStart=>
  exact⟨0,0,List.replicate (m+1) 0,ck _,rfl,rfl,aE,aH,iW.Ha _,wG.TK _,by simp[FB],Ar.out,ja.alloc _ _⟩
 case round=>
  obtain⟨k,q,O,hk,rfl,rfl,hq,hO,lP,hz,mY,hR,hb⟩:=hrel;have HV:=auj mY;have HO:=auj hO;clear mY hO;have HZ:=auj hz;clear hz;by_cases iN:k<m
  .have vP:k<M.length:=by have:=HM.out;omega
   obtain⟨ab,ao,e1,_,c1⟩:=(hr.below hb).mT vP;have oh:M[k]<4294967296:=hr.ok.get vP;have ho:=HZ.out.at<|by have:=HO.out;omega
   have c4:=hR.frozen k;have Mp:=hR.cell ho;have HT:=auj<|FD M k vP;have HY:=auj<|DM L k;have sI:L.getD k 0<4294967296:=hs.ok.getD k;have HYc:=auj λ(h:k<L.length)=>(hs.below hb).mT h;have HYg:=auj λ(h:k<L.length)=>Qk h;have HYn:=auj λ(h:¬k<L.length)=>Qj h;have HX:=auj (rfl:M[k]=M[k]);obtain⟨a,ha⟩:∃ a,a=M[k]:=⟨_,rfl⟩
   rw[<-ha]at c1 oh HT;clear ha HX vP;have HS:=auj<|T7 ho HV.out HT.out HY.out;have HN:=auj λv=>HZ.out.set v;have HOK:=auj λv=>lP.acn k v;have HR2:=auj (λv:Nat=>hR.set k v);have HE2:=auj (λv:Value=>hb.setCell (p:=⟨w.heap.size,k,none⟩) (bw _) v);clear ho hR hb lP;subst e1;by_cases Yt:k<l
   .have yZ:k<L.length:=by have:=HL.out;omega
    obtain⟨bb,bo,e2,_,c2⟩:=HYc.out yZ;subst e2;rw[<-HYg.out yZ]at c2;generalize L.getD k 0=b at *
    clear HYc HYg HYn yZ;have HA:=auj λw=>Ib a b q w oh sI hq;go_wp2_with fail;refine(HA.out _).mono ?_;rintro e w1 ⟨rfl,rfl⟩;go_wp2;go_roundw
    case rel=>
     exact⟨k+1,(a+b+q)/4294967296,O.set k<|(a+b+q)%4294967296,aC,by go_num,rfl,aC,by rw[cY];exact HO.out,HOK.out _,HN.out _,HS.out,HR2.out _,HE2.out _⟩
    case measure=>simp[intOf];omega
   .rw [HYn.out<|by have:=HL.out;omega]at HS;clear HYc HYg HYn sI HY;have HA:=auj λw=>Ib a 0 q w oh aE hq;go_wp2_with fail;refine(HA.out _).mono ?_;rintro e w1 ⟨rfl,rfl⟩;go_wp2;go_roundw
    case rel=>
     exact⟨k+1,(a+0+q)/4294967296,O.set k<|(a+0+q)%4294967296,aC,by go_num,rfl,aC,by rw[cY];exact HO.out,HOK.out _,HN.out _,HS.out,HR2.out _,HE2.out _⟩
    case measure=>simp[intOf];omega
  .obtain rfl:k=m:= aC ;have ho:=HZ.out.at (by have:=HO.out;omega)
   have c4:=hR.frozen k;have Mp:=hR.cell ho;have HF:=auj (show val (O.set k q)=val L+val M by
    have h:=U4 (c:=q) ho;rw[cw,cF aC,dB aC,dj,cj,HV.out,show M.take k=M from dx<|by rw[HM.out];exact bw _,show L.take k=L from dx<|by rw[<-HL.out];omega]at h;omega)
   have HLn:=auj (show(O.set k q).length=k+1 by rw[cY];exact HO.out);have HOK:Hid<|iW<|O.set k q:=lP.set k aC;have HR2:=auj<|hR.set k q;have HE2:=auj (λv:Value=>hb.setCell (p:=⟨w.heap.size,k,none⟩) (bw _) v);clear ho hR hb lP;go_wp2;go_ret;have xZ:=HR2.out.sl HOK.out (by rw[HLn.out];omega);rw[HLn.out]at xZ;exact⟨_,HF.out,HOK.out,HLn.out,_,_,(by rw[HLn.out];rfl),xZ,HE2.out _⟩
def aaE:
 Calls prog 336 #[.slice A L.length c,.slice B M.length d] w (OI w (val L+val M)<|max L.length M.length+1):=by
 by_cases hc:M.length<=L.length
 .rw [Nat.max_eq_left hc];exact anm A B c d L M w hs hr h1 h2 hc
 .rw [Nat.max_eq_right aC];exact ann A B c d L M w hs hr h1 h2 aC 
def anl:
 Calls prog 336 #[.slice A L.length c,.slice B M.length d] w (TV w (val L+val M)<|max L.length M.length+1):=
 (aaE A B c d L M w hs hr h1 h2).mono λ_ _ ⟨T,a,b,c,d⟩=>⟨T,a,b,fL c,d⟩
end
end
def ano(vS:Sl w A c L)(sV:Sl w B d M)(h1:L.length<=3000)(_h2:M.length<=3000)(hle:val M<=val L):
 Calls prog 337 #[.slice A L.length c,.slice B M.length d] w (TV w (val L-val M) L.length):=by
 have Qx:=auj λw (h:Sl w A c L)=>xq A c L w h;have Qy:=auj λw (h:Sl w B d M)=>xq B d M w h;have hs:=vS.wu;have hr:=sV.wu;have Aw:=rk L;have Yj:=rk M;have y3:=qN L;have nj:=qN M;have Gi:(iT M).length<=(iT L).length:=by
  apply ca;intro h;have:=Oh hs.ok (Cp M) aC;omega
 unfold nf at y3 nj;rw[<-Aw,<-Yj]at hle ⊢;clear Aw Yj;obtain⟨n1,vR⟩:∃ n,n=L.length:=⟨_,rfl⟩
 obtain⟨n2,mw⟩:∃ n,n=M.length:=⟨_,rfl⟩
 rw[<-vR]at h1 y3 Qx ⊢;rw[<-mw]at _h2 nj Qy ⊢;have HTL:=auj<|Qx.out w vS;have HTM:=auj<|Qy.out w sV;clear Qx Qy vS sV vR mw;generalize iT L=L at *
 generalize iT M=M at *
 obtain⟨l,hl⟩:∃ l,l=L.length:=⟨_,rfl⟩
 obtain⟨m,hm⟩:∃ m,m=M.length:=⟨_,rfl⟩
 rw[<-hl]at y3 HTL Gi;rw[<-hm]at nj HTM Gi;have HL:=auj hl;have HM:=auj hm;have HLE:=auj hle;clear hl hm hle;have xS:=JO l aC;have Ar:=auj<|Rw.Dj w l;go_enter func337,ntmps337;go_wp2_with fail;refine HTL.out.mono ?_;rintro e w1 ⟨rfl,rfl⟩;go_wp2_with fail;refine HTM.out.mono ?_;rintro e w1 ⟨rfl,rfl⟩;go_wp2;go_loopw [6,7,8,9,19] (λcy _ _ _ i wr=>∃ (k q:Nat) (O:List Nat),k<=l/\i = .int .i64 k/\cy = .int .u32 q/\q<=1/\O.length=l/\iW O/\wG O k/\val O+val (M.take k)=val (L.take k)+4294967296^k*q/\Rw wr w.heap.size O/\ja w wr) (λ_ _ _ _ i _=>l-(intOf i).toNat)
 case atStart=>
  exact⟨0,0,List.replicate l 0,ck _,rfl,rfl,aE,aH,iW.Ha _,wG.TK _,by simp[FB],Ar.out,ja.alloc _ _⟩
 case round=>
  obtain⟨k,q,O,hk,rfl,rfl,hq,hO,lP,hz,mY,hR,hb⟩:=hrel;have HV:=auj mY;have HO:=auj hO;clear mY hO;have HZ:=auj hz;clear hz;by_cases iN:k<l
  .have vP:k<L.length:=by have:=HL.out;omega
   obtain⟨ab,ao,e1,_,c1⟩:=(hs.below hb).mT vP;have oh:L[k]<4294967296:=hs.ok.get vP;have ho:=HZ.out.at<|by have:=HO.out;omega
   have c4:=hR.frozen k;have Mp:=hR.cell ho;have HT:=auj<|FD L k vP;have HY:=auj<|DM M k;have sI:M.getD k 0<4294967296:=hr.ok.getD k;have HYc:=auj λ(h:k<M.length)=>(hr.below hb).mT h;have HYg:=auj λ(h:k<M.length)=>Qk h;have HYn:=auj λ(h:¬k<M.length)=>Qj h;obtain⟨a,ha⟩:∃ a,a=L[k]:=⟨_,rfl⟩
   rw[<-ha]at c1 oh HT;clear ha vP;have HN:=auj λv=>HZ.out.set v;have HOK:=auj λ(v:Nat) (h:v<4294967296)=>lP.set k h;have HR2:=auj (λv:Nat=>hR.set k v);have HE2:=auj (λv:Value=>hb.setCell (p:=⟨w.heap.size,k,none⟩) (bw _) v);have HO0:=auj ho;clear ho hR hb lP;subst e1;by_cases Yt:k<m
   .have yZ:k<M.length:=by have:=HM.out;omega
    obtain⟨bb,bo,e2,_,c2⟩:=HYc.out yZ;subst e2;rw[<-HYg.out yZ]at c2;generalize M.getD k 0=b at *
    clear HYc HYg HYn yZ;have HS:=auj<|acL HO0.out HV.out HT.out HY.out (IB a b q oh sI hq).1;have HD:=auj (IB a b q oh sI hq).2;have HA:=auj λw=>acK a b q w oh sI hq;generalize Aj a b q=dd at *
    generalize DW a b q=bb' at *
    go_wp2_with fail;refine(HA.out _).mono ?_;rintro e w1 ⟨rfl,rfl⟩;go_wp2;go_roundw
    case rel=>
     exact⟨k+1,bb',O.set k dd,aC,by go_num,rfl,HD.out.1,by rw[cY];exact HO.out,HOK.out _ HD.out.2,HN.out _,HS.out,HR2.out _,HE2.out _⟩
    case measure=>simp[intOf];omega
   .rw [HYn.out<|by have:=HM.out;omega]at HY;clear HYc HYg HYn sI;have HS:=auj<|acL HO0.out HV.out HT.out HY.out (IB a 0 q oh aE hq).1;have HD:=auj (IB a 0 q oh aE hq).2;have HA:=auj λw=>acK a 0 q w oh aE hq;generalize Aj a 0 q=dd at *
    generalize DW a 0 q=bb' at *
    go_wp2_with fail;refine(HA.out _).mono ?_;rintro e w1 ⟨rfl,rfl⟩;go_wp2;go_roundw
    case rel=>
     exact⟨k+1,bb',O.set k dd,aC,by go_num,rfl,HD.out.1,by rw[cY];exact HO.out,HOK.out _ HD.out.2,HN.out _,HS.out,HR2.out _,HE2.out _⟩
    case measure=>simp[intOf];omega
  .obtain rfl:k=l:= aC ;have HF:=auj (show val O=val L-val M by
    have h:=HV.out;rw[show L.take k=L from dx<|by rw[HL.out];exact bw _,show M.take k=M from dx<|by rw[<-HM.out];exact Gi]at h;exact(arb lP HO.out h HLE.out).2)
   go_wp2;go_ret;have xZ:=hR.sl lP (by rw[HO.out];omega);exact⟨_,HF.out,lP,by rw[HO.out];exact y3,_,_,(by rw[HO.out];rfl),xZ,hb⟩
end
def adf{T:List Nat}{v:Nat}(h:iW T)(hv:val T=v):iT T=im v:=by rw[ug h,hv]
section
variable(A B:Option Addr)(c d:Nat)(L M:List Nat)(w:World)(hs:Sl w A c L)(hr:Sl w B d M)(h1:L.length<=256)(h2:M.length<=256)
def am4(hf:(im<|val L+val M).length<=256):
 Calls prog 285 #[.slice A L.length c,.slice B M.length d] w (FG w (im<|val L+val M) 0):=by
 have H1:=auj λw (h:Sl w A c L) (k:Sl w B d M)=>anl A B c d L M w h k aC aC;generalize val L+val M=v at *
 go_enter func285,ntmps285;go_wp2_with fail;refine(ZN _ A B _ c _ d _ false (TX _ _ _ _ _ _ _) (TY _ _ _ _ _ _ _) aN).mono ?_;rintro e w' ⟨rfl,rfl⟩;go_wp2_with fail;refine(H1.out _ (hs.alloc _)<|hr.alloc _).mono ?_;rintro e w' ⟨T,hv,hk,hl,A',c',rfl,rA,hb⟩;have ht:=auj<|adf hk hv;go_wp2_with fail;refine(JY A' c' T _ rA<|by rw[ht.out];exact hf).mono ?_;rintro e w'' ⟨A'',c'',rfl,w7,oe⟩;rw[ht.out]at w7 ⊢;go_wp2;go_ret2;exact⟨A'',c'',rfl,w7,(ja.alloc _ _).trans<|hb.trans oe⟩
def ank(hle:val M<=val L):
 Calls prog 286 #[.slice A L.length c,.slice B M.length d] w (FG w (im<|val L-val M) 0):=by
 have H1:=auj λw (h:Sl w A c L) (k:Sl w B d M)=>ano A B c d L M w h k aC aC hle;have HC:=auj λw (h:Sl w A c L) (k:Sl w B d M)=>M5 A B c d L M w h k aC aC;have hc:decide (lf (val L) (val M)<0)=false:=by
  apply bn;unfold lf;rw[bj aC];split<;>decide
 have hf:(im<|val L-val M).length<=256:=bA (nG<|fm _ _)<|al8 hs.ok h1;generalize val L-val M=v at *
 generalize lf (val L) (val M)=q at *
 clear hle;go_enter func286,ntmps286;go_wp2_with fail;refine(ZN _ A B _ c _ d _ false (TX _ _ _ _ _ _ _) (TY _ _ _ _ _ _ _) aN).mono ?_;rintro e w' ⟨rfl,rfl⟩;go_wp2_with fail;refine(HC.out _ (hs.alloc _)<|hr.alloc _).mono ?_;rintro e w1 ⟨rfl,kI⟩;go_wp2_with fail;refine(H1.out _ ((hs.alloc _).below kI)<|(hr.alloc _).below kI).mono ?_;rintro e w' ⟨T,hv,hk,hl,A',c',rfl,rA,hb⟩;have ht:=auj<|adf hk hv;go_wp2_with fail;refine(JY A' c' T _ rA<|by rw[ht.out];exact hf).mono ?_;rintro e w'' ⟨A'',c'',rfl,w7,oe⟩;rw[ht.out]at w7 ⊢;go_wp2;go_ret2;exact⟨A'',c'',rfl,w7,(ja.alloc _ _).trans<|kI.trans<|hb.trans oe⟩
end
end Go.Proofs.YtjkmahljfblobaaGreatDoor
namespace Go.Proofs.YtjkmahljfblobaaGreatDoor.Fp
def nZ(d:Dy):Dy:=if oi d then d else iY
def rp(d:Dy):Int:=if oi d then 0 else 9
section
variable{d:Dy}
def Ir(h:oi d):nZ d=d:=bk h
def Lu(h:oi d):rp d=0:=bk h
def Po(h:¬oi d):nZ d=iY:=bj h
def Vd(h:¬oi d):rp d=9:=bj h
def Lv(h:d.nT):(nZ d).ix:=by
 by_cases hr:oi d
 .rw [Ir hr];exact⟨h,hr⟩
 .rw [Po hr];exact ph
end
def Tf{a b:Dy}(ha:a.m≠0)(hb:b.m≠0):jc a b=jc b a:=by
 unfold jc;rw[bj ha,bj hb,bj hb,bj ha,Int.min_comm,Int.add_comm]
section
variable{a b:Dy}(ha:a.ix)(hb:b.ix)(a0:a.m≠0)(b0:b.m≠0){k:Int}(hk:min a.e b.e=k)
def acP(h1:4097<a.iJ-k)(h2:1<a.iJ-b.iJ):¬oi (jc a b):=by
 have hka:k<=a.e:= aC ;have lZ:k<=b.e:= aC ;have m1:=Lh a0 hka;have m2:=Lh b0 lZ;have ta:a.iJ=iD a.m+a.e:=by unfold Dy.iJ;rw[bj a0]
 have tb:b.iJ=iD b.m+b.e:=by unfold Dy.iJ;rw[bj b0]
 have ba:iD a.m<=4096:=by rcases ha.range with h|⟨h,_⟩;exact absurd h a0;exact h
 have jV:a.e≠k:= aC ;have Ml:b.e=k:= aC ;have oa:a.j8 k%2=0:=by
  unfold Dy.j8;obtain⟨j,hj⟩:∃ j,(a.e-k).toNat=j+1:=⟨(a.e-k).toNat-1,aC⟩
  rw[hj,bM,<-bI,gv]
 have ob:b.j8 k%2=1:=by
  unfold Dy.j8;rw[Ml,show(k-k).toNat=0 by omega,cR,cE];rcases hb.canon with⟨h,_,_⟩|h
  .exact absurd h b0
  .exact h
 have pa:=AP a0 k;obtain⟨p,hp⟩:∃ p,iD (a.j8 k)=p+2:=⟨iD (a.j8 k)-2,aC⟩
 have l1:=vF (aC:a.j8 k≠0);have l2:=tp<|b.j8 k;rw[hp,(aC:p+2-1=p+1),bM]at l1;have l3:2^iD (b.j8 k)<=2^p:=bY aE aC;have hz:(a.num k+b.num k).natAbs%2=1/\2^p<=(a.num k+b.num k).natAbs:=by
  unfold Dy.num;generalize a.j8 k=x at *
  generalize b.j8 k=y at *
  generalize 2^p=P at *
  split<;>split<;>omega
 unfold jc;rw[bj a0,bj b0,hk];unfold qQ;generalize (a.num k+b.num k).natAbs=z at *
 generalize decide (a.num k+b.num k<0)=s at *
 have hc:canon s z k=⟨s,z,k⟩:=Dy.nT.DX (d:=⟨s,z,k⟩)<|.inr hz.1;rw[hc];have hb:=yl.2 hz.2;rintro(h|⟨h,_⟩)
 .simp only at h;omega
 .simp only at h;omega
def arh(h1:4097<max a.iJ b.iJ-k)(h2:1<a.iJ-b.iJ\/1<b.iJ-a.iJ):¬oi (jc a b):=by
 rcases h2 with h2|h2
 .exact acP ha hb a0 b0 hk aC h2
 .rw [Tf a0 b0];exact acP (k:=k) hb ha b0 a0 (by rw[Int.min_comm];exact hk) aC h2
def ari(h:¬(4097<max a.iJ b.iJ-k/\(1<a.iJ-b.iJ\/1<b.iJ-a.iJ))):
 iD (a.m*2^(a.e-k).toNat)<=4097/\iD (b.m*2^(b.e-k).toNat)<=4097:=by
 have ta:a.iJ=iD a.m+a.e:=by unfold Dy.iJ;rw[bj a0]
 have tb:b.iJ=iD b.m+b.e:=by unfold Dy.iJ;rw[bj b0]
 have ba:iD a.m<=4096:=by rcases ha.range with h|⟨h,_⟩;exact absurd h a0;exact h
 have bb:iD b.m<=4096:=by rcases hb.range with h|⟨h,_⟩;exact absurd h b0;exact h
 rw[s9 a0,s9 b0];omega
end
def afc{x y n:Nat}(hx:iD x<=n)(hy:iD y<=n):iD (x+y)<=n+1:=by
 rw[mU]at *
 rw[bM];omega
def ke(m:Nat)(e:Int)(p:Nat):Nat:=(max (max ((iD m:Int)-p) (-16384-e)) 0).toNat
section
variable(m:Nat)(e:Int)(more:Bool)(p:Nat)(out:Bool)
def lQ:Nat:=
 m/2^ke m e p+if out=true/\(more=true\/m%2^ke m e p≠0)then 1 else 0
def mV:Bool:=
 decide (lQ m e more p out≠0)&&decide (16384<(iD<|lQ m e more p out:Int)+e+ke m e p)
end
section
variable(neg:Bool)(m:Nat)(e:Int)(more:Bool)(p:Nat)(up:Bool)
def kD:Dy:=
 if mV m e more p (neg != up)=true then(if(neg != up)=true then iY else canon neg (2^p-1) (16384-p))else canon neg (lQ m e more p<|neg != up) (e+ke m e p)
def kn:Int:=
 if(mV m e more p (neg != up)&&(neg != up))=true then 9 else 0
end
def ag3{N d k:Nat}:(N/2^d%2^k≠0\/N%2^d≠0)↔N%2^(d+k)≠0:=by
 have e1:N%2^(d+k)=N%2^d+2^d*(N/2^d%2^k):=by rw[bE,Nat.mod_mul]
 have hp:0<2^d:=bF aE;rw[e1];constructor
 .rintro (h|h)
  .have:=gq hp<|eF h;omega
  .omega
 .intro h;by_cases h1:N%2^d=0
  .left;intro h2;rw[h1,h2,dj]at h;exact h rfl
  .exact .inr h1
section
variable{N:Nat}{E:Int}{more:Bool}{d p:Nat}
def agD(hb:p<iD (N/2^d)):
 ke (N/2^d) (E+d) p+d=ke N E p /\
 ∀ out,lQ (N/2^d) (E+d) (more||decide (N%2^d≠0)) p out=lQ N E more p out:=by
 have hN:d<iD N:=by
  apply ca;intro h;have h1:N<2^d:=mU.1 aC;rw[dB h1]at hb;simp[iD]at hb
 have QJ:iD (N/2^d)+d=iD N:=by
  have h0:N/2^d≠0:=by intro h;rw[h]at hb;simp[iD]at hb
  have h1:=vF h0;have h2:=tp<|N/2^d;obtain⟨j,hj⟩:∃ j,iD (N/2^d)=j+1:=⟨iD (N/2^d)-1,aC⟩
  rw[hj]at h1 h2 ⊢;rw[fe,dF<|bF aE,<-bE]at h1;rw[cT<|bF aE,<-bE]at h2;have:=Bm (k:=j+d) h1 (by rw[(aC:j+d+1=j+1+d)];exact h2);omega
 have hk:ke (N/2^d) (E+d) p+d=ke N E p:=by
  unfold ke;omega
 refine⟨hk,λout=>?_⟩;unfold lQ;rw[<-hk];generalize ke (N/2^d) (E+d) p=k;have QL:=@ag3 N d k;rw[(aC:k+d=d+k),dN,<-bE];congr 1;have:((more||decide (N%2^d≠0))=true\/N/2^d%2^k≠0)↔(more=true\/N%2^(d+k)≠0):=by
  rw[<-QL];simp only[ep,c9];constructor
  .rintro ((h|h)|h)
   .exact .inl h
   .exact .inr<|.inr h
   .exact .inr<|.inl h
  .rintro (h|h|h)
   .exact .inl<|.inl h
   .exact .inr h
   .exact .inl<|.inr h
 by_cases ho:out=true
 .simp only[ho,fJ,this]
 .rw [bj λh=>ho h.1,bj λh=>ho h.1]
def LA(neg up:Bool)(hb:p<iD (N/2^d)):
 kD neg (N/2^d) (E+d) (more||decide (N%2^d≠0)) p up=kD neg N E more p up /\
 kn neg (N/2^d) (E+d) (more||decide (N%2^d≠0)) p up=kn neg N E more p up:=by
 obtain⟨hk,hq⟩:=agD (more:=more) (E:=E) hb;have hq:=hq<|neg != up;have e1:E+(d:Int)+(ke (N/2^d) (E+d) p:Int)=E+(ke N E p:Int):= aC ;have e2:(iD<|lQ N E more p<|neg != up:Int)+(E+(d:Int))+(ke (N/2^d) (E+d) p:Int)=(iD<|lQ N E more p<|neg != up:Int)+E+(ke N E p:Int):= aC ;have ho:mV (N/2^d) (E+d) (more||decide (N%2^d≠0)) p (neg != up)=mV N E more p (neg != up):=by
  unfold mV;rw[hq,e2]
 unfold kD kn;rw[hq,ho,e1];exact⟨rfl,rfl⟩
end
def Pk(s:Bool)(m:Nat)(e:Int)(j:Nat):canon s (m*2^j) (e-j)=canon s m e:=by
 by_cases h0:m=0
 .subst h0;rw[cU];rfl
 .have h1:m*2^j≠0:=ej h0<|eP<|bF aE;obtain⟨q,hq,he⟩:=DZ h0;have hc:jZ (m*2^j)=jZ m+j:=by
   conv=>lhs;rw[he,bI,<-bE]
   exact Bp hq _
  unfold canon;rw[bj h1,bj h0,hc,bE,bQ<|2^jZ m,<-dN,ez _<|bF aE];rw[(aC:e-(j:Int)+((jZ m+j:Nat):Int)=e+(jZ m:Int))]
def agC(neg up:Bool)(N:Nat)(E:Int)(j p:Nat)(h0:N≠0):
 kD neg (N*2^j) (E-j) false p up=kD neg N E false p up/\kn neg (N*2^j) (E-j) false p up=kn neg N E false p up:=by
 have QJ:=s9 h0 j;by_cases hk:ke N E p=0
 .
  have Au:ke (N*2^j) (E-j) p<=j:=by unfold ke at hk ⊢;rw[QJ];omega
  obtain⟨i,hi⟩:∃ i,j=i+ke (N*2^j) (E-j) p:=⟨j-ke (N*2^j) (E-j) p,aC⟩
  generalize hK:ke (N*2^j) (E-j) p=k at *
  have hdiv:N*2^j/2^k=N*2^i:=by
   rw[hi,bE,<-bI,ez _<|bF aE]
  have Q3:N*2^j%2^k=0:=by
   rw[hi,bE,<-bI];exact gv _ _
  have hq:∀ out,lQ (N*2^j) (E-j) false p out=N*2^i:=λout=>by
   unfold lQ;rw[hK,hdiv,Q3];simp
  have BL:∀ out,lQ N E false p out=N:=λout=>by
   unfold lQ;rw[hk];simp[eA]
  have jV:N*2^i≠0:=ej h0<|eP<|bF aE;have ho:∀ out,mV (N*2^j) (E-j) false p out=mV N E false p out:=λout=>by
   unfold mV;rw[hq,BL,hK,hk,s9 h0 i];simp only[df,jV,h0,eW,gO,fk];rw[atO];omega
  unfold kD kn;rw[ho,hq,BL,hK,hk];rw[(aC:E-(j:Int)+k=E+((0:Nat):Int)-(i:Int)),Pk];exact⟨rfl,rfl⟩
 .have Au:ke (N*2^j) (E-j) p=ke N E p+j:=by unfold ke at hk ⊢;rw[QJ];omega
  have hq:∀ out,lQ (N*2^j) (E-j) false p out=lQ N E false p out:=λout=>by
   unfold lQ;rw[Au,bE,bQ<|2^ke N E p,<-dN,ez _<|bF aE,bQ N,Nat.mul_mod_mul_left];have:(2^j*(N%2^ke N E p)≠0)↔(N%2^ke N E p≠0):=by
    rw[df,df,Nat.mul_eq_zero];have:=bF (n:=j) (aE:0<2);omega
   simp only[this]
  have ho:∀ out,mV (N*2^j) (E-j) false p out=mV N E false p out:=λout=>by
   unfold mV;rw[hq,Au];congr 2;rw[eq_iff_iff];omega
  unfold kD kn;rw[ho,hq,Au];rw[(aC:E-(j:Int)+((ke N E p+j:Nat):Int)=E+(ke N E p:Int))];exact⟨rfl,rfl⟩
section
variable(d:Dy)(p:Nat)(up:Bool)
def jd:Dy:=kD d.neg d.m d.e false p up
def jI:Int:=kn d.neg d.m d.e false p up
end
def abO(s up:Bool)(m:Nat)(e:Int)(p:Nat)(h0:m≠0):
 jd (canon s m e) p up=kD s m e false p up/\jI (canon s m e) p up=kn s m e false p up:=by
 have hm:=IE h0;have hq:m/2^jZ m≠0:=by have:=J5 h0;omega
 have h:=agC s up (m/2^jZ m) (e+jZ m) (jZ m) p hq;rw[hm,(aC:e+(jZ m:Int)-(jZ m:Int)=e)]at h;unfold jd jI canon;rw[bj h0];exact⟨h.1.symm,h.2.symm⟩
def FP{s:Bool}{m:Nat}{e:Int}(h0:m≠0):(iD (canon s m e).m:Int)+(canon s m e).e=iD m+e/\e<=(canon s m e).e/\(canon s m e).m≠0/\iD (canon s m e).m<=iD m:=by
 have hm:=IE h0;have hq:m/2^jZ m≠0:=by have:=J5 h0;omega
 have h:=s9 hq<|jZ m;rw[hm]at h;unfold canon;rw[bj h0];simp only;exact⟨aC,aC,hq,aC⟩
def VQ(m:Nat)(e:Int)(p:Nat):m/2^ke m e p<2^p:=by
 rw[cT<|bF aE,<-bE];refine mU.1 ?_;unfold ke;omega
def af5{s:Bool}{q p:Nat}{e:Int}(h:q<=2^p)(hp:1<=p):iD (canon s q e).m<=p:=by
 by_cases h0:q=0
 .subst h0;exact ck _
 .by_cases h1:q=2^p
  .have hc:jZ q=p:=by rw[h1];have:=Bp (m:=1) rfl p;rwa[bX]at this
   unfold canon;rw[bj h0,hc,h1,Nat.div_self<|bF aE];exact bA (mU.2<|show 1<2^1 by decide) hp
  .exact bA (FP h0).2.2.2<|mU.2 aC
def Vv(m:Nat)(e:Int)(more:Bool)(p:Nat)(out:Bool):lQ m e more p out<=2^p:=by
 have:=VQ m e p;unfold lQ;split<;>omega
def uq(neg:Bool)(m:Nat)(e:Int)(more:Bool)(p:Nat)(up:Bool)(hp:1<=p:=by omega)(iu:p<=4096:=by omega):(kD neg m e more p up).ix:=by
 unfold kD;by_cases ho:mV m e more p (neg != up)=true
 .rw [bk ho];by_cases hn:(neg != up)=true
  .rw [bk hn];exact ph
  .rw [bj hn];have y8:2<=2^p:=by
    have:=bY (n:=2) aE hp;omega
   have h0:2^p-1≠0:= aC ;have hb:iD (2^p-1)=p:=by
    obtain⟨j,rfl⟩:∃ j,p=j+1:=⟨p-1,aC⟩
    have h2:2^(j+1)=2^j*2:=bM _ _;have h3:=bF (n:=j) (aE:0<2);exact Bm aC aC 
   obtain⟨h1,h2,h3,h4⟩:=FP (s:=neg) (e:=(16384:Int)-p) h0;have h5:=qa h3;exact⟨uV _ _ _,.inr ⟨aC,aC,aC,aC⟩⟩
 .rw [bj ho];refine⟨uV _ _ _,?_⟩;by_cases h0:lQ m e more p (neg != up)=0
  .rw [h0];exact .inl rfl
  .have hq:=af5 (s:=neg) (e:=e+(ke m e p:Int)) (Vv m e more p<|neg != up) hp;obtain⟨h1,h2,h3,h4⟩:=FP (s:=neg) (e:=e+(ke m e p:Int)) h0;have h5:=qa h3;have h6:-16384<=e+(ke m e p:Int):=by unfold ke;omega
   unfold mV at ho;simp only[df,h0,eW,gO,fk,c9]at ho;exact .inr ⟨aC,aC,aC,aC⟩
def Ix{neg:Bool}{m:Nat}{e:Int}{more:Bool}{p:Nat}{up:Bool}:kn neg m e more p up=0↔¬(mV m e more p (neg != up)=true/\(neg != up)=true):=by
 unfold kn;cases mV m e more p (neg != up)<;>cases(neg != up)<;>simp
def Vw(neg:Bool)(m:Nat)(e:Int)(more:Bool)(p:Nat)(h1:kn neg m e more p false=0)(h2:kn neg m e more p true=0):
 jN (kD neg m e more p false) (kD neg m e more p true)<=0:=by
 have qT:¬mV m e more p true=true:=by
  cases neg
  .rw [Ix]at h2;simpa using h2
  .rw [Ix]at h1;simpa using h1
 have hle:lQ m e more p false<=lQ m e more p true:=by
  unfold lQ;simp only[bJ,false_and,bB];omega
 have kP:¬mV m e more p false=true:=by
  unfold mV at qT ⊢;intro h;apply qT;simp only[bK,c9]at h ⊢;have:=wH hle;exact⟨aC,aC⟩
 have key:∀ o:Bool,¬mV m e more p o=true:=λo=>by cases o;exact kP;exact qT
 unfold kD;rw[bj<|key _,bj<|key _];rw[Is (k:=e+(ke m e p:Int)) (Cx<|cM _)<|Cx<|cM _,E8<|cM _,E8<|cM _];rw[show(e+(ke m e p:Int)-(e+(ke m e p:Int))).toNat=0 by omega];simp only[cR,cE];unfold Ah;cases neg
 .simp only[bJ,bB,Bool.false_bne];split
  .decide
  .split<;>omega
 .simp only[bH,Bool.true_bne,fg,fI];split
  .decide
  .split<;>omega
def np(b:Dy)(low:Int):Nat:=if low<=b.e then b.m*2^(b.e-low).toNat else b.m/2^(low-b.e).toNat
def oF(b:Dy)(low:Int):Bool:=decide (¬low<=b.e)&&decide (b.m%2^(low-b.e).toNat≠0)
section
variable{a b:Dy}(ha:a.nT)(hb:b.nT){K:Int}(h1:K<=a.e)(h2:K<=b.e)
def acM:jc a b=qQ (a.num K+b.num K) K:=by
 refine V9 (k:=K) (DY ha hb) (uV _ _ _) (KZ (.inr h1)<|.inr h2) (OO<|cM _) ?_;rw[N6 (.inr h1)<|.inr h2,Si<|cM _,show(K-K).toNat=0 by omega];simp
def NH(s:Bool)(Z:Nat)(h0:Z≠0)(hz:a.num K+b.num K=if s then -(Z:Int)else(Z:Int))(p:Nat)(up:Bool):
 jd (jc a b) p up=kD s Z K false p up/\jI (jc a b) p up=kn s Z K false p up:=by
 have:jc a b=canon s Z K:=by rw[acM ha hb h1 h2,hz,Lq]
 rw[this];exact abO s up Z K p h0
end
def M9(d:Dy)(K:Int):d.num K=if d.neg then -(d.j8 K:Int)else(d.j8 K:Int):=rfl
section
variable {a b:Dy} {low:Int} {p:Nat}
def S2(a0:a.m≠0)(b0:b.m≠0)(h1:low<=a.e)(h2:low<=a.iJ-p-8)(h3:low<=b.e\/3<=a.iJ-b.iJ):
 ∃ (K:Int) (d:Nat),K<=a.e/\K<=b.e/\low=K+d/\a.j8 K=a.m*2^(a.e-low).toNat*2^d/\np b low=b.j8 K/2^d/\(oF b low=decide (b.j8 K%2^d≠0)) /\
  (d=0\/(p+8<=iD (a.m*2^(a.e-low).toNat)/\iD (b.j8 K/2^d)+3<=iD (a.m*2^(a.e-low).toNat))):=by
 have ta:a.iJ=iD a.m+a.e:=by unfold Dy.iJ;rw[bj a0]
 have tb:b.iJ=iD b.m+b.e:=by unfold Dy.iJ;rw[bj b0]
 have hx:=s9 a0 (a.e-low).toNat
 by_cases h:low<=b.e
 .refine ⟨low,0,h1,h,aC,by unfold Dy.j8;simp,?_,?_,.inl rfl⟩
  .unfold np Dy.j8;rw[bk h];simp
  .unfold oF;simp[h,eA]
 .refine ⟨b.e,(low-b.e).toNat,aC,cM _,aC,?_,?_,?_,.inr ⟨aC,?_⟩⟩
  .unfold Dy.j8;rw[bI,<-bE];congr 2;omega
  .unfold np Dy.j8;rw[bj h];simp
  .unfold oF Dy.j8;simp[h]
  .have hm:b.j8 b.e=b.m:=by unfold Dy.j8;simp
   rw[hm];have hd:iD (b.m/2^(low-b.e).toNat)<=iD b.m-(low-b.e).toNat:=by
    rw[mU,cT<|bF aE,<-bE];exact mU.1 aC 
   have:=h3.resolve_left h;omega
def aqd(ha:a.nT)(hb:b.nT)(a0:a.m≠0)(b0:b.m≠0)(h1:low<=a.e)(h2:low<=a.iJ-p-8)(h3:low<=b.e\/3<=a.iJ-b.iJ)(hs:a.neg=b.neg)(up:Bool):
 kD a.neg (a.m*2^(a.e-low).toNat+np b low) low (oF b low) p up=jd (jc a b) p up/\kn a.neg (a.m*2^(a.e-low).toNat+np b low) low (oF b low) p up=jI (jc a b) p up:=by
 obtain⟨K,d,k1,k2,rfl,hx,hy,hl,hd⟩:=S2 (p:=p) a0 b0 h1 h2 h3;generalize a.m*2^(a.e-(K+d)).toNat=x at *
 have ma:=AP a0 K;have mb:=AP b0 K;obtain⟨r1,r2⟩:=NH ha hb k1 k2 a.neg (a.j8 K+b.j8 K) aC (by
  rw[M9 a,M9 b,<-hs];cases a.neg<;>simp<;>omega) p up
 rw[r1,r2,hy,hl];have e1:(a.j8 K+b.j8 K)/2^d=x+b.j8 K/2^d:=by
  rw[hx,bQ x,atB<|bF aE]
 have e2:(a.j8 K+b.j8 K)%2^d=b.j8 K%2^d:=by
  rw[hx,bQ x,gF]
 rcases hd with rfl|⟨C0,C1⟩
 .simp only[cR,fS,eA]at e1 ⊢;rw[<-e1];have:K+((0:Nat):Int)=K:= aC ;rw[this];simp
 .have hb:p<iD ((a.j8 K+b.j8 K)/2^d):=by
   rw[e1];have:=wH (aC:x<=x+b.j8 K/2^d);omega
  have h:=LA (E:=K) (more:=false) a.neg up hb;rw[e1,e2,fu]at h;exact h
def ara{x N D:Nat}(hD:0<D)(h:N<=x*D):(x*D-N)/D=x-(N/D+if N%D≠0 then 1 else 0)/\((x*D-N)%D≠0↔N%D≠0)/\N/D+(if N%D≠0 then 1 else 0)<=x:=by
 have hN:=cW N D;have hr:=bR N hD;generalize N/D=q at *
 generalize N%D=r at *
 by_cases h0:r=0
 .subst h0;simp only[df,atE,bB,cj]at hN ⊢;have hq:q<=x:=by
   apply ca;intro h';have:=bU D (aC:x+1<=q);rw[bT,bQ q]at this;omega
  have e:x*D-N=(x-q)*D:=by rw[Nat.sub_mul,<-hN,bQ q]
  rw[e,ez _ hD,gv];exact⟨rfl,aH,hq⟩
 .have hq:q+1<=x:=by
   apply ca;intro h';have:=bU D (aC:x<=q);rw[bQ q]at this;omega
  have e:x*D-N=(D-r)+D*(x-(q+1)):=by
   have h1:D*(x-(q+1))=D*x-D*(q+1):=Nat.mul_sub _ _ _;have h2:D*(q+1)<=D*x:=cV _ hq;rw[ch,cE]at h1 h2;rw[bQ x];omega
  have iN:D-r<D:= aC ;rw[e,fB _ _ hD,dB iN,eK,cF iN];simp only[df,h0,eW,bH];exact⟨aC,⟨λ_=>trivial,λ_=> aC⟩,hq⟩
def aqc(ha:a.nT)(hb:b.nT)(a0:a.m≠0)(b0:b.m≠0)(h1:low<=a.e)(h2:low<=a.iJ-p-8)(h3:low<=b.e\/3<=a.iJ-b.iJ)(hs:a.neg≠b.neg)(up:Bool):
  (a.m*2^(a.e-low).toNat<np b low+(if oF b low=true then 1 else 0) ->
   kD (!a.neg) (np b low+(if oF b low=true then 1 else 0)-a.m*2^(a.e-low).toNat) low false p up=jd (jc a b) p up/\kn (!a.neg) (np b low+(if oF b low=true then 1 else 0)-a.m*2^(a.e-low).toNat) low false p up=jI (jc a b) p up) /\
  (np b low+(if oF b low=true then 1 else 0)<=a.m*2^(a.e-low).toNat ->
   (a.m*2^(a.e-low).toNat-(np b low+(if oF b low=true then 1 else 0))=0/\oF b low=false->jc a b=iY) /\
   (¬(a.m*2^(a.e-low).toNat-(np b low+(if oF b low=true then 1 else 0))=0/\oF b low=false) ->
    kD a.neg (a.m*2^(a.e-low).toNat-(np b low+(if oF b low=true then 1 else 0))) low (oF b low) p up=jd (jc a b) p up/\kn a.neg (a.m*2^(a.e-low).toNat-(np b low+(if oF b low=true then 1 else 0))) low (oF b low) p up=jI (jc a b) p up)):=by
 obtain⟨K,d,k1,k2,rfl,hx,hy,hl,hd⟩:=S2 (p:=p) a0 b0 h1 h2 h3;generalize a.m*2^(a.e-(K+d)).toNat=x at *
 have ma:=AP a0 K;have mb:=AP b0 K;have C5:a.num K+b.num K=if a.neg then(b.j8 K:Int)-a.j8 K else(a.j8 K:Int)-b.j8 K:=by
  rw[M9 a,M9 b];cases h:a.neg<;>cases h':b.neg<;>simp[h,h']at hs ⊢ <;> omega
 rw[hy,hl];rcases hd with rfl|⟨C0,C1⟩
 .
  rw[cR,cE]at hx;have e0:K+((0:Nat):Int)=K:= aC ;simp only[cR,fS,eA,df,atE,decide_false,bJ,bB,cj,e0,fO];refine⟨λiN=>?_,λhle=>⟨λhz=>?_,λhz=>?_⟩⟩
  .obtain ⟨r1,r2⟩:=NH ha hb k1 k2 (!a.neg) (b.j8 K-x) aC (by
    rw[C5,hx];cases a.neg<;>simp<;>omega) p up
   exact⟨r1.symm,r2.symm⟩
  .rw [acM ha hb k1 k2,C5,hx];have:x=b.j8 K:= aC ;rw[this];cases a.neg<;>simp[qQ,canon,iY]
  .obtain ⟨r1,r2⟩:=NH ha hb k1 k2 a.neg (x-b.j8 K) aC (by
    rw[C5,hx];cases a.neg<;>simp<;>omega) p up
   exact⟨r1.symm,r2.symm⟩
 .
  have hD:=bF (n:=d) (aE:0<2);have qh:x≠0:=by intro h;rw[h]at C0;simp[iD]at C0
  obtain⟨j,hj⟩:∃ j,iD x=j+3:=⟨iD x-3,aC⟩
  have qE:=vF qh;rw[hj,(aC:j+3-1=j+2),bE]at qE;have Ys:b.j8 K/2^d<2^j:=mU.1 aC;have hle:b.j8 K<=x*2^d:=by
   have h5:=cW (b.j8 K)<|2^d;have h6:=bR (b.j8 K) hD;have h7:2^d*(b.j8 K/2^d+1)<=2^d*x:=cV _ aC;rw[ch,cE,bQ _ x]at h7;omega
  obtain⟨e1,e2,e3⟩:=ara hD hle;have hc:(if decide (b.j8 K%2^d≠0)=true then 1 else 0)=(if b.j8 K%2^d≠0 then 1 else 0):=by simp only[c9]
  rw[hc];have CY:p<iD (x-(b.j8 K/2^d+if b.j8 K%2^d≠0 then 1 else 0)):=by
   have h8:2^(j+1)<=x-(b.j8 K/2^d+if b.j8 K%2^d≠0 then 1 else 0):=by
    rw[bM];have h9:2^j*2^2<=x:=qE;have nU:=bF (n:=j) (aE:0<2);split<;>omega
   have:=yl.2 h8;omega
  refine⟨λiN=> aC,λ_=>⟨λhz=>?_,λ_=>?_⟩⟩
  .exfalso;rw[hz.1]at CY;simp[iD]at CY
  .obtain ⟨r1,r2⟩:=NH ha hb k1 k2 a.neg (a.j8 K-b.j8 K) (by
    intro h;rw[<-hx,h,Nat.zero_div]at e1;rw[<-e1]at CY;simp[iD]at CY) (by
    rw[C5];cases a.neg<;>simp<;>omega) p up
   rw[r1,r2,hx];rw[<-e1]at CY ⊢;have h:=LA (E:=K) (more:=false) a.neg up CY;rw[fu]at h;have e4:decide ((x*2^d-b.j8 K)%2^d≠0)=decide (b.j8 K%2^d≠0):=atO.2 e2;rw[e4]at h;exact h
end
def jz(m:Nat)(e:Int)(p:Nat):Int:=max (e+iD m-p) (-16384)
def oN(m:Nat)(e:Int)(more:Bool)(p:Nat)(up:Bool):Nat:=
 if jz m e p<=e then m*2^(e-jz m e p).toNat else m/2^(jz m e p-e).toNat+if(up&&(more||decide (m%2^(jz m e p-e).toNat≠0)))=true then 1 else 0
section
variable{m:Nat}{e:Int}{more:Bool}{p:Nat}
def Vu(up:Bool)(h0:m≠0)(hm:more=true->p<iD m)(hp:1<=p):
 (iD<|oN m e more p up:Int)+jz m e p<=16384/\kD false m e more p up=canon false (oN m e more p up) (jz m e p)/\kn false m e more p up=0 \/
 16384<(iD<|oN m e more p up:Int)+jz m e p/\((up=true/\kD false m e more p up=iY/\kn false m e more p up=9)\/(up=false/\kD false m e more p up=canon false (2^p-1) (16384-p)/\kn false m e more p up=0)):=by
 have qT:(false != up)=up:=by cases up<;>rfl
 by_cases hU:jz m e p<=e
 .
  have hmf:more=false:=by
   cases Q4:more with
   |false=>rfl
   |true=>have:=hm Q4;unfold jz at hU;omega
  subst hmf;have hK:ke m e p=0:=by unfold jz at hU;unfold ke;omega
  have hQ:lQ m e false p up=m:=by unfold lQ;rw[hK];simp[eA]
  have hP:oN m e false p up=m*2^(e-jz m e p).toNat:=by unfold oN;rw[bk hU]
  have hb:iD (oN m e false p up)=iD m+(e-jz m e p).toNat:=by rw[hP];exact s9 h0 _
  have hc:canon false (oN m e false p up) (jz m e p)=canon false m e:=by
   rw[hP];have:=Pk false m e (e-jz m e p).toNat
   rwa[(aC:e-((e-jz m e p).toNat:Int)=jz m e p)]at this
  have hO:mV m e false p up=decide (16384<(iD m:Int)+e):=by
   unfold mV;rw[hQ,hK];simp[h0]
  by_cases uC:16384<(iD m:Int)+e
  .refine .inr ⟨aC,?_⟩;unfold kD kn;rw[qT,hO,bu uC];cases up
   .exact .inr ⟨rfl,rfl,rfl⟩
   .exact .inl ⟨rfl,rfl,rfl⟩
  .refine .inl ⟨aC,?_,?_⟩
   .unfold kD;rw[qT,hO,bn uC,bj aE,hQ,hK,hc];simp
   .unfold kn;rw[qT,hO,bn uC];simp
 .have hK:ke m e p=(jz m e p-e).toNat:=by unfold jz at hU ⊢;unfold ke;omega
  have hQ:lQ m e more p up=oN m e more p up:=by
   unfold lQ oN;rw[bj hU,hK];congr 1;cases up<;>cases more<;>simp
  have heK:e+(ke m e p:Int)=jz m e p:=by rw[hK];omega
  have jV:16384<(iD<|oN m e more p up:Int)+jz m e p->oN m e more p up≠0:=by
   intro h hz;have rU:m/2^(jz m e p-e).toNat=0:=by
    unfold oN at hz;rw[bj hU]at hz;exact(Nat.add_eq_zero_iff.1 hz).1
   have iN:m<2^(jz m e p-e).toNat:=by
    rcases Nat.div_eq_zero_iff.1 rU with h|h
    .exact absurd h<|eP<|bF aE
    .exact h
   have:=mU.2 iN;rw[hz,uo]at h;have xW:=qa h0;unfold jz at h hU this;omega
  have hO:mV m e more p up=decide (16384<(iD<|oN m e more p up:Int)+jz m e p):=by
   unfold mV;rw[hQ,show(iD<|oN m e more p up:Int)+e+(ke m e p:Int)=(iD<|oN m e more p up:Int)+jz m e p by omega];by_cases uC:16384<(iD<|oN m e more p up:Int)+jz m e p
   .simp [jV uC]
   .simp [uC]
  by_cases uC:16384<(iD<|oN m e more p up:Int)+jz m e p
  .refine .inr ⟨uC,?_⟩;unfold kD kn;rw[qT,hO,bu uC];cases up
   .exact .inr ⟨rfl,rfl,rfl⟩
   .exact .inl ⟨rfl,rfl,rfl⟩
  .refine .inl ⟨aC,?_,?_⟩
   .unfold kD;rw[qT,hO,bn uC,bj aE,hQ,heK]
   .unfold kn;rw[qT,hO,bn uC];simp
def Vt{up:Bool}(h0:m≠0):iD (oN m e more p up)<=p+1:=by
 unfold oN;split
 .rename_i h;rw[s9 h0];unfold jz at h ⊢;omega
 .rename_i h;have h1:m/2^(jz m e p-e).toNat<2^p:=by
   rw[cT<|bF aE,<-bE];refine mU.1 ?_;unfold jz at h ⊢;omega
  refine mU.2 ?_;rw[bM];have:0<2^p:=bF aE;split<;>omega
end
def qH{m k:Nat}(h:iD m<=32*k:=by omega):(im m).length<=k:=by
 refine zp ?_;rw[vC];exact mU.1 h
def Ik{m k:Nat}(h:(im m).length<=k):iD m<=32*k:=by
 have:=MY h;rw[vC]at this;exact mU.2 this
def VS{m n:Nat}(h:iD m<=n):m/2^n=0/\m%2^n=m:=by
 have:=mU.1 h;exact⟨dB this,cF this⟩
def ZQ(m n:Nat):(lf (m/2^n*2^n) m != 0)=decide (m%2^n≠0):=by
 have h:=cW m<|2^n;rw[bQ]at h;unfold lf;by_cases h0:m%2^n=0
 .rw [bj aC,bj aC];simp[h0]
 .rw [bk aC];simp[h0]
end Go.Proofs.YtjkmahljfblobaaGreatDoor.Fp
