/- Lemmas that the last file uses. -/
import Derived.Test.YtkdddbdjilcofaaGreatDoorM02
import Derived.Scope
set_option linter.unusedSimpArgs false
set_option linter.unusedVariables false
set_option linter.defProp false
set_option maxHeartbeats 4000000
open Go.Proofs.Tryz
namespace Go.Proofs.YtkdddbdjilcofaaGreatDoor.Pu
open Go.RowKit
inductive R where
 |nil
 |ja
 |a (p:Prop) (r:R)
 |w (p:Prop) (r1:p->R) (r2:¬p->R)
def R.ok:R->Prop
 | .nil=>True
 | .ja=>False
 | .a p r=>p/\r.ok
 | .w p r1 r2=>(∀ h:p,(r1 h).ok)/\(∀ h:¬p,(r2 h).ok)
inductive Tr(P:Program)(K:World->Prop) where
 |nil
 |c {f:FuncId} {args:List E} {jT:E} (h:PC P K f args jT) (t:Tr P K)
 |cf {f:FuncId} {args:List E} {jT:E} (h:Hk P K f args jT) (t:Tr P K)
 |cn {f:FuncId} {args:List E} {nl:Bool} {T:TypeId} {n sz:Nat} {el:Nat->Nat->E} (h:vz P K f args nl T n sz el) (t:Tr P K)
 |g {op:BinOp} {ty:TypeId} {x y:E} {v:Value} (h:oN P op ty x y v) (t:Tr P K)
 |gi {op:BinOp} {ty:TypeId} {x y:E} {v:Value} (h:oN P op ty x y v) (t:Tr P K)
 |m {l:List (Int×FuncId×List FuncId)} {z:Int} {e:E} (h:Cu l z=some e) (t:Tr P K)
 |o (d:Nat) {p q:PV} (h:PV.le p q) (t:Tr P K)
 |bo (t:Tr P K)
 |a {p:Prop} (h:p) (t:Tr P K)
 |w (p:Prop) (t1:p->Tr P K) (t2:¬p->Tr P K)
 |s {c:Code} {σ τ:PS} {e:Ex} (h:Sp P K c σ (λe' τ'=>e'=e/\τ'=τ)) (l t:Tr P K)
 |j (c:Nat) (τ:PS) (tj t:Tr P K)
 |v (d:Nat) {p q:PV} (h:PV.le p q) (t:Tr P K)
 |b (d:Nat) {p q:Bx} (h:Bx.le p q) (t:Tr P K)
 |z (id:Nat) (t:Tr P K)
 |y (s id:Nat) (nl:Bool) (T:TypeId) (sz:Nat) (el:Nat->Nat->E) (t:Tr P K)
 |e (t:Tr P K)
 |k (ts bs:List Nat) (t:Tr P K)
 |u (n:Nat) (t:Tr P K)
 |x (h:False)
 |r {p q:E} (h:E.le p q)
 |rb {p q:Bx} (h:Bx.le p q)
section
variable {P:Program} {K:World->Prop}
def Ek:List (Nat×PV)->Tr P K->(Tr P K->R)->R
 | [],t,k=>k t
 | (d,q)::l,t,k=>match t with
  | .o d' (p:=p) (q:=q') _ t'=>if Nat.beq d' d then .a (PV.le p q') (Ek l t' k)else .a (PV.le q q) (Ek l t k)
  |t=>.a (PV.le q q) (Ek l t k)
def C9:List (Nat×Bx)->Tr P K->R->R
 | [],_,r=>r
 | (d,q)::l,t,r=>match t with
  | .b d' (p:=p) (q:=q') _ t'=>if Nat.beq d' d then .a (Bx.le p q') (C9 l t' r)else .a (Bx.le q q) (C9 l t r)
  |t=>.a (Bx.le q q) (C9 l t r)
def Eg(σ:PS)(t:Tr P K)(r:R):R:=Ek σ.t t λt=>C9 σ.b t r
def Tr.ex:Tr P K->(Tr P K->R)->R
 | .nil,fin=>fin .nil
 | .e t,fin=>fin t
 | @Tr.c _ _ f args jT _ t,fin=>.a (PC P K f args jT) (t.ex fin)
 | @Tr.cf _ _ f args jT _ t,fin=>.a (Hk P K f args jT) (t.ex fin)
 | @Tr.cn _ _ f args nl T n sz el _ t,fin=>.a (vz P K f args nl T n sz el) (t.ex fin)
 | @Tr.g _ _ op₁ ty₁ xe₁ ye₁ ve₁ _ t,fin=>.a (oN P op₁ ty₁ xe₁ ye₁ ve₁) (t.ex fin)
 | @Tr.gi _ _ op₁ ty₁ xe₁ ye₁ ve₁ _ t,fin=>.a (oN P op₁ ty₁ xe₁ ye₁ ve₁) (t.ex fin)
 | @Tr.m _ _ l₁ z₁ e₁ _ t,fin=>.a (Cu l₁ z₁=some e₁) (t.ex fin)
 | .o _ (p:=p) (q:=q) _ t,fin=>.a (PV.le p q) (t.ex fin)
 | .bo t,fin=>.a True (t.ex fin)
 | .a (p:=p) _ t,fin=>.a p (t.ex fin)
 | .w p t1 t2,fin=>.w p (λh=>(t1 h).ex fin) (λh=>(t2 h).ex fin)
 | @Tr.s _ _ c₁ σ τ e₁ _ l t,fin=>Eg σ l (.a (Sp P K c₁ σ (λe' τ'=>e'=e₁/\τ'=τ)) (t.ex fin))
 | .j _ τ tj t,fin=>.a (tj.ex λt=>Eg τ t .nil).ok (t.ex fin)
 | .v _ (p:=p) (q:=q) _ t,fin=>.a (PV.le p q) (t.ex fin)
 | .b _ _ t,fin=>t.ex fin
 | .z _ t,fin=>t.ex fin
 | .y _ _ _ _ _ _ t,fin=>t.ex fin
 | .k _ _ t,fin=>t.ex fin
 | .u _ t,fin=>t.ex fin
 | .x _,fin=>.a False .nil
 | .r (p:=p) (q:=q) _,fin=>.a (E.le p q) .nil
 | .rb (p:=p) (q:=q) _,fin=>.a (Bx.le p q) .nil
def akV{l:List (Nat×PV)}{t:Tr P K}{k:Tr P K->R}(hk:∀ t,(k t).ok):(Ek l t k).ok:=by
 induction l generalizing t with
 |nil=>exact hk t
 |cons x l ih=>
  obtain⟨d,q⟩:=x;cases t with
  |o d' h t'=>
   simp only[Ek];split
   .exact ⟨h,ih⟩
   .exact ⟨PV.le.refl q,ih⟩
  |_=>exact⟨PV.le.refl q,ih⟩
def ZU{l:List (Nat×Bx)}{t:Tr P K}{r:R}(hr:r.ok):(C9 l t r).ok:=by
 induction l generalizing t with
 |nil=>exact hr
 |cons x l ih=>
  obtain⟨d,q⟩:=x;cases t with
  |b d' h t'=>
   simp only[C9];split
   .exact ⟨h,ih⟩
   .exact ⟨Bx.le.refl q,ih⟩
  |_=>exact⟨Bx.le.refl q,ih⟩
def Pk{σ:PS}{t:Tr P K}{r:R}(hr:r.ok):(Eg σ t r).ok:=akV λ_=>ZU hr
def Tr.LP{fin:Tr P K->R}(hf:∀ t,(fin t).ok)(t:Tr P K):(t.ex fin).ok:=by
 induction t generalizing fin with
 |nil=>exact hf _
 |e t=>exact hf _
 |c h t ih=>exact⟨h,ih hf⟩
 |cf h t ih=>exact⟨h,ih hf⟩
 |cn h t ih=>exact⟨h,ih hf⟩
 |g h t ih=>exact⟨h,ih hf⟩
 |gi h t ih=>exact⟨h,ih hf⟩
 |m h t ih=>exact⟨h,ih hf⟩
 |o d h t ih=>exact⟨h,ih hf⟩
 |bo t ih=>exact⟨trivial,ih hf⟩
 |a h t ih=>exact⟨h,ih hf⟩
 |w p t1 t2 FQ FR=>exact⟨λh=>FQ h hf,λh=>FR h hf⟩
 |s h l t ihl Nj=>exact Pk ⟨h,Nj hf⟩
 |j c τ tj t ihj Nj=>exact⟨ihj λ_=>Pk trivial,Nj hf⟩
 |v d h t ih=>exact⟨h,ih hf⟩
 |b d h t ih=>exact ih hf
 |z id t ih=>exact ih hf
 |y s id nl T sz el t ih=>exact ih hf
 |k ts bs t ih=>exact ih hf
 |u n t ih=>exact ih hf
 |x h=>exact h.elim
 |r h=>exact⟨h,trivial⟩
 |rb h=>exact⟨h,trivial⟩
def Pq(υ:PS):List (Nat×PV)->R->R
 | [],r=>r
 | (d,q)::l,r=>.a (PV.le (υ.get d) q) (Pq υ l r)
def H8(υ:PS):List (Nat×Bx)->R->R
 | [],r=>r
 | (d,q)::l,r=>match υ.bo d with
  |some b=>.a (Bx.le b q) (H8 υ l r)
  |none=>.ja
def Ku(υ σ:PS)(r:R):R:=if Nat.beq υ.n σ.n&&(σ.b.all (λx=>x.2.nl)||(σ.nl==υ.nl))&&GF σ then Pq υ σ.t (H8 υ σ.b r)else .ja
def Tr.tail:Tr P K->Tr P K
 | .c _ t=>t
 | .cf _ t=>t
 | .cn _ t=>t
 | .g _ t=>t
 | .gi _ t=>t
 | .m _ t=>t
 | .bo t=>t
 | .a _ t=>t
 |_=>.nil
def Oi:List Prop->Tr P K->(Tr P K->R)->R
 | [],t,k=>k t
 |p::l,t,k=>.a p (Oi l t.tail k)
def Ro(d:Option Tmp)(t:Tr P K):pR:=match d with
 |some d=>match t with
  | @Tr.c _ _ _ _ jT _ _=>{ cl:=[(d,jT)] }
  | @Tr.cf _ _ _ _ jT _ _=>{ cl:=[(d,jT)] }
  | @Tr.g _ _ _ _ _ _ ve₁ _ _=>{ cl:=[(d,.v ve₁)] }
  | @Tr.gi _ _ _ _ _ _ ve₁ _ _=>{ gi:=[(d,ve₁)] }
  | @Tr.m _ _ _ _ e₁ _ _=>{ cl:=[(d,e₁)] }
  | @Tr.cn _ _ _ _ nl T n sz el _ _=>{ nw:=[(d,.row nl T n sz el)] }
  | .bo _=>{ nw:=[(d,.cells 0 [])] }
  |_=>{}
 |none=>{}
def Gw:Tr P K->(Tr P K->R)->R
 | .w p t1 t2,k=>.w p (λh=>Gw (t1 h) k) (λh=>Gw (t2 h) k)
 | .x _,_=>.a False .nil
 |t,k=>k t
def Ox(o:Oper)(u:ku)(t:Tr P K)(k:ku->Tr P K->R):R:=match o.dst,t with
 |some d,.o d' (q:=q) _ t'=>if Nat.beq d' d then .a (PV.le u.r q) (k { u with r:=q,jr:=PV.le u.r q::u.jr } t')else k u t
 |_,t=>k u t
def Oq(T:List TI)(gT:Array Oper)(σ:PS)(o:Oper)(t:Tr P K)(k:ku->Tr P K->R):R:=
 if vX σ o.dst then match zL gT σ o with
  |some false=>k { r:=.e (.v (.tuple #[])),rd:=(looks gT o).map σ.get } t
  |some true=>Gw t λt=>match jm P K T (Ro o.dst t) σ o with
   |some u=>Oi u.jr t λt=>Gw t λt=>Ox o u t λu t=>k { u with rd:=(looks gT o).map σ.get } t
   |none=>.ja
  |none=>.ja
 else .ja
def Ou(T:List TI)(gT:Array Oper)(k:List (Oper×ku)->PS->Tr P K->R):List Oper->List (Oper×ku)->PS->Tr P K->R
 | [],us,σ,t=>k us σ t
 |o::l,us,σ,t=>Oq T gT σ o t λu t'=>Ou T gT k l ((o,u)::us) (σ.app o.dst u) t'
def rX(c:Bool):Tr P K->PS->(Tr P K->PS->R)->R
 | .w p t1 t2,σ,k=>.w p (λh=>rX c (t1 h) σ k) (λh=>rX c (t2 h) σ k)
 | .x _,_,_=>.a False .nil
 | .v d (q:=q) _ t,σ,k=>match q with
  | .e x=>if vX σ (some d)then .a (PV.le (σ.get d) (.e x)) (rX c t (σ.put (some d) (.e x)) k)else .ja
  |_=>.ja
 | .k ts bs t,σ,k=>if c then k (.k ts bs t) σ else if GF (σ.cut ts bs)then rX c t (σ.cut ts bs) k else .ja
 | .z id t,σ,k=>if c then k (.z id t) σ else match σ.bo id with
  |some b=>match b.as with
   |some e=>rX c t (σ.xD id e) k
   |none=>.ja
  |none=>.ja
 | .y s id nl T sz el t,σ,k=>if c then k (.y s id nl T sz el t) σ else match σ.bo id,σ.get s with
  |none,.e (.v (.slice none 0 0))=>if !σ.nl||nl then rX c t (σ.C5 s id (.row nl T 0 sz el)) k else .ja
  |_,_=>.ja
 |t,σ,k=>k t σ
def Kr(c:Code)(σ:PS)(t:Tr P K)(k:Ex->PS->Tr P K->R):R:=match t with
 | @Tr.s _ _ _ σ' τ e _ _ t=>Ku σ σ' (.a (Sp P K c σ' (λe' τ'=>e'=e/\τ'=τ)) (k e τ t))
 |_=>.ja
def Ex.pX:Ex->Ex->Bool
 | .normal,.normal=>true
 | .ret,.ret=>true
 | .exit a,.exit b=>Nat.beq a b
 |_,_=>false
def E6(e:Ex)(τ:PS)(e':Ex)(υ:PS)(_:Tr P K):R:=if Ex.pX e' e then Ku υ τ .nil else .ja
def ach:Operand->Nat
 | .tmp t=>2*t
 |_=>1
def jn(c:Nat)(g:PS->Tr P K->(Ex->PS->Tr P K->R)->R)(σ:PS)(t:Tr P K)(k:Ex->PS->Tr P K->R):R:=match t with
 | .j c' τ tj t'=>if Nat.beq c' c then .a (g σ tj (E6 .normal τ)).ok (k .normal τ t')else g σ t k
 |t=>g σ t k
def Tr.isS:Tr P K->Bool
 | .s ..=>true
 |_=>false
def YW(g f:PS->Tr P K->(Ex->PS->Tr P K->R)->R):Nat->PS->Tr P K->(Ex->PS->Tr P K->R)->R
 | 0,_,_,_=>.ja
 |n+1,σ,t,k=>rX false t σ λt σ=>if t.isS then g σ t k else f σ t λe τ t=>match e with
  | .normal=>YW g f n τ t k
  |e=>k e τ t
def vH(T:List TI):Code->PS->Tr P K->(Ex->PS->Tr P K->R)->R
 | .skip,σ,t,k=>k .normal σ t
 | .region _ gT d,σ,t,k=>Ou T gT (λus τ t=>if !d||D5 gT 0 us.reverse then k .normal τ t else .ja) gT.toList [] σ t
 | .seq a b,σ,t,k=>vH T a σ t λe τ t=>match e with
  | .normal=>vH T b τ t k
  |e=>k e τ t
 | .cond c a b,σ,t,k=>rX true t σ λt σ=>jn (ach c) (λσ t k=>rX true t σ λt σ=>match σ.op c with
  | .e (.v (.bool true))=>vH T a σ t k
  | .e (.v (.bool false))=>vH T b σ t k
  |_=>.ja) σ t k
 | .block id b,σ,t,k=>rX true t σ λt σ=>jn (2*id+1) (λσ t k=>vH T b σ t λe τ t=>match e with
  | .exit i=>if Nat.beq i id then k .normal τ t else k (.exit i) τ t
  |e=>k e τ t) σ t k
 | .exit id,σ,t,k=>rX false t σ λt σ=>k (.exit id) σ t
 | .ret,σ,t,k=>rX false t σ λt σ=>k .ret σ t
 | .loop b,σ,t,k=>rX false t σ λt σ=>match t with
  | .u n t=>YW (Kr (.loop b)) (vH T b) n σ t k
  |t=>Kr (.loop b) σ t k
 | .label _,σ,t,k=>k .normal σ t
 | .scope b,σ,t,k=>vH T b σ t k
 |_,_,_,_=>.ja
def WV{t:Tr P K}{k:Tr P K->R}(h:(Gw t k).ok):∃ t',(k t').ok:=by
 induction t with
 |w p t1 t2 FQ FR=>
  by_cases hp:p
  .exact FQ hp (h.1 hp)
  .exact FR hp (h.2 hp)
 |x hf=>exact hf.elim
 |_=>exact⟨_,h⟩
def ahU{l:List Prop}{t:Tr P K}{k:Tr P K->R}(h:(Oi l t k).ok):(∀ q,q ∈ l->q)/\∃ t',(k t').ok:=by
 induction l generalizing t with
 |nil=>exact⟨λq hq=>by simp at hq,t,h⟩
 |cons p l ih=>
  obtain⟨h1,h2⟩:=ih h.2;refine⟨λq hq=>?_,h2⟩;rcases cV.1 hq with hq|hq
  .subst hq;exact h.1
  .exact h1 q hq
variable {T:List TI} {gT:Array Oper} {σ:PS} {o:Oper}
def aie{O:pR}{u:ku}{t:Tr P K}{k:ku->Tr P K->R}(hO:O.ov=[])(hu:jm P K T O σ o=some u)(ho:∀ q,q ∈ u.jr->q)(h:(Ox o u t k).ok):
 ∃ O' u' t',uA P K T O' σ o=some u'/\(∀ q,q ∈ u'.jr->q)/\(k u' t').ok:=by
 have plain:(k u t).ok->∃ O' u' t',uA P K T O' σ o=some u'/\(∀ q,q ∈ u'.jr->q)/\(k u' t').ok:=by
  intro h;refine⟨O,u,t,?_,ho,h⟩;unfold uA;rw[hu,hO];cases o.dst<;>rfl
 unfold Ox at h;split at h
 .rename_i d d' p q hpq t' hd;split at h
  .obtain ⟨h1,h2⟩:=h;refine⟨⟨O.cl,[(d,q)],O.nw,O.gi⟩,_,t',?_,λx hx=>?_,h2⟩
   .unfold uA;have he:jm P K T ⟨O.cl,[(d,q)],O.nw,O.gi⟩ σ o=jm P K T O σ o:=by cases O;rfl
    rw[he,hu,hd];simp[look]
   .rcases cV.1 hx with hx|hx
    .subst hx;exact h1
    .exact ho x hx
  .exact plain h
 .exact plain h
def ah1{t:Tr P K}{k:ku->Tr P K->R}(h:(Oq T gT σ o t k).ok):∃ u t',(∃ O,rz P K T O gT σ o=some u)/\(∀ q,q ∈ u.jr->q)/\(k u t').ok:=by
 unfold Oq at h;split at h
 .rename_i hi;split at h
  .rename_i hw;refine⟨_,t,⟨{},?_⟩,λq hq=>by simp at hq,h⟩;unfold rz;rw[aZ hi,hw]
  .rename_i hw;obtain⟨t1,h1⟩:=WV h;split at h1
   .rename_i u hu;obtain⟨ho,t2,h2⟩:=ahU h1;obtain⟨t2,h2⟩:=WV h2;obtain⟨O',u',t3,wW,ho',h3⟩:=aie (by
     unfold Ro;cases o.dst with
     |none=>rfl
     |some d=>cases t1<;>rfl) hu ho h2
    refine⟨{ u' with rd:=(looks gT o).map σ.get },t3,⟨O',?_⟩,ho',h3⟩;unfold rz;rw[aZ hi,hw,wW]
   .exact h1.elim
  .exact h.elim
 .exact h.elim
def aid{k:List (Oper×ku)->PS->Tr P K->R}{l:List Oper}{us:List (Oper×ku)}{t:Tr P K}(h:(Ou T gT k l us σ t).ok):
 ∃ vs τ t',wC P K T gT vs σ τ/\vs.map (·.1)=l/\(∀ x,x ∈ vs->∀ q,q ∈ x.2.jr->q)/\(k (vs.reverse++us) τ t').ok:=by
 induction l generalizing us σ t with
 |nil=>exact⟨[],σ,t,r7.refl σ,rfl,λx hx=>by simp at hx,h⟩
 |cons o l ih=>
  obtain⟨u,t1,h1,h2,h3⟩:=ah1 h;obtain⟨vs,τ,t',k1,k2,k3,k4⟩:=ih h3;refine⟨(o,u)::vs,τ,t',⟨h1,k1⟩,by simp[k2],λx hx=>?_,by simpa using k4⟩;rcases cV.1 hx with hx|hx
  .subst hx;exact h2
  .exact k3 x hx
def PS.le.set{σ:PS}{d:Nat}{x:E}(hd:vX σ (some d)=true)(h:PV.le (σ.get d) (.e x)):PS.le σ (σ.put (some d) (.e x)):=λw0 B a w L _ r=>by
 have As:d<σ.n:=by simpa[vX,fF]using hd
 refine⟨L,r.hd,by rw[PS.NY];exact r.hs,λt=>?_,λid b hb=>r.hb id b hb,r.hv,r.hn,r.hw,r.hi,r.he,r.hl⟩;rw[PS.Mb];by_cases e:d=t
 .subst e;rw[aZ rfl];exact h _ _ _ _ _ (r.ht d)
 .rw [aY e];exact r.ht t
def CD{c:Bool}{t:Tr P K}{σ:PS}{k:Tr P K->PS->R}(h:(rX c t σ k).ok):∃ t' τ,PS.le σ τ/\(k t' τ).ok:=by
 induction t generalizing σ with
 |w p t1 t2 FQ FR=>
  by_cases hp:p
  .exact FQ hp (h.1 hp)
  .exact FR hp (h.2 hp)
 |k ts bs t ih=>
  simp only[rX]at h;split at h
  .exact ⟨_,σ,PS.le.refl σ,h⟩
  split at h
  .rename_i hr;obtain⟨t',τ,h1,h2⟩:=ih h;exact⟨t',τ,(PS.le.cut ts bs hr).trans h1,h2⟩
  .exact h.elim
 |v d h0 t ih=>
  simp only[rX]at h;split at h
  .rename_i x;split at h
   .rename_i hd;obtain⟨t',τ,h1,h2⟩:=ih h.2;exact⟨t',τ,(PS.le.set hd h.1).trans h1,h2⟩
   .exact h.elim
  .exact h.elim
 |z id t ih=>
  simp only[rX]at h;split at h
  .exact ⟨_,σ,PS.le.refl σ,h⟩
  split at h
  .rename_i b hb;split at h
   .rename_i e he;obtain⟨t',τ,h1,h2⟩:=ih h;exact⟨t',τ,(PS.le.freeze id hb he).trans h1,h2⟩
   .exact h.elim
  .exact h.elim
 |y s id nl T sz el t ih=>
  simp only[rX]at h;split at h
  .exact ⟨_,σ,PS.le.refl σ,h⟩
  split at h
  .rename_i hb hg;split at h
   .rename_i hn;obtain⟨t',τ,h1,h2⟩:=ih h;exact⟨t',τ,(PS.le.ZA s id hb hg (λe=>by rw[e]at hn;simpa using hn)).trans h1,h2⟩
   .exact h.elim
  .exact h.elim
 |x hf=>exact hf.elim
 |_=>exact⟨_,σ,PS.le.refl σ,h⟩
def akW{υ:PS}{l:List (Nat×PV)}{r:R}(h:(Pq υ l r).ok):xk υ l/\r.ok:=by
 induction l with
 |nil=>exact⟨trivial,h⟩
 |cons x l ih=>obtain⟨d,q⟩:=x;exact⟨⟨h.1,(ih h.2).1⟩,(ih h.2).2⟩
def aap{υ:PS}{l:List (Nat×Bx)}{r:R}(h:(H8 υ l r).ok):wA υ l/\r.ok:=by
 induction l with
 |nil=>exact⟨trivial,h⟩
 |cons x l ih=>
  obtain⟨d,q⟩:=x;simp only[H8]at h;split at h
  .rename_i b hb;exact⟨⟨⟨b,hb,h.1⟩,(ih h.2).1⟩,(ih h.2).2⟩
  .exact h.elim
def Ys{υ σ:PS}{r:R}(h:(Ku υ σ r).ok):PS.le υ σ/\r.ok:=by
 unfold Ku at h;split at h
 .rename_i hc;simp only[bF,dx,fP]at hc;obtain⟨⟨h1,h2⟩,h3⟩:=hc;obtain⟨h4,h5⟩:=akW h;obtain⟨h6,h7⟩:=aap h5;refine⟨?_,h7⟩;rcases h2 with h2|h2
  .exact PS.le.agv (kK.1 h1) h2 h3 h4 h6
  .exact PS.le.oH (kK.1 h1) h2 h3 h4 h6
 .exact h.elim
def ajF(hT:mf P T){w0:World}{B:Nat->Prop}{a:Act}{w:World}{L:Lk}(g:Gd P K w0 B){us:List (Oper×ku)}{τ:PS}{Q:Exit->Act->World->Prop}(h:wC P K T gT us σ τ)(ho:∀ x,x ∈ us->∀ q,q ∈ x.2.jr->q)
 (r:iT w0 B σ a w L) (hq:∀ a' w' L',iT w0 B τ a' w' L'->Q .normal a' w'):wpList P gT Q (us.map (·.1)) a w:=by
 induction us generalizing σ a w L with
 |nil=>exact hq a w L (r.pX h)
 |cons x us ih=>
  obtain⟨⟨O,h1⟩,h2⟩:=h;rw[dY];unfold wpList;rcases Su hT g r h1 (ho x aH) (wpList P gT Q (us.map (·.1))) Q (λa' w' L' hr=>ih h2 (λy hy=>ho y (by simp[hy])) hr)with⟨p1,p2⟩|⟨p1,p2⟩
  .rw [aZ p1];exact .inl p2
  .rw [aY (by rw[p1];simp)];exact p2
def ai6(hT:mf P T)(hm:P.follows .mixedOrders=true){w0:World}{B:Nat->Prop}{a:Act}{w:World}{L:Lk}(g:Gd P K w0 B){id:Nat}{draw:Bool}{us:List (Oper×ku)}{τ:PS}{Q:Exit->Act->World->Prop}
 (h:wC P K T gT us σ τ) (hl:us.map (·.1)=gT.toList) (ho:∀ x,x ∈ us->∀ q,q ∈ x.2.jr->q) (hp:(!draw||D5 gT 0 us)=true) (r:iT w0 B σ a w L)
 (hq:∀ a' w' L',iT w0 B τ a' w' L'->Q .normal a' w'):(Code.region id gT draw).wp P Q a w:=by
 cases draw with
 |false=>exact wp_region_list (by rw[<-hl];exact ajF hT g h ho r hq)
 |true=>
  obtain⟨R,r1,r2,r3⟩:=agB hl (by simpa using hp);refine wp_region_any hm (ZE hT g hq gT.size (Array.replicate gT.size false) R σ a w.drew L r2 aH r3 (λx hx=>ho x.2 ?_) (by rw[r1];exact h) r.drew);rw[<-r1];exact dh.2 ⟨x,hx,rfl⟩
def Yn{c:Code}{t:Tr P K}{k:Ex->PS->Tr P K->R}(h:(Kr c σ t k).ok):Sp P K c σ (λe τ=>∃ t',(k e τ t').ok):=by
 unfold Kr at h;split at h
 .obtain ⟨h1,h2,h3⟩:=Ys h;exact Sp.pre h1 (h2.mono λe τ ⟨q1,q2⟩=>by subst q1 q2;exact⟨_,h3⟩)
 .exact h.elim
def Ex.ajH{a b:Ex}(h:Ex.pX a b=true):a=b:=by
 cases a<;>cases b<;>first|rfl|(cases h;done)|exact congrArg Ex.exit (kK.1 h)
def Sm{e e':Ex}{τ υ:PS}{t:Tr P K}(h:(E6 e τ e' υ t).ok):e'=e/\PS.le υ τ:=by
 unfold E6 at h;split at h
 .rename_i he;exact⟨Ex.ajH he,(Ys h).1⟩
 .exact h.elim
def Vk{c:Code}{cb:Nat}{g:PS->Tr P K->(Ex->PS->Tr P K->R)->R}(hg:∀ σ t k,(g σ t k).ok->Sp P K c σ (λe τ=>∃ t',(k e τ t').ok)){σ:PS}{t:Tr P K}{k:Ex->PS->Tr P K->R}(h:(jn cb g σ t k).ok):
 Sp P K c σ (λe τ=>∃ t',(k e τ t').ok):=by
 unfold jn at h;split at h
 .rename_i c' τ tj t;split at h
  .refine (hg _ _ _ h.1).post λe υ ⟨t',ht⟩=>?_
   obtain⟨he,hl⟩:=Sm ht;exact⟨τ,hl,t,by rw[he];exact h.2⟩
  .exact hg _ _ _ h
 .exact hg _ _ _ h
def sX(P:Program)(K:World->Prop)(b:Code)(σ:PS)(Q:Ex->PS->Prop):Prop:=
 ∀ (w0:World) (B:Nat->Prop) (a:Act) (w:World) (L:Lk),Gd P K w0 B->iT w0 B σ a w L->∀ bf k cs,
  ∃ e a' w',(∃ ex τ L',e=Ex.to ex/\Q ex τ/\iT w0 B τ a' w' L')/\Arrives P (lone (bf.at a (.code b :: .inLoop b::k)) cs w) bf k cs e a' w'
def sX.loop{b:Code}{σ:PS}{Q:Ex->PS->Prop}(h:sX P K b σ Q):Sp P K (.loop b) σ Q:=by
 intro w0 B a w L g r bf k cs;obtain⟨e,a',w',hq,s9⟩:=h w0 B a w L g r bf k cs;exact⟨e,a',w',hq,.of_steps (.one step_loop) s9⟩
def sX.pre{b:Code}{σ τ:PS}{Q:Ex->PS->Prop}(h:PS.le σ τ)(k:sX P K b τ Q):sX P K b σ Q:=λw0 B a w L g r=>
 let⟨L',r'⟩:=h w0 B a w L (λb hb=>(g.hB b hb).1) r;k w0 B a w L' g r'
def sX.step{b:Code}{σ:PS}{Q:Ex->PS->Prop}(h:Sp P K b σ (λe τ=>(e = .normal/\sX P K b τ Q)\/(e ≠ .normal/\Q e τ))):sX P K b σ Q:=by
 intro w0 B a w L g r bf k cs;obtain⟨e,a₁,w₁,⟨ex,υ,L2,rfl,hq,nu⟩,s9⟩:=h w0 B a w L g r bf (.inLoop b::k) cs;rcases hq with⟨rfl,hs⟩|⟨jh,hq⟩
 .obtain ⟨e₂,a₂,w₂,MZ,Mw⟩:=hs w0 B a₁ w₁ L2 g nu bf k cs;exact⟨e₂,a₂,w₂,MZ,.of_steps (Steps.trans s9 (.one step_inLoop)) Mw⟩
 .cases ex with
  |normal=>exact absurd rfl jh
  |exit i=>exact⟨_,a₁,w₁,⟨.exit i,υ,L2,rfl,hq,nu⟩,.pass (x:=.inLoop b) rfl (λ_ _=>.inl (by simp[Ex.to])) s9⟩
  |ret=>exact⟨_,a₁,w₁,⟨.ret,υ,L2,rfl,hq,nu⟩,.pass (x:=.inLoop b) rfl (λ_ _=>.inl (by simp[Ex.to])) s9⟩
def LR{id : Nat} : ∀ {k k' : List Item},exitTo id k=some k'->k'.length<=k.length
  | [],_,h => by simp[exitTo]at h
  |x::k,k',h => by
    cases x
    all_goals
      simp only[exitTo]at h
      first
        | (have := LR h;simp only[cM];omega)
        | (split at h
           . cases h;simp
           . have := LR h;simp only[cM];omega)
def Steps.Lc{m m1 m':Machine}(hs:step P m = .next m1)(jh:m≠m')(h:Steps P m m'):Steps P m1 m':=by
 obtain⟨n,hn⟩:=h;cases n with
 |zero=>simp only[runN,Stepped.next.injEq]at hn;exact absurd hn jh
 |succ n=>exact⟨n,by simpa only[runN,hs]using hn⟩
def sX.ahV{b:Code}{σ:PS}{Q:Ex->PS->Prop}(h:Sp P K (.loop b) σ Q):sX P K b σ Q:=by
 intro w0 B a w L g r bf k cs;obtain⟨e,a',w',⟨ex,τ,L',rfl,hq,hr⟩,s9⟩:=h w0 B a w L g r bf k cs;have todo:∀ (f g:Frame) (w w':World),lone f cs w=lone g cs w'->f.todo=g.todo:=λf g w w' e=>by
  have e1:=congrArg Machine.gs e;simp only[lone,Array.mk.injEq,List.cons.injEq,eX]at e1;injection e1 with e2;rw[e2]
 have ne:∀ (a₁:Act) (k₁:List Item) (w₁:World),k₁.length<=k.length->lone (bf.at a (.code (.loop b)::k)) cs w≠lone (bf.at a₁ k₁) cs w₁:=λa₁ k₁ w₁ hk e=>by
  have:=congrArg List.length (todo _ _ _ _ e);simp[Frame.at]at this;omega
 refine⟨_,a',w',⟨ex,τ,L',rfl,hq,hr⟩,?_⟩;cases ex with
 |normal=>exact Steps.Lc step_loop (ne _ _ _ (bc _)) s9
 |exit i=>exact λk' hk=>Steps.Lc step_loop (ne _ _ _ (LR hk)) (s9 k' hk)
 |ret=>
  obtain⟨td,hs⟩:=s9;refine⟨td,Steps.Lc step_loop (λe=>?_) hs⟩;have e1:=congrArg Machine.gs e;simp only[lone,Array.mk.injEq,List.cons.injEq,eX]at e1;injection e1 with e2;have e3:=congrArg Frame.mode e2;simp[Frame.at]at e3
def LK(hT:mf P T)(hm:P.follows .mixedOrders=true){c:Code}{σ:PS}{t:Tr P K}{k:Ex->PS->Tr P K->R}(h:(vH T c σ t k).ok):Sp P K c σ (λe τ=>∃ t',(k e τ t').ok):=by
 induction c generalizing σ t k with
 |skip=>exact λw0 B a w L g r=>wp_skip ⟨.normal,_,L,rfl,⟨t,h⟩,r⟩
 |region id gT d=>
  obtain⟨vs,τ,t',h1,h2,h3,h4⟩:=aid h;split at h4
  .rename_i hp;simp only[fD,List.reverse_reverse]at hp;exact λw0 B a w L g r=>ai6 hT hm g h1 h2 h3 hp r λa' w' L' hr=>⟨.normal,τ,L',rfl,⟨t',h4⟩,hr⟩
  .exact h4.elim
 |seq x y Nk Nl=>
  intro w0 B a w L g r;refine wp_seq (Code.wp_mono ?_ (Nk h w0 B a w L g r));rintro ex a' w' ⟨e1,τ1,L',rfl,⟨t',ht⟩,hr⟩;cases e1 with
  |normal=>exact Nl ht w0 B a' w' L' g hr
  |exit i=>exact⟨.exit i,τ1,L',rfl,⟨t',ht⟩,hr⟩
  |ret=>exact⟨.ret,τ1,L',rfl,⟨t',ht⟩,hr⟩
 |cond c x y Nk Nl=>
  obtain⟨t1,τ,hle,h1⟩:=CD h;refine Sp.pre hle (Vk (λσ t k h=>?_) h1);obtain⟨t1,τ,hle,h1⟩:=CD h;refine Sp.pre hle ?_;split at h1
  .rename_i hc;intro w0 B a w L g r;have hv:=r.op c;rw[hc]at hv;exact wp_cond_true (ix.kz hv) (Nk h1 w0 B a w L g r)
  .rename_i hc;intro w0 B a w L g r;have hv:=r.op c;rw[hc]at hv;exact wp_cond_false (ix.kz hv) (Nl h1 w0 B a w L g r)
  .exact h1.elim
 |block id b ih=>
  obtain⟨t1,τ,hle,h1⟩:=CD h;refine Sp.pre hle (Vk (λσ t k h=>?_) h1);intro w0 B a w L g r;refine wp_block (Code.wp_mono ?_ (ih h w0 B a w L g r));rintro ex a' w' ⟨e1,τ1,L',rfl,⟨t',ht⟩,hr⟩;cases e1 with
  |normal=>exact⟨.normal,_,L',rfl,⟨t',ht⟩,hr⟩
  |ret=>exact⟨.ret,_,L',rfl,⟨t',ht⟩,hr⟩
  |exit i=>
   simp only at ht;show Exit.inBlock id _ (.exit i) a' w';split at ht
   .rename_i hi;have hi:=kK.1 hi;subst hi;simp only[Exit.inBlock,bw];exact⟨.normal,_,L',rfl,⟨t',ht⟩,hr⟩
   .rename_i hi;have hi:i≠id:=λe=>hi (kK.2 e)
    simp only[Exit.inBlock,hi,bk];exact⟨.exit i,_,L',rfl,⟨t',ht⟩,hr⟩
 |label l=>exact λw0 B a w L g r=>wp_label ⟨.normal,_,L,rfl,⟨t,h⟩,r⟩
 |scope b ih=>
  intro w0 B a w L g r;refine wp_scope_straight (Code.wp_mono ?_ (ih h w0 B a w L g r));rintro ex a' w' ⟨e1,τ1,L',rfl,⟨t',ht⟩,hr⟩;cases e1 with
  |normal=>exact⟨.normal,τ1,L',rfl,⟨t',ht⟩,hr⟩
  |ret=>exact⟨.ret,τ1,L',rfl,⟨t',ht⟩,hr⟩
  |exit i=>exact⟨.exit i,τ1,L',rfl,⟨t',ht⟩,hr⟩
 |exit id=>
  obtain⟨t1,τ,hle,h1⟩:=CD h;exact Sp.pre hle λw0 B a w L g r=>wp_exit ⟨.exit id,_,L,rfl,⟨t1,h1⟩,r⟩
 |ret=>
  obtain⟨t1,τ,hle,h1⟩:=CD h;exact Sp.pre hle λw0 B a w L g r=>wp_ret ⟨.ret,_,L,rfl,⟨t1,h1⟩,r⟩
 |loop b ih=>
  obtain⟨t1,τ,hle,h1⟩:=CD h;refine Sp.pre hle ?_;split at h1
  .rename_i n t;clear hle h;refine sX.loop ?_
   induction n generalizing τ t with
   |zero=>exact h1.elim
   |succ n ihn=>
    obtain⟨t2,τ2,hle,h1⟩:=CD h1;split at h1
    .exact sX.pre hle (sX.ahV (Yn h1))
    refine sX.pre hle (sX.step ((ih h1).mono λe υ ⟨t',ht⟩=>?_));cases e with
    |normal=>exact .inl ⟨rfl,ihn _ _ ht⟩
    |exit i=>exact .inr ⟨aH,t',ht⟩
    |ret=>exact .inr ⟨aH,t',ht⟩
  .exact Yn h1
 |_=>exact h.elim
def Sp.tr(hT:mf P T)(hm:P.follows .mixedOrders=true){c:Code}{σ τ:PS}{e:Ex}(t:Tr P K)(h:vH T c σ t (E6 e τ)=t.ex λt=>Eg τ t .nil):
 Sp P K c σ (λe' τ'=>e'=e/\τ'=τ):=by
 have hk:=Tr.LP (fin:=λt=>Eg τ t .nil) (λt=>Pk trivial) t;rw[<-h]at hk;refine(LK hT hm hk).post λe' υ ⟨t',ht⟩=>?_
 obtain⟨he,hl⟩:=Sm ht;exact⟨τ,hl,he,rfl⟩
def SM(T:List TI)(fn:Func)(jT:E)(e:Ex)(τ:PS)(_:Tr P K):R:=match e with
 | .exit _=>.ja
 |_=>match Kf T fn τ with
  |some r=>.a (E.le r jT) .nil
  |none=>.ja
def OP(T:List TI)(fn:Func)(nl:Bool)(args:List E)(jT:E)(t:Tr P K):R:=match fn.body with
 |some c=>if Nat.ble args.length fn.ntmps then vH T c (AI fn nl args) t (SM T fn jT)else .ja
 |none=>.ja
def PC.Pw(hT:mf P T)(hm:P.follows .mixedOrders=true)(hp:∀ w w',K w->Below w.heap.size w w'->K w'){f:FuncId}{fn:Func}{args:List E}{jT:E}(wM:∀ (vs:Array Value) (w:World),(callFunc f vs).run P w = .ok (.enter f vs) w)
 (hf:P.funcs[f]? = some fn) (nl:Bool) (t:Tr P K) (h:OP T fn nl args jT t=t.ex λ_=>.a (E.le jT jT) .nil):PC P K f args jT:=by
 have hk:=Tr.LP (fin:=λ_=>.a (E.le jT jT) .nil) (λt=>⟨E.le.refl jT,trivial⟩) t;rw[<-h]at hk;unfold OP at hk;split at hk
 .rename_i c hb;split at hk
  .rename_i hn;refine PC.NO hT hm hp wM hf hb (cF hn) nl ((LK hT hm hk).mono λe τ ⟨t',ht⟩=>?_);unfold SM at ht;split at ht
   .exact ht.elim
   .rename_i jh;split at ht
    .rename_i r hr;refine⟨?_,r,hr,ht.1⟩;cases e with
     |normal=>exact .inr rfl
     |ret=>exact .inl rfl
     |exit i=>exact absurd rfl (jh i)
    .exact ht.elim
  .exact hk.elim
 .exact hk.elim
def SL(fn:Func)(b:Bx)(e:Ex)(τ:PS)(_:Tr P K):R:=match e with
 | .exit _=>.ja
 |_=>match fn.results.toList with
  | [.tmp t]=>match τ.get t with
   | .own id=>match τ.bo id with
    |some c=>.a (Bx.le c b) .nil
    |none=>.ja
   |_=>.ja
  |_=>.ja
def OO(T:List TI)(fn:Func)(args:List E)(b:Bx)(t:Tr P K):R:=match fn.body with
 |some c=>if Nat.ble args.length fn.ntmps then vH T c (AI fn true args) t (SL fn b)else .ja
 |none=>.ja
def vz.Pw(hT:mf P T)(hm:P.follows .mixedOrders=true)(hp:∀ w w',K w->Below w.heap.size w w'->K w'){f:FuncId}{fn:Func}{args:List E}{nl:Bool}{T0:TypeId}{n sz:Nat}{el:Nat->Nat->E}(wM:∀ (vs:Array Value) (w:World),(callFunc f vs).run P w = .ok (.enter f vs) w)
 (hf:P.funcs[f]? = some fn) (t:Tr P K) (h:OO T fn args (.row nl T0 n sz el) t=t.ex λ_=>.a (Bx.le (.row nl T0 n sz el) (.row nl T0 n sz el)) .nil):vz P K f args nl T0 n sz el:=by
 have hk:=Tr.LP (fin:=λ_=>.a (Bx.le (.row nl T0 n sz el) (.row nl T0 n sz el)) .nil) (λt=>⟨Bx.le.refl _,trivial⟩) t;rw[<-h]at hk;unfold OO at hk;split at hk
 .rename_i c hb;split at hk
  .rename_i hn;refine vz.NO hT hm hp wM hf hb (cF hn) true ((LK hT hm hk).mono λe τ ⟨t',ht⟩=>?_);unfold SL at ht;split at ht
   .exact ht.elim
   .rename_i jh;split at ht
    .rename_i t0 hr;split at ht
     .rename_i id hg;split at ht
      .rename_i c' hc;refine⟨?_,t0,id,c',hr,hg,hc,λbs br L w hk=>ht.1.2 _ _ _ _ _ hk⟩;cases e with
       |normal=>exact .inr rfl
       |ret=>exact .inl rfl
       |exit i=>exact absurd rfl (jh i)
      .exact ht.elim
     .exact ht.elim
    .exact ht.elim
  .exact hk.elim
 .exact hk.elim
def Sp.jH{b:Code}{e:Ex}{τ:PS}(f:Nat->PS)(lo hi:Nat)(h0:lo<=hi)(go:∀ x,(lo<=x/\x<=hi)->x<hi->Sp P K b (f x) (λe' υ=>e' = .normal/\υ=f (x+1)))
 (out:(lo<=hi/\hi<=hi)->Sp P K b (f hi) (λe' υ=>e'=e/\υ=τ)) (he:e ≠ .normal):Sp P K (.loop b) (f lo) (λe' υ=>e'=e/\υ=τ):=by
 refine Sp.fam f (λx=>lo<=x/\x<=hi) (λx=>hi-x) (λx hx=>?_) lo ⟨bc _,h0⟩ (PS.le.refl _);rcases Nat.lt_or_eq_of_le hx.2 with im|heq
 .exact Sp.adR (x+1) (go x hx im) ⟨aC,aC⟩ aC (PS.le.refl _)
 .subst heq;exact Sp.adS (out hx) he (PS.le.refl _)
def ik(z:Int)(h:-9223372036854775808<=z/\z<=9223372036854775807):Tr P K->Tr P K:=.a (p:=kP .i64 z) h
def CL(z:Int)(h:0<=z/\z<=18446744073709551615):Tr P K->Tr P K:=.a (p:=kP .u64 z) h
def iX(z:Int)(n:Nat)(h:0<=z/\z<n):Tr P K->Tr P K:=.a h
def tB(d:Nat){a b:Bool}(h:a=b):Tr P K->Tr P K:=.o d (PV.le.bool h)
def ah(d:Nat)(a:Bool)(h:a=true):Tr P K->Tr P K:=tB d h
def ai(d:Nat)(a:Bool)(h:a=false):Tr P K->Tr P K:=tB d h
def tT(d:Nat)(p:Prop)[Decidable p](h:p):Tr P K->Tr P K:=.o d (PV.le.bool (a6 h))
def tF(d:Nat)(p:Prop)[Decidable p](h:¬p):Tr P K->Tr P K:=.o d (PV.le.bool (a7 h))
def rQ(p q:E)(h:p=q):Tr P K:=.r (E.le.iM h)
def rR(q:E){p:E}(h:E.le p q):Tr P K:=.r h
def ae(l:List (Tr P K->Tr P K))(t:Tr P K):Tr P K:=l.foldr (λf t=>f t) t
def af(l:List (Tr P K->Tr P K)):Tr P K:=ae l .nil
end
end Go.Proofs.YtkdddbdjilcofaaGreatDoor.Pu
namespace Go.Proofs.YtkdddbdjilcofaaGreatDoor
open Go.RowKit Fp Pu
def tr(nl:Bool){f:FuncId}{fn:Func}{args:List E}{jT:E}(wM:∀ (vs:Array Value) (w:World),(callFunc f vs).run prog w = .ok (.enter f vs) w)
 (hf:prog.funcs[f]? = some fn) (t:Tr prog Tb) (h:OP TT fn nl args jT t=t.ex λ_=>.a (E.le jT jT) .nil):gR f args jT:=
 PC.Pw K1 mixed P4 wM hf nl t h
def ag(args:List E){f:FuncId}{ko:E}(h:gR f args ko):Tr prog Tb->Tr prog Tb:=.c h
def ak{f:FuncId}{fn:Func}{args:List E}{jT:E}(wM:∀ (vs:Array Value) (w:World),(callFunc f vs).run prog w = .ok (.enter f vs) w)
 (hf:prog.funcs[f]? = some fn) (t:Tr prog Tb) (h:OP TT fn true args jT t=t.ex λ_=>.a (E.le jT jT) .nil:=by kernel_rfl):gR f args jT:=tr true wM hf t h
def an{f:FuncId}{fn:Func}{args:List E}{jT:E}(wM:∀ (vs:Array Value) (w:World),(callFunc f vs).run prog w = .ok (.enter f vs) w)
 (hf:prog.funcs[f]? = some fn) (t:Tr prog Tb) (h:OP TT fn false args jT t=t.ex λ_=>.a (E.le jT jT) .nil:=by kernel_rfl):gR f args jT:=tr false wM hf t h
def iB{c:Code}{σ τ:PS}{e:Ex}(t:Tr prog Tb)(h:vH TT c σ t (E6 e τ)=t.ex λt=>Eg τ t .nil):
 Sp prog Tb c σ (λe' τ'=>e'=e/\τ'=τ):=Sp.tr K1 mixed t h
abbrev jD(k:Nat)(fn:Func)(σ:PS)(e:Ex)(τ:PS):Prop:=Sp prog Tb (.loop (aaG k fn)) σ (λe' τ'=>e'=e/\τ'=τ)
def UW(nl:Bool)(n N:Nat)(el:Nat->Nat->E)(g:FuncId)(cap:List E)(i:Nat):PS:=⟨19,false,[(8,.e (iP i)),(7,.e (iP n)),(0,.e (.sl nl n 1 el)),(1,.e (.fn g cap))],[]⟩
def UU(nl:Bool)(n:Nat)(el:Nat->Nat->E)(g:FuncId)(cap:List E)(i:Nat):PS:=⟨19,false,[(8,.e (iP i)),(7,.e (iP n)),(0,.e (.sl nl n 1 el)),(1,.e (.fn g cap))],[]⟩
def Vw(nl:Bool)(n:Nat)(el:Nat->Nat->E)(g:FuncId)(cap:List E)(i:Nat):PS:=⟨19,false,[(8,.e (iP i)),(7,.e (iP n)),(0,.e (.sl nl n 1 el)),(1,.e (.fn g cap))],[]⟩
def U9(nl:Bool)(n N:Nat)(el:Nat->Nat->E)(g:FuncId)(cap:List E)(i:Nat):PS:=⟨19,false,[(8,.e (iP i)),(7,.e (iP n)),(0,.e (.sl nl n 7 el)),(1,.e (.fn g cap))],[]⟩
def U8(nl:Bool)(n:Nat)(el:Nat->Nat->E)(g:FuncId)(cap:List E)(i:Nat):PS:=⟨19,false,[(8,.e (iP i)),(7,.e (iP n)),(0,.e (.sl nl n 7 el)),(1,.e (.fn g cap))],[]⟩
def Xs(nl:Bool)(n:Nat)(el:Nat->Nat->E)(g:FuncId)(cap:List E)(i:Nat):PS:=⟨19,false,[(8,.e (iP i)),(7,.e (iP n)),(0,.e (.sl nl n 1 el)),(1,.e (.fn g cap))],[]⟩
def sL{p:Nat->Bool}{n:Nat}(h:∃ i,i<n/\p i=true):∃ N,N<n/\p N=true/\∀ i,i<N->p i=false:=by
 induction n with
 |zero=>obtain⟨i,h1,_⟩:=h;omega
 |succ n ih=>
  by_cases hn:∃ i,i<n/\p i=true
  .obtain ⟨N,h1,h2,h3⟩:=ih hn;exact⟨N,aC,h2,h3⟩
  .obtain ⟨i,h1,h2⟩:=h;have:i=n:=by
    by_cases q:i=n
    .exact q
    .exact absurd ⟨i,aC,h2⟩ hn
   subst this;exact⟨i,h1,h2,λj hj=>by simpa using λq=>hn ⟨j,hj,q⟩⟩
def afV(nl:Bool)(n:Nat)(el:Nat->Nat->E)(g:FuncId)(cap:List E)(p:Nat->Bool)(hp:∀ i,i<n->gR g ((el i 0)::cap) (bP (p i)))(N:Nat)(hl:n<=1000000)(pU:N<n)(jJ:∀ i,i<N->p i=false)(hN:p N=true):gR 111 [.sl nl n 1 el,.fn g cap] (iP N):=
 an call111 func111 (af [.s (Sp.jH (UW nl n N el g cap) 0 N aC (λi hi oR=>by
    exact iB (af [tT 9 ((i:Int)<n) aC,iX (i:Int) n aC,.c (hp i aC:gR g ((el i 0)::cap) _),ai 16 (p i) (jJ i aC),ik ((i:Int)+1) aC]) aF)
  (λhi=>by
    exact iB (af [tT 9 ((N:Int)<n) aC,iX (N:Int) n aC,.c (hp N aC:gR g ((el N 0)::cap) _),ah 16 (p N) hN]) aF) aI:jD 2 f111 (UW nl n N el g cap 0) .ret ⟨19,false,[(4,.e (iP N))],[]⟩) .nil]) 
def afX(nl:Bool)(n:Nat)(el:Nat->Nat->E)(g:FuncId)(cap:List E)(p:Nat->Bool)(hp:∀ i,i<n->gR g ((el i 0)::cap) (bP (p i)))(hl:n<=1000000)(jJ:∀ i,i<n->p i=false):gR 111 [.sl nl n 1 el,.fn g cap] (iP (-1)):=
 an call111 func111 (af [.s (Sp.jH (UU nl n el g cap) 0 n aC (λi hi oR=>by
    exact iB (af [tT 9 ((i:Int)<n) aC,iX (i:Int) n aC,.c (hp i aC:gR g ((el i 0)::cap) _),ai 16 (p i) (jJ i aC),ik ((i:Int)+1) aC]) aF)
  (λhi=>by
    exact iB (af [tF 9 ((n:Int)<n) aC]) aF) aI:jD 2 f111 (UU nl n el g cap 0) (.exit 0) ⟨19,false,[],[]⟩) .nil]) 
def afW(nl:Bool)(n:Nat)(el:Nat->Nat->E)(g:FuncId)(cap:List E)(p:Nat->Bool)(hp:∀ i,i<n->gR g ((el i 0)::cap) (bP (p i)))(N:Nat)(hl:n<=1000000)(pU:N<n)(jJ:∀ i,i<N->p i=false)(hN:p N=true):gR 60 [.sl nl n 1 el,.fn g cap] (bP true):=
 an call60 func60 (af [ag [.sl nl n 1 el,.fn g cap] (afV nl n el g cap p hp N hl pU jJ hN),tT 8 (0<=(N:Int)) aC]) 
def Nr(nl:Bool)(n:Nat)(el:Nat->Nat->E)(g:FuncId)(cap:List E)(p:Nat->Bool)(hp:∀ i,i<n->gR g ((el i 0)::cap) (bP (p i)))(hl:n<=1000000)(jJ:∀ i,i<n->p i=false):gR 60 [.sl nl n 1 el,.fn g cap] (bP false):=
 an call60 func60 (af [ag [.sl nl n 1 el,.fn g cap] (afX nl n el g cap p hp hl jJ),ai 8 (decide ((0:Int)<=(-1))) aE]) 
def afU(nl:Bool)(n:Nat)(el:Nat->Nat->E)(g:FuncId)(cap:List E)(p:Nat->Bool)(hp:∀ i,i<n->gR g ((el i 0)::cap) (bP (p i)))(hl:n<=1000000):gR 60 [.sl nl n 1 el,.fn g cap] (bP ((List.range n).any p)):=by
 by_cases h:∃ i,i<n/\p i=true
 .obtain ⟨N,h1,h2,h3⟩:∃ N,N<n/\p N=true/\∀ i,i<N->p i=false:=sL h;refine(afW nl n el g cap p hp N hl h1 h3 h2).jT (.iM ?_);rw[dJ.2 ⟨N,bW.2 h1,h2⟩]
 .refine (Nr nl n el g cap p hp hl λi hi=>by simpa using λq=>h ⟨i,hi,q⟩).jT (.iM ?_);rw[cW.2 λi hi q=>h ⟨i,bW.1 hi,q⟩]
def agL(nl:Bool)(n:Nat)(el:Nat->Nat->E)(g:FuncId)(cap:List E)(p:Nat->Bool)(hp:∀ i,i<n->gR g ((el i 0)::cap) (bP (p i)))(hl:n<=1000000)(jJ:∀ i,i<n->p i=false):gR 176 [.sl nl n 1 el,.fn g cap] (iP (-1)):=
 an call176 func176 (af [.s (Sp.jH (Vw nl n el g cap) 0 n aC (λi hi oR=>by
    exact iB (af [tT 9 ((i:Int)<n) aC,iX (i:Int) n aC,.c (hp i aC:gR g ((el i 0)::cap) _),ai 16 (p i) (jJ i aC),ik ((i:Int)+1) aC]) aF)
  (λhi=>by
    exact iB (af [tF 9 ((n:Int)<n) aC]) aF) aI:jD 2 f176 (Vw nl n el g cap 0) (.exit 0) ⟨19,false,[],[]⟩) .nil]) 
def Vy(nl:Bool)(n:Nat)(el:Nat->Nat->E)(g:FuncId)(cap:List E)(p:Nat->Bool)(hp:∀ i,i<n->gR g ((el i 0)::cap) (bP (p i)))(hl:n<=1000000)(jJ:∀ i,i<n->p i=false):gR 143 [.sl nl n 1 el,.fn g cap] (bP false):=
 an call143 func143 (af [ag [.sl nl n 1 el,.fn g cap] (agL nl n el g cap p hp hl jJ),ai 8 (decide ((0:Int)<=(-1))) aE]) 
def agf(nl:Bool)(n:Nat)(el:Nat->Nat->E)(g:FuncId)(cap:List E)(p:Nat->Bool)(hp:∀ i,i<n->gR g ((.agg [el i 0,el i 1,el i 2,el i 3,el i 4,el i 5,el i 6])::cap) (bP (p i)))(N:Nat)(hl:n<=1000000)(pU:N<n)(jJ:∀ i,i<N->p i=false)(hN:p N=true):gR 58 [.sl nl n 7 el,.fn g cap] (iP N):=
 an call58 func58 (af [.s (Sp.jH (U9 nl n N el g cap) 0 N aC (λi hi oR=>by
    exact iB (af [tT 9 ((i:Int)<n) aC,iX (i:Int) n aC,.c (hp i aC:gR g ((.agg [el i 0,el i 1,el i 2,el i 3,el i 4,el i 5,el i 6])::cap) _),ai 16 (p i) (jJ i aC),ik ((i:Int)+1) aC]) aF)
  (λhi=>by
    exact iB (af [tT 9 ((N:Int)<n) aC,iX (N:Int) n aC,.c (hp N aC:gR g ((.agg [el N 0,el N 1,el N 2,el N 3,el N 4,el N 5,el N 6])::cap) _),ah 16 (p N) hN]) aF) aI:jD 2 Tryz.f58 (U9 nl n N el g cap 0) .ret ⟨19,false,[(4,.e (iP N))],[]⟩) .nil]) 
def agi(nl:Bool)(n:Nat)(el:Nat->Nat->E)(g:FuncId)(cap:List E)(p:Nat->Bool)(hp:∀ i,i<n->gR g ((.agg [el i 0,el i 1,el i 2,el i 3,el i 4,el i 5,el i 6])::cap) (bP (p i)))(hl:n<=1000000)(jJ:∀ i,i<n->p i=false):gR 58 [.sl nl n 7 el,.fn g cap] (iP (-1)):=
 an call58 func58 (af [.s (Sp.jH (U8 nl n el g cap) 0 n aC (λi hi oR=>by
    exact iB (af [tT 9 ((i:Int)<n) aC,iX (i:Int) n aC,.c (hp i aC:gR g ((.agg [el i 0,el i 1,el i 2,el i 3,el i 4,el i 5,el i 6])::cap) _),ai 16 (p i) (jJ i aC),ik ((i:Int)+1) aC]) aF)
  (λhi=>by
    exact iB (af [tF 9 ((n:Int)<n) aC]) aF) aI:jD 2 Tryz.f58 (U8 nl n el g cap 0) (.exit 0) ⟨19,false,[],[]⟩) .nil]) 
def agh(nl:Bool)(n:Nat)(el:Nat->Nat->E)(g:FuncId)(cap:List E)(p:Nat->Bool)(hp:∀ i,i<n->gR g ((.agg [el i 0,el i 1,el i 2,el i 3,el i 4,el i 5,el i 6])::cap) (bP (p i)))(N:Nat)(hl:n<=1000000)(pU:N<n)(jJ:∀ i,i<N->p i=false)(hN:p N=true):gR 22 [.sl nl n 7 el,.fn g cap] (bP true):=
 an call22 func22 (af [ag [.sl nl n 7 el,.fn g cap] (agf nl n el g cap p hp N hl pU jJ hN),tT 8 (0<=(N:Int)) aC]) 
def Cm(nl:Bool)(n:Nat)(el:Nat->Nat->E)(g:FuncId)(cap:List E)(p:Nat->Bool)(hp:∀ i,i<n->gR g ((.agg [el i 0,el i 1,el i 2,el i 3,el i 4,el i 5,el i 6])::cap) (bP (p i)))(hl:n<=1000000)(jJ:∀ i,i<n->p i=false):gR 22 [.sl nl n 7 el,.fn g cap] (bP false):=
 an call22 func22 (af [ag [.sl nl n 7 el,.fn g cap] (agi nl n el g cap p hp hl jJ),ai 8 (decide ((0:Int)<=(-1))) aE]) 
def Nx(nl:Bool)(n:Nat)(el:Nat->Nat->E)(g:FuncId)(cap:List E)(p:Nat->Bool)(hp:∀ i,i<n->gR g ((.agg [el i 0,el i 1,el i 2,el i 3,el i 4,el i 5,el i 6])::cap) (bP (p i)))(hl:n<=1000000):gR 22 [.sl nl n 7 el,.fn g cap] (bP ((List.range n).any p)):=by
 by_cases h:∃ i,i<n/\p i=true
 .obtain ⟨N,h1,h2,h3⟩:∃ N,N<n/\p N=true/\∀ i,i<N->p i=false:=sL h;refine(agh nl n el g cap p hp N hl h1 h3 h2).jT (.iM ?_);rw[dJ.2 ⟨N,bW.2 h1,h2⟩]
 .refine (Cm nl n el g cap p hp hl λi hi=>by simpa using λq=>h ⟨i,hi,q⟩).jT (.iM ?_);rw[cW.2 λi hi q=>h ⟨i,bW.1 hi,q⟩]
def ajv(nl:Bool)(n:Nat)(el:Nat->Nat->E)(g:FuncId)(cap:List E)(p:Nat->Bool)(hp:∀ i,i<n->gR g ((el i 0)::cap) (bP (p i)))(hl:n<=1000000)(jJ:∀ i,i<n->p i=false):gR 222 [.sl nl n 1 el,.fn g cap] (iP (-1)):=
 an call222 func222 (af [.s (Sp.jH (Xs nl n el g cap) 0 n aC (λi hi oR=>by
    exact iB (af [tT 9 ((i:Int)<n) aC,iX (i:Int) n aC,.c (hp i aC:gR g ((el i 0)::cap) _),ai 16 (p i) (jJ i aC),ik ((i:Int)+1) aC]) aF)
  (λhi=>by
    exact iB (af [tF 9 ((n:Int)<n) aC]) aF) aI:jD 2 f222 (Xs nl n el g cap 0) (.exit 0) ⟨19,false,[],[]⟩) .nil]) 
def ajt(nl:Bool)(n:Nat)(el:Nat->Nat->E)(g:FuncId)(cap:List E)(p:Nat->Bool)(hp:∀ i,i<n->gR g ((el i 0)::cap) (bP (p i)))(hl:n<=1000000)(jJ:∀ i,i<n->p i=false):gR 184 [.sl nl n 1 el,.fn g cap] (bP false):=
 an call184 func184 (af [ag [.sl nl n 1 el,.fn g cap] (ajv nl n el g cap p hp hl jJ),ai 8 (decide ((0:Int)<=(-1))) aE]) 
def V3(a b:List Nat)(x:Nat):PS:=⟨67,false,[(20,.e (iP x)),(19,.e (iP a.length)),(18,.e (gW a)),(5,.own 17),(1,.e (gW b))],[(17,.row false 96 (a.length+b.length) 1 (pN (lh a b x)))]⟩
def V4(a b:List Nat)(x:Nat)(k:Nat):PS:=⟨67,false,[(27,.e (iP k)),(26,.e (iP b.length)),(25,.e (gW b)),(8,.e (.v (.int .u64 (((na (a.getD x 0) x b (lh a b x) k).2:Nat):Int)))),(7,.e (.v (.int .u32 (a.getD x 0:Int)))),(6,.e (iP x)),(20,.e (iP x)),(19,.e (iP a.length)),(18,.e (gW a)),(5,.own 17),(1,.e (gW b))],[(17,.row false 96 (a.length+b.length) 1 (pN ((na (a.getD x 0) x b (lh a b x) k).1)))]⟩
def ahx(a b:List Nat)(ha:iE a)(hb:iE b)(h1:a.length<=3000)(h2:b.length<=3000):gR 158 [gW a,gW b] (gW (lh a b a.length)):=
 an call158 func158 (ae [ik ((a.length:Int)+b.length) aC,.a (aC:0<=(((a.length:Int)+b.length):Int)/\(((a.length:Int)+b.length):Int)<=(((a.length:Int)+b.length):Int)),.a (aC:((4:Nat):Int)*((a.length:Int)+b.length)<=281474976710656/\(((a.length:Int)+b.length):Int)<=9223372036854775807),.s (Sp.jH (V3 a b) 0 a.length aC (λx hx mw=>by
    have f1:=ha.getD x;have so:=Gc ha hb x aC;have g1:=so.len;have g2:=(Ga f1 hb so.ok (i:=x) aC b.length aC).len;have g3:=(Ga f1 hb so.ok (i:=x) aC b.length aC).lt;exact iB (ae [tT 21 ((x:Int)<a.length) aC,iX (x:Int) (a.length) aC,.s (Sp.jH (V4 a b x) 0 b.length aC (λk hk Jf=>by
    have f2:=hb.getD k;have q:=Ga f1 hb so.ok (i:=x) aC k aC;have f3:=q.ok.getD (x+k);have f4:=q.lt;have f5:=q.len;have f6:=V7 f1 f2;exact iB (ae [tT 28 ((k:Int)<b.length) aC,iX (k:Int) (b.length) aC,.o 33 (.int (ss _ aC):aj (.v (.int .u64 (IntKind.u64.wrap (a.getD x 0:Int)))) (.v (.int .u64 (a.getD x 0:Int)))),.o 35 (.int (ss _ aC):aj (.v (.int .u64 (IntKind.u64.wrap (b.getD k 0:Int)))) (.v (.int .u64 (b.getD k 0:Int)))),
     CL ((a.getD x 0:Int)*(b.getD k 0:Int)) aC,ik ((x:Int)+k) aC,iX ((x+k:Nat):Int) (a.length+b.length) aC,.a (aC:(x+k)<(a.length+b.length)),.o 43 (.int (ss _ aC):aj (.v (.int .u64 (IntKind.u64.wrap ((((na (a.getD x 0) x b (lh a b x) k).1).getD (x+k) 0:Nat):Int)))) (.v (.int .u64 ((((na (a.getD x 0) x b (lh a b x) k).1).getD (x+k) 0:Nat):Int)))),
     CL ((((a.getD x 0)*(b.getD k 0):Nat):Int)+((((na (a.getD x 0) x b (lh a b x) k).1).getD (x+k) 0:Nat):Int)) aC,
     CL (((((a.getD x 0)*(b.getD k 0))+(((na (a.getD x 0) x b (lh a b x) k).1).getD (x+k) 0):Nat):Int)+(((na (a.getD x 0) x b (lh a b x) k).2:Nat):Int)) aC,
     ik ((x:Int)+k) aC,.o 52 (.int (Em _):aj (.v (.int .u32 (IntKind.u32.wrap (((((a.getD x 0)*(b.getD k 0))+(((na (a.getD x 0) x b (lh a b x) k).1).getD (x+k) 0))+(na (a.getD x 0) x b (lh a b x) k).2:Nat):Int)))) (.v (.int .u32 ((((((a.getD x 0)*(b.getD k 0))+(((na (a.getD x 0) x b (lh a b x) k).1).getD (x+k) 0))+(na (a.getD x 0) x b (lh a b x) k).2)%4294967296:Nat):Int)))),.a (aC:0<=(32:Int)/\(32:Int)<=((64:Nat):Int)),.o 54 (.int (Ye _):aj (.v (.int .u64 ((((((a.getD x 0)*(b.getD k 0))+(((na (a.getD x 0) x b (lh a b x) k).1).getD (x+k) 0))+(na (a.getD x 0) x b (lh a b x) k).2:Nat):Int)/2^32))) (.v (.int .u64 ((((((a.getD x 0)*(b.getD k 0))+(((na (a.getD x 0) x b (lh a b x) k).1).getD (x+k) 0))+(na (a.getD x 0) x b (lh a b x) k).2)/4294967296:Nat):Int)))),
     iX ((x+k:Nat):Int) (a.length+b.length) aC,.a (aC:(x+k)<(a.length+b.length)),ik ((k:Int)+1) aC]<|.e (af [.o 8 (.int aO:aj (.v (.int .u64 ((((((a.getD x 0)*(b.getD k 0))+(((na (a.getD x 0) x b (lh a b x) k).1).getD (x+k) 0))+(na (a.getD x 0) x b (lh a b x) k).2)/4294967296:Nat):Int))) (.v (.int .u64 (((na (a.getD x 0) x b (lh a b x) (k+1)).2:Nat):Int)))),.b 17 (O3 rfl aC:Bx.le (.row false 96 (a.length+b.length) 1 (λi' j'=>if i'=(x+k)/\0<=j'/\j'<0+1 then[.v (.int .u32 ((((((a.getD x 0)*(b.getD k 0))+(((na (a.getD x 0) x b (lh a b x) k).1).getD (x+k) 0))+(na (a.getD x 0) x b (lh a b x) k).2)%4294967296:Nat):Int))].getD (j'-0) .any else(pN ((na (a.getD x 0) x b (lh a b x) k).1)) i' j')) (.row false 96 (a.length+b.length) 1 (pN ((na (a.getD x 0) x b (lh a b x) (k+1)).1))))])) aF)
  (λhk=>by
    exact iB (af [tF 28 ((b.length:Int)<b.length) aC]) aF) aI:jD 7 f158 (V4 a b x 0) (.exit 2) ⟨67,false,[(8,.e (.v (.int .u64 (((na (a.getD x 0) x b (lh a b x) b.length).2:Nat):Int)))),(6,.e (iP x)),(20,.e (iP x)),(19,.e (iP a.length)),(18,.e (gW a)),(5,.own 17),(1,.e (gW b))],[(17,.row false 96 (a.length+b.length) 1 (pN ((na (a.getD x 0) x b (lh a b x) b.length).1)))]⟩) (af [.o 8 (.int aO:aj (.v (.int .u64 0)) (.v (.int .u64 (((na (a.getD x 0) x b (lh a b x) 0).2:Nat):Int)))),.b 17 (.iM rfl:Bx.le (.row false 96 (a.length+b.length) 1 (pN (lh a b x))) (.row false 96 (a.length+b.length) 1 (pN ((na (a.getD x 0) x b (lh a b x) 0).1))))]),
     ik ((x:Int)+b.length) aC,.o 63 (.int (Em _):aj (.v (.int .u32 (IntKind.u32.wrap (((na (a.getD x 0) x b (lh a b x) b.length).2:Nat):Int)))) (.v (.int .u32 (((na (a.getD x 0) x b (lh a b x) b.length).2%4294967296:Nat):Int)))),
     iX ((x+b.length:Nat):Int) (a.length+b.length) aC,.a (aC:(x+b.length)<(a.length+b.length)),ik ((x:Int)+1) aC]<|.e (af [.b 17 (O3 rfl aC:Bx.le (.row false 96 (a.length+b.length) 1 (λi' j'=>if i'=(x+b.length)/\0<=j'/\j'<0+1 then[.v (.int .u32 (((na (a.getD x 0) x b (lh a b x) b.length).2%4294967296:Nat):Int))].getD (j'-0) .any else(pN ((na (a.getD x 0) x b (lh a b x) b.length).1)) i' j')) (.row false 96 (a.length+b.length) 1 (pN (lh a b (x+1)))))])) aF)
  (λhx=>by
    exact iB (af [tF 21 ((a.length:Int)<a.length) aC]) aF) aI:jD 3 f158 (V3 a b 0) (.exit 0) ⟨67,false,[(5,.own 17)],[(17,.row false 96 (a.length+b.length) 1 (pN (lh a b a.length)))]⟩) (af [.b 17 (Xt rfl (λi=>by simp[lh,bd,eF];split<;>rfl):Bx.le (.row false 96 (a.length+b.length) 1 (λ_ j_=>[.v (.int .u32 0)].getD j_ .any)) (.row false 96 (a.length+b.length) 1 (pN (lh a b 0))))])]<|rR (gW (lh a b a.length)) (Yl (by rw[(Gc ha hb a.length aC).len]):E.le (.sl false (a.length+b.length) 1 (pN (lh a b a.length))) (gW (lh a b a.length)))) 
def N7(L:List Nat)(h:L.length<=256):gR 144 [gW L] (bP false):=
 ak call144 func144 (af [tF 5 (256<(L.length:Int)) aC]) 
def ahw(L:List Nat)(h1:L.length<=256):gR 93 [(.sl true 1 1 λi_ j_=>[gW L].getD (i_*1+j_) (.v (.bool false)))] (bP false):=
 ak call93 func93 (af [.c (Vy true 1 _ 144 [] (λ_=>false) (λi hi=>(match i,hi with|0,_=>N7 _ h1|n+1,hi=>absurd hi aC)) aC (λ_ _=>rfl):gR 143 [(.sl true 1 1 λi_ j_=>[gW L].getD (i_*1+j_) (.v (.bool false))),.fn 144 []] _)]) 
def Wl(L:List Nat)(M:List Nat)(h1:L.length<=256)(h2:M.length<=256):gR 93 [(.sl true 2 1 λi_ j_=>[gW L,gW M].getD (i_*1+j_) (.v (.bool false)))] (bP false):=
 ak call93 func93 (af [.c (Vy true 2 _ 144 [] (λ_=>false) (λi hi=>(match i,hi with|0,_=>N7 _ h1|1,_=>N7 _ h2|n+2,hi=>absurd hi aC)) aC (λ_ _=>rfl):gR 143 [(.sl true 2 1 λi_ j_=>[gW L,gW M].getD (i_*1+j_) (.v (.bool false))),.fn 144 []] _)]) 
def ahy(L M:List Nat)(hL:iE L)(hM:iE M)(h1:L.length<=256)(h2:M.length<=256)(hf:(gS (val L*val M)).length<=256):gR 115 [gW L,gW M] (.ig [gW (gS (val L*val M)),iP 0]):=by
 have ka:=hL.iA;have kb:=hM.iA;have ta:=pq L;have tb:=pq M;unfold mz at ta tb;have km:=(Gc ka kb _ (bc _)).ok;have he:iA (lh (iA L) (iA M) (iA L).length)=gS (val L*val M):=by rw[sr km,alE ka kb,pQ,pQ]
 have hd:(iA (lh (iA L) (iA M) (iA L).length)).length<=256:=by rw[he];exact hf
 exact ak call115 func115 (ae [.c (Wl L M aD aD),ag [gW L] (ui _ hL),ag [gW M] (ui _ hM),ag [gW (iA L),gW (iA M)] (ahx _ _ ka kb aC aC),ag [gW (lh (iA L) (iA M) (iA L).length)] (Wk _ km hd)]<|rQ (.ig [gW (iA (lh (iA L) (iA M) (iA L).length)),iP 0]) (.ig [gW (gS (val L*val M)),iP 0]) (by rw[he])) 
def xV(m n:Nat)(h1:(gS m).length<=256)(h2:(gS n).length<=256)(hf:(gS (m*n)).length<=256):gR 115 [gW (gS m),gW (gS n)] (.ig [gW (gS (m*n)),iP 0]):=by
 have:=ahy (gS m) (gS n) (mH m) (mH n) h1 h2 (by rw[kf,kf];exact hf);rwa[kf,kf]at this
def wm(m n:Nat)(h1:(gS m).length<=256)(h2:n<=65536)(h3:(gS (m*2^n)).length<=256):gR 213 [gW (gS m),iP n] (gW (gS (m*2^n))):=
 ak call213 func213 (af [ag [gW (gS m),iP n] (Wn _ _ aC aC aC)]) 
def ON(m n:Nat)(h1:(gS m).length<=256)(h2:n<=65536):gR 247 [gW (gS m),iP n] (.ig [gW (gS (m/2^n)),bP (decide (m%2^n≠0))]):=by
 have hb:=EI h1;have hq:(gS (m/2^n)).length<=256:=ph (by have:=wF (bT m (2^n));omega);have ua:(gS (m/2^n*2^n)).length<=256:=ph (by have:=wF (cU m (2^n));omega);have hr:(gS (m/2^ia m)).length<=256:=ph (by have:=wF (bT m (2^ia m));omega);have nu:(gS (m/2^ia m*2^ia m)).length<=256:=ph (by have:=wF (cU m (2^ia m));omega);by_cases hn:ia m<n
 .have q1:=RU (du hn);have q2:=RU (bc (ia m));exact ak call247 func247 (ae [ag [gW (gS m)] (sj _ aC),tT 11 ((ia m:Int)<n) aC,ag [gW (gS m)] (sj _ aC),ag [gW (gS m),iP (ia m:Int)] (JP _ _ aC aC),.c (wm (m/2^(ia m)) (ia m) aC aC aC),ag [gW (gS ((m/2^(ia m))*2^(ia m))),gW (gS m)] (y9 _ _ aC aC)]<|rQ (.ig [gW (gS (m/2^(ia m))),bP ((ky ((m/2^(ia m))*2^(ia m)) m) != 0)]) (.ig [gW (gS (m/2^n)),bP (decide (m%2^n≠0))]) (by rw[VI,q1.1,q1.2,q2.1,q2.2])) 
 .exact ak call247 func247 (ae [ag [gW (gS m)] (sj _ aC),tF 11 ((ia m:Int)<n) aC,ag [gW (gS m),iP n] (JP _ _ aC aC),.c (wm (m/2^n) n aC aC aC),ag [gW (gS ((m/2^n)*2^n)),gW (gS m)] (y9 _ _ aC aC)]<|rQ (.ig [gW (gS (m/2^n)),bP ((ky ((m/2^n)*2^n) m) != 0)]) (.ig [gW (gS (m/2^n)),bP (decide (m%2^n≠0))]) (by rw[VI])) 
abbrev PA:E:=.sl false 1 1 λi_ j_=>[.v (.int .u32 1)].getD (i_*1+j_) (.v (.bool false))
abbrev KG(p):=gW (gS (0*2^((0-(iY 0 0 p)).toNat)))
def oc(m:Nat)(e:Int)(p:Nat):Nat:=if iY m e p<=e then m*2^(e-iY m e p).toNat else m/2^(iY m e p-e).toNat
def r8(m:Nat)(e:Int)(more:Bool)(p:Nat):Bool:=if iY m e p<=e then more else(more||decide (m%2^(iY m e p-e).toNat≠0))
def acA(m:Nat)(e:Int)(more:Bool)(p:Nat):nK m e more p false=oc m e p:=by unfold nK oc;simp
def Ly{m:Nat}{e:Int}{more:Bool}{p:Nat}(hm:more=true->p<ia m):nK m e more p true=oc m e p+if r8 m e more p=true then 1 else 0:=by
 unfold nK oc r8;by_cases hU:iY m e p<=e
 .have hmo:more=false:=by
   cases MW:more with
   |false=>rfl
   |true=>have:=hm MW;unfold iY at hU;omega
  simp[hU,hmo]
 .simp [hU]
def aiC(m:Nat)(e:Int)(more up:Bool)(p:Nat)(h1:(gS m).length<=256)(h0:m≠0)(ic:8<=p)(gX:p<=512)(mn:-45000<=e)(lk:e<=45000)(hm:more=true->p<ia m):gR 237 [.agg [gW (gS m),iP e,bP more],iP (p:Int),bP up] (.ig [gV (jY false m e more p up),iP (jN false m e more p up)]):=by
 have Ur:=RG (e:=e) true h0 hm (aC:1<=p);have vV:=RG (e:=e) false h0 hm (aC:1<=p);have hb:=EI h1;have I1:=nR h0;have hqb:=RF (e:=e) (more:=more) (p:=p) (up:=true) h0;have hqa:=RF (e:=e) (more:=more) (p:=p) (up:=false) h0;rw[acA]at vV hqa;have hu1:-16384<=(iY m e p):=by unfold iY;omega
 have hu2:(iY m e p)<=60000:=by unfold iY;omega
 have hu3:(iY m e p)<=max (e+8192) (-16384):=by unfold iY;omega
 have fa:(gS (oc m e p)).length<=256:=ph aC;have fb:(gS (nK m e more p true)).length<=256:=ph aC;have f1:(gS 1).length<=256:=ph aE;cases up with
 |true=>
  exact ak call237 func237 (ae [ag [gW (gS m)] (sj _ aC),ik (e+(ia m:Int)) aC,ik ((e+(ia m:Int))-(p:Int)) aC,.o 21 (aq (if(-16384)>((e+(ia m:Int))-(p:Int))then(-16384)else((e+(ia m:Int))-(p:Int))) (iY m e p) (by unfold iY;split<;>omega)),.j 58 ⟨84,true,[(9,.e (gW (gS (oc m e p)))),(10,.e (bP (r8 m e more p))),(8,.e (iP (iY m e p))),(6,.box 6 0),(1,.e (iP p)),(2,.e (bP true))],[(6,.cells 31 ar)]⟩
   (.w ((iY m e p)<=e)
    (λm1=>by
     have fx:(gS (m*2^(e-(iY m e p)).toNat)).length<=256:=by have:=fa;rwa[show oc m e p=_ from aZ m1]at this
     exact ae [.v 29 (.bool (a6 m1)),ik (e-(iY m e p)) aC,.o 35 (aq (e-(iY m e p)) ((e-(iY m e p)).toNat:Int) aC),.c (wm m ((e-(iY m e p)).toNat:Nat) aC aC aC)]<|.e (af [.o 9 (.e (.iM (by rw[show oc m e p=_ from aZ m1])):aj (gW (gS (m*2^((e-(iY m e p)).toNat)))) (gW (gS (oc m e p)))),tB 10 (by simp[r8,m1]:more=(r8 m e more p))]))
    (λm1=>ae [.v 29 (.bool (a7 m1)),ik ((iY m e p)-e) aC,.o 43 (aq ((iY m e p)-e) (((iY m e p)-e).toNat:Int) aC),.c (ON m (((iY m e p)-e).toNat:Nat) aC aC)]<|.w (more=true)
     (λm2=>ae [tB 48 m2]<|.e (af [.o 9 (.e (.iM (by rw[show oc m e p=_ from aY m1])):aj (gW (gS (m/2^(((iY m e p)-e).toNat)))) (gW (gS (oc m e p)))),tB 10 (by simp[r8,m1,m2]:true=(r8 m e more p))]))
     (λm2=>ae [tB 48 (aV m2)]<|.e (af [.o 9 (.e (.iM (by rw[show oc m e p=_ from aY m1])):aj (gW (gS (m/2^(((iY m e p)-e).toNat)))) (gW (gS (oc m e p)))),tB 10 (by simp[r8,m1,m2]:(decide (m%2^(((iY m e p)-e).toNat)≠0))=(r8 m e more p))])))),.j 110 ⟨84,true,[(9,.e (gW (gS (nK m e more p true)))),(8,.e (iP (iY m e p))),(6,.box 6 0),(1,.e (iP p)),(2,.e (bP true))],[(6,.cells 31 ar)]⟩
   (.w (r8 m e more p=true)
    (λm1=>by
     have fx:(gS (oc m e p+1)).length<=256:=by have:=fb;rwa[Ly hm,aZ m1]at this
     exact ae [.v 55 (.bool m1),.o 58 (.e w8:aj PA (gW (gS 1))),ag [gW (gS (oc m e p)),gW (gS 1)] (JO _ _ aC aC aC)]<|.e (af [.o 9 (.e (.iM (by rw[Ly hm,aZ m1])):aj (gW (gS ((oc m e p)+1))) (gW (gS (nK m e more p true))))]))
    (λm1=>ae [.v 55 (.bool (aV m1))]<|.e (af [.o 9 (.e (.iM (by rw[Ly hm,aY m1,bS])):aj (gW (gS (oc m e p))) (gW (gS (nK m e more p true))))]))),ag [gW (gS (nK m e more p true))] (sj _ aC),ik ((ia (nK m e more p true):Int)+(iY m e p)) aC]<|.w (16384<((ia (nK m e more p true):Int)+(iY m e p)))
   (λk1=>by
    have w1:=(Ur.resolve_left (λh=>absurd k1 aC)).2.resolve_right (λh=>absurd h.1 aE);exact ae [tB 66 (a6 k1),.o 68 (.e qN:aj (.agg ar) (gV iq))]<|rQ (.ig [gV iq,iP 9]) (.ig [gV (jY false m e more p true),iP (jN false m e more p true)]) (by rw[w1.2.1,w1.2.2]))
   (λk1=>by
    have w1:=Ur.resolve_right (λh=>k1 h.1);have hd:mB (canon false (nK m e more p true) (iY m e p)):=by rw[<-w1.2.1];exact(sZ false m e more p true aC aC).range
    exact ae [tB 66 (a7 k1),ag [bP false,gW (gS (nK m e more p true)),iP (iY m e p)] (xA _ _ _ aC aC aC aD)]<|rQ (.ig [gV (canon false (nK m e more p true) (iY m e p)),iP 0]) (.ig [gV (jY false m e more p true),iP (jN false m e more p true)]) (by rw[w1.2.1,w1.2.2]))) 
 |false=>
  exact ak call237 func237 (ae [ag [gW (gS m)] (sj _ aC),ik (e+(ia m:Int)) aC,ik ((e+(ia m:Int))-(p:Int)) aC,.o 21 (aq (if(-16384)>((e+(ia m:Int))-(p:Int))then(-16384)else((e+(ia m:Int))-(p:Int))) (iY m e p) (by unfold iY;split<;>omega)),.j 58 ⟨84,true,[(9,.e (gW (gS (oc m e p)))),(10,.e (bP (r8 m e more p))),(8,.e (iP (iY m e p))),(6,.box 6 0),(1,.e (iP p)),(2,.e (bP false))],[(6,.cells 31 ar)]⟩
   (.w ((iY m e p)<=e)
    (λm1=>by
     have fx:(gS (m*2^(e-(iY m e p)).toNat)).length<=256:=by have:=fa;rwa[show oc m e p=_ from aZ m1]at this
     exact ae [.v 29 (.bool (a6 m1)),ik (e-(iY m e p)) aC,.o 35 (aq (e-(iY m e p)) ((e-(iY m e p)).toNat:Int) aC),.c (wm m ((e-(iY m e p)).toNat:Nat) aC aC aC)]<|.e (af [.o 9 (.e (.iM (by rw[show oc m e p=_ from aZ m1])):aj (gW (gS (m*2^((e-(iY m e p)).toNat)))) (gW (gS (oc m e p)))),tB 10 (by simp[r8,m1]:more=(r8 m e more p))]))
    (λm1=>ae [.v 29 (.bool (a7 m1)),ik ((iY m e p)-e) aC,.o 43 (aq ((iY m e p)-e) (((iY m e p)-e).toNat:Int) aC),.c (ON m (((iY m e p)-e).toNat:Nat) aC aC)]<|.w (more=true)
     (λm2=>ae [tB 48 m2]<|.e (af [.o 9 (.e (.iM (by rw[show oc m e p=_ from aY m1])):aj (gW (gS (m/2^(((iY m e p)-e).toNat)))) (gW (gS (oc m e p)))),tB 10 (by simp[r8,m1,m2]:true=(r8 m e more p))]))
     (λm2=>ae [tB 48 (aV m2)]<|.e (af [.o 9 (.e (.iM (by rw[show oc m e p=_ from aY m1])):aj (gW (gS (m/2^(((iY m e p)-e).toNat)))) (gW (gS (oc m e p)))),tB 10 (by simp[r8,m1,m2]:(decide (m%2^(((iY m e p)-e).toNat)≠0))=(r8 m e more p))])))),ag [gW (gS (oc m e p))] (sj _ aC),ik ((ia (oc m e p):Int)+(iY m e p)) aC]<|.w (16384<((ia (oc m e p):Int)+(iY m e p)))
   (λk1=>by
    have w1:=(vV.resolve_left (λh=>absurd k1 aC)).2.resolve_left (λh=>absurd h.1 aE);have hd:mB (canon false ((1*2^p)-1) (16384-(p:Int))):=by rw[bU,<-w1.2.1];exact(sZ false m e more p false aC aC).range
    have g0:ia (1*2^p)=p+1:=by rw[bU];exact yr (bc _) (gz aE aC)
    have g1:(gS 1).length<=256:=ph aE;have g2:(gS (1*2^p)).length<=256:=ph aC;have g4:1<=1*2^p:=by rw[bU];exact bj aE 
    have g3:(gS ((1*2^p)-1)).length<=256:=ph (by have:=wF (eE (1*2^p) 1);omega);exact ae [tB 66 (a6 k1),.o 70 (.e w8:aj PA (gW (gS 1))),.c (wm 1 p aC aC aC),.o 73 (.e w8:aj PA (gW (gS 1))),ag [gW (gS (1*2^p)),gW (gS 1)] (Gl _ _ aC aC aC),ik (16384-(p:Int)) aC,ag [bP false,gW (gS ((1*2^p)-1)),iP (16384-(p:Int))] (xA _ _ _ aC aC aC aD)]<|rQ (.ig [gV (canon false ((1*2^p)-1) (16384-(p:Int))),iP 0]) (.ig [gV (jY false m e more p false),iP (jN false m e more p false)]) (by rw[w1.2.1,w1.2.2,bU]))
   (λk1=>by
    have w1:=vV.resolve_right (λh=>k1 h.1);have hd:mB (canon false (oc m e p) (iY m e p)):=by rw[<-w1.2.1];exact(sZ false m e more p false aC aC).range
    exact ae [tB 66 (a7 k1),ag [bP false,gW (gS (oc m e p)),iP (iY m e p)] (xA _ _ _ aC aC aC aD)]<|rQ (.ig [gV (canon false (oc m e p) (iY m e p)),iP 0]) (.ig [gV (jY false m e more p false),iP (jN false m e more p false)]) (by rw[w1.2.1,w1.2.2]))) 
def aiD(up:Bool)(p:Nat)(ic:8<=p)(gX:p<=512):gR 237 [.agg [gW (gS 0),iP 0,bP false],iP (p:Int),bP up] (.ig [gV (jY false 0 0 false p up),iP (jN false 0 0 false p up)]):=by
 have hU:iY 0 0 p = -(p:Int):=by unfold iY;rw[rO];omega
 have hK:jL 0 0 p=0:=by unfold jL;rw[rO];omega
 have hQ:kV 0 0 false p up=0:=by unfold kV;rw[hK];simp
 have hO:mg 0 0 false p up=false:=by unfold mg;rw[hQ];simp
 have py:(false != up)=up:=by cases up<;>rfl
 have k2:jY false 0 0 false p up=iq:=by unfold jY;rw[py,hO,aY aE,hQ];rfl
 have k3:jN false 0 0 false p up=0:=by unfold jN;rw[py,hO];rfl
 have lz:ia 0=0:=rfl;have l0:(gS 0).length<=256:=by rw[nU];decide
 have l1:(gS (0*2^(0-iY 0 0 p).toNat)).length<=256:=by rw[cD];exact l0
 have lb:ia (0*2^(0-iY 0 0 p).toNat)=0:=by rw[cD];rfl
 have hd:mB (canon false (0*2^(0-iY 0 0 p).toNat) (iY 0 0 p)):=by rw[cD];exact .inl rfl
 by_cases Uy:up=true
 .exact ak call237 func237 (ae [ag [gW (gS 0)] (sj _ aC),ik (0+(ia 0:Int)) aC,ik ((0+(ia 0:Int))-(p:Int)) aC,.o 21 (aq (if(-16384)>((0+(ia 0:Int))-(p:Int))then(-16384)else((0+(ia 0:Int))-(p:Int))) (iY 0 0 p) (by unfold iY;rw[rO];split<;>omega)),tT 29 ((iY 0 0 p)<=0) aC,ik (0-(iY 0 0 p)) aC,.o 35 (aq (0-(iY 0 0 p)) ((0-(iY 0 0 p)).toNat:Int) aC),.c (wm 0 ((0-(iY 0 0 p)).toNat:Nat) aC aC aC),ah 52 up Uy,ag [KG p] (sj _ aC),
   ik ((ia (0*2^((0-(iY 0 0 p)).toNat)):Int)+(iY 0 0 p)) aC,tF 66 (16384<((ia (0*2^((0-(iY 0 0 p)).toNat)):Int)+(iY 0 0 p))) aC,ag [bP false,KG p,iP (iY 0 0 p)] (xA _ _ _ aC aC aC aD)]<|rQ (.ig [gV (canon false (0*2^((0-(iY 0 0 p)).toNat)) (iY 0 0 p)),iP 0]) (.ig [gV (jY false 0 0 false p up),iP (jN false 0 0 false p up)]) (by rw[k2,k3,cD];rfl)) 
 .exact ak call237 func237 (ae [ag [gW (gS 0)] (sj _ aC),ik (0+(ia 0:Int)) aC,ik ((0+(ia 0:Int))-(p:Int)) aC,.o 21 (aq (if(-16384)>((0+(ia 0:Int))-(p:Int))then(-16384)else((0+(ia 0:Int))-(p:Int))) (iY 0 0 p) (by unfold iY;rw[rO];split<;>omega)),tT 29 ((iY 0 0 p)<=0) aC,ik (0-(iY 0 0 p)) aC,.o 35 (aq (0-(iY 0 0 p)) ((0-(iY 0 0 p)).toNat:Int) aC),.c (wm 0 ((0-(iY 0 0 p)).toNat:Nat) aC aC aC),ai 52 up (by simpa using Uy),ag [KG p] (sj _ aC),
   ik ((ia (0*2^((0-(iY 0 0 p)).toNat)):Int)+(iY 0 0 p)) aC,tF 66 (16384<((ia (0*2^((0-(iY 0 0 p)).toNat)):Int)+(iY 0 0 p))) aC,ag [bP false,KG p,iP (iY 0 0 p)] (xA _ _ _ aC aC aC aD)]<|rQ (.ig [gV (canon false (0*2^((0-(iY 0 0 p)).toNat)) (iY 0 0 p)),iP 0]) (.ig [gV (jY false 0 0 false p up),iP (jN false 0 0 false p up)]) (by rw[k2,k3,cD];rfl)) 
def Ea(m:Nat)(e:Int)(more up:Bool)(p:Nat)(h1:(gS m).length<=256)(h0:m≠0\/m=0/\e=0/\more=false)(ic:8<=p)(gX:p<=512)(mn:-45000<=e)(lk:e<=45000)(hm:more=true->p<ia m):gR 237 [.agg [gW (gS m),iP e,bP more],iP (p:Int),bP up] (.ig [gV (jY false m e more p up),iP (jN false m e more p up)]):=by
 rcases h0 with h0|⟨rfl,rfl,rfl⟩
 .exact aiC m e more up p h1 h0 ic gX mn lk hm
 .exact aiD up p ic gX
def mI(p:Int):Bool:=decide (8<=p)&&decide (p<=512)
def rY{p:Int}:mI p=true↔8<=p/\p<=512:=by simp[mI]
def vZ(p:Int):gR 122 [iP p] (bP (mI p)):=by
 by_cases h:8<=p
 .exact ak call122 func122 (ae [tB 4 (a6 h)]<|rQ (bP (decide (p<=512))) (bP (mI p)) (by simp[mI,h])) 
 .exact ak call122 func122 (ae [tB 4 (a7 h)]<|rQ (bP false) (bP (mI p)) (by simp[mI,h])) 
def aiF(p:Int):gR 235 [iP p] (bP (mI p)):=by
 by_cases h:8<=p
 .exact ak call235 func235 (ae [tB 4 (a6 h)]<|rQ (bP (decide (p<=512))) (bP (mI p)) (by simp[mI,h])) 
 .exact ak call235 func235 (ae [tB 4 (a7 h)]<|rQ (bP false) (bP (mI p)) (by simp[mI,h])) 
def Xb(l:List Dy)(p:Nat)(i:Nat):PS:=⟨20,true,[(9,.e (iP i)),(8,.e (iP l.length)),(7,.e (kg l)),(0,.e (iP p))],[]⟩
def GC(neg:Bool)(m:Nat)(e:Int)(more up:Bool)(p:Nat)(h1:(gS m).length<=256)(h0:m≠0\/m=0/\e=0/\more=false)(ic:8<=p)(gX:p<=512)(mn:-45000<=e)(lk:e<=45000)(hm:more=true->p<ia m):gR 214 [bP neg,.agg [gW (gS m),iP e,bP more],iP p,bP up] (.ig [gV (jY neg m e more p up),iP (jN neg m e more p up)]):=by
 cases neg with
 |true=>
  have hs:=RL true m e more p up;change _/\(jN false m e more p (!(up==true))=0->_->jo (jY false m e more p (!(up==true)))=_)/\((jN false m e more p (!(up==true))≠0\/_)->jY false m e more p (!(up==true))=_)at hs;have hE:jN true m e more p up=jN false m e more p (!(up==true)):=hs.1;have hv:=sZ false m e more p (!(up==true)) (aC:1<=p) aC;by_cases hz:jN false m e more p (!(up==true))=0
  .exact ak call214 func214 (ae [ag [.agg [gW (gS m),iP e,bP more],iP p,bP (!(up==true))] (Ea _ _ _ _ _ aC aD aC aC aC aC aD),ah 22 ((jN false m e more p (!(up==true)))==0) (by rw[hz];rfl),ag [gV (jY false m e more p (!(up==true)))] (yB _ aD)]<|rQ (.ig [gV (jo (jY false m e more p (!(up==true)))),iP (jN false m e more p (!(up==true)))]) (.ig [gV (jY true m e more p up),iP (jN true m e more p up)]) (by rw[hs.2.1 hz rfl,hE])) 
  .exact ak call214 func214 (ae [ag [.agg [gW (gS m),iP e,bP more],iP p,bP (!(up==true))] (Ea _ _ _ _ _ aC aD aC aC aC aC aD),ai 22 ((jN false m e more p (!(up==true)))==0) (by simpa using hz)]<|rQ (.ig [gV (jY false m e more p (!(up==true))),iP (jN false m e more p (!(up==true)))]) (.ig [gV (jY true m e more p up),iP (jN true m e more p up)]) (by rw[hs.2.2 (.inl hz),hE])) 
 |false=>
  have hs:=RL false m e more p up;change _/\(jN false m e more p (!(up==false))=0->_->jo (jY false m e more p (!(up==false)))=_)/\((jN false m e more p (!(up==false))≠0\/_)->jY false m e more p (!(up==false))=_)at hs;have hE:jN false m e more p up=jN false m e more p (!(up==false)):=hs.1;have hv:=sZ false m e more p (!(up==false)) (aC:1<=p) aC;by_cases hz:jN false m e more p (!(up==false))=0
  .exact ak call214 func214 (ae [ag [.agg [gW (gS m),iP e,bP more],iP p,bP (!(up==false))] (Ea _ _ _ _ _ aC aD aC aC aC aC aD),ah 22 ((jN false m e more p (!(up==false)))==0) (by rw[hz];rfl)]<|rQ (.ig [gV (jY false m e more p (!(up==false))),iP (jN false m e more p (!(up==false)))]) (.ig [gV (jY false m e more p up),iP (jN false m e more p up)]) (by rw[hs.2.2 (.inr rfl),hE])) 
  .exact ak call214 func214 (ae [ag [.agg [gW (gS m),iP e,bP more],iP p,bP (!(up==false))] (Ea _ _ _ _ _ aC aD aC aC aC aC aD),ai 22 ((jN false m e more p (!(up==false)))==0) (by simpa using hz)]<|rQ (.ig [gV (jY false m e more p (!(up==false))),iP (jN false m e more p (!(up==false)))]) (.ig [gV (jY false m e more p up),iP (jN false m e more p up)]) (by rw[hs.2.2 (.inl hz),hE])) 
def aiE(d:Dy):gR 246 [gV d] (.agg [gW (gS d.m),iP d.e,bP false]):=
 ak call246 func246 (.nil) 
def Xc(p:Nat)(l:List Dy)(hl:l.length<=1000)(hv:∀ i,i<l.length->(l.getD i iq).gY)(ic:8<=p)(gX:p<=512):gR 211 [iP p,kg l] (iP 0):=
 ak call211 func211 (af [.s (Sp.jH (Xb l p) 0 l.length aC (λi hi oR=>by
    have UB:=hv i oR;exact iB (af [tT 10 ((i:Int)<l.length) aC,iX (i:Int) (l.length) aC,ag [gV (l.getD i iq)] (ng _ aD),ik ((i:Int)+1) aC]) aF)
  (λhi=>by
    exact iB (af [tF 10 ((l.length:Int)<l.length) aC]) aF) aI:jD 2 f211 (Xb l p 0) (.exit 0) ⟨20,true,[(0,.e (iP p))],[]⟩) .nil,ag [iP p] (aiF _),ah 18 (mI (p:Int)) (rY.2 ⟨aC,aC⟩)]) 
def OL(p:Nat)(a:Dy)(ha:a.gY)(ic:8<=p)(gX:p<=512):gR 211 [iP (p:Int),kg [a]] (iP 0):=
 Xc p [a] aH (λi hi=>(match i,hi with
  | 0,_=>ha
  |n+1,hi=>absurd hi aH)) ic gX
def xd(p:Nat)(a b:Dy)(ha:a.gY)(hb:b.gY)(ic:8<=p)(gX:p<=512):gR 211 [iP (p:Int),kg [a,b]] (iP 0):=
 Xc p [a,b] aH (λi hi=>(match i,hi with
  | 0,_=>ha
  | 1,_=>hb
  |n+2,hi=>absurd hi aH)) ic gX
def Kb(d:Dy)(p:Nat)(up:Bool)(hd:d.gY)(ic:8<=p)(gX:p<=512):gR 223 [gV d,iP p,bP up] (.ig [gV (jZ d p up),iP (jO d p up)]):=by
 have hl:=hd.gS;have hz:d.m≠0\/d.m=0/\d.e=0/\false=false:=by
  by_cases h:d.m=0
  .rcases hd.canon with q|q
   .exact .inr ⟨h,q.2.2,rfl⟩
   .omega
  .exact .inl h
 have AE:-45000<=d.e:=by have:=hd.exp;omega
 have tl:d.e<=45000:=by have:=hd.exp;omega
 have hm:false=true->p<ia d.m:=λh=>by cases h
 exact ak call223 func223 (af [.o 11 (.e (E4 _):aj (.sl true 1 3 λi_ j_=>(iu d).getD (i_*3+j_) (.v (.bool false))) (kg [d])),ag [iP p,kg [d]] (OL _ _ aD aC aC),ai 14 ((0:Int) != 0) aE,.c (aiE d),.c (GC d.neg d.m d.e false up p aC aD aC aC aC aC aD)]) 
def Dh{a b:Nat}:ky a b<0↔a<b:=by
 unfold ky;split
 .simp_all
 .split<;>simp_all
def Kd(a b:Dy)(p:Nat)(ha:a.gY)(hb:b.gY)(a0:a.m≠0)(b0:b.m≠0)(ht:b.ij<=a.ij)(ic:8<=p)(gX:p<=512):gR 224 [gV a,gV b,iP p] (.ig [.agg [gW (gS (lR a b p)),iP (jb a b p),bP (ni a b p)],bP (pn a b p)]):=by
 have sz:=Kx ha hb a0 b0 ht gX;have sp:=Pp ha hb a0 b0 ht gX;obtain⟨l1,l2,l3,l4,l5,l6,l7,l8,l9⟩:=sz;obtain⟨l10,l11,l12⟩:=sp;obtain⟨r1,r2,r3⟩:=OX a b p;have va:=ha.gS;have vb:=hb.gS;have xa:=ha.exp;have xb:=hb.exp;have ta:=GZ a0;have tb:=GZ b0;have ba:=EI va;have bb:=EI vb;have z1:(gS (a.m*2^((a.e-(jb a b p)).toNat))).length<=256:=ph (aC:ia (nO a b p)<=_);have zy:(gS (mK b (jb a b p))).length<=256:=ph aC;have z3:(gS (mJ a b p)).length<=256:=ph aC;have zm:(gS (lR a b p)).length<=256:=ph aC;have z5:(gS 1).length<=256:=ph aE;exact ak call224 func224 (ae [ag [gV a] (mQ _ aD),ik ((Dy.ij a)-(p:Int)) aC,ik (((Dy.ij a)-(p:Int))-8) aC,ag [gV a] (mQ _ aD),ag [gV b] (mQ _ aD),ik ((Dy.ij a)-(Dy.ij b)) aC,.j 62 ⟨109,true,[(8,.e (iP (jb a b p))),(6,.box 6 0),(4,.box 4 0),(3,.box 3 0)],[(6,.cells 174 [.v (.slice none 0 0),iP 0,bP false]),(4,.cells 31 (iu b)),(3,.cells 31 (iu a))]⟩
   (.w (((Dy.ij a)-(Dy.ij b))<=2)
    (λm1=>ae [.v 31 (.bool (a6 m1))]<|.e (af [.o 8 (aq (if b.e<(if(((Dy.ij a)-(p:Int))-8)<a.e then(((Dy.ij a)-(p:Int))-8)else a.e)then b.e else(if(((Dy.ij a)-(p:Int))-8)<a.e then(((Dy.ij a)-(p:Int))-8)else a.e)) (jb a b p) (by unfold jb;rw[aZ m1];split<;>split<;>omega))]))
    (λm1=>ae [.v 31 (.bool (a7 m1))]<|.e (af [.o 8 (aq (if(((Dy.ij a)-(p:Int))-8)<a.e then(((Dy.ij a)-(p:Int))-8)else a.e) (jb a b p) (by unfold jb;rw[aY m1];split<;>omega))]))),
  ik (a.e-(jb a b p)) aC,.o 41 (aq (a.e-(jb a b p)) ((a.e-(jb a b p)).toNat:Int) aC),.c (wm a.m ((a.e-(jb a b p)).toNat) aC aC aC),.j 92 ⟨109,true,[(10,.e (gW (gS (mK b (jb a b p))))),(11,.e (bP (ny b (jb a b p)))),(9,.e (gW (gS (a.m*2^((a.e-(jb a b p)).toNat))))),(8,.e (iP (jb a b p))),(6,.box 6 0),(4,.box 4 0),(3,.box 3 0)],[(6,.cells 174 [.v (.slice none 0 0),iP 0,bP false]),(4,.cells 31 (iu b)),(3,.cells 31 (iu a))]⟩
   (.w ((jb a b p)<=b.e)
    (λm1=>by
     have z2:(gS (b.m*2^((b.e-(jb a b p)).toNat))).length<=256:=by have:=zy;rwa[show mK b (jb a b p)=_ from aZ m1]at this
     exact ae [.v 46 (.bool (a6 m1)),ik (b.e-(jb a b p)) aC,.o 52 (aq (b.e-(jb a b p)) ((b.e-(jb a b p)).toNat:Int) aC),.c (wm b.m ((b.e-(jb a b p)).toNat) aC aC aC)]<|.e (af [.o 10 (.e (.iM (by rw[show mK b (jb a b p)=_ from aZ m1])):aj (gW (gS (b.m*2^((b.e-(jb a b p)).toNat)))) (gW (gS (mK b (jb a b p))))),tB 11 (by simp[ny,m1]:false=(ny b (jb a b p)))]))
    (λm1=>ae [.v 46 (.bool (a7 m1)),ik ((jb a b p)-b.e) aC,.o 60 (aq ((jb a b p)-b.e) (((jb a b p)-b.e).toNat:Int) aC),.c (ON b.m (((jb a b p)-b.e).toNat) aC aC)]<|.e (af [.o 10 (.e (.iM (by rw[show mK b (jb a b p)=_ from aY m1])):aj (gW (gS (b.m/2^(((jb a b p)-b.e).toNat)))) (gW (gS (mK b (jb a b p))))),tB 11 (by simp[ny,m1]:(decide (b.m%2^(((jb a b p)-b.e).toNat)≠0))=(ny b (jb a b p)))])))]<|.w (a.neg=b.neg)
  (λk1=>by
   have eT:pn a b p=false:=by unfold pn;simp[k1]
   have eY:mJ a b p=mK b (jb a b p):=by unfold mJ;simp[k1]
   have eM:lR a b p=nO a b p+mK b (jb a b p):=by unfold lR;rw[aZ k1,eY]
   have eS:ni a b p=ny b (jb a b p):=by unfold ni;rw[eT];simp
   have z4:(gS ((a.m*2^((a.e-(jb a b p)).toNat))+mK b (jb a b p))).length<=256:=by have:=zm;rwa[eM]at this
   exact ae [tB 68 (aU k1),ag [gW (gS (a.m*2^((a.e-(jb a b p)).toNat))),gW (gS (mK b (jb a b p)))] (JO _ _ aC aC aC)]<|rQ (.ig [.agg [gW (gS ((a.m*2^((a.e-(jb a b p)).toNat))+(mK b (jb a b p)))),iP (jb a b p),bP (ny b (jb a b p))],bP false]) (.ig [.agg [gW (gS (lR a b p)),iP (jb a b p),bP (ni a b p)],bP (pn a b p)]) (by rw[eM,eS,eT];rfl))
  (λk1=>ae [tB 68 (aT k1),.j 158 ⟨109,true,[(10,.e (gW (gS (mJ a b p)))),(11,.e (bP (ny b (jb a b p)))),(9,.e (gW (gS (a.m*2^((a.e-(jb a b p)).toNat))))),(8,.e (iP (jb a b p))),(6,.box 6 0)],[(6,.cells 174 [.v (.slice none 0 0),iP 0,bP false])]⟩
   (.w (ny b (jb a b p)=true)
    (λm1=>by
     have z6:(gS ((mK b (jb a b p))+1)).length<=256:=ph (by rw[show(mK b (jb a b p))+1=mJ a b p by(unfold mJ;simp[k1,m1])];omega);exact ae [.v 79 (.bool m1),.o 82 (.e w8:aj (.sl false 1 1 λi_ j_=>[.v (.int .u32 1)].getD (i_*1+j_) (.v (.bool false))) (gW (gS 1))),ag [gW (gS (mK b (jb a b p))),gW (gS 1)] (JO _ _ aC aC aC)]<|.e (af [.o 10 (.e (.iM (by unfold mJ;simp[k1,m1])):aj (gW (gS ((mK b (jb a b p))+1))) (gW (gS (mJ a b p))))]))
    (λm1=>ae [.v 79 (.bool (aV m1))]<|.e (af [.o 10 (.e (.iM (by unfold mJ;simp[k1,m1])):aj (gW (gS (mK b (jb a b p)))) (gW (gS (mJ a b p))))]))),ag [gW (gS (a.m*2^((a.e-(jb a b p)).toNat))),gW (gS (mJ a b p))] (y9 _ _ aC aC)]<|.w ((ky (a.m*2^((a.e-(jb a b p)).toNat)) (mJ a b p))<0)
   (λk2=>by
    have hc:nO a b p<mJ a b p:=Dh.1 k2;have eT:pn a b p=true:=by unfold pn;simp[k1,hc]
    have eM:lR a b p=mJ a b p-nO a b p:=by unfold lR;rw[aY k1,aZ hc]
    have eS:ni a b p=false:=by unfold ni;rw[eT];simp
    have z4:(gS (mJ a b p-(a.m*2^((a.e-(jb a b p)).toNat)))).length<=256:=by have:=zm;rwa[eM]at this
    have z7:(a.m*2^((a.e-(jb a b p)).toNat))<=mJ a b p:=du hc;exact ae [tB 89 (a6 k2),ag [gW (gS (mJ a b p)),gW (gS (a.m*2^((a.e-(jb a b p)).toNat)))] (Gl _ _ aC aC aC)]<|rQ (.ig [.agg [gW (gS ((mJ a b p)-(a.m*2^((a.e-(jb a b p)).toNat)))),iP (jb a b p),bP false],bP true]) (.ig [.agg [gW (gS (lR a b p)),iP (jb a b p),bP (ni a b p)],bP (pn a b p)]) (by rw[eM,eS,eT];rfl))
   (λk2=>by
    have hc:¬nO a b p<mJ a b p:=λh=>k2 (Dh.2 h)
    have eT:pn a b p=false:=by unfold pn;simp[hc]
    have eM:lR a b p=nO a b p-mJ a b p:=by unfold lR;rw[aY k1,aY hc]
    have eS:ni a b p=ny b (jb a b p):=by unfold ni;rw[eT];simp
    have z4:(gS ((a.m*2^((a.e-(jb a b p)).toNat))-mJ a b p)).length<=256:=by have:=zm;rwa[eM]at this
    have z7:mJ a b p<=(a.m*2^((a.e-(jb a b p)).toNat)):=Nat.le_of_not_lt hc;exact ae [tB 89 (a7 k2),ag [gW (gS (a.m*2^((a.e-(jb a b p)).toNat))),gW (gS (mJ a b p))] (Gl _ _ aC aC aC)]<|rQ (.ig [.agg [gW (gS ((a.m*2^((a.e-(jb a b p)).toNat))-(mJ a b p))),iP (jb a b p),bP (ny b (jb a b p))],bP false]) (.ig [.agg [gW (gS (lR a b p)),iP (jb a b p),bP (ni a b p)],bP (pn a b p)]) (by rw[eM,eS,eT];rfl)))) 
def A9(p:Nat)(up:Bool):jZ iq p up=iq/\jO iq p up=0:=by
 have hK:jL 0 0 p=0:=by unfold jL;rw[rO];omega
 have hQ:∀ o,kV 0 0 false p o=0:=by intro o;unfold kV;rw[hK];simp
 have hO:∀ o,mg 0 0 false p o=false:=by intro o;unfold mg;rw[hQ];simp
 unfold jZ jO jY jN;simp only[iq,hO,hQ];exact⟨rfl,rfl⟩
def W7(a b:Dy)(p:Nat)(up:Bool)(ha:a.gY)(hb:b.gY)(ic:8<=p)(gX:p<=512):gR 185 [gV a,gV b,iP p,bP up] (.ig [gV (jZ (iJ a b) p up),iP (jO (iJ a b) p up)]):=by
 by_cases a0:a.m=0
 .have e1:iJ a b=b:=by unfold iJ;rw[aZ a0]
  exact ak call185 func185 (ae [.o 16 (.e (wJ _ _):aj (.sl true 2 3 λi_ j_=>(iu a++iu b).getD (i_*3+j_) (.v (.bool false))) (kg [a,b])),ag [iP p,kg [a,b]] (xd _ _ _ aD aD aC aC),ai 19 ((0:Int) != 0) aE,ah 26 (((gS a.m).length:Int)==0) (tw (wa.2 a0)),.c (Kb b p up aD aC aC)]<|rQ (.ig [gV (jZ b p up),iP (jO b p up)]) (.ig [gV (jZ (iJ a b) p up),iP (jO (iJ a b) p up)]) (by rw[e1])) 
 .by_cases b0:b.m=0
  .have e1:iJ a b=a:=by unfold iJ;rw[aY a0,aZ b0]
   exact ak call185 func185 (ae [.o 16 (.e (wJ _ _):aj (.sl true 2 3 λi_ j_=>(iu a++iu b).getD (i_*3+j_) (.v (.bool false))) (kg [a,b])),ag [iP p,kg [a,b]] (xd _ _ _ aD aD aC aC),ai 19 ((0:Int) != 0) aE,ai 26 (((gS a.m).length:Int)==0) (nA (pg a0)),ah 37 (((gS b.m).length:Int)==0) (tw (wa.2 b0)),.c (Kb a p up aD aC aC)]<|rQ (.ig [gV (jZ a p up),iP (jO a p up)]) (.ig [gV (jZ (iJ a b) p up),iP (jO (iJ a b) p up)]) (by rw[e1])) 
  .by_cases ht:a.ij<b.ij
   .have sH:a.ij<=b.ij:= aC ;have law:=Yz (p:=p) hb ha b0 a0 up;have siz:=Kx hb ha b0 a0 sH gX;have prt:=Pp hb ha b0 a0 sH gX;obtain⟨l1,l2,_,_,_,_,_,_,_⟩:=siz;have z1:(gS (lR b a p)).length<=256:=ph aC;have sD:=prt.2.2;have y1:-45000<=jb b a p:= aC ;have y2:jb b a p<=45000:= aC ;by_cases hz:lR b a p=0
    .by_cases hl:ni b a p=true
     .have h0:lR b a p≠0:=by intro q;have:=sD hl;rw[q,rO]at this;omega
      exact absurd hz h0
     .replace hz:lR b a p=0/\ni b a p=false:=⟨hz,by simpa using hl⟩
      have yT:iJ a b=iq:=by rw[Po a0 b0];exact law.1 hz
      exact ak call185 func185 (ae [.o 16 (.e (wJ _ _):aj (.sl true 2 3 λi_ j_=>(iu a++iu b).getD (i_*3+j_) (.v (.bool false))) (kg [a,b])),ag [iP p,kg [a,b]] (xd _ _ _ aD aD aC aC),ai 19 ((0:Int) != 0) aE,ai 26 (((gS a.m).length:Int)==0) (nA (pg a0)),ai 37 (((gS b.m).length:Int)==0) (nA (pg b0)),ag [gV a] (mQ _ aD),ag [gV b] (mQ _ aD),tB 48 (a6 ht),.c (Kd b a p aD aD aD aD aD aC aC),ah 61 (((gS (lR b a p)).length:Int)==0) (tw (wa.2 hz.1)),ai 64 (ni b a p) hz.2,.o 67 (.e qN:aj (.agg ar) (gV iq))]<|rQ (.ig [gV iq,iP 0]) (.ig [gV (jZ (iJ a b) p up),iP (jO (iJ a b) p up)]) (by rw[yT,(A9 p up).1,(A9 p up).2])) 
    .have h0:lR b a p≠0\/lR b a p=0/\jb b a p=0/\ni b a p=false:=.inl hz;obtain⟨q1,q2⟩:=law.2 (λq=>hz q.1);rw[<-Po a0 b0]at q1 q2;exact ak call185 func185 (ae [.o 16 (.e (wJ _ _):aj (.sl true 2 3 λi_ j_=>(iu a++iu b).getD (i_*3+j_) (.v (.bool false))) (kg [a,b])),ag [iP p,kg [a,b]] (xd _ _ _ aD aD aC aC),ai 19 ((0:Int) != 0) aE,ai 26 (((gS a.m).length:Int)==0) (nA (pg a0)),ai 37 (((gS b.m).length:Int)==0) (nA (pg b0)),ag [gV a] (mQ _ aD),ag [gV b] (mQ _ aD),tB 48 (a6 ht),.c (Kd b a p aD aD aD aD aD aC aC),ai 61 (((gS (lR b a p)).length:Int)==0) (nA (pg hz)),.c (GC (! (b.neg==(pn b a p))) (lR b a p) (jb b a p) (ni b a p) up p aC aD aC aC aC aC aD)]<|rQ (.ig [gV (jY (!(b.neg==(pn b a p))) (lR b a p) (jb b a p) (ni b a p) p up),iP (jN (!(b.neg==(pn b a p))) (lR b a p) (jb b a p) (ni b a p) p up)]) (.ig [gV (jZ (iJ a b) p up),iP (jO (iJ a b) p up)]) (by rw[<-q1,<-q2];rfl)) 
   .have sH:b.ij<=a.ij:= aC ;have law:=Yz (p:=p) ha hb a0 b0 up;have siz:=Kx ha hb a0 b0 sH gX;have prt:=Pp ha hb a0 b0 sH gX;obtain⟨l1,l2,_,_,_,_,_,_,_⟩:=siz;have z1:(gS (lR a b p)).length<=256:=ph aC;have sD:=prt.2.2;have y1:-45000<=jb a b p:= aC ;have y2:jb a b p<=45000:= aC ;by_cases hz:lR a b p=0
    .by_cases hl:ni a b p=true
     .have h0:lR a b p≠0:=by intro q;have:=sD hl;rw[q,rO]at this;omega
      exact absurd hz h0
     .replace hz:lR a b p=0/\ni a b p=false:=⟨hz,by simpa using hl⟩
      have yT:iJ a b=iq:=by exact law.1 hz
      exact ak call185 func185 (ae [.o 16 (.e (wJ _ _):aj (.sl true 2 3 λi_ j_=>(iu a++iu b).getD (i_*3+j_) (.v (.bool false))) (kg [a,b])),ag [iP p,kg [a,b]] (xd _ _ _ aD aD aC aC),ai 19 ((0:Int) != 0) aE,ai 26 (((gS a.m).length:Int)==0) (nA (pg a0)),ai 37 (((gS b.m).length:Int)==0) (nA (pg b0)),ag [gV a] (mQ _ aD),ag [gV b] (mQ _ aD),tB 48 (a7 ht),.c (Kd a b p aD aD aD aD aD aC aC),ah 61 (((gS (lR a b p)).length:Int)==0) (tw (wa.2 hz.1)),ai 64 (ni a b p) hz.2,.o 67 (.e qN:aj (.agg ar) (gV iq))]<|rQ (.ig [gV iq,iP 0]) (.ig [gV (jZ (iJ a b) p up),iP (jO (iJ a b) p up)]) (by rw[yT,(A9 p up).1,(A9 p up).2])) 
    .have h0:lR a b p≠0\/lR a b p=0/\jb a b p=0/\ni a b p=false:=.inl hz;obtain⟨q1,q2⟩:=law.2 (λq=>hz q.1);exact ak call185 func185 (ae [.o 16 (.e (wJ _ _):aj (.sl true 2 3 λi_ j_=>(iu a++iu b).getD (i_*3+j_) (.v (.bool false))) (kg [a,b])),ag [iP p,kg [a,b]] (xd _ _ _ aD aD aC aC),ai 19 ((0:Int) != 0) aE,ai 26 (((gS a.m).length:Int)==0) (nA (pg a0)),ai 37 (((gS b.m).length:Int)==0) (nA (pg b0)),ag [gV a] (mQ _ aD),ag [gV b] (mQ _ aD),tB 48 (a7 ht),.c (Kd a b p aD aD aD aD aD aC aC),ai 61 (((gS (lR a b p)).length:Int)==0) (nA (pg hz)),.c (GC (! (a.neg==(pn a b p))) (lR a b p) (jb a b p) (ni a b p) up p aC aD aC aC aC aC aD)]<|rQ (.ig [gV (jY (!(a.neg==(pn a b p))) (lR a b p) (jb a b p) (ni a b p) p up),iP (jN (!(a.neg==(pn a b p))) (lR a b p) (jb a b p) (ni a b p) p up)]) (.ig [gV (jZ (iJ a b) p up),iP (jO (iJ a b) p up)]) (by rw[<-q1,<-q2];rfl)) 
def Xd(a b:Dy)(p:Nat)(up:Bool)(ha:a.gY)(hb:b.gY)(ic:8<=p)(gX:p<=512):gR 186 [gV a,gV b,iP p,bP up] (.ig [gV (jZ (jt a b) p up),iP (jO (jt a b) p up)]):=by
 by_cases a0:a.m=0
 .have e1:jt a b=iq:=by unfold jt;rw[a0,cD];rfl
  exact ak call186 func186 (ae [.o 16 (.e (wJ _ _):aj (.sl true 2 3 λi_ j_=>(iu a++iu b).getD (i_*3+j_) (.v (.bool false))) (kg [a,b])),ag [iP p,kg [a,b]] (xd _ _ _ aD aD aC aC),ai 19 ((0:Int) != 0) aE,ah 25 (((gS a.m).length:Int)==0) (tw (wa.2 a0)),.o 32 (.e qN:aj (.agg ar) (gV iq))]<|rQ (.ig [gV iq,iP 0]) (.ig [gV (jZ (jt a b) p up),iP (jO (jt a b) p up)]) (by rw[e1,(A9 p up).1,(A9 p up).2])) 
 .by_cases b0:b.m=0
  .have e1:jt a b=iq:=by unfold jt;rw[b0,cI];rfl
   exact ak call186 func186 (ae [.o 16 (.e (wJ _ _):aj (.sl true 2 3 λi_ j_=>(iu a++iu b).getD (i_*3+j_) (.v (.bool false))) (kg [a,b])),ag [iP p,kg [a,b]] (xd _ _ _ aD aD aC aC),ai 19 ((0:Int) != 0) aE,ai 25 (((gS a.m).length:Int)==0) (nA (pg a0)),ah 30 (((gS b.m).length:Int)==0) (tw (wa.2 b0)),.o 32 (.e qN:aj (.agg ar) (gV iq))]<|rQ (.ig [gV iq,iP 0]) (.ig [gV (jZ (jt a b) p up),iP (jO (jt a b) p up)]) (by rw[e1,(A9 p up).1,(A9 p up).2])) 
  .have va:=ha.gS;have vb:=hb.gS;have xa:=ha.exp;have xb:=hb.exp;have ra:=ha.range.resolve_left a0;have rb:=hb.range.resolve_left b0;have bm:=QO a.m b.m;have z1:(gS (a.m*b.m)).length<=256:=ph aC;have m0:a.m*b.m≠0:=dg a0 b0;have h0:a.m*b.m≠0\/a.m*b.m=0/\a.e+b.e=0/\false=false:=.inl m0;have hm:false=true->p<ia (a.m*b.m):=λh=>by cases h
   obtain⟨q1,q2⟩:=Xm (a.neg != b.neg) up (a.m*b.m) (a.e+b.e) p m0;change jZ (jt a b) p up=_ at q1;change jO (jt a b) p up=_ at q2;exact ak call186 func186 (ae [.o 16 (.e (wJ _ _):aj (.sl true 2 3 λi_ j_=>(iu a++iu b).getD (i_*3+j_) (.v (.bool false))) (kg [a,b])),ag [iP p,kg [a,b]] (xd _ _ _ aD aD aC aC),ai 19 ((0:Int) != 0) aE,ai 25 (((gS a.m).length:Int)==0) (nA (pg a0)),ai 30 (((gS b.m).length:Int)==0) (nA (pg b0)),ag [gW (gS a.m),gW (gS b.m)] (xV _ _ aC aC aC),ik (a.e+b.e) aC,.c (GC (! (a.neg==b.neg)) (a.m*b.m) (a.e+b.e) false up p aC aD aC aC aC aC aD)]<|rQ (.ig [gV (jY (!(a.neg==b.neg)) (a.m*b.m) (a.e+b.e) false p up),iP (jN (!(a.neg==b.neg)) (a.m*b.m) (a.e+b.e) false p up)]) (.ig [gV (jZ (jt a b) p up),iP (jO (jt a b) p up)]) (by rw[q1,q2];rfl)) 
def aiB(a b:Dy)(p:Nat)(ha:a.gY)(hb:b.gY)(ic:8<=p)(gX:p<=512):gR 151 [gV a,gV b,iP p] (.ig [gV (jZ (iJ a b) p false),iP (jO (iJ a b) p false)]):=
 ak call151 func151 (af [.c (W7 a b p false aD aD aC aC)]) 
def W6(a b:Dy)(p:Nat)(ha:a.gY)(hb:b.gY)(ic:8<=p)(gX:p<=512):gR 152 [gV a,gV b,iP p] (.ig [gV (jZ (iJ a b) p true),iP (jO (iJ a b) p true)]):=
 ak call152 func152 (af [.c (W7 a b p true aD aD aC aC)]) 
def J9(a b:Dy)(p:Nat)(ha:a.gY)(hb:b.gY)(ic:8<=p)(gX:p<=512):gR 154 [gV a,gV b,iP p] (.ig [gV (jZ (jt a b) p false),iP (jO (jt a b) p false)]):=
 ak call154 func154 (af [.c (Xd a b p false aD aD aC aC)]) 
def Ka(a b:Dy)(p:Nat)(ha:a.gY)(hb:b.gY)(ic:8<=p)(gX:p<=512):gR 155 [gV a,gV b,iP p] (.ig [gV (jZ (jt a b) p true),iP (jO (jt a b) p true)]):=
 ak call155 func155 (af [.c (Xd a b p true aD aD aC aC)]) 
end Go.Proofs.YtkdddbdjilcofaaGreatDoor
namespace Go.Proofs.YtkdddbdjilcofaaGreatDoor.Fp
def agx{U V P q:Nat}(hP:0<P)(hV:9223372036854775808<=V/P)(hUV:U<4294967296*V)(h1:q<=4294967295)(h2:q<=U/P/(V/P))(h3:q=4294967295\/U/P/(V/P)<=q):
 U/V<=q/\q<=U/V+1:=by
 have Mr:0<V/P:= aC ;have wL:0<V:=by
  apply bL;intro h;have:V=0:= aC ;rw[this,Nat.zero_div]at Mr;omega
 have hVm:=cB V P;have hVr:=bE V hP;have hUm:=cB U P;have hUr:=bE U hP;constructor
 .
  rcases h3 with h3|h3
  .have:U/V<4294967296:=by rw[ct wL];exact hUV
   omega
  .refine bg ?_ h3;rw[cP Mr,cP hP,bA];have h4:V/P*P<=V:=cU V P;exact bg (cE _ h4) (cU U V)
 .
  have h4:q*(V/P)<=U/P:=(cP Mr).1 h2;have h5:q*V<=q*(V/P)*P+q*P:=by
   have:V<=V/P*P+P:=by rw[bD];omega
   have:=cE q this;rw[bO,<-bA]at this;exact this
  have h6:q*(V/P)*P<=U:=bg (bK P h4) (cU U P);have h7:(q+1)*P<=V/P*P:=bK P aC;have h8:V/P*P<=V:=cU V P;have h9:q*V<U+V:=by
   rw[bR,bU]at h7;omega
  apply bL;intro h;have pT:(U/V+2)*V<=q*V:=bK V aC;have rS:=cB U V;have h12:=bE U wL;rw[bR,bD (U/V)]at pT;omega
def acE{x v w third q rest:Nat}(hx:q*v+rest=x)(hq:q<=4294967295)(hw:w<4294967296)(hv:0<v)
 (h:4294967296<=rest\/q*w<=rest*4294967296+third):q<=(x*4294967296+third)/(v*4294967296+w):=by
 rw[cP aC,bO,<-hx];have e:q*(v*4294967296)=q*v*4294967296:=by rw[bA]
 rw[e,bR];rcases h with h|h
 .have h1:q*w<=4294967295*4294967295:=dk hq aC ;omega
 .omega
def RP{x v w third q rest:Nat}(hx:q*v+rest=x)(hv:0<v)(h:rest*4294967296+third<q*w):
 (x*4294967296+third)/(v*4294967296+w)<=q-1/\0<q/\(q-1)*v+(rest+v)=x:=by
 have hq:0<q:=by
  apply bL;intro h';have:q=0:= aC ;subst this;rw[cD]at h;omega
 obtain⟨r,rfl⟩:∃ r,q=r+1:=⟨q-1,aC⟩
 refine⟨?_,hq,?_⟩
 .have e1:(r+1)*(v*4294967296+w)=(r+1)*v*4294967296+(r+1)*w:=by rw[bO,<-bA]
  have e2:((r+1)*v+rest)*4294967296=(r+1)*v*4294967296+rest*4294967296:=bR _ _ _;have:(x*4294967296+third)/(v*4294967296+w)<r+1:=by
   have hd:0<v*4294967296+w:= aC ;have e4:x*4294967296=(r+1)*v*4294967296+rest*4294967296:=hx▸e2;refine(ct hd).2 ?_;rw[e1,e4];clear e1 e2 e4 hd hx hq;generalize (r+1)*v=a at *
   generalize (r+1)*w=z at *
   exact Nat.add_lt_add_left h _|>λh=>by rw[<-cR]at h;exact h
  omega
 .have e3:(r+1)*v=r*v+v:=gI r v;rw[er];rw[e3]at hx;clear e3 h hq;generalize r*v=a at *
  omega
def acG{x v w third:Nat}(hv:0<v)(ht:third<4294967296):(x*4294967296+third)/(v*4294967296+w)<=x/v:=by
 have h1:(x*4294967296+third)/(v*4294967296+w)<=(x*4294967296+third)/(v*4294967296):=gJ aC aC;refine bg h1 ?_;rw[bD v,<-dp];have:(x*4294967296+third)/4294967296=x:= aC ;rw[this];exact bc _
structure xq(O0:List Nat)(j q:Nat)(V:List Nat)(k:Nat)(O:List Nat)(c b:Nat):Prop where
 len:O.length=O0.length
 ok:iE O
 vl:val O+q*(4294967296^j*val (V.take k))=val O0+4294967296^(j+k)*(c+b)
 pX:∀ i,j+k<=i->O.getD i 0=O0.getD i 0
 Q1:c<4294967296
 QK:b<=1
def xq.start{O0:List Nat}(h:iE O0)(j q:Nat)(V:List Nat):xq O0 j q V 0 O0 0 0:=
 ⟨rfl,h,by simp[val],λ_ _=>rfl,aE,aE⟩
def akZ{q y c b u:Nat}(hq:q<=4294967295)(hy:y<4294967296)(hc:c<4294967296)(hb:b<=1)(hu:u<4294967296):
 q*y+c<18446744073709551616/\(q*y+c)/4294967296<4294967296 /\
 ((u+18446744073709551616-(q*y+c)%4294967296-b)%18446744073709551616)/9223372036854775808<=1 /\
 ((u+18446744073709551616-(q*y+c)%4294967296-b)%18446744073709551616)%4294967296+(q*y+c)%4294967296+b =
  u+4294967296*(((u+18446744073709551616-(q*y+c)%4294967296-b)%18446744073709551616)/9223372036854775808):=by
 have h1:q*y<=4294967295*4294967295:=dk hq aC;generalize q*y=z at *
 omega
def xq.step{O0 V O:List Nat}{j q k c b:Nat}(h:xq O0 j q V k O c b){u' b':Nat}(hk:k<V.length)(hj:j+V.length<O0.length)(hu:u'<4294967296)(hc:(q*V.getD k 0+c)/4294967296<4294967296)(hb:b'<=1)
 (hd:u'+(q*V.getD k 0+c)%4294967296+b=O.getD (j+k) 0+4294967296*b'):
 xq O0 j q V (k+1) (O.set (j+k) u') ((q*V.getD k 0+c)/4294967296) b':=by
 have pV:j+k<O.length:=by rw[h.len];omega
 refine⟨by rw[cY];exact h.len,h.ok.set _ hu,?_,λi hi=>?_,hc,hb⟩
 .have e:=et (q*V.getD k 0+c) 4294967296;have h1:=CR (x:=u') pV;have h2:=h.vl;have h3:u'+(q*V.getD k 0+c)+b=O.getD (j+k) 0+4294967296*((q*V.getD k 0+c)/4294967296+b'):= aC ;have h4:=congrArg (4294967296^(j+k) * ·) h3;simp only[bO]at h4;rw[Bl,bO (4294967296^j),bO q,<-bA (4294967296^j),<-bh,show q*(4294967296^(j+k)*V.getD k 0)=4294967296^(j+k)*(q*V.getD k 0)from dK _ _ _,
   show j+(k+1)=j+k+1 from rfl,bC,bA,bO 4294967296,bO (4294967296^(j+k))]
  rw[bO]at h2;omega
 .rw [Ak aC];exact h.pX i aC 
def xq.NC{O0 V O:List Nat}{j q c b:Nat}(h:xq O0 j q V V.length O c b)(hj:j+V.length<O0.length){t:Nat}
 (ht:t=(O.getD (j+V.length) 0+18446744073709551616-c-b)%18446744073709551616):
 (O.set (j+V.length) (t%4294967296)).length=O0.length/\iE (O.set (j+V.length) (t%4294967296))/\t/9223372036854775808<=1 /\
 val (O.set (j+V.length) (t%4294967296))+q*(4294967296^j*val V)=val O0+4294967296^(j+V.length+1)*(t/9223372036854775808) /\
 ∀ i,j+V.length<i->(O.set (j+V.length) (t%4294967296)).getD i 0=O0.getD i 0:=by
 have pV:j+V.length<O.length:=by rw[h.len];omega
 have hc:=h.Q1;have hb:=h.QK;have hu:=h.ok.getD (j+V.length);have hd:t%4294967296+c+b=O.getD (j+V.length) 0+4294967296*(t/9223372036854775808):= aC ;refine⟨by rw[cY];exact h.len,h.ok.set _ (bE _ aE),aC,?_,λi hi=>by rw[Ak aC];exact h.pX i aC⟩;have h1:=CR (x:=t%4294967296) pV;have h2:=h.vl;rw[eG]at h2;have h4:=congrArg (4294967296^(j+V.length) * ·) hd;simp only[bO]at h4;rw[bC,bA];rw[bO]at h2;omega
structure xn(O0:List Nat)(j:Nat)(V:List Nat)(k:Nat)(O:List Nat)(c:Nat):Prop where
 len:O.length=O0.length
 ok:iE O
 vl:val O+4294967296^(j+k)*c=val O0+4294967296^j*val (V.take k)
 pX:∀ i,j+k<=i->O.getD i 0=O0.getD i 0
 Li:c<=1
def xn.start{O0:List Nat}(h:iE O0)(j:Nat)(V:List Nat):xn O0 j V 0 O0 0:=
 ⟨rfl,h,by simp[val],λ_ _=>rfl,aE⟩
def xn.step{O0 V O:List Nat}{j k c:Nat}(h:xn O0 j V k O c)(hV:iE V)(hk:k<V.length)(hj:j+V.length<O0.length):
 xn O0 j V (k+1) (O.set (j+k) ((O.getD (j+k) 0+V.getD k 0+c)%4294967296)) ((O.getD (j+k) 0+V.getD k 0+c)/4294967296):=by
 have pV:j+k<O.length:=by rw[h.len];omega
 have hu:=h.ok.getD (j+k);have hy:=hV.getD k;have hc:=h.Li;refine⟨by rw[cY];exact h.len,h.ok.set _ (bE _ aE),?_,λi hi=>by rw[Ak aC];exact h.pX i aC,aC⟩;have h1:=CR (x:=(O.getD (j+k) 0+V.getD k 0+c)%4294967296) pV;have h2:=h.vl;have h4:=congrArg (4294967296^(j+k) * ·) (et (O.getD (j+k) 0+V.getD k 0+c) 4294967296);simp only[bO]at h4;rw[Bl,bO (4294967296^j),<-bA (4294967296^j),<-bh,show j+(k+1)=j+k+1 from rfl,bC,bA];omega
def xn.NC{O0 V O:List Nat}{j c:Nat}(h:xn O0 j V V.length O c)(hj:j+V.length<O0.length):
 (O.set (j+V.length) ((O.getD (j+V.length) 0+c)%4294967296)).length=O0.length/\iE (O.set (j+V.length) ((O.getD (j+V.length) 0+c)%4294967296)) /\
 (∃ κ,κ<=1/\val (O.set (j+V.length) ((O.getD (j+V.length) 0+c)%4294967296))+4294967296^(j+V.length+1)*κ=val O0+4294967296^j*val V) /\
 ∀ i,j+V.length<i->(O.set (j+V.length) ((O.getD (j+V.length) 0+c)%4294967296)).getD i 0=O0.getD i 0:=by
 have pV:j+V.length<O.length:=by rw[h.len];omega
 have hu:=h.ok.getD (j+V.length);have hc:=h.Li;refine⟨by rw[cY];exact h.len,h.ok.set _ (bE _ aE),⟨(O.getD (j+V.length) 0+c)/4294967296,aC,?_⟩,λi hi=>by rw[Ak aC];exact h.pX i aC⟩;have h1:=CR (x:=(O.getD (j+V.length) 0+c)%4294967296) pV;have h2:=h.vl;rw[eG]at h2;have h4:=congrArg (4294967296^(j+V.length) * ·) (et (O.getD (j+V.length) 0+c) 4294967296);simp only[bO]at h4;rw[bC,bA];omega
def YX{O:List Nat}(h:iE O){k:Nat}(hz:∀ i,k<=i->O.getD i 0=0):val O<4294967296^k:=by
 by_cases hk:O.length<=k
 .exact bJ (oA h) (bI aE hk)
 .rw [Eo O k aC];have:val (O.drop k)=0:=by
   rw[G6];intro x hx;obtain⟨i,hi⟩:=dq.1 hx;rw[eA]at hi;have:=hz (k+i) aC;rw[bd,hi]at this;exact this
  rw[this,cI,bS];have h1:=oA (h.take k);rw[b8,de aC]at h1;exact h1
def ali{O:List Nat}(h:iE O){k:Nat}(hv:val O<4294967296^k){i:Nat}(hi:k<=i):O.getD i 0=0:=by
 have h1:val (O.drop k)=0:=by rw[G5 h,cO hv]
 rw[G6]at h1;rw[bd];cases hg:O[i]? with
 |none=>rfl
 |some x=>exact h1 x (dq.2 ⟨i-k,by rw[eA,(aC:k+(i-k)=i)];exact hg⟩)
def RQ{u u' V P x:Nat}(hP:0<P)(hV:0<V)(h:u'+x*(P*V)=u)(hx:u/P/V<=x):x=u/P/V/\u'<V*P:=by
 have h1:x*V<=u/P:=by
  rw[cP hP,bA,bD V P];omega
 have h2:x<=u/P/V:=(cP hV).2 h1;have h3:x=u/P/V:= aC ;refine⟨h3,?_⟩;have e1:=cB u P;have e2:=bE u hP;have e3:=cB (u/P) V;have e4:=bE (u/P) hV;rw[<-h3]at e3;have e5:P*(u/P)=x*(P*V)+P*(u/P%V):=by
  rw[<-e3,bO,e3,bD V x,dK]
 have e6:P*(u/P%V)+P<=V*P:=by
  rw[bD V P,<-Nat.mul_succ];exact cE P e4
 omega
def acF{u u' u'' V P R x κ:Nat}(hP:0<P)(hV:0<V)(h:u'+x*(P*V)=u+R)(h':u'<R)(hx:x<=u/P/V+1)
 (hk:κ<=1) (h2:u''+R*κ=u'+P*V) (h3:u''<R):0<x/\x-1=u/P/V/\u''+(x-1)*(P*V)=u/\u''<V*P:=by
 have nS:u/P<x*V:=by
  rw[ct hP,bA,bD V P];omega
 have AE:u/P/V<x:=by rw[ct hV];exact nS
 have tl:x=u/P/V+1:=Nat.le_antisymm hx AE;obtain⟨y,hy⟩:∃ y,y=u/P/V:=⟨_,rfl⟩
 rw[<-hy]at tl;subst tl;rw[er];have e0:(y+1)*(P*V)=y*(P*V)+P*V:=gI _ _;have e1:y*(P*V)<=u:=by
  have:y*V<=u/P:=by rw[hy];exact cU _ _
  have:=(cP hP).1 this;rw[bA,bD V P]at this;exact this
 have hκ:κ=1:=by
  apply bL;intro q;obtain rfl:κ=0:= aC ;omega
 subst hκ;have e2:u''+y*(P*V)=u:= aC ;exact⟨aC,hy,e2,(RQ hP hV e2 aC).2⟩
def s5(q rest third v w x:Nat):Prop:=rest+x*v<4294967296/\(rest+x*v)*4294967296+third<(q-x)*w
def RN{X q rest third v w:Nat}(hx:q*v+rest=X)(hq:q<=4294967295)(hv:2147483648<=v)(hw:w<4294967296):
 ∃ N,N<=2/\N<=q/\(∀ x,x<N->s5 q rest third v w x)/\¬s5 q rest third v w N/\q-N<=(X*4294967296+third)/(v*4294967296+w)/\(N=0\/(X*4294967296+third)/(v*4294967296+w)<=q-N):=by
 have stop:∀ {q' r':Nat},q'*v+r'=X->q'<=4294967295->¬(r'<4294967296/\r'*4294967296+third<q'*w)->q'<=(X*4294967296+third)/(v*4294967296+w):=fun {q' r'} h1 h2 h3=>
  acE h1 h2 hw aC (by
   by_cases hr:4294967296<=r'
   .exact .inl hr
   .refine .inr (Nat.le_of_not_lt λhn=>h3 ⟨Nat.lt_of_not_le hr,hn⟩))
 by_cases h0:s5 q rest third v w 0
 .have g0:=h0;unfold s5 at g0;rw[cD,bS,dt]at g0;obtain⟨k1,k2,k3⟩:=RP hx aC g0.2;by_cases h1:s5 q rest third v w 1
  .have g1:=h1;unfold s5 at g1;rw[bU]at g1;obtain⟨l1,l2,l3⟩:=RP k3 aC g1.2;have h2:¬s5 q rest third v w 2:=λh=>by unfold s5 at h;omega
   refine⟨2,bc _,aC,λx hx=>?_,h2,?_,.inr l1⟩
   .obtain rfl|rfl:x=0\/x=1:= aC 
    .exact h0
    .exact h1
   .refine stop (r':=rest+v+v) l3 aC λh=> aC 
  .refine ⟨1,aE,k2,λx hx=>?_,h1,?_,.inr k1⟩
   .obtain rfl:x=0:= aC ;exact h0
   .unfold s5 at h1;rw[bU]at h1;exact stop k3 aC h1
 .refine ⟨0,aE,bV _,λx hx=>absurd hx (bn x),h0,?_,.inl rfl⟩;unfold s5 at h0;rw[cD,bS,dt]at h0;exact stop hx hq h0
def acQ{a b s q r:Nat}(hb:0<b)(h:r+b*2^s*q=a*2^s)(hr:r<b*2^s):q=a/b/\r=a%b*2^s:=by
 have hp:0<2^s:=bj aE;have h1:r%2^s=0:=by
  have:=congrArg (· % 2^s) h;simp only[fB]at this;rw[bA,dK,dQ]at this;exact this
 obtain⟨t,ht⟩:∃ t,r=t*2^s:=⟨r/2^s,by rw[Nat.div_mul_cancel (Nat.dvd_of_mod_eq_zero h1)]⟩
 subst ht;have h2:(t+b*q)*2^s=a*2^s:=by rw[bR,<-h,fX]
 have h3:=ani hp h2;have h4:t<b:=anj hr;constructor
 .rw [<-h3,eN _ _ hb,cO h4,bZ]
 .rw [<-h3,dQ,bX h4]
def YI{O:List Nat}(h:iE O){j n:Nat}(hn:2<=n)(hz:∀ i,j+n<i->O.getD i 0=0):
 val O/4294967296^j/4294967296^(n-2)=(O.getD (j+n) 0*4294967296+O.getD (j+n-1) 0)*4294967296+O.getD (j+n-2) 0:=by
 rw[dp,<-bh,<-G5 h];have e:∀ (l:List Nat),iE l->(∀ i,2<i->l.getD i 0=0)->val l=(l.getD 2 0*4294967296+l.getD 1 0)*4294967296+l.getD 0 0:=by
  intro l hl hz;rcases l with _|⟨a,_|⟨b,_|⟨c,l⟩⟩⟩
  .rfl
  .simp [val]
  .simp [val];omega
  .have:val l=0:=by
    rw[G6];intro x hx;obtain⟨i,hi⟩:=dq.1 hx;have:=hz (i+3) aC;rw[bd]at this;simp only[amM,hi]at this;exact this
   simp[val,this];omega
 have g:∀ i,(O.drop (j+(n-2))).getD i 0=O.getD (j+(n-2)+i) 0:=λi=>by
  rw[bd,eA,bd]
 rw[e _ (h.drop _) (λi hi=>by rw[g];exact hz _ aC),g,g,g];rw[(aC:j+(n-2)+2=j+n),(aC:j+(n-2)+1=j+n-1),(aC:j+(n-2)+0=j+n-2)]
def alg{V:List Nat}(h:iE V){n:Nat}(hn:2<=n)(hl:V.length=n):val V/4294967296^(n-2)=V.getD (n-1) 0*4294967296+V.getD (n-2) 0:=by
 have:=YI (O:=V) h (j:=0) (n:=n) hn (λi hi=>by rw[bd,b7 aC];rfl);rw[cw,eI,bZ]at this;rw[this,show V.getD n 0=0 by rw[bd,b7 aC];rfl];omega
end Go.Proofs.YtkdddbdjilcofaaGreatDoor.Fp
namespace Go.Proofs.YtkdddbdjilcofaaGreatDoor
open Go.RowKit Fp
def Rx(w:World)(b:Nat)(L:List Nat)(R:List Value):Prop:=w.heap[b]? = some (.cells (oj L++R).toArray 96 (0,0))
section
variable {w w':World} {b:Nat} {L:List Nat} {R:List Value}
def Rx.lt(h:Rx w b L R):b<w.heap.size:=(cS.1 h).1
def Rx.cell(h:Rx w b L R){i:Nat}(hi:i<L.length):w.cell? ⟨b,i,none⟩=some (.int .u32 (L.getD i 0:Int)):=by
 unfold Rx at h;simp only[World.cell?,h];simp[oj,hi,eB]
def Rx.frozen(h:Rx w b L R)(i:Nat):w.frozen? ⟨b,i,none⟩=false:=by
 unfold Rx at h;simp[World.frozen?,h]
def Rx.set(h:Rx w b L R){i:Nat}(hi:i<L.length)(x:Nat):Rx (w.setCell ⟨b,i,none⟩ (.int .u32 (x:Int))) b (L.set i x) R:=by
 unfold Rx at h ⊢;simp only[World.setCell,eP,h];simp[oj,List.map_set,List.set_append,hi]
def Rx.pX(h:Rx w b L R)(hb:w'.heap[b]? = w.heap[b]?):Rx w' b L R:=by unfold Rx at h ⊢;rw[hb];exact h
end
structure sW(b:Nat)(w w':World):Prop where
 below:Below b w w'
 size:w'.heap.size=w.heap.size
 oH:∀ x,x≠b->w'.heap[x]? = w.heap[x]?
def sW.refl(b:Nat)(w:World):sW b w w:=⟨Below.refl _ _,rfl,λ_ _=>rfl⟩
def sW.GP{b:Nat}{w w':World}(h:sW b w w')(i:Nat)(v:Value):sW b w (w'.setCell ⟨b,i,none⟩ v):=
 ⟨h.below.setCell (p:=⟨b,i,none⟩) (bc _) v,by
  have:(w'.setCell ⟨b,i,none⟩ v).heap.size=w'.heap.size:=by simp[World.setCell]
  rw[this,h.size],λx hx=>by
  rw[<-h.oH x hx];simp only[World.setCell,eP];rw[aY (λe=>hx e.symm)]⟩
def PM(b:Nat)(A:Option Addr):Prop:=∀ b' o s,A=some ⟨b',o,s⟩->b'≠b
def Sl.oH{w w':World}{A:Option Addr}{c b:Nat}{L:List Nat}(h:Sl w A c L)(ha:PM b A)(ho:sW b w w'):Sl w' A c L:=
 ⟨h.cap,h.rf,h.ok,h.xW,λi x hx=>by
  obtain⟨b',o,e,h1,h2⟩:=h.cell i x hx;refine⟨b',o,e,by rw[ho.size];exact h1,?_⟩;rw[<-h2];exact(World.cell?_of_block (w:=w) (w':=w') (ho.oH b' (ha _ _ _ e)))⟩
def Y7{u m b:Nat}(hm:m<4294967296)(hb:b<=4294967296):
 IntKind.u64.wrap (IntKind.u64.wrap ((u:Int)-m)-(b:Int))=(((u+18446744073709551616-m-b)%18446744073709551616:Nat):Int):=by
 rw[IntKind.wrap_u64,IntKind.wrap_u64];omega
def akX(b j cu c q:Nat)(O V:List Nat)(R:List Value)(A:Option Addr)(w:World)(hu:Rx w b O R)(hv:Sl w A c V)(hA:PM b A)(mi:iE O)(hj:j+V.length<O.length)(hq:q<=4294967295)(hl:O.length<=1000000):
 Calls prog 270 #[.slice (some ⟨b,j,none⟩) (V.length+1) cu,.slice A V.length c,.int .u64 q] w λe w'=>∃ (O':List Nat) (δ:Nat),e = .returned (.bool (decide (δ=1)))/\Rx w' b O' R/\O'.length=O.length/\iE O'/\δ<=1 /\
  val O'+q*(4294967296^j*val V)=val O+4294967296^(j+V.length+1)*δ/\(∀ i,j+V.length<i->O'.getD i 0=O.getD i 0)/\sW b w w':=by
 obtain⟨n,hn⟩:∃ n,n=V.length:=⟨_,rfl⟩
 rw[<-hn]at hj ⊢;have HN:=anq hn;have HJ:=anq hj;clear hn;have jA:n<=1000000:= aC ;have ML:j<=1000000:= aC ;clear hj;have HT0:=anq (xq.start mi j q V);clear mi;have HO:=anq (sW.refl b w);have HU:=anq hu;clear hu;go_enter func270,ntmps270;go_wp2;go_loopw [7,8,9,10,11,12,16] (λcy bo _ _ _ _ i wr=>∃ (k c' b':Nat) (O':List Nat),k<=n/\i = .int .i64 k/\cy = .int .u64 c'/\bo = .int .u64 b'/\xq O j q V k O' c' b'/\Rx wr b O' R/\sW b w wr) (λ_ _ _ _ _ _ i _=>n-(intOf i).toNat)
 case atStart=>
  exact⟨0,0,0,O,bV _,rfl,rfl,rfl,HT0.out,HU.out,HO.out⟩
 case round=>
  obtain⟨k,c',b',O',hk,rfl,rfl,rfl,ht,hR,ho⟩:=hrel;clear HT0 HO HU;have HTk:=anq ht;have iQ:=ht.QK;have Ar:=ht.Q1;have HOl:=anq ht.len;clear ht;have Na:=hv.oH hA ho;by_cases im:k<n
  .have yP:k<V.length:=by rw[<-HN.out];exact im
   obtain⟨ab,ao,e1,_,c1⟩:=Na.mA yP;have q9:V.getD k 0<4294967296:=hv.ok.getD k;have UH:V[k]=V.getD k 0:=by simp[bd,yP]
   rw[UH]at c1;have pV:j+k<O'.length:=by rw[HOl.out];have:=HJ.out;omega
   have c2:=hR.cell pV;have c3:=hR.frozen (j+k);have FM:O'.getD (j+k) 0<4294967296:=HTk.out.ok.getD _;obtain⟨uQ,kF,FJ,Un⟩:=akZ hq q9 Ar iQ FM;have HST:=anq (HTk.out.step (b':=((O'.getD (j+k) 0+18446744073709551616-(q*V.getD k 0+c')%4294967296-b')%18446744073709551616)/9223372036854775808) yP (by rw[<-HN.out];exact HJ.out) (bE _ aE) kF FJ Un);have HRS:=anq (λx:Nat=>hR.set pV x);have HOS:=anq (λ(v:Value)=>ho.GP (j+k) v);clear hR ho HTk pV UH yP Un HOl Na;subst e1;have Ji:q*V.getD k 0<=4294967295*4294967295:=dk hq aC;have Cd:IntKind.u64.wrap ((q:Int)*(V.getD k 0:Int))=((q*V.getD k 0:Nat):Int):=by rw[<-ek];exact ss _ aC 
   generalize V.getD k 0=y at *
   generalize q*y=z at *
   have Nb:IntKind.u64.wrap ((z:Int)+c')=((z+c':Nat):Int):=by rw[<-Int.natCast_add];exact ss _ aC 
   generalize O'.getD (j+k) 0=u at *
   generalize z+c'=s at *
   have amu:bits .and .u64 (s:Int) 4294967295=((s%4294967296:Nat):Int):=by rw[Ez s aC];omega
   have amt:s%4294967296<4294967296:=bE _ aE;have hd:(s:Int)/4294967296=((s/4294967296:Nat):Int):= aC ;generalize s%4294967296=m at *
   generalize s/4294967296=s2 at *
   have hsb:=Y7 (u:=u) (m:=m) (b:=b') aC aC;generalize (u+18446744073709551616-m-b')%18446744073709551616=t at *
   have yL:(j:Int)+k=((j+k:Nat):Int):= aC ;go_wp2;go_roundw
   case rel=>
    have e1:((t:Int)%4294967296)=((t%4294967296:Nat):Int):= aC ;exact⟨k+1,s2,t/9223372036854775808,O'.set (j+k) (t%4294967296),aC,by go_num,by go_num,by go_num,HST.out,by rw[e1];exact HRS.out _,HOS.out _⟩
   case measure=>simp[intOf];omega
  .obtain rfl:k=n:= aC ;have MK:j+k<O.length:=HJ.out;have HTk':=anq (show xq O j q V V.length O' c' b' by rw[<-HN.out];exact HTk.out);have HL:=HTk'.out.NC (t:=(O'.getD (j+k) 0+18446744073709551616-c'-b')%18446744073709551616) (by rw[<-HN.out];exact MK) (by rw[<-HN.out]);rw[<-HN.out]at HL;have HT:=anq HL;clear HL;have pV:j+k<O'.length:=by rw[HOl.out];exact MK
   have c2:=hR.cell pV;have c3:=hR.frozen (j+k);have FM:O'.getD (j+k) 0<4294967296:=HTk.out.ok.getD _;have HRS:=anq (λx:Nat=>hR.set pV x);have HOS:=anq (λ(v:Value)=>ho.GP (j+k) v);clear hR ho HTk HTk' pV MK HOl Na;generalize O'.getD (j+k) 0=u at *
   have hsb:=Y7 (u:=u) (m:=c') (b:=b') Ar aC;have htl:(u+18446744073709551616-c'-b')%18446744073709551616<18446744073709551616:=bE _ aE;generalize (u+18446744073709551616-c'-b')%18446744073709551616=t at *
   have yL:(j:Int)+k=((j+k:Nat):Int):= aC ;go_wp2;go_ret;have e1:((t:Int)%4294967296)=((t%4294967296:Nat):Int):= aC ;obtain⟨t1,t2,t3,t4,t5⟩:=HT.out;exact⟨O'.set (j+k) (t%4294967296),t/9223372036854775808,Kg (a:=(((t:Int)/9223372036854775808)==1)) (by rw[dz,fP,gE];omega),by rw[e1];exact HRS.out _,t1,t2,t3,t4,t5,HOS.out _⟩
def Wu(A:Option Addr)(c:Nat)(L:List Nat)(n:Nat)(w:World)(hs:Sl w A c L)(hlen:L.length<=100000000)(hn:n<=65536):
 Calls prog 178 #[.slice A L.length c,.int .i64 n] w (λe w'=>∃ T v,e = .returned v/\val T=val L*2^n/\T.length=n/32+(iA L).length+1/\Ow w' w.heap.size v T/\iC w w'):=by
 have hT:=anq (ve A c L w hs);have kF:=hs.um;have ns:=pq L;have hC:=kF.cap;have hL:=hs.rf;unfold mz at ns;have hv:=anq (pQ L);generalize iA L=M at *
 obtain⟨m,hm⟩:∃ m,m=M.length:=⟨_,rfl⟩
 rw[<-hm]at hT ns hC;have HM:=anq hm;clear hm;have vR:=VR (n/32) (n/32+m+1) aC aC;rw[show((n/32:Nat):Int)=n/32 by omega,show((n/32+m+1:Nat):Int)=n/32+m+1 by omega]at vR;have Mj:=anq (Ow.AO w w.heap.size (n/32) (n/32+m+1) (bc _) aC aC);go_enter func178,ntmps178;go_wp2_with fail;refine hT.out.mono ?_;rintro e w' ⟨rfl,rfl⟩;go_wp2;go_loopw [5,6,23] (λv cy i wr=>∃ (k q:Nat) (O:List Nat),k<=m/\i = .int .i64 k/\cy = .int .u64 q/\q<2^(n%32)/\O.length=n/32+k/\val O+4294967296^(n/32+k)*q=val (M.take k)*2^(n%32)*4294967296^(n/32)/\Ow wr w.heap.size v O/\iC w wr) (λ_ _ i _=>m-(intOf i).toNat)
 case atStart=>
  exact⟨0,0,List.replicate (n/32) 0,bV _,rfl,rfl,bj aE,aH,by simp[CQ],Mj.out,iC.alloc _ _⟩
 case round=>
  obtain⟨k,q,O,hk,rfl,rfl,hq,hO,kE,oq,hb⟩:=hrel;have HV:=anq kE;have HO:=anq hO;have Ts:O.length<=200000000:= aC ;have ua:=anq hq;clear kE hO hq;obtain⟨OA,Oc,rfl,B2⟩:=oq.sl;by_cases im:k<m
  .have BS:k<M.length:=by have:=HM.out;omega
   obtain⟨ab,ao,rfl,_,c1⟩:=(kF.below hb).mA BS;have nm:M[k]<4294967296:=kF.ok.get BS;have HX:=anq (Ya (c:=q) (s:=n%32) (n0:=n/32) BS HO.out HV.out);generalize M[k]=x at *
   obtain⟨hw,AH,yV⟩:=Yb x q (n%32) nm (bE _ aE) ua.out;generalize x*2^(n%32)+q=z at *
   have FP:=anq yV;clear yV;have my:O.length+[z%4294967296].length<=10000000000:= aN ;go_wp2_with (at_builtin;go_must (refine zO aG _ _ aG w.heap.size _ O aG (oq.alloc _) _ _ _ [z%4294967296] aG aG (Sl.D1 _ _ (z%4294967296) aC aC) my (wZ hb.size _) ?_);intro v' w1 wS hg sB)
   go_roundw
   case rel=>
    exact⟨k+1,z/4294967296,O++[z%4294967296],aC,by go_num,by go_num,FP.out,by rw[cA,HO.out];rfl,HX.out,wS,(hb.trans (iC.alloc _ _)).own _ _ (oq.alloc _) hg⟩
   case measure=>simp[intOf];omega
  .obtain rfl:k=m:= aC ;have my:O.length+[q].length<=10000000000:= aN ;have afz:q<4294967296:=by
    have:=ua.out;have hp:2^(n%32)<=2^31:=bI aE aC;have e31:(2:Nat)^31=2147483648:= aE ;omega
   have hqm:(q:Int)%4294967296=q:= aC ;go_wp2_with (at_builtin;go_must (refine zO aG _ _ aG w.heap.size _ O aG (oq.alloc _) _ _ _ [q] aG aG (Sl.D1 _ _ q aC aC) my (wZ hb.size _) ?_);intro v' w1 wS hg sB)
   go_ret;refine⟨O++[q],v',rfl,?_,by rw[cA,HO.out,<-HM.out];rfl,wS,(hb.trans (iC.alloc _ _)).own _ _ (oq.alloc _) hg⟩;have h:=HV.out;rw[cN (by rw[HM.out];exact bc _)]at h;rw[Bk,HO.out,su,KI,cI,bS,h,<-hv.out,tz,bA,<-bh];congr 2;omega
end Go.Proofs.YtkdddbdjilcofaaGreatDoor
namespace Go.Proofs.YtkdddbdjilcofaaGreatDoor.Fp
def oP(n k:Nat):Nat:=n/4294967296^k%4294967296
def Lz(n k:Nat):oP n k<4294967296:=bE _ aE 
def acD(k:Nat):oP 0 k=0:=by unfold oP;rw[Nat.zero_div]
def pw(k:Nat):0<4294967296^k:=bj aE 
def IP{L:List Nat}(h:iE L)(k:Nat):L.getD k 0=oP (val L) k:=by
 unfold oP;rw[<-G5 h];by_cases hk:k<L.length
 .rw [eO hk,show val (L[k]::L.drop (k+1))=L[k]+4294967296*val (L.drop (k+1))from rfl,dQ,bX (h.get hk)];simp[bd,hk]
 .rw [dR aC,bd,b7 aC];rfl
def mod_succ(n k:Nat):n%4294967296^(k+1)=n%4294967296^k+4294967296^k*oP n k:=by
 rw[bC,Nat.mod_mul];rfl
def oQ(n m:Nat):List Nat:=(List.range m).map (oP n)
def Ad(n m:Nat):(oQ n m).length=m:=by simp[oQ]
def EY(n m:Nat):iE (oQ n m):=λx hx=>by
 obtain⟨k,_,rfl⟩:=dh.1 hx;exact Lz n k
def acI{n m k:Nat}(h:k<m):(oQ n m).getD k 0=oP n k:=by
 simp[oQ,bd,h]
def acH(m i:Nat):(oQ 0 m).getD i 0=0:=by
 by_cases h:i<m
 .rw [acI h,acD]
 .rw [bd,b7 (by rw[Ad];omega)];rfl
def acJ(n m:Nat):oQ n (m+1)=oQ n m++[oP n m]:=by simp[oQ,am5]
def G4(n m:Nat):val (oQ n m)=n%4294967296^m:=by
 induction m with
 |zero=>simp[oQ,val];omega
 |succ m ih=>
  rw[acJ,Bk,ih,Ad,mod_succ];rfl
def alC{L M:List Nat}(hL:iE L)(hM:iE M)(hl:L.length=M.length)(hv:val L=val M):L=M:=by
 apply fR hl;intro i h1 h2;have e1:=IP hL i;have e2:=IP hM i;rw[hv,<-e2]at e1;simpa[bd,h1,h2]using e1
def acK{L:List Nat}(h:iE L):oQ (val L) L.length=L:=
 alC (EY _ _) h (Ad _ _) (by rw[G4,bX (oA h)])
def LA{L:List Nat}{n m:Nat}(h:iE L)(hl:L.length=m)(hv:val L=n):oQ n m=L:=by subst hl hv;exact acK h
def pj(a b k m:Nat):List Nat:=(List.range m).map λj=>if j<k then oP a j else oP b j
def ahg(a b k m:Nat):(pj a b k m).length=m:=by simp[pj]
def ahi(a b m:Nat):pj a b 0 m=oQ b m:=by simp[pj,oQ]
def ahf{a b k m:Nat}(h:m<=k):pj a b k m=oQ a m:=by
 unfold pj oQ;exact fc λj hj=>aZ (bJ (bW.1 hj) h)
def amI{a b k m:Nat}:(pj a b k m).set k (oP a k)=pj a b (k+1) m:=by
 apply fR
 .simp [pj]
 .intro j h1 h2;have hj:j<m:=by simpa[pj]using h2
  rw[List.getElem_set];by_cases h:k=j
  .subst h;simp[pj]
  .rw [aY h];simp only[pj,List.getElem_map,List.getElem_range];by_cases q:j<k
   .rw [aZ q,aZ aC]
   .rw [aY q,aY aC]
def ahh{a b k m:Nat}:(pj a b (k+1) m).set k (oP b k)=pj a b k m:=by
 apply fR
 .simp [pj]
 .intro j h1 h2;have hj:j<m:=by simpa[pj]using h2
  rw[List.getElem_set];by_cases h:k=j
  .subst h;simp[pj]
  .rw [aY h];simp only[pj,List.getElem_map,List.getElem_range];by_cases q:j<k
   .rw [aZ q,aZ aC]
   .rw [aY q,aY aC]
def acS(a k:Nat):a/4294967296^k=4294967296*(a/4294967296^(k+1))+oP a k:=by
 rw[bC,<-dp];unfold oP;omega
def aj9{a d k:Nat}(hd:0<d)(Au:d<4294967296):(a/4294967296^(k+1)%d*4294967296+oP a k)/d=oP (a/d) k/\(a/4294967296^(k+1)%d*4294967296+oP a k)%d=a/4294967296^k%d:=by
 have e1:=acS a k;have e2:=cB (a/4294967296^(k+1)) d;have e3:=bE (a/4294967296^(k+1)) hd;have e4:=Lz a k;have e5:a/4294967296^k=d*(4294967296*(a/4294967296^(k+1)/d))+(a/4294967296^(k+1)%d*4294967296+oP a k):=by
  rw[e1,dK];omega
 have e6:(a/4294967296^(k+1)%d*4294967296+oP a k)/d<4294967296:=by
  rw[ct hd];have:=bK 4294967296 (show a/4294967296^(k+1)%d+1<=d from e3);omega
 constructor
 .conv=>rhs;unfold oP
  rw[dp,bD d,<-dp,e5,amN hd,fG,bX e6]
 .rw [e5,fG]
structure sw(U0:Nat)(V:List Nat)(k m:Nat)(O Q:List Nat):Prop where
 Vr:O.length=m
 F0:Q.length=m-V.length
 zj:iE O
 CB:iE Q
 eq:val O+val V*val Q=U0
 lt:val O<val V*4294967296^k
 qz:∀ i,i<k->Q.getD i 0=0
def sw.step{U0 k m x:Nat}{V O Q O2:List Nat}(h:sw U0 V (k+1) m O Q)(hk:k<m-V.length)(hl:O2.length=m)(mi:iE O2)(hx:x<4294967296)
 (he:val O2+x*(4294967296^k*val V)=val O) (im:val O2<val V*4294967296^k):sw U0 V k m O2 (Q.set k x):=by
 have yO:k<Q.length:=by rw[h.F0];exact hk
 have hv:=CR (x:=x) yO;rw[h.qz k (ej k),cI,bS]at hv;refine⟨hl,by rw[cY];exact h.F0,mi,h.CB.set _ hx,?_,im,λi hi=>by rw[Ak aC];exact h.qz i aC⟩;rw[hv,bO,show val V*(4294967296^k*x)=x*(4294967296^k*val V)by simp only[bD,dK,bA]];have:=h.eq;omega
def sw.zero{U0 k m:Nat}{V O Q:List Nat}(h:sw U0 V (k+1) m O Q)(hV:iE V){i:Nat}(hi:k+V.length<i):O.getD i 0=0:=by
 refine ali h.zj (k:=k+V.length+1) ?_ hi;refine eZ h.lt ?_;have:=df (oA hV) (pw (k+1));rw[<-bh,(aC:V.length+(k+1)=k+V.length+1)]at this;exact this
def sw.aeV{U0 k m:Nat}{V O Q:List Nat}(h:sw U0 V (k+1) m O Q)(hV:iE V)(hn:2<=V.length)(hN:2147483648<=V.getD (V.length-1) 0):
 O.getD (k+V.length) 0<=V.getD (V.length-1) 0/\∀ g,g<=4294967295 ->
  g<=((O.getD (k+V.length) 0*4294967296+O.getD (k+V.length-1) 0)*4294967296+O.getD (k+V.length-2) 0)/(V.getD (V.length-1) 0*4294967296+V.getD (V.length-2) 0) ->
  (g=4294967295\/((O.getD (k+V.length) 0*4294967296+O.getD (k+V.length-1) 0)*4294967296+O.getD (k+V.length-2) 0)/(V.getD (V.length-1) 0*4294967296+V.getD (V.length-2) 0)<=g) ->
  val O/4294967296^k/val V<=g/\g<=val O/4294967296^k/val V+1:=by
 have t3:=YI h.zj (j:=k) hn (λi hi=>h.zero hV hi);have t2:=alg hV hn rfl;have hU:val O/4294967296^k<4294967296*val V:=by
  rw[ct (pw k)];have:=h.lt;rw[bC]at this;rw[show 4294967296*val V*4294967296^k=val V*(4294967296^k*4294967296)by simp only[bD,dK,bA]];exact this
 have w1:=h.zj.getD (k+V.length-1);have w2:=h.zj.getD (k+V.length-2);have w3:=hV.getD (V.length-2);refine⟨?_,λg g1 g2 g3=>?_⟩
 .have hP:=pw (V.length-2);have h1:val V<(V.getD (V.length-1) 0*4294967296+V.getD (V.length-2) 0+1)*4294967296^(V.length-2):=by
   rw[<-t2,<-ct hP];omega
  have h2:val O/4294967296^k/4294967296^(V.length-2)<4294967296*(V.getD (V.length-1) 0*4294967296+V.getD (V.length-2) 0+1):=by
   rw[ct hP];refine bJ hU ?_;rw[bA];exact cE _ (du h1)
  rw[t3]at h2;omega
 .rw [<-t3,<-t2]at g2 g3;exact agx (pw _) (by rw[t2];omega) hU g1 g2 g3
def sw.WS{U0 k m x:Nat}{V O Q O':List Nat}(h:sw U0 V (k+1) m O Q)(hV:iE V)(mi:iE O')(hv:val O'+x*(4294967296^k*val V)=val O+4294967296^(k+V.length+1)*1)
 (hs:∀ i,k+V.length<i->O'.getD i 0=O.getD i 0):val O'<4294967296^(k+V.length+1)/\0<x:=by
 have h1:val O'<4294967296^(k+V.length+1):=YX mi λi hi=>by rw[hs i aC];exact h.zero hV aC 
 refine⟨h1,?_⟩;rcases dZ x with h0|h0
 .subst h0;rw[cD]at hv;omega
 .exact h0
def sw.aar{U0 k m x κ:Nat}{V O Q O' O2:List Nat}(h:sw U0 V (k+1) m O Q)(hV:iE V)(hk:k<m-V.length)(mi:iE O')(hv:val O'+x*(4294967296^k*val V)=val O+4294967296^(k+V.length+1)*1)
 (hs:∀ i,k+V.length<i->O'.getD i 0=O.getD i 0) (hx:x<=4294967295) (tl:x<=val O/4294967296^k/val V+1) (wL:0<val V) (ns:O2.length=m) (Uj:iE O2) (hκ:κ<=1)
 (h2:val O2+4294967296^(k+V.length+1)*κ=val O'+4294967296^k*val V) (kF:∀ i,k+V.length<i->O2.getD i 0=O'.getD i 0):sw U0 V k m O2 (Q.set k (x-1)):=by
 obtain⟨h1,h0⟩:=h.WS hV mi hv hs;have h3:val O2<4294967296^(k+V.length+1):=YX Uj λi hi=>by rw[kF i aC,hs i aC];exact h.zero hV aC 
 rw[b5]at hv;obtain⟨_,_,e,l⟩:=acF (pw k) wL hv h1 tl hκ h2 h3;exact h.step (x:=x-1) hk ns Uj aC e l
def ahR{L:List Nat}{x s l:Nat}(hk:iE L)(hl:L.length=l+1)(hx:L.getD l 0=x)(nS:x≠0)(hs:s=32-ia x):
 s<32/\(gS (val L*2^s)).length=l+1/\2147483648<=(gS (val L*2^s)).getD l 0/\4294967296^l*2147483648<=val L*2^s/\val L*2^s<4294967296^(l+1):=by
 have nm:x<4294967296:=by rw[<-hx];exact hk.getD l
 have iQ:=nR nS;have lQ:ia x<=32:=lZ.2 nm;have h1:=rK nS;have h2:=ql x;have e1:2^(ia x-1)*2^s=2147483648:=by rw[<-bh,(aC:ia x-1+s=31)]
 have e2:2^ia x*2^s=4294967296:=by rw[<-bh,(aC:ia x+s=32)]
 have hp:0<2^s:=bj aE;have hv:val L=val (L.take l)+4294967296^l*x:=by
  have:=Bl L l;rw[cN aC,hx]at this;exact this
 have Dx:val (L.take l)<4294967296^l:=by
  have:=oA (hk.take l);rw[b8,de aC]at this;exact this
 have g1:4294967296^l*2147483648<=val L*2^s:=by
  rw[<-e1,<-bA];refine bK _ ?_;rw[hv];exact bg (cE _ h1) (Nat.le_add_left _ _)
 have g2:val L*2^s<4294967296^(l+1):=by
  have e3:4294967296^(l+1)=4294967296^l*(2^ia x*2^s):=by rw[bC,e2]
  rw[e3,<-bA];refine df ?_ hp;rw[hv];have:=cE (4294967296^l) (show x+1<=2^ia x from h2);rw[bO,b5]at this;omega
 have hlen:(gS (val L*2^s)).length=l+1:=by
  have u1:=uX g2;have u2:¬(gS (val L*2^s)).length<=l:=λh=>by
   have:=JI h;have:=pw l;omega
  omega
 refine⟨aC,hlen,?_,g1,g2⟩;rw[IP (mH _),kf];unfold oP;rw[bX (by rw[ct (pw l),bD 4294967296,<-bC];exact g2),cP (pw l),bD];exact g1
def sw.start{A s:Nat}{V O:List Nat}(hO:iE O)(hv:val O=A*2^s){la:Nat}(hA:A<4294967296^la)(hl:O.length=la+1)(hs:s<32)(hn:1<=V.length)(jA:V.length<=la)(hV:4294967296^(V.length-1)*2147483648<=val V):
 sw (A*2^s) V (la+1-V.length) (la+1) O (List.replicate (la+1-V.length) 0):=by
 refine⟨hl,aH,hO,iE.Eb _,by rw[CQ,cI,bS,hv],?_,λi _=>?_⟩
 .rw [hv];have Fk:2^s<=2^31:=bI aE aC;have aeZ:(2:Nat)^31=2147483648:= aE ;rw[aeZ]at Fk;have h1:A*2^s<4294967296^la*2^s:=df hA (bj aE);have h2:=cE (4294967296^la) Fk;have h3:=bK (4294967296^(la+1-V.length)) hV;rw[fX,<-bh,(aC:V.length-1+(la+1-V.length)=la)]at h3;omega
 .rw [bd,eF];split<;>rfl
end Go.Proofs.YtkdddbdjilcofaaGreatDoor.Fp
namespace Go.Proofs.YtkdddbdjilcofaaGreatDoor
open Go.RowKit Fp Pu
def GQ(n:Nat)(h:n<4294967296):IntKind.u64.wrap ((n:Int)*2^32)=((n*4294967296:Nat):Int):=by rw[IntKind.wrap_u64];omega
def Gt(a b:Nat)(ha:a<4294967296)(hb:b<4294967296):bits .or .u64 ((a*4294967296:Nat):Int) (b:Int)=((a*4294967296+b:Nat):Int):=by
 rw[KD _ _ aC aC,Nat.or_comm,show a*4294967296=a*2^32 by rfl,J2 b a 32 (by simpa using hb),Nat.add_comm]
def ajw{T n n' p:Nat}{L L':List Nat}{z:Nat}(hn:n=n')(hp:p<L.length)(hs:L.set p z=L'):Bx.le (.row false T n 1 λi' j'=>if i'=p/\0<=j'/\j'<0+1 then[.v (.int .u32 (z:Int))].getD (j'-0) .any else(pN L) i' j') (.row false T n' 1 (pN L')):=hs▸O3 hn hp
def RM(q rest third v w:Nat)(x:Nat):PS:=⟨32,true,[(0,.e (.v (.int .u64 ((q-x:Nat):Int)))),(1,.e (.v (.int .u64 ((rest+(x*v):Nat):Int)))),(2,.e (.v (.int .u32 (third:Int)))),(3,.e (.v (.int .u32 (v:Int)))),(4,.e (.v (.int .u32 (w:Int))))],[]⟩
def Yc(L:List Nat)(d:Nat)(x:Nat):PS:=⟨34,false,[(8,.e (iP ((L.length:Int)-1-(x:Int)))),(7,.e (.v (.int .u32 ((val L/4294967296^(L.length-x)%d:Nat):Int)))),(6,.own 11),(0,.e (gW L)),(1,.e (.v (.int .u32 (d:Int))))],[(11,.row false 96 L.length 1 (pN (pj 0 (val L/d) (L.length-x) L.length)))]⟩
def acL(h l d:Nat)(h1:h<d)(h2:l<4294967296)(h3:d<4294967296):gR 305 [.v (.int .u32 (h:Int)),.v (.int .u32 (l:Int)),.v (.int .u32 (d:Int))] (.ig [.v (.int .u32 (((h*4294967296+l)/d:Nat):Int)),.v (.int .u32 (((h*4294967296+l)%d:Nat):Int))]):=by
 have e1:(h*4294967296+l)/d<4294967296:=by rw[ct aC];omega
 have e2:(h*4294967296+l)%d<4294967296:=eZ (bE _ aC) h3;exact ak call305 func305 (ae [ah 10 ((d:Int) != 0) aN,tF 14 ((d:Int)<=h) aC,.o 18 (.int (ss _ aC):aj (.v (.int .u64 (IntKind.u64.wrap (h:Int)))) (.v (.int .u64 (h:Int)))),.a (aC:0<=(32:Int)/\(32:Int)<=((64:Nat):Int)),.o 19 (.int (GQ _ aC):aj (.v (.int .u64 (IntKind.u64.wrap ((h:Int)*2^32)))) (.v (.int .u64 ((h*4294967296:Nat):Int)))),.o 21 (.int (ss _ aC):aj (.v (.int .u64 (IntKind.u64.wrap (l:Int)))) (.v (.int .u64 (l:Int)))),.o 22 (.int (Gt _ _ aC aC):aj (.v (.int .u64 (bits .or .u64 ((h*4294967296:Nat):Int) (l:Int)))) (.v (.int .u64 ((h*4294967296+l:Nat):Int)))),.o 25 (.int (ss _ aC):aj (.v (.int .u64 (IntKind.u64.wrap (d:Int)))) (.v (.int .u64 (d:Int)))),.a (aC:0<((d:Int):Int)),
  CL ((h*4294967296+l:Nat):Int) aC,.o 27 (.int (Em _):aj (.v (.int .u32 (IntKind.u32.wrap (((h*4294967296+l)/d:Nat):Int)))) (.v (.int .u32 ((((h*4294967296+l)/d)%4294967296:Nat):Int)))),.o 30 (.int (ss _ aC):aj (.v (.int .u64 (IntKind.u64.wrap (d:Int)))) (.v (.int .u64 (d:Int)))),.a (aC:0<((d:Int):Int)),.o 32 (.int (Em _):aj (.v (.int .u32 (IntKind.u32.wrap (((h*4294967296+l)%d:Nat):Int)))) (.v (.int .u32 ((((h*4294967296+l)%d)%4294967296:Nat):Int))))]<|rQ (.ig [.v (.int .u32 ((((h*4294967296+l)/d)%4294967296:Nat):Int)),.v (.int .u32 ((((h*4294967296+l)%d)%4294967296:Nat):Int))]) (.ig [.v (.int .u32 (((h*4294967296+l)/d:Nat):Int)),.v (.int .u32 (((h*4294967296+l)%d:Nat):Int))]) (by rw[bX e1,bX e2])) 
def amJ(q rest third v w N:Nat)(hq:q<=4294967295)(hr:rest<9223372036854775808)(ht:third<4294967296)(hv:v<4294967296)(hw:w<4294967296)(hNq:N<=q)(jJ:∀ x,x<N->s5 q rest third v w x)(g1:¬rest+N*v<4294967296):gR 306 [.v (.int .u64 (q:Int)),.v (.int .u64 (rest:Int)),.v (.int .u32 (third:Int)),.v (.int .u32 (v:Int)),.v (.int .u32 (w:Int))] (.v (.int .u64 ((q-N:Nat):Int))):=
 ak call306 func306 (af [.s (Sp.jH (RM q rest third v w) 0 N aC (λx hx mw=>by
    obtain⟨g1,g2⟩:=jJ x aC;have m1:(q-x)*w<=4294967295*4294967295:=dk aC aC;have g3:0<q-x:=by
     rcases dZ (q-x)with h|h
     .rw [h,cD]at g2;omega
     .exact h
    exact iB (ae [tT 12 (((rest+(x*v):Nat):Int)<4294967296) aC,.o 16 (.int (ss _ aC):aj (.v (.int .u64 (IntKind.u64.wrap (w:Int)))) (.v (.int .u64 (w:Int)))),
     CL (((q-x:Nat):Int)*(w:Int)) aC,.a (aC:0<=(32:Int)/\(32:Int)<=((64:Nat):Int)),.o 19 (.int (GQ _ aC):aj (.v (.int .u64 (IntKind.u64.wrap (((rest+(x*v):Nat):Int)*2^32)))) (.v (.int .u64 (((rest+(x*v))*4294967296:Nat):Int)))),.o 21 (.int (ss _ aC):aj (.v (.int .u64 (IntKind.u64.wrap (third:Int)))) (.v (.int .u64 (third:Int)))),.o 22 (.int (Gt _ _ aC aC):aj (.v (.int .u64 (bits .or .u64 (((rest+(x*v))*4294967296:Nat):Int) (third:Int)))) (.v (.int .u64 ((((rest+(x*v))*4294967296)+third:Nat):Int)))),tT 23 (((((rest+(x*v))*4294967296)+third:Nat):Int)<(((q-x)*w:Nat):Int)) (Int.ofNat_lt.2 g2),CL (((q-x:Nat):Int)-1) aC,.o 29 (.int (ss _ aC):aj (.v (.int .u64 (IntKind.u64.wrap (v:Int)))) (.v (.int .u64 (v:Int)))),CL (((rest+(x*v):Nat):Int)+v) aC]<|.e (af [.o 0 (.int aO:aj (.v (.int .u64 (((q-x:Nat):Int)-1))) (.v (.int .u64 ((q-(x+1):Nat):Int)))),.o 1 (.int aO:aj (.v (.int .u64 (((rest+(x*v))+v:Nat):Int))) (.v (.int .u64 ((rest+((x+1)*v):Nat):Int))))])) aF)
  (λhx=>by
    have m1:(q-N)*w<=4294967295*4294967295:=dk aC aC;exact iB (af [tF 12 (((rest+(N*v):Nat):Int)<4294967296) aC]) aF) aI:jD 1 f306 (RM q rest third v w 0) (.exit 0) ⟨32,true,[(0,.e (.v (.int .u64 ((q-N:Nat):Int))))],[]⟩) (af [.o 0 (.int aO:aj (.v (.int .u64 (q:Int))) (.v (.int .u64 ((q-0:Nat):Int)))),.o 1 (.int aO:aj (.v (.int .u64 (rest:Int))) (.v (.int .u64 ((rest+(0*v):Nat):Int))))])]) 
def ahC(L:List Nat)(d:Nat)(hk:iE L)(hl:L.length<=1000000)(At:0<d)(Au:d<4294967296):gR 267 [gW L,.v (.int .u32 (d:Int))] (.ig [gW (oQ (val L/d) L.length),.v (.int .u32 ((val L%d:Nat):Int))]):=
 an call267 func267 (ae [.a (aC:0<=((L.length:Int):Int)/\((L.length:Int):Int)<=((L.length:Int):Int)),.a (aC:((4:Nat):Int)*(L.length:Int)<=281474976710656/\((L.length:Int):Int)<=9223372036854775807),ik ((L.length:Int)-1) aC,.s (Sp.jH (Yc L d) 0 L.length aC (λx hx mw=>by
    have T5:((L.length:Int)-1-(x:Int)).toNat=L.length-1-x:= aC ;have hld:((L.getD ((L.length:Int)-1-(x:Int)).toNat 0:Nat):Int)=(oP (val L) (L.length-1-x):Int):=by rw[T5,IP hk]
    have vV:=aj9 (a:=val L) (k:=L.length-1-x) At Au;have rU:L.length-1-x+1=L.length-x:= aC ;have mh:L.length-(x+1)=L.length-1-x:= aC ;rw[rU]at vV;have DB:=bE (val L/4294967296^(L.length-x)) At;have Mz:=Lz (val L) (L.length-1-x);have B8:(pj 0 (val L/d) (L.length-x) L.length).set ((L.length:Int)-1-(x:Int)).toNat ((val L/4294967296^(L.length-x)%d*4294967296+oP (val L) (L.length-1-x))/d)=pj 0 (val L/d) (L.length-(x+1)) L.length:=by
     rw[T5,vV.1,<-rU,ahh,mh]
    exact iB (ae [tT 16 (0<=((L.length:Int)-1-(x:Int))) aC,iX ((L.length:Int)-1-(x:Int)) (L.length) aC,.o 26 (.int hld:aj (.v (.int .u32 ((L.getD ((L.length:Int)-1-(x:Int)).toNat 0:Nat):Int))) (.v (.int .u32 (oP (val L) (L.length-1-x):Int)))),.c (acL (val L/4294967296^(L.length-x)%d) (oP (val L) (L.length-1-x)) d aC aC aC),iX ((L.length:Int)-1-(x:Int)) (L.length) aC,.a (aC:(((L.length:Int)-1-(x:Int))).toNat<L.length),ik (((L.length:Int)-1-(x:Int))-1) aC]<|.e (af [.o 8 (aq (((L.length:Int)-1-(x:Int))-1) ((L.length:Int)-1-((x+1:Nat):Int)) aO),.o 7 (.int (by rw[vV.2,mh]):aj (.v (.int .u32 ((((val L/4294967296^(L.length-x)%d)*4294967296+(oP (val L) (L.length-1-x)))%d:Nat):Int))) (.v (.int .u32 ((val L/4294967296^(L.length-(x+1))%d:Nat):Int)))),.b 11 (ajw rfl (by rw[ahg];omega) B8:Bx.le (.row false 96 L.length 1 (λi' j'=>if i'=(((L.length:Int)-1-(x:Int))).toNat/\0<=j'/\j'<0+1 then[.v (.int .u32 ((((val L/4294967296^(L.length-x)%d)*4294967296+(oP (val L) (L.length-1-x)))/d:Nat):Int))].getD (j'-0) .any else(pN (pj 0 (val L/d) (L.length-x) L.length)) i' j')) (.row false 96 L.length 1 (pN (pj 0 (val L/d) (L.length-(x+1)) L.length))))])) aF)
  (λhx=>by
    exact iB (af [tF 16 (0<=((L.length:Int)-1-(L.length:Int))) aC]) aF) aI:jD 4 f267 (Yc L d 0) (.exit 0) ⟨34,false,[(7,.e (.v (.int .u32 ((val L/4294967296^(L.length-L.length)%d:Nat):Int)))),(6,.own 11)],[(11,.row false 96 L.length 1 (pN (pj 0 (val L/d) (L.length-L.length) L.length)))]⟩) (af [.o 8 (aq ((L.length:Int)-1) ((L.length:Int)-1-((0:Nat):Int)) aO),.o 7 (.int (by rw[dt,cO (oA hk),Nat.zero_mod];rfl):aj (.v (.int .u32 0)) (.v (.int .u32 ((val L/4294967296^(L.length-0)%d:Nat):Int)))),.b 11 (Xt rfl (λi=>by rw[dt,ahf (bc _),acH]):Bx.le (.row false 96 L.length 1 (λ_ j_=>[.v (.int .u32 0)].getD j_ .any)) (.row false 96 L.length 1 (pN (pj 0 (val L/d) (L.length-0) L.length))))])]<|rR (.ig [gW (oQ (val L/d) L.length),.v (.int .u32 ((val L%d:Nat):Int))]) (.ig (.cons (by rw[cX,ahi];exact Yl (Ad _ _).symm) (.cons (.iM (by rw[cX,cw,eI])) .nil)):E.le (.ig [.sl false L.length 1 (pN (pj 0 (val L/d) (L.length-L.length) L.length)),.v (.int .u32 ((val L/4294967296^(L.length-L.length)%d:Nat):Int))]) (.ig [gW (oQ (val L/d) L.length),.v (.int .u32 ((val L%d:Nat):Int))]))) 
def Zs(w:World)(T S:List Nat)(e:Ending)(w':World):Prop:=∃ A c B d,e = .returned (.tuple #[.slice A T.length c,.slice B S.length d])/\Sl w' A c T/\Sl w' B d S/\iC w w'
def Ow.rx{w:World}{base:Nat}{v:Value}{L:List Nat}(h:Ow w base v L)(hl:L≠[]):∃ g cap R,v = .slice (some ⟨g,0,none⟩) L.length cap/\base<=g/\g<w.heap.size/\Rx w g L R/\L.length<=cap/\cap<=maxLen:=by
 rcases h.row.2 with⟨_,h0⟩|⟨g,cap,cur,rfl,hb,hg,oF,nM,mR,FL⟩
 .exact absurd (di h0) hl
 .refine ⟨g,cap,cur.toList.drop L.length,rfl,hb,(cS.1 hg).1,?_,oF,nM⟩;unfold Rx;rw[hg];rw[b5]at FL;rw[<-FL,ado]
def Rx.sl{w:World}{b cap:Nat}{L:List Nat}{R:List Value}(h:Rx w b L R)(hk:iE L)(hc:L.length<=cap)(hm:cap<=maxLen)(n:Nat):Sl w (some ⟨b,0,none⟩) cap (L.take n):=
 ⟨by rw[b8];omega,by unfold maxLen at hm;omega,hk.take n,(λh=>by cases h),λi x hx=>by
  rw[dW]at hx;split at hx
  .obtain ⟨hi,AD⟩:=bY.1 hx;refine⟨_,_,rfl,h.lt,?_⟩;rw[bZ,h.cell hi];simp[bd,hx]
  .cases hx⟩
def ag2(x:Nat)(hx:x<4294967296)(w:World):
 Calls prog 268 #[.int .u32 x] w λe w'=>e = .returned (.int .i64 ((32-ia x:Nat):Int))/\w=w':=by
 have lQ:ia x<=32:=lZ.2 hx;have H:=anq (λw=>Vq x hx w);go_enter func268,ntmps268;go_wp2_with fail;refine(H.out _).mono ?_;rintro e w' ⟨rfl,rfl⟩;go_wp2;go_ret;exact⟨oZ aC,rfl⟩
def RO(q rest third v w0 N:Nat)(w:World)(hq:q<=4294967295)(hr:rest<9223372036854775808)(ht:third<4294967296)(hv:v<4294967296)(hw:w0<4294967296)(hNq:N<=q)(jJ:∀ x,x<N->s5 q rest third v w0 x)(hN:¬s5 q rest third v w0 N):
 Calls prog 306 #[.int .u64 q,.int .u64 rest,.int .u32 third,.int .u32 v,.int .u32 w0] w λe w'=>e = .returned (.int .u64 ((q-N:Nat):Int))/\w=w':=by
 have HLO:=anq jJ;have HNN:=anq hN;clear jJ hN;go_enter func306,ntmps306;go_wp2;go_loop [0,1] (λa b=>∃ k:Nat,k<=N/\a = .int .u64 ((q-k:Nat):Int)/\b = .int .u64 ((rest+k*v:Nat):Int)) (λa _=>(intOf a).toNat+0*N)
 case atStart=>exact⟨0,bV _,by go_num,by go_num⟩
 case round=>
  obtain⟨k,hk,rfl,rfl⟩:=hrel;have m1:(q-k)*w0<=4294967295*4294967295:=dk aC aC;have m2:(q-k)*w0=(q-k)*w0:=rfl;by_cases im:k<N
  .have hc:=HLO.out k im;have ub:0<q-k:= aC ;have Uh:rest+(k+1)*v=rest+k*v+v:=by rw[bR,bU];omega
   have HX:=anq Uh;clear Uh;unfold s5 at hc;have Cd:IntKind.u64.wrap (((q-k:Nat):Int)*(w0:Int))=(((q-k)*w0:Nat):Int):=by rw[<-ek];exact ss _ aC 
   generalize rest+k*v=y at *
   generalize hz:(q-k)*w0=z at *
   have xN:q-k=q-(k+1)+1:= aC ;have HQ:=anq xN;obtain⟨p,hp⟩:∃ p,p=q-k:=⟨_,rfl⟩
   rw[<-hp]at Cd ub xN HQ ⊢;have HP:=anq hp;have B4:p<=4294967295:= aC ;clear hp hz xN;have FK:=GQ y hc.1;have vS:=Gt y third hc.1 ht;have g2:=hc.2;have g1:=hc.1;clear hc;rw[show((y*4294967296:Nat):Int)=y*4294967296 by omega]at vS FK;have d1:decide ((y:Int)<4294967296)=true:=a6 aC;have d2:decide ((y:Int)*4294967296+(third:Int)<z)=true:=a6 aC;have Ji:IntKind.u64.wrap ((p:Int)-1)=((p-1:Nat):Int):=by rw[IntKind.wrap_u64];omega
   go_wp2;go_round
   case rel=>
    have e1:=HP.out;exact⟨k+1,aC,by go_num,by rw[HX.out];go_num⟩
   case measure=>simp[intOf];omega
  .obtain rfl:k=N:= aC ;have hn:=HNN.out;clear HNN HLO;unfold s5 at hn;have Cd:IntKind.u64.wrap (((q-k:Nat):Int)*(w0:Int))=(((q-k)*w0:Nat):Int):=by rw[<-ek];exact ss _ aC 
   generalize rest+k*v=y at *
   generalize (q-k)*w0=z at *
   obtain⟨p,hp⟩:∃ p,p=q-k:=⟨_,rfl⟩
   rw[<-hp]at Cd ⊢;have HP:=anq hp;clear hp;by_cases g1:y<4294967296
   .have FK:=GQ y g1;have vS:=Gt y third g1 ht;rw[show((y*4294967296:Nat):Int)=y*4294967296 by omega]at vS FK;have d1:decide ((y:Int)<4294967296)=true:=a6 aC;have d2:decide ((y:Int)*4294967296+(third:Int)<z)=false:=a7 aC;clear hn;go_wp2;go_ret;exact⟨oZ (by rw[<-HP.out]),rfl⟩
   .have d1:decide ((y:Int)<4294967296)=false:=a7 aC ;clear hn Cd;go_wp2;go_ret;exact⟨oZ (by rw[<-HP.out]),rfl⟩
def aeW(ij next third v w0:Nat)(hv:2147483648<=v)(qZ:v<4294967296)(hn:next<4294967296)(ht:third<4294967296)(hw:w0<4294967296)(htv:ij<=v):
 ∃ g,g<=4294967295/\g<=((ij*4294967296+next)*4294967296+third)/(v*4294967296+w0)/\(g=4294967295\/((ij*4294967296+next)*4294967296+third)/(v*4294967296+w0)<=g) /\
  ∀ w,Calls prog 269 #[.int .u32 ij,.int .u32 next,.int .u32 third,.int .u32 v,.int .u32 w0] w λe w'=>e = .returned (.int .u64 (g:Int))/\∃ m,w'=w.drewN m:=by
 by_cases k1:v<=ij
 .obtain ⟨N,hN3,pU,xH,sA,g1,g2⟩:=RN (X:=ij*4294967296+next) (q:=4294967295) (rest:=(ij-v)*4294967296+next+v) (third:=third) (v:=v) (w:=w0) aC (bc _) hv hw;refine⟨4294967295-N,aC,g1,g2.elim (λh=>.inl (by rw[h])) .inr,λw=>?_⟩;clear g1 g2;have H:=λw=>RO 4294967295 ((ij-v)*4294967296+next+v) third v w0 N w aC aC ht qZ hw pU xH sA
  clear xH sA;obtain rfl:v=ij:= aC ;have tf:(v-v)*4294967296+next+v=next+v:= aC 
  rw[tf,Int.natCast_add]at H;have HD:=anq H;clear H;have d1:decide ((v:Int)<=v)=true:=a6 aC;go_enter func269,ntmps269;go_wp2_with fail;refine(HD.out _).mono ?_;rintro e w' ⟨rfl,rfl⟩;go_wp2;go_ret;exact⟨rfl,0,rfl⟩
 .have d1:=cB (ij*4294967296+next) v;have d2:=bE (ij*4294967296+next) (aC:0<v);have d3:(ij*4294967296+next)/v<4294967296:=by rw[ct aC];omega
  obtain⟨N,hN3,pU,xH,sA,g1,g2⟩:=RN (X:=ij*4294967296+next) (q:=(ij*4294967296+next)/v) (rest:=(ij*4294967296+next)%v) (third:=third) (v:=v) (w:=w0) (by rw[bD];exact d1) aC hv hw;have g3:=acG (x:=ij*4294967296+next) (v:=v) (w:=w0) (third:=third) aC ht;refine⟨(ij*4294967296+next)/v-N,aC,g1,.inr ?_,λw=>?_⟩
  .rcases g2 with rfl|g2
   .exact g3
   .exact g2
  have H:=λw=>RO ((ij*4294967296+next)/v) ((ij*4294967296+next)%v) third v w0 N w (Nat.le_of_lt_succ d3) (eZ d2 aC) ht qZ hw pU xH sA
  rw[Int.natCast_ediv,Int.natCast_emod]at H;have HD:=anq H;clear H g1 g2 g3 pU xH sA d1 d2 d3;have d1:decide ((v:Int)<=ij)=false:=a7 aC;have FK:=GQ ij aC;have vS:=Gt ij next aC hn
  rw[show((ij*4294967296:Nat):Int)=ij*4294967296 by omega]at vS FK;have nS:((ij*4294967296+next:Nat):Int)<18446744073709551616:= aC ;rw[show((ij*4294967296+next:Nat):Int)=ij*4294967296+(next:Int)by omega]at vS nS;have DJ:((v:Int)==0)=false:= aN ;go_enter func269,ntmps269;go_wp2;go_quiet (exact Calls.quiet_of_same ((HD.out _).mono λ_ _ ⟨h1,h2⟩=>⟨h1,h2.symm⟩));go_wp2;go_ret;exact⟨rfl,_,rfl⟩
def Fp.iC.alk{w0 w w':World}{g n:Nat}(h:iC w0 w)(k:sW g (w.drewN n) w')(hg:w0.heap.size<=g):iC w0 w':=
 (below_drewN h n).trans (k.below.mono hg)
def Fp.iC.only{w0 w w':World}{g:Nat}(h:iC w0 w)(k:sW g w w')(hg:w0.heap.size<=g):iC w0 w':=
 Below.trans h (k.below.mono hg)
def Sl.SH{w:World}{g cap:Nat}{L:List Nat}(h:Sl w (some ⟨g,0,none⟩) cap L){b:Nat}(hb:g≠b)(i:Nat)(v:Value):Sl (w.setCell ⟨b,i,none⟩ v) (some ⟨g,0,none⟩) cap L:=
 h.oH (λb' o _ e=>by cases e;exact hb) (sW.GP (sW.refl b w) i v)
def Sl.drewN{w:World}{A:Option Addr}{c:Nat}{L:List Nat}(h:Sl w A c L)(n:Nat):Sl (w.drewN n) A c L:=h.below (below_drewN (Below.refl _ _) n)
def aiA{P:Program}{f:FuncId}{args:Array Value}{w:World}{n:Nat}{v:Value}
 (h:Calls P f args (w.drewN n) λe w'=>e = .returned v/\∃ m,w'=(w.drewN n).drewN m):Calls P f args (w.drewN n) λe w''=>e = .returned v/\∃ m,w''=w.drewN m:=
 h.mono λ_ _ ⟨he,m,hm⟩=>⟨he,n+m,by rw[hm,World.drewN_drewN]⟩
set_option maxRecDepth 100000 in
set_option maxHeartbeats 8000000 in
def acT(A B:Option Addr)(c d:Nat)(L M:List Nat)(w:World)(lx ly s:Nat)(yQ:lx=(iA L).length)(Jh:ly=(iA M).length)(vV:s=32-ia ((iA M).getD (ly-1) 0))(hs:Sl w A c L)(hr:Sl w B d M)(kq:Tb w)(h1:L.length<=100000)(h2:M.length<=100000)(qX:val M<=val L)(hlen:2<=ly):
 Calls prog 236 #[.slice A L.length c,.slice B M.length d] w (Zs w (oQ (val L/val M) (lx+1-ly)) (qo (s%32) ((gS (val L%val M*2^s)).drop (s/32)))):=by
 have H1:=ve A c L w hs;have H2:=ve B d M w hr;have Tp:=pq L;unfold mz at Tp;have vL:=pq M;unfold mz at vL;have eL:=pQ L;have eM:=pQ M;rw[<-eL,<-eM]at qX ⊢;have kF:=hs.um;have nu:=hr.um;have Mi:=zJ M;have TH:iA (iA L)=iA L:=zJ L;have TL:iA (iA M)=iA M:=zJ M;have H3:=Gj A B c d (iA L) (iA M) w kF nu aC aC;generalize iA L=X at *
 generalize iA M=Y at *
 have pf:0<=ky (val X) (val Y):=by unfold ky;split<;>(try split)<;>omega
 generalize ky (val X) (val Y)=cm at *
 have TK:Y.length<=X.length:=by
  apply bL;intro h;have:=KH kF.ok Mi (aC:X.length<Y.length);omega
 clear eL eM hs hr qX;rw[<-yQ]at TK H1 H3 Tp;rw[<-Jh]at TK H2 H3 vL;have nS:Y.getD (ly-1) 0≠0:=by
  have:=(Bi Y).1 Mi aC;have e:Y.getD (ly-1) 0=Y[Y.length-1]'(aC):=by
   rw[bd,(aC:ly-1=Y.length-1)];simp[(aC:Y.length-1<Y.length)]
  rw[e];exact this
 have HN:=ahR nu.ok (l:=ly-1) aC rfl nS vV;rw[(aC:ly-1+1=ly)]at HN;obtain⟨x,hx⟩:∃ x,x=Y.getD (ly-1) 0:=⟨_,rfl⟩
 have nm:x<4294967296:=by rw[hx];exact nu.ok.getD _
 have H4:=anq (λw=>ag2 x nm w);rw[<-hx]at vV;rw[<-vV]at H4;obtain⟨ab,ao,rfl,hab,c1⟩:=nu.mA (i:=ly-1) aC;have DM:Y[ly-1]'(aC)=x:=by rw[hx];simp[bd,(aC:ly-1<Y.length)]
 rw[DM]at c1;have afC:s<32:=HN.1;have HNh:=anq HN;have H5:=λw (h:Sl w A c X)=>Wu A c X s w h aC aC 
 have H6:=λw (h:Sl w (some ⟨ab,ao,none⟩) d Y)=>Wu (some ⟨ab,ao,none⟩) d Y s w h aC aC 
 rw[TH,<-yQ,(aC:s/32+lx+1=lx+1)]at H5;rw[TL,<-Jh,(aC:s/32+ly+1=ly+1)]at H6;have H5h:=anq H5;have H6h:=anq H6;have HX:=anq yQ;have HY:=anq Jh;have HS2:=anq kF;have HR2:=anq nu;have H1h:=anq H1;have H2h:=anq H2;have H3h:=anq H3;clear H1 H2 H3 H5 H6 TH TL HN yQ Jh hx DM vV nS kF nu Mi;have Cd:(ly:Int)-1=((ly-1:Nat):Int):= aC ;have d0:decide (cm<0)=false:=a7 aC;have d2:decide ((lx:Int)+1<=(lx:Int))=false:=a7 aC;have vR:=F7 (lx+1-ly) aC;rw[show((lx+1-ly:Nat):Int)=lx+1-(ly:Int)by omega]at vR;have d1:((ly:Int)==1)=false:= aN ;go_enter func236,ntmps236;go_wp2_with fail;refine H1h.out.mono ?_;rintro e w' ⟨rfl,rfl⟩;go_wp2_with fail;refine H2h.out.mono ?_;rintro e w' ⟨rfl,rfl⟩;go_wp2_with fail;refine H3h.out.mono ?_;rintro e w1 ⟨rfl,iQ⟩;have c2:=c1;rw[<-(iQ.cell (p:=⟨ab,ao+(ly-1),none⟩) hab)]at c2;go_wp2_with fail;refine(H4.out _).mono ?_;rintro e w2 ⟨rfl,rfl⟩;go_wp2_with fail;refine(H5h.out _ (HS2.out.below iQ)).mono ?_;rintro e w2 ⟨T,v1,he,Dq,Fl,oq,lQ⟩;obtain⟨g,cap,R,FN,TX,TY,Ty,Ds,afe⟩:=oq.rx (by intro h;rw[h]at Fl;simp at Fl);have TD:=anq oq.ok;rw[Fl]at FN Ds;subst FN;subst he;clear oq;have HTv:=anq Dq;have HTl:=anq Fl;clear Dq Fl;go_wp2_with fail;refine(H6h.out _ ((HR2.out.below iQ).below lQ)).mono ?_;rintro e w3 ⟨S,v2,he,TC,BL,oq,qV⟩;have IW:=Ty.pX (qV.block g TY);obtain⟨g',cap',R',qZ,afk,amo,_,aml,_⟩:=oq.rx (by intro h;rw[h]at BL;simp at BL);obtain⟨_,_,e2,Mm⟩:=oq.sl;rw[qZ]at e2;cases e2;have I6:g'≠g:= aC 
 have H7:=ve (some ⟨g',0,none⟩) cap' S w3 Mm;have hV:iA S=gS (val Y*2^s):=by rw[sr oq.ok,TC]
 have yH:=Mm.um;rw[hV]at H7 yH;rw[HNh.out.2.1,BL]at H7;rw[BL]at qZ;have afa:iC w w3:=(iQ.trans lQ).trans qV;subst qZ;subst he;have H7h:=anq H7;clear oq Mm hV TC BL H7 Ty lQ qV;go_wp2_with fail;refine H7h.out.mono ?_;rintro e w4 ⟨rfl,rfl⟩;go_wp2;go_loop [9] (λu=>u = .slice (some ⟨g,0,none⟩) (lx+1) cap) (λ_=>0)
 case atStart=>rfl
 case round=>
  subst hrel;go_wp2;have xK:=Rw.AO w3 (lx+1-ly);have Jk:=HNh.out.2.1;have xH:=HNh.out.2.2.1;have sA:=HNh.out.2.2.2.1;have TF:=mH (val Y*2^s);have Ms:=kf (val Y*2^s);rw[<-Ms]at sA;generalize gS (val Y*2^s)=V at *
  have xG:=sw.start (A:=val X) (s:=s) (V:=V) (O:=T) TD.out HTv.out (la:=lx) (by rw[HX.out];exact oA HS2.out.ok) HTl.out afC aC aC (by rw[Jk];exact sA);have TB:=yH.alloc (.cells (oj (List.replicate (lx+1-ly) 0)).toArray 96);have Tz:Rx (w3.alloc (.cells (oj (List.replicate (lx+1-ly) 0)).toArray 96)) g T R:=IW.pX ((iC.alloc w3 _).block g (by have:=IW.lt;omega));rw[Jk]at xG;have HD0:=anq xG;have HR0:=anq xK;have HRx:=anq Tz;have HSV:=anq TB;have HE0:=anq (afa.trans (iC.alloc w3 (.cells (oj (List.replicate (lx+1-ly) 0)).toArray 96)));have HnV:=anq Jk;have HVok:=anq TF;have HVv:=anq Ms;have HN1:=anq xH;have hgq:g<w3.heap.size:=IW.lt;have TZ:w.heap.size<=g:=bg iQ.size TX;clear xG xK Tz TB yH IW Jk TF Ms xH sA HTv HTl TD H1h H2h H3h H4 H5h H6h H7h c1 c2 d2 vR iQ TX afk TY HNh HS2 HR2;go_loopw [13] (λj wr=>∃ (k:Nat) (O Q:List Nat),k<=lx+1-ly/\j = .int .i64 ((k:Int)-1)/\sw (val X*2^s) V k (lx+1) O Q/\Rx wr g O R/\Rw wr w3.heap.size Q/\Sl wr (some ⟨g',0,none⟩) cap' V/\iC w wr) (λj _=>(intOf j+1).toNat)
  case atStart=>
   exact⟨lx+1-ly,T,_,bc _,by go_num,HD0.out,HRx.out,HR0.out,HSV.out,HE0.out⟩
  case round=>
   clear HD0 HRx HR0 HSV HE0;obtain⟨k,O,Q,hk,rfl,hD,Dp,Ml,yH,TP⟩:=hrel;have HE:=anq TP;have HSV:=anq yH;have HRQ:=anq Ml;have HRO:=anq Dp;have HD:=anq hD;clear hD TP;rcases k with _|t
   .have hO:=HD.out.Vr;have Uo:=HRO.out.sl HD.out.zj (cap:=cap) aC afe ly;have HZ:=N9 (some ⟨g,0,none⟩) cap (O.take ly) s wr Uo aQ aC;have e1:(O.take ly).length=ly:=by rw[b8];omega
    rw[e1]at HZ;have HZh:=anq HZ;have HQs:=anq (HRQ.out.sl HD.out.CB (by rw[HD.out.F0];omega));have wL:0<val V:=by
     have:=HD.out.lt;rcases dZ (val V)with h|h
     .rw [h,cD]at this;omega
     .exact h
    have TJ:0<val Y:=by
     rw[HVv.out]at wL;exact Nat.pos_of_mul_pos_right wL
    have MC:=acQ (a:=val X) (b:=val Y) (s:=s) (q:=val Q) (r:=val O) TJ (by rw[<-HVv.out];exact HD.out.eq) (by rw[<-HVv.out];have:=HD.out.lt;rw[cw,b5]at this;exact this);have Dx:val (O.take ly)=val O:=by
     rw[alH HD.out.zj,bX];have:=HD.out.lt;rw[cw,b5]at this;refine eZ this ?_;have h:=oA HVok.out;rw[HnV.out]at h;exact h
    have qx:iA (O.take ly)=gS (val X%val Y*2^s):=by rw[sr (HD.out.zj.take ly),Dx,MC.2]
    rw[qx]at HZh;have IU:=HD.out.F0;rw[HnV.out]at IU;have Tw:oQ (val X/val Y) (lx+1-ly)=Q:=LA HD.out.CB IU MC.1;have HQd:=anq Tw;generalize qo (s%32) ((gS (val X%val Y*2^s)).drop (s/32))=Z at *
    have HQl:=anq IU;clear MC Dx qx Tw Uo HZ e1 IU hO wL TJ yH Dp Ml;go_wp2_with fail;refine HZh.out.mono ?_;rintro e w5 ⟨AZ,cZ,rfl,hZs,TM⟩;go_wp2;go_ret2;have hq:=HQs.out.below TM;rw[HQl.out]at hq;exact⟨_,_,_,_,by rw[Ad];rfl,by rw[HQd.out];exact hq,hZs,HE.out.trans TM⟩
   .have hO:=HD.out.Vr;have c4:=Dp.cell (i:=t+ly) aC;have c5:=Dp.cell (i:=t+ly-1) aC;have c6:=Dp.cell (i:=t+ly-2) aC;obtain⟨_,_,e1,_,c7⟩:=yH.mA (i:=ly-1) (by rw[HnV.out];omega);obtain⟨_,_,e2,_,c8⟩:=yH.mA (i:=ly-2) (by rw[HnV.out];omega);cases e1;cases e2;rw[bZ]at c7 c8;have v7:V[ly-1]'(by rw[HnV.out];omega)=V.getD (ly-1) 0:=by simp[bd,HnV.out,(aC:ly-1<ly)]
    have v8:V[ly-2]'(by rw[HnV.out];omega)=V.getD (ly-2) 0:=by simp[bd,HnV.out,(aC:ly-2<ly)]
    rw[v7]at c7;rw[v8]at c8;clear v7 v8;have mi:=HD.out.zj;have o4:=mi.getD (t+ly);have o5:=mi.getD (t+ly-1);have o6:=mi.getD (t+ly-2);have o7:=HVok.out.getD (ly-1);have o8:=HVok.out.getD (ly-2);have hG:=HD.out.aeV HVok.out (by rw[HnV.out];omega) (by rw[HnV.out];exact HN1.out);rw[HnV.out]at hG;obtain⟨gd,g1,g2,g3,g4⟩:=aeW (O.getD (t+ly) 0) (O.getD (t+ly-1) 0) (O.getD (t+ly-2) 0) (V.getD (ly-1) 0) (V.getD (ly-2) 0) HN1.out o7 o5 o6 o8 hG.1;have HGq:=anq (hG.2 gd g1 g2 g3);have HG:=anq g4;clear hG g2 g3 g4 mi yH Dp Ml;generalize O.getD (t+ly) 0=x4 at *
    generalize O.getD (t+ly-1) 0=x5 at *
    generalize O.getD (t+ly-2) 0=x6 at *
    have HV1:=anq (rfl:V.getD (ly-1) 0=V.getD (ly-1) 0);generalize hx7:V.getD (ly-1) 0=x7 at *
    generalize V.getD (ly-2) 0=x8 at *
    clear hx7 HV1;have i1:(((t+1:Nat):Int)-1)=(t:Int):= aC ;have i2:((t:Int)+ly).toNat=t+ly:= aC ;have i3:((t:Int)+ly-1).toNat=t+ly-1:= aC ;have i4:((t:Int)+ly-2).toNat=t+ly-2:= aC ;have i6:((ly:Int)-2)=((ly-2:Nat):Int):= aC ;have p1:IntKind.i64.wrap ((t:Int)+ly)=(t:Int)+ly:=i64_in _ aC aC;have p2:IntKind.i64.wrap ((t:Int)+ly-1)=(t:Int)+ly-1:=i64_in _ aC aC;have p3:IntKind.i64.wrap ((t:Int)+ly-2)=(t:Int)+ly-2:=i64_in _ aC aC;have p4:IntKind.i64.wrap ((ly-1:Nat):Int)=((ly-1:Nat):Int):=i64_in _ aC aC;have p5:IntKind.i64.wrap ((ly-2:Nat):Int)=((ly-2:Nat):Int):=i64_in _ aC aC;have j6:((ly-1:Nat):Int)<ly:= aC ;have j7:((ly-2:Nat):Int)<ly:= aC ;have j0:0<=(t:Int)+ly:= aC ;have j1:0<=(t:Int)+ly-1:= aC ;have j2:0<=(t:Int)+ly-2:= aC ;have j3:(t:Int)+ly<lx+1:= aC ;have j4:(t:Int)+ly-1<(lx:Int)+1:= aC ;have j5:(t:Int)+ly-2<(lx:Int)+1:= aC ;rw[i1];clear i1;go_wp2;go_quiet (exact aiA (HG.out _));go_wp2_with fail;have HTk:=akX g t (cap-t) cap' gd O V R (some ⟨g',0,none⟩) (wr.drewN nq) (HRO.out.pX rfl) (HSV.out.drewN nq) (λb' o _ e=>by cases e;exact I6) HD.out.zj (by rw[HnV.out];omega) g1 aC;rw[HnV.out,(aC:ly+1=t+ly+1-t)]at HTk;refine HTk.mono ?_;rintro e w5 ⟨O',δ,rfl,Tx,qf,DE,hδ,kE,Jq,DF⟩;have HRO':=anq Tx;have HON:=anq DF;have HSV5:=anq ((HSV.out.drewN nq).oH (λb' o _ e=>by cases e;exact I6) DF);have HRQ5:=anq (show Rw w5 w3.heap.size Q from(DF.oH _ aC).trans HRQ.out);have HE5:=anq (show iC w w5 from Fp.iC.alk HE.out DF TZ);have hPt:=pw t;have TG:0<val V:=by
     have:=HD.out.lt;rcases dZ (val V)with h|h
     .rw [h,cD]at this;omega
     .exact h
    have wg:IntKind.u32.wrap (gd:Int)=gd:=by rw[IntKind.wrap_u32];omega
    have htm:(t:Int)<lx+1-(ly:Int):= aC ;have Uv:t<Q.length:=by rw[HD.out.F0,HnV.out];omega
    have Mk:=bt Uv;have cq:=HRQ5.out.cell Mk;have fq:=HRQ5.out.frozen t;generalize Q[t]=q0 at *
    have HQG:=anq Mk;clear Mk Uv c4 c5 c6 c7 c8 HRO HRQ HSV HE HTk Tx DF;rcases fA δ 1 with UN|hδ1
    .obtain rfl:δ=0:= aC ;have To:=RQ hPt TG (by rw[kE,cI,bS]) HGq.out.1;have HDS:=anq (HD.out.step (x:=gd) (by rw[HnV.out];omega) (by rw[qf,hO]) DE aC (by rw[kE,cI,bS]) To.2);clear To kE Jq DE qf HD HGq;have HRQ6:=anq (λx:Nat=>HRQ5.out.set t x);have HRO6:=anq (λv:Value=>HRO'.out.pX (w':=w5.setCell ⟨w3.heap.size,t,none⟩ v) (by simp only[World.setCell,eP];rw[aY aC]));have HSV6:=anq (λv:Value=>HSV5.out.SH (b:=w3.heap.size) aC t v);have HE6:=anq (λv:Value=>HE5.out.setCell (p:=⟨w3.heap.size,t,none⟩) (by show w.heap.size<=w3.heap.size;omega) v);go_wp2;go_roundw
     case rel=>exact⟨t,O',Q.set t gd,aC,by go_num,HDS.out,HRO6.out _,HRQ6.out _,HSV6.out _,HE6.out _⟩
     case measure=>simp[intOf]
    .obtain rfl:δ=1:= aC ;have tZ:=HD.out.WS (x:=gd) HVok.out DE (by rw[HnV.out];exact kE) (by rw[HnV.out];exact Jq);have BQ:=tZ.2;have HB:=anq (λ(κ:Nat) (O2:List Nat)=>HD.out.aar (x:=gd) (κ:=κ) (O2:=O2) HVok.out (by rw[HnV.out];omega) DE (by rw[HnV.out];exact kE) (by rw[HnV.out];exact Jq) g1 HGq.out.2 TG);have HP0:=anq (xn.start DE t V);have Ua:O'.length=lx+1:=by rw[qf,hO]
     have HL':=anq Ua;have hxm:IntKind.u64.wrap ((gd:Int)-1)=((gd-1:Nat):Int):=by rw[IntKind.wrap_u64];omega
     have wg1:IntKind.u32.wrap ((gd-1:Nat):Int)=((gd-1:Nat):Int):=by rw[IntKind.wrap_u32];omega
     clear tZ kE Jq DE qf Ua HD HGq wg cq fq;go_wp2;go_loopw [15,125] (λcy i wr2=>∃ (k c':Nat) (O2:List Nat),k<=ly/\i = .int .i64 k/\cy = .int .u32 c'/\xn O' t V k O2 c'/\Rx wr2 g O2 R/\sW g w5 wr2) (λ_ i _=>ly-(intOf i).toNat)
     case atStart=>exact⟨0,0,O',bV _,rfl,rfl,HP0.out,HRO'.out,sW.refl _ _⟩
     case round=>
      clear HP0 HRO';obtain⟨k,c',O2,vO,rfl,rfl,hP,Am,FE⟩:=hrel;have HP:=anq hP;have Ar:=hP.Li;have ns:O2.length=lx+1:=by rw[hP.len];exact HL'.out
      have HL2:=anq ns;clear hP;by_cases im:k<ly
      .have yP:k<V.length:=by rw[HnV.out];exact im
       obtain⟨_,_,e1,_,c1⟩:=(HSV5.out.oH (λb' o _ e=>by cases e;exact I6) FE).mA yP;cases e1;rw[bZ]at c1;have v7:V[k]=V.getD k 0:=by simp[bd,yP]
       rw[v7]at c1;have pV:t+k<O2.length:= aC ;have c2:=Am.cell pV;have c3:=Am.frozen (t+k);have q9:V.getD k 0<4294967296:=HVok.out.getD k;have FM:O2.getD (t+k) 0<4294967296:=HP.out.ok.getD _;have HST:=anq (HP.out.step HVok.out yP (by rw[HL'.out,HnV.out];omega));have HRS:=anq (λx:Nat=>Am.set pV x);have HOS:=anq (λ(v:Value)=>FE.GP (t+k) v);have HA:=anq (λw=>Ey (O2.getD (t+k) 0) (V.getD k 0) c' w FM q9 Ar);clear Am FE HP v7 yP pV ns HL2;generalize O2.getD (t+k) 0=u at *
       generalize V.getD k 0=y at *
       have yL:((t:Int)+k).toNat=t+k:= aC ;have Dt:0<=(t:Int)+k:= aC ;have hi3:(t:Int)+k<lx+1:= aC ;go_wp2_with fail;refine(HA.out _).mono ?_;rintro e w6 ⟨rfl,rfl⟩;go_wp2;go_roundw
       case rel=>
        exact⟨k+1,(u+y+c')/4294967296,O2.set (t+k) ((u+y+c')%4294967296),aC,by go_num,rfl,HST.out,HRS.out _,HOS.out _⟩
       case measure=>simp[intOf];omega
      .obtain rfl:k=ly:= aC ;have Tv:=(show xn O' t V V.length O2 c' by rw[HnV.out];exact HP.out).NC (by rw[HL'.out,HnV.out];omega);rw[HnV.out]at Tv;obtain⟨q1,q2,⟨κ,q3,q4⟩,q5⟩:=Tv;have pV:t+k<O2.length:= aC ;have c2:=Am.cell pV;have c3:=Am.frozen (t+k);have FM:O2.getD (t+k) 0<4294967296:=HP.out.ok.getD _;have HDS:=anq (HB.out κ _ (by rw[q1];exact HL'.out) q2 q3 (by rw[HnV.out];exact q4) (by rw[HnV.out];exact q5));have HRS:=anq (λx:Nat=>Am.set pV x);have HOS:=anq (λ(v:Value)=>FE.GP (t+k) v);have IV:∀ v:Value,Rw (wr.setCell ⟨g,t+k,none⟩ v) w3.heap.size Q:=λv=>((HOS.out v).oH _ aC).trans HRQ5.out
       have hcq:∀ v:Value,(wr.setCell ⟨g,t+k,none⟩ v).cell? ⟨w3.heap.size,t,none⟩=some (.int .u32 (q0:Int)):=λv=>(IV v).cell HQG.out
       have hfq:∀ v:Value,(wr.setCell ⟨g,t+k,none⟩ v).frozen? ⟨w3.heap.size,t,none⟩=false:=λv=>(IV v).frozen t
       have HRQ8:=anq (λ(v:Value) (x:Nat)=>(IV v).set t x);have HRO8:=anq (λ(x:Nat) (v:Value)=>(HRS.out x).pX (w':=(wr.setCell ⟨g,t+k,none⟩ (.int .u32 (x:Int))).setCell ⟨w3.heap.size,t,none⟩ v) (by simp only[World.setCell,eP];rw[aY aC]));have HSV8:=anq (λ(v v2:Value)=>(HSV5.out.oH (λb' o _ e=>by cases e;exact I6) (HOS.out v)).SH (b:=w3.heap.size) aC t v2);have HE8:=anq (λ(v v2:Value)=>(Fp.iC.only HE5.out (HOS.out v) TZ).setCell (p:=⟨w3.heap.size,t,none⟩) (by show w.heap.size<=w3.heap.size;omega) v2);clear IV HRS HOS Am FE HP q1 q2 q3 q4 q5 pV ns HL2;generalize O2.getD (t+k) 0=u at *
       have yL:((t:Int)+k).toNat=t+k:= aC ;have Dt:0<=(t:Int)+k:= aC ;have hi3:(t:Int)+k<lx+1:= aC ;have hi4:IntKind.u32.wrap ((u:Int)+c')=(((u+c')%4294967296:Nat):Int):=by rw[IntKind.wrap_u32];omega
       generalize (u+c')%4294967296=uu at *
       go_wp2;go_roundw
       case rel=>exact⟨t,O2.set (t+k) uu,Q.set t (gd-1),aC,by go_num,HDS.out,HRO8.out _ _,HRQ8.out _ _,HSV8.out _ _,HE8.out _ _⟩
       case measure=>simp[intOf]
def akj:E.le (.v (.slice none 0 0)) (gW []):=λbs br w v h=>by
 obtain rfl:=ix.kz h;exact .sl false 0 1 _ none 0 (λ_ _=>undef) (bc _) aE (λ_=>rfl) (λi j hi=>absurd hi (bn i)) (λi j hi=>absurd hi (bn i)) (λi j hi=>absurd hi (bn i)) (λi j hi=>absurd hi (bn i))
def akk{x:Nat}:E.le (.sl false 1 1 λi_ j_=>[.v (.int .u32 (x:Int))].getD (i_*1+j_) (.v (.bool false))) (gW [x]):=.sl λi j hi hj=>by
 obtain rfl:i=0:= aC ;obtain rfl:j=0:= aC ;exact⟨.refl _,rfl⟩
def Rq(L:List Nat)(hk:iE L):gR 146 [gW L] (gW L):=Gu hk call146 (λA c w h _=>Lu A c L w h) λA c B w e w' h hB ⟨h1,h2⟩=>by
 subst h2;exact⟨_,h1,Below.refl _ _,Bf hB (Below.refl _ _) ⟨bc _,h.len,h.ok,λhn=>by have:=h.xW hn;have:=h.cap;omega,h.cell⟩⟩
def Rr(L:List Nat)(hk:iE L)(hl:L.length<=1000000):gR 92 [gW L] (gW L):=Gu hk call92 (λA c w h _=>Lv A c L w h aC) λA c B w e w' h hB r=>rl B w e w' hB r
def aht(L M:List Nat)(hL:iE L)(hM:iE M)(h1:L.length<=100000)(h2:M.length<=100000)(hc:ky (val (iA L)) (val (iA M))<0):gR 236 [gW L,gW M] (.ig [gW [],gW (iA L)]):=by
 have ta:=pq L;have tb:=pq M;unfold mz at ta tb;exact ak call236 func236 (ae [ag [gW L] (ui _ aD),ag [gW M] (ui _ aD),ag [gW (iA L),gW (iA M)] (N4 _ _ (iE.iA aD) (iE.iA aD) aC aC),tB 25 (a6 hc),ag [gW (iA L)] (Rr _ (iE.iA aD) aC)]<|rR (.ig [gW [],gW (iA L)]) (.ig (.cons akj (.cons (.refl _) .nil)):E.le (.ig [.v (.slice none 0 0),gW (iA L)]) (.ig [gW [],gW (iA L)]))) 
def ahu(L M:List Nat)(hL:iE L)(hM:iE M)(h1:L.length<=100000)(h2:M.length<=100000)(hc:¬ky (val (iA L)) (val (iA M))<0)(hl:(iA M).length=1)(At:0<(iA M).getD 0 0)(Au:(iA M).getD 0 0<4294967296):gR 236 [gW L,gW M] (.ig [gW (oQ (val (iA L)/(iA M).getD 0 0) (iA L).length),gW [val (iA L)%(iA M).getD 0 0]]):=by
 have ta:=pq L;have tb:=pq M;unfold mz at ta tb;exact ak call236 func236 (ae [ag [gW L] (ui _ aD),ag [gW M] (ui _ aD),ag [gW (iA L),gW (iA M)] (N4 _ _ (iE.iA aD) (iE.iA aD) aC aC),tB 25 (a7 hc),ah 30 (((iA M).length:Int)==1) (by rw[hl];rfl),iX 0 ((iA M).length) aC,.c (ahC (iA L) ((iA M).getD 0 0) (iE.iA aD) aC At Au)]<|rR (.ig [gW (oQ (val (iA L)/(iA M).getD 0 0) (iA L).length),gW [val (iA L)%(iA M).getD 0 0]]) (.ig (.cons (.refl _) (.cons akk .nil)):E.le (.ig [gW (oQ (val (iA L)/((iA M).getD 0 0)) (iA L).length),(.sl false 1 1 λi_ j_=>[.v (.int .u32 ((val (iA L)%((iA M).getD 0 0):Nat):Int))].getD (i_*1+j_) (.v (.bool false)))]) (.ig [gW (oQ (val (iA L)/(iA M).getD 0 0) (iA L).length),gW [val (iA L)%(iA M).getD 0 0]]))) 
def N5(L M:List Nat)(hL:iE L)(hM:iE M)(h1:L.length<=100000)(h2:M.length<=100000)(h0:val M≠0):∃ T S:List Nat,gR 236 [gW L,gW M] (.ig [gW T,gW S])/\val T=val L/val M/\val S=val L%val M/\iE T/\iE S/\T.length<=L.length/\S.length<=L.length+1:=by
 have ta:=pq L;have tb:=pq M;unfold mz at ta tb;have e1:=pQ L;have e2:=pQ M;by_cases hc:ky (val (iA L)) (val (iA M))<0
 .refine ⟨[],iA L,aht L M hL hM h1 h2 hc,?_,?_,iE.nil,hL.iA,bV _,aC⟩
  .rw [e1,e2]at hc;have:val L<val M:=by unfold ky at hc;split at hc<;>(try split at hc)<;>omega
   rw[cO this];rfl
  .rw [e1,e2]at hc;have:val L<val M:=by unfold ky at hc;split at hc<;>(try split at hc)<;>omega
   rw[bX this,e1]
 .have qX:val M<=val L:=by rw[e1,e2]at hc;unfold ky at hc;split at hc<;>(try split at hc)<;>omega
  have jh:iA M≠[]:=by intro h;rw[h]at e2;exact h0 e2.symm
  have hlen:(iA M).length≠0:=by simpa using jh
  by_cases hl:(iA M).length=1
  .obtain ⟨x,hx⟩:=List.length_eq_one_iff.1 hl;have mi:=hM.iA;rw[hx]at mi;have UG:x=val M:=by rw[<-e2,hx];simp[val]
   have hg:(iA M).getD 0 0=x:=by rw[hx];rfl
   have:=ahu L M hL hM h1 h2 hc hl (by rw[hg];omega) (by rw[hg];exact mi.head);rw[hg]at this;refine⟨_,_,this,?_,?_,EY _ _,iE.cons (eZ (bE _ aC) mi.head) iE.nil,by rw[Ad];exact ta,aH⟩
   .rw [G4,bX,e1,UG];exact ck (bT _ _) (oA hL.iA)
   .simp [val,e1,UG]
  .refine ⟨_,_,Gv hL hM call236 (λA c B d w h k hT=>acT A B c d L M w _ _ _ rfl rfl rfl h k hT h1 h2 qX aC) (λB w e w' hB ⟨A1,c1,B1,d1,q1,q2,q3,q4⟩=>⟨_,q1,q4,j9.ig (.cons (Bf hB q4 q2) (.cons (Bf hB q4 q3) (.nil _ _ _)))⟩),?_,?_,EY _ _,AW _ _,?_,?_⟩
   .rw [G4,bX];rw[ct aC];have g1:=oA hL.iA;rw[e1]at g1;refine bJ g1 ?_;obtain⟨l,qf⟩:∃ l,(iA M).length=l+1:=⟨(iA M).length-1,aC⟩
    have g2:4294967296^l<=val M:=by
     apply bL;intro q;have q2:(gS (val M)).length<=l:=uX aC;rw[<-sr hM]at q2;omega
    have g3:=cE (4294967296^((iA L).length+1-(iA M).length)) g2;rw[<-bh]at g3;refine bg ?_ g3;exact bI aE aC 
   .rw [KJ (mH _),kf,dD _ (bj aE)]
   .rw [Ad];omega
   .rw [Kq,eC];have hb:32-ia ((iA M).getD ((iA M).length-1) 0)<33:= aC ;have:=agK (mH (val L%val M)) (32-ia ((iA M).getD ((iA M).length-1) 0));rw[kf]at this;have h3:(gS (val L%val M)).length<=(gS (val L)).length:=mC (eo _ _);rw[<-sr hL]at h3;omega
def ze(m n:Nat)(h1:(gS m).length<=256)(h2:(gS n).length<=256)(h0:n≠0):gR 212 [gW (gS m),gW (gS n)] (.ig [gW (gS (m/n)),gW (gS (m%n)),iP 0]):=by
 obtain⟨T,S,Fs,hT,hS,oT,oS,_,_⟩:=N5 (gS m) (gS n) (mH m) (mH n) aC aC (by rw[kf];exact h0);rw[kf,kf]at hT hS;have hz:iA (gS n)=gS n:=Bj n;have hl:=pg h0;have ns:(((iA (gS n)).length:Int)==0)=false:=by rw[hz];exact nA hl
 exact ak call212 func212 (ae [.c (Wl (gS m) (gS n) aD aD),ag [gW (gS n)] (ui _ (mH _)),ai 18 (((iA (gS n)).length:Int)==0) ns,ag [gW (gS m),gW (gS n)] Fs,ag [gW T] (ui _ aD),ag [gW (iA T)] (Rq _ (iE.iA aD)),ag [gW S] (ui _ aD),ag [gW (iA S)] (Rq _ (iE.iA aD))]<|rQ (.ig [gW (iA T),gW (iA S),iP 0]) (.ig [gW (gS (m/n)),gW (gS (m%n)),iP 0]) (by rw[sr oT,sr oS,hT,hS])) 
def Xa(a b:Dy)(p:Nat)(up:Bool)(ha:a.gY)(hb:b.gY)(b0:b.m≠0)(ic:8<=p)(gX:p<=512):gR 171 [gV a,gV b,iP p,bP up] (.ig [gV (o0 a b p up),iP (qv a b p up)]):=by
 by_cases a0:a.m=0
 .have e1:o0 a b p up=iq/\qv a b p up=0:=by unfold o0 qv;rw[aZ a0,aZ a0];exact⟨rfl,rfl⟩
  exact ak call171 func171 (ae [.o 18 (.e (wJ _ _):aj (.sl true 2 3 λi_ j_=>(iu a++iu b).getD (i_*3+j_) (.v (.bool false))) (kg [a,b])),ag [iP p,kg [a,b]] (xd _ _ _ aD aD aC aC),ai 21 ((0:Int) != 0) aE,ai 28 (((gS b.m).length:Int)==0) (nA (pg b0)),ah 34 (((gS a.m).length:Int)==0) (tw (wa.2 a0)),.o 35 (.e qN:aj (.agg ar) (gV iq))]<|rQ (.ig [gV iq,iP 0]) (.ig [gV (o0 a b p up),iP (qv a b p up)]) (by rw[e1.1,e1.2])) 
 .have va:=ha.gS;have vb:=hb.gS;have xa:=ha.exp;have xb:=hb.exp;have ra:=ha.range.resolve_left a0;have rb:=hb.range.resolve_left b0;have pa:=nR a0;have pb:=nR b0;have hK:kX a b p 3=p+3+ia b.m-ia a.m:=rfl;have bs:=rN a0 (kX a b p 3);have z1:(gS (a.m*2^kX a b p 3)).length<=256:=ph aC;have hq:=LB a0 b0 p 3 aE;have q0:a.m*2^kX a b p 3/b.m≠0:=by intro q;rw[q,rO]at hq;omega
  have z2:(gS (a.m*2^kX a b p 3/b.m)).length<=256:=ph (by have:=wF (bT (a.m*2^kX a b p 3) b.m);omega);have z3:(gS (a.m*2^kX a b p 3%b.m)).length<=256:=ph (by have:=wF (du (bE (a.m*2^kX a b p 3) (dL b0)));omega);have jv:decide (0<(ia (a.m*2^kX a b p 3%b.m):Int))=decide (a.m*2^kX a b p 3%b.m≠0):=by
   by_cases h:a.m*2^kX a b p 3%b.m=0
   .rw [h,rO];rfl
   .have:=nR h;rw[a6 h,a6 aC]
  obtain⟨d1,d2⟩:=acR a0 b0 p up;have h0:a.m*2^kX a b p 3/b.m≠0\/a.m*2^kX a b p 3/b.m=0/\a.e-(kX a b p 3:Int)-b.e=0/\decide (0<(ia (a.m*2^kX a b p 3%b.m):Int))=false:=.inl q0;have hm:decide (0<(ia (a.m*2^kX a b p 3%b.m):Int))=true->p<ia (a.m*2^kX a b p 3/b.m):=λ_=>hq
  exact ak call171 func171 (ae [.o 18 (.e (wJ _ _):aj (.sl true 2 3 λi_ j_=>(iu a++iu b).getD (i_*3+j_) (.v (.bool false))) (kg [a,b])),ag [iP p,kg [a,b]] (xd _ _ _ aD aD aC aC),ai 21 ((0:Int) != 0) aE,ai 28 (((gS b.m).length:Int)==0) (nA (pg b0)),ai 34 (((gS a.m).length:Int)==0) (nA (pg a0)),ik ((p:Int)+3) aC,ag [gV b] (Dk _ aD),ik (((p:Int)+3)+(ia (Dy.m b):Int)) aC,ag [gV a] (Dk _ aD),
   ik ((((p:Int)+3)+(ia (Dy.m b):Int))-(ia (Dy.m a):Int)) aC,.o 44 (aq (if((((p:Int)+3)+(ia (Dy.m b):Int))-(ia (Dy.m a):Int))>0 then((((p:Int)+3)+(ia (Dy.m b):Int))-(ia (Dy.m a):Int))else 0) (kX a b p 3:Int) aM),.c (wm a.m (kX a b p 3) aC aC aC),ag [gW (gS (a.m*2^(kX a b p 3))),gW (gS b.m)] (ze _ _ aC aC aD),
   ik (a.e-(kX a b p 3:Int)) aC,ik ((a.e-(kX a b p 3:Int))-b.e) aC,ag [gW (gS ((a.m*2^(kX a b p 3))%b.m))] (sj _ aC),.c (GC (! (a.neg==b.neg)) ((a.m*2^(kX a b p 3))/b.m) ((a.e-(kX a b p 3:Int))-b.e) (decide (0<(ia ((a.m*2^(kX a b p 3))%b.m):Int))) up p aC aD aC aC aC aC aD)]<|rQ (.ig [gV (jY (!(a.neg==b.neg)) ((a.m*2^(kX a b p 3))/b.m) ((a.e-(kX a b p 3:Int))-b.e) (decide (0<(ia ((a.m*2^(kX a b p 3))%b.m):Int))) p up),iP (jN (!(a.neg==b.neg)) ((a.m*2^(kX a b p 3))/b.m) ((a.e-(kX a b p 3:Int))-b.e) (decide (0<(ia ((a.m*2^(kX a b p 3))%b.m):Int))) p up)]) (.ig [gV (o0 a b p up),iP (qv a b p up)]) (by rw[<-d1,<-d2,<-jv];rfl)) 
def W8(a b:Dy)(p:Nat)(ha:a.gY)(hb:b.gY)(b0:b.m≠0)(ic:8<=p)(gX:p<=512):gR 125 [gV a,gV b,iP p] (.ig [gV (o0 a b p false),iP (qv a b p false)]):=
 ak call125 func125 (af [.c (Xa a b p false aD aD aD aC aC)]) 
def W9(a b:Dy)(p:Nat)(ha:a.gY)(hb:b.gY)(b0:b.m≠0)(ic:8<=p)(gX:p<=512):gR 126 [gV a,gV b,iP p] (.ig [gV (o0 a b p true),iP (qv a b p true)]):=
 ak call126 func126 (af [.c (Xa a b p true aD aD aD aC aC)]) 
def U3(l:List Iv)(i:Nat):PS:=⟨19,true,[(7,.e (iP i)),(6,.e (iP l.length)),(5,.e (gZ l))],[]⟩
def U2(l:List Iv)(N:Nat)(i:Nat):PS:=⟨19,true,[(7,.e (iP i)),(6,.e (iP l.length)),(5,.e (gZ l))],[]⟩
def lG(a:Iv):E.le (.sl true 1 7 λi j=>(iF a).getD (i*7+j) (.v (.bool false))) (gZ [a]):=.sl λi j hi hj=>by
 obtain rfl:i=0:= aC ;rcases j with _|_|_|_|_|_|_|j
 all_goals first|exact⟨.refl _,rfl⟩|omega
def y5(a b:Iv):E.le (.sl true 2 7 λi j=>(iF a++iF b).getD (i*7+j) (.v (.bool false))) (gZ [a,b]):=.sl λi j hi hj=>by
 obtain rfl|rfl:i=0\/i=1:= aC 
 all_goals
  rcases j with _|_|_|_|_|_|_|j
  all_goals first|exact⟨.refl _,rfl⟩|omega
def ud{x:Iv}(h:x.gY)(ha:x.all=false):x.lo.gY/\x.hi.gY/\iO x.lo x.hi<=0:=by
 rcases h with⟨h1,_⟩|⟨_,h⟩
 .rw [ha]at h1;cases h1
 .exact h
def U5{x:Iv}(h:x.gY)(ha:x.all=true):x.lo=iq/\x.hi=iq:=by
 rcases h with⟨_,h⟩|⟨h1,_⟩
 .exact h
 .rw [ha]at h1;cases h1
def nv : gR 121 [] (ib gU):=
 ak call121 func121 (af [.o 1 (.e KO:aj (.agg [bP false,.v (.slice none 0 0),iP 0,bP false,.v (.slice none 0 0),iP 0,bP true]) (ib gU))]) 
def Cl(lo hi:Dy)(e f:Int):gR 153 [gV lo,iP e,gV hi,iP f] (ib (lH lo e hi f)):=by
 by_cases he:e=0
 .by_cases hf:f=0
  .exact ak call153 func153 (ae [ai 10 (e != 0) (by rw[he];rfl),ai 13 (f != 0) (by rw[hf];rfl)]<|rQ (ib (Iv.mk lo hi false)) (ib (lH lo e hi f)) (by rw[show lH lo e hi f=⟨lo,hi,false⟩by unfold lH;rw[aY (by simp[he,hf])]];try rfl)) 
  .exact ak call153 func153 (ae [ai 10 (e != 0) (by rw[he];rfl),ah 13 (f != 0) (by simpa using hf),.c nv]<|rQ (ib gU) (ib (lH lo e hi f)) (by rw[show lH lo e hi f=gU by unfold lH;rw[aZ (.inr hf)]])) 
 .exact ak call153 func153 (ae [ah 10 (e != 0) (by simpa using he),.c nv]<|rQ (ib gU) (ib (lH lo e hi f)) (by rw[show lH lo e hi f=gU by unfold lH;rw[aZ (.inl he)]])) 
def U7 : gR 112 [gV iq] (bP true):=
 ak call112 func112 (af [ai 4 iq.neg rfl,ah 10 (((gS iq.m).length:Int)==0) (tw (wa.2 rfl)),ah 15 (iq.e==0) rfl]) 
def re(x:Iv)(hx:x.gY):gR 64 [ib x] (bP true):=by
 by_cases kR:x.all=true
 .obtain ⟨h1,h2⟩:=U5 hx kR;exact ak call64 func64 (af [ah 5 x.all kR,.c (by rw[h1];exact U7:gR 112 [gV x.lo] (bP true)),.c (by rw[h2];exact U7:gR 112 [gV x.hi] (bP true))]) 
 .replace kR:x.all=false:=by simpa using kR
  obtain⟨h1,h2,h3⟩:=ud hx kR;exact ak call64 func64 (af [ai 5 x.all kR,ag [gV x.lo] (ng _ aD),ag [gV x.hi] (ng _ aD),ag [gV x.lo,gV x.hi] (kI _ _ aD aD),tB 30 (a6 h3)]) 
def U4(l:List Iv)(hl:l.length<=1000)(hv:∀ i,i<l.length->(l.getD i gU).gY)(ha:∀ i,i<l.length->(l.getD i gU).all=false):gR 113 [gZ l] (bP true):=
 ak call113 func113 (af [.s (Sp.jH (U3 l) 0 l.length aC (λi hi oR=>by
    have UB:=hv i aC;have Mt:=ha i aC;exact iB (af [tT 8 ((i:Int)<l.length) aC,iX (i:Int) (l.length) aC,ai 12 ((l.getD i gU).all) Mt,.c (re (l.getD i gU) aD),
     ik ((i:Int)+1) aC]) aF)
  (λhi=>by
    exact iB (af [tF 8 ((l.length:Int)<l.length) aC]) aF) aI:jD 2 f113 (U3 l 0) (.exit 0) ⟨19,true,[],[]⟩) .nil]) 
def Nv(l:List Iv)(hl:l.length<=1000)(hv:∀ i,i<l.length->(l.getD i gU).gY)(N:Nat)(hN:N<l.length)(ha:∀ i,i<N->(l.getD i gU).all=false)(sA:(l.getD N gU).all=true):gR 113 [gZ l] (bP false):=
 ak call113 func113 (af [.s (Sp.jH (U2 l N) 0 N aC (λi hi oR=>by
    have UB:=hv i aC;have Mt:=ha i aC;exact iB (af [tT 8 ((i:Int)<l.length) aC,iX (i:Int) (l.length) aC,ai 12 ((l.getD i gU).all) Mt,.c (re (l.getD i gU) aD),
     ik ((i:Int)+1) aC]) aF)
  (λhi=>by
    exact iB (af [tT 8 ((N:Int)<l.length) aC,iX (N:Int) (l.length) aC,ah 12 ((l.getD N gU).all) sA]) aF) aI:jD 2 f113 (U2 l N 0) .ret ⟨19,true,[(2,.e (bP false))],[]⟩) .nil]) 
def pM(x:Iv)(hx:x.gY):gR 113 [gZ [x]] (bP (!x.all)):=by
 have hv:∀ i,i<[x].length->([x].getD i gU).gY:=λi hi=>(match i,hi with
  | 0,_=>hx
  |n+1,hi=>absurd hi aH)
 cases kR:x.all with
 |true=>exact Nv [x] aH hv 0 aH (λi hi=>absurd hi (bn i)) kR
 |false=>exact U4 [x] aH hv (λi hi=>(match i,hi with
  | 0,_=>kR
  |n+1,hi=>absurd hi aH))
def y4(x y:Iv)(hx:x.gY)(hy:y.gY):gR 113 [gZ [x,y]] (bP (!(x.all||y.all))):=by
 have hv:∀ i,i<[x,y].length->([x,y].getD i gU).gY:=λi hi=>(match i,hi with
  | 0,_=>hx
  | 1,_=>hy
  |n+2,hi=>absurd hi aH)
 cases kR:x.all with
 |true=>exact Nv [x,y] aH hv 0 aH (λi hi=>absurd hi (bn i)) kR
 |false=>cases AG:y.all with
  |true=>exact Nv [x,y] aH hv 1 aH (λi hi=>(match i,hi with
   | 0,_=>kR
   |n+1,hi=>absurd hi aC)) AG
  |false=>exact U4 [x,y] aH hv (λi hi=>(match i,hi with
   | 0,_=>kR
   | 1,_=>AG
   |n+2,hi=>absurd hi aH))
def yZ(x y:Iv)(p:Nat)(hx:x.gY)(hy:y.gY)(ic:8<=p)(gX:p<=512):gR 102 [ib x,ib y,iP p] (ib (jE x y p)):=by
 by_cases hk:(x.all||y.all)=true
 .exact ak call102 func102 (ae [.o 13 (.e (y5 _ _):aj (.sl true 2 7 λi_ j_=>(iF x++iF y).getD (i_*7+j_) (.v (.bool false))) (gZ [x,y])),ag [gZ [x,y]] (y4 _ _ aD aD),ai 14 (!(x.all||y.all)) (by rw[hk];rfl),.c nv]<|rQ (ib gU) (ib (jE x y p)) (by rw[show jE x y p=gU by unfold jE;rw[aZ hk]])) 
 .replace hk:(x.all||y.all)=false:=by simpa using hk
  have kR:x.all=false:=by cases h:x.all;rfl;rw[h]at hk;simp at hk
  have AG:y.all=false:=by cases h:y.all;rfl;rw[h]at hk;simp at hk
  obtain⟨v1,v2,v3⟩:=ud hx kR;obtain⟨v4,v5,v6⟩:=ud hy AG;exact ak call102 func102 (ae [.o 13 (.e (y5 _ _):aj (.sl true 2 7 λi_ j_=>(iF x++iF y).getD (i_*7+j_) (.v (.bool false))) (gZ [x,y])),ag [gZ [x,y]] (y4 _ _ aD aD),ah 14 (!(x.all||y.all)) (by rw[hk];rfl),ag [iP p] (vZ _),ah 18 (mI (p:Int)) (rY.2 ⟨aC,aC⟩),.c (aiB x.lo y.lo p aD aD aC aC),.c (W6 x.hi y.hi p aD aD aC aC),.c (Cl (jZ (iJ x.lo y.lo) p false) (jZ (iJ x.hi y.hi) p true) (jO (iJ x.lo y.lo) p false) (jO (iJ x.hi y.hi) p true))]<|rQ (ib (lH (jZ (iJ x.lo y.lo) p false) (jO (iJ x.lo y.lo) p false) (jZ (iJ x.hi y.hi) p true) (jO (iJ x.hi y.hi) p true))) (ib (jE x y p)) (by rw[show jE x y p=_ by unfold jE;rw[aY (by rw[hk];decide)]])) 
def Jz(x:Iv)(hx:x.gY):gR 197 [ib x] (ib (pD x)):=by
 by_cases kR:x.all=true
 .exact ak call197 func197 (ae [.o 4 (.e (lG _):aj (.sl true 1 7 λi_ j_=>(iF x).getD (i_*7+j_) (.v (.bool false))) (gZ [x])),ag [gZ [x]] (pM _ aD),ai 5 (!x.all) (by rw[kR];rfl),.c nv]<|rQ (ib gU) (ib (pD x)) (by rw[show pD x=gU by unfold pD;rw[aZ kR]])) 
 .replace kR:x.all=false:=by simpa using kR
  obtain⟨v1,v2,v3⟩:=ud hx kR;exact ak call197 func197 (ae [.o 4 (.e (lG _):aj (.sl true 1 7 λi_ j_=>(iF x).getD (i_*7+j_) (.v (.bool false))) (gZ [x])),ag [gZ [x]] (pM _ aD),ah 5 (!x.all) (by rw[kR];rfl),ag [gV x.hi] (yB _ aD),ag [gV x.lo] (yB _ aD)]<|rQ (ib (Iv.mk (jo x.hi) (jo x.lo) false)) (ib (pD x)) (by rw[show pD x=⟨jo x.hi,jo x.lo,false⟩by unfold pD;rw[aY (by rw[kR];decide)]];try rfl)) 
def JB(x y:Iv)(p:Nat)(hx:x.gY)(hy:y.gY)(ic:8<=p)(gX:p<=512):gR 190 [ib x,ib y,iP p] (ib (rJ x y p)):=by
 have hn:=Cw hy;exact ak call190 func190 (af [.c (Jz y aD),.c (yZ x (pD y) p aD aD aC aC)]) 
def AK(d:Dy)(hd:d.gY):gR 73 [gV d] (ib (ml d)):=
 ak call73 func73 (af [ag [gV d] (ng _ aD)]) 
def Dj(d:Dy)(hd:d.gY):gR 48 [gV d] (gV (lN d)):=by
 have hl:=hd.gS;by_cases h0:d.m=0
 .have e1:lN d=iq:=by
   rcases hd.canon with q|q
   .unfold lN iq;rw[q.1,q.2.2]
   .omega
  exact ak call48 func48 (ae [ag [gV d] (ng _ aD),ah 10 (((gS d.m).length:Int)==0) (tw (wa.2 h0)),.o 12 (.e qN:aj (.agg ar) (gV iq))]<|rQ (gV iq) (gV (lN d)) (by rw[e1])) 
 .exact ak call48 func48 (af [ag [gV d] (ng _ aD),ai 10 (((gS d.m).length:Int)==0) (nA (pg h0)),ag [gW (gS d.m)] (Rr _ (mH _) aC)]) 
def Jx(a b:Dy)(ha:a.gY)(hb:b.gY):gR 174 [gV a,gV b] (gV (jc a b)):=by
 have hc:=Dg a b;by_cases h:(iO a b<=0)
 .exact ak call174 func174 (ae [ag [gV a,gV b] (kI _ _ aD aD),tB 8 (a6 h)]<|rQ (gV a) (gV (jc a b)) (by unfold jc;rw[aY aC])) 
 .exact ak call174 func174 (ae [ag [gV a,gV b] (kI _ _ aD aD),tB 8 (a7 h)]<|rQ (gV b) (gV (jc a b)) (by unfold jc;rw[aZ aC])) 
def Jy(a b:Dy)(ha:a.gY)(hb:b.gY):gR 114 [gV a,gV b] (gV (iZ a b)):=by
 have hc:=Dg a b;by_cases h:(0<=iO a b)
 .exact ak call114 func114 (ae [ag [gV a,gV b] (kI _ _ aD aD),tB 8 (a6 h)]<|rQ (gV a) (gV (iZ a b)) (by unfold iZ;rw[aY aC])) 
 .exact ak call114 func114 (ae [ag [gV a,gV b] (kI _ _ aD aD),tB 8 (a7 h)]<|rQ (gV b) (gV (iZ a b)) (by unfold iZ;rw[aZ aC])) 
def JA(x:Iv)(hx:x.gY):gR 123 [ib x] (iP (nn x)):=by
 by_cases kR:x.all=true
 .exact ak call123 func123 (ae [.o 5 (.e (lG _):aj (.sl true 1 7 λi_ j_=>(iF x).getD (i_*7+j_) (.v (.bool false))) (gZ [x])),ag [gZ [x]] (pM _ aD),ai 6 (!x.all) (by rw[kR];rfl)]<|rQ (iP 0) (iP (nn x)) (by rw[show nn x=0 by unfold nn;rw[aZ kR]])) 
 .replace kR:x.all=false:=by simpa using kR
  obtain⟨v1,v2,v3⟩:=ud hx kR;by_cases h1:0<x.lo.iK
  .exact ak call123 func123 (ae [.o 5 (.e (lG _):aj (.sl true 1 7 λi_ j_=>(iF x).getD (i_*7+j_) (.v (.bool false))) (gZ [x])),ag [gZ [x]] (pM _ aD),ah 6 (!x.all) (by rw[kR];rfl),ag [gV x.lo] (mP _ aD),tB 12 (a6 h1)]<|rQ (iP 1) (iP (nn x)) (by rw[show nn x=1 by unfold nn;rw[aY (by rw[kR];decide)];simp[h1]])) 
  .by_cases h2:x.hi.iK<0
   .exact ak call123 func123 (ae [.o 5 (.e (lG _):aj (.sl true 1 7 λi_ j_=>(iF x).getD (i_*7+j_) (.v (.bool false))) (gZ [x])),ag [gZ [x]] (pM _ aD),ah 6 (!x.all) (by rw[kR];rfl),ag [gV x.lo] (mP _ aD),tB 12 (a7 h1),ag [gV x.hi] (mP _ aD),tB 17 (a6 h2)]<|rQ (iP (-1)) (iP (nn x)) (by rw[show nn x = -1 by unfold nn;rw[aY (by rw[kR];decide)];simp[h1,h2]])) 
   .exact ak call123 func123 (ae [.o 5 (.e (lG _):aj (.sl true 1 7 λi_ j_=>(iF x).getD (i_*7+j_) (.v (.bool false))) (gZ [x])),ag [gZ [x]] (pM _ aD),ah 6 (!x.all) (by rw[kR];rfl),ag [gV x.lo] (mP _ aD),tB 12 (a7 h1),ag [gV x.hi] (mP _ aD),tB 17 (a7 h2)]<|rQ (iP 0) (iP (nn x)) (by rw[show nn x=0 by unfold nn;rw[aY (by rw[kR];decide)];simp[h1,h2]])) 
def FW(x:Iv)(hx:x.gY)(kR:x.all=false):gR 65 [ib x] (.ig [gV (kB x),bP true]):=by
 obtain⟨v1,v2,v3⟩:=ud hx kR;have w1:=yo v1;have w2:=yo v2;exact ak call65 func65 (af [.o 5 (.e (lG _):aj (.sl true 1 7 λi_ j_=>(iF x).getD (i_*7+j_) (.v (.bool false))) (gZ [x])),ag [gZ [x]] (pM _ aD),ah 6 (!x.all) (by rw[kR];rfl),.c (Dj x.lo aD),.c (Dj x.hi aD),.c (Jy (lN x.lo) (lN x.hi) aD aD)]) 
def af6(x:Iv)(hx:x.gY)(kR:x.all=false):gR 248 [ib x] (.ig [gV (oI x),bP true]):=by
 obtain⟨v1,v2,v3⟩:=ud hx kR;have w1:=yo v1;have w2:=yo v2;by_cases hs:nn x=0
 .exact ak call248 func248 (ae [.o 5 (.e (lG _):aj (.sl true 1 7 λi_ j_=>(iF x).getD (i_*7+j_) (.v (.bool false))) (gZ [x])),ag [gZ [x]] (pM _ aD),ah 6 (!x.all) (by rw[kR];rfl),.c (JA x aD),ah 11 ((nn x)==0) (by rw[hs];rfl),.o 12 (.e qN:aj (.agg ar) (gV iq))]<|rQ (.ig [gV iq,bP true]) (.ig [gV (oI x),bP true]) (by rw[show oI x=iq by unfold oI;rw[aZ hs]])) 
 .exact ak call248 func248 (ae [.o 5 (.e (lG _):aj (.sl true 1 7 λi_ j_=>(iF x).getD (i_*7+j_) (.v (.bool false))) (gZ [x])),ag [gZ [x]] (pM _ aD),ah 6 (!x.all) (by rw[kR];rfl),.c (JA x aD),ai 11 ((nn x)==0) (by simpa using hs),.c (Dj x.lo aD),.c (Dj x.hi aD),.c (Jx (lN x.lo) (lN x.hi) aD aD)]<|rQ (.ig [gV (jc (lN x.lo) (lN x.hi)),bP true]) (.ig [gV (oI x),bP true]) (by rw[show oI x=jc (lN x.lo) (lN x.hi)by unfold oI;rw[aY hs]])) 
def Nu(x:Iv)(hx:x.gY):gR 225 [ib x] (ib (jQ x)):=by
 by_cases kR:x.all=true
 .exact ak call225 func225 (ae [.o 8 (.e (lG _):aj (.sl true 1 7 λi_ j_=>(iF x).getD (i_*7+j_) (.v (.bool false))) (gZ [x])),ag [gZ [x]] (pM _ aD),ai 9 (!x.all) (by rw[kR];rfl),.c nv]<|rQ (ib gU) (ib (jQ x)) (by rw[show jQ x=gU by unfold jQ;rw[aZ kR]])) 
 .replace kR:x.all=false:=by simpa using kR
  obtain⟨v1,v2,v3⟩:=ud hx kR;exact ak call225 func225 (ae [.o 8 (.e (lG _):aj (.sl true 1 7 λi_ j_=>(iF x).getD (i_*7+j_) (.v (.bool false))) (gZ [x])),ag [gZ [x]] (pM _ aD),ah 9 (!x.all) (by rw[kR];rfl),.c (af6 x aD kR),.c (FW x aD kR)]<|rQ (ib (Iv.mk (oI x) (kB x) false)) (ib (jQ x)) (by rw[show jQ x=⟨oI x,kB x,false⟩by unfold jQ;rw[aY (by rw[kR];decide)]];try rfl)) 
def af1(x y:Iv)(p:Nat)(gd gu:FuncId)(DD:Dy->Dy->Bool->Dy)(EE:Dy->Dy->Bool->Int):PS:=⟨96,true,[(41,.e (iP 0)),(40,.e (.agg (iF (Iv.mk x.lo y.lo x.lo.neg)++[gW (gS x.lo.m),iP x.lo.e]++iF (Iv.mk y.hi x.hi y.lo.neg)++[gW (gS y.lo.m),iP y.lo.e]++iu x.hi++iu y.hi))),(12,.box 12 0),(10,.box 10 0),(2,.e (iP p)),(3,.e (.fn gd [])),(4,.e (.fn gu []))],[(12,.cells 44 (iF (Iv.mk (DD x.lo y.lo false) (DD x.lo y.lo true) false))),(10,.cells 44 au)]⟩
def af2(x y:Iv)(p:Nat)(gd gu:FuncId)(DD:Dy->Dy->Bool->Dy)(EE:Dy->Dy->Bool->Int):PS:=⟨96,true,[(41,.e (iP (0+1))),(40,.e (.agg (iF (Iv.mk x.lo y.lo x.lo.neg)++[gW (gS x.lo.m),iP x.lo.e]++iF (Iv.mk y.hi x.hi y.lo.neg)++[gW (gS y.lo.m),iP y.lo.e]++iu x.hi++iu y.hi))),(12,.box 12 0),(10,.box 10 0),(2,.e (iP p)),(3,.e (.fn gd [])),(4,.e (.fn gu []))],[(12,.cells 44 (iF (Iv.mk (jc (DD x.lo y.lo false) (DD x.lo y.hi false)) (iZ (DD x.lo y.lo true) (DD x.lo y.hi true)) false))),(10,.cells 44 au)]⟩
def af3(x y:Iv)(p:Nat)(gd gu:FuncId)(DD:Dy->Dy->Bool->Dy)(EE:Dy->Dy->Bool->Int):PS:=⟨96,true,[(41,.e (iP ((0+1)+1))),(40,.e (.agg (iF (Iv.mk x.lo y.lo x.lo.neg)++[gW (gS x.lo.m),iP x.lo.e]++iF (Iv.mk y.hi x.hi y.lo.neg)++[gW (gS y.lo.m),iP y.lo.e]++iu x.hi++iu y.hi))),(12,.box 12 0),(10,.box 10 0),(2,.e (iP p)),(3,.e (.fn gd [])),(4,.e (.fn gu []))],[(12,.cells 44 (iF (Iv.mk (jc (jc (DD x.lo y.lo false) (DD x.lo y.hi false)) (DD x.hi y.lo false)) (iZ (iZ (DD x.lo y.lo true) (DD x.lo y.hi true)) (DD x.hi y.lo true)) false))),(10,.cells 44 au)]⟩
def af4(x y:Iv)(p:Nat)(gd gu:FuncId)(DD:Dy->Dy->Bool->Dy)(EE:Dy->Dy->Bool->Int):PS:=⟨96,true,[(41,.e (iP (((0+1)+1)+1))),(40,.e (.agg (iF (Iv.mk x.lo y.lo x.lo.neg)++[gW (gS x.lo.m),iP x.lo.e]++iF (Iv.mk y.hi x.hi y.lo.neg)++[gW (gS y.lo.m),iP y.lo.e]++iu x.hi++iu y.hi))),(12,.box 12 0),(10,.box 10 0),(2,.e (iP p)),(3,.e (.fn gd [])),(4,.e (.fn gu []))],[(12,.cells 44 (iF (Iv.mk (jc (jc (jc (DD x.lo y.lo false) (DD x.lo y.hi false)) (DD x.hi y.lo false)) (DD x.hi y.hi false)) (iZ (iZ (iZ (DD x.lo y.lo true) (DD x.lo y.hi true)) (DD x.hi y.lo true)) (DD x.hi y.hi true)) false))),(10,.cells 44 au)]⟩
def U1(x y:Iv)(p:Nat)(gd gu:FuncId)(DD:Dy->Dy->Bool->Dy)(EE:Dy->Dy->Bool->Int)(hd:∀ a b,(a=x.lo\/a=x.hi)->(b=y.lo\/b=y.hi)->gR gd [gV a,gV b,iP (p:Int)] (.ig [gV (DD a b false),iP (EE a b false)]))
  (hu:∀ a b,(a=x.lo\/a=x.hi)->(b=y.lo\/b=y.hi)->gR gu [gV a,gV b,iP (p:Int)] (.ig [gV (DD a b true),iP (EE a b true)])) (hv:∀ a b up,(DD a b up).gY):gR 124 [ib x,ib y,iP p,.fn gd [],.fn gu []] (ib (oX DD EE x y)):=by
 exact ak call124 func124 (ae [.u 5,ah 42 (decide ((0:Int)<4)) aE]<|.w ((EE x.lo y.lo false)=0)
  (λk1=>.w ((EE x.lo y.lo true)=0)
   (λk2=>ae [.j 3 (af1 x y p gd gu DD EE)
   (af [iX 0 4 aC,iX 0 2 aC,iX 1 2 aC,.c (hd _ _ (.inl rfl) (.inl rfl):gR gd ((gV x.lo)::(gV y.lo)::(iP p)::[]) _),iX 0 2 aC,iX 1 2 aC,.c (hu _ _ (.inl rfl) (.inl rfl):gR gu ((gV x.lo)::(gV y.lo)::(iP p)::[]) _),tB 66 (aW k1),tB 69 (aW k2),ah 73 ((0:Int)==0) aE,ah 84 ((0:Int)==0) aE]),
    ik (0+1) aC,ah 42 (decide (((0+1):Int)<4)) aE]<|.w ((EE x.lo y.hi false)=0)
    (λk3=>.w ((EE x.lo y.hi true)=0)
     (λk4=>ae [.j 3 (af2 x y p gd gu DD EE)
   (ae [iX (0+1) 4 aC,iX 0 2 aC,iX 1 2 aC,.c (hd _ _ (.inl rfl) (.inr rfl):gR gd ((gV x.lo)::(gV y.hi)::(iP p)::[]) _),iX 0 2 aC,iX 1 2 aC,.c (hu _ _ (.inl rfl) (.inr rfl):gR gu ((gV x.lo)::(gV y.hi)::(iP p)::[]) _),tB 66 (aW k3),tB 69 (aW k4),ai 73 (((0+1):Int)==0) aE,ag [gV (DD x.lo y.hi false),gV (DD x.lo y.lo false)] (kI _ _ (hv _ _ _) (hv _ _ _))]<|.w ((iO (DD x.lo y.hi false) (DD x.lo y.lo false))<0)
    (λm1=>ae [tB 79 (a6 m1),ai 84 (((0+1):Int)==0) aE,ag [gV (DD x.lo y.hi true),gV (DD x.lo y.lo true)] (kI _ _ (hv _ _ _) (hv _ _ _))]<|.w (0<(iO (DD x.lo y.hi true) (DD x.lo y.lo true)))
     (λm2=>ae [tB 90 (a6 m2)]<|.e (af [.b 12 (.iM (by rw[show jc (DD x.lo y.lo false) (DD x.lo y.hi false)=(DD x.lo y.hi false)from aZ m1,show iZ (DD x.lo y.lo true) (DD x.lo y.hi true)=(DD x.lo y.hi true)from aZ m2]):Bx.le (.cells 44 (iF (Iv.mk (DD x.lo y.hi false) (DD x.lo y.hi true) false))) (.cells 44 (iF (Iv.mk (jc (DD x.lo y.lo false) (DD x.lo y.hi false)) (iZ (DD x.lo y.lo true) (DD x.lo y.hi true)) false))))]))
     (λm2=>ae [tB 90 (a7 m2)]<|.e (af [.b 12 (.iM (by rw[show jc (DD x.lo y.lo false) (DD x.lo y.hi false)=(DD x.lo y.hi false)from aZ m1,show iZ (DD x.lo y.lo true) (DD x.lo y.hi true)=(DD x.lo y.lo true)from aY m2]):Bx.le (.cells 44 (iF (Iv.mk (DD x.lo y.hi false) (DD x.lo y.lo true) false))) (.cells 44 (iF (Iv.mk (jc (DD x.lo y.lo false) (DD x.lo y.hi false)) (iZ (DD x.lo y.lo true) (DD x.lo y.hi true)) false))))])))
    (λm1=>ae [tB 79 (a7 m1),ai 84 (((0+1):Int)==0) aE,ag [gV (DD x.lo y.hi true),gV (DD x.lo y.lo true)] (kI _ _ (hv _ _ _) (hv _ _ _))]<|.w (0<(iO (DD x.lo y.hi true) (DD x.lo y.lo true)))
     (λm2=>ae [tB 90 (a6 m2)]<|.e (af [.b 12 (.iM (by rw[show jc (DD x.lo y.lo false) (DD x.lo y.hi false)=(DD x.lo y.lo false)from aY m1,show iZ (DD x.lo y.lo true) (DD x.lo y.hi true)=(DD x.lo y.hi true)from aZ m2]):Bx.le (.cells 44 (iF (Iv.mk (DD x.lo y.lo false) (DD x.lo y.hi true) false))) (.cells 44 (iF (Iv.mk (jc (DD x.lo y.lo false) (DD x.lo y.hi false)) (iZ (DD x.lo y.lo true) (DD x.lo y.hi true)) false))))]))
     (λm2=>ae [tB 90 (a7 m2)]<|.e (af [.b 12 (.iM (by rw[show jc (DD x.lo y.lo false) (DD x.lo y.hi false)=(DD x.lo y.lo false)from aY m1,show iZ (DD x.lo y.lo true) (DD x.lo y.hi true)=(DD x.lo y.lo true)from aY m2]):Bx.le (.cells 44 (iF (Iv.mk (DD x.lo y.lo false) (DD x.lo y.lo true) false))) (.cells 44 (iF (Iv.mk (jc (DD x.lo y.lo false) (DD x.lo y.hi false)) (iZ (DD x.lo y.lo true) (DD x.lo y.hi true)) false))))])))),
      ik ((0+1)+1) aC,ah 42 (decide ((((0+1)+1):Int)<4)) aE]<|.w ((EE x.hi y.lo false)=0)
      (λk5=>.w ((EE x.hi y.lo true)=0)
       (λk6=>ae [.j 3 (af3 x y p gd gu DD EE)
   (ae [iX ((0+1)+1) 4 aC,iX 0 2 aC,iX 1 2 aC,.c (hd _ _ (.inr rfl) (.inl rfl):gR gd ((gV x.hi)::(gV y.lo)::(iP p)::[]) _),iX 0 2 aC,iX 1 2 aC,.c (hu _ _ (.inr rfl) (.inl rfl):gR gu ((gV x.hi)::(gV y.lo)::(iP p)::[]) _),tB 66 (aW k5),tB 69 (aW k6),ai 73 ((((0+1)+1):Int)==0) aE,ag [gV (DD x.hi y.lo false),gV (jc (DD x.lo y.lo false) (DD x.lo y.hi false))] (kI _ _ (hv _ _ _) (w7 (hv _ _ _) (hv _ _ _)))]<|.w ((iO (DD x.hi y.lo false) (jc (DD x.lo y.lo false) (DD x.lo y.hi false)))<0)
    (λm1=>ae [tB 79 (a6 m1),ai 84 ((((0+1)+1):Int)==0) aE,ag [gV (DD x.hi y.lo true),gV (iZ (DD x.lo y.lo true) (DD x.lo y.hi true))] (kI _ _ (hv _ _ _) (ug (hv _ _ _) (hv _ _ _)))]<|.w (0<(iO (DD x.hi y.lo true) (iZ (DD x.lo y.lo true) (DD x.lo y.hi true))))
     (λm2=>ae [tB 90 (a6 m2)]<|.e (af [.b 12 (.iM (by rw[show jc (jc (DD x.lo y.lo false) (DD x.lo y.hi false)) (DD x.hi y.lo false)=(DD x.hi y.lo false)from aZ m1,show iZ (iZ (DD x.lo y.lo true) (DD x.lo y.hi true)) (DD x.hi y.lo true)=(DD x.hi y.lo true)from aZ m2]):Bx.le (.cells 44 (iF (Iv.mk (DD x.hi y.lo false) (DD x.hi y.lo true) false))) (.cells 44 (iF (Iv.mk (jc (jc (DD x.lo y.lo false) (DD x.lo y.hi false)) (DD x.hi y.lo false)) (iZ (iZ (DD x.lo y.lo true) (DD x.lo y.hi true)) (DD x.hi y.lo true)) false))))]))
     (λm2=>ae [tB 90 (a7 m2)]<|.e (af [.b 12 (.iM (by rw[show jc (jc (DD x.lo y.lo false) (DD x.lo y.hi false)) (DD x.hi y.lo false)=(DD x.hi y.lo false)from aZ m1,show iZ (iZ (DD x.lo y.lo true) (DD x.lo y.hi true)) (DD x.hi y.lo true)=(iZ (DD x.lo y.lo true) (DD x.lo y.hi true))from aY m2]):Bx.le (.cells 44 (iF (Iv.mk (DD x.hi y.lo false) (iZ (DD x.lo y.lo true) (DD x.lo y.hi true)) false))) (.cells 44 (iF (Iv.mk (jc (jc (DD x.lo y.lo false) (DD x.lo y.hi false)) (DD x.hi y.lo false)) (iZ (iZ (DD x.lo y.lo true) (DD x.lo y.hi true)) (DD x.hi y.lo true)) false))))])))
    (λm1=>ae [tB 79 (a7 m1),ai 84 ((((0+1)+1):Int)==0) aE,ag [gV (DD x.hi y.lo true),gV (iZ (DD x.lo y.lo true) (DD x.lo y.hi true))] (kI _ _ (hv _ _ _) (ug (hv _ _ _) (hv _ _ _)))]<|.w (0<(iO (DD x.hi y.lo true) (iZ (DD x.lo y.lo true) (DD x.lo y.hi true))))
     (λm2=>ae [tB 90 (a6 m2)]<|.e (af [.b 12 (.iM (by rw[show jc (jc (DD x.lo y.lo false) (DD x.lo y.hi false)) (DD x.hi y.lo false)=(jc (DD x.lo y.lo false) (DD x.lo y.hi false))from aY m1,show iZ (iZ (DD x.lo y.lo true) (DD x.lo y.hi true)) (DD x.hi y.lo true)=(DD x.hi y.lo true)from aZ m2]):Bx.le (.cells 44 (iF (Iv.mk (jc (DD x.lo y.lo false) (DD x.lo y.hi false)) (DD x.hi y.lo true) false))) (.cells 44 (iF (Iv.mk (jc (jc (DD x.lo y.lo false) (DD x.lo y.hi false)) (DD x.hi y.lo false)) (iZ (iZ (DD x.lo y.lo true) (DD x.lo y.hi true)) (DD x.hi y.lo true)) false))))]))
     (λm2=>ae [tB 90 (a7 m2)]<|.e (af [.b 12 (.iM (by rw[show jc (jc (DD x.lo y.lo false) (DD x.lo y.hi false)) (DD x.hi y.lo false)=(jc (DD x.lo y.lo false) (DD x.lo y.hi false))from aY m1,show iZ (iZ (DD x.lo y.lo true) (DD x.lo y.hi true)) (DD x.hi y.lo true)=(iZ (DD x.lo y.lo true) (DD x.lo y.hi true))from aY m2]):Bx.le (.cells 44 (iF (Iv.mk (jc (DD x.lo y.lo false) (DD x.lo y.hi false)) (iZ (DD x.lo y.lo true) (DD x.lo y.hi true)) false))) (.cells 44 (iF (Iv.mk (jc (jc (DD x.lo y.lo false) (DD x.lo y.hi false)) (DD x.hi y.lo false)) (iZ (iZ (DD x.lo y.lo true) (DD x.lo y.hi true)) (DD x.hi y.lo true)) false))))])))),
        ik (((0+1)+1)+1) aC,ah 42 (decide (((((0+1)+1)+1):Int)<4)) aE]<|.w ((EE x.hi y.hi false)=0)
        (λk7=>.w ((EE x.hi y.hi true)=0)
         (λk8=>ae [.j 3 (af4 x y p gd gu DD EE)
   (ae [iX (((0+1)+1)+1) 4 aC,iX 0 2 aC,iX 1 2 aC,.c (hd _ _ (.inr rfl) (.inr rfl):gR gd ((gV x.hi)::(gV y.hi)::(iP p)::[]) _),iX 0 2 aC,iX 1 2 aC,.c (hu _ _ (.inr rfl) (.inr rfl):gR gu ((gV x.hi)::(gV y.hi)::(iP p)::[]) _),tB 66 (aW k7),tB 69 (aW k8),ai 73 (((((0+1)+1)+1):Int)==0) aE,ag [gV (DD x.hi y.hi false),gV (jc (jc (DD x.lo y.lo false) (DD x.lo y.hi false)) (DD x.hi y.lo false))] (kI _ _ (hv _ _ _) (w7 (w7 (hv _ _ _) (hv _ _ _)) (hv _ _ _)))]<|.w ((iO (DD x.hi y.hi false) (jc (jc (DD x.lo y.lo false) (DD x.lo y.hi false)) (DD x.hi y.lo false)))<0)
    (λm1=>ae [tB 79 (a6 m1),ai 84 (((((0+1)+1)+1):Int)==0) aE,ag [gV (DD x.hi y.hi true),gV (iZ (iZ (DD x.lo y.lo true) (DD x.lo y.hi true)) (DD x.hi y.lo true))] (kI _ _ (hv _ _ _) (ug (ug (hv _ _ _) (hv _ _ _)) (hv _ _ _)))]<|.w (0<(iO (DD x.hi y.hi true) (iZ (iZ (DD x.lo y.lo true) (DD x.lo y.hi true)) (DD x.hi y.lo true))))
     (λm2=>ae [tB 90 (a6 m2)]<|.e (af [.b 12 (.iM (by rw[show jc (jc (jc (DD x.lo y.lo false) (DD x.lo y.hi false)) (DD x.hi y.lo false)) (DD x.hi y.hi false)=(DD x.hi y.hi false)from aZ m1,show iZ (iZ (iZ (DD x.lo y.lo true) (DD x.lo y.hi true)) (DD x.hi y.lo true)) (DD x.hi y.hi true)=(DD x.hi y.hi true)from aZ m2]):Bx.le (.cells 44 (iF (Iv.mk (DD x.hi y.hi false) (DD x.hi y.hi true) false))) (.cells 44 (iF (Iv.mk (jc (jc (jc (DD x.lo y.lo false) (DD x.lo y.hi false)) (DD x.hi y.lo false)) (DD x.hi y.hi false)) (iZ (iZ (iZ (DD x.lo y.lo true) (DD x.lo y.hi true)) (DD x.hi y.lo true)) (DD x.hi y.hi true)) false))))]))
     (λm2=>ae [tB 90 (a7 m2)]<|.e (af [.b 12 (.iM (by rw[show jc (jc (jc (DD x.lo y.lo false) (DD x.lo y.hi false)) (DD x.hi y.lo false)) (DD x.hi y.hi false)=(DD x.hi y.hi false)from aZ m1,show iZ (iZ (iZ (DD x.lo y.lo true) (DD x.lo y.hi true)) (DD x.hi y.lo true)) (DD x.hi y.hi true)=(iZ (iZ (DD x.lo y.lo true) (DD x.lo y.hi true)) (DD x.hi y.lo true))from aY m2]):Bx.le (.cells 44 (iF (Iv.mk (DD x.hi y.hi false) (iZ (iZ (DD x.lo y.lo true) (DD x.lo y.hi true)) (DD x.hi y.lo true)) false))) (.cells 44 (iF (Iv.mk (jc (jc (jc (DD x.lo y.lo false) (DD x.lo y.hi false)) (DD x.hi y.lo false)) (DD x.hi y.hi false)) (iZ (iZ (iZ (DD x.lo y.lo true) (DD x.lo y.hi true)) (DD x.hi y.lo true)) (DD x.hi y.hi true)) false))))])))
    (λm1=>ae [tB 79 (a7 m1),ai 84 (((((0+1)+1)+1):Int)==0) aE,ag [gV (DD x.hi y.hi true),gV (iZ (iZ (DD x.lo y.lo true) (DD x.lo y.hi true)) (DD x.hi y.lo true))] (kI _ _ (hv _ _ _) (ug (ug (hv _ _ _) (hv _ _ _)) (hv _ _ _)))]<|.w (0<(iO (DD x.hi y.hi true) (iZ (iZ (DD x.lo y.lo true) (DD x.lo y.hi true)) (DD x.hi y.lo true))))
     (λm2=>ae [tB 90 (a6 m2)]<|.e (af [.b 12 (.iM (by rw[show jc (jc (jc (DD x.lo y.lo false) (DD x.lo y.hi false)) (DD x.hi y.lo false)) (DD x.hi y.hi false)=(jc (jc (DD x.lo y.lo false) (DD x.lo y.hi false)) (DD x.hi y.lo false))from aY m1,show iZ (iZ (iZ (DD x.lo y.lo true) (DD x.lo y.hi true)) (DD x.hi y.lo true)) (DD x.hi y.hi true)=(DD x.hi y.hi true)from aZ m2]):Bx.le (.cells 44 (iF (Iv.mk (jc (jc (DD x.lo y.lo false) (DD x.lo y.hi false)) (DD x.hi y.lo false)) (DD x.hi y.hi true) false))) (.cells 44 (iF (Iv.mk (jc (jc (jc (DD x.lo y.lo false) (DD x.lo y.hi false)) (DD x.hi y.lo false)) (DD x.hi y.hi false)) (iZ (iZ (iZ (DD x.lo y.lo true) (DD x.lo y.hi true)) (DD x.hi y.lo true)) (DD x.hi y.hi true)) false))))]))
     (λm2=>ae [tB 90 (a7 m2)]<|.e (af [.b 12 (.iM (by rw[show jc (jc (jc (DD x.lo y.lo false) (DD x.lo y.hi false)) (DD x.hi y.lo false)) (DD x.hi y.hi false)=(jc (jc (DD x.lo y.lo false) (DD x.lo y.hi false)) (DD x.hi y.lo false))from aY m1,show iZ (iZ (iZ (DD x.lo y.lo true) (DD x.lo y.hi true)) (DD x.hi y.lo true)) (DD x.hi y.hi true)=(iZ (iZ (DD x.lo y.lo true) (DD x.lo y.hi true)) (DD x.hi y.lo true))from aY m2]):Bx.le (.cells 44 (iF (Iv.mk (jc (jc (DD x.lo y.lo false) (DD x.lo y.hi false)) (DD x.hi y.lo false)) (iZ (iZ (DD x.lo y.lo true) (DD x.lo y.hi true)) (DD x.hi y.lo true)) false))) (.cells 44 (iF (Iv.mk (jc (jc (jc (DD x.lo y.lo false) (DD x.lo y.hi false)) (DD x.hi y.lo false)) (DD x.hi y.hi false)) (iZ (iZ (iZ (DD x.lo y.lo true) (DD x.lo y.hi true)) (DD x.hi y.lo true)) (DD x.hi y.hi true)) false))))])))),
          ik ((((0+1)+1)+1)+1) aC,ai 42 (decide ((((((0+1)+1)+1)+1):Int)<4)) aE]<|rQ (ib (Iv.mk (jc (jc (jc (DD x.lo y.lo false) (DD x.lo y.hi false)) (DD x.hi y.lo false)) (DD x.hi y.hi false)) (iZ (iZ (iZ (DD x.lo y.lo true) (DD x.lo y.hi true)) (DD x.hi y.lo true)) (DD x.hi y.hi true)) false)) (ib (oX DD EE x y)) (by rw[show oX DD EE x y=⟨jc (jc (jc (DD x.lo y.lo false) (DD x.lo y.hi false)) (DD x.hi y.lo false)) (DD x.hi y.hi false),iZ (iZ (iZ (DD x.lo y.lo true) (DD x.lo y.hi true)) (DD x.hi y.lo true)) (DD x.hi y.hi true),false⟩from aZ ⟨⟨k1,k2⟩,⟨k3,k4⟩,⟨k5,k6⟩,⟨k7,k8⟩⟩];try rfl))
         (λk8=>ae [iX (((0+1)+1)+1) 4 aC,iX 0 2 aC,iX 1 2 aC,.c (hd _ _ (.inr rfl) (.inr rfl):gR gd ((gV x.hi)::(gV y.hi)::(iP p)::[]) _),iX 0 2 aC,iX 1 2 aC,.c (hu _ _ (.inr rfl) (.inr rfl):gR gu ((gV x.hi)::(gV y.hi)::(iP p)::[]) _),tB 66 (aW k7),tB 69 (aX k8),.c nv]<|rQ (ib gU) (ib (oX DD EE x y)) (by rw[show oX DD EE x y=gU from aY (by rintro⟨⟨q0,r0⟩,⟨q1,r1⟩,⟨q2,r2⟩,⟨q3,r3⟩⟩;exact k8 r3)])))
        (λk7=>ae [iX (((0+1)+1)+1) 4 aC,iX 0 2 aC,iX 1 2 aC,.c (hd _ _ (.inr rfl) (.inr rfl):gR gd ((gV x.hi)::(gV y.hi)::(iP p)::[]) _),iX 0 2 aC,iX 1 2 aC,.c (hu _ _ (.inr rfl) (.inr rfl):gR gu ((gV x.hi)::(gV y.hi)::(iP p)::[]) _),tB 66 (aX k7),.c nv]<|rQ (ib gU) (ib (oX DD EE x y)) (by rw[show oX DD EE x y=gU from aY (by rintro⟨⟨q0,r0⟩,⟨q1,r1⟩,⟨q2,r2⟩,⟨q3,r3⟩⟩;exact k7 q3)])))
       (λk6=>ae [iX ((0+1)+1) 4 aC,iX 0 2 aC,iX 1 2 aC,.c (hd _ _ (.inr rfl) (.inl rfl):gR gd ((gV x.hi)::(gV y.lo)::(iP p)::[]) _),iX 0 2 aC,iX 1 2 aC,.c (hu _ _ (.inr rfl) (.inl rfl):gR gu ((gV x.hi)::(gV y.lo)::(iP p)::[]) _),tB 66 (aW k5),tB 69 (aX k6),.c nv]<|rQ (ib gU) (ib (oX DD EE x y)) (by rw[show oX DD EE x y=gU from aY (by rintro⟨⟨q0,r0⟩,⟨q1,r1⟩,⟨q2,r2⟩,⟨q3,r3⟩⟩;exact k6 r2)])))
      (λk5=>ae [iX ((0+1)+1) 4 aC,iX 0 2 aC,iX 1 2 aC,.c (hd _ _ (.inr rfl) (.inl rfl):gR gd ((gV x.hi)::(gV y.lo)::(iP p)::[]) _),iX 0 2 aC,iX 1 2 aC,.c (hu _ _ (.inr rfl) (.inl rfl):gR gu ((gV x.hi)::(gV y.lo)::(iP p)::[]) _),tB 66 (aX k5),.c nv]<|rQ (ib gU) (ib (oX DD EE x y)) (by rw[show oX DD EE x y=gU from aY (by rintro⟨⟨q0,r0⟩,⟨q1,r1⟩,⟨q2,r2⟩,⟨q3,r3⟩⟩;exact k5 q2)])))
     (λk4=>ae [iX (0+1) 4 aC,iX 0 2 aC,iX 1 2 aC,.c (hd _ _ (.inl rfl) (.inr rfl):gR gd ((gV x.lo)::(gV y.hi)::(iP p)::[]) _),iX 0 2 aC,iX 1 2 aC,.c (hu _ _ (.inl rfl) (.inr rfl):gR gu ((gV x.lo)::(gV y.hi)::(iP p)::[]) _),tB 66 (aW k3),tB 69 (aX k4),.c nv]<|rQ (ib gU) (ib (oX DD EE x y)) (by rw[show oX DD EE x y=gU from aY (by rintro⟨⟨q0,r0⟩,⟨q1,r1⟩,⟨q2,r2⟩,⟨q3,r3⟩⟩;exact k4 r1)])))
    (λk3=>ae [iX (0+1) 4 aC,iX 0 2 aC,iX 1 2 aC,.c (hd _ _ (.inl rfl) (.inr rfl):gR gd ((gV x.lo)::(gV y.hi)::(iP p)::[]) _),iX 0 2 aC,iX 1 2 aC,.c (hu _ _ (.inl rfl) (.inr rfl):gR gu ((gV x.lo)::(gV y.hi)::(iP p)::[]) _),tB 66 (aX k3),.c nv]<|rQ (ib gU) (ib (oX DD EE x y)) (by rw[show oX DD EE x y=gU from aY (by rintro⟨⟨q0,r0⟩,⟨q1,r1⟩,⟨q2,r2⟩,⟨q3,r3⟩⟩;exact k3 q1)])))
   (λk2=>ae [iX 0 4 aC,iX 0 2 aC,iX 1 2 aC,.c (hd _ _ (.inl rfl) (.inl rfl):gR gd ((gV x.lo)::(gV y.lo)::(iP p)::[]) _),iX 0 2 aC,iX 1 2 aC,.c (hu _ _ (.inl rfl) (.inl rfl):gR gu ((gV x.lo)::(gV y.lo)::(iP p)::[]) _),tB 66 (aW k1),tB 69 (aX k2),.c nv]<|rQ (ib gU) (ib (oX DD EE x y)) (by rw[show oX DD EE x y=gU from aY (by rintro⟨⟨q0,r0⟩,⟨q1,r1⟩,⟨q2,r2⟩,⟨q3,r3⟩⟩;exact k2 r0)])))
  (λk1=>ae [iX 0 4 aC,iX 0 2 aC,iX 1 2 aC,.c (hd _ _ (.inl rfl) (.inl rfl):gR gd ((gV x.lo)::(gV y.lo)::(iP p)::[]) _),iX 0 2 aC,iX 1 2 aC,.c (hu _ _ (.inl rfl) (.inl rfl):gR gu ((gV x.lo)::(gV y.lo)::(iP p)::[]) _),tB 66 (aX k1),.c nv]<|rQ (ib gU) (ib (oX DD EE x y)) (by rw[show oX DD EE x y=gU from aY (by rintro⟨⟨q0,r0⟩,⟨q1,r1⟩,⟨q2,r2⟩,⟨q3,r3⟩⟩;exact k1 q0)]))) 
def akf{y:Iv}(hy:y.gY)(hs:nn y≠0):y.lo.m≠0/\y.hi.m≠0:=by
 unfold nn at hs;have ha:y.all=false:=by
  cases h:y.all with
  |false=>rfl
  |true=>rw[h]at hs;exact absurd rfl hs
 obtain⟨v1,v2,v3⟩:=ud hy ha;rw[ha]at hs;simp only[bB,bk]at hs;have z:∀ d:Dy,d.m=0->d.iK=0:=λd h=>by unfold Dy.iK;rw[aZ h]
 have hc:=Rt y.lo y.hi;rw[hc]at v3;constructor
 .intro h0;have:=z _ h0;rw[this]at hs v3;split at hs
  .omega
  .split at hs
   .split at v3<;>omega
   .exact hs rfl
 .intro h0;have:=z _ h0;rw[this]at hs v3;split at hs
  .split at v3<;>omega
  .split at hs
   .omega
   .exact hs rfl
def acM(a b:Dy){p:Nat}(up:Bool)(hp:1<=p)(gX:p<=4096):(o0 a b p up).gY:=by
 unfold o0;split
 .exact rn
 .exact sZ _ _ _ _ _ _ hp gX
def tp(x y:Iv)(p:Nat)(hx:x.gY)(hy:y.gY)(ic:8<=p)(gX:p<=512):gR 103 [ib x,ib y,iP p] (ib (iz x y p)):=by
 by_cases hk:(x.all||y.all)=true
 .exact ak call103 func103 (ae [.o 9 (.e (y5 _ _):aj (.sl true 2 7 λi_ j_=>(iF x++iF y).getD (i_*7+j_) (.v (.bool false))) (gZ [x,y])),ag [gZ [x,y]] (y4 _ _ aD aD),ai 10 (!(x.all||y.all)) (by rw[hk];rfl),.c nv]<|rQ (ib gU) (ib (iz x y p)) (by rw[show iz x y p=gU by unfold iz;rw[aZ hk]])) 
 .replace hk:(x.all||y.all)=false:=by simpa using hk
  have kR:x.all=false:=by cases h:x.all;rfl;rw[h]at hk;simp at hk
  have AG:y.all=false:=by cases h:y.all;rfl;rw[h]at hk;simp at hk
  obtain⟨v1,v2,v3⟩:=ud hx kR;obtain⟨v4,v5,v6⟩:=ud hy AG;exact ak call103 func103 (ae [.o 9 (.e (y5 _ _):aj (.sl true 2 7 λi_ j_=>(iF x++iF y).getD (i_*7+j_) (.v (.bool false))) (gZ [x,y])),ag [gZ [x,y]] (y4 _ _ aD aD),ah 10 (!(x.all||y.all)) (by rw[hk];rfl),ag [iP p] (vZ _),ah 14 (mI (p:Int)) (rY.2 ⟨aC,aC⟩),.c (U1 x y p 154 155 (λa b up=>jZ (jt a b) p up) (λa b up=>jO (jt a b) p up) (λa b ha hb=>J9 a b p (by rcases ha with rfl|rfl;exact v1;exact v2) (by rcases hb with rfl|rfl;exact v4;exact v5) ic gX) (λa b ha hb=>Ka a b p (by rcases ha with rfl|rfl;exact v1;exact v2) (by rcases hb with rfl|rfl;exact v4;exact v5) ic gX) (λa b up=>sZ _ _ _ _ _ _ aC aC))]<|rQ (ib (oX (λa b up=>jZ (jt a b) p up) (λa b up=>jO (jt a b) p up) x y)) (ib (iz x y p)) (by rw[show iz x y p=_ by unfold iz;rw[aY (by rw[hk];decide)]];rfl)) 
def y3(x y:Iv)(p:Nat)(hx:x.gY)(hy:y.gY)(ic:8<=p)(gX:p<=512):gR 75 [ib x,ib y,iP p] (ib (jj x y p)):=by
 by_cases hk:(x.all||y.all)=true
 .exact ak call75 func75 (ae [.o 9 (.e (y5 _ _):aj (.sl true 2 7 λi_ j_=>(iF x++iF y).getD (i_*7+j_) (.v (.bool false))) (gZ [x,y])),ag [gZ [x,y]] (y4 _ _ aD aD),ai 10 (!(x.all||y.all)) (by rw[hk];rfl),.c nv]<|rQ (ib gU) (ib (jj x y p)) (by rw[show jj x y p=gU by unfold jj;rw[aZ (by rw[hk];rfl)]])) 
 .replace hk:(x.all||y.all)=false:=by simpa using hk
  have kR:x.all=false:=by cases h:x.all;rfl;rw[h]at hk;simp at hk
  have AG:y.all=false:=by cases h:y.all;rfl;rw[h]at hk;simp at hk
  obtain⟨v1,v2,v3⟩:=ud hx kR;obtain⟨v4,v5,v6⟩:=ud hy AG;by_cases hs:nn y=0
  .exact ak call75 func75 (ae [.o 9 (.e (y5 _ _):aj (.sl true 2 7 λi_ j_=>(iF x++iF y).getD (i_*7+j_) (.v (.bool false))) (gZ [x,y])),ag [gZ [x,y]] (y4 _ _ aD aD),ah 10 (!(x.all||y.all)) (by rw[hk];rfl),ag [iP p] (vZ _),ah 14 (mI (p:Int)) (rY.2 ⟨aC,aC⟩),.c (JA y aD),ah 20 ((nn y)==0) (by rw[hs];rfl),.c nv]<|rQ (ib gU) (ib (jj x y p)) (by rw[show jj x y p=gU by unfold jj;rw[aZ (by rw[hk,a6 hs];rfl)]])) 
  .obtain ⟨n1,n2⟩:=akf hy hs;exact ak call75 func75 (ae [.o 9 (.e (y5 _ _):aj (.sl true 2 7 λi_ j_=>(iF x++iF y).getD (i_*7+j_) (.v (.bool false))) (gZ [x,y])),ag [gZ [x,y]] (y4 _ _ aD aD),ah 10 (!(x.all||y.all)) (by rw[hk];rfl),ag [iP p] (vZ _),ah 14 (mI (p:Int)) (rY.2 ⟨aC,aC⟩),.c (JA y aD),ai 20 ((nn y)==0) (by simpa using hs),.c (U1 x y p 125 126 (λa b up=>o0 a b p up) (λa b up=>qv a b p up) (λa b ha hb=>W8 a b p (by rcases ha with rfl|rfl;exact v1;exact v2) (by rcases hb with rfl|rfl;exact v4;exact v5) (by rcases hb with rfl|rfl;exact n1;exact n2) ic gX) (λa b ha hb=>W9 a b p (by rcases ha with rfl|rfl;exact v1;exact v2) (by rcases hb with rfl|rfl;exact v4;exact v5) (by rcases hb with rfl|rfl;exact n1;exact n2) ic gX) (λa b up=>acM a b up aC aC))]<|rQ (ib (oX (λa b up=>o0 a b p up) (λa b up=>qv a b p up) x y)) (ib (jj x y p)) (by rw[show jj x y p=_ by unfold jj;rw[aY (by rw[hk,a7 hs];decide)]])) 
def age(d:RD)(h:d.Zero):gR 112 [kN d] (bP true):=by
 obtain⟨h1,h2,h3⟩:=h;exact ak call112 func112 (af [ai 4 d.neg h1,ah 10 ((d.L.length:Int)==0) (tw (by rw[h2];rfl)),ah 15 (d.e==0) (by rw[h3];rfl)]) 
def U6(d:RD)(h:¬d.Zero):gR 112 [kN d] (bP false):=by
 by_cases h1:d.neg=true
 .exact ak call112 func112 (af [ah 4 d.neg h1]) 
 .replace h1:d.neg=false:=by simpa using h1
  by_cases h2:d.L=[]
  .have h3:¬d.e=0:=λq=>h ⟨h1,h2,q⟩
   exact ak call112 func112 (af [ai 4 d.neg h1,ah 10 ((d.L.length:Int)==0) (tw (by rw[h2];rfl)),ai 15 (d.e==0) (by simpa using h3)]) 
  .exact ak call112 func112 (af [ai 4 d.neg h1,ai 10 ((d.L.length:Int)==0) (nA (λq=>h2 (am3.1 q)))]) 
def agd(x:RI)(g:x.ke)(h:x.Ok):gR 64 [xf x] (bP true):=by
 have:=re x.iv h.valid;rwa[<-Nw,h.eq g]at this
def agb(x:RI)(g:x.ke)(h:¬x.Ok):gR 64 [xf x] (bP false):=by
 have ga:=g.lo;have gb:=g.hi;by_cases ha:x.all=true
 .by_cases h1:x.lo.Zero
  .have h2:¬x.hi.Zero:=λq=>h (.inl ⟨ha,h1,q⟩)
   exact ak call64 func64 (af [ah 5 x.all ha,.c (age x.lo h1),.c (U6 x.hi h2)]) 
  .exact ak call64 func64 (af [ah 5 x.all ha,.c (U6 x.lo h1)]) 
 .replace ha:x.all=false:=by simpa using ha
  by_cases h1:x.lo.Ok
  .by_cases h2:x.hi.Ok
   .have h3:¬iO x.lo.dy x.hi.dy<=0:=λq=>h (.inr ⟨ha,h1,h2,q⟩)
    have v1:=h1.valid;have v2:=h2.valid;have e1:xf x=ib x.iv:=by rw[<-Nw,show x.iv.raw=x by show RI.mk x.lo.dy.raw x.hi.dy.raw x.all=x;rw[h1.eq ga,h2.eq gb]]
    rw[e1];exact ak call64 func64 (af [ai 5 x.iv.all ha,ag [gV x.iv.lo] (ng _ aD),ag [gV x.iv.hi] (ng _ aD),ag [gV x.iv.lo,gV x.iv.hi] (kI _ _ aD aD),tB 30 (a7 h3)]) 
   .exact ak call64 func64 (af [ai 5 x.all ha,ag [kN x.lo] (vE _ aD true (by simp[h1])),ag [kN x.hi] (vE _ aD false (by simp[h2]))]) 
  .exact ak call64 func64 (af [ai 5 x.all ha,ag [kN x.lo] (vE _ aD false (by simp[h1]))]) 
def agc(x:RI)(g:x.ke):gR 64 [xf x] (bP (zi x)):=by
 by_cases h:x.Ok
 .rw [AU.2 h];exact agd x g h
 .rw [show zi x=false by simpa using λq=>h (AU.1 q)];exact agb x g h
abbrev iG(xs:List Iv):Nat->Nat->E:=λi j=>(iF (xs.getD i gU)).getD j .any
abbrev mc(M:List (List Iv)):Nat->Nat->E:=λi _=>gZ (M.getD i [])
abbrev mO(M:List (List Iv)):Nat->Nat:=λq=>(M.getD q []).length
abbrev oi(M:List (List Iv)):Nat->Nat->Nat->E:=λq i j=>(iF ((M.getD q []).getD i gU)).getD j .any
def tn(x:Iv)(j:Nat)(hj:j<7):((iF x).getD j .any).nr 2=true:=by
 rcases j with _|_|_|_|_|_|_|j
 all_goals first|rfl|omega
def Va(xs:List Iv):(gZ xs).nr 2=true:=rfl
def JC{T n:Nat}{xs:List Iv}{y:Iv}(hn:n=xs.length):
 Bx.le (.row true T (n+[y].length) 7 λi j=>if i<n then iG xs i j else(E.kJ (gZ [y])) (i-n) j) (.row true T (xs++[y]).length 7 (iG (xs++[y]))):=by
 subst hn;refine .row aH λi j hi hj=>⟨.iM ?_,tn _ _ hj⟩
 by_cases h:i<xs.length
 .rw [aZ h];show(iF (xs.getD i gU)).getD j .any=(iF ((xs++[y]).getD i gU)).getD j .any;congr 2;simp[bd,dw h]
 .have mo:i=xs.length:=by simp at hi;omega
  subst mo;rw[aY h,cX];show(iF y).getD j .any=(iF ((xs++[y]).getD xs.length gU)).getD j .any;congr 2;simp[bd]
def ahd{T n:Nat}{M:List (List Iv)}{r:List Iv}{p:E}{m:Nat}(hn:n=M.length)(hm:m=1)(hp:∀ j,j<1->p.kJ 0 j=gZ r):
 Bx.le (.row true T (n+m) 1 λi j=>if i<n then mc M i j else(E.kJ p) (i-n) j) (.row true T (M++[r]).length 1 (mc (M++[r]))):=by
 subst hn hm;refine .row aH λi j hi hj=>⟨.iM ?_,Va _⟩
 by_cases h:i<M.length
 .rw [aZ h];show gZ (M.getD i [])=gZ ((M++[r]).getD i []);congr 1;simp[bd,dw h]
 .have mo:i=M.length:= aC ;subst mo;rw[aY h,cX,hp j hj];show gZ r=gZ ((M++[r]).getD M.length []);congr 1;simp[bd]
def pE{α:Type}(y:α):[y].length=1:=rfl
def OH{n i:Nat}{F:Nat->Iv}(h:i<n):((List.range n).map F).getD i gU=F i:=by
 simp[bd,h]
def ahc{n:Nat}{M:List (List Iv)}(hn:n=M.length):E.le (.sl true n 1 λk _=>.sl true (mO M k) 7 (oi M k)) (kS M):=by subst hn;exact .refl _
end Go.Proofs.YtkdddbdjilcofaaGreatDoor
namespace Go.Proofs.YtkdddbdjilcofaaGreatDoor.Fp
section
variable {a b:Dy} {k:Int}
end
def aeP{m gm p:Nat}{e ge K:Int}(hp:1<=p)(hg:ia gm<=p)(qX:-16384<=ge)(k1:K<=e)(k2:K<=ge)
 (h:gm*2^(ge-K).toNat<=m*2^(e-K).toNat):gm*2^(ge-K).toNat<=kV m e false p false*2^(e+jL m e p-K).toNat:=by
 have hq:kV m e false p false=m/2^jL m e p:=by unfold kV;simp
 rw[hq];have hm:=cB m (2^jL m e p);have hr:=bE m (bj (n:=jL m e p) (aE:0<2));obtain⟨k,hk⟩:∃ k,k=jL m e p:=⟨_,rfl⟩
 rw[<-hk]at hm hr ⊢;have e1:(e+(k:Int)-K).toNat=k+(e-K).toNat:= aC ;rw[e1,bh];generalize hE:2^(e-K).toNat=E at *
 have Mg:0<E:=by rw[<-hE];exact bj aE 
 have hmE:m*E<(m/2^k+1)*(2^k*E):=by
  rw[<-bA];refine df ?_ Mg;rw[bR,bU,bD];omega
 by_cases hc:e+k<=ge
 .
  have e2:(ge-K).toNat=(ge-(e+k)).toNat+(k+(e-K).toNat):= aC ;rw[e2,bh,bh 2 k,hE]at h ⊢;rw[<-bA]at h ⊢;generalize gm*2^(ge-(e+k)).toNat=g at *
  have:g<m/2^k+1:=by
   apply bL;intro h';have:=bK (2^k*E) (aC:m/2^k+1<=g);omega
  exact bK _ aC 
 .by_cases nN:k=0
  .subst nN;rw[cw,eI,bU];exact h
  .
   have hb:(ia m:Int)-p=k:=by unfold jL at hk;omega
   have BV:m≠0:=by intro h0;rw[h0]at hb;simp[ia]at hb;omega
   have h1:=rK BV;have h2:2^(ia m-1-k)<=m/2^k:=by
    rw[cP (bj aE),<-bh];exact bg (bI aE (by have:=nR BV;omega)) h1
   have h3:gm<2^p:=lZ.1 hg;refine bg (bK _ (du h3)) (bg ?_ (bK _ h2));rw[<-hE,<-bh,<-bh,<-bh];exact bI aE aC 
def Ti{m gm p:Nat}{e ge K:Int}(hp:1<=p)(hg:ia gm<=p)(qX:-16384<=ge)(k1:K<=e)(k2:K<=ge)
 (h:m*2^(e-K).toNat<=gm*2^(ge-K).toNat):kV m e false p true*2^(e+jL m e p-K).toNat<=gm*2^(ge-K).toNat:=by
 have Um:kV m e false p false=m/2^jL m e p:=by unfold kV;simp
 have xN:kV m e false p true=m/2^jL m e p+if m%2^jL m e p≠0 then 1 else 0:=by unfold kV;simp
 have hm:=cB m (2^jL m e p);obtain⟨k,hk⟩:∃ k,k=jL m e p:=⟨_,rfl⟩
 rw[xN];rw[<-hk]at hm ⊢;have e1:(e+(k:Int)-K).toNat=k+(e-K).toNat:= aC ;rw[e1,bh];generalize hE:2^(e-K).toNat=E at *
 have Mg:0<E:=by rw[<-hE];exact bj aE 
 by_cases hr:m%2^k=0
 .rw [aY aC,bS,<-bA];refine bg (gG ?_) h;congr 1;rw[bD];omega
 .rw [aZ hr];have nN:k≠0:=by intro h0;rw[h0,cw,dE]at hr;exact hr rfl
  have im:m/2^k*(2^k*E)<gm*2^(ge-K).toNat:=by
   refine bJ ?_ h;rw[<-bA];refine df ?_ Mg;rw[bD];omega
  by_cases hc:e+k<=ge
  .have e2:(ge-K).toNat=(ge-(e+k)).toNat+(k+(e-K).toNat):= aC ;have e3:gm*2^(ge-K).toNat=gm*2^(ge-(e+k)).toNat*(2^k*E):=by rw[e2,bh,bh 2 k,hE,bA]
   rw[e3]at im ⊢;generalize gm*2^(ge-(e+k)).toNat=g at *
   have:m/2^k<g:=anj im;exact bK _ this
  .
   exfalso;have hb:(ia m:Int)-p=k:=by unfold jL at hk;omega
   have BV:m≠0:=by intro h0;rw[h0]at hr;simp at hr
   have h1:=rK BV;have I1:=nR BV;have h3:gm<2^p:=lZ.1 hg;have h4:gm*2^(ge-K).toNat<=2^(ia m-1)*E:=by
    refine bg (bK _ (du h3)) ?_;rw[<-hE,<-bh,<-bh];exact bI aE aC 
   have h5:2^(ia m-1-k)<=m/2^k:=by
    rw[cP (bj aE),<-bh];exact bg (bI aE aC) h1
   have h6:2^(ia m-1)*E<=m/2^k*(2^k*E):=by
    rw[<-bA];refine bK _ ?_;have:=bK (2^k) h5;rw[<-bh]at this;exact bg (bI aE aC) this
   omega
def P2(k:Int):Rat:=(2:Rat)^k
def mX(k:Int):0<P2 k:=Rat.zpow_pos aE 
def pH(a b:Int):P2 (a+b)=P2 a*P2 b:=Rat.zpow_add aE a b
def ur(n:Nat):P2 (n:Int)=((2^n:Nat):Rat):=by unfold P2;rw[Rat.zpow_natCast];simp
def KX:P2 0=1:=by have:=ur 0;simpa using this
def Ev{e k:Int}(h:k<=e):P2 e=((2^(e-k).toNat:Nat):Rat)*P2 k:=by
 rw[<-ur,<-pH];congr 1;omega
def uZ{x y:Rat}(k:Int):x*P2 k<=y*P2 k↔x<=y:=
 ⟨λh=>fh h (mX k),λh=>cj h (bG (mX k))⟩
def uY{m n:Nat}{e f K:Int}(h1:K<=e)(h2:K<=f):(m:Rat)*P2 e<=(n:Rat)*P2 f↔m*2^(e-K).toNat<=n*2^(f-K).toNat:=by
 rw[Ev h1,Ev h2,<-dM,<-dM,uZ,<-c9,<-c9,dv]
def Dy.q(d:Dy):Rat:=((d.num d.e:Int):Rat)*P2 d.e
def xY{d:Dy}{k:Int}(h:qO d k):d.q=((d.num k:Int):Rat)*P2 k:=by
 unfold Dy.q;rcases h with h|h
 .rw [wj h,wj h];simp
 .rw [JU h (ch _),Ev h,<-dM,Rat.intCast_mul,dN]
def oJ(a b:Dy):iO a b<=0↔a.q<=b.q:=by
 obtain⟨k,ka,kb⟩:∃ k:Int,k<=a.e/\k<=b.e:=⟨min a.e b.e,aC,aC⟩
 rw[sK (.inr ka) (.inr kb),xY (.inr ka),xY (.inr kb),uZ,fS]
def W2(a b:Dy):iO a b<0↔a.q<b.q:=by
 have h:=oJ b a;rw[Dg b a]at h;constructor
 .intro h1;apply gK.1;intro h2;have:=h.2 h2;omega
 .intro h1;apply bL;intro h2;exact gK.2 h1 (h.1 aC)
def OF(a b:Dy):(iJ a b).q=a.q+b.q:=by
 obtain⟨k,ka,kb⟩:∃ k:Int,k<=a.e/\k<=b.e:=⟨min a.e b.e,aC,aC⟩
 rw[xY (Hm (.inr ka) (.inr kb)),xY (.inr ka),xY (.inr kb),Kv (.inr ka) (.inr kb),Rat.intCast_add,Rat.add_mul]
def qJ(a:Dy):(jo a).q = -a.q:=by
 rw[xY (K3 (.inr (ch a.e))),Oh,gL,gM];rfl
def qI(s:Bool)(m:Nat)(e:Int):(canon s m e).q=if s then -((m:Rat)*P2 e)else(m:Rat)*P2 e:=by
 rw[xY (zU (ch e)),CA (ch e)];have:(e-e).toNat=0:= aC ;rw[this];cases s<;>simp[gL,gM,dN]
def pF(a:Dy):a.q=if a.neg then -((a.m:Rat)*P2 a.e)else(a.m:Rat)*P2 a.e:=by
 unfold Dy.q Dy.num Dy.jK;have:(a.e-a.e).toNat=0:= aC ;rw[this];cases a.neg<;>simp[gL,gM,dN]
def D9(a b:Dy):(w9 a b).q=a.q*b.q:=by
 unfold w9;rw[qI,pF a,pF b,pH,c9];cases a.neg<;>cases b.neg<;>simp<;>grind
def tA:iq.q=0:=by rw[pF];simp[iq]
def aiy{a b:Dy}(ha:a.nc)(hb:b.nc)(h:a.q=b.q):a=b:=by
 obtain⟨k,ka,kb⟩:∃ k:Int,k<=a.e/\k<=b.e:=⟨min a.e b.e,aC,aC⟩
 refine R7 ha hb (.inr ka) (.inr kb) ?_;rw[xY (.inr ka),xY (.inr kb)]at h;have h1:=(uZ (x:=((a.num k:Int):Rat)) (y:=((b.num k:Int):Rat)) k).1 (by rw[h];exact b6);have h2:=(uZ (x:=((b.num k:Int):Rat)) (y:=((a.num k:Int):Rat)) k).1 (by rw[h];exact b6);rw[fS]at h1 h2;omega
def A5(n:Int):(iS n).q=(n:Rat):=by
 unfold iS;rw[xY (k:=0) (K2 (ch 0)),Og (ch 0),KX];simp
def zp(d:Dy):0<=(lN d).q/\d.q<=(lN d).q /\ -d.q<=(lN d).q/\((lN d).q=d.q\/(lN d).q = -d.q):=by
 have h:(lN d).q=(d.m:Rat)*P2 d.e:=by rw[pF];rfl
 have h0:0<=(d.m:Rat)*P2 d.e:=bQ cQ (bG (mX _));rw[h,pF d];cases d.neg<;>simp<;>grind
def rH(d:Dy):(0<d.iK↔0<d.q)/\(d.iK<0↔d.q<0):=by
 have h:=mX d.e;have hm:d.m≠0->0<(d.m:Rat)*P2 d.e:=λh0=>dO (fT.2 aC) h
 rw[pF];unfold Dy.iK;by_cases h0:d.m=0
 .simp [h0]
 .have:=hm h0;rw[aY h0];cases d.neg<;>simp<;>grind
def GA(a b:Dy):a.q<=(iZ a b).q/\b.q<=(iZ a b).q/\((iZ a b).q=a.q\/(iZ a b).q=b.q):=
 ⟨(oJ _ _).1 (DX a b),(oJ _ _).1 (VU a b),by unfold iZ;split;exact .inr rfl;exact .inl rfl⟩
def CE(a b:Dy):(jc a b).q<=a.q/\(jc a b).q<=b.q/\((jc a b).q=a.q\/(jc a b).q=b.q):=
 ⟨(oJ _ _).1 (F8 a b),(oJ _ _).1 (VV a b),by unfold jc;split;exact .inr rfl;exact .inl rfl⟩
def GM(p:Nat)(g:Rat):Prop:=∃ (m:Nat) (e:Int),ia m<=p /\ -16384<=e/\(ia m:Int)+e<=16384/\g=(m:Rat)*P2 e
def G(p:Nat)(g:Rat):Prop:=GM p g\/GM p (-g)
def GM.Gn{p:Nat}{g:Rat}(h:GM p g):0<=g:=by
 obtain⟨m,e,_,_,_,rfl⟩:=h;exact bQ cQ (bG (mX _))
def zQ(p:Nat):GM p 0:=⟨0,0,by simp[rO],aC,by simp[rO],aH⟩
def G.neg{p:Nat}{g:Rat}(h:G p g):G p (-g):=by
 rcases h with h|h
 .exact .inr (by rw[fi];exact h)
 .exact .inl h
def G.pos{p:Nat}{g:Rat}(h:G p g)(h0:0<=g):GM p g:=by
 rcases h with h|h
 .exact h
 .have:=h.Gn;have:g=0:= aK ;rw[this];exact zQ p
def QP(k:Nat):ia (2^k)=k+1:=yr (bc _) (gz aE aC)
def xw:ia 1=1:=QP 0
section
variable {m p:Nat} {e:Int}
def YR(hp:1<=p)(gX:p<=4096)(ho:mg m e false p false=true):
 GM p (((2^p-1:Nat):Rat)*P2 (16384-p))/\((2^p-1:Nat):Rat)*P2 (16384-p)<=(m:Rat)*P2 e/\∀ g,GM p g->g<=((2^p-1:Nat):Rat)*P2 (16384-p):=by
 have wT:2<=2^p:=by
  have:=bI (n:=2) aE hp;omega
 have hb:ia (2^p-1)=p:=by
  obtain⟨j,rfl⟩:∃ j,p=j+1:=⟨p-1,aC⟩
  have h2:2^(j+1)=2^j*2:=bC _ _;have h3:=bj (n:=j) (aE:0<2);exact yr aC aC 
 refine⟨⟨_,_,gG hb,aC,aC,rfl⟩,?_,?_⟩
 .obtain ⟨c1,c2⟩:=Ir m e p;unfold mg at ho;simp only[bF,b9]at ho;obtain⟨o1,o2⟩:=ho;have hq:=rK o1;have I1:=nR o1;obtain⟨K,k1,k2⟩:∃ K:Int,K<=e/\K<=16384-p:=⟨min e (16384-p),aC,aC⟩
  rw[uY k2 k1];have h1:2^(ia (kV m e false p false)-1)*2^jL m e p<=m:=bg (bK _ hq) c1;have h2:=bK (2^(e-K).toNat) h1;rw[<-bh,<-bh]at h2;refine bg (bK _ (eE _ _)) (bg ?_ h2);rw[<-bh];exact bI aE aC 
 .rintro g ⟨gm,ge,b1,b2,b3,rfl⟩;by_cases hc:ge<=16384-p
  .have:gm<2^p:=lZ.1 b1;rw[uY (K:=ge) (ch _) hc];have e0:(ge-ge).toNat=0:= aC ;rw[e0,cw,b5];exact bg (aC:gm<=2^p-1) (fZ _ (bj aE))
  .rw [uY (K:=16384-p) aC (ch _)];have e0:((16384:Int)-p-(16384-p)).toNat=0:= aC ;rw[e0,cw,b5];have h1:gm<2^(16384-ge).toNat:=by
    by_cases h0:gm=0
    .rw [h0];exact bj aE 
    .exact lZ.1 aC 
   have h2:=df h1 (bj (n:=(ge-(16384-p)).toNat) (aE:0<2));by_cases hg:ge<=16384
   .rw [<-bh,show(16384-ge).toNat+(ge-(16384-(p:Int))).toNat=p by omega]at h2;omega
   .have:gm=0:=by
     rw[show(16384-ge).toNat=0 by omega]at h1;simpa using h1
    rw[this,cD];omega
def YQ(hp:1<=p)(ho:¬mg m e false p false=true):
 GM p (((kV m e false p false:Nat):Rat)*P2 (e+jL m e p))/\((kV m e false p false:Nat):Rat)*P2 (e+jL m e p)<=(m:Rat)*P2 e /\
 ∀ g,GM p g->g<=(m:Rat)*P2 e->g<=((kV m e false p false:Nat):Rat)*P2 (e+jL m e p):=by
 obtain⟨c1,c2⟩:=Ir m e p;have hk:-16384<=e+(jL m e p:Int):=by unfold jL;omega
 refine⟨?_,?_,?_⟩
 .by_cases h0:kV m e false p false=0
  .rw [h0];simpa using zQ p
  .have hq:kV m e false p false<2^p:=by
    have:=RS m e p;unfold kV;simpa using this
   unfold mg at ho;simp only[cT,h0,eh,ff,e9,b9]at ho;exact⟨_,_,lZ.2 hq,hk,aC,rfl⟩
 .rw [uY (K:=e) aC (ch _)];rw[show(e-e).toNat=0 by omega,show(e+(jL m e p:Int)-e).toNat=jL m e p by omega,cw,b5];exact c1
 .rintro g ⟨gm,ge,b1,b2,b3,rfl⟩ h;obtain⟨K,k1,k2⟩:∃ K:Int,K<=e/\K<=ge:=⟨min e ge,aC,aC⟩
  rw[uY k2 k1]at h;rw[uY (K:=K) k2 aC];exact aeP hp b1 b2 k1 k2 h
def Q8(hp:1<=p)(ho:mg m e false p true=true)(g:Rat)(hg:GM p g):¬(m:Rat)*P2 e<=g:=by
 obtain⟨gm,ge,b1,b2,b3,rfl⟩:=hg;intro h;obtain⟨K,k1,k2⟩:∃ K:Int,K<=e/\K<=ge:=⟨min e ge,aC,aC⟩
 rw[uY k1 k2]at h;have h:=Ti hp b1 b2 k1 k2 h;unfold mg at ho;simp only[bF,b9]at ho;obtain⟨o1,o2⟩:=ho;have hq:=rK o1;have I1:=nR o1;have h3:gm<2^ia gm:=ql gm;have h4:=df h3 (bj (n:=(ge-K).toNat) (aE:0<2));have h5:=bK (2^(e+(jL m e p:Int)-K).toNat) hq;rw[<-bh]at h4 h5;have h6:2^(ia gm+(ge-K).toNat)<=2^(ia (kV m e false p true)-1+(e+(jL m e p:Int)-K).toNat):=bI aE aC;omega
def Q7(hp:1<=p)(ho:¬mg m e false p true=true):
 GM p (((kV m e false p true:Nat):Rat)*P2 (e+jL m e p))/\(m:Rat)*P2 e<=((kV m e false p true:Nat):Rat)*P2 (e+jL m e p) /\
 ∀ g,GM p g->(m:Rat)*P2 e<=g->((kV m e false p true:Nat):Rat)*P2 (e+jL m e p)<=g:=by
 obtain⟨c1,c2⟩:=Ir m e p;have hk:-16384<=e+(jL m e p:Int):=by unfold jL;omega
 refine⟨?_,?_,?_⟩
 .by_cases h0:kV m e false p true=0
  .rw [h0];simpa using zQ p
  .unfold mg at ho;simp only[cT,h0,eh,ff,e9,b9]at ho;rcases Nat.lt_or_eq_of_le (RH m e false p true)with hq|hq
   .exact ⟨_,_,lZ.2 hq,hk,aC,rfl⟩
   .rw [hq]at ho ⊢;rw[QP]at ho;refine⟨1,p+(e+jL m e p),by rw[xw];exact hp,aC,by rw[xw];omega,?_⟩;rw[pH (p:Int),ur p,show((1:Nat):Rat)=1 from rfl,fj]
 .rw [uY (K:=e) (ch _) aC];rw[show(e-e).toNat=0 by omega,show(e+(jL m e p:Int)-e).toNat=jL m e p by omega,cw,b5];exact c2
 .rintro g ⟨gm,ge,b1,b2,b3,rfl⟩ h;obtain⟨K,k1,k2⟩:∃ K:Int,K<=e/\K<=ge:=⟨min e ge,aC,aC⟩
  rw[uY k1 k2]at h;rw[uY (K:=K) aC k2];exact Ti hp b1 b2 k1 k2 h
end
def Dn(p:Nat)(v:Rat)(D:Dy)(E:Int):Prop:=(E=0->G p D.q/\D.q<=v)/\∀ g,G p g->g<=v->E=0/\g<=D.q
def Up(p:Nat)(v:Rat)(D:Dy)(E:Int):Prop:=(E=0->G p D.q/\v<=D.q)/\∀ g,G p g->v<=g->E=0/\D.q<=g
def Dn.of{p:Nat}{v w:Rat}{D:Dy}{E:Int}(h:Dn p v D E)(k:∀ g,G p g->(g<=v↔g<=w)):Dn p w D E:=
 ⟨λe=>⟨(h.1 e).1,(k _ (h.1 e).1).1 (h.1 e).2⟩,λg hg hw=>h.2 g hg ((k g hg).2 hw)⟩
def Up.of{p:Nat}{v w:Rat}{D:Dy}{E:Int}(h:Up p v D E)(k:∀ g,G p g->(v<=g↔w<=g)):Up p w D E:=
 ⟨λe=>⟨(h.1 e).1,(k _ (h.1 e).1).1 (h.1 e).2⟩,λg hg hw=>h.2 g hg ((k g hg).2 hw)⟩
def EV(neg:Bool)(m:Nat)(e:Int){p:Nat}(hp:1<=p)(gX:p<=4096):Dn p (canon neg m e).q (jY neg m e false p false) (jN neg m e false p false):=by
 have hv:0<=(m:Rat)*P2 e:=bQ cQ (bG (mX _));rw[qI];cases neg
 .
  have hE:jN false m e false p false=0:=by unfold jN;simp
  rw[hE];unfold jY;simp only[bne_self_eq_false,bB,bk];by_cases ho:mg m e false p false=true
  .obtain ⟨t1,t2,t3⟩:=YR hp gX ho;rw[aZ ho];(first|unfold Dn|unfold Up);rw[qI];simp only[bB,bk];refine⟨λ_=>⟨.inl t1,t2⟩,λg hg hle=>⟨trivial,?_⟩⟩;by_cases h0:0<=g
   .exact t3 g (hg.pos h0)
   .have:=t1.Gn;grind
  .obtain ⟨t1,t2,t3⟩:=YQ hp ho;rw[aY ho];(first|unfold Dn|unfold Up);rw[qI];simp only[bB,bk];refine⟨λ_=>⟨.inl t1,t2⟩,λg hg hle=>⟨trivial,?_⟩⟩;by_cases h0:0<=g
   .exact t3 g (hg.pos h0) hle
   .have:=t1.Gn;grind
 .unfold jY jN;simp only[Bool.bne_false,Bool.and_true,bw];by_cases ho:mg m e false p true=true
  .rw [aZ ho,aZ ho];refine⟨λh=>by simp at h,λg hg hle=>?_⟩;exact absurd (show(m:Rat)*P2 e <= -g by grind) (Q8 hp ho _ (hg.neg.pos aK))
  .obtain ⟨t1,t2,t3⟩:=Q7 hp ho;rw[aY ho,aY ho];(first|unfold Dn|unfold Up);rw[qI];simp only[bw];refine⟨λ_=>⟨.inr (by rw[fi];exact t1),aK⟩,λg hg hle=>⟨trivial,?_⟩⟩;have:=t3 (-g) (hg.neg.pos aK) aK 
   grind
def EW(neg:Bool)(m:Nat)(e:Int){p:Nat}(hp:1<=p)(gX:p<=4096):Up p (canon neg m e).q (jY neg m e false p true) (jN neg m e false p true):=by
 have hv:0<=(m:Rat)*P2 e:=bQ cQ (bG (mX _));rw[qI];cases neg
 .unfold jY jN;simp only[Bool.bne_true,dX,Bool.and_true,bw,bB,bk];by_cases ho:mg m e false p true=true
  .rw [aZ ho,aZ ho];refine⟨λh=>by simp at h,λg hg hle=>?_⟩;exact absurd hle (Q8 hp ho _ (hg.pos aK))
  .obtain ⟨t1,t2,t3⟩:=Q7 hp ho;rw[aY ho,aY ho];(first|unfold Dn|unfold Up);rw[qI];simp only[bB,bk];exact⟨λ_=>⟨.inl t1,t2⟩,λg hg hle=>⟨trivial,t3 g (hg.pos aK) hle⟩⟩
 .have hE:jN true m e false p true=0:=by unfold jN;simp
  rw[hE];unfold jY;simp only[bne_self_eq_false,bB,bk,bw];by_cases ho:mg m e false p false=true
  .obtain ⟨t1,t2,t3⟩:=YR hp gX ho;rw[aZ ho];(first|unfold Dn|unfold Up);rw[qI];simp only[bw];refine⟨λ_=>⟨.inr (by rw[fi];exact t1),aK⟩,λg hg hle=>⟨trivial,?_⟩⟩;by_cases h0:0 <= -g
   .have:=t3 (-g) (hg.neg.pos h0);grind
   .have:=t1.Gn;grind
  .obtain ⟨t1,t2,t3⟩:=YQ hp ho;rw[aY ho];(first|unfold Dn|unfold Up);rw[qI];simp only[bw];refine⟨λ_=>⟨.inr (by rw[fi];exact t1),aK⟩,λg hg hle=>⟨trivial,?_⟩⟩;by_cases h0:0 <= -g
   .have:=t3 (-g) (hg.neg.pos h0) aK;grind
   .have:=t1.Gn;grind
def xg{d:Dy}(hd:d.nc){p:Nat}(hp:1<=p)(gX:p<=4096):Dn p d.q (jZ d p false) (jO d p false):=by
 have:=EV d.neg d.m d.e hp gX;rwa[hd.De]at this
def xh{d:Dy}(hd:d.nc){p:Nat}(hp:1<=p)(gX:p<=4096):Up p d.q (jZ d p true) (jO d p true):=by
 have:=EW d.neg d.m d.e hp gX;rwa[hd.De]at this
def L6{N p:Nat}{e:Int}(hb:p<ia N){g:Rat}(hg:GM p g):g<=(N:Rat)*P2 e\/((N+1:Nat):Rat)*P2 e<=g:=by
 obtain⟨gm,ge,b1,b2,b3,rfl⟩:=hg;by_cases hc:e<=ge
 .rw [uY (K:=e) hc (ch _),uY (K:=e) (ch _) hc,show(e-e).toNat=0 by omega];omega
 .left;rw[uY (K:=ge) (ch _) aC,show(ge-ge).toNat=0 by omega,cw,b5];have h1:gm<2^p:=lZ.1 b1;have h2:2^p<=N:=wb.1 hb;exact bg (du (bJ h1 h2)) (fZ _ (bj aE))
def QN{N p:Nat}{e:Int}(hb:p<ia N){x y:Rat}(x1:(N:Rat)*P2 e<x)(x2:x<((N+1:Nat):Rat)*P2 e)(y1:(N:Rat)*P2 e<y)(y2:y<((N+1:Nat):Rat)*P2 e){g:Rat}(hg:G p g):
 (g<=x↔g<=y)/\(x<=g↔y<=g)/\(g <= -x↔g <= -y)/\(-x<=g ↔ -y<=g):=by
 have hv:0<=(N:Rat)*P2 e:=bQ cQ (bG (mX _));have hG:∀ g,G p g->g<=(N:Rat)*P2 e\/((N+1:Nat):Rat)*P2 e<=g:=by
  intro g hg;by_cases h0:0<=g
  .exact L6 hb (hg.pos h0)
  .left;grind
 have h1:=hG g hg;have h2:=hG (-g) hg.neg;generalize (N:Rat)*P2 e=A at *
 generalize ((N+1:Nat):Rat)*P2 e=B at *
 refine⟨?_,?_,?_,?_⟩<;>constructor<;>intro h<;>grind
def Di{N p:Nat}(E:Int)(hb:p<ia N)(neg up:Bool):jY neg N E true p up=jY neg (2*N+1) (E-1) false p up/\jN neg N E true p up=jN neg (2*N+1) (E-1) false p up:=by
 have h1:(2*N+1)/2^1=N:= aC ;have h:=Iq (N:=2*N+1) (E:=E-1) (more:=false) (d:=1) (p:=p) neg up (by rw[h1];exact hb);have h2:decide ((2*N+1)%2^1≠0)=true:= aH ;rw[h1,h2,(aC:E-1+((1:Nat):Int)=E)]at h;exact h
def RR{a b:Dy}(b0:b.m≠0){p:Nat}(hp:1<=p)(gX:p<=4096):Dn p (a.q/b.q) (o0 a b p false) (qv a b p false)/\Up p (a.q/b.q) (o0 a b p true) (qv a b p true):=by
 by_cases a0:a.m=0
 .have hq:a.q=0:=by rw[pF,a0];simp
  have h0:(0:Rat)/b.q=0:=by rw[cL,Rat.zero_mul]
  unfold o0 qv;rw[hq,h0,aZ a0,aZ a0,aZ a0,aZ a0];have hz:G p 0:=.inl (zQ p);exact⟨⟨λ_=>⟨by rw[tA];exact hz,by rw[tA];exact b6⟩,λg _ h=>⟨rfl,by rw[tA];exact h⟩⟩,⟨λ_=>⟨by rw[tA];exact hz,by rw[tA];exact b6⟩,λg _ h=>⟨rfl,by rw[tA];exact h⟩⟩⟩
 .have hb:=LB a0 b0 p 2 aE ;unfold o0 qv;rw[aY a0,aY a0,aY a0,aY a0];generalize hk:kX a b p 2=k at *
  generalize hs:(a.neg != b.neg)=s;generalize hE:a.e-b.e-(k:Int)=E0;have hB:(0:Rat)<(b.m:Rat):=fT.2 aC;have Tu:=mX b.e;have hP:=mX E0;obtain⟨w,hw⟩:∃ w:Rat,w=(a.m:Rat)*P2 a.e/((b.m:Rat)*P2 b.e):=⟨_,rfl⟩
  have UD:w*((b.m:Rat)*P2 b.e)=(a.m:Rat)*P2 a.e:=by
   have:(b.m:Rat)*P2 b.e≠0:=by have:=dO hB Tu;grind
   rw[hw];exact dA this
  have kE:a.q/b.q=if s then -w else w:=by
   have uL:b.q≠0:=by
    have:=dO hB Tu;rw[pF b];cases b.neg<;>simp<;>grind
   have hq:(if s then -w else w)*b.q=a.q:=by
    rw[pF a,pF b,<-hs,<-UD];cases a.neg<;>cases b.neg<;>simp<;>grind
   rw[<-hq,am6 uL]
  have MA:=cB (a.m*2^k) b.m;have hr:=bE (a.m*2^k) (aC:0<b.m);generalize hN:a.m*2^k/b.m=N at *
  generalize hR:a.m*2^k%b.m=R at *
  have afh:(b.m:Rat)*(N:Rat)+(R:Rat)=(a.m:Rat)*((2^k:Nat):Rat):=by rw[<-c9,<-c9,<-dP,MA]
  have hae:P2 a.e=((2^k:Nat):Rat)*P2 b.e*P2 E0:=by rw[<-ur,<-pH,<-pH];congr 1;omega
  have Jr:w*(b.m:Rat)=((b.m:Rat)*(N:Rat)+(R:Rat))*P2 E0:=by
   have:w*(b.m:Rat)*P2 b.e=((b.m:Rat)*(N:Rat)+(R:Rat))*P2 E0*P2 b.e:=by
    rw[afh,dM,UD,hae];grind
   have jh:P2 b.e≠0:= aK ;have h2:=congrArg (· / P2 b.e) this;simp only[am6 jh]at h2;exact h2
  by_cases h0:R=0
  .have Nb:w=(N:Rat)*P2 E0:=by
    rw[h0]at Jr;have jh:(b.m:Rat)≠0:= aK ;have h2:w*(b.m:Rat)=((N:Rat)*P2 E0)*(b.m:Rat):=by rw[Jr];simp;grind
    have h3:=congrArg (· / (b.m:Rat)) h2;simp only[am6 jh]at h3;exact h3
   have hc:a.q/b.q=(canon s N E0).q:=by rw[kE,qI,Nb]
   rw[hc,a7 (by simpa using h0)];exact⟨EV _ _ _ hp gX,EW _ _ _ hp gX⟩
  .have xK:(0:Rat)<(R:Rat):=fT.2 aC ;have hRb:(R:Rat)<(b.m:Rat):=Rat.natCast_lt_natCast.2 hr;have w1:(N:Rat)*P2 E0<w:=by
    apply ank (c:=(b.m:Rat)) _ (bG hB);rw[Jr];have:=dO xK hP
    grind
   have w2:w<((N+1:Nat):Rat)*P2 E0:=by
    apply ank (c:=(b.m:Rat)) _ (bG hB);rw[Jr,dP];have:=dO (show(0:Rat)<(b.m:Rat)-(R:Rat)by grind) hP;simp
    grind
   have hh:P2 E0=2*P2 (E0-1):=by
    rw[Ev (aC:E0-1<=E0),show(E0-(E0-1)).toNat=1 by omega];simp
   have v1:(N:Rat)*P2 E0<((2*N+1:Nat):Rat)*P2 (E0-1):=by
    have:=mX (E0-1);rw[hh,dP,c9];simp;grind
   have v2:((2*N+1:Nat):Rat)*P2 (E0-1)<((N+1:Nat):Rat)*P2 E0:=by
    have:=mX (E0-1);rw[hh,dP,c9,dP];simp;grind
   rw[a6 (by simpa using h0),(Di E0 hb s false).1,(Di E0 hb s false).2,(Di E0 hb s true).1,(Di E0 hb s true).2,kE];have A:=EV s (2*N+1) (E0-1) hp gX;have B:=EW s (2*N+1) (E0-1) hp gX;rw[qI]at A B;refine⟨A.of λg hg=>?_,B.of λg hg=>?_⟩
   .obtain ⟨k1,k2,k3,k4⟩:=QN hb v1 v2 w1 w2 hg;cases s
    .exact k1
    .exact k3
   .obtain ⟨k1,k2,k3,k4⟩:=QN hb v1 v2 w1 w2 hg;cases s
    .exact k2
    .exact k4
def Iv.jR(x:Iv)(r:Rat):Prop:=x.all=true\/(x.lo.q<=r/\r<=x.hi.q)
def Sub(x y:Iv):Prop:=y.all=true\/(x.all=false/\y.lo.q<=x.lo.q/\x.hi.q<=y.hi.q)
def Sub.jR{x y:Iv}(h:Sub x y){r:Rat}(k:x.jR r):y.jR r:=by
 rcases h with h|⟨h1,h2,h3⟩
 .exact .inl h
 .rcases k with k|⟨k1,k2⟩
  .rw [h1]at k;cases k
  .exact .inr ⟨aK,aK⟩
def Sub.wY{x y:Iv}(h:Sub x y)(k:y.all=false):x.all=false/\y.lo.q<=x.lo.q/\x.hi.q<=y.hi.q:=by
 rcases h with h|h
 .rw [h]at k;cases k
 .exact h
def Iv.gY.q{x:Iv}(h:x.gY):x.lo.q<=x.hi.q:=by
 rcases h with⟨_,h2,h3⟩|⟨_,_,_,h⟩
 .rw [h2,h3];exact b6
 .exact (oJ _ _).1 h
def Iv.gY.yz{x:Iv}(h:x.gY):x.lo.nc/\x.hi.nc:=by
 rcases h with⟨_,h2,h3⟩|⟨_,h2,h3,_⟩
 .rw [h2,h3];exact⟨rn.canon,rn.canon⟩
 .exact ⟨h2.canon,h3.canon⟩
def Iv.gY.An{x:Iv}(h:x.gY):x.jR x.lo.q:=.inr ⟨b6,h.q⟩
def Iv.gY.Dr{x:Iv}(h:x.gY):x.jR x.hi.q:=.inr ⟨h.q,b6⟩
structure Es(p:Nat)(S:Rat->Prop)(X:Iv):Prop where
 jR:∀ r,S r->X.jR r
 on:X.all=false->G p X.lo.q/\G p X.hi.q
 xS:∀ L U,G p L->G p U->(∀ r,S r->L<=r/\r<=U)->X.all=false/\L<=X.lo.q/\X.hi.q<=U
def K5{x y:Iv}(hx:x.gY)(hy:y.gY)(xa:x.all=false)(ya:y.all=false){p:Nat}(hp:1<=p)(gX:p<=4096):
 Es p (λr=>∃ a b,x.jR a/\y.jR b/\r=a+b) (jE x y p):=by
 have A:=xg (By hx.yz.1 hy.yz.1) hp gX;have B:=xh (By hx.yz.2 hy.yz.2) hp gX;rw[OF]at A B;unfold jE lH;rw[xa,ya];simp only[gH,bB,bk];have jR:∀ r,(∃ a b,x.jR a/\y.jR b/\r=a+b)->x.lo.q+y.lo.q<=r/\r<=x.hi.q+y.hi.q:=by
  rintro r ⟨a,b,ha,hb,rfl⟩;rcases ha with ha|ha
  .rw [xa]at ha;cases ha
  .rcases hb with hb|hb
   .rw [ya]at hb;cases hb
   .grind
 have xS:∀ L U,G p L->G p U->(∀ r,(∃ a b,x.jR a/\y.jR b/\r=a+b)->L<=r/\r<=U) ->
  (jO (iJ x.lo y.lo) p false=0/\L<=(jZ (iJ x.lo y.lo) p false).q)/\jO (iJ x.hi y.hi) p true=0/\(jZ (iJ x.hi y.hi) p true).q<=U:=λL U hL hU h=>
  ⟨A.2 L hL (h _ ⟨_,_,hx.An,hy.An,rfl⟩).1,B.2 U hU (h _ ⟨_,_,hx.Dr,hy.Dr,rfl⟩).2⟩
 split
 .rename_i he;refine⟨λ_ _=>.inl rfl,λh=>absurd h aE,λL U hL hU h=>?_⟩;obtain⟨⟨e1,_⟩,e2,_⟩:=xS L U hL hU h;rcases he with he|he
  .exact absurd e1 he
  .exact absurd e2 he
 .rename_i he;obtain⟨a1,a2⟩:=A.1 aC;obtain⟨b1,b2⟩:=B.1 aC;refine⟨λr hr=>.inr ?_,λ_=>⟨a1,b1⟩,λL U hL hU h=>?_⟩
  .obtain ⟨h1,h2⟩:=jR r hr;exact⟨bH a2 h1,bH h2 b2⟩
  .obtain ⟨⟨_,e1⟩,_,e2⟩:=xS L U hL hU h;exact⟨rfl,e1,e2⟩
def Hq{x y:Iv}(p:Nat)(h:x.all=true\/y.all=true):jE x y p=gU:=by
 unfold jE;rw[aZ (by rcases h with h|h<;>rw[h]<;>simp)]
def Bo{x y:Iv}(hx:x.gY)(hy:y.gY){p:Nat}(hp:1<=p)(gX:p<=4096){a b:Rat}(ha:x.jR a)(hb:y.jR b):(jE x y p).jR (a+b):=by
 cases xa:x.all
 .cases ya:y.all
  .exact (K5 hx hy xa ya hp gX).jR _ ⟨a,b,ha,hb,rfl⟩
  .rw [Hq p (.inr ya)];exact .inl rfl
 .rw [Hq p (.inl xa)];exact .inl rfl
def S5{p:Nat}{D:Dy->Dy->Bool->Dy}{E:Dy->Dy->Bool->Int}{f:Rat->Rat->Rat}{x y:Iv}{S:Rat->Prop}
 (hD:∀ a b,(a=x.lo\/a=x.hi)->(b=y.lo\/b=y.hi)->Dn p (f a.q b.q) (D a b false) (E a b false)/\Up p (f a.q b.q) (D a b true) (E a b true)/\S (f a.q b.q))
 (hS:∀ r,S r->(f x.lo.q y.lo.q<=r\/f x.lo.q y.hi.q<=r\/f x.hi.q y.lo.q<=r\/f x.hi.q y.hi.q<=r)/\(r<=f x.lo.q y.lo.q\/r<=f x.lo.q y.hi.q\/r<=f x.hi.q y.lo.q\/r<=f x.hi.q y.hi.q)):
 Es p S (oX D E x y):=by
 obtain⟨a1,a2,a3⟩:=hD x.lo y.lo (.inl rfl) (.inl rfl);obtain⟨b1,b2,b3⟩:=hD x.lo y.hi (.inl rfl) (.inr rfl);obtain⟨c1,c2,c3⟩:=hD x.hi y.lo (.inr rfl) (.inl rfl);obtain⟨d1,d2,d3⟩:=hD x.hi y.hi (.inr rfl) (.inr rfl);have xS:∀ L U,G p L->G p U->(∀ r,S r->L<=r/\r<=U) ->
  ((E x.lo y.lo false=0/\L<=(D x.lo y.lo false).q)/\E x.lo y.lo true=0/\(D x.lo y.lo true).q<=U)/\((E x.lo y.hi false=0/\L<=(D x.lo y.hi false).q)/\E x.lo y.hi true=0/\(D x.lo y.hi true).q<=U) /\
  ((E x.hi y.lo false=0/\L<=(D x.hi y.lo false).q)/\E x.hi y.lo true=0/\(D x.hi y.lo true).q<=U)/\((E x.hi y.hi false=0/\L<=(D x.hi y.hi false).q)/\E x.hi y.hi true=0/\(D x.hi y.hi true).q<=U):=λL U hL hU h=>
  ⟨⟨a1.2 L hL (h _ a3).1,a2.2 U hU (h _ a3).2⟩,⟨b1.2 L hL (h _ b3).1,b2.2 U hU (h _ b3).2⟩,⟨c1.2 L hL (h _ c3).1,c2.2 U hU (h _ c3).2⟩,⟨d1.2 L hL (h _ d3).1,d2.2 U hU (h _ d3).2⟩⟩
 unfold oX;split
 .rename_i he;obtain⟨⟨e1,e2⟩,⟨e3,e4⟩,⟨e5,e6⟩,⟨e7,e8⟩⟩:=he;obtain⟨ga,la⟩:=a1.1 e1;obtain⟨gA,lA⟩:=a2.1 e2;obtain⟨gb,lb⟩:=b1.1 e3;obtain⟨gB,lB⟩:=b2.1 e4;obtain⟨gc,lc⟩:=c1.1 e5;obtain⟨gC,lC⟩:=c2.1 e6;obtain⟨gd,ld⟩:=d1.1 e7;obtain⟨gD,lD⟩:=d2.1 e8;obtain⟨m1,m2,m3⟩:=CE (D x.lo y.lo false) (D x.lo y.hi false);obtain⟨m4,m5,m6⟩:=CE (jc (D x.lo y.lo false) (D x.lo y.hi false)) (D x.hi y.lo false);obtain⟨m7,m8,m9⟩:=CE (jc (jc (D x.lo y.lo false) (D x.lo y.hi false)) (D x.hi y.lo false)) (D x.hi y.hi false);obtain⟨n1,n2,n3⟩:=GA (D x.lo y.lo true) (D x.lo y.hi true);obtain⟨n4,n5,n6⟩:=GA (iZ (D x.lo y.lo true) (D x.lo y.hi true)) (D x.hi y.lo true);obtain⟨n7,n8,n9⟩:=GA (iZ (iZ (D x.lo y.lo true) (D x.lo y.hi true)) (D x.hi y.lo true)) (D x.hi y.hi true);generalize (jc (D x.lo y.lo false) (D x.lo y.hi false))=u1 at *
  generalize (jc u1 (D x.hi y.lo false))=u2 at *
  generalize (jc u2 (D x.hi y.hi false))=u3 at *
  generalize (iZ (D x.lo y.lo true) (D x.lo y.hi true))=v1 at *
  generalize (iZ v1 (D x.hi y.lo true))=v2 at *
  generalize (iZ v2 (D x.hi y.hi true))=v3 at *
  refine⟨λr hr=>.inr ?_,λ_=>⟨?_,?_⟩,λL U hL hU h=>⟨rfl,?_,?_⟩⟩
  .obtain ⟨h1,h2⟩:=hS r hr;constructor
   .show u3.q<=r;rcases h1 with h1|h1|h1|h1<;>grind
   .show r<=v3.q;rcases h2 with h1|h1|h1|h1<;>grind
  .show G p u3.q;rcases m9 with h|h
   .rw [h];rcases m6 with h|h
    .rw [h];rcases m3 with h|h<;>rw[h]<;>assumption
    .rw [h];assumption
   .rw [h];assumption
  .show G p v3.q;rcases n9 with h|h
   .rw [h];rcases n6 with h|h
    .rw [h];rcases n3 with h|h<;>rw[h]<;>assumption
    .rw [h];assumption
   .rw [h];assumption
  .obtain ⟨⟨⟨_,k1⟩,_,k2⟩,⟨⟨_,k3⟩,_,k4⟩,⟨⟨_,k5⟩,_,k6⟩,⟨⟨_,k7⟩,_,k8⟩⟩:=xS L U hL hU h;show L<=u3.q;rcases m9 with h|h
   .rw [h];rcases m6 with h|h
    .rw [h];rcases m3 with h|h<;>rw[h]<;>assumption
    .rw [h];assumption
   .rw [h];assumption
  .obtain ⟨⟨⟨_,k1⟩,_,k2⟩,⟨⟨_,k3⟩,_,k4⟩,⟨⟨_,k5⟩,_,k6⟩,⟨⟨_,k7⟩,_,k8⟩⟩:=xS L U hL hU h;show v3.q<=U;rcases n9 with h|h
   .rw [h];rcases n6 with h|h
    .rw [h];rcases n3 with h|h<;>rw[h]<;>assumption
    .rw [h];assumption
   .rw [h];assumption
 .rename_i he;refine⟨λ_ _=>.inl rfl,λh=>absurd h aE,λL U hL hU h=>?_⟩;obtain⟨⟨⟨k1,_⟩,k2,_⟩,⟨⟨k3,_⟩,k4,_⟩,⟨⟨k5,_⟩,k6,_⟩,⟨⟨k7,_⟩,k8,_⟩⟩:=xS L U hL hU h;exact absurd ⟨⟨k1,k2⟩,⟨k3,k4⟩,⟨k5,k6⟩,k7,k8⟩ he
def RC{a b c d x y:Rat}(h1:a<=x)(h2:x<=b)(h3:c<=y)(h4:y<=d):
 (a*c<=x*y\/a*d<=x*y\/b*c<=x*y\/b*d<=x*y)/\(x*y<=a*c\/x*y<=a*d\/x*y<=b*c\/x*y<=b*d):=by
 have mono:∀ {u v w:Rat},u<=v->0<=w->u*w<=v*w:=λh k=>cj h k
 have anti:∀ {u v w:Rat},u<=v->w<=0->v*w<=u*w:=by
  intro u v w h k;have:=mono h (show 0 <= -w by grind)
  grind
 have side:∀ t:Rat,(t*c<=t*y\/t*d<=t*y)/\(t*y<=t*c\/t*y<=t*d):=by
  intro t;rw[fk t c,fk t d,fk t y];rcases Rat.le_total (a:=0) (b:=t)with h|h
  .exact ⟨.inl (mono h3 h),.inr (mono h4 h)⟩
  .exact ⟨.inr (anti h4 h),.inl (anti h3 h)⟩
 have sa:=side a;have sb:=side b;rcases Rat.le_total (a:=0) (b:=y)with h|h
 .have m1:=mono h1 h;have m2:=mono h2 h;clear mono anti side;constructor
  .rcases sa.1 with k|k<;>grind
  .rcases sb.2 with k|k<;>grind
 .have m1:=anti h1 h;have m2:=anti h2 h;clear mono anti side;constructor
  .rcases sb.1 with k|k<;>grind
  .rcases sa.2 with k|k<;>grind
def Iv.jR.j8{x:Iv}{r:Rat}(h:x.jR r)(k:x.all=false):x.lo.q<=r/\r<=x.hi.q:=by
 rcases h with h|h
 .rw [k]at h;cases h
 .exact h
def Aa(a b:Dy):(w9 a b).nc:=rq _ _ _
def NP{x y:Iv}(hx:x.gY)(hy:y.gY)(xa:x.all=false)(ya:y.all=false){p:Nat}(hp:1<=p)(gX:p<=4096):
 Es p (λr=>∃ a b,x.jR a/\y.jR b/\r=a*b) (iz x y p):=by
 unfold iz;rw[xa,ya];simp only[gH,bB,bk];refine S5 (f:=λa b=>a*b) (λa b ha hb=>⟨?_,?_,a.q,b.q,?_,?_,rfl⟩) (λr ⟨a,b,ha,hb,e⟩=>?_)
 .have:=xg (Aa a b) hp gX;rwa[D9]at this
 .have:=xh (Aa a b) hp gX;rwa[D9]at this
 .rcases ha with rfl|rfl;exact hx.An;exact hx.Dr
 .rcases hb with rfl|rfl;exact hy.An;exact hy.Dr
 .obtain ⟨h1,h2⟩:=ha.j8 xa;obtain⟨h3,h4⟩:=hb.j8 ya;rw[e];exact RC h1 h2 h3 h4
def JK{x y:Iv}(p:Nat)(h:x.all=true\/y.all=true):iz x y p=gU:=by
 unfold iz;rw[aZ (by rcases h with h|h<;>rw[h]<;>simp)]
def NQ{x y:Iv}(hx:x.gY)(hy:y.gY){p:Nat}(hp:1<=p)(gX:p<=4096){a b:Rat}(ha:x.jR a)(hb:y.jR b):(iz x y p).jR (a*b):=by
 cases xa:x.all
 .cases ya:y.all
  .exact (NP hx hy xa ya hp gX).jR _ ⟨a,b,ha,hb,rfl⟩
  .rw [JK p (.inr ya)];exact .inl rfl
 .rw [JK p (.inl xa)];exact .inl rfl
def Ns{b c:Rat}(h0:0<c)(h:c<=b):b⁻¹<=c⁻¹:=by
 have hb:0<b:= aK ;apply fh (c:=b*c) _ (dO hb h0);have e1:b⁻¹*(b*c)=c:=by rw[<-dM,gN _ aK,fj]
 have e2:c⁻¹*(b*c)=b:=by rw[fk b c,<-dM,gN _ aK,fj]
 rw[e1,e2];exact h
def Wv(b:Rat):(-b)⁻¹ = -b⁻¹:=by
 by_cases h:b=0
 .rw [h];simp
 .have h1:(-b)⁻¹*(-b)=1:=gN _ aK ;have h2:b⁻¹*b=1:=gN _ h;have h3:(-b)⁻¹*(-b)*b⁻¹=b⁻¹:=by rw[h1,fj]
  grind
def UZ{b c:Rat}(h0:b<0)(h:c<=b):b⁻¹<=c⁻¹:=by
 have:=Ns (b:=-c) (c:=-b) aK aK;rw[Wv,Wv]at this
 grind
def Yi{y:Iv}(_hy:y.gY)(h:nn y≠0):y.all=false/\(0<y.lo.q\/y.hi.q<0):=by
 unfold nn at h;cases ya:y.all
 .rw [ya]at h;simp only[bB,bk]at h;refine⟨rfl,?_⟩;split at h
  .rename_i h1;exact .inl ((rH _).1.1 h1)
  .split at h
   .rename_i h1;exact .inr ((rH _).2.1 h1)
   .exact absurd rfl h
 .rw [ya]at h;simp at h
def Ph{y:Iv}(ya:y.all=false)(h:0<y.lo.q\/y.hi.q<0):nn y≠0:=by
 unfold nn;rw[ya];simp only[bB,bk];rcases h with h|h
 .rw [aZ ((rH _).1.2 h)];decide
 .split
  .decide
  .rw [aZ ((rH _).2.2 h)];decide
def ag3{d:Dy}(h:d.q≠0):d.m≠0:=by
 intro h0;apply h;rw[pF,h0];simp
def Is{x y:Iv}(hx:x.gY)(hy:y.gY)(xa:x.all=false)(hs:nn y≠0){p:Nat}(hp:1<=p)(gX:p<=4096):
 Es p (λr=>∃ a b,x.jR a/\y.jR b/\r=a/b) (jj x y p):=by
 obtain⟨ya,h0⟩:=Yi hy hs;have hle:=hy.q;unfold jj;rw[xa,ya,a7 hs];simp only[gH,bB,bk];refine S5 (f:=λa b=>a/b) (λa b ha hb=>?_) (λr ⟨a,b,ha,hb,e⟩=>?_)
 .have b0:b.m≠0:=ag3 (by rcases hb with rfl|rfl<;>grind);obtain⟨h1,h2⟩:=RR (a:=a) b0 hp gX;refine⟨h1,h2,a.q,b.q,?_,?_,rfl⟩
  .rcases ha with rfl|rfl;exact hx.An;exact hx.Dr
  .rcases hb with rfl|rfl;exact hy.An;exact hy.Dr
 .obtain ⟨h1,h2⟩:=ha.j8 xa;obtain⟨h3,h4⟩:=hb.j8 ya;have i1:y.hi.q⁻¹<=b⁻¹:=by
   rcases h0 with h0|h0
   .exact Ns aK h4
   .exact UZ aK h4
  have i2:b⁻¹<=y.lo.q⁻¹:=by
   rcases h0 with h0|h0
   .exact Ns h0 h3
   .exact UZ aK h3
  obtain⟨k1,k2⟩:=RC h1 h2 i1 i2;rw[e];simp only[cL];exact⟨aK,aK⟩
def EZ{x y:Iv}(p:Nat)(h:x.all=true\/nn y=0):jj x y p=gU:=by
 unfold jj;rw[aZ (by rcases h with h|h<;>rw[h]<;>simp)]
def It{x y:Iv}(hx:x.gY)(hy:y.gY){p:Nat}(hp:1<=p)(gX:p<=4096){a b:Rat}(ha:x.jR a)(hb:y.jR b):(jj x y p).jR (a/b):=by
 cases xa:x.all
 .by_cases hs:nn y=0
  .rw [EZ p (.inr hs)];exact .inl rfl
  .exact (Is hx hy xa hs hp gX).jR _ ⟨a,b,ha,hb,rfl⟩
 .rw [EZ p (.inl xa)];exact .inl rfl
def Cs{x:Iv}(h:x.lo.q<=x.hi.q):x.hi.q<=(kB x).q /\ -x.lo.q<=(kB x).q/\((kB x).q=x.hi.q\/(kB x).q = -x.lo.q):=by
 obtain⟨a1,a2,a3,a4⟩:=zp x.lo;obtain⟨b1,b2,b3,b4⟩:=zp x.hi;obtain⟨c1,c2,c3⟩:=GA (lN x.lo) (lN x.hi);unfold kB;generalize (iZ (lN x.lo) (lN x.hi)).q=M at *
 refine⟨aK,aK,?_⟩;rcases c3 with c3|c3
 .rcases a4 with a4|a4
  .grind
  .grind
 .rcases b4 with b4|b4
  .grind
  .grind
def ag6{x x':Iv}(hx:x.gY)(AD:x'.gY)(h:Sub x x')(xa:x'.all=false):(kB x).q<=(kB x').q:=by
 obtain⟨h1,h2,h3⟩:=h.wY xa;obtain⟨a1,a2,a3⟩:=Cs hx.q;obtain⟨b1,b2,b3⟩:=Cs AD.q
 grind
def NL{x:Iv}(hx:x.gY)(xa:x.all=false):0<=(oI x).q/\(x.lo.q<=0->0<=x.hi.q->(oI x).q=0)/\(0<x.lo.q->(oI x).q=x.lo.q)/\(x.hi.q<0->(oI x).q = -x.hi.q):=by
 have hle:=hx.q;obtain⟨a1,a2,a3,a4⟩:=zp x.lo;obtain⟨b1,b2,b3,b4⟩:=zp x.hi;obtain⟨c1,c2,c3⟩:=CE (lN x.lo) (lN x.hi);by_cases hs:nn x=0
 .have hn:¬(0<x.lo.q\/x.hi.q<0):=λh=>Ph xa h hs
  have:oI x=iq:=by unfold oI;rw[aZ hs]
  rw[this,tA];refine⟨b6,λ_ _=>rfl,λh=>absurd (.inl h) hn,λh=>absurd (.inr h) hn⟩
 .obtain ⟨_,h0⟩:=Yi hx hs;have:oI x=jc (lN x.lo) (lN x.hi):=by unfold oI;rw[aY hs]
  rw[this];generalize (jc (lN x.lo) (lN x.hi)).q=M at *
  generalize (lN x.lo).q=u at *
  generalize (lN x.hi).q=v at *
  refine⟨aK,aK,aK,aK⟩
def amh{x x':Iv}(hx:x.gY)(AD:x'.gY)(h:Sub x x'):Sub (jQ x) (jQ x'):=by
 cases xa:x'.all
 .obtain ⟨h1,h2,h3⟩:=h.wY xa;unfold jQ;rw[h1,xa];refine .inr ⟨rfl,?_,ag6 hx AD h xa⟩;show(oI x').q<=(oI x).q;obtain⟨a1,a2,a3,a4⟩:=NL hx h1;obtain⟨b1,b2,b3,b4⟩:=NL AD xa;have:=hx.q;by_cases c1:0<x'.lo.q
  .rw [b3 c1,a3 aK];exact h2
  .by_cases c2:x'.hi.q<0
   .rw [b4 c2,a4 aK];grind
   .rw [b2 aK aK];exact a1
 .refine .inl ?_;unfold jQ;rw[aZ xa];rfl
def Hn{x:Iv}(hx:x.gY){r s:Rat}(h:x.jR r)(hs:s=r/\0<=r\/s = -r/\r<=0):(jQ x).jR s:=by
 unfold jQ;cases xa:x.all
 .obtain ⟨h1,h2⟩:=h.j8 xa;obtain⟨a1,a2,a3⟩:=Cs hx.q;obtain⟨b1,b2,b3,b4⟩:=NL hx xa;refine .inr ⟨?_,?_⟩
  .show (oI x).q<=s;by_cases c1:0<x.lo.q
   .rw [b3 c1];grind
   .by_cases c2:x.hi.q<0
    .rw [b4 c2];grind
    .rw [b2 aK aK];grind
  .show s<=(kB x).q
   grind
 .exact .inl rfl
def OB(d:Dy):(ml d).jR d.q:=.inr ⟨b6,b6⟩
def zh(n:Int):(jk n).jR (n:Rat):=by have:=OB (iS n);rwa[A5]at this
def jd(d:Dy)(p:Nat)(up:Bool):Nat->Dy×Int
 | 0=>(jZ d p up,jO d p up)
 |k+1=>if(jd d p up k).2≠0 then jd d p up k else(jZ (w9 (jd d p up k).1 d) p up,jO (w9 (jd d p up k).1 d) p up)
def kY(d:Dy)(n p:Nat)(up:Bool):Dy×Int:=if d.iK<0 then(jo (jd (jo d) p (!up) (n-1)).1,(jd (jo d) p (!up) (n-1)).2)else jd d p up (n-1)
def uk(x:Iv)(n:Nat):Iv:=if n%2=0 then jQ x else x
def mD(x:Iv)(n p:Nat):Iv:=
 if x.all then gU else if n=0 then ml ⟨false,1,0⟩
 else lH (kY (uk x n).lo n p false).1 (kY (uk x n).lo n p false).2 (kY (uk x n).hi n p true).1 (kY (uk x n).hi n p true).2
def nB(r:Rat):Nat->Rat
 | 0=>1
 |n+1=>nB r n*r
def CK{r:Rat}(h:0<=r):∀ n,0<=nB r n
 | 0=>by show(0:Rat)<=1;decide
 |n+1=>bQ (CK h n) h
def GJ{a b:Rat}(h0:0<=a)(h:a<=b):∀ n,nB a n<=nB b n
 | 0=>b6
 |n+1=>by
  have ih:=GJ h0 h n;have m1:=cj ih h0;have m2:=cG h (CK (bH h0 h) n);exact bH m1 m2
def CJ(r:Rat):∀ n,nB (-r) n=if n%2=0 then nB r n else -nB r n
 | 0=>rfl
 |n+1=>by
  have ih:=CJ r n;simp only[nB,ih];have:n%2=0\/n%2=1:= aC ;rcases this with h|h
  .have h':(n+1)%2=1:= aC ;rw[h,h'];simp;grind
  .have h':(n+1)%2=0:= aC ;rw[h,h'];simp;grind
def O4{a b:Rat}{n:Nat}(hn:n%2=1)(h:a<=b):nB a n<=nB b n:=by
 by_cases h0:0<=a
 .exact GJ h0 h n
 .have ea:=CJ (-a) n;rw[fi,hn]at ea;simp only[gO,bk]at ea;by_cases hb:0<=b
  .have h1:=CK (show 0 <= -a by grind) n;have h2:=CK hb n
   grind
  .have eb:=CJ (-b) n;rw[fi,hn]at eb;simp only[gO,bk]at eb;have:=GJ (show 0 <= -b by grind) (show -b <= -a by grind) n
   grind
def OC{d:Dy}(hd:d.nc)(h0:0<=d.q){p:Nat}(hp:1<=p)(gX:p<=4096):∀ k,(jd d p false k).2=0->0<=(jd d p false k).1.q/\(jd d p false k).1.q<=nB d.q (k+1)
 | 0,he=>by
  have A:=xg hd hp gX;refine⟨(A.2 0 (.inl (zQ p)) h0).2,?_⟩;have:=(A.1 he).2;simp only[nB,fj];exact this
 |k+1,he=>by
  by_cases hk:(jd d p false k).2≠0
  .exfalso;simp only[jd,aZ hk]at he;exact hk he
  .have nN:(jd d p false k).2=0:= aC ;obtain⟨i1,i2⟩:=OC hd h0 hp gX k nN;have A:=xg (Aa (jd d p false k).1 d) hp gX;rw[D9]at A;simp only[jd,aY hk]at he ⊢;refine⟨(A.2 0 (.inl (zQ p)) (bQ i1 h0)).2,?_⟩;have h1:=(A.1 he).2;have h2:=cj i2 h0;exact bH h1 h2
def OE{d:Dy}(hd:d.nc)(h0:0<=d.q){p:Nat}(hp:1<=p)(gX:p<=4096):∀ k,(jd d p true k).2=0->nB d.q (k+1)<=(jd d p true k).1.q
 | 0,he=>by
  have A:=xh hd hp gX;have:=(A.1 he).2;simp only[nB,fj];exact this
 |k+1,he=>by
  by_cases hk:(jd d p true k).2≠0
  .exfalso;simp only[jd,aZ hk]at he;exact hk he
  .have nN:(jd d p true k).2=0:= aC ;have i2:=OE hd h0 hp gX k nN;have A:=xh (Aa (jd d p true k).1 d) hp gX;rw[D9]at A;simp only[jd,aY hk]at he ⊢;have h1:=(A.1 he).2;have h2:=cj i2 h0;exact bH h2 h1
def adk{d:Dy}(hd:d.nc){n p:Nat}(hn:1<=n)(hs:0<=d.q\/n%2=1)(hp:1<=p)(gX:p<=4096)(he:(kY d n p false).2=0):(kY d n p false).1.q<=nB d.q n:=by
 unfold kY at he ⊢;by_cases h:d.iK<0
 .rw [aZ h]at he ⊢;have hq:=(rH d).2.1 h;have AA:=hs.resolve_left aK;have:=OE (Oa hd) (by rw[qJ];grind) hp gX (n-1) he;rw[(aC:n-1+1=n),qJ,CJ,AA]at this;simp only[gO,bk]at this;show(jo _).q<=_;rw[qJ];simp only[dX]
  grind
 .rw [aY h]at he ⊢;have h0:0<=d.q:=by
   apply dc.1;intro im;exact h ((rH d).2.2 im)
  have:=(OC hd h0 hp gX (n-1) he).2;rwa[(aC:n-1+1=n)]at this
def adl{d:Dy}(hd:d.nc){n p:Nat}(hn:1<=n)(hs:0<=d.q\/n%2=1)(hp:1<=p)(gX:p<=4096)(he:(kY d n p true).2=0):nB d.q n<=(kY d n p true).1.q:=by
 unfold kY at he ⊢;by_cases h:d.iK<0
 .rw [aZ h]at he ⊢;have hq:=(rH d).2.1 h;have AA:=hs.resolve_left aK;have:=(OC (Oa hd) (by rw[qJ];grind) hp gX (n-1) he).2;rw[(aC:n-1+1=n),qJ,CJ,AA]at this;simp only[gO,bk]at this;show _<=(jo _).q;rw[qJ];simp only[eR]
  grind
 .rw [aY h]at he ⊢;have h0:0<=d.q:=by
   apply dc.1;intro im;exact h ((rH d).2.2 im)
  have:=OE hd h0 hp gX (n-1) he;rwa[(aC:n-1+1=n)]at this
def aix{x:Iv}(hx:x.gY){n p:Nat}(hp:1<=p)(gX:p<=4096){r:Rat}(h:x.jR r):(mD x n p).jR (nB r n):=by
 unfold mD;cases xa:x.all
 .simp only[bB,bk];by_cases hn:n=0
  .rw [aZ hn];subst hn;have e:(⟨false,1,0⟩:Dy).q=1:= aL ;refine .inr ⟨?_,?_⟩
   .show (⟨false,1,0⟩:Dy).q<=1;rw[e];exact b6
   .show 1<=(⟨false,1,0⟩:Dy).q;rw[e];exact b6
  .rw [aY hn];obtain⟨s,hs,tf,hsn⟩:∃ s,(uk x n).jR s/\(n%2=0->0<=(uk x n).lo.q/\0<=s)/\nB r n=nB s n:=by
    unfold uk;by_cases qe:n%2=0
    .rw [aZ qe];have hl:0<=(jQ x).lo.q:=by
      unfold jQ;rw[xa];show 0<=(oI x).q;unfold oI;split
      .rw [tA];exact b6
      .obtain ⟨_,_,m⟩:=CE (lN x.lo) (lN x.hi);rcases m with m|m<;>rw[m]
       .exact (zp x.lo).1
       .exact (zp x.hi).1
     by_cases hr:0<=r
     .exact ⟨r,Hn hx h (.inl ⟨rfl,hr⟩),λ_=>⟨hl,hr⟩,rfl⟩
     .refine ⟨-r,Hn hx h (.inr ⟨rfl,aK⟩),λ_=>⟨hl,aK⟩,?_⟩;rw[CJ,aZ qe]
    .rw [aY qe];exact⟨r,h,λq=>absurd q qe,rfl⟩
   have Cf:(uk x n).gY:=by unfold uk;split;exact Ho hx;exact hx
   have ya:(uk x n).all=false:=by
    unfold uk;split
    .unfold jQ;rw[xa];rfl
    .exact xa
   rw[hsn];generalize uk x n=y at *
   obtain⟨s1,s2⟩:=hs.j8 ya;obtain⟨c1,c2⟩:=Cf.yz;unfold lH;split
   .exact .inl rfl
   .rename_i he;have AA:¬n%2=0->n%2=1:=λq=> aC 
    refine .inr ⟨?_,?_⟩
    .refine bH (adk c1 aC ?_ hp gX aC) ?_
     .by_cases qe:n%2=0
      .exact .inl (tf qe).1
      .exact .inr (AA qe)
     .by_cases qe:n%2=0
      .exact GJ (tf qe).1 s1 n
      .exact O4 (AA qe) s1
    .refine bH ?_ (adl c2 aC ?_ hp gX aC)
     .by_cases qe:n%2=0
      .exact GJ (tf qe).2 s2 n
      .exact O4 (AA qe) s2
     .by_cases qe:n%2=0
      .exact .inl (bH (tf qe).2 s2)
      .exact .inr (AA qe)
 .rw [aZ rfl];exact .inl rfl
end Go.Proofs.YtkdddbdjilcofaaGreatDoor.Fp
namespace Go.Proofs.YtkdddbdjilcofaaGreatDoor
open Go.RowKit Fp Pu
structure mL where
 kind:Nat
 a:Nat
 b:Nat
 n:Nat
 cn:Int
 cd:Int
structure pt where
 ie:Nat
 gT:List mL
 iw:List Nat
structure jB where
 tape:pt
 iI:Nat
 params:List Iv
def iy:mL:=⟨0,0,0,0,0,0⟩
def J0(o:mL):List E:=[iP (o.kind:Int),iP (o.a:Int),iP (o.b:Int),iP (o.n:Int),iP o.cn,iP o.cd]
def wk(o:mL):E:=.agg (J0 o)
def kH(l:List mL):E:=.sl true l.length 6 λi j=>(J0 (l.getD i iy)).getD j .any
def kG(l:List Nat):E:=.sl true l.length 1 λi _=>iP (l.getD i 0:Int)
def ak1(t:pt):List E:=[iP (t.ie:Int),kH t.gT,kG t.iw]
def GW(t:pt):E:=.agg (ak1 t)
def akE(s:jB):List E:=[iP (s.tape.ie:Int),kH s.tape.gT,kG s.tape.iw,iP (s.iI:Int),gZ s.params]
def kU(s:jB):E:=.agg (akE s)
def pG(n d:Int):Bool:=decide (1<=d)&&(decide (d<=1073741824)&&(decide (-1073741824<=n)&&(decide (n<=1073741824)&&decide (Nat.gcd n.natAbs d.natAbs=1))))
def OI{n d:Int}(h:pG n d=true):1<=d/\d<=1073741824 /\ -1073741824<=n/\n<=1073741824:=by
 unfold pG at h;simp only[bF,b9]at h;exact⟨h.1,h.2.1,h.2.2.1,h.2.2.2.1⟩
def Ff(f:FuncId)(x:Iv)(p:Nat):Prop:=∃ y:Iv,y.gY/\gR f [ib x,iP (p:Int)] (ib y)
def uq:Prop:=∀ (x:Iv) (p:Nat),x.gY->8<=p->p<=512->Ff 201 x p/\Ff 203 x p/\Ff 204 x p/\Ff 205 x p/\Ff 208 x p
structure nF(o:mL)(m:Nat):Prop where
 k3:o.kind=1\/3<=o.kind
 wX:o.kind<=13
 a:if o.kind=1 then o.a=0 else o.a<m
 b:if 3<=o.kind/\o.kind<=6 then o.b<m else o.b=0
 n:if o.kind=8 then o.n<=16 else o.n=0
 c:if o.kind=1 then pG o.cn o.cd=true else o.cn=0/\o.cd=0
 f:o.kind<=8\/uq
structure yl(t:pt):Prop where
 ie:t.ie<=8
 gT:t.gT.length<=200
 iw:t.iw.length<=200
 op:∀ i,i<t.gT.length->nF (t.gT.getD i iy) (t.ie+i)
 out:∀ i,i<t.iw.length->t.iw.getD i 0<t.ie+t.gT.length
def qa(l:List Iv):Prop:=∀ i,i<l.length->(l.getD i gU).gY/\(l.getD i gU).all=false
structure lM(s:jB):Prop where
 tape:yl s.tape
 s1:1<=s.iI
 s4:s.iI<=4
 iw:s.tape.iw.length=s.iI
 ie:s.tape.ie=s.iI+s.params.length
 p4:s.params.length<=4
 params:qa s.params
structure ko(n:Nat)(b:List Iv):Prop where
 len:b.length=n
 ok:qa b
def qy(l:List Iv):Bool:=(List.range l.length).any λi=>(l.getD i gU).all
def me(h:Dy):Iv:=⟨iq,h,false⟩
def No(x f:List Iv)(h:Dy)(p i:Nat):Iv:=jE (x.getD i gU) (iz (me h) (f.getD i gU) p) p
def yX(x f:List Iv)(h:Dy)(p:Nat):List Iv:=(List.range x.length).map (No x f h p)
def Yt{h:Dy}(hv:h.gY)(h0:0<=h.q):(me h).gY:=.inr ⟨rfl,rn,hv,by show iO iq h<=0;rw[oJ,tA];exact h0⟩
def wo(d:Dy){p:Nat}(hp:1<=p)(gX:p<=4096)(up:Bool):(jZ d p up).gY:=sZ _ _ _ _ _ _ hp gX
def zo(d:Dy){p:Nat}(hp:1<=p)(gX:p<=4096)(up:Bool):∀ k,(jd d p up k).1.gY
 | 0=>wo _ hp gX _
 |k+1=>by
  unfold jd;split
  .exact zo d hp gX up k
  .exact wo _ hp gX _
def Sn(d:Dy)(n:Nat){p:Nat}(hp:1<=p)(gX:p<=4096)(up:Bool):(kY d n p up).1.gY:=by
 unfold kY;split
 .exact zf (zo _ hp gX _ _)
 .exact zo _ hp gX _ _
def WJ:canon false 1 0=⟨false,1,0⟩:=by
 have h1:(canon false 1 0).neg=false:= aL ;have h2:(canon false 1 0).m=1:= aL ;have h3:(canon false 1 0).e=0:= aL ;generalize canon false 1 0=d at *
 cases d;simp_all
def D2:(⟨false,1,0⟩:Dy).gY:=by
 have h2:mB (canon false 1 0):= aL ;rw[<-WJ];exact⟨rq _ _ _,h2⟩
def W0{x:Iv}(hx:x.gY)(n:Nat){p:Nat}(hp:1<=p)(gX:p<=4096):(mD x n p).gY:=by
 have hh:=aix hx (n:=n) hp gX hx.An;revert hh;unfold mD;split
 .intro _;exact lL
 .split
  .intro _;exact vi D2
  .unfold lH;split
   .intro _;exact lL
   .intro hh;obtain⟨h1,h2⟩:=hh.j8 rfl;exact .inr ⟨rfl,Sn _ _ hp gX _,Sn _ _ hp gX _,(oJ _ _).2 (bH h1 h2)⟩
def lY(l:List Iv):Prop:=∀ i,(l.getD i gU).gY
def lY.push{l:List Iv}(h:lY l){y:Iv}(hy:y.gY):lY (l++[y]):=λi=>by
 rw[bd,eB];split
 .have:=h i;rwa[bd]at this
 .rcases i-l.length with _|j
  .exact hy
  .exact lL
def qa.PD{l:List Iv}(h:qa l):lY l:=λi=>by
 by_cases hi:i<l.length
 .exact (h i hi).1
 .rw [bd,b7 aC];exact lL
def lY.append{l r:List Iv}(h:lY l)(k:lY r):lY (l++r):=λi=>by
 rw[bd,eB];split
 .have:=h i;rwa[bd]at this
 .have:=k (i-l.length);rwa[bd]at this
def ae8{l:List Iv}(h:qy l=false)(v:lY l):qa l:=λi hi=>⟨v i,by simpa using List.any_eq_false.1 h i (bW.2 hi)⟩
def afK{x f:List Iv}{h:Dy}(hx:lY x){p:Nat}(hp:1<=p)(gX:p<=4096)(i:Nat):(No x f h p i).gY:=qP (hx i) (og _ _ hp gX) hp gX
def Jw(x f:List Iv)(h:Dy)(p:Nat):(yX x f h p).length=x.length:=by simp[yX]
def Jv{x f:List Iv}{h:Dy}{p i:Nat}(hi:i<x.length):(yX x f h p).getD i gU=No x f h p i:=by
 simp[yX,bd,hi]
def afL{x f:List Iv}{h:Dy}(hx:lY x){p:Nat}(hp:1<=p)(gX:p<=4096):lY (yX x f h p):=λi=>by
 by_cases hi:i<x.length
 .rw [Jv hi];exact afK hx hp gX i
 .rw [bd,b7 (by rw[Jw];omega)];exact lL
def uT(a b:List Iv):Bool:=(List.range a.length).all λi=>AJ (a.getD i gU) (b.getD i gU)
def vJ(x:Iv)(d:Dy):Bool:=decide (kp (iJ x.lo (jo d))=0)&&decide (kp (iJ x.hi d)=0)
def qw(x:Iv)(d:Dy):Iv:=⟨jq (iJ x.lo (jo d)),jq (iJ x.hi d),false⟩
def rB(x:List Iv)(d:Dy):Bool:=(List.range x.length).all λi=>vJ (x.getD i gU) d
def rP(x:List Iv)(d:Dy):List Iv:=if rB x d then(List.range x.length).map λi=>qw (x.getD i gU) d else[]
def pW(x y:Iv):Iv:=if x.all||y.all then gU else⟨jc x.lo y.lo,iZ x.hi y.hi,false⟩
def mZ(x y:List Iv):List Iv:=(List.range x.length).map λi=>pW (x.getD i gU) (y.getD i gU)
def oB(x:Iv)(p:Nat):Dy:=jZ (iJ x.hi (jo x.lo)) p true
def vv(x:Iv)(p:Nat):Int:=jO (iJ x.hi (jo x.lo)) p true
def nE(x:List Iv)(p:Nat):Nat->Dy
 | 0=>iq
 |k+1=>if 0<iO (oB (x.getD k gU) p) (nE x p k)then oB (x.getD k gU) p else nE x p k
def G8(x:List Iv)(p:Nat):Bool:=(List.range x.length).all λi=>decide (vv (x.getD i gU) p=0)
def Ux{x y:Iv}(hx:x.gY)(hy:y.gY):(pW x y).gY:=by
 unfold pW;cases xa:x.all
 .cases ya:y.all
  .obtain ⟨x1,x2⟩:x.lo.gY/\x.hi.gY:=hx.j8;obtain⟨y1,y2⟩:y.lo.gY/\y.hi.gY:=hy.j8;refine .inr ⟨rfl,w7 x1 y1,ug x2 y2,?_⟩;rw[oJ];have hq:=hx.q;obtain⟨a1,a2,_⟩:=CE x.lo y.lo;obtain⟨b1,b2,_⟩:=GA x.hi y.hi
   grind
  .exact lL
 .exact lL
def Uw{x y:List Iv}{n:Nat}(hx:ko n x)(hy:ko n y):ko n (mZ x y):=by
 refine⟨by simp[mZ,hx.len],λi hi=>?_⟩;have mo:i<x.length:=by simpa[mZ]using hi
 have e:(mZ x y).getD i gU=pW (x.getD i gU) (y.getD i gU):=by simp[mZ,bd,mo]
 obtain⟨v1,a1⟩:=hx.ok i mo;obtain⟨v2,a2⟩:=hy.ok i (by rw[hy.len,<-hx.len];exact mo);rw[e];refine⟨Ux v1 v2,?_⟩;unfold pW;rw[a1,a2];rfl
def aeU{x:Iv}(hx:x.gY){d:Dy}(hd:d.gY)(h0:0<=d.q)(h:vJ x d=true):(qw x d).gY:=by
 unfold vJ at h;rw[bF,b9,b9]at h;obtain⟨h1,h2⟩:=h;have r1:mB (iJ x.lo (jo d)):=bL λq=>by rw[EM q]at h1;cases h1
 have r2:mB (iJ x.hi d):=bL λq=>by rw[EM q]at h2;cases h2
 obtain⟨c1,c2⟩:=hx.yz;unfold qw;refine .inr ⟨rfl,EO (By c1 (zf hd).canon),EO (By c2 hd.canon),?_⟩;show iO (jq _) (jq _)<=0;rw[Ab r1,Ab r2,oJ,OF,OF,qJ];have:=hx.q
 grind
def Mc{x:List Iv}{n:Nat}(hx:ko n x){d:Dy}(hd:d.gY)(h0:0<=d.q)(h:rB x d=true):ko n (rP x d):=by
 unfold rP;rw[aZ h];refine⟨by simp[hx.len],λi hi=>?_⟩;have mo:i<x.length:=by simpa using hi
 have e:((List.range x.length).map λi=>qw (x.getD i gU) d).getD i gU=qw (x.getD i gU) d:=by simp[bd,mo]
 rw[e];exact⟨aeU (hx.ok i mo).1 hd h0 (bN.1 h i (bW.2 mo)),rfl⟩
def acX(s:Bool)(L:List Nat)(e:Int)(hk:iE L)(hl:L.length<=256)(mn:-1000000<=e)(lk:e<=1000000):gR 98 [bP s,gW L,iP e] (gV (canon s (val L) e)):=by
 refine⟨call98,λw B vs hK hB hr=>?_⟩;obtain⟨v1,vs,rfl,h1,hr⟩:=hr.nj;obtain⟨v2,vs,rfl,h2,hr⟩:=hr.nj;obtain⟨v3,vs,rfl,h3,hr⟩:=hr.nj;obtain rfl:=hr.rW;obtain rfl:=ix.kz h1;obtain rfl:=ix.kz h3;obtain⟨A,c,rfl,s1⟩:=zF hk h2;exact(Iu s A c L e w s1 aC (by have:=pq L;unfold mz at this;omega) mn lk hK).mono λe w' h=>rd B w e w' hB h
def alo(x y:Nat):E.le (.sl false 2 1 λi j=>[E.v (.int .u32 (x:Int)),.v (.int .u32 (y:Int))].getD (i*1+j) (.v (.bool false))) (gW [x,y]):=.sl λi j hi hj=>by
 obtain rfl:j=0:= aC ;obtain rfl|rfl:i=0\/i=1:= aC 
 .exact ⟨.refl _,rfl⟩
 .exact ⟨.refl _,rfl⟩
def Ci(n:Nat):iS (n:Int)=canon false n 0:=by
 unfold iS jW;rw[a7 aC,fQ]
def DP(n:Nat)(h:n<4294967296):(iS (n:Int)).gY:=by
 rw[Ci];refine⟨rq _ _ _,?_⟩;by_cases h0:n=0
 .subst h0;exact .inl rfl
 .have:=Dd (s:=false) (e:=0) h0;have hb:ia n<=32:=lZ.2 h;refine .inr ⟨aC,aC,?_,aC⟩;obtain⟨h1,h2,h3,h4⟩:=this;have:=nR h3;omega
def alI(x y:Nat):val [x,y]=x+4294967296*y:=by simp[val]
def QD(d:Dy)(n p:Nat)(x:Nat):PS:=⟨41,true,[(14,.e (iP ((x+1:Nat):Int))),(13,.e (iP ((jd d p false x).2))),(12,.box 12 0),(10,.box 10 0),(5,.box 5 0),(1,.e (iP n)),(2,.e (iP p)),(4,.e (.fn 154 []))],[(12,.cells 31 (iu ((jd d p false x).1))),(10,.cells 31 ar),(5,.cells 31 (iu d))]⟩
def QE(d:Dy)(n N p:Nat)(x:Nat):PS:=⟨41,true,[(14,.e (iP ((x+1:Nat):Int))),(13,.e (iP ((jd d p false x).2))),(12,.box 12 0),(10,.box 10 0),(5,.box 5 0),(1,.e (iP n)),(2,.e (iP p)),(4,.e (.fn 154 []))],[(12,.cells 31 (iu ((jd d p false x).1))),(10,.cells 31 ar),(5,.cells 31 (iu d))]⟩
def QF(d:Dy)(n p:Nat)(x:Nat):PS:=⟨41,true,[(14,.e (iP ((x+1:Nat):Int))),(13,.e (iP ((jd d p true x).2))),(12,.box 12 0),(10,.box 10 0),(5,.box 5 0),(1,.e (iP n)),(2,.e (iP p)),(4,.e (.fn 155 []))],[(12,.cells 31 (iu ((jd d p true x).1))),(10,.cells 31 ar),(5,.cells 31 (iu d))]⟩
def QG(d:Dy)(n N p:Nat)(x:Nat):PS:=⟨41,true,[(14,.e (iP ((x+1:Nat):Int))),(13,.e (iP ((jd d p true x).2))),(12,.box 12 0),(10,.box 10 0),(5,.box 5 0),(1,.e (iP n)),(2,.e (iP p)),(4,.e (.fn 155 []))],[(12,.cells 31 (iu ((jd d p true x).1))),(10,.cells 31 ar),(5,.cells 31 (iu d))]⟩
def aaq(a b:Dy)(ha:a.gY)(hb:b.gY):gR 172 [gV a,gV b] (.ig [gV (jq (iJ a b)),iP (kp (iJ a b))]):=J3 call172 (λA c A' c' w h k hT=>R6 a b A A' c c' w h k hT ha hb) GD
def EG(a b:Dy)(ha:a.gY)(hb:b.gY):gR 137 [gV a,gV b] (.ig [gV (jq (iJ a (jo b))),iP (kp (iJ a (jo b)))]):=J3 call137 (λA c A' c' w h k hT=>ac5 a b A A' c c' w h k hT ha hb) GD
def EC(a b:Dy)(ha:a.gY)(hb:b.gY):gR 138 [gV a,gV b] (.ig [gV (jq (iJ a b)),iP (kp (iJ a b))]):=
 ak call138 func138 (af [ag [gV a] (ng _ aD),ag [gV b] (ng _ aD),ag [gV a,gV b] (aaq _ _ aD aD)]) 
def Qp(s:Bool)(m:Nat)(e:Int)(hl:(gS m).length<=256)(mn:-1000000<=e)(lk:e<=1000000):gR 98 [bP s,gW (gS m),iP e] (gV (canon s m e)):=by
 refine⟨call98,λw B vs hK hB hr=>?_⟩;obtain⟨v1,vs,rfl,h1,hr⟩:=hr.nj;obtain⟨v2,vs,rfl,h2,hr⟩:=hr.nj;obtain⟨v3,vs,rfl,h3,hr⟩:=hr.nj;obtain rfl:=hr.rW;obtain rfl:=ix.kz h1;obtain rfl:=ix.kz h3;obtain⟨A,c,rfl,s1⟩:=zF (mH m) h2;exact(Df s m e A c w s1 hl mn lk hK).mono λe w' h=>rd B w e w' hB h
def Qq(d:Dy)(hl:(gS d.m).length<=100000000)(mn:-10000000<=d.e)(lk:d.e<=10000000):gR 97 [gV d] (.ig [gV (jq d),iP (kp d)]):=
 D6 call97 (λA c w h _=>Ij d A c w h aC aC aC) GD
def ZV(k:Int)(h1:-32768<=k)(h2:k<=32768):gR 96 [iP k] (bP true):=
 ak call96 func96 (af [tT 4 ((-32768)<=k) aC,tT 7 (k<=32768) aC]) 
def Da(d:Dy)(k:Int)(hv:d.gY)(h1:-32768<=k)(h2:k<=32768):gR 57 [gV d,iP k] (.ig [gV (jq (canon d.neg d.m (d.e+k))),iP (kp (canon d.neg d.m (d.e+k)))]):=by
 have hl:=hv.gS;have he:=hv.exp;have iQ:=Ln (mH d.m) hl d.neg (d.e+k);obtain⟨lQ,qV⟩:=Lj (mH d.m) hl d.neg (d.e+k) aC aC;rw[kf]at iQ lQ qV;exact ak call57 func57 (af [ag [gV d] (ng _ aD),.c (ZV k aC aC),ik (d.e+k) aC,ag [bP d.neg,gW (gS d.m),iP (d.e+k)] (Qp _ _ _ aC aC aC),ag [gV (canon d.neg d.m (d.e+k))] (Qq _ aC aC aC)]) 
def ED(n:Nat)(h:n<4294967296):gR 74 [iP n] (gV (iS (n:Int))):=by
 have ok2:iE [n%4294967296,n/4294967296%4294967296]:=iE.cons (bE _ aE) (iE.cons (bE _ aE) iE.nil);exact ak call74 func74 (ae [.o 5 (.int (ss _ aC):aj (.v (.int .u64 (IntKind.u64.wrap (n:Int)))) (.v (.int .u64 (n:Int)))),tF 7 ((n:Int)<0) aC,tF 11 ((n:Int)<0) aC,.o 13 (.int (Em _):aj (.v (.int .u32 (IntKind.u32.wrap (n:Int)))) (.v (.int .u32 ((n%4294967296:Nat):Int)))),.a (aC:0<=(32:Int)/\(32:Int)<=((64:Nat):Int)),.o 15 (.int (Ye _):aj (.v (.int .u64 ((n:Int)/2^32))) (.v (.int .u64 ((n/4294967296:Nat):Int)))),.o 16 (.int (Em _):aj (.v (.int .u32 (IntKind.u32.wrap ((n/4294967296:Nat):Int)))) (.v (.int .u32 (((n/4294967296)%4294967296:Nat):Int)))),.o 17 (.e (alo _ _):aj (.sl false 2 1 λi_ j_=>[.v (.int .u32 ((n%4294967296:Nat):Int)),.v (.int .u32 (((n/4294967296)%4294967296:Nat):Int))].getD (i_*1+j_) (.v (.bool false))) (gW [n%4294967296,(n/4294967296)%4294967296])),ag [bP false,gW [n%4294967296,(n/4294967296)%4294967296],iP 0] (acX _ _ _ ok2 aH aE aE)]<|rQ (gV (canon false (val [n%4294967296,(n/4294967296)%4294967296]) 0)) (gV (iS (n:Int))) (by rw[alI,(aC:n%4294967296+4294967296*(n/4294967296%4294967296)=n),Ci])) 
def afY:iS 1=⟨false,1,0⟩:=by rw[show(1:Int)=((1:Nat):Int)from rfl,Ci];exact WJ
def K9:gR 74 [iP 1] (gV ⟨false,1,0⟩):=by
 have:=ED 1 aE;rwa[show((1:Nat):Int)=1 from rfl,afY]at this
def HI(d:Dy)(p:Nat)(hd:d.gY)(ic:8<=p)(gX:p<=512):gR 251 [gV d,iP p] (.ig [gV (jZ d p false),iP (jO d p false)]):=
 ak call251 func251 (af [.c (Kb d p false aD aC aC)]) 
def HW(d:Dy)(p:Nat)(hd:d.gY)(ic:8<=p)(gX:p<=512):gR 250 [gV d,iP p] (.ig [gV (jZ d p true),iP (jO d p true)]):=
 ak call250 func250 (af [.c (Kb d p true aD aC aC)]) 
def OD(d:Dy)(p:Nat)(up:Bool)(N:Nat)(h:(jd d p up N).2≠0):∀ k,jd d p up (N+k)=jd d p up N
 | 0=>rfl
 |k+1=>by
  have ih:=OD d p up N h k;show(if(jd d p up (N+k)).2≠0 then jd d p up (N+k)else _)=_;rw[ih,aZ h]
def A4{d:Dy}{p:Nat}{up:Bool}{k:Nat}(h:(jd d p up k).2=0):jd d p up (k+1)=(jZ (jt (jd d p up k).1 d) p up,jO (jt (jd d p up k).1 d) p up):=by
 show(if(jd d p up k).2≠0 then _ else _)=_;rw[aY (not_not_intro h)];rfl
def aaf(d:Dy)(n p:Nat)(hd:d.gY)(hn:1<=n)(mh:n<=16)(ic:8<=p)(gX:p<=512)(jJ:∀ x,x<n-1->(jd d p false x).2=0):gR 249 [gV d,iP n,iP p,.fn 251 [],.fn 154 []] (.ig [gV (jd d p false (n-1)).1,iP (jd d p false (n-1)).2]):=
 ak call249 func249 (af [.c (HI d p aD aC aC),.s (Sp.jH (QD d n p) 0 (n-1) aC (λx hx mw=>by
    have nS:=jJ x aC;have hv:=zo d (aC:1<=p) (aC:p<=4096) false x;exact iB (ae [tT 24 (((x+1:Nat):Int)<n) aC,ah 27 (((jd d p false x).2)==0) (by rw[nS];rfl),.c (J9 ((jd d p false x).1) d p aD aD aC aC),
     ik (((x+1:Nat):Int)+1) aC]<|.e (af [.o 13 (aq (jO (jt ((jd d p false x).1) d) p false) ((jd d p false (x+1)).2) (by rw[A4 nS])),.b 12 (.iM (by rw[A4 nS]):Bx.le (.cells 31 (iu (jZ (jt ((jd d p false x).1) d) p false))) (.cells 31 (iu ((jd d p false (x+1)).1))))])) aF)
  (λhx=>by
    exact iB (af [tF 24 ((((n-1)+1:Nat):Int)<n) aC]) aF) aI:jD 3 f249 (QD d n p 0) (.exit 0) ⟨41,true,[(13,.e (iP ((jd d p false (n-1)).2))),(12,.box 12 0),(10,.box 10 0)],[(12,.cells 31 (iu ((jd d p false (n-1)).1))),(10,.cells 31 ar)]⟩) (af [.o 14 (aq 1 ((0+1:Nat):Int) rfl),.o 13 (aq (jO d p false) ((jd d p false 0).2) rfl),.b 12 (.iM rfl:Bx.le (.cells 31 (iu (jZ d p false))) (.cells 31 (iu ((jd d p false 0).1))))])]) 
def aag(d:Dy)(n N p:Nat)(hd:d.gY)(hn:1<=n)(mh:n<=16)(ic:8<=p)(gX:p<=512)(pU:N<n-1)(jJ:∀ x,x<N->(jd d p false x).2=0)(hN:(jd d p false N).2≠0):gR 249 [gV d,iP n,iP p,.fn 251 [],.fn 154 []] (.ig [gV (jd d p false N).1,iP (jd d p false N).2]):=
 ak call249 func249 (af [.c (HI d p aD aC aC),.s (Sp.jH (QE d n N p) 0 N aC (λx hx mw=>by
    have nS:=jJ x aC;have hv:=zo d (aC:1<=p) (aC:p<=4096) false x;exact iB (ae [tT 24 (((x+1:Nat):Int)<n) aC,ah 27 (((jd d p false x).2)==0) (by rw[nS];rfl),.c (J9 ((jd d p false x).1) d p aD aD aC aC),
     ik (((x+1:Nat):Int)+1) aC]<|.e (af [.o 13 (aq (jO (jt ((jd d p false x).1) d) p false) ((jd d p false (x+1)).2) (by rw[A4 nS])),.b 12 (.iM (by rw[A4 nS]):Bx.le (.cells 31 (iu (jZ (jt ((jd d p false x).1) d) p false))) (.cells 31 (iu ((jd d p false (x+1)).1))))])) aF)
  (λhx=>by
    exact iB (af [tT 24 (((N+1:Nat):Int)<n) aC,ai 27 (((jd d p false N).2)==0) (by simpa using hN)]) aF) aI:jD 3 f249 (QE d n N p 0) (.exit 0) ⟨41,true,[(13,.e (iP ((jd d p false N).2))),(12,.box 12 0),(10,.box 10 0)],[(12,.cells 31 (iu ((jd d p false N).1))),(10,.cells 31 ar)]⟩) (af [.o 14 (aq 1 ((0+1:Nat):Int) rfl),.o 13 (aq (jO d p false) ((jd d p false 0).2) rfl),.b 12 (.iM rfl:Bx.le (.cells 31 (iu (jZ d p false))) (.cells 31 (iu ((jd d p false 0).1))))])]) 
def aah(d:Dy)(n p:Nat)(hd:d.gY)(hn:1<=n)(mh:n<=16)(ic:8<=p)(gX:p<=512):gR 249 [gV d,iP n,iP p,.fn 251 [],.fn 154 []] (.ig [gV (jd d p false (n-1)).1,iP (jd d p false (n-1)).2]):=by
 by_cases h:∃ x,x<n-1/\decide ((jd d p false x).2≠0)=true
 .obtain ⟨N,h1,h2,h3⟩:=sL h;have hN:(jd d p false N).2≠0:=cC h2;have:=aag d n N p hd hn mh ic gX h1 (λx hx=>by simpa using h3 x hx) hN;have e:=OD d p false N hN (n-1-N);rw[(aC:N+(n-1-N)=n-1)]at e;rw[e];exact this
 .exact aaf d n p hd hn mh ic gX λx hx=>bL λq=>h ⟨x,hx,a6 q⟩
def aai(d:Dy)(n p:Nat)(hd:d.gY)(hn:1<=n)(mh:n<=16)(ic:8<=p)(gX:p<=512)(jJ:∀ x,x<n-1->(jd d p true x).2=0):gR 249 [gV d,iP n,iP p,.fn 250 [],.fn 155 []] (.ig [gV (jd d p true (n-1)).1,iP (jd d p true (n-1)).2]):=
 ak call249 func249 (af [.c (HW d p aD aC aC),.s (Sp.jH (QF d n p) 0 (n-1) aC (λx hx mw=>by
    have nS:=jJ x aC;have hv:=zo d (aC:1<=p) (aC:p<=4096) true x;exact iB (ae [tT 24 (((x+1:Nat):Int)<n) aC,ah 27 (((jd d p true x).2)==0) (by rw[nS];rfl),.c (Ka ((jd d p true x).1) d p aD aD aC aC),
     ik (((x+1:Nat):Int)+1) aC]<|.e (af [.o 13 (aq (jO (jt ((jd d p true x).1) d) p true) ((jd d p true (x+1)).2) (by rw[A4 nS])),.b 12 (.iM (by rw[A4 nS]):Bx.le (.cells 31 (iu (jZ (jt ((jd d p true x).1) d) p true))) (.cells 31 (iu ((jd d p true (x+1)).1))))])) aF)
  (λhx=>by
    exact iB (af [tF 24 ((((n-1)+1:Nat):Int)<n) aC]) aF) aI:jD 3 f249 (QF d n p 0) (.exit 0) ⟨41,true,[(13,.e (iP ((jd d p true (n-1)).2))),(12,.box 12 0),(10,.box 10 0)],[(12,.cells 31 (iu ((jd d p true (n-1)).1))),(10,.cells 31 ar)]⟩) (af [.o 14 (aq 1 ((0+1:Nat):Int) rfl),.o 13 (aq (jO d p true) ((jd d p true 0).2) rfl),.b 12 (.iM rfl:Bx.le (.cells 31 (iu (jZ d p true))) (.cells 31 (iu ((jd d p true 0).1))))])]) 
def aaj(d:Dy)(n N p:Nat)(hd:d.gY)(hn:1<=n)(mh:n<=16)(ic:8<=p)(gX:p<=512)(pU:N<n-1)(jJ:∀ x,x<N->(jd d p true x).2=0)(hN:(jd d p true N).2≠0):gR 249 [gV d,iP n,iP p,.fn 250 [],.fn 155 []] (.ig [gV (jd d p true N).1,iP (jd d p true N).2]):=
 ak call249 func249 (af [.c (HW d p aD aC aC),.s (Sp.jH (QG d n N p) 0 N aC (λx hx mw=>by
    have nS:=jJ x aC;have hv:=zo d (aC:1<=p) (aC:p<=4096) true x;exact iB (ae [tT 24 (((x+1:Nat):Int)<n) aC,ah 27 (((jd d p true x).2)==0) (by rw[nS];rfl),.c (Ka ((jd d p true x).1) d p aD aD aC aC),
     ik (((x+1:Nat):Int)+1) aC]<|.e (af [.o 13 (aq (jO (jt ((jd d p true x).1) d) p true) ((jd d p true (x+1)).2) (by rw[A4 nS])),.b 12 (.iM (by rw[A4 nS]):Bx.le (.cells 31 (iu (jZ (jt ((jd d p true x).1) d) p true))) (.cells 31 (iu ((jd d p true (x+1)).1))))])) aF)
  (λhx=>by
    exact iB (af [tT 24 (((N+1:Nat):Int)<n) aC,ai 27 (((jd d p true N).2)==0) (by simpa using hN)]) aF) aI:jD 3 f249 (QG d n N p 0) (.exit 0) ⟨41,true,[(13,.e (iP ((jd d p true N).2))),(12,.box 12 0),(10,.box 10 0)],[(12,.cells 31 (iu ((jd d p true N).1))),(10,.cells 31 ar)]⟩) (af [.o 14 (aq 1 ((0+1:Nat):Int) rfl),.o 13 (aq (jO d p true) ((jd d p true 0).2) rfl),.b 12 (.iM rfl:Bx.le (.cells 31 (iu (jZ d p true))) (.cells 31 (iu ((jd d p true 0).1))))])]) 
def aak(d:Dy)(n p:Nat)(hd:d.gY)(hn:1<=n)(mh:n<=16)(ic:8<=p)(gX:p<=512):gR 249 [gV d,iP n,iP p,.fn 250 [],.fn 155 []] (.ig [gV (jd d p true (n-1)).1,iP (jd d p true (n-1)).2]):=by
 by_cases h:∃ x,x<n-1/\decide ((jd d p true x).2≠0)=true
 .obtain ⟨N,h1,h2,h3⟩:=sL h;have hN:(jd d p true N).2≠0:=cC h2;have:=aaj d n N p hd hn mh ic gX h1 (λx hx=>by simpa using h3 x hx) hN;have e:=OD d p true N hN (n-1-N);rw[(aC:N+(n-1-N)=n-1)]at e;rw[e];exact this
 .exact aai d n p hd hn mh ic gX λx hx=>bL λq=>h ⟨x,hx,a6 q⟩
def Qr(d:Dy)(n p:Nat)(hd:d.gY)(h0:¬d.iK<0)(hn:1<=n)(mh:n<=16)(ic:8<=p)(gX:p<=512):gR 226 [gV d,iP n,iP p,bP false] (.ig [gV (kY d n p false).1,iP (kY d n p false).2]):=
 ak call226 func226 (ae [ag [gV d] (mP _ aD),tB 14 (a7 h0),.c (aah d n p aD aC aC aC aC)]<|rQ (.ig [gV ((jd d p false (n-1)).1),iP ((jd d p false (n-1)).2)]) (.ig [gV (kY d n p false).1,iP (kY d n p false).2]) (by unfold kY;rw[aY h0])) 
def Qs(d:Dy)(n p:Nat)(hd:d.gY)(h0:¬d.iK<0)(hn:1<=n)(mh:n<=16)(ic:8<=p)(gX:p<=512):gR 226 [gV d,iP n,iP p,bP true] (.ig [gV (kY d n p true).1,iP (kY d n p true).2]):=
 ak call226 func226 (ae [ag [gV d] (mP _ aD),tB 14 (a7 h0),.c (aak d n p aD aC aC aC aC)]<|rQ (.ig [gV ((jd d p true (n-1)).1),iP ((jd d p true (n-1)).2)]) (.ig [gV (kY d n p true).1,iP (kY d n p true).2]) (by unfold kY;rw[aY h0])) 
def Yg{d:Dy}(h:d.iK<0):¬(jo d).iK<0:=by
 rw[(rH _).2,qJ];have:=(rH d).2.1 h
 grind
def ZP(d:Dy)(n p:Nat)(hd:d.gY)(h0:¬d.iK<0)(hn:1<=n)(mh:n<=16)(ic:8<=p)(gX:p<=512):gR 226 [gV d,iP (n:Int),iP (p:Int),bP false] (.ig [gV (jd d p false (n-1)).1,iP (jd d p false (n-1)).2]):=by
 have:=Qr d n p hd h0 hn mh ic gX;unfold kY at this;rwa[aY h0]at this
def ZQ(d:Dy)(n p:Nat)(hd:d.gY)(h0:¬d.iK<0)(hn:1<=n)(mh:n<=16)(ic:8<=p)(gX:p<=512):gR 226 [gV d,iP (n:Int),iP (p:Int),bP true] (.ig [gV (jd d p true (n-1)).1,iP (jd d p true (n-1)).2]):=by
 have:=Qs d n p hd h0 hn mh ic gX;unfold kY at this;rwa[aY h0]at this
def ZN(d:Dy)(n p:Nat)(hd:d.gY)(h0:d.iK<0)(hn:1<=n)(mh:n<=16)(ic:8<=p)(gX:p<=512):gR 226 [gV d,iP n,iP p,bP false] (.ig [gV (kY d n p false).1,iP (kY d n p false).2]):=by
 have FC:=zf hd;have h1:=Yg h0;have hv:=zo (jo d) (aC:1<=p) (aC:p<=4096) true (n-1);exact ak call226 func226 (ae [ag [gV d] (mP _ aD),tB 14 (a6 h0),ag [gV d] (yB _ aD),ag [gV (jo d),iP n,iP p,bP true] (ZQ _ _ _ FC h1 hn mh ic gX),ag [gV ((jd (jo d) p true (n-1)).1)] (yB _ aD)]<|rQ (.ig [gV (jo ((jd (jo d) p true (n-1)).1)),iP ((jd (jo d) p true (n-1)).2)]) (.ig [gV (kY d n p false).1,iP (kY d n p false).2]) (by unfold kY;rw[aZ h0];rfl)) 
def Qt(d:Dy)(n p:Nat)(hd:d.gY)(hn:1<=n)(mh:n<=16)(ic:8<=p)(gX:p<=512):gR 226 [gV d,iP (n:Int),iP (p:Int),bP false] (.ig [gV (kY d n p false).1,iP (kY d n p false).2]):=by
 by_cases h0:d.iK<0
 .exact ZN d n p hd h0 hn mh ic gX
 .exact Qr d n p hd h0 hn mh ic gX
def ZO(d:Dy)(n p:Nat)(hd:d.gY)(h0:d.iK<0)(hn:1<=n)(mh:n<=16)(ic:8<=p)(gX:p<=512):gR 226 [gV d,iP n,iP p,bP true] (.ig [gV (kY d n p true).1,iP (kY d n p true).2]):=by
 have FC:=zf hd;have h1:=Yg h0;have hv:=zo (jo d) (aC:1<=p) (aC:p<=4096) false (n-1);exact ak call226 func226 (ae [ag [gV d] (mP _ aD),tB 14 (a6 h0),ag [gV d] (yB _ aD),ag [gV (jo d),iP n,iP p,bP false] (ZP _ _ _ FC h1 hn mh ic gX),ag [gV ((jd (jo d) p false (n-1)).1)] (yB _ aD)]<|rQ (.ig [gV (jo ((jd (jo d) p false (n-1)).1)),iP ((jd (jo d) p false (n-1)).2)]) (.ig [gV (kY d n p true).1,iP (kY d n p true).2]) (by unfold kY;rw[aZ h0];rfl)) 
def Qu(d:Dy)(n p:Nat)(hd:d.gY)(hn:1<=n)(mh:n<=16)(ic:8<=p)(gX:p<=512):gR 226 [gV d,iP (n:Int),iP (p:Int),bP true] (.ig [gV (kY d n p true).1,iP (kY d n p true).2]):=by
 by_cases h0:d.iK<0
 .exact ZO d n p hd h0 hn mh ic gX
 .exact Qs d n p hd h0 hn mh ic gX
def aal(x:Iv)(n p:Nat)(hx:x.gY)(ha:x.all=true)(hn:n<=16)(ic:8<=p)(gX:p<=512):gR 200 [ib x,iP n,iP p] (ib (mD x n p)):=
 ak call200 func200 (ae [.o 12 (.e (lG _):aj (.sl true 1 7 λi_ j_=>(iF x).getD (i_*7+j_) (.v (.bool false))) (gZ [x])),ag [gZ [x]] (pM _ aD),ai 13 (!x.all) (by rw[ha];rfl),.c nv]<|rQ (ib gU) (ib (mD x n p)) (by unfold mD;rw[aZ ha])) 
def aao(x:Iv)(n p:Nat)(hx:x.gY)(ha:x.all=false)(h0:n=0)(ic:8<=p)(gX:p<=512):gR 200 [ib x,iP n,iP p] (ib (mD x n p)):=by
 have v1:=D2;exact ak call200 func200 (ae [.o 12 (.e (lG _):aj (.sl true 1 7 λi_ j_=>(iF x).getD (i_*7+j_) (.v (.bool false))) (gZ [x])),ag [gZ [x]] (pM _ aD),ah 13 (!x.all) (by rw[ha];rfl),ag [iP p] (vZ _),ah 17 (mI (p:Int)) (rY.2 ⟨aC,aC⟩),tF 22 ((n:Int)<0) aC,tF 26 (16<(n:Int)) aC,ah 30 ((n:Int)==0) (tw h0),ag [iP 1] K9,.c (AK (Dy.mk false 1 0) aD)]<|rQ (ib (ml (Dy.mk false 1 0))) (ib (mD x n p)) (by unfold mD;rw[aY (by rw[ha];decide),aZ h0])) 
def aam(x:Iv)(n p:Nat)(hx:x.gY)(ha:x.all=false)(h0:n≠0)(hn:n<=16)(he:n%2=0)(ic:8<=p)(gX:p<=512):gR 200 [ib x,iP n,iP p] (ib (mD x n p)):=by
 have va:=Ho hx;obtain⟨w1,w2⟩:=va.j8;exact ak call200 func200 (ae [.o 12 (.e (lG _):aj (.sl true 1 7 λi_ j_=>(iF x).getD (i_*7+j_) (.v (.bool false))) (gZ [x])),ag [gZ [x]] (pM _ aD),ah 13 (!x.all) (by rw[ha];rfl),ag [iP p] (vZ _),ah 17 (mI (p:Int)) (rY.2 ⟨aC,aC⟩),tF 22 ((n:Int)<0) aC,tF 26 (16<(n:Int)) aC,ai 30 ((n:Int)==0) (nA h0),.a (aC:0<(2:Int)),.o 34 (aq (Int.tmod (n:Int) 2) ((n%2:Nat):Int) (by rw[am7 aC];omega)),ah 35 (((n%2:Nat):Int)==0) (tw he),.c (Nu x aD),ag [gV ((jQ x).lo),iP n,iP p,bP false] (Qt _ _ _ aD aC aC aC aC),ag [gV ((jQ x).hi),iP n,iP p,bP true] (Qu _ _ _ aD aC aC aC aC),.c (Cl ((kY ((jQ x).lo) n p false).1) ((kY ((jQ x).hi) n p true).1) ((kY ((jQ x).lo) n p false).2) ((kY ((jQ x).hi) n p true).2))]<|rQ (ib (lH ((kY ((jQ x).lo) n p false).1) ((kY ((jQ x).lo) n p false).2) ((kY ((jQ x).hi) n p true).1) ((kY ((jQ x).hi) n p true).2))) (ib (mD x n p)) (by unfold mD uk;rw[aY (by rw[ha];decide),aY h0,aZ he])) 
def aan(x:Iv)(n p:Nat)(hx:x.gY)(ha:x.all=false)(h0:n≠0)(hn:n<=16)(he:¬n%2=0)(ic:8<=p)(gX:p<=512):gR 200 [ib x,iP n,iP p] (ib (mD x n p)):=by
 have va:=hx;obtain⟨w1,w2⟩:=va.j8;exact ak call200 func200 (ae [.o 12 (.e (lG _):aj (.sl true 1 7 λi_ j_=>(iF x).getD (i_*7+j_) (.v (.bool false))) (gZ [x])),ag [gZ [x]] (pM _ aD),ah 13 (!x.all) (by rw[ha];rfl),ag [iP p] (vZ _),ah 17 (mI (p:Int)) (rY.2 ⟨aC,aC⟩),tF 22 ((n:Int)<0) aC,tF 26 (16<(n:Int)) aC,ai 30 ((n:Int)==0) (nA h0),.a (aC:0<(2:Int)),.o 34 (aq (Int.tmod (n:Int) 2) ((n%2:Nat):Int) (by rw[am7 aC];omega)),ai 35 (((n%2:Nat):Int)==0) (nA he),ag [gV x.lo,iP n,iP p,bP false] (Qt _ _ _ aD aC aC aC aC),ag [gV x.hi,iP n,iP p,bP true] (Qu _ _ _ aD aC aC aC aC),.c (Cl ((kY x.lo n p false).1) ((kY x.hi n p true).1) ((kY x.lo n p false).2) ((kY x.hi n p true).2))]<|rQ (ib (lH ((kY x.lo n p false).1) ((kY x.lo n p false).2) ((kY x.hi n p true).1) ((kY x.hi n p true).2))) (ib (mD x n p)) (by unfold mD uk;rw[aY (by rw[ha];decide),aY h0,aY he])) 
def Hz(x:Iv)(n p:Nat)(hx:x.gY)(hn:n<=16)(ic:8<=p)(gX:p<=512):gR 200 [ib x,iP (n:Int),iP (p:Int)] (ib (mD x n p)):=by
 cases ha:x.all with
 |true=>exact aal x n p hx ha hn ic gX
 |false=>
  by_cases h0:n=0
  .exact aao x n p hx ha h0 ic gX
  .by_cases he:n%2=0
   .exact aam x n p hx ha h0 hn he ic gX
   .exact aan x n p hx ha h0 hn he ic gX
def QB(x y:Iv)(hx:x.gY)(hy:y.gY)(xa:x.all=false)(ya:y.all=false):gR 139 [ib x,ib y] (ib (pW x y)):=by
 obtain⟨v1,v2⟩:=hx.j8;obtain⟨v3,v4⟩:=hy.j8;exact ak call139 func139 (ae [.o 7 (.e (y5 _ _):aj (.sl true 2 7 λi_ j_=>(iF x++iF y).getD (i_*7+j_) (.v (.bool false))) (gZ [x,y])),ag [gZ [x,y]] (y4 _ _ aD aD),ah 8 (!(x.all||y.all)) (by rw[xa,ya];rfl),.c (Jx x.lo y.lo aD aD),.c (Jy x.hi y.hi aD aD)]<|rQ (ib (Iv.mk (jc x.lo y.lo) (iZ x.hi y.hi) false)) (ib (pW x y)) (by unfold pW;rw[xa,ya];rfl)) 
def QL(z:Int):(z==0)=decide (z=0):=by by_cases h:z=0<;>simp[h]
def Db(x:Iv)(p:Nat)(hx:x.gY)(xa:x.all=false)(ic:8<=p)(gX:p<=512):gR 141 [ib x,iP p] (.ig [gV (oB x p),bP (decide (vv x p=0))]):=by
 obtain⟨v1,v2⟩:=hx.j8;have v3:=zf v1;exact ak call141 func141 (ae [.o 9 (.e (lG _):aj (.sl true 1 7 λi_ j_=>(iF x).getD (i_*7+j_) (.v (.bool false))) (gZ [x])),ag [gZ [x]] (pM _ aD),ah 10 (!x.all) (by rw[xa];rfl),ag [iP p] (vZ _),ah 14 (mI (p:Int)) (rY.2 ⟨aC,aC⟩),ag [gV x.lo] (yB _ aD),.c (W6 x.hi (jo x.lo) p aD aD aC aC)]<|rQ (.ig [gV (jZ (iJ x.hi (jo x.lo)) p true),bP ((jO (iJ x.hi (jo x.lo)) p true)==0)]) (.ig [gV (oB x p),bP (decide (vv x p=0))]) (by rw[QL];rfl)) 
def Hw(x y:Iv):AJ x y=(y.all||(!x.all&&(decide (iO y.lo x.lo<=0)&&decide (iO x.hi y.hi<=0)))):=rfl
def ZY(x y:Iv)(hx:x.gY)(hy:y.gY):gR 106 [ib x,ib y] (bP (AJ x y)):=by
 obtain⟨v1,v2⟩:=hx.j8;obtain⟨v3,v4⟩:=hy.j8;exact ak call106 func106 (ae [.c (re x aD),.c (re y aD)]<|.w (y.all=true)
  (λk1=>ae [tB 14 k1]<|rQ (bP true) (bP (AJ x y)) (by rw[Hw];simp[k1]))
  (λk1=>ae [tB 14 (aV k1)]<|.w (x.all=true)
   (λk2=>ae [tB 17 k2]<|rQ (bP false) (bP (AJ x y)) (by rw[Hw];simp[k1,k2]))
   (λk2=>ae [tB 17 (aV k2),ag [gV y.lo,gV x.lo] (kI _ _ aD aD)]<|.w ((iO y.lo x.lo)<=0)
    (λk3=>ae [tB 25 (a6 k3),ag [gV x.hi,gV y.hi] (kI _ _ aD aD)]<|rQ (bP (decide ((iO x.hi y.hi)<=0))) (bP (AJ x y)) (by rw[Hw];simp[k1,k2,k3]))
    (λk3=>ae [tB 25 (a7 k3)]<|rQ (bP false) (bP (AJ x y)) (by rw[Hw];simp[k1,k2,k3]))))) 
def ami{α:Type}{l:List α}{i:Nat}{d:α}(h:i<l.length):l.getD i d=l[i]:=by
 rw[bd,bt h];rfl
def Cn{T n n' k:Nat}{F:Nat->Iv}{y:Iv}(hn:n=k)(tX:n'=k+1)(hy:y=F k):
 Bx.le (.row true T (n+[y].length) 7 λi j=>if i<n then iG ((List.range k).map F) i j else(E.kJ (gZ [y])) (i-n) j) (.row true T n' 7 (iG ((List.range (k+1)).map F))):=by
 subst hn tX hy;refine .row rfl λi j hi hj=>⟨.iM ?_,tn _ _ hj⟩
 have hi:i<n+1:=hi;by_cases h:i<n
 .rw [aZ h];simp only[iG];rw[OH h,OH hi]
 .have mo:i=n:= aC ;subst mo;rw[aY h,cX];simp only[iG];rw[OH hi];rfl
def VT{n:Nat}{M:List (List Iv)}(hn:n=M.length):E.le (.sl true n 1 (mc M)) (kS M):=by subst hn;exact .refl _
def DQ{n:Nat}{M:List Iv}(hn:n=M.length):E.le (.sl true n 7 (iG M)) (gZ M):=by subst hn;exact .refl _
def Cz(n:Nat)(h:n<4294967296):(jk (n:Int)).gY:=vi (DP n h)
def abQ(m:Nat)(e:Int):(canon false m e).neg=false:=by unfold canon;split<;>rfl
def afS{c:Nat}(hc:0<c):(iS (c:Int)).m≠0:=by
 rw[Ci];exact(Dd (s:=false) (e:=0) aC).2.2.1
def ahS{c:Nat}(hc:0<c):nn (jk (c:Int))=1:=by
 unfold nn jk ml;simp only[bB,bk];rw[aZ];unfold Dy.iK;rw[aY (afS hc),show(iS (c:Int)).neg=false by rw[Ci];exact abQ _ _];simp
section
variable {m m':List (List Iv)} {h h':Iv} {n p:Nat}
def Of(j:Nat)(hj:j<4294967296):(jk (j:Int)).gY:=vi (DP j hj)
end
def WE(c:Nat):(jk (c:Int)).lo.q=(c:Rat)/\(jk (c:Int)).hi.q=(c:Rat)/\(jk (c:Int)).all=false:=by
 refine⟨?_,?_,rfl⟩
 .show (iS _).q=_;rw[A5];exact dN c
 .show (iS _).q=_;rw[A5];exact dN c
def ai1(n:Nat)(hn:n<4294967296):gR 56 [iP (n:Int)] (gV (canon false n 0)):=by
 refine⟨call56,λw B vs hK hB hr=>?_⟩;obtain⟨v1,vs,rfl,h1,hr⟩:=hr.nj;obtain rfl:=hr.rW;obtain rfl:=ix.kz h1;exact(ai0 n w hn).mono λe w' h=>rd B w e w' hB h
def Xg(a b:Dy)(r:Bool)(hr:r=true↔a=b)(ha:(gS a.m).length<=100000)(hb:(gS b.m).length<=100000):gR 14 [gV a,gV b] (bP r):=
 J3 call14 (λA c A' c' w h k _=>aiW a b A A' c c' w _ h k ha hb hr) rv
end Go.Proofs.YtkdddbdjilcofaaGreatDoor
namespace Go.Proofs.YtkdddbdjilcofaaGreatDoor.Fp
end Go.Proofs.YtkdddbdjilcofaaGreatDoor.Fp
namespace Go.Proofs.YtkdddbdjilcofaaGreatDoor
open Go.RowKit Fp Pu
def ai3(d:Dy)(k:Int)(hd:d.gY)(oe:-32768<=k)(vO:k<=32768)(hr:mB (canon d.neg d.m (d.e+k))):gR 55 [gV d,iP k] (.ig [gV (canon d.neg d.m (d.e+k)),iP 0]):=by
 refine⟨call55,λw B vs hK hB FI=>?_⟩;obtain⟨v1,vs,rfl,h1,FI⟩:=FI.nj;obtain⟨v2,vs,rfl,h2,FI⟩:=FI.nj;obtain rfl:=FI.rW;obtain⟨A,c,rfl,s1⟩:=Iw h1;obtain rfl:=ix.kz h2;have:=ai4 d.neg A c (gS d.m) d.e k w s1 hd.xz oe vO (by rw[kf];exact hr);rw[kf]at this;exact this.mono λe w' h=>GD B w e w' hB h
def Q2{n:Int}{e:Int}:canon (iS n).neg (iS n).m ((iS n).e+e)=jW n e:=by
 unfold iS jW;by_cases h:n.natAbs=0
 .rw [h,EK,EK];show canon false 0 _=_;rw[EK]
 .have h1:=E3 h;rw[show canon (decide (n<0)) n.natAbs 0=⟨decide (n<0),n.natAbs/2^jl n.natAbs,0+(jl n.natAbs:Int)⟩by unfold canon;rw[aY h]];show canon (decide (n<0)) (n.natAbs/2^jl n.natAbs) (0+(jl n.natAbs:Int)+e)=_;rw[<-Lp _ _ _ (jl n.natAbs),h1];congr 1;omega
def Bw{n e:Int}(h1:n.natAbs<4294967296)(h2:-1000<=e)(h3:e<=1000):(jW n e).gY:=by
 refine⟨rq _ _ _,?_⟩;unfold jW;by_cases h0:n.natAbs=0
 .rw [h0,EK];exact .inl rfl
 .have:=Dd (s:=decide (n<0)) (e:=e) h0;have hb:ia n.natAbs<=32:=lZ.2 h1;obtain⟨h4,h5,h6,_⟩:=this;have:=nR h6;exact .inr ⟨aC,aC,aC,aC⟩
def sJ{n:Int}(h1:n.natAbs<4294967296):(iS n).gY:=Bw h1 aE aE 
def aiY(k:Nat)(w:World)(h0:0<k)(hn:k<4294967296):
 Calls prog 56 #[.int .i64 (-(k:Int))] w (yj w (canon true k 0)):=by
 have hm:=Ez k aC;have vQ:(k:Int)%4294967296=k:= aC ;rw[vQ]at hm;have hd:(k:Int)/4294967296=0:= aC ;have im:(-(k:Int))<0:= aC ;have Mz:decide ((-(k:Int))<0)=true:=a6 im;have hu:IntKind.u64.wrap (-(k:Int))=18446744073709551616-k:=by rw[IntKind.wrap_u64];omega
 have hs:IntKind.u64.wrap (-(18446744073709551616-(k:Int)))=k:=by rw[IntKind.wrap_u64];omega
 have HC:=anq (λ(A:Option Addr) c w (h:Sl w A c [k,0])=>OS true A c [k,0] 0 w h aH aE aE);have hv:val [k,0]=k:= aH ;rw[hv]at HC;clear hv;generalize canon true k 0=d at *
 generalize hN:(-(k:Int))=N at *
 go_enter func56,ntmps56;go_wp2_with fail;refine(HC.out _ _ _ (Sl.KB _ _ aH _ _ k 0 rfl rfl hn aE)).mono ?_;rintro r w1 ⟨A1,c1,rfl,uQ,iQ⟩;have jv:iC (w.alloc (.cells #[.bool false,.slice none 0 0,.int .i64 0] 31)) w1:=(iC.alloc _ _).trans iQ;have bx:=(jg.new w false none 0 0 0).ext jv;have b0:=bx.c0;have b1:=bx.c1;have b2:=bx.c2;have f0:=bx.fr 0;have f1:=bx.fr 1;have f2:=bx.fr 2;go_wp2;exact yC rfl rfl rfl (bx.set _ _ _ _ _) rfl (bx.rm uQ _ _ _ _ _) (jg.qL ((iC.alloc _ _).trans jv) (bc _) _ _ _ _ _)
def US(k:Nat)(h0:0<k):iS (-(k:Int))=canon true k 0:=by
 unfold iS jW;rw[a6 (show(-(k:Int))<0 by omega),am0,fQ]
def aiZ(n:Int)(h:n.natAbs<4294967296):gR 56 [iP n] (gV (iS n)):=by
 by_cases h0:0<=n
 .obtain ⟨k,rfl⟩:=en h0;rw[Ci];exact ai1 k aC 
 .obtain ⟨k,rfl⟩:∃ k:Nat,n = -(k:Int):=⟨n.natAbs,aC⟩
  rw[US k aC];refine⟨call56,λw B vs hK hB hr=>?_⟩;obtain⟨v1,vs,rfl,h1,hr⟩:=hr.nj;obtain rfl:=hr.rW;obtain rfl:=ix.kz h1;exact(aiY k w aC aC).mono λe w' h=>rd B w e w' hB h
open Classical in
noncomputable def Fp.tD(d:Dy)(k:Int):Dy:=if mB (canon d.neg d.m (d.e+k))then canon d.neg d.m (d.e+k)else iq
open Classical in
noncomputable def Fp.CM(d:Dy)(k:Int):Int:=if mB (canon d.neg d.m (d.e+k))then 0 else 9
def XF(d:Dy)(k:Int):(tD d k).gY:=by
 unfold tD;split
 .rename_i h;exact⟨rq _ _ _,h⟩
 .exact rn
noncomputable def Fp.lK(x:Iv)(k:Int):Iv:=if x.all then gU else lH (tD x.lo k) (CM x.lo k) (tD x.hi k) (CM x.hi k)
def Fp.qQ(x:Iv):Iv:=if x.all then x else⟨jo (kB x),kB x,false⟩
def Fp.pP(n:Int):Dy:=canon false 1 n
def wi{n:Int}(h:n.natAbs<4294967296):(jk n).gY:=vi (sJ h)
def C8{x:Iv}(hx:x.gY):(qQ x).gY:=by
 unfold qQ;cases kR:x.all
 .have he:=hx.j8;have hm:=F6 he.1 he.2;simp only[bB,bk];refine .inr ⟨rfl,zf hm,hm,?_⟩;show iO (jo (kB x)) (kB x)<=0;rw[oJ,qJ];obtain⟨a1,a2,_⟩:=Cs hx.q;have:=hx.q
  grind
 .exact hx
def ajK{d:Dy}{k:Int}(h:CM d k=0):tD d k=canon d.neg d.m (d.e+k):=by
 unfold CM at h;unfold tD;split at h
 .rename_i h1;rw[aZ h1]
 .cases h
def Bb{d:Dy}{k:Int}(h:CM d k=0):(tD d k).q=d.q*P2 k:=by
 rw[ajK h,qI,pF d,pH];cases d.neg<;>simp<;>grind
def GN{x:Iv}(hx:x.gY)(k:Int):(lK x k).gY:=by
 unfold lK;split
 .exact lL
 .unfold lH;split
  .exact lL
  .rename_i h;refine .inr ⟨rfl,XF _ _,XF _ _,?_⟩;rw[oJ,Bb aC,Bb aC,uZ];exact hx.q
def Pb{x:Iv}{r:Rat}(h:x.jR r)(k:Int):(lK x k).jR (r*P2 k):=by
 unfold lK;split
 .exact .inl rfl
 .rename_i ha;unfold lH;split
  .exact .inl rfl
  .obtain ⟨h1,h2⟩:=h.j8 (by simpa using ha);refine .inr ⟨?_,?_⟩
   .show (tD x.lo k).q<=_;rw[Bb aC,uZ];exact h1
   .show _<=(tD x.hi k).q;rw[Bb aC,uZ];exact h2
def ac1(k:Nat)(w:World)(h0:0<k)(hn:k<4294967296)(kq:Tb w):
 Calls prog 74 #[.int .i64 (-(k:Int))] w (yj w (canon true k 0)):=by
 have hd:(k:Int)/4294967296=0:= aC ;have im:(-(k:Int))<0:= aC ;have Mz:decide ((-(k:Int))<0)=true:=a6 im;have hu:IntKind.u64.wrap (-(k:Int))=18446744073709551616-k:=by rw[IntKind.wrap_u64];omega
 have hs:IntKind.u64.wrap (-(18446744073709551616-(k:Int)))=k:=by rw[IntKind.wrap_u64];omega
 have IS:IntKind.u32.wrap (k:Int)=k:=by rw[IntKind.wrap_u32];omega
 have ht:(iA [k,0]).length<=256:=by have:=pq [k,0];unfold mz at this;simp at this;omega
 have HC:=anq (λ(A:Option Addr) c w (h:Sl w A c [k,0]) (hT:Tb w)=>Iu true A c [k,0] 0 w h aH ht aE aE hT);have hv:val [k,0]=k:= aH ;rw[hv]at HC;clear hv ht;generalize canon true k 0=d at *
 generalize hN:(-(k:Int))=N at *
 go_enter func74,ntmps74;go_wp2_with fail;refine(HC.out _ _ _ (Sl.KB _ _ aH _ _ k 0 rfl rfl hn aE) (kq.below (by first|exact(iC.alloc _ _).trans (iC.alloc _ _)|exact iC.alloc _ _))).mono ?_;rintro r w1 ⟨A1,c1,rfl,uQ,iQ⟩;have jv:iC (w.alloc (.cells #[.bool false,.slice none 0 0,.int .i64 0] 31)) w1:=(iC.alloc _ _).trans iQ;have bx:=(jg.new w false none 0 0 0).ext jv;have b0:=bx.c0;have b1:=bx.c1;have b2:=bx.c2;have f0:=bx.fr 0;have f1:=bx.fr 1;have f2:=bx.fr 2;go_wp2;exact yC rfl rfl rfl (bx.set _ _ _ _ _) rfl (bx.rm uQ _ _ _ _ _) (jg.qL ((iC.alloc _ _).trans jv) (bc _) _ _ _ _ _)
def qR(n:Int)(h:n.natAbs<4294967296):gR 74 [iP n] (gV (iS n)):=by
 by_cases h0:0<=n
 .obtain ⟨k,rfl⟩:=en h0;exact ED k aC 
 .obtain ⟨k,rfl⟩:∃ k:Nat,n = -(k:Int):=⟨n.natAbs,aC⟩
  rw[US k aC];refine⟨call74,λw B vs hK hB hr=>?_⟩;obtain⟨v1,vs,rfl,h1,hr⟩:=hr.nj;obtain rfl:=hr.rW;obtain rfl:=ix.kz h1;exact(ac1 k w aC aC hK).mono λe w' h=>rd B w e w' hB h
def ajI(d:Dy)(k:Int):jq (canon d.neg d.m (d.e+k))=tD d k:=by unfold jq tD;split<;>simp_all
def ajJ(d:Dy)(k:Int):kp (canon d.neg d.m (d.e+k))=CM d k:=by unfold kp CM;split<;>simp_all
def od(a b:Nat):Nat->Nat×Nat
 | 0=>(a,b)
 |k+1=>((od a b k).2,(od a b k).1%(od a b k).2)
def LI(a b:Nat):∀ k,od a b (k+1)=od b (a%b) k
 | 0=>rfl
 |k+1=>by
  show((od a b (k+1)).2,(od a b (k+1)).1%(od a b (k+1)).2)=_;rw[LI a b k];rfl
def Sr(a b:Nat):∀ k,Nat.gcd (od a b k).1 (od a b k).2=Nat.gcd a b
 | 0=>rfl
 |k+1=>by
  show Nat.gcd (od a b k).2 ((od a b k).1%(od a b k).2)=_;rw[<-Sr a b k];exact(Nat.gcd_comm _ _).trans ((Nat.gcd_rec _ _).symm.trans (Nat.gcd_comm _ _))
def adm:∀ (b a:Nat),∃ N,(∀ k,k<N->(od a b k).2≠0)/\(od a b N).2=0:=by
 intro b
 induction b using Nat.strongRecOn with
 |ind b ih=>
  intro a;by_cases h:b=0
  .exact ⟨0,λk hk=>absurd hk (bn k),h⟩
  .obtain ⟨N,h1,h2⟩:=ih (a%b) (bE a (dL h)) b;refine⟨N+1,λk hk=>?_,by rw[LI];exact h2⟩;rcases k with _|k
   .exact h
   .rw [LI];exact h1 k aC 
def qK(n d:Int)(p:Nat):Iv:=if pG n d then lH (o0 (iS n) (iS d) p false) (qv (iS n) (iS d) p false) (o0 (iS n) (iS d) p true) (qv (iS n) (iS d) p true)else gU
def UR{d:Int}(h:d≠0):(iS d).m≠0:=by
 intro q;have hq:=A5 d;rw[pF,q]at hq;have e:(d:Rat)=0:=by
  rw[<-hq];split<;>simp
 rw[show(0:Rat)=((0:Int):Rat)from rfl,Rat.intCast_inj]at e;exact h e
def RV{a b:Dy}(b0:b.m≠0){p:Nat}(hp:1<=p)(gX:p<=4096)(up:Bool):(o0 a b p up).gY:=by
 unfold o0;split
 .exact rn
 .exact sZ _ _ _ _ _ _ hp gX
def O8(n d:Int){p:Nat}(hp:1<=p)(gX:p<=4096):(qK n d p).gY:=by
 unfold qK;split
 .rename_i h;obtain⟨r1,_⟩:=OI h;have d0:(iS d).m≠0:=UR aC;unfold lH;split
  .exact lL
  .rename_i he;obtain⟨A,B⟩:=RR (a:=iS n) d0 hp gX;refine .inr ⟨rfl,RV d0 hp gX _,RV d0 hp gX _,?_⟩;rw[oJ];exact bH (A.1 aC).2 (B.1 aC).2
 .exact lL
def Tg(a b:Nat)(x:Nat):PS:=⟨12,true,[(0,.e (.v (.int .u64 (((od a b x).1:Nat):Int)))),(1,.e (.v (.int .u64 (((od a b x).2:Nat):Int))))],[]⟩
def aeb(a b N:Nat)(ha:a<18446744073709551616)(hb:b<18446744073709551616)(jJ:∀ k,k<N->(od a b k).2≠0)(hN:(od a b N).2=0):gR 156 [.v (.int .u64 (a:Int)),.v (.int .u64 (b:Int))] (.v (.int .u64 (((od a b N).1:Nat):Int))):=
 ak call156 func156 (af [.s (Sp.jH (Tg a b) 0 N aC (λx hx mw=>by
    have jv:=jJ x aC;exact iB (ae [ah 6 ((((od a b x).2:Nat):Int) != 0) (ahA (jJ x aC)),.a (aC:0<((((od a b x).2:Nat):Int):Int))]<|.e (af [.o 0 (.int aO:aj (.v (.int .u64 (((od a b x).2:Nat):Int))) (.v (.int .u64 (((od a b (x+1)).1:Nat):Int)))),.o 1 (.int aO:aj (.v (.int .u64 ((((od a b x).1)%((od a b x).2):Nat):Int))) (.v (.int .u64 (((od a b (x+1)).2:Nat):Int))))])) aF)
  (λhx=>by
    exact iB (af [ai 6 ((((od a b N).2:Nat):Int) != 0) (ahz hN)]) aF) aI:jD 1 f156 (Tg a b 0) (.exit 0) ⟨12,true,[(0,.e (.v (.int .u64 (((od a b N).1:Nat):Int))))],[]⟩) (af [.o 0 (.int aO:aj (.v (.int .u64 (a:Int))) (.v (.int .u64 (((od a b 0).1:Nat):Int)))),.o 1 (.int aO:aj (.v (.int .u64 (b:Int))) (.v (.int .u64 (((od a b 0).2:Nat):Int))))])]) 
def aec(a b:Nat)(ha:a<18446744073709551616)(hb:b<18446744073709551616):gR 156 [.v (.int .u64 (a:Int)),.v (.int .u64 (b:Int))] (.v (.int .u64 (Nat.gcd a b:Int))):=by
 obtain⟨N,h1,h2⟩:=adm b a;have hg:=Sr a b N;rw[h2,Nat.gcd_zero_right]at hg;rw[<-hg];exact aeb a b N ha hb h1 h2
def aki(m:Nat)(h:m<=1073741824):gR 157 [iP m] (.v (.int .u64 (m:Int))):=
 ak call157 func157 (af [tF 4 ((m:Int)<0) aC,.o 9 (.int (ss _ aC):aj (.v (.int .u64 (IntKind.u64.wrap (m:Int)))) (.v (.int .u64 (m:Int))))]) 
def akh(m:Nat)(h0:0<m)(h:m<=1073741824):gR 157 [iP (-(m:Int))] (.v (.int .u64 (m:Int))):=
 ak call157 func157 (af [tT 4 ((-(m:Int))<0) aC,ik (0-(-(m:Int))) aC,.o 6 (aq (0-(-(m:Int))) m aC),.o 7 (.int (ss _ aC):aj (.v (.int .u64 (IntKind.u64.wrap (m:Int)))) (.v (.int .u64 (m:Int))))]) 
def Yk(n:Int)(h1:-1073741824<=n)(h2:n<=1073741824):gR 157 [iP n] (.v (.int .u64 (n.natAbs:Int))):=by
 by_cases h:0<=n
 .obtain ⟨m,rfl⟩:=en h;exact aki m aC 
 .obtain ⟨m,rfl⟩:∃ m:Nat,n = -(m:Int):=⟨n.natAbs,aC⟩
  rw[am0,fQ];exact akh m aC aC 
def Gq(g:Nat):((g:Int)==1)=decide (g=1):=by
 by_cases h:g=1
 .subst h;rfl
 .rw [a7 h];exact aT aC 
def J8(n d:Int):gR 110 [.agg [iP n,iP d]] (bP (pG n d)):=
 ak call110 func110 (.w (1<=d)
  (λk1=>ae [tB 5 (a6 k1)]<|.w (d<=1073741824)
   (λk2=>ae [tB 9 (a6 k2)]<|.w ((-1073741824)<=n)
    (λk3=>ae [tB 14 (a6 k3)]<|.w (n<=1073741824)
     (λk4=>ae [tB 19 (a6 k4),ag [iP n] (Yk _ aC aC),ag [iP d] (Yk _ aC aC),.c (aec (Int.natAbs n) (Int.natAbs d) aC aC)]<|rQ (bP ((Nat.gcd (Int.natAbs n) (Int.natAbs d):Int)==1)) (bP (pG n d)) (by unfold pG;simp[Gq,k1,k2,k3,k4]))
     (λk4=>ae [tB 19 (a7 k4)]<|rQ (bP false) (bP (pG n d)) (by unfold pG;simp[Gq,k1,k2,k3,k4])))
    (λk3=>ae [tB 14 (a7 k3)]<|rQ (bP false) (bP (pG n d)) (by unfold pG;simp[Gq,k1,k2,k3])))
   (λk2=>ae [tB 9 (a7 k2)]<|rQ (bP false) (bP (pG n d)) (by unfold pG;simp[Gq,k1,k2])))
  (λk1=>ae [tB 5 (a7 k1)]<|rQ (bP false) (bP (pG n d)) (by unfold pG;simp[Gq,k1]))) 
def VM{lo hi:Dy}{e f:Int}(h:e≠0\/f≠0):lH lo e hi f=gU:=aZ h
def ag5{lo hi:Dy}{e f:Int}(h:e=0)(k:f=0):lH lo e hi f=⟨lo,hi,false⟩:=aY (by rw[h,k];decide)
def W3(n d:Int)(p:Nat)(h:pG n d=true)(ic:8<=p)(gX:p<=512):gR 119 [.agg [iP n,iP d],iP p] (ib (qK n d p)):=by
 obtain⟨r1,r2,r3,r4⟩:=OI h;have v1:=sJ (n:=n) aC;have v2:=sJ (n:=d) aC;have d0:(iS d).m≠0:=UR aC;exact ak call119 func119 (ae [.c (J8 n d),ai 11 (!(pG n d)) (by rw[h];rfl),ag [iP n] (qR _ aC),ag [iP d] (qR _ aC),.c (W8 (iS n) (iS d) p aD aD aD aC aC),ag [iP n] (qR _ aC),ag [iP d] (qR _ aC),.c (W9 (iS n) (iS d) p aD aD aD aC aC)]<|.w ((qv (iS n) (iS d) p false)=0)
  (λk1=>ae [tB 36 (aW k1)]<|.w ((qv (iS n) (iS d) p true)=0)
   (λk2=>ae [tB 39 (aW k2)]<|rQ (ib (Iv.mk (o0 (iS n) (iS d) p false) (o0 (iS n) (iS d) p true) false)) (ib (qK n d p)) (by unfold qK;rw[aZ h,ag5 k1 k2]))
   (λk2=>ae [tB 39 (aX k2),.o 41 (.e KO:aj (.agg [bP false,.v (.slice none 0 0),iP 0,bP false,.v (.slice none 0 0),iP 0,bP true]) (ib gU))]<|rQ (ib gU) (ib (qK n d p)) (by unfold qK;rw[aZ h,VM (.inr k2)])))
  (λk1=>ae [tB 36 (aX k1),.o 41 (.e KO:aj (.agg [bP false,.v (.slice none 0 0),iP 0,bP false,.v (.slice none 0 0),iP 0,bP true]) (ib gU))]<|rQ (ib gU) (ib (qK n d p)) (by unfold qK;rw[aZ h,VM (.inl k1)]))) 
noncomputable def uD(x:Iv)(p:Nat):Iv:=@dite Iv (∃ y:Iv,y.gY/\gR 201 [ib x,iP (p:Int)] (ib y)) (Classical.propDecidable _) Classical.choose (λ_=>gU)
def LU(x:Iv)(p:Nat):(uD x p).gY:=by
 unfold uD;split
 .rename_i h;exact(cK h).1
 .exact lL
def SB(x:Iv)(hx:x.gY)(p:Nat)(ic:8<=p)(gX:p<=512)(hF:uq):gR 201 [ib x,iP (p:Int)] (ib (uD x p)):=by
 have h:∃ y:Iv,y.gY/\gR 201 [ib x,iP (p:Int)] (ib y):=(hF x p hx ic gX).1;unfold uD;rw[fm h];exact(cK h).2
noncomputable def uE(x:Iv)(p:Nat):Iv:=@dite Iv (∃ y:Iv,y.gY/\gR 203 [ib x,iP (p:Int)] (ib y)) (Classical.propDecidable _) Classical.choose (λ_=>gU)
def LV(x:Iv)(p:Nat):(uE x p).gY:=by
 unfold uE;split
 .rename_i h;exact(cK h).1
 .exact lL
def SC(x:Iv)(hx:x.gY)(p:Nat)(ic:8<=p)(gX:p<=512)(hF:uq):gR 203 [ib x,iP (p:Int)] (ib (uE x p)):=by
 have h:∃ y:Iv,y.gY/\gR 203 [ib x,iP (p:Int)] (ib y):=(hF x p hx ic gX).2.1;unfold uE;rw[fm h];exact(cK h).2
noncomputable def uF(x:Iv)(p:Nat):Iv:=@dite Iv (∃ y:Iv,y.gY/\gR 204 [ib x,iP (p:Int)] (ib y)) (Classical.propDecidable _) Classical.choose (λ_=>gU)
def SE(x:Iv)(p:Nat):(uF x p).gY:=by
 unfold uF;split
 .rename_i h;exact(cK h).1
 .exact lL
def SD(x:Iv)(hx:x.gY)(p:Nat)(ic:8<=p)(gX:p<=512)(hF:uq):gR 204 [ib x,iP (p:Int)] (ib (uF x p)):=by
 have h:∃ y:Iv,y.gY/\gR 204 [ib x,iP (p:Int)] (ib y):=(hF x p hx ic gX).2.2.1;unfold uF;rw[fm h];exact(cK h).2
noncomputable def uC(x:Iv)(p:Nat):Iv:=@dite Iv (∃ y:Iv,y.gY/\gR 205 [ib x,iP (p:Int)] (ib y)) (Classical.propDecidable _) Classical.choose (λ_=>gU)
def SA(x:Iv)(p:Nat):(uC x p).gY:=by
 unfold uC;split
 .rename_i h;exact(cK h).1
 .exact lL
def Sz(x:Iv)(hx:x.gY)(p:Nat)(ic:8<=p)(gX:p<=512)(hF:uq):gR 205 [ib x,iP (p:Int)] (ib (uC x p)):=by
 have h:∃ y:Iv,y.gY/\gR 205 [ib x,iP (p:Int)] (ib y):=(hF x p hx ic gX).2.2.2.1;unfold uC;rw[fm h];exact(cK h).2
noncomputable def o9(x:Iv)(p:Nat):Iv:=@dite Iv (∃ y:Iv,y.gY/\gR 208 [ib x,iP (p:Int)] (ib y)) (Classical.propDecidable _) Classical.choose (λ_=>gU)
def Fc(x:Iv)(p:Nat):(o9 x p).gY:=by
 unfold o9;split
 .rename_i h;exact(cK h).1
 .exact lL
def SG(x:Iv)(hx:x.gY)(p:Nat)(ic:8<=p)(gX:p<=512)(hF:uq):gR 208 [ib x,iP (p:Int)] (ib (o9 x p)):=by
 have h:∃ y:Iv,y.gY/\gR 208 [ib x,iP (p:Int)] (ib y):=(hF x p hx ic gX).2.2.2.2;unfold o9;rw[fm h];exact(cK h).2
def xv(o:mL):Bool:=decide (o.kind<=6)
noncomputable def mE(o:mL)(x y:Iv)(p:Nat):Iv:=
 if o.kind=3 then jE x y p else if o.kind=4 then rJ x y p else if o.kind=5 then iz x y p else if o.kind=6 then jj x y p
 else if o.kind=7 then pD x else if o.kind=8 then mD x o.n p else if o.kind=9 then uD x p else if o.kind=10 then uE x p
 else if o.kind=11 then uF x p else if o.kind=12 then uC x p else if o.kind=13 then o9 x p else gU
noncomputable def xt(o:mL)(l:List Iv)(p:Nat):Iv:=if o.kind=1 then qK o.cn o.cd p else mE o (l.getD o.a gU) (if xv o then l.getD o.b gU else gU) p
noncomputable def jI(gT:List mL)(xs:List Iv)(p:Nat):Nat->List Iv
 | 0=>xs
 |k+1=>jI gT xs p k++[xt (gT.getD k iy) (jI gT xs p k) p]
noncomputable def kn(t:pt)(xs:List Iv)(p:Nat):List Iv:=t.iw.map λk=>(jI t.gT xs p t.gT.length).getD k gU
noncomputable def kW(s:jB)(x:List Iv)(h:Dy)(b:List Iv)(p:Nat):List Iv:=
 if qy (kn s.tape (b++s.params) p)then[]else if qy (yX x (kn s.tape (b++s.params) p) h p)then[]else yX x (kn s.tape (b++s.params) p) h p
noncomputable def se(s:jB)(x:List Iv)(h:Dy)(b:List Iv)(p:Nat):Bool:=!(kW s x h b p).isEmpty&&(uT x b&&uT (kW s x h b p) b)
def PE(gT:List mL)(xs:List Iv)(p:Nat):∀ k,(jI gT xs p k).length=xs.length+k
 | 0=>rfl
 |k+1=>by simp only[jI,cA,PE gT xs p k,cM,amR];omega
def ZF(o:mL){x y:Iv}(hx:x.gY)(hy:y.gY){p:Nat}(hp:1<=p)(gX:p<=4096):(mE o x y p).gY:=by
 unfold mE;split
 .exact qP hx hy hp gX
 split
 .exact qP hx (Cw hy) hp gX
 split
 .exact og _ _ hp gX
 split
 .exact qc _ _ hp gX
 split
 .exact Cw hx
 split
 .exact W0 hx _ hp gX
 split
 .exact LU _ _
 split
 .exact LV _ _
 split
 .exact SE _ _
 split
 .exact SA _ _
 split
 .exact Fc _ _
 .exact lL
def ZH(o:mL){l:List Iv}(hl:lY l){p:Nat}(hp:1<=p)(gX:p<=4096):(xt o l p).gY:=by
 unfold xt;split
 .exact O8 _ _ hp gX
 .exact ZF o (hl _) (by split;exact hl _;exact lL) hp gX
def KK(gT:List mL){xs:List Iv}(h:lY xs){p:Nat}(hp:1<=p)(gX:p<=4096):∀ k,lY (jI gT xs p k)
 | 0=>h
 |k+1=>(KK gT h hp gX k).push (ZH _ (KK gT h hp gX k) hp gX)
def SI(t:pt){xs:List Iv}(h:lY xs){p:Nat}(hp:1<=p)(gX:p<=4096):lY (kn t xs p):=λi=>by
 unfold kn;rw[bd,cr];cases t.iw[i]? with
 |none=>exact lL
 |some k=>exact KK t.gT h hp gX _ _
def IH(t:pt)(xs:List Iv)(p:Nat):(kn t xs p).length=t.iw.length:=by simp[kn]
def Nn{s:jB}{x b:List Iv}{h:Dy}{p n:Nat}(hx:ko n x)(hp:1<=p)(gX:p<=4096)(jh:kW s x h b p≠[]):ko n (kW s x h b p):=by
 unfold kW at jh ⊢;split at jh
 .exact absurd rfl jh
 .rename_i h1;rw[aY h1];split at jh
  .exact absurd rfl jh
  .rename_i h2;rw[aY h2];exact⟨by rw[Jw,hx.len],ae8 (by simpa using h2) (afL hx.ok.PD hp gX)⟩
def acz:jl 1=0:= aL 
def Q3(e:Int):canon false 1 e=⟨false,1,e⟩:=by
 unfold canon;rw[aY aE,acz];simp
def jz(k:Int):Dy:=⟨false,1,k⟩
def Px{k:Int}(h1:-100<=k)(h2:k<=100):mB (jz k):=.inr ⟨by show ia 1<=4096;rw[xw];decide,by show -16384<=k;omega,by show k<=16384;omega,by show(ia 1:Int)+k<=16384;rw[xw];omega⟩
def G3{k:Int}(h1:-100<=k)(h2:k<=100):(jz k).gY:=⟨by have:=rq false 1 k;rwa[Q3]at this,Px h1 h2⟩
def Py(k:Int):¬(jz k).iK<0:=by
 rw[(rH _).2,pF];show ¬(if false=true then _ else((1:Nat):Rat)*P2 k)<0;rw[aY aE];have:=mX k
 grind
def Yh{d:Dy}(h:¬d.iK<0):0<=d.q:=by
 rw[(rH d).2]at h
 grind
noncomputable def rM(s:jB)(x:List Iv)(h:Dy)(p:Nat)(k:Int):Bool:=rB x (jz k)&&se s x h (rP x (jz k)) p
def zC(d:Dy):Dy:=jq (canon d.neg d.m (d.e + -3))
def Pc(d:Dy):Int:=kp (canon d.neg d.m (d.e + -3))
def r6(x:List Iv)(p:Nat):Dy:=if G8 x p then nE x p x.length else iq
noncomputable def lj(s:jB)(x:List Iv)(h:Dy)(b:List Iv)(p:Nat):List Iv:=
 if kW s x h b p=[]then[]else
 if G8 (mZ x (kW s x h b p)) p=false\/(r6 (mZ x (kW s x h b p)) p).iK=0 then mZ x (kW s x h b p)else
 if Pc (r6 (mZ x (kW s x h b p)) p)≠0 then mZ x (kW s x h b p)else
 if rB (mZ x (kW s x h b p)) (zC (r6 (mZ x (kW s x h b p)) p))then rP (mZ x (kW s x h b p)) (zC (r6 (mZ x (kW s x h b p)) p))else mZ x (kW s x h b p)
noncomputable def k0(s:jB)(x:List Iv)(h:Dy)(p:Nat):Nat->List Iv
 | 0=>x
 |j+1=>lj s x h (k0 s x h p j) p
def XH(d:Dy):(zC d).gY:=EO (rq _ _ _)
def XG{d:Dy}(h:0<=d.q):0<=(zC d).q:=by
 unfold zC jq;split
 .rw [qI];rw[pF]at h;have p1:=mX d.e;have p2:=mX (d.e + -3);have m0:(0:Rat)<=(d.m:Rat):=by exact_mod_cast bV d.m
  split
  .rename_i hn;rw[aZ hn]at h;have hm:(d.m:Rat)*P2 d.e=0:=by
    have:=bQ m0 (bG p1)
    grind
   have BV:(d.m:Rat)=0:=by
    rcases Rat.mul_eq_zero.1 hm with q|q
    .exact q
    .grind
   rw[BV]
   grind
  .exact bQ m0 (bG p2)
 .rw [tA];exact b6
def Y5(x:List Iv)(p:Nat):∀ k,0<=(nE x p k).q
 | 0=>by show 0<=iq.q;rw[tA];exact b6
 |k+1=>by
  have ih:=Y5 x p k;show 0<=(if 0<iO (oB (x.getD k gU) p) (nE x p k)then oB (x.getD k gU) p else nE x p k).q;split
  .rename_i h;have:¬iO (oB (x.getD k gU) p) (nE x p k)<=0:= aC ;rw[oJ]at this
   grind
  .exact ih
def Y6(x:List Iv)(p:Nat):0<=(r6 x p).q:=by
 unfold r6;split
 .exact Y5 x p _
 .rw [tA];exact b6
def aiz{d:Dy}(h:0<=d.q):¬d.iK<0:=by
 rw[(rH d).2]
 grind
def CU{s:jB}{x b:List Iv}{h:Dy}{p n:Nat}(hx:ko n x)(hp:1<=p)(gX:p<=4096)(jh:lj s x h b p≠[]):ko n (lj s x h b p):=by
 unfold lj at jh ⊢;split at jh
 .exact absurd rfl jh
 .rename_i h1;rw[aY h1];have hh:=Uw hx (Nn hx hp gX h1);split
  .exact hh
  .split
   .exact hh
   .split
    .rename_i hg;exact Mc hh (XH _) (XG (Y6 _ _)) hg
    .exact hh
end Go.Proofs.YtkdddbdjilcofaaGreatDoor
