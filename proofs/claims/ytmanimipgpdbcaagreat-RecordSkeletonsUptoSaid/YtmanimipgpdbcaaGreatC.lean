/- Part of the proof of RecordSkeletons. -/
import Derived.Test.YtmanimipgpdbcaaGreatB
set_option linter.unusedVariables false
set_option linter.unusedSimpArgs false
namespace Go.Pv
open Go
variable {T:ay} {σ:Type}
structure Reach (ms:Ms T) (p:Path) (ρ:Kr) (p':Path) (ai:Kr):Prop where
 st:p'.st=p.st
 nv:p.nv<=p'.nv
 sat:Sat T ms.f ai p'
 aK:cu p.nv ρ ai
theorem Reach.refl {ms:Ms T} {p:Path} {ρ:Kr} (h:Sat T ms.f ρ p):Reach ms p ρ p ρ:=⟨rfl,bh _,h,λ_ _=>rfl⟩
theorem Reach.trans {ms:Ms T} {p q r:Path} {a b c:Kr} (h:Reach ms p a q b) (h':Reach ms q b r c):Reach ms p a r c:=
 ⟨h'.st.trans h.st,eR h.nv h'.nv,h'.sat,h.aK.trans h'.aK h.nv⟩
theorem Reach.more {ms:Ms T} {p:Path} {ρ:Kr} (h:Sat T ms.f ρ p) {fs:amY} (h1:∀g∈fs,g.lt p.nv) (h2:aJ (mu ms.f ρ) fs):Reach ms p ρ (p.ext 0 fs) ρ:=
 ⟨rfl,bh _,h.more h1 h2,λ_ _=>rfl⟩
theorem Reach.fresh {ms:Ms T} {p:Path} {ρ:Kr} (h:Sat T ms.f ρ p) (c:C) {fs:Nat->List aa} (h1:∀g∈fs p.nv,g.lt (p.nv+1)) (h2:aJ (mu ms.f (bind' ρ p.nv [c])) (fs p.nv)):
 Reach ms p ρ (oc p fs) (bind' ρ p.nv [c]):=⟨rfl,fL _ _,LP h c h1 h2,eQ _ _ _⟩
def Path.tf (ms:Ms T) (p:Path) (q:Sn):Path:=bif (ms.pair q.e).isEmpty then p else{p with sn:=q::p.sn}
theorem LY (ms:Ms T) (p:Path) (q:Sn):(p.tf ms q).nv=p.nv:=by unfold Path.tf;grind
theorem Reach.tf {ms:Ms T} {p p':Path} {ρ ai:Kr} (h:Reach ms p ρ p' ai) {q:Sn} (hq:q.ok T ai p'.nv):Reach ms p ρ (p'.tf ms q) ai:=by
 unfold Path.tf;cases (ms.pair q.e).isEmpty with
 |true=>exact h
 |false=>exact⟨h.st,h.nv,⟨h.sat.st,h.sat.lt,h.sat.facts,h.sat.wk,h.sat.gH,h.sat.gh,λk hk=>(by
  rcases az.1 hk with rfl|hk
  ·grind
  ·exact h.sat.sn k hk)⟩,h.aK⟩
def iL (ms:Ms T) (K:Path->AX->σ->Option σ) (p:Path) (ρ:Kr) (x:X):Prop:=
 ∃p' v s1 s2 ai,K p' v s1=some s2/\Reach ms p ρ p' ai/\v.lt p'.nv/\v.den ms.f ai=x
def eY (ms:Ms T) (K:Path->AS->σ->Option σ) (p:Path) (ρ:Kr) (x:S):Prop:=
 ∃p' v s1 s2 ai,K p' v s1=some s2/\Reach ms p ρ p' ai/\v.lt p'.nv/\v.den ms.f ai=x
theorem zP (ms:Ms T) (K:Path->AX->σ->Option σ) (p:Path) (ρ:Kr):KX ms K p ρ (iL ms K p ρ):=
 λp' v s1 s2 h h1 h2 ai h3 h4 h5=>⟨p',v,s1,s2,ai,h,⟨h1,h2,h3,h4⟩,h5,rfl⟩
def ng (K:Path->AS->σ->Option σ):Path->AX->σ->Option σ:=λp x=>K p (.one x)
theorem iL.one {ms:Ms T} {K:Path->AS->σ->Option σ} {p:Path} {ρ:Kr} {x:X} (h:iL ms (ng K) p ρ x):eY ms K p ρ (.one x):=by obtain⟨p',v,s1,s2,ai,h1,h2,h3,rfl⟩:=h;exact⟨p', .one v,s1,s2,ai,h1,h2,h3,rfl⟩
theorem iL.reach {ms:Ms T} {K:Path->AX->σ->Option σ} {p q:Path} {ρ ai:Kr} {x:X} (hr:Reach ms p ρ q ai) (h:iL ms K q ai x):iL ms K p ρ x:=by obtain⟨p',v,s1,s2,lG,h1,h2,h3,h4⟩:=h;exact⟨p',v,s1,s2,lG,h1,hr.trans h2,h3,h4⟩
theorem eY.reach {ms:Ms T} {K:Path->AS->σ->Option σ} {p q:Path} {ρ ai:Kr} {x:S} (hr:Reach ms p ρ q ai) (h:eY ms K q ai x):eY ms K p ρ x:=by obtain⟨p',v,s1,s2,lG,h1,h2,h3,h4⟩:=h;exact⟨p',v,s1,s2,lG,h1,hr.trans h2,h3,h4⟩
theorem R.wp_mono {r:R} {G G':S->Prop} (h:∀s,G s->G' s) (hr:r.wp G):r.wp G':=by
 cases r with
 |bad=>exact hr
 |v s=>exact h _ hr
 |ck p s=>exact⟨hr.1,h _ hr.2⟩
 |fk p s=>exact λhp=>h _ (hr hp)
def eZ (a b:aa):List aa:=[a.sub b,b.sub a]
theorem gW {μ:Nat->Int} {a b:aa} (h:a.den μ=b.den μ):aJ μ (eZ a b):=by intro g hg;simp only[eZ,az,bL,bM]at hg;rcases hg with rfl|rfl<;>rw[br]<;>omega
theorem gX {n:Nat} {a b:aa} (h:a.lt n) (h':b.lt n):∀g∈eZ a b,g.lt n:=by
 intro g hg;simp only[eZ,az,bL,bM]at hg;rcases hg with rfl|rfl
 ·exact cX h h'
 ·exact cX h' h
theorem b8 {a b:amY} {n:Nat} (h1:∀g∈a,g.lt n) (h2:∀g∈b,g.lt n):∀g∈a++b,g.lt n:=λg hg=>by
 grind
def Gp (ms:Ms T) (s:ByteArray) (y:Nat):List aa:=inst [y] (ms.lit s)++(eZ (af 3 y) (.const s.size)++inst [y] (ms.base .str))
def xK (ms:Ms T) (p:Path) (x:AX) (K:Path->Nat->σ->Option σ):σ->Option σ:=
 match x with
 | .str x=>K p x
 | .lit s=>K (oc p (Gp ms s)) p.nv
 |_=>λ_=>none
theorem CV {ms:Ms T} {p:Path} {x:AX} {K:Path->Nat->σ->Option σ} {s s':σ} {ρ:Kr} (h:xK ms p x K s=some s') (hs:Sat T ms.f ρ p) (hx:x.lt p.nv):
 ∃p' v ai t,K p' v s=some s'/\Reach ms p ρ p' ai/\v<p'.nv/\x.den ms.f ρ= .c (.str t)/\aA (ai v)=t:=by
 unfold xK at h;split at h
 ·exact⟨p,_,ρ,_,h, .refl hs,hx,rfl,rfl⟩
 ·rename_i t;refine⟨_,p.nv,bind' ρ p.nv [.str t],t,h, .fresh hs (.str t) ?_ ?_,bQ _,rfl,by rw[bS];rfl⟩
  ·exact b8 (gJ (ms.qp t) rfl (by simp)) (b8 (gX (aI (bQ _) (by omega)) (dY _ _)) (gV ms _ (bQ _)))
  ·refine aJ.append (gI (ms.qp t) rfl (by simp[bS])) (aJ.append (gW ?_) (gU ms _ _));rw[au _ _ (by omega),bS,ms.h3,cg];rfl
 grind
def Gq (K:Path->AX->σ->Option σ):Path->AX->σ->Option σ:=λp v=>
 match v with
 | .bool b=>K p (.bool b.mkNot)
 |_=>λ_=>none
theorem iL.not {ms:Ms T} {K:Path->AX->σ->Option σ} {p:Path} {ρ:Kr} {b:Bool} (h:iL ms (Gq K) p ρ (.c (.bool b))):iL ms K p ρ (.c (.bool !b)):=by
 obtain⟨p',v,s1,s2,ai,h1,h2,h3,h4⟩:=h;unfold Gq at h1;split at h1
 ·rename_i c;simp only[AX.den,X.c.injEq,C.bool.injEq]at h4;exact⟨p',_,s1,s2,ai,h1,h2,xJ h3,by simp only[AX.den,xI,h4]⟩
 grind
def oe (ask:Ask σ) (Γ:amY):List aa->(Bool->σ->Option σ)->σ->Option σ
 |[],k=>k true
 |g::r,k=>may ask Γ g λb=>match b with|true=>oe ask Γ r k|false=>k false
theorem o7 {ask:Ask σ} (ha:ca ask) {Γ:amY}:∀{gs:amY} {k:Bool->σ->Option σ} {s s':σ},oe ask Γ gs k s=some s'->
 ∃b s1,k b s1=some s'/\(b=true->∀g∈gs,Entails Γ g)
 |[],k,s,s',h=>⟨true,s,h,λ_ g hg=>by grind⟩
 |g::r,k,s,s',h=>by
  obtain⟨b,s1,h,hb⟩:=qn ha h;cases b with
  |true=>
   obtain⟨b,s2,h,h2⟩:=o7 ha h;grind
  |false=>grind
def conds (ask:Ask σ) (vs:amG):List (List aa×List aa)->Path->(Path->σ->Option σ)->σ->Option σ
 |[],p,K=>K p
 |t::r,p,K=>oe ask p.Γ (inst vs t.1) λb=>match b with|true=>conds ask vs r (p.ext 0 (inst vs t.2)) K|false=>conds ask vs r p K
theorem T0 {f:Nat->C->Int} {k:Nat} {vs:amG} (hv:vs.length=k) {ρ:Kr} {t:aa} (ht:t.lt k):
 (t.cV λi=>vs.getD i 0).den (mu f ρ)=t.den (mu f (bZ (vs.map ρ))):=by
 rw[CK];refine vi ht λa ha=>?_;simp only[mu,bZ];grind
theorem o8 {ask:Ask σ} (ha:ca ask) {ms:Ms T} {vs:amG} {V:List C->Prop} {k:Nat} (hk:vs.length=k):∀{ts:List (List aa×List aa)} {p:Path} {K:Path->σ->Option σ} {s s':σ} {ρ:Kr},
 conds ask vs ts p K s=some s'->(∀t∈ts,kB ms.f k t V)->(∀v∈vs,v<p.nv)->V (vs.map ρ)->Sat T ms.f ρ p->∃p' s1,K p' s1=some s'/\Reach ms p ρ p' ρ/\p'.nv=p.nv
 |[],p,K,s,s',ρ,h,_,_,_,hs=>⟨p,s,h, .refl hs,rfl⟩
 |t::r,p,K,s,s',ρ,h,ht,hv,hV,hs=>by
  obtain⟨b,s1,h,hb⟩:=o7 ha h;obtain⟨c1,c2,c3⟩:=ht t (by simp);cases b with
  |false=>exact o8 ha hk h (λt h=>ht t (by simp[h])) hv hV hs
  |true=>
   have cT:∀{g:aa},g.lt k->(g.cV λi=>vs.getD i 0).lt p.nv:=λhg=>F8 hg λx hx=>by simp_all
   have hc:=c3 (vs.map ρ) (by grind) hV (λg hg=>by
    have:=hs.entails (hb rfl (g.cV λi=>vs.getD i 0) (aF.2 ⟨g,hg,rfl⟩));rw[T0 hk (c1 g hg)]at this;omega)
   have r0:Reach ms p ρ (p.ext 0 (inst vs t.2)) ρ:= .more hs (λg hg=>by
    obtain⟨g',cw,rfl⟩:=aF.1 hg;grind)
    (λg hg=>by
     obtain⟨g',cw,rfl⟩:=aF.1 hg;rw[T0 hk (c2 g' cw)];grind)
   obtain⟨p',s2,h,r1,hn⟩:=o8 ha hk h (λt h=>ht t (by simp[h])) hv hV r0.sat;exact⟨p',s2,h,r0.trans r1,hn⟩
def Gr (ask:Ask σ) (ms:Ms T) (p:Path) (v:Nat) (K:Path->AX->σ->Option σ):σ->Option σ:=conds ask [v] ms.zC p λp=>K p (.str v)
theorem LZ {ask:Ask σ} (ha:ca ask) {ms:Ms T} {p:Path} {v:Nat} {K:Path->AX->σ->Option σ} {s s':σ} {ρ:Kr} (h:Gr ask ms p v K s=some s') (hs:Sat T ms.f ρ p) (hv:v<p.nv):
 iL ms K p ρ (.c (.str (aA (ρ v)))):=by
 obtain⟨p',s1,h,r,hn⟩:=o8 ha (V:=λ_=>True) rfl h ms.vj (by grind) trivial hs;exact⟨p',_,_,_,ρ,h,r,dO hv r.nv,rfl⟩
def L0 (ms:Ms T) (p:Path) (x y:AX) (K:Path->AX->σ->Option σ):σ->Option σ:=xK ms p x λp a=>xK ms p y λp b=>K p (.bool (.seq a b))
def mkSeq (x y:Nat):AB:=if x=y then .lit true else .seq x y
theorem L1 {f:Nat->C->Int} {ρ:Kr} (x y:Nat):(mkSeq x y).den f ρ=fm (aA (ρ x)) (aA (ρ y)):=by
 unfold mkSeq;split
 ·rename_i e;subst e;simp[AB.den,fm]
 ·rfl
theorem T1 {n x y:Nat} (hx:x<n) (hy:y<n):(mkSeq x y).lt n:=by
 unfold mkSeq;split
 ·trivial
 ·exact⟨hx,hy⟩
def Gs (ask:Ask σ) (ms:Ms T) (p:Path) (x y:AX) (K:Path->AX->σ->Option σ):σ->Option σ:=
 match x,y with
 | .str x, .lit b=>(match ms.eqs b with|some (m,v)=>K p (.bool (.mkEq ((af m x).bI (-v))))|none=>L0 ms p (.str x) (.lit b) K)
 | .lit b, .str x=>(match ms.eqs b with|some (m,v)=>K p (.bool (.mkEq ((af m x).bI (-v))))|none=>L0 ms p (.str x) (.lit b) K)
 | .str x, .str y=>(match ms.sq with
  |none=>K p (.bool (mkSeq x y))
  |some m=>oe ask p.Γ [(af m x).sub (af m y),(af m y).sub (af m x)] λt=>match t with|true=>K p (.bool (.lit true))|false=>K p (.bool (mkSeq x y)))
 | .lit a, .lit b=>K p (.bool (.lit (fm a b)))
 |_,_=>λ_=>none
theorem aer (a b:ByteArray):fm a b=fm b a:=by unfold fm;grind
theorem T2 {ms:Ms T} {p:Path} {x:Nat} {t:ByteArray} {K:Path->AX->σ->Option σ} {s s':σ} {ρ:Kr} (h:L0 ms p (.str x) (.lit t) K s=some s') (hs:Sat T ms.f ρ p) (hx:x<p.nv):
 iL ms K p ρ (.c (.bool (fm (aA (ρ x)) t))):=by
 obtain⟨p1,a,bJ,u,h,r1,la,e1,c1⟩:=CV h hs (x:= .str x) hx;obtain⟨p2,b,cQ,v,h,r2,lb,e2,c2⟩:=CV h r1.sat (x:= .lit t) trivial;simp only[AX.den,X.c.injEq,C.str.injEq]at e1 e2;refine⟨p2,_,_,_,cQ,h,r1.trans r2,⟨dO la r2.nv,lb⟩,?_⟩;simp only[AX.den,AB.den];rw[r2.aK a la,c1,c2,<-e1,<-e2]
theorem T3 {ask:Ask σ} (ha:ca ask) {ms:Ms T} {p:Path} {x y:AX} {K:Path->AX->σ->Option σ} {s s':σ} {ρ:Kr} (h:Gs ask ms p x y K s=some s') (hs:Sat T ms.f ρ p) (hx:x.lt p.nv) (hy:y.lt p.nv):
 ∃a b,x.den ms.f ρ= .c (.str a)/\y.den ms.f ρ= .c (.str b)/\iL ms K p ρ (.c (.bool (fm a b))):=by
 have lit:∀{x:Nat} {b:ByteArray} {m:Nat} {v:Int} {s:σ},x<p.nv->ms.eqs b=some (m,v)->K p (.bool (.mkEq ((af m x).bI (-v)))) s=some s'->iL ms K p ρ (.c (.bool (fm (aA (ρ x)) b))):=by intro x b m v s hx hm hk;obtain⟨m1,m2⟩:=ms.Gg b m v hm;refine⟨p,_,_,_,ρ,hk, .refl hs,Gn (gS _ (aI hx m1)),?_⟩;simp only[AX.den,CU,cO,au _ _ m1,m2];congr 2;rw[decide_eq_decide];omega
 unfold Gs at h;split at h
 ·rename_i v b;refine⟨_,_,rfl,rfl,?_⟩;cases hm:ms.eqs b with
  |some m=>rw[hm]at h;exact lit hx hm h
  |none=>rw[hm]at h;exact T2 h hs hx
 ·rename_i b v;refine⟨_,_,rfl,rfl,?_⟩;rw[aer];cases hm:ms.eqs b with
  |some m=>rw[hm]at h;exact lit hy hm h
  |none=>rw[hm]at h;exact T2 h hs hy
 ·rename_i x y;refine⟨_,_,rfl,rfl,?_⟩;have seq:∀{s:σ},K p (.bool (mkSeq x y)) s=some s'->iL ms K p ρ (.c (.bool (fm (aA (ρ x)) (aA (ρ y))))):=λh=>⟨p,_,_,_,ρ,h, .refl hs,T1 hx hy,by simp only[AX.den,L1]⟩
  cases hm:ms.sq with
  |none=>rw[hm]at h;grind
  |some m=>
   rw[hm]at h;dsimp only at h;obtain⟨t,s1,h,ht⟩:=o7 ha h;cases t with
   |false=>grind
   |true=>obtain⟨m1,m2⟩:=ms.xG m hm;have z1:=hs.entails (ht rfl ((af m x).sub (af m y)) (by simp));have z2:=hs.entails (ht rfl ((af m y).sub (af m x)) (by simp));rw[br,au _ _ m1,au _ _ m1]at z1 z2;have:=m2 (ρ x) (ρ y) (by omega);refine⟨p,_,_,_,ρ,h, .refl hs,trivial,?_⟩;simp only[AX.den,AB.den,this,fm,beq_self_eq_true]
 ·exact⟨_,_,rfl,rfl,p,_,_,_,ρ,h, .refl hs,trivial,rfl⟩
 grind
def isStr:AX->Bool
 | .str _| .lit _=>true
 |_=>false
def T4 (ms:Ms T) (a b y:Nat):List aa:=inst [a,b,y] ms.cat++(eZ (af 3 y) ((af 3 a).add (af 3 b))++inst [y] (ms.base .str))
def L2 (ask:Ask σ) (ms:Ms T) (p:Path) (op:BinOp) (x y:AX) (K:Path->AX->σ->Option σ):σ->Option σ:=
 match op with
 | .add=>xK ms p x λp a=>xK ms p y λp b=>gT ask p.Γ (((aa.const hC).sub (af 3 a)).sub (af 3 b)) (Gr ask ms (oc p (T4 ms a b)) p.nv K)
 | .eql=>Gs ask ms p x y K
 | .neq=>Gs ask ms p x y (Gq K)
 | .lss| .leq| .gtr| .geq=>if isStr x&&isStr y then zO ms p K else λ_=>none
 |_=>λ_=>none
theorem T5 {ms:Ms T} {ρ:Kr} {x:AX} (h:isStr x=true):∃t,x.den ms.f ρ= .c (.str t):=by
 cases x<;>simp[isStr]at h
 ·exact⟨_,rfl⟩
 ·exact⟨_,rfl⟩
theorem aes {ask:Ask σ} (ha:ca ask) {ms:Ms T} {p:Path} {op:BinOp} {x y:AX} {K:Path->AX->σ->Option σ} {s s':σ} {ρ:Kr} (h:L2 ask ms p op x y K s=some s') (hs:Sat T ms.f ρ p) (hx:x.lt p.nv) (hy:y.lt p.nv):
 ∃a b,x.den ms.f ρ= .c (.str a)/\y.den ms.f ρ= .c (.str b)/\(yN op a b).wp λs=>∃x,s=S.one x/\iL ms K p ρ x:=by
 have cmp:∀{g:ByteArray->ByteArray->Bool},(if isStr x&&isStr y then zO ms p K else λ_=>none) s=some s'->
  ∃a b,x.den ms.f ρ= .c (.str a)/\y.den ms.f ρ= .c (.str b)/\∃z,S.one (.c (.bool (g a b)))=S.one z/\iL ms K p ρ z:=by
  intro g h;split at h
  ·rename_i hc;simp only[aB]at hc;obtain⟨a,e1⟩:=T5 (ms:=ms) (ρ:=ρ) hc.1;obtain⟨b,e2⟩:=T5 (ms:=ms) (ρ:=ρ) hc.2;exact⟨a,b,e1,e2,_,rfl,TY h hs (zP ms K p ρ) _⟩
  ·cases h
 unfold L2 at h;split at h
 ·obtain⟨p1,a,bJ,t,h,r1,la,e1,c1⟩:=CV h hs hx;obtain⟨p2,b,cQ,u,h,r2,lb,e2,c2⟩:=CV h r1.sat (AX.bg r1.nv hy);rw[r1.aK.ax hy]at e2;obtain⟨hn,s1,h⟩:=ix ha h;have hn:=r2.sat.entails hn;have tg:a<p2.nv:=dO la r2.nv;have L3:aA (cQ a)=t:=by rw[r2.aK a la];exact c1
  rw[br,br,cg,au _ _ (by omega),au _ _ (by omega),ms.h3,ms.h3,L3,c2]at hn;have rf:Reach ms p2 cQ (oc p2 (T4 ms a b)) (bind' cQ p2.nv [.str (t++u)]):= .fresh r2.sat _ ?_ ?_;refine⟨t,u,e1,e2,by omega,_,rfl,?_⟩;have:=LZ ha h rf.sat (bQ _);rw[bS]at this;exact this.reach ((r1.trans r2).trans rf)
  ·exact b8 (gJ ms.xr rfl (by grind)) (b8 (gX (aI (bQ _) (by omega)) (nd (aI (by omega) (by omega)) (aI (by omega) (by omega)))) (gV ms _ (bQ _)))
  ·have ea:bind' cQ p2.nv [.str (t++u)] a=cQ a:=eQ _ _ _ a tg;have eb:bind' cQ p2.nv [.str (t++u)] b=cQ b:=eQ _ _ _ b lb;refine aJ.append (gI ms.xr rfl ⟨cQ a,cQ b,by simp[ea,eb,bS,L3,c2]⟩) (aJ.append (gW ?_) (gU ms _ _));rw[den_add,au _ _ (by omega),au _ _ (by omega),au _ _ (by omega),bS,ea,eb,ms.h3,ms.h3,ms.h3,L3,c2];simp[aA]
 ·obtain⟨a,b,e1,e2,hg⟩:=T3 ha h hs hx hy;exact⟨a,b,e1,e2,_,rfl,hg⟩
 ·obtain⟨a,b,e1,e2,hg⟩:=T3 ha h hs hx hy;exact⟨a,b,e1,e2,_,rfl,hg.not⟩
 ·exact cmp (g:=λa b=>strLt a b) h
 ·exact cmp (g:=λa b=>strLt a b||fm a b) h
 ·exact cmp (g:=λa b=>!(strLt a b||fm a b)) h
 ·exact cmp (g:=λa b=>!(strLt a b)) h
 grind
end Go.Pv
namespace Go.Pv
open Go
noncomputable section
variable {T:ay} {σ:Type}
def zQ:X->AX
 | .c (.int k n)=> .int k (.const n)
 | .c (.bool b)=> .bool (.lit b)
 | .c (.str s)=> .lit s
 | .bc=> .bc
 | .hH=> .hH
 | .fV f=> .fV f
 |_=> .aD
def Gt:S->AS
 | .one x=> .one (zQ x)
 | .agg l=> .agg (l.map zQ)
 |_=> .one .aD
def CW (v:Value):AS:=Gt (ofConst v)
def aw.get (st:aw) (t:Nat):AS:=vf (.one .aD) st.aq t
def cY (st:aw):Operand->AS
 | .tmp t=>st.get t
 | .const v=>CW v
 | .func f=> .one (.fV f)
 |_=> .one .aD
variable {f:Nat->C->Int} {ρ:Kr} {n:Nat}
theorem T6 {v:Value} {x:X} (h:lZ v= .one x):(zQ x).den f ρ=x:=by unfold lZ at h;split at h<;>(try split at h)<;>(simp only[S.one.injEq]at h;subst h;simp[zQ,AX.den,AB.den,cg])
theorem aet (v:Value):(CW v).den f ρ=ofConst v:=by
 unfold CW ofConst;split
 ·rename_i cs;split
  ·simp only[Gt,AS.den,da,S.agg.injEq];refine cK λu _=>?_;obtain⟨x,hx⟩:=wu u;simp only[Function.comp,hx];exact T6 hx
  ·rfl
 ·obtain⟨x,hx⟩:=wu v;rw[hx];simp only[Gt,AS.den,T6 hx]
theorem T7 (x:X):(zQ x).lt n:=by
 unfold zQ;split
 ·exact dY _ _
 all_goals trivial
theorem aeu (v:Value):(CW v).lt n:=by
 unfold CW Gt;split
 ·exact T7 _
 ·intro x hx;obtain⟨y,_,rfl⟩:=aF.1 hx;exact T7 y
 ·trivial
theorem rJ (st:aw) (t:Nat):(st.get t).den f ρ=(st.den f ρ).get t:=by simp only[aw.get,TE,St.get,aw.den,aZ,bP];cases st.aq[t]?<;>rfl
theorem CX {st:aw} (h:st.lt n) (t:Nat):(st.get t).lt n:=by
 simp only[aw.get,TE,aZ];cases ht:st.aq[t]?with
 |none=>trivial
 |some s=>exact h.aq s (aY ht)
theorem dZ (st:aw) (o:Operand):(cY st o).den f ρ=ev (st.den f ρ) o:=by
 cases o with
 |tmp t=>exact rJ st t
 |const v=>exact aet v
 |_=>rfl
theorem fS {st:aw} (h:st.lt n) (o:Operand):(cY st o).lt n:=by
 cases o with
 |tmp t=>exact CX h t
 |const v=>exact aeu v
 |_=>trivial
def rK:AS->Option (Nat×Nat)
 | .one (.sl e x)=>some (e,x)
 | .one (.own e _ _ x)=>some (e,x)
 |_=>none
theorem Gu {s:AS} {e x:Nat} (h:rK s=some (e,x)) (hs:s.lt n):rowsOf (s.den f ρ)=some (e,ah (ρ x))/\x<n:=by
 unfold rK at h;split at h
 ·simp only[ae,bT]at h;obtain⟨rfl,rfl⟩:=h;exact⟨rfl,hs⟩
 ·simp only[ae,bT]at h;obtain⟨rfl,rfl⟩:=h;exact⟨rfl,hs⟩
 grind
def Gv (m:amR) (a b:AB):Option (Nat×Nat):=
 match m,a,b with
 |some _, .var x, .var y=>some (x,y)
 |_,_,_=>none
theorem aew {m:amR} {a b:AB} {x y:Nat} (h:Gv m a b=some (x,y)):a= .var x/\b= .var y:=by
 unfold Gv at h;grind
def L4 (ask:Ask σ) (ms:Ms T) (p:Path) (a b:AB) (K:Path->AX->σ->Option σ):σ->Option σ:=
 match Gv ms.sq a b with
 |some (x,y)=>oe ask p.Γ [(af 1 x).sub (af 1 y),(af 1 y).sub (af 1 x)] λt=>match t with|true=>K p (.bool (.lit true))|false=>zO ms p K
 |none=>zO ms p K
def Gw (ask:Ask σ) (ms:Ms T) (p:Path) (a b:AB) (K:Path->AX->σ->Option σ):σ->Option σ:=
 match a,b with
 | .lit true,b=>K p (.bool b)
 | .lit false,b=>K p (.bool b.mkNot)
 |a, .lit true=>K p (.bool a)
 |a, .lit false=>K p (.bool a.mkNot)
 |a,b=>if a=b then K p (.bool (.lit true))else L4 ask ms p a b K
theorem aey {ask:Ask σ} (ha:ca ask) {ms:Ms T} {p:Path} {a b:AB} {K:Path->AX->σ->Option σ} {s s':σ} (h:L4 ask ms p a b K s=some s') (hs:Sat T ms.f ρ p):
 iL ms K p ρ (.c (.bool (a.den ms.f ρ==b.den ms.f ρ))):=by
 have fr:∀{s:σ},zO ms p K s=some s'->iL ms K p ρ (.c (.bool (a.den ms.f ρ==b.den ms.f ρ))):=λh=>TY h hs (zP ms K p ρ) _;unfold L4 at h;cases hm:Gv ms.sq a b with
 |none=>rw[hm]at h;grind
 |some q=>
  obtain⟨x,y⟩:=q;rw[hm]at h;dsimp only at h;obtain⟨rfl,rfl⟩:=aew hm;obtain⟨t,s1,h,ht⟩:=o7 ha h;cases t with
  |false=>grind
  |true=>have z1:=hs.entails (ht rfl ((af 1 x).sub (af 1 y)) (by simp));have z2:=hs.entails (ht rfl ((af 1 y).sub (af 1 x)) (by simp));rw[br,au _ _ (by omega),au _ _ (by omega),ms.h1,ms.h1]at z1 z2;refine⟨p,_,_,_,ρ,h, .refl hs,trivial,?_⟩;simp only[AX.den,AB.den,X.c.injEq,C.bool.injEq];grind
theorem T8 {ask:Ask σ} (ha:ca ask) {ms:Ms T} {p:Path} {a b:AB} {K:Path->AX->σ->Option σ} {s s':σ} (h:Gw ask ms p a b K s=some s') (hs:Sat T ms.f ρ p) (la:a.lt p.nv) (lb:b.lt p.nv):
 iL ms K p ρ (.c (.bool (a.den ms.f ρ==b.den ms.f ρ))):=by
 unfold Gw at h;split at h
 ·exact⟨p,_,_,_,ρ,h, .refl hs,lb,by simp[AX.den,AB.den]⟩
 ·exact⟨p,_,_,_,ρ,h, .refl hs,xJ lb,by simp[AX.den,AB.den,xI]⟩
 ·exact⟨p,_,_,_,ρ,h, .refl hs,la,by simp[AX.den,AB.den]⟩
 ·exact⟨p,_,_,_,ρ,h, .refl hs,xJ la,by simp[AX.den,AB.den,xI]⟩
 ·split at h
  ·rename_i e;subst e;exact⟨p,_,_,_,ρ,h, .refl hs,trivial,by simp[AX.den,AB.den]⟩
  ·exact aey ha h hs
def mkAnd (a b:AB):AB:=
 match a,b with
 | .lit true,b=>b
 | .lit false,_=> .lit false
 |a, .lit true=>a
 |a,b=> .and a b
theorem Gx (f:Nat->C->Int) (ρ:Kr) (a b:AB):(mkAnd a b).den f ρ=(a.den f ρ&&b.den f ρ):=by unfold mkAnd;split<;>simp[AB.den]
theorem T9 {a b:AB} (ha:a.lt n) (hb:b.lt n):(mkAnd a b).lt n:=by unfold mkAnd;split<;>first|exact hb|trivial|exact ha|exact⟨ha,hb⟩
def th:List Bool->List AX->List AX->Option AB
 |[],[],[]=>some (.lit true)
 |true::ks, .int k a::r, .int k' b::r'=>if k=k' then(match th ks r r' with|some c=>some (mkAnd (.mkEq (a.sub b)) c)|none=>none)else none
 |false::ks, .str a::r, .str b::r'=>(match th ks r r' with|some c=>some (mkAnd (mkSeq a b) c)|none=>none)
 |_,_,_=>none
theorem L5:∀(ks:List Bool) (l l':amV) (c:AB),th ks l l'=some c->(∀x∈l,x.lt n)->(∀x∈l',x.lt n)->
 pE ks (l.map (AX.den f ρ)) (l'.map (AX.den f ρ))=some (c.den f ρ)/\c.lt n
 |ks,l,l',c,h,hl,bA=>by
  unfold th at h;split at h
  ·cases h;exact⟨rfl,trivial⟩
  ·rename_i ks k a r k' b r';split at h
   ·rename_i hk;subst hk;split at h
    ·rename_i c' hc;cases h;obtain⟨h1,h2⟩:=L5 ks r r' c' hc (λx hx=>hl x (lX _ hx)) (λx hx=>bA x (lX _ hx));have la:a.lt n:=hl _ (kj ..);have lb:b.lt n:=bA _ (kj ..);refine⟨?_,T9 (Gn (cX la lb)) h2⟩;simp only[bu,AX.den,pE,cJ,h1,Gx,CU,br,ae];grind
    grind
   grind
  ·rename_i ks a r b r';split at h
   ·rename_i c' hc;cases h;obtain⟨h1,h2⟩:=L5 ks r r' c' hc (λx hx=>hl x (lX _ hx)) (λx hx=>bA x (lX _ hx));have la:a<n:=hl _ (kj ..);have lb:b<n:=bA _ (kj ..);refine⟨?_,T9 (T1 la lb) h2⟩;simp only[bu,AX.den,pE,h1,Gx,L1]
   grind
  grind
def rM (m:Nat):List AX->List AX->List aa
 | .int _ a::r, .int _ b::r'=>a.sub b::b.sub a::rM m r r'
 | .str x::r, .str y::r'=>(af m x).sub (af m y)::(af m y).sub (af m x)::rM m r r'
 |_,_=>[]
theorem L6 {ms:Ms T} {m:Nat} (hm:ms.sq=some m):∀{ks:List Bool} {l l':amV} {c:AB},th ks l l'=some c->(∀g∈rM m l l',0<=g.den (mu ms.f ρ))->c.den ms.f ρ=true
 |ks,l,l',c,h,hg=>by
  unfold th at h;split at h
  ·cases h;rfl
  ·rename_i ks k a r k' b r';split at h
   ·split at h
    ·rename_i c' hc;cases h;have h1:=hg (a.sub b) (by simp[rM]);have h2:=hg (b.sub a) (by simp[rM]);rw[br]at h1 h2;rw[Gx,L6 hm hc λg cw=>hg g (by simp[rM,cw]),CU,br];grind
    grind
   grind
  ·rename_i ks a r b r';split at h
   ·rename_i c' hc;cases h;obtain⟨m1,m2⟩:=ms.xG m hm;have h1:=hg ((af m a).sub (af m b)) (by simp[rM]);have h2:=hg ((af m b).sub (af m a)) (by simp[rM]);rw[br,au _ _ m1,au _ _ m1]at h1 h2;rw[Gx,L6 hm hc λg cw=>hg g (by simp[rM,cw]),L1,m2 (ρ a) (ρ b) (by omega)];simp[fm]
   grind
  grind
def Gy (ask:Ask σ) (ms:Ms T) (p:Path) (xs ys:amV) (b:AB) (K:AB->σ->Option σ):σ->Option σ:=
 match ms.sq with
 |none=>K b
 |some m=>oe ask p.Γ (rM m xs ys) λt=>match t with|true=>K (.lit true)|false=>K b
theorem Ua {ask:Ask σ} (ha:ca ask) {ms:Ms T} {p:Path} {xs ys:amV} {b:AB} {K:AB->σ->Option σ} {s s':σ} {ks:List Bool} (h:Gy ask ms p xs ys b K s=some s') (hs:Sat T ms.f ρ p) (hb:th ks xs ys=some b) (hl:b.lt p.nv):
 ∃b' s1,K b' s1=some s'/\b'.lt p.nv/\b'.den ms.f ρ=b.den ms.f ρ:=by
 unfold Gy at h;cases hm:ms.sq with
 |none=>rw[hm]at h;grind
 |some m=>
  rw[hm]at h;dsimp only at h;obtain⟨t,s1,h,ht⟩:=o7 ha h;cases t with
  |false=>grind
  |true=>exact⟨.lit true,s1,h,trivial,by rw[L6 hm hb λg hg=>hs.entails (ht rfl g hg)];rfl⟩
def L7 (P:Program) (ask:Ask σ) (ms:Ms T) (p:Path) (op:BinOp) (t:Nat) (x y:AS) (K:Path->AS->σ->Option σ):σ->Option σ:=
 match x,y with
 | .one (.int ka a), .one (.int kb b)=>if ka=kb then LW ask ms p op ka a b (ng K)else λ_=>none
 | .one (.bool a), .one (.bool b)=>
  (match P.underlying t with
  |some .bool=>
   (match op with
   | .eql=>Gw ask ms p a b (ng K)
   | .neq=>Gw ask ms p a b (Gq (ng K))
   |_=>λ_=>none)
  |_=>λ_=>none)
 | .one x, .one y=>L2 ask ms p op x y (ng K)
 | .agg xs, .agg ys=>
  (match BB P t with
  |some ks=>
   (match th ks xs ys with
   |some b=>(match op with| .eql=>Gy ask ms p xs ys b λb=>K p (.one (.bool b))| .neq=>Gy ask ms p xs ys b λb=>K p (.one (.bool b.mkNot))|_=>λ_=>none)
   |none=>λ_=>none)
  |none=>λ_=>none)
 |_,_=>λ_=>none
theorem Ub {ms:Ms T} {K:Path->AS->σ->Option σ} {p:Path} {r:R} (h:r.wp λs=>∃x,s=S.one x/\iL ms (ng K) p ρ x):r.wp (eY ms K p ρ):=
 R.wp_mono (λs hs=>by obtain⟨x,rfl,hx⟩:=hs;exact hx.one) h
theorem aez {P:Program} {ask:Ask σ} (ha:ca ask) {ms:Ms T} {p:Path} {op:BinOp} {t:Nat} {x y:AS} {K:Path->AS->σ->Option σ} {s s':σ} (h:L7 P ask ms p op t x y K s=some s') (hs:Sat T ms.f ρ p)
 (hx:x.lt p.nv) (hy:y.lt p.nv):(pF P op t (x.den ms.f ρ) (y.den ms.f ρ)).wp (eY ms K p ρ):=by
 unfold L7 at h;split at h
 ·split at h
  ·rename_i e;subst e;have:=Ub (aeq ha h hs (zP ms _ p ρ) hx hy);simp only[AS.den,AX.den,pF,cJ];exact this
  grind
 ·simp only[AS.den,AX.den,pF];cases ht:P.underlying t with
  |none=>grind
  |some d=>
   rw[ht]at h;cases d<;>first|cases h|skip
   cases op<;>first|cases h|skip
   ·exact(T8 ha h hs hx hy).one
   ·exact(T8 ha h hs hx hy).not.one
 ·rename_i x y _ _;obtain⟨a,b,e1,e2,hw⟩:=aes ha h hs hx hy;simp only[AS.den,e1,e2,pF];exact Ub hw
 ·rename_i xs ys;simp only[AS.den,pF];cases hk:BB P t with
  |none=>grind
  |some ks=>
   rw[hk]at h;simp only at h⊢;cases hb:th ks xs ys with
   |none=>grind
   |some b=>
    rw[hb]at h;obtain⟨e,lb⟩:=L5 (f:=ms.f) (ρ:=ρ) ks _ _ b hb hx hy;simp only[e];cases op<;>first|cases h|skip
    ·obtain⟨b',s1,h,l',d'⟩:=Ua ha h hs hb lb;exact⟨p,_,_,_,ρ,h, .refl hs,l',by simp[AS.den,AX.den,d']⟩
    ·obtain⟨b',s1,h,l',d'⟩:=Ua ha h hs hb lb;exact⟨p,_,_,_,ρ,h, .refl hs,xJ l',by simp[AS.den,AX.den,xI,d']⟩
 grind
def L8 (ask:Ask σ) (p:Path) (op:UnOp) (x:AS) (K:Path->AS->σ->Option σ):σ->Option σ:=
 match op,x with
 | .not, .one (.bool b)=>K p (.one (.bool b.mkNot))
 | .neg, .one (.int k e)=>xH ask p k ((aa.const 0).sub e) (ng K)
 |_,_=>λ_=>none
theorem aeA {ask:Ask σ} (ha:ca ask) {ms:Ms T} {p:Path} {op:UnOp} {x:AS} {K:Path->AS->σ->Option σ} {s s':σ} (h:L8 ask p op x K s=some s') (hs:Sat T ms.f ρ p) (hx:x.lt p.nv):
 (wj op (x.den ms.f ρ)).wp (eY ms K p ρ):=by
 unfold L8 at h;split at h
 ·exact⟨p,_,_,_,ρ,h, .refl hs,xJ hx,by simp[AS.den,AX.den,xI]⟩
 ·have:=zN (G:=iL ms (ng K) p ρ) ha h hs (zP ms _ p ρ) (cX (dY _ _) hx);rw[br,cg]at this;exact this.one
 grind
def Uc (ms:Ms T) (v y:Nat):List aa:=eZ (af 3 y) (af 2 v)++inst [y] (ms.base .str)
def L9 (P:Program) (ask:Ask σ) (ms:Ms T) (p:Path) (src dst:Nat) (x:AS) (K:Path->AS->σ->Option σ):σ->Option σ:=
 match x with
 | .one (.int _ e)=>
  (match P.underlying src,P.underlying dst with
  |some _,some (.int k)=>xH ask p k e (ng K)
  |_,_=>λ_=>none)
 |x=>
  match rK x,P.underlying src,P.underlying dst with
  |some (e,v),some (.slice e'),some .string=>
   (match P.underlying e' with
   |some (.int .u8)=>if e'=e/\T e=[.int .u8]then Gr ask ms (oc p (Uc ms v)) p.nv (ng K)else λ_=>none
   |_=>λ_=>none)
  |_,_,_=>λ_=>none
theorem aeB {P:Program} {ask:Ask σ} (ha:ca ask) {ms:Ms T} {p:Path} {src dst:Nat} {x:AS} {K:Path->AS->σ->Option σ} {s s':σ} (h:L9 P ask ms p src dst x K s=some s') (hs:Sat T ms.f ρ p) (hx:x.lt p.nv):
 (sv P T src dst (x.den ms.f ρ)).wp (eY ms K p ρ):=by
 unfold L9 at h;split at h
 ·simp only[AS.den,AX.den,sv];cases h1:P.underlying src with
  |none=>grind
  |some d1=>
   cases h2:P.underlying dst with
   |none=>grind
   |some d2=>
    rw[h1,h2]at h;cases d2<;>first|cases h|skip
    exact(zN (G:=iL ms (ng K) p ρ) ha h hs (zP ms _ p ρ) hx).one
 ·cases hr:rK x with
  |none=>grind
  |some q=>
   obtain⟨e,v⟩:=q;obtain⟨dV,hv⟩:=Gu (f:=ms.f) (ρ:=ρ) hr hx;cases h1:P.underlying src with
   |none=>grind
   |some d1=>
    cases h2:P.underlying dst with
    |none=>grind
    |some d2=>
     rw[hr,h1,h2]at h;cases d1<;>first|cases h|skip
     rename_i e';cases d2<;>first|cases h|skip
     dsimp only at h;cases h3:P.underlying e' with
     |none=>grind
     |some d3=>
      rw[h3]at h;cases d3<;>first|cases h|skip
      rename_i k3;cases k3<;>first|cases h|skip
      dsimp only at h;split at h
      ·rename_i hc;obtain⟨rfl,hc⟩:=hc;have al:∀k n,x.den ms.f ρ≠ .one (.c (.int k n)):=by intro k n e;rw[e]at dV;cases dV
       have key:eY ms K p ρ (.one (.c (.str (bytesOf (ah (ρ v)))))):=by
        have rf:Reach ms p ρ (oc p (Uc ms v)) (bind' ρ p.nv [.str (bytesOf (ah (ρ v)))]):=by refine .fresh hs _ (b8 (gX (aI (bQ _) (by omega)) (aI (Ql hv) (by omega))) (gV ms _ (bQ _))) (aJ.append (gW ?_) (gU ms _ _));rw[au _ _ (by omega),au _ _ (by omega),bS,eQ ρ p.nv _ v hv,ms.h3,ms.h2];simp[aA,QG]
        have:=LZ ha h rf.sat (bQ _);rw[bS]at this;exact(this.one).reach rf
       unfold sv;split
       ·grind
       ·rw[dV,h1,h2];simp only[h3,hc,wg,cJ,R.wp];omega
      grind
def CY:AS->Bool
 | .one .bc=>true
 |_=>false
def Ma (P:Program) (p:Path) (t:Nat) (x:AS) (K:Path->AS->σ->Option σ):σ->Option σ:=
 match P.underlying t with
 |some .string=>
  (match x with
  | .one (.str x)=>K (p.ext 0 [(aa.const hC).sub (af 3 x)]) (.one (.int .i64 (af 3 x)))
  | .one (.lit s)=>K p (.one (.int .i64 (.const s.size)))
  |_=>λ_=>none)
 |some (.slice _)=>
  (match CY x with
  |true=>K p (.one (.int .i64 (.const 0)))
  |false=>
   (match rK x with
   |some (_,v)=>K (p.ext 0 [(aa.const cM).sub (af 2 v)]) (.one (.int .i64 (af 2 v)))
   |none=>
    (match x with
    | .one (.cn _ _ v)=>K (p.ext 0 [((aa.const cM).sub (af 2 v)).bI (-1)]) (.one (.int .i64 ((af 2 v).bI 1)))
    | .one (.cq _ _ v)=>K (p.ext 0 [(aa.const cM).sub (af 2 v)]) (.one (.int .i64 (af 2 v)))
    |_=>λ_=>none)))
 |_=>λ_=>none
theorem Gz {μ:Nat->Int} {g:aa} (h:0<=g.den μ):aJ μ [g]:=λg' hg=>by grind
theorem GA {g:aa} (h:g.lt n):∀g'∈[g],g'.lt n:=λg' hg=>by grind
theorem aeC {P:Program} {ms:Ms T} {p:Path} {t:Nat} {x:AS} {K:Path->AS->σ->Option σ} {s s':σ} (h:Ma P p t x K s=some s') (hs:Sat T ms.f ρ p) (hx:x.lt p.nv):
 (um P t (x.den ms.f ρ)).wp (eY ms K p ρ):=by
 unfold Ma at h;unfold um;cases ht:P.underlying t with
 |none=>grind
 |some d=>
  rw[ht]at h;cases d<;>first|cases h|skip
  ·dsimp only at h;split at h
   ·rename_i v;intro hf;refine⟨_,_,_,_,ρ,h, .more hs (GA (cX (dY _ _) (aI hx (by omega)))) (Gz ?_),aI (show v<p.nv+0 from hx) (by omega),?_⟩
    ·rw[br,cg,au _ _ (by omega),ms.h3];omega
    ·simp only[AS.den,AX.den,au _ _ (show 3<64 by omega),ms.h3]
   ·intro _;exact⟨_,_,_,_,ρ,h, .refl hs,dY _ _,by rfl⟩
   grind
  ·dsimp only at h;cases hn:CY x with
   |true=>
    rw[hn]at h;unfold CY at hn;split at hn
    ·exact⟨_,_,_,_,ρ,h, .refl hs,dY _ _,by rfl⟩
    grind
   |false=>
    rw[hn]at h;dsimp only at h;cases hr:rK x with
    |none=>
     rw[hr]at h;dsimp only at h;split at h
     ·rename_i e b v;simp only[AS.den,AX.den,rowsOf];intro hf;refine⟨_,_,_,_,ρ,h, .more hs (GA (gS _ (cX (dY _ _) (aI hx (by omega))))) (Gz ?_),gS _ (aI (show v<p.nv+0 from hx) (by omega)),?_⟩
      ·rw[cO,br,cg,au _ _ (by omega),ms.h2];omega
      ·simp only[AS.den,AX.den,cO,au _ _ (show 2<64 by omega),ms.h2]
     ·rename_i e b v;simp only[AS.den,AX.den,rowsOf];intro hf;refine⟨_,_,_,_,ρ,h, .more hs (GA (cX (dY _ _) (aI hx (by omega)))) (Gz ?_),aI (show v<p.nv+0 from hx) (by omega),?_⟩
      ·rw[br,cg,au _ _ (by omega),ms.h2];omega
      ·simp only[AS.den,AX.den,au _ _ (show 2<64 by omega),ms.h2]
     grind
    |some ev=>
     obtain⟨e,v⟩:=ev;rw[hr]at h;dsimp only at h;obtain⟨h1,hv⟩:=Gu (f:=ms.f) (ρ:=ρ) hr hx;have key:(R.fk ((ah (ρ v)).length<=cM) (.one (.c (.int .i64 (ah (ρ v)).length)))).wp (eY ms K p ρ):=by
      intro hf;refine⟨_,_,_,_,ρ,h, .more hs (GA (cX (dY _ _) (aI hv (by omega)))) (Gz ?_),aI (show v<p.nv+0 from hv) (by omega),?_⟩
      ·rw[br,cg,au _ _ (by omega),ms.h2];omega
      ·simp only[AS.den,AX.den,au _ _ (show 2<64 by omega),ms.h2]
     generalize x.den ms.f ρ=y at h1;unfold rowsOf at h1;split at h1
     ·simp only[ae,bT]at h1;obtain⟨rfl,rfl⟩:=h1;exact key
     ·simp only[ae,bT]at h1;obtain⟨rfl,rfl⟩:=h1;exact key
     grind
def Mb (mx:Bool) (a b:aa) (nn:Bool) (y:Nat):List aa:=
 match mx,nn with
 |true,true=>[(af 0 y).sub a,(af 0 y).sub b,(a.add b).sub (af 0 y)]
 |true,false=>[(af 0 y).sub a,(af 0 y).sub b]
 |false,true=>[a.sub (af 0 y),b.sub (af 0 y),af 0 y]
 |false,false=>[a.sub (af 0 y),b.sub (af 0 y)]
def GB (ask:Ask σ) (mx:Bool) (p:Path) (x y:AS) (K:Path->AS->σ->Option σ):σ->Option σ:=
 match x,y with
 | .one (.int k a), .one (.int l b)=>
  if k=l then may ask p.Γ a λn1=>may ask p.Γ b λn2=>K (oc p (Mb mx a b (n1&&n2))) (.one (.int k (af 0 p.nv)))
  else λ_=>none
 |_,_=>λ_=>none
def mm (mx:Bool) (a b:Int):Int:=match mx with|true=>if b>a then b else a|false=>if b<a then b else a
def Mc (mx:Bool) (x y:S):R:=match mx with|true=>uo x y|false=>uq x y
theorem Ud {ask:Ask σ} (ha:ca ask) {mx:Bool} {ms:Ms T} {p:Path} {x y:AS} {K:Path->AS->σ->Option σ} {s s':σ} (h:GB ask mx p x y K s=some s') (hs:Sat T ms.f ρ p) (hx:x.lt p.nv) (hy:y.lt p.nv):
 (Mc mx (x.den ms.f ρ) (y.den ms.f ρ)).wp (eY ms K p ρ):=by
 unfold GB at h;split at h
 ·rename_i k a l b;split at h
  ·rename_i e;subst e;obtain⟨n1,s1,h,e1⟩:=qn ha h;obtain⟨n2,s2,h,e2⟩:=qn ha h;have key:eY ms K p ρ (.one (.c (.int k (mm mx (a.den (mu ms.f ρ)) (b.den (mu ms.f ρ)))))):=by
    obtain⟨m,hm⟩:∃m,m=mm mx (a.den (mu ms.f ρ)) (b.den (mu ms.f ρ)):=⟨_,rfl⟩
    have qW:mx=true->a.den (mu ms.f ρ)<=m/\b.den (mu ms.f ρ)<=m/\(m=a.den (mu ms.f ρ)\/m=b.den (mu ms.f ρ)):=by rintro rfl;simp only[mm]at hm;split at hm<;>omega
    have uG:mx=false->m<=a.den (mu ms.f ρ)/\m<=b.den (mu ms.f ρ)/\(m=a.den (mu ms.f ρ)\/m=b.den (mu ms.f ρ)):=by rintro rfl;simp only[mm]at hm;split at hm<;>omega
    rw[<-hm];have aL:=eQ ρ p.nv [C.int k m];have hd:(af 0 p.nv).den (mu ms.f (bind' ρ p.nv [C.int k m]))=m:=by rw[au _ _ (by omega),bS,ms.h0];rfl
    have l0:(af 0 p.nv).lt (p.nv+1):=aI (bQ _) (by omega);have te:=bg (pA p.nv) (show a.lt p.nv from hx);have vn:=bg (pA p.nv) (show b.lt p.nv from hy);have hA:=aL.dE (f:=ms.f) (show a.lt p.nv from hx);have hB:=aL.dE (f:=ms.f) (show b.lt p.nv from hy);have Ue:(n1&&n2)=true->0<=a.den (mu ms.f ρ)/\0<=b.den (mu ms.f ρ):=λhn=>by simp only[aB]at hn;exact⟨hs.entails (e1 hn.1),hs.entails (e2 hn.2)⟩
    refine⟨_,_,_,_,_,h, .fresh hs (.int k m) ?_ ?_,l0,by simp only[AS.den,AX.den,hd]⟩
    ·intro g hg;cases mx<;>cases hn:(n1&&n2)<;>rw[hn]at hg<;>simp only[Mb,az,bL,bM]at hg
     ·rcases hg with rfl|rfl
      ·exact cX te l0
      ·exact cX vn l0
     ·rcases hg with rfl|rfl|rfl
      ·exact cX te l0
      ·exact cX vn l0
      omega
     ·rcases hg with rfl|rfl
      ·exact cX l0 te
      ·exact cX l0 vn
     ·rcases hg with rfl|rfl|rfl
      ·exact cX l0 te
      ·exact cX l0 vn
      ·exact cX (nd te vn) l0
    ·intro g hg;cases mx<;>cases hn:(n1&&n2)<;>rw[hn]at hg<;>simp only[Mb,az,bL,bM]at hg
     ·have:=uG rfl;rcases hg with rfl|rfl<;>simp only[br,hd,hA,hB]<;>omega
     ·have:=uG rfl;have:=Ue hn;rcases hg with rfl|rfl|rfl<;>simp only[br,hd,hA,hB]<;>omega
     ·have:=qW rfl;rcases hg with rfl|rfl<;>simp only[br,hd,hA,hB]<;>omega
     ·have:=qW rfl;have:=Ue hn;rcases hg with rfl|rfl|rfl<;>simp only[br,den_add,hd,hA,hB]<;>omega
   cases mx
   ·simp only[Mc,AS.den,AX.den,uq,cJ];exact key
   ·simp only[Mc,AS.den,AX.den,uo,cJ];exact key
  grind
 grind
end
end Go.Pv
namespace Go.Pv
open Go
noncomputable section
variable {T:ay} {σ:Type} {f:Nat->C->Int} {ρ:Kr} {n:Nat}
theorem df (e:Nat) (r:Y9):ah (.sl e r)=r:=rfl
def Md (p:Path) (x:AS) (K:Path->AS->σ->Option σ):σ->Option σ:=
 match x with
 | .one (.ptr b off)=>K p (.one (.ptr b off))
 | .one (.bz e x i off)=>K p (.one (.bz e x i off))
 | .one (.cd b off)=>K p (.one (.cd b off))
 | .one (.gb b w i off)=>K p (.one (.gb b w i off))
 |_=>λ_=>none
theorem aeD {ms:Ms T} {p:Path} {x:AS} {K:Path->AS->σ->Option σ} {s s':σ} (h:Md p x K s=some s') (hs:Sat T ms.f ρ p) (hx:x.lt p.nv):(wm (x.den ms.f ρ)).wp (eY ms K p ρ):=by
 unfold Md at h;split at h
 ·exact⟨p,_,_,_,ρ,h, .refl hs,hx,rfl⟩
 ·exact⟨p,_,_,_,ρ,h, .refl hs,hx,rfl⟩
 ·exact⟨p,_,_,_,ρ,h, .refl hs,trivial,rfl⟩
 ·exact⟨p,_,_,_,ρ,h, .refl hs,hx,rfl⟩
 grind
def Me (P:Program) (T:ay) (p:Path) (s:Nat) (x:AS) (fd:Nat) (K:Path->AS->σ->Option σ):σ->Option σ:=
 match ur P T s fd with
 |some (o,_)=>
  (match x with
  | .one (.ptr b off)=>K p (.one (.ptr b (off+o)))
  | .one (.bz e x i off)=>K p (.one (.bz e x i (off+o)))
  | .one (.cd b off)=>K p (.one (.cd b (off+o)))
  | .one (.gb b w i off)=>K p (.one (.gb b w i (off+o)))
  |_=>λ_=>none)
 |none=>λ_=>none
theorem aeE {P:Program} {ms:Ms T} {p:Path} {t fd:Nat} {x:AS} {K:Path->AS->σ->Option σ} {s s':σ} (h:Me P T p t x fd K s=some s') (hs:Sat T ms.f ρ p) (hx:x.lt p.nv):
 (uu P T t (x.den ms.f ρ) fd).wp (eY ms K p ρ):=by
 unfold Me at h;unfold uu;cases hf:ur P T t fd with
 |none=>grind
 |some o=>
  obtain⟨o,ft⟩:=o;rw[hf]at h;dsimp only at h⊢;split at h
  ·exact⟨p,_,_,_,ρ,h, .refl hs,trivial,rfl⟩
  ·exact⟨p,_,_,_,ρ,h, .refl hs,hx,rfl⟩
  ·exact⟨p,_,_,_,ρ,h, .refl hs,trivial,rfl⟩
  ·exact⟨p,_,_,_,ρ,h, .refl hs,hx,by simp only[AS.den,AX.den,oB]⟩
  grind
def Mem.is (q:Mem) (e x:Nat) (i:aa):Bool:=Nat.beq q.e e&&Nat.beq q.x x&&decide (q.i=i)
theorem Mem.aeF {q:Mem} {e x:Nat} {i:aa} (h:q.is e x i=true):q.e=e/\q.x=x/\q.i=i:=by simp only[Mem.is,aB,eN]at h;simp_all
def rP (ms:Ms T) (y:Nat):List Kd->List aa
 |[]=>[]
 |k::ks=>inst [y] (ms.base k)++rP ms (y+1) ks
theorem CZ (ms:Ms T):∀(ks:amQ) (y:Nat),aJ (mu ms.f ρ) (rP ms y ks)
 |[],_=>λg hg=>by cases hg
 |k::ks,y=>(gU ms k y).append (CZ ms ks (y+1))
theorem C0 (ms:Ms T):∀(ks:amQ) (y:Nat),y+ks.length<=n->∀g∈rP ms y ks,g.lt n
 |[],_,_=>λg hg=>by cases hg
 |k::ks,y,h=>by simp only[eH]at h;exact b8 (gV ms k (by omega)) (C0 ms ks (y+1) (by omega))
def zR (ms:Ms T):Kd->Nat->List aa
 | .int k,y=>vl k (af 0 y)
 | .str,y=>[(aa.const hC).sub (af 3 y)]
 | .sl e,y=>(aa.const cM).sub (af 2 y)::inst [y] (ms.fit e)
 |_,_=>[]
def GC (ms:Ms T) (y:Nat):List Kd->List aa
 |[]=>[]
 |k::ks=>zR ms k y++GC ms (y+1) ks
theorem Uf (ms:Ms T) {k:Kd} {y:Nat} (h:bN T (ρ y)) (hk:(ρ y).kd=k):aJ (mu ms.f ρ) (zR ms k y):=by
 generalize hc:ρ y=c at h hk;cases h with
 |int k' n hn=>simp only[C.kd]at hk;subst hk;refine Gi ?_;rw[au _ _ (by omega),ms.h0,hc];exact hn
 |bool b=>simp only[C.kd]at hk;subst hk;exact λg hg=>by cases hg
 |str s hn=>simp only[C.kd]at hk;subst hk;intro g hg;simp only[zR,a8]at hg;subst hg;rw[br,cg,au _ _ (by omega),ms.h3,hc];simp only[aA];omega
 |any=>simp only[C.kd]at hk;subst hk;exact λg hg=>by cases hg
 |sl e rows hn h1 h2=>
  simp only[C.kd]at hk;subst hk;intro g hg;rcases az.1 hg with rfl|hg
  ·rw[br,cg,au _ _ (by omega),ms.h2,hc];simp only[ah];omega
  ·exact LR ms (by rw[hc];exact .sl e rows hn h1 h2) g hg
theorem Ug (ms:Ms T) {k:Kd} {y:Nat} (h:y<n):∀g∈zR ms k y,g.lt n:=by
 intro g hg;cases k with
 |int k=>exact Gj (aI h (by omega)) g hg
 |str=>simp only[zR,a8]at hg;subst hg;exact cX (dY _ _) (aI h (by omega))
 |sl e=>
  rcases az.1 hg with rfl|hg
  ·exact cX (dY _ _) (aI h (by omega))
  ·exact LS ms e h g hg
 |_=>cases hg
theorem Uh (ms:Ms T):∀{ks:amQ} {y:Nat},(∀j k,ks[j]?=some k->bN T (ρ (y+j))/\(ρ (y+j)).kd=k)->aJ (mu ms.f ρ) (GC ms y ks)
 |[],_,_=>λg hg=>by cases hg
 |k::ks,y,h=>by refine aJ.append (Uf ms (h 0 k rfl).1 (h 0 k rfl).2) (Uh ms λj k' hj=>?_);rw[show y+1+j=y+(j+1)by omega];simp_all
theorem Ui (ms:Ms T):∀{ks:amQ} {y:Nat},y+ks.length<=n->∀g∈GC ms y ks,g.lt n
 |[],_,_=>λg hg=>by cases hg
 |k::ks,y,h=>by simp only[eH]at h;exact b8 (Ug ms (by omega)) (Ui ms (by omega))
def a9 (b k:Nat):List Nat:=(List.range k).map (b+ ·)
def zS (ms:Ms T) (e x y:Nat):List aa:=inst (x::a9 y (T e).length) (ms.row e)++(rP ms y (T e)++GC ms y (T e))
def zT (p:Path) (e x:Nat) (i:aa):List (Int×Nat):=
 match od i with
 |some _=>p.gH.filterMap λq=>match od q.i with|some c=>if Nat.beq q.e e&&Nat.beq q.x x then some (c,q.b)else none|none=>none
 |none=>[]
def GD:List (Int×Nat)->Bool
 |[]=>true
 |q::r=>r.all (λq'=>!decide (q'.1=q.1))&&GD r
def xL (ms:Ms T) (e x:Nat) (l:List (Int×Nat)):List aa:=
 match l with
 |[]=>[]
 |[_]=>[]
 |l=>if GD l=true then inst (x::l.flatMap λq=>a9 q.2 (T e).length) (ms.many e l.length)else[]
def GF (i:aa):Int:=(od i).getD 0
def C1 (ms:Ms T) (p:Path) (e x:Nat) (i:aa) (b:Nat):List aa:=
 (p.gh.filter λh=>Nat.beq h.e e&&Nat.beq h.x x&&decide (h.i=i)).flatMap λh=>inst (x::h.g::a9 b (T e).length) (ms.grow e)
def zU (ms:Ms T) (p:Path) (e x:Nat) (i:aa) (K:Path->σ->Option σ) (s:σ):Option σ:=
 match p.gH.any (·.is e x i)with
 |true=>K p s
 |false=>K {p.ext (T e).length (C1 ms p e x i p.nv++(xL ms e x ((GF i,p.nv)::zT p e x i)++zS ms e x p.nv))with gH:=⟨e,x,i,p.nv⟩::p.gH} s
def k7 (p:Path) (e x:Nat) (i:aa):Option Nat:=
 match p.gH.find? (·.is e x i)with
 |some q=>some q.b
 |none=>none
theorem Uj:∀{l:List (Int×Nat)},GD l=true->(∀q∈l,0<=q.1)->(l.map λq=>q.1.toNat).Nodup
 |[],_,_=>List.nodup_nil
 |q::r,h,h0=>by simp only[GD,aB,aX,gy,v3]at h;rw[bu,Jr];refine⟨λhm=>?_,Uj h.2 λq' hq=>h0 q' (by grind)⟩;grind
theorem Mf {k:Nat}:∀l:List (Int×Nat),(l.flatMap λq=>a9 q.2 k).length=l.length*k
 |[]=>by simp
 |q::r=>by
  have h:(a9 q.2 k).length=k:=by simp[a9]
  rw[mN,jS,Mf r,h,eH,yH];omega
theorem Uk {k:Nat} {rows:Y9}:∀l:List (Int×Nat),(∀q∈l,∀j,j<k->ρ (q.2+j)=cellAt rows q.1.toNat j)->
 (l.flatMap λq=>(a9 q.2 k).map ρ)=l.flatMap λq=>(List.range k).map λj=>cellAt rows q.1.toNat j
 |[],_=>rfl
 |q::r,h=>by rw[mN,mN,Uk r λq' hq=>h q' (by grind)];congr 1;rw[a9,da];simp_all
theorem aeG (ms:Ms T) {e x:Nat} {l:List (Int×Nat)} (hx:x<n) (h:∀q∈l,q.2+(T e).length<=n):∀g∈xL ms e x l,g.lt n:=by
 unfold xL;split
 ·grind
 ·grind
 ·split
  ·refine gJ (ms.xA e _) ?_ ?_
   ·simp only[eH,Mf];omega
   ·intro v hv;simp only[az,ba,a9,aF,dP]at hv;grind
  grind
theorem aeH (ms:Ms T) {e x:Nat} {l:List (Int×Nat)} (hk:∀r∈ah (ρ x),r.map C.kd=T e)
 (h:∀q∈l,0<=q.1/\q.1.toNat<(ah (ρ x)).length/\∀j,j<(T e).length->ρ (q.2+j)=cellAt (ah (ρ x)) q.1.toNat j):aJ (mu ms.f ρ) (xL ms e x l):=by
 unfold xL;split
 ·exact λg hg=>by grind
 ·exact λg hg=>by grind
 ·split
  ·rename_i hd;refine gI (ms.xA e _) ?_ ?_
   ·simp only[eH,Mf];omega
   ·refine⟨ρ x,l.map λq=>q.1.toNat,by simp,Uj hd λq hq=>(h q hq).1,λi hi=>?_,hk,?_⟩
    ·grind
    ·rw[bu,Js,uf];rw[Uk l λq hq=>(h q hq).2.2]
  ·exact λg hg=>by grind
theorem Ul {ms:Ms T} {p:Path} {e x:Nat} {i:aa} (hs:Sat T ms.f ρ p):∀q∈zT p e x i,q.2+(T e).length<=p.nv/\0<=q.1/\q.1.toNat<(ah (ρ x)).length/\∀j,j<(T e).length->ρ (q.2+j)=cellAt (ah (ρ x)) q.1.toNat j:=by
 intro q hq;unfold zT at hq;split at hq
 ·obtain⟨m,hm,h⟩:=ZK.1 hq;split at h
  ·rename_i c hc;split at h
   ·rename_i hb;simp only[aB]at hb;have h1:=bt hb.1;have h2:=bt hb.2;simp only[ae]at h;subst h;have hk:=hs.gH m hm;have hd:=vm hc (μ:=mu ms.f ρ);obtain⟨me,mx,mi,mb⟩:=m;simp only at h1 h2 hd;subst h1;subst h2;have k4:=hk.row.lo;have k5:=hk.row.hi;have k6:=hk.row.cell;simp only[hd]at k4 k5 k6;exact⟨hk.b,k4,k5,k6⟩
   grind
  grind
 grind
theorem Um (ms:Ms T) {e x b:Nat} (hx:x<n) (hb:b+(T e).length<=n):∀g∈zS ms e x b,g.lt n:=by refine b8 (gJ (ms.xu e) (by simp[a9];omega) ?_) (b8 (C0 ms _ _ hb) (Ui ms hb));intro v hv;simp only[a9,az,aF,dP]at hv;omega
theorem Un (ms:Ms T) {e x b:Nat} {i:aa} (h:nf T ms.f ρ e x i b):aJ (mu ms.f ρ) (zS ms e x b):=by
 refine aJ.append (gI (ms.xu e) (by simp[a9];omega) ?_) (aJ.append (CZ ms _ _) (Uh ms λj k hj=>?_))
 ·refine⟨ρ x,(i.den (mu ms.f ρ)).toNat,h.hi,h.kd,?_⟩;rw[bu,a9,da];congr 1;exact cK λj hj=>h.cell j (dP.1 hj)
 ·have dR:j<(T e).length:=by
   rcases aT j (T e).length with h'|h'
   ·omega
   ·grind
  rw[h.cell j dR];have hr:(ah (ρ x)).getD (i.den (mu ms.f ρ)).toNat []=(ah (ρ x))[(i.den (mu ms.f ρ)).toNat]'h.hi:=by rw[aZ,aP h.hi];rfl
  have hm:=fz h.hi;have sF:=h.kd _ hm;have ti:j<((ah (ρ x))[(i.den (mu ms.f ρ)).toNat]'h.hi).length:=by rw[<-sF]at dR;simpa using dR
  have hc:cellAt (ah (ρ x)) (i.den (mu ms.f ρ)).toNat j=((ah (ρ x))[(i.den (mu ms.f ρ)).toNat]'h.hi)[j]:=by simp only[cellAt,hr,aZ,aP ti,fh]
  rw[hc];refine⟨h.fit _ hm _ (fz ti),?_⟩;grind
theorem Uo {p:Path} {e x:Nat} {i:aa} {h:Gh} (hh:h∈p.gh.filter λh=>Nat.beq h.e e&&Nat.beq h.x x&&decide (h.i=i)):h∈p.gh/\h.e=e/\h.x=x/\h.i=i:=by simp_all
theorem aeI (ms:Ms T) {p:Path} {e x b:Nat} {i:aa} (hs:Sat T ms.f ρ p) (hn:p.nv<=n) (hx:x<n) (hb:b+(T e).length<=n):∀g∈C1 ms p e x i b,g.lt n:=by intro g hg;obtain⟨h,hh,hg⟩:=ba.1 hg;obtain⟨h1,_⟩:=Uo hh;have Mg:=(hs.gh h h1).g;refine gJ (ms.xD e) (by simp[a9];omega) (λv hv=>?_) g hg;simp only[a9,az,aF,dP]at hv;omega
theorem aeJ (ms:Ms T) {p:Path} {e x b:Nat} {i:aa} {ai:Kr} (hs:Sat T ms.f ρ p) (aL:cu p.nv ρ ai) (hr:nf T ms.f ai e x i b):aJ (mu ms.f ai) (C1 ms p e x i b):=by intro g hg;obtain⟨h,hh,hg⟩:=ba.1 hg;obtain⟨h1,h2,h3,h4⟩:=Uo hh;have aN:=(hs.gh h h1).aK aL (bh _);have hv:=aN.val;rw[h2,h3,h4]at hv;refine gI (ms.xD e) (by simp[a9];omega) ⟨ai x,(i.den (mu ms.f ai)).toNat,hr.hi,hr.kd,?_⟩ g hg;rw[bu,bu,hv,a9,da];congr 2;exact cK λj hj=>hr.cell j (dP.1 hj)
theorem GG {ms:Ms T} {p:Path} {e x:Nat} {i:aa} {K:Path->σ->Option σ} {s s':σ} (h:zU ms p e x i K s=some s') (hs:Sat T ms.f ρ p) (hx:x<p.nv) (hi:i.lt p.nv)
 (h0:0<=i.den (mu ms.f ρ)) (h1:(i.den (mu ms.f ρ)).toNat<(ah (ρ x)).length) (hk:∀r∈ah (ρ x),r.map C.kd=T e) (aN:∀r∈ah (ρ x),∀c∈r,bN T c):
 ∃p' ai,K p' s=some s'/\Reach ms p ρ p' ai/\p'.gH.any (·.is e x i)=true:=by
 unfold zU at h;split at h
 ·rename_i hm;exact⟨p,ρ,h, .refl hs,hm⟩
 ·let cells:=(List.range (T e).length).map λj=>cellAt (ah (ρ x)) (i.den (mu ms.f ρ)).toNat j;have fb:cells.length=(T e).length:=by simp[cells]
  have aL:cu p.nv ρ (bind' ρ p.nv cells):=eQ _ _ _;have aj:∀g∈C1 ms p e x i p.nv++(xL ms e x ((GF i,p.nv)::zT p e x i)++zS ms e x p.nv),g.lt (p.nv+(T e).length):=by
   refine b8 (aeI ms hs (fL _ _) (by omega) (bh _)) ?_;refine b8 (aeG ms (by omega) λq hq=>?_) ?_
   ·simp only[az]at hq;rcases hq with rfl|hq
    ·omega
    ·have:=(Ul hs q hq).1;omega
   exact Um ms (by omega) (bh _)
  have hh:aJ (mu ms.f (bind' ρ p.nv cells)) (C1 ms p e x i p.nv++(xL ms e x ((GF i,p.nv)::zT p e x i)++zS ms e x p.nv)):=by
   have fp:∀j,j<(T e).length->bind' ρ p.nv cells (p.nv+j)=cellAt (ah (ρ x)) (i.den (mu ms.f ρ)).toNat j:=λj hj=>by rw[Gf,aZ,aP (by omega)];grind
   have dV:nf T ms.f (bind' ρ p.nv cells) e x i p.nv:=by have q9:=aL.dE (f:=ms.f) hi;have tj:=aL x hx;exact⟨by omega,by grind,λj hj=>by grind,by grind,by grind⟩
   refine aJ.append (aeJ ms hs aL dV) ?_;refine aJ.append ?_ ?_
   ·cases BQ:od i with
    |none=>simp only[zT,BQ];exact λg hg=>by cases hg
    |some c=>
     have hd:=vm BQ (μ:=mu ms.f ρ);refine aeH ms (by rw[aL x hx];omega) λq hq=>?_;rw[aL x hx];simp only[az]at hq;rcases hq with rfl|hq
     ·simp only[GF,BQ,fh];grind
     ·obtain⟨g1,g2,g3,g4⟩:=Ul hs q hq;exact⟨g2,g3,λj hj=>by rw[aL _ (by omega)];grind⟩
   exact Un ms dV
  have gf:=hs.ext aL aj hh;refine⟨_,bind' ρ p.nv cells,h,⟨rfl,fL _ _,⟨gf.st,gf.lt,gf.facts,gf.wk,λq hq=>?_,gf.gh,gf.sn⟩,aL⟩,by simp[Mem.is]⟩;simp only[az]at hq;rcases hq with rfl|hq
  ·have q9:=aL.dE (f:=ms.f) hi;have tj:=aL x hx;refine⟨by simp only[Path.ext];omega,bg (fL _ _) hi,bh _,⟨by grind,by grind,λj hj=>?_,by grind,by grind⟩⟩;have hj:j<(T e).length:=hj;rw[q9,tj,Gf,aZ,aP (by omega)];grind
  ·exact gf.gH q hq
theorem og {ms:Ms T} {p:Path} {e x b:Nat} {i:aa} (h:k7 p e x i=some b) (hs:Sat T ms.f ρ p):Mem.ok T ms.f ρ p.nv ⟨e,x,i,b⟩:=by
 unfold k7 at h;split at h
 ·rename_i q hq;simp only[ae]at h;obtain⟨h1,h2,h3⟩:=Mem.aeF (q:=q) (v8 (p:=λq:Mem=>q.is e x i) hq);have:=hs.gH q (uc hq);obtain⟨qe,qx,qi,qb⟩:=q;grind
 grind
theorem GH {s:S} {e:Nat} {rows:Y9} (h:dA T s) (hr:rowsOf s=some (e,rows)):(∀r∈rows,r.map C.kd=T e)/\∀r∈rows,∀c∈r,bN T c:=by
 unfold rowsOf at hr;split at hr
 ·simp only[ae,bT]at hr;obtain⟨rfl,rfl⟩:=hr;cases h with|sl e rows h1 h2 h3=>grind
 ·simp only[ae,bT]at hr;obtain⟨rfl,rfl⟩:=hr;cases h with|sl e rows h1 h2 h3=>grind
 grind
def Up (e:Nat) (x:AS):Bool:=!Nat.beq e 1053||(match x with| .one (.own e' g _ _)=>Nat.beq e' 1053&&Nat.beq g 6053|_=>false)
theorem aeK {f:Nat->C->Int} (e:Nat) (x:AS):ES e (x.den f ρ)=Up e x:=by
 cases x with
 |one x=>cases x<;>rfl
 |_=>rfl
def zV (ask:Ask σ) (ms:Ms T) (m:Mem):List Mem->Path->(Path->σ->Option σ)->σ->Option σ
 |[],p,K=>K p
 |q::r,p,K=>match Nat.beq q.e m.e&&!Nat.beq q.x m.x with
  |true=>oe ask p.Γ [q.i.sub m.i,m.i.sub q.i] λt=>match t with
   |true=>conds ask (q.x::m.x::(a9 q.b (T m.e).length++a9 m.b (T m.e).length)) (ms.vk m.e) p λp=>zV ask ms m r p K
   |false=>zV ask ms m r p K
  |false=>zV ask ms m r p K
def zW (ask:Ask σ) (ms:Ms T) (m:Mem):List Sn->Path->(Path->σ->Option σ)->σ->Option σ
 |[],p,K=>K p
 |q::r,p,K=>match Nat.beq q.e m.e&&!Nat.beq q.u m.x with
  |true=>oe ask p.Γ [(af 2 q.a).neg,m.i.neg] λt=>match t with
   |true=>conds ask (q.u::m.x::(a9 q.b (T m.e).length++a9 m.b (T m.e).length)) (ms.vk m.e) p λp=>zW ask ms m r p K
   |false=>zW ask ms m r p K
  |false=>zW ask ms m r p K
def bq (ask:Ask σ) (ms:Ms T) (e x:Nat) (i:aa) (GI:Bool) (p:Path) (K:Path->σ->Option σ):σ->Option σ:=
 match GI||(ms.vk e).isEmpty with
 |true=>K p
 |false=>match p.gH.find? (·.is e x i)with
  |some m=>zV ask ms m p.gH p λq=>zW ask ms m p.sn q K
  |none=>K p
theorem GJ {ask:Ask σ} (ha:ca ask) {ms:Ms T} {m:Mem} {ρ:Kr}:∀{l:List Mem} {p:Path} {K:Path->σ->Option σ} {s s':σ},zV ask ms m l p K s=some s'->Sat T ms.f ρ p->m.ok T ms.f ρ p.nv->(∀q∈l,q.ok T ms.f ρ p.nv)->
 ∃p' s1,K p' s1=some s'/\Reach ms p ρ p' ρ/\p'.nv=p.nv
 |[],p,K,s,s',h,hs,_,_=>⟨p,s,h, .refl hs,rfl⟩
 |q::r,p,K,s,s',h,hs,hm,hq=>by
  simp only[zV]at h;have hr:∀q∈r,q.ok T ms.f ρ p.nv:=λk hk=>hq k (by grind);cases he:(Nat.beq q.e m.e&&!Nat.beq q.x m.x)with
  |false=>rw[he]at h;exact GJ ha h hs hm hr
  |true=>
   rw[he]at h;dsimp only at h;simp only[aB]at he;have he:=bt he.1;obtain⟨t,s1,h,ht⟩:=o7 ha h;cases t with
   |false=>exact GJ ha h hs hm hr
   |true=>
    dsimp only at h;have z1:=hs.entails (ht rfl (q.i.sub m.i) (by simp));have z2:=hs.entails (ht rfl (m.i.sub q.i) (by simp));rw[br]at z1 z2;have o9:=hq q (by simp);have ei:q.i.den (mu ms.f ρ)=m.i.den (mu ms.f ρ):=by omega
    have b1:=hm.b;have b2:=o9.b;have x1:=hm.x;have x2:=o9.x;have GK:=o9.row;rw[he]at b2 GK;have hv:∀v∈q.x::m.x::(a9 q.b (T m.e).length++a9 m.b (T m.e).length),v<p.nv:=by intro v hv;simp only[a9,az,bB,aF,dP]at hv;rcases hv with rfl|rfl|⟨j,hj,rfl⟩|⟨j,hj,rfl⟩<;>omega
    have cs:∀{x b:Nat} {i:aa},nf T ms.f ρ m.e x i b->(a9 b (T m.e).length).map ρ=(List.range (T m.e).length).map λj=>cellAt (ah (ρ x)) (i.den (mu ms.f ρ)).toNat j:=λh=>by rw[a9,da];exact cK λj hj=>h.cell j (dP.1 hj)
    obtain⟨p1,s1,h,r3,n3⟩:=o8 ha (k:=2+(T m.e).length+(T m.e).length) (by simp[a9];omega) h (ms.xF m.e) hv
     ⟨ρ q.x,ρ m.x,(m.i.den (mu ms.f ρ)).toNat,by rw[<-ei];exact GK.hi,hm.row.hi,GK.kd,hm.row.kd,by simp only[bu,oH,cs GK,cs hm.row,ei]⟩ hs
    obtain⟨p2,s2,h,r4,n4⟩:=GJ ha h r3.sat (by grind) λk hk=>by grind
    exact⟨p2,s2,h,r3.trans r4,n4.trans n3⟩
theorem GL {ask:Ask σ} (ha:ca ask) {ms:Ms T} {m:Mem} {ρ:Kr}:∀{l:List Sn} {p:Path} {K:Path->σ->Option σ} {s s':σ},zW ask ms m l p K s=some s'->Sat T ms.f ρ p->m.ok T ms.f ρ p.nv->(∀q∈l,q.ok T ρ p.nv)->
 ∃p' s1,K p' s1=some s'/\Reach ms p ρ p' ρ/\p'.nv=p.nv
 |[],p,K,s,s',h,hs,_,_=>⟨p,s,h, .refl hs,rfl⟩
 |q::r,p,K,s,s',h,hs,hm,hq=>by
  simp only[zW]at h;have hr:∀q∈r,q.ok T ρ p.nv:=λk hk=>hq k (by grind);cases he:(Nat.beq q.e m.e&&!Nat.beq q.u m.x)with
  |false=>rw[he]at h;exact GL ha h hs hm hr
  |true=>
   rw[he]at h;dsimp only at h;simp only[aB]at he;have he:=bt he.1;obtain⟨t,s1,h,ht⟩:=o7 ha h;cases t with
   |false=>exact GL ha h hs hm hr
   |true=>
    dsimp only at h;have z1:=hs.entails (ht rfl ((af 2 q.a).neg) (by simp));have z2:=hs.entails (ht rfl (m.i.neg) (by simp));rw[eu]at z1 z2;rw[au _ _ (by omega),ms.h2]at z1;have o9:=hq q (by simp);have fu:=hm.row.lo;have ir:=hm.row.hi;have ei:(m.i.den (mu ms.f ρ)).toNat=0:=by omega
    have b1:=hm.b;have b2:=o9.b;have x1:=hm.x;have x2:=o9.u;obtain⟨al9,w1,w2,w3⟩:=o9.val;rw[he]at b2 w1 w2;rw[qO (l:=ah (ρ q.a)) (by omega),Zz]at w3;have hv:∀v∈q.u::m.x::(a9 q.b (T m.e).length++a9 m.b (T m.e).length),v<p.nv:=by intro v hv;simp only[a9,az,bB,aF,dP]at hv;rcases hv with rfl|rfl|⟨j,hj,rfl⟩|⟨j,hj,rfl⟩<;>omega
    have c1:(a9 q.b (T m.e).length).map ρ=(List.range (T m.e).length).map λj=>cellAt (ah (ρ q.u)) 0 j:=by rw[a9,da];refine cK λj hj=>?_;have hj:=dP.1 hj;have e2:=ll (·[j]?) w2;simp only[bP,iS hj,cj]at e2;show ρ (q.b+j)=_;rw[w3,cellAt,ZL,aZ,<-e2];rfl
    have c2:(a9 m.b (T m.e).length).map ρ=(List.range (T m.e).length).map λj=>cellAt (ah (ρ m.x)) 0 j:=by rw[a9,da];exact cK λj hj=>by rw[<-ei];exact hm.row.cell j (dP.1 hj)
    obtain⟨p1,s1,h,r3,n3⟩:=o8 ha (k:=2+(T m.e).length+(T m.e).length) (by simp[a9];omega) h (ms.xF m.e) hv
     ⟨ρ q.u,ρ m.x,0,by grind,by omega,λr hr=>by grind,hm.row.kd,by grind⟩ hs
    obtain⟨p2,s2,h,r4,n4⟩:=GL ha h r3.sat (by grind) λk hk=>by grind
    exact⟨p2,s2,h,r3.trans r4,n4.trans n3⟩
theorem aeL {ask:Ask σ} (ha:ca ask) {ms:Ms T} {e x:Nat} {i:aa} {GI:Bool} {p:Path} {K:Path->σ->Option σ} {s s':σ} {ρ:Kr} (h:bq ask ms e x i GI p K s=some s') (hs:Sat T ms.f ρ p):
 ∃p' s1,K p' s1=some s'/\Reach ms p ρ p' ρ/\p'.nv=p.nv:=by
 unfold bq at h;cases hw:(GI||(ms.vk e).isEmpty)with
 |true=>rw[hw]at h;exact⟨p,s,h, .refl hs,rfl⟩
 |false=>
  rw[hw]at h;dsimp only at h;cases hm:p.gH.find? (·.is e x i)with
  |none=>rw[hm]at h;exact⟨p,s,h, .refl hs,rfl⟩
  |some m=>rw[hm]at h;have zX:=hs.gH m (uc hm);obtain⟨p1,s1,h,r1,n1⟩:=GJ ha h hs zX hs.gH;obtain⟨p2,s2,h,r2,n2⟩:=GL ha h r1.sat (by grind) (by rw[n1];exact hs.sn);exact⟨p2,s2,h,r1.trans r2,n2.trans n1⟩
def Mh (P:Program) (ask:Ask σ) (ms:Ms T) (p:Path) (t:Nat) (x i:AS) (K:Path->AS->σ->Option σ) (s:σ):Option σ:=
 match P.underlying t,i with
 |some (.slice e'), .one (.int _ i)=>
  (match rK x with
  |some (e,v)=>
   if e'=base e/\(T e).isEmpty=false/\Up e x=true then
    gT ask p.Γ i (gT ask p.Γ (((af 2 v).sub i).bI (-1)) (zU ms p e v i λq=>bq ask ms e v i (p.gH.any (·.is e v i)) q λq=>K q (.one (.bz e v i 0)))) s
   else none
  |none=>
   (match x with
   | .one (.cn e b v)=>if e'=base e/\(T e).isEmpty=false then gT ask p.Γ ((af 2 v).sub i) (gT ask p.Γ (i.sub (af 2 v)) (K p (.one (.cd b 0)))) s else none
   | .one (.cq e b v)=>if e'=base e/\(T e).isEmpty=false then gT ask p.Γ i (gT ask p.Γ (((af 2 v).sub i).bI (-1)) (K p (.one (.gb b (T e).length i 0)))) s else none
   |_=>none))
 |_,_=>none
theorem aeM {P:Program} {ask:Ask σ} (ha:ca ask) {ms:Ms T} {p:Path} {t:Nat} {x i:AS} {K:Path->AS->σ->Option σ} {s s':σ} (h:Mh P ask ms p t x i K s=some s') (hs:Sat T ms.f ρ p)
 (hx:x.lt p.nv) (hi:i.lt p.nv) (aN:dA T (x.den ms.f ρ)):(nG P T t (x.den ms.f ρ) (i.den ms.f ρ)).wp (eY ms K p ρ):=by
 unfold Mh at h;split at h
 ·rename_i e' k i h1;have e0:(AS.one (.int k i)).den ms.f ρ= .one (.c (.int k (i.den (mu ms.f ρ)))):=rfl;cases h3:rK x with
  |some q=>
   obtain⟨e,v⟩:=q;rw[h3]at h;dsimp only at h;split at h
   ·rename_i hc;obtain⟨n1,s1,h⟩:=ix ha h;obtain⟨n2,s2,h⟩:=ix ha h;have n1:=hs.entails n1;have n2:=hs.entails n2;obtain⟨r1,r2⟩:=Gu (f:=ms.f) (ρ:=ρ) h3 hx;rw[cO,br,au _ _ (by omega),ms.h2]at n2;obtain⟨k1,k2⟩:=GH aN r1;obtain⟨p0,ai,hk,hr,_⟩:=GG h hs r2 hi n1 (by omega) k1 k2;obtain⟨p',s2,hk,bR,_⟩:=aeL ha hk hr.sat;have hr:=hr.trans bR;have key:nG P T t (x.den ms.f ρ) ((AS.one (.int k i)).den ms.f ρ)= .ck (0<=i.den (mu ms.f ρ)/\i.den (mu ms.f ρ)<(ah (ρ v)).length) (.one (.bz e (ah (ρ v)) (i.den (mu ms.f ρ)).toNat 0)):=by unfold nG;rw[h1,r1,e0];simp only[aeK,hc,wg,cJ]
    rw[key];refine⟨⟨n1,by omega⟩,p',_,_,_,ai,hk,hr,⟨dO r2 hr.nv,bg hr.nv hi⟩,?_⟩;simp only[AS.den,AX.den,hr.aK v r2,hr.aK.dE hi]
   grind
  |none=>
   rw[h3]at h;dsimp only at h;split at h
   ·rename_i e b v;split at h
    ·rename_i hc;obtain⟨n1,s1,h⟩:=ix ha h;obtain⟨n2,s2,h⟩:=ix ha h;have n1:=hs.entails n1;have n2:=hs.entails n2;rw[br,au _ _ (by omega),ms.h2]at n1 n2;simp only[nG,h1,AS.den,AX.den,rowsOf,hc,wg,cJ,R.wp];exact⟨by omega,p,_,_,_,ρ,h, .refl hs,trivial,rfl⟩
    grind
   ·rename_i e b v;split at h
    ·rename_i hc;obtain⟨n1,s1,h⟩:=ix ha h;obtain⟨n2,s2,h⟩:=ix ha h;have n1:=hs.entails n1;have n2:=hs.entails n2;rw[cO,br,au _ _ (by omega),ms.h2]at n2;simp only[nG,h1,AS.den,AX.den,rowsOf,hc,wg,cJ,R.wp];exact⟨by omega,p,_,_,_,ρ,h, .refl hs,hi,rfl⟩
    grind
   grind
 grind
def GM (x:AX):Option aa:=
 match x with
 | .str x=>some (af 3 x)
 | .lit s=>some (.const s.size)
 |_=>none
theorem aeN {ms:Ms T} {x:AX} {e:aa} (h:GM x=some e) (hx:x.lt n):∃t,x.den ms.f ρ= .c (.str t)/\e.den (mu ms.f ρ)=(t.size:Int)/\e.lt n:=by
 unfold GM at h;split at h
 ·simp only[ae]at h;subst h;exact⟨_,rfl,by rw[au _ _ (by omega),ms.h3],aI hx (by omega)⟩
 ·simp only[ae]at h;subst h;exact⟨_,rfl,cg _ _,dY _ _⟩
 grind
def Mi (P:Program) (ask:Ask σ) (p:Path) (t:Nat) (x i:AS) (K:Path->AS->σ->Option σ) (s:σ):Option σ:=
 match P.underlying t,x,i with
 |some .string, .one x, .one (.int _ i)=>
  (match GM x with
  |some e=>gT ask p.Γ i (gT ask p.Γ ((e.sub i).bI (-1)) (zL p .u8 (λ_=>[]) (ng K))) s
  |none=>none)
 |_,_,_=>none
theorem aeO {P:Program} {ask:Ask σ} (ha:ca ask) {ms:Ms T} {p:Path} {t:Nat} {x i:AS} {K:Path->AS->σ->Option σ} {s s':σ} (h:Mi P ask p t x i K s=some s') (hs:Sat T ms.f ρ p)
 (hx:x.lt p.nv) (hi:i.lt p.nv):(sw P t (x.den ms.f ρ) (i.den ms.f ρ)).wp (eY ms K p ρ):=by
 unfold Mi at h;split at h
 ·rename_i x k i h1;cases hz:GM x with
  |none=>grind
  |some e=>
   rw[hz]at h;obtain⟨t',e1,e2,e3⟩:=aeN (ms:=ms) (ρ:=ρ) hz hx;obtain⟨n1,s1,h⟩:=ix ha h;obtain⟨n2,s2,h⟩:=ix ha h;have n1:=hs.entails n1;have n2:=hs.entails n2;rw[cO,br,e2]at n2;have key:sw P t ((AS.one x).den ms.f ρ) ((AS.one (.int k i)).den ms.f ρ)= .ck (0<=i.den (mu ms.f ρ)/\i.den (mu ms.f ρ)<t'.size) (.one (.c (.int .u8 (bd t' (i.den (mu ms.f ρ)).toNat)))):=by
    have e0:(AS.one (.int k i)).den ms.f ρ= .one (.c (.int k (i.den (mu ms.f ρ)))):=rfl;have e4:(AS.one x).den ms.f ρ= .one (.c (.str t')):=by rw[AS.den,e1]
    unfold sw;rw[h1,e0,e4]
   rw[key];refine⟨⟨n1,by omega⟩,?_⟩;refine(CT (G:=iL ms (ng K) p ρ) h hs (zP ms _ p ρ) ?_ (λg hg=>by grind) λ_ _ _ g hg=>by grind).one;have:bd t' (i.den (mu ms.f ρ)).toNat<256:=by unfold bd;exact Zr _
   refine⟨?_,?_⟩
   ·show(0:Int)<=_;omega
   ·show _<=(255:Int);omega
 grind
def GN:Option AS->Option aa
 |none=>some (.const 0)
 |some (.one (.int _ e))=>some e
 |_=>none
def GO (len:aa):Option AS->Option aa
 |none=>some len
 |some (.one (.int _ e))=>some e
 |_=>none
theorem Uq {ms:Ms T} {o:Option AS} {l:aa} (h:GN o=some l) (ho:∀s,o=some s->s.lt n):uv (o.map (AS.den ms.f ρ))=some (l.den (mu ms.f ρ))/\l.lt n:=by
 unfold GN at h;split at h
 ·simp only[ae]at h;subst h;exact⟨by rfl,dY _ _⟩
 ·simp only[ae]at h;subst h;exact⟨rfl,ho _ rfl⟩
 grind
theorem Ur {ms:Ms T} {o:Option AS} {len l:aa} {z:Nat} (h:GO len o=some l) (ho:∀s,o=some s->s.lt n) (hl:len.lt n) (hz:len.den (mu ms.f ρ)=(z:Int)):
 uw z (o.map (AS.den ms.f ρ))=some (l.den (mu ms.f ρ))/\l.lt n:=by
 unfold GO at h;split at h
 ·simp only[ae]at h;subst h;exact⟨by simp[uw,hz],hl⟩
 ·simp only[ae]at h;subst h;exact⟨rfl,ho _ rfl⟩
 grind
def Mj (ask:Ask σ) (p:Path) (l h len:aa) (K:σ->Option σ):σ->Option σ:=gT ask p.Γ l (gT ask p.Γ (h.sub l) (gT ask p.Γ (len.sub h) K))
def Us (ms:Ms T) (x:Nat) (l h:aa) (y:Nat):List aa:=inst [x,y] ms.sub++(eZ (af 3 y) (h.sub l)++inst [y] (ms.base .str))
def aeP (ms:Ms T) (e x:Nat) (l h:aa) (y:Nat):List aa:=inst [x,y] (ms.part e)++(eZ (af 2 y) (h.sub l)++inst [y] (ms.base (.sl e)))
def C2 (ms:Ms T) (p:Path) (e x:Nat) (l:aa) (y:Nat):List aa:=
 match od l with
 |some 1=>(match k7 p e x (.const 0)with|some b=>inst (x::y::a9 b (T e).length) (ms.CQ e)|none=>[])
 |_=>[]
theorem aeQ {ms:Ms T} {p:Path} {e x:Nat} {l:aa} (hs:Sat T ms.f ρ p) (hx:x<p.nv):∀g∈C2 ms p e x l p.nv,g.lt (p.nv+1):=by
 unfold C2;split
 ·split
  ·rename_i b hb;have hm:=og hb hs;refine gJ (ms.xB e) (by simp[a9];omega) λv hv=>?_;simp only[a9,az,aF,dP]at hv;rcases hv with rfl|rfl|⟨j,hj,rfl⟩
   ·omega
   ·omega
   ·have:b+(T e).length<=p.nv:=hm.b;omega
  grind
 grind
theorem aeR {ms:Ms T} {p:Path} {e x:Nat} {l:aa} (hs:Sat T ms.f ρ p) (hx:x<p.nv) (hk:∀r∈ah (ρ x),r.map C.kd=T e) (j:Nat):
 aJ (mu ms.f (bind' ρ p.nv [.sl e (((ah (ρ x)).drop (l.den (mu ms.f ρ)).toNat).take j)])) (C2 ms p e x l p.nv):=by
 unfold C2;split
 ·rename_i hl;have hl:=vm hl (μ:=mu ms.f ρ);rw[hl];split
  ·rename_i b hb;have hm:=og hb hs;have aL:=eQ ρ p.nv [C.sl e (((ah (ρ x)).drop (1:Int).toNat).take j)];have h2:=hm.row.hi;have h3:=hm.row.cell;have h4:b+(T e).length<=p.nv:=hm.b;simp only[cg]at h2 h3;refine gI (ms.xB e) (by simp[a9];omega) ⟨ρ x,j,h2,hk,?_⟩;rw[bu,bu,aL x hx,bS];congr 2;rw[a9,da];exact cK λk hk=>by have hk:=dP.1 hk;simp only[Function.comp];rw[aL _ (by omega)];grind
  ·exact λg hg=>by grind
 ·exact λg hg=>by grind
def Ml (P:Program) (ask:Ask σ) (ms:Ms T) (p:Path) (t:Nat) (x:AS) (lo hi mx:Option AS) (K:Path->AS->σ->Option σ) (s:σ):Option σ:=
 match mx,P.underlying t with
 |none,some .string=>
  (match x with
  | .one x=>xK ms p x (λp v s=>
   match GN lo,GO (af 3 v) hi with
   |some l,some h=>Mj ask p l h (af 3 v) (Gr ask ms (oc p (Us ms v l h)) p.nv (ng K)) s
   |_,_=>none) s
  |_=>none)
 |none,some (.slice e')=>
  (match rK x with
  |some (e,v)=>
   (match GN lo,GO (af 2 v) hi with
   |some l,some h=>if e'=base e/\(T e).isEmpty=false then Mj ask p l h (af 2 v) (K (oc p (λy=>C2 ms p e v l y++aeP ms e v l h y)) (.one (.sl e p.nv))) s else none
   |_,_=>none)
  |none=>none)
 |_,_=>none
theorem Ut {ask:Ask σ} (ha:ca ask) {ms:Ms T} {p:Path} {l h len:aa} {K:σ->Option σ} {s s':σ} (hk:Mj ask p l h len K s=some s') (hs:Sat T ms.f ρ p):
 (0<=l.den (mu ms.f ρ)/\l.den (mu ms.f ρ)<=h.den (mu ms.f ρ)/\h.den (mu ms.f ρ)<=len.den (mu ms.f ρ))/\∃s1,K s1=some s':=by
 obtain⟨n1,s1,hk⟩:=ix ha hk;obtain⟨n2,s2,hk⟩:=ix ha hk;obtain⟨n3,s3,hk⟩:=ix ha hk;have n1:=hs.entails n1;have n2:=hs.entails n2;have n3:=hs.entails n3;rw[br]at n2 n3;grind
theorem aeS {P:Program} {ask:Ask σ} (ha:ca ask) {ms:Ms T} {p:Path} {t:Nat} {x:AS} {lo hi mx:Option AS} {K:Path->AS->σ->Option σ} {s s':σ} (h:Ml P ask ms p t x lo hi mx K s=some s')
 (hs:Sat T ms.f ρ p) (hx:x.lt p.nv) (fu:∀s,lo=some s->s.lt p.nv) (ir:∀s,hi=some s->s.lt p.nv) (aN:dA T (x.den ms.f ρ)):
 (qT P T t (x.den ms.f ρ) (lo.map (AS.den ms.f ρ)) (hi.map (AS.den ms.f ρ)) (mx.map (AS.den ms.f ρ))).wp (eY ms K p ρ):=by
 unfold Ml at h;split at h
 ·rename_i ht;split at h
  ·rename_i x;obtain⟨p1,v,bJ,t',h,r1,lv,e1,c1⟩:=CV h hs hx;split at h
   ·rename_i l hh h1 h2;obtain⟨l1,l2⟩:=Uq (ms:=ms) (ρ:=bJ) (n:=p1.nv) h1 (λs cS=>AS.bg r1.nv (fu s cS));obtain⟨q1,q2⟩:=Ur (ms:=ms) (ρ:=bJ) (n:=p1.nv) (z:=t'.size) h2 (λs cS=>AS.bg r1.nv (ir s cS)) (aI lv (by omega)) (by rw[au _ _ (by omega),ms.h3,c1]);have aeT:lo.map (AS.den ms.f bJ)=lo.map (AS.den ms.f ρ):=by
     cases lo with
     |none=>rfl
     |some s=>simp only[cj,r1.aK.s7 (fu s rfl)]
    have aeU:hi.map (AS.den ms.f bJ)=hi.map (AS.den ms.f ρ):=by
     cases hi with
     |none=>rfl
     |some s=>simp only[cj,r1.aK.s7 (ir s rfl)]
    obtain⟨⟨b1,b2,b3⟩,s1,h⟩:=Ut ha h r1.sat;rw[au _ _ (by omega),ms.h3,c1]at b3;rw[aeT]at l1;rw[aeU]at q1;simp only[qT,ZM,ht,AS.den,e1,l1,q1];have rf:Reach ms p1 bJ (oc p1 (Us ms v l hh)) (bind' bJ p1.nv [.str (t'.extract (l.den (mu ms.f bJ)).toNat (hh.den (mu ms.f bJ)).toNat)]):= .fresh r1.sat _ ?_ ?_;refine⟨⟨b1,b2,b3⟩,?_⟩;have:=LZ ha h rf.sat (bQ _);rw[bS]at this;exact(this.one).reach (r1.trans rf)
    ·exact b8 (gJ ms.xt rfl (by grind)) (b8 (gX (aI (bQ _) (by omega)) (cX (bg (pA _) q2) (bg (pA _) l2))) (gV ms _ (bQ _)))
    ·have aL:=eQ bJ p1.nv [C.str (t'.extract (l.den (mu ms.f bJ)).toNat (hh.den (mu ms.f bJ)).toNat)];refine aJ.append (gI ms.xt rfl ⟨bJ v,(l.den (mu ms.f bJ)).toNat,(hh.den (mu ms.f bJ)).toNat,by simp[aL v lv,bS,c1]⟩) (aJ.append (gW ?_) (gU ms _ _));rw[au _ _ (by omega),bS,ms.h3,br,aL.dE l2,aL.dE q2];simp only[aA,Qc];omega
   grind
  grind
 ·rename_i e' ht;split at h
  ·rename_i e v hr;obtain⟨r1,r2⟩:=Gu (f:=ms.f) (ρ:=ρ) hr hx;split at h
   ·rename_i l hh h1 h2;obtain⟨l1,l2⟩:=Uq (ms:=ms) (ρ:=ρ) (n:=p.nv) h1 fu;obtain⟨q1,q2⟩:=Ur (ms:=ms) (ρ:=ρ) (n:=p.nv) (z:=(ah (ρ v)).length) h2 ir (aI r2 (by omega)) (by rw[au _ _ (by omega),ms.h2]);split at h
    ·rename_i hc;obtain⟨⟨b1,b2,b3⟩,s1,h⟩:=Ut ha h hs;rw[au _ _ (by omega),ms.h2]at b3;have key:qT P T t (x.den ms.f ρ) (lo.map (AS.den ms.f ρ)) (hi.map (AS.den ms.f ρ)) none=
      .ck (0<=l.den (mu ms.f ρ)/\l.den (mu ms.f ρ)<=hh.den (mu ms.f ρ)/\hh.den (mu ms.f ρ)<=(ah (ρ v)).length)
       (.one (.c (.sl e (((ah (ρ v)).drop (l.den (mu ms.f ρ)).toNat).take ((hh.den (mu ms.f ρ)).toNat-(l.den (mu ms.f ρ)).toNat))))):=by
      unfold qT;rw[ht];simp only[r1,l1,q1,hc,wg,cJ]
     simp only[ZM,key];refine⟨⟨b1,b2,b3⟩,_,_,_,_,bind' ρ p.nv [.sl e (((ah (ρ v)).drop (l.den (mu ms.f ρ)).toNat).take ((hh.den (mu ms.f ρ)).toNat-(l.den (mu ms.f ρ)).toNat))],h, .fresh hs _ ?_ ?_,bQ _,?_⟩
     ·refine b8 (aeQ hs r2) ?_;exact b8 (gJ (ms.ta e) rfl (by grind)) (b8 (gX (aI (bQ _) (by omega)) (cX (bg (pA _) q2) (bg (pA _) l2))) (gV ms _ (bQ _)))
     ·have aL:=eQ ρ p.nv [C.sl e (((ah (ρ v)).drop (l.den (mu ms.f ρ)).toNat).take ((hh.den (mu ms.f ρ)).toNat-(l.den (mu ms.f ρ)).toNat))];refine aJ.append (aeR hs r2 (GH aN r1).1 _) ?_;refine aJ.append (gI (ms.ta e) rfl ⟨ρ v,(l.den (mu ms.f ρ)).toNat,(hh.den (mu ms.f ρ)).toNat-(l.den (mu ms.f ρ)).toNat,by simp[aL v r2,bS]⟩) (aJ.append (gW ?_) (gU ms _ _));rw[au _ _ (by omega),bS,ms.h2,br,aL.dE l2,aL.dE q2];rw[df,Bo,EI];omega
     ·simp only[AS.den,AX.den,bS,ah]
    grind
   grind
  grind
 grind
end
end Go.Pv
namespace Go.Pv
open Go
noncomputable section
variable {T:ay} {σ:Type} {f:Nat->C->Int} {ρ:Kr} {n:Nat}
def Mm (p:Path) (x:AS) (j:Nat) (K:Path->AS->σ->Option σ) (s:σ):Option σ:=
 match x with
 | .bj l=>
  (match l[j]?with
  |some (true,l)=>K p (.agg l) s
  |some (false,[x])=>K p (.one x) s
  |_=>none)
 |_=>none
theorem aeV {ms:Ms T} {p:Path} {x:AS} {j:Nat} {K:Path->AS->σ->Option σ} {s s':σ} (h:Mm p x j K s=some s') (hs:Sat T ms.f ρ p) (hx:x.lt p.nv):
 (sA (x.den ms.f ρ) j).wp (eY ms K p ρ):=by
 unfold Mm at h;split at h
 ·rename_i l;split at h
  ·rename_i l' hl;have e:(l.map λp=>(p.1,p.2.map (AX.den ms.f ρ)))[j]?=some (true,l'.map (AX.den ms.f ρ)):=by simp[hl]
   simp only[AS.den,sA,e];exact⟨p,_,_,_,ρ,h, .refl hs,hx _ (aY hl),rfl⟩
  ·rename_i x' hl;have e:(l.map λp=>(p.1,p.2.map (AX.den ms.f ρ)))[j]?=some (false,[x'.den ms.f ρ]):=by simp[hl]
   simp only[AS.den,sA,e];exact⟨p,_,_,_,ρ,h, .refl hs,hx _ (aY hl) x' (by simp),rfl⟩
  grind
 grind
def rQ:Kd->Nat->AX
 | .int k,y=> .int k (af 0 y)
 | .bool,y=> .bool (.var y)
 | .str,y=> .str y
 | .sl e,y=> .sl e y
 | .ptr,_=> .aD
 | .any,_=> .any
def iM:List Kd->Nat->List AX
 |[],_=>[]
 |k::ks,y=>rQ k y::iM ks (y+1)
theorem C3 (ms:Ms T) {k:Kd} (hk:cR [k]=true) (y:Nat):(rQ k y).den ms.f ρ= .c (lY k (ρ y)):=by
 cases k with
 |int k=>simp only[rQ,AX.den,au _ _ (show 0<64 by omega),ms.h0,lY]
 |ptr=>simp[cR]at hk
 |_=>rfl
theorem GP {k:Kd} {y:Nat} (h:y<n):(rQ k y).lt n:=by
 cases k with
 |int k=>exact aI h (by omega)
 |ptr=>trivial
 |any=>trivial
 |_=>exact h
theorem GQ:∀{ks:amQ} {y:Nat},y+ks.length<=n->∀x∈iM ks y,x.lt n
 |[],_,_=>λx hx=>by cases hx
 |k::ks,y,h=>λx hx=>by
  simp only[eH]at h;simp only[iM,az]at hx;rcases hx with rfl|hx
  ·exact GP (by omega)
  ·exact GQ (y:=y+1) (by omega) x hx
theorem Mn (ms:Ms T) {rows:Y9} {i:Nat}:∀{ks:amQ} {y off:Nat},cR ks=true->(∀j,j<ks.length->ρ (y+j)=cellAt rows i (off+j))->
 (iM ks y).map (AX.den ms.f ρ)=fC rows i off ks
 |[],_,_,_,_=>rfl
 |k::ks,y,off,hk,h=>by
  have bV:cR [k]=true/\cR ks=true:=by simp only[cR,ug,aB,Qm,lU]at hk⊢;exact hk
  simp only[iM,bu,fC];rw[C3 ms bV.1,Mn ms bV.2 (y:=y+1) (off:=off+1) λj hj=>?_]
  ·have:=h 0 (by simp);simp only[jy]at this;rw[this]
  ·have:=h (j+1) (by grind);grind
def GR (p:Path) (x:AX) (K:Path->AS->σ->Option σ) (s:σ):Option σ:=
 match x with
 | .aD=>none
 | .int k e=>K (p.ext 0 (vl k e)) (.one (.int k e)) s
 |x=>K p (.one x) s
theorem Uu {ms:Ms T} {p:Path} {x:AX} {K:Path->AS->σ->Option σ} {s s':σ} (h:GR p x K s=some s') (hs:Sat T ms.f ρ p) (hx:x.lt p.nv):(R.oL (x.den ms.f ρ)).wp (eY ms K p ρ):=by
 unfold GR at h;split at h
 ·cases h
 ·exact λhf=>⟨_,_,_,_,ρ,h, .more hs (Gj hx) (Gi hf),hx,rfl⟩
 ·rename_i h1 h2;have key:R.oL (x.den ms.f ρ)= .v (.one (x.den ms.f ρ)):=by cases x<;>first|rfl|exact(h1 rfl).elim|grind
  rw[key];exact⟨p,_,_,_,ρ,h, .refl hs,hx,rfl⟩
def AX.ids:AX->List Nat
 | .ptr b _=>[b]
 | .cd b _=>[b]
 | .gb b _ _ _=>[b]
 | .cn _ b _=>[b]
 | .cq _ b _=>[b]
 |_=>[]
theorem GS (x:AX):(x.den f ρ).ids=x.ids:=by cases x<;>rfl
def C4 (_:amQ) (_:amV):Bool:=true
theorem GU (ks:amQ) (l:amV):wq ks (l.map (AX.den f ρ))=C4 ks l:=by rfl
def Mo:AS->Option (Nat×Nat)
 | .one (.ptr b off)=>some (b,off)
 | .one (.cd b off)=>some (b,off)
 |_=>none
theorem aeW {s:AS} {q:Nat×Nat} (h:Mo s=some q):(s.den f ρ).bp=some q:=by
 unfold Mo at h;split at h
 ·assumption
 ·assumption
 grind
def GV (T:ay) (ag:Bool) (p:Path) (t e x off:Nat) (i:aa) (K:Path->AS->σ->Option σ) (s:σ):Option σ:=
 match ag with
 |true=>if((T e).drop off).take (T t).length=T t/\(T t).isEmpty=false/\cR (T t)=true then
  (match k7 p e x i with|some b=>K p (.agg (iM (T t) (b+off))) s|none=>none)
  else none
 |false=>(match(T e)[off]?with
  |some k=>if cR [k]then(match k7 p e x i with|some b=>GR p (rQ k (b+off)) K s|none=>none)else none
  |none=>none)
def Mp (P:Program) (T:ay) (ask:Ask σ) (ms:Ms T) (p:Path) (t:Nat) (a:AS) (K:Path->AS->σ->Option σ) (s:σ):Option σ:=
 match kq P t with
 |none=>none
 |some ag=>
  match a with
  | .one (.bz e x i off)=>GV T ag p t e x off i K s
  | .one (.gb b w i off)=>
   (match je p.st.boxes b with
   |some (some (.rows e w' x))=>
    if w'=w/\((T e).drop off).take (T t).length=T t/\(T t).isEmpty=false/\cR (T t)=true then
     gT ask p.Γ i (gT ask p.Γ (((af 2 x).sub i).bI (-1)) (zU ms p e x i λp s=>GV T ag p t e x off i K s)) s
    else none
   |_=>none)
  |a=>
   match Mo a with
   |some (b,off)=>
    (match je p.st.boxes b with
    |some (some (.cells l))=>
     (match ag with
     |true=>if off+(T t).length<=l.length/\(T t).isEmpty=false/\C4 (T t) ((l.drop off).take (T t).length)=true then K p (.agg ((l.drop off).take (T t).length)) s else none
     |false=>(match l[off]?with|some x=>if C4 (T t) [x]=true then GR p x K s else none|none=>none))
    |_=>none)
   |none=>none
theorem pa {st:aw} {b:Nat} {l:AK} (h:st.boxes[b]?=some (some l)):(st.den f ρ).boxes[b]?=some (some (l.den f ρ)):=by simp[aw.den,h]
theorem aeX {e i off:Nat} {rows:Y9} {ks:amQ} (hk:∀r∈rows,r.map C.kd=T e) (hi:i<rows.length) (fP:((T e).drop off).take ks.length=ks) (al:ks≠[]):
 ((dC (T e).length rows).drop (i*(T e).length+off)).take ks.length=fC rows i off ks/\i*(T e).length+off+ks.length<=(dC (T e).length rows).length:=by
 have hlen:off+ks.length<=(T e).length:=by have:=ll List.length fP;simp only[Bo,EI]at this;have h0:0<ks.length:=lT.2 al;omega
 have hmul:i*(T e).length+(T e).length<=rows.length*(T e).length:=by have:(i+1)*(T e).length<=rows.length*(T e).length:=eh _ hi;rw[en]at this;omega
 refine⟨?_,by rw[oR];omega⟩;apply oD;intro j;rw[fi,fa,BG];by_cases hj:j<ks.length
 ·rw[aC hj,uH (by omega),aP hj];have hw:0<(T e).length:=by omega
  have e1:(i*(T e).length+off+j)/(T e).length=i:=by rw[oB,oE,ZN hw,EH (by omega)];omega
  have e2:(i*(T e).length+off+j)%(T e).length=off+j:=by rw[oB,oE,Nat.mul_add_mod,Bj (by omega)]
  rw[e1,e2];simp only[cj,ae,X.c.injEq];symm;apply yK;have hr:=hk _ (fz hi);have ti:off+j<(rows[i]).length:=by have:=ll List.length hr;simp only[dI]at this;omega
  simp only[cellAt,aZ,aP hi,fh,aP ti];grind
 grind
theorem Uv {P:Program} {ms:Ms T} {p:Path} {ag:Bool} {t e x off:Nat} {i:aa} {K:Path->AS->σ->Option σ} {s s':σ} (h:GV T ag p t e x off i K s=some s') (hs:Sat T ms.f ρ p)
 (h1:kq P t=some ag) {st:St}:(dU P T st t (.one (.bz e (ah (ρ x)) (i.den (mu ms.f ρ)).toNat off))).wp (eY ms K p ρ):=by
 unfold GV at h;split at h
 ·split at h
  ·rename_i hc;split at h
   ·rename_i b hb;have hm:=og hb hs;have hlen:off+(T t).length<=(T e).length:=by
     have:=ll List.length hc.1;simp only[Bo,EI]at this;have al:(T t).length≠0:=by intro h0;rw[jz]at h0;rw[h0]at hc;simp at hc
     omega
    simp only[dU,h1,S.bp];rw[aC hc];refine⟨p,_,_,_,ρ,h, .refl hs,GQ (by have:=hm.b;grind),?_⟩;simp only[AS.den];rw[Mn ms hc.2.2 λj hj=>?_];rw[oB];exact hm.row.cell (off+j) (by grind)
   grind
  grind
 ·split at h
  ·rename_i k hk;split at h
   ·rename_i hc;split at h
    ·rename_i b hb;have hm:=og hb hs;have uC:off<(T e).length:=by
      rcases aT off (T e).length with h'|h'
      ·omega
      ·grind
     simp only[dU,h1,S.bp,hk];rw[aC hc];have:=Uu h hs (GP (by have:=hm.b;grind));rw[C3 ms hc,hm.row.cell off uC]at this;omega
    grind
   grind
  grind
theorem Uw {e b:Nat} {rows:Y9} {st:St} (hk:∀r∈rows,r.map C.kd=T e) (aR:st.boxes[b]?=some (some (dC (T e).length rows))) (aU:cA T st):∀r∈rows,∀c∈r,bN T c:=by
 intro r hr c dF;obtain⟨j,hj⟩:=jP hr;obtain⟨k,bV⟩:=jP dF;have qX:j<(rows).length:=by
  rcases aT j (rows).length with h'|h'
  ·omega
  ·grind
 have jr:k<(T e).length:=by
  rw[<-hk r hr,dI];rcases aT k r.length with h'|h'
  ·omega
  ·grind
 have hmul:j*(T e).length+(T e).length<=(rows).length*(T e).length:=by have:(j+1)*(T e).length<=(rows).length*(T e).length:=eh _ qX;rw[en]at this;omega
 have hf:=uH (n:=(T e).length) (rows:=rows) (m:=j*(T e).length+k) (by omega);have hw:0<(T e).length:=by omega
 have e1:(j*(T e).length+k)/(T e).length=j:=by rw[oE,ZN hw,EH jr];omega
 have e2:(j*(T e).length+k)%(T e).length=k:=by rw[oE,Nat.mul_add_mod,Bj jr]
 rw[e1,e2]at hf;have aeY:cellAt (rows) j k=c:=by simp[cellAt,aZ,hj,bV]
 rw[aeY]at hf;exact aU.boxes _ (aY aR) _ (aY hf)
theorem aeZ {P:Program} {ask:Ask σ} (rR:ca ask) {ms:Ms T} {p:Path} {t:Nat} {a:AS} {K:Path->AS->σ->Option σ} {s s':σ} (h:Mp P T ask ms p t a K s=some s') (hs:Sat T ms.f ρ p) (ha:a.lt p.nv)
 (aU:cA T (p.st.den ms.f ρ)):(dU P T (p.st.den ms.f ρ) t (a.den ms.f ρ)).wp (eY ms K p ρ):=by
 unfold Mp at h;simp only[gF]at h;split at h
 ·cases h
 ·rename_i ag h1;split at h
  ·exact Uv h hs h1
  ·rename_i b w i off;split at h
   ·rename_i e w' x hb;split at h
    ·rename_i hc;obtain⟨rfl,c1,c2,c3⟩:=hc;obtain⟨n1,s1,h⟩:=ix rR h;obtain⟨n2,s2,h⟩:=ix rR h;have n1:=hs.entails n1;have n2:=hs.entails n2;rw[cO,br,au _ _ (by omega),ms.h2]at n2;have mZ:=aY hb;have hx:x<p.nv:=hs.st.boxes _ mZ;obtain⟨rfl,hk⟩:=hs.wk e _ x mZ;have aR:=pa (f:=ms.f) (ρ:=ρ) hb;simp only[AK.den]at aR;have hi:(i.den (mu ms.f ρ)).toNat<(ah (ρ x)).length:=by omega
     have fp:=Uw hk aR aU;obtain⟨p',ai,bV,hr,_⟩:=GG h hs hx ha n1 hi hk fp;have hT:T t≠[]:=by intro e0;rw[e0]at c2;simp at c2
     obtain⟨f1,f2⟩:=aeX hk hi c1 hT;have key:=Uv (st:=p.st.den ms.f ρ) bV hr.sat h1;rw[hr.aK x hx,hr.aK.dE (show i.lt p.nv from ha)]at key;have key:=R.wp_mono (λs hg=>eY.reach hr hg) key;cases ag with
     |true=>
      have:dU P T (p.st.den ms.f ρ) t ((AS.one (.gb b (T e).length i off)).den ms.f ρ)= .v (.agg (fC (ah (ρ x)) (i.den (mu ms.f ρ)).toNat off (T t))):=by simp only[dU,h1,AS.den,AX.den,S.bp,aR,f1];rw[aC ⟨f2,c2,rfl⟩]
      rw[this];simp only[dU,h1,S.bp]at key;grind
     |false=>
      obtain⟨k0,GW,C5⟩:∃k ks,T t=k::ks:=by
       cases hh:T t with
       |nil=>grind
       |cons k ks=>grind
      have uC:(T e)[off]?=some k0:=by
       have h2:(((T e).drop off).take (T t).length)[0]?=some k0:=by rw[c1,C5];rfl
       rw[fi,aC (by grind),fa]at h2;simpa using h2
      have iC:cR [k0]=true:=by rw[C5]at c3;simp only[cR,ug,aB,Qm,lU]at c3⊢;exact c3.1
      have C6:(dC (T e).length (ah (ρ x)))[(i.den (mu ms.f ρ)).toNat*(T e).length+off]?=some (.c (lY k0 (cellAt (ah (ρ x)) (i.den (mu ms.f ρ)).toNat off))):=by
       have h2:(((dC (T e).length (ah (ρ x))).drop ((i.den (mu ms.f ρ)).toNat*(T e).length+off)).take (T t).length)[0]?=(fC (ah (ρ x)) (i.den (mu ms.f ρ)).toNat off (T t))[0]?:=by rw[f1]
       rw[BG,fi,aC (by grind),fa,C5]at h2;simpa using h2
      have:dU P T (p.st.den ms.f ρ) t ((AS.one (.gb b (T e).length i off)).den ms.f ρ)=R.oL (.c (lY k0 (cellAt (ah (ρ x)) (i.den (mu ms.f ρ)).toNat off))):=by simp only[dU,h1,AS.den,AX.den,S.bp,aR,C6,wq,cJ]
      rw[this];simp only[dU,h1,S.bp,uC]at key;grind
    grind
   grind
  ·split at h
   ·rename_i b off BH;split at h
    ·rename_i l hb;have aR:=pa (f:=ms.f) (ρ:=ρ) hb;simp only[AK.den]at aR;have Ux:=aeW (f:=ms.f) (ρ:=ρ) BH;have aj:=hs.st.boxes _ (aY hb);split at h
     ·split at h
      ·rename_i hc;simp only[dU,h1,Ux,aR,dI];rw[<-Bp,<-Bq,GU,aC hc];refine⟨p,_,_,_,ρ,h, .refl hs,λx hx=>aj x (mK (nE hx)),?_⟩;rfl
      grind
     ·split at h
      ·rename_i x hx;split at h
       ·rename_i hc;have cW:(l.map (AX.den ms.f ρ))[off]?=some (x.den ms.f ρ):=by simp[hx]
        have dF:wq (T t) [x.den ms.f ρ]=true:=by rw[<-GU (f:=ms.f) (ρ:=ρ)]at hc;exact hc
        simp only[dU,h1,Ux,aR,cW,dF,cJ];exact Uu h hs (aj x (aY hx))
       grind
      grind
    grind
   grind
def tk (l:amV) (o:Nat):List AX->List AX
 |[]=>l
 |x::r=>tk (l.set o x) (o+1) r
theorem C7:∀(r l:amV) (o:Nat),(tk l o r).map (AX.den f ρ)=gD (l.map (AX.den f ρ)) o (r.map (AX.den f ρ))
 |[],l,o=>rfl
 |x::r,l,o=>by simp only[tk,bu,gD];rw[C7 r,Br]
theorem GX:∀{r l:amV} {o:Nat},(∀x∈l,x.lt n)->(∀x∈r,x.lt n)->∀x∈tk l o r,x.lt n
 |[],l,o,h,_=>h
 |y::r,l,o,h,h'=>GX (r:=r) (λx hx=>by
  grind) (λx hx=>h' x (by grind))
def tl:AS->Option (List AX)
 | .one .aD=>none
 | .one x=>some [x]
 | .agg l=>some l
 | .bj _=>none
theorem C8 {s:AS} {l:amV} (h:tl s=some l):(s.den f ρ).cells=some (l.map (AX.den f ρ)):=by
 unfold tl at h;split at h
 ·cases h
 ·rename_i x hx;simp only[ae]at h;subst h;cases x<;>first|rfl|grind
 ·simp only[ae]at h;subst h;rfl
 grind
theorem C9 {s:AS} {l:amV} (h:tl s=some l) (hs:s.lt n):∀x∈l,x.lt n:=by
 unfold tl at h;split at h
 ·cases h
 ·simp only[ae]at h;subst h;intro x hx;simp only[a8]at hx;subst hx;exact hs
 ·simp only[ae]at h;subst h;exact hs
 grind
def vo:Kd->AX
 | .int k=> .int k (.const 0)
 | .bool=> .bool (.lit false)
 | .str=> .lit ByteArray.empty
 | .sl _=> .bc
 | .ptr=> .hH
 | .any=> .any
theorem ae0 (k:Kd):(vo k).den f ρ=mS k:=by cases k<;>simp[vo,AX.den,AB.den,mS,cg]
theorem ae1 (k:Kd):(vo k).lt n:=by
 cases k with
 |int k=>exact dY _ _
 |_=>trivial
theorem Mq (ks:amQ):(ks.map vo).map (AX.den f ρ)=ks.map mS:=by rw[da];exact cK λk _=>ae0 k
theorem Mr (ks:amQ):∀x∈ks.map vo,x.lt n:=λx hx=>by obtain⟨k,_,rfl⟩:=aF.1 hx;exact ae1 k
def Da (P:Program) (T:ay) (t:Nat):List (Nat×AS)->List AX->Option (List AX)
 |[],acc=>some acc
 |(fd,s)::rest,acc=>
  match ur P T t fd,tl s with
  |some (o,ft),some l=>if l.length=(T ft).length/\o+l.length<=acc.length then Da P T t rest (tk acc o l)else none
  |_,_=>none
theorem Uy {P:Program} {t:Nat}:∀{parts:List (Nat×AS)} {acc l:amV},Da P T t parts acc=some l->(∀q∈parts,q.2.lt n)->(∀x∈acc,x.lt n)->
 nH P T t (parts.map λq=>(q.1,q.2.den f ρ)) (acc.map (AX.den f ρ))=some (l.map (AX.den f ρ))/\∀x∈l,x.lt n
 |[],acc,l,h,_,ha=>by simp only[Da,ae]at h;subst h;exact⟨rfl,ha⟩
 |(fd,s)::rest,acc,l,h,hp,ha=>by
  simp only[Da]at h;split at h
  ·rename_i o ft lx h1 h2;split at h
   ·rename_i hc;have nI:=C9 h2 (hp (fd,s) (by simp));obtain⟨i1,i2⟩:=Uy h (λq hq=>hp q (by grind)) (GX ha nI);refine⟨?_,i2⟩;simp only[bu,nH,h1,C8 h2,dI];rw[aC hc,<-C7];omega
   grind
  grind
def Mt (P:Program) (T:ay) (p:Path) (t:Nat) (parts:List (Nat×AS)) (K:Path->AS->σ->Option σ) (s:σ):Option σ:=
 if wo T t then none else
 match P.underlying t,Da P T t parts ((T t).map vo)with
 |some (.struct _),some l=>K p (.agg l) s
 |_,_=>none
theorem ae2 {P:Program} {ms:Ms T} {p:Path} {t:Nat} {parts:List (Nat×AS)} {K:Path->AS->σ->Option σ} {s s':σ} (h:Mt P T p t parts K s=some s') (hs:Sat T ms.f ρ p) (hp:∀q∈parts,q.2.lt p.nv):
 (ux P T t (parts.map λq=>(q.1,q.2.den ms.f ρ))).wp (eY ms K p ρ):=by
 unfold Mt at h;split at h
 ·cases h
 ·rename_i al;split at h
  ·rename_i l h1 h2;obtain⟨i1,i2⟩:=Uy (f:=ms.f) (ρ:=ρ) h2 hp (Mr _);rw[Mq]at i1;unfold ux;rw[aQ al,h1,i1];exact⟨p,_,_,_,ρ,h, .refl hs,i2,rfl⟩
  grind
def Mu (P:Program) (ask:Ask σ) (p:Path) (c:Call) (K:Path->AS->σ->Option σ) (s:σ):Option σ:=
 match c.callee with
 | .builtin .len=>
  (match c.args.toList,c.argTypes.toList with
  |[x],[t]=>Ma P p t (cY p.st x) K s
  |_,_=>none)
 | .builtin .max=>
  (match c.args.toList with
  |[x,y]=>GB ask true p (cY p.st x) (cY p.st y) K s
  |_=>none)
 | .builtin .min=>
  (match c.args.toList with
  |[x,y]=>GB ask false p (cY p.st x) (cY p.st y) K s
  |_=>none)
 |_=>none
theorem Uz (v:Value):dA T (lZ v):=by
 unfold lZ;split
 ·split
  ·rename_i hc;exact bN.int _ _ hc
  ·exact trivial
 ·exact bN.bool _
 ·split
  ·rename_i hc;exact bN.str _ hc
  ·exact trivial
 ·exact trivial
 ·exact trivial
 ·exact trivial
theorem ae3 (v:Value):dA T (ofConst v):=by
 unfold ofConst;split
 ·split
  ·intro x hx;obtain⟨u,_,rfl⟩:=aF.1 hx;have h:=Uz (T:=T) u;obtain⟨y,hy⟩:=wu u;rw[hy]at h⊢;exact h
  ·exact trivial
 ·exact Uz v
theorem Db {st:St} (h:cA T st) (o:Operand):dA T (ev st o):=by
 cases o with
 |tmp t=>
  simp only[ev,St.get,aZ];cases hq:st.aq[t]?with
  |none=>exact trivial
  |some s=>exact h.aq s (aY hq)
 |const v=>exact ae3 v
 |_=>exact trivial
theorem ae4 {P:Program} {ask:Ask σ} (ha:ca ask) {ms:Ms T} {p:Path} {c:Call} {K:Path->AS->σ->Option σ} {s s':σ} (h:Mu P ask p c K s=some s') (hs:Sat T ms.f ρ p):
 (uy P (p.st.den ms.f ρ) c).wp (eY ms K p ρ):=by
 unfold Mu at h;unfold uy;split at h
 ·rename_i hc;split at h
  ·rename_i x t h1 h2;rw[hc];simp only[h1,h2,<-dZ];exact aeC h hs (fS hs.st _)
  grind
 ·rename_i hc;split at h
  ·rename_i x y h1;rw[hc];simp only[h1,<-dZ];exact Ud ha h hs (fS hs.st _) (fS hs.st _)
  grind
 ·rename_i hc;split at h
  ·rename_i x y h1;rw[hc];simp only[h1,<-dZ];exact Ud ha h hs (fS hs.st _) (fS hs.st _)
  grind
 grind
def zY (P:Program) (ask:Ask σ) (ms:Ms T) (p:Path) (op:Op) (K:Path->AS->σ->Option σ) (s:σ):Option σ:=
 match op with
 | .move x| .assign x=>K p (cY p.st x) s
 | .binOp op t x y _=>L7 P ask ms p op t (cY p.st x) (cY p.st y) K s
 | .unOp op _ x=>L8 ask p op (cY p.st x) K s
 | .convert a d x=>L9 P ask ms p a d (cY p.st x) K s
 | .nilCheck x=>Md p (cY p.st x) K s
 | .fieldAddr t x fd=>Me P T p t (cY p.st x) fd K s
 | .indexAddr t x i=>Mh P ask ms p t (cY p.st x) (cY p.st i) K s
 | .index t x i=>Mi P ask p t (cY p.st x) (cY p.st i) K s
 | .slice t x lo hi mx=>Ml P ask ms p t (cY p.st x) (lo.map (cY p.st)) (hi.map (cY p.st)) (mx.map (cY p.st)) K s
 | .extract x j=>Mm p (cY p.st x) j K s
 | .load t x=>Mp P T ask ms p t (cY p.st x) K s
 | .build t parts=>Mt P T p t (parts.toList.map λq=>(q.1,cY p.st q.2)) K s
 | .call c=>Mu P ask p c K s
 |_=>none
theorem UA {P:Program} {ask:Ask σ} (ha:ca ask) {ms:Ms T} {p:Path} {op:Op} {K:Path->AS->σ->Option σ} {s s':σ} (h:zY P ask ms p op K s=some s') (hs:Sat T ms.f ρ p) (aU:cA T (p.st.den ms.f ρ)):
 (fW P T (p.st.den ms.f ρ) op).wp (eY ms K p ρ):=by
 have ol:∀(o:Option Operand) s,o.map (cY p.st)=some s->s.lt p.nv:=λo s ho=>by
  cases o with
  |none=>grind
  |some x=>simp only[cj,ae]at ho;subst ho;exact fS hs.st _
 have om:∀(o:Option Operand),(o.map (cY p.st)).map (AS.den ms.f ρ)=o.map (ev (p.st.den ms.f ρ)):=λo=>by
  cases o with
  |none=>rfl
  |some x=>simp only[cj,dZ]
 unfold zY at h;unfold fW;split at h<;>(try dsimp only)
 ·rw[<-dZ];exact⟨p,_,_,_,ρ,h, .refl hs,fS hs.st _,rfl⟩
 ·rw[<-dZ];exact⟨p,_,_,_,ρ,h, .refl hs,fS hs.st _,rfl⟩
 ·simp only[<-dZ];exact aez ha h hs (fS hs.st _) (fS hs.st _)
 ·simp only[<-dZ];exact aeA ha h hs (fS hs.st _)
 ·simp only[<-dZ];exact aeB ha h hs (fS hs.st _)
 ·simp only[<-dZ];exact aeD h hs (fS hs.st _)
 ·simp only[<-dZ];exact aeE h hs (fS hs.st _)
 ·simp only[<-dZ];exact aeM ha h hs (fS hs.st _) (fS hs.st _) (by rw[dZ];exact Db aU _)
 ·simp only[<-dZ];exact aeO ha h hs (fS hs.st _) (fS hs.st _)
 ·rw[<-dZ,<-om,<-om,<-om];exact aeS ha h hs (fS hs.st _) (ol _) (ol _) (by rw[dZ];exact Db aU _)
 ·simp only[<-dZ];exact aeV h hs (fS hs.st _)
 ·simp only[<-dZ];exact aeZ ha h hs (fS hs.st _) aU
 ·rename_i t parts;have:=ae2 h hs (λq hq=>by
   simp only[aF]at hq;obtain⟨q',_,rfl⟩:=hq;simp_all)
  simp only[da,pz,dZ]at this;omega
 ·exact ae4 ha h hs
 grind
end
end Go.Pv
namespace Go.Pv
open Go
noncomputable section
variable {T:ay} {σ:Type} {f:Nat->C->Int} {ρ:Kr} {n:Nat}
def aw.put (st:aw) (d:amR) (v:AS):aw:=
 match d with
 |some d=>{st with aq:=CJ v st.aq d}
 |none=>st
def Path.put (p:Path) (d:amR) (v:AS):Path:={p with st:=p.st.put d v}
theorem k8 (st:aw) (d:amR) (v:AS):(st.put d v).den f ρ=(st.den f ρ).put d (v.den f ρ):=by
 cases d with
 |none=>rfl
 |some d=>simp only[aw.put,vg,aw.den,St.put,Br]
theorem xM {st:aw} (h:st.lt n) (d:amR) {v:AS} (hv:v.lt n):(st.put d v).lt n:=by
 cases d with
 |none=>exact h
 |some d=>
  refine⟨λs hs=>?_,h.boxes⟩;simp only[aw.put,vg]at hs;rcases oF hs with h1|h1
  ·exact h.aq s h1
  grind
def Wk (T:ay) (ρ:Kr) (st:aw):Prop:=∀e w x,some (.rows e w x)∈st.boxes->w=(T e).length/\∀r∈ah (ρ x),r.map C.kd=T e
theorem Sat.ke {p:Path} (h:Sat T f ρ p) {st:aw} (aU:st.lt p.nv) (hw:Wk T ρ st):Sat T f ρ {p with st:=st}:=⟨aU,h.lt,h.facts,hw,h.gH,h.gh,h.sn⟩
theorem Wk.put {st:aw} (h:Wk T ρ st) (d:amR) (v:AS):Wk T ρ (st.put d v):=by cases d<;>exact h
theorem Wk.aK {st:aw} (h:Wk T ρ st) (hs:st.lt n) {ai:Kr} (ha:cu n ρ ai):Wk T ai st:=λe w x hx=>by rw[ha x (hs.boxes _ hx)];exact h e w x hx
theorem Sat.put {p:Path} (h:Sat T f ρ p) (d:amR) {v:AS} (hv:v.lt p.nv):Sat T f ρ (p.put d v):=h.ke (xM h.st d hv) (Wk.put h.wk d v)
def ie (ms:Ms T) (K:Path->σ->Option σ) (p:Path) (ρ:Kr) (st:St):Prop:=
 ∃p' s1 s2 ai,K p' s1=some s2/\Sat T ms.f ai p'/\p.nv<=p'.nv/\cu p.nv ρ ai/\p'.st.den ms.f ai=st
def xN (d:amR) (K:Path->σ->Option σ):Path->AS->σ->Option σ:=λp v=>K (p.put d v)
theorem eY.put {ms:Ms T} {K:Path->σ->Option σ} {p:Path} {d:amR} {v:S} (h:eY ms (xN d K) p ρ v) (hs:Sat T ms.f ρ p):ie ms K p ρ ((p.st.den ms.f ρ).put d v):=by obtain⟨p',w,s1,s2,ai,h1,h2,h3,rfl⟩:=h;refine⟨_,s1,s2,ai,h1,h2.sat.put d h3,h2.nv,h2.aK,?_⟩;rw[Path.put,k8,h2.st,h2.aK.st hs.st]
def AB.ite (c a b:AB):AB:=
 match a,b with
 |_, .lit false=> .and c a
 | .lit true,_=> .or c b
 |_,_=> .or (.and c a) (.and (.mkNot c) b)
theorem UB (c a b:AB):(AB.ite c a b).den f ρ=if c.den f ρ then a.den f ρ else b.den f ρ:=by
 unfold AB.ite;split
 ·simp only[AB.den];grind
 ·simp only[AB.den];grind
 ·simp only[AB.den,xI];grind
theorem UC {c a b:AB} (hc:c.lt n) (ha:a.lt n) (hb:b.lt n):(AB.ite c a b).lt n:=by
 unfold AB.ite;split
 ·exact⟨hc,ha⟩
 ·exact⟨hc,hb⟩
 ·exact⟨⟨hc,ha⟩,xJ hc,hb⟩
def AB.iN:AB->Bool->Option aa
 | .eq e,false=>some e
 | .not b,t=>b.iN (!t)
 |_,_=>none
theorem AB.Mv {f:Nat->C->Int}:∀{b:AB} {t:Bool} {e:aa},b.iN t=some e->b.den f ρ=t->e.den (mu f ρ)≠0
 | .eq e,false,e',h,hd=>by simp only[AB.iN,ae]at h;subst h;simpa[AB.den]using hd
 | .eq e,true,e',h,hd=>by simp[AB.iN]at h
 | .not b,t,e',h,hd=>by simp only[AB.iN]at h;refine AB.Mv h ?_;simp only[AB.den]at hd;grind
 | .lit _,_,_,h,_=>by simp[AB.iN]at h
 | .le _,_,_,h,_=>by simp[AB.iN]at h
 | .var _,_,_,h,_=>by simp[AB.iN]at h
 | .and _ _,_,_,h,_=>by simp[AB.iN]at h
 | .or _ _,_,_,h,_=>by simp[AB.iN]at h
 | .seq _ _,_,_,h,_=>by simp[AB.iN]at h
theorem AB.Mw:∀{b:AB} {t:Bool} {e:aa},b.iN t=some e->b.lt n->e.lt n
 | .eq e,false,e',h,hl=>by simp only[AB.iN,ae]at h;subst h;exact hl
 | .eq e,true,e',h,_=>by simp[AB.iN]at h
 | .not b,t,e',h,hl=>by simp only[AB.iN]at h;exact AB.Mw (b:=b) h hl
 | .lit _,_,_,h,_=>by simp[AB.iN]at h
 | .le _,_,_,h,_=>by simp[AB.iN]at h
 | .var _,_,_,h,_=>by simp[AB.iN]at h
 | .and _ _,_,_,h,_=>by simp[AB.iN]at h
 | .or _ _,_,_,h,_=>by simp[AB.iN]at h
 | .seq _ _,_,_,h,_=>by simp[AB.iN]at h
def Dc (ask:Ask σ) (p:Path) (ne:Option aa) (K:Path->σ->Option σ):σ->Option σ:=
 may ask p.Γ (aa.const (-1)) λdead=>match dead with
 |true=>some
 |false=>match ne with
  |none=>K p
  |some e=>may ask p.Γ e λb=>match b with
   |true=>K (p.ext 0 [e.bI (-1)])
   |false=>may ask p.Γ e.neg λb=>match b with
    |true=>K (p.ext 0 [e.neg.bI (-1)])
    |false=>K p
theorem Mx {ask:Ask σ} (ha:ca ask) {ms:Ms T} {p:Path} {ne:Option aa} {K:Path->σ->Option σ} {s s':σ} (h:Dc ask p ne K s=some s') (hs:Sat T ms.f ρ p)
 (al:∀e,ne=some e->e.lt p.nv/\e.den (mu ms.f ρ)≠0):∃q s1 s2,K q s1=some s2/\Reach ms p ρ q ρ:=by
 obtain⟨d,s1,h,hd⟩:=qn ha h;cases d with
 |true=>have:=hs.entails (hd rfl);rw[cg]at this;omega
 |false=>
  dsimp only at h;cases ne with
  |none=>exact⟨p,_,_,h, .refl hs⟩
  |some e=>
   obtain⟨hl,hz⟩:=al e rfl;dsimp only at h;obtain⟨b,s2,h,hb⟩:=qn ha h;cases b with
   |true=>
    have:=hs.entails (hb rfl);exact⟨_,_,_,h, .more hs (λg hg=>by simp only[a8]at hg;subst hg;assumption) (λg hg=>by
     simp only[a8]at hg;subst hg;rw[cO];omega)⟩
   |false=>
    dsimp only at h;obtain⟨b,s3,h,hb⟩:=qn ha h;cases b with
    |true=>
     have:=hs.entails (hb rfl);rw[eu]at this;exact⟨_,_,_,h, .more hs (λg hg=>by simp only[a8]at hg;subst hg;exact gS _ (kY hl)) (λg hg=>by
      simp only[a8]at hg;subst hg;rw[cO,eu];omega)⟩
    |false=>exact⟨p,_,_,h, .refl hs⟩
def My (ask:Ask σ) (p:Path) (c:AB) (K1 K2:Path->σ->Option σ) (s:σ):Option σ:=
 match c with
 | .lit true=>K1 p s
 | .lit false=>K2 p s
 |c=>(match Dc ask (p.ext 0 c.pos) (c.iN true) K1 s with|some s'=>Dc ask (p.ext 0 c.neg) (c.iN false) K2 s'|none=>none)
def ig (ask:Ask σ) (p:Path) (c:AB) (K1 K2:Path->σ->Option σ):σ->Option σ:=
 match c with
 | .not b=>ig ask p b K2 K1
 | .and a b=>ig ask p a (λp=>ig ask p b K1 K2) K2
 | .or a b=>ig ask p a K1 (λp=>ig ask p b K1 K2)
 |c=>My ask p c K1 K2
theorem Dd {ask:Ask σ} (ha:ca ask) {ms:Ms T} {p:Path} {c:AB} {K1 K2:Path->σ->Option σ} {s s':σ} (h:My ask p c K1 K2 s=some s') (hs:Sat T ms.f ρ p) (hc:c.lt p.nv):
 (c.den ms.f ρ=true->∃q s1 s2,K1 q s1=some s2/\Reach ms p ρ q ρ)/\(c.den ms.f ρ=false->∃q s1 s2,K2 q s1=some s2/\Reach ms p ρ q ρ):=by
 unfold My at h;split at h
 ·exact⟨λ_=>⟨p,_,_,h, .refl hs⟩,λe=>by cases e⟩
 ·exact⟨λe=>(by cases e),λ_=>⟨p,_,_,h, .refl hs⟩⟩
 ·split at h
  ·rename_i s1 h1;refine⟨λe=>?_,λe=>?_⟩
   ·have r:Reach ms p ρ (p.ext 0 c.pos) ρ:= .more hs (AB.Gd hc) (AB.Gb ms.hb e);obtain⟨q,s2,s3,hk,hr⟩:=Mx ha h1 r.sat λe' he=>⟨AB.Mw he hc,AB.Mv he e⟩
    exact⟨q,s2,s3,hk,r.trans hr⟩
   ·have r:Reach ms p ρ (p.ext 0 c.neg) ρ:= .more hs (AB.Ge hc) (AB.Gc ms.hb e);obtain⟨q,s2,s3,hk,hr⟩:=Mx ha h r.sat λe' he=>⟨AB.Mw he hc,AB.Mv he e⟩
    exact⟨q,s2,s3,hk,r.trans hr⟩
  grind
theorem nh {ask:Ask σ} (ha:ca ask) {ms:Ms T}:∀{c:AB} {p:Path} {K1 K2:Path->σ->Option σ} {s s':σ},ig ask p c K1 K2 s=some s'->Sat T ms.f ρ p->c.lt p.nv->
 (c.den ms.f ρ=true->∃q s1 s2,K1 q s1=some s2/\Reach ms p ρ q ρ)/\(c.den ms.f ρ=false->∃q s1 s2,K2 q s1=some s2/\Reach ms p ρ q ρ)
 | .not b,p,K1,K2,s,s',h,hs,hc=>by simp only[ig]at h;obtain⟨h1,h2⟩:=nh ha h hs (show b.lt p.nv from hc);simp only[AB.den,gy,Jk];grind
 | .and a b,p,K1,K2,s,s',h,hs,hc=>by
  simp only[ig]at h;have hc:a.lt p.nv/\b.lt p.nv:=hc;obtain⟨h1,h2⟩:=nh ha h hs hc.1;simp only[AB.den];cases ea:a.den ms.f ρ with
  |false=>grind
  |true=>obtain⟨q,s1,s2,hk,r⟩:=h1 ea;obtain⟨g1,g2⟩:=nh ha hk r.sat (AB.bg r.nv hc.2);exact⟨λe=>by obtain⟨q',t1,t2,k,r'⟩:=g1 (by grind);exact⟨q',t1,t2,k,r.trans r'⟩,λe=>by obtain⟨q',t1,t2,k,r'⟩:=g2 (by grind);exact⟨q',t1,t2,k,r.trans r'⟩⟩
 | .or a b,p,K1,K2,s,s',h,hs,hc=>by
  simp only[ig]at h;have hc:a.lt p.nv/\b.lt p.nv:=hc;obtain⟨h1,h2⟩:=nh ha h hs hc.1;simp only[AB.den];cases ea:a.den ms.f ρ with
  |true=>grind
  |false=>obtain⟨q,s1,s2,hk,r⟩:=h2 ea;obtain⟨g1,g2⟩:=nh ha hk r.sat (AB.bg r.nv hc.2);exact⟨λe=>by obtain⟨q',t1,t2,k,r'⟩:=g1 (by grind);exact⟨q',t1,t2,k,r.trans r'⟩,λe=>by obtain⟨q',t1,t2,k,r'⟩:=g2 (by grind);exact⟨q',t1,t2,k,r.trans r'⟩⟩
 | .lit x,p,K1,K2,s,s',h,hs,hc=>Dd ha (by simpa only[ig]using h) hs hc
 | .le x,p,K1,K2,s,s',h,hs,hc=>Dd ha (by simpa only[ig]using h) hs hc
 | .eq x,p,K1,K2,s,s',h,hs,hc=>Dd ha (by simpa only[ig]using h) hs hc
 | .var x,p,K1,K2,s,s',h,hs,hc=>Dd ha (by simpa only[ig]using h) hs hc
 | .seq x y,p,K1,K2,s,s',h,hs,hc=>Dd ha (by simpa only[ig]using h) hs hc
def Mz (ask:Ask σ) (p:Path) (d:amR) (c a b:AS) (K:Path->σ->Option σ) (s:σ):Option σ:=
 match c,a,b with
 | .one (.bool (.lit true)),a,_=>K (p.put d a) s
 | .one (.bool (.lit false)),_,b=>K (p.put d b) s
 | .one (.bool c), .one (.bool a), .one (.bool b)=>K (p.put d (.one (.bool (.ite c a b)))) s
 | .one (.bool c),a,b=>ig ask p c (λp=>K (p.put d a)) (λp=>K (p.put d b)) s
 |_,_,_=>none
theorem zZ {ms:Ms T} {K:Path->σ->Option σ} {p q:Path} {d:amR} {v:AS} {s1 s2:σ} (h:K (q.put d v) s1=some s2) (hr:Reach ms p ρ q ρ) (hv:v.lt p.nv):
 ie ms K p ρ ((p.st.den ms.f ρ).put d (v.den ms.f ρ)):=by
 refine⟨_,_,_,ρ,h,hr.sat.put d (AS.bg hr.nv hv),hr.nv,hr.aK,?_⟩;rw[Path.put,k8,hr.st]
theorem ae5 {ask:Ask σ} (rR:ca ask) {ms:Ms T} {p:Path} {d:amR} {c a b:AS} {K:Path->σ->Option σ} {s s':σ} (h:Mz ask p d c a b K s=some s') (hs:Sat T ms.f ρ p) (hc:c.lt p.nv) (ha:a.lt p.nv) (hb:b.lt p.nv):
 ∃t,c.den ms.f ρ= .one (.c (.bool t))/\nK t (ie ms K p ρ ((p.st.den ms.f ρ).put d (a.den ms.f ρ))) (ie ms K p ρ ((p.st.den ms.f ρ).put d (b.den ms.f ρ))):=by
 unfold Mz at h;split at h
 ·exact⟨_,rfl,zZ h (.refl hs) ha⟩
 ·exact⟨_,rfl,zZ h (.refl hs) hb⟩
 ·rename_i c a b _ _;refine⟨_,rfl,iu (λe=>?_) λe=>?_⟩
  ·have:=zZ h (.refl hs) (UC hc ha hb);simp only[AS.den,AX.den,UB,e,cJ]at this⊢;omega
  ·have:=zZ h (.refl hs) (UC hc ha hb);simp only[AS.den,AX.den,UB,e,qL,py]at this⊢;omega
 ·rename_i c _ _ _;obtain⟨h1,h2⟩:=nh rR h hs hc;refine⟨_,rfl,iu (λe=>?_) λe=>?_⟩
  ·obtain⟨q,s1,s2,hk,hr⟩:=h1 e;exact zZ hk hr ha
  ·obtain⟨q,s1,s2,hk,hr⟩:=h2 e;exact zZ hk hr hb
 grind
def aw.bC (st:aw) (b:Nat) (l:AK):aw:={st with boxes:=CJ (some l) st.boxes b}
theorem xO (st:aw) (b:Nat) (l:AK):(st.bC b l).den f ρ=(st.den f ρ).bC b (l.den f ρ):=by simp[aw.bC,vg,aw.den,St.bC,Br]
theorem xP {st:aw} (h:st.lt n) (b:Nat) {l:AK} (hl:l.lt n):(st.bC b l).lt n:=by
 refine⟨h.aq,λl' bA=>?_⟩;simp only[aw.bC,vg]at bA;rcases oF bA with h1|h1
 ·exact h.boxes l' h1
 grind
theorem Wk.bC {st:aw} (h:Wk T ρ st) (b:Nat) {l:AK} (hl:∀e w x,l= .rows e w x->w=(T e).length/\∀r∈ah (ρ x),r.map C.kd=T e):Wk T ρ (st.bC b l):=by
 intro e w x hx;simp only[aw.bC,vg]at hx;rcases oF hx with h1|h1
 ·exact h e w x h1
 grind
theorem Wk.cells {st:aw} (h:Wk T ρ st) (b:Nat) (l:amV):Wk T ρ (st.bC b (.cells l)):=h.bC b λ_ _ _ e=>by cases e
def GY (p:Path) (d:amR) (l:amV) (K:Path->σ->Option σ) (s:σ):Option σ:=
 match d with
 |some d=>(match je p.st.boxes d with|some none=>(if d<p.st.aq.length/\l.isEmpty=false then K {p with st:=(p.st.bC d (.cells l)).put (some d) (.one (.ptr d 0))} s else none)|_=>none)
 |none=>none
theorem UD {ms:Ms T} {p:Path} {d:amR} {l:amV} {K:Path->σ->Option σ} {s s':σ} (h:GY p d l K s=some s') (hs:Sat T ms.f ρ p) (hl:∀x∈l,x.lt p.nv):
 (nL (p.st.den ms.f ρ) d (l.map (AX.den ms.f ρ))).wp (ie ms K p ρ):=by
 unfold GY at h;simp only[gF]at h;split at h
 ·rename_i d;split at h
  ·rename_i hb;split at h
   ·rename_i hd;have aR:(p.st.den ms.f ρ).boxes[d]?=some none:=by simp[aw.den,hb]
    have J3:d<(p.st.den ms.f ρ).aq.length/\(l.map (AX.den ms.f ρ)).isEmpty=false:=by simpa[aw.den]using hd
    simp only[nL,aR];rw[aC J3];refine⟨_,_,_,ρ,h,hs.ke (xM (xP (l:= .cells l) hs.st d hl) _ trivial) (Wk.put (Wk.cells hs.wk d l) _ _),bh _,λ_ _=>rfl,?_⟩;rw[k8,xO];rfl
   grind
  grind
 grind
def De (b:AB) (y:Nat):List aa:=
 match b with
 | .lit true=>eZ (af 1 y) (.const 1)
 | .lit false=>eZ (af 1 y) (.const 0)
 | .var x=>eZ (af 1 y) (af 1 x)
 |_=>[]
theorem ae6 {ms:Ms T} {b:AB} (hb:b.lt n) {ai:Kr} (aL:cu n ρ ai) (hy:ai n= .bool (b.den ms.f ρ)):aJ (mu ms.f ai) (De b n):=by
 have h1:(af 1 n).den (mu ms.f ai)=if b.den ms.f ρ then 1 else 0:=by rw[au _ _ (by omega),hy,ms.h1];rfl
 unfold De;split
 ·exact gW (by assumption)
 ·exact gW (by assumption)
 ·rename_i x;refine gW ?_;rw[h1,au _ _ (by omega),aL x hb,ms.h1];rfl
 ·exact λg hg=>by grind
theorem ae7 {b:AB} (hb:b.lt n):∀g∈De b n,g.lt (n+1):=by
 have l1:(af 1 n).lt (n+1):=aI (bQ _) (by omega);unfold De;split
 ·exact gX l1 (dY _ _)
 ·exact gX l1 (dY _ _)
 ·rename_i x;exact gX l1 (aI (Ql hb) (by omega))
 grind
def Df (kZ:amG) (e:aa) (y:Nat):List aa:=
 match e with
 |⟨c,[]⟩=>kZ.flatMap λk=>if c=Int.ofNat k then[(af (20+k) y).bI (-1),(af (20+k) y).neg.bI 1]else[(af (20+k) y).neg,af (20+k) y]
 |⟨0,[(a,1)]⟩=>if a%64=0 then kZ.flatMap λk=>eZ (af (20+k) y) (af (20+k) (a/64))else[]
 |_=>[]
theorem ae8 (ms:Ms T) {e:aa} {y:Nat} (h:cD (ρ y)=e.den (mu ms.f ρ)):aJ (mu ms.f ρ) (Df ms.kZ e y):=by
 intro g hg;unfold Df at hg;split at hg
 ·rename_i c;obtain⟨k,hk,hg⟩:=ba.1 hg;have hk:=ms.zG k hk;have hc:cD (ρ y)=c:=by rw[h];exact cg _ _
  split at hg
  ·rename_i e;rcases az.1 hg with hg|hg
   ·subst hg;rw[cO,au _ _ (by omega),ms.hb.ind k hk,aC (by grind)];omega
   ·rw[a8]at hg;subst hg;rw[cO,eu,au _ _ (by omega),ms.hb.ind k hk,aC (by grind)];omega
  ·rename_i e;rcases az.1 hg with hg|hg
   ·subst hg;rw[eu,au _ _ (by omega),ms.hb.ind k hk,aQ (λe'=>e (by grind))];omega
   ·rw[a8]at hg;subst hg;rw[au _ _ (by omega),ms.hb.ind k hk,aQ (λe'=>e (by grind))];omega
 ·rename_i a;split at hg
  ·rename_i ha;obtain⟨k,hk,hg⟩:=ba.1 hg;have hk:=ms.zG k hk;refine gW ?_ g hg;have e:cD (ρ y)=cD (ρ (a/64)):=by rw[h];simp only[aa.den,b9,mu,ha,ms.h0];omega
   rw[au _ _ (by omega),au _ _ (by omega),ms.hb.ind k hk,ms.hb.ind k hk,e]
  grind
 grind
theorem ae9 (ms:Ms T) {e:aa} {y:Nat} (h:y<n) (he:e.lt n):∀g∈Df ms.kZ e y,g.lt n:=by
 intro g hg;unfold Df at hg;split at hg
 ·obtain⟨k,hk,hg⟩:=ba.1 hg;have hk:=ms.zG k hk;split at hg
  ·rcases az.1 hg with hg|hg
   ·subst hg;exact gS _ (aI h (by omega))
   ·rw[a8]at hg;subst hg;exact gS _ (kY (aI h (by omega)))
  ·rcases az.1 hg with hg|hg
   ·subst hg;exact kY (aI h (by omega))
   ·rw[a8]at hg;subst hg;exact aI h (by omega)
 ·rename_i a;split at hg
  ·obtain⟨k,hk,hg⟩:=ba.1 hg;have hk:=ms.zG k hk;have:=he (a,1) (by simp);simp only at this;exact gX (aI h (by omega)) (aI (by omega) (by omega)) g hg
  grind
 grind
def MA (ms:Ms T) (k:Kd) (x:AX) (y:Nat):Option (List aa):=
 match k,x with
 | .int k, .int k' e=>if k'=k then some (eZ (af 0 y) e++(Df ms.kZ e y++inst [y] (ms.base (.int k))))else none
 | .bool, .bool b=>some (De b y++inst [y] (ms.base .bool))
 | .str, .str x=>some (inst [x,y] ms.ofStr++(eZ (af 3 y) (af 3 x)++inst [y] (ms.base .str)))
 | .str, .lit s=>some (Gp ms s y)
 | .sl e, .sl e' x=>if e'=e then some (inst [x,y] (ms.rH e)++(eZ (af 2 y) (af 2 x)++inst [y] (ms.base (.sl e))))else none
 | .sl e, .own e' _ _ x=>if e'=e then some (inst [x,y] (ms.rH e)++(eZ (af 2 y) (af 2 x)++inst [y] (ms.base (.sl e))))else none
 | .sl e, .bc=>some (inst [y] (ms.nil e)++(eZ (af 2 y) (.const 0)++inst [y] (ms.base (.sl e))))
 | .any,_=>some (inst [y] (ms.base .any))
 |_,_=>none
theorem afa {ms:Ms T} {k:Kd} {x:AX} {fs:amY} (h:MA ms k x n=some fs) (hx:x.lt n):
 ∃c,(x.den ms.f ρ).gO k=some c/\(∀g∈fs,g.lt (n+1))/\aJ (mu ms.f (bind' ρ n [c])) fs:=by
 unfold MA at h;split at h
 ·rename_i k k' e;split at h
  ·rename_i hk;subst hk;simp only[ae]at h;subst h;refine⟨.int k' (e.den (mu ms.f ρ)),by simp[AX.den,X.gO,X.fq,C.kd],b8 (gX (aI (bQ _) (by omega)) (bg (pA _) hx)) (b8 (ae9 ms (bQ _) (bg (pA _) hx)) (gV ms _ (bQ _))),aJ.append (gW ?_) (aJ.append (ae8 ms ?_) (gU ms _ _))⟩
   ·rw[au _ _ (by omega),bS,ms.h0,(eQ ρ n _).dE hx];rfl
   ·rw[bS,(eQ ρ n _).dE hx];rfl
  grind
 ·rename_i b;simp only[ae]at h;subst h;exact⟨.bool (b.den ms.f ρ),by rfl,b8 (ae7 hx) (gV ms _ (bQ _)),aJ.append (ae6 hx (eQ _ _ _) (bS _ _ _)) (gU ms _ _)⟩
 ·rename_i v;simp only[ae]at h;subst h;have hv:v<n:=hx;refine⟨.str (aA (ρ v)),by rfl,b8 (gJ ms.xz rfl (by grind)) (b8 (gX (aI (bQ _) (by omega)) (aI (by omega) (by omega))) (gV ms _ (bQ _))),?_⟩;have aL:=eQ ρ n [C.str (aA (ρ v))] v hv;refine aJ.append (gI ms.xz rfl ⟨ρ v,by simp[aL,bS]⟩) (aJ.append (gW ?_) (gU ms _ _));rw[au _ _ (by omega),au _ _ (by omega),bS,aL,ms.h3,ms.h3];rfl
 ·rename_i t;simp only[ae]at h;subst h;refine⟨.str t,by rfl,b8 (gJ (ms.qp t) rfl (by simp)) (b8 (gX (aI (bQ _) (by omega)) (dY _ _)) (gV ms _ (bQ _))),?_⟩;refine aJ.append (gI (ms.qp t) rfl (by simp[bS])) (aJ.append (gW ?_) (gU ms _ _));rw[au _ _ (by omega),bS,ms.h3,cg];rfl
 ·rename_i e e' v;split at h
  ·rename_i he;subst he;simp only[ae]at h;subst h;have hv:v<n:=hx;refine⟨.sl e' (ah (ρ v)),by simp[AX.den,X.gO,X.fq,C.kd],b8 (gJ (ms.my e') rfl (by grind)) (b8 (gX (aI (bQ _) (by omega)) (aI (by omega) (by omega))) (gV ms _ (bQ _))),?_⟩;have aL:=eQ ρ n [C.sl e' (ah (ρ v))] v hv;refine aJ.append (gI (ms.my e') rfl ⟨ρ v,by simp[aL,bS]⟩) (aJ.append (gW ?_) (gU ms _ _));rw[au _ _ (by omega),au _ _ (by omega),bS,aL,ms.h2,ms.h2];rfl
  grind
 ·rename_i e e' g m v;split at h
  ·rename_i he;subst he;simp only[ae]at h;subst h;have hv:v<n:=hx;refine⟨.sl e' (ah (ρ v)),by simp[AX.den,X.gO,X.fq],b8 (gJ (ms.my e') rfl (by grind)) (b8 (gX (aI (bQ _) (by omega)) (aI (by omega) (by omega))) (gV ms _ (bQ _))),?_⟩;have aL:=eQ ρ n [C.sl e' (ah (ρ v))] v hv;refine aJ.append (gI (ms.my e') rfl ⟨ρ v,by simp[aL,bS]⟩) (aJ.append (gW ?_) (gU ms _ _));rw[au _ _ (by omega),au _ _ (by omega),bS,aL,ms.h2,ms.h2];rfl
  grind
 ·rename_i e;simp only[ae]at h;subst h;refine⟨.sl e [],by rfl,b8 (gJ (ms.s8 e) rfl (by simp)) (b8 (gX (aI (bQ _) (by omega)) (dY _ _)) (gV ms _ (bQ _))),?_⟩;refine aJ.append (gI (ms.s8 e) rfl (by simp[bS])) (aJ.append (gW ?_) (gU ms _ _));rw[au _ _ (by omega),bS,ms.h2,cg];rfl
 ·simp only[ae]at h;subst h;exact⟨.any,rfl,gV ms _ (bQ _),gU ms _ _⟩
 grind
def qq (ms:Ms T) (p:Path):List Kd->List AX->Option Path
 |[],[]=>some p
 |k::ks,x::xs=>
  match MA ms k x p.nv with
  |some fs=>qq ms (p.ext 1 fs) ks xs
  |none=>none
 |_,_=>none
theorem Dg {ms:Ms T}:∀{ks:amQ} {xs:amV} {p p':Path} {ρ:Kr},qq ms p ks xs=some p'->Sat T ms.f ρ p->(∀x∈xs,x.lt p.nv)->
 ∃r ai,du ks (xs.map (AX.den ms.f ρ))=some r/\r.length=ks.length/\p'.nv=p.nv+ks.length/\Reach ms p ρ p' ai/\(a9 p.nv ks.length).map ai=r
 |[],[],p,p',ρ,h,hs,_=>by simp only[qq,ae]at h;subst h;exact⟨[],ρ,rfl,rfl,rfl, .refl hs,rfl⟩
 |[],_::_,_,_,_,h,_,_=>by simp[qq]at h
 |_::_,[],_,_,_,h,_,_=>by simp[qq]at h
 |k::ks,x::xs,p,p',ρ,h,hs,hx=>by
  simp only[qq]at h;split at h
  ·rename_i fs dM;obtain⟨c,h1,h2,h3⟩:=afa (ρ:=ρ) dM (hx x (by simp));have aL:=eQ ρ p.nv [c];have hr:Reach ms p ρ (p.ext 1 fs) (bind' ρ p.nv [c]):=⟨rfl,fL _ _,hs.ext aL h2 h3,aL⟩
   obtain⟨r,ai,i1,i2,i3,i4,i5⟩:=Dg h hr.sat (λy hy=>AX.bg hr.nv (hx y (by grind)));have e:xs.map (AX.den ms.f (bind' ρ p.nv [c]))=xs.map (AX.den ms.f ρ):=aL.eX λy hy=>hx y (by grind);rw[e]at i1;refine⟨c::r,ai,by simp[du,h1,i1],by grind,by rw[i3];simp[Path.ext];omega,hr.trans i4,?_⟩;have e2:a9 p.nv (k::ks).length=p.nv::a9 (p.ext 1 fs).nv ks.length:=by simp only[a9,eH,alI,bu,da,Path.ext,jy];congr 1;apply cK;intro j _;simp;omega
   rw[e2,bu,i5,i4.aK p.nv (bQ _),bS]
  grind
theorem afb {k:Kd} {x:X} {c:C} (h:x.fq k=some c):c.kd=k:=by
 cases x with
 |c v=>
  simp only[X.fq]at h;grind
 |own e g m rows=>
  simp only[X.fq]at h;split at h
  ·rename_i hk;simp only[ae]at h;subst h;exact hk.symm
  grind
 |bc=>cases k<;>simp[X.fq]at h;subst h;rfl
 |_=>simp[X.fq]at h
theorem afc {k:Kd} {x:X} {c:C} (h:x.gO k=some c):c.kd=k:=by
 unfold X.gO at h;split at h
 ·simp only[ae]at h;subst h;rfl
 ·exact afb h
theorem z7:∀{ks:amQ} {xs:amT} {r:amS},du ks xs=some r->r.map C.kd=ks
 |[],[],r,h=>by simp[du]at h;grind
 |[],_::_,_,h=>by simp[du]at h
 |_::_,[],_,h=>by simp[du]at h
 |k::ks,x::xs,r,h=>by
  simp only[du]at h;split at h
  ·rename_i c r' hc hr;simp only[ae]at h;subst h;simp[afc hc,z7 hr]
  grind
def ni (ms:Ms T) (e y:Nat):List aa:=inst [y] (ms.nil e)++(eZ (af 2 y) (.const 0)++inst [y] (ms.base (.sl e)))
def xQ (ms:Ms T) (e a b y:Nat):List aa:=inst (a::y::a9 b (T e).length) (ms.snoc e)++(eZ (af 2 y) ((af 2 a).bI 1)++inst [y] (ms.base (.sl e)))
theorem tm {ms:Ms T} {p:Path} (e:Nat) (hs:Sat T ms.f ρ p):Reach ms p ρ (p.ext 1 (ni ms e p.nv)) (bind' ρ p.nv [.sl e []]):=by
 have aL:=eQ ρ p.nv [C.sl e []];refine⟨rfl,fL _ _,hs.ext aL ?_ ?_,aL⟩
 ·exact b8 (gJ (ms.s8 e) rfl (by simp)) (b8 (gX (aI (bQ _) (by omega)) (dY _ _)) (gV ms _ (bQ _)))
 ·refine aJ.append (gI (ms.s8 e) rfl (by simp[bS])) (aJ.append (gW ?_) (gU ms _ _));rw[au _ _ (by omega),bS,ms.h2,cg];rfl
def GZ (ask:Ask σ) (ms:Ms T):List Kd->Nat->Path->(Path->σ->Option σ)->σ->Option σ
 |[],_,p,K=>K p
 | .str::ks,v,p,K=>conds ask [v] ms.zC p λp=>GZ ask ms ks (v+1) p K
 |_::ks,v,p,K=>GZ ask ms ks (v+1) p K
theorem MB {ask:Ask σ} (ha:ca ask) {ms:Ms T}:∀{ks:amQ} {v:Nat} {p:Path} {K:Path->σ->Option σ} {s s':σ},GZ ask ms ks v p K s=some s'->Sat T ms.f ρ p->v+ks.length<=p.nv->
 ∃p' s1,K p' s1=some s'/\Reach ms p ρ p' ρ/\p'.nv=p.nv
 |[],v,p,K,s,s',h,hs,_=>⟨p,s,h, .refl hs,rfl⟩
 |k::ks,v,p,K,s,s',h,hs,hv=>by
  simp only[eH]at hv;cases k with
  |str=>obtain⟨p1,s1,h,r1,n1⟩:=o8 ha (V:=λ_=>True) rfl h ms.vj (by grind) trivial hs;obtain⟨p2,s2,h,r2,n2⟩:=MB ha h r1.sat (by omega);exact⟨p2,s2,h,r1.trans r2,n2.trans n1⟩
  |_=>exact MB (ks:=ks) (v:=v+1) ha h hs (by omega)
def vp (ask:Ask σ) (ms:Ms T) (e:Nat):Nat->Path->Nat->List AX->(Path->Nat->σ->Option σ)->σ->Option σ
 |0,p,a,_,K=>K p a
 |k+1,p,a,xs,K=>
  match qq ms p (T e) (xs.take (T e).length)with
  |some p'=>GZ ask ms (T e) p.nv p' λp1=>conds ask (a::p1.nv::a9 p.nv (T e).length) (ms.zE e) ((p1.ext 1 (xQ ms e a p.nv p1.nv)).tf ms ⟨e,a,p1.nv,p.nv⟩) λp2=>vp ask ms e k p2 p1.nv (xs.drop (T e).length) K
  |none=>λ_=>none
theorem G0 {ask:Ask σ} (ha:ca ask) {ms:Ms T} {e:Nat}:∀{k:Nat} {p:Path} {a:Nat} {xs:amV} {K:Path->Nat->σ->Option σ} {s s':σ} {ρ:Kr},vp ask ms e k p a xs K s=some s'->Sat T ms.f ρ p->a<p.nv->(∀x∈xs,x.lt p.nv)->
 ∃rows ai p' a' s1,K p' a' s1=some s'/\jD (T e) k (xs.map (AX.den ms.f ρ))=some rows/\Reach ms p ρ p' ai/\a'<p'.nv/\ah (ai a')=ah (ρ a)++rows
 |0,p,a,xs,K,s,s',ρ,h,hs,hl,_=>⟨[],ρ,p,a,s,h,rfl, .refl hs,hl,by simp⟩
 |k+1,p,a,xs,K,s,s',ρ,h,hs,hl,hx=>by
  simp only[vp]at h;cases h1:qq ms p (T e) (xs.take (T e).length)with
  |none=>grind
  |some p0=>
   rw[h1]at h;dsimp only at h;obtain⟨r,bJ,i1,i2,i3,i4,i5⟩:=Dg h1 hs (λx cW=>hx x (nE cW));obtain⟨p1,s1,h,q1,q2⟩:=MB ha h i4.sat (by omega);have i4:=i4.trans q1;rw[<-q2]at i3;have la:a<p1.nv:=dO hl i4.nv;have aL:=eQ bJ p1.nv [C.sl e (ah (bJ a)++[r])];have e1:(a9 p.nv (T e).length).map (bind' bJ p1.nv [C.sl e (ah (bJ a)++[r])])=r:=by refine mO (cK ?_) i5;intro v hv;simp only[a9,aF,dP]at hv;obtain⟨j,hj,rfl⟩:=hv;exact aL _ (by omega)
   have l5:∀v∈a::p1.nv::a9 p.nv (T e).length,v<p1.nv+1:=by intro v hv;simp only[a9,az,aF,dP]at hv;rcases hv with rfl|rfl|⟨j,hj,rfl⟩<;>omega
   have hlen:(a::p1.nv::a9 p.nv (T e).length).length=2+(T e).length:=by simp[a9];omega
   have hr:Reach ms p1 bJ (p1.ext 1 (xQ ms e a p.nv p1.nv)) (bind' bJ p1.nv [.sl e (ah (bJ a)++[r])]):=by
    refine⟨rfl,fL _ _,i4.sat.ext aL ?_ ?_,aL⟩
    ·exact b8 (gJ (ms.s9 e) hlen l5) (b8 (gX (aI (bQ _) (by omega)) (gS _ (aI (by omega) (by omega)))) (gV ms _ (bQ _)))
    ·refine aJ.append (gI (ms.s9 e) hlen ⟨bJ a,r,z7 i1,?_⟩) (aJ.append (gW ?_) (gU ms _ _))
     ·rw[bu,bu,e1,aL a la,bS]
     ·rw[cO,au _ _ (by omega),au _ _ (by omega),bS,aL a la,ms.h2,ms.h2,df];simp
   have hr:=hr.tf (q:=⟨e,a,p1.nv,p.nv⟩) ⟨Ql la,bQ _,Nat.le_succ_of_le (Nat.le_of_eq i3.symm),r,z7 i1,by
    refine mO ?_ e1;simp only[a9,da];rfl,by rw[bS,aL a la,df]⟩
   obtain⟨p2,s2,h,q3,q4⟩:=o8 ha (V:=λl=>∃a r,r.map C.kd=T e/\l=a:: .sl e (ah a++[r])::r) hlen h (ms.xw e) (by rw[LY];exact l5) ⟨bJ a,r,z7 i1,by rw[bu,bu,e1,aL a la,bS]⟩ hr.sat;have hr:=hr.trans q3;have afd:∀x∈xs.drop (T e).length,x.lt p2.nv:=λx cW=>AX.bg (eR i4.nv hr.nv) (hx x (mK cW));obtain⟨rows,ai,p',a',s3,j0,j1,j2,j3,j4⟩:=G0 ha h hr.sat (by rw[q4,LY];exact bQ _) afd;have ed:(xs.drop (T e).length).map (AX.den ms.f (bind' bJ p1.nv [.sl e (ah (bJ a)++[r])]))=(xs.drop (T e).length).map (AX.den ms.f ρ):=
    (i4.trans hr).aK.eX λx cW=>hx x (mK cW)
   rw[ed]at j1;refine⟨r::rows,ai,p',a',s3,j0,?_,(i4.trans hr).trans j2,j3,?_⟩
   ·simp only[jD,<-Bq,<-Bp,i1,j1]
   ·rw[j4,bS,df,i4.aK a hl];simp
end
end Go.Pv
namespace Go.Pv
open Go
noncomputable section
variable {T:ay} {σ:Type} {f:Nat->C->Int} {ρ:Kr} {n:Nat}
def MC (ms:Ms T) (p:Path) (k:Kd) (x:AX):Option (Path×AX):=
 match k,x with
 | .int k, .int k' e=>if k'=k then some (p, .int k' e)else none
 | .bool, .bool b=>some (p, .bool b)
 | .str, .str x=>some (p, .str x)
 | .str, .lit s=>some (p, .lit s)
 | .sl e, .sl e' x=>if e'=e then some (p, .sl e x)else none
 | .sl e, .own e' _ _ x=>if e'=e then some (p, .sl e x)else none
 | .sl e, .bc=>some (p.ext 1 (ni ms e p.nv), .sl e p.nv)
 |_,_=>none
theorem afe {ms:Ms T} {p p':Path} {k:Kd} {x y:AX} (h:MC ms p k x=some (p',y)) (hs:Sat T ms.f ρ p) (hx:x.lt p.nv):
 ∃c ai,(x.den ms.f ρ).gO k=some c/\Reach ms p ρ p' ai/\y.lt p'.nv/\y.den ms.f ai= .c c:=by
 unfold MC at h;split at h
 ·split at h
  ·rename_i hk;subst hk;simp only[ae,bT]at h;obtain⟨rfl,rfl⟩:=h;exact⟨_,ρ,by simp only[AX.den,X.gO,X.fq,C.kd,cJ], .refl hs,hx,rfl⟩
  grind
 ·simp only[ae,bT]at h;obtain⟨rfl,rfl⟩:=h;exact⟨_,ρ,by rfl, .refl hs,hx,rfl⟩
 ·simp only[ae,bT]at h;obtain⟨rfl,rfl⟩:=h;exact⟨_,ρ,by rfl, .refl hs,hx,rfl⟩
 ·simp only[ae,bT]at h;obtain⟨rfl,rfl⟩:=h;exact⟨_,ρ,by rfl, .refl hs,hx,rfl⟩
 ·split at h
  ·rename_i hk;subst hk;simp only[ae,bT]at h;obtain⟨rfl,rfl⟩:=h;exact⟨_,ρ,by simp only[AX.den,X.gO,X.fq,C.kd,cJ], .refl hs,hx,rfl⟩
  grind
 ·split at h
  ·rename_i hk;subst hk;simp only[ae,bT]at h;obtain⟨rfl,rfl⟩:=h;exact⟨_,ρ,by simp only[AX.den,X.gO,X.fq,cJ], .refl hs,hx,rfl⟩
  grind
 ·rename_i e;simp only[ae,bT]at h;obtain⟨rfl,rfl⟩:=h;exact⟨.sl e [],_,by rfl,tm e hs,bQ _,by simp only[AX.den,bS,df]⟩
 grind
def xR (ms:Ms T):Path->List Kd->List AX->Option (Path×List AX)
 |p,[],[]=>some (p,[])
 |p,k::ks,x::xs=>
  match MC ms p k x with
  |some (p1,y)=>(match xR ms p1 ks xs with|some (p2,ys)=>some (p2,y::ys)|none=>none)
  |none=>none
 |_,_,_=>none
theorem UE {ms:Ms T}:∀{ks:amQ} {xs:amV} {p p':Path} {ys:amV} {ρ:Kr},xR ms p ks xs=some (p',ys)->Sat T ms.f ρ p->(∀x∈xs,x.lt p.nv)->
 ∃r ai,du ks (xs.map (AX.den ms.f ρ))=some r/\Reach ms p ρ p' ai/\(∀y∈ys,y.lt p'.nv)/\ys.map (AX.den ms.f ai)=r.map X.c
 |[],[],p,p',ys,ρ,h,hs,_=>by simp only[xR,ae,bT]at h;obtain⟨rfl,rfl⟩:=h;exact⟨[],ρ,rfl, .refl hs,λy hy=>(by grind),rfl⟩
 |[],_::_,_,_,_,_,h,_,_=>by simp[xR]at h
 |_::_,[],_,_,_,_,h,_,_=>by simp[xR]at h
 |k::ks,x::xs,p,p',ys,ρ,h,hs,hx=>by
  simp only[xR]at h;split at h
  ·rename_i p1 y h1;split at h
   ·rename_i p2 MD h2;simp only[ae,bT]at h;obtain⟨rfl,rfl⟩:=h;obtain⟨c,bJ,c1,r1,l1,d1⟩:=afe h1 hs (hx x (by simp));obtain⟨r,cQ,c2,r2,l2,d2⟩:=UE h2 r1.sat (λz hz=>AX.bg r1.nv (hx z (by grind)));rw[r1.aK.eX λz hz=>hx z (by grind)]at c2;refine⟨c::r,cQ,by simp[du,c1,c2],r1.trans r2,λz hz=>?_,?_⟩
    ·rcases az.1 hz with rfl|hz
     ·exact AX.bg r2.nv l1
     grind
    ·simp only[bu,d2,r2.aK.ax l1,d1]
   grind
  grind
def vq (b c off m w:Nat):List Nat:=(List.range w).map λj=>if off<=j/\j<off+m then c+(j-off)else b+j
theorem UF:∀(r l:amT) (o j:Nat),o+r.length<=l.length->(gD l o r)[j]?=if o<=j/\j<o+r.length then r[j-o]?else l[j]?
 |[],l,o,j,_=>by simp only[gD,yD,jy];grind
 |x::r,l,o,j,h=>by
  simp only[eH]at h⊢;simp only[gD];rw[UF r _ (o+1) j (by grind)];grind
theorem UG:∀(r l:amT) (o:Nat),(gD l o r).length=l.length
 |[],_,_=>rfl
 |x::r,l,o=>by simp[gD,UG r]
def qt (oV new:amS) (off w:Nat):List C:=(List.range w).map λj=>if off<=j/\j<off+new.length then new.getD (j-off) default else oV.getD j default
theorem aff {e i off:Nat} {rows:Y9} {r:amS} (hk:∀r∈rows,r.map C.kd=T e) (hi:i<rows.length) (ho:off+r.length<=(T e).length) (al:r≠[]):
 gD (dC (T e).length rows) (i*(T e).length+off) (r.map X.c)=dC (T e).length (rows.set i (qt (rows.getD i []) r off (T e).length)):=by
 have h0:0<r.length:=lT.2 al;have hw:0<(T e).length:=by omega
 have hmul:i*(T e).length+(T e).length<=rows.length*(T e).length:=by have:(i+1)*(T e).length<=rows.length*(T e).length:=eh _ hi;rw[en]at this;omega
 apply oD;intro m;rcases aT m (rows.length*(T e).length)with hm|hm
 ·rw[UF _ _ _ _ (by rw[oR,dI];omega),uH hm,uH (by grind),dI];have hq:=Jm m (T e).length;have hr:=mI m hw;by_cases cE:m/(T e).length=i
  ·have fX:m=i*(T e).length+m%(T e).length:=by rw[<-cE,oE];omega
   generalize m%(T e).length=j at*;have afg:(rows.set i (qt (rows.getD i []) r off (T e).length)).getD i []=qt (rows.getD i []) r off (T e).length:=by rw[aZ,P7 hi];rfl
   have hc:cellAt (rows.set i (qt (rows.getD i []) r off (T e).length)) i j=if off<=j/\j<off+r.length then r.getD (j-off) default else cellAt rows i j:=by unfold cellAt;rw[afg];simp only[qt,aZ,bP,iS hr,cj,fh]
   grind
  ·rw[aQ]
   ·have:cellAt (rows.set i (qt (rows.getD i []) r off (T e).length)) (m/(T e).length) (m%(T e).length)=cellAt rows (m/(T e).length) (m%(T e).length):=by simp only[cellAt,aZ,mM (wb cE)]
    grind
   ·rintro ⟨h1,h2⟩;apply cE;have e1:m=(T e).length*i+(m-i*(T e).length):=by rw[oE];omega
    rw[e1,ZN hw,EH (by omega)];omega
 ·rw[aW (by rw[UG,oR];omega),aW (by rw[oR,ZO];omega)]
theorem afh {e off:Nat} {oV new:amS} (h1:oV.map C.kd=T e) (h2:((T e).drop off).take new.length=new.map C.kd):(qt oV new off (T e).length).map C.kd=T e:=by
 apply oD;intro j;rcases aT j (T e).length with hj|hj
 ·simp only[qt,da,bP,iS hj,cj,Bs];have afi:j<oV.length:=by rw[<-h1]at hj;simpa using hj
  split
  ·rename_i hb;have h3:(new.map C.kd)[j-off]?=(T e)[j]?:=by rw[<-h2,fi,aC (by omega),fa];congr 1;omega
   grind
  grind
 ·rw[aW (by simp[qt];omega),aW hj]
def UH (ms:Ms T) (e x y b c off m:Nat):List aa:=inst (x::y::(a9 b (T e).length++vq b c off m (T e).length)) (ms.cp e)++(eZ (af 2 y) (af 2 x)++inst [y] (ms.base (.sl e)))
def ME (T:ay) (ask:Ask σ) (ms:Ms T) (p:Path) (d:amR) (t:Nat) (a x:AS) (K:Path->σ->Option σ) (s:σ):Option σ:=
 match d,tl x with
 |none,some l'=>
  (match a with
  | .one (.ptr b off)=>
   (match je p.st.boxes b with
   |some (some (.cells l))=>if l'.length=(T t).length/\off+l'.length<=l.length/\(T t).isEmpty=false/\t<1000 then K {p with st:=p.st.bC b (.cells (tk l off l'))} s else none
   |_=>none)
  | .one (.cd b off)=>
   (match je p.st.boxes b,xR ms p (T t) l' with
   |some (some (.cells l)),some (q,l2)=>if l'.length=(T t).length/\off+l'.length<=l.length/\(T t).isEmpty=false/\t<1000 then K {q with st:=p.st.bC b (.cells (tk l off l2))} s else none
   |_,_=>none)
  | .one (.gb b w i off)=>
   (match je p.st.boxes b with
   |some (some (.rows e w' x))=>
    if w'=w/\l'.length=(T t).length/\((T e).drop off).take (T t).length=T t/\(T t).isEmpty=false/\t<1000 then
     gT ask p.Γ i (gT ask p.Γ (((af 2 x).sub i).bI (-1)) (zU ms p e x i λp1 s1=>
      match k7 p1 e x i,qq ms p1 (T t) l' with
      |some c,some p2=>conds ask (x::p2.nv::(a9 c (T e).length++vq c p1.nv off (T t).length (T e).length)) (ms.CS e) (p2.ext 1 (UH ms e x p2.nv c p1.nv off (T t).length)) (λq=>K {q with st:=p.st.bC b (.rows e w p2.nv)}) s1
      |_,_=>none)) s
    else none
   |_=>none)
  |_=>none)
 |_,_=>none
theorem UI {l r:amV} {o:Nat} (h:∀x∈l,x.lt n) (h':∀x∈r,x.lt n):(AK.cells (tk l o r)).lt n:=GX h h'
theorem afj {ask:Ask σ} (rR:ca ask) {ms:Ms T} {p:Path} {d:amR} {t:Nat} {a x:AS} {K:Path->σ->Option σ} {s s':σ} (h:ME T ask ms p d t a x K s=some s') (hs:Sat T ms.f ρ p) (ha:a.lt p.nv) (hx:x.lt p.nv)
 (aU:cA T (p.st.den ms.f ρ)):(j5 T (p.st.den ms.f ρ) d t (a.den ms.f ρ) (x.den ms.f ρ)).wp (ie ms K p ρ):=by
 unfold ME at h;simp only[gF]at h;split at h
 ·rename_i l' cW;have wv:=C8 (f:=ms.f) (ρ:=ρ) cW;have fb:=C9 cW hx;split at h
  ·rename_i b off;split at h
   ·rename_i l hb;split at h
    ·rename_i hc;have aR:=pa (f:=ms.f) (ρ:=ρ) hb;simp only[AK.den]at aR;have ea:(AS.one (.ptr b off)).den ms.f ρ= .one (.ptr b off):=rfl;unfold j5;rw[ea,wv];simp only[S.bp,aR,dI];rw[aC hc];refine⟨_,_,_,ρ,h,hs.ke (xP hs.st b (UI (hs.st.boxes _ (aY hb)) fb)) (Wk.cells hs.wk b _),bh _,λ_ _=>rfl,?_⟩;rw[xO];simp only[AK.den,C7,l8]
    grind
   grind
  ·rename_i b off;split at h
   ·rename_i l q l2 hb hp;split at h
    ·rename_i hc;obtain⟨r,ai,c1,r1,l1,d1⟩:=UE hp hs fb;have aR:=pa (f:=ms.f) (ρ:=ρ) hb;simp only[AK.den]at aR;have ea:(AS.one (.cd b off)).den ms.f ρ= .one (.cd b off):=rfl;unfold j5;rw[ea,wv];simp only[S.bp,aR,dI];rw[aC hc];have aj:=hs.st.boxes _ (aY hb);refine⟨_,_,_,ai,h,r1.sat.ke (xP (aw.bg r1.nv hs.st) b (UI (λy hy=>AX.bg r1.nv (aj y hy)) l1)) (Wk.cells (Wk.aK hs.wk hs.st r1.aK) b _),r1.nv,r1.aK,?_⟩;rw[xO,r1.aK.st hs.st];simp only[AK.den,C7,l8,c1,d1];rw[r1.aK.eX aj]
    grind
   grind
  ·rename_i b w i off;split at h
   ·rename_i e w' v hb;split at h
    ·rename_i hc;obtain⟨rfl,c1,c2,c3,c4⟩:=hc;obtain⟨n1,s1,h⟩:=ix rR h;obtain⟨n2,s2,h⟩:=ix rR h;have n1:=hs.entails n1;have n2:=hs.entails n2;rw[cO,br,au _ _ (by omega),ms.h2]at n2;have mZ:=aY hb;have hv:v<p.nv:=hs.st.boxes _ mZ;obtain⟨rfl,hk⟩:=hs.wk e _ v mZ;have aR:=pa (f:=ms.f) (ρ:=ρ) hb;simp only[AK.den]at aR;have hi:(i.den (mu ms.f ρ)).toNat<(ah (ρ v)).length:=by omega
     have fp:=Uw hk aR aU;obtain⟨p1,bJ,h,r1,_⟩:=GG h hs hv ha n1 hi hk fp;try dsimp only at h
     split at h
     ·rename_i c p2 hm pR;have hm:=og hm r1.sat;obtain⟨r,cQ,i1,i2,i3,i4,i5⟩:=Dg pR r1.sat (λy hy=>AX.bg r1.nv (fb y hy));rw[r1.aK.eX fb]at i1;have fM:=z7 i1;have r2:=r1.trans i4;have al:r≠[]:=by intro e0;rw[e0]at i2;rw[alM]at c3;exact c3 (jz.1 i2.symm)
      have UJ:((T e).drop off).take r.length=r.map C.kd:=by rw[i2,fM];exact c2
      have ho:off+r.length<=(T e).length:=by have:=ll List.length UJ;simp only[Bo,EI,dI]at this;have h0:0<r.length:=lT.2 al;omega
      have hold:((ah (ρ v)).getD (i.den (mu ms.f ρ)).toNat []).map C.kd=T e:=by rw[aZ,aP hi];exact hk _ (fz hi)
      have gq:=afh hold UJ;generalize dV:qt ((ah (ρ v)).getD (i.den (mu ms.f ρ)).toNat []) r off (T e).length=row at*;have MF:cQ v=ρ v:=r2.aK v hv;have ama:i.den (mu ms.f cQ)=i.den (mu ms.f ρ):=r2.aK.dE (show i.lt p.nv from ha);have aL:=eQ cQ p2.nv [C.sl e ((ah (ρ v)).set (i.den (mu ms.f ρ)).toNat row)];have Dh:=hm.b;simp only at Dh;have mU:p2.nv=p1.nv+(T t).length:=i3;have l5:∀z∈v::p2.nv::(a9 c (T e).length++vq c p1.nv off (T t).length (T e).length),z<p2.nv+1:=by
       intro z hz;simp only[az,bB,a9,vq,aF,dP]at hz;rcases hz with rfl|rfl|⟨j,hj,rfl⟩|⟨j,hj,rfl⟩
       ·have:=r2.nv;omega
       ·omega
       ·omega
       ·grind
      have hlen:(v::p2.nv::(a9 c (T e).length++vq c p1.nv off (T t).length (T e).length)).length=2+(T e).length+(T e).length:=by simp[a9,vq];omega
      have UK:∀j,j<(T e).length->cQ (c+j)=cellAt (ah (ρ v)) (i.den (mu ms.f ρ)).toNat j:=by intro j hj;have h1:=hm.row.cell j hj;simp only at h1;rw[i4.aK _ (by omega),h1,r1.aK v hv,r1.aK.dE (show i.lt p.nv from ha)]
      have UL:(a9 c (T e).length).map (bind' cQ p2.nv [C.sl e ((ah (ρ v)).set (i.den (mu ms.f ρ)).toNat row)])=(List.range (T e).length).map λj=>cellAt (ah (ρ v)) (i.den (mu ms.f ρ)).toNat j:=by simp only[a9,da];refine cK λj hj=>?_;have hj:=dP.1 hj;simp only[Bs];rw[aL _ (by omega),UK j hj]
      have UM:(vq c p1.nv off (T t).length (T e).length).map (bind' cQ p2.nv [C.sl e ((ah (ρ v)).set (i.den (mu ms.f ρ)).toNat row)])=row:=by
       refine mO ?_ dV;simp only[vq,qt,da];refine cK λj hj=>?_;have hj:=dP.1 hj;simp only[Bs];rw[i2];by_cases hb:off<=j/\j<off+(T t).length
       ·rw[aC hb,aC hb,aL _ (by omega)];have h5:=ll (λl:List C=>l[j-off]?) i5;simp only[a9,da,bP,iS (show j-off<(T t).length by omega),cj,Bs]at h5;grind
       ·rw[aQ hb,aQ hb,aL _ (by omega),UK j hj];rfl
      have hr:Reach ms p2 cQ (p2.ext 1 (UH ms e v p2.nv c p1.nv off (T t).length)) (bind' cQ p2.nv [C.sl e ((ah (ρ v)).set (i.den (mu ms.f ρ)).toNat row)]):=by
       refine⟨rfl,fL _ _,i4.sat.ext aL ?_ ?_,aL⟩
       ·exact b8 (gJ (ms.xx e) hlen l5) (b8 (gX (aI (bQ _) (by omega)) (aI (by simp_all) (by omega))) (gV ms _ (bQ _)))
       ·refine aJ.append (gI (ms.xx e) hlen ⟨ρ v,(i.den (mu ms.f ρ)).toNat,row,hi,hk,gq,?_⟩) (aJ.append (gW ?_) (gU ms _ _))
        ·rw[bu,bu,oH,UL,UM,bS,aL v (by have:=r2.nv;omega),MF]
        ·rw[au _ _ (by omega),au _ _ (by omega),bS,aL v (by have:=r2.nv;omega),MF,ms.h2,ms.h2,df,ZO]
      obtain⟨q,s3,h,hq,nq⟩:=o8 rR (V:=λl=>∃a i r,i<(ah a).length/\(∀r∈ah a,r.map C.kd=T e)/\r.map C.kd=T e/\
       l=a:: .sl e ((ah a).set i r)::((List.range (T e).length).map (λj=>cellAt (ah a) i j)++r)) hlen h (ms.zK e) l5
       ⟨ρ v,(i.den (mu ms.f ρ)).toNat,row,hi,hk,gq,by rw[bu,bu,oH,UL,UM,bS,aL v (by have:=r2.nv;omega),MF]⟩ hr.sat
      have nq:q.nv=p2.nv+1:=nq;have r3:=(r2.trans hr).trans hq;have kx:=aff (r:=r) hk hi ho al;rw[dV]at kx;have ea:(AS.one (.gb b (T e).length i off)).den ms.f ρ= .one (.cd b ((i.den (mu ms.f ρ)).toNat*(T e).length+off)):=rfl;unfold j5;rw[ea,wv];simp only[S.bp,aR,dI];have hmul:(i.den (mu ms.f ρ)).toNat*(T e).length+(T e).length<=(ah (ρ v)).length*(T e).length:=by have:((i.den (mu ms.f ρ)).toNat+1)*(T e).length<=(ah (ρ v)).length*(T e).length:=eh _ hi;rw[en]at this;omega
      rw[aC ⟨c1,by rw[oR,c1,<-i2];omega,c3,c4⟩];refine⟨_,_,_,_,h,r3.sat.ke (xP (aw.bg r3.nv hs.st) b (l:= .rows e (T e).length p2.nv) (show p2.nv<q.nv by omega)) ((Wk.aK hs.wk hs.st r3.aK).bC b ?_),r3.nv,r3.aK,?_⟩
      ·intro e2 w2 x2 he;simp only[AK.rows.injEq]at he;obtain⟨rfl,rfl,rfl⟩:=he;refine⟨rfl,λz hz=>?_⟩;rw[bS,df]at hz;grind
      ·rw[xO,r3.aK.st hs.st];simp only[AK.den,bS,df,l8,i1,kx]
     grind
    grind
   grind
  grind
 grind
end
end Go.Pv
namespace Go.Pv
open Go
noncomputable section
variable {T:ay} {σ:Type} {f:Nat->C->Int} {ρ:Kr} {n:Nat}
def Di (n:Nat):List (Nat×AS)->List AX->Option (List AX)
 |[],acc=>some acc
 |(i,s)::rest,acc=>
  match tl s with
  |some l=>if l.length=n/\i*n+l.length<=acc.length then Di n rest (tk acc (i*n) l)else none
  |none=>none
theorem UN {m:Nat}:∀{parts:List (Nat×AS)} {acc l:amV},Di m parts acc=some l->(∀q∈parts,q.2.lt n)->(∀x∈acc,x.lt n)->
 nM m (parts.map λq=>(q.1,q.2.den f ρ)) (acc.map (AX.den f ρ))=some (l.map (AX.den f ρ))/\∀x∈l,x.lt n
 |[],acc,l,h,_,ha=>by simp only[Di,ae]at h;subst h;exact⟨rfl,ha⟩
 |(i,s)::rest,acc,l,h,hp,ha=>by
  simp only[Di]at h;split at h
  ·rename_i lx h2;split at h
   ·rename_i hc;have nI:=C9 h2 (hp (i,s) (by simp));obtain⟨i1,i2⟩:=UN h (λq hq=>hp q (by grind)) (GX ha nI);refine⟨?_,i2⟩;simp only[bu,nM,C8 h2,dI];rw[aC hc,<-C7];omega
   grind
  grind
theorem z9 {ms:Ms T} {K:Path->σ->Option σ} {p q:Path} {ai:Kr} {d:amR} {v:AS} {s1 s2:σ} {x:S} (h:K (q.put d v) s1=some s2) (hr:Reach ms p ρ q ai) (hv:v.lt q.nv) (hs:Sat T ms.f ρ p) (hx:v.den ms.f ai=x):
 ie ms K p ρ ((p.st.den ms.f ρ).put d x):=by
 refine⟨_,_,_,ai,h,hr.sat.put d hv,hr.nv,hr.aK,?_⟩;rw[Path.put,k8,hr.st,hr.aK.st hs.st,hx]
def Dj (ann:amU) (d:amR) (gen:amP) (e a:Nat):AX:=
 match lB ann d with
 |3=> .sl e a
 |_=> .own e (fZ ann d e) (gen (fZ ann d e)) a
def Aa (ask:Ask σ) (ms:Ms T) (p:Path) (e:Nat) (xs:amV):List (Nat×Nat)->(σ->Option σ)->σ->Option σ
 |[],K,s=>K s
 |(b,m)::gs,K,s=>
  match qq ms p (((T (base e)).drop b).take m) ((xs.drop b).take m)with
  |some p'=>(match bY e with
   |true=>lF ask p'.Γ (inst (a9 p.nv m) (ms.gd e b)) (λs=>Aa ask ms p e xs gs K s) s
   |false=>Aa ask ms p e xs gs K s)
  |none=>none
def G1 (ask:Ask σ) (ms:Ms T) (p:Path) (e k:Nat) (gs:amU):Nat->List AX->(σ->Option σ)->σ->Option σ
 |0,_,K,s=>K s
 |n+1,xs,K,s=>Aa ask ms p e (xs.take k) gs (λs=>G1 ask ms p e k gs n (xs.drop k) K s) s
theorem UO {ms:Ms T} {e s m k:Nat} {gs:amU} (hl:dh (base e)=some (k,gs)) (hm:(s,m)∈gs) {y:Nat} {r:amS} (hr:(a9 y m).map ρ=r) (h:aJ (mu ms.f ρ) (inst (a9 y m) (ms.gd e s))):T.G e s r:=by
 refine(ms.LN e s r).2 λg hg=>?_;have h1:=h (g.cV λi=>(a9 y m).getD i 0) (aF.2 ⟨g,hg,rfl⟩);rw[CK]at h1;rw[vi (ms.zH e s m k gs hl hm g hg) (ν:=mu ms.f λx=>ρ ((a9 y m).getD x 0))]
 ·omega
 ·intro a ha;simp only[mu,bZ];congr 1;have aj:a/64<(a9 y m).length:=by simp[a9];omega
  grind
theorem G2 {ask:Ask σ} (ha:ca ask) {ms:Ms T} {p:Path} {e k:Nat} {xs:amV} {wC:amU} (hl:dh (base e)=some (k,wC)) (sU:∀s m,(s,m)∈wC->s+m<=(T (base e)).length) (hs:Sat T ms.f ρ p) (hx:∀x∈xs,x.lt p.nv):
 ∀{gs:amU} {K:σ->Option σ} {s s':σ},(∀g∈gs,g∈wC)->Aa ask ms p e xs gs K s=some s'->yT T e (xs.map (AX.den ms.f ρ)) gs/\∃s1,K s1=some s'
 |[],K,s,s',_,h=>⟨trivial,s,h⟩
 |(st,m)::gs,K,s,s',kr,h=>by
  simp only[Aa]at h;split at h
  ·rename_i p' hp;have yV:∀x∈(xs.drop st).take m,x.lt p.nv:=λx cW=>hx x (mK (nE cW));obtain⟨r,ai,i1,i2,i3,i4,i5⟩:=Dg hp hs yV;rw[Bq,Bp]at i1;have amb:=sU st m (kr _ (by simp));have jr:(((T (base e)).drop st).take m).length=m:=by simp;omega
   rw[jr]at i5;split at h
   ·rename_i aU;obtain⟨hn,s1,h⟩:=mw ha h;obtain⟨g1,g2⟩:=G2 ha hl sU hs hx (λg hg=>kr g (by grind)) h;refine⟨⟨?_,g1⟩,g2⟩;rw[i1];dsimp only;refine iu (λ_=>?_) (λh'=>by grind);exact UO hl (kr _ (by simp)) i5 λg hg=>i4.sat.entails (hn g hg)
   ·rename_i aU;obtain⟨g1,g2⟩:=G2 ha hl sU hs hx (λg hg=>kr g (by grind)) h;refine⟨⟨?_,g1⟩,g2⟩;rw[i1];dsimp only;exact iu (λh'=>by grind) λ_=>trivial
  grind
theorem UP {ask:Ask σ} (ha:ca ask) {ms:Ms T} {p:Path} {e k k0:Nat} {gs:amU} (hl:dh (base e)=some (k0,gs)) (sU:∀s m,(s,m)∈gs->s+m<=(T (base e)).length) (hs:Sat T ms.f ρ p):
 ∀{n:Nat} {xs:amV} {K:σ->Option σ} {s s':σ},(∀x∈xs,x.lt p.nv)->G1 ask ms p e k gs n xs K s=some s'->BS T e k gs n (xs.map (AX.den ms.f ρ))/\∃s1,K s1=some s'
 |0,_,K,s,s',_,h=>⟨trivial,s,h⟩
 |n+1,xs,K,s,s',hx,h=>by simp only[G1]at h;obtain⟨g1,s1,h⟩:=G2 ha hl sU hs (λx cW=>hx x (nE cW)) (λg hg=>hg) h;obtain⟨g2,g3⟩:=UP ha hl sU hs (λx cW=>hx x (mK cW)) h;rw[Bq]at g1;rw[Bp]at g2;exact⟨⟨g1,g2⟩,g3⟩
def MG (n:Nat) (gs:amU):Bool:=gs.all λg=>decide (g.1+g.2<=n)
theorem UQ {n:Nat} {gs:amU} (h:MG n gs=true):∀s m,(s,m)∈gs->s+m<=n:=λs m hm=>by have:=aX.1 h (s,m) hm;grind
def MH (P:Program) (ask:Ask σ) (ms:Ms T) (ann:amU) (p:Path) (d:amR) (t len:Nat) (parts:List (Nat×AS)) (K:Path->σ->Option σ) (s:σ):Option σ:=
 match P.underlying t with
 |some (.slice e0)=>
  if base (bD ann d e0)=e0/\(T (bD ann d e0)).isEmpty=false/\0<len/\len*(T (bD ann d e0)).length<=16777216 then
   (match Di (T (bD ann d e0)).length parts (List.replicate (len*(T (bD ann d e0)).length) .aD)with
   |some fl=>
    if sG (bD ann d e0)=true then
     vp ask ms (bD ann d e0) len (p.ext 1 (ni ms (bD ann d e0) p.nv)) p.nv fl (λp' a=>K ((p'.ext 0 (eZ (af 2 a) (.const len))).put d (.one (Dj ann d p.st.gen (bD ann d e0) a)))) s
    else(match dh e0 with
     |some (_,gs)=>if MG (T e0).length gs=true then G1 ask ms p (bD ann d e0) (T (bD ann d e0)).length gs len fl
      (vp ask ms (bD ann d e0) len (p.ext 1 (ni ms (bD ann d e0) p.nv)) p.nv fl (λp' a=>K ((p'.ext 0 (eZ (af 2 a) (.const len))).put d (.one (Dj ann d p.st.gen (bD ann d e0) a))))) s else none
     |none=>none)
   |none=>none)
  else if base (bD ann d e0)=e0/\(T (bD ann d e0)).isEmpty=false/\len=0/\parts.isEmpty=true then K ((p.ext 1 (ni ms (bD ann d e0) p.nv)).put d (.one (.own (bD ann d e0) (fZ ann d (bD ann d e0)) (p.st.gen (fZ ann d (bD ann d e0))) p.nv))) s else none
 |_=>none
theorem UR {ks:amQ}:∀{k:Nat} {l:amT} {rows:Y9},jD ks k l=some rows->rows.length=k
 |0,l,rows,h=>by simp only[jD,ae]at h;grind
 |k+1,l,rows,h=>by
  simp only[jD]at h;split at h
  ·rename_i r rs h1 h2;simp only[ae]at h;subst h;rw[eH,UR h2]
  grind
theorem afk {P:Program} {ask:Ask σ} (ha:ca ask) {ms:Ms T} {ann:amU} {p:Path} {d:amR} {t len:Nat} {parts:List (Nat×AS)} {K:Path->σ->Option σ} {s s':σ} (h:MH P ask ms ann p d t len parts K s=some s')
 (hs:Sat T ms.f ρ p) (hp:∀q∈parts,q.2.lt p.nv):(qY P T ann (p.st.den ms.f ρ) d t len (parts.map λq=>(q.1,q.2.den ms.f ρ))).wp (ie ms K p ρ):=by
 unfold MH at h;unfold qY;rw[LO];unfold oS;have hn:=λe=>tm (ms:=ms) e hs;split at h
 ·rename_i e0 ht;rw[ht];dsimp only;generalize bD ann d e0=e at h⊢;split at h
  ·rename_i hc;split at h
   ·rename_i fl kx;rw[aC hc];obtain⟨i1,i2⟩:=UN (f:=ms.f) (ρ:=ρ) (n:=p.nv) kx hp (λx hx=>by rw[wa hx];trivial);rw[List.map_replicate]at i1;rw[show AX.den ms.f ρ AX.aD=X.aD from rfl]at i1;rw[i1];dsimp only;have main:∀{s:σ},vp ask ms e len (p.ext 1 (ni ms e p.nv)) p.nv fl (λp' a=>K ((p'.ext 0 (eZ (af 2 a) (.const len))).put d (.one (Dj ann d p.st.gen e a)))) s=some s'->
     ∃rows,jD (T e) len (fl.map (AX.den ms.f ρ))=some rows/\
      ie ms K p ρ ((p.st.den ms.f ρ).put d (.one (match lB ann d with|3=> .c (.sl e rows)|_=> .own e (fZ ann d e) ((p.st.den ms.f ρ).gen (fZ ann d e)) rows))):=λh=>by
     obtain⟨rows,ai,p',a,s1,j0,j1,j2,j3,j4⟩:=G0 ha h (hn e).sat (bQ _) (λx hx=>AX.bg (hn e).nv (i2 x hx));rw[(hn e).aK.eX i2]at j1;rw[bS,df,Zz]at j4;refine⟨rows,j1,?_⟩;have jl:Reach ms p' ai (p'.ext 0 (eZ (af 2 a) (.const len))) ai:= .more j2.sat (gX (aI j3 (by omega)) (dY _ _)) (gW (by
      rw[au _ _ (by omega),ms.h2,cg,j4,UR j1]))
     refine z9 j0 ((hn e).trans (j2.trans jl)) (by unfold Dj;split<;>exact j3) hs ?_;simp only[AS.den,Dj];rcases Nat.decEq (lB ann d) 3 with h3|h3
     ·split
      ·omega
      ·simp only[AX.den,j4];rfl
     ·simp only[h3,AX.den,j4]
    split at h
    ·rename_i b0;obtain⟨rows,j1,g⟩:=main h;rw[j1];dsimp only;rw[aC b0];exact g
    ·rename_i b0;split at h
     ·rename_i k0 gs aj;split at h
      ·rename_i MI;obtain⟨g1,s1,h⟩:=UP ha (ρ:=ρ) (k0:=k0) (by grind) (by rw[hc.1];exact UQ MI) hs i2 h;obtain⟨rows,j1,g⟩:=main h;rw[j1];dsimp only;rw[aQ b0,aj];exact⟨g1,g⟩
      grind
     grind
   grind
  ·rename_i hc;split at h
   ·rename_i mV;rw[aQ hc];have afl:base e=e0/\(T e).isEmpty=false/\len=0/\(parts.map λq=>(q.1,q.2.den ms.f ρ)).isEmpty=true:=by simpa using mV
    rw[aC afl];refine z9 h (hn e) (bQ _) hs ?_;simp only[AS.den,AX.den,bS,df];rfl
   grind
 grind
def G3 (st:aw) (d:amR):Option Nat:=
 match d with
 |some d=>(match je st.boxes d with|some none=>if d<st.aq.length then some d else none|_=>none)
 |none=>none
theorem US (st:aw) (d:amR):kv (st.den f ρ) d=G3 st d:=by
 unfold kv G3;cases d with
 |none=>rfl
 |some d=>
  simp only[aw.den,bP,dI,gF];cases st.boxes[d]?with
  |none=>rfl
  |some q=>cases q<;>rfl
def MJ (ms:Ms T) (e:Nat) (l:aa) (y:Nat):List aa:=inst [y] (ms.zero e)++(eZ (af 2 y) l++inst [y] (ms.base (.sl e)))
theorem UT (ks:amQ) (m:Nat):(fQ ks m).length=m:=by simp[fQ]
theorem UU {ms:Ms T} {p:Path} (e:Nat) {l:aa} (hl:l.lt p.nv) (hs:Sat T ms.f ρ p) (h0:0<=l.den (mu ms.f ρ)):Reach ms p ρ (p.ext 1 (MJ ms e l p.nv)) (bind' ρ p.nv [.sl e (fQ (T e) (l.den (mu ms.f ρ)).toNat)]):=by
 have aL:=eQ ρ p.nv [C.sl e (fQ (T e) (l.den (mu ms.f ρ)).toNat)];refine⟨rfl,fL _ _,hs.ext aL ?_ ?_,aL⟩
 ·exact b8 (gJ (ms.xy e) rfl (by simp)) (b8 (gX (aI (bQ _) (by omega)) (bg (pA _) hl)) (gV ms _ (bQ _)))
 ·refine aJ.append (gI (ms.xy e) rfl ⟨(l.den (mu ms.f ρ)).toNat,by simp[bS]⟩) (aJ.append (gW ?_) (gU ms _ _));rw[au _ _ (by omega),bS,ms.h2,df,UT,aL.dE hl];omega
theorem afm {k:Kd} (h:cR [k]=true):(iX k).kd=k:=by cases k<;>first|rfl|simp[cR]at h
theorem afn {ks:amQ} (h:cR ks=true) (m:Nat):∀r∈fQ ks m,r.map C.kd=ks:=by
 intro r hr;rw[wa hr,da]
 conv=>rhs;rw[<-P1 ks]
 refine cK λk hk=>afm ?_;simp only[cR,aX]at h;simp only[cR,ug,Qm,v9];grind
theorem UW:∀{ks:amQ},cR ks=true->du ks (ks.map mS)=some (ks.map iX)
 |[],_=>rfl
 |k::ks,h=>by
  simp only[cR,ug,aB]at h;have ih:=UW (ks:=ks) h.2;simp only[bu,du,ih];cases k with
  |ptr=>grind
  |int k=>simp[mS,X.gO,X.fq,C.kd,iX]
  |_=>rfl
theorem UX {e:Nat} (iC:cR (T (base e))=true):∀{gs:amU},yT T e ((T (base e)).map mS) gs->gZ T e gs
 |[],_=>trivial
 |(b,m)::gs,h=>by
  refine⟨?_,UX iC h.2⟩;have h1:=h.1;have hk:cR (((T (base e)).drop b).take m)=true:=by simp only[cR,aX]at iC⊢;exact λk hk=>iC k (mK (nE hk))
  rw[<-Bp,<-Bq,UW hk]at h1;omega
def MK (ask:Ask σ) (ms:Ms T) (p:Path) (e:Nat) (K:σ->Option σ) (s:σ):Option σ:=
 if sG e=true then K s else
 match dh (base e)with
 |some (_,gs)=>if MG (T (base e)).length gs=true then Aa ask ms p e ((T (base e)).map vo) gs K s else none
 |none=>none
theorem afo {ask:Ask σ} (ha:ca ask) {ms:Ms T} {p:Path} {e:Nat} {K:σ->Option σ} {s s':σ} (iC:cR (T (base e))=true) (hs:Sat T ms.f ρ p) (h:MK ask ms p e K s=some s'):E4 T e/\∃s1,K s1=some s':=by
 unfold MK at h;split at h
 ·rename_i hl;exact⟨iu (λ_=>trivial) λh'=>by grind,s,h⟩
 ·rename_i hl;split at h
  ·rename_i k gs aj;split at h
   ·rename_i MI;obtain⟨g1,g2⟩:=G2 ha aj (UQ MI) hs (Mr _) (λg hg=>hg) h;rw[Mq]at g1;exact⟨iu (λh'=>by grind) λ_=>by rw[aj];exact UX iC g1,g2⟩
   grind
  grind
def ML (P:Program) (ask:Ask σ) (ms:Ms T) (ann:amU) (p:Path) (d:amR) (t:Nat) (l c:AS) (K:Path->σ->Option σ) (s:σ):Option σ:=
 match P.underlying t,l,c with
 |some (.slice e0), .one (.int _ a), .one (.int _ b)=>
  if base (bD ann d e0)=e0/\(T (bD ann d e0)).isEmpty=false/\cR (T (bD ann d e0))=true/\cR (T e0)=true then
   lF ask p.Γ [a,b.sub a,a.sub b,(aa.const eA).sub b] (λs=>
    match lB ann d,G3 p.st d with
    |2,some dd=>if bD ann d e0=e0 then K {p.ext 1 (MJ ms e0 a p.nv)with st:=(p.st.bC dd (.rows e0 (T e0).length p.nv)).put d (.one (.cq e0 dd p.nv))} s else none
    |0,_=>MK ask ms p (bD ann d e0) (λs=>K ((p.ext 1 (MJ ms (bD ann d e0) a p.nv)).put d (.one (.own (bD ann d e0) (fZ ann d (bD ann d e0)) (p.st.gen (fZ ann d (bD ann d e0))) p.nv))) s) s
    |_,_=>none) s
  else none
 |_,_,_=>none
theorem afp {P:Program} {ask:Ask σ} (ha:ca ask) {ms:Ms T} {ann:amU} {p:Path} {d:amR} {t:Nat} {l c:AS} {K:Path->σ->Option σ} {s s':σ} (h:ML P ask ms ann p d t l c K s=some s')
 (hs:Sat T ms.f ρ p) (hl:l.lt p.nv):(pP P T ann (p.st.den ms.f ρ) d t (l.den ms.f ρ) (c.den ms.f ρ)).wp (ie ms K p ρ):=by
 unfold ML at h;split at h
 ·rename_i e0 ka a kb b ht;split at h
  ·rename_i hc;obtain⟨hn,s1,h⟩:=mw ha h;have n1:=hs.entails (hn a (by simp));have n2:=hs.entails (hn (b.sub a) (by simp));have n3:=hs.entails (hn (a.sub b) (by simp));have n4:=hs.entails (hn ((aa.const eA).sub b) (by simp));rw[br]at n2 n3 n4;rw[cg]at n4;have ea:(AS.one (.int ka a)).den ms.f ρ= .one (.c (.int ka (a.den (mu ms.f ρ)))):=rfl;have eb:(AS.one (.int kb b)).den ms.f ρ= .one (.c (.int kb (b.den (mu ms.f ρ)))):=rfl;unfold pP;rw[ht,ea,eb];simp only[];rw[aC hc,US];dsimp only at h;split at h
   ·rename_i dd h1 h2;rw[h1,h2];split at h
    ·rename_i b0;have hr:=UU (ms:=ms) e0 (show a.lt p.nv from hl) hs n1;simp only[b0,cJ];refine⟨by omega,_,_,_,_,h,hr.sat.ke (xM (xP (aw.bg hr.nv hs.st) dd (l:= .rows e0 (T e0).length p.nv) (bQ _)) _ (bQ _))
      (Wk.put ((Wk.aK hs.wk hs.st hr.aK).bC dd λe2 w2 x2 he=>?_) _ _),hr.nv,hr.aK,?_⟩
     ·simp only[AK.rows.injEq]at he;obtain⟨rfl,rfl,rfl⟩:=he;exact⟨rfl,by rw[bS,df];exact afn hc.2.2.2 _⟩
     ·rw[k8,xO,hr.aK.st hs.st];simp only[AS.den,AX.den,AK.den,bS,df,UT]
    grind
   ·rename_i h1;rw[h1];have hr:=UU (ms:=ms) (bD ann d e0) (show a.lt p.nv from hl) hs n1;obtain⟨gz,s2,h⟩:=afo ha (by grind) hs h;refine⟨⟨by omega,gz⟩,z9 h hr (bQ _) hs ?_⟩;simp only[AS.den,AX.den,bS,df];rfl
   grind
  grind
 grind
def xS (ms:Ms T) (p:Path) (e:Nat) (x:AS) (K:Path->Nat->σ->Option σ) (s:σ):Option σ:=
 match x with
 | .one (.own e' _ _ v)=>if e'=e then K p v s else none
 | .one (.sl e' v)=>if e'=e then K p v s else none
 | .one .bc=>K (p.ext 1 (ni ms e p.nv)) p.nv s
 |_=>none
theorem Dk {ms:Ms T} {p:Path} {e:Nat} {x:AS} {K:Path->Nat->σ->Option σ} {s s':σ} (h:xS ms p e x K s=some s') (hs:Sat T ms.f ρ p) (hx:x.lt p.nv):
 ∃p' v ai,K p' v s=some s'/\Reach ms p ρ p' ai/\v<p'.nv/\mW e (x.den ms.f ρ)=some (ah (ai v)):=by
 unfold xS at h;split at h
 ·split at h
  ·rename_i he;exact⟨p,_,ρ,h, .refl hs,hx,by simp[AS.den,AX.den,mW,he]⟩
  grind
 ·split at h
  ·rename_i he;exact⟨p,_,ρ,h, .refl hs,hx,by simp[AS.den,AX.den,mW,he]⟩
  grind
 ·exact⟨_,p.nv,_,h,tm e hs,bQ _,by simp[AS.den,AX.den,mW,bS,df]⟩
 grind
def G4 (gen:amP) (ann:amU) (d:amR) (e0:Nat):AS->Option (Nat×Nat)
 | .one (.own e' g n _)=>if base e'=e0/\n=gen g/\e'≠1553 then some (e',g)else none
 | .one .bc=>if base (bD ann d e0)=e0 then some (bD ann d e0,fZ ann d (bD ann d e0))else none
 |_=>none
theorem UY {gen:amP} {ann:amU} {d:amR} {e0 e g:Nat} {x:AS} {rows:Y9} (h:G4 gen ann d e0 x=some (e,g)) (hr:mW e (x.den f ρ)=some rows):
 yU gen ann d e0 (x.den f ρ)=some (e,g,rows):=by
 unfold G4 at h;split at h
 ·split at h
  ·rename_i hc;simp only[ae,bT]at h;obtain⟨rfl,rfl⟩:=h;simp only[AS.den,AX.den,mW,cJ,ae]at hr;simp only[AS.den,AX.den,yU,hr];grind
  grind
 ·split at h
  ·rename_i hc;simp only[ae,bT]at h;obtain⟨rfl,rfl⟩:=h;simp only[AS.den,AX.den,mW,ae]at hr;simp[AS.den,AX.den,yU,hr,hc]
  grind
 grind
def aw.dz (st:aw) (g:Nat):aw:={st with gen:=cp st.gen g (st.gen g+1)}
def UZ (ms:Ms T) (e a b y:Nat):List aa:=inst [a,b,y] (ms.app e)++(eZ (af 2 y) ((af 2 a).add (af 2 b))++inst [y] (ms.base (.sl e)))
def MM (ask:Ask σ) (ms:Ms T) (e a b y:Nat) (p:Path) (K:Path->σ->Option σ):σ->Option σ:=
 match p.sn.find? (λq=>Nat.beq q.e e&&Nat.beq q.u b)with
 |some q=>oe ask p.Γ [(af 2 q.a).neg] λt=>match t with|true=>K (p.tf ms ⟨e,a,y,q.b⟩)|false=>K p
 |none=>K p
theorem afq {ask:Ask σ} (ha:ca ask) {ms:Ms T} {e a b y:Nat} {p:Path} {K:Path->σ->Option σ} {s s':σ} {ρ:Kr} (h:MM ask ms e a b y p K s=some s') (hs:Sat T ms.f ρ p) (afr:a<p.nv) (afs:y<p.nv)
 (hv:ah (ρ y)=ah (ρ a)++ah (ρ b)):∃p' s1,K p' s1=some s'/\Reach ms p ρ p' ρ/\p'.nv=p.nv:=by
 unfold MM at h;cases hq:p.sn.find? (λq=>Nat.beq q.e e&&Nat.beq q.u b)with
 |none=>rw[hq]at h;exact⟨p,s,h, .refl hs,rfl⟩
 |some q=>
  rw[hq]at h;dsimp only at h;obtain⟨t,s1,h,ht⟩:=o7 ha h;cases t with
  |false=>exact⟨p,s1,h, .refl hs,rfl⟩
  |true=>have hp:=v8 hq;simp only[aB]at hp;have h1:=bt hp.1;have h2:=bt hp.2;have aN:=hs.sn q (uc hq);obtain⟨r,k1,k2,k3⟩:=aN.val;have hz:=hs.entails (ht rfl (af 2 q.a).neg (by simp));rw[eu,au _ _ (by omega),ms.h2]at hz;have La:ah (ρ q.a)=[]:=qO (by omega);subst h1;subst h2;refine⟨_,s1,h,(Reach.refl hs).tf ⟨afr,afs,aN.b,r,k1,k2,?_⟩,LY _ _ _⟩;grind
def MN (P:Program) (ask:Ask σ) (ms:Ms T) (ann:amU) (p:Path) (d:amR) (t:Nat) (x y:AS) (K:Path->σ->Option σ) (s:σ):Option σ:=
 match P.underlying t with
 |some (.slice e0)=>
  (match lB ann d,G3 p.st d with
  |0,_=>
   (match G4 p.st.gen ann d e0 x with
   |some (e,g)=>
    if(T e).isEmpty=false/\g<5000 then
     xS ms p e x (λp1 a=>xS ms p1 e y λp2 b=>
      gT ask p2.Γ (((aa.const eA).sub (af 2 a)).sub (af 2 b)) λs=>
       conds ask [a,b,p2.nv] ms.CR (p2.ext 1 (UZ ms e a b p2.nv)) (λp3=>MM ask ms e a b p2.nv p3 λp4=>
        K {p4 with st:=(p.st.dz g).put d (.one (.own e g (p.st.gen g+1) p2.nv))}) s) s
    else none
   |none=>none)
  |1,some dd=>
   (match G4 p.st.gen ann d e0 x with
   |some (e,g)=>
    if((T e).isEmpty=false/\e<1000/\g<5000)/\cR (T e)=true then
     xS ms p e x (λp1 a=>xS ms p1 e y λp2 b=>
      lF ask p2.Γ [(af 2 b).bI (-1),((af 2 b).neg).bI 1,((aa.const eA).sub (af 2 a)).bI (-1)] (zU ms p2 e b (.const 0) λp3 s=>
       match k7 p3 e b (.const 0)with
       |some c=>K {p3 with st:=((p.st.dz g).bC dd (.cells (iM (T e) c))).put d (.one (.cn e dd a))} s
       |none=>none)) s
    else none
   |none=>none)
  |2,some dd=>
   (match CY x with
   |true=>
    if wo T e0=false then
     xS ms p e0 y (λp2 b=>gT ask p2.Γ ((aa.const eA).sub (af 2 b)) λs=>
      K {p2 with st:=(p.st.bC dd (.rows e0 (T e0).length b)).put d (.one (.cq e0 dd b))} s) s
    else none
   |false=>none)
  |_,_=>none)
 |_=>none
theorem U0 {st:aw} (h:st.lt n) (g:Nat):(st.dz g).lt n:=⟨h.aq,h.boxes⟩
theorem U1 (st:aw) (g:Nat):(st.dz g).den f ρ=(st.den f ρ).dz g:=rfl
theorem Wk.dz {st:aw} (h:Wk T ρ st) (g:Nat):Wk T ρ (st.dz g):=h
theorem U2 {s:S} {e:Nat} {rows:Y9} (h:dA T s) (hr:mW e s=some rows):(∀r∈rows,r.map C.kd=T e)/\∀r∈rows,∀c∈r,bN T c:=by
 unfold mW at hr;split at hr
 ·split at hr
  ·rename_i he;subst he;simp only[ae]at hr;subst hr;exact GH h rfl
  grind
 ·split at hr
  ·rename_i he;subst he;simp only[ae]at hr;subst hr;exact GH h rfl
  grind
 all_goals grind
theorem aft {P:Program} {ask:Ask σ} (ha:ca ask) {ms:Ms T} {ann:amU} {p:Path} {d:amR} {t:Nat} {x y:AS} {K:Path->σ->Option σ} {s s':σ} (h:MN P ask ms ann p d t x y K s=some s')
 (hs:Sat T ms.f ρ p) (hx:x.lt p.nv) (hy:y.lt p.nv) (aN:dA T (y.den ms.f ρ)):(qZ P T ann (p.st.den ms.f ρ) d t (x.den ms.f ρ) (y.den ms.f ρ)).wp (ie ms K p ρ):=by
 unfold MN at h;unfold qZ;split at h
 ·rename_i e0 ht;rw[ht];dsimp only;rw[US];split at h
  ·rename_i h0;rw[h0];split at h
   ·rename_i e g hg;split at h
    ·rename_i al;obtain⟨p1,a,bJ,h,r1,la,e1⟩:=Dk h hs hx;obtain⟨p2,b,cQ,h,r2,lb,e2⟩:=Dk h r1.sat (AS.bg r1.nv hy);rw[r1.aK.s7 hy]at e2;obtain⟨hn,s1,h⟩:=ix ha h;have hn:=r2.sat.entails hn;have tg:a<p2.nv:=dO la r2.nv;have ea:cQ a=bJ a:=r2.aK a la;rw[br,br,cg,au _ _ (by omega),au _ _ (by omega),ms.h2,ms.h2,ea]at hn;have cw:=UY hg e1;rw[show(p.st.den ms.f ρ).gen=p.st.gen from rfl,cw];simp only[e2];rw[aC al];have aL:=eQ cQ p2.nv [C.sl e (ah (bJ a)++ah (cQ b))];have hr:Reach ms p2 cQ (p2.ext 1 (UZ ms e a b p2.nv)) (bind' cQ p2.nv [.sl e (ah (bJ a)++ah (cQ b))]):=by
      refine⟨rfl,fL _ _,r2.sat.ext aL ?_ ?_,aL⟩
      ·exact b8 (gJ (ms.xv e) rfl (by grind)) (b8 (gX (aI (bQ _) (by omega)) (nd (aI (by omega) (by omega)) (aI (by omega) (by omega)))) (gV ms _ (bQ _)))
      ·refine aJ.append (gI (ms.xv e) rfl ⟨bJ a,cQ b,by simp[aL a tg,aL b lb,ea,bS]⟩) (aJ.append (gW ?_) (gU ms _ _));rw[den_add,au _ _ (by omega),au _ _ (by omega),au _ _ (by omega),bS,aL a tg,aL b lb,ea,ms.h2,ms.h2,ms.h2,df];simp
     obtain⟨p3,s2,h,q3,n3⟩:=o8 ha (V:=λl=>∃e a b,l=[a,b, .sl e (ah a++ah b)]) rfl h ms.zJ
      (by intro v hv;simp only[az,bL,bM]at hv;show v<p2.nv+1;omega) ⟨e,bJ a,cQ b,by simp[aL a tg,aL b lb,ea,bS]⟩ hr.sat
     have n3:p3.nv=p2.nv+1:=n3;obtain⟨p4,s3,h,q4,n4⟩:=afq ha h q3.sat (by omega) (by omega) (by rw[bS,aL a tg,aL b lb,ea,df]);have oh:=((r1.trans r2).trans hr).trans (q3.trans q4);refine⟨by omega,_,_,_,_,h,oh.sat.ke (xM (U0 (aw.bg oh.nv hs.st) g) _ (show p2.nv<p4.nv by omega)) (Wk.put (Wk.dz (Wk.aK hs.wk hs.st oh.aK) g) _ _),oh.nv,oh.aK,?_⟩;rw[k8,U1,oh.aK.st hs.st];simp only[AS.den,AX.den,bS,df]
    grind
   grind
  ·rename_i dd h0 h1;rw[h0,h1];split at h
   ·rename_i e g hg;split at h
    ·rename_i hc;obtain⟨al,iC⟩:=hc;obtain⟨p1,a,bJ,h,r1,la,e1⟩:=Dk h hs hx;obtain⟨p2,b,cQ,h,r2,lb,e2⟩:=Dk h r1.sat (AS.bg r1.nv hy);rw[r1.aK.s7 hy]at e2;obtain⟨hn,s1,h⟩:=mw ha h;have n1:=r2.sat.entails (hn _ (by simp;exact .inl rfl));have n2:=r2.sat.entails (hn (((af 2 b).neg).bI 1) (by simp));have n3:=r2.sat.entails (hn (((aa.const eA).sub (af 2 a)).bI (-1)) (by simp));have tg:a<p2.nv:=dO la r2.nv;have ea:cQ a=bJ a:=r2.aK a la;rw[cO,au _ _ (by omega),ms.h2]at n1;rw[cO,eu,au _ _ (by omega),ms.h2]at n2;rw[cO,br,cg,au _ _ (by omega),ms.h2,ea]at n3;have gP:(ah (cQ b)).length=1:=by omega
     have cw:=UY hg e1;rw[show(p.st.den ms.f ρ).gen=p.st.gen from rfl,cw];simp only[e2];rw[aC al];obtain⟨k1,k2⟩:=U2 aN e2;obtain⟨p3,afu,h,r3,_⟩:=GG h r2.sat lb (dY _ _) (by rw[cg];omega) (by rw[cg];omega) k1 k2;have oh:=(r1.trans r2).trans r3;split at h
     ·rename_i c hm;have hm:=og hm r3.sat;have Dh:=hm.b;simp only at Dh;refine⟨⟨gP,by omega⟩,_,_,_,_,h,oh.sat.ke (xM (xP (U0 (aw.bg oh.nv hs.st) g) dd (l:= .cells (iM (T e) c)) (GQ Dh)) _ (show a<p3.nv from dO tg r3.nv))
       (Wk.put (Wk.cells (Wk.dz (Wk.aK hs.wk hs.st oh.aK) g) dd _) _ _),oh.nv,oh.aK,?_⟩
      rw[k8,xO,U1,oh.aK.st hs.st];simp only[AS.den,AX.den,AK.den];rw[Mn ms iC (rows:=ah (cQ b)) (i:=0) (off:=0) λj hj=>?_,r3.aK a tg,ea];have:=hm.row.cell j hj;simp only[cg,Int.toNat_zero]at this;rw[this,r3.aK b lb,eI]
     grind
    grind
   grind
  ·rename_i dd h0 h1;rw[h0,h1];split at h
   ·rename_i cW;split at h
    ·rename_i al;obtain⟨p2,b,cQ,h,r2,lb,e2⟩:=Dk h hs hy;obtain⟨hn,s1,h⟩:=ix ha h;have hn:=r2.sat.entails hn;rw[br,cg,au _ _ (by omega),ms.h2]at hn;obtain⟨k1,k2⟩:=U2 aN e2;have ex:x.den ms.f ρ= .one .bc:=by
      unfold CY at cW;split at cW
      ·rfl
      ·grind
     rw[e2,ex];simp only[];rw[aC al];refine⟨by omega,_,_,_,_,h,r2.sat.ke (xM (xP (aw.bg r2.nv hs.st) dd (l:= .rows e0 (T e0).length b) lb) _ lb) (Wk.put ((Wk.aK hs.wk hs.st r2.aK).bC dd λe2 w2 x2 he=>?_) _ _),r2.nv,r2.aK,?_⟩
     ·grind
     ·rw[k8,xO,r2.aK.st hs.st];rfl
    grind
   grind
  grind
 grind
end
end Go.Pv
namespace Go.Pv
open Go
noncomputable section
variable {T:ay} {σ:Type} {f:Nat->C->Int} {ρ:Kr} {n:Nat}
def Ab (P:Program) (ask:Ask σ) (ms:Ms T) (ann:amU) (p:Path) (o:Oper) (K:Path->σ->Option σ) (s:σ):Option σ:=
 match o.op with
 | .pick c a b=>Mz ask p o.dst (cY p.st c) (cY p.st a) (cY p.st b) K s
 | .box _ x=>(match tl (cY p.st x)with|some l=>GY p o.dst l K s|none=>none)
 | .alloc e=>if(T e).isEmpty||Nat.ble 1000 e then none else GY p o.dst ((T e).map vo) K s
 | .store t a x=>ME T ask ms p o.dst t (cY p.st a) (cY p.st x) K s
 | .buildSlice t len parts=>MH P ask ms ann p o.dst t len (parts.toList.map λq=>(q.1,cY p.st q.2)) K s
 | .makeSlice t l c=>ML P ask ms ann p o.dst t (cY p.st l) (cY p.st c) K s
 | .call c=>
  (match c.callee with
  | .builtin .append=>
   (match c.args.toList,c.argTypes.toList with
   |[x,y],[t,t']=>if t=t' then MN P ask ms ann p o.dst t (cY p.st x) (cY p.st y) K s else none
   |_,_=>none)
  |_=>zY P ask ms p o.op (xN o.dst K) s)
 |_=>zY P ask ms p o.op (xN o.dst K) s
theorem U3 {P:Program} {ask:Ask σ} (ha:ca ask) {ms:Ms T} {p:Path} {op:Op} {d:amR} {K:Path->σ->Option σ} {s s':σ} (h:zY P ask ms p op (xN d K) s=some s') (hs:Sat T ms.f ρ p) (aU:cA T (p.st.den ms.f ρ)):
 ((fW P T (p.st.den ms.f ρ) op).iW ((p.st.den ms.f ρ).put d)).wp (ie ms K p ρ):=
 (LO _ _ _).2 (R.wp_mono (λ_ hv=>hv.put hs) (UA ha h hs aU))
theorem G5 {P:Program} {ask:Ask σ} (ha:ca ask) {ms:Ms T} {ann:amU} {p:Path} {o:Oper} {K:Path->σ->Option σ} {s s':σ} (h:Ab P ask ms ann p o K s=some s') (hs:Sat T ms.f ρ p) (aU:cA T (p.st.den ms.f ρ)):
 (j6 P T ann (p.st.den ms.f ρ) o).wp (ie ms K p ρ):=by
 have hl:=λx=>fS hs.st x;unfold Ab at h;unfold j6;split at h
 ·rename_i c a b ho;rw[ho];dsimp only;obtain⟨t,h1,h2⟩:=ae5 ha h hs (hl _) (hl _) (hl _);rw[dZ]at h1;rw[h1];simp only[dZ]at h2;exact h2
 ·rename_i e x ho;rw[ho];dsimp only;split at h
  ·rename_i l hc;have hd:=C8 (f:=ms.f) (ρ:=ρ) hc;rw[dZ]at hd;rw[hd];exact UD h hs (C9 hc (hl _))
  ·cases h
 ·rename_i e ho;rw[ho];dsimp only;split at h
  ·cases h
  ·rename_i al;rw[aQ al];have:=UD h hs (Mr _);rw[Mq]at this;exact this
 ·rename_i t a x ho;rw[ho];dsimp only;have:=afj ha h hs (hl a) (hl x) aU;simp only[dZ]at this;exact this
 ·rename_i t len parts ho;rw[ho];dsimp only;have:=afk ha h hs (λq hq=>by
   simp only[aF]at hq;obtain⟨q',_,rfl⟩:=hq;exact hl _)
  simp only[da,pz,dZ]at this;exact this
 ·rename_i t l c ho;rw[ho];dsimp only;have:=afp (c:=cY p.st c) ha h hs (hl l);simp only[dZ]at this;exact this
 ·rename_i c ho;rw[ho];dsimp only;split at h
  ·rename_i hc;rw[hc];dsimp only;split at h
   ·rename_i x y t t' h1 h2;rw[h1,h2];dsimp only;split at h
    ·rename_i ht;rw[aC ht];have:=aft ha h hs (hl x) (hl y) (by rw[dZ];exact Db aU y);simp only[dZ]at this;exact this
    ·cases h
   ·cases h
  ·rename_i hc;rw[ho]at h;have:=U3 ha h hs aU;split
   ·rename_i dF;exact(hc dF).elim
   ·exact this
 ·rename_i h1 h2 h3 h4 h5 h7 h6;have:=U3 ha h hs aU;split
  ·rename_i ho;exact(h1 _ _ _ ho).elim
  ·rename_i ho;exact(h2 _ _ ho).elim
  ·rename_i ho;exact(h3 _ ho).elim
  ·rename_i ho;exact(h4 _ _ _ ho).elim
  ·rename_i ho;exact(h5 _ _ _ ho).elim
  ·rename_i ho;exact(h7 _ _ _ ho).elim
  ·rename_i ho;exact(h6 _ ho).elim
  ·exact this
end
end Go.Pv
namespace Go.Pv
open Go
noncomputable section
variable {T:ay} {σ:Type} {f:Nat->C->Int} {ρ:Kr} {n:Nat}
def AX.cU:AX->List Nat
 | .ptr b _=>[b]
 |_=>[]
def AX.tags (gen:amP):AX->List Nat
 | .own _ g n _=>if n=gen g then[g]else[]
 |_=>[]
def AX.cV (ids brw:amG) (gen:amP):AX->AX
 | .ptr b off=> .ptr (ids.idxOf b) off
 | .own e g n x=>if n=gen g then .own e (j7 brw g) 0 x else .sl e x
 | .cd _ _=> .aD
 | .gb _ _ _ _=> .aD
 | .cn _ _ _=> .aD
 | .cq _ _ _=> .aD
 | .bz e x i off=>bif Nat.beq e 1053 then .aD else .bz e x i off
 | .dn _=> .aD
 |x=>x
def xT (brw:amG) (gen:amP):AX->Bool
 | .own e g n _=>Nat.beq e 1053&&(Nat.beq n (gen g)&&Nat.beq (j7 brw g) 6053)
 |_=>false
def AX.dj (ids brw:amG) (d:Nat) (new:Bool) (gen:amP):AX->AX
 | .ptr i off=>if i<ids.length then .ptr (ids.getD i d) off else(if new then .ptr d off else .aD)
 | .own e g _ x=> .own e (nO brw g) (gen (nO brw g)) x
 | .cd _ _=> .aD
 | .gb _ _ _ _=> .aD
 | .cn _ _ _=> .aD
 | .cq _ _ _=> .aD
 | .bz e x i off=>bif Nat.beq e 1053 then .aD else .bz e x i off
 | .dn _=> .aD
 |x=>x
def AS.xs:AS->List AX
 | .one x=>[x]
 | .agg l=>l
 | .bj l=>l.flatMap λp=>p.2
def AS.bH (g:AX->AX):AS->AS
 | .one x=> .one (g x)
 | .agg l=> .agg (l.map g)
 | .bj l=> .bj (l.map λp=>(p.1,p.2.map g))
theorem Dl (x:AX):(x.den f ρ).cU=x.cU:=by cases x<;>rfl
theorem afv (gen:amP) (x:AX):(x.den f ρ).tags gen=x.tags gen:=by cases x<;>rfl
theorem afw (ids brw:amG) (gen:amP) (x:AX):(x.cV ids brw gen).den f ρ=(x.den f ρ).cV ids brw gen:=by
 cases x with
 |own e g m x=>by_cases h:m=gen g<;>simp[AX.cV,AX.den,X.cV,h]
 |bz e x i off=>simp only[AX.cV,AX.den,X.cV];grind
 |_=>rfl
theorem afx (ids brw:amG) (d:Nat) (new:Bool) (gen:amP) (x:AX):(x.dj ids brw d new gen).den f ρ=(x.den f ρ).dj ids brw d new gen:=by
 cases x with
 |ptr i off=>
  have h1:(AX.ptr i off:AX).den f ρ= .ptr i off:=rfl;rw[h1];by_cases h:i<ids.length
  ·simp only[AX.dj,X.dj,aC h];rfl
  ·cases new
   ·simp only[AX.dj,X.dj,aQ h];rfl
   ·simp only[AX.dj,X.dj,aQ h];rfl
 |bz e x i off=>simp only[AX.dj,AX.den,X.dj];grind
 |_=>rfl
theorem afy {ids brw:amG} {gen:amP} {x:AX} (h:x.lt n):(x.cV ids brw gen).lt n:=by
 cases x with
 |own e g m x=>simp only[AX.cV];split<;>exact h
 |cd b off=>assumption
 |gb b w i off=>exact trivial
 |cn e b x=>exact trivial
 |cq e b x=>exact trivial
 |bz e x i off=>
  first|simp only[AX.cV]|simp only[AX.dj]
  cases Nat.beq e 1053 with
  |true=>exact trivial
  |false=>exact h
 |dn e=>exact trivial
 |_=>exact h
theorem U4 {ids brw:amG} {d:Nat} {new:Bool} {gen:amP} {x:AX} (h:x.lt n):(x.dj ids brw d new gen).lt n:=by
 cases x with
 |ptr i off=>
  simp only[AX.dj];split
  ·assumption
  ·split<;>exact trivial
 |cd b off=>assumption
 |gb b w i off=>exact trivial
 |cn e b x=>exact trivial
 |cq e b x=>exact trivial
 |bz e x i off=>
  first|simp only[AX.cV]|simp only[AX.dj]
  cases Nat.beq e 1053 with
  |true=>exact trivial
  |false=>exact h
 |dn e=>exact trivial
 |_=>exact h
theorem tn (s:AS):(s.den f ρ).xs=s.xs.map (AX.den f ρ):=by
 cases s with
 |one x=>rfl
 |agg l=>rfl
 |bj l=>simp[AS.den,S.xs,AS.xs,uf,Js]
theorem Dm {s:AS} (h:s.lt n):∀x∈s.xs,x.lt n:=by
 cases s with
 |one x=>intro y hy;simp only[AS.xs,a8]at hy;subst hy;exact h
 |agg l=>exact h
 |bj l=>intro y hy;simp only[AS.xs,ba]at hy;obtain⟨q,hq,hy⟩:=hy;exact h q hq y hy
theorem G6 {g:AX->AX} {g':X->X} (hg:∀x,(g x).den f ρ=g' (x.den f ρ)) (s:AS):(s.bH g).den f ρ=(s.den f ρ).bH g':=by
 cases s with
 |one x=>simp only[AS.bH,AS.den,S.bH,hg]
 |agg l=>simp only[AS.bH,AS.den,S.bH,da,pz,hg]
 |bj l=>simp only[AS.bH,AS.den,S.bH,da,pz,hg]
theorem G7 {g:AX->AX} (hg:∀x:AX,x.lt n->(g x).lt n) {s:AS} (h:s.lt n):(s.bH g).lt n:=by
 cases s with
 |one x=>exact hg x h
 |agg l=>intro y hy;simp only[aF]at hy;obtain⟨x,hx,rfl⟩:=hy;exact hg x (h x hx)
 |bj l=>intro q hq y hy;simp only[aF]at hq;obtain⟨q',ku,rfl⟩:=hq;simp only[aF]at hy;obtain⟨x,hx,rfl⟩:=hy;exact hg x (h q' ku x hx)
theorem U5 (brw:amG) (gen:amP) (x:AX):j8 brw gen (x.den f ρ)=xT brw gen x:=by cases x<;>rfl
def MO (brw:amG) (gen:amP) (Ξ:ank) (ls:anr):Bool:=
 !brw.contains 1053||((Ξ.flatMap AS.xs).all (λx=>!xT brw gen x)&&
  (match ls with
  |[]=>true
  |l::r=>(r.flatMap id).all (λx=>!xT brw gen x)&&(l.set (l.findIdx (xT brw gen)) .aD).all λx=>!xT brw gen x))
def Ac (st:aw) (ids:amG):Bool:=ids.all λb=>match je st.boxes b with|some (some (.rows _ _ _))=>false|_=>true
def lH (st:aw):List Nat->Option (List (List AX))
 |[]=>some []
 |b::r=>
  match je st.boxes b,lH st r with
  |some (some (.cells l)),some ls=>some (l::ls)
  |_,_=>none
theorem G8 (st:aw):∀ids,Ac st ids=true->kR (st.den f ρ) ids=(lH st ids).map (List.map (List.map (AX.den f ρ)))
 |[],_=>rfl
 |b::r,h=>by
  have h2:Ac st r=true:=by simp only[Ac,ug,aB]at h⊢;exact h.2
  simp only[Ac,ug,aB,gF]at h;simp only[kR,lH,G8 st r h2,gF];have:(st.den f ρ).boxes[b]?=(st.boxes[b]?).map (Option.map (AK.den f ρ)):=by simp[aw.den]
  rw[this];have h1:=h.1;cases hb:st.boxes[b]?with
  |none=>rfl
  |some o=>
   cases o with
   |none=>rfl
   |some l=>
    cases l with
    |cells l=>cases lH st r<;>rfl
    |rows e w x=>grind
theorem G9 {st:aw}:∀{ids ls},lH st ids=some ls->Ac st ids=true
 |[],_,_=>rfl
 |b::r,ls,h=>by
  simp only[lH,gF]at h;split at h
  ·rename_i l jm h1 h2;have:=G9 h2;unfold Ac at this⊢;simp only[gF]at this⊢;grind
  grind
theorem MP {st:aw} (h:st.lt n):∀{ids ls},lH st ids=some ls->∀l∈ls,∀x∈l,x.lt n
 |[],ls,e=>by simp only[lH,ae,gF]at e;grind
 |b::r,ls,e=>by
  simp only[lH,gF]at e;split at e
  ·rename_i l jm h1 h2;simp only[ae]at e;subst e;intro l' bA;simp only[az]at bA;rcases bA with rfl|bA
   ·exact h.boxes _ (aY h1)
   ·exact MP h h2 l' bA
  grind
def MQ (st:aw) (ss:ank):Option (List Nat):=
 let ids:=l9 [] ((ss.flatMap AS.xs).flatMap AX.cU)
 match lH st ids with
 |some ls=>some (l9 ids ((ls.flatMap id).flatMap AX.cU))
 |none=>none
theorem U6 (l:amV):(l.map (AX.den f ρ)).flatMap X.cU=l.flatMap AX.cU:=by simp only[uf,Dl]
theorem afz (gen:amP) (l:amV):(l.map (AX.den f ρ)).flatMap (X.tags gen)=l.flatMap (AX.tags gen):=by simp only[uf,afv]
theorem Ha (ss:ank):(ss.map (AS.den f ρ)).flatMap S.xs=(ss.flatMap AS.xs).map (AX.den f ρ):=by simp only[uf,Js,tn]
theorem MR (ls:anr):(ls.map (List.map (AX.den f ρ))).flatMap id=(ls.flatMap id).map (AX.den f ρ):=by
 simp_all
theorem afA (brw:amG) (gen:amP) (Ξ:ank) (ls:anr):wQ brw gen (Ξ.map (AS.den f ρ)) (ls.map (List.map (AX.den f ρ)))=MO brw gen Ξ ls:=by
 unfold wQ MO;have key:∀l:amV,(l.map (AX.den f ρ)).all (λx=>!j8 brw gen x)=l.all λx=>!xT brw gen x:=λl=>by rw[Qn];congr 1;funext x;simp only[Bs,U5]
 rw[Ha,key];congr 2;cases ls with
 |nil=>rfl
 |cons l r=>
  simp only[bu];rw[MR,key];congr 1;have h1:(l.map (AX.den f ρ)).findIdx (j8 brw gen)=l.findIdx (xT brw gen):=by rw[List.findIdx_map];congr 1;funext x;simp only[Bs,U5]
  have h2:X.aD=AX.aD.den f ρ:=rfl;rw[h1,h2,<-Br,key]
theorem afB {st:aw} {ss:ank} {ids:amG} (h:MQ st ss=some ids):j9 (st.den f ρ) (ss.map (AS.den f ρ))=ids:=by
 simp only[MQ]at h;split at h
 ·rename_i ls hl;simp only[ae]at h;simp only[j9,Ha,U6,G8 st _ (G9 hl),hl,cj,MR];exact h
 grind
def tt (bs:anm):List Nat->List (List AX)->List (Option AK)
 |b::r,l::ls=>tt (CJ (some (.cells l)) bs b) r ls
 |_,_=>bs
theorem MS:∀(ids:amG) (ls:anr) (bs:anm),
 (tt bs ids ls).map (Option.map (AK.den f ρ))=eU (bs.map (Option.map (AK.den f ρ))) ids (ls.map (List.map (AX.den f ρ)))
 |[],ls,bs=>by rfl
 |b::r,[],bs=>rfl
 |b::r,l::ls,bs=>by simp only[tt,bu,eU];rw[MS r ls];congr 1;simp[vg,Br,AK.den]
theorem MT:∀{ids:amG} {ls:anr} {bs:anm},(∀l,some l∈bs->l.lt n)->(∀l∈ls,∀x∈l,x.lt n)->∀l,some l∈tt bs ids ls->l.lt n
 |[],ls,bs,h,_=>by assumption
 |b::r,[],bs,h,_=>h
 |b::r,l'::ls,bs,h,h'=>MT (ids:=r) (ls:=ls) (λl hl=>by
  rw[vg]at hl;rcases oF hl with h1|h1
  ·grind
  ·simp only[ae]at h1;subst h1;exact h' l' (by simp)) (λl hl=>h' l (by grind))
theorem MU:∀{ids:amG} {ls:anr} {bs:anm} {e w x:Nat},some (.rows e w x)∈tt bs ids ls->some (.rows e w x)∈bs
 |[],ls,bs,_,_,_,h=>by assumption
 |b::r,[],bs,_,_,_,h=>h
 |b::r,l'::ls,bs,e,w,x,h=>by
  have h0:=MU (ids:=r) (ls:=ls) h;rw[vg]at h0;grind
def MV (ms:Ms T) (e v y:Nat):List aa:=inst [v,y] (ms.wk e)++(eZ (af 2 y) (af 2 v)++inst [y] (ms.base (.sl (di e))))
theorem MW (e:Nat) (rows:Y9):C.sl (di e) (ah (eJ 3 (.sl e rows)))=eJ 3 (.sl e rows)/\(ah (eJ 3 (.sl e rows))).length=rows.length:=by
 simp only[eJ];by_cases h:di e=e
 ·have h1:(di e==e)=true:=by simpa using h
  rw[h1];simp only[mJ,ah,h,wg]
 ·have h1:(di e==e)=false:=by simpa using h
  rw[h1];simp[ah]
theorem U7 {ms:Ms T} {p:Path} (e:Nat) {v:Nat} (hv:v<p.nv) (hc:bN T (.sl e (ah (ρ v)))) (hs:Sat T ms.f ρ p):Reach ms p ρ (p.ext 1 (MV ms e v p.nv)) (bind' ρ p.nv [eJ 3 (.sl e (ah (ρ v)))]):=by
 have aL:=eQ ρ p.nv [eJ 3 (.sl e (ah (ρ v)))];refine⟨rfl,fL _ _,hs.ext aL ?_ ?_,aL⟩
 ·exact b8 (gJ (ms.xE e) rfl (by grind)) (b8 (gX (aI (bQ _) (by omega)) (aI (by omega) (by omega))) (gV ms _ (bQ _)))
 ·refine aJ.append (gI (ms.xE e) rfl ⟨ρ v,by simp[bS,aL v hv],hc⟩) (aJ.append (gW ?_) (gU ms _ _));rw[au _ _ (by omega),au _ _ (by omega),bS,aL v hv,ms.h2,ms.h2,(MW e _).2]
def xU (ms:Ms T) (p:Path) (m:CM) (x:AX):Path×AX:=
 match m,x with
 | .plain _, .own e' _ _ v=>(p, .sl e' v)
 | .plain e, .bc=>(p.ext 1 (ni ms e p.nv), .sl e p.nv)
 | .nN _, .own e' _ _ v=>(p, .sl e' v)
 | .nN e, .bc=>(p.ext 1 (ni ms e p.nv), .sl e p.nv)
 | .own e, .bc=>(p.ext 1 (ni ms e p.nv), .own e e (p.st.gen e) p.nv)
 | .sI _, .own e _ _ v=>(p.ext 1 (MV ms e v p.nv), .sl (di e) p.nv)
 | .sI _, .sl e v=>bif di e==e then(p, .sl e v)else(p.ext 1 (MV ms e v p.nv), .sl (di e) p.nv)
 | .sI e, .bc=>(p.ext 1 (ni ms e p.nv), .sl e p.nv)
 |_, .lit s=>(p.ext 1 (Gp ms s p.nv), .str p.nv)
 |_, .bool (.le e)=>(p.ext 1 (inst [p.nv] (ms.base .bool)), .bool (.var p.nv))
 |_, .bool (.eq e)=>(p.ext 1 (inst [p.nv] (ms.base .bool)), .bool (.var p.nv))
 |_, .bool (.not e)=>(p.ext 1 (inst [p.nv] (ms.base .bool)), .bool (.var p.nv))
 |_, .bool (.and e _)=>(p.ext 1 (inst [p.nv] (ms.base .bool)), .bool (.var p.nv))
 |_, .bool (.or e _)=>(p.ext 1 (inst [p.nv] (ms.base .bool)), .bool (.var p.nv))
 |_, .bool (.seq e _)=>(p.ext 1 (inst [p.nv] (ms.base .bool)), .bool (.var p.nv))
 |_,x=>(p,x)
theorem afC {ms:Ms T} {p:Path} (t:ByteArray) (hs:Sat T ms.f ρ p):Reach ms p ρ (p.ext 1 (Gp ms t p.nv)) (bind' ρ p.nv [.str t]):=by
 have aL:=eQ ρ p.nv [C.str t];refine⟨rfl,fL _ _,hs.ext aL ?_ ?_,aL⟩
 ·exact b8 (gJ (ms.qp t) rfl (by simp)) (b8 (gX (aI (bQ _) (by omega)) (dY _ _)) (gV ms _ (bQ _)))
 ·refine aJ.append (gI (ms.qp t) rfl (by simp[bS])) (aJ.append (gW ?_) (gU ms _ _));rw[au _ _ (by omega),bS,ms.h3,cg];rfl
theorem afD {ms:Ms T} {p:Path} (b:Bool) (hs:Sat T ms.f ρ p):Reach ms p ρ (p.ext 1 (inst [p.nv] (ms.base .bool))) (bind' ρ p.nv [.bool b]):=
 ⟨rfl,fL _ _,hs.ext (eQ _ _ _) (gV ms _ (bQ _)) (gU ms _ _),eQ _ _ _⟩
theorem U8 {ms:Ms T} {p:Path} {m:CM} {x:AX} (hs:Sat T ms.f ρ p) (hx:x.lt p.nv) (aN:eP T (x.den ms.f ρ)):
 ∃ai,Reach ms p ρ (xU ms p m x).1 ai/\(xU ms p m x).2.lt (xU ms p m x).1.nv/\(xU ms p m x).2.den ms.f ai=(x.den ms.f ρ).norm p.st.gen m:=by
 have b:∀b:AB,∃ai,Reach ms p ρ (p.ext 1 (inst [p.nv] (ms.base .bool))) ai/\p.nv<p.nv+1/\(AX.bool (.var p.nv)).den ms.f ai= .c (.bool (b.den ms.f ρ)):=
  λb=>⟨_,afD (b.den ms.f ρ) hs,bQ _,by simp[AX.den,AB.den,bS,jh]⟩
 have bn:∀(m:CM) (b:Bool),(X.c (.bool b)).norm p.st.gen m= .c (.bool b):=λm b=>by cases m<;>rfl
 unfold xU;split
 ·exact⟨ρ, .refl hs,hx,rfl⟩
 ·rename_i e;exact⟨_,tm e hs,bQ _,by simp[AX.den,bS,df,X.norm]⟩
 ·exact⟨ρ, .refl hs,hx,rfl⟩
 ·rename_i e;exact⟨_,tm e hs,bQ _,by simp[AX.den,bS,df,X.norm]⟩
 ·rename_i e;exact⟨_,tm e hs,bQ _,by simp[AX.den,bS,df,X.norm]⟩
 ·exact⟨_,U7 _ (show _<p.nv from hx) aN hs,bQ _,by simp only[AX.den,bS,X.norm,(MW _ _).1]⟩
 ·rename_i e v;cases hw:di e==e with
  |true=>exact⟨ρ, .refl hs,hx,by simp only[mJ,AX.den,X.norm,eJ,hw]⟩
  |false=>exact⟨_,U7 _ (show _<p.nv from hx) aN hs,bQ _,by simp only[lS,AX.den,bS,X.norm,(MW _ _).1]⟩
 ·rename_i e;exact⟨_,tm e hs,bQ _,by simp[AX.den,bS,df,X.norm]⟩
 ·rename_i t;exact⟨_,afC t hs,bQ _,by cases m<;>simp[AX.den,bS,X.norm,aA,eJ]⟩
 ·rename_i e;obtain⟨ai,h1,h2,h3⟩:=b (.le e);exact⟨ai,h1,h2,by rw[h3];exact(bn _ _).symm⟩
 ·rename_i e;obtain⟨ai,h1,h2,h3⟩:=b (.eq e);exact⟨ai,h1,h2,by rw[h3];exact(bn _ _).symm⟩
 ·rename_i e;obtain⟨ai,h1,h2,h3⟩:=b (.not e);exact⟨ai,h1,h2,by rw[h3];exact(bn _ _).symm⟩
 ·rename_i e e';obtain⟨ai,h1,h2,h3⟩:=b (.and e e');exact⟨ai,h1,h2,by rw[h3];exact(bn _ _).symm⟩
 ·rename_i e e';obtain⟨ai,h1,h2,h3⟩:=b (.or e e');exact⟨ai,h1,h2,by rw[h3];exact(bn _ _).symm⟩
 ·rename_i e e';obtain⟨ai,h1,h2,h3⟩:=b (.seq e e');exact⟨ai,h1,h2,by rw[h3];exact(bn _ _).symm⟩
 ·rename_i h7 h8 tu tv h9 Ad Hb Hc;refine⟨ρ, .refl hs,hx,?_⟩;cases m with
  |bo=>rfl
  |plain e=>cases x<;>first|rfl|exact(h7 _ _ _ _ _ rfl rfl).elim|grind
  |own e=>cases x<;>first|rfl|grind
  |nN e=>cases x<;>first|rfl|exact(tu _ _ _ _ _ rfl rfl).elim|grind
  |sI e=>cases x<;>first|rfl|exact(Ad _ _ _ _ _ rfl rfl).elim|exact(Hb _ _ _ rfl rfl).elim|grind
def lI (ms:Ms T):Path->List CM->List AX->Path×List AX
 |p,m::xV,x::xs=>let r:=xU ms p m x;let q:=lI ms r.1 xV xs;(q.1,r.2::q.2)
 |p,_,xs=>(p,xs)
theorem MX {ms:Ms T}:∀{cm:List CM} {xs:amV} {p:Path} {ρ:Kr},Sat T ms.f ρ p->(∀x∈xs,x.lt p.nv)->(∀x∈xs,eP T (x.den ms.f ρ))->
 ∃ai,Reach ms p ρ (lI ms p cm xs).1 ai/\(∀x∈(lI ms p cm xs).2,x.lt (lI ms p cm xs).1.nv)/\(lI ms p cm xs).2.map (AX.den ms.f ai)=jk p.st.gen cm (xs.map (AX.den ms.f ρ))
 |[],xs,p,ρ,hs,hx,_=>⟨ρ,by simp only[lI];exact .refl hs,by assumption,by rfl⟩
 |m::cm,[],p,ρ,hs,hx,_=>⟨ρ,by simp only[lI];exact .refl hs,by assumption,by rfl⟩
 |m::cm,x::xs,p,ρ,hs,hx,aN=>by
  obtain⟨bJ,r1,l1,d1⟩:=U8 (m:=m) hs (hx x (by simp)) (aN x (by simp));obtain⟨cQ,r2,l2,d2⟩:=MX (cm:=cm) (xs:=xs) r1.sat (λy hy=>AX.bg r1.nv (hx y (by grind))) (λy hy=>by rw[r1.aK.ax (hx y (by grind))];grind);refine⟨cQ,by simp only[lI];exact r1.trans r2,?_,?_⟩
  ·simp only[lI];intro y hy;simp only[az]at hy;rcases hy with rfl|hy
   ·exact AX.bg r2.nv l1
   grind
  ·simp only[lI,bu,jk];rw[d2,r2.aK.ax l1,d1,r1.st,r1.aK.eX λy hy=>hx y (by grind)]
def xW (ms:Ms T) (p:Path) (cm:List CM):AS->Path×AS
 | .one x=>(match cm with|m::_=>(let r:=xU ms p m x;(r.1, .one r.2))|[]=>(p, .one x))
 | .agg l=>let r:=lI ms p cm l;(r.1, .agg r.2)
 |s=>(p,s)
theorem afE {ms:Ms T} {cm:List CM} {s:AS} {p:Path} (hs:Sat T ms.f ρ p) (hx:s.lt p.nv) (aN:dA T (s.den ms.f ρ)):
 ∃ai,Reach ms p ρ (xW ms p cm s).1 ai/\(xW ms p cm s).2.lt (xW ms p cm s).1.nv/\(xW ms p cm s).2.den ms.f ai=(s.den ms.f ρ).norm p.st.gen cm:=by
 cases s with
 |one x=>
  cases cm with
  |nil=>exact⟨ρ, .refl hs,hx,rfl⟩
  |cons m cm=>obtain⟨bJ,r1,l1,d1⟩:=U8 (m:=m) hs (show x.lt p.nv from hx) aN;exact⟨bJ,r1,l1,by simp only[xW,AS.den,d1,S.norm]⟩
 |agg l=>obtain⟨bJ,r1,l1,d1⟩:=MX (cm:=cm) hs (show∀x∈l,x.lt p.nv from hx) λx cW=>aN _ (aF.2 ⟨x,cW,rfl⟩);exact⟨bJ,r1,l1,by simp only[xW,AS.den,d1,S.norm]⟩
 |bj l=>exact⟨ρ, .refl hs,hx,rfl⟩
def iO (ms:Ms T):Path->List (List CM)->List AS->Path×List AS
 |p,m::am,s::ss=>let r:=xW ms p m s;let q:=iO ms r.1 am ss;(q.1,r.2::q.2)
 |p,_,ss=>(p,ss)
theorem cu.U9 {n:Nat} {ρ ai:Kr} (h:cu n ρ ai) {l:ank} (hl:∀s∈l,s.lt n):l.map (AS.den f ai)=l.map (AS.den f ρ):=cK λs hs=>h.s7 (hl s hs)
theorem Va {ms:Ms T}:∀{am:anq} {ss:ank} {p:Path} {ρ:Kr},Sat T ms.f ρ p->(∀s∈ss,s.lt p.nv)->(∀s∈ss,dA T (s.den ms.f ρ))->
 ∃ai,Reach ms p ρ (iO ms p am ss).1 ai/\(∀s∈(iO ms p am ss).2,s.lt (iO ms p am ss).1.nv)/\(iO ms p am ss).2.map (AS.den ms.f ai)=gQ p.st.gen am (ss.map (AS.den ms.f ρ))
 |[],ss,p,ρ,hs,hx,_=>⟨ρ,by simp only[iO];exact .refl hs,by assumption,by rfl⟩
 |m::am,[],p,ρ,hs,hx,_=>⟨ρ,by simp only[iO];exact .refl hs,by assumption,by rfl⟩
 |m::am,s::ss,p,ρ,hs,hx,aN=>by
  obtain⟨bJ,r1,l1,d1⟩:=afE (cm:=m) hs (hx s (by simp)) (aN s (by simp));obtain⟨cQ,r2,l2,d2⟩:=Va (am:=am) (ss:=ss) r1.sat (λy hy=>AS.bg r1.nv (hx y (by grind))) (λy hy=>by rw[r1.aK.s7 (hx y (by grind))];grind);refine⟨cQ,by simp only[iO];exact r1.trans r2,?_,?_⟩
  ·simp only[iO];intro y hy;simp only[az]at hy;rcases hy with rfl|hy
   ·exact AS.bg r2.nv l1
   grind
  ·simp only[iO,bu,gQ];rw[d2,r2.aK.s7 l1,d1,r1.st,r1.aK.U9 λy hy=>hx y (by grind)]
def mz (ms:Ms T):Path->List (List CM)->List (List AX)->Path×List (List AX)
 |p,m::bm,l::ls=>let r:=lI ms p m l;let q:=mz ms r.1 bm ls;(q.1,r.2::q.2)
 |p,_,ls=>(p,ls)
theorem Vb {ms:Ms T}:∀{bm:anq} {ls:anr} {p:Path} {ρ:Kr},Sat T ms.f ρ p->(∀l∈ls,∀x∈l,x.lt p.nv)->(∀l∈ls,∀x∈l,eP T (x.den ms.f ρ))->
 ∃ai,Reach ms p ρ (mz ms p bm ls).1 ai/\(∀l∈(mz ms p bm ls).2,∀x∈l,x.lt (mz ms p bm ls).1.nv)/\
  (mz ms p bm ls).2.map (List.map (AX.den ms.f ai))=hX p.st.gen bm (ls.map (List.map (AX.den ms.f ρ)))
 |[],ls,p,ρ,hs,hx,_=>⟨ρ,by simp only[mz];exact .refl hs,by assumption,by rfl⟩
 |m::bm,[],p,ρ,hs,hx,_=>⟨ρ,by simp only[mz];exact .refl hs,by assumption,by rfl⟩
 |m::bm,l::ls,p,ρ,hs,hx,aN=>by
  obtain⟨bJ,r1,l1,d1⟩:=MX (cm:=m) hs (hx l (by simp)) (aN l (by simp));obtain⟨cQ,r2,l2,d2⟩:=Vb (bm:=bm) (ls:=ls) r1.sat (λl' hl y hy=>AX.bg r1.nv (hx l' (by grind) y hy)) (λl' hl y hy=>by rw[r1.aK.ax (hx l' (by grind) y hy)];grind);refine⟨cQ,by simp only[mz];exact r1.trans r2,?_,?_⟩
  ·simp only[mz];intro l' bA;simp only[az]at bA;rcases bA with rfl|bA
   ·exact λy hy=>AX.bg r2.nv (l1 y hy)
   grind
  ·simp only[mz,bu,hX];rw[d2,r2.aK.eX l1,d1,r1.st];congr 2;exact cK λl' hl=>r1.aK.eX (hx l' (by grind))
theorem afF {st:aw} (h:cA T (st.den f ρ)):∀{ids:amG} {ls:anr},lH st ids=some ls->∀l∈ls,∀x∈l,eP T (x.den f ρ)
 |ids,ls,hg,l,hl,x,hx=>by
  have hb:some (.cells l)∈st.boxes:=by
   clear h hx x;induction ids generalizing ls with
   |nil=>cases hg;grind
   |cons b r ih=>
    simp only[lH,gF]at hg;grind
  exact h.boxes (l.map (AX.den f ρ)) (aF.2 ⟨some (.cells l),hb,rfl⟩) _ (aF.2 ⟨x,hx,rfl⟩)
def xX (ms:Ms T) (p:Path) (bm:anq) (ids:amG):Path:=
 match lH p.st ids with
 |some ls=>let r:=mz ms p bm ls;{r.1 with st:={p.st with boxes:=tt p.st.boxes ids r.2}}
 |none=>p
theorem afG {ms:Ms T} {p:Path} {bm:anq} {ids:amG} {ls:anr} (hg:lH p.st ids=some ls) (hs:Sat T ms.f ρ p) (aU:cA T (p.st.den ms.f ρ)):
 ∃ai,Sat T ms.f ai (xX ms p bm ids)/\p.nv<=(xX ms p bm ids).nv/\cu p.nv ρ ai/\(xX ms p bm ids).st.den ms.f ai=(p.st.den ms.f ρ).iY bm ids:=by
 unfold xX St.iY;rw[G8 _ _ (G9 hg),hg];obtain⟨bJ,r1,l1,d1⟩:=Vb (bm:=bm) hs (MP hs.st hg) (afF aU hg);have aU:=aw.bg r1.nv hs.st;refine⟨bJ,r1.sat.ke ⟨aU.aq,MT aU.boxes l1⟩ (λe w x hx=>Wk.aK hs.wk hs.st r1.aK e w x (MU hx)),r1.nv,r1.aK,?_⟩;have e:=r1.aK.st (f:=ms.f) hs.st;simp only[aw.den,St.mk.injEq]at e;simp only[aw.den,cj];rw[e.1,MS,e.2.1,d1]
end
end Go.Pv
namespace Go.Pv
open Go
noncomputable section
variable {T:ay} {σ:Type} {f:Nat->C->Int} {ρ:Kr} {n:Nat}
inductive PX where
 |int (k:IntKind)
 |bool
 |str
 |sl (e:Nat)
 |own (e g:Nat)
 |ptr (b off:Nat)
 |fn (f:Nat)
 |dn
inductive PS where
 |one (q:PX)
 |agg (l:List PX)
def PX.ax:PX->Nat->AX
 | .int k,v=> .int k (af 0 v)
 | .bool,v=> .bool (.var v)
 | .str,v=> .str v
 | .sl e,v=> .sl e v
 | .own e g,v=> .own e g 0 v
 | .ptr b off,_=> .ptr b off
 | .fn f,_=> .fV f
 | .dn,v=> .dn (af 0 v)
def PX.fits:PX->X->Bool
 | .int k, .c (.int k' _)=>decide (k'=k)
 | .bool, .c (.bool _)=>true
 | .str, .c (.str _)=>true
 | .sl e, .c (.sl e' _)=>Nat.beq e' e
 | .own e g, .own e' g' n _=>Nat.beq e' e&&Nat.beq g' g&&Nat.beq n 0
 | .ptr b off, .ptr b' pO=>Nat.beq b' b&&Nat.beq pO off
 | .fn f, .fV f'=>Nat.beq f' f
 |_,_=>false
def PX.vr:PX->AX->Bool
 | .int k, .int k' _=>decide (k'=k)
 | .bool, .bool _=>true
 | .str, .str _=>true
 | .sl e, .sl e' _=>Nat.beq e' e
 | .own e g, .own e' g' n _=>Nat.beq e' e&&Nat.beq g' g&&Nat.beq n 0
 | .ptr b off, .ptr b' pO=>Nat.beq b' b&&Nat.beq pO off
 | .fn f, .fV f'=>Nat.beq f' f
 |_,_=>false
def X.dx:X->C
 | .c v=>v
 | .own e _ _ rows=> .sl e rows
 | .dn k=> .int .i64 k
 |_=>default
theorem Vc (ms:Ms T) {q:PX} {x:X} {v:Nat} (h:q.fits x=true) (hv:ρ v=x.dx):(q.ax v).den ms.f ρ=x:=by
 unfold PX.fits at h;split at h
 ·simp only[eN]at h;subst h;simp only[PX.ax,AX.den,au _ _ (show 0<64 by omega),hv,X.dx,ms.h0,cD]
 ·simp[PX.ax,AX.den,AB.den,hv,X.dx,jh]
 ·simp[PX.ax,AX.den,hv,X.dx,aA]
 ·have:=bt h;subst this;simp[PX.ax,AX.den,hv,X.dx,ah]
 ·simp only[aB]at h;have h1:=bt h.1.1;have h2:=bt h.1.2;have h3:=bt h.2;subst h1;subst h2;subst h3;simp[PX.ax,AX.den,hv,X.dx,ah]
 ·simp only[aB]at h;have h1:=bt h.1;have h2:=bt h.2;subst h1;subst h2;rfl
 ·have:=bt h;subst this;rfl
 ·cases h
theorem He {q:PX} {x:AX} (h:q.vr x=true):q.fits (x.den f ρ)=true:=by unfold PX.vr at h;split at h<;>first|exact h|cases h
def eX:List PX->Nat->List AX
 |[],_=>[]
 |q::r,v=>q.ax v::eX r (v+1)
def PS.as:PS->Nat->AS
 | .one q,v=> .one (q.ax v)
 | .agg l,v=> .agg (eX l v)
def PS.len:PS->Nat
 | .one _=>1
 | .agg l=>l.length
def vu:List PS->Nat->List AS
 |[],_=>[]
 |s::r,v=>s.as v::vu r (v+s.len)
def vv:List (List PX)->Nat->List (List AX)
 |[],_=>[]
 |l::r,v=>eX l v::vv r (v+l.length)
def nj:List PX->List X->Bool
 |[],[]=>true
 |q::qs,x::xs=>q.fits x&&nj qs xs
 |_,_=>false
def PS.fits:PS->S->Bool
 | .one q, .one x=>q.fits x
 | .agg l, .agg xs=>nj l xs
 |_,_=>false
def fv:List PS->List S->Bool
 |[],[]=>true
 |q::qs,x::xs=>q.fits x&&fv qs xs
 |_,_=>false
def lJ:List (List PX)->List (List X)->Bool
 |[],[]=>true
 |q::qs,x::xs=>nj q x&&lJ qs xs
 |_,_=>false
def Dn:List PX->List AX->Bool
 |[],[]=>true
 |q::qs,x::xs=>q.vr x&&Dn qs xs
 |_,_=>false
def PS.vr:PS->AS->Bool
 | .one q, .one x=>q.vr x
 | .agg l, .agg xs=>Dn l xs
 |_,_=>false
def Hf:List PS->List AS->Bool
 |[],[]=>true
 |q::qs,x::xs=>q.vr x&&Hf qs xs
 |_,_=>false
def Hg:List (List PX)->List (List AX)->Bool
 |[],[]=>true
 |q::qs,x::xs=>Dn q x&&Hg qs xs
 |_,_=>false
theorem MY:∀{qs:List PX} {xs:amV},Dn qs xs=true->nj qs (xs.map (AX.den f ρ))=true
 |[],[],_=>rfl
 |[],_::_,h=>by cases h
 |_::_,[],h=>by cases h
 |q::qs,x::xs,h=>by simp only[Dn,aB]at h;simp only[bu,nj,aB];exact⟨He h.1,MY h.2⟩
theorem PS.He {q:PS} {s:AS} (h:q.vr s=true):q.fits (s.den f ρ)=true:=by
 unfold PS.vr at h;split at h
 ·exact Pv.He h
 ·exact MY h
 ·cases h
theorem Vd:∀{qs:List PS} {xs:ank},Hf qs xs=true->fv qs (xs.map (AS.den f ρ))=true
 |[],[],_=>rfl
 |[],_::_,h=>by cases h
 |_::_,[],h=>by cases h
 |q::qs,x::xs,h=>by simp only[Hf,aB]at h;simp only[bu,fv,aB];exact⟨PS.He h.1,Vd h.2⟩
theorem Ve:∀{qs:List (List PX)} {xs:anr},Hg qs xs=true->lJ qs (xs.map (List.map (AX.den f ρ)))=true
 |[],[],_=>rfl
 |[],_::_,h=>by cases h
 |_::_,[],h=>by cases h
 |q::qs,x::xs,h=>by simp only[Hg,aB]at h;simp only[bu,lJ,aB];exact⟨MY h.1,Ve h.2⟩
theorem Dp:∀{qs:List PX} {xs:amT},nj qs xs=true->xs.length=qs.length
 |[],[],_=>rfl
 |[],_::_,h=>by cases h
 |_::_,[],h=>by cases h
 |q::qs,x::xs,h=>by simp only[nj,aB]at h;simp[Dp h.2]
theorem PS.Vf {q:PS} {s:S} (h:q.fits s=true):s.xs.length=q.len:=by
 unfold PS.fits at h;split at h
 ·rfl
 ·exact Dp h
 ·cases h
theorem Hh (ms:Ms T):∀{qs:List PX} {xs:amT} {v:Nat},nj qs xs=true->(∀(j:Nat) x,xs[j]?=some x->ρ (v+j)=x.dx)->(eX qs v).map (AX.den ms.f ρ)=xs
 |[],[],_,_,_=>rfl
 |[],_::_,_,h,_=>by cases h
 |_::_,[],_,h,_=>by cases h
 |q::qs,x::xs,v,h,hv=>by simp only[nj,aB]at h;simp only[eX,bu];rw[Vc ms (v:=v) h.1 (hv 0 x rfl),Hh ms h.2 λj y hy=>?_];rw[show v+1+j=v+(j+1)by omega];exact hv (j+1) y (by simpa using hy)
theorem PS.afH (ms:Ms T) {q:PS} {s:S} {v:Nat} (h:q.fits s=true) (hv:∀(j:Nat) x,s.xs[j]?=some x->ρ (v+j)=x.dx):(q.as v).den ms.f ρ=s:=by
 unfold PS.fits at h;split at h
 ·simp only[PS.as,AS.den];rw[Vc ms (v:=v) h (hv 0 _ rfl)]
 ·simp only[PS.as,AS.den];rw[Hh ms h hv]
 ·cases h
theorem Vg (ms:Ms T):∀{qs:List PS} {ss:amZ} {v:Nat},fv qs ss=true->(∀(j:Nat) x,(ss.flatMap S.xs)[j]?=some x->ρ (v+j)=x.dx)->(vu qs v).map (AS.den ms.f ρ)=ss
 |[],[],_,_,_=>rfl
 |[],_::_,_,h,_=>by cases h
 |_::_,[],_,h,_=>by cases h
 |q::qs,s::ss,v,h,hv=>by
  simp only[fv,aB]at h;have hlen:=PS.Vf h.1;simp only[vu,bu];rw[PS.afH ms h.1 λj x hx=>?_,Vg ms h.2 λj y hy=>?_]
  ·rw[show v+q.len+j=v+(q.len+j)by omega];refine hv (q.len+j) y ?_;rw[mN,jR (by omega),hlen,oG];exact hy
  ·refine hv j x ?_;rw[mN,jQ]
   ·exact hx
   ·rcases aT j s.xs.length with h'|h'
    ·exact h'
    ·rw[aW h']at hx;cases hx
theorem Vh (ms:Ms T):∀{qs:List (List PX)} {bs:anb} {v:Nat},lJ qs bs=true->(∀(j:Nat) x,(bs.flatMap id)[j]?=some x->ρ (v+j)=x.dx)->
 (vv qs v).map (List.map (AX.den ms.f ρ))=bs
 |[],[],_,_,_=>rfl
 |[],_::_,_,h,_=>by cases h
 |_::_,[],_,h,_=>by cases h
 |q::qs,s::ss,v,h,hv=>by
  simp only[lJ,aB]at h;have hlen:=Dp h.1;simp only[vv,bu];rw[Hh ms h.1 λj x hx=>?_,Vh ms h.2 λj y hy=>?_]
  ·rw[show v+q.length+j=v+(q.length+j)by omega];refine hv (q.length+j) y ?_;rw[mN,jR (by simp only[id];omega)];simp only[id];rw[hlen,oG];exact hy
  ·refine hv j x ?_;rw[mN,jQ]
   ·exact hx
   ·rcases aT j s.length with h'|h'
    ·exact h'
    ·rw[aW h']at hx;cases hx
def lens:List PS->Nat
 |[]=>0
 |s::r=>s.len+lens r
def lK:List (List PX)->Nat
 |[]=>0
 |s::r=>s.length+lK r
theorem Dq:∀{qs:List PS} {ss:amZ},fv qs ss=true->(ss.flatMap S.xs).length=lens qs/\ss.length=qs.length
 |[],[],_=>⟨rfl,rfl⟩
 |[],_::_,h=>by cases h
 |_::_,[],h=>by cases h
 |q::qs,s::ss,h=>by simp only[fv,aB]at h;have:=Dq h.2;simp only[mN,jS,PS.Vf h.1,this.1,lens,eH,this.2,wg]
theorem xY:∀{qs:List (List PX)} {ss:anb},lJ qs ss=true->(ss.flatMap id).length=lK qs/\ss.length=qs.length
 |[],[],_=>⟨rfl,rfl⟩
 |[],_::_,h=>by cases h
 |_::_,[],h=>by cases h
 |q::qs,s::ss,h=>by simp only[lJ,aB]at h;have:=xY h.2;simp only[mN,jS,id,Dp h.1,this.1,lK,eH,this.2,wg]
structure bk where
 am:List (List CM)
 bm:List (List CM)
 new:Bool
 brw:List Nat
 kp:Bool
 pl:Bool
 args:List PS
 boxes:List (List PX)
 pre:List aa
 ij:aa
 no:Nat
 res:AS
 cZ:List (List AX)
 cases:List (List aa)
 ks:List Kd
 jL:List (Nat×Nat×aa)
 fw:List (Nat×Nat×aa)
def gK (T:ay):List (Nat×Nat×aa)->Nat
 |[]=>0
 |(e,_,_)::r=>(T e).length+gK T r
def bk.nl (a:bk):Nat:=lens a.args+lK a.boxes
def bk.na (T:ay) (a:bk):Nat:=a.nl+gK T a.jL
def rS (ss:amZ) (bs:anb):List X:=ss.flatMap S.xs++bs.flatMap id
def lL (ss:amZ) (bs:anb):Nat->C:=bZ ((rS ss bs).map X.dx)
def comb (ρ0:Kr) (na:Nat) (x:Kr):Nat->C:=λv=>if v<na then ρ0 v else x (v-na)
def pb (T:ay) (f:Nat->C->Int) (ρ:Kr):List (Nat×Nat×aa)->Nat->Prop
 |[],_=>True
 |(e,x,i)::r,b=>nf T f ρ e x i b/\pb T f ρ r (b+(T e).length)
def qu (T:ay) (f:Nat->C->Int):(Nat->C)->List (Nat×Nat×aa)->Nat->(Nat->C)
 |ρ,[],_=>ρ
 |ρ,(e,x,i)::r,b=>qu T f (bind' ρ b ((List.range (T e).length).map λj=>cellAt (ah (ρ x)) (i.den (mu f ρ)).toNat j)) r (b+(T e).length)
def bk.env (f:Nat->C->Int) (a:bk) (ss:amZ) (bs:anb):Nat->C:=qu T f (lL ss bs) a.jL a.nl
def MZ (μ:Nat->Int) (G:Prop):List (List aa)->Prop
 |[]=>False
 |c::r=>(aJ μ c/\G)\/∃c'∈r,aJ μ c'
def bk.Ae (f:Nat->C->Int) (a:bk) (ρ:Kr):Prop:=MZ (mu f ρ) (pb T f ρ a.fw (a.na T+(a.no-gK T a.fw))) a.cases
def bk.dN (ms:Ms T) (a:bk) (N:Option Int):dw:=
 {am:=a.am,bm:=a.bm,new:=a.new,brw:=a.brw,kp:=a.kp,pl:=a.pl
  sp:=λss bs=>if(fv a.args ss&&lJ a.boxes bs)=true then
   some {
    side:=aJ (mu ms.f (a.env (T:=T) ms.f ss bs)) a.pre/\pb T ms.f (a.env (T:=T) ms.f ss bs) a.jL a.nl/\∀n,N=some n->0<=a.ij.den (mu ms.f (a.env (T:=T) ms.f ss bs))/\a.ij.den (mu ms.f (a.env (T:=T) ms.f ss bs))<n,
    A:=Nat->C,post:=λx=>a.Ae (T:=T) ms.f (comb (a.env (T:=T) ms.f ss bs) (a.na T) x),
    res:=λx=>a.res.den ms.f (comb (a.env (T:=T) ms.f ss bs) (a.na T) x),bx:=λx=>a.cZ.map (List.map (AX.den ms.f (comb (a.env (T:=T) ms.f ss bs) (a.na T) x)))}
   else none}
def xZ (T:ay):Nat->List (Nat×Nat×aa)->Prop
 |_,[]=>True
 |n,(e,x,i)::r=>x<n/\i.lt n/\xZ T (n+(T e).length) r
theorem Hi (f:Nat->C->Int):∀(gs:ani) (b:Nat) (ρ:Kr),cu b ρ (qu T f ρ gs b)
 |[],_,_=>λ_ _=>rfl
 |(e,x,i)::r,b,ρ=>(eQ ρ b _).trans (Hi f r _ _) (fL _ _)
def vx (g:Nat->Option aa):List (Nat×Int)->Option aa
 |[]=>some (.const 0)
 |p::r=>(match g p.1,vx g r with|some a,some b=>some ((a.smul p.2).add b)|_,_=>none)
def aa.subst (g:Nat->Option aa) (e:aa):Option aa:=
 match vx g e.l with
 |some a=>some (a.bI e.c)
 |none=>none
theorem Vi {g:Nat->Option aa} {μ vy:Nat->Int} (hg:∀a b,g a=some b->b.den μ=vy a):∀{l:ano} {e:aa},vx g l=some e->e.den μ=b9 vy l
 |[],e,h=>by simp only[vx,ae]at h;subst h;rw[cg];rfl
 |p::r,e,h=>by
  simp only[vx]at h;split at h
  ·rename_i a b h1 h2;simp only[ae]at h;subst h;rw[den_add,s5,hg _ _ h1,Vi hg h2];rfl
  ·cases h
theorem Af {g:Nat->Option aa} {μ vy:Nat->Int} (hg:∀a b,g a=some b->b.den μ=vy a) {e e':aa} (h:e.subst g=some e'):e'.den μ=e.den vy:=by
 unfold aa.subst at h;split at h
 ·rename_i a ha;simp only[ae]at h;subst h;rw[cO,Vi hg ha];simp only[aa.den];omega
 ·cases h
theorem Vj {g:Nat->Option aa} {n:Nat}:∀{l:ano} {e:aa},(∀q∈l,∀b,g q.1=some b->b.lt n)->vx g l=some e->e.lt n
 |[],e,_,h=>by simp only[vx,ae]at h;subst h;exact dY _ _
 |p::r,e,hl,h=>by
  simp only[vx]at h;split at h
  ·rename_i a b h1 h2;simp only[ae]at h;subst h;exact nd (xi _ (hl p (by simp) a h1)) (Vj (λq hq=>hl q (by simp[hq])) h2)
  ·cases h
theorem M0 {g:Nat->Option aa} {n m:Nat} {e e':aa} (he:e.lt m) (hg:∀a,a<64*m->∀b,g a=some b->b.lt n) (h:e.subst g=some e'):e'.lt n:=by
 unfold aa.subst at h;split at h
 ·rename_i a ha;simp only[ae]at h;subst h;exact gS _ (Vj (λq hq=>hg q.1 (he q hq)) ha)
 ·cases h
def oo (g:Nat->Option aa):List aa->Option (List aa)
 |[]=>some []
 |e::r=>(match e.subst g,oo g r with|some a,some b=>some (a::b)|_,_=>none)
theorem Ag {g:Nat->Option aa} {μ vy:Nat->Int} (hg:∀a b,g a=some b->b.den μ=vy a):∀{l l':amY},oo g l=some l'->(aJ μ l'↔aJ vy l)
 |[],l',h=>by simp only[oo,ae]at h;subst h;exact⟨λ_ e he=>((by cases he)),λ_ e he=>((by cases he))⟩
 |e::r,l',h=>by
  simp only[oo]at h;split at h
  ·rename_i a b h1 h2;simp only[ae]at h;subst h;have ih:=Ag hg h2;have he:=Af hg h1;constructor
   ·intro hh x hx;simp only[az]at hx;rcases hx with rfl|hx
    ·rw[<-he];exact hh a (by simp)
    ·exact ih.1 (λy hy=>hh y (by simp[hy])) x hx
   ·intro hh x hx;simp only[az]at hx;rcases hx with rfl|hx
    ·rw[he];exact hh e (by simp)
    ·exact ih.2 (λy hy=>hh y (by simp[hy])) x hx
  ·cases h
theorem Vk {g:Nat->Option aa} {n m:Nat} (hg:∀a,a<64*m->∀b,g a=some b->b.lt n):∀{l l':amY},(∀e∈l,e.lt m)->oo g l=some l'->∀e∈l',e.lt n
 |[],l',_,h=>by simp only[oo,ae]at h;subst h;exact λe he=>by cases he
 |e::r,l',hl,h=>by
  simp only[oo]at h;split at h
  ·rename_i a b h1 h2;simp only[ae]at h;subst h;intro x hx;simp only[az]at hx;rcases hx with rfl|hx
   ·exact M0 (hl e (by simp)) hg h1
   ·exact Vk hg (λy hy=>hl y (by simp[hy])) h2 x hx
  ·cases h
end
abbrev anf:=List (PX×AX)
abbrev anv:=List (List PX)
end Go.Pv
namespace Go.Pv
open Go
noncomputable section
variable {T:ay} {σ:Type} {f:Nat->C->Int} {ρ:Kr} {n:Nat}
def pc {α β:Type} (g:α->Option β):List α->Option (List β)
 |[]=>some []
 |x::r=>(match g x,pc g r with|some a,some b=>some (a::b)|_,_=>none)
theorem Ah {α β γ:Type} {g:α->Option β} {h:α->γ} {h':β->γ} (hg:∀x y,g x=some y->h' y=h x):∀{l:List α} {l':List β},pc g l=some l'->l'.map h'=l.map h
 |[],l',e=>by simp only[pc,ae]at e;subst e;rfl
 |x::r,l',e=>by
  simp only[pc]at e;split at e
  ·rename_i a b h1 h2;simp only[ae]at e;subst e;simp only[bu,hg _ _ h1,Ah hg h2]
  ·cases e
theorem Ai {α β:Type} {g:α->Option β} {P:β->Prop} {Q:α->Prop} (hg:∀x y,Q x->g x=some y->P y):∀{l:List α} {l':List β},(∀x∈l,Q x)->pc g l=some l'->∀y∈l',P y
 |[],l',_,e=>by simp only[pc,ae]at e;subst e;exact λy hy=>by cases hy
 |x::r,l',hq,e=>by
  simp only[pc]at e;split at e
  ·rename_i a b h1 h2;simp only[ae]at e;subst e;intro y hy;simp only[az]at hy;rcases hy with rfl|hy
   ·exact hg _ _ (hq x (by simp)) h1
   ·exact Ai hg (λz hz=>hq z (by simp[hz])) h2 y hy
  ·cases e
def x7 (m:Nat) (e:aa):Option aa:=
 if m=0 then some e
 else if 20<=m/\m<51 then
  (match e with
  |⟨c,[]⟩=>some (.const (if c=Int.ofNat (m-20)then 1 else 0))
  |⟨0,[(a,1)]⟩=>if a%64=0 then some (af m (a/64))else none
  |_=>none)
 else none
theorem Dr (ms:Ms T) {m:Nat} {e b:aa} {k:IntKind} (h:x7 m e=some b):b.den (mu ms.f ρ)=ms.f m (.int k (e.den (mu ms.f ρ))):=by
 unfold x7 at h;split at h
 ·rename_i h0;simp only[ae]at h;subst h;rw[h0,ms.h0];rfl
 ·split at h
  ·rename_i hm;have hk:=ms.hb.ind (m-20) (by omega) (.int k (e.den (mu ms.f ρ)));rw[show 20+(m-20)=m by omega]at hk;rw[hk];split at h
   ·rename_i c;simp only[ae]at h;subst h;rw[cg];simp only[cD,aa.den,b9,Qk,Jp]
   ·rename_i a;split at h
    ·rename_i ha;simp only[ae]at h;subst h;have h2:=ms.hb.ind (m-20) (by omega) (ρ (a/64));rw[show 20+(m-20)=m by omega]at h2;rw[au _ _ (by omega),h2];have e:cD (ρ (a/64))=aa.den (mu ms.f ρ) ⟨0,[(a,1)]⟩:=by simp only[aa.den,b9,mu,ha,ms.h0];omega
     rw[e];rfl
    ·cases h
   ·cases h
  ·cases h
theorem M1 {m:Nat} {e b:aa} (h:x7 m e=some b) (he:e.lt n):b.lt n:=by
 unfold x7 at h;split at h
 ·simp only[ae]at h;subst h;exact he
 ·split at h
  ·split at h
   ·simp only[ae]at h;subst h;exact dY _ _
   ·rename_i a;split at h
    ·simp only[ae]at h;subst h;have:=he (a,1) (by simp);simp only at this;exact aI (by omega) (by omega)
    ·cases h
   ·cases h
  ·cases h
def nk (ms:Ms T) (L:amV) (na nv a:Nat):Option aa:=
 if a/64<na then
  (match L[a/64]?with
  |some (.int _ e)=>x7 (a%64) e
  |some (.bool (.lit b))=>if a%64=1 then some (.const (if b then 1 else 0))else none
  |some (.bool (.var x))=>if a%64=1 then some (af 1 x)else none
  |some (.str x)=>if ms.qo (a%64)= .str then some (af (a%64) x)else none
  |some (.sl _ x)=>if ms.qo (a%64)= .rows then some (af (a%64) x)else none
  |some (.own _ _ _ x)=>if ms.qo (a%64)= .rows then some (af (a%64) x)else none
  |_=>none)
 else some (af (a%64) (nv+(a/64-na)))
def vz (ms:Ms T) (L:amV) (na nv:Nat):AX->Option AX
 | .int k e=>(match e.subst (nk ms L na nv)with|some e=>some (.int k e)|none=>none)
 | .bool (.lit b)=>some (.bool (.lit b))
 | .bool (.var j)=>if j<na then(match L[j]?with|some (.bool b)=>some (.bool b)|_=>none)else some (.bool (.var (nv+(j-na))))
 | .str j=>if j<na then(match L[j]?with|some (.str x)=>some (.str x)|_=>none)else some (.str (nv+(j-na)))
 | .sl e j=>if j<na then(match L[j]?with|some (.sl _ x)=>some (.sl e x)|some (.own _ _ _ x)=>some (.sl e x)|_=>none)else some (.sl e (nv+(j-na)))
 | .own e g m j=>if j<na then(match L[j]?with|some (.sl _ x)=>some (.own e g m x)|some (.own _ _ _ x)=>some (.own e g m x)|_=>none)else some (.own e g m (nv+(j-na)))
 | .ptr b off=>some (.ptr b off)
 | .bc=>some .bc
 | .hH=>some .hH
 | .fV f=>some (.fV f)
 | .lit s=>some (.lit s)
 |_=>none
def Ds (ms:Ms T) (L:amV) (na nv:Nat):AS->Option AS
 | .one x=>(match vz ms L na nv x with|some y=>some (.one y)|none=>none)
 | .agg l=>(match pc (vz ms L na nv) l with|some y=>some (.agg y)|none=>none)
 | .bj l=>(match pc (λq:Bool×List AX=>match pc (vz ms L na nv) q.2 with|some y=>some (q.1,y)|none=>none) l with|some y=>some (.bj y)|none=>none)
structure Fit (ms:Ms T) (L:amV) (na nv:Nat) (ρ0 ai:Kr):Prop where
 leaf:∀(j:Nat) x,j<na->L[j]?=some x->ρ0 j=(x.den ms.f ai).dx
 out:∀j,na<=j->ρ0 j=ai (nv+(j-na))
theorem Aj {ms:Ms T} {L:amV} {na nv:Nat} {ρ0 ai:Kr} (hf:Fit ms L na nv ρ0 ai) (a:Nat) (b:aa) (h:nk ms L na nv a=some b):b.den (mu ms.f ai)=mu ms.f ρ0 a:=by
 have hm:a%64<64:=mI _ (by omega);unfold nk at h;simp only[mu];split at h
 ·rename_i hj;split at h
  ·rename_i k e hx;rw[hf.leaf _ _ hj hx];exact Dr ms h
  ·rename_i c hx;split at h
   ·rename_i h0;simp only[ae]at h;subst h;rw[hf.leaf _ _ hj hx,h0,ms.h1,cg];rfl
   ·cases h
  ·rename_i x hx;split at h
   ·rename_i h0;simp only[ae]at h;subst h;rw[hf.leaf _ _ hj hx,h0,au _ _ (by omega),ms.h1,ms.h1];rfl
   ·cases h
  ·rename_i x hx;split at h
   ·rename_i h0;simp only[ae]at h;subst h;rw[hf.leaf _ _ hj hx,au _ _ hm];exact ms.LK _ h0 _
   ·cases h
  ·rename_i e x hx;split at h
   ·rename_i h0;simp only[ae]at h;subst h;rw[hf.leaf _ _ hj hx,au _ _ hm];exact ms.CO _ h0 _ _
   ·cases h
  ·rename_i e g m x hx;split at h
   ·rename_i h0;simp only[ae]at h;subst h;rw[hf.leaf _ _ hj hx,au _ _ hm];exact ms.CO _ h0 _ _
   ·cases h
  ·cases h
 ·rename_i hj;simp only[ae]at h;subst h;rw[au _ _ hm,hf.out _ (by omega)]
theorem M3 {ms:Ms T} {L:amV} {na no nv:Nat} (hL:∀x∈L,x.lt nv):∀a,a<64*(na+no)->∀b,nk ms L na nv a=some b->b.lt (nv+no):=by
 intro a ha b h;have hm:a%64<64:=mI _ (by omega);have up:∀{x:Nat} {y:AX},L[a/64]?=some y->(y.lt nv->x<nv)->x<nv+no:=λhx hy=>by have:=hy (hL _ (aY hx));omega
 unfold nk at h;split at h
 ·split at h
  ·rename_i hx;exact bg (fL _ _) (M1 h (hL _ (aY hx)))
  ·split at h
   ·simp only[ae]at h;subst h;exact dY _ _
   ·cases h
  ·rename_i hx;split at h
   ·simp only[ae]at h;subst h;exact aI (up hx id) (by omega)
   ·cases h
  ·rename_i hx;split at h
   ·simp only[ae]at h;subst h;exact aI (up hx id) hm
   ·cases h
  ·rename_i hx;split at h
   ·simp only[ae]at h;subst h;exact aI (up hx id) hm
   ·cases h
  ·rename_i hx;split at h
   ·simp only[ae]at h;subst h;exact aI (up hx id) hm
   ·cases h
  ·cases h
 ·simp only[ae]at h;subst h;exact aI (by omega) hm
theorem Hj {ms:Ms T} {L:amV} {na nv:Nat} {ρ0 ai:Kr} (hf:Fit ms L na nv ρ0 ai) (x y:AX) (h:vz ms L na nv x=some y):y.den ms.f ai=x.den ms.f ρ0:=by
 unfold vz at h;split at h
 ·split at h
  ·rename_i e' he;simp only[ae]at h;subst h;simp only[AX.den,Af (Aj hf) he]
  ·cases h
 ·simp only[ae]at h;subst h;rfl
 ·split at h
  ·rename_i hj;split at h
   ·rename_i hx;simp only[ae]at h;subst h;simp only[AX.den,AB.den,hf.leaf _ _ hj hx,X.dx,jh]
   ·cases h
  ·rename_i hj;simp only[ae]at h;subst h;simp only[AX.den,AB.den,hf.out _ (EG hj)]
 ·split at h
  ·rename_i hj;split at h
   ·rename_i hx;simp only[ae]at h;subst h;simp only[AX.den,hf.leaf _ _ hj hx,X.dx,aA]
   ·cases h
  ·rename_i hj;simp only[ae]at h;subst h;simp only[AX.den,hf.out _ (EG hj)]
 ·split at h
  ·rename_i hj;split at h
   ·rename_i hx;simp only[ae]at h;subst h;simp only[AX.den,hf.leaf _ _ hj hx,X.dx,df]
   ·rename_i hx;simp only[ae]at h;subst h;simp only[AX.den,hf.leaf _ _ hj hx,X.dx,df]
   ·cases h
  ·rename_i hj;simp only[ae]at h;subst h;simp only[AX.den,hf.out _ (EG hj)]
 ·split at h
  ·rename_i hj;split at h
   ·rename_i hx;simp only[ae]at h;subst h;simp only[AX.den,hf.leaf _ _ hj hx,X.dx,df]
   ·rename_i hx;simp only[ae]at h;subst h;simp only[AX.den,hf.leaf _ _ hj hx,X.dx,df]
   ·cases h
  ·rename_i hj;simp only[ae]at h;subst h;simp only[AX.den,hf.out _ (EG hj)]
 ·simp only[ae]at h;subst h;rfl
 ·simp only[ae]at h;subst h;rfl
 ·simp only[ae]at h;subst h;rfl
 ·simp only[ae]at h;subst h;rfl
 ·simp only[ae]at h;subst h;rfl
 ·cases h
theorem Hk {ms:Ms T} {L:amV} {na no nv:Nat} (hL:∀x∈L,x.lt nv) (x y:AX) (hx:x.lt (na+no)) (h:vz ms L na nv x=some y):y.lt (nv+no):=by
 have up:∀{j:Nat} {y:AX},L[j]?=some y->y.lt (nv+no):=λhx=>AX.bg (fL _ _) (hL _ (aY hx));unfold vz at h;split at h
 ·split at h
  ·rename_i e' he;simp only[ae]at h;subst h;exact M0 hx (M3 hL) he
  ·cases h
 ·simp only[ae]at h;subst h;trivial
 ·split at h
  ·split at h
   ·rename_i hl;simp only[ae]at h;subst h;have hu:=up hl;exact hu
   ·cases h
  ·rename_i hj;simp only[ae]at h;subst h;have hx:_<na+no:=hx;show _<nv+no;omega
 ·split at h
  ·split at h
   ·rename_i hl;simp only[ae]at h;subst h;have hu:=up hl;exact hu
   ·cases h
  ·rename_i hj;simp only[ae]at h;subst h;have hx:_<na+no:=hx;show _<nv+no;omega
 ·split at h
  ·split at h
   ·rename_i hl;simp only[ae]at h;subst h;have hu:=up hl;exact hu
   ·rename_i hl;simp only[ae]at h;subst h;have hu:=up hl;exact hu
   ·cases h
  ·rename_i hj;simp only[ae]at h;subst h;have hx:_<na+no:=hx;show _<nv+no;omega
 ·split at h
  ·split at h
   ·rename_i hl;simp only[ae]at h;subst h;have hu:=up hl;exact hu
   ·rename_i hl;simp only[ae]at h;subst h;have hu:=up hl;exact hu
   ·cases h
  ·rename_i hj;simp only[ae]at h;subst h;have hx:_<na+no:=hx;show _<nv+no;omega
 ·simp only[ae]at h;subst h;trivial
 ·simp only[ae]at h;subst h;trivial
 ·simp only[ae]at h;subst h;trivial
 ·simp only[ae]at h;subst h;trivial
 ·simp only[ae]at h;subst h;trivial
 ·cases h
theorem afI {ms:Ms T} {L:amV} {na nv:Nat} {ρ0 ai:Kr} (hf:Fit ms L na nv ρ0 ai) {x y:AS} (h:Ds ms L na nv x=some y):y.den ms.f ai=x.den ms.f ρ0:=by
 unfold Ds at h;split at h
 ·split at h
  ·rename_i z hz;simp only[ae]at h;subst h;simp only[AS.den,Hj hf _ _ hz]
  ·cases h
 ·split at h
  ·rename_i z hz;simp only[ae]at h;subst h;simp only[AS.den,Ah (Hj hf) hz]
  ·cases h
 ·split at h
  ·rename_i z hz;simp only[ae]at h;subst h;simp only[AS.den];congr 1;refine Ah (λq q' hq=>?_) hz;split at hq
   ·rename_i l hl;simp only[ae]at hq;subst hq;simp only[Ah (Hj hf) hl]
   ·cases hq
  ·cases h
theorem afJ {ms:Ms T} {L:amV} {na no nv:Nat} (hL:∀x∈L,x.lt nv) {x y:AS} (hx:x.lt (na+no)) (h:Ds ms L na nv x=some y):y.lt (nv+no):=by
 unfold Ds at h;split at h
 ·split at h
  ·rename_i z hz;simp only[ae]at h;subst h;exact Hk hL _ _ hx hz
  ·cases h
 ·split at h
  ·rename_i z hz;simp only[ae]at h;subst h;exact Ai (Hk hL) hx hz
  ·cases h
 ·split at h
  ·rename_i z hz;simp only[ae]at h;subst h;refine Ai (Q:=λq:Bool×List AX=>∀x∈q.2,x.lt (na+no)) (P:=λq:Bool×List AX=>∀x∈q.2,x.lt (nv+no)) (λq q' hq ku=>?_) hx hz;split at ku
   ·rename_i l hl;simp only[ae]at ku;subst ku;exact Ai (Hk hL) hq hl
   ·cases ku
  ·cases h
end
end Go.Pv
namespace Go.Pv
open Go
noncomputable section
variable {T:ay} {σ:Type} {f:Nat->C->Int} {ρ:Kr} {n:Nat}
def aa.fT (n:Nat) (e:aa):Bool:=e.l.all λp=>Nat.blt p.1 (64*n)
def AX.fT (n:Nat):AX->Bool
 | .int _ e=>e.fT n
 | .bool (.lit _)=>true
 | .bool (.var x)=>Nat.blt x n
 | .bool _=>false
 | .str x=>Nat.blt x n
 | .sl _ x=>Nat.blt x n
 | .own _ _ _ x=>Nat.blt x n
 | .bz _ _ _ _=>false
 | .cd _ _=>false
 | .gb _ _ _ _=>false
 | .cn _ _ _=>false
 | .cq _ _ _=>false
 | .dn _=>false
 |_=>true
def AS.fT (n:Nat):AS->Bool
 | .one x=>x.fT n
 | .agg l=>l.all (AX.fT n)
 | .bj l=>l.all λp=>p.2.all (AX.fT n)
theorem Ak {e:aa} (h:e.fT n=true):e.lt n:=λp hp=>by have:=aX.1 h p hp;simp_all
theorem Dt {x:AX} (h:x.fT n=true):x.lt n:=by
 cases x with
 |int k e=>exact Ak h
 |bool b=>cases b<;>first|trivial|exact fy h|cases h
 |str x=>exact fy h
 |sl e x=>exact fy h
 |own e g m x=>exact fy h
 |bz e x i off=>cases h
 |cd b off=>cases h
 |gb b w i off=>cases h
 |cn e b x=>cases h
 |cq e b x=>cases h
 |dn e=>cases h
 |_=>trivial
theorem Hl {x:AX} (h:x.fT n=true):(x.den f ρ).zi=false:=by cases x<;>first|rfl|cases h
theorem afK {s:AS} (h:s.fT n=true):s.lt n:=by
 cases s with
 |one x=>exact Dt h
 |agg l=>exact λx hx=>Dt (aX.1 h x hx)
 |bj l=>exact λp hp x hx=>Dt (aX.1 (aX.1 h p hp) x hx)
def Du (T:ay):Nat->List (Nat×Nat×aa)->Bool
 |_,[]=>true
 |n,(e,x,i)::r=>Nat.blt x n&&i.fT n&&Du T (n+(T e).length) r
theorem M4:∀{gs:ani} {n:Nat},Du T n gs=true->xZ T n gs
 |[],_,_=>trivial
 |(e,x,i)::r,n,h=>by simp only[Du,aB]at h;exact⟨fy h.1.1,Ak h.1.2,M4 h.2⟩
def bk.wf (T:ay) (a:bk):Bool:=
 Du T a.nl a.jL&&Du T (a.na T+(a.no-gK T a.fw)) a.fw&&Nat.ble (gK T a.fw) a.no&&
 a.pre.all (aa.fT (a.na T))&&a.cases.all (λc=>c.all (aa.fT (a.na T+a.no)))&&a.ij.fT (a.na T)&&a.cZ.all (λl=>!l.isEmpty)&&(a.res.xs.all λx=>AX.fT (a.na T+a.no) x)&&a.res.fT (a.na T+a.no)&&a.cZ.all (λl=>l.all (AX.fT (a.na T+a.no)))&&
 Nat.beq a.cZ.length (a.boxes.length+a.new.toNat)&&(a.res.xs.flatMap AX.cU).all (λb=>Nat.blt b (a.boxes.length+a.new.toNat))&&
 ((a.cZ.flatMap id).flatMap AX.cU).all (λb=>Nat.blt b (a.boxes.length+a.new.toNat))&&
 (!a.kp||(match a.boxes,a.cZ with|q::_,l::_=>decide (l=eX q (lens a.args))|_,_=>false))&&(!a.pl||(!a.new&&(a.res.xs.flatMap AX.cU).isEmpty))
structure bk.WF (T:ay) (a:bk):Prop where
 jL:xZ T a.nl a.jL
 fw:xZ T (a.na T+(a.no-gK T a.fw)) a.fw
 afL:gK T a.fw<=a.no
 pre:∀g∈a.pre,g.lt (a.na T)
 cases:∀c∈a.cases,∀g∈c,g.lt (a.na T+a.no)
 ij:a.ij.lt (a.na T)
 ne:∀l∈a.cZ,l≠[]
 op:(∀y∈a.res.xs,y.fT (a.na T+a.no)=true)/\∀l∈a.cZ,∀y∈l,y.fT (a.na T+a.no)=true
 res:a.res.lt (a.na T+a.no)
 cZ:∀l∈a.cZ,∀x∈l,x.lt (a.na T+a.no)
 len:a.cZ.length=a.boxes.length+a.new.toNat
 kp:a.kp=true->∃q qs l ls,a.boxes=q::qs/\a.cZ=l::ls/\l=eX q (lens a.args)
 pl:a.pl=true->a.new=false/\∀y∈a.res.xs,y.cU=[]
 tight:(∀y∈a.res.xs,∀b∈y.cU,b<a.boxes.length+a.new.toNat)/\∀l∈a.cZ,∀y∈l,∀b∈y.cU,b<a.boxes.length+a.new.toNat
theorem bk.x9 {a:bk} (h:a.wf T=true):a.WF T:=by
 simp only[bk.wf,aB]at h;obtain⟨⟨⟨⟨⟨⟨⟨⟨⟨⟨⟨⟨⟨⟨g1,g2⟩,g3⟩,h1⟩,h2⟩,h8⟩,h9⟩,tu⟩,h3⟩,h4⟩,h5⟩,h6⟩,h7⟩,tv⟩,Ad⟩:=h;refine⟨M4 g1,M4 g2,fy g3,λg hg=>Ak (aX.1 h1 g hg),λc hc g hg=>Ak (aX.1 (aX.1 h2 c hc) g hg),Ak h8,λl hl e=>(by grind),
  ⟨λy hy=>aX.1 tu y hy,λl hl y hy=>aX.1 (aX.1 h4 l hl) y hy⟩,afK h3,λl hl x hx=>Dt (aX.1 (aX.1 h4 l hl) x hx),bt h5,λhk=>?_,λhp=>?_,λy hy b hb=>?_,λl hl y hy b hb=>?_⟩
 ·grind
 ·simp_all
 ·exact fy (aX.1 h6 b (ba.2 ⟨y,hy,hb⟩))
 ·exact fy (aX.1 h7 b (ba.2 ⟨y,ba.2 ⟨l,hl,hy⟩,hb⟩))
def M5 (st:aw) (d:amR):Bool:=
 match d with
 |some d=>(match je st.boxes d with|some none=>decide (d<st.aq.length)|_=>false)
 |none=>false
theorem afM (st:aw) (d:amR):uK (st.den f ρ) d=M5 st d:=by
 cases d with
 |none=>rfl
 |some d=>
  simp only[uK,M5,gF];have:(st.den f ρ).boxes[d]?=(st.boxes[d]?).map (Option.map (AK.den f ρ)):=by simp[aw.den]
  rw[this];cases st.boxes[d]?with
  |none=>rfl
  |some o=>
   cases o with
   |none=>simp[aw.den]
   |some l=>rfl
def Path.ke (p:Path) (st:aw):Path:=⟨st,p.Γ,p.nv,p.gH,p.gh,p.sn⟩
def vA (st:aw) (new:Bool) (d:amR) (ids brw gs:amG) (res:AS) (cZ:anr):aw:=
 aw.put ⟨st.aq,tt st.boxes (if new then ids++d.toList else ids) (cZ.map (List.map (AX.dj ids brw (d.getD 0) new (fE st.gen (eT brw gs))))),fE st.gen (eT brw gs)⟩ d (res.bH (AX.dj ids brw (d.getD 0) new (fE st.gen (eT brw gs))))
theorem afN {st:aw} {new:Bool} {d:amR} {ids brw gs:amG} {res:AS} {cZ:anr} (aU:st.lt n) (hr:res.lt n) (hb:∀l∈cZ,∀y∈l,y.lt n):(vA st new d ids brw gs res cZ).lt n:=by
 have h1:∀l∈cZ.map (List.map (AX.dj ids brw (d.getD 0) new (fE st.gen (eT brw gs)))),∀y∈l,y.lt n:=by intro l hl y hy;simp only[aF]at hl;obtain⟨l0,dc,rfl⟩:=hl;simp only[aF]at hy;obtain⟨y0,iK,rfl⟩:=hy;exact U4 (hb l0 dc y0 iK)
 have h2:aw.lt n ⟨st.aq,tt st.boxes (if new then ids++d.toList else ids) (cZ.map (List.map (AX.dj ids brw (d.getD 0) new (fE st.gen (eT brw gs))))),fE st.gen (eT brw gs)⟩:=⟨aU.aq,MT aU.boxes h1⟩
 exact xM h2 _ (G7 (λy hy=>U4 hy) hr)
theorem afO {ρ:Kr} {st:aw} (h:Wk T ρ st) {new:Bool} {d:amR} {ids brw gs:amG} {res:AS} {cZ:anr}:Wk T ρ (vA st new d ids brw gs res cZ):=
 Wk.put (st:=⟨st.aq,tt st.boxes (if new then ids++d.toList else ids) (cZ.map (List.map (AX.dj ids brw (d.getD 0) new (fE st.gen (eT brw gs))))),fE st.gen (eT brw gs)⟩) (λe w x hx=>h e w x (MU hx)) d _
theorem afP (st:aw) (new:Bool) (d:amR) (ids brw gs:amG) (res:AS) (cZ:anr):(vA st new d ids brw gs res cZ).den f ρ=
 ({aq:=(st.den f ρ).aq,boxes:=eU (st.den f ρ).boxes (if new then ids++d.toList else ids) ((cZ.map (List.map (AX.den f ρ))).map (List.map (X.dj ids brw (d.getD 0) new (fE st.gen (eT brw gs))))),gen:=fE st.gen (eT brw gs)}:St).put d
  ((res.den f ρ).bH (X.dj ids brw (d.getD 0) new (fE st.gen (eT brw gs)))):=by
 have m5:=λy=>afx (f:=f) (ρ:=ρ) ids brw (d.getD 0) new (fE st.gen (eT brw gs)) y;rw[vA,k8,G6 m5];congr 1;simp only[aw.den,St.mk.injEq,lU,true_and];rw[MS];congr 1;simp_all
def Hm (k:List aa->σ->Option σ):List (List aa)->σ->Option σ
 |[],s=>some s
 |c::r,s=>match k c s with|some s'=>Hm k r s'|none=>none
theorem Vl {k:List aa->σ->Option σ}:∀{cs:List (List aa)} {s s':σ},Hm k cs s=some s'->∀c∈cs,∃s1 s2,k c s1=some s2
 |[],_,_,_=>λc hc=>by grind
 |c::r,s,s',h=>by
  simp only[Hm]at h;split at h
  ·rename_i s1 h1;intro c' hc;rcases az.1 hc with rfl|hc
   ·grind
   ·exact Vl h c' hc
  grind
def M6 (k:Bool->List aa->σ->Option σ):List (List aa)->σ->Option σ
 |[],s=>some s
 |c::r,s=>match k true c s with|some s'=>Hm (k false) r s'|none=>none
structure Rk where
 on:Bool
 e:aa
def M7 (r:Rk) (e:aa):List aa:=match r.on with|true=>[e,(r.e.sub e).bI (-1)]|false=>[]
def ya (ms:Ms T) (p:Path):List (Nat×Nat×aa)->List AX->Option (List AX)
 |[],L=>some L
 |(e,x,i)::r,L=>
  match L[x]?,i.subst (nk ms L L.length 0)with
  |some (.sl e' v),some i'=>if e'=e then(match k7 p e v i' with|some b=>ya ms p r (L++iM (T e) b)|none=>none)else none
  |some (.own e' _ _ v),some i'=>if e'=e then(match k7 p e v i' with|some b=>ya ms p r (L++iM (T e) b)|none=>none)else none
  |_,_=>none
def Dv (ms:Ms T) (L:amV) (na nv:Nat):List (Nat×Nat×aa)->Nat->List Mem
 |[],_=>[]
 |(e,x,i)::r,b=>
  match(if x<na then(match L[x]?with|some (.sl _ v)=>some v|some (.own _ _ _ v)=>some v|_=>none)else some (nv+(x-na))),i.subst (nk ms L na nv)with
  |some v,some i'=>⟨e,v,i',b⟩::Dv ms L na nv r (b+(T e).length)
  |_,_=>Dv ms L na nv r (b+(T e).length)
def vB (ms:Ms T):List Mem->List aa
 |[]=>[]
 |q::r=>zS ms q.e q.x q.b++vB ms r
def Path.Al (p:Path) (l:List Mem):Path:={p with gH:=l++p.gH}
def M8 (ask:Ask σ) (ms:Ms T) (rk:Rk) (a:bk) (d:amR) (p:Path) (ss:ank) (ids:amG) (K:Path->σ->Option σ) (s:σ):Option σ:=
 match lH p.st ids with
 |none=>none
 |some ls=>
  let gs:=(ss.flatMap AS.xs++ls.flatMap id).flatMap (AX.tags p.st.gen);let brw:=iv a.brw gs
  if(pS ids&&((ss.flatMap AS.xs++ls.flatMap id).flatMap AX.cU).all ids.contains&&(!a.new||M5 p.st d)&&ls.all (λl=>!l.isEmpty)&&(wP brw gs&&MO brw p.st.gen ss ls))=true then
   if(Hf a.args (ss.map (AS.bH (AX.cV ids brw p.st.gen)))&&Hg a.boxes (ls.map (List.map (AX.cV ids brw p.st.gen))))=true then
    (match ya ms p a.jL ((ss.flatMap AS.xs++ls.flatMap id).map (AX.cV ids brw p.st.gen))with
    |none=>none
    |some L=>
     match oo (nk ms L (a.na T) p.nv) a.pre,a.ij.subst (nk ms L (a.na T) p.nv),Ds ms L (a.na T) p.nv a.res,pc (pc (vz ms L (a.na T) p.nv)) a.cZ with
     |some pre,some ij,some res,some cZ=>
      lF ask p.Γ (pre++M7 rk ij) (M6 (λg c s=>match oo (nk ms L (a.na T) p.nv) c with
       |some post=>
        let M:=match g with|true=>Dv ms L (a.na T) p.nv a.fw (p.nv+(a.no-gK T a.fw))|false=>[]
        Dc ask (((p.ext a.no (post++(rP ms p.nv (a.ks.take a.no)++vB ms M))).Al M).ke (vA p.st a.new d ids brw gs res cZ)) none K s
       |none=>none) a.cases) s
     |_,_,_,_=>none)
   else none
  else none
theorem afQ (ss:ank) (ls:anr) (g:AX->AX) (g':X->X) (hg:∀x,(g x).den f ρ=g' (x.den f ρ)):
 rS ((ss.map (AS.den f ρ)).map (S.bH g')) ((ls.map (List.map (AX.den f ρ))).map (List.map g'))=((ss.flatMap AS.xs++ls.flatMap id).map g).map (AX.den f ρ):=by
 have xm:∀(s:S),(s.bH g').xs=s.xs.map g':=λs=>by
  cases s with
  |one x=>rfl
  |agg l=>rfl
  |bj l=>simp[S.bH,S.xs,uf,Js]
 have e1:((ss.map (AS.den f ρ)).map (S.bH g')).flatMap S.xs=((ss.flatMap AS.xs).map g).map (AX.den f ρ):=by rw[uf];simp only[xm];rw[uf];simp only[tn,da,Js,pz,hg]
 have e2:((ls.map (List.map (AX.den f ρ))).map (List.map g')).flatMap id=((ls.flatMap id).map g).map (AX.den f ρ):=by
  induction ls with
  |nil=>rfl
  |cons l ls ih=>simp_all
 rw[rS,e1,e2,oH,oH]
theorem afR {k:Bool->List aa->σ->Option σ} {c:amY} {r:List (List aa)} {s s':σ} (h:M6 k (c::r) s=some s'):(∃s1 s2,k true c s1=some s2)/\∀c'∈r,∃s1 s2,k false c' s1=some s2:=by
 simp only[M6]at h;split at h
 ·rename_i s1 h1;exact⟨⟨_,_,h1⟩,Vl h⟩
 grind
theorem Vm (ms:Ms T) {k:Kd} {y:Nat} (h:(ρ y).kd=k):((rQ k y).den ms.f ρ).dx=ρ y:=by
 have hk:cR [k]=true:=by subst h;cases ρ y<;>rfl
 rw[C3 ms hk,yK h];rfl
theorem nf.Vn {e x b:Nat} {i:aa} (h:nf T f ρ e x i b) {j:Nat} {k:Kd} (hj:(T e)[j]?=some k):(ρ (b+j)).kd=k:=by
 have dR:j<(T e).length:=by
  rcases aT j (T e).length with h'|h'
  ·omega
  ·grind
 rw[h.cell j dR];have hr:(ah (ρ x)).getD (i.den (mu f ρ)).toNat []=(ah (ρ x))[(i.den (mu f ρ)).toNat]'h.hi:=by rw[aZ,aP h.hi];rfl
 have sF:=h.kd _ (fz h.hi);have ti:j<((ah (ρ x))[(i.den (mu f ρ)).toNat]'h.hi).length:=by rw[<-sF]at dR;simpa using dR
 have hc:cellAt (ah (ρ x)) (i.den (mu f ρ)).toNat j=((ah (ρ x))[(i.den (mu f ρ)).toNat]'h.hi)[j]:=by simp only[cellAt,hr,aZ,aP ti,fh]
 grind
theorem Hn:∀(ks:amQ) (y:Nat),(iM ks y).length=ks.length
 |[],_=>rfl
 |k::ks,y=>by simp[iM,Hn ks (y+1)]
theorem M9:∀{ks:amQ} {y j:Nat} {x:AX},(iM ks y)[j]?=some x->∃k,ks[j]?=some k/\x=rQ k (y+j)
 |[],_,_,_,h=>by simp[iM]at h
 |k::ks,y,0,x,h=>by simp only[iM,lV,ae]at h;grind
 |k::ks,y,j+1,x,h=>by simp only[iM,oC]at h;obtain⟨k',h1,h2⟩:=M9 h;grind
theorem Vo {ms:Ms T} {p:Path} (hs:Sat T ms.f ρ p):∀{gs:ani} {L L':amV} {ρ0:Kr},ya ms p gs L=some L'->(∀x∈L,x.lt p.nv)->(∀(j:Nat) x,L[j]?=some x->ρ0 j=(x.den ms.f ρ).dx)->xZ T L.length gs->
 L'.length=L.length+gK T gs/\(∀x∈L',x.lt p.nv)/\(∀(j:Nat) x,L'[j]?=some x->qu T ms.f ρ0 gs L.length j=(x.den ms.f ρ).dx)/\pb T ms.f (qu T ms.f ρ0 gs L.length) gs L.length
 |[],L,L',ρ0,h,hl,hv,_=>by simp only[ya,ae]at h;subst h;exact⟨rfl,hl,hv,trivial⟩
 |(e,x,i)::r,L,L',ρ0,h,hl,hv,hw=>by
  have key:∀v i' bm,i.subst (nk ms L L.length 0)=some i'->k7 p e v i'=some bm->(∀c,ρ0 x=c->ah c=ah (ρ v))->ya ms p r (L++iM (T e) bm)=some L'->L'.length=L.length+gK T ((e,x,i)::r)/\(∀x∈L',x.lt p.nv)/\
   (∀(j:Nat) y,L'[j]?=some y->qu T ms.f ρ0 ((e,x,i)::r) L.length j=(y.den ms.f ρ).dx)/\pb T ms.f (qu T ms.f ρ0 ((e,x,i)::r) L.length) ((e,x,i)::r) L.length:=by
   intro v i' bm hi hm hx h;have hm:=og hm hs;have hF:Fit ms L L.length 0 (λj=>if j<L.length then ρ0 j else ρ (0+(j-L.length))) ρ:=
    ⟨λj y hj hy=>by grind,λj hj=>by grind⟩
   have aE:=Af (Aj hF) hi;have afS:cu L.length ρ0 (λj=>if j<L.length then ρ0 j else ρ (0+(j-L.length))):=λj hj=>by grind
   rw[afS.dE hw.2.1]at aE;have dV:=hm.row;have hx:=hx _ rfl;have fp:∀j,j<(T e).length->cellAt (ah (ρ0 x)) (i.den (mu ms.f ρ0)).toNat j=ρ (bm+j):=λj hj=>by rw[hx,<-aE,dV.cell j hj]
   generalize Ho:bind' ρ0 L.length ((List.range (T e).length).map λj=>cellAt (ah (ρ0 x)) (i.den (mu ms.f ρ0)).toNat j)=bJ;have aL:cu L.length ρ0 bJ:=by rw[<-Ho];exact eQ _ _ _
   have cT:∀j,j<(T e).length->bJ (L.length+j)=ρ (bm+j):=λj hj=>by rw[<-Ho,Gf,aZ,bP,iS hj];grind
   have hR:nf T ms.f bJ e x i L.length:=by refine⟨by rw[aL.dE hw.2.1,<-aE];exact dV.lo,by rw[aL.dE hw.2.1,<-aE,aL x hw.1,hx];exact dV.hi,λj hj=>?_,by rw[aL x hw.1,hx];exact dV.kd,by rw[aL x hw.1,hx];exact dV.fit⟩;rw[aL.dE hw.2.1,aL x hw.1,cT j hj,fp j hj]
   have hlen:(L++iM (T e) bm).length=L.length+(T e).length:=by rw[jS,Hn]
   obtain⟨i1,i2,i3,i4⟩:=Vo (ρ0:=bJ) hs h (λy hy=>by
    rcases bB.1 hy with hy|hy
    ·grind
    ·exact GQ hm.b y hy) (λj y hy=>by
    rcases aT j L.length with hj|hj
    ·rw[jQ hj]at hy;rw[aL j hj];grind
    ·rw[jR hj]at hy;obtain⟨k,hk,rfl⟩:=M9 hy;have jr:j-L.length<(T e).length:=by
      rcases aT (j-L.length) (T e).length with h'|h'
      ·omega
      ·grind
     have:=cT _ jr;rw[show L.length+(j-L.length)=j by omega]at this;rw[this,Vm ms (dV.Vn hk)]) (by rw[hlen];exact hw.2.2)
   rw[hlen]at i1 i3 i4;refine⟨by rw[i1,gK];omega,i2,?_,?_⟩
   ·simp only[qu,Ho];omega
   ·simp only[qu,Ho];exact⟨hR.aK (Hi ms.f r _ bJ) (by have:=hw.1;omega) (bg (by omega) hw.2.1) (bh _),i4⟩
  simp only[ya]at h;split at h
  ·rename_i e' v i' h1 h2;split at h
   ·split at h
    ·rename_i bm hm;refine key v i' bm h2 hm (λc hc=>?_) h;rw[<-hc,hv x _ h1];rfl
    grind
   grind
  ·rename_i e' g m v i' h1 h2;split at h
   ·split at h
    ·rename_i bm hm;refine key v i' bm h2 hm (λc hc=>?_) h;rw[<-hc,hv x _ h1];rfl
    grind
   grind
  grind
theorem Vp {ms:Ms T} {L:amV} {na nv no:Nat} {ρ0 ai:Kr} (hF:Fit ms L na nv ρ0 ai) (hL:∀x∈L,x.lt nv):∀{gs:ani} {b:Nat},pb T ms.f ρ0 gs b->xZ T b gs->na<=b->b+gK T gs<=na+no->
 ∀q∈Dv ms L na nv gs (nv+(b-na)),Mem.ok T ms.f ai (nv+no) q
 |[],_,_,_,_,_=>λq hq=>by cases hq
 |(e,x,i)::r,b,hg,hw,hb,hn=>by
  simp only[gK]at hn;have ih:=Vp (no:=no) hF hL (b:=b+(T e).length) hg.2 hw.2.2 (by omega) (by omega);rw[show nv+(b+(T e).length-na)=nv+(b-na)+(T e).length by omega]at ih;intro q hq;simp only[Dv]at hq;have aj:∀{i':aa},i.subst (nk ms L na nv)=some i'->i'.lt (nv+no):=λh=>M0 (m:=na+no) (bg (show b<=na+no by omega) hw.2.1) (M3 (no:=no) hL) h;have key:∀v i',v<nv+no->ah (ai v)=ah (ρ0 x)->i.subst (nk ms L na nv)=some i'->Mem.ok T ms.f ai (nv+no) ⟨e,v,i',nv+(b-na)⟩:=by
   intro v i' hv hx hi;have aE:=Af (Aj hF) hi;have hR:=hg.1;refine⟨hv,aj hi,(show nv+(b-na)+(T e).length<=nv+no by omega),⟨by rw[aE];exact hR.lo,by rw[aE,hx];exact hR.hi,λj hj=>?_,by rw[hx];exact hR.kd,by rw[hx];exact hR.fit⟩⟩;rw[aE,hx];have e:nv+(b-na)+j=nv+(b+j-na):=by omega
   show ai (nv+(b-na)+j)=_;rw[<-hR.cell j hj,hF.out (b+j) (by omega),e]
  split at hq
  ·rename_i v i' h1 h2;rcases az.1 hq with rfl|hq
   ·split at h1
    ·rename_i hx;split at h1
     ·rename_i v' hv;simp only[ae]at h1;subst h1;refine key _ i' (by have:v'<nv:=hL _ (aY hv);omega) ?_ h2;rw[hF.leaf x _ hx hv];rfl
     ·rename_i v' hv;simp only[ae]at h1;subst h1;refine key _ i' (by have:v'<nv:=hL _ (aY hv);omega) ?_ h2;rw[hF.leaf x _ hx hv];rfl
     grind
    ·rename_i hx;simp only[ae]at h1;subst h1;exact key _ i' (by have:=hw.1;omega) (by rw[hF.out x (by omega)]) h2
   grind
  grind
theorem Na (ms:Ms T):∀{M:List Mem},(∀q∈M,Mem.ok T ms.f ρ n q)->∀g∈vB ms M,g.lt n
 |[],_=>λg hg=>by cases hg
 |q::r,h=>b8 (Um ms (h q (by simp)).x (h q (by simp)).b) (Na ms λq' hq=>h q' (by grind))
theorem Nb (ms:Ms T):∀{M:List Mem},(∀q∈M,Mem.ok T ms.f ρ n q)->aJ (mu ms.f ρ) (vB ms M)
 |[],_=>λg hg=>by cases hg
 |q::r,h=>aJ.append (Un ms (h q (by simp)).row) (Nb ms λq' hq=>h q' (by grind))
theorem Sat.Al {p:Path} (h:Sat T f ρ p) {M:List Mem} (hM:∀q∈M,Mem.ok T f ρ p.nv q):Sat T f ρ (p.Al M):=
 ⟨h.st,h.lt,h.facts,h.wk,λq hq=>by
  rcases bB.1 hq with hq|hq
  ·exact hM q hq
  ·exact h.gH q hq,h.gh,h.sn⟩
theorem afT {ask:Ask σ} (ha:ca ask) {ms:Ms T} {rk:Rk} {N:Option Int} {a:bk} {d:amR} {p:Path} {ss:ank} {ids:amG} {K:Path->σ->Option σ} {s s':σ} (h:M8 ask ms rk a d p ss ids K s=some s') (hs:Sat T ms.f ρ p) (dL:∀n,N=some n->rk.on=true/\rk.e.den (mu ms.f ρ)=n)
 (hw:a.WF T) (wX:∀s∈ss,s.lt p.nv):(nP (p.st.den ms.f ρ) d a.new a.brw (a.dN ms N).sp (ss.map (AS.den ms.f ρ)) ids).wp (ie ms K p ρ):=by
 unfold M8 at h;unfold nP;split at h
 ·cases h
 ·rename_i ls eO;rw[G8 _ _ (G9 eO),eO];simp only[cj];have afU:(ls.map (List.map (AX.den ms.f ρ))).all (λl=>!l.isEmpty)=ls.all (λl=>!l.isEmpty):=by rw[Qn];congr 1;funext l;simp
  have ex:(ss.map (AS.den ms.f ρ)).flatMap S.xs++(ls.map (List.map (AX.den ms.f ρ))).flatMap id=(ss.flatMap AS.xs++ls.flatMap id).map (AX.den ms.f ρ):=by rw[Ha,MR,oH]
  rw[ex,U6,afz,afM,afU,afA,show(p.st.den ms.f ρ).gen=p.st.gen from rfl];dsimp only at h;generalize m6:(ss.flatMap AS.xs++ls.flatMap id).flatMap (AX.tags p.st.gen)=gs at*;generalize iv a.brw gs=brw at*;split at h
  ·rename_i hc;rw[aC hc];split at h
   ·rename_i fe;generalize Vq:ss.flatMap AS.xs++ls.flatMap id=XS at*;have afV:∀x∈XS.map (AX.cV ids brw p.st.gen),x.lt p.nv:=by
     intro x hx;simp only[aF]at hx;obtain⟨y,hy,rfl⟩:=hx;refine afy ?_;rw[<-Vq,bB]at hy;rcases hy with hy|hy
     ·obtain⟨s0,h1,h2⟩:=ba.1 hy;exact Dm (wX s0 h1) y h2
     ·obtain⟨l0,h1,h2⟩:=ba.1 hy;exact MP hs.st eO l0 h1 y h2
    have Nc:=λx=>afw (f:=ms.f) (ρ:=ρ) ids brw p.st.gen x;have es:(ss.map (AS.den ms.f ρ)).map (S.bH (X.cV ids brw p.st.gen))=(ss.map (AS.bH (AX.cV ids brw p.st.gen))).map (AS.den ms.f ρ):=by simp only[da];exact cK λx _=>(G6 Nc x).symm
    have eb:(ls.map (List.map (AX.den ms.f ρ))).map (List.map (X.cV ids brw p.st.gen))=(ls.map (List.map (AX.cV ids brw p.st.gen))).map (List.map (AX.den ms.f ρ)):=by simp only[da];refine cK λx _=>?_;simp only[pz,da];exact cK λy _=>(Nc y).symm
    simp only[aB]at fe;have f1:=Vd (f:=ms.f) (ρ:=ρ) fe.1;have f2:=Ve (f:=ms.f) (ρ:=ρ) fe.2;rw[<-es]at f1;rw[<-eb]at f2;have ct:(fv a.args ((ss.map (AS.den ms.f ρ)).map (S.bH (X.cV ids brw p.st.gen)))&&lJ a.boxes ((ls.map (List.map (AX.den ms.f ρ))).map (List.map (X.cV ids brw p.st.gen))))=true:=by rw[f1,f2];rfl
    have Nd:=afQ (f:=ms.f) (ρ:=ρ) ss ls (AX.cV ids brw p.st.gen) (X.cV ids brw p.st.gen) Nc;rw[Vq]at Nd;have hlen:(XS.map (AX.cV ids brw p.st.gen)).length=a.nl:=by have:=ll List.length Nd;simp only[dI]at this;rw[dI,<-this,rS,jS,(Dq f1).1,(xY f2).1];rfl
    split at h
    ·cases h
    rename_i L hL;simp only[bk.dN];rw[aC ct];simp only[bl.wp];have hG:=Vo (ρ0:=lL ((ss.map (AS.den ms.f ρ)).map (S.bH (X.cV ids brw p.st.gen))) ((ls.map (List.map (AX.den ms.f ρ))).map (List.map (X.cV ids brw p.st.gen)))) hs hL afV (λj x hx=>by
     simp only[lL,bZ,Nd,aZ,bP];grind) (by rw[hlen];exact hw.jL)
    rw[hlen]at hG;obtain⟨Vr,Dw,Vs,Hp⟩:=hG;have Vr:L.length=a.na T:=Vr;generalize Vt:a.env (T:=T) ms.f ((ss.map (AS.den ms.f ρ)).map (S.bH (X.cV ids brw p.st.gen))) ((ls.map (List.map (AX.den ms.f ρ))).map (List.map (X.cV ids brw p.st.gen)))=ρ0;rw[bk.env]at Vt;rw[Vt]at Vs Hp;have Vu:∀(x:Kr),Fit ms L (a.na T) p.nv (comb ρ0 (a.na T) x) (λv=>if v<p.nv then ρ v else x (v-p.nv)):=by
     intro x;refine⟨λj y hj hy=>?_,λj hj=>?_⟩
     ·rw[comb,aC hj,Vs j y hy];have aL:cu p.nv ρ (λv=>if v<p.nv then ρ v else x (v-p.nv)):=λv hv=>by grind
      rw[aL.ax (Dw y (aY hy))]
     ·rw[comb,aQ (by omega),aQ (by omega)];simp_all
    split at h
    ·rename_i pre ij res cZ e1 e2 e3 e4;obtain⟨hn,s1,h⟩:=mw ha h;refine⟨?_,λx iZ=>?_⟩
     ·
      have hF:=Vu λi=>ρ (p.nv+i);have kC:(λv=>if v<p.nv then ρ v else ρ (p.nv+(v-p.nv)))=ρ:=by
       funext v;split
       ·rfl
       ·simp_all
      rw[kC]at hF;have h1:=(Ag (Aj hF) e1).1 (λg hg=>hn g (bB.2 (.inl hg)) _ hs.facts);refine⟨λg hg=>?_,Hp,λn hN=>?_⟩
      ·have h2:=h1 g hg;rwa[vi (hw.pre g hg) (ν:=mu ms.f ρ0) (λb hb=>by simp only[mu];rw[comb,aC (by omega)])]at h2
      ·obtain⟨q1,q2⟩:=dL n hN;have h3:=Af (Aj hF) e2;rw[vi hw.ij (ν:=mu ms.f ρ0) (λb hb=>by simp only[mu];rw[comb,aC (by omega)])]at h3;have h4:=hs.entails (hn ij (bB.2 (.inr (by simp[M7,q1]))));have h5:=hs.entails (hn ((rk.e.sub ij).bI (-1)) (bB.2 (.inr (by simp[M7,q1]))));rw[cO,br,q2]at h5;omega
     ·have hF:=Vu x;have aL:cu p.nv ρ (λv=>if v<p.nv then ρ v else x (v-p.nv)):=λv hv=>by grind
      have afW:=afJ (no:=a.no) Dw hw.res e3;have afX:∀l∈cZ,∀y∈l,y.lt (p.nv+a.no):=
       Ai (Q:=λl:List AX=>∀y∈l,y.lt (a.na T+a.no)) (λl l' hq ku=>Ai (Hk Dw) hq ku) hw.cZ e4
      have fin:∀(c:amY) (M:List Mem) t1 t2,c∈a.cases->aJ (mu ms.f (comb ρ0 (a.na T) x)) c->(∀q∈M,Mem.ok T ms.f (λv=>if v<p.nv then ρ v else x (v-p.nv)) (p.nv+a.no) q)->
       (match oo (nk ms L (a.na T) p.nv) c with
       |some post=>Dc ask (((p.ext a.no (post++(rP ms p.nv (a.ks.take a.no)++vB ms M))).Al M).ke (vA p.st a.new d ids brw gs res cZ)) none K t1
       |none=>none)=some t2->ie ms K p ρ (({aq:=(p.st.den ms.f ρ).aq,boxes:=eU (p.st.den ms.f ρ).boxes (if a.new then ids++d.toList else ids) ((a.cZ.map (List.map (AX.den ms.f (comb ρ0 (a.na T) x)))).map (List.map (X.dj ids brw (d.getD 0) a.new (fE p.st.gen (eT brw gs))))),gen:=fE p.st.gen (eT brw gs)}:St).put d ((a.res.den ms.f (comb ρ0 (a.na T) x)).bH (X.dj ids brw (d.getD 0) a.new (fE p.st.gen (eT brw gs))))):=by
       intro c M t1 t2 afY iZ hM h;split at h
       case h_2=>cases h
       rename_i post e5;have afZ:=Vk (M3 (no:=a.no) Dw) (hw.cases c afY) e5;have gf:=hs.ext aL (k:=a.no) (fs:=post++(rP ms p.nv (a.ks.take a.no)++vB ms M))
        (b8 afZ (b8 (C0 ms _ _ (by grind)) (Na ms hM)))
        (aJ.append ((Ag (Aj hF) e5).2 iZ) (aJ.append (CZ ms _ _) (Nb ms hM)))
       have gf:=gf.Al hM;have aU:=aw.bg (fL p.nv a.no) hs.st;have af0:=gf.ke (st:=vA p.st a.new d ids brw gs res cZ) (afN aU afW afX) (afO (Wk.aK hs.wk hs.st aL));obtain⟨q,t3,t4,h,hr⟩:=Mx (p:=((p.ext a.no (post++(rP ms p.nv (a.ks.take a.no)++vB ms M))).Al M).ke (vA p.st a.new d ids brw gs res cZ)) ha h af0 (λe he=>by grind);refine⟨q,_,_,_,h,hr.sat,eR (fL _ _) hr.nv,aL,?_⟩;rw[hr.st];have hb:=Ah (h:=List.map (AX.den ms.f (comb ρ0 (a.na T) x))) (h':=List.map (AX.den ms.f (λv=>if v<p.nv then ρ v else x (v-p.nv)))) (λl l' hq=>Ah (Hj hF) hq) e4;simp only[Path.ke];rw[afP,hb,afI hF e3,aL.st hs.st]
      unfold bk.Ae at iZ;cases dq:a.cases with
      |nil=>rw[dq]at iZ;exact iZ.elim
      |cons c r=>
       rw[dq]at h iZ;obtain⟨⟨t1,t2,f1⟩,f2⟩:=afR h;rcases iZ with⟨iZ,af1⟩|⟨c',dF,iZ⟩
       ·have hM:=Vp (no:=a.no) hF Dw af1 hw.fw (by omega) (by have:=hw.afL;omega);rw[show p.nv+(a.na T+(a.no-gK T a.fw)-a.na T)=p.nv+(a.no-gK T a.fw)by omega]at hM;exact fin c _ t1 t2 (by grind) iZ hM f1
       ·obtain⟨t3,t4,f3⟩:=f2 c' dF;exact fin c' [] t3 t4 (by grind) iZ (λq hq=>by grind) f3
    grind
   grind
  grind
def AX.oT (gen:amP) (brw:amG) (m:CM):AX->Bool
 | .own _ g n _=>(match m with| .bo=>true| .own _=>true|_=>false)&&Nat.beq n (gen g)&&(Nat.ble 5000 g||brw.contains g)
 | .sl e _=>(match m with| .sI _=>di e==e|_=>true)
 | .int _ _=>true
 | .bool _=>true
 | .str _=>true
 | .lit _=>true
 | .any=>true
 | .ptr _ _=>true
 | .hH=>true
 | .fV _=>true
 |_=>false
theorem Vv {f:Nat->C->Int} (gen:amP) (brw:amG) (m:CM) (x:AX):(x.den f ρ).oT gen brw m=x.oT gen brw m:=by cases x<;>cases m<;>rfl
def Am (gen:amP) (brw:amG):List CM->List AX->Bool
 |m::ms,x::xs=>x.oT gen brw m&&Am gen brw ms xs
 |[],x::xs=>x.oT gen brw .bo&&Am gen brw [] xs
 |_,[]=>true
theorem Nf {f:Nat->C->Int} (gen:amP) (brw:amG):∀(ms:List CM) (l:amV),nQ gen brw ms (l.map (AX.den f ρ))=Am gen brw ms l
 |m::ms,x::xs=>by simp only[bu,nQ,Am,Vv,Nf gen brw ms xs]
 |[],x::xs=>by simp only[bu,nQ,Am,Vv,Nf gen brw [] xs]
 |[],[]=>rfl
 |_::_,[]=>rfl
def Ng (st:aw) (bm:anq) (brw ids:amG) (Ξ:ank):Bool:=
 match ids,Ξ with
 |b::_, .one (.ptr _ _)::_=>(match je st.boxes b with|some (some (.cells l))=>Am st.gen brw (bm.headD []) l|_=>false)
 |_,_=>false
theorem af2 {f:Nat->C->Int} {st:aw} {bm:anq} {brw ids:amG} {Ξ:ank} (h:Ng st bm brw ids Ξ=true):pT (st.den f ρ) bm brw ids (Ξ.map (AS.den f ρ))=true:=by
 unfold Ng at h;simp only[gF]at h;split at h
 ·rename_i b r b' off s7;split at h
  ·rename_i l hl;have hb:(st.den f ρ).boxes[b]?=some (some (l.map (AX.den f ρ))):=by
    have:(st.den f ρ).boxes[b]?=(st.boxes[b]?).map (Option.map (AK.den f ρ)):=by simp[aw.den]
    rw[this,hl];rfl
   show(match(st.den f ρ).boxes[b]?with|some (some l)=>nQ (st.den f ρ).gen brw (bm.headD []) l|_=>false)=true;rw[hb];dsimp only;rw[Nf];exact h
  grind
 grind
def Nh (ask:Ask σ) (ms:Ms T) (rk:aa) (specs:Nat->Option (bk×Bool)) (p:Path) (d:amR) (fn:Nat) (ss:ank) (K:Path->σ->Option σ) (s:σ):Option σ:=
 match specs fn with
 |none=>none
 |some (a,ring)=>
  match MQ (iO ms p a.am ss).1.st (iO ms p a.am ss).2 with
  |none=>none
  |some ids=>
   match pS ids&&(!a.kp||Ng p.st a.bm a.brw ids (iO ms p a.am ss).2),lH (iO ms p a.am ss).1.st ids with
   |true,some _=>M8 ask ms ⟨ring,rk⟩ a d (xX ms (iO ms p a.am ss).1 a.bm ids) (iO ms p a.am ss).2 ids K s
   |_,_=>none
def mA (ms:Ms T) (N:Int) (specs:Nat->Option (bk×Bool)) (fn:Nat):Option dw:=
 match specs fn with
 |some (a,ring)=>some (a.dN ms (if ring then some N else none))
 |none=>none
theorem af3 {ask:Ask σ} (ha:ca ask) {ms:Ms T} {rk:aa} {N:Int} {specs:Nat->Option (bk×Bool)} (hw:∀fn a r,specs fn=some (a,r)->a.WF T) {p:Path} {d:amR} {fn:Nat} {ss:ank} {K:Path->σ->Option σ} {s s':σ}
 (h:Nh ask ms rk specs p d fn ss K s=some s') (hs:Sat T ms.f ρ p) (aU:cA T (p.st.den ms.f ρ)) (rC:∀s∈ss,dA T (s.den ms.f ρ)) (wX:∀s∈ss,s.lt p.nv) (dL:rk.lt p.nv/\rk.den (mu ms.f ρ)=N):
 (iH (mA ms N specs) (p.st.den ms.f ρ) d fn (ss.map (AS.den ms.f ρ))).wp (ie ms K p ρ):=by
 unfold Nh at h;unfold iH mA;split at h
 ·cases h
 ·rename_i a ring ct;rw[ct];dsimp only;obtain⟨bJ,r1,l1,d1⟩:=Va (am:=a.am) hs wX rC;split at h
  ·cases h
  ·rename_i ids lC;have af4:j9 (p.st.den ms.f ρ) (gQ (p.st.den ms.f ρ).gen (a.dN ms (if ring then some N else none)).am (ss.map (AS.den ms.f ρ)))=ids:=by rw[show gQ (p.st.den ms.f ρ).gen (a.dN ms (if ring then some N else none)).am (ss.map (AS.den ms.f ρ))=gQ p.st.gen a.am (ss.map (AS.den ms.f ρ))from rfl,<-d1,<-r1.aK.st hs.st,<-r1.st,afB lC]
   rw[af4];split at h
   ·rename_i ls dv Hq;have qd:(pS ids&&(!(a.dN ms (if ring then some N else none)).kp||pT (p.st.den ms.f ρ) a.bm a.brw ids (gQ (p.st.den ms.f ρ).gen a.am (ss.map (AS.den ms.f ρ)))))=true:=by simp only[aB,iT]at dv⊢;refine⟨dv.1,dv.2.imp (λh=>h) λhk=>?_⟩;have:=af2 (f:=ms.f) (ρ:=bJ) hk;rw[d1,r1.aK.st hs.st]at this;exact this
    have dv:=(aB _ _▸dv).1;rw[aC (by exact qd)];obtain⟨cQ,s2,n2,g2,d2⟩:=afG (bm:=a.bm) Hq r1.sat (by rw[r1.st,r1.aK.st hs.st];omega);have Fs:∀s∈(iO ms p a.am ss).2,s.lt (xX ms (iO ms p a.am ss).1 a.bm ids).nv:=λs cS=>AS.bg n2 (l1 s cS);have Vx:=r1.aK.trans g2 r1.nv;have key:=afT (N:=if ring then some N else none) ha h s2 (λn hn=>by
     cases ring with
     |true=>simp only[cJ,ae]at hn;exact⟨rfl,by rw[Vx.dE dL.1,dL.2,hn]⟩
     |false=>grind) (hw fn a ring ct) Fs
    rw[d2,r1.st,r1.aK.st hs.st,g2.U9 l1,d1]at key;have Dx:∀st,ie ms K (xX ms (iO ms p a.am ss).1 a.bm ids) cQ st->ie ms K p ρ st:=by rintro st ⟨p',t1,t2,ai,k1,k2,k3,k4,k5⟩;exact⟨p',t1,t2,ai,k1,k2,eR (eR r1.nv n2) k3,Vx.trans k4 (eR r1.nv n2),k5⟩
    exact bl.wp_mono Dx key
   grind
end
end Go.Pv
namespace Go.Pv
open Go
noncomputable section
variable {T:ay} {σ:Type} {ρ:Kr} {n:Nat}
structure XCfg (T:ay) (σ:Type) where
 P:Program
 ask:Ask σ
 ms:Ms T
 ann:List (Nat×Nat)
 specs:Nat->Option (bk×Bool)
 rk:aa
structure rT (c:XCfg T σ):Prop where
 ask:ca c.ask
 wf:∀fn a r,c.specs fn=some (a,r)->a.WF T
def XCfg.cfg (c:XCfg T σ) (N:Int):bX:=⟨c.P,T,mA c.ms N c.specs,c.ann⟩
def qv (c:XCfg T σ) (N:Int) (ρ:Kr) (p:Path):Prop:=c.rk.lt p.nv/\c.rk.den (mu c.ms.f ρ)=N
theorem qv.from {c:XCfg T σ} {N:Int} {p q:Path} {ai:Kr} (h:qv c N ρ p) (hn:p.nv<=q.nv) (ha:cu p.nv ρ ai):qv c N ai q:=⟨bg hn h.1,by rw[ha.dE h.1];exact h.2⟩
def KP (ms:Ms T) (K:Path->σ->Option σ) (p:Path) (ρ:Kr) (G:amX):Prop:=
 ∀q s1 s2 ai,K q s1=some s2->Sat T ms.f ai q->p.nv<=q.nv->cu p.nv ρ ai->G (q.st.den ms.f ai)
theorem ie.to {ms:Ms T} {K:Path->σ->Option σ} {p:Path} {G:amX} (hK:KP ms K p ρ G) {st:St} (h:ie ms K p ρ st):G st:=by obtain⟨q,s1,s2,ai,h1,h2,h3,h4,rfl⟩:=h;exact hK q s1 s2 ai h1 h2 h3 h4
theorem KP.from {ms:Ms T} {K:Path->σ->Option σ} {p q:Path} {ai:Kr} {G:amX} (hK:KP ms K p ρ G) (hn:p.nv<=q.nv) (ha:cu p.nv ρ ai):KP ms K q ai G:=
 λq' s1 s2 lG h1 h2 h3 h4=>hK q' s1 s2 lG h1 h2 (eR hn h3) (ha.trans h4 hn)
def Ni (st:aw):Callee->Option FuncId
 | .value x=>(match cY st x with| .one (.fV f)=>some f|_=>none)
 |_=>none
theorem af5 {st:aw} {cl:Callee} {f:Nat->C->Int}:p8 (st.den f ρ) cl=Ni st cl:=by
 unfold p8 Ni;cases cl with
 |value x=>
  dsimp only;rw[<-dZ];generalize cY st x=y;cases y with
  |one y=>cases y<;>rfl
  |_=>rfl
 |_=>rfl
def Vy:AS->Bool
 | .one (.sl _ _)=>true
 | .one (.own _ _ _ _)=>true
 | .one .bc=>true
 |_=>false
def Dy:AS->List aa
 | .one (.sl _ x)=>[(af 2 x).neg]
 | .one (.own _ _ _ x)=>[(af 2 x).neg]
 |_=>[]
theorem af6 {ms:Ms T} {s:AS} (h:Fp (s.den ms.f ρ)):aJ (mu ms.f ρ) (Dy s):=by
 unfold Dy;split<;>intro g hg
 ·have h:(ah (ρ _)).length=0:=h;rw[a8.1 hg,eu,au _ _ (by omega),ms.h2];omega
 ·have h:(ah (ρ _)).length=0:=h;rw[a8.1 hg,eu,au _ _ (by omega),ms.h2];omega
 grind
theorem af7 {s:AS} {n:Nat} (h:s.lt n):∀g∈Dy s,g.lt n:=by
 unfold Dy;split<;>intro g hg
 ·rw[a8.1 hg];exact kY (aI h (by omega))
 ·rw[a8.1 hg];exact kY (aI h (by omega))
 grind
theorem af8 {s:AS} {f:Nat->C->Int}:Fo (s.den f ρ)=Vy s:=by
 cases s with
 |one x=>cases x<;>rfl
 |_=>rfl
def tw (T:ay) (e b y off j:Nat):Kd->AX
 | .any=>(match(T (base e))[off+j]?with|some k=>rQ k (y+j)|none=> .aD)
 |k=>rQ k (b+(off+j))
def qw (T:ay) (e b y off:Nat):Nat->List Kd->List AX
 |_,[]=>[]
 |j,k::ks=>tw T e b y off j k::qw T e b y off (j+1) ks
def Hr (ms:Ms T) (e y off j:Nat):Kd->List aa
 | .any=>(match(T (base e))[off+j]?with|some k=>inst [y+j] (ms.base k)++zR ms k (y+j)|none=>[])
 |_=>[]
def vC (ms:Ms T) (e y off:Nat):Nat->List Kd->List aa
 |_,[]=>[]
 |j,k::ks=>Hr ms e y off j k++vC ms e y off (j+1) ks
def tx (ms:Ms T) (e y off n:Nat):List aa:=
 match bY e,dh (base e)with
 |true,some (_,gs)=>gs.flatMap λg=>if off<=g.1/\g.1+g.2<=off+n then inst (a9 (y+(g.1-off)) g.2) (ms.gd e g.1)else[]
 |_,_=>[]
theorem af9 {ms:Ms T} {e s m k:Nat} {gs:amU} (hl:dh (base e)=some (k,gs)) (hm:(s,m)∈gs) {y:Nat} {r:amS} (hr:(a9 y m).map ρ=r) (h:T.G e s r):aJ (mu ms.f ρ) (inst (a9 y m) (ms.gd e s)):=by
 intro g' cw;obtain⟨g,hg,rfl⟩:=aF.1 cw;have h1:=(ms.LN e s r).1 h g hg;rw[CK];rw[vi (ms.zH e s m k gs hl hm g hg) (ν:=mu ms.f λx=>ρ ((a9 y m).getD x 0))]at h1
 ·omega
 ·intro a ha;simp only[mu,bZ];congr 1;have aj:a/64<(a9 y m).length:=by simp[a9];omega
  grind
def Hs (fs:amS) (n:Nat):List C:=(List.range n).map λj=>fs.getD j .any
theorem aga (ms:Ms T) {e y off j:Nat} {k:Kd} (h:y+j<n):∀g∈Hr ms e y off j k,g.lt n:=by
 unfold Hr;split
 ·split
  ·exact b8 (gV ms _ h) (Ug ms h)
  grind
 grind
theorem Vz (ms:Ms T) {e y off:Nat}:∀{ks:amQ} {j:Nat},y+j+ks.length<=n->∀g∈vC ms e y off j ks,g.lt n
 |[],_,_=>λg hg=>by cases hg
 |k::ks,j,h=>by simp only[eH]at h;exact b8 (aga ms (by omega)) (Vz ms (by omega))
theorem agb (ms:Ms T) {e y off m:Nat} (h:y+m<=n):∀g∈tx ms e y off m,g.lt n:=by
 unfold tx;split
 ·rename_i k gs hs hl;intro g hg;obtain⟨q,hq,hg⟩:=ba.1 hg;split at hg
  ·rename_i hc;obtain⟨g0,Nj,rfl⟩:=aF.1 hg;refine F8 (ms.zH e q.1 q.2 k gs hl hq g0 Nj) λx hx=>?_;have bA:x<(a9 (y+(q.1-off)) q.2).length:=by simp[a9];omega
   simp only[aZ,aP bA,fh];simp[a9];omega
  grind
 grind
theorem agc (ms:Ms T) {e y off m:Nat} {fs:amS} (hp:pX T e off m fs) (kC:∀j,j<m->ρ (y+j)=fs.getD j .any):aJ (mu ms.f ρ) (tx ms e y off m):=by
 unfold tx;split
 ·rename_i k gs hs hl;intro g hg;obtain⟨q,hq,hg⟩:=ba.1 hg;split at hg
  ·rename_i hc;refine af9 hl hq (r:=(fs.drop (q.1-off)).take q.2) ?_ (hp.wK k gs q.1 q.2 hs hl hq hc.1 hc.2) g hg;have hlen:((fs.drop (q.1-off)).take q.2).length=q.2:=by have:=hp.len;simp;omega
   apply oD;intro j;simp only[a9,da,bP];by_cases hj:j<q.2
   ·rw[iS hj,fi,aC hj,fa];simp only[cj,Function.comp];rw[oB,kC _ (by omega)];grind
   grind
  grind
 ·exact λg hg=>by grind
theorem VA (ms:Ms T) {e y off m:Nat} {fs:amS} (hp:pX T e off m fs) (kC:∀j,j<m->ρ (y+j)=fs.getD j .any):∀{ks:amQ} {j:Nat},j+ks.length<=m->(∀i k,ks[i]?=some k->(T e)[off+(j+i)]?=some k)->
 aJ (mu ms.f ρ) (vC ms e y off j ks)
 |[],_,_,_=>λg hg=>by cases hg
 |k::ks,j,h,hk=>by
  simp only[eH]at h;refine aJ.append ?_ (VA ms hp kC (by omega) λi k' hi=>by
   rw[show j+1+i=j+(i+1)by omega];simp_all)
  unfold Hr;split
  ·split
   ·rename_i kb hb;obtain⟨c,c1,c2,c3⟩:=hp.cell j kb (by omega) (hk 0 _ rfl) hb;have e1:ρ (y+j)=c:=by rw[kC j (by omega),aZ,c1];rfl
    exact aJ.append (gU ms _ _) (Uf ms (by grind) (by grind))
   ·exact λg hg=>by grind
  ·exact λg hg=>by grind
theorem VB {e b y off:Nat}:∀{ks:amQ} {j:Nat},y+j+ks.length<=n->b+off+j+ks.length<=n->∀x∈qw T e b y off j ks,x.lt n
 |[],_,_,_=>λx hx=>by cases hx
 |k::ks,j,h,h'=>λx hx=>by
  simp only[eH]at h h';rcases az.1 hx with rfl|hx
  ·unfold tw;split
   ·split
    ·exact GP (by omega)
    ·trivial
   ·exact GP (by omega)
  ·exact VB (by omega) (by omega) x hx
theorem VC {ks:amQ} (h:cR ks=true) {k:Kd} {j:Nat} (hj:ks[j]?=some k):cR [k]=true:=by simp only[cR,aX]at h;simp only[cR,ug,Qm,v9];grind
theorem VD (ms:Ms T) {e b y off m i:Nat} {fs:amS} {rows:Y9} (hp:pX T e off m fs) (kC:∀j,j<m->ρ (y+j)=fs.getD j .any) (hlen:(T (base e)).length=(T e).length) (h1:cR (T e)=true) (h2:cR (T (base e))=true)
 (dV:∀j,j<(T e).length->ρ (b+j)=cellAt rows i j):∀{ks:amQ} {j:Nat},j+ks.length<=m->(∀i k,ks[i]?=some k->(T e)[off+(j+i)]?=some k)->
 (qw T e b y off j ks).map (AX.den ms.f ρ)=mc rows i fs off j ks
 |[],_,_,_=>rfl
 |k::ks,j,h,hk=>by
  simp only[eH]at h;simp only[qw,mc,bu];rw[VD ms hp kC hlen h1 h2 dV (ks:=ks) (j:=j+1) (by omega) λi k' hi=>by
   rw[show j+1+i=j+(i+1)by omega];simp_all]
  congr 1;have tz:=hk 0 k rfl;rw[jy]at tz;have aj:off+j<(T e).length:=by
   rcases aT (off+j) (T e).length with h'|h'
   ·omega
   ·grind
  by_cases ha:k= .any
  ·subst ha;obtain⟨kb,hb⟩:∃kb,(T (base e))[off+j]?=some kb:=⟨_,aP (by omega)⟩
   obtain⟨c,c1,c2,_⟩:=hp.cell j kb (by omega) tz hb;have e1:ρ (y+j)=c:=by rw[kC j (by omega),aZ,c1];rfl
   simp only[tw,hb,pW];rw[C3 ms (VC h2 hb),yK (by grind),kC j (by omega)]
  ·have hx:tw T e b y off j k=rQ k (b+(off+j)):=by cases k<;>first|rfl|grind
   have hl:pW rows i fs off j k= .c (lY k (cellAt rows i (off+j))):=by cases k<;>first|rfl|grind
   rw[hx,hl,C3 ms (VC h1 tz),dV _ aj]
def aw.iI (st:aw) (g:Nat):Option aa:=match st.get g with| .one (.dn e)=>some e|_=>none
def Ao (g:Nat) (e:aa) (q:Path):Path:=q.put (some g) (.one (.dn (e.bI 1)))
theorem Dz {st:aw} {g:Nat} {e:aa} {f:Nat->C->Int} (h:st.iI g=some e) (hs:st.lt n):(st.den f ρ).iI g=some (e.den (mu f ρ))/\e.lt n:=by
 unfold aw.iI at h;split at h
 ·rename_i e' he;simp only[ae]at h;subst h;refine⟨?_,?_⟩
  ·unfold St.iI;rw[<-rJ,he];rfl
  ·have:=CX hs g;rw[he]at this;exact this
 grind
theorem agd {ms:Ms T} {K:Path->σ->Option σ} {p q:Path} {ai:Kr} {d:amR} {g:Nat} {e:aa} {v:AS} {s1 s2:σ} {x:S} (h:K ((Ao g e q).put d v) s1=some s2) (hr:Reach ms p ρ q ai) (hv:v.lt q.nv) (he:e.lt p.nv) (hs:Sat T ms.f ρ p) (hx:v.den ms.f ai=x):
 ie ms K p ρ (((p.st.den ms.f ρ).mark g (e.den (mu ms.f ρ))).put d x):=by
 refine⟨_,_,_,ai,h,(hr.sat.put (some g) (v:= .one (.dn (e.bI 1))) (bg hr.nv he)).put d hv,hr.nv,hr.aK,?_⟩;subst hx;simp only[Ao,Path.put,k8,hr.st,hr.aK.st hs.st,St.mark];congr 2;simp only[AS.den,AX.den,cO,hr.aK.dE he]
theorem age {ms:Ms T} {K:Path->σ->Option σ} {p q:Path} {ai:Kr} {g:Nat} {e:aa} {s1 s2:σ} (h:K (Ao g e q) s1=some s2) (hr:Reach ms p ρ q ai) (he:e.lt p.nv) (hs:Sat T ms.f ρ p):
 ie ms K p ρ ((p.st.den ms.f ρ).mark g (e.den (mu ms.f ρ))):=by
 refine⟨_,_,_,ai,h,hr.sat.put (some g) (v:= .one (.dn (e.bI 1))) (bg hr.nv he),hr.nv,hr.aK,?_⟩;simp only[Ao,Path.put,k8,hr.st,hr.aK.st hs.st,St.mark,AS.den,AX.den,cO,hr.aK.dE he]
def Nk (c:XCfg T σ) (mk:amR) (p:Path) (d:amR) (t:Nat) (x:AS) (K:Path->σ->Option σ) (s:σ):Option σ:=
 match x with
 | .one (.bz e v i off)=>
  if(bY e||decide (2000<=e))=true/\off+(T t).length<=(T e).length/\(T t).isEmpty=false/\(T (base e)).length=(T e).length/\cR (T e)=true/\cR (T (base e))=true then
   (match kq c.P t,k7 p e v i with
   |some true,some b=>K ((p.ext (T t).length (vC c.ms e p.nv off 0 (((T e).drop off).take (T t).length)++tx c.ms e p.nv off (T t).length)).put d (.agg (qw T e b p.nv off 0 (((T e).drop off).take (T t).length)))) s
   |some false,some b=>(match(T e)[off]?with
    |some k=>
     (match Nat.beq e 1053&&Nat.beq off 9,mk with
     |true,some g=>
      (match p.st.iI g with
      |some m=>lF c.ask p.Γ [i.sub m,m.sub i] (ig c.ask (p.ext 1 (vC c.ms e p.nv off 0 [k]++tx c.ms e p.nv off 1)) (.eq (af 0 p.nv))
       (λq=>K (q.put d (.one (tw T e b p.nv off 0 k)))) (λq=>K ((Ao g m q).put d (.one (tw T e b p.nv off 0 k))))) s
      |none=>none)
     |_,_=>K ((p.ext 1 (vC c.ms e p.nv off 0 [k]++tx c.ms e p.nv off 1)).put d (.one (tw T e b p.nv off 0 k))) s)
    |none=>none)
   |_,_=>none)
  else none
 |_=>none
theorem agf {c:XCfg T σ} (ha:ca c.ask) {mk:amR} {p:Path} {d:amR} {t:Nat} {x:AS} {K:Path->σ->Option σ} {s s':σ} (h:Nk c mk p d t x K s=some s') (hs:Sat T c.ms.f ρ p) (hx:x.lt p.nv):
 (uP c.P T mk (p.st.den c.ms.f ρ) d t (x.den c.ms.f ρ)).wp (ie c.ms K p ρ):=by
 unfold Nk at h;split at h
 ·rename_i e v i off;split at h
  ·rename_i hc;obtain⟨h1,h2,h3,h4,h5,h6⟩:=hc;have Mg:∀{m:Nat} {fs:amS},off+m<=(T e).length->pX T e off m fs->∀j,j<m->(Hs fs m).getD j default=fs.getD j .any:=λ_ _ j hj=>by simp[Hs,aZ,iS hj]
   have main:∀{m b:Nat} {fs:amS} {ks:amQ},off+m<=(T e).length->k7 p e v i=some b->ks.length=m->(∀i k,ks[i]?=some k->(T e)[off+i]?=some k)->pX T e off m fs->
    ∃ai,Reach c.ms p ρ (p.ext m (vC c.ms e p.nv off 0 ks++tx c.ms e p.nv off m)) ai/\(qw T e b p.nv off 0 ks).map (AX.den c.ms.f ai)=mc (ah (ρ v)) (i.den (mu c.ms.f ρ)).toNat fs off 0 ks/\
     (∀x∈qw T e b p.nv off 0 ks,x.lt (p.nv+m))/\∀j,j<m->ai (p.nv+j)=fs.getD j .any:=by
    intro m b fs ks hm hb jr hk hp;have zX:=og hb hs;have Dh:b+(T e).length<=p.nv:=zX.b;have aL:=eQ ρ p.nv (Hs fs m);have kC:∀j,j<m->(bind' ρ p.nv (Hs fs m)) (p.nv+j)=fs.getD j .any:=λj hj=>by rw[Gf];grind
    have gf:=hs.ext aL (k:=m) (fs:=vC c.ms e p.nv off 0 ks++tx c.ms e p.nv off m)
     (b8 (Vz c.ms (by omega)) (agb c.ms (bh _)))
     (aJ.append (VA c.ms hp kC (by omega) λi k hi=>by grind) (agc c.ms hp kC))
    refine⟨_,⟨rfl,fL _ _,gf,aL⟩,?_,VB (by omega) (by omega),kC⟩;have dV:=zX.row;refine VD c.ms hp kC h4 h5 h6 (λj hj=>?_) (by omega) λi k hi=>by grind
    rw[aL _ (by omega)];exact dV.cell j hj
   simp only[uP,AS.den,AX.den];rw[aC ⟨h1,h2,h3⟩];split at h
   ·rename_i b ha hb;rw[ha];refine⟨trivial,λfs hp=>?_⟩;obtain⟨ai,hr,hd,hl,_⟩:=main (ks:=((T e).drop off).take (T t).length) h2 hb (by grind) (λi k hi=>by
     grind) hp
    exact z9 h hr (v:= .agg _) hl hs (by simp only[AS.den,hd])
   ·rename_i b aL hb;rw[aL];split at h
    ·rename_i k hk;dsimp only;rw[hk];have mY:off+1<=(T e).length:=by
      rcases aT off (T e).length with h'|h'
      ·omega
      ·grind
     have one:=λ{fs:amS} (hp:pX T e off 1 fs)=>main (ks:=[k]) mY hb rfl (λi k' hi=>by
      cases i with
      |zero=>grind
      |succ i=>grind) hp
     dsimp only;split at h
     ·rename_i g gP;rw[gP];dsimp only;split at h
      ·rename_i m hm;obtain⟨d1,d2⟩:=Dz (f:=c.ms.f) (ρ:=ρ) hm hs.st;rw[d1];obtain⟨hn,s1,h⟩:=mw ha h;have n1:=hs.entails (hn (i.sub m) (by simp));have n2:=hs.entails (hn (m.sub i) (by simp));rw[br]at n1 n2;have zX:0<=i.den (mu c.ms.f ρ):=(og hb hs).row.lo;refine⟨by omega,λfs hp=>?_⟩;obtain⟨ai,hr,hd,hl,hv⟩:=one hp;have oW:(AS.one (tw T e b p.nv off 0 k)).lt (p.nv+1):=hl _ (by simp[qw]);have qc:(AS.one (tw T e b p.nv off 0 k)).den c.ms.f ai= .one (pW (ah (ρ v)) (i.den (mu c.ms.f ρ)).toNat fs off 0 k):=by simp only[qw,mc,bu,mL,ua,lU]at hd;simp only[AS.den,hd]
       have wY:=hv 0 (by omega);rw[jy]at wY;have agh:(AB.eq (af 0 p.nv)).den c.ms.f ai=decide (cD (fs.getD 0 .any)=0):=by simp only[AB.den,au _ _ (show 0<64 by omega),c.ms.h0,wY]
       obtain⟨w1,w2⟩:=nh ha h hr.sat (show(af 0 p.nv).lt _ from aI (bQ _) (by omega));rw[agh]at w1 w2;cases hz:decide (cD (fs.getD 0 .any)=0)with
       |true=>obtain⟨q,s2,s3,dG,jI⟩:=w1 hz;dsimp only;rw[hz];exact z9 dG (hr.trans jI) (AS.bg jI.nv oW) hs qc
       |false=>obtain⟨q,s2,s3,dG,jI⟩:=w2 hz;dsimp only;rw[hz];exact agd dG (hr.trans jI) (AS.bg jI.nv oW) d2 hs qc
      grind
     ·rename_i gP;split
      ·grind
      ·refine⟨trivial,λfs hp=>?_⟩;obtain⟨ai,hr,hd,hl,_⟩:=one hp;refine z9 h hr (v:= .one _) (hl _ (by simp[qw])) hs ?_;simp only[qw,mc,bu,mL,ua,lU]at hd;simp only[AS.den,hd]
    grind
   grind
  grind
 grind
def Ht:Option Kd->Bool
 |some (.int _)=>true
 |_=>false
def Nl (c:XCfg T σ) (mk:amR) (p:Path) (d:amR) (t:Nat) (x v:AS) (K:Path->σ->Option σ) (s:σ):Option σ:=
 match d,x,tl v with
 |none, .one (.bz e _ i off),some xs=>
  (match dh (base e),qq c.ms p (((T (base e)).drop off).take (T t).length) xs with
  |some (_,gs),some p'=>if bY e=true/\(off,(T t).length)∈gs/\t<1000/\(T t).isEmpty=false/\(T (src e)).isEmpty=false/\off+(T t).length<=(T (base e)).length then
   (match Nat.beq (src e) 1053&&Nat.beq off 9,mk with
   |false,_=>lF c.ask p'.Γ (inst (a9 p.nv (T t).length) (c.ms.gd (src e) off)) (K p) s
   |true,none=>if Ht (T (base e))[off]?then lF c.ask p'.Γ ((af 20 p.nv).neg::inst (a9 p.nv (T t).length) (c.ms.gd (src e) off)) (K p) s else none
   |true,some g=>(match p.st.iI g,Nat.beq e 1053&&Ht (T (base e))[off]?with
    |some k,true=>lF c.ask p'.Γ (i.sub k::k.sub i::i::(af 20 p.nv).neg::inst (a9 p.nv (T t).length) (c.ms.gd (src e) off)) (K (Ao g k p)) s
    |_,_=>none))
   else none
  |_,_=>none)
 |_,_,_=>none
theorem agi {r:amS} {ks:amQ} (hk:r.map C.kd=ks) (h0:Ht ks[0]?=true) (h:cD (r.getD 0 default)≠0):pD r:=by
 cases r with
 |nil=>subst hk;cases h0
 |cons c r=>
  subst hk;cases c<;>first|cases h0|skip
  rename_i k n;refine⟨k,n,rfl,?_⟩;assumption
theorem agj {c:XCfg T σ} (ha:ca c.ask) {mk:amR} {p:Path} {d:amR} {t:Nat} {x v:AS} {K:Path->σ->Option σ} {s s':σ} (h:Nl c mk p d t x v K s=some s') (hs:Sat T c.ms.f ρ p) (hv:v.lt p.nv) (rU:x.lt p.nv):
 (jn T mk (p.st.den c.ms.f ρ) d t (x.den c.ms.f ρ) (v.den c.ms.f ρ)).wp (ie c.ms K p ρ):=by
 unfold Nl at h;split at h
 ·rename_i e w i off xs hx;split at h
  ·rename_i k gs p' hl hp;split at h
   ·rename_i hc;obtain⟨c1,c2,c3,c4,c5,c6⟩:=hc;obtain⟨r,ai,i1,i2,i3,i4,i5⟩:=Dg hp hs (C9 hx hv);have jr:(((T (base e)).drop off).take (T t).length).length=(T t).length:=by simp;omega
    rw[jr]at i5;have hO:0<(T t).length:=lT.2 (by simpa using c4);have q7:ai p.nv=r.getD 0 default:=by rw[<-i5];simp[a9,aZ,iS hO]
    have pY:Ht (T (base e))[off]?=true->(∀g∈[(af 20 p.nv).neg],Entails p'.Γ g)->pD r:=λrh hn=>by
     have h1:=i4.sat.entails (hn (af 20 p.nv).neg (by simp));have h2:c.ms.f 20 (r.getD 0 default)=_:=c.ms.hb.ind 0 (by omega) (r.getD 0 default);rw[eu,au _ _ (show 20<64 by omega),q7]at h1;have h3:cD (r.getD 0 default)≠0:=λe=>by(have h4:=h2.trans (aC (by rw[e];rfl));omega)
     refine agi (z7 i1) ?_ h3;rw[fi,aC hO,fa];exact rh
    have hG:(∀g∈inst (a9 p.nv (T t).length) (c.ms.gd (src e) off),Entails p'.Γ g)->T.G (src e) off r:=λhn=>UO (by rw[Bt];exact hl) c2 i5 λg hg=>i4.sat.entails (hn g hg);unfold jn;rw[C8 hx,show(AS.one (.bz e w i off)).den c.ms.f ρ= .one (.bz e (ah (ρ w)) (i.den (mu c.ms.f ρ)).toNat off)from rfl];dsimp only;rw[hl,i1];dsimp only;rw[aC ⟨c1,c2,c3,c4,c5⟩];split at h
    ·rename_i hb;rw[hb];obtain⟨hn,s1,h⟩:=mw ha h;exact⟨hG hn,p,_,_,ρ,h,hs,bh _,λ_ _=>rfl,rfl⟩
    ·rename_i hb;rw[hb];split at h
     ·rename_i rh;obtain⟨hn,s1,h⟩:=mw ha h;exact⟨⟨hG λg hg=>hn g (by simp[hg]),pY rh λg hg=>hn g (by simp at hg;simp[hg])⟩,p,_,_,ρ,h,hs,bh _,λ_ _=>rfl,rfl⟩
     ·cases h
    ·rename_i g hb;rw[hb];dsimp only;split at h
     ·rename_i k' hm rh;simp only[aB]at rh;obtain⟨d1,d2⟩:=Dz (f:=c.ms.f) (ρ:=ρ) hm hs.st;rw[d1,rh.1];obtain⟨hn,s1,h⟩:=mw ha h;have e1:i.lt p.nv:=rU.2;have n1:=i4.sat.entails (hn (i.sub k') (by simp));have n2:=i4.sat.entails (hn (k'.sub i) (by simp));have n3:=i4.sat.entails (hn i (by simp));rw[br,i4.aK.dE e1,i4.aK.dE d2]at n1 n2;rw[i4.aK.dE e1]at n3;exact⟨⟨hG λg hg=>hn g (by simp[hg]),pY rh.2 λg hg=>hn g (by simp at hg;simp[hg]),by omega⟩,age h (.refl hs) d2 hs⟩
     ·cases h
   ·cases h
  ·cases h
 ·cases h
def VE:AS->Bool
 | .one (.bz _ _ _ _)=>true
 |_=>false
theorem agk {s:AS} {f:Nat->C->Int}:Fj (s.den f ρ)=VE s:=by
 cases s with
 |one x=>cases x<;>rfl
 |_=>rfl
def VF:AS->Bool
 | .one (.bz e _ _ _)=>Nat.ble 1000 e
 |_=>false
theorem agl {s:AS} {f:Nat->C->Int}:Fq (s.den f ρ)=VF s:=by
 cases s with
 |one x=>cases x<;>rfl
 |_=>rfl
def AS.hZ (s:AS):Bool:=s.xs.all λy=>y.ids.isEmpty
theorem agm {s:AS} {f:Nat->C->Int}:(s.den f ρ).hZ=s.hZ:=by unfold S.hZ AS.hZ;rw[tn,Qn];congr 1;funext x;simp only[Bs,GS]
def Hu (b:Bool) (K:Path->AS->σ->Option σ):Path->AS->σ->Option σ:=λp v s=>
 match b&&!v.hZ with
 |true=>none
 |false=>K p v s
theorem VG {x:X} {p:Prop} {s:S} (h:R.oL x= .fk p s):s.hZ=true:=by
 unfold R.oL at h;split at h
 ·cases h
 ·simp only[R.fk.injEq]at h;obtain⟨_,rfl⟩:=h;rfl
 grind
theorem agn {P:Program} {st:St} {t:Nat} {a:S} {p:Prop} {s:S} (h:dU P T st t a= .fk p s):s.hZ=true:=by
 unfold dU at h;split at h
 ·grind
 ·split at h
  ·split at h
   ·split at h
    ·exact VG h
    grind
   grind
  grind
 ·grind
 ·split at h
  ·split at h
   ·exact VG h
   grind
  grind
 grind
theorem ago {ms:Ms T} {K:Path->AS->σ->Option σ} {p:Path} {r:R} (hr:∀p s,r= .fk p s->s.hZ=true) {b:Bool} (h:r.wp (eY ms (Hu b K) p ρ)):(r.np b).wp (eY ms K p ρ):=by
 have key:∀s,eY ms (Hu b K) p ρ s->(b=true->s.hZ=true)/\eY ms K p ρ s:=λs hg=>by
  obtain⟨p',v,s1,s2,ai,h1,h2,h3,rfl⟩:=hg;unfold Hu at h1;split at h1
  ·grind
  ·rename_i hb;refine⟨λe=>?_,p',v,s1,s2,ai,h1,h2,h3,rfl⟩;rw[e]at hb;rw[agm];grind
 have h':=R.wp_mono key h;cases b with
 |false=>assumption
 |true=>
  cases r with
  |bad=>exact h'
  |v s=>simp only[R.np,h'.1 rfl];exact h'.2
  |ck p s=>simp only[R.np,h'.2.1 rfl];exact⟨h'.1,h'.2.2⟩
  |fk p s=>simp only[R.np,hr p s rfl];exact λhp=>(h' hp).2
def Ap (c:XCfg T σ) (p:Path) (o:Oper) (K:Path->σ->Option σ) (s:σ):Option σ:=
 match o.op with
 | .call cl=>
  (match Ni p.st cl.callee with
  |some fn=>Nh c.ask c.ms c.rk c.specs p o.dst fn (cl.args.toList.map (cY p.st)) K s
  |none=>Ab c.P c.ask c.ms c.ann p o K s)
 | .binOp op t x y _=>if(Fm op y&&Ki c.P t&&Vy (cY p.st x))=true then
  (match xN o.dst K (p.ext 0 (Dy (cY p.st x))) (.one (.bool (.lit true))) s with
  |some s=>xN o.dst K p (.one (.bool (.lit false))) s
  |none=>none)else Ab c.P c.ask c.ms c.ann p o K s
 | .load t x=>(match jb c.ann o.dst&&VF (cY p.st x)with|true=>Nk c (hY c.ann o) p o.dst t (cY p.st x) K s|false=>zY c.P c.ask c.ms p (.load t x) (Hu (p9 c.ann o.dst) (xN o.dst K)) s)
 | .store t x v=>(match VE (cY p.st x)with|true=>Nl c (hY c.ann o) p o.dst t (cY p.st x) (cY p.st v) K s|false=>Ab c.P c.ask c.ms c.ann p o K s)
 |_=>Ab c.P c.ask c.ms c.ann p o K s
theorem VH {c:XCfg T σ} {N:Int} (hc:rT c) {p:Path} {o:Oper} {K:Path->σ->Option σ} {s s':σ} (h:Ap c p o K s=some s') (hs:Sat T c.ms.f ρ p) (aU:cA T (p.st.den c.ms.f ρ)) (dL:qv c N ρ p) {G:amX} (hK:KP c.ms K p ρ G):
 (cy (c.cfg N) (p.st.den c.ms.f ρ) o).wp G:=by
 refine bl.wp_mono (λst aU=>ie.to hK aU) ?_;unfold Ap at h;unfold cy;split at h
 ·rename_i cl ho;rw[ho];dsimp only;rw[af5];split at h
  ·rename_i fn hf;rw[hf];dsimp only;have:=af3 hc.ask hc.wf h hs aU (λs cS=>by
    simp only[aF]at cS;obtain⟨x,_,rfl⟩:=cS;rw[dZ];exact Db aU x) (λs cS=>by
    simp only[aF]at cS;obtain⟨x,_,rfl⟩:=cS;exact fS hs.st _) dL
   simp only[da,pz,dZ]at this;exact this
  ·rename_i hf;have:=G5 hc.ask h hs aU;rw[hf];exact this
 ·rename_i op t x y z ho;rw[ho];dsimp only;rw[<-af8 (f:=c.ms.f) (ρ:=ρ),dZ]at h;split at h
  ·rename_i qd;rw[aC (by exact qd)];refine⟨trivial,λb hb=>?_⟩;split at h
   ·rename_i s1 h1;cases b with
    |true=>have hn:=hb rfl;rw[<-dZ]at hn;exact eY.put (v:= .one (.c (.bool true))) ⟨_,_,_,_,ρ,h1, .more hs (af7 (fS hs.st _)) (af6 hn),trivial,rfl⟩ hs
    |false=>exact eY.put (v:= .one (.c (.bool false))) ⟨_,_,_,_,ρ,h, .refl hs,trivial,rfl⟩ hs
   grind
  ·rename_i qd;rw[aQ (by exact qd)];exact G5 hc.ask h hs aU
 ·rename_i t x ho;rw[ho];dsimp only;rw[<-agl (f:=c.ms.f) (ρ:=ρ),dZ]at h;split at h
  ·rename_i hl;rw[show(jb (c.cfg N).ann o.dst&&Fq (ev (p.st.den c.ms.f ρ) x))=true from hl];have:=agf hc.ask h hs (fS hs.st _);rw[dZ]at this;exact this
  ·rename_i hl;rw[show(jb (c.cfg N).ann o.dst&&Fq (ev (p.st.den c.ms.f ρ) x))=false from hl];exact(LO _ _ _).2 (R.wp_mono (λ_ hv=>hv.put hs) (ago (λ_ _=>agn) (UA hc.ask h hs aU)))
 ·rename_i t x v ho;rw[ho];dsimp only;rw[<-agk (f:=c.ms.f) (ρ:=ρ),dZ]at h;split at h
  ·rename_i hl;rw[hl];have:=agj hc.ask h hs (fS hs.st _) (fS hs.st _);rw[dZ,dZ]at this;exact this
  ·rename_i hl;rw[hl];exact G5 hc.ask h hs aU
 ·rename_i ho agp agq agr;have:=G5 hc.ask h hs aU;split
  ·grind
  ·grind
  ·grind
  ·grind
  assumption
def Nm (ops:amW) (st:aw) (j:Nat):Option (Nat×AB):=
 match ops[j]?with
 |some oj=>
  (match oj.dst with
  |some t=>(match st.get t with| .one (.bool b)=>some (t,b)|_=>none)
  |none=>none)
 |none=>none
theorem ags {ops:amW} {st:aw} {j t:Nat} {b:AB} {f:Nat->C->Int} {n:Nat} (h:Nm ops st j=some (t,b)) (hs:st.lt n):eD ops (st.den f ρ) j=some (t,b.den f ρ)/\b.lt n:=by
 unfold Nm at h;unfold eD;split at h
 ·rename_i oj ho;split at h
  ·rename_i t' ht;split at h
   ·rename_i b' hb;simp only[ae,bT]at h;obtain⟨rfl,rfl⟩:=h;have h1:=rJ (f:=f) (ρ:=ρ) st t';rw[hb]at h1;have h2:=CX hs t';rw[hb]at h2;rw[ho];dsimp only;rw[ht];dsimp only;rw[<-h1];exact⟨rfl,h2⟩
   grind
  grind
 grind
def pd (b:Bool):AS:= .one (.bool (.lit b))
def Nn (ops:amW) (st:aw) (j:Nat):Bool:=
 match ops[j]?with
 |some oj=>
  (match oj.dst with
  |some t=>(match st.get t with| .bj []=>true|_=>false)
  |none=>false)
 |none=>false
theorem agt {ops:amW} {st:aw} {j:Nat} {f:Nat->C->Int} (h:Nn ops st j=true):nW ops (st.den f ρ) j=true/\eD ops (st.den f ρ) j=none:=by
 unfold Nn at h;unfold nW eD;split at h
 ·rename_i oj ho;rw[ho];split at h
  ·rename_i t ht;split at h
   ·rename_i hb;have h1:=rJ (f:=f) (ρ:=ρ) st t;rw[hb]at h1;dsimp only;rw[ht];dsimp only;rw[<-h1];exact⟨rfl,rfl⟩
   grind
  grind
 grind
def Hv (c:XCfg T σ) (ops:amW) (o:Oper) (p:Path) (K:Path->σ->Option σ) (s:σ):Option σ:=
 match o.guard with
 |none=>Ap c p o K s
 |some (j,want)=>
  (match Nm ops p.st j with
  |some (t,b)=>
   (match want with
   |true=>ig c.ask p b (λq=>Ap c (q.put (some t) (pd true)) o K) (λq=>K ((q.put (some t) (pd false)).put o.dst (.bj []))) s
   |false=>ig c.ask p b (λq=>K ((q.put (some t) (pd true)).put o.dst (.bj []))) (λq=>Ap c (q.put (some t) (pd false)) o K) s)
  |none=>if Nn ops p.st j=true then K (p.put o.dst (.bj [])) s else none)
theorem VI:(AS.bj []).lt n:=λp hp=>by grind
theorem VJ {c:XCfg T σ} {N:Int} (hc:rT c) {ops:amW} {o:Oper} {p:Path} {K:Path->σ->Option σ} {s s':σ} (h:Hv c ops o p K s=some s') (hs:Sat T c.ms.f ρ p) (aU:cA T (p.st.den c.ms.f ρ)) (dL:qv c N ρ p) {G:amX} (hK:KP c.ms K p ρ G):
 dk (c.cfg N) ops o (p.st.den c.ms.f ρ) G:=by
 have run:∀{q:Path} {t:Nat} {b:Bool} {s1 s2:σ},Ap c (q.put (some t) (pd b)) o K s1=some s2->Reach c.ms p ρ q ρ->(cy (c.cfg N) ((p.st.den c.ms.f ρ).put (some t) (eC b)) o).wp G:=by
  intro q t b s1 s2 hk hr;have gf:=hr.sat.put (some t) (v:=pd b) trivial;have ed:(q.put (some t) (pd b)).st.den c.ms.f ρ=(p.st.den c.ms.f ρ).put (some t) (eC b):=by rw[Path.put,k8,hr.st];rfl
  have Ck:cA T ((q.put (some t) (pd b)).st.den c.ms.f ρ):=by
   rw[ed];refine⟨λs cS=>?_,aU.boxes⟩;rcases oF cS with h1|h1
   ·exact aU.aq s h1
   ·subst h1;exact bN.bool b
  have:=VH hc hk gf Ck (dL.from hr.nv hr.aK) (G:=G) (hK.from hr.nv hr.aK);rw[ed]at this;exact this
 have skip:∀{q:Path} {t:Nat} {b:Bool} {s1 s2:σ},K ((q.put (some t) (pd b)).put o.dst (.bj [])) s1=some s2->Reach c.ms p ρ q ρ->G (((p.st.den c.ms.f ρ).put (some t) (eC b)).put o.dst aO):=by intro q t b s1 s2 hk hr;have gf:=(hr.sat.put (some t) (v:=pd b) trivial).put o.dst (v:= .bj []) VI;have:=hK _ _ _ ρ hk gf hr.nv hr.aK;rw[Path.put,k8,Path.put,k8,hr.st]at this;exact this
 unfold Hv at h;unfold dk;split at h
 ·rename_i hg;rw[hg];exact VH hc h hs aU dL hK
 ·rename_i j want hg;rw[hg];dsimp only;split at h
  ·rename_i t b hb;obtain⟨h1,h2⟩:=ags (f:=c.ms.f) (ρ:=ρ) hb hs.st;rw[h1];dsimp only;split at h
   ·obtain⟨w1,w2⟩:=nh hc.ask h hs h2;refine iu (λe=>?_) λe=>?_
    all_goals grind
   ·obtain⟨w1,w2⟩:=nh hc.ask h hs h2;refine iu (λe=>?_) λe=>?_
    all_goals grind
  ·split at h
   ·rename_i hu;obtain⟨h1,h2⟩:=agt (f:=c.ms.f) (ρ:=ρ) hu;rw[h2];refine⟨h1,?_⟩;have:=hK _ _ _ ρ h (hs.put o.dst VI) (bh _) (λ_ _=>rfl);rw[Path.put,k8]at this;exact this
   grind
def pe (ms:Ms T):AX->List aa
 | .int k e=>vl k e
 | .str v=>[(aa.const hC).sub (af 3 v)]
 | .sl e v=>(aa.const cM).sub (af 2 v)::inst [v] (ms.fit e)
 | .own e _ _ v=>(aa.const cM).sub (af 2 v)::inst [v] (ms.fit e)
 |_=>[]
theorem No (ms:Ms T) {x:AX} (h:eP T (x.den ms.f ρ)):aJ (mu ms.f ρ) (pe ms x):=by
 intro g hg;cases x with
 |int k e=>cases h with|int _ _ h=>exact Gi h g hg
 |str v=>simp only[pe,a8]at hg;subst hg;cases h with|str _ h=>rw[br,cg,au _ _ (by omega),ms.h3];omega
 |sl e v=>
  rcases az.1 hg with rfl|hg
  ·cases h with|sl _ _ h=>rw[br,cg,au _ _ (by omega),ms.h2];omega
  ·exact LR ms h g hg
 |own e g' m v=>
  rcases az.1 hg with rfl|hg
  ·cases h with|sl _ _ h=>rw[br,cg,au _ _ (by omega),ms.h2];omega
  ·exact LR ms h g hg
 |_=>cases hg
theorem Np (ms:Ms T) {x:AX} (h:x.lt n):∀g∈pe ms x,g.lt n:=by
 intro g hg;cases x with
 |int k e=>exact Gj h g hg
 |str v=>simp only[pe,a8]at hg;subst hg;exact cX (dY _ _) (aI h (by omega))
 |sl e v=>
  rcases az.1 hg with rfl|hg
  ·exact cX (dY _ _) (aI h (by omega))
  ·exact LS ms e h g hg
 |own e g' m v=>
  rcases az.1 hg with rfl|hg
  ·exact cX (dY _ _) (aI h (by omega))
  ·exact LS ms e h g hg
 |_=>cases hg
def DA (ms:Ms T):AS->List aa
 | .one x=>pe ms x
 | .agg l=>l.flatMap (pe ms)
 | .bj l=>l.flatMap λp=>match p with|(true,l)=>l.flatMap (pe ms)|(false,[x])=>pe ms x|_=>[]
theorem Nq (ms:Ms T) {l:amV} (h:∀x∈l.map (AX.den ms.f ρ),eP T x):aJ (mu ms.f ρ) (l.flatMap (pe ms)):=by intro g hg;obtain⟨x,hx,hg⟩:=ba.1 hg;exact No ms (h _ (aF.2 ⟨x,hx,rfl⟩)) g hg
theorem Nr (ms:Ms T) {l:amV} (h:∀x∈l,x.lt n):∀g∈l.flatMap (pe ms),g.lt n:=by intro g hg;obtain⟨x,hx,hg⟩:=ba.1 hg;exact Np ms (h x hx) g hg
theorem VK (ms:Ms T) {s:AS} (h:dA T (s.den ms.f ρ)):aJ (mu ms.f ρ) (DA ms s):=by
 cases s with
 |one x=>exact No ms h
 |agg l=>exact Nq ms h
 |bj l=>
  intro g hg;obtain⟨q,hq,hg⟩:=ba.1 hg;have hp:=h _ (aF.2 ⟨q,hq,rfl⟩);obtain⟨t,ql⟩:=q;cases t with
  |true=>exact Nq ms hp g hg
  |false=>
   match ql,hp,hg with
   |[x],hp,hg=>exact No ms hp g hg
   |[],_,hg=>grind
   |_::_::_,_,hg=>grind
theorem VL (ms:Ms T) {s:AS} (h:s.lt n):∀g∈DA ms s,g.lt n:=by
 cases s with
 |one x=>exact Np ms h
 |agg l=>exact Nr ms h
 |bj l=>
  intro g hg;obtain⟨q,hq,hg⟩:=ba.1 hg;have hp:=h _ hq;obtain⟨t,ql⟩:=q;cases t with
  |true=>exact Nr ms hp g hg
  |false=>
   match ql,hp,hg with
   |[x],hp,hg=>exact Np ms (hp x (by simp)) g hg
   |[],_,hg=>grind
   |_::_::_,_,hg=>grind
def okB (ms:Ms T) (b:Option AK):List aa:=Option.rec (motive:=λ_=>List aa) [] (λk=>AK.rec (motive:=λ_=>List aa) (λl=>l.flatMap (pe ms)) (λ_ _ _=>[]) k) b
def Aq (ms:Ms T) (st:aw):List aa:=F4 (DA ms) (F4 (okB ms) [] st.boxes) st.aq
theorem VM (ms:Ms T) (st:aw):Aq ms st=st.aq.flatMap (DA ms)++st.boxes.flatMap λb=>match b with|some (.cells l)=>l.flatMap (pe ms)|_=>[]:=by
 unfold Aq;rw[Lw,Lw,P8];congr 2;funext b;cases b with
 |none=>rfl
 |some k=>cases k<;>rfl
theorem VN (ms:Ms T) {st:aw} (h:cA T (st.den ms.f ρ)):aJ (mu ms.f ρ) (Aq ms st):=by
 rw[VM];refine aJ.append (λg hg=>?_) λg hg=>?_
 ·obtain⟨s,hs,hg⟩:=ba.1 hg;exact VK ms (h.aq _ (aF.2 ⟨s,hs,rfl⟩)) g hg
 ·obtain⟨b,hb,hg⟩:=ba.1 hg
  match b,hb,hg with
  |some (.cells l),hb,hg=>exact Nq ms (h.boxes _ (aF.2 ⟨_,hb,rfl⟩)) g hg
  |some (.rows _ _ _),_,hg=>grind
  |none,_,hg=>grind
theorem VO (ms:Ms T) {st:aw} (h:st.lt n):∀g∈Aq ms st,g.lt n:=by
 rw[VM];refine b8 (λg hg=>?_) λg hg=>?_
 ·obtain⟨s,hs,hg⟩:=ba.1 hg;exact VL ms (h.aq s hs) g hg
 ·obtain⟨b,hb,hg⟩:=ba.1 hg
  match b,hb,hg with
  |some (.cells l),hb,hg=>exact Nr ms (h.boxes _ hb) g hg
  |some (.rows _ _ _),_,hg=>grind
  |none,_,hg=>grind
inductive yb where
 |all
 |slot (d:Nat)
 |none
def Path.jc (ms:Ms T) (p:Path):yb->Path
 | .all=>p.ext 0 (Aq ms p.st)
 | .slot d=>p.ext 0 (DA ms (p.st.get d))
 | .none=>p
theorem Hw {ms:Ms T} {p:Path} (hs:Sat T ms.f ρ p) (aU:cA T (p.st.den ms.f ρ)) (w:yb):Reach ms p ρ (p.jc ms w) ρ:=by
 cases w with
 |all=>exact .more hs (VO ms hs.st) (VN ms aU)
 |slot d=>refine .more hs (VL ms (CX hs.st d)) (VK ms ?_);rw[rJ];exact Db aU (.tmp d)
 |none=>exact .refl hs
def VP (o:Oper):yb:=
 match o.op,o.dst with
 | .call cl,some d=>(match cl.callee with| .value _=> .slot d|_=> .none)
 |_,_=> .none
def Hx (c:XCfg T σ) (ops:amW):List Oper->yb->Path->(Path->σ->Option σ)->σ->Option σ
 |[],w,p,K,s=>K (p.jc c.ms w) s
 |o::r,w,p,K,s=>Hv c ops o (p.jc c.ms w) (λq=>Hx c ops r (VP o) q K) s
theorem VQ {c:XCfg T σ} {N:Int} (hc:rT c) {ops:amW} {K:Path->σ->Option σ} {G:amX}:∀{r:amW} {w:yb} {p:Path} {s s':σ} {ρ:Kr},Hx c ops r w p K s=some s'->Sat T c.ms.f ρ p->qv c N ρ p->KP c.ms K p ρ G->
 bE (c.cfg N) ops r (p.st.den c.ms.f ρ) G
 |[],w,p,s,s',ρ,h,hs,dL,hK=>λaU=>by have hr:=Hw hs aU w;have:=hK _ s s' ρ h hr.sat hr.nv hr.aK;rw[hr.st]at this;omega
 |o::r,w,p,s,s',ρ,h,hs,dL,hK=>λaU=>by
  have hr:=Hw hs aU w;simp only[Hx]at h;have:=VJ hc h hr.sat (by rw[hr.st];exact aU) (dL.from hr.nv hr.aK) (G:=λar=>bE (c.cfg N) ops r ar G) λq s1 s2 ai h1 h2 h3 h4=>
   VQ hc h1 h2 (dL.from (eR hr.nv h3) (hr.aK.trans h4 hr.nv)) (hK.from (eR hr.nv h3) (hr.aK.trans h4 hr.nv))
  rw[hr.st]at this;omega
end
end Go.Pv
namespace Go.Pv
open Go
noncomputable section
variable {T:ay} {σ:Type} {f:Nat->C->Int} {ρ:Kr} {n:Nat}
inductive HX where
 |aD
 |fresh (q:PX)
 |bo (x:AX)
inductive HS where
 |one (x:HX)
 |agg (l:List HX)
def HX.len:HX->Nat
 | .fresh _=>1
 |_=>0
def hlen:List HX->Nat
 |[]=>0
 |h::r=>h.len+hlen r
def HS.len:HS->Nat
 | .one x=>x.len
 | .agg l=>hlen l
def fF:List HS->Nat
 |[]=>0
 |h::r=>h.len+fF r
inductive HK where
 |cells (l:List HX)
 |rows (e w:Nat)
 |bo (e w x:Nat)
def HK.len:HK->Nat
 | .cells l=>hlen l
 | .rows _ _=>1
 | .bo _ _ _=>0
def fG:List (Option HK)->Nat
 |[]=>0
 |some l::r=>l.len+fG r
 |none::r=>fG r
def HX.ax:HX->Nat->AX
 | .aD,_=> .aD
 | .fresh q,v=>q.ax v
 | .bo x,_=>x
def oq:List HX->Nat->List AX
 |[],_=>[]
 |h::r,v=>h.ax v::oq r (v+h.len)
def HS.as:HS->Nat->AS
 | .one x,v=> .one (x.ax v)
 | .agg l,v=> .agg (oq l v)
def Ar:List HS->Nat->List AS
 |[],_=>[]
 |h::r,v=>h.as v::Ar r (v+h.len)
def HK.ak:HK->Nat->AK
 | .cells l,v=> .cells (oq l v)
 | .rows e w,v=> .rows e w v
 | .bo e w x,_=> .rows e w x
def nc:List (Option HK)->Nat->List (Option AK)
 |[],_=>[]
 |some l::r,v=>some (l.ak v)::nc r (v+l.len)
 |none::r,v=>none::nc r v
def jf (q:PX) (x:X):C:=
 match x with
 | .bc=>(match q with| .sl e=> .sl e []| .own e _=> .sl e []|_=>default)
 |x=>x.dx
def Ns (gen:amP) (q:PX) (x:AX):Bool:=
 match q,x with
 | .int k, .int k' _=>decide (k'=k)
 | .bool, .bool _=>true
 | .str, .str _=>true
 | .str, .lit _=>true
 | .sl e, .sl e' _=>Nat.beq e' e
 | .sl e, .own e' _ _ _=>Nat.beq e' e
 | .sl _, .bc=>true
 | .own e g, .own e' g' n _=>Nat.beq e' e&&Nat.beq g' g&&Nat.beq n (gen g')
 | .own _ _, .bc=>true
 | .ptr b off, .ptr b' pO=>Nat.beq b' b&&Nat.beq pO off
 | .dn, .dn _=>true
 |_,_=>false
theorem agu {ms:Ms T} {gen:amP} {q:PX} {x:AX} (h:Ns gen q x=true) {ai:Kr} {v:Nat} (hv:ai v=jf q (x.den ms.f ρ)):ga gen (x.den ms.f ρ) ((q.ax v).den ms.f ai):=by
 unfold Ns at h;split at h
 ·simp only[eN]at h;subst h;simp only[PX.ax,AX.den,au _ _ (show 0<64 by omega),hv,jf,X.dx,ms.h0,cD];exact⟨rfl,rfl⟩
 ·simp only[PX.ax,AX.den,AB.den,hv,jf,X.dx,jh];rfl
 ·simp only[PX.ax,AX.den,hv,jf,X.dx,aA];rfl
 ·simp only[PX.ax,AX.den,hv,jf,X.dx,aA];rfl
 ·have:=bt h;subst this;simp only[PX.ax,AX.den,hv,jf,X.dx,df];exact⟨rfl,rfl⟩
 ·have:=bt h;subst this;simp only[PX.ax,AX.den,hv,jf,X.dx,df];exact⟨rfl,rfl⟩
 ·simp only[PX.ax,AX.den,hv,jf,df];rfl
 ·simp only[aB]at h;have h1:=bt h.1.1;have h2:=bt h.1.2;have h3:=bt h.2;subst h1;subst h2;simp only[PX.ax,AX.den,hv,jf,X.dx,df];exact⟨⟨h3,rfl⟩,rfl,rfl,rfl⟩
 ·simp only[PX.ax,AX.den,hv,jf,df];exact⟨rfl,rfl⟩
 ·simp only[aB]at h;have h1:=bt h.1;have h2:=bt h.2;subst h1;subst h2;exact⟨rfl,rfl⟩
 ·simp only[PX.ax,AX.den,au _ _ (show 0<64 by omega),hv,jf,ms.h0,cD];rfl
 ·cases h
def Nt (gen:amP) (h x:AX):Bool:=
 match h,x with
 | .own e g n v, .own e' g' n' v'=>Nat.beq n 0&&Nat.beq e' e&&Nat.beq g' g&&Nat.beq n' (gen g')&&Nat.beq v' v
 | .sl e v, .own e' _ _ v'=>Nat.beq e' e&&Nat.beq v' v
 | .own _ _ _ _,_=>false
 | .aD,_=>true
 |h,x=>decide (h=x)
theorem VR {gen:amP} {x:X} (h:∀e g n r,x≠ .own e g n r):ga gen x x:=by
 cases x with
 |aD=>exact .inr rfl
 |c v=>cases v<;>simp[ga]
 |own e g n r=>exact(h e g n r rfl).elim
 |bc=>rfl
 |hH=>rfl
 |fV f=>rfl
 |ptr b o=>exact⟨rfl,rfl⟩
 |bz e r i o=>exact⟨rfl,rfl,rfl,rfl⟩
 |cd b o=>rfl
 |cn e b r=>rfl
 |cq e b m=>rfl
 |dn k=>rfl
theorem agv {gen:amP} {h x:AX} (hk:Nt gen h x=true):ga gen (x.den f ρ) (h.den f ρ):=by
 unfold Nt at hk;split at hk
 ·simp only[aB]at hk;obtain⟨⟨⟨⟨h1,h2⟩,h3⟩,h4⟩,h5⟩:=hk;have h1:=bt h1;have h2:=bt h2;have h3:=bt h3;have h4:=bt h4;have h5:=bt h5;subst h1;subst h2;subst h3;subst h5;exact⟨⟨h4,rfl⟩,rfl,rfl,rfl⟩
 ·simp only[aB]at hk;have h1:=bt hk.1;have h2:=bt hk.2;subst h1;subst h2;exact⟨rfl,rfl⟩
 ·cases hk
 ·by_cases e:x.den f ρ= .aD
  ·exact .inr e
  ·exact .inl e
 ·rename_i h1 h2 h3 h4;simp only[eN]at hk;subst hk;refine VR λe g m r he=>?_;cases h<;>simp[AX.den]at he;first|exact h1 _ _ _ _ rfl|exact h2 _ _ _ _ rfl|exact h4 _ _ _ _ rfl|exact h1 _ _ _ _ _ _ _ _ rfl rfl|exact h3 _ _ _ _ _ _ _ _ rfl rfl
def rV (gen:amP) (h:HX) (x:AX):Option (List (PX×AX)):=
 match h with
 | .aD=>some []
 | .fresh q=>(match Ns gen q x with|true=>some [(q,x)]|false=>none)
 | .bo h=>(match Nt gen h x with|true=>some []|false=>none)
def mB (gen:amP):List HX->List AX->Option (List (PX×AX))
 |[],[]=>some []
 |h::hs,x::xs=>(match rV gen h x,mB gen hs xs with|some a,some b=>some (a++b)|_,_=>none)
 |_,_=>none
def DB (gen:amP) (h:HS) (s:AS):Option (List (PX×AX)):=
 match h,s with
 | .one .aD,_=>some []
 | .one h, .one x=>rV gen h x
 | .agg hs, .agg xs=>mB gen hs xs
 |_,_=>none
def qy (gen:amP):List HS->List AS->Option (List (PX×AX))
 |[],[]=>some []
 |h::hs,x::xs=>(match DB gen h x,qy gen hs xs with|some a,some b=>some (a++b)|_,_=>none)
 |_,_=>none
def As (gen:amP) (h:HK) (k:AK):Option (List (PX×AX)):=
 match h,k with
 | .cells h, .cells l=>mB gen h l
 | .rows e w, .rows e' w' x=>if e'=e/\w'=w then some [(.sl e, .sl e x)]else none
 | .bo e w x, .rows e' w' x'=>if e'=e/\w'=w/\x'=x then some []else none
 |_,_=>none
def iy (gen:amP):List (Option HK)->List (Option AK)->Option (List (PX×AX))
 |[],[]=>some []
 |none::hs,_::xs=>iy gen hs xs
 |some h::hs,some x::xs=>(match As gen h x,iy gen hs xs with|some a,some b=>some (a++b)|_,_=>none)
 |_,_=>none
def iP (f:Nat->C->Int) (ρ ai:Kr) (v:Nat) (l:anf):Prop:=∀(j:Nat) q x,l[j]?=some (q,x)->ai (v+j)=jf q (x.den f ρ)
theorem iP.left {ai:Kr} {v:Nat} {a b:anf} (h:iP f ρ ai v (a++b)):iP f ρ ai v a:=λj q x hj=>by
 refine h j q x ?_;rw[jQ]
 ·exact hj
 ·rcases aT j a.length with h'|h'
  ·exact h'
  ·rw[aW h']at hj;cases hj
theorem iP.right {ai:Kr} {v:Nat} {a b:anf} (h:iP f ρ ai v (a++b)):iP f ρ ai (v+a.length) b:=λj q x hj=>by rw[oB];refine h (a.length+j) q x ?_;rw[jR (by omega),oG];exact hj
def HX.lt (n:Nat):HX->Prop
 | .bo x=>x.lt n
 |_=>True
theorem Hy {gen:amP} {h:HX} {x:AX} {l:anf} (hh:rV gen h x=some l):l.length=h.len:=by
 cases h with
 |aD=>simp only[rV,ae]at hh;subst hh;rfl
 |fresh q=>
  simp only[rV]at hh;split at hh
  ·simp only[ae]at hh;subst hh;rfl
  ·cases hh
 |bo y=>
  simp only[rV]at hh;split at hh
  ·simp only[ae]at hh;subst hh;rfl
  ·cases hh
theorem Nu {ms:Ms T} {gen:amP} {h:HX} {x:AX} {l:anf} (hh:rV gen h x=some l) {ai:Kr} {v:Nat} (hg:iP ms.f ρ ai v l) (aj:h.lt n) (ha:∀y,y<n->ai y=ρ y):
 ga gen (x.den ms.f ρ) ((h.ax v).den ms.f ai):=by
 cases h with
 |aD=>
  by_cases e:x.den ms.f ρ= .aD
  ·exact .inr e
  ·exact .inl e
 |fresh q=>
  simp only[rV]at hh;split at hh
  ·rename_i hf;simp only[ae]at hh;subst hh;exact agu hf (hg 0 q x rfl)
  ·cases hh
 |bo y=>
  simp only[rV]at hh;split at hh
  ·rename_i hf;have e:(HX.ax (.bo y) v).den ms.f ai=y.den ms.f ρ:=cu.ax (n:=n) (λz hz=>ha z hz) aj;rw[e];exact agv hf
  ·cases hh
theorem VS {gen:amP} {x y:X} {xs ys:amT} (h1:ga gen x y) (h2:fc gen xs ys):fc gen (x::xs) (y::ys):=by
 simp only[fc];split
 ·exact h2
 ·exact⟨h1,h2⟩
theorem vD {gen:amP}:∀{hs:List HX} {xs:amV} {l:anf},mB gen hs xs=some l->l.length=hlen hs
 |[],[],l,h=>by simp only[mB,ae]at h;subst h;rfl
 |[],_::_,_,h=>by simp[mB]at h
 |_::_,[],_,h=>by simp[mB]at h
 |h::hs,x::xs,l,hh=>by
  simp only[mB]at hh;split at hh
  ·rename_i a b h1 h2;simp only[ae]at hh;subst hh;rw[jS,Hy h1,vD h2];rfl
  ·cases hh
theorem Au {ms:Ms T} {gen:amP} {ai:Kr} (ha:∀y,y<n->ai y=ρ y):∀{hs:List HX} {xs:amV} {l:anf} {v:Nat},mB gen hs xs=some l->iP ms.f ρ ai v l->(∀h∈hs,h.lt n)->
 fc gen (xs.map (AX.den ms.f ρ)) ((oq hs v).map (AX.den ms.f ai))
 |[],[],_,_,_,_,_=>trivial
 |[],_::_,_,_,h,_,_=>by simp[mB]at h
 |_::_,[],_,_,h,_,_=>by simp[mB]at h
 |h::hs,x::xs,l,v,hh,hg,aj=>by
  simp only[mB]at hh;split at hh
  ·rename_i a b h1 h2;simp only[ae]at hh;subst hh;simp only[oq,bu];have hr:=hg.right;rw[Hy h1]at hr;exact VS (Nu h1 hg.left (aj h (by simp)) ha) (Au ha h2 hr (λy hy=>aj y (by simp[hy])))
  ·cases hh
def HS.lt (n:Nat):HS->Prop
 | .one h=>h.lt n
 | .agg l=>∀h∈l,h.lt n
theorem VT {gen:amP} {h:HS} {s:AS} {l:anf} (hh:DB gen h s=some l):l.length=h.len:=by
 unfold DB at hh;split at hh
 ·simp only[ae]at hh;subst hh;rfl
 ·exact Hy hh
 ·exact vD hh
 ·cases hh
theorem agw {gen:amP} {x y:X} (h:ga gen x y):m7 gen (.one x) (.one y):=by
 unfold m7;split
 ·trivial
 ·rename_i y' _ he;simp only[S.one.injEq]at he;subst he;exact h
 ·rename_i he;cases he
 ·rename_i he;cases he
theorem agx {ms:Ms T} {gen:amP} {h:HS} {s:AS} {l:anf} (hh:DB gen h s=some l) {ai:Kr} {v:Nat} (hg:iP ms.f ρ ai v l) (aj:h.lt n) (ha:∀y,y<n->ai y=ρ y):
 m7 gen (s.den ms.f ρ) ((h.as v).den ms.f ai):=by
 unfold DB at hh;split at hh
 ·trivial
 ·exact agw (Nu hh hg aj ha)
 ·exact Au ha hh hg aj
 ·cases hh
theorem agy {gen:amP} {x y:S} {xs ys:amZ} (h1:m7 gen x y) (h2:mg gen xs ys):mg gen (x::xs) (y::ys):=by
 simp only[mg];split
 ·exact h2
 ·exact⟨h1,h2⟩
theorem Nv {gen:amP}:∀{hs:List HS} {xs:ank} {l:anf},qy gen hs xs=some l->l.length=fF hs
 |[],[],l,h=>by simp only[qy,ae]at h;subst h;rfl
 |[],_::_,_,h=>by simp[qy]at h
 |_::_,[],_,h=>by simp[qy]at h
 |h::hs,x::xs,l,hh=>by
  simp only[qy]at hh;split at hh
  ·rename_i a b h1 h2;simp only[ae]at hh;subst hh;rw[jS,VT h1,Nv h2];rfl
  ·cases hh
theorem VU {ms:Ms T} {gen:amP} {ai:Kr} (ha:∀y,y<n->ai y=ρ y):∀{hs:List HS} {xs:ank} {l:anf} {v:Nat},qy gen hs xs=some l->iP ms.f ρ ai v l->(∀h∈hs,h.lt n)->
 mg gen (xs.map (AS.den ms.f ρ)) ((Ar hs v).map (AS.den ms.f ai))
 |[],[],_,_,_,_,_=>trivial
 |[],_::_,_,_,h,_,_=>by simp[qy]at h
 |_::_,[],_,_,h,_,_=>by simp[qy]at h
 |h::hs,x::xs,l,v,hh,hg,aj=>by
  simp only[qy]at hh;split at hh
  ·rename_i a b h1 h2;simp only[ae]at hh;subst hh;simp only[Ar,bu];have hr:=hg.right;rw[VT h1]at hr;exact agy (agx h1 hg.left (aj h (by simp)) ha) (VU ha h2 hr (λy hy=>aj y (by simp[hy])))
  ·cases hh
def HK.lt (n:Nat):HK->Prop
 | .cells l=>∀h∈l,h.lt n
 | .rows _ _=>True
 | .bo _ _ x=>x<n
theorem Nw {gen:amP} {h:HK} {k:AK} {l:anf} (hh:As gen h k=some l):l.length=h.len:=by
 unfold As at hh;split at hh
 ·exact vD hh
 ·split at hh
  ·simp only[ae]at hh;subst hh;rfl
  ·cases hh
 ·split at hh
  ·simp only[ae]at hh;subst hh;rfl
  ·cases hh
 ·cases hh
theorem VV {gen:amP}:∀{l:amT},(∀x∈l,∀e g n r,x≠ .own e g n r)->fc gen l l
 |[],_=>trivial
 |x::l,h=>VS (VR (h x (by simp))) (VV λy hy=>h y (by simp[hy]))
theorem VW {w:Nat} {rows:Y9} {gen:amP}:fc gen (dC w rows) (dC w rows):=VV λx hx e g n r he=>by obtain⟨m,_,hm⟩:=aF.1 hx;rw[he]at hm;cases hm
theorem agz {ms:Ms T} {gen:amP} {h:HK} {k:AK} {l:anf} (hh:As gen h k=some l) {ai:Kr} {v:Nat} (ha:∀y,y<n->ai y=ρ y) (hg:iP ms.f ρ ai v l) (aj:h.lt n):
 fc gen (k.den ms.f ρ) ((h.ak v).den ms.f ai):=by
 unfold As at hh;split at hh
 ·exact Au ha hh hg aj
 ·split at hh
  ·rename_i hc;obtain⟨rfl,rfl⟩:=hc;simp only[ae]at hh;subst hh;have:=hg 0 _ _ rfl;simp only[jy,jf,AX.den,X.dx]at this;simp only[HK.ak,AK.den,this,df];exact VW
  ·cases hh
 ·split at hh
  ·rename_i hc;obtain⟨rfl,rfl,rfl⟩:=hc;simp only[HK.ak,AK.den,ha _ (show _<n from aj)];exact VW
  ·cases hh
 ·cases hh
theorem Nx {gen:amP}:∀{hs:List (Option HK)} {xs:anm} {l:anf},iy gen hs xs=some l->l.length=fG hs
 |[],[],l,h=>by simp only[iy,ae]at h;subst h;rfl
 |[],_::_,_,h=>by simp[iy]at h
 |some _::_,[],_,h=>by simp[iy]at h
 |none::_,[],_,h=>by simp[iy]at h
 |none::hs,x::xs,l,hh=>by simp only[iy]at hh;simp only[fG];exact Nx hh
 |some _::_,none::_,_,h=>by simp[iy]at h
 |some h::hs,some x::xs,l,hh=>by
  simp only[iy]at hh;split at hh
  ·rename_i a b h1 h2;simp only[ae]at hh;subst hh;rw[jS,Nw h1,Nx h2];rfl
  ·cases hh
theorem Ny {ms:Ms T} {gen:amP} {ai:Kr} (ha:∀y,y<n->ai y=ρ y):∀{hs:List (Option HK)} {xs:anm} {l:anf} {v:Nat},iy gen hs xs=some l->iP ms.f ρ ai v l->
 (∀l,some l∈hs->l.lt n)->sL gen (xs.map (Option.map (AK.den ms.f ρ))) ((nc hs v).map (Option.map (AK.den ms.f ai)))
 |[],[],_,_,_,_,_=>trivial
 |[],_::_,_,_,h,_,_=>by simp[iy]at h
 |some _::_,[],_,_,h,_,_=>by simp[iy]at h
 |none::_,[],_,_,h,_,_=>by simp[iy]at h
 |none::hs,x::xs,l,v,hh,hg,aj=>by simp only[iy]at hh;exact Ny (hs:=hs) (xs:=xs) (v:=v) ha hh hg (λl hl=>aj l (by simp[hl]))
 |some _::_,none::_,_,_,h,_,_=>by simp[iy]at h
 |some h::hs,some x::xs,l,v,hh,hg,aj=>by
  simp only[iy]at hh;split at hh
  ·rename_i a b h1 h2;simp only[ae]at hh;subst hh;have hr:=hg.right;rw[Nw h1]at hr;exact⟨agz h1 ha hg.left (aj h (by simp)),Ny ha h2 hr (λl hl=>aj l (by simp[hl]))⟩
  ·cases hh
end
abbrev ans:=List (Option HK)
end Go.Pv
namespace Go.Pv
open Go
noncomputable section
variable {T:ay} {σ:Type} {ρ:Kr} {n:Nat}
inductive eF where
 |slot (t c:Nat)
 |box (b c:Nat)
 |gh (k:Nat)
 |arg (j:Nat)
structure jg where
 c:Int
 l:List (eF×Nat×Int)
def mC (gs:amV) (st:aw):eF->Option AX
 | .slot t c=>(match je st.aq t with|some s=>s.xs[c]?|none=>none)
 | .box b c=>(match je st.boxes b with
  |some (some (.cells l))=>l[c]?
  |some (some (.rows e _ x))=>(match c with|0=>some (.sl e x)|_=>none)
  |_=>none)
 | .gh k=>gs[k]?
 | .arg _=>none
def ot (ms:Ms T) (m:Nat) (x:AX):Option aa:=
 match x with
 | .int _ e=>x7 m e
 | .dn e=>x7 m e
 | .bool (.lit b)=>if m=1 then some (.const (if b then 1 else 0))else none
 | .bool (.var x)=>if m=1 then some (af 1 x)else none
 | .str x=>if ms.qo m= .str/\m<64 then some (af m x)else none
 | .lit s=>(match ms.LM m s with|some v=>some (.const v)|none=>none)
 | .sl _ x=>if ms.qo m= .rows/\m<64 then some (af m x)else none
 | .own _ _ _ x=>if ms.qo m= .rows/\m<64 then some (af m x)else none
 | .bc=>(match ms.LL m with|some v=>some (.const v)|none=>none)
 |_=>none
def Nz (ms:Ms T) (m:Nat) (x:X) (v:Int):Prop:=
 match x with
 | .c (.int k n)=>v=ms.f m (.int k n)
 | .dn n=>v=ms.f m (.int .i64 n)
 | .c (.bool b)=>v=if b then 1 else 0
 | .c (.str s)=>v=ms.f m (.str s)
 | .c (.sl _ r)=>∀e,v=ms.f m (.sl e r)
 | .own _ _ _ r=>∀e,v=ms.f m (.sl e r)
 | .bc=>∀e,v=ms.f m (.sl e [])
 |_=>False
theorem vE {ms:Ms T} {m:Nat} {x:AX} {e:aa} (h:ot ms m x=some e):Nz ms m (x.den ms.f ρ) (e.den (mu ms.f ρ)):=by
 unfold ot at h;split at h
 ·exact Dr ms h
 ·exact Dr ms h
 ·split at h
  ·simp only[ae]at h;subst h;exact cg _ _
  grind
 ·split at h
  ·simp only[ae]at h;subst h;show aa.den _ _=_;rw[au _ _ (by omega),ms.h1];rfl
  grind
 ·split at h
  ·rename_i hc;simp only[ae]at h;subst h;show aa.den _ _=_;rw[au _ _ hc.2];exact ms.LK _ hc.1 _
  grind
 ·split at h
  ·rename_i v hv;simp only[ae]at h;subst h;show aa.den _ _=_;rw[cg];exact(ms.TX _ _ _ hv).2.symm
  grind
 ·split at h
  ·rename_i hc;simp only[ae]at h;subst h;intro e;rw[au _ _ hc.2];exact ms.CO _ hc.1 _ _
  grind
 ·split at h
  ·rename_i hc;simp only[ae]at h;subst h;intro e;rw[au _ _ hc.2];exact ms.CO _ hc.1 _ _
  grind
 ·split at h
  ·rename_i v hv;simp only[ae]at h;subst h;intro e;rw[cg];exact((ms.TW _ _ hv).2 e).symm
  grind
 grind
theorem agA {ms:Ms T} {m:Nat} {x:AX} {e:aa} (h:ot ms m x=some e) (hx:x.lt n):e.lt n:=by
 unfold ot at h;split at h
 ·exact M1 h hx
 ·exact M1 h hx
 ·split at h
  ·simp only[ae]at h;subst h;exact dY _ _
  grind
 ·split at h
  ·simp only[ae]at h;subst h;exact aI hx (by omega)
  grind
 ·split at h
  ·rename_i hc;simp only[ae]at h;subst h;exact aI hx hc.2
  grind
 ·split at h
  ·simp only[ae]at h;subst h;exact dY _ _
  grind
 ·split at h
  ·rename_i hc;simp only[ae]at h;subst h;exact aI hx hc.2
  grind
 ·split at h
  ·rename_i hc;simp only[ae]at h;subst h;exact aI hx hc.2
  grind
 ·split at h
  ·simp only[ae]at h;subst h;exact dY _ _
  grind
 grind
theorem agB {ms:Ms T} {m:Nat} {gen:amP} {x y:X} {v w:Int} (hf:ga gen x y) (hx:Nz ms m x v) (hy:Nz ms m y w):v=w:=by
 unfold ga at hf;split at hf
 ·exact hy.elim
 ·split at hf
  ·obtain⟨rfl,rfl⟩:=hf;exact mO hx (uh hy)
  grind
 ·split at hf
  ·subst hf;exact mO hx (uh hy)
  grind
 ·split at hf
  ·subst hf;exact mO hx (uh hy)
  grind
 ·split at hf
  ·obtain⟨rfl,rfl⟩:=hf;exact mO (hx 0) (uh (hy 0))
  ·obtain⟨rfl,rfl⟩:=hf;exact mO (hx 0) (uh (hy 0))
  ·subst hf;exact mO (hx 0) (uh (hy 0))
  grind
 ·split at hf
  ·obtain⟨_,rfl,rfl,rfl⟩:=hf;exact mO (hx 0) (uh (hy 0))
  ·obtain⟨_,rfl⟩:=hf;exact mO (hx 0) (uh (hy 0))
  grind
 ·subst hf;exact mO (hx 0) (uh (hy 0))
 all_goals first|exact hy.elim|(subst hf;exact mO hx (uh hy))
def Av (ms:Ms T) (na:Nat) (gs:amV) (st:aw) (r:eF) (m:Nat):Option aa:=
 match r with
 | .arg j=>if j<na/\m<64 then some (af m j)else none
 |r=>(match mC gs st r with|some x=>ot ms m x|none=>none)
def tA (ms:Ms T) (na:Nat) (gs:amV) (st:aw):List (eF×Nat×Int)->Option aa
 |[]=>some (.const 0)
 |(r,m,k)::l=>(match Av ms na gs st r m,tA ms na gs st l with|some a,some b=>some ((a.smul k).add b)|_,_=>none)
def resolve (ms:Ms T) (na:Nat) (gs:amV) (st:aw) (r:jg):Option aa:=
 match tA ms na gs st r.l with
 |some a=>some (a.bI r.c)
 |none=>none
def nr (ms:Ms T) (na:Nat) (gs:amV) (st:aw):List jg->Option (List aa)
 |[]=>some []
 |r::l=>(match resolve ms na gs st r,nr ms na gs st l with|some a,some b=>some (a::b)|_,_=>none)
def tB (ms:Ms T) (gen:amP) (gs kz:amV) (st ar:aw) (ρ ai:Kr):Prop:=
 ∀r x y,mC gs st r=some x->mC kz ar r=some y->y.den ms.f ai≠ .aD->ga gen (x.den ms.f ρ) (y.den ms.f ai)
theorem agC {ms:Ms T} {na:Nat} {gs kz:amV} {gen:amP} {st ar:aw} {ρ ai:Kr} (hf:tB ms gen gs kz st ar ρ ai) (ha:cu na ρ ai) {r:eF} {m:Nat} {a b:aa} (h1:Av ms na gs st r m=some a) (h2:Av ms na kz ar r m=some b):
 a.den (mu ms.f ρ)=b.den (mu ms.f ai):=by
 unfold Av at h1 h2;split at h1
 ·rename_i j;simp only at h2;split at h1
  ·rename_i hj;rw[aC hj]at h2;simp only[ae]at h1 h2;subst h1;subst h2;rw[au _ _ hj.2,au _ _ hj.2,ha _ hj.1]
  grind
 ·rename_i hr;split at h2
  ·grind
  ·split at h1
   ·rename_i x hx;split at h2
    ·rename_i y hy;have v1:=vE (ρ:=ρ) h1;have v2:=vE (ρ:=ai) h2;have hj:y.den ms.f ai≠ .aD:=λe=>by rw[e]at v2;exact v2
     exact agB (hf r x y hx hy hj) v1 v2
    grind
   grind
theorem VX {ms:Ms T} {na:Nat} {gs kz:amV} {gen:amP} {st ar:aw} {ρ ai:Kr} (hf:tB ms gen gs kz st ar ρ ai) (ha:cu na ρ ai):∀{l:List (eF×Nat×Int)} {a b:aa},tA ms na gs st l=some a->tA ms na kz ar l=some b->a.den (mu ms.f ρ)=b.den (mu ms.f ai)
 |[],a,b,h1,h2=>by simp only[tA,ae]at h1 h2;subst h1;subst h2;rfl
 |(r,m,k)::l,a,b,h1,h2=>by
  simp only[tA]at h1 h2;split at h1
  ·rename_i a1 a2 gp re;simp only[ae]at h1;subst h1;split at h2
   ·rename_i b1 b2 gP dS;simp only[ae]at h2;subst h2;rw[den_add,s5,den_add,s5,VX hf ha re dS,agC hf ha gp gP]
   grind
  grind
theorem VY {ms:Ms T} {na:Nat} {gs kz:amV} {gen:amP} {st ar:aw} {ρ ai:Kr} (hf:tB ms gen gs kz st ar ρ ai) (ha:cu na ρ ai) {r:jg} {a b:aa} (h1:resolve ms na gs st r=some a) (h2:resolve ms na kz ar r=some b):a.den (mu ms.f ρ)=b.den (mu ms.f ai):=by
 unfold resolve at h1 h2;split at h1
 ·rename_i a1 gp;simp only[ae]at h1;subst h1;split at h2
  ·rename_i b1 hb;simp only[ae]at h2;subst h2;rw[cO,cO,VX hf ha gp hb]
  grind
 grind
theorem Hz {gs:amV} {st:aw} (hg:∀x∈gs,x.lt n) (h:st.lt n) {r:eF} {x:AX} (hx:mC gs st r=some x):x.lt n:=by
 cases r with
 |slot t c=>
  simp only[mC,gF]at hx;split at hx
  ·rename_i s hs;exact Dm (h.aq s (aY hs)) x (aY hx)
  grind
 |box b c=>
  simp only[mC,gF]at hx;split at hx
  ·rename_i l hl;exact h.boxes _ (aY hl) x (aY hx)
  ·rename_i e w v hl;split at hx
   ·simp only[ae]at hx;subst hx;exact h.boxes _ (aY hl)
   grind
  grind
 |gh k=>exact hg x (aY hx)
 |arg j=>cases hx
theorem agD {ms:Ms T} {na:Nat} {gs:amV} {st:aw} (hg:∀x∈gs,x.lt n) (h:st.lt n) (fg:na<=n) {r:eF} {m:Nat} {a:aa} (h1:Av ms na gs st r m=some a):a.lt n:=by
 unfold Av at h1;split at h1
 ·split at h1
  ·rename_i hj;simp only[ae]at h1;subst h1;exact aI (by omega) hj.2
  grind
 ·split at h1
  ·rename_i x hx;exact agA h1 (Hz hg h hx)
  grind
theorem VZ {ms:Ms T} {na:Nat} {gs:amV} {st:aw} (hg:∀x∈gs,x.lt n) (h:st.lt n) (fg:na<=n):∀{l:List (eF×Nat×Int)} {a:aa},tA ms na gs st l=some a->a.lt n
 |[],a,h1=>by simp only[tA,ae]at h1;subst h1;exact dY _ _
 |(r,m,k)::l,a,h1=>by
  simp only[tA]at h1;split at h1
  ·rename_i a1 a2 gp re;simp only[ae]at h1;subst h1;exact nd (xi _ (agD hg h fg gp)) (VZ hg h fg re)
  grind
theorem V0 {ms:Ms T} {na:Nat} {gs:amV} {st:aw} (hg:∀x∈gs,x.lt n) (h:st.lt n) (fg:na<=n) {r:jg} {a:aa} (h1:resolve ms na gs st r=some a):a.lt n:=by
 unfold resolve at h1;split at h1
 ·rename_i a1 ha;simp only[ae]at h1;subst h1;exact gS _ (VZ hg h fg ha)
 grind
theorem V1 {ms:Ms T} {na:Nat} {gs:amV} {st:aw} (hg:∀x∈gs,x.lt n) (h:st.lt n) (fg:na<=n):∀{l:List jg} {a:amY},nr ms na gs st l=some a->∀g∈a,g.lt n
 |[],a,e=>by simp only[nr,ae]at e;grind
 |r::l,a,e=>by
  simp only[nr]at e;split at e
  ·rename_i a1 b h1 h2;simp only[ae]at e;subst e;intro g cw;simp only[az]at cw;rcases cw with rfl|cw
   ·exact V0 hg h fg h1
   ·exact V1 hg h fg h2 g cw
  grind
theorem V2 {ms:Ms T} {na:Nat} {gs kz:amV} {gen:amP} {st ar:aw} {ρ ai:Kr} (hf:tB ms gen gs kz st ar ρ ai) (ha:cu na ρ ai):∀{l:List jg} {a a':amY},nr ms na gs st l=some a->nr ms na kz ar l=some a'->
 aJ (mu ms.f ρ) a->aJ (mu ms.f ai) a'
 |[],a,a',e,e',_=>by simp only[nr,ae]at e';subst e';exact λg hg=>by grind
 |r::l,a,a',e,e',h=>by
  simp only[nr]at e e';split at e
  ·rename_i a1 b h1 h2;simp only[ae]at e;subst e;split at e'
   ·rename_i amc b' agE Kl;simp only[ae]at e';subst e';intro g hg;simp only[az]at hg;rcases hg with rfl|hg
    ·rw[<-VY hf ha h1 agE];exact h a1 (by simp)
    ·exact V2 hf ha h2 Kl (λy hy=>h y (by grind)) g hg
   grind
  grind
theorem V3 {gen:amP}:∀{ss ts:amZ} {i:Nat} {s t:S},mg gen ss ts->ss[i]?=some s->ts[i]?=some t->m7 gen s t
 |[],[],i,s,t,_,h,_=>by grind
 |[],_::_,_,_,_,h,_,_=>h.elim
 |_::_,[],_,_,_,h,_,_=>h.elim
 |s0::ss,t0::ts,i,s,t,h,hs,ht=>by
  have key:m7 gen s0 t0/\mg gen ss ts:=by
   simp only[mg]at h;split at h
   ·exact⟨trivial,h⟩
   ·exact h
  cases i with
  |zero=>grind
  |succ i=>simp at hs ht;exact V3 key.2 hs ht
theorem NA {gen:amP}:∀{xs ys:amT} {i:Nat} {x y:X},fc gen xs ys->xs[i]?=some x->ys[i]?=some y->y≠ .aD->ga gen x y
 |[],[],i,x,y,_,h,_,_=>by grind
 |[],_::_,_,_,_,h,_,_,_=>h.elim
 |_::_,[],_,_,_,h,_,_,_=>h.elim
 |x0::xs,y0::ys,i,x,y,h,hx,hy,hj=>by
  cases i with
  |zero=>
   simp at hx hy;subst hx;subst hy;unfold fc at h;grind
  |succ i=>
   simp at hx hy;refine NA (xs:=xs) (ys:=ys) ?_ hx hy hj;simp only[fc]at h;grind
theorem V4 {gen:amP}:∀{bs cs:anj} {i:Nat} {l l':amT},sL gen bs cs->bs[i]?=some (some l)->cs[i]?=some (some l')->fc gen l l'
 |[],[],i,_,_,_,h,_=>by grind
 |[],_::_,_,_,_,h,_,_=>h.elim
 |_::_,[],_,_,_,h,_,_=>h.elim
 |b::bs,c::cs,i,l,l',h,hb,hc=>by
  cases i with
  |zero=>simp at hb hc;subst hb;subst hc;exact h.1
  |succ i=>
   simp at hb hc;refine V4 (bs:=bs) (cs:=cs) ?_ hb hc;cases c with
   |none=>exact h
   |some ys=>
    cases b with
    |none=>exact h.elim
    |some xs=>exact h.2
def V5 (ρ ai:Kr) (k k':AK):Prop:=
 match k,k' with
 | .cells _, .cells _=>True
 | .rows e w x, .rows e' w' x'=>e'=e/\w'=w/\ah (ai x')=ah (ρ x)
 |_,_=>False
def V6 (st ar:aw) (ρ ai:Kr):Prop:=∀(b:Nat) k',ar.boxes[b]?=some (some k')->∃k,st.boxes[b]?=some (some k)/\V5 ρ ai k k'
theorem NB {gen:amP} {f:Nat->C->Int} {ρ ai:Kr} (ha:∀y,y<n->ai y=ρ y):∀{hs:ans} {xs:anm} {l:anf} {v:Nat},iy gen hs xs=some l->iP f ρ ai v l->
 (∀l,some l∈hs->l.lt n)->∀(b:Nat) k',(nc hs v)[b]?=some (some k')->∃k,xs[b]?=some (some k)/\V5 ρ ai k k'
 |[],_,_,_,_,_,_,b,k',h=>by simp[nc]at h
 |some _::_,[],_,_,h,_,_,_,_,_=>by simp[iy]at h
 |none::_,[],_,_,h,_,_,_,_,_=>by simp[iy]at h
 |none::hs,x::xs,l,v,hh,hg,aj,b,k',h=>by
  simp only[iy]at hh;simp only[nc]at h;cases b with
  |zero=>grind
  |succ b=>simp only[oC]at h⊢;exact NB (hs:=hs) (xs:=xs) (v:=v) ha hh hg (λl hl=>aj l (by grind)) b k' h
 |some _::_,none::_,_,_,h,_,_,_,_,_=>by simp[iy]at h
 |some h0::hs,some x::xs,l,v,hh,hg,aj,b,k',h=>by
  simp only[iy]at hh;split at hh
  ·rename_i a c h1 h2;simp only[ae]at hh;subst hh;have hr:=hg.right;rw[Nw h1]at hr;simp only[nc]at h;cases b with
   |zero=>
    simp only[lV,ae]at h⊢;subst h;refine⟨x,rfl,?_⟩;have hl:=hg.left;unfold As at h1;split at h1
    ·exact trivial
    ·split at h1
     ·rename_i hc;simp only[ae]at h1;subst h1;have:=hl 0 _ _ rfl;simp only[jy,jf,AX.den,X.dx]at this;exact⟨hc.1.symm,hc.2.symm,by rw[this];rfl⟩
     grind
    ·split at h1
     ·rename_i hc;obtain⟨rfl,rfl,rfl⟩:=hc;exact⟨rfl,rfl,by rw[ha _ (show _<n from aj (.bo _ _ _) (kj ..))]⟩
     grind
    grind
   |succ b=>simp only[oC]at h⊢;exact NB (hs:=hs) (xs:=xs) ha h2 hr (λl hl=>aj l (by grind)) b k' h
  grind
theorem V7 {ms:Ms T} {gen:amP} {st ar:aw} {ρ ai:Kr} (h1:mg gen (st.den ms.f ρ).aq (ar.den ms.f ai).aq) (h2:sL gen (st.den ms.f ρ).boxes (ar.den ms.f ai).boxes)
 (ht:ar.aq.all (λs=>match s with| .bj _=>false|_=>true)=true) (hk:V6 st ar ρ ai) {gs kz:amV}
 (hg:∀(k:Nat) x y,gs[k]?=some x->kz[k]?=some y->ga gen (x.den ms.f ρ) (y.den ms.f ai)):tB ms gen gs kz st ar ρ ai:=by
 intro r x y hx hy hj;cases r with
 |slot t c=>
  simp only[mC,gF]at hx hy;split at hx
  ·rename_i s hs;split at hy
   ·rename_i s' cS;have fe:=V3 h1 (i:=t) (s:=s.den ms.f ρ) (t:=s'.den ms.f ai) (by simp[aw.den,hs]) (by simp[aw.den,cS]);have kc:=aX.1 ht s' (aY cS);cases s' with
    |one y'=>
     cases c with
     |succ c=>simp[AS.xs]at hy
     |zero=>
      simp[AS.xs]at hy;subst hy;cases hz:s.den ms.f ρ with
      |one x'=>
       have ex:x.den ms.f ρ=x':=by
        cases s with
        |one x0=>simp[AS.xs]at hx;subst hx;simp[AS.den]at hz;omega
        |agg l=>simp[AS.den]at hz
        |bj l=>simp[AS.den]at hz
       rw[hz]at fe;rw[ex];unfold m7 at fe;simp only[AS.den]at fe;omega
      |agg l=>rw[hz]at fe;unfold m7 at fe;simp only[AS.den]at fe
      |bj l=>rw[hz]at fe;unfold m7 at fe;simp only[AS.den]at fe
    |agg l'=>
     cases s with
     |one x0=>exact fe.elim
     |agg l=>have fe:fc gen (l.map (AX.den ms.f ρ)) (l'.map (AX.den ms.f ai)):=fe;exact NA fe (i:=c) (by simp only[AS.xs]at hx;grind) (by simp only[AS.xs]at hy;grind) hj
     |bj l=>exact fe.elim
    |bj l=>grind
   grind
  grind
 |box b c=>
  simp only[mC,gF]at hx hy;split at hy
  ·rename_i l' bA;obtain⟨k,jF,dG⟩:=hk b _ bA;rw[jF]at hx;cases k with
   |cells l=>have fe:=V4 h2 (pa jF) (pa bA);exact NA fe (i:=c) (by simp only at hx;simp[AK.den,hx]) (by simp[AK.den,hy]) hj
   |rows e w v=>exact dG.elim
  ·rename_i e' w' v' bA;obtain⟨k,jF,dG⟩:=hk b _ bA;rw[jF]at hx;cases k with
   |cells l=>exact dG.elim
   |rows e w v=>
    split at hy
    ·simp only[ae]at hx hy;subst hx;subst hy;obtain⟨rfl,rfl,h4⟩:=dG;simp only[AX.den,h4];exact⟨rfl,rfl⟩
    grind
  grind
 |gh k=>exact hg k x y hx hy
 |arg j=>cases hx
end
abbrev anw:=List (eF×eF×Nat)
end Go.Pv
