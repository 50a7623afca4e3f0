/- Part of the proof of RecordSkeletons. -/
import Derived.Test.YtmanimipgpdbcaaGreatA
import Derived.KernelRfl
import Derived.Laws.Strings
import Derived.Lib.SliceRun
import Derived.Test.YtmanimipgpdbcaaGreatProg
set_option linter.unusedVariables false
set_option linter.unusedSimpArgs false
namespace Go.Pv
open Go
structure bX where
 P:Program
 T:ay
 specs:FuncId->Option dw
 ann:List (Nat×Nat)
structure dT (c:bX):Prop where
 mf:cr c.P c.T
 specs:m3 c.P c.T c.specs
def p8 (st:St):Callee->Option FuncId
 | .value x=>(match ev st x with| .one (.fV f)=>some f|_=>none)
 |_=>none
theorem abP {st:St} {cl:Callee} {f:FuncId} (hf:p8 st cl=some f):∃x,cl= .value x:=by
 unfold p8 at hf;split at hf
 ·exact⟨_,rfl⟩
 ·cases hf
theorem abQ {T:ay} {cx:Cx} {E:Env} {w:World} {st:St} {a:Act} (h:aM T cx E st a w) {cl:Callee} {f:FuncId} (hf:p8 st cl=some f):
 ∃x,cl= .value x/\a.eval x= .func (.func f) #[] #[]:=by
 unfold p8 at hf;split at hf
 ·rename_i x;split at hf
  ·rename_i g hx;have h1:=dy h x;rw[hx]at h1;simp only[ae]at hf;subst hf;exact⟨x,rfl,h1⟩
  ·cases hf
 ·cases hf
def eC (b:Bool):S:= .one (.c (.bool b))
def Fm:BinOp->Operand->Bool
 | .eql, .const (.slice none 0 0)=>true
 |_,_=>false
def Ki (P:Program) (t:Nat):Bool:=match P.underlying t with|some (.slice _)=>true|_=>false
def Fo:S->Bool
 | .one (.c (.sl _ _))=>true
 | .one (.own _ _ _ _)=>true
 | .one .bc=>true
 |_=>false
def Fp:S->Prop
 | .one (.c (.sl _ rows))=>rows.length=0
 | .one (.own _ _ _ rows)=>rows.length=0
 |_=>True
theorem abR {T:ay} {E:Env} {w:World} {V:Vw} {s:S} {n c:Nat} (hs:RS T E w V s (.slice none n c)):Fp s:=by
 unfold Fp;split
 ·cases hs;rfl
 ·have:=hs.1;cases this;rfl
 ·trivial
theorem abS {T:ay} {E:Env} {w:World} {V:Vw} {s:S} {u:Value} (h:Fo s=true) (hs:RS T E w V s u):∃b n c,u= .slice b n c:=by
 unfold Fo at h;split at h
 ·rcases aG.slice hs with⟨_,mR,h⟩|⟨b,off,cap,h,_⟩<;>exact⟨_,_,_,h⟩
 ·rcases aG.slice hs.1 with⟨_,mR,h⟩|⟨b,off,cap,h,_⟩<;>exact⟨_,_,_,h⟩
 ·have hs:u=_:=hs;exact⟨_,_,_,hs⟩
 ·cases h
def Fq:S->Bool
 | .one (.bz e _ _ _)=>Nat.ble 1000 e
 |_=>false
def p9 (ann:amU) (d:amR):Bool:=
 match d with
 |some d=>ann.any λp=>p.1==d+262144
 |none=>false
def S.hZ (s:S):Bool:=s.xs.all λy=>y.ids.isEmpty
def R.np (r:R) (b:Bool):R:=
 match b,r with
 |true, .v s=>(match s.hZ with|true=> .v s|false=> .bad)
 |true, .ck p s=>(match s.hZ with|true=> .ck p s|false=> .bad)
 |true, .fk p s=>(match s.hZ with|true=> .fk p s|false=> .bad)
 |_,r=>r
theorem Kj (r:R):r.np false=r:=by cases r<;>rfl
theorem Kk (r:R) (b:Bool):r.np b=r\/r.np b= .bad:=by unfold R.np;split<;>first|exact .inl rfl|(split<;>first|exact .inl rfl|exact .inr rfl)
theorem abT {r:R} {b:Bool} {f:S->St} {K:amX} (h:((r.np b).iW f).wp K):(r.iW f).wp K:=by
 rcases Kk r b with e|e<;>rw[e]at h
 ·exact h
 ·exact h.elim
def cy (c:bX) (st:St) (o:Oper):bl:=
 match o.op with
 | .call cl=>
  (match p8 st cl.callee with
  |some f=>iH c.specs st o.dst f (cl.args.toList.map (ev st))
  |none=>j6 c.P c.T c.ann st o)
 | .binOp op t x y _=>if(Fm op y&&Ki c.P t&&Fo (ev st x))=true then .call True Bool (λb=>b=true->Fp (ev st x)) (λb=>st.put o.dst (eC b))else j6 c.P c.T c.ann st o
 | .load t x=>(match jb c.ann o.dst&&Fq (ev st x)with|true=>uP c.P c.T (hY c.ann o) st o.dst t (ev st x)|false=>((dU c.P c.T st t (ev st x)).np (p9 c.ann o.dst)).iW (st.put o.dst))
 | .store t x v=>(match Fj (ev st x)with|true=>jn c.T (hY c.ann o) st o.dst t (ev st x) (ev st v)|false=>j6 c.P c.T c.ann st o)
 |_=>j6 c.P c.T c.ann st o
variable {E:Env} {w:World}
theorem abU {P:Program} {f:FuncId} {fn:Func} (h1:P.funcs[f]?=some fn) (h2:(fn.name== "runtime.NumGoroutine")=false) (h3:fn.body.isNone=false) (args:ane):
 (callFunc f args).run P w= .ok (.enter f args) w:=by
 have Kl:¬fn.name= "runtime.NumGoroutine" :=by simpa using h2
 have abV:¬fn.body=none:=λe=>by rw[e]at h3;cases h3
 simp[callFunc,h1,Kl,abV]
theorem Km {c:bX} (hc:dT c) {cx:Cx} {st:St} {a:Act} {o:Oper} {Q:Exit->Act->World->Prop} {K:amX} (h:aM c.T cx E st a w)
 (hk:(cy c st o).wp K):o.wp c.P a w (iF c.T cx K) Q:=by
 unfold cy at hk;split at hk
 ·rename_i cl ho;split at hk
  ·rename_i f hf;obtain⟨x,oW,qc⟩:=abQ h hf;unfold iH at hk;split at hk
   ·exact hk.elim
   ·rename_i fs dM;dsimp only at hk;obtain⟨fn,h1,h2,h3⟩:=hc.specs.fn f fs dM;split at hk
    ·rename_i dv;have dv:=(aB _ _▸dv).1;have wY:∀(i:Nat) s u,(cl.args.toList.map (ev st))[i]?=some s->(cl.args.toList.map a.eval)[i]?=some u->RS c.T E w st.vw s u:=by
      intro i s u hs hu;rw[bP]at hs hu;cases hq:cl.args.toList[i]?with
      |none=>simp[hq]at hu
      |some x=>simp only[hq,cj,ae]at hs hu;subst hs;subst hu;exact dy h x
     obtain⟨cz,mU⟩:=J1 (V:=st.vw) hc.mf fs.am _ _ wY;have hN:=h.iY hc.mf fs.bm dv;have abW:gC E w st.vw E w (st.iY fs.bm (j9 st (gQ st.gen fs.am (cl.args.toList.map (ev st))))).vw:=by
      refine⟨dQ.refl _ _,λb hb=>⟨?_,rfl,rfl,λ_=>⟨rfl,rfl⟩⟩,λ_=>?_,λb g _ hg _=>⟨hg,rfl⟩,rfl⟩
      ·exact Ro st fs.bm dv hb
      ·unfold St.iY;split<;>exact bh _
     have key:=abw (P:=c.P) (f:=f) (vals:=cl.args.map a.eval) hN (λΞ bs sp ct=>hc.specs.ok f fs Ξ bs sp dM ct) (λΞ bs sp ct=>hc.specs.len f fs Ξ bs sp dM ct)
      (by rw[cz];simp) (λi s u hs hu=>RS.bo abW (mU i s u hs (by simpa using hu))) hk
     unfold Oper.wp;have ep:(execOp a.eval o).run c.P w= .ok (.enter f (cl.args.map a.eval)) w:=by simp[execOp,ho,resolve,oW,qc,Deferred.ofValue,invoke,abU h1 h2 h3]
     rw[ep];refine Calls.mono key λe w' he=>?_;obtain⟨v,rfl,hg⟩:=he;exact hg
    ·exact hk.elim
  ·exact BY hc.mf c.ann h hk
 ·rename_i op t x y z ho;split at hk
  ·rename_i qd;simp only[aB]at qd;obtain⟨⟨h1,h2⟩,h3⟩:=qd;unfold Fm at h1;split at h1
   ·unfold Ki at h2;split at h2
    ·rename_i e he;obtain⟨b,n,c',hv⟩:=abS h3 (dy h x);refine kQ (v:= .bool b.isNone) (w':=w) ?_ ⟨_,hk.2 b.isNone (λhb=>by have:=dy h x;rw[hv]at this;cases b with|none=>exact abR this|some _=>cases hb),E,h.put o.dst (aG.bool _)⟩;have hy:a.eval (.const (.slice none 0 0))= .slice none 0 0:=rfl;simp[execOp,ho,hv,hy,eqGuard,Lib.run_eql_slice_nil w t e b n c' 0 0 he]
    ·cases h2
   ·cases h1
  ·exact BY hc.mf c.ann h hk
 ·rename_i t x ho;split at hk
  ·exact abF hc.mf h ho hk
  ·exact BY hc.mf c.ann h (by unfold j6;rw[ho];exact abT hk)
 ·rename_i t x v ho;split at hk
  ·exact abO hc.mf h ho hk
  ·exact BY hc.mf c.ann h hk
 ·exact BY hc.mf c.ann h hk
def eD (ops:amW) (st:St) (j:Nat):Option (Nat×Bool):=
 match ops[j]?with
 |some oj=>
  (match oj.dst with
  |some t=>(match st.get t with| .one (.c (.bool b))=>some (t,b)|_=>none)
  |none=>none)
 |none=>none
def aO:S:= .bj []
def nW (ops:amW) (st:St) (j:Nat):Bool:=
 match ops[j]?with
 |some oj=>
  (match oj.dst with
  |some t=>(match st.get t with| .bj []=>true|_=>false)
  |none=>false)
 |none=>false
def dk (c:bX) (ops:amW) (o:Oper) (st:St) (K:amX):Prop:=
 match o.guard with
 |none=>(cy c st o).wp K
 |some (j,want)=>
  (match eD ops st j with
  |some (t,b)=>
   (match want with
   |true=>nK b ((cy c (st.put (some t) (eC true)) o).wp K) (K ((st.put (some t) (eC false)).put o.dst aO))
   |false=>nK b (K ((st.put (some t) (eC true)).put o.dst aO)) ((cy c (st.put (some t) (eC false)) o).wp K))
  |none=>nW ops st j=true/\K (st.put o.dst aO))
theorem abX {T:ay} {cx:Cx} {st:St} {a:Act} (h:aM T cx E st a w) {ops:ang} {j t:Nat} {b:Bool} (hg:eD ops.toList st j=some (t,b)):
 yielded ops a.tmps j=some b/\a.tmps[t]?=some (.bool b):=by
 unfold eD at hg;split at hg
 ·rename_i oj dK;split at hg
  ·rename_i t' Ca;split at hg
   ·rename_i b' aR;simp only[ae,bT]at hg;obtain⟨rfl,rfl⟩:=hg;have aj:t'<st.aq.length:=by
     rcases aT t' st.aq.length with h'|h'
     ·exact h'
     ·simp[St.get,aZ,aW h']at aR
    have hs:st.aq[t']?=some (.one (.c (.bool b'))):=by rw[St.get,aZ,aP aj,fh]at aR;rw[aP aj,aR]
    have pM:t'<a.tmps.size:=by rw[h.len];exact aj
    have hu:a.tmps[t']?=some a.tmps[t']:=im pM;have hv:=(h.aq t' _ _ hs hu).bool;rw[hv]at hu;have qf:ops[j]?=some oj:=by simpa using dK
    exact⟨by simp[yielded,qf,Ca,hu],hu⟩
   ·cases hg
  ·cases hg
 ·cases hg
theorem aM.jc {T:ay} {cx:Cx} {st:St} {a:Act} (h:aM T cx E st a w) {t:Nat} {b:Bool} (ht:a.tmps[t]?=some (.bool b)):aM T cx E (st.put (some t) (eC b)) a w:=by
 have:=h.put (some t) (s:=eC b) (v:= .bool b) (sB b);have he:a.put (some t) (.bool b)=a:=by
  cases a with
  |mk tmps defers=>
   simp only[Act.put];congr 1;apply Array.ext
   ·simp
   ·intro i h1 h2;rw[alE]
    ·split
     ·rename_i hi;subst hi;simp only at ht;rw[im h2]at ht;simp at ht;exact ht.symm
     ·rfl
 rwa[he]at this
theorem Kn {T:ay} {E:Env} {w:World} {V:Vw}:RS T E w V aO undef:=⟨#[],rfl,rfl,λj p v hp=>by simp at hp⟩
theorem abY {T:ay} {cx:Cx} {st:St} {a:Act} (h:aM T cx E st a w) {ops:ang} {j:Nat} (hg:nW ops.toList st j=true):yielded ops a.tmps j=none:=by
 unfold nW at hg;split at hg
 ·rename_i oj dK;split at hg
  ·rename_i t ht;split at hg
   ·rename_i hs;have qf:ops[j]?=some oj:=by simpa using dK
    have aj:t<st.aq.length:=by
     rcases aT t st.aq.length with h'|h'
     ·exact h'
     ·simp[St.get,aZ,aW h']at hs
    have rl:st.aq[t]?=some (.bj []):=by simp only[St.get,aZ,aP aj,fh]at hs;rw[aP aj,hs]
    have Fs:t<a.tmps.size:=by rw[h.len];exact aj
    obtain⟨vs,hv,_⟩:=h.aq t _ _ rl (im Fs);simp only[yielded,qf,Option.bind_some,ht,im Fs,hv]
   ·cases hg
  ·cases hg
 ·cases hg
theorem RL {c:bX} (hc:dT c) {ops:ang} {cx:Cx} {st:St} {a:Act} {i:Nat} {o:Oper} (hi:ops[i]?=some o) {Q:Exit->Act->World->Prop} {K:amX}
 (h:Rel c.T cx st a w) (hk:dk c ops.toList o st K):wpOp c.P ops Q i (iF c.T cx K) a w:=by
 obtain⟨E,h⟩:=h;simp only[wpOp,hi];unfold dk at hk;split at hk
 ·rename_i hg;have hw:Region.wanted o (yielded ops a.tmps)=true:=by simp[Region.wanted,hg]
  rw[aC hw];exact .inl (Km hc h hk)
 ·rename_i j want hg;split at hk
  ·rename_i t b Ft;obtain⟨hy,ht⟩:=abX h Ft;have lD:=h.jc ht;cases want with
   |true=>
    cases b with
    |true=>
     have hw:Region.wanted o (yielded ops a.tmps)=true:=by simp[Region.wanted,hg,hy]
     rw[aC hw];exact .inl (Km hc lD hk)
    |false=>
     have hw:¬Region.wanted o (yielded ops a.tmps)=true:=by simp[Region.wanted,hg,hy]
     rw[aQ hw];exact⟨_,hk,E,lD.put o.dst Kn⟩
   |false=>
    cases b with
    |false=>
     have hw:Region.wanted o (yielded ops a.tmps)=true:=by simp[Region.wanted,hg,hy]
     rw[aC hw];exact .inl (Km hc lD hk)
    |true=>
     have hw:¬Region.wanted o (yielded ops a.tmps)=true:=by simp[Region.wanted,hg,hy]
     rw[aQ hw];exact⟨_,hk,E,lD.put o.dst Kn⟩
  ·have hy:=abY h hk.1;have hw:¬Region.wanted o (yielded ops a.tmps)=true:=by simp[Region.wanted,hg,hy]
   rw[aQ hw];exact⟨_,hk.2,E,h.put o.dst Kn⟩
end Go.Pv
namespace Go.Pv
open Go
variable {T:ay} {E:Env} {w:World}
def ga (gen:amP) (x y:X):Prop:=
 match y with
 | .aD=>x≠ .aD\/x= .aD
 | .c (.int k n)=>(match x with| .c (.int k' n')=>k'=k/\n'=n|_=>False)
 | .c (.bool b)=>(match x with| .c (.bool b')=>b'=b|_=>False)
 | .c (.str s)=>(match x with| .c (.str s')=>s'=s|_=>False)
 | .c (.sl e r)=>(match x with| .c (.sl e' r')=>e'=e/\r'=r| .own e' _ _ r'=>e'=e/\r'=r| .bc=>[]=r|_=>False)
 | .own e g n r=>(match x with| .own e' g' n' r'=>(n'=gen g'/\n=0)/\e'=e/\g'=g/\r'=r| .bc=>n=0/\[]=r|_=>False)
 | .bc=>x= .bc
 | .hH=>x= .hH
 | .fV f=>x= .fV f
 | .ptr b o=>(match x with| .ptr b' o'=>b'=b/\o'=o|_=>False)
 | .bz e r i o=>(match x with| .bz e' r' i' o'=>e'=e/\r'=r/\i'=i/\o'=o|_=>False)
 | .cd b o=>x= .cd b o
 | .cn e b r=>x= .cn e b r
 | .cq e b n=>x= .cq e b n
 | .dn k=>x= .dn k
 | .c .any=>(match x with| .c .any=>True|_=>False)
def fc (gen:amP):List X->List X->Prop
 |[],[]=>True
 |x::xs,y::ys=>(match y with| .aD=>fc gen xs ys|y=>ga gen x y/\fc gen xs ys)
 |_,_=>False
def m7 (gen:amP) (s t:S):Prop:=
 match t with
 | .one .aD=>True
 | .one y=>(match s with| .one x=>ga gen x y|_=>False)
 | .agg ys=>(match s with| .agg xs=>fc gen xs ys|_=>False)
 | .bj ys=>s= .bj ys
def mg (gen:amP):List S->List S->Prop
 |[],[]=>True
 |s::r,t::r'=>(match t with| .one .aD=>mg gen r r'|t=>m7 gen s t/\mg gen r r')
 |_,_=>False
def sL (gen:amP):List (Option (List X))->List (Option (List X))->Prop
 |[],[]=>True
 |b::r,b'::r'=>
  (match b' with
  |none=>sL gen r r'
  |some ys=>(match b with|some xs=>fc gen xs ys/\sL gen r r'|none=>False))
 |_,_=>False
def S.Fu:S->Bool
 | .bj _=>false
 |_=>true
def X.zi:X->Bool
 | .cd _ _=>true
 | .cn _ _ _=>true
 | .cq _ _ _=>true
 |_=>false
def Cb (bs:anj) (b:Nat):Bool:=
 match bs[b]?with
 |some (some _)=>true
 |_=>false
def St.closed (st:St):Bool:=
 (((st.aq.flatMap S.xs)++(st.boxes.flatMap λb=>b.getD [])).flatMap X.ids).all (Cb st.boxes)&&st.aq.all S.Fu
def Le (st ar:St):Prop:=mg st.gen st.aq ar.aq/\sL st.gen st.boxes ar.boxes
structure wZ (st ar:St):Prop where
 le:Le st ar
 closed:ar.closed=true
 gen:∀g,ar.gen g=0
theorem rm {V V':Vw} {x y:X} {u:Value} (h:ga V.gen x y) (hx:RX T E w V x u) (hp:∀b∈y.ids,V.hs b=true->V'.hs b=true) (hg:∀g,V'.gen g=0):RX T E w V' y u:=by
 unfold ga at h;split at h
 ·exact hx.jW
 ·split at h
  ·obtain⟨rfl,rfl⟩:=h;exact hx
  ·exact h.elim
 ·split at h
  ·subst h;exact hx
  ·exact h.elim
 ·split at h
  ·subst h;exact hx
  ·exact h.elim
 ·split at h
  ·obtain⟨rfl,rfl⟩:=h;exact hx
  ·obtain⟨rfl,rfl⟩:=h;exact hx.1
  ·subst h;have hx:u=_:=hx;subst hx;exact aG.nil _
  ·exact h.elim
 ·split at h
  ·obtain⟨⟨hn,rfl⟩,rfl,rfl,rfl⟩:=h;exact⟨hx.1,gk _,λ_=>hx.2.2.1 hn,hx.2.2.2⟩
  ·obtain⟨rfl,rfl⟩:=h;have hx:u=_:=hx;subst hx;exact⟨aG.nil _,gk _,λ_=> .inl ⟨_,rfl⟩,λ_ _ b off l c hu=>(by cases hu)⟩
  ·exact h.elim
 ·subst h;exact hx
 ·subst h;exact hx
 ·subst h;exact hx
 ·split at h
  ·obtain⟨rfl,rfl⟩:=h;exact⟨hp _ (by simp[X.ids]) hx.1,hx.2⟩
  ·exact h.elim
 ·split at h
  ·obtain⟨rfl,rfl,rfl,rfl⟩:=h;exact hx
  ·exact h.elim
 ·subst h;exact⟨hp _ (by simp[X.ids]) hx.1,hx.2⟩
 ·subst h;exact⟨hp _ (by simp[X.ids]) hx.1,hx.2⟩
 ·subst h;rcases hx with hx|⟨h1,h2⟩
  ·exact .inl hx
  ·exact .inr ⟨hp _ (by simp[X.ids]) h1,h2⟩
 ·subst h;exact hx
 ·split at h
  ·exact hx
  ·exact h.elim
theorem Ko {V V':Vw} (hg:∀g,V'.gen g=0):∀{xs ys:amT} {us:ana},fc V.gen xs ys->bF T E w V xs us->(∀y∈ys,∀b∈y.ids,V.hs b=true->V'.hs b=true)->bF T E w V' ys us
 |[],[],us,_,h,_=>⟨h.1,λj x u hx=>by simp at hx⟩
 |[],_::_,_,h,_,_=>h.elim
 |_::_,[],_,h,_,_=>h.elim
 |x::xs,y::ys,us,h,hx,hp=>by
  cases us with
  |nil=>have:=hx.1;simp at this
  |cons u us=>
   have w0:RX T E w V x u:=hx.2 0 x u rfl rfl;have cW:bF T E w V xs us:=⟨by have:=hx.1;simp at this;exact this,λj z v hz hv=>hx.2 (j+1) z v (by simpa using hz) (by simpa using hv)⟩
   have key:ga V.gen x y/\fc V.gen xs ys:=by
    simp only[fc]at h;split at h
    ·exact⟨by unfold ga;by_cases e:x= .aD;exact .inr e;exact .inl e,h⟩
    ·exact h
   have h1:=rm key.1 w0 (hp y (by simp)) hg;have h2:=Ko hg key.2 cW (λz hz=>hp z (by simp[hz]));refine⟨by have:=h2.1;simp[this],λj z v hz hv=>?_⟩;cases j with
   |zero=>simp at hz hv;subst hz;subst hv;exact h1
   |succ j=>simp at hz hv;exact h2.2 j z v hz hv
theorem abZ {V V':Vw} (hg:∀g,V'.gen g=0) {s t:S} {u:Value} (h:m7 V.gen s t) (hx:RS T E w V s u) (hp:∀y∈t.xs,∀b∈y.ids,V.hs b=true->V'.hs b=true) (hn:t.Fu=true):RS T E w V' t u:=by
 unfold m7 at h;split at h
 ·trivial
 ·rename_i y hy;split at h
  ·rename_i x;have Kp:x≠ .aD:=by
    rintro rfl;unfold ga at h;cases y with
    |aD=>exact hy rfl
    |c v=>cases v<;>exact h
    |own=>exact h
    |bc=>cases h
    |hH=>cases h
    |fV f=>cases h
    |ptr=>exact h
    |bz=>exact h
    |cd=>cases h
    |cn=>cases h
    |cq=>cases h
    |dn k=>cases h
   exact RS.gN (rm h (RS.one Kp hx) (hp y (by simp[S.xs])) hg)
  ·exact h.elim
 ·split at h
  ·obtain⟨cs,rfl,hx⟩:=hx;exact⟨cs,rfl,Ko hg h hx hp⟩
  ·exact h.elim
 ·cases hn
theorem RM {gen:amP}:∀{ss ts:amZ},mg gen ss ts->ss.length=ts.length/\∀(i:Nat) t,ts[i]?=some t->∃s,ss[i]?=some s/\m7 gen s t
 |[],[],_=>⟨rfl,λi t h=>by simp at h⟩
 |[],_::_,h=>h.elim
 |_::_,[],h=>h.elim
 |s::ss,t::ts,h=>by
  have key:m7 gen s t/\mg gen ss ts:=by
   simp only[mg]at h;split at h
   ·exact⟨trivial,h⟩
   ·exact h
  obtain⟨h1,h2⟩:=RM key.2;refine⟨by simp[h1],λi t' hi=>?_⟩;cases i with
  |zero=>simp at hi;subst hi;exact⟨s,rfl,key.1⟩
  |succ i=>simp at hi;simpa using h2 i t' hi
theorem uQ {gen:amP}:∀{bs cs:anj},sL gen bs cs->∀(i:Nat) l',cs[i]?=some (some l')->∃l,bs[i]?=some (some l)/\fc gen l l'
 |[],[],_,i,l',h=>by simp at h
 |[],_::_,h,_,_,_=>h.elim
 |_::_,[],h,_,_,_=>h.elim
 |b::bs,c::cs,h,i,l',hi=>by
  simp only[sL]at h;cases c with
  |none=>
   cases i with
   |zero=>simp at hi
   |succ i=>simp at hi;simpa using uQ h i l' hi
  |some ys=>
   cases b with
   |none=>exact h.elim
   |some xs=>
    cases i with
    |zero=>simp at hi;subst hi;exact⟨xs,rfl,h.1⟩
    |succ i=>simp at hi;simpa using uQ h.2 i l' hi
theorem uR {gen:amP}:∀{xs ys:amT},fc gen xs ys->xs.length=ys.length
 |[],[],_=>rfl
 |[],_::_,h=>h.elim
 |_::_,[],h=>h.elim
 |x::xs,y::ys,h=>by
  have key:fc gen xs ys:=by
   simp only[fc]at h;split at h
   ·exact h
   ·exact h.2
  simp[uR key]
theorem aM.le {cx:Cx} {st ar:St} {a:Act} (h:aM T cx E st a w) (l:wZ st ar):aM T cx E ar a w:=by
 obtain⟨⟨l1,l2⟩,lc,lg⟩:=l;obtain⟨hlen,cT⟩:=RM l1;simp only[St.closed,aB]at lc;obtain⟨lp,ln⟩:=lc;have sM:∀b,Cb ar.boxes b=true->st.vw.hs b=true->ar.vw.hs b=true:=by
  intro b hb hs;unfold Cb at hb;split at hb
  ·rename_i l' bA;obtain⟨l,h1,h2⟩:=uQ l2 b l' bA;obtain⟨l0,h3,h4⟩:=qQ (bs:=st.boxes) hs;rw[h1]at h3;simp only[ae]at h3;subst h3;have hlen:=uR h2;exact mQ bA (by rintro rfl;exact h4 (jz.1 hlen))
  ·cases hb
 have fR:∀s∈ar.aq,∀y∈s.xs,∀b∈y.ids,st.vw.hs b=true->ar.vw.hs b=true:=by intro s hs y hy b hb;exact sM b (aX.1 lp b (ba.2 ⟨y,bB.2 (.inl (ba.2 ⟨s,hs,hy⟩)),hb⟩))
 have ab0:∀(id:Nat) l,ar.boxes[id]?=some (some l)->∀y∈l,∀b∈y.ids,st.vw.hs b=true->ar.vw.hs b=true:=by intro id l hl y hy b hb;exact sM b (aX.1 lp b (ba.2 ⟨y,bB.2 (.inr (ba.2 ⟨some l,aY hl,hy⟩)),hb⟩))
 have al:∀{l l':amT},fc st.gen l l'->l'≠[]->l≠[]:=by intro l l' hf hn e;subst e;exact hn (jz.1 (uR hf).symm)
 refine⟨by rw[h.len,hlen],λi t u ht hu=>?_,λid l' hl hn=>?_,λid dt ab1 ab2 h1 h2 n1 n2 he=>?_,h.defers,h.ext,⟨by rw[<-hlen];exact h.fix.1,h.fix.2.1,λid l' aE hl hn=>?_⟩,λid l' aE hl hn cL=>?_,h.hi,h.so⟩
 ·obtain⟨s,hs,hf⟩:=cT i t ht;have hm:=aY ht;exact abZ (V:=st.vw) (V':=ar.vw) lg hf (h.aq i s u hs hu) (fR t hm) (aX.1 ln t hm)
 ·obtain⟨l,hb,hf⟩:=uQ l2 id l' hl;obtain⟨c1,c2,cs,el,c3,c5,c4⟩:=h.boxes id l hb (al hf hn);refine⟨c1,c2,cs,el,c3,by rw[<-uR hf];exact c5,?_⟩;rw[<-uR hf];exact Ko (V:=st.vw) (V':=ar.vw) lg hf c4 (ab0 id l' hl)
 ·obtain⟨m1,g1,f1⟩:=uQ l2 id ab1 h1;obtain⟨m2,g2,f2⟩:=uQ l2 dt ab2 h2;exact h.inj id dt m1 m2 g1 g2 (al f1 n1) (al f2 n2) he
 ·obtain⟨l,hb,f⟩:=uQ l2 id l' hl;exact h.fix.2.2 id l aE hb (al f hn)
 ·obtain⟨l,hb,f⟩:=uQ l2 id l' hl;exact h.oI id l aE hb (al f hn) cL
inductive Px where
 |normal
 |exit (id:Nat)
 |ret
def jc (st:St) (x:Operand) (b:Bool):St:=
 match x with
 | .tmp t=>st.put (some t) (eC b)
 |_=>st
def Kq (T:ay) (cx:Cx) (Q:Px->St->Prop):Exit->Act->World->Prop
 | .normal,a,w=>iF T cx (Q .normal) a w
 | .exit id,a,w=>iF T cx (Q (.exit id)) a w
 | .ret,a,w=>iF T cx (Q .ret) a w
 |_,_,_=>False
theorem Rel.le {cx:Cx} {st ar:St} {a:Act} (h:Rel T cx st a w) (l:wZ st ar):Rel T cx ar a w:=by obtain⟨E,h⟩:=h;exact⟨E,h.le l⟩
abbrev anc:=Px->St->Prop
end Go.Pv
namespace Go.Pv
open Go
variable {P:Program} {T:ay} {E:Env} {w:World}
def jo (P:Program) (T:ay) (st:St):ResultVar->Option (Bool×List X)
 | .tmp t=>(match st.get t with| .one .aD=>none| .one x=>some (false,[x])| .agg l=>some (true,l)| .bj _=>none)
 | .cell a t=>
  (match dU P T st t (st.get a)with
  | .v (.agg l)=>some (true,l)
  | .v (.one .aD)=>none
  | .v (.one x)=>some (false,[x])
  | .fk _ (.one .aD)=>none
  | .fk _ (.one x)=>some (false,[x])
  |_=>none)
def eV (P:Program) (T:ay) (st:St):List ResultVar->Option (List (Bool×List X))
 |[]=>some []
 |r::rs=>
  match jo P T st r,eV P T st rs with
  |some p,some ps=>some (p::ps)
  |_,_=>none
def w4 (ps:anx):S:=
 match ps with
 |[(true,l)]=> .agg l
 |[(false,[x])]=> .one x
 |ps=> .bj ps
def zj (tmps:ane):ResultVar->Sem Value
 | .tmp t=>pure (tmps.getD t undef)
 | .cell a t=>do loadVar t (<-asAddr (tmps.getD a undef))
theorem ab3 (hT:cr P T) {cx:Cx} {st:St} {a:Act} (h:aM T cx E st a w) {r:ResultVar} {p:Bool×List X} (hp:jo P T st r=some p):
 ∃v,(zj a.tmps r).run P w= .ok v w/\RP T E w st.vw p v:=by
 cases r with
 |tmp t=>
  have hv:=dy h (.tmp t);simp only[ev,Act.eval]at hv;simp only[jo]at hp;split at hp
  ·grind
  ·rename_i x hx hs;simp only[ae]at hp;subst hp;rw[hs]at hv;exact⟨_,rfl,RS.one (λe=>hx (by rw[e])) hv⟩
  ·rename_i l hs;simp only[ae]at hp;subst hp;rw[hs]at hv;exact⟨_,rfl,hv⟩
  grind
 |cell ad t=>
  have hv:=dy h (.tmp ad);simp only[ev,Act.eval]at hv;have hl:=QO hT h t hv;simp only[jo]at hp;have key:∀v,(Instr.loadAt t (a.tmps.getD ad undef)).run P w= .ok v w->(zj a.tmps (.cell ad t)).run P w= .ok v w:=by
   intro v hr;simp only[zj];cases hq:a.tmps.getD ad undef with
   |pointer o=>
    rw[hq]at hr;cases o with
    |some x=>assumption
    |none=>simp[Instr.loadAt,Instr.sureAddr,stuck]at hr
   |_=>rw[hq]at hr;simp[Instr.loadAt,Instr.sureAddr,stuck]at hr
  split at hp
  ·rename_i l hs;rw[hs]at hl;simp only[ae]at hp;subst hp;obtain⟨v,h1,h2⟩:=hl;exact⟨v,key v h1,h2⟩
  ·grind
  ·rename_i x hx hs;rw[hs]at hl;simp only[ae]at hp;subst hp;obtain⟨v,h1,h2⟩:=hl;exact⟨v,key v h1,RS.one (λe=>hx (by rw[e])) h2⟩
  ·grind
  ·rename_i x hx hs;rw[hs]at hl;simp only[ae]at hp;subst hp;obtain⟨_,v,h1,h2⟩:=hl;exact⟨v,key v h1,RS.one (λe=>hx (by rw[e])) h2⟩
  grind
theorem RN (hT:cr P T) {cx:Cx} {st:St} {a:Act} (h:aM T cx E st a w):∀{rs:List ResultVar} {ps:anx},eV P T st rs=some ps->
 ∃vs,(rs.mapM (zj a.tmps)).run P w= .ok vs w/\vs.length=ps.length/\∀(j:Nat) p v,ps[j]?=some p->vs[j]?=some v->RP T E w st.vw p v
 |[],ps,hp=>by simp only[eV,ae]at hp;simp_all
 |r::rs,ps,hp=>by
  simp only[eV]at hp;split at hp
  ·rename_i p Fv h1 h2;simp only[ae]at hp;subst hp;obtain⟨v,g1,g2⟩:=ab3 hT h h1;obtain⟨vs,g3,g4,g5⟩:=RN hT h h2;refine⟨v::vs,by simp_all,by grind,λj q u hq hu=>?_⟩;grind
  grind
theorem ab4 (hT:cr P T) {cx:Cx} {st:St} {a:Act} (h:aM T cx E st a w) {fn:Func} {ps:anx} (hp:eV P T st fn.results.toList=some ps):
 ∃v,(results fn a.tmps).run P w= .ok v w/\RS T E w st.vw (w4 ps) v:=by
 obtain⟨vs,h1,h2,h3⟩:=RN hT h hp;have hm:(fn.results.mapM (zj a.tmps)).run P w= .ok vs.toArray w:=by rw[Array.mapM_eq_mapM_toList];simp[h1]
 have ep:(results fn a.tmps).run P w= .ok (if h:vs.toArray.size=1 then vs.toArray[0]else .tuple vs.toArray) w:=by show((do let vs<-fn.results.mapM (zj a.tmps);pure (if h:vs.size=1 then vs[0]else .tuple vs):Sem Value)).run P w=_;rw[Sem.run_bind,hm];rfl
 refine⟨_,ep,?_⟩;unfold w4;split
 ·rename_i l;have hl:vs.length=1:=by simpa using h2
  obtain⟨v,rfl⟩:=P5.1 hl;have:=h3 0 (true,l) v rfl rfl;exact this
 ·rename_i x;have hl:vs.length=1:=by simpa using h2
  obtain⟨v,rfl⟩:=P5.1 hl;have:=h3 0 (false,[x]) v rfl rfl;exact RS.gN this
 ·rename_i n1 n2;by_cases hl:vs.length=1
  ·obtain⟨v,rfl⟩:=P5.1 hl;have bA:ps.length=1:=by simpa using h2.symm
   obtain⟨p,rfl⟩:=P5.1 bA;exfalso;have w5:∀(rs:List ResultVar) (ps:anx),eV P T st rs=some ps->∀p∈ps,(∃l,p=(true,l))\/∃x,p=(false,[x]):=by
    intro rs;induction rs with
    |nil=>intro ps fR;simp[eV]at fR;grind
    |cons r rs ih=>
     intro ps fR;simp only[eV]at fR;split at fR
     ·rename_i p' Fv g1 g2;simp only[ae]at fR;subst fR;intro q hq;simp at hq;rcases hq with rfl|hq
      ·cases r with
       |tmp t=>
        simp only[jo]at g1;grind
       |cell ad t=>
        simp only[jo]at g1;grind
      grind
     grind
   rcases w5 _ _ hp p (by simp)with⟨l,rfl⟩|⟨x,rfl⟩
   all_goals grind
  ·have:¬vs.toArray.size=1:=by simpa using hl
   rw[dif_neg this];exact⟨vs.toArray,rfl,by omega,λj p v ja hv=>h3 j p v ja (by grind)⟩
def X.shift (nt:Nat):X->X
 | .ptr i off=> .ptr (nt+i) off
 | .cd _ _=> .aD
 | .cn _ _ _=> .aD
 | .cq _ _ _=> .aD
 |x=>x
def X.outer (nt n k:Nat):X->X
 | .ptr i off=> .ptr (if i<n then nt+i else k) off
 |x=>x
def St.start (fn:Func) (Ξ:amZ) (bs:anb):St:=
 {aq:=Ξ.map (S.bH (X.shift fn.ntmps))++List.replicate (fn.ntmps-Ξ.length) (.one .aD)
  boxes:=List.replicate fn.ntmps none++bs.map (λl=>some (l.map (X.shift fn.ntmps)))
  gen:=λ_=>0}
def RO (gen:amP) (p q:Bool×List X):Prop:=p.1=q.1/\fc gen p.2 q.2
def Fw (gen:amP):List (Bool×List X)->List (Bool×List X)->Prop
 |[],[]=>True
 |p::ps,q::qs=>RO gen p q/\Fw gen ps qs
 |_,_=>False
def sN (gen:amP) (s t:S):Prop:=
 match t with
 | .one .aD=>True
 | .one y=>(match s with| .one x=>ga gen x y|_=>False)
 | .agg ys=>(match s with| .agg xs=>fc gen xs ys|_=>False)
 | .bj ys=>(match s with| .bj xs=>Fw gen xs ys|_=>False)
def w6 (st:St) (nt n k:Nat) (new:Bool):List (Option (List X)):=
 (List.range n).map (λi=>(st.boxes[nt+i]?).join)++(if new then[(st.boxes[k]?).join]else[])
def sO (gen:amP):List (Option (List X))->List (List X)->Prop
 |[],[]=>True
 |some l::r,l'::r'=>fc gen l l'/\sO gen r r'
 |_,_=>False
theorem RQ {gen:amP}:∀{ps qs:anx},Fw gen ps qs->ps.length=qs.length/\∀(j:Nat) q,qs[j]?=some q->∃p,ps[j]?=some p/\RO gen p q
 |[],[],_=>⟨rfl,λj q h=>by grind⟩
 |[],_::_,h=>h.elim
 |_::_,[],h=>h.elim
 |p::ps,q::qs,h=>by
  obtain⟨h1,h2⟩:=RQ h.2;refine⟨by grind,λj q' hj=>?_⟩;cases j with
  |zero=>simp at hj;subst hj;exact⟨p,rfl,h.1⟩
  |succ j=>grind
theorem RR {gen:amP}:∀{os:anj} {ls:anb},sO gen os ls->os.length=ls.length/\∀(j:Nat) l',ls[j]?=some l'->∃l,os[j]?=some (some l)/\fc gen l l'
 |[],[],_=>⟨rfl,λj q h=>by grind⟩
 |[],_::_,h=>by simp[sO]at h
 |none::_,_,h=>by simp[sO]at h
 |some _::_,[],h=>by simp[sO]at h
 |some l::os,l'::ls,h=>by
  obtain⟨h1,h2⟩:=RR h.2;refine⟨by grind,λj q' hj=>?_⟩;cases j with
  |zero=>simp at hj;subst hj;exact⟨l,rfl,h.1⟩
  |succ j=>grind
theorem RT {st:St} {nt n k:Nat} {new:Bool} {E':Env} (fN:∀i,i<n->E'.β i=E.β (nt+i)/\E'.ο i=E.ο (nt+i)) (nX:new=true->E'.β n=E.β k/\E'.ο n=E.ο k) (cI:E'.φ=E.φ) (ky:E'.κ=E.κ) (hI:E'.fo=E.fo)
 {x y:X} {u:Value} (h:ga st.gen x (y.outer nt n k)) (hx:RX T E w st.vw x u) (hp:∀b∈y.cU,b<n+new.toNat) (ho:y.zi=false):
 RX T E' w ⟨λb=>decide (b<n+new.toNat),λ_=>0⟩ y u:=by
 have hE:E'={E with β:=E'.β,ο:=E'.ο}:=by cases E';cases E;simp at cI ky hI;simp[cI,ky,hI]
 cases y with
 |ptr i off=>
  simp only[X.outer,ga]at h;split at h
  ·rename_i b' o';obtain⟨rfl,rfl⟩:=h;have hi:=hp i (by simp[X.cU]);obtain⟨_,x2,x3,x4⟩:=hx;have yZ:E'.β i=E.β (if i<n then nt+i else k)/\E'.ο i=E.ο (if i<n then nt+i else k):=by
    by_cases aj:i<n
    ·grind
    ·rw[aQ aj];cases new with
     |false=>grind
     |true=>
      grind
   exact⟨by grind,by grind,by omega,by grind⟩
  grind
 |aD=>have:=rm (V:=st.vw) (V':=⟨λ_=>true,λ_=>0⟩) h hx (by grind) (λ_=>rfl);assumption
 |c v=>have:=rm (V:=st.vw) (V':=⟨λ_=>true,λ_=>0⟩) h hx (by grind) (λ_=>rfl);rw[hE];exact this
 |own e g m rows=>have:=rm (V:=st.vw) (V':=⟨λ_=>true,λ_=>0⟩) h hx (by grind) (λ_=>rfl);rw[hE];exact this
 |bc=>have:=rm (V:=st.vw) (V':=⟨λ_=>true,λ_=>0⟩) h hx (by grind) (λ_=>rfl);assumption
 |hH=>have:=rm (V:=st.vw) (V':=⟨λ_=>true,λ_=>0⟩) h hx (by grind) (λ_=>rfl);assumption
 |fV f=>have:=rm (V:=st.vw) (V':=⟨λ_=>true,λ_=>0⟩) h hx (by grind) (λ_=>rfl);assumption
 |cd b off=>cases ho
 |cn e b rows=>cases ho
 |cq e b n=>cases ho
 |bz e rows i off=>have:=rm (V:=st.vw) (V':=⟨λ_=>true,λ_=>0⟩) h hx (by grind) (λ_=>rfl);rw[hE];exact this
 |dn m=>have:=rm (V:=st.vw) (V':=⟨λ_=>true,λ_=>0⟩) h hx (by grind) (λ_=>rfl);rw[hE];exact this
theorem Cc {st:St} {nt n k:Nat} {new:Bool} {E':Env} (fN:∀i,i<n->E'.β i=E.β (nt+i)/\E'.ο i=E.ο (nt+i)) (nX:new=true->E'.β n=E.β k/\E'.ο n=E.ο k) (cI:E'.φ=E.φ) (ky:E'.κ=E.κ) (hI:E'.fo=E.fo):
 ∀{xs ys:amT} {us:ana},fc st.gen xs (ys.map (X.outer nt n k))->bF T E w st.vw xs us->(∀y∈ys,(∀b∈y.cU,b<n+new.toNat)/\y.zi=false)->
 bF T E' w ⟨λb=>decide (b<n+new.toNat),λ_=>0⟩ ys us
 |[],[],us,_,h,_=>⟨h.1,λj x u hx=>by grind⟩
 |[],_::_,_,h,_,_=>h.elim
 |_::_,[],_,h,_,_=>h.elim
 |x::xs,y::ys,us,h,hx,hp=>by
  cases us with
  |nil=>have:=hx.1;grind
  |cons u us=>
   have w0:RX T E w st.vw x u:=hx.2 0 x u rfl rfl;have cW:bF T E w st.vw xs us:=⟨by have:=hx.1;grind,λj z v hz hv=>hx.2 (j+1) z v (by grind) (by grind)⟩
   have key:ga st.gen x (y.outer nt n k)/\fc st.gen xs (ys.map (X.outer nt n k)):=by
    simp only[bu,fc]at h;split at h
    ·rename_i hj;rw[hj];exact⟨by unfold ga;grind,h⟩
    ·exact h
   have h1:=RT fN nX cI ky hI key.1 w0 (hp y (by simp)).1 (hp y (by simp)).2;have h2:=Cc fN nX cI ky hI key.2 cW (λz hz=>hp z (by grind));refine⟨by have:=h2.1;grind,λj z v hz hv=>?_⟩;cases j with
   |zero=>grind
   |succ j=>simp at hz hv;exact h2.2 j z v hz hv
theorem ab5 {st:St} {nt n k:Nat} {new:Bool} {E':Env} (fN:∀i,i<n->E'.β i=E.β (nt+i)/\E'.ο i=E.ο (nt+i)) (nX:new=true->E'.β n=E.β k/\E'.ο n=E.ο k) (cI:E'.φ=E.φ) (ky:E'.κ=E.κ) (hI:E'.fo=E.fo)
 {s t:S} {u:Value} (h:sN st.gen s (t.bH (X.outer nt n k))) (hx:RS T E w st.vw s u) (hp:∀y∈t.xs,(∀b∈y.cU,b<n+new.toNat)/\y.zi=false):
 RS T E' w ⟨λb=>decide (b<n+new.toNat),λ_=>0⟩ t u:=by
 cases t with
 |one y=>
  by_cases hy:y= .aD
  ·subst hy;trivial
  ·have Cd:y.outer nt n k≠ .aD:=by cases y<;>simp_all [X.outer]
   have h':∃x,s= .one x/\ga st.gen x (y.outer nt n k):=by
    simp only[S.bH]at h;generalize y.outer nt n k=yo at h Cd;cases s with
    |one x=>exact⟨x,rfl,by cases yo<;>first|exact absurd rfl Cd|exact h⟩
    |agg l=>cases yo<;>first|exact absurd rfl Cd|exact h.elim
    |bj l=>cases yo<;>first|exact absurd rfl Cd|exact h.elim
   obtain⟨x,rfl,g⟩:=h';have Kp:x≠ .aD:=by
    rintro rfl;unfold ga at g;cases hq:y.outer nt n k with
    |aD=>grind
    |c v=>grind
    |own=>grind
    |bc=>grind
    |hH=>grind
    |fV f=>grind
    |ptr=>grind
    |bz=>grind
    |cd=>grind
    |cn=>grind
    |cq=>grind
    |dn=>grind
   exact RS.gN (RT fN nX cI ky hI g (RS.one Kp hx) (hp y (by simp[S.xs])).1 (hp y (by simp[S.xs])).2)
 |agg ys=>
  simp only[S.bH,sN]at h;split at h
  ·obtain⟨cs,rfl,hx⟩:=hx;exact⟨cs,rfl,Cc fN nX cI ky hI h hx hp⟩
  grind
 |bj ys=>
  simp only[S.bH,sN]at h;split at h
  ·rename_i xs;obtain⟨vs,rfl,hlen,hx⟩:=hx;obtain⟨h1,h2⟩:=RQ h;refine⟨vs,rfl,by grind,λj q v hq hv=>?_⟩;obtain⟨p,ab6,Fx,sP⟩:=h2 j (q.1,q.2.map (X.outer nt n k)) (by grind);have Ce:=hx j p v ab6 hv;have jC:∀y∈q.2,y∈(S.bj ys).xs:=λy hy=>ba.2 ⟨q,aY hq,hy⟩;obtain⟨tq,lq⟩:=q;obtain⟨tp,lp⟩:=p;simp only at Fx sP Ce;subst Fx;cases tp with
   |true=>obtain⟨cs,rfl,Ce⟩:=Ce;exact⟨cs,rfl,Cc fN nX cI ky hI sP Ce (λy hy=>hp y (jC y hy))⟩
   |false=>
    cases lq with
    |nil=>trivial
    |cons y r=>
     cases r with
     |nil=>
      cases lp with
      |nil=>exact sP.elim
      |cons x r'=>
       cases r' with
       |nil=>have:=Cc (us:=[v]) fN nX cI ky hI sP (bF.single Ce) (λy hy=>hp y (jC y hy));exact this.2 0 y v rfl rfl
       |cons z al5=>
        simp only[bu,mL]at sP;simp only[fc]at sP;grind
     |cons y' r=>trivial
  grind
end Go.Pv
namespace Go.Pv
open Go
variable {T:ay}
def Sp.tight (sp:Sp) (n:Nat) (new:Bool):Prop:=
 ∀x,((sp.bx x).length=n+new.toNat/\∀l∈sp.bx x,l≠[])/\(∀y∈(sp.res x).xs,(∀b∈y.cU,b<n+new.toNat)/\y.zi=false)/\
  ∀l∈sp.bx x,∀y∈l,(∀b∈y.cU,b<n+new.toNat)/\y.zi=false
end Go.Pv
namespace Go.Pv
open Go
def dm (l:List (Nat×List Kd)) (e:Nat):List Kd:=
 match l.find? (λp=>p.1==e)with
 |some p=>p.2
 |none=>[]
def Ks:Kd->Value->Bool
 | .int k, .int k' n=>decide (k=k')&&n==0
 | .bool, .bool b=>!b
 | .str, .string s=>s.size==0
 | .sl _, .slice none 0 0=>true
 | .ptr, .pointer none=>true
 |_,_=>false
def zk:List Kd->List Value->Bool
 |[],[]=>true
 |k::ks,v::vs=>Ks k v&&zk ks vs
 |_,_=>false
theorem ab7 {k:Kd} {v:Value} (h:Ks k v=true):v=zeroV k:=by
 unfold Ks at h;split at h
 ·simp at h;obtain⟨rfl,rfl⟩:=h;rfl
 ·simp at h;subst h;rfl
 ·rename_i s;have hs:s.size=0:=by simpa using h
  simp only[zeroV];congr 1;exact ByteArray.ext (Array.eq_empty_of_size_eq_zero hs)
 ·rfl
 ·rfl
 ·cases h
theorem RU:∀{ks:amQ} {vs:ana},zk ks vs=true->vs=ks.map zeroV
 |[],[],_=>rfl
 |[],_::_,h=>by simp[zk]at h
 |_::_,[],h=>by simp[zk]at h
 |k::ks,v::vs,h=>by simp only[zk,aB]at h;rw[bu,<-RU h.2,<-ab7 h.1]
def isAny:Kd->Bool
 | .any=>true
 |_=>false
theorem ab8 {k:Kd}:isAny k=true↔k= .any:=by cases k<;>simp[isAny]
def Kt:Kd->Kd->Bool
 | .any,_=>true
 | .sl _, .sl _=>true
 |k,k'=>decide (k=k')
theorem ab9 {k k':Kd} (h:Kt k k'=true) (hk:k≠ .any):zeroV k=zeroV k':=by
 unfold Kt at h;split at h
 ·exact absurd rfl hk
 ·rfl
 ·rw[lW h]
def Ku (gs:amU) (j:Nat):Bool:=gs.any λg=>decide (g.1<=j)&&decide (j<g.1+g.2)
theorem Kv {gs:amU} {j:Nat}:Ku gs j=true↔∃s m,(s,m)∈gs/\s<=j/\j<s+m:=by simp only[Ku,ud,aB,eN];exact⟨λ⟨g,h1,h2,h3⟩=>⟨g.1,g.2,h1,h2,h3⟩,λ⟨s,m,h1,h2,h3⟩=>⟨(s,m),h1,h2,h3⟩⟩
def w7 (l:List (Nat×List Kd)) (p:Nat×List Kd):Bool:=
 decide (p.1<3000)&&!p.2.isEmpty&&!(dm l (base p.1)).isEmpty&&Nat.beq (dm l (base p.1)).length p.2.length&&Nat.ble p.2.length 4096&&
 (Nat.ble 1000 p.1||!p.2.any isAny)&&(p.2.zip (dm l (base p.1))).all (λq=>Kt q.1 q.2)&&
 (Nat.blt p.1 1000||(!p.2.any isAny&&!bY p.1)||
  (match dh (base p.1)with
  |some (n,gs)=>Nat.beq n p.2.length&&gs.all (λg=>decide (g.1+g.2<=n))&&(List.range n).all λj=>(match p.2[j]?with|some k=>isAny k==Ku gs j|none=>true)
  |none=>false))
def Cf (P:Program) (l:List (Nat×List Kd)) (p:Nat×List Kd):Bool:=
 w7 l p&&
 match P.info? (base p.1),P.underlying (base p.1)with
 |some i,some d=>
  i.size==p.2.length&&decide (0<i.bytes)&&decide (i.bytes<=1024)&&
  (match i.zero with
  |some z=>zk (dm l (base p.1)) z.cells.toList&&(if mT d then(match z with| .agg _=>true|_=>false)else p.2.length==1)
  |none=>false)&&
  (match d with| .struct fs=>fs.toList.all (λf=>!(dm l f.type).isEmpty&&Nat.blt f.type 1000)|_=>true)
 |_,_=>false
def uS:List Nat:=[30,53,77,93,1053,1077,1093,1004,1047]
theorem Kw {e:Nat} (h:e∉uS):di e=e:=by
 simp only[uS,az,bL,bM,not_or]at h;obtain⟨h1,h2,h3,h4,h5,h6,h7,h8,h9⟩:=h;unfold di;split
 ·omega
 ·omega
 ·omega
 ·omega
 ·rfl
 ·rename_i n1;cases hs:bY e with
  |false=>rfl
  |true=>
   simp only[bY,aB,eN]at hs;have:dh (base e)=none:=by
    have:base e=e-1000:=by rw[wh n1];omega
    rw[this];unfold dh;split<;>first|rfl|omega
   rw[this];rfl
theorem aca {P:Program} {l:List (Nat×List Kd)} (h:l.all (Cf P l)=true) (G:Nat->Nat->List C->Prop) (hw:uS.all (pC ⟨dm l,G⟩ 3)=true)
 (hd:dm l 1553=dm l 1053) (hG:∀s r,G 1053 s r->(s=9->pD r)->G 1553 s r) (h9:∃k,(dm l 53)[9]?=some (.int k)):cr P ⟨dm l,G⟩:=by
 have key:∀e,dm l e≠[]->Cf P l (e,dm l e)=true:=by
  intro e he;unfold dm at he⊢;split
  ·rename_i p hp;have hm:=uc hp;have pJ:=v8 hp;simp only[qN]at pJ;have:=aX.1 h p hm;rw[<-pJ];exact this
  ·rename_i hn;simp[hn]at he
 have star:∀e,dm l e≠[]->w7 l (e,dm l e)=true:=λe he=>by have:=key e he;simp only[Cf,aB]at this;exact this.1
 have whole:∀e,1000<=e->dm l e≠[]->(Kd.any∈dm l e\/bY e=true)->∃gs,dh (base e)=some ((dm l e).length,gs)/\(∀s m,(s,m)∈gs->s+m<=(dm l e).length)/\
  ∀j:Nat,(dm l e)[j]?=some .any↔∃s m,(s,m)∈gs/\s<=j/\j<s+m:=λe he al ha=>by
  have:=star e al;simp only[w7,aB,iT]at this;obtain⟨_,h1|h1⟩:=this
  ·rcases h1 with h1|h1
   ·have:=fy h1;omega
   ·simp only[gy]at h1;rcases ha with ha|ha
    ·have h3:=List.any_eq_false.1 h1.1 _ ha;exact absurd rfl h3
    ·rw[ha]at h1;cases h1.2
  ·split at h1
   ·rename_i n gs hl;simp only[aB,aX,eN]at h1;obtain⟨⟨h1,h2⟩,h3⟩:=h1;have h1:=bt h1;subst h1;refine⟨gs,hl,λs m hm=>h2 (s,m) hm,λj=>?_⟩;rw[<-Kv];rcases aT j (dm l e).length with hj|hj
    ·have h4:=h3 j (dP.2 hj);rw[aP hj]at h4⊢;simp only[qN]at h4;rw[<-h4,ae,ab8]
    ·rw[aW hj];refine⟨(λh=>by cases h),λhg=>?_⟩;obtain⟨s,m,g1,g2,g3⟩:=Kv.1 hg;have:=h2 (s,m) g1;simp only at this;omega
   ·cases h1
 have short:∀e,(dm l e).length<=4096:=λe=>by
  by_cases he:dm l e=[]
  ·rw[he];decide
  ·have:=star e he;simp only[w7,aB]at this;exact fy this.1.1.1.2
 refine⟨λe he=>?_,λe fs b0 he hu f hf=>?_,λe he=>?_,λe j off i hj ha=>?_,λe he ha=>?_,short,λe=>?_,hd,hG,h9,λe j k k' h1 h2 hk=>?_,whole⟩
 ·have:=key e he;unfold Cf at this;simp only[aB]at this;have:=this.2;split at this
  ·rename_i i d hi hd;simp only[aB,qN,eN]at this;obtain⟨⟨⟨⟨h1,h2⟩,h3⟩,h4⟩,_⟩:=this;split at h4
   ·rename_i z hz;simp only[aB]at h4;refine⟨i,z,d,hi,hd,h1,hz,RU h4.1,h2,h3,λhr=>?_,λhr=>?_⟩
    ·have:=h4.2;simp[hr]at this;exact this
    ·have:=h4.2;simp only[hr,cJ]at this;split at this
     ·exact⟨_,rfl⟩
     ·cases this
   ·cases h4
  ·cases this
 ·have:=key e he;unfold Cf at this;simp only[aB]at this;have:=this.2;split at this
  ·rename_i i d hi hd;rw[Jv b0]at hd;rw[hu]at hd;simp only[ae]at hd;subst hd;simp only[aB]at this;have:=aX.1 this.2 f hf;simp only[aB]at this;refine⟨λe'=>?_,fy this.2⟩;have h1:=this.1;rw[show dm l f.type=[]from e']at h1;cases h1
  ·cases this
 ·have:=star e he;simp only[w7,aB]at this;obtain⟨⟨⟨⟨⟨⟨⟨_,_⟩,h1⟩,h2⟩,_⟩,_⟩,_⟩,_⟩:=this;refine⟨λe'=>?_,bt h2⟩;rw[show dm l (base e)=[]from e']at h1;cases h1
 ·show mP (e*4096+off%(dm l e).length) (off+i*(dm l e).length+j)=false;have hj:j<(dm l e).length:=hj;have al:dm l e≠[]:=λe'=>by rw[e']at hj;cases hj
  have hm:off%(dm l e).length<(dm l e).length:=mI _ (by omega);have hs:=short e;have h1:(e*4096+off%(dm l e).length)/4096=e:=by omega
  have h2:(e*4096+off%(dm l e).length)%4096=off%(dm l e).length:=by omega
  unfold mP;rw[h1,h2];split
  ·rename_i aU;obtain⟨gs,g1,g2,g3⟩:=whole e (by simp[bY]at aU;omega) al (.inr aU);rw[g1];dsimp only;by_cases h0:off%(dm l e).length=0
   ·have acb:(off+i*(dm l e).length+j)%(dm l e).length=j:=by rw[show off+i*(dm l e).length+j=(off+j)+i*(dm l e).length by omega,Zv,Nat.add_mod,h0,eI,Nat.mod_mod,Bj hj]
    rw[acb];cases hq:gs.any λg=>decide (g.1<=j)&&decide (j<g.1+g.2)with
    |false=>simp
    |true=>obtain⟨s,m,q1,q2,q3⟩:=Kv.1 hq;exact absurd ((g3 j).2 ⟨s,m,q1,q2,q3⟩) ha
   ·simp[h0]
  ·rfl
 ·have:=star e (λe'=>by(have ha:Kd.any∈dm l e:=ha;rw[e']at ha;cases ha));simp only[w7,aB,iT]at this;rcases this.1.1.2 with h1|h1
  ·have:=fy h1;omega
  ·simp only[gy]at h1;have h3:=List.any_eq_false.1 h1 _ ha;exact absurd rfl h3
 ·by_cases he:e∈uS
  ·exact aX.1 hw e he
  ·unfold pC;have:=Kw he;simp[this]
 ·have h1:(dm l e)[j]?=some k:=h1;have al:dm l e≠[]:=λe'=>by rw[e']at h1;simp at h1
  have:=star e al;simp only[w7,aB]at this;have h3:=aX.1 this.1.2 (k,k') (aY (alF.2 ⟨h1,h2⟩));exact ab9 h3 hk
end Go.Pv
namespace Go.Proofs.YtmanimipgpdbcaaGreat
open Go Go.Pv
def uT:List (Nat×List Kd):=
 [(2,[.int .i64]),
  (3,[.int .i64]),
  (4,[.bool]),
  (5,[.int .u8]),
  (9,[.str]),
  (21,[.int .i32]),
  (22,[.sl 3]),
  (23,[.sl 93]),
  (24,[.sl 57]),
  (25,[.sl 63]),
  (26,[.sl 69]),
  (27,[.sl 74]),
  (28,[.sl 53]),
  (29,[.int .i64, .str, .int .i64, .sl 93, .sl 57, .sl 63, .sl 69, .sl 74, .sl 53]),
  (30,[.int .i64, .str, .int .i64, .sl 93, .sl 57, .sl 63, .sl 69, .sl 74, .sl 53]),
  (34,[.ptr]),
  (36,[.sl 9]),
  (37,[.sl 30]),
  (38,[.sl 9, .sl 30, .sl 30]),
  (39,[.sl 9, .sl 30, .sl 30]),
  (43,[.sl 47]),
  (44,[.sl 152]),
  (45,[.sl 49]),
  (46,[.str, .sl 47]),
  (47,[.str, .sl 47]),
  (48,[.int .i64, .str, .str, .int .i64, .sl 47, .sl 9, .sl 152, .sl 49, .str, .sl 47, .int .i64]),
  (49,[.int .i64, .str, .str, .int .i64, .sl 47, .sl 9, .sl 152, .sl 49, .str, .sl 47, .int .i64]),
  (50,[.sl 109]),
  (51,[.sl 77]),
  (52,[.int .i64, .bool, .bool, .str, .sl 109, .sl 77, .str, .sl 47, .bool, .int .i64, .str, .str, .int .i64, .sl 47, .sl 9, .sl 152, .sl 49, .str, .sl 47, .int .i64]),
  (53,[.int .i64, .bool, .bool, .str, .sl 109, .sl 77, .str, .sl 47, .bool, .int .i64, .str, .str, .int .i64, .sl 47, .sl 9, .sl 152, .sl 49, .str, .sl 47, .int .i64]),
  (55,[.sl 60]),
  (56,[.int .i64, .bool, .bool, .str, .sl 9, .sl 60]),
  (57,[.int .i64, .bool, .bool, .str, .sl 9, .sl 60]),
  (59,[.bool, .str, .str, .sl 47]),
  (60,[.bool, .str, .str, .sl 47]),
  (61,[.sl 66]),
  (62,[.int .i64, .bool, .bool, .str, .sl 9, .sl 66]),
  (63,[.int .i64, .bool, .bool, .str, .sl 9, .sl 66]),
  (65,[.bool, .str, .sl 47]),
  (66,[.bool, .str, .sl 47]),
  (67,[.sl 71]),
  (68,[.int .i64, .bool, .bool, .str, .sl 71]),
  (69,[.int .i64, .bool, .bool, .str, .sl 71]),
  (70,[.str, .sl 47, .str, .sl 47, .str]),
  (71,[.str, .sl 47, .str, .sl 47, .str]),
  (72,[.sl 113]),
  (73,[.str, .sl 109, .str, .sl 47, .sl 113]),
  (74,[.str, .sl 109, .str, .sl 47, .sl 113]),
  (76,[.str, .str, .sl 47, .bool, .int .i64, .str, .str, .int .i64, .sl 47, .sl 9, .sl 152, .sl 49, .str, .sl 47, .int .i64]),
  (77,[.str, .str, .sl 47, .bool, .int .i64, .str, .str, .int .i64, .sl 47, .sl 9, .sl 152, .sl 49, .str, .sl 47, .int .i64]),
  (78,[.sl 3, .int .i64]),
  (79,[.sl 3, .int .i64]),
  (92,[.str, .int .i64]),
  (93,[.str, .int .i64]),
  (108,[.str, .sl 9]),
  (109,[.str, .sl 9]),
  (112,[.str, .str]),
  (113,[.str, .str]),
  (127,[.int .i64]),
  (151,[.bool, .str, .sl 9]),
  (152,[.bool, .str, .sl 9]),
  (159,[.ptr]),
  (160,[.ptr, .sl 30, .sl 9, .int .i64, .str, .int .i64, .sl 93, .sl 57, .sl 63, .sl 69, .sl 74, .sl 53]),
  (161,[.ptr, .sl 30, .sl 9, .int .i64, .str, .int .i64, .sl 93, .sl 57, .sl 63, .sl 69, .sl 74, .sl 53]),
  (177,[.ptr]),
  (185,[.int .i64, .str, .int .i64, .sl 93, .sl 57, .sl 63, .sl 69, .sl 74, .sl 53, .sl 30, .sl 9, .bool, .int .i64, .int .i64, .int .i64]),
  (186,[.int .i64, .str, .int .i64, .sl 93, .sl 57, .sl 63, .sl 69, .sl 74, .sl 53, .sl 30, .sl 9, .bool, .int .i64, .int .i64, .int .i64]),
  (188,[.ptr]),
  (200,[.ptr]),
  (201,[.ptr, .sl 30, .str, .sl 9, .sl 109, .int .i64, .int .i64]),
  (202,[.ptr, .sl 30, .str, .sl 9, .sl 109, .int .i64, .int .i64]),
  (203,[.ptr]),
  (205,[.int .u64]),
  (206,[.sl 5]),
  (220,[.sl 223]),
  (222,[.str, .int .i64, .int .i64, .int .i64]),
  (223,[.str, .int .i64, .int .i64, .int .i64]),
  (227,[.sl 289]),
  (230,[.sl 289, .int .i64, .int .i64, .int .i64, .int .i64]),
  (231,[.sl 289, .int .i64, .int .i64, .int .i64, .int .i64]),
  (238,[.sl 4]),
  (240,[.ptr]),
  (255,[.ptr]),
  (275,[.int .i64, .str, .int .i64, .sl 93, .sl 57, .sl 63, .sl 69, .sl 74, .sl 53, .int .i64, .int .i64, .sl 223]),
  (276,[.int .i64, .str, .int .i64, .sl 93, .sl 57, .sl 63, .sl 69, .sl 74, .sl 53, .int .i64, .int .i64, .sl 223]),
  (285,[.sl 30, .str, .sl 109, .int .i64, .int .i64]),
  (286,[.sl 30, .str, .sl 109, .int .i64, .int .i64]),
  (288,[.int .i64, .str, .int .i64]),
  (289,[.int .i64, .str, .int .i64]),
  (307,[.sl 2]),
  (314,[.ptr]),
  (315,[.sl 318]),
  (317,[.str, .int .i64]),
  (318,[.str, .int .i64]),
  (320,[.ptr]),
  (323,[.ptr]),
  (335,[.int .i64, .int .i64, .int .i64, .sl 47]),
  (336,[.int .i64, .int .i64, .int .i64, .sl 47]),
  (351,[.int .i64, .int .i64, .bool, .bool, .bool, .bool, .bool]),
  (352,[.int .i64, .int .i64, .bool, .bool, .bool, .bool, .bool]),
  (1004,[.any]),
  (1047,[.any, .any]),
  (1053,[.any, .bool, .bool, .str, .sl 109, .sl 1077, .str, .sl 47, .bool, .any, .any, .any, .any, .any, .any, .any, .any, .any, .any, .any]),
  (1077,[.str, .str, .sl 47, .any, .any, .any, .any, .any, .any, .any, .any, .any, .any, .any, .any]),
  (1093,[.str, .any]),
  (1553,[.any, .bool, .bool, .str, .sl 109, .sl 1077, .str, .sl 47, .bool, .any, .any, .any, .any, .any, .any, .any, .any, .any, .any, .any]),
  (2004,[.any]),
  (2030,[.int .i64, .str, .int .i64, .sl 2093, .sl 57, .sl 63, .sl 69, .sl 74, .sl 2053]),
  (2047,[.any, .any]),
  (2053,[.any, .bool, .bool, .str, .sl 109, .sl 2077, .str, .sl 47, .bool, .any, .any, .any, .any, .any, .any, .any, .any, .any, .any, .any]),
  (2077,[.str, .str, .sl 47, .any, .any, .any, .any, .any, .any, .any, .any, .any, .any, .any, .any]),
  (2093,[.str, .any])]
def mf (G:Nat->Nat->List C->Prop):ay:=⟨dm uT,G⟩
theorem acd (G:Nat->Nat->List C->Prop) (hG:∀s r,G 1053 s r->(s=9->pD r)->G 1553 s r):cr Tryz.prog (mf G):=aca (by kernel_rfl) G (by kernel_rfl) (by kernel_rfl) hG ⟨.i64,by kernel_rfl⟩
end Go.Proofs.YtmanimipgpdbcaaGreat
namespace Go.Pv
open Go
def zl (P:Program) (T:ay) (f:FuncId) (fs:dw):Prop:=
 (∃fn,P.funcs[f]?=some fn/\(fn.name== "runtime.NumGoroutine")=false/\fn.body.isNone=false)/\
 ∀ss bs sp,fs.sp ss bs=some sp->iG P T f ss bs sp/\∀x,(sp.bx x).length=bs.length+fs.new.toNat/\∀l∈sp.bx x,l≠[]
def iJ (fn:Func):Code:=
 match fn.body with
 |some c=>c
 |none=> .skip
theorem RV {fn:Func} (h:fn.body.isNone=false):fn.body=some (iJ fn):=by
 unfold iJ;cases hb:fn.body with
 |none=>rw[hb]at h;cases h
 |some c=>rfl
end Go.Pv
namespace Go.Pv
open Go
variable (T:ay)
def eP:X->Prop
 | .c v=>bN T v
 | .own e _ _ rows=>bN T (.sl e rows)
 | .bz e rows i _=>bN T (.sl e rows)/\i<rows.length
 | .cn _ _ rows=>rows.length+1<=cM
 | .cq _ _ n=>n<=cM
 | .dn k=>0<=k/\k<=cM
 |_=>True
def RW:Bool×List X->Prop
 |(true,l)=>∀x∈l,eP T x
 |(false,[x])=>eP T x
 |_=>True
def dA:S->Prop
 | .one x=>eP T x
 | .agg l=>∀x∈l,eP T x
 | .bj l=>∀p∈l,RW T p
structure cA (st:St):Prop where
 aq:∀s∈st.aq,dA T s
 boxes:∀l,some l∈st.boxes->∀x∈l,eP T x
variable {T} {E:Env} {w:World} {V:Vw}
theorem RX.ok {x:X} {u:Value} (h:RX T E w V x u):eP T x:=by
 cases x with
 |c v=>exact aG.B8 h
 |own e g n rows=>exact aG.B8 h.1
 |bz e rows i off=>obtain⟨b,o,⟨cap,h1⟩,h2,rfl,_⟩:=h;exact⟨h1.B8,h2⟩
 |cn e b rows=>obtain⟨_,off,cap,_,_,h3,_⟩:=h;exact h3
 |cq e b n=>
  rcases h with⟨rfl,_⟩|⟨_,_,cap,_,_,h3,_⟩
  ·exact gk _
  ·exact h3
 |dn k=>exact h.2.1
 |_=>trivial
theorem bF.ok {l:amT} {us:ana} (h:bF T E w V l us):∀x∈l,eP T x:=by
 intro x hx;obtain⟨j,hj⟩:=jP hx;have aj:j<us.length:=by
  rw[h.1];rcases aT j l.length with h'|h'
  ·exact h'
  ·simp[aW h']at hj
 exact RX.ok (h.2 j x us[j] hj (aP aj))
theorem RP.ok {p:Bool×List X} {u:Value} (h:RP T E w V p u):RW T p:=by
 obtain⟨t,l⟩:=p;cases t with
 |true=>obtain⟨cs,rfl,h⟩:=h;exact bF.ok h
 |false=>
  cases l with
  |nil=>trivial
  |cons x r=>
   cases r with
   |nil=>exact RX.ok h
   |cons y r=>trivial
theorem RS.ok {s:S} {u:Value} (h:RS T E w V s u):dA T s:=by
 cases s with
 |one x=>
  cases x with
  |aD=>trivial
  |_=>exact RX.ok (RS.one (by simp) h)
 |agg l=>obtain⟨cs,rfl,h⟩:=h;exact bF.ok h
 |bj l=>
  obtain⟨vs,rfl,h1,h2⟩:=h;intro p hp;obtain⟨j,hj⟩:=jP hp;have aj:j<vs.size:=by
   rw[h1];rcases aT j l.length with h'|h'
   ·exact h'
   ·simp[aW h']at hj
  exact RP.ok (h2 j p vs[j] hj (im aj))
theorem aM.ok {cx:Cx} {st:St} {a:Act} (h:aM T cx E st a w):cA T st:=by
 refine⟨λs hs=>?_,λl hl x hx=>?_⟩
 ·obtain⟨i,hi⟩:=jP hs;have aj:i<a.tmps.size:=by
   rw[h.len];rcases aT i st.aq.length with h'|h'
   ·exact h'
   ·simp[aW h']at hi
  exact RS.ok (h.aq i s a.tmps[i] hi (im aj))
 ·obtain⟨i,hi⟩:=jP hl;obtain⟨_,_,cs,el,_,_,h4⟩:=h.boxes i l hi (by rintro rfl;cases hx);exact bF.ok h4 x hx
theorem Rel.ok {cx:Cx} {st:St} {a:Act} (h:Rel T cx st a w):cA T st:=by obtain⟨E,h⟩:=h;exact h.ok
end Go.Pv
namespace Go.Pv
open Go
variable {E:Env} {w:World}
theorem bl.wp_mono {r:bl} {A B:amX} (kT:∀st,A st->B st) (hr:r.wp A):r.wp B:=by
 cases r with
 |bad=>exact hr
 |v st=>exact kT _ hr
 |ck side st=>exact⟨hr.1,kT _ hr.2⟩
 |fk fact st=>exact λh=>kT _ (hr h)
 |split t s1 s2=>exact iu (λht=>kT _ (yS hr ht)) (λht=>kT _ (BR hr ht))
 |call side A' post st=>exact⟨hr.1,λx hx=>kT _ (hr.2 x hx)⟩
theorem zm {c:bX} {ops:amW} {o:Oper} {st:St} {A B:amX} (kT:∀st,A st->B st) (h:dk c ops o st A):dk c ops o st B:=by
 unfold dk at*;split
 ·rename_i hg;rw[hg]at h;exact bl.wp_mono kT h
 ·rename_i j want hg;rw[hg]at h;dsimp only at h⊢;split
  ·rename_i t b hv;rw[hv]at h;dsimp only at h⊢;cases want
   ·exact iu (λht=>kT _ (yS h ht)) (λht=>bl.wp_mono kT (BR h ht))
   ·exact iu (λht=>bl.wp_mono kT (yS h ht)) (λht=>kT _ (BR h ht))
  ·rename_i hv;rw[hv]at h;exact⟨h.1,kT _ h.2⟩
def bE (c:bX) (ops:amW):List Oper->St->(St->Prop)->Prop
 |[],st,K=>cA c.T st->K st
 |o::r,st,K=>cA c.T st->dk c ops o st λar=>bE c ops r ar K
theorem RY {c:bX} (hc:dT c) {ops:ang} {cx:Cx} {Q:Exit->Act->World->Prop} {K:amX}:∀(n k:Nat),k+n=ops.size->∀{st:St} {a:Act} {w:World},Rel c.T cx st a w->
 bE c ops.toList (ops.toList.drop k) st K->(∀a w,iF c.T cx K a w->Q .normal a w)->wpOps c.P ops Q ((List.range n).map (k+ ·)) a w
 |0,k,hk,st,a,w,h,hq,hQ=>by
  have:ops.toList.drop k=[]:=by apply alG;simp;omega
  rw[this]at hq;simpa[wpOps]using hQ a w ⟨st,hq h.ok,h⟩
 |n+1,k,hk,st,a,w,h,hq,hQ=>by
  have aj:k<ops.toList.length:=by simp;omega
  rw[alH aj]at hq;have hi:ops[k]?=some ops.toList[k]:=by rw[im (by simpa using aj)];simp
  have:=RL hc hi (Q:=Q) h (hq h.ok);rw[alI,bu,da,wpOps_cons];refine wpOp_mono (λa' w' hg=>?_) this;obtain⟨ar,bV,bR⟩:=hg;have:=RY hc n (k+1) (by omega) bR bV hQ;have he:(List.range n).map (k+1+ ·)=(List.range n).map ((k+ ·)∘Nat.succ):=by apply cK;intro x _;simp;omega
  rwa[he]at this
theorem ace {c:bX} (hc:dT c) {id:Nat} {ops:ang} {cx:Cx} {Q:Exit->Act->World->Prop} {K:amX} {st:St} {a:Act} (h:Rel c.T cx st a w)
 (hk:bE c ops.toList ops.toList st K) (hq:∀a w,iF c.T cx K a w->Q .normal a w):(Code.region id ops false).wp c.P Q a w:=by
 refine wp_region ?_;have:=RY hc (ops:=ops) (Q:=Q) ops.size 0 (by omega) h (by simpa using hk) hq;simpa using this
def mh (c:bX) (ops:ang) (K:amX):Nat->Array Bool->St->Prop
 |0,bK,st=>Region.ready .any ops bK=[]/\(cA c.T st->K st)
 |fuel+1,bK,st=>cA c.T st->(Region.ready .any ops bK=[]->K st)/\
  ∀i∈Region.ready .any ops bK,∀o,ops[i]?=some o->dk c ops.toList o st (mh c ops K fuel (bK.setIfInBounds i true))
theorem RZ {c:bX} (hc:dT c) {ops:ang} {cx:Cx} {Q:Exit->Act->World->Prop} {K:amX} (hq:∀a w,iF c.T cx K a w->Q .normal a w):
 ∀(fuel:Nat) (bK:ant) {st:St} {a:Act} {w:World},Rel c.T cx st a w->mh c ops K fuel bK st->wpAny c.P .any ops Q fuel bK a w
 |0,bK,st,a,w,h,hk=>⟨hk.1,hq a w ⟨st,hk.2 h.ok,h⟩⟩
 |fuel+1,bK,st,a,w,h,hk=>by obtain⟨h1,h2⟩:=hk h.ok;refine⟨λhr=>hq a w ⟨st,h1 hr,h⟩,λi hi=>?_⟩;obtain⟨_,o,ho,_⟩:=mem_ready.1 hi;refine wpOp_mono (λa' w' hg=>?_) (RL hc ho (Q:=Q) h (h2 i hi o ho));obtain⟨ar,bV,bR⟩:=hg;exact RZ hc hq fuel _ bR bV
theorem Rel.drew {T:ay} {cx:Cx} {st:St} {a:Act} (h:Rel T cx st a w):Rel T cx st a {w with drawn:=w.drawn+1}:=by
 obtain⟨E,h⟩:=h;have hm:dQ E.φ w E.φ {w with drawn:=w.drawn+1}:=⟨λ_ _=>bh _,bh _,λ_ cs _ _ hb=>⟨cs,hb,rfl,λ_ _ _=> .inl rfl⟩⟩
 have hk:gC E w st.vw E {w with drawn:=w.drawn+1} st.vw:=⟨hm,λb hb=>⟨hb,rfl,rfl,λ_=>⟨rfl,rfl⟩⟩,λ_=>bh _,λb g _ hg _=>⟨hg,rfl⟩,rfl⟩
 refine⟨E,h.len,λi s u hs hu=>RS.bo hk (h.aq i s u hs hu),λid l hl hn=>?_,h.inj,h.defers,?_,h.fix,h.oI,h.hi.step hm λ_ _ _ hp=>⟨hp,rfl,rfl,rfl⟩,h.so⟩
 ·obtain⟨h1,h2,cs,el,h3,h5,h4⟩:=h.boxes id l hl hn;exact⟨h1,h2,cs,el,h3,h5,bF.bo hk h4⟩
 ·exact⟨h.ext.os,h.ext.tape,h.ext.output,h.ext.fo,h.ext.mono.trans hm,h.ext.dB,h.ext.fresh⟩
theorem acf {c:bX} (hc:dT c) (hm:c.P.follows .mixedOrders=true) {id:Nat} {ops:ang} {cx:Cx} {Q:Exit->Act->World->Prop} {K:amX} {st:St} {a:Act} (h:Rel c.T cx st a w)
 (hk:mh c ops K ops.size (Array.replicate ops.size false) st) (hq:∀a w,iF c.T cx K a w->Q .normal a w):(Code.region id ops true).wp c.P Q a w:=
 wp_region_any hm (RZ hc hq ops.size _ h.drew hk)
structure R0 (c:bX) (ops:ang) (D:amX) (oi:Oper):Prop where
 some:∀st G,D st->cA c.T st->dk c ops.toList oi st G->∃s,G s
def Kx (c:bX) (ops:ang) (D:amX) (oi oj:Oper):Prop:=
 ∀st G,D st->cA c.T st->dk c ops.toList oi st (λs=>cA c.T s->dk c ops.toList oj s G)->
  dk c ops.toList oj st (λs=>cA c.T s->D s/\dk c ops.toList oi s G)
theorem Ky {c:bX} {ops:ang} {K:amX} {i:Nat} {oi:Oper} (hi:ops[i]?=some oi) {fuel:Nat} {bK:ant} {st:St} (hr:Region.ready .any ops bK=[i])
 (h:cA c.T st->dk c ops.toList oi st (mh c ops K fuel (bK.setIfInBounds i true))):mh c ops K (fuel+1) bK st:=by
 intro aN;refine⟨λh0=>(by rw[h0]at hr;cases hr),λj hj oj dK=>?_⟩;rw[hr]at hj;simp at hj;subst hj;rw[hi]at dK;cases dK;exact h aN
end Go.Pv
namespace Go.Pv
open Go
def tmpsOf:Operand->List Nat
 | .tmp t=>[t]
 |_=>[]
def aV:Op->List Nat
 | .move x| .assign x| .unOp _ _ x| .convert _ _ x| .nilCheck x| .fieldAddr _ x _| .extract x _| .load _ x| .box _ x=>tmpsOf x
 | .binOp _ _ x y _| .indexAddr _ x y| .index _ x y| .store _ x y| .makeSlice _ x y=>tmpsOf x++tmpsOf y
 | .slice _ x lo hi mx=>tmpsOf x++(lo.toList.flatMap tmpsOf++(hi.toList.flatMap tmpsOf++mx.toList.flatMap tmpsOf))
 | .build _ parts=>parts.toList.flatMap λp=>tmpsOf p.2
 | .buildSlice _ _ parts=>parts.toList.flatMap λp=>tmpsOf p.2
 | .pick c a b=>tmpsOf c++(tmpsOf a++tmpsOf b)
 | .call c=>(match c.callee with| .value x=>tmpsOf x|_=>[])++c.args.toList.flatMap tmpsOf
 |_=>[]
structure bf where
 d:Option Nat
 s:S
 box:Option (Nat×List X)
def bf.app (u:bf) (st:St):St:=
 match u.box with
 |some (b,l)=>(st.bC b l).put u.d u.s
 |none=>st.put u.d u.s
theorem R1 {v:Value} {x:X} (h:lZ v= .one x):x.ids=[]:=by unfold lZ at h;split at h<;>(try split at h)<;>(simp only[S.one.injEq]at h;subst h;rfl)
theorem w8 {v:Value} {y:X} (hy:y∈(ofConst v).xs):y.ids=[]:=by
 unfold ofConst at hy;split at hy
 ·rename_i cs;split at hy
  ·obtain⟨u,hu,rfl⟩:=aF.1 hy;obtain⟨x,hx⟩:=wu u;rw[hx];exact R1 hx
  ·simp[S.xs]at hy;subst hy;rfl
 ·obtain⟨x,hx⟩:=wu v;rw[hx]at hy;simp[S.xs]at hy;subst hy;exact R1 hx
theorem R2 (v:Value):(ofConst v).bp=none:=by
 unfold ofConst;split
 ·split<;>rfl
 ·unfold lZ;split<;>(try split)<;>rfl
theorem zn {st:St} {d:amR} {s:S} {t:Nat} (h:d≠some t):(st.put d s).get t=st.get t:=by
 cases d with
 |none=>rfl
 |some d=>have:d≠t:=λe=>h (by rw[e]);simp only[St.get,St.put,aZ];rw[mM this]
theorem bf.get {u:bf} {st:St} {t:Nat} (h:u.d≠some t):(u.app st).get t=st.get t:=by
 unfold bf.app;split
 ·rw[zn h];rfl
 ·exact zn h
theorem bf.gen (u:bf) (st:St):(u.app st).gen=st.gen:=by unfold bf.app;split<;>(cases u.d<;>rfl)
theorem bf.len (u:bf) (st:St):(u.app st).aq.length=st.aq.length:=by unfold bf.app;split<;>(cases u.d<;>simp[St.put,St.bC])
theorem bf.boxes (u:bf) (st:St):(u.app st).boxes=match u.box with|some (b,l)=>st.boxes.set b (some l)|none=>st.boxes:=by
 unfold bf.app;split
 ·rename_i b l hb;cases u.d<;>rfl
 ·rename_i hb;cases u.d<;>rfl
theorem bf.sQ {u:bf} {st:St} {b:Nat} (h:∀b' l,u.box=some (b',l)->b'≠b):(u.app st).boxes[b]?=st.boxes[b]?:=by
 rw[u.boxes];split
 ·rename_i b' l hb;rw[mM (h b' l hb)]
 ·rfl
theorem acg {u:bf} {st:St} {x:Operand} (h:∀t∈tmpsOf x,u.d≠some t):ev (u.app st) x=ev st x:=by
 cases x with
 |tmp t=>exact bf.get (h t (by simp[tmpsOf]))
 |_=>rfl
theorem put_comm (st:St) {d d':amR} (s s':S) (h:d=none\/d'=none\/d≠d'):(st.put d s).put d' s'=(st.put d' s').put d s:=by
 cases d with
 |none=>rfl
 |some d=>
  cases d' with
  |none=>rfl
  |some d'=>
   have al:d≠d':=by
    rcases h with h|h|h
    ·cases h
    ·cases h
    ·exact λe=>h (by rw[e])
   simp only[St.put];rw[P6 _ _ al]
theorem bf.put (u:bf) (st:St) {d:amR} (s:S) (h:u.d=none\/d=none\/u.d≠d):(u.app st).put d s=u.app (st.put d s):=by
 unfold bf.app;split
 ·rename_i b l hb;rw[put_comm _ _ _ h];congr 1;cases d<;>rfl
 ·rw[put_comm _ _ _ h]
theorem bf.dz (u:bf) (st:St) (g:Nat):(u.app st).dz g=u.app (st.dz g):=by
 have hg:=u.gen st;unfold bf.app at*;split
 ·rename_i b l hb;cases u.d<;>rfl
 ·cases u.d<;>rfl
theorem bf.bC {u:bf} (st:St) {b:Nat} (l:amT) (h:∀b' l',u.box=some (b',l')->b'≠b):(u.app st).bC b l=u.app (st.bC b l):=by
 unfold bf.app;split
 ·rename_i b' l' hb;have al:=h b' l' hb;have:(st.bC b' l').bC b l=(st.bC b l).bC b' l':=by simp only[St.bC];rw[P6 _ _ al]
  cases u.d with
  |none=>exact this
  |some d=>show((st.bC b' l').bC b l).put (some d) u.s=_;rw[this]
 ·cases u.d<;>rfl
def bl.map (f:St->St):bl->bl
 | .bad=> .bad
 | .v st=> .v (f st)
 | .ck p st=> .ck p (f st)
 | .fk p st=> .fk p (f st)
 | .split t a b=> .split t (f a) (f b)
 | .call p A post st=> .call p A post λx=>f (st x)
theorem bl.wp_map {r:bl} {f:St->St} {K:amX}:(r.map f).wp K↔r.wp λst=>K (f st):=by cases r<;>exact ez
theorem Kz {r:R} {f:St->St} {g g':S->St} (h:∀s,g' s=f (g s)):r.iW g'=(r.iW g).map f:=by cases r<;>simp[R.iW,bl.map,h]
structure bf.jH (u:bf) (st:St) (o:Oper):Prop where
 reads:∀t∈aV o.op,u.d≠some t
 dst:u.d=none\/o.dst=none\/u.d≠o.dst
 fresh:∀b l,u.box=some (b,l)->o.dst≠some b/\∀t∈aV o.op,∀y∈(st.get t).xs,b∉y.ids/\∀id∈y.ids,∀l',st.boxes[id]?=some (some l')->∀z∈l',b∉z.ids
theorem bf.jH.ev {u:bf} {st:St} {o:Oper} (h:u.jH st o) {x:Operand} (hx:∀t∈tmpsOf x,t∈aV o.op):ev (u.app st) x=Pv.ev st x:=acg λt ht=>h.reads t (hx t ht)
theorem bf.jH.bp {u:bf} {st:St} {o:Oper} (h:u.jH st o) {x:Operand} (hx:∀t∈tmpsOf x,t∈aV o.op) {b off:Nat} (hb:(Pv.ev st x).bp=some (b,off)):∀b' l,u.box=some (b',l)->b'≠b:=by
 rintro b' l hu rfl;cases x with
 |tmp t=>
  have h1:=(h.fresh b' l hu).2 t (hx t (by simp[tmpsOf]));have h2:(st.get t).bp=some (b',off):=hb;unfold S.bp at h2;split at h2
  ·rename_i b o he;simp only[ae,bT]at h2;obtain⟨rfl,rfl⟩:=h2;rw[he]at h1;exact(h1 (.ptr b o) (by simp[S.xs])).1 (by simp[X.ids])
  ·rename_i b o he;simp only[ae,bT]at h2;obtain⟨rfl,rfl⟩:=h2;rw[he]at h1;exact(h1 (.cd b o) (by simp[S.xs])).1 (by simp[X.ids])
  ·cases h2
 |const v=>have h2:(ofConst v).bp=some (b',off):=hb;rw[R2]at h2;cases h2
 |global g=>simp[Pv.ev,S.bp]at hb
 |func f=>simp[Pv.ev,S.bp]at hb
theorem R3 {P:Program} {T:ay} {u:bf} {st:St} {o:Oper} (h:u.jH st o) {t:Nat} {x:Operand} (hx:∀t∈tmpsOf x,t∈aV o.op):dU P T (u.app st) t (Pv.ev st x)=dU P T st t (Pv.ev st x):=by
 unfold dU;cases hb:(Pv.ev st x).bp with
 |none=>
  cases kq P t with
  |none=>rfl
  |some q=>
   cases q<;>
    (generalize Pv.ev st x=s
     cases s with
     |one y=>cases y<;>rfl
     |_=>rfl)
 |some p=>
  obtain⟨b,off⟩:=p;cases kq P t with
  |none=>rfl
  |some q=>cases q<;>(dsimp only;rw[bf.sQ (h.bp hx hb)])
theorem ach {P:Program} {T:ay} {u:bf} {st:St} {o:Oper} (h:u.jH st o):fW P T (u.app st) o.op=fW P T st o.op:=by
 have e:=λ(x:Operand) (hx:∀t∈tmpsOf x,t∈aV o.op)=>h.ev hx;have eo:∀(x:Option Operand),(∀t∈x.toList.flatMap tmpsOf,t∈aV o.op)->x.map (Pv.ev (u.app st))=x.map (Pv.ev st):=by
  intro x hx;cases x with
  |none=>rfl
  |some x=>simp only[cj];rw[e x (λt ht=>hx t (by simpa using ht))]
 cases ho:o.op<;>simp only[ho,aV]at e eo<;>simp only[fW]<;>try rfl
 case move x=>rw[e x (λt ht=>ht)]
 case assign x=>rw[e x (λt ht=>ht)]
 case binOp op t x y z=>rw[e x (λt ht=>by simp[ht]),e y (λt ht=>by simp[ht])]
 case unOp op t x=>rw[e x (λt ht=>ht)]
 case convert s d x=>rw[e x (λt ht=>ht)]
 case nilCheck x=>rw[e x (λt ht=>ht)]
 case fieldAddr s x f=>rw[e x (λt ht=>ht)]
 case indexAddr t x i=>rw[e x (λt ht=>by simp[ht]),e i (λt ht=>by simp[ht])]
 case index t x i=>rw[e x (λt ht=>by simp[ht]),e i (λt ht=>by simp[ht])]
 case slice t x lo hi mx=>
  rw[e x (λt ht=>by simp[ht]),eo lo (λt ht=>bB.2 (.inr (bB.2 (.inl ht)))),eo hi (λt ht=>bB.2 (.inr (bB.2 (.inr (bB.2 (.inl ht)))))),
   eo mx (λt ht=>bB.2 (.inr (bB.2 (.inr (bB.2 (.inr ht))))))]
 case extract x j=>rw[e x (λt ht=>ht)]
 case load t x=>
  rw[e x (λt ht=>ht)];exact R3 h (λt ht=>by simp only[ho,aV];exact ht)
 case build t parts=>
  congr 1;refine cK λp hp=>?_;rw[e p.2 (λt ht=>ba.2 ⟨p,hp,ht⟩)]
 case call c=>
  unfold uy;cases hc:c.callee<;>try rfl
  rename_i b;have ea:∀x∈c.args.toList,Pv.ev (u.app st) x=Pv.ev st x:=λx hx=>e x (λt ht=>bB.2 (.inr (ba.2 ⟨x,hx,ht⟩)));cases b<;>try rfl
  case len=>
   dsimp only;cases hl:c.args.toList with
   |nil=>rfl
   |cons x r=>
    cases r with
    |nil=>
     cases c.argTypes.toList with
     |nil=>rfl
     |cons t q=>
      cases q with
      |nil=>simp only[ea x (by rw[hl];simp)]
      |cons t' q=>rfl
    |cons y r=>rfl
  case max=>
   dsimp only;cases hl:c.args.toList with
   |nil=>rfl
   |cons x r=>
    cases r with
    |nil=>rfl
    |cons y r=>
     cases r with
     |nil=>simp only[ea x (by rw[hl];simp),ea y (by rw[hl];simp)]
     |cons z r=>rfl
  case min=>
   dsimp only;cases hl:c.args.toList with
   |nil=>rfl
   |cons x r=>
    cases r with
    |nil=>rfl
    |cons y r=>
     cases r with
     |nil=>simp only[ea x (by rw[hl];simp),ea y (by rw[hl];simp)]
     |cons z r=>rfl
end Go.Pv
namespace Go.Pv
open Go
variable {P:Program} {T:ay} {ann:amU} {u:bf} {st:St} {o:Oper}
theorem bf.jH.w9 (h:u.jH st o) {d:Nat} (hd:o.dst=some d):∀b l,u.box=some (b,l)->b≠d:=by rintro b l hb rfl;exact(h.fresh b l hb).1 hd
theorem R4 (h:u.jH st o) (l:amT):nL (u.app st) o.dst l=(nL st o.dst l).map u.app:=by
 unfold nL;cases hd:o.dst with
 |none=>rfl
 |some d=>
  dsimp only;rw[bf.sQ (h.w9 hd),u.len st];cases st.boxes[d]?with
  |none=>rfl
  |some q=>
   cases q with
   |some l=>rfl
   |none=>
    dsimp only;split
    ·simp only[bl.map];rw[bf.bC st l (h.w9 hd),bf.put u _ _ (by rw[<-hd];exact h.dst)]
    ·rfl
theorem aci (h:u.jH st o) {t:Nat} {x y:Operand} (ho:o.op= .store t x y):j5 T (u.app st) o.dst t (ev (u.app st) x) (ev (u.app st) y)=(j5 T st o.dst t (ev st x) (ev st y)).map u.app:=by
 have hx:∀t∈tmpsOf x,t∈aV o.op:=λt ht=>by rw[ho];simp[aV,ht]
 have hy:∀t∈tmpsOf y,t∈aV o.op:=λt ht=>by rw[ho];simp[aV,ht]
 rw[h.ev hx,h.ev hy];unfold j5;cases o.dst with
 |some d=>rfl
 |none=>
  cases hb:(ev st x).bp with
  |none=>rfl
  |some p=>
   obtain⟨b,off⟩:=p;cases hc:(ev st y).cells with
   |none=>rfl
   |some l'=>
    dsimp only;rw[bf.sQ (h.bp hx hb)];cases st.boxes[b]?with
    |none=>rfl
    |some q=>
     cases q with
     |none=>rfl
     |some l=>
      dsimp only;split
      ·simp only[bl.map];rw[bf.bC st _ (h.bp hx hb)]
      ·rfl
theorem acj (h:u.jH st o) {parts:Array (Nat×Operand)} (hp:∀p∈parts.toList,∀t∈tmpsOf p.2,t∈aV o.op):(parts.toList.map λp=>(p.1,ev (u.app st) p.2))=parts.toList.map λp=>(p.1,ev st p.2):=
 cK λp hm=>by rw[h.ev (hp p hm)]
theorem ack (h:u.jH st o) (t len:Nat) (parts:anl):qY P T ann (u.app st) o.dst t len parts=(qY P T ann st o.dst t len parts).map u.app:=by have hp:=λs=>bf.put u st (d:=o.dst) s h.dst;have hg:=u.gen st;unfold qY;rw[hg];exact Kz λs=>hp s
theorem R5 (h:u.jH st o):kv (u.app st) o.dst=kv st o.dst:=by
 unfold kv;cases hd:o.dst with
 |none=>rfl
 |some d=>dsimp only;rw[bf.sQ (h.w9 hd),u.len st]
theorem KA {dd:Nat} (h:kv st o.dst=some dd):o.dst=some dd:=by
 unfold kv at h;split at h
 ·rename_i d hd;split at h
  ·split at h
   ·simp only[ae]at h;subst h;exact hd
   ·cases h
  ·cases h
 ·cases h
theorem acm (h:u.jH st o) (t:Nat) (l c:S):pP P T ann (u.app st) o.dst t l c=(pP P T ann st o.dst t l c).map u.app:=by
 have hp:=λ(st:St) s=>bf.put u st (d:=o.dst) s h.dst;have hg:=u.gen st;unfold pP;split
 ·split
  ·rw[R5 h];split
   ·rename_i dd _ hf;split
    ·simp only[bl.map];rw[bf.bC st _ (h.w9 (KA hf)),hp]
    ·rfl
   ·simp only[bl.map,hg,hp]
   ·rfl
  ·rfl
 ·rfl
theorem acn (h:u.jH st o) (t:Nat) (s x:S):qZ P T ann (u.app st) o.dst t s x=(qZ P T ann st o.dst t s x).map u.app:=by
 have hp:=λ(st:St) s=>bf.put u st (d:=o.dst) s h.dst;have hg:=u.gen st;unfold qZ;split
 ·rw[R5 h,hg];split
  ·split
   ·split
    ·simp only[bl.map,bf.dz,hp]
    ·rfl
   ·rfl
  ·rename_i dd e g rows _ hf _;split
   ·split
    ·simp only[bl.map,bf.dz];rw[bf.bC _ _ (h.w9 (KA hf)),hp]
    ·rfl
   ·rfl
  ·rename_i dd _ _ hf;split
   ·split
    ·simp only[bl.map];rw[bf.bC _ _ (h.w9 (KA hf)),hp]
    ·rfl
   ·rfl
  ·rfl
 ·rfl
theorem Fy (h:u.jH st o):j6 P T ann (u.app st) o=(j6 P T ann st o).map u.app:=by
 have hp:=λ(st:St) s=>bf.put u st (d:=o.dst) s h.dst;have hv:(fW P T (u.app st) o.op).iW ((u.app st).put o.dst)=((fW P T st o.op).iW (st.put o.dst)).map u.app:=by rw[ach h];exact Kz λs=>hp st s
 unfold j6;split
 ·rename_i c x y ho;have e:=λ(z:Operand) (hz:∀t∈tmpsOf z,t∈aV o.op)=>h.ev hz;rw[ho]at e;rw[e c (λt ht=>by simp[aV,ht]),e x (λt ht=>by simp[aV,ht]),e y (λt ht=>by simp[aV,ht])];split
  ·simp only[bl.map,hp]
  ·rfl
 ·rename_i e x ho;rw[h.ev (x:=x) (λt ht=>by rw[ho];exact ht)];split
  ·exact R4 h _
  ·rfl
 ·split
  ·rfl
  ·exact R4 h _
 ·rename_i t x y ho;exact aci h ho
 ·rename_i t len parts ho;rw[acj h (λp hm t ht=>by rw[ho];exact ba.2 ⟨p,hm,ht⟩)];exact ack h t len _
 ·rename_i t x y ho;rw[h.ev (x:=x) (λt ht=>by rw[ho];simp[aV,ht]),h.ev (x:=y) (λt ht=>by rw[ho];simp[aV,ht])];exact acm h t _ _
 ·rename_i c ho;split
  ·rename_i hc;split
   ·rename_i s x t t' hs ht;split
    ·rw[h.ev (x:=s) (λt ht=>by rw[ho];exact bB.2 (.inr (ba.2 ⟨s,by rw[hs];simp,ht⟩))),h.ev (x:=x) (λt ht=>by rw[ho];exact bB.2 (.inr (ba.2 ⟨x,by rw[hs];simp,ht⟩)))];exact acn h t _ _
    ·rfl
   ·rfl
  ·exact hv
 ·exact hv
end Go.Pv
namespace Go.Pv
open Go
variable {u:bf} {st:St} {o:Oper}
def bf.sl (u:bf) (l:amZ):List S:=
 match u.d with
 |some d=>l.set d u.s
 |none=>l
def bf.bx (u:bf) (bs:anj):List (Option (List X)):=
 match u.box with
 |some (b,l)=>bs.set b (some l)
 |none=>bs
theorem bf.R6 (u:bf) (st:St):u.app st=⟨u.sl st.aq,u.bx st.boxes,st.gen⟩:=by
 cases hb:u.box with
 |none=>cases hd:u.d<;>simp[bf.app,bf.sl,bf.bx,hb,hd,St.put]
 |some p=>obtain⟨b,l⟩:=p;cases hd:u.d<;>simp[bf.app,bf.sl,bf.bx,hb,hd,St.put,St.bC]
def bf.out (u:bf) (ids:amG):Prop:=∀b l,u.box=some (b,l)->b∉ids
theorem Fz:∀{ids:amG},u.out ids->kR (u.app st) ids=kR st ids
 |[],_=>rfl
 |b::r,h=>by have h1:∀b' l,u.box=some (b',l)->b'≠b:=λb' l hb e=>h b' l hb (by rw[e];simp);have h2:u.out r:=λb' l hb hm=>h b' l hb (by simp[hm]);simp only[kR,bf.sQ h1,Fz h2]
theorem R7 {b:Nat} {x:Option (List X)}:∀{ids:amG} {ls:anb} {bs:anj},b∉ids->eU (bs.set b x) ids ls=(eU bs ids ls).set b x
 |[],_,_,_=>by simp[eU]
 |_::_,[],_,_=>by simp[eU]
 |c::r,l::ls,bs,h=>by have h1:b≠c:=λe=>h (by simp[e]);simp only[eU];rw[P6 _ _ h1,R7 (λhm=>h (by simp[hm]))]
theorem R8 {ids:amG} {ls:anb} {bs:anj} (h:u.out ids):eU (u.bx bs) ids ls=u.bx (eU bs ids ls):=by
 unfold bf.bx;split
 ·rename_i b l hb;exact R7 (h b l hb)
 ·rfl
theorem aco {bm:anq} {ids:amG} (h:u.out ids):(u.app st).iY bm ids=u.app (st.iY bm ids):=by
 unfold St.iY;rw[Fz h,u.gen];cases kR st ids with
 |none=>rfl
 |some ls=>simp only[bf.R6];rw[R8 h]
theorem acp {st:St} {d:amR} (h:∀d',d=some d'->∀b l,u.box=some (b,l)->b≠d'):uK (u.app st) d=uK st d:=by
 unfold uK;cases d with
 |none=>rfl
 |some d=>dsimp only;rw[bf.sQ (h d rfl),u.len st]
theorem acq {st:St} {d:amR} {new:Bool} {brw:amG} {sp:List S->List (List X)->Option Sp} {Ξ:amZ} {ids:amG} (h:u.out ids) (hd:u.d=none\/d=none\/u.d≠d)
 (hf:∀d',d=some d'->∀b l,u.box=some (b,l)->b≠d'):nP (u.app st) d new brw sp Ξ ids=(nP st d new brw sp Ξ ids).map u.app:=by
 unfold nP;rw[Fz h,u.gen,acp hf];split
 ·rfl
 ·rename_i ls eO;dsimp only;split
  ·split
   ·rfl
   ·rename_i al6 ct;simp only[bl.map];congr 1;funext x;rw[<-bf.put u _ _ hd];congr 1;simp only[bf.R6];rw[R8];intro b l hb hm;split at hm
    ·rcases bB.1 hm with h'|h'
     ·exact h b l hb h'
     ·cases d with
      |none=>simp at h'
      |some d=>simp at h';exact hf d rfl b l hb h'
    ·exact h b l hb hm
  ·rfl
theorem zo {b:Nat}:∀{r ids:amG},b∈l9 ids r->b∈ids\/b∈r
 |[],ids,h=> .inl h
 |c::r,ids,h=>by
  simp only[l9]at h;split at h
  ·rcases zo h with h|h
   ·exact .inl h
   ·exact .inr (by simp[h])
  ·rcases zo h with h|h
   ·rcases bB.1 h with h|h
    ·exact .inl h
    ·simp at h;exact .inr (by simp[h])
   ·exact .inr (by simp[h])
theorem FA {x:X} {b:Nat} (h:b∈x.cU):b∈x.ids:=by cases x<;>simp[X.cU,X.ids]at h⊢<;>exact h
theorem R9 {gen:amP} {m:CM} {x:X} {b:Nat} (h:b∈(x.norm gen m).cU):b∈x.cU:=by cases m<;>cases x<;>first|exact h|simp[X.norm,X.cU]at h
theorem Sa {gen:amP} {b:Nat}:∀{ms:List CM} {l:amT},(∃y∈jk gen ms l,b∈y.cU)->∃y∈l,b∈y.cU
 |[],l,h=>by cases l<;>exact h
 |m::ms,[],h=>h
 |m::ms,x::xs,h=>by
  obtain⟨y,hy,hb⟩:=h;simp only[jk,az]at hy;rcases hy with rfl|hy
  ·exact⟨x,by simp,R9 hb⟩
  ·obtain⟨z,hz,aR⟩:=Sa ⟨y,hy,hb⟩;exact⟨z,by simp[hz],aR⟩
theorem acr {gen:amP} {b:Nat} {ms:List CM} {s:S} (h:∃y∈(s.norm gen ms).xs,b∈y.cU):∃y∈s.xs,b∈y.cU:=by
 cases s with
 |one x=>
  cases ms with
  |nil=>exact h
  |cons m ms=>obtain⟨y,hy,hb⟩:=h;simp only[S.norm,S.xs,a8]at hy;subst hy;exact⟨x,by simp[S.xs],R9 hb⟩
 |agg l=>exact Sa h
 |bj l=>exact h
theorem KB {gen:amP} {b:Nat}:∀{ms:anq} {ss:amZ},b∈((gQ gen ms ss).flatMap S.xs).flatMap X.cU->b∈(ss.flatMap S.xs).flatMap X.cU
 |[],ss,h=>by cases ss<;>exact h
 |m::ms,[],h=>h
 |m::ms,s::ss,h=>by
  simp only[gQ,mN,Jo,bB]at h⊢;rcases h with h|h
  ·left;obtain⟨y,hy,hb⟩:=ba.1 h;obtain⟨z,hz,aR⟩:=acr ⟨y,hy,hb⟩;exact ba.2 ⟨z,hz,aR⟩
  ·right;exact KB h
theorem acs {specs:FuncId->Option dw} {st:St} {d:amR} {f:FuncId} {Ξ:amZ} (hd:u.d=none\/d=none\/u.d≠d)
 (hf:∀d',d=some d'->∀b l,u.box=some (b,l)->b≠d')
 (lC:∀b l,u.box=some (b,l)->∀s∈Ξ,∀y∈s.xs,b∉y.ids/\∀id∈y.ids,∀l',st.boxes[id]?=some (some l')->∀z∈l',b∉z.ids):
 iH specs (u.app st) d f Ξ=(iH specs st d f Ξ).map u.app:=by
 unfold iH;split
 ·rfl
 ·rename_i fs dM;dsimp only;rw[u.gen];generalize hA:gQ st.gen fs.am Ξ=A;have h0:∀b∈l9 [] ((A.flatMap S.xs).flatMap X.cU),∃s∈Ξ,∃y∈s.xs,b∈y.ids:=by
   intro b hb;rcases zo hb with h|h
   ·cases h
   ·rw[<-hA]at h;have:=KB h;obtain⟨y,hy,hb⟩:=ba.1 this;obtain⟨s,hs,hy⟩:=ba.1 hy;exact⟨s,hs,y,hy,FA hb⟩
  have o0:u.out (l9 [] ((A.flatMap S.xs).flatMap X.cU)):=by intro b l hb hm;obtain⟨s,hs,y,hy,hi⟩:=h0 b hm;exact(lC b l hb s hs y hy).1 hi
  have he:j9 (u.app st) A=j9 st A:=by unfold j9;dsimp only;rw[Fz o0]
  have o1:u.out (j9 st A):=by
   intro b l hb hm;unfold j9 at hm;dsimp only at hm;split at hm
   ·rename_i ls eO;rcases zo hm with h|h
    ·exact o0 b l hb h
    ·obtain⟨z,hz,uU⟩:=ba.1 h;obtain⟨l0,dc,hz⟩:=ba.1 hz;obtain⟨i,hi⟩:=jP dc;obtain⟨id,h1,h2⟩:=(uL eO).2 i l0 hi;obtain⟨s,hs,y,hy,xa⟩:=h0 id (aY h1);exact(lC b l hb s hs y hy).2 id xa l0 h2 z hz (FA uU)
   ·exact o0 b l hb hm
  have hk:pT (u.app st) fs.bm fs.brw (j9 st A) A=pT st fs.bm fs.brw (j9 st A) A:=by
   unfold pT;split
   ·rename_i b r _ _ _ hr;rw[bf.sQ (b:=b) (λb' l hb=>by
     rintro rfl;exact o1 _ l hb (by rw[hr];simp)),u.gen]
   ·rfl
  rw[he,hk];split
  ·rw[aco o1,acq o1 hd hf]
  ·rfl
theorem acu (h:u.jH st o) {cl:Call} (ho:o.op= .call cl):p8 (u.app st) cl.callee=p8 st cl.callee:=by
 unfold p8;cases hc:cl.callee with
 |value x=>dsimp only;rw[h.ev (λt ht=>by rw[ho];simp only[aV,hc];exact bB.2 (.inl ht))]
 |_=>rfl
theorem Sb {c:bX} (h:u.jH st o) (gq:hY c.ann o=none):cy c (u.app st) o=(cy c st o).map u.app:=by
 unfold cy;split
 ·rename_i cl ho;rw[acu h ho];split
  ·rename_i f hf;have ha:cl.args.toList.map (ev (u.app st))=cl.args.toList.map (ev st):=cK λx hx=>
    h.ev (λt ht=>by rw[ho];exact bB.2 (.inr (ba.2 ⟨x,hx,ht⟩)))
   rw[ha];refine acs h.dst (λd' hd=>h.w9 hd) (λb l hb s hs y hy=>?_);obtain⟨x,hx,rfl⟩:=aF.1 hs;cases x with
   |tmp t=>exact(h.fresh b l hb).2 t (by rw[ho];exact bB.2 (.inr (ba.2 ⟨.tmp t,hx,by simp[tmpsOf]⟩))) y hy
   |const v=>
    have:y.ids=[]:=by have hy:y∈(ofConst v).xs:=hy;exact w8 hy
    rw[this];exact⟨by simp,by simp⟩
   |global g=>simp[ev,S.xs]at hy;subst hy;exact⟨by simp[X.ids],by simp[X.ids]⟩
   |func f=>simp[ev,S.xs]at hy;subst hy;exact⟨by simp[X.ids],by simp[X.ids]⟩
  ·exact Fy h
 ·rename_i op t x y z ho;have hx:Pv.ev (u.app st) x=Pv.ev st x:=h.ev (λt ht=>by rw[ho];exact bB.2 (.inl ht));rw[hx];split
  ·simp only[bl.map,pz];congr 1;funext b;exact bf.put u st (d:=o.dst) _ h.dst
  ·exact Fy h
 ·rename_i t x ho;have hx:Pv.ev (u.app st) x=Pv.ev st x:=h.ev (λt ht=>by rw[ho];exact ht);rw[hx,gq];split
  ·unfold uP;split
   ·split
    ·split
     ·simp only[bl.map,pz];congr 1;funext b;exact bf.put u st (d:=o.dst) _ h.dst
     ·split
      ·split
       ·rename_i hq;cases hq
       ·simp only[bl.map,pz];congr 1;funext b;exact bf.put u st (d:=o.dst) _ h.dst
      ·rfl
     ·rfl
    ·rfl
   ·rfl
  ·rw[R3 h (λt ht=>by rw[ho];exact ht)];exact Kz λs=>bf.put u st (d:=o.dst) s h.dst
 ·rename_i t x y ho;have hx:Pv.ev (u.app st) x=Pv.ev st x:=h.ev (λt ht=>by rw[ho];simp[aV,ht]);have hy:Pv.ev (u.app st) y=Pv.ev st y:=h.ev (λt ht=>by rw[ho];simp[aV,ht]);rw[hx,hy,gq];split
  ·unfold jn;split
   ·split
    ·split
     ·split
      ·rfl
      ·rfl
      ·rename_i hq;cases hq
     ·rfl
    ·rfl
   ·rfl
  ·exact Fy h
 ·exact Fy h
end Go.Pv
namespace Go.Pv
open Go
variable {P:Program} {T:ay} {st:St} {o:Oper}
def eW (st:St) (rs:amG) (b:Nat):Prop:=
 ∃t∈rs,∃y∈(st.get t).xs,b∈y.ids\/∃id∈y.ids,∃l,st.boxes[id]?=some (some l)/\∃z∈l,b∈z.ids
def S.In (s:S) (Q:Nat->Prop):Prop:=∀y∈s.xs,∀b∈y.ids,Q b
theorem sS {rs:amG} {x:Operand} (h:∀t∈tmpsOf x,t∈rs):(ev st x).In (eW st rs):=by
 cases x with
 |tmp t=>intro y hy b hb;exact⟨t,h t (by simp[tmpsOf]),y,hy, .inl hb⟩
 |const v=>
  have:∀y∈(ofConst v).xs,y.ids=[]:=by intro y hy;exact w8 hy
  intro y hy b hb;rw[this y hy]at hb;cases hb
 |global g=>intro y hy b hb;simp[ev,S.xs]at hy;subst hy;cases hb
 |func f=>intro y hy b hb;simp[ev,S.xs]at hy;subst hy;cases hb
theorem S.In.c {Q:Nat->Prop} (v:C):(S.one (.c v)).In Q:=by intro y hy b hb;simp[S.xs]at hy;subst hy;cases hb
theorem S.In.own {Q:Nat->Prop} (e g n:Nat) (r:Y9):(S.one (.own e g n r)).In Q:=by intro y hy b hb;simp[S.xs]at hy;subst hy;cases hb
theorem S.In.bz {Q:Nat->Prop} (e:Nat) (r:Y9) (i j:Nat):(S.one (.bz e r i j)).In Q:=by intro y hy b hb;simp[S.xs]at hy;subst hy;cases hb
def R.cN (r:R) (Q:S->Prop):Prop:=
 match r with
 | .bad=>True
 | .v s=>Q s
 | .ck _ s=>Q s
 | .fk _ s=>Q s
theorem Sc {x:X} {Q:S->Prop} (h:Q (.one x)):(R.oL x).cN Q:=by unfold R.oL;split<;>first|trivial|exact h
theorem zp {s:S} {b off:Nat} (h:s.bp=some (b,off)):∃y∈s.xs,b∈y.ids:=by
 unfold S.bp at h;split at h
 ·simp only[ae,bT]at h;obtain⟨rfl,rfl⟩:=h;exact⟨_,by simp[S.xs];rfl,by simp[X.ids]⟩
 ·simp only[ae,bT]at h;obtain⟨rfl,rfl⟩:=h;exact⟨_,by simp[S.xs];rfl,by simp[X.ids]⟩
 ·cases h
theorem KD {rows:Y9} {i:Nat}:∀{ks:amQ} {j:Nat} {y:X},y∈fC rows i j ks->y.ids=[]
 |[],_,_,h=>by cases h
 |k::ks,j,y,h=>by
  simp only[fC,az]at h;rcases h with rfl|h
  ·rfl
  ·exact KD h
def m8 (st:St) (rs:amG) (b:Nat):Prop:=∃t∈rs,∃y∈(st.get t).xs,b∈y.ids
def uV (st:St) (rs:amG) (b:Nat):Prop:=∃t∈rs,∃y∈(st.get t).xs,∃id∈y.ids,∃l,st.boxes[id]?=some (some l)/\∃z∈l,b∈z.ids
theorem uV.kU {rs:amG} {b:Nat} (h:uV st rs b):eW st rs b:=by obtain⟨t,h1,y,h2,h3⟩:=h;exact⟨t,h1,y,h2, .inr h3⟩
theorem Cg {rs:amG} {x:Operand} (h:∀t∈tmpsOf x,t∈rs):(ev st x).In (m8 st rs):=by
 cases x with
 |tmp t=>intro y hy b hb;exact⟨t,h t (by simp[tmpsOf]),y,hy,hb⟩
 |const v=>intro y hy b hb;rw[w8 (v:=v) hy]at hb;cases hb
 |global g=>intro y hy b hb;simp[ev,S.xs]at hy;subst hy;cases hb
 |func f=>intro y hy b hb;simp[ev,S.xs]at hy;subst hy;cases hb
theorem KE {rs:amG} {t:Nat} {x:Operand} (h:∀t∈tmpsOf x,t∈rs):(dU P T st t (ev st x)).cN (λs=>s.In (uV st rs)):=by
 have uW:∀b off l,(ev st x).bp=some (b,off)->st.boxes[b]?=some (some l)->∀z∈l,∀id∈z.ids,uV st rs id:=by
  intro b off l hb hl z hz id aE;cases x with
  |tmp t=>obtain⟨y,hy,rn⟩:=zp hb;exact⟨t,h t (by simp[tmpsOf]),y,hy,b,rn,l,hl,z,hz,aE⟩
  |const v=>obtain⟨y,hy,rn⟩:=zp hb;rw[w8 (v:=v) hy]at rn;cases rn
  |global g=>simp[ev,S.bp]at hb
  |func f=>simp[ev,S.bp]at hb
 unfold dU;split
 ·rename_i b off _ hb;split
  ·rename_i l hl;split
   ·rename_i hc;intro y hy id aE;exact uW b off l hb hl y (mK (nE hy)) id aE
   ·trivial
  ·trivial
 ·rename_i b off _ hb;split
  ·rename_i l hl;split
   ·rename_i x' cW;split
    ·rename_i hc;refine Sc λy hy id aE=>?_;simp[S.xs]at hy;subst hy;exact uW b off l hb hl _ (aY cW) id aE
    ·trivial
   ·trivial
  ·trivial
 ·split
  ·intro y hy id aE;rw[KD hy]at aE;cases aE
  ·trivial
 ·split
  ·split
   ·exact Sc (S.In.c _)
   ·trivial
  ·trivial
 ·trivial
theorem R.cN.mono {r:R} {A B:S->Prop} (h:r.cN A) (kT:∀s,A s->B s):r.cN B:=by cases r<;>first|trivial|exact kT _ h
theorem acv {rs:amG} {t:Nat} {x:Operand} (h:∀t∈tmpsOf x,t∈rs):(dU P T st t (ev st x)).cN (λs=>s.In (eW st rs)):=
 (KE h).mono λ_ hs y hy b hb=>(hs y hy b hb).kU
theorem xb:∀{r l:amT} {o:Nat} {y:X},y∈gD l o r->y∈l\/y∈r
 |[],l,o,y,h=> .inl h
 |x::r,l,o,y,h=>by
  rcases xb (r:=r) h with h|h
  ·rcases oF h with h|h
   ·exact .inl h
   ·exact .inr (by simp[h])
  ·exact .inr (by simp[h])
theorem Ch {s:S} {l:amT} (h:s.cells=some l):l=s.xs:=by
 unfold S.cells at h;split at h
 ·cases h
 ·simp only[ae]at h;exact h.symm
 ·simp only[ae]at h;exact h.symm
 ·cases h
theorem KF (k:Kd):(mS k).ids=[]:=by cases k<;>rfl
theorem Sd {Q:Nat->Prop} {t:Nat}:∀{parts:anl} {acc l:amT},(∀p∈parts,p.2.In Q)->(∀y∈acc,∀b∈y.ids,Q b)->nH P T t parts acc=some l->∀y∈l,∀b∈y.ids,Q b
 |[],acc,l,_,ha,h=>by simp[nH]at h;subst h;exact ha
 |(f,s)::rest,acc,l,hp,ha,h=>by
  simp only[nH]at h;split at h
  ·rename_i o ft lx _ hc;split at h
   ·refine Sd (λp hm=>hp p (by simp[hm])) (λy hy b hb=>?_) h;rcases xb hy with hy|hy
    ·exact ha y hy b hb
    ·rw[Ch hc]at hy;exact hp (f,s) (by simp) y hy b hb
   ·cases h
  ·cases h
theorem Se {op:Op} {Q:Nat->Prop} (e:∀(x:Operand),(∀t∈tmpsOf x,t∈aV op)->(ev st x).In Q) (hl:∀t x,op= .load t x->(dU P T st t (ev st x)).cN (λs=>s.In Q)):(fW P T st op).cN (λs=>s.In Q):=by
 unfold fW;split
 ·exact e _ (λt ht=>ht)
 ·exact e _ (λt ht=>ht)
 ·unfold pF;split
  ·split
   ·split
    ·exact S.In.c _
    ·unfold yM;split<;>first|trivial|exact S.In.c _
   ·trivial
  ·unfold yN;split<;>first|trivial|exact S.In.c _
  ·split
   ·split<;>first|trivial|exact S.In.c _
   ·trivial
  ·split
   ·split
    ·split<;>first|trivial|exact S.In.c _
    ·trivial
   ·trivial
  ·trivial
 ·unfold wj;split<;>first|trivial|exact S.In.c _
 ·unfold sv;split
  ·split<;>first|trivial|exact S.In.c _
  ·split
   ·split
    ·split<;>first|trivial|exact S.In.c _
    ·trivial
   ·trivial
 ·rename_i x;have hx:=e x (λt ht=>ht);unfold wm;generalize ev st x=s at hx;split<;>first|trivial|exact hx
 ·rename_i s x f;have hx:=e x (λt ht=>ht);unfold uu;split
  ·generalize ev st x=s at hx;split
   ·intro y hy b hb;simp[S.xs]at hy;subst hy;exact hx _ (a8.2 rfl) b hb
   ·intro y hy b hb;simp[S.xs]at hy;subst hy;exact hx _ (a8.2 rfl) b hb
   ·exact S.In.bz _ _ _ _
   ·trivial
  ·trivial
 ·rename_i t x i;have hx:=e x (λt ht=>by simp[aV,ht]);unfold nG;generalize ev st x=s at hx;split
  ·split
   ·exact S.In.bz _ _ _ _
   ·trivial
  ·split
   ·intro y hy b hb;simp[S.xs]at hy;subst hy;exact hx _ (a8.2 rfl) b hb
   ·trivial
  ·split
   ·intro y hy b hb;simp[S.xs]at hy;subst hy;exact hx _ (a8.2 rfl) b hb
   ·trivial
  ·trivial
 ·unfold sw;split<;>first|trivial|exact S.In.c _
 ·unfold qT;split
  ·split<;>first|trivial|exact S.In.c _
  ·split
   ·split
    ·split<;>first|trivial|exact S.In.c _
    ·trivial
   ·trivial
  ·trivial
 ·rename_i x j;have hx:=e x (λt ht=>ht);unfold sA;generalize ev st x=s at hx;split
  ·rename_i l;split
   ·rename_i l' hj;intro y hy b hb;exact hx y (ba.2 ⟨_,aY hj,hy⟩) b hb
   ·rename_i y' hj;intro y hy b hb;simp[S.xs]at hy;subst hy;exact hx y (ba.2 ⟨_,aY hj,by simp⟩) b hb
   ·trivial
  ·trivial
 ·exact hl _ _ rfl
 ·rename_i t parts;unfold ux;split
  ·trivial
  ·split
   ·rename_i fs l _ hb;refine Sd (λp hm=>?_) (λy hy b hb=>?_) hb
    ·obtain⟨q,hq,rfl⟩:=aF.1 hm;exact e q.2 (λt ht=>ba.2 ⟨q,hq,ht⟩)
    ·obtain⟨k,_,rfl⟩:=aF.1 hy;rw[KF]at hb;cases hb
   ·trivial
 ·unfold uy;split
  ·split
   ·unfold um;split
    ·exact S.In.c _
    ·exact S.In.c _
    ·split<;>first|trivial|exact S.In.c _
    ·trivial
   ·trivial
  ·split
   ·unfold uo;split
    ·split<;>first|trivial|exact S.In.c _
    ·trivial
   ·trivial
  ·split
   ·unfold uq;split
    ·split<;>first|trivial|exact S.In.c _
    ·trivial
   ·trivial
  ·trivial
 ·trivial
theorem Sf {op:Op}:(fW P T st op).cN (λs=>s.In (eW st (aV op))):=
 Se (λ_ hx=>sS hx) λt x h=>by subst h;exact acv λt ht=>ht
def Ci (T:ay) (st:St) (op:Op) (b:Nat):Prop:=match op with| .load _ _=>uV st (aV op) b| .indexAddr _ x _=>m8 st (tmpsOf x) b|_=>m8 st (aV op) b
theorem acw {op:Op}:(fW P T st op).cN (λs=>s.In (Ci T st op)):=by
 cases op
 case load t x=>exact KE (P:=P) (T:=T) (st:=st) (rs:=aV (.load t x)) (λt ht=>ht)
 case indexAddr t x i=>
  have hx:=Cg (st:=st) (x:=x) (rs:=tmpsOf x) (λt ht=>ht);show(nG P T t (ev st x) (ev st i)).cN (λs=>s.In (m8 st (tmpsOf x)));unfold nG;generalize ev st x=s at hx;split
  ·split
   ·exact S.In.bz _ _ _ _
   ·trivial
  ·split
   ·intro y hy b hb;simp[S.xs]at hy;subst hy;exact hx _ (a8.2 rfl) b hb
   ·trivial
  ·split
   ·intro y hy b hb;simp[S.xs]at hy;subst hy;exact hx _ (a8.2 rfl) b hb
   ·trivial
  ·trivial
 all_goals exact Se (Q:=m8 st _) (λ_ hx=>Cg hx) λt x h=>by cases h
end Go.Pv
namespace Go.Pv
open Go
variable {P:Program} {T:ay} {ann:amU} {st:St} {o:Oper}
def Has (st:St) (b:Nat):Prop:=∃l,st.boxes[b]?=some (some l)
structure eE (st:St) (d:amR) (rs:amG) (ar:St):Prop where
 aq:∀t,d≠some t->ar.get t=st.get t
 len:ar.aq.length=st.aq.length
 res:∀t,d=some t->∀y∈(ar.get t).xs,∀b∈y.ids,eW st rs b\/(b=t/\Has ar b)
 boxes:∀b,¬eW st rs b->d≠some b->ar.boxes[b]?=st.boxes[b]?
 cont:∀(b:Nat) (l':amT),ar.boxes[b]?=some (some l')->ar.boxes[b]?=st.boxes[b]?\/∀z∈l',∀id∈z.ids,eW st rs id\/(d=some id/\Has ar id)
 acx:∀b,Has st b->Has ar b
def bl.cN (r:bl) (Q:amX):Prop:=
 match r with
 | .bad=>True
 | .v st=>Q st
 | .ck _ st=>Q st
 | .fk _ st=>Q st
 | .split t a b=>(t=true->Q a)/\(t=false->Q b)
 | .call _ _ post st=>∀x,post x->Q (st x)
theorem bl.uX {r:bl} {Q Q':amX} (h:∀st,Q st->Q' st) (hr:r.cN Q):r.cN Q':=by
 cases r with
 |bad=>trivial
 |v st=>exact h _ hr
 |ck p st=>exact h _ hr
 |fk p st=>exact h _ hr
 |split t a b=>exact⟨λe=>h _ (hr.1 e),λe=>h _ (hr.2 e)⟩
 |call p A post st=>exact λx hx=>h _ (hr x hx)
theorem bl.KG (r:bl):r.cN λ_=>True:=by
 cases r with
 |split t a b=>exact⟨λ_=>trivial,λ_=>trivial⟩
 |call p A post st=>exact λ_ _=>trivial
 |_=>trivial
theorem bl.KH {r:bl} {Q Q':amX} (h:r.cN Q) (h':r.cN Q'):r.cN λst=>Q st/\Q' st:=by
 cases r with
 |bad=>trivial
 |v st=>exact⟨h,h'⟩
 |ck p st=>exact⟨h,h'⟩
 |fk p st=>exact⟨h,h'⟩
 |split t a b=>exact⟨λe=>⟨h.1 e,h'.1 e⟩,λe=>⟨h.2 e,h'.2 e⟩⟩
 |call p A post st=>exact λx hx=>⟨h x hx,h' x hx⟩
theorem bl.uY {r:bl} {Q K:amX} (h:r.cN Q) (hk:r.wp K):r.wp λst=>K st/\Q st:=by
 cases r with
 |bad=>exact hk
 |v st=>exact⟨hk,h⟩
 |ck p st=>exact⟨hk.1,hk.2,h⟩
 |fk p st=>exact λhp=>⟨hk hp,h⟩
 |split t a b=>exact iu (λht=>⟨yS hk ht,h.1 ht⟩) (λht=>⟨BR hk ht,h.2 ht⟩)
 |call p A post st=>exact⟨hk.1,λx hx=>⟨hk.2 x hx,h x hx⟩⟩
theorem sT {st:St} {d:Nat} {s:S} {y:X} (h:y∈((st.put (some d) s).get d).xs):y∈s.xs\/y= .aD:=by
 simp only[St.get,St.put,aZ]at h;rw[kh]at h;simp only[cJ]at h;split at h
 ·exact .inl h
 ·simp[S.xs]at h;exact .inr h
theorem eE.put {st:St} {d:amR} {rs:amG} {s:S} (h:s.In (eW st rs)):eE st d rs (st.put d s):=by
 have hb:(st.put d s).boxes=st.boxes:=by cases d<;>rfl
 refine⟨λt ht=>zn ht,by cases d<;>simp[St.put],λt ht y hy b aR=>?_,λb _ _=>by rw[hb],λb l' _=> .inl (by rw[hb]),λb h'=>by unfold Has;rw[hb];exact h'⟩;subst ht;rcases sT hy with hy|rfl
 ·exact .inl (h y hy b aR)
 ·cases aR
theorem eE.FB {st st1:St} {d:Nat} {rs:amG} {s:S} {l:amT} (h1:st1.aq=st.aq) (h2:st1.boxes=st.boxes.set d (some l)) (hd:st.boxes[d]?=some none)
 (hs:s.In λb=>eW st rs b\/b=d) (hl:∀y∈l,∀b∈y.ids,eW st rs b):eE st (some d) rs (st1.put (some d) s):=by
 have aj:d<st.boxes.length:=by
  rcases aT d st.boxes.length with h'|h'
  ·exact h'
  ·simp[aW h']at hd
 have Sg:Has (st1.put (some d) s) d:=⟨l,by show st1.boxes[d]?=_;rw[h2];simp[aj]⟩
 refine⟨λt ht=>?_,by simp[St.put,h1],λt ht y hy b hb=>?_,λb _ al=>?_,λb l' hb=>?_,λb hb=>?_⟩
 ·rw[zn ht];simp only[St.get,h1]
 ·simp only[ae]at ht;subst ht;rcases sT hy with hy|rfl
  ·rcases hs y hy b hb with h|rfl
   ·exact .inl h
   ·exact .inr ⟨rfl,Sg⟩
  ·cases hb
 ·show st1.boxes[b]?=_;rw[h2,mM (λe=>al (by rw[e]))]
 ·by_cases e:d=b
  ·subst e;right;have aR:st1.boxes[d]?=some (some l'):=hb;rw[h2]at aR;simp[aj]at aR;subst aR;exact λz hz id aE=> .inl (hl z hz id aE)
  ·left;show st1.boxes[b]?=_;rw[h2,mM e]
 ·by_cases e:d=b
  ·subst e;exact Sg
  ·obtain⟨l0,h0⟩:=hb;exact⟨l0,by show st1.boxes[b]?=_;rw[h2,mM e];exact h0⟩
theorem Sh {r:R} {rs:amG} {d:amR} (h:r.cN λs=>s.In (eW st rs)):(r.iW (st.put d)).cN (eE st d rs):=by
 cases r with
 |bad=>trivial
 |v s=>exact eE.put h
 |ck p s=>exact eE.put h
 |fk p s=>exact eE.put h
theorem Si {rs:amG} {d:amR} {l:amT} (hl:∀y∈l,∀b∈y.ids,eW st rs b):(nL st d l).cN (eE st d rs):=by
 unfold nL;split
 ·rename_i d;split
  ·rename_i hb;split
   ·refine eE.FB (l:=l) rfl rfl hb (λy hy b hb=>?_) hl;simp[S.xs]at hy;subst hy;simp[X.ids]at hb;exact .inr hb
   ·trivial
  ·trivial
 ·trivial
theorem Sj {t:Nat} {a:S} {l:amT} {y:X} (h:y∈l8 T t a l):y∈l\/y.ids=[]:=by
 unfold l8 at h;split at h
 ·split at h
  ·obtain⟨c,_,rfl⟩:=aF.1 h;exact .inr rfl
  ·exact .inl h
 ·exact .inl h
theorem acy {t:Nat} {x y:Operand} {rs:amG} {d:amR} (hx:∀t∈tmpsOf x,t∈rs) (hy:∀t∈tmpsOf y,t∈rs):(j5 T st d t (ev st x) (ev st y)).cN (eE st d rs):=by
 unfold j5;split
 ·rename_i b off l' hb hc;split
  ·rename_i l hl;split
   ·obtain⟨z,hz,uU⟩:=zp hb;have acz:eW st rs b:=sS hx z hz b uU;have aj:b<st.boxes.length:=by
     rcases aT b st.boxes.length with h'|h'
     ·exact h'
     ·simp[aW h']at hl
    refine⟨λt _=>rfl,rfl,λt ht=>(by cases ht),λb' aR _=>?_,λb' l2 aR=>?_,λb' aR=>?_⟩
    ·show(st.boxes.set b _)[b']?=_;rw[mM (λe=>aR (by rw[<-e];exact acz))]
    ·by_cases e:b=b'
     ·subst e;right;have dS:(st.boxes.set b (some (gD l off (l8 T t (ev st x) l'))))[b]?=some (some l2):=aR;simp[aj]at dS;subst dS;intro w hw id aE;left;rcases xb hw with h1|h1
      ·cases x with
       |tmp t=>exact⟨t,hx t (by simp[tmpsOf]),z,hz, .inr ⟨b,uU,l,hl,w,h1,aE⟩⟩
       |const v=>
        have:z.ids=[]:=by have hz:z∈(ofConst v).xs:=hz;exact w8 hz
        rw[this]at uU;cases uU
       |global g=>simp[ev,S.bp]at hb
       |func f=>simp[ev,S.bp]at hb
      ·rcases Sj h1 with h2|h2
       ·rw[Ch hc]at h2;exact sS hy w h2 id aE
       ·rw[h2]at aE;cases aE
     ·left;show(st.boxes.set b _)[b']?=_;rw[mM e]
    ·by_cases e:b=b'
     ·subst e;exact⟨gD l off (l8 T t (ev st x) l'),by show(st.boxes.set b _)[b]?=_;simp[aj]⟩
     ·obtain⟨l0,h0⟩:=aR;exact⟨l0,by show(st.boxes.set b _)[b']?=_;rw[mM e];exact h0⟩
   ·trivial
  ·trivial
 ·trivial
theorem Sk {gen:amP} {t len:Nat} {parts:anl} {d:amR} {Q:Nat->Prop}:(oS P T ann gen d t len parts).cN (λs=>s.In Q):=by
 unfold oS;split
 ·split
  ·split
   ·split
    ·split
     ·simp only[R.cN];split
      ·exact S.In.c _
      ·exact S.In.own _ _ _ _
     ·split
      ·simp only[R.cN];split
       ·exact S.In.c _
       ·exact S.In.own _ _ _ _
      ·trivial
    ·trivial
   ·trivial
  ·split
   ·exact S.In.own _ _ _ _
   ·trivial
 ·trivial
theorem acA {t len:Nat} {parts:anl} {rs:amG} {d:amR}:(qY P T ann st d t len parts).cN (eE st d rs):=Sh Sk
theorem FC {d:amR} {dd:Nat} (h:kv st d=some dd):d=some dd/\st.boxes[dd]?=some none:=by
 unfold kv at h;split at h
 ·rename_i d;split at h
  ·rename_i hb;split at h
   ·simp only[ae]at h;subst h;exact⟨rfl,hb⟩
   ·cases h
  ·cases h
 ·cases h
theorem FD {n:Nat} {rows:Y9} {y:X} (h:y∈dC n rows):y.ids=[]:=by simp only[dC,aF]at h;obtain⟨m,_,rfl⟩:=h;rfl
theorem acB {t:Nat} {l c:S} {rs:amG} {d:amR}:(pP P T ann st d t l c).cN (eE st d rs):=by
 unfold pP;split
 ·split
  ·split
   ·rename_i dd _ hf;obtain⟨rfl,hb⟩:=FC hf;split
    ·refine eE.FB (l:=dC (T _).length (fQ (T _) _)) rfl rfl hb (λy hy b hb=>?_) (λy hy b hb=>?_)
     ·simp[S.xs]at hy;subst hy;simp[X.ids]at hb;exact .inr hb
     ·rw[FD hy]at hb;cases hb
    ·trivial
   ·exact eE.put (S.In.own _ _ _ _)
   ·trivial
  ·trivial
 ·trivial
theorem acC {t:Nat} {s x:S} {rs:amG} {d:amR}:(qZ P T ann st d t s x).cN (eE st d rs):=by
 have acD:∀{g:Nat} {s:S},eE st d rs (st.put d s)->eE st d rs ((st.dz g).put d s):=by
  intro g s h;have h1:((st.dz g).put d s).boxes=(st.put d s).boxes:=by cases d<;>rfl
  have h2:((st.dz g).put d s).aq=(st.put d s).aq:=by cases d<;>rfl
  have h3:∀t,((st.dz g).put d s).get t=(st.put d s).get t:=λt=>by simp only[St.get,h2]
  exact⟨λt ht=>by rw[h3];exact h.aq t ht,by rw[h2];exact h.len,λt ht y hy b hb=>by rw[h3]at hy;exact(h.res t ht y hy b hb).imp_right λ⟨q,l,hl⟩=>⟨q,l,by rw[h1];exact hl⟩,
   λb hb hd=>by rw[h1];exact h.boxes b hb hd,λb l' hb=>by rw[h1]at hb⊢;exact(h.cont b l' hb).imp_right λg z hz id aE=>(g z hz id aE).imp_right λ⟨q,l,hl⟩=>⟨q,l,by rw[h1];exact hl⟩,
   λb hb=>by obtain⟨l,hl⟩:=h.acx b hb;exact⟨l,by rw[h1];exact hl⟩⟩
 unfold qZ;split
 ·split
  ·split
   ·split
    ·exact acD (eE.put (S.In.own _ _ _ _))
    ·trivial
   ·trivial
  ·rename_i dd e g rows _ hf _;obtain⟨rfl,hb⟩:=FC hf;split
   ·rename_i bq _;split
    ·refine eE.FB (l:=fC bq 0 0 (T _)) rfl rfl hb (λy hy b hb=>?_) (λy hy b hb=>?_)
     ·simp[S.xs]at hy;subst hy;simp[X.ids]at hb;exact .inr hb
     ·rw[KD hy]at hb;cases hb
    ·trivial
   ·trivial
  ·rename_i dd _ _ hf;obtain⟨rfl,hb⟩:=FC hf;split
   ·rename_i bq _;split
    ·refine eE.FB (l:=dC (T _).length bq) rfl rfl hb (λy hy b hb=>?_) (λy hy b hb=>?_)
     ·simp[S.xs]at hy;subst hy;simp[X.ids]at hb;exact .inr hb
     ·rw[FD hy]at hb;cases hb
    ·trivial
   ·trivial
  ·trivial
 ·trivial
theorem Cj:(j6 P T ann st o).cN (eE st o.dst (aV o.op)):=by
 have hv:((fW P T st o.op).iW (st.put o.dst)).cN (eE st o.dst (aV o.op)):=Sh Sf;unfold j6;split
 ·rename_i c x y ho;split
  ·refine⟨λ_=>eE.put (sS λt ht=>?_),λ_=>eE.put (sS λt ht=>?_)⟩<;>rw[ho]<;>simp[aV,ht]
  ·trivial
 ·rename_i e x ho;split
  ·rename_i l hl;refine Si λy hy b hb=>?_;rw[Ch hl]at hy;exact sS (λt ht=>by rw[ho];exact ht) y hy b hb
  ·trivial
 ·split
  ·trivial
  ·refine Si λy hy b hb=>?_;obtain⟨k,_,rfl⟩:=aF.1 hy;rw[KF]at hb;cases hb
 ·rename_i t x y ho;exact acy (λt ht=>by rw[ho];simp[aV,ht]) (λt ht=>by rw[ho];simp[aV,ht])
 ·exact acA
 ·exact acB
 ·split
  ·split
   ·split
    ·exact acC
    ·trivial
   ·trivial
  ·exact hv
 ·exact hv
end Go.Pv
namespace Go.Pv
open Go
theorem uZ {c:Nat}:∀{ids:amG} {ls:anb} {bs:anj},c∉ids->(eU bs ids ls)[c]?=bs[c]?
 |[],_,_,_=>by rfl
 |_::_,[],_,_=>by rfl
 |b::r,l::ls,bs,h=>by simp only[eU];rw[uZ (λhm=>h (by grind)),mM (λe=>h (by simp[e]))]
theorem KI {c:Nat}:∀{ids:amG} {ls:anb} {bs:anj},c∈ids->ids.length<=ls.length->(∀c∈ids,c<bs.length)->∃l∈ls,(eU bs ids ls)[c]?=some (some l)
 |[],_,_,h,_,_=>by cases h
 |_::_,[],_,_,h,_=>by grind
 |b::r,l::ls,bs,h,hl,hb=>by
  simp only[eU];by_cases hm:c∈r
  ·obtain⟨l',h1,h2⟩:=KI (ls:=ls) (bs:=bs.set b (some l)) hm (by grind) (λc hc=>by grind);grind
  ·have acE:c=b:=by
    rcases az.1 h with h|h
    ·exact h
    ·grind
   subst acE;refine⟨l,by simp,?_⟩;rw[uZ hm];grind
theorem KJ {st:St}:∀{ids:amG} {ls:anb},kR st ids=some ls->∀b∈ids,Has st b
 |[],_,_,b,h=>by cases h
 |c::r,ls,h,b,hb=>by
  simp only[kR]at h;split at h
  ·rename_i l jm h1 h2;rcases az.1 hb with rfl|hb
   ·exact⟨l,h1⟩
   ·exact KJ h2 b hb
  grind
theorem Has.lt {st:St} {b:Nat} (h:Has st b):b<st.boxes.length:=by
 obtain⟨l,hl⟩:=h;grind
theorem acF {ids brw:amG} {d:Nat} {new:Bool} {gen:amP} {x:X} {b:Nat} (h:b∈(x.dj ids brw d new gen).ids):b∈ids\/(new=true/\b=d)\/False:=by
 cases x with
 |ptr i off=>
  simp only[X.dj]at h;split at h
  ·rename_i hi;simp only[X.ids,a8]at h;grind
  ·split at h
   ·rename_i hn;simp only[X.ids,a8]at h;grind
   ·cases h
 |bz e r i off=>simp only[X.dj]at h;cases he:Nat.beq e 1053<;>rw[he]at h<;>cases h
 |own e g n r=>cases h
 |_=>cases h
theorem Sl {f:X->X} {s:S} {y:X} (h:y∈(s.bH f).xs):∃x∈s.xs,y=f x:=by
 cases s with
 |one x=>simp only[S.bH,S.xs,a8]at h;exact⟨x,by simp[S.xs],h⟩
 |agg l=>simp only[S.bH,S.xs,aF]at h;obtain⟨x,hx,rfl⟩:=h;exact⟨x,hx,rfl⟩
 |bj l=>simp only[S.bH,S.xs,ba,aF]at h;obtain⟨p,⟨q,hq,rfl⟩,hy⟩:=h;obtain⟨x,hx,rfl⟩:=aF.1 hy;exact⟨x,ba.2 ⟨q,hq,hx⟩,rfl⟩
theorem acG {st st1:St} {d:amR} {new:Bool} {brw:amG} {y6:List S->List (List X)->Option Sp} {Ξ:amZ} {ids:amG} {rs:amG}
 (hlen:∀Ξ bs sp,y6 Ξ bs=some sp->∀x,(sp.bx x).length=bs.length+new.toNat/\∀l∈sp.bx x,l≠[])
 (h1:st1.aq=st.aq) (h2:∀b,b∉ids->st1.boxes[b]?=st.boxes[b]?) (h3:∀b,Has st b->Has st1 b) (lC:∀b∈ids,eW st rs b):
 (nP st1 d new brw y6 Ξ ids).cN (eE st d rs):=by
 unfold nP;split
 ·trivial
 ·rename_i ls eO;dsimp only;generalize iv brw _=brw;split
  ·rename_i hc;simp only[aB,iT,gy]at hc;obtain⟨⟨⟨⟨dv,fR⟩,y7⟩,B3⟩,_⟩:=hc;split
   ·trivial
   ·rename_i sp ct;intro x hx;dsimp only;obtain⟨nJ,_⟩:=uL eO;have nI:=(hlen _ _ sp ct x).1;rw[dI,nJ]at nI;have nT:new=true->∃k,d=some k/\st1.boxes[k]?=some none:=by
     intro hn;rcases y7 with h'|h'
     ·grind
     ·unfold uK at h';grind
    generalize hg:fE st1.gen _=gen';generalize nU:(if new=true then ids++d.toList else ids)=er;have sJ:er.length=ids.length+new.toNat:=by
     rw[<-nU];cases hn:new with
     |false=>simp
     |true=>grind
    have Fe:∀b∈er,b∈ids\/(new=true/\d=some b):=by
     intro b hb;rw[<-nU]at hb;cases hn:new with
     |false=>grind
     |true=>
      grind
    have J9:∀c∈er,c<st1.boxes.length:=by
     intro c hc;rcases Fe c hc with h'|⟨hn,h'⟩
     ·exact(KJ eO c h').lt
     ·grind
    generalize wV:(sp.bx x).map (List.map (X.dj ids brw (d.getD 0) new gen'))=jm;have Rv:jm.length=er.length:=by rw[<-wV];simp[nI,sJ]
    generalize Ck:({aq:=st1.aq,boxes:=eU st1.boxes er jm,gen:=gen'}:St)=u7;have dS:∀s,(u7.put d s).boxes=eU st1.boxes er jm:=by rw[<-Ck];intro s;cases d<;>rfl
    have FE:u7.aq=st.aq:=by rw[<-Ck];exact h1
    have gE:∀c∈er,∃l∈jm,(eU st1.boxes er jm)[c]?=some (some l):=λc hc=>KI hc (by omega) J9;have BL:∀{s:S},new=true->∀b,d=some b->Has (u7.put d s) b:=by
     intro s hn b hb;have hm:b∈er:=by rw[<-nU,hn,hb];simp
     obtain⟨l,_,h⟩:=gE b hm;exact⟨l,by grind⟩
    have rp:∀{s:S} {y:X} {b:Nat},(∃x,y=X.dj ids brw (d.getD 0) new gen' x)->b∈y.ids->eW st rs b\/(d=some b/\Has (u7.put d s) b):=by
     rintro s y b ⟨x,rfl⟩ hb;rcases acF hb with h|⟨hn,rfl⟩|h
     ·grind
     ·grind
     ·grind
    subst Ck;refine⟨λt ht=>?_,?_,λt ht y hy b hb=>?_,λb hb hd=>?_,λb l' hb=>?_,λb hb=>?_⟩
    ·rw[zn ht];simp only[St.get,h1]
    ·cases d<;>simp[St.put,h1]
    ·subst ht;rcases sT hy with hy|rfl
     ·obtain⟨x',_,rfl⟩:=Sl hy;grind
     ·cases hb
    ·rw[dS];have rb:b∉er:=by
      intro hm;rcases Fe b hm with h|⟨_,h⟩
      ·grind
      ·grind
     rw[uZ rb];grind
    ·rw[dS]at hb⊢;by_cases hm:b∈er
     ·grind
     ·left;rw[uZ hm];grind
    ·obtain⟨l0,h0⟩:=h3 b hb;by_cases hm:b∈er
     ·obtain⟨l,_,he⟩:=gE b hm;exact⟨l,by grind⟩
     ·exact⟨l0,by rw[dS,uZ hm];omega⟩
  ·trivial
theorem Sq {P:Program} {T:ay} {specs:FuncId->Option dw} (hs:m3 P T specs) {st:St} {d:amR} {f:FuncId} {Ξ:amZ} {rs:amG}
 (has:∀s∈Ξ,∀y∈s.xs,∀b∈y.ids,eW st rs b/\∀l,st.boxes[b]?=some (some l)->∀z∈l,∀id∈z.ids,eW st rs id):
 (iH specs st d f Ξ).cN (eE st d rs):=by
 unfold iH;split
 ·trivial
 ·rename_i fs dM;dsimp only;generalize hA:gQ st.gen fs.am Ξ=A;have h0:∀b∈l9 [] ((A.flatMap S.xs).flatMap X.cU),∃s∈Ξ,∃y∈s.xs,b∈y.ids:=by
   intro b hb;rcases zo hb with h|h
   ·cases h
   ·rw[<-hA]at h;have:=KB h;obtain⟨y,hy,hb⟩:=ba.1 this;obtain⟨s,hs,hy⟩:=ba.1 hy;exact⟨s,hs,y,hy,FA hb⟩
  have o1:∀b∈j9 st A,eW st rs b:=by
   intro b hm;unfold j9 at hm;dsimp only at hm;split at hm
   ·rename_i ls eO;rcases zo hm with h|h
    ·grind
    ·obtain⟨z,hz,uU⟩:=ba.1 h;obtain⟨l0,dc,hz⟩:=ba.1 hz;obtain⟨i,hi⟩:=jP dc;obtain⟨id,h1,h2⟩:=(uL eO).2 i l0 hi;obtain⟨s,hs,y,hy,xa⟩:=h0 id (aY h1);exact(has s hs y hy id xa).2 l0 h2 z hz b (FA uU)
   ·grind
  split
  ·refine acG (λΞ bs sp ct=>hs.len f fs Ξ bs sp dM ct) ?_ (λb hb=>?_) (λb hb=>?_) o1
   ·unfold St.iY;grind
   ·unfold St.iY;split
    ·exact uZ hb
    ·rfl
   ·unfold St.iY;split
    ·rename_i ls eO;by_cases hm:b∈j9 st A
     ·have hl:=(uL eO).1;have hn:∀(ms:anq) (ls:anb),(hX st.gen ms ls).length=ls.length:=λms ls=>(Fb ms ls).1;obtain⟨l,_,he⟩:=KI (ls:=hX st.gen fs.bm ls) (bs:=st.boxes) hm (by grind) (λc hc=>(KJ eO c hc).lt);exact⟨l,he⟩
     ·obtain⟨l,hl⟩:=hb;exact⟨l,by show(eU _ _ _)[b]?=_;rw[uZ hm];omega⟩
    omega
  ·trivial
theorem FF {b:Nat}:∀{l r:amG},∃r',l9 (b::r) l=b::r'
 |[],r=>⟨r,rfl⟩
 |c::l,r=>by
  simp only[l9];split
  ·exact FF
  ·exact FF (r:=r++[c])
theorem acH {gen:amP} {brw:amG} {m:CM} {x:X} (h:x.oT gen brw m=true):x.norm gen m=x:=by
 cases m<;>cases x<;>first|rfl|(simp[X.oT]at h;done)|skip
 rename_i v;cases v<;>first|rfl|skip
 rename_i e rows;have h:(di e==e)=true:=h;simp[X.norm,eJ,h]
theorem Sr {gen:amP} {brw:amG}:∀{ms:List CM} {l:amT},nQ gen brw ms l=true->jk gen ms l=l
 |[],[],_=>rfl
 |[],x::xs,_=>rfl
 |_::_,[],_=>rfl
 |m::ms,x::xs,h=>by simp only[nQ,aB]at h;rw[jk,acH h.1,Sr h.2]
theorem Ss {gen:amP} {brw gs ids:amG} {m:CM} {x:X} {d:Nat} {new:Bool} (h:x.oT gen brw m=true) (hg:∀g∈x.tags gen,g∈gs) (hp:∀b∈x.cU,b∈ids) (hb:wP (iv brw gs) gs=true):
 (x.cV ids (iv brw gs) gen).dj ids (iv brw gs) d new (fE gen (eT (iv brw gs) gs))=x:=by
 cases x with
 |ptr b off=>have aR:=hp b (by simp[X.cU]);have aj:=Zw.2 aR;simp only[X.cV,X.dj,aj,cJ,X.ptr.injEq,lU];grind
 |own e g n rows=>
  simp only[X.oT,aB,iT]at h;have hn:=bt h.1.2;have sU:g∈gs:=hg g (by simp[X.tags,hn]);simp only[wP,aB,aX]at hb;have key:nO (iv brw gs) (j7 (iv brw gs) g)=g/\(Nat.ble 5000 g=true\/(iv brw gs).contains g=true):=by
   cases hc:(iv brw gs).contains g with
   |true=>
    have h1:j7 (iv brw gs) g=g+5000:=by simp only[j7,hc,mJ]
    have h2:Nat.ble 5000 (g+5000)=true:=by rw[EF];omega
    rw[h1];exact⟨by simp only[nO,h2,P4,hc,Zy,mJ], .inr rfl⟩
   |false=>
    have h1:j7 (iv brw gs) g=g:=by simp only[j7,hc,lS]
    have h2:Nat.ble 5000 g=true:=by
     rcases h.2 with h'|h'
     ·omega
     ·have:(iv brw gs).contains g=true:=by rw[jT,iv,ki];exact⟨jT.1 h',jT.2 sU⟩
      grind
    have h3:=hb.2 g sU;simp only[gy]at h3;rw[h1];exact⟨by simp only[nO,h3,lS], .inl h2⟩
  simp only[X.cV,hn,cJ,X.dj,key.1];congr 1;have:(eT (iv brw gs) gs).contains g=false:=by
   rcases Ez ((eT (iv brw gs) gs).contains g)with h'|h'
   ·rw[jT,eT,ki]at h';grind
   ·omega
  simp only[fE,this];rfl
 |c v=>rfl
 |hH=>rfl
 |fV f=>rfl
 |_=>simp[X.oT]at h
theorem KK {gen:amP} {brw gs ids:amG} {d:Nat} {new:Bool} (hb:wP (iv brw gs) gs=true):∀{ms:List CM} {l:amT},nQ gen brw ms l=true->(∀x∈l,∀g∈x.tags gen,g∈gs)->(∀x∈l,∀b∈x.cU,b∈ids)->
 (l.map (X.cV ids (iv brw gs) gen)).map (X.dj ids (iv brw gs) d new (fE gen (eT (iv brw gs) gs)))=l
 |_,[],_,_,_=>by simp
 |[],x::xs,h,hg,hp=>by simp only[nQ,aB]at h;simp only[bu];rw[Ss h.1 (hg x (by simp)) (hp x (by simp)) hb,KK hb h.2 (λy hy=>hg y (by grind)) (λy hy=>hp y (by grind))]
 |m::ms,x::xs,h,hg,hp=>by simp only[nQ,aB]at h;simp only[bu];rw[Ss h.1 (hg x (by simp)) (hp x (by simp)) hb,KK hb h.2 (λy hy=>hg y (by grind)) (λy hy=>hp y (by grind))]
theorem Su {bs:anj} {b:Nat} {r:amG} {l:amT} {ls:anb} (hb:b<bs.length) (hr:b∉r):(eU bs (b::r) (l::ls))[b]?=some (some l):=by simp only[eU];rw[uZ hr,P7 hb]
theorem acI {P:Program} {T:ay} {specs:FuncId->Option dw} (hs:m3 P T specs) {st:St} {d:amR} {f:FuncId} {fs:dw} (dM:specs f=some fs) (hk:fs.kp=true) {b off:Nat} {Ξ:amZ}
 (hd:d≠some b):(iH specs st d f (.one (.ptr b off)::Ξ)).cN λar=>ar.boxes[b]?=st.boxes[b]?:=by
 unfold iH;rw[dM];dsimp only;have hA:∃A,gQ st.gen fs.am (.one (.ptr b off)::Ξ)= .one (.ptr b off)::A:=by
  cases fs.am with
  |nil=>exact⟨Ξ,rfl⟩
  |cons m ms=>
   refine⟨gQ st.gen ms Ξ,?_⟩;simp only[gQ];congr 1;cases m with
   |nil=>rfl
   |cons c cs=>cases c<;>rfl
 obtain⟨A,hA⟩:=hA;rw[hA];obtain⟨r,aE⟩:∃r,j9 st (.one (.ptr b off)::A)=b::r:=by
  have h0:∃r',l9 [] (((S.one (.ptr b off)::A).flatMap S.xs).flatMap X.cU)=b::r':=by simp only[mN,S.xs,Jo,X.cU,List.flatMap_nil,P8,P9,Zz,l9,List.contains_nil,qL,py];exact FF
  obtain⟨r',h0⟩:=h0;unfold j9;simp only[h0];split
  ·exact FF
  grind
 rw[aE];split
 ·rename_i hc;simp only[hk,qM,kM,aB]at hc;obtain⟨dv,lE⟩:=hc;unfold pT at lE;have lE:(match st.boxes[b]?with|some (some l)=>nQ st.gen fs.brw (fs.bm.headD []) l|_=>false)=true:=lE
  ·split at lE
   ·rename_i l hl;have gR:b∉r:=by simp only[pS,aB,gy]at dv;intro hm;have:=jT.2 hm;rw[this]at dv;cases dv.1
    have aj:b<st.boxes.length:=by
     rcases aT b st.boxes.length with h'|h'
     ·omega
     ·grind
    have h1:(st.iY fs.bm (b::r)).boxes[b]?=some (some l)/\(st.iY fs.bm (b::r)).gen=st.gen:=by
     unfold St.iY;split
     ·rename_i ls eO;simp only[kR,hl]at eO;split at eO
      ·rename_i l' jm e1 e2;simp only[ae]at e1 eO;subst e1;subst eO;refine⟨?_,rfl⟩;have:∃t,hX st.gen fs.bm (l::jm)=l::t:=by
        cases mZ:fs.bm with
        |nil=>exact⟨jm,rfl⟩
        |cons m ms=>rw[mZ]at lE;exact⟨_,by rw[hX,Sr (ms:=m) lE]⟩
       obtain⟨t,ht⟩:=this;dsimp only;rw[ht];exact Su aj gR
      grind
     ·grind
    obtain⟨h1,Sv⟩:=h1;generalize st.iY fs.bm (b::r)=st1 at h1 Sv⊢;have acJ:b<st1.boxes.length:=by
     rcases aT b st1.boxes.length with h'|h'
     ·omega
     ·grind
    unfold nP;split
    ·trivial
    ·rename_i ls eO;simp only[kR,h1]at eO;split at eO
     ·rename_i l' jm e1 e2;simp only[ae]at e1 eO;subst e1;subst eO;dsimp only;generalize m6:List.flatMap (X.tags st1.gen) (List.flatMap S.xs (S.one (X.ptr b off)::A)++List.flatMap id (l::jm))=gs;split
      ·rename_i hc;simp only[aB]at hc;obtain⟨⟨⟨⟨_,fR⟩,_⟩,_⟩,y8⟩:=hc;split
       ·trivial
       ·rename_i sp ct;intro x _;dsimp only;have hx:=hs.kp f fs _ _ sp dM ct hk x;rw[bu,lV]at hx;obtain⟨t,ht⟩:∃t,sp.bx x=(l.map (X.cV (b::r) (iv fs.brw gs) st1.gen))::t:=by
         cases hq:sp.bx x with
         |nil=>grind
         |cons y t=>grind
        rw[ht];have FG:∀(KM:St) s,(KM.put d s).boxes=KM.boxes:=λKM s=>by cases d<;>rfl
        rw[FG,hl];dsimp only;have nU:∃r2,(if fs.new=true then b::r++d.toList else b::r)=b::r2/\b∉r2:=by
         split
         ·grind
         ·grind
        obtain⟨r2,e3,jI⟩:=nU;rw[e3,bu,Su acJ jI];congr 2;rw[<-Sv]at lE;refine KK y8.1 lE (λy hy g hg=>?_) λy hy c hc=>?_
        ·grind
        ·have:=aX.1 fR c (ba.2 ⟨y,bB.2 (.inr (by grind)),hc⟩);grind
      ·trivial
     grind
   grind
 ·trivial
theorem acK {gen:amP} {ms:List CM} {s:S} {b off:Nat} (h:s.norm gen ms= .one (.ptr b off)):s= .one (.ptr b off):=by
 cases s with
 |one x=>
  cases ms with
  |nil=>exact h
  |cons m _=>simp only[S.norm,S.one.injEq]at h;cases m<;>cases x<;>first|(rw[h];done)|(simp[X.norm]at h;done)|(simp[X.norm]at h;rw[h.1,h.2])
 |agg l=>simp[S.norm]at h
 |bj l=>assumption
theorem acL {P:Program} {T:ay} {specs:FuncId->Option dw} (hs:m3 P T specs) {st:St} {d:amR} {f:FuncId} {fs:dw} (dM:specs f=some fs) (hk:fs.kp=true) {Ξ:amZ}:
 (iH specs st d f Ξ).cN λar=>∀b,(∀s r,Ξ=s::r->∀y∈s.xs,∀id∈y.ids,id=b)->d≠some b->ar.boxes[b]?=st.boxes[b]?:=by
 cases Ξ with
 |nil=>
  unfold iH;rw[dM];dsimp only;have hA:gQ st.gen fs.am ([]:amZ)=[]:=by cases fs.am<;>rfl
  rw[hA,hk];have:pT st fs.bm fs.brw (j9 st []) []=false:=by unfold pT;split<;>first|rfl|grind
  rw[this];simp only[qM,Zp,Qa,qL,py];trivial
 |cons s r=>
  by_cases hp:∃b off,s= .one (.ptr b off)
  ·obtain⟨b,off,rfl⟩:=hp;by_cases hd:d=some b
   ·refine bl.uX (λar _ c hc Sw=>?_) (bl.KG _);have:=hc _ _ rfl (.ptr b off) (by simp[S.xs]) b (by simp[X.ids]);grind
   ·refine bl.uX (λar h c hc Sw=>?_) (acI hs dM hk (Ξ:=r) (off:=off) hd);have:=hc _ _ rfl (.ptr b off) (by simp[S.xs]) b (by simp[X.ids]);grind
  ·unfold iH;rw[dM];dsimp only;have hA:∃s' r',gQ st.gen fs.am (s::r)=s'::r'/\∀b off,s'≠ .one (.ptr b off):=by
    cases fs.am with
    |nil=>exact⟨s,r,rfl,λb off e=>hp ⟨b,off,e⟩⟩
    |cons m ms=>exact⟨_,_,rfl,λb off e=>hp ⟨b,off,acK e⟩⟩
   obtain⟨s',r',e1,e2⟩:=hA;rw[e1,hk];have:pT st fs.bm fs.brw (j9 st (s'::r')) (s'::r')=false:=by
    unfold pT;split
    ·grind
    ·rfl
   rw[this];simp only[qM,Zp,Qa,qL,py];trivial
theorem acM {P:Program} {T:ay} {specs:FuncId->Option dw} (hs:m3 P T specs) {st:St} {d:amR} {f:FuncId} {fs:dw} (dM:specs f=some fs) (hk:fs.pl=true) {Ξ:amZ}:
 (iH specs st d f Ξ).cN λar=>∀t,d=some t->∀y∈(ar.get t).xs,y.ids=[]:=by
 unfold iH;rw[dM];dsimp only;split
 ·unfold nP;split
  ·trivial
  ·dsimp only;split
   ·split
    ·trivial
    ·rename_i sp ct;intro x _ t ht y hy;subst ht;rcases sT hy with hy|rfl
     ·obtain⟨x',cW,rfl⟩:=Sl hy;have jX:=hs.pl f fs _ _ sp dM ct hk;have:=jX x x' cW;cases x' with
      |bz e r i o=>simp only[X.dj];cases Nat.beq e 1053<;>rfl
      |ptr b o=>simp[X.cU]at this
      |_=>rfl
     ·rfl
   ·trivial
 ·trivial
theorem acN {ids brw:amG} {d d':Nat} {gen:amP}:X.dj ids brw d false gen=X.dj ids brw d' false gen:=by
 funext x;cases x<;>try rfl
 rename_i i off;simp only[X.dj];grind
theorem acO {P:Program} {T:ay} {specs:FuncId->Option dw} {st:St} {d:amR} {f:FuncId} {fs:dw} (dM:specs f=some fs) (hn:fs.new=false) {Ξ:amZ} {Q Q':amX}
 (h:(iH specs st none f Ξ).cN Q) (hq:∀st1 u7,st1.boxes=u7.boxes->Q st1->Q' u7):(iH specs st d f Ξ).cN Q':=by
 unfold iH at h⊢;rw[dM]at h⊢;dsimp only at h⊢;split
 ·rename_i hc;rw[aC hc]at h;unfold nP at h⊢;split
  ·trivial
  ·rename_i ls eO;rw[eO]at h;dsimp only at h⊢;simp only[hn,Bool.not_false,Qb,v9]at h⊢;split
   ·rename_i mV;rw[aC mV]at h;split
    ·trivial
    ·rename_i sp ct;rw[ct]at h;intro x hx;refine hq _ _ ?_ (h x hx);rw[acN (d':=d.getD 0)];cases d<;>rfl
   ·trivial
 ·trivial
theorem acP {P:Program} {T:ay} {specs:FuncId->Option dw} (hs:m3 P T specs) {st:St} {d:amR} {f:FuncId} {fs:dw} (dM:specs f=some fs) (hn:fs.new=false) {Ξ:amZ} {rs:amG}
 (has:∀s∈Ξ,∀y∈s.xs,∀b∈y.ids,eW st rs b/\∀l,st.boxes[b]?=some (some l)->∀z∈l,∀id∈z.ids,eW st rs id):
 (iH specs st d f Ξ).cN λar=>(∀b,¬eW st rs b->ar.boxes[b]?=st.boxes[b]?)/\∀(b:Nat) (l':amT),ar.boxes[b]?=some (some l')->ar.boxes[b]?=st.boxes[b]?\/∀z∈l',∀id∈z.ids,eW st rs id:=by
 refine acO (P:=P) (T:=T) dM hn (Sq hs (d:=none) has) λst1 u7 e hf=>?_;rw[<-e];refine⟨λb hb=>hf.boxes b hb (by simp),λb l' hb=>?_⟩;rcases hf.cont b l' hb with h|h
 all_goals grind
theorem acQ {st:St} {o:Oper} {cl:Call} (ho:o.op= .call cl):∀s∈cl.args.toList.map (ev st),∀y∈s.xs,∀b∈y.ids,eW st (aV o.op) b/\∀l,st.boxes[b]?=some (some l)->∀z∈l,∀id∈z.ids,eW st (aV o.op) id:=λs hs y hy b hb=>by
 obtain⟨x,hx,rfl⟩:=aF.1 hs;cases x with
 |tmp t=>
  have ht:t∈aV o.op:=by rw[ho];exact bB.2 (.inr (ba.2 ⟨.tmp t,hx,by simp[tmpsOf]⟩))
  exact⟨⟨t,ht,y,hy, .inl hb⟩,λl hl z hz id aE=>⟨t,ht,y,hy, .inr ⟨b,hb,l,hl,z,hz,aE⟩⟩⟩
 |const v=>
  have:y.ids=[]:=by have hy:y∈(ofConst v).xs:=hy;exact w8 hy
  grind
 |global g=>simp[ev,S.xs]at hy;subst hy;cases hb
 |func f=>simp[ev,S.xs]at hy;subst hy;cases hb
theorem KN {rows:Y9} {i:Nat} {fs:amS} {off j:Nat} {k:Kd}:(pW rows i fs off j k).ids=[]:=by cases k<;>rfl
theorem KO {rows:Y9} {i:Nat} {fs:amS} {off:Nat} {y:X}:∀{ks:amQ} {j:Nat},y∈mc rows i fs off j ks->y.ids=[]
 |[],_,h=>by cases h
 |k::ks,j,h=>by
  simp only[mc]at h;rcases az.1 h with rfl|h
  ·exact KN
  ·exact KO h
theorem Sx {c:bX} (hc:dT c) {st:St} {o:Oper} (gq:hY c.ann o=none):(cy c st o).cN (eE st o.dst (aV o.op)):=by
 unfold cy;split
 ·rename_i cl ho;split
  ·rename_i f hf;refine Sq hc.specs λs hs y hy b hb=>?_;obtain⟨x,hx,rfl⟩:=aF.1 hs;cases x with
   |tmp t=>
    have ht:t∈aV o.op:=by rw[ho];exact bB.2 (.inr (ba.2 ⟨.tmp t,hx,by simp[tmpsOf]⟩))
    exact⟨⟨t,ht,y,hy, .inl hb⟩,λl hl z hz id aE=>⟨t,ht,y,hy, .inr ⟨b,hb,l,hl,z,hz,aE⟩⟩⟩
   |const v=>
    have:y.ids=[]:=by have hy:y∈(ofConst v).xs:=hy;exact w8 hy
    grind
   |global g=>simp[ev,S.xs]at hy;subst hy;cases hb
   |func f=>simp[ev,S.xs]at hy;subst hy;cases hb
  ·exact Cj
 ·split
  ·intro b _;refine eE.put λy hy b' aR=>?_;simp[eC,S.xs]at hy;subst hy;cases aR
  ·exact Cj
 ·split
  ·unfold uP;split
   ·split
    ·split
     ·intro fs _;refine eE.put λy hy b' aR=>?_;rw[KO hy]at aR;grind
     ·split
      ·rw[gq];split
       ·grind
       ·intro fs _;refine eE.put λy hy b' aR=>?_;simp only[S.xs,a8]at hy;subst hy;rw[KN]at aR;grind
      ·trivial
     ·trivial
    ·trivial
   ·trivial
  ·rename_i t x ho _ _;rcases Kk (dU c.P c.T st t (ev st x)) (p9 c.ann o.dst)with e|e
   ·rw[e];have:=Cj (P:=c.P) (T:=c.T) (ann:=c.ann) (st:=st) (o:=o);unfold j6 at this;rw[ho]at this;rw[ho];exact this
   ·rw[e];trivial
 ·rename_i t x v ho;split
  ·unfold jn;split
   ·rename_i hd _ _;split
    ·split
     ·have kx:eE st o.dst (aV o.op) st:=by rw[hd];exact eE.put (d:=none) (s:= .one .aD) λy hy b' aR=>by simp[S.xs]at hy;subst hy;cases aR
      rw[gq];split
      ·exact kx
      ·exact kx
      grind
     ·trivial
    ·trivial
   ·trivial
  ·exact Cj
 ·exact Cj
end Go.Pv
namespace Go.Pv
open Go
variable {P:Program} {T:ay} {st:St}
def R.fit (T:ay) (r:R):Prop:=
 match r with
 | .bad=>True
 | .v s=>dA T s
 | .ck p s=>p->dA T s
 | .fk p s=>p/\dA T s
theorem Sy (v:Value):dA T (lZ v):=by
 unfold lZ;split
 ·split
  ·rename_i hc;exact bN.int _ _ hc
  ·exact trivial
 ·exact bN.bool _
 ·split
  ·rename_i hc;exact bN.str _ hc
  ·exact trivial
 ·exact trivial
 ·exact trivial
 ·exact trivial
theorem acR (v:Value):dA T (ofConst v):=by
 unfold ofConst;split
 ·split
  ·intro x hx;obtain⟨u,_,rfl⟩:=aF.1 hx;have h:=Sy (T:=T) u;obtain⟨y,hy⟩:=wu u;rw[hy]at h⊢;exact h
  ·exact trivial
 ·exact Sy v
theorem acS (h:cA T st) (t:Nat):dA T (st.get t):=by
 simp only[St.get,aZ];cases hq:st.aq[t]?with
 |none=>exact trivial
 |some s=>exact h.aq s (aY hq)
theorem FH (h:cA T st) (o:Operand):dA T (ev st o):=by
 cases o with
 |tmp t=>exact acS h t
 |const v=>exact acR v
 |_=>exact trivial
theorem FI (k:IntKind) (n:Int):dA T (.one (.c (.int k (k.wrap n)))):=bN.int _ _ (BC _ _)
theorem Cm (b:Bool):dA T (.one (.c (.bool b))):=bN.bool _
theorem acT {op:BinOp} {t:Nat} {x y:S}:(pF P op t x y).fit T:=by
 unfold pF;split
 ·split
  ·split
   ·unfold BA;exact λh=>bN.int _ _ h.2
   ·unfold yM;split<;>first|exact FI _ _|exact λ_=>FI _ _|exact Cm _|trivial
  ·trivial
 ·unfold yN;split<;>first|exact Cm _|(exact λh=>bN.str _ (by rw[alJ];exact h))|trivial
 ·split
  ·split<;>first|exact Cm _|trivial
  ·trivial
 ·split
  ·split
   ·split<;>first|exact Cm _|trivial
   ·trivial
  ·trivial
 ·trivial
theorem acU {op:UnOp} {x:S}:(wj op x).fit T:=by unfold wj;split<;>first|exact Cm _|exact FI _ _|trivial
theorem Sz:∀(l:List Int) (b:ByteArray),(l.foldl (λs n=>s.push (UInt8.ofNat n.toNat)) b).size=b.size+l.length
 |[],b=>rfl
 |n::l,b=>by rw[PT,Sz l,ByteArray.size_push,eH];omega
theorem FJ {s:S} {e:Nat} {rows:Y9} (h:dA T s) (hr:rowsOf s=some (e,rows)):bN T (.sl e rows):=by
 unfold rowsOf at hr;split at hr
 ·simp only[ae,bT]at hr;obtain⟨rfl,rfl⟩:=hr;exact h
 ·simp only[ae,bT]at hr;obtain⟨rfl,rfl⟩:=hr;exact h
 ·cases hr
theorem SA {e:Nat} {rows:Y9} (h:bN T (.sl e rows)):rows.length<=cM:=by cases h with|sl e rows h1 h2 h3=>exact h1
theorem acV {a d:Nat} {x:S} (hx:dA T x):(sv P T a d x).fit T:=by
 unfold sv;split
 ·split
  ·exact FI _ _
  ·trivial
 ·split
  ·rename_i hr _ _;split
   ·split
    ·have:=SA (FJ hx hr);refine bN.str _ ?_;unfold bytesOf;rw[Sz,dI];simp only[ByteArray.size_empty,hC,cM]at this⊢;omega
    ·trivial
   ·trivial
  ·trivial
theorem FK {n:Nat} (h:n<=cM):dA T (.one (.c (.int .i64 n))):=bN.int _ _ ⟨by simp only[IntKind.min,IntKind.signed,IntKind.bits];simp,by simp only[IntKind.max,IntKind.signed,IntKind.bits,cM]at h⊢;simp;omega⟩
theorem acW {t:Nat} {x:S} (hx:dA T x):(um P t x).fit T:=by
 unfold um;split
 ·cases hx with
  |str s h=>exact⟨h,bN.int _ _ ⟨by simp only[IntKind.min,IntKind.signed,IntKind.bits];simp,by simp only[IntKind.max,IntKind.signed,IntKind.bits,hC]at h⊢;simp;omega⟩⟩
 ·exact FK (n:=0) (gk _)
 ·split
  ·rename_i hr;have:=SA (FJ hx hr);exact⟨this,FK this⟩
  ·have h:_+1<=cM:=hx;exact⟨h,FK h⟩
  ·have h:_<=cM:=hx;exact⟨h,FK h⟩
  ·trivial
 ·trivial
theorem SB {x y:S} (hx:dA T x) (hy:dA T y):(uo x y).fit T/\(uq x y).fit T:=by
 constructor
 ·unfold uo;split
  ·split
   ·rename_i hk;subst hk;show dA T (.one (.c (.int _ (if _ then _ else _))));split
    ·exact hy
    ·exact hx
   ·trivial
  ·trivial
 ·unfold uq;split
  ·split
   ·rename_i hk;subst hk;show dA T (.one (.c (.int _ (if _ then _ else _))));split
    ·exact hy
    ·exact hx
   ·trivial
  ·trivial
theorem acX {x:S} (hx:dA T x):(wm x).fit T:=by unfold wm;split<;>first|exact hx|trivial
theorem acY {s f:Nat} {x:S} (hx:dA T x):(uu P T s x f).fit T:=by
 unfold uu;split
 ·split<;>first|exact hx|trivial
 ·trivial
theorem acZ {t:Nat} {x i:S} (hx:dA T x):(nG P T t x i).fit T:=by
 unfold nG;split
 ·rename_i hr;split
  ·exact λh=>⟨FJ hx hr,by omega⟩
  ·trivial
 ·split
  ·exact λ_=>trivial
  ·trivial
 ·split
  ·exact λ_=>trivial
  ·trivial
 ·trivial
theorem ac0 (s:ByteArray) (i:Nat):bd s i<256:=Zr _
theorem ac1 {t:Nat} {x i:S}:(sw P t x i).fit T:=by
 unfold sw;split
 ·rename_i s k n _;refine λ_=>bN.int _ _ ?_;have:=ac0 s n.toNat;exact⟨by simp only[IntKind.min,IntKind.signed,IntKind.bits];simp,by simp only[IntKind.max,IntKind.signed,IntKind.bits];simp;omega⟩
 ·trivial
theorem ac2 {t:Nat} {x:S} {lo hi mx:Option S} (hx:dA T x):(qT P T t x lo hi mx).fit T:=by
 unfold qT;split
 ·split
  ·intro _;cases hx with
   |str s h=>refine bN.str _ ?_;rw[Qc];omega
  ·trivial
 ·split
  ·rename_i hr;split
   ·split
    ·intro _;have:=FJ hx hr;cases this with
     |sl e rows h1 h2 h3=>refine bN.sl _ _ ?_ (λr hr=>h2 r (mK (nE hr))) (λr c hr hc=>h3 r c (mK (nE hr)) hc);rw[Bo,EI];omega
    ·trivial
   ·trivial
  ·trivial
 ·trivial
theorem ac3 {x:S} {j:Nat} (hx:dA T x):(sA x j).fit T:=by
 unfold sA;split
 ·split
  ·rename_i h;exact hx _ (aY h)
  ·rename_i h;exact hx _ (aY h)
  ·trivial
 ·trivial
theorem SC {x:X} (h:eP T x):(R.oL x).fit T:=by
 unfold R.oL;split
 ·trivial
 ·cases h with|int k n h=>exact⟨h,bN.int _ _ h⟩
 ·exact h
theorem SD {e:Nat} {rows:Y9} {i j:Nat} {k:Kd} (h:bN T (.sl e rows)) (hi:i<rows.length) (hk:(T e)[j]?=some k):bN T (lY k (cellAt rows i j)):=by
 cases h with
 |sl e rows h1 h2 h3=>
  have hr:rows.getD i []=rows[i]:=by rw[aZ,aP hi];rfl
  have sF:=h2 _ (fz hi);rw[<-sF,bP]at hk;cases hc:(rows[i])[j]?with
  |none=>simp[hc]at hk
  |some c=>
   simp[hc]at hk;have:cellAt rows i j=c:=by simp only[cellAt,hr,aZ,hc,fh]
   rw[this,yK hk];exact h3 _ c (fz hi) (aY hc)
theorem SE {e:Nat} {rows:Y9} {i:Nat} (h:bN T (.sl e rows)) (hi:i<rows.length):∀{ks:amQ} {j:Nat},((T e).drop j).take ks.length=ks->∀x∈fC rows i j ks,eP T x
 |[],_,_=>λx hx=>by cases hx
 |k::ks,j,hk=>λx hx=>by
  simp only[fC,az]at hx;have h0:(T e)[j]?=some k:=by have:=ll (λl=>l[0]?) hk;simpa using this
  rcases hx with rfl|hx
  ·exact SD h hi h0
  ·refine SE h hi (ks:=ks) (j:=j+1) ?_ x hx;have:=ll (λl=>l.drop 1) hk;simp only[List.drop_take,P0,eH,List.drop_succ_cons,EC,P4]at this;rw[Bm]at this;simpa[Bm]using this
theorem ac4 (aU:cA T st) {t:Nat} {x:S} (hx:dA T x):(dU P T st t x).fit T:=by
 unfold dU;split
 ·split
  ·rename_i l hl;split
   ·exact λy hy=>aU.boxes l (aY hl) y (mK (nE hy))
   ·trivial
  ·trivial
 ·split
  ·rename_i l hl;split
   ·rename_i y hy;split
    ·exact SC (aU.boxes l (aY hl) y (aY hy))
    ·trivial
   ·trivial
  ·trivial
 ·split
  ·rename_i h;exact SE hx.1 hx.2 h.1
  ·trivial
 ·split
  ·rename_i k hk;split
   ·exact SC (SD hx.1 hx.2 hk)
   ·trivial
  ·trivial
 ·trivial
theorem SG (k:Kd):eP T (mS k):=by
 cases k with
 |int k=>exact bN.int _ _ (by cases k<;>exact⟨by decide,by decide⟩)
 |bool=>exact bN.bool _
 |str=>exact bN.str _ (gk _)
 |sl e=>trivial
 |ptr=>trivial
 |any=>exact bN.any
theorem KQ {s:S} {l:amT} (h:s.cells=some l) (hs:dA T s):∀x∈l,eP T x:=by
 unfold S.cells at h;split at h
 ·cases h
 ·simp only[ae]at h;subst h;intro x hx;simp only[a8]at hx;subst hx;exact hs
 ·simp only[ae]at h;subst h;exact hs
 ·cases h
theorem SH {t:Nat}:∀{parts:anl} {acc l:amT},(∀p∈parts,dA T p.2)->(∀x∈acc,eP T x)->nH P T t parts acc=some l->∀x∈l,eP T x
 |[],acc,l,_,ha,h=>by simp only[nH,ae]at h;subst h;exact ha
 |(f,s)::r,acc,l,hp,ha,h=>by
  simp only[nH]at h;split at h
  ·rename_i hc;split at h
   ·refine SH (λp ja=>hp p (by simp[ja])) (λy hy=>?_) h;rcases xb hy with hy|hy
    ·exact ha y hy
    ·exact KQ hc (hp (f,s) (by simp)) y hy
   ·cases h
  ·cases h
theorem ac5 {t:Nat} {parts:anl} (hp:∀p∈parts,dA T p.2):(ux P T t parts).fit T:=by
 unfold ux;split
 ·trivial
 ·split
  ·rename_i hb;refine SH hp (λx hx=>?_) hb;obtain⟨k,_,rfl⟩:=aF.1 hx;exact SG k
  ·trivial
theorem KR (aU:cA T st) (op:Op):(fW P T st op).fit T:=by
 have e:=λx=>FH aU x;unfold fW;split
 ·exact e _
 ·exact e _
 ·exact acT
 ·exact acU
 ·exact acV (e _)
 ·exact acX (e _)
 ·exact acY (e _)
 ·exact acZ (e _)
 ·exact ac1
 ·exact ac2 (e _)
 ·exact ac3 (e _)
 ·exact ac4 aU (e _)
 ·refine ac5 λp hp=>?_;obtain⟨q,_,rfl⟩:=aF.1 hp;exact e _
 ·unfold uy;split
  ·split
   ·exact acW (e _)
   ·trivial
  ·split
   ·exact(SB (e _) (e _)).1
   ·trivial
  ·split
   ·exact(SB (e _) (e _)).2
   ·trivial
  ·trivial
 ·trivial
end Go.Pv
namespace Go.Pv
open Go
variable {P:Program} {T:ay} {ann:amU} {st:St}
def mj (c:bX) (L:amW) (st:St) (o:Oper):bl:=
 match o.guard with
 |none=>cy c st o
 |some (j,want)=>
  match eD L st j with
  |some (_,b)=>if b=want then cy c st o else .v (st.put o.dst aO)
  |none=>if nW L st j=true then .v (st.put o.dst aO)else .bad
theorem ac6 {st:St} {t:Nat}:st.put (some t) (st.get t)=st:=by
 simp only[St.put,St.get,aZ];cases st with
 |mk aq boxes gen=>
  simp only[St.mk.injEq,lU];apply oD;grind
theorem ac7 {L:amW} {j t:Nat} {b:Bool} (h:eD L st j=some (t,b)):st.get t=eC b/\∃oj,L[j]?=some oj/\oj.dst=some t:=by
 unfold eD at h;split at h
 ·rename_i oj ho;split at h
  ·rename_i t' ht;split at h
   ·rename_i b' hb;simp only[ae,bT]at h;obtain⟨rfl,rfl⟩:=h;exact⟨hb,oj,ho,ht⟩
   grind
  grind
 grind
theorem xc {c:bX} {L:amW} {o:Oper} {K:amX}:dk c L o st K↔(mj c L st o).wp K:=by
 unfold dk mj;cases o.guard with
 |none=>rfl
 |some q=>
  obtain⟨j,want⟩:=q;dsimp only;cases hg:eD L st j with
  |none=>
   dsimp only;by_cases h:nW L st j=true
   ·rw[aC h];exact⟨λh'=>h'.2,λh'=>⟨h,h'⟩⟩
   ·rw[aQ h];exact⟨λh'=>h h'.1,λh'=>h'.elim⟩
  |some p=>
   obtain⟨t,b⟩:=p;have hs:=(ac7 hg).1;have hp:st.put (some t) (eC b)=st:=by rw[<-hs];exact ac6
   dsimp only;cases want<;>cases b<;>dsimp only<;>rw[hp]<;>exact ez
def R.lu (d:amR):R->Option (Prop×bf)
 | .bad=>none
 | .v s=>some (True,⟨d,s,none⟩)
 | .ck p s=>some (p,⟨d,s,none⟩)
 | .fk _ s=>some (True,⟨d,s,none⟩)
def qg (st:St) (d:amR) (l:amT):Option (Prop×bf):=
 match d with
 |some d=>(match st.boxes[d]?with|some none=>(if d<st.aq.length/\l.isEmpty=false then some (True,⟨some d, .one (.ptr d 0),some (d,l)⟩)else none)|_=>none)
 |none=>none
def Cn (P:Program) (T:ay) (ann:amU) (st:St) (d:amR) (t:Nat) (l c:S):Option (Prop×bf):=
 match P.underlying t,l,c with
 |some (.slice e0), .one (.c (.int _ n)), .one (.c (.int _ m))=>
  if base (bD ann d e0)=e0/\(T (bD ann d e0)).isEmpty=false/\cR (T (bD ann d e0))=true/\cR (T e0)=true then
   (match lB ann d,kv st d with
   |2,some dd=>if bD ann d e0=e0 then some (0<=n/\n=m/\m<=eA,⟨d, .one (.cq e0 dd n.toNat),some (dd,dC (T e0).length (fQ (T e0) n.toNat))⟩)else none
   |0,_=>some ((0<=n/\n<=m/\m<=eA)/\E4 T (bD ann d e0),⟨d, .one (.own (bD ann d e0) (fZ ann d (bD ann d e0)) (st.gen (fZ ann d (bD ann d e0))) (fQ (T (bD ann d e0)) n.toNat)),none⟩)
   |_,_=>none)
  else none
 |_,_,_=>none
def ia:Op->Bool
 | .binOp op _ _ y _=>!(Fm op y)
 | .move _| .assign _| .unOp .. | .convert .. | .nilCheck _| .fieldAddr .. | .indexAddr .. | .index .. | .slice .. | .extract .. | .load .. | .build .. =>true
 | .call c=>(match c.callee with| .builtin .len=>true| .builtin .max=>true| .builtin .min=>true|_=>false)
 |_=>false
def dp:Op->Bool
 | .pick .. | .box .. | .alloc _| .buildSlice .. | .makeSlice .. =>true
 |o=>ia o
def jd (ann:amU) (o:Oper):Bool:=match o.op with| .load _ _=>p9 ann o.dst|_=>false
theorem SI {T:ay} {r:R} {b:Bool} (h:r.fit T):(r.np b).fit T:=by rcases Kk r b with e|e<;>rw[e];exact h;trivial
def nY (c:bX) (st:St) (o:Oper):Option (Prop×bf):=
 match o.op with
 | .pick cc a b=>(match ev st cc with| .one (.c (.bool t))=>some (True,⟨o.dst,if t then ev st a else ev st b,none⟩)|_=>none)
 | .box _ x=>(match(ev st x).cells with|some l=>qg st o.dst l|none=>none)
 | .alloc e=>if(c.T e).isEmpty||Nat.ble 1000 e then none else qg st o.dst ((c.T e).map mS)
 | .buildSlice t len parts=>(oS c.P c.T c.ann st.gen o.dst t len (parts.toList.map λp=>(p.1,ev st p.2))).lu o.dst
 | .makeSlice t l m=>Cn c.P c.T c.ann st o.dst t (ev st l) (ev st m)
 |op=>((fW c.P c.T st op).np (jd c.ann o)).lu o.dst
def kV (c:bX) (L:amW) (st:St) (o:Oper):Option (Prop×bf):=
 match o.guard with
 |none=>nY c st o
 |some (j,want)=>
  match eD L st j with
  |some (_,b)=>if b=want then nY c st o else some (True,⟨o.dst,aO,none⟩)
  |none=>if nW L st j=true then some (True,⟨o.dst,aO,none⟩)else none
def Co (r:Option (Prop×bf)) (st:St) (K:amX):Prop:=
 match r with
 |none=>False
 |some (p,u)=>p/\K (u.app st)
theorem KS {r:R} {d:amR} {K:amX} (h:r.fit T):(r.iW (st.put d)).wp K↔Co (r.lu d) st K:=by
 cases r with
 |bad=>rfl
 |v s=>exact⟨λh=>⟨trivial,h⟩,λh=>h.2⟩
 |ck p s=>rfl
 |fk p s=>exact⟨λh'=>⟨trivial,h' h.1⟩,λh' _=>h'.2⟩
theorem SJ {d:amR} {l:amT} {K:amX}:(nL st d l).wp K↔Co (qg st d l) st K:=by
 unfold nL qg;cases d with
 |none=>rfl
 |some d=>
  dsimp only;cases st.boxes[d]?with
  |none=>rfl
  |some o=>
   cases o with
   |some l'=>rfl
   |none=>
    dsimp only;by_cases h:d<st.aq.length/\l.isEmpty=false
    ·rw[aC h,aC h];exact⟨λh=>⟨trivial,h⟩,λh=>h.2⟩
    ·rw[aQ h,aQ h];rfl
theorem ac8 {k:Kd} {x:X} {c:C} (h:x.fq k=some c) (hx:eP T x):bN T c/\c.kd=k:=by
 cases x with
 |c v=>
  simp only[X.fq]at h;split at h
  ·simp only[ae]at h;subst h;exact⟨hx,by omega⟩
  grind
 |own e g n rows=>
  simp only[X.fq]at h;split at h
  ·simp only[ae]at h;subst h;rename_i hk;exact⟨hx,hk.symm⟩
  grind
 |bc=>cases k<;>simp[X.fq]at h;subst h;exact⟨bN.sl _ _ (gk _) (λr hr=>by grind) (λr c hr=>by grind),rfl⟩
 |_=>simp[X.fq]at h
theorem ac9 {k:Kd} {x:X} {c:C} (h:x.gO k=some c) (hx:eP T x):bN T c/\c.kd=k:=by
 unfold X.gO at h;split at h
 ·simp only[ae]at h;subst h;exact⟨bN.any,rfl⟩
 ·exact ac8 h hx
theorem KT:∀{ks:amQ} {xs:amT} {r:amS},du ks xs=some r->(∀x∈xs,eP T x)->r.map C.kd=ks/\∀c∈r,bN T c
 |[],[],r,h,_=>by simp only[du,ae]at h;grind
 |[],_::_,_,h,_=>by simp[du]at h
 |_::_,[],_,h,_=>by simp[du]at h
 |k::ks,x::xs,r,h,hx=>by
  simp only[du]at h;split at h
  ·rename_i c r' h1 h2;simp only[ae]at h;subst h;obtain⟨a1,a2⟩:=ac9 h1 (hx x (by simp));obtain⟨b1,b2⟩:=KT h2 (λy hy=>hx y (by grind));grind
  grind
theorem SK {ks:amQ}:∀{n:Nat} {xs:amT} {rows:Y9},jD ks n xs=some rows->(∀x∈xs,eP T x)->rows.length=n/\∀r∈rows,r.map C.kd=ks/\∀c∈r,bN T c
 |0,xs,rows,h,_=>by simp only[jD,ae]at h;grind
 |n+1,xs,rows,h,hx=>by
  simp only[jD]at h;split at h
  ·rename_i r rs h1 h2;simp only[ae]at h;subst h;have a:=KT h1 λy hy=>hx y (nE hy);obtain⟨b1,b2⟩:=SK h2 λy hy=>hx y (mK hy);grind
  grind
theorem SL {n:Nat}:∀{parts:anl} {acc l:amT},(∀p∈parts,dA T p.2)->(∀x∈acc,eP T x)->nM n parts acc=some l->∀x∈l,eP T x
 |[],acc,l,_,ha,h=>by simp only[nM,ae]at h;grind
 |(i,s)::r,acc,l,hp,ha,h=>by
  simp only[nM]at h;split at h
  ·rename_i hc;split at h
   ·refine SL (λp ja=>hp p (by grind)) (λy hy=>?_) h;rcases xb hy with hy|hy
    ·grind
    ·exact KQ hc (hp (i,s) (by simp)) y hy
   grind
  grind
theorem SM {gen:amP} {d:amR} {t len:Nat} {parts:anl} (hp:∀p∈parts,dA T p.2):(oS P T ann gen d t len parts).fit T:=by
 unfold oS;split
 ·rename_i e0 _;generalize bD ann d e0=e;split
  ·rename_i hc;split
   ·rename_i fl kx;split
    ·rename_i rows wN;have hf:=SL hp (λx hx=>by rw[wa hx];trivial) kx;obtain⟨k1,k2⟩:=SK wN hf;have hO:0<(T e).length:=by
      cases hT:T e with
      |nil=>grind
      |cons a l=>simp
     have hlen:rows.length<=cM:=by rw[k1];have h1:len<=len*(T e).length:=alC _ hO;have:=hc.2.2.2;simp only[cM];omega
     have aN:bN T (.sl e rows):=bN.sl _ _ hlen (λr hr=>(k2 r hr).1) (λr c hr hc=>(k2 r hr).2 c hc);have hs:dA T (.one (match lB ann d with|3=> .c (.sl e rows)|_=> .own e (fZ ann d e) (gen (fZ ann d e)) rows)):=by show eP T (match lB ann d with|3=>_|_=>_);split<;>exact aN
     split
     ·exact hs
     ·split
      ·exact λ_=>hs
      ·trivial
    ·trivial
   ·trivial
  ·split
   ·exact bN.sl _ _ (gk _) (λr hr=>by grind) (λr c hr=>by grind)
   ·trivial
 ·trivial
theorem SN {c:bX} {o:Oper} {K:amX} (hl:dp o.op=true) (hL:jb c.ann o.dst=false) (aU:cA c.T st):(cy c st o).wp K↔Co (nY c st o) st K:=by
 by_cases qh:∃t x,o.op= .load t x
 ·obtain⟨t,x,ho⟩:=qh;have hp:cy c st o=((dU c.P c.T st t (ev st x)).np (p9 c.ann o.dst)).iW (st.put o.dst):=by unfold cy;rw[ho];dsimp only;rw[hL];rfl
  have hq:nY c st o=((dU c.P c.T st t (ev st x)).np (p9 c.ann o.dst)).lu o.dst:=by unfold nY jd;rw[ho];rfl
  rw[hp,hq];exact KS (SI (KR aU (.load t x)))
 have hn:jd c.ann o=false:=by
  unfold jd;split
  ·grind
  ·rfl
 have hv:ia o.op=true->(((fW c.P c.T st o.op).iW (st.put o.dst)).wp K↔Co (((fW c.P c.T st o.op).np (jd c.ann o)).lu o.dst) st K):=λ_=>by rw[hn,Kj];exact KS (KR aU o.op)
 have hp:cy c st o=j6 c.P c.T c.ann st o:=by
  unfold cy;split
  ·rename_i cl ho;split
   ·rename_i f hf;obtain⟨x,hx⟩:=abP hf;rw[ho]at hl;simp[dp,ia,hx]at hl
   ·rfl
  ·rename_i op t x y z ho;split
   ·rename_i qd;simp only[aB]at qd;rw[ho]at hl;simp[dp,ia,qd.1.1]at hl
   ·rfl
  ·grind
  ·rename_i t x v ho;rw[ho]at hl;simp[dp,ia]at hl
  ·rfl
 rw[hp];unfold j6 nY;cases ho:o.op<;>rw[ho]at hl hv<;>simp only[dp,ia,qL]at hl<;>dsimp only<;>try first|exact hv rfl|exact hv hl
 case pick cc a b=>
  generalize ev st cc=s;rcases s with x|l|l
  ·cases x<;>try exact ez
   rename_i v;cases v<;>try exact ez
   rename_i t;cases t
   ·exact⟨λh=>⟨trivial,h⟩,λh=>h.2⟩
   ·exact⟨λh=>⟨trivial,h⟩,λh=>h.2⟩
  all_goals rfl
 case box t x=>
  cases (ev st x).cells with
  |some l=>exact SJ
  |none=>rfl
 case alloc e=>
  by_cases h:((c.T e).isEmpty||Nat.ble 1000 e)=true
  ·rw[aC h,aC h];rfl
  ·rw[aQ h,aQ h];exact SJ
 case buildSlice t len parts=>
  unfold qY;exact KS (SM λp hp=>by obtain⟨q,_,rfl⟩:=aF.1 hp;exact FH aU _)
 case makeSlice t l m=>
  unfold pP Cn;generalize ev st l=a;generalize ev st m=b;cases c.P.underlying t with
  |none=>rfl
  |some td=>
   cases td<;>try exact ez
   rename_i e;rcases a with x|x|x<;>try exact ez
   cases x<;>try exact ez
   rename_i v;cases v<;>try exact ez
   rename_i k n;rcases b with x|x|x<;>try exact ez
   cases x<;>try exact ez
   rename_i v;cases v<;>try exact ez
   rename_i k' n';dsimp only;by_cases h:base (bD c.ann o.dst e)=e/\(c.T (bD c.ann o.dst e)).isEmpty=false/\cR (c.T (bD c.ann o.dst e))=true/\cR (c.T e)=true
   ·rw[aC h,aC h]
    match lB c.ann o.dst,kv st o.dst with
    |0,none=>rfl
    |0,some dd=>rfl
    |1,none=>rfl
    |1,some dd=>rfl
    |2,none=>rfl
    |2,some dd=>
     by_cases h2:bD c.ann o.dst e=e
     ·simp only[h2,cJ];rfl
     ·simp only[h2,py];rfl
    |n+3,none=>rfl
    |n+3,some dd=>rfl
   ·rw[aQ h,aQ h];rfl
 case call cl=>
  have:=hv (by assumption);grind
theorem rq {c:bX} {L:amW} {o:Oper} {K:amX} (hl:dp o.op=true) (hL:jb c.ann o.dst=false) (aU:cA c.T st):dk c L o st K↔Co (kV c L st o) st K:=by
 rw[xc];unfold mj kV;cases o.guard with
 |none=>exact SN hl hL aU
 |some q=>
  obtain⟨j,want⟩:=q;dsimp only;cases eD L st j with
  |none=>
   dsimp only;by_cases h:nW L st j=true
   ·rw[aC h,aC h];exact⟨λh=>⟨trivial,h⟩,λh=>h.2⟩
   ·rw[aQ h,aQ h];rfl
  |some p=>
   obtain⟨t,b⟩:=p;dsimp only;by_cases h:b=want
   ·rw[aC h,aC h];exact SN hl hL aU
   ·rw[aQ h,aQ h];exact⟨λh=>⟨trivial,h⟩,λh=>h.2⟩
def zq (T:ay) (r:Option (Prop×bf)):Prop:=
 match r with
 |none=>True
 |some (p,u)=>p->dA T u.s/\∀b l,u.box=some (b,l)->∀x∈l,eP T x
theorem ada {p:Prop} {u:bf} (h:zq T (some (p,u))) (aU:cA T st) (hp:p):cA T (u.app st):=by
 obtain⟨h1,h2⟩:=h hp;have key:∀st:St,cA T st->cA T (st.put u.d u.s):=λst aU=>by
  cases hd:u.d with
  |none=>exact aU
  |some d=>
   refine⟨λs hs=>?_,aU.boxes⟩;rcases oF hs with hs|rfl
   ·exact aU.aq s hs
   omega
 unfold bf.app;cases hb:u.box with
 |none=>grind
 |some q=>
  obtain⟨b,l⟩:=q;refine key _ ⟨aU.aq,λl' bA=>?_⟩;rcases oF bA with bA|bA
  ·exact aU.boxes l' bA
  grind
theorem SO {r:R} {d:amR} (h:r.fit T):zq T (r.lu d):=by
 cases r with
 |bad=>trivial
 |v s=>exact λ_=>⟨h,λb l hb=>by grind⟩
 |ck p s=>exact λhp=>⟨h hp,λb l hb=>by grind⟩
 |fk p s=>exact λ_=>⟨h.2,λb l hb=>by grind⟩
theorem SP {d:amR} {l:amT} (h:∀x∈l,eP T x):zq T (qg st d l):=by
 unfold qg;split
 ·split
  ·split
   ·exact λ_=>⟨trivial,λb l' hb=>by grind⟩
   ·trivial
  ·trivial
 ·trivial
theorem SQ {k:Kd}:bN T (iX k):=by
 cases k with
 |int k=>exact bN.int _ _ (by cases k<;>exact⟨by decide,by decide⟩)
 |bool=>exact bN.bool _
 |str=>exact bN.str _ (gk _)
 |sl e=>exact bN.sl _ _ (gk _) (λr hr=>by grind) (λr c hr=>by grind)
 |ptr=>exact bN.bool _
 |any=>exact bN.any
theorem adb {e n:Nat} (hn:n<=cM) (hk:cR (T e)=true):bN T (.sl e (fQ (T e) n)):=by
 have hz:((T e).map iX).map C.kd=T e:=by rw[da];refine mO (cK λk bV=>?_) (P1 _);have:=aX.1 hk k bV;cases k<;>first|rfl|grind
 refine bN.sl _ _ (by simp only[fQ,ZA];omega) (λr hr=>?_) λr c hr hc=>?_
 ·rw[wa hr];omega
 ·rw[wa hr]at hc;obtain⟨k,_,rfl⟩:=aF.1 hc;exact SQ
theorem ade {w:Nat} {rows:Y9} (h:∀r∈rows,r.length=w/\∀c∈r,bN T c):∀x∈dC w rows,eP T x:=by
 intro x hx;obtain⟨m,hm,rfl⟩:=aF.1 hx;have hm:=dP.1 hm;have hw:0<w:=by
  rcases yE w with h'|h'
  ·grind
  ·omega
 have h1:m/w<rows.length:=Nat.div_lt_of_lt_mul (by grind);have h2:m%w<w:=mI _ hw;obtain⟨k1,k2⟩:=h _ (fz h1);have:cellAt rows (m/w) (m%w)=(rows[m/w])[m%w]'(by omega):=by simp only[cellAt,aZ,aP h1,fh,aP (show m%w<(rows[m/w]).length by omega)]
 show bN T (cellAt rows (m/w) (m%w));grind
theorem SR {c:bX} {o:Oper} (aU:cA c.T st):zq c.T (nY c st o):=by
 have e:=λx=>FH aU x;unfold nY;split
 ·split
  ·rename_i t _;exact λ_=>⟨by grind,λb l hb=>by grind⟩
  ·trivial
 ·split
  ·rename_i hc;exact SP (KQ hc (e _))
  ·trivial
 ·split
  ·trivial
  ·refine SP λx hx=>?_;obtain⟨k,_,rfl⟩:=aF.1 hx;exact SG k
 ·exact SO (SM λp hp=>by grind)
 ·unfold Cn;split
  ·split
   ·rename_i hk;split
    ·split
     ·intro hp;refine⟨?_,λb l hb=>?_⟩
      ·show _<=cM;simp only[eA,cM]at*;omega
      ·simp only[ae,bT]at hb;obtain⟨_,rfl⟩:=hb;refine ade λr hr=>?_;rw[wa hr];refine⟨by simp,λc hc=>?_⟩;obtain⟨k,_,rfl⟩:=aF.1 hc;exact SQ
     ·trivial
    ·intro hp;refine⟨adb ?_ hk.2.2.1,λb l hb=>by grind⟩;have:=hp.1;simp only[eA,cM]at*;omega
    ·trivial
   ·trivial
  ·trivial
 ·exact SO (SI (KR aU _))
theorem adf {c:bX} {L:amW} {o:Oper} (aU:cA c.T st):zq c.T (kV c L st o):=by
 have kW:zq c.T (some (True,⟨o.dst,aO,none⟩)):=λ_=>And.intro (show dA c.T (.bj [])from λp hp=>(by cases hp)) λb l hb=>(by cases hb);unfold kV;split
 ·exact SR aU
 ·split
  ·split
   ·exact SR aU
   omega
  ·split
   ·omega
   ·trivial
end Go.Pv
namespace Go.Pv
open Go
variable {P:Program} {T:ay} {ann:amU} {st st1:St}
def mn (L:amW) (o:Oper):List Nat:=
 match o.guard with
 |some (j,_)=>(match L[j]?with|some oj=>oj.dst.toList|none=>[])
 |none=>[]
theorem SS {L:amW} {o:Oper} {j:Nat} {w:Bool} (hg:o.guard=some (j,w)) (h:∀t∈mn L o,st1.get t=st.get t):eD L st1 j=eD L st j/\nW L st1 j=nW L st j:=by
 unfold mn at h;rw[hg]at h;dsimp only at h;unfold eD nW;grind
theorem adg {c:bX} {L:amW} {u:bf} {o:Oper} (h:u.jH st o) (hg:∀t∈mn L o,u.d≠some t) (gq:hY c.ann o=none):mj c L (u.app st) o=(mj c L st o).map u.app:=by
 unfold mj;have FG:=bf.put u st (d:=o.dst) aO h.dst;cases KU:o.guard with
 |none=>exact Sb h gq
 |some q=>
  obtain⟨j,want⟩:=q;dsimp only;obtain⟨e1,e2⟩:=SS (L:=L) (st:=st) (st1:=u.app st) KU (λt ht=>bf.get (hg t ht));rw[e1,e2];cases eD L st j with
  |none=>
   dsimp only;by_cases hc:nW L st j=true
   ·rw[aC hc,aC hc];simp only[bl.map,FG]
   ·rw[aQ hc,aQ hc];rfl
  |some p=>
   obtain⟨t,b⟩:=p;dsimp only;by_cases hc:b=want
   ·rw[aC hc,aC hc];exact Sb h gq
   ·rw[aQ hc,aQ hc];simp only[bl.map,FG]
def mo:Op->Bool
 | .box .. | .alloc _| .makeSlice .. =>true
 |_=>false
def ry (ann:amU) (o:Oper):Bool:=
 match o.op with
 | .buildSlice _ len _=>!(Nat.beq (lB ann o.dst) 3&&Nat.blt 0 len)
 | .makeSlice .. =>true
 |_=>false
structure zr (c:bX) (L:amW) (o:Oper) (st st1:St):Prop where
 get:∀t∈aV o.op++mn L o,st1.get t=st.get t
 len:st1.aq.length=st.aq.length
 load:∀t x b off,o.op= .load t x->(ev st x).bp=some (b,off)->st1.boxes[b]?=st.boxes[b]?
 dst:mo o.op=true->∀d,o.dst=some d->st1.boxes[d]?=st.boxes[d]?
 gen:ry c.ann o=true->st1.gen=st.gen
theorem SU {x:Operand} (h:∀t∈tmpsOf x,st1.get t=st.get t):ev st1 x=ev st x:=by
 cases x with
 |tmp t=>exact h t (by simp[tmpsOf])
 |_=>rfl
theorem adh {t:Nat} {s:S} (h:∀b off,s.bp=some (b,off)->st1.boxes[b]?=st.boxes[b]?):dU P T st1 t s=dU P T st t s:=by
 unfold dU;grind
theorem adi {op:Op} (h:∀t∈aV op,st1.get t=st.get t) (hl:∀t x b off,op= .load t x->(ev st x).bp=some (b,off)->st1.boxes[b]?=st.boxes[b]?):fW P T st1 op=fW P T st op:=by
 have e:=λ(x:Operand) (hx:∀t∈tmpsOf x,t∈aV op)=>SU (st:=st) (st1:=st1) (x:=x) (λt ht=>h t (hx t ht));have eo:∀(x:Option Operand),(∀t∈x.toList.flatMap tmpsOf,t∈aV op)->x.map (Pv.ev st1)=x.map (Pv.ev st):=by
  intro x hx;cases x with
  |none=>rfl
  |some x=>grind
 cases op<;>simp only[aV]at e eo<;>simp only[fW]<;>try rfl
 case move x=>grind
 case assign x=>grind
 case binOp op t x y z=>grind
 case unOp op t x=>grind
 case convert s d x=>grind
 case nilCheck x=>grind
 case fieldAddr s x f=>grind
 case indexAddr t x i=>grind
 case index t x i=>grind
 case slice t x lo hi mx=>
  grind
 case extract x j=>grind
 case load t x=>
  rw[e x (λt ht=>ht)];exact adh λb off hb=>hl t x b off rfl hb
 case build t parts=>
  congr 1;refine cK λp hp=>?_;grind
 case call c=>
  unfold uy;cases hc:c.callee<;>try rfl
  rename_i b;have ea:∀x∈c.args.toList,Pv.ev st1 x=Pv.ev st x:=λx hx=>e x (λt ht=>bB.2 (.inr (ba.2 ⟨x,hx,ht⟩)));grind
theorem SV {d:amR} {l:amT} (hd:∀b,d=some b->st1.boxes[b]?=st.boxes[b]?) (hl:st1.aq.length=st.aq.length):qg st1 d l=qg st d l:=by
 unfold qg;grind
theorem adj {d:amR} (hd:∀b,d=some b->st1.boxes[b]?=st.boxes[b]?) (hl:st1.aq.length=st.aq.length):kv st1 d=kv st d:=by
 unfold kv;grind
theorem adk {gen gen':amP} {d:amR} {t len:Nat} {parts:anl} (h:gen'=gen\/(lB ann d=3/\0<len)):oS P T ann gen' d t len parts=oS P T ann gen d t len parts:=by
 rcases h with rfl|⟨h1,h2⟩
 ·rfl
 ·unfold oS;cases P.underlying t with
  |none=>rfl
  |some td=>
   cases td<;>try rfl
   grind
theorem SW {c:bX} {L:amW} {o:Oper} (h:zr c L o st st1):nY c st1 o=nY c st o:=by
 have hg:∀t∈aV o.op,st1.get t=st.get t:=λt ht=>h.get t (bB.2 (.inl ht));have hv:((fW c.P c.T st1 o.op).np (jd c.ann o)).lu o.dst=((fW c.P c.T st o.op).np (jd c.ann o)).lu o.dst:=by rw[adi hg h.load]
 have e:=λ(x:Operand) (hx:∀t∈tmpsOf x,t∈aV o.op)=>SU (st:=st) (st1:=st1) (x:=x) (λt ht=>hg t (hx t ht));unfold nY;cases ho:o.op<;>rw[ho]at hv e<;>simp only[aV]at e<;>dsimp only<;>try exact hv
 case pick cc a b=>grind
 case box t x=>
  rw[e x (λt ht=>ht)];cases (ev st x).cells with
  |none=>rfl
  |some l=>exact SV (h.dst (by rw[ho];rfl)) h.len
 case alloc t=>rw[SV (h.dst (by rw[ho];rfl)) h.len]
 case buildSlice t len parts=>
  have hp:(parts.toList.map λp=>(p.1,ev st1 p.2))=parts.toList.map λp=>(p.1,ev st p.2):=cK λp hp=>by grind
  rw[hp,adk (gen:=st.gen) (gen':=st1.gen)];cases sM:ry c.ann o with
  |true=>exact .inl (h.gen sM)
  |false=>right;unfold ry at sM;simp_all
 case makeSlice t l m=>
  rw[e l (λt ht=>by grind),e m (λt ht=>by grind)];unfold Cn;rw[adj (h.dst (by rw[ho];rfl)) h.len,h.gen (by unfold ry;rw[ho])]
theorem FL {c:bX} {L:amW} {o:Oper} (h:zr c L o st st1):kV c L st1 o=kV c L st o:=by
 unfold kV;cases KU:o.guard with
 |none=>exact SW h
 |some q=>obtain⟨j,want⟩:=q;dsimp only;obtain⟨e1,e2⟩:=SS (L:=L) (st:=st) (st1:=st1) KU (λt ht=>h.get t (bB.2 (.inr ht)));rw[e1,e2,SW h]
structure Tb where
 dX:Nat->List Nat
 cont:Nat->List Nat
 kp:Nat->Bool
 pl:Nat->Bool
 np:Option Nat->Bool
def Cp (o:Oper):Option Nat:=match o.op with| .call cl=>(match cl.callee with| .value (.func f)=>some f|_=>none)|_=>none
def Tb.kX (tb:Tb) (o:Oper):Bool:=match Cp o with|some f=>tb.pl f|none=>false
def Tb.rz (tb:Tb) (o:Oper):Option Nat:=
 match o.op with
 | .call cl=>(match cl.callee,cl.args.toList with
  | .value (.func f), .tmp t::_=>(match tb.kp f,tb.dX t with|true,[b]=>some b|_,_=>none)
  |_,_=>none)
 |_=>none
structure Tb.In (tb:Tb) (st:St):Prop where
 slot:∀t y b,y∈(st.get t).xs->b∈y.ids->b∈tb.dX t
 box:∀b l z id,st.boxes[b]?=some (some l)->z∈l->id∈z.ids->id∈tb.cont b
def Tb.iw (tb:Tb) (rs:amG):List Nat:=rs.flatMap tb.dX++(rs.flatMap tb.dX).flatMap tb.cont
theorem Tb.In.kU {tb:Tb} (h:tb.In st) {rs:amG} {b:Nat} (hr:eW st rs b):b∈tb.iw rs:=by
 obtain⟨t,ht,y,hy,hb⟩:=hr;rcases hb with hb|⟨id,aE,l,hl,z,hz,hb⟩
 ·exact bB.2 (.inl (ba.2 ⟨t,ht,h.slot t y b hy hb⟩))
 ·exact bB.2 (.inr (ba.2 ⟨id,ba.2 ⟨t,ht,h.slot t y id hy aE⟩,h.box id l z b hl hz hb⟩))
def Tb.vt (tb:Tb) (o:Oper):List Nat:=
 match ia o.op with
 |false=>(match tb.kX o with|true=>[]|false=>tb.iw (aV o.op))
 |true=>(match o.op with| .load _ _=>(match tb.np o.dst with|true=>[]|false=>((aV o.op).flatMap tb.dX).flatMap tb.cont)| .indexAddr _ x _=>(tmpsOf x).flatMap tb.dX|_=>(aV o.op).flatMap tb.dX)
def Tb.tc (tb:Tb) (o:Oper):List Nat:=
 match o.op with
 | .store _ x _=>(tmpsOf x).flatMap tb.dX
 |_=>(tb.iw (aV o.op)).filter λb=>!(match tb.rz o with|some k=>Nat.beq k b|none=>false)
def Tb.closed (tb:Tb) (o:Oper):Bool:=
 match o.op with
 | .store _ x y=>((tmpsOf x).flatMap tb.dX).all λb=>((tmpsOf y).flatMap tb.dX).all (tb.cont b).contains
 |_=>
  match o.dst with
  |some d=>(tb.vt o).all (tb.dX d).contains&&
   (ia o.op||tb.kX o||((tb.dX d).contains d&&((tb.iw (aV o.op)).all (tb.cont d).contains&&(tb.cont d).contains d)))&&
   (dp o.op||(tb.iw (aV o.op)).all λb=>(tb.iw (aV o.op)).all (tb.cont b).contains&&(tb.kX o||(tb.cont b).contains d))
  |none=>dp o.op||(tb.iw (aV o.op)).all λb=>(tb.iw (aV o.op)).all (tb.cont b).contains
def xd:Op->Bool
 | .store .. =>true
 |_=>false
theorem KV {tb:Tb} {o:Oper} (h:xd o.op=false):tb.closed o=match o.dst with
 |some d=>(tb.vt o).all (tb.dX d).contains&&
  (ia o.op||tb.kX o||((tb.dX d).contains d&&((tb.iw (aV o.op)).all (tb.cont d).contains&&(tb.cont d).contains d)))&&
  (dp o.op||(tb.iw (aV o.op)).all λb=>(tb.iw (aV o.op)).all (tb.cont b).contains&&(tb.kX o||(tb.cont b).contains d))
 |none=>dp o.op||(tb.iw (aV o.op)).all λb=>(tb.iw (aV o.op)).all (tb.cont b).contains:=by
 unfold Tb.closed;cases ho:o.op<;>rw[ho]at h<;>first|rfl|cases h
theorem Tb.In.SX {T:ay} {tb:Tb} {ann:amU} (hn:∀d,tb.np d=true->p9 ann d=true) (h:tb.In st) {o:Oper} (hv:ia o.op=true) {b:Nat} (hb:Ci T st o.op b) (zt:jd ann o=false):b∈tb.vt o:=by
 unfold Tb.vt;rw[hv];dsimp only;have dir:∀{rs:amG},m8 st rs b->b∈rs.flatMap tb.dX:=λ⟨t,ht,y,hy,hb⟩=>ba.2 ⟨t,ht,h.slot t y b hy hb⟩;have SY:uV st (aV o.op) b->b∈((aV o.op).flatMap tb.dX).flatMap tb.cont:=λ⟨t,ht,y,hy,id,aE,l,hl,z,hz,hb⟩=>
  ba.2 ⟨id,ba.2 ⟨t,ht,h.slot t y id hy aE⟩,h.box id l z b hl hz hb⟩
 cases ho:o.op<;>rw[ho]at hb SY<;>dsimp only<;>first|exact dir hb|skip
 rename_i t x;cases iC:tb.np o.dst with
 |true=>
  have h1:=hn _ iC;have h2:jd ann o=p9 ann o.dst:=by unfold jd;rw[ho]
  grind
 |false=>exact SY hb
theorem adl {o:Oper} (h:dp o.op=true):Cp o=none:=by
 unfold Cp;cases ho:o.op<;>rw[ho]at h<;>first|rfl|skip
 rename_i cl;dsimp only;cases hc:cl.callee<;>first|rfl|(simp[dp,ia,hc]at h)
theorem Tb.SZ {tb:Tb} {o:Oper} (h:dp o.op=true):tb.kX o=false:=by unfold Tb.kX;rw[adl h]
structure qj (c:bX) (tb:Tb):Prop where
 kp:∀f,tb.kp f=true->∃fs,c.specs f=some fs/\fs.kp=true
 pl:∀f,tb.pl f=true->∃fs,c.specs f=some fs/\fs.pl=true
 np:∀d,tb.np d=true->p9 c.ann d=true
structure FM (tb:Tb) (st:St) (o:Oper) (st1:St):Prop where
 kept:∀k,tb.rz o=some k->o.dst≠some k->st1.boxes[k]?=st.boxes[k]?
 plain:tb.kX o=true->∀t,o.dst=some t->∀y∈(st1.get t).xs,y.ids=[]
 dB:tb.kX o=true->∀b,¬eW st (aV o.op) b->st1.boxes[b]?=st.boxes[b]?
 cont:tb.kX o=true->∀(b:Nat) (l':amT),st1.boxes[b]?=some (some l')->st1.boxes[b]?=st.boxes[b]?\/∀z∈l',∀id∈z.ids,eW st (aV o.op) id
structure KW (tb:Tb) (st:St) (o:Oper) (st1:St):Prop extends FM tb st o st1 where
 S0:eE st o.dst (aV o.op) st1
theorem S2 {c:bX} (hc:dT c) {tb:Tb} (ht:qj c tb) {st:St} (h:tb.In st) {o:Oper}:
 (cy c st o).cN (FM tb st o):=by
 by_cases hf:∃cl f,o.op= .call cl/\cl.callee= .value (.func f)
 ·obtain⟨cl,f,ho,fb⟩:=hf;have he:cy c st o=iH c.specs st o.dst f (cl.args.toList.map (ev st)):=by unfold cy;rw[ho];simp only[p8,fb,ev]
  rw[he];have k1:(iH c.specs st o.dst f (cl.args.toList.map (ev st))).cN λst1=>∀k,tb.rz o=some k->o.dst≠some k->st1.boxes[k]?=st.boxes[k]?:=by
   cases hk:tb.rz o with
   |none=>exact bl.uX (λ_ _ k e=>by cases e) (bl.KG _)
   |some k=>
    unfold Tb.rz at hk;rw[ho]at hk;simp only[fb]at hk;split at hk
    ·rename_i f' t r h1 h2;have h1:=h1;simp only[Callee.value.injEq,Operand.func.injEq]at h1;subst h1;split at hk
     ·rename_i b uE Fi;simp only[ae]at hk;subst hk;obtain⟨fs,dM,FN⟩:=ht.kp _ uE;refine bl.uX (λst1 hh k e hd=>?_) (acL hc.specs dM FN);simp only[ae]at e;subst e;refine hh _ (λs r' e y hy id aE=>?_) hd;rw[h2]at e;simp only[bu,ua]at e;obtain⟨rfl,_⟩:=e;have:=h.slot t y id hy aE;rw[Fi]at this;simpa using this
     ·cases hk
    ·cases hk
  cases hp:tb.kX o with
  |false=>exact bl.uX (λ_ h=>⟨h,λe=>by(rw[hp]at e;cases e),λe=>by(rw[hp]at e;cases e),λe=>by(rw[hp]at e;cases e)⟩) k1
  |true=>
   have jX:tb.pl f=true:=by simpa[Tb.kX,Cp,ho,fb]using hp
   obtain⟨fs,dM,FN⟩:=ht.pl _ jX;have k2:=acM hc.specs dM FN (st:=st) (d:=o.dst) (Ξ:=cl.args.toList.map (ev st));have k3:(iH c.specs st o.dst f (cl.args.toList.map (ev st))).cN _:=acP hc.specs dM (hc.specs.abj _ _ dM FN) (acQ ho);exact bl.uX (λst1 hh=>⟨hh.1,λ_=>hh.2.1,λ_=>hh.2.2.1,λ_=>hh.2.2.2⟩) (bl.KH k1 (bl.KH k2 k3))
 ·have h1:tb.rz o=none:=by
   unfold Tb.rz;split
   ·rename_i cl ho;split
    ·rename_i f t r fb _;exact(hf ⟨cl,f,ho,fb⟩).elim
    ·rfl
   ·rfl
  have h2:tb.kX o=false:=by
   unfold Tb.kX Cp;split
   ·rename_i f FO;split at FO
    ·rename_i cl ho;split at FO
     ·rename_i f' fb;exact(hf ⟨cl,f',ho,fb⟩).elim
     ·cases FO
    ·cases FO
   ·rfl
  exact bl.uX (λ_ _=>⟨λk e=>by(rw[h1]at e;cases e),λe=>by(rw[h2]at e;cases e),λe=>by(rw[h2]at e;cases e),λe=>by(rw[h2]at e;cases e)⟩) (bl.KG _)
end Go.Pv
namespace Go.Pv
open Go
variable {st st1:St}
def Cq (ann:amU) (T:ay) (st:St) (o:Oper) (r:Option (Prop×bf)):Prop:=
 match r with
 |none=>True
 |some (_,u)=>u.d=o.dst/\(∀y∈u.s.xs,∀b∈y.ids,(ia o.op=true/\Ci T st o.op b/\jd ann o=false)\/(ia o.op=false/\(eW st (aV o.op) b\/o.dst=some b)))/\
  ∀b l,u.box=some (b,l)->mo o.op=true/\o.dst=some b/\∀z∈l,∀id∈z.ids,eW st (aV o.op) id
theorem S3 {ann:amU} {T:ay} {o:Oper} {l:amT} (hb:mo o.op=true) (hv:ia o.op=false) (hl:∀z∈l,∀id∈z.ids,eW st (aV o.op) id):Cq ann T st o (qg st o.dst l):=by
 unfold qg;cases hd:o.dst with
 |none=>trivial
 |some d=>
  dsimp only;split
  ·split
   ·refine⟨hd.symm,λy hy b S4=>?_,λb l' h=>?_⟩
    ·simp[S.xs]at hy;subst hy;simp[X.ids]at S4;grind
    grind
   ·trivial
  ·trivial
theorem S5 {c:bX} {o:Oper}:Cq c.ann c.T st o (nY c st o):=by
 have hv:Cq c.ann c.T st o (((fW c.P c.T st o.op).np (jd c.ann o)).lu o.dst):=by
  have h:=acw (P:=c.P) (T:=c.T) (st:=st) (op:=o.op);have h2:=Sf (P:=c.P) (T:=c.T) (st:=st) (op:=o.op);have key:∀s:S,s.In (Ci c.T st o.op)->s.In (eW st (aV o.op))->(jd c.ann o=true->s.hZ=true)->∀y∈s.xs,∀b∈y.ids,(ia o.op=true/\Ci c.T st o.op b/\jd c.ann o=false)\/(ia o.op=false/\(eW st (aV o.op) b\/o.dst=some b)):=λs h h2 h3 y hy b hb=>by
   cases hn:jd c.ann o with
   |true=>have:=aX.1 (h3 hn) y hy;grind
   |false=>
    cases ia o.op with
    |true=>exact .inl ⟨rfl,h y hy b hb,rfl⟩
    |false=>exact .inr ⟨rfl, .inl (h2 y hy b hb)⟩
  cases hr:fW c.P c.T st o.op with
  |bad=>cases jd c.ann o<;>trivial
  |v s=>
   rw[hr]at h h2;cases hn:jd c.ann o with
   |false=>exact⟨rfl,key s h h2 (λe=>by grind),λb l hb=>(by cases hb)⟩
   |true=>
    cases hs:s.hZ with
    |true=>simp only[R.np,hs];exact⟨rfl,key s h h2 (λ_=>hs),λb l hb=>(by cases hb)⟩
    |false=>simp only[R.np,hs];trivial
  |ck p s=>
   rw[hr]at h h2;cases hn:jd c.ann o with
   |false=>exact⟨rfl,key s h h2 (λe=>by grind),λb l hb=>(by cases hb)⟩
   |true=>
    cases hs:s.hZ with
    |true=>simp only[R.np,hs];exact⟨rfl,key s h h2 (λ_=>hs),λb l hb=>(by cases hb)⟩
    |false=>simp only[R.np,hs];trivial
  |fk p s=>
   rw[hr]at h h2;cases hn:jd c.ann o with
   |false=>exact⟨rfl,key s h h2 (λe=>by grind),λb l hb=>(by cases hb)⟩
   |true=>
    cases hs:s.hZ with
    |true=>simp only[R.np,hs];exact⟨rfl,key s h h2 (λ_=>hs),λb l hb=>(by cases hb)⟩
    |false=>simp only[R.np,hs];trivial
 unfold nY;split
 ·rename_i cc a b ho;split
  ·rename_i t _;refine⟨rfl,λy hy b' hb=> .inr ⟨by rw[ho];rfl, .inl ?_⟩,λb l hb=>(by cases hb)⟩;cases t with
   |true=>exact sS (x:=a) (λt ht=>by rw[ho];simp[aV,ht]) y (by grind) b' hb
   |false=>exact sS (x:=b) (λt ht=>by rw[ho];simp[aV,ht]) y (by grind) b' hb
  ·trivial
 ·rename_i t x ho;split
  ·rename_i l hl;refine S3 (by rw[ho];rfl) (by rw[ho];rfl) λz hz id aE=>?_;rw[Ch hl]at hz;exact sS (x:=x) (λt ht=>by rw[ho];exact ht) z hz id aE
  ·trivial
 ·rename_i e ho;split
  ·trivial
  ·refine S3 (by rw[ho];rfl) (by rw[ho];rfl) λz hz id aE=>?_;obtain⟨k,_,rfl⟩:=aF.1 hz;rw[KF]at aE;grind
 ·rename_i t len parts ho;have h:=Sk (P:=c.P) (T:=c.T) (ann:=c.ann) (gen:=st.gen) (t:=t) (len:=len) (parts:=parts.toList.map λp=>(p.1,ev st p.2)) (d:=o.dst) (Q:=λ_=>False);cases hr:oS c.P c.T c.ann st.gen o.dst t len (parts.toList.map λp=>(p.1,ev st p.2))with
  |bad=>trivial
  |v s=>rw[hr]at h;exact⟨rfl,λy hy b hb=>(h y hy b hb).elim,λb l hb=>(by cases hb)⟩
  |ck p s=>rw[hr]at h;exact⟨rfl,λy hy b hb=>(h y hy b hb).elim,λb l hb=>(by cases hb)⟩
  |fk p s=>rw[hr]at h;exact⟨rfl,λy hy b hb=>(h y hy b hb).elim,λb l hb=>(by cases hb)⟩
 ·rename_i t l m ho;unfold Cn;split
  ·split
   ·split
    ·rename_i dd _ hf;obtain⟨hd,_⟩:=FC hf;split
     ·refine⟨rfl,λy hy b hb=>?_,λb l' h=>?_⟩
      ·simp only[S.xs,a8]at hy;subst hy;simp only[X.ids,a8]at hb;subst hb;exact .inr ⟨by rw[ho];rfl, .inr hd⟩
      ·simp only[ae,bT]at h;obtain⟨rfl,rfl⟩:=h;exact⟨by rw[ho];rfl,hd,λz hz id aE=>by rw[FD hz]at aE;grind⟩
     ·trivial
    ·refine⟨rfl,λy hy b hb=>?_,λb l hb=>(by cases hb)⟩;simp only[S.xs,a8]at hy;subst hy;cases hb
    ·trivial
   ·trivial
  ·trivial
 omega
theorem KY {c:bX} {L:amW} {o:Oper}:Cq c.ann c.T st o (kV c L st o):=by
 have kW:Cq c.ann c.T st o (some (True,⟨o.dst,aO,none⟩)):=⟨rfl,λy hy=>by simp[aO,S.xs]at hy,λb l hb=>(by cases hb)⟩
 unfold kV;split
 ·exact S5
 ·split
  ·split
   ·exact S5
   omega
  ·split
   ·omega
   ·trivial
theorem rA {l m:amG} (h:l.all m.contains=true) {b:Nat} (hb:b∈l):b∈m:=by grind
theorem Tb.In.zu {tb:Tb} (h:tb.In st) {c:bX} (gu:qj c tb) {L:amW} {o:Oper} (hl:dp o.op=true) (hc:tb.closed o=true) {p:Prop} {u:bf} (hu:kV c L st o=some (p,u)):tb.In (u.app st):=by
 have hi:=KY (c:=c) (L:=L) (st:=st) (o:=o);rw[hu]at hi;obtain⟨i1,i2,i3⟩:=hi;rw[KV (by cases ho:o.op<;>rw[ho]at hl<;>first|rfl|simp[dp,ia]at hl)]at hc;cases hd:o.dst with
 |none=>
  have hb:u.box=none:=by
   cases hb:u.box with
   |none=>rfl
   |some q=>grind
  have:u.app st=st:=by unfold bf.app;rw[hb,i1,hd];rfl
  grind
 |some d=>
  rw[hd]at hc;simp only[aB]at hc;obtain⟨⟨c1,c2⟩,_⟩:=hc;rw[Tb.SZ hl]at c2;refine⟨λt y b hy hb=>?_,λb l z id hb hz aE=>?_⟩
  ·by_cases ht:u.d=some t
   ·have adm:t=d:=by rw[i1,hd]at ht;exact(lR ht).symm
    subst adm;have KZ:y∈u.s.xs\/y= .aD:=by
     unfold bf.app at hy;rw[ht]at hy;cases cL:u.box with
     |none=>rw[cL]at hy;exact sT hy
     |some q=>rw[cL]at hy;exact sT hy
    rcases KZ with KZ|rfl
    ·rcases i2 y KZ b hb with⟨hv,hr,hn⟩|⟨hv,ho⟩
     ·exact rA c1 (h.SX gu.np hv hr hn)
     ·rcases ho with hr|ho
      ·refine rA c1 ?_;unfold Tb.vt;rw[hv,Tb.SZ hl];exact h.kU hr
      grind
    ·cases hb
   ·rw[bf.get ht]at hy;exact h.slot t y b hy hb
  ·rw[bf.boxes]at hb;cases cL:u.box with
   |none=>rw[cL]at hb;exact h.box b l z id hb hz aE
   |some q=>
    obtain⟨b',l'⟩:=q;rw[cL]at hb;dsimp only at hb;obtain⟨j1,j2,j3⟩:=i3 b' l' cL;rw[kh]at hb;split at hb
    ·rename_i he;subst he;split at hb
     ·simp only[ae]at hb;subst hb;have hv:ia o.op=false:=by cases ho:o.op<;>rw[ho]at j1<;>first|rfl|cases j1
      rw[hv]at c2;simp only[kM,aB]at c2;have FP:d=b':=by rw[hd]at j2;exact lR j2
      subst FP;exact rA c2.2.1 (h.kU (j3 z hz id aE))
     grind
    ·exact h.box b l z id hb hz aE
theorem ado {c:bX} (hc:dT c) {L:amW} {o:Oper} (gq:hY c.ann o=none):(mj c L st o).cN (eE st o.dst (aV o.op)):=by
 have kW:eE st o.dst (aV o.op) (st.put o.dst aO):=eE.put (λy hy=>by simp[aO,S.xs]at hy);unfold mj;split
 ·exact Sx hc gq
 ·split
  ·split
   ·exact Sx hc gq
   ·exact kW
  ·split
   ·exact kW
   ·trivial
structure SF (st:St) (o:Oper) (x y:Operand) (st1:St):Prop where
 aq:∀t,o.dst≠some t->st1.get t=st.get t
 res:∀t,o.dst=some t->∀z∈(st1.get t).xs,z.ids=[]
 len:st1.aq.length=st.aq.length
 boxes:∀b,¬m8 st (tmpsOf x) b->st1.boxes[b]?=st.boxes[b]?
 cont:∀b l',st1.boxes[b]?=some (some l')->st1.boxes[b]?=st.boxes[b]?\/(m8 st (tmpsOf x) b/\∃l,st.boxes[b]?=some (some l)/\∀z∈l',z∈l\/∀id∈z.ids,m8 st (tmpsOf y) id)
theorem SF.kW {o:Oper} {x y:Operand}:SF st o x y (st.put o.dst aO):=by
 have hb:(st.put o.dst aO).boxes=st.boxes:=by cases o.dst<;>rfl
 refine⟨λt ht=>zn ht,λt ht z hz=>?_,by cases o.dst<;>simp[St.put],λb _=>by rw[hb],λb l' _=> .inl (by rw[hb])⟩;rw[ht]at hz;rcases sT hz with hz|rfl
 ·simp[aO,S.xs]at hz
 ·rfl
theorem adp {T:ay} {t:Nat} {a:S} {l:amT} {Q:Nat->Prop} (hl:∀y∈l,∀b∈y.ids,Q b):∀y∈l8 T t a l,∀b∈y.ids,Q b:=λy hy b hb=>by
 rcases Sj hy with h|h
 all_goals grind
theorem K0 {c:bX} {L:amW} {o:Oper} {t:Nat} {x y:Operand} (ho:o.op= .store t x y) (gq:hY c.ann o=none):(mj c L st o).cN (SF st o x y):=by
 have hp:(cy c st o).cN (SF st o x y):=by
  unfold cy j6;rw[ho];dsimp only;split
  ·unfold jn;split
   ·rename_i hd _ _;split
    ·split
     ·have S6:SF st o x y st:=⟨λt _=>rfl,λt ht=>(by grind),rfl,λ_ _=>rfl,λ_ _ _=> .inl rfl⟩
      rw[gq];split
      ·exact S6
      ·exact S6
      grind
     ·trivial
    ·trivial
   ·trivial
  ·unfold j5;split
   ·rename_i b off l' hd hb hc;split
    ·rename_i l hl;split
     ·obtain⟨y0,iK,rn⟩:=zp hb;have S7:m8 st (tmpsOf x) b:=by have:=Cg (st:=st) (x:=x) (rs:=tmpsOf x) (λt ht=>ht) y0 iK b rn;exact this
      refine⟨λt _=>rfl,λt ht=>(by grind),rfl,λb' aR=>?_,λb' l2 dS=>?_⟩
      ·simp only[St.bC];grind
      ·by_cases he:b'=b
       ·subst he;right;refine⟨S7,l,hl,λz hz=>?_⟩;simp only[St.bC]at dS;rw[kh]at dS;simp only[cJ]at dS;split at dS
        ·simp only[ae]at dS;subst dS;rcases xb hz with hz|hz
         ·grind
         ·right;refine adp (λw hw id aE=>?_) z hz;rw[Ch hc]at hw;exact Cg (st:=st) (x:=y) (rs:=tmpsOf y) (λt ht=>ht) w hw id aE
        grind
       ·left;simp only[St.bC];grind
     ·trivial
    ·trivial
   ·trivial
 unfold mj;split
 ·omega
 ·split
  ·split
   ·omega
   ·exact SF.kW
  ·split
   ·exact SF.kW
   ·trivial
theorem Tb.In.store {tb:Tb} (h:tb.In st) {o:Oper} {t:Nat} {x y:Operand} (ho:o.op= .store t x y) (hc:tb.closed o=true) (hf:SF st o x y st1):tb.In st1:=by
 unfold Tb.closed at hc;rw[ho]at hc;dsimp only at hc;refine⟨λt y' b hy hb=>?_,λb l z id hb hz aE=>?_⟩
 ·by_cases ht:o.dst=some t
  ·rw[hf.res t ht y' hy]at hb;grind
  ·rw[hf.aq t ht]at hy;exact h.slot t y' b hy hb
 ·rcases hf.cont b l hb with he|⟨⟨t',Ca,w,hw,Cr⟩,l0,dc,wO⟩
  ·rw[he]at hb;exact h.box b l z id hb hz aE
  ·rcases wO z hz with Bw|Bw
   ·exact h.box b l0 z id dc Bw aE
   ·have mZ:b∈(tmpsOf x).flatMap tb.dX:=ba.2 ⟨t',Ca,h.slot t' w b hw Cr⟩;obtain⟨t2,Cs,w2,zd,adq⟩:=Bw id aE;exact rA (aX.1 hc b mZ) (ba.2 ⟨t2,Cs,h.slot t2 w2 id zd adq⟩)
theorem Tb.In.K3 {tb:Tb} (h:tb.In st) {o:Oper} (hl:dp o.op=false) (jJ:xd o.op=false) (hc:tb.closed o=true) (hk:KW tb st o st1):tb.In st1:=by
 have hf:=hk.S0;have K4:ia o.op=false:=by
  cases hv:ia o.op with
  |false=>rfl
  |true=>cases ho:o.op<;>rw[ho]at hl hv<;>simp[dp,ia]at hl hv<;>simp_all
 rw[KV jJ]at hc;refine⟨λt y b hy hb=>?_,λb l z id hb hz aE=>?_⟩
 ·by_cases ht:o.dst=some t
  ·rw[ht]at hc;cases jX:tb.kX o with
   |true=>rw[hk.plain jX t ht y hy]at hb;grind
   |false=>
    simp only[aB,K4,jX,kM]at hc;rcases hf.res t ht y hy b hb with hr|⟨rfl,_⟩
    ·refine rA hc.1.1 ?_;unfold Tb.vt;rw[K4,jX];exact h.kU hr
    grind
  ·rw[hf.aq t ht]at hy;exact h.slot t y b hy hb
 ·cases jX:tb.kX o with
  |true=>
   rcases hk.cont jX b l hb with he|lC
   ·rw[he]at hb;exact h.box b l z id hb hz aE
   ·by_cases gR:eW st (aV o.op) b
    ·have adr:((tb.iw (aV o.op)).all λb=>(tb.iw (aV o.op)).all (tb.cont b).contains)=true:=by
      cases hd:o.dst with
      |none=>grind
      |some d=>grind
     exact rA (aX.1 adr b (h.kU gR)) (h.kU (lC z hz id aE))
    ·rw[hk.dB jX b gR]at hb;exact h.box b l z id hb hz aE
  |false=>
  rw[jX]at hc;rcases hf.cont b l hb with he|lC
  ·rw[he]at hb;exact h.box b l z id hb hz aE
  ·by_cases gR:eW st (aV o.op) b\/o.dst=some b
   ·cases hd:o.dst with
    |none=>
     rw[hd]at hc;simp only[hl,kM]at hc;have gR:b∈tb.iw (aV o.op):=by
      rcases gR with gR|gR
      ·exact h.kU gR
      ·grind
     have:=aX.1 hc b gR;rcases lC z hz id aE with hr|⟨hr,_⟩
     ·exact rA this (h.kU hr)
     grind
    |some d=>
     rw[hd]at hc;simp only[aB,K4,hl,kM]at hc;obtain⟨⟨c1,c2,c3,c4⟩,c5⟩:=hc;by_cases FP:b=d
     ·subst FP;rcases lC z hz id aE with hr|⟨hr,_⟩
      ·exact rA c3 (h.kU hr)
      grind
     ·have gR:b∈tb.iw (aV o.op):=by
       rcases gR with gR|gR
       ·exact h.kU gR
       ·grind
      have:=aX.1 c5 b gR;simp only[aB]at this;rcases lC z hz id aE with hr|⟨hr,_⟩
      ·exact rA this.1 (h.kU hr)
      grind
   ·simp only[not_or]at gR;have:=hf.boxes b gR.1 gR.2;rw[this]at hb;exact h.box b l z id hb hz aE
def qk:Op->Bool
 | .load .. =>true
 |_=>false
def u9 (c:bX) (o:Oper) (st st1:St):Prop:=∃s:S,st1=st.put o.dst s/\s.In λb=>uV st (aV o.op) b/\jd c.ann o=false
theorem S8 {c:bX} {L:amW} {o:Oper} {t:Nat} {x:Operand} (ho:o.op= .load t x) (gq:hY c.ann o=none):(mj c L st o).cN (u9 c o st):=by
 have FQ:∀s:S,(∀y∈s.xs,y.ids=[])->u9 c o st (st.put o.dst s):=λs h=>⟨s,rfl,λy hy b hb=>by grind⟩
 have kW:u9 c o st (st.put o.dst aO):=FQ _ λy hy=>by simp[aO,S.xs]at hy
 have hp:(cy c st o).cN (u9 c o st):=by
  unfold cy;rw[ho];dsimp only;split
  ·unfold uP;split
   ·split
    ·split
     ·exact λfs _=>FQ _ λy hy=>KO hy
     ·split
      ·rw[gq];split
       ·grind
       ·refine λfs _=>FQ _ λy hy=>?_;simp only[S.xs,a8]at hy;subst hy;exact KN
      ·trivial
     ·trivial
    ·trivial
   ·trivial
  ·have hv:=KE (P:=c.P) (T:=c.T) (st:=st) (rs:=aV (.load t x)) (t:=t) (x:=x) (λt ht=>ht);cases hn:p9 c.ann o.dst with
   |false=>
    have iC:jd c.ann o=false:=by unfold jd;rw[ho];exact hn
    have key:∀s:S,s.In (uV st (aV (.load t x)))->u9 c o st (st.put o.dst s):=λs hs=>⟨s,rfl,λy hy b hb=>⟨by rw[ho];exact hs y hy b hb,iC⟩⟩
    rw[Kj];cases hr:dU c.P c.T st t (ev st x)<;>rw[hr]at hv<;>first|trivial|exact key _ hv
   |true=>
    have hZ:∀s:S,s.hZ=true->u9 c o st (st.put o.dst s):=λs h=>FQ s λy hy=>by have:=aX.1 h y hy;grind
    cases hr:dU c.P c.T st t (ev st x)with
    |bad=>trivial
    |v s=>cases h:s.hZ<;>simp only[R.np,h,R.iW,bl.cN]<;>exact hZ s h
    |ck p s=>cases h:s.hZ<;>simp only[R.np,h,R.iW,bl.cN]<;>exact hZ s h
    |fk p s=>cases h:s.hZ<;>simp only[R.np,h,R.iW,bl.cN]<;>exact hZ s h
 unfold mj;split
 ·omega
 ·split
  ·split
   all_goals assumption
  ·split
   ·exact kW
   ·trivial
theorem S9 (st:St) (d:amR) (s:S):(st.put d s).boxes=st.boxes/\(st.put d s).gen=st.gen/\(st.put d s).aq.length=st.aq.length:=by
 cases d with
 |none=>exact⟨rfl,rfl,rfl⟩
 |some d=>exact⟨rfl,rfl,by simp[St.put]⟩
theorem Ta (st:St) {d:amR} (s:S) {t:Nat} (h:d≠some t):(st.put d s).get t=st.get t:=by
 cases d with
 |none=>rfl
 |some d=>have:d≠t:=λe=>h (by rw[e]);simp only[St.put,St.get,aZ];grind
theorem Tb.In.ld {tb:Tb} (h:tb.In st) {c:bX} (gu:qj c tb) {o:Oper} (hl:qk o.op=true) (hc:tb.closed o=true) (hs:u9 c o st st1):tb.In st1:=by
 obtain⟨s,rfl,hi⟩:=hs;have fu:dp o.op=true:=by cases ho:o.op<;>rw[ho]at hl<;>first|rfl|cases hl
 have ads:ia o.op=true:=by cases ho:o.op<;>rw[ho]at hl<;>first|rfl|cases hl
 have aU:xd o.op=false:=by cases ho:o.op<;>rw[ho]at hl<;>first|rfl|cases hl
 rw[KV aU]at hc;refine⟨λt y b hy hb=>?_,λb l z id hb hz aE=>?_⟩
 ·by_cases ht:o.dst=some t
  ·rw[ht]at hc hy;simp only[aB]at hc;rcases sT hy with hy|rfl
   ·obtain⟨h1,h2⟩:=hi y hy b hb;refine rA hc.1.1 (h.SX (T:=c.T) gu.np ads ?_ h2);cases ho:o.op<;>rw[ho]at hl h1<;>first|exact h1|cases hl
   ·cases hb
  ·rw[Ta st s ht]at hy;exact h.slot t y b hy hb
 ·rw[(S9 st o.dst s).1]at hb;exact h.box b l z id hb hz aE
def m9 (d:amR) (l:amG):Bool:=match d with|some d=>l.contains d|none=>false
def zv (ann:amU) (tb:Tb) (L:amW) (oi oj:Oper):Bool:=
 !m9 oj.dst (aV oi.op++mn L oi)&&!m9 oi.dst (aV oj.op++mn L oj)&&(match oi.dst,oj.dst with|some a,some b=>!Nat.beq a b|_,_=>true)&&
 (!mo oi.op||!m9 oi.dst (tb.iw (aV oj.op)))&&
 (match oi.op with
  | .load .. =>(match dp oj.op with
   |true=>!mo oj.op||!m9 oj.dst ((aV oi.op).flatMap tb.dX)
   |false=>!m9 oj.dst ((aV oi.op).flatMap tb.dX)&&((aV oi.op).flatMap tb.dX).all λb=>!(tb.tc oj).contains b)
  |_=>true)&&(dp oj.op||!ry ann oi)&&(!jb ann oj.dst||qk oj.op)&&(hY ann oj).isNone
theorem Ct {d:amR} {l:amG} (h:m9 d l=false) {t:Nat} (ht:t∈l):d≠some t:=by
 rintro rfl;simp only[m9]at h;grind
structure xe (ann:amU) (tb:Tb) (L:amW) (oi oj:Oper):Prop where
 r1:∀t∈aV oi.op++mn L oi,oj.dst≠some t
 r2:∀t∈aV oj.op++mn L oj,oi.dst≠some t
 d:∀a b,oi.dst=some a->oj.dst=some b->a≠b
 bx:mo oi.op=true->∀b∈tb.iw (aV oj.op),oi.dst≠some b
 adt:∀t x,oi.op= .load t x->dp oj.op=true->mo oj.op=true->∀b∈(aV oi.op).flatMap tb.dX,oj.dst≠some b
 Tc:∀t x,oi.op= .load t x->dp oj.op=false->∀b∈(aV oi.op).flatMap tb.dX,oj.dst≠some b/\b∉tb.tc oj
 gen:dp oj.op=false->ry ann oi=false
 nl:jb ann oj.dst=false\/qk oj.op=true
 nm:hY ann oj=none
theorem Td {ann:amU} {tb:Tb} {L:amW} {oi oj:Oper} (h:zv ann tb L oi oj=true):xe ann tb L oi oj:=by
 unfold zv at h;simp only[aB,gy,iT,EE]at h;obtain⟨⟨⟨⟨⟨⟨⟨h1,h2⟩,h3⟩,h4⟩,h5⟩,h6⟩,h7⟩,h8⟩:=h;refine⟨λt ht=>Ct h1 ht,λt ht=>Ct h2 ht,λa b ha hb=>?_,λhb b hm=>?_,λt x ho hl cL b hm=>?_,λt x ho hl b hm=>?_,λhl=>?_,h7,h8⟩
 ·rw[ha,hb]at h3;simp only[gy]at h3;rintro rfl;simp_all
 ·rcases h4 with h4|h4
  ·grind
  ·exact Ct h4 hm
 ·rw[ho,hl]at h5;rw[ho]at hm;simp only[cL,iT,gy,Bool.true_eq_false,false_or,qM]at h5;exact Ct (by grind) hm
 ·rw[ho,hl]at h5;rw[ho]at hm;simp only[aB,gy]at h5;refine⟨Ct h5.1 hm,λhc=>?_⟩;grind
 grind
theorem K5 {tb:Tb} (h:tb.In st) {t:Nat} {x:Operand} {b off:Nat} (hb:(ev st x).bp=some (b,off)):b∈(aV (.load t x)).flatMap tb.dX:=by
 obtain⟨y,hy,rn⟩:=zp hb;cases x with
 |tmp t'=>exact ba.2 ⟨t',by simp[aV,tmpsOf],h.slot t' y b hy rn⟩
 |const v=>rw[show ev st (.const v)=ofConst v from rfl,R2]at hb;grind
 |global g=>simp[ev,S.bp]at hb
 |func f=>simp[ev,S.bp]at hb
theorem adu {c:bX} {tb:Tb} {L:amW} {oi oj:Oper} (h:tb.In st) (hp:xe c.ann tb L oi oj) {p:Prop} {u:bf} (hu:kV c L st oi=some (p,u)):u.jH st oj/\∀t∈mn L oj,u.d≠some t:=by
 have hi:=KY (c:=c) (L:=L) (st:=st) (o:=oi);rw[hu]at hi;obtain⟨i1,i2,i3⟩:=hi;refine⟨⟨λt ht=>by rw[i1];exact hp.r2 t (bB.2 (.inl ht)),?_,λb l hb=>?_⟩,λt ht=>by rw[i1];exact hp.r2 t (bB.2 (.inr ht))⟩
 ·rw[i1];cases ha:oi.dst with
  |none=>grind
  |some a=>
   cases hb:oj.dst with
   |none=>grind
   |some b=>exact .inr (.inr λe=>hp.d a b ha hb (lR e))
 ·obtain⟨j1,j2,j3⟩:=i3 b l hb;refine⟨λe=>hp.d b b j2 e rfl,λt ht y hy=>⟨λadv=>?_,λid aE l' bA z hz adw=>?_⟩⟩
  ·exact hp.bx j1 b (h.kU ⟨t,ht,y,hy, .inl adv⟩) j2
  ·exact hp.bx j1 b (h.kU ⟨t,ht,y,hy, .inr ⟨id,aE,l',bA,z,hz,adw⟩⟩) j2
theorem adx {c:bX} {tb:Tb} {L:amW} {oi oj:Oper} (h:tb.In st) (hl:dp oj.op=true) (hp:xe c.ann tb L oi oj) {p:Prop} {u:bf} (hu:kV c L st oj=some (p,u)):zr c L oi st (u.app st):=by
 have hi:=KY (c:=c) (L:=L) (st:=st) (o:=oj);rw[hu]at hi;obtain⟨i1,i2,i3⟩:=hi;refine⟨λt ht=>bf.get (by rw[i1];exact hp.r1 t ht),bf.len u st,λt x b off ho hb=>?_,λhb d hd=>?_,λ_=>bf.gen u st⟩
 ·refine bf.sQ λb' l cL=>?_;obtain⟨j1,j2,j3⟩:=i3 b' l cL;rintro rfl;exact hp.adt t x ho hl j1 b' (by rw[ho];exact K5 h hb) j2
 ·refine bf.sQ λb' l cL=>?_;obtain⟨j1,j2,j3⟩:=i3 b' l cL;exact λe=>hp.d d b' hd j2 e.symm
theorem ady {c:bX} {tb:Tb} {L:amW} {oi oj:Oper} (h:tb.In st) (hl:dp oj.op=false) (jJ:xd oj.op=false) (hp:xe c.ann tb L oi oj) (hk:KW tb st oj st1):zr c L oi st st1:=by
 have hf:=hk.S0;refine⟨λt ht=>hf.aq t (hp.r1 t ht),hf.len,λt x b off ho hb=>?_,λhb d hd=>?_,λhg=>?_⟩
 ·obtain⟨g1,g2⟩:=hp.Tc t x ho hl b (by rw[ho];exact K5 h hb);have adz:tb.tc oj=(tb.iw (aV oj.op)).filter λb=>!(match tb.rz oj with|some k=>Nat.beq k b|none=>false):=by unfold Tb.tc;cases ho:oj.op<;>rw[ho]at jJ<;>first|rfl|cases jJ
  rw[adz]at g2;by_cases uE:tb.rz oj=some b
  ·exact hk.kept b uE g1
  ·refine hf.boxes b (λhr=>g2 (ki.2 ⟨h.kU hr,?_⟩)) g1;cases adA:tb.rz oj with
   |none=>rfl
   |some k=>
    have:¬k=b:=λe=>uE (by grind);cases hq:Nat.beq k b with
    |false=>grind
    |true=>simp_all
 ·exact hf.boxes d (λhr=>hp.bx hb d (h.kU hr) hd) (λe=>hp.d d d hd e rfl)
 ·rw[hp.gen hl]at hg;grind
theorem adB {c:bX} {L:amW} {oi oj:Oper} {tb:Tb} (hp:xe c.ann tb L oi oj) (hs:u9 c oj st st1):zr c L oi st st1:=by obtain⟨s,rfl,_⟩:=hs;obtain⟨h1,h2,h3⟩:=S9 st oj.dst s;exact⟨λt ht=>Ta st s (hp.r1 t ht),h3,λ_ _ b _ _ _=>by rw[h1],λ_ d _=>by rw[h1],λ_=>h2⟩
theorem adC {c:bX} {tb:Tb} {L:amW} {oi oj:Oper} {t':Nat} {x' y':Operand} (h:tb.In st) (gw:oj.op= .store t' x' y') (hp:xe c.ann tb L oi oj) (hf:SF st oj x' y' st1):zr c L oi st st1:=by
 have hl:dp oj.op=false:=by rw[gw];rfl
 refine⟨λt ht=>hf.aq t (hp.r1 t ht),hf.len,λt x b off ho hb=>?_,λhb d hd=>?_,λhg=>?_⟩
 ·obtain⟨g1,g2⟩:=hp.Tc t x ho hl b (by rw[ho];exact K5 h hb);refine hf.boxes b λ⟨t2,Cs,w,hw,Cr⟩=>g2 ?_;unfold Tb.tc;rw[gw];exact ba.2 ⟨t2,Cs,h.slot t2 w b hw Cr⟩
 ·refine hf.boxes d λ⟨t2,Cs,w,hw,Cr⟩=>hp.bx hb d ?_ hd;exact h.kU ⟨t2,by rw[gw];simp[aV,Cs],w,hw, .inl Cr⟩
 ·rw[hp.gen hl]at hg;grind
theorem K6 {c:bX} (hc:dT c) {tb:Tb} (ht:qj c tb) {L:amW} {o:Oper} (h:tb.In st) (gq:hY c.ann o=none):(mj c L st o).cN (KW tb st o):=by
 have kW:∀st1:St,st1=st.put o.dst aO->FM tb st o st1:=by
  rintro st1 rfl;have hb:(st.put o.dst aO).boxes=st.boxes:=by cases o.dst<;>rfl
  refine⟨λk _ _=>by rw[hb],λ_ t Ca y hy=>?_,λ_ b _=>by rw[hb],λ_ b l' _=> .inl (by rw[hb])⟩;rw[Ca]at hy;rcases sT hy with hy|rfl
  ·simp[aO,S.xs]at hy
  ·rfl
 have key:(mj c L st o).cN (FM tb st o):=by
  unfold mj;split
  ·exact S2 hc ht h
  ·split
   ·split
    ·exact S2 hc ht h
    ·exact kW _ rfl
   ·split
    ·exact kW _ rfl
    ·trivial
 exact bl.uX (λst1 h=>⟨h.2,h.1⟩) (bl.KH (ado hc gq) key)
theorem Te {c:bX} (hc:dT c) {ops:ang} {tb:Tb} (gu:qj c tb) {oi oj:Oper} (hi:dp oi.op=true) (nZ:jb c.ann oi.dst=false) (FR:tb.closed oj=true) (hp:xe c.ann tb ops.toList oi oj):Kx c ops (tb.In) oi oj:=by
 intro st G hD aN h;rw[rq hi nZ aN]at h;cases hL:kV c ops.toList st oi with
 |none=>rw[hL]at h;exact h.elim
 |some q=>
  obtain⟨p,u⟩:=q;rw[hL]at h;obtain⟨w5,h⟩:=h;have fe:=adf (c:=c) (L:=ops.toList) (o:=oi) aN;rw[hL]at fe;have h:=h (ada fe aN w5);obtain⟨ha,hg⟩:=adu hD hp hL;rw[xc,adg ha hg hp.nm,bl.wp_map]at h;cases wU:dp oj.op with
  |true=>
   rcases hp.nl with ji|qh
   ·rw[<-xc,rq wU ji aN]at h;rw[rq wU ji aN];cases hJ:kV c ops.toList st oj with
    |none=>rw[hJ]at h;assumption
    |some q=>obtain⟨p',u'⟩:=q;rw[hJ]at h;refine⟨h.1,λsV=>⟨hD.zu gu wU FR hJ,?_⟩⟩;rw[rq hi nZ sV,FL (adx hD wU hp hJ),hL];exact⟨w5,h.2⟩
   ·obtain⟨t',x',gw⟩:∃t' x',oj.op= .load t' x':=by cases ho:oj.op<;>rw[ho]at qh<;>first|exact⟨_,_,rfl⟩|cases qh
    rw[xc];refine bl.wp_mono (λs hs=>?_) (bl.uY (S8 (L:=ops.toList) gw hp.nm) h);intro sV;refine⟨hD.ld gu qh FR hs.2,?_⟩;rw[rq hi nZ sV,FL (adB hp hs.2),hL];exact⟨w5,hs.1⟩
  |false=>
   rw[xc];cases jJ:xd oj.op with
   |false=>refine bl.wp_mono (λs hs=>?_) (bl.uY (K6 hc gu (L:=ops.toList) hD hp.nm) h);intro sV;refine⟨hD.K3 wU jJ FR hs.2,?_⟩;rw[rq hi nZ sV,FL (ady hD wU jJ hp hs.2),hL];exact⟨w5,hs.1⟩
   |true=>
    obtain⟨t',x',y',gw⟩:∃t' x' y',oj.op= .store t' x' y':=by cases ho:oj.op<;>rw[ho]at jJ<;>first|exact⟨_,_,_,rfl⟩|cases jJ
    refine bl.wp_mono (λs hs=>?_) (bl.uY (K0 (L:=ops.toList) gw hp.nm) h);intro sV;refine⟨hD.store gw FR hs.2,?_⟩;rw[rq hi nZ sV,FL (adC hD gw hp hs.2),hL];exact⟨w5,hs.1⟩
theorem Tf {c:bX} {ops:ang} {D:amX} {oi:Oper} (hi:dp oi.op=true) (nZ:jb c.ann oi.dst=false):R0 c ops D oi:=⟨λst G _ aN h=>by
 rw[rq hi nZ aN]at h;cases hL:kV c ops.toList st oi with
 |none=>rw[hL]at h;exact h.elim
 |some q=>obtain⟨p,u⟩:=q;rw[hL]at h;exact⟨_,h.2⟩⟩
end Go.Pv
namespace Go.Pv
open Go
def adD (ops:ang) (i:Nat) (dep:Nat->Bool):Prop:=∀j oj,ops[j]?=some oj->dep j=true->∃e∈oj.after,Region.binds .any e=true/\(e.on=i\/dep e.on=true)
theorem Tg {c:bX} {ops:ang} {K:amX} {D:amX} {i:Nat} {oi:Oper} (hi:ops[i]?=some oi) (hf:R0 c ops D oi) {dep:Nat->Bool} (Th:adD ops i dep):
 ∀(fuel:Nat) (bK:ant) (st:St),
  (∀j oj,ops[j]?=some oj->j≠i->bK.getD j true=false->dep j=false->Kx c ops D oi oj)->
  (∀k,bK.getD k false=true->dep k=false)->
  i∈Region.ready .any ops bK->D st->dk c ops.toList oi st (mh c ops K fuel (bK.setIfInBounds i true))->mh c ops K (fuel+1) bK st:=by
 intro fuel;induction fuel with
 |zero=>
  intro bK st _ _ hr hD H aN;refine⟨λh=>(by grind),λj hj oj dK=>?_⟩;by_cases oX:j=i
  ·grind
  ·obtain⟨s,hs⟩:=hf.some st _ hD aN H;have:=ready_mono hj oX;rw[hs.1]at this;grind
 |succ fuel ih=>
  intro bK st y7 Ti hr hD H aN;refine⟨λh=>(by grind),λj hj oj dK=>?_⟩;by_cases oX:j=i
  ·grind
  ·obtain⟨Tj,al7,qf,kP⟩:=mem_ready.1 hj;rw[dK]at qf;cases qf;have dv:dep j=false:=by
    cases K7:dep j with
    |false=>rfl
    |true=>
     obtain⟨e,he,hb,h⟩:=Th j oj dK K7;have h1:=kP e he hb;rcases h with h|h
     ·have h0:=(mem_ready.1 hr).1;grind
     grind
   have h1:dk c ops.toList oi st (λs=>cA c.T s->dk c ops.toList oj s (mh c ops K fuel ((bK.setIfInBounds i true).setIfInBounds j true))):=
    zm (λs hs rC=>(hs rC).2 j (ready_mono hj oX) oj dK) H
   have h2:=y7 j oj dK oX Tj dv st _ hD aN h1;have adE:∀k ok,ops[k]?=some ok->k≠i->(bK.setIfInBounds j true).getD k true=false->dep k=false->Kx c ops D oi ok:=λk ok hk adF m5 xf=>by
    refine y7 k ok hk adF ?_ xf;by_cases Cu:j=k
    all_goals simp_all
   have adG:∀k,(bK.setIfInBounds j true).getD k false=true->dep k=false:=λk hk=>by
    by_cases Cu:j=k
    all_goals simp_all
   refine zm (λs hs=>?_) h2;intro rC;obtain⟨adH,h3⟩:=hs rC;rw[alK _ _ (wb oX)]at h3;exact ih (bK.setIfInBounds j true) s adE adG (ready_mono hr (wb oX)) adH h3 rC
def va (c:bX) (L:amW):List Nat->(St->Prop)->St->Prop
 |[],K,st=>cA c.T st->K st
 |i::r,K,st=>cA c.T st->match L[i]?with|some o=>dk c L o st (va c L r K)|none=>False
def K8 (i:Nat):List Oper->Nat->List Bool->List Bool
 |[],_,acc=>acc
 |o::r,j,acc=>K8 i r (j+1) (acc++[o.after.any λe=>Region.binds .any e&&(Nat.beq e.on i||acc.getD e.on false)])
def FT (i:Nat) (dep:List Bool):List Oper->Nat->Bool
 |[],_=>true
 |o::r,j=>(!dep.getD j false||o.after.any λe=>Region.binds .any e&&(Nat.beq e.on i||dep.getD e.on false))&&FT i dep r (j+1)
theorem Tk {i:Nat} {dep:List Bool}:∀{L:amW} {n:Nat},FT i dep L n=true->∀j o,L[j]?=some o->dep.getD (n+j) false=true->∃e∈o.after,Region.binds .any e=true/\(e.on=i\/dep.getD e.on false=true)
 |[],n,_,j,o,h,_=>by grind
 |o0::r,n,h,j,o,ho,hd=>by
  simp only[FT,aB]at h;cases j with
  |zero=>
   simp only[lV,ae]at ho;subst ho;rw[jy]at hd;rw[hd]at h;simp only[qM,kM]at h;obtain⟨e,he,h1⟩:=Array.any_eq_true'.1 h.1;simp only[aB,iT]at h1;refine⟨e,he,h1.1,?_⟩;simp_all
  |succ j=>simp only[oC]at ho;exact Tk h.2 j o ho (by grind)
def FU (ann:amU) (tb:Tb) (L:amW) (oi:Oper) (i:Nat) (bK:ant) (dep:List Bool):List Oper->Nat->Bool
 |[],_=>true
 |o::r,j=>(Nat.beq j i||dep.getD j false||bK.getD j true||zv ann tb L oi o)&&(!bK.getD j false||!dep.getD j false)&&FU ann tb L oi i bK dep r (j+1)
theorem K9 {ann:amU} {tb:Tb} {L:amW} {oi:Oper} {i:Nat} {bK:ant} {dep:List Bool}:∀{l:amW} {n:Nat},FU ann tb L oi i bK dep l n=true->
 ∀j o,l[j]?=some o->(n+j≠i->dep.getD (n+j) false=false->bK.getD (n+j) true=false->zv ann tb L oi o=true)/\(bK.getD (n+j) false=true->dep.getD (n+j) false=false)
 |[],n,_,j,o,h=>by grind
 |o0::r,n,h,j,o,ho=>by
  simp only[FU,aB]at h;cases j with
  |zero=>
   simp only[lV,ae]at ho;subst ho;rw[jy];refine⟨λh1 h2 h3=>?_,λh1=>?_⟩
   all_goals simp_all
  |succ j=>simp only[oC]at ho;have:=K9 h.2 j o ho;grind
theorem adI {T:ay} {t:Nat} {a:S} {l:amT} (h:∀x∈l,eP T x):∀y∈l8 T t a l,eP T y:=by
 unfold l8;split
 ·split
  ·rename_i r hr;intro y hy;obtain⟨c,hc,rfl⟩:=aF.1 hy;exact(KT hr h).2 c hc
  omega
 omega
theorem Tl {st ar:St} (h:ar.aq=st.aq) (x:Operand):ev ar x=ev st x:=by
 have:∀t,ar.get t=st.get t:=λt=>by unfold St.get;rw[h]
 cases x<;>simp only[ev,this]
theorem adJ {T:ay} {d:amR} {t:Nat} {a v:S}:∃p:Prop,∀st K,(jn T none st d t a v).wp K↔p/\K st:=by
 have bad:(∀st,jn T none st d t a v= .bad)->∃p:Prop,∀st K,(jn T none st d t a v).wp K↔p/\K st:=λh=>⟨False,λst K=>by rw[h];simp[bl.wp]⟩
 cases d with
 |some _=>exact bad λst=>by rfl
 |none=>
  cases a with
  |one x=>
   cases x with
   |bz e rows i off=>
    cases hc:v.cells with
    |none=>exact bad λst=>by simp[jn,hc]
    |some xs=>
     cases h1:dh (base e)with
     |none=>exact bad λst=>by simp[jn,hc,h1]
     |some q=>
      obtain⟨q1,gs⟩:=q;cases h2:du (((T (base e)).drop off).take (T t).length) xs with
      |none=>exact bad λst=>by simp[jn,hc,h1,h2]
      |some r=>
       by_cases h3:bY e=true/\(off,(T t).length)∈gs/\t<1000/\(T t).isEmpty=false/\(T (src e)).isEmpty=false
       ·cases h4:(Nat.beq (src e) 1053&&Nat.beq off 9)with
        |false=>exact⟨T.G (src e) off r,λst K=>by simp only[jn,hc,h1,h2,aC h3,h4];rfl⟩
        |true=>exact⟨T.G (src e) off r/\pD r,λst K=>by simp only[jn,hc,h1,h2,aC h3,h4];rfl⟩
       ·exact bad λst=>by simp only[jn,hc,h1,h2,aQ h3]
   |_=>exact bad λst=>by simp[jn]
  |_=>exact bad λst=>by simp[jn]
inductive FV (c:bX) (L:amW) (o:Oper) (st:St) (rs:amG):Prop
 |ask (p:Prop) (h:∀ar,ar.aq=st.aq->∀K,dk c L o ar K↔p/\K ar)
 |put (b:Nat) (F:List X->Option (List X)) (hb:m8 st rs b)
  (h:∀ar,ar.aq=st.aq->∀K,dk c L o ar K↔∃l l',ar.boxes[b]?=some (some l)/\F l=some l'/\K (ar.bC b l'))
  (hf:cA c.T st->∀l l',(∀x∈l,eP c.T x)->F l=some l'->∀x∈l',eP c.T x)
theorem Tm {c:bX} {L:amW} {o:Oper} {st:St} {t:Nat} {x y:Operand} (ho:o.op= .store t x y) (hg:o.guard=none) (hm:hY c.ann o=none):FV c L o st (tmpsOf x):=by
 have key:∀ar,ar.aq=st.aq->∀K,dk c L o ar K↔(match Fj (ev st x)with|true=>jn c.T none ar o.dst t (ev st x) (ev st y)|false=>j5 c.T ar o.dst t (ev st x) (ev st y)).wp K:=by intro ar h K;unfold dk;rw[hg];dsimp only;unfold cy j6;rw[ho];dsimp only;rw[Tl h,Tl h,hm]<;>exact ez
 cases hs:Fj (ev st x)with
 |true=>rw[hs]at key;obtain⟨p,hp⟩:=adJ (T:=c.T) (d:=o.dst) (t:=t) (a:=ev st x) (v:=ev st y);exact .ask p λar h K=>(key ar h K).trans (hp ar K)
 |false=>
  rw[hs]at key;dsimp only at key;have bad:(∀ar,j5 c.T ar o.dst t (ev st x) (ev st y)= .bad)->FV c L o st (tmpsOf x):=λh=> .ask False λar h' K=>(key ar h' K).trans (by rw[h];simp[bl.wp]);cases hd:o.dst with
  |some _=>exact bad λar=>by simp[j5,hd]
  |none=>
   cases hb:(ev st x).bp with
   |none=>exact bad λar=>by simp[j5,hd,hb]
   |some q=>
    obtain⟨b,off⟩:=q;cases hc:(ev st y).cells with
    |none=>exact bad λar=>by simp[j5,hd,hb,hc]
    |some l0=>
     obtain⟨y0,iK,rn⟩:=zp hb;refine .put b (λl=>if l0.length=(c.T t).length/\off+l0.length<=l.length/\(c.T t).isEmpty=false/\t<1000 then some (gD l off (l8 c.T t (ev st x) l0))else none) (Cg (st:=st) (x:=x) (rs:=tmpsOf x) (λt ht=>ht) y0 iK b rn) (λar h K=>(key ar h K).trans ?_) (λaN l l' hl hF=>?_)
     ·simp only[j5,hd,hb,hc];cases cL:ar.boxes[b]?with
      |none=>simp[bl.wp]
      |some q=>
       cases q with
       |none=>simp[bl.wp]
       |some l=>
        dsimp only;by_cases hq:l0.length=(c.T t).length/\off+l0.length<=l.length/\(c.T t).isEmpty=false/\t<1000
        ·rw[aC hq];constructor
         ·intro hk;exact⟨l,_,rfl,aC hq,hk⟩
         ·rintro ⟨l1,l2,h1,h2,h3⟩;simp only[ae]at h1;subst h1;rw[aC hq]at h2;simp only[ae]at h2;subst h2;exact h3
        ·rw[aQ hq];constructor
         ·intro hk;exact hk.elim
         grind
     ·by_cases hq:l0.length=(c.T t).length/\off+l0.length<=l.length/\(c.T t).isEmpty=false/\t<1000
      ·rw[aC hq]at hF;simp only[ae]at hF;subst hF;intro z hz;rcases xb hz with hz|hz
       ·grind
       ·refine adI (λw hw=>?_) z hz;have h1:=FH aN y;cases he:ev st y with
        |one u=>rw[he]at h1 hc;cases u<;>simp[S.cells]at hc<;>subst hc<;>simp at hw<;>subst hw<;>exact h1
        |agg m=>rw[he]at h1 hc;simp[S.cells]at hc;subst hc;exact h1 w hw
        |bj m=>rw[he]at hc;simp[S.cells]at hc
      grind
theorem cA.bC {T:ay} {st:St} (h:cA T st) {b:Nat} {l:amT} (hl:∀x∈l,eP T x):cA T (st.bC b l):=by
 refine⟨h.aq,λl1 h1=>?_⟩;rcases oF h1 with h2|h2
 ·exact h.boxes l1 h2
 grind
theorem Tn {st:St} {b b':Nat} {l:amT} (h:b≠b'):(st.bC b l).boxes[b']?=st.boxes[b']?:=by simp only[St.bC];grind
theorem adK {st:St} {b b':Nat} {l l':amT} (h:b≠b'):(st.bC b l).bC b' l'=(st.bC b' l').bC b l:=by simp only[St.bC];rw[P6 _ _ h]
theorem adL {c:bX} {L:amW} {oi oj:Oper} {st:St} {ri rj:amG} (hi:FV c L oi st ri) (hj:FV c L oj st rj) (hd:∀b,m8 st ri b->m8 st rj b->False) (aN:cA c.T st) {G:amX}
 (h:dk c L oi st (λs=>cA c.T s->dk c L oj s G)):dk c L oj st (λs=>cA c.T s->dk c L oi s G):=by
 cases hi with
 |ask p hp=>
  obtain⟨h1,h2⟩:=(hp st rfl _).1 h;have h2:=h2 aN;cases hj with
  |ask q hq=>grind
  |put b F hb hq hf=>obtain⟨l,l',h3,h4,h5⟩:=(hq st rfl _).1 h2;exact(hq st rfl _).2 ⟨l,l',h3,h4,λ_=>(hp (st.bC b l') rfl _).2 ⟨h1,h5⟩⟩
 |put b F hb hp hf=>
  obtain⟨l,l',h3,h4,h5⟩:=(hp st rfl _).1 h;have h5:=h5 (aN.bC (hf aN l l' (aN.boxes l (aY h3)) h4));cases hj with
  |ask q hq=>obtain⟨h6,h7⟩:=(hq (st.bC b l') rfl _).1 h5;grind
  |put b' F' aR hq BN=>
   have al:b≠b':=λe=>by grind
   obtain⟨m,m',h6,h7,h8⟩:=(hq (st.bC b l') rfl _).1 h5;rw[Tn al]at h6;refine(hq st rfl _).2 ⟨m,m',h6,h7,λ_=>(hp (st.bC b' m') rfl _).2 ⟨l,l',?_,h4,?_⟩⟩
   ·rw[Tn (wb al)];omega
   ·rw[adK (wb al)];omega
def FW (ann:amU) (tb:Tb) (oi oj:Oper):Bool:=
 match oi.op,oj.op with
 | .store _ x _, .store _ x' _=>oi.guard.isNone&&oj.guard.isNone&&(hY ann oi).isNone&&(hY ann oj).isNone&&((tmpsOf x).flatMap tb.dX).all λb=>!((tmpsOf x').flatMap tb.dX).contains b
 |_,_=>false
theorem adM {c:bX} {L:amW} {tb:Tb} {oi oj:Oper} {st:St} (h:FW c.ann tb oi oj=true) (hD:tb.In st) (aN:cA c.T st) {G:amX}
 (hp:dk c L oi st (λs=>cA c.T s->dk c L oj s G)):dk c L oj st (λs=>cA c.T s->dk c L oi s G):=by
 unfold FW at h;split at h
 ·rename_i t x y t' x' y' h1 h2;simp only[aB,EE,aX,gy]at h;obtain⟨⟨⟨⟨g1,g2⟩,m1⟩,m2⟩,adN⟩:=h;refine adL (Tm h1 g1 m1) (Tm h2 g2 m2) (λb hb aR=>?_) aN hp;have dir:∀{rs:amG},m8 st rs b->b∈rs.flatMap tb.dX:=λ⟨t,ht,y,hy,hb⟩=>ba.2 ⟨t,ht,hD.slot t y b hy hb⟩;grind
 grind
def sW (ann:amU) (tb:Tb) (ops:ang) (L:amW):List Nat->Array Bool->Bool
 |[],bK=>(Region.ready .any ops bK).isEmpty
 |i::r,bK=>(match L[i]?with
  |some oi=>(match dp oi.op with
   |true=>(Region.ready .any ops bK).contains i&&!jb ann oi.dst&&(let dep:=K8 i L 0 [];FT i dep L 0&&FU ann tb L oi i bK dep L 0)
   |false=>(match Region.ready .any ops bK with
    |[k]=>Nat.beq k i&&(r.isEmpty||(hY ann oi).isNone)
    |[k,k']=>(match r with
     |[j]=>(Nat.beq k i&&Nat.beq k' j||Nat.beq k j&&Nat.beq k' i)&&(match L[j]?with|some oj=>FW ann tb oi oj|none=>false)&&(match Region.ready .any ops (bK.setIfInBounds j true)with|[k2]=>Nat.beq k2 i|_=>false)
     |_=>false)
    |_=>false))
  |none=>false)&&sW ann tb ops L r (bK.setIfInBounds i true)
theorem zw {c:bX} (hc:dT c) {ops:ang} {tb:Tb} (gu:qj c tb) (fb:ops.toList.all tb.closed=true) {K:amX}:∀{ord:amG} {bK:ant} {st:St},sW c.ann tb ops ops.toList ord bK=true->bK.size=ops.size->tb.In st->va c ops.toList ord K st->mh c ops K ord.length bK st
 |[],bK,st,h,_,_,hq=>by simp only[sW,ue]at h;exact⟨h,hq⟩
 |i::r,bK,st,h,cf,hD,hq=>by
  simp only[sW,aB]at h;obtain⟨h1,h2⟩:=h;cases ho:ops.toList[i]?with
  |none=>grind
  |some oi=>
   rw[ho]at h1;dsimp only at h1;have n5:ops[i]?=some oi:=by rw[<-jO];exact ho
   have vb:tb.closed oi=true:=aX.1 fb oi (aY ho);have wI:cA c.T st->dk c ops.toList oi st (mh c ops K r.length (bK.setIfInBounds i true)):=λaN=>by
    have hq:=hq aN;rw[ho]at hq;dsimp only at hq;cases hl:dp oi.op with
    |true=>
     have nZ:jb c.ann oi.dst=false:=by rw[hl]at h1;simp only[aB,gy]at h1;exact h1.1.2
     rw[rq hl nZ aN]at hq⊢;cases hL:kV c ops.toList st oi with
     |none=>rw[hL]at hq;assumption
     |some q=>obtain⟨p,u⟩:=q;rw[hL]at hq;exact⟨hq.1,zw hc gu fb h2 (by grind) (hD.zu gu hl vb hL) hq.2⟩
    |false=>
     rw[xc]at hq⊢;rcases Zx (r=[])with hr|hr
     ·subst hr;refine bl.wp_mono (λs hs=>?_) hq;simp only[sW,ue]at h2;exact⟨h2,hs⟩
     have gq:hY c.ann oi=none:=by
      rw[hl]at h1;dsimp only at h1;split at h1
      ·simp_all
      ·split at h1
       ·simp only[aB]at h1;obtain⟨⟨_,h3⟩,_⟩:=h1;split at h3
        ·unfold FW at h3;split at h3
         all_goals simp_all
        grind
       grind
      ·grind
     cases jJ:xd oi.op with
     |false=>refine bl.wp_mono (λs hs=>?_) (bl.uY (K6 hc gu (L:=ops.toList) hD gq) hq);exact zw hc gu fb h2 (by grind) (hD.K3 hl jJ vb hs.2) hs.1
     |true=>
      obtain⟨t',x',y',gw⟩:∃t' x' y',oi.op= .store t' x' y':=by cases ho:oi.op<;>rw[ho]at jJ<;>first|exact⟨_,_,_,rfl⟩|cases jJ
      refine bl.wp_mono (λs hs=>?_) (bl.uY (K0 (L:=ops.toList) gw gq) hq);exact zw hc gu fb h2 (by grind) (hD.store gw vb hs.2) hs.1
   cases hl:dp oi.op with
   |false=>
    rw[hl]at h1;dsimp only at h1;split at h1
    ·rename_i k hk;rw[aB]at h1;exact Ky n5 (by simp_all) wI
    ·rename_i k k' hk;split at h1
     ·rename_i j;simp only[aB,iT]at h1;obtain⟨⟨h1,h3⟩,h4⟩:=h1;split at h3
      ·rename_i oj dK;split at h4
       ·rename_i k2 dG;have dG:Region.ready .any ops (bK.setIfInBounds j true)=[i]:=by rw[dG,bt h4]
        have La:Region.ready .any ops ((bK.setIfInBounds j true).setIfInBounds i true)=[]:=by
         simp only[sW,aB,ue]at h2;by_cases To:i=j
         ·grind
         ·rw[alK _ _ (wb To)];grind
        have qf:ops[j]?=some oj:=by rw[<-jO];exact dK
        have adO:cA c.T st->dk c ops.toList oj st (mh c ops K 1 (bK.setIfInBounds j true)):=λaN=>by have hq:=hq aN;rw[ho]at hq;dsimp only at hq;refine zm (λs hs=>?_) (adM (G:=va c ops.toList [] K) h3 hD aN (zm (λs hs rC=>by have:=hs rC;grind) hq));exact Ky n5 dG (λrC=>zm (λs' cS=>⟨La,cS⟩) (hs rC))
        intro aN;refine⟨λh0=>(by grind),λm hm om FX=>?_⟩;rw[hk]at hm;have hm:m=i\/m=j:=by
         simp only[az,bL,bM]at hm;rcases h1 with h1|h1<;>have e1:=bt h1.1<;>have e2:=bt h1.2<;>subst e1<;>subst e2
         ·omega
         ·omega
        grind
       grind
      grind
     grind
    grind
   |true=>
    rw[hl]at h1;simp only[aB]at h1;obtain⟨⟨k1,kL⟩,k2,k3⟩:=h1;have kL:jb c.ann oi.dst=false:=by simpa using kL
    intro aN;have aj:∀j,ops.toList[j]?=none->ops[j]?=none:=λj hj=>by rw[<-jO];omega
    refine Tg n5 (Tf hl kL) (dep:=λj=>(K8 i ops.toList 0 []).getD j false) (λj oj dK hd=>?_) r.length bK st (λj oj dK oX m5 dv=>?_) (λk hk=>?_) (by grind) hD (wI aN) aN
    ·exact Tk k2 j oj (by grind) (by grind)
    ·have qf:ops.toList[j]?=some oj:=by rw[jO];exact dK
     have:=(K9 k3 j oj qf).1;rw[eI]at this;exact Te hc gu hl kL (aX.1 fb oj (aY qf)) (Td (this oX dv m5))
    ·rcases aT k ops.size with h'|h'
     ·have sV:ops.toList[k]?=some ops[k]:=by rw[jO];exact im h'
      have:=(K9 k3 k _ sV).2;grind
     grind
end Go.Pv
namespace Go.Pv
open Go
variable {T:ay} {E:Env} {w:World}
structure An where
 A:Type
 sh:A->St
 ok:A->Prop
 μ:A->Nat
def jq:=Nat->List Oper->St->(St->Prop)->Prop
structure Cl where
 af:Nat
 all:Bool
 d:Nat
 e:Nat
 g:Nat
def St.close (T:ay) (st:St) (c:Cl) (all:Bool):Option St:=
 match st.boxes[c.d]?with
 |some (some [])=>some (st.cls c.d (X.eK st.gen c.e c.d c.g []))
 |some (some l)=>
  (match all with
  |true=>
   (match jD (T c.e) (l.length/(T c.e).length) l with
   |some rows=>if l.length=rows.length*(T c.e).length/\rows.length=l.length/(T c.e).length then some (st.cls c.d (X.eK st.gen c.e c.d c.g rows))else none
   |none=>none)
  |false=>
   (match du (T c.e) l with
   |some r=>some (st.cls c.d (X.fY st.gen c.e c.d c.g r))
   |none=>none))
 |_=>some st
theorem Rel.close {P:Program} (hT:cr P T) {cx:Cx} {st ar:St} {a:Act} (h:Rel T cx st a w) {c:Cl} {all:Bool} (b0:c.e<1000) (hc:st.close T c all=some ar):Rel T cx ar a w:=by
 obtain⟨E,h⟩:=h;unfold St.close at hc;split at hc
 ·rename_i hb;simp only[ae]at hc;subst hc;exact⟨E,h.aa2 b0 hb⟩
 ·rename_i l al hb;have hl:l≠[]:=λe=>al e;split at hc
  ·split at hc
   ·rename_i rows hr;split at hc
    ·rename_i he;simp only[ae]at hc;subst hc;exact h.aa1 hT b0 hb hl (by grind) he.1
    grind
   grind
  ·split at hc
   ·rename_i r hr;simp only[ae]at hc;subst hc;exact h.aaY hT b0 hb hl hr
   grind
 ·simp only[ae]at hc;subst hc;exact⟨E,h⟩
def X.fin (k:Int):X->X
 | .own e g n rows=>bif Nat.beq e 1053&&(Nat.beq g 6053&&decide ((rows.length:Int)<=k))then .c (.sl 1553 rows)else .own e g n rows
 |x=>x
def St.kA (st:St) (f:X->X):St:={st with aq:=st.aq.map (S.bH f),boxes:=st.boxes.map (Option.map (List.map f))}
theorem aM.kA {cx:Cx} {st:St} {a:Act} (h:aM T cx E st a w) {f:X->X} (hj:f .aD= .aD) (hf:∀x u,RX T E w st.vw x u->RX T E w st.vw (f x) u):aM T cx E (st.kA f) a w:=by
 have uW:∀{id:Nat} {m:amT},(st.kA f).boxes[id]?=some (some m)->∃m0,st.boxes[id]?=some (some m0)/\m=m0.map f:=λ{id m} hm=>by
  simp only[St.kA,bP]at hm;cases hb:st.boxes[id]?with
  |none=>grind
  |some o=>
   cases o with
   |none=>grind
   |some m0=>grind
 have Tz:(st.kA f).vw=st.vw:=by
  unfold St.vw;congr 1;funext b;simp only[hasB,St.kA,bP];cases st.boxes[b]?with
  |none=>rfl
  |some o=>cases o with
   |none=>rfl
   |some m=>cases m<;>rfl
 refine⟨by simpa[St.kA]using h.len,λi s u hs hu=>?_,λid m hm hn=>?_,λid dt m m' qW uG cz mU he=>?_,h.defers,h.ext,⟨by simpa[St.kA]using h.fix.1,h.fix.2.1,λid m aE hm hn=>?_⟩,λid m aE hm hn cL=>?_,h.hi,h.so⟩
 ·rw[Tz];simp only[St.kA,bP]at hs;cases cS:st.aq[i]?with
  |none=>grind
  |some s'=>simp only[cS,cj,ae]at hs;subst hs;exact RS.bH (h.aq i s' u cS hu) (λx _ u hx=>hf x u hx) hj
 ·obtain⟨m0,jE,rfl⟩:=uW hm;obtain⟨c1,c2,bU,iD,c3,c4,c5⟩:=h.boxes id m0 jE (by grind);refine⟨c1,c2,bU,iD,c3,by grind,?_⟩;rw[dI,Tz];exact bF.bH c5 (λx _ u hx=>hf x u hx)
 ·obtain⟨m1,g1,rfl⟩:=uW qW;obtain⟨m2,g2,rfl⟩:=uW uG;exact h.inj id dt m1 m2 g1 g2 (by grind) (by grind) he
 ·obtain⟨m1,g1,rfl⟩:=uW hm;exact h.fix.2.2 id m1 aE g1 (by grind)
 ·obtain⟨m1,g1,rfl⟩:=uW hm;exact h.oI id m1 aE g1 (by grind) cL
theorem aM.fin {P:Program} (hT:cr P T) {cx:Cx} {st:St} {a:Act} (h:aM T cx E st a w) {g:Nat} {k:Int} (al:T 1053≠[]) (hg:st.iI g=some k):aM T cx E (st.kA (X.fin k)) a w:=by
 have Fk:∀j:Nat,(j:Int)<k->sm E.φ w E.fo.1 (E.fo.2+j*20):=by
  unfold St.iI at hg;split at hg
  ·rename_i k' hs;simp only[ae]at hg;subst hg;have aj:g<st.aq.length:=by
    rcases aT g st.aq.length with h'|h'
    ·omega
    ·simp[St.get,aZ,aW h']at hs
   have rl:st.aq[g]?=some (.one (.dn k')):=by simp only[St.get,aZ,aP aj,fh]at hs;rw[aP aj,hs]
   have hu:a.tmps[g]?=some (a.tmps[g]'(by rw[h.len];omega)):=im _;exact(h.aq g _ _ rl hu).2.2
  ·grind
 refine h.kA rfl λx u hx=>?_;unfold X.fin;split
 ·rename_i e gg n rows;cases hc:(Nat.beq e 1053&&(Nat.beq gg 6053&&decide ((rows.length:Int)<=k)))with
  |false=>grind
  |true=>
   simp only[aB]at hc;have he:=bt hc.1;have oO:=bt hc.2.1;have hk:=lW hc.2.2;subst he;obtain⟨h1,_,_,h4⟩:=hx;have h4:=h4 rfl oO;show aG T E.φ w (.sl 1553 rows) u;have ht:=hT.done;cases h1 with
   |nil=>exact .nil _
   |emp=>exact .emp _ _
   |sl e rows b off cap cs el fr val e0 gr hb cI cP dq hlen bV hv hr hs hl gA fB hd=>
    have h0:e0=1053:=hs.eq (by decide);subst h0;have hI:=h4 _ _ _ _ rfl;have iE:kk T 1053 1553 off=kk T 1053 1053 off:=by unfold kk;rw[ht]
    refine .sl 1553 rows b off cap cs el fr val 1053 gr hb (by grind) cP (by grind) hlen (by grind) (by grind) hr (.inl rfl)
     (λi j hi hj ha=>by grind)
     (λg=>absurd g (by decide)) (λg=>absurd g (by decide)) (λ_ i hi=>?_)
    obtain⟨pZ,_⟩:=ze hT al;have hd:=Fk i (by omega);rw[hI]at hd;obtain⟨d1,_,v,d2,d3⟩:=hd;have Fh:=hv i 9 hi (by omega);rw[pZ]at Fh;rw[jA hb]at d2;grind
 omega
def St.sX (st:St) (g:Nat):Bool:=match st.get g with| .one .aD=>false| .one _=>true|_=>false
theorem aM.adX {cx:Cx} {st:St} {a:Act} (h:aM T cx E st a w) {g:Nat} (hg:st.sX g=true):aM T cx E (st.put (some g) (.one (.dn 0))) a w:=by
 unfold St.sX at hg;split at hg
 ·grind
 ·rename_i x hx hs;have aj:g<st.aq.length:=by
   rcases aT g st.aq.length with h'|h'
   ·omega
   ·simp only[St.get,aZ,aW h',Option.getD_none]at hs;grind
  have rl:st.aq[g]?=some (.one x):=by simp only[St.get,aZ,aP aj,fh]at hs;rw[aP aj,hs]
  have hu:a.tmps[g]?=some (a.tmps[g]'(by rw[h.len];omega)):=im _;have hr:=RS.one (λe=>hx e) (h.aq g _ _ rl hu);exact h.RG hu ⟨RX.jW hr,⟨by decide,by decide⟩,λj hj=>by omega⟩
 grind
def mv (T:ay):List Cl->St->(St->Prop)->Prop
 |[],st,K=>K st
 |c::r,st,K=>
  match Nat.beq c.e 1553 with
  |true=>(match st.iI c.d with
   |some k=>(T 1053).isEmpty=false/\mv T r (st.kA (X.fin k)) K
   |none=>st.sX c.d=true/\mv T r (st.put (some c.d) (.one (.dn 0))) K)
  |false=>c.e<1000/\∃all,match st.close T c all with|some ar=>mv T r ar K|none=>False
theorem CE {P:Program} (hT:cr P T) {cx:Cx} {a:Act} {K:amX}:∀{l:List Cl} {st:St},Rel T cx st a w->mv T l st K->∃ar,K ar/\Rel T cx ar a w
 |[],st,h,hk=>⟨st,hk,h⟩
 |c::r,st,h,hk=>by
  simp only[mv]at hk;split at hk
  ·obtain⟨E,h⟩:=h;split at hk
   ·rename_i k hd;exact CE hT ⟨E,h.fin hT (by grind) hd⟩ hk.2
   ·exact CE hT ⟨E,h.adX hk.1⟩ hk.2
  obtain⟨b0,all,hk⟩:=hk;split at hk
  ·rename_i ar hc;exact CE hT (h.close hT b0 hc) hk
  grind
def cF (c:bX) (dr:jq) (cl:List Cl):Code->St->(Px->St->Prop)->Prop
 | .skip,st,Q=>Q .normal st
 | .region id ops draw,st,Q=>cA c.T st->mv c.T (cl.filter λx=>x.af==id+500000) st λst=>
  if draw then dr id ops.toList st (λs=>mv c.T (cl.filter λx=>x.af==id) s (Q .normal))else bE c ops.toList ops.toList st (λs=>mv c.T (cl.filter λx=>x.af==id) s (Q .normal))
 | .seq x y,st,Q=>
  (cF c dr cl x st λe ar=>match e with| .normal=>cF c dr cl y ar Q|e=>Q e ar)\/
  ∃an:An,(cF c dr cl x st λe ar=>match e with| .normal=>∃p,an.ok p/\wZ ar (an.sh p)|e=>Q e ar)/\∀p,an.ok p->cF c dr cl y (an.sh p) Q
 | .cond b x y,st,Q=>
  match ev st b with
  | .one (.c (.bool t))=>nK t (cF c dr cl x (jc st b true) Q) (cF c dr cl y (jc st b false) Q)
  |_=>False
 | .block id x,st,Q=>cF c dr cl x st λe ar=>match e with| .exit i=>if i=id then Q .normal ar else Q (.exit i) ar|e=>Q e ar
 | .loop x,st,Q=>
  ∃an:An,(∃p,an.ok p/\wZ st (an.sh p))/\
   ∀p,an.ok p->cF c dr cl x (an.sh p) λe ar=>match e with| .normal=>∃q,an.ok q/\an.μ q<an.μ p/\wZ ar (an.sh q)|e=>Q e ar
 | .exit id,st,Q=>Q (.exit id) st
 | .ret,st,Q=>Q .ret st
 |_,_,_=>False
def CF (c:bX) (dr:jq):Prop:=∀(id:Nat) (ops:ang) (cx:Cx) (K:amX) (st:St) (a:Act) (w:World) (Q:Exit->Act->World->Prop),Rel c.T cx st a w->dr id ops.toList st K->
 (∀a w,iF c.T cx K a w->Q .normal a w)->(Code.region id ops true).wp c.P Q a w
theorem sY {c:bX} {dr:jq} {cl:List Cl} (hc:dT c) (hd:CF c dr) {cx:Cx}:∀(code:Code) {st:St} {a:Act} {w:World} {Q:anc},Rel c.T cx st a w->cF c dr cl code st Q->code.wp c.P (Kq c.T cx Q) a w
 | .skip,st,a,w,Q,h,hk=>wp_skip ⟨st,hk,h⟩
 | .region id ops draw,st,a,w,Q,h,hk=>by
  simp only[cF]at hk;have fin:∀a w,iF c.T cx (λs=>mv c.T (cl.filter λx=>x.af==id) s (Q .normal)) a w->Kq c.T cx Q .normal a w:=by rintro a w ⟨ar,h1,h2⟩;exact CE hc.mf h2 h1
  obtain⟨st,hk,h⟩:=CE hc.mf h (hk h.ok);cases draw with
  |true=>exact hd id ops cx _ st a w _ h (by grind) fin
  |false=>exact ace hc h (by grind) fin
 | .seq x y,st,a,w,Q,h,hk=>by
  simp only[cF]at hk;refine wp_seq ?_;rcases hk with hk|⟨an,k1,k2⟩
  ·refine wp_mono (sY hc hd x h hk) λe a' w' hq=>?_;cases e with
   |normal=>obtain⟨ar,k',h'⟩:=hq;exact sY hc hd y h' k'
   |exit id=>exact hq
   |ret=>exact hq
   |goto l=>exact hq
   |panic ch=>exact hq
   |outgrown=>exact hq
  ·refine wp_mono (sY hc hd x h k1) λe a' w' hq=>?_;cases e with
   |normal=>obtain⟨ar,⟨p,hp,hl⟩,h'⟩:=hq;exact sY hc hd y (h'.le hl) (k2 p hp)
   |exit id=>exact hq
   |ret=>exact hq
   |goto l=>exact hq
   |panic ch=>exact hq
   |outgrown=>exact hq
 | .cond b x y,st,a,w,Q,h,hk=>by
  simp only[cF]at hk;split at hk
  ·rename_i t ht;obtain⟨E,hE⟩:=h;have hv:=dy hE b;rw[ht]at hv;have hv:=hv.bool;have lD:Rel c.T cx (jc st b t) a w:=by
    refine⟨E,?_⟩;cases b with
    |tmp s=>
     refine hE.jc ?_;simp only[Act.eval]at hv;rw[EA]at hv;cases hq:a.tmps[s]?with
     |none=>simp[hq,undef]at hv
     |some v=>grind
    |const v=>exact hE
    |global g=>exact hE
    |func f=>exact hE
   refine wp_cond_split hv (λe=>?_) (λe=>?_)
   ·subst e;exact sY hc hd x lD hk
   ·subst e;exact sY hc hd y lD hk
  grind
 | .block id x,st,a,w,Q,h,hk=>by
  simp only[cF]at hk;refine wp_block (wp_mono (sY hc hd x h hk) λe a' w' hq=>?_);cases e with
  |normal=>exact hq
  |exit i=>
   obtain⟨ar,k',h'⟩:=hq;simp only[Exit.inBlock];split
   ·rename_i e;simp only[e,cJ]at k';exact⟨ar,k',h'⟩
   ·rename_i e;simp only[e,py]at k';exact⟨ar,k',h'⟩
  |ret=>exact hq
  |goto l=>exact hq
  |panic ch=>exact hq
  |outgrown=>exact hq
 | .loop x,st,a,w,Q,h,hk=>by
  simp only[cF]at hk;obtain⟨an,⟨p,hp,hl⟩,adY⟩:=hk
  ·have key:∀n (p:an.A) a w,an.μ p=n->an.ok p->Rel c.T cx (an.sh p) a w->∀(b:Frame) (k:List Item) (cs:List Frame),
    ∃e a' w',Kq c.T cx Q e a' w'/\Arrives c.P (lone (b.at a (.code x:: .inLoop x::k)) cs w) b k cs e a' w':=by
    intro n;induction n using Nat.strongRecOn with
    |_ n ih=>
     intro p a w hn hp hr b k cs;obtain⟨e,Ll,Lm,hq,CG⟩:=sY hc hd x hr (adY p hp) b (.inLoop x::k) cs;cases e with
     |normal=>obtain⟨ar,⟨q,adZ,al8,ad0⟩,h'⟩:=hq;obtain⟨ad1,ad2,ad3,ad4,ad5⟩:=ih (an.μ q) (by omega) q Ll Lm rfl adZ (h'.le ad0) b k cs;exact⟨ad1,ad2,ad3,ad4, .of_steps (Steps.trans CG (.one step_inLoop)) ad5⟩
     |exit id=>exact⟨.exit id,Ll,Lm,hq, .pass (x:= .inLoop x) rfl (λ_ _=> .inl (by simp)) CG⟩
     |goto l=>exact hq.elim
     |ret=>exact⟨.ret,Ll,Lm,hq, .pass (x:= .inLoop x) rfl (λ_ _=> .inl (by simp)) CG⟩
     |panic ch=>exact hq.elim
     |outgrown=>exact hq.elim
   intro b k cs;obtain⟨e,a',w',hq,CG⟩:=key _ p a w rfl hp (h.le hl) b k cs;exact⟨e,a',w',hq, .of_steps (.one step_loop) CG⟩
 | .exit id,st,a,w,Q,h,hk=>wp_exit ⟨st,hk,h⟩
 | .ret,st,a,w,Q,h,hk=>wp_ret ⟨st,hk,h⟩
 | .rangeFunc _ _ _ _,_,_,_,_,_,hk=>hk.elim
 | .scope _,_,_,_,_,_,hk=>hk.elim
 | .label _,_,_,_,_,_,hk=>hk.elim
 | .goto _,_,_,_,_,_,hk=>hk.elim
 | .refuse _,_,_,_,_,_,hk=>hk.elim
def zx (P:Program) (T:ay) (fn:Func) (n k:Nat) (new:Bool) (sp:Sp):Px->St->Prop:=λe st=>
 match e with
 | .exit _=>False
 |_=>(new=true->st.aq[k]?=some (.one (.ptr k 0)))/\∃ps,eV P T st fn.results.toList=some ps/\∃x,sp.post x/\sN st.gen (w4 ps) ((sp.res x).bH (X.outer fn.ntmps n k))/\
  sO st.gen (w6 st fn.ntmps n k new) ((sp.bx x).map (List.map (X.outer fn.ntmps n k)))
theorem ad6 {P:Program} {fn:Func} {n k:Nat} {new:Bool} {sp:Sp} {px:Px} {st:St} (Ln:px= .normal\/px= .ret) (h:zx P T fn n k new sp px st):
 (new=true->st.aq[k]?=some (.one (.ptr k 0)))/\∃ps,eV P T st fn.results.toList=some ps/\∃x,sp.post x/\sN st.gen (w4 ps) ((sp.res x).bH (X.outer fn.ntmps n k))/\
  sO st.gen (w6 st fn.ntmps n k new) ((sp.bx x).map (List.map (X.outer fn.ntmps n k))):=by
 rcases Ln with rfl|rfl<;>exact h
theorem TA {c:bX} {dr:jq} {cl:List Cl} (hc:dT c) (hd:CF c dr) {f:FuncId} {fn:Func} {code:Code} (hf:c.P.funcs[f]?=some fn) (hb:fn.body=some code) {ss:amZ} {bs:anb} {sp:Sp}
 (k:Nat) (new:Bool) (lD:k<fn.ntmps) (hlen:ss.length<=fn.ntmps) (Fi:sp.tight bs.length new)
 (hk:sp.side->cF c dr cl code (St.start fn ss bs) (zx c.P c.T fn bs.length k new sp)):iG c.P c.T f ss bs sp:=by
 intro jG E w vals cf BU nc ad7 wA B3 ir;let E0:Env:={E with β:=λi=>E.β (i-fn.ntmps),ο:=λi=>E.ο (i-fn.ntmps)}
 let cx:Cx:=⟨E.φ,E.κ,w,E0.β,E0.ο,fn.ntmps,E.fo⟩
 have cL:∀b l,(St.start fn ss bs).boxes[b]?=some (some l)->fn.ntmps<=b/\b<fn.ntmps+bs.length:=by
  intro b l hl;simp only[St.start]at hl;rcases aT b fn.ntmps with h'|h'
  ·grind
  ·grind
 have TB:∀{x:X} {u:Value},RX c.T E w ⟨λb=>decide (b<bs.length),λ_=>0⟩ x u->RX c.T E0 w (St.start fn ss bs).vw (x.shift fn.ntmps) u:=by
  intro x u hx;cases x with
  |ptr i off=>
   obtain⟨h1,h2,h3,rfl⟩:=hx;simp only[eN]at h1;refine⟨?_,?_,?_,?_⟩
   ·refine mQ (l:=(bs[i]).map (X.shift fn.ntmps)) ?_ (by simp_all);simp only[St.start];grind
   all_goals grind
  |cd i off=>exact RX.jW (x:= .cd i off) hx
  |cn e i rows=>exact RX.jW (x:= .cn e i rows) hx
  |cq e i n=>exact RX.jW (x:= .cq e i n) hx
  |own e g n rows=>assumption
  |_=>exact hx
 have Lo:∀(id:Nat) l,(St.start fn ss bs).boxes[id]?=some (some l)->∃l0,fn.ntmps<=id/\bs[id-fn.ntmps]?=some l0/\l=l0.map (X.shift fn.ntmps):=by
  intro id l hl;have h1:=cL id l hl;simp only[St.start]at hl;rw[jR (by grind)]at hl;simp only[ZA,bP]at hl;cases hq:bs[id-fn.ntmps]?with
  |none=>grind
  |some l0=>grind
 have Kh:aM c.T cx E0 (St.start fn ss bs) {tmps:=vals++Array.replicate (fn.ntmps-vals.size) undef,defers:=[]} w:=by
  refine⟨by simp[St.start,cf],λi s u hs hu=>?_,λid l hl hn=>?_,λid dt l l' hl bA hn eS he=>?_,rfl,⟨rfl,rfl,rfl,rfl,dQ.refl _ _,λb _ hf=>⟨λ_=>rfl,rfl,hf⟩,wA⟩,
   ⟨by simp[St.start,cx];omega,λ_ _=>⟨rfl,rfl⟩,λ_ _ _ _ _=>⟨rfl,rfl⟩⟩,λid l aE hl=>?_,⟨ir.zero,ir.rows⟩,λb g _ hg _=>⟨hg,rfl⟩⟩
  ·simp only[St.start]at hs;rcases aT i ss.length with h'|h'
   ·rw[jQ (by grind),bP]at hs;rw[Jn (by omega)]at hu;rw[aP h']at hs;simp only[cj,ae]at hs;subst hs;exact RS.bH (BU i _ u (aP h') hu) (λx _ v hv=>TB hv) rfl
   ·rw[jR (by grind),PZ]at hs;split at hs
    ·simp only[ae]at hs;subst hs;trivial
    grind
  ·obtain⟨l0,h1,h2,rfl⟩:=Lo id l hl;obtain⟨b1,b2,cs,el,b3,b5,b4⟩:=nc _ l0 h2 (by grind);refine⟨b1,b2,cs,el,b3,by grind,?_⟩;rw[dI];exact b4.bH λx _ v hv=>TB hv
  ·grind
  ·grind
 refine calls_of_wp hf hb ?_;refine wp_mono (sY hc hd code ⟨E0,Kh⟩ (hk jG)) λe a' w' hq=>?_;have fin:∀(ar:St) (px:Px),(px= .normal\/px= .ret)->zx c.P c.T fn bs.length k new sp px ar->Rel c.T cx ar a' w'->
  a'.defers=[]/\∃v,(results fn a'.tmps).run c.P w'= .ok v w'/\∃v' x E',Ending.returned v= .returned v'/\sp.post x/\
   RS c.T E' w' ⟨λb=>decide (b<(sp.bx x).length),λ_=>0⟩ (sp.res x) v'/\
   (∀(i:Nat) l,(sp.bx x)[i]?=some l->By c.T E' w' ⟨λb=>decide (b<(sp.bx x).length),λ_=>0⟩ i l)/\bs.length<=(sp.bx x).length/\
   (∀i,i<bs.length->E'.β i=E.β i/\E'.ο i=E.ο i/\E'.κ (E.β i)=E.κ (E.β i)/\E'.φ (E.β i)=E.φ (E.β i))/\(∀i,bs.length<=i->i<(sp.bx x).length->w.heap.size<=E'.β i)/\Ext ⟨E.φ,E.κ,w,E.β,E.ο,0,E.fo⟩ E' w'/\
   HI c.T E' w'/\∀b g,b<w.heap.size->E.κ b= .row g->5000<=g->E'.κ b= .row g/\E'.φ b=E.φ b:=by
  intro ar px Ln hr CH;obtain⟨E1,jK⟩:=CH;have bR:=ad6 Ln hr;obtain⟨uE,ps,fR,x,hx,wH,hI⟩:=bR;obtain⟨v,sZ,zy⟩:=ab4 hc.mf jK fR;obtain⟨t1,t2,t3⟩:=Fi x;let E':Env:={E1 with β:=λi=>if i<bs.length then E1.β (fn.ntmps+i)else E1.β k,ο:=λi=>if i<bs.length then E1.ο (fn.ntmps+i)else E1.ο k}
  have fN:∀i,i<bs.length->E'.β i=E1.β (fn.ntmps+i)/\E'.ο i=E1.ο (fn.ntmps+i):=λi hi=>by grind
  have nX:new=true->E'.β bs.length=E1.β k/\E'.ο bs.length=E1.ο k:=λ_=>by grind
  obtain⟨o1,o2⟩:=RR hI;have Lp:∀(i:Nat) l,(sp.bx x)[i]?=some l->∃l0,(w6 ar fn.ntmps bs.length k new)[i]?=some (some l0)/\fc ar.gen l0 (l.map (X.outer fn.ntmps bs.length k)):=
   λi l hl=>o2 i _ (by grind)
  have ma:∀(i:Nat) l0,(w6 ar fn.ntmps bs.length k new)[i]?=some (some l0)->∃id,ar.boxes[id]?=some (some l0)/\(E'.β i=E1.β id/\E'.ο i=E1.ο id)/\((i<bs.length/\id=fn.ntmps+i)\/(new=true/\i=bs.length/\id=k)):=by
   intro i l0 hl;unfold w6 at hl;rcases aT i bs.length with h'|h'
   ·rw[jQ (by grind),bP,iS h']at hl;grind
   ·grind
  refine⟨jK.defers,v,sZ,v,x,E',rfl,hx,by rw[t1.1];exact ab5 fN nX rfl rfl rfl wH zy t2,λi l hl hn=>?_,by omega,λi hi=>?_,λi h1 h2=>?_,?_,⟨jK.hi.zero,jK.hi.rows⟩,λb g hb hg h5=>jK.so b g hb hg h5⟩
  ·obtain⟨l0,g1,g2⟩:=Lp i l hl;obtain⟨id,g3,g4,_⟩:=ma i l0 g1;have hlen:=uR g2;rw[dI]at hlen;obtain⟨b1,b2,cs,el,b3,b5,b4⟩:=jK.boxes id l0 g3 (by grind);rw[t1.1];refine⟨by grind,by grind,cs,el,by grind,by omega,?_⟩;rw[g4.2,<-hlen];exact Cc fN nX rfl rfl rfl g2 b4 (t3 l (aY hl))
  ·obtain⟨f1,f2⟩:=jK.fix.2.1 (fn.ntmps+i) (by grind);obtain⟨q1,q2⟩:=fN i hi;have c1:cx.β (fn.ntmps+i)=E.β i:=by simp[cx,E0]
   have c2:cx.ο (fn.ntmps+i)=E.ο i:=by simp[cx,E0]
   have TC:i<(sp.bx x).length:=by have:=t1.1;omega
   obtain⟨l0,g1,g2⟩:=Lp i _ (aP TC);obtain⟨id,g3,_,g5⟩:=ma i l0 g1;have aE:id=fn.ntmps+i:=by
    rcases g5 with⟨_,g5⟩|⟨_,g5,_⟩
    ·omega
    ·omega
   subst aE;have hlen:=uR g2;rw[dI]at hlen;have dc:l0≠[]:=by rintro rfl;exact t1.2 _ (fz TC) (jz.1 hlen.symm)
   obtain⟨k1,k2⟩:=jK.fix.2.2 _ l0 (by grind) g3 dc;grind
  ·have hi:i<(sp.bx x).length:=h2;obtain⟨l0,g1,g2⟩:=Lp i _ (aP hi);obtain⟨id,g3,g4,g5⟩:=ma i l0 g1;rcases g5 with⟨g5,_⟩|⟨hn,rfl,rfl⟩
   ·omega
   ·rw[g4.1];have hlen:=uR g2;rw[dI]at hlen;have dc:l0≠[]:=by rintro rfl;exact t1.2 _ (fz hi) (jz.1 hlen.symm)
    have fP:=uE hn;have jr:id<a'.tmps.size:=by
     rw[jK.len];rcases aT id ar.aq.length with h'|h'
     ·omega
     ·grind
    have ad8:=jK.aq id _ _ fP (im jr);exact jK.oI _ l0 lD g3 dc ad8.2.1
  ·exact⟨jK.ext.os,jK.ext.tape,jK.ext.output,jK.ext.fo,jK.ext.mono,jK.ext.dB,jK.ext.fresh⟩
 cases e with
 |normal=>obtain⟨ar,hr,CH⟩:=hq;exact fin ar .normal (.inl rfl) hr CH
 |ret=>obtain⟨ar,hr,CH⟩:=hq;exact fin ar .ret (.inr rfl) hr CH
 |exit id=>obtain⟨ar,hr,_⟩:=hq;assumption
 |goto l=>assumption
 |panic ch=>exact hq.elim
 |outgrown=>exact hq.elim
theorem rE {c:bX} {dr:jq} {cl:List Cl} (hc:dT c) (hd:CF c dr) {f:FuncId} {fn:Func} {fs:dw} (k:Nat)
 (hf:c.P.funcs[f]?=some fn) (hn:(fn.name== "runtime.NumGoroutine")=false) (hb:fn.body.isNone=false) (hk:k<fn.ntmps)
 (h:∀ss bs sp,fs.sp ss bs=some sp->ss.length<=fn.ntmps/\sp.tight bs.length fs.new/\(sp.side->cF c dr cl (iJ fn) (St.start fn ss bs) (zx c.P c.T fn bs.length k fs.new sp))):
 zl c.P c.T f fs:=by
 refine⟨⟨fn,hf,hn,hb⟩,λss bs sp ct=>?_⟩;obtain⟨h1,h2,h3⟩:=h ss bs sp ct;exact⟨TA hc hd hf (RV hb) k fs.new hk h1 h2 h3,λx=>(h2 x).1⟩
abbrev anp:=List Cl
end Go.Pv
namespace Go.Pv
open Go
noncomputable def Lq {α:Type} (l:List α):List α:=List.rec (motive:=λ_=>List α) [] (λ_ r _=>List.rec (motive:=λ_=>List α) [] (λ_ r _=>List.rec (motive:=λ_=>List α) [] (λ_ r _=>List.rec (motive:=λ_=>List α) [] (λ_ r _=>List.rec (motive:=λ_=>List α) [] (λ_ r _=>List.rec (motive:=λ_=>List α) [] (λ_ r _=>List.rec (motive:=λ_=>List α) [] (λ_ r _=>List.rec (motive:=λ_=>List α) [] (λ_ r _=>r) r) r) r) r) r) r) r) l
theorem ad9 {α:Type}:∀l:List α,Lq l=l.drop 8
 |[]=>rfl
 |[_]=>rfl
 |[_,_]=>rfl
 |[_,_,_]=>rfl
 |[_,_,_,_]=>rfl
 |[_,_,_,_,_]=>rfl
 |[_,_,_,_,_,_]=>rfl
 |[_,_,_,_,_,_,_]=>rfl
 |_::_::_::_::_::_::_::_::_=>rfl
noncomputable def CI {α:Type} (l:List α) (k:Nat):List α:=Nat.rec (motive:=λ_=>List α) l (λ_ ih=>Lq ih) k
theorem CA {α:Type} (l:List α):∀k,CI l k=l.drop (8*k)
 |0=>rfl
 |k+1=>by show Lq (CI l k)=_;rw[ad9,CA l k,P0];congr 1
theorem F3 (n:Nat):8*Nat.div n 8+Nat.mod n 8=n:=Jm n 8
noncomputable def Lr {α:Type} (d:α) (l:List α):Nat->α:=List.rec (motive:=λ_=>Nat->α) (λ_=>d) (λx _ ih n=>Nat.rec (motive:=λ_=>α) x (λm _=>ih m) n) l
theorem TD {α:Type} (d:α):∀(l:List α) (n:Nat),Lr d l n=l.getD n d
 |[],n=>by rfl
 |x::r,0=>rfl
 |x::r,n+1=>TD d r n
noncomputable def vf {α:Type} (d:α) (l:List α) (n:Nat):α:=Lr d (CI l (Nat.div n 8)) (Nat.mod n 8)
theorem TE {α:Type} (d:α) (l:List α) (n:Nat):vf d l n=l.getD n d:=by unfold vf;rw[TD,CA,aZ,fa,F3,<-aZ]
noncomputable def Ls {α:Type} (l:List α):Nat->Option α:=List.rec (motive:=λ_=>Nat->Option α) (λ_=>none) (λx _ ih n=>Nat.rec (motive:=λ_=>Option α) (some x) (λm _=>ih m) n) l
theorem TF {α:Type}:∀(l:List α) (n:Nat),Ls l n=l[n]?
 |[],n=>by rfl
 |x::r,0=>rfl
 |x::r,n+1=>TF r n
noncomputable def je {α:Type} (l:List α) (n:Nat):Option α:=Ls (CI l (Nat.div n 8)) (Nat.mod n 8)
theorem gF {α:Type} (l:List α) (n:Nat):je l n=l[n]?:=by unfold je;rw[TF,CA,fa,F3]
noncomputable def TG {α:Type} (v:α) (l:List α):Nat->List α:=List.rec (motive:=λ_=>Nat->List α) (λ_=>[]) (λx r ih n=>Nat.rec (motive:=λ_=>List α) (v::r) (λm _=>x::ih m) n) l
theorem TH {α:Type} (v:α):∀(l:List α) (n:Nat),TG v l n=l.set n v
 |[],n=>rfl
 |x::r,0=>rfl
 |x::r,n+1=>by have:=TH v r n;exact ll (x:: ·) this
noncomputable def Lt {α:Type} (K:List α->List α) (l:List α):List α:=List.rec (motive:=λ_=>List α) [] (λx r _=>x::(λl=>List.rec (motive:=λ_=>List α) [] (λx r _=>x::(λl=>List.rec (motive:=λ_=>List α) [] (λx r _=>x::(λl=>List.rec (motive:=λ_=>List α) [] (λx r _=>x::(λl=>List.rec (motive:=λ_=>List α) [] (λx r _=>x::(λl=>List.rec (motive:=λ_=>List α) [] (λx r _=>x::(λl=>List.rec (motive:=λ_=>List α) [] (λx r _=>x::(λl=>List.rec (motive:=λ_=>List α) [] (λx r _=>x::(λl=>K l) r) l) r) l) r) l) r) l) r) l) r) l) r) l) r) l
theorem aea {α:Type} (v:α) (n:Nat):∀l:List α,Lt (λl=>l.set n v) l=l.set (n+8) v
 |[]=>rfl
 |[_]=>rfl
 |[_,_]=>rfl
 |[_,_,_]=>rfl
 |[_,_,_,_]=>rfl
 |[_,_,_,_,_]=>rfl
 |[_,_,_,_,_,_]=>rfl
 |[_,_,_,_,_,_,_]=>rfl
 |a::b::c::d::e::f::g::h::r=>rfl
noncomputable def Lu {α:Type} (v:α) (j k:Nat):List α->List α:=Nat.rec (motive:=λ_=>List α->List α) (λl=>TG v l j) (λ_ ih=>Lt ih) k
theorem TI {α:Type} (v:α) (j:Nat):∀(k:Nat),Lu v j k=λl=>l.set (j+8*k) v
 |0=>funext λl=>TH v l j
 |k+1=>by show Lt (Lu v j k)=_;rw[TI v j k];funext l;rw[aea];rfl
noncomputable def CJ {α:Type} (v:α) (l:List α) (n:Nat):List α:=Lu v (Nat.mod n 8) (Nat.div n 8) l
theorem vg {α:Type} (v:α) (l:List α) (n:Nat):CJ v l n=l.set n v:=by unfold CJ;rw[TI,Bm,F3]
noncomputable def Lv {α:Type} (l K:List α):List α:=List.rec (motive:=λ_=>List α) K (λa _ ih=>a::ih) l
theorem TJ {α:Type} (K:List α):∀l:List α,Lv l K=l++K
 |[]=>rfl
 |a::l=>ll (a:: ·) (TJ K l)
noncomputable def F4 {α β:Type} (g:α->List β) (K:List β) (l:List α):List β:=List.rec (motive:=λ_=>List β) K (λx _ ih=>Lv (g x) ih) l
theorem Lw {α β:Type} (g:α->List β) (K:List β):∀l:List α,F4 g K l=l.flatMap g++K
 |[]=>rfl
 |x::l=>by show Lv (g x) (F4 g K l)=_;rw[TJ,Lw g K l,mN,Qg]
def b9 (μ:Nat->Int):List (Nat×Int)->Int
 |[]=>0
 |p::r=>p.2*μ p.1+b9 μ r
structure aa where
 c:Int
 l:List (Nat×Int)
 deriving DecidableEq
def aa.den (μ:Nat->Int) (e:aa):Int:=e.c+b9 μ e.l
def oa (a:Nat) (k:Int):List (Nat×Int)->List (Nat×Int)
 |[]=>if k=0 then[]else[(a,k)]
 |p::r=>
  match Nat.blt a p.1,Nat.beq a p.1 with
  |true,_=>if k=0 then p::r else(a,k)::p::r
  |false,true=>if p.2+k=0 then r else(a,p.2+k)::r
  |false,false=>p::oa a k r
def vh (x y:ano):List (Nat×Int):=x.foldr (λp acc=>oa p.1 p.2 acc) y
def aa.const (c:Int):aa:=⟨c,[]⟩
def aa.atom (a:Nat):aa:=⟨0,[(a,1)]⟩
def aa.add (x y:aa):aa:=⟨x.c+y.c,vh x.l y.l⟩
def aa.smul (k:Int) (x:aa):aa:=if k=0 then⟨0,[]⟩else⟨k*x.c,x.l.map λp=>(p.1,k*p.2)⟩
def aa.neg (x:aa):aa:=x.smul (-1)
def aa.sub (x y:aa):aa:=x.add y.neg
def aa.bI (x:aa) (k:Int):aa:=⟨x.c+k,x.l⟩
theorem Lx (μ:Nat->Int) (a:Nat) (k:Int):∀l,b9 μ (oa a k l)=k*μ a+b9 μ l
 |[]=>by
  unfold oa;split
  ·grind
  rfl
 |p::r=>by
  unfold oa;split
  ·split
   ·grind
   rfl
  ·rename_i h;have h:a=p.1:=bt h;split
   ·rename_i h2;have:p.2=-k:=by omega
    simp only[b9,this,<-h,ZE];omega
   ·simp only[b9,<-h,Qh];omega
  ·simp only[b9,Lx μ a k r];omega
theorem TK (μ:Nat->Int):∀x y,b9 μ (vh x y)=b9 μ x+b9 μ y
 |[],y=>by simp[vh,b9]
 |p::r,y=>by have:vh (p::r) y=oa p.1 p.2 (vh r y):=rfl;rw[this,Lx,TK μ r y];simp only[b9];omega
theorem TL (μ:Nat->Int) (k:Int):∀x,b9 μ (x.map λp=>(p.1,k*p.2))=k*b9 μ x
 |[]=>by simp[b9]
 |p::r=>by simp only[bu,b9,TL μ k r,wc,ZF]
theorem cg (μ:Nat->Int) (c:Int):(aa.const c).den μ=c:=by simp[aa.den,aa.const,b9]
theorem TM (μ:Nat->Int) (a:Nat):(aa.atom a).den μ=μ a:=by simp[aa.den,aa.atom,b9]
theorem den_add (μ:Nat->Int) (x y:aa):(x.add y).den μ=x.den μ+y.den μ:=by simp only[aa.den,aa.add,TK];omega
theorem s5 (μ:Nat->Int) (k:Int) (x:aa):(x.smul k).den μ=k*x.den μ:=by
 unfold aa.smul;split
 ·rename_i h;subst h;simp[aa.den,b9]
 ·simp only[aa.den,TL,wc]
theorem eu (μ:Nat->Int) (x:aa):x.neg.den μ=-x.den μ:=by rw[aa.neg,s5];omega
theorem br (μ:Nat->Int) (x y:aa):(x.sub y).den μ=x.den μ-y.den μ:=by rw[aa.sub,den_add,eu];omega
theorem cO (μ:Nat->Int) (x:aa) (k:Int):(x.bI k).den μ=x.den μ+k:=by simp only[aa.den,aa.bI];omega
def aa.lt (n:Nat) (e:aa):Prop:=∀p∈e.l,p.1<64*n
theorem Ly {a:Nat} {k:Int} {q:Nat×Int}:∀{l},q∈oa a k l->q.1=a\/∃p∈l,q.1=p.1
 |[],h=>by
  unfold oa at h;grind
 |p::r,h=>by
  unfold oa at h;split at h
  ·grind
  ·grind
  ·simp only[az]at h;rcases h with h|h
   ·grind
   ·rcases Ly h with h'|⟨p',h1,h2⟩
    all_goals grind
theorem TN {q:Nat×Int}:∀{x y},q∈vh x y->(∃p∈x,q.1=p.1)\/∃p∈y,q.1=p.1
 |[],y,h=> .inr ⟨q,h,rfl⟩
 |p::r,y,h=>by
  have:vh (p::r) y=oa p.1 p.2 (vh r y):=rfl;rw[this]at h;rcases Ly h with h'|⟨p',h1,h2⟩
  ·grind
  ·rcases TN h1 with⟨Lz,h3,h4⟩|⟨Lz,h3,h4⟩
   all_goals grind
theorem dY (n:Nat) (c:Int):(aa.const c).lt n:=λp hp=>by cases hp
theorem aeb {n x m:Nat} (h:x<n) (hm:m<64):(aa.atom (64*x+m)).lt n:=λp hp=>by simp[aa.atom]at hp;grind
theorem nd {n:Nat} {x y:aa} (hx:x.lt n) (hy:y.lt n):(x.add y).lt n:=λp hp=>by
 rcases TN hp with⟨q,h1,h2⟩|⟨q,h1,h2⟩
 ·rw[h2];exact hx q h1
 ·rw[h2];exact hy q h1
theorem xi {n:Nat} {x:aa} (k:Int) (hx:x.lt n):(x.smul k).lt n:=λp hp=>by
 unfold aa.smul at hp;split at hp
 ·grind
 ·simp only[aF]at hp;obtain⟨q,h1,h2⟩:=hp;rw[<-h2];exact hx q h1
theorem kY {n:Nat} {x:aa} (hx:x.lt n):x.neg.lt n:=xi _ hx
theorem cX {n:Nat} {x y:aa} (hx:x.lt n) (hy:y.lt n):(x.sub y).lt n:=nd hx (kY hy)
theorem gS {n:Nat} {x:aa} (k:Int) (hx:x.lt n):(x.bI k).lt n:=hx
theorem bg {n m:Nat} {x:aa} (h:n<=m) (hx:x.lt n):x.lt m:=λp hp=>by have:=hx p hp;omega
theorem F5 {μ ν:Nat->Int}:∀{l:ano},(∀p∈l,μ p.1=ν p.1)->b9 μ l=b9 ν l
 |[],_=>rfl
 |p::r,h=>by simp only[b9];rw[h p (by simp),F5 λq hq=>h q (by grind)]
theorem vi {μ ν:Nat->Int} {e:aa} {n:Nat} (he:e.lt n) (h:∀a,a<64*n->μ a=ν a):e.den μ=e.den ν:=by simp only[aa.den];rw[F5 λp hp=>h _ (he p hp)]
def aJ (μ:Nat->Int) (Γ:List aa):Prop:=∀f∈Γ,0<=f.den μ
def Entails (Γ:List aa) (g:aa):Prop:=∀μ,aJ μ Γ->0<=g.den μ
abbrev Cert:=List (Nat×Nat)
abbrev ff:=List (Nat×Nat×Nat)
noncomputable def o6 (a p n:Nat) (t:ff) (K:ff->ff):ff:=
 List.rec (motive:=λ_=>ff) ((a,p,n)::K []) (λb t ih=>Bool.rec (motive:=λ_=>ff) (Bool.rec (motive:=λ_=>ff) (b::ih) ((a,Nat.add b.2.1 p,Nat.add b.2.2 n)::K t) (Nat.beq a b.1)) ((a,p,n)::K (b::t)) (Nat.ble (Nat.succ a) b.1)) t
theorem aec (a p n:Nat) (b:Nat×Nat×Nat) (t:ff) (K:ff->ff):o6 a p n (b::t) K=match Nat.blt a b.1 with
 |true=>(a,p,n)::K (b::t)
 |false=>match Nat.beq a b.1 with
  |true=>(a,Nat.add b.2.1 p,Nat.add b.2.2 n)::K t
  |false=>b::o6 a p n t K:=by
 show Bool.rec (motive:=λ_=>ff) (Bool.rec (motive:=λ_=>ff) (b::o6 a p n t K) _ (Nat.beq a b.1)) _ (Nat.blt a b.1)=_;cases Nat.blt a b.1<;>cases Nat.beq a b.1<;>rfl
noncomputable def xj (m:Nat) (l:ano):ff->ff:=
 List.rec (motive:=λ_=>ff->ff) (λacc=>acc) (λq _ ih acc=>Int.rec (motive:=λ_=>ff) (λx=>o6 q.1 (Nat.mul m x) 0 acc ih) (λx=>o6 q.1 0 (Nat.mul m (Nat.succ x)) acc ih) q.2) l
theorem aed (m:Nat) (q:Nat×Int) (r:ano) (acc:ff):xj m (q::r) acc=match q.2 with
 | .ofNat x=>o6 q.1 (Nat.mul m x) 0 acc (xj m r)
 | .negSucc x=>o6 q.1 0 (Nat.mul m (Nat.succ x)) acc (xj m r):=by
 show Int.rec (motive:=λ_=>ff) _ _ q.2=_;cases q.2<;>rfl
noncomputable def s6 (m:Nat) (l:ano):ff->ff:=
 List.rec (motive:=λ_=>ff->ff) (λacc=>acc) (λq _ ih acc=>Int.rec (motive:=λ_=>ff) (λx=>o6 q.1 0 (Nat.mul m x) acc ih) (λx=>o6 q.1 (Nat.mul m (Nat.succ x)) 0 acc ih) q.2) l
theorem aee (m:Nat) (q:Nat×Int) (r:ano) (acc:ff):s6 m (q::r) acc=match q.2 with
 | .ofNat x=>o6 q.1 0 (Nat.mul m x) acc (s6 m r)
 | .negSucc x=>o6 q.1 (Nat.mul m (Nat.succ x)) 0 acc (s6 m r):=by
 show Int.rec (motive:=λ_=>ff) _ _ q.2=_;cases q.2<;>rfl
noncomputable def xk (l:ff):Bool:=List.rec (motive:=λ_=>Bool) true (λq _ ih=>Bool.rec (motive:=λ_=>Bool) false ih (Nat.beq q.2.1 q.2.2)) l
theorem aef (q:Nat×Nat×Nat) (r:ff):xk (q::r)=match Nat.beq q.2.1 q.2.2 with|true=>xk r|false=>false:=by show Bool.rec (motive:=λ_=>Bool) false (xk r) (Nat.beq q.2.1 q.2.2)=_;cases Nat.beq q.2.1 q.2.2<;>rfl
noncomputable def F0 {α:Type} (l:List α):Nat->List α:=List.rec (motive:=λ_=>Nat->List α) (λ_=>[]) (λx r ih n=>Nat.rec (motive:=λ_=>List α) (x::r) (λm _=>ih m) n) l
theorem TO {α:Type}:∀{l:List α} {n:Nat} {x:α},x∈F0 l n->x∈l
 |[],_,_,h=>h
 |_::_,0,_,h=>h
 |_::r,n+1,_,h=>lX _ (TO (l:=r) (n:=n) h)
noncomputable def ve {α:Type} (l:List α) (n:Nat):List α:=F0 (CI l (Nat.div n 8)) (Nat.mod n 8)
theorem TP {α:Type} {l:List α} {n:Nat} {x:α} (h:x∈ve l n):x∈l:=by have h1:=TO h;rw[CA]at h1;grind
noncomputable def LB {α:Type} (l:List α) (k:Nat):List α:=Nat.rec (motive:=λ_=>List α) l (λ_ ih=>ve ih 32) k
noncomputable def dx {α:Type} (l:List α) (i:Nat):List α:=ve (LB l (Nat.div i 32)) (Nat.mod i 32)
theorem TQ {α:Type} {l:List α}:∀{k:Nat} {x:α},x∈LB l k->x∈l
 |0,_,h=>h
 |k+1,_,h=>TQ (k:=k) (TP (l:=LB l k) (n:=32) h)
noncomputable def xl (Γ:List aa) (c:Cert):ff->Nat->Nat->Nat->Bool:=
 List.rec (motive:=λ_=>ff->Nat->Nat->Nat->Bool) (λacc p n k=>Bool.rec (motive:=λ_=>Bool) false (xk acc) (Nat.ble (Nat.succ n) (Nat.add p k)))
  (λq _ ih acc p n k=>List.rec (motive:=λ_=>Bool) false (λf _ _=>Int.rec (motive:=λ_=>Bool) (λx=>ih (s6 q.2 f.l acc) p (Nat.add n (Nat.mul q.2 x)) k) (λx=>ih (s6 q.2 f.l acc) (Nat.add p (Nat.mul q.2 (Nat.succ x))) n k) f.c) (dx Γ q.1)) c
theorem aeg (Γ:List aa) (acc:ff) (p n k:Nat):xl Γ [] acc p n k=match Nat.blt n (Nat.add p k)with|true=>xk acc|false=>false:=by show Bool.rec (motive:=λ_=>Bool) false (xk acc) (Nat.blt n (Nat.add p k))=_;cases Nat.blt n (Nat.add p k)<;>rfl
theorem aeh (q:Nat×Nat) (c:Cert) (Γ:List aa) (acc:ff) (p n k:Nat):xl Γ (q::c) acc p n k=match dx Γ q.1 with
 |f::_=>(match f.c with
  | .ofNat x=>xl Γ c (s6 q.2 f.l acc) p (Nat.add n (Nat.mul q.2 x)) k
  | .negSucc x=>xl Γ c (s6 q.2 f.l acc) (Nat.add p (Nat.mul q.2 (Nat.succ x))) n k)
 |[]=>false:=by
 show List.rec (motive:=λ_=>Bool) false _ (dx Γ q.1)=_;cases dx Γ q.1 with
 |nil=>rfl
 |cons f r=>
  show Int.rec (motive:=λ_=>Bool) _ _ f.c=match f.c with| .ofNat x=>_| .negSucc x=>_
  cases f.c<;>rfl
noncomputable def LC (Γ:List aa) (g:aa) (c:Nat×Cert):Bool:=
 match g.c with
 | .ofNat x=>xl Γ c.2 (xj (Nat.succ c.1) g.l []) (Nat.mul (Nat.succ c.1) x) 0 (Nat.succ c.1)
 | .negSucc x=>xl Γ c.2 (xj (Nat.succ c.1) g.l []) 0 (Nat.mul (Nat.succ c.1) (Nat.succ x)) (Nat.succ c.1)
def ic (μ:Nat->Int):List (Nat×Nat×Nat)->Int
 |[]=>0
 |q::r=>((q.2.1:Int)-q.2.2)*μ q.1+ic μ r
theorem LD {μ:Nat->Int} {a p n:Nat} {v:Int} {K:List (Nat×Nat×Nat)->List (Nat×Nat×Nat)} (hK:∀t,ic μ (K t)=ic μ t+v):∀t,ic μ (o6 a p n t K)=ic μ t+((p:Int)-n)*μ a+v
 |[]=>by show ic μ ((a,p,n)::K [])=_;simp only[ic,hK];omega
 |b::t=>by
  rw[aec];split
  ·simp only[ic,hK];omega
  ·split
   ·rename_i h;have e:=bt h;subst e;simp only[ic,hK,Nat.add_eq,EJ];grind
   ·simp only[ic,LD hK t];omega
theorem LF {μ:Nat->Int} {m:Nat}:∀(l:ano) (acc:List (Nat×Nat×Nat)),ic μ (xj m l acc)=ic μ acc+m*b9 μ l
 |[],acc=>by show ic μ acc=_;simp[b9]
 |q::r,acc=>by
  have ih:∀t,ic μ (xj m r t)=ic μ t+m*b9 μ r:=λt=>LF r t;rw[aed];split<;>rename_i x hx<;>rw[LD ih]<;>simp only[b9,hx,wc,<-ZF]
  all_goals grind
theorem LG {μ:Nat->Int} {m:Nat}:∀(l:ano) (acc:List (Nat×Nat×Nat)),ic μ (s6 m l acc)=ic μ acc-m*b9 μ l
 |[],acc=>by show ic μ acc=_;simp[b9]
 |q::r,acc=>by
  have ih:∀t,ic μ (s6 m r t)=ic μ t+-(m*b9 μ r):=λt=>by rw[LG r t];omega
  rw[aee];split<;>rename_i x hx<;>rw[LD ih]<;>simp only[b9,hx,wc,<-ZF]
  all_goals grind
theorem TR {μ:Nat->Int}:∀{l:List (Nat×Nat×Nat)},xk l=true->ic μ l=0
 |[],_=>rfl
 |q::r,h=>by
  rw[aef]at h;split at h
  ·rename_i e;have e:=bt e;simp only[ic,TR h,e];simp
  grind
theorem F6 {μ:Nat->Int} {Γ:List aa} (LH:aJ μ Γ):∀{c:Cert} {acc:ff} {p n k:Nat},xl Γ c acc p n k=true->-(k:Int)<(p:Int)-n+ic μ acc
 |[],acc,p,n,k,h=>by
  rw[aeg]at h;split at h
  ·rename_i hb;have hb:n<p+k:=by have:=fy hb;exact this
   rw[TR h];omega
  grind
 |q::r,acc,p,n,k,h=>by
  rw[aeh]at h;split at h
  ·rename_i f Δ hf;have h1:=LH f (TQ (TP (n:=Nat.mod q.1 32) (show f∈dx Γ q.1 by grind)));have h2:0<=(q.2:Int)*f.den μ:=Int.mul_nonneg (g9 _) h1;simp only[aa.den,wc]at h2;split at h
   ·rename_i x hx;have h3:=F6 LH h;rw[LG]at h3;grind
   ·rename_i x hx;have h3:=F6 LH h;rw[LG]at h3;simp only[hx,Nat.add_eq,yF,EJ,yG,Qi,Jq,Qj,wc,Int.mul_one]at h2 h3;omega
  grind
theorem aei {Γ:List aa} {g:aa} {c:Nat×Cert} (h:LC Γ g c=true):Entails Γ g:=by
 intro μ rF;have key:-((c.1+1:Nat):Int)<((c.1+1:Nat):Int)*g.den μ:=by
  unfold LC at h;split at h
  ·rename_i x hx;have:=F6 rF h;rw[LF]at this;simp only[ic,yF,Jq,yG]at this;simp only[aa.den,hx,wc,Jp];omega
  ·rename_i x hx;have:=F6 rF h;rw[LF]at this;simp only[ic,yF,Jq,yG]at this;simp only[aa.den,hx,wc,Qi,Qj,EJ]at this⊢;omega
 rcases Int.lt_or_le (g.den μ) 0 with hg|hg
 ·have h2:((c.1+1:Nat):Int)*g.den μ<=((c.1+1:Nat):Int)*(-1):=Int.mul_le_mul_of_nonneg_left (by omega) (g9 _);omega
 omega
abbrev Ask (σ:Type):=Bool->List aa->aa->σ->Bool×σ
def ca {σ:Type} (ask:Ask σ):Prop:=∀o Γ g s s',ask o Γ g s=(true,s')->Entails Γ g
noncomputable def F7:Ask (List (Nat×Cert)):=λ_ Γ g cs=>
 match cs with
 |[]=>(false,[])
 |c::r=>(LC Γ g c,r)
theorem TS:ca F7:=by
 intro o Γ g s s' h;unfold F7 at h;split at h
 ·grind
 ·simp only[bT]at h;exact aei h.1
def gT {σ:Type} (ask:Ask σ) (Γ:List aa) (g:aa) (k:σ->Option σ) (s:σ):Option σ:=
 match ask false Γ g s with
 |(true,s')=>k s'
 |(false,_)=>none
def may {σ:Type} (ask:Ask σ) (Γ:List aa) (g:aa) (k:Bool->σ->Option σ) (s:σ):Option σ:=
 match ask true Γ g s with
 |(b,s')=>k b s'
theorem ix {σ:Type} {ask:Ask σ} (ha:ca ask) {Γ:List aa} {g:aa} {k:σ->Option σ} {s s':σ} (h:gT ask Γ g k s=some s'):
 Entails Γ g/\∃s1,k s1=some s':=by
 unfold gT at h;split at h
 ·rename_i s1 h1;exact⟨ha _ _ _ _ _ h1,s1,h⟩
 grind
theorem qn {σ:Type} {ask:Ask σ} (ha:ca ask) {Γ:List aa} {g:aa} {k:Bool->σ->Option σ} {s s':σ} (h:may ask Γ g k s=some s'):
 ∃b s1,k b s1=some s'/\(b=true->Entails Γ g):=by
 unfold may at h;split at h;rename_i b s1 h1;exact⟨b,s1,h,λhb=>ha _ _ _ _ _ (by rw[h1,hb])⟩
def lF {σ:Type} (ask:Ask σ) (Γ:List aa):List aa->(σ->Option σ)->σ->Option σ
 |[],k,s=>k s
 |g::r,k,s=>gT ask Γ g (λs'=>lF ask Γ r k s') s
theorem mw {σ:Type} {ask:Ask σ} (ha:ca ask) {Γ:List aa}:∀{gs:List aa} {k:σ->Option σ} {s s':σ},lF ask Γ gs k s=some s'->
 (∀g∈gs,Entails Γ g)/\∃s1,k s1=some s'
 |[],k,s,s',h=>⟨λg hg=>((by cases hg)),s,h⟩
 |g::r,k,s,s',h=>by
  obtain⟨h1,s1,h2⟩:=ix ha h;obtain⟨h3,h4⟩:=mw ha h2;grind
abbrev amY:=List aa
abbrev ani:=List (Nat×Nat×aa)
end Go.Pv
namespace Go.Pv
open Go
noncomputable section
def qm {β:Type} (n:Nat) (k:Nat->β):β:=Nat.rec (motive:=λ_=>β) (k 0) (λm _=>k (Nat.succ m)) n
def Cv {β:Type} (b:Bool) (k:Bool->β):β:=Bool.rec (motive:=λ_=>β) (k false) (k true) b
theorem Cw {β:Type} (n:Nat) (k:Nat->β):qm n k=k n:=by cases n<;>rfl
theorem Tp {β:Type} (b:Bool) (k:Bool->β):Cv b k=k b:=by cases b<;>rfl
def oY (m j:Nat):Bool:=Nat.beq (Nat.land (Nat.shiftRight m j) 1) 0
theorem Cy (m j:Nat):oY m j=!m.testBit j:=by
 unfold oY Nat.testBit;rw[show Nat.land (Nat.shiftRight m j) 1=1&&&(m>>>j)from Nat.and_comm _ _];cases h:1&&&(m>>>j)with
 |zero=>rfl
 |succ n=>rfl
def ib (l:amG):Nat:=List.rec (motive:=λ_=>Nat) 0 (λx _ ih=>Nat.lor (Nat.shiftLeft 1 x) ih) l
theorem Lb:∀{l:amG} {x:Nat},x∈l->(ib l).testBit x=true
 |[],_,h=>by cases h
 |y::r,x,h=>by
  show(Nat.lor (Nat.shiftLeft 1 y) (ib r)).testBit x=true;rw[show Nat.lor (Nat.shiftLeft 1 y) (ib r)=(1<<<y)|||ib r from rfl,Qe,ZB];rcases az.1 h with rfl|h
  ·grind
  ·rw[Lb h,Bool.or_true]
theorem Lc:∀{l:amG} {x:Nat},(ib l).testBit x=true->x∈l
 |[],x,h=>by simp[ib]at h
 |y::r,x,h=>by
  have h:(Nat.lor (Nat.shiftLeft 1 y) (ib r)).testBit x=true:=h;rw[show Nat.lor (Nat.shiftLeft 1 y) (ib r)=(1<<<y)|||ib r from rfl,Qe,ZB,Nat.testBit_two_pow,iT,eN]at h;rcases h with rfl|h
  ·grind
  ·exact lX _ (Lc h)
theorem Tq {a b x:Nat} (h:Nat.beq (Nat.land a b) 0=true) (ha:a.testBit x=true) (hb:b.testBit x=true):False:=by
 have e:a&&&b=0:=bt h;have:(a&&&b).testBit x=true:=by rw[Qf,ha,hb];rfl
 grind
theorem Tr {l:amG} {s x:Nat} (h:x∈l):(Nat.lor (ib l) s).testBit x=true:=by rw[show Nat.lor (ib l) s=ib l|||s from rfl,Qe,Lb h,Qb]
structure Sm where
 a:Nat
 x:Nat
 y:Nat
 l:Bool
 q:Bool
def vc (o:Oper):List Nat:=(o.after.toList.filter (Region.binds .any)).map (·.on)
def pos (k:Nat) (l:amG):List Nat:=l.map λb=>Nat.add (Nat.add 64 k) (Nat.mul 8 b)
def mq (ann:amU) (tb:Tb) (L:amW) (o:Oper):List Nat:=
 pos 0 (aV o.op++mn L o++o.dst.toList)++(pos 1 o.dst.toList++((match mo o.op with|true=>pos 2 o.dst.toList|false=>[])++((match o.op with| .load .. =>pos 3 ((aV o.op).flatMap tb.dX)|_=>[])++
  ((match ry ann o with|true=>pos 4 [0]|false=>[])++pos 5 [0]))))
def mr (ann:amU) (tb:Tb) (L:amW) (o:Oper):List Nat:=
 pos 0 o.dst.toList++(pos 1 (aV o.op++mn L o)++(pos 2 (tb.iw (aV o.op))++(pos 3 (match dp o.op with|true=>(match mo o.op with|true=>o.dst.toList|false=>[])|false=>o.dst.toList++tb.tc o)++
  ((match dp o.op with|true=>[]|false=>pos 4 [0])++(match jb ann o.dst&&!qk o.op||!(hY ann o).isNone with|true=>pos 5 [0]|false=>[])))))
def vd (ann:amU) (tb:Tb) (L:amW) (o:Oper) (j:Nat):Sm:=
 ⟨ib (vc o),Nat.lor (ib (mq ann tb L o)) (Nat.shiftLeft j 32),Nat.lor (ib (mr ann tb L o)) j,dp o.op&&!jb ann o.dst,(hY ann o).isNone&&(!dp o.op||qk o.op)⟩
def oZ (ann:amU) (tb:Tb) (L:amW) (l:amW):Nat->List Sm:=List.rec (motive:=λ_=>Nat->List Sm) (λ_=>[]) (λo _ ih j=>vd ann tb L o j::ih (Nat.succ j)) l
def Ld {β:Type} (l:List Sm):(List Sm->β)->β:=
 List.rec (motive:=λ_=>(List Sm->β)->β) (λk=>k []) (λs _ ih k=>qm s.a λa=>qm s.x λx=>qm s.y λy=>Cv s.l λl=>Cv s.q λq=>ih λr=>k (⟨a,x,y,l,q⟩::r)) l
theorem Ts {β:Type}:∀(l:List Sm) (k:List Sm->β),Ld l k=k l
 |[],_=>rfl
 |s::r,k=>by show qm s.a (λa=>qm s.x λx=>qm s.y λy=>Cv s.l λl=>Cv s.q λq=>Ld r λr=>k (⟨a,x,y,l,q⟩::r))=_;rw[Cw,Cw,Cw,Tp,Tp,Ts r]
theorem Lf {ann:amU} {tb:Tb} {L:amW}:∀{l:amW} {n j:Nat},(oZ ann tb L l n)[j]?=(l[j]?).map λo=>vd ann tb L o (n+j)
 |[],n,j=>by rfl
 |o::r,n,0=>rfl
 |o::r,n,j+1=>by show(oZ ann tb L r (n+1))[j]?=_;rw[Lf (l:=r),oC,show n+1+j=n+(j+1)by omega]
def rD (S:List Sm) (m i:Nat):Nat->Bool:=
 List.rec (motive:=λ_=>Nat->Bool) (λ_=>true) (λs _ ih j=>Bool.rec (motive:=λ_=>Bool) (ih (Nat.succ j)) (Bool.rec (motive:=λ_=>Bool) (Bool.rec (motive:=λ_=>Bool) (ih (Nat.succ j)) false (Nat.beq (Nat.land s.a m) s.a)) (ih (Nat.succ j)) (Nat.beq j i)) (oY m j)) S
theorem FY {m i:Nat}:∀{S:List Sm} {n:Nat},rD S m i n=true->∀j s,S[j]?=some s->m.testBit (n+j)=false->Nat.land s.a m=s.a->n+j=i
 |[],n,_,j,s,h,_,_=>by grind
 |s0::r,n,h,j,s,hs,hb,ha=>by
  have h:Bool.rec (motive:=λ_=>Bool) (rD r m i (n+1)) (Bool.rec (motive:=λ_=>Bool) (Bool.rec (motive:=λ_=>Bool) (rD r m i (n+1)) false (Nat.beq (Nat.land s0.a m) s0.a)) (rD r m i (n+1)) (Nat.beq n i)) (oY m n)=true:=h;cases j with
  |zero=>
   simp only[lV,ae]at hs;subst hs;rw[jy]at hb⊢;rw[Cy,hb]at h;rw[ha,Qd]at h;cases hn:Nat.beq n i with
   |true=>simp_all
   |false=>simp_all
  |succ j=>
   simp only[oC]at hs;have h':rD r m i (n+1)=true:=by
    cases h1:oY m n<;>rw[h1]at h
    ·exact h
    ·cases h2:Nat.beq n i<;>rw[h2]at h
     ·cases h3:Nat.beq (Nat.land s0.a m) s0.a<;>rw[h3]at h
      all_goals grind
     omega
   have:=FY h' j s hs (by grind) ha;omega
def Lg (S:List Sm) (b:Nat):Nat->Nat->Nat:=
 List.rec (motive:=λ_=>Nat->Nat->Nat) (λ_ acc=>acc) (λs _ ih j acc=>Bool.rec (motive:=λ_=>Nat) (ih (Nat.succ j) (Nat.lor acc (Nat.shiftLeft 1 j))) (ih (Nat.succ j) acc) (Nat.beq (Nat.land s.a (Nat.lor acc b)) 0)) S
def xg (S:List Sm) (dep db ex x:Nat):Nat->Bool:=
 List.rec (motive:=λ_=>Nat->Bool) (λ_=>true) (λs _ ih j=>Bool.rec (motive:=λ_=>Bool) (Bool.rec (motive:=λ_=>Bool) (ih (Nat.succ j)) false (Nat.beq (Nat.land s.a db) 0))
  (Bool.rec (motive:=λ_=>Bool) (ih (Nat.succ j)) (Bool.rec (motive:=λ_=>Bool) false (ih (Nat.succ j)) (Nat.beq (Nat.land x s.y) 0)) (oY ex j)) (oY dep j)) S
theorem Tt {dep db ex x:Nat}:∀{S:List Sm} {n:Nat},xg S dep db ex x n=true->∀j s,S[j]?=some s->
 (dep.testBit (n+j)=true->Nat.land s.a db≠0)/\(dep.testBit (n+j)=false->ex.testBit (n+j)=false->Nat.beq (Nat.land x s.y) 0=true)
 |[],n,_,j,s,h=>by grind
 |s0::r,n,h,j,s,hs=>by
  have h:Bool.rec (motive:=λ_=>Bool) (Bool.rec (motive:=λ_=>Bool) (xg r dep db ex x (n+1)) false (Nat.beq (Nat.land s0.a db) 0))
   (Bool.rec (motive:=λ_=>Bool) (xg r dep db ex x (n+1)) (Bool.rec (motive:=λ_=>Bool) false (xg r dep db ex x (n+1)) (Nat.beq (Nat.land x s0.y) 0)) (oY ex n)) (oY dep n)=true:=h
  cases j with
  |zero=>
   simp only[lV,ae]at hs;subst hs;rw[jy];refine⟨λhd e=>?_,λhd he=>?_⟩
   ·rw[Cy dep n,hd,e]at h;cases h
   ·rw[Cy dep n,Cy ex n,hd,he]at h;cases hx:Nat.beq (Nat.land x s0.y) 0 with
    |true=>rfl
    |false=>simp_all
  |succ j=>
   simp only[oC]at hs;have h':xg r dep db ex x (n+1)=true:=by
    cases h1:oY dep n<;>rw[h1]at h
    ·cases h2:Nat.beq (Nat.land s0.a db) 0<;>rw[h2]at h
     all_goals grind
    ·cases h2:oY ex n<;>rw[h2]at h
     ·exact h
     ·cases h3:Nat.beq (Nat.land x s0.y) 0<;>rw[h3]at h
      all_goals grind
   have:=Tt h' j s hs;grind
def Lh (S:List Sm) (m i:Nat) (last:Bool) (s:Sm):Bool:=
 Bool.rec (motive:=λ_=>Bool) false (Bool.rec (motive:=λ_=>Bool) false
  (Bool.rec (motive:=λ_=>Bool) (Bool.rec (motive:=λ_=>Bool) false (rD S m i 0) (last||s.q))
   (qm (Lg S (Nat.shiftLeft 1 i) 0 0) λdep=>Bool.rec (motive:=λ_=>Bool) false (xg S dep (Nat.lor dep (Nat.shiftLeft 1 i)) (Nat.lor m (Nat.shiftLeft 1 i)) s.x 0) (Nat.beq (Nat.land m dep) 0)) s.l)
  (Nat.beq (Nat.land s.a m) s.a)) (oY m i)
def Li (S:List Sm) (ord:amG):Nat->Bool:=
 List.rec (motive:=λ_=>Nat->Bool) (λm=>rD S m S.length 0) (λi r ih m=>List.rec (motive:=λ_=>Bool) false (λs _ _=>Bool.rec (motive:=λ_=>Bool) false (qm (Nat.lor m (Nat.shiftLeft 1 i)) ih) (Lh S m i r.isEmpty s)) (ve S i)) ord
theorem adP {o:Oper} {e:Edge} (he:e∈o.after) (hb:Region.binds .any e=true):e.on∈vc o:=
 aF.2 ⟨e,ki.2 ⟨ZC.2 he,hb⟩,rfl⟩
theorem Tu {o:Oper} {k:Nat} (h:k∈vc o):∃e∈o.after,Region.binds .any e=true/\e.on=k:=by obtain⟨e,h1,h2⟩:=aF.1 h;grind
theorem adQ {a m x:Nat} (h:Nat.land a m=a) (hx:a.testBit x=true):m.testBit x=true:=by have h:a&&&m=a:=h;grind
theorem adR {l:amG} {m:Nat} (h:∀x∈l,m.testBit x=true):Nat.land (ib l) m=ib l:=by
 show ib l&&&m=ib l;refine Nat.eq_of_testBit_eq λx=>?_;rw[Qf];cases hx:(ib l).testBit x with
 |false=>rfl
 |true=>rw[h x (Lc hx)];rfl
theorem Lj (m i x:Nat):(Nat.lor m (Nat.shiftLeft 1 i)).testBit x=(m.testBit x||decide (i=x)):=by rw[show Nat.lor m (Nat.shiftLeft 1 i)=m|||1<<<i from rfl,Qe,ZB,Nat.testBit_two_pow]
theorem Tv {k b:Nat} {l:amG} (h:b∈l):64+k+8*b∈pos k l:=aF.2 ⟨b,h,rfl⟩
theorem adS {ann:amU} {tb:Tb} {L:amW} {oi oj:Oper} {i j:Nat} (h:Nat.beq (Nat.land (vd ann tb L oi i).x (vd ann tb L oj j).y) 0=true) {x:Nat} (h1:x∈mq ann tb L oi) (h2:x∈mr ann tb L oj):False:=
 Tq h (Tr h1) (Tr h2)
theorem Cz {d:amR} {l:amG} (h:∀x∈d.toList,x∉l):m9 d l=false:=by
 cases d with
 |none=>rfl
 |some a=>
  simp only[m9];grind
theorem adT {ann:amU} {tb:Tb} {L:amW} {oi oj:Oper} {i j:Nat} (h:Nat.beq (Nat.land (vd ann tb L oi i).x (vd ann tb L oj j).y) 0=true):zv ann tb L oi oj=true:=by
 have D:=λ{x}=>adS h (x:=x);have m0:∀{k b:Nat} {l l':amG},b∈l->b∈l'->(∀x,x∈pos k l->x∈mq ann tb L oi)->(∀x,x∈pos k l'->x∈mr ann tb L oj)->False:=λhb aR h1 h2=>D (h1 _ (Tv hb)) (h2 _ (Tv aR));have x0:∀x,x∈pos 0 (aV oi.op++mn L oi++oi.dst.toList)->x∈mq ann tb L oi:=λx hx=>by unfold mq;grind
 have x1:∀x,x∈pos 1 oi.dst.toList->x∈mq ann tb L oi:=λx hx=>by unfold mq;grind
 have x2:mo oi.op=true->∀x,x∈pos 2 oi.dst.toList->x∈mq ann tb L oi:=λhb x hx=>by unfold mq;grind
 have x3:∀t a,oi.op= .load t a->∀x,x∈pos 3 ((aV oi.op).flatMap tb.dX)->x∈mq ann tb L oi:=λt a ho x hx=>by unfold mq;grind
 have x4:ry ann oi=true->∀x,x∈pos 4 [0]->x∈mq ann tb L oi:=λhb x hx=>by unfold mq;grind
 have x5:∀x,x∈pos 5 [0]->x∈mq ann tb L oi:=λx hx=>by unfold mq;grind
 have y0:∀x,x∈pos 0 oj.dst.toList->x∈mr ann tb L oj:=λx hx=>by unfold mr;grind
 have y1:∀x,x∈pos 1 (aV oj.op++mn L oj)->x∈mr ann tb L oj:=λx hx=>by unfold mr;grind
 have y2:∀x,x∈pos 2 (tb.iw (aV oj.op))->x∈mr ann tb L oj:=λx hx=>by unfold mr;grind
 have y3:∀x,x∈pos 3 (match dp oj.op with|true=>(match mo oj.op with|true=>oj.dst.toList|false=>[])|false=>oj.dst.toList++tb.tc oj)->x∈mr ann tb L oj:=λx hx=>by unfold mr;grind
 have y4:dp oj.op=false->∀x,x∈pos 4 [0]->x∈mr ann tb L oj:=λhb x hx=>by unfold mr;grind
 have y5:(jb ann oj.dst&&!qk oj.op||!(hY ann oj).isNone)=true->∀x,x∈pos 5 [0]->x∈mr ann tb L oj:=λhb x hx=>by unfold mr;rw[hb];grind
 have c1:m9 oj.dst (aV oi.op++mn L oi)=false:=Cz λx h1 h2=>m0 (nF _ h2) h1 x0 y0;have c2:m9 oi.dst (aV oj.op++mn L oj)=false:=Cz λx h1 h2=>m0 h1 h2 x1 y1;have c3:(match oi.dst,oj.dst with|some a,some b=>!Nat.beq a b|_,_=>true)=true:=by
  split
  ·rename_i a b ha hb;cases kT:Nat.beq a b with
   |false=>rfl
   |true=>have:=bt kT;subst this;exact(m0 (k:=0) (b:=a) (fj _ (by grind)) (by grind) x0 y0).elim
  ·rfl
 have c4:(!mo oi.op||!m9 oi.dst (tb.iw (aV oj.op)))=true:=by
  cases hb:mo oi.op with
  |false=>rfl
  |true=>rw[Cz λx h1 h2=>m0 h1 h2 (x2 hb) y2];rfl
 have c5:(dp oj.op||!ry ann oi)=true:=by
  cases hl:dp oj.op with
  |true=>rfl
  |false=>
   cases hg:ry ann oi with
   |false=>rfl
   |true=>exact(m0 (k:=4) (b:=0) kj kj (x4 hg) (y4 hl)).elim
 have c6:(jb ann oj.dst&&!qk oj.op||!(hY ann oj).isNone)=false:=by
  cases hl:(jb ann oj.dst&&!qk oj.op||!(hY ann oj).isNone)with
  |false=>rfl
  |true=>exact(m0 (k:=5) (b:=0) kj kj x5 (y5 hl)).elim
 have c7:(match oi.op with
  | .load .. =>(match dp oj.op with
   |true=>!mo oj.op||!m9 oj.dst ((aV oi.op).flatMap tb.dX)
   |false=>!m9 oj.dst ((aV oi.op).flatMap tb.dX)&&((aV oi.op).flatMap tb.dX).all λb=>!(tb.tc oj).contains b)
  |_=>true)=true:=by
  split
  ·rename_i t a ho;have x3:=x3 _ _ ho;cases hl:dp oj.op with
   |true=>
    dsimp only;cases hb:mo oj.op with
    |false=>rfl
    |true=>rw[hl,hb]at y3;rw[Cz λx h1 h2=>m0 h2 h1 x3 y3];rfl
   |false=>
    dsimp only;rw[hl]at y3;rw[Cz λx h1 h2=>m0 h2 (nF _ h1) x3 y3];rw[Bool.not_false,yC,aX];intro b hb;cases hc:(tb.tc oj).contains b with
    |false=>rfl
    |true=>exact(m0 hb (fj _ (jT.1 hc)) x3 y3).elim
  ·rfl
 simp only[Jj,Jk]at c6;simp only[zv,aB];grind
theorem adU {l:amG} {i:Nat} (hn:l.Nodup) (hi:i∈l) (h:∀j∈l,j=i):l=[i]:=by
 cases l with
 |nil=>grind
 |cons a r=>
  have:=h a kj;subst this;cases r with
  |nil=>rfl
  |cons b r=>simp_all
structure xh (ops:ang) (bK:ant) (m:Nat):Prop where
 b:∀k,bK.getD k false=m.testBit k
 s:bK.size=ops.size
theorem xh.t {ops:ang} {bK:ant} {m k:Nat} (h:xh ops bK m) {o:Oper} (ho:ops[k]?=some o):bK.getD k true=m.testBit k:=by
 have hk:k<bK.size:=by
  rw[h.s];rcases aT k ops.size with h'|h'
  ·omega
  ·grind
 rw[<-h.b k];grind
theorem xh.set {ops:ang} {bK:ant} {m i:Nat} (h:xh ops bK m) (hi:i<ops.size):xh ops (bK.setIfInBounds i true) (Nat.lor m (Nat.shiftLeft 1 i)):=by
 refine⟨λk=>?_,by simp[h.s]⟩;rw[Lj];by_cases hk:i=k
 ·subst hk;have:i<bK.size:=by rw[h.s];exact hi
  simp_all
 ·rw[getD_set_ne false hk,h.b k];grind
theorem FZ {ops:ang} {bK:ant} {m i:Nat} (h:xh ops bK m) {o:Oper} (ho:ops[i]?=some o):i∈Region.ready .any ops bK↔m.testBit i=false/\Nat.land (ib (vc o)) m=ib (vc o):=by
 rw[mem_ready,h.t ho];refine⟨λ⟨h1,o',gw,h2⟩=>⟨h1,adR λx hx=>?_⟩,λ⟨h1,h2⟩=>⟨h1,o,ho,λe he hb=>?_⟩⟩
 ·rw[ho]at gw;cases gw;obtain⟨e,he,hb,rfl⟩:=Tu hx;rw[<-h.b];grind
 ·rw[h.b];exact adQ h2 (Lb (adP he hb))
theorem adV {ops:ang} {bK:ant}:(Region.ready .any ops bK).Nodup:=by unfold Region.ready;exact alL _ List.nodup_range
theorem Tw {α:Type}:∀{l:List α} {n:Nat} {x:α} {r:List α},F0 l n=x::r->l[n]?=some x
 |[],_,_,_,h=>by cases h
 |y::l,0,x,r,h=>by have h:y::l=x::r:=h;grind
 |y::l,n+1,x,r,h=>by have h:F0 l n=x::r:=h;rw[oC];exact Tw h
theorem adW {α:Type} {l:List α} {n:Nat} {x:α} {r:List α} (h:ve l n=x::r):l[n]?=some x:=by have h1:=Tw h;rw[CA,fa,F3]at h1;omega
theorem Lk {ann:amU} {tb:Tb} {L:amW}:∀{l:amW} {n:Nat},(oZ ann tb L l n).length=l.length
 |[],_=>rfl
 |_::r,n=>ll (· +1) (Lk (l:=r) (n:=n+1))
theorem CB {b x:Bool} (h:Bool.rec (motive:=λ_=>Bool) false x b=true):b=true/\x=true:=by
 cases b
 all_goals grind
theorem CC {c:bX} (hc:dT c) {ops:ang} {tb:Tb} (gu:qj c tb) (fb:ops.toList.all tb.closed=true) {K:amX}:∀{ord:amG} {m:Nat} {bK:ant} {st:St},Li (oZ c.ann tb ops.toList ops.toList 0) ord m=true->xh ops bK m->tb.In st->
 va c ops.toList ord K st->mh c ops K ord.length bK st
 |[],m,bK,st,h,hl,_,hq=>by
  have h:rD (oZ c.ann tb ops.toList ops.toList 0) m (oZ c.ann tb ops.toList ops.toList 0).length 0=true:=h;refine⟨ZD.2 λj hj=>?_,hq⟩;obtain⟨_,oj,dK,_⟩:=mem_ready.1 hj;obtain⟨h1,h2⟩:=(FZ hl dK).1 hj;have hg:=Lf (ann:=c.ann) (tb:=tb) (L:=ops.toList) (l:=ops.toList) (n:=0) (j:=j);rw[show ops.toList[j]?=some oj by grind]at hg;have:=FY h j _ hg (by grind) h2;grind
 |i::r,m,bK,st,h,CD,hD,hq=>by
  have h:List.rec (motive:=λ_=>Bool) false (λs _ _=>Bool.rec (motive:=λ_=>Bool) false (qm (Nat.lor m (Nat.shiftLeft 1 i)) (Li (oZ c.ann tb ops.toList ops.toList 0) r)) (Lh (oZ c.ann tb ops.toList ops.toList 0) m i r.isEmpty s)) (ve (oZ c.ann tb ops.toList ops.toList 0) i)=true:=h;generalize hS:oZ c.ann tb ops.toList ops.toList 0=S at h;cases hd:ve S i with
  |nil=>simp_all
  |cons s r'=>
   rw[hd]at h;obtain⟨h1,h2⟩:=CB h;rw[Cw]at h2;have hs:=adW hd;have cT:∀j,S[j]?=(ops[j]?).map λo=>vd c.ann tb ops.toList o j:=λj=>by rw[<-hS,Lf,show ops.toList[j]?=ops[j]?from jO ..];grind
   rw[cT]at hs;cases n5:ops[i]?with
   |none=>grind
   |some oi=>
    rw[n5]at hs;simp only[cj,ae]at hs;have ho:ops.toList[i]?=some oi:=by rw[jO];exact n5
    have aj:i<ops.size:=by
     rcases aT i ops.size with h'|h'
     ·omega
     ·grind
    have bA:=CD.set aj;have vb:tb.closed oi=true:=aX.1 fb oi (aY ho);unfold Lh at h1;obtain⟨k1,h1⟩:=CB h1;obtain⟨k2,h1⟩:=CB h1;rw[Cy,gy]at k1;have k2:Nat.land (ib (vc oi)) m=ib (vc oi):=by rw[<-hs]at k2;exact bt k2
    have Tx:i∈Region.ready .any ops bK:=(FZ CD n5).2 ⟨k1,k2⟩;have rl:s.l=(dp oi.op&&!jb c.ann oi.dst):=by rw[<-hs];rfl
    have Ty:s.q=((hY c.ann oi).isNone&&(!dp oi.op||qk oi.op)):=by rw[<-hs];rfl
    cases fu:(dp oi.op&&!jb c.ann oi.dst)with
    |true=>
     rw[rl,fu]at h1;simp only[aB,gy]at fu;obtain⟨fu,nZ⟩:=fu;have h1:qm (Lg S (Nat.shiftLeft 1 i) 0 0) (λdep=>Bool.rec (motive:=λ_=>Bool) false (xg S dep (Nat.lor dep (Nat.shiftLeft 1 i)) (Nat.lor m (Nat.shiftLeft 1 i)) s.x 0) (Nat.beq (Nat.land m dep) 0))=true:=h1;rw[Cw]at h1;generalize Th:Lg S (Nat.shiftLeft 1 i) 0 0=dep at h1;obtain⟨k3,k4⟩:=CB h1;have kp:=Tt k4;have wI:cA c.T st->dk c ops.toList oi st (mh c ops K r.length (bK.setIfInBounds i true)):=λaN=>by
      have hq:=hq aN;rw[ho]at hq;dsimp only at hq;rw[rq fu nZ aN]at hq⊢;cases hL:kV c ops.toList st oi with
      |none=>rw[hL]at hq;assumption
      |some q=>obtain⟨p,u⟩:=q;rw[hL]at hq;exact⟨hq.1,CC hc gu fb (by grind) bA (hD.zu gu fu vb hL) hq.2⟩
     intro aN;refine Tg n5 (Tf fu nZ) (dep:=λj=>dep.testBit j) (λj oj dK K7=>?_) r.length bK st (λj oj dK oX m5 dv=>?_) (λk hk=>?_) Tx hD (wI aN) aN
     ·have hj:=cT j;rw[dK]at hj;have:=(kp j _ hj).1 (by grind);obtain⟨x,hx⟩:=Nat.exists_testBit_of_ne_zero this;rw[show Nat.land (vd c.ann tb ops.toList oj j).a (Nat.lor dep (Nat.shiftLeft 1 i))=ib (vc oj)&&&Nat.lor dep (Nat.shiftLeft 1 i)from rfl,Qf,Lj,aB,iT,eN]at hx;obtain⟨e,he,hb,rfl⟩:=Tu (Lc hx.1);grind
     ·have hj:=cT j;rw[dK]at hj;have:=(kp j _ hj).2 (by grind) (by
       rw[eI,Lj,<-CD.t dK,m5];grind)
      rw[<-hs]at this;exact Te hc gu fu nZ (aX.1 fb oj (aY (by rw[jO];exact dK))) (Td (adT this))
     ·show dep.testBit k=false;rw[CD.b]at hk;cases hb:dep.testBit k with
      |false=>rfl
      |true=>exact(Tq k3 hk hb).elim
    |false=>
     rw[rl,fu]at h1;have h1:Bool.rec (motive:=λ_=>Bool) false (rD S m i 0) (r.isEmpty||s.q)=true:=h1;obtain⟨k3,k4⟩:=CB h1;have mX:Region.ready .any ops bK=[i]:=adU adV Tx λj hj=>by obtain⟨_,oj,dK,_⟩:=mem_ready.1 hj;obtain⟨g1,g2⟩:=(FZ CD dK).1 hj;have hg:=cT j;rw[dK]at hg;have:=FY k4 j _ hg (by grind) g2;omega
     refine Ky n5 mX λaN=>?_;have hq:=hq aN;rw[ho]at hq;dsimp only at hq;rw[xc]at hq⊢;rcases Zx (r=[])with hr|hr
     ·subst hr;refine bl.wp_mono (λs' cS=>?_) hq;have h2:rD S (Nat.lor m (Nat.shiftLeft 1 i)) S.length 0=true:=h2;refine⟨ZD.2 λj hj=>?_,cS⟩;obtain⟨_,oj,dK,_⟩:=mem_ready.1 hj;obtain⟨g1,g2⟩:=(FZ bA dK).1 hj;have hg:=cT j;rw[dK]at hg;have:=FY h2 j _ hg (by grind) g2;grind
     have gq:hY c.ann oi=none:=by
      cases r with
      |nil=>grind
      |cons=>
       simp_all
     have ji:dp oi.op=false\/qk oi.op=true:=by
      cases r with
      |nil=>grind
      |cons=>
       grind
     rcases ji.symm with qh|fu
     ·obtain⟨t',x',gw⟩:∃t' x',oi.op= .load t' x':=by cases ho:oi.op<;>rw[ho]at qh<;>first|exact⟨_,_,rfl⟩|cases qh
      refine bl.wp_mono (λs' cS=>?_) (bl.uY (S8 (L:=ops.toList) gw gq) hq);exact CC hc gu fb (by grind) bA (hD.ld gu qh vb cS.2) cS.1
     cases jJ:xd oi.op with
     |false=>refine bl.wp_mono (λs' cS=>?_) (bl.uY (K6 hc gu (L:=ops.toList) hD gq) hq);exact CC hc gu fb (by grind) bA (hD.K3 fu jJ vb cS.2) cS.1
     |true=>
      obtain⟨t',x',y',gw⟩:∃t' x' y',oi.op= .store t' x' y':=by cases ho:oi.op<;>rw[ho]at jJ<;>first|exact⟨_,_,_,rfl⟩|cases jJ
      refine bl.wp_mono (λs' cS=>?_) (bl.uY (K0 (L:=ops.toList) gw gq) hq);exact CC hc gu fb (by grind) bA (hD.store gw vb cS.2) cS.1
end
end Go.Pv
namespace Go.Pv
open Go
def mu (f:Nat->C->Int) (ρ:Kr) (a:Nat):Int:=f (a%64) (ρ (a/64))
def af (m x:Nat):aa:= .atom (64*x+m)
theorem au (f:Nat->C->Int) (ρ:Kr) {m x:Nat} (hm:m<64):(af m x).den (mu f ρ)=f m (ρ x):=by
 rw[af,TM,mu];grind
theorem aI {n m x:Nat} (h:x<n) (hm:m<64):(af m x).lt n:=aeb h hm
def xn (g:amP) (l:ano):List (Nat×Int):=l.foldr (λp acc=>oa (64*g (p.1/64)+p.1%64) p.2 acc) []
def aa.cV (g:amP) (e:aa):aa:=⟨e.c,xn g e.l⟩
theorem CK (f:Nat->C->Int) (ρ:Kr) (g:amP) (e:aa):(e.cV g).den (mu f ρ)=e.den (mu f λx=>ρ (g x)):=by
 have:∀l,b9 (mu f ρ) (xn g l)=b9 (mu f λx=>ρ (g x)) l:=by
  intro l;induction l with
  |nil=>rfl
  |cons p r ih=>
   have:xn g (p::r)=oa (64*g (p.1/64)+p.1%64) p.2 (xn g r):=rfl;rw[this,Lx,ih];simp only[b9,mu];grind
 simp only[aa.den,aa.cV,this]
theorem F8 {n k:Nat} {g:amP} {e:aa} (he:e.lt k) (hg:∀x,x<k->g x<n):(e.cV g).lt n:=by
 have:∀l:ano,(∀p∈l,p.1<64*k)->∀q∈xn g l,q.1<64*n:=by
  intro l;induction l with
  |nil=>intro _ q hq;cases hq
  |cons p r ih=>
   intro h q hq;have e:xn g (p::r)=oa (64*g (p.1/64)+p.1%64) p.2 (xn g r):=rfl;rw[e]at hq;rcases Ly hq with h1|⟨p',h1,h2⟩
   all_goals grind
 exact this e.l he
inductive AB where
 |lit (b:Bool)
 |le (e:aa)
 |eq (e:aa)
 |var (x:Nat)
 |not (b:AB)
 |and (a b:AB)
 |or (a b:AB)
 |seq (x y:Nat)
 deriving DecidableEq
inductive AX where
 |aD
 |int (k:IntKind) (e:aa)
 |bool (b:AB)
 |str (x:Nat)
 |lit (s:ByteArray)
 |sl (e x:Nat)
 |own (e g n x:Nat)
 |bc
 |hH
 |fV (f:Nat)
 |ptr (b off:Nat)
 |bz (e x:Nat) (i:aa) (off:Nat)
 |cd (b off:Nat)
 |gb (b w:Nat) (i:aa) (off:Nat)
 |cn (e b x:Nat)
 |cq (e b x:Nat)
 |any
 |dn (e:aa)
 deriving DecidableEq
inductive AK where
 |cells (l:List AX)
 |rows (e w x:Nat)
 deriving DecidableEq
inductive AS where
 |one (x:AX)
 |agg (l:List AX)
 |bj (l:List (Bool×List AX))
 deriving DecidableEq
structure aw where
 aq:List AS
 boxes:List (Option AK)
 gen:Nat->Nat
section
variable (f:Nat->C->Int) (ρ:Kr)
def AB.den:AB->Bool
 | .lit b=>b
 | .le e=>decide (0<=e.den (mu f ρ))
 | .eq e=>decide (e.den (mu f ρ)=0)
 | .var x=>jh (ρ x)
 | .not b=>!b.den
 | .and a b=>a.den&&b.den
 | .or a b=>a.den||b.den
 | .seq x y=>fm (aA (ρ x)) (aA (ρ y))
def AX.den:AX->X
 | .aD=> .aD
 | .int k e=> .c (.int k (e.den (mu f ρ)))
 | .bool b=> .c (.bool (b.den f ρ))
 | .str x=> .c (.str (aA (ρ x)))
 | .lit s=> .c (.str s)
 | .sl e x=> .c (.sl e (ah (ρ x)))
 | .own e g n x=> .own e g n (ah (ρ x))
 | .bc=> .bc
 | .hH=> .hH
 | .fV f=> .fV f
 | .ptr b off=> .ptr b off
 | .bz e x i off=> .bz e (ah (ρ x)) (i.den (mu f ρ)).toNat off
 | .cd b off=> .cd b off
 | .gb b w i off=> .cd b ((i.den (mu f ρ)).toNat*w+off)
 | .cn e b x=> .cn e b (ah (ρ x))
 | .cq e b x=> .cq e b (ah (ρ x)).length
 | .any=> .c .any
 | .dn e=> .dn (e.den (mu f ρ))
def AK.den:AK->List X
 | .cells l=>l.map (AX.den f ρ)
 | .rows _ w x=>dC w (ah (ρ x))
def AS.den:AS->S
 | .one x=> .one (x.den f ρ)
 | .agg l=> .agg (l.map (AX.den f ρ))
 | .bj l=> .bj (l.map λp=>(p.1,p.2.map (AX.den f ρ)))
def aw.den (st:aw):St:=⟨st.aq.map (AS.den f ρ),st.boxes.map (Option.map (AK.den f ρ)),st.gen⟩
end
def AB.lt (n:Nat):AB->Prop
 | .lit _=>True
 | .le e=>e.lt n
 | .eq e=>e.lt n
 | .var x=>x<n
 | .not b=>b.lt n
 | .and a b=>a.lt n/\b.lt n
 | .or a b=>a.lt n/\b.lt n
 | .seq x y=>x<n/\y<n
def AX.lt (n:Nat):AX->Prop
 | .int _ e=>e.lt n
 | .bool b=>b.lt n
 | .str x=>x<n
 | .sl _ x=>x<n
 | .own _ _ _ x=>x<n
 | .bz _ x i _=>x<n/\i.lt n
 | .gb _ _ i _=>i.lt n
 | .cn _ _ x=>x<n
 | .cq _ _ x=>x<n
 | .dn e=>e.lt n
 |_=>True
def AK.lt (n:Nat):AK->Prop
 | .cells l=>∀x∈l,x.lt n
 | .rows _ _ x=>x<n
def AS.lt (n:Nat):AS->Prop
 | .one x=>x.lt n
 | .agg l=>∀x∈l,x.lt n
 | .bj l=>∀p∈l,∀x∈p.2,x.lt n
structure aw.lt (n:Nat) (st:aw):Prop where
 aq:∀s∈st.aq,s.lt n
 boxes:∀l,some l∈st.boxes->l.lt n
def cu (n:Nat) (ρ ai:Kr):Prop:=∀x,x<n->ai x=ρ x
variable {f:Nat->C->Int} {ρ ai:Kr} {n m:Nat}
theorem cu.mu (h:cu n ρ ai):∀a,a<64*n->mu f ai a=mu f ρ a:=λa ha=>by simp only[Pv.mu];rw[h (a/64) (by omega)]
theorem cu.dE (h:cu n ρ ai) {e:aa} (he:e.lt n):e.den (Pv.mu f ai)=e.den (Pv.mu f ρ):=vi he h.mu
theorem cu.ab (h:cu n ρ ai):∀{b:AB},b.lt n->b.den f ai=b.den f ρ
 | .lit _,_=>rfl
 | .le e,hb=>by simp only[AB.den,h.dE hb]
 | .eq e,hb=>by simp only[AB.den,h.dE hb]
 | .var x,hb=>by simp only[AB.den,h x hb]
 | .not b,hb=>by simp only[AB.den,h.ab (b:=b) hb]
 | .and a b,hb=>by simp only[AB.den,h.ab hb.1,h.ab hb.2]
 | .or a b,hb=>by simp only[AB.den,h.ab hb.1,h.ab hb.2]
 | .seq x y,hb=>by simp only[AB.den,h x hb.1,h y hb.2]
theorem cu.ax (h:cu n ρ ai) {x:AX} (hx:x.lt n):x.den f ai=x.den f ρ:=by
 cases x with
 |int k e=>simp only[AX.den,h.dE hx]
 |bool b=>simp only[AX.den,h.ab hx]
 |str x=>simp only[AX.den,h x hx]
 |sl e x=>simp only[AX.den,h x hx]
 |own e g n x=>simp only[AX.den,h x hx]
 |bz e x i off=>simp only[AX.den,h x hx.1,h.dE hx.2]
 |gb b w i off=>simp only[AX.den,h.dE (e:=i) hx]
 |cn e b x=>simp only[AX.den,h x hx]
 |cq e b x=>simp only[AX.den,h x hx]
 |dn e=>simp only[AX.den,h.dE (e:=e) hx]
 |_=>rfl
theorem cu.eX (h:cu n ρ ai) {l:List AX} (hl:∀x∈l,x.lt n):l.map (AX.den f ai)=l.map (AX.den f ρ):=
 cK λx hx=>h.ax (hl x hx)
theorem cu.ak (h:cu n ρ ai) {k:AK} (hk:k.lt n):k.den f ai=k.den f ρ:=by
 cases k with
 |cells l=>exact h.eX hk
 |rows e w x=>simp only[AK.den,h x hk]
theorem cu.s7 (h:cu n ρ ai) {s:AS} (hs:s.lt n):s.den f ai=s.den f ρ:=by
 cases s with
 |one x=>simp only[AS.den,h.ax hs]
 |agg l=>simp only[AS.den,h.eX hs]
 |bj l=>simp only[AS.den];congr 1;refine cK λp hp=>?_;rw[h.eX (hs p hp)]
theorem cu.st (h:cu n ρ ai) {st:aw} (hs:st.lt n):st.den f ai=st.den f ρ:=by
 simp only[aw.den];congr 1
 ·exact cK λs hx=>h.s7 (hs.aq s hx)
 ·refine cK λo ho=>?_;cases o with
  |none=>rfl
  |some l=>simp only[cj,h.ak (hs.boxes l ho)]
theorem AB.bg (h:n<=m):∀{b:AB},b.lt n->b.lt m
 | .lit _,_=>trivial
 | .le _,hb=>Pv.bg h hb
 | .eq _,hb=>Pv.bg h hb
 | .var _,hb=>dO hb h
 | .not b,hb=>AB.bg h (b:=b) hb
 | .and _ _,hb=>⟨AB.bg h hb.1,AB.bg h hb.2⟩
 | .or _ _,hb=>⟨AB.bg h hb.1,AB.bg h hb.2⟩
 | .seq _ _,hb=>⟨dO hb.1 h,dO hb.2 h⟩
theorem AX.bg (h:n<=m) {x:AX} (hx:x.lt n):x.lt m:=by
 cases x with
 |int k e=>exact Pv.bg h hx
 |bool b=>exact AB.bg h hx
 |str x=>exact dO hx h
 |sl e x=>exact dO hx h
 |own e g n x=>exact dO hx h
 |bz e x i off=>exact⟨dO hx.1 h,Pv.bg h hx.2⟩
 |gb b w i off=>exact Pv.bg (x:=i) h hx
 |cn e b x=>exact dO hx h
 |cq e b x=>exact dO hx h
 |dn e=>exact Pv.bg (x:=e) h hx
 |_=>trivial
theorem AK.bg (h:n<=m) {k:AK} (hk:k.lt n):k.lt m:=by
 cases k with
 |cells l=>exact λx hx=>AX.bg h (hk x hx)
 |rows e w x=>exact dO hk h
theorem AS.bg (h:n<=m) {s:AS} (hs:s.lt n):s.lt m:=by
 cases s with
 |one x=>exact AX.bg h hs
 |agg l=>exact λx hx=>AX.bg h (hs x hx)
 |bj l=>exact λp hp x hx=>AX.bg h (hs p hp x hx)
theorem aw.bg (h:n<=m) {st:aw} (hs:st.lt n):st.lt m:=
 ⟨λs hx=>AS.bg h (hs.aq s hx),λl hl=>AK.bg h (hs.boxes l hl)⟩
def zz:List Nat:=[3,11,12,13,14,15,16]
def single (e:aa):Option (Nat×Nat×Int):=
 match e.l with
 |[(a,k)]=>if k=1 then some (a/64,a%64,-e.c)else if k=-1 then some (a/64,a%64,e.c)else none
 |_=>none
def zA (m:Nat) (c:Int):Option Nat:=
 match m,c with
 |0, .ofNat c=>if c<31 then some (20+c)else none
 |2,0=>some 10
 |3,0=>some 16
 |_,_=>none
def CL (e:aa):List aa:=
 match single e with
 |some (x,m,c)=>(match zA m c with|some i=>if m=0 then[(af i x).bI (-1)]else[(af i x).neg]|none=>[])
 |_=>[]
def CN (e:aa):List aa:=
 match single e with
 |some (x,m,c)=>(match zA m c with|some i=>if m=0 then[(af i x).neg]else[(af i x).bI (-1)]|none=>[])
 |_=>[]
mutual
def AB.pos:AB->List aa
 | .lit true=>[]
 | .lit false=>[.const (-1)]
 | .le e=>[e]
 | .eq e=>e::e.neg::CL e
 | .var x=>[(af 1 x).bI (-1)]
 | .not b=>b.neg
 | .and a b=>a.pos++b.pos
 | .or _ _=>[]
 | .seq x y=>zz.flatMap λm=>[(af m x).sub (af m y),(af m y).sub (af m x)]
def AB.neg:AB->List aa
 | .lit true=>[.const (-1)]
 | .lit false=>[]
 | .le e=>[e.neg.bI (-1)]
 | .eq e=>CN e
 | .var x=>[(af 1 x).neg]
 | .not b=>b.pos
 | .and _ _=>[]
 | .or a b=>a.neg++b.neg
 | .seq _ _=>[]
end
structure zB (f:Nat->C->Int):Prop where
 int:∀c,f 0 c=cD c
 bool:∀c,f 1 c=if jh c then 1 else 0
 str:∀m∈zz,∀c,f m c=f m (.str (aA c))
 ind:∀k,k<31->∀c,f (20+k) c=if cD c=k then 1 else 0
 TT:∀c,f 10 c=if f 2 c=0 then 0 else 1
 ne:∀c,f 16 c=if f 3 c=0 then 0 else 1
theorem LI {e:aa} {x m:Nat} {c:Int} (h:single e=some (x,m,c)):(e.den (mu f ρ)=0↔f m (ρ x)=c)/\(∀n,e.lt n->x<n)/\m<64:=by
 obtain⟨c0,l⟩:=e;unfold single at h;split at h
 ·rename_i a k hl;simp only at hl;subst hl;have TU:mu f ρ a=f (a%64) (ρ (a/64)):=rfl;have aj:∀n,aa.lt n ⟨c0,[(a,k)]⟩->a/64<n:=λn hn=>by have:=hn (a,k) (by simp);omega
  split at h
  ·rename_i hk;simp only[ae,bT]at h;obtain⟨rfl,rfl,rfl⟩:=h;refine⟨?_,aj,mI _ (by omega)⟩;simp only[aa.den,b9,hk,TU];omega
  ·split at h
   ·rename_i hk;simp only[ae,bT]at h;obtain⟨rfl,rfl,rfl⟩:=h;refine⟨?_,aj,mI _ (by omega)⟩;simp only[aa.den,b9,hk,TU];omega
   grind
 grind
theorem TV (hf:zB f) {m i:Nat} {c:Int} (h:zA m c=some i):i<64/\∀v,f i v=if m=0 then(if f m v=c then 1 else 0)else(if f m v=c then 0 else 1):=by
 unfold zA at h;split at h
 ·rename_i k;split at h
  ·rename_i hk;simp only[ae]at h;subst h;exact⟨by omega,λv=>by rw[hf.ind k hk,aC rfl,hf.int];rfl⟩
  grind
 ·simp only[ae]at h;subst h;exact⟨by omega,λv=>by simp[hf.TT]⟩
 ·simp only[ae]at h;subst h;exact⟨by omega,λv=>by simp[hf.ne]⟩
 grind
theorem aej (hf:zB f) {e:aa} (h:e.den (mu f ρ)=0):aJ (mu f ρ) (CL e):=by
 intro g hg;unfold CL at hg;split at hg
 ·rename_i x m c hs;split at hg
  ·rename_i i hi;have h1:=((LI (f:=f) (ρ:=ρ) hs).1).1 h;obtain⟨h2,h3⟩:=TV hf hi;split at hg<;>(rename_i hm;simp only[a8]at hg;subst hg)
   ·rw[cO,au f ρ h2,h3,aC hm,aC h1];omega
   ·rw[eu,au f ρ h2,h3,aQ hm,aC h1];omega
  grind
 grind
theorem aek (hf:zB f) {e:aa} (h:e.den (mu f ρ)≠0):aJ (mu f ρ) (CN e):=by
 intro g hg;unfold CN at hg;split at hg
 ·rename_i x m c hs;split at hg
  ·rename_i i hi;have h1:f m (ρ x)≠c:=λh'=>h (((LI (f:=f) (ρ:=ρ) hs).1).2 h');obtain⟨h2,h3⟩:=TV hf hi;split at hg<;>(rename_i hm;simp only[a8]at hg;subst hg)
   ·rw[eu,au f ρ h2,h3,aC hm,aQ h1];omega
   ·rw[cO,au f ρ h2,h3,aQ hm,aQ h1];omega
  grind
 grind
theorem F9 {m i:Nat} {c:Int} (h:zA m c=some i):i<64:=by
 unfold zA at h;split at h
 ·grind
 all_goals grind
theorem Ga {e:aa} {x m:Nat} {c:Int} (h:single e=some (x,m,c)) (he:e.lt n):x<n:=
 (LI (f:=λ_ _=>0) (ρ:=λ_=>default) h).2.1 n he
theorem ael {e:aa} (h:e.lt n):∀g∈CL e,g.lt n:=by
 intro g hg;unfold CL at hg;split at hg
 ·rename_i x m c hs;split at hg
  ·rename_i i hi;split at hg<;>(simp only[a8]at hg;subst hg)
   ·exact gS _ (aI (Ga hs h) (F9 hi))
   ·exact kY (aI (Ga hs h) (F9 hi))
  grind
 grind
theorem aem {e:aa} (h:e.lt n):∀g∈CN e,g.lt n:=by
 intro g hg;unfold CN at hg;split at hg
 ·rename_i x m c hs;split at hg
  ·rename_i i hi;split at hg<;>(simp only[a8]at hg;subst hg)
   ·exact kY (aI (Ga hs h) (F9 hi))
   ·exact gS _ (aI (Ga hs h) (F9 hi))
  grind
 grind
theorem aen {a b:ByteArray} (h:fm a b=true):a=b:=by
 unfold fm at h;have h:=qN.1 h;exact ByteArray.ext (by
  have h1:a.toList=a.data.toList:=ByteArray.toList_eq a;have h2:b.toList=b.data.toList:=ByteArray.toList_eq b;simp_all)
mutual
theorem AB.Gb (hf:zB f):∀{b:AB},b.den f ρ=true->aJ (mu f ρ) b.pos
 | .lit true,_=>λg hg=>by cases hg
 | .lit false,h=>by cases h
 | .le e,h=>λg hg=>by simp only[AB.pos,a8]at hg;subst hg;simpa[AB.den]using h
 | .eq e,h=>λg hg=>by
  simp only[AB.den,eN]at h;simp only[AB.pos,az]at hg;rcases hg with rfl|rfl|hg
  ·omega
  ·rw[eu];omega
  ·exact aej hf h g hg
 | .var x,h=>λg hg=>by simp only[AB.pos,a8]at hg;subst hg;rw[cO,au f ρ (by omega),hf.bool];simp only[AB.den]at h;grind
 | .not b,h=>by simp only[AB.den,gy]at h;exact AB.Gc hf h
 | .and a b,h=>λg hg=>by
  simp only[AB.den,aB]at h;simp only[AB.pos,bB]at hg;rcases hg with hg|hg
  ·exact AB.Gb hf h.1 g hg
  ·exact AB.Gb hf h.2 g hg
 | .or _ _,_=>λg hg=>by cases hg
 | .seq x y,h=>λg hg=>by
  simp only[AB.den]at h;have h:=aen h;simp only[AB.pos,ba]at hg;obtain⟨m,hm,hg⟩:=hg;have xo:m<64:=by simp only[zz,az,bL,bM]at hm;omega
  simp only[az,bL,bM]at hg;have:f m (ρ x)=f m (ρ y):=by rw[hf.str m hm (ρ x),hf.str m hm (ρ y),h]
  rcases hg with rfl|rfl<;>rw[br,au f ρ xo,au f ρ xo,this]<;>omega
theorem AB.Gc (hf:zB f):∀{b:AB},b.den f ρ=false->aJ (mu f ρ) b.neg
 | .lit true,h=>by cases h
 | .lit false,_=>λg hg=>by cases hg
 | .le e,h=>λg hg=>by simp only[AB.neg,a8]at hg;subst hg;simp only[AB.den,v3]at h;rw[cO,eu];omega
 | .eq e,h=>λg hg=>by simp only[AB.den,v3]at h;exact aek hf h g hg
 | .var x,h=>λg hg=>by simp only[AB.neg,a8]at hg;subst hg;rw[eu,au f ρ (by omega),hf.bool];simp only[AB.den]at h;grind
 | .not b,h=>by simp only[AB.den,Jk]at h;exact AB.Gb hf h
 | .and _ _,_=>λg hg=>by cases hg
 | .or a b,h=>λg hg=>by
  simp only[AB.den,Jj]at h;simp only[AB.neg,bB]at hg;rcases hg with hg|hg
  ·exact AB.Gc hf h.1 g hg
  ·exact AB.Gc hf h.2 g hg
 | .seq _ _,_=>λg hg=>by cases hg
end
mutual
theorem AB.Gd:∀{b:AB},b.lt n->∀g∈b.pos,g.lt n
 | .lit true,_,g,hg=>by cases hg
 | .lit false,_,g,hg=>by simp only[AB.pos,a8]at hg;subst hg;exact dY _ _
 | .le e,h,g,hg=>by simp only[AB.pos,a8]at hg;subst hg;exact h
 | .eq e,h,g,hg=>by
  simp only[AB.pos,az]at hg;rcases hg with rfl|rfl|hg
  ·exact h
  ·exact kY h
  ·exact ael h g hg
 | .var x,h,g,hg=>by simp only[AB.pos,a8]at hg;subst hg;exact gS _ (aI h (by omega))
 | .not b,h,g,hg=>AB.Ge (b:=b) h g hg
 | .and a b,h,g,hg=>by
  simp only[AB.pos,bB]at hg;rcases hg with hg|hg
  ·exact AB.Gd h.1 g hg
  ·exact AB.Gd h.2 g hg
 | .or _ _,_,g,hg=>by cases hg
 | .seq x y,h,g,hg=>by
  simp only[AB.pos,ba]at hg;obtain⟨m,hm,hg⟩:=hg;have xo:m<64:=by simp only[zz,az,bL,bM]at hm;omega
  simp only[az,bL,bM]at hg;rcases hg with rfl|rfl
  ·exact cX (aI h.1 xo) (aI h.2 xo)
  ·exact cX (aI h.2 xo) (aI h.1 xo)
theorem AB.Ge:∀{b:AB},b.lt n->∀g∈b.neg,g.lt n
 | .lit true,_,g,hg=>by simp only[AB.neg,a8]at hg;subst hg;exact dY _ _
 | .lit false,_,g,hg=>by cases hg
 | .le e,h,g,hg=>by simp only[AB.neg,a8]at hg;subst hg;exact gS _ (kY h)
 | .eq e,h,g,hg=>aem h g hg
 | .var x,h,g,hg=>by simp only[AB.neg,a8]at hg;subst hg;exact kY (aI h (by omega))
 | .not b,h,g,hg=>AB.Gd (b:=b) h g hg
 | .and _ _,_,g,hg=>by cases hg
 | .or a b,h,g,hg=>by
  simp only[AB.neg,bB]at hg;rcases hg with hg|hg
  ·exact AB.Ge h.1 g hg
  ·exact AB.Ge h.2 g hg
 | .seq _ _,_,g,hg=>by cases hg
end
structure Mem where
 e:Nat
 x:Nat
 i:aa
 b:Nat
structure Gh where
 e:Nat
 x:Nat
 i:aa
 g:Nat
structure Sn where
 e:Nat
 a:Nat
 u:Nat
 b:Nat
structure Path where
 st:aw
 Γ:List aa
 nv:Nat
 gH:List Mem
 gh:List Gh
 sn:List Sn
structure Sn.ok (T:ay) (ρ:Kr) (n:Nat) (q:Sn):Prop where
 a:q.a<n
 u:q.u<n
 b:q.b+(T q.e).length<=n
 val:∃r:amS,r.map C.kd=T q.e/\((List.range (T q.e).length).map λj=>ρ (q.b+j))=r/\ah (ρ q.u)=ah (ρ q.a)++[r]
structure Gh.ok (f:Nat->C->Int) (ρ:Kr) (n:Nat) (q:Gh):Prop where
 x:q.x<n
 i:q.i.lt n
 g:q.g<n
 lo:0<=q.i.den (mu f ρ)
 val:ρ q.g= .sl q.e ((ah (ρ q.x)).take (q.i.den (mu f ρ)).toNat)
structure nf (T:ay) (f:Nat->C->Int) (ρ:Kr) (e x:Nat) (i:aa) (b:Nat):Prop where
 lo:0<=i.den (mu f ρ)
 hi:(i.den (mu f ρ)).toNat<(ah (ρ x)).length
 cell:∀j,j<(T e).length->ρ (b+j)=cellAt (ah (ρ x)) (i.den (mu f ρ)).toNat j
 kd:∀r∈ah (ρ x),r.map C.kd=T e
 fit:∀r∈ah (ρ x),∀c∈r,bN T c
structure Mem.ok (T:ay) (f:Nat->C->Int) (ρ:Kr) (n:Nat) (q:Mem):Prop where
 x:q.x<n
 i:q.i.lt n
 b:q.b+(T q.e).length<=n
 row:nf T f ρ q.e q.x q.i q.b
structure Sat (T:ay) (f:Nat->C->Int) (ρ:Kr) (p:Path):Prop where
 st:p.st.lt p.nv
 lt:∀g∈p.Γ,g.lt p.nv
 facts:aJ (mu f ρ) p.Γ
 wk:∀e w x,some (.rows e w x)∈p.st.boxes->w=(T e).length/\∀r∈ah (ρ x),r.map C.kd=T e
 gH:∀q∈p.gH,q.ok T f ρ p.nv
 gh:∀q∈p.gh,q.ok f ρ p.nv
 sn:∀q∈p.sn,q.ok T ρ p.nv
def Path.ext (p:Path) (k:Nat) (fs:amY):Path:={p with nv:=p.nv+k,Γ:=fs++p.Γ}
theorem nf.aK {T:ay} {e x b:Nat} {i:aa} (h:nf T f ρ e x i b) (ha:cu n ρ ai) (hx:x<n) (hi:i.lt n) (hb:b+(T e).length<=n):nf T f ai e x i b:=by have hi:=ha.dE (f:=f) hi;have hx:=ha x hx;refine⟨by rw[hi];exact h.lo,by rw[hi,hx];exact h.hi,λj hj=>?_,by rw[hx];exact h.kd,by rw[hx];exact h.fit⟩;rw[hi,hx,ha _ (by omega)];exact h.cell j hj
theorem Mem.ok.aK {T:ay} {q:Mem} (h:q.ok T f ρ n) (ha:cu n ρ ai) (hm:n<=m):q.ok T f ai m:=
 ⟨dO h.x hm,Pv.bg hm h.i,eR h.b hm,h.row.aK ha h.x h.i h.b⟩
theorem Gh.ok.aK {q:Gh} (h:q.ok f ρ n) (ha:cu n ρ ai) (hm:n<=m):q.ok f ai m:=by have hi:=ha.dE (f:=f) h.i;exact⟨dO h.x hm,Pv.bg hm h.i,dO h.g hm,by rw[hi];exact h.lo,by rw[hi,ha q.x h.x,ha q.g h.g];exact h.val⟩
theorem Sn.ok.aK {T:ay} {q:Sn} (h:q.ok T ρ n) (ha:cu n ρ ai) (hm:n<=m):q.ok T ai m:=by obtain⟨r,h1,h2,h3⟩:=h.val;have hb:=h.b;refine⟨dO h.a hm,dO h.u hm,eR h.b hm,r,h1,?_,by rw[ha _ h.a,ha _ h.u];omega⟩;rw[<-h2];refine cK λj hj=>?_;rw[dP]at hj;exact ha _ (by omega)
theorem Sat.ext {T:ay} {p:Path} (h:Sat T f ρ p) (ha:cu p.nv ρ ai) {k:Nat} {fs:amY} (aj:∀g∈fs,g.lt (p.nv+k)) (dM:aJ (mu f ai) fs):
 Sat T f ai (p.ext k fs):=by
 refine⟨aw.bg (fL _ _) h.st,λg hg=>?_,λg hg=>?_,λe w x hx=>by rw[ha x (h.st.boxes _ hx)];exact h.wk e w x hx,λq hq=>(h.gH q hq).aK ha (fL _ _),λq hq=>(h.gh q hq).aK ha (fL _ _),λq hq=>(h.sn q hq).aK ha (fL _ _)⟩
 ·simp only[Path.ext,bB]at hg;rcases hg with hg|hg
  ·exact aj g hg
  ·exact Pv.bg (fL _ _) (h.lt g hg)
 ·simp only[Path.ext,bB]at hg;rcases hg with hg|hg
  ·exact dM g hg
  ·rw[ha.dE (h.lt g hg)];exact h.facts g hg
theorem Sat.more {T:ay} {p:Path} (h:Sat T f ρ p) {fs:amY} (aj:∀g∈fs,g.lt p.nv) (dM:aJ (mu f ρ) fs):Sat T f ρ (p.ext 0 fs):=
 h.ext (λ_ _=>rfl) aj dM
theorem Sat.entails {T:ay} {p:Path} (h:Sat T f ρ p) {g:aa} (he:Entails p.Γ g):0<=g.den (mu f ρ):=he _ h.facts
def bind' (ρ:Kr) (n:Nat) (l:amS):Nat->C:=λx=>if x<n then ρ x else l.getD (x-n) default
theorem eQ (ρ:Kr) (n:Nat) (l:amS):cu n ρ (bind' ρ n l):=λx hx=>by simp[bind',hx]
theorem Gf (ρ:Kr) (n:Nat) (l:amS) (j:Nat):bind' ρ n l (n+j)=l.getD j default:=by simp[bind'];omega
abbrev amV:=List AX
abbrev ank:=List AS
abbrev anm:=List (Option AK)
abbrev anr:=List (List AX)
abbrev anu:=List (Bool×List AX)
end Go.Pv
namespace Go.Pv
open Go
def bZ (l:amS):Nat->C:=λi=>l.getD i default
def dH (f:Nat->C->Int) (k:Nat) (ts:amY) (V:List C->Prop):Prop:=
 ∀g∈ts,g.lt k/\∀l,l.length=k->V l->0<=g.den (mu f (bZ l))
def kB (f:Nat->C->Int) (k:Nat) (t:List aa×List aa) (V:List C->Prop):Prop:=
 (∀g∈t.1,g.lt k)/\(∀g∈t.2,g.lt k)/\∀l,l.length=k->V l->(∀g∈t.1,0<=g.den (mu f (bZ l)))->∀g∈t.2,0<=g.den (mu f (bZ l))
def inst (vs:amG) (ts:amY):List aa:=ts.map (aa.cV λi=>vs.getD i 0)
theorem gI {f:Nat->C->Int} {k:Nat} {ts:amY} {V:List C->Prop} (h:dH f k ts V) {vs:amG} (hv:vs.length=k) {ρ:Kr} (hV:V (vs.map ρ)):aJ (mu f ρ) (inst vs ts):=by
 intro g hg;simp only[inst,aF]at hg;obtain⟨t,ht,rfl⟩:=hg;obtain⟨h1,h2⟩:=h t ht;rw[CK];have:=h2 (vs.map ρ) (by grind) hV;rw[vi h1 (ν:=mu f (bZ (vs.map ρ)))]
 ·omega
 ·intro a ha;simp only[mu,bZ];grind
theorem gJ {f:Nat->C->Int} {k n:Nat} {ts:amY} {V:List C->Prop} (h:dH f k ts V) {vs:amG} (hv:vs.length=k) (hn:∀v∈vs,v<n):∀g∈inst vs ts,g.lt n:=by intro g hg;simp only[inst,aF]at hg;obtain⟨t,ht,rfl⟩:=hg;refine F8 (h t ht).1 λx hx=>?_;simp_all
inductive LJ where
 |int
 |bool
 |rows
 |str
 deriving DecidableEq
structure Ms (T:ay) where
 f:Nat->C->Int
 qo:Nat->LJ
 LK:∀m,qo m= .str->∀c,f m c=f m (.str (aA c))
 CO:∀m,qo m= .rows->∀c e,f m c=f m (.sl e (ah c))
 h0:∀c,f 0 c=cD c
 hb:zB f
 h2:∀c,f 2 c=((ah c).length:Int)
 h3:∀c,f 3 c=((aA c).size:Int)
 base:Kd->List aa
 xp:∀k,dH f 1 (base k) λ_=>True
 fit:Nat->List aa
 xq:∀e,dH f 1 (fit e) λl=>∃c,l=[c]/\bN T (.sl e (ah c))
 lit:ByteArray->List aa
 qp:∀s,dH f 1 (lit s) λl=>l=[.str s]
 h1:∀c,f 1 c=if jh c then 1 else 0
 eqs:ByteArray->Option (Nat×Int)
 Gg:∀s m v,eqs s=some (m,v)->m<64/\∀c,fm (aA c) s=decide (f m c=v)
 zC:List (List aa×List aa)
 vj:∀t∈zC,kB f 1 t λ_=>True
 CP:List (List aa×List aa)
 zD:∀t∈CP,kB f 1 t λ_=>True
 cat:List aa
 xr:dH f 3 cat λl=>∃a b,l=[a,b, .str (aA a++aA b)]
 sub:List aa
 xt:dH f 2 sub λl=>∃a i j,l=[a, .str ((aA a).extract i j)]
 nil:Nat->List aa
 s8:∀e,dH f 1 (nil e) λl=>l=[.sl e []]
 row:Nat->List aa
 xu:∀e,dH f (1+(T e).length) (row e) λl=>∃a i,i<(ah a).length/\(∀r∈ah a,r.map C.kd=T e)/\l=a::(List.range (T e).length).map λj=>cellAt (ah a) i j
 app:Nat->List aa
 xv:∀e,dH f 3 (app e) λl=>∃a b,l=[a,b, .sl e (ah a++ah b)]
 snoc:Nat->List aa
 s9:∀e,dH f (2+(T e).length) (snoc e) λl=>∃a r,r.map C.kd=T e/\l=a:: .sl e (ah a++[r])::r
 zE:Nat->List (List aa×List aa)
 xw:∀e,∀t∈zE e,kB f (2+(T e).length) t λl=>∃a r,r.map C.kd=T e/\l=a:: .sl e (ah a++[r])::r
 cp:Nat->List aa
 xx:∀e,dH f (2+(T e).length+(T e).length) (cp e) λl=>∃a i r,i<(ah a).length/\(∀r∈ah a,r.map C.kd=T e)/\r.map C.kd=T e/\
  l=a:: .sl e ((ah a).set i r)::((List.range (T e).length).map (λj=>cellAt (ah a) i j)++r)
 zero:Nat->List aa
 xy:∀e,dH f 1 (zero e) λl=>∃n,l=[.sl e (fQ (T e) n)]
 ofStr:List aa
 xz:dH f 2 ofStr λl=>∃a,l=[a, .str (aA a)]
 rH:Nat->List aa
 my:∀e,dH f 2 (rH e) λl=>∃a,l=[a, .sl e (ah a)]
 LL:Nat->Option Int
 TW:∀m v,LL m=some v->qo m= .rows/\∀e,f m (.sl e [])=v
 LM:Nat->ByteArray->Option Int
 TX:∀m s v,LM m s=some v->qo m= .str/\f m (.str s)=v
 kZ:List Nat
 zG:∀k∈kZ,k<31
 many:Nat->Nat->List aa
 xA:∀e n,dH f (1+n*(T e).length) (many e n) λl=>∃(a:C) (is:amG),is.length=n/\is.Nodup/\(∀i∈is,i<(ah a).length)/\(∀r∈ah a,r.map C.kd=T e)/\
  l=a::is.flatMap λi=>(List.range (T e).length).map λj=>cellAt (ah a) i j
 CQ:Nat->List aa
 xB:∀e,dH f (2+(T e).length) (CQ e) λl=>∃a j,0<(ah a).length/\(∀r∈ah a,r.map C.kd=T e)/\l=a:: .sl e (((ah a).drop 1).take j)::(List.range (T e).length).map λj=>cellAt (ah a) 0 j
 grow:Nat->List aa
 xD:∀e,dH f (2+(T e).length) (grow e) λl=>∃a i,i<(ah a).length/\(∀r∈ah a,r.map C.kd=T e)/\l=a:: .sl e ((ah a).take i)::(List.range (T e).length).map λj=>cellAt (ah a) i j
 gd:Nat->Nat->List aa
 zH:∀(e s m k:Nat) gs,dh (Go.Pv.base e)=some (k,gs)->(s,m)∈gs->∀g∈gd e s,g.lt m
 LN:∀(e s:Nat) (r:amS),T.G e s r↔∀g∈gd e s,0<=g.den (mu f (bZ r))
 wk:Nat->List aa
 xE:∀e,dH f 2 (wk e) λl=>∃a,l=[a,eJ 3 (.sl e (ah a))]/\bN T (.sl e (ah a))
 pair:Nat->List (List aa×List aa)
 zI:∀e,∀t∈pair e,kB f (4+(T e).length+(T e).length) t λl=>∃a u b w r r',r.map C.kd=T e/\r'.map C.kd=T e/\ah u=ah a++[r]/\ah w=ah b++[r']/\l=a::u::b::w::(r++r')
 CR:List (List aa×List aa)
 zJ:∀t∈CR,kB f 3 t λl=>∃e a b,l=[a,b, .sl e (ah a++ah b)]
 CS:Nat->List (List aa×List aa)
 zK:∀e,∀t∈CS e,kB f (2+(T e).length+(T e).length) t λl=>∃a i r,i<(ah a).length/\(∀r∈ah a,r.map C.kd=T e)/\r.map C.kd=T e/\
  l=a:: .sl e ((ah a).set i r)::((List.range (T e).length).map (λj=>cellAt (ah a) i j)++r)
 vk:Nat->List (List aa×List aa)
 xF:∀e,∀t∈vk e,kB f (2+(T e).length+(T e).length) t λl=>∃a b i,i<(ah a).length/\i<(ah b).length/\(∀r∈ah a,r.map C.kd=T e)/\(∀r∈ah b,r.map C.kd=T e)/\
  l=a::b::((List.range (T e).length).map (λj=>cellAt (ah a) i j)++(List.range (T e).length).map λj=>cellAt (ah b) i j)
 sq:Option Nat
 xG:∀m,sq=some m->m<64/\∀a b,f m a=f m b->aA a=aA b
 part:Nat->List aa
 ta:∀e,dH f 2 (part e) λl=>∃a i j,l=[a, .sl e (((ah a).drop i).take j)]
def R.wp (r:R) (G:S->Prop):Prop:=
 match r with
 | .bad=>False
 | .v s=>G s
 | .ck p s=>p/\G s
 | .fk p s=>p->G s
theorem LO (r:R) (g:S->St) (K:amX):(r.iW g).wp K↔r.wp (λs=>K (g s)):=by cases r<;>exact ez
variable {T:ay} {σ:Type}
def KX (ms:Ms T) (K:Path->AX->σ->Option σ) (p:Path) (ρ:Kr) (G:X->Prop):Prop:=
 ∀p' v s1 s2,K p' v s1=some s2->p'.st=p.st->p.nv<=p'.nv->∀ai,Sat T ms.f ai p'->cu p.nv ρ ai->v.lt p'.nv->G (v.den ms.f ai)
theorem cu.trans {n m:Nat} {a b c:Kr} (h:cu n a b) (h':cu m b c) (hm:n<=m):cu n a c:=λx hx=>by rw[h' x (by omega),h x hx]
def oc (p:Path) (fs:Nat->List aa):Path:=p.ext 1 (fs p.nv)
theorem bS (ρ:Kr) (n:Nat) (c:C):bind' ρ n [c] n=c:=by simp[bind']
theorem LP {f:Nat->C->Int} {ρ:Kr} {p:Path} (h:Sat T f ρ p) (c:C) {fs:Nat->List aa} (h1:∀g∈fs p.nv,g.lt (p.nv+1))
 (h2:aJ (mu f (bind' ρ p.nv [c])) (fs p.nv)):Sat T f (bind' ρ p.nv [c]) (oc p fs):=h.ext (eQ _ _ _) h1 h2
theorem aJ.append {μ:Nat->Int} {a b:amY} (h1:aJ μ a) (h2:aJ μ b):aJ μ (a++b):=λg hg=>by
 rcases bB.1 hg with h|h
 ·exact h1 g h
 ·exact h2 g h
def vl (k:IntKind) (e:aa):List aa:=[e.bI (-k.min),(aa.const k.max).sub e]
theorem Gi {μ:Nat->Int} {k:IntKind} {e:aa} (h:iA k (e.den μ)):aJ μ (vl k e):=by
 intro g hg;simp only[vl,az,bL,bM]at hg;obtain⟨h1,h2⟩:=h;rcases hg with rfl|rfl
 ·rw[cO];omega
 ·rw[br,cg];omega
theorem Gj {n:Nat} {k:IntKind} {e:aa} (h:e.lt n):∀g∈vl k e,g.lt n:=by
 intro g hg;simp only[vl,az,bL,bM]at hg;rcases hg with rfl|rfl
 ·assumption
 ·exact cX (dY _ _) h
def zL (p:Path) (k:IntKind) (fs:Nat->List aa) (K:Path->AX->σ->Option σ) (s:σ):Option σ:=
 K (oc p λy=>fs y++vl k (af 0 y)) (.int k (af 0 p.nv)) s
theorem CT {ms:Ms T} {p:Path} {k:IntKind} {fs:Nat->List aa} {K:Path->AX->σ->Option σ} {s s':σ} {ρ:Kr} {G:X->Prop}
 (h:zL p k fs K s=some s') (hs:Sat T ms.f ρ p) (hK:KX ms K p ρ G) {n:Int} (hn:iA k n) (aj:∀g∈fs p.nv,g.lt (p.nv+1))
 (dM:∀ai,cu p.nv ρ ai->ms.f 0 (ai p.nv)=n->aJ (mu ms.f ai) (fs p.nv)):G (.c (.int k n)):=by
 have aL:=eQ ρ p.nv [C.int k n];have h0:ms.f 0 (bind' ρ p.nv [C.int k n] p.nv)=n:=by rw[bS,ms.h0];rfl
 have hd:(af 0 p.nv).den (mu ms.f (bind' ρ p.nv [C.int k n]))=n:=by rw[au _ _ (by omega),h0]
 have:=hK _ _ _ _ h rfl (fL _ _) (bind' ρ p.nv [C.int k n]) (LP hs (.int k n) (λg hg=>?_) ?_) aL (aI (bQ _) (by omega))
 ·simp only[AX.den,hd]at this;omega
 ·rcases bB.1 hg with h'|h'
  ·grind
  ·exact Gj (aI (bQ _) (by omega)) g h'
 ·exact(dM _ aL h0).append (Gi (by grind))
theorem LQ (k:IntKind) (n:Int):iA k (k.wrap n):=by
 have h2:(2:Int)^k.bits=2*2^(k.bits-1):=by cases k<;>decide
 have hp:(0:Int)<2^(k.bits-1):=by cases k<;>decide
 have h0:0<=n%(2:Int)^k.bits:=Int.emod_nonneg _ (by omega);have h1:n%(2:Int)^k.bits<2^k.bits:=Int.emod_lt_of_pos _ (by omega);unfold iA IntKind.wrap IntKind.min IntKind.max;grind
theorem Gk {k:IntKind} {n:Int} (h:iA k n):k.wrap n=n:=by
 have h2:(2:Int)^k.bits=2*2^(k.bits-1):=by cases k<;>decide
 have hp:(0:Int)<2^(k.bits-1):=by cases k<;>decide
 unfold iA IntKind.min IntKind.max at h;unfold IntKind.wrap;dsimp only;cases hs:k.signed<;>simp only[hs,yC,PR,cJ,qL,py]at h⊢
 ·exact ZG (by omega) (by omega)
 ·by_cases hn:0<=n
  ·rw[ZG hn (by omega)];grind
  ·have:n%(2:Int)^k.bits=n+2^k.bits:=by rw[<-Int.add_emod_right,ZG (by omega) (by omega)]
   grind
def xH (ask:Ask σ) (p:Path) (k:IntKind) (e:aa) (K:Path->AX->σ->Option σ) (s:σ):Option σ:=
 may ask p.Γ (e.bI (-k.min)) (λb1=>may ask p.Γ ((aa.const k.max).sub e) (λb2=>
  match b1&&b2 with
  |true=>K p (.int k e)
  |false=>zL p k (λ_=>[]) K)) s
theorem zN {ms:Ms T} {ask:Ask σ} (ha:ca ask) {p:Path} {k:IntKind} {e:aa} {K:Path->AX->σ->Option σ} {s s':σ} {ρ:Kr} {G:X->Prop}
 (h:xH ask p k e K s=some s') (hs:Sat T ms.f ρ p) (hK:KX ms K p ρ G) (he:e.lt p.nv):G (.c (.int k (k.wrap (e.den (mu ms.f ρ))))):=by
 obtain⟨b1,s1,h1,e1⟩:=qn ha h;obtain⟨b2,s2,h2,e2⟩:=qn ha h1;cases hb:b1&&b2 with
 |true=>rw[hb]at h2;simp only[aB]at hb;have i1:=hs.entails (e1 hb.1);have i2:=hs.entails (e2 hb.2);rw[cO]at i1;rw[br,cg]at i2;rw[Gk ⟨by omega,by omega⟩];exact hK _ _ _ _ h2 rfl (bh _) ρ hs (λ_ _=>rfl) he
 |false=>rw[hb]at h2;exact CT h2 hs hK (LQ k _) (λg hg=>by grind) λ_ _ _ g hg=>by grind
def AB.mkLe (e:aa):AB:=
 match e with
 |⟨.ofNat _,[]⟩=> .lit true
 |⟨.negSucc _,[]⟩=> .lit false
 |e=> .le e
def AB.mkEq (e:aa):AB:=
 match e with
 |⟨c,[]⟩=> .lit (decide (c=0))
 |e=> .eq e
def AB.mkNot:AB->AB
 | .lit b=> .lit !b
 | .not b=>b
 |b=> .not b
variable {f:Nat->C->Int} {ρ:Kr} {n:Nat}
theorem Gl (e:aa):(AB.mkLe e).den f ρ=decide (0<=e.den (mu f ρ)):=by
 unfold AB.mkLe;split
 all_goals rfl
theorem CU (e:aa):(AB.mkEq e).den f ρ=decide (e.den (mu f ρ)=0):=by
 unfold AB.mkEq;split
 ·simp[AB.den,aa.den,b9]
 ·rfl
theorem xI (b:AB):(AB.mkNot b).den f ρ=!b.den f ρ:=by unfold AB.mkNot;split<;>simp[AB.den]
theorem Gm {e:aa} (h:e.lt n):(AB.mkLe e).lt n:=by unfold AB.mkLe;split<;>first|trivial|exact h
theorem Gn {e:aa} (h:e.lt n):(AB.mkEq e).lt n:=by unfold AB.mkEq;split<;>first|trivial|exact h
theorem xJ {b:AB} (h:b.lt n):(AB.mkNot b).lt n:=by unfold AB.mkNot;split<;>first|trivial|exact h
def zO (ms:Ms T) (p:Path) (K:Path->AX->σ->Option σ) (s:σ):Option σ:=K (oc p λy=>inst [y] (ms.base .bool)) (.bool (.var p.nv)) s
theorem gU (ms:Ms T) (k:Kd) {ρ:Kr} (y:Nat):aJ (mu ms.f ρ) (inst [y] (ms.base k)):=gI (ms.xp k) rfl trivial
theorem LR (ms:Ms T) {e:Nat} {ρ:Kr} {y:Nat} (h:bN T (.sl e (ah (ρ y)))):aJ (mu ms.f ρ) (inst [y] (ms.fit e)):=gI (ms.xq e) rfl ⟨ρ y,rfl,h⟩
theorem LS (ms:Ms T) (e:Nat) {y n:Nat} (h:y<n):∀g∈inst [y] (ms.fit e),g.lt n:=gJ (ms.xq e) rfl (by grind)
theorem gV (ms:Ms T) (k:Kd) {y n:Nat} (h:y<n):∀g∈inst [y] (ms.base k),g.lt n:=gJ (ms.xp k) rfl (by grind)
theorem TY {ms:Ms T} {p:Path} {K:Path->AX->σ->Option σ} {s s':σ} {ρ:Kr} {G:X->Prop} (h:zO ms p K s=some s') (hs:Sat T ms.f ρ p) (hK:KX ms K p ρ G) (b:Bool):
 G (.c (.bool b)):=by
 have:=hK _ _ _ _ h rfl (fL _ _) (bind' ρ p.nv [C.bool b]) (LP hs (.bool b) (gV ms _ (bQ _)) (gU ms _ _)) (eQ _ _ _) (bQ _);simp only[AX.den,AB.den,bS,jh]at this;omega
def od (e:aa):Option Int:=
 match e with
 |⟨c,[]⟩=>some c
 |_=>none
theorem vm {e:aa} {c:Int} (h:od e=some c) {μ:Nat->Int}:e.den μ=c:=by
 unfold od at h;split at h
 ·simp only[ae]at h;subst h;simp[aa.den,b9]
 grind
def LU (a b:aa) (nn:Bool) (y:Nat):List aa:=
 match nn,od b with
 |true,some c=>[af 0 y,a.sub ((af 0 y).smul c),(((af 0 y).smul c).bI (c-1)).sub a]
 |true,none=>[af 0 y,a.sub (af 0 y)]
 |false,_=>[]
def LV (b:aa) (nn:Bool) (y:Nat):List aa:=
 ((b.sub (af 0 y)).bI (-1))::(match nn with|true=>[af 0 y]|false=>[((af 0 y).add b).bI (-1)])
def LW (ask:Ask σ) (ms:Ms T) (p:Path) (op:BinOp) (k:IntKind) (a b:aa) (K:Path->AX->σ->Option σ):σ->Option σ:=
 match op with
 | .add=>xH ask p k (a.add b) K
 | .sub=>xH ask p k (a.sub b) K
 | .mul=>
  (match od a,od b with
  |some c,_=>xH ask p k (b.smul c) K
  |none,some c=>xH ask p k (a.smul c) K
  |none,none=>zL p k (λ_=>[]) K)
 | .quo=>gT ask p.Γ (b.bI (-1)) (may ask p.Γ a λn1=>may ask p.Γ ((aa.const k.max).sub a) λn2=>zL p k (LU a b (n1&&n2)) K)
 | .rem=>gT ask p.Γ (b.bI (-1)) (gT ask p.Γ ((aa.const k.max).sub b) (may ask p.Γ a λnn=>
  match nn||k.signed with
  |true=>zL p k (LV b nn) K
  |false=>λ_=>none))
 | .eql=>K p (.bool (.mkEq (a.sub b)))
 | .neq=>K p (.bool (.mkNot (.mkEq (a.sub b))))
 | .lss=>K p (.bool (.mkLe ((b.sub a).bI (-1))))
 | .leq=>K p (.bool (.mkLe (b.sub a)))
 | .gtr=>K p (.bool (.mkLe ((a.sub b).bI (-1))))
 | .geq=>K p (.bool (.mkLe (a.sub b)))
 |_=>λ_=>none
theorem aeo (a:Int) {b:Int} (hb:0<b):-(b-1)<=a.tmod b:=by
 rcases Int.le_total 0 a with h|h
 ·have:=ZH b h;omega
 ·have h1:(-a).tmod b=-(a.tmod b):=Int.neg_tmod a b;have h2:=ZI (-a) hb;omega
theorem LX {a b:Int} (ha:0<=a) (hb:0<b):0<=a.tdiv b/\a.tdiv b<=a/\b*a.tdiv b<=a/\a<=b*a.tdiv b+(b-1):=by
 have h1:=Int.tdiv_nonneg ha (ZJ hb);have h2:=ZH b ha;have h3:=ZI a hb;have h4:a.tmod b+b*a.tdiv b=a:=Int.tmod_add_mul_tdiv a b;have h5:a.tdiv b<=b*a.tdiv b:=by have:=alD (show(1:Int)<=b by omega) h1;omega
 omega
def aep (op:BinOp) (k:IntKind) (a b:Int):R:=match op with| .rem=>BA k a b|_=>yM op k a b
theorem aeq {ms:Ms T} {ask:Ask σ} (ha:ca ask) {p:Path} {op:BinOp} {k:IntKind} {a b:aa} {K:Path->AX->σ->Option σ} {s s':σ} {ρ:Kr} {G:X->Prop}
 (h:LW ask ms p op k a b K s=some s') (hs:Sat T ms.f ρ p) (hK:KX ms K p ρ G) (la:a.lt p.nv) (lb:b.lt p.nv):
 (aep op k (a.den (mu ms.f ρ)) (b.den (mu ms.f ρ))).wp λs=>∃x,s=S.one x/\G x:=by
 have direct:∀{b:AB} {s:σ},K p (.bool b) s=some s'->b.lt p.nv->G (.c (.bool (b.den ms.f ρ))):=λh lb=>hK _ _ _ _ h rfl (bh _) ρ hs (λ_ _=>rfl) lb;unfold LW at h;split at h
 ·refine⟨_,rfl,?_⟩;have:=zN ha h hs hK (nd la lb);rwa[den_add]at this
 ·refine⟨_,rfl,?_⟩;have:=zN ha h hs hK (cX la lb);rwa[br]at this
 ·refine⟨_,rfl,?_⟩;cases hc:od a with
  |some c=>rw[hc]at h;have:=zN ha h hs hK (xi _ lb);rw[s5]at this;rw[vm hc];omega
  |none=>
  cases hd:od b with
  |some c=>rw[hc,hd]at h;have:=zN ha h hs hK (xi _ la);rw[s5]at this;rw[vm hd,Int.mul_comm];omega
  |none=>rw[hc,hd]at h;exact CT h hs hK (LQ k _) (λg hg=>by grind) λ_ _ _ g hg=>by grind
 ·obtain⟨h1,s1,h⟩:=ix ha h;obtain⟨n1,s2,h,e1⟩:=qn ha h;obtain⟨n2,s3,h,e2⟩:=qn ha h;have h1:=hs.entails h1;rw[cO]at h1;refine⟨by omega,_,rfl,?_⟩;refine CT h hs hK (LQ k _) (λg hg=>?_) λai aL h0=>?_
  ·have l0:(af 0 p.nv).lt (p.nv+1):=aI (bQ _) (by omega);have te:=bg (pA p.nv) la;unfold LU at hg;split at hg
   ·simp only[az,bL,bM]at hg;rcases hg with rfl|rfl|rfl
    ·omega
    ·exact cX te (xi _ l0)
    ·exact cX (gS _ (xi _ l0)) te
   ·simp only[az,bL,bM]at hg;rcases hg with rfl|rfl
    ·omega
    ·exact cX te l0
   grind
  ·have hy:(af 0 p.nv).den (mu ms.f ai)=_:=(au _ _ (by omega)).trans h0;have hA:=aL.dE (f:=ms.f) la;have key:(n1&&n2)=true->k.wrap ((a.den (mu ms.f ρ)).tdiv (b.den (mu ms.f ρ)))=(a.den (mu ms.f ρ)).tdiv (b.den (mu ms.f ρ))/\0<=a.den (mu ms.f ρ):=by
    intro hn;simp only[aB]at hn;have i1:=hs.entails (e1 hn.1);have i2:=hs.entails (e2 hn.2);rw[br,cg]at i2;obtain⟨d1,d2,_,_⟩:=LX i1 (b:=b.den (mu ms.f ρ)) (by omega);have TZ:k.min<=0:=by cases k<;>decide
    exact⟨Gk ⟨by omega,by omega⟩,i1⟩
   intro g hg;unfold LU at hg;split at hg
   ·rename_i c hn hc;obtain⟨hw,i1⟩:=key hn;rw[hw]at hy;obtain⟨d1,d2,d3,d4⟩:=LX i1 (b:=b.den (mu ms.f ρ)) (by omega);rw[vm hc]at*;simp only[az,bL,bM]at hg;rcases hg with rfl|rfl|rfl
    ·omega
    ·rw[br,s5,hy,hA];omega
    ·rw[br,cO,s5,hy,hA];omega
   ·rename_i hn hc;obtain⟨hw,i1⟩:=key hn;rw[hw]at hy;obtain⟨d1,d2,d3,d4⟩:=LX i1 (b:=b.den (mu ms.f ρ)) (by omega);simp only[az,bL,bM]at hg;rcases hg with rfl|rfl
    ·omega
    ·rw[br,hy,hA];omega
   grind
 ·obtain⟨h1,s1,h⟩:=ix ha h;obtain⟨h2,s2,h⟩:=ix ha h;obtain⟨nn,s3,h,e1⟩:=qn ha h;have h1:=hs.entails h1;have h2:=hs.entails h2;rw[cO]at h1;rw[br,cg]at h2;have t1:=ZI (a.den (mu ms.f ρ)) (b:=b.den (mu ms.f ρ)) (by omega);have t2:=aeo (a.den (mu ms.f ρ)) (b:=b.den (mu ms.f ρ)) (by omega);have t3:nn=true->0<=(a.den (mu ms.f ρ)).tmod (b.den (mu ms.f ρ)):=λhn=>ZH _ (hs.entails (e1 hn));cases zh:(nn||k.signed)with
  |true=>
   rw[zh]at h;have hr:iA k ((a.den (mu ms.f ρ)).tmod (b.den (mu ms.f ρ))):=by
    refine⟨?_,by omega⟩;cases hn:nn with
    |true=>
     have TZ:k.min<=0:=by cases k<;>decide
     grind
    |false=>
     rw[hn,kM]at zh;have TZ:k.min<=-k.max:=by cases k<;>first|decide|(simp[IntKind.signed]at zh)
     omega
   refine⟨⟨by omega,hr⟩,_,rfl,?_⟩;refine CT h hs hK hr (λg hg=>?_) λai aL h0=>?_
   ·have l0:(af 0 p.nv).lt (p.nv+1):=aI (bQ _) (by omega);have vn:=bg (pA p.nv) lb;unfold LV at hg;simp only[az]at hg;rcases hg with rfl|hg
    ·exact gS _ (cX vn l0)
    ·split at hg
     ·grind
     ·simp only[a8]at hg;subst hg;exact gS _ (nd l0 vn)
   ·have hy:(af 0 p.nv).den (mu ms.f ai)=_:=(au _ _ (by omega)).trans h0;have hB:=aL.dE (f:=ms.f) lb;intro g hg;unfold LV at hg;simp only[az]at hg;rcases hg with rfl|hg
    ·rw[cO,br,hy,hB];omega
    ·split at hg
     ·grind
     ·simp only[a8]at hg;subst hg;rw[cO,den_add,hy,hB];omega
  |false=>grind
 ·refine⟨_,rfl,?_⟩;have:=direct h (Gn (cX la lb));rw[CU,br]at this;grind
 ·refine⟨_,rfl,?_⟩;have:=direct h (xJ (Gn (cX la lb)));rw[xI,CU,br]at this;grind
 ·refine⟨_,rfl,?_⟩;have:=direct h (Gm (gS _ (cX lb la)));rw[Gl,cO,br]at this;grind
 ·refine⟨_,rfl,?_⟩;have:=direct h (Gm (cX lb la));rw[Gl,br]at this;grind
 ·refine⟨_,rfl,?_⟩;have:=direct h (Gm (gS _ (cX la lb)));rw[Gl,cO,br]at this;grind
 ·refine⟨_,rfl,?_⟩;have:=direct h (Gm (cX la lb));rw[Gl,br]at this;grind
 grind
end Go.Pv
