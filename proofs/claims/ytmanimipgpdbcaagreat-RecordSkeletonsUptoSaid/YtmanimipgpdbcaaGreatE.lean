/- Part of the proof of RecordSkeletons. -/
import Derived.Test.YtmanimipgpdbcaaGreatA
import Derived.Test.YtmanimipgpdbcaaGreatB
import Derived.Test.YtmanimipgpdbcaaGreatD
import Derived.ChangeArms
import Derived.ChangeSame
import Derived.DataShut
import Derived.Deep.Slices
import Derived.JoinedCond
import Derived.JoinedOf
import Derived.KernelRfl
import Derived.OpenShut
import Derived.ProofKit
import Derived.Test.YtmanimipgpdbcaaGreatRows
set_option linter.unusedVariables false
set_option linter.unusedSimpArgs false
namespace Go.Pv
open Go Go.Proofs Go.Proofs.YtmanimipgpdbcaaGreat
theorem Pd {T:ay} {ms:Ms T} {a:bk} (hw:a.WF T) {N:Option Int} {ss:amZ} {bs:anb} {sp:Sp} (h:(a.dN ms N).sp ss bs=some sp):sp.tight bs.length a.new:=by
 simp only[bk.dN]at h;split at h
 ·rename_i hc;simp only[ae]at h;subst h;simp only[aB]at hc;have ph:=(xY hc.2).2;intro x;refine⟨⟨?_,λl hl e=>?_⟩,λy hy=>⟨λb aR=>?_,?_⟩,λl hl y hy=>⟨λb aR=>?_,?_⟩⟩
  ·simp only[dI];rw[hw.len,ph]
  ·obtain⟨l0,dc,rfl⟩:=aF.1 hl;exact hw.ne l0 dc (by simpa using e)
  ·rw[tn]at hy;obtain⟨y0,iK,rfl⟩:=aF.1 hy;rw[Dl]at aR;have:=hw.tight.1 y0 iK b aR;rw[ph];exact this
  ·rw[tn]at hy;obtain⟨y0,iK,rfl⟩:=aF.1 hy;exact Hl (hw.op.1 y0 iK)
  ·obtain⟨l0,dc,rfl⟩:=aF.1 hl;obtain⟨y0,iK,rfl⟩:=aF.1 hy;rw[Dl]at aR;have:=hw.tight.2 l0 dc y0 iK b aR;rw[ph];exact this
  ·obtain⟨l0,dc,rfl⟩:=aF.1 hl;obtain⟨y0,iK,rfl⟩:=aF.1 hy;exact Hl (hw.op.2 l0 dc y0 iK)
 ·cases h
theorem ajC {ss:amZ} (h:fv [.one .str] ss=true):∃s,ss=[Z s]:=by
 match ss,h with
 |[.one (.c (.str s))],_=>exact⟨s,rfl⟩
theorem ajD {ss:amZ} (h:fv [.one .str, .one (.int .i64)] ss=true):∃s n,ss=[Z s,I n]:=by
 match ss,h with
 |[.one (.c (.str s)), .one (.c (.int k n))],h=>
  have:k= .i64:=by simpa[fv,PS.fits,PX.fits]using h
  subst this;exact⟨s,n,rfl⟩
 |_::_::_::_,h=>simp[fv]at h
theorem IN {bs:anb} (h:lJ [] bs=true):bs=[]:=by
 match bs,h with
 |[],_=>rfl
theorem Yr {P:Program} {T:ay}:m3 P T λ_=>none:=⟨λ_ _ h=>by(cases h),λ_ _ _ _ _ h=>by(cases h),λ_ _ _ _ _ h=>by(cases h),λ_ _ _ _ _ h=>by(cases h),λ_ _ _ _ _ h=>by(cases h),λ_ _ h=>by(cases h)⟩
theorem qG {st:St} {t:Nat} {s:S} (h:st.aq[t]?=some s):st.get t=s:=by simp only[St.get,aZ,h,fh]
def Ea:cb:=⟨[[.bo],[.bo]],[],false,[],false,true,[.one .str, .one (.int .i64)],[],[⟨0,[(64,1)]⟩,⟨0,[(3,1),(64,-1)]⟩],⟨0,[(64,1)]⟩, .one (.fresh (.int .i64)),[],[[⟨0,[(128,1)]⟩]],[],[]⟩
theorem amA:YtmanimipgpdbcaaGreat.Good 293 Ea:=by
 have hc:dT (c0 λ_=>none):=⟨D7,Yr⟩
 have hw:(Ea.cB tb).WF tb:=bk.x9 (by kernel_rfl);refine⟨rE (dr:=gi (c0 λ_=>none)) (cl:=[]) hc (qB hc follows) (fn:=Tryz.f293) 10 (by kernel_rfl) (by kernel_rfl) (by kernel_rfl) (by show 10<53;omega) ?_,hw⟩;intro ss bs sp h;have ht:=Pd hw h;simp only[bk.dN]at h;split at h
 case isFalse=>cases h
 rename_i hf;simp only[aB]at hf;obtain⟨s,n,rfl⟩:=ajD hf.1;obtain rfl:=IN hf.2;simp only[ae]at h;subst h;refine⟨by show 2<=53;omega,ht,λhs=>?_⟩;have hn:0<=n:=by have:=hs.1 _ kj;simpa[aa.den,b9,mu,ms.h0,cD,bk.env,qu,lL,bZ,rS,Ea,cb.cB,S.xs,X.dx]using this
 obtain⟨a,rfl⟩:=Int.eq_ofNat_of_zero_le hn;refine ajB s a _ λst i hi h4 hg=>⟨λh=>(by cases h),[(false,[.c (.int .i64 i)])],?_,λ_=> .int .i64 i,?_,?_,?_⟩
 ·show eV _ _ st [.tmp 4]=_;simp only[eV,jo,qG h4]
 ·refine .inl ⟨λg hg=>?_,trivial⟩;obtain rfl:=a8.1 hg;simp[aa.den,b9,mu,ms.h0,cD,comb,bk.na,bk.nl,lens,lK,PS.len,gK,Ea,cb.cB]
 ·refine⟨rfl,?_⟩;rw[au _ _ (by omega)];simp[ms.h0,cD,comb,bk.na,cb.na,cb.nl,bk.nl,lens,lK,PS.len,gK,Ea,cb.cB]
 ·exact trivial
theorem Pe:zl Tryz.prog tb 184 Bb:=by
 have hc:dT (c0 λ_=>none):=⟨D7,Yr⟩
 refine rE (dr:=gi (c0 λ_=>none)) (cl:=[]) hc (qB hc follows) (fn:=Tryz.f184) 10 (by kernel_rfl) (by kernel_rfl) (by kernel_rfl) (by show 10<18;omega) ?_;intro ss bs sp h;unfold Bb at h;simp only at h;split at h
 ·rename_i s;simp only[ae]at h;subst h;refine⟨by show 1<=18;omega,λx=>⟨⟨rfl,λl hl=>(by cases hl)⟩,λy hy=>?_,λl hl=>(by cases hl)⟩,λ_=>?_⟩
  ·obtain rfl:=a8.1 hy;exact⟨λb hb=>(by cases hb),rfl⟩
  ·refine ajE s _ λst h2=>⟨λh=>(by cases h),[(false,[.c (.int .i64 (fK s s.size))])],?_,(),trivial,⟨rfl,rfl⟩,trivial⟩
   show eV _ _ st [.tmp 2]=_;simp only[eV,jo,qG h2]
 ·cases h
theorem ajF {ss:amZ} {bs:anb} {sp:Sp} (h:Bb.sp ss bs=some sp):∃s:ByteArray,sp=⟨True,Unit,λ_=>True,λ_=>I (fK s s.size),λ_=>[]⟩:=by
 unfold Bb at h;simp only at h;split at h
 ·simp only[ae]at h;exact⟨_,h.symm⟩
 ·cases h
theorem ajG:m3 Tryz.prog tb vX:=by
 have get:∀f fs,vX f=some fs->f=184/\fs=Bb:=by
  intro f fs h;unfold vX at h;split at h
  ·rename_i e;exact⟨e,by simpa using h.symm⟩
  ·cases h
 refine⟨λf fs h=>?_,λf fs ss bs sp h hs=>?_,λf fs ss bs sp h hs=>?_,λf fs ss bs sp h hs hk=>?_,λf fs ss bs sp h hs hk=>?_,λf fs h hk=>?_⟩;all_goals obtain⟨rfl,rfl⟩:=get _ _ h
 ·exact Pe.1
 ·exact(Pe.2 ss bs sp hs).1
 ·exact(Pe.2 ss bs sp hs).2
 ·cases hk
 ·obtain⟨s,rfl⟩:=ajF hs;intro x y hy;obtain rfl:=a8.1 hy;rfl
 ·rfl
def Eb:cb:=⟨[[.bo]],[],false,[],false,true,[.one .str],[],[],⟨0,[]⟩, .bj [(false,[.fresh .str]),(false,[.fresh .str]),(false,[.fresh .bool])],[],[[⟨-1,[(193,1)]⟩,⟨0,[(3,1),(67,-1),(131,-1)]⟩],[⟨0,[(193,-1)]⟩]],[],[]⟩
theorem amB:YtmanimipgpdbcaaGreat.Good 126 Eb:=by
 have hc:dT (c0 vX):=⟨D7,ajG⟩
 have hw:(Eb.cB tb).WF tb:=bk.x9 (by kernel_rfl);refine⟨rE (dr:=gi (c0 vX)) (cl:=[]) hc (qB hc follows) (fn:=Tryz.f126) 1 (by kernel_rfl) (by kernel_rfl) (by kernel_rfl) (by show 1<35;omega) ?_,hw⟩;intro ss bs sp h;have ht:=Pd hw h;simp only[bk.dN]at h;split at h
 case isFalse=>cases h
 rename_i hf;simp only[aB]at hf;obtain⟨s,rfl⟩:=ajC hf.1;obtain rfl:=IN hf.2;simp only[ae]at h;subst h;refine⟨by show 1<=35;omega,ht,λ_=>?_⟩;refine ajA hc s _ λst a b t h2 h3 h4 hg h5 h6=>⟨λh=>(by cases h),[(false,[.c (.str a)]),(false,[.c (.str b)]),(false,[.c (.bool t)])],?_,λj=>(match j with|0=> .str a|1=> .str b|_=> .bool t),?_,?_,?_⟩
 ·show eV _ _ st [.tmp 2, .tmp 3, .tmp 4]=_;simp only[eV,jo,qG h2,qG h3,qG h4]
 ·cases t with
  |true=>
   refine .inl ⟨λg hg=>?_,trivial⟩;rcases az.1 hg with rfl|hg
   ·simp[aa.den,b9,mu,ms.h1,jh,comb,bk.na,bk.nl,lens,lK,PS.len,gK,Eb,cb.cB]
   ·obtain rfl:=a8.1 hg;simp[aa.den,b9,mu,ms.h3,aA,comb,bk.na,bk.nl,lens,lK,PS.len,gK,Eb,cb.cB,bk.env,qu,lL,bZ,rS,S.xs,X.dx];omega
  |false=>refine .inr ⟨_,a8.2 rfl,λg hg=>?_⟩;obtain rfl:=a8.1 hg;simp[aa.den,b9,mu,ms.h1,jh,comb,bk.na,bk.nl,lens,lK,PS.len,gK,Eb,cb.cB]
 ·refine⟨?_,?_,?_,trivial⟩;all_goals exact⟨rfl,rfl,trivial⟩
 ·exact trivial
end Go.Pv
namespace Go.Pv
open Go Go.Proofs Go.Proofs.YtmanimipgpdbcaaGreat
theorem Ys:tb 47=[.str, .sl 47]:=by kernel_rfl
theorem IP:aH 4 [.str, .sl 47] 0=false/\aH 4 [.str, .sl 47] 1=true:=⟨by decide,by decide⟩
abbrev sR (w:List C->Int) (a:Y9):Int:=aS w (aH 4) a
abbrev nR (a:Y9):Int:=sR (λ_=>1) a
def ty (n:ByteArray) (a:Y9):List C:=[.str n, .sl 47 a]
theorem Pf {r:amS} (h:r.map C.kd=tb 47):r=ty (aA (r.getD 0 default)) (ah (r.getD 1 default)):=by
 rw[Ys]at h
 match r,h with
 |[],h=>simp at h
 |[_],h=>simp at h
 |_::_::_::_,h=>simp at h
 |[c,d],h=>simp only[bu,mL,ua,lU]at h;cases c<;>simp[C.kd]at h;cases d<;>simp[C.kd]at h;subst h;rfl
theorem Yt (w:List C->Int) (n:ByteArray) (a:Y9):dJ w (aH 4) (ty n a)=w (ty n a)+sR w a:=by have h1:=IP.1;have h2:=IP.2;show _=w (ty n a)+aS w (aH 4) a;simp only[dJ,ty,bu,mL,C.kd,eG,h1,h2,ew,eI];omega
theorem IQ {w:List C->Int} {a:Y9} (hk:∀r∈a,r.map C.kd=tb 47) {i:Nat} (hi:i<a.length):
 sR w (a.take (i+1))=sR w (a.take i)+(w (ty (aA (cellAt a i 0)) (ah (cellAt a i 1)))+sR w (ah (cellAt a i 1))):=by
 have h:=Pf (hk a[i] (fz hi));rw[alN hi];show aS w (aH 4) _=aS w (aH 4) _+_;have e0:cellAt a i 0=a[i].getD 0 default:=by simp[cellAt,aZ,aP hi]
 have e1:cellAt a i 1=a[i].getD 1 default:=by simp[cellAt,aZ,aP hi]
 rw[D1,e0,e1,<-Yt,<-h]
theorem Ec {w:List C->Int} (hw:∀r,0<=w r) {a:Y9} (hk:∀r∈a,r.map C.kd=tb 47) {i:Nat} (hi:i<a.length):
 w (ty (aA (cellAt a i 0)) (ah (cellAt a i 1)))+sR w (ah (cellAt a i 1))+sR w (a.take i)<=sR w a:=by
 have h1:=IQ (w:=w) hk hi;have h2:=Ib (w:=w) (sel:=aH 4) hw a (i+1);have h3:sR w (a.take (i+1))<=sR w a:=h2;omega
theorem oz {w:List C->Int} (hw:∀r,0<=w r) (a:Y9):0<=sR w a:=mE hw a
theorem ajH {c:bX} {ops:amW} {o:Oper} {st:St} {K:amX} (ar:St) (h:st=ar) (k:dk c ops o ar K):dk c ops o st K:=h▸k
theorem ajI {c:bX} {ops:amW} {o:Oper} {st:St} {K:amX} {side:Prop} {A:Type} {post:A->Prop} {f:A->St} (hg:o.guard=none) (h:cy c st o= .call side A post f) (hs:side) (k:∀x,post x->K (f x)):dk c ops o st K:=by unfold dk;rw[hg];simp only[h,bl.wp];exact⟨hs,k⟩
theorem lk:∀r:amS,(0:Int)<=(λ_=>1) r:=λ_=>ZJ Int.zero_lt_one
theorem Ed (e:Nat) (a:Y9):ms.f 4 (.sl e a)=nR a:=by show fD 4 (.sl e a)=_;rw[OE (.inr rfl),fA,aC rfl,ew]
def kK (l:amZ) (b:anj):St:=⟨l,b,λ_=>0⟩
abbrev bw (n:ByteArray) (a:Y9):S:= .agg [.c (.str n), .c (.sl 47 a)]
def Bc (N:Nat):dw:=⟨[],[],false,[],false,true,λss bs=>match ss,bs with
 |[.agg [.c (.str _), .c (.sl e a)]],[]=>if e=47 then some ⟨nR a<N/\nR a<=2199023255552,Unit,λ_=>True,λ_=>I (nR a+1),λ_=>[]⟩else none
 |_,_=>none⟩
def Pg (N:Nat) (f:FuncId):Option dw:=if f=272 then some (Bc N)else none
theorem IS {st:St} {t:Nat} {n:ByteArray} {a:Y9} (h:cA tb st) (hg:st.aq[t]?=some (bw n a)):∀r∈a,r.map C.kd=tb 47:=by
 have h1:dA tb (bw n a):=h.aq _ (aY hg);have h2:eP tb (.c (.sl 47 a)):=h1 _ (by simp);have h2:bN tb (.sl 47 a):=h2;cases h2 with
 |sl _ _ _ hk _=>exact hk
def ajJ (n:ByteArray) (a:Y9) (i:Nat):St:=kK [bw n a, .one (.ptr 1 0),I 0,I (nR (a.take i)+1),J,J, .one (.ptr 1 1),L 47 a,I a.length,I i,J,J,J,J,J,J,J,J,J] [none,some [.c (.str n), .c (.sl 47 a)],none,none,none,none,none,none,none,none,none,none,none,none,none,none,none,none,none]
def ajK (n:ByteArray) (a:Y9) (i:Nat) (x y z u v p q:S):St:=kK [bw n a, .one (.ptr 1 0),I 0,I (nR (a.take i)+1),J,J, .one (.ptr 1 1),L 47 a,I a.length,I i,x,y,z,u,v,p,q,J,J] [none,some [.c (.str n), .c (.sl 47 a)],none,none,none,none,none,none,none,none,none,none,none,none,none,none,none,none,none]
def Yu (n:ByteArray) (a:Y9) (i:Nat) (x y z u v:S):St:=kK [bw n a, .one (.ptr 1 0),I 0,I (nR (a.take i)+1),J, .one (.ptr 5 0), .one (.ptr 1 1),L 47 a,I a.length,I i,B true, .one (.bz 47 a i 0),bw (aA (cellAt a i 0)) (ah (cellAt a i 1)),x,y,z,u,v,J] [none,some [.c (.str n), .c (.sl 47 a)],none,none,none,some [.c (.str (aA (cellAt a i 0))), .c (.sl 47 (ah (cellAt a i 1)))],none,none,none,none,none,none,none,none,none,none,none,none,none]
set_option maxRecDepth 100000 in
set_option maxHeartbeats 4000000 in
theorem ajL {dr:jq} (N:Nat) (n:ByteArray) (a:Y9) (hN:nR a<=N) (hB:nR a<=2199023255552) (Q:anc)
 (hQ:∀st,st.aq[2]?=some (I (nR a+1))->Q .ret st):
 cF (c0 (Pg N)) dr [] (iJ Tryz.f272) (St.start Tryz.f272 [bw n a] []) Q:=by
 refine .inl ?_;intro aN;have hk:=IS (t:=0) aN rfl;repeat (first|intro _|refine .inl ?_)
 rename_i hlen _ _;have hlen:(a.length:Int)<=137438953472:=yJ.2 hlen;refine⟨⟨Nat,λi=>ajJ n a i,λi=>i<=a.length,λi=>a.length-i⟩,⟨0,gk _,gj ?_ ?_ rfl λ_=>rfl⟩,?_⟩
 ·repeat' (first|exact trivial|exact rfl|refine⟨?_,?_⟩|fail)
 ·repeat' (first|exact trivial|exact rfl|refine⟨?_,?_⟩|fail)
 ·intro (i:Nat) (hi:i<=a.length);repeat (first|intro _|refine .inl ?_)
  refine iu (λh=>?_) λh=>?_
  ·have h:(i:Int)<a.length:=lW h;have aj:i<a.length:=by omega
   have hp:1+nR (ah (cellAt a i 1))+nR (a.take i)<=nR a:=Ec (w:=λ_=>1) lk hk aj;have hs:nR (a.take (i+1))=nR (a.take i)+(1+nR (ah (cellAt a i 1))):=IQ (w:=λ_=>1) hk aj;have n1:0<=nR (a.take i):=oz (w:=λ_=>1) lk (a.take i);have n2:0<=nR (ah (cellAt a i 1)):=oz (w:=λ_=>1) lk (ah (cellAt a i 1));refine pq (ajK n a i (B true) J J J J J J) rfl ?_;repeat (first|intro _|refine .inl ?_)
   refine⟨⟨g9 _,h⟩,?_⟩;repeat (first|intro _|refine .inl ?_)
   refine ajH (Yu n a i (I (nR (a.take i)+1)) (bw (aA (cellAt a i 0)) (ah (cellAt a i 1))) J J J) (by kernel_rfl) ?_;refine ajI (side:=nR (ah (cellAt a i 1))<N/\nR (ah (cellAt a i 1))<=2199023255552) (A:=Unit) (post:=λ_=>True) (f:=λ_=>Yu n a i (I (nR (a.take i)+1)) (bw (aA (cellAt a i 0)) (ah (cellAt a i 1))) (I (nR (ah (cellAt a i 1))+1)) J J) (by kernel_rfl) (by kernel_rfl) ⟨by omega,by omega⟩ λ_ _=>?_;repeat (first|intro _|refine .inl ?_)
   refine⟨i+1,(by show i+1<=a.length;omega),(by show a.length-(i+1)<a.length-i;omega),gj ?_ ?_ rfl λ_=>rfl⟩
   ·repeat' (first|exact trivial|exact rfl|refine⟨?_,?_⟩|fail)
    ·exact lM (by omega) (by omega)
    ·exact lM (by omega) (by omega)
   ·repeat' (first|exact trivial|exact rfl|refine⟨?_,?_⟩|fail)
  ·have h:¬(i:Int)<a.length:=qP h;have e:i=a.length:=by omega
   subst e;repeat (first|intro _|refine .inl ?_)
   refine hQ _ ?_;rw[<-show nR (a.take a.length)=nR a by rw[Bl]];rfl
end Go.Pv
namespace Go.Pv
open Go Go.Proofs Go.Proofs.YtmanimipgpdbcaaGreat
theorem Ee (s:ByteArray):∀(l:Y9) (i:Nat),b7 s l i=-1\/((i:Int)<=b7 s l i/\b7 s l i<i+l.length)
 |[],_=> .inl rfl
 |r::l,i=>by
  unfold b7;split
  ·grind
  ·rcases Ee s l (i+1)with h|⟨h1,h2⟩
   all_goals grind
def Ef:dw:=⟨[],[],false,[],false,true,λss bs=>match ss,bs with
 |[.one (.c (.sl e rows)), .one (.c (.str s))],[]=>if e=9 then some ⟨True,Unit,λ_=>True,λ_=>I (b7 s rows 0),λ_=>[]⟩else none
 |_,_=>none⟩
def wS (names:Y9) (sz:Int->Int) (r:amS):Int:=
 if 0<=b7 (aA (r.getD 0 default)) names 0/\(ah (r.getD 1 default)).length=0 then sz (b7 (aA (r.getD 0 default)) names 0)else 1
def S1 (names:Y9) (sz:Int->Int) (n:ByteArray) (a:Y9):Int:=wS names sz (ty n a)+sR (wS names sz) a
structure se (names:Y9) (sz:Int->Int):Prop where
 b:∀k:Nat,k<names.length->0<=sz k/\sz k<=4398046511104
theorem Yv {names:Y9} {sz:Int->Int} (h:se names sz) (r:amS):0<=wS names sz r:=by
 unfold wS;split
 ·rename_i hc;rcases Ee (aA (r.getD 0 default)) names 0 with h1|⟨h1,h2⟩
  ·omega
  ·have:=h.b (b7 (aA (r.getD 0 default)) names 0).toNat (by omega);grind
 ·omega
def Bd (N:Nat) (sz:Int->Int):dw:=⟨[],[],false,[],false,true,λss bs=>match ss,bs with
 |[.agg [.c (.str n), .c (.sl e a)], .one (.c (.sl e1 names)), .one (.c (.sl e2 cC))],[]=>if e=47/\e1=9/\e2=3 then
  some ⟨nR a<N/\se names sz/\names.length<=cC.length/\(∀k:Nat,k<names.length->cD (cellAt cC k 0)=sz k),Int,λv=>(0<=v/\v<=4398046515200)/\(v<=4096->v=S1 names sz n a),λv=>I v,λ_=>[]⟩else none
 |_,_=>none⟩
def Eg (N:Nat) (sz:Int->Int) (f:FuncId):Option dw:=if f=273 then some (Bd N sz)else if f=310 then some Ef else none
def ajM (n:ByteArray) (a names cC:Y9) (c:Int) (i:Nat):St:=(kK (J::L 9 names::L 3 cC::.one (.ptr 3 0)::J::J::J::J::I c::J::J::J::J::J::J::J::J::J::J::J::J::J::J::J::J::J::J::J::L 47 a::I a.length::I i::J::J::J::J::J::J::J::J::J::J::J::J::J::[]) (none::none::none::some [.c (.str n), .c (.sl 47 a)]::none::none::none::none::none::none::none::none::none::none::none::none::none::none::none::none::none::none::none::none::none::none::none::none::none::none::none::none::none::none::none::none::none::none::none::none::none::none::none::none::[]))
def snd:Code->Code
 | .seq _ x=>x
 |x=>x
set_option maxRecDepth 100000 in
set_option maxHeartbeats 1000000 in
theorem Yw {dr:jq} (N:Nat) (sz:Int->Int) (n:ByteArray) (a names cC:Y9) (hk:∀r∈a,r.map C.kd=tb 47) (hN:nR a<=N) (hz:se names sz) (hl:names.length<=cC.length) (hv:∀k:Nat,k<names.length->cD (cellAt cC k 0)=sz k) (Q:anc)
 (hQ:∀st v,st.aq[6]?=some (I v)->(0<=v/\v<=4398046515200)->(v<=4096->v=S1 names sz n a)->Q .ret st) (hw:wS names sz (ty n a)=1) (Eh Ei Ej Ek El Em En:S):
 cF (c0 (Eg N sz)) dr [] (snd (snd (iJ Tryz.f273))) (eM 44 [(0,bw n a),(1,L 9 names),(2,L 3 cC),(3, .one (.ptr 3 0)),(6,I 0),(7,I (b7 n names 0)),(11,L 9 names),(12, .one (.ptr 3 0)),(13,Z n),(14,I (b7 n names 0)),(15,I (b7 n names 0)),(16,Eh),(17,Ei),(18,Ej),(19,Ek),(20,El),(21,Em),(22,En)] [(3,[.c (.str n), .c (.sl 47 a)])]) Q:=by
 refine .inl (cv ?_);with_reducible refine av (up 8 (I 1)) ?_;refine bO ?_
 refine .inl (.inl (cv ?_));with_reducible refine av (up 27 (.one (.ptr 3 1))) ?_;refine av (up 28 (L 47 a)) ?_;refine sb (fact:=a.length<=137438953472) (up 29 (I a.length)) λhlen=>?_;refine av (up 30 (I 0)) ?_
 have hlen:(a.length:Int)<=137438953472:=yJ.2 hlen;with_reducible refine ef (kK (bw n a::L 9 names::L 3 cC::.one (.ptr 3 0)::J::J::I 0::I (b7 n names 0)::I 1::J::J::L 9 names::.one (.ptr 3 0)::Z n::I (b7 n names 0)::I (b7 n names 0)::Eh::Ei::Ej::Ek::El::Em::En::J::J::J::J::.one (.ptr 3 1)::L 47 a::I a.length::I 0::J::J::J::J::J::J::J::J::J::J::J::J::J::[]) (none::none::none::some [.c (.str n), .c (.sl 47 a)]::none::none::none::none::none::none::none::none::none::none::none::none::none::none::none::none::none::none::none::none::none::none::none::none::none::none::none::none::none::none::none::none::none::none::none::none::none::none::none::none::[])) ?_;refine bO ?_
 refine⟨⟨Nat,λi=>ajM n a names cC (1+sR (wS names sz) (a.take i)) i,λi=>i<=a.length/\(1+sR (wS names sz) (a.take i))<=4096,λi=>a.length-i⟩,⟨0,⟨gk _,(by show(1:Int)+0<=4096;omega)⟩,gj ?_ ?_ rfl λ_=>rfl⟩,?_⟩
 ·repeat' (first|exact trivial|exact rfl|refine⟨?_,?_⟩|fail)
 ·repeat' (first|exact trivial|exact rfl|refine⟨?_,?_⟩|fail)
 intro (i:Nat) hi;obtain⟨hi,Be⟩:i<=a.length/\(1+sR (wS names sz) (a.take i))<=4096:=hi;refine .inl (cv ?_);with_reducible refine av (up 31 (B (decide ((i:Int)<a.length)))) ?_;refine bO ?_
 refine .inl ?_;with_reducible refine kI (b:=(decide ((i:Int)<a.length))) (λh=>?_) λh=>?_
 ·have h:(i:Int)<a.length:=lW h;have aj:i<a.length:=by omega
  have n0:∀r,0<=wS names sz r:=Yv hz;have hp:1+nR (ah (cellAt a i 1))+nR (a.take i)<=nR a:=Ec (w:=λ_=>1) lk hk aj;have n1:0<=nR (a.take i):=oz (w:=λ_=>1) lk (a.take i);have hs:=IQ (w:=wS names sz) hk aj;have n2:=oz n0 (a.take i);with_reducible refine fx (up 31 (B true)) ?_;refine kJ ?_
  refine .inl (sd (.inl (cv ?_)));with_reducible refine lj (side:=(0:Int)<=i/\(i:Int)<a.length) (up 32 (.one (.bz 47 a i 0))) ⟨g9 _,h⟩ ?_;refine av (up 33 (bw (aA (cellAt a i 0)) (ah (cellAt a i 1)))) ?_;refine av (uB 10 (.one (.ptr 10 0)) 10 [.c (.str ByteArray.empty), .bc]) ?_;refine av (ub 10 [.c (.str (aA (cellAt a i 0))), .c (.sl 47 (ah (cellAt a i 1)))]) ?_;refine bO ?_
  refine .inl (cv ?_);with_reducible refine av (up 34 (I (1+sR (wS names sz) (a.take i)))) ?_;refine av (up 35 (bw (aA (cellAt a i 0)) (ah (cellAt a i 1)))) ?_;refine av (up 36 (L 9 names)) ?_;refine av (up 37 (L 3 cC)) ?_;refine qF (side:=(nR (ah (cellAt a i 1))<N/\se names sz/\names.length<=cC.length/\(∀k:Nat,k<names.length->cD (cellAt cC k 0)=sz k))) (A:=Int) (post:=(λv:Int=>(0<=v/\v<=4398046515200)/\(v<=4096->v=S1 names sz (aA (cellAt a i 0)) (ah (cellAt a i 1))))) (F:=λv=>up 38 (I v)) ⟨by omega,hz,hl,hv⟩ λv sZ=>?_
  have sZ:(0<=v/\v<=4398046515200)/\(v<=4096->v=S1 names sz (aA (cellAt a i 0)) (ah (cellAt a i 1))):=sZ;have NW:IntKind.i64.wrap ((1+sR (wS names sz) (a.take i))+v)=(1+sR (wS names sz) (a.take i))+v:=lM rfl (by omega);with_reducible refine av (up 39 (I (IntKind.i64.wrap ((1+sR (wS names sz) (a.take i))+v)))) ?_
  rw[NW];with_reducible refine av (up 8 (I ((1+sR (wS names sz) (a.take i))+v))) ?_;refine bO ?_
  refine .inl (cv ?_);with_reducible refine av (up 40 (I ((1+sR (wS names sz) (a.take i))+v))) ?_;refine av (up 41 (B (decide ((1+sR (wS names sz) (a.take i))+v>4096)))) ?_;refine bO ?_;refine kI (b:=(decide ((1+sR (wS names sz) (a.take i))+v>4096))) (λh3=>?_) λh3=>?_
  ·with_reducible refine fx (up 41 (B true)) ?_
   refine .inl (cv ?_);with_reducible refine av (up 6 (I 4097)) ?_;refine ef (eM 44 [(1,L 9 names),(2,L 3 cC),(3, .one (.ptr 3 0)),(6,I 4097),(8,I ((1+sR (wS names sz) (a.take i))+v)),(10, .one (.ptr 10 0)),(28,L 47 a),(29,I a.length),(30,I i),(31,B true),(32, .one (.bz 47 a i 0)),(33,bw (aA (cellAt a i 0)) (ah (cellAt a i 1))),(34,I (1+sR (wS names sz) (a.take i))),(35,bw (aA (cellAt a i 0)) (ah (cellAt a i 1))),(36,L 9 names),(37,L 3 cC),(38,I v),(39,I ((1+sR (wS names sz) (a.take i))+v)),(40,I ((1+sR (wS names sz) (a.take i))+v)),(41,B true)] [(3,[.c (.str n), .c (.sl 47 a)]),(10,[.c (.str (aA (cellAt a i 0))), .c (.sl 47 (ah (cellAt a i 1)))])]) ?_;refine bO ?_
   refine hQ _ 4097 rfl (by omega) λhh=>absurd hh (by omega)
  ·have h3:¬(1+sR (wS names sz) (a.take i))+v>4096:=qP h3;have zy:v=S1 names sz (aA (cellAt a i 0)) (ah (cellAt a i 1)):=sZ.2 (by omega);with_reducible refine fx (up 41 (B false)) ?_;refine kJ ?_
   refine cv ?_;with_reducible refine av (up 42 (I (IntKind.i64.wrap ((i:Int)+1)))) ?_
   rw[show IntKind.i64.wrap ((i:Int)+1)=((i+1:Nat):Int)from lM (by omega) (by omega)];with_reducible refine av (up 30 (I ((i+1:Nat):Int))) ?_;refine ef (kK (J::L 9 names::L 3 cC::.one (.ptr 3 0)::J::J::J::J::I ((1+sR (wS names sz) (a.take i))+v)::J::.one (.ptr 10 0)::J::J::J::J::J::J::J::J::J::J::J::J::J::J::J::J::J::L 47 a::I a.length::I ((i+1:Nat):Int)::B true::.one (.bz 47 a i 0)::bw (aA (cellAt a i 0)) (ah (cellAt a i 1))::I (1+sR (wS names sz) (a.take i))::bw (aA (cellAt a i 0)) (ah (cellAt a i 1))::L 9 names::L 3 cC::I v::I ((1+sR (wS names sz) (a.take i))+v)::I ((1+sR (wS names sz) (a.take i))+v)::B false::I ((i+1:Nat):Int)::J::[]) (none::none::none::some [.c (.str n), .c (.sl 47 a)]::none::none::none::none::none::none::some [.c (.str (aA (cellAt a i 0))), .c (.sl 47 (ah (cellAt a i 1)))]::none::none::none::none::none::none::none::none::none::none::none::none::none::none::none::none::none::none::none::none::none::none::none::none::none::none::none::none::none::none::none::none::none::[])) ?_;refine bO ?_
   refine⟨i+1,⟨by omega,by rw[hs];unfold S1 at zy;omega⟩,(by grind),gj ?_ ?_ rfl λ_=>rfl⟩
   ·repeat' (first|exact trivial|exact rfl|refine⟨?_,?_⟩|fail)
    all_goals (rw[hs];unfold S1 at zy;omega)
   ·repeat' (first|exact trivial|exact rfl|refine⟨?_,?_⟩|fail)
 ·have h:¬(i:Int)<a.length:=qP h;have e:i=a.length:=by omega
  subst e;with_reducible refine fx (up 31 (B false)) ?_
  refine .inl (cv ?_);with_reducible refine av (up 43 (I (1+sR (wS names sz) (a.take a.length)))) ?_;refine av (up 6 (I (1+sR (wS names sz) (a.take a.length)))) ?_;refine ef (eM 44 [(1,L 9 names),(2,L 3 cC),(3, .one (.ptr 3 0)),(6,I (1+sR (wS names sz) (a.take a.length))),(8,I (1+sR (wS names sz) (a.take a.length))),(28,L 47 a),(29,I a.length),(30,I a.length),(31,B false),(43,I (1+sR (wS names sz) (a.take a.length)))] [(3,[.c (.str n), .c (.sl 47 a)])]) ?_
  rw[Bl];have n2:=oz (Yv hz) a;rw[Bl]at Be;with_reducible refine ef (eM 44 [(1,L 9 names),(2,L 3 cC),(3, .one (.ptr 3 0)),(6,I (1+sR (wS names sz) a)),(8,I (1+sR (wS names sz) a)),(28,L 47 a),(29,I a.length),(30,I a.length),(31,B false),(43,I (1+sR (wS names sz) a))] [(3,[.c (.str n), .c (.sl 47 a)])]) ?_;refine bO ?_
  refine hQ _ (1+sR (wS names sz) a) rfl (by omega) λ_=>?_;unfold S1;rw[hw]
set_option maxRecDepth 100000 in
set_option maxHeartbeats 1000000 in
theorem ajN {dr:jq} (N:Nat) (sz:Int->Int) (n:ByteArray) (a names cC:Y9) (hN:nR a<=N) (hz:se names sz) (hl:names.length<=cC.length) (hv:∀k:Nat,k<names.length->cD (cellAt cC k 0)=sz k) (Q:anc)
 (hQ:∀st v,st.aq[6]?=some (I v)->(0<=v/\v<=4398046515200)->(v<=4096->v=S1 names sz n a)->Q .ret st):
 cF (c0 (Eg N sz)) dr [] (iJ Tryz.f273) (St.start Tryz.f273 [bw n a,L 9 names,L 3 cC] []) Q:=by
 refine .inl (Ba λaN=>?_);have hk:=IS (t:=0) aN rfl;with_reducible refine av (uB 3 (.one (.ptr 3 0)) 3 [.c (.str n), .c (.sl 47 a)]) ?_;refine av (up 6 (I 0)) ?_;refine bO ?_
 refine .inl (.inl (cv ?_));with_reducible refine av (up 11 (L 9 names)) ?_;refine av (up 12 (.one (.ptr 3 0))) ?_;refine av (up 13 (Z n)) ?_;refine qF (side:=True) (A:=Unit) (post:=λ_=>True) (F:=λ_=>up 14 (I (b7 n names 0))) trivial λ_ _=>?_;refine av (up 7 (I (b7 n names 0))) ?_;refine bO ?_
 refine .inl (cv ?_);with_reducible refine av (up 15 (I (b7 n names 0))) ?_;refine av (up 16 (B (decide ((b7 n names 0)>=0)))) ?_;refine av (up 17 (B (decide ((b7 n names 0)>=0)))) ?_;refine D8 (j:=2) (t:=17) (b:=(decide ((b7 n names 0)>=0))) rfl ?_ ?_ ?_
 ·kernel_rfl
 all_goals intro h
 ·have h:0<=b7 n names 0:=lW h;with_reducible refine vW (up 18 (.one (.ptr 3 1))) ?_;refine A9 (j:=2) (t:=17) (up 19 (L 47 a)) ?_;refine Yp (fact:=a.length<=137438953472) (j:=2) (t:=17) (up 20 (I a.length)) λ_=>?_;refine A9 (j:=2) (t:=17) (up 21 (B ((a.length:Int)==0))) ?_;refine pv (up 22 (B ((a.length:Int)==0))) (up 22 (B false)) ?_;refine bO ?_;refine kI (b:=((a.length:Int)==0)) (λh2=>?_) λh2=>?_
  ·have h2:a.length=0:=by have:=eq_of_beq h2;omega
   obtain⟨k,iE⟩:∃k:Nat,b7 n names 0=k:=⟨_,(Qs h).symm⟩
   have jr:k<names.length:=by rcases Ee n names 0 with h1|⟨_,h1⟩<;>omega
   with_reducible refine fx (up 22 (B true)) ?_
   rw[iE];refine .inl (cv ?_);with_reducible refine av (up 23 (L 3 cC)) ?_;refine av (up 24 (I k)) ?_;refine lj (side:=(0:Int)<=k/\(k:Int)<cC.length) (up 25 (.one (.bz 3 cC k 0))) ⟨g9 _,by omega⟩ ?_;refine sb (fact:=iA .i64 (cD (cellAt cC k 0))) (up 26 (I (cD (cellAt cC k 0)))) λ_=>?_;refine av (up 6 (I (cD (cellAt cC k 0)))) ?_;refine ef (eM 44 [(0,bw n a),(1,L 9 names),(2,L 3 cC),(3, .one (.ptr 3 0)),(6,I (cD (cellAt cC k 0))),(7,I k),(11,L 9 names),(12, .one (.ptr 3 0)),(13,Z n),(14,I k),(15,I k),(16,B (decide ((k:Int)>=0))),(17,B true),(18, .one (.ptr 3 1)),(19,L 47 a),(20,I a.length),(21,B ((a.length:Int)==0)),(22,B true),(23,L 3 cC),(24,I k),(25, .one (.bz 3 cC k 0)),(26,I (cD (cellAt cC k 0)))] [(3,[.c (.str n), .c (.sl 47 a)])]) ?_;refine bO ?_
   refine hQ _ (sz k) (by rw[hv k jr];rfl) ?_ λ_=>?_
   ·have:=hz.b k jr;omega
   ·unfold S1;unfold wS;rw[aC ⟨by assumption,h2⟩];rw[qO h2];show sz k=sz (b7 n names 0)+0;grind
  ·have h2:a.length≠0:=λe=>by grind
   with_reducible refine pq (eM 44 [(0,bw n a),(1,L 9 names),(2,L 3 cC),(3, .one (.ptr 3 0)),(6,I 0),(7,I (b7 n names 0)),(11,L 9 names),(12, .one (.ptr 3 0)),(13,Z n),(14,I (b7 n names 0)),(15,I (b7 n names 0)),(16,B (decide ((b7 n names 0)>=0))),(17,B true),(18, .one (.ptr 3 1)),(19,L 47 a),(20,I a.length),(21,B ((a.length:Int)==0)),(22,B false)] [(3,[.c (.str n), .c (.sl 47 a)])]) (by kernel_rfl) ?_;refine kJ ?_
   exact Yw N sz n a names cC hk hN hz hl hv Q hQ (by unfold wS;exact aQ λhc=>h2 hc.2) _ _ _ _ _ _ _
 ·have h:¬0<=b7 n names 0:=qP h;with_reducible refine tT (j:=2) (t:=17) (up 19 aO) ?_;refine tT (j:=2) (t:=17) (up 20 aO) ?_;refine tT (j:=2) (t:=17) (up 21 aO) ?_;refine vV (up 22 aO) (up 22 (B false)) ?_;refine bO ?_;refine Yn ?_ ?_
  ·kernel_rfl
  with_reducible refine pq (eM 44 [(0,bw n a),(1,L 9 names),(2,L 3 cC),(3, .one (.ptr 3 0)),(6,I 0),(7,I (b7 n names 0)),(11,L 9 names),(12, .one (.ptr 3 0)),(13,Z n),(14,I (b7 n names 0)),(15,I (b7 n names 0)),(16,B (decide ((b7 n names 0)>=0))),(17,B false),(18,aO),(19,aO),(20,aO),(21,aO),(22,B false)] [(3,[.c (.str n), .c (.sl 47 a)])]) (by kernel_rfl) ?_;refine kJ ?_
  exact Yw N sz n a names cC hk hN hz hl hv Q hQ (by unfold wS;exact aQ λhc=>h hc.1) _ _ _ _ _ _ _
end Go.Pv
namespace Go.Pv
open Go Go.Proofs Go.Proofs.YtmanimipgpdbcaaGreat
theorem ajO (r:Y9) (n:ByteArray) (a:Y9):nR (r++[ty n a])=nR r+(1+nR a):=by show aS _ (aH 4) _=aS _ (aH 4) _+_;rw[D1,Yt]
structure Loc (w:List C->Int) (s:List Kd->Nat->Bool):Prop where
 nn:∀r,0<=w r
 loc:∀n a b,a.length=b.length->w (ty n a)=w (ty n b)
 s0:s [.str, .sl 47] 0=false
 s1:s [.str, .sl 47] 1=true
def wT (w:List C->Int) (s:List Kd->Nat->Bool) (n:ByteArray) (a:Y9):Int:=w (ty n a)+aS w s a
theorem Eo {w:List C->Int} {s:List Kd->Nat->Bool} (h:Loc w s) (n:ByteArray) (a:Y9):dJ w s (ty n a)=wT w s n a:=by have h1:=h.s0;have h2:=h.s1;show _=w (ty n a)+aS w s a;simp only[dJ,ty,bu,mL,C.kd,eG,h1,h2,ew,eI];omega
theorem Yx {w:List C->Int} {s:List Kd->Nat->Bool} (h:Loc w s) (r:Y9) (n:ByteArray) (a:Y9):aS w s (r++[ty n a])=aS w s r+wT w s n a:=by rw[D1,Eo h]
theorem Yy {w:List C->Int} {s:List Kd->Nat->Bool} (h:Loc w s) {a:Y9} (hk:∀r∈a,r.map C.kd=tb 47) {i:Nat} (hi:i<a.length):
 aS w s (a.take (i+1))=aS w s (a.take i)+wT w s (aA (cellAt a i 0)) (ah (cellAt a i 1)):=by
 have hr:=Pf (hk a[i] (fz hi));rw[alN hi];have e0:cellAt a i 0=a[i].getD 0 default:=by simp[cellAt,aZ,aP hi]
 have e1:cellAt a i 1=a[i].getD 1 default:=by simp[cellAt,aZ,aP hi]
 rw[D1,e0,e1,<-Eo h,<-hr]
theorem Yz {w:List C->Int} {s:List Kd->Nat->Bool} (h:Loc w s) {a:Y9} (hk:∀r∈a,r.map C.kd=tb 47) {i:Nat} (hi:i<a.length):
 wT w s (aA (cellAt a i 0)) (ah (cellAt a i 1))+aS w s (a.take i)<=aS w s a:=by
 have h1:=Yy h hk hi;have h2:=Ib (w:=w) (sel:=s) h.nn a (i+1);omega
theorem YA:Loc (λ_=>1) (aH 4):=⟨lk,λ_ _ _ _=>rfl,IP.1,IP.2⟩
def qH (n:ByteArray) (a:Y9) (m:ByteArray) (r:Y9):Prop:=∀w s,Loc w s->wT w s m r=wT w s n a
theorem qH.nR {n m:ByteArray} {a r:Y9} (h:qH n a m r):nR r=nR a:=by have h1:(1:Int)+aS (λ_=>1) (aH 4) r=1+aS (λ_=>1) (aH 4) a:=h _ _ YA;show aS (λ_=>1) (aH 4) r=aS (λ_=>1) (aH 4) a;omega
theorem YB {st:St} {t:Nat} {a:Y9} (h:cA tb st) (hg:st.aq[t]?=some (L 47 a)):∀r∈a,r.map C.kd=tb 47:=by
 have h1:dA tb (L 47 a):=h.aq _ (aY hg);have h2:bN tb (.sl 47 a):=h1;cases h2 with
 |sl _ _ _ hk _=>exact hk
def Ph (tb:Tb) (st:St):Bool:=(List.range st.aq.length).all (λt=>(st.get t).xs.all λy=>y.ids.all λb=>(tb.dX t).contains b)&&(List.range st.boxes.length).all λb=>match st.boxes[b]?with|some (some l)=>l.all λz=>z.ids.all λid=>(tb.cont b).contains id|_=>true
theorem ajP {tb:Tb} {st:St} (h:Ph tb st=true):tb.In st:=by
 simp only[Ph,aB,aX,dP]at h;refine⟨λt y b hy hb=>?_,λb l z id hb hz aE=>?_⟩
 ·by_cases ht:t<st.aq.length
  ·exact jT.1 (h.1 t ht y hy b hb)
  ·exfalso;simp only[St.get,aZ]at hy;rw[aW (by omega)]at hy;simp[S.xs]at hy;subst hy;cases hb
 ·have aj:b<st.boxes.length:=by
   rcases aT b st.boxes.length with h1|h1
   ·exact h1
   ·rw[aW h1]at hb;cases hb
  have:=h.2 b aj;rw[hb]at this;simp only[aX]at this;exact jT.1 (this z hz id aE)
def Pj (p q:amU) (kp pl:amG):Tb:=⟨λt=>((p.filter λq=>Nat.beq q.1 t).map Prod.snd),λt=>((q.filter λq=>Nat.beq q.1 t).map Prod.snd),λf=>kp.contains f,λf=>pl.contains f,λ_=>false⟩
theorem YC {c:bX} {p q:amU} {kp pl:amG} (h1:∀f∈kp,∃fs,c.specs f=some fs/\fs.kp=true) (h2:∀f∈pl,∃fs,c.specs f=some fs/\fs.pl=true):qj c (Pj p q kp pl):=
 ⟨λf hf=>h1 f (jT.1 hf),λf hf=>h2 f (jT.1 hf),λ_ h=>by cases h⟩
theorem YD {c:bX} {st:St} (hc:dT c) (tb:Tb) (gu:qj c tb) {id:Nat} {A:ang} {Q:anc} (h1:sW c.ann tb A A.toList (List.range' 0 A.toList.length) (Array.replicate A.size false)=true) (h2:A.toList.all tb.closed=true) (h3:Ph tb st=true)
 (k:bE c A.toList A.toList st (Q .normal)):cF c (gi c) [] (.region id A true) st Q:=λ_=>by
 have:=zw hc (tb:=tb) (ops:=A) gu h2 h1 (by simp) (ajP h3) (Pb A.toList 0 rfl k);show gi c id A.toList st _;unfold gi;simpa[mv]using this
def yu (N:Nat):dw:=⟨[],[],false,[],false,true,λss bs=>match ss,bs with
 |[.agg [.c (.str n), .c (.sl e a)]],[]=>if e=47 then some ⟨nR a<N,ByteArray×List (List C),λv=>qH n a v.1 v.2,λv=>bw v.1 v.2,λ_=>[]⟩else none
 |_,_=>none⟩
def Bf (N:Nat) (f:FuncId):Option dw:=if f=278 then some (yu N)else none
def ajQ (n:ByteArray) (a:Y9) (i:Nat) (r:Y9):St:=(kK (J::.one (.ptr 1 0)::.one (.ptr 2 0)::.one (.ptr 3 0)::J::J::J::J::J::J::L 47 a::I a.length::I i::J::J::J::J::J::J::J::J::J::J::J::J::[]) (none::some [.c (.str n), .c (.sl 47 a)]::some [.c (.str ByteArray.empty), .bc]::some [.c (.str n), .own 47 47 0 r]::none::none::none::none::none::none::none::none::none::none::none::none::none::none::none::none::none::none::none::none::none::[]))
set_option maxRecDepth 100000 in
set_option maxHeartbeats 1000000 in
theorem ajR (N:Nat) (hc:dT (c0 (Bf N))) (n:ByteArray) (a:Y9) (hN:nR a<=N) (Q:anc)
 (hQ:∀st m r,st.aq[2]?=some (.one (.ptr 2 0))->st.boxes[2]?=some (some [.c (.str m), .own 47 47 (st.gen 47) r])->qH n a m r->Q .ret st):
 cF (c0 (Bf N)) (gi (c0 (Bf N))) [] (iJ Tryz.f278) (St.start Tryz.f278 [bw n a] []) Q:=by
 refine .inl (Ba λaN=>?_);have hk:=IS (t:=0) aN rfl;with_reducible refine av (uB 1 (.one (.ptr 1 0)) 1 [.c (.str n), .c (.sl 47 a)]) ?_;refine av (uB 2 (.one (.ptr 2 0)) 2 [.c (.str ByteArray.empty), .bc]) ?_;refine bO ?_
 refine .inl (cv ?_);with_reducible refine av (up 6 (.one (.ptr 1 0))) ?_;refine av (up 7 (Z n)) ?_;refine av (up 8 (.agg [.c (.str n), .bc])) ?_;refine av (uB 3 (.one (.ptr 3 0)) 3 [.c (.str ByteArray.empty), .bc]) ?_;refine av (ub 3 [.c (.str n), .bc]) ?_;refine bO ?_
 refine .inl (.inl (cv ?_));with_reducible refine av (up 9 (.one (.ptr 1 1))) ?_;refine av (up 10 (L 47 a)) ?_;refine sb (fact:=a.length<=137438953472) (up 11 (I a.length)) λhlen=>?_;refine av (up 12 (I 0)) ?_
 have hlen:(a.length:Int)<=137438953472:=yJ.2 hlen;with_reducible refine ef (kK (bw n a::.one (.ptr 1 0)::.one (.ptr 2 0)::.one (.ptr 3 0)::J::J::.one (.ptr 1 0)::Z n::.agg [.c (.str n), .bc]::.one (.ptr 1 1)::L 47 a::I a.length::I 0::J::J::J::J::J::J::J::J::J::J::J::J::[]) (none::some [.c (.str n), .c (.sl 47 a)]::some [.c (.str ByteArray.empty), .bc]::some [.c (.str n), .bc]::none::none::none::none::none::none::none::none::none::none::none::none::none::none::none::none::none::none::none::none::none::[])) ?_;refine bO ?_
 refine⟨⟨Nat×List (List C),λq=>ajQ n a q.1 q.2,λq=>(q.1<=a.length/\q.2.length=q.1/\∀w s,Loc w s->aS w s q.2=aS w s (a.take q.1)),λq=>a.length-q.1⟩,⟨(0,[]),⟨gk _,rfl,λ_ _ _=>rfl⟩,gj ?_ ?_ rfl λ_=>rfl⟩,?_⟩
 ·repeat' (first|exact trivial|exact rfl|refine⟨?_,?_⟩|fail)
 ·repeat' (first|exact trivial|exact rfl|refine⟨?_,?_⟩|fail)
 rintro ⟨i,r⟩ hi;obtain⟨hi,hr,Be⟩:i<=a.length/\r.length=i/\∀w s,Loc w s->aS w s r=aS w s (a.take i):=hi;refine .inl (cv ?_);with_reducible refine av (up 13 (B (decide ((i:Int)<a.length)))) ?_;refine bO ?_
 refine .inl ?_;with_reducible refine kI (b:=(decide ((i:Int)<a.length))) (λh=>?_) λh=>?_
 ·have h:(i:Int)<a.length:=lW h;have aj:i<a.length:=by omega
  have hp:1+nR (ah (cellAt a i 1))+nR (a.take i)<=nR a:=Ec (w:=λ_=>1) lk hk aj;have n1:0<=nR (a.take i):=oz (w:=λ_=>1) lk (a.take i);with_reducible refine fx (up 13 (B true)) ?_;refine kJ ?_
  refine .inl (sd (.inl (cv ?_)));with_reducible refine lj (side:=(0:Int)<=i/\(i:Int)<a.length) (up 14 (.one (.bz 47 a i 0))) ⟨g9 _,h⟩ ?_;refine av (up 15 (bw (aA (cellAt a i 0)) (ah (cellAt a i 1)))) ?_;refine av (uB 5 (.one (.ptr 5 0)) 5 [.c (.str ByteArray.empty), .bc]) ?_;refine av (ub 5 [.c (.str (aA (cellAt a i 0))), .c (.sl 47 (ah (cellAt a i 1)))]) ?_;refine bO ?_
  refine YD hc (Pj [(1,1),(2,2),(3,3),(5,5),(16,3),(22,3),(20,20),(21,20),(21,21),(17,20),(17,21)] [(3,20),(3,21),(20,20),(20,21),(21,20),(21,21)] [] [278]) (YC (λ_ h=>by cases h) λf h=>⟨yu N,by rw[a8.1 h];rfl,rfl⟩) (by kernel_rfl) (by kernel_rfl) (by kernel_rfl) ?_;with_reducible refine av (up 16 (.one (.ptr 3 1))) ?_;refine av (up 17 (.one (.own 47 47 0 r))) ?_;refine av (up 18 (bw (aA (cellAt a i 0)) (ah (cellAt a i 1)))) ?_;refine qF (side:=(nR (ah (cellAt a i 1))<N)) (A:=(ByteArray×List (List C))) (post:=λv=>qH (aA (cellAt a i 0)) (ah (cellAt a i 1)) v.1 v.2) (F:=λv=>up 19 (bw v.1 v.2)) (by omega) λv hv=>?_
  have hv:qH (aA (cellAt a i 0)) (ah (cellAt a i 1)) v.1 v.2:=hv;with_reducible refine av (up 20 (.one (.own 47 47 0 [ty v.1 v.2]))) ?_;refine lj (side:=(r.length+1<=eA)) (uM 47 21 (.one (.own 47 47 1 (r++[ty v.1 v.2])))) (by unfold eA;omega) ?_;refine av (up 22 (.one (.ptr 3 1))) ?_;refine av (ub 3 [.c (.str n), .own 47 47 1 (r++[ty v.1 v.2])]) ?_;refine bO ?_
  refine cv ?_;with_reducible refine av (up 23 (I (IntKind.i64.wrap ((i:Int)+1)))) ?_
  rw[show IntKind.i64.wrap ((i:Int)+1)=((i+1:Nat):Int)from lM (by omega) (by omega)];with_reducible refine av (up 12 (I ((i+1:Nat):Int))) ?_;refine ef (St.dz (kK (J::.one (.ptr 1 0)::.one (.ptr 2 0)::.one (.ptr 3 0)::J::.one (.ptr 5 0)::J::J::J::J::L 47 a::I a.length::I ((i+1:Nat):Int)::B true::.one (.bz 47 a i 0)::bw (aA (cellAt a i 0)) (ah (cellAt a i 1))::.one (.ptr 3 1)::.one (.own 47 47 0 r)::bw (aA (cellAt a i 0)) (ah (cellAt a i 1))::bw v.1 v.2::.one (.own 47 47 0 [ty v.1 v.2])::.one (.own 47 47 1 (r++[ty v.1 v.2]))::.one (.ptr 3 1)::I ((i+1:Nat):Int)::J::[]) (none::some [.c (.str n), .c (.sl 47 a)]::some [.c (.str ByteArray.empty), .bc]::some [.c (.str n), .own 47 47 1 (r++[ty v.1 v.2])]::none::some [.c (.str (aA (cellAt a i 0))), .c (.sl 47 (ah (cellAt a i 1)))]::none::none::none::none::none::none::none::none::none::none::none::none::none::none::none::none::none::none::none::[])) 47) ?_;refine bO ?_
  refine⟨(i+1,r++[ty v.1 v.2]),⟨by show i+1<=a.length;omega,by show(r++[ty v.1 v.2]).length=i+1;simp[hr],λw s hw=>by show aS w s (r++[ty v.1 v.2])=aS w s (a.take (i+1));rw[Yx hw,Yy hw hk aj,Be w s hw,hv w s hw]⟩,(by show a.length-(i+1)<a.length-i;omega),gj ?_ ?_ rfl λ_=>rfl⟩
  ·repeat' (first|exact trivial|exact rfl|refine⟨?_,?_⟩|fail)
  ·repeat' (first|exact trivial|exact rfl|refine⟨?_,?_⟩|fail)
 ·have h:¬(i:Int)<a.length:=qP h;have e:i=a.length:=by omega
  with_reducible refine fx (up 13 (B false)) ?_
  refine .inl (cv ?_);with_reducible refine av (up 24 (.agg [.c (.str n), .own 47 47 0 r])) ?_;refine av (ub 2 [.c (.str n), .own 47 47 0 r]) ?_;refine ef (eM 25 [(1, .one (.ptr 1 0)),(2, .one (.ptr 2 0)),(3, .one (.ptr 3 0)),(10,L 47 a),(11,I a.length),(12,I i),(13,B false),(24, .agg [.c (.str n), .own 47 47 0 r])] [(1,[.c (.str n), .c (.sl 47 a)]),(2,[.c (.str n), .own 47 47 0 r]),(3,[.c (.str n), .own 47 47 0 r])]) ?_;refine bO ?_
  refine hQ _ n r rfl rfl (λw s hw=>by unfold wT;rw[hw.loc n r a (by omega),Be w s hw,e,Bl])
end Go.Pv
namespace Go.Pv
open Go Go.Proofs Go.Proofs.YtmanimipgpdbcaaGreat
def lN (bb:Y9) (k:Int):Int:=1+nR (ah (cellAt bb k.toNat 1))
def Sub (names bb:Y9) (n:ByteArray) (a:Y9) (m:ByteArray) (r:Y9):Prop:=
 1+nR r=S1 names (lN bb) n a/\∀w s,Loc w s->aS w s bb<=0->wT w s n a<=0->wT w s m r<=0
def IT:dw:=⟨[],[],false,[],false,true,λss bs=>match ss,bs with
 |[.agg [.c (.str n), .c (.sl e a)]],[]=>if e=47 then some ⟨True,ByteArray×List (List C),λv=>qH n a v.1 v.2,λv=>bw v.1 v.2,λ_=>[]⟩else none
 |_,_=>none⟩
def yv (N:Nat):dw:=⟨[],[],false,[],false,true,λss bs=>match ss,bs with
 |[.agg [.c (.str n), .c (.sl e a)], .one (.c (.sl e1 names)), .one (.c (.sl e2 bb))],[]=>if e=47/\e1=9/\e2=47 then some ⟨nR a<N/\names.length<=bb.length,ByteArray×List (List C),λv=>Sub names bb n a v.1 v.2,λv=>bw v.1 v.2,λ_=>[]⟩else none
 |_,_=>none⟩
def tU (N:Nat) (f:FuncId):Option dw:=if f=274 then some (yv N)else if f=278 then some IT else if f=310 then some Ef else none
def ajS (n:ByteArray) (a names bb:Y9) (i:Nat) (r:Y9):St:=(kK (J::L 9 names::L 47 bb::.one (.ptr 3 0)::J::J::.one (.ptr 6 0)::J::.one (.ptr 8 0)::J::J::J::J::J::J::J::J::J::J::J::J::J::J::J::J::J::J::J::J::J::J::J::L 47 a::I a.length::I i::J::J::J::J::J::J::J::J::J::J::J::J::J::J::[]) (none::none::none::some [.c (.str n), .c (.sl 47 a)]::none::none::some [.c (.str ByteArray.empty), .bc]::none::some [.c (.str n), .own 47 47 0 r]::none::none::none::none::none::none::none::none::none::none::none::none::none::none::none::none::none::none::none::none::none::none::none::none::none::none::none::none::none::none::none::none::none::none::none::none::none::none::none::none::[]))
set_option maxRecDepth 100000 in
set_option maxHeartbeats 1000000 in
theorem YE (N:Nat) (hc:dT (c0 (tU N))) (n:ByteArray) (a names bb:Y9) (hk:∀r∈a,r.map C.kd=tb 47) (hN:nR a<=N) (hl:names.length<=bb.length) (Q:anc)
 (hQ:∀st m x r,st.aq[6]?=some (.one (.ptr 6 0))->st.boxes[6]?=some (some [.c (.str m),x])->(x= .c (.sl 47 r)\/x= .own 47 47 (st.gen 47) r)->Sub names bb n a m r->Q .ret st) (hw:wS names (lN bb) (ty n a)=1) (Eh Ei Ej Ek El Em En:S):
 cF (c0 (tU N)) (gi (c0 (tU N))) [] (snd (snd (iJ Tryz.f274))) (eM 49 [(0,bw n a),(1,L 9 names),(2,L 47 bb),(3, .one (.ptr 3 0)),(6, .one (.ptr 6 0)),(7,I (b7 n names 0)),(11,L 9 names),(12, .one (.ptr 3 0)),(13,Z n),(14,I (b7 n names 0)),(15,I (b7 n names 0)),(16,Eh),(17,Ei),(18,Ej),(19,Ek),(20,El),(21,Em),(22,En)] [(3,[.c (.str n), .c (.sl 47 a)]),(6,[.c (.str ByteArray.empty), .bc])]) Q:=by
 refine .inl (cv ?_);with_reducible refine av (up 28 (.one (.ptr 3 0))) ?_;refine av (up 29 (Z n)) ?_;refine av (up 30 (.agg [.c (.str n), .bc])) ?_;refine av (uB 8 (.one (.ptr 8 0)) 8 [.c (.str ByteArray.empty), .bc]) ?_;refine av (ub 8 [.c (.str n), .bc]) ?_;refine bO ?_
 refine .inl (.inl (cv ?_));with_reducible refine av (up 31 (.one (.ptr 3 1))) ?_;refine av (up 32 (L 47 a)) ?_;refine sb (fact:=a.length<=137438953472) (up 33 (I a.length)) λhlen=>?_;refine av (up 34 (I 0)) ?_
 have hlen:(a.length:Int)<=137438953472:=yJ.2 hlen;with_reducible refine ef (kK (bw n a::L 9 names::L 47 bb::.one (.ptr 3 0)::J::J::.one (.ptr 6 0)::I (b7 n names 0)::.one (.ptr 8 0)::J::J::L 9 names::.one (.ptr 3 0)::Z n::I (b7 n names 0)::I (b7 n names 0)::Eh::Ei::Ej::Ek::El::Em::En::J::J::J::J::J::.one (.ptr 3 0)::Z n::.agg [.c (.str n), .bc]::.one (.ptr 3 1)::L 47 a::I a.length::I 0::J::J::J::J::J::J::J::J::J::J::J::J::J::J::[]) (none::none::none::some [.c (.str n), .c (.sl 47 a)]::none::none::some [.c (.str ByteArray.empty), .bc]::none::some [.c (.str n), .bc]::none::none::none::none::none::none::none::none::none::none::none::none::none::none::none::none::none::none::none::none::none::none::none::none::none::none::none::none::none::none::none::none::none::none::none::none::none::none::none::none::[])) ?_;refine bO ?_
 refine⟨⟨Nat×List (List C),λq=>ajS n a names bb q.1 q.2,λq=>(q.1<=a.length/\q.2.length=q.1/\nR q.2=sR (wS names (lN bb)) (a.take q.1)/\∀w s,Loc w s->aS w s bb<=0->wT w s n a<=0->aS w s q.2<=0),λq=>a.length-q.1⟩,⟨(0,[]),⟨gk _,rfl,rfl,λ_ _ _ _ _=>by simp[aS]⟩,gj ?_ ?_ rfl λ_=>rfl⟩,?_⟩
 ·repeat' (first|exact trivial|exact rfl|refine⟨?_,?_⟩|fail)
 ·repeat' (first|exact trivial|exact rfl|refine⟨?_,?_⟩|fail)
 rintro ⟨i,r⟩ hi;obtain⟨hi,hr,Be,YF⟩:i<=a.length/\r.length=i/\nR r=sR (wS names (lN bb)) (a.take i)/\∀w s,Loc w s->aS w s bb<=0->wT w s n a<=0->aS w s r<=0:=hi;refine .inl (cv ?_);with_reducible refine av (up 35 (B (decide ((i:Int)<a.length)))) ?_;refine bO ?_
 refine .inl ?_;with_reducible refine kI (b:=(decide ((i:Int)<a.length))) (λh=>?_) λh=>?_
 ·have h:(i:Int)<a.length:=lW h;have aj:i<a.length:=by omega
  have hp:1+nR (ah (cellAt a i 1))+nR (a.take i)<=nR a:=Ec (w:=λ_=>1) lk hk aj;have n1:0<=nR (a.take i):=oz (w:=λ_=>1) lk (a.take i);have hs:=IQ (w:=(wS names (lN bb))) hk aj;with_reducible refine fx (up 35 (B true)) ?_;refine kJ ?_
  refine .inl (sd (.inl (cv ?_)));with_reducible refine lj (side:=(0:Int)<=i/\(i:Int)<a.length) (up 36 (.one (.bz 47 a i 0))) ⟨g9 _,h⟩ ?_;refine av (up 37 (bw (aA (cellAt a i 0)) (ah (cellAt a i 1)))) ?_;refine av (uB 10 (.one (.ptr 10 0)) 10 [.c (.str ByteArray.empty), .bc]) ?_;refine av (ub 10 [.c (.str (aA (cellAt a i 0))), .c (.sl 47 (ah (cellAt a i 1)))]) ?_;refine bO ?_
  refine YD hc (Pj [(3,3),(6,6),(8,8),(10,10),(38,8),(46,8),(44,44),(45,44),(45,45),(39,44),(39,45)] [(8,44),(8,45),(44,44),(44,45),(45,44),(45,45)] [] [274]) (YC (λ_ h=>by cases h) λf h=>⟨yv N,by rw[a8.1 h];rfl,rfl⟩) (by kernel_rfl) (by rfl) (by kernel_rfl) ?_;with_reducible refine av (up 38 (.one (.ptr 8 1))) ?_;refine av (up 39 (.one (.own 47 47 0 r))) ?_;refine av (up 40 (bw (aA (cellAt a i 0)) (ah (cellAt a i 1)))) ?_;refine av (up 41 (L 9 names)) ?_;refine av (up 42 (L 47 bb)) ?_;refine qF (side:=(nR (ah (cellAt a i 1))<N/\names.length<=bb.length)) (A:=(ByteArray×List (List C))) (post:=λv=>Sub names bb (aA (cellAt a i 0)) (ah (cellAt a i 1)) v.1 v.2) (F:=λv=>up 43 (bw v.1 v.2)) ⟨by omega,hl⟩ λv hv=>?_
  have hv:Sub names bb (aA (cellAt a i 0)) (ah (cellAt a i 1)) v.1 v.2:=hv;with_reducible refine av (up 44 (.one (.own 47 47 0 [ty v.1 v.2]))) ?_;refine lj (side:=(r.length+1<=eA)) (uM 47 45 (.one (.own 47 47 1 (r++[ty v.1 v.2])))) (by unfold eA;omega) ?_;refine av (up 46 (.one (.ptr 8 1))) ?_;refine av (ub 8 [.c (.str n), .own 47 47 1 (r++[ty v.1 v.2])]) ?_;refine bO ?_
  refine cv ?_;with_reducible refine av (up 47 (I (IntKind.i64.wrap ((i:Int)+1)))) ?_
  rw[show IntKind.i64.wrap ((i:Int)+1)=((i+1:Nat):Int)from lM (by omega) (by omega)];with_reducible refine av (up 34 (I ((i+1:Nat):Int))) ?_;refine ef (St.dz (kK (J::L 9 names::L 47 bb::.one (.ptr 3 0)::J::J::.one (.ptr 6 0)::J::.one (.ptr 8 0)::J::.one (.ptr 10 0)::J::J::J::J::J::J::J::J::J::J::J::J::J::J::J::J::J::J::J::J::J::L 47 a::I a.length::I ((i+1:Nat):Int)::B true::.one (.bz 47 a i 0)::bw (aA (cellAt a i 0)) (ah (cellAt a i 1))::.one (.ptr 8 1)::.one (.own 47 47 0 r)::bw (aA (cellAt a i 0)) (ah (cellAt a i 1))::L 9 names::L 47 bb::bw v.1 v.2::.one (.own 47 47 0 [ty v.1 v.2])::.one (.own 47 47 1 (r++[ty v.1 v.2]))::.one (.ptr 8 1)::I ((i+1:Nat):Int)::J::[]) (none::none::none::some [.c (.str n), .c (.sl 47 a)]::none::none::some [.c (.str ByteArray.empty), .bc]::none::some [.c (.str n), .own 47 47 1 (r++[ty v.1 v.2])]::none::some [.c (.str (aA (cellAt a i 0))), .c (.sl 47 (ah (cellAt a i 1)))]::none::none::none::none::none::none::none::none::none::none::none::none::none::none::none::none::none::none::none::none::none::none::none::none::none::none::none::none::none::none::none::none::none::none::none::none::none::none::[])) 47) ?_;refine bO ?_
  refine⟨(i+1,r++[ty v.1 v.2]),⟨by omega,by grind,by show nR (r++[ty v.1 v.2])=sR (wS names (lN bb)) (a.take (i+1));rw[ajO,hs,hv.1];unfold S1;omega,λw s hw hb ht=>by have h1:=YF w s hw hb ht;have h2:=Yz hw hk aj;have h3:=hv.2 w s hw hb (by have h7:=hw.nn (ty n a);unfold wT at ht;have h8:=mE (sel:=s) hw.nn (a.take i);omega);show aS w s (r++[ty v.1 v.2])<=0;rw[Yx hw];omega⟩,(by grind),gj ?_ ?_ rfl λ_=>rfl⟩
  ·repeat' (first|exact trivial|exact rfl|refine⟨?_,?_⟩|fail)
  ·repeat' (first|exact trivial|exact rfl|refine⟨?_,?_⟩|fail)
 ·have h:¬(i:Int)<a.length:=qP h;have e:i=a.length:=by omega
  with_reducible refine fx (up 35 (B false)) ?_
  refine .inl (cv ?_);with_reducible refine av (up 48 (.agg [.c (.str n), .own 47 47 0 r])) ?_;refine av (ub 6 [.c (.str n), .own 47 47 0 r]) ?_;refine ef (eM 49 [(1,L 9 names),(2,L 47 bb),(3, .one (.ptr 3 0)),(6, .one (.ptr 6 0)),(8, .one (.ptr 8 0)),(32,L 47 a),(33,I a.length),(34,I i),(35,B false),(48, .agg [.c (.str n), .own 47 47 0 r])] [(3,[.c (.str n), .c (.sl 47 a)]),(6,[.c (.str n), .own 47 47 0 r]),(8,[.c (.str n), .own 47 47 0 r])]) ?_;refine bO ?_
  refine hQ _ n _ r rfl rfl (.inr rfl) ⟨by rw[Be,e,Bl];unfold S1;rw[hw],λw s hw hb ht=>by have h1:=YF w s hw hb ht;unfold wT at ht⊢;have h8:=mE (sel:=s) hw.nn a;rw[hw.loc n r a (by omega)];omega⟩
set_option maxRecDepth 100000 in
set_option maxHeartbeats 1000000 in
theorem ajT (N:Nat) (hc:dT (c0 (tU N))) (n:ByteArray) (a names bb:Y9) (hN:nR a<=N) (hl:names.length<=bb.length) (Q:anc)
 (hQ:∀st m x r,st.aq[6]?=some (.one (.ptr 6 0))->st.boxes[6]?=some (some [.c (.str m),x])->(x= .c (.sl 47 r)\/x= .own 47 47 (st.gen 47) r)->Sub names bb n a m r->Q .ret st):
 cF (c0 (tU N)) (gi (c0 (tU N))) [] (iJ Tryz.f274) (St.start Tryz.f274 [bw n a,L 9 names,L 47 bb] []) Q:=by
 refine .inl (Ba λaN=>?_);have hk:=IS (t:=0) aN rfl;have lE:=YB (t:=2) aN rfl;with_reducible refine av (uB 3 (.one (.ptr 3 0)) 3 [.c (.str n), .c (.sl 47 a)]) ?_;refine av (uB 6 (.one (.ptr 6 0)) 6 [.c (.str ByteArray.empty), .bc]) ?_;refine bO ?_
 refine .inl (.inl (cv ?_));with_reducible refine av (up 11 (L 9 names)) ?_;refine av (up 12 (.one (.ptr 3 0))) ?_;refine av (up 13 (Z n)) ?_;refine qF (side:=True) (A:=Unit) (post:=λ_=>True) (F:=λ_=>up 14 (I (b7 n names 0))) trivial λ_ _=>?_;refine av (up 7 (I (b7 n names 0))) ?_;refine bO ?_
 refine .inl (cv ?_);with_reducible refine av (up 15 (I (b7 n names 0))) ?_;refine av (up 16 (B (decide ((b7 n names 0)>=0)))) ?_;refine av (up 17 (B (decide ((b7 n names 0)>=0)))) ?_;refine D8 (j:=2) (t:=17) (b:=(decide ((b7 n names 0)>=0))) rfl ?_ ?_ ?_
 ·kernel_rfl
 all_goals intro h
 ·have h:0<=b7 n names 0:=lW h;with_reducible refine vW (up 18 (.one (.ptr 3 1))) ?_;refine A9 (j:=2) (t:=17) (up 19 (L 47 a)) ?_;refine Yp (fact:=a.length<=137438953472) (j:=2) (t:=17) (up 20 (I a.length)) λ_=>?_;refine A9 (j:=2) (t:=17) (up 21 (B ((a.length:Int)==0))) ?_;refine pv (up 22 (B ((a.length:Int)==0))) (up 22 (B false)) ?_;refine bO ?_;refine kI (b:=((a.length:Int)==0)) (λh2=>?_) λh2=>?_
  ·have h2:a.length=0:=by have:=eq_of_beq h2;omega
   obtain⟨k,iE⟩:∃k:Nat,b7 n names 0=k:=⟨_,(Qs h).symm⟩
   have jr:k<names.length:=by rcases Ee n names 0 with h1|⟨_,h1⟩<;>omega
   with_reducible refine fx (up 22 (B true)) ?_
   rw[iE];refine .inl (cv ?_);with_reducible refine av (up 23 (L 47 bb)) ?_;refine av (up 24 (I k)) ?_;refine lj (side:=(0:Int)<=k/\(k:Int)<bb.length) (up 25 (.one (.bz 47 bb k 0))) ⟨g9 _,by omega⟩ ?_;refine av (up 26 (bw (aA (cellAt bb k 0)) (ah (cellAt bb k 1)))) ?_;refine qF (side:=True) (A:=(ByteArray×List (List C))) (post:=λv=>qH (aA (cellAt bb k 0)) (ah (cellAt bb k 1)) v.1 v.2) (F:=λv=>up 27 (bw v.1 v.2)) trivial λv hv=>?_
   have wY:qH (aA (cellAt bb k 0)) (ah (cellAt bb k 1)) v.1 v.2:=hv;have hv:=wY.nR;with_reducible refine av (ub 6 [.c (.str v.1), .c (.sl 47 v.2)]) ?_;refine ef (eM 49 [(0,bw n a),(1,L 9 names),(2,L 47 bb),(3, .one (.ptr 3 0)),(6, .one (.ptr 6 0)),(7,I k),(11,L 9 names),(12, .one (.ptr 3 0)),(13,Z n),(14,I k),(15,I k),(16,B (decide ((k:Int)>=0))),(17,B true),(18, .one (.ptr 3 1)),(19,L 47 a),(20,I a.length),(21,B ((a.length:Int)==0)),(22,B true),(23,L 47 bb),(24,I k),(25, .one (.bz 47 bb k 0)),(26,bw (aA (cellAt bb k 0)) (ah (cellAt bb k 1))),(27,bw v.1 v.2)] [(3,[.c (.str n), .c (.sl 47 a)]),(6,[.c (.str v.1), .c (.sl 47 v.2)])]) ?_;refine bO ?_
   refine hQ _ v.1 _ v.2 rfl rfl (.inl rfl) ⟨?_,λw s hw hb _=>by rw[wY w s hw];have h5:=Yz hw lE (i:=k) (by omega);have h6:=mE (sel:=s) hw.nn (bb.take k);omega⟩;unfold S1;unfold wS;rw[aC ⟨by assumption,h2⟩];rw[qO h2];show 1+nR v.2=lN bb (b7 n names 0)+0;rw[iE,hv];unfold lN;grind
  ·have h2:a.length≠0:=λe=>by grind
   with_reducible refine pq (eM 49 [(0,bw n a),(1,L 9 names),(2,L 47 bb),(3, .one (.ptr 3 0)),(6, .one (.ptr 6 0)),(7,I (b7 n names 0)),(11,L 9 names),(12, .one (.ptr 3 0)),(13,Z n),(14,I (b7 n names 0)),(15,I (b7 n names 0)),(16,B (decide ((b7 n names 0)>=0))),(17,B true),(18, .one (.ptr 3 1)),(19,L 47 a),(20,I a.length),(21,B ((a.length:Int)==0)),(22,B false)] [(3,[.c (.str n), .c (.sl 47 a)]),(6,[.c (.str ByteArray.empty), .bc])]) (by kernel_rfl) ?_;refine kJ ?_
   exact YE N hc n a names bb hk hN hl Q hQ (by unfold wS;exact aQ λhc=>h2 hc.2) _ _ _ _ _ _ _
 ·have h:¬0<=b7 n names 0:=qP h;with_reducible refine tT (j:=2) (t:=17) (up 19 aO) ?_;refine tT (j:=2) (t:=17) (up 20 aO) ?_;refine tT (j:=2) (t:=17) (up 21 aO) ?_;refine vV (up 22 aO) (up 22 (B false)) ?_;refine bO ?_;refine Yn ?_ ?_
  ·kernel_rfl
  with_reducible refine pq (eM 49 [(0,bw n a),(1,L 9 names),(2,L 47 bb),(3, .one (.ptr 3 0)),(6, .one (.ptr 6 0)),(7,I (b7 n names 0)),(11,L 9 names),(12, .one (.ptr 3 0)),(13,Z n),(14,I (b7 n names 0)),(15,I (b7 n names 0)),(16,B (decide ((b7 n names 0)>=0))),(17,B false),(18,aO),(19,aO),(20,aO),(21,aO),(22,B false)] [(3,[.c (.str n), .c (.sl 47 a)]),(6,[.c (.str ByteArray.empty), .bc])]) (by kernel_rfl) ?_;refine kJ ?_
  exact YE N hc n a names bb hk hN hl Q hQ (by unfold wS;exact aQ λhc=>h hc.1) _ _ _ _ _ _ _
end Go.Pv
namespace Go.Pv
open Go Go.Proofs Go.Proofs.YtmanimipgpdbcaaGreat
set_option maxRecDepth 100000 in
set_option maxHeartbeats 1000000 in
theorem ajU {dr:jq} {sp:FuncId->Option dw} (l:Y9) (s:ByteArray) (Q:anc) (hQ:∀st v,st.aq[4]?=some (B v)->Q .ret st):
 cF (c0 sp) dr [] (iJ Tryz.f271) (St.start Tryz.f271 [L 9 l,Z s] []) Q:=by
 refine .inl (cv ?_);with_reducible refine av (up 4 (B false)) ?_;refine bO ?_
 refine .inl (.inl (cv ?_));with_reducible refine av (up 7 (L 9 l)) ?_;refine sb (fact:=l.length<=137438953472) (up 8 (I l.length)) λhlen=>?_
 have hlen:(l.length:Int)<=137438953472:=yJ.2 hlen;with_reducible refine av (up 9 (I 0)) ?_;refine ef (kK (L 9 l::Z s::J::J::B false::J::J::L 9 l::I l.length::I 0::J::J::J::J::J::J::J::[]) (none::none::none::none::none::none::none::none::none::none::none::none::none::none::none::none::none::[])) ?_;refine bO ?_
 refine⟨⟨Nat,λi=>(kK (L 9 l::Z s::J::J::J::J::J::L 9 l::I l.length::I i::J::J::J::J::J::J::J::[]) (none::none::none::none::none::none::none::none::none::none::none::none::none::none::none::none::none::[])),λi=>i<=l.length,λi=>l.length-i⟩,⟨0,gk _,gj ?_ ?_ rfl λ_=>rfl⟩,?_⟩
 ·repeat' (first|exact trivial|exact rfl|refine⟨?_,?_⟩|fail)
 ·repeat' (first|exact trivial|exact rfl|refine⟨?_,?_⟩|fail)
 intro (i:Nat) (hi:i<=l.length);refine .inl (cv ?_);with_reducible refine av (up 10 (B (decide ((i:Int)<l.length)))) ?_;refine bO ?_
 refine .inl ?_;with_reducible refine kI (b:=(decide ((i:Int)<l.length))) (λh=>?_) λh=>?_
 ·have h:(i:Int)<l.length:=lW h;with_reducible refine fx (up 10 (B true)) ?_;refine kJ ?_
  refine .inl (sd (.inl (cv ?_)));with_reducible refine lj (side:=(0:Int)<=i/\(i:Int)<l.length) (up 11 (.one (.bz 9 l i 0))) ⟨g9 _,h⟩ ?_;refine av (up 12 (Z (aA (cellAt l i 0)))) ?_;refine av (up 6 (Z (aA (cellAt l i 0)))) ?_;refine bO ?_
  refine .inl (cv ?_);with_reducible refine av (up 13 (Z (aA (cellAt l i 0)))) ?_;refine av (up 14 (Z s)) ?_;refine av (up 15 (B (fm (aA (cellAt l i 0)) s))) ?_;refine bO ?_;refine kI (b:=(fm (aA (cellAt l i 0)) s)) (λh3=>?_) λh3=>?_
  ·with_reducible refine fx (up 15 (B true)) ?_
   refine .inl (cv ?_);with_reducible refine av (up 4 (B true)) ?_;refine ef (eM 17 [(0,L 9 l),(1,Z s),(4,B true),(6,Z (aA (cellAt l i 0))),(7,L 9 l),(8,I l.length),(9,I i),(10,B true),(11, .one (.bz 9 l i 0)),(12,Z (aA (cellAt l i 0))),(13,Z (aA (cellAt l i 0))),(14,Z s),(15,B true)] []) ?_;refine bO ?_
   exact hQ _ true rfl
  ·with_reducible refine fx (up 15 (B false)) ?_;refine kJ ?_
   refine cv ?_;with_reducible refine av (up 16 (I (IntKind.i64.wrap ((i:Int)+1)))) ?_
   rw[show IntKind.i64.wrap ((i:Int)+1)=((i+1:Nat):Int)from lM (by omega) (by omega)];with_reducible refine av (up 9 (I ((i+1:Nat):Int))) ?_;refine ef (kK (L 9 l::Z s::J::J::J::J::Z (aA (cellAt l i 0))::L 9 l::I l.length::I ((i+1:Nat):Int)::B true::.one (.bz 9 l i 0)::Z (aA (cellAt l i 0))::Z (aA (cellAt l i 0))::Z s::B false::I ((i+1:Nat):Int)::[]) (none::none::none::none::none::none::none::none::none::none::none::none::none::none::none::none::none::[])) ?_;refine bO ?_
   refine⟨i+1,(by omega),(by grind),gj ?_ ?_ rfl λ_=>rfl⟩
   ·repeat' (first|exact trivial|exact rfl|refine⟨?_,?_⟩|fail)
   ·repeat' (first|exact trivial|exact rfl|refine⟨?_,?_⟩|fail)
 ·with_reducible refine fx (up 10 (B false)) ?_
  refine .inl (cv ?_);with_reducible refine av (up 4 (B false)) ?_;refine ef (eM 17 [(0,L 9 l),(1,Z s),(4,B false),(7,L 9 l),(8,I l.length),(9,I i),(10,B false)] []) ?_;refine bO ?_
  exact hQ _ false rfl
theorem YG {a:Y9} (hk:∀r∈a,r.map C.kd=tb 47) {i:Nat} (hi:i<a.length):0<=nR (ah (cellAt a i 1))/\nR (ah (cellAt a i 1))<=nR a:=by have hp:1+nR (ah (cellAt a i 1))+nR (a.take i)<=nR a:=Ec (w:=λ_=>1) lk hk hi;have n1:0<=nR (a.take i):=oz (w:=λ_=>1) lk (a.take i);have n2:0<=nR (ah (cellAt a i 1)):=oz (w:=λ_=>1) lk (ah (cellAt a i 1));omega
theorem ajV {bb r:Y9} {i:Nat} (hr:r.length=i) (hv:(∀k:Nat,k<i->cD (cellAt r k 0)=lN bb k)):(∀k:Nat,k<i+1->cD (cellAt (r++[[C.int .i64 (nR (ah (cellAt bb i 1))+1)]]) k 0)=lN bb k):=by
 intro k hk;rcases aT k i with h|h
 ·rw[<-hv k h];unfold cellAt;grind
 ·have:k=i:=by omega
  subst this;unfold cellAt lN;simp only[aZ];rw[jR (by omega),hr,PV,Qt];show nR _+1=1+nR _;unfold cellAt;grind
def nD (r:Y9) (k:Int):Int:=cD (cellAt r k.toNat 0)
theorem ajW {names:Y9} {sz sz2:Int->Int} {n:ByteArray} {a:Y9} (h:∀k:Nat,k<names.length->sz k=sz2 k):S1 names sz n a=S1 names sz2 n a:=by
 have e:wS names sz=wS names sz2:=by
  funext r;unfold wS;split
  ·rename_i hc;rcases Ee (aA (r.getD 0 default)) names 0 with h1|⟨h1,h2⟩
   ·omega
   ·have:=h (b7 (aA (r.getD 0 default)) names 0).toNat (by omega);grind
  ·rfl
 unfold S1;rw[e]
def IU:dw:=⟨[],[],false,[],false,true,λss bs=>match ss,bs with
 |[.one (.c (.sl e _)), .one (.c (.str _))],[]=>if e=9 then some ⟨True,Bool,λ_=>True,λv=>B v,λ_=>[]⟩else none
 |_,_=>none⟩
def IV:dw:=⟨[],[],false,[],false,true,λss bs=>match ss,bs with
 |[.agg [.c (.str _), .c (.sl e a)]],[]=>if e=47 then some ⟨nR a<=2199023255552,Unit,λ_=>True,λ_=>I (nR a+1),λ_=>[]⟩else none
 |_,_=>none⟩
def IW:dw:=⟨[[.bo, .bo],[.bo],[.plain 3]],[],false,[],false,true,λss bs=>match ss,bs with
 |[.agg [.c (.str n), .c (.sl e a)], .one (.c (.sl e1 names)), .one (.c (.sl e2 cC))],[]=>if e=47/\e1=9/\e2=3 then
  some ⟨se names (nD cC)/\names.length<=cC.length,Int,λv=>v<=4096->v=S1 names (nD cC) n a,λv=>I v,λ_=>[]⟩else none
 |_,_=>none⟩
def IX:dw:=⟨[],[],false,[],false,true,λss bs=>match ss,bs with
 |[.agg [.c (.str n), .c (.sl e a)], .one (.c (.sl e1 names)), .one (.c (.sl e2 bb))],[]=>if e=47/\e1=9/\e2=47 then some ⟨names.length<=bb.length,ByteArray×List (List C),λv=>Sub names bb n a v.1 v.2,λv=>bw v.1 v.2,λ_=>[]⟩else none
 |_,_=>none⟩
def IY (f:FuncId):Option dw:=if f=271 then some IU else if f=272 then some IV else if f=273 then some IW else if f=274 then some IX else none
def ajX (n:ByteArray) (a names bb:Y9) (i:Nat) (r:Y9):St:=(kK (bw n a::L 9 names::L 47 bb::.one (.ptr 3 0)::J::J::.one (.ptr 6 0)::J::.one (.own 3 3 0 r)::J::J::J::J::J::J::J::J::L 9 names::I names.length::I i::J::J::J::J::J::J::J::J::J::J::J::J::J::J::J::J::J::J::J::J::J::J::J::J::J::J::J::J::J::[]) (none::none::none::some [.c (.str n), .c (.sl 47 a)]::none::none::some [.c (.str ByteArray.empty), .bc]::none::none::none::none::none::none::none::none::none::none::none::none::none::none::none::none::none::none::none::none::none::none::none::none::none::none::none::none::none::none::none::none::none::none::none::none::none::none::none::none::none::none::[]))
theorem ajY {a b:Int} (h:(a !=b)=false):a=b:=by grind
set_option maxRecDepth 100000 in
set_option maxHeartbeats 1000000 in
theorem ajZ {dr:jq} (n:ByteArray) (a names bb:Y9) (hB:nR bb<=1099511627776) (Q:anc)
 (hQ:∀st m x r e,st.aq[6]?=some (.one (.ptr 6 0))->st.boxes[6]?=some (some [.c (.str m),x])->st.aq[7]?=some (I e)->(x= .c (.sl 47 r)\/(x= .bc/\r=[]))->nR r<=4095->(e=0\/(1<=e/\r=[]))->(∀w s,Loc w s->w (ty ByteArray.empty [])<=0->aS w s bb<=0->wT w s n a<=0->wT w s m r<=0)->Q .ret st):
 cF (c0 IY) dr [] (iJ Tryz.f211) (St.start Tryz.f211 [bw n a,L 9 names,L 47 bb] []) Q:=by
 refine .inl (Ba λaN=>?_);have lE:=YB (t:=2) aN rfl;with_reducible refine av (uB 3 (.one (.ptr 3 0)) 3 [.c (.str n), .c (.sl 47 a)]) ?_;refine av (uB 6 (.one (.ptr 6 0)) 6 [.c (.str ByteArray.empty), .bc]) ?_;refine av (up 7 (I 0)) ?_;refine bO ?_
 refine .inl (.inl (cv ?_));with_reducible refine av (up 11 (L 9 names)) ?_;refine sb (fact:=names.length<=137438953472) (up 12 (I names.length)) λhlen=>?_
 have hlen:(names.length:Int)<=137438953472:=yJ.2 hlen;with_reducible refine av (up 13 (L 47 bb)) ?_;refine sb (fact:=bb.length<=137438953472) (up 14 (I bb.length)) λ_=>?_;refine av (up 15 (B ((names.length:Int) !=bb.length))) ?_;refine bO ?_;refine kI (b:=((names.length:Int) !=bb.length)) (λh=>?_) λh=>?_
 ·with_reducible refine fx (up 15 (B true)) ?_
  refine .inl (cv ?_);with_reducible refine av (up 16 (.agg [.c (.str ByteArray.empty), .bc])) ?_;refine av id ?_;refine av (up 7 (I 9)) ?_;refine ef (eM 49 [(0,bw n a),(1,L 9 names),(2,L 47 bb),(3, .one (.ptr 3 0)),(6, .one (.ptr 6 0)),(7,I 9),(11,L 9 names),(12,I names.length),(13,L 47 bb),(14,I bb.length),(15,B true),(16, .agg [.c (.str ByteArray.empty), .bc])] [(3,[.c (.str n), .c (.sl 47 a)]),(6,[.c (.str ByteArray.empty), .bc])]) ?_;refine bO ?_
  exact hQ _ _ _ [] 9 rfl rfl rfl (.inr ⟨rfl,rfl⟩) (by decide) (.inr ⟨by decide,rfl⟩) λw s _ hz _ _=>by unfold wT;simp only[aS];omega
 ·have h:names.length=bb.length:=by have:=ajY h;omega
  with_reducible refine fx (up 15 (B false)) ?_;refine kJ ?_
  refine .inl (cv ?_);with_reducible refine av (up 8 (.one .bc)) ?_;refine bO ?_
  refine .inl (.inl (cv ?_));with_reducible refine av (up 17 (L 9 names)) ?_;refine sb (fact:=names.length<=137438953472) (up 18 (I names.length)) λ_=>?_;refine av (up 19 (I 0)) ?_;refine ef (kK (bw n a::L 9 names::L 47 bb::.one (.ptr 3 0)::J::J::.one (.ptr 6 0)::I 0::.one .bc::J::J::L 9 names::I names.length::L 47 bb::I bb.length::B false::J::L 9 names::I names.length::I 0::J::J::J::J::J::J::J::J::J::J::J::J::J::J::J::J::J::J::J::J::J::J::J::J::J::J::J::J::J::[]) (none::none::none::some [.c (.str n), .c (.sl 47 a)]::none::none::some [.c (.str ByteArray.empty), .bc]::none::none::none::none::none::none::none::none::none::none::none::none::none::none::none::none::none::none::none::none::none::none::none::none::none::none::none::none::none::none::none::none::none::none::none::none::none::none::none::none::none::none::[])) ?_;refine bO ?_
  refine⟨⟨Nat×List (List C),λq=>ajX n a names bb q.1 q.2,λq=>q.1<=names.length/\q.2.length=q.1/\(∀k:Nat,k<q.1->cD (cellAt q.2 k 0)=lN bb k),λq=>names.length-q.1⟩,⟨(0,[]),⟨gk _,rfl,λk hk=>absurd hk (Nat.not_lt_zero k)⟩,gj ?_ ?_ rfl λ_=>rfl⟩,?_⟩
  ·repeat' (first|exact trivial|exact rfl|refine⟨?_,?_⟩|fail)
  ·repeat' (first|exact trivial|exact rfl|refine⟨?_,?_⟩|fail)
  rintro ⟨i,r⟩ hi;obtain⟨hi,hr,hv⟩:i<=names.length/\r.length=i/\(∀k:Nat,k<i->cD (cellAt r k 0)=lN bb k):=hi;refine .inl (cv ?_);with_reducible refine av (up 20 (B (decide ((i:Int)<names.length)))) ?_;refine bO ?_
  refine .inl ?_;with_reducible refine kI (b:=(decide ((i:Int)<names.length))) (λh1=>?_) λh1=>?_
  ·have h1:(i:Int)<names.length:=lW h1;have gP:=YG lE (i:=i) (by omega);with_reducible refine fx (up 20 (B true)) ?_;refine kJ ?_
   refine .inl (sd (.inl (cv ?_)));with_reducible refine av (up 21 (I i)) ?_;refine lj (side:=(0:Int)<=i/\(i:Int)<names.length) (up 22 (.one (.bz 9 names i 0))) ⟨g9 _,h1⟩ ?_;refine av (up 23 (Z (aA (cellAt names i 0)))) ?_;refine av (up 9 (I i)) ?_;refine av (up 10 (Z (aA (cellAt names i 0)))) ?_;refine bO ?_
   refine .inl (.inl (cv ?_));with_reducible refine av (up 24 (L 9 names)) ?_;refine av (up 25 (I i)) ?_;refine lj (side:=(0:Int)<=0/\(0:Int)<=(i:Int)/\(i:Int)<=names.length) (up 26 (L 9 ((names.drop 0).take (i-0)))) ⟨iU 0,g9 _,by omega⟩ ?_;refine av (up 27 (Z (aA (cellAt names i 0)))) ?_;refine qF (side:=True) (A:=Bool) (post:=λ_=>True) (F:=λv=>up 28 (B v)) trivial λv _=>?_;refine bO ?_;refine kI (b:=v) (λh2=>?_) λh2=>?_
   ·with_reducible refine fx (up 28 (B true)) ?_
    refine .inl (cv ?_);with_reducible refine av (up 29 (.agg [.c (.str ByteArray.empty), .bc])) ?_;refine av id ?_;refine av (up 7 (I 5)) ?_;refine ef (eM 49 [(0,bw n a),(1,L 9 names),(2,L 47 bb),(3, .one (.ptr 3 0)),(6, .one (.ptr 6 0)),(7,I 5),(8, .one (.own 3 3 0 r)),(9,I i),(10,Z (aA (cellAt names i 0))),(17,L 9 names),(18,I names.length),(19,I i),(20,B true),(21,I i),(22, .one (.bz 9 names i 0)),(23,Z (aA (cellAt names i 0))),(24,L 9 names),(25,I i),(26,L 9 ((names.drop 0).take (i-0))),(27,Z (aA (cellAt names i 0))),(28,B true),(29, .agg [.c (.str ByteArray.empty), .bc])] [(3,[.c (.str n), .c (.sl 47 a)]),(6,[.c (.str ByteArray.empty), .bc])]) ?_;refine bO ?_
    exact hQ _ _ _ [] 5 rfl rfl rfl (.inr ⟨rfl,rfl⟩) (by decide) (.inr ⟨by decide,rfl⟩) λw s _ hz _ _=>by unfold wT;simp only[aS];omega
   ·with_reducible refine fx (up 28 (B false)) ?_;refine kJ ?_
    refine cv ?_;with_reducible refine av (up 30 (.one (.own 3 3 0 r))) ?_;refine av (up 31 (L 47 bb)) ?_;refine av (up 32 (I i)) ?_;refine lj (side:=(0:Int)<=i/\(i:Int)<bb.length) (up 33 (.one (.bz 47 bb i 0))) ⟨g9 _,by omega⟩ ?_;refine av (up 34 (bw (aA (cellAt bb i 0)) (ah (cellAt bb i 1)))) ?_;refine qF (side:=(nR (ah (cellAt bb i 1))<=2199023255552)) (A:=Unit) (post:=λ_=>True) (F:=λ_=>up 35 (I (nR (ah (cellAt bb i 1))+1))) (by omega) λ_ _=>?_;refine av (up 36 (.one (.own 3 3 0 [[C.int .i64 (nR (ah (cellAt bb i 1))+1)]]))) ?_;refine lj (side:=(r.length+1<=eA)) (uM 3 37 (.one (.own 3 3 1 (r++[[C.int .i64 (nR (ah (cellAt bb i 1))+1)]])))) (by unfold eA;omega) ?_;refine av (up 8 (.one (.own 3 3 1 (r++[[C.int .i64 (nR (ah (cellAt bb i 1))+1)]])))) ?_;refine bO ?_
    refine cv ?_;with_reducible refine av (up 38 (I (IntKind.i64.wrap ((i:Int)+1)))) ?_
    rw[show IntKind.i64.wrap ((i:Int)+1)=((i+1:Nat):Int)from lM (by omega) (by omega)];with_reducible refine av (up 19 (I ((i+1:Nat):Int))) ?_;refine ef (St.dz (kK (bw n a::L 9 names::L 47 bb::.one (.ptr 3 0)::J::J::.one (.ptr 6 0)::J::.one (.own 3 3 1 (r++[[C.int .i64 (nR (ah (cellAt bb i 1))+1)]]))::I i::Z (aA (cellAt names i 0))::J::J::J::J::J::J::L 9 names::I names.length::I ((i+1:Nat):Int)::B true::I i::.one (.bz 9 names i 0)::Z (aA (cellAt names i 0))::L 9 names::I i::L 9 ((names.drop 0).take (i-0))::Z (aA (cellAt names i 0))::B false::J::.one (.own 3 3 0 r)::L 47 bb::I i::.one (.bz 47 bb i 0)::bw (aA (cellAt bb i 0)) (ah (cellAt bb i 1))::I (nR (ah (cellAt bb i 1))+1)::.one (.own 3 3 0 [[C.int .i64 (nR (ah (cellAt bb i 1))+1)]])::.one (.own 3 3 1 (r++[[C.int .i64 (nR (ah (cellAt bb i 1))+1)]]))::I ((i+1:Nat):Int)::J::J::J::J::J::J::J::J::J::J::[]) (none::none::none::some [.c (.str n), .c (.sl 47 a)]::none::none::some [.c (.str ByteArray.empty), .bc]::none::none::none::none::none::none::none::none::none::none::none::none::none::none::none::none::none::none::none::none::none::none::none::none::none::none::none::none::none::none::none::none::none::none::none::none::none::none::none::none::none::none::[])) 3) ?_;refine bO ?_
    refine⟨(i+1,(r++[[C.int .i64 (nR (ah (cellAt bb i 1))+1)]])),⟨by omega,by grind,ajV hr hv⟩,(by grind),gj ?_ ?_ rfl λ_=>rfl⟩
    ·repeat' (first|exact trivial|exact rfl|refine⟨?_,?_⟩|fail)
    ·repeat' (first|exact trivial|exact rfl|refine⟨?_,?_⟩|fail)
  ·have h1:¬(i:Int)<names.length:=qP h1;have e:i=names.length:=by omega
   rw[e]at hv hr;have hz:se names (nD r):=⟨λk hk=>by have h2:=YG lE (i:=k) (by omega);have h3:nD r k=lN bb k:=hv k hk;rw[h3];unfold lN;grind⟩
   with_reducible refine fx (up 20 (B false)) ?_
   refine .inl (.inl (cv ?_));with_reducible refine av (up 39 (bw n a)) ?_;refine av (up 40 (L 9 names)) ?_;refine av (up 41 (.one (.own 3 3 0 r))) ?_;refine qF (side:=(se names (nD r)/\names.length<=r.length)) (A:=Int) (post:=λv=>v<=4096->v=S1 names (nD r) n a) (F:=λv=>up 42 (I v)) ⟨hz,by omega⟩ λv sZ=>?_
   have sZ:v<=4096->v=S1 names (nD r) n a:=sZ;with_reducible refine av (up 43 (B (decide (v>4096)))) ?_;refine bO ?_;refine kI (b:=(decide (v>4096))) (λh2=>?_) λh2=>?_
   ·with_reducible refine fx (up 43 (B true)) ?_
    refine .inl (cv ?_);with_reducible refine av (up 44 (.agg [.c (.str ByteArray.empty), .bc])) ?_;refine av id ?_;refine av (up 7 (I 4)) ?_;refine ef (eM 49 [(0,bw n a),(1,L 9 names),(2,L 47 bb),(3, .one (.ptr 3 0)),(6, .one (.ptr 6 0)),(7,I 4),(8, .one (.own 3 3 0 r)),(17,L 9 names),(18,I names.length),(19,I i),(20,B false),(39,bw n a),(40,L 9 names),(41, .one (.own 3 3 0 r)),(42,I v),(43,B true),(44, .agg [.c (.str ByteArray.empty), .bc])] [(3,[.c (.str n), .c (.sl 47 a)]),(6,[.c (.str ByteArray.empty), .bc])]) ?_;refine bO ?_
    exact hQ _ _ _ [] 4 rfl rfl rfl (.inr ⟨rfl,rfl⟩) (by decide) (.inr ⟨by decide,rfl⟩) λw s _ hz _ _=>by unfold wT;simp only[aS];omega
   ·have h2:¬v>4096:=qP h2;with_reducible refine fx (up 43 (B false)) ?_;refine kJ ?_
    refine .inl (cv ?_);with_reducible refine av (up 45 (bw n a)) ?_;refine av (up 46 (L 9 names)) ?_;refine av (up 47 (L 47 bb)) ?_;refine qF (side:=(names.length<=bb.length)) (A:=(ByteArray×List (List C))) (post:=λv=>Sub names bb n a v.1 v.2) (F:=λt=>up 48 (bw t.1 t.2)) (by omega) λt ht=>?_
    have ht:Sub names bb n a t.1 t.2:=ht;with_reducible refine av (ub 6 [.c (.str t.1), .c (.sl 47 t.2)]) ?_;refine av (up 7 (I 0)) ?_
    have h3:=ajW (n:=n) (a:=a) (names:=names) (sz:=nD r) (sz2:=lN bb) hv;with_reducible refine ef (eM 49 [(0,bw n a),(1,L 9 names),(2,L 47 bb),(3, .one (.ptr 3 0)),(6, .one (.ptr 6 0)),(7,I 0),(8, .one (.own 3 3 0 r)),(17,L 9 names),(18,I names.length),(19,I i),(20,B false),(39,bw n a),(40,L 9 names),(41, .one (.own 3 3 0 r)),(42,I v),(43,B false),(45,bw n a),(46,L 9 names),(47,L 47 bb),(48,bw t.1 t.2)] [(3,[.c (.str n), .c (.sl 47 a)]),(6,[.c (.str t.1), .c (.sl 47 t.2)])]) ?_;refine bO ?_
    exact hQ _ _ _ t.2 0 rfl rfl rfl (.inl rfl) (by have:=sZ (by omega);have:=ht.1;omega) (.inl rfl) λw s hw _ hb ha=>ht.2 w s hw hb ha
end Go.Pv
namespace Go.Pv
open Go Go.Proofs Go.Proofs.YtmanimipgpdbcaaGreat
structure lO (f:FuncId) (fs:dw):Prop where
 qI:zl Tryz.prog tb f fs
 kp:fs.kp=false
 new:fs.new=false
 pl:∀ss bs sp,fs.sp ss bs=some sp->∀x,∀y∈(sp.res x).xs,y.cU=[]
theorem aj0 {ik:FuncId->Option dw} (h:∀f fs,ik f=some fs->lO f fs):m3 Tryz.prog tb ik:=
 ⟨λf fs h1=>(h f fs h1).qI.1,λf fs ss bs sp h1 hs=>((h f fs h1).qI.2 ss bs sp hs).1,λf fs ss bs sp h1 hs=>((h f fs h1).qI.2 ss bs sp hs).2,
  λf fs ss bs sp h1 hs hk=>by(rw[(h f fs h1).kp]at hk;grind),λf fs ss bs sp h1 hs _=>(h f fs h1).pl ss bs sp hs,λf fs h1 _=>(h f fs h1).new⟩
theorem Bg {ik:FuncId->Option dw} (h:∀f fs,ik f=some fs->lO f fs):dT (c0 ik):=⟨D7,aj0 h⟩
theorem vY:dT (c0 λ_=>none):=Bg λ_ _ h=>by cases h
theorem iG.side {f:FuncId} {ss:amZ} {bs:anb} {p q:Prop} {A:Type} {post:A->Prop} {res:A->S} {bx:A->List (List X)} (h:iG Tryz.prog tb f ss bs ⟨p,A,post,res,bx⟩) (hq:q->p):iG Tryz.prog tb f ss bs ⟨q,A,post,res,bx⟩:=λhs=>h (hq hs)
theorem iG.post {f:FuncId} {ss:amZ} {bs:anb} {p:Prop} {A:Type} {post YH:A->Prop} {res:A->S} {bx:A->List (List X)} (h:iG Tryz.prog tb f ss bs ⟨p,A,post,res,bx⟩) (hq:p->∀x,post x->YH x):iG Tryz.prog tb f ss bs ⟨p,A,YH,res,bx⟩:=λhs E w vals a b c d e f g=>by refine Calls.mono (h hs E w vals a b c d e f g) λe' w' h'=>?_;grind
theorem YI:lO 310 Ef:=by
 refine⟨?_,rfl,rfl,?_⟩
 ·refine rE (dr:=gi (c0 λ_=>none)) (cl:=[]) vY (qB vY follows) (fn:=Tryz.f310) 10 (by kernel_rfl) (by kernel_rfl) (by kernel_rfl) (by show 10<19;omega) ?_;intro ss bs sp h;unfold Ef at h;simp only at h;split at h
  ·rename_i e rows s;split at h
   ·rename_i he;subst he;simp only[ae]at h;subst h;refine⟨by show 2<=19;omega,λx=>⟨⟨rfl,λl hl=>(by cases hl)⟩,λy hy=>?_,λl hl=>(by cases hl)⟩,λ_=>?_⟩
    ·obtain rfl:=a8.1 hy;exact⟨λb hb=>(by cases hb),rfl⟩
    ·refine ajd rows s _ λst h2=>⟨λh=>(by cases h),[(false,[.c (.int .i64 (b7 s rows 0))])],?_,(),trivial,⟨rfl,rfl⟩,trivial⟩
     show eV _ _ st [.tmp 4]=_;simp only[eV,jo,qG h2]
   ·cases h
  ·cases h
 ·intro ss bs sp h;unfold Ef at h;simp only at h;split at h
  ·split at h
   ·simp only[ae]at h;subst h;intro x y hy;obtain rfl:=a8.1 hy;rfl
   ·cases h
  ·cases h
theorem aj1:lO 271 IU:=by
 refine⟨?_,rfl,rfl,?_⟩
 ·refine rE (dr:=gi (c0 λ_=>none)) (cl:=[]) vY (qB vY follows) (fn:=Tryz.f271) 10 (by kernel_rfl) (by kernel_rfl) (by kernel_rfl) (by show 10<17;omega) ?_;intro ss bs sp h;unfold IU at h;simp only at h;split at h
  ·rename_i e rows s;split at h
   ·rename_i he;subst he;simp only[ae]at h;subst h;refine⟨by show 2<=17;omega,λx=>⟨⟨rfl,λl hl=>(by cases hl)⟩,λy hy=>?_,λl hl=>(by cases hl)⟩,λ_=>?_⟩
    ·obtain rfl:=a8.1 hy;exact⟨λb hb=>(by cases hb),rfl⟩
    ·refine ajU rows s _ λst v h2=>⟨λh=>(by cases h),[(false,[.c (.bool v)])],?_,v,trivial,rfl,trivial⟩
     show eV _ _ st [.tmp 4]=_;simp only[eV,jo,qG h2]
   ·cases h
  ·cases h
 ·intro ss bs sp h;unfold IU at h;simp only at h;split at h
  ·split at h
   ·simp only[ae]at h;subst h;intro x y hy;obtain rfl:=a8.1 hy;rfl
   ·cases h
  ·cases h
theorem YJ (N:Nat) (ik:FuncId->Option dw) (hc:dT (c0 ik)) (hw:∀n a,nR a<N->∀Q:anc,nR a<=2199023255552->(∀st,st.aq[2]?=some (I (nR a+1))->Q .ret st)->cF (c0 ik) (gi (c0 ik)) [] (iJ Tryz.f272) (St.start Tryz.f272 [bw n a] []) Q):lO 272 (Bc N):=by
 refine⟨?_,rfl,rfl,?_⟩
 ·refine rE (dr:=gi (c0 ik)) (cl:=[]) hc (qB hc follows) (fn:=Tryz.f272) 10 (by kernel_rfl) (by kernel_rfl) (by kernel_rfl) (by show 10<19;omega) ?_;intro ss bs sp h;unfold Bc at h;simp only at h;split at h
  ·rename_i n e a;split at h
   ·rename_i he;subst he;simp only[ae]at h;subst h;refine⟨by show 1<=19;omega,λx=>⟨⟨rfl,λl hl=>(by cases hl)⟩,λy hy=>?_,λl hl=>(by cases hl)⟩,λhs=>?_⟩
    ·obtain rfl:=a8.1 hy;exact⟨λb hb=>(by cases hb),rfl⟩
    ·refine hw n a hs.1 _ hs.2 λst h2=>⟨λh=>(by cases h),[(false,[.c (.int .i64 (nR a+1))])],?_,(),trivial,⟨rfl,rfl⟩,trivial⟩
     show eV _ _ st [.tmp 2]=_;simp only[eV,jo,qG h2]
   ·cases h
  ·cases h
 ·intro ss bs sp h;unfold Bc at h;simp only at h;split at h
  ·split at h
   ·simp only[ae]at h;subst h;intro x y hy;obtain rfl:=a8.1 hy;rfl
   ·cases h
  ·cases h
theorem Pk:∀N:Nat,lO 272 (Bc N)
 |0=>YJ 0 _ vY λn a h=>absurd (oz (w:=λ_=>1) lk a) (by grind)
 |N+1=>YJ (N+1) (Pg N) (Bg λf fs h=>by
  unfold Pg at h;split at h
  ·rename_i e;subst e;simp only[ae]at h;subst h;exact Pk N
  grind) λn a h Q h2 h3=>ajL N n a (by omega) h2 Q h3
theorem aj2:lO 272 IV:=by
 refine⟨⟨(Pk 0).qI.1,λss bs sp h=>?_⟩,rfl,rfl,?_⟩
 ·unfold IV at h;simp only at h;split at h
  ·rename_i n e a;split at h
   ·rename_i he;subst he;simp only[ae]at h;subst h;have h1:(Bc ((nR a).toNat+1)).sp [.agg [.c (.str n), .c (.sl 47 a)]] []=some ⟨nR a<((nR a).toNat+1:Nat)/\nR a<=2199023255552,Unit,λ_=>True,λ_=>I (nR a+1),λ_=>[]⟩:=rfl;have h2:=(Pk ((nR a).toNat+1)).qI.2 _ _ _ h1;exact⟨iG.side h2.1 λh=>⟨by omega,h⟩,h2.2⟩
   grind
  grind
 ·intro ss bs sp h;unfold IV at h;simp only at h;split at h
  ·split at h
   ·simp only[ae]at h;subst h;intro x y hy;obtain rfl:=a8.1 hy;rfl
   grind
  grind
theorem Pl {st:St} {k:Nat} {m:ByteArray} {x:X} (h0:st.aq[k]?=some (.one (.ptr k 0))) (h2:st.boxes[k]?=some (some [.c (.str m),x])) (hx:wq (tb 47) [.c (.str m),x]=true:=by rfl):eV Tryz.prog tb st [.cell k 47]=some [(true,[.c (.str m),x])]:=by
 have hp:jo Tryz.prog tb st (.cell k 47)=some (true,[.c (.str m),x]):=by simp only[jo,qG h0,dU,show kq Tryz.prog 47=some true by kernel_rfl,S.bp,h2,show(tb 47).length=2 by kernel_rfl,EC];rw[aC ⟨by simp,by kernel_rfl,hx⟩];rfl
 simp only[eV,hp]
theorem YK (N:Nat) (ik:FuncId->Option dw) (hc:dT (c0 ik)) (hw:∀n a,nR a<N->∀Q:anc,(∀st m r,st.aq[2]?=some (.one (.ptr 2 0))->st.boxes[2]?=some (some [.c (.str m), .own 47 47 (st.gen 47) r])->qH n a m r->Q .ret st)->cF (c0 ik) (gi (c0 ik)) [] (iJ Tryz.f278) (St.start Tryz.f278 [bw n a] []) Q):lO 278 (yu N):=by
 refine⟨?_,rfl,rfl,?_⟩
 ·refine rE (dr:=gi (c0 ik)) (cl:=[]) hc (qB hc follows) (fn:=Tryz.f278) 24 (by kernel_rfl) (by kernel_rfl) (by kernel_rfl) (by show 24<25;omega) ?_;intro ss bs sp h;unfold yu at h;simp only at h;split at h
  ·rename_i n e a;split at h
   ·rename_i he;subst he;simp only[ae]at h;subst h;refine⟨by show 1<=25;omega,λx=>⟨⟨rfl,λl hl=>(by cases hl)⟩,λy hy=>?_,λl hl=>(by cases hl)⟩,λhs=>?_⟩
    ·have hy:y∈[X.c (.str x.1),X.c (.sl 47 x.2)]:=hy;simp only[az,bL,bM]at hy;rcases hy with rfl|rfl<;>exact⟨λb hb=>(by cases hb),rfl⟩
    ·refine hw n a hs _ λst m r h0 h2 h3=>⟨λh=>(by cases h),[(true,[.c (.str m), .own 47 47 (st.gen 47) r])],?_,(m,r),h3,?_,trivial⟩
     ·exact Pl h0 h2
     ·exact⟨rfl,⟨rfl,rfl⟩,trivial⟩
   ·cases h
  ·cases h
 ·intro ss bs sp h;unfold yu at h;simp only at h;split at h
  ·split at h
   ·simp only[ae]at h;subst h;intro x y hy;have hy:y∈[X.c (.str x.1),X.c (.sl 47 x.2)]:=hy;simp only[az,bL,bM]at hy;rcases hy with rfl|rfl<;>rfl
   ·cases h
  ·cases h
theorem Pn:∀N:Nat,lO 278 (yu N)
 |0=>YK 0 _ vY λn a h=>absurd (oz (w:=λ_=>1) lk a) (by grind)
 |N+1=>
  have hc:dT (c0 (Bf N)):=Bg λf fs h=>by
   unfold Bf at h;split at h
   ·rename_i e;subst e;simp only[ae]at h;subst h;exact Pn N
   grind
  YK (N+1) (Bf N) hc λn a h Q h3=>ajR N hc n a (by omega) Q h3
theorem aj3:lO 278 IT:=by
 refine⟨⟨(Pn 0).qI.1,λss bs sp h=>?_⟩,rfl,rfl,?_⟩
 ·unfold IT at h;simp only at h;split at h
  ·rename_i n e a;split at h
   ·rename_i he;subst he;simp only[ae]at h;subst h;have h1:(yu ((nR a).toNat+1)).sp [.agg [.c (.str n), .c (.sl 47 a)]] []=some ⟨nR a<((nR a).toNat+1:Nat),ByteArray×List (List C),λv=>qH n a v.1 v.2,λv=>bw v.1 v.2,λ_=>[]⟩:=rfl;have h2:=(Pn ((nR a).toNat+1)).qI.2 _ _ _ h1;exact⟨iG.side h2.1 λ_=>by omega,h2.2⟩
   grind
  grind
 ·intro ss bs sp h;unfold IT at h;simp only at h;split at h
  ·split at h
   ·simp only[ae]at h;subst h;intro x y hy;have hy:y∈[X.c (.str x.1),X.c (.sl 47 x.2)]:=hy;simp only[az,bL,bM]at hy;rcases hy with rfl|rfl<;>rfl
   grind
  grind
theorem YL (N:Nat) (ik:FuncId->Option dw) (hc:dT (c0 ik)) (hw:∀n a names bb,nR a<N->names.length<=bb.length->∀Q:anc,
 (∀st m x r,st.aq[6]?=some (.one (.ptr 6 0))->st.boxes[6]?=some (some [.c (.str m),x])->(x= .c (.sl 47 r)\/x= .own 47 47 (st.gen 47) r)->Sub names bb n a m r->Q .ret st)->cF (c0 ik) (gi (c0 ik)) [] (iJ Tryz.f274) (St.start Tryz.f274 [bw n a,L 9 names,L 47 bb] []) Q):lO 274 (yv N):=by
 refine⟨?_,rfl,rfl,?_⟩
 ·refine rE (dr:=gi (c0 ik)) (cl:=[]) hc (qB hc follows) (fn:=Tryz.f274) 48 (by kernel_rfl) (by kernel_rfl) (by kernel_rfl) (by show 48<49;omega) ?_;intro ss bs sp h;unfold yv at h;simp only at h;split at h
  ·rename_i n e a e1 names e2 bb;split at h
   ·rename_i he;obtain⟨rfl,rfl,rfl⟩:=he;simp only[ae]at h;subst h;refine⟨by show 3<=49;omega,λx=>⟨⟨rfl,λl hl=>(by cases hl)⟩,λy hy=>?_,λl hl=>(by cases hl)⟩,λhs=>?_⟩
    ·have hy:y∈[X.c (.str x.1),X.c (.sl 47 x.2)]:=hy;simp only[az,bL,bM]at hy;rcases hy with rfl|rfl<;>exact⟨λb hb=>(by cases hb),rfl⟩
    ·refine hw n a names bb hs.1 hs.2 _ λst m x r h0 h2 hx h3=>⟨λh=>(by cases h),[(true,[.c (.str m),x])],?_,(m,r),h3,?_,trivial⟩
     ·rcases hx with rfl|rfl<;>exact Pl h0 h2
     ·rcases hx with rfl|rfl<;>exact⟨rfl,⟨rfl,rfl⟩,trivial⟩
   ·cases h
  ·cases h
 ·intro ss bs sp h;unfold yv at h;simp only at h;split at h
  ·split at h
   ·simp only[ae]at h;subst h;intro x y hy;have hy:y∈[X.c (.str x.1),X.c (.sl 47 x.2)]:=hy;simp only[az,bL,bM]at hy;rcases hy with rfl|rfl<;>rfl
   ·cases h
  ·cases h
theorem Po:∀N:Nat,lO 274 (yv N)
 |0=>YL 0 _ vY λn a names bb h=>absurd (oz (w:=λ_=>1) lk a) (by grind)
 |N+1=>
  have hc:dT (c0 (tU N)):=Bg λf fs h=>by
   unfold tU at h;split at h
   ·rename_i e;subst e;simp only[ae]at h;subst h;exact Po N
   ·split at h
    ·rename_i e;subst e;simp only[ae]at h;subst h;exact aj3
    ·split at h
     ·rename_i e;subst e;simp only[ae]at h;subst h;exact YI
     grind
  YL (N+1) (tU N) hc λn a names bb h hl Q h3=>ajT N hc n a names bb (by omega) hl Q h3
theorem aj4:lO 274 IX:=by
 refine⟨⟨(Po 0).qI.1,λss bs sp h=>?_⟩,rfl,rfl,?_⟩
 ·unfold IX at h;simp only at h;split at h
  ·rename_i n e a e1 names e2 bb;split at h
   ·rename_i he;obtain⟨rfl,rfl,rfl⟩:=he;simp only[ae]at h;subst h;have h1:(yv ((nR a).toNat+1)).sp [.agg [.c (.str n), .c (.sl 47 a)], .one (.c (.sl 9 names)), .one (.c (.sl 47 bb))] []=some ⟨nR a<((nR a).toNat+1:Nat)/\names.length<=bb.length,ByteArray×List (List C),λv=>Sub names bb n a v.1 v.2,λv=>bw v.1 v.2,λ_=>[]⟩:=rfl;have h2:=(Po ((nR a).toNat+1)).qI.2 _ _ _ h1;exact⟨iG.side h2.1 λh=>⟨by omega,h⟩,h2.2⟩
   grind
  grind
 ·intro ss bs sp h;unfold IX at h;simp only at h;split at h
  ·split at h
   ·simp only[ae]at h;subst h;intro x y hy;have hy:y∈[X.c (.str x.1),X.c (.sl 47 x.2)]:=hy;simp only[az,bL,bM]at hy;rcases hy with rfl|rfl<;>rfl
   grind
  grind
theorem YM (N:Nat) (sz:Int->Int) (ik:FuncId->Option dw) (hc:dT (c0 ik)) (hw:∀n a names cC,nR a<N->se names sz->names.length<=cC.length->(∀k:Nat,k<names.length->cD (cellAt cC k 0)=sz k)->∀Q:anc,
 (∀st v,st.aq[6]?=some (I v)->(0<=v/\v<=4398046515200)->(v<=4096->v=S1 names sz n a)->Q .ret st)->cF (c0 ik) (gi (c0 ik)) [] (iJ Tryz.f273) (St.start Tryz.f273 [bw n a,L 9 names,L 3 cC] []) Q):lO 273 (Bd N sz):=by
 refine⟨?_,rfl,rfl,?_⟩
 ·refine rE (dr:=gi (c0 ik)) (cl:=[]) hc (qB hc follows) (fn:=Tryz.f273) 43 (by kernel_rfl) (by kernel_rfl) (by kernel_rfl) (by show 43<44;omega) ?_;intro ss bs sp h;unfold Bd at h;simp only at h;split at h
  ·rename_i n e a e1 names e2 cC;split at h
   ·rename_i he;obtain⟨rfl,rfl,rfl⟩:=he;simp only[ae]at h;subst h;refine⟨by show 3<=44;omega,λx=>⟨⟨rfl,λl hl=>(by cases hl)⟩,λy hy=>?_,λl hl=>(by cases hl)⟩,λhs=>?_⟩
    ·obtain rfl:=a8.1 hy;exact⟨λb hb=>(by cases hb),rfl⟩
    ·refine hw n a names cC hs.1 hs.2.1 hs.2.2.1 hs.2.2.2 _ λst v h2 h3 h4=>⟨λh=>(by cases h),[(false,[.c (.int .i64 v)])],?_,v,⟨h3,h4⟩,⟨rfl,rfl⟩,trivial⟩
     show eV _ _ st [.tmp 6]=_;simp only[eV,jo,qG h2]
   ·cases h
  ·cases h
 ·intro ss bs sp h;unfold Bd at h;simp only at h;split at h
  ·split at h
   ·simp only[ae]at h;subst h;intro x y hy;obtain rfl:=a8.1 hy;rfl
   ·cases h
  ·cases h
theorem Pp (sz:Int->Int):∀N:Nat,lO 273 (Bd N sz)
 |0=>YM 0 sz _ vY λn a names cC h=>absurd (oz (w:=λ_=>1) lk a) (by grind)
 |N+1=>
  have hc:dT (c0 (Eg N sz)):=Bg λf fs h=>by
   unfold Eg at h;split at h
   ·rename_i e;subst e;simp only[ae]at h;subst h;exact Pp sz N
   ·split at h
    ·rename_i e;subst e;simp only[ae]at h;subst h;exact YI
    grind
  YM (N+1) sz (Eg N sz) hc λn a names cC h hz hl hv Q h3=>ajN N sz n a names cC (by omega) hz hl hv Q h3
theorem aj5:lO 273 IW:=by
 refine⟨⟨(Pp (λ_=>0) 0).qI.1,λss bs sp h=>?_⟩,rfl,rfl,?_⟩
 ·unfold IW at h;simp only at h;split at h
  ·rename_i n e a e1 names e2 cC;split at h
   ·rename_i he;obtain⟨rfl,rfl,rfl⟩:=he;simp only[ae]at h;subst h;have h1:(Bd ((nR a).toNat+1) (nD cC)).sp [.agg [.c (.str n), .c (.sl 47 a)], .one (.c (.sl 9 names)), .one (.c (.sl 3 cC))] []=some ⟨nR a<((nR a).toNat+1:Nat)/\se names (nD cC)/\names.length<=cC.length/\(∀k:Nat,k<names.length->cD (cellAt cC k 0)=nD cC k),Int,λv=>(0<=v/\v<=4398046515200)/\(v<=4096->v=S1 names (nD cC) n a),λv=>I v,λ_=>[]⟩:=rfl;have h2:=(Pp (nD cC) ((nR a).toNat+1)).qI.2 _ _ _ h1;exact⟨iG.post (iG.side h2.1 λh=>⟨by omega,h.1,h.2,λk _=>by rfl⟩) λ_ v hv=>hv.2,h2.2⟩
   grind
  grind
 ·intro ss bs sp h;unfold IW at h;simp only at h;split at h
  ·split at h
   ·simp only[ae]at h;subst h;intro x y hy;obtain rfl:=a8.1 hy;rfl
   grind
  grind
theorem YN:dT (c0 IY):=Bg λf fs h=>by
 unfold IY at h;split at h
 ·rename_i e;subst e;simp only[ae]at h;subst h;exact aj1
 ·split at h
  ·rename_i e;subst e;simp only[ae]at h;subst h;exact aj2
  ·split at h
   ·rename_i e;subst e;simp only[ae]at h;subst h;exact aj5
   ·split at h
    ·rename_i e;subst e;simp only[ae]at h;subst h;exact aj4
    grind
end Go.Pv
namespace Go.Pv
open Go Go.Proofs Go.Proofs.YtmanimipgpdbcaaGreat
theorem Ep (m:Nat) (h:m∉bW) (c:C):ms.f m c=fA m c:=by show fD m c=fA m c;exact OE (.inl h) c
theorem IZ (n:ByteArray) (a:Y9):wM 8 (ty n a)=max (ms.f 11 (.str n)-ms.f 2 (.sl 47 a)) 0:=by rw[Ep 11 (by decide),Ep 2 (by decide)];show max (((af 11 0).sub (af 2 1)).den (mu fA (bZ (ty n a)))) 0=_;rw[br,au _ _ (by omega),au _ _ (by omega)];rfl
theorem I0 (n:ByteArray) (a:Y9):wM 6 (ty n a)=max (ms.f 15 (.str n)) 0:=by rw[Ep 15 (by decide)];show max (((af 15 0).add (aa.const 0)).den (mu fA (bZ (ty n a)))) 0=_;rw[den_add,au _ _ (by omega),cg,Qk];rfl
theorem f8 (a:Y9):ms.f 8 (.sl 47 a)=aS (wM 8) (aH 8) a:=by show fD 8 (.sl 47 a)=_;rw[eL (by decide)];rfl
theorem f6 (a:Y9):ms.f 6 (.sl 47 a)=aS (wM 6) (aH 6) a:=by show fD 6 (.sl 47 a)=_;rw[eL (by decide)];rfl
theorem I1 (a:Y9):ms.f 2 (.sl 47 a)=a.length:=by rw[ms.h2];rfl
theorem Pq:Loc (wM 8) (aH 8):=⟨λr=>Ie _ _,λn a b h=>by rw[IZ,IZ,I1,I1,h],by decide,by decide⟩
theorem Pr:Loc (wM 6) (aH 6):=⟨λr=>Ie _ _,λn a b _=>by rw[I0,I0],by decide,by decide⟩
theorem z8:wM 8 (ty ByteArray.empty [])<=0:=by
 rw[IZ,I1,Ep 11 (by decide)];have h:fA 11 (.str ByteArray.empty)=0:=by kernel_rfl
 rw[h];decide
theorem z6:wM 6 (ty ByteArray.empty [])<=0:=by
 rw[I0,Ep 15 (by decide)];have h:fA 15 (.str ByteArray.empty)=0:=by kernel_rfl
 rw[h];decide
theorem Ps {n:ByteArray} {a:Y9}:wT (wM 8) (aH 8) n a<=0↔ms.f 8 (.sl 47 a)<=0/\ms.f 11 (.str n)<=ms.f 2 (.sl 47 a):=by have h1:=mE (sel:=aH 8) Pq.nn a;unfold wT;rw[IZ,f8];omega
theorem Pt {n:ByteArray} {a:Y9}:wT (wM 6) (aH 6) n a<=0↔ms.f 6 (.sl 47 a)<=0/\ms.f 15 (.str n)<=0:=by have h1:=mE (sel:=aH 6) Pr.nn a;unfold wT;rw[I0,f6];omega
theorem aj6 {q:PX} {s:S} (h:(PS.one q).fits s=true):∃x,s= .one x/\q.fits x=true:=by
 cases s with
 |one x=>exact⟨x,rfl,h⟩
 |agg l=>cases h
 |bj l=>cases h
theorem YO {e:Nat} {x:X} (h:(PX.sl e).fits x=true):∃l,x= .c (.sl e l):=by
 cases x with
 |c v=>
  cases v with
  |sl e' l=>have:e'=e:=bt h;subst this;exact⟨l,rfl⟩
  |_=>cases h
 |_=>cases h
theorem aj7 {x:X} (h:PX.str.fits x=true):∃n,x= .c (.str n):=by
 cases x with
 |c v=>
  cases v with
  |str n=>exact⟨n,rfl⟩
  |_=>cases h
 |_=>cases h
theorem Pu {e:Nat} {s:S} (h:(PS.one (.sl e)).fits s=true):∃l,s=L e l:=by obtain⟨x,rfl,hx⟩:=aj6 h;obtain⟨l,rfl⟩:=YO hx;exact⟨l,rfl⟩
theorem Pw {s:S} (h:(PS.agg [.str, .sl 47]).fits s=true):∃n a,s=bw n a:=by
 cases s with
 |one x=>cases h
 |bj l=>cases h
 |agg l=>
  match l,h with
  |[],h=>cases h
  |[_],h=>simp[PS.fits,nj]at h
  |_::_::_::_,h=>simp[PS.fits,nj]at h
  |[x,y],h=>simp only[PS.fits,nj,aB,v9]at h;obtain⟨n,rfl⟩:=aj7 h.1;obtain⟨a,rfl⟩:=YO h.2;exact⟨n,a,rfl⟩
theorem aj8 {ss:amZ} (h:fv [.agg [.str, .sl 47], .one (.sl 9), .one (.sl 47)] ss=true):∃n a names bb,ss=[bw n a,L 9 names,L 47 bb]:=by
 match ss,h with
 |[],h=>simp[fv]at h
 |[_],h=>simp[fv]at h
 |[_,_],h=>simp[fv]at h
 |_::_::_::_::_,h=>simp[fv]at h
 |[x,y,z],h=>simp only[fv,aB,v9]at h;obtain⟨n,a,rfl⟩:=Pw h.1;obtain⟨names,rfl⟩:=Pu h.2.1;obtain⟨bb,rfl⟩:=Pu h.2.2;exact⟨n,a,names,bb,rfl⟩
def lP:cb:=⟨[[.bo, .plain 47],[.plain 9],[.plain 47]],[],false,[],false,true,[.agg [.str, .sl 47], .one (.sl 9), .one (.sl 47)],[],
 [⟨1099511627776,[(196,-1)]⟩,⟨0,[(72,-1)]⟩,⟨0,[(11,-1),(66,1)]⟩,⟨0,[(200,-1)]⟩,⟨0,[(70,-1)]⟩,⟨0,[(198,-1)]⟩,⟨0,[(15,-1)]⟩],⟨0,[(68,1),(132,1),(196,1)]⟩,
 .bj [(true,[.fresh .str, .fresh (.sl 47)]),(false,[.fresh (.int .i64)])],[],
 [[⟨0,[(384,-1)]⟩,⟨0,[(328,-1)]⟩,⟨0,[(267,-1),(322,1)]⟩,⟨0,[(326,-1)]⟩,⟨0,[(271,-1)]⟩,⟨4095,[(324,-1)]⟩],
  [⟨-1,[(384,1)]⟩,⟨0,[(328,-1)]⟩,⟨0,[(267,-1),(322,1)]⟩,⟨0,[(326,-1)]⟩,⟨0,[(271,-1)]⟩,⟨0,[(324,-1)]⟩]],[],[]⟩
theorem amD:YtmanimipgpdbcaaGreat.Good 211 lP:=by
 have hw:(lP.cB tb).WF tb:=bk.x9 (by kernel_rfl);refine⟨rE (dr:=gi (c0 IY)) (cl:=[]) YN (qB YN follows) (fn:=Tryz.f211) 44 (by kernel_rfl) (by kernel_rfl) (by kernel_rfl) (by show 44<49;omega) ?_,hw⟩;intro ss bs sp h;have ht:=Pd hw h;simp only[bk.dN]at h;split at h
 case isFalse=>cases h
 rename_i hf;simp only[aB]at hf;obtain⟨n,a,names,bb,rfl⟩:=aj8 hf.1;obtain rfl:=IN hf.2;simp only[ae]at h;subst h;refine⟨by show 3<=49;omega,ht,λhs=>?_⟩;have pre:∀g∈lP.pre,0<=g.den (mu ms.f (bZ [.str n, .sl 47 a, .sl 9 names, .sl 47 bb])):=λg hg=>hs.1 g hg;have p1:=pre ⟨0,[(72,-1)]⟩ (by simp[lP]);have p2:=pre ⟨0,[(11,-1),(66,1)]⟩ (by simp[lP]);have p3:=pre ⟨0,[(200,-1)]⟩ (by simp[lP]);have p4:=pre ⟨0,[(70,-1)]⟩ (by simp[lP]);have p5:=pre ⟨0,[(198,-1)]⟩ (by simp[lP]);have p6:=pre ⟨0,[(15,-1)]⟩ (by simp[lP]);have p7:=pre ⟨1099511627776,[(196,-1)]⟩ (by simp[lP]);simp only[aa.den,b9,mu,bZ]at p1 p2 p3 p4 p5 p6 p7;simp at p1 p2 p3 p4 p5 p6 p7;have g8:wT (wM 8) (aH 8) n a<=0:=Ps.2 ⟨by omega,by omega⟩;have g6:wT (wM 6) (aH 6) n a<=0:=Pt.2 ⟨by omega,by omega⟩;refine ajZ n a names bb (by rw[<-Ed 47];omega) _ λst m x r e h0 h2 h7 hx h3 he hq=>⟨λh=>(by cases h),[(true,[.c (.str m),x]),(false,[.c (.int .i64 e)])],?_,λj=>(match j with|0=> .str m|1=> .sl 47 r|_=> .int .i64 e),?_,?_,trivial⟩
 ·have h8:eV Tryz.prog tb st [.cell 6 47]=some [(true,[.c (.str m),x])]:=by rcases hx with rfl|⟨rfl,_⟩<;>exact Pl h0 h2
  have h9:jo Tryz.prog tb st (.cell 6 47)=some (true,[.c (.str m),x]):=by
   unfold eV at h8;split at h8
   ·rename_i p ps hp fR;have:ps=[]:=by simpa[eV]using fR.symm
    subst this;simp only[ae,ua,lU]at h8;rw[hp,h8]
   ·cases h8
  show eV Tryz.prog tb st [.cell 6 47, .tmp 7]=_;have tu:jo Tryz.prog tb st (.tmp 7)=some (false,[.c (.int .i64 e)]):=by simp only[jo,qG h7]
  simp only[eV,h9,tu]
 ·have r8:=Ps.1 (hq _ _ Pq z8 (by rw[<-f8];omega) g8);have r6:=Pt.1 (hq _ _ Pr z6 (by rw[<-f6];omega) g6);have r4:ms.f 4 (.sl 47 r)<=4095:=by rw[Ed];exact h3
  have I2:ms.f 0 (.int .i64 e)=e:=by rw[ms.h0];rfl
  have v4:comb (bk.env (T:=tb) ms.f (cb.cB tb lP) [bw n a,L 9 names,L 47 bb] []) (bk.na tb (cb.cB tb lP)) (λj=>match j with|0=>C.str m|1=>C.sl 47 r|_=>C.int IntKind.i64 e) 4= .str m:=rfl;have v5:comb (bk.env (T:=tb) ms.f (cb.cB tb lP) [bw n a,L 9 names,L 47 bb] []) (bk.na tb (cb.cB tb lP)) (λj=>match j with|0=>C.str m|1=>C.sl 47 r|_=>C.int IntKind.i64 e) 5= .sl 47 r:=rfl;have v6:comb (bk.env (T:=tb) ms.f (cb.cB tb lP) [bw n a,L 9 names,L 47 bb] []) (bk.na tb (cb.cB tb lP)) (λj=>match j with|0=>C.str m|1=>C.sl 47 r|_=>C.int IntKind.i64 e) 6= .int .i64 e:=rfl;rcases he with rfl|⟨he,rfl⟩
  ·refine .inl ⟨λg hg=>?_,trivial⟩;have hg:g∈([⟨0,[(384,-1)]⟩,⟨0,[(328,-1)]⟩,⟨0,[(267,-1),(322,1)]⟩,⟨0,[(326,-1)]⟩,⟨0,[(271,-1)]⟩,⟨4095,[(324,-1)]⟩]:amY):=hg;simp only[az,bL,bM]at hg;rcases hg with rfl|rfl|rfl|rfl|rfl|rfl;all_goals simp only[aa.den,b9,mu]
   all_goals simp[v4,v5,v6,I2]
   all_goals omega
  ·refine .inr ⟨_,a8.2 rfl,λg hg=>?_⟩;have amE:ms.f 4 (.sl 47 [])=0:=by rw[Ed];rfl
   have hg:g∈([⟨-1,[(384,1)]⟩,⟨0,[(328,-1)]⟩,⟨0,[(267,-1),(322,1)]⟩,⟨0,[(326,-1)]⟩,⟨0,[(271,-1)]⟩,⟨0,[(324,-1)]⟩]:amY):=hg;simp only[az,bL,bM]at hg;rcases hg with rfl|rfl|rfl|rfl|rfl|rfl;all_goals simp only[aa.den,b9,mu]
   all_goals simp[v4,v5,v6,I2]
   all_goals omega
 ·have I2:e=ms.f 0 (.int .i64 e):=by rw[ms.h0];rfl
  rcases hx with rfl|⟨rfl,rfl⟩;all_goals repeat' (first|exact trivial|exact rfl|apply And.intro)
  all_goals rw[au _ _ (by omega)]
  all_goals exact I2
end Go.Pv
namespace Go.Pv
open Go
variable {T:ay} {P:Program}
def yx (T:ay) (c:C):Prop:=∀e,c.kd= .sl e->e<1000/\T e≠[]
structure I3 (T:ay):Prop where
 len:∀e,(T e).length<=4096
 sub:∀e,e<1000->∀e',Kd.sl e'∈T e->e'<1000/\T e'≠[]
 t47:(T 47).length=2/\(T 1047).length=2
def mF:Nat:=47*4096
def KL:Nat:=1047*4096
theorem aG.low (hT:I3 T) {φ ly:anh} {w:World} (cI:∀b k,k≠KL->φ b k<=ly b k) {c:C} {v:Value} (h:aG T φ w c v) (hc:yx T c):aG T ly w c v:=by
 induction h with
 |int k n h=>exact .int k n h
 |bool b=>exact .bool b
 |str s h=>exact .str s h
 |any v h=>exact .any v h
 |nil e=>exact .nil e
 |emp e a=>exact .emp e a
 |sl e rows b off cap cs el fr val e0 gr hb Bh cP dq hlen hk hv hr hs hl gA fB hd ih Qz=>
  obtain⟨he,al⟩:=hc e rfl;have h0:e0=e:=(hs.eq (by omega)).trans (sk (by omega));subst h0;have tz:kk T e0 e0 off≠KL:=by have h1:0<(T e0).length:=lT.2 al;have h2:=mI off h1;have h3:=hT.len e0;unfold kk KL;omega
  refine .sl e0 rows b off cap cs el fr val e0 gr hb (eR Bh (cI b _ tz)) cP dq hlen hk hv (λi j r c hi hj=>ih i j r c hi hj ?_) hs hl gA (λh2=>by omega) hd;intro e' fM;refine hT.sub e0 he e' ?_;have hm:=hk r (aY hi);rw[<-hm,<-fM];exact aF.2 ⟨c,aY hj,rfl⟩
theorem I4 (hT:I3 T) {e s m:Nat} (he:e<1000) {r:amS} (hk:r.map C.kd=((T e).drop s).take m) {j:Nat} {c:C} (hj:r[j]?=some c):yx T c:=by intro e' fM;refine hT.sub e he e' (List.drop_subset s _ (List.take_subset m _ ?_));rw[<-hk,<-fM];exact aF.2 ⟨c,aY hj,rfl⟩
theorem Py (e:Nat):base e<1000:=by
 by_cases h:e=1553
 ·subst h;decide
 ·rw[wh h];omega
theorem akf {e:Nat} (h:bY e=true):1000<=e/\e<2000:=by simpa[bY]using h
theorem YU {e n:Nat} {gs:amU} (h:dh e=some (n,gs)):n≠0:=by rintro rfl;unfold dh at h;split at h<;>simp at h
def akg (E E':Env) (w:World):Env:=
 {E' with
  φ:=λb k=>if b<w.heap.size then E.φ b k else if k=KL then 0 else if k=mF then max (E'.φ b mF) (E'.φ b KL)else E'.φ b k
  κ:=λb=>if b<w.heap.size then E.κ b else E'.κ b}
def Sp.akh (T:ay) (sp:Sp) (R:sp.A->List (List C)) (B:sp.A->Bool):Sp where
 side:=sp.side
 A:=sp.A×List (List C)
 post:=λp=>sp.post p.1/\p.2.length=(R p.1).length/\∀r∈p.2,r.map C.kd=T 47/\T.G 1047 0 r
 res:=λp=> .bj [(false,[.c (.sl 47 p.2)]),(false,[.c (.bool (B p.1))])]
 bx:=λ_=>[]
theorem akc (hT:I3 T) {f:FuncId} {Ξ:amZ} {sp:Sp} {R:sp.A->List (List C)} {B:sp.A->Bool} {g:Nat}
 (b0:∀s∈Ξ,∀x∈s.xs,∃c,x= .c c/\yx T c) (kc:∀s∈Ξ,s.Fu=true)
 (y9:∀x,sp.res x= .bj [(false,[.own 1047 g 0 (R x)]),(false,[.c (.bool (B x))])]) (cL:∀x,sp.bx x=[])
 (h:iG P T f Ξ [] sp):iG P T f Ξ [] (sp.akh T R B):=by
 intro jG E w vals cf Pz _ _ wA _ ir;let E1:Env:={E with φ:=λb k=>if k=KL then 0 else E.φ b k,κ:=λ_=> .dB}
 have tV:∀b k,k≠KL->E1.φ b k=E.φ b k:=λb k hk=>(show(if k=KL then 0 else E.φ b k)=E.φ b k from aQ hk)
 have I5:∀b,E1.φ b KL=0:=λb=>(show(if KL=KL then 0 else E.φ b KL)=0 from aC rfl)
 have aki:∀b k,E1.φ b k<=E.φ b k:=λb k=>by
  by_cases hk:k=KL
  ·subst hk;rw[I5];exact gk _
  ·rw[tV b k hk];exact bh _
 have YV:∀{V:Vw} {x:X} {u:Value} {c:C},x= .c c->yx T c->RX T E w V x u->RX T E1 w V x u:=λhx hc hr=>by subst hx;exact aG.low hT (λb k hk=>by rw[tV b k hk];exact bh _) hr hc
 have akj:∀(i:Nat) s u,Ξ[i]?=some s->vals[i]?=some u->RS T E1 w ⟨λb=>decide (b<([]:anb).length),λ_=>0⟩ s u:=λi s u hs hu=>by
  have h1:=Pz i s u hs hu;have hm:=aY hs;cases s with
  |one x=>obtain⟨c,hx,hc⟩:=b0 _ hm x (by simp[S.xs]);subst hx;exact YV (V:=⟨λb=>decide (b<([]:anb).length),λ_=>0⟩) rfl hc h1
  |agg l=>obtain⟨cs,rfl,h2,h3⟩:=h1;refine⟨cs,rfl,h2,λj x u hx hu=>?_⟩;obtain⟨c,akk,hc⟩:=b0 _ hm x (by simp only[S.xs];exact aY hx);exact YV akk hc (h3 j x u hx hu)
  |bj l=>have:=kc _ hm;simp[S.Fu]at this
 have hO:∀b k,bY (k/4096)=true->0<E1.φ b k->k≠KL/\0<E.φ b k:=λb k _ hp=>by
  by_cases hk:k=KL
  ·subst hk;rw[I5]at hp;omega
  ·rw[tV b k hk]at hp;exact⟨hk,hp⟩
 have akl:HI T E1 w:=by
  refine⟨λb k hk hp=>?_,λb e n gs s m i he hl hg hi=>?_⟩
  ·obtain⟨_,ja⟩:=hO b k hk hp;obtain⟨z1,z2,_,z4⟩:=ir.zero b k hk ja;exact⟨z1,λk' bV=>Nat.le_zero.1 (by rw[<-z2 k' bV];exact aki b k'),rfl,z4⟩
  ·have hn:=YU hl;have hp:0<E1.φ b (e*4096):=dO (tZ (vZ _) (sg hn)) hi;obtain⟨uN,_⟩:=hO b (e*4096) (by rw[sj _ (by decide)];exact he) hp;obtain⟨r,r1,r2,r3⟩:=ir.rows b e n gs s m i he hl hg (by rw[<-tV b _ uN];exact hi);refine⟨r,r1,r2,λj c hj=>?_⟩;obtain⟨v,v1,v2⟩:=r3 j c hj;exact⟨v,v1,aG.low hT (λb k hk=>by rw[tV b k hk];exact bh _) v2 (I4 hT (Py e) r1 hj)⟩
 refine Calls.mono (h jG E1 w vals cf akj (λi l hl=>by cases hl) (λi j hi=>by cases hi) (λb hb e=>by
  by_cases hk:e=KL
  ·subst hk;exact I5 b
  ·rw[tV b e hk];exact wA b hb e) (λl hl=>by cases hl) akl) ?_
 rintro e w' ⟨v,x,E',rfl,iZ,pH,_,_,_,_,mG,Er,_⟩;rw[y9 x]at pH;obtain⟨vs,rfl,l5,YW⟩:=pH;let E2:=akg E E' w;have yy:∀{b:Nat},b<w.heap.size->E2.φ b=E.φ b:=λ{b} hb=>by funext k;exact aC hb
 have PA:∀{b:Nat},b<w.heap.size->E2.κ b=E.κ b:=λ{b} hb=>aC hb;have I6:∀{b:Nat},¬b<w.heap.size->E2.φ b KL=0:=λ{b} hb=>by show(if b<w.heap.size then _ else _)=_;rw[aQ hb,aC rfl]
 have I7:∀{b:Nat},¬b<w.heap.size->E2.φ b mF=max (E'.φ b mF) (E'.φ b KL):=λ{b} hb=>by show(if b<w.heap.size then _ else if mF=KL then _ else _)=_;rw[aQ hb,aQ (by decide),aC rfl]
 have Es:∀{b k:Nat},¬b<w.heap.size->k≠KL->k≠mF->E2.φ b k=E'.φ b k:=λ{b k} hb h1 h2=>by show(if b<w.heap.size then _ else if k=KL then _ else _)=_;rw[aQ hb,aQ h1,aQ h2]
 have oU:∀{b:Nat},b<w.heap.size->E'.φ b=E1.φ b:=λ{b} hb=>(mG.dB b hb rfl).2.1;have I8:∀b k,k≠KL->E'.φ b k<=E2.φ b k:=λb k hk=>by
  by_cases hb:b<w.heap.size
  ·rw[yy hb,oU hb,tV b k hk];exact bh _
  ·by_cases h7:k=mF
   ·subst h7;rw[I7 hb];exact Nat.le_max_left _ _
   ·rw[Es hb hk h7];exact bh _
 have sK:∀{b:Nat},b<w.heap.size->0<E.φ b KL->w'.heap[b]?=w.heap[b]?:=λ{b} hb hp=>by obtain⟨_,z2,_,_⟩:=ir.zero b KL (by decide) hp;refine(mG.dB b hb rfl).1 λ⟨k,hk,ja⟩=>?_;have ja:0<E1.φ b k:=ja;obtain⟨bV,Fx⟩:=hO b k hk ja;rw[z2 k bV]at Fx;omega
 have Dx:dQ E.φ w E2.φ w':=by
  refine⟨λb k=>?_,mG.mono.size,λb cs el fr hb=>?_⟩
  ·by_cases hb:b<w.heap.size
   ·rw[yy hb];exact bh _
   ·rw[wA b (by omega) k];exact gk _
  ·have aj:=ko hb;rcases yE (E.φ b KL)with h0|hp
   ·obtain⟨bU,k1,k2,k3⟩:=mG.mono.bo b cs el fr hb;refine⟨bU,k1,k2,λe j hj=>k3 e j ?_⟩;by_cases he:e=KL
    ·subst he;omega
    ·show j<E1.φ b e;rw[tV b e he];exact hj
   ·exact⟨cs,by rw[sK aj hp];exact hb,rfl,λ_ _ _=> .inl rfl⟩
 have akm:HI T E2 w':=by
  refine⟨λb k hk hp=>?_,λb e n gs s m i he hl hg hi=>?_⟩
  ·by_cases hb:b<w.heap.size
   ·rw[yy hb]at hp;obtain⟨z1,z2,z3,cs,el,z4⟩:=ir.zero b k hk hp;obtain⟨bU,k1,_,_⟩:=Dx.bo b cs el (0,0) z4;exact⟨z1,λk' bV=>by rw[yy hb];exact z2 k' bV,by rw[PA hb];exact z3,bU,el,k1⟩
   ·have YX:k≠KL:=λe=>by subst e;rw[I6 hb]at hp;omega
    have I9:k≠mF:=λe=>by subst e;revert hk;decide
    rw[Es hb YX I9]at hp;obtain⟨z1,z2,z3,z4⟩:=Er.zero b k hk hp;refine⟨z1,λk' bV=>?_,?_,z4⟩
    ·by_cases h1:k'=KL
     ·subst h1;exact I6 hb
     ·by_cases h2:k'=mF
      ·subst h2;rw[I7 hb,z2 mF (wb I9),z2 KL (wb YX)];rfl
      ·rw[Es hb h1 h2];exact z2 k' bV
    ·show(if b<w.heap.size then E.κ b else E'.κ b).kN=false;rw[aQ hb];exact z3
  ·have hn:=YU hl;by_cases hb:b<w.heap.size
   ·rw[yy hb]at hi;by_cases akn:e=1047
    ·subst akn;have hp:0<E.φ b KL:=dO (tZ (vZ _) (sg hn)) hi;obtain⟨r,r1,r2,r3⟩:=ir.rows b 1047 n gs s m i he hl hg hi;refine⟨r,r1,r2,λj c hj=>?_⟩;obtain⟨v,v1,v2⟩:=r3 j c hj;exact⟨v,by simpa[World.cell?,sK hb hp]using v1,v2.mono Dx⟩
    ·have uN:e*4096≠KL:=by unfold KL;omega
     obtain⟨r,r1,r2,r3⟩:=Er.rows b e n gs s m i he hl hg (by rw[oU hb,tV b _ uN];exact hi);refine⟨r,r1,r2,λj c hj=>?_⟩;obtain⟨v,v1,v2⟩:=r3 j c hj;exact⟨v,v1,aG.low hT I8 v2 (I4 hT (Py e) r1 hj)⟩
   ·have hp:0<E2.φ b (e*4096):=dO (tZ (vZ _) (sg hn)) hi;have uN:e*4096≠KL:=λh=>by rw[h,I6 hb]at hp;omega
    have I9:e*4096≠mF:=by have:=akf he;unfold mF;omega
    rw[Es hb uN I9]at hi;obtain⟨r,r1,r2,r3⟩:=Er.rows b e n gs s m i he hl hg hi;refine⟨r,r1,r2,λj c hj=>?_⟩;obtain⟨v,v1,v2⟩:=r3 j c hj;exact⟨v,v1,aG.low hT I8 v2 (I4 hT (Py e) r1 hj)⟩
 have ako:Ext ⟨E.φ,E.κ,w,E.β,E.ο,0,E.fo⟩ E2 w':=by
  refine⟨mG.os,mG.tape,mG.output,mG.fo,Dx,λb hb hf=>⟨λhw=>?_,yy hb,(PA hb).trans hf⟩,λb hb k=>?_⟩
  ·refine(mG.dB b hb rfl).1 λ⟨k,hk,hp⟩=>hw ⟨k,hk,?_⟩;exact(hO b k hk hp).2
  ·have aR:¬b<w.heap.size:=by have h0:w.heap.size<=w'.heap.size:=mG.mono.size;omega
   have hz:=mG.fresh b hb;by_cases h1:k=KL
   ·subst h1;exact I6 aR
   ·by_cases h2:k=mF
    ·subst h2;rw[I7 aR,hz,hz];rfl
    ·rw[Es aR h1 h2];exact hz k
 have h2:vs.size=2:=l5;have akp:=YW 0 _ (vs[0]'(by omega)) rfl (by simp);have PB:=YW 1 _ (vs[1]'(by omega)) rfl (by simp);have wN:∃lA:Y9,lA.length=(R x).length/\(∀r∈lA,r.map C.kd=T 47/\T.G 1047 0 r)/\aG T E2.φ w' (.sl 47 lA) (vs[0]'(by omega)):=by
  obtain⟨hr,_,_,_⟩:RX T E' w' _ (.own 1047 g 0 (R x)) (vs[0]'(by omega)):=akp;generalize vs[0]'(by omega)=u0 at hr;generalize R x=rows at hr;cases hr with
  |nil=>exact⟨[],rfl,λr hr=>(by cases hr), .nil 47⟩
  |emp _ a=>exact⟨[],rfl,λr hr=>(by cases hr), .emp 47 a⟩
  |sl e rows b off cap cs el fr val e0 gr hb Bh cP dq hlen hk hv hr hs hl gA fB hd=>
   have h0:e0=1047:=hs.eq (by omega);subst h0;have YY:(T 1047).length=2:=hT.t47.2;rw[YY]at Bh dq;have iE:kk T 1047 1047 off=1047*4096+off%2:=by unfold kk;rw[YY]
   rw[iE]at Bh;rcases yE (E'.φ b (1047*4096+off%2))with hz|hp
   ·have iq:rows.length=0:=by omega
    have ho:off=0:=by omega
    subst ho;obtain rfl:=jz.1 iq;exact⟨[],rfl,λr hr=>(by cases hr),aG.sl 47 [] b 0 cap cs el fr val 47 (λ_ _=> .any) hb (by simp) (by simp) (by rw[hT.t47.1];exact dq) (by simp) (λr hr=>by cases hr) (λi j hi=>by cases hi) (λi j r c hi=>by simp at hi) (.inl rfl)
     (λi j hi=>by cases hi) (λh=>by omega) (λh=>by omega) (λh=>by omega)⟩
   ·obtain⟨z1,_,_,_⟩:=Er.zero b _ (by
     have:(1047*4096+off%2)/4096=1047:=by omega
     rw[this];decide) hp
    have YZ:off%2=0:=by omega
    rw[YZ,jy]at Bh hp;have zt:¬b<w.heap.size:=λaj=>by rw[oU aj]at hp;have:=I5 b;unfold KL at this;omega
    have cT:∀i,i<rows.length->∃r:amS,r.map C.kd=T 47/\T.G 1047 0 r/\∀(j:Nat) c,r[j]?=some c->∃v,cs[off+i*2+j]?=some v/\aG T E'.φ w' c v:=λi hi=>by
     obtain⟨r,r1,r2,r3⟩:=Er.rows b 1047 2 [(0,2)] 0 2 (off/2+i) (by decide) rfl (by simp) (by omega);refine⟨r,?_,r2,λj c hj=>?_⟩
     ·rw[r1];have:base 1047=47:=rfl;rw[this,EC,EK (by rw[hT.t47.1];omega)]
     ·obtain⟨v,v1,v2⟩:=r3 j c hj;refine⟨v,?_,v2⟩;have e1:(off/2+i)*2+0+j=off+i*2+j:=by omega
      rw[e1]at v1;simpa[World.cell?,hb]using v1
    let F:Nat->List C:=λi=>if h:i<rows.length then Classical.choose (cT i h)else[];have hF:∀i,(hi:i<rows.length)->(F i).map C.kd=T 47/\T.G 1047 0 (F i)/\∀(j:Nat) c,(F i)[j]?=some c->∃v,cs[off+i*2+j]?=some v/\aG T E'.φ w' c v:=λi hi=>by have:F i=Classical.choose (cT i hi):=dif_pos hi;rw[this];exact PW (cT i hi)
    refine⟨(List.range rows.length).map F,by simp,λr hr=>?_,?_⟩
    ·obtain⟨i,hi,rfl⟩:=aF.1 hr;have:=hF i (dP.1 hi);exact⟨this.1,this.2.1⟩
    ·have jN:((List.range rows.length).map F).length=rows.length:=by simp
     have key:=aG.sl (T:=T) (φ:=E2.φ) (w:=w') 47 ((List.range rows.length).map F) b off cap cs el fr (λi j=>(cs[off+i*2+j]?).getD (.bool false)) 47 (λ_ _=> .any) hb
      (by
       rw[jN,hT.t47.1];have:kk T 47 47 off=mF:=by unfold kk mF;rw[hT.t47.1,YZ]
       rw[this,I7 zt];exact eR Bh (Nat.le_max_right _ _))
      (by rw[jN];exact cP) (by rw[hT.t47.1];exact dq) (by rw[jN];exact hlen)
      (λr hr=>by
       obtain⟨i,hi,rfl⟩:=aF.1 hr;exact(hF i (dP.1 hi)).1)
      (λi j hi hj=>by
       rw[hT.t47.1]at hj⊢;rw[jN]at hi;have:off+i*2+j<cs.size:=by omega
       simp[this])
      (λi j r c hi hj=>by
       rw[bP]at hi;cases q8:(List.range rows.length)[i]?with
       |none=>simp[q8]at hi
       |some i'=>
        have aj:i<rows.length:=by
         rcases aT i rows.length with h'|h'
         ·exact h'
         ·rw[aW (by simpa using h')]at q8;cases q8
        rw[iS aj]at q8;cases q8;rw[iS aj]at hi;simp only[cj,ae]at hi;subst hi;obtain⟨f1,_,f3⟩:=hF i aj;obtain⟨v,v1,v2⟩:=f3 j c hj;simp only[v1,fh];exact aG.low hT I8 v2 (I4 hT (e:=47) (s:=0) (m:=2) (by omega) (by rw[f1,EC,EK (by rw[hT.t47.1];omega)]) hj))
      (.inl rfl)
      (λi j hi hj _=>by
       have:kk T 47 47 off/4096=47:=by unfold kk;rw[hT.t47.1];omega
       unfold mP;rw[this];rfl)
      (λh=>by omega) (λh=>by omega) (λh=>by omega)
     rw[jN]at key;exact key
 obtain⟨lA,bA,hG,jV⟩:=wN;refine⟨.tuple vs,(x,lA),E2,rfl,⟨iZ,bA,hG⟩,?_,λi l hl=>(by cases hl),gk _,λi hi=>(by cases hi),λi _ hi=>(by cases hi),ako,akm,λb g' hb hk _=>⟨(PA hb).trans hk,yy hb⟩⟩;refine⟨vs,rfl,l5,λj p v hp hv=>?_⟩
 match j,hp with
 |0,hp=>
  cases hp;have:v=vs[0]'(by omega):=by rw[im (by omega)]at hv;exact(lR hv).symm
  subst this;exact jV
 |1,hp=>
  cases hp;have:v=vs[1]'(by omega):=by rw[im (by omega)]at hv;exact(lR hv).symm
  subst this;have PB:aG T E'.φ w' (.bool (B x)) (vs[1]'(by omega)):=PB;exact aG.low hT I8 PB λe he=>by cases he
 |j+2,hp=>simp at hp
end Go.Pv
namespace Go.Pv
open Go Go.Proofs Go.Proofs.YtmanimipgpdbcaaGreat
theorem YP:uT.all (λp=>Nat.ble p.2.length 4096&&(Nat.ble 1000 p.1||p.2.all λk=>match k with| .sl e=>Nat.blt e 1000&&!(dm uT e).isEmpty|_=>true))=true:=by kernel_rfl
theorem aj9:I3 tb where
 len:=O7 (Q:=λ_ ks=>ks.length<=4096) (λp hp=>by
  have:=aX.1 YP p hp;simp only[aB]at this;exact fy this.1) λ_ _=>gk _
 sub:=O7 (Q:=λe ks=>e<1000->∀e',Kd.sl e'∈ks->e'<1000/\tb e'≠[]) (λp hp he e' hm=>by
  have:=aX.1 YP p hp;simp only[aB,iT]at this;rcases this.2 with h|h
  ·have:=fy h;omega
  ·have:=aX.1 h _ hm;simp only[aB,gy]at this;refine⟨fy this.1,λe0=>?_⟩;have h2:dm uT e'=[]:=e0;rw[h2]at this;cases this.2) λe _ _ e' h=>by cases h
 t47:=⟨by kernel_rfl,by kernel_rfl⟩
theorem YQ:∀{rows:Y9},(∀r∈rows,r.map C.kd=tb 47/\tb.G 1047 0 r)->aS (wM 8) (aH 8) rows<=0/\aS (wM 6) (aH 6) rows<=0/\nR rows<=500001*rows.length
 |[],_=>⟨by simp[aS],by simp[aS],by simp[nR,sR,aS]⟩
 |r::rs,h=>by
  obtain⟨i8,i6,i4⟩:=YQ (rows:=rs) λq hq=>h q (lX _ hq);obtain⟨hk,hG⟩:=h r kj;have e:=Pf hk;generalize aA (r.getD 0 default)=n at e;generalize ah (r.getD 1 default)=a at e;subst e;have hG:∀g∈pj 1047 0,0<=g.den (mu fD (bZ (ty n a))):=hG;have g1:=hG ((af 8 1).neg) (by simp[pj]);have g2:=hG ((af 2 1).sub (af 11 0)) (by simp[pj]);have g3:=hG ((af 6 1).neg) (by simp[pj]);have g4:=hG ((af 15 0).neg) (by simp[pj]);have g5:=hG ((aa.const 500000).sub (af 4 1)) (by simp[pj]);rw[eu,au _ _ (by omega)]at g1 g3 g4;rw[br,au _ _ (by omega),au _ _ (by omega)]at g2;rw[br,cg,au _ _ (by omega)]at g5;have x8:wT (wM 8) (aH 8) n a<=0:=Ps.2 ⟨by have:0<=-ms.f 8 (.sl 47 a):=g1;omega,by have:0<=ms.f 2 (.sl 47 a)-ms.f 11 (.str n):=g2;omega⟩;have x6:wT (wM 6) (aH 6) n a<=0:=Pt.2 ⟨by have:0<=-ms.f 6 (.sl 47 a):=g3;omega,by have:0<=-ms.f 15 (.str n):=g4;omega⟩;have x4:nR a<=500000:=by rw[<-Ed 47];have:0<=500000-ms.f 4 (.sl 47 a):=g5;omega
  have e8:=Eo Pq n a;have e6:=Eo Pr n a;have e4:=Eo YA n a;unfold dJ at e8 e6 e4;have aka:wT (λ_=>1) (aH 4) n a=1+nR a:=rfl;refine⟨?_,?_,?_⟩
  ·rw[aS,e8];omega
  ·rw[aS,e6];omega
  ·show aS (λ_=>1) (aH 4) _<=_;have i4:aS (λ_=>1) (aH 4) rs<=500001*rs.length:=i4;rw[aS,e4,aka,eH];omega
theorem akb {ss:amZ} (h:fv [.agg [.str, .sl 47], .agg [.str, .sl 47], .one (.sl 9)] ss=true):∃n a m b names,ss=[bw n a,bw m b,L 9 names]:=by
 match ss,h with
 |[],h=>simp[fv]at h
 |[_],h=>simp[fv]at h
 |[_,_],h=>simp[fv]at h
 |_::_::_::_::_,h=>simp[fv]at h
 |[x,y,z],h=>simp only[fv,aB,v9]at h;obtain⟨n,a,rfl⟩:=Pw h.1;obtain⟨m,b,rfl⟩:=Pw h.2.1;obtain⟨names,rfl⟩:=Pu h.2.2;exact⟨n,a,m,b,names,rfl⟩
def oA:cb:=⟨[[.bo,(.plain 47)],[.bo,(.plain 47)],[(.plain 9)]],[],false,[],false,true,[(.agg [.str,(.sl 47)]),(.agg [.str,(.sl 47)]),(.one (.sl 9))],[],[⟨0,[(200,(-1))]⟩,⟨0,[(139,(-1)),(194,1)]⟩,⟨0,[(198,(-1))]⟩,⟨0,[(143,(-1))]⟩,⟨500000,[(196,(-1))]⟩],⟨0,[(68,1),(196,1),(260,1)]⟩,(.bj [(false,[(.fresh (.own 1047 1047))]),(false,[(.fresh .bool)])]),[],[[⟨(-1),[(385,1)]⟩,⟨0,[(258,(-1)),(322,1)]⟩,⟨0,[(258,1),(322,(-1))]⟩],[⟨0,[(385,(-1))]⟩,⟨0,[(322,(-1))]⟩]],[],[]⟩
def yw:cb:=⟨[[.bo,(.plain 47)],[.bo,(.plain 47)],[(.plain 9)]],[],false,[],false,true,[(.agg [.str,(.sl 47)]),(.agg [.str,(.sl 47)]),(.one (.sl 9))],[],[⟨0,[(200,(-1))]⟩,⟨0,[(139,(-1)),(194,1)]⟩,⟨0,[(198,(-1))]⟩,⟨0,[(143,(-1))]⟩,⟨500000,[(196,(-1))]⟩],⟨0,[(68,1),(196,1),(260,1)]⟩,(.bj [(false,[(.fresh (.sl 47))]),(false,[(.fresh .bool)])]),[],
 [[⟨(-1),[(385,1)]⟩,⟨0,[(328,-1)]⟩,⟨0,[(326,-1)]⟩,⟨0,[(322,500001),(324,-1)]⟩,⟨0,[(258,1),(322,-1)]⟩,⟨0,[(258,-1),(322,1)]⟩],[⟨0,[(385,(-1))]⟩]],[],[]⟩
theorem amF (hg:YtmanimipgpdbcaaGreat.Good 265 oA):YtmanimipgpdbcaaGreat.Good 265 yw:=by
 refine⟨⟨hg.1.1,λss bs sp h=>?_⟩,bk.x9 (by kernel_rfl)⟩;simp only[bk.dN]at h;split at h
 case isFalse=>cases h
 rename_i hf;have AR:(fv (cb.cB tb oA).args ss&&lJ (cb.cB tb oA).boxes bs)=true:=hf;simp only[aB]at hf;obtain⟨n,a,m,b,names,rfl⟩:=akb hf.1;obtain rfl:=IN hf.2;simp only[ae]at h;subst h;refine⟨?_,λx=>⟨rfl,λl hl=>(by cases hl)⟩⟩;obtain⟨tK,h0⟩:∃tK,((oA.cB tb).dN ms none).sp [bw n a,bw m b,L 9 names] []=some tK:=by simp only[bk.dN];rw[aC AR];exact⟨_,rfl⟩
 have hb:=(hg.1.2 _ _ _ h0).1;simp only[bk.dN]at h0;rw[aC AR]at h0;simp only[ae]at h0;subst h0;have key:=akc aj9 (P:=Tryz.prog) (T:=tb) (f:=265) (g:=1047) (R:=by exact λx=>ah (x 0)) (B:=by exact λx=>jh (x 1)) (by
  intro s hs x hx;have YR:∀l:Y9,yx tb (.sl 47 l):=λl e he=>by
   have:e=47:=by simpa[C.kd]using he.symm
   subst this;exact⟨by decide,λh0=>by have:=Ys;rw[h0]at this;cases this⟩
  have akd:∀l:Y9,yx tb (.sl 9 l):=λl e he=>by
   have:e=9:=by simpa[C.kd]using he.symm
   subst this;have h9:(tb 9).length=1:=by kernel_rfl
   exact⟨by decide,λh0=>by rw[h0]at h9;cases h9⟩
  have YS:∀s:ByteArray,yx tb (.str s):=λs e he=>by cases he
  simp only[az,bL,bM]at hs;rcases hs with rfl|rfl|rfl
  ·simp only[S.xs,az,bL,bM]at hx;rcases hx with rfl|rfl
   ·exact⟨_,rfl,YS _⟩
   ·exact⟨_,rfl,YR _⟩
  ·simp only[S.xs,az,bL,bM]at hx;rcases hx with rfl|rfl
   ·exact⟨_,rfl,YS _⟩
   ·exact⟨_,rfl,YR _⟩
  ·simp only[S.xs,az,bL,bM]at hx;subst hx;exact⟨_,rfl,akd _⟩) (by
  intro s hs;simp only[az,bL,bM]at hs;rcases hs with rfl|rfl|rfl<;>rfl) (λx=>rfl) (λx=>rfl) hb
 intro jG E w vals h1 h2 h3 h4 h5 h6 h7;refine Calls.mono (key jG E w vals h1 h2 h3 h4 h5 h6 h7) ?_;rintro e w' ⟨v,x,E',rfl,⟨iZ,hlen,hG⟩,pH,ake⟩;obtain⟨x,rows⟩:=x;obtain⟨r8,r6,r4⟩:=YQ hG;have r8:ms.f 8 (.sl 47 rows)<=0:=by rw[f8];exact r8
 have r6:ms.f 6 (.sl 47 rows)<=0:=by rw[f6];exact r6
 have r2:ms.f 2 (.sl 47 rows)=rows.length:=I1 rows;have r4:ms.f 4 (.sl 47 rows)<=500001*ms.f 2 (.sl 47 rows):=by rw[Ed,r2];exact r4
 refine⟨v,λj=>(match j with|0=> .sl 47 rows|_=>x 1),E',rfl,?_,pH,ake⟩;have v4:comb (bk.env (T:=tb) ms.f (cb.cB tb oA) [bw n a,bw m b,L 9 names] []) (bk.na tb (cb.cB tb oA)) x 4= .sl 9 names:=rfl;have v5:comb (bk.env (T:=tb) ms.f (cb.cB tb oA) [bw n a,bw m b,L 9 names] []) (bk.na tb (cb.cB tb oA)) x 5=x 0:=rfl;have v6:comb (bk.env (T:=tb) ms.f (cb.cB tb oA) [bw n a,bw m b,L 9 names] []) (bk.na tb (cb.cB tb oA)) x 6=x 1:=rfl;have u4:comb (bk.env (T:=tb) ms.f (cb.cB tb yw) [bw n a,bw m b,L 9 names] []) (bk.na tb (cb.cB tb yw)) (λj=>match j with|0=>C.sl 47 rows|_=>x 1) 4= .sl 9 names:=rfl;have u5:comb (bk.env (T:=tb) ms.f (cb.cB tb yw) [bw n a,bw m b,L 9 names] []) (bk.na tb (cb.cB tb yw)) (λj=>match j with|0=>C.sl 47 rows|_=>x 1) 5= .sl 47 rows:=rfl;have u6:comb (bk.env (T:=tb) ms.f (cb.cB tb yw) [bw n a,bw m b,L 9 names] []) (bk.na tb (cb.cB tb yw)) (λj=>match j with|0=>C.sl 47 rows|_=>x 1) 6=x 1:=rfl;have lx:ms.f 2 (x 0)=ms.f 2 (.sl 47 rows):=by rw[r2,ms.h2,hlen]
 have ln:0<=ms.f 2 (.sl 9 names):=by rw[ms.h2];exact g9 _
 have iZ:bk.Ae (T:=tb) ms.f (cb.cB tb oA) (comb (bk.env (T:=tb) ms.f (cb.cB tb oA) [bw n a,bw m b,L 9 names] []) (bk.na tb (cb.cB tb oA)) x):=iZ;unfold bk.Ae at iZ;rcases iZ with⟨hp,_⟩|⟨c,hc,hp⟩
 ·have p1:=hp ⟨(-1),[(385,1)]⟩ (by simp);have p2:=hp ⟨0,[(258,(-1)),(322,1)]⟩ (by simp);have p3:=hp ⟨0,[(258,1),(322,(-1))]⟩ (by simp);simp only[aa.den,b9,mu]at p1 p2 p3;simp[v4,v5,v6,lx]at p1 p2 p3;refine .inl ⟨λg hg=>?_,trivial⟩;have hg:g∈([⟨(-1),[(385,1)]⟩,⟨0,[(328,-1)]⟩,⟨0,[(326,-1)]⟩,⟨0,[(322,500001),(324,-1)]⟩,⟨0,[(258,1),(322,-1)]⟩,⟨0,[(258,-1),(322,1)]⟩]:amY):=hg;simp only[az,bL,bM]at hg;rcases hg with rfl|rfl|rfl|rfl|rfl|rfl;all_goals simp only[aa.den,b9,mu]
  all_goals simp[u4,u5,u6]
  all_goals omega
 ·obtain rfl:=a8.1 hc;have p1:=hp ⟨0,[(385,(-1))]⟩ (by simp);have p2:=hp ⟨0,[(322,(-1))]⟩ (by simp);simp only[aa.den,b9,mu]at p1 p2;simp[v4,v5,v6,lx]at p1 p2;refine .inr ⟨_,a8.2 rfl,λg hg=>?_⟩;obtain rfl:=a8.1 hg;all_goals simp only[aa.den,b9,mu]
  all_goals simp[u4,u5,u6]
  all_goals omega
end Go.Pv
namespace Go.Pv
open Go
section
variable {H:Type} {enc:TypeId×Value->H} {P:Program} {w:World} {T:ay}
def sf (kin:TypeId->Option (List Kd)) (P:Program):List Field->Nat->Option (List Kd)
 |[],_=>some []
 |f::r,o=>match kin f.type with
  |none=>none
  |some k=>match Nat.beq f.offset o&&Nat.beq (P.cellsOf f.type) k.length with
   |false=>none
   |true=>match sf kin P r (o+k.length)with
    |none=>none
    |some l=>some (k++l)
def pw (P:Program):Nat->TypeId->Option (List Kd)
 |0,_=>none
 |n+1,t=>match P.underlying t with
  |some .bool=>some [.bool]
  |some (.int k)=>some [.int k]
  |some .string=>some [.str]
  |some (.slice e)=>some [.sl e]
  |some (.struct fs)=>match sf (pw P n) P fs.toList 0 with
   |none=>none
   |some l=>match Nat.beq (P.cellsOf t) l.length with|true=>some l|false=>none
  |_=>none
structure Ja (P:Program) (T:ay) (d:Nat) (g7:amG):Prop where
 kin:∀e∈g7,pw P d e=some (T e)/\T e≠[]/\e<1000/\(T e).length<=4096/\P.cellsOf e=(T e).length
 sub:∀e∈g7,∀e',Kd.sl e'∈T e->e'∈g7
def akq (P:Program) (T:ay) (d:Nat) (g7:amG):Bool:=
 g7.all λe=>decide (pw P d e=some (T e))&&(!(T e).isEmpty&&(Nat.blt e 1000&&(Nat.ble (T e).length 4096&&(Nat.beq (P.cellsOf e) (T e).length&&(T e).all λk=>match k with| .sl e'=>g7.any (Nat.beq e')|_=>true))))
theorem akr {d:Nat} {g7:amG} (h:akq P T d g7=true):Ja P T d g7:=by
 have key:∀e∈g7,pw P d e=some (T e)/\T e≠[]/\e<1000/\(T e).length<=4096/\P.cellsOf e=(T e).length/\∀k∈T e,(match k with| .sl e'=>g7.any (Nat.beq e')|_=>true)=true:=λe he=>by have:=aX.1 h e he;simp_all
 refine⟨λe he=>?_,λe he e' hk=>?_⟩
 ·grind
 ·have:=(key e he).2.2.2.2.2 _ hk;simp_all
def mH (w:World) (b k:Nat):Nat:=if bY (k/4096)=true then 0 else match w.heap[b]?with|some (.cells cs _ _)=>cs.size|_=>0
def lQ (B:Nat):DataW H->Prop
 | .lit (.string bytes)=>bytes.length<=B
 | .slice l _=>l.length<=B/\∀d∈l,lQ B d
 | .agg l=>∀d∈l,lQ B d
 |_=>True
def jx (T:ay) (w:World) (ks:amQ) (cs:ana):Prop:=
 ∃cl:amS,cl.map C.kd=ks/\cs.length=cl.length/\∀(j:Nat) c u,cl[j]?=some c->cs[j]?=some u->aG T (mH w) w c u
theorem jx.nil:jx T w [] []:=⟨[],rfl,rfl,λj c u h=>by grind⟩
theorem jx.append {k1 k2:amQ} {c1 c2:ana} (h1:jx T w k1 c1) (h2:jx T w k2 c2):jx T w (k1++k2) (c1++c2):=by
 obtain⟨l1,a1,a2,a3⟩:=h1;obtain⟨l2,b1,b2,b3⟩:=h2;refine⟨l1++l2,by grind,by grind,λj c u hc hu=>?_⟩;grind
theorem jx.one {c:C} {u:Value} (h:aG T (mH w) w c u):jx T w [c.kd] [u]:=
 ⟨[c],rfl,rfl,λj c' u' hc hu=>by
  grind⟩
theorem Y0 {kin:TypeId->Option (List Kd)} {tr:TypeId->List Value->Option (DataW H×List MemPlace)} {B:Nat} (ih:∀t ks cs x,kin t=some ks->tr t cs=some x->lQ B x.1->jx T w ks cs):
 ∀(fl:List Field) (o:Nat) (ks:amQ) (cs:ana) (xs:List (DataW H×List MemPlace)),sf kin P fl o=some ks->cs.length=o+ks.length->xs.length=fl.length->
  (∀(i:Nat) f,fl[i]?=some f->tr f.type ((cs.drop f.offset).take (P.cellsOf f.type))=xs[i]?)->(∀x∈xs,lQ B x.1)->jx T w ks (cs.drop o)
 |[],o,ks,cs,xs,hk,hl,_,_,_=>by simp only[sf,ae]at hk;subst hk;have:cs.drop o=[]:=alG (by grind);rw[this];exact .nil
 |f::r,o,ks,cs,[],_,_,hx,_,_=>by grind
 |f::r,o,ks,cs,x::xs,hk,hl,hx,ht,hs=>by
  simp only[sf]at hk;split at hk
  ·grind
  ·rename_i k jF;split at hk
   ·grind
   ·rename_i hc;simp only[aB]at hc;have ho:=bt hc.1;have hn:=bt hc.2;split at hk
    ·grind
    ·rename_i l jN;simp only[ae]at hk;subst hk;have h0:=ht 0 f rfl;rw[ho,hn]at h0;have h1:=ih _ _ _ _ jF h0 (hs x kj);have h2:=Y0 ih r (o+k.length) l cs xs jN (by grind) (by grind) (λi f hf=>by simpa using ht (i+1) f (by grind)) λx hx=>hs x (lX _ hx);have e:cs.drop o=(cs.drop o).take k.length++cs.drop (o+k.length):=by rw[<-P0,ZR]
     rw[e];exact h1.append h2
open Classical in
theorem PC {kin:TypeId->Option (List Kd)} {g7:amG}:∀{fl:List Field} {o:Nat} {l:amQ},sf kin P fl o=some l->(∀e,Kd.sl e∈l->e∈g7)->
 sf (λt=>match kin t with|some k=>if∀e,Kd.sl e∈k->e∈g7 then some k else none|none=>none) P fl o=some l
 |[],o,l,h,_=>h
 |f::r,o,l,h,hs=>by
  simp only[sf]at h⊢;split at h
  ·cases h
  ·rename_i k hk;split at h
   ·cases h
   ·rename_i hc;split at h
    ·cases h
    ·rename_i l2 jN;simp only[ae]at h;subst h;rw[hk];dsimp only;rw[aC λe he=>hs e (nF _ he)];dsimp only;rw[hc,PC jN λe he=>hs e (fj _ he)]
theorem Y1 {a:Addr} {i:Nat} {v:Value} (h:w.cell? (a.add i)=some v) (hi:i=0\/a.spot=none):a.spot=none/\w.cell? ⟨a.block,a.off+i,none⟩=some v:=by
 have hs:a.spot=none:=by
  rcases hi with rfl|hi
  ·have:w.cell? a=some v:=by simpa[Addr.add]using h
   exact World.cell?_spot this
  ·omega
 refine⟨hs,?_⟩;unfold Addr.add at h;split at h
 ·rename_i h0;subst h0;cases a;grind
 omega
open Classical in
theorem Y2 {g7:amG} {d:Nat} (hE:Ja P T d g7) {B:Nat} (hB:B<=cM):∀(fuel n:Nat) (t:TypeId) (ks:amQ) (cs:ana) (x:DataW H×List MemPlace),pw P n t=some ks->(∀e,Kd.sl e∈ks->e∈g7)->
 DataW.trod enc P w 0 (λ_=>true) true fuel t cs=some x->lQ B x.1->jx T w ks cs:=by
 intro fuel;induction fuel with
 |zero=>intro n t ks cs x _ _ h;simp[DataW.trod]at h
 |succ m IH=>
 intro n t ks cs x hk kr h hs;cases n with
 |zero=>cases hk
 |succ n=>
  unfold pw at hk;split at hk
  ·rename_i ht;simp only[ae]at hk;subst hk;obtain⟨b,rfl,rfl⟩:=DataW.trod_bool ht h;exact jx.one (c:= .bool b) (.bool b)
  ·rename_i k ht;simp only[ae]at hk;subst hk;obtain⟨z,rfl,rfl,hw⟩:=DataW.trod_int ht h;have zc:k.min<=z/\z<=k.max:=by simpa[Lit.wf]using hw
   exact jx.one (c:= .int k z) (.int k z zc)
  ·rename_i ht;simp only[ae]at hk;subst hk;obtain⟨s,rfl,rfl,hm⟩:=DataW.trod_string ht h;exact jx.one (c:= .str s) (.str s (by assumption))
  ·rename_i e ht;simp only[ae]at hk;subst hk;obtain⟨PD,al,b0,aks,fp⟩:=hE.kin e (kr e (by simp));have cf:0<(T e).length:=lT.2 al;rcases DataW.trod_slice ht h with⟨rfl,rfl⟩|⟨a,len,cap,elems,rest,n',hn,rfl,rfl,hb,hl,hm,hlen,C6,ct,_⟩
   ·exact jx.one (c:= .sl e []) (.nil e)
   ·have eS:m=n':=by omega
    subst eS;have FE:(elems.map (·.1)).length<=B/\∀d∈elems.map (·.1),lQ B d:=by simpa only[lQ]using hs
    rw[dI,hlen]at FE;have amH:=FE.1;rcases yE cap with wG|Y3
    ·have:len=0:=by omega
     subst this;subst wG;exact jx.one (c:= .sl e []) (.emp e a)
    ·obtain⟨pU,Jb⟩:=ct rfl;have kP:∀i,i<cap->∃bU,w.cells? 0 (a.add (i*P.cellsOf e)) (P.cellsOf e)=some bU/\(i<len->∃y,elems[i]?=some y/\DataW.trod enc P w 0 (λ_=>true) true m e bU=some y):=λi hi=>by
      by_cases dW:i<len
      ·have h1:=C6 i dW;rw[aP (by omega)]at h1;obtain⟨bU,h2,h3⟩:=Jt.1 h1;grind
      ·have h1:=Jb (i-len) (by omega);rw[show len+(i-len)=i by omega,aP (by omega)]at h1;obtain⟨bU,h2,h3⟩:=Jt.1 h1;grind
     rw[fp]at kP;have Y4:a.spot=none:=by
      obtain⟨bU,h1,_⟩:=kP 0 Y3;obtain⟨_,h2,h3⟩:=World.cells?_some h1;have h4:=h3 0 cf;rw[aP (by omega)]at h4;have e0:(a.add (0*(T e).length)).add 0=a.add 0:=by simp[Addr.add]
      rw[e0]at h4;exact(Y1 h4 (.inl rfl)).1
     obtain⟨ab,ao,Ξ⟩:=a;simp only at Y4;subst Y4;have l7:∀i,i<cap->∃bU:ana,bU.length=(T e).length/\(∀j,j<(T e).length->w.cell? ⟨ab,ao+i*(T e).length+j,none⟩=bU[j]?)/\(i<len->∃y,elems[i]?=some y/\DataW.trod enc P w 0 (λ_=>true) true m e bU=some y):=λi hi=>by
      obtain⟨bU,h1,h2⟩:=kP i hi;obtain⟨_,h3,h4⟩:=World.cells?_some h1;refine⟨bU,h3,λj hj=>?_,h2⟩;have h5:=h4 j hj;rw[aP (by omega)]at h5⊢;have e1:((⟨ab,ao,none⟩:Addr).add (i*(T e).length)).add j=(⟨ab,ao+i*(T e).length,none⟩:Addr).add j:=by
       congr 1;unfold Addr.add;split
       ·grind
       ·rfl
      rw[e1]at h5;exact(Y1 h5 (.inr rfl)).2
     obtain⟨c0,akt,sE,jB⟩:∃c fr el,w.heap[ab]?=some (.cells c el fr):=by
      obtain⟨bU,h3,h4,_⟩:=l7 0 Y3;have h5:=h4 0 cf;rw[aP (by omega)]at h5;unfold World.cell? at h5;grind
     have cT:∀i j,i<cap->j<(T e).length->∃v,c0[ao+i*(T e).length+j]?=some v/\∀bU:ana,(∀j,j<(T e).length->w.cell? ⟨ab,ao+i*(T e).length+j,none⟩=bU[j]?)->bU[j]?=some v:=λi j hi hj=>by
      obtain⟨bU,h3,h4,_⟩:=l7 i hi;have h5:=h4 j hj;rw[aP (by omega)]at h5;have h6:c0[ao+i*(T e).length+j]?=some (bU[j]'(by omega)):=by simpa[World.cell?,jB]using h5
      grind
     have qU:ao+cap*(T e).length<=c0.size:=by
      obtain⟨v,hv,_⟩:=cT (cap-1) ((T e).length-1) (by omega) (by omega);have aj:ao+(cap-1)*(T e).length+((T e).length-1)<c0.size:=by
       rcases aT (ao+(cap-1)*(T e).length+((T e).length-1)) c0.size with h'|h'
       ·omega
       ·grind
      have:cap*(T e).length=(cap-1)*(T e).length+(T e).length:=by rw[<-yH];congr 1;omega
      omega
     have dV:∀i,i<len->∃cl:amS,cl.map C.kd=T e/\∀(j:Nat) c,cl[j]?=some c->∃v,c0[ao+i*(T e).length+j]?=some v/\aG T (mH w) w c v:=λi hi=>by
      obtain⟨bU,h3,h4,h5⟩:=l7 i (by omega);obtain⟨y,aku,akv⟩:=h5 hi;obtain⟨cl,g1,g2,g3⟩:=IH d e (T e) bU y PD (hE.sub e (kr e (by simp))) akv (FE.2 _ (aF.2 ⟨y,aY aku,rfl⟩));refine⟨cl,g1,λj c hj=>?_⟩;have qX:j<(T e).length:=by
       rcases aT j cl.length with h'|h'
       ·omega
       ·grind
      obtain⟨v,hv,zy⟩:=cT i j (by omega) qX;grind
     let F:Nat->List C:=λi=>if h:i<len then Classical.choose (dV i h)else[];have hF:∀i,(hi:i<len)->(F i).map C.kd=T e/\∀(j:Nat) c,(F i)[j]?=some c->∃v,c0[ao+i*(T e).length+j]?=some v/\aG T (mH w) w c v:=λi hi=>by grind
     have jN:((List.range len).map F).length=len:=by simp
     have iE:kk T e e ao/4096=e:=by have:=mI ao cf;unfold kk;omega
     have jJ:bY e=false:=by unfold bY;have:¬1000<=e:=Nat.not_le.2 b0;simp[this]
     have cI:mH w ab (kk T e e ao)=c0.size:=by unfold mH;rw[iE,jJ,jB];rfl
     have hle:len*(T e).length<=cap*(T e).length:=eh _ hl;have key:=aG.sl (T:=T) (φ:=mH w) (w:=w) e ((List.range len).map F) ab ao cap c0 sE akt (λi j=>(c0[ao+i*(T e).length+j]?).getD (.bool false)) e (λ_ _=> .any) jB
      (by grind) (by omega) qU (by omega)
      (λr hr=>by
       grind)
      (λi j hi hj=>by
       rw[jN]at hi;obtain⟨v,hv,_⟩:=cT i j (by omega) hj;grind)
      (λi j r c hi hj=>by
       grind)
      (yL.self (by omega))
      (λi j hi hj _=>by unfold mP;grind)
      (λh=>by omega) (λh=>by omega) (λh=>by omega)
     rw[jN]at key;exact jx.one (c:= .sl e _) key
  ·rename_i fs ht;split at hk
   ·grind
   ·rename_i l hl;split at hk
    ·rename_i hc;simp only[ae]at hk;subst hk;obtain⟨xs,n',hn,rfl,fb,rU,hf⟩:=DataW.trod_struct ht h;have eS:m=n':=by omega
     subst eS;have hs:∀d∈xs.map (·.1),lQ B d:=by simpa only[lQ]using hs
     have:=Y0 (P:=P) (T:=T) (w:=w) (kin:=λt=>match pw P n t with|some k=>if∀e,Kd.sl e∈k->e∈g7 then some k else none|none=>none) (tr:=DataW.trod enc P w 0 (λ_=>true) true m) (B:=B) (λt ks cs x hk h hs=>?_) fs.toList 0 l cs xs ?_ (by simp_all) (by omega) (λi f hi=>hf i f (by grind)) (λx hx=>hs _ (aF.2 ⟨x,hx,rfl⟩))
     ·grind
     ·grind
     ·exact PC hl kr
    grind
  grind
open Classical in
theorem Y5 {kin:TypeId->Option (List Kd)} {tr tr':TypeId->List Value->Option (DataW H×List MemPlace)} (ih:∀t ks cs x,kin t=some ks->tr t cs=some x->tr' t cs=some x):
 ∀(fl:List Field) (o:Nat) (ks:amQ) (cs:ana) (xs:List (DataW H×List MemPlace)),sf kin P fl o=some ks->xs.length=fl.length->
  (∀(i:Nat) f,fl[i]?=some f->tr f.type ((cs.drop f.offset).take (P.cellsOf f.type))=xs[i]?)->∀(i:Nat) f,fl[i]?=some f->tr' f.type ((cs.drop f.offset).take (P.cellsOf f.type))=xs[i]?
 |[],_,_,_,_,_,_,_,i,f,hf=>by grind
 |f0::r,o,ks,cs,xs,hk,hx,ht,i,f,hf=>by
  simp only[sf]at hk;split at hk
  ·grind
  ·rename_i k jF;split at hk
   ·grind
   ·split at hk
    ·grind
    ·rename_i l jN;cases xs with
     |nil=>grind
     |cons x xs=>
      cases i with
      |zero=>grind
      |succ i=>have:=Y5 ih r _ l cs xs jN (by grind) (λi f hf=>by simpa using ht (i+1) f (by grind)) i f (by grind);grind
open Classical in
theorem Y6 {g7:amG} {d:Nat} (hE:Ja P T d g7):∀(fuel n:Nat) (t:TypeId) (ks:amQ) (cs:ana) (x:DataW H×List MemPlace),pw P n t=some ks->(∀e,Kd.sl e∈ks->e∈g7)->
 DataW.trod enc P w 0 (λ_=>true) true fuel t cs=some x->DataW.trod enc P w 0 (λb=>decide (b<w.heap.size)) true fuel t cs=some x:=by
 intro fuel;induction fuel with
 |zero=>intro n t ks cs x _ _ h;assumption
 |succ m IH=>
 intro n t ks cs x hk kr h;cases n with
 |zero=>cases hk
 |succ n=>
  unfold pw at hk;split at hk
  ·rename_i ht;obtain⟨b,rfl,rfl⟩:=DataW.trod_bool ht h;unfold DataW.trod;rw[ht]
  ·rename_i k ht;obtain⟨z,rfl,rfl,hw⟩:=DataW.trod_int ht h;unfold DataW.trod;grind
  ·rename_i ht;obtain⟨s,rfl,rfl,hm⟩:=DataW.trod_string ht h;unfold DataW.trod;grind
  ·rename_i e ht;simp only[ae]at hk;subst hk;obtain⟨PD,al,b0,aks,fp⟩:=hE.kin e (kr e (by simp));have cf:0<(T e).length:=lT.2 al;rcases DataW.trod_slice ht h with⟨rfl,rfl⟩|⟨a,len,cap,elems,rest,n',hn,rfl,rfl,hb,hl,hm,hlen,C6,ct,_⟩
   ·unfold DataW.trod;grind
   ·have eS:m=n':=by omega
    subst eS;obtain⟨pU,Jb⟩:=ct rfl;have up:∀(i:Nat) y,(w.cells? 0 (a.add (i*P.cellsOf e)) (P.cellsOf e)).bind (DataW.trod enc P w 0 (λ_=>true) true m e)=some y->
     (w.cells? 0 (a.add (i*P.cellsOf e)) (P.cellsOf e)).bind (DataW.trod enc P w 0 (λb=>decide (b<w.heap.size)) true m e)=some y:=λi y hy=>by
     obtain⟨bU,h2,h3⟩:=Jt.1 hy;exact Jt.2 ⟨bU,h2,IH d e (T e) bU y PD (hE.sub e (kr e (by simp))) h3⟩
    have h1:(List.range len).mapM (λi=>(w.cells? 0 (a.add (i*P.cellsOf e)) (P.cellsOf e)).bind (DataW.trod enc P w 0 (λb=>decide (b<w.heap.size)) true m e))=some elems:=
     mapM_some_of_get _ _ (by grind) λi x hx=>by
      grind
    have h2:(List.range (cap-len)).mapM (λj=>(w.cells? 0 (a.add ((len+j)*P.cellsOf e)) (P.cellsOf e)).bind (DataW.trod enc P w 0 (λb=>decide (b<w.heap.size)) true m e))=some rest:=
     mapM_some_of_get _ _ (by grind) λi x hx=>by
      grind
    unfold DataW.trod;rw[ht];dsimp only;rw[aC ⟨gk _,hl,hm⟩,h1];simp only[Option.bind_some];have h3:(if decide (a.block<w.heap.size)=true then(List.range (cap-len)).mapM (λj=>(w.cells? 0 (a.add ((len+j)*P.cellsOf e)) (P.cellsOf e)).bind (DataW.trod enc P w 0 (λb=>decide (b<w.heap.size)) true m e))else some [])=some rest:=by
     by_cases aj:a.block<w.heap.size
     ·grind
     ·rw[aQ (by grind)];have:cap-len=0:=by
       rcases yE (cap-len)with h0|hp
       ·omega
       ·exfalso;have hi:=Jb 0 hp;rw[aP (by omega)]at hi;obtain⟨bU,g2,_⟩:=Jt.1 hi;have:=World.cells?_block g2 (by omega);refine aj ?_;have e1:(a.add ((len+0)*P.cellsOf e)).block=a.block:=by unfold Addr.add;split<;>rfl
        omega
      grind
    grind
  ·rename_i fs ht;split at hk
   ·grind
   ·rename_i l hl;split at hk
    ·rename_i hc;simp only[ae]at hk;subst hk;obtain⟨xs,n',hn,rfl,fb,rU,hf⟩:=DataW.trod_struct ht h;have eS:m=n':=by omega
     subst eS;have:=Y5 (P:=P) (kin:=λt=>match pw P n t with|some k=>if∀e,Kd.sl e∈k->e∈g7 then some k else none|none=>none) (tr:=DataW.trod enc P w 0 (λ_=>true) true m) (tr':=DataW.trod enc P w 0 (λb=>decide (b<w.heap.size)) true m) (λt ks cs x hk h=>?_) fs.toList 0 l cs xs (PC hl kr) (by omega) (λi f hi=>hf i f (by grind))
     ·exact ChangeShapes.trod_struct_mk ht fb (mapM_some_of_get _ _ (by omega) λi f hi=>this i f hi)
     grind
    grind
  grind
end
end Go.Pv
namespace Go.Pv
open Go Go.Proofs Go.Proofs.YtmanimipgpdbcaaGreat
def yz:cb:=⟨[[.nN 3],[.bo, .bo, .bo, .nN 93, .nN 57, .nN 63, .nN 69, .nN 74, .nN 53]],[],false,[],false,true,
 [.one (.sl 3), .agg [.int .i64, .str, .int .i64, .sl 93, .sl 57, .sl 63, .sl 69, .sl 74, .sl 53]],[],[],⟨0,[(4,1),(260,1),(324,1),(388,1),(452,1),(516,1),(580,1)]⟩, .one (.bo (.bool (.lit true))),[],[[]],[],[]⟩
def yA:List Kd:=[.int .i64, .str, .int .i64, .sl 93, .sl 57, .sl 63, .sl 69, .sl 74, .sl 53]
def PF:Kd->PX->Bool
 | .int a, .int b=>decide (a=b)
 | .str, .str=>true
 | .bool, .bool=>true
 | .sl a, .sl b=>Nat.beq a b
 |_,_=>false
theorem Y7 {k:Kd} {q:PX} {c:C} (h:c.kd=k) (hq:PF k q=true):q.fits (.c c)=true:=by subst h;cases c<;>cases q<;>simp_all [C.kd,PX.fits,PF]
theorem Y8:∀{ks:amQ} {qs:List PX} {cl:amS},cl.map C.kd=ks->(ks.length=qs.length/\∀p∈ks.zip qs,PF p.1 p.2=true)->
 nj qs (cl.map X.c)=true
 |ks,[],[],_,_=>rfl
 |[],_::_,_,_,h=>by simp at h
 |_::_,[],_::_,_,h=>by simp at h
 |[],[],c::cl,h,_=>by simp at h
 |k::ks,q::qs,[],h,_=>by simp at h
 |k::ks,q::qs,c::cl,h,hq=>by simp only[bu,ua]at h;simp only[bu,nj,aB];refine⟨Y7 h.1 (hq.2 (k,q) (by simp)),Y8 h.2 ⟨by simpa using hq.1,λp hp=>hq.2 p (by simp[hp])⟩⟩
theorem akw (hg:YtmanimipgpdbcaaGreat.Good 3 yz) {W:World} {u:Value} {cs:ane} (h0:jx tb W [.sl 3] [u]) (h1:jx tb W yA cs.toList):
 Calls Tryz.prog 3 #[u, .agg cs] W λe W'=>e= .returned (.bool true)/\W'.os=W.os/\W'.output=W.output/\∀b,b<W.heap.size->W'.heap[b]?=W.heap[b]?:=by
 obtain⟨l0,a1,a2,a3⟩:=h0;obtain⟨l1,b1,b2,b3⟩:=h1
 match l0,a1,a2 with
 |[c0],a1,a2=>
 have wG:c0.kd= .sl 3:=by simpa using a1
 have akx:=a3 0 c0 u rfl rfl;let ss:List S:=[.one (.c c0), .agg (l1.map X.c)]
 have fe:fv yz.args ss=true:=by simp only[ss,yz,fv,PS.fits,v9,aB];refine⟨Y7 wG rfl,Y8 (ks:=yA) b1 ⟨rfl,λp hp=>?_⟩⟩;simp only[yA,List.zip_cons_cons,List.zip_nil_right,az,bL,bM]at hp;rcases hp with rfl|rfl|rfl|rfl|rfl|rfl|rfl|rfl|rfl<;>rfl
 have ct:∃sp,((yz.cB tb).dN ms none).sp ss []=some sp/\sp.side/\(∀x,sp.res x= .one (.c (.bool true))):=by refine⟨_,aC ?_,⟨λg hg=>(by cases hg),trivial,λn hn=>(by cases hn)⟩,λx=>rfl⟩;simp only[aB];exact⟨fe,rfl⟩
 obtain⟨sp,hs,jG,y9⟩:=ct;have aN:=(hg.1.2 ss [] sp hs).1;let E:Env:=⟨mH W,λ_=> .dB,λ_=>0,λ_=>0,(0,0)⟩
 have hz:∀b k,bY (k/4096)=true->mH W b k=0:=λb k h=>by unfold mH;rw[aC h]
 refine Calls.mono (aN jG E W #[u, .agg cs] rfl (λi s v hs hv=>?_) (λi l hl=>by cases hl) (λi j hi=>by cases hi) (λb hb e=>?_) (λl hl=>by cases hl) ⟨λb k hk hp=>?_,λb e n gs s m i he hl _ hi=>?_⟩) ?_
 ·match i,hs,hv with
  |0,hs,hv=>cases hs;cases hv;exact RS.gN akx
  |1,hs,hv=>
   cases hs;cases hv;refine⟨cs,rfl,by simp[b2],λj x v hx hv=>?_⟩;rw[bP]at hx;cases hc:l1[j]?with
   |none=>simp[hc]at hx
   |some c=>simp only[hc,cj,ae]at hx;subst hx;exact b3 j c v hc hv
  |i+2,hs,hv=>simp[ss]at hs
 ·show mH W b e=0;unfold mH;split
  ·rfl
  ·rw[tY hb]
 ·have hp:0<mH W b k:=hp;rw[hz b k hk]at hp;omega
 ·have hi:(i+1)*n<=mH W b (e*4096):=hi;rw[hz b _ (by rw[sj _ (by decide)];exact he)]at hi;have hn:n≠0:=by rintro rfl;unfold dh at hl;split at hl<;>simp at hl
  have:0<(i+1)*n:=tZ (vZ _) (sg hn);omega
 ·rintro e W' ⟨v,x,E',rfl,_,pH,_,_,_,_,mG,_,_⟩;rw[y9 x]at pH;have hv:v= .bool true:=by have pH:aG tb E'.φ W' (.bool true) v:=pH;cases pH;rfl
  subst hv;refine⟨rfl,mG.os,mG.output,λb hb=>(mG.dB b hb rfl).1 λ⟨k,hk,hp⟩=>?_⟩;have hp:0<mH W b k:=hp;rw[hz b k hk]at hp;omega
end Go.Pv
namespace Go.Proofs.YtmanimipgpdbcaaGreat
open Go Go.Pv Go.ChangeShapes Go.WideShapes Go.ChangeAt Go.RowKit
theorem own:ownKnob Tryz.prog.godebug=none:=by kernel_rfl
def g7:List Nat:=[3,9,47,49,53,57,60,63,66,69,71,74,77,93,109,113,152]
theorem Jc:Ja Tryz.prog tb 12 g7:=akr (by kernel_rfl)
theorem Za:pw Tryz.prog 12 22=some [.sl 3]:=by kernel_rfl
theorem Zb:pw Tryz.prog 12 30=some yA:=by kernel_rfl
theorem aky:Tryz.prog.underlying 22=some (.slice 3):=by kernel_rfl
theorem akz:(match Tryz.prog.underlying 30 with|some (.struct _)=>true|_=>false)=true:=by kernel_rfl
theorem akA {P:Program} {w:World} {r:Reach} {b:Nat} {t e:TypeId} {v:Value} (ht:P.underlying t=some (.slice e)) (h:Value.okWide P w r b t v):v.cells.toList=[v]:=by unfold Value.okWide at h;rw[ht]at h;dsimp only at h;unfold Cell.okWide at h;rw[ht]at h;cases v<;>first|rfl|(exfalso;simp[Cell.ok,ht]at h)
theorem akB {P:Program} {w:World} {r:Reach} {b:Nat} {t:TypeId} {v:Value} (ht:(match P.underlying t with|some (.struct _)=>true|_=>false)=true) (h:Value.okWide P w r b t v):∃cs,v= .agg cs:=by
 unfold Value.okWide at h;split at ht
 ·rename_i fs hf;rw[hf]at h;obtain⟨cs,h,_⟩:=h;exact⟨cs,h⟩
 ·cases ht
theorem Jd {H:Type} (l:List (DataW H)):l.length<=Rows.uptoBulkAll l/\∀d∈l,Rows.uptoBulk d<=Rows.uptoBulkAll l:=by
 induction l with
 |nil=>exact⟨gk _,λd h=>by cases h⟩
 |cons x r ih=>
  have h1:1<=Rows.uptoBulk x:=by cases x<;>(try(rename_i l;cases l))<;>simp[Rows.uptoBulk]
  refine⟨by simp only[Rows.uptoBulkAll,eH];omega,λd hd=>?_⟩;simp only[Rows.uptoBulkAll];rcases az.1 hd with rfl|hd
  ·omega
  ·have:=ih.2 d hd;omega
theorem Zc {H:Type} {B:Nat}:∀(n:Nat) (d:DataW H),Rows.uptoBulk d<=n->n<=B->lQ B d:=by
 intro n;induction n with
 |zero=>
  intro d h _;have h1:1<=Rows.uptoBulk d:=by cases d<;>(try(rename_i l;cases l))<;>simp[Rows.uptoBulk]
  omega
 |succ n ih=>
  intro d h hB;cases d with
  |lit l=>cases l<;>simp only[lQ]<;>(simp only[Rows.uptoBulk]at h;omega)
  |slice l sp=>simp only[Rows.uptoBulk]at h;obtain⟨h1,h2⟩:=Jd l;simp only[lQ];exact⟨by omega,λd hd=>ih d (by have:=h2 d hd;omega) (by omega)⟩
  |agg l=>simp only[Rows.uptoBulk]at h;obtain⟨h1,h2⟩:=Jd l;simp only[lQ];exact λd hd=>ih d (by have:=h2 d hd;omega) (by omega)
  |_=>simp only[lQ]
set_option maxRecDepth 100000 in
theorem akC (hg:YtmanimipgpdbcaaGreat.Good 3 yz) (H:Type) (enc:TypeId×Value->H) (W:World) (base:Nat) (args:ane) (ds gs:List (DataW H)) (before:List MemPlace)
 (rp:∀(j:Nat) t v,Tryz.f3.params[j]?=some t->args[j]?=some v->Value.okWide Tryz.prog W .any base t v)
 (hW:DataW.Whole enc Tryz.prog Tryz.f3.params.toList Rows.recordSkeletonsSpec.vars false W args.toList ds gs before) (hk:Rows.uptoSmall H (ds++gs)=true):
 Calls Tryz.prog 3 args W λe W'=>∃v,e= .returned v/\Rows.recordSkeletonsSpec.post enc Tryz.prog Tryz.f3 false true false false W args v W':=by
 have Zd:=hW;obtain⟨p,q,akD,hV,rfl,amI,dv⟩:=hW;have hA:DataW.TrodAll enc Tryz.prog W 0 (λ_=>true) true Tryz.f3.params.toList args.toList ds p:=akD;rw[Tryz.params3]at hA rp;obtain⟨v0,amJ,d0,amK,p0,q0,Pz,rfl,rfl,h0,r0⟩:=trodAll_cons hA;obtain⟨v1,amL,d1,amM,p1,q1,rfl,rfl,rfl,h1,r1⟩:=trodAll_cons r0;obtain⟨rfl,rfl,rfl⟩:=trodAll_nil r1;have ha:args=#[v0,v1]:=v7.1 (by rw[Pz]);subst ha;obtain⟨rfl,rfl⟩:=trodVars_none hV;simp only[P8]at hk Zd;have hb:Rows.uptoBulkAll [d0,d1]<=1048576:=lW hk;have s0:lQ 1048576 d0:=Zc _ d0 (eR ((Jd [d0,d1]).2 d0 (by simp)) hb) (bh _);have s1:lQ 1048576 d1:=Zc _ d1 (eR ((Jd [d0,d1]).2 d1 (by simp)) hb) (bh _);obtain⟨n0,t0⟩:=h0;obtain⟨n1,t1⟩:=h1;have k0:jx tb W [.sl 3] v0.cells.toList:=Y2 Jc (B:=1048576) (by decide) n0 12 22 _ _ _ Za (λe he=>by simp at he;subst he;decide) t0 s0;have k1:jx tb W yA v1.cells.toList:=Y2 Jc (B:=1048576) (by decide) n1 12 30 _ _ _ Zb (λe he=>by
  have:∀k∈yA,(match k with| .sl e=>g7.any (Nat.beq e)|_=>true)=true:=by decide
  have h:=this _ he;obtain⟨x,hx,hb⟩:=ud.1 h;rw[bt hb];exact hx) t1 s1
 have c0:v0.cells.toList=[v0]:=akA aky (rp 0 22 v0 rfl rfl);obtain⟨cs,rfl⟩:∃cs,v1= .agg cs:=akB akz (rp 1 30 v1 rfl rfl);rw[c0]at k0;have akE:∀W':World,(∀b,b<W.heap.size->W'.heap[b]?=W.heap[b]?)->DataW.TrodAll enc Tryz.prog W' 0 (λb=>decide (b<W.heap.size)) true [22,30] [v0, .agg cs] [d0,d1] (p0++(p1++[])):=λW' hh=>by
  have same:∀p:MemPlace,p.block<W.heap.size->W.sameAt W' p:=λp hp=>by
   cases p with
   |cell b off=>show W'.cell? _=W.cell? _;simp only[World.cell?,hh b hp]
   |map b=>exact hh b hp
  refine⟨p0,p1++[],⟨n0,DataW.trod_carry _ _ _ _ (Y6 Jc n0 12 22 _ _ _ Za (λe he=>by simp at he;subst he;decide) t0) λp hp=>same p (DataW.trod_lt _ _ _ _ t0 p hp)⟩,
   ⟨p1,[],⟨n1,DataW.trod_carry _ _ _ _ (Y6 Jc n1 12 30 _ _ _ Zb (λe he=>?_) t1) λp hp=>same p (DataW.trod_lt _ _ _ _ t1 p hp)⟩,rfl,rfl⟩,rfl⟩
  have:∀k∈yA,(match k with| .sl e=>g7.any (Nat.beq e)|_=>true)=true:=by decide
  have h:=this _ he;obtain⟨x,hx,hb⟩:=ud.1 h;rw[bt hb];exact hx
 refine(akw hg k0 k1).mono λe W' ⟨he,h1,h2,h3⟩=>?_;subst he;refine⟨_,rfl,[d0,d1],[],_,[],p0++(p1++[]),[],Zd,trodAll_mk1 (shut_bool Tryz.underlying4 true),?_,rfl,⟨h1,h2,λi hi=>?_⟩,λh=>by cases h⟩
 ·rw[Tryz.params3];exact akE W' h3
 ·rw[h3 i hi];cases W.heap[i]?with
  |none=>rfl
  |some o=>cases o<;>first|exact⟨rfl,rfl,rfl,λ_ _=>rfl⟩|exact .inr ⟨rfl,rfl⟩|rfl
set_option maxRecDepth 100000 in
theorem lifted (hg:YtmanimipgpdbcaaGreat.Good 3 yz) (os:Os) (started:os.Started) (H:Type) (enc:TypeId×Value->H) (F:Stop.Interp):
 ReturnsInHanded {} Tryz.checked os 3 .any ((Rows.OpenSpec.upto Rows.recordSkeletonsSpec).pre6 enc Tryz.prog Tryz.f3 Rows.recordSkeletonsUptoRow.domain false) (((Rows.OpenSpec.upto Rows.recordSkeletonsSpec).at F).post enc Tryz.prog Tryz.f3 false true false false):=by
 refine returnsInHanded_of_cond (C:=Tryz.checked) (s:=Rows.OpenSpec.upto Rows.recordSkeletonsSpec) (k:=Rows.uptoSmall) rfl own started (by kernel_rfl) Tryz.func3
  (OpenSpec.witness (enc:=enc) (C:=Tryz.checked) (s:=Rows.OpenSpec.upto Rows.recordSkeletonsSpec) (k:=Rows.uptoSmall) rfl false ⟨#[],#[.slice none 0 0, .agg #[.int .i64 0, .string .empty, .int .i64 0, .slice none 0 0, .slice none 0 0, .slice none 0 0, .slice none 0 0, .slice none 0 0, .slice none 0 0]],[]⟩ 8 (by kernel_rfl) (by kernel_rfl) (by kernel_rfl)
   (x:=([.nil, .agg [.lit (.int .i64 0), .lit (.string []), .lit (.int .i64 0), .nil, .nil, .nil, .nil, .nil, .nil]],[],[])) (by kernel_rfl) rfl (by kernel_rfl)) ?_
 intro W base args ds gs before rp hW _ hk _;exact akC hg H enc W base args ds gs before rp hW hk
theorem holds (hg:YtmanimipgpdbcaaGreat.Good 3 yz) (closed:joinedFacts Tryz.prog 3 Tryz.f3 (Rows.OpenSpec.upto Rows.recordSkeletonsSpec).bare Rows.recordSkeletonsUptoRow=true):Rows.RecordSkeletonsUptoSaid:=
 OpenClaim.holds_of_cond 3 Tryz.f3 rfl rfl rfl rfl rfl rfl rfl ⟨rfl,rfl,rfl,rfl,rfl⟩ rfl rfl rfl rfl rfl (by kernel_rfl) Tryz.func3 closed
  (lW (by kernel_rfl)) (by unfold Func.isWrapper;first|(rw[aC (by decide+kernel)];kernel_rfl)|(rw[aQ (by decide+kernel)];exact⟨rfl,rfl⟩))
  (λos started H enc _ F=>lifted hg os started H enc F)
end Go.Proofs.YtmanimipgpdbcaaGreat
namespace Go.Proofs.YtmanimipgpdbcaaGreat
open Go
set_option maxRecDepth 100000
theorem akF:(Rows.recordSkeletonsUptoRow.wf (OpenSpec.ofChange (Rows.OpenSpec.upto Rows.recordSkeletonsSpec).bare))=true:=by kernel_rfl
theorem akG:(laidOutB Tryz.prog)=true:=by kernel_rfl
theorem akH:(mapsRowed Tryz.prog)=true:=by kernel_rfl
theorem akI:(Tryz.f3.params.all (Tryz.prog.readableRec ·))=true:=by kernel_rfl
theorem akJ:(namedTie Tryz.prog Rows.recordSkeletonsUptoRow.named (Rows.OpenSpec.upto Rows.recordSkeletonsSpec).bare.vars)=true:=by kernel_rfl
theorem akK:((Rows.recordSkeletonsUptoRow.stops==[]))=true:=by kernel_rfl
theorem akL:((Tryz.prog.stops==[]))=true:=by kernel_rfl
theorem akM:((Rows.recordSkeletonsUptoRow.knobs==[]))=true:=by kernel_rfl
theorem akN:((Tryz.prog.stopKnobs==[]))=true:=by kernel_rfl
theorem akO:((Rows.recordSkeletonsUptoRow.inPlace==Tryz.prog.inPlace 3))=true:=by kernel_rfl
theorem akP:((Rows.recordSkeletonsUptoRow.unfollowed==Tryz.prog.unfollowed 3))=true:=by kernel_rfl
theorem akQ:((Rows.recordSkeletonsUptoRow.recurses==Tryz.prog.recurses 3))=true:=by kernel_rfl
theorem akR:((Rows.recordSkeletonsUptoRow.named==Tryz.prog.varsNamed 3))=true:=by kernel_rfl
theorem akS:((Rows.recordSkeletonsUptoRow.maps==(Tryz.f3.params.toList++(Rows.OpenSpec.upto Rows.recordSkeletonsSpec).bare.plain.varTypes Tryz.prog).any (Tryz.prog.mapsRec ·)))=true:=by kernel_rfl
theorem akT:((Rows.recordSkeletonsUptoRow.ifaces==(Tryz.f3.params.toList++(Rows.OpenSpec.upto Rows.recordSkeletonsSpec).bare.plain.varTypes Tryz.prog).any (Tryz.prog.ifacesRec ·)))=true:=by kernel_rfl
theorem akU:((Rows.recordSkeletonsUptoRow.mapsOut==Tryz.prog.mapsAmong Tryz.f3.resultTypes.toList))=true:=by kernel_rfl
end Go.Proofs.YtmanimipgpdbcaaGreat
namespace Go.Proofs.YtmanimipgpdbcaaGreat
open Go
set_option maxRecDepth 100000
theorem akV:((Rows.recordSkeletonsUptoRow.loops==(Tryz.f3.params.toList++(Rows.OpenSpec.upto Rows.recordSkeletonsSpec).bare.plain.varTypes Tryz.prog).any (Tryz.prog.loopsFrom ·)))=true:=by kernel_rfl
theorem akW:((Rows.recordSkeletonsUptoRow.wideKeys==(Tryz.f3.params.toList++(Rows.OpenSpec.upto Rows.recordSkeletonsSpec).bare.plain.varTypes Tryz.prog++Tryz.f3.resultTypes.toList).any (Tryz.prog.wideKeysFrom ·)))=true:=by kernel_rfl
theorem akX:((Rows.OpenSpec.upto Rows.recordSkeletonsSpec).bare.vars.all (Tryz.prog.varReadable ·))=true:=by kernel_rfl
theorem akY:(Tryz.f3.resultTypes.all (λt=>Tryz.prog.readableRec t&&decide (t<Tryz.prog.types.size)))=true:=by kernel_rfl
theorem akZ:((Rows.recordSkeletonsUptoRow.ifacesOut==Tryz.f3.resultTypes.toList.any (Tryz.prog.ifacesRec ·)))=true:=by kernel_rfl
theorem ak0:((Rows.recordSkeletonsUptoRow.loopsOut==Tryz.f3.resultTypes.toList.any (Tryz.prog.loopsFrom ·)))=true:=by kernel_rfl
theorem ak1:((Rows.recordSkeletonsUptoRow.plainKeys==Tryz.prog.plainKeys))=true:=by kernel_rfl
theorem ak2:(Rows.recordSkeletonsUptoRow.shortTexts.isNone)=true:=by kernel_rfl
theorem ak3:(Tryz.prog.stopsHeard)=true:=by kernel_rfl
theorem ak4:(Tryz.prog.mayEnter)=true:=by kernel_rfl
theorem ak5:((Rows.recordSkeletonsUptoRow.lifted==Tryz.prog.liftsFinal))=true:=by kernel_rfl
theorem ak6:((Tryz.prog.make==some Rows.recordSkeletonsUptoRow.make))=true:=by kernel_rfl
theorem ak7:((Rows.recordSkeletonsUptoRow.kinds==(if Rows.recordSkeletonsUptoRow.domain.isEmpty then[]else Tryz.f3.params.toList.map λt=>match Tryz.prog.underlying t with|some (.int k)=>some k|_=>none)))=true:=by kernel_rfl
theorem ak8:((Rows.recordSkeletonsUptoRow.pinned==Rows.recordSkeletonsUptoRow.pinnedBy))=true:=by kernel_rfl
theorem ak9:((Rows.recordSkeletonsUptoRow.veiled==(Tryz.f3.params.toList++(Rows.OpenSpec.upto Rows.recordSkeletonsSpec).bare.plain.varTypes Tryz.prog++Tryz.f3.resultTypes.toList).any (Tryz.prog.veiledRec ·)))=true:=by kernel_rfl
theorem ala:(Rows.recordSkeletonsUptoRow.veiledFits Tryz.prog Tryz.f3.params.toList (Tryz.f3.params.toList++(Rows.OpenSpec.upto Rows.recordSkeletonsSpec).bare.plain.varTypes Tryz.prog++Tryz.f3.resultTypes.toList))=true:=by kernel_rfl
end Go.Proofs.YtmanimipgpdbcaaGreat
namespace Go.Proofs.YtmanimipgpdbcaaGreat
open Go
set_option maxRecDepth 100000
theorem closed:joinedFacts Tryz.prog 3 Tryz.f3 (Rows.OpenSpec.upto Rows.recordSkeletonsSpec).bare Rows.recordSkeletonsUptoRow=true:=by unfold joinedFacts;exact(Bool.and_eq_true_iff.2 ⟨(Bool.and_eq_true_iff.2 ⟨(Bool.and_eq_true_iff.2 ⟨(Bool.and_eq_true_iff.2 ⟨(Bool.and_eq_true_iff.2 ⟨(Bool.and_eq_true_iff.2 ⟨(Bool.and_eq_true_iff.2 ⟨(Bool.and_eq_true_iff.2 ⟨(Bool.and_eq_true_iff.2 ⟨(Bool.and_eq_true_iff.2 ⟨(Bool.and_eq_true_iff.2 ⟨(Bool.and_eq_true_iff.2 ⟨(Bool.and_eq_true_iff.2 ⟨(Bool.and_eq_true_iff.2 ⟨(Bool.and_eq_true_iff.2 ⟨(Bool.and_eq_true_iff.2 ⟨(Bool.and_eq_true_iff.2 ⟨(Bool.and_eq_true_iff.2 ⟨(Bool.and_eq_true_iff.2 ⟨(Bool.and_eq_true_iff.2 ⟨(Bool.and_eq_true_iff.2 ⟨(Bool.and_eq_true_iff.2 ⟨(Bool.and_eq_true_iff.2 ⟨(Bool.and_eq_true_iff.2 ⟨(Bool.and_eq_true_iff.2 ⟨(Bool.and_eq_true_iff.2 ⟨(Bool.and_eq_true_iff.2 ⟨(Bool.and_eq_true_iff.2 ⟨(Bool.and_eq_true_iff.2 ⟨(Bool.and_eq_true_iff.2 ⟨(Bool.and_eq_true_iff.2 ⟨akF,akG⟩),akH⟩),akI⟩),akJ⟩),akK⟩),akL⟩),akM⟩),akN⟩),akO⟩),akP⟩),akQ⟩),akR⟩),akS⟩),akT⟩),akU⟩),akV⟩),akW⟩),akX⟩),akY⟩),akZ⟩),ak0⟩),ak1⟩),ak2⟩),ak3⟩),ak4⟩),ak5⟩),ak6⟩),ak7⟩),ak8⟩),ak9⟩),ala⟩)
end Go.Proofs.YtmanimipgpdbcaaGreat
namespace Go.Proofs.YtmanimipgpdbcaaGreat
open Go Go.Pv
structure Tb where
 gL:Nat->Nat
 pr:Nat->cb
def Tb.ring (t:Tb) (s:Nat):Nat->List Pm
 |0=>[]
 |m+1=>(t.gL s,t.pr s,true)::Tb.ring t (s+1) m
def Tb.L (t:Tb) (s m:Nat) (bs:amG):List Pm:=t.ring s m++bs.map λb=>(t.gL b,t.pr b,false)
def Tb.Ew (t:Tb) (s:Nat):Nat->Bool
 |0=>true
 |m+1=>!((t.ring (s+1) m).any λq=>Nat.beq q.1 (t.gL s))&&Tb.Ew t (s+1) m
theorem PN {t:Tb}:∀{m s:Nat} {q:Pm},q∈t.ring s m->∃i,i<m/\q=(t.gL (s+i),t.pr (s+i),true)
 |0,_,_,h=>by cases h
 |m+1,s,q,h=>by
  rcases az.1 h with rfl|h
  ·exact⟨0,by omega,rfl⟩
  ·obtain⟨i,h1,h2⟩:=PN h;exact⟨i+1,by omega,by rw[h2,show s+1+i=s+(i+1)by omega]⟩
theorem Zm {t:Tb} {r:List Pm}:∀{m s:Nat},t.Ew s m=true->∀i,i<m->qK (t.ring s m++r) (t.gL (s+i))=some (t.pr (s+i),true)
 |0,_,_,i,hi=>by omega
 |m+1,s,h,0,_=>by simp only[Tb.ring,P9,qK,jy,Qd]
 |m+1,s,h,i+1,hi=>by
  simp only[Tb.Ew,aB,gy]at h;have ih:=Zm (r:=r) h.2 i (by omega);have al:Nat.beq (t.gL s) (t.gL (s+1+i))=false:=by
   cases hb:Nat.beq (t.gL s) (t.gL (s+1+i))with
   |false=>rfl
   |true=>
    have e:=bt hb;have h1:=h.1;have hm:∃q∈t.ring (s+1) m,Nat.beq q.1 (t.gL s)=true:=by
     have:∀{m s i},i<m->(t.gL (s+i),t.pr (s+i),true)∈t.ring s m:=by
      intro m;induction m with
      |zero=>intro s i hi;omega
      |succ m ih=>
       intro s i hi;cases i with
       |zero=>exact kj
       |succ i=>exact lX _ (by have:=ih (s:=s+1) (i:=i) (by omega);rw[show s+(i+1)=s+1+i by omega];exact this)
     exact⟨_,this (i:=i) (by omega),by rw[e];exact Qd _⟩
    have:=ud.2 hm;rw[this]at h1;cases h1
  rw[show s+(i+1)=s+1+i by omega];simp only[Tb.ring,P9,qK,al];exact ih
theorem PO {t:Tb} {s m:Nat} {bs:amG} (hn:t.Ew s m=true) (hb:∀b∈bs,Good (t.gL b) (t.pr b)) (hr:∀i,i<m->∃hd cs,tW (t.L s m bs) (t.gL (s+i)) (t.pr (s+i)) hd cs=true):∀i,i<m->Good (t.gL (s+i)) (t.pr (s+i)):=by
 have key:=alx (t.L s m bs) (λq hq hf=>by
  rcases bB.1 hq with hq|hq
  ·obtain⟨i,_,rfl⟩:=PN hq;cases hf
  ·obtain⟨b,aR,rfl⟩:=aF.1 hq;exact hb b aR) (λq hq hf=>by
  rcases bB.1 hq with hq|hq
  ·obtain⟨i,hi,rfl⟩:=PN hq;exact hr i hi
  ·obtain⟨b,_,rfl⟩:=aF.1 hq;cases hf)
 exact λi hi=>key _ _ (Zm hn i hi)
def Ex (t:Tb):Nat->List (Nat×List Nat)->Bool
 |_,[]=>true
 |s,c::r=>t.Ew s c.1&&c.2.all (λb=>Nat.blt b s)&&Ex t (s+c.1) r
def Checked (t:Tb):Nat->List (Nat×List Nat)->Prop
 |_,[]=>True
 |s,c::r=>(∀i,i<c.1->∃hd cs,tW (t.L s c.1 c.2) (t.gL (s+i)) (t.pr (s+i)) hd cs=true)/\Checked t (s+c.1) r
def total:Nat->List (Nat×List Nat)->Nat
 |s,[]=>s
 |s,c::r=>total (s+c.1) r
theorem PQ {t:Tb}:∀{l:List (Nat×List Nat)} {s:Nat},(∀k,k<s->Good (t.gL k) (t.pr k))->Ex t s l=true->Checked t s l->∀k,k<total s l->Good (t.gL k) (t.pr k)
 |[],s,h,_,_=>h
 |c::r,s,h,hk,hc=>by
  simp only[Ex,aB,aX]at hk;refine PQ (l:=r) (s:=s+c.1) (λk aj=>?_) hk.2 hc.2;rcases aT k s with h'|h'
  ·exact h k h'
  ·have:=PO hk.1.1 (λb hb=>h b (fy (hk.1.2 b hb))) hc.1 (k-s) (by omega);rwa[show s+(k-s)=k by omega]at this
structure il where
 cx:List (List (Nat×Nat))
 M:Nat
 kZ:List Nat
 Ev:List Nat
 cl:List Nat
 dl:List Nat
 ml:List Nat
noncomputable def il.all (a:il) (x:Nat):Hd×List (Nat×Cert):=((D.bind (alv a.cx a.kZ a.Ev) λh=>D.bind (als a.cx a.cl a.dl a.ml) λc=> .ret (h,c)) x).1
noncomputable def il.Ji (a:il) (L:List Pm) (f:Nat) (r:cb) (x:Nat):Bool:=Prod.rec (motive:=λ_=>Bool) (λh c=>tW L f r h c) (a.all x)
noncomputable def il.ring (a:il) (t:Tb) (L:List Pm) (K:Nat->List (List String)->Bool) (m:Nat):Nat->List (List String)->Bool:=
 Nat.rec (motive:=λ_=>Nat->List (List String)->Bool) (λk ds=>K k ds) (λ_ ih k ds=>List.rec (motive:=λ_=>Bool) false (λl ds _=>Bool.rec (motive:=λ_=>Bool) false (ih (Nat.succ k) ds) (a.Ji L (t.gL k) (t.pr k) (strs a.M l 0))) ds) m
noncomputable def il.rings (a:il) (t:Tb):List (Nat×List Nat)->Nat->List (List String)->Bool
 |[],_,_=>true
 |c::r,s,ds=>a.ring t (t.L s c.1 c.2) (il.rings a t r) c.1 s ds
theorem il.aly {a:il} {L:List Pm} {f:Nat} {r:cb} {x:Nat} (h:a.Ji L f r x=true):∃hd cs,tW L f r hd cs=true:=by
 unfold il.Ji at h;cases hp:a.all x with
 |mk hd cs=>rw[hp]at h;exact⟨hd,cs,h⟩
theorem bool_and {x y:Bool} (h:Bool.rec (motive:=λ_=>Bool) false y x=true):x=true/\y=true:=by
 cases x
 ·cases h
 ·exact⟨rfl,h⟩
set_option maxRecDepth 100000 in
theorem il.PO {a:il} {t:Tb} {L:List Pm} {K:Nat->List (List String)->Bool} {m k:Nat} {l:List String} {ds:List (List String)} (h:a.ring t L K (m+1) k (l::ds)=true):a.Ji L (t.gL k) (t.pr k) (strs a.M l 0)=true/\a.ring t L K m (k+1) ds=true:=bool_and h
theorem il.Ol {a:il} {t:Tb} {L:List Pm} {K:Nat->List (List String)->Bool}:∀(m k:Nat) (ds:List (List String)),a.ring t L K m k ds=true->(∀i,i<m->∃hd cs,tW L (t.gL (k+i)) (t.pr (k+i)) hd cs=true)/\∃Ey,K (k+m) Ey=true:=by
 intro m;induction m with
 |zero=>exact λk ds h=>⟨λi hi=>absurd hi (Nat.not_lt_zero i),ds,h⟩
 |succ m ih=>
  intro k ds h;cases ds with
  |nil=>cases h
  |cons l ds=>
   obtain⟨hc,h⟩:=il.PO h;obtain⟨h1,Ey,h2⟩:=ih (k+1) ds h;refine⟨λi hi=>?_,Ey,(Nat.add_right_comm k m 1▸h2:K (k+m+1) Ey=true)⟩;cases i with
   |zero=>exact il.aly hc
   |succ i=>exact(Nat.add_right_comm k i 1▸h1 i (Nat.lt_of_succ_lt_succ hi):∃hd cs,tW L (t.gL (k+i+1)) (t.pr (k+i+1)) hd cs=true)
theorem il.Zn {a:il} {t:Tb}:∀{l:List (Nat×List Nat)} {s:Nat} {ds:List (List String)},a.rings t l s ds=true->Checked t s l
 |[],_,_,_=>trivial
 |c::r,s,ds,h=>by rw[il.rings]at h;obtain⟨h1,Ey,h2⟩:=il.Ol _ _ _ h;exact⟨h1,il.Zn h2⟩
def tX (t:Tb) (s:Nat):Prop:=∀k,k<s->Good (t.gL k) (t.pr k)
theorem tX.next {t:Tb} {s:Nat} (h:tX t s) {f:Nat} {r:cb} (h1:t.gL s=f) (h2:t.pr s=r) (g:Good f r):tX t (s+1):=λk hk=>by
 rcases aT k s with h'|h'
 ·exact h k h'
 ·have:k=s:=by omega
  subst this;rw[h1,h2];exact g
theorem tX.rings {t:Tb} {s n:Nat} (h:tX t s) {a:il} {l:List (Nat×List Nat)} {ds:List (List String)} (hk:Ex t s l=true) (hc:a.rings t l s ds=true) (hn:total s l=n):tX t n:=hn▸PQ h hk (il.Zn hc)
theorem tX.amO {t:Tb} {s m n:Nat} (h:tX t s) {bs:amG} (hk:Ex t s [(m,bs)]=true) (hc:∀i,i<m->∃hd cs,tW (t.L s m bs) (t.gL (s+i)) (t.pr (s+i)) hd cs=true) (hn:s+m=n):tX t n:=hn▸PQ (l:=[(m,bs)]) h hk ⟨hc,trivial⟩
end Go.Proofs.YtmanimipgpdbcaaGreat
