/- Part of the proof of RecordSkeletons. -/
import Derived.Test.YtmanimipgpdbcaaGreatB
import Derived.Test.YtmanimipgpdbcaaGreatC
import Derived.KernelRfl
set_option linter.unusedVariables false
set_option linter.unusedSimpArgs false
set_option linter.unusedSectionVars false
namespace Go.Pv
open Go
noncomputable section
variable {T:ay} {σ:Type} {f:Nat->C->Int} {ρ:Kr} {n:Nat}
structure LA where
 aq:List (Nat×Option PS)
 boxes:List (Nat×Option (List (Option PX)))
 gh:List (eF×eF×Nat)
 jM:List (List jg)
 mu:jg
def pf {α:Type} (l:List (Nat×α)) (i:Nat):Option α:=List.rec (motive:=λ_=>Option α) none (λp _ ih=>Bool.rec (motive:=λ_=>Option α) ih (some p.2) (Nat.beq p.1 i)) l
theorem agF {α:Type} (p:Nat×α) (l:List (Nat×α)) (i:Nat):pf (p::l) i=match Nat.beq p.1 i with|true=>some p.2|false=>pf l i:=by show Bool.rec (motive:=λ_=>Option α) (pf l i) (some p.2) (Nat.beq p.1 i)=_;cases Nat.beq p.1 i<;>rfl
def PS.hs:PS->HS
 | .one q=> .one (.fresh q)
 | .agg l=> .agg (l.map .fresh)
def Aw (gen:amP) (x:AX):HX:=
 match x with
 | .own e g n v=>if n=gen g then .bo (.own e g 0 v)else .bo (.sl e v)
 | .aD=> .aD
 |x=> .bo x
def V8 (gen:amP):AS->HS
 | .one x=> .one (Aw gen x)
 | .agg l=> .agg (l.map (Aw gen))
 | .bj _=> .one .aD
def HA (x:AX):HX:=
 match x with
 | .own e _ _ v=> .bo (.sl e v)
 | .aD=> .aD
 |x=> .bo x
def V9:AS->HS
 | .one x=> .one (HA x)
 | .agg l=> .agg (l.map HA)
 | .bj _=> .one .aD
def fH (la:LA) (gen:amP):Nat->List AS->List HS
 |_,[]=>[]
 |i,s::r=>(match pf la.aq i with|some (some (.agg []))=>V9 s|some (some ps)=>ps.hs|some none=> .one .aD|none=>V8 gen s)::fH la gen (i+1) r
def rW (gen:amP):List (Option PX)->List AX->List HX
 |_,[]=>[]
 |some q::qs,_::xs=> .fresh q::rW gen qs xs
 |none::qs,x::xs=>Aw gen x::rW gen qs xs
 |[],x::xs=>Aw gen x::rW gen [] xs
def HB (la:LA) (gen:amP) (i:Nat):AK->HK
 | .cells l=>(match pf la.boxes i with|some (some qs)=> .cells (rW gen qs l)|_=> .cells (rW gen [] l))
 | .rows e w x=>(match pf la.boxes i with|some none=> .rows e w|_=> .bo e w x)
def Wa (b o:Nat):AX:=
 match Nat.sub b 1000000 with
 |0=> .int .i64 (.const o)
 |1=> .bool (.lit (Nat.beq o 1))
 |2=> .bc
 |_=> .lit ByteArray.empty
def NC:Option PX->HX
 |some (.ptr b o)=>(match Nat.ble 1000000 b with|true=> .bo (Wa b o)|false=> .fresh (.ptr b o))
 |some q=> .fresh q
 |none=> .aD
def agG (qs:List (Option PX)):List HX:=qs.map NC
theorem agH (q:Option PX):(NC q).lt n:=by
 unfold NC;split
 ·split
  ·unfold Wa;split
   ·exact λp hp=>by cases hp
   all_goals trivial
  ·trivial
 ·trivial
 ·trivial
def e7 (la:LA) (gen:amP):Nat->List (Option AK)->List (Option HK)
 |_,[]=>[]
 |i,none::r=>(match pf la.boxes i with|some (some qs)=>some (.cells (agG qs))|_=>none)::e7 la gen (i+1) r
 |i,some l::r=>some (HB la gen i l)::e7 la gen (i+1) r
theorem HC {gen:amP} {x:AX} (h:x.lt n):(Aw gen x).lt n:=by
 unfold Aw;split
 ·split<;>exact h
 ·trivial
 ·exact h
theorem agI {gen:amP} {s:AS} (h:s.lt n):(V8 gen s).lt n:=by
 cases s with
 |one x=>exact HC (show x.lt n from h)
 |agg l=>intro y hy;obtain⟨x,hx,rfl⟩:=aF.1 hy;exact HC (h x hx)
 |bj l=>trivial
theorem Wb {x:AX} (h:x.lt n):(HA x).lt n:=by
 unfold HA;split
 all_goals assumption
theorem agJ {s:AS} (h:s.lt n):(V9 s).lt n:=by
 cases s with
 |one x=>exact Wb (show x.lt n from h)
 |agg l=>intro y hy;obtain⟨x,hx,rfl⟩:=aF.1 hy;exact Wb (h x hx)
 |bj l=>trivial
theorem PS.agK (ps:PS):(PS.hs ps).lt n:=by
 cases ps with
 |one q=>trivial
 |agg l=>intro y hy;obtain⟨x,_,rfl⟩:=aF.1 hy;trivial
theorem ND {la:LA} {gen:amP}:∀{l:ank} {i:Nat},(∀s∈l,s.lt n)->∀h∈fH la gen i l,h.lt n
 |[],_,_=>λh hh=>by cases hh
 |s::r,i,hl=>λh hh=>by
  simp only[fH,az]at hh;rcases hh with rfl|hh
  ·split
   ·exact agJ (hl s (by simp))
   ·exact PS.agK _
   ·trivial
   ·exact agI (hl s (by simp))
  ·exact ND (λx hx=>hl x (by grind)) h hh
theorem DC {gen:amP}:∀{qs:List (Option PX)} {l:amV},(∀x∈l,x.lt n)->∀h∈rW gen qs l,h.lt n
 |_,[],_=>λh hh=>by simp[rW]at hh
 |some q::qs,x::xs,hl=>λh hh=>by
  simp only[rW,az]at hh;rcases hh with rfl|hh
  ·trivial
  ·exact DC (λy hy=>hl y (by grind)) h hh
 |none::qs,x::xs,hl=>λh hh=>by
  simp only[rW,az]at hh;rcases hh with rfl|hh
  ·exact HC (hl x (by simp))
  ·exact DC (λy hy=>hl y (by grind)) h hh
 |[],x::xs,hl=>λh hh=>by
  simp only[rW,az]at hh;rcases hh with rfl|hh
  ·exact HC (hl x (by simp))
  ·exact DC (λy hy=>hl y (by grind)) h hh
theorem agL {la:LA} {gen:amP} {i:Nat} {k:AK} (h:k.lt n):(HB la gen i k).lt n:=by
 cases k with
 |cells l=>
  simp only[HB];split
  ·exact DC h
  ·exact DC h
 |rows e w x=>
  simp only[HB];split
  ·trivial
  ·exact h
theorem HD {la:LA} {gen:amP}:∀{l:anm} {i:Nat},(∀b,some b∈l->b.lt n)->∀b,some b∈e7 la gen i l->b.lt n
 |[],_,_=>λb hb=>by simp[e7]at hb
 |none::r,i,hl=>λb hb=>by
  simp only[e7,az]at hb;rcases hb with hb|hb
  ·split at hb
   ·cases hb;intro h hh;obtain⟨q,_,rfl⟩:=aF.1 hh;exact agH q
   grind
  ·exact HD (λy hy=>hl y (by grind)) b hb
 |some l::r,i,hl=>λb hb=>by
  simp only[e7,az,ae]at hb;rcases hb with rfl|hb
  ·exact agL (hl l (by simp))
  ·exact HD (λy hy=>hl y (by grind)) b hb
theorem PX.Ax {q:PX} {v:Nat} (h:v<n):(q.ax v).lt n:=by cases q<;>first|exact aI h (by omega)|exact h|trivial
theorem HX.Ax {h:HX} {v:Nat} (hv:v+h.len<=n) (hl:h.lt n):(h.ax v).lt n:=by
 cases h with
 |aD=>trivial
 |fresh q=>exact PX.Ax (by assumption)
 |bo x=>exact hl
theorem NF:∀{l:List HX} {v:Nat},v+hlen l<=n->(∀h∈l,h.lt n)->∀x∈oq l v,x.lt n
 |[],_,_,_=>λx hx=>by cases hx
 |h::r,v,hv,hl=>λx hx=>by
  simp only[hlen]at hv;simp only[oq,az]at hx;rcases hx with rfl|hx
  ·exact HX.Ax (by omega) (hl h (by simp))
  ·exact NF (by omega) (λy hy=>hl y (by grind)) x hx
theorem HS.NG {h:HS} {v:Nat} (hv:v+h.len<=n) (hl:h.lt n):(h.as v).lt n:=by
 cases h with
 |one x=>exact HX.Ax hv hl
 |agg l=>exact NF hv hl
theorem Wc:∀{l:List HS} {v:Nat},v+fF l<=n->(∀h∈l,h.lt n)->∀x∈Ar l v,x.lt n
 |[],_,_,_=>λx hx=>by cases hx
 |h::r,v,hv,hl=>λx hx=>by
  simp only[fF]at hv;simp only[Ar,az]at hx;rcases hx with rfl|hx
  ·exact HS.NG (by omega) (hl h (by simp))
  ·exact Wc (by omega) (λy hy=>hl y (by grind)) x hx
theorem HK.agM {h:HK} {v:Nat} (hv:v+h.len<=n) (hl:h.lt n):(h.ak v).lt n:=by
 cases h with
 |cells l=>exact NF hv hl
 |rows e w=>assumption
 |bo e w x=>exact hl
theorem NH:∀{l:ans} {v:Nat},v+fG l<=n->(∀b,some b∈l->b.lt n)->∀b,some b∈nc l v->b.lt n
 |[],_,_,_=>λb hb=>by simp[nc]at hb
 |none::r,v,hv,hl=>λb hb=>by
  simp only[nc,az]at hb;rcases hb with hb|hb
  ·grind
  ·exact NH (by assumption) (λy hy=>hl y (by grind)) b hb
 |some l::r,v,hv,hl=>λb hb=>by
  simp only[fG]at hv;simp only[nc,az,ae]at hb;rcases hb with rfl|hb
  ·exact HK.agM (by omega) (hl l (by simp))
  ·exact NH (by omega) (λy hy=>hl y (by grind)) b hb
theorem HX.bg {m:Nat} (h:n<=m) {x:HX} (hx:x.lt n):x.lt m:=by
 cases x with
 |bo y=>exact AX.bg h hx
 |_=>trivial
theorem HS.bg {m:Nat} (h:n<=m) {x:HS} (hx:x.lt n):x.lt m:=by
 cases x with
 |one y=>exact HX.bg h hx
 |agg l=>exact λy hy=>HX.bg h (hx y hy)
theorem HK.bg {m:Nat} (h:n<=m) {x:HK} (hx:x.lt n):x.lt m:=by
 cases x with
 |cells l=>exact λy hy=>HX.bg h (hx y hy)
 |rows e w=>trivial
 |bo e w y=>exact dO hx h
def iQ (hs:List HS) (hb:ans) (nv:Nat):aw:=⟨Ar hs nv,nc hb (nv+fF hs),λ_=>0⟩
theorem NI {hs:List HS} {hb:ans} {nv:Nat} (h1:∀h∈hs,h.lt nv) (h2:∀b,some b∈hb->b.lt nv):(iQ hs hb nv).lt (nv+(fF hs+fG hb)):=
 ⟨Wc (by omega) λh hh=>HS.bg (by omega) (h1 h hh),NH (by omega) λb aR=>HK.bg (by omega) (h2 b aR)⟩
def ns (bs:anm) (b:Nat):Bool:=
 match je bs b with
 |some (some _)=>true
 |_=>false
def Ay:AS->Bool
 | .bj _=>false
 |_=>true
def AK.eX:AK->List AX
 | .cells l=>l
 | .rows _ _ _=>[]
def HE (st:aw):Bool:=(((st.aq.flatMap AS.xs)++(st.boxes.flatMap λb=>match b with|some k=>k.eX|none=>[])).flatMap AX.ids).all (ns st.boxes)&&st.aq.all Ay
def DD (bs:anm):AX->Bool
 | .ptr b _=>ns bs b
 | .cd b _=>ns bs b
 | .gb b _ _ _=>ns bs b
 | .cn _ b _=>ns bs b
 | .cq _ b _=>ns bs b
 |_=>true
def DE (bs:anm) (l:amV):Bool:=List.rec (motive:=λ_=>Bool) true (λx _ ih=>Bool.rec (motive:=λ_=>Bool) false ih (DD bs x)) l
def NJ (bs:anm) (s:AS):Bool:=AS.rec (motive:=λ_=>Bool) (λx=>DD bs x) (λl=>DE bs l) (λ_=>false) s
def NK (bs:anm) (b:Option AK):Bool:=Option.rec (motive:=λ_=>Bool) true (λk=>DE bs k.eX) b
def Az (st:aw):Bool:=Bool.rec (motive:=λ_=>Bool) false (List.rec (motive:=λ_=>Bool) true (λb _ ih=>Bool.rec (motive:=λ_=>Bool) false ih (NK st.boxes b)) st.boxes) (List.rec (motive:=λ_=>Bool) true (λs _ ih=>Bool.rec (motive:=λ_=>Bool) false ih (NJ st.boxes s)) st.aq)
theorem Wd (a b:Bool):Bool.rec (motive:=λ_=>Bool) false a b=(b&&a):=by cases b<;>rfl
theorem HF {α:Type} (g:α->Bool):∀l:List α,List.rec (motive:=λ_=>Bool) true (λx _ ih=>Bool.rec (motive:=λ_=>Bool) false ih (g x)) l=l.all g
 |[]=>rfl
 |x::l=>by show Bool.rec (motive:=λ_=>Bool) false (List.rec (motive:=λ_=>Bool) true (λx _ ih=>Bool.rec (motive:=λ_=>Bool) false ih (g x)) l) (g x)=_;rw[HF g l,Wd,ug]
theorem We (bs:anm) (x:AX):DD bs x=x.ids.all (ns bs):=by cases x<;>simp[DD,AX.ids]
theorem Wf (bs:anm) (l:amV):DE bs l=(l.flatMap AX.ids).all (ns bs):=by unfold DE;rw[HF,ZP];congr 1;funext x;exact We bs x
theorem agN (bs:anm) (s:AS):NJ bs s=((s.xs.flatMap AX.ids).all (ns bs)&&Ay s):=by
 cases s with
 |one x=>show DD bs x=_;rw[We];simp[AS.xs,Ay]
 |agg l=>show DE bs l=_;rw[Wf];simp[AS.xs,Ay]
 |bj l=>show false=_;simp[Ay]
theorem agO (bs:anm) (b:Option AK):NK bs b=((match b with|some k=>k.eX|none=>[]).flatMap AX.ids).all (ns bs):=by
 cases b with
 |none=>rfl
 |some k=>exact Wf bs k.eX
theorem Wg {α:Type} (f g:α->Bool):∀l:List α,l.all (λx=>f x&&g x)=(l.all f&&l.all g)
 |[]=>rfl
 |x::l=>by grind
theorem Wh (st:aw):Az st=HE st:=by unfold Az HE;rw[HF,HF,Wd];rw[show(NJ st.boxes)=λs=>((s.xs.flatMap AX.ids).all (ns st.boxes)&&Ay s)from funext (agN _),show(NK st.boxes)=λb=>((match b with|some k=>k.eX|none=>[]).flatMap AX.ids).all (ns st.boxes)from funext (agO _)];grind
theorem agP (st:aw) (b:Nat):Cb (st.den f ρ).boxes b=ns st.boxes b:=by
 simp only[Cb,ns,gF];have:(st.den f ρ).boxes[b]?=(st.boxes[b]?).map (Option.map (AK.den f ρ)):=by simp[aw.den]
 rw[this];cases st.boxes[b]?with
 |none=>rfl
 |some o=>cases o<;>rfl
theorem Wi (l:amV):(l.map (AX.den f ρ)).flatMap X.ids=l.flatMap AX.ids:=by simp only[uf,GS]
theorem agQ (w:Nat) (rows:Y9):(dC w rows).flatMap X.ids=[]:=by simp only[List.flatMap_eq_nil_iff];intro x hx;obtain⟨m,_,rfl⟩:=aF.1 hx;rfl
theorem agR (st:aw):(st.den f ρ).closed=Az st:=by
 rw[Wh];simp only[St.closed,HE];congr 1
 ·have e1:(st.den f ρ).aq.flatMap S.xs=(st.aq.flatMap AS.xs).map (AX.den f ρ):=Ha _;have e2:((st.den f ρ).boxes.flatMap λb=>b.getD []).flatMap X.ids=(st.boxes.flatMap λb=>match b with|some k=>k.eX|none=>[]).flatMap AX.ids:=by
   simp only[aw.den,uf,ZQ];congr 1;funext o;cases o with
   |none=>rfl
   |some k=>
    cases k with
    |cells l=>exact Wi l
    |rows e w x=>exact agQ _ _
  rw[Jo,Jo,e1,e2,Wi];congr 1;funext b;exact agP st b
 ·simp only[aw.den,Qn];congr 1;funext s;cases s<;>rfl
def Wj (st:aw) (rr:eF):Option (Nat×Nat):=
 match rr with
 | .arg j=>some (j%4096,j/4096)
 |rr=>match mC [] st rr with|some y=>rK (.one y)|none=>none
def pg (st:aw) (nv:Nat):List (eF×eF×Nat)->Option (List (Nat×Nat×aa))
 |[]=>some []
 |(rr,ri,o)::r=>
  match Wj st rr,mC [] st ri,pg st nv r with
  |some (e,v),some (.int _ i),some l=>if v<nv then some ((e,v,i.bI o)::l)else none
  |_,_,_=>none
def HG (ms:Ms T):List (Nat×Nat×aa)->Nat->List aa
 |[],_=>[]
 |(e,x,_)::r,g=>inst [x,g] (ms.part e)++(inst [g] (ms.base (.sl e))++HG ms r (g+1))
def tC:List (Nat×Nat×aa)->Nat->List Gh
 |[],_=>[]
 |(e,x,i)::r,g=>⟨e,x,i,g⟩::tC r (g+1)
def nu:List (Nat×Nat×aa)->Nat->List AX
 |[],_=>[]
 |(e,_,_)::r,g=> .sl e g::nu r (g+1)
def NL (ms:Ms T) (q:Path) (e x:Nat) (i:aa):Option (Path×AX):=
 match od i with
 |some 0=>some (q, .bc)
 |some 1=>(match k7 q e x (.const 0)with
  |some b=>some ((q.ext 1 (ni ms e q.nv)).ext 1 (xQ ms e q.nv b (q.nv+1)), .sl e (q.nv+1))
  |none=>none)
 |_=>
  match q.gh.find? (λh=>Nat.beq h.e e&&Nat.beq h.x x&&decide (h.i.bI 1=i))with
  |some h=>(match k7 q e x h.i with
   |some b=>some (q.ext 1 (xQ ms e h.g b q.nv), .sl e q.nv)
   |none=>none)
  |none=>none
def NM (ms:Ms T) (q:Path) (e x:Nat) (i:aa):Option (Path×AX):=
 match q.gh.find? (λh=>Nat.beq h.e e&&Nat.beq h.x x&&decide (h.i=i))with
 |some h=>some (q, .sl e h.g)
 |none=>NL ms q e x i
def yc (ms:Ms T):Path->List (eF×eF×Nat)->List (Nat×Nat×aa)->Option (Path×List AX)
 |q,[],[]=>some (q,[])
 |q,(rr,ri,o)::r,(e,x,_)::gx=>
  (match Wj q.st rr,mC [] q.st ri with
  |some (e',x'),some (.int _ i)=>if e'=e/\x'=x then
   (match NM ms q e x (i.bI o)with
   |some (q1,a)=>(match yc ms q1 r gx with|some (q2,l)=>some (q2,a::l)|none=>none)
   |none=>none)
   else none
  |_,_=>none)
 |_,_,_=>none
theorem nf.row {e x b:Nat} {i:aa} (h:nf T f ρ e x i b):∃r,(ah (ρ x))[(i.den (mu f ρ)).toNat]?=some r/\r.map C.kd=T e/\(a9 b (T e).length).map ρ=r:=by
 have hr:(ah (ρ x)).getD (i.den (mu f ρ)).toNat []=(ah (ρ x))[(i.den (mu f ρ)).toNat]'h.hi:=by rw[aZ,aP h.hi];rfl
 have hk:=h.kd _ (fz h.hi);refine⟨_,aP h.hi,hk,?_⟩;have hlen:((ah (ρ x))[(i.den (mu f ρ)).toNat]'h.hi).length=(T e).length:=by rw[<-hk];simp
 apply List.ext_getElem
 ·simp[a9,hlen]
 ·intro j h1 h2;have hj:j<(T e).length:=by rw[<-hlen];exact h2
  simp only[a9,List.getElem_map,List.getElem_range];rw[h.cell j hj,cellAt,hr,aZ,aP h2];rfl
theorem NN {ms:Ms T} {p:Path} {e a b x:Nat} {i:aa} (hs:Sat T ms.f ρ p) (ha:a<p.nv) (hm:Mem.ok T ms.f ρ p.nv ⟨e,x,i,b⟩) (hv:ah (ρ a)=(ah (ρ x)).take (i.den (mu ms.f ρ)).toNat):
 Reach ms p ρ (p.ext 1 (xQ ms e a b p.nv)) (bind' ρ p.nv [.sl e ((ah (ρ x)).take ((i.den (mu ms.f ρ)).toNat+1))]):=by
 obtain⟨r,nx,jI,NO⟩:=hm.row.row;have zt:b+(T e).length<=p.nv:=hm.b;have et:(ah (ρ x)).take ((i.den (mu ms.f ρ)).toNat+1)=ah (ρ a)++[r]:=by rw[hv,List.take_add_one,nx];rfl
 rw[et];have aL:=eQ ρ p.nv [C.sl e (ah (ρ a)++[r])];have e1:(a9 b (T e).length).map (bind' ρ p.nv [C.sl e (ah (ρ a)++[r])])=r:=by refine mO (cK ?_) NO;intro v hv;simp only[a9,aF,dP]at hv;obtain⟨j,hj,rfl⟩:=hv;exact aL _ (by omega)
 have l5:∀v∈a::p.nv::a9 b (T e).length,v<p.nv+1:=by intro v hv;simp only[a9,az,aF,dP]at hv;rcases hv with rfl|rfl|⟨j,hj,rfl⟩<;>omega
 have hlen:(a::p.nv::a9 b (T e).length).length=2+(T e).length:=by simp[a9];omega
 refine⟨rfl,fL _ _,hs.ext aL ?_ ?_,aL⟩
 ·exact b8 (gJ (ms.s9 e) hlen l5) (b8 (gX (aI (bQ _) (by omega)) (gS _ (aI (by omega) (by omega)))) (gV ms _ (bQ _)))
 ·refine aJ.append (gI (ms.s9 e) hlen ⟨ρ a,r,jI,?_⟩) (aJ.append (gW ?_) (gU ms _ _))
  ·rw[bu,bu,e1,aL a ha,bS]
  ·rw[cO,au _ _ (by omega),au _ _ (by omega),bS,aL a ha,ms.h2,ms.h2,df];simp
def rX (f:Nat->C->Int) (ρ:Kr) (a:AX) (e:Nat) (r:Y9):Prop:=a.den f ρ= .c (.sl e r)\/a.den f ρ= .bc/\r=[]
theorem rX.fit {a:AX} {e:Nat} {r:Y9} (h:rX f ρ a e r) (gen:amP):ga gen (a.den f ρ) (.c (.sl e r)):=by
 rcases h with h|⟨h,rfl⟩<;>rw[h]
 ·exact⟨rfl,rfl⟩
 ·rfl
theorem agS {ms:Ms T} {q q1:Path} {e x:Nat} {i:aa} {a:AX} (h:NL ms q e x i=some (q1,a)) (hs:Sat T ms.f ρ q):
 ∃bJ,Reach ms q ρ q1 bJ/\a.lt q1.nv/\0<=i.den (mu ms.f ρ)/\rX ms.f bJ a e ((ah (ρ x)).take (i.den (mu ms.f ρ)).toNat):=by
 unfold NL at h;split at h
 ·rename_i hc;simp only[ae,bT]at h;obtain⟨rfl,rfl⟩:=h;have hd:=vm hc (μ:=mu ms.f ρ);refine⟨ρ, .refl hs,trivial,by omega, .inr ⟨rfl,?_⟩⟩;simp_all
 ·rename_i hc;split at h
  ·rename_i b hb;simp only[ae,bT]at h;obtain⟨rfl,rfl⟩:=h;have hd:=vm hc (μ:=mu ms.f ρ);have hm:=og hb hs;have r1:=tm (ms:=ms) e hs;have qW:Mem.ok T ms.f (bind' ρ q.nv [.sl e []]) (q.nv+1) ⟨e,x, .const 0,b⟩:=hm.aK (eQ _ _ _) (pA _);have r2:=NN (p:=q.ext 1 (ni ms e q.nv)) r1.sat (bQ _) qW (by rw[bS,df,cg];rfl);refine⟨_,r1.trans r2,bQ _,by omega, .inl ?_⟩;have hx:x<q.nv:=hm.x;show X.c (C.sl e (ah (bind' _ (q.nv+1) _ (q.nv+1))))=_;rw[bS,df,hd,cg,eQ ρ q.nv _ x hx];rfl
  grind
 ·split at h
  ·rename_i g hg;split at h
   ·rename_i b hb;simp only[ae,bT]at h;obtain⟨rfl,rfl⟩:=h;have hp:=v8 (p:=λh:Gh=>Nat.beq h.e e&&Nat.beq h.x x&&decide (h.i.bI 1=i)) hg;simp only[aB,eN]at hp;have h1:=bt hp.1.1;have h2:=bt hp.1.2;have aN:=hs.gh g (uc hg);have hm:=og hb hs;have hv:=aN.val;rw[h2]at hv;have r1:=NN hs aN.g hm (by rw[hv,df]);have hi:i.den (mu ms.f ρ)=g.i.den (mu ms.f ρ)+1:=by rw[<-hp.2,cO]
    have fu:=aN.lo;refine⟨_,r1,bQ _,by omega, .inl ?_⟩;simp only[AX.den,bS,df];grind
   grind
  grind
theorem agT {ms:Ms T} {q q1:Path} {e x:Nat} {i:aa} {a:AX} (h:NM ms q e x i=some (q1,a)) (hs:Sat T ms.f ρ q):
 ∃bJ,Reach ms q ρ q1 bJ/\a.lt q1.nv/\0<=i.den (mu ms.f ρ)/\rX ms.f bJ a e ((ah (ρ x)).take (i.den (mu ms.f ρ)).toNat):=by
 unfold NM at h;split at h
 ·rename_i g hg;simp only[ae,bT]at h;obtain⟨rfl,rfl⟩:=h;have hp:=v8 (p:=λh:Gh=>Nat.beq h.e e&&Nat.beq h.x x&&decide (h.i=i)) hg;simp only[aB,eN]at hp;have h1:=bt hp.1.1;have h2:=bt hp.1.2;have aN:=hs.gh g (uc hg);have hv:=aN.val;have fu:=aN.lo;rw[h1,h2,hp.2]at hv;rw[hp.2]at fu;refine⟨ρ, .refl hs,aN.g,fu, .inl ?_⟩;simp only[AX.den,hv,df]
 ·exact agS h hs
def tD (f:Nat->C->Int) (ρ:Kr) (q:Path):List (eF×eF×Nat)->List (Nat×Nat×aa)->List (List (List C))->Prop
 |[],[],[]=>True
 |(_,ri,o)::r,(_,x,_)::gx,v::vs=>(∃k i,mC [] q.st ri=some (.int k i)/\0<=(i.bI o).den (mu f ρ)/\v=(ah (ρ x)).take ((i.bI o).den (mu f ρ)).toNat)/\tD f ρ q r gx vs
 |_,_,_=>False
def NP (f:Nat->C->Int) (ρ:Kr):List AX->List (Nat×Nat×aa)->List (List (List C))->Prop
 |[],[],[]=>True
 |a::r,(e,_,_)::gx,v::vs=>rX f ρ a e v/\NP f ρ r gx vs
 |_,_,_=>False
theorem rX.aK {a:AX} {e:Nat} {r:Y9} {ai:Kr} (h:rX f ρ a e r) (hl:a.lt n) (ha:cu n ρ ai):rX f ai a e r:=by unfold rX;rw[ha.ax hl];exact h
theorem tD.up {ai:Kr} {q q':Path} (hs:q.st.lt n) (aU:q'.st=q.st) (ha:∀x,x<n->ai x=ρ x):∀{gl:anw} {gx:ani} {vs:List (List (List C))},(∀g∈gx,g.2.1<n)->tD f ρ q gl gx vs->tD f ai q' gl gx vs:=by
 intro gl;induction gl with
 |nil=>intro gx vs _ hv;cases gx<;>cases vs<;>exact hv
 |cons g gl ih=>
  intro gx vs hx hv;obtain⟨rr,ri,o⟩:=g;cases gx with
  |nil=>exact hv
  |cons g' gx=>
   obtain⟨e,x,j⟩:=g';cases vs with
   |nil=>exact hv
   |cons v vs=>obtain⟨⟨k,i,a5,a6,a7⟩,hv⟩:=hv;have dW:(AX.int k i).lt n:=Hz (gs:=[]) (λx hx=>by grind) hs a5;have dW:i.lt n:=dW;have rU:=hx _ (kj ..);have aL:cu n ρ ai:=ha;rw[<-aL.dE (gS _ dW)]at a6 a7;rw[<-ha x rU]at a7;exact⟨⟨k,i,by grind,a6,a7⟩,ih (λg hg=>hx g (lX _ hg)) hv⟩
theorem Wl {ms:Ms T}:∀{gl:anw} {gx:ani} {q q':Path} {gs:amV} {ρ:Kr},yc ms q gl gx=some (q',gs)->Sat T ms.f ρ q->(∀g∈gx,g.2.1<q.nv)->
 ∃ai vs,Reach ms q ρ q' ai/\(∀a∈gs,a.lt q'.nv)/\tD ms.f ρ q gl gx vs/\NP ms.f ai gs gx vs
 |[],[],q,q',gs,ρ,h,hs,_=>by simp only[yc,ae,bT]at h;obtain⟨rfl,rfl⟩:=h;exact⟨ρ,[], .refl hs,λa ha=>(by grind),trivial,trivial⟩
 |[],_::_,q,q',gs,ρ,h,_,_=>by simp[yc]at h
 |_::_,[],q,q',gs,ρ,h,_,_=>by simp[yc]at h
 |(rr,ri,o)::r,(e,x,i0)::gx,q,q',gs,ρ,h,hs,hx=>by
  simp only[yc]at h;split at h
  ·rename_i e' x' k i _ hi;split at h
   ·rename_i hc;obtain⟨rfl,rfl⟩:=hc;split at h
    ·rename_i q1 a hg;split at h
     ·rename_i q2 l hl;simp only[ae,bT]at h;obtain⟨rfl,rfl⟩:=h;obtain⟨bJ,r1,l1,p1,v1⟩:=agT hg hs;have cW:∀g∈gx,g.2.1<q.nv:=λg hg=>hx g (lX _ hg);obtain⟨cQ,vs,r2,l2,v2,f2⟩:=Wl hl r1.sat λg hg=>dO (cW g hg) r1.nv;refine⟨cQ,_::vs,r1.trans r2,λb hb=>?_,⟨⟨k,i,hi,p1,rfl⟩,?_⟩,v1.aK l1 r2.aK,f2⟩
      ·rcases az.1 hb with rfl|hb
       ·exact AX.bg r2.nv l1
       grind
      ·exact tD.up (n:=q.nv) (by rw[r1.st];exact hs.st) r1.st.symm (λx hx=>(r1.aK x hx).symm) cW v2
     grind
    grind
   grind
  grind
def HH (ms:Ms T) (p:Path) (c:AB) (t:Bool):Path:=
 match c,t with
 | .le l,false=>p.ext 0 ((p.gh.filter λh=>decide (l=((af 2 h.x).sub h.i).bI (-1))).flatMap λh=>inst [h.x,h.g] (ms.rH h.e)++eZ (af 2 h.g) (af 2 h.x))
 |_,_=>p
theorem Wm {ms:Ms T} {p:Path} {c:AB} {t:Bool} (hs:Sat T ms.f ρ p) (hc:c.den ms.f ρ=t):Reach ms p ρ (HH ms p c t) ρ:=by
 unfold HH;split
 ·rename_i l;have key:∀h∈p.gh.filter λh=>decide (l=((af 2 h.x).sub h.i).bI (-1)),h.x<p.nv/\h.g<p.nv/\ρ h.g= .sl h.e (ah (ρ h.x)):=by intro h hh;rw[ki,eN]at hh;have aN:=hs.gh h hh.1;refine⟨aN.x,aN.g,?_⟩;have hv:=aN.val;simp only[AB.den,v3]at hc;rw[hh.2,cO,br,au _ _ (by omega),ms.h2]at hc;rw[hv,EK (by omega)]
  refine .more hs (λg cw=>?_) λg cw=>?_
  ·obtain⟨h,hh,cw⟩:=ba.1 cw;obtain⟨k1,k2,_⟩:=key h hh;exact b8 (gJ (ms.my h.e) rfl (by grind)) (gX (aI k2 (by omega)) (aI k1 (by omega))) g cw
  ·obtain⟨h,hh,cw⟩:=ba.1 cw;obtain⟨k1,k2,k3⟩:=key h hh;refine aJ.append (gI (ms.my h.e) rfl ⟨ρ h.x,by grind⟩) (gW ?_) g cw;rw[au _ _ (by omega),au _ _ (by omega),ms.h2,ms.h2,k3,df]
 ·exact .refl hs
def yd (ask:Ask σ) (ms:Ms T):List Gh->Path->(Path->σ->Option σ)->σ->Option σ
 |[],p,K=>K p
 |q::r,p,K=>match(ms.pair q.e).isEmpty with
  |true=>yd ask ms r p K
  |false=>oe ask p.Γ [q.i.sub (af 2 q.x)] λt=>match t with
   |true=>yd ask ms r (p.ext 0 (inst [q.x,q.g] (ms.rH q.e))) K
   |false=>yd ask ms r p K
theorem DF {ask:Ask σ} (ha:ca ask) {ms:Ms T} {ρ:Kr}:∀{l:List Gh} {p:Path} {K:Path->σ->Option σ} {s s':σ},yd ask ms l p K s=some s'->Sat T ms.f ρ p->(∀q∈l,q.ok ms.f ρ p.nv)->
 ∃p' s1,K p' s1=some s'/\Reach ms p ρ p' ρ/\p'.nv=p.nv
 |[],p,K,s,s',h,hs,_=>⟨p,s,h, .refl hs,rfl⟩
 |q::r,p,K,s,s',h,hs,hq=>by
  simp only[yd]at h;have hr:∀q∈r,q.ok ms.f ρ p.nv:=λk hk=>hq k (by grind);cases he:(ms.pair q.e).isEmpty with
  |true=>rw[he]at h;exact DF ha h hs hr
  |false=>
   rw[he]at h;dsimp only at h;obtain⟨t,s1,h,ht⟩:=o7 ha h;cases t with
   |false=>exact DF ha h hs hr
   |true=>have aN:=hq q (by simp);have hz:=hs.entails (ht rfl (q.i.sub (af 2 q.x)) (by simp));rw[br,au _ _ (by omega),ms.h2]at hz;have hv:=aN.val;rw[EK (by omega)]at hv;have h1:=aN.x;have h2:=aN.g;have r1:Reach ms p ρ (p.ext 0 (inst [q.x,q.g] (ms.rH q.e))) ρ:= .more hs (gJ (ms.my q.e) rfl (by grind)) (gI (ms.my q.e) rfl ⟨ρ q.x,by grind⟩);obtain⟨p2,s2,h,r2,n2⟩:=DF ha h r1.sat hr;exact⟨p2,s2,h,r1.trans r2,n2⟩
def DG (ask:Ask σ) (ms:Ms T) (g:Sn):List Sn->Path->(Path->σ->Option σ)->σ->Option σ
 |[],p,K=>K p
 |q::r,p,K=>match Nat.beq q.e g.e with
  |true=>conds ask (g.a::g.u::q.a::q.u::(a9 g.b (T g.e).length++a9 q.b (T g.e).length)) (ms.pair g.e) p λp=>DG ask ms g r p K
  |false=>DG ask ms g r p K
theorem Wn (b k:Nat) (ρ:Kr):(a9 b k).map ρ=(List.range k).map λj=>ρ (b+j):=by simp only[a9,da];rfl
theorem NQ {ask:Ask σ} (ha:ca ask) {ms:Ms T} {g:Sn} {ρ:Kr}:∀{l:List Sn} {p:Path} {K:Path->σ->Option σ} {s s':σ},DG ask ms g l p K s=some s'->Sat T ms.f ρ p->g.ok T ρ p.nv->(∀q∈l,q.ok T ρ p.nv)->
 ∃p' s1,K p' s1=some s'/\Reach ms p ρ p' ρ/\p'.nv=p.nv
 |[],p,K,s,s',h,hs,_,_=>⟨p,s,h, .refl hs,rfl⟩
 |q::r,p,K,s,s',h,hs,hg,hq=>by
  simp only[DG]at h;cases he:Nat.beq q.e g.e with
  |false=>rw[he]at h;exact NQ ha h hs hg λk hk=>hq k (by grind)
  |true=>
   rw[he]at h;dsimp only at h;have he:=bt he;have o9:=hq q (by simp);obtain⟨r1,k1,k2,k3⟩:=hg.val;obtain⟨r2,j1,j2,j3⟩:=o9.val;have b1:=hg.b;have b2:=o9.b;have a1:=hg.a;have a2:=hg.u;have a3:=o9.a;have a4:=o9.u;rw[he]at j1 j2 b2;have hv:∀v∈g.a::g.u::q.a::q.u::(a9 g.b (T g.e).length++a9 q.b (T g.e).length),v<p.nv:=by intro v hv;simp only[a9,az,bB,aF,dP]at hv;rcases hv with rfl|rfl|rfl|rfl|⟨j,hj,rfl⟩|⟨j,hj,rfl⟩<;>omega
   obtain⟨p1,s1,h,r3,n3⟩:=o8 ha (V:=λl=>∃a u b w r r',r.map C.kd=T g.e/\r'.map C.kd=T g.e/\ah u=ah a++[r]/\ah w=ah b++[r']/\l=a::u::b::w::(r++r')) (k:=4+(T g.e).length+(T g.e).length)
    (by simp[a9];omega) h (ms.zI g.e) hv
    ⟨ρ g.a,ρ g.u,ρ q.a,ρ q.u,r1,r2,k1,j1,k3,j3,by rw[<-k2,<-j2];simp only[bu,oH,Wn]⟩ hs
   obtain⟨p2,s2,h,r4,n4⟩:=NQ ha h r3.sat (by grind) λk hk=>by grind
   exact⟨p2,s2,h,r3.trans r4,n4.trans n3⟩
def NR (ask:Ask σ) (ms:Ms T) (e x:Nat) (i:aa) (q:Path) (K:Path->σ->Option σ):σ->Option σ:=
 match q.gh.find? (λh=>Nat.beq h.e e&&Nat.beq h.x x&&decide (h.i=i))with
 |some _=>K q
 |none=>
  match q.gh.find? (λh=>Nat.beq h.e e&&Nat.beq h.x x&&decide (h.i.bI 1=i))with
  |some h=>(match k7 q e x h.i with
   |some b=>conds ask (h.g::q.nv::a9 b (T e).length) (ms.zE e) {q.ext 1 (xQ ms e h.g b q.nv)with gh:=⟨e,x,i,q.nv⟩::q.gh} λp=>yd ask ms p.gh p λp=>DG ask ms ⟨e,h.g,q.nv,b⟩ p.sn p K
   |none=>K q)
  |none=>K q
def ye (ask:Ask σ) (ms:Ms T):List (eF×eF×Nat)->List (Nat×Nat×aa)->Path->(Path->σ->Option σ)->σ->Option σ
 |(_,ri,o)::r,(e,x,_)::gx,q,K=>
  (match mC [] q.st ri with
  |some (.int _ i)=>NR ask ms e x (i.bI o) q λq=>ye ask ms r gx q K
  |_=>ye ask ms r gx q K)
 |_,_,q,K=>K q
theorem agU {ask:Ask σ} (ha:ca ask) {ms:Ms T} {e x:Nat} {i:aa} {q:Path} {K:Path->σ->Option σ} {s s':σ} {ρ:Kr} (h:NR ask ms e x i q K s=some s') (hs:Sat T ms.f ρ q) (hi:i.lt q.nv):
 ∃q' s1 ai,K q' s1=some s'/\Reach ms q ρ q' ai:=by
 unfold NR at h;cases h0:q.gh.find? (λh=>Nat.beq h.e e&&Nat.beq h.x x&&decide (h.i=i))with
 |some _=>rw[h0]at h;exact⟨q,s,ρ,h, .refl hs⟩
 |none=>
  rw[h0]at h;cases hg:q.gh.find? (λh=>Nat.beq h.e e&&Nat.beq h.x x&&decide (h.i.bI 1=i))with
  |none=>rw[hg]at h;exact⟨q,s,ρ,h, .refl hs⟩
  |some g=>
   rw[hg]at h;dsimp only at h;cases hb:k7 q e x g.i with
   |none=>rw[hb]at h;exact⟨q,s,ρ,h, .refl hs⟩
   |some b=>
    rw[hb]at h;dsimp only at h;have hp:=v8 (p:=λh:Gh=>Nat.beq h.e e&&Nat.beq h.x x&&decide (h.i.bI 1=i)) hg;simp only[aB,eN]at hp;have h1:=bt hp.1.1;have h2:=bt hp.1.2;have aN:=hs.gh g (uc hg);have hm:=og hb hs;have hv:=aN.val;rw[h2]at hv;have r1:=NN hs aN.g hm (by rw[hv,df]);have aE:i.den (mu ms.f ρ)=g.i.den (mu ms.f ρ)+1:=by rw[<-hp.2,cO]
    have fu:=aN.lo;obtain⟨r,nx,jI,NO⟩:=hm.row.row;have zt:b+(T e).length<=q.nv:=hm.b;have et:(ah (ρ x)).take ((g.i.den (mu ms.f ρ)).toNat+1)=ah (ρ g.g)++[r]:=by rw[hv,df,List.take_add_one,nx];rfl
    have aL:=eQ ρ q.nv [C.sl e ((ah (ρ x)).take ((g.i.den (mu ms.f ρ)).toNat+1))];have hx:x<q.nv:=hm.x;have r2:Reach ms q ρ {q.ext 1 (xQ ms e g.g b q.nv)with gh:=⟨e,x,i,q.nv⟩::q.gh} (bind' ρ q.nv [.sl e ((ah (ρ x)).take ((g.i.den (mu ms.f ρ)).toNat+1))]):=by
     refine⟨r1.st,r1.nv,⟨r1.sat.st,r1.sat.lt,r1.sat.facts,r1.sat.wk,r1.sat.gH,λk hk=>?_,r1.sat.sn⟩,r1.aK⟩;rcases az.1 hk with rfl|hk
     ·refine⟨Ql hx,bg (pA _) hi,bQ _,?_,?_⟩
      ·show 0<=i.den _;rw[aL.dE hi,aE];omega
      ·show bind' ρ q.nv _ q.nv=C.sl e _;rw[bS,aL.dE hi,aL x hx,aE,show(aa.den (mu ms.f ρ) g.i+1).toNat=(aa.den (mu ms.f ρ) g.i).toNat+1 by omega]
     ·exact r1.sat.gh k hk
    have l5:∀v∈g.g::q.nv::a9 b (T e).length,v<q.nv+1:=by intro v pB;have Wo:g.g<q.nv:=aN.g;simp only[a9,az,aF,dP]at pB;rcases pB with rfl|rfl|⟨j,hj,rfl⟩<;>omega
    have hlen:(g.g::q.nv::a9 b (T e).length).length=2+(T e).length:=by simp[a9];omega
    have e1:(a9 b (T e).length).map (bind' ρ q.nv [C.sl e ((ah (ρ x)).take ((g.i.den (mu ms.f ρ)).toNat+1))])=r:=by refine mO (cK ?_) NO;intro v pB;simp only[a9,aF,dP]at pB;obtain⟨j,hj,rfl⟩:=pB;exact aL _ (by omega)
    obtain⟨p2,s2,h,q3,q4⟩:=o8 ha (V:=λl=>∃a r,r.map C.kd=T e/\l=a:: .sl e (ah a++[r])::r) hlen h (ms.xw e) l5
     ⟨ρ g.g,r,jI,by rw[bu,bu,e1,aL g.g aN.g,bS,et]⟩ r2.sat
    have q5:p2.nv=q.nv+1:=q4;have Wo:g.g<q.nv:=aN.g;obtain⟨zb,amd,h,agV,agW⟩:=DF ha h q3.sat q3.sat.gh;have q3:=q3.trans agV;have q5:zb.nv=q.nv+1:=agW.trans q5;obtain⟨p3,s3,h,q6,_⟩:=NQ ha h q3.sat ⟨by grind,by grind,by grind,r,jI,by rw[<-Wn];omega,by rw[aL g.g Wo,bS,df,et]⟩ q3.sat.sn;exact⟨p3,s3,_,h,(r2.trans q3).trans q6⟩
theorem HJ {ask:Ask σ} (ha:ca ask) {ms:Ms T}:∀{gl:anw} {gx:ani} {q:Path} {K:Path->σ->Option σ} {s s':σ} {ρ:Kr},ye ask ms gl gx q K s=some s'->Sat T ms.f ρ q->
 ∃q' s1 ai,K q' s1=some s'/\Reach ms q ρ q' ai
 |[],_,q,K,s,s',ρ,h,hs=>⟨q,s,ρ,by assumption, .refl hs⟩
 |_::_,[],q,K,s,s',ρ,h,hs=>⟨q,s,ρ,by assumption, .refl hs⟩
 |(rr,ri,o)::r,(e,x,i0)::gx,q,K,s,s',ρ,h,hs=>by
  simp only[ye]at h;cases hi:mC [] q.st ri with
  |none=>rw[hi]at h;exact HJ ha h hs
  |some y=>
   rw[hi]at h;cases y with
   |int k i=>have dW:(AX.int k i).lt q.nv:=Hz (gs:=[]) (λx hx=>by grind) hs.st hi;have dW:i.lt q.nv:=dW;obtain⟨q1,s1,bJ,h,r1⟩:=agU ha h hs (gS _ dW);obtain⟨q2,s2,cQ,h,r2⟩:=HJ ha h r1.sat;exact⟨q2,s2,cQ,h,r1.trans r2⟩
   |_=>exact HJ ha h hs
end
end Go.Pv
namespace Go.Pv
open Go
noncomputable section
variable {T:ay} {σ:Type} {f:Nat->C->Int} {ρ:Kr} {n:Nat}
def AX.fY (gen:amP) (e d g y:Nat):AX->AX
 | .cn e' d' x=>if d'=d then(if e'=e then .own e g (gen g) y else .aD)else .cn e' d' x
 | .cq e' d' x=>if d'=d then .aD else .cq e' d' x
 | .ptr d' off=>if d'=d then .aD else .ptr d' off
 | .cd d' off=>if d'=d then .aD else .cd d' off
 | .gb d' w i off=>if d'=d then .aD else .gb d' w i off
 |x=>x
def AX.eK (gen:amP) (e d g y:Nat):AX->AX
 | .cq e' d' x=>if d'=d then(if e'=e then .own e g (gen g) y else .aD)else .cq e' d' x
 | .cn e' d' x=>if d'=d then .aD else .cn e' d' x
 | .ptr d' off=>if d'=d then .aD else .ptr d' off
 | .cd d' off=>if d'=d then .aD else .cd d' off
 | .gb d' w i off=>if d'=d then .aD else .gb d' w i off
 |x=>x
def AK.bH (f:AX->AX):AK->AK
 | .cells l=> .cells (l.map f)
 |k=>k
def aw.cls (st:aw) (d:Nat) (f:AX->AX):aw:={st with aq:=st.aq.map (AS.bH f),boxes:=(st.boxes.map (Option.map (AK.bH f))).set d none}
def aw.all (st:aw):List AX:=(st.aq.flatMap AS.xs)++(st.boxes.flatMap λb=>match b with|some k=>k.eX|none=>[])
def aw.NS (st:aw) (d:Nat):List (Nat×Nat):=st.all.filterMap λx=>match x with| .cn e d' x=>if d'=d then some (e,x)else none|_=>none
def aw.Wp (st:aw) (d y:Nat):List aa:=st.all.flatMap λx=>match x with| .cq _ d' x=>if d'=d/\x≠y then eZ (af 2 x) (af 2 y)else[]|_=>[]
def NT (ask:Ask σ) (ms:Ms T) (p:Path) (c:Cl) (K:Path->σ->Option σ) (s:σ):Option σ:=
 match je p.st.boxes c.d with
 |some (some (.rows e _ x))=>if e=c.e/\(T e).isEmpty=false then lF ask p.Γ (p.st.Wp c.d x) (K {p with st:=p.st.cls c.d (AX.eK p.st.gen c.e c.d c.g x)}) s else none
 |some (some (.cells l))=>
  if l.length=(T c.e).length/\(T c.e).isEmpty=false then
   (match p.st.NS c.d with
   |(e,x)::r=>if e=c.e/\r.all (λq=>Nat.beq q.1 e&&Nat.beq q.2 x)=true then
    vp ask ms e 1 p x l (λp' y=>K {p' with st:=p'.st.cls c.d (AX.fY p'.st.gen c.e c.d c.g y)}) s
    else none
   |[]=>vp ask ms c.e 1 (p.ext 1 (ni ms c.e p.nv)) p.nv l (λp' y=>K {p' with st:=p'.st.cls c.d (AX.fY p'.st.gen c.e c.d c.g y)}) s)
  else none
 |_=>K p s
def AX.fin:AX->AX
 | .own e g n x=>bif Nat.beq e 1053&&Nat.beq g 6053 then .sl 1553 x else .own e g n x
 |x=>x
def aw.DH (st:aw):aw:={st with aq:=st.aq.map (AS.bH AX.fin),boxes:=st.boxes.map (Option.map (AK.bH AX.fin))}
def aw.agX (st:aw) (k:aa):List aa:=st.all.flatMap λx=>match x with| .own e g _ x=>(bif Nat.beq e 1053&&Nat.beq g 6053 then[k.sub (af 2 x)]else[])|_=>[]
def aw.agY (st:aw) (k:aa):List aa:=st.all.flatMap λx=>match x with| .own e g _ x=>(bif Nat.beq e 1053&&Nat.beq g 6053 then[((af 2 x).sub k).bI (-1)]else[])|_=>[]
def aw.agZ (st:aw):Option Nat:=st.all.findSome? λx=>match x with| .own e g _ x=>(bif Nat.beq e 1053&&Nat.beq g 6053 then some x else none)|_=>none
def aw.sX (st:aw) (g:Nat):Bool:=match st.get g with| .one .aD=>false| .one _=>true|_=>false
def qz (ask:Ask σ) (ms:Ms T):List Cl->Path->(Path->σ->Option σ)->σ->Option σ
 |[],p,K=>K p
 |c::r,p,K=>λs=>
  match Nat.beq c.e 1553 with
  |true=>
   (match p.st.iI c.d with
   |none=>if p.st.sX c.d=true then qz ask ms r (p.put (some c.d) (.one (.dn (.const 0)))) K s else none
   |some k=>if(T 1053).isEmpty=false then
    (match p.st.agZ with
    |some x=>ig ask p (.le (k.sub (af 2 x))) (λq s=>match q.st.iI c.d with|some k=>lF ask q.Γ (q.st.agX k) (qz ask ms r {q with st:=q.st.DH} K) s|none=>none)
     (λq s=>match q.st.iI c.d with|some k=>lF ask q.Γ (q.st.agY k) (qz ask ms r q K) s|none=>none) s
    |none=>none)
    else none)
  |false=>if c.e<1000 then NT ask ms p c (λp=>qz ask ms r p K) s else none
theorem ag0 {gen:amP} {e d g y:Nat} (hy:y<n) {x:AX} (h:x.lt n):(x.fY gen e d g y).lt n:=by cases x<;>simp only[AX.fY]<;>(try split)<;>(try split)<;>first|exact h|exact hy|trivial
theorem ag1 {gen:amP} {e d g y:Nat} (hy:y<n) {x:AX} (h:x.lt n):(x.eK gen e d g y).lt n:=by cases x<;>simp only[AX.eK]<;>(try split)<;>(try split)<;>first|exact h|exact hy|trivial
theorem NU {g:AX->AX} {g':X->X} {s:AS} (hg:∀x∈s.xs,(g x).den f ρ=g' (x.den f ρ)):(s.bH g).den f ρ=(s.den f ρ).bH g':=by
 cases s with
 |one x=>simp only[AS.bH,AS.den,S.bH,hg x (by simp[AS.xs])]
 |agg l=>simp only[AS.bH,AS.den,S.bH,da,S.agg.injEq];exact cK λx hx=>hg x hx
 |bj l=>simp only[AS.bH,AS.den,S.bH,da,S.bj.injEq];refine cK λp hp=>?_;simp only[Function.comp,da,bT,true_and];exact cK λx hx=>hg x (by simp only[AS.xs];grind)
theorem NV {w:Nat} {rows:Y9} {g:X->X} (hg:∀v,g (.c v)= .c v):(dC w rows).map g=dC w rows:=by simp only[dC,da];simp_all
theorem ag2 (s:AS):s.bH id=s:=by
 cases s with
 |one x=>rfl
 |agg l=>simp[AS.bH]
 |bj l=>simp[AS.bH]
theorem Wq {st:aw} {d:Nat} {g:AX->AX} {g':X->X} (hg:∀x∈st.all,(g x).den f ρ=g' (x.den f ρ)) (hc:∀v,g' (.c v)= .c v):(st.cls d g).den f ρ=(st.den f ρ).cls d g':=by
 simp only[aw.cls,aw.den,St.cls,da,St.mk.injEq,lU,Br,ZM];refine⟨cK λs hs=>NU λx hx=>hg x (bB.2 (.inl (ba.2 ⟨s,hs,hx⟩))),?_⟩;congr 1;refine cK λb hb=>?_;cases b with
 |none=>rfl
 |some k=>
  simp only[Function.comp,cj,ae];cases k with
  |cells l=>simp only[AK.bH,AK.den,da];exact cK λx hx=>hg x (bB.2 (.inr (ba.2 ⟨_,hb,hx⟩)))
  |rows e w x=>simp only[AK.bH,AK.den,NV hc]
theorem Ws {st:aw} {d:Nat} {g:AX->AX} (hg:∀x:AX,x.lt n->(g x).lt n) (h:st.lt n):(st.cls d g).lt n:=by
 refine⟨λs hs=>?_,λl hl=>?_⟩
 ·obtain⟨s0,h0,rfl⟩:=aF.1 hs;exact G7 hg (h.aq s0 h0)
 ·rcases oF hl with hl|hl
  ·obtain⟨b,hb,he⟩:=aF.1 hl;cases b with
   |none=>grind
   |some k=>
    simp only[cj,ae]at he;subst he;have:=h.boxes k hb;cases k with
    |cells l=>intro x hx;obtain⟨y,hy,rfl⟩:=aF.1 hx;exact hg y (this y hy)
    |rows e w x=>exact this
  grind
theorem Wt {st:aw} {d:Nat} {g:AX->AX} (h:Wk T ρ st):Wk T ρ (st.cls d g):=λe w x hx=>by
 rcases oF hx with hl|hl
 ·obtain⟨b,hb,he⟩:=aF.1 hl;cases b with
  |none=>grind
  |some k=>
   simp only[cj,ae]at he;cases k with
   |cells l=>cases he
   |rows e' w' x'=>simp only[AK.bH]at he;cases he;exact h _ _ _ hb
 grind
theorem ag3 {k:Kd} {c:C} (h:c.kd=k):(X.c c).gO k=some c:=by subst h;cases c<;>simp[X.gO,X.fq,C.kd]
theorem Wu:∀{r:amS},du (r.map C.kd) (r.map X.c)=some r
 |[]=>rfl
 |c::r=>by simp only[bu,du,ag3 rfl,Wu (r:=r)]
theorem ag4 {w:Nat} {r:amS} {rows:Y9} (hr:r.length=w) (hw:0<w):dC w (r::rows)=r.map X.c++dC w rows:=by
 apply oD;intro m;rcases aT m w with h|h
 ·rw[uH (by simp only[eH,yH];omega),jQ (by grind)];rw[EH h,Bj h];simp[cellAt,hr,h]
 ·rw[jR (by grind)];simp only[dI,hr];rcases aT m ((r::rows).length*w)with h2|h2
  ·rw[uH h2,uH (by simp only[eH,yH]at h2;omega)];have e1:m/w=(m-w)/w+1:=by rw[Nat.div_eq_sub_div hw h]
   have e2:m%w=(m-w)%w:=by rw[Nat.mod_eq_sub_mod h]
   rw[e1,e2];rfl
  ·rw[aW (by rw[oR];omega),aW (by rw[oR];simp only[eH,yH]at h2;omega)]
theorem Wv {ks:amQ} (fP:ks≠[]):∀{rows:Y9},(∀r∈rows,r.map C.kd=ks)->jD ks rows.length (dC ks.length rows)=some rows
 |[],_=>rfl
 |r::rows,h=>by
  have hr:=h r (by simp);have hl:r.length=ks.length:=by rw[<-hr];simp
  rw[ag4 hl (lT.2 fP),eH,jD];have e1:(r.map X.c++dC ks.length rows).take ks.length=r.map X.c:=by rw[List.take_append_of_le_length (by grind),EK (by grind)]
  have e2:(r.map X.c++dC ks.length rows).drop ks.length=dC ks.length rows:=by rw[List.drop_append,List.drop_of_length_le (by grind)];simp[hl]
  have e3:du ks (r.map X.c)=some r:=by rw[<-hr];exact Wu
  rw[e1,e2,e3,Wv fP λr' bR=>h r' (by grind)]
theorem Ww {ks:amQ} {l:amT} {rows:Y9} (h:jD ks 1 l=some rows) (hl:l.length=ks.length):∃r,rows=[r]/\du ks l=some r:=by
 simp only[jD]at h;grind
theorem ag5 {ask:Ask σ} (ha:ca ask) {ms:Ms T} {p:Path} {c:Cl} {K:Path->σ->Option σ} {s s':σ} (h:NT ask ms p c K s=some s') (hs:Sat T ms.f ρ p):
 ∃all ar q s1 ai,(p.st.den ms.f ρ).close T c all=some ar/\K q s1=some s'/\Sat T ms.f ai q/\p.nv<=q.nv/\cu p.nv ρ ai/\q.st.den ms.f ai=ar:=by
 unfold NT at h;simp only[gF]at h;split at h
 ·
  rename_i e w x hb;split at h
  ·rename_i hc;obtain⟨rfl,al⟩:=hc;obtain⟨hn,s1,h⟩:=mw ha h;have hx:x<p.nv:=hs.st.boxes _ (aY hb);obtain⟨NW,zd⟩:=hs.wk _ _ _ (aY hb);have fP:T c.e≠[]:=by simpa using al
   have aR:=pa (f:=ms.f) (ρ:=ρ) hb;simp only[AK.den]at aR;have ag6:∀e' y,AX.cq e' c.d y∈p.st.all->(ah (ρ y)).length=(ah (ρ x)).length:=by
    intro e' y hy;by_cases Wx:y=x
    ·rw[Wx]
    ·have jC:∀g∈eZ (af 2 y) (af 2 x),g∈p.st.Wp c.d x:=λg hg=>ba.2 ⟨_,hy,by grind⟩;have h1:=hs.entails (hn _ (jC ((af 2 y).sub (af 2 x)) (by simp[eZ])));have h2:=hs.entails (hn _ (jC ((af 2 x).sub (af 2 y)) (by simp[eZ])));rw[br,au _ _ (by omega),au _ _ (by omega),ms.h2,ms.h2]at h1 h2;omega
   have ag7:(p.st.cls c.d (AX.eK p.st.gen c.e c.d c.g x)).den ms.f ρ=(p.st.den ms.f ρ).cls c.d (X.eK p.st.gen c.e c.d c.g (ah (ρ x))):=by
    refine Wq (λy hy=>?_) λv=>rfl;cases y with
    |cq e' d' y=>
     by_cases hd:d'=c.d
     ·subst hd;have:=ag6 e' y hy;by_cases he:e'=c.e<;>simp[AX.eK,AX.den,X.eK,he,this]
     ·simp[AX.eK,AX.den,X.eK,hd]
    |cn e' d' y=>by_cases hd:d'=c.d<;>simp[AX.eK,AX.den,X.eK,hd]
    |ptr d' off=>by_cases hd:d'=c.d<;>simp[AX.eK,AX.den,X.eK,hd]
    |cd d' off=>by_cases hd:d'=c.d<;>simp[AX.eK,AX.den,X.eK,hd]
    |gb d' w i off=>by_cases hd:d'=c.d<;>simp[AX.eK,AX.den,X.eK,hd]
    |_=>rfl
   refine⟨true,_,_,s1,ρ,?_,h,hs.ke (Ws (λy hy=>ag1 hx hy) hs.st) (Wt hs.wk),bh _,λ_ _=>rfl,ag7⟩;unfold St.close;rw[aR,NW];cases hr:ah (ρ x)with
   |nil=>simp only[dC,yD,Zu,List.range_zero,mL];rfl
   |cons r rows=>
    have hO:=lT.2 fP;rw[hr]at zd;have hlen:=oR (T c.e).length (r::rows);have al:dC (T c.e).length (r::rows)≠[]:=λe=>by rw[e]at hlen;simp only[yD,eH,yH]at hlen;omega
    have hdiv:(dC (T c.e).length (r::rows)).length/(T c.e).length=(r::rows).length:=by rw[hlen,sj _ hO]
    split
    ·grind
    ·rename_i l _ he;simp only[ae]at he;subst he;simp only[hdiv,Wv fP zd];rw[aC ⟨hlen,trivial⟩];rfl
    grind
  grind
 ·
  rename_i l hb;have aR:=pa (f:=ms.f) (ρ:=ρ) hb;simp only[AK.den]at aR;split at h
  ·rename_i hc;obtain⟨hlen,al⟩:=hc;have fP:T c.e≠[]:=by simpa using al
   have hl:=hs.st.boxes _ (aY hb);have hl:∀x∈l,x.lt p.nv:=hl;have ag8:l.map (AX.den ms.f ρ)≠[]:=λe=>by have:=ll List.length e;grind
   have close:∀r,du (T c.e) (l.map (AX.den ms.f ρ))=some r->(p.st.den ms.f ρ).close T c false=some ((p.st.den ms.f ρ).cls c.d (X.fY p.st.gen c.e c.d c.g r)):=by
    intro r hr;unfold St.close;rw[aR];split
    ·grind
    ·rename_i l' _ he;simp only[ae]at he;subst he;simp only[hr];rfl
    ·grind
   have fin:∀(p':Path) (y:Nat) (ai:Kr) (s1:σ) (r:amS),K {p' with st:=p'.st.cls c.d (AX.fY p'.st.gen c.e c.d c.g y)} s1=some s'->Reach ms p ρ p' ai->y<p'.nv->du (T c.e) (l.map (AX.den ms.f ρ))=some r->
    (∀e' x,AX.cn e' c.d x∈p.st.all->e'=c.e/\ah (ai y)=ah (ρ x)++[r])->
    ∃all ar q s1 ai,(p.st.den ms.f ρ).close T c all=some ar/\K q s1=some s'/\Sat T ms.f ai q/\p.nv<=q.nv/\cu p.nv ρ ai/\q.st.den ms.f ai=ar:=by
    intro p' y ai s1 r hk hr hy dV ag9;have kP:∀z∈p.st.all,z.lt p.nv:=by
     intro z hz;rcases bB.1 hz with hz|hz
     ·obtain⟨s0,h0,hz⟩:=ba.1 hz;exact Dm (hs.st.aq s0 h0) z hz
     ·obtain⟨b,h0,hz⟩:=ba.1 hz;cases b with
      |none=>grind
      |some k=>
       have jr:=hs.st.boxes k h0;cases k with
       |cells l'=>exact jr z hz
       |rows e w x=>cases hz
    refine⟨false,_,_,s1,ai,close r dV,hk,hr.sat.ke (Ws (λz hz=>ag0 hy hz) hr.sat.st) (Wt hr.sat.wk),hr.nv,hr.aK,?_⟩;show(p'.st.cls c.d (AX.fY p'.st.gen c.e c.d c.g y)).den ms.f ai=_;rw[<-hr.aK.st hs.st,hr.st];refine Wq (λz hz=>?_) λv=>rfl;cases z with
    |cn e' d' x=>
     by_cases hd:d'=c.d
     ·subst hd;obtain⟨rfl,h2⟩:=ag9 e' x hz;have hx:x<p.nv:=kP _ hz;simp[AX.fY,AX.den,X.fY,h2,hr.aK x hx]
     ·simp[AX.fY,AX.den,X.fY,hd]
    |cq e' d' y=>by_cases hd:d'=c.d<;>simp[AX.fY,AX.den,X.fY,hd]
    |ptr d' off=>by_cases hd:d'=c.d<;>simp[AX.fY,AX.den,X.fY,hd]
    |cd d' off=>by_cases hd:d'=c.d<;>simp[AX.fY,AX.den,X.fY,hd]
    |gb d' w i off=>by_cases hd:d'=c.d<;>simp[AX.fY,AX.den,X.fY,hd]
    |_=>rfl
   have jC:∀e' x,AX.cn e' c.d x∈p.st.all->(e',x)∈p.st.NS c.d:=λe' x hx=>ZK.2 ⟨_,hx,by simp⟩;split at h
   ·rename_i e x r0 ho;split at h
    ·rename_i mV;obtain⟨rfl,kP⟩:=mV;have aha:(c.e,x)∈p.st.NS c.d:=by rw[ho];simp
     have ahb:x<p.nv:=by
      obtain⟨z,hz,he⟩:=ZK.1 aha;cases z with
      |cn e' d' x'=>
       simp only at he;split at he
       ·simp only[ae,bT]at he;obtain⟨_,rfl⟩:=he;rcases bB.1 hz with hz|hz
        ·obtain⟨s0,h0,hz⟩:=ba.1 hz;exact Dm (hs.st.aq s0 h0) _ hz
        ·obtain⟨b,h0,hz⟩:=ba.1 hz;cases b with
         |none=>grind
         |some k=>
          have jr:=hs.st.boxes k h0;cases k with
          |cells l'=>exact jr _ hz
          |rows e w x=>cases hz
       grind
      |_=>cases he
     obtain⟨rows,ai,p',y,s1,j0,j1,j2,j3,j4⟩:=G0 ha h hs ahb hl;obtain⟨r,rfl,hr⟩:=Ww j1 (by grind);refine fin p' y ai s1 r j0 j2 j3 hr λe' x' cW=>?_;have:=jC e' x' cW;rw[ho]at this;rcases az.1 this with he|gE
     ·grind
     ·have:=aX.1 kP _ gE;simp_all
    grind
   ·rename_i ho;have hn:=tm (ms:=ms) c.e hs;obtain⟨rows,ai,p',y,s1,j0,j1,j2,j3,j4⟩:=G0 ha h hn.sat (bQ _) (λx hx=>AX.bg hn.nv (hl x hx));rw[hn.aK.eX hl]at j1;obtain⟨r,rfl,hr⟩:=Ww j1 (by grind);refine fin p' y ai s1 r j0 (hn.trans j2) j3 hr λe' x' cW=>?_;grind
  grind
 ·rename_i h1 h2;refine⟨true,_,p,s,ρ,?_,h,hs,bh _,λ_ _=>rfl,rfl⟩;unfold St.close;have hb:(p.st.den ms.f ρ).boxes[c.d]?=(p.st.boxes[c.d]?).map (Option.map (AK.den ms.f ρ)):=by simp[aw.den]
  rw[hb];cases h3:p.st.boxes[c.d]?with
  |none=>rfl
  |some o=>
   cases o with
   |none=>rfl
   |some k=>
    cases k with
    |cells l=>grind
    |rows e w x=>grind
theorem Wy {x:AX} (h:x.lt n):x.fin.lt n:=by
 cases x with
 |own e g m x=>simp only[AX.fin];cases Nat.beq e 1053&&Nat.beq g 6053<;>exact h
 |_=>exact h
theorem ahc {st:aw} (h:st.lt n):∀z∈st.all,z.lt n:=by
 intro z hz;rcases bB.1 hz with hz|hz
 ·obtain⟨s0,h0,hz⟩:=ba.1 hz;exact Dm (h.aq s0 h0) z hz
 ·obtain⟨b,h0,hz⟩:=ba.1 hz;cases b with
  |none=>grind
  |some k=>
   have jr:=h.boxes k h0;cases k with
   |cells l'=>exact jr z hz
   |rows e w x=>cases hz
theorem ahd {st:aw} (h:st.lt n):st.DH.lt n:=by
 refine⟨λs hs=>?_,λl hl=>?_⟩
 ·obtain⟨s0,h0,rfl⟩:=aF.1 hs;exact G7 (λx=>Wy) (h.aq s0 h0)
 ·obtain⟨b,hb,he⟩:=aF.1 hl;cases b with
  |none=>grind
  |some k=>
   simp only[cj,ae]at he;subst he;have:=h.boxes k hb;cases k with
   |cells l=>intro x hx;obtain⟨y,hy,rfl⟩:=aF.1 hx;exact Wy (this y hy)
   |rows e w x=>exact this
theorem ahe {st:aw} (h:Wk T ρ st):Wk T ρ st.DH:=λe w x hx=>by
 obtain⟨b,hb,he⟩:=aF.1 hx;cases b with
 |none=>grind
 |some k=>
  simp only[cj,ae]at he;cases k with
  |cells l=>cases he
  |rows e' w' x'=>simp only[AK.bH]at he;cases he;exact h _ _ _ hb
theorem ahf {st:aw} {g':X->X} (hg:∀x∈st.all,x.fin.den f ρ=g' (x.den f ρ)) (hc:∀v,g' (.c v)= .c v):st.DH.den f ρ=(st.den f ρ).kA g':=by
 simp only[aw.DH,aw.den,St.kA,da,St.mk.injEq,lU];refine⟨cK λs hs=>NU λx hx=>hg x (bB.2 (.inl (ba.2 ⟨s,hs,hx⟩))),?_⟩;refine cK λb hb=>?_;cases b with
 |none=>rfl
 |some k=>
  simp only[Function.comp,cj,ae];cases k with
  |cells l=>simp only[AK.bH,AK.den,da];exact cK λx hx=>hg x (bB.2 (.inr (ba.2 ⟨_,hb,hx⟩)))
  |rows e w x=>simp only[AK.bH,AK.den,NV hc]
theorem ahg {st:aw} {g':X->X} (hg:∀x∈st.all,x.den f ρ=g' (x.den f ρ)) (hc:∀v,g' (.c v)= .c v):st.den f ρ=(st.den f ρ).kA g':=by
 simp only[aw.den,St.kA,da,St.mk.injEq,lU];refine⟨cK λs hs=>?_,cK λb hb=>?_⟩
 ·have:=NU (f:=f) (ρ:=ρ) (g:=id) (g':=g') (s:=s) λx hx=>hg x (bB.2 (.inl (ba.2 ⟨s,hs,hx⟩)));rw[ag2]at this;grind
 ·cases b with
  |none=>rfl
  |some k=>
   simp only[Function.comp,cj,ae];cases k with
   |cells l=>simp only[AK.den,da];exact cK λx hx=>hg x (bB.2 (.inr (ba.2 ⟨_,hb,hx⟩)))
   |rows e w x=>simp only[AK.den,NV hc]
theorem ahh {st:aw} {g:Nat} (h:st.iI g=none):(st.den f ρ).iI g=none:=by
 unfold aw.iI at h;unfold St.iI;rw[<-rJ];cases hs:st.get g with
 |one x=>rw[hs]at h;cases x<;>first|rfl|cases h
 |_=>rfl
theorem ahi {st:aw} {g:Nat} (h:st.sX g=true):(st.den f ρ).sX g=true:=by
 unfold aw.sX at h;unfold St.sX;rw[<-rJ];cases hs:st.get g with
 |one x=>rw[hs]at h;cases x<;>first|rfl|cases h
 |_=>rw[hs]at h;cases h
theorem DI {ask:Ask σ} (ha:ca ask) {ms:Ms T} {K:Path->σ->Option σ} {G:amX}:∀{l:anp} {p:Path} {s s':σ} {ρ:Kr},qz ask ms l p K s=some s'->Sat T ms.f ρ p->KP ms K p ρ G->mv T l (p.st.den ms.f ρ) G
 |[],p,s,s',ρ,h,hs,hK=>hK p _ _ ρ h hs (bh _) λ_ _=>rfl
 |c::r,p,s,s',ρ,h,hs,hK=>by
  simp only[qz]at h;unfold mv;split at h
  ·rename_i hb;rw[hb];split at h
   ·rename_i hd;split at h
    case isFalse=>cases h
    rename_i h0;dsimp only;rw[ahh hd];refine⟨ahi h0,?_⟩;have:=DI (G:=G) ha h (hs.put (some c.d) (v:= .one (.dn (.const 0))) (by simp[AS.lt,AX.lt,aa.lt,aa.const])) λq' t1 t2 lG g1 g2 g3 g4=>hK q' t1 t2 lG g1 g2 g3 g4;simp only[Path.put,k8,AS.den,AX.den,cg]at this;omega
   rename_i k0 tz;split at h
   case isFalse=>cases h
   rename_i al;split at h
   case h_2=>cases h
   rename_i x0 w0;obtain⟨x1,oW,qc⟩:=List.exists_of_findSome?_eq_some w0;have rU:x0<p.nv:=by
    have hl:=ahc hs.st x1 oW;cases x1 with
    |own e g m x=>
     simp only at qc;cases dS:Nat.beq e 1053&&Nat.beq g 6053 with
     |true=>rw[dS,mJ,ae]at qc;subst qc;exact hl
     |false=>grind
    |_=>cases qc
   obtain⟨d0,ahj⟩:=Dz (f:=ms.f) (ρ:=ρ) tz hs.st;obtain⟨w1,w2⟩:=nh ha h hs (show(AB.le (k0.sub (af 2 x0))).lt p.nv from cX ahj (aI rU (by omega)));have body:∀{q:Path} {g':X->X} {s1 s2:σ} {q':Path},Reach ms p ρ q ρ->qz ask ms r q' K s1=some s2->q'.nv=q.nv->Sat T ms.f ρ q'->q'.st.den ms.f ρ=(q.st.den ms.f ρ).kA g'->
    mv T r ((p.st.den ms.f ρ).kA g') G:=λ{q g' s1 s2 q'} hr hk ame cS he=>by
    rw[<-hr.st,<-he];exact DI ha hk cS λq2 t1 t2 lG g1 g2 g3 g4=>hK q2 t1 t2 lG g1 g2 (by have:=hr.nv;omega) λx hx=>g4 x (by have:=hr.nv;omega)
   dsimp only;rw[d0];refine⟨al,?_⟩;cases hd:(AB.le (k0.sub (af 2 x0))).den ms.f ρ with
   |true=>
    obtain⟨q,s1,s2,dG,hr⟩:=w1 hd;split at dG
    case h_2=>grind
    rename_i k hk;obtain⟨d1,_⟩:=Dz (f:=ms.f) (ρ:=ρ) hk hr.sat.st;have ek:k.den (mu ms.f ρ)=k0.den (mu ms.f ρ):=by rw[hr.st,d0]at d1;exact(lR d1).symm
    obtain⟨hn,s3,h3⟩:=mw ha dG;refine body hr h3 rfl (hr.sat.ke (ahd hr.sat.st) (ahe hr.sat.wk)) (ahf (λx hx=>?_) λv=>rfl);cases x with
    |own e g m x=>
     simp only[AX.fin,AX.den,X.fin];cases dS:Nat.beq e 1053&&Nat.beq g 6053 with
     |true=>have h1:=hr.sat.entails (hn (k.sub (af 2 x)) (ba.2 ⟨_,hx,by grind⟩));rw[br,au _ _ (by omega),ms.h2]at h1;grind
     |false=>
      grind
    |_=>rfl
   |false=>
    obtain⟨q,s1,s2,dG,hr⟩:=w2 hd;split at dG
    case h_2=>grind
    rename_i k hk;obtain⟨d1,_⟩:=Dz (f:=ms.f) (ρ:=ρ) hk hr.sat.st;have ek:k.den (mu ms.f ρ)=k0.den (mu ms.f ρ):=by rw[hr.st,d0]at d1;exact(lR d1).symm
    obtain⟨hn,s3,h3⟩:=mw ha dG;refine body hr h3 rfl hr.sat (ahg (λx hx=>?_) λv=>rfl);cases x with
    |own e g m x=>
     simp only[AX.den,X.fin];cases dS:Nat.beq e 1053&&Nat.beq g 6053 with
     |true=>have h1:=hr.sat.entails (hn (((af 2 x).sub k).bI (-1)) (ba.2 ⟨_,hx,by grind⟩));rw[cO,br,au _ _ (by omega),ms.h2]at h1;grind
     |false=>
      grind
    |_=>rfl
  rename_i hb;rw[hb];split at h
  case isFalse=>cases h
  rename_i b0;obtain⟨all,ar,q,s1,ai,h1,h2,h3,h4,h5,h6⟩:=ag5 ha h hs;refine⟨b0,all,?_⟩;rw[h1];dsimp only;rw[<-h6];exact DI ha h2 h3 λq' t1 t2 lG g1 g2 g3 g4=>hK q' t1 t2 lG g1 g2 (eR h4 g3) (h5.trans g4 h4)
end
end Go.Pv
namespace Go.Pv
open Go
noncomputable section
variable {T:ay} {σ:Type} {f:Nat->C->Int} {ρ:Kr} {n:Nat}
def gY (ρ:Kr) (nv:Nat) (x:Kr):Nat->C:=λv=>if v<nv then ρ v else x (v-nv)
theorem DJ (ρ:Kr) (nv:Nat) (x:Kr):cu nv ρ (gY ρ nv x):=λv hv=>by simp[gY,hv]
def AA (ask:Ask σ) (ms:Ms T) (na:Nat) (gs:amV) (q:Path) (k:σ->Option σ):List (List jg)->σ->Option σ
 |[],_=>none
 |m::r,s=>
  match nr ms na gs q.st m with
  |none=>AA ask ms na gs q k r s
  |some l=>(match r with
   |[]=>lF ask q.Γ l k s
   |r=>oe ask q.Γ l (λb=>match b with|true=>k|false=>AA ask ms na gs q k r) s)
theorem NX {ask:Ask σ} (ha:ca ask) {ms:Ms T} {na:Nat} {gs:amV} {q:Path} {k:σ->Option σ}:∀{l:List (List jg)} {s s':σ},AA ask ms na gs q k l s=some s'->
 ∃m∈l,∃a s1,nr ms na gs q.st m=some a/\(∀g∈a,Entails q.Γ g)/\k s1=some s'
 |[],s,s',h=>by simp[AA]at h
 |m::r,s,s',h=>by
  unfold AA at h;split at h
  ·obtain⟨m',h1,h2⟩:=NX ha h;grind
  ·rename_i a hr;split at h
   ·obtain⟨h1,s1,h2⟩:=mw ha h;grind
   ·obtain⟨b,s1,h1,h2⟩:=o7 ha h;cases b with
    |true=>grind
    |false=>obtain⟨m',h1,h2⟩:=NX ha h1;grind
def DK (ask:Ask σ) (ms:Ms T) (na:Nat) (hs:List HS) (hb:ans) (gl:anw) (gx:ani) (jM:List (List jg)) (q:Path) (k:Path->List AX->σ->Option σ) (s:σ):Option σ:=
 match qy q.st.gen hs q.st.aq,iy q.st.gen hb q.st.boxes,yc ms q gl gx with
 |some _,some _,some (q',gs)=>AA ask ms na gs q' (k q' gs) jM s
 |_,_,_=>none
structure HL (ms:Ms T) (na:Nat) (hs:List HS) (hb:ans) (nv:Nat) (gx:ani) (jM:List (List jg)) (ny:Kr):Prop where
 wk:Wk T ny (iQ hs hb nv)
 gh:∀g∈tC gx (nv+(fF hs+fG hb)),g.ok ms.f ny (nv+(fF hs+fG hb)+gx.length)
 mode:∃m∈jM,∀l,nr ms na (nu gx (nv+(fF hs+fG hb))) (iQ hs hb nv) m=some l->aJ (mu ms.f ny) l
theorem HM:∀{gx:ani} {g k:Nat} {y:AX},(nu gx g)[k]?=some y->∃e x i,gx[k]?=some (e,x,i)/\y= .sl e (g+k)
 |[],_,_,_,h=>by simp[nu]at h
 |(e,x,i)::r,g,0,y,h=>by simp only[nu,lV,ae]at h;simp_all
 |(e,x,i)::r,g,k+1,y,h=>by simp only[nu,oC]at h;obtain⟨e',x',i',h1,h2⟩:=HM h;grind
theorem Wz {bJ:Kr}:∀{gs:amV} {gx:ani} {vs:List (List (List C))} {k:Nat} {a:AX} {e x:Nat} {i:aa},NP f bJ gs gx vs->gs[k]?=some a->gx[k]?=some (e,x,i)->∃v,vs[k]?=some v/\rX f bJ a e v
 |[],gx,vs,k,a,e,x,i,h,ha,_=>by grind
 |a0::gs,[],vs,k,a,e,x,i,h,_,hx=>by grind
 |a0::gs,(e0,x0,i0)::gx,[],k,a,e,x,i,h,_,_=>h.elim
 |a0::gs,(e0,x0,i0)::gx,v::vs,0,a,e,x,i,h,ha,hx=>by simp only[lV,ae,bT]at ha hx;obtain⟨rfl,rfl,rfl⟩:=hx;subst ha;exact⟨v,rfl,h.1⟩
 |a0::gs,(e0,x0,i0)::gx,v::vs,k+1,a,e,x,i,h,ha,hx=>by simp only[oC]at ha hx⊢;exact Wz h.2 ha hx
theorem WA {ms:Ms T} {gen:amP} {q:Path} {aU:aw} {nv n:Nat} {ai ny:Kr} (hf:tB ms gen [] [] q.st aU ai ny) (hx:∀x,x<nv->ny x=ai x) (aj:aU.lt n):
 ∀{gl:anw} {gx:ani} {vs:List (List (List C))} {g0:Nat},pg aU nv gl=some gx->tD ms.f ai q gl gx vs->(∀(k:Nat) e x i v,gx[k]?=some (e,x,i)->vs[k]?=some v->ny (g0+k)= .sl e v)->nv<=n->g0+gx.length<=n->
 ∀g∈tC gx g0,g.ok ms.f ny n
 |[],gx,vs,g0,h,_,_,_,_=>by simp only[pg,ae]at h;subst h;exact λg hg=>by cases hg
 |(rr,ri,o)::gl,gx,vs,g0,h,hv,kC,hn,Nj=>by
  have key:∀e v i l (k:IntKind),mC [] aU ri=some (.int k i)->pg aU nv gl=some l->v<nv->gx=(e,v,i.bI o)::l->∀g∈tC gx g0,g.ok ms.f ny n:=by
   intro e v i l k h2 h3 h4 h5;subst h5;cases vs with
   |nil=>exact hv.elim
   |cons v0 vs=>
    obtain⟨⟨k',i',a5,a6,a7⟩,hv⟩:=hv;simp only[eH]at Nj;have ih:=WA hf hx aj (g0:=g0+1) h3 hv (λk e x i v h h'=>by
     rw[show g0+1+k=g0+(k+1)by omega];exact kC (k+1) e x i v (by grind) (by grind)) hn (by omega)
    intro g hg;simp only[tC,az]at hg;rcases hg with rfl|hg
    ·have fe:=hf ri _ _ a5 h2 (by simp[AX.den]);simp only[AX.den,ga]at fe;have e1:(i.bI o).den (mu ms.f ny)=(i'.bI o).den (mu ms.f ai):=by rw[cO,cO,fe.2]
     have hi:i.lt n:=Hz (gs:=[]) (λx hx=>by grind) aj (x:= .int k i) h2;refine⟨(show v<n by omega),gS _ hi,(show g0<n by omega),?_,?_⟩
     ·grind
     ·show ny g0= .sl e ((ah (ny v)).take ((i.bI o).den (mu ms.f ny)).toNat);rw[e1,hx v h4,<-a7];exact kC 0 e v (i.bI o) v0 rfl rfl
    grind
  simp only[pg]at h;grind
theorem NY {aU:aw} {nv:Nat}:∀{gl:anw} {gx:ani},pg aU nv gl=some gx->∀q∈gx,q.2.1<nv
 |[],gx,h=>by simp only[pg,ae]at h;grind
 |(rr,ri,o)::gl,gx,h=>by
  simp only[pg]at h;split at h
  ·rename_i h3;split at h
   ·simp only[ae]at h;subst h;intro q hq;rcases az.1 hq with rfl|hq
    ·omega
    ·exact NY h3 q hq
   grind
  grind
theorem NZ {ask:Ask σ} (ha:ca ask) {ms:Ms T} {na:Nat} {hs:List HS} {hb:ans} {gl:anw} {gx:ani} {jM:List (List jg)} {q:Path} {k:Path->List AX->σ->Option σ} {s s':σ}
 (h:DK ask ms na hs hb gl gx jM q k s=some s') {ai:Kr} (gf:Sat T ms.f ai q) {nv:Nat} (aL:cu nv ρ ai) (ahk:nv<=q.nv) (fg:na<=nv) (h1:∀h∈hs,h.lt nv) (h2:∀b,some b∈hb->b.lt nv)
 (hc:Az (iQ hs hb nv)=true) (qA:pg (iQ hs hb nv) nv gl=some gx):
 ∃x q1 gs s1 bJ,k q1 gs s1=some s'/\Reach ms q ai q1 bJ/\wZ (q.st.den ms.f ai) ((iQ hs hb nv).den ms.f (gY ρ nv x))/\HL ms na hs hb nv gx jM (gY ρ nv x)/\
  tB ms q.st.gen gs (nu gx (nv+(fF hs+fG hb))) q.st (iQ hs hb nv) bJ (gY ρ nv x):=by
 unfold DK at h;split at h
 ·rename_i l1 l2 q1 gs e1 e2 e3;obtain⟨m,hm,inv,s1,hr,hn,hk⟩:=NX ha h;have Hq:∀g∈gx,g.2.1<q.nv:=λg hg=>dO (NY qA g hg) ahk;obtain⟨bJ,vs,yf,Mg,rp,fe⟩:=Wl e3 gf Hq;let gv:Nat->C:=λj=>match gx[j]?,vs[j]?with|some (e,_,_),some v=> .sl e v|_,_=>default
  let x:Nat->C:=λj=>match(l1++l2)[j]?with|some (q,y)=>jf q (y.den ms.f bJ)|none=>gv (j-(l1++l2).length)
  have hlen:(l1++l2).length=fF hs+fG hb:=by rw[jS,Nv e1,Nx e2]
  have ahl:cu nv ρ bJ:=λv hv=>by rw[<-aL v hv];exact yf.aK v (by omega)
  have DL:iP ms.f bJ (gY ρ nv x) nv (l1++l2):=by intro j q' y hj;simp only[gY,x];rw[aQ (by omega),oG,hj]
  have b0:∀y,y<nv->gY ρ nv x y=bJ y:=λy hy=>by rw[gY,aC hy,ahl y hy]
  have Ft:∀(k:Nat) e x' i v,gx[k]?=some (e,x',i)->vs[k]?=some v->gY ρ nv x (nv+(fF hs+fG hb)+k)= .sl e v:=by intro k e x' i v h1 h2;simp only[gY,x];rw[aQ (by omega),show nv+(fF hs+fG hb)+k-nv=(l1++l2).length+k by omega,aW (by omega)];simp only[oG,gv,h1,h2]
  have aU:=yf.aK.st (f:=ms.f) gf.st;have f1:=VU (ms:=ms) (ρ:=bJ) b0 e1 DL.left h1;have bR:=DL.right;rw[Nv e1]at bR;have f2:=Ny (ms:=ms) (ρ:=bJ) b0 e2 bR h2;have dG:V6 q.st (iQ hs hb nv) bJ (gY ρ nv x):=λb k' aR=>NB b0 e2 bR h2 b k' aR;have kc:(iQ hs hb nv).aq.all (λs=>match s with| .bj _=>false|_=>true)=true:=by rw[Wh]at hc;simp only[HE,aB]at hc;have:=hc.2;rw[aX]at this⊢;intro s0 yg;have:=this s0 yg;cases s0<;>first|rfl|cases this
  have HN:tB ms q.st.gen gs (nu gx (nv+(fF hs+fG hb))) q.st (iQ hs hb nv) bJ (gY ρ nv x):=V7 f1 f2 kc dG λk a y N0 hy=>by obtain⟨e,x',i,cW,rfl⟩:=HM hy;obtain⟨v,hv,hR⟩:=Wz fe N0 cW;have:=hR.fit q.st.gen;simp only[AX.den,Ft k e x' i v cW hv,df];exact this
  have ahm:tB ms q.st.gen [] [] q.st (iQ hs hb nv) bJ (gY ρ nv x):=V7 f1 f2 kc dG λk a y N0 hy=>by grind
  have AD:=NI h1 h2;have ahn:tD ms.f bJ q gl gx vs:=by exact tD.up (n:=q.nv) gf.st rfl (λx hx=>yf.aK x hx) Hq rp
  refine⟨x,q1,gs,s1,bJ,hk,yf,?_,⟨λe w v hv=>?_,?_,m,hm,λl hl=>?_⟩,HN⟩
  ·rw[<-aU];exact⟨⟨f1,f2⟩,by rw[agR];omega,λ_=>rfl⟩
  ·obtain⟨b,aR⟩:=jP hv;obtain⟨k',g1,g2⟩:=dG b _ aR;cases k' with
   |cells l=>exact g2.elim
   |rows e' w' x'=>obtain⟨rfl,rfl,g3⟩:=g2;have:=gf.wk _ _ _ (aY g1);have cW:x'<q.nv:=gf.st.boxes _ (aY g1);rw[g3,yf.aK x' cW];omega
  ·exact WA ahm b0 (aw.bg (fL _ _) AD) qA ahn Ft (by omega) (bh _)
  ·rw[yf.st]at hr;exact V2 HN (λv hv=>by grind) hr hl λg hg=>hn g hg _ yf.sat.facts
 grind
def PX.kd:PX->Kd
 | .int k=> .int k
 | .bool=> .bool
 | .str=> .str
 | .sl e=> .sl e
 | .own e _=> .sl e
 | .ptr _ _=> .ptr
 | .fn _=> .ptr
 | .dn=> .int .i64
def vF:List HX->List Kd
 |[]=>[]
 | .fresh q::r=>q.kd::vF r
 |_::r=>vF r
def ou:List HS->List Kd
 |[]=>[]
 | .one (.fresh q)::r=>q.kd::ou r
 | .agg l::r=>vF l++ou r
 |_::r=>ou r
def HK.kinds:HK->List Kd
 | .cells l=>vF l
 | .rows e _=>[.sl e]
 | .bo _ _ _=>[]
def rY:List (Option HK)->List Kd
 |[]=>[]
 |some l::r=>l.kinds++rY r
 |none::r=>rY r
theorem DM:∀l:List HX,(vF l).length=hlen l
 |[]=>rfl
 | .fresh q::r=>by simp[vF,hlen,HX.len,DM r];omega
 | .aD::r=>by simp[vF,hlen,HX.len,DM r]
 | .bo x::r=>by simp[vF,hlen,HX.len,DM r]
theorem DN:∀l:List HS,(ou l).length=fF l
 |[]=>rfl
 | .one (.fresh q)::r=>by simp[ou,fF,HS.len,HX.len,DN r];omega
 | .one .aD::r=>by simp[ou,fF,HS.len,HX.len,DN r]
 | .one (.bo x)::r=>by simp[ou,fF,HS.len,HX.len,DN r]
 | .agg l::r=>by simp[ou,fF,HS.len,DM,DN r]
theorem HK.aho (k:HK):k.kinds.length=k.len:=by
 cases k with
 |cells l=>exact DM l
 |_=>rfl
theorem N1:∀l:ans,(rY l).length=fG l
 |[]=>rfl
 |some l::r=>by simp[rY,fG,HK.aho,N1 r]
 |none::r=>by simp[rY,fG,N1 r]
def ov (ms:Ms T) (p:Path) (hs:List HS) (hb:ans) (gx:ani) (ks:amQ) (mD:amY):Path:=
 ⟨iQ hs hb p.nv,mD++(HG ms gx (p.nv+(fF hs+fG hb))++(rP ms p.nv ks++p.Γ)),p.nv+(fF hs+fG hb)+gx.length,p.gH,tC gx (p.nv+(fF hs+fG hb))++p.gh,p.sn⟩
theorem WB (ms:Ms T):∀{gx:ani} {g:Nat},(∀q∈gx,q.2.1<n)->g+gx.length<=n->∀l∈HG ms gx g,l.lt n
 |[],_,_,_=>λl hl=>by cases hl
 |(e,x,i)::r,g,hx,hg=>by simp only[eH]at hg;have:=hx (e,x,i) (by simp);exact b8 (gJ (ms.ta e) rfl (by grind)) (b8 (gV ms _ (by omega)) (WB ms (λq hq=>hx q (by grind)) (by omega)))
theorem WC (ms:Ms T):∀{gx:ani} {g:Nat},(∀q∈tC gx g,q.ok ms.f ρ n)->aJ (mu ms.f ρ) (HG ms gx g)
 |[],_,_=>λl hl=>by cases hl
 |(e,x,i)::r,g,h=>by have h0:=h ⟨e,x,i,g⟩ (by simp[tC]);have hv:ρ g= .sl e ((ah (ρ x)).take (i.den (mu ms.f ρ)).toNat):=h0.val;refine aJ.append (gI (ms.ta e) rfl ⟨ρ x,0,(i.den (mu ms.f ρ)).toNat,by grind⟩) (aJ.append (gU ms _ _) (WC ms λq hq=>h q (by simp[tC,hq])))
theorem WD {ms:Ms T} {p:Path} {hs:List HS} {hb:ans} {gl:anw} {gx:ani} {na:Nat} {jM:List (List jg)} {m:List jg} {mD:amY} (h:Sat T ms.f ρ p) (fg:na<=p.nv) (h1:∀h∈hs,h.lt p.nv)
 (h2:∀b,some b∈hb->b.lt p.nv) (qA:pg (iQ hs hb p.nv) p.nv gl=some gx) (hinv:nr ms na (nu gx (p.nv+(fF hs+fG hb))) (iQ hs hb p.nv) m=some mD) {x:Kr} (aN:HL ms na hs hb p.nv gx jM (gY ρ p.nv x))
 (hh:aJ (mu ms.f (gY ρ p.nv x)) mD):Sat T ms.f (gY ρ p.nv x) (ov ms p hs hb gx (ou hs++rY hb) mD):=by
 have aL:=DJ ρ p.nv x;have AD:=NI h1 h2;have m6:∀y∈nu gx (p.nv+(fF hs+fG hb)),y.lt (p.nv+(fF hs+fG hb)+gx.length):=by
  intro y hy;obtain⟨k,hk⟩:=jP hy;obtain⟨e,x,i,hx,rfl⟩:=HM hk;show _<_;have:k<gx.length:=by
   rcases aT k gx.length with h'|h'
   ·omega
   ·grind
  omega
 refine⟨aw.bg (fL _ _) AD,λg hg=>?_,?_,aN.wk,λq hq=>(h.gH q hq).aK aL (by simp only[ov];omega),λq hq=>?_,λq hq=>(h.sn q hq).aK aL (by simp only[ov];omega)⟩
 ·simp only[ov,bB]at hg;rcases hg with hg|hg|hg|hg
  ·exact V1 m6 (aw.bg (fL _ _) AD) (by omega) hinv g hg
  ·exact WB ms (λq hq=>by have:=NY qA q hq;omega) (bh _) g hg
  ·refine C0 ms _ _ ?_ g hg;simp only[ov,jS,DN,N1];omega
  ·exact bg (by simp only[ov];omega) (h.lt g hg)
 ·refine aJ.append hh (aJ.append (WC ms aN.gh) (aJ.append (CZ ms _ _) λg hg=>?_));rw[aL.dE (h.lt g hg)];exact h.facts g hg
 ·rcases bB.1 hq with hq|hq
  ·exact aN.gh q hq
  ·exact(h.gh q hq).aK aL (by simp only[ov];omega)
def N2 (n:Nat) (gh:List Gh):List (Gh×Gh):=(gh.take n).flatMap λg=>((gh.drop n).filter λh=>Nat.beq h.e g.e&&Nat.beq h.x g.x&&decide (h.i=g.i)).map λh=>(g,h)
def N3 (ms:Ms T) (n:Nat) (p:Path):Path:=
 p.ext 0 ((N2 n p.gh).flatMap λq=>inst [q.2.g,q.1.g] (ms.rH q.1.e)++eZ (af 2 q.1.g) (af 2 q.2.g))
theorem ahp {n:Nat} {gh:List Gh} {q:Gh×Gh} (h:q∈N2 n gh):q.1∈gh/\q.2∈gh/\q.2.e=q.1.e/\q.2.x=q.1.x/\q.2.i=q.1.i:=by simp only[N2,ba,aF,ki,aB,eN]at h;obtain⟨g,hg,k,⟨hk,hc⟩,rfl⟩:=h;exact⟨nE hg,mK hk,bt hc.1.1,bt hc.1.2,hc.2⟩
theorem WE {ms:Ms T} {n:Nat} {p:Path} (hs:Sat T ms.f ρ p):Sat T ms.f ρ (N3 ms n p):=by
 refine hs.ext (λ_ _=>rfl) (λg hg=>?_) λg hg=>?_;all_goals
  obtain⟨q,hq,hg⟩:=ba.1 hg;obtain⟨h1,h2,h3,h4,h5⟩:=ahp hq;have o1:=hs.gh _ h1;have o2:=hs.gh _ h2
 ·have l1:q.1.g<p.nv:=o1.g;have l2:q.2.g<p.nv:=o2.g;exact b8 (gJ (ms.my q.1.e) rfl (by grind)) (gX (aI (by omega) (by omega)) (aI (by omega) (by omega))) g hg
 ·have v1:=o1.val;have v2:=o2.val;rw[h3,h4,h5]at v2;have ev:ρ q.1.g=ρ q.2.g:=by rw[v1,v2]
  refine aJ.append (gI (ms.my q.1.e) rfl ⟨ρ q.2.g,?_⟩) (gW ?_) g hg
  ·simp only[bu,mL];rw[ev,v2,df]
  ·rw[au _ _ (by omega),au _ _ (by omega),ev]
def vG (p:Path) (x:Operand) (b:Bool):Path:=
 match x with
 | .tmp t=>p.put (some t) (pd b)
 |_=>p
theorem HO {ms:Ms T} (p:Path) (x:Operand) (b:Bool):(vG p x b).st.den ms.f ρ=jc (p.st.den ms.f ρ) x b:=by
 cases x with
 |tmp t=>simp only[vG,jc,Path.put,k8];rfl
 |_=>rfl
theorem HP {ms:Ms T} {p:Path} (h:Sat T ms.f ρ p) (x:Operand) (b:Bool):Sat T ms.f ρ (vG p x b):=by
 cases x with
 |tmp t=>exact h.put (some t) (v:=pd b) trivial
 |_=>exact h
theorem vH (p:Path) (x:Operand) (b:Bool):(vG p x b).nv=p.nv:=by cases x<;>rfl
def ahq (ms:Ms T) (v:Nat) (st:aw):List aa:=(Aq ms st).filter λg=>g.l.any λa=>Nat.ble (64*v) a.1
inductive HQ where
 |fro(v:Nat)
 |none
def Path.due (ms:Ms T) (p:Path):HQ->Path
 | .fro v=>p.ext 0 (ahq ms v p.st)
 | .none=>p
theorem ahr {ms:Ms T} {p:Path} (hs:Sat T ms.f ρ p) (aU:cA T (p.st.den ms.f ρ)) (w:HQ):Reach ms p ρ (p.due ms w) ρ:=by
 cases w with
 |none=>exact .refl hs
 |fro v=>exact .more hs (λg hg=>VO ms hs.st g (ki.1 hg).1) λg hg=>VN ms aU g (ki.1 hg).1
structure XC (T:ay) (σ:Type) extends XCfg T σ where
 na:Nat
 loop:Nat->Option LA
 cl:List Cl
 draw:Nat->List Oper->Path->(Path->σ->Option σ)->σ->Option σ
def HT (c:XC T σ) (N:Int) (dr:jq):Prop:=∀(id:Nat) (ops:amW) (p:Path) (K:Path->σ->Option σ) (s s':σ) (ρ:Kr) (G:amX),c.draw id ops p K s=some s'->Sat T c.ms.f ρ p->qv c.toXCfg N ρ p->KP c.ms K p ρ G->dr id ops (p.st.den c.ms.f ρ) G
def vI:Code->Nat
 | .region id _ _=>id
 | .seq x y=>(match x with| .skip=>vI y|x=>vI x)
 | .cond _ x y=>(match x with| .skip=>vI y|x=>vI x)
 | .block _ x=>vI x
 | .loop x=>vI x
 |_=>1000000
def DO (f:List jg->σ->Option σ):List (List jg)->σ->Option σ
 |[],s=>some s
 |m::r,s=>match f m s with|some s'=>DO f r s'|none=>none
theorem N4 {f:List jg->σ->Option σ}:∀{l:List (List jg)} {s s':σ},DO f l s=some s'->∀m∈l,∃s1 s2,f m s1=some s2
 |[],_,_,_=>λm hm=>by grind
 |m::r,s,s',h=>by
  simp only[DO]at h;split at h
  ·rename_i s1 h1;intro m' hm;rcases az.1 hm with rfl|hm
   ·grind
   ·exact N4 h m' hm
  grind
def WG (ask:Ask σ) (ms:Ms T) (na:Nat) (p:Path):List (List jg)->σ->List (List jg)×σ
 |[],s=>([],s)
 |m::r,s=>
  match r,m with
  |_::_,g::_=>
   match resolve ms na [] p.st g with
   |some l=>(match ask true p.Γ l s with|(true,s)=>(m::r,s)|(false,s)=>WG ask ms na p r s)
   |none=>(m::r,s)
  |_,_=>(m::r,s)
def WH (ask:Ask σ) (ms:Ms T) (na:Nat) (p:Path) (la:LA) (s:σ):LA×σ:=
 match WG ask ms na p la.jM s with
 |(l,s)=>({la with jM:=l},s)
def ahs:Code->Option Operand
 | .cond b _ _=>some b
 | .seq (.cond b _ _) _=>some b
 |_=>none
def N5 (c:XC T σ) (y:Code) (q:Path) (K:Path->σ->Option σ) (s:σ):Option σ:=
 match ahs y with
 |none=>K q s
 |some b=>
  match cY q.st b with
  | .one (.bool t)=>ig c.ask q t (λq s=>K (vG q b true) s) (λq s=>K (vG (HH c.ms q t false) b false) s) s
  |_=>K q s
theorem aht {st:St} {t:Nat}:st.put (some t) (st.get t)=st:=by
 simp only[St.put,St.get,aZ];cases st with
 |mk aq boxes gen=>
  simp only[St.mk.injEq,lU];apply oD;grind
theorem WI {st:St} {x:Operand} {b:Bool} (h:ev st x=eC b):jc st x b=st:=by
 cases x with
 |tmp t=>simp only[ev]at h;simp only[jc];rw[<-h];exact aht
 |_=>rfl
theorem ahu {c:XC T σ} (ha:ca c.ask) {y:Code} {q:Path} {K:Path->σ->Option σ} {s s':σ} {ρ:Kr} (h:N5 c y q K s=some s') (hs:Sat T c.ms.f ρ q):
 ∃q' s1 s2,K q' s1=some s2/\Sat T c.ms.f ρ q'/\q.nv<=q'.nv/\q'.st.den c.ms.f ρ=q.st.den c.ms.f ρ:=by
 unfold N5 at h;split at h
 ·grind
 ·rename_i b _;split at h
  ·rename_i t ht;have hv:=dZ (f:=c.ms.f) (ρ:=ρ) q.st b;have hl:=fS hs.st b;rw[ht]at hv hl;obtain⟨w1,w2⟩:=nh ha h hs hl;cases e:t.den c.ms.f ρ with
   |true=>obtain⟨q1,s1,s2,hk,hr⟩:=w1 e;refine⟨_,s1,s2,hk,HP hr.sat b true,by rw[vH];exact hr.nv,?_⟩;rw[HO,hr.st];exact WI (by rw[<-hv];simp only[AS.den,AX.den,e];rfl)
   |false=>obtain⟨q1,s1,s2,hk,hr⟩:=w2 e;have he:=Wm (c:=t) (t:=false) hr.sat (by omega);have hr:=hr.trans he;refine⟨_,s1,s2,hk,HP hr.sat b false,by rw[vH];exact hr.nv,?_⟩;rw[HO,hr.st];exact WI (by rw[<-hv];simp only[AS.den,AX.den,e];rfl)
  grind
def xC (c:XC T σ):Code->HQ->Path->(Px->Path->σ->Option σ)->σ->Option σ
 | .skip,_,p,K,s=>K .normal p s
 | .region id ops d,w,p,K,s=>qz c.ask c.ms (c.cl.filter λx=>x.af==id+500000) (p.due c.ms w) (λp=>match d with
  |true=>c.draw id ops.toList p (λq=>qz c.ask c.ms (c.cl.filter λx=>x.af==id) q (K .normal))
  |false=>Hx c.toXCfg ops.toList ops.toList .none p (λq=>qz c.ask c.ms (c.cl.filter λx=>x.af==id) q (K .normal))) s
 | .seq x y,w,p,K,s=>
  match c.loop (vI y+1000000)with
  |none=>xC c x w p (λe q s=>match e with| .normal=>xC c y .none q K s|e=>K e q s) s
  |some la=>
   match pg (iQ (fH la p.st.gen 0 p.st.aq) (e7 la p.st.gen 0 p.st.boxes) p.nv) p.nv la.gh with
   |none=>none
   |some gx=>
    match Az (iQ (fH la p.st.gen 0 p.st.aq) (e7 la p.st.gen 0 p.st.boxes) p.nv),
     xC c x w p (λe q s=>match e with
      | .normal=>N5 c y q (λq=>DK c.ask c.ms c.na (fH la p.st.gen 0 p.st.aq) (e7 la p.st.gen 0 p.st.boxes) la.gh gx la.jM q (λ_ _ s=>some s)) s
      |e=>K e q s) s with
    |true,some s=>
     DO (λm s=>
      match nr c.ms c.na (nu gx (p.nv+(fF (fH la p.st.gen 0 p.st.aq)+fG (e7 la p.st.gen 0 p.st.boxes)))) (iQ (fH la p.st.gen 0 p.st.aq) (e7 la p.st.gen 0 p.st.boxes) p.nv) m with
      |none=>none
      |some mD=>xC c y (.fro p.nv) (N3 c.ms gx.length (ov c.ms p (fH la p.st.gen 0 p.st.aq) (e7 la p.st.gen 0 p.st.boxes) gx (ou (fH la p.st.gen 0 p.st.aq)++rY (e7 la p.st.gen 0 p.st.boxes)) mD)) K s) la.jM s
    |_,_=>none
 | .cond b x y,w,p,K,s=>
  match cY p.st b with
  | .one (.bool t)=>ig c.ask p t (λq s=>xC c x w (vG q b true) K s) (λq s=>xC c y w (vG (HH c.ms q t false) b false) K s) s
  |_=>none
 | .block id x,w,p,K,s=>xC c x w p (λe q s=>match e with| .exit i=>(if i=id then K .normal q s else K (.exit i) q s)|e=>K e q s) s
 | .loop x,_,p,K,s=>
  match c.loop (vI x)with
  |none=>none
  |some N6=>
   match WH c.ask c.ms c.na p N6 s with
   |(la,s)=>
    match pg (iQ (fH la p.st.gen 0 p.st.aq) (e7 la p.st.gen 0 p.st.boxes) p.nv) p.nv la.gh with
    |none=>none
    |some gx=>
     match Az (iQ (fH la p.st.gen 0 p.st.aq) (e7 la p.st.gen 0 p.st.boxes) p.nv),
      resolve c.ms c.na (nu gx (p.nv+(fF (fH la p.st.gen 0 p.st.aq)+fG (e7 la p.st.gen 0 p.st.boxes)))) (iQ (fH la p.st.gen 0 p.st.aq) (e7 la p.st.gen 0 p.st.boxes) p.nv) la.mu with
     |true,some tE=>
      DK c.ask c.ms c.na (fH la p.st.gen 0 p.st.aq) (e7 la p.st.gen 0 p.st.boxes) la.gh gx la.jM p (λ_ _=>
       DO (λm s=>
        match nr c.ms c.na (nu gx (p.nv+(fF (fH la p.st.gen 0 p.st.aq)+fG (e7 la p.st.gen 0 p.st.boxes)))) (iQ (fH la p.st.gen 0 p.st.aq) (e7 la p.st.gen 0 p.st.boxes) p.nv) m with
        |none=>none
        |some mD=>
         xC c x (.fro p.nv) (N3 c.ms gx.length (ov c.ms p (fH la p.st.gen 0 p.st.aq) (e7 la p.st.gen 0 p.st.boxes) gx (ou (fH la p.st.gen 0 p.st.aq)++rY (e7 la p.st.gen 0 p.st.boxes)) mD))
          (λe q s=>match e with
           | .normal=>ye c.ask c.ms la.gh gx q (λq=>DK c.ask c.ms c.na (fH la p.st.gen 0 p.st.aq) (e7 la p.st.gen 0 p.st.boxes) la.gh gx la.jM q (λq1 gs s=>
            match resolve c.ms c.na gs q.st la.mu with
            |some WJ=>gT c.ask q1.Γ ((tE.sub WJ).bI (-1)) (gT c.ask q1.Γ (tE.bI (-1)) some) s
            |none=>none)) s
           |e=>K e q s) s) la.jM) s
     |_,_=>none
 | .exit id,_,p,K,s=>K (.exit id) p s
 | .ret,_,p,K,s=>K .ret p s
 |_,_,_,_,_=>none
def KC (ms:Ms T) (K:Px->Path->σ->Option σ) (p:Path) (ρ:Kr) (Q:anc):Prop:=
 ∀e q s1 s2 ai,K e q s1=some s2->Sat T ms.f ai q->p.nv<=q.nv->cu p.nv ρ ai->Q e (q.st.den ms.f ai)
theorem KC.from {ms:Ms T} {K:Px->Path->σ->Option σ} {p q:Path} {ai:Kr} {Q:anc} (hK:KC ms K p ρ Q) (hn:p.nv<=q.nv) (ha:cu p.nv ρ ai):KC ms K q ai Q:=
 λe q' s1 s2 lG h1 h2 h3 h4=>hK e q' s1 s2 lG h1 h2 (eR hn h3) (ha.trans h4 hn)
theorem tF {c:XC T σ} {N:Int} {dr:jq} (hc:rT c.toXCfg) (hd:HT c N dr):∀(code:Code) {w:HQ} {p:Path} {K:Px->Path->σ->Option σ} {s s':σ} {ρ:Kr} {Q:anc},xC c code w p K s=some s'->Sat T c.ms.f ρ p->qv c.toXCfg N ρ p->c.na<=p.nv->KC c.ms K p ρ Q->
 cF (c.cfg N) dr c.cl code (p.st.den c.ms.f ρ) Q
 | .skip,w,p,K,s,s',ρ,Q,h,hs,dL,fg,hK=>hK _ _ _ _ _ h hs (bh _) λ_ _=>rfl
 | .region id ops d,w,p,K,s,s',ρ,Q,h,hs,dL,fg,hK=>by
  simp only[xC]at h;simp only[cF];intro aU;have hr:=ahr hs aU w;rw[<-hr.st];refine DI hc.ask h hr.sat λq s1 s2 bJ g1 g2 g3 g4=>?_;have n1:p.nv<=q.nv:=eR hr.nv g3;have a1:cu p.nv ρ bJ:=hr.aK.trans g4 hr.nv;have fin:KP c.ms (λq=>qz c.ask c.ms (c.cl.filter λx=>x.af==id) q (K .normal)) q bJ (λst=>mv (c.cfg N).T (c.cl.filter λx=>x.af==id) st (Q .normal)):=λq' t1 t2 cQ k1 k2 k3 k4=>
   DI hc.ask k1 k2 λamf u1 u2 afu l1 l2 l3 l4=>hK _ _ _ _ _ l1 l2 (eR n1 (eR k3 l3)) (a1.trans (k4.trans l4 k3) n1)
  cases d with
  |true=>simpa using hd _ _ _ _ _ _ _ _ g1 g2 (dL.from n1 a1) fin
  |false=>simpa using VQ hc g1 g2 (dL.from n1 a1) fin
 | .seq x y,w,p,K,s,s',ρ,Q,h,hs,dL,fg,hK=>by
  simp only[xC]at h;simp only[cF];split at h
  ·left;refine tF hc hd x h hs dL fg λe q s1 s2 ai h1 h2 h3 h4=>?_;cases e with
   |normal=>exact tF hc hd y h1 h2 (dL.from h3 h4) (eR fg h3) (hK.from h3 h4)
   |exit i=>exact hK _ _ _ _ _ h1 h2 h3 h4
   |ret=>exact hK _ _ _ _ _ h1 h2 h3 h4
  ·right;rename_i la _;split at h
   ·cases h
   ·rename_i gx qA;split at h
    ·rename_i s0 e1 e4;have l1:=ND (la:=la) (gen:=p.st.gen) (i:=0) hs.st.aq;have l2:=HD (la:=la) (gen:=p.st.gen) (i:=0) hs.st.boxes;refine⟨⟨Nat->C,λx=>(iQ (fH la p.st.gen 0 p.st.aq) (e7 la p.st.gen 0 p.st.boxes) p.nv).den c.ms.f (gY ρ p.nv x),λx=>HL c.ms c.na (fH la p.st.gen 0 p.st.aq) (e7 la p.st.gen 0 p.st.boxes) p.nv gx la.jM (gY ρ p.nv x),λ_=>0⟩,?_,λx1 oW=>?_⟩
     ·refine tF hc hd x e4 hs dL fg λe q s1 s2 ai h1 h2 h3 h4=>?_;cases e with
      |normal=>obtain⟨q2,t1,t2,k1,k2,k3,k4⟩:=ahu hc.ask h1 h2;obtain⟨x2,q1,gs,u1,cQ,_,_,hle,aN,_⟩:=NZ hc.ask k1 k2 h4 (eR h3 k3) fg l1 l2 e1 qA;grind
      |exit i=>exact hK _ _ _ _ _ h1 h2 h3 h4
      |ret=>exact hK _ _ _ _ _ h1 h2 h3 h4
     ·obtain⟨m,hm,N7⟩:=oW.mode;obtain⟨t1,t2,hf⟩:=N4 h m hm;split at hf
      ·grind
      ·rename_i mD hinv;have gf:=WE (n:=gx.length) (WD hs fg l1 l2 qA hinv oW (N7 mD hinv));have vJ:p.nv<=(ov c.ms p (fH la p.st.gen 0 p.st.aq) (e7 la p.st.gen 0 p.st.boxes) gx (ou (fH la p.st.gen 0 p.st.aq)++rY (e7 la p.st.gen 0 p.st.boxes)) mD).nv:=by simp only[ov];omega
       exact tF hc hd y hf gf (dL.from vJ (DJ _ _ _)) (eR fg vJ) (hK.from vJ (DJ _ _ _))
    grind
 | .cond b x y,w,p,K,s,s',ρ,Q,h,hs,dL,fg,hK=>by
  simp only[xC]at h;simp only[cF];split at h
  ·rename_i t ht;have hv:=dZ (f:=c.ms.f) (ρ:=ρ) p.st b;have hl:=fS hs.st b;rw[ht]at hv hl;obtain⟨w1,w2⟩:=nh hc.ask h hs hl;rw[<-hv];refine iu (λe=>?_) λe=>?_
   ·obtain⟨q,s1,s2,hk,hr⟩:=w1 e;have:=tF hc hd x hk (HP hr.sat b true) (dL.from (by rw[vH];exact hr.nv) hr.aK) (by rw[vH];exact eR fg hr.nv) (hK.from (by rw[vH];exact hr.nv) hr.aK);rw[HO,hr.st]at this;omega
   ·obtain⟨q,s1,s2,hk,hr⟩:=w2 e;have he:=Wm (c:=t) (t:=false) hr.sat (by omega);have hr:=hr.trans he;have:=tF hc hd y hk (HP hr.sat b false) (dL.from (by rw[vH];exact hr.nv) hr.aK) (by rw[vH];exact eR fg hr.nv) (hK.from (by rw[vH];exact hr.nv) hr.aK);rw[HO,hr.st]at this;omega
  grind
 | .block id x,w,p,K,s,s',ρ,Q,h,hs,dL,fg,hK=>by
  simp only[xC]at h;simp only[cF];refine tF hc hd x h hs dL fg λe q s1 s2 ai h1 h2 h3 h4=>?_;cases e with
  |normal=>exact hK _ _ _ _ _ h1 h2 h3 h4
  |exit i=>
   simp only at h1;show if i=id then Q .normal _ else Q (.exit i) _;split at h1
   ·rename_i hi;rw[aC hi];exact hK _ _ _ _ _ h1 h2 h3 h4
   ·rename_i hi;rw[aQ hi];exact hK _ _ _ _ _ h1 h2 h3 h4
  |ret=>exact hK _ _ _ _ _ h1 h2 h3 h4
 | .loop x,w,p,K,s,s',ρ,Q,h,hs,dL,fg,hK=>by
  simp only[xC]at h;simp only[cF];split at h
  ·cases h
  ·rename_i N6 _;generalize WH c.ask c.ms c.na p N6 s=q0 at h;obtain⟨la,s⟩:=q0;simp only at h;split at h
   ·cases h
   ·rename_i gx qA;split at h
    ·rename_i tE e1 e4;have l1:=ND (la:=la) (gen:=p.st.gen) (i:=0) hs.st.aq;have l2:=HD (la:=la) (gen:=p.st.gen) (i:=0) hs.st.boxes;have AD:=NI l1 l2;obtain⟨x0,p1,wC,s1,bJ,h,_,ahv,ahw,_⟩:=NZ hc.ask h hs (nv:=p.nv) (ρ:=ρ) (λ_ _=>rfl) (bh _) fg l1 l2 e1 qA;refine⟨⟨Nat->C,λx=>(iQ (fH la p.st.gen 0 p.st.aq) (e7 la p.st.gen 0 p.st.boxes) p.nv).den c.ms.f (gY ρ p.nv x),λx=>HL c.ms c.na (fH la p.st.gen 0 p.st.aq) (e7 la p.st.gen 0 p.st.boxes) p.nv gx la.jM (gY ρ p.nv x),λx=>(tE.den (mu c.ms.f (gY ρ p.nv x))).toNat⟩,⟨x0,ahw,ahv⟩,λx1 oW=>?_⟩;obtain⟨m,hm,N7⟩:=oW.mode;obtain⟨t1,t2,hf⟩:=N4 h m hm;split at hf
     ·grind
     ·rename_i mD hinv;have gf:=WE (n:=gx.length) (WD hs fg l1 l2 qA hinv oW (N7 mD hinv));have vJ:p.nv<=(ov c.ms p (fH la p.st.gen 0 p.st.aq) (e7 la p.st.gen 0 p.st.boxes) gx (ou (fH la p.st.gen 0 p.st.aq)++rY (e7 la p.st.gen 0 p.st.boxes)) mD).nv:=by simp only[ov];omega
      refine tF hc hd x hf gf (dL.from vJ (DJ _ _ _)) (eR fg vJ) λe q t1 t2 ai h1 h2 h3 h4=>?_;have AE:cu p.nv ρ ai:=(DJ ρ p.nv x1).trans h4 vJ;have iq:p.nv<=q.nv:=eR vJ h3;cases e with
      |normal=>
       simp only at h1;obtain⟨q',v1,lG,h1,nx⟩:=HJ hc.ask h1 h2;have ahx:q.st.den c.ms.f ai=q'.st.den c.ms.f lG:=by rw[nx.st];exact(nx.aK.st h2.st).symm
       rw[ahx];replace h2:=nx.sat;replace AE:cu p.nv ρ lG:=AE.trans nx.aK iq;replace iq:p.nv<=q'.nv:=eR iq nx.nv;replace h4:=h4.trans nx.aK h3;replace h3:=eR h3 nx.nv;obtain⟨x2,q1,gs,u1,cQ,hk,jI,hle,aN,HN⟩:=NZ hc.ask h1 h2 AE iq fg l1 l2 e1 qA;split at hk
       ·rename_i WJ rF;obtain⟨n1,u2,hk⟩:=ix hc.ask hk;obtain⟨n2,u3,hk⟩:=ix hc.ask hk;have n1:=jI.sat.entails n1;have n2:=jI.sat.entails n2;have m6:∀y∈nu gx (p.nv+(fF (fH la p.st.gen 0 p.st.aq)+fG (e7 la p.st.gen 0 p.st.boxes))),y.lt (p.nv+(fF (fH la p.st.gen 0 p.st.aq)+fG (e7 la p.st.gen 0 p.st.boxes))+gx.length):=by
         intro y hy;obtain⟨k,hk⟩:=jP hy;obtain⟨e,x,i,hx,rfl⟩:=HM hk;show _<_;have:k<gx.length:=by
          rcases aT k gx.length with h'|h'
          ·omega
          ·grind
         omega
        have WK:tE.lt (p.nv+(fF (fH la p.st.gen 0 p.st.aq)+fG (e7 la p.st.gen 0 p.st.boxes))+gx.length):=V0 m6 (aw.bg (fL _ _) AD) (by omega) e4;have WL:tE.den (mu c.ms.f cQ)=tE.den (mu c.ms.f (gY ρ p.nv x1)):=by rw[jI.aK.dE (bg h3 WK),h4.dE WK]
        rw[cO,br,WL]at n1;rw[cO,WL]at n2;have hq:=VY HN (λv hv=>by rw[gY,aC (by omega),jI.aK v (by omega),AE v (by omega)]) rF e4;grind
       grind
      |exit i=>exact hK _ _ _ _ _ h1 h2 iq AE
      |ret=>exact hK _ _ _ _ _ h1 h2 iq AE
    grind
 | .exit id,_,p,K,s,s',ρ,Q,h,hs,_,_,hK=>hK _ _ _ _ _ h hs (bh _) λ_ _=>rfl
 | .ret,_,p,K,s,s',ρ,Q,h,hs,_,_,hK=>hK _ _ _ _ _ h hs (bh _) λ_ _=>rfl
 | .rangeFunc _ _ _ _,_,_,_,_,_,_,_,h,_,_,_,_=>by simp[xC]at h
 | .scope _,_,_,_,_,_,_,_,h,_,_,_,_=>by simp[xC]at h
 | .label _,_,_,_,_,_,_,_,h,_,_,_,_=>by simp[xC]at h
 | .goto _,_,_,_,_,_,_,_,h,_,_,_,_=>by simp[xC]at h
 | .refuse _,_,_,_,_,_,_,_,h,_,_,_,_=>by simp[xC]at h
end
end Go.Pv
namespace Go.Pv
open Go
noncomputable section
variable {T:ay} {σ:Type} {f:Nat->C->Int} {ρ:Kr} {n:Nat}
def gi (c:bX):jq:=λ_ L st K=>mh c L.toArray K L.length (Array.replicate L.length false) st
theorem qB {c:bX} (hc:dT c) (hm:c.P.follows .mixedOrders=true):CF c (gi c):=by intro id ops cx K st a w Q h hk hq;refine acf hc hm h ?_ hq;unfold gi at hk;simpa using hk
abbrev kD:=List (Nat×List Nat)
abbrev AF:=Nat->Option (bk×Bool)
def kE (ann:amU) (w:AF) (st:aw) (q:kD×kD):Tb:=
 {dX:=λt=>match pf q.1 t with|some l=>l|none=>(st.get t).xs.flatMap AX.ids
  cont:=λb=>match pf q.2 b with|some l=>l|none=>(match je st.boxes b with|some (some k)=>k.eX.flatMap AX.ids|_=>[])
  kp:=λf=>match w f with|some (a,_)=>a.kp|none=>false
  pl:=λf=>match w f with|some (a,_)=>a.pl|none=>false
  np:=p9 ann}
def tG:List Nat->List Nat
 |[]=>[]
 |x::r=>if r.any (Nat.beq x)then tG r else x::tG r
def DP (ann:amU) (w:AF) (st:aw) (q:kD×kD) (l:amG):List Nat->kD×kD
 |[]=>q
 |b::r=>DP ann w st (q.1,(b,tG (l++(kE ann w st q).cont b))::q.2) l r
def ahy (ann:amU) (w:AF) (st:aw) (q:kD×kD) (o:Oper):kD×kD:=
 match o.op with
 | .store _ x y=>(match(tmpsOf y).flatMap (kE ann w st q).dX with|[]=>q|l=>DP ann w st q (tG l) (tG ((tmpsOf x).flatMap (kE ann w st q).dX)))
 |_=>
  let A:=tG ((kE ann w st q).iw (aV o.op))
  match o.dst with
  |some d=>
   if ia o.op then(match(kE ann w st q).vt o,(kE ann w st q).dX d with|[],[]=>q|V,P=>((d,tG (V++P))::q.1,q.2))
   else if(kE ann w st q).kX o then DP ann w st q A A
   else
    let q:=((d,tG (d::A++(kE ann w st q).dX d))::q.1,(d,tG (d::A++(kE ann w st q).cont d))::q.2)
    if dp o.op then q else DP ann w st q (d::A) A
  |none=>if dp o.op then q else DP ann w st q A A
def DQ (ann:amU) (w:AF) (st:aw) (L:amW):List Nat->kD×kD->kD×kD
 |[],q=>q
 |i::r,q=>DQ ann w st L r (match L[i]?with|some o=>ahy ann w st q o|none=>q)
def N8 (a b:amG):Bool:=a.all b.contains
def N9 (ann:amU) (w:AF) (st:aw) (q:kD×kD):Bool:=
 q.1.all (λe=>N8 ((st.get e.1).xs.flatMap AX.ids) ((kE ann w st q).dX e.1))&&
 q.2.all (λe=>match je st.boxes e.1 with|some (some k)=>N8 (k.eX.flatMap AX.ids) ((kE ann w st q).cont e.1)|_=>true)
theorem Oa {α:Type}:∀{l:List (Nat×α)} {i:Nat} {x:α},pf l i=some x->∃y,(i,y)∈l
 |[],_,_,h=>by cases h
 |(k,y)::l,i,x,h=>by
  rw[agF]at h;split at h
  ·rename_i e;have:=bt e;simp only at this;subst this;exact⟨y,kj⟩
  ·obtain⟨y',h'⟩:=Oa h;exact⟨y',lX _ h'⟩
theorem WM {a b:amG} (h:N8 a b=true) {x:Nat} (hx:x∈a):x∈b:=by simpa using aX.1 h x hx
theorem WN {ann:amU} {w:AF} {st:aw} {q:kD×kD} (h:N9 ann w st q=true):(kE ann w st q).In (st.den f ρ):=by
 simp only[N9,aB,gF]at h;refine⟨λt y b hy hb=>?_,λb l z id hb hz aE=>?_⟩
 ·rw[<-rJ,tn]at hy;obtain⟨y0,iK,rfl⟩:=aF.1 hy;rw[GS]at hb;have hm:b∈(st.get t).xs.flatMap AX.ids:=ba.2 ⟨y0,iK,hb⟩;cases hl:pf q.1 t with
  |none=>simp only[kE,hl,gF];exact hm
  |some x=>obtain⟨x',cW⟩:=Oa hl;exact WM (aX.1 h.1 _ cW) hm
 ·have aR:(st.den f ρ).boxes[b]?=(st.boxes[b]?).map (Option.map (AK.den f ρ)):=by simp[aw.den]
  rw[aR]at hb;cases hk:st.boxes[b]?with
  |none=>rw[hk]at hb;cases hb
  |some o=>
   cases o with
   |none=>rw[hk]at hb;cases hb
   |some k=>
    rw[hk]at hb;simp only[cj,ae]at hb;subst hb;have hm:id∈k.eX.flatMap AX.ids:=by
     cases k with
     |cells l=>obtain⟨z0,wO,rfl⟩:=aF.1 hz;rw[GS]at aE;exact ba.2 ⟨z0,wO,aE⟩
     |rows e w x=>rw[FD hz]at aE;cases aE
    cases hl:pf q.2 b with
    |none=>simp only[kE,hl,hk,gF];exact hm
    |some x=>obtain⟨x',cW⟩:=Oa hl;have:=aX.1 h.2 _ cW;simp only[hk]at this;exact WM this hm
def HU (ann:amU) (ops:ang) (L:amW):Nat->Array Bool->List Nat
 |0,_=>[]
 |n+1,bK=>
  match Region.ready .any ops bK with
  |[]=>[]
  |i::r=>
   match(i::r).find? (λk=>match L[k]?with|some o=>dp o.op&&!jb ann o.dst|none=>false)with
   |some k=>k::HU ann ops L n (bK.setIfInBounds k true)
   |none=>i::HU ann ops L n (bK.setIfInBounds i true)
def HV (c:XCfg T σ) (L:amW):List Nat->yb->Path->(Path->σ->Option σ)->σ->Option σ
 |[],w,p,K,s=>K (p.jc c.ms w) s
 |i::r,w,p,K,s=>match je L i with|some o=>Hv c L o (p.jc c.ms w) (λq=>HV c L r (VP o) q K) s|none=>none
theorem WO {c:XCfg T σ} {N:Int} (hc:rT c) {L:amW} {K:Path->σ->Option σ} {G:amX}:∀{r:amG} {w:yb} {p:Path} {s s':σ} {ρ:Kr},HV c L r w p K s=some s'->Sat T c.ms.f ρ p->qv c N ρ p->KP c.ms K p ρ G->
 va (c.cfg N) L r G (p.st.den c.ms.f ρ)
 |[],w,p,s,s',ρ,h,hs,dL,hK=>λaU=>by have hr:=Hw hs aU w;have:=hK _ s s' ρ h hr.sat hr.nv hr.aK;rw[hr.st]at this;exact this
 |i::r,w,p,s,s',ρ,h,hs,dL,hK=>λaU=>by
  have hr:=Hw hs aU w;simp only[HV,gF]at h;split at h
  ·rename_i o ho;rw[ho];have:=VJ hc h hr.sat (by rw[hr.st];exact aU) (dL.from hr.nv hr.aK) (G:=λar=>va (c.cfg N) L r G ar) λq s1 s2 ai h1 h2 h3 h4=>
    WO hc h1 h2 (dL.from (eR hr.nv h3) (hr.aK.trans h4 hr.nv)) (hK.from (eR hr.nv h3) (hr.aK.trans h4 hr.nv))
   rw[hr.st]at this;exact this
  ·cases h
def Ob (c:XCfg T σ) (L:amW) (p:Path) (K:Path->σ->Option σ) (s:σ):Option σ:=
 let ops:=L.toArray;let ord:=HU c.ann ops L L.length (Array.replicate L.length false);let q:=DQ c.ann c.specs p.st L ord (DQ c.ann c.specs p.st L ord ([],[]))
 match Nat.beq ord.length L.length&&(L.all (kE c.ann c.specs p.st q).closed&&(N9 c.ann c.specs p.st q&&(Ld (oZ c.ann (kE c.ann c.specs p.st q) L L 0) (λS=>Li S ord 0)||sW c.ann (kE c.ann c.specs p.st q) ops L ord (Array.replicate L.length false))))with
 |true=>HV c L ord .none p K s
 |false=>none
theorem ahz {c:XCfg T σ} {N:Int} (hc:rT c) (rZ:dT (c.cfg N)) {L:amW} {p:Path} {K:Path->σ->Option σ} {s s':σ} {G:amX} (h:Ob c L p K s=some s') (hs:Sat T c.ms.f ρ p) (dL:qv c N ρ p) (hK:KP c.ms K p ρ G):
 gi (c.cfg N) 0 L (p.st.den c.ms.f ρ) G:=by
 unfold Ob at h;dsimp only at h;split at h
 ·rename_i mV;simp only[aB]at mV;obtain⟨h1,h2,h3,h4⟩:=mV;have hq:=WO (N:=N) hc h hs dL hK;have hl:=bt h1;have gu:∀q,qj (c.cfg N) (kE c.ann c.specs p.st q):=λq=>by
   have g:∀f (g:bk->Bool),(match c.specs f with|some (a,_)=>g a|none=>false)=true->∃a r,c.specs f=some (a,r)/\g a=true:=λf g h=>by
    split at h
    ·rename_i a r e;exact⟨a,r,e,h⟩
    ·cases h
   refine⟨λf hf=>?_,λf hf=>?_,λt h=>h⟩
   ·obtain⟨a,r,e,h⟩:=g f bk.kp hf;exact⟨a.dN c.ms (if r then some N else none),by simp only[XCfg.cfg,mA,e],h⟩
   ·obtain⟨a,r,e,h⟩:=g f bk.pl hf;exact⟨a.dN c.ms (if r then some N else none),by simp only[XCfg.cfg,mA,e],h⟩
  generalize amg:HU c.ann L.toArray L L.length (Array.replicate L.length false)=ord at*;generalize amh:DQ c.ann c.specs p.st L ord (DQ c.ann c.specs p.st L ord ([],[]))=q at*;have:mh (c.cfg N) L.toArray G ord.length (Array.replicate L.length false) (p.st.den c.ms.f ρ):=by
   rcases iT _ _|>.mp h4 with h4|h4
   ·rw[Ts]at h4;exact CC rZ (gu q) (ops:=L.toArray) (by simpa using h2) (m:=0) h4 ⟨λk=>by
     rw[Nat.zero_testBit,EA];cases hk:(Array.replicate L.length false)[k]?with
     |none=>rfl
     |some b=>exact Array.eq_of_mem_replicate (Array.mem_of_getElem? hk),by simp⟩ (WN h3) (by simpa using hq)
   ·exact zw rZ (gu q) (ops:=L.toArray) (by simpa using h2) (K:=G) h4 (by simp) (WN h3) (by simpa using hq)
  rw[hl]at this;exact this
 ·cases h
def XCfg.full (c:XCfg T σ) (na:Nat) (loop:Nat->Option LA) (cl:anp):XC T σ:={toXCfg:=c,na:=na,loop:=loop,cl:=cl,draw:=λ_=>Ob c}
theorem ahA {c:XCfg T σ} {N:Int} (hc:rT c) (rZ:dT (c.cfg N)) {na:Nat} {loop:Nat->Option LA} {cl:anp}:HT (c.full na loop cl) N (gi (c.cfg N)):=
 λ_ _ _ _ _ _ _ _ h hs dL hK=>ahz hc rZ h hs dL hK
end
end Go.Pv
namespace Go.Pv
open Go
noncomputable section
variable {T:ay} {σ:Type} {f:Nat->C->Int} {ρ:Kr} {n:Nat}
def AX.shift (nt:Nat):AX->AX
 | .ptr i off=> .ptr (nt+i) off
 | .cd _ _=> .aD
 | .gb _ _ _ _=> .aD
 | .cn _ _ _=> .aD
 | .cq _ _ _=> .aD
 |x=>x
theorem WQ (nt:Nat) (x:AX):(x.shift nt).den f ρ=(x.den f ρ).shift nt:=by cases x<;>rfl
theorem WR {nt:Nat} {x:AX} (h:x.lt n):(x.shift nt).lt n:=by cases x<;>first|exact h|trivial
def vK (fn:Func) (args:List PS) (boxes:anv):aw:=
 {aq:=(vu args 0).map (AS.bH (AX.shift fn.ntmps))++List.replicate (fn.ntmps-args.length) (.one .aD)
  boxes:=List.replicate fn.ntmps none++(vv boxes (lens args)).map (λl=>some (.cells (l.map (AX.shift fn.ntmps))))
  gen:=λ_=>0}
theorem WS {ss:amZ} {bs:anb} {j:Nat} {x:X} (h:(rS ss bs)[j]?=some x):lL ss bs j=x.dx:=by simp[lL,bZ,h]
theorem ahB {ms:Ms T} (fn:Func) {args:List PS} {boxes:anv} {ss:amZ} {bs:anb} (h1:fv args ss=true) (h2:lJ boxes bs=true):
 (vK fn args boxes).den ms.f (lL ss bs)=St.start fn ss bs:=by
 obtain⟨n1,n2⟩:=Dq h1;have e1:=Vg ms (ρ:=lL ss bs) (v:=0) h1 λj x hx=>by
  rw[eI];refine WS ?_;rw[rS,jQ]
  ·exact hx
  ·rcases aT j (ss.flatMap S.xs).length with h'|h'
   ·exact h'
   ·rw[aW h']at hx;cases hx
 have e2:=Vh ms (ρ:=lL ss bs) (v:=lens args) h2 λj x hx=>by refine WS ?_;rw[rS,jR (by omega),n1,oG];exact hx
 simp only[vK,aw.den,St.start,oH,List.map_replicate,St.mk.injEq,lU];refine⟨?_,?_⟩
 ·congr 1
  ·have key:((vu args 0).map (AS.bH (AX.shift fn.ntmps))).map (AS.den ms.f (lL ss bs))=((vu args 0).map (AS.den ms.f (lL ss bs))).map (S.bH (X.shift fn.ntmps)):=by rw[da,da];exact cK λs _=>G6 (WQ _) s
   rw[key,e1]
  ·rw[n2];rfl
 ·congr 1;have key:((vv boxes (lens args)).map (λl=>some (AK.cells (l.map (AX.shift fn.ntmps))))).map (Option.map (AK.den ms.f (lL ss bs)))=
   ((vv boxes (lens args)).map (List.map (AX.den ms.f (lL ss bs)))).map (λl=>some (l.map (X.shift fn.ntmps))):=by
   rw[da,da];refine cK λl _=>?_;simp only[pz,cj,AK.den,da];congr 1;exact cK λx _=>WQ _ x
  rw[key,e2]
theorem Oc:∀{l:List PX} {v:Nat},v+l.length<=n->∀x∈eX l v,x.lt n
 |[],_,_=>λx hx=>by cases hx
 |q::r,v,h=>λx hx=>by
  simp only[eH]at h;simp only[eX,az]at hx;rcases hx with rfl|hx
  ·exact PX.Ax (by omega)
  ·exact Oc (by omega) x hx
theorem PS.NG {s:PS} {v:Nat} (h:v+s.len<=n):(s.as v).lt n:=by
 cases s with
 |one q=>exact PX.Ax (by simp only[PS.len]at h;omega)
 |agg l=>exact Oc h
theorem WT:∀{l:List PS} {v:Nat},v+lens l<=n->∀s∈vu l v,s.lt n
 |[],_,_=>λx hx=>by cases hx
 |q::r,v,h=>λx hx=>by
  simp only[lens]at h;simp only[vu,az]at hx;rcases hx with rfl|hx
  ·exact PS.NG (by omega)
  ·exact WT (by omega) x hx
theorem WU:∀{l:anv} {v:Nat},v+lK l<=n->∀b∈vv l v,∀x∈b,x.lt n
 |[],_,_=>λx hx=>by cases hx
 |q::r,v,h=>λx hx=>by
  simp only[lK]at h;simp only[vv,az]at hx;rcases hx with rfl|hx
  ·exact Oc (by omega)
  ·exact WU (by omega) x hx
theorem ahC (fn:Func) (args:List PS) (boxes:anv):(vK fn args boxes).lt (lens args+lK boxes):=by
 refine⟨λs hs=>?_,λl hl=>?_⟩
 ·simp only[vK,bB]at hs;rcases hs with hs|hs
  ·obtain⟨s0,h0,rfl⟩:=aF.1 hs;exact G7 (λx hx=>WR hx) (WT (by omega) s0 h0)
  ·rw[wa hs];trivial
 ·simp only[vK,bB]at hl;rcases hl with hl|hl
  ·have:=wa hl;cases this
  ·obtain⟨l0,h0,h1⟩:=aF.1 hl;simp only[ae]at h1;subst h1;intro x hx;obtain⟨x0,w0,rfl⟩:=aF.1 hx;exact WR (WU (bh _) l0 h0 x0 w0)
def AG:List PS->List Kd
 |[]=>[]
 | .one q::r=>q.kd::AG r
 | .agg l::r=>l.map PX.kd++AG r
def HW:List (List PX)->List Kd
 |[]=>[]
 |l::r=>l.map PX.kd++HW r
theorem Od:∀l:List PS,(AG l).length=lens l
 |[]=>rfl
 | .one q::r=>by simp[AG,lens,PS.len,Od r];omega
 | .agg l::r=>by simp[AG,lens,PS.len,Od r]
theorem WV:∀l:anv,(HW l).length=lK l
 |[]=>rfl
 |l::r=>by simp[HW,lK,WV r]
def DR (T:ay):List (Nat×Nat×aa)->Nat->List Mem
 |[],_=>[]
 |(e,x,i)::r,b=>⟨e,x,i,b⟩::DR T r (b+(T e).length)
theorem WW {f:Nat->C->Int}:∀{gs:ani} {b:Nat},pb T f ρ gs b->xZ T b gs->b+gK T gs<=n->∀q∈DR T gs b,Mem.ok T f ρ n q
 |[],_,_,_,_=>λq hq=>by cases hq
 |(e,x,i)::r,b,h,hw,hn=>λq hq=>by
  simp only[gK]at hn;simp only[DR,az]at hq;rcases hq with rfl|hq
  ·exact⟨(show x<n by have:=hw.1;omega),bg (by omega) hw.2.1,(show b+(T e).length<=n by omega),h.1⟩
  ·exact WW h.2 hw.2.2 (by omega) q hq
end
end Go.Pv
namespace Go.Pv
open Go
noncomputable section
variable {T:ay} {σ:Type} {f:Nat->C->Int} {ρ:Kr} {n:Nat}
def AH (P:Program) (T:ay) (st:aw):ResultVar->Option (Bool×List AX)
 | .tmp t=>(match st.get t with| .one .aD=>none| .one x=>some (false,[x])| .agg l=>some (true,l)| .bj _=>none)
 | .cell a t=>
  (match kq P t,st.get a with
  |some true, .one (.ptr b off)=>
   (match je st.boxes b with
   |some (some (.cells l))=>if off+(T t).length<=l.length/\(T t).isEmpty=false/\C4 (T t) ((l.drop off).take (T t).length)=true then some (true,(l.drop off).take (T t).length)else none
   |_=>none)
  |some false, .one (.ptr b off)=>
   (match je st.boxes b with
   |some (some (.cells l))=>(match l[off]?with|some .aD=>none|some x=>if C4 (T t) [x]=true then some (false,[x])else none|none=>none)
   |_=>none)
  |_,_=>none)
theorem ahD {P:Program} {st:aw} {r:ResultVar} {b:Bool} {l:amV} (h:AH P T st r=some (b,l)):jo P T (st.den f ρ) r=some (b,l.map (AX.den f ρ)):=by
 cases r with
 |tmp t=>
  simp only[AH,gF]at h;simp only[jo,<-rJ];split at h
  ·cases h
  ·rename_i x hx hg;simp only[ae,bT]at h;obtain⟨rfl,rfl⟩:=h;rw[hg];cases x<;>first|rfl|exact(hx rfl).elim
  ·rename_i l' hg;simp only[ae,bT]at h;obtain⟨rfl,rfl⟩:=h;rw[hg];rfl
  ·cases h
 |cell a t=>
  simp only[AH,gF]at h;simp only[jo,<-rJ];split at h
  ·rename_i b' off h1 h2;split at h
   ·rename_i l' hl;split at h
    ·rename_i hc;simp only[ae,bT]at h;obtain⟨rfl,rfl⟩:=h;have hb:=pa (f:=f) (ρ:=ρ) hl;simp only[AK.den]at hb;simp only[h2,AS.den,AX.den,S.bp,dU,h1,hb,dI];rw[<-Bp,<-Bq,GU,aC hc]
    ·cases h
   ·cases h
  ·rename_i b' off h1 h2;split at h
   ·rename_i l' hl;split at h
    ·cases h
    ·rename_i x hx hg;split at h
     ·rename_i hc;simp only[ae,bT]at h;obtain⟨rfl,rfl⟩:=h;have hb:=pa (f:=f) (ρ:=ρ) hl;have cW:(l'.map (AX.den f ρ))[off]?=some (x.den f ρ):=by simp[hg]
      have dF:wq (T t) [x.den f ρ]=true:=by rw[<-GU (f:=f) (ρ:=ρ)]at hc;exact hc
      simp only[AK.den]at hb;simp only[h2,AS.den,AX.den,S.bp,dU,h1,hb,cW];simp only[AX.den]at dF;rw[aC dF];cases x<;>first|rfl|exact(hx rfl).elim
     ·cases h
    ·cases h
   ·cases h
  ·cases h
def tH (P:Program) (T:ay) (st:aw):List ResultVar->Option (List (Bool×List AX))
 |[]=>some []
 |r::rs=>
  match AH P T st r,tH P T st rs with
  |some p,some ps=>some (p::ps)
  |_,_=>none
theorem WX {P:Program} {st:aw}:∀{rs:List ResultVar} {ps:anu},tH P T st rs=some ps->eV P T (st.den f ρ) rs=some (ps.map λp=>(p.1,p.2.map (AX.den f ρ)))
 |[],ps,h=>by simp only[tH,ae]at h;subst h;rfl
 |r::rs,ps,h=>by
  simp only[tH]at h;split at h
  ·rename_i p Fv h1 h2;simp only[ae]at h;subst h;obtain⟨b,l⟩:=p;simp only[eV,ahD (f:=f) (ρ:=ρ) h1,WX h2,bu]
  ·cases h
def HY (ps:anu):AS:=
 match ps with
 |[(true,l)]=> .agg l
 |[(false,[x])]=> .one x
 |ps=> .bj ps
theorem ahE (ps:anu):(HY ps).den f ρ=w4 (ps.map λp=>(p.1,p.2.map (AX.den f ρ))):=by
 unfold HY;split
 ·rfl
 ·rfl
 ·rename_i h1 h2;unfold w4
  match ps,h1,h2 with
  |[],_,_=>rfl
  |[(true,l)],h1,_=>exact(h1 l rfl).elim
  |[(false,[])],_,_=>rfl
  |[(false,[x])],_,h2=>exact(h2 x rfl).elim
  |[(false,x::y::r)],_,_=>rfl
  |(true,_)::b::r,_,_=>rfl
  |(false,[])::b::r,_,_=>rfl
  |(false,[_])::b::r,_,_=>rfl
  |(false,_::_::_)::b::r,_,_=>rfl
inductive HR where
 |one (h:HX)
 |agg (l:List HX)
 |bj (l:List (Bool×List HX))
def AI:List (Bool×List HX)->Nat
 |[]=>0
 |p::r=>hlen p.2+AI r
def HR.len:HR->Nat
 | .one h=>h.len
 | .agg l=>hlen l
 | .bj l=>AI l
def fR:List (Bool×List HX)->Nat->List (Bool×List AX)
 |[],_=>[]
 |p::r,v=>(p.1,oq p.2 v)::fR r (v+hlen p.2)
def HR.as:HR->Nat->AS
 | .one h,v=> .one (h.ax v)
 | .agg l,v=> .agg (oq l v)
 | .bj l,v=> .bj (fR l v)
def vL:List (List HX)->Nat
 |[]=>0
 |l::r=>hlen l+vL r
def hU:List (List HX)->Nat->List (List AX)
 |[],_=>[]
 |l::r,v=>oq l v::hU r (v+hlen l)
def qC (gen:amP):List (Bool×List HX)->List (Bool×List AX)->Option (List (PX×AX))
 |[],[]=>some []
 |h::hs,x::xs=>(match h.1==x.1,mB gen h.2 x.2,qC gen hs xs with|true,some a,some b=>some (a++b)|_,_,_=>none)
 |_,_=>none
def AJ (gen:amP) (h:HR) (s:AS):Option (List (PX×AX)):=
 match h,s with
 | .one h, .one x=>rV gen h x
 | .agg hs, .agg xs=>mB gen hs xs
 | .bj hs, .bj xs=>qC gen hs xs
 |_,_=>none
def nA (gen:amP):List (List HX)->List (Option (List AX))->Option (List (PX×AX))
 |[],[]=>some []
 |h::hs,some x::xs=>(match mB gen h x,nA gen hs xs with|some a,some b=>some (a++b)|_,_=>none)
 |_,_=>none
theorem WY {gen:amP}:∀{hs:List (Bool×List HX)} {xs:anu} {l:anf},qC gen hs xs=some l->l.length=AI hs
 |[],[],l,h=>by simp only[qC,ae]at h;subst h;rfl
 |[],_::_,_,h=>by simp[qC]at h
 |_::_,[],_,h=>by simp[qC]at h
 |h::hs,x::xs,l,hh=>by
  simp only[qC]at hh;split at hh
  ·rename_i a b _ h1 h2;simp only[ae]at hh;subst hh;rw[jS,vD h1,WY h2];rfl
  ·cases hh
theorem WZ {ms:Ms T} {gen:amP} {ai:Kr} (ha:∀y,y<n->ai y=ρ y):∀{hs:List (Bool×List HX)} {xs:anu} {l:anf} {v:Nat},qC gen hs xs=some l->iP ms.f ρ ai v l->
 (∀p∈hs,∀h∈p.2,h.lt n)->Fw gen (xs.map λp=>(p.1,p.2.map (AX.den ms.f ρ))) ((fR hs v).map λp=>(p.1,p.2.map (AX.den ms.f ai)))
 |[],[],_,_,_,_,_=>trivial
 |[],_::_,_,_,h,_,_=>by simp[qC]at h
 |_::_,[],_,_,h,_,_=>by simp[qC]at h
 |h::hs,x::xs,l,v,hh,hg,aj=>by
  simp only[qC]at hh;split at hh
  ·rename_i a b he h1 h2;simp only[ae]at hh;subst hh;simp only[fR,bu];have hr:=hg.right;rw[vD h1]at hr;exact⟨⟨(eq_of_beq he).symm,Au ha h1 hg.left (aj h (by simp))⟩,WZ ha h2 hr (λy hy=>aj y (by simp[hy]))⟩
  ·cases hh
def HR.lt (n:Nat):HR->Prop
 | .one h=>h.lt n
 | .agg l=>∀h∈l,h.lt n
 | .bj l=>∀p∈l,∀h∈p.2,h.lt n
theorem W0 {gen:amP} {h:HR} {s:AS} {l:anf} (hh:AJ gen h s=some l):l.length=h.len:=by
 unfold AJ at hh;split at hh
 ·exact Hy hh
 ·exact vD hh
 ·exact WY hh
 ·cases hh
theorem ahF {gen:amP} {x y:X} (h:ga gen x y):sN gen (.one x) (.one y):=by
 unfold sN;split
 ·trivial
 ·rename_i y' _ he;simp only[S.one.injEq]at he;subst he;exact h
 ·rename_i he;cases he
 ·rename_i he;cases he
theorem ahG {ms:Ms T} {gen:amP} {ai:Kr} (ha:∀y,y<n->ai y=ρ y) {h:HR} {s:AS} {l:anf} {v:Nat} (hh:AJ gen h s=some l) (hg:iP ms.f ρ ai v l) (aj:h.lt n):
 sN gen (s.den ms.f ρ) ((h.as v).den ms.f ai):=by
 unfold AJ at hh;split at hh
 ·exact ahF (Nu hh hg aj ha)
 ·exact Au ha hh hg aj
 ·exact WZ ha hh hg aj
 ·cases hh
theorem W1 {gen:amP}:∀{hs:List (List HX)} {xs:List (Option (List AX))} {l:anf},nA gen hs xs=some l->l.length=vL hs
 |[],[],l,h=>by simp only[nA,ae]at h;subst h;rfl
 |[],_::_,_,h=>by simp[nA]at h
 |_::_,[],_,h=>by simp[nA]at h
 |_::_,none::_,_,h=>by simp[nA]at h
 |h::hs,some x::xs,l,hh=>by
  simp only[nA]at hh;split at hh
  ·rename_i a b h1 h2;simp only[ae]at hh;subst hh;rw[jS,vD h1,W1 h2];rfl
  ·cases hh
def vM (f:Nat->C->Int) (ρ:Kr):List (Option (List AX))->List (Option (List X))->Prop
 |[],[]=>True
 |x::xs,y::ys=>(∀l,x=some l->y=some (l.map (AX.den f ρ)))/\vM f ρ xs ys
 |_,_=>False
theorem W2 {ms:Ms T} {gen:amP} {ai:Kr} (ha:∀y,y<n->ai y=ρ y):∀{hs:List (List HX)} {xs:List (Option (List AX))} {ys:anj} {l:anf} {v:Nat},nA gen hs xs=some l->vM ms.f ρ xs ys->iP ms.f ρ ai v l->
 (∀p∈hs,∀h∈p,h.lt n)->sO gen ys ((hU hs v).map (List.map (AX.den ms.f ai)))
 |[],[],[],_,_,_,_,_,_=>trivial
 |[],[],_::_,_,_,_,h,_,_=>h.elim
 |[],_::_,_,_,_,h,_,_,_=>by simp[nA]at h
 |_::_,[],_,_,_,h,_,_,_=>by simp[nA]at h
 |_::_,none::_,_,_,_,h,_,_,_=>by simp[nA]at h
 |_::_,some _::_,[],_,_,_,h,_,_=>h.elim
 |h::hs,some x::xs,y::ys,l,v,hh,ho,hg,aj=>by
  simp only[nA]at hh;split at hh
  ·rename_i a b h1 h2;simp only[ae]at hh;subst hh;have hr:=hg.right;rw[vD h1]at hr;have hy:=ho.1 x rfl;subst hy;exact⟨Au ha h1 hg.left (aj h (by simp)),W2 ha h2 ho.2 hr (λy hy=>aj y (by simp[hy]))⟩
  ·cases hh
def AK.out:Option (Option AK)->Option (List AX)
 |some (some (.cells l))=>some l
 |_=>none
def Oe (st:aw) (nt n k:Nat) (new:Bool):List (Option (List AX)):=
 (List.range n).map (λi=>AK.out st.boxes[nt+i]?)++(if new then[AK.out st.boxes[k]?]else[])
theorem W3 {st:aw} {i:Nat} {l:amV} (h:AK.out st.boxes[i]?=some l):((st.den f ρ).boxes[i]?).join=some (l.map (AX.den f ρ)):=by
 unfold AK.out at h;split at h
 ·rename_i l' hl;simp only[ae]at h;subst h;have:=pa (f:=f) (ρ:=ρ) hl;rw[this];rfl
 ·cases h
theorem vM.append {xs W4:List (Option (List AX))} {ys MD:anj} (h:vM f ρ xs ys) (h':vM f ρ W4 MD):vM f ρ (xs++W4) (ys++MD):=by
 induction xs generalizing ys with
 |nil=>cases ys with
  |nil=>exact h'
  |cons y ys=>exact h.elim
 |cons x xs ih=>cases ys with
  |nil=>exact h.elim
  |cons y ys=>exact⟨h.1,ih h.2⟩
theorem ahH (st:aw) (nt n k:Nat) (new:Bool):vM f ρ (Oe st nt n k new) (w6 (st.den f ρ) nt n k new):=by
 have key:∀l:amG,vM f ρ (l.map λi=>AK.out st.boxes[nt+i]?) (l.map λi=>((st.den f ρ).boxes[nt+i]?).join):=λl=>by
  induction l with
  |nil=>exact trivial
  |cons i l ih=>exact⟨λ_ h=>W3 h,ih⟩
 refine(key _).append ?_;cases new with
 |false=>exact trivial
 |true=>exact⟨λ_ h=>W3 h,trivial⟩
end
end Go.Pv
namespace Go.Pv
open Go
noncomputable section
variable {T:ay} {σ:Type} {f:Nat->C->Int} {ρ:Kr} {n:Nat}
structure cb where
 am:List (List CM)
 bm:List (List CM)
 new:Bool
 brw:List Nat
 kp:Bool
 pl:Bool
 args:List PS
 boxes:List (List PX)
 pre:List aa
 ij:aa
 res:HR
 cZ:List (List HX)
 cases:List (List aa)
 jL:List (Nat×Nat×aa)
 fw:List (Nat×Nat×aa)
def HX.kinds:HX->List Kd
 | .fresh q=>[q.kd]
 |_=>[]
def HR.kinds:HR->List Kd
 | .one h=>h.kinds
 | .agg l=>l.flatMap HX.kinds
 | .bj l=>l.flatMap λp=>p.2.flatMap HX.kinds
def cb.nl (r:cb):Nat:=lens r.args+lK r.boxes
def cb.na (T:ay) (r:cb):Nat:=r.nl+gK T r.jL
def cb.cB (T:ay) (r:cb):bk:=
 {am:=r.am,bm:=r.bm,new:=r.new,brw:=r.brw,kp:=r.kp,pl:=r.pl,args:=r.args,boxes:=r.boxes,pre:=r.pre,ij:=r.ij,no:=r.res.len+vL r.cZ+gK T r.fw,jL:=r.jL,fw:=r.fw
  res:=r.res.as (r.na T),cZ:=hU r.cZ (r.na T+r.res.len),cases:=r.cases,ks:=r.res.kinds++r.cZ.flatMap λl=>l.flatMap HX.kinds}
def PX.outer (nt n k:Nat):PX->PX
 | .ptr i off=> .ptr (if i<n then nt+i else k) off
 |q=>q
def AX.outer (nt n k:Nat):AX->AX
 | .ptr i off=> .ptr (if i<n then nt+i else k) off
 |x=>x
def HX.outer (nt n k:Nat):HX->HX
 | .fresh q=> .fresh (q.outer nt n k)
 | .bo x=> .bo (x.outer nt n k)
 | .aD=> .aD
def HR.outer (nt n k:Nat):HR->HR
 | .one h=> .one (h.outer nt n k)
 | .agg l=> .agg (l.map (HX.outer nt n k))
 | .bj l=> .bj (l.map λp=>(p.1,p.2.map (HX.outer nt n k)))
variable {nt m k:Nat}
theorem W5 (x:AX):(x.outer nt m k).den f ρ=(x.den f ρ).outer nt m k:=by cases x<;>rfl
theorem vN {x:AX} (h:x.lt n):(x.outer nt m k).lt n:=by cases x<;>exact h
theorem HX.AL (h:HX):(h.outer nt m k).len=h.len:=by cases h<;>rfl
theorem HX.W6 (h:HX) (v:Nat):(h.outer nt m k).ax v=(h.ax v).outer nt m k:=by
 cases h with
 |fresh q=>cases q<;>rfl
 |_=>rfl
theorem HX.vN {h:HX} (hl:h.lt n):(h.outer nt m k).lt n:=by
 cases h with
 |bo x=>exact Pv.vN hl
 |_=>trivial
theorem AM:∀l:List HX,hlen (l.map (HX.outer nt m k))=hlen l
 |[]=>rfl
 |h::r=>by simp only[bu,hlen,HX.AL,AM r]
theorem HZ:∀(l:List HX) (v:Nat),oq (l.map (HX.outer nt m k)) v=(oq l v).map (AX.outer nt m k)
 |[],_=>rfl
 |h::r,v=>by simp only[bu,oq,HX.W6,HX.AL,HZ r]
theorem W7:∀l:List (Bool×List HX),AI (l.map λp=>(p.1,p.2.map (HX.outer nt m k)))=AI l
 |[]=>rfl
 |h::r=>by simp only[bu,AI,AM,W7 r]
theorem W8:∀(l:List (Bool×List HX)) (v:Nat),fR (l.map λp=>(p.1,p.2.map (HX.outer nt m k))) v=(fR l v).map λp=>(p.1,p.2.map (AX.outer nt m k))
 |[],_=>rfl
 |h::r,v=>by simp only[bu,fR,HZ,AM,W8 r]
theorem HR.AL (h:HR):(h.outer nt m k).len=h.len:=by
 cases h with
 |one h=>exact HX.AL h
 |agg l=>exact AM l
 |bj l=>exact W7 l
theorem HR.ahI (h:HR) (v:Nat):(h.outer nt m k).as v=(h.as v).bH (AX.outer nt m k):=by
 cases h with
 |one h=>simp only[HR.outer,HR.as,AS.bH,HX.W6]
 |agg l=>simp only[HR.outer,HR.as,AS.bH,HZ]
 |bj l=>simp only[HR.outer,HR.as,AS.bH,W8]
theorem W9:∀(l:List (List HX)) (v:Nat),hU (l.map (List.map (HX.outer nt m k))) v=(hU l v).map (List.map (AX.outer nt m k))
 |[],_=>rfl
 |h::r,v=>by simp only[bu,hU,HZ,AM,W9 r]
def Of (ms:Ms T) (m:Nat) (q:PX) (y:AX):Option aa:=
 match y,q with
 | .bc, .sl _=>ot ms m y
 | .bc, .own _ _=>ot ms m y
 | .bc,_=>none
 |y,_=>ot ms m y
theorem ahJ {ms:Ms T} {m:Nat} {q:PX} {y:AX} {e:aa} (h:Of ms m q y=some e):e.den (mu ms.f ρ)=ms.f m (jf q (y.den ms.f ρ)):=by
 have uD:∀x:X,(∀(hx:x= .bc),False)->jf q x=x.dx:=λx hx=>by
  unfold jf;grind
 have h0:y≠ .bc->ot ms m y=some e:=λhy=>by
  unfold Of at h;grind
 have nl:∀{e':Nat},ot ms m .bc=some e->e.den (mu ms.f ρ)=ms.f m (.sl e' []):=λ{e'} h=>(vE (ρ:=ρ) h) e';cases y with
 |bc=>cases q<;>first|exact nl h|cases h
 |int k e'=>rw[uD _ λhx=>by cases hx];exact Dr ms (h0 (by simp))
 |dn e'=>rw[uD _ λhx=>by cases hx];exact Dr ms (h0 (by simp))
 |bool b=>
  rw[uD _ λhx=>by cases hx];have h:ot ms m (.bool b)=some e:=h0 (by simp);have hv:=vE (ρ:=ρ) h;have hm:m=1:=by
   cases b<;>simp[ot]at h
   ·omega
   ·omega
  subst hm;have hv:e.den (mu ms.f ρ)=if b.den ms.f ρ then 1 else 0:=hv;rw[hv,ms.h1];rfl
 |str x=>rw[uD _ λhx=>by cases hx];exact vE (ρ:=ρ) (x:= .str x) (h0 (by simp))
 |lit t=>rw[uD _ λhx=>by cases hx];exact vE (ρ:=ρ) (x:= .lit t) (h0 (by simp))
 |sl e' x=>rw[uD _ λhx=>by cases hx];exact vE (ρ:=ρ) (x:= .sl e' x) (h0 (by simp)) e'
 |own e' g i x=>rw[uD _ λhx=>by cases hx];exact vE (ρ:=ρ) (x:= .own e' g i x) (h0 (by simp)) e'
 |_=>exact absurd (h0 (by simp)) (by simp[ot])
def AN (ms:Ms T) (na:Nat) (l:anf) (a:Nat):Option aa:=
 if a/64<na then some (.atom a)
 else(match l[a/64-na]?with|some (q,y)=>Of ms (a%64) q y|none=>none)
theorem H0 {ms:Ms T} {na:Nat} {l:anf} {ai:Kr} (hg:iP ms.f ρ ai na l) (ha:∀y,y<na->ai y=ρ y) (a:Nat) (b:aa) (h:AN ms na l a=some b):b.den (mu ms.f ρ)=mu ms.f ai a:=by
 unfold AN at h;split at h
 ·rename_i hj;simp only[ae]at h;subst h;rw[TM];simp only[mu];grind
 ·rename_i hj;split at h
  ·rename_i q y hl;rw[ahJ h];simp only[mu];have:=hg _ _ _ hl;grind
  grind
def HX.fT (n:Nat):HX->Bool
 | .bo x=>x.fT n
 |_=>true
def HR.fT (n:Nat):HR->Bool
 | .one h=>h.fT n
 | .agg l=>l.all (HX.fT n)
 | .bj l=>l.all λp=>p.2.all (HX.fT n)
theorem HX.H2 {h:HX} (hh:h.fT n=true):h.lt n:=by
 cases h with
 |bo x=>exact Dt hh
 |_=>trivial
def Og:Kd->PX
 | .int k=> .int k
 | .bool=> .bool
 | .str=> .str
 | .sl e=> .sl e
 | .ptr=> .bool
 | .any=> .bool
def DS (ms:Ms T) (p:Path) (na:Nat):List (Nat×Nat×aa)->List (PX×AX)->Option (List (PX×AX))
 |[],l=>some l
 |(e,x,i)::r,l=>
  match(if x<na then some x else(match l[x-na]?with|some (_, .sl _ v)=>some v|some (_, .own _ _ _ v)=>some v|_=>none)),i.subst (AN ms na l)with
  |some v,some i'=>(match k7 p e v i' with|some b=>DS ms p na r (l++((T e).zip (iM (T e) b)).map λq=>(Og q.1,q.2))|none=>none)
  |_,_=>none
theorem Xa {ms:Ms T} {q:Path} {na:Nat} {ai ρc:Kr} (hs:Sat T ms.f ai q) (b0:∀y,y<na->ρc y=ai y):∀{gs:ani} {l l':anf},DS ms q na gs l=some l'->
 (∃t,l'=l++t)/\(iP ms.f ai ρc na l'->pb T ms.f ρc gs (na+l.length))
 |[],l,l',h=>by simp only[DS,ae]at h;subst h;exact⟨⟨[],by simp⟩,λ_=>trivial⟩
 |(e,x,i)::r,l,l',h=>by
  simp only[DS]at h;split at h
  ·rename_i v i' hv hi;split at h
   ·rename_i b hb;obtain⟨⟨t,ht⟩,hg⟩:=Xa hs b0 h;generalize hz:((T e).zip (iM (T e) b)).map (λq=>(Og q.1,q.2))=z at*;have ahK:z.length=(T e).length:=by rw[<-hz];simp[Hn]
    refine⟨⟨z++t,by grind⟩,λhG=>?_⟩;have hm:=og hb hs;have Oh:iP ms.f ai ρc na l:=by rw[ht,Qg]at hG;exact hG.left
    have aE:=Af (H0 Oh b0) hi;have hx:ah (ρc x)=ah (ai v):=by
     split at hv
     ·grind
     ·rename_i hx;have cW:na+(x-na)=x:=by omega
      split at hv
      ·rename_i q0 e' v' hl;simp only[ae]at hv;subst hv;have:=Oh _ _ _ hl;rw[cW]at this;rw[this];rfl
      ·rename_i q0 e' g m v' hl;simp only[ae]at hv;subst hv;have:=Oh _ _ _ hl;rw[cW]at this;rw[this];rfl
      grind
    have dV:=hm.row;refine⟨⟨by rw[<-aE];exact dV.lo,by rw[<-aE,hx];exact dV.hi,λj hj=>?_,by rw[hx];exact dV.kd,by rw[hx];exact dV.fit⟩,?_⟩
    ·rw[<-aE,hx,<-dV.cell j hj];have dR:j<(iM (T e) b).length:=by rw[Hn];exact hj
     have cT:l'[l.length+j]?=some (Og ((T e)[j]),(iM (T e) b)[j]):=by rw[ht,Qg,jR (by omega),oG,jQ (by omega),<-hz,bP,(alF (z:=((T e)[j],(iM (T e) b)[j]))).2 ⟨aP hj,aP dR⟩];rfl
     have:=hG _ _ _ cT;rw[oB,this];obtain⟨k,hk,he⟩:=M9 (aP dR);rw[he];have fM:=dV.Vn hk;have JR:=Vm (ρ:=ai) ms fM;rw[<-JR];have bV:(T e)[j]'hj=k:=by rw[aP hj]at hk;exact lR hk
     rw[bV];cases k<;>rfl
    grind
   grind
  grind
def ox (ask:Ask σ) (vs:Bool):List AX->Path->(Path->List AX->σ->Option σ)->σ->Option σ
 |[],p,K=>K p []
 |x::r,p,K=>
  match x with
  | .bool (.lit b)=>ox ask vs r p λq l=>K q (.bool (.lit b)::l)
  | .bool (.var v)=>match vs with
   |true=>ig ask p (.var v) (λp=>ox ask vs r p λq l=>K q (.bool (.lit true)::l)) (λp=>ox ask vs r p λq l=>K q (.bool (.lit false)::l))
   |false=>ox ask vs r p λq l=>K q (.bool (.var v)::l)
  | .bool b=>ig ask p b (λp=>ox ask vs r p λq l=>K q (.bool (.lit true)::l)) (λp=>ox ask vs r p λq l=>K q (.bool (.lit false)::l))
  |x=>ox ask vs r p λq l=>K q (x::l)
def DT (ask:Ask σ):List (Bool×List AX)->Path->(Path->List (Bool×List AX)->σ->Option σ)->σ->Option σ
 |[],p,K=>K p []
 |x::r,p,K=>ox ask (!x.1) x.2 p λp l=>DT ask r p λq ls=>K q ((x.1,l)::ls)
theorem Xb {ask:Ask σ} (ha:ca ask) {ms:Ms T} {vs:Bool}:∀{l:amV} {p:Path} {K:Path->List AX->σ->Option σ} {s s':σ} {ρ:Kr},ox ask vs l p K s=some s'->Sat T ms.f ρ p->(∀x∈l,x.lt p.nv)->
 ∃q l' s1 s2,K q l' s1=some s2/\Reach ms p ρ q ρ/\l'.map (AX.den ms.f ρ)=l.map (AX.den ms.f ρ)
 |[],p,K,s,s',ρ,h,hs,_=>⟨p,[],s,s',h, .refl hs,rfl⟩
 |x::r,p,K,s,s',ρ,h,hs,hl=>by
  have hr:∀y∈r,y.lt p.nv:=λy hy=>hl y (by grind);have go:∀(y:AX) (q:Path) t1 t2,Reach ms p ρ q ρ->y.den ms.f ρ=x.den ms.f ρ->ox ask vs r q (λq l=>K q (y::l)) t1=some t2->∃q l' s1 s2,K q l' s1=some s2/\Reach ms p ρ q ρ/\l'.map (AX.den ms.f ρ)=(x::r).map (AX.den ms.f ρ):=by intro y q t1 t2 hq hy h;obtain⟨q',l',s1,s2,h1,h2,h3⟩:=Xb ha h hq.sat (λz hz=>AX.bg hq.nv (hr z hz));exact⟨q',_,s1,s2,h1,hq.trans h2,by grind⟩
  have hc:∀b:AB,x= .bool b->ig ask p b (λp=>ox ask vs r p λq l=>K q (.bool (.lit true)::l)) (λp=>ox ask vs r p λq l=>K q (.bool (.lit false)::l)) s=some s'->
   ∃q l' s1 s2,K q l' s1=some s2/\Reach ms p ρ q ρ/\l'.map (AX.den ms.f ρ)=(x::r).map (AX.den ms.f ρ):=by
   intro b hx h2;subst hx;obtain⟨w1,w2⟩:=nh ha h2 hs (c:=b) (hl (.bool b) (by simp));cases e:b.den ms.f ρ with
   |true=>obtain⟨q,s1,s2,hk,hr⟩:=w1 e;exact go (.bool (.lit true)) q s1 s2 hr (by simp[AX.den,AB.den,e]) hk
   |false=>obtain⟨q,s1,s2,hk,hr⟩:=w2 e;exact go (.bool (.lit false)) q s1 s2 hr (by simp[AX.den,AB.den,e]) hk
  unfold ox at h;split at h
  ·exact go _ p _ _ (.refl hs) rfl h
  ·cases vs with
   |true=>grind
   |false=>exact go _ p _ _ (.refl hs) rfl h
  ·grind
  ·exact go _ p _ _ (.refl hs) rfl h
theorem Xc {ask:Ask σ} (ha:ca ask) {ms:Ms T}:∀{l:anu} {p:Path} {K:Path->List (Bool×List AX)->σ->Option σ} {s s':σ} {ρ:Kr},DT ask l p K s=some s'->Sat T ms.f ρ p->(∀x∈l,∀y∈x.2,y.lt p.nv)->
 ∃q l' s1 s2,K q l' s1=some s2/\Reach ms p ρ q ρ/\(l'.map λp=>(p.1,p.2.map (AX.den ms.f ρ)))=l.map λp=>(p.1,p.2.map (AX.den ms.f ρ))
 |[],p,K,s,s',ρ,h,hs,_=>⟨p,[],s,s',h, .refl hs,rfl⟩
 |x::r,p,K,s,s',ρ,h,hs,hl=>by simp only[DT]at h;obtain⟨q,l1,s1,s2,h,hr,he⟩:=Xb ha h hs (hl x (by simp));obtain⟨q',l2,s3,s4,h,bR,pJ⟩:=Xc ha h hr.sat λy hy z hz=>AX.bg hr.nv (hl y (by grind) z hz);exact⟨q',_,s3,s4,h,hr.trans bR,by grind⟩
def tI (ask:Ask σ) (ms:Ms T) (na:Nat) (q:Path) (l:anf):List (List aa)->σ->Option σ
 |[],_=>none
 |c::r,s=>match oo (AN ms na l) c with
  |none=>tI ask ms na q l r s
  |some gs=>(match r with
   |[]=>lF ask q.Γ gs some s
   |r=>oe ask q.Γ gs (λb=>match b with|true=>some|false=>tI ask ms na q l r) s)
theorem Oi {ask:Ask σ} (ha:ca ask) {ms:Ms T} {na:Nat} {q:Path} {l:anf} {ai ρc:Kr} (hs:Sat T ms.f ai q) (hG:iP ms.f ai ρc na l) (b0:∀y,y<na->ρc y=ai y):∀{cs:List (List aa)} {s s':σ},tI ask ms na q l cs s=some s'->
 ∃c∈cs,aJ (mu ms.f ρc) c
 |[],s,s',h=>by simp[tI]at h
 |c::r,s,s',h=>by
  unfold tI at h;split at h
  ·obtain⟨c',h1,h2⟩:=Oi ha hs hG b0 h;grind
  ·rename_i gs m6;split at h
   ·obtain⟨hn,_,_⟩:=mw ha h;exact⟨c,by simp,(Ag (H0 hG b0) m6).1 λg hg=>hn g hg _ hs.facts⟩
   ·obtain⟨b,s1,h1,h2⟩:=o7 ha h;cases b with
    |true=>exact⟨c,by simp,(Ag (H0 hG b0) m6).1 λg hg=>h2 rfl g hg _ hs.facts⟩
    |false=>obtain⟨c',g1,g2⟩:=Oi ha hs hG b0 h1;grind
def DU (ask:Ask σ) (ms:Ms T) (na:Nat) (q:Path) (fw:ani) (l:anf) (cs:List (List aa)) (s:σ):Option σ:=
 match cs with
 |[]=>none
 |c::r=>
  match DS ms q na fw l with
  |none=>tI ask ms na q l r s
  |some lg=>
   match oo (AN ms na lg) c with
   |none=>tI ask ms na q l r s
   |some gs=>(match r with
    |[]=>lF ask q.Γ gs some s
    |r=>oe ask q.Γ gs (λb=>match b with|true=>some|false=>tI ask ms na q l r) s)
def nB (f:Nat->C->Int) (ai ρ0:Kr) (na:Nat) (l:anf):Nat->C:=comb ρ0 na λj=>match l[j]?with|some (q,y)=>jf q (y.den f ai)|none=>default
theorem H3 (f:Nat->C->Int) (ai ρ0:Kr) (na:Nat) (l:anf):iP f ai (nB f ai ρ0 na l) na l:=by intro j q y hj;simp only[nB,comb];grind
theorem ahL {ask:Ask σ} (ha:ca ask) {ms:Ms T} {na:Nat} {q:Path} {fw:ani} {l:anf} {ai ρ0:Kr} (hs:Sat T ms.f ai q) (b0:∀y,y<na->ρ0 y=ai y):∀{cs:List (List aa)} {s s':σ},DU ask ms na q fw l cs s=some s'->
 ∃lg t,lg=l++t/\MZ (mu ms.f (nB ms.f ai ρ0 na lg)) (pb T ms.f (nB ms.f ai ρ0 na lg) fw (na+l.length)) cs
 |[],s,s',h=>by simp[DU]at h
 |c::r,s,s',h=>by
  have Oj:∀l,∀y,y<na->nB ms.f ai ρ0 na l y=ai y:=λl y hy=>by rw[nB,comb,aC hy,b0 y hy]
  simp only[DU]at h;simp only[MZ];have any:∀t1 t2,tI ask ms na q l r t1=some t2->∃lg t,lg=l++t/\((aJ (mu ms.f (nB ms.f ai ρ0 na lg)) c/\pb T ms.f (nB ms.f ai ρ0 na lg) fw (na+l.length))\/∃c'∈r,aJ (mu ms.f (nB ms.f ai ρ0 na lg)) c'):=
   λt1 t2 h=>⟨l,[],by simp, .inr (Oi ha hs (H3 _ _ _ _ _) (Oj l) h)⟩
  split at h
  ·grind
  ·rename_i lg nS;obtain⟨⟨t,ht⟩,Hp⟩:=Xa (ρc:=nB ms.f ai ρ0 na lg) hs (Oj lg) nS;have first:∀gs,oo (AN ms na lg) c=some gs->(∀g∈gs,Entails q.Γ g)->∃lg t,lg=l++t/\((aJ (mu ms.f (nB ms.f ai ρ0 na lg)) c/\pb T ms.f (nB ms.f ai ρ0 na lg) fw (na+l.length))\/∃c'∈r,aJ (mu ms.f (nB ms.f ai ρ0 na lg)) c'):=
    λgs h1 h2=>⟨lg,t,ht, .inl ⟨(Ag (H0 (H3 _ _ _ _ _) (Oj lg)) h1).1 λg hg=>h2 g hg _ hs.facts,Hp (H3 _ _ _ _ _)⟩⟩
   split at h
   ·grind
   ·rename_i gs m6;split at h
    ·obtain⟨hn,_,_⟩:=mw ha h;grind
    ·obtain⟨b,s1,h1,h2⟩:=o7 ha h;cases b with
     |true=>grind
     |false=>grind
def Ok (c:XC T σ) (r:cb) (fn:Func) (k:Nat):Px->Path->σ->Option σ:=λe q s=>
 match e with
 | .exit _=>none
 |_=>
  match tH c.P T q.st fn.results.toList with
  |none=>none
  |some ps=>
   DT c.ask ps q (λq ps s=>
    match AJ q.st.gen (r.res.outer fn.ntmps r.boxes.length k) (HY ps),nA q.st.gen (r.cZ.map (List.map (HX.outer fn.ntmps r.boxes.length k))) (Oe q.st fn.ntmps r.boxes.length k r.new),
     (match r.new with|true=>(match q.st.aq[k]?with|some (.one (.ptr b 0))=>Nat.beq b k|_=>false)|false=>true)with
    |some l1,some l2,true=>DU c.ask c.ms (r.na T) q r.fw (l1++l2) r.cases s
    |_,_,_=>none) s
def cb.wf (T:ay) (r:cb):Bool:=(r.cB T).wf T&&r.res.fT (r.na T)&&r.cZ.all (λl=>l.all (HX.fT (r.na T)))
theorem HR.vN {h:HR} (hl:h.fT n=true):(h.outer nt m k).lt n:=by
 cases h with
 |one h=>exact HX.vN (HX.H2 hl)
 |agg l=>intro y hy;obtain⟨x,hx,rfl⟩:=aF.1 hy;exact HX.vN (HX.H2 (aX.1 hl x hx))
 |bj l=>intro p hp y hy;obtain⟨p',ja,rfl⟩:=aF.1 hp;obtain⟨x,hx,rfl⟩:=aF.1 hy;exact HX.vN (HX.H2 (aX.1 (aX.1 hl p' ja) x hx))
theorem Xd {P:Program} {st:aw} (h:st.lt n):∀{rs:List ResultVar} {ps:anu},tH P T st rs=some ps->∀x∈ps,∀y∈x.2,y.lt n
 |[],ps,e=>by simp only[tH,ae]at e;grind
 |r::rs,ps,e=>by
  simp only[tH]at e;split at e
  ·rename_i p Fv h1 h2;simp only[ae]at e;subst e;intro x hx;rcases az.1 hx with rfl|hx
   ·cases r with
    |tmp t=>
     have hg:=CX h t;simp only[AH,gF]at h1;split at h1
     ·grind
     ·rename_i y _ hy;simp only[ae]at h1;subst h1;rw[hy]at hg;intro z hz;simp only[a8]at hz;subst hz;exact hg
     ·rename_i l hl;simp only[ae]at h1;subst h1;rw[hl]at hg;exact hg
     grind
    |cell a t=>
     simp only[AH,gF]at h1;split at h1
     ·split at h1
      ·rename_i l hl;split at h1
       ·simp only[ae]at h1;subst h1;have:=h.boxes _ (aY hl);exact λz hz=>this z (mK (nE hz))
       grind
      grind
     ·split at h1
      ·rename_i l hl;split at h1
       ·grind
       ·rename_i y _ hy;split at h1
        case isFalse=>grind
        simp only[ae]at h1;subst h1;have:=h.boxes _ (aY hl);intro z hz;simp only[a8]at hz;subst hz;exact this _ (aY hy)
       grind
      grind
     grind
   ·exact Xd h h2 x hx
  grind
theorem ahM {c:XC T σ} (hc:rT c.toXCfg) {r:cb} {fn:Func} {k:Nat} {e:Px} {q:Path} {s s':σ} (h:Ok c r fn k e q s=some s') (hw:r.wf T=true) {N:Option Int} {ss:amZ} {bs:anb} (h1:fv r.args ss=true)
 (h2:lJ r.boxes bs=true) {sp:Sp} (ct:((r.cB T).dN c.ms N).sp ss bs=some sp) {ai:Kr} (hs:Sat T c.ms.f ai q) (aL:cu (r.na T) ((r.cB T).env (T:=T) c.ms.f ss bs) ai):
 zx c.P T fn bs.length k r.new sp e (q.st.den c.ms.f ai):=by
 simp only[cb.wf,aB]at hw;obtain⟨⟨w1,w2⟩,w3⟩:=hw;have ami:=bk.x9 w1;simp only[bk.dN]at ct;rw[aC (by grind)]at ct;simp only[ae]at ct;subst ct;generalize amj:(r.cB T).env (T:=T) c.ms.f ss bs=ρ0 at aL;have ph:bs.length=r.boxes.length:=(xY h2).2;have hex:∀i,e≠ .exit i:=by rintro i rfl;simp[Ok]at h
 have key:(r.new=true->(q.st.den c.ms.f ai).aq[k]?=some (.one (.ptr k 0)))/\∃ps,eV c.P T (q.st.den c.ms.f ai) fn.results.toList=some ps/\∃x,(r.cB T).Ae (T:=T) c.ms.f (comb ρ0 (r.na T) x)/\
  sN (q.st.den c.ms.f ai).gen (w4 ps) (((r.res.as (r.na T)).den c.ms.f (comb ρ0 (r.na T) x)).bH (X.outer fn.ntmps bs.length k))/\
  sO (q.st.den c.ms.f ai).gen (w6 (q.st.den c.ms.f ai) fn.ntmps bs.length k r.new) (((hU r.cZ (r.na T+r.res.len)).map (List.map (AX.den c.ms.f (comb ρ0 (r.na T) x)))).map (List.map (X.outer fn.ntmps bs.length k))):=by
  have h:(match tH c.P T q.st fn.results.toList with
   |none=>none
   |some ps=>
    DT c.ask ps q (λq ps s=>
     match AJ q.st.gen (r.res.outer fn.ntmps r.boxes.length k) (HY ps),nA q.st.gen (r.cZ.map (List.map (HX.outer fn.ntmps r.boxes.length k))) (Oe q.st fn.ntmps r.boxes.length k r.new),
      (match r.new with|true=>(match q.st.aq[k]?with|some (.one (.ptr b 0))=>Nat.beq b k|_=>false)|false=>true)with
     |some l1,some l2,true=>DU c.ask c.ms (r.na T) q r.fw (l1++l2) r.cases s
     |_,_,_=>none) s)=some s':=by
   cases e with
   |exit i=>grind
   |normal=>exact h
   |ret=>exact h
  split at h
  ·cases h
  ·rename_i ps fR;obtain⟨q1,amk,s1,s2,h,hr,ahN⟩:=Xc hc.ask h hs (Xd hs.st fR);split at h
   ·rename_i l1 l2 e1 e2 e0;obtain⟨lg,t,nS,iZ⟩:=ahL hc.ask hr.sat (λy hy=>(aL y hy).symm) h;let x:Nat->C:=λj=>match lg[j]?with|some (q,y)=>jf q (y.den c.ms.f ai)|none=>default
    have hx:comb ρ0 (r.na T) x=nB c.ms.f ai ρ0 (r.na T) lg:=rfl;have DL:iP c.ms.f ai (comb ρ0 (r.na T) x) (r.na T) (l1++l2):=by have:=H3 c.ms.f ai ρ0 (r.na T) lg;rw[nS]at this;have:=this.left;rw[<-nS,<-hx]at this;exact this
    have b0:∀y,y<r.na T->comb ρ0 (r.na T) x y=ai y:=λy hy=>by rw[comb,aC hy,aL y hy]
    have f1:=ahG (ms:=c.ms) (ρ:=ai) b0 e1 DL.left (HR.vN w2);have bR:=DL.right;rw[W0 e1,HR.AL]at bR;have hlen:(l1++l2).length=r.res.len+vL r.cZ:=by
     have ol:∀l:List (List HX),vL (l.map (List.map (HX.outer fn.ntmps r.boxes.length k)))=vL l:=λl=>by
      induction l with
      |nil=>rfl
      |cons a l ih=>simp only[bu,vL,AM,ih]
     rw[jS,W0 e1,HR.AL,W1 e2,ol]
    rw[hr.st]at e2 e0;have f2:=W2 (ms:=c.ms) (ρ:=ai) b0 e2 (ahH q.st fn.ntmps r.boxes.length k r.new) bR (λp hp h hh=>by
     obtain⟨p',ja,rfl⟩:=aF.1 hp;obtain⟨h',pG,rfl⟩:=aF.1 hh;exact HX.vN (HX.H2 (aX.1 (aX.1 w3 p' ja) h' pG)))
    rw[hr.st]at f1;refine⟨λhn=>?_,_,WX fR,x,?_,?_,?_⟩
    ·rw[hn]at e0;simp only at e0;split at e0
     ·rename_i b hb;have:=bt e0;subst this;simp only[aw.den,bP,hb];rfl
     grind
    ·have dq:(r.cB T).cases=r.cases:=rfl;unfold bk.Ae;rw[dq,hx];have xf:(r.cB T).na T+((r.cB T).no-gK T (r.cB T).fw)=r.na T+(l1++l2).length:=by show r.na T+(r.res.len+vL r.cZ+gK T r.fw-gK T r.fw)=_;rw[hlen];omega
     rw[xf];exact iZ
    ·rw[<-ahN,<-ahE,ph];rw[HR.ahI,G6 (λy=>W5 y)]at f1;exact f1
    ·rw[ph];rw[W9]at f2;have e5:((hU r.cZ (r.na T+r.res.len)).map (List.map (AX.outer fn.ntmps r.boxes.length k))).map (List.map (AX.den c.ms.f (comb ρ0 (r.na T) x)))=
      ((hU r.cZ (r.na T+r.res.len)).map (List.map (AX.den c.ms.f (comb ρ0 (r.na T) x)))).map (List.map (X.outer fn.ntmps r.boxes.length k)):=by
      simp only[da];refine cK λl _=>?_;simp only[pz,da];exact cK λy _=>W5 y
     rw[e5]at f2;exact f2
   grind
 cases e with
 |exit i=>grind
 |normal=>exact key
 |ret=>exact key
def splitAt (ask:Ask σ):List aa->Path->(Path->σ->Option σ)->σ->Option σ
 |[],p,K=>K p
 |e::r,p,K=>ig ask p (.le e) (λp=>splitAt ask r p K) (λp=>splitAt ask r p K)
theorem Xe {ask:Ask σ} (ha:ca ask) {ms:Ms T}:∀{l:amY} {p:Path} {K:Path->σ->Option σ} {s s':σ} {ρ:Kr},splitAt ask l p K s=some s'->Sat T ms.f ρ p->(∀e∈l,e.lt p.nv)->∃q s1 s2,K q s1=some s2/\Reach ms p ρ q ρ
 |[],p,K,s,s',ρ,h,hs,_=>⟨p,s,s',h, .refl hs⟩
 |e::r,p,K,s,s',ρ,h,hs,hl=>by
  simp only[splitAt]at h;obtain⟨w1,w2⟩:=nh ha h hs (hl e (by simp));have go:∀q s1 s2,splitAt ask r q K s1=some s2->Reach ms p ρ q ρ->∃q s1 s2,K q s1=some s2/\Reach ms p ρ q ρ:=λq s1 s2 h hr=>by obtain⟨q',t1,t2,h1,h2⟩:=Xe ha h hr.sat λe' he=>bg hr.nv (hl e' (by grind));exact⟨q',t1,t2,h1,hr.trans h2⟩
  cases hb:(AB.le e).den ms.f ρ with
  |true=>grind
  |false=>grind
def DV (ask:Ask σ) (ms:Ms T):List Nat->Path->(Path->σ->Option σ)->σ->Option σ
 |[],p,K=>λs=>match ask true p.Γ (.const (-2)) s with
  |(true,s)=>some s
  |(false,s)=>K p s
 |v::r,p,K=>match Nat.blt v p.nv with
  |true=>conds ask [v] ms.CP p λp=>DV ask ms r p K
  |false=>λ_=>none
theorem Xf {ask:Ask σ} (ha:ca ask) {ms:Ms T}:∀{l:amG} {p:Path} {K:Path->σ->Option σ} {s s':σ} {ρ:Kr},DV ask ms l p K s=some s'->Sat T ms.f ρ p->∃q s1,K q s1=some s'/\Reach ms p ρ q ρ
 |[],p,K,s,s',ρ,h,hs=>by
  simp only[DV]at h;cases hb:ask true p.Γ (.const (-2)) s with
  |mk b s1=>
   rw[hb]at h;cases b with
   |true=>have:=hs.entails (ha _ _ _ _ _ hb);rw[cg]at this;omega
   |false=>exact⟨p,s1,h, .refl hs⟩
 |v::r,p,K,s,s',ρ,h,hs=>by
  simp only[DV]at h;cases hv:Nat.blt v p.nv with
  |false=>grind
  |true=>
   rw[hv]at h;dsimp only at h;have hv:v<p.nv:=by simpa[Nat.blt_eq]using hv
   obtain⟨p1,s1,h,r1,n1⟩:=o8 ha (V:=λ_=>True) rfl h ms.zD (by grind) trivial hs;obtain⟨q,s2,h,r2⟩:=Xf ha h r1.sat;exact⟨q,s2,h,r1.trans r2⟩
def AO (ms:Ms T) (fn:Func) (r:cb):Path:=
 ⟨vK fn r.args r.boxes,r.pre++(rP ms 0 (AG r.args++HW r.boxes)++vB ms (DR T r.jL r.nl)),r.na T,DR T r.jL r.nl,[],[]⟩
def AP (c:XC T σ) (fn:Func) (r:cb) (splits:amY) (fin:amG) (k:Nat) (s:σ):Bool:=
 r.wf T&&Nat.beq c.na (r.na T)&&decide (c.rk=r.ij)&&splits.all (aa.fT (r.na T))&&Nat.ble r.args.length fn.ntmps&&(splitAt c.ask splits (AO c.ms fn r) (λp=>xC c (iJ fn) (.fro 0) p (λe q=>yd c.ask c.ms q.gh q λq=>DV c.ask c.ms fin q (λq=>Ok c r fn k e q))) s).isSome
theorem ahO {c:XC T σ} {N:Int} {dr:jq} (hc:rT c.toXCfg) (hd:HT c N dr) (rZ:dT (c.cfg N)) (ahP:CF (c.cfg N) dr) {gL:FuncId} {fn:Func} {r:cb} {splits:amY} {fin:amG} {k:Nat} {s:σ} (hf:c.P.funcs[gL]?=some fn)
 (hk:k<fn.ntmps) (hb:fn.body=some (iJ fn)) (h:AP c fn r splits fin k s=true) {ss:amZ} {bs:anb} {sp:Sp} (ct:((r.cB T).dN c.ms none).sp ss bs=some sp)
 (hN:r.ij.den (mu c.ms.f ((r.cB T).env (T:=T) c.ms.f ss bs))=N):iG c.P T gL ss bs sp:=by
 simp only[AP,aB,Option.isSome_iff_exists,eN]at h;obtain⟨⟨⟨⟨⟨w,fg⟩,dL⟩,ahQ⟩,hlen⟩,s',h⟩:=h;have fg:=bt fg;have tJ:(r.cB T).WF T:=bk.x9 (by simp only[cb.wf,aB]at w;grind);have AQ:=ct;simp only[bk.dN]at AQ;split at AQ
 ·rename_i fe;simp only[ae]at AQ;have Xg:(fv r.args ss&&lJ r.boxes bs)=true:=fe;simp only[aB]at Xg;obtain⟨f1,f2⟩:=Xg;have ph:=(xY f2).2;refine TA (c:=c.cfg N) (cl:=c.cl) rZ ahP hf hb k r.new hk (by rw[(Dq f1).2];simp_all) ?_ λjG=>?_
  ·subst AQ;intro x;refine⟨⟨?_,λl hl e=>?_⟩,λy hy=>⟨λb aR=>?_,?_⟩,λl hl y hy=>⟨λb aR=>?_,?_⟩⟩
   ·simp only[dI];rw[tJ.len,ph];rfl
   ·obtain⟨l0,dc,rfl⟩:=aF.1 hl;exact tJ.ne l0 dc (by simp_all)
   ·rw[tn]at hy;obtain⟨y0,iK,rfl⟩:=aF.1 hy;rw[Dl]at aR;have:=tJ.tight.1 y0 iK b aR;rw[ph];exact this
   ·rw[tn]at hy;obtain⟨y0,iK,rfl⟩:=aF.1 hy;exact Hl (tJ.op.1 y0 iK)
   ·obtain⟨l0,dc,rfl⟩:=aF.1 hl;obtain⟨y0,iK,rfl⟩:=aF.1 hy;rw[Dl]at aR;have:=tJ.tight.2 l0 dc y0 iK b aR;rw[ph];exact this
   ·obtain⟨l0,dc,rfl⟩:=aF.1 hl;obtain⟨y0,iK,rfl⟩:=aF.1 hy;exact Hl (tJ.op.2 l0 dc y0 iK)
  ·have Xh:aJ (mu c.ms.f ((r.cB T).env (T:=T) c.ms.f ss bs)) r.pre/\pb T c.ms.f ((r.cB T).env (T:=T) c.ms.f ss bs) r.jL r.nl:=by subst AQ;exact⟨jG.1,jG.2.1⟩
   have ahR:cu r.nl (lL ss bs) ((r.cB T).env (T:=T) c.ms.f ss bs):=Hi c.ms.f r.jL _ _;have hM:=WW Xh.2 tJ.jL (bh _);have Xi:(vK fn r.args r.boxes).lt r.nl:=ahC fn r.args r.boxes;have ji:r.nl<=r.na T:=fL _ _;have gf:Sat T c.ms.f ((r.cB T).env (T:=T) c.ms.f ss bs) (AO c.ms fn r):=by
    refine⟨aw.bg ji Xi,b8 tJ.pre (b8 (C0 c.ms _ _ ?_) (Na c.ms hM)),Xh.1.append ((CZ c.ms _ _).append (Nb c.ms hM)),λe w x hx=>?_,hM,(λq hq=>by cases hq),λq hq=>by cases hq⟩
    ·simp only[jS,Od,WV,AO,cb.na,cb.nl];omega
    ·simp only[AO,vK,bB]at hx;grind
   obtain⟨q,t1,t2,h,hr⟩:=Xe hc.ask h gf λe he=>Ak (aX.1 ahQ e he);have ahS:qv c.toXCfg N ((r.cB T).env (T:=T) c.ms.f ss bs) q:=⟨bg hr.nv (by rw[dL];exact tJ.ij),by grind⟩
   have:=tF hc hd (iJ fn) (Q:=zx c.P T fn bs.length k r.new sp) h hr.sat ahS (by rw[fg];exact hr.nv) λe q' s1 s2 ai h1 h2 h3 h4=>by obtain⟨q1,u0,h1,nx,_⟩:=DF hc.ask h1 h2 h2.gh;obtain⟨q2,u1,h1,jI⟩:=Xf hc.ask h1 nx.sat;rw[<-nx.st,<-jI.st];exact ahM hc h1 w f1 f2 ct jI.sat (λv hv=>h4 v (dO hv hr.nv))
   rw[hr.st]at this;have e0:(AO c.ms fn r).st.den c.ms.f ((r.cB T).env (T:=T) c.ms.f ss bs)=St.start fn ss bs:=by rw[AO,ahR.st Xi,ahB fn f1 f2]
   rw[e0]at this;exact this
 grind
end
end Go.Pv
namespace Go.Pv
open Go
noncomputable section
variable {P:Program} {T:ay} {σ:Type}
theorem Xj {ms:Ms T} {a:bk} {N:Option Int} {ss:amZ} {bs:anb} {sp:Sp} (h:(a.dN ms N).sp ss bs=some sp):
 ∃tK,(a.dN ms none).sp ss bs=some tK/\(∀x,(∃y,sp.bx x=tK.bx y))/\(sp.side->∀n,N=some n->0<=a.ij.den (mu ms.f (a.env (T:=T) ms.f ss bs))/\a.ij.den (mu ms.f (a.env (T:=T) ms.f ss bs))<n)/\
  ∀f,(sp.side->iG P T f ss bs tK)->iG P T f ss bs sp:=by
 simp only[bk.dN]at h⊢;split at h
 ·rename_i hc;rw[aC hc];simp only[ae]at h;subst h;exact⟨_,rfl,λx=>⟨x,rfl⟩,λhs=>hs.2.2,λf hf jG=>hf jG ⟨jG.1,jG.2.1,λn hn=>by cases hn⟩⟩
 ·cases h
theorem Xk {ms:Ms T} {a:bk} (hw:a.WF T) {N:Option Int} {ss:amZ} {bs:anb} {sp:Sp} (h:(a.dN ms N).sp ss bs=some sp):∀x,(sp.bx x).length=bs.length+a.new.toNat/\∀l∈sp.bx x,l≠[]:=by
 simp only[bk.dN]at h;split at h
 ·rename_i hc;simp only[ae]at h;subst h;simp only[aB]at hc;have ph:=(xY hc.2).2;intro x;refine⟨by simp only[dI];rw[hw.len,ph],λl hl e=>?_⟩;obtain⟨l0,dc,rfl⟩:=aF.1 hl;exact hw.ne l0 dc (by simpa using e)
 ·cases h
theorem ahT {ms:Ms T} {a:bk} (hw:a.WF T) {N:Option Int} {ss:amZ} {bs:anb} {sp:Sp} (h:(a.dN ms N).sp ss bs=some sp) (hk:a.kp=true):∀x,(sp.bx x)[0]?=bs[0]?:=by
 simp only[bk.dN]at h;split at h
 ·rename_i hc;simp only[ae]at h;subst h;simp only[aB]at hc;obtain⟨q,qs,l,ls,e1,e2,e3⟩:=hw.kp hk;intro x;have h2:=hc.2;have mY:=(Dq hc.1).1;have jN:=(xY hc.2).1;rw[e1]at h2 jN;cases bs with
  |nil=>cases h2
  |cons b bs=>
   simp only[lJ,aB]at h2;simp only[e2,e3,bu,lV,ae];have hq:=Dp h2.1;refine Hh ms h2.1 λj y hy=>?_;have hj:j<b.length:=by
    rcases aT j b.length with h'|h'
    ·exact h'
    ·rw[aW h']at hy;cases hy
   have ji:lens a.args+j<a.nl:=by simp only[bk.nl,e1,lK];omega
   rw[comb,aC (by simp only[bk.na];omega),bk.env,Hi ms.f a.jL a.nl _ _ ji];simp only[lL,bZ,rS,aZ,bP];rw[jR (by omega),mY,oG,mN,jQ (by simpa using hj)];simp only[id,hy];rfl
 ·cases h
theorem ahU {ms:Ms T} {a:bk} (hw:a.WF T) {N:Option Int} {ss:amZ} {bs:anb} {sp:Sp} (h:(a.dN ms N).sp ss bs=some sp) (hp:a.pl=true):∀x,∀y∈(sp.res x).xs,y.cU=[]:=by
 simp only[bk.dN]at h;split at h
 ·simp only[ae]at h;subst h;intro x y hy;simp only[tn]at hy;obtain⟨z,hz,rfl⟩:=aF.1 hy;have:=(hw.pl hp).2 z hz;cases z<;>first|rfl|(simp[AX.cU]at this)
 ·cases h
def tL (A:FuncId->Option bk) (S:FuncId->Bool) (g:Nat):Option (bk×Bool):=
 match A g with
 |some a=>some (a,S g)
 |none=>none
def ahV (P:Program) (f:FuncId):Prop:=∃fn,P.funcs[f]?=some fn/\(fn.name== "runtime.NumGoroutine")=false/\fn.body.isNone=false
theorem Ol {ms:Ms T} {A:FuncId->Option bk} {S:FuncId->Bool} (hw:∀f a,A f=some a->a.WF T) (Om:∀g a,A g=some a->S g=false->zl P T g (a.dN ms none))
 (uI:∀f a,A f=some a->S f=true->ahV P f)
 (gE:∀f a,A f=some a->S f=true->∀N,m3 P T (mA ms N (tL A S))->∀ss bs sp,(a.dN ms none).sp ss bs=some sp->a.ij.den (mu ms.f (a.env (T:=T) ms.f ss bs))=N->iG P T f ss bs sp):
 ∀f a,A f=some a->zl P T f (a.dN ms none):=by
 have mk:∀N:Int,(∀f a,A f=some a->S f=true->∀ss bs sp,(a.dN ms (some N)).sp ss bs=some sp->iG P T f ss bs sp)->m3 P T (mA ms N (tL A S)):=by
  intro N hN;have get:∀f fs,mA ms N (tL A S) f=some fs->∃a,A f=some a/\fs=a.dN ms (if S f then some N else none):=by
   intro f fs h;unfold mA tL at h;cases hA:A f with
   |none=>rw[hA]at h;cases h
   |some a=>rw[hA]at h;simp only[ae]at h;exact⟨a,rfl,h.symm⟩
  refine⟨λf fs h=>?_,λf fs ss bs sp h ct=>?_,λf fs ss bs sp h ct=>?_,λf fs ss bs sp h ct hk=>?_,λf fs ss bs sp h ct hk=>?_,λf fs h hk=>?_⟩
  ·obtain⟨a,ha,rfl⟩:=get f fs h;cases hS:S f with
   |true=>exact uI f a ha hS
   |false=>exact(Om f a ha hS).1
  ·obtain⟨a,ha,rfl⟩:=get f fs h;cases hS:S f with
   |true=>rw[hS]at ct;exact hN f a ha hS ss bs sp ct
   |false=>rw[hS]at ct;exact((Om f a ha hS).2 ss bs sp ct).1
  ·obtain⟨a,ha,rfl⟩:=get f fs h;exact Xk (hw f a ha) ct
  ·obtain⟨a,ha,rfl⟩:=get f fs h;exact ahT (hw f a ha) ct hk
  ·obtain⟨a,ha,rfl⟩:=get f fs h;exact ahU (hw f a ha) ct hk
  ·obtain⟨a,ha,rfl⟩:=get f fs h;exact((hw f a ha).pl hk).1
 have key:∀k:Nat,∀N:Int,N<=k->m3 P T (mA ms N (tL A S)):=by
  intro k;induction k with
  |zero=>intro N hN;refine mk N λf a ha hS ss bs sp ct=>?_;obtain⟨tK,h0,_,hr,hf⟩:=Xj (P:=P) ct;refine hf f λjG=>?_;have:=hr jG N rfl;omega
  |succ k ih=>intro N hN;refine mk N λf a ha hS ss bs sp ct=>?_;obtain⟨tK,h0,_,hr,hf⟩:=Xj (P:=P) ct;refine hf f λjG=>?_;have:=hr jG N rfl;exact gE f a ha hS _ (ih _ (by omega)) ss bs tK h0 rfl
 intro f a ha;cases hS:S f with
 |false=>exact Om f a ha hS
 |true=>refine⟨uI f a ha hS,λss bs sp ct=>⟨?_,Xk (hw f a ha) ct⟩⟩;exact gE f a ha hS _ (key _ _ (Int.self_le_toNat _)) ss bs sp ct rfl
theorem Xl {ms xV:Ms T} (h:xV.f=ms.f) (a:bk) (N:Option Int):a.dN xV N=a.dN ms N:=by simp only[bk.dN,h]
theorem ahW {ms xV:Ms T} (h:xV.f=ms.f) (N:Int) (specs:Nat->Option (bk×Bool)):mA xV N specs=mA ms N specs:=by
 funext g;unfold mA;cases specs g with
 |none=>rfl
 |some q=>obtain⟨a,r⟩:=q;simp only[Xl h]
theorem ahX {ms:Ms T} {A:FuncId->Option bk} {R:FuncId->Bool} {c:XCfg T σ} (hT:cr c.P T) (hm:c.P.follows .mixedOrders=true) (rR:ca c.ask) (AR:c.ms.f=ms.f) (ct:c.specs=tL A R) (hw:∀f a,A f=some a->a.WF T)
 {f:FuncId} {fn:Func} {r:cb} {splits:amY} {fin:amG} {k:Nat} {s:σ} {na:Nat} {loop:Nat->Option LA} {cl:anp} (uI:c.P.funcs[f]?=some fn) (hk:k<fn.ntmps) (hb:fn.body=some (iJ fn))
 (h:AP (c.full na loop cl) fn r splits fin k s=true) (N:Int) (hS:m3 c.P T (mA ms N (tL A R))) {ss:amZ} {bs:anb} {sp:Sp} (hs:((r.cB T).dN ms none).sp ss bs=some sp)
 (hN:(r.cB T).ij.den (mu ms.f ((r.cB T).env (T:=T) ms.f ss bs))=N):iG c.P T f ss bs sp:=by
 have Xm:rT c:=⟨rR,λg a r hg=>by
  rw[ct]at hg;unfold tL at hg;cases hA:A g with
  |none=>rw[hA]at hg;cases hg
  |some a'=>rw[hA]at hg;simp only[ae,bT]at hg;obtain⟨rfl,_⟩:=hg;exact hw g a' hA⟩
 have rZ:dT (c.cfg N):=⟨hT,by show m3 c.P T (mA c.ms N c.specs);rw[ahW AR,ct];exact hS⟩
 have hd:HT (c.full na loop cl) N (gi (c.cfg N)):=ahA Xm rZ;refine ahO (c:=c.full na loop cl) (N:=N) Xm hd rZ (qB rZ hm) uI hk hb h (by rw[show(c.full na loop cl).ms=c.ms from rfl,Xl AR];exact hs) ?_;rw[show(c.full na loop cl).ms=c.ms from rfl,AR];exact hN
end
end Go.Pv
namespace Go.Pv
open Go
structure RI where
 str:List (Nat×Bool):=[]
 ty:List Nat:=[]
 gn:List Nat:=[]
 ex:List (Nat×Nat):=[]
 lx:List Nat:=[]
 one:Bool:=false
def AT:List (List Kd×RI):=
 [([.str],{str:=[(0,true)],gn:=[0],one:=true}),
  ([.int .i64, .str, .int .i64, .sl 93, .sl 57, .sl 63, .sl 69, .sl 74, .sl 53],{str:=[(1,false)]}),
  ([.str, .sl 47],{str:=[(0,true)],ty:=[0],lx:=[1]}),
  ([.int .i64, .str, .str, .int .i64, .sl 47, .sl 9, .sl 152, .sl 49, .str, .sl 47, .int .i64],{str:=[(1,true),(2,false)],ex:=[(0,0)],lx:=[4,5,6,9]}),
  ([.int .i64, .bool, .bool, .str, .sl 109, .sl 77, .str, .sl 47, .bool, .int .i64, .str, .str, .int .i64, .sl 47, .sl 9, .sl 152, .sl 49, .str, .sl 47, .int .i64],
   {str:=[(3,false),(6,true),(10,true),(11,false)],ty:=[6],ex:=[(9,1)],lx:=[4,5,7,13,14,15,18]}),
  ([.int .i64, .bool, .bool, .str, .sl 9, .sl 60],{str:=[(3,false)],lx:=[4,5]}),
  ([.int .i64, .bool, .bool, .str, .sl 9, .sl 66],{str:=[(3,false)],lx:=[4,5]}),
  ([.int .i64, .bool, .bool, .str, .sl 71],{str:=[(3,false)],lx:=[4]}),
  ([.bool, .str, .str, .sl 47],{str:=[(1,false),(2,true)],ty:=[2],lx:=[3]}),
  ([.bool, .str, .sl 47],{str:=[(1,false)],lx:=[2]}),
  ([.str, .sl 47, .str, .sl 47, .str],{str:=[(0,false),(2,true),(4,true)],ty:=[2],lx:=[1,3]}),
  ([.str, .sl 109, .str, .sl 47, .sl 113],{str:=[(0,true),(2,true)],ty:=[2],lx:=[1,3,4]}),
  ([.str, .str, .sl 47, .bool, .int .i64, .str, .str, .int .i64, .sl 47, .sl 9, .sl 152, .sl 49, .str, .sl 47, .int .i64],
   {str:=[(0,false),(1,true),(5,true),(6,false)],ty:=[1],ex:=[(4,2)],lx:=[2,8,9,10,13]}),
  ([.str, .int .i64],{str:=[(0,false)]}),
  ([.str, .sl 9],{str:=[(0,true)],gn:=[0],lx:=[1]}),
  ([.str, .str],{str:=[(0,false),(1,true)]}),
  ([.bool, .str, .sl 9],{str:=[(1,false)],lx:=[2]}),
  ([.str, .int .i64, .int .i64, .int .i64],{str:=[(0,true)]}),
  ([.int .i64, .str, .int .i64],{str:=[(1,false)]}),
  ([.any, .bool, .bool, .str, .sl 109, .sl 1077, .str, .sl 47, .bool, .any, .any, .any, .any, .any, .any, .any, .any, .any, .any, .any],{str:=[(3,false),(6,true)],ty:=[6],lx:=[4,5,7]}),
  ([.any, .bool, .bool, .str, .sl 109, .sl 2077, .str, .sl 47, .bool, .any, .any, .any, .any, .any, .any, .any, .any, .any, .any, .any],{str:=[(3,false),(6,true)],ty:=[6],lx:=[4,5,7]}),
  ([.str, .str, .sl 47, .any, .any, .any, .any, .any, .any, .any, .any, .any, .any, .any, .any],{str:=[(0,false),(1,true)],ty:=[1],lx:=[2]}),
  ([.str, .any],{str:=[(0,false)]}),
  ([.int .i64, .str, .int .i64, .sl 2093, .sl 57, .sl 63, .sl 69, .sl 74, .sl 2053],{str:=[(1,false)]})]
def dg (ks:amQ):RI:=
 match AT.find? (λp=>decide (p.1=ks))with
 |some p=>p.2
 |none=>{}
def ahY:List (Nat×Nat):=[(4,2),(5,3),(6,2),(7,1),(8,2),(12,1),(13,1),(15,1),(17,1),(18,2),(19,2),(23,1),(24,1)]
def ahZ:List (Nat×Nat):=[(7,1),(10,1),(14,1),(16,1)]
def valid:List Nat:=[1,2,3,4,5,6,7,8,9,10,11,12,13,14,15,16,17,18,19,20,23,24]
def k9 (k:Nat):aa:=⟨0,valid.map λc=>(64*k+(20+c),1)⟩
def H4 (o md:Nat):List aa:=
 (ahY.map λp=>((af (20+p.1) o).smul p.2).sub (af 2 (o+7)))++(ahZ.map λp=>((af (20+p.1) o).smul p.2).sub (af 2 (o+4)))++[((af 2 (o+5)).add (af 33 o)).sub (af 2 (o+7)),((af 2 (o+6)).add (af 35 o)).sub (af 2 (o+7))]++
 (match md with
 |0=>[(aa.const 1).sub (k9 o)]
 |1=>[(af 1 (o-1)).sub (k9 o)]
 |3=>[((aa.const 1).sub (af 20 o)).sub (k9 o)]
 |_=>[((aa.const 1).sub (af 20 o)).sub (k9 o),((aa.const 1).sub (af 20 (o+3))).sub (k9 o),(af 16 (o+1)).sub (k9 o),(af 16 (o+2)).sub (k9 o),
  (af 10 (o+4)).sub (k9 o),(af 10 (o+5)).sub (k9 o),(af 10 (o+6)).sub (k9 o),(af 10 (o+7)).sub (k9 o)])
def tM (r:RI) (j:Nat):Bool:=r.ex.any λp=>p.2 !=0&&Nat.ble p.1 j&&Nat.blt j (p.1+11)
def ah0 (m:Nat):Bool:=[7,8,17,18,58].contains m
def typeAt (r:RI) (j:Nat):Bool:=r.ex.any λp=>j==p.1+9
def H5:Kd->Bool
 | .sl e=>e==49||e==77||e==53
 |_=>false
def On:Kd->Bool
 | .sl _=>true
 |_=>false
def ah1:Kd->Bool
 | .sl e=>e==9
 |_=>false
def ah2:Kd->Bool
 | .sl e=>e==53
 |_=>false
def r5 (e:Nat):Bool:=e==53||e==77
def Xn:Kd->Bool
 | .sl e=>r5 e
 |_=>false
def ah3 (ks:amQ) (j:Nat):Bool:=j==4&&(match ks.drop 4 with| .sl 9:: .sl e::_=>e==60||e==66| .sl 109::_=>true|_=>false)
def aH (m:Nat) (ks:amQ) (j:Nat):Bool:=
 (match ks[j]?with|some k=>On k&&(bif Nat.beq m 9 then H5 k else bif Nat.beq m 8 then !ah1 k else bif Nat.beq m 53 then ah2 k else bif Nat.beq m 58 then Xn k else true)|none=>false)&&
 !(ah0 m&&tM (dg ks) j)&&!([4,5,6,17,18].contains m&&typeAt (dg ks) j)&&(m !=19||ah3 ks j)&&!(m==54||m==55)
def r7 (l:List (Nat×Bool)) (d f:Nat):aa:=l.foldr (λp acc=>(af (if p.2 then f else d) p.1).add acc) (.const 0)
def ah4:aa:=(((af 4 4).add (af 4 5)).add (af 4 6)).bI (-6500000)
def ah5 (r:RI):Bool:=r.ex.any λp=>p.1==0&&p.2==0
def AU (r:RI) (j:Nat):Bool:=r.ex.any λp=>(p.2==1&&Nat.beq (j+1) p.1)||(p.2 !=0&&Nat.ble p.1 j&&Nat.blt j (p.1+11))
def yh (h:Bool) (ks:amQ) (j:Nat):Bool:=h&&AU (dg ks) j
def ah6 (o md:Nat):List aa:=(if md==1 then[af 1 (o-1)]else[])++([0,3,10].map λj=>(aa.const 1).sub (af 20 (o+j)))++([1,2,8].map λj=>af 3 (o+j))++[4,5,6,7,9].map λj=>af 2 (o+j)
def wF (m:Nat) (r:RI):List aa:=
 match m with
 |4=>[.const 1]
 |18=>[.const 1]
 |5=>[r7 r.str 13 14]
 |6=>[r7 r.str 13 15]
 |17=>[r7 (r.str.filter λp=>!tM r p.1) 13 15]
 |7=>(r.lx.filter λj=>!tM r j).map λj=>(af 2 j).bI (-12)
 |8=>r.ty.map λo=>(af 11 o).sub (af 2 (o+1))
 |9=>r.ex.flatMap λp=>H4 p.1 p.2
 |53=>(r.ex.filter λp=>p.2==1).flatMap λp=>H4 p.1 3
 |19=>r.gn.map λo=>af 11 o
 |52=>bif r.one then[(aa.const 1).sub (af 16 0)]else[]
 |55=>bif r.one then[af 13 0]else[]
 |54=>bif ah5 r then[af 2 7,ah4]else[]
 |58=>(r.ex.filter λp=>p.2 !=0).flatMap λp=>ah6 p.1 p.2
 |_=>[]
def bW:List Nat:=[4,5,6,7,8,9,17,18,19,52,53,54,55,58]
def kf:List (Nat×Bool):=[(56,false),(57,true)]
def lf:List Nat:=[4,5,6,17,18]
def Oo:List Nat:=[7,8,9,53,19,54,55,58]
def fI (a b:aa):List aa:=[a.sub b,b.sub a]
def Xo (m:Nat) (ks:amQ):List Nat:=(List.range ks.length).filter (aH m ks)
def DW (m b:Nat) (l:amG):aa:=l.foldr (λj acc=>(af m (b+j)).add acc) (.const 0)
def r9 (m:Nat) (ks:amQ) (b:Nat):aa:=DW m b (Xo m ks)
def yi (b:Nat) (e:aa):aa:=e.cV (b+ ·)
def ah7 (ks:amQ) (b:Nat) (tot:Nat->aa) (m:Nat):List aa:=
 let rest:=(tot m).sub (r9 m ks b)
 (bif lf.contains m then[]else[rest])++(wF m (dg ks)).map λg=>rest.sub (yi b g)
def H6 (ks:amQ) (b:Nat) (tot:Nat->aa):List aa:=bW.flatMap (ah7 ks b tot)
def Oq (ks:amQ) (b:Nat) (tot:Nat->aa) (m:Nat):List aa:=
 match wF m (dg ks)with
 |[]=>[(r9 m ks b).sub (tot m)]
 |[g]=>bif lf.contains m||Nat.beq m 52 then[((r9 m ks b).add (yi b g)).sub (tot m)]else[]
 |_=>[]
def Ot (ks:amQ) (b:Nat) (tot:Nat->aa):List aa:=bW.flatMap (Oq ks b tot)
def Ou (ks:amQ) (b:Nat) (tot:Nat->aa):List (List aa×List aa):=
 Oo.flatMap λm=>match wF m (dg ks)with|[]=>[]|l=>[(l.map λg=>(yi b g).neg,[(r9 m ks b).sub (tot m)])]
def ah8 (b:Nat) (ks:amQ) (r:RI):List (List aa×List aa):=
 ((List.range ks.length).filter λj=>match ks[j]?with|some k=>On k|none=>false).map (λj=>([(af 2 (b+j)).neg],bW.map λm=>(af m (b+j)).neg))++
 r.str.map (λp=>if p.2 then([(af 3 (b+p.1)).neg.bI 41],[(af 14 (b+p.1)).neg])else([(af 3 (b+p.1)).neg.bI 20],[(af 13 (b+p.1)).neg]))
def Ov (b:Nat) (ks:amQ):List (List aa×List aa):=ah8 b ks (dg ks)
def AV:Kd->List aa
 | .int .i64=>valid.map (λc=>af (20+c) 0)++[af 20 0,(af 20 0).neg.bI 1,((aa.const 1).sub (af 20 0)).sub (k9 0)]
 | .bool=>[af 1 0,(af 1 0).neg.bI 1]
 | .str=>[af 3 0,af 13 0,af 14 0,af 15 0,(af 13 0).sub (af 14 0),(af 14 0).sub (af 15 0),((af 13 0).sub (af 3 0)).bI 20,((af 14 0).sub (af 3 0)).bI 41,((af 15 0).sub (af 3 0)).bI 64,
  (af 3 0).sub (af 13 0),af 16 0,(af 16 0).neg.bI 1,(af 3 0).sub (af 16 0),af 11 0,(af 11 0).neg.bI 1,(af 3 0).sub ((af 11 0).smul 5),af 12 0,((af 12 0).neg.bI 1).sub (af 11 0),(af 3 0).sub (af 12 0)]
 | .sl _=>[af 2 0,(af 4 0).sub (af 2 0),af 6 0,(af 5 0).sub (af 6 0),af 17 0,(af 6 0).sub (af 17 0),(af 18 0).sub (af 2 0),(af 4 0).sub (af 18 0),af 7 0,af 8 0,af 9 0,af 52 0,af 53 0,af 54 0,af 55 0,af 58 0,af 19 0,af 10 0,(af 10 0).neg.bI 1,(af 2 0).sub (af 10 0)]
 |_=>[]
def Ow (ks:amQ):Bool:=ks.all λk=>!On k
def sa:List Nat:=[2030,2093,57,63,69,74,2053,9,60,66,71,109,2077,47,113]
def H7 (ks:amQ):Bool:=(dg ks).ex.isEmpty&&ks.all λk=>match k with| .sl e=>sa.contains e|_=>true
def Xp (e:Nat) (ks:amQ):List aa:=
 (if e==47 then[(af 18 0).sub (af 4 0)]else[])++(if e==2030 then[(af 17 0).sub (af 6 0),(af 18 0).sub (af 4 0)]else[])++(if e==49||e==77||e==53||ks.any H5 then[]else[(af 9 0).neg])++
 (if Ow ks then[(af 2 0).sub (af 4 0),(af 2 0).sub (af 18 0),(af 7 0).neg]++(if(dg ks).ty.isEmpty then[(af 8 0).neg]else[])else[])
def H8:ByteArray:=⟨#[65,114,114,97,121]⟩
def iz (t:Nat) (s:ByteArray):Int:=if s.size<=t then 0 else(s.size:Int)-t
def H9 (m:Nat) (s:ByteArray):Option Int:=
 match m with
 |3=>some s.size
 |11=>some (if s.toList==H8.toList then 1 else 0)
 |12=>some (if s.toList.contains 46 then 1 else 0)
 |13=>some (iz 20 s)
 |14=>some (iz 41 s)
 |15=>some (iz 64 s)
 |16=>some (if s.size=0 then 0 else 1)
 |_=>none
def AW (md:Nat):List aa:=(H4 0 md).map aa.neg++([4,5,6,7].flatMap λj=>[(af 9 j).neg,(af 6 j).neg])++[(aa.const 2200000000).sub (((af 4 4).add (af 4 5)).add ((af 4 6).add (af 4 7)))]++[(af 15 1).neg,(af 13 2).neg]
def pj (e s:Nat):List aa:=
 match e,s with
 |1053,9=>AW 3
 |1553,9=>(k9 0).bI (-1)::AW 3
 |1077,4=>AW 2
 |1047,0=>[(af 8 1).neg,(af 2 1).sub (af 11 0),(af 6 1).neg,(af 15 0).neg,(aa.const 500000).sub (af 4 1)]
 |_,_=>[]
def tN (m:Nat):Bool:=[2,4,5,6,7,8,9,10,17,18,19,52,53,54,55,56,57,58].contains m
def tO (m:Nat):Bool:=Nat.beq (Nat.land (Nat.shiftRight 571957152676972532 m) 1) 1
def DX (m:Nat):LJ:=if m=0 then .int else if m=1 then .bool else if tN m then .rows else if m<20 then .str else if m=59 then .str else .int
def AY (m:Nat):LJ:=match Nat.beq m 0 with|true=> .int|false=>match Nat.beq m 1 with|true=> .bool|false=>match tO m with|true=> .rows|false=>match Nat.ble m 19 with|true=> .str|false=>match Nat.beq m 59 with|true=> .str|false=> .int
def Xq:List aa:=(bW.map λm=>(af m 0).sub (af m 1))++([7,8,17,18,19,10].flatMap λm=>fI (af m 0) (af m 1))
def Xr (s:ByteArray):List aa:=[11,12,13,14,15,16].flatMap λm=>match H9 m s with|some v=>fI (af m 0) (.const v)|none=>[]
def Ox (s:ByteArray):Option (Nat×Int):=if s.size=0 then some (3,0)else if s.toList==H8.toList then some (11,1)else none
def DY:List (List aa×List aa):=[([(af 3 0).neg.bI 20],[(af 13 0).neg]),([(af 3 0).neg.bI 41],[(af 14 0).neg]),([(af 3 0).neg.bI 64],[(af 15 0).neg])]
def Xs:List (List aa×List aa):=DY++[([(af 11 0).bI (-1)],[(af 13 0).neg,(af 14 0).neg,(af 15 0).neg]),([(af 2 0).neg],bW.map λm=>(af m 0).neg),([(af 58 0).neg],fI (af 56 0) (af 57 0)),([(af 2 0).neg],kf.flatMap λm=>fI (af m.1 0) (.const 0))]
def Oy:List aa:=[(af 12 2).sub (af 12 0),(af 12 2).sub (af 12 1),((af 13 0).add (af 13 1)).sub (af 14 2),((af 13 0).add (af 13 1)).sub (af 15 2),((af 13 0).add (af 14 1)).sub (af 15 2),((af 14 0).add (af 13 1)).sub (af 15 2),((af 14 0).add (af 3 1)).sub (af 14 2),((af 15 0).add (af 3 1)).sub (af 15 2)]
def Oz:List aa:=[12,13,14,15].map λm=>(af m 0).sub (af m 1)
def Ia:List Nat:=56::57::10::bW
def Xt:List aa:=Ia.flatMap λm=>fI (af m 0) (.const 0)
def Xu (ks:amQ):List aa:=H6 ks 1 (λm=>af m 0)
def Xv:List aa:=bW.flatMap λm=>fI (af m 2) ((af m 0).add (af m 1))
def tP (m:Nat):aa:=(af m 1).sub (af m 0)
def Xw (ks:amQ):List aa:=H6 ks 2 tP++(Ot ks 2 tP++[(af 10 1).bI (-1)])
def Xx (ks:amQ):List (List aa×List aa):=Ov 2 ks++Ou ks 2 tP
def tQ (m:Nat) (ks:amQ) (b:Nat):aa:=match wF m (dg ks)with|[g]=>(r9 m ks b).add (yi b g)|_=>r9 m ks b
def Xy (ks:amQ):List aa:=lf.flatMap λm=>fI ((af m 1).add (tQ m ks 2)) ((af m 0).add (tQ m ks (2+ks.length)))
def Xz:List aa:=fI (af 4 0) (af 2 0)++fI (af 18 0) (af 2 0)++[5,6,7,8,17,19].flatMap λm=>fI (af m 0) (.const 0)
def XA:List aa:=[11,12,13,14,15,16,59].flatMap λm=>fI (af m 1) (af m 0)
def XB:List aa:=Ia.flatMap λm=>fI (af m 1) (af m 0)
def XD (m:Nat):Option Int:=if tO m then some 0 else none
def AZ (ks:amQ):List aa:=lf.map λm=>((af m 0).sub (af m 1)).sub (tQ m ks 2)
def XE (ks:amQ) (k:Nat):List aa:=lf.map λm=>(List.range k).foldr (λi acc=>acc.sub (tQ m ks (1+i*ks.length))) (af m 0)
def XF:List aa:=bW.map λm=>(af m 0).sub (af m 1)
def DZ (l:Bool) (m:Nat) (k:Kd) (x y:Nat):List aa:=
 match k with
 | .int _=>fI (af 0 x) (af 0 y)
 | .bool=>fI (af 1 x) (af 1 y)
 | .str=>fI (af 59 x) (af 59 y)
 | .sl e=>fI (af (bif r5 e then m else 56) x) (af (bif r5 e then m else 56) y)++(bif l then fI (af 2 x) (af 2 y)else[])
 |_=>[]
def A0 (l:Bool) (m:Nat×Bool) (ks:amQ) (b b':Nat):List aa:=
 (List.range ks.length).flatMap λj=>bif yh m.2 ks j then[]else match ks[j]?with|some k=>DZ l m.1 k (b+j) (b'+j)|none=>[]
def XG (ks:amQ):List (List aa×List aa):=kf.map λm=>(fI (af m.1 0) (af m.1 2)++A0 false m ks 4 (4+ks.length),fI (af m.1 1) (af m.1 3))
def XH (ks:amQ):List (List aa×List aa):=kf.map λm=>(fI (af m.1 0) (af m.1 1),A0 true m ks 2 (2+ks.length))
def OA (ks:amQ):List (List aa×List aa):=bif (dg ks).ex.any (λp=>p.2 !=0)then[(A0 false (57,true) ks 2 (2+ks.length),fI (af 57 0) (af 57 1))]else[]
def XI:List (List aa×List aa):=[0,1].map λi=>([(af 2 i).neg],kf.flatMap λm=>fI (af m.1 2) (af m.1 (1-i)))
end Go.Pv
namespace Go.Pv
open Go
section
variable (w:List C->Int) (sel:List Kd->Nat->Bool)
mutual
def ew:C->Int
 | .int _ _=>0
 | .bool _=>0
 | .str _=>0
 | .any=>0
 | .sl _ rows=>aS rows
def eG (ks:amQ):Nat->List C->Int
 |_,[]=>0
 |j,c::r=>(match sel ks j with|true=>ew c|false=>0)+eG ks (j+1) r
def aS:List (List C)->Int
 |[]=>0
 |r::rs=>w r+eG (r.map C.kd) 0 r+aS rs
end
end
variable {w:List C->Int} {sel:List Kd->Nat->Bool}
theorem yj (c:C):ew w sel c=aS w sel (ah c):=by cases c<;>simp[ew,ah,aS]
def dJ (w:List C->Int) (sel:List Kd->Nat->Bool) (r:amS):Int:=w r+eG w sel (r.map C.kd) 0 r
theorem D0:∀a b:Y9,aS w sel (a++b)=aS w sel a+aS w sel b
 |[],b=>by simp[aS]
 |r::a,b=>by simp only[P9,aS,D0 a b];omega
theorem D1 (a:Y9) (r:amS):aS w sel (a++[r])=aS w sel a+dJ w sel r:=by rw[D0];simp[aS,dJ]
section
variable (hw:∀r,0<=w r)
include hw
mutual
theorem A1:∀c,0<=ew w sel c
 | .int _ _=>by simp[ew]
 | .bool _=>by simp[ew]
 | .str _=>by simp[ew]
 | .any=>by simp[ew]
 | .sl _ rows=>by rw[ew];exact mE rows
theorem A2 (ks:amQ):∀(j:Nat) (r:amS),0<=eG w sel ks j r
 |_,[]=>by simp[eG]
 |j,c::r=>by have h1:=A1 c;have h2:=A2 ks (j+1) r;rw[eG];cases sel ks j<;>simp only<;>omega
theorem mE:∀rows,0<=aS w sel rows
 |[]=>by simp[aS]
 |r::rs=>by have h1:=hw r;have h2:=A2 (r.map C.kd) 0 r;have h3:=mE rs;rw[aS];omega
end
theorem ah9 (r:amS):0<=dJ w sel r:=by have:=hw r;have:=A2 (sel:=sel) hw (r.map C.kd) 0 r;unfold dJ;omega
theorem aia (a:Y9) (i:Nat):aS w sel (a.drop i)<=aS w sel a:=by have h:=D0 (w:=w) (sel:=sel) (a.take i) (a.drop i);have:=mE (sel:=sel) hw (a.take i);rw[ZR]at h;omega
theorem Ib (a:Y9) (i:Nat):aS w sel (a.take i)<=aS w sel a:=by have h:=D0 (w:=w) (sel:=sel) (a.take i) (a.drop i);have:=mE (sel:=sel) hw (a.drop i);rw[ZR]at h;omega
end
theorem A3:∀(a:Y9) (i:Nat),i<a.length->
 aS w sel a=aS w sel (a.take i)+dJ w sel (a.getD i [])+aS w sel (a.drop (i+1))
 |[],i,h=>by simp at h
 |r::a,0,_=>by simp[aS,dJ]
 |r::a,i+1,h=>by have:=A3 a i (by simpa using h);simp only[List.take_succ_cons,List.drop_succ_cons,aS,ZS];omega
theorem aib (hw:∀r,0<=w r) (a:Y9):∀is:amG,is.Nodup->(∀i∈is,i<a.length)->(is.map λi=>dJ w sel (a.getD i [])).sum<=aS w sel a:=by
 intro is;induction a generalizing is with
 |nil=>
  intro _ h;cases is with
  |nil=>simp[aS]
  |cons i is=>have:=h i (by simp);simp at this
 |cons r a ih=>
  intro dv h;have key:∀is:amG,is.Nodup->(∀i∈is,i<(r::a).length)->(is.map λi=>dJ w sel ((r::a).getD i [])).sum<=
   (if 0∈is then dJ w sel r else 0)+(((is.filter (· ≠0)).map (· -1)).map λi=>dJ w sel (a.getD i [])).sum:=by
   intro is dv h;induction is with
   |nil=>simp
   |cons i is OB=>
    have h1:=OB (Jr.1 dv).2 λk hk=>h k (by simp[hk]);have rb:=(Jr.1 dv).1;cases i with
    |zero=>have h0:¬0∈is:=rb;rw[aQ h0]at h1;rw[ZT (by simp),aC (by simp),bu,Qo,ZL];omega
    |succ i=>
     rw[ZU (by simp),bu,bu,bu,Qo,Qo,ZS,P4];by_cases h0:0∈is
     ·rw[aC h0]at h1;rw[aC (by simp[h0])];omega
     ·rw[aQ h0]at h1;rw[aQ (by simp[h0])];omega
  have h1:=key is dv h;have jC:∀i∈(is.filter (· ≠0)).map (· -1),i<a.length:=by intro i hi;obtain⟨k,hk,rfl⟩:=aF.1 hi;have hk:=ki.1 hk;have:=h k hk.1;simp at this hk;omega
  have aic:((is.filter (· ≠0)).map (· -1)).Nodup:=by
   refine List.Pairwise.map (R:=λx y=>x-1≠y-1) (S:=(· ≠ ·)) _ ?_ (List.Pairwise.imp_of_mem (S:=λx y=>x-1≠y-1) ?_ (alL _ dv))
   ·exact λa b h=>h
   ·intro x y hx hy al;have hx:=(ki.1 hx).2;have hy:=(ki.1 hy).2;simp at hx hy;omega
  have h2:=ih _ aic jC;have h3:=ah9 (sel:=sel) hw r;have h4:aS w sel (r::a)=dJ w sel r+aS w sel a:=by simp[aS,dJ]
  rw[h4];split at h1<;>omega
def fJ (a b:Nat):Nat:=2^a*(2*b+1)
def Ic:Int->Nat
 | .ofNat k=>2*k
 | .negSucc k=>2*k+1
def A4 (s:ByteArray):Nat:=s.data.toList.foldr (λb a=>fJ b.toNat a) 0
mutual
def kF (h:Bool):C->Nat
 | .int _ n=>Ic n
 | .bool b=>bif b then 1 else 0
 | .str s=>A4 s
 | .any=>0
 | .sl e rows=>js (h&&r5 e) 0 rows
def nC (h:Bool) (ks:amQ):Nat->List C->Nat
 |_,[]=>0
 |j,c::r=>fJ (bif yh h ks j then 0 else kF h c) (nC h ks (j+1) r)
def js (h:Bool):Nat->List (List C)->Nat
 |a,[]=>a
 |a,r::rs=>js h (fJ a (nC h (r.map C.kd) 0 r)) rs
end
def f0 (m:Nat) (c:C):Int:=
 match m with
 |0=>cD c
 |1=>if jh c then 1 else 0
 |2=>(ah c).length
 |3=>(aA c).size
 |10=>if(ah c).length=0 then 0 else 1
 |11=>if(aA c).toList==H8.toList then 1 else 0
 |12=>if(aA c).toList.contains 46 then 1 else 0
 |13=>iz 20 (aA c)
 |14=>iz 41 (aA c)
 |15=>iz 64 (aA c)
 |16=>if(aA c).size=0 then 0 else 1
 |56=>(js false 0 (ah c):Nat)
 |57=>(js true 0 (ah c):Nat)
 |59=>(A4 (aA c):Nat)
 |m=>if 20<=m/\m<51/\cD c=((m-20:Nat):Int)then 1 else 0
def fA (m:Nat) (c:C):Int:=if m=4 then ew (λ_=>1) (aH 4) c else f0 m c
def wt (l:amY) (r:amS):Int:=l.foldr (λg a=>max (g.den (mu fA (bZ r))) a) 0
def wM (m:Nat) (r:amS):Int:=wt (wF m (dg (r.map C.kd))) r
def fD (m:Nat) (c:C):Int:=match bW.contains m with|true=>ew (wM m) (aH m) c|false=>f0 m c
theorem Ie:∀(l:amY) (r:amS),0<=wt l r
 |[],_=>iU 0
 |g::l,r=>by have:=Ie l r;simp only[wt,lr]at this⊢;omega
theorem OC {l:amY} {g:aa} (h:g∈l) (r:amS):g.den (mu fA (bZ r))<=wt l r:=by
 induction l with
 |nil=>cases h
 |cons a l ih=>
  simp only[wt,lr]at ih⊢;rcases az.1 h with rfl|h
  ·omega
  ·have:=ih h;omega
theorem OD {l:amY} {k:Int} (hk:0<=k) {r:amS} (h:∀g∈l,g.den (mu fA (bZ r))<=k):wt l r<=k:=by
 induction l with
 |nil=>exact hk
 |cons a l ih=>have h1:=ih λg hg=>h g (by simp[hg]);have h2:=h a (by simp);simp only[wt,lr]at h1⊢;omega
theorem jt (m:Nat) (r:amS):0<=wM m r:=Ie _ _
theorem eL {m:Nat} (h:m∈bW) (c:C):fD m c=aS (wM m) (aH m) (ah c):=by
 have h1:bW.contains m=true:=by simpa using h
 simp only[fD,h1,yj]
theorem lh {m:Nat} (h:m∉bW) (c:C):fD m c=f0 m c:=by
 have h1:bW.contains m=false:=by simpa using h
 simp only[fD,h1]
theorem OE {m:Nat} (h:m∉bW\/m=4) (c:C):fD m c=fA m c:=by
 by_cases h4:m=4
 ·subst h4;have hw:wM 4=λ_=>1:=by funext r;simp only[wM,wF,wt,lr,yI,cg];rfl
  rw[eL (by simp[bW]),hw,fA,aC rfl,yj]
 ·rcases h with h|h
  ·rw[lh h,fA,aQ h4]
  ·exact absurd h h4
def okF (g:aa):Bool:=g.l.all λp=>!bW.contains (p.1%64)||p.1%64==4
theorem aid {g:aa} (h:okF g=true) (ρ:Kr):g.den (mu fD ρ)=g.den (mu fA ρ):=by unfold aa.den;congr 1;refine F5 λp hp=>?_;have:=aX.1 h p hp;simp only[iT,gy,qN]at this;exact OE (this.imp (λh=>by simpa using h) id) _
end Go.Pv
namespace Go.Pv
open Go
theorem OF {Q:List Kd->RI->Prop} (h0:∀ks,Q ks {}) (h:∀p∈AT,Q p.1 p.2) (ks:amQ):Q ks (dg ks):=by
 unfold dg;split
 ·rename_i p hp;have:=v8 hp;simp only[eN]at this;rw[<-this];exact h p (uc hp)
 ·exact h0 ks
def vO (n:Nat) (g:aa):Bool:=g.l.all λp=>Nat.blt p.1 (64*n)
theorem XJ {n:Nat} {g:aa} (h:vO n g=true):g.lt n:=λp hp=>by have:=aX.1 h p hp;exact fy this
def D2 (q:Nat->Nat->aa->Bool) (ms:amG):Bool:=(ms.all λm=>(wF m {}).all (q m 0))&&AT.all λp=>ms.all λm=>(wF m p.2).all (q m p.1.length)
theorem OG {q:Nat->Nat->aa->Bool} {ms:amG} (h:D2 q ms=true) {m:Nat} (hm:m∈ms) (ks:amQ):∃n,n<=ks.length/\∀g∈wF m (dg ks),q m n g=true:=by
 simp only[D2,aB]at h;refine OF (Q:=λks r=>∃n,n<=ks.length/\∀g∈wF m r,q m n g=true) (λks=>⟨0,gk _,λg hg=>?_⟩) (λp hp=>⟨_,bh _,λg hg=>?_⟩) ks
 ·exact aX.1 (aX.1 h.1 m hm) g hg
 ·exact aX.1 (aX.1 (aX.1 h.2 p hp) m hm) g hg
theorem aie:D2 (λ_ n g=>vO n g&&okF g) bW=true:=by kernel_rfl
theorem vP {m:Nat} (hm:m∈bW) {ks:amQ} {g:aa} (hg:g∈wF m (dg ks)):g.lt ks.length/\okF g=true:=by obtain⟨n,hn,h⟩:=OG aie hm ks;have:=h g hg;simp only[aB]at this;exact⟨bg hn (XJ this.1),this.2⟩
theorem pk {m:Nat} (h:m∈lf):m∈bW:=by simp only[lf,bW,az,bL,bM]at h⊢;omega
theorem XK {m:Nat} (h:m∈Oo):m∈bW:=by simp only[Oo,bW,az,bL,bM]at h⊢;omega
theorem ec {m:Nat} (h:m∈bW):m<64:=by simp only[bW,az,bL,bM]at h;omega
def OH (m:Nat):Bool:=[2,3,11,12,13,14,15,16].contains m
theorem OI (t:Nat) (s:ByteArray):0<=iz t s:=by unfold iz;split<;>omega
theorem aif {m:Nat} (h:OH m=true) (c:C):0<=fA m c:=by
 simp only[OH,jT,az,bL,bM]at h;have h4:m≠4:=by omega
 rw[fA,aQ h4];rcases h with rfl|rfl|rfl|rfl|rfl|rfl|rfl|rfl<;>simp only[f0]<;>first|exact OI _ _|omega|(split<;>omega)
def Ig (g:aa):Bool:=decide (0<=g.c)&&g.l.all λp=>decide (0<=p.2)&&OH (p.1%64)
theorem XL {μ:Nat->Int}:∀{l:ano},(∀p∈l,0<=p.2/\0<=μ p.1)->0<=b9 μ l
 |[],_=>by simp[b9]
 |p::l,h=>by have h1:=h p (by simp);have h2:=XL (l:=l) λq hq=>h q (by simp[hq]);have h3:=Int.mul_nonneg h1.1 h1.2;simp only[b9];omega
theorem XM {g:aa} (h:Ig g=true) (ρ:Kr):0<=g.den (mu fA ρ):=by
 simp only[Ig,aB,eN]at h;have:=XL (μ:=mu fA ρ) (l:=g.l) λp hp=>by have:=aX.1 h.2 p hp;simp only[aB,eN]at this;exact⟨this.1,aif this.2 _⟩
 unfold aa.den;omega
theorem aih:D2 (λ_ _ g=>Ig g) lf=true:=by kernel_rfl
theorem XN {m:Nat} (hm:m∈lf) (r:RI):∃g,wF m r=[g]:=by simp only[lf,az,bL,bM]at hm;rcases hm with rfl|rfl|rfl|rfl|rfl<;>exact⟨_,rfl⟩
theorem XO {m:Nat} (hm:m∈lf) {ks:amQ} {g:aa} (hg:wF m (dg ks)=[g]) {r:amS} (hr:r.map C.kd=ks):wM m r=g.den (mu fA (bZ r)):=by obtain⟨n,_,h⟩:=OG aih hm ks;have:=XM (h g (by rw[hg];simp)) (bZ r);rw[wM,hr,hg];simp only[wt,lr,yI];omega
theorem aii {ks:amQ} {g:aa} (hg:wF 52 (dg ks)=[g]) {r:amS} (hr:r.map C.kd=ks):wM 52 r=g.den (mu fA (bZ r)):=by
 rw[wM,hr,hg];simp only[wt,lr,yI];have:0<=g.den (mu fA (bZ r)):=by
  simp only[wF]at hg;cases ho:(dg ks).one with
  |false=>rw[ho]at hg;cases hg
  |true=>rw[ho]at hg;simp only[mJ,ua,lU]at hg;rw[<-hg,br,cg,au _ _ (by omega)];simp only[fA,f0];split<;>omega
 omega
def iR (ρ:Kr) (b:Nat) (r:amS):Prop:=∀j,j<r.length->ρ (b+j)=r.getD j default
theorem Ih {ρ:Kr} {b:Nat} {r:amS} (h:iR ρ b r) {g:aa} (hg:g.lt r.length) (ho:okF g=true):(yi b g).den (mu fD ρ)=g.den (mu fA (bZ r)):=by rw[yi,CK,<-aid ho];refine vi hg λa ha=>?_;simp only[mu];congr 1;rw[h _ (by omega)];rfl
theorem Ii {n b k:Nat} {g:aa} (hg:g.lt k) (h:b+k<=n):(yi b g).lt n:=F8 hg λx hx=>by omega
theorem XP {n m b:Nat} (hm:m<64):∀{l:amG},(∀j∈l,b+j<n)->(DW m b l).lt n
 |[],_=>dY _ _
 |j::l,h=>nd (aI (h j (by simp)) hm) (XP hm λk hk=>h k (by simp[hk]))
theorem D3 {n m b:Nat} {ks:amQ} (hm:m<64) (h:b+ks.length<=n):(r9 m ks b).lt n:=XP hm λj hj=>by have:=dP.1 (ki.1 hj).1;omega
theorem XQ {m:Nat} (hm:m∈bW) {ρ:Kr} {b:Nat} (ks:amQ):∀(r:amS) (j0:Nat),(∀j,j<r.length->ρ (b+(j0+j))=r.getD j default)->
 (DW m b ((List.range' j0 r.length).filter (aH m ks))).den (mu fD ρ)=eG (wM m) (aH m) ks j0 r
 |[],j0,_=>by simp[DW,eG,cg]
 |c::r,j0,h=>by
  have ih:=XQ hm (ρ:=ρ) (b:=b) ks r (j0+1) λj hj=>by have:=h (j+1) (by simp;omega);rw[show b+(j0+1+j)=b+(j0+(j+1))by omega,this];rfl
  rw[eH,List.range'_succ,eG];have h0:ρ (b+j0)=c:=by have:=h 0 (by simp);simpa using this
  cases hs:aH m ks j0 with
  |true=>rw[ZU hs];simp only[DW,lr]at ih⊢;rw[den_add,ih,au _ _ (ec hm),h0,eL hm,yj]
  |false=>rw[ZT (by simp[hs]),ih];simp
theorem Ij {m:Nat} (hm:m∈bW) {ρ:Kr} {b:Nat} {r:amS} (h:iR ρ b r):(r9 m (r.map C.kd) b).den (mu fD ρ)=eG (wM m) (aH m) (r.map C.kd) 0 r:=by rw[r9,Xo,dI,List.range_eq_range'];exact XQ hm _ r 0 λj hj=>by rw[eI];exact h j hj
theorem Ik {m:Nat} (hm:m∈lf) {ρ:Kr} {b:Nat} {r:amS} (h:iR ρ b r):(tQ m (r.map C.kd) b).den (mu fD ρ)=dJ (wM m) (aH m) r:=by obtain⟨g,hg⟩:=XN hm (dg (r.map C.kd));obtain⟨h1,h2⟩:=vP (pk hm) (g:=g) (by rw[hg];simp);rw[dI]at h1;simp only[tQ,hg];rw[den_add,Ij (pk hm) h,Ih h h1 h2,dJ,XO hm hg rfl];omega
theorem Il {m n b:Nat} {ks:amQ} (hm:m∈lf) (h:b+ks.length<=n):(tQ m ks b).lt n:=by obtain⟨g,hg⟩:=XN hm (dg ks);simp only[tQ,hg];exact nd (D3 (ec (pk hm)) h) (Ii (vP (pk hm) (by rw[hg];simp)).1 h)
theorem XR {ρ:Kr} {b:Nat} {r:amS} (h:iR ρ b r) {tot:Nat->aa} (ht:∀m∈bW,dJ (wM m) (aH m) r<=(tot m).den (mu fD ρ)):aJ (mu fD ρ) (H6 (r.map C.kd) b tot):=by
 intro g hg;obtain⟨m,hm,hg⟩:=ba.1 hg;have h1:=ht m hm;have h2:=Ij hm h;have h3:=jt m r;rw[dJ]at h1;rcases bB.1 hg with hg|hg
 ·cases he:lf.contains m<;>rw[he]at hg
  ·rw[a8.1 hg,br,h2];omega
  ·cases hg
 ·obtain⟨g,cw,rfl⟩:=aF.1 hg;obtain⟨k1,k2⟩:=vP hm cw;rw[dI]at k1;have h4:g.den (mu fA (bZ r))<=wM m r:=OC cw r;rw[br,br,h2,Ih h k1 k2];omega
theorem XT {n b:Nat} {ks:amQ} {tot:Nat->aa} (ht:∀m∈bW,(tot m).lt n) (h:b+ks.length<=n):∀g∈H6 ks b tot,g.lt n:=by
 intro g hg;obtain⟨m,hm,hg⟩:=ba.1 hg;have hr:((tot m).sub (r9 m ks b)).lt n:=cX (ht m hm) (D3 (ec hm) h);rcases bB.1 hg with hg|hg
 ·cases he:lf.contains m<;>rw[he]at hg
  ·rw[a8.1 hg];exact hr
  ·cases hg
 ·obtain⟨g,cw,rfl⟩:=aF.1 hg;exact cX hr (Ii (vP hm cw).1 h)
theorem aij {ρ:Kr} {b:Nat} {r:amS} (h:iR ρ b r) {tot:Nat->aa} (ht:∀m∈bW,(tot m).den (mu fD ρ)<=dJ (wM m) (aH m) r):aJ (mu fD ρ) (Ot (r.map C.kd) b tot):=by
 intro g hg;obtain⟨m,hm,hg⟩:=ba.1 hg;have h1:=ht m hm;have h2:=Ij hm h;rw[dJ]at h1;unfold Oq at hg;split at hg
 ·rename_i hf;have h3:wM m r=0:=by rw[wM,hf];rfl
  rw[a8.1 hg,br,h2];omega
 ·rename_i f hf;cases hc:(lf.contains m||Nat.beq m 52)with
  |false=>rw[hc]at hg;cases hg
  |true=>
   rw[hc]at hg;obtain⟨k1,k2⟩:=vP hm (g:=f) (by rw[hf];simp);rw[dI]at k1;have h3:wM m r=f.den (mu fA (bZ r)):=by
    simp only[iT]at hc;rcases hc with hc|hc
    ·exact XO (by simpa using hc) hf rfl
    ·have:=bt hc;subst this;exact aii hf rfl
   rw[a8.1 hg,br,den_add,h2,Ih h k1 k2];omega
 ·cases hg
theorem aik {n b:Nat} {ks:amQ} {tot:Nat->aa} (ht:∀m∈bW,(tot m).lt n) (h:b+ks.length<=n):∀g∈Ot ks b tot,g.lt n:=by
 intro g hg;obtain⟨m,hm,hg⟩:=ba.1 hg;unfold Oq at hg;split at hg
 ·rw[a8.1 hg];exact cX (D3 (ec hm) h) (ht m hm)
 ·rename_i f hf;cases hc:(lf.contains m||Nat.beq m 52)<;>rw[hc]at hg
  ·cases hg
  ·rw[a8.1 hg];exact cX (nd (D3 (ec hm) h) (Ii (vP hm (g:=f) (by rw[hf];simp)).1 h)) (ht m hm)
 ·cases hg
def OJ (μ:Nat->Int) (t:List aa×List aa):Prop:=(∀g∈t.1,0<=g.den μ)->∀g∈t.2,0<=g.den μ
theorem ail {ρ:Kr} {b:Nat} {r:amS} (h:iR ρ b r) {tot:Nat->aa} (ht:∀m∈bW,(tot m).den (mu fD ρ)<=dJ (wM m) (aH m) r):∀t∈Ou (r.map C.kd) b tot,OJ (mu fD ρ) t:=by
 intro t hg hc;obtain⟨m,hm,hg⟩:=ba.1 hg;have hm:=XK hm;split at hg
 ·cases hg
 ·rw[a8]at hg;subst hg;intro g hg;have h1:=ht m hm;have h2:=Ij hm h;rw[dJ]at h1;have h3:wM m r<=0:=OD (iU 0) λf hf=>by obtain⟨k1,k2⟩:=vP hm hf;rw[dI]at k1;have:=hc _ (aF.2 ⟨f,hf,rfl⟩);rw[eu,Ih h k1 k2]at this;omega
  rw[a8.1 hg,br,h2];omega
def OK (n:Nat) (t:List aa×List aa):Prop:=(∀g∈t.1,g.lt n)/\∀g∈t.2,g.lt n
theorem aim {n b:Nat} {ks:amQ} {tot:Nat->aa} (ht:∀m∈bW,(tot m).lt n) (h:b+ks.length<=n):∀t∈Ou ks b tot,OK n t:=by
 intro t hg;obtain⟨m,hm,hg⟩:=ba.1 hg;have hm:=XK hm;split at hg
 ·cases hg
 ·rw[a8]at hg;subst hg;refine⟨λg hg=>?_,λg hg=>?_⟩
  ·obtain⟨f,hf,rfl⟩:=aF.1 hg;exact kY (Ii (vP hm hf).1 h)
  ·rw[a8.1 hg];exact cX (D3 (ec hm) h) (ht m hm)
theorem Im {m:Nat} (hm:m∈bW) {c:C} (h:(ah c).length=0):fD m c=0:=by rw[eL hm,qO h];rfl
theorem f2 (c:C):fD 2 c=(ah c).length:=lh (by simp[bW]) c
theorem f3 (c:C):fD 3 c=(aA c).size:=lh (by simp[bW]) c
def ain (n:Nat) (r:RI):Bool:=r.str.all λp=>Nat.blt p.1 n
theorem aio (ks:amQ):∀p∈(dg ks).str,p.1<ks.length:=
 OF (Q:=λks r=>∀p∈r.str,p.1<ks.length) (λks p hp=>by cases hp) (λq hq p hp=>by
  have:(AT.all λp=>ain p.1.length p.2)=true:=by kernel_rfl
  exact fy (aX.1 (aX.1 this q hq) p hp)) ks
theorem aip {ρ:Kr} {b:Nat} {ks:amQ}:∀t∈Ov b ks,OJ (mu fD ρ) t:=by
 intro t hg hc;rcases bB.1 hg with hg|hg
 ·obtain⟨j,hj,rfl⟩:=aF.1 hg;intro g hg;obtain⟨m,hm,rfl⟩:=aF.1 hg;have:=hc _ (a8.2 rfl);rw[eu,au _ _ (by omega),f2]at this;rw[eu,au _ _ (ec hm),Im hm (by omega)];omega
 ·obtain⟨p,hp,rfl⟩:=aF.1 hg;intro g hg;split at hc<;>split at hg<;>first|contradiction|skip
  all_goals
   have:=hc _ (a8.2 rfl);rw[cO,eu,au _ _ (by omega),f3]at this;rw[a8.1 hg,eu,au _ _ (by omega),lh (by simp[bW])];simp only[f0,iz];split<;>omega
theorem aiq {n b:Nat} {ks:amQ} (h:b+ks.length<=n):∀t∈Ov b ks,OK n t:=by
 intro t hg;rcases bB.1 hg with hg|hg
 ·obtain⟨j,hj,rfl⟩:=aF.1 hg;have hj:=dP.1 (ki.1 hj).1;refine⟨λg hg=>?_,λg hg=>?_⟩
  ·rw[a8.1 hg];exact kY (aI (by omega) (by omega))
  ·obtain⟨m,hm,rfl⟩:=aF.1 hg;exact kY (aI (by omega) (ec hm))
 ·obtain⟨p,hp,rfl⟩:=aF.1 hg;have hj:=aio ks p hp;split;all_goals
   refine⟨λg hg=>?_,λg hg=>?_⟩
   ·rw[a8.1 hg];exact gS _ (kY (aI (by omega) (by omega)))
   ·rw[a8.1 hg];exact kY (aI (by omega) (by omega))
end Go.Pv
namespace Go.Pv
open Go
theorem tok {f:Nat->C->Int} {k:Nat} {ts:amY} {V:List C->Prop} (h1:∀g∈ts,g.lt k) (h2:∀l,l.length=k->V l->aJ (mu f (bZ l)) ts):dH f k ts V:=
 λg hg=>⟨h1 g hg,λl hl hv=>h2 l hl hv g hg⟩
theorem vQ {f:Nat->C->Int} {k:Nat} {t:List aa×List aa} {V:List C->Prop} (h1:OK k t) (h2:∀l,l.length=k->V l->OJ (mu f (bZ l)) t):kB f k t V:=
 ⟨h1.1,h1.2,λl hl hv=>h2 l hl hv⟩
theorem ju {μ:Nat->Int} {a b:aa} (h:a.den μ=b.den μ):aJ μ (fI a b):=by intro g hg;simp only[fI,az,bL,bM]at hg;rcases hg with rfl|rfl<;>rw[br]<;>omega
theorem kG {n:Nat} {a b:aa} (ha:a.lt n) (hb:b.lt n):∀g∈fI a b,g.lt n:=by
 intro g hg;simp only[fI,az,bL,bM]at hg;rcases hg with rfl|rfl
 ·exact cX ha hb
 ·exact cX hb ha
theorem qD {μ:Nat->Int} {α:Type} {l:List α} {F:α->List aa} (h:∀a∈l,aJ μ (F a)):aJ μ (l.flatMap F):=by intro g hg;obtain⟨a,ha,hg⟩:=ba.1 hg;exact h a ha g hg
theorem vR {n:Nat} {α:Type} {l:List α} {F:α->List aa} (h:∀a∈l,∀g∈F a,g.lt n):∀g∈l.flatMap F,g.lt n:=by grind
theorem OL (l:amS) (x:Nat):bZ l x=l.getD x default:=rfl
theorem D4 {l0 l1 r:amS}:iR (bZ (l0++(r++l1))) l0.length r:=by intro j hj;rw[OL,aZ,aZ,jR (by omega),oG,jQ hj]
theorem vS {l0 r:amS}:iR (bZ (l0++r)) l0.length r:=by have:=D4 (l0:=l0) (l1:=[]) (r:=r);grind
theorem vT {a:Y9} {i n:Nat} (hi:i<a.length) (hk:(a.getD i []).length=n):(List.range n).map (λj=>cellAt a i j)=a.getD i []:=by
 refine oD λj=>?_;rw[bP];by_cases h:j<n
 ·rw[iS h,cj,cellAt,aZ,aP (by omega)];rfl
 grind
theorem tR {a:Y9} {i:Nat} (hi:i<a.length):a.getD i []∈a:=by grind
theorem jv {r:amS} {ks:amQ} (h:r.map C.kd=ks):r.length=ks.length:=by grind
theorem tS {m:Nat} (hm:m∈bW) (e:Nat) (rows:Y9):fD m (.sl e rows)=aS (wM m) (aH m) rows:=eL hm _
variable {T:ay}
theorem xu (e:Nat):dH fD (1+(T e).length) (Xu (T e)) λl=>∃a i,i<(ah a).length/\(∀r∈ah a,r.map C.kd=T e)/\l=a::(List.range (T e).length).map λj=>cellAt (ah a) i j:=by
 refine tok (XT (λm hm=>aI (by omega) (ec hm)) (by omega)) λl hl hv=>?_;obtain⟨a,i,hi,hk,rfl⟩:=hv;have hr:=hk _ (tR hi);rw[vT hi (jv hr)];have hE:iR (bZ (a::(ah a).getD i [])) 1 ((ah a).getD i []):=vS (l0:=[a]);have:=XR hE (tot:=λm=>af m 0) λm hm=>by rw[au _ _ (ec hm),show bZ (a::(ah a).getD i []) 0=a from rfl,eL hm,A3 (ah a) i hi];have h1:=mE (sel:=aH m) (jt m) ((ah a).take i);have h2:=mE (sel:=aH m) (jt m) ((ah a).drop (i+1));omega
 rw[hr]at this;exact this
theorem xv (e:Nat):dH fD 3 Xv λl=>∃a b,l=[a,b, .sl e (ah a++ah b)]:=by refine tok (vR λm hm=>kG (aI (by omega) (ec hm)) (nd (aI (by omega) (ec hm)) (aI (by omega) (ec hm)))) λl hl hv=>?_;obtain⟨a,b,rfl⟩:=hv;refine qD λm hm=>ju ?_;rw[den_add,au _ _ (ec hm),au _ _ (ec hm),au _ _ (ec hm)];show fD m (.sl e _)=fD m a+fD m b;rw[tS hm,eL hm,eL hm,D0]
theorem OM {m:Nat} (hm:m∈bW) (e:Nat) (a:C) (r:amS):(tP m).den (mu fD (bZ (a:: .sl e (ah a++[r])::r)))=dJ (wM m) (aH m) r:=by rw[tP,br,au _ _ (ec hm),au _ _ (ec hm)];show fD m (.sl e _)-fD m a=_;rw[tS hm,eL hm,D1];omega
theorem ON {m n:Nat} (hm:m∈bW) (h:2<=n):(tP m).lt n:=cX (aI (by omega) (ec hm)) (aI (by omega) (ec hm))
theorem s9 (e:Nat):dH fD (2+(T e).length) (Xw (T e)) λl=>∃a r,r.map C.kd=T e/\l=a:: .sl e (ah a++[r])::r:=by
 refine tok (b8 (XT (λm hm=>ON hm (by omega)) (by omega)) (b8 (aik (λm hm=>ON hm (by omega)) (by omega)) λg hg=>?_)) λl hl hv=>?_
 ·rw[a8.1 hg];exact gS _ (aI (by omega) (by omega))
 ·obtain⟨a,r,hr,rfl⟩:=hv;have hE:iR (bZ (a:: .sl e (ah a++[r])::r)) 2 r:=vS (l0:=[a, .sl e (ah a++[r])]);have h1:=XR hE (tot:=tP) λm hm=>by rw[OM hm];omega
  have h2:=aij hE (tot:=tP) λm hm=>by rw[OM hm];omega
  rw[hr]at h1 h2;refine h1.append (h2.append λg hg=>?_);rw[a8.1 hg,cO,au _ _ (by omega)];show 0<=fD 10 (.sl e _)+-1;rw[lh (by simp[bW])];simp[f0,ah]
theorem xw (e:Nat):∀t∈Xx (T e),kB fD (2+(T e).length) t λl=>∃a r,r.map C.kd=T e/\l=a:: .sl e (ah a++[r])::r:=by
 intro t ht;rcases bB.1 ht with ht|ht
 ·exact vQ (aiq (by omega) t ht) λl hl hv=>aip t ht
 ·refine vQ (aim (λm hm=>ON hm (by omega)) (by omega) t ht) λl hl hv=>?_;obtain⟨a,r,hr,rfl⟩:=hv;have hE:iR (bZ (a:: .sl e (ah a++[r])::r)) 2 r:=vS (l0:=[a, .sl e (ah a++[r])]);refine ail hE (tot:=tP) (λm hm=>by rw[OM hm];omega) t ?_;grind
theorem air (a:Y9) (i:Nat) (r:amS) (hi:i<a.length) (m:Nat):aS (wM m) (aH m) (a.set i r)+dJ (wM m) (aH m) (a.getD i [])=aS (wM m) (aH m) a+dJ (wM m) (aH m) r:=by
 have h1:=A3 (w:=wM m) (sel:=aH m) a i hi;have h2:=A3 (w:=wM m) (sel:=aH m) (a.set i r) i (by grind);have e1:(a.set i r).take i=a.take i:=by rw[List.take_set_of_le (bh i)]
 have e2:(a.set i r).drop (i+1)=a.drop (i+1):=by rw[List.drop_set_of_lt (bQ i)]
 grind
theorem xx (e:Nat):dH fD (2+(T e).length+(T e).length) (Xy (T e)) λl=>∃a i r,i<(ah a).length/\(∀r∈ah a,r.map C.kd=T e)/\r.map C.kd=T e/\
 l=a:: .sl e ((ah a).set i r)::((List.range (T e).length).map (λj=>cellAt (ah a) i j)++r):=by
 refine tok (vR λm hm=>kG (nd (aI (by omega) (ec (pk hm))) (Il hm (by omega))) (nd (aI (by omega) (ec (pk hm))) (Il hm (by omega)))) λl hl hv=>?_;obtain⟨a,i,r,hi,hk,hr,rfl⟩:=hv;have ho:=hk _ (tR hi);rw[vT hi (jv ho)];have jK:iR (bZ (a:: .sl e ((ah a).set i r)::((ah a).getD i []++r))) 2 ((ah a).getD i []):=D4 (l0:=[a, .sl e ((ah a).set i r)]);have ais:iR (bZ (a:: .sl e ((ah a).set i r)::((ah a).getD i []++r))) (2+(T e).length) r:=by have:=vS (l0:=[a, .sl e ((ah a).set i r)]++(ah a).getD i []) (r:=r);rw[jS,jv ho]at this;simpa using this
 refine qD λm hm=>ju ?_;have h1:=Ik hm jK;have h2:=Ik hm ais;rw[ho]at h1;rw[hr]at h2;have fX:=pk hm;rw[den_add,den_add,h1,h2,au _ _ (ec fX),au _ _ (ec fX)];show fD m (.sl e _)+_=fD m a+_;rw[tS fX,eL fX];exact air _ _ _ hi m
theorem XU (e:Nat) (ks:amQ) (a:C) (rows:Y9) (r:amS) (hr:r.map C.kd=ks) (h:∀m,aS (wM m) (aH m) rows+dJ (wM m) (aH m) r<=aS (wM m) (aH m) (ah a)):
 aJ (mu fD (bZ (a:: .sl e rows::r))) (AZ ks):=by
 intro g hg;obtain⟨m,hm,rfl⟩:=aF.1 hg;have fX:=pk hm;have hE:iR (bZ (a:: .sl e rows::r)) 2 r:=vS (l0:=[a, .sl e rows]);have h1:=Ik hm hE;rw[hr]at h1;rw[br,br,h1,au _ _ (ec fX),au _ _ (ec fX)];show 0<=fD m a-fD m (.sl e rows)-_;rw[tS fX,eL fX];grind
theorem XV (ks:amQ):∀g∈AZ ks,g.lt (2+ks.length):=by intro g hg;obtain⟨m,hm,rfl⟩:=aF.1 hg;exact cX (cX (aI (by omega) (ec (pk hm))) (aI (by omega) (ec (pk hm)))) (Il hm (bh _))
theorem xB (e:Nat):dH fD (2+(T e).length) (AZ (T e)) λl=>∃a j,0<(ah a).length/\(∀r∈ah a,r.map C.kd=T e)/\l=a:: .sl e (((ah a).drop 1).take j)::(List.range (T e).length).map λj=>cellAt (ah a) 0 j:=by refine tok (XV _) λl hl hv=>?_;obtain⟨a,j,hi,hk,rfl⟩:=hv;have ho:=hk _ (tR hi);rw[vT hi (jv ho)];refine XU e _ a _ _ ho λm=>?_;have h1:=A3 (w:=wM m) (sel:=aH m) (ah a) 0 hi;have h2:=Ib (sel:=aH m) (jt m) ((ah a).drop 1) j;simp only[List.take_zero,aS,eI]at h1;omega
theorem xD (e:Nat):dH fD (2+(T e).length) (AZ (T e)) λl=>∃a i,i<(ah a).length/\(∀r∈ah a,r.map C.kd=T e)/\l=a:: .sl e ((ah a).take i)::(List.range (T e).length).map λj=>cellAt (ah a) i j:=by refine tok (XV _) λl hl hv=>?_;obtain⟨a,i,hi,hk,rfl⟩:=hv;have ho:=hk _ (tR hi);rw[vT hi (jv ho)];refine XU e _ a _ _ ho λm=>?_;have h1:=A3 (w:=wM m) (sel:=aH m) (ah a) i hi;have h2:=mE (sel:=aH m) (jt m) ((ah a).drop (i+1));omega
theorem ait {a:Y9} {n:Nat} {is:amG} (h:∀i∈is,i<a.length/\(a.getD i []).length=n):∀{k:Nat} {i:Nat},is[k]?=some i->∀j,j<n->
 (is.flatMap λi=>(List.range n).map λj=>cellAt a i j).getD (k*n+j) default=(a.getD i []).getD j default:=by
 induction is with
 |nil=>grind
 |cons i0 is ih=>
  intro k i hk j hj;have h0:=h i0 (by simp);rw[mN,vT h0.1 h0.2];cases k with
  |zero=>grind
  |succ k=>have:=ih (λi hi=>h i (by grind)) (k:=k) (i:=i) (by grind) j hj;grind
theorem XW (μ:Nat->Int) (g:Nat->aa) (z:aa):∀l:amG,((l.foldr (λi acc=>acc.sub (g i)) z).den μ)=z.den μ-(l.map λi=>(g i).den μ).sum
 |[]=>by simp
 |i::l=>by simp only[lr,br,XW μ g z l,bu,Qo];omega
theorem XX {n:Nat} {g:Nat->aa} {z:aa} (hz:z.lt n):∀{l:amG},(∀i∈l,(g i).lt n)->(l.foldr (λi acc=>acc.sub (g i)) z).lt n
 |[],_=>hz
 |i::l,h=>cX (XX hz λk hk=>h k (by grind)) (h i (by simp))
theorem xA (e n:Nat):dH fD (1+n*(T e).length) (XE (T e) n) λl=>∃(a:C) (is:amG),is.length=n/\is.Nodup/\(∀i∈is,i<(ah a).length)/\(∀r∈ah a,r.map C.kd=T e)/\
 l=a::is.flatMap λi=>(List.range (T e).length).map λj=>cellAt (ah a) i j:=by
 refine tok (λg hg=>?_) λl hl hv=>?_
 ·obtain⟨m,hm,rfl⟩:=aF.1 hg;refine XX (aI (by omega) (ec (pk hm))) λi hi=>Il hm ?_;have hi:=dP.1 hi;have:=eh (T e).length (show i+1<=n from hi);grind
 ·obtain⟨a,is,hlen,dv,aj,hk,rfl⟩:=hv;intro g hg;obtain⟨m,hm,rfl⟩:=aF.1 hg;have fX:=pk hm;rw[XW,au _ _ (ec fX)];show 0<=fD m a-_;rw[eL fX];have h1:=aib (sel:=aH m) (jt m) (ah a) is dv aj;have e1:(List.range n).map (λi=>(tQ m (T e) (1+i*(T e).length)).den (mu fD (bZ (a::is.flatMap λi=>(List.range (T e).length).map λj=>cellAt (ah a) i j))))=is.map λi=>dJ (wM m) (aH m) ((ah a).getD i []):=by
   refine oD λk=>?_;rw[bP,bP];by_cases lD:k<n
   ·have dG:k<is.length:=by omega
    rw[iS lD,aP dG];simp only[cj,ae];have hi:=aj _ (fz dG);have ho:=hk _ (tR hi);have hE:iR (bZ (a::is.flatMap λi=>(List.range (T e).length).map λj=>cellAt (ah a) i j)) (1+k*(T e).length) ((ah a).getD is[k] []):=by intro j hj;rw[jv ho]at hj;have:=ait (a:=ah a) (n:=(T e).length) (is:=is) (λi hi=>⟨aj i hi,jv (hk _ (tR (aj i hi)))⟩) (aP dG) j hj;rw[OL,show 1+k*(T e).length+j=(k*(T e).length+j)+1 by omega,ZS];exact this
    have:=Ik hm hE;grind
   ·grind
  grind
theorem ta (e:Nat):dH fD 2 XF λl=>∃a i j,l=[a, .sl e (((ah a).drop i).take j)]:=by
 refine tok (λg hg=>?_) λl hl hv=>?_
 ·obtain⟨m,hm,rfl⟩:=aF.1 hg;exact cX (aI (by omega) (ec hm)) (aI (by omega) (ec hm))
 ·obtain⟨a,i,j,rfl⟩:=hv;intro g hg;obtain⟨m,hm,rfl⟩:=aF.1 hg;rw[br,au _ _ (ec hm),au _ _ (ec hm)];show 0<=fD m a-fD m (.sl e _);rw[tS hm,eL hm];have h1:=aia (sel:=aH m) (jt m) (ah a) i;have h2:=Ib (sel:=aH m) (jt m) ((ah a).drop i) j;omega
theorem A5 {m:Nat} (h:m∈Ia):m<64:=by
 rcases az.1 h with rfl|h
 ·omega
 rcases az.1 h with rfl|h
 ·omega
 rcases az.1 h with rfl|h
 ·omega
 ·exact ec h
theorem aiu {m:Nat} (h:m∈Ia) (c:C) (e:Nat):fD m c=fD m (.sl e (ah c)):=by
 rcases az.1 h with rfl|h
 ·rfl
 rcases az.1 h with rfl|h
 ·rfl
 rcases az.1 h with rfl|h
 ·rfl
 ·rw[eL h,tS h]
theorem s8 (e:Nat):dH fD 1 Xt λl=>l=[.sl e []]:=by
 refine tok (vR λm hm=>kG (aI (by omega) (A5 hm)) (dY _ _)) λl hl hv=>?_;subst hv;refine qD λm hm=>ju ?_;rw[cg,au _ _ (A5 hm)];show fD m (.sl e [])=0;rcases az.1 hm with rfl|hm
 ·rfl
 rcases az.1 hm with rfl|hm
 ·rfl
 rcases az.1 hm with rfl|h
 ·rfl
 ·exact Im h rfl
theorem my (e:Nat):dH fD 2 XB λl=>∃a,l=[a, .sl e (ah a)]:=by refine tok (vR λm hm=>kG (aI (by omega) (A5 hm)) (aI (by omega) (A5 hm))) λl hl hv=>?_;obtain⟨a,rfl⟩:=hv;refine qD λm hm=>ju ?_;rw[au _ _ (A5 hm),au _ _ (A5 hm)];exact(aiu hm a e).symm
def zM (m:Nat):Bool:=[2,3,10,11,12,13,14,15,16].contains m
theorem aiv {m:Nat} (h:zM m=true) {c:C} (hs:aA c=ByteArray.empty) (hr:ah c=[]):fA m c=0:=by
 simp only[zM,jT,az,bL,bM]at h;have h4:m≠4:=by omega
 rw[fA,aQ h4];rcases h with rfl|rfl|rfl|rfl|rfl|rfl|rfl|rfl|rfl<;>simp only[f0,hs,hr]<;>first|rfl|(rw[ByteArray.toList_eq];rfl)|(rw[ByteArray.toList_eq,ByteArray.toList_eq];rfl)
def zF (g:aa):Bool:=decide (g.c<=0)&&g.l.all λp=>zM (p.1%64)
def Io:List Nat:=[5,6,17,7,8,19]
theorem aiw:D2 (λ_ _ g=>zF g) Io=true:=by rfl
theorem aix (k:Kd):aA (iX k)=ByteArray.empty:=by cases k<;>rfl
theorem XY (k:Kd):ah (iX k)=[]:=by cases k<;>rfl
theorem aiy (ks:amQ) (j:Nat):aA ((ks.map iX).getD j default)=ByteArray.empty/\ah ((ks.map iX).getD j default)=[]:=by
 rw[aZ,bP];cases ks[j]?with
 |none=>exact⟨rfl,rfl⟩
 |some k=>exact⟨aix k,XY k⟩
theorem XZ {μ:Nat->Int}:∀{l:ano},(∀p∈l,μ p.1=0)->b9 μ l=0
 |[],_=>by rfl
 |p::l,h=>by have h2:=XZ (l:=l) λq hq=>h q (by grind);simp only[b9,h2,h p (by simp)];omega
theorem aiz {m:Nat} (hm:m∈Io) (ks:amQ):wM m (ks.map iX)=0:=by
 obtain⟨n,_,h⟩:=OG aiw hm ((ks.map iX).map C.kd);have h1:=jt m (ks.map iX);have h2:wM m (ks.map iX)<=0:=OD (iU 0) λg hg=>by
  have:=h g hg;simp only[zF,aB,eN]at this;have h3:=XZ (μ:=mu fA (bZ (ks.map iX))) (l:=g.l) λp hp=>by have h4:=aiy ks (p.1/64);exact aiv (aX.1 this.2 p hp) h4.1 h4.2
  unfold aa.den;omega
 omega
theorem X0 {m:Nat} (GW:amQ):∀(ks:amQ) (j:Nat),eG (wM m) (aH m) GW j (ks.map iX)=0
 |[],_=>rfl
 |k::ks,j=>by rw[bu,eG,X0 GW ks,yj,XY];cases aH m GW j<;>rfl
theorem OO {m:Nat} {k:Int} (ks:amQ) (h:wM m (ks.map iX)=k):∀n,aS (wM m) (aH m) (fQ ks n)=n*k
 |0=>by simp[fQ,aS]
 |n+1=>by have ih:=OO ks h n;simp only[fQ,List.replicate_succ,aS]at ih⊢;rw[ih,h,X0];grind
theorem xy (e:Nat):dH fD 1 Xz λl=>∃n,l=[.sl e (fQ (T e) n)]:=by
 refine tok (b8 (b8 (kG (aI (by omega) (by omega)) (aI (by omega) (by omega))) (kG (aI (by omega) (by omega)) (aI (by omega) (by omega)))) (vR λm hm=>kG (aI (by omega) ?_) (dY _ _))) λl hl hv=>?_
 ·grind
 ·obtain⟨n,rfl⟩:=hv;have hl:fD 2 (.sl e (fQ (T e) n))=n:=by rw[f2];simp[ah,fQ]
  have one:∀m,m=4\/m=18->fD m (.sl e (fQ (T e) n))=n:=by
   intro m hm;have fX:m∈bW:=by rcases hm with rfl|rfl<;>simp[bW]
   rw[tS fX,OO (k:=1) (T e) (by rcases hm with rfl|rfl<;>(simp only[wM,wF,wt,lr,yI,cg];rfl))];omega
  refine aJ.append (aJ.append (ju ?_) (ju ?_)) (qD λm hm=>ju ?_)
  ·rw[au _ _ (by omega),au _ _ (by omega)];exact(one 4 (.inl rfl)).trans hl.symm
  ·rw[au _ _ (by omega),au _ _ (by omega)];exact(one 18 (.inr rfl)).trans hl.symm
  ·have hz:m∈Io:=by simp only[Io,az,bL,bM]at hm⊢;omega
   have ha:m∈bW:=by simp only[bW,az,bL,bM]at hm⊢;omega
   rw[cg,au _ _ (ec ha)];show fD m (.sl e _)=0;rw[tS ha,OO (k:=0) (T e) (aiz hz _)];omega
end Go.Pv
namespace Go.Pv
open Go
theorem jw {n:Nat} {ts:amY} (h:ts.all (vO n)=true):∀g∈ts,g.lt n:=λg hg=>XJ (aX.1 h g hg)
theorem cG {m:Nat} (h:bW.contains m=false) (c:C):fD m c=f0 m c:=by simp only[fD,h]
theorem X1 {ρ:Kr} {k:Nat}:∀l:amG,(∀c∈l,c<31)->l.Nodup->b9 (mu fD ρ) (l.map λc=>(64*k+(20+c),1))=if(∃c∈l,cD (ρ k)=(c:Int))then 1 else 0
 |[],_,_=>by simp[b9]
 |c::l,h,hn=>by
  have ih:=X1 (ρ:=ρ) (k:=k) l (λc hc=>h c (by simp[hc])) (Jr.1 hn).2;have hc:=h c (by simp);have e1:mu fD ρ (64*k+(20+c))=if cD (ρ k)=(c:Int)then 1 else 0:=by rw[mu,show(64*k+(20+c))%64=20+c by omega,show(64*k+(20+c))/64=k by omega,lh (by simp only[bW,az,bL,bM];omega)];unfold f0;split<;>omega
  simp only[bu,b9,e1,ih];by_cases h1:cD (ρ k)=(c:Int)
  ·have h2:¬∃c'∈l,cD (ρ k)=(c':Int):=by
    rintro ⟨c',dF,e⟩;have:c=c':=by omega
    subst this;exact(Jr.1 hn).1 dF
   rw[aC h1,aQ h2,aC ⟨c,by simp,h1⟩];rfl
  ·rw[aQ h1];by_cases h2:∃c'∈l,cD (ρ k)=(c':Int)
   ·obtain⟨c',dF,e⟩:=h2;rw[aC ⟨c',dF,e⟩,aC ⟨c',by simp[dF],e⟩];rfl
   ·rw[aQ h2,aQ];rfl;rintro ⟨c',dF,e⟩;rcases az.1 dF with rfl|dF
    ·exact h1 e
    ·exact h2 ⟨c',dF,e⟩
theorem aiA {ρ:Kr} {k:Nat}:(k9 k).den (mu fD ρ)=if(∃c∈valid,cD (ρ k)=(c:Int))then 1 else 0:=by simp only[k9,aa.den,Int.zero_add];exact X1 valid (by decide) (by decide)
theorem X2 {P:C->Prop} {μ:C->Nat->Int} (l:amS) (h:l.length=1):∃c,l=[c]:=by
 match l,h with
 |[c],_=>exact⟨c,rfl⟩
theorem OP {w w':List C->Int} {sel oy:List Kd->Nat->Bool} (zc:∀r,0<=w' r) (hw:∀r,w r<=w' r) (hs:∀ks j,sel ks j=true->oy ks j=true):
 (∀c,ew w sel c<=ew w' oy c)/\(∀ks j r,eG w sel ks j r<=eG w' oy ks j r)/\∀rows,aS w sel rows<=aS w' oy rows:=by
 have key:(∀c,ew w sel c<=ew w' oy c):=by
  intro c;apply C.rec (motive_1:=λc=>ew w sel c<=ew w' oy c) (motive_2:=λrows=>aS w sel rows<=aS w' oy rows) (motive_3:=λr=>∀ks j,eG w sel ks j r<=eG w' oy ks j r)
  ·intro k n;simp[ew]
  ·intro b;simp[ew]
  ·intro s;simp[ew]
  ·intro e rows ih;simp only[ew];exact ih
  ·simp[ew]
  ·simp[aS]
  ·intro r rows h1 h2;have:=hw r;have:=h1 (r.map C.kd) 0;simp only[aS];omega
  ·intro ks j;simp[eG]
  ·intro c r h1 h2 ks j;have h3:=h2 ks (j+1);have h4:=A1 (sel:=oy) zc c;simp only[eG];cases h:sel ks j with
   |true=>rw[hs ks j h];simp only;omega
   |false=>cases oy ks j<;>simp only<;>omega
 have cells:∀ks j r,eG w sel ks j r<=eG w' oy ks j r:=by
  intro ks j r;induction r generalizing j with
  |nil=>simp[eG]
  |cons c r ih=>
   have h3:=ih (j+1);have h1:=key c;have h4:=A1 (sel:=oy) zc c;simp only[eG];cases h:sel ks j with
   |true=>rw[hs ks j h];simp only;omega
   |false=>cases oy ks j<;>simp only<;>omega
 refine⟨key,cells,λrows=>?_⟩;induction rows with
 |nil=>simp[aS]
 |cons r rows ih=>have:=hw r;have:=cells (r.map C.kd) 0 r;simp only[aS];omega
theorem X3 {w:List C->Int} {sel:List Kd->Nat->Bool} (hw:∀r,1<=w r):∀rows:Y9,(rows.length:Int)<=aS w sel rows
 |[]=>by simp[aS]
 |r::rows=>by have h1:=X3 (sel:=sel) hw rows;have h2:=hw r;have h3:=A2 (w:=w) (sel:=sel) (λr=>by have:=hw r;omega) (r.map C.kd) 0 r;simp only[aS,eH];omega
theorem Ip (r:amS):wM 4 r=1:=by simp only[wM,wF,wt,lr,yI,cg];rfl
theorem D5 (r:amS):wM 18 r=1:=by simp only[wM,wF,wt,lr,yI,cg];rfl
theorem X4 {d f d' f':Nat} (h1:d<64/\f<64/\d'<64/\f'<64) {ρ:Kr} (hd:∀c,fA d c<=fA d' c) (hf:∀c,fA f c<=fA f' c):∀l,(r7 l d f).den (mu fA ρ)<=(r7 l d' f').den (mu fA ρ)
 |[]=>iU _
 |p::l=>by
  have ih:=X4 h1 (ρ:=ρ) hd hf l;simp only[r7,lr,den_add]at ih⊢;split
  ·rw[au _ _ h1.2.1,au _ _ h1.2.2.2];have:=hf (ρ p.1);omega
  ·rw[au _ _ h1.1,au _ _ h1.2.2.1];have:=hd (ρ p.1);omega
theorem X5 {d f:Nat} (h1:d<64/\f<64) {ρ:Kr} (hd:∀c,0<=fA d c) (hf:∀c,0<=fA f c) (q:Nat×Bool->Bool):∀l,(r7 (l.filter q) d f).den (mu fA ρ)<=(r7 l d f).den (mu fA ρ)
 |[]=>iU _
 |p::l=>by
  have ih:=X5 h1 (ρ:=ρ) hd hf q l;have h0:0<=(af (if p.2 then f else d) p.1).den (mu fA ρ):=by
   split
   ·rw[au _ _ h1.2];exact hf _
   ·rw[au _ _ h1.1];exact hd _
  cases hq:q p with
  |true=>rw[ZU hq];simp only[r7,lr,den_add]at ih⊢;omega
  |false=>rw[ZT (by simp[hq])];simp only[r7,lr,den_add]at ih⊢;omega
theorem aiB {t t':Nat} (h:t<=t') (s:ByteArray):iz t' s<=iz t s:=by unfold iz;split<;>split<;>omega
theorem A6 {m:Nat} {r:amS} {g:aa} (h:wF m (dg (r.map C.kd))=[g]):wM m r=max (g.den (mu fA (bZ r))) 0:=by rw[wM,h];rfl
theorem aiC (r:amS):wM 6 r<=wM 5 r:=by rw[A6 (m:=6) rfl,A6 (m:=5) rfl];have:=X4 (d:=13) (f:=15) (d':=13) (f':=14) (by omega) (ρ:=bZ r) (λc=>iU _) (λc=>aiB (by omega) _) (dg (r.map C.kd)).str;omega
theorem aiD (r:amS):wM 17 r<=wM 6 r:=by rw[A6 (m:=17) rfl,A6 (m:=6) rfl];have:=X5 (d:=13) (f:=15) (by omega) (ρ:=bZ r) (λc=>OI _ _) (λc=>OI _ _) (λp=>!tM (dg (r.map C.kd)) p.1) (dg (r.map C.kd)).str;omega
theorem OQ {m m':Nat} (h:(m,m')∈[(6,5),(17,6),(18,4)]) (ks:amQ) (j:Nat) (hs:aH m ks j=true):aH m' ks j=true:=by
 simp only[az,bT,bL,bM]at h;rcases h with⟨rfl,rfl⟩|⟨rfl,rfl⟩|⟨rfl,rfl⟩
 ·exact hs
 ·simp only[aH,aB]at hs⊢;obtain⟨⟨⟨⟨h1,h2⟩,h3⟩,h4⟩,h5⟩:=hs;exact⟨⟨⟨⟨h1,rfl⟩,h3⟩,rfl⟩,rfl⟩
 ·simp only[aH,aB]at hs⊢;obtain⟨⟨⟨⟨h1,h2⟩,h3⟩,h4⟩,h5⟩:=hs;exact⟨⟨⟨⟨h1,rfl⟩,h3⟩,rfl⟩,rfl⟩
theorem xp (k:Kd):dH fD 1 (AV k) λ_=>True:=by
 refine tok ?_ λl hl _=>?_
 ·cases k with
  |int k=>cases k<;>exact jw (by kernel_rfl)
  |bool=>exact jw (by kernel_rfl)
  |str=>exact jw (by kernel_rfl)
  |sl e=>exact jw (show(AV (.sl 0)).all (vO 1)=true by kernel_rfl)
  |ptr=>exact λg hg=>by cases hg
  |any=>exact λg hg=>by cases hg
 ·match l,hl with
  |[c],_=>
   have a:∀m,m<64->(af m 0).den (mu fD (bZ [c]))=fD m c:=λm hm=>au _ _ hm;intro g hg;cases k with
   |int k=>
    cases k<;>first|(cases hg;done)|skip
    have k0:fD 20 c=if cD c=0 then 1 else 0:=by rw[cG (by rfl)];simp[f0]
    rcases bB.1 hg with hg|hg
    ·obtain⟨n,hn,rfl⟩:=aF.1 hg;have:n<31:=(by decide:∀n∈valid,n<31) n hn;rw[a _ (by omega),lh (by simp only[bW,az,bL,bM];omega)];unfold f0;split<;>first|omega|(split<;>omega)
    ·simp only[az,bL,bM]at hg;rcases hg with rfl|rfl|rfl
     ·rw[a _ (by omega),k0];split<;>omega
     ·rw[cO,eu,a _ (by omega),k0];split<;>omega
     ·rw[br,br,cg,a _ (by omega),k0,aiA];show 0<=1-(if cD c=0 then 1 else 0)-(if(∃n∈valid,cD c=(n:Int))then(1:Int)else 0);split<;>split<;>first|omega|skip
      rename_i h1 h2;obtain⟨n,hn,e⟩:=h2;have:n≠0:=(by decide:∀n∈valid,n≠0) n hn;omega
   |bool=>
    have h1:fD 1 c=if jh c then 1 else 0:=cG (by rfl) c;simp only[AV,az,bL,bM]at hg;rcases hg with rfl|rfl
    ·rw[a _ (by omega),h1];split<;>omega
    ·rw[cO,eu,a _ (by omega),h1];split<;>omega
   |str=>
    have h3:fD 3 c=(aA c).size:=f3 c;have Hb:fD 13 c=iz 20 (aA c):=cG (by rfl) c;have Hc:fD 14 c=iz 41 (aA c):=cG (by rfl) c;have X6:fD 15 c=iz 64 (aA c):=cG (by rfl) c;have aiE:fD 16 c=if(aA c).size=0 then 0 else 1:=cG (by rfl) c;have tv:(fD 11 c=0\/fD 11 c=1/\(aA c).size=5)/\(0<=fD 12 c/\fD 12 c<=1/\(fD 12 c=1->1<=(aA c).size/\fD 11 c=0)):=by
     rw[cG (m:=11) (by rfl),cG (m:=12) (by rfl)];simp only[f0];have cf:(aA c).toList.length=(aA c).size:=by rw[ByteArray.toList_eq];rfl
     by_cases hA:((aA c).toList==H8.toList)=true
     ·rw[aC hA];have e:=eq_of_beq hA;have aiF:(aA c).size=5:=by rw[<-cf,e,ByteArray.toList_eq];rfl
      have hn:((aA c).toList.contains 46)=false:=by rw[e,ByteArray.toList_eq];rfl
      refine⟨.inr ⟨rfl,aiF⟩,?_⟩;rw[hn];simp
     ·rw[aQ hA];refine⟨.inl rfl,?_⟩;cases hd:(aA c).toList.contains 46 with
      |false=>simp
      |true=>
       simp only[cJ];refine⟨by omega,by omega,λ_=>⟨?_,by first|rfl|trivial⟩⟩;rw[<-cf];cases hl:(aA c).toList with
       |nil=>rw[hl]at hd;cases hd
       |cons x l=>simp
    unfold iz at Hb Hc X6;simp only[AV,az,bL,bM]at hg;obtain⟨hA,aml,amm,X7⟩:=tv;have hD:fD 12 c=0\/fD 12 c=1/\1<=(aA c).size/\fD 11 c=0:=by
     by_cases h:fD 12 c=1
     ·exact .inr ⟨h,X7 h⟩
     ·exact .inl (by omega)
    clear X7;rcases hg with rfl|rfl|rfl|rfl|rfl|rfl|rfl|rfl|rfl|rfl|rfl|rfl|rfl|rfl|rfl|rfl|rfl|rfl|rfl|rfl<;>
     simp only[br,cO,eu,s5,a 3 (by omega),a 11 (by omega),a 12 (by omega),a 13 (by omega),a 14 (by omega),a 15 (by omega),a 16 (by omega)]<;>
     (split at Hb<;>split at Hc<;>split at X6<;>split at aiE<;>omega)
   |sl e=>
    have nn:∀m,m∈bW->0<=fD m c:=λm hm=>by rw[eL hm];exact mE (jt m) _
    have h2:fD 2 c=(ah c).length:=f2 c;have tu:fD 10 c=if(ah c).length=0 then 0 else 1:=cG (by rfl) c;have e4:fD 4 c=_:=eL (by decide) c;have e5:fD 5 c=_:=eL (by decide) c;have e6:fD 6 c=_:=eL (by decide) c;have amn:fD 17 c=_:=eL (by decide) c;have amo:fD 18 c=_:=eL (by decide) c;have amp:=(OP (w:=wM 6) (w':=wM 5) (jt 5) aiC (OQ (m:=6) (m':=5) (by simp))).2.2 (ah c);have amq:=(OP (w:=wM 17) (w':=wM 6) (jt 6) aiD (OQ (m:=17) (m':=6) (by simp))).2.2 (ah c);have amr:=(OP (w:=wM 18) (w':=wM 4) (jt 4) (λr=>by rw[Ip,D5];exact iU _) (OQ (m:=18) (m':=4) (by simp))).2.2 (ah c);have X8:=X3 (w:=wM 18) (sel:=aH 18) (λr=>by rw[D5];exact iU _) (ah c);simp only[AV,az,bL,bM]at hg;have n6:=nn 6 (by decide);have n7:=nn 7 (by decide);have n8:=nn 8 (by decide);have n9:=nn 9 (by decide);have ams:=nn 17 (by decide);have amt:=nn 52 (by decide);have amu:=nn 53 (by decide);have amv:=nn 54 (by decide);have amw:=nn 55 (by decide);have amx:=nn 58 (by decide);have amy:=nn 19 (by decide);clear nn;rcases hg with rfl|rfl|rfl|rfl|rfl|rfl|rfl|rfl|rfl|rfl|rfl|rfl|rfl|rfl|rfl|rfl|rfl|rfl|rfl|rfl<;>
     simp only[br,cO,eu,a 2 (by omega),a 4 (by omega),a 5 (by omega),a 6 (by omega),a 7 (by omega),a 8 (by omega),a 9 (by omega),a 10 (by omega),a 17 (by omega),a 18 (by omega),a 19 (by omega),a 52 (by omega),a 53 (by omega),a 54 (by omega),a 55 (by omega),a 58 (by omega)]<;>
     (split at tu<;>omega)
   |ptr=>cases hg
   |any=>cases hg
end Go.Pv
namespace Go.Pv
open Go
theorem II:∀{a b c d:Nat},fJ a b=fJ c d->a=c/\b=d
 |0,b,0,d,h=>by simp only[fJ,ZZ]at h;omega
 |0,b,c+1,d,h=>by
  have:fJ (c+1) d=2*fJ c d:=by simp only[fJ,Qp];rw[oE (2^c) 2,Qq]
  rw[this]at h;simp only[fJ,ZZ]at h;omega
 |a+1,b,0,d,h=>by
  have:fJ (a+1) b=2*fJ a b:=by simp only[fJ,Qp];rw[oE (2^a) 2,Qq]
  rw[this]at h;simp only[fJ,ZZ]at h;omega
 |a+1,b,c+1,d,h=>by
  have e1:fJ (a+1) b=2*fJ a b:=by simp only[fJ,Qp];rw[oE (2^a) 2,Qq]
  have e2:fJ (c+1) d=2*fJ c d:=by simp only[fJ,Qp];rw[oE (2^c) 2,Qq]
  rw[e1,e2]at h;have:=II (a:=a) (b:=b) (c:=c) (d:=d) (by omega);omega
theorem O2 (a b:Nat):0<fJ a b:=tZ (Nat.pow_pos (by omega)) (by omega)
theorem aiW {a b:Int} (h:Ic a=Ic b):a=b:=by cases a<;>cases b<;>simp only[Ic]at h<;>first|omega|grind
theorem Yg {α:Type} {f:α->Nat} (hf:∀a b,f a=f b->a=b):∀{l l':List α},l.foldr (λb a=>fJ (f b) a) 0=l'.foldr (λb a=>fJ (f b) a) 0->l=l'
 |[],[],_=>rfl
 |[],b::l',h=>by have:=O2 (f b) (l'.foldr (λb a=>fJ (f b) a) 0);grind
 |a::l,[],h=>by have:=O2 (f a) (l.foldr (λb a=>fJ (f b) a) 0);grind
 |a::l,b::l',h=>by simp only[lr]at h;obtain⟨h1,h2⟩:=II h;rw[hf _ _ h1,Yg hf h2]
theorem aiX {s t:ByteArray} (h:A4 s=A4 t):s=t:=by have:=Yg (f:=λb:UInt8=>b.toNat) (λa b h=>UInt8.toNat_inj.1 h) h;cases s;simp_all
def pn (h:Bool) (r:amS):Nat:=nC h (r.map C.kd) 0 r
theorem yn (h:Bool):∀(rows:Y9) (a:Nat),js h a rows=(rows.map (pn h)).foldl fJ a
 |[],a=>by rfl
 |r::rs,a=>by rw[js,yn h rs];rfl
theorem aiY {l l':amG} (h:l.foldl fJ 0=l'.foldl fJ 0):l=l':=by
 have key:∀l:amG,l.foldl fJ 0=0->l=[]:=λl h=>by
  rcases Z0 l with rfl|⟨m,x,rfl⟩
  ·rfl
  ·rw[Z1,Qr]at h;have:=O2 (m.foldl fJ 0) x;grind
 generalize hn:l.length=n;induction n generalizing l l' with
 |zero=>grind
 |succ n ih=>
  rcases Z0 l with rfl|⟨m,x,rfl⟩
  ·grind
  ·rcases Z0 l' with rfl|⟨m',x',rfl⟩
   ·grind
   ·rw[Z1,Z1,Qr,Qr]at h;obtain⟨h1,h2⟩:=II h;grind
theorem Yh {h:Bool} {a b:Y9} (e:js h 0 a=js h 0 b):a.map (pn h)=b.map (pn h):=by rw[yn,yn]at e;exact aiY e
theorem Yi (h:Bool) (a:Y9) (r:amS):js h 0 (a++[r])=fJ (js h 0 a) (pn h r):=by rw[yn,yn,oH,Qr];rfl
theorem Yj {h:Bool} {ks:amQ}:∀{r r':amS} {j0:Nat},r.length=r'.length->((∀j,j<r.length->yh h ks (j0+j)=false->kF h (r.getD j default)=kF h (r'.getD j default))↔nC h ks j0 r=nC h ks j0 r')
 |[],[],_,_=>by grind
 |[],_::_,_,e=>by grind
 |_::_,[],_,e=>by grind
 |c::r,c'::r',j0,e=>by
  have ih:=Yj (h:=h) (ks:=ks) (r:=r) (r':=r') (j0:=j0+1) (by grind);rw[nC,nC];constructor
  ·intro hh;have h0:=hh 0 (by simp);rw[jy]at h0;have h1:=ih.1 λj hj hk=>by have:=hh (j+1) (by grind) (by grind);grind
   grind
  ·intro hh j hj hk;obtain⟨h1,h2⟩:=II hh;grind
theorem qE {m:Nat×Bool} (hm:m∈kf):m.1<64:=by simp only[kf,az,bL,bM]at hm;grind
theorem kg {m:Nat×Bool} (hm:m∈kf) (c:C):fD m.1 c=(js m.2 0 (ah c):Nat):=by simp only[kf,az,bL,bM]at hm;rcases hm with rfl|rfl<;>exact cG (by rfl) c
theorem Yk {m:Nat×Bool} (hm:m∈kf) (e:Nat):((bif r5 e then m.1 else 56),m.2&&r5 e)∈kf:=by simp only[kf,az,bL,bM]at hm⊢;grind
theorem f59 (c:C):fD 59 c=(A4 (aA c):Nat):=cG (by rfl) c
theorem A8 {μ:Nat->Int} {a b:aa}:aJ μ (fI a b)↔a.den μ=b.den μ:=by refine⟨λh=>?_,ju⟩;have h1:=h (a.sub b) (by simp[fI]);have h2:=h (b.sub a) (by simp[fI]);rw[br]at h1 h2;omega
theorem aiZ {m:Nat×Bool} (hm:m∈kf) {ρ:Kr} {x y:Nat} {k:Kd} (hx:(ρ x).kd=k) (hy:(ρ y).kd=k) (h:aJ (mu fD ρ) (DZ false m.1 k x y)):kF m.2 (ρ x)=kF m.2 (ρ y):=by
 subst hx;cases ex:ρ x<;>rw[ex]at hy h<;>cases ey:ρ y<;>rw[ey]at hy<;>first|(cases hy;done)|skip
 ·have:=A8.1 h;rw[au _ _ (by omega),au _ _ (by omega),ex,ey,cG (by rfl),cG (by rfl)]at this;simp only[f0,cD]at this;simp only[kF,this]
 ·have:=A8.1 h;rw[au _ _ (by omega),au _ _ (by omega),ex,ey,cG (by rfl),cG (by rfl)]at this;rename_i b b';cases b<;>cases b'<;>simp[f0,jh]at this<;>rfl
 ·have:=A8.1 h;rw[au _ _ (by omega),au _ _ (by omega),ex,ey,f59,f59]at this;simp only[aA]at this;simp only[kF];omega
 ·rename_i e1 r1 e2 r2;cases hy;have he:=Yk hm e1;have:=A8.1 λg hg=>h g (nF _ hg);rw[au _ _ (qE he),au _ _ (qE he),ex,ey,kg he,kg he]at this;simp only[ah]at this;simp only[kF];omega
theorem ai0 {m:Nat×Bool} (hm:m∈kf) {ρ:Kr} {x y:Nat} {k:Kd} (hx:(ρ x).kd=k) (hy:(ρ y).kd=k) (h:kF m.2 (ρ x)=kF m.2 (ρ y)):aJ (mu fD ρ) (DZ true m.1 k x y):=by
 subst hx;cases ex:ρ x<;>rw[ex]at hy h<;>cases ey:ρ y<;>rw[ey]at hy h<;>first|(cases hy;done)|skip
 ·refine ju ?_;rw[au _ _ (by omega),au _ _ (by omega),ex,ey,cG (by rfl),cG (by rfl)];simp only[kF]at h;exact aiW h
 ·refine ju ?_;rw[au _ _ (by omega),au _ _ (by omega),ex,ey,cG (by rfl),cG (by rfl)];rename_i b b';cases b<;>cases b'<;>simp[kF]at h<;>rfl
 ·refine ju ?_;rw[au _ _ (by omega),au _ _ (by omega),ex,ey,f59,f59];simp only[kF]at h;simp only[aA];omega
 ·rename_i e1 r1 e2 r2;cases hy;have he:=Yk hm e1;simp only[kF]at h;refine aJ.append (ju ?_) (ju ?_)
  ·rw[au _ _ (qE he),au _ _ (qE he),ex,ey,kg he,kg he];simp only[ah];omega
  ·rw[au _ _ (by omega),au _ _ (by omega),ex,ey,f2,f2];have:=ll List.length (Yh h);simp only[dI]at this;simp only[ah];omega
 ·exact λg hg=>by cases hg
theorem ai1 {n m x y:Nat} {l:Bool} {k:Kd} (hm:m<64) (hx:x<n) (hy:y<n):∀g∈DZ l m k x y,g.lt n:=by
 cases k with
 |int k=>exact kG (aI hx (by omega)) (aI hy (by omega))
 |bool=>exact kG (aI hx (by omega)) (aI hy (by omega))
 |str=>exact kG (aI hx (by omega)) (aI hy (by omega))
 |sl e=>
  have he:(bif r5 e then m else 56)<64:=by cases r5 e<;>simp<;>omega
  refine b8 (kG (aI hx he) (aI hy he)) ?_;cases l
  ·grind
  ·exact kG (aI hx (by omega)) (aI hy (by omega))
 |ptr=>exact λg hg=>by cases hg
 |any=>exact λg hg=>by cases hg
theorem O3 {n b b':Nat} {l:Bool} {m:Nat×Bool} {ks:amQ} (hm:m.1<64) (h:b+ks.length<=n) (h':b'+ks.length<=n):∀g∈A0 l m ks b b',g.lt n:=by
 refine vR λj hj=>?_;have hj:=dP.1 hj;cases yh m.2 ks j with
 |true=>grind
 |false=>
  simp only[lS];split
  ·exact ai1 hm (by omega) (by omega)
  grind
theorem O4 {m:Nat×Bool} (hm:m∈kf) {ρ:Kr} {b b':Nat} {ks:amQ} {r r':amS} (hr:r.map C.kd=ks) (bR:r'.map C.kd=ks) (h:iR ρ b r) (h':iR ρ b' r'):
 (aJ (mu fD ρ) (A0 false m ks b b')->pn m.2 r=pn m.2 r')/\(pn m.2 r=pn m.2 r'->aJ (mu fD ρ) (A0 true m ks b b')):=by
 have l1:=jv hr;have l2:=jv bR;have kd:∀{q:amS},q.map C.kd=ks->∀{j:Nat},j<ks.length->ks[j]?=some (q.getD j default).kd:=λ{q} hq {j} hj=>by grind
 have e1:pn m.2 r=nC m.2 ks 0 r:=by rw[pn,hr]
 have e2:pn m.2 r'=nC m.2 ks 0 r':=by rw[pn,bR]
 rw[e1,e2,<-Yj (by omega)];refine⟨λhh j hj hk=>?_,λhh=>qD λj hj=>?_⟩
 ·rw[eI]at hk;have q:aJ (mu fD ρ) (DZ false m.1 (r.getD j default).kd (b+j) (b'+j)):=λg hg=>hh g (ba.2 ⟨j,dP.2 (by omega),by grind⟩);have k2:=kd bR (j:=j) (by omega);rw[kd hr (by omega)]at k2;simp only[ae]at k2;have:=aiZ hm (by rw[h j hj]) (by rw[h' j (by omega),k2]) q;rw[h j hj,h' j (by omega)]at this;omega
 ·have hj:=dP.1 hj;cases hk:yh m.2 ks j with
  |true=>exact λg hg=>by grind
  |false=>simp only[lS];rw[kd hr hj];have k2:=kd bR (j:=j) hj;rw[kd hr hj]at k2;simp only[ae]at k2;exact ai0 hm (by rw[h j (by omega)]) (by rw[h' j (by omega),k2]) (by rw[h j (by omega),h' j (by omega)];grind)
variable {T:ay}
theorem zI (e:Nat):∀t∈XG (T e),kB fD (4+(T e).length+(T e).length) t λl=>∃a u b w r r',r.map C.kd=T e/\r'.map C.kd=T e/\ah u=ah a++[r]/\ah w=ah b++[r']/\l=a::u::b::w::(r++r'):=by
 intro t ht;obtain⟨m,hm,rfl⟩:=aF.1 ht;have hl:=qE hm;refine vQ ⟨b8 (kG (aI (by omega) hl) (aI (by omega) hl)) (O3 hl (by omega) (by omega)),kG (aI (by omega) hl) (aI (by omega) hl)⟩ λl _ hv=>?_;obtain⟨a,u,b,w,r,r',hr,bR,hu,hw,rfl⟩:=hv;intro hc;have E1:iR (bZ (a::u::b::w::(r++r'))) 4 r:=D4 (l0:=[a,u,b,w]);have E2:iR (bZ (a::u::b::w::(r++r'))) (4+(T e).length) r':=by have:=vS (l0:=[a,u,b,w]++r) (r:=r');rw[jS,jv hr]at this;simpa using this
 have h1:=A8.1 λg hg=>hc g (nF _ hg);have h2:=(O4 hm hr bR E1 E2).1 λg hg=>hc g (fj _ hg);rw[au _ _ hl,au _ _ hl]at h1;refine ju ?_;rw[au _ _ hl,au _ _ hl];show fD m.1 u=fD m.1 w;have h1:fD m.1 a=fD m.1 b:=h1;rw[kg hm,kg hm]at h1;rw[kg hm,kg hm,hu,hw,Yi,Yi,h2,Z2.1 h1]
theorem xF (e:Nat):∀t∈XH (T e),kB fD (2+(T e).length+(T e).length) t λl=>∃a b i,i<(ah a).length/\i<(ah b).length/\(∀r∈ah a,r.map C.kd=T e)/\(∀r∈ah b,r.map C.kd=T e)/\
 l=a::b::((List.range (T e).length).map (λj=>cellAt (ah a) i j)++(List.range (T e).length).map λj=>cellAt (ah b) i j):=by
 intro t ht;obtain⟨m,hm,rfl⟩:=aF.1 ht;have hl:=qE hm;refine vQ ⟨kG (aI (by omega) hl) (aI (by omega) hl),O3 hl (by omega) (by omega)⟩ λl _ hv=>?_;obtain⟨a,b,i,hi,cE,hk,bV,rfl⟩:=hv;intro hc;have hr:=hk _ (tR hi);have bR:=bV _ (tR cE);rw[vT hi (jv hr),vT cE (jv bR)]at hc⊢;have E1:iR (bZ (a::b::((ah a).getD i []++(ah b).getD i []))) 2 ((ah a).getD i []):=D4 (l0:=[a,b]);have E2:iR (bZ (a::b::((ah a).getD i []++(ah b).getD i []))) (2+(T e).length) ((ah b).getD i []):=by have:=vS (l0:=[a,b]++(ah a).getD i []) (r:=(ah b).getD i []);rw[jS,jv hr]at this;simpa using this
 have h1:=A8.1 hc;rw[au _ _ hl,au _ _ hl]at h1;have h1:fD m.1 a=fD m.1 b:=h1;rw[kg hm,kg hm]at h1;have h2:=Yh (Z2.1 h1);have h3:=ll (·[i]?) h2;simp only[bP,aP hi,aP cE,cj,ae]at h3;refine(O4 hm hr bR E1 E2).2 ?_;grind
theorem zK (e:Nat):∀t∈OA (T e),kB fD (2+(T e).length+(T e).length) t λl=>∃a i r,i<(ah a).length/\(∀r∈ah a,r.map C.kd=T e)/\r.map C.kd=T e/\
 l=a:: .sl e ((ah a).set i r)::((List.range (T e).length).map (λj=>cellAt (ah a) i j)++r):=by
 intro t ht;unfold OA at ht;cases hx:(dg (T e)).ex.any (λp=>p.2 !=0)<;>rw[hx]at ht
 ·grind
 ·have hm:((57,true):Nat×Bool)∈kf:=by simp[kf]
  rw[mJ,a8]at ht;subst ht;refine vQ ⟨O3 (by omega) (by omega) (by omega),kG (aI (by omega) (by omega)) (aI (by omega) (by omega))⟩ λl _ hv=>?_;obtain⟨a,i,r,hi,hk,hr,rfl⟩:=hv;intro hc;have ho:=hk _ (tR hi);rw[vT hi (jv ho)]at hc⊢;have E1:iR (bZ (a:: .sl e ((ah a).set i r)::((ah a).getD i []++r))) 2 ((ah a).getD i []):=D4 (l0:=[a, .sl e ((ah a).set i r)]);have E2:iR (bZ (a:: .sl e ((ah a).set i r)::((ah a).getD i []++r))) (2+(T e).length) r:=by have:=vS (l0:=[a, .sl e ((ah a).set i r)]++(ah a).getD i []) (r:=r);rw[jS,jv ho]at this;simpa using this
  have h2:=(O4 hm ho hr E1 E2).1 hc;refine ju ?_;rw[au _ _ (by omega),au _ _ (by omega)];show fD 57 a=fD 57 (.sl e _);have q1:=kg hm a;have q2:fD 57 (.sl e ((ah a).set i r))=(js true 0 ((ah a).set i r):Nat):=kg hm _;rw[q2];refine q1.trans ?_;rw[yn,yn,Br];congr 2;refine oD λj=>?_;grind
theorem zJ:∀t∈XI,kB fD 3 t λl=>∃e a b,l=[a,b, .sl e (ah a++ah b)]:=by
 intro t ht;obtain⟨i,hi,rfl⟩:=aF.1 ht;have hi:i=0\/i=1:=by simpa using hi
 refine vQ ⟨λg hg=>?_,vR λm hm=>kG (aI (by omega) (qE hm)) (aI (by omega) (qE hm))⟩ λl _ hv=>?_
 ·rw[a8.1 hg];exact kY (aI (by omega) (by omega))
 ·obtain⟨e,a,b,rfl⟩:=hv;intro hc;have h0:=hc _ (a8.2 rfl);rw[eu,au _ _ (by omega),f2]at h0;refine qD λm hm=>ju ?_;rw[au _ _ (qE hm),au _ _ (qE hm)];rcases hi with rfl|rfl
  ·show fD m.1 (.sl e _)=fD m.1 b;have h0:0<=-((ah a).length:Int):=h0;rw[kg hm,kg hm,qO (l:=ah a) (by omega)];rfl
  ·show fD m.1 (.sl e _)=fD m.1 a;have h0:0<=-((ah b).length:Int):=h0;rw[kg hm,kg hm,qO (l:=ah b) (by omega)];simp[ah]
theorem xG (m:Nat) (h:some 59=some m):m<64/\∀a b,fD m a=fD m b->aA a=aA b:=by cases h;refine⟨by omega,λa b h=>?_⟩;rw[f59,f59]at h;exact aiX (Z2.1 h)
def IJ (p:List Kd×RI):Bool:=(List.range p.1.length).all λj=>!AU p.2 j||match p.1[j]?with
 |some (.int _)=>(wF 58 p.2).contains ((aa.const 1).sub (af 20 j))
 |some .bool=>(wF 58 p.2).contains (af 1 j)
 |some .str=>(wF 58 p.2).contains (af 3 j)
 |some (.sl _)=>(wF 58 p.2).contains (af 2 j)
 |_=>true
theorem IK {l:amY} {g:aa} (h:l.contains g=true):g∈l:=by grind
theorem ai2 (c:C):ew (wM 58) (aH 58) c<=0->js true 0 (ah c)=js false 0 (ah c):=by
 apply C.rec (motive_1:=λc=>ew (wM 58) (aH 58) c<=0->js true 0 (ah c)=js false 0 (ah c)) (motive_2:=λrows=>aS (wM 58) (aH 58) rows<=0->∀a,js true a rows=js false a rows)
  (motive_3:=λr=>∀ks j,eG (wM 58) (aH 58) ks j r<=0->(∀i,i<r.length->AU (dg ks) (j+i)=true->kF false (r.getD i default)=0)->(∀i,i<r.length->∃k,ks[j+i]?=some k/\(r.getD i default).kd=k)->nC true ks j r=nC false ks j r)
 ·intro k n _;rfl
 ·intro b _;rfl
 ·intro s _;rfl
 ·intro e rows ih h;simp only[ew]at h;exact ih h 0
 ·intro _;rfl
 ·intro _ a;rfl
 ·intro r rows h1 h2 h a;have q1:=jt 58 r;have q2:=A2 (sel:=aH 58) (jt 58) (r.map C.kd) 0 r;have q3:=mE (sel:=aH 58) (jt 58) rows;simp only[aS]at h;rw[js,js,h1 (r.map C.kd) 0 (by omega) ?_ ?_]
  ·grind
  ·intro i hi hm;rw[eI]at hm;have hw:∀g∈wF 58 (dg (r.map C.kd)),g.den (mu fA (bZ r))<=0:=λg hg=>by have:g.den (mu fA (bZ r))<=wM 58 r:=OC hg r;omega
   have hc:∀p∈AT,IJ p=true:=by
    have:AT.all IJ=true:=by kernel_rfl
    exact aX.1 this
   have hk:(r.map C.kd)[i]?=some (r.getD i default).kd:=by rw[bP,aP hi,aZ,aP hi];rfl
   have hs:IJ (r.map C.kd,dg (r.map C.kd))=true:=by refine OF (Q:=λks r=>IJ (ks,r)=true) (λks=>?_) (λp hp=>hc p hp) _;refine aX.2 λj _=>?_;simp[AU]
   have:=aX.1 hs i (dP.2 (by grind));simp only[hm,hk,qM,kM]at this;have dD:∀m,m<64->(af m i).den (mu fA (bZ r))=fA m (r.getD i default):=λm hm=>au _ _ hm;generalize r.getD i default=d at this dD;cases d<;>simp only[C.kd]at this
   ·rename_i k n;have:=hw _ (IK this);rw[br,cg,dD _ (by omega)]at this;simp only[fA,f0,cD]at this;by_cases hn:n=0
    ·subst hn;rfl
    omega
   ·rename_i b;have:=hw _ (IK this);rw[dD _ (by omega)]at this;cases b
    ·rfl
    ·simp[fA,f0,jh]at this
   ·rename_i s;have:=hw _ (IK this);rw[dD _ (by omega)]at this;simp only[fA,f0,aA]at this;have:s.data.toList=[]:=qO (show s.size=0 by omega);simp only[kF,A4,this];rfl
   ·rename_i e rows;have:=hw _ (IK this);rw[dD _ (by omega)]at this;simp only[fA,f0,ah]at this;rw[qO (l:=rows) (by omega)];rfl
   ·rfl
  grind
 ·intro ks j _ _ _;rfl
 ·intro c r h1 h2 ks j h hm hk;have q1:=A1 (sel:=aH 58) (jt 58) c;have q2:=A2 (sel:=aH 58) (jt 58) ks (j+1) r;simp only[eG]at h;have e2:eG (wM 58) (aH 58) ks (j+1) r<=0:=by cases hs:aH 58 ks j<;>rw[hs]at h<;>simp only at h<;>omega
  rw[nC,nC,h2 ks (j+1) e2 (λi hi ai3=>?_) λi hi=>?_]
  ·congr 1;simp only[yh,yC,PR,lS];cases O5:AU (dg ks) j with
   |true=>have:=hm 0 (by simp) (by omega);grind
   |false=>
    simp only[lS];obtain⟨k,k1,k2⟩:=hk 0 (by simp);simp only[jy,ZL]at k1 k2;cases c<;>first|rfl|skip
    rename_i e rows;cases wJ:r5 e with
    |false=>simp[kF,wJ]
    |true=>
    simp only[kF,wJ,v9,Qa];refine h1 ?_;have hs:aH 58 ks j=true:=by
     have hv:tM (dg ks) j=false:=by
      cases hv:tM (dg ks) j with
      |false=>rfl
      |true=>obtain⟨p,hp,hq⟩:=ud.1 hv;have:AU (dg ks) j=true:=ud.2 ⟨p,hp,by grind⟩;grind
     simp only[aH,k1,<-k2,hv,C.kd,Xn,wJ];rfl
    grind
  ·have:=hm (i+1) (by grind) (by grind);grind
  ·obtain⟨k,k1,k2⟩:=hk (i+1) (by grind);grind
theorem aiG {c:C} (h:fD 58 c<=0):fD 56 c=fD 57 c:=by
 have hm:(58:Nat)∈bW:=by simp[bW]
 have:=ai2 c (by assumption);have h1:=kg (m:=(56,false)) (by simp[kf]) c;have h2:=kg (m:=(57,true)) (by simp[kf]) c;grind
end Go.Pv
namespace Go.Pv
open Go
theorem X9 {m:Nat} {s:ByteArray} {v:Int} (h:H9 m s=some v):AY m= .str/\fD m (.str s)=v:=by
 unfold H9 at h;split at h<;>first|(cases h;done)|skip
 all_goals
  simp only[ae]at h;subst h;exact⟨rfl,cG (by rfl) _⟩
theorem qp (s:ByteArray):dH fD 1 (Xr s) λl=>l=[.str s]:=by
 refine tok (vR λm hm=>?_) λl hl hv=>qD λm hm=>?_
 ·have:m<64:=by simp only[az,bL,bM]at hm;omega
  split
  ·exact kG (aI (by omega) this) (dY _ _)
  grind
 ·have:m<64:=by simp only[az,bL,bM]at hm;omega
  split
  ·rename_i v h;subst hv;refine ju ?_;rw[cg,au _ _ this];exact(X9 h).2
  ·exact λg hg=>by grind
theorem Iq (s:ByteArray):s.toList.length=s.size:=by rw[ByteArray.toList_eq];rfl
theorem Gg (s:ByteArray) (m:Nat) (v:Int) (h:Ox s=some (m,v)):m<64/\∀c,fm (aA c) s=decide (fD m c=v):=by
 unfold Ox at h;split at h
 ·rename_i hz;cases h;refine⟨by omega,λc=>?_⟩;rw[f3];have hs:s.toList=[]:=qO (by simp_all);rw[fm,hs,we];simp only[qN,eN];rw[<-Iq];simp_all
 ·split at h
  ·rename_i ha;cases h;refine⟨by omega,λc=>?_⟩;have e:=eq_of_beq ha;rw[cG (by rfl),fm,e];simp only[f0];grind
  grind
theorem OR {m t:Nat} (hm:(m,t)∈[(13,20),(14,41),(15,64)]) {μ:Nat->Int} {c:C} (h3:μ 3=fD 3 c) (rF:μ m=fD m c) (h:0<=-μ 3+t):μ m=0:=by
 rw[h3,f3]at h;rw[rF];simp only[az,bT,bL,bM]at hm;rcases hm with⟨rfl,rfl⟩|⟨rfl,rfl⟩|⟨rfl,rfl⟩<;>
  (rw[cG (by rfl)];simp only[f0,iz];split<;>omega)
theorem vj:∀t∈DY,kB fD 1 t λ_=>True:=by
 intro t ht;refine vQ ?_ λl hl _=>?_
 ·have:DY.all (λt=>t.1.all (vO 1)&&t.2.all (vO 1))=true:=by kernel_rfl
  have:=aX.1 this t ht;simp only[aB]at this;exact⟨jw this.1,jw this.2⟩
 ·obtain⟨c,rfl⟩:=X2 (P:=λ_=>True) (μ:=λ_ _=>0) l hl;simp only[DY,az,bL,bM]at ht;intro hc g hg;rcases ht with rfl|rfl|rfl;all_goals
   have h1:=hc _ (a8.2 rfl);rw[a8.1 hg,eu,au _ _ (by omega)];rw[cO,eu,au _ _ (by omega)]at h1
  ·have:=OR (m:=13) (t:=20) (by simp) (μ:=λm=>fD m c) rfl rfl h1;show 0<=-fD 13 c;omega
  ·have:=OR (m:=14) (t:=41) (by simp) (μ:=λm=>fD m c) rfl rfl h1;show 0<=-fD 14 c;omega
  ·have:=OR (m:=15) (t:=64) (by simp) (μ:=λm=>fD m c) rfl rfl h1;show 0<=-fD 15 c;omega
theorem zD:∀t∈Xs,kB fD 1 t λ_=>True:=by
 intro t ht;rcases bB.1 ht with ht|ht
 ·exact vj t ht
 ·refine vQ ?_ λl hl _=>?_
  ·have:([([(af 11 0).bI (-1)],[(af 13 0).neg,(af 14 0).neg,(af 15 0).neg]),([(af 2 0).neg],bW.map λm=>(af m 0).neg),([(af 58 0).neg],fI (af 56 0) (af 57 0)),([(af 2 0).neg],kf.flatMap λm=>fI (af m.1 0) (.const 0))]:List (List aa×List aa)).all (λt=>t.1.all (vO 1)&&t.2.all (vO 1))=true:=by kernel_rfl
   have:=aX.1 this t ht;simp only[aB]at this;exact⟨jw this.1,jw this.2⟩
  ·obtain⟨c,rfl⟩:=X2 (P:=λ_=>True) (μ:=λ_ _=>0) l hl;simp only[az,bL,bM]at ht;intro hc g hg;rcases ht with rfl|rfl|rfl|rfl
   ·have h1:=hc _ (a8.2 rfl);rw[cO,au _ _ (by omega)]at h1;have hs:(aA c).size=5:=by
     change 0<=fD 11 c+-1 at h1;rw[cG (by rfl)]at h1;simp only[f0]at h1;split at h1
     ·rename_i hb;rw[<-Iq,eq_of_beq hb,Iq];rfl
     ·omega
    simp only[az,bL,bM]at hg;rcases hg with rfl|rfl|rfl<;>rw[eu,au _ _ (by omega)]
    ·show 0<=-fD 13 c;rw[cG (by rfl)];simp only[f0,iz,hs];decide
    ·show 0<=-fD 14 c;rw[cG (by rfl)];simp only[f0,iz,hs];decide
    ·show 0<=-fD 15 c;rw[cG (by rfl)];simp only[f0,iz,hs];decide
   ·have h1:=hc _ (a8.2 rfl);rw[eu,au _ _ (by omega)]at h1;obtain⟨m,hm,rfl⟩:=aF.1 hg;rw[eu,au _ _ (ec hm)];show 0<=-fD m c;change 0<=-fD 2 c at h1;rw[f2]at h1;rw[Im hm (by omega)];omega
   ·have h1:=hc _ (a8.2 rfl);rw[eu,au _ _ (by omega)]at h1;refine ju ?_ g hg;rw[au _ _ (by omega),au _ _ (by omega)];change 0<=-fD 58 c at h1;exact aiG (c:=c) (by omega)
   ·have h1:=hc _ (a8.2 rfl);rw[eu,au _ _ (by omega)]at h1;change 0<=-fD 2 c at h1;rw[f2]at h1;refine qD (λm hm=>ju ?_) g hg;rw[au _ _ (qE hm),cg];show fD m.1 c=0;rw[kg hm,qO (l:=ah c) (by omega)];rfl
theorem aiH (a b:ByteArray) (x:UInt8):(a++b).toList.contains x=(a.toList.contains x||b.toList.contains x):=by rw[ByteArray.toList_eq,ByteArray.toList_eq,ByteArray.toList_eq,ByteArray.data_append,Array.toList_append,List.contains_append]
theorem xr:dH fD 3 Oy λl=>∃a b,l=[a,b, .str (aA a++aA b)]:=by
 refine tok (jw (by rfl)) λl hl hv=>?_;obtain⟨a,b,rfl⟩:=hv;have e:∀(m:Nat),m<64->(af m 0).den (mu fD (bZ [a,b, .str (aA a++aA b)]))=fD m a/\(af m 1).den (mu fD (bZ [a,b, .str (aA a++aA b)]))=fD m b/\(af m 2).den (mu fD (bZ [a,b, .str (aA a++aA b)]))=fD m (.str (aA a++aA b)):=
  λm hm=>⟨au _ _ hm,au _ _ hm,au _ _ hm⟩
 obtain⟨a3,b3,c3⟩:=e 3 (by omega);obtain⟨Ir,Is,D6⟩:=e 12 (by omega);obtain⟨It,Iu,Iv⟩:=e 13 (by omega);obtain⟨Iw,Ix,Iy⟩:=e 14 (by omega);obtain⟨Iz,IA,IB⟩:=e 15 (by omega);clear e;have cf:(aA a++aA b).size=(aA a).size+(aA b).size:=alJ ..;rw[f3]at a3 b3 c3;rw[cG (by rfl)]at Ir Is D6 It Iu Iv Iw Ix Iy Iz IA IB;have cs:aA (.str (aA a++aA b))=aA a++aA b:=rfl;simp only[f0,iz,cs,aiH,cf]at a3 b3 c3 Ir Is D6 It Iu Iv Iw Ix Iy Iz IA IB;intro g hg;simp only[Oy,az,bL,bM]at hg;rcases hg with rfl|rfl|rfl|rfl|rfl|rfl|rfl|rfl
 ·rw[br,Ir,D6];grind
 ·rw[br,Is,D6];grind
 all_goals
  simp only[br,den_add,a3,b3,It,Iu,Iv,Iw,Ix,Iy,Iz,IA,IB];clear a3 b3 c3 Ir Is D6 It Iu Iv Iw Ix Iy Iz IA IB;omega
theorem aiI (s:ByteArray) (i j:Nat):(s.extract i j).size<=s.size:=by rw[Qc];omega
theorem aiJ (s:ByteArray) (i j:Nat) (x:UInt8) (h:(s.extract i j).toList.contains x=true):s.toList.contains x=true:=by rw[ByteArray.toList_eq]at h⊢;rw[ByteArray.data_extract]at h;simp only[jT]at h⊢;rw[ZC]at h⊢;obtain⟨k,hk,rfl⟩:=Array.mem_iff_getElem.1 h;grind
theorem OS (t:Nat) {s s':ByteArray} (h:s'.size<=s.size):iz t s'<=iz t s:=by unfold iz;omega
theorem xt:dH fD 2 Oz λl=>∃a i j,l=[a, .str ((aA a).extract i j)]:=by
 refine tok (jw (by rfl)) λl hl hv=>?_;obtain⟨a,i,j,rfl⟩:=hv;intro g hg;simp only[Oz,bu,mL,az,bL,bM]at hg;have hs:=aiI (aA a) i j;rcases hg with rfl|rfl|rfl|rfl<;>rw[br,au _ _ (by omega),au _ _ (by omega)]
 ·show 0<=fD 12 a-fD 12 (.str _);rw[cG (by rfl),cG (by rfl)];have cs:aA (.str ((aA a).extract i j))=(aA a).extract i j:=rfl;simp only[f0,cs];have:=aiJ (aA a) i j 46;grind
 ·show 0<=fD 13 a-fD 13 (.str _);rw[cG (by rfl),cG (by rfl)];exact ZW.2 (OS 20 hs)
 ·show 0<=fD 14 a-fD 14 (.str _);rw[cG (by rfl),cG (by rfl)];exact ZW.2 (OS 41 hs)
 ·show 0<=fD 15 a-fD 15 (.str _);rw[cG (by rfl),cG (by rfl)];exact ZW.2 (OS 64 hs)
theorem xz:dH fD 2 XA λl=>∃a,l=[a, .str (aA a)]:=by refine tok (jw (by rfl)) λl hl hv=>?_;obtain⟨a,rfl⟩:=hv;refine qD λm hm=>ju ?_;simp only[az,bL,bM]at hm;rcases hm with rfl|rfl|rfl|rfl|rfl|rfl|rfl<;>(rw[au _ _ (by omega),au _ _ (by omega)];exact(cG (by rfl) _).trans (cG (by rfl) _).symm)
def yk (e:Nat) (ks:amQ):Bool:=
 (!Nat.beq e 47||decide (ks=[.str, .sl 47]))&&
 ((e==49||e==77||e==53||ks.any H5)||((wF 9 (dg ks)).isEmpty&&(List.range ks.length).all λj=>!aH 9 ks j))&&
 (!Ow ks||((wF 7 (dg ks)).isEmpty&&(!(dg ks).ty.isEmpty||(wF 8 (dg ks)).isEmpty)))
theorem IC {w:List C->Int} {sel:List Kd->Nat->Bool} {ks:amQ}:∀(r:amS) (j:Nat),(∀i c,r[i]?=some c->sel ks (j+i)=false\/ew w sel c=0)->eG w sel ks j r=0
 |[],_,_=>rfl
 |c::r,j,h=>by
  have h1:=IC (w:=w) (sel:=sel) (ks:=ks) r (j+1) λi c hi=>by have:=h (i+1) c (by grind);grind
  have h0:=h 0 c rfl;rw[jy]at h0;rw[eG,h1];grind
theorem ID {w:List C->Int} {sel:List Kd->Nat->Bool} {k:Int}:∀{rows:Y9},(∀r∈rows,dJ w sel r=k)->aS w sel rows=rows.length*k
 |[],_=>by simp[aS]
 |r::rows,h=>by have h1:=ID (rows:=rows) λr hr=>h r (by grind);have h0:=h r (by simp);rw[dJ]at h0;rw[aS,h1,h0,eH,Int.natCast_succ,Qh];omega
theorem aiK {m:Nat} {r:amS} {ks:amQ} (h:(wF m (dg ks)).isEmpty=true) (hr:r.map C.kd=ks):wM m r=0:=by rw[wM,hr,ue.1 h];rfl
theorem OT {m:Nat} {ks:amQ} {j:Nat} (h:aH m ks j=true):∃e,ks[j]?=some (.sl e):=by
 simp only[aH,aB]at h;have:=h.1.1.1.1;split at this
 ·rename_i k hk;simp only[aB]at this;cases k<;>first|(exact⟨_,hk⟩)|(cases this.1)
 grind
theorem aiL {T:ay} (OU:T 47=[.str, .sl 47]):∀c:C,∀rows,c= .sl 47 rows->bN T c->aS (wM 4) (aH 4) rows<=aS (wM 18) (aH 18) rows:=by
 intro c;apply C.rec (motive_1:=λc=>∀rows,c= .sl 47 rows->bN T c->aS (wM 4) (aH 4) rows<=aS (wM 18) (aH 18) rows)
  (motive_2:=λrows=>(∀r∈rows,r.map C.kd=T 47)->(∀r∈rows,∀c∈r,bN T c)->aS (wM 4) (aH 4) rows<=aS (wM 18) (aH 18) rows)
  (motive_3:=λr=>∀c∈r,∀rows,c= .sl 47 rows->bN T c->aS (wM 4) (aH 4) rows<=aS (wM 18) (aH 18) rows)
 ·grind
 ·grind
 ·grind
 ·intro e rows ih lA h hc;cases h;cases hc with
  |sl _ _ _ hk hr=>grind
 ·grind
 ·intro _ _;exact iU _
 ·intro r rows h1 h2 hk hc;have h3:=h2 (λr hr=>hk r (by grind)) (λr hr=>hc r (by grind));have hr:=hk r (by simp);rw[OU]at hr
  match r,hr with
  |[.str s, .sl 47 lA],_=>
   have h4:=h1 (.sl 47 lA) (by simp) lA rfl (hc [.str s, .sl 47 lA] (by simp) (.sl 47 lA) (by simp));simp only[aS,Ip,D5];have e4:aH 4 [.str, .sl 47] 0=false/\aH 4 [.str, .sl 47] 1=true/\aH 18 [.str, .sl 47] 0=false/\aH 18 [.str, .sl 47] 1=true:=by decide
   simp only[bu,mL,C.kd,eG,e4,ew];omega
 all_goals grind
theorem Ya {m m':Nat} (Yb:(m=6/\m'=17)\/(m=4/\m'=18)) {T:ay} (hl:sa.all (λe=>H7 (T e))=true):∀c:C,∀e rows,c= .sl e rows->e∈sa->bN T c->aS (wM m) (aH m) rows<=aS (wM m') (aH m') rows:=by
 intro c;apply C.rec (motive_1:=λc=>∀e rows,c= .sl e rows->e∈sa->bN T c->aS (wM m) (aH m) rows<=aS (wM m') (aH m') rows)
  (motive_2:=λrows=>∀e∈sa,(∀r∈rows,r.map C.kd=T e)->(∀r∈rows,∀c∈r,bN T c)->aS (wM m) (aH m) rows<=aS (wM m') (aH m') rows)
  (motive_3:=λr=>∀c∈r,∀e rows,c= .sl e rows->e∈sa->bN T c->aS (wM m) (aH m) rows<=aS (wM m') (aH m') rows)
 ·grind
 ·grind
 ·grind
 ·intro e rows ih e' lA h he hc;cases h;cases hc with
  |sl _ _ _ hk hr=>grind
 ·grind
 ·intro _ _ _ _;exact iU _
 ·intro r rows h1 h2 e he hk hc;have h3:=h2 e he (λr hr=>hk r (by grind)) (λr hr=>hc r (by grind));have hr:=hk r (by simp);have wW:=aX.1 hl e he;simp only[H7,aB]at wW;have hex:(dg (T e)).ex=[]:=ue.1 wW.1;have hw:wM m r=wM m' r:=by
   rcases Yb with⟨rfl,rfl⟩|⟨rfl,rfl⟩
   ·rw[A6 (m:=6) rfl,A6 (m:=17) rfl,hr];have:((dg (T e)).str.filter λp=>!tM (dg (T e)) p.1)=(dg (T e)).str:=List.filter_eq_self.2 λp _=>by simp[tM,hex]
    grind
   ·rfl
  have vU:∀j,aH m (T e) j=true->aH m' (T e) j=true:=λj hs=>by
   rcases Yb with⟨rfl,rfl⟩|⟨rfl,rfl⟩<;>
   ·simp only[aH,aB]at hs⊢;obtain⟨⟨⟨⟨k1,k2⟩,k3⟩,k4⟩,k5⟩:=hs;refine⟨⟨⟨⟨k1,?_⟩,k3⟩,rfl⟩,rfl⟩;simp[tM,hex]
  have l7:∀(r':amS) (j:Nat),(∀i c,r'[i]?=some c->c∈r/\(T e)[j+i]?=some c.kd)->eG (wM m) (aH m) (T e) j r'<=eG (wM m') (aH m') (T e) j r':=by
   intro r';induction r' with
   |nil=>intro j _;exact iU _
   |cons c r' ih=>
    intro j hi;have h5:=ih (j+1) λi c' dF=>by have:=hi (i+1) c' (by grind);grind
    obtain⟨hm,fM⟩:=hi 0 c rfl;rw[jy]at fM;have h6:=A1 (sel:=aH m') (jt m') c;simp only[eG];cases hs:aH m (T e) j with
    |false=>grind
    |true=>
     rw[vU j hs];simp only;have:ew (wM m) (aH m) c<=ew (wM m') (aH m') c:=by
      cases c<;>first|exact iU _|skip
      rename_i e' lA;have gE:=aX.1 wW.2 _ (aY fM);simp only[C.kd,jT]at gE;exact h1 _ hm e' lA rfl gE (hc r (by simp) _ hm)
     omega
  have:=l7 r 0 λi c hi=>⟨aY hi,by grind⟩
  simp only[aS,hw,hr];omega
 all_goals grind
theorem xq {T:ay} (aj:sa.all (λe=>H7 (T e))=true) {e:Nat} (hf:yk e (T e)=true):dH fD 1 (Xp e (T e)) λl=>∃c,l=[c]/\bN T (.sl e (ah c)):=by
 simp only[yk,aB]at hf;obtain⟨⟨h1,h2⟩,h3⟩:=hf;refine tok (b8 (b8 (b8 ?_ ?_) ?_) ?_) λl hl hv=>?_
 ·split
  ·exact jw (by rfl)
  grind
 ·split
  ·exact jw (by rfl)
  grind
 ·split
  ·grind
  ·exact jw (by rfl)
 ·split
  ·refine b8 (jw (by rfl)) ?_;split
   ·exact jw (by rfl)
   grind
  grind
 ·obtain⟨c,rfl,hc⟩:=hv;have a:∀m,m<64->(af m 0).den (mu fD (bZ [c]))=fD m c:=λm hm=>au _ _ hm;have hk:∀r∈ah c,r.map C.kd=T e:=by cases hc with|sl _ _ _ hk _=>omega
  have zero:∀m∈bW,(wF m (dg (T e))).isEmpty=true->((List.range (T e).length).all λj=>!aH m (T e) j)=true->fD m c=0:=λm hm hw hs=>by
   rw[eL hm,ID (k:=0) λr hr=>?_];omega;rw[dJ,aiK hw (hk r hr),hk r hr,IC r 0 λi c hi=>?_];all_goals grind
  have flat:Ow (T e)=true->∀m,((List.range (T e).length).all λj=>!aH m (T e) j)=true:=λh m=>by
   rw[aX];intro j hj;cases hs:aH m (T e) j with
   |false=>rfl
   |true=>obtain⟨e',pJ⟩:=OT hs;have:=aX.1 h _ (aY pJ);cases this
  refine aJ.append (aJ.append (aJ.append ?_ ?_) ?_) ?_
  ·split
   ·rename_i he;have he:=eq_of_beq he;subst he;simp only[iT,gy,eN]at h1;have OU:T 47=[.str, .sl 47]:=by
     rcases h1 with h1|h1
     ·cases h1
     ·omega
    intro g hg;rw[a8.1 hg,br,a 18 (by omega),a 4 (by omega),eL (by decide),eL (by decide)];have:=aiL OU _ _ rfl hc;omega
   ·exact λg hg=>by grind
  ·split
   ·rename_i he;have he:=eq_of_beq he;subst he;intro g hg;simp only[az,bL,bM]at hg;rcases hg with rfl|rfl
    ·rw[br,a 17 (by omega),a 6 (by omega),eL (by decide),eL (by decide)];have:=Ya (.inl ⟨rfl,rfl⟩) aj _ 2030 _ rfl (by simp[sa]) hc;omega
    ·rw[br,a 18 (by omega),a 4 (by omega),eL (by decide),eL (by decide)];have:=Ya (.inr ⟨rfl,rfl⟩) aj _ 2030 _ rfl (by simp[sa]) hc;omega
   ·exact λg hg=>by grind
  ·split
   ·exact λg hg=>by grind
   ·rename_i he;intro g hg;rw[a8.1 hg,eu,a 9 (by omega)];simp only[iT]at h2;rcases h2 with h2|h2
    ·grind
    ·simp only[aB]at h2;rw[zero 9 (by decide) h2.1 h2.2];omega
  ·split
   ·rename_i kx;simp only[kx,qM,kM,aB]at h3;have l4:fD 4 c=(ah c).length:=by
     rw[eL (by decide),ID (k:=1) λr hr=>?_];omega;rw[dJ,Ip,hk r hr,IC r 0 λi c hi=>?_];rfl;left;have:i<(T e).length:=by rw[<-jv (hk r hr)];exact(Bk.1 hi).1
     have:=aX.1 (flat kx 4) i (dP.2 this);simpa using this
    have X8:fD 18 c=(ah c).length:=by
     rw[eL (by decide),ID (k:=1) λr hr=>?_];omega;rw[dJ,D5,hk r hr,IC r 0 λi c hi=>?_];rfl;left;have:i<(T e).length:=by rw[<-jv (hk r hr)];exact(Bk.1 hi).1
     have:=aX.1 (flat kx 18) i (dP.2 this);simpa using this
    refine aJ.append ?_ ?_
    ·intro g hg;simp only[az,bL,bM]at hg;rcases hg with rfl|rfl|rfl
     ·rw[br,a 2 (by omega),a 4 (by omega),f2,l4];omega
     ·rw[br,a 2 (by omega),a 18 (by omega),f2,X8];omega
     ·rw[eu,a 7 (by omega),zero 7 (by decide) h3.1 (flat kx 7)];omega
    ·split
     ·rename_i aiM;have h4:=h3.2;simp only[iT]at h4;rcases h4 with h4|h4
      ·grind
      ·intro g hg;rw[a8.1 hg,eu,a 8 (by omega),zero 8 (by decide) h4 (flat kx 8)];omega
     ·exact λg hg=>by grind
   ·exact λg hg=>by grind
end Go.Pv
namespace Go.Pv
open Go
def yl:List Nat:=[7,8,17,18,19]
def okW (e:Nat) (g:aa):Bool:=g.l.all λp=>!lz e (p.1/64)&&!bW.contains (p.1%64)&&!(p.1%64==56||p.1%64==57)
def IE (e:Nat) (ks sC:amQ):Bool:=
 bW.all (λm=>(wF m (dg sC)).all (λg=>(wF m (dg ks)).any (λg'=>Ig (g'.sub g))&&okW e g)&&(List.range ks.length).all λj=>!aH m sC j||aH m ks j)&&
 yl.all λm=>decide (wF m (dg sC)=wF m (dg ks))&&(List.range ks.length).all λj=>aH m sC j==aH m ks j
theorem OV {m:Nat} (h:m∈yl):m∈bW:=by simp only[yl,bW,az,bL,bM]at h⊢;omega
theorem Yc (n:Nat) (c:C):cD (eJ n c)=cD c/\jh (eJ n c)=jh c/\aA (eJ n c)=aA c/\(ah (eJ n c)).length=(ah c).length:=by
 cases n with
 |zero=>exact⟨rfl,rfl,rfl,rfl⟩
 |succ n=>
  cases c with
  |sl e rows=>simp only[eJ];cases di e==e<;>simp[cD,jh,aA,ah]
  |_=>exact⟨rfl,rfl,rfl,rfl⟩
theorem aiN {m:Nat} (h:(m==56||m==57)=false) (n:Nat) (c:C):f0 m (eJ n c)=f0 m c:=by obtain⟨h1,h2,h3,h4⟩:=Yc n c;unfold f0;split<;>first|contradiction|simp only[h1,h2,h3,h4]
def ym (n e:Nat) (r:amS):List C:=r.mapIdx λj c=>bif lz e j then .any else eJ n c
theorem aiO (n e:Nat) (r:amS) (j:Nat) (h:lz e j=false):(ym n e r).getD j default=eJ n (r.getD j default):=by
 rw[ym,aZ,aZ,Bn];cases r[j]?with
 |none=>cases n<;>rfl
 |some c=>simp[h]
theorem Yd {n e:Nat} {g:aa} (h:okW e g=true) (r:amS):g.den (mu fA (bZ (ym n e r)))=g.den (mu fA (bZ r)):=by
 unfold aa.den;congr 1;refine F5 λp hp=>?_;have:=aX.1 h p hp;simp only[aB,gy]at this;have h4:p.1%64≠4:=λe=>by rw[e]at this;cases this.1.2
 simp only[mu,OL,fA,aQ h4];rw[aiO n e r _ this.1.1,aiN this.2]
theorem OW {m:Nat} {ks sC:amQ} {q:Int->Int->Prop} (q0:q 0 0) (qa:∀a b c d,q a b->q c d->q (a+c) (b+d)):∀(r:amS) (f:Nat->C->C) (j:Nat),
 (∀i c,r[i]?=some c->q (match aH m sC (j+i)with|true=>ew (wM m) (aH m) (f i c)|false=>0) (match aH m ks (j+i)with|true=>ew (wM m) (aH m) c|false=>0))->
 q (eG (wM m) (aH m) sC j (r.mapIdx f)) (eG (wM m) (aH m) ks j r)
 |[],_,_,_=>q0
 |c::r,f,j,h=>by rw[List.mapIdx_cons,eG,eG];refine qa _ _ _ _ (h 0 c rfl) (OW q0 qa r (λi=>f (i+1)) (j+1) λi c hi=>?_);have:=h (i+1) c (by simpa using hi);rw[show j+(i+1)=j+1+i by omega]at this;exact this
theorem OX {w:List C->Int} {sel:List Kd->Nat->Bool} {q:Int->Int->Prop} (q0:q 0 0) (qa:∀a b c d,q a b->q c d->q (a+c) (b+d)) {F:List C->List C}:∀{rows:Y9},(∀r∈rows,q (dJ w sel (F r)) (dJ w sel r))->
 q (aS w sel (rows.map F)) (aS w sel rows)
 |[],_=>q0
 |r::rows,h=>qa _ _ _ _ (h r (by simp)) (OX q0 qa λr hr=>h r (by simp[hr]))
theorem aiP {T:ay} (aiQ:∀e,di e≠e->IE e (T e) (T (di e))=true):∀(n e:Nat) (rows:Y9),pC T n e=true->bN T (.sl e rows)->∀m∈bW,
 aS (wM m) (aH m) (ah (eJ n (.sl e rows)))<=aS (wM m) (aH m) rows/\(m∈yl->aS (wM m) (aH m) (ah (eJ n (.sl e rows)))=aS (wM m) (aH m) rows):=by
 intro n;induction n with
 |zero=>intro e rows _ _ m _;exact⟨iU _,λ_=>rfl⟩
 |succ n ih=>
  intro e rows ho hc m hm;simp only[eJ];by_cases he:di e=e
  ·have h1:(di e==e)=true:=by simpa using he
   rw[h1];exact⟨iU _,λ_=>rfl⟩
  ·have h1:(di e==e)=false:=by simpa using he
   rw[h1];simp only[lS,ah];simp only[pC,h1,kM,aB,eN]at ho;obtain⟨⟨fP,_⟩,aiR⟩:=ho;have OY:=aiQ e he;simp only[IE,aB]at OY;have ha:=aX.1 OY.1 m hm;simp only[aB]at ha;cases hc with
   |sl _ _ _ hk hr=>
    have IF:∀r∈rows,(ym n e r).map C.kd=T (di e):=by
     intro r bR;rw[<-fP,<-hk r bR];refine oD λj=>?_;rw[ym,bP,Bn,Bn,bP];cases r[j]?with
     |none=>rfl
     |some c=>
      simp only[cj,ae];cases lz e j with
      |true=>rfl
      |false=>exact Ri n c
    have cell:∀r∈rows,∀(i:Nat) c,r[i]?=some c->aH m (T (di e)) (0+i)=true->aH m (T e) (0+i)=true->ew (wM m) (aH m) (bif lz e i then .any else eJ n c)<=ew (wM m) (aH m) c/\
     (m∈yl->ew (wM m) (aH m) (bif lz e i then .any else eJ n c)=ew (wM m) (aH m) c):=by
     intro r bR i c hi hs yg;rw[eI]at hs yg;obtain⟨e',pJ⟩:=OT hs;obtain⟨e2,B9⟩:=OT yg;have hh:lz e i=false:=by
      cases hh:lz e i with
      |false=>rfl
      |true=>rw[<-fP,Bn,B9]at pJ;simp[hh]at pJ
     rw[hh];simp only[lS];have A7:c.kd= .sl e2:=by have:=ll (·[i]?) (hk r bR);simp only[bP,hi,cj,B9,ae]at this;exact this
     cases c<;>first|(cases A7;done)|skip
     rename_i e3 Ye;cases A7;have hw:=aX.1 aiR _ (aY B9);simp only at hw;have:=ih e2 Ye hw (hr r _ bR (aY hi)) m hm;rw[yj,yj (c:= .sl e2 Ye)];exact this
    refine⟨OX (q:=(· <= ·)) (iU 0) (λa b c d h1 h2=>ZX h1 h2) λr bR=>?_,λhl=>OX (q:=(· = ·)) rfl (λa b c d h1 h2=>by rw[h1,h2]) λr bR=>?_⟩
    ·show dJ _ _ (ym n e r)<=_;rw[dJ,dJ,IF r bR,hk r bR];refine ZX (OD (jt m r) λg hg=>?_) (OW (q:=(· <= ·)) (iU 0) (λa b c d h1 h2=>ZX h1 h2) r _ 0 λi c hi=>?_)
     ·rw[IF r bR]at hg;have:=aX.1 ha.1 g hg;simp only[aB,ud]at this;obtain⟨⟨g',cw,hn⟩,hw⟩:=this;rw[Yd hw];have h2:=OC cw r;have h3:=XM hn (bZ r);rw[br]at h3;rw[wM,hk r bR];exact Int.le_trans (by omega) h2
     ·have aj:i<(T e).length:=by rw[<-jv (hk r bR)];exact(Bk.1 hi).1
      have vU:=aX.1 ha.2 i (dP.2 aj);cases hs:aH m (T (di e)) (0+i)with
      |false=>have:=A1 (sel:=aH m) (jt m) c;cases aH m (T e) (0+i)<;>simp only<;>omega
      |true=>
       have yg:aH m (T e) (0+i)=true:=by rw[eI]at hs⊢;rw[hs]at vU;simpa using vU
       rw[yg];exact(cell r bR i c hi hs yg).1
    ·have hL:=aX.1 OY.2 m hl;simp only[aB,eN]at hL;show dJ _ _ (ym n e r)=_;rw[dJ,dJ,IF r bR,hk r bR];refine congr (ll HAdd.hAdd ?_) (OW (q:=(· = ·)) rfl (λa b c d h1 h2=>by rw[h1,h2]) r _ 0 λi c hi=>?_)
     ·rw[wM,wM,IF r bR,hk r bR,hL.1];have kP:∀g∈wF m (dg (T e)),okW e g=true:=λg hg=>by rw[<-hL.1]at hg;have:=aX.1 ha.1 g hg;simp only[aB]at this;exact this.2
      generalize wF m (dg (T e))=L at kP;induction L with
      |nil=>rfl
      |cons g L OB=>have h3:=OB λg hg=>kP g (by simp[hg]);simp only[wt,lr]at h3⊢;rw[h3,Yd (kP g (by simp))]
     ·have aj:i<(T e).length:=by rw[<-jv (hk r bR)];exact(Bk.1 hi).1
      have vU:=aX.1 hL.2 i (dP.2 aj);simp only[qN]at vU;rw[eI,vU];cases hs:aH m (T e) i with
      |false=>rfl
      |true=>have:=(cell r bR i c hi (by rw[eI,vU,hs]) (by rw[eI,hs])).2 hl;exact this
def gG (e s:Nat) (r:amS):Prop:=∀g∈pj e s,0<=g.den (mu fD (bZ r))
structure OZ (T:ay):Prop where
 fit:∀e,yk e (T e)=true
 zu:sa.all (λe=>H7 (T e))=true
 wk:∀e,di e≠e->IE e (T e) (T (di e))=true
 Yf:∀e,pC T 3 e=true
 G:∀e s r,T.G e s r↔gG e s r
theorem xE {T:ay} (h:OZ T) (e:Nat):dH fD 2 Xq λl=>∃a,l=[a,eJ 3 (.sl e (ah a))]/\bN T (.sl e (ah a)):=by
 refine tok (jw (by kernel_rfl)) λl hl hv=>?_;obtain⟨a,rfl,hc⟩:=hv;have hw:=aiP h.wk 3 e (ah a) (h.Yf e) hc;refine aJ.append (λg hg=>?_) (qD λm hm=>ju ?_)
 ·obtain⟨m,hm,rfl⟩:=aF.1 hg;rw[br,au _ _ (ec hm),au _ _ (ec hm)];show 0<=fD m a-fD m (eJ 3 _);rw[eL hm,eL hm];have:=(hw m hm).1;omega
 ·have aj:m<64:=by simp only[az,bL,bM]at hm;omega
  rw[au _ _ aj,au _ _ aj];show fD m a=fD m (eJ 3 _);by_cases tu:m=10
  ·subst tu;rw[cG (by rfl),cG (by rfl)];simp only[f0,(Yc 3 (.sl e (ah a))).2.2.2];rfl
  ·have hl:m∈yl:=by simp only[yl,az,bL,bM]at hm⊢;omega
   rw[eL (OV hl),eL (OV hl)];exact((hw m (OV hl)).2 hl).symm
theorem zH (e s m k:Nat) (gs:amU) (hl:dh (base e)=some (k,gs)) (hm:(s,m)∈gs):∀g∈pj e s,g.lt m:=by
 unfold pj;split
 ·have h:dh (base 1053)=some (20,[(0,1),(9,11)]):=rfl;rw[h]at hl;cases hl;simp only[az,bT,bL,bM]at hm;have:m=11:=by omega
  subst this;exact jw (by kernel_rfl)
 ·have h:dh (base 1553)=some (20,[(0,1),(9,11)]):=rfl;rw[h]at hl;cases hl;simp only[az,bT,bL,bM]at hm;have:m=11:=by omega
  subst this;exact jw (by kernel_rfl)
 ·have h:dh (base 1077)=some (15,[(3,1),(4,11)]):=rfl;rw[h]at hl;cases hl;simp only[az,bT,bL,bM]at hm;have:m=11:=by omega
  subst this;exact jw (by kernel_rfl)
 ·have h:dh (base 1047)=some (2,[(0,2)]):=rfl;rw[h]at hl;cases hl;simp only[az,bT,bL,bM]at hm;have:m=2:=by omega
  subst this;exact jw (by kernel_rfl)
 ·exact λg hg=>by cases hg
theorem IG (m:Nat):tO m=tN m:=by
 rcases aT m 64 with h|h
 ·have key:∀k:Fin 64,tO k=tN k:=by decide
  exact key ⟨m,h⟩
 ·have h1:tO m=false:=by
   unfold tO;have:Nat.shiftRight 571957152676972532 m=0:=by show 571957152676972532>>>m=0;rw[Nat.shiftRight_eq_div_pow];exact EH (dO (by decide:571957152676972532<2^64) (Nat.pow_le_pow_right (by decide) h))
   rw[this];rfl
  rw[h1];cases h2:tN m with
  |false=>rfl
  |true=>simp only[tN,jT,az,bL,bM]at h2;omega
theorem O0 (m:Nat):AY m=DX m:=by
 unfold AY DX;rw[IG];by_cases h0:m=0
 ·subst h0;rfl
 have e0:Nat.beq m 0=false:=by cases h:Nat.beq m 0 with|false=>rfl|true=>exact absurd (bt h) h0
 rw[e0,aQ h0];by_cases h1:m=1
 ·subst h1;rfl
 have e1:Nat.beq m 1=false:=by cases h:Nat.beq m 1 with|false=>rfl|true=>exact absurd (bt h) h1
 rw[e1,aQ h1];cases tN m with
 |true=>rfl
 |false=>
  by_cases h2:m<20
  ·have e2:Nat.ble m 19=true:=alB (by omega);rw[e2,aC h2];rfl
  ·have e2:Nat.ble m 19=false:=by cases h:Nat.ble m 19 with|false=>rfl|true=>exact absurd (fy h) (by omega)
   rw[e2,aQ h2];by_cases h3:m=59
   ·subst h3;rfl
   ·have e3:Nat.beq m 59=false:=by cases h:Nat.beq m 59 with|false=>rfl|true=>exact absurd (bt h) h3
    rw[e3,aQ h3];rfl
theorem O1 {m:Nat}:tO m=true↔m=2\/m=10\/m=56\/m=57\/m∈bW:=by rw[IG];simp only[tN,bW,jT,az,bL,bM];omega
theorem aiS {m:Nat} (h:tO m=true) (c:C) (e:Nat):fD m c=fD m (.sl e (ah c)):=by
 rcases O1.1 h with rfl|rfl|rfl|rfl|h
 ·rw[f2,f2];rfl
 ·rw[cG (by rfl),cG (by rfl)];rfl
 ·rw[cG (by rfl),cG (by rfl)];rfl
 ·rw[cG (by rfl),cG (by rfl)];rfl
 ·rw[eL h,tS h]
theorem aiT {m:Nat} (h:AY m= .rows):tO m=true:=by
 rw[O0]at h;rw[IG];unfold DX at h;by_cases h0:m=0
 ·rw[aC h0]at h;cases h
 ·rw[aQ h0]at h;by_cases h1:m=1
  ·rw[aC h1]at h;cases h
  ·rw[aQ h1]at h;cases hr:tN m with
   |true=>rfl
   |false=>
    rw[hr]at h;by_cases h2:m<20
    ·rw[aC h2]at h;cases h
    ·rw[aQ h2]at h;by_cases h3:m=59
     ·rw[aC h3]at h;cases h
     ·rw[aQ h3]at h;cases h
theorem aiU {m:Nat} (h:AY m= .str):m=3\/m=59\/(11<=m/\m<=16):=by
 rw[O0]at h;unfold DX at h;split at h
 ·cases h
 ·split at h
  ·cases h
  ·split at h
   ·cases h
   ·split at h
    ·rename_i h1 h2 h3 h4;simp only[tN,ZV,ZY,v3,az,bL,bM,not_or]at h3;omega
    ·split at h
     ·rename_i h5;exact .inr (.inl h5)
     ·cases h
def aiV (T:ay) (h:OZ T):Ms T where
 f:=fD
 qo:=AY
 LK m hm c:=by
  have:=aiU hm;have hn:bW.contains m=false:=by simp only[bW,ZY,v3,az,bL,bM];omega
  rw[cG hn,cG hn];have:m=3\/m=11\/m=12\/m=13\/m=14\/m=15\/m=16\/m=59:=by omega
  rcases this with rfl|rfl|rfl|rfl|rfl|rfl|rfl|rfl<;>rfl
 CO m hm c e:=aiS (aiT hm) c e
 h0 c:=cG (by rfl) c
 hb:={
  int:=λc=>cG (by rfl) c,
  bool:=λc=>cG (by rfl) c,
  str:=λm hm c=>by
   have hn:bW.contains m=false:=by simp only[zz,az,bL,bM]at hm;simp only[bW,ZY,v3,az,bL,bM];omega
   rw[cG hn,cG hn];simp only[zz,az,bL,bM]at hm;rcases hm with rfl|rfl|rfl|rfl|rfl|rfl|rfl<;>rfl,
  ind:=λk hk c=>by
   rw[lh (by simp only[bW,az,bL,bM];omega)];unfold f0
   (split<;>omega),
  TT:=λc=>(by rw[cG (by rfl),f2];simp only[f0];split<;>split<;>omega),
  ne:=λc=>by rw[cG (by rfl),f3];simp only[f0];split<;>split<;>omega}
 h2:=f2
 h3:=f3
 base:=AV
 xp:=xp
 fit e:=Xp e (T e)
 xq e:=xq h.zu (h.fit e)
 lit:=Xr
 qp:=qp
 h1 c:=cG (by rfl) c
 eqs:=Ox
 Gg:=Gg
 zC:=DY
 vj:=vj
 CP:=Xs
 zD:=zD
 cat:=Oy
 xr:=xr
 sub:=Oz
 xt:=xt
 nil _:=Xt
 s8:=s8
 row e:=Xu (T e)
 xu:=xu
 app _:=Xv
 xv:=xv
 snoc e:=Xw (T e)
 s9:=s9
 zE e:=Xx (T e)
 xw:=xw
 cp e:=Xy (T e)
 xx:=xx
 zero _:=Xz
 xy:=xy
 ofStr:=XA
 xz:=xz
 rH _:=XB
 my:=my
 LL:=XD
 TW m v hv:=by
  unfold XD at hv;split at hv
  ·rename_i hr;cases hv;refine⟨?_,λe=>?_⟩
   ·rw[O0];unfold DX;rw[<-IG,hr];have:=O1.1 hr;simp only[bW,az,bL,bM]at this;rw[aQ (by omega),aQ (by omega)];rfl
   ·rcases O1.1 hr with rfl|rfl|rfl|rfl|h
    ·rw[f2];rfl
    ·rw[cG (by rfl)];rfl
    ·rw[cG (by rfl)];rfl
    ·rw[cG (by rfl)];rfl
    ·exact Im h rfl
  ·cases hv
 LM:=H9
 TX m s v hv:=X9 hv
 kZ:=0::valid
 zG:=by decide
 many e k:=XE (T e) k
 xA:=xA
 CQ e:=AZ (T e)
 xB:=xB
 grow e:=AZ (T e)
 xD:=xD
 gd:=pj
 zH:=zH
 LN e s r:=h.G e s r
 wk _:=Xq
 xE:=xE h
 pair e:=XG (T e)
 zI:=zI
 CR:=XI
 zJ:=zJ
 CS e:=OA (T e)
 zK:=zK
 vk e:=XH (T e)
 xF:=xF
 sq:=some 59
 xG:=xG
 part _:=XF
 ta:=ta
end Go.Pv
namespace Go.Pv
open Go
def yp {α:Type}:Nat->List α->List α
 |_,[]=>[]
 |m,x::r=>match Nat.beq (Nat.mod m 2) 1 with
  |true=>x::yp (Nat.div m 2) r
  |false=>yp (Nat.div m 2) r
theorem IL {α:Type} {x:α}:∀{m:Nat} {l:List α},x∈yp m l->x∈l
 |_,[],h=>by simp[yp]at h
 |m,y::r,h=>by
  unfold yp at h;split at h
  ·rcases az.1 h with rfl|h
   ·simp
   ·exact lX _ (IL h)
  ·exact lX _ (IL h)
def O6:List (Nat×Nat)->Nat->Nat
 |[],_=>0
 |p::r,k=>match Nat.beq p.1 k with|true=>p.2|false=>O6 r k
def ai4:Kd->Nat
 | .int .i64=>1
 | .int _=>6
 | .bool=>2
 | .str=>3
 | .sl _=>4
 | .ptr=>5
 | .any=>7
structure Mk where
 ok:Nat
 l:List (Nat×Nat)
 kZ:List Nat
 sq:Bool
def Mk.dE (m:Mk) (e:aa):Bool:=e.l.all λp=>Nat.beq (Nat.mod (Nat.div m.ok (2^(Nat.mod p.1 64))) 2) 1
def Mk.f (m:Mk) (yq key:Nat) (l:amY):List aa:=yp (O6 m.l (Nat.add (Nat.mul yq 4096) key)) l
def Mk.g (m:Mk) (yq key:Nat) (l:List (List aa×List aa)):List (List aa×List aa):=(yp (O6 m.l (Nat.add (Nat.mul yq 4096) key)) l).map λt=>(t.1,t.2.filter m.dE)
theorem dH.sub {f:Nat->C->Int} {k:Nat} {ts Yl:amY} {V:List C->Prop} (h:dH f k ts V) (hs:∀g∈Yl,g∈ts):dH f k Yl V:=λg hg=>h g (hs g hg)
theorem Mk.kH {m:Mk} {yq key:Nat} {f:Nat->C->Int} {k:Nat} {ts:amY} {V:List C->Prop} (h:dH f k ts V):dH f k (m.f yq key ts) V:=h.sub λ_ hg=>IL hg
theorem Mk.yr {m:Mk} {yq key:Nat} {f:Nat->C->Int} {k:Nat} {ts:List (List aa×List aa)} {V:List C->Prop} (h:∀t∈ts,kB f k t V):∀t∈m.g yq key ts,kB f k t V:=by intro t ht;obtain⟨t0,h0,rfl⟩:=aF.1 ht;obtain⟨h1,h2,h3⟩:=h t0 (IL h0);exact⟨h1,λg hg=>h2 g (ki.1 hg).1,λl hl hv hc g hg=>h3 l hl hv hc g (ki.1 hg).1⟩
def Ms.mask {T:ay} (m:Mk) (ms:Ms T):Ms T:=
 {ms with
  base:=λk=>m.f 1 (ai4 k) (ms.base k)
  xp:=λk=>Mk.kH (ms.xp k)
  fit:=λe=>m.f 2 e (ms.fit e)
  xq:=λe=>Mk.kH (ms.xq e)
  lit:=λs=>m.f 3 0 (ms.lit s)
  qp:=λs=>Mk.kH (ms.qp s)
  zC:=m.g 4 0 ms.zC
  vj:=Mk.yr ms.vj
  CP:=m.g 5 0 ms.CP
  zD:=Mk.yr ms.zD
  cat:=m.f 6 0 ms.cat
  xr:=Mk.kH ms.xr
  sub:=m.f 7 0 ms.sub
  xt:=Mk.kH ms.xt
  nil:=λe=>m.f 8 0 (ms.nil e)
  s8:=λe=>Mk.kH (ms.s8 e)
  row:=λe=>m.f 9 e (ms.row e)
  xu:=λe=>Mk.kH (ms.xu e)
  app:=λe=>m.f 10 0 (ms.app e)
  xv:=λe=>Mk.kH (ms.xv e)
  snoc:=λe=>m.f 11 e (ms.snoc e)
  s9:=λe=>Mk.kH (ms.s9 e)
  zE:=λe=>m.g 12 e (ms.zE e)
  xw:=λe=>Mk.yr (ms.xw e)
  cp:=λe=>m.f 13 e (ms.cp e)
  xx:=λe=>Mk.kH (ms.xx e)
  zero:=λe=>m.f 14 0 (ms.zero e)
  xy:=λe=>Mk.kH (ms.xy e)
  ofStr:=m.f 15 0 ms.ofStr
  xz:=Mk.kH ms.xz
  rH:=λe=>m.f 16 0 (ms.rH e)
  my:=λe=>Mk.kH (ms.my e)
  part:=λe=>m.f 17 0 (ms.part e)
  ta:=λe=>Mk.kH (ms.ta e)
  many:=λe n=>m.f 18 e (ms.many e n)
  xA:=λe n=>Mk.kH (ms.xA e n)
  CQ:=λe=>m.f 19 e (ms.CQ e)
  xB:=λe=>Mk.kH (ms.xB e)
  grow:=λe=>m.f 20 e (ms.grow e)
  xD:=λe=>Mk.kH (ms.xD e)
  wk:=λe=>m.f 21 0 (ms.wk e)
  xE:=λe=>Mk.kH (ms.xE e)
  pair:=λe=>m.g 22 e (ms.pair e)
  zI:=λe=>Mk.yr (ms.zI e)
  CR:=m.g 23 0 ms.CR
  zJ:=Mk.yr ms.zJ
  CS:=λe=>m.g 24 e (ms.CS e)
  zK:=λe=>Mk.yr (ms.zK e)
  vk:=λe=>m.g 25 e (ms.vk e)
  xF:=λe=>Mk.yr (ms.xF e)
  kZ:=m.kZ.filter λk=>Nat.blt k 31
  zG:=λk hk=>fy (ki.1 hk).2
  sq:=match m.sq with|true=>ms.sq|false=>none
  xG:=λk hk=>by
   split at hk
   ·exact ms.xG k hk
   ·cases hk}
theorem ai5 {T:ay} (m:Mk) (ms:Ms T):(ms.mask m).f=ms.f:=rfl
end Go.Pv
namespace Go.Proofs.YtmanimipgpdbcaaGreat
open Go Go.Pv
theorem O7 {Q:Nat->List Kd->Prop} {l:List (Nat×List Kd)} (h:∀p∈l,Q p.1 p.2) (h0:∀e,(∀p∈l,p.1≠e)->Q e []) (e:Nat):Q e (dm l e):=by
 unfold dm;split
 ·rename_i p hp;have:=v8 hp;simp only[qN]at this;rw[<-this];exact h p (uc hp)
 ·rename_i hn;refine h0 e λp hp he=>?_;have:=List.find?_eq_none.1 hn p hp;simp[he]at this
theorem ai6 (s:Nat) (r:amS) (h:gG 1053 s r) (hz:s=9->pD r):gG 1553 s r:=by
 by_cases h9:s=9
 ·subst h9;intro g hg;rcases az.1 (show g∈(k9 0).bI (-1)::AW 3 from hg)with rfl|hg
  ·obtain⟨k,n,h0,hn⟩:=hz rfl;have h1:=h ((((aa.const 1).sub (af 20 0)).sub (k9 0)).neg) (by
    show _∈AW 3;simp[AW,H4])
   have hc:bZ r 0= .int k n:=by simp only[bZ,aZ,h0];rfl
   rw[eu,br,br,cg,au _ _ (by omega),hc,cG (by rfl)]at h1;have e0:f0 20 (.int k n)=0:=by simp[f0,cD,hn]
   rw[e0]at h1;rw[cO];omega
  ·exact h g hg
 ·have:pj 1553 s=[]:=by
   unfold pj;split<;>first|rfl|(rename_i e;omega)|skip
   all_goals first|rfl|omega|contradiction
  intro g hg;rw[this]at hg;cases hg
def tb:ay:=mf gG
theorem D7:cr Tryz.prog tb:=acd gG ai6
theorem ai7:uT.all (λp=>yk p.1 p.2)=true:=by kernel_rfl
theorem ai8:uS.all (λe=>IE e (dm uT e) (dm uT (di e)))=true:=by kernel_rfl
theorem ai9:uS.all (pC tb 3)=true:=by kernel_rfl
theorem aja (e:Nat) (h:e≠47):yk e []=true:=by
 have:Nat.beq e 47=false:=by cases hb:Nat.beq e 47 with|false=>rfl|true=>exact absurd (bt hb) h
 simp only[yk,this];by_cases h1:(e==49||e==77||e==53||([]:amQ).any H5)=true
 ·rw[h1];rfl
 ·rw[ZV]at h1;rw[h1];rfl
theorem ajb:OZ tb where
 fit:=O7 (Q:=λe ks=>yk e ks=true) (λp hp=>aX.1 ai7 p hp) λe he=>aja e λh=>by
  have:uT.any (λp=>p.1==47)=true:=by kernel_rfl
  obtain⟨p,hp,hq⟩:=ud.1 this;simp only[qN]at hq;exact he p hp (by rw[hq,h])
 zu:=by kernel_rfl
 wk e he:=by
  by_cases h:e∈uS
  ·exact aX.1 ai8 e h
  ·exact absurd (Kw h) he
 Yf e:=by
  by_cases h:e∈uS
  ·exact aX.1 ai9 e h
  ·simp only[pC,Kw h,beq_self_eq_true,Qb]
 G _ _ _:=ez
noncomputable def ms:Ms tb:=aiV tb ajb
end Go.Proofs.YtmanimipgpdbcaaGreat
namespace Go.Pv
open Go Go.Proofs Go.Proofs.YtmanimipgpdbcaaGreat
def b7 (s:ByteArray):List (List C)->Nat->Int
 |[],_=>-1
 |r::l,i=>if fm (aA (r.getD 0 default)) s=true then i else b7 s l (i+1)
noncomputable def c0 (sp:FuncId->Option dw):bX:=⟨Tryz.prog,tb,sp,[]⟩
abbrev J:S:= .one .aD
abbrev I (n:Int):S:= .one (.c (.int .i64 n))
abbrev B (n:Bool):S:= .one (.c (.bool n))
abbrev Z (n:ByteArray):S:= .one (.c (.str n))
abbrev L (e:Nat) (n:Y9):S:= .one (.c (.sl e n))
def po (n:Nat) (l:amZ):St:=⟨l,List.replicate n none,λ_=>0⟩
theorem gj {st ar:St} (h1:mg st.gen st.aq ar.aq) (h2:sL st.gen st.boxes ar.boxes) (h3:ar.closed=true) (h4:∀g,ar.gen g=0):wZ st ar:=⟨⟨h1,h2⟩,h3,h4⟩
theorem O8 {st:St} {t:Nat} {s:ByteArray} (h:cA tb st) (hg:st.aq[t]?=some (Z s)):s.size<=9223372036854775807:=by
 have:=h.aq _ (aY hg);cases this with
 |str _ h=>exact h
theorem pq {c:bX} {dr:jq} {cl:anp} {x:Code} {st:St} {Q:anc} (ar:St) (h:st=ar) (k:cF c dr cl x ar Q):cF c dr cl x st Q:=h▸k
theorem ajc {s:ByteArray} {rows:Y9} {i:Nat} (hi:i<rows.length):b7 s (rows.drop i) i=if fm (aA (cellAt rows i 0)) s=true then(i:Int)else b7 s (rows.drop (i+1)) (i+1):=by rw[alH hi];simp only[b7,cellAt,aZ,aP hi,fh]
set_option maxRecDepth 100000 in
theorem ajd {sp:FuncId->Option dw} {dr:jq} (rows:Y9) (s:ByteArray) (Q:anc)
 (hQ:∀st,st.aq[4]?=some (I (b7 s rows 0))->Q .ret st):
 cF (c0 sp) dr [] (iJ Tryz.f310) (St.start Tryz.f310 [L 9 rows,Z s] []) Q:=by
 refine .inl ?_;intro _ _ _;refine .inl (.inl ?_);intro _ _ _ hlen _ _;have hlen:(rows.length:Int)<=137438953472:=yJ.2 hlen;refine⟨⟨Nat,λi=>po 19 [L 9 rows,Z s,J,J,I 0,J,J,L 9 rows,I rows.length,I i,J,J,J,J,J,J,J,J,J],λi=>i<=rows.length/\b7 s rows 0=b7 s (rows.drop i) i,λi=>rows.length-i⟩,⟨0,⟨by simp,by simp⟩,gj ?_ ?_ rfl λ_=>rfl⟩,?_⟩
 ·repeat' (first|exact trivial|exact rfl|refine⟨?_,?_⟩)
 ·repeat' (first|exact trivial|exact rfl|refine⟨?_,?_⟩)
 ·intro (i:Nat) hi;obtain⟨wL,oQ⟩:i<=rows.length/\b7 s rows 0=b7 s (rows.drop i) i:=hi;refine .inl ?_;intro _ _ _;refine .inl ?_;refine iu (λh=>?_) λh=>?_
  ·have h:(i:Int)<rows.length:=lW h;have aj:i<rows.length:=by omega
   refine pq (po 19 [L 9 rows,Z s,J,J,I 0,J,J,L 9 rows,I rows.length,I i,B true,J,J,J,J,J,J,J,J]) rfl ?_;refine .inl (.inl ?_);intro _ _ _;refine⟨⟨g9 _,h⟩,?_⟩;intro _ _ _ _;refine pq (po 19 [L 9 rows,Z s,J,J,I 0,I i,Z (aA (cellAt rows i 0)),L 9 rows,I rows.length,I i,B true,I i, .one (.bz 9 rows i 0),Z (aA (cellAt rows i 0)),J,J,J,J,J]) rfl ?_;refine .inl ?_;intro _ _ _ _ _;rw[ajc aj]at oQ;refine iu (λhe=>?_) λhe=>?_
   ·refine .inl ?_;intro _ _ _ _;refine hQ _ ?_;rw[oQ,aC he];rfl
   ·refine pq (po 19 [L 9 rows,Z s,J,J,I 0,I i,Z (aA (cellAt rows i 0)),L 9 rows,I rows.length,I i,B true,I i, .one (.bz 9 rows i 0),Z (aA (cellAt rows i 0)),Z (aA (cellAt rows i 0)),Z s,B false,J,J]) rfl ?_;intro _ _ _ _;rw[aQ (by rw[show fm (aA (cellAt rows i 0)) s=false from he];decide)]at oQ;refine⟨i+1,⟨by omega,oQ⟩,by show rows.length-(i+1)<rows.length-i;omega,gj ?_ ?_ rfl λ_=>rfl⟩
    ·repeat' (first|exact trivial|exact rfl|refine⟨?_,?_⟩|fail)
     exact Gk (k:= .i64) ⟨by show(-9223372036854775808:Int)<=_;omega,by show _<=(9223372036854775807:Int);omega⟩
    ·repeat' (first|exact trivial|exact rfl|refine⟨?_,?_⟩)
  ·have h:¬(i:Int)<rows.length:=qP h;have wL:i<=rows.length:=wL;have:i=rows.length:=by omega
   subst this;refine .inl ?_;intro _ _ _;refine hQ _ ?_;rw[oQ,List.drop_length];rfl
end Go.Pv
namespace Go.Pv
open Go Go.Proofs Go.Proofs.YtmanimipgpdbcaaGreat
abbrev U (n:Int):S:= .one (.c (.int .u8 n))
theorem wr {n:Int} (h:-9223372036854775808<=n/\n<=9223372036854775807):IntKind.i64.wrap n=n:=Gk (k:= .i64) h
theorem lM {n m:Int} (h:n=m) (h1:-9223372036854775808<=n/\n<=9223372036854775807):IntKind.i64.wrap n=m:=h▸wr h1
def fK (s:ByteArray):Nat->Nat
 |0=>0
 |i+1=>fK s i+(if bd s i=46 then 1 else 0)
theorem YT (s:ByteArray):∀i,fK s i<=i
 |0=>bh _
 |i+1=>by have:=YT s i;simp only[fK];split<;>omega
set_option maxRecDepth 100000 in
theorem ajE {sp:FuncId->Option dw} {dr:jq} (s:ByteArray) (Q:anc)
 (hQ:∀st,st.aq[2]?=some (I (fK s s.size))->Q .ret st):
 cF (c0 sp) dr [] (iJ Tryz.f184) (St.start Tryz.f184 [Z s] []) Q:=by
 refine .inl ?_;intro aN _ _;have hs:=O8 (t:=0) aN rfl;refine .inl ?_;intro _ _ _;refine .inl (.inl ?_);intro _ _ _;refine⟨⟨Nat,λi=>po 18 [Z s,J,I 0,I (fK s i),I i,J,J,J,J,J,J,J,J,J,J,J,J,J],λi=>i<=s.size,λi=>s.size-i⟩,⟨0,by simp,gj ?_ ?_ rfl λ_=>rfl⟩,?_⟩
 ·repeat' (first|exact trivial|exact rfl|refine⟨?_,?_⟩|fail)
 ·repeat' (first|exact trivial|exact rfl|refine⟨?_,?_⟩|fail)
 ·intro (i:Nat) (hi:i<=s.size);have:=YT s i;refine .inl ?_;refine .inl ?_;intro _ _ _ _ _ _ _;refine pq (po 18 [Z s,J,I 0,I (fK s i),I i,I i,Z s,I s.size,B (decide ((i:Int)<s.size)),J,J,J,J,J,J,J,J,J]) rfl ?_;refine iu (λh=>?_) λh=>?_
  ·have h:(i:Int)<s.size:=lW h;repeat (first|intro _|refine .inl ?_)
   refine⟨⟨g9 _,h⟩,?_⟩;repeat (first|intro _|refine .inl ?_)
   refine iu (λhe=>?_) λhe=>?_
   ·have he:(bd s i:Int)=46:=eq_of_beq he;refine pq (po 18 [Z s,J,I 0,I (fK s i),I i,I i,Z s,I s.size,B true,J,J,Z s,I i,U (bd s i),B true,J,J,J]) rfl ?_;repeat (first|intro _|refine .inl ?_)
    refine⟨i+1,(by show i+1<=s.size;omega),(by show s.size-(i+1)<s.size-i;omega),gj ?_ ?_ rfl λ_=>rfl⟩
    ·repeat' (first|exact trivial|exact rfl|refine⟨?_,?_⟩|fail)
     ·exact lM (by simp only[fK];rw[aC (by omega)];omega) (by omega)
     ·exact lM (by omega) (by omega)
    ·repeat' (first|exact trivial|exact rfl|refine⟨?_,?_⟩|fail)
   ·have he:¬(bd s i:Int)=46:=Z3 he;refine pq (po 18 [Z s,J,I 0,I (fK s i),I i,I i,Z s,I s.size,B true,J,J,Z s,I i,U (bd s i),B false,J,J,J]) rfl ?_;repeat (first|intro _|refine .inl ?_)
    refine⟨i+1,(by show i+1<=s.size;omega),(by show s.size-(i+1)<s.size-i;omega),gj ?_ ?_ rfl λ_=>rfl⟩
    ·repeat' (first|exact trivial|exact rfl|refine⟨?_,?_⟩|fail)
     ·show(fK s i:Int)=fK s (i+1);simp only[fK];rw[aQ (by omega)];omega
     ·exact lM (by omega) (by omega)
    ·repeat' (first|exact trivial|exact rfl|refine⟨?_,?_⟩|fail)
  ·have h:¬(i:Int)<s.size:=qP h;have e:i=s.size:=by omega
   subst e;repeat (first|intro _|refine .inl ?_)
   exact hQ _ rfl
end Go.Pv
namespace Go.Pv
open Go Go.Proofs Go.Proofs.YtmanimipgpdbcaaGreat
section
variable {c:bX} {dr:jq} {ops:amW} {o:Oper} {r:amW} {st:St} {K:amX}
theorem aje (ar:St) (hg:o.guard=none) (h:cy c st o= .v ar) (k:bE c ops r ar K):bE c ops (o::r) st K:=λ_=>by unfold dk;rw[hg];simp only[h,bl.wp];exact k
theorem ajf {side:Prop} (ar:St) (hg:o.guard=none) (h:cy c st o= .ck side ar) (hs:side) (k:bE c ops r ar K):bE c ops (o::r) st K:=λ_=>by unfold dk;rw[hg];simp only[h,bl.wp];exact⟨hs,k⟩
theorem ajg {fact:Prop} (ar:St) (hg:o.guard=none) (h:cy c st o= .fk fact ar) (k:fact->bE c ops r ar K):bE c ops (o::r) st K:=λ_=>by unfold dk;rw[hg];simp only[h,bl.wp];exact k
theorem ajh {side:Prop} {A:Type} {post:A->Prop} {f:A->St} (hg:o.guard=none) (h:cy c st o= .call side A post f) (hs:side) (k:∀x,post x->bE c ops r (f x) K):bE c ops (o::r) st K:=λ_=>by unfold dk;rw[hg];simp only[h,bl.wp];exact⟨hs,k⟩
theorem Ym {t:Bool} {s1 s2:St} (hg:o.guard=none) (h:cy c st o= .split t s1 s2) (h1:t=true->bE c ops r s1 K) (h2:t=false->bE c ops r s2 K):bE c ops (o::r) st K:=λ_=>by unfold dk;rw[hg];simp only[h,bl.wp];exact iu h1 h2
theorem yt {j t:Nat} {b:Bool} (hg:o.guard=some (j,false)) (hv:eD ops st j=some (t,b)) (h1:b=true->bE c ops r ((st.put (some t) (eC true)).put o.dst aO) K) (h2:b=false->(cy c (st.put (some t) (eC false)) o).wp λar=>bE c ops r ar K):bE c ops (o::r) st K:=λ_=>by unfold dk;rw[hg];simp only[hv];exact iu h1 h2
theorem D8 {j t:Nat} {b:Bool} (hg:o.guard=some (j,true)) (hv:eD ops st j=some (t,b)) (h1:b=true->(cy c (st.put (some t) (eC true)) o).wp λar=>bE c ops r ar K) (h2:b=false->bE c ops r ((st.put (some t) (eC false)).put o.dst aO) K):bE c ops (o::r) st K:=λ_=>by unfold dk;rw[hg];simp only[hv];exact iu h1 h2
theorem aji (ar:St) {j t:Nat} (hg:o.guard=some (j,false)) (hv:eD ops st j=some (t,true)) (h:(st.put (some t) (eC true)).put o.dst aO=ar) (k:bE c ops r ar K):bE c ops (o::r) st K:=
 yt hg hv (λ_=>by rw[h];exact k) λh=>by cases h
theorem ajj (ar:St) {j t:Nat} (hg:o.guard=some (j,true)) (hv:eD ops st j=some (t,false)) (h:(st.put (some t) (eC false)).put o.dst aO=ar) (k:bE c ops r ar K):bE c ops (o::r) st K:=
 D8 hg hv (λh=>by cases h) λ_=>by rw[h];exact k
theorem O9 {P:bl} {j t:Nat} (hg:o.guard=some (j,false)) (hv:eD ops st j=some (t,false)) (h:cy c (st.put (some t) (eC false)) o=P) (k:P.wp λar=>bE c ops r ar K):bE c ops (o::r) st K:=
 yt hg hv (λh=>by cases h) λ_=>by rw[h];exact k
theorem Pa {P:bl} {j t:Nat} (hg:o.guard=some (j,true)) (hv:eD ops st j=some (t,true)) (h:cy c (st.put (some t) (eC true)) o=P) (k:P.wp λar=>bE c ops r ar K):bE c ops (o::r) st K:=
 D8 hg hv (λ_=>by rw[h];exact k) λh=>by cases h
theorem ajk (s1 s2:St) (hg:o.guard=none) (h:cy c st o= .split true s1 s2) (k:bE c ops r s1 K):bE c ops (o::r) st K:=Ym hg h (λ_=>k) λh=>by cases h
theorem ajl (s1 s2:St) (hg:o.guard=none) (h:cy c st o= .split false s1 s2) (k:bE c ops r s2 K):bE c ops (o::r) st K:=Ym hg h (λh=>by cases h) λ_=>k
theorem ajm (ar:St) (h:cy c st o= .v ar) (k:bE c ops r ar K):(cy c st o).wp λar=>bE c ops r ar K:=by rw[h];exact k
theorem ajn (ar:St) {j t:Nat} (hg:o.guard=some (j,false)) (hv:eD ops st j=some (t,false)) (h:cy c (st.put (some t) (eC false)) o= .v ar) (k:bE c ops r ar K):bE c ops (o::r) st K:=O9 hg hv h k
theorem ajo {fact:Prop} (ar:St) {j t:Nat} (hg:o.guard=some (j,false)) (hv:eD ops st j=some (t,false)) (h:cy c (st.put (some t) (eC false)) o= .fk fact ar) (k:fact->bE c ops r ar K):bE c ops (o::r) st K:=O9 hg hv h k
theorem ajp {side:Prop} (ar:St) {j t:Nat} (hg:o.guard=some (j,false)) (hv:eD ops st j=some (t,false)) (h:cy c (st.put (some t) (eC false)) o= .ck side ar) (hs:side) (k:bE c ops r ar K):bE c ops (o::r) st K:=O9 hg hv h ⟨hs,k⟩
theorem ajq (ar:St) {j t:Nat} (hg:o.guard=some (j,true)) (hv:eD ops st j=some (t,true)) (h:cy c (st.put (some t) (eC true)) o= .v ar) (k:bE c ops r ar K):bE c ops (o::r) st K:=Pa hg hv h k
theorem ajr {fact:Prop} (ar:St) {j t:Nat} (hg:o.guard=some (j,true)) (hv:eD ops st j=some (t,true)) (h:cy c (st.put (some t) (eC true)) o= .fk fact ar) (k:fact->bE c ops r ar K):bE c ops (o::r) st K:=Pa hg hv h k
theorem ajs {side:Prop} (ar:St) {j t:Nat} (hg:o.guard=some (j,true)) (hv:eD ops st j=some (t,true)) (h:cy c (st.put (some t) (eC true)) o= .ck side ar) (hs:side) (k:bE c ops r ar K):bE c ops (o::r) st K:=Pa hg hv h ⟨hs,k⟩
theorem bO (k:K st):bE c ops [] st K:=λ_=>k
theorem ef (ar:St) (k:bE c ops r ar K) (h:st=ar:=by kernel_rfl):bE c ops r st K:=h▸k
theorem ajt {A B:Prop} (h:B):nK false A B:=iu (λh=>by cases h) λ_=>h
theorem aju {A B:Prop} (h:A):nK true A B:=iu (λ_=>h) λh=>by cases h
theorem Yn {c:bX} {dr:jq} {cl:anp} {o:Operand} {x y:Code} {st:St} {Q:anc} (h:ev st o= .one (.c (.bool false))) (k:cF c dr cl y (jc st o false) Q):cF c dr cl (.cond o x y) st Q:=by unfold cF;rw[h];exact ajt k
theorem Yo {c:bX} {dr:jq} {cl:anp} {o:Operand} {x y:Code} {st:St} {Q:anc} (h:ev st o= .one (.c (.bool true))) (k:cF c dr cl x (jc st o true) Q):cF c dr cl (.cond o x y) st Q:=by unfold cF;rw[h];exact aju k
def eM (n:Nat) (l:anl) (b:List (Nat×List X)):St:=⟨(List.range n).map λi=>(l.lookup i).getD J,(List.range n).map λi=>b.lookup i,λ_=>0⟩
def up (t:Nat) (v:S) (st:St):St:=st.put (some t) v
def ub (i:Nat) (l:amT) (st:St):St:=st.bC i l
def uB (t:Nat) (v:S) (i:Nat) (l:amT) (st:St):St:=(st.bC i l).put (some t) v
def uM (e t:Nat) (v:S) (st:St):St:=(st.put (some t) v).dz e
theorem av (F:St->St) (k:bE c ops r (F st) K) (hg:o.guard=none:=by kernel_rfl) (h:cy c st o= .v (F st):=by kernel_rfl):bE c ops (o::r) st K:=aje _ hg h k
theorem lj {side:Prop} (F:St->St) (hs:side) (k:bE c ops r (F st) K) (hg:o.guard=none:=by kernel_rfl) (h:cy c st o= .ck side (F st):=by kernel_rfl):bE c ops (o::r) st K:=ajf _ hg h hs k
theorem sb {fact:Prop} (F:St->St) (k:fact->bE c ops r (F st) K) (hg:o.guard=none:=by kernel_rfl) (h:cy c st o= .fk fact (F st):=by kernel_rfl):bE c ops (o::r) st K:=ajg _ hg h k
theorem qF {side:Prop} {A:Type} {post:A->Prop} {F:A->St->St} (hs:side) (k:∀x,post x->bE c ops r (F x st) K) (hg:o.guard=none:=by kernel_rfl) (h:cy c st o= .call side A post λx=>F x st:=by kernel_rfl):bE c ops (o::r) st K:=ajh hg h hs k
theorem e9 (F:St->St) {j t:Nat} (k:bE c ops r (F st) K) (hg:o.guard=some (j,false):=by kernel_rfl) (hv:eD ops st j=some (t,true):=by kernel_rfl) (h:(st.put (some t) (eC true)).put o.dst aO=F st:=by kernel_rfl):bE c ops (o::r) st K:=aji _ hg hv h k
theorem tT (F:St->St) {j t:Nat} (k:bE c ops r (F st) K) (hg:o.guard=some (j,true):=by kernel_rfl) (hv:eD ops st j=some (t,false):=by kernel_rfl) (h:(st.put (some t) (eC false)).put o.dst aO=F st:=by kernel_rfl):bE c ops (o::r) st K:=ajj _ hg hv h k
theorem pv (F1 F2:St->St) (k:bE c ops r (F1 st) K) (hg:o.guard=none:=by kernel_rfl) (h:cy c st o= .split true (F1 st) (F2 st):=by kernel_rfl):bE c ops (o::r) st K:=ajk _ _ hg h k
theorem vV (F1 F2:St->St) (k:bE c ops r (F2 st) K) (hg:o.guard=none:=by kernel_rfl) (h:cy c st o= .split false (F1 st) (F2 st):=by kernel_rfl):bE c ops (o::r) st K:=ajl _ _ hg h k
theorem vW (F:St->St) (k:bE c ops r (F st) K) (h:cy c st o= .v (F st):=by kernel_rfl):(cy c st o).wp λar=>bE c ops r ar K:=ajm _ h k
theorem sc (F:St->St) {j t:Nat} (k:bE c ops r (F st) K) (hg:o.guard=some (j,false):=by kernel_rfl) (hv:eD ops st j=some (t,false):=by kernel_rfl) (h:cy c (st.put (some t) (eC false)) o= .v (F st):=by kernel_rfl):bE c ops (o::r) st K:=ajn _ hg hv h k
theorem ajv {fact:Prop} (F:St->St) {j t:Nat} (k:fact->bE c ops r (F st) K) (hg:o.guard=some (j,false):=by kernel_rfl) (hv:eD ops st j=some (t,false):=by kernel_rfl) (h:cy c (st.put (some t) (eC false)) o= .fk fact (F st):=by kernel_rfl):bE c ops (o::r) st K:=ajo _ hg hv h k
theorem D9 {side:Prop} (F:St->St) {j t:Nat} (hs:side) (k:bE c ops r (F st) K) (hg:o.guard=some (j,false):=by kernel_rfl) (hv:eD ops st j=some (t,false):=by kernel_rfl) (h:cy c (st.put (some t) (eC false)) o= .ck side (F st):=by kernel_rfl):bE c ops (o::r) st K:=ajp _ hg hv h hs k
theorem A9 (F:St->St) {j t:Nat} (k:bE c ops r (F st) K) (hg:o.guard=some (j,true):=by kernel_rfl) (hv:eD ops st j=some (t,true):=by kernel_rfl) (h:cy c (st.put (some t) (eC true)) o= .v (F st):=by kernel_rfl):bE c ops (o::r) st K:=ajq _ hg hv h k
theorem Yp {fact:Prop} (F:St->St) {j t:Nat} (k:fact->bE c ops r (F st) K) (hg:o.guard=some (j,true):=by kernel_rfl) (hv:eD ops st j=some (t,true):=by kernel_rfl) (h:cy c (st.put (some t) (eC true)) o= .fk fact (F st):=by kernel_rfl):bE c ops (o::r) st K:=ajr _ hg hv h k
theorem ajw {side:Prop} (F:St->St) {j t:Nat} (hs:side) (k:bE c ops r (F st) K) (hg:o.guard=some (j,true):=by kernel_rfl) (hv:eD ops st j=some (t,true):=by kernel_rfl) (h:cy c (st.put (some t) (eC true)) o= .ck side (F st):=by kernel_rfl):bE c ops (o::r) st K:=ajs _ hg hv h hs k
theorem kI {b:Bool} {cl:anp} {x:Operand} {y z:Code} {Q:anc} (h1:b=true->cF c dr cl y (jc st x true) Q) (h2:b=false->cF c dr cl z (jc st x false) Q) (h:ev st x= .one (.c (.bool b)):=by kernel_rfl):cF c dr cl (.cond x y z) st Q:=by unfold cF;rw[h];exact iu h1 h2
theorem fx (F:St->St) {st:St} {x:Operand} {b:Bool} {cl:anp} {z:Code} {Q:anc} (k:cF c dr cl z (F st) Q) (h:jc st x b=F st:=by kernel_rfl):cF c dr cl z (jc st x b) Q:=h▸k
theorem cv {id:Nat} {A:ang} {Q:anc} (k:bE c A.toList A.toList st (Q .normal)):cF c dr [] (.region id A false) st Q:=λ_=>k
theorem Ba {id:Nat} {A:ang} {Q:anc} (k:cA c.T st->bE c A.toList A.toList st (Q .normal)):cF c dr [] (.region id A false) st Q:=λh=>k h
theorem kJ {cl:anp} {Q:anc} (k:Q .normal st):cF c dr cl .skip st Q:=k
theorem sd {cl:anp} {id:Nat} {x:Code} {Q:anc} (k:cF c dr cl x st λe ar=>match e with| .exit i=>if i=id then Q .normal ar else Q (.exit i) ar|e=>Q e ar):cF c dr cl (.block id x) st Q:=k
theorem Pb {L:amW}:∀(r:amW) (k:Nat) {st:St},L.drop k=r->bE c L r st K->va c L (List.range' k r.length) K st
 |[],_,st,_,h=>h
 |o::r,k,st,e,h=>λaN=>by
  have hk:L[k]?=some o:=by rw[<-List.head?_drop,e];rfl
  have e':L.drop (k+1)=r:=by rw[<-List.tail_drop,e];rfl
  show match L[k]?with|some o=>dk c L o st (va c L (List.range' (k+1) r.length) K)|none=>False
  rw[hk];exact zm (λar h'=>Pb r (k+1) e' h') (h aN)
def IM:Tb:=⟨λ_=>[],λ_=>[],λ_=>false,λ_=>false,λ_=>false⟩
def Pc (st:St):Bool:=st.aq.all (λs=>s.xs.all λx=>x.ids.isEmpty)&&st.boxes.all λb=>match b with|none=>true|some l=>l.all λx=>x.ids.isEmpty
theorem ajx (h:Pc st=true):IM.In st:=by
 simp only[Pc,aB,aX]at h;refine⟨λt y b hy hb=>?_,λb l z id hb hz aE=>?_⟩
 ·exfalso;simp only[St.get,aZ]at hy;cases hs:st.aq[t]?with
  |none=>rw[hs]at hy;simp[S.xs]at hy;subst hy;cases hb
  |some s=>rw[hs]at hy;have:=h.1 s (aY hs) y hy;rw[ue.1 this]at hb;cases hb
 ·exfalso;have:=h.2 _ (aY hb);simp only[aX]at this;rw[ue.1 (this z hz)]at aE;cases aE
theorem ajy (hc:dT c) {id:Nat} {A:ang} {Q:anc} (h1:sW c.ann IM A A.toList (List.range' 0 A.toList.length) (Array.replicate A.size false)=true) (h2:A.toList.all IM.closed=true) (h3:Pc st=true)
 (k:bE c A.toList A.toList st (Q .normal)):cF c (gi c) [] (.region id A true) st Q:=λ_=>by
 have:=zw hc (tb:=IM) (ops:=A) (qj.mk (λ_ h=>by cases h) (λ_ h=>by cases h) (λ_ h=>by cases h)) h2 h1 (by simp) (ajx h3) (Pb A.toList 0 rfl k);show gi c id A.toList st _;unfold gi;simpa[mv]using this
end
end Go.Pv
namespace Go.Pv
open Go Go.Proofs Go.Proofs.YtmanimipgpdbcaaGreat
theorem Yq {s:ByteArray}:∀{n:Nat},0<fK s n->∃j,j<n/\bd s j=46
 |0,h=>by simp[fK]at h
 |n+1,h=>by
  by_cases hb:bd s n=46
  ·exact⟨n,by omega,hb⟩
  ·simp only[fK,aQ hb]at h;obtain⟨j,h1,h2⟩:=Yq (n:=n) (by omega);exact⟨j,by omega,h2⟩
def Bb:dw:=⟨[[.bo]],[],false,[],false,true,λss bs=>match ss,bs with|[.one (.c (.str s))],[]=>some ⟨True,Unit,λ_=>True,λ_=>I (fK s s.size),λ_=>[]⟩|_,_=>none⟩
theorem ajz {a b:Int} (h:(a !=b)=false):a=b:=by simpa using h
def vX (f:FuncId):Option dw:=if f=184 then some Bb else none
set_option maxRecDepth 100000 in
set_option maxHeartbeats 1000000 in
theorem ajA (hc:dT (c0 vX)) (s:ByteArray) (Q:anc)
 (hQ:∀st a b t,st.aq[2]?=some (Z a)->st.aq[3]?=some (Z b)->st.aq[4]?=some (B t)->st.gen=(λ_=>0)->(t=false->a.size=0/\b.size=0)->a.size+b.size<=s.size->Q .ret st):
 cF (c0 vX) (gi (c0 vX)) [] (iJ Tryz.f126) (St.start Tryz.f126 [Z s] []) Q:=by
 have xf:∀st,st.aq[2]?=some (Z ByteArray.empty)->st.aq[3]?=some (Z ByteArray.empty)->st.aq[4]?=some (B false)->st.gen=(λ_=>0)->Q .ret st:=λst h1 h2 h3 h4=>hQ st _ _ _ h1 h2 h3 h4 (λ_=>⟨rfl,rfl⟩) (gk _);refine .inl (Ba λaN=>?_);have hs:=O8 (t:=0) aN rfl;with_reducible refine av (up 2 (Z ByteArray.empty)) ?_;refine av (up 3 (Z ByteArray.empty)) ?_;refine av (up 4 (B false)) ?_;refine bO ?_
 refine .inl (.inl (cv ?_));with_reducible refine av (up 6 (Z s)) ?_;refine qF (side:=True) (A:=Unit) (post:=λ_=>True) (F:=λ_=>up 7 (I (fK s s.size))) trivial λ_ _=>?_;refine av (up 8 (B ((fK s s.size:Int) !=1))) ?_;refine av (up 9 (B ((fK s s.size:Int) !=1))) ?_;refine yt (j:=3) (t:=9) (b:=(fK s s.size:Int) !=1) rfl ?_ ?_ ?_
 ·kernel_rfl
 all_goals intro h
 ·skip;with_reducible refine e9 (j:=3) (t:=9) (up 11 aO) ?_;refine e9 (j:=3) (t:=9) (up 12 aO) ?_;refine pv (up 13 (B true)) (up 13 aO) ?_;refine av (up 14 (B true)) ?_;refine e9 (j:=8) (t:=14) (up 15 aO) ?_;refine e9 (j:=8) (t:=14) (up 16 aO) ?_;refine e9 (j:=8) (t:=14) (up 17 aO) ?_;refine e9 (j:=8) (t:=14) (up 18 aO) ?_;refine e9 (j:=8) (t:=14) (up 19 aO) ?_;refine e9 (j:=8) (t:=14) (up 20 aO) ?_;refine pv (up 21 (B true)) (up 21 aO) ?_;refine bO ?_;refine Yo ?_ ?_
  ·kernel_rfl
  refine .inl (cv ?_);with_reducible refine av id ?_;refine av id ?_;refine av id ?_;refine ef (eM 35 [(0,Z s),(2,Z ByteArray.empty),(3,Z ByteArray.empty),(4,B false),(6,Z s),(7,I (fK s s.size)),(8,B ((fK s s.size:Int) !=1)),(9,B true),(10,aO),(11,aO),(12,aO),(13,B true),(14,B true),(15,aO),(16,aO),(17,aO),(18,aO),(19,aO),(20,aO),(21,B true)] []) ?_;refine bO ?_
  exact xf _ rfl rfl rfl rfl
 ·have h1:fK s s.size=1:=by have:=ajz h;omega
  obtain⟨j,hj,hb⟩:=Yq (s:=s) (n:=s.size) (by omega);with_reducible refine vW (up 10 (Z s)) ?_;refine D9 (side:=(0:Int)<=0/\(0:Int)<s.size) (j:=3) (t:=9) (up 11 (U (bd s 0))) ⟨iU 0,by omega⟩ ?_;refine sc (j:=3) (t:=9) (up 12 (B ((bd s 0:Int)==46))) ?_;refine vV (up 13 (B true)) (up 13 (B ((bd s 0:Int)==46))) ?_;refine av (up 14 (B ((bd s 0:Int)==46))) ?_;refine yt (j:=8) (t:=14) (b:=(bd s 0:Int)==46) rfl ?_ ?_ ?_
  ·kernel_rfl
  all_goals intro h0
  ·skip;with_reducible refine e9 (j:=8) (t:=14) (up 16 aO) ?_;refine e9 (j:=8) (t:=14) (up 17 aO) ?_;refine e9 (j:=8) (t:=14) (up 18 aO) ?_;refine e9 (j:=8) (t:=14) (up 19 aO) ?_;refine e9 (j:=8) (t:=14) (up 20 aO) ?_;refine pv (up 21 (B true)) (up 21 aO) ?_;refine bO ?_;refine Yo ?_ ?_
   ·kernel_rfl
   refine .inl (cv ?_);with_reducible refine av id ?_;refine av id ?_;refine av id ?_;refine ef (eM 35 [(0,Z s),(2,Z ByteArray.empty),(3,Z ByteArray.empty),(4,B false),(6,Z s),(7,I (fK s s.size)),(8,B ((fK s s.size:Int) !=1)),(9,B false),(10,Z s),(11,U (bd s 0)),(12,B ((bd s 0:Int)==46)),(13,B ((bd s 0:Int)==46)),(14,B true),(15,aO),(16,aO),(17,aO),(18,aO),(19,aO),(20,aO),(21,B true)] []) ?_;refine bO ?_
   exact xf _ rfl rfl rfl rfl
  ·with_reducible refine vW (up 15 (Z s)) ?_;refine sc (j:=8) (t:=14) (up 16 (Z s)) ?_;refine ajv (fact:=s.size<=hC) (j:=8) (t:=14) (up 17 (I s.size)) λ_=>?_
   have hw:IntKind.i64.wrap ((s.size:Int)-1)=((s.size-1:Nat):Int):=lM (by omega) (by omega);with_reducible refine sc (j:=8) (t:=14) (up 18 (I (IntKind.i64.wrap ((s.size:Int)-1)))) ?_
   rw[hw];with_reducible refine D9 (side:=(0:Int)<=((s.size-1:Nat):Int)/\((s.size-1:Nat):Int)<s.size) (j:=8) (t:=14) (up 19 (U (bd s (s.size-1)))) ⟨g9 _,by omega⟩ ?_;refine sc (j:=8) (t:=14) (up 20 (B ((bd s (s.size-1):Int)==46))) ?_;refine vV (up 21 (B true)) (up 21 (B ((bd s (s.size-1):Int)==46))) ?_;refine bO ?_;refine kI (b:=((bd s (s.size-1):Int)==46)) (λh2=>?_) λh2=>?_
   ·with_reducible refine fx (up 21 (B true)) ?_
    refine .inl (cv ?_);with_reducible refine av id ?_;refine av id ?_;refine av id ?_;refine ef (eM 35 [(0,Z s),(2,Z ByteArray.empty),(3,Z ByteArray.empty),(4,B false),(6,Z s),(7,I (fK s s.size)),(8,B ((fK s s.size:Int) !=1)),(9,B false),(10,Z s),(11,U (bd s 0)),(12,B ((bd s 0:Int)==46)),(13,B ((bd s 0:Int)==46)),(14,B false),(15,Z s),(16,Z s),(17,I s.size),(18,I ((s.size-1:Nat):Int)),(19,U (bd s (s.size-1))),(20,B ((bd s (s.size-1):Int)==46)),(21,B true)] []) ?_;refine bO ?_
    exact xf _ rfl rfl rfl rfl
   ·with_reducible refine fx (up 21 (B false)) ?_;refine kJ ?_
    refine .inl (cv ?_);with_reducible refine av (up 5 (I 0)) ?_;refine ef (eM 35 [(0,Z s),(2,Z ByteArray.empty),(3,Z ByteArray.empty),(4,B false),(5,I 0),(6,Z s),(7,I (fK s s.size)),(8,B ((fK s s.size:Int) !=1)),(9,B false),(10,Z s),(11,U (bd s 0)),(12,B ((bd s 0:Int)==46)),(13,B ((bd s 0:Int)==46)),(14,B false),(15,Z s),(16,Z s),(17,I s.size),(18,I ((s.size-1:Nat):Int)),(19,U (bd s (s.size-1))),(20,B ((bd s (s.size-1):Int)==46)),(21,B false)] []) ?_;refine bO ?_
    refine .inl ?_;refine⟨⟨Nat,λi=>po 35 (Z s::J::J::J::J::I i::J::J::J::J::J::J::J::J::J::J::J::J::J::J::J::J::J::J::J::J::J::J::J::J::J::J::J::J::J::[]),λi=>i<=j,λi=>s.size-i⟩,⟨0,gk _,gj ?_ ?_ rfl λ_=>rfl⟩,?_⟩
    ·repeat' (first|exact trivial|exact rfl|refine⟨?_,?_⟩|fail)
    ·repeat' (first|exact trivial|exact rfl|refine⟨?_,?_⟩|fail)
    intro (i:Nat) (hi:i<=j);refine .inl (.inl (cv ?_));with_reducible refine av (up 22 (Z s)) ?_;refine av (up 23 (I i)) ?_;refine lj (side:=(0:Int)<=(i:Int)/\(i:Int)<s.size) (up 24 (U (bd s i))) ⟨g9 _,by omega⟩ ?_;refine av (up 25 (B ((bd s i:Int) !=46))) ?_;refine bO ?_;refine kI (b:=((bd s i:Int) !=46)) (λh3=>?_) λh3=>?_
    ·have h3:(bd s i:Int)≠46:=by simpa using h3
     have:i≠j:=λe=>h3 (by rw[e,hb];rfl);with_reducible refine fx (up 25 (B true)) ?_;refine kJ ?_
     refine sd (cv ?_);with_reducible refine av (up 26 (I i)) ?_;refine av (up 27 (I (IntKind.i64.wrap ((i:Int)+1)))) ?_;refine av (up 5 (I (IntKind.i64.wrap ((i:Int)+1)))) ?_;refine ef (eM 35 [(0,Z s),(5,I (IntKind.i64.wrap ((i:Int)+1))),(22,Z s),(23,I i),(24,U (bd s i)),(25,B true),(26,I i),(27,I (IntKind.i64.wrap ((i:Int)+1)))] []) ?_;refine bO ?_
     refine⟨i+1,(by show i+1<=j;omega),(by show s.size-(i+1)<s.size-i;omega),gj ?_ ?_ rfl λ_=>rfl⟩
     ·repeat' (first|exact trivial|exact rfl|refine⟨?_,?_⟩|fail)
      exact lM (by omega) (by omega)
     ·repeat' (first|exact trivial|exact rfl|refine⟨?_,?_⟩|fail)
    ·with_reducible refine fx (up 25 (B false)) ?_
     refine .inl (ajy hc (by kernel_rfl) (by kernel_rfl) (by kernel_rfl) ?_);with_reducible refine av (up 28 (Z s)) ?_;refine av (up 29 (I i)) ?_;refine lj (side:=(0:Int)<=0/\(0:Int)<=(i:Int)/\(i:Int)<=s.size) (up 30 (Z (s.extract 0 i))) ⟨iU 0,g9 _,by omega⟩ ?_;refine av (up 31 (Z s)) ?_;refine av (up 32 (I i)) ?_;refine av (up 33 (I (IntKind.i64.wrap ((i:Int)+1)))) ?_
     have hw:IntKind.i64.wrap ((i:Int)+1)=((i+1:Nat):Int):=lM (by omega) (by omega);rw[hw];with_reducible refine lj (side:=(0:Int)<=((i+1:Nat):Int)/\((i+1:Nat):Int)<=(s.size:Int)/\(s.size:Int)<=s.size) (up 34 (Z (s.extract (i+1) s.size))) ⟨g9 _,by omega,iU _⟩ ?_;refine av (up 2 (Z (s.extract 0 i))) ?_;refine av (up 3 (Z (s.extract (i+1) s.size))) ?_;refine av (up 4 (B true)) ?_;refine ef (eM 35 [(0,Z s),(2,Z (s.extract 0 i)),(3,Z (s.extract (i+1) s.size)),(4,B true),(5,I i),(22,Z s),(23,I i),(24,U (bd s i)),(25,B false),(28,Z s),(29,I i),(30,Z (s.extract 0 i)),(31,Z s),(32,I i),(33,I ((i+1:Nat):Int)),(34,Z (s.extract (i+1) s.size))] []) ?_;refine bO ?_
     refine hQ _ _ _ true rfl rfl rfl rfl (λh=>by cases h) ?_;simp only[Qc];omega
end Go.Pv
namespace Go.Pv
open Go Go.Proofs Go.Proofs.YtmanimipgpdbcaaGreat
set_option maxRecDepth 100000 in
set_option maxHeartbeats 2000000 in
theorem ajB {sp:FuncId->Option dw} {dr:jq} (s:ByteArray) (a:Nat) (Q:anc)
 (hQ:∀st (i:Nat),a<=i->st.aq[4]?=some (I i)->st.gen=(λ_=>0)->Q .ret st):
 cF (c0 sp) dr [] (iJ Tryz.f293) (St.start Tryz.f293 [Z s,I a] []) Q:=by
 refine .inl (Ba λaN=>?_);have hs:=O8 (t:=0) aN rfl;with_reducible refine av (up 4 (I 0)) ?_;refine ef (eM 53 [(0,Z s),(1,I a),(4,I 0)] []) ?_;refine bO ?_
 refine .inl ?_;refine⟨⟨Nat,λi=>po 53 (Z s::I i::J::J::I 0::J::J::J::J::J::J::J::J::J::J::J::J::J::J::J::J::J::J::J::J::J::J::J::J::J::J::J::J::J::J::J::J::J::J::J::J::J::J::J::J::J::J::J::J::J::J::J::J::[]),λi=>a<=i,λi=>s.size-i⟩,⟨a,bh _,gj ?_ ?_ rfl λ_=>rfl⟩,?_⟩
 ·repeat' (first|exact trivial|exact rfl|refine⟨?_,?_⟩|fail)
 ·repeat' (first|exact trivial|exact rfl|refine⟨?_,?_⟩|fail)
 intro (i:Nat) (wL:a<=i);refine .inl (.inl (cv ?_));with_reducible refine av (up 5 (I i)) ?_;refine av (up 6 (Z s)) ?_;refine sb (fact:=s.size<=hC) (up 7 (I s.size)) λ_=>?_;refine av (up 8 (B (decide ((i:Int)<s.size)))) ?_;refine bO ?_;refine kI (b:=(decide ((i:Int)<s.size))) (λh=>?_) λh=>?_
 ·have aj:(i:Int)<s.size:=lW h;have amz:i<s.size:=by omega
  with_reducible refine fx (up 8 (B true)) ?_;refine kJ ?_
  refine sd ?_;refine sd (.inr ⟨⟨Bool,λb=>po 53 (Z s::I i::J::J::I 0::J::J::J::J::J::B b::J::J::J::J::J::J::J::J::J::J::J::J::J::J::J::J::J::J::J::J::J::J::J::J::J::J::J::J::J::J::J::J::J::J::J::J::J::J::J::J::J::J::[]),λ_=>True,λ_=>0⟩,cv ?_,?_⟩)
  ·skip;with_reducible refine av (up 11 (Z s)) ?_;refine av (up 12 (I i)) ?_;refine lj (side:=(0:Int)<=(i:Int)/\(i:Int)<s.size) (up 13 (U (bd s i:Int))) ⟨g9 _,aj⟩ ?_;refine av (up 14 (B ((bd s i:Int)==32))) ?_;refine av (up 15 (B ((bd s i:Int)==32))) ?_;refine yt (j:=4) (t:=15) (b:=((bd s i:Int)==32)) rfl ?_ ?_ ?_
   ·kernel_rfl
   all_goals intro hc
   ·skip;with_reducible refine e9 (j:=4) (t:=15) (up 17 aO) ?_;refine e9 (j:=4) (t:=15) (up 18 aO) ?_;refine e9 (j:=4) (t:=15) (up 19 aO) ?_;refine pv (up 20 (B true)) (up 20 aO) ?_;refine av (up 21 (B true)) ?_;refine e9 (j:=10) (t:=21) (up 22 aO) ?_;refine e9 (j:=10) (t:=21) (up 23 aO) ?_;refine e9 (j:=10) (t:=21) (up 24 aO) ?_;refine e9 (j:=10) (t:=21) (up 25 aO) ?_;refine pv (up 26 (B true)) (up 26 aO) ?_;refine av (up 27 (B true)) ?_;refine e9 (j:=16) (t:=27) (up 28 aO) ?_;refine e9 (j:=16) (t:=27) (up 29 aO) ?_;refine e9 (j:=16) (t:=27) (up 30 aO) ?_;refine e9 (j:=16) (t:=27) (up 31 aO) ?_;refine pv (up 32 (B true)) (up 32 aO) ?_;refine av (up 10 (B true)) ?_;refine ef (eM 53 [(0,Z s),(1,I i),(4,I 0),(5,I i),(6,Z s),(7,I s.size),(8,B true),(10,B true),(11,Z s),(12,I i),(13,U (bd s i:Int)),(14,B ((bd s i:Int)==32)),(15,B true),(16,aO),(17,aO),(18,aO),(19,aO),(20,B true),(21,B true),(22,aO),(23,aO),(24,aO),(25,aO),(26,B true),(27,B true),(28,aO),(29,aO),(30,aO),(31,aO),(32,B true)] []) ?_;refine bO ?_
    refine⟨true,trivial,gj ?_ ?_ rfl λ_=>rfl⟩
    ·repeat' (first|exact trivial|exact rfl|refine⟨?_,?_⟩|fail)
    ·repeat' (first|exact trivial|exact rfl|refine⟨?_,?_⟩|fail)
   ·with_reducible refine vW (up 16 (Z s)) ?_;refine sc (j:=4) (t:=15) (up 17 (I i)) ?_;refine D9 (side:=(0:Int)<=(i:Int)/\(i:Int)<s.size) (j:=4) (t:=15) (up 18 (U (bd s i:Int))) ⟨g9 _,aj⟩ ?_;refine sc (j:=4) (t:=15) (up 19 (B ((bd s i:Int)==9))) ?_;refine vV (up 20 (B true)) (up 20 (B ((bd s i:Int)==9))) ?_;refine av (up 21 (B ((bd s i:Int)==9))) ?_;refine yt (j:=10) (t:=21) (b:=((bd s i:Int)==9)) rfl ?_ ?_ ?_
    ·kernel_rfl
    all_goals intro hc
    ·skip;with_reducible refine e9 (j:=10) (t:=21) (up 23 aO) ?_;refine e9 (j:=10) (t:=21) (up 24 aO) ?_;refine e9 (j:=10) (t:=21) (up 25 aO) ?_;refine pv (up 26 (B true)) (up 26 aO) ?_;refine av (up 27 (B true)) ?_;refine e9 (j:=16) (t:=27) (up 28 aO) ?_;refine e9 (j:=16) (t:=27) (up 29 aO) ?_;refine e9 (j:=16) (t:=27) (up 30 aO) ?_;refine e9 (j:=16) (t:=27) (up 31 aO) ?_;refine pv (up 32 (B true)) (up 32 aO) ?_;refine av (up 10 (B true)) ?_;refine ef (eM 53 [(0,Z s),(1,I i),(4,I 0),(5,I i),(6,Z s),(7,I s.size),(8,B true),(10,B true),(11,Z s),(12,I i),(13,U (bd s i:Int)),(14,B ((bd s i:Int)==32)),(15,B false),(16,Z s),(17,I i),(18,U (bd s i:Int)),(19,B ((bd s i:Int)==9)),(20,B ((bd s i:Int)==9)),(21,B true),(22,aO),(23,aO),(24,aO),(25,aO),(26,B true),(27,B true),(28,aO),(29,aO),(30,aO),(31,aO),(32,B true)] []) ?_;refine bO ?_
     refine⟨true,trivial,gj ?_ ?_ rfl λ_=>rfl⟩
     ·repeat' (first|exact trivial|exact rfl|refine⟨?_,?_⟩|fail)
     ·repeat' (first|exact trivial|exact rfl|refine⟨?_,?_⟩|fail)
    ·with_reducible refine vW (up 22 (Z s)) ?_;refine sc (j:=10) (t:=21) (up 23 (I i)) ?_;refine D9 (side:=(0:Int)<=(i:Int)/\(i:Int)<s.size) (j:=10) (t:=21) (up 24 (U (bd s i:Int))) ⟨g9 _,aj⟩ ?_;refine sc (j:=10) (t:=21) (up 25 (B ((bd s i:Int)==10))) ?_;refine vV (up 26 (B true)) (up 26 (B ((bd s i:Int)==10))) ?_;refine av (up 27 (B ((bd s i:Int)==10))) ?_;refine yt (j:=16) (t:=27) (b:=((bd s i:Int)==10)) rfl ?_ ?_ ?_
     ·kernel_rfl
     all_goals intro hc
     ·skip;with_reducible refine e9 (j:=16) (t:=27) (up 29 aO) ?_;refine e9 (j:=16) (t:=27) (up 30 aO) ?_;refine e9 (j:=16) (t:=27) (up 31 aO) ?_;refine pv (up 32 (B true)) (up 32 aO) ?_;refine av (up 10 (B true)) ?_;refine ef (eM 53 [(0,Z s),(1,I i),(4,I 0),(5,I i),(6,Z s),(7,I s.size),(8,B true),(10,B true),(11,Z s),(12,I i),(13,U (bd s i:Int)),(14,B ((bd s i:Int)==32)),(15,B false),(16,Z s),(17,I i),(18,U (bd s i:Int)),(19,B ((bd s i:Int)==9)),(20,B ((bd s i:Int)==9)),(21,B false),(22,Z s),(23,I i),(24,U (bd s i:Int)),(25,B ((bd s i:Int)==10)),(26,B ((bd s i:Int)==10)),(27,B true),(28,aO),(29,aO),(30,aO),(31,aO),(32,B true)] []) ?_;refine bO ?_
      refine⟨true,trivial,gj ?_ ?_ rfl λ_=>rfl⟩
      ·repeat' (first|exact trivial|exact rfl|refine⟨?_,?_⟩|fail)
      ·repeat' (first|exact trivial|exact rfl|refine⟨?_,?_⟩|fail)
     ·with_reducible refine vW (up 28 (Z s)) ?_;refine sc (j:=16) (t:=27) (up 29 (I i)) ?_;refine D9 (side:=(0:Int)<=(i:Int)/\(i:Int)<s.size) (j:=16) (t:=27) (up 30 (U (bd s i:Int))) ⟨g9 _,aj⟩ ?_;refine sc (j:=16) (t:=27) (up 31 (B ((bd s i:Int)==13))) ?_;refine vV (up 32 (B true)) (up 32 (B ((bd s i:Int)==13))) ?_;refine av (up 10 (B ((bd s i:Int)==13))) ?_;refine ef (eM 53 [(0,Z s),(1,I i),(4,I 0),(5,I i),(6,Z s),(7,I s.size),(8,B true),(10,B ((bd s i:Int)==13)),(11,Z s),(12,I i),(13,U (bd s i:Int)),(14,B ((bd s i:Int)==32)),(15,B false),(16,Z s),(17,I i),(18,U (bd s i:Int)),(19,B ((bd s i:Int)==9)),(20,B ((bd s i:Int)==9)),(21,B false),(22,Z s),(23,I i),(24,U (bd s i:Int)),(25,B ((bd s i:Int)==10)),(26,B ((bd s i:Int)==10)),(27,B false),(28,Z s),(29,I i),(30,U (bd s i:Int)),(31,B ((bd s i:Int)==13)),(32,B ((bd s i:Int)==13))] []) ?_;refine bO ?_
      refine⟨((bd s i:Int)==13),trivial,gj ?_ ?_ rfl λ_=>rfl⟩
      ·repeat' (first|exact trivial|exact rfl|refine⟨?_,?_⟩|fail)
      ·repeat' (first|exact trivial|exact rfl|refine⟨?_,?_⟩|fail)
  ·rintro (b:Bool)-;with_reducible refine kI (b:=b) (λh1=>?_) λh1=>?_
   ·with_reducible refine fx (up 10 (B true)) ?_
    refine cv ?_;with_reducible refine av (up 33 (I i)) ?_;refine av (up 34 (I (IntKind.i64.wrap ((i:Int)+1)))) ?_;refine av (up 1 (I (IntKind.i64.wrap ((i:Int)+1)))) ?_;refine ef (eM 53 [(0,Z s),(1,I (IntKind.i64.wrap ((i:Int)+1))),(4,I 0),(10,B true),(33,I i),(34,I (IntKind.i64.wrap ((i:Int)+1)))] []) ?_;refine bO ?_
    refine⟨i+1,(by show a<=i+1;omega),(by show s.size-(i+1)<s.size-i;omega),gj ?_ ?_ rfl λ_=>rfl⟩
    ·repeat' (first|exact trivial|exact rfl|refine⟨?_,?_⟩|fail)
     exact lM (by omega) (by omega)
    ·repeat' (first|exact trivial|exact rfl|refine⟨?_,?_⟩|fail)
   ·with_reducible refine fx (up 10 (B false)) ?_
    refine .inl (cv ?_);with_reducible refine av (up 36 (Z s)) ?_;refine av (up 37 (I i)) ?_;refine lj (side:=(0:Int)<=(i:Int)/\(i:Int)<s.size) (up 38 (U (bd s i:Int))) ⟨g9 _,aj⟩ ?_;refine av (up 39 (B ((bd s i:Int)==35))) ?_;refine av (up 35 (B ((bd s i:Int)==35))) ?_;refine bO ?_;refine kI (b:=((bd s i:Int)==35)) (λh2=>?_) λh2=>?_
    ·have h2:(bd s i:Int)=35:=eq_of_beq h2;refine sd ⟨⟨Nat,λk=>po 53 (Z s::I k::J::J::I 0::J::J::J::J::J::J::J::J::J::J::J::J::J::J::J::J::J::J::J::J::J::J::J::J::J::J::J::J::J::J::J::J::J::J::J::J::J::J::J::J::J::J::J::J::J::J::J::J::[]),λk=>i<=k,λk=>s.size-k⟩,⟨i,bh _,gj ?_ ?_ rfl λ_=>rfl⟩,?_⟩
     ·repeat' (first|exact trivial|exact rfl|refine⟨?_,?_⟩|fail)
     ·repeat' (first|exact trivial|exact rfl|refine⟨?_,?_⟩|fail)
     intro (k:Nat) (jF:i<=k);refine .inl (.inl (cv ?_));with_reducible refine av (up 40 (I k)) ?_;refine av (up 41 (Z s)) ?_;refine sb (fact:=s.size<=hC) (up 42 (I s.size)) λ_=>?_;refine av (up 43 (B (decide ((k:Int)<s.size)))) ?_;refine av (up 44 (B (decide ((k:Int)<s.size)))) ?_;refine D8 (j:=4) (t:=44) (b:=decide ((k:Int)<s.size)) rfl ?_ ?_ ?_
     ·kernel_rfl
     all_goals intro h4
     ·have h4:(k:Int)<s.size:=lW h4;with_reducible refine vW (up 45 (Z s)) ?_;refine A9 (j:=4) (t:=44) (up 46 (I k)) ?_;refine ajw (side:=(0:Int)<=(k:Int)/\(k:Int)<s.size) (j:=4) (t:=44) (up 47 (U (bd s k))) ⟨g9 _,h4⟩ ?_;refine A9 (j:=4) (t:=44) (up 48 (B ((bd s k:Int) !=10))) ?_;refine pv (up 49 (B ((bd s k:Int) !=10))) (up 49 (B false)) ?_;refine bO ?_;refine kI (b:=((bd s k:Int) !=10)) (λh5=>?_) λh5=>?_
      ·with_reducible refine fx (up 49 (B true)) ?_;refine kJ ?_
       refine sd (cv ?_);with_reducible refine av (up 50 (I k)) ?_;refine av (up 51 (I (IntKind.i64.wrap ((k:Int)+1)))) ?_;refine av (up 1 (I (IntKind.i64.wrap ((k:Int)+1)))) ?_;refine ef (eM 53 [(0,Z s),(1,I (IntKind.i64.wrap ((k:Int)+1))),(4,I 0),(40,I k),(41,Z s),(42,I s.size),(43,B (decide ((k:Int)<s.size))),(44,B true),(45,Z s),(46,I k),(47,U (bd s k)),(48,B ((bd s k:Int) !=10)),(49,B true),(50,I k),(51,I (IntKind.i64.wrap ((k:Int)+1)))] []) ?_;refine bO ?_
       refine⟨k+1,(by show i<=k+1;omega),(by show s.size-(k+1)<s.size-k;omega),gj ?_ ?_ rfl λ_=>rfl⟩
       ·repeat' (first|exact trivial|exact rfl|refine⟨?_,?_⟩|fail)
        exact lM (by omega) (by omega)
       ·repeat' (first|exact trivial|exact rfl|refine⟨?_,?_⟩|fail)
      ·have h5:(bd s k:Int)=10:=by simpa using h5
       have:k≠i:=λe=>by rw[e]at h5;omega
       with_reducible refine pq (eM 53 [(0,Z s),(1,I k),(4,I 0),(40,I k),(41,Z s),(42,I s.size),(43,B (decide ((k:Int)<s.size))),(44,B true),(45,Z s),(46,I k),(47,U (bd s k)),(48,B ((bd s k:Int) !=10)),(49,B false)] []) (by kernel_rfl) ?_
       refine⟨k,(by show a<=k;omega),(by show s.size-k<s.size-i;omega),gj ?_ ?_ rfl λ_=>rfl⟩
       ·repeat' (first|exact trivial|exact rfl|refine⟨?_,?_⟩|fail)
       ·repeat' (first|exact trivial|exact rfl|refine⟨?_,?_⟩|fail)
     ·skip;have h4:¬(k:Int)<s.size:=qP h4;with_reducible refine tT (j:=4) (t:=44) (up 46 aO) ?_;refine tT (j:=4) (t:=44) (up 47 aO) ?_;refine tT (j:=4) (t:=44) (up 48 aO) ?_;refine vV (up 49 aO) (up 49 (B false)) ?_;refine ef (eM 53 [(0,Z s),(1,I k),(4,I 0),(40,I k),(41,Z s),(42,I s.size),(43,B (decide ((k:Int)<s.size))),(44,B false),(45,aO),(46,aO),(47,aO),(48,aO),(49,B false)] []) ?_;refine bO ?_
      refine⟨k,(by show a<=k;omega),(by show s.size-k<s.size-i;omega),gj ?_ ?_ rfl λ_=>rfl⟩
      ·repeat' (first|exact trivial|exact rfl|refine⟨?_,?_⟩|fail)
      ·repeat' (first|exact trivial|exact rfl|refine⟨?_,?_⟩|fail)
    ·with_reducible refine fx (up 35 (B false)) ?_
     refine .inl (cv ?_);with_reducible refine av (up 9 (I i)) ?_;refine av (up 4 (I i)) ?_;refine ef (eM 53 [(0,Z s),(1,I i),(4,I i),(9,I i),(10,B false),(35,B false),(36,Z s),(37,I i),(38,U (bd s i:Int)),(39,B ((bd s i:Int)==35))] []) ?_;refine bO ?_
     exact hQ _ i wL rfl rfl
 ·with_reducible refine fx (up 8 (B false)) ?_
  refine .inl (cv ?_);with_reducible refine av (up 52 (I i)) ?_;refine av (up 4 (I i)) ?_;refine ef (eM 53 [(0,Z s),(1,I i),(4,I i),(5,I i),(6,Z s),(7,I s.size),(8,B false),(52,I i)] []) ?_;refine bO ?_
  exact hQ _ i wL rfl rfl
end Go.Pv
namespace Go.Pv
open Go
noncomputable section
def Je (x y:Int):Bool:=Int.rec (motive:=λ_=>Bool) (λa=>Int.rec (motive:=λ_=>Bool) (λb=>Nat.beq a b) (λ_=>false) y) (λa=>Int.rec (motive:=λ_=>Bool) (λ_=>false) (λb=>Nat.beq a b) y) x
def Jf (x y:Int):Bool:=Int.rec (motive:=λ_=>Bool) (λa=>Int.rec (motive:=λ_=>Bool) (λb=>Nat.ble a b) (λ_=>false) y) (λa=>Int.rec (motive:=λ_=>Bool) (λ_=>true) (λb=>Nat.ble b a) y) x
def Et (l:ano):List (Nat×Int)->Bool:=
 List.rec (motive:=λ_=>List (Nat×Int)->Bool) (λm=>List.rec (motive:=λ_=>Bool) true (λ_ _ _=>false) m)
  (λq _ ih m=>List.rec (motive:=λ_=>Bool) false (λp r _=>Bool.rec (motive:=λ_=>Bool) false (Bool.rec (motive:=λ_=>Bool) false (ih r) (Je q.2 p.2)) (Nat.beq q.1 p.1)) m) l
def PG (Γ:amY) (g:aa):Bool:=
 List.rec (motive:=λ_=>Bool) false (λf _ ih=>Bool.rec (motive:=λ_=>Bool) ih true (Bool.rec (motive:=λ_=>Bool) false (Jf f.c g.c) (Et f.l g.l))) Γ
theorem alb {x y:Int} (h:Je x y=true):x=y:=by
 cases x<;>cases y
 ·rw[bt h]
 ·cases h
 ·cases h
 ·rw[bt h]
theorem alc {x y:Int} (h:Jf x y=true):x<=y:=by
 cases x<;>cases y
 ·exact yJ.2 (fy h)
 ·cases h
 ·exact Int.le_trans (ZJ (Int.negSucc_lt_zero _)) (g9 _)
 ·have:=fy h;omega
theorem Ze:∀{l m:ano},Et l m=true->l=m
 |[],[],_=>rfl
 |[],_::_,h=>by cases h
 |_::_,[],h=>by cases h
 |q::l,p::m,h=>by
  have h:Bool.rec (motive:=λ_=>Bool) false (Bool.rec (motive:=λ_=>Bool) false (Et l m) (Je q.2 p.2)) (Nat.beq q.1 p.1)=true:=h;cases h1:Nat.beq q.1 p.1<;>rw[h1]at h
  ·cases h
  ·cases h2:Je q.2 p.2<;>rw[h2]at h
   ·cases h
   ·rw[Ze h,show q=p from Prod.ext (bt h1) (alb h2)]
theorem PH {g:aa}:∀{Γ:amY},PG Γ g=true->Entails Γ g
 |[],h=>by cases h
 |f::Γ,h=>by
  have h:Bool.rec (motive:=λ_=>Bool) (PG Γ g) true (Bool.rec (motive:=λ_=>Bool) false (Jf f.c g.c) (Et f.l g.l))=true:=h;intro μ rF;cases h1:Et f.l g.l<;>rw[h1]at h
  ·exact PH (Γ:=Γ) h μ λx hx=>rF x (lX _ hx)
  ·cases h2:Jf f.c g.c<;>rw[h2]at h
   ·exact PH (Γ:=Γ) h μ λx hx=>rF x (lX _ hx)
   ·have h3:=rF f kj;have h4:=alc h2;simp only[aa.den,Ze h1]at h3⊢;omega
def PI:Ask (List (Nat×Cert)):=λo Γ g cs=>
 match PG Γ g with
 |true=>(true,cs)
 |false=>F7 o Γ g cs
theorem ald:ca PI:=by
 intro o Γ g s s' h;unfold PI at h;split at h
 ·rename_i ht;exact PH ht
 ·exact TS o Γ g s s' h
variable {α β:Type}
def qJ (n:Nat) (k:Nat->α):α:=Nat.rec (motive:=λ_=>α) (k 0) (λm _=>k (Nat.succ m)) n
abbrev D (α:Type):=Nat->α×Nat
def D.bind (m:D α) (k:α->D β):D β:=λx=>Prod.rec (motive:=λ_=>β×Nat) (λa y=>Nat.rec (motive:=λ_=>β×Nat) (k a 0) (λm _=>k a (Nat.succ m)) y) (m x)
def D.ret (a:α):D α:=λx=>(a,x)
def ale (K:Nat->Nat->Nat->α) (l:amU):Nat->α:=
 List.rec (motive:=λ_=>Nat->α) (λ_=>K 0 1 0) (λq _ ih s=>Bool.rec (motive:=λ_=>α) (ih (Nat.sub s q.2)) (K q.1 q.2 s) (Nat.ble (Nat.succ s) q.2)) l
def alf (fs:amU):D Nat:=λx=>ale (λk f r=>Nat.rec (motive:=λ_=>Nat×Nat) (k,0) (λm _=>(k,Nat.succ m)) (Nat.add (Nat.mul f (Nat.div x 4096)) r)) fs (Nat.mod x 4096)
section
variable (cx:List (List (Nat×Nat)))
def rN (c:Nat):D Nat:=D.bind (alf (vf [] cx c)) λk=>Bool.rec (motive:=λ_=>D Nat) (λx=>qJ (Nat.pow 2 (Nat.sub k 12)) λp=>qJ (Nat.div x p) λy=>(Nat.add p (Nat.mod x p),y)) (.ret k) (Nat.ble k 15)
def rI (c:Nat):D Int:=D.bind (rN cx c) λv=> .ret (Bool.rec (motive:=λ_=>Int) (.negSucc (Nat.div v 2)) (.ofNat (Nat.div v 2)) (Nat.beq (Nat.mod v 2) 0))
def rep (m:D α) (n:Nat):D (List α):=Nat.rec (motive:=λ_=>D (List α)) (.ret []) (λ_ ih=>D.bind m λa=>D.bind ih λl=> .ret (a::l)) n
def rL (c:Nat) (m:D α):D (List α):=D.bind (rN cx c) (rep m)
def rB (c:Nat):D Bool:=D.bind (rN cx c) λv=> .ret (Nat.beq v 1)
def rO (c:Nat) (m:D α):D (Option α):=D.bind (rN cx c) λv=>Nat.rec (motive:=λ_=>D (Option α)) (.ret none) (λ_ _=>D.bind m λa=> .ret (some a)) v
def Bi (c:Nat):D aa:=D.bind (rI cx c) λk=>D.bind (rL cx (c+1) (D.bind (rN cx (c+2)) λm=>D.bind (rN cx (c+3)) λv=>D.bind (rI cx (c+4)) λq=> .ret (Nat.add (Nat.mul v 64) m,q))) λl=> .ret ⟨k,l⟩
def Zf:Nat->IntKind
 |0=> .i64
 |1=> .i32
 |2=> .i16
 |3=> .i8
 |4=> .u64
 |5=> .u32
 |6=> .u16
 |_=> .u8
def Zg (e g:Nat):Nat:=match g with
 |0=>e
 |1=>Nat.add e 5000
 |g+2=>g
def Eu:D PX:=D.bind (rN cx 0) λt=>match t with
 |0=> .ret (.int .i64)
 |1=> .ret .bool
 |2=> .ret .str
 |3=>D.bind (rN cx 1) λe=> .ret (.sl e)
 |4=>D.bind (rN cx 1) λe=>D.bind (rN cx 2) λg=> .ret (.own e (Zg e g))
 |5=>D.bind (rN cx 3) λb=>D.bind (rN cx 4) λo=> .ret (.ptr b o)
 |6=>D.bind (rN cx 3) λf=> .ret (.fn f)
 |7=> .ret .dn
 |_=>D.bind (rN cx 4) λk=> .ret (.int (Zf k))
def Zh:D PS:=D.bind (rN cx 5) λt=>match t with
 |0=>D.bind (Eu cx) λq=> .ret (.one q)
 |_=>D.bind (rL cx 6 (Eu cx)) λl=> .ret (.agg l)
def Zi:D CM:=D.bind (rN cx 7) λt=>match t with
 |0=> .ret .bo
 |1=>D.bind (rN cx 1) λe=> .ret (.plain e)
 |2=>D.bind (rN cx 1) λe=> .ret (.own e)
 |3=>D.bind (rN cx 1) λe=> .ret (.nN e)
 |_=>D.bind (rN cx 1) λe=> .ret (.sI e)
def alg:D AX:=D.bind (rN cx 8) λt=>match t with
 |0=> .ret .aD
 |1=> .ret .any
 |2=>D.bind (rN cx 4) λk=>D.bind (Bi cx 20) λe=> .ret (.int (Zf k) e)
 |3=>D.bind (rN cx 4) λb=> .ret (.bool (.lit (Nat.beq b 1)))
 |4=>D.bind (rN cx 9) λx=> .ret (.bool (.var x))
 |5=>D.bind (rN cx 9) λx=> .ret (.str x)
 |6=>D.bind (rL cx 6 (rN cx 10)) λl=> .ret (.lit ⟨⟨l.map UInt8.ofNat⟩⟩)
 |7=>D.bind (rN cx 1) λe=>D.bind (rN cx 9) λx=> .ret (.sl e x)
 |8=>D.bind (rN cx 1) λe=>D.bind (rN cx 2) λg=>D.bind (rN cx 9) λx=> .ret (.own e (Zg e g) 0 x)
 |9=> .ret .bc
 |10=>D.bind (rN cx 3) λf=> .ret (.fV f)
 |11=> .ret .hH
 |_=>D.bind (rN cx 3) λb=>D.bind (rN cx 4) λo=> .ret (.ptr b o)
def Jg:D HX:=D.bind (rN cx 11) λt=>match t with
 |0=> .ret .aD
 |1=>D.bind (Eu cx) λq=> .ret (.fresh q)
 |_=>D.bind (alg cx) λx=> .ret (.bo x)
def alh:D HR:=D.bind (rN cx 5) λt=>match t with
 |0=>D.bind (Jg cx) λh=> .ret (.one h)
 |1=>D.bind (rL cx 6 (Jg cx)) λl=> .ret (.agg l)
 |_=>D.bind (rL cx 6 (D.bind (rB cx 4) λb=>D.bind (rL cx 6 (Jg cx)) λl=> .ret (b,l))) λl=> .ret (.bj l)
def rG:D (Nat×Nat×aa):=D.bind (rN cx 1) λe=>D.bind (rN cx 9) λx=>D.bind (Bi cx 20) λi=> .ret (e,x,i)
def amN:D cb:=D.bind (rL cx 12 (rL cx 6 (Zi cx))) λam=>D.bind (rL cx 12 (rL cx 6 (Zi cx))) λbm=>D.bind (rB cx 4) λnw=>D.bind (rL cx 12 (rN cx 1)) λbrw=>D.bind (rB cx 4) λkp=>D.bind (rB cx 4) λpl=>D.bind (rL cx 12 (Zh cx)) λargs=>D.bind (rL cx 12 (rL cx 6 (Eu cx))) λboxes=>D.bind (rL cx 13 (Bi cx 20)) λpre=>D.bind (Bi cx 20) λij=>
 D.bind (alh cx) λres=>D.bind (rL cx 12 (rL cx 6 (Jg cx))) λcZ=>D.bind (rL cx 12 (rL cx 13 (Bi cx 20))) λcases=>D.bind (rL cx 12 (rG cx)) λjL=>D.bind (rL cx 12 (rG cx)) λfw=> .ret ⟨am,bm,nw,brw,kp,pl,args,boxes,pre,ij,res,cZ,cases,jL,fw⟩
def PJ:D eF:=D.bind (rN cx 14) λt=>match t with
 |0=>D.bind (rN cx 15) λt=> .ret (.slot t 0)
 |1=>D.bind (rN cx 15) λb=>D.bind (rN cx 16) λc=> .ret (.box b c)
 |2=>D.bind (rN cx 4) λk=> .ret (.gh k)
 |3=>D.bind (rN cx 9) λj=> .ret (.arg j)
 |_=>D.bind (rN cx 15) λt=>D.bind (rN cx 16) λc=> .ret (.slot t c)
def Zj:D jg:=D.bind (rI cx 25) λk=>D.bind (rL cx 26 (D.bind (PJ cx) λr=>D.bind (rN cx 27) λm=>D.bind (rI cx 28) λq=> .ret (r,m,q))) λl=> .ret ⟨k,l⟩
def ali:D LA:=D.bind (rL cx 17 (D.bind (rN cx 15) λt=>D.bind (rO cx 18 (Zh cx)) λp=> .ret (t,p))) λaq=>D.bind (rL cx 17 (D.bind (rN cx 15) λb=>D.bind (rO cx 18 (rL cx 6 (rO cx 18 (Eu cx)))) λq=> .ret (b,q))) λboxes=>
 D.bind (rL cx 17 (D.bind (PJ cx) λa=>D.bind (PJ cx) λb=>D.bind (rN cx 4) λk=> .ret (a,b,k))) λgh=>D.bind (rL cx 17 (rL cx 19 (Zj cx))) λjM=>D.bind (Zj cx) λmu=> .ret ⟨aq,boxes,gh,jM,mu⟩
def alj:D Cl:=D.bind (rN cx 29) λa=>D.bind (rB cx 4) λb=>D.bind (rN cx 15) λd=>D.bind (rN cx 1) λe=>D.bind (rN cx 1) λg=> .ret ⟨a,b,d,e,g⟩
def Zk {α:Type} (l:List (Nat×α)):Nat->List (Nat×α):=List.rec (motive:=λ_=>Nat->List (Nat×α)) (λ_=>[]) (λq _ ih p=>qJ (Nat.add p q.1) λk=>(k,q.2)::ih k) l
def alk (kZ Ev:amG):D Mk:=D.bind (rN cx 30) λok=>D.bind (rL cx 31 (D.bind (rN cx 32) λk=>D.bind (rN cx 33) λm=> .ret (k,m))) λl=>D.bind (rN cx 4) λi=>D.bind (rB cx 4) λs=> .ret ⟨vf 0 Ev ok,Zk l 0,(match i with|0=>[]|1=>[0,1,2]|_=>kZ),s⟩
def alm (n:Nat) (K:amG):List Nat->List Nat:=Nat.rec (motive:=λ_=>List Nat->List Nat) (λ_=>K) (λ_ ih l=>List.rec (motive:=λ_=>List Nat) K (λa r _=>a::ih r) l) n
def aln (cl:amG) (n:Nat):Nat->List Nat->D (List Nat):=Nat.rec (motive:=λ_=>Nat->List Nat->D (List Nat)) (λ_ b=> .ret b)
 (λ_ ih c b=>D.bind (rN cx c) λk=>qJ (vf 0 cl k) λv=>Bool.rec (motive:=λ_=>D (List Nat)) (D.bind (rN cx 36) λd=>λx=>qJ (Nat.add (Nat.mul d 128) (Nat.sub v 64)) λs=>ih 44 (s::b) x)
  (Nat.rec (motive:=λ_=>D (List Nat)) (ih 43 (0::b)) (λ_ _=>D.bind (rN cx 35) λd=>λx=>qJ (Nat.add (Nat.mul d 64) v) λs=>ih 43 (s::b) x) v) (Nat.ble v 63)) n
def alo (cl:amG) (b:amG):D (List Nat):=D.bind (rN cx 38) λn=>D.bind (aln cx cl n 34 b) λb=>D.bind (rN cx 39) λl=>Nat.rec (motive:=λ_=>D (List Nat)) (.ret b) (λl _=>D.bind (rN cx 42) λd=> .ret (alm (Nat.succ l) b (ve b d))) l
def alp (cl:amG) (n:Nat):List Nat->D (List Nat):=Nat.rec (motive:=λ_=>List Nat->D (List Nat)) (λb=> .ret b) (λ_ ih b=>D.bind (alo cx cl b) ih) n
def alq (ml:amG) (n:Nat):List Nat->Nat->(Cert->List Nat->List (Nat×Cert))->List (Nat×Cert):=
 Nat.rec (motive:=λ_=>List Nat->Nat->(Cert->List Nat->List (Nat×Cert))->List (Nat×Cert)) (λl _ k=>k [] l)
  (λ_ ih l p k=>List.rec (motive:=λ_=>List (Nat×Cert)) [] (λs r _=>qJ (Nat.add p (Nat.div s 128)) λi=>qJ (vf 0 ml (Nat.mod s 128)) λm=>ih r (Nat.succ i) λc l=>k ((i,m)::c) l) l) n
def alr (dl ml:amG) (n:Nat):List Nat->List (Nat×Cert):=
 Nat.rec (motive:=λ_=>List Nat->List (Nat×Cert)) (λ_=>[]) (λ_ ih l=>List.rec (motive:=λ_=>List (Nat×Cert)) [] (λs r _=>qJ (vf 0 dl (Nat.div s 64)) λd=>alq ml (Nat.mod s 64) r 0 λc l=>(d,c)::ih l) l) n
def als (cl dl ml:amG):D (List (Nat×Cert)):=D.bind (rN cx 40) λn=>D.bind (rN cx 41) λg=>D.bind (alp cx cl g []) λb=> .ret (alr dl ml n b)
def alu (M:Nat) (l:List UInt8):Nat->Nat:=List.rec (motive:=λ_=>Nat->Nat) (λa=>a) (λc _ ih a=>qJ (Nat.add (Nat.mul a 64) (Nat.mod (Nat.shiftRight M (Nat.mul 7 c.toNat)) 128)) ih) l
def strs (M:Nat) (l:List String):Nat->Nat:=List.rec (motive:=λ_=>Nat->Nat) (λa=>a) (λs _ ih a=>qJ (alu M s.toByteArray.data.toList a) ih) l
structure Hd where
 k:Nat
 loops:List (Nat×LA)
 ann:List (Nat×Nat)
 cl:List Cl
 mm:Mk
 splits:List aa
 fin:List Nat
 tr:Bool
def alv (kZ Ev:amG):D Hd:=D.bind (rN cx 4) λk=>D.bind (rL cx 17 (D.bind (rN cx 29) λi=>D.bind (ali cx) λa=> .ret (i,a))) λloops=>D.bind (rL cx 17 (D.bind (rN cx 40) λi=>D.bind (rN cx 41) λa=> .ret (i,a))) λann=>D.bind (rL cx 17 (alj cx)) λcl=>
 D.bind (alk cx kZ Ev) λmk=>D.bind (rL cx 12 (Bi cx 20)) λsplits=>D.bind (rL cx 12 (rN cx 9)) λfin=>D.bind (rB cx 4) λtr=> .ret ⟨k,loops,Zk ann 0,cl,mk,splits,fin,tr⟩
end
end
end Go.Pv
namespace Go.Proofs.YtmanimipgpdbcaaGreat
open Go Go.Pv
abbrev Pm:=Nat×cb×Bool
def qK:List Pm->Nat->Option (cb×Bool)
 |[],_=>none
 |q::r,g=>match Nat.beq q.1 g with
  |true=>some q.2
  |false=>qK r g
def PK {α:Type}:List (Nat×α)->Nat->Option α
 |[],_=>none
 |q::r,g=>match Nat.beq q.1 g with
  |true=>some q.2
  |false=>PK r g
def yB (L:List Pm) (g:Nat):Option bk:=match qK L g with|some q=>some (q.1.cB tb)|none=>none
def Jh (L:List Pm) (g:Nat):Bool:=match qK L g with|some q=>q.2|none=>false
noncomputable def Zl (t:Bool):Go.Pv.Ask (List (Nat×Cert)):=match t with
 |true=>PI
 |false=>F7
theorem alw (t:Bool):ca (Zl t):=by
 cases t
 ·exact TS
 ·exact ald
noncomputable def PL (L:List Pm) (r:cb) (hd:Hd):XCfg tb (List (Nat×Cert)):=
 {P:=Tryz.prog,ask:=Zl hd.tr,ms:=ms.mask hd.mm,ann:=hd.ann,specs:=tL (yB L) (Jh L),rk:=r.ij}
noncomputable def tW (L:List Pm) (f:Nat) (r:cb) (hd:Hd) (cs:List (Nat×Cert)):Bool:=
 match Tryz.prog.funcs[f]?with
 |none=>false
 |some fn=>!(fn.name== "runtime.NumGoroutine")&&!fn.body.isNone&&Nat.blt hd.k fn.ntmps&&AP ((PL L r hd).full (r.na tb) (PK hd.loops) hd.cl) fn r hd.splits hd.fin hd.k cs
def Good (f:Nat) (r:cb):Prop:=zl Tryz.prog tb f ((r.cB tb).dN ms none)/\(r.cB tb).WF tb
theorem PM {L:List Pm} {g:Nat} {q:cb×Bool} (h:qK L g=some q):(g,q)∈L:=by
 induction L with
 |nil=>cases h
 |cons p r ih=>
  unfold qK at h;split at h
  ·rename_i e;simp only[ae]at h;subst h;have:=bt e;subst this;exact kj
  ·exact lX _ (ih h)
theorem follows:Tryz.prog.follows .mixedOrders=true:=by kernel_rfl
theorem alx (L:List Pm) (hb:∀q∈L,q.2.2=false->Good q.1 q.2.1) (hr:∀q∈L,q.2.2=true->∃hd cs,tW L q.1 q.2.1 hd cs=true):∀g q,qK L g=some q->Good g q.1:=by
 have inv:∀f a,yB L f=some a->∃r b,qK L f=some (r,b)/\a=r.cB tb/\Jh L f=b:=by
  intro f a h;unfold yB at h;split at h
  ·rename_i q hq;simp only[ae]at h;exact⟨q.1,q.2,hq,h.symm,by simp only[Jh,hq]⟩
  ·cases h
 have A7:∀f r,qK L f=some (r,true)->∃hd cs fn,Tryz.prog.funcs[f]?=some fn/\(fn.name== "runtime.NumGoroutine")=false/\fn.body.isNone=false/\hd.k<fn.ntmps/\AP ((PL L r hd).full (r.na tb) (PK hd.loops) hd.cl) fn r hd.splits hd.fin hd.k cs=true:=by
  intro f r h;obtain⟨hd,cs,h⟩:=hr _ (PM h) rfl;unfold tW at h;split at h
  ·cases h
  ·rename_i fn uI;simp only[aB,gy]at h;exact⟨hd,cs,fn,uI,h.1.1.1,h.1.1.2,fy h.1.2,h.2⟩
 have hw:∀f a,yB L f=some a->a.WF tb:=by
  intro f a h;obtain⟨r,b,h1,rfl,_⟩:=inv f a h;cases b with
  |false=>exact(hb _ (PM h1) rfl).2
  |true=>obtain⟨hd,cs,fn,_,_,_,_,hx⟩:=A7 f r h1;simp only[AP,aB]at hx;exact bk.x9 (by have:=hx.1.1.1.1.1;simp only[cb.wf,aB]at this;exact this.1.1)
 have key:=Ol (P:=Tryz.prog) (ms:=ms) (A:=yB L) (S:=Jh L) hw (λg a ha hS=>by
  obtain⟨r,b,h1,rfl,h2⟩:=inv g a ha;rw[hS]at h2;subst h2;exact(hb _ (PM h1) rfl).1) (λf a ha hS=>by
  obtain⟨r,b,h1,rfl,h2⟩:=inv f a ha;rw[hS]at h2;subst h2;obtain⟨hd,cs,fn,h3,h4,h5,_⟩:=A7 f r h1;exact⟨fn,h3,h4,h5⟩) (λf a ha hS N hN ss bs sp ct dL=>by
  obtain⟨r,b,h1,rfl,h2⟩:=inv f a ha;rw[hS]at h2;subst h2;obtain⟨hd,cs,fn,h3,h4,h5,h6,h7⟩:=A7 f r h1;exact ahX (ms:=ms) (c:=PL L r hd) D7 follows (alw _) (ai5 _ _) rfl hw h3 h6 (RV h5) h7 N hN ct dL)
 intro g q hq;have ha:yB L g=some (q.1.cB tb):=by simp only[yB,hq]
 exact⟨key g _ ha,hw g _ ha⟩
end Go.Proofs.YtmanimipgpdbcaaGreat
