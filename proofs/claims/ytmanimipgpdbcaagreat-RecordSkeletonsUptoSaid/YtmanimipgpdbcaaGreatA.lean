/- Part of the proof of RecordSkeletons. -/
import Derived.Deep.AppendSrc
import Derived.Deep.MidRow
import Derived.Great.BuildSlice
import Derived.Laws.BytesString
import Derived.Laws.Cells
import Derived.Laws.MakeOwn
import Derived.Laws.StructEq
import Derived.Laws.Tables
import Derived.Orders
import Derived.Room.Entries
set_option linter.unusedVariables false
set_option linter.unusedSimpArgs false
namespace Go.Pv
abbrev ae:=@Option.some.injEq
abbrev az:=@List.mem_cons
abbrev aB:=@Bool.and_eq_true
abbrev aC:=@if_pos
abbrev aF:=@List.mem_map
abbrev aP:=@List.getElem?_eq_getElem
abbrev aQ:=@if_neg
abbrev aT:=@Nat.lt_or_ge
abbrev aW:=@List.getElem?_eq_none
abbrev aX:=@List.all_eq_true
abbrev aY:=@List.mem_of_getElem?
abbrev aZ:=@List.getD_eq_getElem?_getD
abbrev a8:=@List.mem_singleton
abbrev ba:=@List.mem_flatMap
abbrev bh:=@Nat.le_refl
abbrev bt:=@Nat.eq_of_beq_eq_true
abbrev bu:=@List.map_cons
abbrev bB:=@List.mem_append
abbrev bL:=@List.not_mem_nil
abbrev bM:=@or_false
abbrev bP:=@List.getElem?_map
abbrev bQ:=@Nat.lt_succ_self
abbrev bT:=@Prod.mk.injEq
abbrev cj:=@Option.map_some
abbrev cJ:=@if_true
abbrev cK:=@List.map_congr_left
abbrev da:=@List.map_map
abbrev dI:=@List.length_map
abbrev dO:=@Nat.lt_of_lt_of_le
abbrev dP:=@List.mem_range
abbrev eh:=@Nat.mul_le_mul_right
abbrev en:=@Nat.add_mul
abbrev ez:=@Iff.rfl
abbrev eH:=@List.length_cons
abbrev eI:=@Nat.zero_add
abbrev eN:=@decide_eq_true_eq
abbrev eR:=@Nat.le_trans
abbrev fa:=@List.getElem?_drop
abbrev fh:=@Option.getD_some
abbrev fi:=@List.getElem?_take
abbrev fj:=@List.mem_append_right
abbrev fy:=@Nat.le_of_ble_eq_true
abbrev fz:=@List.getElem_mem
abbrev fL:=@Nat.le_add_right
abbrev fU:=@Bool.and_eq_true_iff
abbrev gk:=@Nat.zero_le
abbrev gy:=@Bool.not_eq_true'
abbrev g9:=@Int.natCast_nonneg
abbrev im:=@Array.getElem?_eq_getElem
abbrev iS:=@List.getElem?_range
abbrev iT:=@Bool.or_eq_true
abbrev iU:=@Int.le_refl
abbrev jy:=@Nat.add_zero
abbrev jz:=@List.length_eq_zero_iff
abbrev jO:=@Array.getElem?_toList
abbrev jP:=@List.getElem?_of_mem
abbrev jQ:=@List.getElem?_append_left
abbrev jR:=@List.getElem?_append_right
abbrev jS:=@List.length_append
abbrev jT:=@List.contains_iff_mem
abbrev kh:=@List.getElem?_set
abbrev ki:=@List.mem_filter
abbrev kj:=@List.mem_cons_self
abbrev kM:=@Bool.false_or
abbrev ll:=@congrArg
abbrev lr:=@List.foldr_cons
abbrev lR:=@Option.some.inj
abbrev lS:=@cond_false
abbrev lT:=@List.length_pos_iff
abbrev lU:=@and_true
abbrev lV:=@List.getElem?_cons_zero
abbrev lW:=@of_decide_eq_true
abbrev lX:=@List.mem_cons_of_mem
abbrev mI:=@Nat.mod_lt
abbrev mJ:=@cond_true
abbrev mK:=@List.mem_of_mem_drop
abbrev mL:=@List.map_nil
abbrev mM:=@List.getElem?_set_ne
abbrev mN:=@List.flatMap_cons
abbrev mO:=@Eq.trans
abbrev nE:=@List.mem_of_mem_take
abbrev nF:=@List.mem_append_left
abbrev oB:=@Nat.add_assoc
abbrev oC:=@List.getElem?_cons_succ
abbrev oD:=@List.ext_getElem?
abbrev oE:=@Nat.mul_comm
abbrev oF:=@List.mem_or_eq_of_mem_set
abbrev oG:=@Nat.add_sub_cancel_left
abbrev oH:=@List.map_append
abbrev py:=@if_false
abbrev pz:=@Function.comp_def
abbrev pA:=@Nat.le_succ
abbrev qL:=@Bool.false_eq_true
abbrev qM:=@Bool.not_true
abbrev qN:=@beq_iff_eq
abbrev qO:=@List.eq_nil_of_length_eq_zero
abbrev qP:=@of_decide_eq_false
abbrev sg:=@Nat.pos_of_ne_zero
abbrev sj:=@Nat.mul_div_cancel
abbrev tY:=@Array.getElem?_eq_none
abbrev tZ:=@Nat.mul_pos
abbrev ua:=@List.cons.injEq
abbrev uc:=@List.mem_of_find?_eq_some
abbrev ud:=@List.any_eq_true
abbrev ue:=@List.isEmpty_iff
abbrev uf:=@List.flatMap_map
abbrev ug:=@List.all_cons
abbrev uh:=@Eq.symm
abbrev vZ:=@Nat.succ_pos
abbrev v3:=@decide_eq_false_iff_not
abbrev v7:=@Array.toList_inj
abbrev v8:=@List.find?_some
abbrev v9:=@Bool.and_true
abbrev wa:=@List.eq_of_mem_replicate
abbrev wb:=@Ne.symm
abbrev wc:=@Int.mul_add
abbrev we:=@Bool.eq_iff_iff
abbrev wg:=@and_self
abbrev yC:=@Bool.true_and
abbrev yD:=@List.length_nil
abbrev yE:=@Nat.eq_zero_or_pos
abbrev yF:=@Nat.mul_eq
abbrev yG:=@Int.natCast_mul
abbrev yH:=@Nat.succ_mul
abbrev yI:=@List.foldr_nil
abbrev yJ:=@Int.ofNat_le
abbrev Bj:=@Nat.mod_eq_of_lt
abbrev Bk:=@List.getElem?_eq_some_iff
abbrev Bl:=@List.take_length
abbrev Bm:=@Nat.add_comm
abbrev Bn:=@List.getElem?_mapIdx
abbrev Bo:=@List.length_take
abbrev Bp:=@List.map_drop
abbrev Bq:=@List.map_take
abbrev Br:=@List.map_set
abbrev Bs:=@Function.comp_apply
abbrev Ez:=@Bool.eq_false_or_eq_true
abbrev EA:=@Array.getD_eq_getD_getElem?
abbrev EB:=@Nat.sub_mul
abbrev EC:=@List.drop_zero
abbrev ED:=@Nat.one_mul
abbrev EE:=@Option.isNone_iff_eq_none
abbrev EF:=@Nat.ble_eq
abbrev EG:=@Nat.le_of_not_lt
abbrev EH:=@Nat.div_eq_of_lt
abbrev EI:=@List.length_drop
abbrev EJ:=@Int.natCast_add
abbrev EK:=@List.take_of_length_le
abbrev Jj:=@Bool.or_eq_false_iff
abbrev Jk:=@Bool.not_eq_false'
abbrev Jl:=@List.getElem?_toArray
abbrev Jm:=@Nat.div_add_mod
abbrev Jn:=@Array.getElem?_append_left
abbrev Jo:=@List.flatMap_append
abbrev Jp:=@Int.ofNat_eq_natCast
abbrev Jq:=@Nat.succ_eq_add_one
abbrev Jr:=@List.nodup_cons
abbrev Js:=@List.map_flatMap
abbrev Jt:=@Option.bind_eq_some_iff
abbrev PR:=@Bool.false_and
abbrev PT:=@List.foldl_cons
abbrev PU:=@Classical.axiomOfChoice
abbrev PV:=@Nat.sub_self
abbrev PW:=@Classical.choose_spec
abbrev PY:=@Classical.not_not
abbrev PZ:=@List.getElem?_replicate
abbrev P0:=@List.drop_drop
abbrev P1:=@List.map_id
abbrev P2:=@List.idxOf?_eq_none_iff
abbrev P3:=@List.idxOf?_eq_some_iff
abbrev P4:=@Nat.add_sub_cancel
abbrev P5:=@List.length_eq_one_iff
abbrev P6:=@List.set_comm
abbrev P7:=@List.getElem?_set_self
abbrev P8:=@List.append_nil
abbrev P9:=@List.cons_append
abbrev Qa:=@Bool.and_false
abbrev Qb:=@Bool.true_or
abbrev Qc:=@ByteArray.size_extract
abbrev Qd:=@Nat.beq_refl
abbrev Qe:=@Nat.testBit_or
abbrev Qf:=@Nat.testBit_and
abbrev Qg:=@List.append_assoc
abbrev Qh:=@Int.add_mul
abbrev Qi:=@Int.negSucc_eq
abbrev Qj:=@Int.mul_neg
abbrev Qk:=@Int.add_zero
abbrev Ql:=@Nat.lt_succ_of_lt
abbrev Qm:=@List.all_nil
abbrev Qn:=@List.all_map
abbrev Qo:=@List.sum_cons
abbrev Qp:=@Nat.pow_succ
abbrev Qq:=@Nat.mul_assoc
abbrev Qr:=@List.foldl_append
abbrev Qs:=@Int.toNat_of_nonneg
abbrev Qt:=@Int.toNat_natCast
abbrev Zo:=@Array.getElem?_setIfInBounds
abbrev Zp:=@Bool.or_self
abbrev Zq:=@Bool.or_false
abbrev Zr:=@UInt8.toNat_lt
abbrev Zs:=@Array.toList_map
abbrev Zt:=@List.map_toArray
abbrev Zu:=@Nat.zero_mul
abbrev Zv:=@Nat.add_mul_mod_self_right
abbrev Zw:=@List.idxOf_lt_length_iff
abbrev Zx:=@Classical.em
abbrev Zy:=@Bool.and_self
abbrev Zz:=@List.nil_append
abbrev ZA:=@List.length_replicate
abbrev ZB:=@Nat.one_shiftLeft
abbrev ZC:=@Array.mem_toList_iff
abbrev ZD:=@List.eq_nil_iff_forall_not_mem
abbrev ZE:=@Int.neg_mul
abbrev ZF:=@Int.mul_assoc
abbrev ZG:=@Int.emod_eq_of_lt
abbrev ZH:=@Int.tmod_nonneg
abbrev ZI:=@Int.tmod_lt_of_pos
abbrev ZJ:=@Int.le_of_lt
abbrev ZK:=@List.mem_filterMap
abbrev ZL:=@List.getD_cons_zero
abbrev ZM:=@Option.map_none
abbrev ZN:=@Nat.mul_add_div
abbrev ZO:=@List.length_set
abbrev ZP:=@List.all_flatMap
abbrev ZQ:=@List.flatMap_assoc
abbrev ZR:=@List.take_append_drop
abbrev ZS:=@List.getD_cons_succ
abbrev ZT:=@List.filter_cons_of_neg
abbrev ZU:=@List.filter_cons_of_pos
abbrev ZV:=@Bool.not_eq_true
abbrev ZW:=@Int.sub_nonneg
abbrev ZX:=@Int.add_le_add
abbrev ZY:=@List.contains_eq_mem
abbrev ZZ:=@Nat.pow_zero
abbrev Z0:=@List.eq_nil_or_concat
abbrev Z1:=@List.concat_eq_append
abbrev Z2:=@Int.ofNat_inj
abbrev Z3:=@ne_of_beq_false
abbrev alz:=@Array.getElem?_modify
abbrev alA:=@Nat.le_of_mul_le_mul_right
abbrev alB:=@Nat.ble_eq_true_of_le
abbrev alC:=@Nat.le_mul_of_pos_right
abbrev alD:=@Int.mul_le_mul_of_nonneg_right
abbrev alE:=@Array.getElem_setIfInBounds
abbrev alF:=@List.getElem?_zip_eq_some
abbrev alG:=@List.drop_eq_nil_of_le
abbrev alH:=@List.drop_eq_getElem_cons
abbrev alI:=@List.range_succ_eq_map
abbrev alJ:=@ByteArray.size_append
abbrev alK:=@Array.setIfInBounds_comm
abbrev alL:=@List.Pairwise.filter
abbrev alM:=@List.isEmpty_eq_false_iff
abbrev alN:=@List.take_succ_eq_append_getElem
end Go.Pv
namespace Go.Pv
open Go
inductive Kd where
 |int (k:IntKind)
 |bool
 |str
 |sl (e:Nat)
 |ptr
 |any
 deriving DecidableEq
inductive C where
 |int (k:IntKind) (n:Int)
 |bool (b:Bool)
 |str (s:ByteArray)
 |sl (e:Nat) (rows:List (List C))
 |any
instance:Inhabited C:=⟨.bool false⟩
def C.kd:C->Kd
 | .int k _=> .int k
 | .bool _=> .bool
 | .str _=> .str
 | .sl e _=> .sl e
 | .any=> .any
def cD:C->Int
 | .int _ n=>n
 |_=>0
def jh:C->Bool
 | .bool b=>b
 |_=>false
def aA:C->ByteArray
 | .str s=>s
 |_=>ByteArray.empty
def ah:C->List (List C)
 | .sl _ r=>r
 |_=>[]
def lY:Kd->C->C
 | .int k,c=> .int k (cD c)
 | .bool,c=> .bool (jh c)
 | .str,c=> .str (aA c)
 | .sl e,c=> .sl e (ah c)
 | .ptr,c=>c
 | .any,_=> .any
theorem yK {k:Kd} {c:C} (h:c.kd=k):lY k c=c:=by subst h;cases c<;>rfl
def iA (k:IntKind) (n:Int):Prop:=k.min<=n/\n<=k.max
def cM:Nat:=137438953472
def hC:Nat:=9223372036854775807
structure ay where
 t:Nat->List Kd
 G:Nat->Nat->List C->Prop
instance:CoeFun ay λ_=>Nat->List Kd:=⟨ay.t⟩
def dh:Nat->Option (Nat×List (Nat×Nat))
 |53=>some (20,[(0,1),(9,11)])
 |77=>some (15,[(3,1),(4,11)])
 |93=>some (2,[(1,1)])
 |4=>some (1,[(0,1)])
 |47=>some (2,[(0,2)])
 |_=>none
def base (e:Nat):Nat:=bif Nat.beq e 1553 then 53 else e%1000
def src (e:Nat):Nat:=bif Nat.beq e 1553 then 1053 else e
theorem sk {e:Nat} (h:e≠1553):src e=e:=by have:Nat.beq e 1553=false:=(Ez _).resolve_left λh'=>h (bt h');simp[src,this]
theorem wh {e:Nat} (h:e≠1553):base e=e%1000:=by have:Nat.beq e 1553=false:=(Ez _).resolve_left λh'=>h (bt h');simp[base,this]
theorem Bt (e:Nat):base (src e)=base e:=by
 by_cases h:e=1553
 ·subst h;rfl
 ·rw[sk h]
def bY (e:Nat):Bool:=decide (1000<=e)&&decide (e<2000)
def mP (k j:Nat):Bool:=
 if bY (k/4096)then
  match dh (base (k/4096))with
  |some (n,gs)=>decide (k%4096=0)&&gs.any λg=>decide (g.1<=j%n)&&decide (j%n<g.1+g.2)
  |none=>false
 else false
def key (T:ay) (e off:Nat):Nat:=e*4096+off%(T e).length
def Bu (k j:Nat):Bool:=Nat.beq k 4313088&&Nat.beq (j%20) 9
def wi (v:Value):Prop:=∃k n,v= .int k n/\n≠0
def yL (e0 e:Nat):Prop:=e0=src e\/(2000<=e/\e<3000/\e0≠1553/\(e0+1000=e\/e0+2000=e))
def kk (T:ay) (e0 e off:Nat):Nat:=e0*4096+off%(T e).length
theorem Bv (T:ay) (e off:Nat):kk T e e off=key T e off:=rfl
theorem yL.self {e:Nat} (h:e≠1553):yL e e:= .inl (sk h).symm
theorem Qu (T:ay) (e0 e off l:Nat):kk T e0 e (off+l*(T e).length)=kk T e0 e off:=by simp[kk]
theorem yL.eq {e0 e:Nat} (h:yL e0 e) (he:e<2000):e0=src e:=by
 rcases h with h|⟨h,_⟩
 all_goals omega
inductive aG (T:ay) (φ:Nat->Nat->Nat) (w:World):C->Value->Prop
 |int (k:IntKind) (n:Int) (h:iA k n):aG T φ w (.int k n) (.int k n)
 |bool (b:Bool):aG T φ w (.bool b) (.bool b)
 |str (s:ByteArray) (h:s.size<=hC):aG T φ w (.str s) (.string s)
 |any (v:Value) (h:v.oneCell'=true):aG T φ w .any v
 |nil (e:Nat):aG T φ w (.sl e []) (.slice none 0 0)
 |emp (e:Nat) (a:Addr):aG T φ w (.sl e []) (.slice (some a) 0 0)
 |sl (e:Nat) (rows:List (List C)) (b off cap:Nat) (cs:Array Value) (el:TypeId) (fr:Nat×Nat) (val:Nat->Nat->Value) (e0:Nat) (gr:Nat->Nat->C)
  (hb:w.heap[b]?=some (.cells cs el fr))
  (cI:off+rows.length*(T e).length<=φ b (kk T e0 e off))
  (cP:rows.length<=cap) (dq:off+cap*(T e).length<=cs.size)
  (hlen:rows.length<=cM)
  (hk:∀r∈rows,r.map C.kd=T e)
  (hv:∀i j,i<rows.length->j<(T e).length->cs[off+i*(T e).length+j]?=some (val i j))
  (hr:∀(i j:Nat) (r:List C) (c:C),rows[i]?=some r->r[j]?=some c->aG T φ w c (val i j))
  (hs:yL e0 e)
  (hl:∀i j,i<rows.length->j<(T e).length->((T e)[j]?≠some .any\/(2000<=e/\e0+1000≠e))->mP (kk T e0 e off) (off+i*(T e).length+j)=false)
  (gA:2000<=e->e0+1000≠e->∀i j:Nat,i<rows.length->(T e)[j]?=some .any->(T (base e))[j]?=some (gr i j).kd)
  (fB:2000<=e->e0+1000≠e->∀i j:Nat,i<rows.length->(T e)[j]?=some .any->aG T φ w (gr i j) (val i j))
  (hd:e=1553->∀i,i<rows.length->(T e).length=20/\off%20=0/\wi (val i 9)):
  aG T φ w (.sl e rows) (.slice (some ⟨b,off,none⟩) rows.length cap)
theorem aG.one {T:ay} {φ:Nat->Nat->Nat} {w:World} {c:C} {v:Value} (h:aG T φ w c v):v.oneCell'=true:=by cases h<;>first|rfl|omega
structure dQ (φ:Nat->Nat->Nat) (w:World) (ly:Nat->Nat->Nat) (w':World):Prop where
 le:∀b e,φ b e<=ly b e
 size:w.heap.size<=w'.heap.size
 bo:∀b cs el fr,w.heap[b]?=some (.cells cs el fr)->∃bU,w'.heap[b]?=some (.cells bU el fr)/\bU.size=cs.size/\
  ∀e j:Nat,j<φ b e->bU[j]?=cs[j]?\/(mP e j=true/\∃v,bU[j]?=some v/\v.oneCell'=true/\(Bu e j=true->∀v0,cs[j]?=some v0->wi v0->wi v))
theorem dQ.refl (φ:Nat->Nat->Nat) (w:World):dQ φ w φ w:=
 ⟨λ_ _=>bh _,bh _,λ_ cs _ _ h=>⟨cs,h,rfl,λ_ _ _=> .inl rfl⟩⟩
theorem dQ.trans {φ ly Qv:Nat->Nat->Nat} {w w' Qw:World} (h:dQ φ w ly w') (h':dQ ly w' Qv Qw):dQ φ w Qv Qw:=by
 refine⟨λb e=>eR (h.le b e) (h'.le b e),eR h.size h'.size,λb cs el fr hb=>?_⟩;obtain⟨Qx,h1,h2,h3⟩:=h.bo b cs el fr hb;obtain⟨Qy,g1,g2,g3⟩:=h'.bo b Qx el fr h1;refine⟨Qy,g1,g2.trans h2,λe j hj=>?_⟩;rcases g3 e j (dO hj (h.le b e))with g|g
 all_goals grind
theorem aG.mono {T:ay} {φ ly:Nat->Nat->Nat} {w w':World} (m:dQ φ w ly w') {c:C} {v:Value} (h:aG T φ w c v):aG T ly w' c v:=by
 induction h with
 |int k n h=>exact .int k n h
 |bool b=>exact .bool b
 |str s h=>exact .str s h
 |any v h=>exact .any v h
 |nil e=>exact .nil e
 |emp e a=>exact .emp e a
 |sl e rows b off cap cs el fr val e0 gr hb cI cP dq hlen hk hv hr hs hl gA fB hd ih Qz=>
  obtain⟨bU,h1,h2,h3⟩:=m.bo b cs el fr hb;have aj:∀i j,i<rows.length->j<(T e).length->off+i*(T e).length+j<φ b (kk T e0 e off):=λi j hi hj=>by have:(i+1)*(T e).length<=rows.length*(T e).length:=eh _ hi;grind
  have same:∀i j,i<rows.length->j<(T e).length->mP (kk T e0 e off) (off+i*(T e).length+j)=false->bU[off+i*(T e).length+j]?=some (val i j):=λi j hi hj hh=>by
   grind
  have QA:∀i j,i<rows.length->j<(T e).length->∃v,bU[off+i*(T e).length+j]?=some v/\(v.oneCell'=true\/v=val i j):=λi j hi hj=>by
   grind
  have iB:∀(i j:Nat) (r:List C) (c:C),rows[i]?=some r->r[j]?=some c->i<rows.length/\j<(T e).length/\(T e)[j]?=some c.kd:=λi j r c hi hj=>by
   have cE:i<rows.length:=by
    rcases aT i rows.length with h|h
    ·exact h
    ·grind
   have hm:=hk r (aY hi);grind
  refine .sl e rows b off cap bU el fr (λi j=>(bU[off+i*(T e).length+j]?).getD (.bool false)) e0 gr h1 (eR cI (m.le b _)) cP (by omega) hlen hk (λi j hi hj=>?_)
   (λi j r c hi hj=>?_) hs hl gA (λg1 g2 i j hi ha=>?_) (λhe=>?_)
  ·grind
  ·obtain⟨cE,dR,fM⟩:=iB i j r c hi hj;by_cases hc:c.kd= .any
   ·cases c<;>first|cases hc|skip
    obtain⟨v,pB,ho⟩:=QA i j cE dR;simp only[pB,fh];rcases ho with ho|rfl
    ·exact .any v ho
    grind
   grind
  ·grind
  ·intro i hi;obtain⟨d1,d2,d3⟩:=hd he i hi;refine⟨d1,d2,?_⟩;have h9:9<(T e).length:=by omega
   have hz:Bu (kk T e0 e off) (off+i*(T e).length+9)=true:=by
    have h0:e0=1053:=by have:=hs.eq (by omega);rw[he]at this;exact this
    have h1:kk T e0 e off=4313088:=by unfold kk;rw[h0,d1,d2]
    have h2:(off+i*20+9)%20=9:=by omega
    simp only[Bu,h1,d1,h2];rfl
   grind
def di (e:Nat):Nat:=
 match e with
 |30|53|77|93=>e+2000
 |1553=>1553
 |e=>bif bY e&&(dh (base e)).isSome then e+1000 else e
def lz (e j:Nat):Bool:=
 match dh (base e)with
 |some (_,gs)=>gs.any λg=>decide (g.1<=j)&&decide (j<g.1+g.2)
 |none=>false
def eJ:Nat->C->C
 |n+1, .sl e rows=>bif di e==e then .sl e rows else .sl (di e) (rows.map λr=>r.mapIdx λj c=>bif lz e j then .any else eJ n c)
 |_,c=>c
def Bx:Nat->Kd->Kd
 |_+1, .sl e=> .sl (di e)
 |_,k=>k
def pC (T:ay):Nat->Nat->Bool
 |n+1,e=>di e==e||(decide ((T e).mapIdx (λj k=>bif lz e j then .any else Bx n k)=T (di e))&&decide (di e<3000)&&(T e).all λk=>match k with| .sl e'=>pC T n e'|_=>true)
 |0,_=>true
def At (T:ay) (φ:Nat->Nat->Nat) (w:World) (e:Nat) (rows:List (List C)) (b off:Nat):Prop:=
 ∃cap,aG T φ w (.sl e rows) (.slice (some ⟨b,off,none⟩) rows.length cap)
theorem At.cell {T:ay} {φ:Nat->Nat->Nat} {w:World} {e:Nat} {rows:List (List C)} {b off:Nat} (h:At T φ w e rows b off) {i j:Nat} {r:List C} {c:C}
 (hi:rows[i]?=some r) (hj:r[j]?=some c):∃u,w.cell? ⟨b,off+i*(T e).length+j,none⟩=some u/\aG T φ w c u:=by
 obtain⟨cap,h⟩:=h;cases h with
 |emp=>grind
 |sl e rows b off cap cs el fr val e0 gr hb cI cP dq hlen hk hv hr hs hl gA fB hd=>
  have cE:i<rows.length:=by
   rcases aT i rows.length with h|h
   ·exact h
   ·grind
  have dR:j<(T e).length:=by
   have hm:=hk r (aY hi);have:j<r.length:=by
    rcases aT j r.length with h|h
    ·exact h
    ·grind
   rw[<-hm];simpa using this
  exact⟨val i j,by simpa[World.cell?,hb]using hv i j cE dR,hr i j r c hi hj⟩
theorem At.len {T:ay} {φ:Nat->Nat->Nat} {w:World} {e:Nat} {rows:List (List C)} {b off:Nat} (h:At T φ w e rows b off):rows.length<=cM:=by
 obtain⟨cap,h⟩:=h;cases h with
 |emp=>simp
 |sl e rows b off cap cs el fr val e0 gr hb cI cP dq hlen hk hv hr hs hl gA fB hd=>omega
theorem At.kinds {T:ay} {φ:Nat->Nat->Nat} {w:World} {e:Nat} {rows:List (List C)} {b off:Nat} (h:At T φ w e rows b off):∀r∈rows,r.map C.kd=T e:=by
 obtain⟨cap,h⟩:=h;cases h with
 |emp=>grind
 |sl e rows b off cap cs el fr val e0 gr hb cI cP dq hlen hk hv hr hs hl gA fB hd=>omega
theorem aG.kinds {T:ay} {φ:Nat->Nat->Nat} {w:World} {e:Nat} {rows:List (List C)} {v:Value} (h:aG T φ w (.sl e rows) v):∀r∈rows,r.map C.kd=T e:=by
 cases h with
 |nil=>grind
 |emp=>grind
 |sl e rows b off cap cs el fr val e0 gr hb cI cP dq hlen hk hv hr hs hl gA fB hd=>omega
theorem aG.len {T:ay} {φ:Nat->Nat->Nat} {w:World} {e:Nat} {rows:List (List C)} {v:Value} (h:aG T φ w (.sl e rows) v):rows.length<=cM:=by
 cases h with
 |nil=>simp
 |emp=>simp
 |sl e rows b off cap cs el fr val e0 gr hb cI cP dq hlen hk hv hr hs hl gA fB hd=>omega
abbrev Kr:=Nat->C
abbrev Y9:=List (List C)
abbrev amQ:=List Kd
abbrev amS:=List C
abbrev amG:=List Nat
abbrev amP:=Nat->Nat
abbrev amR:=Option Nat
abbrev amU:=List (Nat×Nat)
abbrev amW:=List Oper
abbrev ana:=List Value
abbrev ane:=Array Value
abbrev ang:=Array Oper
abbrev anh:=Nat->Nat->Nat
abbrev ano:=List (Nat×Int)
abbrev ant:=Array Bool
end Go.Pv
namespace Go.Pv
open Go
inductive gB where
 |dB
 |box
 |ui
 |row (g:Nat)
 deriving DecidableEq
def gB.kN:gB->Bool
 | .box| .ui=>true
 |_=>false
structure Env where
 φ:Nat->Nat->Nat
 κ:Nat->gB
 β:Nat->Nat
 ο:Nat->Nat
 fo:Nat×Nat
inductive X where
 |aD
 |c (v:C)
 |own (e g n:Nat) (rows:Y9)
 |bc
 |hH
 |fV (f:Nat)
 |ptr (b off:Nat)
 |cd (b off:Nat)
 |bz (e:Nat) (rows:Y9) (i off:Nat)
 |cn (e b:Nat) (rows:Y9)
 |cq (e b n:Nat)
 |dn (k:Int)
inductive S where
 |one (x:X)
 |agg (l:List X)
 |bj (l:List (Bool×List X))
instance:Inhabited X:=⟨.aD⟩
instance:Inhabited S:=⟨.one .aD⟩
structure St where
 aq:List S
 boxes:List (Option (List X))
 gen:Nat->Nat
structure Vw where
 hs:Nat->Bool
 gen:Nat->Nat
def hasB (bs:List (Option (List X))) (b:Nat):Bool:=
 match bs[b]?with
 |some (some (_::_))=>true
 |_=>false
def St.vw (st:St):Vw:=⟨hasB st.boxes,st.gen⟩
theorem mQ {bs:List (Option (List X))} {b:Nat} {l:List X} (h:bs[b]?=some (some l)) (hl:l≠[]):hasB bs b=true:=by
 unfold hasB;rw[h];cases l with
 |nil=>grind
 |cons x r=>rfl
theorem qQ {bs:List (Option (List X))} {b:Nat} (h:hasB bs b=true):∃l,bs[b]?=some (some l)/\l≠[]:=by
 unfold hasB at h;grind
variable (T:ay)
def uj (E:Env) (w:World) (e g:Nat) (u:Value):Prop:=
 (∃mR,u= .slice mR 0 0)\/∃b off len cap,u= .slice (some ⟨b,off,none⟩) len cap/\
  (len=cap\/(E.κ b= .row g/\key T e off=key T e 0/\off+len*(T e).length=E.φ b (key T e 0)/\(∀k,k≠key T e 0->E.φ b k=0)/\∃cs el,w.heap[b]?=some (.cells cs el (0,0))))
def Z4 (E:Env) (w:World) (e b:Nat) (rows:Y9) (u:Value):Prop:=
 ∃off cap,u= .slice (some ⟨E.β b,off,none⟩) (rows.length+1) cap/\rows.length+1<=cap/\rows.length+1<=cM/\E.ο b=off+rows.length*(T e).length/\
  key T e off=key T e 0/\E.φ (E.β b) (key T e 0)=E.ο b/\(∀k,k≠key T e 0->E.φ (E.β b) k=0)/\At T E.φ w e rows (E.β b) off/\
  ∃cs el,w.heap[E.β b]?=some (.cells cs el (0,0))/\off+cap*(T e).length<=cs.size
def Z5 (E:Env) (w:World) (e b n:Nat) (u:Value):Prop:=
 E.ο b=0/\∃cap,u= .slice (some ⟨E.β b,0,none⟩) n cap/\n<=cap/\n<=cM/\(∀k,E.φ (E.β b) k=0)/\
  ∃cs el,w.heap[E.β b]?=some (.cells cs el (0,0))/\cap*(T e).length<=cs.size
def EL (E:Env) (u:Value):Prop:=∀b off l c,u= .slice (some ⟨b,off,none⟩) l c->E.fo=(b,off)
def sm (φ:anh) (w:World) (b off:Nat):Prop:=
 off%20=0/\off+9<φ b 4313088/\∃v,w.cell? ⟨b,off+9,none⟩=some v/\wi v
def RX (E:Env) (w:World) (V:Vw):X->Value->Prop
 | .aD,u=>u.oneCell'=true
 | .c v,u=>aG T E.φ w v u
 | .own e g n rows,u=>aG T E.φ w (.sl e rows) u/\n<=V.gen g/\(n=V.gen g->uj T E w e g u)/\(e=1053->g=6053->EL E u)
 | .bc,u=>u= .slice none 0 0
 | .hH,u=>u= .pointer none
 | .fV f,u=>u= .func (.func f) #[] #[]
 | .ptr b off,u=>V.hs b=true/\E.κ (E.β b)= .box/\E.β b<w.heap.size/\u= .pointer (some ⟨E.β b,E.ο b+off,none⟩)
 | .cd b off,u=>V.hs b=true/\u= .pointer (some ⟨E.β b,E.ο b+off,none⟩)
 | .bz e rows i off,u=>∃b o,At T E.φ w e rows b o/\i<rows.length/\u= .pointer (some ⟨b,o+i*(T e).length+off,none⟩)/\(e=1053->E.fo=(b,o))
 | .dn k,u=>u.oneCell'=true/\(0<=k/\k<=cM)/\∀j:Nat,(j:Int)<k->sm E.φ w E.fo.1 (E.fo.2+j*20)
 | .cn e b rows,u=>V.hs b=true/\Z4 T E w e b rows u
 | .cq e b n,u=>(n=0/\aG T E.φ w (.sl e []) u/\∃base,u= .slice base 0 0)\/V.hs b=true/\Z5 T E w e b n u
def bF (E:Env) (w:World) (V:Vw) (l:List X) (us:ana):Prop:=
 us.length=l.length/\∀(j:Nat) x u,l[j]?=some x->us[j]?=some u->RX T E w V x u
def RP (E:Env) (w:World) (V:Vw) (p:Bool×List X) (u:Value):Prop:=
 match p with
 |(true,l)=>∃cs,u= .agg cs/\bF T E w V l cs.toList
 |(false,[x])=>RX T E w V x u
 |_=>True
def RS (E:Env) (w:World) (V:Vw):S->Value->Prop
 | .one .aD,_=>True
 | .one x,u=>RX T E w V x u
 | .agg l,u=>∃cs,u= .agg cs/\bF T E w V l cs.toList
 | .bj l,u=>∃vs,u= .tuple vs/\vs.size=l.length/\∀(j:Nat) p v,l[j]?=some p->vs[j]?=some v->RP T E w V p v
def By (E:Env) (w:World) (V:Vw) (id:Nat) (l:List X):Prop:=
 l≠[]->(E.κ (E.β id)).kN=true/\(∀k,E.φ (E.β id) k<=E.ο id)/\∃cs el,w.heap[E.β id]?=some (.cells cs el (0,0))/\E.ο id+l.length<=cs.size/\
  bF T E w V l ((cs.toList.drop (E.ο id)).take l.length)
structure Cx where
 φ:Nat->Nat->Nat
 κ:Nat->gB
 w:World
 β:Nat->Nat
 ο:Nat->Nat
 nt:Nat
 fo:Nat×Nat
def Wr (φ:anh) (b:Nat):Prop:=∃k,bY (k/4096)=true/\0<φ b k
structure Ext (cx:Cx) (E:Env) (w:World):Prop where
 os:w.os=cx.w.os
 tape:w.tape=cx.w.tape
 output:w.output=cx.w.output
 fo:E.fo=cx.fo
 mono:dQ cx.φ cx.w E.φ w
 dB:∀b,b<cx.w.heap.size->cx.κ b= .dB->(¬Wr cx.φ b->w.heap[b]?=cx.w.heap[b]?)/\E.φ b=cx.φ b/\E.κ b= .dB
 fresh:∀b,w.heap.size<=b->∀e,E.φ b e=0
structure HI (E:Env) (w:World):Prop where
 zero:∀b k,bY (k/4096)=true->0<E.φ b k->k%4096=0/\(∀k',k'≠k->E.φ b k'=0)/\(E.κ b).kN=false/\∃cs el,w.heap[b]?=some (.cells cs el (0,0))
 rows:∀b e n gs s m i,bY e=true->dh (base e)=some (n,gs)->(s,m)∈gs->(i+1)*n<=E.φ b (e*4096)->
  ∃r:amS,r.map C.kd=((T (base e)).drop s).take m/\T.G e s r/\∀(j:Nat) c,r[j]?=some c->∃v,w.cell? ⟨b,i*n+s+j,none⟩=some v/\aG T E.φ w c v
structure aM (cx:Cx) (E:Env) (st:St) (a:Act) (w:World):Prop where
 len:a.tmps.size=st.aq.length
 aq:∀(i:Nat) s u,st.aq[i]?=some s->a.tmps[i]?=some u->RS T E w st.vw s u
 boxes:∀(id:Nat) l,st.boxes[id]?=some (some l)->By T E w st.vw id l
 inj:∀(id dt:Nat) l l',st.boxes[id]?=some (some l)->st.boxes[dt]?=some (some l')->l≠[]->l'≠[]->E.β id=E.β dt->id=dt
 defers:a.defers=[]
 ext:Ext cx E w
 fix:st.aq.length=cx.nt/\(∀id,cx.nt<=id->E.β id=cx.β id/\E.ο id=cx.ο id)/\∀(id:Nat) l,cx.nt<=id->st.boxes[id]?=some (some l)->l≠[]->E.κ (E.β id)=cx.κ (cx.β id)/\E.φ (E.β id)=cx.φ (cx.β id)
 oI:∀(id:Nat) l,id<cx.nt->st.boxes[id]?=some (some l)->l≠[]->E.κ (E.β id)= .box->cx.w.heap.size<=E.β id
 hi:HI T E w
 so:∀b g,b<cx.w.heap.size->cx.κ b= .row g->5000<=g->E.κ b= .row g/\E.φ b=cx.φ b
def Rel (cx:Cx) (st:St) (a:Act) (w:World):Prop:=∃E,aM T cx E st a w
variable {T}
def gM (cs:ane):Nat->List Value->Array Value
 |_,[]=>cs
 |o,v::r=>gM (cs.setIfInBounds o v) (o+1) r
theorem oJ:∀(vs:ana) (o:Nat) (cs:ane),(gM cs o vs).size=cs.size
 |[],_,_=>rfl
 |v::r,o,cs=>by simp[gM,oJ r]
theorem oK:∀(vs:ana) (o:Nat) (cs:ane) (j:Nat),(j<o\/o+vs.length<=j)->(gM cs o vs)[j]?=cs[j]?
 |[],_,_,_,_=>rfl
 |v::r,o,cs,j,h=>by simp only[gM];rw[oK r (o+1) _ j (by grind)];grind
theorem sr:∀(vs:ana) (o:Nat) (cs:ane) (j:Nat),o+vs.length<=cs.size->j<vs.length->(gM cs o vs)[o+j]?=vs[j]?
 |[],_,_,_,_,h=>by grind
 |v::r,o,cs,0,h,_=>by simp only[gM,eH]at*;rw[oK r (o+1) _ (o+0) (by omega)];grind
 |v::r,o,cs,j+1,h,hj=>by simp only[gM,eH]at*;have:=sr r (o+1) (cs.setIfInBounds o v) j (by grind) (by omega);grind
theorem heap_setCell (w:World) (b o:Nat) (v:Value) {cs:ane} {el:TypeId} {fr:Nat×Nat} (h:w.heap[b]?=some (.cells cs el fr)):
 (w.setCell ⟨b,o,none⟩ v).heap[b]?=some (.cells (cs.setIfInBounds o v) el fr):=by
 simp[World.setCell,alz,h]
theorem Z6 (w:World) (b o b':Nat) (v:Value) (h:b'≠b):(w.setCell ⟨b,o,none⟩ v).heap[b']?=w.heap[b']?:=by simp[World.setCell,alz,h.symm]
theorem qR (b:Nat):∀(vs:ana) (o:Nat) (w:World) {cs:ane} {el:TypeId} {fr:Nat×Nat},w.heap[b]?=some (.cells cs el fr)->
 (w.setCells b o vs).heap[b]?=some (.cells (gM cs o vs) el fr)
 |[],_,_,_,_,_,h=>h
 |v::r,o,w,_,_,_,h=>qR b r (o+1) _ (heap_setCell w b o v h)
theorem jU (b b':Nat) (hb:b'≠b):∀(vs:ana) (o:Nat) (w:World),(w.setCells b o vs).heap[b']?=w.heap[b']?
 |[],_,_=>rfl
 |v::r,o,w=>by show((w.setCell ⟨b,o,none⟩ v).setCells b (o+1) r).heap[b']?=_;rw[jU b b' hb r,Z6 w b o b' v hb]
theorem su (b:Nat):∀(vs:ana) (o:Nat) (w:World),(w.setCells b o vs).heap.size=w.heap.size
 |[],_,_=>rfl
 |v::r,o,w=>by show((w.setCell ⟨b,o,none⟩ v).setCells b (o+1) r).heap.size=_;rw[su b r];simp_all
theorem Bz (b:Nat):∀(vs:ana) (o:Nat) (w:World),(w.setCells b o vs).os=w.os/\(w.setCells b o vs).tape=w.tape/\(w.setCells b o vs).output=w.output
 |[],_,_=>⟨rfl,rfl,rfl⟩
 |v::r,o,w=>Bz b r (o+1) (w.setCell ⟨b,o,none⟩ v)
theorem heap_alloc_old (w:World) (o:Obj) {b:Nat} (h:b<w.heap.size):(w.alloc o).heap[b]?=w.heap[b]?:=by show(w.heap.push o)[b]?=_;grind
theorem heap_alloc_new (w:World) (o:Obj):(w.alloc o).heap[w.heap.size]?=some o:=by show(w.heap.push o)[w.heap.size]?=_;simp
theorem ko {w:World} {b:Nat} {o:Obj} (h:w.heap[b]?=some o):b<w.heap.size:=by
 grind
structure gC (E:Env) (w:World) (V:Vw) (E':Env) (w':World) (V':Vw):Prop where
 mono:dQ E.φ w E'.φ w'
 ptr:∀b,V.hs b=true->V'.hs b=true/\E'.β b=E.β b/\E'.ο b=E.ο b/\(E.β b<w.heap.size->E'.φ (E.β b)=E.φ (E.β b)/\E'.κ (E.β b)=E.κ (E.β b))
 gen:∀g,V.gen g<=V'.gen g
 rows:∀b g,b<w.heap.size->E.κ b= .row g->V'.gen g=V.gen g->E'.κ b= .row g/\E'.φ b=E.φ b
 fo:E'.fo=E.fo
theorem World.Z7 {w:World} {b i:Nat} {v:Value} (h:w.cell? ⟨b,i,none⟩=some v):∃cs el fr,w.heap[b]?=some (.cells cs el fr)/\cs[i]?=some v:=by
 unfold World.cell? at h;grind
theorem sm.mono {φ ly:anh} {w w':World} (m:dQ φ w ly w') {b off:Nat} (h:sm φ w b off):sm ly w' b off:=by
 obtain⟨h0,h1,v,h2,h3⟩:=h;obtain⟨cs,el,fr,hb,hv⟩:=World.Z7 h2;obtain⟨bU,k1,_,k3⟩:=m.bo b cs el fr hb;refine⟨h0,dO h1 (m.le b _),?_⟩;rcases k3 4313088 (off+9) h1 with g|⟨_,v',g,_,gz⟩
 ·exact⟨v,by simp only[World.cell?,k1];grind,h3⟩
 ·have h9:(off+9)%20=9:=by omega
  exact⟨v',by simp only[World.cell?,k1];exact g,gz (by simp only[Bu,h9];rfl) v hv h3⟩
theorem uj.bo {E E':Env} {w w':World} {V V':Vw} (k:gC E w V E' w' V') {e g:Nat} (hg:V'.gen g=V.gen g) {u:Value}
 (h:uj T E w e g u):uj T E' w' e g u:=by
 rcases h with h|⟨b,off,len,cap,rfl,h⟩
 ·exact .inl h
 ·refine .inr ⟨b,off,len,cap,rfl,?_⟩;rcases h with h|⟨h1,h5,h2,h4,cs,el,h3⟩
  ·omega
  ·obtain⟨k1,k2⟩:=k.rows b g (ko h3) h1 hg;obtain⟨bU,k3,_,_⟩:=k.mono.bo b cs el (0,0) h3;simp_all
theorem At.mono {φ ly:anh} {w w':World} (m:dQ φ w ly w') {e:Nat} {rows:Y9} {b o:Nat} (h:At T φ w e rows b o):At T ly w' e rows b o:=by obtain⟨cap,h⟩:=h;exact⟨cap,h.mono m⟩
theorem RX.bo {E E':Env} {w w':World} {V V':Vw} (k:gC E w V E' w' V') {x:X} {u:Value} (h:RX T E w V x u):RX T E' w' V' x u:=by
 cases x with
 |aD=>exact h
 |c v=>exact aG.mono k.mono h
 |own e g n rows=>obtain⟨h1,h2,h3,h4⟩:=h;have hg:=k.gen g;exact⟨aG.mono k.mono h1,by omega,λhn=>uj.bo k (by omega) (h3 (by omega)),λhe hg b off l c hu=>by rw[k.fo];exact h4 he hg b off l c hu⟩
 |bc=>exact h
 |hH=>exact h
 |fV f=>exact h
 |ptr b off=>obtain⟨h1,h2,h3,rfl⟩:=h;obtain⟨k1,k2,k3,k4⟩:=k.ptr b h1;exact⟨k1,by grind,by rw[k2];exact dO h3 k.mono.size,by grind⟩
 |cd b off=>obtain⟨h1,rfl⟩:=h;obtain⟨k1,k2,k3,_⟩:=k.ptr b h1;exact⟨k1,by grind⟩
 |bz e rows i off=>obtain⟨b,o,h1,h2,rfl,h3⟩:=h;exact⟨b,o,h1.mono k.mono,h2,rfl,λhe=>by rw[k.fo];grind⟩
 |dn k'=>obtain⟨h1,h3,h2⟩:=h;exact⟨h1,h3,λj hj=>by rw[k.fo];exact(h2 j hj).mono k.mono⟩
 |cn e b rows=>obtain⟨h1,off,cap,rfl,c1,c2,c3,c9,c4,c5,c6,cs,el,c7,c8⟩:=h;obtain⟨k1,k2,k3,k4⟩:=k.ptr b h1;have k4:=(k4 (ko c7)).1;obtain⟨bU,d1,d2,_⟩:=k.mono.bo _ cs el (0,0) c7;refine⟨k1,off,cap,by rw[k2],c1,c2,by omega,c9,by grind,by simp_all,by rw[k2];exact c6.mono k.mono,bU,el,by grind,by omega⟩
 |cq e b n=>
  rcases h with⟨h0,h1,h2⟩|⟨h1,c0,cap,rfl,c1,c2,c3,cs,el,c4,c5⟩
  ·exact .inl ⟨h0,h1.mono k.mono,h2⟩
  ·obtain⟨k1,k2,k3,k4⟩:=k.ptr b h1;have k4:=(k4 (ko c4)).1;obtain⟨bU,d1,d2,_⟩:=k.mono.bo _ cs el (0,0) c4;exact .inr ⟨k1,by omega,cap,by rw[k2],c1,c2,by simp_all,bU,el,by grind,by omega⟩
theorem bF.bo {E E':Env} {w w':World} {V V':Vw} (k:gC E w V E' w' V') {l:List X} {us:ana} (h:bF T E w V l us):bF T E' w' V' l us:=
 ⟨h.1,λj x u hx hu=>RX.bo k (h.2 j x u hx hu)⟩
theorem RP.bo {E E':Env} {w w':World} {V V':Vw} (k:gC E w V E' w' V') {p:Bool×List X} {u:Value} (h:RP T E w V p u):RP T E' w' V' p u:=by
 obtain⟨t,l⟩:=p;cases t with
 |true=>obtain⟨cs,rfl,h⟩:=h;exact⟨cs,rfl,bF.bo k h⟩
 |false=>
  cases l with
  |nil=>trivial
  |cons x r=>
   cases r with
   |nil=>exact RX.bo k h
   |cons y r=>trivial
theorem RS.gN {E:Env} {w:World} {V:Vw} {x:X} {u:Value} (h:RX T E w V x u):RS T E w V (.one x) u:=by cases x<;>first|trivial|exact h
theorem RS.one {E:Env} {w:World} {V:Vw} {x:X} {u:Value} (hx:x≠ .aD) (h:RS T E w V (.one x) u):RX T E w V x u:=by cases x<;>first|exact absurd rfl hx|exact h
theorem HI.step {E E':Env} {w w':World} (h:HI T E w) (m:dQ E.φ w E'.φ w')
 (hb:∀b k,bY (k/4096)=true->0<E'.φ b k->0<E.φ b k/\E'.φ b=E.φ b/\(E'.κ b).kN=(E.κ b).kN/\w'.heap[b]?=w.heap[b]?):HI T E' w':=by
 refine⟨λb k hk hp=>?_,λb e n gs s m' i he hl hg hi=>?_⟩
 ·obtain⟨h1,h2,h3,h4⟩:=hb b k hk hp;obtain⟨g1,g2,g3,g4⟩:=h.zero b k hk h1;simp_all
 ·have hz:n≠0:=by rintro rfl;unfold dh at hl;split at hl<;>simp at hl
  have hp:0<E'.φ b (e*4096):=dO (tZ (vZ _) (sg hz)) hi;obtain⟨_,h2,_,h4⟩:=hb b (e*4096) (by grind) hp;obtain⟨r,r1,r2,r3⟩:=h.rows b e n gs s m' i he hl hg (by grind);refine⟨r,r1,r2,λj c hj=>?_⟩;obtain⟨v,v1,v2⟩:=r3 j c hj;exact⟨v,by simpa[World.cell?,h4]using v1,v2.mono m⟩
theorem aM.EM {cx:Cx} {E E':Env} {w w':World} {st:St} {a:Act} {V':Vw} (h:aM T cx E st a w) (k:gC E w st.vw E' w' V') (qS:∀g,5000<=g->V'.gen g=st.gen g) (b g:Nat) (hb:b<cx.w.heap.size) (hg:cx.κ b= .row g)
 (h0:5000<=g):E'.κ b= .row g/\E'.φ b=cx.φ b:=by
 obtain⟨h1,h2⟩:=h.so b g hb hg h0;obtain⟨g1,g2⟩:=k.rows b g (dO hb h.ext.mono.size) h1 (qS g h0);grind
theorem RS.bo {E E':Env} {w w':World} {V V':Vw} (k:gC E w V E' w' V') {s:S} {u:Value} (h:RS T E w V s u):RS T E' w' V' s u:=by
 cases s with
 |one x=>
  cases x with
  |aD=>trivial
  |_=>exact RS.gN (RX.bo k h)
 |agg l=>obtain⟨cs,rfl,h⟩:=h;exact⟨cs,rfl,bF.bo k h⟩
 |bj l=>obtain⟨vs,rfl,h1,h2⟩:=h;exact⟨vs,rfl,h1,λj p v hp hv=>RP.bo k (h2 j p v hp hv)⟩
abbrev amT:=List X
abbrev amX:=St->Prop
abbrev amZ:=List S
abbrev anb:=List (List X)
abbrev anj:=List (Option (List X))
abbrev anl:=List (Nat×S)
abbrev anx:=List (Bool×List X)
end Go.Pv
namespace Go.Pv
open Go
def zeroV:Kd->Value
 | .int k=> .int k 0
 | .bool=> .bool false
 | .str=> .string ByteArray.empty
 | .sl _=> .slice none 0 0
 | .ptr=> .pointer none
 | .any=> .bool false
def mS:Kd->X
 | .int k=> .c (.int k 0)
 | .bool=> .c (.bool false)
 | .str=> .c (.str ByteArray.empty)
 | .sl _=> .bc
 | .ptr=> .hH
 | .any=> .c .any
def mT:TypeDesc->Bool
 | .struct _| .array _ _=>true
 |_=>false
def pD (r:amS):Prop:=∃k n,r[0]?=some (.int k n)/\n≠0
structure cr (P:Program) (T:ay):Prop where
 row:∀e,T e≠[]->∃i z d,P.info? (base e)=some i/\P.underlying (base e)=some d/\i.size=(T e).length/\i.zero=some z/\
  z.cells.toList=(T (base e)).map zeroV/\0<i.bytes/\i.bytes<=1024/\(mT d=false->(T e).length=1)/\(mT d=true->∃cs,z= .agg cs)
 fields:∀e fs,e<1000->T e≠[]->P.underlying e=some (.struct fs)->∀f∈fs.toList,T f.type≠[]/\f.type<1000
 low:∀e,T e≠[]->T (base e)≠[]/\(T (base e)).length=(T e).length
 cell:∀e j off i:Nat,j<(T e).length->(T e)[j]?≠some .any->mP (key T e off) (off+i*(T e).length+j)=false
 exact:∀e,e<1000->Kd.any∉T e
 short:∀e,(T e).length<=4096
 wk:∀e,pC T 3 e=true
 done:T 1553=T 1053
 Z8:∀s r,T.G 1053 s r->(s=9->pD r)->T.G 1553 s r
 nine:∃k,(T 53)[9]?=some (.int k)
 zero:∀(e j:Nat) k k',(T e)[j]?=some k->(T (base e))[j]?=some k'->k≠ .any->zeroV k=zeroV k'
 whole:∀e,1000<=e->T e≠[]->(Kd.any∈T e\/bY e=true)->∃gs,dh (base e)=some ((T e).length,gs)/\(∀s m,(s,m)∈gs->s+m<=(T e).length)/\
  ∀j:Nat,(T e)[j]?=some .any↔∃s m,(s,m)∈gs/\s<=j/\j<s+m
theorem Jv {e:Nat} (h:e<1000):base e=e:=by rw[wh (by omega)];omega
theorem cr.hl {P:Program} {T:ay} (h:cr P T) {e:Nat} (off i j:Nat) (hj:j<(T e).length) (ha:(T e)[j]?≠some .any\/(2000<=e/\e+1000≠e)):
 mP (kk T e e off) (off+i*(T e).length+j)=false:=by
 rcases ha with ha|⟨ha,_⟩
 ·exact h.cell e j off i hj ha
 ·have h1:kk T e e off/4096=e:=by have:off%(T e).length<4096:=dO (mI _ (by omega)) (h.short e);unfold kk;omega
  have h2:bY e=false:=by simp[bY];omega
  simp[mP,h1,h2]
theorem cr.uk {P:Program} {T:ay} (h:cr P T) {e:Nat} (he:e<1000) (al:T e≠[]):∃i z d,P.info? e=some i/\P.underlying e=some d/\i.size=(T e).length/\i.zero=some z/\
 z.cells.toList=(T e).map zeroV/\0<i.bytes/\i.bytes<=1024/\(mT d=false->(T e).length=1)/\(mT d=true->∃cs,z= .agg cs):=by
 have:=h.row e al;rwa[Jv he]at this
def lZ:Value->S
 | .int k n=>if k.min<=n/\n<=k.max then .one (.c (.int k n))else .one .aD
 | .bool b=> .one (.c (.bool b))
 | .string s=>if s.size<=hC then .one (.c (.str s))else .one .aD
 | .slice none 0 0=> .one .bc
 | .pointer none=> .one .hH
 |_=> .one .aD
def ofConst:Value->S
 | .agg cs=>if cs.toList.all Value.oneCell'=true then .agg (cs.toList.map λv=>match lZ v with| .one x=>x|_=> .aD)else .one .aD
 |v=>lZ v
def St.get (st:St) (t:Nat):S:=st.aq.getD t (.one .aD)
def ev (st:St):Operand->S
 | .tmp t=>st.get t
 | .const v=>ofConst v
 | .func f=> .one (.fV f)
 |_=> .one .aD
def St.put (st:St) (d:amR) (s:S):St:=
 match d with
 |some d=>{st with aq:=st.aq.set d s}
 |none=>st
inductive R where
 |bad
 |v (s:S)
 |ck (side:Prop) (s:S)
 |fk (fact:Prop) (s:S)
def R.holds (r:R) (G:S->Prop):Prop:=
 match r with
 | .bad=>True
 | .v s=>G s
 | .ck side s=>side->G s
 | .fk fact s=>fact/\G s
def fm (a b:ByteArray):Bool:=a.toList==b.toList
def strLt (a b:ByteArray):Bool:=Op.bytesLess a.toList b.toList
def yM (op:BinOp) (k:IntKind) (a b:Int):R:=
 match op with
 | .add=> .v (.one (.c (.int k (k.wrap (a+b)))))
 | .sub=> .v (.one (.c (.int k (k.wrap (a-b)))))
 | .mul=> .v (.one (.c (.int k (k.wrap (a*b)))))
 | .quo=> .ck (b≠0) (.one (.c (.int k (k.wrap (a.tdiv b)))))
 | .eql=> .v (.one (.c (.bool (a==b))))
 | .neq=> .v (.one (.c (.bool (a !=b))))
 | .lss=> .v (.one (.c (.bool (decide (a<b)))))
 | .leq=> .v (.one (.c (.bool (decide (a<=b)))))
 | .gtr=> .v (.one (.c (.bool (decide (a>b)))))
 | .geq=> .v (.one (.c (.bool (decide (a>=b)))))
 |_=> .bad
def BA (k:IntKind) (a b:Int):R:= .ck (b≠0/\iA k (a.tmod b)) (.one (.c (.int k (a.tmod b))))
def yN (op:BinOp) (a b:ByteArray):R:=
 match op with
 | .add=> .ck (a.size+b.size<=hC) (.one (.c (.str (a++b))))
 | .eql=> .v (.one (.c (.bool (fm a b))))
 | .neq=> .v (.one (.c (.bool !(fm a b))))
 | .lss=> .v (.one (.c (.bool (strLt a b))))
 | .leq=> .v (.one (.c (.bool (strLt a b||fm a b))))
 | .gtr=> .v (.one (.c (.bool !(strLt a b||fm a b))))
 | .geq=> .v (.one (.c (.bool !(strLt a b))))
 |_=> .bad
def EN (P:Program):Nat->List Field->Option (List Bool)
 |_,[]=>some []
 |i,f::fs=>if f.name= "_" \/f.offset≠i then none else
  (match P.underlying f.type,EN P (i+1) fs with
  |some (.int _),some l=>some (true::l)
  |some .string,some l=>some (false::l)
  |_,_=>none)
def BB (P:Program) (t:Nat):Option (List Bool):=
 bif P.stoodInHeld t||P.eqGuardType P.depth t then none else
 match P.underlying t with
 |some (.struct fs)=>EN P 0 fs.toList
 |_=>none
def pE:List Bool->List X->List X->Option Bool
 |[],[],[]=>some true
 |true::ks, .c (.int k a)::r, .c (.int k' b)::r'=>if k=k' then(match pE ks r r' with|some c=>some (a==b&&c)|none=>none)else none
 |false::ks, .c (.str a)::r, .c (.str b)::r'=>(match pE ks r r' with|some c=>some (fm a b&&c)|none=>none)
 |_,_,_=>none
def pF (P:Program) (op:BinOp) (t:Nat) (x y:S):R:=
 match x,y with
 | .one (.c (.int ka a)), .one (.c (.int kb b))=>if ka=kb then(match op with| .rem=>BA ka a b|_=>yM op ka a b)else .bad
 | .one (.c (.str a)), .one (.c (.str b))=>yN op a b
 | .one (.c (.bool a)), .one (.c (.bool b))=>
  match P.underlying t with
  |some .bool=>
   (match op with
   | .eql=> .v (.one (.c (.bool (a==b))))
   | .neq=> .v (.one (.c (.bool !(a==b))))
   |_=> .bad)
  |_=> .bad
 | .agg xs, .agg ys=>
  (match BB P t with
  |some ks=>
   (match pE ks xs ys with
   |some b=>(match op with| .eql=> .v (.one (.c (.bool b)))| .neq=> .v (.one (.c (.bool !b)))|_=> .bad)
   |none=> .bad)
  |none=> .bad)
 |_,_=> .bad
def wj (op:UnOp) (x:S):R:=
 match op,x with
 | .not, .one (.c (.bool b))=> .v (.one (.c (.bool !b)))
 | .neg, .one (.c (.int k n))=> .v (.one (.c (.int k (k.wrap (0-n)))))
 |_,_=> .bad
def rowsOf:S->Option (Nat×List (List C))
 | .one (.c (.sl e rows))=>some (e,rows)
 | .one (.own e _ _ rows)=>some (e,rows)
 |_=>none
def bytesOf (rows:Y9):ByteArray:=(rows.map λr=>cD (r.getD 0 default)).foldl (λs n=>s.push (UInt8.ofNat n.toNat)) ByteArray.empty
def sv (P:Program) (T:ay) (src dst:Nat) (x:S):R:=
 match x with
 | .one (.c (.int _ n))=>
  match P.underlying src,P.underlying dst with
  |some _,some (.int k)=> .v (.one (.c (.int k (k.wrap n))))
  |_,_=> .bad
 |x=>
  match rowsOf x,P.underlying src,P.underlying dst with
  |some (e,rows),some (.slice e'),some .string=>
   (match P.underlying e' with
   |some (.int .u8)=>if e'=e/\T e=[.int .u8]then .v (.one (.c (.str (bytesOf rows))))else .bad
   |_=> .bad)
  |_,_,_=> .bad
def um (P:Program) (t:Nat) (x:S):R:=
 match P.underlying t,x with
 |some .string, .one (.c (.str s))=> .fk (s.size<=hC) (.one (.c (.int .i64 s.size)))
 |some (.slice _), .one .bc=> .v (.one (.c (.int .i64 0)))
 |some (.slice _),x=>
  (match rowsOf x,x with
  |some (_,rows),_=> .fk (rows.length<=cM) (.one (.c (.int .i64 rows.length)))
  |none, .one (.cn _ _ rows)=> .fk (rows.length+1<=cM) (.one (.c (.int .i64 (rows.length+1))))
  |none, .one (.cq _ _ n)=> .fk (n<=cM) (.one (.c (.int .i64 n)))
  |_,_=> .bad)
 |_,_=> .bad
def uo (x y:S):R:=
 match x,y with
 | .one (.c (.int k a)), .one (.c (.int l b))=>if k=l then .v (.one (.c (.int k (if b>a then b else a))))else .bad
 |_,_=> .bad
def uq (x y:S):R:=
 match x,y with
 | .one (.c (.int k a)), .one (.c (.int l b))=>if k=l then .v (.one (.c (.int k (if b<a then b else a))))else .bad
 |_,_=> .bad
def wm (x:S):R:=
 match x with
 | .one (.ptr b off)=> .v (.one (.ptr b off))
 | .one (.cd b off)=> .v (.one (.cd b off))
 | .one (.bz e rows i off)=> .v (.one (.bz e rows i off))
 |_=> .bad
def wo (T:ay) (t:Nat):Bool:=(T t).isEmpty||!Nat.blt t 1000
theorem Jw {T:ay} {t:Nat} (h:wo T t=false):T t≠[]/\t<1000:=by simp only[wo,Jj,Jk]at h;simp_all
def ur (P:Program) (T:ay) (s f:Nat):Option (Nat×Nat):=
 match P.underlying s with
 |some (.struct fields)=>
  (match fields[f]?with
  |some fd=>if wo T fd.type then none else some (fd.offset,fd.type)
  |none=>none)
 |_=>none
def uu (P:Program) (T:ay) (s:Nat) (x:S) (f:Nat):R:=
 match ur P T s f with
 |some (o,_)=>
  (match x with
  | .one (.cd b off)=> .v (.one (.cd b (off+o)))
  | .one (.ptr b off)=> .v (.one (.ptr b (off+o)))
  | .one (.bz e rows i off)=> .v (.one (.bz e rows i (off+o)))
  |_=> .bad)
 |none=> .bad
def EO (P:Program) (t:Nat):Option TypeDesc:=if t<1000 then P.underlying t else none
theorem EP {P:Program} {t:Nat} {d:TypeDesc} (h:EO P t=some d):P.underlying t=some d/\t<1000:=by
 unfold EO at h;grind
def kq (P:Program) (t:Nat):Option Bool:=
 match EO P t with
 |some d=>some (mT d)
 |none=>none
theorem ER {P:Program} {t:Nat} {b:Bool} (ha:kq P t=some b):t<1000:=by
 unfold kq at ha;split at ha
 ·rename_i d hd;exact(EP hd).2
 grind
theorem Jx {P:Program} {t:Nat} {b:Bool} (ha:kq P t=some b) {d:TypeDesc} (hd:P.underlying t=some d):mT d=b:=by have:=ER ha;simpa[kq,EO,this,hd]using ha
def ES (e:Nat) (x:S):Bool:=!Nat.beq e 1053||(match x with| .one (.own e' g _ _)=>Nat.beq e' 1053&&Nat.beq g 6053|_=>false)
def nG (P:Program) (T:ay) (t:Nat) (x i:S):R:=
 match P.underlying t,i,rowsOf x,x with
 |some (.slice e'), .one (.c (.int _ n)),some (e,rows),_=>
  if e'=base e/\(T e).isEmpty=false/\ES e x=true then .ck (0<=n/\n<rows.length) (.one (.bz e rows n.toNat 0))else .bad
 |some (.slice e'), .one (.c (.int _ n)),none, .one (.cn e b rows)=>
  if e'=base e/\(T e).isEmpty=false then .ck (n=rows.length) (.one (.cd b 0))else .bad
 |some (.slice e'), .one (.c (.int _ n)),none, .one (.cq e b m)=>
  if e'=base e/\(T e).isEmpty=false then .ck (0<=n/\n<m) (.one (.cd b (n.toNat*(T e).length)))else .bad
 |_,_,_,_=> .bad
def bd (s:ByteArray) (i:Nat):Nat:=((s[i]?).getD 0).toNat
def sw (P:Program) (t:Nat) (x i:S):R:=
 match P.underlying t,x,i with
 |some .string, .one (.c (.str s)), .one (.c (.int _ n))=> .ck (0<=n/\n<s.size) (.one (.c (.int .u8 (bd s n.toNat))))
 |_,_,_=> .bad
def uv:Option S->Option Int
 |none=>some 0
 |some (.one (.c (.int _ n)))=>some n
 |_=>none
def uw (len:Nat):Option S->Option Int
 |none=>some len
 |some (.one (.c (.int _ n)))=>some n
 |_=>none
def qT (P:Program) (T:ay) (t:Nat) (x:S) (lo hi mx:Option S):R:=
 match mx,P.underlying t,x with
 |none,some .string, .one (.c (.str s))=>
  (match uv lo,uw s.size hi with
  |some l,some h=> .ck (0<=l/\l<=h/\h<=s.size) (.one (.c (.str (s.extract l.toNat h.toNat))))
  |_,_=> .bad)
 |none,some (.slice e'),x=>
  (match rowsOf x with
  |some (e,rows)=>
   (match uv lo,uw rows.length hi with
   |some l,some h=>if e'=base e/\(T e).isEmpty=false then .ck (0<=l/\l<=h/\h<=rows.length) (.one (.c (.sl e ((rows.drop l.toNat).take (h.toNat-l.toNat)))))else .bad
   |_,_=> .bad)
  |none=> .bad)
 |_,_,_=> .bad
def sA (x:S) (j:Nat):R:=
 match x with
 | .bj l=>
  (match l[j]?with
  |some (true,l)=> .v (.agg l)
  |some (false,[x])=> .v (.one x)
  |_=> .bad)
 |_=> .bad
def cellAt (rows:Y9) (i j:Nat):C:=(rows.getD i []).getD j default
def fC (rows:Y9) (i:Nat):Nat->List Kd->List X
 |_,[]=>[]
 |j,k::ks=> .c (lY k (cellAt rows i j))::fC rows i (j+1) ks
def R.oL:X->R
 | .aD=> .bad
 | .c (.int k n)=> .fk (iA k n) (.one (.c (.int k n)))
 |x=> .v (.one x)
def cR (ks:amQ):Bool:=ks.all λk=>match k with| .ptr=>false|_=>true
def X.ids:X->List Nat
 | .ptr b _=>[b]
 | .cd b _=>[b]
 | .cn _ b _=>[b]
 | .cq _ b _=>[b]
 |_=>[]
def wq (_:amQ) (_:amT):Bool:=true
def S.bp:S->Option (Nat×Nat)
 | .one (.ptr b off)=>some (b,off)
 | .one (.cd b off)=>some (b,off)
 |_=>none
def dU (P:Program) (T:ay) (st:St) (t:Nat) (a:S):R:=
 match kq P t,a.bp,a with
 |some true,some (b,off),_=>
  (match st.boxes[b]?with
  |some (some l)=>if off+(T t).length<=l.length/\(T t).isEmpty=false/\wq (T t) ((l.drop off).take (T t).length)=true then .v (.agg ((l.drop off).take (T t).length))else .bad
  |_=> .bad)
 |some false,some (b,off),_=>
  (match st.boxes[b]?with
  |some (some l)=>(match l[off]?with|some x=>if wq (T t) [x]=true then R.oL x else .bad|none=> .bad)
  |_=> .bad)
 |some true,none, .one (.bz e rows i off)=>
  if((T e).drop off).take (T t).length=T t/\(T t).isEmpty=false/\cR (T t)=true then .v (.agg (fC rows i off (T t)))else .bad
 |some false,none, .one (.bz e rows i off)=>
  (match(T e)[off]?with
  |some k=>if cR [k]then R.oL (.c (lY k (cellAt rows i off)))else .bad
  |none=> .bad)
 |_,_,_=> .bad
def gD (l:amT) (o:Nat):List X->List X
 |[]=>l
 |x::r=>gD (l.set o x) (o+1) r
def S.cells:S->Option (List X)
 | .one .aD=>none
 | .one x=>some [x]
 | .agg l=>some l
 | .bj _=>none
def nH (P:Program) (T:ay) (t:Nat):List (Nat×S)->List X->Option (List X)
 |[],acc=>some acc
 |(f,s)::rest,acc=>
  match ur P T t f,s.cells with
  |some (o,ft),some l=>if l.length=(T ft).length/\o+l.length<=acc.length then nH P T t rest (gD acc o l)else none
  |_,_=>none
def ux (P:Program) (T:ay) (t:Nat) (parts:anl):R:=
 if wo T t then .bad else
 match P.underlying t,nH P T t parts ((T t).map mS)with
 |some (.struct _),some l=> .v (.agg l)
 |_,_=> .bad
def uy (P:Program) (st:St) (c:Call):R:=
 match c.callee with
 | .builtin .len=>
  (match c.args.toList,c.argTypes.toList with
  |[x],[t]=>um P t (ev st x)
  |_,_=> .bad)
 | .builtin .max=>
  (match c.args.toList with
  |[x,y]=>uo (ev st x) (ev st y)
  |_=> .bad)
 | .builtin .min=>
  (match c.args.toList with
  |[x,y]=>uq (ev st x) (ev st y)
  |_=> .bad)
 |_=> .bad
def fW (P:Program) (T:ay) (st:St) (op:Op):R:=
 match op with
 | .move x| .assign x=> .v (ev st x)
 | .binOp op t x y _=>pF P op t (ev st x) (ev st y)
 | .unOp op _ x=>wj op (ev st x)
 | .convert s d x=>sv P T s d (ev st x)
 | .nilCheck x=>wm (ev st x)
 | .fieldAddr s x f=>uu P T s (ev st x) f
 | .indexAddr t x i=>nG P T t (ev st x) (ev st i)
 | .index t x i=>sw P t (ev st x) (ev st i)
 | .slice t x lo hi mx=>qT P T t (ev st x) (lo.map (ev st)) (hi.map (ev st)) (mx.map (ev st))
 | .extract x j=>sA (ev st x) j
 | .load t x=>dU P T st t (ev st x)
 | .build t parts=>ux P T t (parts.toList.map λp=>(p.1,ev st p.2))
 | .call c=>uy P st c
 |_=> .bad
end Go.Pv
namespace Go.Pv
open Go
variable {P:Program} {T:ay} {E:Env} {w:World} {V:Vw}
theorem BC (k:IntKind) (n:Int):iA k (k.wrap n):=by
 cases k<;>unfold iA IntKind.wrap IntKind.min IntKind.max IntKind.signed IntKind.bits<;>simp only[yC,PR]<;>
  refine⟨?_,?_⟩<;>simp<;>(try split)<;>omega
theorem RS.int {k:IntKind} {n:Int} {u:Value} (h:RS T E w V (.one (.c (.int k n))) u):u= .int k n/\iA k n:=by
 have h':aG T E.φ w (.int k n) u:=h;cases h' with
 |int _ _ hk=>exact⟨rfl,hk⟩
theorem RS.bool {b:Bool} {u:Value} (h:RS T E w V (.one (.c (.bool b))) u):u= .bool b:=by have h':aG T E.φ w (.bool b) u:=h;cases h';rfl
theorem RS.str {s:ByteArray} {u:Value} (h:RS T E w V (.one (.c (.str s))) u):u= .string s/\s.size<=hC:=by
 have h':aG T E.φ w (.str s) u:=h;cases h' with
 |str _ hk=>exact⟨rfl,hk⟩
theorem kO {k:IntKind} {n:Int} (h:iA k n):RS T E w V (.one (.c (.int k n))) (.int k n):=aG.int k n h
theorem sB (b:Bool):RS T E w V (.one (.c (.bool b))) (.bool b):=aG.bool b
theorem ET {s:ByteArray} (h:s.size<=hC):RS T E w V (.one (.c (.str s))) (.string s):=aG.str s h
theorem QB (v:Value):RS T E w V (lZ v) v:=by
 unfold lZ;split
 ·split
  ·rename_i hk;exact kO hk
  ·trivial
 ·exact sB _
 ·split
  ·rename_i hk;exact ET hk
  ·trivial
 ·rfl
 ·rfl
 ·trivial
theorem wu (v:Value):∃x,lZ v= .one x:=by unfold lZ;split<;>(try split)<;>exact⟨_,rfl⟩
theorem Z9 (v:Value):RS T E w V (ofConst v) v:=by
 unfold ofConst;split
 ·rename_i cs;split
  ·rename_i kP;refine⟨cs,rfl,by simp,λj x u hx hu=>?_⟩;rw[bP,hu]at hx;simp only[cj,ae]at hx;have h1:=QB (E:=E) (T:=T) (w:=w) (V:=V) u;obtain⟨y,hy⟩:=wu u;rw[hy]at hx h1;subst hx;cases y with
   |aD=>exact aX.1 kP u (aY hu)
   |_=>exact h1
  ·trivial
 ·exact QB v
theorem dy {cx:Cx} {st:St} {a:Act} (h:aM T cx E st a w) (x:Operand):RS T E w st.vw (ev st x) (a.eval x):=by
 cases x with
 |tmp t=>
  simp only[ev,St.get,Act.eval];cases hs:st.aq[t]?with
  |none=>simp only[aZ,hs,Option.getD_none];trivial
  |some s=>
   have ht:t<a.tmps.size:=by
    rw[h.len];rcases aT t st.aq.length with h'|h'
    ·exact h'
    ·simp[aW h']at hs
   have hu:a.tmps[t]?=some a.tmps[t]:=im ht;have:=h.aq t s _ hs hu;simp only[aZ,hs,fh,EA,hu];exact this
 |const v=>simp only[ev,Act.eval];exact Z9 v
 |global g=>trivial
 |func f=>exact rfl
def Good (E:Env) (w:World) (V:Vw) (m:Sem Value) (P:Program) (T:ay) (s:S):Prop:=
 ∃r,m.run P w= .ok r w/\RS T E w V s r
theorem aaa (op:BinOp) (aab:op≠ .rem) (t:Nat) (k:IntKind) (a b:Int) (x y:Operand):
 (yM op k a b).holds (Good E w V (do eqGuard op t x y (.int k a) (.int k b);binOp op t (.int k a) (.int k b)) P T):=by
 cases op<;>simp only[yM,R.holds,Good]<;>first
  |exact absurd rfl aab
  |trivial
  |(intro h;refine⟨_,?_,kO (BC _ _)⟩;simp[go_sem,binOp,Op.intDiv,h];done)
  |(refine⟨_,?_,kO (BC _ _)⟩;simp[go_sem,binOp,Op.intArith];done)
  |(refine⟨_,?_,sB _⟩;simp[go_sem,binOp,Op.intCmp];done)
end Go.Pv
namespace Go.Pv
open Go
variable {P:Program} {T:ay} {E:Env} {w:World} {V:Vw}
theorem aac (t:Nat) (k:IntKind) (a b:Int) (x y:Operand):
 (BA k a b).holds (Good E w V (do eqGuard .rem t x y (.int k a) (.int k b);binOp .rem t (.int k a) (.int k b)) P T):=by
 simp only[BA,R.holds,Good];rintro ⟨h,hr⟩;refine⟨_,?_,kO hr⟩;simp[go_sem,binOp,Op.intDiv,h]
theorem aad (op:BinOp) (t:Nat) (a b:ByteArray) (x y:Operand):
 (yN op a b).holds (Good E w V (do eqGuard op t x y (.string a) (.string b);binOp op t (.string a) (.string b)) P T):=by
 cases op<;>simp only[yN,R.holds,Good]<;>first
  |trivial
  |(refine⟨_,?_,sB _⟩;simp[go_sem,binOp,Op.stringOp,fm,strLt];done)
  |skip
 intro h;refine⟨_,?_,ET (s:=a++b) (by grind)⟩;have:¬(((a.size+b.size:Nat):Int)>IntKind.i64.max):=by simp only[hC]at h;simp only[IntKind.max,IntKind.signed,IntKind.bits,cJ];omega
 simp only[go_sem,binOp,Op.stringOp,aQ this,Sem.run_bind,Sem.run_pure,Result.andThen_ok]
theorem run_equal_bool {t:Nat} (ht:P.underlying t=some .bool) (a b:Bool):(Op.equal t (.bool a) (.bool b)).run P w= .ok (a==b) w:=by show(Op.equalIn (9999+1) t (.bool a) (.bool b)).run P w=_;unfold Op.equalIn;rw[Sem.run_bind,run_underlying ht];rfl
theorem QC {t:Nat} (ht:P.underlying t=some .bool) (a b:Bool) (x y:Operand):
 Good E w V (do eqGuard .eql t x y (.bool a) (.bool b);binOp .eql t (.bool a) (.bool b)) P T (.one (.c (.bool (a==b))))/\
 Good E w V (do eqGuard .neq t x y (.bool a) (.bool b);binOp .neq t (.bool a) (.bool b)) P T (.one (.c (.bool !(a==b)))):=by
 refine⟨⟨_,?_,sB _⟩,⟨_,?_,sB _⟩⟩
 ·show((do pure (Value.bool (<-Op.equal t (.bool a) (.bool b))):Sem Value)).run P w=_;rw[Sem.run_bind,run_equal_bool ht];rfl
 ·show((do pure (Value.bool (!(<-Op.equal t (.bool a) (.bool b)))):Sem Value)).run P w=_;rw[Sem.run_bind,run_equal_bool ht];rfl
theorem Jy (d:Nat) {xs ys:ane}:∀(fs:List Field) (i:Nat) (ks:List Bool) (l l':amT) (b:Bool),EN P i fs=some ks->pE ks l l'=some b->
 (∀(j:Nat) x,l[j]?=some x->∃v,xs[i+j]?=some v/\RX T E w V x v)->(∀(j:Nat) x,l'[j]?=some x->∃v,ys[i+j]?=some v/\RX T E w V x v)->
 (Op.eqFields (d+1) xs ys fs).run P w= .ok b w
 |[],i,ks,l,l',b,h,hc,hx,hy=>by
  cases h;unfold pE at hc;split at hc<;>first|contradiction|skip
  cases hc;rfl
 |f::fs,i,ks,l,l',b,h,hc,hx,hy=>by
  unfold EN at h;split at h
  ·cases h
  ·rename_i hn;have cz:f.name≠ "_" :=λe=>hn (.inl e);have mU:f.offset=i:=Decidable.not_not.1 λe=>hn (.inr e);have step:∀{u v:Value} {r r':amT} {c q:Bool},xs[i]?=some u->ys[i]?=some v->(isAgg f.type).run P w= .ok false w->(Op.equalIn (d+1) f.type u v).run P w= .ok q w->
    (q=true->(Op.eqFields (d+1) xs ys fs).run P w= .ok c w)->(Op.eqFields (d+1) xs ys (f::fs)).run P w= .ok (q&&c) w:=by
    intro u v r r' c q hu hv ha hq hr;have pt:∀{zs:ane} {z:Value},zs[i]?=some z->(part f.type zs f.offset).run P w= .ok z w:=by intro zs z hz;rw[mU];simp only[part,Sem.run_bind,ha,Result.andThen_ok,qL,py,hz,Sem.run_pure]
    simp only[Op.eqFields,cz,ne_eq,not_false_eq_true,cJ,Sem.run_bind,pt hu,pt hv,hq,Result.andThen_ok];cases q
    ·simp
    ·grind
   have QD:∀{dd:TypeDesc},P.underlying f.type=some dd->mT dd=false->(isAgg f.type).run P w= .ok false w:=by intro dd h1 h2;simp only[isAgg,Sem.run_bind,run_underlying h1,Result.andThen_ok];cases dd<;>first|rfl|cases h2
   split at h
   ·rename_i kk sC h1 h2;cases h;unfold pE at hc;split at hc<;>first|contradiction|skip
    ·rename_i he;cases he;split at hc
     ·rename_i hk;subst hk;split at hc
      ·rename_i c dF;cases hc;obtain⟨u,hu,ru⟩:=hx 0 _ rfl;obtain⟨v,hv,rv⟩:=hy 0 _ rfl;obtain⟨rfl,_⟩:=RS.int (RS.gN ru);obtain⟨rfl,_⟩:=RS.int (RS.gN rv);refine step (r:=[]) (r':=[]) hu hv (QD h1 rfl) (run_equalIn_int w d _ _ _ _ _ h1) λ_=>?_;exact Jy d fs (i+1) _ _ _ _ h2 dF (λj x hj=>by have:=hx (j+1) x hj;grind) (λj x hj=>by have:=hy (j+1) x hj;grind)
      grind
     grind
    grind
   ·rename_i sC h1 h2;cases h;unfold pE at hc;split at hc<;>first|contradiction|skip
    ·grind
    ·rename_i he;cases he;split at hc
     ·rename_i c dF;cases hc;obtain⟨u,hu,ru⟩:=hx 0 _ rfl;obtain⟨v,hv,rv⟩:=hy 0 _ rfl;obtain⟨rfl,_⟩:=RS.str (RS.gN ru);obtain⟨rfl,_⟩:=RS.str (RS.gN rv);refine step (r:=[]) (r':=[]) hu hv (QD h1 rfl) (run_equalIn_string w d _ _ _ h1) λ_=>?_;exact Jy d fs (i+1) _ _ _ _ h2 dF (λj x hj=>by have:=hx (j+1) x hj;grind) (λj x hj=>by have:=hy (j+1) x hj;grind)
     grind
   grind
theorem QE {t:Nat} {ks:List Bool} (h:BB P t=some ks) {l l':amT} {b:Bool} (hc:pE ks l l'=some b) {u v:Value} (hx:RS T E w V (.agg l) u) (hy:RS T E w V (.agg l') v) (x y:Operand):
 Good E w V (do eqGuard .eql t x y u v;binOp .eql t u v) P T (.one (.c (.bool b)))/\Good E w V (do eqGuard .neq t x y u v;binOp .neq t u v) P T (.one (.c (.bool !b))):=by
 obtain⟨cs,rfl,hl,hx⟩:=hx;obtain⟨ds,rfl,hm,hy⟩:=hy;unfold BB at h;cases hs:P.stoodInHeld t<;>cases hg:P.eqGuardType P.depth t<;>simp only[hs,hg,Zp,Bool.or_true,Zq,mJ,lS]at h<;>first|contradiction|skip
 split at h
 ·rename_i fs hu;have hf:P.fieldsOf t=fs:=by simp[Program.fieldsOf,hu]
  have ht:P.underlying t=some (.struct (P.fieldsOf t)):=by rw[hf,hu]
  have e:(Op.equalIn 10000 t (.agg cs) (.agg ds)).run P w= .ok b w:=by
   rw[run_equalIn_agg w 9999 t cs ds ht hs,hf];refine Jy (T:=T) (E:=E) (V:=V) 9998 fs.toList 0 ks l l' b h hc (λj x hj=>?_) λj x hj=>?_
   ·have:j<cs.toList.length:=by rw[hl];exact(Bk.1 hj).1
    refine⟨cs.toList[j],?_,hx j x _ hj (aP this)⟩;grind
   ·have:j<ds.toList.length:=by rw[hm];exact(Bk.1 hj).1
    refine⟨ds.toList[j],?_,hy j x _ hj (aP this)⟩;grind
  refine⟨⟨_,?_,sB _⟩,⟨_,?_,sB _⟩⟩
  ·simp only[Sem.run_bind,run_eqGuard_agg w _ t x y cs ds hg,Result.andThen_ok,run_eql_struct,e]
  ·simp only[Sem.run_bind,run_eqGuard_agg w _ t x y cs ds hg,Result.andThen_ok,run_neq_struct,e]
 grind
theorem aae (op:BinOp) (t:Nat) {sx sy:S} {u v:Value} (hx:RS T E w V sx u) (hy:RS T E w V sy v) (x y:Operand):
 (pF P op t sx sy).holds (Good E w V (do eqGuard op t x y u v;binOp op t u v) P T):=by
 unfold pF;split
 ·obtain⟨rfl,_⟩:=hx.int;obtain⟨rfl,_⟩:=hy.int;split
  ·rename_i hk;subst hk;split
   ·exact aac t _ _ _ x y
   ·rename_i al;exact aaa op (λe=>al e) t _ _ _ x y
  ·trivial
 ·obtain⟨rfl,_⟩:=hx.str;obtain⟨rfl,_⟩:=hy.str;exact aad op t _ _ x y
 ·obtain rfl:=hx.bool;obtain rfl:=hy.bool;split
  ·rename_i ht;split
   ·exact(QC ht _ _ x y).1
   ·exact(QC ht _ _ x y).2
   ·trivial
  ·trivial
 ·split
  ·rename_i ks hk;split
   ·rename_i b hb;split
    ·exact(QE hk hb hx hy x y).1
    ·exact(QE hk hb hx hy x y).2
    ·trivial
   ·trivial
  ·trivial
 ·trivial
theorem aaf (op:UnOp) {sx:S} {u:Value} (hx:RS T E w V sx u):(wj op sx).holds (Good E w V (Op.unary op u) P T):=by
 unfold wj;split
 ·obtain rfl:=hx.bool;exact⟨_,rfl,sB _⟩
 ·obtain⟨rfl,_⟩:=hx.int;exact⟨_,rfl,kO (BC _ _)⟩
 ·trivial
theorem EU {sx:S} {u:Value} (hx:RS T E w V sx u) {e:Nat} {rows:Y9} (h:rowsOf sx=some (e,rows)):aG T E.φ w (.sl e rows) u:=by
 unfold rowsOf at h;split at h
 ·simp only[ae,bT]at h;obtain⟨rfl,rfl⟩:=h;exact hx
 ·simp only[ae,bT]at h;obtain⟨rfl,rfl⟩:=h;exact hx.1
 grind
theorem aG.slice {e:Nat} {rows:Y9} {u:Value} (h:aG T E.φ w (.sl e rows) u):
 (rows=[]/\∃base,u= .slice base 0 0)\/∃b off cap,u= .slice (some ⟨b,off,none⟩) rows.length cap/\At T E.φ w e rows b off/\rows.length<=cap:=by
 cases h with
 |nil=>grind
 |emp _ a=>grind
 |sl e rows b off cap cs el fr val e0 gr hb cI cP dq hlen hk hv hr hs hl gA fB hd=>exact .inr ⟨b,off,cap,rfl,⟨cap, .sl e rows b off cap cs el fr val e0 gr hb cI cP dq hlen hk hv hr hs hl gA fB hd⟩,cP⟩
theorem QF:∀(l:List Int) (s:ByteArray),(l.foldl (λs n=>s.push (UInt8.ofNat n.toNat)) s).size=s.size+l.length
 |[],s=>by simp
 |n::l,s=>by rw[PT,QF l];simp[ByteArray.size_push];omega
theorem QG (rows:Y9):(bytesOf rows).size=rows.length:=by simp[bytesOf,QF]
theorem aag (src dst:Nat) {sx:S} {u:Value} (hx:RS T E w V sx u):(sv P T src dst sx).holds (Good E w V (convert src dst u) P T):=by
 unfold sv;split
 ·obtain⟨rfl,_⟩:=hx.int;split
  ·rename_i d k h1 h2;refine⟨_,?_,kO (BC _ _)⟩;simp[convert,run_underlying h1,run_underlying h2,Conv.intToInt]
  ·trivial
 ·split
  ·rename_i e rows e' hr hs hd;split
   ·rename_i he;split
    ·rename_i hc;obtain⟨rfl,hT⟩:=hc;have jV:=EU hx hr;have cf:(bytesOf rows).size<=hC:=by rw[QG];have:=jV.len;simp only[cM,hC]at*;omega
     refine⟨.string (bytesOf rows),?_,ET cf⟩;rcases jV.slice with⟨rfl,base,rfl⟩|⟨b,off,cap,rfl,cH,_⟩
     ·rw[run_convert_bytes_string w src dst e' base 0 0 hs he hd];cases base<;>rfl
     ·rw[run_convert_bytes_string w src dst e' _ _ _ hs he hd];refine run_bytesToString w _ _ _ (rows.map λr=>cD (r.getD 0 default)) ?_;have hl:=run_loadCells_list (P:=P) (w:=w) ⟨b,off,none⟩ ((rows.map λr=>cD (r.getD 0 default)).map (Value.int .u8)) (λj v hj=>by
       rw[bP,bP]at hj;cases bR:rows[j]?with
       |none=>grind
       |some r=>
        simp only[bR,cj,ae]at hj;have hk:=cH.kinds r (aY bR);rw[hT]at hk
        match r,hk with
        |[c],hk=>
         simp at hk;obtain⟨v',h1,h2⟩:=cH.cell bR (j:=0) (c:=c) rfl;rw[hT]at h1;simp only[List.length_singleton,Nat.mul_one,jy]at h1;cases c with
         |int k n=>simp only[C.kd,Kd.int.injEq]at hk;subst hk;cases h2;rw[<-hj];simpa[cD,Addr.add_mid]using h1
         |_=>simp[C.kd]at hk
        |_::_::_,hk=>grind
        |[],hk=>grind)
      grind
    ·trivial
   ·trivial
  ·trivial
theorem BD {n:Nat} (h:n<=cM):iA .i64 (n:Int):=by simp only[cM]at h;simp only[iA,IntKind.max,IntKind.min,IntKind.signed,IntKind.bits,cJ];omega
theorem aah {n:Nat} (h:n<=hC):iA .i64 (n:Int):=by simp only[hC]at h;simp only[iA,IntKind.max,IntKind.min,IntKind.signed,IntKind.bits,cJ];omega
theorem aai (t ty:Nat) {sx:S} {u:Value} (hx:RS T E w V sx u):(um P t sx).holds (Good E w V (Builtin.len_ #[t] ty #[u]) P T):=by
 unfold um;split
 ·rename_i ht;obtain⟨rfl,hz⟩:=hx.str;refine⟨hz,_,?_,kO (aah hz)⟩;simp[Builtin.len_,run_underlying ht,goInt]
 ·rename_i ht;have hx:u= .slice none 0 0:=hx;subst hx;refine⟨_,?_,kO (n:=0) (BD (n:=0) (by simp))⟩;simp[Builtin.len_,run_underlying ht,goInt]
 ·rename_i e' ht _;split
  ·rename_i e rows hr;have jV:=EU hx hr;refine⟨jV.len,_,?_,kO (BD jV.len)⟩;rcases jV.slice with⟨rfl,base,rfl⟩|⟨b,off,cap,rfl,_,_⟩<;>simp[Builtin.len_,run_underlying ht,goInt]
  ·obtain⟨_,off,cap,rfl,c1,c2,_⟩:=hx;refine⟨c2,_,?_,kO (BD (by omega))⟩;simp[Builtin.len_,run_underlying ht,goInt]
  ·rcases hx with⟨rfl,_,base,rfl⟩|⟨_,_,cap,rfl,_,c2,_⟩
   ·refine⟨gk _,_,?_,kO (BD (gk _))⟩;simp[Builtin.len_,run_underlying ht,goInt]
   ·refine⟨c2,_,?_,kO (BD c2)⟩;simp[Builtin.len_,run_underlying ht,goInt]
  ·trivial
 ·trivial
theorem aaj (ts:Array Nat) (ty:Nat) {sx sy:S} {u v:Value} (hx:RS T E w V sx u) (hy:RS T E w V sy v):(uo sx sy).holds (Good E w V (Builtin.max_ ts ty #[u,v]) P T):=by
 unfold uo;split
 ·obtain⟨rfl,h1⟩:=hx.int;obtain⟨rfl,h2⟩:=hy.int;split
  ·rename_i hk;subst hk;refine⟨_,rfl,?_⟩;grind
  ·trivial
 ·trivial
theorem aak (ts:Array Nat) (ty:Nat) {sx sy:S} {u v:Value} (hx:RS T E w V sx u) (hy:RS T E w V sy v):(uq sx sy).holds (Good E w V (Builtin.min_ ts ty #[u,v]) P T):=by
 unfold uq;split
 ·obtain⟨rfl,h1⟩:=hx.int;obtain⟨rfl,h2⟩:=hy.int;split
  ·rename_i hk;subst hk;refine⟨_,rfl,?_⟩;grind
  ·trivial
 ·trivial
theorem QH (hT:cr P T) {s f o ft:Nat} (h:ur P T s f=some (o,ft)):
 ∃fields fd,P.underlying s=some (.struct fields)/\fields[f]?=some fd/\fd.offset=o/\fd.type=ft/\T ft≠[]/\ft<1000:=by
 unfold ur at h;split at h
 ·rename_i fields hu;split at h
  ·rename_i fd hf;split at h
   ·cases h
   ·rename_i he;simp only[ae,bT]at h;obtain⟨rfl,rfl⟩:=h;exact⟨fields,fd,hu,hf,rfl,rfl,Jw (by grind)⟩
  grind
 grind
theorem Jz (hT:cr P T) {s f o ft:Nat} (h:ur P T s f=some (o,ft)) (b off:Nat):
 (Instr.fieldAt s (.pointer (some ⟨b,off,none⟩)) f).run P w= .ok (.pointer (some ⟨b,off+o,none⟩)) w:=by
 obtain⟨fields,fd,hu,hf,rfl,rfl,al,b0⟩:=QH hT h;obtain⟨i,z,d,hi,_,hs,_⟩:=hT.uk b0 al;have hz:i.size≠0:=by rw[hs];exact λe=>al (jz.1 e)
 simp[Instr.fieldAt,run_underlying hu,hf,Instr.sureAddr,fieldPlace,sizeOf,typeInfo,hi,hz,Addr.add_lit]
theorem aal {sx:S} {u:Value} (hx:RS T E w V sx u) (o:Oper) (x:Operand) (a:Act) (hu:a.eval x=u) (ho:o.op= .nilCheck x):
 (wm sx).holds (λs=>∃r,(execOp a.eval o).run P w= .ok (.value r) w/\RS T E w V s r):=by
 unfold wm;split
 ·obtain⟨h1,h2,h3,rfl⟩:=hx;exact⟨_,by simp[execOp,ho,hu],h1,h2,h3,rfl⟩
 ·obtain⟨h1,rfl⟩:=hx;exact⟨_,by simp[execOp,ho,hu],h1,rfl⟩
 ·obtain⟨b,o',h1,h2,rfl,h3⟩:=hx;exact⟨_,by simp[execOp,ho,hu],b,o',h1,h2,rfl,h3⟩
 ·trivial
theorem aam (hT:cr P T) (s f:Nat) {sx:S} {u:Value} (hx:RS T E w V sx u):(uu P T s sx f).holds (Good E w V (Instr.fieldAt s u f) P T):=by
 unfold uu;split
 ·rename_i o ft hf;split
  ·obtain⟨h1,rfl⟩:=hx;exact⟨_,Jz hT hf _ _,h1,by rw[oB]⟩
  ·obtain⟨h1,h2,h3,rfl⟩:=hx;exact⟨_,Jz hT hf _ _,h1,h2,h3,by rw[oB]⟩
  ·obtain⟨b,o',h1,h2,rfl,h3⟩:=hx;exact⟨_,Jz hT hf _ _,b,o',h1,h2,by grind,h3⟩
  ·trivial
 ·trivial
theorem aan {e:Nat} {s:S} {u:Value} (h:ES e s=true) (hx:RS T E w V s u):e=1053->EL E u:=by
 rintro rfl;unfold ES at h;simp only[show Nat.beq 1053 1053=true from rfl,qM,kM]at h;split at h
 ·rw[aB]at h;exact hx.2.2.2 (bt h.1) (bt h.2)
 grind
theorem aao (hT:cr P T) (t:Nat) {sx si:S} {u v:Value} (hx:RS T E w V sx u) (hi:RS T E w V si v):
 (nG P T t sx si).holds (Good E w V (Instr.indexAt t u v) P T):=by
 unfold nG;split
 ·rename_i e' k n e rows ht hr;obtain⟨rfl,_⟩:=hi.int;split
  ·rename_i hc;obtain⟨rfl,al,aN⟩:=hc;rintro ⟨h0,h1⟩;have jV:=EU hx hr;obtain⟨i,z,d,cE,_,cS,_⟩:=hT.row e (by grind);rcases jV.slice with⟨rfl,base,rfl⟩|⟨b,off,cap,rfl,cH,_⟩
   ·grind
   ·refine⟨_,?_,b,off,cH,by omega,rfl,λhe=>aan aN hx he _ _ _ _ rfl⟩;simp[Instr.indexAt,asIntOf,run_underlying ht,h0,h1,sizeOf,typeInfo,cE,cS,Addr.add_lit]
  ·trivial
 ·rename_i e' k n e b rows ht _;obtain⟨rfl,_⟩:=hi.int;split
  ·rename_i hc;obtain⟨rfl,al⟩:=hc;rintro rfl;obtain⟨i,z,d,cE,_,cS,_⟩:=hT.row e (by grind);obtain⟨h1,off,cap,rfl,c1,c2,c3,_⟩:=hx;refine⟨_,?_,h1,rfl⟩;simp[Instr.indexAt,asIntOf,run_underlying ht,sizeOf,typeInfo,cE,cS,Addr.add_lit,c3]
  ·trivial
 ·rename_i e' k n e b m ht _;obtain⟨rfl,_⟩:=hi.int;split
  ·rename_i hc;obtain⟨rfl,al⟩:=hc;rintro ⟨h0,h1⟩;obtain⟨i,z,d,cE,_,cS,_⟩:=hT.row e (by grind);rcases hx with⟨rfl,_⟩|⟨h2,c0,cap,rfl,c1,c2,_⟩
   ·omega
   ·refine⟨_,?_,h2,rfl⟩;simp[Instr.indexAt,asIntOf,run_underlying ht,h0,h1,sizeOf,typeInfo,cE,cS,Addr.add_lit,c0]
  ·trivial
 ·trivial
theorem aap (t:Nat) {sx si:S} {u v:Value} (hx:RS T E w V sx u) (hi:RS T E w V si v):
 (sw P t sx si).holds (Good E w V (Instr.index t u v) P T):=by
 unfold sw;split
 ·rename_i s k n ht;obtain⟨rfl,_⟩:=hi.int;obtain⟨rfl,_⟩:=hx.str;rintro ⟨h0,h1⟩;have aj:n.toNat<s.size:=by omega
  have hb:s[n.toNat]?=some s[n.toNat]:=by simp[getElem?_pos,aj]
  refine⟨.int .u8 (bd s n.toNat),?_,kO ?_⟩
  ·simp[Instr.index,asIntOf,run_underlying ht,h0,hb,bd]
  ·have:bd s n.toNat<256:=by unfold bd;exact Zr _
   simp only[iA,IntKind.max,IntKind.min,IntKind.signed,IntKind.bits];grind
 ·trivial
theorem aaq (j:Nat) {sx:S} {u:Value} (hx:RS T E w V sx u):(sA sx j).holds (Good E w V (Instr.extract u j) P T):=by
 unfold sA;split
 ·rename_i l;obtain⟨vs,rfl,hlen,h⟩:=hx;split
  ·rename_i l' hj;have aj:j<vs.size:=by
    rw[hlen];rcases aT j l.length with h'|h'
    ·omega
    ·grind
   have hv:vs[j]?=some vs[j]:=im aj;exact⟨vs[j],by simp[Instr.extract,hv],h j _ _ hj hv⟩
  ·rename_i x' hj;have aj:j<vs.size:=by
    rw[hlen];rcases aT j l.length with h'|h'
    ·omega
    ·grind
   have hv:vs[j]?=some vs[j]:=im aj;exact⟨vs[j],by simp[Instr.extract,hv],RS.gN (h j _ _ hj hv)⟩
  ·trivial
 ·trivial
end Go.Pv
namespace Go.Pv
open Go
variable {P:Program} {T:ay} {E:Env} {w:World} {V:Vw}
theorem RX.jW {x:X} {u:Value} (h:RX T E w V x u):u.oneCell'=true:=by
 cases x with
 |aD=>exact h
 |c v=>exact aG.one h
 |own e g n rows=>exact aG.one h.1
 |bc=>have h:u=_:=h;subst h;rfl
 |hH=>have h:u=_:=h;subst h;rfl
 |fV f=>have h:u=_:=h;subst h;rfl
 |ptr b off=>obtain⟨_,_,_,rfl⟩:=h;rfl
 |cd b off=>obtain⟨_,rfl⟩:=h;rfl
 |bz e rows i off=>obtain⟨b,o,_,_,rfl,_⟩:=h;rfl
 |dn k=>exact h.1
 |cn e b rows=>obtain⟨_,off,cap,rfl,_⟩:=h;rfl
 |cq e b n=>rcases h with⟨_,_,_,rfl⟩|⟨_,_,cap,rfl,_⟩<;>rfl
theorem aar {u:Value} (h:u.oneCell'=true):u.cells=#[u]:=by cases u<;>first|rfl|simp[Value.oneCell']at h
theorem bF.single {x:X} {u:Value} (h:RX T E w V x u):bF T E w V [x] [u]:=by
 refine⟨rfl,λj y v hy hv=>?_⟩;cases j with
 |zero=>simp at hy hv;subst hy;subst hv;exact h
 |succ j=>simp at hy
theorem BE {s:S} {l:amT} {u:Value} (hc:s.cells=some l) (h:RS T E w V s u):bF T E w V l u.cells.toList:=by
 unfold S.cells at hc;split at hc
 ·cases hc
 ·rename_i x hx;simp only[ae]at hc;subst hc;have h':RX T E w V x u:=RS.one (λe=>hx (by rw[e])) h;rw[aar h'.jW];exact bF.single h'
 ·simp only[ae]at hc;subst hc;obtain⟨cs,rfl,h⟩:=h;exact h
 ·cases hc
theorem BF:∀(r:amT) (l:amT) (o:Nat),(gD l o r).length=l.length
 |[],_,_=>rfl
 |x::r,l,o=>by simp[gD,BF r]
theorem bF.set {l:amT} {us:ane} (h:bF T E w V l us.toList) {x:X} {u:Value} (hx:RX T E w V x u) (o:Nat):
 bF T E w V (l.set o x) (us.setIfInBounds o u).toList:=by
 refine⟨by simpa using h.1,λj y v hy hv=>?_⟩;rw[kh]at hy;rw[Array.toList_setIfInBounds,kh]at hv;by_cases hj:o=j
 ·subst hj;simp only[cJ]at hy hv;split at hy
  ·split at hv
   ·simp only[ae]at hy hv;subst hy;subst hv;exact hx
   ·cases hv
  ·cases hy
 ·rw[aQ hj]at hy hv;exact h.2 j y v hy hv
theorem bF.EV:∀(r:amT) (vs:ana) (o:Nat) (l:amT) (us:ane),bF T E w V r vs->bF T E w V l us.toList->
 bF T E w V (gD l o r) (gM us o vs).toList
 |[],[],_,_,_,_,h=>h
 |[],_::_,_,_,_,hr,_=>by have:=hr.1;simp at this
 |_::_,[],_,_,_,hr,_=>by have:=hr.1;simp at this
 |x::r,v::vs,o,l,us,hr,h=>by
  have hx:RX T E w V x v:=hr.2 0 x v rfl rfl;have bR:bF T E w V r vs:=⟨by have:=hr.1;simp at this;exact this,λj y u hy hu=>hr.2 (j+1) y u (by simpa using hy) (by simpa using hu)⟩
  exact bF.EV r vs (o+1) _ _ bR (h.set hx o)
theorem QI (off:Nat):∀(vs:ana) (j:Nat) (cs:ane),(vs.zipIdx j).foldl (λcs (x:Value×Nat)=>cs.setIfInBounds (off+x.2) x.1) cs=gM cs (off+j) vs
 |[],_,_=>rfl
 |v::r,j,cs=>by simp only[List.zipIdx_cons,PT,gM];rw[QI off r (j+1)];rfl
theorem QJ (off:Nat) (v:ane) (cs:ane):v.zipIdx.foldl (λcs (x:Value×Nat)=>cs.setIfInBounds (off+x.2) x.1) cs=gM cs off v.toList:=by rw[<-Array.foldl_toList,Array.toList_zipIdx];simpa using QI off v.toList 0 cs
theorem QK (hT:cr P T):∀(fs:List Field),(∀f∈fs,T f.type≠[]/\f.type<1000)->
 fs.mapM (λf=>(P.info? f.type).map λi=>(f.offset,i.size))=some (fs.map λf=>(f.offset,(T f.type).length))
 |[],_=>rfl
 |f::fs,h=>by obtain⟨i,z,d,hi,_,hs,_⟩:=hT.uk (h f (by simp)).2 (h f (by simp)).1;have ih:=QK hT fs (λg hg=>h g (by simp[hg]));simp[List.mapM_cons,hi,ih,hs]
theorem aas (k:Kd):RX T E w V (mS k) (zeroV k):=by
 cases k with
 |int k=>exact aG.int k 0 (by cases k<;>simp[iA,IntKind.min,IntKind.max,IntKind.signed,IntKind.bits])
 |bool=>exact aG.bool false
 |str=>exact aG.str _ (by simp[hC])
 |sl e=>rfl
 |ptr=>rfl
 |any=>exact aG.any _ rfl
theorem QL (ks:amQ):bF T E w V (ks.map mS) (ks.map zeroV):=by
 refine⟨by simp,λj x u hx hu=>?_⟩;rw[bP]at hx hu;cases hk:ks[j]?with
 |none=>simp[hk]at hx
 |some k=>simp[hk]at hx hu;subst hx;subst hu;exact aas k
theorem QM (hT:cr P T) {t:Nat} {fs:Array Field} (al:T t≠[]) (hu:P.underlying t=some (.struct fs)):∀(parts:anl) (vals:List (Nat×Value)) (acc:amT) (us:ane) (l:amT),
 parts.map Prod.fst=vals.map Prod.fst->(∀(j:Nat) p v,parts[j]?=some p->vals[j]?=some v->RS T E w V p.2 v.2)->bF T E w V acc us.toList->
 nH P T t parts acc=some l->∃oM,Instr.fill ((fs.toList.map λf=>(f.offset,(T f.type).length)).toArray[·]?) us vals=some oM/\bF T E w V l oM.toList
 |[],[],acc,us,l,_,_,ha,h=>by simp only[nH,ae]at h;subst h;exact⟨us,rfl,ha⟩
 |[],_::_,_,_,_,h,_,_,_=>by simp at h
 |_::_,[],_,_,_,h,_,_,_=>by simp at h
 |(f,s)::parts,(f',v)::vals,acc,us,l,hf,hp,ha,h=>by
  simp only[bu,ua]at hf;obtain⟨rfl,hf⟩:=hf;simp only[nH]at h;split at h
  ·rename_i o ft lx hI wv;split at h
   ·rename_i hc;obtain⟨fields,fd,wy,aat,rfl,rfl,_⟩:=QH hT hI;rw[hu]at wy;simp only[ae,TypeDesc.struct.injEq]at wy;subst wy;have hv:=BE wv (hp 0 (f,s) (f,v) rfl rfl);have cf:v.cells.size=lx.length:=by have:=hv.1;simpa using this
    have aau:us.size=acc.length:=by have:=ha.1;simpa using this
    have jX:(fs.toList.map λf=>(f.offset,(T f.type).length)).toArray[f]?=some (fd.offset,(T fd.type).length):=by simp[aat]
    obtain⟨oM,h1,h2⟩:=QM hT al hu parts vals (gD acc fd.offset lx) (gM us fd.offset v.cells.toList) l hf
     (λj p u hj wy=>hp (j+1) p u (by simpa using hj) (by simpa using wy)) (bF.EV lx _ fd.offset acc us hv ha) h
    refine⟨oM,?_,h2⟩;have JA:(v.cells.zipIdx.foldl (λcs (x:Value×Nat)=>cs.setIfInBounds (fd.offset+x.2) x.1) us)=gM us fd.offset v.cells.toList:=QJ fd.offset v.cells us;have JB:(decide (v.cells.size≠(T fd.type).length)||decide (fd.offset+v.cells.size>us.size))=false:=by simp only[Jj,v3];omega
    simp only[Instr.fill,jX,JB,qL,py];rw[<-h1,<-JA]
   ·cases h
  ·cases h
theorem aav (hT:cr P T) (t:Nat) (parts:anl) (vals:Array (Nat×Value)) (hf:parts.map Prod.fst=vals.toList.map Prod.fst)
 (hp:∀(j:Nat) p v,parts[j]?=some p->vals.toList[j]?=some v->RS T E w V p.2 v.2):(ux P T t parts).holds (Good E w V (Instr.build t vals) P T):=by
 unfold ux;split
 ·trivial
 ·rename_i uz;obtain⟨al,b0⟩:=Jw (by simpa using uz);split
  ·rename_i fs l jY hb;obtain⟨i,z,d,hi,JC,cf,hz,iV,_,_,_,dV⟩:=hT.uk b0 al;rw[jY]at JC;simp only[ae]at JC;subst JC;obtain⟨cs,rfl⟩:=dV rfl;obtain⟨oM,h1,h2⟩:=QM (E:=E) (w:=w) (V:=V) hT al jY parts vals.toList ((T t).map mS) cs l hf hp (by
    have:cs.toList=(T t).map zeroV:=iV;rw[this];exact QL _) hb
   refine⟨_,run_build w t vals oM ?_,oM,rfl,h2⟩;simp only[Program.built,hi,jY,hz,QK hT fs.toList (λf hf=>hT.fields t fs b0 al jY f hf)];exact h1
  ·trivial
theorem JD (d:TypeDesc):mT d=d.isRow:=by cases d<;>rfl
theorem JE {t:Nat} {d:TypeDesc} (hu:P.underlying t=some d) (hd:mT d=false) {b o:Nat} {v:Value} (hc:w.cell? ⟨b,o,none⟩=some v):
 (Instr.loadAt t (.pointer (some ⟨b,o,none⟩))).run P w= .ok v w:=by
 have gm:(isAgg t).run P w= .ok false w:=by unfold isAgg;rw[Sem.run_bind,run_underlying hu w];cases d<;>simp_all [mT]
 simp[Instr.loadAt,Instr.sureAddr,loadVar,Sem.run_bind,gm,run_load,hc]
theorem jA {b o:Nat} {cs:ane} {el:TypeId} {fr:Nat×Nat} (h:w.heap[b]?=some (.cells cs el fr)):w.cell? ⟨b,o,none⟩=cs[o]?:=by simp[World.cell?,h]
theorem QN {x:X} {u:Value} {G:S->Prop} (h:RX T E w V x u) (hg:G (.one x)):(R.oL x).holds G:=by
 cases x with
 |aD=>trivial
 |c v=>
  cases v with
  |int k n=>
   have h':aG T E.φ w (.int k n) u:=h;cases h' with
   |int _ _ hk=>exact⟨hk,hg⟩
  |_=>exact hg
 |_=>exact hg
theorem BG:∀(ks:amQ) (rows:Y9) (i j m:Nat),(fC rows i j ks)[m]?=ks[m]?.map λk=>X.c (lY k (cellAt rows i (j+m)))
 |[],_,_,_,_=>by simp[fC]
 |k::ks,rows,i,j,0=>by simp[fC]
 |k::ks,rows,i,j,m+1=>by simp only[fC,oC];rw[BG ks rows i (j+1) m,show j+1+m=j+(m+1)by omega]
theorem uA:∀(ks:amQ) (rows:Y9) (i j:Nat),(fC rows i j ks).length=ks.length
 |[],_,_,_=>rfl
 |k::ks,rows,i,j=>by simp[fC,uA ks]
theorem At.load {e:Nat} {rows:Y9} {b o:Nat} (h:At T E.φ w e rows b o) {i j:Nat} (hi:i<rows.length) {k:Kd} (hk:(T e)[j]?=some k):
 ∃u,w.cell? ⟨b,o+i*(T e).length+j,none⟩=some u/\aG T E.φ w (lY k (cellAt rows i j)) u:=by
 have hr:rows[i]?=some rows[i]:=aP hi;have fM:=h.kinds rows[i] (fz hi);have hj:(rows[i].map C.kd)[j]?=some k:=by rw[fM];exact hk
 rw[bP]at hj;cases hc:rows[i][j]?with
 |none=>simp[hc]at hj
 |some c=>
  simp only[hc,cj,ae]at hj;obtain⟨u,h1,h2⟩:=h.cell hr hc;refine⟨u,h1,?_⟩;have:cellAt rows i j=c:=by simp[cellAt,aZ,hr,hc]
  rw[this,yK hj];exact h2
theorem JF {E:Env} {w:World} {V:Vw} {s:S} {b off:Nat} {u:Value} (h:s.bp=some (b,off)) (hu:RS T E w V s u):V.hs b=true/\u= .pointer (some ⟨E.β b,E.ο b+off,none⟩):=by
 unfold S.bp at h;split at h
 ·simp only[ae,bT]at h;obtain⟨rfl,rfl⟩:=h;exact⟨hu.1,hu.2.2.2⟩
 ·simp only[ae,bT]at h;obtain⟨rfl,rfl⟩:=h;exact hu
 ·cases h
theorem QO (hT:cr P T) {cx:Cx} {st:St} {a:Act} (h:aM T cx E st a w) (t:Nat) {sx:S} {u:Value} (hx:RS T E w st.vw sx u):
 (dU P T st t sx).holds (Good E w st.vw (Instr.loadAt t u) P T):=by
 unfold dU;split
 ·rename_i b off gm BH;obtain⟨_,rfl⟩:=JF BH hx;split
  ·rename_i l hb;split
   ·rename_i hc;obtain⟨hle,al,_⟩:=hc;have uz:T t≠[]:=by simpa using al
    have hO:0<(T t).length:=lT.2 uz;obtain⟨_,_,cs,el,jB,gE,nI⟩:=h.boxes b l hb (by rintro rfl;simp only[yD]at hle;omega);obtain⟨i,z,d,hi,jY,cf,_⟩:=hT.uk (ER gm) uz;have hd:mT d=true:=Jx gm jY;have hlen:((cs.toList.drop (E.ο b+off)).take (T t).length).length=(T t).length:=by simp;omega
    refine⟨.agg ((cs.toList.drop (E.ο b+off)).take (T t).length).toArray,?_,_,rfl,?_⟩
    ·refine run_loadAt_mid w _ (E.ο b+off) t _ d (λj v hj=>?_) jY (by rw[<-JD];exact hd) (by simp[hi,cf,hlen]);rw[jA jB];rw[fi]at hj;split at hj
     ·rw[fa]at hj;simpa using hj
     ·cases hj
    ·refine⟨by simp;omega,λj x v hx hv=>?_⟩;rw[fi]at hx;simp only[fi]at hv;split at hx
     ·rename_i hj;rw[aC hj]at hv;rw[fa]at hx hv;refine nI.2 (off+j) x v hx ?_;rw[fi,aC (by omega),fa,<-hv];congr 1;omega
     ·cases hx
   ·trivial
  ·trivial
 ·rename_i b off gm BH;obtain⟨_,rfl⟩:=JF BH hx;split
  ·rename_i l hb;split
   ·rename_i x hx;split
    case isFalse=>trivial
    have uC:off<l.length:=by
     rcases aT off l.length with h'|h'
     ·exact h'
     ·simp[aW h']at hx
    obtain⟨_,_,cs,el,jB,gE,nI⟩:=h.boxes b l hb (by rintro rfl;simp at uC);have aj:E.ο b+off<cs.size:=by omega
    have hv:((cs.toList.drop (E.ο b)).take l.length)[off]?=some cs[E.ο b+off]:=by rw[fi,aC uC,fa];simp[aj]
    have BI:=nI.2 off x _ hx hv;refine QN BI ⟨cs[E.ο b+off],?_,RS.gN BI⟩;unfold kq at gm;split at gm
    ·rename_i d jY;simp only[ae]at gm;exact JE (EP jY).1 gm (by rw[jA jB];simp[aj])
    ·cases gm
   ·trivial
  ·trivial
 ·rename_i e rows i off gm _;obtain⟨b,o,cH,hi,rfl,_⟩:=hx;split
  ·rename_i hc;obtain⟨hk,al,iC⟩:=hc;obtain⟨inf,z,d,JG,jY,cf,_⟩:=hT.uk (ER gm) (by simpa using al);have hd:mT d=true:=Jx gm jY;have iB:∀j,j<(T t).length->(T e)[off+j]?=(T t)[j]?:=by
    intro j hj;have:(((T e).drop off).take (T t).length)[j]?=(T t)[j]?:=by rw[hk]
    rw[fi,aC hj,fa]at this;exact this
   have fp:∀j,∃u,j<(T t).length->w.cell? ⟨b,o+i*(T e).length+off+j,none⟩=some u/\∀k,(T t)[j]?=some k->aG T E.φ w (lY k (cellAt rows i (off+j))) u:=by
    intro j;by_cases hj:j<(T t).length
    ·obtain⟨u,h1,h2⟩:=cH.load hi (j:=off+j) (k:=(T t)[j]) (by rw[iB j hj];exact aP hj);refine⟨u,λ_=>⟨by rw[<-h1];congr 2;omega,λk bV=>?_⟩⟩;rw[aP hj]at bV;simp only[ae]at bV;rw[<-bV];exact h2
    ·exact⟨.bool false,λh'=>absurd h' hj⟩
   obtain⟨f,hf⟩:=PU fp;refine⟨.agg ((List.range (T t).length).map f).toArray,?_,_,rfl,?_⟩
   ·refine run_loadAt_mid w b _ t _ d (λj v hj=>?_) jY (by rw[<-JD];exact hd) (by simp[JG,cf]);rw[bP]at hj;rcases aT j (T t).length with aj|qS
    ·simp[iS aj]at hj;rw[<-hj];exact(hf j aj).1
    ·simp[aW,qS]at hj
   ·refine⟨by simp[uA],λj x v hx hv=>?_⟩;rw[BG]at hx;cases bV:(T t)[j]?with
    |none=>simp[bV]at hx
    |some k=>
     simp only[bV,cj,ae]at hx;have aj:j<(T t).length:=by
      rcases aT j (T t).length with h'|h'
      ·exact h'
      ·simp[aW h']at bV
     simp only[bP,iS aj,cj,ae]at hv;subst hx;subst hv;exact(hf j aj).2 k bV
  ·trivial
 ·rename_i e rows i off gm _;obtain⟨b,o,cH,hi,rfl,_⟩:=hx;split
  ·rename_i k hk;split
   ·obtain⟨u,h1,h2⟩:=cH.load hi hk;have BI:RX T E w st.vw (.c (lY k (cellAt rows i off))) u:=h2;refine QN BI ⟨u,?_,RS.gN BI⟩;unfold kq at gm;split at gm
    ·rename_i d jY;simp only[ae]at gm;exact JE (EP jY).1 gm h1
    ·cases gm
   ·trivial
  ·trivial
 ·trivial
end Go.Pv
namespace Go.Pv
open Go
variable {P:Program} {T:ay} {E:Env} {w:World} {V:Vw}
theorem QP (k:IntKind) (i:Int) (y:Nat) (code:BoundsCode) (h0:0<=i) (h1:i<=y):(Instr.sliceBound (.int k i) y code).run P w= .ok i.toNat w:=by simp[Instr.sliceBound,asIntOf,h0,h1]
theorem aaw {len:Nat} {hi:Option S} {high:Option Value} {h:Int} (hh:∀s,hi=some s->∃v,high=some v/\RS T E w V s v) (pG:hi=none->high=none)
 (e2:uw len hi=some h):(high=none/\h=len)\/∃k,high=some (.int k h):=by
 cases hi with
 |none=>simp only[uw,ae]at e2;exact .inl ⟨pG rfl,e2.symm⟩
 |some s=>
  obtain⟨v,rfl,hv⟩:=hh s rfl;unfold uw at e2;split at e2
  ·rename_i heq;cases heq
  ·rename_i k n heq;simp only[ae]at e2 heq;subst e2;subst heq;obtain⟨rfl,_⟩:=hv.int;exact .inr ⟨k,rfl⟩
  ·cases e2
theorem aax {lo:Option S} {low:Option Value} {l:Int} (hh:∀s,lo=some s->∃v,low=some v/\RS T E w V s v) (pG:lo=none->low=none)
 (e2:uv lo=some l):(low=none/\l=0)\/∃k,low=some (.int k l):=by
 cases lo with
 |none=>simp only[uv,ae]at e2;exact .inl ⟨pG rfl,e2.symm⟩
 |some s=>
  obtain⟨v,rfl,hv⟩:=hh s rfl;unfold uv at e2;split at e2
  ·rename_i heq;cases heq
  ·rename_i k n heq;simp only[ae]at e2 heq;subst e2;subst heq;obtain⟨rfl,_⟩:=hv.int;exact .inr ⟨k,rfl⟩
  ·cases e2
theorem JH (isSlice:Bool) (len cap:Nat) (uD:len<=cap) {lo hi:Option S} {low high:Option Value} {l h:Int}
 (hl:∀s,lo=some s->∃v,low=some v/\RS T E w V s v) (bA:lo=none->low=none)
 (hh:∀s,hi=some s->∃v,high=some v/\RS T E w V s v) (pG:hi=none->high=none)
 (e1:uv lo=some l) (e2:uw len hi=some h) (h0:0<=l) (h1:l<=h) (h2:h<=len):
 (Instr.sliceBounds isSlice len cap low high none).run P w= .ok (l.toNat,h.toNat,cap) w:=by
 have b2:∀(k:IntKind) (code:BoundsCode),(Instr.sliceBound (.int k l) h.toNat code).run P w= .ok l.toNat w:=λk code=>QP k l h.toNat code h0 (by omega);have b1:∀(k:IntKind) (code:BoundsCode),(Instr.sliceBound (.int k h) cap code).run P w= .ok h.toNat w:=λk code=>QP k h cap code (by omega) (by omega);rcases aaw hh pG e2 with⟨rfl,rfl⟩|⟨k,rfl⟩<;>rcases aax hl bA e1 with⟨rfl,rfl⟩|⟨k',rfl⟩<;>
  simp_all [Instr.sliceBounds,Sem.run_bind]
theorem aay (e:Nat) (rows:Y9) {b off cap:Nat} (h:aG T E.φ w (.sl e rows) (.slice (some ⟨b,off,none⟩) rows.length cap)) (l n:Nat) (wz:l+n<=rows.length):
 aG T E.φ w (.sl e ((rows.drop l).take n)) (.slice (if cap=l then some ⟨b,off,none⟩else some ⟨b,off+l*(T e).length,none⟩) n (cap-l)):=by
 cases h with
 |emp=>
  have:l=0:=by simp at wz;omega
  have:n=0:=by simp at wz;omega
  subst_vars;exact .emp e _
 |sl e rows b off cap cs el fr val e0 gr hb cI cP dq hlen hk hv hr hs hl gA fB hd=>
  have oN:((rows.drop l).take n).length=n:=by simp;omega
  have jC:∀r∈(rows.drop l).take n,r∈rows:=λr hr=>mK (nE hr);have kr:∀i,((rows.drop l).take n)[i]?=if i<n then rows[l+i]?else none:=by intro i;rw[fi];split<;>simp[fa]
  have ji:l*(T e).length+n*(T e).length<=rows.length*(T e).length:=by rw[<-en];exact eh _ wz
  have fb:rows.length*(T e).length<=cap*(T e).length:=eh _ cP;by_cases hc:cap=l
  ·have iq:n=0:=by omega
   subst iq;rw[aC hc];simp only[List.take_zero,hc,PV];exact .sl e [] b off 0 cs el fr val e0 gr hb (by simp;omega) (by simp) (by simp;omega) (by simp[cM]) (by simp) (by simp) (by simp) hs (by simp) (by simp) (by simp) (λhe i hi=>by simp at hi)
  ·rw[aQ hc];have key:=aG.sl (T:=T) (φ:=E.φ) (w:=w) e ((rows.drop l).take n) b (off+l*(T e).length) (cap-l) cs el fr (λi j=>val (l+i) j) e0 (λi=>gr (l+i)) hb
    (by rw[oN,Qu];omega) (by rw[oN];omega)
    (by
     have:(cap-l)*(T e).length=cap*(T e).length-l*(T e).length:=EB _ _ _;have:l*(T e).length<=cap*(T e).length:=eh _ (by omega);omega)
    (by rw[oN];simp only[cM]at*;omega) (λr bR=>hk r (jC r bR))
    (λi j hi hj=>by
     rw[oN]at hi;have:=hv (l+i) j (by omega) hj;rw[<-this];congr 1;rw[en];omega)
    (λi j r c hi hj=>by
     rw[kr]at hi;split at hi
     ·exact hr (l+i) j r c hi hj
     ·cases hi) hs
    (λi j hi hj ha=>by
     rw[oN]at hi;have:=hl (l+i) j (by omega) hj ha;rw[Qu,<-this];congr 1;rw[en];omega)
    (λg1 g2 i j hi ha=>gA g1 g2 (l+i) j (by rw[oN]at hi;omega) ha)
    (λg1 g2 i j hi ha=>fB g1 g2 (l+i) j (by rw[oN]at hi;omega) ha)
    (λhe i hi=>by
     obtain⟨d1,d2,d3⟩:=hd he (l+i) (by rw[oN]at hi;omega);exact⟨d1,by rw[d1];omega,d3⟩)
   rw[oN]at key;exact key
theorem aaz (hT:cr P T) (t:Nat) {sx:S} {u:Value} (hx:RS T E w V sx u) {lo hi mx:Option S} {low high max:Option Value}
 (hl:∀s,lo=some s->∃v,low=some v/\RS T E w V s v) (bA:lo=none->low=none)
 (hh:∀s,hi=some s->∃v,high=some v/\RS T E w V s v) (pG:hi=none->high=none) (hm:mx=none->max=none):
 (qT P T t sx lo hi mx).holds (Good E w V (Instr.sliceAt t u low high max) P T):=by
 unfold qT;split
 ·rename_i s ht;obtain rfl:=hm rfl;obtain⟨rfl,cf⟩:=hx.str;split
  ·rename_i l h e1 e2;rintro ⟨h0,h1,h2⟩;refine⟨_,?_,ET (s:=s.extract l.toNat h.toNat) ?_⟩
   ·simp only[Instr.sliceAt,Sem.run_bind,run_underlying ht,Result.andThen_ok,Instr.slice,Option.isSome_none,qL,py,Sem.run_pure,
     JH (P:=P) false s.size s.size (bh _) hl bA hh pG e1 e2 h0 h1 h2]
   ·have:(s.extract l.toNat h.toNat).size=min h.toNat s.size-l.toNat:=by simp
    simp only[hC]at*;omega
  ·trivial
 ·rename_i e' ht;obtain rfl:=hm rfl;split
  ·rename_i e rows hr;split
   ·rename_i l h e1 e2;split
    ·rename_i hc;obtain⟨rfl,al⟩:=hc;rintro ⟨h0,h1,h2⟩;have jV:=EU hx hr;obtain⟨i,z,d,cE,_,cS,_⟩:=hT.row e (by simpa using al);rcases jV.slice with⟨rfl,mR,rfl⟩|⟨b,off,cap,rfl,cH,cP⟩
     ·have:l=0:=by simp at h2;omega
      have:h=0:=by simp at h2;omega
      subst_vars;refine⟨.slice mR 0 0,?_,RS.gN (x:= .c _) jV⟩;have:=JH (P:=P) (T:=T) (E:=E) (w:=w) (V:=V) true 0 0 (bh _) hl bA hh pG e1 e2 (by omega) (by omega) (by simp);simp[Instr.sliceAt,Sem.run_bind,run_underlying ht,Instr.slice,this,sizeOf,typeInfo,cE]
     ·have fb:=JH (P:=P) (T:=T) (E:=E) (w:=w) (V:=V) true rows.length cap cP hl bA hh pG e1 e2 h0 h1 h2;have kr:=aay e rows jV l.toNat (h.toNat-l.toNat) (by omega);refine⟨_,?_,RS.gN (x:= .c _) kr⟩;simp only[Instr.sliceAt,Sem.run_bind,run_underlying ht,Result.andThen_ok,Instr.slice,fb,Sem.run_pure,sizeOf,typeInfo,run_program,cE,cS];by_cases hc:cap=l.toNat
      ·simp[hc]
      ·simp[hc,Addr.add_lit]
    ·trivial
   ·trivial
  ·trivial
 ·trivial
end Go.Pv
namespace Go.Pv
open Go
variable {P:Program} {T:ay} {E:Env} {w:World}
theorem R.aaA {r:R} {G H:S->Prop} (h:∀s,G s->H s) (hr:r.holds G):r.holds H:=by
 cases r with
 |bad=>trivial
 |v s=>exact h s hr
 |ck p s=>exact λhp=>h s (hr hp)
 |fk p s=>exact⟨hr.1,h s hr.2⟩
theorem aaB {m:Sem Value} {r:Value} (h:m.run P w= .ok r w):((do pure (Next.value (<-m)):Sem Next)).run P w= .ok (.value r) w:=by rw[Sem.run_bind,h];rfl
theorem BJ {cx:Cx} {st:St} {a:Act} (h:aM T cx E st a w) (x:Option Operand):
 (∀s,x.map (ev st)=some s->∃v,x.map a.eval=some v/\RS T E w st.vw s v)/\(x.map (ev st)=none->x.map a.eval=none):=by
 cases x with
 |none=>exact⟨λs hs=>by simp at hs,λ_=>rfl⟩
 |some x=>exact⟨λs hs=>by simp at hs;subst hs;exact⟨_,rfl,dy h x⟩,λh'=>by simp at h'⟩
theorem QQ (hT:cr P T) {cx:Cx} {st:St} {a:Act} (h:aM T cx E st a w) (o:Oper):
 (fW P T st o.op).holds (λs=>∃r,(execOp a.eval o).run P w= .ok (.value r) w/\RS T E w st.vw s r):=by
 have key:∀{m:Sem Value} {r:R},(∀(hm:execOp a.eval o=do pure (Next.value (<-m))),True)->execOp a.eval o=(do pure (Next.value (<-m)))->
  r.holds (Good E w st.vw m P T)->r.holds (λs=>∃r,(execOp a.eval o).run P w= .ok (.value r) w/\RS T E w st.vw s r):=by
  intro m r _ hm hr;refine R.aaA (λs hg=>?_) hr;obtain⟨v,h1,h2⟩:=hg;exact⟨v,by rw[hm];exact aaB h1,h2⟩
 unfold fW;split
 ·rename_i x ho;exact⟨_,by simp[execOp,ho],dy h x⟩
 ·rename_i x ho;exact⟨_,by simp[execOp,ho],dy h x⟩
 ·rename_i op t x y _ ho;exact key (λ_=>trivial) (by simp only[execOp,ho]) (aae op t (dy h x) (dy h y) x y)
 ·rename_i op t x ho;exact key (λ_=>trivial) (by simp only[execOp,ho]) (aaf op (dy h x))
 ·rename_i s d x ho;exact key (λ_=>trivial) (by simp only[execOp,ho]) (aag s d (dy h x))
 ·rename_i x ho;exact aal (dy h x) o x a rfl ho
 ·rename_i s x f ho;exact key (λ_=>trivial) (by simp only[execOp,ho]) (aam hT s f (dy h x))
 ·rename_i t x i ho;exact key (λ_=>trivial) (by simp only[execOp,ho]) (aao hT t (dy h x) (dy h i))
 ·rename_i t x i ho;exact key (λ_=>trivial) (by simp only[execOp,ho]) (aap t (dy h x) (dy h i))
 ·rename_i t x lo hi mx ho;exact key (λ_=>trivial) (by simp only[execOp,ho]) (aaz hT t (dy h x) (BJ h lo).1 (BJ h lo).2 (BJ h hi).1 (BJ h hi).2 (BJ h mx).2)
 ·rename_i x j ho;exact key (λ_=>trivial) (by simp only[execOp,ho]) (aaq j (dy h x))
 ·rename_i t x ho;exact key (λ_=>trivial) (by simp only[execOp,ho]) (QO hT h t (dy h x))
 ·rename_i t parts ho;refine key (λ_=>trivial) (by simp only[execOp,ho]) (aav hT t (parts.toList.map λp=>(p.1,ev st p.2)) (parts.map λx=>(x.fst,a.eval x.snd)) (by simp) (λj p v hp hv=>?_));rw[bP]at hp;rw[Zs,bP]at hv;cases hq:parts.toList[j]?with
  |none=>simp[hq]at hp
  |some q=>simp only[hq,cj,ae]at hp hv;subst hp;subst hv;exact dy h q.2
 ·rename_i c ho;unfold uy;split
  ·rename_i hc;split
   ·rename_i x t hx ht;refine key (λ_=>trivial) ?_ (aai t o.type (dy h x));have h1:c.args=#[x]:=v7.1 (by rw[hx]);have h2:c.argTypes=#[t]:=v7.1 (by rw[ht]);simp only[execOp,ho,resolve,hc,h1,h2,Zt,bu,mL];rfl
   ·trivial
  ·rename_i hc;split
   ·rename_i x y hx;refine key (λ_=>trivial) ?_ (aaj c.argTypes o.type (dy h x) (dy h y));have h1:c.args=#[x,y]:=v7.1 (by rw[hx]);simp only[execOp,ho,resolve,hc,h1,Zt,bu,mL];rfl
   ·trivial
  ·rename_i hc;split
   ·rename_i x y hx;refine key (λ_=>trivial) ?_ (aak c.argTypes o.type (dy h x) (dy h y));have h1:c.args=#[x,y]:=v7.1 (by rw[hx]);simp only[execOp,ho,resolve,hc,h1,Zt,bu,mL];rfl
   ·trivial
  ·trivial
 ·trivial
theorem aM.put {cx:Cx} {st:St} {a:Act} (h:aM T cx E st a w) (d:amR) {s:S} {v:Value} (hv:RS T E w st.vw s v):
 aM T cx E (st.put d s) (a.put d v) w:=by
 cases d with
 |none=>exact h
 |some d=>
  refine⟨by simp[St.put,Act.put,h.len],λi s' u hs hu=>?_,h.boxes,h.inj,h.defers,h.ext,by simpa[St.put]using h.fix,h.oI,h.hi,h.so⟩;simp only[St.put,Act.put]at hs hu⊢;rw[kh]at hs;rw[Zo]at hu;by_cases hd:d=i
  ·subst hd;simp only[cJ]at hs hu;split at hs
   ·split at hu
    ·simp only[ae]at hs hu;subst hs;subst hu;exact hv
    ·cases hu
   ·cases hs
  ·rw[aQ hd]at hs hu;exact h.aq i s' u hs hu
end Go.Pv
namespace Go.Pv
open Go
variable {P:Program} {T:ay} {E:Env} {w:World}
def cp {α:Type} (f:Nat->α) (i:Nat) (x:α):Nat->α:=λj=>if j=i then x else f j
theorem bG {α:Type} (f:Nat->α) (i:Nat) (x:α):cp f i x i=x:=by simp[cp]
theorem b6 {α:Type} (f:Nat->α) {i j:Nat} (x:α) (h:j≠i):cp f i x j=f j:=by simp[cp,h]
theorem gC.same (E:Env) (w:World) (hs:Nat->Bool) {gen gen':amP} (h:∀g,gen g<=gen' g):gC E w ⟨hs,gen⟩ E w ⟨hs,gen'⟩:=
 ⟨dQ.refl _ _,λ_ hb=>⟨hb,rfl,rfl,λ_=>⟨rfl,rfl⟩⟩,h,λ_ _ _ hg _=>⟨hg,rfl⟩,rfl⟩
theorem aM.step {cx:Cx} {st:St} {a:Act} {E':Env} {w':World} {gen':amP} (h:aM T cx E st a w) (k:gC E w st.vw E' w' ⟨hasB st.boxes,gen'⟩)
 (hb:∀(id:Nat) l,st.boxes[id]?=some (some l)->l≠[]->E'.κ (E.β id)=E.κ (E.β id)/\w'.heap[E.β id]?=w.heap[E.β id]?) (ext:Ext cx E' w')
 (aaC:∀id,st.aq.length<=id->E'.β id=E.β id/\E'.ο id=E.ο id) (hi:HI T E' w') (qS:∀g,5000<=g->gen' g=st.gen g:=by exact λ_ _=>rfl):aM T cx E' {st with gen:=gen'} a w':=by
 have fN:∀(id:Nat) l,st.boxes[id]?=some (some l)->l≠[]->E'.β id=E.β id/\E'.ο id=E.ο id/\(E.β id<w.heap.size->E'.φ (E.β id)=E.φ (E.β id)/\E'.κ (E.β id)=E.κ (E.β id)):=
  λid l hl hn=>(k.ptr id (mQ hl hn)).2
 refine⟨h.len,λi s u hs hu=>RS.bo k (h.aq i s u hs hu),λid l hl hn=>?_,λid dt l l' hl bA hn eS he=>?_,h.defers,ext,
  ⟨h.fix.1,λid aE=>?_,λid l aE hl hn=>by
   obtain⟨_,_,_,_,h3,_⟩:=h.boxes id l hl hn;rw[(fN id l hl hn).1,(hb id l hl hn).1,((fN id l hl hn).2.2 (ko h3)).1];exact h.fix.2.2 id l aE hl hn⟩,λid l aE hl hn cL=>by
   rw[(fN id l hl hn).1]at cL⊢;exact h.oI id l aE hl hn (by rw[<-(hb id l hl hn).1];exact cL),hi,λb g hb hg h0=>h.EM k qS b g hb hg h0⟩
 ·obtain⟨h1,h2,cs,el,h3,h4,h5⟩:=h.boxes id l hl hn;obtain⟨k1,k3⟩:=hb id l hl hn;obtain⟨b1,b2,b3⟩:=fN id l hl hn;have b3:=(b3 (ko h3)).1;exact⟨by rw[b1,k1];exact h1,by rw[b1,b2,b3];exact h2,cs,el,by rw[b1,k3];exact h3,by rw[b2];exact h4,by rw[b2];exact bF.bo k h5⟩
 ·exact h.inj id dt l l' hl bA hn eS (by rw[<-(fN id l hl hn).1,<-(fN dt l' bA eS).1];exact he)
 ·obtain⟨f1,f2⟩:=aaC id (by have:=h.fix.1;omega);obtain⟨g1,g2⟩:=h.fix.2.1 id aE;exact⟨f1.trans g1,f2.trans g2⟩
theorem aM.BK {cx:Cx} {st:St} {a:Act} (h:aM T cx E st a w) {d:Nat} {l:amT} (hd:st.boxes[d]?=some none) (hP:d<st.aq.length)
 (BL:By T E w st.vw d l)
 (wA:l≠[]->∀(id:Nat) l,st.boxes[id]?=some (some l)->l≠[]->E.β id≠E.β d) (aaD:l≠[]->E.κ (E.β d)= .box->cx.w.heap.size<=E.β d):
 aM T cx E {st with boxes:=st.boxes.set d (some l)} a w:=by
 have aj:d<st.boxes.length:=by
  rcases aT d st.boxes.length with h'|h'
  ·exact h'
  ·simp[aW h']at hd
 have hk:gC E w st.vw E w ({st with boxes:=st.boxes.set d (some l)}:St).vw:=by
  refine⟨dQ.refl _ _,λb hb=>⟨?_,rfl,rfl,λ_=>⟨rfl,rfl⟩⟩,λ_=>bh _,λb g _ h _=>⟨h,rfl⟩,rfl⟩;obtain⟨l',bA,hn⟩:=qQ (bs:=st.boxes) hb;have e:d≠b:=by rintro rfl;rw[hd]at bA;cases bA
  exact mQ (by simp only[St.vw];rw[kh,aQ e];exact bA) hn
 have inv:∀(id:Nat) l',(st.boxes.set d (some l))[id]?=some (some l')->(id=d/\l'=l)\/(id≠d/\st.boxes[id]?=some (some l')):=by
  intro id l' hl;rw[kh]at hl;by_cases e:d=id
  ·subst e;simp[aj]at hl;exact .inl ⟨rfl,hl.symm⟩
  ·rw[aQ e]at hl;exact .inr ⟨λe'=>e e'.symm,hl⟩
 refine⟨h.len,λi s u hs hu=>RS.bo hk (h.aq i s u hs hu),λid l' hl hn=>?_,λid dt l1 l2 h1 h2 n1 n2 he=>?_,h.defers,h.ext,⟨h.fix.1,h.fix.2.1,λid l' aE hl hn=>?_⟩,λid l' aE hl hn cL=>?_,h.hi,λb g hb hg h0=>h.EM hk (λ_ _=>rfl) b g hb hg h0⟩
 ·rcases inv id l' hl with⟨rfl,rfl⟩|⟨_,hl⟩
  ·obtain⟨h1,h2,cs,el,h3,h4,h5⟩:=BL hn;exact⟨h1,h2,cs,el,h3,h4,bF.bo hk h5⟩
  ·obtain⟨h1,h2,cs,el,h3,h4,h5⟩:=h.boxes id l' hl hn;exact⟨h1,h2,cs,el,h3,h4,bF.bo hk h5⟩
 ·rcases inv id l1 h1 with⟨e1,x1⟩|⟨m1,g1⟩<;>rcases inv dt l2 h2 with⟨e2,x2⟩|⟨m2,g2⟩
  ·rw[e1,e2]
  ·exact absurd (by rw[<-e1];exact he.symm) (wA (by rw[<-x1];exact n1) dt l2 g2 n2)
  ·exact absurd (by rw[<-e2];exact he) (wA (by rw[<-x2];exact n2) id l1 g1 n1)
  ·exact h.inj id dt l1 l2 g1 g2 n1 n2 he
 ·rcases inv id l' hl with⟨e1,e2⟩|⟨_,g1⟩
  ·have:=h.fix.1;omega
  ·exact h.fix.2.2 id l' aE g1 hn
 ·rcases inv id l' hl with⟨e1,e2⟩|⟨_,g1⟩
  ·rw[e1]at cL⊢;exact aaD (by rw[<-e2];exact hn) cL
  ·exact h.oI id l' aE g1 hn cL
def Env.new (E:Env) (nb:Nat) (r:gB) (k:amP):Env:={E with φ:=cp E.φ nb k,κ:=cp E.κ nb r}
theorem dQ.alloc {φ:anh} (h0:∀e,φ w.heap.size e=0) (o:Obj) (k:amP):dQ φ w (cp φ w.heap.size k) (w.alloc o):=by
 refine⟨λb t=>?_,by simp,λb cs el fr hb=>⟨cs,?_,rfl,λ_ _ _=> .inl rfl⟩⟩
 ·by_cases e:b=w.heap.size
  ·subst e;rw[h0];exact gk _
  ·rw[b6 _ _ e];exact bh _
 ·rw[heap_alloc_old w o (ko hb)];exact hb
theorem Ext.alloc {cx:Cx} (h:Ext cx E w) (o:Obj) (r:gB) (k:amP):Ext cx (E.new w.heap.size r k) (w.alloc o):=by
 refine⟨h.os,h.tape,h.output,h.fo,h.mono.trans (dQ.alloc (h.fresh _ (bh _)) o k),λb hb hf=>?_,λb hb=>?_⟩
 ·have al:b≠w.heap.size:=by have:=h.mono.size;omega
  obtain⟨h1,h2,h3⟩:=h.dB b hb hf;exact⟨λhw=>by rw[heap_alloc_old w o (by have:=h.mono.size;omega)];exact h1 hw,by simp only[Env.new,b6 _ _ al];exact h2,by simp only[Env.new,b6 _ _ al];exact h3⟩
 ·simp at hb;simp only[Env.new];rw[b6 _ _ (by omega)];exact h.fresh b (by omega)
theorem gC.alloc {cx:Cx} (h:Ext cx E w) (V:Vw) (o:Obj) (r:gB) (k:amP):gC E w V (E.new w.heap.size r k) (w.alloc o) V:=by
 refine⟨dQ.alloc (h.fresh _ (bh _)) o k,λb hb=>⟨hb,rfl,rfl,λaj=>?_⟩,λ_=>bh _,λb g hb hg _=>?_,rfl⟩
 ·simp only[Env.new];rw[b6 _ _ (by omega),b6 _ _ (by omega)];exact⟨rfl,rfl⟩
 ·simp only[Env.new];rw[b6 _ _ (by omega),b6 _ _ (by omega)];exact⟨hg,rfl⟩
theorem HI.alloc {cx:Cx} (h:HI T E w) (hx:Ext cx E w) (o:Obj) (r:gB) (k:amP) (hk:∀j,bY (j/4096)=true->k j=0):HI T (E.new w.heap.size r k) (w.alloc o):=by
 refine h.step (dQ.alloc (hx.fresh _ (bh _)) o k) λb j hj hp=>?_;by_cases e:b=w.heap.size
 ·subst e;simp only[Env.new,bG]at hp;rw[hk j hj]at hp;omega
 ·simp only[Env.new,b6 _ _ e]at hp⊢;have aj:b<w.heap.size:=by
   rcases aT b w.heap.size with h'|h'
   ·exact h'
   ·rw[hx.fresh b h']at hp;omega
  exact⟨hp,trivial,trivial,heap_alloc_old w o aj⟩
theorem aM.alloc {cx:Cx} {st:St} {a:Act} (h:aM T cx E st a w) (o:Obj) (r:gB) (k:amP) (hi:HI T (E.new w.heap.size r k) (w.alloc o)):aM T cx (E.new w.heap.size r k) st a (w.alloc o):=by
 refine aM.step (gen':=st.gen) h (gC.alloc h.ext _ o r k) (λid l hl hn=>?_) (h.ext.alloc o r k) (λ_ _=>⟨rfl,rfl⟩) hi
 ·obtain⟨h1,h2,cs,el,h3,_⟩:=h.boxes id l hl hn;have aj:=ko h3;simp only[Env.new];rw[b6 _ _ (by omega)];exact⟨rfl,heap_alloc_old w o aj⟩
def St.bC (st:St) (b:Nat) (l:amT):St:={st with boxes:=st.boxes.set b (some l)}
def Env.box (E:Env) (d nb o:Nat):Env:={E with β:=cp E.β d nb,ο:=cp E.ο d o}
theorem gC.wB (E:Env) (w:World) {V:Vw} {d:Nat} (hd:V.hs d=false) (nb o:Nat):gC E w V (E.box d nb o) w V:=by
 refine⟨dQ.refl _ _,λb hb=>?_,λ_=>bh _,λb g _ hg _=>⟨hg,rfl⟩,rfl⟩;have al:b≠d:=by rintro rfl;rw[hd]at hb;cases hb
 exact⟨hb,by simp only[Env.box];exact b6 _ _ al,by simp only[Env.box];exact b6 _ _ al,λ_=>⟨rfl,rfl⟩⟩
theorem aM.wB {cx:Cx} {st:St} {a:Act} (h:aM T cx E st a w) {d:Nat} (hd:st.boxes[d]?=some none) (hP:d<st.aq.length) (nb o:Nat):aM T cx (E.box d nb o) st a w:=by
 have al:st.vw.hs d=false:=by simp[St.vw,hasB,hd]
 exact aM.step (gen':=st.gen) h (E':=E.box d nb o) (w':=w) (gC.wB E w al nb o)
  (λ_ _ _ _=>⟨rfl,rfl⟩) ⟨h.ext.os,h.ext.tape,h.ext.output,h.ext.fo,h.ext.mono,h.ext.dB,h.ext.fresh⟩
  (λid aE=>⟨b6 _ _ (by omega),b6 _ _ (by omega)⟩) ⟨h.hi.zero,h.hi.rows⟩
theorem aM.aaE {cx:Cx} {st:St} {a:Act} (h:aM T cx E st a w) {d:Nat} {l:amT} {cs:ane} (el:TypeId) (hd:st.boxes[d]?=some none) (hP:d<st.aq.length)
 (hn:l≠[]) (hl:bF T E w st.vw l cs.toList):
 ∃E',aM T cx E' (st.bC d l) a (w.alloc (.cells cs el))/\RX T E' (w.alloc (.cells cs el)) (st.bC d l).vw (.ptr d 0) (.pointer (some ⟨w.heap.size,0,none⟩)):=by
 have h1:=(h.alloc (.cells cs el) .box (λ_=>0) (h.hi.alloc h.ext _ _ _ λ_ _=>rfl)).wB hd hP w.heap.size 0;refine⟨(E.new w.heap.size .box (λ_=>0)).box d w.heap.size 0,h1.BK hd hP (λ_=>⟨?_,?_,cs,el,?_,?_,?_⟩) ?_ (λ_ _=>by simp only[Env.box,bG];exact h.ext.mono.size),mQ (l:=l) ?_ hn,?_,?_,?_⟩
 ·simp[Env.box,Env.new,bG,gB.kN]
 ·simp[Env.box,Env.new,bG]
 ·simp only[Env.box,bG];exact heap_alloc_new _ _
 ·simp only[Env.box,bG];have:=hl.1;simp at this;omega
 ·have k1:=gC.alloc h.ext st.vw (.cells cs el) .box (λ_=>0);have k2:=gC.wB (E.new w.heap.size .box (λ_=>0)) (w.alloc (.cells cs el)) (V:=st.vw) (d:=d) (by simp[St.vw,hasB,hd]) w.heap.size 0;have h3:(cs.toList.drop 0).take l.length=cs.toList:=by have:=hl.1;rw[EC,<-this,Bl]
  simp only[Env.box,bG];rw[h3];exact bF.bo k2 (bF.bo k1 hl)
 ·intro _ id l' bA eS he;have al:id≠d:=by rintro rfl;rw[hd]at bA;simp at bA
  simp only[Env.box,Env.new,bG,b6 _ _ al]at he;obtain⟨_,_,bU,iD,h3,_⟩:=h.boxes id l' bA eS;have:=ko h3;omega
 ·have aj:d<st.boxes.length:=by
   rcases aT d st.boxes.length with h'|h'
   ·exact h'
   ·simp[aW h']at hd
  simp only[St.bC,St.vw];rw[kh];simp[aj]
 ·simp[Env.box,Env.new,bG]
 ·simp[Env.box,bG]
 ·simp[Env.box,bG]
end Go.Pv
namespace Go.Pv
open Go
variable {P:Program} {T:ay} {E:Env} {w:World}
theorem aaF (vs:ana) (off o n:Nat) (cs:ane) (h1:off+vs.length<=n) (h2:o+n<=cs.size):
 (gM ((cs.toList.drop o).take n).toArray off vs).toList=((gM cs (o+off) vs).toList.drop o).take n:=by
 apply oD;intro j;rw[fi,fa,jO,jO];have cf:((cs.toList.drop o).take n).toArray.size=n:=by simp;omega
 by_cases hj:j<n
 ·rw[aC hj];by_cases gE:off<=j/\j<off+vs.length
  ·have e1:=sr vs off ((cs.toList.drop o).take n).toArray (j-off) (by rw[cf];exact h1) (by omega);have e2:=sr vs (o+off) cs (j-off) (by omega) (by omega);rw[show off+(j-off)=j by omega]at e1;rw[show o+off+(j-off)=o+j by omega]at e2;rw[e1,e2]
  ·rw[oK vs off _ j (by omega),oK vs (o+off) cs (o+j) (by omega)];simp only[Jl];rw[fi,aC hj,fa,jO]
 ·rw[aQ hj,tY (by rw[oJ,cf];omega)]
theorem aaG {l:amT} (h:l≠[]) (o:Nat) (r:amT):gD l o r≠[]:=by intro e;have:=BF r l o;rw[e]at this;exact h (jz.1 this.symm)
theorem aM.store {cx:Cx} {st:St} {a:Act} (h:aM T cx E st a w) {b off:Nat} {l l':amT} {vs:ana} (hb:st.boxes[b]?=some (some l)) (al:l≠[])
 (hl:bF T E w st.vw l' vs) (hle:off+l'.length<=l.length):
 aM T cx E (st.bC b (gD l off l')) a (w.setCells (E.β b) (E.ο b+off) vs):=by
 obtain⟨b1,b2,cs,el,b3,b4,b5⟩:=h.boxes b l hb al;have aj:b<st.boxes.length:=by
  rcases aT b st.boxes.length with h'|h'
  ·exact h'
  ·simp[aW h']at hb
 have l5:vs.length=l'.length:=hl.1;have cT:∀(id:Nat) l1,(st.boxes.set b (some (gD l off l')))[id]?=some (some l1)->∃m,st.boxes[id]?=some (some m)/\(l1≠[]->m≠[])/\((id=b/\l1=gD l off l')\/(id≠b/\m=l1)):=by
  intro id l1 h1;rw[kh]at h1;by_cases e:b=id
  ·subst e;simp[aj]at h1;exact⟨l,hb,λ_=>al, .inl ⟨rfl,h1.symm⟩⟩
  ·rw[aQ e]at h1;exact⟨l1,h1,λh=>h, .inr ⟨λe'=>e e'.symm,rfl⟩⟩
 have hm:dQ E.φ w E.φ (w.setCells (E.β b) (E.ο b+off) vs):=by
  refine⟨λ_ _=>bh _,by rw[su];exact bh _,λi bU iD fr hi=>?_⟩;by_cases e:i=E.β b
  ·subst e;rw[b3]at hi;simp only[ae,Obj.cells.injEq]at hi;obtain⟨rfl,rfl,rfl⟩:=hi;exact⟨_,qR _ vs _ w b3,oJ _ _ _,λk j hj=> .inl (oK _ _ _ _ (.inl (by have:=b2 k;omega)))⟩
  ·exact⟨bU,by rw[jU _ _ e];exact hi,rfl,λ_ _ _=> .inl rfl⟩
 have hk:gC E w st.vw E (w.setCells (E.β b) (E.ο b+off) vs) (st.bC b (gD l off l')).vw:=by
  refine⟨hm,λi hi=>⟨?_,rfl,rfl,λ_=>⟨rfl,rfl⟩⟩,λ_=>bh _,λi g _ hg _=>⟨hg,rfl⟩,rfl⟩;obtain⟨m,fX,eS⟩:=qQ (bs:=st.boxes) hi;by_cases e:b=i
  ·subst e;exact mQ (l:=gD l off l') (by simp[St.bC,St.vw,aj]) (aaG al _ _)
  ·exact mQ (l:=m) (by simp only[St.bC,St.vw];rw[kh,aQ e];exact fX) eS
 have hU:=Bz (E.β b) vs (E.ο b+off) w;refine⟨h.len,λi s u hs hu=>RS.bo hk (h.aq i s u hs hu),λid l1 h1 n1=>?_,λid dt l1 l2 h1 h2 n1 n2 he=>?_,h.defers,?_,⟨h.fix.1,h.fix.2.1,λid l1 aE h1 n1=>?_⟩,λid l1 aE h1 n1 cL=>?_,h.hi.step hm λi k hk hp=>⟨hp,rfl,rfl,jU _ _ (λe=>by
  have:=(h.hi.zero i k hk hp).2.2.1;rw[e,b1]at this;cases this) vs _ w⟩,λi g hb hg h0=>h.EM hk (λ_ _=>rfl) i g hb hg h0⟩
 ·obtain⟨m,g1,g2,g3⟩:=cT id l1 h1;rcases g3 with⟨rfl,rfl⟩|⟨aE,rfl⟩
  ·refine⟨b1,b2,_,el,qR _ vs _ w b3,by rw[BF,oJ];exact b4,?_⟩;rw[BF,<-aaF vs off (E.ο id) l.length cs (by omega) b4];exact bF.bo hk (bF.EV l' vs off l _ hl (by simpa using b5))
  ·obtain⟨c1,c2,bU,iD,c3,c4,c5⟩:=h.boxes id m g1 n1;refine⟨c1,c2,bU,iD,?_,c4,bF.bo hk c5⟩;rw[jU _ _ (λe'=>aE (h.inj id b m l g1 hb n1 al e'))];exact c3
 ·obtain⟨m1,g1,x1,_⟩:=cT id l1 h1;obtain⟨m2,g2,x2,_⟩:=cT dt l2 h2;exact h.inj id dt m1 m2 g1 g2 (x1 n1) (x2 n2) he
 ·refine⟨by rw[hU.1];exact h.ext.os,by rw[hU.2.1];exact h.ext.tape,by rw[hU.2.2];exact h.ext.output,h.ext.fo,h.ext.mono.trans hm,λi hi hf=>?_,λi hi=>?_⟩
  ·obtain⟨f1,f2,f3⟩:=h.ext.dB i hi hf;refine⟨λhw=>?_,f2,f3⟩;rw[jU _ _ (λe=>by rw[e]at f3;rw[f3]at b1;cases b1)];exact f1 hw
  ·rw[su]at hi;exact h.ext.fresh i hi
 ·obtain⟨m,g1,x1,_⟩:=cT id l1 h1;exact h.fix.2.2 id m aE g1 (x1 n1)
 ·obtain⟨m,g1,x1,_⟩:=cT id l1 h1;exact h.oI id m aE g1 (x1 n1) cL
def X.fq (k:Kd):X->Option C
 | .c v=>if v.kd=k then some v else none
 | .own e _ _ rows=>if k= .sl e then some (.sl e rows)else none
 | .bc=>match k with| .sl e=>some (.sl e [])|_=>none
 |_=>none
def X.gO (k:Kd) (x:X):Option C:=match k with| .any=>some .any|k=>x.fq k
def du:List Kd->List X->Option (List C)
 |[],[]=>some []
 |k::ks,x::xs=>
  match x.gO k,du ks xs with
  |some c,some r=>some (c::r)
  |_,_=>none
 |_,_=>none
theorem aaH {k:Kd} {x:X} {c:C} {V:Vw} {u:Value} (h:x.fq k=some c) (hx:RX T E w V x u):c.kd=k/\aG T E.φ w c u:=by
 cases x with
 |c v=>
  simp only[X.fq]at h;split at h
  ·rename_i hk;simp only[ae]at h;subst h;exact⟨hk,hx⟩
  ·cases h
 |own e g n rows=>
  simp only[X.fq]at h;split at h
  ·rename_i hk;simp only[ae]at h;subst h;exact⟨hk.symm,hx.1⟩
  ·cases h
 |bc=>cases k<;>simp[X.fq]at h;subst h;have hx:u=_:=hx;subst hx;exact⟨rfl, .nil _⟩
 |_=>simp[X.fq]at h
theorem aaI {k:Kd} {x:X} {c:C} {V:Vw} {u:Value} (h:x.gO k=some c) (hx:RX T E w V x u):c.kd=k/\aG T E.φ w c u:=by
 unfold X.gO at h;split at h
 ·simp only[ae]at h;subst h;exact⟨rfl, .any u hx.jW⟩
 ·exact aaH h hx
theorem yO {V:Vw}:∀{ks:amQ} {xs:amT} {r:amS} {us:ana},du ks xs=some r->bF T E w V xs us->
 r.map C.kd=ks/\∀(j:Nat) c,r[j]?=some c->∃u,us[j]?=some u/\aG T E.φ w c u
 |[],[],r,us,h,_=>by simp[du]at h;subst h;exact⟨rfl,λj c hc=>by simp at hc⟩
 |[],_::_,_,_,h,_=>by simp[du]at h
 |_::_,[],_,_,h,_=>by simp[du]at h
 |k::ks,x::xs,r,us,h,hx=>by
  simp only[du]at h;split at h
  ·rename_i c r' hc hr;simp only[ae]at h;subst h;cases us with
   |nil=>have:=hx.1;simp at this
   |cons u us=>
    obtain⟨h1,h2⟩:=aaI hc (hx.2 0 x u rfl rfl);obtain⟨h3,h4⟩:=yO hr (us:=us) ⟨by have:=hx.1;simp at this;exact this,λj y v hy hv=>hx.2 (j+1) y v (by simpa using hy) (by simpa using hv)⟩;refine⟨by simp[h1,h3],λj c' hj=>?_⟩;cases j with
    |zero=>simp at hj;subst hj;exact⟨u,rfl,h2⟩
    |succ j=>simp at hj;simpa using h4 j c' hj
  ·cases h
def jD (ks:amQ):Nat->List X->Option (List (List C))
 |0,_=>some []
 |n+1,xs=>
  match du ks (xs.take ks.length),jD ks n (xs.drop ks.length)with
  |some r,some rs=>some (r::rs)
  |_,_=>none
theorem bF.take {V:Vw} {l:amT} {us:ana} (h:bF T E w V l us) (n:Nat):bF T E w V (l.take n) (us.take n):=by
 refine⟨by simp[h.1],λj x u hx hu=>?_⟩;rw[fi]at hx hu;split at hx
 ·rename_i hj;rw[aC hj]at hu;exact h.2 j x u hx hu
 ·cases hx
theorem bF.drop {V:Vw} {l:amT} {us:ana} (h:bF T E w V l us) (n:Nat):bF T E w V (l.drop n) (us.drop n):=by refine⟨by simp[h.1],λj x u hx hu=>?_⟩;rw[fa]at hx hu;exact h.2 (n+j) x u hx hu
theorem JI {V:Vw} {ks:amQ}:∀{n:Nat} {xs:amT} {rows:Y9} {us:ana},jD ks n xs=some rows->bF T E w V xs us->
 rows.length=n/\(∀r∈rows,r.map C.kd=ks)/\∀(i j:Nat) r c,rows[i]?=some r->r[j]?=some c->∃u,us[i*ks.length+j]?=some u/\aG T E.φ w c u
 |0,xs,rows,us,h,_=>by simp[jD]at h;subst h;exact⟨rfl,by simp,λi j r c hr=>by simp at hr⟩
 |n+1,xs,rows,us,h,hx=>by
  simp only[jD]at h;split at h
  ·rename_i r rs hr pH;simp only[ae]at h;subst h;obtain⟨a1,a2⟩:=yO hr (hx.take ks.length);obtain⟨b1,b2,b3⟩:=JI pH (hx.drop ks.length);refine⟨by simp[b1],by intro r' bR;simp at bR;rcases bR with rfl|bR;exact a1;exact b2 r' bR,λi j r' c hi hj=>?_⟩;cases i with
   |zero=>
    simp at hi;subst hi;obtain⟨u,hu,hc⟩:=a2 j c hj;rw[fi]at hu;split at hu
    ·exact⟨u,by simpa using hu,hc⟩
    ·cases hu
   |succ i=>simp at hi;obtain⟨u,hu,hc⟩:=b3 i j r' c hi hj;rw[fa]at hu;exact⟨u,by rw[<-hu,en];congr 1;omega,hc⟩
  ·cases h
structure fO (T:ay) (E:Env) (w:World) (e n:Nat) (cs:Nat->Option Value):Prop where
 s:bY e=true->∀k gs s m i,dh (base e)=some (k,gs)->(s,m)∈gs->i<n->∃r:amS,r.map C.kd=((T (base e)).drop s).take m/\T.G e s r/\
  ∀(j:Nat) c,r[j]?=some c->∃u,cs (i*k+s+j)=some u/\aG T E.φ w c u
 w:2000<=e->∀i j:Nat,i<n->(T e)[j]?=some .any->∃c u,(T (base e))[j]?=some c.kd/\cs (i*(T e).length+j)=some u/\aG T E.φ w c u
theorem fO.low {e n:Nat} {cs:Nat->Option Value} (h:e<1000):fO T E w e n cs:=
 ⟨λhs=>by simp[bY]at hs;omega,λh'=>by omega⟩
theorem aM.newRow (hT:cr P T) {cx:Cx} {st:St} {a:Act} (h:aM T cx E st a w) (e g:Nat) (rows:Y9) (cs:ane) (el:TypeId) (cap:Nat)
 (cP:rows.length<=cap) (dq:cap*(T e).length<=cs.size) (hlen:rows.length<=cM) (hk:∀r∈rows,r.map C.kd=T e)
 (hr:∀(i j:Nat) r c,rows[i]?=some r->r[j]?=some c->∃u,cs[i*(T e).length+j]?=some u/\aG T E.φ w c u)
 (al:T e≠[]) (fu:fO T E w e rows.length λj=>cs[j]?) (cz:e≠1553) (oO:g≠6053):
 ∃E',aM T cx E' st a (w.alloc (.cells cs el))/\RX T E' (w.alloc (.cells cs el)) st.vw (.own e g (st.gen g) rows) (.slice (some ⟨w.heap.size,0,none⟩) rows.length cap):=by
 have hn:rows.length*(T e).length<=cap*(T e).length:=eh _ cP;have hm:=dQ.alloc (w:=w) (h.ext.fresh _ (bh _)) (.cells cs el) (λk=>if k=key T e 0 then rows.length*(T e).length else 0);have pI:key T e 0=e*4096:=by simp[key]
 have JJ:∀i j,i<rows.length->j<(T e).length->cs[i*(T e).length+j]?=some ((cs[i*(T e).length+j]?).getD (.bool false)):=λi j hi hj=>by
  have:i*(T e).length+j<cs.size:=by have:(i+1)*(T e).length<=rows.length*(T e).length:=eh _ hi;rw[en]at this;omega
  simp[this]
 have ir:HI T (E.new w.heap.size (.row g) (λk=>if k=key T e 0 then rows.length*(T e).length else 0)) (w.alloc (.cells cs el)):=by
  by_cases hs:bY e=true
  ·obtain⟨wC,g1,g2,g3⟩:=hT.whole e (by simp[bY]at hs;omega) al (.inr hs);refine⟨λb k bV hp=>?_,λb e1 n gs s m i he hl hg hi=>?_⟩
   ·by_cases e1:b=w.heap.size
    ·subst e1;simp only[Env.new,bG]at hp⊢;split at hp
     ·rename_i dG;subst dG;exact⟨by rw[pI];omega,λk' bV=>aQ bV,rfl,cs,el,heap_alloc_new _ _⟩
     ·omega
    ·simp only[Env.new,b6 _ _ e1]at hp⊢;obtain⟨z1,z2,z3,bU,iD,z4⟩:=h.hi.zero b k bV hp;exact⟨z1,z2,z3,bU,iD,by rw[heap_alloc_old w _ (ko z4)];exact z4⟩
   ·by_cases e2:b=w.heap.size
    ·subst e2;simp only[Env.new,bG]at hi;have hz:n≠0:=by rintro rfl;unfold dh at hl;split at hl<;>simp at hl
     have hO:0<(i+1)*n:=tZ (vZ _) (sg hz);split at hi
     ·rename_i dG;rw[pI]at dG;have BM:e1=e:=by omega
      subst BM;rw[g1]at hl;simp only[ae,bT]at hl;obtain⟨rfl,rfl⟩:=hl;have cE:i<rows.length:=Nat.lt_of_succ_le (alA hi (sg hz));obtain⟨r,r1,r2,r3⟩:=fu.s hs _ _ s m i g1 hg cE;refine⟨r,r1,r2,λj c hj=>?_⟩;obtain⟨u,u1,u2⟩:=r3 j c hj;exact⟨u,by rw[World.cell?,heap_alloc_new];exact u1,u2.mono hm⟩
     ·omega
    ·simp only[Env.new,b6 _ _ e2]at hi;have hz:n≠0:=by rintro rfl;unfold dh at hl;split at hl<;>simp at hl
     have hO:0<(i+1)*n:=tZ (vZ _) (sg hz);have aj:b<w.heap.size:=by
      rcases aT b w.heap.size with h'|h'
      ·exact h'
      ·rw[h.ext.fresh b h']at hi;omega
     obtain⟨r,r1,r2,r3⟩:=h.hi.rows b e1 n gs s m i he hl hg hi;refine⟨r,r1,r2,λj c hj=>?_⟩;obtain⟨u,u1,u2⟩:=r3 j c hj;exact⟨u,by simpa[World.cell?,heap_alloc_old w _ aj]using u1,u2.mono hm⟩
  ·refine h.hi.alloc h.ext _ _ _ λj hj=>?_;rw[aQ];rintro rfl;rw[pI,sj _ (by decide)]at hj;exact hs hj
 refine⟨E.new w.heap.size (.row g) (λk=>if k=key T e 0 then rows.length*(T e).length else 0),h.alloc (.cells cs el) (.row g) _ ir,?_,?_⟩
 ·have hw:∀i j:Nat,∃c:C,2000<=e->i<rows.length->(T e)[j]?=some .any->(T (base e))[j]?=some c.kd/\aG T E.φ w c ((cs[i*(T e).length+j]?).getD (.bool false)):=λi j=>by
   by_cases hc:2000<=e/\i<rows.length/\(T e)[j]?=some .any
   ·obtain⟨c,u,c1,c2,c3⟩:=fu.w hc.1 i j hc.2.1 hc.2.2;exact⟨c,λ_ _ _=>⟨c1,by rw[c2];exact c3⟩⟩
   ·exact⟨default,λa1 a2 a3=>absurd ⟨a1,a2,a3⟩ hc⟩
  obtain⟨gr,fB⟩:∃gr:Nat->Nat->C,∀i j,2000<=e->i<rows.length->(T e)[j]?=some .any->(T (base e))[j]?=some (gr i j).kd/\aG T E.φ w (gr i j) ((cs[i*(T e).length+j]?).getD (.bool false)):=
   ⟨λi j=>Classical.choose (hw i j),λi j=>PW (hw i j)⟩
  refine .sl e rows w.heap.size 0 cap cs el (0,0) (λi j=>(cs[i*(T e).length+j]?).getD (.bool false)) e gr (heap_alloc_new _ _) (by rw[Bv];simp[Env.new,bG]) cP (by simpa using dq) hlen hk ?_ ?_
   (.self cz) (λi j _ hj ha=>hT.hl 0 i j hj ha) (λg1 _ i j hi ha=>(fB i j g1 hi ha).1) (λg1 _ i j hi ha=>((fB i j g1 hi ha).2).mono hm) (λhe=>absurd he cz)
  ·intro i j hi hj;rw[eI];exact JJ i j hi hj
  ·intro i j r c hi hj;obtain⟨u,hu,hc⟩:=hr i j r c hi hj;simp only[hu,fh];exact hc.mono hm
 ·exact⟨bh _,λ_=> .inr ⟨w.heap.size,0,rows.length,cap,rfl, .inr ⟨by simp[Env.new,bG],rfl,by simp[Env.new,bG],λe' pJ=>by simp[Env.new,bG,pJ],cs,el,heap_alloc_new _ _⟩⟩,λ_ h=>absurd h oO⟩
end Go.Pv
namespace Go.Pv
open Go
variable {P:Program} {T:ay} {E:Env} {w:World}
def eA:Nat:=137438953472
theorem aM.drew {cx:Cx} {st:St} {a:Act} (h:aM T cx E st a w):aM T cx E st a w.drew:=by
 have hm:dQ E.φ w E.φ w.drew:=⟨λ_ _=>bh _,bh _,λ_ cs _ _ hb=>⟨cs,hb,rfl,λ_ _ _=> .inl rfl⟩⟩
 exact aM.step (gen':=st.gen) h (E':=E) (w':=w.drew) ⟨hm,λb hb=>⟨hb,rfl,rfl,λ_=>⟨rfl,rfl⟩⟩,λ_=>bh _,λb g _ hg _=>⟨hg,rfl⟩,rfl⟩
  (λ_ _ _ _=>⟨rfl,rfl⟩) ⟨h.ext.os,h.ext.tape,h.ext.output,h.ext.fo,h.ext.mono.trans hm,h.ext.dB,h.ext.fresh⟩ (λ_ _=>⟨rfl,rfl⟩) (h.hi.step hm λ_ _ _ hp=>⟨hp,rfl,rfl,rfl⟩)
theorem JK {m n k:Nat} (h:m<n*k):m/k<n/\m%k<k:=by
 have hk:0<k:=by
  rcases yE k with rfl|h'
  ·omega
  ·omega
 exact⟨(Nat.div_lt_iff_lt_mul hk).2 h,mI _ hk⟩
theorem At.flat {φ:anh} {e:Nat} {rows:Y9} {b off:Nat} (h:At T φ w e rows b off) (m:Nat) (hm:m<rows.length*(T e).length):
 ∃u,w.cell? ⟨b,off+m,none⟩=some u/\∀r c,rows[m/(T e).length]?=some r->r[m%(T e).length]?=some c->aG T φ w c u:=by
 obtain⟨h1,h2⟩:=JK hm;obtain⟨cap,h⟩:=h;cases h with
 |emp=>grind
 |sl e rows b off cap cs el fr val e0 gr hb cI cP dq hlen hk hv hr hs hl gA fB hd=>
  have e1:off+m=off+m/(T e).length*(T e).length+m%(T e).length:=by have:=Jm m (T e).length;rw[oE]at this;omega
  refine⟨val (m/(T e).length) (m%(T e).length),?_,λr c h3 h4=>hr _ _ r c h3 h4⟩;rw[jA hb,e1];grind
noncomputable def wD (w:World) (b off n:Nat):List Value:=(List.range n).map λm=>(w.cell? ⟨b,off+m,none⟩).getD (.bool false)
theorem flat_get {b off n m:Nat} (hm:m<n):(wD w b off n)[m]?=some ((w.cell? ⟨b,off+m,none⟩).getD (.bool false)):=by simp[wD,iS hm]
theorem JL (b off n:Nat):(wD w b off n).length=n:=by simp[wD]
theorem At.flat_get {φ:anh} {e:Nat} {rows:Y9} {b off:Nat} (h:At T φ w e rows b off) {i j:Nat} {r:amS} {c:C} (hi:rows[i]?=some r) (hj:r[j]?=some c):
 ∃u,(wD w b off (rows.length*(T e).length))[i*(T e).length+j]?=some u/\aG T φ w c u:=by
 obtain⟨u,h1,h2⟩:=h.cell hi hj;have cE:i<rows.length:=by
  rcases aT i rows.length with h|h
  ·exact h
  ·grind
 have dR:j<(T e).length:=by
  have hm:=h.kinds r (aY hi);have:j<r.length:=by
   rcases aT j r.length with h|h
   ·exact h
   ·grind
  rw[<-hm];simpa using this
 have aj:i*(T e).length+j<rows.length*(T e).length:=by have:(i+1)*(T e).length<=rows.length*(T e).length:=eh _ cE;rw[en]at this;omega
 refine⟨u,?_,h2⟩;rw[Go.Pv.flat_get aj];grind
theorem At.src {e t:Nat} {rows:Y9} {b off cap:Nat} (h:At T E.φ w e rows b off) (ht:P.underlying t=some (.slice (base e))):
 Src P (T e).length t (.slice (some ⟨b,off,none⟩) rows.length cap) rows.length (wD w b off (rows.length*(T e).length)) w:=by
 refine Src.ofSlice w ht ⟨b,off,none⟩ rows.length cap _ (JL _ _ _) (λj u hu=>?_) (λu hu=>?_)
 ·have hj:j<rows.length*(T e).length:=by
   rcases aT j (rows.length*(T e).length)with h'|h'
   ·omega
   ·rw[aW (by rw[JL];omega)]at hu;grind
  rw[Go.Pv.flat_get hj]at hu;obtain⟨v,hv,_⟩:=h.flat j hj;rw[hv]at hu;simp at hu;subst hu;rw[Addr.add_mid];omega
 ·obtain⟨j,hj⟩:=jP hu;have dR:j<rows.length*(T e).length:=by
   rcases aT j (rows.length*(T e).length)with h'|h'
   ·omega
   ·rw[aW (by rw[JL];omega)]at hj;grind
  rw[Go.Pv.flat_get dR]at hj;obtain⟨v,hv,hc⟩:=h.flat j dR;obtain⟨h1,h2⟩:=JK dR;rw[hv]at hj;simp at hj;subst hj;have hr:rows[j/(T e).length]?=some rows[j/(T e).length]:=aP h1;have hl:j%(T e).length<rows[j/(T e).length].length:=by
   have:=h.kinds _ (fz h1);have h3:(rows[j/(T e).length].map C.kd).length=(T e).length:=by rw[this]
   simp at h3;omega
  exact aG.one (hc _ _ hr (aP hl))
theorem QR {e t:Nat} {mR:Option Addr} (ht:P.underlying t=some (.slice (base e))):Src P (T e).length t (.slice mR 0 0) 0 [] w:=by
 cases mR with
 |none=>exact Src.ofNil w ht 0
 |some a=>exact Src.ofSlice w ht a 0 0 [] (by simp) (λj u h=>by grind) (λu h=>by cases h)
theorem QS {e t:Nat} {bq:Y9} {u:Value} (h:aG T E.φ w (.sl e bq) u) (ht:P.underlying t=some (.slice (base e))):
 ∃news,Src P (T e).length t u bq.length news w/\∀(i j:Nat) r c,bq[i]?=some r->r[j]?=some c->∃v,news[i*(T e).length+j]?=some v/\aG T E.φ w c v:=by
 rcases h.slice with⟨rfl,mR,rfl⟩|⟨b,off,cap,rfl,cH,_⟩
 ·exact⟨[],QR ht,λi j r c hi=>by grind⟩
 ·exact⟨_,cH.src ht,λi j r c hi hj=>cH.flat_get hi hj⟩
theorem mod_zero {off n:Nat} (h:off%n=0):off=off/n*n:=by have:=Jm off n;grind
theorem fO.zero {e:Nat} {f:Nat->Option Value}:fO T E w e 0 f:=⟨λ_ _ _ _ _ i _ _ hi=>by omega,λ_ i _ hi=>by omega⟩
theorem At.loose (hT:cr P T) (hi:HI T E w) {e:Nat} (al:T e≠[]) (cz:e≠1553) {rows:Y9} {b off:Nat} (h:At T E.φ w e rows b off):
 fO T E w e rows.length λj=>w.cell? ⟨b,off+j,none⟩:=by
 obtain⟨cap,h⟩:=h;cases h with
 |emp=>exact .zero
 |sl e rows b off cap cs el fr val e0 gr hb cI cP dq hlen hk hv hr hs hl gA fB hd=>
  have hO:0<(T e).length:=lT.2 al;have hs:e0=e\/(2000<=e/\e<3000/\e0≠1553/\(e0+1000=e\/e0+2000=e)):=by
   rcases hs with hs|hs
   ·exact .inl (hs.trans (sk cz))
   ·omega
  have hdiv:kk T e0 e off/4096=e0/\kk T e0 e off%4096=off%(T e).length:=by have:off%(T e).length<4096:=dO (mI _ hO) (hT.short e);unfold kk;omega
  have main:bY e0=true->∀gs s m i,dh (base e0)=some ((T e).length,gs)->(s,m)∈gs->i<rows.length->∃r:amS,r.map C.kd=((T (base e0)).drop s).take m/\T.G e0 s r/\
   ∀(j:Nat) c,r[j]?=some c->∃u,w.cell? ⟨b,off+(i*(T e).length+s+j),none⟩=some u/\aG T E.φ w c u:=by
   intro aU gs s m i hg hm cE;have aj:(i+1)*(T e).length<=rows.length*(T e).length:=eh _ cE;have hp:0<E.φ b (kk T e0 e off):=by rw[en]at aj;omega
   have hz:=(hi.zero b _ (by grind) hp).1;rw[hdiv.2]at hz;have hq:=mod_zero hz;have iE:kk T e0 e off=e0*4096:=by simp[kk,hz]
   rw[iE]at cI;obtain⟨r,r1,r2,r3⟩:=hi.rows b e0 (T e).length gs s m (off/(T e).length+i) aU hg hm (by
    grind)
   refine⟨r,r1,r2,λj c hj=>?_⟩;obtain⟨u,u1,u2⟩:=r3 j c hj;refine⟨u,?_,u2⟩;rw[<-u1];congr 2;rw[en,<-hq];omega
  refine⟨λaU k gs s m i hg hm cE=>?_,λhw i j cE ha=>?_⟩
  ·have he:e0=e:=by
    simp[bY]at aU;rcases hs with hs|hs
    ·omega
    ·omega
   subst he;obtain⟨EW,g1,_⟩:=hT.whole e0 (by simp[bY]at aU;omega) al (.inr aU);grind
  ·have hj:j<(T e).length:=by
    rcases aT j (T e).length with h'|h'
    ·omega
    ·grind
   by_cases he:e0+1000=e
   ·have alO:e<3000:=by rcases hs with hs|hs<;>omega
    have aU:bY e0=true:=by simp[bY];omega
    have oP:base e0=base e:=by rw[wh (by omega),wh cz];omega
    obtain⟨gs,g1,g2,g3⟩:=hT.whole e (by omega) al (.inl (aY ha));obtain⟨s,m,hm,s1,s2⟩:=(g3 j).1 ha;obtain⟨r,r1,_,r3⟩:=main aU gs s m i (by grind) hm cE;have fM:(r.map C.kd)[j-s]?=(T (base e))[j]?:=by rw[r1,fi,aC (by omega),fa,oP];congr 1;omega
    have EX:=g2 s m hm;have aaJ:=(hT.low e al).2;rw[bP]at fM;cases hc:r[j-s]?with
    |none=>grind
    |some c=>grind
   ·refine⟨gr i j,val i j,gA hw he i j cE ha,?_,fB hw he i j cE ha⟩;rw[jA hb,<-hv i j cE hj];grind
theorem fO.congr {e n:Nat} {f g:Nat->Option Value} (h:fO T E w e n f) (al:T e≠[]) (hT:cr P T) (QT:∀j,j<n*(T e).length->f j=g j):fO T E w e n g:=by
 have aj:∀i j,i<n->j<(T e).length->i*(T e).length+j<n*(T e).length:=λi j hi hj=>by have:(i+1)*(T e).length<=n*(T e).length:=eh _ hi;grind
 refine⟨λhs k gs s m i hg hm hi=>?_,λhw i j hi ha=>?_⟩
 ·obtain⟨EW,g1,g2,_⟩:=hT.whole e (by simp[bY]at hs;omega) al (.inr hs);have cw:=hg;rw[g1]at hg;simp only[ae,bT]at hg;obtain⟨rfl,rfl⟩:=hg;obtain⟨r,r1,r2,r3⟩:=h.s hs _ _ s m i cw hm hi;refine⟨r,r1,r2,λj c hj=>?_⟩;obtain⟨u,u1,u2⟩:=r3 j c hj;have dR:j<m:=by
   have h1:(r.map C.kd).length<=m:=by rw[r1];simp;omega
   have h2:j<r.length:=by
    rcases aT j r.length with h'|h'
    ·omega
    ·grind
   simp at h1;omega
  grind
 ·obtain⟨c,u,c1,c2,c3⟩:=h.w hw i j hi ha;grind
theorem fO.mono {E':Env} {w':World} {e n:Nat} {f:Nat->Option Value} (m:dQ E.φ w E'.φ w') (h:fO T E w e n f):fO T E' w' e n f:=by
 refine⟨λhs k gs s m' i hg hm hi=>?_,λhw i j hi ha=>?_⟩
 ·obtain⟨r,r1,r2,r3⟩:=h.s hs k gs s m' i hg hm hi;exact⟨r,r1,r2,λj c hj=>by obtain⟨u,u1,u2⟩:=r3 j c hj;exact⟨u,u1,u2.mono m⟩⟩
 ·obtain⟨c,u,c1,c2,c3⟩:=h.w hw i j hi ha;exact⟨c,u,c1,c2,c3.mono m⟩
theorem fO.append {e n n2:Nat} {f g h:Nat->Option Value} (hT:cr P T) (al:T e≠[]) (hf:fO T E w e n f) (hg:fO T E w e n2 g)
 (h1:∀j,j<n*(T e).length->h j=f j) (h2:∀j,j<n2*(T e).length->h (n*(T e).length+j)=g j):fO T E w e (n+n2) h:=by
 have BN:=hf.congr al hT (g:=h) λj hj=>(h1 j hj).symm;have cw:=hg.congr al hT (g:=λj=>h (n*(T e).length+j)) λj hj=>(h2 j hj).symm;refine⟨λhs k gs s m i hl hm hi=>?_,λhw i j hi ha=>?_⟩
 ·by_cases gE:i<n
  ·exact BN.s hs k gs s m i hl hm gE
  ·obtain⟨EW,g1,g2,_⟩:=hT.whole e (by simp[bY]at hs;omega) al (.inr hs);obtain⟨r,r1,r2,r3⟩:=cw.s hs k gs s m (i-n) hl hm (by omega);rw[g1]at hl;simp only[ae,bT]at hl;obtain⟨rfl,rfl⟩:=hl;refine⟨r,r1,r2,λj c hj=>?_⟩;obtain⟨u,u1,u2⟩:=r3 j c hj;refine⟨u,?_,u2⟩;rw[<-u1];congr 1;have h3:n*(T e).length<=i*(T e).length:=eh _ (by omega);rw[EB];omega
 ·by_cases gE:i<n
  ·exact BN.w hw i j gE ha
  ·obtain⟨c,u,c1,c2,c3⟩:=cw.w hw (i-n) j (by omega) ha;refine⟨c,u,c1,?_,c3⟩;rw[<-c2];congr 1;have h3:n*(T e).length<=i*(T e).length:=eh _ (by omega);rw[EB];omega
theorem At.aaK (hT:cr P T) (hi:HI T E w) {e:Nat} (al:T e≠[]) (cz:e≠1553) {rows:Y9} {b off:Nat} (h:At T E.φ w e rows b off):
 fO T E w e rows.length λj=>(wD w b off (rows.length*(T e).length))[j]?:=by
 refine(h.loose hT hi al cz).congr al hT λj hj=>?_;obtain⟨u,hu,_⟩:=h.flat j hj;simp only[Go.Pv.flat_get hj,hu,fh]
theorem EY (hT:cr P T) (hi:HI T E w) {e t:Nat} (al:T e≠[]) (cz:e≠1553) {bq:Y9} {u:Value} (h:aG T E.φ w (.sl e bq) u) (ht:P.underlying t=some (.slice (base e))):
 ∃news,Src P (T e).length t u bq.length news w/\(∀(i j:Nat) r c,bq[i]?=some r->r[j]?=some c->∃v,news[i*(T e).length+j]?=some v/\aG T E.φ w c v)/\
  fO T E w e bq.length λj=>news[j]?:=by
 rcases h.slice with⟨rfl,mR,rfl⟩|⟨b,off,cap,rfl,cH,_⟩
 ·exact⟨[],QR ht,λi j r c hi=>by grind, .zero⟩
 ·exact⟨_,cH.src ht,λi j r c hi hj=>cH.flat_get hi hj,cH.aaK hT hi al cz⟩
theorem JM {rows bq:Y9} {i:Nat} {r:amS} (h:(rows++bq)[i]?=some r):(i<rows.length/\rows[i]?=some r)\/(rows.length<=i/\bq[i-rows.length]?=some r):=by
 grind
theorem JN {e:Nat} {rows:Y9} {r:amS} {c:C} {j:Nat} (hk:∀r∈rows,r.map C.kd=T e) (hr:r∈rows) (hj:r[j]?=some c):j<(T e).length:=by
 grind
def St.dz (st:St) (g:Nat):St:={st with gen:=cp st.gen g (st.gen g+1)}
theorem JO (hT:cr P T) (ir:HI T E w) {t e:Nat} (ht:P.underlying t=some (.slice (base e))) (al:T e≠[]) (cz:e≠1553)
 {rows bq:Y9} {base:Option Addr} {cap:Nat} {u1:Value} (h0:aG T E.φ w (.sl e rows) (.slice base rows.length cap)) (h1:aG T E.φ w (.sl e bq) u1)
 (hg:cap<rows.length+bq.length) (kt:rows.length+bq.length<=eA) (ty:Nat):
 ∃cs pK,(Builtin.append_ #[t,t] ty #[.slice base rows.length cap,u1]).run P w= .ok (.slice (some ⟨w.heap.size,0,none⟩) (rows.length+bq.length) pK) (w.drew.alloc (.cells cs (Pv.base e)))/\
  rows.length+bq.length<=pK/\pK*(T e).length<=cs.size/\(∀r∈rows++bq,r.map C.kd=T e)/\
  (∀(i j:Nat) r c,(rows++bq)[i]?=some r->r[j]?=some c->∃u,cs[i*(T e).length+j]?=some u/\aG T E.φ w.drew c u)/\fO T E w.drew e (rows.length+bq.length) λj=>cs[j]?:=by
 obtain⟨i,z,d,hi,_,cf,hz,iV,oP,gP,_,_⟩:=hT.row e al;obtain⟨news,jZ,wE,JP⟩:=EY (P:=P) hT ir al cz h1 ht;obtain⟨pL,hold,holds,QU,JQ⟩:∃pL:ana,(Builtin.firstCells i.size rows.length (.slice base rows.length cap)).run P w.drew= .ok pL.toArray w.drew/\
  (∀(i j:Nat) r c,rows[i]?=some r->r[j]?=some c->∃v,pL[i*(T e).length+j]?=some v/\aG T E.φ w c v)/\pL.length=rows.length*(T e).length/\fO T E w e rows.length λj=>pL[j]?:=by
  obtain⟨aaL,QV,iq,dc⟩:=EY (P:=P) hT ir al cz h0 ht;exact⟨aaL,by rw[cf];exact QV.cellsD,iq,QV.newsLen,dc⟩
 have hle:=Go.Room.nextslicecap_le' hg;have aaM:Builtin.nextslicecap (rows.length+bq.length) cap*i.bytes<=281474976710656:=by simp only[eA]at kt;have h1:Builtin.nextslicecap (rows.length+bq.length) cap*i.bytes<=(2*(rows.length+bq.length))*i.bytes:=eh _ hle;have h2:(2*(rows.length+bq.length))*i.bytes<=(2*(rows.length+bq.length))*1024:=Nat.mul_le_mul_left _ gP;omega
 have ep:=run_append_grow_src (P:=P) w t t ty (Pv.base e) i z ht hi hz base rows.length cap pL hold u1 bq.length news (by grind) hg
  (by simp only[eA]at kt;omega) aaM
 have QW:news.length=bq.length*(T e).length:=jZ.newsLen;have JR:=grownCap_ge w (rows.length+bq.length) cap (Pv.base e);have fP:∀r∈rows++bq,r.map C.kd=T e:=by
  intro r hr;rcases bB.1 hr with h'|h'
  ·exact h0.kinds r h'
  ·exact h1.kinds r h'
 have hm:dQ E.φ w E.φ w.drew:=⟨λ_ _=>bh _,bh _,λ_ cs _ _ hb=>⟨cs,hb,rfl,λ_ _ _=> .inl rfl⟩⟩
 refine⟨_,grownCap w (rows.length+bq.length) cap (Pv.base e),ep,by omega,?_,fP,?_,?_⟩
 ·have BO:z.cells.size=(T e).length:=by
   have:z.cells.toList.length=(T e).length:=by rw[iV];simp[(hT.low e al).2]
   simpa using this
  simp only[Array.size_append,List.size_toArray,jS,QU,QW,Builtin.zeroCells,Array.size_map,Array.size_range,BO];rw[<-en,<-en];grind
 ·intro i j r c hi hj;have aj:j<(T e).length:=JN fP (aY hi) hj;rcases JM hi with⟨hl,hr⟩|⟨hl,hr⟩
  ·obtain⟨v,hv,hc⟩:=holds i j r c hr hj;refine⟨v,?_,hc.mono hm⟩;grind
  ·obtain⟨v,hv,hc⟩:=wE (i-rows.length) j r c hr hj;refine⟨v,?_,hc.mono hm⟩;have e1:i*(T e).length+j=pL.length+((i-rows.length)*(T e).length+j):=by rw[QU,EB];have:rows.length*(T e).length<=i*(T e).length:=eh _ hl;omega
   grind
 ·refine fO.append (P:=P) hT al (JQ.mono (E':=E) hm) (JP.mono (E':=E) hm) (λj hj=>?_) λj hj=>?_
  all_goals grind
theorem aM.aaN (hT:cr P T) {cx:Cx} {st:St} {a:Act} (h:aM T cx E st a w) {t e:Nat} (ht:P.underlying t=some (.slice (base e))) (al:T e≠[])
 {rows bq:Y9} {base:Option Addr} {cap:Nat} {u1:Value} (h0:aG T E.φ w (.sl e rows) (.slice base rows.length cap)) (h1:aG T E.φ w (.sl e bq) u1)
 (hg:cap<rows.length+bq.length) (kt:rows.length+bq.length<=eA) (ty g:Nat) (cz:e≠1553) (oO:g≠6053):
 ∃v w' E',(Builtin.append_ #[t,t] ty #[.slice base rows.length cap,u1]).run P w= .ok v w'/\aM T cx E' st a w'/\RX T E' w' st.vw (.own e g (st.gen g) (rows++bq)) v:=by
 obtain⟨cs,pK,ep,BP,mV,fP,fp,fu⟩:=JO hT h.hi ht al cz h0 h1 hg kt ty;obtain⟨E',r1,r2⟩:=h.drew.newRow hT (e:=e) (g:=g) (rows:=rows++bq) (cs:=cs) (el:=Pv.base e) (cap:=pK) (by grind) mV (by simp only[eA,cM]at*;grind) fP fp al (by grind) cz oO;refine⟨_,_,E',ep,r1,?_⟩;simp_all
theorem aM.aaO (hT:cr P T) {cx:Cx} {st:St} {a:Act} (h:aM T cx E st a w) {t e:Nat} (ht:P.underlying t=some (.slice (base e))) (al:T e≠[])
 {rows bq:Y9} {b off cap:Nat} {u1:Value} (h0:aG T E.φ w (.sl e rows) (.slice (some ⟨b,off,none⟩) rows.length cap)) (h1:aG T E.φ w (.sl e bq) u1)
 (pN:rows.length+bq.length<=cap) (wG:cap≠0) (kt:rows.length+bq.length<=eA) (ty g:Nat)
 (cz:e≠1553) (sD:g<5000) (l6:E.κ b= .row g) (pI:key T e off=key T e 0) (qU:off+rows.length*(T e).length=E.φ b (key T e off)) (yP:∀k,k≠key T e off->E.φ b k=0) (wH:∃cs el,w.heap[b]?=some (.cells cs el (0,0))):
 ∃v w' E',(Builtin.append_ #[t,t] ty #[.slice (some ⟨b,off,none⟩) rows.length cap,u1]).run P w= .ok v w'/\aM T cx E' (st.dz g) a w'/\
  RX T E' w' (st.dz g).vw (.own e g (st.gen g+1) (rows++bq)) v:=by
 obtain⟨i,z,d,hi,_,cf,hz,iV,oP,gP,_,_⟩:=hT.row e al;obtain⟨news,jZ,wE,JP⟩:=EY (P:=P) hT h.hi al cz h1 ht;have QW:news.length=bq.length*(T e).length:=jZ.newsLen;obtain⟨jj,sE,hb⟩:=wH;have fP:∀r∈rows++bq,r.map C.kd=T e:=by
  intro r hr;rcases bB.1 hr with h'|h'
  ·exact h0.kinds r h'
  ·exact h1.kinds r h'
 have gE:off+cap*(T e).length<=jj.size:=by
  cases h0 with
  |emp=>omega
  |sl e rows b off cap cs el fr val e0 gr aR cI cP dq hlen hk hv hr hs hl gA fB hd=>grind
 have ct:rows.length*(T e).length+bq.length*(T e).length<=cap*(T e).length:=by rw[<-en];exact eh _ pN
 have ep:=run_append_room_src (P:=P) w t t ty (base e) i ht hi b off rows.length cap u1 bq.length news (by grind) pN
  (λj hj=>by rw[cf,jA hb];grind)
  (λj hj=>by simp[World.frozen?,hb])
 rw[cf,qU]at ep;have alP:E.φ b (key T e off)<=jj.size:=by omega
 let E':Env:={E with φ:=cp E.φ b (λk=>if k=key T e off then E.φ b (key T e off)+bq.length*(T e).length else 0)}
 have hU:=Bz b news (E.φ b (key T e off)) w;have hm:dQ E.φ w E'.φ (w.setCells b (E.φ b (key T e off)) news):=by
  refine⟨λj e'=>?_,by rw[su];omega,λj bU iD fr hj=>?_⟩
  ·by_cases ej:j=b
   ·subst ej;simp only[E',bG];grind
   ·simp only[E',b6 _ _ ej];omega
  ·by_cases ej:j=b
   ·subst ej;rw[hb]at hj;simp only[ae,Obj.cells.injEq]at hj;obtain⟨rfl,rfl,rfl⟩:=hj;refine⟨_,qR _ news _ w hb,oJ _ _ _,λe' m hm=> .inl (oK news _ jj m (.inl ?_))⟩;grind
   ·exact⟨bU,by rw[jU _ _ ej];omega,rfl,λ_ _ _=> .inl rfl⟩
 have hk:gC E w st.vw E' (w.setCells b (E.φ b (key T e off)) news) ⟨hasB st.boxes,cp st.gen g (st.gen g+1)⟩:=by
  refine⟨hm,λj hj=>⟨hj,rfl,rfl,λ_=>⟨b6 _ _ ?_,rfl⟩⟩,λg'=>?_,λj g' _ cw uz=>?_,rfl⟩
  ·obtain⟨l,hl,hn⟩:=qQ (bs:=st.boxes) hj;obtain⟨c1,_⟩:=h.boxes j l hl hn;intro ej;rw[ej,l6]at c1;cases c1
  ·simp only[St.vw];by_cases eg:g'=g
   ·subst eg;rw[bG];omega
   ·rw[b6 _ _ eg];omega
  have ej:j≠b:=by rintro rfl;rw[l6]at cw;simp only[gB.row.injEq]at cw;subst cw;simp only[St.vw,bG]at uz;omega
  exact⟨cw,b6 _ _ ej⟩
 have QX:key T e off/4096=e:=by have:off%(T e).length<4096:=dO (mI _ (lT.2 al)) (hT.short e);unfold key;omega
 have jB:=qR b news (E.φ b (key T e off)) w hb;have JQ:=(At.loose hT h.hi al cz ⟨cap,h0⟩).mono (E':=E') (w':=w.setCells b (E.φ b (key T e off)) news) hm;have QY:fO T E' (w.setCells b (E.φ b (key T e off)) news) e (rows.length+bq.length) λj=>(gM jj (E.φ b (key T e off)) news)[off+j]?:=by
  refine fO.append (P:=P) hT al JQ (JP.mono (E':=E') hm) (λj hj=>?_) λj hj=>?_
  ·rw[oK news _ jj _ (.inl (by omega)),<-jA hb]
  ·rw[show off+(rows.length*(T e).length+j)=E.φ b (key T e off)+j by omega,sr news _ jj _ (by omega) (by omega)]
 have ir:HI T E' (w.setCells b (E.φ b (key T e off)) news):=by
  have hz:∀{m:Nat} {gs:amU} {x:Nat},dh x=some (m,gs)->m≠0:=by rintro m gs x hl rfl;unfold dh at hl;split at hl<;>simp at hl
  refine⟨λj k bV hp=>?_,λj e1 n gs s m i' he hl hg cE=>?_⟩
  ·by_cases ej:j=b
   ·subst ej;simp only[E',bG]at hp⊢;split at hp
    ·rename_i dG;subst dG;exact⟨by rw[pI];simp[key],λk' bV=>aQ bV,by rw[l6];rfl,_,sE,jB⟩
    ·omega
   ·simp only[E',b6 _ _ ej]at hp⊢;obtain⟨z1,z2,z3,bU,iD,z4⟩:=h.hi.zero j k bV hp;exact⟨z1,z2,z3,bU,iD,by rw[jU _ _ ej];omega⟩
  ·have hO:0<(i'+1)*n:=tZ (vZ _) (sg (hz hl));by_cases ej:j=b
   ·subst ej;simp only[E',bG]at cE;split at cE
    ·rename_i dG;have BM:e1=e:=by rw[<-dG,sj _ (by decide)]at QX;exact QX
     subst BM;obtain⟨EW,g1,g2,_⟩:=hT.whole e1 (by simp[bY]at he;omega) al (.inr he);have bA:=hl;rw[g1]at hl;simp only[ae,bT]at hl;obtain⟨rfl,rfl⟩:=hl;have uC:off%(T e1).length=0:=by have:=pI;unfold key at this;simp at this;exact this
     have hq:=mod_zero uC;by_cases gE:(i'+1)*(T e1).length<=E.φ j (e1*4096)
     ·obtain⟨r,r1,r2,r3⟩:=h.hi.rows j e1 _ _ s m i' he bA hg gE;refine⟨r,r1,r2,λq c ku=>?_⟩;obtain⟨u,u1,u2⟩:=r3 q c ku;refine⟨u,?_,u2.mono hm⟩;have aj:s+q<(T e1).length:=by
       have h1:(r.map C.kd).length<=m:=by rw[r1];simp;omega
       have h2:q<r.length:=by
        rcases aT q r.length with h'|h'
        ·omega
        ·grind
       have:=g2 s m hg;simp at h1;omega
      rw[<-dG]at qU;rw[en]at gE;rw[jA jB,oK news _ jj _ (.inl (by grind)),<-jA hb];omega
     ·rw[<-dG]at cE qU;have qS:off/(T e1).length+rows.length<=i':=by
       rcases aT i' (off/(T e1).length+rows.length)with h'|h'
       ·have:(i'+1)*(T e1).length<=(off/(T e1).length+rows.length)*(T e1).length:=eh _ h';grind
       ·omega
      have pM:i'-off/(T e1).length<rows.length+bq.length:=by
       have h1:(i'+1)*(T e1).length<=(off/(T e1).length+(rows.length+bq.length))*(T e1).length:=by rw[en (off/_),en rows.length,<-hq];omega
       have:=alA h1 (sg (hz bA));omega
      obtain⟨r,r1,r2,r3⟩:=QY.s he _ _ s m (i'-off/(T e1).length) bA hg pM;refine⟨r,r1,r2,λq c ku=>?_⟩;obtain⟨u,u1,u2⟩:=r3 q c ku;refine⟨u,?_,u2⟩;rw[jA jB,<-u1];congr 1;have h3:off/(T e1).length*(T e1).length<=i'*(T e1).length:=eh _ (by omega);rw[EB];omega
    ·omega
   ·simp only[E',b6 _ _ ej]at cE;obtain⟨r,r1,r2,r3⟩:=h.hi.rows j e1 n gs s m i' he hl hg cE;refine⟨r,r1,r2,λq c hq=>?_⟩;obtain⟨u,u1,u2⟩:=r3 q c hq;exact⟨u,by simpa[World.cell?,jU _ _ ej]using u1,u2.mono hm⟩
 have wI:=aM.step h hk (λid l hl hn=>by
  obtain⟨c1,c2,bU,iD,c3,_⟩:=h.boxes id l hl hn;have ej:E.β id≠b:=by intro ej;rw[ej,l6]at c1;cases c1
  exact⟨rfl,jU _ _ ej _ _ _⟩)
  (⟨by rw[hU.1];exact h.ext.os,by rw[hU.2.1];exact h.ext.tape,by rw[hU.2.2];exact h.ext.output,h.ext.fo,h.ext.mono.trans hm,λj hj hf=>by
   obtain⟨f1,f2,f3⟩:=h.ext.dB j hj hf;have ej:j≠b:=by rintro rfl;rw[l6]at f3;cases f3
   exact⟨λhw=>by rw[jU _ _ ej];grind,by simp only[E',b6 _ _ ej];omega,f3⟩,λj hj=>by
   rw[su]at hj;have ej:j≠b:=by have:=ko hb;omega
   simp only[E',b6 _ _ ej];exact h.ext.fresh j hj⟩) (λ_ _=>⟨rfl,rfl⟩) ir (λg' cw=>b6 _ _ (by omega))
 refine⟨_,_,E',ep,wI,?_,?_⟩
 ·have kP:∀(i j:Nat) r c,(rows++bq)[i]?=some r->r[j]?=some c->
   ∃u,(gM jj (E.φ b (key T e off)) news)[off+i*(T e).length+j]?=some u/\aG T E'.φ (w.setCells b (E.φ b (key T e off)) news) c u:=by
   intro i j r c hi hj;have aj:j<(T e).length:=JN fP (aY hi) hj;rcases JM hi with⟨hl,hr⟩|⟨hl,hr⟩
   ·obtain⟨u,hu,hc⟩:=At.cell ⟨cap,h0⟩ hr hj;refine⟨u,?_,hc.mono hm⟩;have h3:(i+1)*(T e).length<=rows.length*(T e).length:=eh _ hl;rw[en]at h3;rw[oK news _ jj _ (.inl (by omega)),<-jA hb];omega
   ·obtain⟨v,hv,hc⟩:=wE (i-rows.length) j r c hr hj;refine⟨v,?_,hc.mono hm⟩;have h3:rows.length*(T e).length<=i*(T e).length:=eh _ hl;have e1:off+i*(T e).length+j=E.φ b (key T e off)+((i-rows.length)*(T e).length+j):=by rw[EB];omega
    have pM:(i-rows.length)*(T e).length+j<news.length:=by
     rcases aT ((i-rows.length)*(T e).length+j) news.length with h'|h'
     ·omega
     ·grind
    rw[e1,sr news _ jj _ (by omega) pM];omega
  have hlen:(rows++bq).length=rows.length+bq.length:=by simp
  have hw:∀i j:Nat,∃c:C,2000<=e->i<rows.length+bq.length->(T e)[j]?=some .any->(T (base e))[j]?=some c.kd/\aG T E'.φ (w.setCells b (E.φ b (key T e off)) news) c (((gM jj (E.φ b (key T e off)) news)[off+i*(T e).length+j]?).getD (.bool false)):=λi j=>by
   by_cases hc:2000<=e/\i<rows.length+bq.length/\(T e)[j]?=some .any
   ·obtain⟨c,u,c1,c2,c3⟩:=QY.w hc.1 i j hc.2.1 hc.2.2;grind
   simp_all
  obtain⟨gr,fB⟩:∃gr:Nat->Nat->C,∀i j,2000<=e->i<rows.length+bq.length->(T e)[j]?=some .any->(T (base e))[j]?=some (gr i j).kd/\aG T E'.φ (w.setCells b (E.φ b (key T e off)) news) (gr i j) (((gM jj (E.φ b (key T e off)) news)[off+i*(T e).length+j]?).getD (.bool false)):=
   ⟨λi j=>Classical.choose (hw i j),λi j=>PW (hw i j)⟩
  rw[<-hlen];refine .sl e (rows++bq) b off cap _ sE (0,0) (λi j=>((gM jj (E.φ b (key T e off)) news)[off+i*(T e).length+j]?).getD (.bool false)) e gr jB ?_ (by omega) (by rw[oJ];omega)
   (by simp only[eA,cM]at*;omega) fP ?_ ?_ (.self cz) (λi j _ hj ha=>hT.hl off i j hj ha) (λg1 _ i j hi ha=>(fB i j g1 (by omega) ha).1) (λg1 _ i j hi ha=>(fB i j g1 (by omega) ha).2) (λhe=>absurd he cz)
  ·rw[Bv];simp only[E',bG,hlen,en,aC];omega
  ·intro i j hi hj;have h3:(i+1)*(T e).length<=(rows++bq).length*(T e).length:=eh _ hi;rw[hlen,en,en]at h3;rw[im (by rw[oJ];omega)];rfl
  grind
 ·refine⟨by simp[St.vw,St.dz,bG],λ_=> .inr ⟨b,off,rows.length+bq.length,cap,rfl, .inr ⟨l6,pI,?_,λe' ee=>by rw[<-pI]at ee;simp[E',bG,ee],_,sE,qR _ news _ w hb⟩⟩,λ_ h=>absurd h (by omega)⟩;simp only[E',bG,en,<-pI,aC];omega
theorem aM.append (hT:cr P T) {cx:Cx} {st:St} {a:Act} (h:aM T cx E st a w) {t e:Nat} (ht:P.underlying t=some (.slice (base e))) (al:T e≠[])
 {rows bq:Y9} {u0 u1:Value} (h0:aG T E.φ w (.sl e rows) u0) (h1:aG T E.φ w (.sl e bq) u1)
 (kt:rows.length+bq.length<=eA) (ty g:Nat) (cz:e≠1553) (sD:g<5000) (l6:uj T E w e g u0):
 ∃v w' E',(Builtin.append_ #[t,t] ty #[u0,u1]).run P w= .ok v w'/\aM T cx E' (st.dz g) a w'/\RX T E' w' (st.dz g).vw (.own e g (st.gen g+1) (rows++bq)) v:=by
 have kw:∀(E':Env) (w':World),gC E' w' st.vw E' w' (st.dz g).vw:=by
  intro E' w';refine⟨dQ.refl _ _,λb hb=>⟨hb,rfl,rfl,λ_=>⟨rfl,rfl⟩⟩,λg'=>?_,λb g _ hg _=>⟨hg,rfl⟩,rfl⟩;simp only[St.vw,St.dz];by_cases eg:g'=g
  ·subst eg;rw[bG];omega
  ·rw[b6 _ _ eg];omega
 have weaken:∀{E':Env} {w':World},aM T cx E' st a w'->aM T cx E' (st.dz g) a w':=by intro E' w' h';exact aM.step h' (kw E' w') (λ_ _ _ _=>⟨rfl,rfl⟩) h'.ext (λ_ _=>⟨rfl,rfl⟩) h'.hi (λg' cw=>b6 _ _ (by omega))
 have wx:∀{E':Env} {w':World} {r:Y9} {u:Value},RX T E' w' st.vw (.own e g (st.gen g) r) u->RX T E' w' (st.dz g).vw (.own e g (st.gen g+1) r) u:=by intro E' w' r u h';exact⟨h'.1,by simp[St.vw,St.dz,bG],λ_=>h'.2.2.1 rfl,h'.2.2.2⟩
 have grow:∀{base:Option Addr} {cap:Nat},u0= .slice base rows.length cap->cap<rows.length+bq.length->
  ∃v w' E',(Builtin.append_ #[t,t] ty #[u0,u1]).run P w= .ok v w'/\aM T cx E' (st.dz g) a w'/\RX T E' w' (st.dz g).vw (.own e g (st.gen g+1) (rows++bq)) v:=by
  intro base cap hu hg;subst hu;obtain⟨v,w',E',r1,r2,r3⟩:=h.aaN hT ht al h0 h1 hg kt ty g cz (by omega);exact⟨v,w',E',r1,weaken r2,wx r3⟩
 have same:bq=[]->∀{base:Option Addr} {cap:Nat},u0= .slice base rows.length cap->rows.length<=cap->
  ∃v w' E',(Builtin.append_ #[t,t] ty #[u0,u1]).run P w= .ok v w'/\aM T cx E' (st.dz g) a w'/\RX T E' w' (st.dz g).vw (.own e g (st.gen g+1) (rows++bq)) v:=by
  rintro rfl base cap rfl hc;obtain⟨i,z,d,hi,_,cf,_⟩:=hT.row e al;obtain⟨news,jZ,_⟩:=QS (P:=P) h1 ht;have hn:news=[]:=by have:=jZ.newsLen;simpa using this
  subst hn;refine⟨.slice base rows.length cap,w,E,?_,weaken h,wx ⟨by grind,bh _,λ_=>l6,λ_ h=>absurd h (by omega)⟩⟩;have l7:=jZ.cells;have hlen:=jZ.len;rw[<-cf]at l7;cases base with
  |none=>simp[Builtin.append_,run_underlying ht,sizeOf,typeInfo,hi,hlen,hc];simp_all
  |some ad=>simp[Builtin.append_,run_underlying ht,sizeOf,typeInfo,hi,hlen,hc];simp at l7;simp[l7,storeCells]
 rcases h0.slice with⟨rfl,mR,rfl⟩|⟨b,off,cap,rfl,cH,cP⟩
 ·by_cases hr:bq=[]
  ·grind
  ·exact grow (base:=mR) (cap:=0) rfl (by
    have:bq.length≠0:=λe=>hr (jz.1 e);omega)
 ·by_cases pN:rows.length+bq.length<=cap
  ·rcases l6 with⟨_,hn⟩|⟨b',pO,aaP,pK,he,ho⟩
   ·simp_all
   ·simp only[Value.slice.injEq,ae,Addr.mk.injEq,lU]at he;obtain⟨⟨rfl,rfl⟩,rfl,rfl⟩:=he;rcases ho with ho|⟨o1,o5,o2,o4,o3⟩
    ·exact same (jz.1 (by omega)) rfl cP
    ·by_cases wG:cap=0
     ·simp_all
     exact h.aaO hT ht al h0 h1 pN wG kt ty g cz sD o1 o5 (by grind) (by grind) o3
  grind
end Go.Pv
namespace Go.Pv
open Go
variable {P:Program} {T:ay} {E:Env} {w:World}
theorem aaQ (hT:cr P T) {t e:Nat} (ht:P.underlying t=some (.slice (base e))) (al:T e≠[])
 {rows bq:Y9} {b off cap:Nat} {u1:Value} (h0:aG T E.φ w (.sl e rows) (.slice (some ⟨b,off,none⟩) rows.length cap)) (h1:aG T E.φ w (.sl e bq) u1)
 (pN:rows.length+bq.length<=cap) (aaR:0<cap) (ty:Nat) (wH:∃cs el,w.heap[b]?=some (.cells cs el (0,0))):
 ∃news:ana,(Builtin.append_ #[t,t] ty #[.slice (some ⟨b,off,none⟩) rows.length cap,u1]).run P w=
  .ok (.slice (some ⟨b,off,none⟩) (rows.length+bq.length) cap) (w.setCells b (off+rows.length*(T e).length) news)/\news.length=bq.length*(T e).length/\
  ∀(i j:Nat) r c,bq[i]?=some r->r[j]?=some c->∃v,news[i*(T e).length+j]?=some v/\aG T E.φ w c v:=by
 obtain⟨i,z,d,hi,_,cf,hz,iV,oP,gP,_,_⟩:=hT.row e al;obtain⟨news,jZ,wE⟩:=QS (P:=P) h1 ht;obtain⟨jj,sE,hb⟩:=wH;have gE:off+cap*(T e).length<=jj.size:=by
  cases h0 with
  |emp=>omega
  |sl e rows b off cap cs el fr val e0 gr aR cI cP dq hlen hk hv hr hs hl gA fB hd=>grind
 have ct:rows.length*(T e).length+bq.length*(T e).length<=cap*(T e).length:=by rw[<-en];exact eh _ pN
 have ep:=run_append_room_src (P:=P) w t t ty (base e) i ht hi b off rows.length cap u1 bq.length news (by grind) pN
  (λj hj=>by rw[cf,jA hb];rw[im (by have:=jZ.newsLen;omega)];rfl)
  (λj hj=>by simp[World.frozen?,hb])
 rw[cf]at ep;exact⟨news,ep,jZ.newsLen,wE⟩
theorem QZ {e:Nat} {V:Vw} {r:amS} (hk:r.map C.kd=T e) {us:ana} (hlen:us.length=(T e).length)
 (h:∀(j:Nat) c,r[j]?=some c->∃u,us[j]?=some u/\aG T E.φ w c u):bF T E w V (fC [r] 0 0 (T e)) us:=by
 refine⟨by rw[uA];omega,λj x u hx hu=>?_⟩;rw[BG]at hx;cases iB:(T e)[j]?with
 |none=>grind
 |some k=>
  simp only[iB,cj,ae,eI]at hx;subst hx;have hj:(r.map C.kd)[j]?=some k:=by rw[hk];exact iB
  rw[bP]at hj;cases hc:r[j]?with
  |none=>grind
  |some c=>
   simp only[hc,cj,ae]at hj;obtain⟨u',h1,h2⟩:=h j c hc;rw[hu]at h1;simp only[ae]at h1;subst h1;have:cellAt [r] 0 j=c:=by simp[cellAt,aZ,hc]
   show aG T E.φ w (lY k (cellAt [r] 0 j)) u;rw[this,yK hj];omega
theorem Q0 {e:Nat} (al:T e≠[]) (rows:Y9) (i j:Nat):fC rows i j (T e)≠[]:=by intro h;have:=uA (T e) rows i j;grind
theorem aM.aaS (hT:cr P T) {cx:Cx} {st:St} {a:Act} (h:aM T cx E st a w) (e:Nat) (he:e<1000) (al:T e≠[]) (rows:Y9) (r:amS) (cs:ane) (el:TypeId) (cap:Nat) {d:Nat}
 (hd:st.boxes[d]?=some none) (hP:d<st.aq.length)
 (cP:rows.length+1<=cap) (dq:cap*(T e).length<=cs.size) (hlen:rows.length+1<=cM) (hk:∀r'∈rows++[r],r'.map C.kd=T e)
 (hr:∀(i j:Nat) r' c,(rows++[r])[i]?=some r'->r'[j]?=some c->∃u,cs[i*(T e).length+j]?=some u/\aG T E.φ w c u):
 ∃E',aM T cx E' (st.bC d (fC [r] 0 0 (T e))) a (w.alloc (.cells cs el))/\
  RX T E' (w.alloc (.cells cs el)) (st.bC d (fC [r] 0 0 (T e))).vw (.cn e d rows) (.slice (some ⟨w.heap.size,0,none⟩) (rows.length+1) cap):=by
 have hn:(rows.length+1)*(T e).length<=cap*(T e).length:=eh _ cP;rw[en,ED]at hn;let k0:Nat->Nat:=λk=>if k=key T e 0 then rows.length*(T e).length else 0;have hm:=dQ.alloc (w:=w) (h.ext.fresh _ (bh _)) (.cells cs el) k0;have wJ:bY (key T e 0/4096)=false:=by
  have:key T e 0=e*4096:=by simp[key]
  rw[this,sj _ (by decide)];simp[bY];omega
 have h1:=(h.alloc (.cells cs el) .box k0 (h.hi.alloc h.ext _ _ _ λj hj=>by
  grind)).wB hd hP w.heap.size (rows.length*(T e).length)
 have aj:d<st.boxes.length:=by
  rcases aT d st.boxes.length with h'|h'
  ·omega
  ·grind
 refine⟨(E.new w.heap.size .box k0).box d w.heap.size (rows.length*(T e).length),h1.BK hd hP (λ_=>⟨?_,?_,cs,el,?_,?_,?_⟩) ?_ (λ_ _=>by simp only[Env.box,bG];exact h.ext.mono.size),?_⟩
 ·simp[Env.box,Env.new,bG,gB.kN]
 ·intro k;simp only[Env.box,Env.new,bG,k0];grind
 ·simp only[Env.box,bG];exact heap_alloc_new _ _
 ·simp only[Env.box,bG,uA];omega
 ·simp only[Env.box,bG,uA];refine QZ (hk r (by simp)) (by grind) (λj c hj=>?_);obtain⟨u,hu,hc⟩:=hr rows.length j r c (by simp) hj;have dR:j<(T e).length:=by
   have:=hk r (by simp);have h2:j<r.length:=by
    rcases aT j r.length with h'|h'
    ·omega
    ·grind
   rw[<-this];simpa using h2
  refine⟨u,?_,hc.mono hm⟩;grind
 ·intro _ id l' bA eS he;have al:id≠d:=by rintro rfl;rw[hd]at bA;simp at bA
  simp only[Env.box,Env.new,bG,b6 _ _ al]at he;obtain⟨_,_,bU,iD,h3,_⟩:=h.boxes id l' bA eS;grind
 ·refine⟨mQ (l:=fC [r] 0 0 (T e)) (by simp only[St.bC,St.vw];grind) (Q0 al _ _ _),0,cap,by simp[Env.box,bG],cP,hlen,by simp[Env.box,bG],rfl,by simp[Env.box,Env.new,bG,k0],
   λk bV=>by simp[Env.box,Env.new,bG,k0,bV],⟨cap,?_⟩,cs,el,by simp only[Env.box,bG];exact heap_alloc_new _ _,by omega⟩
  simp only[Env.box,bG];refine .sl e rows w.heap.size 0 cap cs el (0,0) (λi j=>(cs[i*(T e).length+j]?).getD (.bool false)) e (λ_ _=>default) (heap_alloc_new _ _) (by rw[Bv];simp[Env.new,bG,k0]) (by omega) (by omega) (by omega)
   (λr' bR=>hk r' (by grind)) ?_ ?_ (.self (by omega)) (λi j _ hj ha=>hT.hl 0 i j hj ha) (λg1=>by omega) (λg1=>by omega) (λg1=>by omega)
  ·intro i j hi hj;have:i*(T e).length+j<cs.size:=by have:(i+1)*(T e).length<=rows.length*(T e).length:=eh _ hi;rw[en]at this;omega
   grind
  ·intro i j r' c hi hj;have dW:i<rows.length:=by
    rcases aT i rows.length with h'|h'
    ·omega
    ·grind
   obtain⟨u,hu,hc⟩:=hr i j r' c (by grind) hj;simp only[hu,fh];exact hc.mono hm
theorem aM.aaT {cx:Cx} {st:St} {a:Act} (h:aM T cx E st a w) (e:Nat) (he:e<1000) (al:T e≠[]) (rows:Y9) (r:amS) (g b off cap:Nat) {d:Nat} {news:ana}
 (hd:st.boxes[d]?=some none) (hP:d<st.aq.length) (h0:aG T E.φ w (.sl e rows) (.slice (some ⟨b,off,none⟩) rows.length cap))
 (cP:rows.length+1<=cap) (hlen:rows.length+1<=cM) (hk:r.map C.kd=T e) (ji:news.length=(T e).length)
 (hr:∀(j:Nat) c,r[j]?=some c->∃u,news[j]?=some u/\aG T E.φ w c u)
 (sD:g<5000) (l6:E.κ b= .row g) (pI:key T e off=key T e 0) (qU:off+rows.length*(T e).length=E.φ b (key T e 0)) (yP:∀k,k≠key T e 0->E.φ b k=0)
 (wH:∃cs el,w.heap[b]?=some (.cells cs el (0,0))):
 ∃E',aM T cx E' ((st.dz g).bC d (fC [r] 0 0 (T e))) a (w.setCells b (off+rows.length*(T e).length) news)/\
  RX T E' (w.setCells b (off+rows.length*(T e).length) news) ((st.dz g).bC d (fC [r] 0 0 (T e))).vw (.cn e d rows) (.slice (some ⟨b,off,none⟩) (rows.length+1) cap):=by
 obtain⟨jj,sE,hb⟩:=wH;have hn:(rows.length+1)*(T e).length<=cap*(T e).length:=eh _ cP;rw[en,ED]at hn;have gE:off+cap*(T e).length<=jj.size:=by
  cases h0 with
  |emp=>omega
  |sl e rows b off cap cs el fr val e0 gr aR cI cP dq hlen hk hv hr hs hl gA fB hd=>grind
 generalize ho:off+rows.length*(T e).length=o at*;have Q1:∀k,E.φ b k<=o:=λk=>by
  grind
 let E1:Env:={E with κ:=cp E.κ b .ui}
 have hU:=Bz b news o w;have hm:dQ E.φ w E.φ (w.setCells b o news):=by
  refine⟨λ_ _=>bh _,by rw[su];omega,λj bU iD fr hj=>?_⟩;by_cases ej:j=b
  ·subst ej;rw[hb]at hj;simp only[ae,Obj.cells.injEq]at hj;obtain⟨rfl,rfl,rfl⟩:=hj;exact⟨_,qR _ news _ w hb,oJ _ _ _,λk m hm=> .inl (oK news _ jj m (.inl (by grind)))⟩
  ·exact⟨bU,by rw[jU _ _ ej];omega,rfl,λ_ _ _=> .inl rfl⟩
 have JS:∀(id:Nat) l,st.boxes[id]?=some (some l)->l≠[]->E.β id≠b:=by intro id l hl eS ej;obtain⟨c1,_⟩:=h.boxes id l hl eS;rw[ej,l6]at c1;cases c1
 have uE:gC E w st.vw E1 (w.setCells b o news) ⟨hasB st.boxes,cp st.gen g (st.gen g+1)⟩:=by
  refine⟨hm,λj hj=>⟨hj,rfl,rfl,λ_=>⟨rfl,b6 _ _ ?_⟩⟩,λg'=>?_,λj g' _ cw uz=>?_,rfl⟩
  ·obtain⟨l,hl,eS⟩:=qQ (bs:=st.boxes) hj;grind
  ·simp only[St.vw];by_cases eg:g'=g
   ·subst eg;rw[bG];omega
   ·rw[b6 _ _ eg];omega
  ·have ej:j≠b:=by rintro rfl;rw[l6]at cw;simp only[gB.row.injEq]at cw;subst cw;simp only[St.vw,bG]at uz;omega
   exact⟨by simp only[E1,b6 _ _ ej];omega,rfl⟩
 have h1:=aM.step h uE (λid l hl eS=>by
  have ej:=JS id l hl eS;exact⟨b6 _ _ ej,jU _ _ ej _ _ _⟩)
  (⟨by rw[hU.1];exact h.ext.os,by rw[hU.2.1];exact h.ext.tape,by rw[hU.2.2];exact h.ext.output,h.ext.fo,h.ext.mono.trans hm,λj hj hf=>by
   obtain⟨f1,f2,f3⟩:=h.ext.dB j hj hf;have ej:j≠b:=by rintro rfl;rw[l6]at f3;cases f3
   exact⟨λhw=>by rw[jU _ _ ej];grind,f2,by simp only[E1,b6 _ _ ej];omega⟩,λj hj=>by
   rw[su]at hj;exact h.ext.fresh j hj⟩) (λ_ _=>⟨rfl,rfl⟩) (h.hi.step hm λj k bV hp=>by
   have wJ:bY (key T e 0/4096)=false:=by
    have:key T e 0=e*4096:=by simp[key]
    rw[this,sj _ (by decide)];simp[bY];omega
   have ej:j≠b:=by
    rintro rfl;by_cases ek:k=key T e 0
    ·grind
    ·grind
   exact⟨hp,rfl,by simp only[E1,b6 _ _ ej],jU _ _ ej _ _ _⟩) (λg' cw=>b6 _ _ (by omega))
 have h2:=h1.wB (d:=d) hd hP b o;have aj:d<st.boxes.length:=by
  rcases aT d st.boxes.length with h'|h'
  ·omega
  ·grind
 have jB:=qR b news o w hb;refine⟨E1.box d b o,h2.BK hd hP (λ_=>⟨?_,?_,gM jj o news,sE,?_,?_,?_⟩) ?_ (λ_ cL=>?_),?_⟩
 ·simp[Env.box,E1,bG,gB.kN]
 ·intro k;simp only[Env.box,E1,bG];grind
 ·simp only[Env.box,bG];omega
 ·simp only[Env.box,bG,uA,oJ];omega
 ·simp only[Env.box,bG,uA];refine QZ hk (by simp[oJ];omega) (λj c hj=>?_);obtain⟨u,hu,hc⟩:=hr j c hj;have dR:j<news.length:=by
   rcases aT j news.length with h'|h'
   ·omega
   ·grind
  refine⟨u,?_,hc.mono hm⟩;rw[fi,aC (by omega),fa,jO,sr news o jj j (by omega) dR];omega
 ·intro _ id l' bA eS he;have al:id≠d:=by rintro rfl;rw[hd]at bA;simp at bA
  simp only[Env.box,E1,bG,b6 _ _ al]at he;grind
 ·simp only[Env.box,E1,bG]at cL;grind
 ·refine⟨mQ (l:=fC [r] 0 0 (T e)) (by simp only[St.bC,St.vw,St.dz];grind) (Q0 al _ _ _),off,cap,by simp[Env.box,bG],cP,hlen,by simp[Env.box,bG,ho],pI,
   by simp only[Env.box,E1,bG];omega,λk bV=>by simp only[Env.box,E1,bG];grind,?_,gM jj o news,sE,by simp only[Env.box,bG];omega,by rw[oJ];omega⟩
  simp only[Env.box,E1,bG];exact⟨cap,aG.mono hm h0⟩
theorem aM.aaU (hT:cr P T) {cx:Cx} {st:St} {a:Act} (h:aM T cx E st a w) {t e:Nat} (ht:P.underlying t=some (.slice (base e))) (he:e<1000) (al:T e≠[])
 {rows:Y9} {r:amS} {u0 u1:Value} (h0:aG T E.φ w (.sl e rows) u0) (h1:aG T E.φ w (.sl e [r]) u1)
 (kt:rows.length+1<=eA) (ty g:Nat) (sD:g<5000) (l6:uj T E w e g u0) {d:Nat} (hd:st.boxes[d]?=some none) (hP:d<st.aq.length):
 ∃v w' E',(Builtin.append_ #[t,t] ty #[u0,u1]).run P w= .ok v w'/\aM T cx E' ((st.dz g).bC d (fC [r] 0 0 (T e))) a w'/\
  RX T E' w' ((st.dz g).bC d (fC [r] 0 0 (T e))).vw (.cn e d rows) v:=by
 have EZ:rows.length+1<=cM:=by simp only[eA,cM]at*;omega
 have sF:r.map C.kd=T e:=h1.kinds r (by simp);have grow:∀{base:Option Addr} {cap:Nat},u0= .slice base rows.length cap->cap<rows.length+1->
  ∃v w' E',(Builtin.append_ #[t,t] ty #[u0,u1]).run P w= .ok v w'/\aM T cx E' ((st.dz g).bC d (fC [r] 0 0 (T e))) a w'/\
  RX T E' w' ((st.dz g).bC d (fC [r] 0 0 (T e))).vw (.cn e d rows) v:=by
  intro base cap hu hg;subst hu;obtain⟨cs,pK,ep,BP,mV,fP,fp,_⟩:=JO hT h.hi ht al (by omega) h0 h1 (by omega) (by omega) ty;have hb:aM T cx E (st.dz g) a w.drew:=aM.step h.drew (gC.same E _ _ (λg'=>by
   by_cases eg:g'=g
   ·subst eg;rw[bG];omega
   ·rw[b6 _ _ eg];omega)) (λ_ _ _ _=>⟨rfl,rfl⟩) h.drew.ext (λ_ _=>⟨rfl,rfl⟩) h.drew.hi (λg' cw=>b6 _ _ (by omega))
  obtain⟨E',r1,r2⟩:=hb.aaS hT e he al rows r cs (Pv.base e) pK hd hP (by omega) mV EZ fP fp;exact⟨_,_,E',ep,r1,r2⟩
 rcases h0.slice with⟨rfl,mR,rfl⟩|⟨b,off,cap,rfl,cH,cP⟩
 ·grind
 ·by_cases pN:rows.length+1<=cap
  ·rcases l6 with⟨_,hn⟩|⟨b',pO,aaP,pK,he,ho⟩
   ·grind
   ·simp only[Value.slice.injEq,ae,Addr.mk.injEq,lU]at he;obtain⟨⟨rfl,rfl⟩,rfl,rfl⟩:=he;rcases ho with ho|⟨o1,o2,o3,o4,o5⟩
    ·omega
    ·obtain⟨news,ep,ji,wE⟩:=aaQ hT ht al h0 h1 (by omega) (by omega) ty o5;obtain⟨E',r1,r2⟩:=h.aaT e he al rows r g b off cap hd hP h0 pN EZ sF (by simpa using ji) (λj c hj=>by simpa using wE 0 j r c rfl hj) sD o1 o2 o3 o4 o5;grind
  grind
def S.bH (f:X->X):S->S
 | .one x=> .one (f x)
 | .agg l=> .agg (l.map f)
 | .bj l=> .bj (l.map λp=>(p.1,p.2.map f))
def S.xs:S->List X
 | .one x=>[x]
 | .agg l=>l
 | .bj l=>l.flatMap λp=>p.2
theorem bF.bH {V V':Vw} {E':Env} {w':World} {f:X->X} {l:amT} {us:ana} (h:bF T E w V l us) (hf:∀x∈l,∀u,RX T E w V x u->RX T E' w' V' (f x) u):
 bF T E' w' V' (l.map f) us:=by
 refine⟨by simpa using h.1,λj x u hx hu=>?_⟩;rw[bP]at hx;cases hl:l[j]?with
 |none=>grind
 |some y=>simp only[hl,cj,ae]at hx;subst hx;exact hf y (aY hl) u (h.2 j y u hl hu)
theorem RS.bH {V V':Vw} {E':Env} {w':World} {f:X->X} {s:S} {u:Value} (h:RS T E w V s u) (hf:∀x∈s.xs,∀u,RX T E w V x u->RX T E' w' V' (f x) u)
 (hj:f .aD= .aD):RS T E' w' V' (s.bH f) u:=by
 cases s with
 |one x=>
  by_cases e:x= .aD
  ·subst e;simp only[S.bH,hj];trivial
  ·exact RS.gN (hf x (by simp[S.xs]) u (RS.one e h))
 |agg l=>obtain⟨cs,rfl,h⟩:=h;exact⟨cs,rfl,h.bH hf⟩
 |bj l=>
  obtain⟨vs,rfl,h1,h2⟩:=h;refine⟨vs,rfl,by grind,λj p v hp hv=>?_⟩;rw[bP]at hp;cases hl:l[j]?with
  |none=>grind
  |some q=>
   simp only[hl,cj,ae]at hp;subst hp;have hq:=h2 j q v hl hv;have jC:∀x∈q.2,x∈(S.bj l).xs:=λx hx=>ba.2 ⟨q,aY hl,hx⟩;obtain⟨t,l'⟩:=q;cases t with
   |true=>obtain⟨cs,rfl,h⟩:=hq;exact⟨cs,rfl,h.bH λx hx=>hf x (jC x hx)⟩
   |false=>
    cases l' with
    |nil=>trivial
    |cons x r=>
     cases r with
     |nil=>exact hf x (jC x (by simp)) v hq
     |cons y r=>trivial
def X.fY (gen:amP) (e d g:Nat) (r:amS):X->X
 | .cn e' d' rows=>if d'=d then(if e'=e then .own e g (gen g) (rows++[r])else .aD)else .cn e' d' rows
 | .cq e' d' n=>if d'=d then .aD else .cq e' d' n
 | .ptr d' off=>if d'=d then .aD else .ptr d' off
 | .cd d' off=>if d'=d then .aD else .cd d' off
 |x=>x
def X.eK (gen:amP) (e d g:Nat) (all:Y9):X->X
 | .cq e' d' n=>if d'=d then(if e'=e/\n=all.length then .own e g (gen g) all else .aD)else .cq e' d' n
 | .cn e' d' rows=>if d'=d then .aD else .cn e' d' rows
 | .ptr d' off=>if d'=d then .aD else .ptr d' off
 | .cd d' off=>if d'=d then .aD else .cd d' off
 |x=>x
def St.cls (st:St) (d:Nat) (f:X->X):St:={st with aq:=st.aq.map (S.bH f),boxes:=(st.boxes.map (Option.map (List.map f))).set d none}
theorem St.qV {st:St} {d:Nat} {f:X->X} {id:Nat} {l:amT} (h:(st.cls d f).boxes[id]?=some (some l)):id≠d/\∃m,st.boxes[id]?=some (some m)/\l=m.map f:=by
 simp only[St.cls]at h;rw[kh]at h;by_cases e:d=id
 ·grind
 ·rw[aQ e,bP]at h;refine⟨λe'=>e e'.symm,?_⟩;cases hb:st.boxes[id]?with
  |none=>grind
  |some o=>
   cases o with
   |none=>grind
   |some m=>grind
theorem St.uF {st:St} {d:Nat} {f:X->X} {id:Nat} (al:id≠d) (h:hasB st.boxes id=true):hasB (st.cls d f).boxes id=true:=by obtain⟨l,hl,hn⟩:=qQ h;refine mQ (l:=l.map f) ?_ (by simp_all);simp only[St.cls];grind
theorem aM.cls {cx:Cx} {st:St} {a:Act} (h:aM T cx E st a w) {d g:Nat} {l:amT} (hd:st.boxes[d]?=some (some l)) (hl:l≠[]) (de:amP) (cI:∀k,E.φ (E.β d) k<=de k) (aaV:∀k,bY (k/4096)=true->de k=0)
 {f:X->X} (hj:f .aD= .aD)
 (hf:∀x u,RX T E w st.vw x u->RX T {E with φ:=cp E.φ (E.β d) de,κ:=cp E.κ (E.β d) (.row g)} w (st.cls d f).vw (f x) u):
 aM T cx {E with φ:=cp E.φ (E.β d) de,κ:=cp E.κ (E.β d) (.row g)} (st.cls d f) a w:=by
 obtain⟨b1,b2,cs,el,b3,b4,b5⟩:=h.boxes d l hd hl;have aj:=ko b3;have al:∀(id:Nat) m,id≠d->st.boxes[id]?=some (some m)->m≠[]->E.β id≠E.β d:=λid m aE hm hn e=>aE (h.inj id d m l hm hd hn hl e);have hm:dQ E.φ w (cp E.φ (E.β d) de) w:=by
  refine⟨λb k=>?_,bh _,λb cs el fr hb=>⟨cs,hb,rfl,λ_ _ _=> .inl rfl⟩⟩;by_cases e:b=E.β d
  ·subst e;rw[bG];grind
  ·rw[b6 _ _ e];omega
 refine⟨by simpa[St.cls]using h.len,λi s u hs hu=>?_,λid m fX hn=>?_,λid dt m m' qW uG cz mU he=>?_,h.defers,?_,⟨by simpa[St.cls]using h.fix.1,h.fix.2.1,λid m aE fX hn=>?_⟩,λid m aE fX hn cL=>?_,h.hi.step hm λb k hk hp=>?_,λb g' hb hg h0=>?_⟩
 ·simp only[St.cls]at hs;rw[bP]at hs;cases cS:st.aq[i]?with
  |none=>grind
  |some s'=>simp only[cS,cj,ae]at hs;subst hs;exact RS.bH (h.aq i s' u cS hu) (λx _ u hx=>hf x u hx) hj
 ·obtain⟨aE,m0,jE,rfl⟩:=St.qV fX;have iq:m0≠[]:=by simpa using hn
  obtain⟨c1,c2,bU,iD,c3,c4,c5⟩:=h.boxes id m0 jE iq;have hb:=al id m0 aE jE iq;refine⟨?_,?_,bU,iD,c3,by grind,?_⟩
  ·show(cp E.κ (E.β d) (.row g) (E.β id)).kN=true;rw[b6 _ _ hb];omega
  ·intro k;show cp E.φ (E.β d) de (E.β id) k<=E.ο id;rw[b6 _ _ hb];grind
  ·rw[dI];exact bF.bH c5 (λx _ u hx=>hf x u hx)
 ·obtain⟨_,m1,g1,rfl⟩:=St.qV qW;obtain⟨_,m2,g2,rfl⟩:=St.qV uG;exact h.inj id dt m1 m2 g1 g2 (by grind) (by grind) he
 ·refine⟨h.ext.os,h.ext.tape,h.ext.output,h.ext.fo,h.ext.mono.trans hm,λb hb BN=>?_,λb hb=>?_⟩
  ·obtain⟨f1,f2,f3⟩:=h.ext.dB b hb BN;have e:b≠E.β d:=by rintro rfl;rw[f3]at b1;cases b1
   exact⟨f1,by show cp E.φ (E.β d) de b=_;rw[b6 _ _ e];omega,by show cp E.κ (E.β d) (.row g) b=_;rw[b6 _ _ e];omega⟩
  ·show∀k,cp E.φ (E.β d) de b k=0;rw[b6 _ _ (by omega)];exact h.ext.fresh b hb
 ·obtain⟨yQ,m0,jE,rfl⟩:=St.qV fX;have iq:m0≠[]:=by simpa using hn
  have hb:=al id m0 yQ jE iq;show cp E.κ (E.β d) (.row g) (E.β id)=_/\cp E.φ (E.β d) de (E.β id)=_;rw[b6 _ _ hb,b6 _ _ hb];exact h.fix.2.2 id m0 aE jE iq
 ·obtain⟨yQ,m0,jE,rfl⟩:=St.qV fX;have iq:m0≠[]:=by simpa using hn
  have hb:=al id m0 yQ jE iq;have cL:cp E.κ (E.β d) (.row g) (E.β id)= .box:=cL;rw[b6 _ _ hb]at cL;exact h.oI id m0 aE jE iq cL
 ·have e:b≠E.β d:=by rintro rfl;have hp:0<cp E.φ (E.β d) de (E.β d) k:=hp;rw[bG,aaV k hk]at hp;omega
  have hp:0<cp E.φ (E.β d) de b k:=hp;rw[b6 _ _ e]at hp;exact⟨hp,b6 _ _ e,by show(cp E.κ (E.β d) (.row g) b).kN=_;rw[b6 _ _ e],rfl⟩
 ·obtain⟨g1,g2⟩:=h.so b g' hb hg h0;have e:b≠E.β d:=by rintro rfl;rw[g1]at b1;cases b1
  exact⟨by show cp E.κ (E.β d) (.row g) b=_;rw[b6 _ _ e];omega,by show cp E.φ (E.β d) de b=_;rw[b6 _ _ e];omega⟩
end Go.Pv
namespace Go.Pv
open Go
variable {P:Program} {T:ay} {E:Env} {w:World}
def X.af:X->Option Nat
 | .ptr d _=>some d
 | .cd d _=>some d
 | .cn _ d _=>some d
 | .cq _ d _=>some d
 |_=>none
theorem RX.cls {cx:Cx} {st:St} {a:Act} (h:aM T cx E st a w) {d g:Nat} {l:amT} (hd:st.boxes[d]?=some (some l)) (hl:l≠[]) (de:amP) (cI:∀k,E.φ (E.β d) k<=de k)
 (f:X->X) {x:X} (hx:x.af≠some d) {u:Value} (hu:RX T E w st.vw x u):
 RX T {E with φ:=cp E.φ (E.β d) de,κ:=cp E.κ (E.β d) (.row g)} w (st.cls d f).vw x u:=by
 obtain⟨b1,b2,cs,el,b3,b4,b5⟩:=h.boxes d l hd hl;have al:∀(id:Nat),id≠d->st.vw.hs id=true->E.β id≠E.β d:=λid aE hs e=>by obtain⟨m,hm,hn⟩:=qQ (bs:=st.boxes) hs;exact aE (h.inj id d m l hm hd hn hl e)
 have hm:dQ E.φ w (cp E.φ (E.β d) de) w:=by
  refine⟨λb k=>?_,bh _,λb cs el fr hb=>⟨cs,hb,rfl,λ_ _ _=> .inl rfl⟩⟩;by_cases e:b=E.β d
  ·subst e;rw[bG];exact cI k
  ·rw[b6 _ _ e];exact bh _
 cases x with
 |aD=>exact hu
 |c v=>exact aG.mono hm hu
 |bc=>exact hu
 |hH=>exact hu
 |fV f=>exact hu
 |own e g' n rows=>
  obtain⟨h1,h2,h3,h5⟩:=hu;refine⟨aG.mono hm h1,h2,λhn=>?_,h5⟩;rcases h3 hn with h4|⟨b,off,len,cap,rfl,h4⟩
  ·exact .inl h4
  ·refine .inr ⟨b,off,len,cap,rfl,?_⟩;rcases h4 with h4|⟨o1,o2,o3,o4,o5⟩
   ·exact .inl h4
   ·have e:b≠E.β d:=by rintro rfl;rw[o1]at b1;cases b1
    refine .inr ⟨?_,o2,?_,?_,o5⟩
    ·show cp E.κ (E.β d) (.row g) b=_;rw[b6 _ _ e];exact o1
    ·show _=cp E.φ (E.β d) de b _;rw[b6 _ _ e];exact o3
    ·show∀k,_->cp E.φ (E.β d) de b k=0;rw[b6 _ _ e];exact o4
 |ptr d' off=>have aE:d'≠d:=λe=>hx (by rw[e];rfl);refine⟨St.uF aE hu.1,?_,hu.2.2⟩;show cp E.κ (E.β d) (.row g) (E.β d')=_;rw[b6 _ _ (al d' aE hu.1)];exact hu.2.1
 |cd d' off=>have aE:d'≠d:=λe=>hx (by rw[e];rfl);exact⟨St.uF aE hu.1,hu.2⟩
 |bz e rows i off=>obtain⟨b,o,h1,h2,rfl,h3⟩:=hu;exact⟨b,o,h1.mono hm,h2,rfl,h3⟩
 |dn k=>exact⟨hu.1,hu.2.1,λj hj=>(hu.2.2 j hj).mono hm⟩
 |cn e d' rows=>
  have aE:d'≠d:=λe=>hx (by rw[e];rfl);obtain⟨h1,off,cap,rfl,c1,c2,c3,c9,c4,c5,c6,c7⟩:=hu;have e:=al d' aE h1;refine⟨St.uF aE h1,off,cap,rfl,c1,c2,c3,c9,?_,?_,c6.mono hm,c7⟩
  ·show cp E.φ (E.β d) de (E.β d') _=_;rw[b6 _ _ e];exact c4
  ·show∀k,_->cp E.φ (E.β d) de (E.β d') k=0;rw[b6 _ _ e];exact c5
 |cq e d' n=>
  have aE:d'≠d:=λe=>hx (by rw[e];rfl);rcases hu with⟨h0,h1,h2⟩|⟨h1,c0,cap,rfl,c1,c2,c3,c4⟩
  ·exact .inl ⟨h0,h1.mono hm,h2⟩
  ·have e:=al d' aE h1;refine .inr ⟨St.uF aE h1,c0,cap,rfl,c1,c2,?_,c4⟩;show∀k,cp E.φ (E.β d) de (E.β d') k=0;rw[b6 _ _ e];exact c3
theorem X.aaW {gen:amP} {e d g:Nat} {r:amS} {x:X} (hx:x.af≠some d):x.fY gen e d g r=x:=by cases x<;>simp[X.fY,X.af]at hx⊢<;>intro h<;>exact absurd h hx
theorem X.aaX {gen:amP} {e d g:Nat} {all:Y9} {x:X} (hx:x.af≠some d):x.eK gen e d g all=x:=by cases x<;>simp[X.eK,X.af]at hx⊢<;>intro h<;>exact absurd h hx
theorem Q2 {e:Nat} (he:e<1000):bY (key T e 0/4096)=false:=by
 have:key T e 0=e*4096:=by simp[key]
 rw[this,sj _ (by decide)];simp[bY];omega
theorem aM.aaY (hT:cr P T) {cx:Cx} {st:St} {a:Act} (h:aM T cx E st a w) {d e g:Nat} (b0:e<1000) {l:amT} {r:amS} (hd:st.boxes[d]?=some (some l)) (hl:l≠[]) (hr:du (T e) l=some r):
 ∃E',aM T cx E' (st.cls d (X.fY st.gen e d g r)) a w:=by
 classical
 obtain⟨b1,b2,cs,el,b3,b4,b5⟩:=h.boxes d l hd hl;obtain⟨rk,rc⟩:=yO hr b5;have nJ:l.length=(T e).length:=by
  have:∀(ks:amQ) (xs:amT) (r:amS),du ks xs=some r->xs.length=ks.length:=by
   intro ks;induction ks with
   |nil=>intro xs r h;cases xs with
    |nil=>rfl
    |cons x xs=>simp[du]at h
   |cons k ks ih=>intro xs r h;cases xs with
    |nil=>simp[du]at h
    |cons x xs=>
     simp only[du]at h;split at h
     ·rename_i c r' h1 h2;simp[ih xs r' h2]
     ·cases h
  exact this _ _ _ hr
 let wK:Prop:=E.φ (E.β d) (key T e 0)=E.ο d/\∀k,k≠key T e 0->E.φ (E.β d) k=0;let de:Nat->Nat:=if wK then(λk=>if k=key T e 0 then E.ο d+(T e).length else 0)else E.φ (E.β d);have cI:∀k,E.φ (E.β d) k<=de k:=by
  intro k;simp only[de];split
  ·rename_i hg;dsimp only;split
   ·rename_i hk;subst hk;rw[hg.1];omega
   ·rename_i hk;rw[hg.2 k hk];exact bh _
  ·exact bh _
 refine⟨_,h.cls (g:=g) hd hl de cI (λk hk=>by
  have oP:E.φ (E.β d) k=0:=by
   rcases yE (E.φ (E.β d) k)with h'|h'
   ·exact h'
   ·have:=(h.hi.zero _ k hk h').2.2.1;rw[b1]at this;cases this
  simp only[de];split
  ·dsimp only;rw[aQ];rintro rfl;rw[Q2 b0]at hk;cases hk
  ·exact oP) rfl (λx u hx=>?_)⟩
 by_cases cH:x.af≠some d
 ·rw[X.aaW cH];exact RX.cls h hd hl de cI _ cH hx
 replace cH:=PY.1 cH;have hj:RX T {E with φ:=cp E.φ (E.β d) de,κ:=cp E.κ (E.β d) (.row g)} w (st.cls d (X.fY st.gen e d g r)).vw .aD u:=hx.jW;cases x with
 |ptr d' off=>simp only[X.af,ae]at cH;subst cH;simp only[X.fY,cJ];exact hj
 |cd d' off=>simp only[X.af,ae]at cH;subst cH;simp only[X.fY,cJ];exact hj
 |cq e' d' n=>simp only[X.af,ae]at cH;subst cH;simp only[X.fY,cJ];exact hj
 |cn e' d' rows=>
  simp only[X.af,ae]at cH;subst cH;simp only[X.fY,cJ];by_cases he:e'≠e
  ·rw[aQ he];exact hj
  replace he:=PY.1 he;rw[aC he];subst he;obtain⟨h1,off,cap,rfl,c1,c2,c3,c9,c4,c5,c6,bU,iD,c7,c8⟩:=hx;have hg:wK:=⟨c4,c5⟩
  have yR:de=λk=>if k=key T e' 0 then E.ο d'+(T e').length else 0:=by simp only[de,aC hg]
  rw[b3]at c7;simp only[ae,Obj.cells.injEq]at c7;obtain⟨rfl,rfl,_⟩:=c7;have hm:dQ E.φ w (cp E.φ (E.β d') de) w:=by
   refine⟨λb k=>?_,bh _,λb cs el fr hb=>⟨cs,hb,rfl,λ_ _ _=> .inl rfl⟩⟩;by_cases e:b=E.β d'
   ·subst e;rw[bG];exact cI k
   ·rw[b6 _ _ e];exact bh _
  have qU:off+(rows.length+1)*(T e').length=de (key T e' 0):=by rw[yR];simp only[cJ];rw[en,ED];omega
  have alQ:(rows.length+1)*(T e').length<=cap*(T e').length:=eh _ c1;have alR:rows.length*(T e').length+(T e').length=(rows.length+1)*(T e').length:=by rw[en,ED]
  have fp:∀(i j:Nat) r' c,(rows++[r])[i]?=some r'->r'[j]?=some c->∃u,cs[off+i*(T e').length+j]?=some u/\aG T (cp E.φ (E.β d') de) w c u:=by
   intro i j r' c hi dR;rcases JM hi with⟨wL,oQ⟩|⟨wL,oQ⟩
   ·obtain⟨u,hu,hc⟩:=c6.cell oQ dR;rw[jA b3]at hu;exact⟨u,hu,hc.mono hm⟩
   ·have BQ:i=rows.length:=by
     rcases aT rows.length i with h'|h'
     ·rw[aW (by simp;omega)]at oQ;cases oQ
     ·omega
    subst BQ;simp at oQ;subst oQ;obtain⟨u,hu,hc⟩:=rc j c dR;refine⟨u,?_,hc.mono hm⟩;rw[fi]at hu;split at hu
    ·rw[fa,jO]at hu;rw[<-hu,c3]
    ·cases hu
  refine⟨?_,bh _,λ_=> .inr ⟨E.β d',off,_,cap,rfl, .inr ⟨bG _ _ _,c9,?_,λk hk=>?_,cs,el,b3⟩⟩,λhe=>by omega⟩
  ·have hlen:(rows++[r]).length=rows.length+1:=by simp
   rw[<-hlen];refine .sl e' (rows++[r]) (E.β d') off cap cs el (0,0) (λi j=>(cs[off+i*(T e').length+j]?).getD (.bool false)) e' (λ_ _=>default) b3 ?_ (by rw[hlen];exact c1) c8 (by rw[hlen];exact c2) ?_ ?_ ?_ (.self (by omega)) (λi j _ hj ha=>hT.hl off i j hj ha) (λg1=>by omega) (λg1=>by omega) (λg1=>by omega)
   ·show _<=cp E.φ (E.β d') de (E.β d') _;rw[Bv,bG,hlen,c9,<-qU];exact bh _
   ·intro r' bR;rcases bB.1 bR with h'|h'
    ·exact c6.kinds r' h'
    ·simp at h';subst h';exact rk
   ·intro i j hi dR;have h3:(i+1)*(T e').length<=(rows++[r]).length*(T e').length:=eh _ hi;rw[hlen,en]at h3;rw[im (by omega)];rfl
   ·intro i j r' c hi dR;obtain⟨u,hu,hc⟩:=fp i j r' c hi dR;simp only[hu,fh];exact hc
  ·show _=cp E.φ (E.β d') de (E.β d') _;rw[bG];exact qU
  ·show cp E.φ (E.β d') de (E.β d') k=0;rw[bG,yR];simp only[aQ hk]
 |_=>simp[X.af]at cH
def dC (n:Nat) (rows:Y9):List X:=(List.range (rows.length*n)).map λm=> .c (cellAt rows (m/n) (m%n))
theorem oR (n:Nat) (rows:Y9):(dC n rows).length=rows.length*n:=by simp[dC]
theorem uH {n:Nat} {rows:Y9} {m:Nat} (h:m<rows.length*n):(dC n rows)[m]?=some (.c (cellAt rows (m/n) (m%n))):=by simp[dC,iS h]
theorem aaZ {e:Nat} {V:Vw} {rows:Y9} (hk:∀r∈rows,r.map C.kd=T e) {us:ana} (hlen:us.length=rows.length*(T e).length)
 (h:∀(i j:Nat) r c,rows[i]?=some r->r[j]?=some c->∃u,us[i*(T e).length+j]?=some u/\aG T E.φ w c u):bF T E w V (dC (T e).length rows) us:=by
 refine⟨by rw[oR];exact hlen,λm x u hx hu=>?_⟩;have hm:m<rows.length*(T e).length:=by
  rw[<-hlen];rcases aT m us.length with h'|h'
  ·exact h'
  ·simp[aW h']at hu
 rw[uH hm]at hx;simp only[ae]at hx;subst hx;obtain⟨h1,h2⟩:=JK hm;have hr:rows[m/(T e).length]?=some rows[m/(T e).length]:=aP h1;have hl:m%(T e).length<rows[m/(T e).length].length:=by
  have:=hk _ (fz h1);have h3:(rows[m/(T e).length].map C.kd).length=(T e).length:=by rw[this]
  simp at h3;omega
 have hc:=aP hl;obtain⟨u',g1,g2⟩:=h _ _ _ _ hr hc;have e1:m/(T e).length*(T e).length+m%(T e).length=m:=by have:=Jm m (T e).length;rw[oE]at this;exact this
 rw[e1,hu]at g1;simp only[ae]at g1;subst g1;have:cellAt rows (m/(T e).length) (m%(T e).length)=rows[m/(T e).length][m%(T e).length]:=by simp[cellAt,aZ,hr,hc]
 show aG T E.φ w _ u;rw[this];exact g2
theorem aM.Q3 {cx:Cx} {st:St} {a:Act} (h:aM T cx E st a w) (e:Nat) (al:T e≠[]) (rows:Y9) (wN:rows≠[]) (cs:ane) (el:TypeId) (cap:Nat) {d:Nat}
 (hd:st.boxes[d]?=some none) (hP:d<st.aq.length) (cP:rows.length<=cap) (dq:cap*(T e).length<=cs.size) (hlen:rows.length<=cM) (hk:∀r∈rows,r.map C.kd=T e)
 (hr:∀(i j:Nat) r c,rows[i]?=some r->r[j]?=some c->∃u,cs[i*(T e).length+j]?=some u/\aG T E.φ w c u):
 ∃E',aM T cx E' (st.bC d (dC (T e).length rows)) a (w.alloc (.cells cs el))/\
  RX T E' (w.alloc (.cells cs el)) (st.bC d (dC (T e).length rows)).vw (.cq e d rows.length) (.slice (some ⟨w.heap.size,0,none⟩) rows.length cap):=by
 have hn:rows.length*(T e).length<=cap*(T e).length:=eh _ cP;have hm:=dQ.alloc (w:=w) (h.ext.fresh _ (bh _)) (.cells cs el) (λ_=>0);have h1:=(h.alloc (.cells cs el) .box (λ_=>0) (h.hi.alloc h.ext _ _ _ λ_ _=>rfl)).wB hd hP w.heap.size 0;have aj:d<st.boxes.length:=by
  rcases aT d st.boxes.length with h'|h'
  ·exact h'
  ·simp[aW h']at hd
 have uI:dC (T e).length rows≠[]:=by
  intro h';have:=oR (T e).length rows;rw[h',yD]at this;rcases Nat.mul_eq_zero.1 this.symm with h2|h2
  ·exact wN (jz.1 h2)
  ·exact al (jz.1 h2)
 refine⟨(E.new w.heap.size .box (λ_=>0)).box d w.heap.size 0,h1.BK hd hP (λ_=>⟨?_,?_,cs,el,?_,?_,?_⟩) ?_ (λ_ _=>by simp only[Env.box,bG];exact h.ext.mono.size), .inr ⟨?_,?_,cap,?_,cP,hlen,?_,cs,el,?_,dq⟩⟩
 ·simp[Env.box,Env.new,bG,gB.kN]
 ·simp[Env.box,Env.new,bG]
 ·simp only[Env.box,bG];exact heap_alloc_new _ _
 ·simp only[Env.box,bG,oR];omega
 ·simp only[Env.box,bG,oR,EC];refine aaZ hk (by simp;omega) (λi j r c hi hj=>?_);obtain⟨u,hu,hc⟩:=hr i j r c hi hj;have dW:i<rows.length:=by
   rcases aT i rows.length with h'|h'
   ·exact h'
   ·simp[aW h']at hi
  have qX:=JN hk (aY hi) hj;refine⟨u,?_,hc.mono hm⟩;have h3:(i+1)*(T e).length<=rows.length*(T e).length:=eh _ dW;rw[en]at h3;rw[fi,aC (by omega),jO];exact hu
 ·intro _ id l' bA eS he;have al:id≠d:=by rintro rfl;rw[hd]at bA;simp at bA
  simp only[Env.box,Env.new,bG,b6 _ _ al]at he;obtain⟨_,_,bU,iD,h3,_⟩:=h.boxes id l' bA eS;have:=ko h3;omega
 ·exact mQ (l:=dC (T e).length rows) (by simp only[St.bC,St.vw];rw[kh];simp[aj]) uI
 ·simp[Env.box,bG]
 ·simp[Env.box,bG]
 ·simp[Env.box,Env.new,bG]
 ·simp only[Env.box,bG];exact heap_alloc_new _ _
theorem aM.Q4 {cx:Cx} {st:St} {a:Act} (h:aM T cx E st a w) {d:Nat} (hd:st.boxes[d]?=some none) (hP:d<st.aq.length):aM T cx E (st.bC d []) a w:=
 h.BK hd hP (λhn=>absurd rfl hn) (λhn=>absurd rfl hn) (λhn=>absurd rfl hn)
theorem aM.aa0 (hT:cr P T) {cx:Cx} {st:St} {a:Act} (h:aM T cx E st a w) {t e:Nat} (ht:P.underlying t=some (.slice (base e))) (al:T e≠[]) (cz:e≠1553)
 {rows:Y9} {u1:Value} (h1:aG T E.φ w (.sl e rows) u1) (kt:rows.length<=eA) (ty:Nat) {d:Nat} (hd:st.boxes[d]?=some none) (hP:d<st.aq.length):
 ∃v w' E',(Builtin.append_ #[t,t] ty #[.slice none 0 0,u1]).run P w= .ok v w'/\aM T cx E' (st.bC d (dC (T e).length rows)) a w'/\
  RX T E' w' (st.bC d (dC (T e).length rows)).vw (.cq e d rows.length) v:=by
 by_cases hr:rows=[]
 ·subst hr;obtain⟨i,z,dd,hi,_,cf,_⟩:=hT.row e al;obtain⟨news,jZ,_⟩:=EY (P:=P) hT h.hi al cz h1 ht;have hn:news=[]:=by have:=jZ.newsLen;simpa using this
  subst hn;have l7:=jZ.cells;have hlen:=jZ.len;rw[<-cf]at l7;refine⟨.slice none 0 0,w,E,?_,?_, .inl ⟨rfl, .nil e,none,rfl⟩⟩
  ·simp[Builtin.append_,run_underlying ht,sizeOf,typeInfo,hi,hlen];simp at l7;simp[l7]
  ·have:dC (T e).length []=[]:=by simp[dC]
   rw[this];exact h.Q4 hd hP
 ·have hO:0<rows.length:=lT.2 hr;obtain⟨cs,pK,ep,BP,mV,fP,fp,_⟩:=JO (rows:=[]) (base:=none) (cap:=0) hT h.hi ht al cz (.nil e) h1 (by simpa using hO) (by simpa using kt) ty;obtain⟨E',r1,r2⟩:=h.drew.Q3 e al rows hr cs (base e) pK hd hP (by simpa using BP) mV (by simp only[eA,cM]at*;omega) (by simpa using fP) (by simpa using fp);exact⟨_,_,E',by simpa using ep,r1,by simpa using r2⟩
end Go.Pv
namespace Go.Pv
open Go
variable {P:Program} {T:ay} {E:Env} {w:World}
theorem aM.aa1 (hT:cr P T) {cx:Cx} {st:St} {a:Act} (h:aM T cx E st a w) {d e g:Nat} (b0:e<1000) {l:amT} {rows:Y9} (hd:st.boxes[d]?=some (some l)) (hl:l≠[])
 (hr:jD (T e) rows.length l=some rows) (hlen:l.length=rows.length*(T e).length):
 ∃E',aM T cx E' (st.cls d (X.eK st.gen e d g rows)) a w:=by
 classical
 obtain⟨b1,b2,cs,el,b3,b4,b5⟩:=h.boxes d l hd hl;obtain⟨_,rk,rc⟩:=JI hr b5;let wK:Prop:=E.ο d=0/\∀k,E.φ (E.β d) k=0;let de:Nat->Nat:=if wK then(λk=>if k=key T e 0 then rows.length*(T e).length else 0)else E.φ (E.β d);have cI:∀k,E.φ (E.β d) k<=de k:=by
  intro k;simp only[de];split
  ·rename_i hg;rw[hg.2 k];exact gk _
  ·exact bh _
 refine⟨_,h.cls (g:=g) hd hl de cI (λk hk=>by
  have oP:E.φ (E.β d) k=0:=by
   rcases yE (E.φ (E.β d) k)with h'|h'
   ·exact h'
   ·have:=(h.hi.zero _ k hk h').2.2.1;rw[b1]at this;cases this
  simp only[de];split
  ·dsimp only;rw[aQ];rintro rfl;rw[Q2 b0]at hk;cases hk
  ·exact oP) rfl (λx u hx=>?_)⟩
 by_cases cH:x.af≠some d
 ·rw[X.aaX cH];exact RX.cls h hd hl de cI _ cH hx
 replace cH:=PY.1 cH;have hj:RX T {E with φ:=cp E.φ (E.β d) de,κ:=cp E.κ (E.β d) (.row g)} w (st.cls d (X.eK st.gen e d g rows)).vw .aD u:=hx.jW;cases x with
 |ptr d' off=>simp only[X.af,ae]at cH;subst cH;simp only[X.eK,cJ];exact hj
 |cd d' off=>simp only[X.af,ae]at cH;subst cH;simp only[X.eK,cJ];exact hj
 |cn e' d' lA=>simp only[X.af,ae]at cH;subst cH;simp only[X.eK,cJ];exact hj
 |cq e' d' n=>
  simp only[X.af,ae]at cH;subst cH;simp only[X.eK,cJ];by_cases he:¬(e'=e/\n=rows.length)
  ·rw[aQ he];exact hj
  replace he:=PY.1 he;rw[aC he];obtain⟨rfl,rfl⟩:=he;have hm:dQ E.φ w (cp E.φ (E.β d') de) w:=by
   refine⟨λb k=>?_,bh _,λb cs el fr hb=>⟨cs,hb,rfl,λ_ _ _=> .inl rfl⟩⟩;by_cases e:b=E.β d'
   ·subst e;rw[bG];exact cI k
   ·rw[b6 _ _ e];exact bh _
  rcases hx with⟨h0,h1,base,rfl⟩|⟨h1,c0,cap,rfl,c1,c2,c3,bU,iD,c4,c5⟩
  ·exfalso;rw[h0,Zu]at hlen;exact hl (jz.1 hlen)
  ·have hg:wK:=⟨c0,c3⟩
   have yR:de=λk=>if k=key T e' 0 then rows.length*(T e').length else 0:=by simp only[de,aC hg]
   rw[b3]at c4;simp only[ae,Obj.cells.injEq]at c4;obtain⟨rfl,rfl,_⟩:=c4;have fp:∀(i j:Nat) r c,rows[i]?=some r->r[j]?=some c->∃u,cs[i*(T e').length+j]?=some u/\aG T (cp E.φ (E.β d') de) w c u:=by
    intro i j r c hi dR;obtain⟨u,hu,hc⟩:=rc i j r c hi dR;refine⟨u,?_,hc.mono hm⟩;rw[fi]at hu;split at hu
    ·rw[fa,jO,c0,eI]at hu;exact hu
    ·cases hu
   have alS:rows.length*(T e').length<=cap*(T e').length:=eh _ c1;refine⟨?_,bh _,λ_=> .inr ⟨E.β d',0,_,cap,rfl, .inr ⟨bG _ _ _,rfl,?_,λk hk=>?_,cs,el,b3⟩⟩,λhe=>by omega⟩
   ·refine .sl e' rows (E.β d') 0 cap cs el (0,0) (λi j=>(cs[i*(T e').length+j]?).getD (.bool false)) e' (λ_ _=>default) b3 ?_ c1 (by simpa using c5) c2 rk ?_ ?_ (.self (by omega)) (λi j _ hj ha=>hT.hl 0 i j hj ha) (λg1=>by omega) (λg1=>by omega) (λg1=>by omega)
    ·show _<=cp E.φ (E.β d') de (E.β d') _;rw[Bv,bG,yR];simp
    ·intro i j hi dR;have h3:(i+1)*(T e').length<=rows.length*(T e').length:=eh _ hi;rw[en]at h3;rw[eI,im (by omega)];rfl
    ·intro i j r c hi dR;obtain⟨u,hu,hc⟩:=fp i j r c hi dR;simp only[hu,fh];exact hc
   ·show _=cp E.φ (E.β d') de (E.β d') _;rw[bG,yR];simp
   ·show cp E.φ (E.β d') de (E.β d') k=0;rw[bG,yR];simp only[aQ hk]
 |_=>simp[X.af]at cH
theorem aM.aa2 {cx:Cx} {st:St} {a:Act} (h:aM T cx E st a w) {d e g:Nat} (b0:e<1000) (hd:st.boxes[d]?=some (some [])):aM T cx E (st.cls d (X.eK st.gen e d g [])) a w:=by
 have dv:st.vw.hs d=false:=by simp[St.vw,hasB,hd]
 have hf:∀x u,RX T E w st.vw x u->RX T E w (st.cls d (X.eK st.gen e d g [])).vw (x.eK st.gen e d g []) u:=by
  intro x u hx;cases x with
  |aD=>exact hx
  |c v=>exact hx
  |bc=>exact hx
  |hH=>exact hx
  |fV f=>exact hx
  |own e' g' n rows=>exact hx
  |bz e' rows i off=>exact hx
  |dn k=>exact hx
  |ptr d' off=>
   by_cases e:d'=d
   ·subst e;rw[hx.1]at dv;cases dv
   ·simp only[X.eK,aQ e];exact⟨St.uF e hx.1,hx.2⟩
  |cd d' off=>
   by_cases e:d'=d
   ·subst e;rw[hx.1]at dv;cases dv
   ·simp only[X.eK,aQ e];exact⟨St.uF e hx.1,hx.2⟩
  |cn e' d' rows=>
   by_cases e:d'=d
   ·subst e;rw[hx.1]at dv;cases dv
   ·simp only[X.eK,aQ e];exact⟨St.uF e hx.1,hx.2⟩
  |cq e' d' n=>
   by_cases e0:d'=d
   ·subst e0;simp only[X.eK,cJ];rcases hx with⟨h0,h1,base,rfl⟩|⟨h1,_⟩
    ·subst h0;by_cases he:e'=e/\0=([]:Y9).length
     ·rw[aC he];obtain⟨rfl,_⟩:=he;refine⟨h1,bh _,λ_=>?_,λhe=>by omega⟩;exact .inl ⟨_,rfl⟩
     ·rw[aQ he];rfl
    ·rw[h1]at dv;cases dv
   ·simp only[X.eK,aQ e0];rcases hx with h0|⟨h1,h2⟩
    ·exact .inl h0
    ·exact .inr ⟨St.uF e0 h1,h2⟩
 refine⟨by simpa[St.cls]using h.len,λi s u hs hu=>?_,λid m fX hn=>?_,λid dt m m' qW uG cz mU he=>?_,h.defers,h.ext,⟨by simpa[St.cls]using h.fix.1,h.fix.2.1,λid m aE fX hn=>?_⟩,λid m aE fX hn cL=>?_,h.hi,h.so⟩
 ·simp only[St.cls]at hs;rw[bP]at hs;cases cS:st.aq[i]?with
  |none=>simp[cS]at hs
  |some s'=>simp only[cS,cj,ae]at hs;subst hs;exact RS.bH (h.aq i s' u cS hu) (λx _ u hx=>hf x u hx) rfl
 ·obtain⟨aE,m0,jE,rfl⟩:=St.qV fX;obtain⟨c1,c2,bU,iD,c3,c4,c5⟩:=h.boxes id m0 jE (by simpa using hn);refine⟨c1,c2,bU,iD,c3,by simpa using c4,?_⟩;rw[dI];exact bF.bH c5 (λx _ u hx=>hf x u hx)
 ·obtain⟨_,m1,g1,rfl⟩:=St.qV qW;obtain⟨_,m2,g2,rfl⟩:=St.qV uG;exact h.inj id dt m1 m2 g1 g2 (by simpa using cz) (by simpa using mU) he
 ·obtain⟨yQ,m0,jE,rfl⟩:=St.qV fX;exact h.fix.2.2 id m0 aE jE (by simpa using hn)
 ·obtain⟨yQ,m0,jE,rfl⟩:=St.qV fX;exact h.oI id m0 aE jE (by simpa using hn) cL
end Go.Pv
namespace Go.Pv
open Go
variable {P:Program} {T:ay} {E:Env} {w:World}
def nK (t:Bool) (A B:Prop):Prop:=@Bool.rec (λ_=>Prop) B A t
theorem yS {t:Bool} {A B:Prop} (h:nK t A B) (ht:t=true):A:=by subst ht;exact h
theorem BR {t:Bool} {A B:Prop} (h:nK t A B) (ht:t=false):B:=by subst ht;exact h
theorem iu {t:Bool} {A B:Prop} (h1:t=true->A) (h2:t=false->B):nK t A B:=by
 cases t
 ·exact h2 rfl
 ·exact h1 rfl
inductive bl where
 |bad
 |v (st:St)
 |ck (side:Prop) (st:St)
 |fk (fact:Prop) (st:St)
 |split (t:Bool) (s1 s2:St)
 |call (side:Prop) (A:Type) (post:A->Prop) (st:A->St)
def bl.wp:bl->(St->Prop)->Prop
 | .bad,_=>False
 | .v st,K=>K st
 | .ck side st,K=>side/\K st
 | .fk fact st,K=>fact->K st
 | .split t s1 s2,K=>nK t (K s1) (K s2)
 | .call side A post st,K=>side/\∀x:A,post x->K (st x)
def R.iW (r:R) (f:S->St):bl:=
 match r with
 | .bad=> .bad
 | .v s=> .v (f s)
 | .ck p s=> .ck p (f s)
 | .fk p s=> .fk p (f s)
def E3 (g:Nat):Nat:=bif Nat.blt g 5000 then g else 0
theorem aa3 (g:Nat):E3 g≠6053:=by
 unfold E3;cases h:Nat.blt g 5000 with
 |true=>have:=fy h;grind
 |false=>simp
def fZ (ann:amU) (d:amR) (e:Nat):Nat:=
 match d with
 |some d=>E3 (match ann.find? (λp=>p.1==d)with|some p=>p.2|none=>e)
 |none=>E3 e
theorem JT (ann:amU) (d:amR) (e:Nat):fZ ann d e≠6053:=by unfold fZ;split<;>exact aa3 _
def nL (st:St) (d:amR) (l:amT):bl:=
 match d with
 |some d=>(match st.boxes[d]?with|some none=>(if d<st.aq.length/\l.isEmpty=false then .v ((st.bC d l).put (some d) (.one (.ptr d 0)))else .bad)|_=> .bad)
 |none=> .bad
def l8 (T:ay) (t:Nat) (a:S) (l:amT):List X:=
 match a with
 | .one (.cd _ _)=>(match du (T t) l with|some r=>r.map X.c|none=>l)
 |_=>l
def j5 (T:ay) (st:St) (d:amR) (t:Nat) (a x:S):bl:=
 match d,a.bp,x.cells with
 |none,some (b,off),some l'=>
  (match st.boxes[b]?with
  |some (some l)=>if l'.length=(T t).length/\off+l'.length<=l.length/\(T t).isEmpty=false/\t<1000 then .v (st.bC b (gD l off (l8 T t a l')))else .bad
  |_=> .bad)
 |_,_,_=> .bad
def nM (n:Nat):List (Nat×S)->List X->Option (List X)
 |[],acc=>some acc
 |(i,s)::rest,acc=>
  match s.cells with
  |some l=>if l.length=n/\i*n+l.length<=acc.length then nM n rest (gD acc (i*n) l)else none
  |none=>none
def lB (ann:amU) (d:amR):Nat:=
 match d with
 |some d=>(match ann.find? (λp=>p.1==d+65536)with|some p=>p.2|none=>0)
 |none=>0
def bD (ann:amU) (d:amR) (e:Nat):Nat:=
 match d with
 |some d=>(match ann.find? (λp=>p.1==d+131072)with|some p=>e+1000*p.2|none=>e)
 |none=>e
theorem JU {ann:amU} {d:amR} {e:Nat} (h:base (bD ann d e)=e):bD ann d e≠1553:=by
 intro h1;rw[h1]at h;have h:53=e:=h;subst h;unfold bD at h1;grind
def yT (T:ay) (e:Nat) (xs:amT):List (Nat×Nat)->Prop
 |[]=>True
 |(s,m)::gs=>(match du (((T (base e)).drop s).take m) ((xs.drop s).take m)with|some r=>nK (bY e) (T.G e s r) True|none=>False)/\yT T e xs gs
def BS (T:ay) (e k:Nat) (gs:amU):Nat->List X->Prop
 |0,_=>True
 |n+1,xs=>yT T e (xs.take k) gs/\BS T e k gs n (xs.drop k)
def sG (e:Nat):Bool:=Nat.blt e 1000||(dh (base e)).isNone
theorem Q5 {e:Nat} (h:¬sG e=true):¬e<1000:=λh'=>h (by
 have:Nat.blt e 1000=true:=alB h';simp[sG,this])
theorem fO.plain {T:ay} (hT:cr P T) {E:Env} {w:World} {e n:Nat} {cs:Nat->Option Value} (al:T e≠[]) (h:sG e=true):fO T E w e n cs:=by
 by_cases b0:e<1000
 ·exact .low b0
 simp only[sG,iT,EE]at h;rcases h with h|h
 ·exact absurd (fy h) b0
 ·have key:¬(Kd.any∈T e\/bY e=true):=λh'=>by obtain⟨gs,g1,_⟩:=hT.whole e (by omega) al h';grind
  exact⟨λhs=>(key (.inr hs)).elim,λ_ i j _ ha=>(key (.inl (aY ha))).elim⟩
def oS (P:Program) (T:ay) (ann:amU) (gen:amP) (d:amR) (t len:Nat) (parts:anl):R:=
 match P.underlying t with
 |some (.slice e0)=>
  if base (bD ann d e0)=e0/\(T (bD ann d e0)).isEmpty=false/\0<len/\len*(T (bD ann d e0)).length<=16777216 then
   (match nM (T (bD ann d e0)).length parts (List.replicate (len*(T (bD ann d e0)).length) .aD)with
   |some fl=>(match jD (T (bD ann d e0)) len fl with
    |some rows=>
     if sG (bD ann d e0)=true then .v (.one (match lB ann d with|3=> .c (.sl (bD ann d e0) rows)|_=> .own (bD ann d e0) (fZ ann d (bD ann d e0)) (gen (fZ ann d (bD ann d e0))) rows))
     else(match dh e0 with
      |some (_,gs)=> .ck (BS T (bD ann d e0) (T (bD ann d e0)).length gs len fl) (.one (match lB ann d with|3=> .c (.sl (bD ann d e0) rows)|_=> .own (bD ann d e0) (fZ ann d (bD ann d e0)) (gen (fZ ann d (bD ann d e0))) rows))
      |none=> .bad)
    |none=> .bad)
   |none=> .bad)
  else if base (bD ann d e0)=e0/\(T (bD ann d e0)).isEmpty=false/\len=0/\parts.isEmpty=true then
   .v (.one (.own (bD ann d e0) (fZ ann d (bD ann d e0)) (gen (fZ ann d (bD ann d e0))) []))else .bad
 |_=> .bad
def qY (P:Program) (T:ay) (ann:amU) (st:St) (d:amR) (t len:Nat) (parts:anl):bl:=
 (oS P T ann st.gen d t len parts).iW (st.put d)
def yU (gen:amP) (ann:amU) (d:amR) (e:Nat):S->Option (Nat×Nat×List (List C))
 | .one (.own e' g n rows)=>if base e'=e/\n=gen g/\e'≠1553 then some (e',g,rows)else none
 | .one .bc=>if base (bD ann d e)=e then some (bD ann d e,fZ ann d (bD ann d e),[])else none
 |_=>none
def mW (e:Nat):S->Option (List (List C))
 | .one (.own e' _ _ rows)=>if e'=e then some rows else none
 | .one (.c (.sl e' rows))=>if e'=e then some rows else none
 | .one .bc=>some []
 |_=>none
def kv (st:St) (d:amR):Option Nat:=
 match d with
 |some d=>(match st.boxes[d]?with|some none=>if d<st.aq.length then some d else none|_=>none)
 |none=>none
def iX:Kd->C
 | .int k=> .int k 0
 | .bool=> .bool false
 | .str=> .str ByteArray.empty
 | .sl e=> .sl e []
 | .ptr=> .bool false
 | .any=> .any
def fQ (ks:amQ) (n:Nat):List (List C):=List.replicate n (ks.map iX)
def gZ (T:ay) (e:Nat):List (Nat×Nat)->Prop
 |[]=>True
 |(s,m)::gs=>nK (bY e) (T.G e s ((((T (base e)).drop s).take m).map iX)) True/\gZ T e gs
def E4 (T:ay) (e:Nat):Prop:=
 nK (sG e) True (match dh (base e)with|some (_,gs)=>gZ T e gs|none=>False)
def pP (P:Program) (T:ay) (ann:amU) (st:St) (d:amR) (t:Nat) (l c:S):bl:=
 match P.underlying t,l,c with
 |some (.slice e0), .one (.c (.int _ n)), .one (.c (.int _ m))=>
  if base (bD ann d e0)=e0/\(T (bD ann d e0)).isEmpty=false/\cR (T (bD ann d e0))=true/\cR (T e0)=true then
   (match lB ann d,kv st d with
   |2,some dd=>if bD ann d e0=e0 then .ck (0<=n/\n=m/\m<=eA) ((st.bC dd (dC (T e0).length (fQ (T e0) n.toNat))).put d (.one (.cq e0 dd n.toNat)))else .bad
   |0,_=> .ck ((0<=n/\n<=m/\m<=eA)/\E4 T (bD ann d e0))
    (st.put d (.one (.own (bD ann d e0) (fZ ann d (bD ann d e0)) (st.gen (fZ ann d (bD ann d e0))) (fQ (T (bD ann d e0)) n.toNat))))
   |_,_=> .bad)
  else .bad
 |_,_,_=> .bad
def qZ (P:Program) (T:ay) (ann:amU) (st:St) (d:amR) (t:Nat) (s x:S):bl:=
 match P.underlying t with
 |some (.slice e0)=>
  (match lB ann d,kv st d,yU st.gen ann d e0 s with
  |0,_,some (e,g,rows)=>
   (match mW e x with
   |some bq=>if(T e).isEmpty=false/\g<5000 then .ck (rows.length+bq.length<=eA) ((st.dz g).put d (.one (.own e g (st.gen g+1) (rows++bq))))else .bad
   |none=> .bad)
  |1,some dd,some (e,g,rows)=>
   (match mW e x with
   |some bq=>if(T e).isEmpty=false/\e<1000/\g<5000 then .ck (bq.length=1/\rows.length+1<=eA) (((st.dz g).bC dd (fC bq 0 0 (T e))).put d (.one (.cn e dd rows)))else .bad
   |none=> .bad)
  |2,some dd,_=>
   (match s,mW e0 x with
   | .one .bc,some bq=>if wo T e0=false then .ck (bq.length<=eA) ((st.bC dd (dC (T e0).length bq)).put d (.one (.cq e0 dd bq.length)))else .bad
   |_,_=> .bad)
  |_,_,_=> .bad)
 |_=> .bad
def j6 (P:Program) (T:ay) (ann:amU) (st:St) (o:Oper):bl:=
 match o.op with
 | .pick c a b=>
  (match ev st c with
  | .one (.c (.bool t))=> .split t (st.put o.dst (ev st a)) (st.put o.dst (ev st b))
  |_=> .bad)
 | .box _ x=>(match(ev st x).cells with|some l=>nL st o.dst l|none=> .bad)
 | .alloc e=>if(T e).isEmpty||Nat.ble 1000 e then .bad else nL st o.dst ((T e).map mS)
 | .store t a x=>j5 T st o.dst t (ev st a) (ev st x)
 | .buildSlice t len parts=>qY P T ann st o.dst t len (parts.toList.map λp=>(p.1,ev st p.2))
 | .makeSlice t l c=>pP P T ann st o.dst t (ev st l) (ev st c)
 | .call c=>
  (match c.callee with
  | .builtin .append=>
   (match c.args.toList,c.argTypes.toList with
   |[s,x],[t,t']=>if t=t' then qZ P T ann st o.dst t (ev st s) (ev st x)else .bad
   |_,_=> .bad)
  |_=>(fW P T st o.op).iW (st.put o.dst))
 |_=>(fW P T st o.op).iW (st.put o.dst)
theorem kQ {o:Oper} {a:Act} {K:Act->World->Prop} {Q:Exit->Act->World->Prop} {v:Value} {w':World} (h:(execOp a.eval o).run P w= .ok (.value v) w')
 (hk:K (a.put o.dst v) w'):o.wp P a w K Q:=by
 unfold Oper.wp;rw[h];exact hk
theorem E5 {o:Oper} {a:Act} {K:Act->World->Prop} {Q:Exit->Act->World->Prop} {w':World} (h:(execOp a.eval o).run P w= .ok .skip w')
 (hk:K (a.put o.dst undef) w'):o.wp P a w K Q:=by
 unfold Oper.wp;rw[h];exact hk
def iF (T:ay) (cx:Cx) (K:amX) (a:Act) (w:World):Prop:=∃st,K st/\Rel T cx st a w
theorem Q6 {cx:Cx} {st:St} {a:Act} {o:Oper} {Q:Exit->Act->World->Prop} {K:amX} {r:R} (h:aM T cx E st a w)
 (hr:r.holds (λs=>∃v,(execOp a.eval o).run P w= .ok (.value v) w/\RS T E w st.vw s v)) (hk:(r.iW (st.put o.dst)).wp K):
 o.wp P a w (iF T cx K) Q:=by
 cases r with
 |bad=>exact hk.elim
 |v s=>obtain⟨v,h1,h2⟩:=hr;exact kQ h1 ⟨_,hk,E,h.put o.dst h2⟩
 |ck p s=>obtain⟨v,h1,h2⟩:=hr hk.1;exact kQ h1 ⟨_,hk.2,E,h.put o.dst h2⟩
 |fk p s=>obtain⟨h0,v,h1,h2⟩:=hr;exact kQ h1 ⟨_,hk h0,E,h.put o.dst h2⟩
theorem Q7 {cx:Cx} {st:St} {a:Act} {o:Oper} {Q:Exit->Act->World->Prop} {K:amX} (h:aM T cx E st a w) {l:amT} {cs:ane} (el:TypeId)
 (hl:bF T E w st.vw l cs.toList) (ep:(execOp a.eval o).run P w= .ok (.value (.pointer (some ⟨w.heap.size,0,none⟩))) (w.alloc (.cells cs el)))
 (hk:(nL st o.dst l).wp K):o.wp P a w (iF T cx K) Q:=by
 unfold nL at hk;split at hk
 ·rename_i d hd;split at hk
  ·rename_i hb;split at hk
   ·rename_i hP;obtain⟨hP,hle⟩:=hP;obtain⟨E',r1,r2⟩:=h.aaE el hb hP (by grind) hl;refine kQ ep ⟨_,hk,E',?_⟩;rw[hd];exact r1.put (some d) (RS.gN r2)
   ·exact hk.elim
  ·exact hk.elim
 ·exact hk.elim
theorem Q8 (hT:cr P T) {t:Nat} (ht:t<1000) (al:T t≠[]) {b off:Nat} {cs:ane} {el:TypeId} (hb:w.heap[b]?=some (.cells cs el (0,0))) {v:Value}
 (hlen:v.cells.size=(T t).length) (mX:∀u∈v.cells.toList,u.oneCell'=true) (hle:off+v.cells.size<=cs.size):
 (Instr.storeAt t (.pointer (some ⟨b,off,none⟩)) v).run P w= .ok () (w.setCells b off v.cells.toList):=by
 obtain⟨i,z,d,hi,_,cf,_⟩:=hT.uk ht al;have:=run_storeCells_cells (P:=P) b off v.cells.toList 0 w (λj hj=>by
  simp only[jy];rw[jA hb,im (by grind)];rfl)
  (λj hj=>by simp[World.frozen?,hb]) mX
 simp only[jy]at this;simp[Instr.storeAt,Instr.sureAddr,storeVar,sizeOf,typeInfo,hi,cf,hlen,this]
theorem Q9 {V:Vw} {t:Nat} {s:S} {l:amT} {us:ana} (h:bF T E w V l us):bF T E w V (l8 T t s l) us:=by
 unfold l8;split
 ·split
  ·rename_i r hr;obtain⟨h1,h2⟩:=yO hr h;have hlen:r.length=l.length:=by
    clear h h1 h2;generalize T t=ks at hr;induction l generalizing ks r with
    |nil=>cases ks<;>simp[du]at hr;grind
    |cons x xs ih=>
     cases ks with
     |nil=>simp[du]at hr
     |cons k ks=>
      simp only[du]at hr;grind
   refine⟨by simp[hlen,h.1],λj x u hx hu=>?_⟩;rw[bP]at hx;cases hq:r[j]?with
   |none=>grind
   |some c=>simp only[hq,cj,ae]at hx;subst hx;obtain⟨u',h3,h4⟩:=h2 j c hq;rw[hu]at h3;simp only[ae]at h3;subst h3;exact h4
  omega
 omega
theorem aa4 {t:Nat} {s:S} {l:amT} {V:Vw} {us:ana} (h:bF T E w V l us):(l8 T t s l).length=l.length:=by rw[<-(Q9 (t:=t) (s:=s) h).1,h.1]
theorem aa5 (hT:cr P T) {cx:Cx} {st:St} {a:Act} {o:Oper} {Q:Exit->Act->World->Prop} {K:amX} (h:aM T cx E st a w) (t:Nat) (p x:Operand)
 (ho:o.op= .store t p x) (hk:(j5 T st o.dst t (ev st p) (ev st x)).wp K):o.wp P a w (iF T cx K) Q:=by
 unfold j5 at hk;split at hk
 ·rename_i b off l' hd hp hx;split at hk
  ·rename_i l hb;split at hk
   ·rename_i hc;obtain⟨c1,c2,c3,c4⟩:=hc;obtain⟨_,aa6⟩:=JF hp (dy h p);have pQ:=BE hx (dy h x);have hO:0<(T t).length:=lT.2 (by grind);have wz:l≠[]:=by rintro rfl;simp only[yD]at c2;omega
    obtain⟨_,_,cs,el,b3,b5,b4⟩:=h.boxes b l hb wz;have cf:(a.eval x).cells.size=l'.length:=by have:=pQ.1;simpa using this
    have mX:∀u∈(a.eval x).cells.toList,u.oneCell'=true:=by
     intro u hu;obtain⟨j,hj⟩:=jP hu;have aj:j<l'.length:=by
      rcases aT j l'.length with h'|h'
      ·omega
      ·grind
     exact(pQ.2 j _ u (aP aj) hj).jW
    have ep:=Q8 (P:=P) hT (t:=t) c4 (by grind) b3 (v:=a.eval x) (by omega) mX (off:=E.ο b+off) (by omega);refine E5 (w':=w.setCells (E.β b) (E.ο b+off) (a.eval x).cells.toList) ?_ ⟨_,hk,E,?_⟩
    ·simp[execOp,ho,aa6,ep]
    ·rw[hd];exact h.store hb wz (Q9 pQ) (by rw[aa4 pQ];omega)
   ·exact hk.elim
  ·exact hk.elim
 ·exact hk.elim
theorem bF.aa7 {V:Vw} (cs:ane) (h:∀u∈cs.toList,u.oneCell'=true):bF T E w V (List.replicate cs.size .aD) cs.toList:=by
 refine⟨by simp,λj x u hx hu=>?_⟩;rw[PZ]at hx;split at hx
 ·simp only[ae]at hx;subst hx;exact h u (aY hu)
 grind
theorem Ra {V:Vw} {n:Nat}:∀(parts:anl) (vals:List (Nat×Value)) (acc:amT) (us:ane) (l:amT),
 parts.map Prod.fst=vals.map Prod.fst->(∀(j:Nat) p v,parts[j]?=some p->vals[j]?=some v->RS T E w V p.2 v.2)->bF T E w V acc us.toList->
 nM n parts acc=some l->∃oM,Instr.fill (λi=>some (i*n,n)) us vals=some oM/\bF T E w V l oM.toList
 |[],[],acc,us,l,_,_,ha,h=>by simp only[nM,ae]at h;subst h;exact⟨us,rfl,ha⟩
 |[],_::_,_,_,_,h,_,_,_=>by grind
 |_::_,[],_,_,_,h,_,_,_=>by grind
 |(f,s)::parts,(f',v)::vals,acc,us,l,hf,hp,ha,h=>by
  simp only[bu,ua]at hf;obtain⟨rfl,hf⟩:=hf;simp only[nM]at h;split at h
  ·rename_i lx wv;split at h
   ·rename_i hc;have hv:=BE wv (hp 0 (f,s) (f,v) rfl rfl);have cf:v.cells.size=lx.length:=by have:=hv.1;simpa using this
    have aau:us.size=acc.length:=by have:=ha.1;simpa using this
    obtain⟨oM,h1,h2⟩:=Ra parts vals (gD acc (f*n) lx) (gM us (f*n) v.cells.toList) l hf
     (λj p u hj wy=>hp (j+1) p u (by grind) (by grind)) (bF.EV lx _ (f*n) acc us hv ha) h
    refine⟨oM,?_,h2⟩;have JA:(v.cells.zipIdx.foldl (λcs (x:Value×Nat)=>cs.setIfInBounds (f*n+x.2) x.1) us)=gM us (f*n) v.cells.toList:=QJ (f*n) v.cells us;have JB:(decide (v.cells.size≠n)||decide (f*n+v.cells.size>us.size))=false:=by simp only[Jj,v3];omega
    simp only[Instr.fill,JB,qL,py];grind
   grind
  grind
theorem Rb (k:Kd):(zeroV k).oneCell'=true:=by cases k<;>rfl
theorem Rc {e:Nat} {xs:amT}:∀{gs:amU},yT T e xs gs->∀s m,(s,m)∈gs->∃r,du (((T (base e)).drop s).take m) ((xs.drop s).take m)=some r/\(bY e=true->T.G e s r)
 |[],_,s,m,hm=>by grind
 |(s',m')::gs,h,s,m,hm=>by
  rcases az.1 hm with he|hm
  ·cases he;have h1:=h.1;split at h1
   ·rename_i r hr;exact⟨r,hr,λhs=>yS h1 hs⟩
   grind
  ·exact Rc h.2 s m hm
theorem Rd {e k:Nat} {gs:amU}:∀{n:Nat} {xs:amT},BS T e k gs n xs->∀i,i<n->yT T e ((xs.drop (i*k)).take k) gs
 |0,_,_,i,hi=>by omega
 |n+1,xs,h,i,hi=>by
  cases i with
  |zero=>simpa using h.1
  |succ i=>have:=Rd h.2 i (by omega);rw[P0]at this;grind
theorem fO.made (hT:cr P T) {V:Vw} {e n:Nat} {gs:amU} {k0:Nat} (al:T e≠[]) (sH:1000<=e) (hl:dh (base e)=some (k0,gs)) {fl:amT} {us:ana} (hx:bF T E w V fl us)
 (hg:BS T e (T e).length gs n fl):fO T E w e n λj=>us[j]?:=by
 have main:∀s m i,(s,m)∈gs->s+m<=(T e).length->i<n->∃r:amS,r.map C.kd=((T (base e)).drop s).take m/\(bY e=true->T.G e s r)/\
  ∀(j:Nat) c,r[j]?=some c->∃u,us[i*(T e).length+s+j]?=some u/\aG T E.φ w c u:=λs m i hm EX hi=>by
  obtain⟨r,hr,hG⟩:=Rc (Rd hg i hi) s m hm;have yV:=(((hx.drop (i*(T e).length)).take (T e).length).drop s).take m;obtain⟨h1,h2⟩:=yO hr yV;grind
 refine⟨λhs k EW s m i mY hm hi=>?_,λhw i j hi ha=>?_⟩
 ·obtain⟨BT,g1,g2,_⟩:=hT.whole e sH al (.inr hs);grind
 ·obtain⟨BT,g1,g2,g3⟩:=hT.whole e sH al (.inl (aY ha));rw[g1]at hl;simp only[ae,bT]at hl;obtain⟨_,rfl⟩:=hl;obtain⟨s,m,hm,s1,s2⟩:=(g3 j).1 ha;have EX:=g2 s m hm;obtain⟨r,r1,_,r3⟩:=main s m i hm EX hi;have fM:(r.map C.kd)[j-s]?=(T (base e))[j]?:=by rw[r1,fi,aC (by omega),fa];congr 1;omega
  have aaJ:=(hT.low e al).2;grind
theorem aa8 (hT:cr P T) (ann:amU) {cx:Cx} {st:St} {a:Act} {o:Oper} {Q:Exit->Act->World->Prop} {K:amX} (h:aM T cx E st a w) (t len:Nat)
 (parts:Array (Nat×Operand)) (ho:o.op= .buildSlice t len parts) (hk:(qY P T ann st o.dst t len (parts.toList.map λp=>(p.1,ev st p.2))).wp K):
 o.wp P a w (iF T cx K) Q:=by
 unfold qY oS at hk;split at hk
 ·rename_i e0 ht;have BU:∀(j:Nat) p v,(parts.toList.map λp=>(p.1,ev st p.2))[j]?=some p->(parts.map λx=>(x.fst,a.eval x.snd)).toList[j]?=some v->RS T E w st.vw p.2 v.2:=by
   intro j p v hp hv;rw[bP]at hp;rw[Zs,bP]at hv;cases hq:parts.toList[j]?with
   |none=>grind
   |some q=>simp only[hq,cj,ae]at hp hv;subst hp;subst hv;exact dy h q.2
  have yW:=JU (ann:=ann) (d:=o.dst) (e:=e0);generalize bD ann o.dst e0=e at hk yW;split at hk
  ·rename_i hc;obtain⟨rfl,c1,c2,c3⟩:=hc;have cz:=yW rfl;have al:T e≠[]:=by simpa using c1
   obtain⟨i,z,d,hi,_,cf,hz,iV,_⟩:=hT.row e al;have BO:z.cells.size=(T e).length:=by
    have:z.cells.toList.length=(T e).length:=by rw[iV];simp[(hT.low e al).2]
    simpa using this
   have hO:0<(T e).length:=lT.2 al;split at hk
   ·rename_i fl kx;split at hk
    ·rename_i rows wN;have mX:∀u∈((Array.range (len*(T e).length)).map (z.cells[· %z.cells.size]!)).toList,u.oneCell'=true:=by
      intro u hu;simp only[Zs,aF]at hu;obtain⟨m,_,rfl⟩:=hu;have aj:m%z.cells.size<z.cells.size:=mI _ (by omega);rw[getElem!_pos z.cells _ aj];have jC:z.cells[m%z.cells.size]∈z.cells.toList:=by simp
      rw[iV]at jC;obtain⟨k,_,bV⟩:=aF.1 jC;rw[<-bV];exact Rb k
     have hj:=bF.aa7 (T:=T) (E:=E) (w:=w) (V:=st.vw) _ mX;simp only[Array.size_map,Array.size_range]at hj;obtain⟨us,aa9,JV⟩:=Ra _ (parts.map λx=>(x.fst,a.eval x.snd)).toList _ _ fl (by simp) BU hj kx;have ep:=run_buildSlice (P:=P) w t (base e) len (parts.map λx=>(x.fst,a.eval x.snd)) us i z ht hi hz (by grind)
      (by rw[cf];exact λh0=>by rcases Nat.mul_eq_zero.1 h0 with h'|h'<;>omega) (by grind)
     obtain⟨r1,r2,r3⟩:=JI wN JV;have alT:us.size=fl.length:=by have:=JV.1;simpa using this
     have alU:fl.length=len*(T e).length:=by
      have:∀(ps:anl) (acc l:amT),nM (T e).length ps acc=some l->l.length=acc.length:=by
       intro ps;induction ps with
       |nil=>intro acc l h';simp[nM]at h';rw[h']
       |cons p ps ih=>
        intro acc l h';obtain⟨f,s⟩:=p;simp only[nM]at h';split at h'
        ·split at h'
         ·have:=ih _ _ h';rw[this,BF]
         grind
        grind
      have:=this _ _ _ kx;simpa using this
     have goal:∀s:S,(match lB ann o.dst with|3=>S.one (.c (.sl e rows))|_=> .one (.own e (fZ ann o.dst e) (st.gen (fZ ann o.dst e)) rows))=s->fO T E w e rows.length (λj=>us[j]?)->K (st.put o.dst s)->
      o.wp P a w (iF T cx K) Q:=λs hs fu hk=>by
      obtain⟨E',q1,q2⟩:=h.newRow hT e (fZ ann o.dst e) rows us (base e) len (by omega) (by omega) (by
       simp only[cM];have:len<=len*(T e).length:=alC _ hO;omega) r2 (λi j r c hi hj=>by
       grind) al fu cz (JT _ _ _)
      rw[r1]at q2;refine kQ (v:= .slice (some ⟨w.heap.size,0,none⟩) len len) ?_ ⟨_,hk,E',q1.put o.dst ?_⟩
      ·simp only[execOp,ho];simp_all
      ·rw[<-hs];split
       ·exact RS.gN (x:= .c (.sl e rows)) q2.1
       assumption
     split at hk
     ·rename_i b0;refine goal _ ?_ (.plain hT al b0) hk;grind
     ·rename_i b0;have b0:=Q5 b0;split at hk
      ·rename_i k0 gs aj;refine goal _ ?_ ?_ hk.2
       ·grind
       ·have:=fO.made hT al (by omega) aj JV hk.1;grind
      ·exact hk.elim
    ·exact hk.elim
   ·exact hk.elim
  ·split at hk
   ·rename_i hc;obtain⟨rfl,c1,c2,c3⟩:=hc;have cz:=yW rfl;subst c2;have al:T e≠[]:=by simpa using c1
    obtain⟨i,z,d,hi,_,cf,hz,iV,_⟩:=hT.row e al;have aba:parts=#[]:=by
     have:parts.toList=[]:=by simpa using c3
     exact v7.1 this
    subst aba;obtain⟨E',q1,q2⟩:=h.newRow hT e (fZ ann o.dst e) [] #[] (base e) 0 (by simp) (by simp) (by simp) (by simp) (λi j r c hi=>by grind) al .zero cz (JT _ _ _);refine kQ (v:= .slice (some ⟨w.heap.size,0,none⟩) 0 0) ?_ ⟨_,hk,E',q1.put o.dst (RS.gN q2)⟩;simp[execOp,ho,Instr.buildSlice,run_underlying ht,sizeOf,typeInfo,hi,Instr.fill,newRow,go_sem]
   ·exact hk.elim
 ·exact hk.elim
theorem Re {ann:amU} {d:amR} {e0 e g:Nat} {V:Vw} {s:S} {rows:Y9} {u:Value} (h:yU V.gen ann d e0 s=some (e,g,rows)) (hx:RS T E w V s u):
 base e=e0/\aG T E.φ w (.sl e rows) u/\uj T E w e g u/\e≠1553:=by
 unfold yU at h;split at h
 ·split at h
  ·rename_i he;simp only[ae,bT]at h;obtain⟨rfl,rfl,rfl⟩:=h;exact⟨he.1,hx.1,hx.2.2.1 he.2.1,he.2.2⟩
  grind
 ·split at h
  ·rename_i he;simp only[ae,bT]at h;obtain⟨rfl,rfl,rfl⟩:=h;have hx:u=_:=hx;subst hx;exact⟨he, .nil _, .inl ⟨_,rfl⟩,JU he⟩
  grind
 grind
theorem JW {e:Nat} {V:Vw} {s:S} {rows:Y9} {u:Value} (h:mW e s=some rows) (hx:RS T E w V s u):aG T E.φ w (.sl e rows) u:=by
 unfold mW at h;split at h
 ·split at h
  ·rename_i he;simp only[ae]at h;subst h;subst he;exact hx.1
  grind
 ·split at h
  ·rename_i he;simp only[ae]at h;subst h;subst he;exact hx
  grind
 ·simp only[ae]at h;subst h;have hx:u=_:=hx;subst hx;exact .nil e
 grind
theorem JX {st:St} {d:amR} {dd:Nat} (h:kv st d=some dd):st.boxes[dd]?=some none/\dd<st.aq.length:=by
 unfold kv at h;grind
theorem BV {k:Kd} (hk:cR [k]=true):(iX k).kd=k/\aG T E.φ w (iX k) (zeroV k):=by
 cases k with
 |int k=>exact⟨rfl, .int k 0 (by cases k<;>simp[iA,IntKind.min,IntKind.max,IntKind.signed,IntKind.bits])⟩
 |bool=>exact⟨rfl, .bool false⟩
 |str=>exact⟨rfl, .str _ (by simp)⟩
 |sl e=>exact⟨rfl, .nil e⟩
 |ptr=>simp[cR]at hk
 |any=>exact⟨rfl, .any _ rfl⟩
theorem JY {z:Value} {m len i j:Nat} {v:Value} (hz:z.cells.toList.length=len) (hi:i<m) (hj:z.cells.toList[j]?=some v):(madeCells z.cells (m*len))[i*len+j]?=some v:=by
 have abb:z.cells.size=len:=by simpa using hz
 have qX:j<len:=by
  rcases aT j len with h'|h'
  ·omega
  ·grind
 have h3:(i+1)*len<=m*len:=eh _ (by omega);rw[en]at h3;have BW:(i*len+j)%len=j:=by rw[Bm,Zv,Bj qX]
 simp only[madeCells,Array.getElem?_map];grind
theorem Rf (hT:cr P T) {e n:Nat} {z:Value} (al:T e≠[]) (iC:cR (T e)=true) (iV:z.cells.toList=(T (base e)).map zeroV) (m:Nat) (yX:n<=m):
 (∀r∈fQ (T e) n,r.map C.kd=T e)/\∀(i j:Nat) r c,(fQ (T e) n)[i]?=some r->r[j]?=some c->
  ∃u,(madeCells z.cells (m*(T e).length))[i*(T e).length+j]?=some u/\aG T E.φ w c u:=by
 have jF:∀k∈T e,cR [k]=true:=by intro k hk;simp only[cR,aX,a8,forall_eq]at iC⊢;exact iC k hk
 have hz:z.cells.toList.length=(T e).length:=by rw[iV];simp[(hT.low e al).2]
 refine⟨λr hr=>?_,λi j r c hi hj=>?_⟩
 ·rw[fQ,List.mem_replicate]at hr;rw[hr.2,da]
  conv=>rhs;rw[<-P1 (T e)]
  refine cK λk hk=>(BV (T:=T) (E:=E) (w:=w) (jF k hk)).1
 ·rw[fQ,PZ]at hi;split at hi
  ·rename_i dW;simp only[ae]at hi;subst hi;rw[bP]at hj;cases iB:(T e)[j]?with
   |none=>grind
   |some k=>
    simp only[iB,cj,ae]at hj;subst hj;have qX:j<(T e).length:=by
     rcases aT j (T e).length with h'|h'
     ·omega
     ·grind
    have E6:j<(T (base e)).length:=by rw[(hT.low e al).2];exact qX
    refine⟨zeroV (T (base e))[j],JY hz (by omega) (by grind),?_⟩;by_cases BX:k= .any
    ·subst BX;exact .any _ (Rb _)
    ·rw[<-hT.zero e j k _ iB (aP E6) BX];exact(BV (jF k (aY iB))).2
  grind
theorem Rg {e:Nat}:∀{gs:amU},gZ T e gs->∀s m,(s,m)∈gs->bY e=true->T.G e s ((((T (base e)).drop s).take m).map iX)
 |[],_,s,m,hm=>by grind
 |(s',m')::gs,h,s,m,hm=>by
  rcases az.1 hm with he|hm
  ·cases he;exact λhs=>yS h.1 hs
  ·exact Rg h.2 s m hm
theorem abc (hT:cr P T) {e n m:Nat} {z:Value} (al:T e≠[]) (iC:cR (T (base e))=true) (iV:z.cells.toList=(T (base e)).map zeroV) (yX:n<=m) (hg:E4 T e):
 fO T E w e n λj=>(madeCells z.cells (m*(T e).length))[j]?:=by
 have jF:∀k∈T (base e),cR [k]=true:=by intro k hk;simp only[cR,aX,a8,forall_eq]at iC⊢;exact iC k hk
 have hz:z.cells.toList.length=(T e).length:=by rw[iV];simp[(hT.low e al).2]
 by_cases b0:sG e=true
 ·exact .plain hT al b0
 have hg:=BR hg (by grind);have b0:=Q5 b0;refine⟨λhs k gs s m' i hl hm hi=>?_,λhw i j hi ha=>?_⟩
 ·rw[hl]at hg;obtain⟨BT,g1,g2,_⟩:=hT.whole e (by omega) al (.inr hs);rw[g1]at hl;simp only[ae,bT]at hl;obtain⟨rfl,rfl⟩:=hl;refine⟨_,?_,Rg hg s m' hm hs,λj c hj=>?_⟩
  ·rw[da]
   conv=>rhs;rw[<-P1 (((T (base e)).drop s).take m')]
   exact cK λk hk=>(BV (T:=T) (E:=E) (w:=w) (jF k (mK (nE hk)))).1
  ·rw[bP,fi]at hj;split at hj
   ·rw[fa]at hj;cases iB:(T (base e))[s+j]?with
    |none=>grind
    |some k=>simp only[iB,cj,ae]at hj;subst hj;exact⟨zeroV k,by rw[oB];exact JY hz (by omega) (by grind),(BV (jF k (aY iB))).2⟩
   grind
 ·have qX:j<(T e).length:=by
   rcases aT j (T e).length with h'|h'
   ·omega
   ·grind
  have E6:j<(T (base e)).length:=by rw[(hT.low e al).2];exact qX
  have JZ:(T (base e))[j]?=some (T (base e))[j]:=aP E6;have BO:=BV (T:=T) (E:=E) (w:=w) (jF _ (aY JZ));exact⟨iX (T (base e))[j],zeroV (T (base e))[j],by grind,JY hz (by omega) (by grind),BO.2⟩
theorem abd (hT:cr P T) (ann:amU) {cx:Cx} {st:St} {a:Act} {o:Oper} {Q:Exit->Act->World->Prop} {K:amX} (h:aM T cx E st a w) (t:Nat) (l c:Operand)
 (ho:o.op= .makeSlice t l c) (hk:(pP P T ann st o.dst t (ev st l) (ev st c)).wp K):o.wp P a w (iF T cx K) Q:=by
 unfold pP at hk;split at hk
 ·rename_i e0 kl n km m ht hl hc;have E7:=dy h l;rw[hl]at E7;obtain⟨E7,wz⟩:=E7.int;have pR:=dy h c;rw[hc]at pR;obtain⟨pR,alV⟩:=pR.int;have yW:=JU (ann:=ann) (d:=o.dst) (e:=e0);generalize bD ann o.dst e0=e at hk yW;split at hk
  ·rename_i al;obtain⟨rfl,al,iC,abe⟩:=al;have cz:=yW rfl;have al:T e≠[]:=by simpa using al
   obtain⟨i,z,d,hi,_,cf,hz,iV,oP,gP,_,_⟩:=hT.row e al;have run:0<=n->n<=m->m<=eA->(execOp a.eval o).run P w= .ok (.value (.slice (some ⟨w.heap.size,0,none⟩) n.toNat m.toNat)) (w.alloc (.cells (madeCells z.cells (m.toNat*(T e).length)) (base e))):=by
    intro h0 h1 h2;have hm:m<=137438953472:=by simpa[eA]using h2
    have jE:0<=m:=by omega
    have mZ:(i.bytes:Int)*m<=1024*m:=alD (by omega) jE;have hr:=run_make (P:=P) w t (base e) i z ht hi hz kl km n m h0 h1 (by omega) (by omega);rw[cf]at hr;simp only[execOp,ho,E7,pR];rw[Sem.run_bind,hr];rfl
   have uJ:∀k,(fQ (T e) k).length=k:=λk=>by simp[fQ]
   split at hk
   ·rename_i dd _ hf;split at hk
    ·rename_i b0;rw[<-b0]at hk;have b0:e<1000:=by rw[wh cz]at b0;omega
     obtain⟨⟨h0,h1,h2⟩,hk⟩:=hk;obtain⟨f1,f2⟩:=JX hf;obtain⟨z1,z2⟩:=Rf (P:=P) (E:=E) (w:=w) hT al iC iV m.toNat (show n.toNat<=m.toNat by omega);have EZ:n.toNat<=cM:=by simp only[eA,cM]at*;omega
     by_cases wO:n.toNat=0
     ·have abf:dC (T e).length (fQ (T e) n.toNat)=[]:=by rw[wO];simp[fQ,dC]
      have h3:=(h.alloc (.cells (madeCells z.cells (m.toNat*(T e).length)) (base e)) .ui (λ_=>0) (h.hi.alloc h.ext _ _ _ λ_ _=>rfl)).Q4 f1 f2;rw[abf]at hk;refine kQ (run h0 (by omega) h2) ⟨_,hk,_,h3.put o.dst ?_⟩;have jE:m.toNat=0:=by rw[<-h1];exact wO
      rw[wO,jE];refine .inl ⟨rfl,?_,_,rfl⟩;exact .sl e [] w.heap.size 0 0 _ (base e) (0,0) (λ_ _=> .bool false) e (λ_ _=>default) (heap_alloc_new _ _) (by simp) (by simp) (by simp) (by grind) (by simp) (by simp) (by simp) (.self cz) (by simp) (by simp) (by simp) (λhe=>absurd he cz)
     ·obtain⟨E',r1,r2⟩:=h.Q3 e al (fQ (T e) n.toNat) (by grind) _ (base e) m.toNat f1 f2 (by grind) (by simp[size_madeCells]) (by grind) z1 z2;rw[uJ]at r2;exact kQ (run h0 (by omega) h2) ⟨_,hk,E',r1.put o.dst (RS.gN r2)⟩
    ·exact hk.elim
   ·obtain⟨⟨⟨h0,h1,h2⟩,abg⟩,hk⟩:=hk;obtain⟨z1,z2⟩:=Rf (P:=P) (E:=E) (w:=w) hT al iC iV m.toNat (show n.toNat<=m.toNat by omega);obtain⟨E',r1,r2⟩:=h.newRow hT e (fZ ann o.dst e) (fQ (T e) n.toNat) _ (base e) m.toNat (by grind) (by simp[size_madeCells]) (by rw[uJ];simp only[eA,cM]at*;omega) z1 z2 al
     (by rw[uJ];exact abc hT al abe iV (by omega) abg) cz (JT _ _ _)
    rw[uJ]at r2;exact kQ (run h0 h1 h2) ⟨_,hk,E',r1.put o.dst (RS.gN r2)⟩
   ·exact hk.elim
  ·exact hk.elim
 ·exact hk.elim
theorem abh (hT:cr P T) (ann:amU) {cx:Cx} {st:St} {a:Act} {o:Oper} {Q:Exit->Act->World->Prop} {K:amX} (h:aM T cx E st a w) (t:Nat) (s x:Operand)
 (ep:∀v w',(Builtin.append_ #[t,t] o.type #[a.eval s,a.eval x]).run P w= .ok v w'->(execOp a.eval o).run P w= .ok (.value v) w')
 (hk:(qZ P T ann st o.dst t (ev st s) (ev st x)).wp K):o.wp P a w (iF T cx K) Q:=by
 unfold qZ at hk;split at hk
 ·rename_i e0 ht;split at hk
  ·rename_i e g rows _ h1;split at hk
   ·rename_i bq h2;split at hk
    ·rename_i al;obtain⟨al,sD⟩:=al;obtain⟨kt,hk⟩:=hk;obtain⟨rfl,r0,ow,cz⟩:=Re (V:=st.vw) h1 (dy h s);obtain⟨v,w',E',q1,q2,q3⟩:=h.append hT ht (by grind) r0 (JW h2 (dy h x)) kt o.type g cz sD ow;exact kQ (ep v w' q1) ⟨_,hk,E',q2.put o.dst (RS.gN q3)⟩
    ·exact hk.elim
   ·exact hk.elim
  ·rename_i dd e g rows _ hf h1;split at hk
   ·rename_i bq h2;split at hk
    ·rename_i al;obtain⟨al,b0,sD⟩:=al;obtain⟨⟨mX,kt⟩,hk⟩:=hk;obtain⟨f1,f2⟩:=JX hf;obtain⟨rfl,r0,ow,cz⟩:=Re (V:=st.vw) h1 (dy h s)
     match bq,mX with
     |[r],_=>obtain⟨v,w',E',q1,q2,q3⟩:=h.aaU hT ht b0 (by grind) r0 (JW h2 (dy h x)) kt o.type g sD ow f1 f2;exact kQ (ep v w' q1) ⟨_,hk,E',q2.put o.dst (RS.gN q3)⟩
    ·exact hk.elim
   ·exact hk.elim
  ·rename_i dd _ _ hf;split at hk
   ·rename_i bq hs h2;split at hk
    ·rename_i al;obtain⟨f1,f2⟩:=JX hf;obtain⟨kt,hk⟩:=hk;have E8:=dy h s;rw[hs]at E8;have E8:a.eval s= .slice none 0 0:=E8;have al:=Jw al;have hb:base e0=e0:=Jv al.2;obtain⟨v,w',E',q1,q2,q3⟩:=h.aa0 hT (e:=e0) (by rw[hb];exact ht) al.1 (by omega) (JW h2 (dy h x)) kt o.type f1 f2;rw[<-E8]at q1;exact kQ (ep v w' q1) ⟨_,hk,E',q2.put o.dst (RS.gN q3)⟩
    ·exact hk.elim
   ·exact hk.elim
  ·exact hk.elim
 ·exact hk.elim
theorem abi {e:Nat} (h:¬((T e).isEmpty||Nat.ble 1000 e)=true):e<1000:=by
 simp_all
theorem BY (hT:cr P T) (ann:amU) {cx:Cx} {st:St} {a:Act} {o:Oper} {Q:Exit->Act->World->Prop} {K:amX} (h:aM T cx E st a w)
 (hk:(j6 P T ann st o).wp K):o.wp P a w (iF T cx K) Q:=by
 unfold j6 at hk;split at hk
 ·rename_i c x y ho;split at hk
  ·rename_i t hc;have pR:=dy h c;rw[hc]at pR;have pR:=pR.bool;have ep:(execOp a.eval o).run P w= .ok (.value (if t then a.eval x else a.eval y)) w:=by simp[execOp,ho,pR,asBool]
   cases t with
   |true=>exact kQ ep ⟨st.put o.dst (ev st x),hk,E,h.put o.dst (dy h x)⟩
   |false=>exact kQ ep ⟨st.put o.dst (ev st y),hk,E,h.put o.dst (dy h y)⟩
  ·exact hk.elim
 ·rename_i e x ho;split at hk
  ·rename_i l hl;refine Q7 h e (BE hl (dy h x)) ?_ hk;simp[execOp,ho,Instr.box,newVar,newRow]
  ·exact hk.elim
 ·rename_i e ho;split at hk
  ·exact hk.elim
  ·rename_i al;obtain⟨i,z,d,hi,_,cf,hz,iV,_⟩:=hT.uk (e:=e) (abi al) (λe'=>al (by grind));refine Q7 h e (cs:=z.cells) (by rw[iV];exact QL _) ?_ hk;simp[execOp,ho,Instr.alloc,zeroValue,typeInfo,hi,hz,newVar,newRow]
 ·rename_i t p x ho;exact aa5 hT h t p x ho hk
 ·rename_i t len parts ho;exact aa8 hT ann h t len parts ho hk
 ·rename_i t l c ho;exact abd hT ann h t l c ho hk
 ·rename_i c ho;split at hk
  ·rename_i hc;split at hk
   ·rename_i s x t t' hs ht;split at hk
    ·rename_i he;subst he;refine abh hT ann h t s x (λv w' hv=>?_) hk;have h1:c.args=#[s,x]:=v7.1 (by rw[hs]);have h2:c.argTypes=#[t,t]:=v7.1 (by rw[ht]);simp[execOp,ho,resolve,hc,h1,h2,invoke,builtin,hv]
    ·exact hk.elim
   ·exact hk.elim
  ·exact Q6 h (QQ hT h o) hk
 ·exact Q6 h (QQ hT h o) hk
end Go.Pv
namespace Go.Pv
open Go
structure Sp where
 side:Prop
 A:Type
 post:A->Prop
 res:A->S
 bx:A->List (List X)
inductive CM where
 |bo
 |plain (e:Nat)
 |own (e:Nat)
 |nN (e:Nat)
 |sI (e:Nat)
def X.cU:X->List Nat
 | .ptr b _=>[b]
 |_=>[]
structure dw where
 am:List (List CM)
 bm:List (List CM)
 new:Bool
 brw:List Nat
 kp:Bool
 pl:Bool
 sp:List S->List (List X)->Option Sp
variable (P:Program) (T:ay)
def iG (f:FuncId) (Ξ:amZ) (bs:anb) (sp:Sp):Prop:=
 sp.side->∀(E:Env) (w:World) (vals:ane),vals.size=Ξ.length->
  (∀(i:Nat) s u,Ξ[i]?=some s->vals[i]?=some u->RS T E w ⟨λb=>decide (b<bs.length),λ_=>0⟩ s u)->
  (∀(i:Nat) l,bs[i]?=some l->By T E w ⟨λb=>decide (b<bs.length),λ_=>0⟩ i l)->
  (∀i j,i<bs.length->j<bs.length->E.β i=E.β j->i=j)->(∀b,w.heap.size<=b->∀e,E.φ b e=0)->(∀l∈bs,l≠[])->HI T E w->
  Calls P f vals w λe w'=>∃v x E',e= .returned v/\sp.post x/\RS T E' w' ⟨λb=>decide (b<(sp.bx x).length),λ_=>0⟩ (sp.res x) v/\
   (∀(i:Nat) l,(sp.bx x)[i]?=some l->By T E' w' ⟨λb=>decide (b<(sp.bx x).length),λ_=>0⟩ i l)/\bs.length<=(sp.bx x).length/\
   (∀i,i<bs.length->E'.β i=E.β i/\E'.ο i=E.ο i/\E'.κ (E.β i)=E.κ (E.β i)/\E'.φ (E.β i)=E.φ (E.β i))/\(∀i,bs.length<=i->i<(sp.bx x).length->w.heap.size<=E'.β i)/\Ext ⟨E.φ,E.κ,w,E.β,E.ο,0,E.fo⟩ E' w'/\
   HI T E' w'/\∀b g,b<w.heap.size->E.κ b= .row g->5000<=g->E'.κ b= .row g/\E'.φ b=E.φ b
structure m3 (specs:FuncId->Option dw):Prop where
 fn:∀f fs,specs f=some fs->∃fn,P.funcs[f]?=some fn/\(fn.name== "runtime.NumGoroutine")=false/\fn.body.isNone=false
 ok:∀f fs Ξ bs sp,specs f=some fs->fs.sp Ξ bs=some sp->iG P T f Ξ bs sp
 len:∀f fs Ξ bs sp,specs f=some fs->fs.sp Ξ bs=some sp->∀x,(sp.bx x).length=bs.length+fs.new.toNat/\∀l∈sp.bx x,l≠[]
 kp:∀f fs Ξ bs sp,specs f=some fs->fs.sp Ξ bs=some sp->fs.kp=true->∀x,(sp.bx x)[0]?=bs[0]?
 pl:∀f fs Ξ bs sp,specs f=some fs->fs.sp Ξ bs=some sp->fs.pl=true->∀x,∀y∈(sp.res x).xs,y.cU=[]
 abj:∀f fs,specs f=some fs->fs.pl=true->fs.new=false
variable {P T}
def X.tags (gen:amP):X->List Nat
 | .own _ g n _=>if n=gen g then[g]else[]
 |_=>[]
def j7 (brw:amG) (g:Nat):Nat:=bif brw.contains g then g+5000 else g
def nO (brw:amG) (g:Nat):Nat:=bif Nat.ble 5000 g&&brw.contains (g-5000)then g-5000 else g
def gB.un (brw:amG):gB->gB
 | .row g=> .row (nO brw g)
 |r=>r
theorem gB.Rh (brw:amG) (r:gB):(r.un brw).kN=r.kN:=by cases r<;>rfl
theorem gB.abk {brw:amG} {r:gB} (h:r.kN=true):r.un brw=r:=by cases r<;>first|rfl|cases h
def wP (brw gs:amG):Bool:=brw.all (λg=>Nat.blt g 5000)&&gs.all λg=>!(Nat.ble 5000 g&&brw.contains (g-5000))
def X.cV (ids:amG) (brw:amG) (gen:amP):X->X
 | .ptr b off=> .ptr (ids.idxOf b) off
 | .cd _ _=> .aD
 | .cn _ _ _=> .aD
 | .cq _ _ _=> .aD
 | .own e g n rows=>if n=gen g then .own e (j7 brw g) 0 rows else .c (.sl e rows)
 | .bz e rows i off=>bif Nat.beq e 1053 then .aD else .bz e rows i off
 | .dn _=> .aD
 |x=>x
def X.dj (ids:amG) (brw:amG) (d:Nat) (new:Bool) (gen:amP):X->X
 | .ptr i off=>if i<ids.length then .ptr (ids.getD i d) off else(if new then .ptr d off else .aD)
 | .cd _ _=> .aD
 | .cn _ _ _=> .aD
 | .cq _ _ _=> .aD
 | .own e g _ rows=> .own e (nO brw g) (gen (nO brw g)) rows
 | .bz e rows i off=>bif Nat.beq e 1053 then .aD else .bz e rows i off
 | .dn _=> .aD
 |x=>x
def fE (gen:amP) (gs:amG):Nat->Nat:=λg=>if gs.contains g then gen g+1 else gen g
def eT (brw gs:amG):List Nat:=gs.filter λg=>!(Nat.ble 5000 g||brw.contains g)
def j8 (brw:amG) (gen:amP):X->Bool
 | .own e g n _=>Nat.beq e 1053&&(Nat.beq n (gen g)&&Nat.beq (j7 brw g) 6053)
 |_=>false
def wQ (brw:amG) (gen:amP) (Ξ:amZ) (ls:anb):Bool:=
 !brw.contains 1053||((Ξ.flatMap S.xs).all (λx=>!j8 brw gen x)&&
  (match ls with
  |[]=>true
  |l::r=>(r.flatMap id).all (λx=>!j8 brw gen x)&&(l.set (l.findIdx (j8 brw gen)) .aD).all λx=>!j8 brw gen x))
def l9 (ids:amG):List Nat->List Nat
 |[]=>ids
 |b::r=>if ids.contains b then l9 ids r else l9 (ids++[b]) r
def kR (st:St):List Nat->Option (List (List X))
 |[]=>some []
 |b::r=>
  match st.boxes[b]?,kR st r with
  |some (some l),some ls=>some (l::ls)
  |_,_=>none
def pS:List Nat->Bool
 |[]=>true
 |b::r=>!r.contains b&&pS r
def j9 (st:St) (Ξ:amZ):List Nat:=
 let ids:=l9 [] ((Ξ.flatMap S.xs).flatMap X.cU)
 match kR st ids with
 |some ls=>l9 ids ((ls.flatMap id).flatMap X.cU)
 |none=>ids
def eU (bs:anj):List Nat->List (List X)->List (Option (List X))
 |b::r,l::ls=>eU (bs.set b (some l)) r ls
 |_,_=>bs
def uK (st:St) (d:amR):Bool:=
 match d with
 |some d=>(match st.boxes[d]?with|some none=>decide (d<st.aq.length)|_=>false)
 |none=>false
def iv (brw gs:amG):List Nat:=brw.filter λg=>gs.contains g
def nP (st:St) (d:amR) (new:Bool) (brw:amG) (sp:List S->List (List X)->Option Sp) (Ξ:amZ) (ids:amG):bl:=
 match kR st ids with
 |none=> .bad
 |some ls=>
  let xs:=Ξ.flatMap S.xs++ls.flatMap id;let gs:=xs.flatMap (X.tags st.gen);let brw:=iv brw gs
  if(pS ids&&(xs.flatMap X.cU).all ids.contains&&(!new||uK st d)&&ls.all (λl=>!l.isEmpty)&&(wP brw gs&&wQ brw st.gen Ξ ls))=true then
   (match sp (Ξ.map (S.bH (X.cV ids brw st.gen))) (ls.map (List.map (X.cV ids brw st.gen)))with
   |none=> .bad
   |some sp=> .call sp.side sp.A sp.post λx=>
    ({aq:=st.aq,boxes:=eU st.boxes (if new then ids++d.toList else ids) ((sp.bx x).map (List.map (X.dj ids brw (d.getD 0) new (fE st.gen (eT brw gs))))),gen:=fE st.gen (eT brw gs)}:St).put d ((sp.res x).bH (X.dj ids brw (d.getD 0) new (fE st.gen (eT brw gs)))))
  else .bad
def X.norm (gen:amP):CM->X->X
 | .bo,x=>x
 | .plain e,x=>(match x with| .own e' _ _ r=> .c (.sl e' r)| .bc=> .c (.sl e [])|x=>x)
 | .own e,x=>(match x with| .bc=> .own e e (gen e) []|x=>x)
 | .nN e,x=>(match x with| .own e' _ _ r=> .c (.sl e' r)| .bc=> .c (.sl e [])|x=>x)
 | .sI e,x=>(match x with| .own e' _ _ r=> .c (eJ 3 (.sl e' r))| .c v=> .c (eJ 3 v)| .bc=> .c (.sl e [])|x=>x)
def jk (gen:amP):List CM->List X->List X
 |m::ms,x::xs=>x.norm gen m::jk gen ms xs
 |_,xs=>xs
theorem BZ (gen:amP):∀(ms:List CM) (l:amT),(jk gen ms l).length=l.length
 |[],l=>by rfl
 |m::ms,[]=>rfl
 |m::ms,x::xs=>by simp[jk,BZ gen ms xs]
theorem abl {gen:amP} {ms:List CM} {l:amT} (h:l≠[]):jk gen ms l≠[]:=by intro e;have:=BZ gen ms l;grind
def S.norm (gen:amP) (ms:List CM):S->S
 | .one x=>(match ms with|m::_=> .one (x.norm gen m)|[]=> .one x)
 | .agg l=> .agg (jk gen ms l)
 |s=>s
def gQ (gen:amP):List (List CM)->List S->List S
 |m::ms,s::ss=>s.norm gen m::gQ gen ms ss
 |_,ss=>ss
def hX (gen:amP):List (List CM)->List (List X)->List (List X)
 |m::ms,s::ss=>jk gen m s::hX gen ms ss
 |_,ss=>ss
def St.iY (st:St) (bm:List (List CM)) (ids:amG):St:=
 match kR st ids with
 |some ls=>{st with boxes:=eU st.boxes ids (hX st.gen bm ls)}
 |none=>st
def X.oT (gen:amP) (brw:amG) (m:CM):X->Bool
 | .own _ g n _=>(match m with| .bo=>true| .own _=>true|_=>false)&&Nat.beq n (gen g)&&(Nat.ble 5000 g||brw.contains g)
 | .c v=>(match m with| .sI _=>(match v with| .sl e _=>di e==e|_=>true)|_=>true)
 | .ptr _ _=>true
 | .hH=>true
 | .fV _=>true
 |_=>false
def nQ (gen:amP) (brw:amG):List CM->List X->Bool
 |m::ms,x::xs=>x.oT gen brw m&&nQ gen brw ms xs
 |[],x::xs=>x.oT gen brw .bo&&nQ gen brw [] xs
 |_,[]=>true
def pT (st:St) (bm:List (List CM)) (brw ids:amG) (Ξ:amZ):Bool:=
 match ids,Ξ with
 |b::_, .one (.ptr _ _)::_=>(match st.boxes[b]?with|some (some l)=>nQ st.gen brw (bm.headD []) l|_=>false)
 |_,_=>false
def iH (specs:FuncId->Option dw) (st:St) (d:amR) (f:FuncId) (Ξ:amZ):bl:=
 match specs f with
 |none=> .bad
 |some fs=>
  let Ξ:=gQ st.gen fs.am Ξ;let ids:=j9 st Ξ
  if(pS ids&&(!fs.kp||pT st fs.bm fs.brw ids Ξ))=true then nP (st.iY fs.bm ids) d fs.new fs.brw fs.sp Ξ ids else .bad
section
variable {E:Env} {w:World}
theorem Ri:∀(n:Nat) (c:C),(eJ n c).kd=Bx n c.kd
 |0,c=>by rfl
 |n+1, .sl e rows=>by
  simp only[eJ,C.kd,Bx];grind
 |n+1, .int _ _=>rfl
 |n+1, .bool _=>rfl
 |n+1, .str _=>rfl
 |n+1, .any=>rfl
theorem B0 (e:Nat):di e=e\/(e<1000/\di e=e+2000)\/(bY e=true/\di e=e+1000):=by
 unfold di;grind
theorem aG.wk {φ:anh} (hl:∀e off i j:Nat,j<(T e).length->(T e)[j]?≠some .any->mP (key T e off) (off+i*(T e).length+j)=false) (Rj:∀e,(T e).length<=4096):
 ∀(n:Nat) (c:C) (v:Value),(∀e rows,c= .sl e rows->pC T n e=true)->aG T φ w c v->aG T φ w (eJ n c) v
 |0,c,v,_,h=>by assumption
 |n+1, .int _ _,v,_,h=>h
 |n+1, .bool _,v,_,h=>h
 |n+1, .str _,v,_,h=>h
 |n+1, .any,v,_,h=>h
 |n+1, .sl e rows,v,aN,h=>by
  have aN:=aN e rows rfl;simp only[eJ];by_cases he:di e=e
  ·grind
  have Rl:(di e==e)=false:=by simpa using he
  simp only[Rl,lS];simp only[pC,Rl,kM,aB,eN,aX]at aN;obtain⟨⟨ht,Rm⟩,kr⟩:=aN;have hlen:(T (di e)).length=(T e).length:=by rw[<-ht];simp
  have Rn:∀(j:Nat) k,(T e)[j]?=some k->(T (di e))[j]?=some (bif lz e j then .any else Bx n k):=λj k hk=>by grind
  cases h with
  |nil=>exact .nil _
  |emp _ a=>exact .emp _ a
  |sl e rows b off cap cs el fr val e0 gr hb cI cP dq oN hk hv hr hs bA gA fB hd=>
   have cz:e≠1553:=λh=>he (by rw[h];rfl);have J0:e0=e:=(hs.eq (by rcases B0 e with h'|h'|h';all_goals omega)).trans (sk cz);subst J0;have pU:∀r∈rows,r.length=(T e0).length:=λr bR=>by grind
   have ji:(rows.map λr=>r.mapIdx λj c=>bif lz e0 j then C.any else eJ n c).length=rows.length:=by simp
   have:=aG.sl (T:=T) (φ:=φ) (w:=w) (di e0) (rows.map λr=>r.mapIdx λj c=>bif lz e0 j then C.any else eJ n c) b off cap cs el fr val e0
    (λi j=>cellAt rows i j) hb (by rw[ji];unfold kk;rw[hlen];exact cI) (by omega) (by grind) (by omega)
    (λr bR=>by
     obtain⟨r0,h0,rfl⟩:=aF.1 bR;apply oD;intro j;rw[bP,Bn];cases hc:r0[j]?with
     |none=>
      grind
     |some c=>
      have iB:(T e0)[j]?=some c.kd:=by rw[<-hk r0 h0,bP,hc];rfl
      rw[Rn j _ iB];simp only[cj];cases lz e0 j with
      |true=>rfl
      |false=>simp only[lS];rw[Ri])
    (λi j hi hj=>by grind)
    (λi j r c hi hj=>by
     rw[bP]at hi;cases q7:rows[i]?with
     |none=>grind
     |some r0=>
      simp only[q7,cj,ae]at hi;subst hi;rw[Bn]at hj;cases hc:r0[j]?with
      |none=>grind
      |some c0=>
       simp only[hc,cj,ae]at hj;subst hj;have jV:=hr i j r0 c0 q7 hc;cases lz e0 j with
       |true=>exact .any _ jV.one
       |false=>
        refine aG.wk hl Rj n c0 _ (λe' lA dF=>?_) jV;have jC:Kd.sl e'∈T e0:=by rw[<-hk r0 (aY q7),aF];exact⟨c0,aY hc,by rw[dF];rfl⟩
        grind)
    (by rcases B0 e0 with h'|h'|h';exact absurd h' he;exact .inr ⟨by omega,Rm,cz, .inr h'.2.symm⟩;exact .inr ⟨by have:=h'.1;simp[bY]at this;omega,Rm,cz, .inl h'.2.symm⟩)
    (λi j hi hj ha=>by
     have iE:kk T e0 (di e0) off=key T e0 off:=by unfold kk key;rw[hlen]
     rw[iE,hlen];rw[hlen]at hj;rw[ji]at hi;rcases B0 e0 with h'|h'|h'
     ·omega
     ·have h1:key T e0 off/4096=e0:=by have:off%(T e0).length<4096:=dO (mI _ (by omega)) (Rj e0);unfold key;omega
      have h2:bY e0=false:=by simp[bY];omega
      simp[mP,h1,h2]
     ·rcases ha with ha|⟨_,ha⟩
      ·refine hl e0 off i j hj λE9=>ha ?_;rw[Rn j _ E9];have:Bx n Kd.any= .any:=by cases n<;>rfl
       grind
      omega)
    (λg1 g2 i j hi ha=>by
     rw[ji]at hi;rcases B0 e0 with h'|h'|h'
     ·omega
     ·have oP:base (di e0)=e0:=by rw[wh (by omega)];omega
      rw[oP];have q8:rows[i]?=some rows[i]:=aP hi;have hj:j<(T e0).length:=by
       rw[<-hlen];rcases aT j (T (di e0)).length with wR|wR
       ·omega
       ·grind
      have B1:j<rows[i].length:=by rw[pU _ (fz hi)];exact hj
      have:cellAt rows i j=rows[i][j]:=by simp[cellAt,aZ,q8,aP B1]
      grind
     omega)
    (λg1 g2 i j hi ha=>by
     rw[ji]at hi;have q8:rows[i]?=some rows[i]:=aP hi;have hj:j<(T e0).length:=by
      rw[<-hlen];rcases aT j (T (di e0)).length with wR|wR
      ·omega
      ·grind
     have B1:j<rows[i].length:=by rw[pU _ (fz hi)];exact hj
     have:cellAt rows i j=rows[i][j]:=by simp[cellAt,aZ,q8,aP B1]
     grind)
    (λh1=>by
     rcases B0 e0 with h'|h'|h'
     ·omega
     ·omega
     ·have:=h'.1;simp[bY]at this;omega)
   grind
theorem RX.norm {V:Vw} (hT:cr P T) (m:CM) {x:X} {u:Value} (h:RX T E w V x u):RX T E w V (x.norm V.gen m) u:=by
 cases m with
 |bo=>exact h
 |plain e=>
  cases x with
  |own e' g n r=>exact h.1
  |bc=>have h:u=_:=h;subst h;exact aG.nil e
  |_=>exact h
 |own e=>
  cases x with
  |bc=>have h:u=_:=h;subst h;exact⟨aG.nil e,bh _,λ_=> .inl ⟨_,rfl⟩,λ_ _ b off l c hu=>(by cases hu)⟩
  |_=>exact h
 |nN e=>
  cases x with
  |own e' g n r=>exact h.1
  |bc=>have h:u=_:=h;subst h;exact aG.nil e
  |_=>exact h
 |sI e=>
  cases x with
  |own e' g n r=>exact aG.wk (λe off i j hj ha=>hT.cell e j off i hj ha) hT.short 3 _ _ (λe _ _=>hT.wk e) h.1
  |c v=>exact aG.wk (λe off i j hj ha=>hT.cell e j off i hj ha) hT.short 3 _ _ (λe _ _=>hT.wk e) h
  |bc=>have h:u=_:=h;subst h;exact aG.nil e
  |_=>exact h
theorem bF.norm {V:Vw} (hT:cr P T):∀(ms:List CM) {l:amT} {us:ana},bF T E w V l us->bF T E w V (jk V.gen ms l) us
 |[],l,us,h=>by assumption
 |m::ms,[],us,h=>h
 |m::ms,x::xs,us,h=>by
  cases us with
  |nil=>have:=h.1;grind
  |cons u us=>
   have hx:RX T E w V x u:=h.2 0 x u rfl rfl;have h':bF T E w V xs us:=⟨by have:=h.1;grind,λj z v hz hv=>h.2 (j+1) z v (by grind) (by grind)⟩
   have h2:=bF.norm hT ms h';refine⟨by have:=h2.1;simp[jk,this],λj z v hz hv=>?_⟩;cases j with
   |zero=>simp[jk]at hz hv;subst hz;subst hv;exact hx.norm hT m
   |succ j=>simp[jk]at hz hv;exact h2.2 j z v hz hv
theorem RS.norm {V:Vw} (hT:cr P T) (ms:List CM) {s:S} {u:Value} (h:RS T E w V s u):RS T E w V (s.norm V.gen ms) u:=by
 cases s with
 |one x=>
  cases ms with
  |nil=>exact h
  |cons m ms=>
   by_cases hx:x= .aD
   ·subst hx;cases m<;>trivial
   ·exact RS.gN ((RS.one hx h).norm hT m)
 |agg l=>obtain⟨cs,rfl,h⟩:=h;exact⟨cs,rfl,h.norm hT ms⟩
 |bj l=>exact h
theorem J1 {V:Vw} (hT:cr P T):∀(ms:List (List CM)) (ss:amZ) (us:ana),(∀(i:Nat) s u,ss[i]?=some s->us[i]?=some u->RS T E w V s u)->
 (gQ V.gen ms ss).length=ss.length/\∀(i:Nat) s u,(gQ V.gen ms ss)[i]?=some s->us[i]?=some u->RS T E w V s u
 |[],ss,us,h=>by cases ss<;>exact⟨rfl,h⟩
 |m::ms,[],us,h=>⟨rfl,h⟩
 |m::ms,s::ss,us,h=>by
  cases us with
  |nil=>have ih:=J1 (V:=V) hT ms ss [] (λi s u _ hu=>by grind);exact⟨by simp[gQ,ih.1],λi s u _ hu=>by grind⟩
  |cons u us=>
   have ih:=J1 hT ms ss us (λi s' u' hs hu=>h (i+1) s' u' (by grind) (by grind));refine⟨by simp[gQ,ih.1],λi s' u' hs hu=>?_⟩;cases i with
   |zero=>simp[gQ]at hs hu;subst hs;subst hu;exact(h 0 s u rfl rfl).norm hT m
   |succ i=>simp[gQ]at hs hu;grind
def Env.eB (E:Env) (ids gs brw:amG) (fo:Nat×Nat):Env:=
 {φ:=E.φ
  κ:=λb=>match E.κ b with
   | .row g=>if g∈gs then .row (j7 brw g)else .dB
   | .box=>if b∈ids.map E.β then .box else .dB
   | .ui=>if b∈ids.map E.β then .ui else .dB
   | .dB=> .dB
  β:=λi=>E.β (ids.getD i 0)
  ο:=λi=>E.ο (ids.getD i 0)
  fo:=fo}
theorem J2 {ids:amG} {b:Nat} (h:b∈ids) (d:Nat):ids.getD (ids.idxOf b) d=b:=by grind
theorem RX.cV {V:Vw} {ids gs brw:amG} {fo:Nat×Nat} {x:X} {u:Value} (h:RX T E w V x u) (hp:∀b∈x.cU,b∈ids) (hg:∀g∈x.tags V.gen,g∈gs)
 (yX:j8 brw V.gen x=true->EL (E.eB ids gs brw fo) u):
 RX T (E.eB ids gs brw fo) w ⟨λb=>decide (b<ids.length),λ_=>0⟩ (x.cV ids brw V.gen) u:=by
 cases x with
 |ptr b off=>
  obtain⟨_,h2,h3,rfl⟩:=h;have hb:b∈ids:=hp b (by simp[X.cU]);refine⟨by grind,?_,?_,?_⟩
  ·simp only[Env.eB,J2 hb,h2];grind
  ·simp only[Env.eB,J2 hb];omega
  ·simp only[Env.eB,J2 hb]
 |cd b off=>exact h.jW
 |cn e b rows=>exact h.jW
 |cq e b n=>exact h.jW
 |own e g n rows=>
  simp only[X.cV];split
  ·rename_i hn;refine⟨h.1,bh _,λ_=>?_,λhe oO=>yX (by simp[j8,he,hn,oO])⟩;rcases h.2.2.1 hn with h'|⟨b,off,len,cap,rfl,h'⟩
   ·exact .inl h'
   ·refine .inr ⟨b,off,len,cap,rfl,?_⟩;rcases h' with h'|⟨h1,h2,h3⟩
    ·omega
    ·exact .inr ⟨by simp[Env.eB,h1,hg g (by simp[X.tags,hn])],h2,h3⟩
  ·exact h.1
 |bz e rows i off=>
  simp only[X.cV];cases he:Nat.beq e 1053 with
  |true=>exact h.jW
  |false=>obtain⟨b,o,h1,h2,h3,_⟩:=h;exact⟨b,o,h1,h2,h3,λh'=>by simp_all⟩
 |dn k=>exact h.1
 |_=>exact h
theorem uL {st:St}:∀{ids:amG} {ls:anb},kR st ids=some ls->ls.length=ids.length/\∀(i:Nat) l,ls[i]?=some l->∃b,ids[i]?=some b/\st.boxes[b]?=some (some l)
 |[],ls,h=>by simp[kR]at h;grind
 |b::r,ls,h=>by
  simp only[kR]at h;split at h
  ·rename_i l jm h1 h2;simp only[ae]at h;subst h;obtain⟨g1,g2⟩:=uL h2;grind
  grind
theorem B2:∀{ids:amG},pS ids=true->∀(i j:Nat) b,ids[i]?=some b->ids[j]?=some b->i=j
 |[],_,i,j,b,hi,_=>by grind
 |c::r,h,i,j,b,hi,hj=>by
  simp only[pS,aB,gy]at h;obtain⟨h1,h2⟩:=h;cases i with
  |zero=>
   grind
  |succ i=>
   cases j with
   |zero=>grind
   |succ j=>simp at hi hj;rw[B2 h2 i j b hi hj]
theorem Fa:∀(ids:amG) (ls:anb) (bs:anj) (b:Nat),(∀(i j:Nat) c,ids[i]?=some c->ids[j]?=some c->i=j)->ls.length<=ids.length->
 (∀c∈ids,c<bs.length)->
 (eU bs ids ls)[b]?=match(ids.take ls.length).idxOf? b with|some i=>some ls[i]?|none=>bs[b]?
 |[],[],bs,b,_,_,_=>by rfl
 |[],_::_,_,_,_,h,_=>by rfl
 |c::r,[],bs,b,_,_,_=>by rfl
 |c::r,l::ls,bs,b,hd,hl,hc=>by
  simp only[eU];have J3:∀(i j:Nat) c,r[i]?=some c->r[j]?=some c->i=j:=λi j c' hi hj=>by have:=hd (i+1) (j+1) c' (by grind) (by grind);omega
  rw[Fa r ls (bs.set c (some l)) b J3 (by grind) (λc' dF=>by grind)];simp only[eH,List.take_succ_cons,List.idxOf?_cons];by_cases e:c=b
  ·subst e;have hn:(r.take ls.length).idxOf? c=none:=by rw[P2];intro hm;obtain⟨j,hj⟩:=jP (nE hm);have:=hd 0 (j+1) c rfl (by grind);omega
   grind
  grind
theorem Fb {gen:amP}:∀(ms:List (List CM)) (ls:anb),(hX gen ms ls).length=ls.length/\∀(i:Nat) l',(hX gen ms ls)[i]?=some l'->∃l m,ls[i]?=some l/\l'=jk gen m l
 |[],ls=>by cases ls<;>exact⟨rfl,λi l' h=>⟨l',[],h,by cases l'<;>rfl⟩⟩
 |m::ms,[]=>⟨rfl,λi l' h=>by simp[hX]at h⟩
 |m::ms,l::ls=>by
  obtain⟨h1,h2⟩:=Fb (gen:=gen) ms ls;refine⟨by simp[hX,h1],λi l' h=>?_⟩;cases i with
  |zero=>simp[hX]at h;grind
  |succ i=>simp[hX]at h;grind
theorem Ro (st:St) (bm:List (List CM)) {ids:amG} (dv:pS ids=true) {b:Nat} (hb:hasB st.boxes b=true):hasB (st.iY bm ids).boxes b=true:=by
 unfold St.iY;split
 ·rename_i ls eO;obtain⟨nJ,nS⟩:=uL eO;obtain⟨cz,mU⟩:=Fb (gen:=st.gen) bm ls;have aj:∀c∈ids,c<st.boxes.length:=by
   intro c hc;obtain⟨i,hi⟩:=jP hc;have dW:i<ls.length:=by
    rw[nJ];rcases aT i ids.length with h'|h'
    ·omega
    ·grind
   obtain⟨b,h1,h2⟩:=nS i _ (aP dW);rw[hi]at h1;simp only[ae]at h1;subst h1;rcases aT c st.boxes.length with h'|h'
   ·omega
   ·grind
  have cT:=Fa ids (hX st.gen bm ls) st.boxes b (B2 dv) (by omega) aj;show hasB (eU st.boxes ids (hX st.gen bm ls)) b=true;obtain⟨l0,dc,iq⟩:=qQ hb;cases hi:(ids.take (hX st.gen bm ls).length).idxOf? b with
  |none=>exact mQ (l:=l0) (by grind) iq
  |some i=>
   obtain⟨gP,dS,_⟩:=P3.1 hi;have pM:i<(hX st.gen bm ls).length:=by simp at gP;omega
   obtain⟨l,m,h1,h2⟩:=mU i _ (aP pM);obtain⟨b',h3,h4⟩:=nS i l h1;have abm:b'=b:=by simp only[List.getElem_take,qN]at dS;rw[aP (by omega)]at h3;simp only[ae]at h3;rw[<-h3,dS]
   subst abm;rw[dc]at h4;simp only[ae]at h4;subst h4;refine mQ (l:=(hX st.gen bm ls)[i]) (by grind) ?_;rw[h2];exact abl iq
 omega
theorem aM.iY (hT:cr P T) {cx:Cx} {st:St} {a:Act} (h:aM T cx E st a w) (bm:List (List CM)) {ids:amG} (dv:pS ids=true):aM T cx E (st.iY bm ids) a w:=by
 unfold St.iY;split
 ·rename_i ls eO;obtain⟨nJ,nS⟩:=uL eO;obtain⟨cz,mU⟩:=Fb (gen:=st.gen) bm ls;have aj:∀c∈ids,c<st.boxes.length:=by
   intro c hc;obtain⟨i,hi⟩:=jP hc;have dW:i<ls.length:=by
    rw[nJ];rcases aT i ids.length with h'|h'
    ·omega
    ·grind
   obtain⟨b,h1,h2⟩:=nS i _ (aP dW);rw[hi]at h1;simp only[ae]at h1;subst h1;rcases aT c st.boxes.length with h'|h'
   ·omega
   ·grind
  have cT:=λb=>Fa ids (hX st.gen bm ls) st.boxes b (B2 dv) (by omega) aj;have pV:∀(b:Nat) l',(eU st.boxes ids (hX st.gen bm ls))[b]?=some (some l')->∃l,st.boxes[b]?=some (some l)/\∃m,l'=jk st.gen m l:=by
   intro b l' hl;rw[cT b]at hl;cases hi:(ids.take (hX st.gen bm ls).length).idxOf? b with
   |none=>simp only[hi]at hl;exact⟨l',hl,[],by rfl⟩
   |some i=>
    simp only[hi,ae]at hl;obtain⟨l,m,h1,h2⟩:=mU i l' hl;obtain⟨b',h3,h4⟩:=nS i l h1;obtain⟨gP,dS,_⟩:=P3.1 hi;grind
  have hk:gC E w st.vw E w ({st with boxes:=eU st.boxes ids (hX st.gen bm ls)}:St).vw:=by refine⟨dQ.refl _ _,λb hb=>⟨?_,rfl,rfl,λ_=>⟨rfl,rfl⟩⟩,λ_=>bh _,λb g _ hg _=>⟨hg,rfl⟩,rfl⟩;have:=Ro st bm dv (b:=b) hb;unfold St.iY at this;rw[eO]at this;exact this
  have al:∀{m:List CM} {l:amT},jk st.gen m l≠[]->l≠[]:=by intro m l hn e;subst e;have:=BZ st.gen m [];exact hn (jz.1 this)
  refine⟨h.len,λi s u hs hu=>RS.bo hk (h.aq i s u hs hu),λid l' hl hn=>?_,λid dt l1 l2 h1 h2 n1 n2 he=>?_,h.defers,h.ext,⟨h.fix.1,h.fix.2.1,λid l' aE hl hn=>?_⟩,λid l' aE hl hn cL=>?_,h.hi,h.so⟩
  ·obtain⟨l,h1,m,rfl⟩:=pV id l' hl;obtain⟨c1,c2,cs,el,c3,c5,c4⟩:=h.boxes id l h1 (al hn);refine⟨c1,c2,cs,el,c3,by rw[BZ];omega,?_⟩;rw[BZ];exact bF.bo hk (bF.norm (V:=st.vw) hT m c4)
  ·obtain⟨m1,g1,_,rfl⟩:=pV id l1 h1;obtain⟨m2,g2,_,rfl⟩:=pV dt l2 h2;exact h.inj id dt m1 m2 g1 g2 (al n1) (al n2) he
  ·obtain⟨m1,g1,_,rfl⟩:=pV id l' hl;exact h.fix.2.2 id m1 aE g1 (al hn)
  ·obtain⟨m1,g1,_,rfl⟩:=pV id l' hl;exact h.oI id m1 aE g1 (al hn) cL
 omega
end
abbrev anq:=List (List CM)
end Go.Pv
namespace Go.Pv
open Go
variable {P:Program} {T:ay} {E:Env} {w:World}
theorem m4 {bs:anj} {b:Nat}:hasB bs b=true↔∃l,bs[b]?=some (some l)/\l≠[]:=
 ⟨qQ,λ⟨_,h1,h2⟩=>mQ h1 h2⟩
def Env.back (E E':Env) (w:World) (ids gs brw:amG) (new:Bool) (k:Nat):Env:=
 {φ:=E'.φ
  fo:=E.fo
  κ:=λb=>if b<w.heap.size/\(E.eB ids gs brw (0,0)).κ b= .dB then E.κ b else(E'.κ b).un brw
  β:=if new then cp E.β k (E'.β ids.length)else E.β
  ο:=if new then cp E.ο k (E'.ο ids.length)else E.ο}
theorem abn {brw:amG} {g:Nat} (yY:brw.all (λg=>Nat.blt g 5000)=true) (hg:nO brw g=6053):g=6053/\brw.contains 1053=false:=by
 unfold nO at hg;cases hc:(Nat.ble 5000 g&&brw.contains (g-5000))with
 |true=>rw[hc,mJ]at hg;rw[aB]at hc;have h1:=aX.1 yY (g-5000) (jT.1 hc.2);have:=fy h1;omega
 |false=>
  rw[hc,lS]at hg;simp_all
theorem RX.dj {E':Env} {w':World} {ids gs brw:amG} {new:Bool} {k:Nat} {V':Vw} {fo:Nat×Nat} (yY:brw.all (λg=>Nat.blt g 5000)=true) (hI:brw.contains 1053=false->fo=E.fo)
 (ext:Ext ⟨(E.eB ids gs brw fo).φ,(E.eB ids gs brw fo).κ,w,(E.eB ids gs brw fo).β,(E.eB ids gs brw fo).ο,0,(E.eB ids gs brw fo).fo⟩ E' w')
 (fN:∀i,i<ids.length->E'.β i=E.β (ids.getD i 0)/\E'.ο i=E.ο (ids.getD i 0)) (hk:new=true->k∉ids)
 (lC:∀b∈ids,V'.hs b=true) (BL:new=true->V'.hs k=true) {x:X} {u:Value} (h:RX T E' w' ⟨λb=>decide (b<ids.length+new.toNat),λ_=>0⟩ x u):
 RX T (E.back E' w ids gs brw new k) w' V' (x.dj ids brw k new V'.gen) u:=by
 cases x with
 |ptr i off=>
  obtain⟨h1,h2,h3,rfl⟩:=h;simp only[eN]at h1;have ky:∀b,E'.κ b= .box->(E.back E' w ids gs brw new k).κ b= .box:=by
   intro b hb;simp only[Env.back];rw[aQ]
   ·rw[hb];rfl
   ·rintro ⟨g1,g2⟩;have:=(ext.dB b g1 g2).2.2;grind
  have yZ:(E.back E' w ids gs brw new k).β (ids.getD i k)=E'.β i/\(E.back E' w ids gs brw new k).ο (ids.getD i k)=E'.ο i/\V'.hs (ids.getD i k)=true:=by
   by_cases hi:i<ids.length
   ·have cT:ids.getD i k=ids[i]:=by simp[aZ,aP hi]
    have abo:ids.getD i 0=ids[i]:=by simp[aZ,aP hi]
    obtain⟨b1,b2⟩:=fN i hi;rw[cT];refine⟨?_,?_,lC _ (fz hi)⟩<;>simp only[b1,b2,abo,Env.back];all_goals
     cases new with
     |false=>rfl
     |true=>have:ids[i]≠k:=λe=>hk rfl (e▸fz hi);simp[b6 _ _ this]
   ·cases new with
    |false=>grind
    |true=>
     have cE:i=ids.length:=by simp at h1;omega
     subst cE;have cT:ids.getD ids.length k=k:=by simp[aZ]
     rw[cT];exact⟨by simp only[Env.back,cJ,bG],by simp only[Env.back,cJ,bG],BL rfl⟩
  obtain⟨l1,l2,l3⟩:=yZ;have m5:X.dj ids brw k new V'.gen (.ptr i off)= .ptr (ids.getD i k) off:=by
   simp only[X.dj];by_cases hi:i<ids.length
   ·grind
   ·grind
  rw[m5];exact⟨l3,by grind,by omega,by grind⟩
 |own e g n rows=>
  refine⟨h.1,bh _,λ_=>?_,λhe hg=>?_⟩
  case refine_2=>
   have oO:=abn yY hg;have h1:=h.2.2.2 he oO.1;intro b off l c hu;have h2:=h1 b off l c hu;have h3:E'.fo=fo:=ext.fo;rw[h3,hI oO.2]at h2;exact h2
  rcases h.2.2.1 (by have:=h.2.1;grind)with h'|⟨b,off,len,cap,rfl,h'⟩
  ·exact .inl h'
  ·refine .inr ⟨b,off,len,cap,rfl,?_⟩;rcases h' with h'|⟨h1,h2,h3⟩
   ·omega
   ·refine .inr ⟨?_,h2,h3⟩;simp only[Env.back];rw[aQ]
    ·rw[h1];rfl
    ·rintro ⟨g1,g2⟩;have:=(ext.dB b g1 g2).2.2;grind
 |cd i off=>exact RX.jW (x:= .cd i off) h
 |cn e i rows=>exact RX.jW (x:= .cn e i rows) h
 |cq e i n=>exact RX.jW (x:= .cq e i n) h
 |bz e rows i off=>
  simp only[X.dj];cases he:Nat.beq e 1053 with
  |true=>exact RX.jW (x:= .bz e rows i off) h
  |false=>obtain⟨b,o,h1,h2,h3,_⟩:=h;exact⟨b,o,h1,h2,h3,λh'=>by simp_all⟩
 |dn k=>exact h.1
 |_=>exact h
theorem bF.abq {V V':Vw} {E':Env} {w':World} {f:X->X} {l:amT} {us:ana} (h:bF T E w V l us) (hf:∀(j:Nat) x u,l[j]?=some x->us[j]?=some u->RX T E w V x u->RX T E' w' V' (f x) u):
 bF T E' w' V' (l.map f) us:=by
 refine⟨by simpa using h.1,λj y u hy hu=>?_⟩;rw[bP]at hy;cases hx:l[j]?with
 |none=>grind
 |some x=>simp only[hx,cj,ae]at hy;subst hy;exact hf j x u hx hu (h.2 j x u hx hu)
theorem abr {brw:amG} {gen:amP} {x:X} (h:j8 brw gen x=true):∃g rows,x= .own 1053 g (gen g) rows/\j7 brw g=6053:=by
 unfold j8 at h;split at h
 ·rename_i e g n rows;simp only[aB]at h;have h1:=bt h.1;have h2:=bt h.2.1;subst h1;subst h2;exact⟨g,rows,rfl,bt h.2.2⟩
 grind
theorem Rp {brw ids gs:amG} {V:Vw} {x:X} {u:Value} (hb:brw.contains 1053=false) (h:j8 brw V.gen x=true) (hx:RX T E w V x u):EL (E.eB ids gs brw E.fo) u:=by
 obtain⟨g,rows,rfl,hg⟩:=abr h;have oO:g=6053:=by
  unfold j7 at hg;cases hc:brw.contains g with
  |true=>
   grind
  |false=>grind
 exact hx.2.2.2 rfl oO
theorem abt {brw:amG} {gen:amP} {Ξ:amZ} {ls:anb} (h:wQ brw gen Ξ ls=true) (hb:brw.contains 1053=true) {x:X} (hx:x∈Ξ.flatMap S.xs):j8 brw gen x=false:=by unfold wQ at h;grind
theorem abu {brw:amG} {gen:amP} {Ξ:amZ} {ls:anb} (h:wQ brw gen Ξ ls=true) (hb:brw.contains 1053=true) {i j:Nat} {l:amT} {x:X} (hl:ls[i]?=some l) (hx:l[j]?=some x) (hn:j8 brw gen x=true):
 i=0/\j=(ls.headD []).findIdx (j8 brw gen):=by
 unfold wQ at h;rw[hb]at h;simp only[qM,kM,aB]at h;obtain⟨_,h⟩:=h;cases ls with
 |nil=>grind
 |cons l0 r=>
  simp only[aB]at h;cases i with
  |succ i=>have hm:x∈r.flatMap id:=ba.2 ⟨l,aY (by simpa using hl),aY hx⟩;grind
  |zero=>
   simp only[lV,ae]at hl;subst hl;refine⟨rfl,?_⟩;by_cases hj:j=l0.findIdx (j8 brw gen)
   ·grind
   ·have hm:x∈l0.set (l0.findIdx (j8 brw gen)) .aD:=aY (i:=j) (by grind);grind
theorem Rq {ids gs brw:amG} {fo:Nat×Nat} {b:Nat} (hm:b∈ids.map E.β) (hb:(E.κ b).kN=true):(E.eB ids gs brw fo).κ b=E.κ b:=by
 simp only[Env.eB];cases hk:E.κ b with
 |dB=>rfl
 |box=>grind
 |ui=>grind
 |row g=>rw[hk]at hb;cases hb
theorem abv {ids gs brw:amG} {fo:Nat×Nat} {b:Nat} (hm:b∉ids.map E.β) (hb:(E.κ b).kN=true):(E.eB ids gs brw fo).κ b= .dB:=by
 simp only[Env.eB];cases hk:E.κ b with
 |dB=>rfl
 |box=>grind
 |ui=>grind
 |row g=>rw[hk]at hb;cases hb
theorem abw {cx:Cx} {st:St} {a:Act} (h:aM T cx E st a w) {f:FuncId} {vals:ane} {Ξ:amZ} {ids:amG} {d:amR} {new:Bool} {brw:amG}
 {y6:List S->List (List X)->Option Sp} (aN:∀Ξ bs sp,y6 Ξ bs=some sp->iG P T f Ξ bs sp) (hlen:∀Ξ bs sp,y6 Ξ bs=some sp->∀x,(sp.bx x).length=bs.length+new.toNat/\∀l∈sp.bx x,l≠[])
 (cf:vals.size=Ξ.length) (BU:∀(i:Nat) s u,Ξ[i]?=some s->vals[i]?=some u->RS T E w st.vw s u) {K:amX} (hk:(nP st d new brw y6 Ξ ids).wp K):
 Calls P f vals w λe w'=>∃v,e= .returned v/\iF T cx K (a.put d v) w':=by
 unfold nP at hk;split at hk
 ·exact hk.elim
 ·rename_i ls eO;dsimp only at hk;split at hk
  ·rename_i hc;simp only[aB,iT,gy]at hc;obtain⟨⟨⟨⟨dv,fR⟩,y7⟩,B3⟩,y8,yX⟩:=hc;split at hk
   ·exact hk.elim
   ·rename_i sp ct;obtain⟨jG,iZ⟩:=hk;generalize yV:Ξ.flatMap S.xs++ls.flatMap id=xs at*;generalize m6:xs.flatMap (X.tags st.gen)=gs at*;generalize iv brw gs=brw at*;have Rr:∀x∈xs,∀b∈x.cU,b∈ids:=by intro x hx b hb;have:=aX.1 fR b (ba.2 ⟨x,hx,hb⟩);simpa using this
    have Rs:∀x∈xs,∀g∈x.tags st.gen,g∈gs:=by intro x hx g hg;rw[<-m6];exact ba.2 ⟨x,hx,hg⟩
    obtain⟨nJ,nS⟩:=uL eO;have kS:∀b∈ids,∃l,st.boxes[b]?=some (some l)/\l≠[]:=by
     intro b hb;obtain⟨i,hi⟩:=jP hb;have aj:i<ls.length:=by
      rw[nJ];rcases aT i ids.length with h'|h'
      ·exact h'
      ·simp[aW h']at hi
     obtain⟨b',h1,h2⟩:=nS i _ (aP aj);rw[hi]at h1;simp only[ae]at h1;subst h1;refine⟨_,h2,?_⟩;have:=aX.1 B3 _ (fz aj);rintro e;rw[e]at this;cases this
    generalize hI:(bif brw.contains 1053 then(match w.cell? ⟨E.β (ids.headD 0),E.ο (ids.headD 0)+(ls.headD []).findIdx (j8 brw st.gen),none⟩with|some (.slice (some ⟨b,off,none⟩) _ _)=>(b,off)|_=>(0,0))else E.fo:Nat×Nat)=fo;have J4:brw.contains 1053=false->fo=E.fo:=λhb=>by rw[<-hI,hb];rfl
    have hF:=aN _ _ sp ct jG (E.eB ids gs brw fo) w vals (by simpa using cf)
     (λi s u hs hu=>by
      rw[bP]at hs;cases hq:Ξ[i]?with
      |none=>simp[hq]at hs
      |some s0=>
       simp only[hq,cj,ae]at hs;subst hs;simp only[dI,nJ];refine RS.bH (BU i s0 u hq hu) (λx hx v hv=>?_) rfl;have B4:x∈xs:=by rw[<-yV];exact bB.2 (.inl (ba.2 ⟨s0,aY hq,hx⟩))
       refine hv.cV (Rr x B4) (Rs x B4) λhq=>?_;cases hb:brw.contains 1053 with
       |true=>have ku:j8 brw st.gen x=true:=hq;rw[abt yX hb (ba.2 ⟨s0,aY ‹Ξ[i]?=some s0›,hx⟩)]at ku;cases ku
       |false=>rw[J4 hb];exact Rp hb hq hv)
     (λi l hl hn=>by
      rw[bP]at hl;cases hq:ls[i]?with
      |none=>simp[hq]at hl
      |some l0=>
       simp only[hq,cj,ae]at hl;subst hl;obtain⟨b,hb,cL⟩:=nS i l0 hq;obtain⟨b1,b2,cs,el,b3,b5,b4⟩:=h.boxes b l0 cL (by simpa using hn);have mZ:b∈ids:=aY hb;have fN:(E.eB ids gs brw fo).β i=E.β b:=by simp[Env.eB,aZ,hb]
       have J5:(E.eB ids gs brw fo).ο i=E.ο b:=by simp[Env.eB,aZ,hb]
       simp only[dI,nJ];refine⟨?_,?_,cs,el,?_,by rw[J5];exact b5,?_⟩
       ·rw[fN,Rq (aF.2 ⟨b,mZ,rfl⟩) b1];exact b1
       ·rw[fN,J5];exact b2
       ·rw[fN];exact b3
       ·rw[J5];refine b4.abq λj x v Rt B5 hv=>?_;have hx:=aY Rt;have B4:x∈xs:=by rw[<-yV];exact bB.2 (.inr (ba.2 ⟨l0,aY hq,hx⟩))
        refine hv.cV (Rr x B4) (Rs x B4) λRu=>?_;cases gP:brw.contains 1053 with
        |false=>rw[J4 gP];exact Rp gP Ru hv
        |true=>
         obtain⟨i0,j0⟩:=abu yX gP hq Rt Ru;intro b' pO l' c' hu;subst hu;show fo=_;have abx:ids.headD 0=b:=by rw[i0]at hb;cases ids with
          |nil=>simp at hb
          |cons a r=>simpa using hb
         have fp:w.cell? ⟨E.β b,E.ο b+j,none⟩=some (.slice (some ⟨b',pO,none⟩) l' c'):=by
          rw[jA b3];rw[fi]at B5;split at B5
          ·rw[fa]at B5;simpa using B5
          ·cases B5
         rw[<-hI,gP,abx,<-j0,fp];rfl)
     (λi j hi hj he=>by
      simp only[dI,nJ]at hi hj;simp only[Env.eB,aZ,aP hi,aP hj,fh]at he;obtain⟨l1,g1,n1⟩:=kS _ (fz hi);obtain⟨l2,g2,n2⟩:=kS _ (fz hj);have:=h.inj _ _ l1 l2 g1 g2 n1 n2 he;exact B2 dv i j _ (aP hi) (by rw[this];exact aP hj))
     (λb hb=>h.ext.fresh b hb)
     (λl hl=>by
      obtain⟨l0,h0,rfl⟩:=aF.1 hl;have:=aX.1 B3 l0 h0;intro e;have e:l0=[]:=by simpa using e
      rw[e]at this;cases this)
     ⟨λb k hk hp=>by
      obtain⟨z1,z2,z3,z4⟩:=h.hi.zero b k hk hp;refine⟨z1,z2,?_,z4⟩;cases ky:E.κ b with
      |box=>rw[ky]at z3;cases z3
      |ui=>rw[ky]at z3;cases z3
      |dB=>simp[Env.eB,ky,gB.kN]
      |row g=>simp only[Env.eB,ky];split<;>rfl,h.hi.rows⟩
    refine hF.mono λe w' hh=>?_;obtain⟨v,x,E',rfl,hx,y9,cL,_,J6,Fc,ext,q9,J7⟩:=hh;refine⟨v,rfl,_,iZ x hx,?_⟩;have nI:(sp.bx x).length=ids.length+new.toNat:=by rw[(hlen _ _ sp ct x).1];simp[nJ]
    simp only[dI,nJ]at J6 Fc;rw[nI]at y9 cL Fc;have fN:∀i,i<ids.length->E'.β i=E.β (ids.getD i 0)/\E'.ο i=E.ο (ids.getD i 0):=λi hi=>by obtain⟨q1,q2,_⟩:=J6 i hi;rw[q1,q2];exact⟨rfl,rfl⟩
    have nT:new=true->∃k,d=some k/\st.boxes[k]?=some none/\k<st.aq.length:=by
     intro hn;rcases y7 with h'|h'
     ·rw[hn]at h';cases h'
     ·unfold uK at h';split at h'
      ·rename_i k;split at h'
       ·rename_i hk;exact⟨k,rfl,hk,by simpa using h'⟩
       ·cases h'
      ·cases h'
    have J8:new=true->d.getD 0∉ids:=by intro hn hm;obtain⟨k,rfl,hk,_⟩:=nT hn;obtain⟨l,hl,_⟩:=kS _ hm;simp only[fh]at hl;rw[hk]at hl;simp at hl
    generalize nU:(if new=true then ids++d.toList else ids)=er at*;have sJ:er.length=ids.length+new.toNat:=by
     rw[<-nU];cases hn:new with
     |false=>simp
     |true=>obtain⟨k,rfl,_⟩:=nT hn;simp
    have Fe:∀b∈er,b∈ids\/(new=true/\b=d.getD 0):=by
     intro b hb;rw[<-nU]at hb;cases hn:new with
     |false=>simp[hn]at hb;exact .inl hb
     |true=>
      obtain⟨k,rfl,_⟩:=nT hn;simp[hn]at hb;rcases hb with hb|hb
      ·exact .inl hb
      ·exact .inr ⟨rfl,by simpa using hb⟩
    have ra:∀i,i<ids.length->er[i]?=ids[i]?:=by
     intro i hi;rw[<-nU];split
     ·exact jQ hi
     ·rfl
    have B6:new=true->er[ids.length]?=some (d.getD 0):=by intro hn;obtain⟨k,rfl,_⟩:=nT hn;rw[<-nU,hn];simp
    have aby:∀(i j:Nat) c,er[i]?=some c->er[j]?=some c->i=j:=by
     intro i j c hi hj;have abz:i<er.length:=by
      rcases aT i er.length with h'|h'
      ·exact h'
      ·simp[aW h']at hi
     have wU:j<er.length:=by
      rcases aT j er.length with h'|h'
      ·exact h'
      ·simp[aW h']at hj
     have alW:new.toNat<=1:=by cases new<;>simp
     by_cases h1:i<ids.length<;>by_cases h2:j<ids.length
     ·exact B2 dv i j c (by rw[<-ra i h1];exact hi) (by rw[<-ra j h2];exact hj)
     ·have hn:new=true:=by cases hn:new with|true=>rfl|false=>simp[hn]at sJ;omega
      have:j=ids.length:=by simp[hn]at sJ;omega
      subst this;rw[B6 hn]at hj;rw[ra i h1]at hi;simp only[ae]at hj;exact absurd (aY hi) (by rw[<-hj];exact J8 hn)
     ·have hn:new=true:=by cases hn:new with|true=>rfl|false=>simp[hn]at sJ;omega
      have:i=ids.length:=by simp[hn]at sJ;omega
      subst this;rw[B6 hn]at hi;rw[ra j h2]at hj;simp only[ae]at hi;exact absurd (aY hj) (by rw[<-hi];exact J8 hn)
     ·omega
    have J9:∀c∈er,c<st.boxes.length:=by
     intro c hc;have JJ:∃o,st.boxes[c]?=some o:=by
      rcases Fe c hc with h'|⟨hn,rfl⟩
      ·obtain⟨l,hl,_⟩:=kS c h';exact⟨_,hl⟩
      ·obtain⟨k,rfl,hk,_⟩:=nT hn;exact⟨_,hk⟩
     obtain⟨o,ho⟩:=JJ;rcases aT c st.boxes.length with h'|h'
     ·exact h'
     ·simp[aW h']at ho
    generalize wV:(sp.bx x).map (List.map (X.dj ids brw (d.getD 0) new (fE st.gen (eT brw gs))))=jm at*;have Rv:jm.length=er.length:=by rw[<-wV];simp[nI,sJ]
    have abA:∀l∈jm,l≠[]:=by intro l hl;rw[<-wV]at hl;obtain⟨l0,h0,rfl⟩:=aF.1 hl;simpa using(hlen _ _ sp ct x).2 l0 h0
    have cT:=λb=>Fa er jm st.boxes b aby (by omega) J9;rw[Rv,Bl]at cT;generalize abB:eU st.boxes er jm=za at*;have pV:∀(b:Nat) l,za[b]?=some (some l)->(∃(i:Nat) (l0:amT),er[i]?=some b/\(sp.bx x)[i]?=some l0/\l=l0.map (X.dj ids brw (d.getD 0) new (fE st.gen (eT brw gs))))\/
     (b∉er/\st.boxes[b]?=some (some l)):=by
     intro b l hl;rw[cT b]at hl;cases hi:er.idxOf? b with
     |some i=>
      simp only[hi,ae]at hl;obtain⟨gP,dS,_⟩:=P3.1 hi;refine .inl ⟨i,?_⟩;rw[<-wV,bP]at hl;cases hq:(sp.bx x)[i]?with
      |none=>simp[hq]at hl
      |some l0=>simp only[hq,cj,ae]at hl;exact⟨l0,by rw[aP gP];simpa using dS,rfl,hl.symm⟩
     |none=>simp only[hi]at hl;exact .inr ⟨P2.1 hi,hl⟩
    have Ka:∀b∈er,hasB za b=true:=by
     intro b hb;have hi:∃i,er.idxOf? b=some i:=by
      cases hi:er.idxOf? b with
      |some i=>exact⟨i,rfl⟩
      |none=>exact absurd hb (P2.1 hi)
     obtain⟨i,hi⟩:=hi;obtain⟨gP,_,_⟩:=P3.1 hi;refine m4.2 ⟨jm[i]'(by omega),?_,abA _ (fz _)⟩;rw[cT b];simp only[hi];rw[aP (by omega)]
    have abC:∀b,hasB st.boxes b=true->hasB za b=true:=by
     intro b hb;by_cases hm:b∈er
     ·exact Ka b hm
     ·obtain⟨l,hl,hn⟩:=m4.1 hb;refine m4.2 ⟨l,?_,hn⟩;rw[cT b,P2.2 hm];exact hl
    have uN:∀b,hasB st.boxes b=true->new=true->b≠d.getD 0:=by rintro b hb hn rfl;obtain⟨k,rfl,hk,_⟩:=nT hn;simp[hasB,hk]at hb
    have nV:∀b,hasB st.boxes b=true->(E.back E' w ids gs brw new (d.getD 0)).β b=E.β b/\(E.back E' w ids gs brw new (d.getD 0)).ο b=E.ο b:=by
     intro b hb;simp only[Env.back];split
     ·rename_i hn;exact⟨b6 _ _ (uN b hb hn),b6 _ _ (uN b hb hn)⟩
     ·exact⟨rfl,rfl⟩
    have Rw:∀(b:Nat) l,st.boxes[b]?=some (some l)->l≠[]->b∉ids->(E.eB ids gs brw fo).κ (E.β b)= .dB:=by intro b l hl hn rb;refine abv ?_ (h.boxes b l hl hn).1;intro hm;obtain⟨b',aR,he⟩:=aF.1 hm;obtain⟨l',bA,eS⟩:=kS b' aR;have:=h.inj b' b l' l bA hl eS hn he;subst this;exact rb aR
    have sK:∀b,hasB st.boxes b=true->E.β b<w.heap.size->(E.back E' w ids gs brw new (d.getD 0)).φ (E.β b)=E.φ (E.β b)/\(E.back E' w ids gs brw new (d.getD 0)).κ (E.β b)=E.κ (E.β b):=by
     intro b hb aj;obtain⟨l,hl,hn⟩:=qQ hb;have cL:=(h.boxes b l hl hn).1;by_cases hm:b∈ids
     ·obtain⟨i,hi⟩:=jP hm;have dW:i<ids.length:=by
       rcases aT i ids.length with h'|h'
       ·exact h'
       ·simp[aW h']at hi
      obtain⟨_,_,q3,q4⟩:=J6 i dW;have e1:(E.eB ids gs brw fo).β i=E.β b:=by simp[Env.eB,aZ,hi]
      have e2:=Rq (gs:=gs) (brw:=brw) (fo:=fo) (aF.2 ⟨b,hm,rfl⟩) cL;rw[e1,e2]at q3;rw[e1]at q4;refine⟨q4,?_⟩;simp only[Env.back];rw[aQ]
      ·rw[q3];exact gB.abk cL
      ·rintro ⟨_,g2⟩;have g2:(E.eB ids gs brw fo).κ (E.β b)= .dB:=g2;rw[e2]at g2;rw[g2]at cL;cases cL
     ·have hf:=Rw b l hl hn hm;refine⟨(ext.dB _ aj hf).2.1,?_⟩;simp only[Env.back];rw[aC ⟨aj,hf⟩]
    have bo:gC E w st.vw (E.back E' w ids gs brw new (d.getD 0)) w' ⟨hasB za,fE st.gen (eT brw gs)⟩:=by
     refine⟨ext.mono,λb hb=>⟨abC b hb,(nV b hb).1,(nV b hb).2,λaj=>?_⟩,λg=>?_,λb g hb hg qS=>?_,rfl⟩
     ·exact sK b hb aj
     ·simp only[St.vw,fE];split<;>omega
     by_cases Ff:g∈gs
     ·have abD:Nat.ble 5000 g=true\/brw.contains g=true:=by
       rcases Zx (Nat.ble 5000 g=true\/brw.contains g=true)with h'|h'
       ·exact h'
       ·have h1:Nat.ble 5000 g=false:=(Ez _).resolve_left λh=>h' (.inl h);have h2:brw.contains g=false:=(Ez _).resolve_left λh=>h' (.inr h);have:(eT brw gs).contains g=true:=by rw[jT,eT,ki];exact⟨Ff,by rw[h1,h2];rfl⟩
        simp only[St.vw,fE,this,cJ]at qS;omega
      have dV:(E.eB ids gs brw fo).κ b= .row (j7 brw g):=by simp[Env.eB,hg,Ff]
      have yY:5000<=j7 brw g/\nO brw (j7 brw g)=g:=by
       simp only[wP,aB,aX]at y8;cases hc:brw.contains g with
       |true=>
        have h1:j7 brw g=g+5000:=by simp only[j7,hc,mJ]
        rw[h1];refine⟨by omega,?_⟩;have h2:Nat.ble 5000 (g+5000)=true:=by rw[EF];omega
        simp only[nO,h2,P4,hc,Zy,mJ]
       |false=>
        have h1:j7 brw g=g:=by simp only[j7,hc,lS]
        have h2:Nat.ble 5000 g=true:=by rcases abD with h|h;exact h;rw[hc]at h;cases h
        rw[h1];refine⟨by rwa[EF]at h2,?_⟩;have h3:=y8.2 g Ff;simp only[gy]at h3;simp only[nO,h3,lS]
      obtain⟨q1,q2⟩:=J7 b _ hb dV yY.1;refine⟨?_,q2⟩;simp only[Env.back];rw[aQ]
      ·rw[q1];simp only[gB.un,yY.2]
      ·rintro ⟨_,g2⟩;have g2:(E.eB ids gs brw fo).κ b= .dB:=g2;rw[dV]at g2;cases g2
     ·have oU:(E.eB ids gs brw fo).κ b= .dB:=by simp[Env.eB,hg,Ff]
      refine⟨by simp only[Env.back];rw[aC ⟨hb,oU⟩];exact hg,(ext.dB b hb oU).2.1⟩
    have ir:HI T (E.back E' w ids gs brw new (d.getD 0)) w':=by
     refine⟨λb k hk hp=>?_,q9.rows⟩;obtain⟨z1,z2,z3,z4⟩:=q9.zero b k hk hp;refine⟨z1,z2,?_,z4⟩;simp only[Env.back];split
     ·rename_i hc;have ja:0<E'.φ b k:=hp;rw[(ext.dB b hc.1 hc.2).2.1]at ja;exact(h.hi.zero b k hk ja).2.2.1
     ·rw[gB.Rh];exact z3
    have m5:∀{y:X} {u:Value},RX T E' w' ⟨λb=>decide (b<ids.length+new.toNat),λ_=>0⟩ y u->RX T (E.back E' w ids gs brw new (d.getD 0)) w' ⟨hasB za,fE st.gen (eT brw gs)⟩ (y.dj ids brw (d.getD 0) new (fE st.gen (eT brw gs))) u:=by
     intro y u hy;refine RX.dj (V':=⟨hasB za,fE st.gen (eT brw gs)⟩) (by simp only[wP,aB]at y8;exact y8.1) J4 ext fN J8 (λb hb=>Ka b ?_) (λhn=>Ka _ ?_) hy
     ·rw[<-nU];split
      ·exact bB.2 (.inl hb)
      ·exact hb
     ·exact aY (B6 hn)
    have ma:∀(i b:Nat),er[i]?=some b->(E.back E' w ids gs brw new (d.getD 0)).β b=E'.β i/\(E.back E' w ids gs brw new (d.getD 0)).ο b=E'.ο i/\(i<ids.length\/(new=true/\i=ids.length)):=by
     intro i b hb;by_cases hi:i<ids.length
     ·have aR:ids[i]?=some b:=by rw[<-ra i hi];exact hb
      have mZ:=aY aR;have e1:=nV b (m4.2 (kS b mZ));have e2:=fN i hi;refine⟨?_,?_, .inl hi⟩
      ·rw[e1.1,e2.1];simp[aZ,aR]
      ·rw[e1.2,e2.2];simp[aZ,aR]
     ·have abz:i<er.length:=by
       rcases aT i er.length with h'|h'
       ·exact h'
       ·simp[aW h']at hb
      have hn:new=true:=by cases hn:new with|true=>rfl|false=>simp[hn]at sJ;omega
      have cE:i=ids.length:=by simp[hn]at sJ;omega
      subst cE;rw[B6 hn]at hb;simp only[ae]at hb;subst hb;exact⟨by simp only[Env.back,hn,cJ,bG],by simp only[Env.back,hn,cJ,bG], .inr ⟨hn,rfl⟩⟩
    dsimp only;rw[wV,abB];refine⟨E.back E' w ids gs brw new (d.getD 0),aM.put ?_ d (RS.bH y9 (λy _ u hy=>m5 hy) rfl)⟩;refine⟨h.len,λi s u hs hu=>RS.bo bo (h.aq i s u hs hu),λid l hl hn=>?_,λid dt l l' hl bA nl B7 he=>?_,h.defers,?_,⟨h.fix.1,λid aE=>?_,λid l aE hl hn=>?_⟩,λid l aE hl hn Kb=>?_,ir,λb g hb hg h0=>h.EM bo (λg' cw=>by
     have:(eT brw gs).contains g'=false:=by
      rcases Ez ((eT brw gs).contains g')with h'|h'
      ·rw[jT,eT,ki]at h';have h2:Nat.ble 5000 g'=true:=by rw[EF];exact cw
       rw[h2]at h';simp at h'
      ·exact h'
     simp only[fE,this];rfl) b g hb hg h0⟩
    ·rcases pV id l hl with⟨i,l0,hi,dc,rfl⟩|⟨rb,dc⟩
     ·obtain⟨c1,c2,cs,el,c3,c5,c4⟩:=cL i l0 dc (by simpa using hn);obtain⟨p1,p3,p2⟩:=ma i id hi;refine⟨?_,?_,cs,el,?_,?_,?_⟩
      ·rw[p1];simp only[Env.back];rw[aQ]
       ·rw[gB.Rh];exact c1
       ·rintro ⟨g1,g2⟩;have:=(ext.dB _ g1 g2).2.2;rw[this]at c1;cases c1
      ·rw[p1,p3];exact c2
      ·rw[p1];exact c3
      ·rw[p3,dI];exact c5
      ·rw[p3,dI];exact c4.bH λy _ u hy=>m5 hy
     ·obtain⟨c1,c2,cs,el,c3,c5,c4⟩:=h.boxes id l dc hn;have hb:=nV id (m4.2 ⟨l,dc,hn⟩);have oU:(E.eB ids gs brw fo).κ (E.β id)= .dB:=Rw id l dc hn (λaR=>rb (by
       rw[<-nU];split
       ·exact bB.2 (.inl aR)
       ·exact aR))
      have aj:=ko c3;obtain⟨f1,f2,f3⟩:=ext.dB _ aj oU;refine⟨?_,?_,cs,el,?_,by rw[hb.2];exact c5,by rw[hb.2];exact bF.bo bo c4⟩
      ·rw[hb.1];simp only[Env.back];rw[aC ⟨aj,oU⟩];exact c1
      ·rw[hb.1,hb.2];show∀k,E'.φ (E.β id) k<=_;rw[f2];exact c2
      ·rw[hb.1,f1 (λ⟨k,hk,hp⟩=>by have:=(h.hi.zero _ k hk hp).2.2.1;rw[c1]at this;cases this)];exact c3
    ·have aj:∀(b:Nat) l0,st.boxes[b]?=some (some l0)->l0≠[]->E.β b<w.heap.size:=by intro b l0 hb hn;obtain⟨_,_,cs,el,c3,_⟩:=h.boxes b l0 hb hn;exact ko c3
     have Fg:∀(i b:Nat),er[i]?=some b->(b∈ids/\(E.back E' w ids gs brw new (d.getD 0)).β b=E.β b)\/w.heap.size<=(E.back E' w ids gs brw new (d.getD 0)).β b:=by
      intro i b hb;obtain⟨p1,_,p2⟩:=ma i b hb;rcases p2 with p2|⟨hn,rfl⟩
      ·have aR:ids[i]?=some b:=by rw[<-ra i p2];exact hb
       exact .inl ⟨aY aR,(nV b (m4.2 (kS b (aY aR)))).1⟩
      ·right;rw[p1];exact Fc ids.length (bh _) (by simp[hn])
     rcases pV id l hl with⟨i,l0,hi,dc,rfl⟩|⟨rb,dc⟩<;>rcases pV dt l' bA with⟨i',l1,cE,mY,rfl⟩|⟨alX,mY⟩
     ·rcases Fg i id hi with⟨m1,q1⟩|q1<;>rcases Fg i' dt cE with⟨m2,q2⟩|q2
      ·obtain⟨a1,gp,e1⟩:=kS id m1;obtain⟨a2,re,e2⟩:=kS dt m2;exact h.inj id dt a1 a2 gp re e1 e2 (by rw[<-q1,<-q2];exact he)
      ·obtain⟨a1,gp,e1⟩:=kS id m1;have:=aj id a1 gp e1;rw[q1]at he;omega
      ·obtain⟨a2,re,e2⟩:=kS dt m2;have:=aj dt a2 re e2;rw[q2]at he;omega
      ·obtain⟨p1,_,p2⟩:=ma i id hi;obtain⟨alY,_,zb⟩:=ma i' dt cE;rcases p2 with p2|⟨_,rfl⟩
       ·obtain⟨a1,gp,e1⟩:=kS id (aY (by rw[<-ra i p2];exact hi));have:=aj id a1 gp e1;rw[(nV id (m4.2 ⟨a1,gp,e1⟩)).1]at q1;omega
       ·rcases zb with zb|⟨_,rfl⟩
        ·obtain⟨a2,re,e2⟩:=kS dt (aY (by rw[<-ra i' zb];exact cE));have:=aj dt a2 re e2;rw[(nV dt (m4.2 ⟨a2,re,e2⟩)).1]at q2;omega
        ·rw[hi]at cE;simpa using cE
     ·have aR:=(nV dt (m4.2 ⟨l',mY,B7⟩)).1;have h3:=aj dt l' mY B7;rcases Fg i id hi with⟨m1,q1⟩|q1
      ·obtain⟨a1,gp,e1⟩:=kS id m1;exact h.inj id dt a1 l' gp mY e1 B7 (by rw[<-q1,<-aR];exact he)
      ·rw[aR]at he;omega
     ·have aR:=(nV id (m4.2 ⟨l,dc,nl⟩)).1;have h3:=aj id l dc nl;rcases Fg i' dt cE with⟨m1,q1⟩|q1
      ·obtain⟨a1,gp,e1⟩:=kS dt m1;exact h.inj id dt l a1 dc gp nl e1 (by rw[<-q1,<-aR];exact he)
      ·rw[aR]at he;omega
     ·exact h.inj id dt l l' dc mY nl B7 (by rw[<-(nV id (m4.2 ⟨l,dc,nl⟩)).1,<-(nV dt (m4.2 ⟨l',mY,B7⟩)).1];exact he)
    ·refine⟨ext.os.trans h.ext.os,ext.tape.trans h.ext.tape,ext.output.trans h.ext.output,h.ext.fo,h.ext.mono.trans ext.mono,λb hb hf=>?_,ext.fresh⟩;obtain⟨f1,f2,f3⟩:=h.ext.dB b hb hf;have oU:(E.eB ids gs brw fo).κ b= .dB:=by simp[Env.eB,f3]
     have aj:b<w.heap.size:=by have:=h.ext.mono.size;omega
     obtain⟨g1,g2,g3⟩:=ext.dB b aj oU;refine⟨λhw=>(g1 (λzc=>hw (by obtain⟨k,hk,hp⟩:=zc;exact⟨k,hk,by rw[<-f2];exact hp⟩))).trans (f1 hw),g2.trans f2,?_⟩;simp only[Env.back];rw[aC ⟨aj,oU⟩];exact f3
    ·simp only[Env.back];split
     ·rename_i hn;obtain⟨k,rfl,_,fP⟩:=nT hn;have yQ:cx.nt<=id:=aE;have kc:=h.fix.1;rw[b6 _ _ (by simp only[fh];omega),b6 _ _ (by simp only[fh];omega)];exact h.fix.2.1 id aE
     ·exact h.fix.2.1 id aE
    ·have oV:∀a1,st.boxes[id]?=some (some a1)->a1≠[]->(E.back E' w ids gs brw new (d.getD 0)).κ ((E.back E' w ids gs brw new (d.getD 0)).β id)=cx.κ (cx.β id)/\
      (E.back E' w ids gs brw new (d.getD 0)).φ ((E.back E' w ids gs brw new (d.getD 0)).β id)=cx.φ (cx.β id):=by
      intro a1 gp e1;have hb:=m4.2 ⟨a1,gp,e1⟩;obtain⟨_,_,_,_,c3,_⟩:=h.boxes id a1 gp e1;obtain⟨s1,s2⟩:=sK id hb (ko c3);rw[(nV id hb).1,s1,s2];exact h.fix.2.2 id a1 aE gp e1
     rcases pV id l hl with⟨i,l0,hi,dc,rfl⟩|⟨rb,dc⟩
     ·obtain⟨p1,_,p2⟩:=ma i id hi;rcases p2 with p2|⟨eS,rfl⟩
      ·obtain⟨a1,gp,e1⟩:=kS id (aY (by rw[<-ra i p2];exact hi));exact oV a1 gp e1
      ·exfalso;obtain⟨k,rfl,_,fP⟩:=nT eS;rw[B6 eS]at hi;simp only[fh,ae]at hi;have kc:=h.fix.1;omega
     ·exact oV l dc hn
    ·have oV:∀a1,st.boxes[id]?=some (some a1)->a1≠[]->cx.w.heap.size<=(E.back E' w ids gs brw new (d.getD 0)).β id:=by intro a1 gp e1;have hb:=m4.2 ⟨a1,gp,e1⟩;obtain⟨_,_,_,_,c3,_⟩:=h.boxes id a1 gp e1;obtain⟨s1,s2⟩:=sK id hb (ko c3);rw[(nV id hb).1]at Kb⊢;rw[s2]at Kb;exact h.oI id a1 aE gp e1 Kb
     rcases pV id l hl with⟨i,l0,hi,dc,rfl⟩|⟨rb,dc⟩
     ·obtain⟨p1,_,p2⟩:=ma i id hi;rcases p2 with p2|⟨eS,rfl⟩
      ·obtain⟨a1,gp,e1⟩:=kS id (aY (by rw[<-ra i p2];exact hi));exact oV a1 gp e1
      ·rw[p1];exact eR h.ext.mono.size (Fc ids.length (bh _) (by simp[eS]))
     ·exact oV l dc hn
  ·exact hk.elim
end Go.Pv
namespace Go.Pv
open Go
inductive bN (T:ay):C->Prop
 |int (k:IntKind) (n:Int) (h:iA k n):bN T (.int k n)
 |bool (b:Bool):bN T (.bool b)
 |str (s:ByteArray) (h:s.size<=hC):bN T (.str s)
 |any:bN T .any
 |sl (e:Nat) (rows:Y9) (hlen:rows.length<=cM) (hk:∀r∈rows,r.map C.kd=T e)
  (hr:∀(r:amS) (c:C),r∈rows->c∈r->bN T c):bN T (.sl e rows)
theorem aG.B8 {T:ay} {φ:anh} {w:World} {c:C} {v:Value} (h:aG T φ w c v):bN T c:=by
 induction h with
 |int k n h=>exact .int k n h
 |bool b=>exact .bool b
 |str s h=>exact .str s h
 |any v h=>exact .any
 |nil e=>exact .sl e [] (by simp) (by simp) (by simp)
 |emp e _=>exact .sl e [] (by simp) (by simp) (by simp)
 |sl e rows b off cap cs el fr val e0 gr hb cI cP dq hlen hk hv hr hs hl gA fB hd ih _=>refine .sl e rows hlen hk λr c bR hc=>?_;obtain⟨i,hi⟩:=jP bR;obtain⟨j,hj⟩:=jP hc;grind
variable {P:Program} {T:ay} {E:Env} {w:World}
def pW (rows:Y9) (i:Nat) (fs:amS) (off j:Nat):Kd->X
 | .any=> .c (fs.getD j .any)
 |k=> .c (lY k (cellAt rows i (off+j)))
def mc (rows:Y9) (i:Nat) (fs:amS) (off:Nat):Nat->List Kd->List X
 |_,[]=>[]
 |j,k::ks=>pW rows i fs off j k::mc rows i fs off (j+1) ks
theorem Rx (rows:Y9) (i:Nat) (fs:amS) (off:Nat):∀(ks:amQ) (j m:Nat),(mc rows i fs off j ks)[m]?=ks[m]?.map (pW rows i fs off (j+m))
 |[],_,_=>by rfl
 |k::ks,j,0=>by rfl
 |k::ks,j,m+1=>by simp only[mc,oC];rw[Rx rows i fs off ks (j+1) m,show j+1+m=j+(m+1)by omega]
theorem Ry (rows:Y9) (i:Nat) (fs:amS) (off:Nat):∀(ks:amQ) (j:Nat),(mc rows i fs off j ks).length=ks.length
 |[],_=>rfl
 |k::ks,j=>by simp[mc,Ry rows i fs off ks]
structure pX (T:ay) (e off n:Nat) (fs:amS):Prop where
 len:fs.length=n
 cell:∀(j:Nat) k,j<n->(T e)[off+j]?=some .any->(T (base e))[off+j]?=some k->∃c,fs[j]?=some c/\c.kd=k/\bN T c
 wK:∀k gs s m,bY e=true->dh (base e)=some (k,gs)->(s,m)∈gs->off<=s->s+m<=off+n->T.G e s ((fs.drop (s-off)).take m)
theorem Rz {x n:Nat} {gs:amU} (h:dh x=some (n,gs)) {g g':Nat×Nat} (h1:g∈gs) (h2:g'∈gs) {j:Nat} (a1:g.1<=j) (a2:j<g.1+g.2) (b1:g'.1<=j) (b2:j<g'.1+g'.2):g=g':=by unfold dh at h;grind
theorem At.RA (hT:cr P T) {φ:anh} {rows:Y9} {b o:Nat} (h:At T φ w 1553 rows b o):At T φ w 1053 rows b o:=by
 obtain⟨cap,h⟩:=h;refine⟨cap,?_⟩;have ht:=hT.done;cases h with
 |emp=>exact .emp _ _
 |sl e rows b off cap cs el fr val e0 gr hb cI cP dq hlen hk hv hr hs hl gA fB hd=>
  have h0:e0=1053:=hs.eq (by decide);subst h0;have iE:kk T 1053 1053 o=kk T 1053 1553 o:=by unfold kk;rw[ht]
  exact .sl 1053 rows b o cap cs el fr val 1053 gr hb (by grind) cP (by grind) hlen (by grind) (by grind) hr (.inl rfl)
   (λi j hi hj ha=>by grind)
   (λg=>absurd g (by decide)) (λg=>absurd g (by decide)) (λg=>absurd g (by decide))
theorem At.RB (hT:cr P T) (hi:HI T E w) {e:Nat} (al:T e≠[]) (cz:e≠1553) (sH:1000<=e) {rows:Y9} {b o:Nat} (h:At T E.φ w e rows b o) {i:Nat} (dW:i<rows.length) (off n:Nat) (uO:off+n<=(T e).length) (hw:bY e=true\/2000<=e):
 ∃fs:amS,pX T e off n fs/\∀j,j<n->(T e)[off+j]?=some .any->∃c u,fs[j]?=some c/\w.cell? ⟨b,o+i*(T e).length+(off+j),none⟩=some u/\aG T E.φ w c u:=by
 classical
 have fu:=h.loose hT hi al cz;by_cases hs:bY e=true
 ·obtain⟨gs,g1,g2,g3⟩:=hT.whole e sH al (.inr hs);have wW:∀g:Nat×Nat,∃r:amS,g∈gs->r.map C.kd=((T (base e)).drop g.1).take g.2/\T.G e g.1 r/\∀(j:Nat) c,r[j]?=some c->∃u,w.cell? ⟨b,o+(i*(T e).length+g.1+j),none⟩=some u/\aG T E.φ w c u:=λg=>by
   by_cases hg:g∈gs
   ·obtain⟨r,hr⟩:=fu.s hs _ _ g.1 g.2 i g1 hg dW;grind
   simp_all
  obtain⟨rg,Kc⟩:=PU wW;have pU:∀g∈gs,(rg g).length=g.2:=λg hg=>by
   have h1:((rg g).map C.kd).length=g.2:=by rw[(Kc g hg).1];have:=g2 g.1 g.2 hg;have:=(hT.low e al).2;simp;omega
   grind
  let f:Nat->C:=λj=>match gs.find? λg=>decide (g.1<=off+j)&&decide (off+j<g.1+g.2)with|some g=>(rg g).getD (off+j-g.1) .any|none=> .any
  have hf:∀g∈gs,∀j,g.1<=off+j->off+j<g.1+g.2->(rg g)[off+j-g.1]?=some (f j):=λg hg j h1 h2=>by
   have abE:gs.find? (λg=>decide (g.1<=off+j)&&decide (off+j<g.1+g.2))=some g:=by
    cases hq:gs.find? λg=>decide (g.1<=off+j)&&decide (off+j<g.1+g.2)with
    |none=>grind
    |some g'=>have h3:=v8 hq;simp only[aB,eN]at h3;rw[Rz g1 hg (uc hq) h1 h2 h3.1 h3.2]
   grind
  have cT:∀j,j<n->((List.range n).map f)[j]?=some (f j):=λj hj=>by grind
  have fp:∀j,j<n->(T e)[off+j]?=some .any->∃u,(T (base e))[off+j]?=some (f j).kd/\w.cell? ⟨b,o+i*(T e).length+(off+j),none⟩=some u/\aG T E.φ w (f j) u:=λj hj ha=>by
   obtain⟨s,m,hm,s1,s2⟩:=(g3 (off+j)).1 ha;have RC:=hf (s,m) hm j s1 s2;obtain⟨r1,_,r3⟩:=Kc (s,m) hm;obtain⟨u,u1,u2⟩:=r3 _ _ RC;have fM:((rg (s,m)).map C.kd)[off+j-s]?=(T (base e))[off+j]?:=by rw[r1,fi,aC (by omega),fa];congr 1;simp only;omega
   grind
  refine⟨(List.range n).map f,⟨by simp,λj k hj ha hk=>?_,λk kz s m _ hl hm h1 h2=>?_⟩,λj hj ha=>?_⟩
  ·obtain⟨u,c1,_,c3⟩:=fp j hj ha;rw[hk]at c1;exact⟨f j,cT j hj,(lR c1).symm,c3.B8⟩
  ·rw[g1]at hl;simp only[ae,bT]at hl;obtain⟨_,rfl⟩:=hl;have:(((List.range n).map f).drop (s-off)).take m=rg (s,m):=by
    apply oD;intro j;rw[fi];by_cases hj:j<m
    ·rw[aC hj,fa,cT _ (by omega)];have:=hf (s,m) hm (s-off+j) (by omega) (by omega);grind
    ·grind
   grind
  grind
 ·have zd:2000<=e:=hw.resolve_left hs;have wW:∀j:Nat,∃c:C,j<n->(T e)[off+j]?=some .any->(T (base e))[off+j]?=some c.kd/\∃u,w.cell? ⟨b,o+i*(T e).length+(off+j),none⟩=some u/\aG T E.φ w c u:=λj=>by
   by_cases ha:j<n/\(T e)[off+j]?=some .any
   ·obtain⟨c,u,c1,c2,c3⟩:=fu.w zd i (off+j) dW ha.2;grind
   simp_all
  obtain⟨f,hf⟩:=PU wW;have cT:∀j,j<n->((List.range n).map f)[j]?=some (f j):=λj hj=>by grind
  refine⟨(List.range n).map f,⟨by simp,λj k hj ha hk=>?_,λk kz s m h'=>absurd h' hs⟩,λj hj ha=>?_⟩
  ·obtain⟨c1,u,_,c3⟩:=hf j hj ha;rw[hk]at c1;exact⟨f j,cT j hj,(lR c1).symm,c3.B8⟩
  grind
theorem ze (hT:cr P T) (al:T 1053≠[]):(T 1053).length=20/\∃gs,dh 53=some (20,gs)/\gs=[(0,1),(9,11)]/\(T 1053)[9]?=some .any:=by obtain⟨gs,g1,_,g3⟩:=hT.whole 1053 (by decide) al (.inr rfl);have h2:dh (base 1053)=some (20,[(0,1),(9,11)]):=rfl;rw[h2]at g1;simp only[ae,bT]at g1;refine⟨g1.1.symm,_,rfl,rfl,(g3 9).2 ⟨9,11,by grind,by decide,by decide⟩⟩
theorem aG.nz {φ:anh} {c:C} {u:Value} (h:aG T φ w c u) (hk:∃k,c.kd= .int k) (hu:wi u):∃k n,c= .int k n/\n≠0:=by
 obtain⟨k,hk⟩:=hk;obtain⟨k',n,rfl,hn⟩:=hu;cases h with
 |int _ _ _=>grind
 |any=>cases hk
theorem At.RD (hT:cr P T) (hi:HI T E w) {e:Nat} (al:T e≠[]) (sH:1000<=e) {rows:Y9} {b o:Nat} (h:At T E.φ w e rows b o) {i:Nat} (dW:i<rows.length) (off n:Nat) (uO:off+n<=(T e).length) (hw:bY e=true\/2000<=e):
 ∃fs:amS,pX T e off n fs/\∀j,j<n->(T e)[off+j]?=some .any->∃c u,fs[j]?=some c/\w.cell? ⟨b,o+i*(T e).length+(off+j),none⟩=some u/\aG T E.φ w c u:=by
 by_cases cz:e=1553
 ·subst cz;have ht:=hT.done;have RE:T 1053≠[]:=by rw[<-ht];exact al
  obtain⟨fs,⟨l1,l2,l3⟩,hc⟩:=At.RB hT hi (e:=1053) RE (by decide) (by decide) (h.RA hT) dW off n (by grind) (.inl rfl);refine⟨fs,⟨l1,λj k hj ha hk=>l2 j k hj (by grind) hk,λk gs s m _ hl hg h1 h2=>hT.Z8 s _ (l3 k gs s m rfl hl hg h1 h2) λh9=>?_⟩,λj hj ha=>by grind⟩;subst h9;obtain⟨hlen,wC,q1,q2,q3⟩:=ze hT RE;have hl:dh 53=some (k,gs):=hl;rw[q1]at hl;simp only[ae,bT]at hl;rw[<-hl.2,q2]at hg;have hm:m=11:=by simpa using hg
  have hj:9-off<n:=by omega
  have ho:off+(9-off)=9:=by omega
  obtain⟨c,u,c1,c2,c3⟩:=hc (9-off) hj (by grind);obtain⟨kn,lD⟩:=hT.nine;obtain⟨c',d1,d2,_⟩:=l2 (9-off) _ hj (by grind) (by rw[ho];exact lD);rw[c1]at d1;simp only[ae]at d1;subst d1;obtain⟨cap,h⟩:=h;cases h with
  |emp=>grind
  |sl e rows b pO cap cs el fr val e0 gr hb cI cP dq oN hk hv hr hs bA gA fB hd=>have pY:=(hd rfl i dW).2.2;have Fh:=hv i 9 dW (by omega);rw[ho,jA hb,<-ht,Fh]at c2;simp only[ae]at c2;subst c2;obtain⟨k1,n1,rfl,hn⟩:=c3.nz ⟨_,d2⟩ pY;refine⟨k1,n1,?_,hn⟩;grind
 ·exact At.RB hT hi al cz sH h dW off n uO hw
def RF (ann:amU) (s:Nat):Option Nat:=(ann.find? λp=>p.1==s+327680).map (·.2)
def hY (ann:amU) (o:Oper):Option Nat:=
 match o.op with
 | .load _ _=>(match o.dst with|some d=>RF ann d|none=>none)
 | .store _ (.tmp s) _=>RF ann s
 |_=>none
def St.mark (st:St) (g:Nat) (k:Int):St:=st.put (some g) (.one (.dn (k+1)))
def St.iI (st:St) (g:Nat):Option Int:=match st.get g with| .one (.dn k)=>some k|_=>none
theorem aM.RG {cx:Cx} {st:St} {a:Act} (h:aM T cx E st a w) {t:Nat} {s:S} {u:Value} (ht:a.tmps[t]?=some u) (hs:RS T E w st.vw s u):aM T cx E (st.put (some t) s) a w:=by
 have:=h.put (some t) (s:=s) (v:=u) hs;have he:a.put (some t) u=a:=by
  cases a with
  |mk tmps defers=>
   simp only[Act.put];congr 1;grind
 grind
theorem aM.mark {cx:Cx} {st:St} {a:Act} (h:aM T cx E st a w) {g i:Nat} {k:Int} (hg:st.iI g=some k) (rh:(i:Int)=k) (hm:i+1<=cM) (hd:sm E.φ w E.fo.1 (E.fo.2+i*20)):aM T cx E (st.mark g k) a w:=by
 unfold St.iI at hg;split at hg
 ·rename_i k' hs;simp only[ae]at hg;subst hg;have aj:g<st.aq.length:=by
   rcases aT g st.aq.length with h'|h'
   ·omega
   ·simp[St.get,aZ,aW h']at hs
  have rl:st.aq[g]?=some (.one (.dn k')):=by simp only[St.get,aZ,aP aj,fh]at hs;rw[aP aj,hs]
  have hu:a.tmps[g]?=some (a.tmps[g]'(by rw[h.len];omega)):=im _;obtain⟨h1,_,h2⟩:=h.aq g _ _ rl hu;refine h.RG hu ⟨h1,⟨by omega,by omega⟩,λj hj=>?_⟩;grind
 grind
theorem At.iI (hT:cr P T) (hi:HI T E w) (al:T 1053≠[]) {rows:Y9} {b ob i:Nat} (h:At T E.φ w 1053 rows b ob) (dW:i<rows.length) {u:Value} (hu:w.cell? ⟨b,ob+i*20+9,none⟩=some u) (hn:wi u):sm E.φ w b (ob+i*20):=by
 obtain⟨pZ,_⟩:=ze hT al;obtain⟨cap,h⟩:=h;cases h with
 |emp=>grind
 |sl e rows b off cap cs el fr val e0 gr hb cI cP dq hlen hk hv hr hs hl gA fB hd=>
  have h0:e0=1053:=hs.eq (by decide);subst h0;have iE:kk T 1053 1053 ob=1053*4096+ob%20:=by unfold kk;rw[pZ]
  have h3:(i+1)*20<=rows.length*20:=eh _ dW;rw[iE,pZ]at cI;have hz:=(hi.zero b (1053*4096+ob%20) (by rw[show(1053*4096+ob%20)/4096=1053 by omega];rfl) (by omega)).1;have hz:ob%20=0:=by omega
  rw[hz,jy]at cI;exact⟨by omega,by grind,u,hu,hn⟩
def uP (P:Program) (T:ay) (mk:amR) (st:St) (d:amR) (t:Nat) (x:S):bl:=
 match x with
 | .one (.bz e rows i off)=>
  if(bY e||decide (2000<=e))=true/\off+(T t).length<=(T e).length/\(T t).isEmpty=false then
   (match kq P t with
   |some true=> .call True (List C) (pX T e off (T t).length) λfs=>st.put d (.agg (mc rows i fs off 0 (((T e).drop off).take (T t).length)))
   |some false=>(match(T e)[off]?with
    |some k=>
     (match Nat.beq e 1053&&Nat.beq off 9,mk with
     |true,some g=>
      (match st.iI g with
      |some m=> .call ((i:Int)=m) (List C) (pX T e off 1) λfs=>(match decide (cD (fs.getD 0 .any)=0)with|true=>st|false=>st.mark g m).put d (.one (pW rows i fs off 0 k))
      |none=> .bad)
     |_,_=> .call True (List C) (pX T e off 1) λfs=>st.put d (.one (pW rows i fs off 0 k)))
    |none=> .bad)
   |none=> .bad)
  else .bad
 |_=> .bad
def jb (ann:amU) (d:amR):Bool:=
 match d with
 |some d=>ann.any λp=>p.1==d+196608
 |none=>false
theorem abF (hT:cr P T) {mk:amR} {cx:Cx} {st:St} {a:Act} {o:Oper} {Q:Exit->Act->World->Prop} {K:amX} (h:aM T cx E st a w) {t:Nat} {x:Operand} (ho:o.op= .load t x)
 (hk:(uP P T mk st o.dst t (ev st x)).wp K):o.wp P a w (iF T cx K) Q:=by
 unfold uP at hk;split at hk
 ·rename_i e rows i off hx;have pQ:=dy h x;rw[hx]at pQ;obtain⟨b,ob,cH,hi,hu,hI⟩:=pQ;split at hk
  ·rename_i hc;obtain⟨hw,uO,kc⟩:=hc;have kc:T t≠[]:=by simpa using kc
   simp only[iT,eN]at hw;have sH:1000<=e:=by rcases hw with hw|hw;(simp[bY]at hw;omega);omega
   have Fi:0<(T t).length:=lT.2 kc;have al:T e≠[]:=λhe=>by grind
   have cells:∀(n:Nat) (fs:amS),off+n<=(T e).length->(∀j,j<n->(T e)[off+j]?=some .any->∃c u,fs[j]?=some c/\w.cell? ⟨b,ob+i*(T e).length+(off+j),none⟩=some u/\aG T E.φ w c u)->
    ∀(j:Nat) k,j<n->(T e)[off+j]?=some k->∃u,w.cell? ⟨b,ob+i*(T e).length+off+j,none⟩=some u/\RX T E w st.vw (pW rows i fs off j k) u:=λn fs hn dM j k hj bV=>by
    by_cases BX:k= .any
    ·subst BX;obtain⟨c,u,c1,c2,c3⟩:=dM j hj bV;refine⟨u,by grind,?_⟩;show aG T E.φ w (fs.getD j .any) u;grind
    ·obtain⟨u,u1,u2⟩:=cH.load hi bV;refine⟨u,by grind,?_⟩;cases k<;>first|exact absurd rfl BX|exact u2
   split at hk
   ·rename_i gm;obtain⟨fs,hp,dM⟩:=cH.RD hT h.hi al sH hi off (T t).length uO hw;have hk:=hk.2 fs hp;obtain⟨inf,z,d,JG,jY,cf,_⟩:=hT.uk (ER gm) kc;have hd:mT d=true:=Jx gm jY;have fp:∀j,∃u,j<(T t).length->w.cell? ⟨b,ob+i*(T e).length+off+j,none⟩=some u/\∀k,(T e)[off+j]?=some k->RX T E w st.vw (pW rows i fs off j k) u:=λj=>by
     by_cases hj:j<(T t).length
     ·have iB:(T e)[off+j]?=some ((T e)[off+j]'(by omega)):=aP (by omega);obtain⟨u,u1,u2⟩:=cells _ fs uO dM j _ hj iB;grind
     grind
    obtain⟨f,hf⟩:=PU fp;refine kQ (v:= .agg ((List.range (T t).length).map f).toArray) ?_ ⟨_,hk,E,h.put o.dst ⟨_,rfl,?_⟩⟩
    ·have ep:(Instr.loadAt t (.pointer (some ⟨b,ob+i*(T e).length+off,none⟩))).run P w= .ok (.agg ((List.range (T t).length).map f).toArray) w:=by
      refine run_loadAt_mid w b _ t _ d (λj v hj=>?_) jY (by assumption) (by grind);rw[bP]at hj;rcases aT j (T t).length with aj|qS
      ·grind
      ·grind
     simp[execOp,ho,hu,ep]
    ·have alZ:(((T e).drop off).take (T t).length).length=(T t).length:=by simp;omega
     refine⟨by simp[Ry];omega,λj y v hy hv=>?_⟩;rw[Rx,eI]at hy;grind
   ·rename_i gm;split at hk
    ·rename_i k bV;obtain⟨fs,hp,dM⟩:=cH.RD hT h.hi al sH hi off 1 (by omega) hw;obtain⟨u,u1,u2⟩:=cells 1 fs (by omega) dM 0 k (by omega) bV;have ep:(Instr.loadAt t (.pointer (some ⟨b,ob+i*(T e).length+off,none⟩))).run P w= .ok u w:=by
      unfold kq at gm;split at gm
      ·rename_i d jY;simp only[ae]at gm;exact JE (EP jY).1 gm u1
      ·grind
     have fin:∀st1,aM T cx E st1 a w->st1.vw=st.vw->K (st1.put o.dst (.one (pW rows i fs off 0 k)))->o.wp P a w (iF T cx K) Q:=λst1 h1 hv hk=>
      kQ (v:=u) (by simp[execOp,ho,hu,ep]) ⟨_,hk,E,h1.put o.dst (by rw[hv];exact RS.gN u2)⟩
     split at hk
     ·rename_i g hb;split at hk
      ·rename_i m hm;obtain⟨abG,hk⟩:=hk;have dG:=hk fs hp;clear hk;dsimp only at dG;simp only[aB]at hb;have he:=bt hb.1;have abH:=bt hb.2;split at dG
       ·grind
       ·rename_i hz;have hz:cD (fs.getD 0 .any)≠0:=by simpa using hz
        subst he;subst abH;obtain⟨pZ,_,_,_,E9⟩:=ze hT al;obtain⟨c,u',c1,c2,c3⟩:=dM 0 (by omega) E9;obtain⟨kn,lD⟩:=hT.nine;obtain⟨c',d1,d2,_⟩:=hp.cell 0 _ (by omega) E9 lD;rw[c1]at d1;simp only[ae]at d1;subst d1;rw[aZ,c1]at hz;have pY:wi u':=by
         cases c3<;>first|cases d2|skip
         exact⟨_,_,rfl,hz⟩
        refine fin (st.mark g m) (h.mark hm abG (by have:=cH.len;omega) ?_) rfl dG;rw[hI rfl];rw[pZ]at c2;exact cH.iI hT h.hi al hi c2 pY
      ·exact hk.elim
     ·exact fin st h rfl (hk.2 fs hp)
    grind
   ·exact hk.elim
  ·exact hk.elim
 ·exact hk.elim
def jn (T:ay) (mk:amR) (st:St) (d:amR) (t:Nat) (x v:S):bl:=
 match d,x,v.cells with
 |none, .one (.bz e _ i off),some xs=>
  (match dh (base e),du (((T (base e)).drop off).take (T t).length) xs with
  |some (_,gs),some r=>
   if bY e=true/\(off,(T t).length)∈gs/\t<1000/\(T t).isEmpty=false/\(T (src e)).isEmpty=false then
    (match Nat.beq (src e) 1053&&Nat.beq off 9,mk with
    |false,_=> .ck (T.G (src e) off r) st
    |true,none=> .ck (T.G (src e) off r/\pD r) st
    |true,some g=>(match st.iI g,Nat.beq e 1053 with|some k,true=> .ck (T.G (src e) off r/\pD r/\(i:Int)=k) (st.mark g k)|_,_=> .bad))
   else .bad
  |_,_=> .bad)
 |_,_,_=> .bad
def Fj:S->Bool
 | .one (.bz _ _ _ _)=>true
 |_=>false
theorem RH:∀{ks:amQ} {xs:amT} {r:amS},du ks xs=some r->xs.length=r.length
 |[],[],r,h=>by simp[du]at h;grind
 |[],_::_,r,h=>by simp[du]at h
 |_::_,[],r,h=>by simp[du]at h
 |k::ks,x::xs,r,h=>by
  simp only[du]at h;split at h
  ·rename_i c r' h1 h2;simp only[ae]at h;subst h;simp[RH h2]
  grind
theorem abI (hT:cr P T) {cx:Cx} {st:St} {a:Act} (h:aM T cx E st a w) {t e:Nat} {rows:Y9} {b ob i off:Nat} {v:Value} {r:amS} {n0:Nat} {gs:amU}
 (cH:At T E.φ w e rows b ob) (hi:i<rows.length) (cz:e≠1553) (hs:bY e=true) (hl:dh (base e)=some (n0,gs)) (hg:(off,(T t).length)∈gs) (ht:t<1000) (kc:T t≠[]) (al:T e≠[])
 (r1:r.map C.kd=((T (base e)).drop off).take (T t).length) (r2:∀(j:Nat) c,r[j]?=some c->∃u,v.cells.toList[j]?=some u/\aG T E.φ w c u) (cf:v.cells.size=(T t).length) (mX:∀u∈v.cells.toList,u.oneCell'=true)
 (hG:T.G e off r) (pY:e=1053->off=9->pD r):
 ∃w',(Instr.storeAt t (.pointer (some ⟨b,ob+i*(T e).length+off,none⟩)) v).run P w= .ok () w'/\aM T cx E st a w'/\(e=1053->off=9->sm E.φ w' b (ob+i*20)):=by
 have B9:e<2000:=by simp[bY]at hs;omega
 have BM:1000<=e:=by simp[bY]at hs;omega
 obtain⟨cap,jV⟩:=cH;cases jV with
 |emp=>grind
 |sl e rows b pO cap cs el fr val e0 gr hb cI cP dq hlen iE al0 bR jZ bA gA fB Fk=>
 have J0:e0=e:=(jZ.eq B9).trans (sk cz);subst J0;obtain⟨BT,g1,g2,g3⟩:=hT.whole e0 BM al (.inr hs);rw[g1]at hl;simp only[ae,bT]at hl;obtain⟨rfl,rfl⟩:=hl;have hO:0<(T e0).length:=lT.2 al;have hdiv:kk T e0 e0 ob/4096=e0/\kk T e0 e0 ob%4096=ob%(T e0).length:=by have:ob%(T e0).length<4096:=dO (mI _ hO) (hT.short e0);unfold kk;omega
 have h3:(i+1)*(T e0).length<=rows.length*(T e0).length:=eh _ hi;have abJ:rows.length*(T e0).length<=cap*(T e0).length:=eh _ cP;rw[en,ED]at h3;have hp:0<E.φ b (kk T e0 e0 ob):=by omega
 obtain⟨z1,z2,z3,Qx,al1,z4⟩:=h.hi.zero b _ (by grind) hp;rw[hb]at z4;simp only[ae,Obj.cells.injEq]at z4;obtain⟨rfl,rfl,rfl⟩:=z4;rw[hdiv.2]at z1;have hq:=mod_zero z1;have abK:kk T e0 e0 ob=e0*4096:=by simp[kk,z1]
 rw[abK]at cI hp z2;have EX:=g2 off _ hg;have ep:=Q8 (P:=P) hT (t:=t) ht kc hb (v:=v) cf mX (off:=ob+i*(T e0).length+off) (by omega);generalize l5:v.cells.toList=vs at*;have Ke:vs.length=(T t).length:=by rw[<-l5];simpa using cf
 generalize abL:ob+i*(T e0).length+off=dD at*;have ma:∀q,q<(T t).length->dD+q=(ob/(T e0).length+i)*(T e0).length+(off+q):=λq _=>by grind
 have BW:∀(A B:Nat),B<(T e0).length->(A*(T e0).length+B)%(T e0).length=B/\(A*(T e0).length+B)/(T e0).length=A:=λA B hB=>by
  constructor
  ·rw[Bm,Zv,Bj hB]
  ·rw[Bm,Nat.add_mul_div_right _ _ hO,EH hB,eI]
 have abM:∀q,q<(T t).length->mP (e0*4096) (dD+q)=true:=λq ku=>by have hm:=(BW (ob/(T e0).length+i) (off+q) (by omega)).1;rw[<-ma q ku]at hm;have h1:e0*4096/4096=e0:=sj _ (by decide);simp only[mP,h1,hs,cJ,g1,aB,eN,ud];exact⟨by omega,(off,(T t).length),hg,by omega,by omega⟩
 have hm:dQ E.φ w E.φ (w.setCells b dD vs):=by
  refine⟨λ_ _=>bh _,by rw[su];omega,λj bU iD fr hj=>?_⟩;by_cases ej:j=b
  ·subst ej;rw[hb]at hj;simp only[ae,Obj.cells.injEq]at hj;obtain⟨rfl,rfl,rfl⟩:=hj;refine⟨_,qR _ vs _ w hb,oJ _ _ _,λk p ja=>?_⟩;by_cases ek:k=e0*4096
   ·subst ek;by_cases gE:dD<=p/\p<dD+vs.length
    ·have:=sr vs dD cs (p-dD) (by omega) (by omega);rw[show dD+(p-dD)=p by omega]at this;have aj:p-dD<vs.length:=by omega
     have h1:vs[p-dD]?=some vs[p-dD]:=aP aj;refine .inr ⟨?_,vs[p-dD],by grind,mX _ (fz aj),λhz _ _ _=>?_⟩
     ·have:=abM (p-dD) (by omega);rwa[show dD+(p-dD)=p by omega]at this
     ·simp only[Bu,aB]at hz;have z5:=bt hz.1;have z6:=bt hz.2;have zf:e0=1053:=by omega
      obtain⟨pZ,wC,y1,y2,_⟩:=ze hT (by grind);have cw:=hg;rw[zf]at g1;have Kf:dh 53=some ((T 1053).length,BT):=g1;rw[y1]at Kf;simp only[ae,bT]at Kf;rw[<-Kf.2,y2]at cw;have h9:off=9/\p-dD=0:=by have jX:=ma (p-dD) (by omega);rw[show dD+(p-dD)=p by omega,zf,pZ]at jX;simp only[az,bT,bL,bM]at cw;omega
      obtain⟨k1,n1,q7,hn⟩:=pY zf h9.1;obtain⟨u,u1,u2⟩:=r2 0 _ q7;have:vs[p-dD]=u:=by
       have abN:vs[p-dD]?=some u:=by rw[h9.2];exact u1
       exact lR (h1.symm.trans abN)
      rw[this];cases u2;exact⟨k1,n1,rfl,hn⟩
    ·exact .inl (oK vs dD cs p (by omega))
   grind
  ·exact⟨bU,by rw[jU _ _ ej];omega,rfl,λ_ _ _=> .inl rfl⟩
 have hU:=Bz b vs dD w;have jB:=qR b vs dD w hb;have J7:∀(id:Nat) l,st.boxes[id]?=some (some l)->l≠[]->E.β id≠b:=λid l hl hn ej=>by have:=(h.boxes id l hl hn).1;grind
 have ir:HI T E (w.setCells b dD vs):=by
  refine⟨λj k bV ja=>?_,λj e1 n gs s m i' he hl cw cE=>?_⟩
  ·obtain⟨y1,y2,y3,bU,iD,y4⟩:=h.hi.zero j k bV ja;refine⟨y1,y2,y3,?_⟩;by_cases ej:j=b
   ·grind
   ·exact⟨bU,iD,by rw[jU _ _ ej];omega⟩
  ·obtain⟨r0,q1,q2,q3⟩:=h.hi.rows j e1 n gs s m i' he hl cw cE;by_cases ej:j=b
   ·subst ej;have hz:n≠0:=by rintro rfl;unfold dh at hl;split at hl<;>simp at hl
    have al2:0<(i'+1)*n:=tZ (vZ _) (sg hz);by_cases ee:e1=e0
    ·subst ee;have dc:=hl;rw[g1]at hl;simp only[ae,bT]at hl;obtain⟨rfl,rfl⟩:=hl;have al3:=g2 s m cw;by_cases sK:i'=ob/(T e1).length+i/\(s,m)=(off,(T t).length)
     ·obtain⟨rfl,RJ⟩:=sK;simp only[bT]at RJ;obtain⟨rfl,rfl⟩:=RJ;refine⟨r,r1,hG,λq c zg=>?_⟩;obtain⟨u,u1,u2⟩:=r2 q c zg;have Kg:q<vs.length:=by
       rcases aT q vs.length with h'|h'
       ·omega
       ·grind
      refine⟨u,?_,u2.mono hm⟩;rw[jA jB,show(ob/(T e1).length+i)*(T e1).length+s+q=dD+q by grind,sr vs dD cs q (by omega) Kg];omega
     ·refine⟨r0,q1,q2,λq c zg=>?_⟩;obtain⟨u,u1,u2⟩:=q3 q c zg;have al4:q<m:=by
       have h1:(r0.map C.kd).length<=m:=by rw[q1];simp;omega
       have h2:q<r0.length:=by
        rcases aT q r0.length with h'|h'
        ·omega
        ·grind
       simp at h1;omega
      refine⟨u,?_,u2.mono hm⟩;rw[jA jB,oK vs dD cs _ ?_,<-jA hb]
      ·omega
      ·rcases aT (i'*(T e1).length+s+q) dD with h1|h1
       ·omega
       ·right;rcases aT (i'*(T e1).length+s+q) (dD+vs.length)with h2|h2
        ·exfalso;have jX:=ma (i'*(T e1).length+s+q-dD) (by omega);rw[show dD+(i'*(T e1).length+s+q-dD)=i'*(T e1).length+(s+q)by omega]at jX;have a1:=BW i' (s+q) (by omega);have a2:=BW (ob/(T e1).length+i) (off+(i'*(T e1).length+s+q-dD)) (by omega);rw[jX]at a1;have b1:=a1.1.symm.trans a2.1;have b2:=a1.2.symm.trans a2.2;refine sK ⟨b2,?_⟩;exact Rz g1 cw hg (j:=s+q) (by omega) (by omega) (by omega) (by omega)
        omega
    ·have:=z2 (e1*4096) (λh'=>ee (by omega));omega
   ·refine⟨r0,q1,q2,λq c zg=>?_⟩;obtain⟨u,u1,u2⟩:=q3 q c zg;exact⟨u,by simpa[World.cell?,jU _ _ ej]using u1,u2.mono hm⟩
 have Kh:=aM.step (gen':=st.gen) h (E':=E) (w':=w.setCells b dD vs)
  ⟨hm,λj hj=>⟨hj,rfl,rfl,λ_=>⟨rfl,rfl⟩⟩,λ_=>bh _,λj g _ hg _=>⟨hg,rfl⟩,rfl⟩
  (λid l hl hn=>⟨rfl,jU _ _ (J7 id l hl hn) _ _ _⟩)
  ⟨by rw[hU.1];exact h.ext.os,by rw[hU.2.1];exact h.ext.tape,by rw[hU.2.2];exact h.ext.output,h.ext.fo,h.ext.mono.trans hm,λj hj hf=>by
   obtain⟨f1,f2,f3⟩:=h.ext.dB j hj hf;refine⟨λhw=>?_,f2,f3⟩;have ej:j≠b:=by rintro rfl;exact hw ⟨e0*4096,by grind,by grind⟩
   rw[jU _ _ ej];grind,λj hj=>by rw[su]at hj;exact h.ext.fresh j hj⟩ (λ_ _=>⟨rfl,rfl⟩) ir
 refine⟨w.setCells b dD vs,ep,Kh,λzf h9=>?_⟩;subst zf;subst h9;obtain⟨pZ,_⟩:=ze hT al;obtain⟨k1,n1,q7,hn⟩:=pY rfl rfl;obtain⟨u,u1,u2⟩:=r2 0 _ q7;have Kg:0<vs.length:=by
  rcases aT 0 vs.length with h'|h'
  ·omega
  ·grind
 rw[pZ]at abL z1 h3 cI dq abJ;refine⟨by omega,by grind,u,?_,?_⟩
 ·rw[jA jB,show ob+i*20+9=dD+0 by omega,sr vs dD cs 0 (by omega) Kg];omega
 ·cases u2;exact⟨k1,n1,rfl,hn⟩
theorem abO (hT:cr P T) {mk:amR} {cx:Cx} {st:St} {a:Act} {o:Oper} {Q:Exit->Act->World->Prop} {K:amX} (h:aM T cx E st a w) {t:Nat} {x v:Operand} (ho:o.op= .store t x v)
 (hk:(jn T mk st o.dst t (ev st x) (ev st v)).wp K):o.wp P a w (iF T cx K) Q:=by
 unfold jn at hk;split at hk
 ·rename_i e rows i off xs hd hx hv;have pQ:=dy h x;rw[hx]at pQ;obtain⟨b,ob,cH,hi,hu,hI⟩:=pQ;split at hk
  ·rename_i n gs r hl hr;split at hk
   ·rename_i hc;obtain⟨hs,hg,ht,kc,al⟩:=hc;have al:T (src e)≠[]:=by simpa using al
    have kc:T t≠[]:=by simpa using kc
    have Fl:=BE hv (dy h v);obtain⟨r1,r2⟩:=yO hr Fl;have RK:At T E.φ w (src e) rows b ob/\(T (src e)).length=(T e).length:=by
     by_cases h1:e=1553
     ·subst h1;exact⟨cH.RA hT,by rw[hT.done];rfl⟩
     ·rw[sk h1];grind
    have zh:src e≠1553:=by
     by_cases h1:e=1553
     ·subst h1;decide
     ·rw[sk h1];omega
    have wX:bY (src e)=true:=by
     by_cases h1:e=1553
     ·subst h1;rfl
     ·rw[sk h1];omega
    have cf:(a.eval v).cells.size=(T t).length:=by
     have h1:(r.map C.kd).length=(T t).length:=by have hw:=hT.whole (src e) (by simp[bY]at wX;omega) al (.inr wX);obtain⟨BT,g1,g2,_⟩:=hw;rw[Bt]at g1;rw[g1]at hl;simp only[ae,bT]at hl;obtain⟨_,rfl⟩:=hl;have:=g2 _ _ hg;rw[r1];have:=(hT.low _ al).2;rw[Bt]at this;simp;omega
     have h2:=RH hr;have:=Fl.1;simp at this h1;omega
    have mX:∀u∈(a.eval v).cells.toList,u.oneCell'=true:=by
     intro u hu;obtain⟨j,hj⟩:=jP hu;have aj:j<xs.length:=by
      rcases aT j xs.length with h'|h'
      ·omega
      ·rw[aW (by rw[Fl.1];omega)]at hj;grind
     exact(Fl.2 j _ u (aP aj) hj).jW
    have core:T.G (src e) off r->(src e=1053->off=9->pD r)->∃w',(execOp a.eval o).run P w= .ok .skip w'/\aM T cx E st a w'/\(src e=1053->off=9->sm E.φ w' b (ob+i*20)):=λhG pY=>by obtain⟨w',q1,q2,q3⟩:=abI hT h RK.1 hi zh wX (by rw[Bt];exact hl) hg ht kc al (by rw[Bt];omega) r2 cf mX hG pY;refine⟨w',?_,q2,q3⟩;rw[RK.2]at q1;simp[execOp,ho,hu,q1]
    split at hk
    ·rename_i hb;obtain⟨hG,hk⟩:=hk;obtain⟨w',q1,q2,_⟩:=core hG λh1 h2=>by simp_all
     exact E5 q1 ⟨_,hk,E,by rw[hd];exact q2⟩
    ·obtain⟨⟨hG,hn⟩,hk⟩:=hk;obtain⟨w',q1,q2,_⟩:=core hG λ_ _=>hn;exact E5 q1 ⟨_,hk,E,by rw[hd];exact q2⟩
    ·rename_i g hb;split at hk
     ·rename_i k Fk he;have he:e=1053:=bt he;obtain⟨⟨hG,hn,rh⟩,hk⟩:=hk;obtain⟨w',q1,q2,q3⟩:=core hG λ_ _=>hn;simp only[aB]at hb;have h3:=q3 (bt hb.1) (bt hb.2);have hf:=hI he;exact E5 q1 ⟨_,hk,E,by rw[hd];exact q2.mark Fk rh (by have:=cH.len;omega) (by grind)⟩
     ·exact hk.elim
   ·exact hk.elim
  ·exact hk.elim
 ·exact hk.elim
end Go.Pv
