/- A part of the walk below the law: what is proved here is used by later parts; no further condition. -/
import Derived.Carry
import Derived.Maps.AppendAt
import Derived.OpenShut
import Derived.ProofKit
import Derived.WalkKit
import Derived.WalkLawsBesides
import Derived.WalkSpells
set_option linter.unusedVariables false
set_option linter.unusedSimpArgs false
set_option maxRecDepth 100000
set_option maxHeartbeats 20000000
namespace Go.Proofs.YtdjdpeadohobmaaGreatDoor
section
theorem oQ {p:Prop} (h:p:=by omega):p:=h
theorem dQ {p:Prop} (h:p:=by decide):p:=h
theorem sQ {p:Prop} (h:p:=by simp):p:=h
theorem kQ {p:Prop} (h:p:=by kernel_rfl):p:=h
theorem rQ {p:Prop} (h:p:=by rfl):p:=h
def Hid (p:Prop):Prop:=p
theorem Hid.o {p:Prop} (h:Hid p):p:=h
theorem zf:type_of% @List.getElem?_cons_zero:=@List.getElem?_cons_zero
theorem zh:type_of% @List.setIfInBounds_toArray:=@List.setIfInBounds_toArray
theorem zi:type_of% @List.getElem?_cons_succ:=@List.getElem?_cons_succ
theorem zk:type_of% @List.set_cons_zero:=@List.set_cons_zero
theorem zl:type_of% @List.set_cons_succ:=@List.set_cons_succ
theorem zm:type_of% @Nat.le_refl:=@Nat.le_refl
theorem zn:type_of% @Go.RowKit.Below.refl:=@Go.RowKit.Below.refl
theorem zo:type_of% @Array.getElem?_eq_some_iff:=@Array.getElem?_eq_some_iff
theorem zq:type_of% @Go.World.block_lt_of_cell?:=@Go.World.block_lt_of_cell?
theorem zu:type_of% @List.getElem?_eq_getElem:=@List.getElem?_eq_getElem
theorem zw:type_of% @List.length_append:=@List.length_append
theorem zx:type_of% @Nat.lt_of_lt_of_le:=@Nat.lt_of_lt_of_le
theorem zy:type_of% @List.take_of_length_le:=@List.take_of_length_le
theorem zA:type_of% @List.length_cons:=@List.length_cons
theorem zB:type_of% @List.nil_append:=@List.nil_append
theorem zC:type_of% @Nat.le_trans:=@Nat.le_trans
theorem zD:type_of% @List.length_map:=@List.length_map
theorem zF:type_of% @List.length_take:=@List.length_take
theorem zG:type_of% @Go.IntKind.wrap_i64:=@Go.IntKind.wrap_i64
theorem zH:type_of% @List.mem_cons:=@List.mem_cons
theorem zI:type_of% @Go.RowKit.Below.heap_setCell:=@Go.RowKit.Below.heap_setCell
theorem zJ:type_of% @Array.replicate_succ:=@Array.replicate_succ
theorem zK:type_of% @Array.replicate_zero:=@Array.replicate_zero
theorem zL:type_of% @List.getElem?_eq_some_iff:=@List.getElem?_eq_some_iff
theorem zM:type_of% @List.append_toArray:=@List.append_toArray
theorem zN:type_of% @List.length_nil:=@List.length_nil
theorem zO:type_of% @List.not_mem_nil:=@List.not_mem_nil
theorem zP:type_of% @List.append_assoc:=@List.append_assoc
theorem zQ:type_of% @List.size_toArray:=@List.size_toArray
theorem zR:type_of% @List.length_drop:=@List.length_drop
theorem zS:type_of% @Go.World.cell?_of_block:=@Go.World.cell?_of_block
theorem zT:type_of% @List.push_toArray:=@List.push_toArray
theorem zU:type_of% @List.cons_append:=@List.cons_append
theorem zV:type_of% @List.mem_singleton:=@List.mem_singleton
theorem zW:type_of% @List.map_append:=@List.map_append
theorem zX:type_of% @List.eq_nil_of_length_eq_zero:=@List.eq_nil_of_length_eq_zero
theorem zY:type_of% @List.length_singleton:=@List.length_singleton
theorem zZ:type_of% @List.take_succ_eq_append_getElem:=@List.take_succ_eq_append_getElem
theorem z_:type_of% @List.getD_eq_getElem?_getD:=@List.getD_eq_getElem?_getD
theorem qb:type_of% @List.getElem?_map:=@List.getElem?_map
theorem qc:type_of% @List.length_replicate:=@List.length_replicate
theorem qd:type_of% @List.getElem?_append_right:=@List.getElem?_append_right
theorem qg:type_of% @List.mem_append:=@List.mem_append
theorem qh:type_of% @List.getElem?_take:=@List.getElem?_take
theorem qj:type_of% @List.mem_map:=@List.mem_map
theorem ql:type_of% @Nat.zero_le:=@Nat.zero_le
theorem qm:type_of% @List.getElem_mem:=@List.getElem_mem
theorem qo:type_of% @List.getElem?_append_left:=@List.getElem?_append_left
theorem qp:type_of% @Go.Result.andThen_ok:=@Go.Result.andThen_ok
theorem qw:type_of% @Array.getElem?_toList:=@Array.getElem?_toList
theorem qx:type_of% @Nat.zero_add:=@Nat.zero_add
theorem qy:type_of% @List.map_cons:=@List.map_cons
theorem qz:type_of% @List.getElem?_eq_none:=@List.getElem?_eq_none
theorem qA:type_of% @Option.map_some:=@Option.map_some
theorem qB:type_of% @List.take_append_of_le_length:=@List.take_append_of_le_length
theorem qC:type_of% @List.mem_cons_of_mem:=@List.mem_cons_of_mem
theorem qD:type_of% @List.append_nil:=@List.append_nil
theorem qE:type_of% @Go.Sem.run_bind:=@Go.Sem.run_bind
theorem qF:type_of% @List.getElem?_replicate:=@List.getElem?_replicate
theorem qG:type_of% @List.ext_getElem?:=@List.ext_getElem?
theorem qH:type_of% @List.getElem?_set_ne:=@List.getElem?_set_ne
theorem qJ:type_of% @List.mem_cons_self:=@List.mem_cons_self
theorem qK:type_of% @List.map_nil:=@List.map_nil
theorem qL:type_of% @Go.Lib.cell_of_heap:=@Go.Lib.cell_of_heap
theorem qM:type_of% @Array.getElem?_eq_getElem:=@Array.getElem?_eq_getElem
theorem qN:type_of% @List.mem_of_find?_eq_some:=@List.mem_of_find?_eq_some
theorem qO:type_of% @List.drop_of_length_le:=@List.drop_of_length_le
theorem qP:type_of% @Nat.min_eq_left:=@Nat.min_eq_left
theorem qQ:type_of% @Nat.pow_le_pow_right:=@Nat.pow_le_pow_right
theorem qR:type_of% @List.mem_filter:=@List.mem_filter
theorem qU:type_of% @List.all_eq_true:=@List.all_eq_true
theorem qV:type_of% @List.getElem?_set_self:=@List.getElem?_set_self
theorem qW:type_of% @List.getElem?_range:=@List.getElem?_range
theorem qX:type_of% @Int.toNat_natCast:=@Int.toNat_natCast
theorem qY:type_of% @Int.emod_eq_of_lt:=@Int.emod_eq_of_lt
theorem qZ:type_of% @List.getElem?_toArray:=@List.getElem?_toArray
theorem q9:type_of% @Bool.eq_iff_iff:=@Bool.eq_iff_iff
theorem Bp:type_of% @Ne.symm:=@Ne.symm
theorem zab:type_of% @Bool.false_eq_true:=@Bool.false_eq_true
theorem zac:type_of% @List.map_toArray:=@List.map_toArray
theorem zad:type_of% @Bool.and_eq_true:=@Bool.and_eq_true
theorem zae:type_of% @List.take_length:=@List.take_length
theorem zaf:type_of% @Option.getD_some:=@Option.getD_some
theorem zah:type_of% @Go.World.size_alloc:=@Go.World.size_alloc
theorem Ug:type_of% @Nat.mul_one:=@Nat.mul_one
theorem zaj:type_of% @List.getElem_append_right:=@List.getElem_append_right
theorem zak:type_of% @List.take_append_drop:=@List.take_append_drop
theorem zal:type_of% @Go.RowKit.Below.heap_alloc:=@Go.RowKit.Below.heap_alloc
theorem Yw:type_of% @Nat.ne_of_gt:=@Nat.ne_of_gt
theorem Yx:type_of% @Nat.le_of_eq:=@Nat.le_of_eq
theorem zao:type_of% @List.mem_range:=@List.mem_range
theorem zaq:type_of% @List.mem_of_getElem?:=@List.mem_of_getElem?
theorem XO:type_of% @Nat.le_succ:=@Nat.le_succ
theorem zas:type_of% @Go.Maps.has_false_of_atKey:=@Go.Maps.has_false_of_atKey
theorem zat:type_of% @List.length_set:=@List.length_set
theorem zau:type_of% @Option.some.inj:=@Option.some.inj
theorem zav:type_of% @List.drop_replicate:=@List.drop_replicate
theorem zaw:type_of% @Go.World.cell?_alloc_mark:=@Go.World.cell?_alloc_mark
theorem zax:type_of% @Go.Sem.run_pure:=@Go.Sem.run_pure
theorem zay:type_of% @List.sum_cons:=@List.sum_cons
theorem zaz:type_of% @Nat.mod_eq_of_lt:=@Nat.mod_eq_of_lt
theorem zaA:type_of% @List.take_zero:=@List.take_zero
theorem zaB:type_of% @List.getElem?_drop:=@List.getElem?_drop
theorem zaC:type_of% @Int.emod_lt_of_pos:=@Int.emod_lt_of_pos
theorem zaD:type_of% @List.filter_append:=@List.filter_append
theorem zaE:type_of% @Classical.byContradiction:=@Classical.byContradiction
theorem zaF:type_of% @List.pairwise_append:=@List.pairwise_append
theorem zaG:type_of% @List.getElem_append_left:=@List.getElem_append_left
theorem zaH:type_of% @List.filterMap_cons:=@List.filterMap_cons
theorem zaI:type_of% @List.drop_succ_cons:=@List.drop_succ_cons
theorem zaJ:type_of% @List.getElem_map:=@List.getElem_map
theorem zaK:type_of% @UInt8.toNat_ofNat':=@UInt8.toNat_ofNat'
theorem zaL:type_of% @Nat.lt_or_ge:=@Nat.lt_or_ge
theorem zaM:type_of% @Nat.mul_comm:=@Nat.mul_comm
theorem zaN:type_of% @List.find?_eq_none:=@List.find?_eq_none
theorem zaO:type_of% @Go.Maps.has_true_of_atKey:=@Go.Maps.has_true_of_atKey
theorem zaP:type_of% @Int.emod_nonneg:=@Int.emod_nonneg
theorem zaQ:type_of% @List.sum_append:=@List.sum_append
theorem zaR:type_of% @Nat.add_assoc:=@Nat.add_assoc
theorem zaS:type_of% @Prod.mk.injEq:=@Prod.mk.injEq
theorem zaT:type_of% @List.filterMap_append:=@List.filterMap_append
theorem zaU:type_of% @Go.World.ownsRow_nil:=@Go.World.ownsRow_nil
theorem zaV:type_of% @List.take_add_one:=@List.take_add_one
theorem zaW:type_of% @List.getElem?_set:=@List.getElem?_set
theorem zaX:type_of% @List.flatMap_cons:=@List.flatMap_cons
theorem zaY:type_of% @List.nodup_append:=@List.nodup_append
theorem zaZ:type_of% @BitVec.ofInt_natCast:=@BitVec.ofInt_natCast
theorem za0:type_of% @List.mem_iff_getElem:=@List.mem_iff_getElem
theorem za1:type_of% @List.drop_drop:=@List.drop_drop
theorem za2:type_of% @List.drop_zero:=@List.drop_zero
theorem za3:type_of% @Nat.add_zero:=@Nat.add_zero
theorem za4:type_of% @Array.length_toList:=@Array.length_toList
theorem za5:type_of% @List.map_congr_left:=@List.map_congr_left
theorem za6:type_of% @List.flatMap_append:=@List.flatMap_append
theorem za7:type_of% @List.getElem_of_mem:=@List.getElem_of_mem
theorem za8:type_of% @List.range_succ:=@List.range_succ
theorem za9:type_of% @List.nodup_cons:=@List.nodup_cons
theorem za_:type_of% @BitVec.toNat_ofNat:=@BitVec.toNat_ofNat
theorem zba:type_of% @Nat.eq_zero_or_pos:=@Nat.eq_zero_or_pos
theorem zbb:type_of% @List.pairwise_cons:=@List.pairwise_cons
theorem zbc:type_of% @Nat.sub_self:=@Nat.sub_self
theorem zbd:type_of% @Bool.or_false:=@Bool.or_false
open Go.RowKit Go.WideShapes Go.ChangeShapes
def n8 (c:UInt8):Int:=(c.toNat:Int)
def n32 (x:BitVec 32):Int:=(x.toNat:Int)
theorem Sw (c:UInt8):0≤n8 c∧n8 c≤255:=by have:=c.toNat_lt;unfold n8;omega
theorem ag8 (x y:UInt8):n8 x=n8 y↔x=y:=by
 constructor
 ·intro h;apply UInt8.toNat_inj.1;unfold n8 at h;omega
 ·rintro rfl;rfl
theorem ag9 (x y:UInt8):(n8 x==n8 y)=(x==y):=by
 rw[q9,beq_iff_eq,beq_iff_eq,ag8]
theorem Yy {n:Int} (h:(Lit.int .u8 n).wf=true):∃c:UInt8,n=n8 c:=by
 have hb:0≤n∧n≤255:=by simpa[Lit.wf,IntKind.min,IntKind.max,IntKind.signed,IntKind.bits] using h
 refine⟨UInt8.ofNat n.toNat,?_⟩;unfold n8;rw[zaK];omega
theorem Al {n:Int} (h:(Lit.int .i64 n).wf=true): -9223372036854775808≤n∧n≤9223372036854775807:=by
 simpa[Lit.wf,IntKind.min,IntKind.max,IntKind.signed,IntKind.bits] using h
def ay (w:World) (a:Option Addr) (l:List UInt8):Prop:=
 ∃b off,(l≠[]→a=some ⟨b,off,none⟩)∧∀i,(h:i<l.length)→w.cell? ⟨b,off+i,none⟩=some (.int .u8 (n8 l[i]))
theorem ay.nil (w:World) (a:Option Addr):ay w a []:=⟨0,0,λh=>absurd rfl h,λ_ h=>absurd h sQ⟩
theorem ay.keep {w w':World} {a:Option Addr} {l:List UInt8} (h:ay w a l) (hk:∀p:Addr,p.block<w.heap.size→w'.cell? p=w.cell? p):ay w' a l:=by
 obtain⟨b,off,h1,h2⟩:=h;exact⟨b,off,h1,λi hi=>(hk _ (zq w _ (h2 i hi))).trans (h2 i hi)⟩
theorem ay.below {w w':World} {a:Option Addr} {l:List UInt8} (h:ay w a l) (hb:Below w.heap.size w w'):ay w' a l:=h.keep λ_ hp=>hb.cell hp
theorem ay.ji (w:World) (C:Array Value) (e:TypeId) (fr:Nat×Nat) (l:List UInt8) (h:C.toList=l.map (λc=>Value.int .u8 (n8 c))):
  ay (w.alloc (.cells C e fr)) (some ⟨w.heap.size,0,none⟩) l:=by
 refine⟨w.heap.size,0,λ_=>rfl,λi hi=>?_⟩;rw[qx,zaw];rw[←qw,h];simp[hi]
theorem ay.take {w:World} {a:Option Addr} {l:List UInt8} (h:ay w a l) (k:Nat):ay w a (l.take k):=by
 obtain⟨b,off,h1,h2⟩:=h;refine⟨b,off,λhn=>h1 (by rintro rfl;simp at hn),λi hi=>?_⟩;simp at hi;rw[h2 i oQ];simp
theorem ay.drop {w:World} {a:Option Addr} {l:List UInt8} (h:ay w a l) (k c:Nat) (hk:k≤l.length) (hc:l.length≤c):ay w (if c=k then a else a.map (·.add k)) (l.drop k):=by
 obtain⟨b,off,h1,h2⟩:=h;refine⟨b,off+k,λhn=>?_,λi hi=>?_⟩
 ·have bA:k<l.length:=by
   rcases zaL k l.length with h|h
   ·exact h
   ·exact absurd (List.drop_eq_nil_of_le h) hn
  rw[if_neg oQ,h1 (by rintro rfl;simp at bA)];unfold Addr.add
  split<;>simp_all
 ·simp at hi
  rw[zaR,h2 (k+i) oQ];simp
theorem Dh (n:Int) (K:Nat) (KI:Int) (hK:KI=(K:Int)) (bA:K<9223372036854775808):∃m:Nat,bits .and .i64 n KI=(m:Int)∧m≤K:=by
 subst hK;have h2:(BitVec.ofInt 64 n&&& BitVec.ofInt 64 (K:Int)).toNat≤K:=by
  rw[BitVec.toNat_and,zaZ,za_];refine zC Nat.and_le_right ?_;exact Nat.mod_le _ _
 refine⟨(BitVec.ofInt 64 n&&& BitVec.ofInt 64 (K:Int)).toNat,?_,h2⟩;show IntKind.i64.wrap ((BitVec.ofInt 64 n&&& BitVec.ofInt 64 (K:Int)).toNat:Int)=_;rw[zG];omega
theorem tN {P:Program} {t e s:TypeId} (ht:P.underlying t=some (.slice e)) (he:P.underlying e=some (.int .u8)) (hs:P.underlying s=some .string) (l:List UInt8) (n:Nat) (hl:l.length=n) (w:World) (a:Option Addr) (c:Nat) (hb:ay w a l):
  (convert t s (.slice a n c)).run P w=.ok (.string ⟨l.toArray⟩) w:=by
 subst hl;obtain⟨b,off,ha,hc⟩:=hb;cases a with
 |none=>
  have:l=[]:=by
   cases l with
   |nil=>rfl
   |cons x l=>cases ha sQ
  subst this;rw[run_convert_bytes_string w t s e none _ c ht he hs];rfl
 |some ad=>
  refine run_convert_bytes_back w t s e ad c l ht he hs λj hj=>?_;have hl:l≠[]:=by rintro rfl;simp at hj
  have:=ha hl;injection this with this;subst this;have h2:(⟨b,off,none⟩:Addr).add j=⟨b,off+j,none⟩:=by unfold Addr.add;split<;>simp_all
  rw[h2];exact hc j hj
theorem below_drewN {B:Nat} {a w:World} (h:Below B a w) (n:Nat):Below B a (w.drewN n):=⟨h.os,h.tape,h.output,h.size,h.block⟩
theorem U {p:Prop} (h:p):Hid p:=h
section
variable {H:Type} {enc:TypeId×Value→H} {P:Program}
theorem Dj {W:World} {t e:TypeId} {base:Nat} {v:Value} {d:DataW H} {p:List MemPlace} (ht:P.underlying t=some (.slice e)) (he:P.underlying e=some (.int .u8)) (hc:P.cellsOf e=1)
  (jy:Value.okWide P W .any base t v) (h:DataW.Trod enc P W 0 (λ_=>true) true t v d p):
  ∃(a:Option Addr) (l:List UInt8) (c:Nat),v=.slice a l.length c∧ay W a l∧l.length≤c∧c≤maxLen:=by
 obtain⟨a0,len,cap,rfl⟩:=okWide_slice ht jy;obtain⟨fuel,hf⟩:=h;rcases open_ints ht he hc hf with⟨vS,_⟩|⟨a,len',cap',zs,vS,_,hl,hm,hz,_,hcell,hwz⟩
 ·simp[Value.cells] at vS
  obtain⟨rfl,rfl,rfl⟩:=vS;exact⟨none,[],0,rfl,ay.nil _ _,sQ,by simp[maxLen]⟩
 ·simp[Value.cells] at vS
  obtain⟨rfl,rfl,rfl⟩:=vS;simp at hz;have lC:∀i,∃c:UInt8,zs.getD i 0=n8 c:=by
   intro i;by_cases hi:i<zs.length
   ·obtain⟨c,hc⟩:=Yy (hwz _ (qm hi))
    exact⟨c,by rw[←hc];simp[hi]⟩
   ·exact⟨0,by simp[qz (Nat.le_of_not_lt hi),n8]⟩
  refine⟨some a,(List.range len).map (λi=>(lC i).choose),cap,sQ,?_,by simpa using hl,hm⟩;by_cases h0:len=0
  ·subst h0;exact ay.nil _ _
  ·have hs:a.spot=none:=by
    have:=hcell 0 oQ;cases Bq:a.spot with
    |none=>rfl
    |some s=>
     simp only[World.cell?,Addr.add,if_true,Bq,Option.isSome_some] at this
     split at this<;>cases this
   refine⟨a.block,a.off,λ_=>by cases a;simp_all,λi hi=>?_⟩;simp at hi;have CJ:=hcell i oQ;rw[(lC i).choose_spec] at CJ;have ha:a.add i=⟨a.block,a.off+i,none⟩:=by
    unfold Addr.add
    split
    ·rename_i h;subst h;cases a;simp_all
    ·rfl
   rw[ha] at CJ;simpa using CJ
theorem vT (hl:laidOutB P=true) {W W':World} (hb:Below W.heap.size W W') {sp:Nat→Bool}:∀{ts:List TypeId} {vs:List Value} {ds:List (DataW H)} {ps:List MemPlace},
  (∀t∈ts,P.readableRec t=true∧t<P.types.size)→DataW.TrodAll enc P W 0 (λ_=>true) true ts vs ds ps→(∀x∈ps,x.block<W.heap.size)→(∀x∈ps,sp x.block=true)→
  DataW.TrodAll enc P W' 0 sp true ts vs ds ps
 |[],[],[],_,_,h,_,_=>h
 |t::ts,v::vs,d::ds,ps,hr,h,bA,Bq=>by
  obtain⟨p,q,h1,h2,rfl⟩:=h
  refine⟨p,q,WideElems.Trod_stays hl (hr t sQ).1 (hr t sQ).2 h1 (λx hx=>hb.same (bA x (by simp[hx]))) (λx hx=>Bq x (by simp[hx])),
   vT hl hb (λt ht=>hr t (by simp[ht])) h2 (λx hx=>bA x (by simp[hx])) (λx hx=>Bq x (by simp[hx])),rfl⟩
 |[],[],_::_,_,_,h,_,_=>h.elim
 |[],_::_,_,_,_,h,_,_=>h.elim
 |_::_,[],_,_,_,h,_,_=>h.elim
 |_::_,_::_,[],_,_,h,_,_=>h.elim
theorem LG {f:Func} {s:ChangeSpec} {W W':World} {args:Array Value} {ds gs:List (DataW H)} {before:List MemPlace} {tb:TypeId}
  (hl:laidOutB P=true) (Yz:f.params.toList.all (λt=>P.readableRec t&&decide (t<P.types.size))=true)
  (hv:s.vars=[]) (alv:f.resultTypes=#[tb]) (htb:P.underlying tb=some .bool)
  (hW:DataW.Whole enc P f.params.toList s.vars false W args.toList ds gs before)
  (lN:s.fn H (ds++gs)={results:=[.lit (.bool true)],args:=ds,vars:=[]})
  (hb:Below W.heap.size W W'):
  s.post enc P f false true false false W args (.bool true) W':=by
 have bA:∀p∈before,p.block<W.heap.size:=λp hp=>hW.lt p hp;have hold:∀p∈before,(λb=>decide (b<W.heap.size)) p.block=true:=λp hp=>by simpa using bA p hp
 have hW':=hW;obtain⟨p,q,hA,hV,rfl,hfz,_⟩:=hW;rw[hv] at hV;have Uh:gs=[]∧q=[]:=trodVars_none hV;obtain⟨rfl,rfl⟩:=Uh;have arT:∀t∈f.params.toList,P.readableRec t=true∧t<P.types.size:=λt ht=>by
  have:=qU.1 Yz t ht;simpa using this
 rw[qD] at*;refine⟨ds,[],p,[],p,[],by simpa using hW',?_,?_,?_,World.keptBut_mono (λx hx=>⟨hx,?_⟩) (hb.frame (· ∈p)),λh=>by cases h⟩
 ·rw[qD,lN]
  have hrl:(Value.bool true).resultList f.resultTypes.size=[.bool true]:=by rw[alv];rfl
  rw[alv] at*;exact trodAll_cons_mk (shut_bool htb true) trodAll_mk0
 ·rw[qD,lN]
  exact vT hl hb arT hA (λx hx=>bA x (by simpa using hx)) (λx hx=>hold x (by simpa using hx))
 ·rw[qD,lN,hv]
  rfl
 ·exact Or.inr (by simpa using hx)
end
end
section
open Go.RowKit
def aH (c:UInt8):Value:=.int .u8 (n8 c)
def gZ (w:World) (a:Option Addr) (xs:List Value):Prop:=
 ∃b off,(xs≠[]→a=some ⟨b,off,none⟩)∧∀i,(h:i<xs.length)→w.cell? ⟨b,off+i,none⟩=some xs[i]
theorem ay.row {w:World} {a:Option Addr} {l:List UInt8} (h:ay w a l):gZ w a (l.map aH):=by
 obtain⟨b,off,h1,h2⟩:=h;refine⟨b,off,λhn=>h1 (by rintro rfl;simp at hn),λi hi=>?_⟩;rw[h2 i (by simpa using hi)];simp[aH]
theorem gZ.bytes {w:World} {a:Option Addr} {l:List UInt8} (h:gZ w a (l.map aH)):ay w a l:=by
 obtain⟨b,off,h1,h2⟩:=h;refine⟨b,off,λhn=>h1 (by simpa using hn),λi hi=>?_⟩;rw[h2 i (by simpa using hi)];simp[aH]
theorem gZ.nil (w:World) (a:Option Addr):gZ w a []:=⟨0,0,λh=>absurd rfl h,λ_ h=>absurd h sQ⟩
theorem gZ.keep {w w':World} {a:Option Addr} {xs:List Value} (h:gZ w a xs) (hk:∀p:Addr,p.block<w.heap.size→w'.cell? p=w.cell? p):gZ w' a xs:=by
 obtain⟨b,off,h1,h2⟩:=h;exact⟨b,off,h1,λi hi=>(hk _ (zq w _ (h2 i hi))).trans (h2 i hi)⟩
theorem gZ.below {w w':World} {a:Option Addr} {xs:List Value} (h:gZ w a xs) (hb:Below w.heap.size w w'):gZ w' a xs:=h.keep λ_ hp=>hb.cell hp
theorem gZ.ji (w:World) (C:Array Value) (e:TypeId) (fr:Nat×Nat) (xs:List Value) (h:C.toList=xs):gZ (w.alloc (.cells C e fr)) (some ⟨w.heap.size,0,none⟩) xs:=by
 refine⟨w.heap.size,0,λ_=>rfl,λi hi=>?_⟩;rw[qx,zaw,←qw,h];simp[hi]
def Own (e:TypeId) (base:Nat) (w:World) (A:Option Addr) (c:Nat) (xs:List Value):Prop:=w.ownsRow base e 1 (.slice A xs.length c) xs.length xs
section
variable {e:TypeId} {base:Nat} {w:World} {A:Option Addr} {c:Nat} {xs:List Value}
theorem Own.row (h:Own e base w A c xs):gZ w A xs:=by
 rcases h.2 with⟨hv,hn⟩|⟨g,cap,cur,hv,hb,hg,JG,Cn,vS,ht⟩
 ·have:xs=[]:=zX hn
  subst this;exact gZ.nil _ _
 ·injection hv with hv _ hc
  subst hv hc;refine⟨g,0,λ_=>rfl,λi hi=>?_⟩;rw[qx,cell_of_row w g i cur e (0,0) hg];have hx:xs[i]? =some xs[i]:=zu hi;rw[←hx]
  conv=>rhs;rw[←ht]
  rw[qh,if_pos oQ,qw]
theorem Own.len (h:Own e base w A c xs):xs.length≤c∧c≤maxLen:=by
 rcases h.2 with⟨hv,hn⟩|⟨g,cap,cur,hv,hb,hg,JG,Cn,vS,ht⟩
 ·injection hv with _ _ hc
  subst hc;exact⟨oQ,by simp[maxLen]⟩
 ·injection hv with hv _ hc
  subst hc;exact⟨JG,Cn⟩
theorem Own.form (h:Own e base w A c xs) (hn:xs≠[]):∃g,A=some ⟨g,0,none⟩∧base≤g∧g<w.heap.size:=by
 rcases h.2 with⟨hv,hn'⟩|⟨g,cap,cur,hv,hb,hg,JG,Cn,vS,ht⟩
 ·exact absurd (zX hn') hn
 ·injection hv with hv _ hc
  exact⟨g,hv,hb,(zo.1 hg).1⟩
theorem Own.keep {w':World} (h:Own e base w A c xs) (hb:Below w.heap.size w w'):Own e base w' A c xs:=by
 refine⟨h.1,?_⟩;rcases h.2 with hn|⟨g,cap,cur,hv,FW,hg,r⟩
 ·exact .inl hn
 ·exact .inr ⟨g,cap,cur,hv,FW,(hb.block g (zo.1 hg).1).trans hg,r⟩
theorem Own.mono {base':Nat} (h:Own e base w A c xs) (hb:base'≤base):Own e base' w A c xs:=by
 refine⟨h.1,?_⟩;rcases h.2 with hn|⟨g,cap,cur,hv,FW,r⟩
 ·exact .inl hn
 ·exact .inr ⟨g,cap,cur,hv,oQ,r⟩
theorem Own.nothing:Own e base w none 0 []:=zaU _ _ _ _
theorem Own.lit (e:TypeId) (w:World) (C:Array Value) (hb:base≤w.heap.size) (hC:C.toList=xs) (hm:xs.length≤maxLen):Own e base (w.alloc (.cells C e)) (some ⟨w.heap.size,0,none⟩) xs.length xs:=by
 have hs:C.size=xs.length:=by rw[←hC];simp
 exact⟨sQ,.inr ⟨w.heap.size,xs.length,C,rfl,hb,heap_alloc_new w _,zm _,hm,oQ,by rw[hC];simp⟩⟩
theorem Own.set {g:Nat} (h:Own e base w (some ⟨g,0,none⟩) c xs) (j:Nat) (u:Value):Own e base (w.setCell ⟨g,j,none⟩ u) (some ⟨g,0,none⟩) c (xs.set j u):=by
 have:=(World.ownsRow.stored h j u).1;unfold Own;rwa[zat]
theorem Own.LH {g:Nat} (h:Own e base w (some ⟨g,0,none⟩) c xs) (j:Nat):w.frozen? ⟨g,j,none⟩=false:=World.ownsRow.frozenAt h j
theorem Own.cell {g:Nat} (h:Own e base w (some ⟨g,0,none⟩) c xs) (j:Nat) (hj:j<xs.length):w.cell? ⟨g,j,none⟩=some xs[j]:=by
 have hc:=h.cells (g:=g) rfl j _ (zu hj);have ha:(⟨g,0,none⟩:Addr).add j=⟨g,j,none⟩:=by unfold Addr.add;split<;>simp_all
 rwa[ha] at hc
end
structure jC (P:Program) (t e:TypeId) (z:Value) (bytes:Nat):Prop where
 slice:P.underlying t=some (.slice e)
 info:(P.info? e).map (λi=>(i.zero,i.size,i.bytes))=some (some z,1,bytes)
 one:z.cells=#[z]
section
variable {P:Program} {t e:TypeId} {z:Value} {bytes:Nat}
theorem gu (E:jC P t e z bytes) (ty:TypeId) {base:Nat} {w:World} {A A2:Option Addr} {n c m c2:Nat} {xs ys:List Value} (hown:Own e base w A c xs) (hn:xs.length=n)
  (hr:gZ w A2 ys) (hm:ys.length=m) (h1:∀u∈ys,u.oneCell'=true) (lC:(n+m)*bytes≤140737488355328) (Pf:n+m≤140737488355328) (Br:base≤w.heap.size):
  ∃A' c' w',(Builtin.append_ #[t,t] ty #[.slice A n c,.slice A2 m c2]).run P w=.ok (.slice A' (n+m) c') w'∧Own e base w' A' c' (xs++ys)∧Below base w w':=by
 subst hn hm;obtain⟨i,hi,hz,hs,hb⟩:=info_parts E.info;have LJ:xs.length+ys.length≤maxLen:=by simp only[maxLen];omega
 have fin:∀v' w',w'.ownsRow base e 1 v' (xs.length+ys.length) (xs++ys)→w.grownBy w' (Value.slice A xs.length c).ownBlock→
   (Builtin.append_ #[t,t] ty #[.slice A xs.length c,.slice A2 ys.length c2]).run P w=.ok v' w'→
   ∃A' c' w',(Builtin.append_ #[t,t] ty #[.slice A xs.length c,.slice A2 ys.length c2]).run P w=.ok (.slice A' (xs.length+ys.length) c') w'∧Own e base w' A' c' (xs++ys)∧Below base w w':=by
  intro v' w' ho hg hrun;have nI:Below base w w':=(zn base w).grown hg Br (λk hk=>(hown.lt k hk).1);rcases ho.2 with⟨hv,h0⟩|⟨g,cap,cur,hv,r⟩
  ·subst hv
   have h0':xs.length+ys.length=0:=h0;refine⟨none,0,w',by rw[hrun,h0'],?_,nI⟩;unfold Own;rw[zw,h0'];rw[h0'] at ho;exact ho
  ·subst hv
   refine⟨_,_,w',hrun,?_,nI⟩;unfold Own;rw[zw];exact ho
 obtain⟨b,off,ha,hc⟩:=hr;by_cases hy:ys=[]
 ·subst hy
  cases A2 with
  |none=>
   have hrun:(Builtin.append_ #[t,t] ty #[.slice A xs.length c,.slice none ([]:List Value).length c2]).run P w=.ok (.slice A xs.length c) w:=by
    rcases hown.2 with⟨hv,hn⟩|⟨g,cap,cur,hv,_,_,JG,_⟩
    ·injection hv with h1 h2 h3
     subst h1 h3;rw[h2];simp[Builtin.append_,run_underlying E.slice,sizeOf,typeInfo,hi,Builtin.lenOf,Builtin.firstCells]
    ·injection hv with h1 h2 h3
     subst h1 h3;simp[Builtin.append_,run_underlying E.slice,sizeOf,typeInfo,hi,Builtin.lenOf,Builtin.firstCells,JG,storeCells]
   exact⟨A,c,w,hrun,by simpa[Own] using hown,zn _ _⟩
  |some ad=>
   obtain⟨v',w',hrun,ho,hg,_,_⟩:=run_append_own_at (P:=P) w base t ty e i z 1 bytes E.slice hi hz hs hb (by rw[E.one];rfl) oQ _ _ xs hown ad 0 c2 [] rfl sQ sQ (by simpa using LJ) (by simpa using lC) Br;exact fin v' w' ho hg hrun
 ·have:=ha hy
  subst this
  obtain⟨v',w',hrun,ho,hg,_,_⟩:=run_append_own_at (P:=P) w base t ty e i z 1 bytes E.slice hi hz hs hb (by rw[E.one];rfl) oQ _ _ xs hown ⟨b,off,none⟩ ys.length c2 ys sQ
   (λj u hu=>by
    obtain⟨hj,rfl⟩:=zL.1 hu;have h2:(⟨b,off,none⟩:Addr).add j=⟨b,off+j,none⟩:=by unfold Addr.add;split<;>simp_all
    rw[h2];exact hc j hj) h1 LJ lC Br
  exact fin v' w' ho hg hrun
theorem eT (E:jC P t e z bytes) {base:Nat} {w:World} (kl kc:IntKind) (n:Nat) (lC:bytes*n≤281474976710656) (Pf:n≤140737488355328) (Br:base≤w.heap.size):
  ∃w',(Instr.makeSlice t (.int kl (n:Int)) (.int kc (n:Int))).run P w=.ok (.slice (some ⟨w.heap.size,0,none⟩) n n) w'∧
   Own e base w' (some ⟨w.heap.size,0,none⟩) n (List.replicate n z)∧Below w.heap.size w w'∧w'.heap.size=w.heap.size+1:=by
 obtain⟨i,hi,hz,hs,hb⟩:=info_parts E.info;have LJ:n≤maxLen:=by simp only[maxLen];omega
 have hr:=run_make (P:=P) w t e i z E.slice hi hz kl kc n n oQ (Int.le_refl _) (by
  rw[hb];have h:((bytes*n:Nat):Int)≤281474976710656:=oQ
  rwa[Int.natCast_mul] at h) oQ
 simp only[qX,E.one,hs,Ug] at hr;refine⟨_,hr,?_,(zn _ _).alloc (zm _) _,sQ⟩;have:=Own.lit (xs:=List.replicate n z) e w (madeCells #[z] n) Br (toList_madeCells_one z n) (by simpa using LJ);rwa[qc] at this
theorem Ui (E:jC P t e z bytes) {base:Nat} {w:World} (kl kc:IntKind) (n:Nat) (lC:bytes*n≤281474976710656) (Pf:n≤140737488355328) (Br:base≤w.heap.size):
  ∃w',(Instr.makeSlice t (.int kl 0) (.int kc (n:Int))).run P w=.ok (.slice (some ⟨w.heap.size,0,none⟩) 0 n) w'∧
   Own e base w' (some ⟨w.heap.size,0,none⟩) n []∧Below w.heap.size w w'∧w'.heap.size=w.heap.size+1:=by
 obtain⟨i,hi,hz,hs,hb⟩:=info_parts E.info;have LJ:n≤maxLen:=by simp only[maxLen];omega
 have hr:=run_make (P:=P) w t e i z E.slice hi hz kl kc 0 n oQ oQ (by
  rw[hb];have h:((bytes*n:Nat):Int)≤281474976710656:=oQ
  rwa[Int.natCast_mul] at h) oQ
 simp only[qX,Int.toNat_zero,E.one,hs,Ug] at hr;exact⟨_,hr,World.ownsRow_made w _ n Br LJ (by rw[size_madeCells,Ug]),(zn _ _).alloc (zm _) _,sQ⟩
end
theorem wpList_append_run {P:Program} {ops:Array Oper} {rest:List Oper} {o:Oper} {a:Act} {Q:Exit→Act→World→Prop} {w w':World} (s x:Operand) {t t':TypeId} {v y v':Value}
  (hrun:(Builtin.append_ #[t,t'] o.type #[v,y]).run P w=.ok v' w')
  (hw:Region.wanted o (yielded ops a.tmps)=true) (ho:o.op=.call {callee:=.builtin .append,args:=#[s,x],argTypes:=#[t,t']})
  (hs:a.eval s=v) (hx:a.eval x=y) (h:wpList P ops Q rest (a.put o.dst v') w'):wpList P ops Q (o::rest) a w:=by
 refine wpList_step λK hK=>?_;rw[if_pos hw];unfold Oper.wp execOp;simp only[ho,resolve,invoke,builtin,qE,zax,qp,zac,qy,qK,hs,hx,hrun];exact hK _ _ h
theorem wpList_copy_run {P:Program} {ops:Array Oper} {rest:List Oper} {o:Oper} {a:Act} {Q:Exit→Act→World→Prop} {w w':World} (s x:Operand) {t t':TypeId} {v y v':Value}
  (hrun:(Builtin.copy_ #[t,t'] o.type #[v,y]).run P w=.ok v' w')
  (hw:Region.wanted o (yielded ops a.tmps)=true) (ho:o.op=.call {callee:=.builtin .copy,args:=#[s,x],argTypes:=#[t,t']})
  (hs:a.eval s=v) (hx:a.eval x=y) (h:wpList P ops Q rest (a.put o.dst v') w'):wpList P ops Q (o::rest) a w:=by
 refine wpList_step λK hK=>?_;rw[if_pos hw];unfold Oper.wp execOp;simp only[ho,resolve,invoke,builtin,qE,zax,qp,zac,qy,qK,hs,hx,hrun];exact hK _ _ h
theorem lD {P:Program} {ops:Array Oper} {rest:List Oper} {o:Oper} {a:Act} {Q:Exit→Act→World→Prop} {w w':World} {l c:Operand} {t:TypeId} {lv cv v':Value}
  (hrun:(Instr.makeSlice t lv cv).run P w=.ok v' w')
  (hw:Region.wanted o (yielded ops a.tmps)=true) (ho:o.op=.makeSlice t l c)
  (hl:a.eval l=lv) (hc:a.eval c=cv) (h:wpList P ops Q rest (a.put o.dst v') w'):wpList P ops Q (o::rest) a w:=by
 refine wpList_step λK hK=>?_;rw[if_pos hw];unfold Oper.wp execOp;simp only[ho,hl,hc,qE,zax,qp,hrun];exact hK _ _ h
theorem eB (n:Nat):List.replicate n (Value.int .u8 0)=(List.replicate n (0:UInt8)).map aH:=by
 rw[List.map_replicate];rfl
theorem eP:∀(l:List UInt8),∀u∈l.map aH,u.oneCell'=true:=by
 intro l u hu;obtain⟨c,_,rfl⟩:=qj.1 hu;rfl
end
end Go.Proofs.YtdjdpeadohobmaaGreatDoor
