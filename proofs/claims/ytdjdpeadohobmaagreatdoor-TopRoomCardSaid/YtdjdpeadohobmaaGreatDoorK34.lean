/- A part of the walk below the law: what is proved here is used by later parts; no further condition. -/
import Derived.Deep.DeepHandedRow
import Derived.Lib.LaidTab
import Derived.Lib.TrailingZeros
import Derived.Shelf.LaysM
import Derived.Shelf.SlIterI.Keys
import Derived.Shelf.SlIterI.Sorted
import Derived.Shelf.Sort.Plain
import Derived.Shelf.Strconv.Itoa0
import Derived.Shelf.Strconv.Itoa1
import Derived.Shelf.Strconv.Itoa2
import Derived.Shelf.Strconv.Itoa3
import Derived.Test.YtdjdpeadohobmaaGreatDoorCards
import Derived.Test.YtdjdpeadohobmaaGreatDoorK02
import Derived.Test.YtdjdpeadohobmaaGreatDoorK14
import Derived.Test.YtdjdpeadohobmaaGreatDoorK15
import Derived.Test.YtdjdpeadohobmaaGreatDoorK18
import Derived.Test.YtdjdpeadohobmaaGreatDoorK19
import Derived.Test.YtdjdpeadohobmaaGreatDoorK23
import Derived.Test.YtdjdpeadohobmaaGreatDoorK25
import Derived.Test.YtdjdpeadohobmaaGreatDoorK33
import Derived.Test.YtdjdpeadohobmaaGreatDoorProg
import Derived.Test.YtdjdpeadohobmaaGreatDoorTie
set_option linter.unusedVariables false
set_option linter.unusedSimpArgs false
set_option maxRecDepth 100000
set_option maxHeartbeats 20000000
namespace Go.Proofs.YtdjdpeadohobmaaGreatDoor
section
open Go.Shelf
def Tryz.N_:Go.Shelf.Ren:=⟨fun|189=>266|125=>320|257=>319|128=>360|129=>337|294=>351|295=>352|296=>353|297=>354|298=>355|299=>356|216=>357|300=>358|301=>359|328=>379|329=>380|330=>381|331=>382|332=>383|215=>384|343=>391|n=>n,fun|28=>23|3=>3|46=>253|0=>0|51=>115|53=>116|4=>4|183=>400|182=>399|131=>250|5=>5|9=>9|218=>419|222=>373|228=>431|229=>432|n=>n,fun|n=>n⟩
theorem Tryz.aeL:Go.Proofs.Lays.n189 Tryz.prog Tryz.N_:={
 mixed:=by kernel_rfl
 f125:=Tryz.func320.trans (congrArg some (by kernel_rfl))
 f128:=Tryz.func360.trans (congrArg some (by kernel_rfl))
 f129:=Tryz.func337.trans (congrArg some (by kernel_rfl))
 f189:=Tryz.func266.trans (congrArg some (by kernel_rfl))
 f215:=Tryz.func384.trans (congrArg some (by kernel_rfl))
 f216:=Tryz.func357.trans (congrArg some (by kernel_rfl))
 f257:=Tryz.func319.trans (congrArg some (by kernel_rfl))
 f294:=Tryz.func351.trans (congrArg some (by kernel_rfl))
 f295:=Tryz.func352.trans (congrArg some (by kernel_rfl))
 f296:=Tryz.func353.trans (congrArg some (by kernel_rfl))
 f297:=Tryz.func354.trans (congrArg some (by kernel_rfl))
 f298:=Tryz.func355.trans (congrArg some (by kernel_rfl))
 f299:=Tryz.func356.trans (congrArg some (by kernel_rfl))
 f300:=Tryz.func358.trans (congrArg some (by kernel_rfl))
 f301:=Tryz.func359.trans (congrArg some (by kernel_rfl))
 f328:=Tryz.func379.trans (congrArg some (by kernel_rfl))
 f329:=Tryz.func380.trans (congrArg some (by kernel_rfl))
 f330:=Tryz.func381.trans (congrArg some (by kernel_rfl))
 f331:=Tryz.func382.trans (congrArg some (by kernel_rfl))
 f332:=Tryz.func383.trans (congrArg some (by kernel_rfl))
 f343:=Tryz.func391.trans (congrArg some (by kernel_rfl))
 t0:=Tryz.underlying0
 a0:=Tryz.isAgg0
 z0:=Tryz.sizeOf0
 v0:=Tryz.zeroValue0
 t3:=Tryz.underlying3
 a3:=Tryz.isAgg3
 z3:=Tryz.sizeOf3
 v3:=Tryz.zeroValue3
 t4:=Tryz.underlying4
 a4:=Tryz.isAgg4
 z4:=Tryz.sizeOf4
 v4:=Tryz.zeroValue4
 t5:=Tryz.underlying5
 a5:=Tryz.isAgg5
 z5:=Tryz.sizeOf5
 v5:=Tryz.zeroValue5
 t9:=Tryz.underlying9
 a9:=Tryz.isAgg9
 z9:=Tryz.sizeOf9
 v9:=Tryz.zeroValue9
 t28:=Tryz.underlying23
 a28:=Tryz.isAgg23
 z28:=Tryz.sizeOf23
 v28:=Tryz.zeroValue23
 t46:=Tryz.underlying253
 a46:=Tryz.isAgg253
 z46:=Tryz.sizeOf253
 v46:=Tryz.zeroValue253
 t51:=Tryz.underlying115
 a51:=Tryz.isAgg115
 z51:=Tryz.sizeOf115
 v51:=Tryz.zeroValue115
 t53:=Tryz.underlying116
 a53:=Tryz.isAgg116
 z53:=Tryz.sizeOf116
 v53:=Tryz.zeroValue116
 t131:=Tryz.underlying250
 a131:=Tryz.isAgg250
 z131:=Tryz.sizeOf250
 v131:=Tryz.zeroValue250
 t182:=Tryz.underlying399
 a182:=Tryz.isAgg399
 z182:=Tryz.sizeOf399
 v182:=Tryz.zeroValue399
 t183:=Tryz.underlying400
 a183:=Tryz.isAgg400
 z183:=Tryz.sizeOf400
 v183:=Tryz.zeroValue400
 t218:=Tryz.underlying419
 a218:=Tryz.isAgg419
 z218:=Tryz.sizeOf419
 v218:=Tryz.zeroValue419
 t222:=Tryz.underlying373
 a222:=Tryz.isAgg373
 z222:=Tryz.sizeOf373
 v222:=Tryz.zeroValue373
 t228:=Tryz.underlying431
 a228:=Tryz.isAgg431
 z228:=Tryz.sizeOf431
 v228:=Tryz.zeroValue431
 t229:=Tryz.underlying432
 a229:=Tryz.isAgg432
 z229:=Tryz.sizeOf432
 v229:=Tryz.zeroValue432}
open Go.Sort Go.RowKit in
theorem Tryz.slices_Sort_int (blk off cap:Nat) (zs:List Int) (w:World) (hH:Holds (Value.int .i64) w blk off zs.toArray) (Mk:blk<w.heap.size) (gJ:zs.length<4611686018427387904):
  Calls Tryz.prog 266 #[.slice (some ⟨blk,off,none⟩) zs.length cap] w λe w'=>
   e=.returned (.tuple #[])∧∃n os,w'=grow (putRow (Value.int .i64) (Sort.ahead w n) blk off (zs.mergeSort λx y=>decide (x≤y)).toArray) os:=Any.slices_Sort_int Tryz.aeL blk off cap zs w hH Mk gJ
end
section
open Go.RowKit Go.Shelf Go.Maps O
attribute [local go_sem] Oper.semAt_some
def aeM:Go.Shelf.Ren:=⟨fun|6=>206|8=>265|11=>318|9=>266|7=>207|10=>267|n=>n,fun|24=>23|26=>3|28=>271|4=>4|23=>187|27=>270|33=>219|3=>22|n=>n,fun|n=>n⟩
theorem aji:SlLaysZI.n6 Tryz.prog aeM:={
 mixed:=kQ
 f6:=⟨ "slices.Sorted[int]",dQ,Tryz.func206.trans (congrArg some kQ)⟩
 f8:=⟨ "slices.Collect[int]",dQ,Tryz.func265.trans (congrArg some kQ)⟩
 f11:=⟨ "slices.AppendSeq[[]int,int]",dQ,Tryz.func318.trans (congrArg some kQ)⟩
 t0:=Tryz.underlying0
 a0:=Tryz.isAgg0
 z0:=Tryz.sizeOf0
 v0:=Tryz.zeroValue0
 t24:=Tryz.underlying23
 a24:=Tryz.isAgg23
 z24:=Tryz.sizeOf23
 v24:=Tryz.zeroValue23
 t26:=Tryz.underlying3
 a26:=Tryz.isAgg3
 z26:=Tryz.sizeOf3
 v26:=Tryz.zeroValue3
 t28:=Tryz.underlying271
 a28:=Tryz.isAgg271
 z28:=Tryz.sizeOf271
 v28:=Tryz.zeroValue271
 i26:=by kernel_rfl}
theorem aaX:SlLaysZI.n7 Tryz.prog aeM:={
 mixed:=kQ
 f7:=⟨Tryz.f207.name,dQ,Tryz.func207.trans (congrArg some kQ)⟩
 f10:=⟨Tryz.f267.name,dQ,Tryz.func267.trans (congrArg some kQ)⟩
 t0:=Tryz.underlying0
 a0:=Tryz.isAgg0
 z0:=Tryz.sizeOf0
 v0:=Tryz.zeroValue0
 t4:=Tryz.underlying4
 a4:=Tryz.isAgg4
 z4:=Tryz.sizeOf4
 v4:=Tryz.zeroValue4
 t23:=Tryz.underlying187
 a23:=Tryz.isAgg187
 z23:=Tryz.sizeOf187
 v23:=Tryz.zeroValue187
 t26:=Tryz.underlying3
 a26:=Tryz.isAgg3
 z26:=Tryz.sizeOf3
 v26:=Tryz.zeroValue3
 t27:=Tryz.underlying270
 a27:=Tryz.isAgg270
 z27:=Tryz.sizeOf270
 v27:=Tryz.zeroValue270
 t28:=Tryz.underlying271
 a28:=Tryz.isAgg271
 z28:=Tryz.sizeOf271
 v28:=Tryz.zeroValue271
 t33:=Tryz.underlying219
 a33:=Tryz.isAgg219
 z33:=Tryz.sizeOf219
 v33:=Tryz.zeroValue219}
theorem aeN:SlLaysZI.n10 Tryz.prog aeM:={aaX with}
theorem Rp (p:Option Addr) (c:Nat) (w:World):Calls Tryz.prog 266 #[.slice p 0 c] w λe w'=>e=.returned (.tuple #[])∧w'=w:=by
 have hb:∀w:World,Calls Tryz.prog 320 #[.int .u64 0] w λe w'=>e=.returned (.int .i64 0)∧w=w':=by
  intro w;have h64:∀w:World,Calls Tryz.prog 337 #[.int .u64 0] w λe w'=>e=.returned (.int .i64 0)∧w=w':=by
   intro w;go_enter Tryz.func337,Tryz.ntmps337;go_wp2_with fail;go_ret;exact⟨kQ,rfl⟩
  go_enter Tryz.func320,Tryz.ntmps320;go_wp2_with fail;refine(h64 w).mono ?_;rintro e w' ⟨rfl,rfl⟩;go_wp2_with fail;go_ret;exact⟨rfl,rfl⟩
 have h1:∀w:World,Calls Tryz.prog 351 #[.slice p 0 c,.int .i64 0,.int .i64 0] w λe w'=>(∃v,e=.returned v)∧w=w':=by
  intro w;go_enter Tryz.func351,Tryz.ntmps351;go_wp2_with fail;refine wp_loop_rounds 1 ?_;rw[rounds_succ];go_wp2_with fail;go_end0;exact⟨⟨_,rfl⟩,rfl⟩
 have h2:∀w:World,Calls Tryz.prog 319 #[.slice p 0 c,.int .i64 0,.int .i64 0,.int .i64 0] w λe w'=>(∃v,e=.returned v)∧w=w':=by
  intro w;go_enter Tryz.func319,Tryz.ntmps319;go_wp2_with fail;refine wp_loop_rounds 1 ?_;rw[rounds_succ];go_wp2_with fail;refine(h1 w).mono ?_;rintro e w' ⟨⟨v,rfl⟩,rfl⟩;go_wp2_with fail
  first|done|exact bodyPost_ret (v:=.tuple #[]) (by simp[results,Tryz.results319,go_sem]) rfl ⟨⟨_,rfl⟩,rfl⟩
 go_enter Tryz.func266,Tryz.ntmps266;go_wp2_with fail;refine(hb w).mono ?_;rintro e w' ⟨rfl,rfl⟩;go_wp2_with fail;refine(h2 w).mono ?_;rintro e w' ⟨⟨v,rfl⟩,rfl⟩;go_wp2_with fail;go_end0;exact⟨rfl,rfl⟩
theorem ajj (n:Nat):AnyZI.SortsIn Tryz.prog aeM Fence.wide n:=
 ⟨λblk off cap ss W hH hb hs=>callsIn_wide.2 (Tryz.slices_Sort_int blk off cap ss W hH hb hs),λp cap W=>callsIn_wide.2 (Rp p cap W)⟩
structure ajk (φ:Nat→Option Value) (s:Nat) (ks:List Int):Prop where
 nodup:ks.Nodup
 len:ks.length=s
 mem:∀x∈ks,∃i:Nat,x=(i:Int)∧i<fZ∧(φ i).isSome=true
theorem Oa {w:World} {bm mb s:Nat} {φ:Nat→Option Value} (M8:ah w bm 187 [.map (some mb)]) (hm:bF w mb s φ) (hs:s≤4000):
  Calls Tryz.prog 206 #[.func (.func 267) #[] #[.pointer (some ⟨bm,0,none⟩)]] w λe w'=>∃(v:Value) (ks:List Int),e=.returned v∧ajk φ s ks∧w'.ownsRow w.heap.size 3 1 v ks.length (ks.map Go.encZ)∧Below w.heap.size w w':=by
 obtain⟨D,h1,h2,h3,h4⟩:=hm;have hc:=M8.cell 0;simp only[zf] at hc;have hg:=AnyZI.keys_gives aeN Fence.wide 7 trivial rfl dQ bm mb s D w M8.lt hc h1;refine(callsIn_wide (n:=10)).1 ((AnyZI.sorted_in aji Fence.wide 10 trivial trivial trivial trivial rfl dQ (ajj _) (enters_of Tryz.func266 kQ rfl) 267 _ trivial (enters_of Tryz.func267 kQ rfl) _ (Maps.size D) (by simp only[maxLen];omega) oQ w hg).mono ?_);rintro e w' ⟨v,ss,rfl,hS,aZ,aEO,hB⟩;have hp:=(List.mergeSort_perm ss (λx y=>decide (x≤y))).trans hS;obtain⟨es,hD,hpw,gJ⟩:=h1.entries bP;obtain⟨es',hD',hko⟩:=h1.keysOf;obtain rfl:es=es':=by rw[hD] at hD';simpa using hD'
 subst hD;have hlen:(intKeys (DataW.map es)).length=s:=by rw[←h2];simp[intKeys,Maps.size]
 have hint:∀p∈es,∃x,p.1=Lit.int .i64 x:=λp hp=>by
  obtain⟨v,hv⟩:=hko p hp;obtain⟨x,_,hx,_⟩:=Maps.keyOf_i64 Tryz.underlying3 hv;exact⟨x,hx⟩
 have yt:(intKeys (DataW.map es)).Nodup:=by
  show(es.map λp=>Go.intOf p.1).Nodup;refine List.pairwise_map.2 (hpw.imp_of_mem λ{p q} hp' Ym dV e=>dV ?_);obtain⟨a,ha⟩:=hint p hp';obtain⟨b,hb⟩:=hint q Ym;rw[ha,hb] at e ⊢;exact congrArg _ e
 refine⟨v,ss.mergeSort (λx y=>decide (x≤y)),rfl,⟨hp.symm.nodup_iff.1 yt,by rw[hp.length_eq,hlen],λx hx=>?_⟩,by rw[List.length_mergeSort];exact aZ,hB⟩;have oD:=hp.mem_iff.1 hx;obtain⟨p,sV,nK⟩:=qj.1 oD;obtain⟨a,ha⟩:=hint p sV;have hax:a=x:=by rw[ha] at nK;exact nK
 have nS:Maps.has (DataW.map es) (Lit.int .i64 x)=true:=by
  rw[has_eq,List.any_eq_true];exact⟨p,sV,by rw[ha,hax];simp[Lit.sameKey]⟩
 obtain⟨i,hi,hk⟩:=h4 _ nS;have hxi:x=(i:Int):=by
  unfold ug at hk;injection hk
 refine⟨i,hxi,hi,?_⟩;rcases hf:φ i with _|u
 ·have h5:=h3 i hi
  rw[hf] at h5;have h6:=zas h5;rw[hxi] at nS;unfold ug at h6;rw[h6] at nS;cases nS
 ·rfl
theorem WE (w:World) (mb:Nat):Calls Tryz.prog 207 #[.map (some mb)] w λe w'=>∃bm:Nat,e=.returned (.func (.func 267) #[] #[.pointer (some ⟨bm,0,none⟩)])∧w.heap.size≤bm∧ah w' bm 187 [.map (some mb)]∧Below w.heap.size w w':=by
 refine(callsIn_wide (n:=1)).1 ((AnyZI.keys_in aaX Fence.wide 1 trivial rfl (some mb) w).mono ?_);rintro e w' ⟨rfl,rfl⟩;exact⟨_,rfl,zm _,ah.new w _ _,(zn _ _).alloc (zm _) _⟩
theorem bF.get {w:World} {b s:Nat} {φ:Nat→Option Value} {t e:TypeId} {z u:Value} (h:bF w b s φ) (ht:Tryz.prog.underlying t=some (.map 3 e)) (hz:(zeroValue e).run Tryz.prog w=.ok z w) (i:Nat) (hi:i<fZ) (hu:φ i=some u):
  (Instr.lookup t (.map (some b)) (.int .i64 (i:Int)) false).run Tryz.prog w=.ok u w:=by
 obtain⟨D,h1,h2,h3,h4⟩:=h;have h5:=h3 i hi;obtain⟨v,ps,hr,hv⟩:=h1.lookup bP ht hz (show fG z=some (.held z,[]) from rfl) (uP i hi);rw[hr];rw[hu] at h5;rw[h5 (.held z)] at hv;unfold fG at hv;injection hv with hv;injection hv with hv _;injection hv with hv;rw[hv]
def aeO (x:Nat×Nat×Nat):Array Value:=#[.int .i64 x.1,.slice (some ⟨x.2.1,0,none⟩) 480 x.2.2]
def OkW (L:Wl) (pre:List (Nat×Nat×Nat)) (x:Nat×Nat×Nat) (W:World):Prop:=x.1∉pre.map (·.1)∧∃e∈L,e.1=x.1∧jF W x.2.1 e.2
def Rq (n0:Nat) (A B:World):Prop:=A.heap.size≤B.heap.size∧∀k,k<A.heap.size→((n0≤k∧¬∃C fr,A.heap[k]? =some (.cells C 176 fr))∨B8 A k)→B.heap[k]? =A.heap[k]?
theorem Rq.refl (n0:Nat) (A:World):Rq n0 A A:=⟨zm _,λ_ _ _=>rfl⟩
theorem Rq.trans {n0:Nat} {A B C:World} (h:Rq n0 A B) (k:Rq n0 B C):Rq n0 A C:=
 ⟨zC h.1 k.1,λi hi hc=>by
  have h1:=h.2 i hi hc;refine(k.2 i (zx hi h.1) ?_).trans h1;unfold B8;rw[h1];exact hc⟩
theorem Rq.below {n0:Nat} {A B:World} (h:Below A.heap.size A B):Rq n0 A B:=⟨h.size,λk hk _=>h.block k hk⟩
theorem jF.kpw {n0 g:Nat} {A B:World} {l:Bytes} (h:jF A g l) (hk:Rq n0 A B):jF B g l:=by
 have hl:=h.lt;obtain⟨C,fr,h1,h2⟩:=h;exact⟨C,fr,(hk.2 g hl (.inr ⟨C,u8F fr,h1⟩)).trans h1,h2⟩
section
variable {L:Wl} {F:Nat→Prop}
theorem aaY {n n0 bb b sp mb:Nat} {sw st:Bool} {pt am:Option Nat} {W:World} (hn:1≤n) (QG:ah W bb 83 [.pointer (some ⟨b,0,none⟩)]) (hb:ah W b 191 (jA sp (some mb) sw pt st am)) (hB:Book W (.map (some mb)) L F) (hL1:1≤L.length) (AO:n0≤W.heap.size):
  aaW Fence.wide n Tryz.prog 204 #[.pointer (some ⟨bb,0,none⟩)] aeO (Rq n0) (λA B=>Below A.heap.size A B) (OkW L) (λxs=>xs.length=L.length) W:=by
 intro l J hJ hJs hY h0;have c0:=QG.cell 0;have c2:=hb.cell 2;simp only[jA,zf,zi] at c0 c2;have hL4:=hB.few;obtain⟨yt,gD,jV⟩:=hB;obtain⟨mb',φ,M9,hF,aof,I7,MP⟩:=jV.resolve_left (by rintro⟨h,_⟩;cases h);injection M9 with M9;injection M9 with M9;subst M9;have HY:=U hY;have HJs:=U hJs;have au6:=U aof;have aog:=U MP;have aoh:=U I7;have au7:=U gD;have H0:=U h0;clear hY hJs aof MP I7 gD yt jV QG hb h0;refine callsIn_of_wp Tryz.func204 rfl trivial ?_ rfl;simp only[Tryz.ntmps204,zQ,zA,zN,Nat.reduceAdd,Nat.reduceSub,zJ,zK,zT,zM,zB,zU];gi_wp2_with fail;refine⟨trivial,(callsIn_wide.2 (Ez au6.o oQ)).mono ?_⟩;rintro e W1 ⟨m,rfl,Pt,eD,aF⟩;clear c0 c2;gi_wp2_with fail;refine⟨trivial,(callsIn_wide.2 (WE W1 m)).mono ?_⟩;rintro e W2 ⟨bm,rfl,aER,M8,aJ⟩;have bC:=eD.below aJ;have Gh:=U bC;have Hbm:=U M8;clear eD M8 bC;gi_wp2_with fail;refine⟨trivial,(callsIn_wide.2 (Oa Hbm.o Gh.o hL4)).mono ?_⟩;rintro e W3 ⟨v,ks,rfl,Wy,aZ,bf⟩;have hlen:=Wy.len;have hml:=Gh.o.lt;have hBW:Below W.heap.size W W3:=(aF.trans (aJ.mono aF.size)).trans (bf.mono (zC aF.size aJ.size));have Hm3:=U (Gh.o.below bf);obtain⟨gb,cap,cur,rfl,Br,Pm,r1,r2,r3,r4⟩:=aZ.2.resolve_left (by rintro⟨_,h⟩;omega);rw[hlen];have pV:=HJs.o [] _ _ H0.o hBW;have hcell:∀wr:World,wr.heap[gb]? =W3.heap[gb]?→∀(i:Nat) (hi:i<ks.length),wr.cell? ⟨gb,i,none⟩=some (.int .i64 ks[i]):=by
  intro wr X_ i hi;rw[cell_of_row wr gb i _ _ _ (X_.trans Pm)];have h1:(cur.toList.take ks.length)[i]? =(ks.map Go.encZ)[i]?:=by rw[←r4,Ug]
  rw[qh,if_pos hi,qw,qb,zu hi] at h1;exact h1
 have l7:gb<W3.heap.size:=(zo.1 Pm).1;have hgn:¬∃C fr,W3.heap[gb]? =some (.cells C 176 fr):=by
  rintro⟨C,fr,h⟩;rw[Pm] at h;injection h with h;injection h with _ h;exact absurd h dQ
 have Il:¬∃C fr,W3.heap[m]? =some (.cells C 176 fr):=by
  rintro⟨C,fr,h⟩;obtain⟨D,⟨es,clock,g1,_⟩,_⟩:=Hm3.o;rw[g1] at h;cases h
 have lZ:=aJ.size;have xX:=aF.size;have Hks:=U Wy;have ZM:=U hcell;have HBW:=U hBW;have Zk:=U pV;have au9:n0≤gb:=oQ
 have au_:n0≤m:=oQ
 have Hgn:=U hgn;have Hmn:=U Il;have ava:m<W3.heap.size:=Hm3.o.lt;clear aZ Pm r1 r2 r3 r4 Wy hcell hBW pV aF aJ bf hgn Il;gi_wp2_with fail;gi_loopw [16] (λv wr=>∃pre:List (Nat×Nat×Nat),v=.int .i64 pre.length∧pre.length≤L.length∧pre.map (λx=>(x.1:Int))=ks.take pre.length∧J pre wr∧Rq n0 W3 wr) (λv _=>L.length - (intOf v).toNat)
 case atStart=>exact⟨[],rfl,sQ,sQ,Zk.o,Rq.refl _ _⟩
 case round=>
  obtain⟨pre,rfl,fB,nP,hJp,hK⟩:=hrel;have aoj:=U nP;have HJp:=U hJp;have HK:=U hK;clear nP hJp hK;obtain⟨i,hi⟩:∃i,pre.length=i:=⟨_,rfl⟩
  rw[hi] at fB ⊢;have Hi:=U hi;clear hi;by_cases hil:i<L.length
  ·have Te:(i:Int)<(L.length:Int):=oQ
   have hik:i<ks.length:=oQ
   have hc:=ZM.o wr (HK.o.2 gb l7 (.inl ⟨au9,Hgn.o⟩)) i hik;obtain⟨id,Eh,Z4,aol⟩:=Hks.o.mem ks[i] (qm hik);rw[Eh] at hc;have hf:=aoh.o id Z4;rw[aol] at hf;obtain⟨e,he⟩:=Option.isSome_iff_exists.1 hf.symm;have Gb:=qN he;have XQ:e.1=id:=by have:=List.find?_some he;simpa using this
   obtain⟨g,c,hφ,hFg,hr8⟩:=aog.o e Gb;rw[XQ] at hφ;have aon:=(hr8.below HBW.o).kpw HK.o;have aoo:bF wr m L.length φ:=Hm3.o.block (HK.o.2 m ava (.inl ⟨au_,Hmn.o⟩));have MG:=aoo.get (t:=187) Tryz.underlying187 (Tryz.zeroValue22 wr) id Z4 hφ;have Hr8:=U aon;have Hem:=U (And.intro Gb XQ);have aop:=U Eh;clear hr8 aon aoo hf he hφ Gb XQ Eh aol;gi_wp2_with fail;refine⟨trivial,(callsIn_wide.2 (I4 (au7.o e Hem.o.1).2 Hr8.o.pR c)).mono ?_⟩;rintro e' W4 ⟨g',c',rfl,lQ,hr4,dX⟩;have hJ4:=HJs.o _ _ _ HJp.o dX;have aoq:id∉pre.map (·.1):=λhm=>by
    obtain⟨x,wJ,oD⟩:=qj.1 hm;have h1:(id:Int)∈ks.take i:=by
     rw[←Hi.o,←aoj.o];exact qj.2 ⟨x,wJ,by rw[←oD]⟩
    rw[←aop.o] at h1;obtain⟨j,hj,hj2⟩:=za0.1 h1;rw[zF] at hj;rw[List.getElem_take] at hj2;exact List.pairwise_iff_getElem.1 Hks.o.nodup j i oQ hik oQ hj2
   have Gt:=HY.o pre (id,g',c') W4 ⟨aoq,e,Hem.o.1,Hem.o.2,hr4⟩ hJ4;unfold aeO at Gt;obtain⟨fn,tmps,assign,body,hy,hR⟩:=Gt;have lS:=U dX;clear hr4 dX hJ4 aoq hc MG;gi_wp2_with fail;refine hR.mono ?_;rintro e5 W5 ⟨rfl,hJ5,Jo⟩;have hi:=Hi.o;gi_wp2;go_roundw
   case rel=>
    refine⟨pre++[(id,g',c')],by rw[zw,hi];simp,by rw[zw,hi,zY];omega,?_,hJ5,(HK.o.trans (Rq.below lS.o)).trans Jo⟩;rw[zw,zY,hi,zZ hik,zW,aoj.o,hi,aop.o];rfl
   case measure=>simp[intOf];omega
  ·obtain rfl:i=L.length:=oQ
   gi_wp2_with fail;go_end0;exact⟨⟨_,rfl⟩,pre,Hi.o,HJp.o⟩
theorem aaZ (w:World) (b:Nat):Calls Tryz.prog 130 #[.pointer (some ⟨b,0,none⟩)] w λe w'=>e=.returned (.func (.func 204) #[] #[.pointer (some ⟨w.heap.size,0,none⟩)])∧w'=w.alloc (.cells #[.pointer (some ⟨b,0,none⟩)] 83):=by
 go_enter Tryz.func130,Tryz.ntmps130;go_wp2_with fail;go_ret;exact⟨rfl,rfl⟩
end
structure LsI (ts:Nat) (L:Wl) (w1:World) (pre:List (Nat×Nat×Nat)) (V:World) (vl:Value) (wl:Wl) (xs:List Value):Prop where
 box:ah V ts 126 [vl]
 row:V.ownsRow 0 176 2 vl pre.length xs
 wlv:Ep V wl xs
 ids:wl.map Prod.fst=pre.map (·.1)
 sub:∀e∈wl,e∈L
 nodup:(pre.map (·.1)).Nodup
 new:∀b,vl.ownBlock=some b→w1.heap.size≤b
 step:Step (· =ts) w1 (· =ts) V
section
variable {v w:World} {b sp d:Nat} {C:Nat→Bytes} {L:Wl} {q:Bool} {F:Nat→Prop}
theorem aa0 {α:Type} [BEq α] [LawfulBEq α] [DecidableEq α] {a l:List α} (hn:a.Nodup) (h:∀x∈a,x∈l):a.length≤l.length:=by
 induction a generalizing l with
 |nil=>exact ql _
 |cons x a ih=>
  rw[za9] at hn;have h1:x∈l:=h x sQ;have h2:=ih (l:=l.erase x) hn.2 (λy hy=>(List.mem_erase_of_ne (λe:y=x=>hn.1 (e▸hy))).2 (h y (by simp[hy])));rw[List.length_erase_of_mem h1] at h2;have:=List.length_pos_of_mem h1;rw[zA];omega
theorem WG (h:uX v w b sp d C L q F) (hL:1≤L.length):
  Calls Tryz.prog 61 #[.pointer (some ⟨b,0,none⟩)] w λe w'=>∃(g c:Nat) (wl:Wl),e=.returned (.slice (some ⟨g,0,none⟩) L.length c)∧w.heap.size≤g∧BK w' g wl∧wl.length=L.length∧(wl.map Prod.fst).Nodup∧(∀e∈wl,e∈L)∧Below w.heap.size w w':=by
 obtain⟨pw,sw,pt,st,am,T,hb,hq⟩:=h;have hL4:=hb.writes.few;have hpw:∃mb,pw=some mb:=by
  rcases pw with _|mb
  ·obtain⟨-, -,h1|⟨mb,φ,h1, -⟩⟩:=hb.writes
   ·rw[h1.2] at hL
    simp at hL
   ·cases h1
  ·exact⟨mb,rfl⟩
 obtain⟨mb,rfl⟩:=hpw;have Hb:=U hb;clear hb hq;refine(callsIn_wide (n:=11)).1 ?_;refine callsIn_of_wp_marks Tryz.func61 rfl trivial ?_ rfl;simp only[Tryz.ntmps61,zQ,zA,zN,Nat.reduceAdd,Nat.reduceSub,zJ,zK,zT,zM,zB,zU];gi_wp2_with fail;refine⟨trivial,(callsIn_wide.2 (aaZ _ b)).mono ?_⟩;rintro e w2 ⟨rfl,iy⟩;have aJ:Below w.heap.size w w2:=by rw[iy];exact((zn _ _).alloc (zm _) _).alloc sQ _
 have Yf:ah w2 w.heap.size 126 [.slice none 0 0]:=by rw[iy];exact(ah.new w _ _).below ((zn _ _).alloc (zm _) _)
 have aor:ah w2 (w.heap.size+1) 83 [.pointer (some ⟨b,0,none⟩)]:=by rw[iy];exact ah.at sQ _ _
 have hz2:w2.heap.size=w.heap.size+2:=by rw[iy];simp
 have gJ:(w.alloc (.cells #[.slice none 0 0] 126)).heap.size=w.heap.size+1:=sQ
 rw[gJ];clear iy gJ;have Yd:=U Yf;have bH:=U aJ;have avc:=U aor;have Hb2:=U (Hb.o.below aJ);clear Yf aJ aor;gi_wp2_with fail;generalize dw:Act.mk _ _=a0
 refine og (n:=11) rfl oQ (gf:=204) (lb:=#[.pointer (some ⟨w.heap.size+1,0,none⟩)]) (by rw[←dw];rfl) trivial (enters_of Tryz.func204 kQ rfl)
  (encs:=aeO) (Kp:=Rq (w2.heap.size+2)) (St:=λA B=>Below A.heap.size A B) (Ok:=OkW L) (Good:=λxs=>xs.length=L.length)
  (λW1 hB hz=>aaY oQ (avc.o.below hB) ((Hb2.o.below hB).cells) ((Hb2.o.below hB).writes) hL oQ)
  (λh1 h2 _=>(h1.block _ (zo.1 h2).1).trans h2) (λh1 h2=>h1.trans h2) ?hKb (λ_=>rfl)
  (λpre V=>∃vl wl xs,LsI w.heap.size L w2 pre V vl wl xs)
  ?hI ?hIs ?h0 (λpre x a' V=>OkW L pre x V∧a'={tmps:=(((a0.tmps.setIfInBounds 8 (.int .i64 x.1)).setIfInBounds 9 (.slice (some ⟨x.2.1,0,none⟩) 480 x.2.2)).setIfInBounds 4 (.int .i64 x.1)).setIfInBounds 5 (.slice (some ⟨x.2.1,0,none⟩) 480 x.2.2),defers:=[]}) ?hAx ?assign ?body ?done
 case hKb=>
  intro V o o' ho kR;refine⟨by rw[World.putObj_size];exact zm _,λk h1 h2=>World.putObj_heap_other (λe=>?_)⟩;rcases h2 with⟨h2,_⟩|⟨Cx,fr,h2⟩
  ·omega
  ·rw[e,ho] at h2
   injection h2 with h2;subst h2;cases kR
 case hI=>
  refine jg ?_;rintro pre V V' ⟨vl,wl,xs,hI⟩ hs;refine⟨vl,wl,xs,hI.box.step hs (NC.Gv hI.box),aC hs hI.row (λb hb=>?_),hI.wlv.step hs,hI.ids,hI.sub,hI.nodup,hI.new,hI.step.inner hs (λk hk=>.inr hk.1)⟩;obtain⟨Cb,lV⟩:=aN hI.row hb;rintro⟨_,o,ho,kR⟩;rw[lV] at ho;injection ho with ho;subst ho;cases kR
 case hIs=>
  rintro pre V V' ⟨vl,wl,xs,hI⟩ hB;have hs:=Step.of_below hB (λ_=>False);exact⟨vl,wl,xs,hI.box.below hB,aC hs hI.row (λ_ _ h=>h),hI.wlv.step hs,hI.ids,hI.sub,hI.nodup,hI.new,hI.step.inner hs (λk hk=>hk.elim)⟩
 case h0=>exact⟨.slice none 0 0,[],[],Yd.o,⟨rQ,.inl ⟨rfl,rfl⟩⟩,Ep.nil _,rfl,sQ,sQ,λb hb=>by simp[Value.ownBlock] at hb,Step.refl _ _⟩
 case hAx=>
  intro pre x a';refine jg ?_;rintro _ V V' ⟨⟨h1,e,h2,h3,h4⟩,h5⟩ hs;refine⟨⟨h1,e,h2,h3,h4.block (hs.keep _ h4.lt (.inl λhn=>?_))⟩,h5⟩;obtain⟨_,o,ho,kR⟩:=hn;obtain⟨Cx,fr,h6,_⟩:=h4;rw[h6] at ho;injection ho with ho;subst ho;cases kR
 case assign=>
  rintro l pre x V K2 hI Ob hK;have HK:=U hK;have HI:=U hI;have HOk:=U Ob;clear hI Ob hK;subst dw;unfold aeO;gi_wp2;exact HK.o _ _ (KeepsFrom.refl _ _) (Rq.refl _ _) HI.o ⟨HOk.o,rfl⟩
 case body=>
  rintro l0 pre x a' V ⟨vl,wl,xs,hI⟩ ⟨Ob,rfl⟩ hzV;subst dw;simp only[zh,zk,zl];obtain⟨fJ,e,heL,hex,hr8⟩:=Ob;obtain⟨av,cv,rfl,BM⟩:=aR hI.row;have k4:=hI.box.cell 0;have f4:=hI.box.free 0;simp only[zf] at k4;have aos:((pre++[x]).map (·.1)).Nodup:=by
   rw[zW,zaY];refine⟨hI.nodup,sQ,λa ha b hb=>?_⟩;simp at hb;subst hb;exact λe=>fJ (e▸ha)
  have hlen:pre.length≤L.length:=by
   have h1:=aa0 (a:=pre.map (·.1)) (l:=L.map Prod.fst) hI.nodup (λy hy=>by
    rw[←hI.ids] at hy;obtain⟨z,hz1,hz2⟩:=qj.1 hy;exact qj.2 ⟨z,hI.sub z hz1,hz2⟩)
   simpa using h1
  obtain⟨gq,cap,V5,iT,ig,rH,Em⟩:=jk rT 126 V hI.row [.int .i64 x.1,.slice (some ⟨x.2.1,0,none⟩) 480 x.2.2] rfl (by simp[Value.oneCell']) oQ oQ 176
  have uN:Step (λk=>(Value.slice av pre.length cv).ownBlock=some k) V (λk=>(Value.slice av pre.length cv).ownBlock=some k) V5:=Step.bU rH (λr' e=>⟨e,by
   obtain⟨Cb,lV⟩:=aN hI.row e;rintro⟨C2,fr,h2⟩;rw[lV] at h2;injection h2 with h2;injection h2 with _ h2
   first|exact absurd h2 dQ|exact(Fr.no h2 dQ).elim⟩)
  have kS:=hI.box.step uN (λh=>by have:=hI.new _ h;omega);have k5:=kS.cell 0;have f5:=kS.free 0;simp only[zf] at k5;have Oc:Ep V [(x.1,e.2)] [.int .i64 x.1,.slice (some ⟨x.2.1,0,none⟩) 480 x.2.2]:=by
   refine⟨rfl,λi hi=>?_⟩;have:i=0:=by simpa using hi
   subst this;exact⟨rfl,some ⟨x.2.1,0,none⟩,x.2.2,rfl,(Hb.o.writes.2.1 e heL).2,hr8.pR⟩
  have aot:=(hI.wlv.append Oc).step uN;have HI:=U hI;have xJ:=U uN;have jR:=U kS;have yu:=U ig;have Qi:=U Em;have ave:=U aot;have avf:=U aos
  have avg:=U (show∀e'∈wl++[(x.1,e.2)],e'∈L from λe' LB=>by
   rcases qg.1 LB with h|h
   ·exact hI.sub e' h
   ·rw[zV.1 h,←hex]
    exact heL)
  clear hI uN kS ig Em rH aot Oc aos heL hr8;gi_wp2_with (gi_at_builtin;refine cK (.tmp 10) (.tmp 14) iT rfl rfl rfl rfl ?_);obtain⟨V6,lT⟩:∃V6,V5.setCell ⟨w.heap.size,0,none⟩ (.slice (some ⟨gq,0,none⟩) (pre.length+1) cap)=V6:=⟨_,rfl⟩
  have s6:Step (· =w.heap.size) V5 (· =w.heap.size) V6:=by rw[←lT];exact Step.set1 (jR.o.aV dQ) _ _
  have b6:ah V6 w.heap.size 126 [.slice (some ⟨gq,0,none⟩) (pre.length+1) cap]:=by rw[←lT];exact jR.o.aB 0 _
  rw[lT];have BN:=xJ.o.size;have U5:=s6.size
  have xK:∀k,k<V.heap.size→(Value.slice av pre.length cv).ownBlock≠some k→k≠w.heap.size→V6.heap[k]? =V.heap[k]?:=λk h1 h3 h4=>
   (s6.keep k oQ (.inl h4)).trans (xJ.o.keep k h1 (.inl h3))
  have hown:∀k,(Value.slice av pre.length cv).ownBlock=some k→w2.heap.size≤k∧∃Cb,V.heap[k]? =some (.cells Cb 176 (0,0)):=λk hk=>⟨HI.o.new k hk,aN HI.o.row hk⟩
  have Uh:w2.heap.size≤gq:=by
   rcases Qi.o with h|h
   ·exact(hown _ h).1
   ·omega
  have aM:=HI.o.box;refine⟨⟨oQ,λk o hk h0 kR=>(xK k (zo.1 h0).1 (λh=>?_) oQ).trans h0⟩,⟨oQ,λk h1 h2=>xK k h1 (λh=>?_) (λh=>?_)⟩,_,_,_,b6,?_,ave.o.step s6,?_,avg.o,avf.o,?_,?_⟩
  ·obtain⟨_,Cb,lV⟩:=hown k h
   rw[lV] at h0;injection h0 with h0;subst h0;cases kR
  ·obtain⟨_,Cb,lV⟩:=hown k h
   rcases h2 with⟨_,h2⟩|⟨C2,fr,h2⟩
   ·exact h2 ⟨Cb,_,lV⟩
   ·rw[lV] at h2
    injection h2 with h2;injection h2 with _ h2
    first|exact absurd h2 dQ|exact(Fr.no h2 dQ).elim
  ·rcases h2 with⟨h2,_⟩|h2
   ·omega
   ·exact aM.aV dQ (h▸h2)
  ·rw[zw,zY]
   refine aC s6 yu.o (λb hb=>?_);have:b=gq:=by simpa[Value.ownBlock] using hb.symm
   omega
  ·rw[zW,zW,HI.o.ids]
   rfl
  ·intro b hb
   have:b=gq:=by simpa[Value.ownBlock] using hb.symm
   omega
  ·exact(HI.o.step.inner xJ.o (λk hk=>.inr (hown k hk).1)).inner s6 (λk hk=>.inl hk)
 case done=>
  rintro pre D V uD hD ⟨vl,wl,xs,hI⟩ lI;subst dw;obtain⟨av,cv,rfl,BM⟩:=aR hI.row;have k4:=hI.box.cell 0;simp only[zf] at k4;have HI:=U hI;clear hI;gi_wp2;have hI:=HI.o;have s3:Step (NC w2.heap.size V) V (NC w2.heap.size V) (V.putObj D (.deferred none)):=Step.bU (grownBy_putObj' V D _) (λr' e=>by cases e;exact⟨⟨hD,_,lI,rfl⟩,NC.aV (B:=0) ⟨ql _,_,lI,rfl⟩⟩)
  have aZ:=aC s3 hI.row (λb hb=>by
   obtain⟨Cb,lV⟩:=aN hI.row hb;rintro⟨_,o,ho,kR⟩;rw[lV] at ho;injection ho with ho;subst ho;cases kR)
  have P9:Below w.heap.size w (V.putObj D (.deferred none)):=by
   have t1:Step (· =w.heap.size) w2 (· =w.heap.size) (V.putObj D (.deferred none)):=hI.step.inner s3 (λk hk=>.inr hk.1);exact bH.o.trans (t1.below (λk hk=>Yx hk.symm) oQ)
  rcases BM with⟨_,h0⟩|⟨gb,rfl,Pm⟩
  ·omega
  refine⟨sQ,.inl ⟨_,_,rfl,run_takeDeferred lI,?_⟩⟩;have fJ:=hI.new gb Pm;have Lx:wl.length=L.length:=by
   have:=congrArg List.length hI.ids;rw[zD,zD] at this;omega
  refine⟨.slice (some ⟨gb,0,none⟩) L.length cv,?_,gb,cv,wl,rfl,oQ,(hI.wlv.step s3).wrs aZ Pm,Lx,by rw[hI.ids];exact hI.nodup,hI.sub,P9⟩;rw[←uD];simp[results,Tryz.f61,go_sem]
theorem WH {wl:Wl} (hL:(L.map Prod.fst).Nodup) (hlen:wl.length=L.length) (hn:(wl.map Prod.fst).Nodup) (hs:∀e∈wl,e∈L):dW C wl=dW C L:=by
 have key:∀{A:Wl},(A.map Prod.fst).Nodup→∀e∈A,A.find? (λx=>x.1==e.1)=some e:=by
  intro A
  induction A with
  |nil=>intro _ e he;cases he
  |cons a A ih=>
   intro hn e he;rw[qy,za9] at hn;rcases zH.1 he with rfl|he
   ·simp
   ·have dV:¬(a.1=e.1):=λh=>hn.1 (h▸qj.2 ⟨e,he,rfl⟩)
    rw[List.find?_cons_of_neg (by simpa using dV)];exact ih hn.2 e he
 have aou:∀e∈L,e∈wl:=by
  intro e he;apply zaE;intro dV
  have h1:=aa0 (a:=e.1::wl.map Prod.fst) (l:=L.map Prod.fst) (by
   rw[za9];refine⟨λhm=>?_,hn⟩;obtain⟨x,wJ,oD⟩:=qj.1 hm;have h2:=key hL x (hs x wJ);have h3:=key hL e he;rw[oD] at h2;rw[h2] at h3;injection h3 with h3;exact dV (h3▸wJ)) (λy hy=>by
   rcases zH.1 hy with rfl|hy
   ·exact qj.2 ⟨e,he,rfl⟩
   ·obtain⟨x,wJ,oD⟩:=qj.1 hy
    exact qj.2 ⟨x,hs x wJ,oD⟩)
  simp at h1;omega
 funext i;unfold dW;rcases hf:L.find? (λe=>e.1==i) with _|e
 ·have h1:wl.find? (λe=>e.1==i)=none:=by
   rw[zaN] at hf ⊢;exact λx hx=>hf x (hs x hx)
  rw[h1,hf]
 ·have Gb:=qN hf
  have XQ:e.1=i:=by have:=List.find?_some hf;simpa using this
  have h1:=key hn e (aou e Gb);rw[XQ] at h1;rw[h1,hf]
end
end
section
open Go.Shelf
def Tryz.KZ:Go.Shelf.Ren:=⟨fun|171=>107|243=>175|246=>249|283=>291|284=>292|285=>293|286=>294|129=>337|317=>336|318=>338|319=>339|320=>340|337=>367|338=>368|n=>n,fun|3=>3|9=>9|2=>2|4=>4|171=>354|0=>0|53=>116|37=>22|5=>5|173=>357|212=>390|51=>115|20=>20|213=>391|46=>253|232=>427|233=>428|n=>n,fun|17=>2|18=>3|19=>4|n=>n⟩
theorem Tryz.aa1:Go.Proofs.LaysM.n171 Tryz.prog Tryz.KZ:={
 mixed:=by kernel_rfl
 f129:=Tryz.func337.trans (congrArg some (by kernel_rfl))
 f171:=Tryz.func107.trans (congrArg some (by kernel_rfl))
 f243:=Tryz.func175.trans (congrArg some (by kernel_rfl))
 f246:=Tryz.func249.trans (congrArg some (by kernel_rfl))
 f283:=Tryz.func291.trans (congrArg some (by kernel_rfl))
 f284:=Tryz.func292.trans (congrArg some (by kernel_rfl))
 f285:=Tryz.func293.trans (congrArg some (by kernel_rfl))
 f286:=Tryz.func294.trans (congrArg some (by kernel_rfl))
 f317:=Tryz.func336.trans (congrArg some (by kernel_rfl))
 f318:=Tryz.func338.trans (congrArg some (by kernel_rfl))
 f319:=Tryz.func339.trans (congrArg some (by kernel_rfl))
 f320:=Tryz.func340.trans (congrArg some (by kernel_rfl))
 f337:=Tryz.func367.trans (congrArg some (by kernel_rfl))
 f338:=Tryz.func368.trans (congrArg some (by kernel_rfl))
 t0:=Tryz.underlying0
 a0:=Tryz.isAgg0
 z0:=Tryz.sizeOf0
 v0:=Tryz.zeroValue0
 t2:=Tryz.underlying2
 a2:=Tryz.isAgg2
 z2:=Tryz.sizeOf2
 v2:=Tryz.zeroValue2
 t3:=Tryz.underlying3
 a3:=Tryz.isAgg3
 z3:=Tryz.sizeOf3
 v3:=Tryz.zeroValue3
 t4:=Tryz.underlying4
 a4:=Tryz.isAgg4
 z4:=Tryz.sizeOf4
 v4:=Tryz.zeroValue4
 t5:=Tryz.underlying5
 a5:=Tryz.isAgg5
 z5:=Tryz.sizeOf5
 v5:=Tryz.zeroValue5
 t9:=Tryz.underlying9
 a9:=Tryz.isAgg9
 z9:=Tryz.sizeOf9
 v9:=Tryz.zeroValue9
 t20:=Tryz.underlying20
 a20:=Tryz.isAgg20
 z20:=Tryz.sizeOf20
 v20:=Tryz.zeroValue20
 t37:=Tryz.underlying22
 a37:=Tryz.isAgg22
 z37:=Tryz.sizeOf22
 v37:=Tryz.zeroValue22
 t46:=Tryz.underlying253
 a46:=Tryz.isAgg253
 z46:=Tryz.sizeOf253
 v46:=Tryz.zeroValue253
 t51:=Tryz.underlying115
 a51:=Tryz.isAgg115
 z51:=Tryz.sizeOf115
 v51:=Tryz.zeroValue115
 t53:=Tryz.underlying116
 a53:=Tryz.isAgg116
 z53:=Tryz.sizeOf116
 v53:=Tryz.zeroValue116
 t171:=Tryz.underlying354
 a171:=Tryz.isAgg354
 z171:=Tryz.sizeOf354
 v171:=Tryz.zeroValue354
 t173:=Tryz.underlying357
 a173:=Tryz.isAgg357
 z173:=Tryz.sizeOf357
 v173:=Tryz.zeroValue357
 t212:=Tryz.underlying390
 a212:=Tryz.isAgg390
 z212:=Tryz.sizeOf390
 v212:=Tryz.zeroValue390
 t213:=Tryz.underlying391
 a213:=Tryz.isAgg391
 z213:=Tryz.sizeOf391
 t232:=Tryz.underlying427
 a232:=Tryz.isAgg427
 z232:=Tryz.sizeOf427
 v232:=Tryz.zeroValue427
 t233:=Tryz.underlying428
 a233:=Tryz.isAgg428
 z233:=Tryz.sizeOf428
 v233:=Tryz.zeroValue428
 g17:=by kernel_rfl
 g18:=by kernel_rfl
 g19:=by kernel_rfl
 i0:=by kernel_rfl
 i2:=by kernel_rfl
 i3:=by kernel_rfl
 i4:=by kernel_rfl
 i5:=by kernel_rfl
 i9:=by kernel_rfl
 i20:=by kernel_rfl
 i37:=by kernel_rfl
 i46:=by kernel_rfl
 i51:=by kernel_rfl
 i53:=by kernel_rfl
 i171:=by kernel_rfl
 i173:=by kernel_rfl
 i212:=by kernel_rfl
 i232:=by kernel_rfl
 i233:=by kernel_rfl
 m17:=by kernel_rfl
 m18:=by kernel_rfl
 m19:=by kernel_rfl}
open Go.RowKit Go.Sort Go.Lib in
theorem Tryz.strconv_Itoa (n:Int) (h0: -9223372036854775808≤n) (h1:n≤9223372036854775807) (w:World) (ahX:Lib.TabIs Tryz.prog w "internal/strconv.uint64pow10" .u64 Lib.pow10Tab):
  Calls Tryz.prog 107 #[.int .i64 n] w λe w'=>e=.returned (.string ⟨(Lib.itoa n).toArray⟩)∧∃k os,w'=grow (w.drewN k) os:=Any.strconv_Itoa Tryz.aa1 n h0 h1 w ahX
end
section
open Go.RowKit Go.Shelf O
theorem lW.own {w:World} {sp d:Nat} {s:JS} {C:Nat→Bytes} {cl:Bool} {F:Nat→Prop} (h:lW w sp d s C cl F):F d∧F sp:=by
 obtain⟨j,st,wt,Fj,h1,h2,h3,h4,h5,h6,h7⟩:=h;obtain⟨r,rb,t,pb,ob,Fd,f,g,h⟩:=h2;obtain⟨sb,ss,vw,xs,tb,cr,cw,cf,h'⟩:=h.dev;obtain⟨o1,o2,o3,o4,o5,o6,o7⟩:=h.own;exact⟨h3 _ (o7 _ h'.own.1),h4⟩
theorem lW.dirty {w:World} {sp d:Nat} {s:JS} {C:Nat→Bytes} {cl:Bool} {F:Nat→Prop} (h:lW w sp d s C cl F):lW w sp d s C false F:=by
 obtain⟨j,st,wt,Fj,h1,h2,h3,h4,h5,h6,h7⟩:=h;exact⟨j,st,wt,Fj,h1,h2,h3,h4,h5,h6,λe=>(by cases e)⟩
structure Glob (w:World):Prop where
 size:5≤w.heap.size
 crc:Md.bG w
 pow:Lib.TabIs Tryz.prog w "internal/strconv.uint64pow10" .u64 Lib.pow10Tab
theorem aeQ:Tryz.prog.globalNamed "internal/strconv.uint64pow10" =some 2:=kQ
theorem Glob.of {w w':World} (h:Glob w) (hk:∀k,k<5→w'.heap[k]? =w.heap[k]?) (hs:w.heap.size≤w'.heap.size):Glob w':=by
 refine⟨zC h.size hs,λy=>(zS (w:=w) (a:=⟨0,(Md.n4 y).toNat,none⟩) (hk 0 dQ)).trans (h.crc y),?_⟩;have h2:=h.pow;unfold Lib.TabIs World.var? at h2 ⊢;rw[aeQ] at h2 ⊢;simp only[Option.bind_some] at h2 ⊢;rw[hk _ dQ];exact h2
theorem Glob.step {w w':World} {G G':Nat→Prop} (h:Glob w) (hs:Step G w G' w') (hG:∀k,G k→5≤k):Glob w':=h.of (λk hk=>hs.keep k (by have:=h.size;omega) (.inl λhg=>by have:=hG k hg;omega)) hs.size
theorem Glob.below {w w':World} (h:Glob w) (hs:Below w.heap.size w w'):Glob w':=h.of (λk hk=>hs.block k (by have:=h.size;omega)) hs.size
def nk (x:Nat×Nat):Value:=.agg #[.int .i64 x.1,.int .i64 x.2]
abbrev Op:=Nat→Option (Nat×Nat)
structure jP (w:World) (fb sp d m n B P q:Nat) (s:JS) (C0 C:Nat→Bytes) (cl yo:Bool) (op:Op) (Fs:Nat→Prop):Prop where
 cells:ah w fb 106 [.pointer (some ⟨sp,0,none⟩),.map (some m)]
 map:bF w m n (λi=>(op i).map nk)
 p9:lW w sp d s C0 cl Fs
 is:s.B=B∧s.P=P∧s.seq=q∧(yo=true→yB s)
 con:(∀i,i<B→C0 i=C i)∧∀i,B≤i→C i=[]
 fs:¬Fs fb
 ms:¬Fs m
 few:n≤20
 tab:Glob w∧(∀k,Fs k→5≤k)∧5≤fb∧5≤m
def uE (Fs:Nat→Prop) (fb m:Nat):Nat→Prop:=λk=>Fs k∨k=fb∨k=m
def fI (w:World) (fb d B P q n:Nat) (C:Nat→Bytes) (cl yo:Bool) (op:Op) (F:Nat→Prop):Prop:=∃sp m s C0 Fs,jP w fb sp d m n B P q s C0 C cl yo op Fs∧F=uE Fs fb m
section
variable {w w':World} {fb sp d m n B P q:Nat} {s:JS} {C0 C:Nat→Bytes} {cl yo:Bool} {op:Op} {Fs F G G':Nat→Prop}
theorem jP.fm (h:jP w fb sp d m n B P q s C0 C cl yo op Fs):m≠fb:=h.map.fE h.cells
theorem jP.fd (h:jP w fb sp d m n B P q s C0 C cl yo op Fs):fb≠d∧m≠d:=⟨λe=>h.fs (e▸h.p9.own.1),λe=>h.ms (e▸h.p9.own.1)⟩
theorem jP.td (h:jP w fb sp d m n B P q s C0 C cl yo op Fs):5≤d:=h.tab.2.1 _ h.p9.own.1
theorem jP.lt (h:jP w fb sp d m n B P q s C0 C cl yo op Fs):∀k,uE Fs fb m k→k<w.heap.size:=by
 rintro k (hk|rfl|rfl)
 ·exact h.p9.lt k hk
 ·exact h.cells.lt
 ·exact h.map.lt
theorem jP.ge (h:jP w fb sp d m n B P q s C0 C cl yo op Fs):∀k,uE Fs fb m k→5≤k:=by
 rintro k (hk|rfl|rfl)
 ·exact h.tab.2.1 _ hk
 ·exact h.tab.2.2.1
 ·exact h.tab.2.2.2
theorem jP.step (h:jP w fb sp d m n B P q s C0 C cl yo op Fs) (hs:Step G w G' w') (hn:∀k,uE Fs fb m k→¬G k) (ht:∀k,G k→5≤k):jP w' fb sp d m n B P q s C0 C cl yo op Fs:=
 ⟨h.cells.step hs (hn _ (.inr (.inl rfl))),h.map.step hs (hn _ (.inr (.inr rfl))),h.p9.step hs (λk hk=>hn k (.inl hk)),h.is,h.con,h.fs,h.ms,h.few,h.tab.1.step hs ht,h.tab.2⟩
theorem jP.quiet (h:jP w fb sp d m n B P q s C0 C cl yo op Fs) (hq:Quiet d w w'):jP w' fb sp d m n B P q s C0 C cl yo op Fs:=
 ⟨(hq.keep _ h.cells.lt h.fd.1).trans h.cells,h.map.block (hq.keep _ h.map.lt h.fd.2),h.p9.quiet hq,h.is,h.con,h.fs,h.ms,h.few,h.tab.1.of (λk hk=>hq.keep k (by have:=h.tab.1.size;omega) (by have:=h.td;omega)) hq.size,h.tab.2⟩
theorem jP.Od (h:jP w fb sp d m n B P q s C0 C cl yo op Fs) (hq:Quiet d w w'):Step (uE Fs fb m) w (uE Fs fb m) w':=by
 obtain⟨vs,hv⟩:=h.p9.dev;exact(hq.step hv).up (.inl h.p9.own.1)
theorem jP.Ct (h:jP w fb sp d m n B P q s C0 C cl yo op Fs):rD s C0∧Geo B P:=by
 have h1:=h.p9.facts;rw[h.is.1,h.is.2.1] at h1;exact h1
theorem jP.base (h:jP w fb sp d m n B P q s C0 C cl yo op Fs) (hB:4≤B∧B≤3840):Base w sp d B C:=by
 refine⟨⟨s,cl,Fs,C0,h.p9,h.is.1,h.con.1⟩,hB,⟨hB.1,λi hi=>?_⟩,h.con.2⟩;rw[←h.con.1 i hi];exact h.Ct.1.len i
theorem fI.lt (h:fI w fb d B P q n C cl yo op F):∀k,F k→k<w.heap.size:=by
 obtain⟨sp,m,s,C0,Fs,h,rfl⟩:=h;exact h.lt
theorem fI.ge (h:fI w fb d B P q n C cl yo op F):(∀k,F k→5≤k)∧Glob w:=by
 obtain⟨sp,m,s,C0,Fs,h,rfl⟩:=h;exact⟨h.ge,h.tab.1⟩
theorem fI.step (h:fI w fb d B P q n C cl yo op F) (hs:Step G w G' w') (hn:∀k,F k→¬G k) (ht:∀k,G k→5≤k):fI w' fb d B P q n C cl yo op F:=by
 obtain⟨sp,m,s,C0,Fs,h,rfl⟩:=h;exact⟨sp,m,s,C0,Fs,h.step hs hn ht,rfl⟩
theorem fI.below (h:fI w fb d B P q n C cl yo op F) (hs:Below w.heap.size w w'):fI w' fb d B P q n C cl yo op F:=h.step (Step.of_below hs (λ_=>False)) (λ_ _ h=>h) (λ_ h=>h.elim)
theorem fI.quiet (h:fI w fb d B P q n C cl yo op F) (hq:Quiet d w w'):fI w' fb d B P q n C cl yo op F∧Step F w F w':=by
 obtain⟨sp,m,s,C0,Fs,h,rfl⟩:=h;exact⟨⟨sp,m,s,C0,Fs,h.quiet hq,rfl⟩,h.Od hq⟩
theorem fI.own (h:fI w fb d B P q n C cl yo op F):F d∧F fb:=by
 obtain⟨sp,m,s,C0,Fs,h,rfl⟩:=h;exact⟨.inl h.p9.own.1,.inr (.inl rfl)⟩
theorem fI.dirty (h:fI w fb d B P q n C cl yo op F):fI w fb d B P q n C false yo op F:=by
 obtain⟨sp,m,s,C0,Fs,h,rfl⟩:=h;exact⟨sp,m,s,C0,Fs,{h with p9:=h.p9.dirty},rfl⟩
theorem fI.Ct (h:fI w fb d B P q n C cl yo op F):Geo B P:=by
 obtain⟨sp,m,s,C0,Fs,h,rfl⟩:=h;exact h.Ct.2
theorem aa2 {E:Nat→Bytes} {L:Wl} (hn:(L.map Prod.fst).Nodup) (hl:∀e∈L,e.1<4000∧e.2.length=480) (hE:dW C L=E) (ho:∀i,B≤i→E i=[]):∀e∈L,e.1<B:=by
 intro e he;rcases zaL e.1 B with h|h
 ·exact h
 ·have h1:=SC (C:=C) hn he
  rw[hE,ho _ h] at h1;have:=(hl e he).2;rw[←h1] at this;cases this
end
end
section
open Go.ChangeShapes Go.WideShapes Go.ChangeAt Go.RowKit
theorem own:ownKnob Tryz.prog.godebug=none:=kQ
theorem Tryz.Oe:laidOutB Tryz.prog=true:=kQ
theorem aov:Tryz.prog.globalNamed "harrow/crc.half" =some 0:=kQ
theorem aa4:(Tryz.prog.globals[0]?).map (·.type)=some 328:=kQ
theorem aa5:Tryz.prog.cellsOf 328=16:=kQ
theorem aa6:Tryz.prog.cellsOf 115=1:=kQ
theorem avh:Tryz.prog.globalNamed "internal/strconv.uint64pow10" =some 2:=kQ
theorem aa7:(Tryz.prog.globals[2]?).map (·.type)=some 390:=kQ
theorem aa8:Tryz.prog.cellsOf 390=20:=kQ
theorem WI:Tryz.prog.cellsOf 116=1:=kQ
theorem avi:Tryz.prog.globalNamed "math/bits.deBruijn64tab" =some 4:=kQ
def Og:List Int:=[0,498536548,997073096,651767980,1994146192,1802195444,1303535960,1342533948,3988292384,4027552580,3604390888,3412177804,2607071920,2262029012,2685067896,3183342108]
theorem aa9:∀y:BitVec 4,Og.getD (Md.n4 y).toNat 0=n32 (M.hf y):=by decide+kernel
theorem su {P:Program} {x:String×DataW Unit} {r:List (String×DataW Unit)} {W:World} (h:laidMet P (x::r) W):laidMet P r W:=by
 obtain⟨ps,⟨g,t,cs,fuel,p,q,h1,h2,h3,h4,h5,rfl⟩,hc⟩:=h;exact⟨q,h5,(zaY.1 hc.1).2.1,λb off hm=>hc.2 b off (List.mem_append_right _ hm)⟩
theorem Oh {P:Program} {n:String} {d:DataW Unit} {r:List (String×DataW Unit)} {W:World} (h:laidMet P ((n,d)::r) W):∃cs,W.var? P n=some cs:=by
 obtain⟨ps,⟨g,t,cs,fuel,p,q,h1,h2,h3,h4,h5,h6⟩,hc⟩:=h;exact⟨cs,h3⟩
def lists:List (String×DataW Unit):=[("harrow/crc.half",Rows.laid_harrow_crc_half),("math/bits.deBruijn32tab",Rows.laid_math_bits_deBruijn32tab),("math/bits.deBruijn64tab",Rows.laid_math_bits_deBruijn64tab),("internal/strconv.uint64pow10",Rows.laid_internal_strconv_uint64pow10)]
theorem TR {W:World} (h:laidMetH Tryz.prog lists W):Glob W:=by
 have h0:laidMet Tryz.prog lists W:=h;have h2:=su (su h0);have h3:=su h2;refine⟨?_,?_,?_⟩
 ·obtain⟨cs,hv⟩:=Oh h2
  unfold World.var? at hv;rw[avi] at hv;simp only[Option.bind_some] at hv;rcases hg:W.heap[4]? with _|o
  ·rw[hg] at hv
   cases hv
  ·have:=(zo.1 hg).1
   omega
 ·have ht:Lib.TabIs Tryz.prog W "harrow/crc.half" .u32 Og:=Lib.tabIs_of_head (rest:=lists.tail) aov aa4 Tryz.underlying328 Tryz.underlying115 aa6 aa5 h0
  intro y;have hy:(Md.n4 y).toNat<Og.length:=by have:=(Md.afO y);simp[Og];omega
  rw[←aa9 y];exact ht.cell aov _ hy
 ·have e:(Rows.laid_internal_strconv_uint64pow10:DataW Unit)=Lib.tabData .u64 Lib.pow10Tab:=kQ
  have h4:laidMet Tryz.prog [("internal/strconv.uint64pow10",Rows.laid_internal_strconv_uint64pow10)] W:=h3;rw[e] at h4;exact Lib.tabIs_of_head (rest:=[]) avh aa7 Tryz.underlying390 Tryz.underlying116 WI aa8 h4
def TS (h:Array Obj) (g:Nat) (vs:List Value):Array Obj:=h.modify g fun
 | .cells _ t frozen=>.cells vs.toArray t frozen
 |o=>o
noncomputable def mO (os:Os):World:=
 {World.holding Tryz.prog os ⟨#[],#[],[]⟩ with heap:=TS (TS (TS (TS (World.holding Tryz.prog os ⟨#[],#[],[]⟩).heap 0 (Og.map (Value.int .u32))) 2 (Lib.pow10Tab.map (Value.int .u64))) 3 (Lib.deBruijn32tab.map λ(n:Nat)=>Value.int .u8 (n:Int))) 4 (Lib.deBruijn64tab.map λ(n:Nat)=>Value.int .u8 (n:Int))}
end
end Go.Proofs.YtdjdpeadohobmaaGreatDoor
