/- A part of the walk below the law: what is proved here is used by later parts; no further condition. -/
import Derived.Deep.RegionHeld3
import Derived.Test.YtdjdpeadohobmaaGreatDoorK05
import Derived.Test.YtdjdpeadohobmaaGreatDoorK09
set_option linter.unusedVariables false
set_option linter.unusedSimpArgs false
set_option maxRecDepth 100000
set_option maxHeartbeats 20000000
namespace Go.Proofs.YtdjdpeadohobmaaGreatDoor
section
open Go.RowKit Go.Shelf
attribute [local go_sem] Oper.semAt_some
theorem UN {w:World} {tb:Nat} (h:rG w tb) (i:Nat) (hi:i<9223372036854775808):(Instr.lookup 71 (.map (some tb)) (.int .i64 i) true).run Tryz.prog w=.ok (.tuple #[.agg #[],.bool false]) w:=by
 have hz:(zeroValue 99).run Tryz.prog w=.ok (.agg #[]) w:=kQ
 obtain⟨v,ps,hr,hv⟩:=h.look_ok bP Tryz.underlying71 hz unitElem_mk (Maps.keyOf_int_mk Tryz.underlying3 (YL i hi));obtain⟨rfl,_⟩:=unitElem_inv hv;exact hr
abbrev Waits (w:World):={x:Nat×Option Addr×Bytes // x.2.2.length=512∧cZ w x.2.1 x.2.2}
theorem Qa {w:World} {wt:Wt} {xs:List Value} (h:WtV w wt xs):∃L:List (Waits w),L.map (λx=>(x.1.1,x.1.2.2))=wt∧∀j (hj:j<L.length),xs[2*j]? =some (.int .i64 L[j].1.1)∧xs[2*j+1]? =some (.slice L[j].1.2.1 512 512):=by
 have:∀m,m≤wt.length→∃L:List (Waits w),L.map (λx=>(x.1.1,x.1.2.2))=wt.take m∧∀j (hj:j<L.length),xs[2*j]? =some (.int .i64 L[j].1.1)∧xs[2*j+1]? =some (.slice L[j].1.2.1 512 512):=by
  intro m
  induction m with
  |zero=>intro _;exact⟨[],rfl,λj hj=>absurd hj sQ⟩
  |succ m ih=>
   intro hm;obtain⟨L,h1,h2⟩:=ih oQ;obtain⟨g1,a,g2,g3,g4⟩:=h m oQ;have hl:L.length=m:=by
    have:=congrArg List.length h1;simpa[qP (show m≤wt.length by omega)] using this
   refine⟨L++[⟨(wt[m].1,a,wt[m].2),g3,g4⟩],?_,?_⟩
   ·rw[zW,h1,←List.take_append_getElem (show m<wt.length by omega)]
    rfl
   ·intro j hj
    rw[zw,zY] at hj;by_cases hjm:j<L.length
    ·rw[zaG hjm]
     exact h2 j hjm
    ·obtain rfl:j=m:=oQ
     rw[zaj oQ];simp only[hl,zbc,List.getElem_cons_zero];exact⟨g1,g2⟩
 obtain⟨L,h1,h2⟩:=this wt.length (zm _);exact⟨L,by rw[h1,zae],h2⟩
theorem adB {st:Nat→Bytes} {w:World} (L:List (Waits w)) (i:Nat):(∀x∈L.reverse,x.1.1≠i)→view st (L.map (λx=>(x.1.1,x.1.2.2))) i=st i:=by
 intro h;unfold view;rw[←List.map_reverse,zaN.2];intro x hx;obtain⟨y,hy,rfl⟩:=qj.1 hx;simpa using h y hy
theorem Zc {st:Nat→Bytes} {w:World} {L:List (Waits w)} {i:Nat} {pre:List (Waits w)} {x:Waits w} (hp:pre++[x]<+:L.reverse) (hn:∀y∈pre,y.1.1≠i) (hx:x.1.1=i):view st (L.map (λx=>(x.1.1,x.1.2.2))) i=x.1.2.2:=by
 obtain⟨r,hr⟩:=hp;unfold view;rw[←List.map_reverse,←hr,zW,zW,zP,List.find?_append,zaN.2]
 ·simp[hx]
 ·intro z hz
  obtain⟨y,hy,rfl⟩:=qj.1 hz;simpa using hn y hy
theorem IC {w:World} {d n:Nat} {st:Nat→Bytes} {wt:Wt} {F:Nat→Prop} (h:Dev w d n st wt false F) (i:Nat) (hi:i<n) (hl:∀k,(st k).length=512):
  Calls Tryz.prog 177 #[.pointer (some ⟨d,0,none⟩),.int .i64 i] w λe w'=>(∃g,e=.returned (.tuple #[.slice (some ⟨g,0,none⟩) 512 512,.int .i64 0])∧cZ w' (some ⟨g,0,none⟩) (view st wt i))∧Dev w' d n st wt false F∧Step F w F w'∧Quiet d w w':=by
 have H0:=U h;obtain⟨sb,ss,vw,xs,tb,cr,cw,cf,h⟩:=h;have bA:=h.few.2.2;have hd:=h.cells.lt;refine(callsIn_wide (n:=3)).1 ?_;refine callsIn_of_wp_marks Tryz.func177 rfl trivial ?_ rfl;simp only[Tryz.ntmps177,zQ,zA,zN,Nat.reduceAdd,Nat.reduceSub,zJ,zK,zT,zM,zB,zU];obtain⟨wa,vH⟩:∃wa,((w.alloc (.cells #[.int .i64 i] 3)).alloc (.cells #[.slice none 0 0] 22)).alloc (.cells #[.int .i64 0] 26)=wa:=⟨_,rfl⟩
 have hsa:Step F w F wa:=by rw[←vH];exact((Step.alloc _ _ _).trans (Step.alloc _ _ _)).trans (Step.alloc _ _ _)
 have gJ:wa.heap.size=w.heap.size+3:=by rw[←vH];simp
 have b0:ah wa w.heap.size 3 [.int .i64 i]:=by
  rw[←vH];exact((ah.new w 3 [.int .i64 i]).below ((zn _ _).alloc (zm _) _)).below ((zn _ _).alloc (zm _) _)
 have b1:ah wa (w.heap.size+1) 22 [.slice none 0 0]:=by
  rw[←vH];exact(ah.at sQ 22 [.slice none 0 0]).below ((zn _ _).alloc (zm _) _)
 have b2:ah wa (w.heap.size+1+1) 26 [.int .i64 0]:=by
  rw[←vH];exact ah.at sQ 26 [.int .i64 0]
 have h1:iG wa d n st wt false F sb ss vw xs tb cr cw cf:=by
  rw[←vH];exact h.step (G:=λ_=>False) (G':=λ_=>False) (((Step.alloc _ _ _).trans (Step.alloc _ _ _)).trans (Step.alloc _ _ _)) (λ_ _ h=>h)
 have k0:=b0.cell 0;simp only[zf] at k0;have H1:=U (show Dev wa d n st wt false F from⟨_,_,_,_,_,_,_,_,h1⟩);gi_wp2_with fail;refine⟨trivial,(callsIn_wide.2 (SG H1.o i oQ oQ)).mono ?_⟩;rintro e w' ⟨rfl,rfl⟩;gi_wp2_with fail;refine⟨trivial,(callsIn_wide.2 (Dw H1.o)).mono ?_⟩;rintro e w' ⟨rfl,rfl⟩;have c3:=h1.h_ 3;simp only[oz,zf,zi] at c3;have f3:=h1.cells.free 3;obtain⟨wb,vI⟩:∃wb,wa.setCell ⟨d,3,none⟩ (.int .i64 (wrap64 (cr+1)))=wb:=⟨_,rfl⟩
 have hsd:Step (· =d) wa (· =d) wb:=by rw[←vI];exact Step.set1 (h1.cells.aV dQ) 3 _
 have h2:iG wb d n st wt false F sb ss vw xs tb (wrap64 (cr+1)) cw cf:=h1.turn hsd (by rw[←vI];exact h1.cells.aB 3 _);have hqb:Quiet d w wb:=by
  rw[←vI];exact(Quiet.of_below (by rw[←vH];exact(((zn _ _).alloc (zm _) _).alloc sQ _).alloc (by simp;omega) _)).trans (Quiet.count d wa _)
 have XY:Step F w F wb:=hsa.trans (hsd.up h1.own.1);have JL:wb.heap.size=w.heap.size+3:=by rw[←vI];simpa[World.setCell] using gJ
 have b0':=b0.step hsd (by show¬(w.heap.size=d);omega);have b1':=b1.step hsd (by show¬(w.heap.size+1=d);omega);have b2':=b2.step hsd (by show¬(w.heap.size+1+1=d);omega);clear vH;gi_wp2_with fail;clear c3 f3 vI hsd b0 b1 b2 k0 hsa h1 H1 gJ;refine⟨trivial,(callsIn_wide.2 (PN d _)).mono ?_⟩;rintro e w' ⟨rfl,rfl⟩;have hsc:Step (λ_=>False) wb (λ_=>False) (wb.alloc (.cells #[.pointer (some ⟨d,0,none⟩)] 49)):=Step.alloc _ _ _;have h3:=h2.step hsc (λ_ _ h=>h);have b3:ah (wb.alloc (.cells #[.pointer (some ⟨d,0,none⟩)] 49)) wb.heap.size 49 [.pointer (some ⟨d,0,none⟩)]:=ah.new _ _ _;obtain⟨w0,MC⟩:∃w0,wb.alloc (.cells #[.pointer (some ⟨d,0,none⟩)] 49)=w0:=⟨_,rfl⟩
 have aAu:w0.heap.size=w.heap.size+4:=by rw[←MC];simp[JL]
 have wS:Step F w F w0:=by rw[←MC];exact XY.trans (Step.alloc _ _ _)
 have iq:Quiet d w w0:=by rw[←MC];exact hqb.trans (Quiet.of_below ((zn _ _).alloc (zm _) _))
 have a0:=b0'.step hsc (λh=>h);have a1:=b1'.step hsc (λh=>h);have a2:=b2'.step hsc (λh=>h);rw[MC] at h3 b3 a0 a1 a2;rw[JL] at b3;simp only[JL,MC];clear MC hsc h2 b0' b1' b2' XY JL;have gD:=h3.few.1;obtain⟨L,hL1,hL2⟩:=Qa h3.waits;have hLl:L.length=wt.length:=by rw[←hL1,zD]
 obtain⟨g,cap,hg,Aq⟩:∃g cap,(L≠[]→g<w0.heap.size∧vw.ownBlock=some g)∧(w0.cell? ⟨d,1,none⟩=some (.slice (some ⟨g,0,none⟩) L.length cap)∨(L=[]∧∃a c,w0.cell? ⟨d,1,none⟩=some (.slice a 0 c))):=by
  have c1:=h3.h_ 1;simp only[oz,zf,zi] at c1;rcases h3.wait.2 with⟨e,e2⟩|⟨g,cap,cur,e,_,hb,_⟩
  ·have:L=[]:=zX oQ
   exact⟨0,0,λdV=>absurd this dV,.inr ⟨this,none,0,by rw[c1,e]⟩⟩
  ·exact⟨g,cap,λ_=>⟨(zo.1 hb).1,by rw[e];rfl⟩,.inl (by rw[c1,e,hLl])⟩
 have ahw:=JN (λx:Waits w0=>x.1.1) (λx=>x.1.2.1) (3 - 1) dQ (w.heap.size+3) w0.heap.size d g cap L oQ w0 (zm _) oQ oQ (λdV=>(hg dV).1) (b3.cell 0) Aq (λj hj=>by
  obtain⟨q1,q2⟩:=hL2 j hj;have Pm:=(hg (by rintro rfl;simp at hj)).2;rw[zaM];exact⟨bL h3.wait Pm _ q1,bL h3.wait Pm _ q2⟩)
 have asr:=wS;have MF:∀k,F k→k<w.heap.size:=h.lt;have fwd:∀{W:World},Step (λk=>k=w.heap.size+1∨k=w.heap.size+1+1) w0 (λk=>k=w.heap.size+1∨k=w.heap.size+1+1) W→Step F w F W:=λhs=>asr.inner hs (λk hk=>by right;omega);have fwq:∀{W:World},Step (λk=>k=w.heap.size+1∨k=w.heap.size+1+1) w0 (λk=>k=w.heap.size+1∨k=w.heap.size+1+1) W→Quiet d w W:=λhs=>iq.inner hs (λk hk=>oQ) hd;have H3:=U h3;have HL1:=U hL1;have HLl:=U hLl;have Hl:=U hl;have CU:=U wS;clear Aq hg hL1 hL2 h3 hLl hl wS;gi_wp2_with fail;rename_i K hKr
 refine wpIn_rangeFunc_ownH (n:=3) rfl dQ (gf:=295) (lb:=#[.pointer (some ⟨w.heap.size+3,0,none⟩)]) rfl trivial (enters_of Tryz.func295 kQ rfl)
  ahw belowK_t (belowK_b (zm _)) (zn _ _) (λ_=>rfl)
  (λpre W=>(∀y∈pre,y.1.1≠i)∧Below w0.heap.size w0 W)
  (λc pre W=>(c=.ret∧∃p x,pre=p++[x]∧(∀y∈p,y.1.1≠i)∧x.1.1=i∧True)∧(∃g':Nat,∃x:Waits w0,pre.getLast? =some x∧(ah W (w.heap.size+1) 22 [.slice (some ⟨g',0,none⟩) 512 512]∧cZ W (some ⟨g',0,none⟩) x.1.2.2))∧ah W (w.heap.size+1+1) 26 [.int .i64 0]∧Step (λk=>k=w.heap.size+1∨k=w.heap.size+1+1) w0 (λk=>k=w.heap.size+1∨k=w.heap.size+1+1) W)
  ?hI ?hIx ?h0
  (λx a' W=>∃Bx,w0.heap.size≤Bx∧ah W Bx 97 [.int .i64 x.1.1,.slice x.1.2.1 512 512]∧a'={tmps:=#[.pointer (some ⟨d,0,none⟩),.int .i64 i,undef,.pointer (some ⟨w.heap.size,0,none⟩),.pointer (some ⟨w.heap.size+1,0,none⟩),.pointer (some ⟨w.heap.size+1+1,0,none⟩),.int .i64 0,.pointer (some ⟨Bx,0,none⟩),undef,undef,.pointer (some ⟨d,0,none⟩),.int .i64 i,.bool true,.bool false,.pointer (some ⟨d,0,none⟩),.int .i64 0,.int .i64 0,.bool false,undef,.pointer (some ⟨d,0,none⟩),.pointer (some ⟨d,0,none⟩),.pointer (some ⟨d,3,none⟩),.pointer (some ⟨d,3,none⟩),.int .i64 cr,.int .i64 (wrap64 (cr+1)),.pointer (some ⟨d,0,none⟩),.pointer (some ⟨d,3,none⟩),.pointer (some ⟨d,3,none⟩),.pointer (some ⟨d,0,none⟩),.func (.func 295) #[] #[.pointer (some ⟨w.heap.size+3,0,none⟩)],.agg #[.int .i64 x.1.1,.slice x.1.2.1 512 512],undef,undef,undef,undef,undef,undef,undef,undef,undef,undef,undef,undef,undef,undef,undef,undef,undef,undef,undef,undef,undef,undef,undef,undef,undef],defers:=[]})
  ?hAx ?assign ?body ?done ?stop
 case hI=>exact OwnFrom.and (ownFrom_pure _ _) (ownFrom_below (zm _) (zm _))
 case hIx=>exact λc=>OwnFrom.and (ownFrom_pure _ _) (OwnFrom.and (wR λg'=>wR λx=>OwnFrom.and (ownFrom_pure _ _) (OwnFrom.and (Own.from (J5 _ _ _) _) (Own.from (S_ _ _) _))) (OwnFrom.and (Own.from (J5 _ _ _) _) J4))
 case h0=>exact⟨sQ,zn _ _⟩
 case hAx=>exact λx a'=>wR λBx=>OwnFrom.and (ownFrom_pure _ _) (OwnFrom.and (Own.from (J5 _ _ _) _) (ownFrom_pure _ _))
 case assign=>
  rintro l pre x W K ⟨hn,hB⟩ hK;gi_wp2;exact hK _ _ ((KeepsOthers.alloc _ _).from _) ((zn _ W).alloc hB.size _) ⟨hn,hB.alloc hB.size _⟩ ⟨W.heap.size,hB.size,ah.new _ _ _,rfl⟩
 case body=>
  rintro l pre x a' W yh ⟨r,hr⟩ ⟨hn,hB⟩ ⟨Bx,hBx,bX,rfl⟩ bA;have e0:=(hB.cell (p:=⟨w.heap.size,0,none⟩) (show w.heap.size<w0.heap.size by omega)).trans (a0.cell 0);have e1:=bX.cell 0;have e2:=bX.cell 1;simp only[zf,zi] at e0 e1 e2;have HN:=U hn;have HB:=U hB;clear hn hB;by_cases hx:x.1.1=i
  ·have hxb:((x.1.1:Int)==(i:Int))=true:=by rw[beq_iff_eq];omega
   gi_wp2_with fail;refine⟨trivial,(CallsIn.inRound l (callsIn_wide.2 (wH (x.2.2.below HB.o) x.2.1))).mono ?_⟩;rintro e w' ⟨gq,rfl,Uh,dO,XZ⟩;have wI:x.1.2.2.take 512++zeros (512 - 512)=x.1.2.2:=by rw[zy (by rw[x.2.1];exact zm _)];simp[zeros]
   rw[wI] at dO;have adC:=HB.o.trans (XZ.mono HB.o.size);have q1:=a1.below adC;have q2:=a2.below adC;have r1:=q1.cell 0;have r2:=q2.cell 0;have t1:=q1.free 0;have t2:=q2.free 0;simp only[zf] at r1 r2;have HBc:=U adC;have HQ1:=U q1;have UO:=U q2;have pU:=U dO;have HBW:=U XZ;clear XZ adC q1 q2 dO wI e0 e1 e2;gi_wp2_with fail;have s1:Step (λk=>k=w.heap.size+1∨k=w.heap.size+1+1) w' (λk=>k=w.heap.size+1∨k=w.heap.size+1+1) (w'.setCell ⟨w.heap.size+1,0,none⟩ (.slice (some ⟨gq,0,none⟩) 512 512)):=Step.setCell (.inl rfl) (HQ1.o.aV dQ) 0 _;have q2':=zI w' ⟨w.heap.size+1,0,none⟩ (.slice (some ⟨gq,0,none⟩) 512 512) (w.heap.size+1+1) (by show w.heap.size+1+1≠w.heap.size+1;omega);have v2:ah (w'.setCell ⟨w.heap.size+1,0,none⟩ (.slice (some ⟨gq,0,none⟩) 512 512)) (w.heap.size+1+1) 26 [.int .i64 0]:=q2'.trans UO.o;have s2:Step (λk=>k=w.heap.size+1∨k=w.heap.size+1+1) _ (λk=>k=w.heap.size+1∨k=w.heap.size+1+1) ((w'.setCell ⟨w.heap.size+1,0,none⟩ (.slice (some ⟨gq,0,none⟩) 512 512)).setCell ⟨w.heap.size+1+1,0,none⟩ (.int .i64 0)):=Step.setCell (.inr rfl) (v2.aV dQ) 0 _;refine⟨⟨?_,?_⟩,⟨⟨rfl,pre,x,rfl,HN.o,hx,trivial⟩,⟨gq,x,sQ,?_,(pU.o.step s1).step s2⟩,v2.aB 0 _,((Step.of_below HBc.o _).trans s1).trans s2⟩⟩
   ·have:=HBW.o.size
    simpa[World.setCell] using this
   ·intro k o hk h0 ho
    rw[zI _ _ _ _ (by show k≠w.heap.size+1+1;omega),zI _ _ _ _ (by show k≠w.heap.size+1;omega),HBW.o.block k (zo.1 h0).1];exact h0
   ·exact(zI _ _ _ _ (by show w.heap.size+1≠w.heap.size+1+1;omega)).trans (HQ1.o.aB 0 _)
  ·have hxb:((x.1.1:Int)==(i:Int))=false:=by rw[beq_eq_false_iff_ne];omega
   gi_wp2;exact⟨KeepsFrom.refl _ _,zn _ _,⟨λy hy=>(qg.1 hy).elim (HN.o y) (λe=>by rw[zV] at e;subst e;exact hx),HB.o⟩⟩
 case done=>
  rintro D ys W hD rfl ⟨hn,hB⟩ hK;refine hKr _ _ ?_;refine wpIn_wide.2 ?_;have hk:∀W,Below w0.heap.size w0 W→(Below w0.heap.size w0 W∧W.cell? ⟨d,2,none⟩=some (.map (some tb))∧W.cell? ⟨w.heap.size,0,none⟩=some (.int .i64 i)∧rG W tb):=λW hW=>by
   have h5:=H3.o.step (G:=λ_=>False) (G':=λ_=>False) (Step.of_below hW _) (λ_ _ h=>h);exact⟨hW,h5.h_ 2,(hW.cell (p:=⟨w.heap.size,0,none⟩) (show w.heap.size<w0.heap.size by omega)).trans (a0.cell 0),h5.tT⟩
  have HB:=U hB;have HN:=U hn;clear hB hn;go_wp2_with fail;refine wp_region_noPanic ?_;refine ak (S:=(λW=>Below w0.heap.size w0 W∧W.cell? ⟨d,2,none⟩=some (.map (some tb))∧W.cell? ⟨w.heap.size,0,none⟩=some (.int .i64 i)∧rG W tb)) (m:=12) kQ (hk _ HB.o.drew) (λaj=>?_);refine te 0 aj ?_;refine te 1 aj ?_;refine te 2 aj ?_;refine te 3 aj ?_;refine te 4 aj ?_;refine te 5 aj ?_ (v:=(.tuple #[.agg #[],.bool false])) (hy:=by intro W iR;(try dsimp only at iR);(have yh:=UN iR.2.2.2 i oQ;go_simp;(try with_reducible rfl)));refine te 6 aj ?_;refine te 7 aj ?_;refine te 8 aj ?_;refine rE 9 λK hK=>?_;go_simp;refine hK.out _ _ (λ_=>(hk _ (HB.o.drew.alloc HB.o.drew.size _))) (λhS=>?_);have bQ:=hS dQ;clear hS hK K
  try simp only[Act.put,zh,zk,zl]
  refine rE 10 λK hK=>?_;go_simp;refine hK.out _ _ (λ_=>(hk _ (HB.o.drew.alloc HB.o.drew.size _))) (λhS=>?_);have bV:=hS dQ;clear hS hK K
  try simp only[Act.put,zh,zk,zl]
  refine te 11 bV ?_;refine aD ?_;obtain⟨W2,lZ⟩:∃W2,(W.alloc (.cells #[] 99)).drew=W2:=⟨_,rfl⟩
  have bH:=U (show Below w0.heap.size w0 W2 by rw[←lZ];exact(HB.o.alloc HB.o.size _).drew);have HK2:=U (show W2.heap[D]? =some (.deferred (some [])) by rw[←lZ];exact(zal _ _ _ (zo.1 hK).1).trans hK);rw[lZ];clear lZ hk hK;have hi0:(0:Int)≤(i:Int):=oQ
  have Ij:(i:Int)<(n:Int):=oQ
  obtain⟨vi,hvi⟩:∃v,ss[i]? =some v:=⟨_,zu (by rw[H3.o.len];exact hi)⟩
  obtain⟨av,mv,cv,lv,rfl,hmv,hbv,hlv⟩:∃av mv cv lv,vi=.slice av mv cv∧lv.length=mv∧cZ w0 av lv∧lv.take 512++zeros (512 - mv)=st i:=by
   rcases H3.o.secs i vi hvi with⟨h1,h2⟩|⟨a,h1,h2,h3⟩
   ·exact⟨none,0,0,[],h1,rfl,cZ.nil _ _,by rw[h2];rfl⟩
   ·exact⟨a,512,512,st i,h1,h2,h3,by rw[zy oQ];simp[zeros]⟩
  have eO:∀W,Below w0.heap.size w0 W→(W.cell? ⟨d,0,none⟩=some (.slice (some ⟨sb,0,none⟩) n n)∧W.cell? ⟨w.heap.size,0,none⟩=some (.int .i64 i)∧W.cell? ⟨sb,i,none⟩=some (.slice av mv cv)):=λW hW=>by
   have h5:=H3.o.step (G:=λ_=>False) (G':=λ_=>False) (Step.of_below hW _) (λ_ _ h=>h);exact⟨h5.h_ 0,(hW.cell (p:=⟨w.heap.size,0,none⟩) (show w.heap.size<w0.heap.size by omega)).trans (a0.cell 0),(h5.row.cell i).trans hvi⟩
  have Hbv:=U hbv;clear hbv hvi;go_wp2_with fail;refine wp_region_noPanic ?_;refine ak (S:=(λW=>W.cell? ⟨d,0,none⟩=some (.slice (some ⟨sb,0,none⟩) n n)∧W.cell? ⟨w.heap.size,0,none⟩=some (.int .i64 i)∧W.cell? ⟨sb,i,none⟩=some (.slice av mv cv))) (m:=8) kQ (eO _ bH.o.drew) (λaj=>?_);refine te 0 aj ?_;refine te 1 aj ?_;refine te 2 aj ?_;refine te 3 aj ?_;refine te 4 aj ?_;refine te 5 aj ?_;refine te 6 aj ?_;refine rE 7 λK hK=>?_;go_simp;refine(wH (Hbv.o.below (bH.o.drew)) hmv).mono ?_;rintro e w5 ⟨gq,rfl,Uh,dO,XZ⟩;rw[hlv] at dO;have jR:=U (bH.o.drew.trans (XZ.mono bH.o.drew.size));have HBc:=U XZ;have pU:=U dO;have q1:=a1.below jR.o;have q2:=a2.below jR.o;have Q1:=U q1;have Q2:=U q2;have r1:=q1.cell 0;have r2:=q2.cell 0;have t1:=q1.free 0;have t2:=q2.free 0;simp only[zf] at r1 r2;clear XZ dO q1 q2;go_wp2_with fail;refine hK.out _ _ (λ_=>(eO _ jR.o)) (λhS=>?_);have bQ:=hS dQ;clear hS hK K
  try simp only[Act.put,zh,zk,zl]
  refine rE 8 λK hK=>?_;go_simp;refine kX hK ?_;clear hK K
  try simp only[Act.put,zh,zk,zl]
  refine rE 9 λK hK=>?_;go_simp;refine kX hK ?_;clear hK K
  try simp only[Act.put,zh,zk,zl]
  refine aD ?_;go_wp2_with fail;have s1:Step (λk=>k=w.heap.size+1∨k=w.heap.size+1+1) w5 (λk=>k=w.heap.size+1∨k=w.heap.size+1+1) (w5.setCell ⟨w.heap.size+1,0,none⟩ (.slice (some ⟨gq,0,none⟩) 512 512)):=Step.setCell (.inl rfl) (Q1.o.aV dQ) 0 _;have q2':=zI w5 ⟨w.heap.size+1,0,none⟩ (.slice (some ⟨gq,0,none⟩) 512 512) (w.heap.size+1+1) (by show w.heap.size+1+1≠w.heap.size+1;omega);have v2:ah (w5.setCell ⟨w.heap.size+1,0,none⟩ (.slice (some ⟨gq,0,none⟩) 512 512)) (w.heap.size+1+1) 26 [.int .i64 0]:=q2'.trans Q2.o;have s2:Step (λk=>k=w.heap.size+1∨k=w.heap.size+1+1) _ (λk=>k=w.heap.size+1∨k=w.heap.size+1+1) ((w5.setCell ⟨w.heap.size+1,0,none⟩ (.slice (some ⟨gq,0,none⟩) 512 512)).setCell ⟨w.heap.size+1+1,0,none⟩ (.int .i64 0)):=Step.setCell (.inr rfl) (v2.aV dQ) 0 _;have v1:ah ((w5.setCell ⟨w.heap.size+1,0,none⟩ (.slice (some ⟨gq,0,none⟩) 512 512)).setCell ⟨w.heap.size+1+1,0,none⟩ (.int .i64 0)) (w.heap.size+1) 22 [.slice (some ⟨gq,0,none⟩) 512 512]:=(zI _ _ _ _ (by show w.heap.size+1≠w.heap.size+1+1;omega)).trans (Q1.o.aB 0 _);have v2':=v2.aB 0 (.int .i64 0);have asw:=(pU.o.step s1).step s2;have hK5:((w5.setCell ⟨w.heap.size+1,0,none⟩ (.slice (some ⟨gq,0,none⟩) 512 512)).setCell ⟨w.heap.size+1+1,0,none⟩ (.int .i64 0)).heap[D]? =some (.deferred (some [])):=by
   rw[zI _ _ _ _ (by show D≠w.heap.size+1+1;omega),zI _ _ _ _ (by show D≠w.heap.size+1;omega),HBc.o.block D (zo.1 HK2.o).1];exact HK2.o
  have uN:=((Step.of_below jR.o (λk=>k=w.heap.size+1∨k=w.heap.size+1+1)).trans s1).trans s2;have g1:=cell_kept (v1.cell 0) (grownBy_putObj' _ D (.deferred none)) (λr e=>by cases e;exact⟨_,hK5,rfl⟩);have g2:=cell_kept (v2'.cell 0) (grownBy_putObj' _ D (.deferred none)) (λr e=>by cases e;exact⟨_,hK5,rfl⟩);refine⟨sQ,.inl ⟨_,_,rfl,run_takeDeferred hK5,?_⟩⟩;refine⟨.tuple #[.slice (some ⟨gq,0,none⟩) 512 512,.int .i64 0],?_,⟨gq,rfl,?_⟩,?_⟩
  ·simp[results,Tryz.f177,go_sem,g1,g2]
  ·rw[←HL1.o,adB L i HN.o]
   exact Ea asw hK5 rfl _
  ·have hS':=BF uN hD (.deferred none)
   have mZ:=H3.o.step hS' (λk hk=>by rintro(e|e)<;>(have:=MF k hk;omega));exact⟨⟨_,_,_,_,_,_,_,_,mZ⟩,fwd hS',fwq hS'⟩
 case stop=>
  rintro D c pre W hD nP ⟨⟨rfl,p,x,rfl,hn,hx, -⟩,⟨g',x',CO,v1,dO⟩,v2,hS⟩ hK;obtain rfl:x=x':=by simpa using CO
  have g1:=cell_kept (v1.cell 0) (grownBy_putObj' _ D (.deferred none)) (λr e=>by cases e;exact⟨_,hK,rfl⟩);have g2:=cell_kept (v2.cell 0) (grownBy_putObj' _ D (.deferred none)) (λr e=>by cases e;exact⟨_,hK,rfl⟩);gi_wp2;refine⟨sQ,.inl ⟨_,_,rfl,run_takeDeferred hK,?_⟩⟩;refine⟨.tuple #[.slice (some ⟨g',0,none⟩) 512 512,.int .i64 0],?_,⟨g',rfl,?_⟩,?_⟩
  ·simp[results,Tryz.f177,go_sem,g1,g2]
  ·rw[←HL1.o,Zc nP hn hx]
   exact Ea dO hK rfl _
  ·have hS':=BF hS hD (.deferred none)
   have mZ:=H3.o.step hS' (λk hk=>by rintro(e|e)<;>(have:=MF k hk;omega));exact⟨⟨_,_,_,_,_,_,_,_,mZ⟩,fwd hS',fwq hS'⟩
theorem BG {w:World} {d n:Nat} {st:Nat→Bytes} {wt:Wt} {F:Nat→Prop} (h:Dev w d n st wt false F) (i:Nat) (hi:i<n) (hl:∀k,(st k).length=512):
  Calls Tryz.prog 177 #[.pointer (some ⟨d,0,none⟩),.int .i64 i] w λe w'=>(∃g,e=.returned (.tuple #[.slice (some ⟨g,0,none⟩) 512 512,.int .i64 0])∧cZ w' (some ⟨g,0,none⟩) (view st wt i))∧Dev w' d n st wt false F∧Step F w F w':=
 (IC h i hi hl).mono λe w' q=>⟨q.1,q.2.1,q.2.2.1⟩
end
section
open Go.RowKit O
theorem Eb (e s q f i c d:Nat) (he:e<4294967296) (h:right e s q f i c d=true) (l:List UInt8) (hl:l.length=480) (w:World) (a:Option Addr) (cc:Nat) (hb:ay w a l):
  Calls Tryz.prog 199 #[.agg (tagV e s q f i c d),.slice a 480 cc] w λx w'=>∃g,x=.returned (.tuple #[.slice (some ⟨g,0,none⟩) 512 512,.int .i64 0])∧w.heap.size≤g∧ah w' g 5 ((head e s q f i c d++l).map aH)∧Below w.heap.size w w':=by
 obtain⟨-, -, -,uf,XU, -,hc1, -,Ij, -,X6⟩:=yg h;have Ad:s≤q:=(yg h).2.2.1;have HT:=U (ah.new w 241 (lF e s q f i c d));have HB:=U (iE w (.cells (lF e s q f i c d).toArray 241));have Hbl:=U hb;have Hl:=U hl;have UQ:=U (hb.low (by intro h0;rw[h0] at hl;cases hl));have aAy:i<c:=oQ
 have aAz:c≤72:=oQ
 have aAA:d<3840:=oQ
 have Hpl:=U (D_ e s q f i c d)
 have asy:Hid (∀k,D9 e s q f i c d k<18446744073709551616):=U (by
  intro k
  match k with
  |0=>show 1465012808<_;omega
  |1=>show e<_;omega
  |2=>show q<_;omega
  |3=>show f<_;omega
  |4=>show s<_;omega
  |5=>show i<_;omega
  |6=>show c<_;omega
  |7=>show d<_;omega
  |8=>show 0<_;omega
  |k+9=>show 0<_;omega)
 obtain⟨T,hT⟩:∃T,T=tagV e s q f i c d:=⟨_,rfl⟩
 have e1:(lF e s q f i c d).toArray=T:=hT.symm;rw[←hT];have Hr:=U (show∀W,Calls Tryz.prog 263 #[.agg T] W λx w'=>x=.returned (.bool true)∧Below W.heap.size W w' from λW=>hT▸(h▸Iw e s q f i c d W));rw[e1] at HT HB;have E1:=U e1;have ET:=U hT;obtain⟨w9,asz,hm,jf,hS9⟩:=SX (t:=22) DU (w:=w) .i64 .i64 512 oQ oQ;clear asz hm jf hS9 w9;clear hT e1 h hb hl;go_enter Tryz.func199,Tryz.ntmps199;go_wp2_with (refine kF (.tmp 2) rfl w.heap.size rfl (lF e s q f i c d) _ HT.o Tryz.underlying241 rfl mY rQ ?_);rw[E1.o];refine(Hr.o _).mono ?_;rintro x w1 ⟨rfl,hB⟩;have jD:=U (HB.o.trans (hB.mono HB.o.size));have lH:=U (HT.o.below hB);clear hB HB HT;obtain⟨w2,fC,hm,aJ,bV⟩:=SX (t:=22) DU (w:=w1) .i64 .i64 512 oQ oQ;have HG2:=U hm;have bH:=U (jD.o.trans (aJ.mono jD.o.size));have iY:=U (lH.o.below aJ);have al6:=U (Hbl.o.below bH.o);have Hg:=U (show w.heap.size<w1.heap.size from lH.o.lt);obtain⟨g,hg⟩:∃g,g=w1.heap.size:=⟨_,rfl⟩
 rw[←hg] at fC HG2 Hg;clear hm aJ bV hg jD lH Hbl;go_wp2_with (at_make;refine lD fC rfl rfl rfl rfl ?_);refine(DX _).mono ?_;rintro x w3 ⟨p0,p2,p3,p4,p5,p6,p7,p8,rfl,hX,hB⟩;have HX3:=U hX;have HG3:=U (HG2.o.below hB);have jo:=U (iY.o.below hB);have iB:=U (bH.o.trans (hB.mono bH.o.size));have asA:=U (al6.o.below hB);have hXg:=U (show g≠p0∧g≠p2∧g≠p3∧g≠p4∧g≠p5∧g≠p6∧g≠p7∧g≠p8 from aht hX HG3.o);clear hX hB HG2 iY bH al6 fC;obtain⟨F,hF⟩:∃F,F=(lY p0 p2 p3 p4 p5 p6 p7 p8).toArray:=⟨_,rfl⟩
 rw[←hF];have HF:=U hF;clear hF;go_wp2_with fail;go_loopw [6,20] (λb k wr=>∃(j:Nat),j≤9∧k=.int .i64 j∧b=.slice (some ⟨g,0,none⟩) (tZ j) 512∧ah wr g 5 ((pre e s q f i c d j).map aH++List.replicate (512 - tZ j) (.int .u8 0))∧Kept g w3 wr) (λ_ k _=>9 - (intOf k).toNat)
 case atStart=>exact⟨0,oQ,rfl,rfl,by rw[show(pre e s q f i c d 0).map aH++List.replicate (512 - tZ 0) (Value.int .u8 0)=List.replicate 512 (.int .u8 0) from rfl];exact HG3.o,Kept.refl _ _⟩
 case round=>
  obtain⟨j,hj,rfl,rfl,hG,hK⟩:=hrel;have HG:=U hG;have HK:=U hK;have HT:=U (jo.o.kept hK (Nat.ne_of_lt Hg.o));clear hG hK;by_cases hj9:j<9
  ·obtain⟨gf,sf,gc,sc,lN, -,IE,MG, -⟩:=Mx HF.o j hj9
   unfold JZ at lN;have Hix:=U (IE wr);have adE:=U (λW hX=>MG e s q f i c d W he oQ oQ oQ hX);have Hp:=U (Hpl.o j oQ);obtain⟨vv,hvv⟩:∃vv:Nat,vv=D9 e s q f i c d j:=⟨_,rfl⟩
   obtain⟨sz,gJ⟩:∃sz,sz=fsz j:=⟨_,rfl⟩
   obtain⟨N,hN⟩:∃N,N=tZ j:=⟨_,rfl⟩
   obtain⟨pl,fB⟩:∃pl,pl=pre e s q f i c d j:=⟨_,rfl⟩
   obtain⟨uO,asC,nM⟩:sz≤6∧N+sz≤32∧tZ (j+1)=N+sz:=by rw[gJ,hN];exact Mw j hj9
   have Hn1:=U nM;have asD:=U (show pl.length=N by rw[fB,hN];exact Hp.o);have Hnx:=U (show pre e s q f i c d (j+1)=pl++le sz vv by rw[fB,hvv,gJ];rfl);rw[←fB,←hN] at HG;rw[←gJ] at Hix;rw[←hvv] at adE;have HX:=U (HX3.o.kept HK.o hXg.o);have hv':vv<18446744073709551616:=by rw[hvv];exact asy.o j
   rw[←hN];clear fB Hp hvv IE MG gJ hN nM
   go_wp2_with (first
    |(refine bB _ rQ (D8 (.tmp 19) (.tmp 20) rfl rfl rfl Hix.o) ?_)
    |(refine iF rfl rfl afS ?_;intro wa hN hB hS;have HA:=U hN;have Cr:=U hB;clear hN hB hS)
    |(refine dJ 335 (.tmp 8) (.tmp 22) rfl wr.heap.size [.int .i64 (sz:Int),.func (.func gf) #[] gc,.func (.func sf) #[] sc] JV 335 rfl rfl HA.o rfl BA (by intro v hv;simp only[zH,zO,or_false] at hv;rcases hv with rfl|rfl|rfl<;>rfl) rQ ?_;intro wb hN hK hS;have hc1:=hN.cell 1;have Ae:=U hN;have Zd:=U (Cr.o.trans (hK.below _ (zm _) Cr.o.size));clear hN hK hS)
    |(refine kF (.tmp 2) rfl w.heap.size rfl (lF e s q f i c d) _ (HT.o.below Zd.o) Tryz.underlying241 rfl mY rQ ?_))
   rw[E1.o];replace HX:=U (HX.o.below Zd.o);refine(show Calls Tryz.prog gf (#[.agg T]++gc) wb (λy w'=>y=.returned (.int .u64 (vv:Int))∧Below wb.heap.size wb w') from by rw[ET.o];exact adE.o _ HX.o).mono ?_;rintro x wc ⟨rfl,hB⟩;have Gs:=(Ae.o.below hB).cell 0;have HKc:=U (Zd.o.trans (hB.mono Zd.o.size));have HKd:=U (HK.o.trans (Kept.of_below HKc.o));have HGc:=U (HG.o.below HKc.o);clear hB hc1 Ae Cr HA Zd;go_wp2_with fail;go_loopw [6,9,29] (λb n j wr=>∃(m:Nat),m≤sz∧j=.int .i64 m∧n=.int .u64 ((vv / 256^m:Nat):Int)∧b=.slice (some ⟨g,0,none⟩) (N+m) 512∧ah wr g 5 ((pl++le m vv).map aH++List.replicate (512 - (N+m)) (.int .u8 0))∧Kept g w3 wr) (λ_ _ j _=>sz - (intOf j).toNat)
   case atStart=>exact⟨0,oQ,rfl,sQ,rfl,by show ah _ _ _ ((pl++[]).map aH++List.replicate (512 - N) (.int .u8 0));rw[qD];exact HGc.o,HKd.o⟩
   case round=>
    obtain⟨m,hm,rfl,rfl,rfl,hG,hK⟩:=hrel;have HGm:=U hG;have HKm:=U hK;clear hG hK;by_cases fC:m<sz
    ·have Hd:=U (show vv / 256^(m+1)=vv / 256^m / 256 by rw[Nat.pow_succ,Nat.div_div_eq_div_mul])
     have Hs:=U (SQ m (vv));have hq:vv / 256^m<18446744073709551616:=Nat.lt_of_le_of_lt (Nat.div_le_self _ _) hv';have iZ:=U (show((pl++le m (vv)).map aH).length=(N+m) by rw[zD,zw,aA,asD.o];try omega);generalize vv / 256^m=y at*;obtain⟨wn,iT,hGn,hKn,hSn⟩:=D7 DU 22 (n:=(N+m)) (m:=1) (c2:=1) (N:=512) (w:=wr.alloc (.cells #[.int .u8 ((y:Int)%256)] 5)) (HGm.o.below (iE _ _)) iZ.o (by rw[qc];omega) (gZ.ji wr #[.int .u8 ((y:Int)%256)] 5 (0,0) [.int .u8 ((y:Int)%256)] rfl) rfl (by rw[qc];omega) sQ (by intro u hu;simp at hu;subst hu;rfl)
     have H3:=U (show ah wn g 5 ((pl++le (m+1) (vv)).map aH++List.replicate (512 - (N+(m+1))) (.int .u8 0)) by
      rw[Hs.o,←zP,zW (l₁:=pl++le m (vv)),List.map_singleton,←Y_];have e5:(List.replicate (512 - (N+m)) (Value.int .u8 0)).drop 1=List.replicate (512 - (N+(m+1))) (.int .u8 0):=by rw[zav];congr 1
      rw[←e5];exact hGn)
     have HK3:=U (HKm.o.trans ((Kept.of_below (iE wr _)).trans hKn));clear hGn hKn hSn HGm HKm iZ Hs;go_wp2_with (at_builtin;refine wpList_append_run _ _ iT rfl rfl rfl rfl ?_);go_roundw
     case rel=>exact⟨m+1,oQ,by go_num,by rw[Hd.o];go_num,rfl,H3.o,HK3.o⟩
     case measure=>simp[intOf];omega
    ·obtain rfl:m=sz:=oQ
     clear fC hm;go_wp2;go_roundw
     case rel=>exact⟨j+1,oQ,by go_num,by rw[Hn1.o],by rw[Hnx.o,Hn1.o];exact HGm.o,HKm.o⟩
     case measure=>simp[intOf];omega
  ·obtain rfl:j=9:=oQ
   clear hj9;have HG9:=U (show ah wr g 5 ((head e s q f i c d).map aH++List.replicate 480 (.int .u8 0)) by rw[←adx];exact HG.o);have ama:=U (show ay wr a l from asA.o.SY HK.o (λb off hh=>by have:=UQ.o b off hh;have:=Hg.o;omega));obtain⟨b,off,ha,hcell⟩:=ama.o;obtain rfl:=ha (by intro h0;have:=Hl.o;rw[h0] at this;cases this);obtain⟨wn,iT,hGn,hKn,hSn⟩:=D7 DU 22 (n:=32) (m:=480) (c2:=cc) (N:=512) HG9.o (by rw[zD,jm]) (by rw[qc];try rfl) ama.o.row (by rw[zD,Hl.o]) (by rw[qc];exact zm _) (by intro h0;have:=Hl.o;rw[List.map_eq_nil_iff] at h0;rw[h0] at this;cases this) (eP _)
   have H3:=U (show ah wn g 5 ((head e s q f i c d++l).map aH) by
    have e6:(List.replicate 480 (Value.int .u8 0)).drop 480=[]:=by rw[zav];rfl
    rw[e6,qD,←zW] at hGn;exact hGn)
   have HK3:=U (iB.o.trans ((HK.o.trans hKn).below _ (Nat.le_of_lt Hg.o) iB.o.size));clear hGn hKn hSn ha hcell;simp only[show tZ 9=32 from rfl];go_wp2_with (at_builtin;refine wpList_append_run _ _ iT rfl rfl rfl rfl ?_);go_ret2;exact⟨g,rfl,Nat.le_of_lt Hg.o,H3.o,HK3.o⟩
end
section
variable {P:Program} {ops:Array Oper} {Q:Exit→Act→World→Prop} {md:Region.Mode} {S:World→Prop}
theorem BH {i:Nat} {oi:Oper} {tl:List Oper} (h:ops.toList.drop i=oi::tl):ops[i]? =some oi:=by
 have h1:(ops.toList.drop i)[0]? =some oi:=by rw[h];rfl
 rw[List.getElem?_drop] at h1;simpa using h1
theorem take_at {i:Nat} {oi:Oper} {tl:List Oper} {v:Value} {fuel:Nat} {listed:Array Bool} {a:Act} {w:World} (hi:ops.toList.drop i=oi::tl)
  (hs:Region.noSelect ops=true) (hf:Region.free md ops listed i=true) (hr:(Region.ready md ops listed).contains i=true)
  (hQ:∀c a w,Q (.panic c) (a.put oi.dst v) w→Q (.panic c) a w) (hS:S w)
  (hw:Region.wanted oi (yielded ops a.tmps)=true) (hy:∀w,S w→(execOp a.eval oi).run P w=.ok (.value v) w)
  (h:wpAnyH P md ops Q S fuel (listed.setIfInBounds i true) (a.put oi.dst v) w):wpAnyH P md ops Q S (fuel+1) listed a w:=
 wpAnyH_take (BH hi) hs hf hr hQ (.inl ⟨hw,hy⟩) hS h
theorem oP {i:Nat} {o:Oper} {tl:List Oper} {fuel:Nat} {listed:Array Bool} {a:Act} {w:World} (hi:ops.toList.drop i=o::tl) (hr:Region.ready md ops listed=[i])
  (h:∀K':Act→World→Prop,Shut (∀a w,S w→(S w→wpAnyH P md ops Q S fuel (listed.setIfInBounds i true) a w)→K' a w)→if Region.wanted o (yielded ops a.tmps)=true then Oper.wp P o a w K' Q else K' (a.put o.dst undef) w):
  wpAnyH P md ops Q S (fuel+1) listed a w:=
 wpAnyH_ready hr (by simp) (AllReadyH.cons (BH hi) h AllReadyH.nil)
end
end Go.Proofs.YtdjdpeadohobmaaGreatDoor
