/- A part of the walk below the law: what is proved here is used by later parts; no further condition. -/
import Derived.LoopIn
import Derived.LoopNIn
import Derived.OwnWalkIn
import Derived.RangeFuncBound
import Derived.RangeFuncCalls
import Derived.RangeFuncLeaves
import Derived.RangeFuncNested
import Derived.Shelf.Abstract
import Derived.Shelf.RegionOpen
import Derived.TacticsInMore
import Derived.WalkKit
import Derived.Test.YtdjdpeadohobmaaGreatDoorK04
set_option linter.unusedVariables false
set_option linter.unusedSimpArgs false
set_option maxRecDepth 100000
set_option maxHeartbeats 20000000
namespace Go.Proofs.YtdjdpeadohobmaaGreatDoor
section
open Go.RowKit Go.Maps
theorem Cq {P:Program} {ops:Array Oper} {o:Oper} {a:Act} {w w':World} {K:Act→World→Prop} {Q:Exit→Act→World→Prop} {E:Prop} (s x:Operand) {t t':TypeId} {v y v':Value}
  (hrun:(Builtin.delete_ #[t,t'] o.type #[v,y]).run P w=.ok v' w')
  (hw:Region.wanted o (yielded ops a.tmps)=true) (ho:o.op=.call {callee:=.builtin .delete,args:=#[s,x],argTypes:=#[t,t']})
  (hs:a.eval s=v) (hx:a.eval x=y) (hK:K (a.put o.dst v') w'):if Region.wanted o (yielded ops a.tmps)=true then Oper.wp P o a w K Q else E:=by
 rw[if_pos hw];unfold Oper.wp execOp;simp only[ho,resolve,invoke,builtin,qE,zax,qp,zac,qy,qK,hs,hx,hrun];exact hK
theorem YL (i:Nat) (h:i<9223372036854775808):(Lit.int .i64 (i:Int)).wf=true:=by
 simp[Lit.wf,IntKind.min,IntKind.max,IntKind.signed,IntKind.bits];omega
theorem bP:Keyed Tryz.prog 3:=int_keyed Tryz.underlying3
theorem LU {w:World} {tb:Nat} (h:rG w tb) (i:Nat) (hi:i<9223372036854775808) (ty:TypeId):
  ∃w',(Builtin.delete_ #[71,3] ty #[.map (some tb),.int .i64 i]).run Tryz.prog w=.ok (.tuple #[]) w'∧rG w' tb∧w.grownBy w' (some tb)∧w'.heap.size=w.heap.size:=by
 obtain⟨w',hr,ho,ht⟩:=h.drop bP Tryz.underlying71 (keyOf_int_mk Tryz.underlying3 (YL i hi)) ty;refine⟨w',hr,?_,ht.grown,?_⟩
 ·rwa[del_of_not_has rQ] at ho
 ·obtain⟨es,clock,es',clock',_,rfl⟩:=ht
  simp[ChangeMaps.setBlock]
section
variable {w:World} {d n:Nat} {st:Nat→Bytes} {wt:Wt} {dn:Bool} {F:Nat→Prop} {sb:Nat} {ss:List Value} {vw:Value} {xs:List Value} {tb:Nat} {cr cw cf:Int}
theorem iG.apart (h:iG w d n st wt dn F sb ss vw xs tb cr cw cf):d≠sb∧d≠tb∧sb≠tb∧vw.ownBlock≠some d∧vw.ownBlock≠some sb∧vw.ownBlock≠some tb:=by
 have h1:=h.cells;have h2:=h.row;obtain⟨es,clock,h3,_⟩:=h.tT;unfold ah at h1 h2;refine⟨?_,?_,?_,?_,?_,?_⟩
 ·rintro rfl;rw[h1] at h2;cases h2
 ·rintro rfl;rw[h1] at h3;cases h3
 ·rintro rfl;rw[h2] at h3;cases h3
 all_goals
  intro e;obtain⟨C,hC⟩:=aN h.wait e
  first|(rw[h1] at hC;cases hC)|(rw[h2] at hC;cases hC)|(rw[h3] at hC;cases hC)
end
theorem YM {w:World} {d n:Nat} {st:Nat→Bytes} {wt:Wt} {dn:Bool} {F:Nat→Prop} {sb:Nat} {ss:List Value} {vw:Value} {xs:List Value} {tb:Nat} {cr cw cf:Int} (h:iG w d n st wt dn F sb ss vw xs tb cr cw cf)
  (i:Nat) (hi:i<n) {a:Option Addr} {l:Bytes} (hl:l.length=512) (hb:cZ w a l):
  Calls Tryz.prog 40 #[.pointer (some ⟨d,0,none⟩),.agg #[.int .i64 i,.slice a 512 512]] w λe w'=>e=.returned (.tuple #[])∧
   iG w' d n (λk=>if k=i then l else st k) wt dn F sb (ss.set i (.slice a 512 512)) vw xs tb cr cw cf∧Step F w F w':=by
 have bA:=h.few.2.2;have iT:=h.apart;have hd:=h.cells.lt;have nI:=ah.at (w:=w.alloc (.cells #[.int .i64 i,.slice a 512 512] 97)) (g:=w.heap.size+1) sQ 97 [];clear nI;have hx:=ah.new w 97 [.int .i64 i,.slice a 512 512];have k0:=hx.cell 0;have k1:=hx.cell 1;simp only[zf,zi] at k0 k1;have Ad:Step (λ_=>False) w (λ_=>False) (w.alloc (.cells #[.int .i64 i,.slice a 512 512] 97)):=Step.alloc _ _ _;have h1:=h.step Ad (λ_ _ h=>h);have c0:=h1.h_ 0;have c2:=h1.h_ 2;simp only[oz,zf,zi] at c0 c2;have hr:=h1.row.free i;have hrc:(w.alloc (.cells #[.int .i64 i,.slice a 512 512] 97)).cell? ⟨sb,i,none⟩=ss[i]?:=h1.row.cell i;have hsi:∃v,ss[i]? =some v:=⟨_,zu (by rw[h.len];exact hi)⟩
 obtain⟨vi,hvi⟩:=hsi;rw[hvi] at hrc;have HW:=U (show ah (w.alloc (.cells #[.int .i64 i,.slice a 512 512] 97)) w.heap.size 97 [.int .i64 i,.slice a 512 512] from hx);have H1:=U h1;clear hx h1;have hlen:((n:Nat):Int)=n:=rfl;have hi0:(0:Int)≤(i:Int):=oQ
 have Ij:(i:Int)<(n:Int):=oQ
 clear hlen;go_enter Tryz.func40,Tryz.ntmps40;go_wp2;refine wp_region_noPanic ?_;refine ak (S:=(λW=>(W.cell? ⟨d,0,none⟩=some (.slice (some ⟨sb,0,none⟩) n n)∧W.cell? ⟨w.heap.size,0,none⟩=some (.int .i64 i)∧W.cell? ⟨w.heap.size,1,none⟩=some (.slice a 512 512)))) (m:=8) kQ ⟨c0,k0,k1⟩ (λaj=>?_);refine te 0 aj ?_;refine te 1 aj ?_;refine te 2 aj ?_;refine te 3 aj ?_;refine te 4 aj ?_;refine te 5 aj ?_;refine te 6 aj ?_;refine te 7 aj ?_;refine oC (i:=8) (v:=?vA8) rfl kQ kQ kQ dQ (λ_ _ _ h=>h) rQ ?hA8 ?rA8
 case hA8=>(intro W iR;(try dsimp only at iR);go_simp;(try with_reducible rfl))
 try simp only[Act.put,zh,zk,zl]
 refine rE 9 λK hK=>?_;go_simp;refine kX hK ?_;clear hK K
 try simp only[Act.put,zh,zk,zl]
 refine aD ?_;obtain⟨wB,hwB⟩:∃wB,((w.alloc (.cells #[.int .i64 i,.slice a 512 512] 97)).setCell ⟨sb,i,none⟩ (.slice a 512 512)).drew=wB:=⟨_,rfl⟩
 have hsB:Step (λk=>k=sb∨k=tb) w (λk=>k=sb∨k=tb) wB:=by
  rw[←hwB];exact((Step.alloc _ _ _).trans (Step.setCell (.inl rfl) (H1.o.row.aV dQ) i _)).trans (Step.drew _ _)
 have hrB:ah wB sb 22 (ss.set i (.slice a 512 512)):=by rw[←hwB];exact H1.o.row.aB i _
 have hdB:ah wB d 74 (oz sb n vw tb cr cw cf dn):=h.cells.step hsB (by rintro(e|e);exact iT.1 e;exact iT.2.1 e);have hbB:ah wB w.heap.size 97 [.int .i64 i,.slice a 512 512]:=by
  rw[←hwB];exact(zI _ _ _ _ (by have:=h.row.lt;intro e;exact absurd (show w.heap.size=sb from e) oQ)).trans HW.o
 have htB:rG wB.drew tb:=by
  obtain⟨es,clock,hb,r⟩:=h.tT;refine⟨es,clock,?_,r⟩;show wB.heap[tb]? =_;rw[←hwB];show((w.alloc _).setCell ⟨sb,i,none⟩ _).heap[tb]? =_;rw[zI _ _ _ _ (λe=>iT.2.2.1 e.symm),zal _ _ _ (zo.1 hb).1,hb]
 obtain⟨wC,alH,htC,hgC,alI⟩:=LU htB i oQ 0;have ahg:∀ty,∃wC,(Builtin.delete_ #[71,3] ty #[.map (some tb),.int .i64 i]).run Tryz.prog wB.drew=.ok (.tuple #[]) wC∧rG wC tb∧wB.drew.grownBy wC (some tb)∧wC.heap.size=wB.drew.heap.size:=λty=>LU htB i oQ ty;rw[hwB];have c2:=hdB.cell 2;have k0':=hbB.cell 0;simp only[oz,zf,zi] at c2 k0';have htn:w.heap.size≠tb:=by
  obtain⟨es,clock,hb,r⟩:=h.tT;have:=(zo.1 hb).1;omega
 clear c0 k0 k1 hr hrc hwB alH htC hgC alI wC;go_wp2;refine wp_region_noPanic ?_;refine ak (S:=(λW=>(W.cell? ⟨d,2,none⟩=some (.map (some tb))∧W.cell? ⟨w.heap.size,0,none⟩=some (.int .i64 i)))) (m:=7) kQ ⟨c2,k0'⟩ (λaj=>?_);refine te 0 aj ?_;refine te 1 aj ?_;refine te 2 aj ?_;refine te 3 aj ?_;refine te 4 aj ?_;refine te 5 aj ?_;refine rE 6 λK hK=>?_;obtain⟨wC,ahg,htC,hgC,alI⟩:=ahg _;have kC:wC.cell? ⟨d,2,none⟩=some (.map (some tb))∧wC.cell? ⟨w.heap.size,0,none⟩=some (.int .i64 i):=⟨(zS (w:=wB.drew) (hgC.block d hdB.lt (λe=>iT.2.1 (by injection e)))).trans c2,(zS (w:=wB.drew) (hgC.block w.heap.size hbB.lt (λe=>htn (by injection e)))).trans k0'⟩
 refine Cq (.tmp 16) (.tmp 18) ahg rfl rfl rfl rfl ?_;refine hK.out _ _ (λ_=>⟨kC.1,kC.2⟩) (λhS=>?_);have bQ:=hS dQ;clear hS hK K
 try simp only[Act.put,zh,zk,zl]
 refine aD ?_;go_end0;have hsC:Step (λk=>k=sb∨k=tb) w (λk=>k=sb∨k=tb) wC:=(hsB.trans (Step.drew _ _)).trans (Step.bU hgC (λr hr=>by injection hr with hr;subst hr;exact⟨.inr rfl,LQ htB⟩));have hsF:Step F w F wC:=hsC.more (λk hk=>by rcases hk with rfl|rfl;exact h.own.2.1;exact h.own.2.2.1) (λk hk=>.inl hk);refine⟨rfl,{cells:=h.cells.step hsC (by rintro(e|e);exact iT.1 e;exact iT.2.1 e),row:=?_,len:=by rw[zat];exact h.len,secs:=?_,wait:=?_,waits:=h.waits.step hsC,tT:=htC,own:=h.own,lt:=λk hk=>zx (h.lt k hk) hsC.size,few:=h.few},hsF⟩
 ·exact(hgC.block sb hrB.lt (λe=>iT.2.2.1 (by injection e))).trans hrB
 ·intro k v hv
  by_cases hk:k=i
  ·subst hk
   rw[qV (by rw[h.len];exact hi)] at hv;injection hv with hv;subst hv;refine .inr ⟨a,rfl,?_⟩;simp only[if_true];exact⟨hl,hb.step hsC⟩
  ·rw[qH (λe=>hk e.symm)] at hv
   simp only[hk,if_false];exact(h.secs k v hv).step hsC
 ·exact aC hsC h.wait (λg hg=>by rintro(e|e);exact iT.2.2.2.2.1 (e▸hg);exact iT.2.2.2.2.2 (e▸hg))
theorem Uw {st:Nat→Bytes} {wt:Wt} {j:Nat} (h:j<wt.length):view st (wt.take (j+1))=λi=>if i=wt[j].1 then wt[j].2 else view st (wt.take j) i:=by
 funext i;rw[←List.take_append_getElem h,mE];by_cases h2:wt[j].1=i
 ·subst h2;simp
 ·rw[if_neg h2,if_neg (λe=>h2 e.symm)]
theorem Ik {w:World} {d n:Nat} {st:Nat→Bytes} {wt:Wt} {F:Nat→Prop} (h:Dev w d n st wt false F) (dw:∀e∈wt,e.1<n):
  Calls Tryz.prog 53 #[.pointer (some ⟨d,0,none⟩)] w λe w'=>e=.returned (.int .i64 0)∧Dev w' d n (view st wt) [] false F∧Step F w F w':=by
 have H:=U h;obtain⟨sb,ss,vw,xs,tb,cr,cw,cf,h⟩:=h;have c5:=h.h_ 5;simp only[oz,zf,zi] at c5;have f5:=h.cells.free 5;have D:=U h;have hm:wt.length≤1000000:=h.few.1;obtain⟨m,Ph⟩:∃m,m=wt.length:=⟨_,rfl⟩
 rw[←Ph] at hm;have Hm:=U Ph;obtain⟨a0,c0,hv0⟩:∃a c,vw=.slice a m c:=by
  rw[Ph];rcases h.wait.2 with⟨e,e2⟩|⟨g,cap,cur,e,_⟩
  ·exact⟨none,0,by rw[e,e2]⟩
  ·exact⟨_,_,e⟩
 subst hv0;clear h Ph;go_enter Tryz.func53,Tryz.ntmps53;go_wp2_with fail;refine(Dw H.o).mono ?_;rintro e w1 ⟨rfl,rfl⟩;obtain⟨w1,aP⟩:∃w1,w.setCell ⟨d,5,none⟩ (.int .i64 (wrap64 (cf+1)))=w1:=⟨_,rfl⟩
 have Ad:Step (· =d) w (· =d) w1:=by rw[←aP];exact Step.setCell (F:=(· =d)) rfl (D.o.cells.aV dQ) 5 _
 have h1:iG w1 d n st wt false F sb ss (.slice a0 m c0) xs tb cr cw (wrap64 (cf+1)):=D.o.turn Ad (by rw[←aP];exact D.o.cells.aB 5 _);have bQ:=U (Ad.more (G:=F) (G':=F) (λk hk=>by subst hk;exact h1.own.1) (λk hk=>.inl hk));have c1:w1.cell? ⟨d,1,none⟩=some (.slice a0 m c0):=h1.h_ 1;have H1:=U h1;clear h1 Ad H;go_wp2_with fail;go_loopw [27] (λi wr=>∃(j:Nat) (ss':List Value),j≤m∧i=.int .i64 j∧iG wr d n (view st (wt.take j)) wt false F sb ss' (.slice a0 m c0) xs tb cr cw (wrap64 (cf+1))∧Step F w F wr) (λi _=>m - (intOf i).toNat)
 case atStart=>exact⟨0,ss,oQ,rfl,H1.o,bQ.o⟩
 case round=>
  obtain⟨j,ss',hj,rfl,hd,hS⟩:=hrel;have D2:=U hd;have HS:=U hS;clear hS aP c1 c5 f5;by_cases hjm:j<m
  ·have hjw:j<wt.length:=by have:=Hm.o;omega
   obtain⟨wJ,a,oD,hl,dO⟩:=hd.waits j hjw;obtain⟨g,hg⟩:∃g,a0=some ⟨g,0,none⟩:=by
    rcases hd.wait.2 with⟨e,e2⟩|⟨g,cap,cur,e,_⟩
    ·omega
    ·injection e with e;exact⟨g,e⟩
   subst hg;have k0:=bL hd.wait (g:=g) rfl _ wJ;have k1:=bL hd.wait (g:=g) rfl _ oD;rw[zaM] at k0 k1;have pU:=U dO;have Hl:=U hl;clear hd wJ oD dO hl;go_wp2_with fail;have hal:Step F wr F (wr.alloc (.cells #[.int .i64 wt[j].1,.slice a 512 512] 97)):=Step.alloc _ _ _;have hdA:=D2.o.step (G:=λ_=>False) (G':=λ_=>False) (Step.alloc _ wr (.cells #[.int .i64 wt[j].1,.slice a 512 512] 97)) (λ_ _ h=>h);refine(YM hdA wt[j].1 (dw _ (qm hjw)) Hl.o (pU.o.step hal)).mono ?_;rintro e w3 ⟨rfl,Ih,lg⟩;rw[←Uw hjw] at Ih;have D3:=U Ih;have sU:=U ((HS.o.trans hal).trans lg);clear Ih lg hal hdA;go_wp2_with fail;go_roundw
   case rel=>exact⟨j+1,_,oQ,by go_num,D3.o,sU.o⟩
   case measure=>simp[intOf];omega
  ·obtain rfl:j=m:=oQ
   have f1:=hd.cells.free 1;rw[Hm.o,zae] at hd;have iI:Step (· =d) wr (· =d) (wr.setCell ⟨d,1,none⟩ (.slice none 0 0)):=Step.set1 (hd.cells.aV dQ) 1 _;have c1':=hd.h_ 1;simp only[oz,zf,zi] at c1'
   have ar4:=U (show Dev (wr.setCell ⟨d,1,none⟩ (.slice none 0 0)) d n (view st wt) [] false F from by
    refine⟨sb,ss',.slice none 0 0,[],tb,cr,cw,wrap64 (cf+1),{cells:=?_,row:=hd.row.step iI (λe=>hd.apart.1 e.symm),len:=hd.len,secs:=λi v hv=>(hd.secs i v hv).step iI,wait:=zaU _ _ _ _,waits:=λi hi=>absurd hi sQ,tT:=?_,own:=⟨hd.own.1,hd.own.2.1,hd.own.2.2.1,λg hg=>by simp[Value.ownBlock] at hg⟩,lt:=λk hk=>zx (hd.lt k hk) iI.size,few:=⟨sQ,hd.few.2⟩}⟩
    ·exact hd.cells.aB 1 _
    ·obtain⟨es,clock,hb,r⟩:=hd.tT
     exact⟨es,clock,(iI.keep tb (zo.1 hb).1 (.inl (λe=>hd.apart.2.1 e.symm))).trans hb,r⟩)
   have JM:=U (HS.o.trans (iI.more (G:=F) (G':=F) (λk hk=>by subst hk;exact D2.o.own.1) (λk hk=>.inl hk)));clear hd iI;go_wp2_with fail;go_ret;exact⟨rfl,ar4.o,JM.o⟩
theorem LV {w:World} {d n:Nat} {st:Nat→Bytes} {wt:Wt} {dn:Bool} {F:Nat→Prop} (h:Dev w d n st wt dn F):
  Calls Tryz.prog 23 #[.pointer (some ⟨d,0,none⟩)] w λe w'=>e=.returned (.bool dn)∧w=w':=by
 obtain⟨sb,ss,vw,xs,tb,cr,cw,cf,h⟩:=h;have c6:=h.h_ 6;simp only[oz,zf,zi] at c6;clear h;go_enter Tryz.func23,Tryz.ntmps23;go_wp2;go_ret;exact⟨rfl,rfl⟩
theorem Ux {w:World} {d n:Nat} {st:Nat→Bytes} {wt:Wt} {F:Nat→Prop} (h:Dev w d n st wt true F):
  Calls Tryz.prog 24 #[.pointer (some ⟨d,0,none⟩)] w λe w'=>e=.returned (.int .i64 0)∧Dev w' d n st wt false F∧Step F w F w':=by
 obtain⟨sb,ss,vw,xs,tb,cr,cw,cf,h⟩:=h;have c6:=h.h_ 6;simp only[oz,zf,zi] at c6;have f6:=h.cells.free 6;have hs:=Step.set1 (h.cells.aV dQ) 6 (.bool false);have HD:=U (h.turn (dn':=false) hs (h.cells.aB 6 _));have HS:=U (hs.up h.own.1);clear h hs;go_enter Tryz.func24,Tryz.ntmps24;go_wp2;go_ret;exact⟨rfl,⟨_,_,_,_,_,_,_,_,HD.o⟩,HS.o⟩
theorem wK {w:World} {d n:Nat} {st:Nat→Bytes} {wt:Wt} {dn:Bool} {F:Nat→Prop} (h:Dev w d n st wt dn F):
  Calls Tryz.prog 15 #[.pointer (some ⟨d,0,none⟩)] w λe w'=>(∃r x f:Int,e=.returned (.agg #[.int .i64 r,.int .i64 x,.int .i64 f]))∧Below w.heap.size w w':=by
 obtain⟨sb,ss,vw,xs,tb,cr,cw,cf,h⟩:=h;have c3:=h.h_ 3;have c4:=h.h_ 4;have c5:=h.h_ 5;simp only[oz,zf,zi] at c3 c4 c5;have bA:=h.cells.lt;clear h;go_enter Tryz.func15,Tryz.ntmps15;go_wp2;have hb:ah (w.alloc (.cells #[.int .i64 cr,.int .i64 cw,.int .i64 cf] 36)) w.heap.size 36 [.int .i64 cr,.int .i64 cw,.int .i64 cf]:=ah.new _ _ _;refine bodyPost_ret (v:=.agg #[.int .i64 cr,.int .i64 cw,.int .i64 cf]) (dN (p:=2) (ty:=36) kQ rfl hb Tryz.underlying36 rfl kQ) rfl ?_;exact⟨⟨cr,cw,cf,rfl⟩,iE _ _⟩
theorem iG.emptied {w w':World} {d n:Nat} {st:Nat→Bytes} {wt:Wt} {dn dn':Bool} {F:Nat→Prop} {sb:Nat} {ss:List Value} {vw:Value} {xs:List Value} {tb:Nat} {cr cw cf cr' cw' cf':Int}
  (hd:iG w d n st wt dn F sb ss vw xs tb cr cw cf) (hs:Step (· =d) w (· =d) w') (hc:ah w' d 74 (oz sb n (.slice none 0 0) tb cr' cw' cf' dn')):Dev w' d n st [] dn' F:=by
 refine⟨sb,ss,.slice none 0 0,[],tb,cr',cw',cf',{cells:=hc,row:=hd.row.step hs (λe=>hd.apart.1 e.symm),len:=hd.len,secs:=λi v hv=>(hd.secs i v hv).step hs,wait:=zaU _ _ _ _,waits:=λi hi=>absurd hi sQ,tT:=?_,own:=⟨hd.own.1,hd.own.2.1,hd.own.2.2.1,λg hg=>by simp[Value.ownBlock] at hg⟩,lt:=λk hk=>zx (hd.lt k hk) hs.size,few:=⟨sQ,hd.few.2⟩}⟩;obtain⟨es,clock,hb,r⟩:=hd.tT;exact⟨es,clock,(hs.keep tb (zo.1 hb).1 (.inl (λe=>hd.apart.2.1 e.symm))).trans hb,r⟩
theorem Uy {w:World} {d n:Nat} {st:Nat→Bytes} {dn:Bool} {F:Nat→Prop} (h:Dev w d n st [] dn F) (a:Option Addr) (m c:Nat):
  Calls Tryz.prog 22 #[.pointer (some ⟨d,0,none⟩),.slice a m c] w λe w'=>e=.returned (.tuple #[])∧Dev w' d n st [] true F∧Step F w F w':=by
 obtain⟨sb,ss,vw,xs,tb,cr,cw,cf,h⟩:=h;obtain⟨c0,rfl⟩:∃c0:Option Addr×Nat,vw=.slice c0.1 0 c0.2:=by
  rcases h.wait.2 with⟨e,e2⟩|⟨g,cap,cur,e,_⟩
  ·exact⟨(none,0),e⟩
  ·exact⟨(_,cap),e⟩
 have c1:=h.h_ 1;simp only[oz,zf,zi] at c1;have f1:=h.cells.free 1;have f6:=h.cells.free 6;have f7:=h.cells.free 7;have f8:=h.cells.free 8;have f9:=h.cells.free 9;have c6:=h.h_ 6;have c7:=h.h_ 7;have c8:=h.h_ 8;have c9:=h.h_ 9;simp only[oz,zf,zi] at c6 c7 c8 c9;have H:=U h;clear h;go_enter Tryz.func22,Tryz.ntmps22;go_wp2;go_loopw [14] (λi wr=>i=.int .i64 0∧wr=w) (λ_ _=>0)
 case atStart=>exact⟨rfl,rfl⟩
 case round=>
  obtain⟨rfl,rfl⟩:=hrel;go_wp2;go_end0;have a1:=H.o.cells.aB 1 (.slice none 0 0);have a2:=a1.aB 6 (.bool true);have a3:=a2.aB 7 (.bool false);have a4:=a3.aB 8 (.int .i64 0);have a5:=a4.aB 9 (.slice none 0 0);have hs:=((((Step.set1 (H.o.cells.aV dQ) 1 (.slice none 0 0)).trans (Step.set1 (a1.aV dQ) 6 (.bool true))).trans (Step.set1 (a2.aV dQ) 7 (.bool false))).trans (Step.set1 (a3.aV dQ) 8 (.int .i64 0))).trans (Step.set1 (a4.aV dQ) 9 (.slice none 0 0));exact⟨rfl,H.o.emptied hs a5,hs.up H.o.own.1⟩
theorem kN {P:Program} {t e:TypeId} {z:Value} {bytes:Nat} (E:jC P t e z bytes) {w:World} (kl kc:IntKind) (n:Nat) (lC:bytes*n≤281474976710656) (Pf:n≤140737488355328):
  ∃w',(Instr.makeSlice t (.int kl (n:Int)) (.int kc (n:Int))).run P w=.ok (.slice (some ⟨w.heap.size,0,none⟩) n n) w'∧ah w' w.heap.size e (List.replicate n z)∧Below w.heap.size w w'∧w'.heap.size=w.heap.size+1:=by
 obtain⟨w',hr,hown,hB,hs⟩:=eT E (base:=w.heap.size) kl kc n lC Pf (zm _);refine⟨w',hr,?_,hB,hs⟩;rcases hown.2 with⟨hv,_⟩|⟨g,cap,cur,hv,_,hg,_,_,vS,ht⟩
 ·cases hv
 ·injection hv with hv hn hc
  injection hv with hv;injection hv with hv;subst hv;rw[qc] at ht hn;unfold ah;rw[hg];congr 2;apply Array.ext';rw[←ht,zy (by rw[za4];omega)]
theorem adl:jC Tryz.prog 70 22 (.slice none 0 0) 24:=⟨Tryz.underlying70,kQ,rfl⟩
theorem PL (w:World) (n:Nat) (h1:1≤n) (h2:n≤20000):
  Calls Tryz.prog 13 #[.int .i64 n] w λe w'=>∃d F,e=.returned (.tuple #[.pointer (some ⟨d,0,none⟩),.int .i64 0])∧Dev w' d n (λ_=>zeros 512) [] false F∧(∀k,F k→w.heap.size≤k)∧Below w.heap.size w w':=by
 obtain⟨w1,fC,hv,hB,gJ⟩:=kN adl (w:=w) .i64 .i64 n oQ oQ;have Ph:=@run_makeMap Tryz.prog;have HV:=U hv;have HB:=U hB;clear hv hB;go_enter Tryz.func13,Tryz.ntmps13;go_wp2;go_ret2;refine⟨w.heap.size+1+1,λk=>k=w.heap.size∨k=w.heap.size+1∨k=w.heap.size+2,rfl,?_,λk hk=>oQ,(HB.o.alloc HB.o.size _).alloc (by have:=HB.o.size;simp;omega) _⟩;have hm:=World.ownsMap_made (H:=Unit) w1 Tryz.prog 3 unitElem;rw[gJ] at hm;refine⟨w.heap.size,List.replicate n (.slice none 0 0),.slice none 0 0,[],w.heap.size+1,0,0,0,{cells:=ah.at (by simp[gJ]) _ _,row:=?_,len:=qc,secs:=?_,wait:=zaU _ _ _ _,waits:=λi hi=>absurd hi sQ,tT:=hm.alloc _,own:=⟨.inr (.inr rfl),.inl rfl,.inr (.inl rfl),λg hg=>by simp[Value.ownBlock] at hg⟩,lt:=?_,few:=⟨sQ,h1,h2⟩}⟩
 ·exact HV.o.below (((zn _ _).alloc (zm _) _).alloc sQ _)
 ·intro i v hv
  rw[qF] at hv
  split at hv
  ·injection hv with hv
   exact .inl ⟨hv.symm,rfl⟩
  ·cases hv
 ·intro k hk
  simp[gJ];omega
end
section
open Go.RowKit
theorem SI {a b:Int} (h:a=b):Ending.returned (.int .i64 a)=.returned (.int .i64 b):=by rw[h]
def dA (vals:List Int):List Value:=vals.map (Value.int .i64)
theorem bW (vals:List Int) (i:Nat):(dA vals)[i]? =vals[i]?.map (Value.int .i64):=by simp[dA]
structure RingAt (w:World) (r rb P:Nat) (vals:List Int):Prop where
 cells:ah w r 325 [.slice (some ⟨rb,0,none⟩) P P]
 row:ah w rb 3 (dA vals)
 len:vals.length=P
 few:1≤P∧P≤1048576
theorem RingAt.drew {w:World} {r rb P:Nat} {vals:List Int} (h:RingAt w r rb P vals):RingAt w.drew r rb P vals:=⟨h.cells,h.row,h.len,h.few⟩
theorem RingAt.step {G G':Nat→Prop} {w w':World} (hs:Step G w G' w') {r rb P:Nat} {vals:List Int} (h:RingAt w r rb P vals) (h1:¬G r) (h2:¬G rb):RingAt w' r rb P vals:=⟨h.cells.step hs h1,h.row.step hs h2,h.len,h.few⟩
theorem RingAt.apart {w:World} {r rb P:Nat} {vals:List Int} (h:RingAt w r rb P vals):r≠rb:=by
 exact h.cells.eU h.row dQ
theorem Uz (a P:Int) (hP:0<P):(0≤a→a.tmod P=a%P)∧(a<0→a.tmod P<0∧a.tmod P+P=a%P∨a.tmod P=0∧a%P=0):=by
 refine⟨λh=>Int.tmod_eq_emod_of_nonneg h,λh=>?_⟩;have h1:=Int.tmod_eq_emod (a:=a) (b:=P);have h2:=zaP a (show P≠0 by omega);have h3:=zaC a hP;rw[h1];have h4:(P.natAbs:Int)=P:=oQ
 split
 ·rename_i h5
  rcases h5 with h5|h5
  ·omega
  ·right
   have:=Int.emod_eq_zero_of_dvd h5;omega
 ·left
  rename_i h5;have:a%P≠0:=λe=>h5 (.inr (Int.dvd_of_emod_eq_zero e));omega
section
variable {w:World} {r rb P:Nat} {vals:List Int}
theorem gT (h:RingAt w r rb P vals) (a:Int) (ha: -4611686018427387904≤a∧a≤4611686018427387904):
  Calls Tryz.prog 203 #[.pointer (some ⟨r,0,none⟩),.int .i64 a] w λe w'=>e=.returned (.int .i64 (a%(P:Int)))∧w=w':=by
 have c0:=h.cells.cell 0;simp only[zf] at c0;have h1:=h.few.1;have h2:=h.few.2;have hP:(0:Int)<(P:Int):=oQ
 obtain⟨hp,hn⟩:=Uz a P hP;have e3:=zaP a (show(P:Int)≠0 by omega);have e4:=zaC a hP;have hz:((P:Int)==0)=false:=by rw[beq_eq_false_iff_ne];omega
 clear h;rcases Int.lt_or_le a 0 with h0|h0
 ·rcases hn h0 with⟨t1,t2⟩|⟨t1,t2⟩
  ·have T2:=U t2
   clear t2;go_enter Tryz.func203,Tryz.ntmps203;go_wp2;go_ret;exact⟨SI T2.o,rfl⟩
  ·have T2:=U t2
   clear t2;go_enter Tryz.func203,Tryz.ntmps203;go_wp2;go_ret;exact⟨SI T2.o.symm,rfl⟩
 ·go_enter Tryz.func203,Tryz.ntmps203
  go_wp2;go_ret;exact⟨rfl,rfl⟩
theorem kP (h:RingAt w r rb P vals):Calls Tryz.prog 198 #[.pointer (some ⟨r,0,none⟩)] w λe w'=>e=.returned (.int .i64 P)∧w=w':=by
 have c0:=h.cells.cell 0;simp only[zf] at c0;clear h;go_enter Tryz.func198,Tryz.ntmps198;go_wp2;go_ret;exact⟨rfl,rfl⟩
theorem Dy (h:RingAt w r rb P vals) (a b:Int) (ha: -4611686018427387904≤a∧a≤4611686018427387904) (hb: -4611686018427387904≤b∧b≤4611686018427387904):
  Calls Tryz.prog 129 #[.pointer (some ⟨r,0,none⟩),.int .i64 a,.int .i64 b] w λe w'=>e=.returned (.int .i64 ((a+b)%(P:Int)))∧w=w':=by
 have h1:=h.few.1;have h2:=h.few.2;have hP:(0:Int)<(P:Int):=oQ
 have e1:=zaP a (show(P:Int)≠0 by omega);have e2:=zaC a hP;have e3:=zaP b (show(P:Int)≠0 by omega);have e4:=zaC b hP;have hs:=U (Int.add_emod a b P);have H:=U h;clear h;go_enter Tryz.func129,Tryz.ntmps129;go_wp2_with fail;refine(gT H.o a ha).mono ?_;rintro e w' ⟨rfl,rfl⟩;go_wp2_with fail;refine(gT H.o b hb).mono ?_;rintro e w' ⟨rfl,rfl⟩;go_wp2_with fail;refine(gT H.o _ oQ).mono ?_;rintro e w' ⟨rfl,rfl⟩;rw[←hs.o];go_wp2_with fail;go_ret;exact⟨rfl,rfl⟩
theorem adn (h:RingAt w r rb P vals) (a b:Int) (ha: -4611686018427387904≤a∧a≤4611686018427387904) (hb: -4611686018427387904≤b∧b≤4611686018427387904):
  Calls Tryz.prog 257 #[.pointer (some ⟨r,0,none⟩),.int .i64 a,.int .i64 b] w λe w'=>e=.returned (.int .i64 ((b - a)%(P:Int)))∧w=w':=by
 have h1:=h.few.1;have h2:=h.few.2;have hP:(0:Int)<(P:Int):=oQ
 have e1:=zaP a (show(P:Int)≠0 by omega);have e2:=zaC a hP;have e3:=zaP b (show(P:Int)≠0 by omega);have e4:=zaC b hP;have hs:=U (Int.sub_emod b a P);have H:=U h;clear h;go_enter Tryz.func257,Tryz.ntmps257;go_wp2_with fail;refine(gT H.o b hb).mono ?_;rintro e w' ⟨rfl,rfl⟩;go_wp2_with fail;refine(gT H.o a ha).mono ?_;rintro e w' ⟨rfl,rfl⟩;go_wp2_with fail;refine(gT H.o _ oQ).mono ?_;rintro e w' ⟨rfl,rfl⟩;rw[←hs.o];go_wp2_with fail;go_ret;exact⟨rfl,rfl⟩
theorem SK (h:RingAt w r rb P vals) (a:Int) (ha: -4611686018427387904≤a∧a≤4611686018427387904) (p:Nat) (hp:a%(P:Int)=p) (x:Int) (hx:vals[p]? =some x):
  Calls Tryz.prog 200 #[.pointer (some ⟨r,0,none⟩),.int .i64 a] w λe w'=>e=.returned (.int .i64 x)∧w'=w.drew:=by
 have c0:=h.cells.cell 0;simp only[zf] at c0;have cp:=h.row.cell p;rw[bW,hx,qA] at cp;have h2:=h.few.2;have sV:(0:Int)≤(p:Int):=oQ
 have nK:(p:Int)<(P:Int):=by have:=(zL.1 hx).1;have:=h.len;omega
 have H:=U h;have Hp:=U hp;clear h hp;go_enter Tryz.func200,Tryz.ntmps200;go_wp2_with fail;refine wp_region_noPanic ?_;refine ak (S:=(λW=>W.cell? ⟨r,0,none⟩=some (.slice (some ⟨rb,0,none⟩) P P)∧W.cell? ⟨rb,p,none⟩=some (.int .i64 x))) (m:=11) kQ ⟨c0,cp⟩ (λaj=>?_);refine te 0 aj ?_;refine te 1 aj ?_;refine te 2 aj ?_;refine te 3 aj ?_;refine te 4 aj ?_;refine te 5 aj ?_;refine rE 6 λK hK=>?_;go_simp;refine(gT (H.o.drew) a ha).mono ?_;rintro e w2 ⟨rfl,rfl⟩;rw[Hp.o];go_wp2_with fail;refine hK.out _ _ (λ_=>⟨c0,cp⟩) (λhS=>?_);have bQ:=hS dQ;clear hS hK K
 try simp only[Act.put,zh,zk,zl]
 refine te 7 bQ ?_;refine te 8 bQ ?_;refine te 9 bQ ?_;refine aD ?_;go_wp2_with fail;go_ret;exact⟨rfl,rfl⟩
theorem ado (h:RingAt w r rb P vals) (a:Int) (ha: -4611686018427387904≤a∧a≤4611686018427387904) (p:Nat) (hp:a%(P:Int)=p) (x y:Int) (hx:vals[p]? =some x):
  Calls Tryz.prog 194 #[.pointer (some ⟨r,0,none⟩),.int .i64 a,.int .i64 y] w λe w'=>e=.returned (.tuple #[])∧RingAt w' r rb P (vals.set p y)∧Step (· =rb) w (· =rb) w':=by
 have c0:=h.cells.cell 0;simp only[zf] at c0;have cp:=h.row.cell p;rw[bW,hx,qA] at cp;have fp:=h.row.free p;have h2:=h.few.2;have sV:(0:Int)≤(p:Int):=oQ
 have nK:(p:Int)<(P:Int):=by have:=(zL.1 hx).1;have:=h.len;omega
 have H:=U h;have Hp:=U hp;clear h hp;go_enter Tryz.func194,Tryz.ntmps194;go_wp2_with fail;refine wp_region_noPanic ?_;refine ak (S:=(λW=>W.cell? ⟨r,0,none⟩=some (.slice (some ⟨rb,0,none⟩) P P)∧W.cell? ⟨rb,p,none⟩=some (.int .i64 x))) (m:=8) kQ ⟨c0,cp⟩ (λaj=>?_);refine te 0 aj ?_;refine te 1 aj ?_;refine te 2 aj ?_;refine te 3 aj ?_;refine te 4 aj ?_;refine te 5 aj ?_;refine te 7 aj ?_;refine rE 6 λK hK=>?_;go_simp;refine(gT (H.o.drew) a ha).mono ?_;rintro e w2 ⟨rfl,rfl⟩;rw[Hp.o];go_wp2_with fail;refine hK.out _ _ (λ_=>⟨c0,cp⟩) (λhS=>?_);have bQ:=hS dQ;clear hS hK K
 try simp only[Act.put,zh,zk,zl]
 refine oC (i:=8) (v:=?vB8) rfl kQ kQ kQ dQ (λ_ _ _ h=>h) rQ ?xE ?rB8
 case xE=>(intro W iR;(try dsimp only at iR);go_simp;(try with_reducible rfl))
 try simp only[Act.put,zh,zk,zl]
 refine rE 9 λK hK=>?_;go_simp;refine kX hK ?_;clear hK K
 try simp only[Act.put,zh,zk,zl]
 refine aD ?_;go_end0;have hs:Step (· =rb) w (· =rb) ((w.setCell ⟨rb,p,none⟩ (.int .i64 y)).drew):=(Step.set1 (H.o.row.aV dQ) p (.int .i64 y)).trans (Step.drew _ _);refine⟨rfl,⟨H.o.cells.step hs H.o.apart,?_,by rw[zat];exact H.o.len,H.o.few⟩,hs⟩;have:=H.o.row.aB p (.int .i64 y);unfold dA at this ⊢;rw[List.map_set];exact this
end
end
section
open Go.RowKit Go.Shelf
attribute [local go_sem] Oper.semAt_some
theorem PN (d:Nat) (w:World):
  Calls Tryz.prog 250 #[.pointer (some ⟨d,0,none⟩)] w λe w'=>e=.returned (.func (.func 295) #[] #[.pointer (some ⟨w.heap.size,0,none⟩)])∧w'=w.alloc (.cells #[.pointer (some ⟨d,0,none⟩)] 49):=by
 go_enter Tryz.func250,Tryz.ntmps250;go_wp2;go_ret;exact⟨rfl,rfl⟩
theorem JN {α:Type} (p1:α→Nat) (p2:α→Option Addr) (n:Nat) (hn:1≤n) (Bs n₀ d g cap:Nat) (L:List α) (hL:L.length≤1000000) (w:World) (hn₀:n₀≤w.heap.size) (Lu:Bs<n₀) (hd:d<n₀) (hg:L≠[]→g<n₀)
  (hc:w.cell? ⟨Bs,0,none⟩=some (.pointer (some ⟨d,0,none⟩))) (Aq:w.cell? ⟨d,1,none⟩=some (.slice (some ⟨g,0,none⟩) L.length cap)∨(L=[]∧∃a c,w.cell? ⟨d,1,none⟩=some (.slice a 0 c)))
  (hcg:∀j (h:j<L.length),w.cell? ⟨g,j*2,none⟩=some (.int .i64 (p1 L[j]))∧w.cell? ⟨g,j*2+1,none⟩=some (.slice (p2 L[j]) 512 512)):
  SeqStopsK Fence.wide n Tryz.prog 295 #[.pointer (some ⟨Bs,0,none⟩)] (λx:α=>#[.agg #[.int .i64 (p1 x),.slice (p2 x) 512 512]]) (Below n₀) (λys=>ys=L.reverse) (λpre=>pre<+:L.reverse) L.length w:=λll J Jx W hW _ _ hY h0=>by
 have hWn:=hW.mono hn₀;obtain⟨m,hm⟩:∃m,m=L.length:=⟨_,rfl⟩
 obtain⟨a0,c0,alK⟩:∃a c,w.cell? ⟨d,1,none⟩=some (.slice a m c)∧(m≠0→a=some ⟨g,0,none⟩):=by
  rcases Aq with h|⟨h,a,c,h2⟩
  ·exact⟨_,_,by rw[hm];exact h,λ_=>rfl⟩
  ·subst h
   exact⟨a,c,by rw[hm];exact h2,λh=>absurd hm h⟩
 have eD:m≤1000000:=by rw[hm];exact hL
 have Hm:=U hm;have Pj:∀wr,Below n₀ w wr→wr.cell? ⟨Bs,0,none⟩=some (.pointer (some ⟨d,0,none⟩)):=λwr h=>(h.cell (p:=⟨Bs,0,none⟩) Lu).trans hc;have hkd:∀wr,Below n₀ w wr→wr.cell? ⟨d,1,none⟩=some (.slice a0 m c0):=λwr h=>(h.cell (p:=⟨d,1,none⟩) hd).trans alK.1;have e1:=Pj W hWn;have e2:=hkd W hWn;have KB:=U Pj;have Kd:=U hkd;clear Pj hkd hc Aq hm;refine callsIn_of_wp Tryz.func295 rfl trivial ?_ rfl;simp only[Tryz.ntmps295,zQ,zA,zN,Nat.reduceAdd,Nat.reduceSub,zJ,zK,zT,zM,zB,zU];gi_wp2;gi_loopw [3] (λv wr=>∃(k:Nat),k≤m∧v=.int .i64 ((k:Int) - 1)∧Below n₀ w wr∧J (L.reverse.take (m - k)) wr) (λv _=>((intOf v)+1).toNat)
 case atStart=>exact⟨m,zm _,rfl,hWn,by rw[zbc];exact h0⟩
 case round=>
  obtain⟨k,hk,rfl,hB,hJ⟩:=hrel;have f1:=KB.o wr hB;have f2:=Kd.o wr hB;have HB:=U hB;clear hB e1 e2
  match k,hk,hJ with
  |0,hk,hJ=>
   gi_wp2;go_end0;rw[Nat.sub_zero,zy (by rw[List.length_reverse,Hm.o];exact zm _)] at hJ;exact⟨⟨_,rfl⟩,.inl ⟨_,rfl,hJ⟩⟩
  |k+1,hk,hJ=>
   have hkL:k<L.length:=by have:=Hm.o;omega
   obtain rfl:=alK.2 oQ;have Bv:L.reverse[m - (k+1)]? =some L[k]:=by
    rw[List.getElem?_reverse (by have:=Hm.o;omega),←Hm.o,show m - 1 - (m - (k+1))=k by omega,zu hkL]
   have wI:L.reverse.take (m - (k+1))++[L[k]]=L.reverse.take (m - k):=by
    rw[show m - k=m - (k+1)+1 by omega,zaV,Bv];rfl
   obtain⟨fn,tmps,assign,body,hy,hR⟩:=hY _ (L[k]) wr hJ (by have:=Hm.o;rw[zF,List.length_reverse];omega);obtain⟨g1,g2⟩:=hcg k hkL;have hgn:g<n₀:=hg (by rintro rfl;simp at hkL);have f3:=(HB.o.cell (p:=⟨g,k*2,none⟩) hgn).trans g1;have f4:=(HB.o.cell (p:=⟨g,k*2+1,none⟩) hgn).trans g2;rw[wI] at hR;have Htk:=U wI;clear g1 g2 wI Bv hJ;have Ij:((k+1:Nat):Int) - 1=(k:Int):=oQ
   simp only[Ij];gi_wp2;refine hR.mono ?_;rintro e W3 (⟨rfl,pV,gL⟩|⟨rfl,YN⟩)
   ·gi_wp2
    go_roundw
    case rel=>exact⟨k,oQ,rfl,HB.o.trans gL,pV⟩
    case measure=>simp[intOf]<;>omega
   ·gi_wp2
    refine bodyPost_ret (results_none rfl _ _ _) rfl ?_;exact⟨⟨_,rfl⟩,.inr ⟨_,List.take_prefix _ _,YN⟩⟩
theorem CP:jC Tryz.prog 23 3 (.int .i64 0) 8:=⟨Tryz.underlying23,kQ,rfl⟩
theorem Ar (n:Nat):List.replicate n (Value.int .i64 0)=dA (List.replicate n 0):=by simp[dA]
theorem Bw (w:World) (n:Nat) (h1:1≤n) (h2:n≤1048576):
  Calls Tryz.prog 182 #[.int .i64 n,.int .i64 0] w λe w'=>∃r rb,e=.returned (.pointer (some ⟨r,0,none⟩))∧RingAt w' r rb n (List.replicate n 0)∧(w.heap.size≤r∧w.heap.size≤rb)∧Below w.heap.size w w':=by
 obtain⟨w1,fC,hv,hB,gJ⟩:=kN CP (w:=w) .i64 .i64 n oQ oQ;rw[Ar] at hv;have FY:max (n:Int) 1=n:=oQ
 have Il:min (n:Int) 1048576=n:=oQ
 obtain⟨w2,iy⟩:∃w2,w1.alloc (.cells #[.slice (some ⟨w.heap.size,0,none⟩) n n] 325)=w2:=⟨_,rfl⟩
 have sH:RingAt w2 w1.heap.size w.heap.size n (List.replicate n 0):=by
  rw[←iy];exact⟨ah.new _ _ _,hv.below ((zn _ _).alloc (zm _) _),qc,h1,h2⟩
 rw[gJ] at sH;have aJ:Below w.heap.size w w2:=by rw[←iy];exact hB.alloc hB.size _
 have bH:=U aJ;have R2:=U sH;have c0:=sH.cells.cell 0;simp only[zf] at c0;clear sH hB hv aJ;go_enter Tryz.func182,Tryz.ntmps182;go_wp2_with fail;go_loopw [6,18] (λu i wr=>∃(j:Nat),j≤n∧i=.int .i64 j∧RingAt wr (w.heap.size+1) w.heap.size n (List.replicate n 0)∧Below w.heap.size w wr) (λ_ i _=>n - (intOf i).toNat)
 case atStart=>exact⟨0,oQ,rfl,R2.o,bH.o⟩
 case round=>
  obtain⟨j,hj,rfl,hR,hB⟩:=hrel;have R:=U hR;have HB:=U hB;clear hB c0 iy fC FY Il;by_cases Lv:j<n
  ·have d0:=hR.cells.cell 0
   simp only[zf] at d0;have dj:=hR.row.cell j;rw[bW,qF,if_pos Lv,qA] at dj;have fj:=hR.row.free j;have hs:Step (· =w.heap.size) wr (· =w.heap.size) (wr.setCell ⟨w.heap.size,j,none⟩ (.int .i64 0)):=Step.set1 (hR.row.aV dQ) j _;have Gq:RingAt (wr.setCell ⟨w.heap.size,j,none⟩ (.int .i64 0)) (w.heap.size+1) w.heap.size n (List.replicate n 0):=by
    refine⟨hR.cells.step hs (by show¬(w.heap.size+1=w.heap.size);omega),?_,hR.len,hR.few⟩;have h3:=hR.row.aB j (.int .i64 0);rw[←Ar,List.set_replicate_self,Ar] at h3;exact h3
   have R2':=U Gq;have PO:=U (HB.o.setCell (p:=⟨w.heap.size,j,none⟩) (zm _) (.int .i64 0));clear hR hs Gq;go_wp2_with fail;go_roundw
   case rel=>exact⟨j+1,oQ,by go_num,R2'.o,PO.o⟩
   case measure=>simp[intOf];omega
  ·obtain rfl:j=n:=oQ
   clear hR;go_wp2_with fail;go_ret;exact⟨_,_,rfl,R.o,⟨oQ,zm _⟩,HB.o⟩
end
end Go.Proofs.YtdjdpeadohobmaaGreatDoor
