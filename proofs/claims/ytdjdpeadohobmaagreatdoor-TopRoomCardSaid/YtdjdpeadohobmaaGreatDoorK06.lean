/- A part of the walk below the law: what is proved here is used by later parts; no further condition. -/
import Derived.RangeFuncBound
import Derived.RangeFuncCalls
import Derived.RangeFuncLeaves
import Derived.RangeFuncNested
import Derived.Test.YtdjdpeadohobmaaGreatDoorK04
import Derived.Test.YtdjdpeadohobmaaGreatDoorK05
set_option linter.unusedVariables false
set_option linter.unusedSimpArgs false
set_option maxRecDepth 100000
set_option maxHeartbeats 20000000
namespace Go.Proofs.YtdjdpeadohobmaaGreatDoor
section
open Go.RowKit
def wL {α:Type} (F:Fence) (n:Nat) (P:Program) (g:Nat) (lb:Array Value) (encs:α→Array Value) (Kp:World→World→Prop) (L:List α) (W:World):Prop:=
 ∀(l:Nat) (J:List α→World→Prop),OwnFrom W.heap.size J→
  (∀pre x W1,pre++[x]<+:L→J pre W1→YieldAt F (n - 1) P l (encs x) W1 λe W'=>e=.returned (.bool true)∧J (pre++[x]) W'∧Kp W1 W')→
  J [] W→CallsIn F n P g (#[.func (.yield l) #[] #[]]++lb) W λe W'=>(∃v,e=.returned v)∧J L W'
theorem UA {F:Fence} (hd:F.depth=none) (k:Nat):F.room k:=λd h=>by rw[hd] at h;cases h
theorem YieldAt.deep {F:Fence} (hd:F.depth=none) {m:Nat} (m':Nat) {P:Program} {l:Nat} {args:Array Value} {W:World} {R:Ending→World→Prop} (h:YieldAt F m P l args W R):YieldAt F m' P l args W R:=by
 obtain⟨fn,tmps,assign,body,hy,hR⟩:=h;exact⟨fn,tmps,assign,body,hy,hR.1,λc cs _=>hR.2 c cs (UA hd _)⟩
variable {F:Fence} {n:Nat} {P:Program} {w:World}
theorem gF {α:Type} {g:Operand} {ps:Array Tmp} {assign body:Code} {Q:Exit→Act→World→Prop} {a:Act}
  (hro:F.round=none) (h1:1≤n) {gf:Nat} {lb:Array Value} (hg:a.eval g=.func (.func gf) #[] lb) (hFg:F.fn gf) (eg:∀args w,(callFunc gf args).run P w=.ok (.enter gf args) w)
  {encs:α→Array Value} {Kp:World→World→Prop} {L:List α} (nN:∀W1,Below w.heap.size w W1→W1.heap.size=w.heap.size+2→wL F (n - 1) P gf lb encs Kp L W1)
  (YO:∀{A B C:World},Kp A B→Kp B C→Kp A C) (hKb:∀(W:World) (o o':Obj),W.heap[w.heap.size+1]? =some o→o.isCells=false→Kp W (W.putObj (w.heap.size+1) o')) (hps:∀x,(encs x).size=ps.size)
  (I:List α→World→Prop) (hI:OwnFrom w.heap.size I) (h0:I [] w) (Ax:α→Act→World→Prop) (hAx:∀x a',OwnFrom w.heap.size (λ(_:Unit) W=>Ax x a' W))
  (hassign:∀(l:Nat) (pre:List α) (x:α) (W:World) (K:Act→World→Prop),I pre W→(∀a' W',KeepsFrom w.heap.size W W'→Kp W W'→I pre W'→Ax x a' W'→K a' W')→
   assign.wpIn (F.inRound l) (n - 1 - 1) P (Exit.then K (λ_ _ _=>False)) {tmps:=(ps.zip (encs x)).foldl (λt (p,v)=>t.setIfInBounds p v) a.tmps,defers:=[]} W)
  (LW:∀(l:Nat) (pre:List α) (x:α) (a':Act) (W:World),pre++[x]<+:L→I pre W→Ax x a' W→w.heap.size+2≤W.heap.size→
   body.wpIn (F.inRound l) (n - 1 - 1) P (λe _ W'=>e=.normal∧KeepsFrom w.heap.size W W'∧Kp W W'∧I (pre++[x]) W') a' W)
  (LX:∀(D:Nat) (W:World),w.heap.size≤D→I L W→W.heap[D]? =some (.deferred (some []))→Q .normal {a with defers:={target:=.collected D,args:=#[]}::a.defers} W):
  (Code.rangeFunc g ps assign body).wpIn F n P Q a w:=by
 refine wpIn_rangeFunc ?_;intro fn lN;rw[hro];obtain⟨rec,mX⟩:∃rec:LoopState→Option Code→Loop,rec=λst pe=>{state:=st,pending:=pe,fn,tmps:=a.tmps,params:=ps,assign,body,defers:=w.heap.size}:=⟨_,rfl⟩
 obtain⟨W1,xX⟩:∃W1,(w.alloc (.deferred (some []))).alloc (.loop (rec .ready none))=W1:=⟨_,rfl⟩
 have hz1:W1.heap.size=w.heap.size+2:=by rw[←xX];simp
 have hL1:W1.heap[w.heap.size+1]? =some (.loop (rec .ready none)):=by
  rw[←xX];have:=World.alloc_heap_new (w.alloc (.deferred (some []))) (.loop (rec .ready none));rwa[World.size_alloc] at this
 have hK1:W1.heap[w.heap.size]? =some (.deferred (some [])):=by
  rw[←xX];exact(Below.heap_alloc _ _ _ (by simp)).trans (World.alloc_heap_new w _)
 have hI1:I [] W1:=by rw[←xX];exact hI.alloc _ (hI.alloc _ h0)
 have iA:Below w.heap.size w W1:=by rw[←xX];exact((Below.refl _ w).alloc (Nat.le_refl _) _).alloc (by simp) _
 refine⟨w.heap.size+1,[{target:=.collected w.heap.size,args:=#[]}],W1,{target:=.fn (.func gf) lb,args:=#[.func (.yield (w.heap.size+1)) #[] #[]]},W1,gf,
  #[.func (.yield (w.heap.size+1)) #[] #[]]++lb,W1,?_,?_,?_,?_,λ_=>h1,?_⟩
 ·rw[←xX,mX];exact run_enterLoop_outer _ _ _ _ _
 ·simp only[resolve,hg]
  simp[go_sem]
 ·intro f' SL
  simp[Target.leads] at SL;subst SL;exact hFg
 ·simp[invoke,go_sem,eg]
 ·refine(nN W1 iA hz1 (w.heap.size+1)
   (λpre W=>I pre W∧W.heap[w.heap.size+1]? =some (.loop (rec .ready none))∧W.heap[w.heap.size]? =some (.deferred (some [])))
   (λs A B row hs lQ hr=>⟨hI s A B row hs.1 lQ (λr e=>⟨by have:=(hr r e).1;omega,(hr r e).2⟩),
    (lQ.block _ (Array.getElem?_eq_some_iff.1 hs.2.1).1 (λe=>by have:=(hr _ e.symm).1;omega)).trans hs.2.1,
    (lQ.block _ (Array.getElem?_eq_some_iff.1 hs.2.2).1 (λe=>by have:=(hr _ e.symm).1;omega)).trans hs.2.2⟩)
   ?_ ⟨hI1,hL1,hK1⟩).mono ?_
  ·rintro pre x W nP ⟨hi,hl,hk⟩
   have hy:=run_yield (P:=P) (args:=encs x) hl (by rw[mX];exact hps x);rw[mX] at hy;refine⟨fn,_,assign,body,hy,roundIn_of_wpIn lN (hassign _ pre x W _ hi ?_)⟩;clear hy;intro a' Wa Im iX hia hax;have LY:=Im.same _ _ (by omega) hl rfl;have hka:=Im.same _ _ (Nat.le_refl _) hk rfl;have bA:w.heap.size+1<Wa.heap.size:=(Array.getElem?_eq_some_iff.1 LY).1;refine⟨_,run_beginRound LY (by rw[mX]),?_⟩;obtain⟨Wb,Dz⟩:∃Wb,Wa.putObj (w.heap.size+1) (.loop {rec .ready none with state:=.busy})=Wb:=⟨_,rfl⟩
   have LZ:Wb.heap[w.heap.size+1]? =some (.loop {rec .ready none with state:=.busy}):=by rw[←Dz];exact World.putObj_heap_same bA
   have eO:Wb.heap[w.heap.size]? =some (.deferred (some [])):=by rw[←Dz];exact(World.putObj_heap_other (by omega)).trans hka
   have iy:Kp Wa Wb:=by rw[←Dz];exact hKb _ _ _ LY rfl
   have jQ:I pre Wb:=by rw[←Dz];exact hI.putObj _ hia (by omega) LY rfl
   have YP:Ax x a' Wb:=by rw[←Dz];exact(hAx x a').putObj (s:=()) _ hax (by omega) LY rfl
   have hz2:w.heap.size+2≤Wb.heap.size:=by rw[←Dz,World.putObj_size];omega
   rw[Dz];refine wpIn_mono (LW _ pre x a' _ nP jQ YP hz2) ?_;rintro e a3 W3 ⟨rfl,gL,DC,Pg⟩;have JO:=gL.same _ _ (by omega) LZ rfl;have hr:=run_endRound (P:=P) none JO;rw[mX] at hr JO ⊢;refine⟨_,_,hr,rfl,⟨hI.putObj _ Pg (by omega) JO rfl,World.putObj_heap_same (Array.getElem?_eq_some_iff.1 JO).1,(World.putObj_heap_other (by omega)).trans (gL.same _ _ (Nat.le_refl _) eO rfl)⟩,YO iX (YO (YO iy DC) (hKb _ _ _ JO rfl))⟩
  ·rintro e W2 ⟨⟨v,rfl⟩,hi,hl,hk⟩
   refine⟨none,_,by have:=run_endLoop (P:=P) hl (by rw[mX];simp);rw[mX] at this;exact this,LX _ _ (Nat.le_refl _) (hI.putObj _ hi (by omega) hl rfl) ((World.putObj_heap_other (by omega)).trans hk)⟩
end
section
open Go.RowKit Go.Shelf
attribute [local go_sem] Oper.semAt_some
def bZ (S:List Nat) (A B:World):Prop:=∀b,b∈S→B.heap[b]? =A.heap[b]?
theorem bZ.trans {S:List Nat} {A B C:World} (h:bZ S A B) (k:bZ S B C):bZ S A C:=λb hb=>(k b hb).trans (h b hb)
theorem bZ.aW {S:List Nat} {A B:World} (h:bZ S A B) {b:Nat} (hb:b∈S) {T:TypeId} {vs:List Value} (hv:ah A b T vs):ah B b T vs:=(h b hb).trans hv
theorem bZ.below {S:List Nat} {A B:World} {n₀:Nat} (h:Below n₀ A B) (hS:∀b∈S,b<n₀):bZ S A B:=λb hb=>h.block b (hS b hb)
theorem bZ.put {S:List Nat} {n₀:Nat} (hS:∀b∈S,b<n₀) (W:World) (l:Nat) (o o':Obj) (hl:n₀≤l) (ho:W.heap[l]? =some o) (h1:o.isCells=false) (h2:o.isWalk=false):bZ S W (W.putObj l o'):=λb hb=>by
 have:=hS b hb;simp[World.putObj,Array.getElem?_setIfInBounds_ne (show l≠b by omega)]
theorem bZ.step {S:List Nat} {F F':Nat→Prop} {A B:World} (h:Step F A F' B) (hS:∀b∈S,b<A.heap.size∧¬F b):bZ S A B:=λb hb=>h.keep b (hS b hb).1 (.inl (hS b hb).2)
theorem bZ.sub {S T:List Nat} {A B:World} (h:bZ S A B) (hT:∀b∈T,b∈S):bZ T A B:=λb hb=>h b (hT b hb)
theorem JQ (n:Nat) (hn:1≤n) (r rb P:Nat) (vals:List Int) (b0 b1 b2:Nat) (first len:Nat) (hlen:len≤P) (ar7:first<P) (W:World) (hR:RingAt W r rb P vals) (S:List Nat) (hS:∀b∈[b0,b1,b2,r,rb],b∈S)
  (Gs:ah W b0 3 [.int .i64 len]) (hc1:ah W b1 195 [.pointer (some ⟨r,0,none⟩)]) (hc2:ah W b2 3 [.int .i64 first]):
  wL Fence.wide n Tryz.prog 306 #[.pointer (some ⟨b0,0,none⟩),.pointer (some ⟨b1,0,none⟩),.pointer (some ⟨b2,0,none⟩)] (λx:Nat=>#[.int .i64 ((first+x)%P:Nat),.int .i64 (vals.getD ((first+x)%P) 0)]) (bZ S) (List.range len) W:=λll J hJa hY h0=>by
 have hr':=hR.cells.lt;have az9:=hR.row.lt;have g0:=Gs;have g1:=hc1;have g2:=hc2;have gR:=hR;have hP:=hR.few;have e0:=g0.cell 0;have e1:=g1.cell 0;have e2:=g2.cell 0;simp only[zf] at e0 e1 e2;have G0:=U g0;have G1:=U g1;have G2:=U g2;have GR:=U gR;clear Gs hc1 hc2 g0 g1 g2 gR hR;refine callsIn_of_wp Tryz.func306 rfl trivial ?_ rfl;simp only[Tryz.ntmps306,zQ,zA,zN,Nat.reduceAdd,Nat.reduceSub,zJ,zK,zT,zM,zB,zU];gi_wp2;gi_loopw [8] (λv wr=>∃(k:Nat),k≤len∧v=.int .i64 (k:Int)∧bZ S W wr∧J (List.range k) wr) (λv _=>len - (intOf v).toNat)
 case atStart=>exact⟨0,oQ,rfl,λ_ _=>rfl,h0⟩
 case round=>
  obtain⟨k,hk,rfl,hB,hJ⟩:=hrel;have HB:=U hB;clear hB e0 e1 e2;by_cases fF:k<len
  ·have f0:=(HB.o.aW (hS _ sQ) G0.o).cell 0
   have f1:=(HB.o.aW (hS _ sQ) G1.o).cell 0;have f2:=(HB.o.aW (hS _ sQ) G2.o).cell 0;have gr:RingAt wr r rb P vals:=⟨HB.o.aW (hS _ sQ) GR.o.cells,HB.o.aW (hS _ sQ) GR.o.row,GR.o.len,GR.o.few⟩
   have f3:=gr.cells.cell 0;have fB:(first+k)%P<P:=Nat.mod_lt _ oQ;have f4:=gr.row.cell ((first+k)%P);rw[bW,zu (by rw[GR.o.len];exact fB),qA] at f4;simp only[zf] at f0 f1 f2 f3;have Gt:=hY _ k wr (by rw[←za8];refine⟨(List.range len).drop (k+1),?_⟩;rw[show List.range (k+1)=(List.range len).take (k+1) by rw[List.take_range,qP oQ],zak]) hJ;rw[show vals.getD ((first+k)%P) 0=vals[(first+k)%P]'(by rw[GR.o.len];exact fB) by rw[z_,zu (by rw[GR.o.len];exact fB),zaf]] at Gt;rw[show List.range k++[k]=List.range (k+1) by rw[za8]] at Gt;obtain⟨vx,hvx⟩:∃vx,vals[(first+k)%P]'(by rw[GR.o.len];exact fB)=vx:=⟨_,rfl⟩
   rw[hvx] at f4 Gt;clear hvx;obtain⟨pl,YQ⟩:∃pl,(first+k)%P=pl:=⟨_,rfl⟩
   rw[YQ] at fB;rw[YQ] at Gt f4;have PS:((first:Int)+(k:Int))%(P:Int)=(pl:Int):=by rw[←YQ];simp
   obtain⟨fn,tmps,assign,body,hy,hR⟩:=Gt;have az_:=U YQ;have Hgr:=U gr;clear YQ gr;gi_wp2_with fail;refine⟨trivial,(callsIn_wide.2 (Dy Hgr.o first k oQ oQ)).mono ?_⟩;rintro e w' ⟨rfl,rfl⟩;rw[PS];gi_wp2_with fail;refine hR.mono ?_;rintro e W3 ⟨rfl,pV,gL⟩;gi_wp2;go_roundw
   case rel=>exact⟨k+1,oQ,by go_num,HB.o.trans gL,pV⟩
   case measure=>simp[intOf]<;>omega
  ·obtain rfl:k=len:=oQ
   gi_wp2_with fail;go_end0;exact⟨⟨_,rfl⟩,hJ⟩
theorem JR {w:World} {r rb P:Nat} {vals:List Int} (h:RingAt w r rb P vals) (a:Int) (n:Nat) (ha: -4611686018427387904≤a∧a≤4611686018427387904) (hn:n≤P):
  Calls Tryz.prog 261 #[.pointer (some ⟨r,0,none⟩),.int .i64 a,.int .i64 n] w λe w'=>∃b0 b1 b2:Nat,e=.returned (.func (.func 306) #[] #[.pointer (some ⟨b0,0,none⟩),.pointer (some ⟨b1,0,none⟩),.pointer (some ⟨b2,0,none⟩)])∧(w.heap.size≤b0∧w.heap.size≤b1∧w.heap.size≤b2)∧ah w' b0 3 [.int .i64 n]∧ah w' b1 195 [.pointer (some ⟨r,0,none⟩)]∧ah w' b2 3 [.int .i64 (a%(P:Int))]∧Below w.heap.size w w':=by
 have hP:=h.few;have FY:max (n:Int) 0=n:=oQ
 have Il:min (n:Int) P=n:=oQ
 have H:=U h;clear h;go_enter Tryz.func261,Tryz.ntmps261;go_wp2_with fail;obtain⟨w1,aP⟩:∃w1,(w.alloc (.cells #[.pointer (some ⟨r,0,none⟩)] 195)).alloc (.cells #[.int .i64 n] 3)=w1:=⟨_,rfl⟩
 have hB:Below w.heap.size w w1:=by rw[←aP];exact((zn _ _).alloc (zm _) _).alloc sQ _
 have gJ:w1.heap.size=w.heap.size+2:=by rw[←aP];simp
 have v0:ah w1 w.heap.size 195 [.pointer (some ⟨r,0,none⟩)]:=by rw[←aP];exact(ah.new w _ _).below ((zn _ _).alloc (zm _) _)
 have v1:ah w1 (w.heap.size+1) 3 [.int .i64 n]:=by rw[←aP];exact ah.at sQ _ _
 rw[aP];clear aP;have hk:∀W,Below w1.drew.heap.size w1.drew W→W.cell? ⟨w.heap.size,0,none⟩=some (.pointer (some ⟨r,0,none⟩))∧W.cell? ⟨w.heap.size+1,0,none⟩=some (.int .i64 n):=λW hW=>⟨(hW.cell (p:=⟨w.heap.size,0,none⟩) (show w.heap.size<w1.heap.size by omega)).trans (v0.cell 0),(hW.cell (p:=⟨w.heap.size+1,0,none⟩) (show w.heap.size+1<w1.heap.size by omega)).trans (v1.cell 0)⟩
 have hR:∀W,Below w1.drew.heap.size w1.drew W→RingAt W r rb P vals:=λW hW=>by
  have aJ:Below w.heap.size w W:=(hB.drew).trans (hW.mono (by rw[World.size_drew]<;>omega));exact⟨H.o.cells.below aJ,H.o.row.below aJ,H.o.len,H.o.few⟩
 have HR:=U hR;have nO:ah ((w1.setCell ⟨w.heap.size+1,0,none⟩ (.int .i64 n)).alloc (.cells #[.int .i64 (a%(P:Int))] 3)).drew (w.heap.size+1) 3 [.int .i64 n]∧ah ((w1.setCell ⟨w.heap.size+1,0,none⟩ (.int .i64 n)).alloc (.cells #[.int .i64 (a%(P:Int))] 3)).drew w.heap.size 195 [.pointer (some ⟨r,0,none⟩)]∧ah ((w1.setCell ⟨w.heap.size+1,0,none⟩ (.int .i64 n)).alloc (.cells #[.int .i64 (a%(P:Int))] 3)).drew (w.heap.size+2) 3 [.int .i64 (a%(P:Int))]∧Below w.heap.size w ((w1.setCell ⟨w.heap.size+1,0,none⟩ (.int .i64 n)).alloc (.cells #[.int .i64 (a%(P:Int))] 3)).drew:=by
  have h1:Below w.heap.size w (w1.setCell ⟨w.heap.size+1,0,none⟩ (.int .i64 n)):=hB.setCell (p:=⟨w.heap.size+1,0,none⟩) (by show w.heap.size≤w.heap.size+1;omega) _;have h2:=v1.aB 0 (.int .i64 n);have h3:ah (w1.setCell ⟨w.heap.size+1,0,none⟩ (.int .i64 n)) w.heap.size 195 [.pointer (some ⟨r,0,none⟩)]:=(zI _ _ _ _ (by show w.heap.size≠w.heap.size+1;omega)).trans v0;have h4:(w1.setCell ⟨w.heap.size+1,0,none⟩ (.int .i64 n)).heap.size=w.heap.size+2:=by simpa[World.setCell] using gJ
  refine⟨h2.below ((zn _ _).alloc (zm _) _).drew,h3.below ((zn _ _).alloc (zm _) _).drew,?_,(h1.alloc h1.size _).drew⟩;exact ah.at (by rw[h4]) _ _
 have PU:=U nO;clear nO;have c1:=v1.cell 0;have f1:=v1.free 0;simp only[zf] at c1;clear hR;refine wp_region_noPanic ?_;refine ak (S:=(λW=>W.cell? ⟨w.heap.size,0,none⟩=some (.pointer (some ⟨r,0,none⟩))∧W.cell? ⟨w.heap.size+1,0,none⟩=some (.int .i64 n))) (m:=10) kQ (hk _ (zn _ _)) (λaj=>?_);refine te 0 aj ?_;refine te 1 aj ?_;refine te 3 aj ?_;refine te 4 aj ?_;refine te 5 aj ?_;refine gK (i:=2) (j:=8) rfl rfl kQ (λK hK=>?_) (λK hK=>?_)
 ·go_simp
  refine(gT (HR.o _ (zn _ _)) a ha).mono ?_;rintro e w2 ⟨rfl,rfl⟩;go_wp2_with fail;refine hK.out _ _ (λ_=>(hk _ (zn _ _))) (λhS=>?_);have bQ:=hS dQ;clear hS hK K
  try simp only[Act.put,zh,zk,zl]
  refine gK (i:=6) (j:=8) rfl rfl kQ (λK hK=>?_) (λK hK=>?_)
  ·go_simp
   refine(kP (HR.o _ (zn _ _))).mono ?_;rintro e w2 ⟨rfl,rfl⟩;go_wp2_with fail;refine hK.out _ _ (λ_=>(hk _ (zn _ _))) (λhS=>?_);have bV:=hS dQ;clear hS hK K
   try simp only[Act.put,zh,zk,zl]
   refine te 7 bV ?_;refine rE 8 λK hK=>?_;go_simp;refine hK.out _ _ (λ_=>(hk _ ((zn _ _).alloc (zm _) _))) (λhS=>?_);have jd:=hS dQ;clear hS hK K
   try simp only[Act.put,zh,zk,zl]
   refine rE 9 λK hK=>?_;go_simp;refine hK.out _ _ (λ_=>(hk _ ((zn _ w1.drew).alloc (zm _) (.cells #[.int .i64 (a%(P:Int))] 3)))) (λhS=>?_);have xG:=hS dQ;clear hS hK K
   try simp only[Act.put,zh,zk,zl]
   refine rE 10 λK hK=>?_;go_simp;refine kX hK ?_;clear hK K
   try simp only[Act.put,zh,zk,zl]
   refine aD ?_;go_wp2_with fail;go_ret;exact⟨_,_,_,rfl,⟨oQ,zm _,oQ⟩,PU.o⟩
  ·go_simp
   refine hK.out _ _ (λ_=>(hk _ ((zn _ _).alloc (zm _) _))) (λhS=>?_);have bV:=hS dQ;clear hS hK K
   try simp only[Act.put,zh,zk,zl]
   refine rE 6 λK hK=>?_;go_simp;refine(kP (HR.o _ ((zn _ _).alloc (zm _) _))).mono ?_;rintro e w2 ⟨rfl,rfl⟩;go_wp2_with fail;refine hK.out _ _ (λ_=>(hk _ ((zn _ _).alloc (zm _) _))) (λhS=>?_);have jd:=hS dQ;clear hS hK K
   try simp only[Act.put,zh,zk,zl]
   refine te 7 jd ?_;refine rE 9 λK hK=>?_;go_simp;refine hK.out _ _ (λ_=>(hk _ ((zn _ w1.drew).alloc (zm _) (.cells #[.int .i64 (a%(P:Int))] 3)))) (λhS=>?_);have xG:=hS dQ;clear hS hK K
   try simp only[Act.put,zh,zk,zl]
   refine rE 10 λK hK=>?_;go_simp;refine kX hK ?_;clear hK K
   try simp only[Act.put,zh,zk,zl]
   refine aD ?_;go_wp2_with fail;go_ret;exact⟨_,_,_,rfl,⟨oQ,zm _,oQ⟩,PU.o⟩
 ·go_simp
  refine hK.out _ _ (λ_=>(hk _ ((zn _ _).alloc (zm _) _))) (λhS=>?_);have bQ:=hS dQ;clear hS hK K
  try simp only[Act.put,zh,zk,zl]
  refine rE 2 λK hK=>?_;go_simp;refine(gT (HR.o _ ((zn _ _).alloc (zm _) _)) a ha).mono ?_;rintro e w2 ⟨rfl,rfl⟩;go_wp2_with fail;refine hK.out _ _ (λ_=>(hk _ ((zn _ _).alloc (zm _) _))) (λhS=>?_);have bV:=hS dQ;clear hS hK K
  try simp only[Act.put,zh,zk,zl]
  refine rE 6 λK hK=>?_;go_simp;refine(kP (HR.o _ ((zn _ _).alloc (zm _) _))).mono ?_;rintro e w2 ⟨rfl,rfl⟩;go_wp2_with fail;refine hK.out _ _ (λ_=>(hk _ ((zn _ _).alloc (zm _) _))) (λhS=>?_);have jd:=hS dQ;clear hS hK K
  try simp only[Act.put,zh,zk,zl]
  refine te 7 jd ?_;refine rE 9 λK hK=>?_;go_simp;refine hK.out _ _ (λ_=>(hk _ ((zn _ w1.drew).alloc (zm _) (.cells #[.int .i64 (a%(P:Int))] 3)))) (λhS=>?_);have xG:=hS dQ;clear hS hK K
  try simp only[Act.put,zh,zk,zl]
  refine rE 10 λK hK=>?_;go_simp;refine kX hK ?_;clear hK K
  try simp only[Act.put,zh,zk,zl]
  refine aD ?_;go_wp2_with fail;go_ret;exact⟨_,_,_,rfl,⟨oQ,zm _,oQ⟩,PU.o⟩
def jW:Option Nat→Int
 |none=> -1
 |some p=>p
structure TabAt (w:World) (t pb ob B P:Nat) (f g:Nat→Option Nat):Prop where
 cells:∃c:Int,ah w t 266 [.slice (some ⟨pb,0,none⟩) B B,.slice (some ⟨ob,0,none⟩) P P,.int .i64 c]
 places:ah w pb 3 (dA ((List.range B).map (λi=>jW (f i))))
 iU:ah w ob 3 (dA ((List.range P).map (λp=>jW (g p))))
 few:1≤B∧B≤1048576∧1≤P∧P≤1048576
 inv:∀p i,p<P→(g p=some i↔i<B∧f i=some p)
 lt:∀i p,i<B→f i=some p→p<P
 apart:pb≠ob
theorem TabAt.step {G G':Nat→Prop} {w w':World} (hs:Step G w G' w') {t pb ob B P:Nat} {f g:Nat→Option Nat} (h:TabAt w t pb ob B P f g) (h1:¬G t) (h2:¬G pb) (h3:¬G ob):TabAt w' t pb ob B P f g:=
 ⟨h.cells.imp λc hc=>hc.step hs h1,h.places.step hs h2,h.iU.step hs h3,h.few,h.inv,h.lt,h.apart⟩
theorem TabAt.kept {S:List Nat} {w w':World} (hs:bZ S w w') {t pb ob B P:Nat} {f g:Nat→Option Nat} (h:TabAt w t pb ob B P f g) (hS:∀b∈[t,pb,ob],b∈S):TabAt w' t pb ob B P f g:=
 ⟨h.cells.imp λc hc=>hs.aW (hS _ sQ) hc,hs.aW (hS _ sQ) h.places,hs.aW (hS _ sQ) h.iU,h.few,h.inv,h.lt,h.apart⟩
theorem fO {w:World} {b n:Nat} {f:Nat→Option Nat} (h:ah w b 3 (dA ((List.range n).map (λi=>jW (f i))))) {i:Nat} (hi:i<n):w.cell? ⟨b,i,none⟩=some (.int .i64 (jW (f i))):=by
 have:=h.cell i;rw[bW,qb,qW hi] at this;exact this
section
variable {w:World}
theorem kG (a:Option Addr) (n c i:Nat) (h:i<n) (hn:n≤1048576):Calls Tryz.prog 201 #[.slice a n c,.int .i64 i] w λe w'=>e=.returned (.bool true)∧w=w':=by
 have h1:(0:Int)≤(i:Int):=oQ
 have h2:(i:Int)<(n:Int):=oQ
 go_enter Tryz.func201,Tryz.ntmps201;go_wp2;go_ret;exact⟨rfl,rfl⟩
theorem Bz {b n:Nat} {f:Nat→Option Nat} (h:ah w b 3 (dA ((List.range n).map (λi=>jW (f i))))) (i:Nat) (hi:i<n) (hn:n≤1048576):
  Calls Tryz.prog 258 #[.slice (some ⟨b,0,none⟩) n n,.int .i64 i] w λe w'=>e=.returned (.tuple #[.int .i64 ((f i).getD 0),.bool (f i).isSome])∧w=w':=by
 have hc:=fO h hi;have H:=U h;clear h;rcases hf:f i with _|p
 ·rw[hf] at hc
  simp only[jW] at hc;go_enter Tryz.func258,Tryz.ntmps258;go_wp2_with fail;refine(kG _ n n i hi hn).mono ?_;rintro e w' ⟨rfl,rfl⟩;go_wp2;go_ret2;exact⟨rfl,rfl⟩
 ·rw[hf] at hc
  simp only[jW] at hc;have hp:((p:Int)== -1)=false:=by rw[beq_eq_false_iff_ne];omega
  go_enter Tryz.func258,Tryz.ntmps258;go_wp2_with fail;refine(kG _ n n i hi hn).mono ?_;rintro e w' ⟨rfl,rfl⟩;go_wp2;go_ret2;exact⟨rfl,rfl⟩
variable {t pb ob B P:Nat} {f g:Nat→Option Nat}
theorem uL (h:TabAt w t pb ob B P f g) (i:Nat) (hi:i<B):
  Calls Tryz.prog 186 #[.pointer (some ⟨t,0,none⟩),.int .i64 i] w λe w'=>e=.returned (.tuple #[.int .i64 ((f i).getD 0),.bool (f i).isSome])∧w=w':=by
 obtain⟨c,hc⟩:=h.cells;have c0:=hc.cell 0;simp only[zf] at c0;have H:=U h;clear h hc;go_enter Tryz.func186,Tryz.ntmps186;go_wp2_with fail;refine(Bz H.o.places i hi H.o.few.2.1).mono ?_;rintro e w' ⟨rfl,rfl⟩;go_wp2;go_ret2;exact⟨rfl,rfl⟩
theorem xY (h:TabAt w t pb ob B P f g) (p:Nat) (hp:p<P):
  Calls Tryz.prog 262 #[.pointer (some ⟨t,0,none⟩),.int .i64 p] w λe w'=>e=.returned (.tuple #[.int .i64 ((g p).getD 0),.bool (g p).isSome])∧w=w':=by
 obtain⟨c,hc⟩:=h.cells;have c1:=hc.cell 1;simp only[zf,zi] at c1;have H:=U h;clear h hc;go_enter Tryz.func262,Tryz.ntmps262;go_wp2_with fail;refine(Bz H.o.iU p hp H.o.few.2.2.2).mono ?_;rintro e w' ⟨rfl,rfl⟩;go_wp2;go_ret2;exact⟨rfl,rfl⟩
end
def fD (f:Nat→Option Nat) (i:Nat) (v:Option Nat):Nat→Option Nat:=λj=>if j=i then v else f j
theorem ints_set (f:Nat→Option Nat) (n i:Nat) (v:Option Nat):(dA ((List.range n).map (λi=>jW (f i)))).set i (.int .i64 (jW v))=dA ((List.range n).map (λj=>jW (fD f i v j))):=by
 apply qG;intro j;rw[bW,zaW];by_cases hj:j<n
 ·rw[qb,qW hj]
  by_cases hij:i=j
  ·subst hij
   simp[fD,dA,hj]
  ·rw[if_neg hij,bW,qb,qW hj]
   simp[fD,Bp hij]
 ·have h1:((List.range n).map (λj=>jW (fD f i v j)))[j]? =none:=by simp;omega
  rw[h1];by_cases hij:i=j
  ·subst hij
   simp[dA,hj]
  ·rw[if_neg hij,bW]
   have h2:((List.range n).map (λi=>jW (f i)))[j]? =none:=by simp;omega
   rw[h2]
def Io (g:Nat→Option Nat) (i:Nat) (o:Option Nat):Nat→Option Nat:=match o with|some p=>fD g p none|none=>g
section
variable {w:World} {t pb ob B P:Nat} {f g:Nat→Option Nat}
abbrev sW (t pb ob:Nat):Nat→Prop:=λk=>k=t∨k=pb∨k=ob
theorem TabAt.ne (h:TabAt w t pb ob B P f g):t≠pb∧t≠ob∧pb≠ob:=by
 obtain⟨c,hc⟩:=h.cells;exact⟨hc.eU h.places dQ,hc.eU h.iU dQ,h.apart⟩
theorem L8 (h:TabAt w t pb ob B P f g) (i:Nat) (hi:i<B):
  Calls Tryz.prog 202 #[.pointer (some ⟨t,0,none⟩),.int .i64 i] w λe w'=>e=.returned (.bool (f i).isSome)∧TabAt w' t pb ob B P (fD f i none) (Io g i (f i))∧Step (sW t pb ob) w (sW t pb ob) w':=by
 obtain⟨c,hc⟩:=h.cells;obtain⟨n1,n2,n3⟩:=h.ne;rcases hf:f i with _|p
 ·have H:=U h
  have Hf:=U hf;clear h hc;go_enter Tryz.func202,Tryz.ntmps202;go_wp2_with fail;refine(uL H.o i hi).mono ?_;rintro e w' ⟨rfl,rfl⟩;rw[Hf.o];go_wp2;go_ret;refine⟨rfl,?_,Step.refl _ _⟩;have:fD f i none=f:=by funext j;unfold fD;split<;>simp_all[Hf.o]
  rw[this];exact H.o
 ·have XR:=h.lt i p hi hf
  have c0:=hc.cell 0;have c1:=hc.cell 1;have c2:=hc.cell 2;simp only[zf,zi] at c0 c1 c2;have ci:=fO h.places hi;have cp:=fO h.iU XR;have fi:=h.places.free i;have fp:=h.iU.free p;have f2:=hc.free 2;obtain⟨w1,aP⟩:∃w1,w.setCell ⟨pb,i,none⟩ (.int .i64 (-1))=w1:=⟨_,rfl⟩
  obtain⟨w2,iy⟩:∃w2,w1.setCell ⟨ob,p,none⟩ (.int .i64 (-1))=w2:=⟨_,rfl⟩
  obtain⟨w3,gV⟩:∃w3,w2.setCell ⟨t,2,none⟩ (.int .i64 (wrap64 (c - 1)))=w3:=⟨_,rfl⟩
  have s1:Step (· =pb) w (· =pb) w1:=by rw[←aP];exact Step.set1 (h.places.aV dQ) _ _
  have a1:ah w1 t 266 [.slice (some ⟨pb,0,none⟩) B B,.slice (some ⟨ob,0,none⟩) P P,.int .i64 c]:=hc.step s1 n1;have a2:ah w1 pb 3 (dA ((List.range B).map (λj=>jW (fD f i none j)))):=by rw[←aP,←ints_set];exact h.places.aB i _
  have a3:ah w1 ob 3 (dA ((List.range P).map (λq=>jW (g q)))):=h.iU.step s1 (Bp n3);have s2:Step (· =ob) w1 (· =ob) w2:=by rw[←iy];exact Step.set1 (a3.aV dQ) _ _
  have b1:=a1.step s2 n2;have b2:=a2.step s2 n3;have b3:ah w2 ob 3 (dA ((List.range P).map (λq=>jW (fD g p none q)))):=by rw[←iy,←ints_set];exact a3.aB p _
  have s3:Step (· =t) w2 (· =t) w3:=by rw[←gV];exact Step.set1 (b1.aV dQ) _ _
  have d1:ah w3 t 266 [.slice (some ⟨pb,0,none⟩) B B,.slice (some ⟨ob,0,none⟩) P P,.int .i64 (wrap64 (c - 1))]:=by rw[←gV];exact b1.aB 2 _
  have d2:=b2.step s3 (Bp n1);have d3:=b3.step s3 (Bp n2);have nO:TabAt w3 t pb ob B P (fD f i none) (Io g i (f i))∧Step (sW t pb ob) w (sW t pb ob) w3:=by
   refine⟨⟨⟨_,d1⟩,d2,?_,h.few,?_,?_,n3⟩,((s1.up (.inr (.inl rfl))).trans (s2.up (.inr (.inr rfl)))).trans (s3.up (.inl rfl))⟩
   ·rw[hf];exact d3
   ·intro q j hq
    rw[hf];simp only[Io,fD];have h1:=h.inv q j hq;have h2:=h.inv p i XR;have h3:=h.inv p j XR;by_cases SN:q=p
    ·subst SN
     rw[if_pos rfl];refine⟨λh=>(by cases h),λ⟨hj,hjf⟩=>?_⟩;by_cases oO:j=i
     ·rw[if_pos oO] at hjf;cases hjf
     ·rw[if_neg oO] at hjf
      have h4:=h1.2 ⟨hj,hjf⟩;rw[h2.2 ⟨hi,hf⟩] at h4;injection h4 with h4;exact absurd h4.symm oO
    ·rw[if_neg SN,h1]
     by_cases oO:j=i
     ·subst oO
      simp[hf,Bp SN]
     ·rw[if_neg oO]
   ·intro j q hj hjq
    unfold fD at hjq
    split at hjq
    ·cases hjq
    ·exact h.lt j q hj hjq
  rw[hf] at nO;have L9:TabAt w3.drew t pb ob B P (fD f i none) (Io g i (some p))∧Step (sW t pb ob) w (sW t pb ob) w3.drew:=⟨nO.1.step (Step.drew (λ_=>False) w3) id id id,nO.2.trans (Step.drew _ _)⟩
  have PU:=U L9;have K0:=a1.cell 0;have K1:=a1.cell 1;have cp2:=fO a3 XR;have fp2:=a3.free p;have c22:=b1.cell 2;have f22:=b1.free 2;simp only[zf,zi] at K0 K1 c22;have k0:=U K0;have k1:=U K1;clear K0 K1 nO L9 a1 a2 a3 b1 b2 b3 d1 d2 d3 s1 s2 s3 f2 fp cp c2;have H:=U h;have Hf:=U hf;have Hc:=U hc;clear h hc;go_enter Tryz.func202,Tryz.ntmps202;go_wp2_with fail;refine(uL H.o i hi).mono ?_;rintro e w' ⟨rfl,rfl⟩;rw[Hf.o];go_wp2_with fail;refine wp_region_noPanic ?_;refine ak (S:=(λW=>W.cell? ⟨t,0,none⟩=some (.slice (some ⟨pb,0,none⟩) B B)∧W.cell? ⟨t,1,none⟩=some (.slice (some ⟨ob,0,none⟩) P P))) (m:=12) kQ ⟨c0,c1⟩ (λaj=>?_);refine te 0 aj ?_;refine te 1 aj ?_;refine te 2 aj ?_;refine te 3 aj ?_;refine te 4 aj ?_;refine te 5 aj ?_;refine te 6 aj ?_;refine te 7 aj ?_;refine te 8 aj ?_;refine te 9 aj ?_;refine te 10 aj ?_;refine rE 11 λK hK=>?_;go_simp;refine hK.out _ _ (λ_=>⟨k0.o,k1.o⟩) (λhS=>?_);have bQ:=hS dQ;clear hS hK K
  try simp only[Act.put,zh,zk,zl]
  refine oC (i:=12) (v:=?aAd) rfl kQ kQ kQ dQ (λ_ _ _ h=>h) rQ ?ar9 ?aAe
  case ar9=>(intro W iR;(try dsimp only at iR);go_simp;(try with_reducible rfl))
  try simp only[Act.put,zh,zk,zl]
  refine rE 13 λK hK=>?_;go_simp;refine kX hK ?_;clear hK K
  try simp only[Act.put,zh,zk,zl]
  refine aD ?_;go_wp2_with fail;go_ret;exact⟨rfl,PU.o⟩
theorem DF (h:TabAt w t pb ob B P f g) (i p:Nat) (hi:i<B) (hp:p<P) (tV:∀j,j<B→f j≠some p):
  Calls Tryz.prog 128 #[.pointer (some ⟨t,0,none⟩),.int .i64 i,.int .i64 p] w λe w'=>e=.returned (.bool true)∧(∃g',TabAt w' t pb ob B P (fD f i (some p)) g')∧Step (sW t pb ob) w (sW t pb ob) w':=by
 obtain⟨c,hc⟩:=h.cells;have c0:=hc.cell 0;have c1:=hc.cell 1;simp only[zf,zi] at c0 c1;have cp:=fO h.iU hp;have hg:g p=none:=by
  rcases hg:g p with _|j
  ·rfl
  ·exact absurd ((h.inv p j hp).1 hg).2 (tV j ((h.inv p j hp).1 hg).1)
 rw[hg] at cp;simp only[jW] at cp;have H:=U h;have Hg:=U hg;clear h hc hg;go_enter Tryz.func128,Tryz.ntmps128;go_wp2_with fail;refine(kG _ B B i hi H.o.few.2.1).mono ?_;rintro e w' ⟨rfl,rfl⟩;go_wp2_with fail;refine(kG _ P P p hp H.o.few.2.2.2).mono ?_;rintro e w' ⟨rfl,rfl⟩;go_wp2_with fail;clear c0 c1 cp;refine(L8 H.o i hi).mono ?_;rintro e w4 ⟨rfl,hT,hS⟩;have FZ:Io g i (f i) p=none:=by
  rcases f i with _|q
  ·exact Hg.o
  ·show fD g q none p=none
   unfold fD
   split
   ·rfl
   ·exact Hg.o
 obtain⟨f1,XU⟩:∃f1,fD f i none=f1:=⟨_,rfl⟩
 obtain⟨g1,ahn⟩:∃g1,Io g i (f i)=g1:=⟨_,rfl⟩
 have hfi:f1 i=none:=by rw[←XU];simp[fD]
 rw[XU,ahn] at hT;rw[ahn] at FZ;have hff:fD f1 i (some p)=fD f i (some p):=by
  funext j;rw[←XU];unfold fD
  split<;>rfl
 clear XU ahn;obtain⟨c4,hc⟩:=hT.cells;obtain⟨n1,n2,n3⟩:=hT.ne;have c0:=hc.cell 0;have c1:=hc.cell 1;simp only[zf,zi] at c0 c1;have ci:=fO hT.places hi;have fi:=hT.places.free i;obtain⟨w1,aP⟩:∃w1,w4.setCell ⟨pb,i,none⟩ (.int .i64 p)=w1:=⟨_,rfl⟩
 obtain⟨w2,iy⟩:∃w2,w1.setCell ⟨ob,p,none⟩ (.int .i64 i)=w2:=⟨_,rfl⟩
 obtain⟨w3,gV⟩:∃w3,w2.setCell ⟨t,2,none⟩ (.int .i64 (wrap64 (c4+1)))=w3:=⟨_,rfl⟩
 have s1:Step (· =pb) w4 (· =pb) w1:=by rw[←aP];exact Step.set1 (hT.places.aV dQ) _ _
 have a1:ah w1 t 266 [.slice (some ⟨pb,0,none⟩) B B,.slice (some ⟨ob,0,none⟩) P P,.int .i64 c4]:=hc.step s1 n1;have a2:ah w1 pb 3 (dA ((List.range B).map (λj=>jW (fD f1 i (some p) j)))):=by rw[←aP,←ints_set];exact hT.places.aB i _
 have a3:ah w1 ob 3 (dA ((List.range P).map (λq=>jW (g1 q)))):=hT.iU.step s1 (Bp n3);have s2:Step (· =ob) w1 (· =ob) w2:=by rw[←iy];exact Step.set1 (a3.aV dQ) _ _
 have b1:=a1.step s2 n2;have b2:=a2.step s2 n3;have b3:ah w2 ob 3 (dA ((List.range P).map (λq=>jW (fD g1 p (some i) q)))):=by rw[←iy,←ints_set];exact a3.aB p _
 have s3:Step (· =t) w2 (· =t) w3:=by rw[←gV];exact Step.set1 (b1.aV dQ) _ _
 have d1:ah w3 t 266 [.slice (some ⟨pb,0,none⟩) B B,.slice (some ⟨ob,0,none⟩) P P,.int .i64 (wrap64 (c4+1))]:=by rw[←gV];exact b1.aB 2 _
 have d2:=b2.step s3 (Bp n1);have d3:=b3.step s3 (Bp n2);have Ls:∀j,j<B→f1 j≠some p:=λj hj hjf=>by
  have:=(hT.inv p j hp).2 ⟨hj,hjf⟩;rw[FZ] at this;cases this
 have nO:TabAt w3 t pb ob B P (fD f1 i (some p)) (fD g1 p (some i))∧Step (sW t pb ob) w (sW t pb ob) w3:=by
  refine⟨⟨⟨_,d1⟩,d2,d3,hT.few,?_,?_,n3⟩,((hS.trans (s1.up (.inr (.inl rfl)))).trans (s2.up (.inr (.inr rfl)))).trans (s3.up (.inl rfl))⟩
  ·intro q j hq
   simp only[fD];have h1:=hT.inv q j hq;by_cases SN:q=p
   ·subst SN
    rw[if_pos rfl];by_cases oO:j=i
    ·subst oO
     simp[hi]
    ·simp only[if_neg oO]
     refine⟨λh=>by injection h with h;exact absurd h.symm oO,λ⟨hj,hjf⟩=>absurd hjf (Ls j hj)⟩
   ·rw[if_neg SN,h1]
    by_cases oO:j=i
    ·subst oO
     simp[hfi,Bp SN]
    ·rw[if_neg oO]
  ·intro j q hj hjq
   unfold fD at hjq
   split at hjq
   ·injection hjq with hjq
    omega
   ·exact hT.lt j q hj hjq
 rw[hff] at nO;have L9:(∃g',TabAt w3.drew t pb ob B P (fD f i (some p)) g')∧Step (sW t pb ob) w (sW t pb ob) w3.drew:=⟨⟨_,nO.1.step (Step.drew (λ_=>False) w3) id id id⟩,nO.2.trans (Step.drew _ _)⟩
 have PU:=U L9;have K0:=a1.cell 0;have K1:=a1.cell 1;have cp2:=fO a3 hp;have fp2:=a3.free p;have c22:=b1.cell 2;have f22:=b1.free 2;simp only[zf,zi] at K0 K1 c22;have k0:=U K0;have k1:=U K1;clear K0 K1 nO L9 a1 a2 a3 b1 b2 b3 d1 d2 d3 s1 s2 s3 Ls hS hT hc;go_wp2_with fail;refine wp_region_noPanic ?_;refine ak (S:=(λW=>W.cell? ⟨t,0,none⟩=some (.slice (some ⟨pb,0,none⟩) B B)∧W.cell? ⟨t,1,none⟩=some (.slice (some ⟨ob,0,none⟩) P P))) (m:=14) kQ ⟨c0,c1⟩ (λaj=>?_);refine te 0 aj ?_;refine te 1 aj ?_;refine te 2 aj ?_;refine te 3 aj ?_;refine te 4 aj ?_;refine te 5 aj ?_;refine te 6 aj ?_;refine te 7 aj ?_;refine te 8 aj ?_;refine te 9 aj ?_;refine te 10 aj ?_;refine te 11 aj ?_;refine te 12 aj ?_;refine rE 13 λK hK=>?_;go_simp;refine hK.out _ _ (λ_=>⟨k0.o,k1.o⟩) (λhS=>?_);have bQ:=hS dQ;clear hS hK K
 try simp only[Act.put,zh,zk,zl]
 refine oC (i:=14) (v:=?aAh) rfl kQ kQ kQ dQ (λ_ _ _ h=>h) rQ ?tX ?aAi
 case tX=>(intro W iR;(try dsimp only at iR);go_simp;(try with_reducible rfl))
 try simp only[Act.put,zh,zk,zl]
 refine rE 15 λK hK=>?_;go_simp;refine kX hK ?_;clear hK K
 try simp only[Act.put,zh,zk,zl]
 refine aD ?_;go_wp2_with fail;go_ret;exact⟨rfl,PU.o⟩
end
end
end Go.Proofs.YtdjdpeadohobmaaGreatDoor
