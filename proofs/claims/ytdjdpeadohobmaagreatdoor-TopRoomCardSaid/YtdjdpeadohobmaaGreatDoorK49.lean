/- A part of the walk below the law: what is proved here is used by later parts; no further condition. -/
import Derived.Lib.ItoaLen
import Derived.OwnWalk
import Derived.Test.YtdjdpeadohobmaaGreatDoorK34
import Derived.Test.YtdjdpeadohobmaaGreatDoorK39
import Derived.Test.YtdjdpeadohobmaaGreatDoorK41
import Derived.Test.YtdjdpeadohobmaaGreatDoorK42
import Derived.Test.YtdjdpeadohobmaaGreatDoorK43
import Derived.Test.YtdjdpeadohobmaaGreatDoorK44
import Derived.Test.YtdjdpeadohobmaaGreatDoorK47
import Derived.Test.YtdjdpeadohobmaaGreatDoorK48
set_option linter.unusedVariables false
set_option linter.unusedSimpArgs false
set_option maxRecDepth 100000
set_option maxHeartbeats 20000000
namespace Go.Proofs.YtdjdpeadohobmaaGreatDoor
section
open Go.RowKit Go.Shelf Go.Maps O
attribute [local go_sem] Oper.semAt_some
section
variable {v w:World} {sp d B b n p:Nat} {C E:Nat→Bytes} {F:Nat→Prop} {l:Bytes} {c e g:Nat}
theorem RV (g' c':Nat) (k:Int):Calls Tryz.prog 283 #[.slice (some ⟨g',0,none⟩) 480 c',.int .i64 k] w λe w'=>e=.returned (.func (.func 332) #[] #[.pointer (some ⟨w.heap.size+1,0,none⟩),.pointer (some ⟨w.heap.size,0,none⟩)])∧
  w'=(w.alloc (.cells #[.slice (some ⟨g',0,none⟩) 480 c'] 22)).alloc (.cells #[.int .i64 k] 3):=by
 go_enter Tryz.func283,Tryz.ntmps283;go_wp2_with fail;go_ret;exact⟨rfl,rfl⟩
theorem Xo (hl:l.length=480) (hb:cZ w (some ⟨g,0,none⟩) l) (hg:g<w.heap.size) (he:e≤3840):Calls Tryz.prog 242 #[.slice (some ⟨g,0,none⟩) 480 c,.int .i64 e] w λx w'=>x=.returned (.int .i64 (cnt l e))∧Below w.heap.size w w':=by
 have Hb:=U hb;clear hb;refine(callsIn_wide (n:=11)).1 ?_;refine callsIn_of_wp_marks Tryz.func242 rfl trivial ?_ rfl;simp only[Tryz.ntmps242,zQ,zA,zN,Nat.reduceAdd,Nat.reduceSub,zJ,zK,zT,zM,zB,zU];refine wpIn_wide.2 ?_;go_wp2_with fail;obtain⟨w1,aP⟩:∃w1,w.alloc (.cells #[.int .i64 0] 3)=w1:=⟨_,rfl⟩
 have x5:ah w1 w.heap.size 3 [.int .i64 0]:=by rw[←aP];exact ah.new _ _ _
 have aF:Below w.heap.size w w1:=by rw[←aP];exact(zn _ _).alloc (zm _) _
 have hz1:w1.heap.size=w.heap.size+1:=by rw[←aP];simp
 rw[aP];refine(RV _ _ _).mono ?_;rintro x w2 ⟨rfl,iy⟩;obtain⟨aM,aJ,hz2⟩:=boxes [([.slice (some ⟨g,0,none⟩) 480 c],22),([.int .i64 e],3)] w1 w2 iy.symm;have z0:ah w2 w1.heap.size 22 [.slice (some ⟨g,0,none⟩) 480 c]:=aM 0 _ rfl;have z1:ah w2 (w1.heap.size+1) 3 [.int .i64 e]:=aM 1 _ rfl;have aoL:w2.heap.size=w1.heap.size+2:=by simpa using hz2
 have dh:cZ w2 (some ⟨g,0,none⟩) l:=Hb.o.below (aF.trans (aJ.mono oQ));have X5:=U (x5.below aJ);have bH:=U (aF.trans (aJ.mono oQ));have HB:=U dh;rw[hz1] at z0 z1;rw[hz1] at aoL;have Z0:=U z0;have Z1:=U z1;clear dh z0 z1 aM aF aJ hz2 x5 iy aP;go_wp2_with fail;refine(wpIn_wide (n:=11)).1 ?_;generalize dw:Act.mk _ _=a0
 refine nu (n:=11) rfl oQ (gf:=332) (lb:=#[.pointer (some ⟨w.heap.size+1+1,0,none⟩),.pointer (some ⟨w.heap.size+1,0,none⟩)]) (by rw[←dw];rfl) trivial (enters_of Tryz.func332 kQ rfl)
  (encs:=λx:Nat=>#[.int .i64 x]) (Kp:=bZ [w.heap.size+1+1,w.heap.size+1,g]) (St:=λ_ _=>False) (Ok:=λpre x _=>pre++[x]<+:taken l e) (Good:=λk L=>k=false∧L=taken l e)
  (λW1 hB hz=>RU (c:=c) oQ he hl (HB.o.below hB) (Z1.o.below hB) (Z0.o.below hB))
  (λ_ hs=>hs.elim) bZ.trans ?hKb (λ_=>rfl)
  (λk pre V=>Below w.heap.size w V∧w2.heap.size≤V.heap.size∧ah V w.heap.size 3 [.int .i64 pre.length]∧pre.length≤3840)
  ?hIa ?hIp (λ_ _ _ _ _ hs=>hs.elim) ?h0 (λpre x a' V=>pre++[x]<+:taken l e∧∃y,a'={tmps:=a0.tmps.setIfInBounds 9 y,defers:=[]}) ?hAx ?assign ?body ?done
 case hKb=>
  intro V o o' ho kR b hb;refine World.putObj_heap_other (λe=>?_);simp only[zH,zO,or_false] at hb;omega
 case hIa=>
  rintro k pre V V' ⟨h1,h2,h3,h4⟩ hB;exact⟨h1.trans (hB.mono h1.size),zC h2 hB.size,h3.below hB,h4⟩
 case hIp=>
  rintro k pre V o o' ⟨h1,h2,h3,h4⟩ ho kR;have hs:=yX ho kR o';refine⟨⟨h1.os.trans rfl,h1.tape,h1.output,by rw[World.putObj_size];exact h1.size,λk hk=>(World.putObj_heap_other oQ).trans (h1.block k hk)⟩,by rw[World.putObj_size];exact h2,h3.step hs (abp ho kR h3),h4⟩
 case h0=>exact⟨bH.o,zm _,X5.o,ql _⟩
 case hAx=>exact λpre x a' V o o' h _ _=>h
 case assign=>
  rintro l0 k pre x V K2 hI Ob hK;have HK:=U hK;have HI:=U hI;have HOk:=U Ob;clear hI Ob hK;subst dw;gi_wp2;refine HK.o _ _ ⟨zm _,λk o _ h0 _=>h0⟩ (λ_ _=>rfl) HI.o ⟨HOk.o,_,rfl⟩
 case body=>
  rintro l0 k pre x a' V ⟨h1,h2,h3,h4⟩ ⟨h5,y,rfl⟩ hzV;subst dw;simp only[zh,zk,zl];have hle:(pre++[x]).length≤3840:=by
   have q1:=h5.length_le;rw[sD] at q1;have:=EC l e;omega
  obtain⟨m,hm⟩:∃m,pre.length=m:=⟨_,rfl⟩
  rw[zw,hm,zY] at hle;rw[hm] at h3;have q3:=h3.cell 0;have f3:=h3.free 0;simp only[zf] at q3;have Hm:=U hm;have H1:=U h1;have H3:=U h3;clear hm h1 h3;gi_wp2_with fail;obtain⟨V4,Ke⟩:∃V4,V.setCell ⟨w.heap.size,0,none⟩ (.int .i64 ((m:Int)+1))=V4:=⟨_,rfl⟩
  have b4:ah V4 w.heap.size 3 [.int .i64 ((m:Int)+1)]:=by rw[←Ke];exact H3.o.aB 0 _
  have bb:Below w.heap.size w V4:=by rw[←Ke];exact H1.o.setCell (zm _) _
  have hzz:V4.heap.size=V.heap.size:=by rw[←Ke];simp
  have hkk:∀r,r≠w.heap.size→V4.heap[r]? =V.heap[r]?:=λr hr=>by rw[←Ke];exact zI _ _ _ _ hr
  rw[Ke];refine⟨⟨oQ,λr o hr h0 kR=>(hkk r oQ).trans h0⟩,λb hb=>hkk b ?_,bb,oQ,by rw[Hm.o];exact b4,by have:=Hm.o;omega⟩;simp only[zH,zO,or_false] at hb;omega
 case done=>
  rintro k L V ⟨rfl,rfl⟩ ⟨h1,h2,h3,h4⟩ lI;subst dw;rw[sD] at h3;have q3:=h3.cell 0;simp only[zf] at q3;have H1:=U h1;have H3:=U h3;have Nb:=U lI;clear h1 h3 lI;go_wp2_with fail;refine⟨sQ,.inl ⟨_,_,rfl,run_takeDeferred Nb.o,?_⟩⟩;have an6:=(zo.1 Nb.o).1;refine⟨.int .i64 (cnt l e),by simp[results,Tryz.f242,go_sem],rfl,?_⟩;have h1:=H1.o;exact⟨h1.os.trans rfl,h1.tape,h1.output,by rw[World.putObj_size];exact h1.size,λk hk=>(World.putObj_heap_other oQ).trans (h1.block k hk)⟩
theorem Xp (hV:Base v sp d B C) (h:Wk v w p b sp d B C E n F):
  Calls Tryz.prog 241 #[.pointer (some ⟨p,0,none⟩)] w λe w'=>e=.returned (.int .i64 ((B:Int) - cnt (E 0) B))∧∃F',Wk v w' p b sp d B C E n F'∧Mv d v F w F' w':=by
 have c1:w.cell? ⟨p,1,none⟩=some (.int .i64 B):=by
  obtain⟨L,q,Fb,bits,mk,h,hn,rfl⟩:=h;exact h.cells.cell 1
 have QW:∀w' L q Fb g c mk,gX v w' p b sp d B C E L q Fb (.slice (some ⟨g,0,none⟩) 480 c) mk→w'.cell? ⟨p,1,none⟩=some (.int .i64 B):=λw' L q Fb g c mk h=>h.cells.cell 1;have hB:=hV.few;have nY:=EC (E 0) B;have X_:IntKind.i64.wrap ((B:Int) - (cnt (E 0) B:Nat))=(B:Int) - (cnt (E 0) B:Nat):=by simp[IntKind.wrap,IntKind.signed,IntKind.bits];omega
 have Hp:=U QW;have H:=U h;have HV:=U hV;clear h hV QW;go_enter Tryz.func241,Tryz.ntmps241;go_wp2_with fail;refine wp_region_noPanic ?_;refine ak (S:=λW=>W.cell? ⟨p,1,none⟩=some (.int .i64 B)) (m:=12) kQ c1 (λaj=>?_);refine te 0 aj ?_;refine te 1 aj ?_;refine te 2 aj ?_;refine te 3 aj ?_;refine te 4 aj ?_;refine te 6 aj ?_;refine te 7 aj ?_;refine te 8 aj ?_;refine te 9 aj ?_;refine rE 5 λK hK=>?_;go_simp;refine(uZ HV.o (H.o.below (zn _ _).drew)).mono ?_;rintro e w1 ⟨g,c,rfl,L,q,Fb,mk,h1,hn,eD⟩;have H1:=U (And.intro h1 eD);obtain⟨ho,hl⟩:=H1.o.1.row;have l7:=(eu ho).2.1;have dO:=ho.pR;go_wp2_with fail;refine hK.out _ _ (λ_=>(Hp.o _ _ _ _ _ _ _ h1)) (λhS=>?_);have bQ:=hS dQ;clear hS hK K
 try simp only[Act.put,zh,zk,zl]
 refine rE 10 λK hK=>?_;go_simp;refine(Xo hl dO l7 hB.2).mono ?_;rintro e w2 ⟨rfl,aJ⟩;have HD:=U aJ;have CW:=(aJ.cell (p:=⟨p,1,none⟩) H1.o.1.cells.lt).trans (Hp.o _ _ _ _ _ _ _ H1.o.1);go_wp2_with fail;refine hK.out _ _ (λ_=>CW) (λhS=>?_);have bV:=hS dQ;clear hS hK K
 try simp only[Act.put,zh,zk,zl]
 refine te 11 bV ?_;refine vF 12 ?_;refine aD ?_;go_wp2_with fail;go_ret;have Pk:Below w.heap.size w w.drew:=(zn _ _).drew;have hBD:=HD.o;exact⟨rfl,_,(show Wk v w2 p b sp d B C E n _ from Wk.below ⟨L,q,Fb,_,mk,H1.o.1,hn,rfl⟩ hBD),(Mv.after Pk H1.o.2 H.o.quiet (λk hk=>(H.o.lt k hk).2)).below hBD⟩
theorem Xq (hV:Base v sp d B C) (h:cB v w b sp d C E n F):
  Calls Tryz.prog 165 #[.agg #[.pointer (some ⟨b,0,none⟩),.int .i64 B]] w λe w'=>e=.returned (.tuple #[.int .i64 ((B:Int) - cnt (E 0) B),.int .i64 0])∧∃F',cB v w' b sp d C E (up n) F'∧Mv d v F w F' w':=by
 obtain⟨w1,aP⟩:∃w1,w.alloc (.cells #[.pointer (some ⟨b,0,none⟩),.int .i64 B] 85)=w1:=⟨_,rfl⟩
 obtain⟨aM,aF,hz1⟩:=boxes [([.pointer (some ⟨b,0,none⟩),.int .i64 B],85)] w w1 (by rw[←aP];rfl);have x0:ah w1 w.heap.size 85 [.pointer (some ⟨b,0,none⟩),.int .i64 B]:=aM 0 _ rfl;have y0:=x0.cell 0;have y1:=x0.cell 1;simp only[zf,zi] at y0 y1;have H:=U h;have H1:=U (h.below aF);have HV:=U hV;have HB:=U aF;clear h hV aM aF hz1 x0;go_enter Tryz.func165,Tryz.ntmps165;go_wp2_with fail;refine(N9 HV.o H1.o (fn:=241) (caps:=#[]) (λ_ _=>rfl) (PE:=λE'=>E'=E) (n':=n) (Post:=λz X W=>z=(B:Int) - cnt (E 0) B∧X=[]) (λz X A W hP hk=>hP) (λw2 p b' G F1 hW hG fA=>?_)).mono ?_
 ·refine(Xp HV.o hW).mono ?_
  rintro e w3 ⟨rfl,F2,h1,h2⟩;exact⟨_,[],rfl,⟨rfl,rfl⟩,sQ,E,F2,rfl,h1,sQ,h2⟩
 rintro e w2 ⟨z,X',rfl,⟨rfl,rfl⟩,E',rfl,F',h1, -,h2⟩;have HG:=U (And.intro h1 (Mv.after HB.o h2 H.o.quiet (λk hk=>(H.o.lt k hk).2)));clear h1 h2 aP y0 y1;go_wp2_with fail;go_ret2;exact⟨rfl,F',HG.o.1,HG.o.2⟩
end
section
variable {v w w1:World} {fb sp d B P q nn b p t1 t2:Nat} {C:Nat→Bytes} {cl yo:Bool} {op:Op} {G:Nat→Prop}
theorem OE (hj:jI v w d B C sp w1 p b) (x1:ah w1 t1 3 [.int .i64 0]) (x2:ah w1 t2 3 [.int .i64 0]) (n1:t1≠b∧v.heap.size≤t1∧t1≠p∧t1≠t2) (n2:t2≠b∧v.heap.size≤t2∧t2≠p) (np:p≠b):
  Calls Tryz.prog 164 (#[.pointer (some ⟨p,0,none⟩)]++#[.pointer (some ⟨t1,0,none⟩),.pointer (some ⟨t2,0,none⟩)]) w1 λe w2=>(∃x,e=.returned x)∧∃E' F2,(E'=C∧ah w2 t1 3 [.int .i64 B]∧ah w2 t2 3 [.int .i64 ((B:Int) - cnt (C 0) B)])∧cB v w2 b sp d C E' 0 F2∧Mv d v (λk=>k=b∨(k=t1∨k=t2)) w1 (λk=>F2 k∨(k=t1∨k=t2)) w2:=by
 have p0:=hj.view.cell 0;have p1:=hj.view.cell 1;simp only[zf,zi] at p0 p1;have HJ:=U hj;have X1:=U x1;have X2:=U x2;clear hj x1 x2;go_enter Tryz.func164,Tryz.ntmps164;go_wp2_with fail;refine(Xq HJ.o.base HJ.o.Bd).mono ?_;rintro e w2 ⟨rfl,F1,h1,eD⟩;have hvl:=HJ.o.view.lt;have u1:=eD.aW X1.o dQ n1.1;have u2:=eD.aW X2.o dQ n2.1;have uv:=eD.aW HJ.o.view dQ np;have p1':=uv.cell 1;have g1:=u1.cell 0;have g2:=u2.cell 0;have f1:=u1.free 0;have f2:=u2.free 0;simp only[zf,zi] at p1' g1 g2;have n12:=n1.2.2.2;have n21:=n12.symm;have HU:=U (And.intro u1 (And.intro u2 uv));have H1:=U (And.intro h1 eD);clear h1 eD u1 u2 uv p0 p1;go_wp2_with fail;refine(bY _).mono ?_;rintro e Gj ⟨⟨x,rfl⟩,rfl⟩;go_wp2_with fail;obtain⟨w3,gV⟩:∃w3,Gj.setCell ⟨t1,0,none⟩ (.int .i64 B)=w3:=⟨_,rfl⟩
 obtain⟨w4,gH⟩:∃w4,w3.setCell ⟨t2,0,none⟩ (.int .i64 ((B:Int) - cnt (C 0) B))=w4:=⟨_,rfl⟩
 have k3:Kept t1 Gj w3:=by rw[←gV];exact Kept.setCell _ _ _
 have k4:Kept t2 w3 w4:=by rw[←gH];exact Kept.setCell _ _ _
 have y1:ah w3 t1 3 [.int .i64 B]:=by rw[←gV];exact HU.o.1.aB 0 _
 have y2:ah w4 t2 3 [.int .i64 ((B:Int) - cnt (C 0) B)]:=by rw[←gH];exact(HU.o.2.1.kept k3 n21).aB 0 _
 rw[gV,gH];go_end0;have h1:=H1.o.1;have hm:=H1.o.2;have nF:∀k,(k=t1∨k=t2)→¬F1 k:=λk hk=>by
  rcases hk with rfl|rfl
  ·exact hm.apart X1.o.lt n1.1
  ·exact hm.apart X2.o.lt n2.1
 have hM0:Mv d v (λk=>k=b∨(k=t1∨k=t2)) w1 (λk=>F1 k∨(k=t1∨k=t2)) Gj:=hm.more (λk hk=>.inl hk) (λk hk=>by
  rcases hk with rfl|rfl|rfl
  ·exact HJ.o.Bd.lt _ rfl
  ·exact⟨n1.2.1,X1.o.lt⟩
  ·exact⟨n2.2.1,X2.o.lt⟩) (λk hk=>by
  rcases hk with h|h
  ·exact .inr (.inl h)
  ·exact .inl (.inr h))
 have dI:=(hM0.kept k3 (.inl (.inr (.inl rfl)))).kept k4 (.inl (.inr (.inr rfl)));exact⟨⟨_,rfl⟩,C,F1,⟨rfl,y1.kept k4 n12,y2⟩,h1.keep (λk hk=>(k4.block k (by have:=(h1.lt k hk).2;have:=k3.size;omega) (λe=>nF k (.inr e) hk)).trans (k3.block k (h1.lt k hk).2 (λe=>nF k (.inl e) hk))) dI.q' (zC k3.size k4.size),dI⟩
theorem OG (h:fI v fb d B P q nn C cl yo op G) (hB:4≤B∧B≤3840) (hC:∀i,B≤i→C i=[]) (hq:q<1000000):
  Calls Tryz.prog 100 #[.pointer (some ⟨fb,0,none⟩)] v λe w'=>e=.returned (.tuple #[.int .i64 B,.int .i64 ((B:Int) - cnt (C 0) B),.int .i64 0])∧∃F',fI w' fb d B P q nn C cl yo op F'∧Step G v F' w':=by
 obtain⟨w1,aP⟩:∃w1,(v.alloc (.cells #[.int .i64 0] 3)).alloc (.cells #[.int .i64 0] 3)=w1:=⟨_,rfl⟩
 obtain⟨aM,aF,hz1⟩:=boxes [([.int .i64 0],3),([.int .i64 0],3)] v w1 (by rw[←aP];rfl);have x0:ah w1 v.heap.size 3 [.int .i64 0]:=aM 0 _ rfl;have x1:ah w1 (v.heap.size+1) 3 [.int .i64 0]:=aM 1 _ rfl;have vR:w1.heap.size=v.heap.size+2:=by simpa using hz1
 have wT:=U aP;have HF:=U h;have HB:=U aF;have X0:=U x0;have X1:=U x1;have HC:=U hC;clear h aM aF hz1 x0 x1 aP hC;go_enter Tryz.func100,Tryz.ntmps100;go_wp2_with fail;rw[wT.o];refine(jJ HF.o hB HB.o hq (n':=0) oQ (fn:=164) (λ_ _=>rfl) (X:=λk=>k=v.heap.size∨k=v.heap.size+1) (λk h=>by rcases h with rfl|rfl<;>omega) (PE:=λE' W=>E'=C∧ah W v.heap.size 3 [.int .i64 B]∧ah W (v.heap.size+1) 3 [.int .i64 ((B:Int) - cnt (C 0) B)]) (λE' W h=>by rw[h.1];exact HC.o) (λsp w2 p b hj=>?_)).mono ?_
 ·have Lv:=hj.new
  exact OE hj (hj.aW X0.o oQ) (hj.aW X1.o oQ) ⟨oQ,oQ,oQ,oQ⟩ ⟨oQ,oQ,oQ⟩ Lv.2.2
 rintro e w3 ⟨rfl,E',w2,⟨rfl,oD,hx3⟩,hD⟩;obtain⟨q',cl',F',hS,bT, -,GZ, -⟩:=hD.ex;obtain⟨rfl,rfl,rfl⟩:=GZ rfl;have y2:ah w3 v.heap.size 3 [.int .i64 B]:=(hD.keep _ oQ oD.lt oQ).trans oD;have y3:ah w3 (v.heap.size+1) 3 [.int .i64 ((B:Int) - cnt (E' 0) B)]:=(hD.keep _ oQ hx3.lt oQ).trans hx3;have HS:=U (And.intro hS bT);have z2:=y2.cell 0;have z3:=y3.cell 0;simp only[zf] at z2 z3;have HY:=U (And.intro y2 y3);clear hS bT hD oD hx3 y2 y3;go_wp2_with fail;refine wp_region_noPanic ?_;refine ak (S:=(λW=>W.cell? ⟨v.heap.size,0,none⟩=some (.int .i64 B)∧W.cell? ⟨v.heap.size+1,0,none⟩=some (.int .i64 ((B:Int) - cnt (E' 0) B)))) (m:=4) kQ ⟨z2,z3⟩ (λaj=>?_);refine te 0 aj ?_;refine te 1 aj ?_;refine te 2 aj ?_;refine te 3 aj ?_;refine vF 4 ?_;refine aD ?_;go_wp2_with fail
 go_ret3
 exact⟨rfl,_,HS.o.1.below (zn _ _).drew,HS.o.2.trans (Step.of_below (zn _ _).drew _)⟩
end
section
variable {v w w1:World} {fb sp d B P q nn b p t1 t2 t3:Nat} {C:Nat→Bytes} {cl yo:Bool} {op:Op} {G:Nat→Prop} {x f:Nd} {A T:nU} {s:Bytes}
theorem RX {m id:Nat} {φ:Nat→Option Value} (c1:w.cell? ⟨fb,1,none⟩=some (.map (some m))) (hm:bF w m 0 φ):Calls Tryz.prog 146 #[.pointer (some ⟨fb,0,none⟩),.int .i64 id] w λe w'=>e=.returned (.bool false)∧Below w.heap.size w w':=by
 obtain⟨D,hown,gJ,dw,ags⟩:=hm;have agR:=rP hown;rw[gJ] at agR;have M8:=hown.lt;go_enter Tryz.func146,Tryz.ntmps146;go_wp2_with (at_range;refine wpList_range_own _ rfl _ 104 rfl 3 223 bP Tryz.underlying104 fG m 0 D rfl agR ?_;intro w0 QE jr wS)
 go_frame
 go_loopw [12] (λ_ wr=>wr=w0) (λ_ _=>0)
 case atStart=>rfl
 case round=>
  obtain rfl:=hrel;rw[gJ] at QE;go_wp2_with (at_next;go_loud (refine wpList_next_ranges _ rfl _ rfl 3 bP fG _root_.id _root_.id (λkey _ _=>⟨key,rfl⟩) (λv _ _=>⟨v,rfl⟩) m w.heap.size 0 _ _ _ rfl QE ?_ ?_))
  intros
  go_wp2;go_ret;exact⟨rfl,(zn _ _).grown jr (zm _) (λk e=>by cases e)⟩
theorem OH (h:fI v fb d B P q 0 C cl yo op G) (hj:jI v w d B C sp w1 p b) (hT:Tr C B x [(f,s)]) (hs:nm s=true)
  (x1:ah w1 t1 9 [.string ⟨(47::s).toArray⟩]) (x2:ah w1 t2 52 [.pointer (some ⟨fb,0,none⟩)]) (n2:t2≠b):
  Calls Tryz.prog 145 (#[.pointer (some ⟨p,0,none⟩)]++#[.pointer (some ⟨t1,0,none⟩),.pointer (some ⟨t2,0,none⟩)]) w1 λe w2=>(∃x,e=.returned x)∧∃E' F2,(Tr E' B ⟨1,2,[],bN,0,aT⟩ []∧True)∧cB v w2 b sp d C E' 24 F2∧Mv d v (λk=>k=b∨False) w1 (λk=>F2 k∨False) w2:=by
 obtain⟨hV,hq,gJ,iX,hp,⟨sV,iA,pY⟩,nD⟩:=hj;have hB:=hT.big;have c1:=x1.cell 0;simp only[zf] at c1;have fB:=hp.lt;have Tq:=x2.lt;have eX:=hV.yE;have hvq:=hq.size;have hpt:=Tr.parts (A:=[]) (T:=[]) hT;have nI:b<w1.heap.size:=(nD.lt b rfl).2;have HV:=U hV;have HP:=U hp;have HS:=U nD;have HT:=U hT;have X2:=U x2;have Hs:=U hs;have Hq:=U hq;have HF:=U h;have Hpt:=U hpt;clear hV hp nD hT x1 x2 hs hq iX h hpt;go_enter Tryz.func145,Tryz.ntmps145;go_wp2_with fail;refine(kD (pJ Hs.o) w1).mono ?_;rintro e w2 ⟨a,c,rfl,ho,aJ⟩;obtain⟨g,rfl⟩:=nC ho sQ;have jr:=ho.cell 0 sQ;have l7:=eu ho;have jr:w2.cell? ⟨g,0,none⟩=some (.string ⟨s.toArray⟩):=jr;have bH:=U aJ;have hz2:=aJ.size;have HG:=U jr;rw[zY];clear ho aJ c1 jr;go_wp2_with fail;refine(mP (kk:=1) (za:=f.id) (HP.o.below bH.o) HV.o (HS.o.below bH.o) HT.o.wF (by rw[bJ];simp) HT.o.Fq (.inr ⟨rfl,g,s,rfl,l7.2.1,HG.o,0,(f.id,s),Hpt.o.1,Hpt.o.2,rfl⟩)).mono ?_;rintro e w3 ⟨rfl,F3,h3,dP⟩;have h3:cB v w3 b sp d C C 0 F3:=h3;have ng:¬(g=b):=oQ
 have gd:g≠d:=oQ
 have p3:=dP.aW (HP.o.below bH.o) dQ pY;have f3:=dP.aW (X2.o.below bH.o) dQ n2;have g3:=(zS (w:=w2) (w':=w3) (a:=⟨g,0,none⟩) (dP.keep (k:=g) l7.2.1 gd ng)).trans HG.o;have Xc:=dP.apart (show p<w2.heap.size by omega) pY;have nf3:=dP.apart (show t2<w2.heap.size by omega) n2;have ng3:=dP.apart l7.2.1 ng;have mF:=dP.size;have vX:=U (Mv.after bH.o dP Hq.o (λk hk=>by subst hk;omega));have Dc:=U (And.intro p3 (And.intro f3 g3));have H3:=U h3;clear h3 dP p3 f3 g3;go_wp2_with fail;refine(Bh Dc.o.1 HV.o H3.o (HT.o.Cz (s:=s) sQ) rfl).mono ?_;rintro e w5 ⟨rfl,F5,h5,fu⟩;have h5:cB v w5 b sp d C C 0 F5:=h5;have p5:=fu.aW Dc.o.1 dQ Xc;have f5:=fu.aW Dc.o.2.1 dQ nf3;have gg5:=(zS (w:=w3) (w':=w5) (a:=⟨g,0,none⟩) (fu.keep (k:=g) oQ gd ng3)).trans Dc.o.2.2;have np5:=fu.apart (show p<w3.heap.size by omega) Xc;have nf5:=fu.apart (show t2<w3.heap.size by omega) nf3;have ng5:=fu.apart (show g<w3.heap.size by omega) ng3;have BN:=fu.size;have HM5:=U (vX.o.trans fu);have Yt:=U (And.intro p5 (And.intro f5 gg5));have H5:=U h5;clear h5 fu p5 f5 gg5;have Ld:(nd 1 1 (f.c.length:Int) f.D f.r).length=20:=cO _ _ _ _ _ (HT.o.Cz (s:=s) (f:=f) sQ).iW.ld;have AL:(nd 1 1 (f.c.length:Int) f.D f.r)[1]? =some 1:=rfl;obtain⟨N,hN⟩:∃N,nd 1 1 (f.c.length:Int) f.D f.r=N:=⟨_,rfl⟩
 rw[hN] at Ld AL ⊢;have fU:(Tryz.prog.info? 138).map (·.size)=some N.length:=by rw[Ld];kernel_rfl
 have Hi:=U fU;have Kj:=U AL;have Hl:=U (show(aS aQ).length=N.length by rw[Ld,aO];rfl);have jR:=U (show Below w5.heap.size w5 (w5.alloc (.cells (aL aQ) 138)) from(zn _ _).alloc (zm _) _);clear fU AL hN Ld;go_wp2_with (first|(refine Great.wpList_runTo rfl _ rfl _ _ (bg (t:=138) rfl (Z:=aQ) kQ) ?_)|(refine aK rfl 138 _ _ rfl w5.heap.size N (aS aQ) 138 rfl rfl (IsNode.new w5 138 aQ) Hl.o Hi.o ?_;intro w6 hn6 xK xL;have c6:=hn6.cell 1 _ Kj.o;have sI:=U (jR.o.trans (xK.below _ (zm _) jR.o.size));have t6:=(Yt.o.2.1.below sI.o).cell 0;simp only[zf] at t6;have HN6:=U hn6;clear hn6 xK));have q6:=HM5.o.q'.trans (Quiet.of_below sI.o);obtain⟨m,c7,hM, -, -, -, -⟩:=(HF.o.quiet q6).1.sP;refine(RX c7 hM).mono ?_;rintro e w7 ⟨rfl,tH⟩;have ME:=U (sI.o.trans (tH.mono sI.o.size));have c7':=(HN6.o.below tH).cell 1 _ Kj.o;have HI7:=U (And.intro (Yt.o.1.below ME.o) ((ME.o.cell (p:=⟨g,0,none⟩) (show g<w5.heap.size by omega)).trans Yt.o.2.2));have H7:=U (H5.o.below ME.o);have HM7:=U (HM5.o.below ME.o);have ZN:=ME.o.size;have HN7:=U (HN6.o.below tH);clear c7 hM tH c6 t6;go_wp2_with fail;refine(Oy (x:=(f.id,s)) (HT.o.wF _ (by simp[ents])) HI7.o.1 np5 HV.o H7.o HT.o.Fq HI7.o.2 ⟨ng5,gd⟩).mono ?_;rintro e w8 ⟨⟨y,rfl⟩,E8,F8,xB,h8,Z7⟩;have hn7:¬F5 w5.heap.size:=λhf=>by have:=(H5.o.lt _ hf).2;omega
 have c8:=(Z7.aW (show ah w7 w5.heap.size 138 (aS N) from HN7.o) dQ hn7)
 have c8:=(show IsNode w8 w5.heap.size 138 N from c8).cell 1 _ Kj.o;have p8:=Z7.aW HI7.o.1 dQ np5;have e0:=p8.cell 0;have e1:=p8.cell 1;simp only[zf,zi] at e0 e1;have H8:=U h8;have HM8:=U (HM7.o.trans Z7);have HC8:=U xB;clear h8 Z7 xB c7' p8;go_wp2_with fail;refine(WA HV.o H8.o (HT.o.left HC8.o)).mono ?_;rintro e w9 ⟨rfl,E9,F9,Ls,h9,hm9⟩;have h9:cB v w9 b sp d C E9 6 F9:=h9;have H9:=U h9;have HM9:=U (HM8.o.trans hm9);have HE:=U (HT.o.gone HC8.o Ls);clear h9 hm9 Ls e0 e1 c8;go_wp2_with fail;refine(bY _).mono ?_;rintro e w9' ⟨⟨y,rfl⟩,rfl⟩;go_wp2_with fail;go_end0;exact⟨⟨_,rfl⟩,E9,F9,⟨HE.o,trivial⟩,H9.o.mono oQ,by simpa using HM9.o⟩
theorem OI (h:fI v fb d B P q 0 C cl yo op G) (hT:Tr C B x [(f,s)]) (hs:nm s=true) (hq:q<1000000):
  Calls Tryz.prog 76 #[.pointer (some ⟨fb,0,none⟩),.string ⟨(47::s).toArray⟩] v λe w'=>e=.returned (.int .i64 0)∧∃E' q' cl' F',Tr E' B ⟨1,2,[],bN,0,aT⟩ []∧fI w' fb d B P q' 0 E' cl' yo op F'∧Step G v F' w'∧q≤q'∧q'≤q+1:=by
 obtain⟨w1,aP⟩:∃w1,(v.alloc (.cells #[.pointer (some ⟨fb,0,none⟩)] 52)).alloc (.cells #[.string ⟨(47::s).toArray⟩] 9)=w1:=⟨_,rfl⟩
 obtain⟨aM,aF,hz1⟩:=boxes [([.pointer (some ⟨fb,0,none⟩)],52),([.string ⟨(47::s).toArray⟩],9)] v w1 (by rw[←aP];rfl);have x0:ah w1 v.heap.size 52 [.pointer (some ⟨fb,0,none⟩)]:=aM 0 _ rfl;have x1:ah w1 (v.heap.size+1) 9 [.string ⟨(47::s).toArray⟩]:=aM 1 _ rfl;have vR:w1.heap.size=v.heap.size+2:=by simpa using hz1
 have y0:=x0.cell 0;simp only[zf] at y0;have HF:=U h;have HB:=U aF;have X0:=U x0;have X1:=U x1;have HT:=U hT;have Hs:=U hs;clear h aM aF hz1 x0 x1 hT hs;go_enter Tryz.func76,Tryz.ntmps76;go_wp2_with fail;refine(jJ HF.o HT.o.big HB.o hq (n':=24) oQ (fn:=145) (λ_ _=>rfl) (X:=λ_=>False) (λk h=>h.elim) (PE:=λE' W=>Tr E' B ⟨1,2,[],bN,0,aT⟩ []∧True) (λE' W h=>h.1.o) (λsp w2 p b hj=>?_)).mono ?_
 ·have Lv:=hj.new
  exact OH HF.o hj HT.o Hs.o (hj.aW X1.o oQ) (hj.aW X0.o oQ) oQ
 rintro e w3 ⟨rfl,E',w2,⟨hE, -⟩,hD⟩;obtain⟨q',cl',F',hS,bT,GZ, -, -⟩:=hD.ex;have HS:=U (And.intro hE (And.intro hS (And.intro bT GZ)));clear hS bT hD hE y0 aP;go_wp2_with fail;go_ret;exact⟨rfl,E',q',cl',F',HS.o.1,HS.o.2.1,HS.o.2.2.1,HS.o.2.2.2⟩
end
section
variable {v:World} {fb:Nat} {F:Nat→Prop} {Φ:World→(Nat→Prop)→Prop} {ec nc mc Yu gU:Int} {path:ByteArray} {data:Value}
theorem XA (jL:∀k,F k→k<v.heap.size) (h5:5≤v.heap.size) (bT:Stable Φ) (hc:∀W,Below v.heap.size v W→Calls Tryz.prog 76 #[.pointer (some ⟨fb,0,none⟩),.string path] W λe w'=>e=.returned (.int .i64 ec)∧∃F',Φ w' F'∧Step F W F' w'):
  Calls Tryz.prog 75 #[.pointer (some ⟨fb,0,none⟩),bK Yu gU path data] v λe w'=>e=.returned (dH ec 0 0)∧∃F',Φ w' F'∧Step F v F' w':=by
 obtain⟨w1,aP⟩:∃w1,(v.alloc (.cells #[.int .i64 Yu,.int .i64 gU,.int .i64 0,.string path,.string ⟨#[]⟩,.int .i64 0,data] 40)).alloc (.cells #[.int .i64 0,.int .i64 0,.int .i64 0,.slice none 0 0,.slice none 0 0,.int .i64 0,.int .i64 0,.int .i64 0] 34)=w1:=⟨_,rfl⟩
 obtain⟨aM,aF,hz1⟩:=boxes [(yZ Yu gU path data,40),(aI 0 0 0,34)] v w1 (by rw[←aP];rfl);have x1:ah w1 (v.heap.size+1) 34 (aI 0 0 0):=aM 1 _ rfl;have wT:=U aP;have HB:=U aF;have X1:=U x1;have HC:=U hc;have G8:=U jL;have Gi:=U bT;have hz:w1.heap.size=v.heap.size+2:=by simpa using hz1
 clear hc jL bT aM aF hz1 aP x1;unfold bK;go_enter Tryz.func75,Tryz.ntmps75;go_wp2_with fail;rw[wT.o];refine(HC.o w1 HB.o).mono ?_;rintro e w2 ⟨rfl,F',hΦ,nJ⟩;have nM:¬F (v.heap.size+1):=λhf=>by have:=G8.o _ hf;omega
 have y1:=X1.o.step nJ nM;have a1:=nJ.apart X1.o.lt nM;have H2:=U (And.intro hΦ ((Step.of_below HB.o F).trans nJ));have hf:=λj=>y1.free j;have c0:=y1.cell 0;have c1:=y1.cell 1;have c2:=y1.cell 2;have c3:=y1.cell 3;have c4:=y1.cell 4;have c5:=y1.cell 5;have c6:=y1.cell 6;have c7:=y1.cell 7;simp only[aI,zf,zi] at c0 c1 c2 c3 c4 c5 c6 c7;have f0:=hf 0;have f1:=hf 1;have f2:=hf 2;have f3:=hf 3;have f4:=hf 4;have f5:=hf 5;have f6:=hf 6;have f7:=hf 7;have Y1:=U y1;clear hΦ nJ y1 hf;go_wp2_with fail;generalize hW:World.setCell _ _ _=W;have hs:AB w2 (v.heap.size+1) 34 W:=by
  rw[←hW]
  repeat refine AB.set dQ _ _ ?_
  exact⟨Step.refl _ _,_,Y1.o⟩
 have hs:=hs.1;have hV:ah W (v.heap.size+1) 34 (aI ec 0 0):=by
  rw[←hW];exact((((((((Y1.o.aB 0 (.int .i64 ec)).aB 1 (.int .i64 0)).aB 2 (.int .i64 0)).aB 3 (.slice none 0 0)).aB 4 (.slice none 0 0)).aB 5 (.int .i64 0)).aB 6 (.int .i64 0)).aB 7 (.int .i64 0))
 clear hW c0 c1 c2 c3 c4 c5 c6 c7;have c0:=hV.cell 0;have c1:=hV.cell 1;have c2:=hV.cell 2;have c3:=hV.cell 3;have c4:=hV.cell 4;have c5:=hV.cell 5;have c6:=hV.cell 6;have c7:=hV.cell 7;simp only[aI,zf,zi] at c0 c1 c2 c3 c4 c5 c6 c7
 (try simp only[Exit.inBlock,Exit.then])
 refine bodyPost_ret (v:=dH ec 0 0) (by simp[results,Tryz.f75,go_sem,dH,c0,c1,c2,c3,c4,c5,c6,c7]) rfl ⟨rfl,F',?_⟩;exact⟨Gi.o _ _ _ _ _ H2.o.1 hs (λk hk e=>a1 (e▸hk)) (λk hk=>oQ),H2.o.2.inner hs (λk hk=>.inr oQ)⟩
theorem XB (jL:∀k,F k→k<v.heap.size) (h5:5≤v.heap.size) (bT:Stable Φ) (hc:∀W,Below v.heap.size v W→Calls Tryz.prog 82 #[.pointer (some ⟨fb,0,none⟩),.int .i64 gU] W λe w'=>e=.returned (.int .i64 ec)∧∃F',Φ w' F'∧Step F W F' w'):
  Calls Tryz.prog 81 #[.pointer (some ⟨fb,0,none⟩),bK Yu gU path data] v λe w'=>e=.returned (dH ec 0 0)∧∃F',Φ w' F'∧Step F v F' w':=by
 obtain⟨w1,aP⟩:∃w1,(v.alloc (.cells #[.int .i64 Yu,.int .i64 gU,.int .i64 0,.string path,.string ⟨#[]⟩,.int .i64 0,data] 40)).alloc (.cells #[.int .i64 0,.int .i64 0,.int .i64 0,.slice none 0 0,.slice none 0 0,.int .i64 0,.int .i64 0,.int .i64 0] 34)=w1:=⟨_,rfl⟩
 obtain⟨aM,aF,hz1⟩:=boxes [(yZ Yu gU path data,40),(aI 0 0 0,34)] v w1 (by rw[←aP];rfl);have x1:ah w1 (v.heap.size+1) 34 (aI 0 0 0):=aM 1 _ rfl;have wT:=U aP;have HB:=U aF;have X1:=U x1;have HC:=U hc;have G8:=U jL;have Gi:=U bT;have hz:w1.heap.size=v.heap.size+2:=by simpa using hz1
 clear hc jL bT aM aF hz1 aP x1;unfold bK;go_enter Tryz.func81,Tryz.ntmps81;go_wp2_with fail;rw[wT.o];refine(HC.o w1 HB.o).mono ?_;rintro e w2 ⟨rfl,F',hΦ,nJ⟩;have nM:¬F (v.heap.size+1):=λhf=>by have:=G8.o _ hf;omega
 have y1:=X1.o.step nJ nM;have a1:=nJ.apart X1.o.lt nM;have H2:=U (And.intro hΦ ((Step.of_below HB.o F).trans nJ));have hf:=λj=>y1.free j;have c0:=y1.cell 0;have c1:=y1.cell 1;have c2:=y1.cell 2;have c3:=y1.cell 3;have c4:=y1.cell 4;have c5:=y1.cell 5;have c6:=y1.cell 6;have c7:=y1.cell 7;simp only[aI,zf,zi] at c0 c1 c2 c3 c4 c5 c6 c7;have f0:=hf 0;have f1:=hf 1;have f2:=hf 2;have f3:=hf 3;have f4:=hf 4;have f5:=hf 5;have f6:=hf 6;have f7:=hf 7;have Y1:=U y1;clear hΦ nJ y1 hf;go_wp2_with fail;generalize hW:World.setCell _ _ _=W;have hs:AB w2 (v.heap.size+1) 34 W:=by
  rw[←hW]
  repeat refine AB.set dQ _ _ ?_
  exact⟨Step.refl _ _,_,Y1.o⟩
 have hs:=hs.1;have hV:ah W (v.heap.size+1) 34 (aI ec 0 0):=by
  rw[←hW];exact((((((((Y1.o.aB 0 (.int .i64 ec)).aB 1 (.int .i64 0)).aB 2 (.int .i64 0)).aB 3 (.slice none 0 0)).aB 4 (.slice none 0 0)).aB 5 (.int .i64 0)).aB 6 (.int .i64 0)).aB 7 (.int .i64 0))
 clear hW c0 c1 c2 c3 c4 c5 c6 c7;have c0:=hV.cell 0;have c1:=hV.cell 1;have c2:=hV.cell 2;have c3:=hV.cell 3;have c4:=hV.cell 4;have c5:=hV.cell 5;have c6:=hV.cell 6;have c7:=hV.cell 7;simp only[aI,zf,zi] at c0 c1 c2 c3 c4 c5 c6 c7
 (try simp only[Exit.inBlock,Exit.then])
 refine bodyPost_ret (v:=dH ec 0 0) (by simp[results,Tryz.f81,go_sem,dH,c0,c1,c2,c3,c4,c5,c6,c7]) rfl ⟨rfl,F',?_⟩;exact⟨Gi.o _ _ _ _ _ H2.o.1 hs (λk hk e=>a1 (e▸hk)) (λk hk=>oQ),H2.o.2.inner hs (λk hk=>.inr oQ)⟩
theorem R9 (jL:∀k,F k→k<v.heap.size) (h5:5≤v.heap.size) (bT:Stable Φ) (hc:∀W,Below v.heap.size v W→Calls Tryz.prog 100 #[.pointer (some ⟨fb,0,none⟩)] W λe w'=>e=.returned (.tuple #[.int .i64 nc,.int .i64 mc,.int .i64 ec])∧∃F',Φ w' F'∧Step F W F' w'):
  Calls Tryz.prog 99 #[.pointer (some ⟨fb,0,none⟩),bK Yu gU path data] v λe w'=>e=.returned (dH ec nc mc)∧∃F',Φ w' F'∧Step F v F' w':=by
 obtain⟨w1,aP⟩:∃w1,(v.alloc (.cells #[.int .i64 Yu,.int .i64 gU,.int .i64 0,.string path,.string ⟨#[]⟩,.int .i64 0,data] 40)).alloc (.cells #[.int .i64 0,.int .i64 0,.int .i64 0,.slice none 0 0,.slice none 0 0,.int .i64 0,.int .i64 0,.int .i64 0] 34)=w1:=⟨_,rfl⟩
 obtain⟨aM,aF,hz1⟩:=boxes [(yZ Yu gU path data,40),(aI 0 0 0,34)] v w1 (by rw[←aP];rfl);have x1:ah w1 (v.heap.size+1) 34 (aI 0 0 0):=aM 1 _ rfl;have wT:=U aP;have HB:=U aF;have X1:=U x1;have HC:=U hc;have G8:=U jL;have Gi:=U bT;have hz:w1.heap.size=v.heap.size+2:=by simpa using hz1
 clear hc jL bT aM aF hz1 aP x1;unfold bK;go_enter Tryz.func99,Tryz.ntmps99;go_wp2_with fail;rw[wT.o];refine(HC.o w1 HB.o).mono ?_;rintro e w2 ⟨rfl,F',hΦ,nJ⟩;have nM:¬F (v.heap.size+1):=λhf=>by have:=G8.o _ hf;omega
 have y1:=X1.o.step nJ nM;have a1:=nJ.apart X1.o.lt nM;have H2:=U (And.intro hΦ ((Step.of_below HB.o F).trans nJ));have hf:=λj=>y1.free j;have c0:=y1.cell 0;have c1:=y1.cell 1;have c2:=y1.cell 2;have c3:=y1.cell 3;have c4:=y1.cell 4;have c5:=y1.cell 5;have c6:=y1.cell 6;have c7:=y1.cell 7;simp only[aI,zf,zi] at c0 c1 c2 c3 c4 c5 c6 c7;have f0:=hf 0;have f1:=hf 1;have f2:=hf 2;have f3:=hf 3;have f4:=hf 4;have f5:=hf 5;have f6:=hf 6;have f7:=hf 7;have Y1:=U y1;clear hΦ nJ y1 hf;go_wp2_with fail;generalize hW:World.setCell _ _ _=W;have hs:AB w2 (v.heap.size+1) 34 W:=by
  rw[←hW]
  repeat refine AB.set dQ _ _ ?_
  exact⟨Step.refl _ _,_,Y1.o⟩
 have hs:=hs.1;have hV:ah W (v.heap.size+1) 34 (aI ec nc mc):=by
  rw[←hW];exact(((((((((((Y1.o.aB 1 (.int .i64 nc)).aB 2 (.int .i64 mc)).aB 0 (.int .i64 ec)).aB 0 (.int .i64 ec)).aB 1 (.int .i64 nc)).aB 2 (.int .i64 mc)).aB 3 (.slice none 0 0)).aB 4 (.slice none 0 0)).aB 5 (.int .i64 0)).aB 6 (.int .i64 0)).aB 7 (.int .i64 0))
 clear hW c0 c1 c2 c3 c4 c5 c6 c7;have c0:=hV.cell 0;have c1:=hV.cell 1;have c2:=hV.cell 2;have c3:=hV.cell 3;have c4:=hV.cell 4;have c5:=hV.cell 5;have c6:=hV.cell 6;have c7:=hV.cell 7;simp only[aI,zf,zi] at c0 c1 c2 c3 c4 c5 c6 c7
 (try simp only[Exit.inBlock,Exit.then])
 refine bodyPost_ret (v:=dH ec nc mc) (by simp[results,Tryz.f99,go_sem,dH,c0,c1,c2,c3,c4,c5,c6,c7]) rfl ⟨rfl,F',?_⟩;exact⟨Gi.o _ _ _ _ _ H2.o.1 hs (λk hk e=>a1 (e▸hk)) (λk hk=>oQ),H2.o.2.inner hs (λk hk=>.inr oQ)⟩
end
end
section
open Go.RowKit Go.Shelf Go.Maps O
section
variable {v w:World} {fm d fb B P q nn:Nat} {C:Nat→Bytes} {cl yo:Bool} {op:Op} {F:Nat→Prop} {ec nc mc gU:Int} {path:ByteArray} {data:Value} {x f:Nd} {A T fl:nU} {s dd:Bytes} {pt ga oa len cd i fd:Nat}
theorem Hy (h:Gm v fm d fb B P q nn C cl yo op F) (Gw:nn≤15) (hT:Tr C B x (A++(f,s)::T)) (hq:q<1000000) (sS:fd<1000) (hop:op fd=some (f.id,pt)) (dO:cZ v (some ⟨ga,oa,none⟩) dd) (eX:dd.length=len) (Ak:ga<v.heap.size) (hlen:len=480) (Aq:len≤cd) (ho:pt=f.c.length) {k:Nat} (vO:pt=480*k) (hi:k<256) (kZ:B<cnt (C 0) B+(if k=16 then 2 else 1)):
  Calls Tryz.prog 8 #[.pointer (some ⟨fm,0,none⟩),bK 10 fd path (.slice (some ⟨ga,oa,none⟩) len cd)] v λe w'=>jh v fm d fb B P yo F 7 0 0 (λq' kJ C' cl' op'=>kJ=nn∧q'=q∧cl'=cl∧C'=C∧op'=op) e w':=
 doF (i:=10) (fn:=83) (λ_ _=>rfl) oQ (λ_ h=>h.s10) h (λW hB SL hl h5=>Bn hl h5 G_.stable (λW' xI=>(OD (SL.below xI) Gw hT hq sS hop ((dO.below hB).below xI) eX (by have:=hB.size;have:=xI.size;omega) hlen Aq ho vO hi kZ ⟨by rw[zG];omega,rfl⟩).mono (by
  rintro e w' ⟨rfl,h1,h2⟩;exact⟨rfl,F,⟨_,_,_,_,_,⟨rfl,rfl,rfl,rfl,rfl⟩,h1⟩,h2⟩)))
theorem abP (h:Gm v fm d fb B P q nn C cl yo op F) (sS:fd<1000) (ho:(op fd).isSome=true):
  Calls Tryz.prog 8 #[.pointer (some ⟨fm,0,none⟩),bK 8 fd path data] v λe w'=>jh v fm d fb B P yo F 0 0 0 (λq' kJ C' cl' op'=>kJ=nn - 1∧q'=q∧cl'=cl∧C'=C∧op'=f_ op fd none) e w':=
 doF (i:=8) (fn:=81) (λ_ _=>rfl) oQ (λ_ h=>h.s8) h (λW hB hf hl h5=>XB hl h5 G_.stable (λW' xI=>(RJ (hf.below xI) sS ho).mono (by
  rintro e w' ⟨rfl,h1,h2⟩;exact⟨rfl,F,⟨_,_,_,_,_,⟨rfl,rfl,rfl,rfl,rfl⟩,h1⟩,h2⟩)))
theorem XE (h:Gm v fm d fb B P q 0 C cl yo op F) (hT:Tr C B x [(f,s)]) (hs:nm s=true) (hq:q<1000000):
  Calls Tryz.prog 8 #[.pointer (some ⟨fm,0,none⟩),bK 4 gU ⟨(47::s).toArray⟩ data] v λe w'=>jh v fm d fb B P yo F 0 0 0 (λq' kJ C' cl' op'=>kJ=0∧(q≤q'∧q'≤q+1)∧op'=op∧Tr C' B ⟨1,2,[],bN,0,aT⟩ []) e w':=
 doF (i:=4) (fn:=75) (λ_ _=>rfl) oQ (λ_ h=>h.s4) h (λW hB hf hl h5=>XA hl h5 G_.stable (λW' xI=>(OI (hf.below xI) hT hs hq).mono (by
  rintro e w' ⟨rfl,E',q',cl',F',h1,h2,h3,h4⟩;exact⟨rfl,F',⟨_,_,_,_,_,⟨rfl,h4,rfl,h1⟩,h2⟩,h3⟩)))
theorem Jy (h:Gm v fm d fb B P q nn C cl yo op F) (hT:Tr C B x fl) (hq:q<1000000):
  Calls Tryz.prog 8 #[.pointer (some ⟨fm,0,none⟩),bK 15 gU path data] v λe w'=>jh v fm d fb B P yo F 0 B ((B:Int) - cnt (C 0) B) (λq' kJ C' cl' op'=>kJ=nn∧q'=q∧cl'=cl∧C'=C∧op'=op) e w':=
 doF (i:=15) (fn:=99) (λ_ _=>rfl) oQ (λ_ h=>h.s15) h (λW hB hf hl h5=>R9 hl h5 G_.stable (λW' xI=>(OG (hf.below xI) hT.big hT.o hq).mono (by
  rintro e w' ⟨rfl,F',h1,h2⟩;exact⟨rfl,F',⟨_,_,_,_,_,⟨rfl,rfl,rfl,rfl,rfl⟩,h1⟩,h2⟩)))
end
theorem Si (k:Nat):fT (480*k)=k:=by unfold fT;omega
theorem oh (k:Nat):need (480*k)=k+if 16<k then 1 else 0:=by unfold need;rw[Si]
theorem JD (op:Op) (i:Nat) (x y:Option (Nat×Nat)):f_ (f_ op i x) i y=f_ op i y:=by
 funext j;unfold f_
 split<;>rfl
theorem abR:f_ nH 0 none=nH:=by
 funext j;unfold f_ nH
 split<;>rfl
section
variable {W0 w w':World} {K K':O6} {fm d fb B P q nn:Nat} {C:Nat→Bytes} {cl yo:Bool} {op:Op} {F:Nat→Prop} {p p':oq}
def FP (B q0:Nat):oq:=λq nn C cl yo op=>nn=0∧op=nH∧q≤q0∧∃x,Tr C B x []
def afh (B q0:Nat) (c:Nat):oq:=λq nn C cl yo op=>nn=0∧op=nH∧q≤q0∧∃x f,Tr C B x [(f,[97])]∧f.c.length=c
def uH (B R q0 k:Nat):oq:=λq nn C cl yo op=>nn=1∧q≤q0+k∧f_ op 0 none=nH∧∃x f,Tr C B x [(f,[97])]∧op 0=some (f.id,480*min k R)∧f.c.length=480*min k R
theorem abS {q0:Nat} {gU:Int} {data:Value} (hB:6≤B∧B≤40) (hq:q0<1000000) (h:bR W0 fm d fb B P (FP B q0) K w):
  Calls Tryz.prog 8 #[.pointer (some ⟨fm,0,none⟩),bK 1 gU ⟨#[47,97]⟩ data] w λe w'=>jT W0 fm d fb B P K (afh B (q0+1) 0) 0 0 0 e w':=by
 obtain⟨q,nn,C,cl,yo,op,F,⟨rfl,rfl,iq,x,hT⟩,h⟩:=h;have:=ajK hT;refine jh.top h (vD (s:=[97]) h.kE hT oQ sQ dQ sQ (om (n:=0) oQ oQ)) ?_;rintro q' kJ C' cl' op' ⟨rfl,rfl,rfl,Ym,x',m,Gp⟩;exact⟨rfl,rfl,oQ,x',_,Gp,rfl⟩
theorem ajL {q0 R:Nat} {gU:Int} {data:Value} (hq:q0<1000000) (h:bR W0 fm d fb B P (afh B q0 0) K w):
  Calls Tryz.prog 8 #[.pointer (some ⟨fm,0,none⟩),bK 7 gU ⟨#[47,97]⟩ data] w λe w'=>jT W0 fm d fb B P K (uH B R q0 0) 0 0 0 e w':=by
 obtain⟨q,nn,C,cl,yo,op,F,⟨rfl,rfl,iq,x,f,hT,hl⟩,h⟩:=h;refine jh.top h (Li (fd:=0) (A:=[]) (T:=[]) (s:=[97]) h.kE oQ hT oQ dQ ⟨rfl,λj hj=>oQ⟩ oQ) ?_;rintro q' kJ C' cl' op' ⟨rfl,rfl,rfl,rfl,rfl⟩;exact⟨rfl,oQ,by rw[JD,abR],x,f,hT,by rw[pQ,Nat.zero_min,Nat.mul_zero],by rw[hl,Nat.zero_min,Nat.mul_zero]⟩
theorem ajM {q0 R k g:Nat} {path:ByteArray} (hB:6≤B∧B≤40) (hR:(¬16<B - 4∧R=B - 4)∨(16<B - 4∧R=max 16 (B - 5))) (hq:q0<900000) (hk:k≤R) (h:bR W0 fm d fb B P (uH B R q0 k) K w) (dO:cZ w (some ⟨g,0,none⟩) (zeros 480)) (hg:g<w.heap.size):
  Calls Tryz.prog 8 #[.pointer (some ⟨fm,0,none⟩),bK 10 0 path (.slice (some ⟨g,0,none⟩) 480 480)] w λe w'=>jT W0 fm d fb B P K (uH B R q0 (k+1)) (if k<R then 0 else 7) 0 0 e w':=by
 obtain⟨q,nn,C,cl,yo,op,F,⟨rfl,iq,hop,x,f,hT,h0,hl⟩,h⟩:=h;have hn:=MJ hT;rw[qP hk] at h0 hl;rw[hl,oh] at hn;have hz:(zeros 480).length=480:=by unfold zeros;rw[qc]
 by_cases hkR:k<R
 ·rw[if_pos hkR]
  refine jh.top h (FL (fd:=0) (pt:=480*k) (A:=[]) (T:=[]) (s:=[97]) (len:=480) (cd:=480) h.kE oQ hT oQ oQ h0 dO hz hg oQ oQ oQ oQ ?_) ?_
  ·rw[hl,show max (480*k) (480*k+480)=480*(k+1) by omega,oh,oh,hn]
   split<;>split<;>omega
  ·rintro q' kJ C' cl' op' ⟨rfl,Ym,rfl,rfl,D',r',R',Gp⟩
   refine⟨rfl,oQ,by rw[JD,hop],x,_,Gp,?_,?_⟩
   ·rw[pQ,qP (by omega:k+1≤R)]
    rfl
   ·show(ow f.c (480*k) (zeros 480)).length=_
    rw[iP oQ,hl,hz,qP (by omega:k+1≤R)];omega
 ·obtain rfl:k=R:=oQ
  rw[if_neg hkR];refine jh.top h (Hy (fd:=0) (pt:=480*k) (A:=[]) (T:=[]) (s:=[97]) (len:=480) (cd:=480) (k:=k) h.kE oQ hT oQ oQ h0 dO hz hg rfl oQ hl.symm rfl oQ ?_) ?_
  ·rw[hn]
   split<;>split<;>omega
  ·rintro q' kJ C' cl' op' ⟨rfl,rfl,rfl,rfl,rfl⟩
   refine⟨rfl,oQ,hop,x,f,hT,?_,?_⟩
   ·rw[h0,Nat.min_eq_right (by omega:k≤k+1)]
   ·rw[hl,Nat.min_eq_right (by omega:k≤k+1)]
theorem afi {q0 R:Nat} {gU:Int} {path:ByteArray} {data:Value} (hB:6≤B∧B≤40) (hR:(¬16<B - 4∧R=B - 4)∨(16<B - 4∧R=max 16 (B - 5))) (hq:q0<900000) (h:bR W0 fm d fb B P (uH B R q0 (R+1)) K w):
  Calls Tryz.prog 8 #[.pointer (some ⟨fm,0,none⟩),bK 15 gU path data] w λe w'=>∃mc:Int,mc≤1∧jT W0 fm d fb B P K (uH B R q0 (R+1)) 0 B mc e w':=by
 obtain⟨q,nn,C,cl,yo,op,F,⟨rfl,iq,hop,x,f,hT,h0,hl⟩,h⟩:=h;have hn:=MJ hT;rw[hl,Nat.min_eq_right (by omega:R≤R+1),oh] at hn;refine(jh.top (p:=uH B R q0 (R+1)) h (Jy h.kE hT oQ) ?_).mono ?_
 ·rintro q' kJ C' cl' op' ⟨rfl,rfl,rfl,rfl,rfl⟩
  exact⟨rfl,iq,hop,x,f,hT,h0,hl⟩
 ·intro e w' he
  refine⟨_,?_,he⟩;rw[hn]
  split<;>omega
theorem afj {q0 R k:Nat} {path:ByteArray} {data:Value} (h:bR W0 fm d fb B P (uH B R q0 k) K w):
  Calls Tryz.prog 8 #[.pointer (some ⟨fm,0,none⟩),bK 8 0 path data] w λe w'=>jT W0 fm d fb B P K (afh B (q0+k) (480*min k R)) 0 0 0 e w':=by
 obtain⟨q,nn,C,cl,yo,op,F,⟨rfl,iq,hop,x,f,hT,h0,hl⟩,h⟩:=h;refine jh.top h (abP (fd:=0) h.kE oQ (by rw[h0];rfl)) ?_;rintro q' kJ C' cl' op' ⟨rfl,rfl,rfl,rfl,rfl⟩;exact⟨rfl,hop,iq,x,f,hT,hl⟩
theorem abT {q0 c:Nat} {gU:Int} {data:Value} (hq:q0<1000000) (h:bR W0 fm d fb B P (afh B q0 c) K w):
  Calls Tryz.prog 8 #[.pointer (some ⟨fm,0,none⟩),bK 4 gU ⟨#[47,97]⟩ data] w λe w'=>jT W0 fm d fb B P K (FP B (q0+1)) 0 0 0 e w':=by
 obtain⟨q,nn,C,cl,yo,op,F,⟨rfl,rfl,iq,x,f,hT,hl⟩,h⟩:=h;refine jh.top h (XE (s:=[97]) h.kE hT dQ oQ) ?_;rintro q' kJ C' cl' op' ⟨rfl,Ym,rfl,Gp⟩;exact⟨rfl,rfl,oQ,_,Gp⟩
theorem afk {q0:Nat} {gU:Int} {path:ByteArray} {data:Value} (hq:q0<1000000) (h:bR W0 fm d fb B P (FP B q0) K w):
  Calls Tryz.prog 8 #[.pointer (some ⟨fm,0,none⟩),bK 15 gU path data] w λe w'=>jT W0 fm d fb B P K (FP B q0) 0 B ((B:Int) - 2) e w':=by
 obtain⟨q,nn,C,cl,yo,op,F,⟨rfl,rfl,iq,x,hT⟩,h⟩:=h;have hn:=ajK hT;have hd:=Jy (gU:=gU) (path:=path) (data:=data) h.kE hT oQ;rw[hn] at hd;refine jh.top h hd ?_;rintro q' kJ C' cl' op' ⟨rfl,rfl,rfl,rfl,rfl⟩;exact⟨rfl,rfl,iq,x,hT⟩
end
end
section
open Go.ChangeShapes Go.WideShapes Go.ChangeAt Go.RowKit
theorem O9:Tryz.pinned.checked.prog.inPlace 4=Rows.topRoomRow.inPlace:=kQ
theorem FU:Tryz.pinned.checked.prog.unfollowed 4=Rows.topRoomRow.unfollowed:=kQ
theorem Lp:Tryz.pinned.checked.prog.recurses 4=Rows.topRoomRow.recurses:=kQ
theorem XJ:Tryz.pinned.checked.prog.varsNamed 4=Rows.topRoomRow.named:=kQ
theorem XK:mapsRowed Tryz.pinned.checked.prog=true:=kQ
theorem afr:namedTie Tryz.pinned.checked.prog Rows.topRoomRow.named (OpenSpec.ofChange Rows.topRoomSpec).bare.vars=true:=kQ
theorem XL:Tryz.pinned.checked.prog.stopsHeard=true:=kQ
theorem XM:Tryz.pinned.checked.prog.mayEnter=true:=kQ
theorem Sq:Tryz.pinned.checked.prog.liftsFinal=Rows.topRoomRow.lifted:=kQ
theorem Sr:joinedFacts Tryz.pinned.checked.prog 4 Tryz.f4 (OpenSpec.ofChange Rows.topRoomSpec).bare Rows.topRoomRow=true:=by
 unfold joinedFacts;rw[O9,FU,Lp,XJ,XK,afr,XL,XM,Sq]
 kernel_rfl
theorem ajU:Tryz.pinned.checked.prog.funcNamed Rows.topRoomRow.func=some 4:=kQ
end
end Go.Proofs.YtdjdpeadohobmaaGreatDoor
