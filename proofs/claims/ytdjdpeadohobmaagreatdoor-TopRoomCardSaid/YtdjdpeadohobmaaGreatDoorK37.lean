/- A part of the walk below the law: what is proved here is used by later parts; no further condition. -/
import Derived.Test.YtdjdpeadohobmaaGreatDoorK35
import Derived.Test.YtdjdpeadohobmaaGreatDoorK36
set_option linter.unusedVariables false
set_option linter.unusedSimpArgs false
set_option maxRecDepth 100000
set_option maxHeartbeats 20000000
namespace Go.Proofs.YtdjdpeadohobmaaGreatDoor
section
open Go.RowKit Go.Shelf Go.Maps O
attribute [local go_sem] Oper.semAt_some
theorem abn {c:Bytes} (h:c.length≤480):ow (zeros 480) 0 c=field c 480:=by
 unfold ow field zeros;rw[zaA,zB,zav,zy h,qx]
theorem WW {w:World} {a:Addr} {b o:Nat} {l:Bytes} (ha:a=⟨b,o,none⟩) (h:cZ w (some a) l) (j:Nat) (hj:j<l.length):w.cell? (a.add j)=some (aH l[j]):=by
 obtain⟨b',o',f1,f2⟩:=h.is;have f3:=f1 (λe=>by rw[e] at hj;simp at hj);injection f3 with f3;subst f3;have h2:(⟨b',o',none⟩:Addr).add j=⟨b',o'+j,none⟩:=by unfold Addr.add;split<;>simp_all
 rw[h2,f2 j hj];rfl
theorem GX {w w':World} {v:Value} {n:Nat} {e:TypeId} {xs:List Value} (h:w.ownsRow 0 e 2 v n xs) (hk:∀g,v.ownBlock=some g→w'.heap[g]? =w.heap[g]?):w'.ownsRow 0 e 2 v n xs:=by
 refine⟨h.1,?_⟩;rcases h.2 with h0|⟨g,cap,cur,rfl,hb,hg,r⟩
 ·exact .inl h0
 ·exact .inr ⟨g,cap,cur,rfl,hb,(hk g rfl).trans hg,r⟩
section
variable {v w:World} {sp d B b n id:Nat} {C E:Nat→Bytes} {F:Nat→Prop} {lk:Int} {l:List bI} {D R:List Int} {r:Int}
theorem Ot (hV:Base v sp d B C) (h:cB v w b sp d C E n F) (hl:∀e∈l,Aj e) (xw:l.length≤15) (h1:1≤l.length) (hF:mh E B id 2 lk (b_ l) D r R) {q:Nat} (hq:32*l.length=q):
  Calls Tryz.prog 285 #[.agg #[.pointer (some ⟨b,0,none⟩),.int .i64 B],.int .i64 id,.int .i64 0,.int .i64 q] w λe w'=>∃u,e=.returned (.tuple #[u,.int .i64 0])∧w'.ownsRow 0 163 2 u l.length (lM l)∧(∀g,u.ownBlock=some g→w.heap.size≤g)∧∃F',cB v w' b sp d C E (up n) F'∧(∀g,u.ownBlock=some g→¬F' g)∧Mv d v F w F' w':=by
 have eX:=fq (l:=l) (λe he=>.inl (hl e he));obtain⟨w1,aP⟩:∃w1,w.alloc (.cells #[.pointer (some ⟨b,0,none⟩),.int .i64 B] 85)=w1:=⟨_,rfl⟩
 obtain⟨aM,aF,hz1⟩:=boxes [([.pointer (some ⟨b,0,none⟩),.int .i64 B],85)] w w1 (by rw[←aP];rfl);have x0:ah w1 w.heap.size 85 [.pointer (some ⟨b,0,none⟩),.int .i64 B]:=aM 0 _ rfl;have y0:=x0.cell 0;have y1:=x0.cell 1;simp only[zf,zi] at y0 y1;have H:=U h;have H1:=U (h.below aF);have HV:=U hV;have HF:=U hF;have HB:=U aF;have Hl:=U hl;have tC:=U eX;have vR:w1.heap.size=w.heap.size+1:=by simpa using hz1
 clear h hV aM aF hz1 x0 hF hl eX;go_enter Tryz.func285,Tryz.ntmps285;go_wp2_with fail;refine(Ce (off:=0) (m:=q) HV.o H1.o HF.o (by rw[tC.o];omega) oQ (q:=q) (by rw[tC.o];omega)).mono ?_;rintro e w2 ⟨g,rfl,hg,ho,F2,h2,tq,bC⟩;rw[za2,zy (by rw[tC.o];omega)] at ho;obtain⟨w3,fC,Wh,bf,mF⟩:=eT (P:=Tryz.prog) bD (base:=w2.heap.size) (w:=w2) .i64 .i64 480 oQ oQ (zm _);have fC:(Instr.makeSlice 22 (.int .i64 480) (.int .i64 480)).run Tryz.prog w2=.ok (.slice (some ⟨w2.heap.size,0,none⟩) 480 480) w3:=fC;have Wh:Own 5 w2.heap.size w3 (some ⟨w2.heap.size,0,none⟩) 480 ((zeros 480).map aH):=by
  rw[eB] at Wh;exact Wh
 have dO:cZ w3 (some ⟨g,0,none⟩) (b_ l):=ho.pR.below bf;obtain⟨w4,hcp,QU,sO,Ah⟩:=A_ (o:=0) (n:=480) (cd:=480) (m:=q) (cs:=q) (y:=b_ l) (a:=⟨g,0,none⟩) 3 Wh (by rw[tC.o];omega) (λj hj=>WW rfl dO j hj) (by rw[tC.o,show(zeros 480).length=480 from qc ..];omega);rw[abn (by rw[tC.o];omega)] at QU;have dX:Below w2.heap.size w2 w4:=bf.trans (sO.below _ (zm _) bf.size);have HZ:=U (And.intro (h2.below dX) (And.intro (bC.below dX) QU.pR.is));clear h2 bC ho dO Wh QU sO bf dX y0 y1 mF Ah tq;go_wp2_with fail;clear hcp fC;refine(RB Hl.o xw HZ.o.2.2).mono ?_;rintro e w5 ⟨u,rfl,aZ,fJ,iJ⟩;have HW:=U (And.intro aZ (And.intro fJ iJ));obtain⟨av,cv,rfl,BM⟩:=aR aZ;clear aZ fJ iJ BM;have hmul:IntKind.i64.wrap ((l.length:Int)*32)=(q:Int):=by rw[zG];omega
 go_wp2_with fail;go_ret2;obtain⟨z1,z2,z3⟩:=HZ.o;obtain⟨r1,r2,r3⟩:=HW.o;have z4:=z2.size;have avq:w.heap.size≤w4.heap.size:=oQ
 refine⟨_,rfl,r1,λg hg=>zC avq (r2 g hg),F2,z1.below r3,λg hg hf=>?_,(Mv.after HB.o z2 H.o.quiet (λk hk=>(H.o.lt k hk).2)).below r3⟩;have:=(z1.lt g hf).2;have:=r2 g hg;omega
def StE (v:World) (b sp d:Nat) (C E:Nat→Bytes) (n:Nat) (F:Nat→Prop) (A B:World):Prop:=cB v A b sp d C E n F∧∃F',cB v B b sp d C E (up n) F'∧Mv d v F A F' B
def KpE (A B:World):Prop:=A.heap.size≤B.heap.size∧∀k,k<A.heap.size→(∃C fr,A.heap[k]? =some (.cells C 3 fr)∨A.heap[k]? =some (.cells C 85 fr))→B.heap[k]? =A.heap[k]?
theorem KpE.trans {A B C:World} (h:KpE A B) (k:KpE B C):KpE A C:=by
 refine⟨zC h.1 k.1,λi hi hc=>?_⟩;have e:=h.2 i hi hc;rw[←e];refine k.2 i (zx hi h.1) ?_;obtain⟨C2,fr,h2⟩:=hc;exact⟨C2,fr,by rw[e];exact h2⟩
theorem KpE.refl (A:World):KpE A A:=⟨zm _,λ_ _ _=>rfl⟩
theorem KpE.aW {A B:World} (h:KpE A B) {k:Nat} {T:TypeId} {vs:List Value} (hv:ah A k T vs) (hT:T=3∨T=85):ah B k T vs:=by
 have bA:=hv.lt;unfold ah at hv ⊢
 rw[h.2 k bA (by
  rcases hT with rfl|rfl
  ·exact⟨_,_,.inl hv⟩
  ·exact⟨_,_,.inr hv⟩),hv]
def OkE (v:World) (l:List bI) (F0:Nat→Prop) (pre:List Value) (x:Value) (W:World):Prop:=(pre=[]∧0<l.length)∧W.ownsRow 0 163 2 x l.length (lM l)∧∀g,x.ownBlock=some g→F0 g
theorem K8 {m t1 t2 t3 q N0:Nat} {W:World} (hm:1≤m) (hN:N0≤W.heap.size) (hV:Base v sp d B C) (h:cB v W b sp d C E n F) (hl:∀e∈l,Aj e) (xw:l.length≤15) (hF:mh E B id 2 lk (b_ l) D r R) (hq:32*l.length=q)
  (x1:ah W t1 3 [.int .i64 q]) (x2:ah W t2 85 [.pointer (some ⟨b,0,none⟩),.int .i64 B]) (x3:ah W t3 3 [.int .i64 id]) (n1:¬F t1) (n2:¬F t2) (n3:¬F t3):
  Rw Fence.wide m Tryz.prog 284 #[.pointer (some ⟨t1,0,none⟩),.pointer (some ⟨t2,0,none⟩),.pointer (some ⟨t3,0,none⟩)] (λx:Value=>#[x,.int .i64 0]) KpE (StE v b sp d C E n F) (OkE v l (λg=>N0≤g)) (λk L=>if l.length=0 then k=false∧L=[] else k=true∧∃x,L=[x]) W:=by
 intro ll J hJs hY h0;have c1:=x1.cell 0;have c2:=x2.cell 0;have c2':=x2.cell 1;have c3:=x3.cell 0;simp only[zf,zi] at c1 c2 c2' c3;have HY:=U hY;have HJs:=U hJs;have H0:=U h0;have H:=U h;have HV:=U hV;have HF:=U hF;have Hl:=U hl;have X1:=U x1;have X2:=U x2;have X3:=U x3;have Hq:=U hq;clear hY hJs h0 h hV hF hl x1 x2 x3 hq;refine callsIn_of_wp Tryz.func284 rfl trivial ?_ rfl;simp only[Tryz.ntmps284,zQ,zA,zN,Nat.reduceAdd,Nat.reduceSub,zJ,zK,zT,zM,zB,zU];by_cases AP:l.length=0
 ·obtain rfl:q=0:=by have:=Hq.o;omega
  gi_wp2_with fail;gi_loopw [5] (λvv wr=>vv=.int .i64 0∧wr=W) (λ_ _=>0)
  case atStart=>exact⟨rfl,rfl⟩
  case round=>
   obtain⟨rfl,rfl⟩:=hrel;gi_wp2_with fail;go_end0;exact⟨⟨_,rfl⟩,false,[],⟨rfl,rfl⟩,H0.o⟩
 ·have iq:(0:Int)<q:=by have:=Hq.o;omega
  have vL:min (480:Int) q=q:=by have:=Hq.o;omega
  have ayO:¬((480:Int)<q):=by have:=Hq.o;omega
  gi_wp2_with fail;gi_loopw [5] (λvv wr=>(vv=.int .i64 0∧wr=W)∨(vv=.int .i64 480∧ah wr t1 3 [.int .i64 q]∧∃x,J true [x] wr)) (λvv _=>480 - (intOf vv).toNat)
  case atStart=>exact .inl ⟨rfl,rfl⟩
  case round=>
   rcases hrel with⟨rfl,rfl⟩|⟨rfl,hT,x,hJ1⟩
   ·gi_wp2_with fail
    refine⟨trivial,(callsIn_wide.2 (Ot HV.o H.o Hl.o xw oQ HF.o Hq.o)).mono ?_⟩;rintro e W2 ⟨u,rfl,aZ,fJ,F2,h2,Cv,bC⟩;have Yb:=HJs.o [] _ _ H0.o ⟨H.o,F2,h2,bC⟩;have Gt:=HY.o true [] u W2 ⟨⟨rfl,oQ⟩,aZ,λg hg=>zC hN (fJ g hg)⟩ Yb;obtain⟨fn,tmps,assign,body,hy,hR⟩:=Gt;have z1:=bC.aW X1.o dQ n1;have HZ:=U z1;clear h2 bC aZ fJ Cv Yb z1;gi_wp2_with fail;refine hR.mono ?_;rintro e5 W5 ⟨rfl,hJ5,Jo⟩;have z5:=Jo.aW HZ.o (.inl rfl);gi_wp2;go_roundw
    case rel=>exact .inr ⟨by go_num,z5,u,hJ5⟩
    case measure=>simp[intOf]
   ·have e1:=hT.cell 0
    simp only[zf] at e1;gi_wp2_with fail;go_end0;exact⟨⟨_,rfl⟩,true,[x],⟨rfl,x,rfl⟩,hJ1⟩
theorem Ou (w:World) (b B id q:Nat):Calls Tryz.prog 243 #[.agg #[.pointer (some ⟨b,0,none⟩),.int .i64 B],.int .i64 id,.int .i64 q] w λe w'=>e=.returned (.func (.func 284) #[] #[.pointer (some ⟨w.heap.size+2,0,none⟩),.pointer (some ⟨w.heap.size,0,none⟩),.pointer (some ⟨w.heap.size+1,0,none⟩)])∧
  w'=((w.alloc (.cells #[.pointer (some ⟨b,0,none⟩),.int .i64 B] 85)).alloc (.cells #[.int .i64 id] 3)).alloc (.cells #[.int .i64 q] 3):=by
 go_enter Tryz.func243,Tryz.ntmps243;go_wp2_with fail;go_ret;exact⟨rfl,rfl⟩
end
structure LdJ (v w w2 w5:World) (b sp d n:Nat) (C E:Nat→Bytes) (F F2:Nat→Prop) (l:List bI) (k:Bool) (pre:List Value) (V:World) (vl:Value):Prop where
 box:ah V (w2.heap.size+1) 157 [vl]
 nil:pre=[]→vl=.slice none 0 0
 row:pre≠[]→V.ownsRow 0 163 2 vl l.length (lM l)∧∀g,vl.ownBlock=some g→w5.heap.size≤g
 res:ah V (w.heap.size+1) 157 [.slice none 0 0]∧ah V (w.heap.size+2) 26 [.int .i64 0]
 Bd:(k=false→cB v V b sp d C E (up n) F2∧Mv d v F w F2 V)∧(k=true→∃F',cB v V b sp d C E (up (up n)) F'∧Mv d v F w F' V∧(∀g,F' g→F2 g∨w5.heap.size+2≤g)∧∀g,vl.ownBlock=some g→¬F' g)
theorem yX {V:World} {r:Nat} {o:Obj} (h:V.heap[r]? =some o) (hc:o.isCells=false) (o':Obj):Step (· =r) V (· =r) (V.putObj r o'):=Step.bU (grownBy_putObj' V r o') (λr' e=>by
 cases e;exact⟨rfl,NC.aV (B:=0) ⟨ql _,_,h,hc⟩⟩)
theorem abp {V:World} {r b:Nat} {o:Obj} (h:V.heap[r]? =some o) (hc:o.isCells=false) {T:TypeId} {vs:List Value} (hv:ah V b T vs):b≠r:=by
 rintro rfl;unfold ah at hv;rw[hv] at h;injection h with h;subst h;cases hc
theorem K9 {V:World} {r:Nat} {o:Obj} (h:V.heap[r]? =some o) (hc:o.isCells=false) {u:Value} {n:Nat} {xs:List Value} (hv:V.ownsRow 0 163 2 u n xs) {g:Nat} (hg:u.ownBlock=some g):g≠r:=by
 obtain⟨Cb,lV⟩:=aN hv hg;rintro rfl;rw[lV] at h;injection h with h;subst h;cases hc
section
variable {v w:World} {sp d B b n id:Nat} {C E:Nat→Bytes} {F:Nat→Prop} {lk:Int} {l:List bI} {D R:List Int} {r:Int}
theorem vB (hV:Base v sp d B C) (h:cB v w b sp d C E n F) (hl:∀e∈l,Aj e) (xw:l.length≤15) (hF:mh E B id 2 lk (b_ l) D r R):
  Calls Tryz.prog 166 #[.agg #[.pointer (some ⟨b,0,none⟩),.int .i64 B],.int .i64 id] w λe w'=>∃u,e=.returned (.tuple #[u,.int .i64 0])∧w'.ownsRow 0 163 2 u l.length (lM l)∧(∀g,u.ownBlock=some g→w.heap.size≤g)∧∃F',cB v w' b sp d C E (up (up n)) F'∧(∀g,u.ownBlock=some g→¬F' g)∧Mv d v F w F' w':=by
 have eX:=fq (l:=l) (λe he=>.inl (hl e he));obtain⟨q,hq⟩:∃q,32*l.length=q:=⟨_,rfl⟩
 rw[hq] at eX;have fU:(Tryz.prog.info? 138).map (·.size)=some 20:=kQ
 obtain⟨w1,aP⟩:∃w1,((w.alloc (.cells #[.pointer (some ⟨b,0,none⟩),.int .i64 B] 85)).alloc (.cells #[.slice none 0 0] 157)).alloc (.cells #[.int .i64 0] 26)=w1:=⟨_,rfl⟩
 obtain⟨aM,aF,hz1⟩:=boxes [([.pointer (some ⟨b,0,none⟩),.int .i64 B],85),([.slice none 0 0],157),([.int .i64 0],26)] w w1 (by rw[←aP];rfl);have x0:ah w1 w.heap.size 85 [.pointer (some ⟨b,0,none⟩),.int .i64 B]:=aM 0 _ rfl;have x1:ah w1 (w.heap.size+1) 157 [.slice none 0 0]:=aM 1 _ rfl;have x2:ah w1 (w.heap.size+2) 26 [.int .i64 0]:=aM 2 _ rfl;have y0:=x0.cell 0;have y1:=x0.cell 1;simp only[zf,zi] at y0 y1;have bA:=h.lt;have TG:∀i,w.heap.size≤i→¬F i:=λi hi hf=>by have:=(bA _ hf).2;omega
 have H:=U h;have H1:=U (h.below aF);have HV:=U hV;have HF:=U hF;have HB:=U aF;have Hl:=U hl;have tC:=U eX;have Hq:=U hq;have Hi:=U fU;have X0:=U x0;have X1:=U x1;have X2:=U x2;have Hnb:=U TG;have vR:w1.heap.size=w.heap.size+3:=by simpa using hz1
 clear h hV aM aF hz1 x0 x1 x2 hF hl eX bA TG fU hq;refine(callsIn_wide (n:=11)).1 ?_;refine callsIn_of_wp_marks Tryz.func166 rfl trivial ?_ rfl;simp only[Tryz.ntmps166,zQ,zA,zN,Nat.reduceAdd,Nat.reduceSub,zJ,zK,zT,zM,zB,zU];refine wpIn_wide.2 ?_;go_wp2_with fail;refine(Jk HV.o H1.o HF.o).mono ?_;rintro e w2 ⟨rfl,F2,h2,bC⟩;rw[tC.o];have u0:=bC.aW X0.o dQ (Hnb.o _ oQ);have u1:=bC.aW X1.o dQ (Hnb.o _ oQ);have u2:=bC.aW X2.o dQ (Hnb.o _ oQ);have m0:=bC.apart X0.o.lt (Hnb.o _ oQ);have m1:=bC.apart X1.o.lt (Hnb.o _ oQ);have m2:=bC.apart X2.o.lt (Hnb.o _ oQ);have HH2:=U h2;have Gh:=U (Mv.after HB.o bC H.o.quiet (λk hk=>(H.o.lt k hk).2));have HU:=U (And.intro u0 (And.intro u1 u2));have HM:=U (And.intro m0 (And.intro m1 m2));have hz2:=bC.size;have hD:=U HF.o.iW.ld;have hNl:(nd 2 lk (q:Int) D r).length=20:=by unfold nd;simp[hD.o]
 have HNl:=U hNl;clear h2 bC u0 u1 u2 m0 m1 m2 y0 y1 hNl;have hBn:Below w2.heap.size w2 (w2.alloc (.cells (aL aQ) 138)):=(zn _ _).alloc (zm _) _;have HBn:=U hBn;clear hBn;go_wp2_with (first|(refine Great.wpList_runTo rfl _ rfl _ _ (bg (t:=138) rfl (Z:=aQ) kQ) ?_)|(refine aK rfl 138 _ _ rfl w2.heap.size (nd 2 lk q D r) (aS aQ) 138 rfl rfl (IsNode.new w2 138 aQ) (by rw[aO,HNl.o];rfl) (by rw[HNl.o];exact Hi.o) ?_;intro w3 Gc gL lg;have iB:=U (HBn.o.trans (gL.below _ (zm _) HBn.o.size));have q0:=Gc.cell 0 _ rfl;have q2:=Gc.cell 2 _ rfl;have dX:Below w3.heap.size w3 (w3.alloc (.cells #[.slice none 0 0] 157)):=(zn _ _).alloc (zm _) _;have lS:=U dX;have r0:=((HU.o.1.below iB.o).below dX).cell 0;have r1:=((HU.o.1.below iB.o).below dX).cell 1;have r2:=(dX.cell (p:=⟨w2.heap.size,2,none⟩) (by rw[lg];simp)).trans q2;simp only[zf,zi] at r0 r1;clear dX;have mF:w3.heap.size=w2.heap.size+1:=(by rw[lg];simp);clear Gc gL lg));obtain⟨w4,gH⟩:∃w4,w3.alloc (.cells #[.slice none 0 0] 157)=w4:=⟨_,rfl⟩
 have dX:=lS.o;have x8:ah w4 w3.heap.size 157 [.slice none 0 0]:=by rw[←gH];exact ah.new w3 _ _
 rw[gH] at dX ⊢;refine(Ou w4 b B id q).mono ?_;rintro e w5 ⟨rfl,IY⟩;obtain⟨aM,iJ,BN⟩:=boxes [([.pointer (some ⟨b,0,none⟩),.int .i64 B],85),([.int .i64 id],3),([.int .i64 q],3)] w4 w5 IY.symm;have z0:ah w5 w4.heap.size 85 [.pointer (some ⟨b,0,none⟩),.int .i64 B]:=aM 0 _ rfl;have z1:ah w5 (w4.heap.size+1) 3 [.int .i64 id]:=aM 1 _ rfl;have z2:ah w5 (w4.heap.size+2) 3 [.int .i64 q]:=aM 2 _ rfl;have aFT:w5.heap.size=w4.heap.size+3:=BN;have Ah:w4.heap.size=w3.heap.size+1:=by rw[←gH];simp
 have Ov:=dX.trans (iJ.mono oQ);have abq:=iB.o.trans (Ov.mono oQ);have hh2:=HH2.o;have uN:=hh2.below abq;have hM5:=Gh.o.below abq;rw[mF] at x8;have e4:w4.heap.size=w2.heap.size+1+1:=oQ
 rw[e4] at z0 z1 z2;have HZ5:=U (And.intro z0 (And.intro z1 (And.intro z2 (x8.below iJ))));have HU5:=U (And.intro (HU.o.2.1.below abq) (HU.o.2.2.below abq));have xJ:=U uN;have HM5:=U hM5;have hl5:=uN.lt;have Hl5:=U hl5;have tF:=H.o.quiet.size;have Px:∀k,w2.heap.size≤k→¬F2 k:=λk hk hf=>by have:=(hh2.lt k hf).2;omega
 have Hn5:=U Px;have ajq:=U Ov;clear IY aM iJ BN z0 z1 z2 x8 dX abq hh2 uN hM5 hl5 Px gH Ov q0 q2 r0 r1 r2 lS;go_wp2_with fail;refine(wpIn_wide (n:=11)).1 ?_;generalize dw:Act.mk _ _=a0
 refine nu (n:=11) rfl oQ (gf:=284) (lb:=#[.pointer (some ⟨w2.heap.size+1+1+2,0,none⟩),.pointer (some ⟨w2.heap.size+1+1,0,none⟩),.pointer (some ⟨w2.heap.size+1+1+1,0,none⟩)]) (by rw[←dw];rfl) trivial (enters_of Tryz.func284 kQ rfl)
  (encs:=λx:Value=>#[x,.int .i64 0]) (Kp:=KpE) (St:=StE v b sp d C E (up n) F2) (Ok:=OkE v l (λg=>w5.heap.size≤g)) (Good:=λk L=>if l.length=0 then k=false∧L=[] else k=true∧∃x,L=[x])
  (λW1 hB hz=>K8 oQ hB.size HV.o (xJ.o.below hB) Hl.o xw HF.o Hq.o (HZ5.o.2.2.1.below hB) (HZ5.o.1.below hB) (HZ5.o.2.1.below hB) (Hn5.o _ oQ) (Hn5.o _ oQ) (Hn5.o _ oQ))
  (λ{A B' k o} hk hs ho hc=>?hSt) (λh1 h2=>h1.trans h2) ?hKb (λ_=>rfl)
  (λk pre V=>w5.heap.size≤V.heap.size∧∃vl,LdJ v w w2 w5 b sp d n C E F F2 l k pre V vl)
  ?hIa ?hIp ?hIs ?h0 (λpre x a' V=>OkE v l (λg=>w5.heap.size≤g) pre x V∧a'={tmps:=((((a0.tmps.setIfInBounds 28 x).setIfInBounds 29 (.int .i64 0)).setIfInBounds 9 x).setIfInBounds 10 (.int .i64 0)),defers:=[]}) ?hAx ?assign ?body ?done
 case hSt=>
  obtain⟨-,F', -,hm⟩:=hs;exact(hm.keep (zo.1 ho).1 (by have:=hm.yE;omega) (λhf=>by have:=(Hl5.o k hf).2;omega)).trans ho
 case hKb=>
  intro V o o' ho kR;refine⟨by rw[World.putObj_size];exact zm _,λk h1 ⟨C2,fr,h2⟩=>World.putObj_heap_other (λe=>?_)⟩;rcases h2 with h2|h2<;>
  ·rw[e,ho] at h2
   injection h2 with h2;subst h2;cases kR
 case hIa=>
  rintro k pre V V' ⟨xW,vl,hI⟩ hB;refine⟨zC xW hB.size,vl,hI.box.below hB,hI.nil,λhp=>⟨aC (Step.of_below hB (λ_=>False)) (hI.row hp).1 (λ_ _ h=>h),(hI.row hp).2⟩,⟨hI.res.1.below hB,hI.res.2.below hB⟩,λhk=>⟨(hI.Bd.1 hk).1.below hB,(hI.Bd.1 hk).2.below hB⟩,λhk=>?_⟩;obtain⟨F',s1,s2,s3,s4⟩:=hI.Bd.2 hk;exact⟨F',s1.below hB,s2.below hB,s3,s4⟩
 case hIp=>
  rintro k pre V o o' ⟨xW,vl,hI⟩ ho kR;have hs:=yX ho kR o';have TG:∀{b:Nat} {T:TypeId} {vs:List Value},ah V b T vs→¬(b=w5.heap.size+1):=λhv=>abp ho kR hv;have hF2:∀g,F2 g→g<w5.heap.size:=λg hg=>(Hl5.o g hg).2;refine⟨by rw[World.putObj_size];exact xW,vl,hI.box.step hs (TG hI.box),hI.nil,λhp=>⟨aC hs (hI.row hp).1 (λg hg=>K9 ho kR (hI.row hp).1 hg),(hI.row hp).2⟩,⟨hI.res.1.step hs (TG hI.res.1),hI.res.2.step hs (TG hI.res.2)⟩,λhk=>?_,λhk=>?_⟩
  ·obtain⟨s1,s2⟩:=hI.Bd.1 hk
   have hm:=s2.step hs (λk hk=>⟨by subst hk;have:=s2.size;omega,.inr (by subst hk;omega)⟩);exact⟨s1.keep (λg hg=>hs.keep g (s1.lt g hg).2 (.inl (by have:=hF2 g hg;omega))) hm.q' hs.size,hm⟩
  ·obtain⟨F',s1,s2,s3,s4⟩:=hI.Bd.2 hk
   have hm:=s2.step hs (λk hk=>⟨by subst hk;have:=s2.size;omega,.inr (by subst hk;omega)⟩);refine⟨F',s1.keep (λg hg=>hs.keep g (s1.lt g hg).2 (.inl ?_)) hm.q' hs.size,hm,s3,s4⟩;rcases s3 g hg with h|h
   ·have:=hF2 g h
    omega
   ·omega
 case hIs=>
  rintro pre A B' hA ⟨xW,vl,hI⟩ ⟨-,F',hSB,hm⟩;obtain⟨s1,s2⟩:=hI.Bd.1 rfl;have hF2:∀g,w2.heap.size≤g→¬F2 g:=Hn5.o;have aoN:∀g,F2 g→g<w5.heap.size:=λg hg=>(Hl5.o g hg).2;have fJ:∀g,F' g→F2 g∨A.heap.size≤g:=hm.turn.new;have eD:∀k,w.heap.size≤k→k<w1.heap.size→¬F2 k:=λk h1 h2=>by
   rcases HM.o with⟨m0,m1,m2⟩
   rcases(show k=w.heap.size∨k=w.heap.size+1∨k=w.heap.size+2 by omega) with rfl|rfl|rfl
   ·exact m0
   ·exact m1
   ·exact m2
  refine⟨zC xW hm.size,vl,hm.aW hI.box dQ (hF2 _ oQ),hI.nil,λhp=>⟨?_,(hI.row hp).2⟩,⟨hm.aW hI.res.1 dQ (eD _ oQ oQ),hm.aW hI.res.2 dQ (eD _ oQ oQ)⟩,λhk=>(by cases hk),λ_=>⟨F',hSB,s2.trans hm,λg hg=>?_,λg hg hf=>?_⟩⟩
  ·refine GX (hI.row hp).1 (λg hg=>?_)
   have h1:=(hI.row hp).2 g hg;obtain⟨Cb,lV⟩:=aN (hI.row hp).1 hg;exact hm.keep (zo.1 lV).1 (by have:=hm.yE;have:=hm.vs;have:=s2.vs;omega) (λhf=>by have:=aoN g hf;omega)
  ·rcases fJ g hg with h|h
   ·exact .inl h
   ·exact .inr oQ
  ·by_cases hp:pre=[]
   ·rw[hI.nil hp] at hg
    cases hg
   ·have h1:=(hI.row hp).2 g hg
    obtain⟨Cb,lV⟩:=aN (hI.row hp).1 hg;have:=(zo.1 lV).1;rcases fJ g hf with h|h
    ·have:=aoN g h
     omega
    ·omega
 case h0=>exact⟨zm _,_,HZ5.o.2.2.2,λ_=>rfl,λh=>absurd rfl h,HU5.o,λ_=>⟨xJ.o,HM5.o⟩,λh=>(by cases h)⟩
 case hAx=>
  rintro pre x a' V o o' ⟨⟨h1,h2,h3⟩,h4⟩ ho kR;exact⟨⟨h1,aC (yX ho kR o') h2 (λg hg=>K9 ho kR h2 hg),h3⟩,h4⟩
 case assign=>
  rintro l0 k pre x V K2 hI Ob hK;have HK:=U hK;have HI:=U hI;have HOk:=U Ob;clear hI Ob hK;subst dw;gi_wp2;refine HK.o _ _ ⟨zm _,λk o _ h0 _=>h0⟩ (KpE.refl _) HI.o ⟨HOk.o,rfl⟩
 case body=>
  rintro l0 k pre x a' V ⟨xW,vl,hI⟩ ⟨⟨⟨rfl,AP⟩,hxr,hxn⟩,rfl⟩ hzV;subst dw;simp only[zh,zk,zl];obtain rfl:=hI.nil rfl;have z8:=hI.box.cell 0;have f8:=hI.box.free 0;simp only[zf] at z8;obtain⟨av,cv,rfl,BM⟩:=aR hxr;obtain⟨g,rfl,hg⟩:∃g,av=some ⟨g,0,none⟩∧(Value.slice av l.length cv).ownBlock=some g:=by
   rcases BM with⟨_,h0⟩|⟨g,h1,h2⟩
   ·omega
   ·exact⟨g,h1,h2⟩
  obtain⟨i,hi,hz,hs,hb⟩:=info_parts yU.info;have nY:=Ci l
  obtain⟨u,V5,iT,ig,rH, -,aoO⟩:=run_append_own_at (P:=Tryz.prog) V 0 157 157 163 i _ 2 24 yU.slice hi hz hs hb yU.cells yU.pos (.slice none 0 0) 0 [] ⟨rfl,.inl ⟨rfl,rfl⟩⟩ ⟨g,0,none⟩ l.length cv (lM l) oQ (λj u hu=>by
   have h1:=bL hxr rfl j hu;have h2:(⟨g,0,none⟩:Addr).add j=⟨g,j,none⟩:=by unfold Addr.add;split<;>simp_all
   rw[h2];exact h1) (λu hu=>by
   unfold lM at hu;obtain⟨e,_,he⟩:=List.mem_flatMap.1 hu;rcases zH.1 he with rfl|he
   ·rfl
   ·rw[zV.1 he]
    rfl) (by unfold maxLen;omega) oQ (ql _)
  rw[qx,zB] at ig;obtain⟨au,cu,rfl,hau⟩:=aR ig;have uN:Step (λ_=>False) V (λ_=>False) V5:=Step.bU rH (λr' e=>by cases e);have kS:=hI.box.step uN (λh=>h);have k5:=kS.cell 0;have g5:=kS.free 0;simp only[zf] at k5;have agM:∀r,(Value.slice au l.length cu).ownBlock=some r→V.heap.size≤r:=λr hr=>by
   rcases aoO with h|h
   ·rw[hr] at h
    cases h
   ·rw[hr] at h
    injection h with h;omega
  have HI:=U hI;have xJ:=U uN;have jR:=U kS;have yu:=U ig;have abr:=U agM;clear hI uN kS ig agM rH aoO hxr hxn BM hau hi hz hs hb nY hg;gi_wp2_with (gi_at_builtin;refine cK (.tmp 33) (.tmp 34) iT rfl rfl rfl rfl ?_);obtain⟨V6,lT⟩:∃V6,V5.setCell ⟨w2.heap.size+1,0,none⟩ (.slice au l.length cu)=V6:=⟨_,rfl⟩
  have s6:Step (· =w2.heap.size+1) V5 (· =w2.heap.size+1) V6:=by rw[←lT];exact Step.set1 (jR.o.aV dQ) _ _
  have b6:ah V6 (w2.heap.size+1) 157 [.slice au l.length cu]:=by rw[←lT];exact jR.o.aB 0 _
  rw[lT];have BN:=xJ.o.size;have U5:=s6.size;have hI:=HI.o;have kL:∀r,r<V.heap.size→r≠w2.heap.size+1→V6.heap[r]? =V.heap[r]?:=λr h1 h2=>(s6.keep r oQ (.inl h2)).trans (xJ.o.keep r h1 (.inl λh=>h));have hbv:=hI.box;have Nv:∀F':Nat→Prop,(∀g,F' g→F2 g∨w5.heap.size+2≤g)→∀r,F' r→r≠w2.heap.size+1:=λF' h r hr e=>by
   rcases h r hr with h1|h1
   ·exact Hn5.o r oQ h1
   ·omega
  have hS6:Step (· =w2.heap.size+1) V (· =w2.heap.size+1) V6:=(xJ.o.more (λ_ h=>h.elim) (λk hk=>.inl hk)).trans s6;refine⟨⟨oQ,λr o hr h0 kR=>(kL r (zo.1 h0).1 oQ).trans h0⟩,⟨oQ,λr h1 ⟨C2,fr,h2⟩=>kL r h1 (λe=>?_)⟩,oQ,_,b6,λh=>absurd h sQ,λ_=>⟨aC s6 yu.o (λr hr=>by have:=abr.o r hr;have:=hbv.lt;omega),λr hr=>by have:=abr.o r hr;omega⟩,⟨hI.res.1.step hS6 oQ,hI.res.2.step hS6 oQ⟩,λhk=>?_,λhk=>?_⟩
  ·unfold ah at hbv
   rw[e,hbv] at h2;rcases h2 with h2|h2<;>
   ·injection h2 with h2
    injection h2 with _ h2;exact absurd h2 dQ
  ·obtain⟨s1,s2⟩:=hI.Bd.1 hk
   have hm:=s2.step hS6 (λk hk=>⟨by subst hk;have:=s2.vs;omega,.inr (by subst hk;omega)⟩);exact⟨s1.keep (λg hg=>kL g (s1.lt g hg).2 (λe=>Hn5.o g oQ hg)) hm.q' oQ,hm⟩
  ·obtain⟨F',s1,s2,s3,s4⟩:=hI.Bd.2 hk
   have hm:=s2.step hS6 (λk hk=>⟨by subst hk;have:=s2.vs;omega,.inr (by subst hk;omega)⟩);refine⟨F',s1.keep (λg hg=>kL g (s1.lt g hg).2 (Nv F' s3 g hg)) hm.q' oQ,hm,s3,λg hg hf=>?_⟩;have:=abr.o g hg;have:=(s1.lt g hf).2;omega
 case done=>
  rintro k L V uD ⟨xW,vl,hI⟩ lI;subst dw;have mZ:V.ownsRow 0 163 2 vl l.length (lM l)∧(∀g,vl.ownBlock=some g→w5.heap.size≤g)∧∃F',cB v V b sp d C E (up (up n)) F'∧Mv d v F w F' V∧(∀g,F' g→F2 g∨w5.heap.size+2≤g)∧∀g,vl.ownBlock=some g→¬F' g:=by
   by_cases AP:l.length=0
   ·rw[if_pos AP] at uD
    obtain⟨rfl,rfl⟩:=uD;obtain rfl:=zX AP;obtain rfl:=hI.nil rfl;obtain⟨s1,s2⟩:=hI.Bd.1 rfl;exact⟨⟨rfl,.inl ⟨rfl,rfl⟩⟩,λg hg=>(by cases hg),F2,s1.mono (NA _),s2,λg hg=>.inl hg,λg hg=>(by cases hg)⟩
   ·rw[if_neg AP] at uD
    obtain⟨rfl,x,rfl⟩:=uD;obtain⟨r1,r2⟩:=hI.row sQ;exact⟨r1,r2,hI.Bd.2 rfl⟩
  obtain⟨aZ,fJ,F',s1,s2,s3,s4⟩:=mZ;obtain⟨av,cv,rfl,BM⟩:=aR aZ;have z8:=hI.box.cell 0;have x4:=hI.res.1;have x5:=hI.res.2;have z4:=x4.cell 0;have z5:=x5.cell 0;have f4:=x4.free 0;have f5:=x5.free 0;simp only[zf] at z8 z4 z5;have HR:=U (And.intro aZ fJ);have HS:=U (And.intro s1 (And.intro s2 (And.intro s3 s4)));have HX:=U (And.intro x4 x5);have Nb:=U lI;clear hI uD aZ fJ s1 s2 s3 s4 x4 x5 BM lI;go_wp2_with fail;obtain⟨x4,x5⟩:=HX.o;obtain⟨s1,s2,s3,s4⟩:=HS.o;have k1:Kept (w.heap.size+1) V (V.setCell ⟨w.heap.size+1,0,none⟩ (.slice av l.length cv)):=Kept.setCell _ _ _;obtain⟨V6,lT⟩:∃V6,(V.setCell ⟨w.heap.size+1,0,none⟩ (.slice av l.length cv)).setCell ⟨w.heap.size+1+1,0,none⟩ (.int .i64 0)=V6:=⟨_,rfl⟩
  have b4:ah V6 (w.heap.size+1) 157 [.slice av l.length cv]:=by rw[←lT];exact(x4.aB 0 (.slice av l.length cv)).kept (Kept.setCell _ _ _) oQ
  have b5:ah V6 (w.heap.size+2) 26 [.int .i64 0]:=by rw[←lT];exact(x5.kept k1 oQ).aB 0 (.int .i64 0)
  have s6:Step (λk=>k=w.heap.size+1∨k=w.heap.size+2) V (λk=>k=w.heap.size+1∨k=w.heap.size+2) V6:=by
   rw[←lT];exact(Step.setCell (.inl rfl) (x4.aV dQ) _ _).trans (Step.setCell (.inr rfl) ((x5.kept k1 oQ).aV dQ) _ _)
  rw[lT];have aFY:=x5.lt;have avt:=(zo.1 Nb.o).1;have Fw:V6.heap[w5.heap.size]? =some (.deferred (some [])):=(s6.keep _ avt (.inl oQ)).trans Nb.o;have s7:=yX Fw rfl (.deferred none);obtain⟨V7,hV7⟩:∃V7,V6.putObj w5.heap.size (.deferred none)=V7:=⟨_,rfl⟩
  rw[hV7] at s7;have hF':∀g,F' g→g≠w.heap.size+1∧g≠w.heap.size+2∧g≠w5.heap.size:=λg hg=>by
   rcases s3 g hg with h|h
   ·refine⟨λe=>HM.o.2.1 (e▸h),λe=>HM.o.2.2 (e▸h),λe=>?_⟩
    have:=(Hl5.o g h).2;omega
   ·omega
  have tL:=s2.step s6 (λk hk=>⟨oQ,.inr oQ⟩);have rz:=tL.step s7 (λk hk=>⟨oQ,.inr oQ⟩);have r0:=(b4.step s7 oQ).cell 0;have r1:=(b5.step s7 oQ).cell 0;simp only[zf] at r0 r1;have U5:=s6.size;have aoP:=aC s7 (aC s6 HR.o.1 (λg hg=>by have:=HR.o.2 g hg;omega)) (λg hg=>K9 Fw rfl (aC s6 HR.o.1 (λg hg=>by have:=HR.o.2 g hg;omega)) hg);refine⟨sQ,.inl ⟨_,_,rfl,run_takeDeferred Fw,?_⟩⟩;rw[hV7];refine⟨.tuple #[.slice av l.length cv,.int .i64 0],by simp[results,Tryz.f166,go_sem,r0,r1],_,rfl,aoP,λg hg=>by have:=HR.o.2 g hg;omega,F',s1.keep (λg hg=>(s7.keep g (by have:=(s1.lt g hg).2;omega) (.inl (hF' g hg).2.2)).trans (s6.keep g (s1.lt g hg).2 (.inl (by have:=hF' g hg;omega)))) rz.q' (by have:=s7.size;omega),s4,rz⟩
end
theorem Fx {l:List bI}:∀{k:Nat} {e:bI},l[k]? =some e→(lM l)[2*k]? =some (.int .i64 e.1)∧(lM l)[2*k+1]? =some (.string ⟨e.2.toArray⟩):=by
 induction l with
 |nil=>intro k e h;simp at h
 |cons a l ih=>
  intro k e h;have hc:lM (a::l)=.int .i64 a.1:: .string ⟨a.2.toArray⟩::lM l:=rfl;rw[hc];cases k with
  |zero=>
   rw[zf] at h;injection h with h;subst h;exact⟨rfl,rfl⟩
  |succ k=>
   rw[zi] at h;have:=ih h;exact⟨this.1,this.2⟩
def Py (l:List bI) (s:Bytes):Int:=match l.findIdx? (λe=>e.2==s) with|some i=>(i:Int)|none=> -1
theorem Fy {l:List bI} {s:Bytes} {i:Nat} {e:bI} (h:l[i]? =some e) (hs:e.2=s) (hn:∀j e',j<i→l[j]? =some e'→e'.2≠s):Py l s=i:=by
 have bA:=(zL.1 h).1;have:l.findIdx? (λe=>e.2==s)=some i:=by
  rw[List.findIdx?_eq_some_iff_getElem];refine⟨bA,by rw[(zL.1 h).2,hs];simp,λj hj=>?_⟩;have:=hn j l[j] hj (zu oQ);simpa using this
 unfold Py;rw[this]
theorem Ow {l:List bI} {s:Bytes} (hn:∀e∈l,e.2≠s):Py l s= -1:=by
 have:l.findIdx? (λe=>e.2==s)=none:=by
  rw[List.findIdx?_eq_none_iff];intro e he;simpa using hn e he
 unfold Py;rw[this]
theorem RD {w:World} {e:bI} {s:Bytes} {tn:Nat} (hc:w.cell? ⟨tn,0,none⟩=some (.string ⟨s.toArray⟩)):
  Calls Tryz.prog 324 #[.agg #[.int .i64 e.1,.string ⟨e.2.toArray⟩],.pointer (some ⟨tn,0,none⟩)] w λx w'=>x=.returned (.bool (e.2==s))∧Below w.heap.size w w':=by
 have hB:Below w.heap.size w (w.alloc (.cells #[.int .i64 e.1,.string ⟨e.2.toArray⟩] 163)):=(zn _ _).alloc (zm _) _;have nI:=zq w _ hc;go_enter Tryz.func324,Tryz.ntmps324;go_wp2_with fail;go_ret;refine⟨?_,hB⟩
 first
  |rfl
  |(congr 2;rw[q9];simp)
theorem RF {w:World} {l:List bI} {s:Bytes} {tn n c:Nat} {a:Option Addr} (hc:w.cell? ⟨tn,0,none⟩=some (.string ⟨s.toArray⟩)) (aZ:w.ownsRow 0 163 2 (.slice a n c) n (lM l)) (hn:l.length=n) (Ai:n≤1000):
  Calls Tryz.prog 323 #[.slice a n c,.func (.func 324) #[] #[.pointer (some ⟨tn,0,none⟩)]] w λx w'=>x=.returned (.int .i64 (Py l s))∧Below w.heap.size w w':=by
 have nI:=zq w _ hc;have HR:=U aZ;have HC:=U hc;have Hn:=U hn;clear aZ hc hn;go_enter Tryz.func323,Tryz.ntmps323;go_wp2_with fail;go_loopw [8] (λvv wr=>∃k:Nat,k≤n∧vv=.int .i64 k∧(∀j e',j<k→l[j]? =some e'→e'.2≠s)∧Below w.heap.size w wr) (λvv _=>n - (intOf vv).toNat)
 case atStart=>exact⟨0,ql _,rfl,λj _ h=>absurd h (Nat.not_lt_zero _),zn _ _⟩
 case round=>
  obtain⟨k,hk,rfl,kZ,hB⟩:=hrel;have HN:=U kZ;have HB:=U hB;have hz:=hB.size;clear kZ hB;by_cases mW:k<n
  ·have SH:(k:Int)<n:=oQ
   obtain⟨e,he⟩:∃e,l[k]? =some e:=⟨l[k]'(by rw[Hn.o];exact mW),zu _⟩
   have hg:=Fx he;obtain⟨g,rfl,l7⟩:∃g,a=some ⟨g,0,none⟩∧g<w.heap.size:=by
    rcases HR.o.2 with⟨h0,h1⟩|⟨g,cap,cur,hv,_,wQ,_⟩
    ·omega
    ·injection hv with hv
     exact⟨g,hv,(zo.1 wQ).1⟩
   have d0:=(HB.o.cell (p:=⟨g,2*k,none⟩) l7).trans (bL HR.o rfl (2*k) hg.1);have d1:=(HB.o.cell (p:=⟨g,2*k+1,none⟩) l7).trans (bL HR.o rfl (2*k+1) hg.2);rw[zaM] at d0 d1;have hc':=(HB.o.cell (p:=⟨tn,0,none⟩) nI).trans HC.o;have HC':=U hc';have He:=U he;clear hg he hc';go_wp2_with fail;refine(RD HC'.o).mono ?_;rintro x w2 ⟨rfl,aJ⟩;have bH:=U (HB.o.trans (aJ.mono hz));clear aJ d0 d1;rcases hes:(e.2==s) with _|_
   ·go_wp2_with fail
    refine⟨⟨k+1,oQ,by go_num,λj e' hj hje=>?_,bH.o⟩,by simp[intOf];omega⟩;by_cases PI:j=k
    ·subst PI
     rw[He.o] at hje;injection hje with hje;subst hje;simpa using hes
    ·exact HN.o j e' oQ hje
   ·go_wp2_with fail
    go_ret;refine⟨?_,bH.o⟩;rw[Fy He.o (by simpa using hes) HN.o];rfl
  ·obtain rfl:k=n:=oQ
   go_wp2_with fail;go_ret;refine⟨?_,HB.o⟩
   rw[Ow (λe he=>by
    obtain⟨j,hj,rfl⟩:=za7 he;exact HN.o j _ (by have:=Hn.o;omega) (zu hj))]
   rfl
theorem xA {w:World} {l:List bI} {s:Bytes} {n c:Nat} {a:Option Addr} (aZ:w.ownsRow 0 163 2 (.slice a n c) n (lM l)) (hn:l.length=n) (Ai:n≤1000):
  Calls Tryz.prog 273 #[.slice a n c,.string ⟨s.toArray⟩] w λx w'=>x=.returned (.int .i64 (Py l s))∧Below w.heap.size w w':=by
 obtain⟨w1,aP⟩:∃w1,w.alloc (.cells #[.string ⟨s.toArray⟩] 9)=w1:=⟨_,rfl⟩
 obtain⟨aM,aF,hz1⟩:=boxes [([.string ⟨s.toArray⟩],9)] w w1 (by rw[←aP];rfl);have x0:ah w1 w.heap.size 9 [.string ⟨s.toArray⟩]:=aM 0 _ rfl;have Oc:=aC (Step.of_below aF (λ_=>False)) aZ (λ_ _ h=>h);have y0:=x0.cell 0;simp only[zf] at y0;have HR:=U Oc;have HB:=U aF;have HY:=U y0;clear aM aF aZ Oc x0 y0;go_enter Tryz.func273,Tryz.ntmps273;go_wp2_with fail;refine(RF HY.o HR.o hn Ai).mono ?_;rintro x w2 ⟨rfl,aJ⟩;have bH:=U (HB.o.trans (aJ.mono HB.o.size));clear aJ;go_wp2_with fail;go_ret;exact⟨rfl,bH.o⟩
section
variable {v w:World} {sp d B b n id:Nat} {C E:Nat→Bytes} {F:Nat→Prop} {lk:Int} {l:List bI} {D R:List Int} {r:Int} {s:Bytes}
theorem Jp (hV:Base v sp d B C) (h:cB v w b sp d C E n F) (hl:∀e∈l,Aj e) (xw:l.length≤15) (hF:mh E B id 2 lk (b_ l) D r R) {za ze:Int} (hp:(∃(i:Nat) (x:bI),l[i]? =some x∧Py l s=i∧za=x.1∧ze=0)∨(Py l s= -1∧za=0∧ze=5)):
  Calls Tryz.prog 223 #[.agg #[.pointer (some ⟨b,0,none⟩),.int .i64 B],.int .i64 id,.string ⟨s.toArray⟩] w λe w'=>e=.returned (.tuple #[.int .i64 za,.int .i64 ze])∧∃F',cB v w' b sp d C E (up (up n)) F'∧Mv d v F w F' w':=by
 obtain⟨w1,aP⟩:∃w1,w.alloc (.cells #[.pointer (some ⟨b,0,none⟩),.int .i64 B] 85)=w1:=⟨_,rfl⟩
 obtain⟨aM,aF,hz1⟩:=boxes [([.pointer (some ⟨b,0,none⟩),.int .i64 B],85)] w w1 (by rw[←aP];rfl);have x0:ah w1 w.heap.size 85 [.pointer (some ⟨b,0,none⟩),.int .i64 B]:=aM 0 _ rfl;have y0:=x0.cell 0;have y1:=x0.cell 1;simp only[zf,zi] at y0 y1;have H:=U h;have H1:=U (h.below aF);have HV:=U hV;have HF:=U hF;have HB:=U aF;have Hl:=U hl;have Hp:=U hp;clear h hV aM aF hz1 x0 hF hl hp;go_enter Tryz.func223,Tryz.ntmps223;go_wp2_with fail;refine(vB HV.o H1.o Hl.o xw HF.o).mono ?_;rintro e w2 ⟨u,rfl,aZ,fJ,F2,h2,Cv,bC⟩;obtain⟨av,cv,rfl,BM⟩:=aR aZ;have HR:=U aZ;have HZ:=U (And.intro h2 (Mv.after HB.o bC H.o.quiet (λk hk=>(H.o.lt k hk).2)));clear aZ fJ h2 Cv bC y0 y1 BM;go_wp2_with fail;refine(xA (s:=s) HR.o rfl oQ).mono ?_;rintro e w3 ⟨rfl,bf⟩;have HY:=U (And.intro (HZ.o.1.below bf) (HZ.o.2.below bf));have UJ:=U (aC (Step.of_below bf (λ_=>False)) HR.o (λ_ _ h=>h));clear bf;rcases Hp.o with⟨i,x,hx,fB,rfl,rfl⟩|⟨fB,rfl,rfl⟩
 ·rw[fB]
  have hil:=(zL.1 hx).1;have hg:=Fx hx;obtain⟨g,rfl⟩:∃g,av=some ⟨g,0,none⟩:=by
   rcases UJ.o.2 with⟨h0,h1⟩|⟨g,cap,cur,hv,_⟩
   ·omega
   ·injection hv with hv
    exact⟨g,hv⟩
  have d0:=bL UJ.o rfl (2*i) hg.1;rw[zaM] at d0;have Te:(i:Int)<l.length:=oQ
  have hi0:¬((i:Int)<0):=oQ
  clear hg;go_wp2_with fail;go_ret2;exact⟨rfl,F2,HY.o⟩
 ·rw[fB]
  go_wp2_with fail;go_ret2;exact⟨rfl,F2,HY.o⟩
end
theorem WX {c d:Bytes} {o:Nat} (h:o=c.length):ow c o d=c++d:=by
 subst h;unfold ow;rw[zae,qO oQ,qD]
section
variable {v w:World} {sp d B b n id:Nat} {C E:Nat→Bytes} {F:Nat→Prop} {lk:Int} {l:List bI} {D R:List Int} {r:Int} {s:Bytes}
theorem abt {e:bI} (he:Aj e) (hV:Base v sp d B C) (h:cB v w b sp d C E n F) (hl:∀e∈l,Aj e) (xw:l.length≤14) (hF:mh E B id 2 lk (b_ l) D r R) {q:Nat} (hq:l.length=q) (hz:aG (E 0) 0=true) (dx:cnt (E 0) B+need (32*(q+1))≤B+need (32*q)):
  Calls Tryz.prog 274 #[.agg #[.pointer (some ⟨b,0,none⟩),.int .i64 B],.int .i64 id,.int .i64 q,.agg #[.int .i64 e.1,.string ⟨e.2.toArray⟩]] w λx w'=>x=.returned (.int .i64 0)∧∃E' D' r' R' F',Wrote E E' B id 2 lk (b_ l) (b_ (l++[e])) D r R D' r' R'∧cB v w' b sp d C E' (n+14) F'∧Mv d v F w F' w':=by
 have eX:=fq (l:=l) (λe he=>.inl (hl e he));have Qn:=jH (e:=e) (by have:=he.2.2.2.1;omega);obtain⟨w1,aP⟩:∃w1,((w.alloc (.cells #[.pointer (some ⟨b,0,none⟩),.int .i64 B] 85)).alloc (.cells #[.int .i64 e.1,.string ⟨e.2.toArray⟩] 163)).alloc (.cells #[.int .i64 e.1,.string ⟨e.2.toArray⟩] 163)=w1:=⟨_,rfl⟩
 obtain⟨aM,aF,hz1⟩:=boxes [([.pointer (some ⟨b,0,none⟩),.int .i64 B],85),([.int .i64 e.1,.string ⟨e.2.toArray⟩],163),([.int .i64 e.1,.string ⟨e.2.toArray⟩],163)] w w1 (by rw[←aP];rfl);have x0:ah w1 w.heap.size 85 [.pointer (some ⟨b,0,none⟩),.int .i64 B]:=aM 0 _ rfl;have x2:ah w1 (w.heap.size+2) 163 [.int .i64 e.1,.string ⟨e.2.toArray⟩]:=aM 2 _ rfl;have vR:w1.heap.size=w.heap.size+3:=by simpa using hz1
 have H:=U h;have H1:=U (h.below aF);have HV:=U hV;have HF:=U hF;have HB:=U aF;have Hl:=U hl;have tC:=U eX;have Hsl:=U Qn;have X0:=U x0;have X2:=U x2;have Hq:=U hq;clear h hV aM aF hz1 x0 x2 hF hl eX Qn hq;go_enter Tryz.func274,Tryz.ntmps274;go_wp2_with fail;refine(Oq he X2.o).mono ?_;rintro x w2 ⟨g,c,rfl,ho,aJ⟩;have FZ:=(eu ho).1;have l7:g<w2.drew.heap.size:=(eu ho).2.1;have Kt:=HB.o.trans (aJ.mono HB.o.size);have u0:=X0.o.below aJ;have y0:=u0.cell 0;have y1:=u0.cell 1;simp only[zf,zi] at y0 y1;have Ac:(gP e).length≤480:=by rw[Hsl.o];omega
 have dO:cZ w2 (some ⟨g,0,none⟩) (gP e):=by
  have h1:=ho.pR.take 32;have h2:(field (gP e) 480).take 32=gP e:=by
   unfold field;rw[zy Ac,qB (by rw[Hsl.o];omega),zy (by rw[Hsl.o];omega)]
  rw[h2] at h1;exact h1
 have aF0:480≤c:=by
  rcases ho.2 with⟨h0,_⟩|⟨g',cap,cur,hv,_,_,JG,_⟩
  ·cases h0
  ·injection hv with _ _ hc
   subst hc;have:((field (gP e) 480).map aH).length=480:=by rw[zD,gG]
   omega
 have aF1:q≤14:=by have:=Hq.o;omega
 have CJ:(32:Int)≤c:=oQ
 have hmul:IntKind.i64.wrap ((q:Int)*32)=((32*q:Nat):Int):=by rw[zG];omega
 have HZ:=U (And.intro (H.o.below Kt) (And.intro dO Kt));have HU:=U u0;clear ho aJ dO Kt u0;go_wp2_with fail;refine wp_region_noPanic ?_;refine ak (S:=(λW=>W.cell? ⟨w.heap.size,0,none⟩=some (.pointer (some ⟨b,0,none⟩))∧W.cell? ⟨w.heap.size,1,none⟩=some (.int .i64 B))) (m:=7) kQ ⟨y0,y1⟩ (λaj=>?_);refine te 0 aj ?_;refine te 1 aj ?_;refine te 2 aj ?_;refine te 3 aj ?_;refine te 4 aj ?_;refine te 5 aj ?_;refine rE 6 λK hK=>?_;go_simp;have hW:=HZ.o;refine(yR (off:=32*q) (len:=32) (dd:=gP e) HV.o (hW.1.below (zn _ _).drew) HF.o (hW.2.1.below (zn _ _).drew) Hsl.o ⟨l7,λhf=>by have:=(H.o.lt _ hf).2;omega⟩ oQ oQ (by rw[tC.o,Hq.o];omega) oQ hz (by rw[tC.o,Hq.o,Nat.max_eq_right oQ];exact dx)).mono ?_;rintro x w4 ⟨rfl,E',D',r',R',F4,xP,h4,dI⟩;have z0:=dI.aW (HU.o.below (zn _ _).drew) dQ (λhf=>by have:=(H.o.lt _ hf).2;omega);have HY:=U (And.intro xP (And.intro h4 dI));clear xP h4 dI hW;go_wp2_with fail;refine hK.out _ _ (λ_=>⟨z0.cell 0,z0.cell 1⟩) (λhS=>?_);have bQ:=hS dQ;clear hS hK K
 try simp only[Act.put,zh,zk,zl]
 refine vF 7 ?_;refine aD ?_;go_wp2_with fail;go_ret;obtain⟨q1,q2,q3⟩:=HY.o;rw[WX (by rw[tC.o,Hq.o]),←V_] at q1;exact⟨rfl,E',D',r',R',F4,q1,q2,Mv.after (HZ.o.2.2.drew) q3 H.o.quiet (λk hk=>(H.o.lt k hk).2)⟩
theorem abu {m:Nat} (hs:nm s=true) (hm:1≤m∧m≤3839) (hV:Base v sp d B C) (h:cB v w b sp d C E n F) (hl:∀e∈l,Aj e) (xw:l.length≤14) (hF:mh E B id 2 lk (b_ l) D r R) (kZ:Py l s= -1) {q:Nat} (hq:l.length=q) (hz:aG (E 0) 0=true) (dx:cnt (E 0) B+need (32*(q+1))≤B+need (32*q)):
  Calls Tryz.prog 224 #[.agg #[.pointer (some ⟨b,0,none⟩),.int .i64 B],.int .i64 id,.string ⟨s.toArray⟩,.int .i64 m] w λx w'=>x=.returned (.int .i64 0)∧∃E' D' r' R' F',Wrote E E' B id 2 lk (b_ l) (b_ (l++[(m,s)])) D r R D' r' R'∧cB v w' b sp d C E' (n+16) F'∧Mv d v F w F' w':=by
 obtain⟨w1,aP⟩:∃w1,w.alloc (.cells #[.pointer (some ⟨b,0,none⟩),.int .i64 B] 85)=w1:=⟨_,rfl⟩
 obtain⟨aM,aF,hz1⟩:=boxes [([.pointer (some ⟨b,0,none⟩),.int .i64 B],85)] w w1 (by rw[←aP];rfl);have x0:ah w1 w.heap.size 85 [.pointer (some ⟨b,0,none⟩),.int .i64 B]:=aM 0 _ rfl;have y0:=x0.cell 0;have y1:=x0.cell 1;simp only[zf,zi] at y0 y1;have H:=U h;have H1:=U (h.below aF);have HV:=U hV;have HF:=U hF;have HB:=U aF;have Hl:=U hl;have Qc:=U kZ;have Hs:=U hs;have X0:=U x0;have Hq:=U hq;have eD:¬((m:Int)<1):=oQ
 have bC:¬((3839:Int)<m):=oQ
 clear h hV aM aF hz1 x0 hF hl kZ hs hq;go_enter Tryz.func224,Tryz.ntmps224;go_wp2_with fail;refine(vB HV.o H1.o Hl.o oQ HF.o).mono ?_;rintro e w2 ⟨u,rfl,aZ,fJ,F2,h2,Cv,aeX⟩;obtain⟨av,cv,rfl,BM⟩:=aR aZ;have AO:¬F w.heap.size:=λhf=>by have:=(H.o.lt _ hf).2;omega
 have u0:=aeX.aW X0.o dQ AO;have HR:=U aZ;have HZ:=U (And.intro h2 (And.intro (Mv.after HB.o aeX H.o.quiet (λk hk=>(H.o.lt k hk).2)) (And.intro u0 (aeX.apart X0.o.lt AO))));clear aZ fJ h2 Cv aeX y0 y1 BM u0 AO;go_wp2_with fail;refine(E5 s w2).mono ?_;rintro e w' ⟨rfl,rfl⟩;rw[Hs.o];go_wp2_with fail;refine(xA (s:=s) HR.o rfl oQ).mono ?_;rintro e w3 ⟨rfl,bf⟩;rw[Qc.o];have HY:=U (And.intro (HZ.o.1.below bf) (And.intro (HZ.o.2.1.below bf) (HZ.o.2.2.1.below bf)));have y0:=HY.o.2.2.cell 0;have y1:=HY.o.2.2.cell 1;simp only[zf,zi] at y0 y1;clear bf;rw[Hq.o];have I6:¬((3840:Int)≤q):=by have:=Hq.o;omega
 go_wp2_with fail;refine(abt (e:=(m,s)) (aa_ hm Hs.o) HV.o HY.o.1 Hl.o xw HF.o Hq.o hz dx).mono ?_;rintro e w4 ⟨rfl,E',D',r',R',F4,g1,g2,g3⟩;have HX:=U (And.intro g1 (And.intro g2 (HY.o.2.1.trans g3)));clear g1 g2 g3 y0 y1;go_wp2_with fail;go_ret;refine⟨rfl,E',D',r',R',F4,HX.o.1,HX.o.2.1.mono ?_,HX.o.2.2⟩;unfold up
 split<;>split<;>omega
theorem WY {a:Option Addr} {c k za:Nat} {parts:List Bytes} (hV:Base v sp d B C) (h:cB v w b sp d C E n F) (hl:∀e∈l,Aj e) (xw:l.length≤15) (hF:mh E B 1 2 lk (b_ l) D r R)
  (hk:parts.length=k) (hp:(k=0∧za=1)∨(k=1∧∃g s,a=some ⟨g,0,none⟩∧g<w.heap.size∧w.cell? ⟨g,0,none⟩=some (.string ⟨s.toArray⟩)∧∃(i:Nat) (x:bI),l[i]? =some x∧Py l s=i∧za=x.1)):
  Calls Tryz.prog 172 #[.agg #[.pointer (some ⟨b,0,none⟩),.int .i64 B],.slice a k c] w λe w'=>e=.returned (.tuple #[.int .i64 za,.int .i64 0])∧∃F',cB v w' b sp d C E (up (up n)) F'∧Mv d v F w F' w':=by
 obtain⟨w1,aP⟩:∃w1,w.alloc (.cells #[.pointer (some ⟨b,0,none⟩),.int .i64 B] 85)=w1:=⟨_,rfl⟩
 obtain⟨aM,aF,hz1⟩:=boxes [([.pointer (some ⟨b,0,none⟩),.int .i64 B],85)] w w1 (by rw[←aP];rfl);have x0:ah w1 w.heap.size 85 [.pointer (some ⟨b,0,none⟩),.int .i64 B]:=aM 0 _ rfl;have y0:=x0.cell 0;have y1:=x0.cell 1;simp only[zf,zi] at y0 y1;have H:=U h;have H1:=U (h.below aF);have HV:=U hV;have HF:=U hF;have HB:=U aF;have Hl:=U hl;clear h hV aM aF hz1 x0 hF hl;go_enter Tryz.func172,Tryz.ntmps172;rcases hp with⟨rfl,rfl⟩|⟨rfl,g,s,rfl,l7,hgc,i,x,hx,fB,Tf⟩
 ·go_wp2_with fail
  go_loopw [6,13] (λnn vv wr=>nn=.int .i64 1∧vv=.int .i64 0∧wr=w1) (λ_ _ _=>0)
  case atStart=>exact⟨rfl,rfl,rfl⟩
  case round=>
   obtain⟨rfl,rfl,rfl⟩:=hrel;go_wp2_with fail;go_ret2;refine⟨rfl,F,H1.o.mono ?_,Mv.of_below HV.o.dev H.o.quiet H.o.lt HB.o⟩;unfold up
   split<;>split<;>omega
 ·have d0:=(HB.o.cell (p:=⟨g,0,none⟩) l7).trans hgc
  go_wp2_with fail;go_loopw [6,13] (λnn vv wr=>(nn=.int .i64 1∧vv=.int .i64 0∧wr=w1)∨(nn=.int .i64 za∧vv=.int .i64 1∧∃F',cB v wr b sp d C E (up (up n)) F'∧Mv d v F w F' wr)) (λ_ vv _=>1 - (intOf vv).toNat)
  case atStart=>exact .inl ⟨rfl,rfl,rfl⟩
  case round=>
   rcases hrel with⟨rfl,rfl,rfl⟩|⟨rfl,rfl,F',hS,hM⟩
   ·go_wp2_with fail
    refine(Jp (s:=s) HV.o H1.o Hl.o xw HF.o (.inl ⟨i,x,hx,fB,rfl,rfl⟩)).mono ?_;rintro e w2 ⟨rfl,F2,h2,bC⟩;have HZ:=U (And.intro h2 (Mv.after HB.o bC H.o.quiet (λk hk=>(H.o.lt k hk).2)));clear h2 bC;go_wp2_with fail;exact⟨.inr ⟨by rw[Tf],by go_num,F2,HZ.o⟩,by simp[intOf]⟩
   ·have HZ:=U (And.intro hS hM)
    clear hS hM;go_wp2_with fail;go_ret2;exact⟨rfl,F',HZ.o⟩
end
end
end Go.Proofs.YtdjdpeadohobmaaGreatDoor
