/- A part of the walk below the law: what is proved here is used by later parts; no further condition. -/
import Derived.Defers
import Derived.Recover
import Derived.Test.YtdjdpeadohobmaaGreatDoorK20
set_option linter.unusedVariables false
set_option linter.unusedSimpArgs false
set_option maxRecDepth 100000
set_option maxHeartbeats 20000000
namespace Go.Proofs.YtdjdpeadohobmaaGreatDoor
section
open Go.RowKit Go.Shelf O
attribute [local go_sem] Oper.semAt_some
def Gd (B P:Nat):JS:={P:=P,B:=B,epoch:=1,start:=1,seq:=0,tail:=0,Q:=[],freed:=0,sec:=λ_=>none}
theorem aij {B P:Nat} (hg:Geo B P):rD (Gd B P) (λ_=>zeros 480):=by
 have h1:=hg.b;have h2:=hg.r;refine⟨by show 0<P;omega,ql _,ql _,⟨zm _,zm _⟩,⟨zm _,by show 1<4294967296;omega⟩,⟨λx hx=>by simp[Gd,ids] at hx,by simp[Gd,Ib],λi hi=>by simp[Gd] at hi⟩,λid i h=>by simp[Gd,idx] at h,λid h=>rfl,λp x _ h=>by simp[Gd] at h,λp x _ h=>by simp[Gd] at h,λh=>by simp[Gd] at h⟩
theorem Vz (B P:Nat):yB (Gd B P):=⟨rfl,rfl,λp x _ h=>by simp[Gd] at h⟩
theorem bG.step {w w':World} {F F':Nat→Prop} (h:Md.bG w) (hs:Step F w F' w') (hn:¬F 0):Md.bG w':=λy=>by
 have h1:=h y;exact(hs.cell (p:=⟨0,(Md.n4 y).toNat,none⟩) (zq w _ h1) hn).trans h1
theorem aik (p q:Addr) (w:World):
  CallsD Tryz.prog 46 #[.pointer (some p),.pointer (some q)] .returning w λe u' w'=>e=.returned (.tuple #[])∧u'=.returning∧w'=w:=by
 refine callsD_of_wpS Tryz.func46 rfl λc₀ cs hu=>?_;apply wpS_seq;apply wpS_region;simp[wpOpsS,go_sem,recoverD,hu,Tryz.ntmps46,Exit.thenS];apply wpS_seq;apply wpS_region;simp[wpOpsS,go_sem,Array.replicate,Act.eval,Exit.thenS];refine wpS_cond (t:=false) (by simp[Act.eval,Array.replicate]) ?_;simp only[zab,if_false];refine wpS_of_wp (wp_skip ?_);cases c₀;simp_all[bodyPostS,results,Tryz.results46]
theorem Dev.lt {w:World} {d n:Nat} {st:Nat→Bytes} {wt:Wt} {dn:Bool} {F:Nat→Prop} (h:Dev w d n st wt dn F):∀k,F k→k<w.heap.size:=by
 obtain⟨sb,ss,vw,xs,tb,cr,cw,cf,h⟩:=h;exact h.lt
theorem ZT {st:Nat→Bytes} {wt:Wt} {z:Bytes} (h1:∀i,st i=z) (h2:∀e∈wt,e.2=z) (i:Nat):view st wt i=z:=by
 unfold view
 split
 ·rename_i e he
  exact h2 e (List.mem_reverse.1 (qN he))
 ·exact h1 i
section
variable {w:World} {d B P:Nat} {F:Nat→Prop}
theorem Np (hD:Dev w d (P+1) (λ_=>zeros 512) [] false F) (hg:Geo B P) (hT:Md.bG w) (hTF:¬F 0):
  Calls Tryz.prog 28 #[.pointer (some ⟨d,0,none⟩),.int .i64 B] w λe w'=>∃(sp:Nat) (F':Nat→Prop),e=.returned (.tuple #[.pointer (some ⟨sp,0,none⟩),.int .i64 0])∧lW w' sp d (Gd B P) (λ_=>zeros 480) true F'∧Step F w F' w':=by
 have hmf:∀(fn:Fn) (first cap:Array Value) (w:World),(Instr.makeFunc fn first cap).run Tryz.prog w=.ok (.func fn first cap) w:=λ_ _ _ _=>rfl;have jL:∀k,F k→k<w.heap.size:=by
  obtain⟨sb,ss,vw,xs,tb,cr,cw,cf,h⟩:=hD;exact h.lt
 have hb:=hg.b;have hs:=hg.s;have HG:=U hg;have HD:=U hD;have HT:=U hT;have HF:=U jL;clear hD hT jL hg;go_enter_defers Tryz.func28,Tryz.ntmps28;go_wp2_with fail;obtain⟨w1,aP⟩:∃w1,(w.alloc (.cells #[.pointer none] 76)).alloc (.cells #[.int .i64 0] 26)=w1:=⟨_,rfl⟩
 obtain⟨aM,aF,hz1⟩:=boxes [([.pointer none],76),([.int .i64 0],26)] w w1 aP;have r0:ah w1 w.heap.size 76 [.pointer none]:=aM 0 _ rfl;have r1:ah w1 (w.heap.size+1) 26 [.int .i64 0]:=aM 1 _ rfl;rw[aP];have jD:=U aF;have R0:=U r0;have R1:=U r1;have M0:=U (HD.o.step (Step.of_below aF (λ_=>False)) (λ_ _ h=>h));clear aP aM aF r0 r1;refine(kK M0.o).mono ?_;rintro e w2 ⟨rfl,rfl⟩;have fA:IntKind.i64.wrap (((P+1:Nat):Int) - 1)=(P:Int):=by rw[zG];omega
 go_wp2_with fail;obtain⟨w2,iy⟩:∃w2,w1.alloc (.cells #[.int .i64 B,.int .i64 P] 109)=w2:=⟨_,rfl⟩
 have aJ:Below w1.heap.size w1 w2:=by rw[←iy];exact(zn _ _).alloc (zm _) _
 have Yf:ah w2 w1.heap.size 109 [.int .i64 B,.int .i64 P]:=by rw[←iy];exact ah.new w1 _ _
 rw[iy];clear iy fA;refine(rM HG.o _).mono ?_;rintro e w3 ⟨rfl,bf⟩;have iB:=U (aJ.trans (bf.mono aJ.size));have HV3:=U (Yf.below bf);clear aJ Yf bf;go_wp2_with fail;refine(oW w3).mono ?_;rintro e w4 ⟨⟨v,rfl⟩,rfl⟩;obtain⟨w4,fC,hVe,P9,hze⟩:=kN (w:=w3) SF .i64 .i64 512 oQ oQ;have fC:(Instr.makeSlice 22 (.int .i64 512) (.int .i64 512)).run Tryz.prog w3=.ok (.slice (some ⟨w3.heap.size,0,none⟩) 512 512) w4:=fC;have dO:cZ w4 (some ⟨w3.heap.size,0,none⟩) (zeros 512):=(show ah w4 w3.heap.size 5 ((zeros 512).map aH) from hVe).pR;have lS:=U P9;have pU:=U dO;have VA:=iB.o.size;clear hVe P9 dO;obtain⟨eb,heb⟩:∃eb,w3.heap.size=eb:=⟨_,rfl⟩
 rw[heb] at fC pU;go_wp2_with fail;clear fC;have hlz:(zeros 512).length=512:=by simp[zeros]
 have MF:∀W:World,w.heap.size≤W.heap.size→∀k,F k→k<W.heap.size:=λW hW k hk=>zx (HF.o k hk) hW;have Hlz:=U hlz;have HFw:=U MF;clear hlz MF;refine(w_ (n:=P+1) (F:=F) w4 d 0 (some ⟨eb,0,none⟩) 512 oQ Hlz.o pU.o (HFw.o w4 (by have:=lS.o.size;have:=iB.o.size;have:=jD.o.size;omega))).mono ?_;rintro e w5 ⟨b0,b1,b2,rfl,hx5,iJ⟩;have amU:(Stp.wr b0 b1 b2 0 (some ⟨eb,0,none⟩) 512 (zeros 512)).val d=.func (.func 115) #[] #[.pointer (some ⟨b0,0,none⟩),.pointer (some ⟨b1,0,none⟩),.pointer (some ⟨b2,0,none⟩)]:=rfl;rw[amU];have jR:=U (lS.o.trans (iJ.mono lS.o.size));have Hx5:=U hx5;have atY:=U (pU.o.below iJ);clear hx5 amU iJ;go_wp2_with fail;obtain⟨w6,yC⟩:∃w6,w5.alloc (.cells #[.func (.func 115) #[] #[.pointer (some ⟨b0,0,none⟩),.pointer (some ⟨b1,0,none⟩),.pointer (some ⟨b2,0,none⟩)],.func (.func 53) #[.pointer (some ⟨d,0,none⟩)] #[]] 68)=w6:=⟨_,rfl⟩
 have lu:Below w5.heap.size w5 w6:=by rw[←yC];exact(zn _ _).alloc (zm _) _
 have lT:ah w6 w5.heap.size 68 ([Stp.wr b0 b1 b2 0 (some ⟨eb,0,none⟩) 512 (zeros 512),.fl].map (Stp.val d)):=by rw[←yC];exact ah.new w5 _ _
 rw[yC];clear yC;have sI:=U (jR.o.trans (lu.mono jR.o.size));have amV:=U (iB.o.trans (sI.o.mono iB.o.size));have AQ:w1.heap.size=w.heap.size+2:=by simpa using hz1
 have IY:w.heap.size+2≤w5.heap.size:=by have:=jR.o.size;have:=iB.o.size;omega
 have Yi:w.heap.size+2<w3.heap.size:=by have:=HV3.o.lt;omega
 have atZ:=sI.o.size;refine(yD (M0.o.step (Step.of_below amV.o (λ_=>False)) (λ_ _ h=>h)) w5.heap.size 2 [Stp.wr b0 b1 b2 0 (some ⟨eb,0,none⟩) 512 (zeros 512),.fl] rfl oQ sQ sQ lT (λh=>by have:=HF.o _ h;omega) (λx hx=>?_)).mono ?_
 ·simp only[zH,zO,or_false] at hx
  rcases hx with rfl|rfl
  ·exact Stp.CX Hx5.o (Step.of_below lu F)
  ·trivial
 rintro e w7 ⟨⟨v,rfl⟩,F7,hD7,uQ⟩;obtain⟨st7,l6,ZN⟩:∃st7:Nat→Bytes,(List.foldl Stp.go ((λ_=>zeros 512),[]) [Stp.wr b0 b1 b2 0 (some ⟨eb,0,none⟩) 512 (zeros 512),.fl])=(st7,[])∧∀i,st7 i=zeros 512:=by
  refine⟨_,rfl,λi=>?_⟩;show view (λ_=>zeros 512) ([]++[(0,zeros 512)]) i=zeros 512;rw[mE]
  split<;>rfl
 rw[l6] at hD7;have HD7:=U hD7;have Kh:=U ((Step.of_below amV.o F).trans uQ);have Hz7:=U ZN;have XW:=U (((HV3.o.below sI.o).step uQ (λh=>by have:=HF.o _ h;omega)));have tq:¬F7 (w.heap.size+2):=uQ.apart oQ (λh=>by have:=HF.o _ h;omega);have hg7:w.heap.size+2<w7.heap.size:=by have:=uQ.size;omega
 have at0:=U ((atY.o.below lu).step uQ);rw[AQ] at XW;have c0:=XW.o.cell 0;have c1:=XW.o.cell 1;simp only[zf,zi] at c0 c1;clear l6 hD7 uQ ZN lu lT AQ atZ VA;go_wp2_with fail;clear c0 c1;go_loopw [32] (λv wr=>∃(k:Nat) (F':Nat→Prop) (wt:Wt),k≤P∧v=.int .i64 k∧wt.length=k∧(∀e∈wt,e.1<P+1∧e.2=zeros 512)∧Dev wr d (P+1) st7 wt false F'∧Step F7 w7 F' wr) (λv _=>P - (intOf v).toNat)
 case atStart=>exact⟨0,F7,[],oQ,rfl,rfl,sQ,HD7.o,Step.refl _ _⟩
 case round=>
  obtain⟨k,F',wt,hk,rfl,Lx,hwe,hD,hS⟩:=hrel;have Vf:=U hD;have HSk:=U hS;have Hwe:=U hwe;have Hwl:=U Lx;by_cases hkP:k<P
  ·have UW:(k:Int)+1=((k+1:Nat):Int):=oQ
   have Hpc:=U UW;clear hD hS hwe Lx UW;go_wp2_with fail;rw[Hpc.o];refine(w_ (n:=P+1) (F:=F') wr d (k+1) (some ⟨eb,0,none⟩) 512 oQ Hlz.o (at0.o.step HSk.o) Vf.o.lt).mono ?_;rintro e w8 ⟨d0,d1,d2,rfl,hx8,xE⟩;have amX:(Stp.wr d0 d1 d2 (k+1) (some ⟨eb,0,none⟩) 512 (zeros 512)).val d=.func (.func 115) #[] #[.pointer (some ⟨d0,0,none⟩),.pointer (some ⟨d1,0,none⟩),.pointer (some ⟨d2,0,none⟩)]:=rfl;rw[amX];have Yh:=U xE;have Hx8:=U hx8;clear hx8 amX xE;go_wp2_with fail;obtain⟨w9,CY⟩:∃w9,w8.alloc (.cells #[.func (.func 115) #[] #[.pointer (some ⟨d0,0,none⟩),.pointer (some ⟨d1,0,none⟩),.pointer (some ⟨d2,0,none⟩)]] 68)=w9:=⟨_,rfl⟩
   have jf:Below w8.heap.size w8 w9:=by rw[←CY];exact(zn _ _).alloc (zm _) _
   have hV9:ah w9 w8.heap.size 68 ([Stp.wr d0 d1 d2 (k+1) (some ⟨eb,0,none⟩) 512 (zeros 512)].map (Stp.val d)):=by rw[←CY];exact ah.new w8 _ _
   rw[CY];clear CY;have UK:=U (Yh.o.trans (jf.mono Yh.o.size));have hz8:=Yh.o.size;refine(yD (Vf.o.step (Step.of_below UK.o (λ_=>False)) (λ_ _ h=>h)) w8.heap.size 1 [Stp.wr d0 d1 d2 (k+1) (some ⟨eb,0,none⟩) 512 (zeros 512)] rfl oQ (by have:=Hwl.o;omega) (λe he=>(Hwe.o e he).1) hV9 (λh=>by have:=Vf.o.lt _ h;omega) (λx hx=>?_)).mono ?_
   ·rw[zV.1 hx]
    exact Stp.CX Hx8.o (Step.of_below jf F')
   rintro e Af ⟨⟨v,rfl⟩,F10,amY,ZU⟩;have at5:Hid (Dev Af d (P+1) st7 (wt++[(k+1,zeros 512)]) false F10):=U amY;have ain:=U ((HSk.o.trans (Step.of_below UK.o F')).trans ZU);clear amY ZU jf hV9;go_wp2_with fail;refine⟨⟨k+1,F10,_,oQ,by go_num,by rw[zw,Hwl.o];rfl,λe he=>?_,at5.o,ain.o⟩,by simp[intOf];omega⟩;rcases qg.1 he with he|he
   ·exact Hwe.o e he
   ·rw[zV.1 he]
    exact⟨by show k+1<P+1;omega,rfl⟩
  ·obtain rfl:k=P:=oQ
   have hVr:=XW.o.step hS tq;have c0:=hVr.cell 0;have c1:=hVr.cell 1;simp only[zf,zi] at c0 c1;have HVr:=U hVr;clear hD hS hwe Lx hVr;go_wp2_with fail;have hT7:Md.bG wr:=bG.step (bG.step HT.o ((Step.of_below jD.o F).trans Kh.o) hTF) HSk.o (((Step.of_below jD.o F).trans Kh.o).apart (zq w _ (HT.o 0)) hTF);refine(DT HG.o wr hT7).mono ?_;rintro e w8 ⟨A,cA,rfl,hlA,hoA,xE⟩;have amZ:=hoA.pR;have at6:=U amZ;have Yh:=U xE;clear hoA amZ xE hT7;go_wp2_with fail;refine(w_ (n:=k+1) (F:=F') w8 d 0 A cA oQ hlA at6.o (λq hq=>zx (Vf.o.lt q hq) Yh.o.size)).mono ?_;rintro e w9 ⟨d0,d1,d2,rfl,hx9,jf⟩;have am0:(Stp.wr d0 d1 d2 0 A cA (eG B k)).val d=.func (.func 115) #[] #[.pointer (some ⟨d0,0,none⟩),.pointer (some ⟨d1,0,none⟩),.pointer (some ⟨d2,0,none⟩)]:=rfl;rw[am0];have UK:=U (Yh.o.trans (jf.mono Yh.o.size));have Hx9:=U hx9;clear hx9 am0 jf;go_wp2_with fail;obtain⟨Af,Kr⟩:∃Af,w9.alloc (.cells #[.func (.func 53) #[.pointer (some ⟨d,0,none⟩)] #[],.func (.func 115) #[] #[.pointer (some ⟨d0,0,none⟩),.pointer (some ⟨d1,0,none⟩),.pointer (some ⟨d2,0,none⟩)],.func (.func 53) #[.pointer (some ⟨d,0,none⟩)] #[]] 68)=Af:=⟨_,rfl⟩
   have VB:Below w9.heap.size w9 Af:=by rw[←Kr];exact(zn _ _).alloc (zm _) _
   have QI:ah Af w9.heap.size 68 ([Stp.fl,Stp.wr d0 d1 d2 0 A cA (eG B k),Stp.fl].map (Stp.val d)):=by rw[←Kr];exact ah.new w9 _ _
   rw[Kr];clear Kr;have Vw:=U (UK.o.trans (VB.mono UK.o.size));have hz9:=UK.o.size;refine(yD (Vf.o.step (Step.of_below Vw.o (λ_=>False)) (λ_ _ h=>h)) w9.heap.size 3 [Stp.fl,Stp.wr d0 d1 d2 0 A cA (eG B k),Stp.fl] rfl oQ (by have:=Hwl.o;omega) (λe he=>(Hwe.o e he).1) QI (λh=>by have:=Vf.o.lt _ h;omega) (λx hx=>?_)).mono ?_
   ·simp only[zH,zO,or_false] at hx
    rcases hx with rfl|rfl|rfl
    ·trivial
    ·exact Stp.CX Hx9.o (Step.of_below VB F')
    ·trivial
   rintro e vG ⟨⟨v,rfl⟩,F11,aip,Nk⟩;obtain⟨aec,agm,wS,Bq⟩:∃aec:Nat→Bytes,(List.foldl Stp.go (st7,wt) [Stp.fl,Stp.wr d0 d1 d2 0 A cA (eG B k),Stp.fl])=(aec,[])∧aec 0=eG B k∧∀i,aec (i+1)=zeros 512:=by
    refine⟨_,rfl,?_,λi=>?_⟩
    ·show view (view st7 wt) ([]++[(0,eG B k)]) 0=_
     rw[mE,if_pos rfl]
    ·show view (view st7 wt) ([]++[(0,eG B k)]) (i+1)=_
     rw[mE,if_neg oQ];exact ZT Hz7.o (λe he=>(Hwe.o e he).2) (i+1)
   rw[agm] at aip;have Nq:=U (((HSk.o).trans (Step.of_below Vw.o F')).trans Nk);have at7:=U aip;have Hs0:=U wS;have Hsp:=U Bq;have P8:=U ((HVr.o.below Vw.o).step Nk (HSk.o.apart hg7 tq));have adz:w.heap.size+2<vG.heap.size:=by have:=Nq.o.size;omega
   clear agm aip wS Bq VB QI Nk c0 c1;obtain⟨w12,fC,aiq,Kt,AQ⟩:=kN (w:=vG) CP .i64 .i64 B oQ oQ;rw[tY] at aiq;have am3:=U aiq;have aed:=U Kt;clear aiq Kt;obtain⟨ab,hab⟩:∃ab,vG.heap.size=ab:=⟨_,rfl⟩
   rw[hab] at fC am3 AQ;go_wp2_with fail;clear fC;have Hab:=U hab;clear hab;go_loopw [57] (λv wr=>∃(i:Nat),i≤B∧v=.int .i64 i∧ah wr ab 3 (dA (gW B i))∧Below vG.heap.size vG wr) (λv _=>B - (intOf v).toNat)
   case atStart=>exact⟨0,oQ,rfl,am3.o,aed.o⟩
   case round=>
    obtain⟨i,hi,rfl,hR,hBi⟩:=hrel;have R:=U hR;have HBi:=U hBi;by_cases hiB:i<B
    ·have dj:=hR.cell i
     rw[bW,jX hiB,qA] at dj;have fj:=hR.free i;have Gq:ah (wr.setCell ⟨ab,i,none⟩ (.int .i64 (-1))) ab 3 (dA (gW B (i+1))):=by rw[←wM hiB];exact hR.aB i _
     have R2':=U Gq;have PO:=U (hBi.setCell (p:=⟨ab,i,none⟩) (Yx Hab.o) (.int .i64 (-1)));clear hR hBi Gq;go_wp2_with fail;exact⟨⟨i+1,oQ,by go_num,R2'.o,PO.o⟩,by simp[intOf];omega⟩
    ·obtain rfl:i=B:=oQ
     have hVg:=P8.o.below hBi;have c0:=hVg.cell 0;have c1:=hVg.cell 1;simp only[zf,zi] at c0 c1;clear hR hBi;go_wp2_with fail;have air:=at7.o.step (Step.of_below HBi.o (λ_=>False)) (λ_ _ h=>h);have hr5:=HG.o.r;have Ki:=HG.o.s;have am4:Zy k i 1 1 0 0 0 (λ_=>none):=⟨oQ,oQ,oQ,oQ,oQ,oQ,oQ,λq p _ h=>(by cases h),λq r p _ _ h=>(by cases h),λq p _ h=>(by cases h)⟩
     have hA0:ah wr ab 3 (Ye i (λ_=>none)):=by
      have:=R.o;rw[wN] at this;exact this
     refine(IX am4 oQ hA0 air).mono ?_;rintro e S9 ⟨sp,j,r,rb,t,pb,ob,g,rfl,hO⟩;have hh:(Gd i k).head=0:=by
      show pos k 0 0=0;unfold pos
      split<;>omega
     have hO':Ew wr S9 d sp (Gd i k).B (Gd i k).P (Gd i k).epoch (Gd i k).start (Gd i k).seq (Gd i k).head (Gd i k).used (Gd i k).at_ j r rb t pb ob g:=by
      rw[hh];exact hO
     obtain⟨F13,VD,Ey⟩:=hO'.p9 (C:=λ_=>zeros 480) rfl air (aij HG.o) (λp hp=>by rw[oN,Hsp.o];rfl) (by rw[oN,Hs0.o];rfl) (λq=>by
      cases q with
      |zero=>rw[Hs0.o];exact wP _ _
      |succ q=>rw[Hsp.o];exact Hlz.o) ⟨sQ,sQ⟩ HG.o true (λ_=>rfl)
     have IZ:Step F w1 F13 S9:=((Kh.o.trans Nq.o).trans (Step.of_below HBi.o F11)).trans Ey;have Pp:∀q,w.heap.size≤q→¬F q:=λq hq h=>by have:=HF.o q h;omega
     have vU:=R0.o.step IZ (Pp _ (zm _));have jY:=R1.o.step IZ (Pp _ oQ);have AU:w.heap.size+1<w1.heap.size:=R1.o.lt;have n0:¬F13 w.heap.size:=IZ.apart oQ (Pp _ (zm _));have n1:¬F13 (w.heap.size+1):=IZ.apart oQ (Pp _ oQ);have q0:=vU.cell 0;have q1:=jY.cell 0;have f0:=vU.free 0;have f1:=jY.free 0;simp only[zf] at q0 q1;have ais:=U VD;have ZV:=U ((Step.of_below jD.o F).trans IZ);have HR0:=U vU;have X7:=U jY;clear air am4 hA0 hO hh hO' VD Ey IZ vU jY c0 c1 hr5 Ki;go_wp2_with fail;have s1:Step (· =w.heap.size) S9 (· =w.heap.size) (S9.setCell ⟨w.heap.size,0,none⟩ (.pointer (some ⟨sp,0,none⟩))):=Step.set1 (HR0.o.aV dQ) _ _;have t0:ah (S9.setCell ⟨w.heap.size,0,none⟩ (.pointer (some ⟨sp,0,none⟩))) w.heap.size 76 [.pointer (some ⟨sp,0,none⟩)]:=HR0.o.aB 0 _;have t1:=X7.o.step s1 oQ;have s2:Step (· =w.heap.size+1) (S9.setCell ⟨w.heap.size,0,none⟩ (.pointer (some ⟨sp,0,none⟩))) (· =w.heap.size+1) ((S9.setCell ⟨w.heap.size,0,none⟩ (.pointer (some ⟨sp,0,none⟩))).setCell ⟨w.heap.size+1,0,none⟩ (.int .i64 0)):=Step.set1 (t1.aV dQ) _ _;have u0:=t0.step s2 oQ;have u1:ah ((S9.setCell ⟨w.heap.size,0,none⟩ (.pointer (some ⟨sp,0,none⟩))).setCell ⟨w.heap.size+1,0,none⟩ (.int .i64 0)) (w.heap.size+1) 26 [.int .i64 0]:=t1.aB 0 _;obtain⟨wf,Bu⟩:∃wf,((S9.setCell ⟨w.heap.size,0,none⟩ (.pointer (some ⟨sp,0,none⟩))).setCell ⟨w.heap.size+1,0,none⟩ (.int .i64 0))=wf:=⟨_,rfl⟩
     rw[Bu] at s2 u0 u1 ⊢
     have mZ:lW wf sp d (Gd i k) (λ_=>zeros 480) true F13∧Step F w F13 wf:=
      ⟨(ais.o.step s1 (λq hq=>by rintro rfl;exact n0 hq)).step s2 (λq hq=>by rintro rfl;exact n1 hq),(ZV.o.inner s1 (λq hq=>.inr (Yx hq.symm))).inner s2 (λq hq=>.inr oQ)⟩
     have Gy:=U mZ;have d0:=u0.cell 0;have d1:=u1.cell 0;simp only[zf] at d0 d1;clear mZ s1 s2 t0 t1 u0 u1 Bu q0 q1 f0 f1;refine leaves_cons (f:=46) (args:=#[.pointer (some ⟨w.heap.size,0,none⟩),.pointer (some ⟨w.heap.size+1,0,none⟩)]) sQ (by simp[go_sem]) ?_;refine(aik ⟨w.heap.size,0,none⟩ ⟨w.heap.size+1,0,none⟩ _).mono ?_;rintro e u' w'' ⟨rfl,rfl,rfl⟩;simp[Leaves,settle,results,Tryz.results28,go_sem,d0,d1];exact⟨F13,Gy.o⟩
end
theorem BK.one (w:World) (id:Nat) (a:Option Addr) (c:Nat) {l:Bytes} (hl:l.length=480) (hb:cZ w a l):BK (w.alloc (.cells #[.int .i64 id,.slice a 480 c] 176)) w.heap.size [(id,l)]:=by
 refine⟨_,_,heap_alloc_new w _,λi hi=>?_⟩;obtain rfl:i=0:=by simpa using hi
 exact⟨rfl,a,c,rfl,hl,hb.below ((zn _ _).alloc (zm _) _)⟩
theorem VE (C:Nat→Bytes) (id:Nat):dW C [(id,C id)]=C:=by
 funext i;unfold dW;by_cases h:id=i
 ·subst h;simp
 ·simp[h]
section
variable {w:World} {d B P:Nat} {st:Nat→Bytes} {wt:Wt} {F:Nat→Prop}
theorem VF (hD:Dev w d (P+1) st wt false F) (hg:Geo B P) (hlen:∀k,(st k).length=512) (GA:view st wt 0=eG B P) (hT:Md.bG w) (hTF:¬F 0):
  Calls Tryz.prog 112 #[.pointer (some ⟨d,0,none⟩)] w λe w'=>e=.returned (Gu B P)∧Dev w' d (P+1) st wt false F∧Step F w F w':=by
 have jL:=hD.lt;have hs:=hg.s;have HG:=U hg;have HD:=U hD;have HT:=U hT;have HF:=U jL;have HL:=U hlen;have HS:=U GA;clear hD hT jL hg hlen GA;go_enter Tryz.func112,Tryz.ntmps112;go_wp2_with fail;obtain⟨w1,aP⟩:∃w1,w.alloc (.cells #[.int .i64 0,.int .i64 0] 109)=w1:=⟨_,rfl⟩
 have aF:Below w.heap.size w w1:=by rw[←aP];exact(zn _ _).alloc (zm _) _
 have Kl:ah w1 w.heap.size 109 [.int .i64 0,.int .i64 0]:=by rw[←aP];exact ah.new w _ _
 rw[aP];clear aP;refine(BG (HD.o.step (Step.of_below aF (λ_=>False)) (λ_ _ h=>h)) 0 oQ HL.o).mono ?_;rintro e w2 ⟨⟨g,rfl,dO⟩,hD2,bV⟩;rw[HS.o] at dO;have HD2:=U hD2;have LA:=U ((Step.of_below aF F).trans bV);have pU:=U dO;have Yd:=U (Kl.step bV (λh=>by have:=HF.o _ h;omega));clear aF Kl dO hD2 bV;go_wp2_with fail;refine(P_ HG.o w2 (bG.step HT.o LA.o hTF) pU.o.is (zm _)).mono ?_;rintro e w3 ⟨rfl,bf⟩;have HD3:=U (HD2.o.step (Step.of_below bf (λ_=>False)) (λ_ _ h=>h));have sU:=U (LA.o.trans (Step.of_below bf F));have HV3:=U (Yd.o.below bf);clear bf;go_wp2_with fail;obtain⟨w4,gH⟩:∃w4,w3.alloc (.cells #[.int .i64 B,.int .i64 P] 109)=w4:=⟨_,rfl⟩
 have dX:Below w3.heap.size w3 w4:=by rw[←gH];exact(zn _ _).alloc (zm _) _
 have Ke:ah w4 w3.heap.size 109 [.int .i64 B,.int .i64 P]:=by rw[←gH];exact ah.new w3 _ _
 have g0:=Ke.cell 0;have g1:=Ke.cell 1;have M4:=U (HD3.o.step (Step.of_below dX (λ_=>False)) (λ_ _ h=>h));have JM:=U (sU.o.trans (Step.of_below dX F));have Tx:=U (HV3.o.below dX);have r0:=Tx.o.cell 0;have r1:=Tx.o.cell 1;have k0:=Tx.o.free 0;have k1:=Tx.o.free 1;simp only[zf,zi] at g0 g1 r0 r1;have fA:IntKind.i64.wrap (((P+1:Nat):Int) - 1)=(P:Int):=by rw[zG];omega
 have X_:IntKind.i64.wrap (P:Int)=(P:Int):=by rw[zG];omega
 rw[gH];clear gH dX Ke;refine wp_region_noPanic ?_;refine ak (S:=(λW=>W.cell? ⟨w3.heap.size,1,none⟩=some (.int .i64 P))) (m:=10) kQ g1 (λaj=>?_);refine te 0 aj ?_;refine te 1 aj ?_;refine te 2 aj ?_;refine te 3 aj ?_;refine te 4 aj ?_;refine te 5 aj ?_;refine rE 6 λK hK=>?_;go_simp;with_reducible refine(kK (M4.o.step (Step.drew (λ_=>False) _) (λ_ _ h=>h))).mono ?_
 rintro e w2 ⟨rfl,rfl⟩;go_wp2_with fail;refine hK.out _ _ (λ_=>g1) (λhS=>?_);have bQ:=hS dQ;clear hS hK K
 try simp only[Act.put,zh,zk,zl]
 refine te 7 bQ ?_;refine te 8 bQ ?_;refine te 9 bQ ?_;refine aD ?_;clear fA X_;go_wp2_with fail;have t0:Step (· =w.heap.size) w4 (· =w.heap.size) (w4.setCell ⟨w.heap.size,0,none⟩ (.int .i64 B)):=Step.set1 (Tx.o.aV dQ) _ _;have u0:=Tx.o.aB 0 (.int .i64 B);have t1:=t0.trans (Step.set1 (u0.aV dQ) 1 (.int .i64 P));have u1:=u0.aB 1 (.int .i64 P);simp only[zk,zl] at u1;have Cv:¬F w.heap.size:=λh=>by have:=HF.o _ h;omega
 have t2:=t1.trans (Step.drew (· =w.heap.size) _);have u2:ah ((w4.setCell ⟨w.heap.size,0,none⟩ (.int .i64 B)).setCell ⟨w.heap.size,1,none⟩ (.int .i64 P)).drew w.heap.size 109 [.int .i64 B,.int .i64 P]:=u1;exact bodyPost_ret (v:=Gu B P) (dN rfl rfl u2 Tryz.underlying109 rfl kQ) rfl ⟨rfl,M4.o.step t2 (λk hk=>by rintro rfl;exact Cv hk),JM.o.inner t2 (λk hk=>.inr (Yx hk.symm))⟩
end
theorem aee (p q:Addr) (w:World):
  CallsD Tryz.prog 111 #[.pointer (some p),.pointer (some q)] .returning w λe u' w'=>e=.returned (.tuple #[])∧u'=.returning∧w'=w:=by
 refine callsD_of_wpS Tryz.func111 rfl λc₀ cs hu=>?_;apply wpS_seq;apply wpS_region;simp[wpOpsS,go_sem,recoverD,hu,Tryz.ntmps111,Exit.thenS];apply wpS_seq;apply wpS_region;simp[wpOpsS,go_sem,Array.replicate,Act.eval,Exit.thenS];refine wpS_cond (t:=false) (by simp[Act.eval,Array.replicate]) ?_;simp only[zab,if_false];refine wpS_of_wp (wp_skip ?_);cases c₀;simp_all[bodyPostS,results,Tryz.results111]
theorem GD {w:World} {d n:Nat} {st:Nat→Bytes} {F:Nat→Prop} (h:Dev w d n st [] false F) (vb:Nat) (hV:ah w vb 68 [.func (.func 53) #[.pointer (some ⟨d,0,none⟩)] #[]]) (Vy:¬F vb):
  Calls Tryz.prog 51 #[.slice (some ⟨vb,0,none⟩) 1 1] w λe w'=>(∃v,e=.returned v)∧∃F',Dev w' d n st [] false F'∧Step F w F' w':=
 yD h vb 1 [Stp.fl] rfl oQ sQ sQ hV Vy (λx hx=>by rw[zV.1 hx];trivial)
theorem rD.aua {s:JS} {C:Nat→Bytes} (h:rD s C) (hg:Geo s.B s.P) (hq:s.seq<1000000):Zy s.P s.B 2 (s.seq+1) s.seq s.head s.us s.at_:=by
 have hu:=h.used;have h2:=h.Nc;have hb:=hg.b;have hs:=hg.s;have dw:∀i p,s.at_ i=some p→∃k,idx s.Q i=some k∧p=s.pl k:=λi p hp=>by
  unfold JS.at_ at hp;rcases hx:idx s.Q i with _|k
  ·rw[hx] at hp;cases hp
  ·rw[hx] at hp
   injection hp with hp;exact⟨k,rfl,hp.symm⟩
 refine⟨oQ,oQ,oQ,dz h.tail hu,oQ,oQ,oQ,λi p _ hp=>?_,λi k p _ _ hi hk=>?_,λi p hi hp=>?_⟩
 ·obtain⟨k,hk,rfl⟩:=dw i p hp
  have:=fK hk;exact dz h.tail oQ
 ·obtain⟨x,hx,h3⟩:=dw i p hi
  obtain⟨y,hy,h4⟩:=dw k p hk;have hxl:=fK hx;have Nr:=fK hy;have:=rC (P:=s.P) (t:=s.tail) (i:=x) (j:=y) oQ oQ (h3.symm.trans h4);subst this;exact ade hx hy
 ·exact QB (P:=s.P) (hd:=s.head) (A:=s.at_) s.B i p hi hp
section
variable {w:World} {d:Nat} {s:JS} {C:Nat→Bytes} {st:Nat→Bytes} {F:Nat→Prop}
theorem QJ (hD:Dev w d (s.P+1) st [] false F) (rU:rD s C) (hy:yB s) (uf:1≤s.seq) (IL:s.seq<1000000) (hg:Geo s.B s.P) (hlen:∀k,(st k).length=512) (hv:∀p,p<s.P→st (p+1)=encS (s.sec p)) (GA:st 0=eG s.B s.P) (hT:Md.bG w) (hTF:¬F 0):
  Calls Tryz.prog 42 #[.pointer (some ⟨d,0,none⟩)] w λe w'=>∃(sp:Nat) (F':Nat→Prop),e=.returned (.tuple #[.pointer (some ⟨sp,0,none⟩),.int .i64 0])∧lW w' sp d (s.mount.batch C [(0,C 0)]) C true F'∧Step F w F' w':=by
 have hmf:∀(fn:Fn) (first cap:Array Value) (w:World),(Instr.makeFunc fn first cap).run Tryz.prog w=.ok (.func fn first cap) w:=λ_ _ _ _=>rfl;have jL:=hD.lt;have hb:=hg.b;have hs:=hg.s;have HG:=U hg;have HD:=U hD;have HT:=U hT;have HF:=U jL;have HO:=U rU;have HY:=U hy;have HL:=U hlen;have HV:=U hv;have am7:=U GA;clear hD hT jL hg rU hy hlen hv GA;go_enter_defers Tryz.func42,Tryz.ntmps42;go_wp2_with fail;obtain⟨w1,aP⟩:∃w1,((w.alloc (.cells #[.pointer none] 76)).alloc (.cells #[.int .i64 0] 26)).alloc (.cells #[.func (.func 53) #[.pointer (some ⟨d,0,none⟩)] #[]] 68)=w1:=⟨_,rfl⟩
 obtain⟨aM,aF,hz1⟩:=boxes [([.pointer none],76),([.int .i64 0],26),([.func (.func 53) #[.pointer (some ⟨d,0,none⟩)] #[]],68)] w w1 aP;have r0:ah w1 w.heap.size 76 [.pointer none]:=aM 0 _ rfl;have r1:ah w1 (w.heap.size+1) 26 [.int .i64 0]:=aM 1 _ rfl;have r2:ah w1 (w.heap.size+2) 68 [.func (.func 53) #[.pointer (some ⟨d,0,none⟩)] #[]]:=aM 2 _ rfl;have VA:w1.heap.size=w.heap.size+3:=by simpa using hz1
 have Pp:∀q,w.heap.size≤q→¬F q:=λq hq h=>by have:=HF.o q h;omega
 have HFn:=U Pp;rw[aP];have R0:=U r0;have R1:=U r1;have jD:=U aF;have M0:=U (HD.o.step (Step.of_below aF (λ_=>False)) (λ_ _ h=>h));clear aP aM aF r0 r1 hz1 Pp;refine(GD M0.o (w.heap.size+2) r2 (HFn.o _ oQ)).mono ?_;rintro e w2 ⟨⟨v,rfl⟩,F2,hD2,bV⟩;have HD2:=U hD2;have LA:=U bV;have iY:=U (bG.step HT.o ((Step.of_below jD.o F).trans bV) hTF);have aub:¬F2 0:=((Step.of_below jD.o F).trans bV).apart (zq w _ (HT.o 0)) hTF;clear hD2 bV r2;go_wp2_with fail;refine(VF HD2.o HG.o HL.o (by rw[oN];exact am7.o) iY.o aub).mono ?_;rintro e w3 ⟨rfl,hD3,jd⟩;have HD3:=U hD3;have sU:=U (LA.o.trans jd);clear hD3 jd;go_wp2_with fail;obtain⟨w4,gH⟩:∃w4,w3.alloc (.cells #[.int .i64 s.B,.int .i64 s.P] 109)=w4:=⟨_,rfl⟩
 have dX:Below w3.heap.size w3 w4:=by rw[←gH];exact(zn _ _).alloc (zm _) _
 have Ke:ah w4 w3.heap.size 109 [.int .i64 s.B,.int .i64 s.P]:=by rw[←gH];exact ah.new w3 _ _
 obtain⟨gb,Pm⟩:∃gb,w3.heap.size=gb:=⟨_,rfl⟩
 have tq:¬F2 gb:=λh=>by have:=HD3.o.lt _ h;omega
 have M4:=U (HD3.o.step (Step.of_below dX (λ_=>False)) (λ_ _ h=>h));have JM:=U (sU.o.trans (Step.of_below dX F2));have Tx:=U Ke;rw[gH,Pm];rw[Pm] at Tx;clear gH Pm dX Ke;refine(Vu M4.o HL.o (λp hp=>by rw[oN];exact HV.o p hp) HO.o HY.o uf IL HG.o).mono ?_;rintro e w5 ⟨⟨ab,rfl,VG,aCx⟩,hD5,uN⟩;have HD5:=U hD5;have xJ:=U (JM.o.trans uN);have HV5:=U (Tx.o.step uN tq);have Yj:=U VG;clear VG hD5 uN;go_wp2_with fail;obtain⟨w6,yC⟩:∃w6,w5.alloc (.cells #[.int .u32 2,.int .u64 ((s.seq:Int)+1),.int .u64 s.seq,.int .i64 s.head,.int .i64 s.us,.slice (some ⟨ab,0,none⟩) s.B s.B] 118)=w6:=⟨_,rfl⟩
 have lu:Below w5.heap.size w5 w6:=by rw[←yC];exact(zn _ _).alloc (zm _) _
 have lT:ah w6 w5.heap.size 118 [.int .u32 2,.int .u64 ((s.seq:Int)+1),.int .u64 s.seq,.int .i64 s.head,.int .i64 s.us,.slice (some ⟨ab,0,none⟩) s.B s.B]:=by rw[←yC];exact ah.new w5 _ _
 have hg6:=HV5.o.below lu;have i0:=lT.cell 0;have i1:=lT.cell 1;have i2:=lT.cell 2;have i3:=lT.cell 3;have i4:=lT.cell 4;have i5:=lT.cell 5;have g0:=hg6.cell 0;have g1:=hg6.cell 1;simp only[zf,zi] at i0 i1 i2 i3 i4 i5 g0 g1;rw[yC];have HD6:=U (HD5.o.step (Step.of_below lu (λ_=>False)) (λ_ _ h=>h));have HS6:=U (xJ.o.trans (Step.of_below lu F2));have HA6:=U (Yj.o.below lu);clear yC lu lT hg6;refine(oW w6).mono ?_;rintro e w7 ⟨⟨v,rfl⟩,rfl⟩;go_wp2_with fail;clear i0 i1 i2 i3 i4 i5 g0 g1;have hP1:1≤s.P:=by have:=HG.o.r;omega
 refine(IX (HO.o.aua HG.o IL) hP1 HA6.o HD6.o).mono ?_;rintro e w7 ⟨sp,j,r,rb,t,pb,ob,g,rfl,hOp⟩;have hO':Ew w6 w7 d sp s.mount.B s.mount.P s.mount.epoch s.mount.start s.mount.seq s.mount.head s.mount.used s.mount.at_ j r rb t pb ob g:=by
  rw[HO.o.QH,HO.o.wZ,show s.mount.at_=s.at_ from funext HO.o.ZP];exact hOp
 obtain⟨F7,VD,uQ⟩:=hO'.p9 (C:=C) rfl HD6.o HO.o.mount (λp hp=>by rw[oN];exact HV.o p hp) (by rw[oN];exact am7.o) HL.o ⟨sQ,sQ⟩ HG.o true (λ_=>rfl);obtain⟨j',cj,_,_⟩:=VD.cell0;have ais:=U VD;have Kh:=U (HS6.o.trans uQ);clear hOp hO' VD uQ;go_wp2_with fail;refine(Vx ais.o cj 0 (by show 0<s.B;omega)).mono ?_;rintro e w8 ⟨⟨ra,rc,rfl,hb8⟩,F8,agq,Tz⟩;have Yh:=U hb8;have ZW:=U agq;have HS8:=U (Kh.o.trans Tz);clear hb8 agq Tz cj;go_wp2_with fail;refine(oW w8).mono ?_;rintro e w' ⟨⟨v,rfl⟩,rfl⟩;obtain⟨j8,cj8,_,_⟩:=ZW.o.cell0;go_wp2_with fail;have hC0:(C 0).length=480:=HO.o.len 0;have HW:=BK.one w8 0 ra rc hC0 Yh.o;obtain⟨w9,CY⟩:∃w9,w8.alloc (.cells #[.int .i64 (0:Nat),.slice ra 480 rc] 176)=w9:=⟨_,rfl⟩
 have jf:Below w8.heap.size w8 w9:=by rw[←CY];exact(zn _ _).alloc (zm _) _
 rw[CY] at HW;rw[show(Value.int IntKind.i64 0)=.int .i64 ((0:Nat):Int) from rfl,CY];have cj9:w9.cell? ⟨sp,0,none⟩=some (.pointer (some ⟨j8,0,none⟩)):=by
  rw[←cj8];exact jf.cell (zq w8 _ cj8)
 have lJ:¬F8 w8.heap.size:=λh=>by have:=ZW.o.lt _ h;omega
 have am8:=U (ZW.o.below jf);have HS9:=U (HS8.o.trans (Step.of_below jf F8));clear CY jf cj8 hC0;refine(Nl am8.o cj9 HW lJ rfl (zm _) (by show 1≤24;decide) sQ (λe he=>by rw[zV.1 he];show 0<s.B;omega) (by show s.seq<iQ;unfold iQ;omega)).mono ?_;rintro e Af ⟨rfl,F10,QK,ZU⟩;rw[VE] at QK;have ait:=U QK;have ain:=U (HS9.o.trans ZU);clear QK ZU cj9 lJ HW;go_wp2_with fail;refine(oW Af).mono ?_;rintro e w' ⟨⟨v,rfl⟩,rfl⟩;go_wp2_with fail;refine(IW ait.o).mono ?_;rintro e vG ⟨rfl,F11,ZX,Nk⟩;have aiu:=U ZX;have Nq:=U (ain.o.trans Nk);clear ZX Nk;go_wp2_with fail;refine(oW vG).mono ?_;rintro e w' ⟨⟨v,rfl⟩,rfl⟩;have Pp:∀q,w.heap.size≤q→¬F q:=λq hq h=>by have:=HF.o q h;omega
 have vU:=R0.o.step Nq.o (Pp _ (zm _));have jY:=R1.o.step Nq.o (Pp _ oQ);have AU:w.heap.size+1<w1.heap.size:=R1.o.lt;have n0:¬F11 w.heap.size:=Nq.o.apart oQ (Pp _ (zm _));have n1:¬F11 (w.heap.size+1):=Nq.o.apart oQ (Pp _ oQ);have q0:=vU.cell 0;have q1:=jY.cell 0;have f0:=vU.free 0;have f1:=jY.free 0;simp only[zf] at q0 q1;have HR0:=U vU;have X7:=U jY;have ZV:=U ((Step.of_below jD.o F).trans Nq.o);clear vU jY;go_wp2_with fail;have s1:Step (· =w.heap.size) vG (· =w.heap.size) (vG.setCell ⟨w.heap.size,0,none⟩ (.pointer (some ⟨sp,0,none⟩))):=Step.set1 (HR0.o.aV dQ) _ _;have t0:ah (vG.setCell ⟨w.heap.size,0,none⟩ (.pointer (some ⟨sp,0,none⟩))) w.heap.size 76 [.pointer (some ⟨sp,0,none⟩)]:=HR0.o.aB 0 _;have t1:=X7.o.step s1 oQ;have s2:Step (· =w.heap.size+1) (vG.setCell ⟨w.heap.size,0,none⟩ (.pointer (some ⟨sp,0,none⟩))) (· =w.heap.size+1) ((vG.setCell ⟨w.heap.size,0,none⟩ (.pointer (some ⟨sp,0,none⟩))).setCell ⟨w.heap.size+1,0,none⟩ (.int .i64 0)):=Step.set1 (t1.aV dQ) _ _;have u0:=t0.step s2 oQ;have u1:ah ((vG.setCell ⟨w.heap.size,0,none⟩ (.pointer (some ⟨sp,0,none⟩))).setCell ⟨w.heap.size+1,0,none⟩ (.int .i64 0)) (w.heap.size+1) 26 [.int .i64 0]:=t1.aB 0 _;obtain⟨wf,Bu⟩:∃wf,((vG.setCell ⟨w.heap.size,0,none⟩ (.pointer (some ⟨sp,0,none⟩))).setCell ⟨w.heap.size+1,0,none⟩ (.int .i64 0))=wf:=⟨_,rfl⟩
 rw[Bu] at s2 u0 u1 ⊢
 have mZ:lW wf sp d (s.mount.batch C [(0,C 0)]) C true F11∧Step F w F11 wf:=
  ⟨(aiu.o.step s1 (λq hq=>by rintro rfl;exact n0 hq)).step s2 (λq hq=>by rintro rfl;exact n1 hq),(ZV.o.inner s1 (λq hq=>.inr (Yx hq.symm))).inner s2 (λq hq=>.inr oQ)⟩
 have Gy:=U mZ;have d0:=u0.cell 0;have d1:=u1.cell 0;simp only[zf] at d0 d1;clear mZ s1 s2 t0 t1 u0 u1 Bu q0 q1 f0 f1;refine leaves_cons (f:=111) (args:=#[.pointer (some ⟨w.heap.size,0,none⟩),.pointer (some ⟨w.heap.size+1,0,none⟩)]) sQ (by simp[go_sem]) ?_;refine(aee ⟨w.heap.size,0,none⟩ ⟨w.heap.size+1,0,none⟩ _).mono ?_;rintro e u' w'' ⟨rfl,rfl,rfl⟩;simp[Leaves,settle,results,Tryz.results42,go_sem,d0,d1];exact⟨F11,Gy.o⟩
end
end
end Go.Proofs.YtdjdpeadohobmaaGreatDoor
