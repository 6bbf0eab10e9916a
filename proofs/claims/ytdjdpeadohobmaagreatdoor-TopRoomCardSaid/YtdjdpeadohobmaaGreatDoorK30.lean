/- A part of the walk below the law: what is proved here is used by later parts; no further condition. -/
import Derived.Test.YtdjdpeadohobmaaGreatDoorK29
set_option linter.unusedVariables false
set_option linter.unusedSimpArgs false
set_option maxRecDepth 100000
set_option maxHeartbeats 20000000
namespace Go.Proofs.YtdjdpeadohobmaaGreatDoor
section
open Go.RowKit Go.Shelf Go.Maps O
attribute [local go_sem] Oper.semAt_some
theorem NQ (p q:Addr) (w:World):
  CallsD Tryz.prog 209 #[.pointer (some p),.pointer (some q)] .returning w λe u' w'=>e=.returned (.tuple #[])∧u'=.returning∧Below w.heap.size w w':=by
 refine callsD_of_wpS Tryz.func209 rfl λc₀ cs hu=>?_;apply wpS_seq;refine wpS_of_wp (lK λQ' rF=>?_);have HQ:=U rF;clear rF;simp only[Tryz.ntmps209,zQ,zA,zN,Nat.reduceAdd,Nat.reduceSub,zJ,zK,zT,zM,zB,zU];go_wp2_with fail;rw[HQ.o];simp only[Exit.thenS];apply wpS_seq;apply wpS_region;simp[wpOpsS,go_sem,Act.eval,recoverD,hu,Exit.thenS];refine wpS_of_wp (lK λQ' rF=>?_);have UO:=U rF;clear rF;go_wp2_with fail;rw[UO.o];cases c₀;simp_all[bodyPostS,results,Tryz.results209];exact(zn _ _).alloc (zm _) _
section
variable {v w:World} {sp d B b n:Nat} {C E:Nat→Bytes} {F:Nat→Prop}
theorem Wm (hV:Base v sp d B C) (h:cB v w b sp d C E n F) {fn:Nat} {caps:Array Value} (lN:∀args w,(callFunc fn args).run Tryz.prog w=.ok (.enter fn args) w) {PE:(Nat→Bytes)→Prop} {n':Nat} {Post:Unit→List Nat→World→Prop}
  (bT:∀z X A W,Post z X A→(∀g∈X,W.heap[g]? =A.heap[g]?)→Post z X W)
  (kW:∀w1 p b' G F1,Wk v w1 p b' sp d B C E n F1→Mv d v F w G w1→(∀k,F1 k→G k)→Calls Tryz.prog fn (#[.pointer (some ⟨p,0,none⟩)]++caps) w1 λe w2=>∃z X,e=.returned (.agg #[])∧Post z X w2∧(∀g∈X,w1.heap.size≤g∧g<w2.heap.size)∧∃E' F2,PE E'∧Wk v w2 p b' sp d B C E' n' F2∧(∀g∈X,¬F2 g)∧Mv d v F1 w1 F2 w2):
  Calls Tryz.prog 131 #[.agg #[.pointer (some ⟨b,0,none⟩),.int .i64 B],.func (.func fn) #[] caps] w λe w'=>∃z X,e=.returned (.tuple #[(.agg #[]),.int .i64 0])∧Post z X w'∧∃E',PE E'∧∃F',cB v w' b sp d C E' (up n') F'∧(∀g∈X,w.heap.size≤g∧g<w'.heap.size∧¬F' g)∧Mv d v F w F' w':=by
 have hB:=hV.few;have aF:¬((B:Int)<4):=oQ
 have aJ:¬((3840:Int)<(B:Int)):=oQ
 have hd:=hV.yE;obtain⟨L,hb,hE,hL⟩:=h;have bA:=hb.lt;have oJ:=hb.own;have hq:=hb.quiet;have tF:=hq.size;obtain⟨w1,aP⟩:∃w1,((w.alloc (.cells #[.pointer (some ⟨b,0,none⟩),.int .i64 B] 85)).alloc (.cells #[] 99)).alloc (.cells #[.int .i64 0] 26)=w1:=⟨_,rfl⟩
 obtain⟨hx,oK,AU⟩:=C_ (Z:=([]:List Value)) aP;have y0:=hx.1.cell 0;have y1:=hx.1.cell 1;simp only[zf,zi] at y0 y1;have hk:∀W,Below w1.heap.size w1 W→W.cell? ⟨w.heap.size,0,none⟩=some (.pointer (some ⟨b,0,none⟩))∧W.cell? ⟨w.heap.size,1,none⟩=some (.int .i64 B):=λW hW=>⟨(hx.1.below hW).cell 0,(hx.1.below hW).cell 1⟩
 have HK:=U hk;have HX:=U hx;have KP:=U (hb.below oK);have Ef:=U oK;have Gi:=U bT;have KQ:=U kW;have HV:=U hV;have Hq:=U hq;have iK:=U bA;clear hx oK hb bT kW hV hq bA hk;go_enter_defers Tryz.func131,Tryz.ntmps131;go_wp2_with fail;refine wp_region_noPanic ?_;refine ak (S:=(λW=>W.cell? ⟨w.heap.size,0,none⟩=some (.pointer (some ⟨b,0,none⟩))∧W.cell? ⟨w.heap.size,1,none⟩=some (.int .i64 B))) (m:=7) kQ (HK.o _ (zn _ _).drew) (λaj=>?_);refine te 0 aj ?_;refine te 1 aj ?_;refine te 3 aj ?_;refine te 4 aj ?_;refine rE 2 λK hK=>?_;go_simp;with_reducible refine(ko hd (KP.o.below (zn _ _).drew)).mono ?_
 rintro e w2 ⟨b',rfl,dZ,dh,nK,jM⟩;have jM:=(Turn.of_below (zn _ _).drew v.heap.size (· =b)).trans jM;have Gx:b<w.heap.size:=(iK.o b oJ).2;have u0:=jM.aW HX.o.1 oQ (by show¬(w.heap.size=b);omega);have U2:=U (show U3 w.heap.size b B 99 ([]:List Value) w2 from⟨u0,jM.aW HX.o.2.1 oQ (by show¬(w.heap.size+1=b);omega),jM.aW HX.o.2.2 oQ (by show¬(w.heap.size+2=b);omega)⟩);have H2:=U (And.intro dZ (And.intro dh (And.intro nK jM)));go_wp2_with fail;refine hK.out _ _ (λ_=>⟨u0.cell 0,u0.cell 1⟩) (λhS=>?_);have bQ:=hS dQ;clear hS hK K
 try simp only[Act.put,zh,zk,zl]
 refine te 5 bQ ?_;refine rE 6 λK hK=>?_;go_simp;refine hK.out _ _ (λ_=>⟨(u0.below ((zn _ _).alloc (zm _) _)).cell 0,(u0.below ((zn _ _).alloc (zm _) _)).cell 1⟩) (λhS=>?_);have bV:=hS dQ;clear hS hK K
 try simp only[Act.put,zh,zk,zl]
 refine vF 7 ?_;refine aD ?_;obtain⟨w3,gV⟩:∃w3,w2.alloc (.cells #[.pointer (some ⟨b',0,none⟩),.int .i64 B,.slice none 0 0,.bool false] 132)=w3:=⟨_,rfl⟩
 obtain⟨dZ,dh,nK,jM⟩:=H2.o;have dZ:w1.heap.size≤b':=dZ;obtain⟨F1,tJ,mo,hG,vQ,hU,mF,hz2⟩:=yL HV.o Hq.o iK.o oJ hE hL Ef.o AU U2.o dZ dh nK jM gV;obtain⟨p,hp⟩:∃p,w2.heap.size=p:=⟨_,rfl⟩
 rw[hp] at tJ mo mF hz2;have BP:=U tJ;have HA:=U (And.intro hG (And.intro mo (And.intro vQ hU)));clear u0 U2 H2 dh nK jM tJ mo hG vQ hU hE y0 y1;go_wp2_with fail;refine(KQ.o w3 p b' _ F1 BP.o HA.o.1 (λk hk=>.inl hk)).mono ?_;rintro e w4 ⟨z,X,rfl,hP,hX,E',F2,Wn,EW,hXF,dI⟩;have Gx:b<w.heap.size:=(iK.o b oJ).2;have aaC:=dI.size;obtain⟨L4,q4,Fb4,bits,mk,rfl,KN,hR⟩:=vk iK.o oJ HA.o.1 HA.o.2.1 oQ hz2 HA.o.2.2.1 HA.o.2.2.2 dQ EW dI;have rW:=U (show Xs w4 w4 X (ru Fb4 p bits) (w.heap.size+3) from λg hg=>⟨rfl,hXF g hg,by have:=(hX g hg).1;omega,(hX g hg).2⟩);obtain⟨w5,KR⟩:∃w5,w4=w5:=⟨_,rfl⟩
 have k5:Kept (w.heap.size+1) w4 w5:=by rw[←KR];exact Kept.refl _ _
 have b1:ah w5 (w.heap.size+1) 99 []:=by rw[←KR];exact hR.u.2.1
 have Yj:=U (And.intro k5 (And.intro b1 hR));clear k5 b1 hR;go_wp2_with (refine vg 4 _ rfl ?_);clear KR;obtain⟨k5,b1,hR⟩:=Yj.o;have HR:=U (hR.kept k5 Gx b1);have HX5:=U (rW.o.kept k5 oQ);have c3:=HR.o.wk.cells.cell 3;have c2:=HR.o.wk.cells.cell 2;simp only[Ja,zf,zi] at c2 c3;have aiX:=k5.size;have HP:=U hP;have Hn4:=U KN;have Hz3:=U mF;clear hP hX hXF k5 b1 dI KN hR rW EW HA BP gV;have VA:w1.heap.size≤w3.heap.size:=oQ
 cases mk
 case' false=>
  refine Stop.go ?_;go_wp2_with fail;have Rj:=HR.o.wk.aeA;obtain⟨W,hW⟩:∃W,W=w5:=⟨_,rfl⟩
  obtain⟨L6,r_⟩:∃L6,L6=L4:=⟨_,rfl⟩
  obtain⟨KL,EX⟩:∃KL,KL=Fb4:=⟨_,rfl⟩
  subst hW r_ EX;have Rk:L6.length≤up n':=zC Hn4.o.1 (NA n');have lG:=HR;have HX6:=HX5;clear c2 c3
 case' true=>
  obtain⟨g,cg,rfl,Un,wS,hlg,xM,hu⟩:=HR.o.wk.aeB;have EY:=U (And.intro Un (And.intro wS (And.intro hlg xM)));have Rj:=hu;clear Un wS hlg xM hu;refine Stop.go ?_;go_wp2_with fail;refine(pq HV.o HR.o.wk (by omega:0<4000) EY.o.2.2.1 EY.o.2.2.2 EY.o.1 EY.o.2.1).mono ?_;rintro e W ⟨⟨x,rfl⟩,KL,h6,tL⟩;have Rk:=KO (n:=n') (l:=E' 0) Hn4.o (by rw[oZ HR.o.wk.vN.nodup.1];split<;>omega);obtain⟨L6,r_⟩:∃L6,jN L4 0 (E' 0)=L6:=⟨_,rfl⟩
  rw[r_] at h6 Rj Rk;have lG:=U (HR.o.wrote dQ h6 tL);have HX6:=U (HX5.o.mv tL oQ);clear h6 tL c2 c3 r_ EY;go_wp2_with fail
 all_goals
  have c0:=lG.o.u.1.cell 0;have d0:=lG.o.wk.cells.cell 0;simp only[Ja,zf] at c0 d0;refine wp_region_noPanic ?_;refine ak (S:=(λW=>W.cell? ⟨w.heap.size,0,none⟩=some (.pointer (some ⟨b,0,none⟩))∧W.cell? ⟨p,0,none⟩=some (.pointer (some ⟨b',0,none⟩)))) (m:=7) kQ ⟨c0,d0⟩ (λaj=>?_);refine te 0 aj ?_;refine te 1 aj ?_;refine te 2 aj ?_;refine te 3 aj ?_;refine te 4 aj ?_;refine te 5 aj ?_;refine rE 6 λK hK=>?_;go_simp;with_reducible refine(mG hd (lG.o.par.below (zn _ _).drew) (iK.o b oJ).1 (lG.o.wk.vN.below (zn _ _).drew) (λh=>absurd (C9 h) lG.o.nb)).mono ?_
  rintro e w7 ⟨rfl,tK,Kq⟩;have KS:=(Turn.of_below (zn _ _).drew _ _).trans Kq;obtain⟨⟨g0,e1,e2⟩,rz,nb⟩:=lG.o.join HV.o iK.o oJ tK KS;go_wp2_with fail;refine hK.out _ _ (λ_=>⟨g0.cell 0,(KS.aW lG.o.wk.cells lG.o.wk.ge (λh=>by rcases h with h|h;exact lG.o.wk.np h;exact lG.o.nb (.inr (.inl h.symm)))).cell 0⟩) (λhS=>?_);have bQ:=hS dQ;clear hS hK K
  try simp only[Act.put,zh,zk,zl]
  refine aD ?_;have CU:=U (And.intro e2 (And.intro rz (And.intro tK (And.intro nb (HX6.o.turn KS oQ (λk hl hk=>hk.imp id (λ(e:k=b)=>oQ)))))));clear g0 e2 rz tK Kq KS nb c0 d0;obtain⟨w8,sZ⟩:∃w8,w7=w8:=⟨_,rfl⟩
  have k1:Kept (w.heap.size+1) w7 w8:=by rw[←sZ];exact Kept.refl _ _
  have s1:ah w8 (w.heap.size+1) 99 []:=by rw[←sZ];exact e1
  have J7:=U (And.intro k1 s1);clear k1 s1 e1;go_wp2_with (refine C8 (.store 26 _ _) rfl ?_);clear sZ;obtain⟨k1,s1⟩:=J7.o;obtain⟨e2,rz,tK,nb,hx7⟩:=CU.o;have s2:=e2.kept k1 oQ;have s3:=s2.aB 0 (.int .i64 0);have k2:=Kept.setCell (r:=w.heap.size+2) w8 0 (.int .i64 0);simp only[zk] at s3;have s4:=s1.kept k2 oQ;have q2:=s2.cell 0;have p2:=s2.free 0;simp only[zf] at q2;obtain⟨wf,Bu⟩:∃wf,w8.setCell ⟨w.heap.size+2,0,none⟩ (.int .i64 0)=wf:=⟨_,rfl⟩
  rw[Bu] at s3 k2 s4;have HS:=U (And.intro s3 (And.intro s4 (And.intro k1 k2)));clear e2 s1 s2 s3 s4 rz tK k1 k2 nb hx7;refine Stop.go ?_;go_wp2_with fail;clear Bu;refine leaves_cons (f:=209) (args:=#[.pointer (some ⟨w.heap.size+1,0,none⟩),.pointer (some ⟨w.heap.size+2,0,none⟩)]) sQ (by simp[go_sem]) ?_;refine(NQ ⟨w.heap.size+1,0,none⟩ ⟨w.heap.size+2,0,none⟩ _).mono ?_;rintro e u' w9 ⟨rfl,rfl,jf⟩;obtain⟨s3,s4,k1,k2⟩:=HS.o;have y2:=(s3.below jf).cell 0;simp only[zf] at y2;simp[Leaves,settle,results,Tryz.results131,go_sem,y2];obtain⟨r1,r2,r3,r4⟩:=yM CU.o.2.1 CU.o.2.2.1 CU.o.2.2.2.1 k1 k2 jf Rj Rk CU.o.2.2.2.2;exact⟨(),X,Gi.o z X w4 w9 HP.o r1,E',Wn,_,r2,r3,r4⟩
end
theorem NR (p q:Addr) (w:World):
  CallsD Tryz.prog 330 #[.pointer (some p),.pointer (some q)] .returning w λe u' w'=>e=.returned (.tuple #[])∧u'=.returning∧Below w.heap.size w w':=by
 refine callsD_of_wpS Tryz.func330 rfl λc₀ cs hu=>?_;apply wpS_seq;refine wpS_of_wp (lK λQ' rF=>?_);have HQ:=U rF;clear rF;simp only[Tryz.ntmps330,zQ,zA,zN,Nat.reduceAdd,Nat.reduceSub,zJ,zK,zT,zM,zB,zU];go_wp2_with (refine Great.wpList_runTo rfl _ rfl _ _ (bg (t:=138) rfl (Z:=aQ) kQ) ?_);rw[HQ.o];simp only[Exit.thenS];apply wpS_seq;apply wpS_region;simp[wpOpsS,go_sem,Act.eval,recoverD,hu,Exit.thenS];refine wpS_of_wp (lK λQ' rF=>?_);have UO:=U rF;clear rF;go_wp2_with fail;rw[UO.o];cases c₀;simp_all[bodyPostS,results,Tryz.results330];exact(zn _ _).alloc (zm _) _
theorem EZ {fn:Func} {p q:Tmp} {ty tz:TypeId} (h:fn.results=#[.cell p ty,.cell q tz]) {P:Program} {w:World} {a c:Addr} {C D:Value} {tmps:Array Value} (h1:tmps.getD p undef=.pointer (some a)) (h2:tmps.getD q undef=.pointer (some c)) (hl:(loadVar ty a).run P w=.ok C w) (hm:(loadVar tz c).run P w=.ok D w):
  (results fn tmps).run P w=.ok (.tuple #[C,D]) w:=by
 have h1':tmps[p]?.getD undef=.pointer (some a):=by simpa using h1
 have h2':tmps[q]?.getD undef=.pointer (some c):=by simpa using h2
 unfold results;rw[h];simp[h1',h2',asAddr,hl,hm,Result.andThen]
section
variable {v w:World} {sp d B b n:Nat} {C E:Nat→Bytes} {F:Nat→Prop}
theorem Wo (hV:Base v sp d B C) (h:cB v w b sp d C E n F) {fn:Nat} {caps:Array Value} (lN:∀args w,(callFunc fn args).run Tryz.prog w=.ok (.enter fn args) w) {PE:(Nat→Bytes)→Prop} {n':Nat} {Post:List Int→List Nat→World→Prop}
  (h20:∀z X A,Post z X A→z.length=20) (bT:∀z X A W,Post z X A→(∀g∈X,W.heap[g]? =A.heap[g]?)→Post z X W)
  (kW:∀w1 p b' G F1,Wk v w1 p b' sp d B C E n F1→Mv d v F w G w1→(∀k,F1 k→G k)→Calls Tryz.prog fn (#[.pointer (some ⟨p,0,none⟩)]++caps) w1 λe w2=>∃z X,e=.returned (.agg (aL z))∧Post z X w2∧(∀g∈X,w1.heap.size≤g∧g<w2.heap.size)∧∃E' F2,PE E'∧Wk v w2 p b' sp d B C E' n' F2∧(∀g∈X,¬F2 g)∧Mv d v F1 w1 F2 w2):
  Calls Tryz.prog 278 #[.agg #[.pointer (some ⟨b,0,none⟩),.int .i64 B],.func (.func fn) #[] caps] w λe w'=>∃z X,e=.returned (.tuple #[(.agg (aL z)),.int .i64 0])∧Post z X w'∧∃E',PE E'∧∃F',cB v w' b sp d C E' (up n') F'∧(∀g∈X,w.heap.size≤g∧g<w'.heap.size∧¬F' g)∧Mv d v F w F' w':=by
 have hB:=hV.few;have aF:¬((B:Int)<4):=oQ
 have aJ:¬((3840:Int)<(B:Int)):=oQ
 have hd:=hV.yE;obtain⟨L,hb,hE,hL⟩:=h;have bA:=hb.lt;have oJ:=hb.own;have hq:=hb.quiet;have tF:=hq.size;obtain⟨w1,aP⟩:∃w1,((w.alloc (.cells #[.pointer (some ⟨b,0,none⟩),.int .i64 B] 85)).alloc (.cells (aL aQ) 138)).alloc (.cells #[.int .i64 0] 26)=w1:=⟨_,rfl⟩
 obtain⟨hx,oK,AU⟩:=C_ (Z:=(aS aQ)) aP;have y0:=hx.1.cell 0;have y1:=hx.1.cell 1;simp only[zf,zi] at y0 y1;have hk:∀W,Below w1.heap.size w1 W→W.cell? ⟨w.heap.size,0,none⟩=some (.pointer (some ⟨b,0,none⟩))∧W.cell? ⟨w.heap.size,1,none⟩=some (.int .i64 B):=λW hW=>⟨(hx.1.below hW).cell 0,(hx.1.below hW).cell 1⟩
 have HK:=U hk;have HX:=U hx;have KP:=U (hb.below oK);have Ef:=U oK;have Gi:=U bT;have KQ:=U kW;have HV:=U hV;have Hq:=U hq;have iK:=U bA;clear hx oK hb bT kW hV hq bA hk;go_enter_defers Tryz.func278,Tryz.ntmps278;go_wp2_with (refine Great.wpList_runTo rfl _ rfl _ _ (bg (t:=138) rfl (Z:=aQ) kQ) ?_);refine wp_region_noPanic ?_;refine ak (S:=(λW=>W.cell? ⟨w.heap.size,0,none⟩=some (.pointer (some ⟨b,0,none⟩))∧W.cell? ⟨w.heap.size,1,none⟩=some (.int .i64 B))) (m:=7) kQ (HK.o _ (zn _ _).drew) (λaj=>?_);refine te 0 aj ?_;refine te 1 aj ?_;refine te 3 aj ?_;refine te 4 aj ?_;refine rE 2 λK hK=>?_;go_simp;with_reducible refine(ko hd (KP.o.below (zn _ _).drew)).mono ?_
 rintro e w2 ⟨b',rfl,dZ,dh,nK,jM⟩;have jM:=(Turn.of_below (zn _ _).drew v.heap.size (· =b)).trans jM;have Gx:b<w.heap.size:=(iK.o b oJ).2;have u0:=jM.aW HX.o.1 oQ (by show¬(w.heap.size=b);omega);have U2:=U (show U3 w.heap.size b B 138 (aS aQ) w2 from⟨u0,jM.aW HX.o.2.1 oQ (by show¬(w.heap.size+1=b);omega),jM.aW HX.o.2.2 oQ (by show¬(w.heap.size+2=b);omega)⟩);have H2:=U (And.intro dZ (And.intro dh (And.intro nK jM)));go_wp2_with fail;refine hK.out _ _ (λ_=>⟨u0.cell 0,u0.cell 1⟩) (λhS=>?_);have bQ:=hS dQ;clear hS hK K
 try simp only[Act.put,zh,zk,zl]
 refine te 5 bQ ?_;refine rE 6 λK hK=>?_;go_simp;refine hK.out _ _ (λ_=>⟨(u0.below ((zn _ _).alloc (zm _) _)).cell 0,(u0.below ((zn _ _).alloc (zm _) _)).cell 1⟩) (λhS=>?_);have bV:=hS dQ;clear hS hK K
 try simp only[Act.put,zh,zk,zl]
 refine vF 7 ?_;refine aD ?_;obtain⟨w3,gV⟩:∃w3,w2.alloc (.cells #[.pointer (some ⟨b',0,none⟩),.int .i64 B,.slice none 0 0,.bool false] 132)=w3:=⟨_,rfl⟩
 obtain⟨dZ,dh,nK,jM⟩:=H2.o;have dZ:w1.heap.size≤b':=dZ;obtain⟨F1,tJ,mo,hG,vQ,hU,mF,hz2⟩:=yL HV.o Hq.o iK.o oJ hE hL Ef.o AU U2.o dZ dh nK jM gV;obtain⟨p,hp⟩:∃p,w2.heap.size=p:=⟨_,rfl⟩
 rw[hp] at tJ mo mF hz2;have BP:=U tJ;have HA:=U (And.intro hG (And.intro mo (And.intro vQ hU)));clear u0 U2 H2 dh nK jM tJ mo hG vQ hU hE y0 y1;go_wp2_with fail;refine(KQ.o w3 p b' _ F1 BP.o HA.o.1 (λk hk=>.inl hk)).mono ?_;rintro e w4 ⟨z,X,rfl,hP,hX,E',F2,Wn,EW,hXF,dI⟩;have Gx:b<w.heap.size:=(iK.o b oJ).2;have aaC:=dI.size;obtain⟨L4,q4,Fb4,bits,mk,rfl,KN,hR⟩:=vk iK.o oJ HA.o.1 HA.o.2.1 oQ hz2 HA.o.2.2.1 HA.o.2.2.2 dQ EW dI;have rW:=U (show Xs w4 w4 X (ru Fb4 p bits) (w.heap.size+3) from λg hg=>⟨rfl,hXF g hg,by have:=(hX g hg).1;omega,(hX g hg).2⟩);have aiZ:=h20 _ _ _ hP;have A1:=U hR.u.2.1;have Hi:=U (show(Tryz.prog.info? 138).map (·.size)=some z.length by rw[aiZ];kernel_rfl);have Hl:=U (show(aS aQ).length=z.length by rw[aiZ,aO];rfl);have Hl2:=U (show(aS z).length=z.length from aO z);have HR4:=U hR;clear hR aiZ;go_wp2_with (first|(refine aK rfl 138 _ _ rfl (w.heap.size+1) z (aS aQ) 138 rfl rfl A1.o Hl.o Hi.o ?_;intro w5 b1' k5 Ki)|(refine vg 4 _ rfl ?_));have b1:ah w5 (w.heap.size+1) 138 (aS z):=b1';have hR:=HR4.o;clear HR4;have HR:=U (hR.kept k5 Gx b1);have HX5:=U (rW.o.kept k5 oQ);have c3:=HR.o.wk.cells.cell 3;have c2:=HR.o.wk.cells.cell 2;simp only[Ja,zf,zi] at c2 c3;have aiX:=k5.size;have HP:=U hP;have Hn4:=U KN;have Hz3:=U mF;clear hP hX hXF k5 b1 dI KN hR rW EW HA BP gV;have VA:w1.heap.size≤w3.heap.size:=oQ
 cases mk
 case' false=>
  refine Stop.go ?_;go_wp2_with fail;have Rj:=HR.o.wk.aeA;obtain⟨W,hW⟩:∃W,W=w5:=⟨_,rfl⟩
  obtain⟨L6,r_⟩:∃L6,L6=L4:=⟨_,rfl⟩
  obtain⟨KL,EX⟩:∃KL,KL=Fb4:=⟨_,rfl⟩
  subst hW r_ EX;have Rk:L6.length≤up n':=zC Hn4.o.1 (NA n');have lG:=HR;have HX6:=HX5;clear c2 c3
 case' true=>
  obtain⟨g,cg,rfl,Un,wS,hlg,xM,hu⟩:=HR.o.wk.aeB;have EY:=U (And.intro Un (And.intro wS (And.intro hlg xM)));have Rj:=hu;clear Un wS hlg xM hu;refine Stop.go ?_;go_wp2_with fail;refine(pq HV.o HR.o.wk (by omega:0<4000) EY.o.2.2.1 EY.o.2.2.2 EY.o.1 EY.o.2.1).mono ?_;rintro e W ⟨⟨x,rfl⟩,KL,h6,tL⟩;have Rk:=KO (n:=n') (l:=E' 0) Hn4.o (by rw[oZ HR.o.wk.vN.nodup.1];split<;>omega);obtain⟨L6,r_⟩:∃L6,jN L4 0 (E' 0)=L6:=⟨_,rfl⟩
  rw[r_] at h6 Rj Rk;have lG:=U (HR.o.wrote dQ h6 tL);have HX6:=U (HX5.o.mv tL oQ);clear h6 tL c2 c3 r_ EY;go_wp2_with fail
 all_goals
  have c0:=lG.o.u.1.cell 0;have d0:=lG.o.wk.cells.cell 0;simp only[Ja,zf] at c0 d0;refine wp_region_noPanic ?_;refine ak (S:=(λW=>W.cell? ⟨w.heap.size,0,none⟩=some (.pointer (some ⟨b,0,none⟩))∧W.cell? ⟨p,0,none⟩=some (.pointer (some ⟨b',0,none⟩)))) (m:=7) kQ ⟨c0,d0⟩ (λaj=>?_);refine te 0 aj ?_;refine te 1 aj ?_;refine te 2 aj ?_;refine te 3 aj ?_;refine te 4 aj ?_;refine te 5 aj ?_;refine rE 6 λK hK=>?_;go_simp;with_reducible refine(mG hd (lG.o.par.below (zn _ _).drew) (iK.o b oJ).1 (lG.o.wk.vN.below (zn _ _).drew) (λh=>absurd (C9 h) lG.o.nb)).mono ?_
  rintro e w7 ⟨rfl,tK,Kq⟩;have KS:=(Turn.of_below (zn _ _).drew _ _).trans Kq;obtain⟨⟨g0,e1,e2⟩,rz,nb⟩:=lG.o.join HV.o iK.o oJ tK KS;go_wp2_with fail;refine hK.out _ _ (λ_=>⟨g0.cell 0,(KS.aW lG.o.wk.cells lG.o.wk.ge (λh=>by rcases h with h|h;exact lG.o.wk.np h;exact lG.o.nb (.inr (.inl h.symm)))).cell 0⟩) (λhS=>?_);have bQ:=hS dQ;clear hS hK K
  try simp only[Act.put,zh,zk,zl]
  refine aD ?_;have CU:=U (And.intro e2 (And.intro rz (And.intro tK (And.intro nb (HX6.o.turn KS oQ (λk hl hk=>hk.imp id (λ(e:k=b)=>oQ)))))));clear g0 e2 rz tK Kq KS nb c0 d0;have E1:=U (show IsNode w7 (w.heap.size+1) 138 z from e1);clear e1;go_wp2_with (first|(refine aX rfl 138 _ rfl (w.heap.size+1) 0 rfl z _ E1.o.range Tryz.underlying138 rfl Hi.o ?_)|(refine aK rfl 138 _ _ rfl (w.heap.size+1) z (aS z) 138 rfl rfl E1.o Hl2.o Hi.o ?_;intro w8 s1' k1 Ad)|(refine C8 (.store 26 _ _) rfl ?_));have s1:ah w8 (w.heap.size+1) 138 (aS z):=s1';obtain⟨e2,rz,tK,nb,hx7⟩:=CU.o;have s2:=e2.kept k1 oQ;have s3:=s2.aB 0 (.int .i64 0);have k2:=Kept.setCell (r:=w.heap.size+2) w8 0 (.int .i64 0);simp only[zk] at s3;have s4:=s1.kept k2 oQ;have q2:=s2.cell 0;have p2:=s2.free 0;simp only[zf] at q2;obtain⟨wf,Bu⟩:∃wf,w8.setCell ⟨w.heap.size+2,0,none⟩ (.int .i64 0)=wf:=⟨_,rfl⟩
  rw[Bu] at s3 k2 s4;have HS:=U (And.intro s3 (And.intro s4 (And.intro k1 k2)));clear e2 s1 s2 s3 s4 rz tK k1 k2 nb hx7;refine Stop.go ?_;go_wp2_with fail;clear Bu;refine leaves_cons (f:=330) (args:=#[.pointer (some ⟨w.heap.size+1,0,none⟩),.pointer (some ⟨w.heap.size+2,0,none⟩)]) sQ (by simp[go_sem]) ?_;refine(NR ⟨w.heap.size+1,0,none⟩ ⟨w.heap.size+2,0,none⟩ _).mono ?_;rintro e u' w9 ⟨rfl,rfl,jf⟩;obtain⟨s3,s4,k1,k2⟩:=HS.o;have y2:=(s3.below jf).cell 0;simp only[zf] at y2;have Gn:(loadVar 138 ⟨w.heap.size+1,0,none⟩).run Tryz.prog w9=.ok (.agg (aL z)) w9:=iL (show IsNode w9 (w.heap.size+1) 138 z from s4.below jf) Tryz.underlying138 rfl Hi.o;have hle:(loadVar 26 ⟨w.heap.size+2,0,none⟩).run Tryz.prog w9=.ok (.int .i64 0) w9:=by simp[go_sem,y2]
  simp only[Leaves,settle];refine⟨_,EZ rfl rfl rfl Gn hle,?_⟩;obtain⟨r1,r2,r3,r4⟩:=yM CU.o.2.1 CU.o.2.2.1 CU.o.2.2.2.1 k1 k2 jf Rj Rk CU.o.2.2.2.2;exact⟨z,X,rfl,Gi.o z X w4 w9 HP.o r1,E',Wn,_,r2,r3,r4⟩
end
theorem KU (p q:Addr) (w:World):
  CallsD Tryz.prog 331 #[.pointer (some p),.pointer (some q)] .returning w λe u' w'=>e=.returned (.tuple #[])∧u'=.returning∧Below w.heap.size w w':=by
 refine callsD_of_wpS Tryz.func331 rfl λc₀ cs hu=>?_;apply wpS_seq;refine wpS_of_wp (lK λQ' rF=>?_);have HQ:=U rF;clear rF;simp only[Tryz.ntmps331,zQ,zA,zN,Nat.reduceAdd,Nat.reduceSub,zJ,zK,zT,zM,zB,zU];go_wp2_with fail;rw[HQ.o];simp only[Exit.thenS];apply wpS_seq;apply wpS_region;simp[wpOpsS,go_sem,Act.eval,recoverD,hu,Exit.thenS];refine wpS_of_wp (lK λQ' rF=>?_);have UO:=U rF;clear rF;go_wp2_with fail;rw[UO.o];cases c₀;simp_all[bodyPostS,results,Tryz.results331];exact zn _ _
section
variable {v w:World} {sp d B b n:Nat} {C E:Nat→Bytes} {F:Nat→Prop}
theorem Rl (hV:Base v sp d B C) (h:cB v w b sp d C E n F) {fn:Nat} {caps:Array Value} (lN:∀args w,(callFunc fn args).run Tryz.prog w=.ok (.enter fn args) w) {PE:(Nat→Bytes)→Prop} {n':Nat} {Post:Option Addr→Nat→Nat→List Nat→World→Prop}
  (bT:∀a m c X A W,Post a m c X A→(∀g∈X,W.heap[g]? =A.heap[g]?)→Post a m c X W)
  (kW:∀w1 p b' G F1,Wk v w1 p b' sp d B C E n F1→Mv d v F w G w1→(∀k,F1 k→G k)→Calls Tryz.prog fn (#[.pointer (some ⟨p,0,none⟩)]++caps) w1 λe w2=>∃a m c X,e=.returned (.slice a m c)∧Post a m c X w2∧(∀g∈X,w1.heap.size≤g∧g<w2.heap.size)∧∃E' F2,PE E'∧Wk v w2 p b' sp d B C E' n' F2∧(∀g∈X,¬F2 g)∧Mv d v F1 w1 F2 w2):
  Calls Tryz.prog 280 #[.agg #[.pointer (some ⟨b,0,none⟩),.int .i64 B],.func (.func fn) #[] caps] w λe w'=>∃a m c X,e=.returned (.tuple #[(.slice a m c),.int .i64 0])∧Post a m c X w'∧∃E',PE E'∧∃F',cB v w' b sp d C E' (up n') F'∧(∀g∈X,w.heap.size≤g∧g<w'.heap.size∧¬F' g)∧Mv d v F w F' w':=by
 have hB:=hV.few;have aF:¬((B:Int)<4):=oQ
 have aJ:¬((3840:Int)<(B:Int)):=oQ
 have hd:=hV.yE;obtain⟨L,hb,hE,hL⟩:=h;have bA:=hb.lt;have oJ:=hb.own;have hq:=hb.quiet;have tF:=hq.size;obtain⟨w1,aP⟩:∃w1,((w.alloc (.cells #[.pointer (some ⟨b,0,none⟩),.int .i64 B] 85)).alloc (.cells #[.slice none 0 0] 22)).alloc (.cells #[.int .i64 0] 26)=w1:=⟨_,rfl⟩
 obtain⟨hx,oK,AU⟩:=C_ (Z:=[.slice none 0 0]) aP;have y0:=hx.1.cell 0;have y1:=hx.1.cell 1;simp only[zf,zi] at y0 y1;have hk:∀W,Below w1.heap.size w1 W→W.cell? ⟨w.heap.size,0,none⟩=some (.pointer (some ⟨b,0,none⟩))∧W.cell? ⟨w.heap.size,1,none⟩=some (.int .i64 B):=λW hW=>⟨(hx.1.below hW).cell 0,(hx.1.below hW).cell 1⟩
 have HK:=U hk;have HX:=U hx;have KP:=U (hb.below oK);have Ef:=U oK;have Gi:=U bT;have KQ:=U kW;have HV:=U hV;have Hq:=U hq;have iK:=U bA;clear hx oK hb bT kW hV hq bA hk;go_enter_defers Tryz.func280,Tryz.ntmps280;go_wp2_with fail;refine wp_region_noPanic ?_;refine ak (S:=(λW=>W.cell? ⟨w.heap.size,0,none⟩=some (.pointer (some ⟨b,0,none⟩))∧W.cell? ⟨w.heap.size,1,none⟩=some (.int .i64 B))) (m:=7) kQ (HK.o _ (zn _ _).drew) (λaj=>?_);refine te 0 aj ?_;refine te 1 aj ?_;refine te 3 aj ?_;refine te 4 aj ?_;refine rE 2 λK hK=>?_;go_simp;with_reducible refine(ko hd (KP.o.below (zn _ _).drew)).mono ?_
 rintro e w2 ⟨b',rfl,dZ,dh,nK,jM⟩;have jM:=(Turn.of_below (zn _ _).drew v.heap.size (· =b)).trans jM;have Gx:b<w.heap.size:=(iK.o b oJ).2;have u0:=jM.aW HX.o.1 oQ (by show¬(w.heap.size=b);omega);have U2:=U (show U3 w.heap.size b B 22 [.slice none 0 0] w2 from⟨u0,jM.aW HX.o.2.1 oQ (by show¬(w.heap.size+1=b);omega),jM.aW HX.o.2.2 oQ (by show¬(w.heap.size+2=b);omega)⟩);have H2:=U (And.intro dZ (And.intro dh (And.intro nK jM)));go_wp2_with fail;refine hK.out _ _ (λ_=>⟨u0.cell 0,u0.cell 1⟩) (λhS=>?_);have bQ:=hS dQ;clear hS hK K
 try simp only[Act.put,zh,zk,zl]
 refine te 5 bQ ?_;refine rE 6 λK hK=>?_;go_simp;refine hK.out _ _ (λ_=>⟨(u0.below ((zn _ _).alloc (zm _) _)).cell 0,(u0.below ((zn _ _).alloc (zm _) _)).cell 1⟩) (λhS=>?_);have bV:=hS dQ;clear hS hK K
 try simp only[Act.put,zh,zk,zl]
 refine vF 7 ?_;refine aD ?_;obtain⟨w3,gV⟩:∃w3,w2.alloc (.cells #[.pointer (some ⟨b',0,none⟩),.int .i64 B,.slice none 0 0,.bool false] 132)=w3:=⟨_,rfl⟩
 obtain⟨dZ,dh,nK,jM⟩:=H2.o;have dZ:w1.heap.size≤b':=dZ;obtain⟨F1,tJ,mo,hG,vQ,hU,mF,hz2⟩:=yL HV.o Hq.o iK.o oJ hE hL Ef.o AU U2.o dZ dh nK jM gV;obtain⟨p,hp⟩:∃p,w2.heap.size=p:=⟨_,rfl⟩
 rw[hp] at tJ mo mF hz2;have BP:=U tJ;have HA:=U (And.intro hG (And.intro mo (And.intro vQ hU)));clear u0 U2 H2 dh nK jM tJ mo hG vQ hU hE y0 y1;go_wp2_with fail;refine(KQ.o w3 p b' _ F1 BP.o HA.o.1 (λk hk=>.inl hk)).mono ?_;rintro e w4 ⟨a,m,c,X,rfl,hP,hX,E',F2,Wn,EW,hXF,dI⟩;have Gx:b<w.heap.size:=(iK.o b oJ).2;have aaC:=dI.size;obtain⟨L4,q4,Fb4,bits,mk,rfl,KN,hR⟩:=vk iK.o oJ HA.o.1 HA.o.2.1 oQ hz2 HA.o.2.2.1 HA.o.2.2.2 dQ EW dI;have rW:=U (show Xs w4 w4 X (ru Fb4 p bits) (w.heap.size+3) from λg hg=>⟨rfl,hXF g hg,by have:=(hX g hg).1;omega,(hX g hg).2⟩);have k5:=Kept.setCell (r:=w.heap.size+1) w4 0 (.slice a m c);have b1:=hR.u.2.1.aB 0 (.slice a m c);simp only[zk] at b1;have z1:=hR.u.2.1.cell 0;have f1:=hR.u.2.1.free 0;simp only[zf] at z1;obtain⟨w5,KR⟩:∃w5,w4.setCell ⟨w.heap.size+1,0,none⟩ (.slice a m c)=w5:=⟨_,rfl⟩
 rw[KR] at k5 b1;have Yj:=U (And.intro k5 (And.intro b1 hR));clear k5 b1 hR;go_wp2_with (refine vg 4 _ rfl ?_);clear KR z1 f1;obtain⟨k5,b1,hR⟩:=Yj.o;have HR:=U (hR.kept k5 Gx b1);have HX5:=U (rW.o.kept k5 oQ);have c3:=HR.o.wk.cells.cell 3;have c2:=HR.o.wk.cells.cell 2;simp only[Ja,zf,zi] at c2 c3;have aiX:=k5.size;have HP:=U hP;have Hn4:=U KN;have Hz3:=U mF;clear hP hX hXF k5 b1 dI KN hR rW EW HA BP gV;have VA:w1.heap.size≤w3.heap.size:=oQ
 cases mk
 case' false=>
  refine Stop.go ?_;go_wp2_with fail;have Rj:=HR.o.wk.aeA;obtain⟨W,hW⟩:∃W,W=w5:=⟨_,rfl⟩
  obtain⟨L6,r_⟩:∃L6,L6=L4:=⟨_,rfl⟩
  obtain⟨KL,EX⟩:∃KL,KL=Fb4:=⟨_,rfl⟩
  subst hW r_ EX;have Rk:L6.length≤up n':=zC Hn4.o.1 (NA n');have lG:=HR;have HX6:=HX5;clear c2 c3
 case' true=>
  obtain⟨g,cg,rfl,Un,wS,hlg,xM,hu⟩:=HR.o.wk.aeB;have EY:=U (And.intro Un (And.intro wS (And.intro hlg xM)));have Rj:=hu;clear Un wS hlg xM hu;refine Stop.go ?_;go_wp2_with fail;refine(pq HV.o HR.o.wk (by omega:0<4000) EY.o.2.2.1 EY.o.2.2.2 EY.o.1 EY.o.2.1).mono ?_;rintro e W ⟨⟨x,rfl⟩,KL,h6,tL⟩;have Rk:=KO (n:=n') (l:=E' 0) Hn4.o (by rw[oZ HR.o.wk.vN.nodup.1];split<;>omega);obtain⟨L6,r_⟩:∃L6,jN L4 0 (E' 0)=L6:=⟨_,rfl⟩
  rw[r_] at h6 Rj Rk;have lG:=U (HR.o.wrote dQ h6 tL);have HX6:=U (HX5.o.mv tL oQ);clear h6 tL c2 c3 r_ EY;go_wp2_with fail
 all_goals
  have c0:=lG.o.u.1.cell 0;have d0:=lG.o.wk.cells.cell 0;simp only[Ja,zf] at c0 d0;refine wp_region_noPanic ?_;refine ak (S:=(λW=>W.cell? ⟨w.heap.size,0,none⟩=some (.pointer (some ⟨b,0,none⟩))∧W.cell? ⟨p,0,none⟩=some (.pointer (some ⟨b',0,none⟩)))) (m:=7) kQ ⟨c0,d0⟩ (λaj=>?_);refine te 0 aj ?_;refine te 1 aj ?_;refine te 2 aj ?_;refine te 3 aj ?_;refine te 4 aj ?_;refine te 5 aj ?_;refine rE 6 λK hK=>?_;go_simp;with_reducible refine(mG hd (lG.o.par.below (zn _ _).drew) (iK.o b oJ).1 (lG.o.wk.vN.below (zn _ _).drew) (λh=>absurd (C9 h) lG.o.nb)).mono ?_
  rintro e w7 ⟨rfl,tK,Kq⟩;have KS:=(Turn.of_below (zn _ _).drew _ _).trans Kq;obtain⟨⟨g0,e1,e2⟩,rz,nb⟩:=lG.o.join HV.o iK.o oJ tK KS;go_wp2_with fail;refine hK.out _ _ (λ_=>⟨g0.cell 0,(KS.aW lG.o.wk.cells lG.o.wk.ge (λh=>by rcases h with h|h;exact lG.o.wk.np h;exact lG.o.nb (.inr (.inl h.symm)))).cell 0⟩) (λhS=>?_);have bQ:=hS dQ;clear hS hK K
  try simp only[Act.put,zh,zk,zl]
  refine aD ?_;have CU:=U (And.intro e2 (And.intro rz (And.intro tK (And.intro nb (HX6.o.turn KS oQ (λk hl hk=>hk.imp id (λ(e:k=b)=>oQ)))))));clear g0 e2 rz tK Kq KS nb c0 d0;have s1:=e1.aB 0 (.slice a m c);have k1:=Kept.setCell (r:=w.heap.size+1) w7 0 (.slice a m c);simp only[zk] at s1;have q1:=e1.cell 0;have p1:=e1.free 0;simp only[zf] at q1;obtain⟨w8,sZ⟩:∃w8,w7.setCell ⟨w.heap.size+1,0,none⟩ (.slice a m c)=w8:=⟨_,rfl⟩
  rw[sZ] at k1 s1;have J7:=U (And.intro k1 s1);clear k1 s1 e1;go_wp2_with (refine C8 (.store 26 _ _) rfl ?_);clear sZ q1 p1;obtain⟨k1,s1⟩:=J7.o;obtain⟨e2,rz,tK,nb,hx7⟩:=CU.o;have s2:=e2.kept k1 oQ;have s3:=s2.aB 0 (.int .i64 0);have k2:=Kept.setCell (r:=w.heap.size+2) w8 0 (.int .i64 0);simp only[zk] at s3;have s4:=s1.kept k2 oQ;have q2:=s2.cell 0;have p2:=s2.free 0;simp only[zf] at q2;obtain⟨wf,Bu⟩:∃wf,w8.setCell ⟨w.heap.size+2,0,none⟩ (.int .i64 0)=wf:=⟨_,rfl⟩
  rw[Bu] at s3 k2 s4;have HS:=U (And.intro s3 (And.intro s4 (And.intro k1 k2)));clear e2 s1 s2 s3 s4 rz tK k1 k2 nb hx7;refine Stop.go ?_;go_wp2_with fail;clear Bu;refine leaves_cons (f:=331) (args:=#[.pointer (some ⟨w.heap.size+1,0,none⟩),.pointer (some ⟨w.heap.size+2,0,none⟩)]) sQ (by simp[go_sem]) ?_;refine(KU ⟨w.heap.size+1,0,none⟩ ⟨w.heap.size+2,0,none⟩ _).mono ?_;rintro e u' w9 ⟨rfl,rfl,jf⟩;obtain⟨s3,s4,k1,k2⟩:=HS.o;have y1:=(s4.below jf).cell 0;have y2:=(s3.below jf).cell 0;simp only[zf] at y1 y2;simp[Leaves,settle,results,Tryz.results280,go_sem,y1,y2];obtain⟨r1,r2,r3,r4⟩:=yM CU.o.2.1 CU.o.2.2.1 CU.o.2.2.2.1 k1 k2 jf Rj Rk CU.o.2.2.2.2;exact⟨a,m,c,⟨rfl,rfl,rfl⟩,X,Gi.o a m c X w4 w9 HP.o r1,E',Wn,_,r2,r3,r4⟩
end
end
end Go.Proofs.YtdjdpeadohobmaaGreatDoor
