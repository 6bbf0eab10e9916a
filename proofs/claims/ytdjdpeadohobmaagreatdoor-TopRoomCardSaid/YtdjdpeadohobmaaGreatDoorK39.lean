/- A part of the walk below the law: what is proved here is used by later parts; no further condition. -/
import Derived.OwnWalk
import Derived.Test.YtdjdpeadohobmaaGreatDoorK35
import Derived.Test.YtdjdpeadohobmaaGreatDoorK38
set_option linter.unusedVariables false
set_option linter.unusedSimpArgs false
set_option maxRecDepth 100000
set_option maxHeartbeats 20000000
namespace Go.Proofs.YtdjdpeadohobmaaGreatDoor
section
open Go.RowKit Go.Shelf Go.Maps O
attribute [local go_sem] Oper.semAt_some
section
variable {v w w1:World} {fb sp d B P q nn b p t1 t2:Nat} {C:Nat→Bytes} {cl yo:Bool} {op:Op} {G:Nat→Prop} {f:Nd} {dd:Bytes} {id pt ga oa len cd i:Nat}
theorem RN {z:Int} (hj:jI v w d B C sp w1 p b) (hF:mh C B id 1 1 f.c f.D f.r f.R) (x1:ah w1 t1 22 [.slice (some ⟨ga,oa,none⟩) len cd]) (x2:ah w1 t2 223 [.int .i64 id,.int .i64 pt]) (n1:t1≠b) (n2:t2≠b)
  (dO:cZ w1 (some ⟨ga,oa,none⟩) dd) (eX:dd.length=len) (Ak:ga<v.heap.size) (hlen:1≤len∧len≤4096) (Aq:len≤cd) (ho:pt≤f.c.length) (hf:pt+len≤122880) (hz:aG (C 0) 0=true) (dx:cnt (C 0) B+need (max f.c.length (pt+len))≤B+need f.c.length) (Gl:IntKind.i64.wrap ((pt:Int)+len)=z∧z=((pt+len:Nat):Int)):
  Calls Tryz.prog 154 (#[.pointer (some ⟨p,0,none⟩)]++#[.pointer (some ⟨t1,0,none⟩),.pointer (some ⟨t2,0,none⟩)]) w1 λe w2=>(∃x,e=.returned x)∧∃E' F2,((∃D' r' R',Wrote C E' B id 1 1 f.c (ow f.c pt dd) f.D f.r f.R D' r' R')∧ah w2 t1 22 [.slice (some ⟨ga,oa,none⟩) len cd]∧ah w2 t2 223 [.int .i64 id,.int .i64 pt])∧cB v w2 b sp d C E' 14 F2∧Mv d v (· =b) w1 F2 w2:=by
 have hw:=Gl.1;have FY:¬((122880:Int)<z):=oQ
 have ao3:(len:Int)≤4096:=oQ
 have c1:=x1.cell 0;have c2:=x2.cell 0;have c3:=x2.cell 1;simp only[zf,zi] at c1 c2 c3;have HJ:=U hj;have X1:=U x1;have X2:=U x2;have pY:=hj.new.2.2;have hz1:=(hj.Bd.lt b rfl).2;have c4:=hj.view.cell 0;have c5:=hj.view.cell 1;simp only[zf,zi] at c4 c5;clear hj x1 x2 Gl;have AP:¬((len:Int)=0):=oQ
 have HF:=U hF;have pU:=U dO;have tC:=U eX;have Hz:=U hz;have Fe:=U dx;have hvq:=HJ.o.quiet.size;have hbv:=HJ.o.Bd.lt b rfl;clear hF dO eX hz dx;go_enter Tryz.func154,Tryz.ntmps154;go_wp2_with fail;refine(pI _).mono ?_;rintro e w1 ⟨⟨u,rfl⟩,rfl⟩;go_wp2_with fail;refine wp_region_noPanic ?_;refine ak (S:=(λW=>W.cell? ⟨p,0,none⟩=some (.pointer (some ⟨b,0,none⟩))∧W.cell? ⟨p,1,none⟩=some (.int .i64 B)∧W.cell? ⟨t2,0,none⟩=some (.int .i64 id)∧W.cell? ⟨t2,1,none⟩=some (.int .i64 pt)∧W.cell? ⟨t1,0,none⟩=some (.slice (some ⟨ga,oa,none⟩) len cd))) (m:=11) kQ ⟨c4,c5,c2,c3,c1⟩ (λaj=>?_);refine te 0 aj ?_;refine te 1 aj ?_;refine te 2 aj ?_;refine te 3 aj ?_;refine te 4 aj ?_;refine te 5 aj ?_;refine te 6 aj ?_;refine te 7 aj ?_;refine te 8 aj ?_;refine rE 9 λK hK=>?_;go_simp;refine(yR (off:=pt) (len:=len) (dd:=dd) HJ.o.base (HJ.o.Bd.below (zn _ _).drew) HF.o (pU.o.below (zn _ _).drew) tC.o ⟨show ga<w1.heap.size by omega,λe=>by have:ga=b:=e;omega⟩ hlen Aq ho hf Hz.o Fe.o).mono ?_;rintro e w4 ⟨rfl,E',D',r',R',F4,xP,h4,dI⟩;have p4:=dI.aW (HJ.o.view.below (zn _ _).drew) dQ pY;have k4:=dI.aW (X2.o.below (zn _ _).drew) dQ n2;have s4:=dI.aW (X1.o.below (zn _ _).drew) dQ n1;have HZ:=U (And.intro (⟨D',r',R',xP⟩:∃D' r' R',Wrote C E' B id 1 1 f.c (ow f.c pt dd) f.D f.r f.R D' r' R') (And.intro (And.intro s4 k4) (And.intro h4 (Mv.after ((zn _ _).drew) dI HJ.o.quiet (λk hk=>by subst hk;exact hz1)))));clear xP h4 dI;go_wp2_with fail;refine hK.out _ _ (λ_=>⟨p4.cell 0,p4.cell 1,k4.cell 0,k4.cell 1,s4.cell 0⟩) (λhS=>?_);have bQ:=hS dQ;clear hS hK K
 try simp only[Act.put,zh,zk,zl]
 refine rE 10 λK hK=>?_;go_simp;with_reducible refine(bY _).mono ?_
 rintro e w5 ⟨⟨u,rfl⟩,rfl⟩;go_wp2_with fail;refine hK.out _ _ (λ_=>bQ) (λhS=>?_);have bV:=hS dQ;clear hS hK K
 try simp only[Act.put,zh,zk,zl]
 refine aD ?_;go_wp2_with fail;go_end0;exact⟨⟨_,rfl⟩,E',F4,⟨HZ.o.1,HZ.o.2.1⟩,HZ.o.2.2⟩
end
section
variable {v:World} {fb d B P q nn:Nat} {C:Nat→Bytes} {cl yo:Bool} {op:Op} {G:Nat→Prop} {x f:Nd} {A T:nU} {s dd:Bytes} {fd pt ga oa len cd i:Nat}
theorem RP {z:Int} (h:fI v fb d B P q nn C cl yo op G) (Gw:nn≤15) (hT:Tr C B x (A++(f,s)::T)) (hq:q<1000000) (sS:fd<1000) (hop:op fd=some (f.id,pt)) (dO:cZ v (some ⟨ga,oa,none⟩) dd) (eX:dd.length=len) (Ak:ga<v.heap.size) (hlen:1≤len∧len≤4096) (Aq:len≤cd) (ho:pt≤f.c.length) (hf:pt+len≤122880) (dx:cnt (C 0) B+need (max f.c.length (pt+len))≤B+need f.c.length) (Gl:IntKind.i64.wrap ((pt:Int)+len)=z∧z=((pt+len:Nat):Int)):
  Calls Tryz.prog 84 #[.pointer (some ⟨fb,0,none⟩),.int .i64 fd,.slice (some ⟨ga,oa,none⟩) len cd] v λe w'=>e=.returned (.int .i64 0)∧∃E' D' r' R' q' F',Tr E' B x (A++(⟨f.id,1,ow f.c pt dd,D',r',R'⟩,s)::T)∧fI w' fb d B P q' nn E' false yo (f_ op fd (some (f.id,pt+len))) F'∧Step G v F' w'∧(q≤q'∧q'≤q+1):=by
 obtain⟨dv,hdv⟩:∃dv,Value.slice (some ⟨ga,oa,none⟩) len cd=dv:=⟨_,rfl⟩
 rw[hdv];have lq:Below v.heap.size v (v.alloc (.cells #[dv] 22)):=(zn _ _).alloc (zm _) _;obtain⟨m,c1, -, -,hL, -⟩:=(h.below lq).sP;have hl:=hL fd sS;rw[hop] at hl;replace hl:(Instr.lookup 104 (.map (some m)) (.int .i64 (fd:Int)) true).run Tryz.prog (v.alloc (.cells #[dv] 22))=.ok (.tuple #[.agg #[.int .i64 f.id,.int .i64 pt],.bool true]) (v.alloc (.cells #[dv] 22)):=hl;clear hL lq;obtain⟨w1,aP⟩:∃w1,(v.alloc (.cells #[dv] 22)).alloc (.cells #[.int .i64 f.id,.int .i64 pt] 223)=w1:=⟨_,rfl⟩
 obtain⟨aM,aF,hz1⟩:=boxes [([dv],22),([.int .i64 f.id,.int .i64 pt],223)] v w1 (by rw[←aP];rfl);have x0:ah w1 v.heap.size 22 [dv]:=aM 0 _ rfl;have x1:ah w1 (v.heap.size+1) 223 [.int .i64 f.id,.int .i64 pt]:=aM 1 _ rfl;have vR:w1.heap.size=v.heap.size+2:=by simpa using hz1
 have wT:=U aP;have HF:=U h;have HB:=U aF;have X0:=U x0;have X1:=U x1;clear h aM aF hz1 x0 x1 aP;have hw:=Gl.1;have Hzq:=U Gl;have HT:=U hT;have pU:=U dO;have tC:=U eX;have Fe:=U dx;clear hT dO eX dx Gl;subst hdv;go_enter Tryz.func84,Tryz.ntmps84;go_wp2_with fail;rw[wT.o];refine(jJ HF.o HT.o.big HB.o hq (n':=14) oQ (fn:=154) (λ_ _=>rfl) (X:=λ_=>False) (λ_ h=>h.elim) (PE:=λE' W=>(∃D' r' R',Wrote C E' B f.id 1 1 f.c (ow f.c pt dd) f.D f.r f.R D' r' R')∧ah W v.heap.size 22 [.slice (some ⟨ga,oa,none⟩) len cd]∧ah W (v.heap.size+1) 223 [.int .i64 f.id,.int .i64 pt]) (λE' W h=>(HT.o.wrote h.1.choose_spec.choose_spec.choose_spec).o) (λsp w2 p b hj=>?_)).mono ?_
 ·have Lv:=hj.new
  refine(RN hj (HT.o.Cz (s:=s) sQ) (hj.aW X0.o (zm _)) (hj.aW X1.o oQ) oQ oQ (pU.o.step (hj.quiet.step hj.base.dev.choose_spec)) tC.o Ak hlen Aq ho hf HT.o.zero Fe.o Hzq.o).mono ?_;rintro e w3 ⟨hx,E',F2,h1,h2,h3⟩;exact⟨hx,E',F2,h1,h2,mvX h3 (λ_ h=>h.elim)⟩
 rintro e w3 ⟨rfl,E',w2,⟨⟨D',r',R',xP⟩,hx0,wJ⟩,hD⟩;obtain⟨q',cl',F',hS,bT,GZ, -,hnw⟩:=hD.ex;have y0:ah w3 v.heap.size 22 [.slice (some ⟨ga,oa,none⟩) len cd]:=(hD.keep _ oQ hx0.lt oQ).trans hx0;have y1:ah w3 (v.heap.size+1) 223 [.int .i64 f.id,.int .i64 pt]:=(hD.keep _ oQ wJ.lt oQ).trans wJ;have l7:=HF.o.lt;have ajy:∀k,F' k→k≠v.heap.size+1:=λk hk e=>by
  rcases hnw k hk with h1|h1
  ·have:=l7 k h1
   omega
  ·have:=wJ.lt
   omega
 have HWr:=U (HT.o.wrote xP);have hS:=hS.dirty;have HS:=U hS;have HSt:=U bT;have Y1:=U y1;have z0:=y0.cell 0;have z1:=y1.cell 1;have g1:=y1.free 1;simp only[zf,zi] at z0 z1;clear hS bT hD y0 y1 hl c1;go_wp2_with fail;obtain⟨w4,gH⟩:∃w4,w3.setCell ⟨v.heap.size+1,1,none⟩ (.int .i64 z)=w4:=⟨_,rfl⟩
 have y4:ah w4 (v.heap.size+1) 223 [.int .i64 f.id,.int .i64 z]:=by rw[←gH];exact Y1.o.aB 1 (.int .i64 z)
 have iI:Step (· =v.heap.size+1) w3 (· =v.heap.size+1) w4:=by rw[←gH];exact Step.set1 (Y1.o.aV dQ) 1 _
 rw[gH];have hGv:=HF.o.lt;have h5v:=HF.o.ge.2.size;have Pp:=ajy;have xG:=HS.o.step iI (λk hk e=>Pp k hk e) (λk hk=>oQ);obtain⟨m',c1, -, -, -,hU, -⟩:=(xG.below (zn _ _).drew).sP;obtain⟨w6,hr,h6,xL⟩:=hU fd (f.id,pt+len) sS Gw;rw[hop] at h6;replace hr:(Instr.mapUpdate 104 (.map (some m')) (.int .i64 (fd:Int)) (.agg #[.int .i64 f.id,.int .i64 z])).run Tryz.prog w4.drew=.ok () w6:=by rw[Hzq.o.2];exact hr
 have b0:=y4.cell 0;have b1:=y4.cell 1;simp only[zf,zi] at b0 b1;have La:Step F' w4 F' w6:=(Step.of_below (zn _ _).drew F').trans xL;have HZ:=U (And.intro h6 ((HSt.o.inner iI (λk hk=>.inr oQ)).trans La));clear hU h6 xL iI xG y4 gH z0 g1 z1 La;refine wp_region_noPanic ?_;refine ak (S:=(λW=>W.cell? ⟨fb,1,none⟩=some (.map (some m'))∧W.cell? ⟨v.heap.size+1,0,none⟩=some (.int .i64 f.id)∧W.cell? ⟨v.heap.size+1,1,none⟩=some (.int .i64 z))) (m:=6) kQ ⟨c1,b0,b1⟩ (λaj=>?_);refine te 0 aj ?_;refine te 1 aj ?_;refine te 2 aj ?_;refine te 3 aj ?_;refine te 4 aj ?_;refine te 5 aj ?_;refine rE 6 λK hK=>?_;go_simp;refine kX hK ?_;clear hK K
 try simp only[Act.put,zh,zk,zl]
 refine aD ?_;go_wp2_with fail;go_ret;exact⟨rfl,E',D',r',R',q',F',HWr.o,HZ.o.1,HZ.o.2,GZ⟩
end
theorem Xm {w:World} {b sp:Nat} {pw pt am:Option Nat} {sw st:Bool} {L:Wl} {F:Nat→Prop} (hc:ah w b 191 (jA sp pw sw pt st am)) (hB:Book w (.map pw) L F):Calls Tryz.prog 59 #[.pointer (some ⟨b,0,none⟩)] w λe w'=>e=.returned (.int .i64 L.length)∧w'=w:=by
 have c2:=hc.cell 2;simp only[jA,zf,zi] at c2;have hl:=hB.size;clear hc hB;go_enter Tryz.func59,Tryz.ntmps59;go_wp2_with fail;go_ret;exact⟨rfl,rfl⟩
section
variable {v w:World} {fb d B P q nop sp m n t1 p:Nat} {s:JS} {C C0:Nat→Bytes} {cl yo:Bool} {op:Op} {F Fs:Nat→Prop}
theorem Xn (hA:jP w fb sp d m n B P q s C0 C cl yo op Fs) (xt:w.cell? ⟨t1,0,none⟩=some (.pointer (some ⟨fb,0,none⟩))):
  Calls Tryz.prog 67 (#[.pointer (some ⟨p,0,none⟩)]++#[.pointer (some ⟨t1,0,none⟩)]) w λe w'=>(∃x,e=.returned x)∧∃F',lW w' sp d s C0 true F'∧Step Fs w F' w':=by
 have c0:=hA.cells.cell 0;simp only[zf] at c0;have HA:=U hA;clear hA;go_enter Tryz.func67,Tryz.ntmps67;go_wp2_with fail;refine(IW HA.o.p9).mono ?_;rintro e w1 ⟨rfl,h⟩;have HZ:=U h;clear h;go_wp2_with fail;refine(bY _).mono ?_;rintro e w2 ⟨⟨x,rfl⟩,rfl⟩;go_wp2_with fail;go_end0;exact⟨⟨_,rfl⟩,HZ.o⟩
theorem abG (h:fI v fb d B P q nop C cl yo op F) (hB:4≤B∧B≤3840) (Pq:Below v.heap.size v w) (xt:ah w t1 52 [.pointer (some ⟨fb,0,none⟩)]) (hq:q<1000000):
  Calls Tryz.prog 31 #[.pointer (some ⟨fb,0,none⟩),.func (.func 67) #[] #[.pointer (some ⟨t1,0,none⟩)]] w λe w'=>e=.returned (.int .i64 0)∧∃F',fI w' fb d B P q nop C true yo op F'∧Step F v F' w':=by
 have lN:∀args w,(callFunc 67 args).run Tryz.prog w=.ok (.enter 67 args) w:=λ_ _=>rfl;obtain⟨sp,m,s,C0,Fs,hA,rfl⟩:=h;have hV:=hA.base hB;have hd:=hV.yE;have tF:=Pq.size;obtain⟨w1,aP⟩:∃w1,w.alloc (.cells #[.int .i64 0] 26)=w1:=⟨_,rfl⟩
 obtain⟨aM,aF,hz1⟩:=boxes [([.int .i64 0],26)] w w1 (by rw[←aP];rfl);have x0:ah w1 w.heap.size 26 [.int .i64 0]:=aM 0 _ rfl;have AU:w1.heap.size=w.heap.size+1:=by simpa using hz1
 have uf:Quiet d v w1:=Quiet.of_below (Pq.trans (aF.mono tF));have QA:=hA.quiet uf;have c0:=QA.cells.cell 0;simp only[zf] at c0;have HA:=U hA;have HV:=U hV;have XT:=U xt;have Ef:=U aF;have Hq1:=U uf;have X0:=U x0;have Hvw:=U Pq;clear hA hV xt aF aM hz1 uf QA x0 Pq;go_enter_defers Tryz.func31,Tryz.ntmps31;go_wp2_with fail;refine wp_region_noPanic ?_;refine ak (S:=(λW=>W.cell? ⟨fb,0,none⟩=some (.pointer (some ⟨sp,0,none⟩)))) (m:=17) kQ c0 (λaj=>?_);refine te 0 aj ?_;refine te 1 aj ?_;refine te 2 aj ?_;refine te 3 aj ?_;refine te 4 aj ?_;refine te 5 aj ?_;refine te 7 aj ?_;refine te 8 aj ?_;refine te 9 aj ?_;refine te 10 aj ?_;refine te 11 aj ?_;refine rE 6 λK hK=>?_;go_simp;with_reducible refine(EA (sp:=sp) (C:=C) (Hq1.o.trans (Quiet.of_below (zn _ _).drew))).mono ?_
 rintro e w2 ⟨b,rfl,dZ,dh,aJ⟩;have dZ:w1.heap.size≤b:=dZ;have aJ:=((zn w1.heap.size w1).drew).trans aJ;have q2:=Hq1.o.trans (Quiet.of_below aJ);have H2:=U (And.intro dZ (And.intro dh (And.intro aJ q2)));clear dZ dh aJ;go_wp2_with fail;refine hK.out _ _ (λ_=>((HA.o.quiet q2).cells.cell 0)) (λhS=>?_);have bQ:=hS dQ;clear hS hK K
 try simp only[Act.put,zh,zk,zl]
 refine rE 12 λK hK=>?_;go_simp;with_reducible refine(Ev (HA.o.quiet q2).p9).mono ?_
 rintro e w3 ⟨rfl,bf⟩;rw[ajo HA.o.is.1 HA.o.is.2.1];have q3:=q2.trans (Quiet.of_below bf);have H3:=U (And.intro bf q3);clear bf;go_wp2_with fail;refine hK.out _ _ (λ_=>((HA.o.quiet q3).cells.cell 0)) (λhS=>?_);have bV:=hS dQ;clear hS hK K
 try simp only[Act.put,zh,zk,zl]
 refine te 13 bV ?_ (v:=(.int .i64 B)) (hy:=by intro W iR;(try dsimp only at iR);(go_simp;rfl));refine te 14 bV ?_;refine te 15 bV ?_;refine rE 16 λK hK=>?_;go_simp;refine hK.out _ _ (λ_=>((HA.o.quiet (q3.trans (Quiet.of_below ((zn _ _).alloc (zm _) _)))).cells.cell 0)) (λhS=>?_);have jd:=hS dQ;clear hS hK K
 try simp only[Act.put,zh,zk,zl]
 refine vF 17 ?_;refine aD ?_;obtain⟨dZ,dh,aJ,q2'⟩:=H2.o;obtain⟨bf,q3'⟩:=H3.o;obtain⟨w4,gH⟩:∃w4,w3.alloc (.cells #[.pointer (some ⟨b,0,none⟩),.int .i64 B] 87)=w4:=⟨_,rfl⟩
 have dX:Below w3.heap.size w3 w4:=by rw[←gH];exact(zn _ _).alloc (zm _) _
 have Iu:ah w4 w3.heap.size 87 [.pointer (some ⟨b,0,none⟩),.int .i64 B]:=by rw[←gH];exact ah.new w3 _ _
 have Ah:w4.heap.size=w3.heap.size+1:=by rw[←gH];simp
 have q4:=q3'.trans (Quiet.of_below dX);have nI:=(dh.lt b dh.own).2;have Ol:=bf.size;have AQ:=aJ.size;have yS:=bf.trans (dX.mono Ol);have tX:=aJ.trans (yS.mono AQ);have Fv:jI v w d B C sp w4 w3.heap.size b:=⟨HV.o,q4,oQ,λk h1 h2=>(tX.block k oQ).trans (Ef.o.block k h2),Iu,⟨oQ,oQ,oQ⟩,⟨[],dh.below yS,rfl,zm _⟩⟩
 have x4:=X0.o.below tX;obtain⟨p,hp⟩:∃p,w3.heap.size=p:=⟨_,rfl⟩
 rw[hp] at Fv Iu Ol Ah;have Rv:=U Fv;have avz:=U tX;have Tx:=U Iu;have rW:=U x4;have Hp:=U hp;clear dh aJ q2' bf q3' H2 H3 dX Iu q4 yS tX Fv x4 q2 q3 c0;go_wp2_with fail;have hA4:=HA.o.quiet Rv.o.quiet;have xt4:=((XT.o.below Ef.o).below avz.o).cell 0;simp only[zf] at xt4;refine(Xn hA4 xt4).mono ?_;rintro e w5 ⟨⟨x,rfl⟩,F5,uN,uG⟩;have Vy:∀k,Fs k→k<v.heap.size:=HA.o.p9.lt;have hg5:=HA.o.tab.1.size;have CB:=rW.o.step uG (λh=>by have:=Vy _ h;omega);have TN:=Tx.o.step uG (λh=>by have:=Vy _ h;omega);have c5:=TN.cell 0;have e0:=CB.cell 0;have f0:=CB.free 0;simp only[zf] at c5 e0;obtain⟨L,⟨pw,sw,pt,st,am,T,hb, -⟩, -,hL⟩:=Rv.o.Bd;have hL0:L.length=0:=oQ
 have hbc:=hb.cells.step uG (λh=>by have:=Vy _ h;omega);have oI:=hb.writes.keep (w':=w5) (λk hk=>by subst hk;exact uG.keep k (hb.lt k rfl).2 (.inl λh=>by have:=Vy _ h;omega));have BN:=uG.size;have Px:∀k,F5 k→Fs k∨w4.heap.size≤k:=uG.new
 have VG:jP w5 fb sp d m nop B P q s C0 C true yo op F5:=⟨hA4.cells.step uG HA.o.fs,hA4.map.step uG HA.o.ms,uN,HA.o.is,HA.o.con,uG.apart hA4.cells.lt HA.o.fs,uG.apart hA4.map.lt HA.o.ms,HA.o.few,hA4.tab.1.step uG HA.o.tab.2.1,λk hk=>by
  rcases Px k hk with h1|h1
  ·exact HA.o.tab.2.1 k h1
  ·omega,HA.o.tab.2.2⟩
 have ao5:Step (uE Fs fb m) v (uE F5 fb m) w5:=(HA.o.Od Rv.o.quiet).trans (uG.more (λk hk=>.inl hk) (λk hk=>by
  rcases hk with hk|hk
  ·rcases Px k hk with h1|h1
   ·exact .inl (.inl h1)
   ·exact .inr h1
  ·exact .inl (.inr hk)))
 have Yj:=U VG;have avB:=U ao5;have Ch:=U CB;have Hb5:=U (And.intro hbc oI);have avC:∀k,uE F5 fb m k→k≠w.heap.size:=λk hk e=>by
  rcases hk with hk|hk
  ·rcases Px k hk with h1|h1
   ·have:=Vy k h1
    omega
   ·omega
  ·have:=HA.o.lt k (.inr hk)
   omega
 clear VG ao5 CB hbc oI hb uN uG hA4 TN Px xt4 gH e0 f0;go_wp2_with fail;refine(Xm Hb5.o.1 Hb5.o.2).mono ?_;rintro e w5 ⟨rfl,rfl⟩;rw[hL0];have e0:=Ch.o.cell 0;have f0:=Ch.o.free 0;simp only[zf] at e0;go_wp2_with fail;obtain⟨w8,sZ⟩:∃w8,w5.setCell ⟨w.heap.size,0,none⟩ (.int .i64 0)=w8:=⟨_,rfl⟩
 have y8:ah w8 w.heap.size 26 [.int .i64 0]:=by rw[←sZ];exact Ch.o.aB 0 (.int .i64 0)
 have uO:Step (· =w.heap.size) w5 (· =w.heap.size) w8:=by rw[←sZ];exact Step.set1 (Ch.o.aV dQ) _ _
 rw[sZ];have y1:=y8.cell 0;simp only[zf] at y1;refine leaves_cons (f:=56) (args:=#[.pointer (some ⟨w.heap.size,0,none⟩)]) sQ (by simp[go_sem]) ?_;refine(Ru ⟨w.heap.size,0,none⟩ _).mono ?_;rintro e u' w9 ⟨rfl,rfl,rfl⟩;simp[Leaves,settle,results,Tryz.results31,go_sem,y1];exact⟨uE F5 fb m,⟨sp,m,s,C0,F5,Yj.o.step uO (λk hk=>avC k hk) (λk hk=>oQ),rfl⟩,avB.o.inner uO (λk hk=>.inr oQ)⟩
theorem Bl (h:fI v fb d B P q nop C cl yo op F) (hB:4≤B∧B≤3840) (hq:q<1000000):
  Calls Tryz.prog 34 #[.pointer (some ⟨fb,0,none⟩)] v λe w'=>e=.returned (.int .i64 0)∧∃F',fI w' fb d B P q nop C true yo op F'∧Step F v F' w':=by
 obtain⟨w1,aP⟩:∃w1,v.alloc (.cells #[.pointer (some ⟨fb,0,none⟩)] 52)=w1:=⟨_,rfl⟩
 obtain⟨aM,aF,hz1⟩:=boxes [([.pointer (some ⟨fb,0,none⟩)],52)] v w1 (by rw[←aP];rfl);have x0:ah w1 v.heap.size 52 [.pointer (some ⟨fb,0,none⟩)]:=aM 0 _ rfl;have c0:=x0.cell 0;simp only[zf] at c0;have HF:=U h;have HB:=U aF;have X0:=U x0;clear h aM aF hz1 x0;go_enter Tryz.func34,Tryz.ntmps34;go_wp2_with fail;refine(abG HF.o hB HB.o X0.o hq).mono ?_;rintro e w3 ⟨rfl,hS⟩;have HZ:=U hS;clear hS;go_wp2_with fail;go_ret;exact⟨rfl,HZ.o⟩
end
section
variable {v w w1:World} {fb sp d B P q nn b p t1 t2 t3:Nat} {C:Nat→Bytes} {cl yo:Bool} {op:Op} {G:Nat→Prop} {x f:Nd} {A T:nU} {s:Bytes}
theorem Tr.left {E E1:nR} {B:Nat} {x f:Nd} {s:Bytes} (h:Tr E B x [(f,s)]) (hc:Cg E E1 B 1 2 1 (b_ (ents [(f,s)])) x.D x.r x.R):mh E1 B f.id 1 1 f.c f.D f.r f.R:=by
 have h1:nT E B ([]++x::[f]):=h.disk;have nY:(b_ (ents [(f,s)]))=x.c:=h.root.2.2.symm;have Ls:fH E E1 B x.id (λb=>x.has b∧b≠x.id) (need x.c.length):=by
  have:=hc.freed;rw[nY] at this;unfold Nd.has;rw[h.root.1];exact this
 have h2:=h1.cut Ls (by rw[h.root.1,h.root.2.1];exact hc.wu);have h3:=h2.wu f sQ;unfold Nd.ok at h3;rw[(h.file (f,s) sQ).1] at h3;exact h3
end
section
variable {v w w1:World} {fb sp d B P q nn b p t1 t2 t3:Nat} {C:Nat→Bytes} {cl yo:Bool} {op:Op} {G:Nat→Prop} {x f:Nd} {A T:nU} {s:Bytes}
theorem Xr {ln:Nat} (hj:jI v w d B C sp w1 p b) (hT:Tr C B x (A++(f,s)::T)) (hs:nm s=true) (Ap:f.c.length=ln)
  (x1:ah w1 t1 9 [.string ⟨(47::s).toArray⟩]) (x2:ah w1 t2 32 [.int .i64 0,.int .i64 0,.int .i64 0]) (n2:t2≠b∧v.heap.size≤t2∧t2≠p):
  Calls Tryz.prog 163 (#[.pointer (some ⟨p,0,none⟩)]++#[.pointer (some ⟨t1,0,none⟩),.pointer (some ⟨t2,0,none⟩)]) w1 λe w2=>(∃x,e=.returned x)∧∃E' F2,(E'=C∧ah w2 t2 32 [.int .i64 1,.int .i64 1,.int .i64 ln])∧cB v w2 b sp d C E' 0 F2∧Mv d v (λk=>k=b∨k=t2) w1 (λk=>F2 k∨k=t2) w2:=by
 obtain⟨hV,hq,gJ,iX,hp,⟨sV,iA,pY⟩,nD⟩:=hj;have hB:=hT.big;have c1:=x1.cell 0;simp only[zf] at c1;have fB:=hp.lt;have Tq:=x2.lt;have eX:=hV.yE;have hvq:=hq.size;have hpt:=hT.parts;have nI:b<w1.heap.size:=(nD.lt b rfl).2;have Ac:=hT.few;have HV:=U hV;have HP:=U hp;have HS:=U nD;have HT:=U hT;have X2:=U x2;have Hs:=U hs;have Hq:=U hq;have Hpt:=U hpt;have Jr:=U Ap;clear hV hp nD hT x1 x2 hs hq iX hpt Ap;go_enter Tryz.func163,Tryz.ntmps163;go_wp2_with fail;refine(kD (pJ Hs.o) w1).mono ?_;rintro e w2 ⟨a,c,rfl,ho,aJ⟩;obtain⟨g,rfl⟩:=nC ho sQ;have jr:=ho.cell 0 sQ;have l7:=eu ho;have jr:w2.cell? ⟨g,0,none⟩=some (.string ⟨s.toArray⟩):=jr;have bH:=U aJ;have hz2:=aJ.size;have HG:=U jr;rw[zY];clear ho aJ c1 jr;go_wp2_with fail;refine(mP (kk:=1) (za:=f.id) (HP.o.below bH.o) HV.o (HS.o.below bH.o) HT.o.wF (by rw[bJ];omega) HT.o.Fq (.inr ⟨rfl,g,s,rfl,l7.2.1,HG.o,A.length,(f.id,s),Hpt.o.1,Hpt.o.2,rfl⟩)).mono ?_;rintro e w3 ⟨rfl,F3,h3,dP⟩;have h3:cB v w3 b sp d C C 0 F3:=h3;have p3:=dP.aW (HP.o.below bH.o) dQ pY;have k3:=dP.aW (X2.o.below bH.o) dQ n2.1;have Xc:=dP.apart (show p<w2.heap.size by omega) pY;have Oz:=dP.apart (show t2<w2.heap.size by omega) n2.1;have mF:=dP.size;have vX:=U (mvY (X:=(· =t2)) (Mv.after bH.o dP Hq.o (λk hk=>by subst hk;omega)) (λk hk=>by subst hk;exact⟨n2.2.1,Tq⟩));have Dc:=U (And.intro p3 k3);have H3:=U h3;clear h3 dP p3 k3;go_wp2_with fail;refine(Bg Dc.o.1 HV.o H3.o (HT.o.Cz (s:=s) (f:=f) sQ) Jr.o).mono ?_;rintro e w5 ⟨rfl,F5,h5,fu⟩;have h5:cB v w5 b sp d C C 0 F5:=h5;have k5:=fu.aW Dc.o.2 dQ Oz;have nk5:=fu.apart (show t2<w3.heap.size by omega) Oz;have BN:=fu.size;have HM5:=U (vX.o.trans (mvY (X:=(· =t2)) fu (λk hk=>by subst hk;exact⟨n2.2.1,oQ⟩)));have Yt:=U k5;have H5:=U h5;clear h5 fu k5;have Ld:(nd 1 1 (ln:Int) f.D f.r).length=20:=cO _ _ _ _ _ (HT.o.Cz (s:=s) (f:=f) sQ).iW.ld;have hN0:(nd 1 1 (ln:Int) f.D f.r)[0]? =some 1:=rfl;have AL:(nd 1 1 (ln:Int) f.D f.r)[1]? =some 1:=rfl;have Yp:(nd 1 1 (ln:Int) f.D f.r)[2]? =some (ln:Int):=rfl;obtain⟨N,hN⟩:∃N,nd 1 1 (ln:Int) f.D f.r=N:=⟨_,rfl⟩
 rw[hN] at Ld hN0 AL Yp ⊢;have fU:(Tryz.prog.info? 138).map (·.size)=some N.length:=by rw[Ld];kernel_rfl
 have Hi:=U fU;have HN:=U (And.intro hN0 (And.intro AL Yp));have Hl:=U (show(aS aQ).length=N.length by rw[Ld,aO];rfl);have jR:=U (show Below w5.heap.size w5 (w5.alloc (.cells (aL aQ) 138)) from(zn _ _).alloc (zm _) _);clear fU hN0 AL Yp hN Ld;have n25:t2≠w5.heap.size:=oQ
 have n52:w5.heap.size≠t2:=oQ
 go_wp2_with (first|(refine Great.wpList_runTo rfl _ rfl _ _ (bg (t:=138) rfl (Z:=aQ) kQ) ?_)|(refine aK rfl 138 _ _ rfl w5.heap.size N (aS aQ) 138 rfl rfl (IsNode.new w5 138 aQ) Hl.o Hi.o ?_;intro w6 hn6 xK xL;have c0:=hn6.cell 0 _ HN.o.1;have c1:=hn6.cell 1 _ HN.o.2.1;have c2:=hn6.cell 2 _ HN.o.2.2;have sI:=U (jR.o.trans (xK.below _ (zm _) jR.o.size));have t6:=Yt.o.below sI.o;have u0:=t6.cell 0;have u1:=t6.cell 1;have u2:=t6.cell 2;have v0:=t6.free 0;have v1:=t6.free 1;have v2:=t6.free 2;simp only[zf,zi] at u0 u1 u2;have T6:=U t6;clear t6 hn6 xK));obtain⟨w7,BD⟩:∃w7,((w6.setCell ⟨t2,0,none⟩ (.int .i64 1)).setCell ⟨t2,1,none⟩ (.int .i64 1)).setCell ⟨t2,2,none⟩ (.int .i64 ln)=w7:=⟨_,rfl⟩
 have y7:ah w7 t2 32 [.int .i64 1,.int .i64 1,.int .i64 ln]:=by rw[←BD];exact((T6.o.aB 0 (.int .i64 1)).aB 1 (.int .i64 1)).aB 2 (.int .i64 ln)
 have k7:Kept t2 w6 w7:=by rw[←BD];exact((Kept.setCell _ _ _).trans (Kept.setCell _ _ _)).trans (Kept.setCell _ _ _)
 rw[BD];go_end0;have h6:=H5.o.below sI.o;have rz:=(HM5.o.below sI.o).kept k7 (.inl (.inr rfl));exact⟨⟨_,rfl⟩,C,F5,⟨rfl,y7⟩,h6.keep (λk hk=>k7.block k (h6.lt k hk).2 (λe=>nk5 (e▸hk))) rz.q' k7.size,rz⟩
theorem Xt {ln:Nat} (h:fI v fb d B P q nn C cl yo op G) (hT:Tr C B x (A++(f,s)::T)) (hq:q<1000000) (hs:nm s=true) (Ap:f.c.length=ln):
  Calls Tryz.prog 97 #[.pointer (some ⟨fb,0,none⟩),.string ⟨(47::s).toArray⟩] v λe w'=>e=.returned (.tuple #[.agg #[.int .i64 1,.int .i64 1,.int .i64 ln],.int .i64 0])∧fI w' fb d B P q nn C cl yo op G∧Step G v G w'∧Quiet d v w':=by
 obtain⟨w1,aP⟩:∃w1,((v.alloc (.cells #[.string ⟨(47::s).toArray⟩] 9)).alloc (.cells #[.int .i64 0,.int .i64 0,.int .i64 0] 32)).alloc (.cells #[.int .i64 0,.int .i64 0,.int .i64 0] 32)=w1:=⟨_,rfl⟩
 obtain⟨aM,aF,hz1⟩:=boxes [([.string ⟨(47::s).toArray⟩],9),([.int .i64 0,.int .i64 0,.int .i64 0],32),([.int .i64 0,.int .i64 0,.int .i64 0],32)] v w1 (by rw[←aP];rfl);have x0:ah w1 v.heap.size 9 [.string ⟨(47::s).toArray⟩]:=aM 0 _ rfl;have x1:ah w1 (v.heap.size+1) 32 [.int .i64 0,.int .i64 0,.int .i64 0]:=aM 1 _ rfl;have x2:ah w1 (v.heap.size+2) 32 [.int .i64 0,.int .i64 0,.int .i64 0]:=aM 2 _ rfl;have vR:w1.heap.size=v.heap.size+3:=by simpa using hz1
 have wT:=U aP;have HF:=U h;have HB:=U aF;have X0:=U x0;have X1:=U x1;have X2:=U x2;have HT:=U hT;have Hs:=U hs;clear h aM aF hz1 x0 x1 x2 aP hT hs;go_enter Tryz.func97,Tryz.ntmps97;go_wp2_with fail;rw[wT.o];refine(jJ HF.o HT.o.big HB.o hq (n':=0) oQ (fn:=163) (λ_ _=>rfl) (X:=(· =v.heap.size+2)) (λk h=>by subst h;omega) (PE:=λE' W=>E'=C∧ah W (v.heap.size+2) 32 [.int .i64 1,.int .i64 1,.int .i64 ln]∧ah W (v.heap.size+1) 32 [.int .i64 0,.int .i64 0,.int .i64 0]) (λE' W h=>by rw[h.1];exact HT.o.o) (λsp w2 p b hj=>?_)).mono ?_
 ·have Lv:=hj.new
  refine(Xr hj HT.o Hs.o Ap (hj.aW X0.o oQ) (hj.aW X2.o oQ) ⟨oQ,oQ,oQ⟩).mono ?_;rintro e w3 ⟨hx,E',F2,⟨h1,h2⟩,h3,h4⟩;exact⟨hx,E',F2,⟨h1,h2,h4.aW (hj.aW X1.o oQ) dQ oQ⟩,h3,h4⟩
 rintro e w3 ⟨rfl,E',w2,⟨rfl,oD,wJ⟩,hD⟩;obtain⟨q',cl',F',hS,bT, -,GZ, -⟩:=hD.ex;obtain⟨rfl,rfl,rfl⟩:=GZ rfl;have HQ:=U (hD.quiet rfl);have xW:=hD.ge;have y2:ah w3 (v.heap.size+2) 32 [.int .i64 1,.int .i64 1,.int .i64 ln]:=(hD.keep _ oQ oD.lt oQ).trans oD;have y1:ah w3 (v.heap.size+1) 32 [.int .i64 0,.int .i64 0,.int .i64 0]:=(hD.keep _ oQ wJ.lt oQ).trans wJ;have HS:=U (And.intro hS bT);have HY:=U y1;have z0:=y2.cell 0;have z1:=y2.cell 1;have z2:=y2.cell 2;have g0:=y1.cell 0;have g1:=y1.cell 1;have g2:=y1.cell 2;have k0:=y1.free 0;have k1:=y1.free 1;have k2:=y1.free 2;simp only[zf,zi] at z0 z1 z2 g0 g1 g2;have hGv:=HF.o.lt;have h5v:=HF.o.ge.2.size;have HLt:=U (And.intro hGv h5v);clear hS bT hD oD wJ y1 y2 xW hGv h5v;go_wp2_with fail;obtain⟨w7,BD⟩:∃w7,((w3.setCell ⟨v.heap.size+1,0,none⟩ (.int .i64 1)).setCell ⟨v.heap.size+1,1,none⟩ (.int .i64 1)).setCell ⟨v.heap.size+1,2,none⟩ (.int .i64 ln)=w7:=⟨_,rfl⟩
 have y7:ah w7 (v.heap.size+1) 32 [.int .i64 1,.int .i64 1,.int .i64 ln]:=by rw[←BD];exact((HY.o.aB 0 (.int .i64 1)).aB 1 (.int .i64 1)).aB 2 (.int .i64 ln)
 have s7:Step (· =v.heap.size+1) w3 (· =v.heap.size+1) w7:=by
  rw[←BD];exact((Step.set1 (HY.o.aV dQ) 0 _).trans (Step.set1 ((HY.o.aB 0 _).aV dQ) 1 _)).trans (Step.set1 (((HY.o.aB 0 _).aB 1 _).aV dQ) 2 _)
 rw[BD];have d0:=y7.cell 0;have d1:=y7.cell 1;have d2:=y7.cell 2;simp only[zf,zi] at d0 d1 d2
 (try simp only[Exit.inBlock,Exit.then])
 refine bodyPost_ret (v:=.tuple #[.agg #[.int .i64 1,.int .i64 1,.int .i64 ln],.int .i64 0]) (by simp[results,Tryz.f97,go_sem,d0,d1,d2]) rfl ⟨rfl,HS.o.1.step s7 (λk hk e=>by have:=HLt.o.1 k hk;omega) (λk hk=>by have:=HLt.o.2;omega),HS.o.2.inner s7 (λk hk=>.inr oQ),?_⟩;refine HQ.o.kept (r:=v.heap.size+1) (w':=w7) ?_ oQ (HF.o.lt _ HF.o.own.1);rw[←BD];exact((Kept.setCell _ _ _).trans (Kept.setCell _ _ _)).trans (Kept.setCell _ _ _)
end
section
variable {v w w1:World} {fb sp d B P q nn b p t1 t2 t3 t4:Nat} {C:Nat→Bytes} {cl yo:Bool} {op:Op} {G:Nat→Prop} {x f:Nd} {A T:nU} {s:Bytes}
theorem Xu {off m ln:Nat} (hj:jI v w d B C sp w1 p b) (hT:Tr C B x (A++(f,s)::T)) (hs:nm s=true) (ho:off<f.c.length) (hf:off<1000000) (hm:1≤m∧m≤4096) (Ap:min m (f.c.length - off)=ln)
  (x1:ah w1 t1 9 [.string ⟨(47::s).toArray⟩]) (x2:ah w1 t2 3 [.int .i64 off]) (x3:ah w1 t3 3 [.int .i64 m]) (x4:ah w1 t4 22 [.slice none 0 0]) (n2:t2≠b) (n3:t3≠b) (n4:t4≠b∧v.heap.size≤t4∧t4≠p∧t4≠t2∧t4≠t3):
  Calls Tryz.prog 176 (#[.pointer (some ⟨p,0,none⟩)]++#[.pointer (some ⟨t1,0,none⟩),.pointer (some ⟨t2,0,none⟩),.pointer (some ⟨t3,0,none⟩),.pointer (some ⟨t4,0,none⟩)]) w1 λe w2=>(∃x,e=.returned x)∧∃E' F2,(E'=C∧∃g,ah w2 t4 22 [.slice (some ⟨g,0,none⟩) ln ln]∧w1.heap.size≤g∧g<w2.heap.size∧cZ w2 (some ⟨g,0,none⟩) ((f.c.drop off).take m))∧cB v w2 b sp d C E' 0 F2∧Mv d v (λk=>k=b∨k=t4) w1 (λk=>F2 k∨k=t4) w2:=by
 obtain⟨hV,hq,gJ,iX,hp,⟨sV,iA,pY⟩,nD⟩:=hj;have hB:=hT.big;have c1:=x1.cell 0;have c2:=x2.cell 0;have c3:=x3.cell 0;simp only[zf] at c1 c2 c3;have fB:=hp.lt;have Tq:=x4.lt;have an0:=x2.lt;have ai4:=x3.lt;have eX:=hV.yE;have hvq:=hq.size;have hpt:=hT.parts;have nI:b<w1.heap.size:=(nD.lt b rfl).2;have Ac:=hT.few;have HV:=U hV;have HP:=U hp;have HS:=U nD;have HT:=U hT;have X2:=U x2;have X3:=U x3;have X4:=U x4;have Hs:=U hs;have Hq:=U hq;have Hpt:=U hpt;have Jr:=U Ap;have Ho:=U ho;have eD:(0:Int)≤(m:Int):=oQ
 have bC:(m:Int)≤4096:=oQ
 have Yn:(0:Int)≤(off:Int):=oQ
 clear hV hp nD hT x1 x2 x3 x4 hs hq iX hpt Ap ho;go_enter Tryz.func176,Tryz.ntmps176;go_wp2_with fail;refine(kD (pJ Hs.o) w1).mono ?_;rintro e w2 ⟨a,c,rfl,ho,aJ⟩;obtain⟨g,rfl⟩:=nC ho sQ;have jr:=ho.cell 0 sQ;have l7:=eu ho;have jr:w2.cell? ⟨g,0,none⟩=some (.string ⟨s.toArray⟩):=jr;have bH:=U aJ;have hz2:=aJ.size;have HG:=U jr;have e2:=(X2.o.below aJ).cell 0;have e3:=(X3.o.below aJ).cell 0;simp only[zf] at e2 e3;rw[zY];clear ho aJ c1 c2 c3 jr;go_wp2_with fail;refine(pI _).mono ?_;rintro e Gj ⟨⟨u,rfl⟩,rfl⟩;go_wp2_with fail;refine(mP (kk:=1) (za:=f.id) (HP.o.below bH.o) HV.o (HS.o.below bH.o) HT.o.wF (by rw[bJ];omega) HT.o.Fq (.inr ⟨rfl,g,s,rfl,l7.2.1,HG.o,A.length,(f.id,s),Hpt.o.1,Hpt.o.2,rfl⟩)).mono ?_;rintro e w3 ⟨rfl,F3,h3,dP⟩;have h3:cB v w3 b sp d C C 0 F3:=h3;have p3:=dP.aW (HP.o.below bH.o) dQ pY;have i3:=dP.aW (X2.o.below bH.o) dQ n2;have j3:=dP.aW (X3.o.below bH.o) dQ n3;have k3:=dP.aW (X4.o.below bH.o) dQ n4.1;have Xc:=dP.apart (show p<Gj.heap.size by omega) pY;have ni3:=dP.apart (show t2<Gj.heap.size by omega) n2;have nj3:=dP.apart (show t3<Gj.heap.size by omega) n3;have Oz:=dP.apart (show t4<Gj.heap.size by omega) n4.1;have mF:=dP.size;have vX:=U (mvY (X:=(· =t4)) (Mv.after bH.o dP Hq.o (λk hk=>by subst hk;omega)) (λk hk=>by subst hk;exact⟨n4.2.1,Tq⟩));have Dc:=U (And.intro p3 (And.intro i3 (And.intro j3 k3)));have H3:=U h3;clear h3 dP p3 i3 j3 k3 e2 e3;go_wp2_with fail;refine(Bh Dc.o.1 HV.o H3.o (HT.o.Cz (s:=s) (f:=f) sQ) rfl).mono ?_;rintro e w5 ⟨rfl,F5,h5,fu⟩;have h5:cB v w5 b sp d C C 0 F5:=h5;have p5:=fu.aW Dc.o.1 dQ Xc;have i5:=fu.aW Dc.o.2.1 dQ ni3;have j5:=fu.aW Dc.o.2.2.1 dQ nj3;have k5:=fu.aW Dc.o.2.2.2 dQ Oz;have nk5:=fu.apart (show t4<w3.heap.size by omega) Oz;have BN:=fu.size;have HM5:=U (vX.o.trans (mvY (X:=(· =t4)) fu (λk hk=>by subst hk;exact⟨n4.2.1,oQ⟩)));have Yt:=U (And.intro p5 k5);have H5:=U h5;have e2:=i5.cell 0;have e3:=j5.cell 0;simp only[zf] at e2 e3;obtain⟨N,hN⟩:∃N,nd 1 1 (f.c.length:Int) f.D f.r=N:=⟨_,rfl⟩
 rw[hN];clear h5 fu p5 i5 j5 k5 hN;go_wp2_with fail;refine(RG (q:=ln) Yt.o.1 HV.o H5.o (HT.o.Cz (s:=s) (f:=f) sQ) Ho.o oQ Jr.o).mono ?_;rintro e w6 ⟨g6,rfl,hg6,ho6,F6,h6,ng6,tL⟩;have h6:cB v w6 b sp d C C 0 F6:=h6;have k6:=tL.aW Yt.o.2 dQ nk5;have nk6:=tL.apart (show t4<w5.heap.size by omega) nk5;have U5:=tL.size;have f6:=k6.free 0;have e6:=k6.cell 0;simp only[zf] at e6;have HM6:=U (HM5.o.trans (mvY (X:=(· =t4)) tL (λk hk=>by subst hk;exact⟨n4.2.1,oQ⟩)));have HO6:=U (And.intro k6 (And.intro ho6 h6));clear h6 tL ho6 k6 e2 e3;go_wp2_with fail;obtain⟨w7,BD⟩:∃w7,w6.setCell ⟨t4,0,none⟩ (.slice (some ⟨g6,0,none⟩) ln ln)=w7:=⟨_,rfl⟩
 have y7:ah w7 t4 22 [.slice (some ⟨g6,0,none⟩) ln ln]:=by rw[←BD];exact HO6.o.1.aB 0 _
 have k7:Kept t4 w6 w7:=by rw[←BD];exact Kept.setCell _ _ _
 rw[BD];go_end0;have rz:=HM6.o.kept k7 (.inl (.inr rfl));have h6:=HO6.o.2.2;exact⟨⟨_,rfl⟩,C,F6,⟨rfl,g6,y7,oQ,by have:=(eu HO6.o.2.1).2.1;have:=k7.size;omega,(HO6.o.2.1.kept k7 (λg' e=>by injection e with e;injection e with e;omega)).pR⟩,h6.keep (λk hk=>k7.block k (h6.lt k hk).2 (λe=>nk6 (e▸hk))) rz.q' k7.size,rz⟩
theorem cZ.ae2 {w w':World} {g o:Nat} {l:Bytes} (h:cZ w (some ⟨g,o,none⟩) l) (e:w'.heap[g]? =w.heap[g]?):cZ w' (some ⟨g,o,none⟩) l:=by
 rcases h with h|⟨g',o',Cc,fr,e1,e2,e3⟩
 ·exact .inl h
 ·refine .inr ⟨g',o',Cc,fr,e1,?_,e3⟩
  injection e1 with e1;injection e1 with e1;subst e1;rw[e,e2]
theorem Xv {off m ln:Nat} (h:fI v fb d B P q nn C cl yo op G) (hT:Tr C B x (A++(f,s)::T)) (hq:q<1000000) (hs:nm s=true) (ho:off<f.c.length) (hf:off<1000000) (hm:1≤m∧m≤4096) (Ap:min m (f.c.length - off)=ln):
  Calls Tryz.prog 108 #[.pointer (some ⟨fb,0,none⟩),.string ⟨(47::s).toArray⟩,.int .i64 off,.int .i64 m] v λe w'=>∃g,e=.returned (.tuple #[.slice (some ⟨g,0,none⟩) ln ln,.int .i64 0])∧cZ w' (some ⟨g,0,none⟩) ((f.c.drop off).take m)∧v.heap.size≤g∧g<w'.heap.size∧fI w' fb d B P q nn C cl yo op G∧Step G v G w'∧Quiet d v w':=by
 obtain⟨w1,aP⟩:∃w1,(((v.alloc (.cells #[.string ⟨(47::s).toArray⟩] 9)).alloc (.cells #[.int .i64 off] 3)).alloc (.cells #[.int .i64 m] 3)).alloc (.cells #[.slice none 0 0] 22)=w1:=⟨_,rfl⟩
 obtain⟨aM,aF,hz1⟩:=boxes [([.string ⟨(47::s).toArray⟩],9),([.int .i64 off],3),([.int .i64 m],3),([.slice none 0 0],22)] v w1 (by rw[←aP];rfl);have x0:ah w1 v.heap.size 9 [.string ⟨(47::s).toArray⟩]:=aM 0 _ rfl;have x1:ah w1 (v.heap.size+1) 3 [.int .i64 off]:=aM 1 _ rfl;have x2:ah w1 (v.heap.size+2) 3 [.int .i64 m]:=aM 2 _ rfl;have x3:ah w1 (v.heap.size+3) 22 [.slice none 0 0]:=aM 3 _ rfl;have vR:w1.heap.size=v.heap.size+4:=by simpa using hz1
 have wT:=U aP;have HF:=U h;have HB:=U aF;have X0:=U x0;have X1:=U x1;have X2:=U x2;have X3:=U x3;have HT:=U hT;have Hs:=U hs;have Jr:=U Ap;have Ho:=U ho;clear h aM aF hz1 x0 x1 x2 x3 aP hT hs Ap ho;go_enter Tryz.func108,Tryz.ntmps108;go_wp2_with fail;rw[wT.o];refine(jJ HF.o HT.o.big HB.o hq (n':=0) oQ (fn:=176) (λ_ _=>rfl) (X:=(· =v.heap.size+3)) (λk h=>by subst h;omega) (PE:=λE' W=>E'=C∧∃g,ah W (v.heap.size+3) 22 [.slice (some ⟨g,0,none⟩) ln ln]∧w1.heap.size+1≤g∧g<W.heap.size∧cZ W (some ⟨g,0,none⟩) ((f.c.drop off).take m)) (λE' W h=>by rw[h.1];exact HT.o.o) (λsp w2 p b hj=>?_)).mono ?_
 ·have Lv:=hj.new
  have hjs:=hj.size;have nI:=(hj.Bd.lt b rfl).2;refine(Xu hj HT.o Hs.o Ho.o hf hm Jr.o (hj.aW X0.o oQ) (hj.aW X1.o oQ) (hj.aW X2.o oQ) (hj.aW X3.o oQ) oQ oQ ⟨oQ,oQ,oQ,oQ,oQ⟩).mono ?_;rintro e w3 ⟨hx,E',F2,⟨h1,g,h2,h3,h5⟩,h4⟩;exact⟨hx,E',F2,⟨h1,g,h2,oQ,h5⟩,h4⟩
 rintro e w3 ⟨rfl,E',w2,⟨rfl,g,oD,FZ,wQ,dO⟩,hD⟩;obtain⟨q',cl',F',hS,bT, -,GZ, -⟩:=hD.ex;obtain⟨rfl,rfl,rfl⟩:=GZ rfl;have HQ:=U (hD.quiet rfl);have xW:=hD.ge;have y2:ah w3 (v.heap.size+3) 22 [.slice (some ⟨g,0,none⟩) ln ln]:=(hD.keep _ oQ oD.lt oQ).trans oD;have HS:=U (And.intro (And.intro hS bT) (dO.ae2 (hD.keep g oQ wQ oQ)));have z2:=y2.cell 0;simp only[zf] at z2;clear hS bT hD oD y2 dO;go_wp2_with fail;go_ret2;exact⟨g,rfl,HS.o.2,oQ,oQ,HS.o.1.1,HS.o.1.2,HQ.o⟩
end
end
end Go.Proofs.YtdjdpeadohobmaaGreatDoor
