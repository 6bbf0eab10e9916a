/- A part of the walk below the law: what is proved here is used by later parts; no further condition. -/
import Derived.Test.YtdjdpeadohobmaaGreatDoorK02
import Derived.Test.YtdjdpeadohobmaaGreatDoorK06
import Derived.Test.YtdjdpeadohobmaaGreatDoorK32
set_option linter.unusedVariables false
set_option linter.unusedSimpArgs false
set_option maxRecDepth 100000
set_option maxHeartbeats 20000000
namespace Go.Proofs.YtdjdpeadohobmaaGreatDoor
section
open Go.RowKit Go.Shelf Go.Maps O
attribute [local go_sem] Oper.semAt_some
structure Wrote (E E':nR) (B id:Nat) (k l:Int) (c c':Bytes) (D:List Int) (r:Int) (R D':List Int) (r':Int) (R':List Int):Prop where
 wu:mh E' B id k l c' D' r' R'
 grow:Grow E E' (Has id D r R c.length) (Has id D' r' R' c'.length)
 num:cnt (E' 0) B+need c.length=cnt (E 0) B+need c'.length
structure Wrt (E E':nR) (B id:Nat) (c c':Bytes) (D:List Int) (r:Int) (R D':List Int) (r':Int) (R':List Int):Prop where
 iW:uz E' B id D' r' R' c'
 grow:Grow E E' (Has id D r R c.length) (Has id D' r' R' c'.length)
 num:cnt (E' 0) B+need c.length=cnt (E 0) B+need c'.length
 row0:fT c'.length≤16→R'=aT
section
variable {v w:World} {sp d B p b n id:Nat} {C E:Nat→Bytes} {F:Nat→Prop} {k l:Int} {c dd:Bytes} {D R:List Int} {r:Int}
theorem Wrt.step {E E1 E2:nR} {B id:Nat} {c c1 d:Bytes} {D D1 D2 R R1 R2:List Int} {r r1 r2:Int} {i o pp:Nat} {pb:Bytes} (h:Wrt E E1 B id c c1 D r R D1 r1 R1) (ho:Db E1 B id D1 r1 R1 c1 i o pp pb E2 D2 r2 R2 d.length) (dw:480*i+o≤c1.length):
  Wrt E (λx=>if x=pp then ow pb o d else E2 x) B id c (ow c1 (480*i+o) d) D r R D2 r2 R2:=by
 obtain⟨h1,h2,h3,h4⟩:=ho;obtain⟨g1,g2,g3,g4⟩:=h4 d rfl;have e0:(if(0:Nat)=pp then ow pb o d else E2 0)=E2 0:=if_neg (λe=>h1 e.symm);refine⟨g1,h.grow.trans g2,?_,λhn=>?_⟩
 ·show cnt (if(0:Nat)=pp then ow pb o d else E2 0) B+_=_
  rw[e0];have:=h.num;omega
 ·rw[g4 hn]
  refine h.row0 (zC (N7 ?_) hn);rw[iP dw];omega
theorem KW {p t1 t2 t3 off len ga oa cd:Nat} (hV:Base v sp d B C) (h:Wk v w p b sp d B C E n F) (nM:1≤n) (hF:mh E B id k l c D r R) (x1:ah w t1 3 [.int .i64 id]) (x2:ah w t2 3 [.int .i64 off]) (x3:ah w t3 22 [.slice (some ⟨ga,oa,none⟩) len cd]) (n1:¬F t1) (n2:¬F t2) (n3:¬F t3)
  (dO:cZ w (some ⟨ga,oa,none⟩) dd) (eX:dd.length=len) (Ak:ga<w.heap.size∧¬F ga) (hlen:1≤len∧len≤4096) (Aq:len≤cd) (ho:off≤c.length) (hf:off+len≤122880) (hz:aG (E 0) 0=true) (dx:cnt (E 0) B+need (max c.length (off+len))≤B+need c.length):
  Calls Tryz.prog 233 #[.pointer (some ⟨p,0,none⟩),.pointer (some ⟨t1,0,none⟩),.pointer (some ⟨t2,0,none⟩),.pointer (some ⟨t3,0,none⟩)] w λe w'=>(∃x,e=.returned x)∧∃E' D' r' R' F',Wrote E E' B id k l c (ow c off dd) D r R D' r' R'∧Wk v w' p b sp d B C E' (n+12) F'∧Mv d v F w F' w':=by
 have c1:=x1.cell 0;have c2:=x2.cell 0;have c3:=x3.cell 0;simp only[zf] at c1 c2 c3;have gD:=hF.iW.few;have hB:=hV.few;obtain⟨s,hs⟩:∃s,c.length=s:=⟨_,rfl⟩
 have Hs:=U hs;rw[hs] at ho dx gD;clear hs;have H:=U h;have HV:=U hV;have HF:=U hF;have X1:=U x1;have X2:=U x2;have X3:=U x3;have pU:=U dO;have tC:=U eX;have Hz:=U hz;have Fe:=U dx;have iK:=U h.lt;clear h hV hF x1 x2 x3 dO eX hz dx;go_enter Tryz.func233,Tryz.ntmps233;go_wp2_with fail;refine(mM HV.o H.o HF.o).mono ?_;rintro e w1 ⟨hb,rfl,xk,hH,F1,h1,lJ,eD⟩;rw[Hs.o] at hH;have y2:=eD.aW X2.o dQ n2;have y3:=eD.aW X3.o dQ n3;have m2:¬F1 t2:=eD.apart X2.o.lt n2;have m3:¬F1 t3:=eD.apart X3.o.lt n3;have mg:¬F1 ga:=eD.apart Ak.1 Ak.2;have by1:=eD.pR pU.o (λg o e=>by injection e with e;injection e with e;subst e;exact Ak.2);have d2:=y2.cell 0;have d3:=y3.cell 0;simp only[zf] at d2 d3;have an0:=X2.o.lt;have ai4:=X3.o.lt;have hhl:=hH.1.lt;have hvh:v.heap.size≤hb:=zC H.o.quiet.size xk;have H1:=U h1;have HH:=U hH;have Y2:=U y2;have Y3:=U y3;have By1:=U by1
 have CZ:Hid (Mv d v F w (λx=>F1 x∨x=hb) w1):=U (eD.more (λ_ h=>h) iK.o (λx hx=>by
  rcases hx with hx|rfl
  ·exact .inr (.inl hx)
  ·exact .inr (.inr ⟨xk,hhl⟩)))
 have agB:(0:Int)≤off:=oQ
 have hl4:(len:Int)≤4096:=oQ
 have fA:IntKind.i64.wrap (122880 - (len:Int))=122880 - (len:Int):=by rw[zG];omega
 have hle:(off:Int)≤122880 - (len:Int):=oQ
 have Ap:¬((len:Int)=0):=oQ
 clear h1 eD hH y2 y3 by1 c1 c2 c3;go_wp2_with fail;refine(o_ _).mono ?_;rintro e w1 ⟨⟨x,rfl⟩,rfl⟩;clear hle fA hl4;go_wp2_with fail
 have W0:=U (show Wrt E E B id c (ow c off (dd.take 0)) D r R D r R by
  rw[zaA,aiR];exact⟨HF.o.iW,Grow.refl HF.o.iW.bit,rfl,HF.o.row0⟩)
 clear d2 d3;have aaO:((len:Int)==0)=false:=by
  rw[beq_eq_false_iff_ne];exact Ap
 rw[aaO];clear aaO Ap;go_loopw [6] (λvv wr=>∃(x t:Nat) (F':Nat→Prop) (Ex:nR) (Dx:List Int) (rx:Int) (Rx:List Int),x≤len∧vv=.int .i64 x∧(t+off / 480≤fT (off+x)∧((x=0∧t=0)∨(off+x)%480=0∨x=len))∧Wrt E Ex B id c (ow c off (dd.take x)) D r R Dx rx Rx∧Wk v wr p b sp d B C Ex (n+t) F'∧(¬F' hb∧¬F' t2∧¬F' t3∧¬F' ga)∧bE wr hb id k l s Dx rx Rx∧ah wr t2 3 [.int .i64 off]∧ah wr t3 22 [.slice (some ⟨ga,oa,none⟩) len cd]∧cZ wr (some ⟨ga,oa,none⟩) dd∧Mv d v F w (λx=>F' x∨x=hb) wr) (λvv _=>len - (intOf vv).toNat)
 case atStart=>exact⟨0,0,F1,E,D,r,R,oQ,rfl,⟨by unfold fT;omega,.inl ⟨rfl,rfl⟩⟩,W0.o,H1.o,⟨lJ,m2,m3,mg⟩,HH.o,Y2.o,Y3.o,By1.o,CZ.o⟩
 case round=>
  obtain⟨x,t,F',Ex,Dx,rx,Rx,hx,rfl,ht,xP,hW,hn,Pw,hT2,hT3,hBy,hM⟩:=hrel;have HWr:=U xP;have HW:=U hW;have vo:=U Pw;have iY:=U hT2;have jo:=U hT3;have HBy:=U hBy;have HM:=U hM;have Ht:=U ht;obtain⟨nb,n2',n3',ng'⟩:=hn;have e2:=hT2.cell 0;have e3:=hT3.cell 0;simp only[zf] at e2 e3;clear hW xP Pw hT2 hT3 hBy hM ht;by_cases hxq:x<len
  ·have hxi:(x:Int)<len:=oQ
   obtain⟨i,hi⟩:∃i,(off+x) / 480=i:=⟨_,rfl⟩
   obtain⟨o,vK⟩:∃o,(off+x)%480=o:=⟨_,rfl⟩
   obtain⟨j,hj⟩:∃j,min (len - x) (480 - o)=j:=⟨_,rfl⟩
   have hdiv:((off:Int)+(x:Int)) / 480=(i:Int):=oQ
   have NW:((off:Int)+(x:Int))%480=(o:Int):=oQ
   have hjj:(min ((len - x:Nat):Int) (480 - (o:Int))).toNat=j:=oQ
   have hcx:¬(cd=x):=oQ
   have hjb:(max (min ((len - x:Nat):Int) (480 - (o:Int))) 0==480)=decide (j=480):=by
    rw[q9,beq_iff_eq,decide_eq_true_iff];omega
   have Hd:=U (And.intro hdiv (And.intro NW (And.intro hjj hjb)));have Hn:=U (And.intro hi (And.intro vK hj));have dw:480*i+o=off+x:=oQ
   have hj1:1≤j:=oQ
   have Dv:x+j≤len:=oQ
   have hoj:o+j≤480:=oQ
   have hol:o<480:=oQ
   have an1:i<256:=oQ
   clear hdiv NW hjj hjb hi vK hj;have aeI:(ow c off (dd.take x)).length=max s (off+x):=by
    rw[iP (by rw[Hs.o];exact ho),Hs.o,zF,tC.o];omega
   have aDB:=U aeI;have hrm:cnt (Ex 0) B+need (max (ow c off (dd.take x)).length (480*i+o+j))≤B+need (ow c off (dd.take x)).length:=by
    have h1:=HWr.o.num;rw[Hs.o] at h1;have h2:=Fe.o;have h3:need (max (ow c off (dd.take x)).length (480*i+o+j))≤need (max s (off+len)):=Jl (by rw[aeI];omega);omega
   have hz2:aG (Ex 0) 0=true:=(HWr.o.grow.bits 0).2 (.inl Hz.o);have hlx:480*i+o≤(ow c off (dd.take x)).length:=by rw[aeI];omega
   clear aeI;go_wp2_with fail;rw[Hd.o.1,Hd.o.2.1,Hd.o.2.2.2,Hd.o.2.2.1];refine(Ww HV.o HW.o oQ vo.o nb hvh HWr.o.iW hz2 an1 hlx hol ⟨hj1,hoj⟩ oQ hrm (decide (j=480)) rfl).mono ?_;rintro e w2 ⟨pp,g,cg,pb,E2,D2,r2,R2,F2,rfl,hop,hgw,xM,KV,lZ,anP,an2,bC⟩;have pY:pb.length=480:=hop.2.2.1;have auX:=hop.1;have aDC:=hop.2.1;have hcg:=xM.len.1;rw[zD,pY] at hcg;have hco:¬(cg=o):=oQ
   have auY:=iY.o.lt;have an3:=bC.aW iY.o dQ (λh=>h.elim n2' (λe=>oQ));have an4:=bC.aW jo.o dQ (λh=>h.elim n3' (λe=>oQ));have ai6:=bC.pR HBy.o (λg' o' e=>by injection e with e;injection e with e;subst e;exact λh=>h.elim ng' (λe=>oQ));have l7:=(eu xM).2.1;have q2:¬F2 t2:=λhf=>absurd (show F2 t2∨t2=hb from .inl hf) (bC.apart auY (λh=>h.elim n2' (λe=>oQ)));have q3:¬F2 t3:=λhf=>absurd (show F2 t3∨t3=hb from .inl hf) (bC.apart jo.o.lt (λh=>h.elim n3' (λe=>oQ)));have auZ:ga<wr.heap.size:=zx Ak.1 HM.o.size;have q4:¬F2 ga:=λhf=>absurd (show F2 ga∨ga=hb from .inl hf) (bC.apart auZ (λh=>h.elim ng' (λe=>oQ)));have Nr:((dd.drop x).take j).length=j:=by rw[zF,zR,tC.o];omega
   obtain⟨w3,hcp,hA3,gL,mF⟩:=A_ (ty:=3) (n:=480 - o) (cd:=cg - o) (m:=j) (cs:=cd - x) (o:=o) (y:=(dd.drop x).take j) (a:=⟨ga,oa+x,none⟩) xM (by rw[Nr];omega) (λt ht=>by
    rw[Nr] at ht;obtain⟨b',o',f1,f2⟩:=ai6.is;have f3:=f1 (λe=>by rw[e] at Nr;simp at Nr;omega);injection f3 with f3;injection f3 with f3 f4;subst f3 f4;have ha:(⟨ga,oa+x,none⟩:Addr).add t=⟨ga,oa+(x+t),none⟩:=by unfold Addr.add;split<;>simp_all<;>omega
    have hxt:x+t<dd.length:=by rw[tC.o];omega
    rw[ha,f2 (x+t) hxt];have h2:((dd.drop x).take j)[t]? =dd[x+t]?:=by rw[qh,if_pos ht,zaB]
    rw[zu (by rw[Nr];exact ht),zu hxt] at h2;injection h2 with h2;rw[h2];rfl) (by rw[Nr,pY];omega)
   rw[Nr] at hcp;have dP:=bC.kept gL (.inr hgw);have tu:=lZ.keep (w':=w3) (λk hk=>gL.block k (lZ.lt k hk).2 (λe=>anP (e▸hk))) dP.q' oQ;have an5:(ow pb o ((dd.drop x).take j)).length=480:=by rw[iP oQ,Nr];omega
   have hhr:=vo.o.lt;have aDD:=jo.o.lt;have au0:hb≠g:=oQ
   have HX3:=U (And.intro hA3 (And.intro tu (And.intro (show bE w3 hb id k l s D2 r2 R2 from⟨KV.1.kept gL au0,KV.2⟩) (And.intro (an3.kept gL oQ) (And.intro (an4.kept gL oQ) (And.intro (HM.o.trans dP) hop))))))
   have iB:=U (show cZ w3 (some ⟨ga,oa,none⟩) dd from by
    rcases ai6 with h0|⟨b',o',Cc,fr,e1,e2,e3⟩
    ·exact .inl h0
    ·injection e1 with e1
     injection e1 with e1;subst e1;exact .inr ⟨ga,o',Cc,fr,by simp_all,(gL.block ga (zo.1 e2).1 oQ).trans e2,e3⟩)
   clear hop xM KV lZ bC an3 an4 ai6 hA3 gL mF dP tu e2 e3 hrm pY Nr;have Wh:=Hn.o.2.1;go_wp2_with fail;clear hcp Wh;refine(xg HV.o HX3.o.2.1 auX oQ an5 HX3.o.1.pR).mono ?_;rintro e w4 ⟨⟨u,rfl⟩,F4,hW4,dI⟩;obtain⟨hA3,tu,hH3,ai8,ai9,uh,hop⟩:=HX3.o;have aDE:=dI.size;have aDF:=hH3.lt;have aaP:=ai9.lt;have an6:=ai8.lt;have Yi:ga<w3.heap.size:=zx Ak.1 uh.size;have ai_:=HWr.o.step (d:=(dd.drop x).take j) (by rw[show((dd.drop x).take j).length=j by rw[zF,zR,tC.o];omega];exact hop) hlx;have hcc:ow (ow c off (dd.take x)) (480*i+o) ((dd.drop x).take j)=ow c off (dd.take (x+j)):=by
    have h1:=aep (c:=c) (by rw[Hs.o];exact ho) dd x j;rw[show(dd.take x).length=x by rw[zF,tC.o];omega] at h1;rw[dw];exact h1
   rw[hcc] at ai_
   have HZ:=U (And.intro ai_ (And.intro hW4 (And.intro (hH3.mv dI an2) (And.intro (dI.aW ai8 dQ q2) (And.intro (dI.aW ai9 dQ q3) (And.intro (dI.pR iB.o (λg' o' e=>by injection e with e;injection e with e;subst e;exact q4)) (uh.trans (dI.more (G':=λx=>F4 x∨x=hb) (λx hx=>.inl hx) uh.lt' (λx hx=>by
    rcases hx with hx|hx
    ·exact .inr (.inl hx)
    ·exact .inl (.inr hx))))))))))
   have z1:¬F4 hb:=dI.apart oQ an2;have z2:¬F4 t2:=dI.apart an6 q2;have z3:¬F4 t3:=dI.apart aaP q3;have z4:¬F4 ga:=dI.apart Yi q4;clear hA3 tu hH3 ai8 ai9 uh hop hW4 dI ai_ hcc;go_wp2_with fail;obtain⟨r1,r2',r3,r4,r5,r6,r7⟩:=HZ.o;refine⟨⟨x+j,t+1,F4,_,_,_,_,Dv,by go_num,?_,r1,r2',⟨z1,z2,z3,z4⟩,r3,r4,r5,r6,r7⟩,by simp[intOf];omega⟩;obtain⟨hi,vK,hj⟩:=Hn.o;obtain⟨ht1,jM⟩:=Ht.o;have hnp:fT (off+(x+j))=i+1:=by unfold fT;omega
   rw[hnp];refine⟨?_,oQ⟩;rcases jM with⟨e1,e2⟩|e1|e1
   ·subst e1 e2
    rw[za3] at hi;omega
   ·unfold fT at ht1
    omega
   ·omega
  ·obtain rfl:x=len:=oQ
   have ds:=vo.o.1.cell 3 _ rfl;have fs:=vo.o.1.free 3;have FY:max (s:Int) ((off:Int)+(x:Int))=((max s (off+x):Nat):Int):=oQ
   have N8:dd.take x=dd:=zy (by rw[tC.o];omega);have aaQ:(ow c off dd).length=max s (off+x):=by rw[iP (by rw[Hs.o];exact ho),Hs.o,tC.o]
   obtain⟨s',hs'⟩:∃s',max s (off+x)=s':=⟨_,rfl⟩
   rw[hs'] at FY aaQ;have an7:=U aaQ;have an8:=U N8;have Hs':=U hs';have hwx:IntKind.i64.wrap ((off:Int)+(x:Int))=(off:Int)+(x:Int):=by rw[zG];omega
   clear aaQ N8 hs';go_wp2_with fail;refine wp_region_noPanic ?_;refine ak (S:=(λW=>W.cell? ⟨t2,0,none⟩=some (.int .i64 off)∧W.cell? ⟨t3,0,none⟩=some (.slice (some ⟨ga,oa,none⟩) x cd)∧W.cell? ⟨hb,3,none⟩=some (.int .i64 s))) (m:=11) kQ ⟨e2,e3,ds⟩ (λaj=>?_);refine te 0 aj ?_;refine te 1 aj ?_;refine te 2 aj ?_;refine te 3 aj ?_;refine te 4 aj ?_;refine te 5 aj ?_;refine te 6 aj ?_;refine te 7 aj ?_;refine te 8 aj ?_;refine te 9 aj ?_;refine te 10 aj ?_;refine vF 11 ?_;refine vF 12 ?_;refine vF 13 ?_;refine rE 14 λK hK=>?_;go_simp;refine kX hK ?_;clear hK K
   try simp only[Act.put,zh,zk,zl]
   refine aD ?_;go_wp2_with fail;obtain⟨ws,IV⟩:∃ws,(wr.setCell ⟨hb,3,none⟩ (.int .i64 s')).drew=ws:=⟨_,rfl⟩
   rw[IV];have Wy:Kept hb wr ws:=by rw[←IV];exact(Kept.setCell _ _ _).trans (Kept.of_below (zn _ _).drew)
   have hHs:bE ws hb id k l s' Dx rx Rx:=by
    refine⟨?_,vo.o.2⟩;have h1:=IsNode.aB vo.o.1 3 (s':Int);rw[←IV];exact IsNode.below h1 (zn _ _).drew
   have TP:=HM.o.kept Wy (.inl (.inr rfl));have hWs:=HW.o.keep (w':=ws) (λy hy=>Wy.block y (HW.o.lt y hy).2 (λe=>nb (e▸hy))) TP.q' Wy.size;have xP:=HWr.o;rw[an8.o] at xP;have Qn:(s':Int)=((ow c off dd).length:Int):=by rw[an7.o]
   obtain⟨qr,hqr, -,au2, -⟩:=xP.iW.ES hB.2;have yj:=xP.iW.own;have aoa:=xP.iW.EU hB.2 HF.o.kind HF.o.links;rw[←Qn] at aoa;refine(u_ HV.o hWs hHs nb oQ oQ aoa ⟨qr,hqr,au2⟩ (xP.iW.rowOk hB.2)).mono ?_;rintro e w5 ⟨⟨u,rfl⟩,F5,Es,fu⟩;obtain⟨f1,f2,f3⟩:=Ba xP.iW hB.2 HF.o.kind HF.o.links xP.row0;rw[Qn] at Es;have mZ:Wrote E (saved Ex id k l (ow c off dd).length Dx rx Rx) B id k l c (ow c off dd) D r R Dx rx Rx:=by
    refine⟨f1,⟨xP.grow.sub,xP.grow.new,λy=>?_,λy Gt hy=>?_⟩,?_⟩
    ·rw[f2]
     exact xP.grow.bits y
    ·rw[f3 y hy]
     exact xP.grow.keep y Gt hy
    ·rw[f2]
     exact xP.num
   have HZ:=U (And.intro mZ (And.intro Es (TP.trans (fu.more (G':=F5) (λy hy=>.inl hy) TP.lt' (λy hy=>.inr (.inl hy))))));clear Wy hHs TP hWs xP f1 f2 f3 mZ Es fu IV;go_wp2_with fail;go_end0;refine⟨⟨_,rfl⟩,_,Dx,rx,Rx,F5,HZ.o.1,HZ.o.2.1.mono ?_,HZ.o.2.2⟩;have h1:=Ht.o.1;unfold fT at h1;omega
end
end
section
open O
@[irreducible] def bN:List Int:=List.replicate 16 0
theorem gI:bN.length=16:=by unfold bN;exact qc ..
theorem pG:aT.length=240:=eZ
theorem KX (i:Nat):pg bN aT i=0:=by
 unfold pg bN aT
 split
 ·rw[z_,qF]
  split<;>rfl
 ·rw[z_,qF]
  split<;>rfl
structure Nd where
 id:Nat
 k:Int
 c:Bytes
 D:List Int
 r:Int
 R:List Int
def Nd.has (x:Nd):Nat→Prop:=Has x.id x.D x.r x.R x.c.length
def Nd.ok (E:nR) (B:Nat) (x:Nd):Prop:=mh E B x.id x.k 1 x.c x.D x.r x.R
theorem mh.other {E E':nR} {B id:Nat} {k l:Int} {c:Bytes} {D R:List Int} {r:Int} (h:mh E B id k l c D r R) (hk:∀x,x≠0→Has id D r R c.length x→E' x=E x) (hb:∀x,Has id D r R c.length x→aG (E' 0) x=true):mh E' B id k l c D r R:=by
 have hown:=h.iW.own;refine⟨h.iW.other (λi hi p hp=>hk p ?_ (.inr (.inr ⟨i,hi,hp⟩))) hb,h.kind,h.links,?_,λhn=>?_,h.row0⟩
 ·obtain⟨q,g1,g2, -⟩:=h.iW.ptr i hi
  omega
 ·rw[hk id oQ (.inl rfl)]
  exact h.node
 ·obtain⟨q,g1,g2,g3,g4,g5⟩:=h.iW.EP hn
  have e:r.toNat=q:=oQ
  have h2:=h.anA hn;rw[e] at h2 ⊢;rw[hk q oQ (.inr (.inl ⟨hn,g1⟩))];exact h2
structure nT (E:nR) (B:Nat) (S:List Nd):Prop where
 wu:∀x∈S,x.ok E B
 apart:S.Pairwise (λx y=>∀b,x.has b→¬y.has b)
 bits:∀b,aG (E 0) b=true↔b=0∨∃x∈S,x.has b
 num:cnt (E 0) B=1+(S.map (λx=>1+need x.c.length)).sum
section
variable {E E':nR} {B:Nat} {S T:List Nd} {x:Nd}
theorem nT.mid {A:List Nd} (h:nT E B (A++x::T)):x.ok E B:=h.wu x sQ
theorem nT.zero (h:nT E B S):aG (E 0) 0=true:=(h.bits 0).2 (.inl rfl)
theorem Nd.ok.bit (h:x.ok E B):∀b,x.has b→aG (E 0) b=true:=h.iW.bit
theorem Nd.ok.lt (h:x.ok E B):∀b,x.has b→0<b∧b<B:=h.iW.lt
theorem Nd.ok.other (h:x.ok E B) (hk:∀b,b≠0→x.has b→E' b=E b) (hb:∀b,x.has b→aG (E' 0) b=true):x.ok E' B:=mh.other h hk hb
theorem Bb {A:List Nd} (h:(A++x::T).Pairwise (λx y=>∀b,x.has b→¬y.has b)):∀y,y∈A∨y∈T→∀b,y.has b→¬x.has b:=by
 rw[zaF] at h;obtain⟨h1,h2,h3⟩:=h;rintro y (hy|hy) b hb hx
 ·exact h3 y hy x sQ b hb hx
 ·exact(zbb.1 h2).1 y hy b hx hb
theorem Jm {A:List Nd} {x':Nd} (h:(A++x::T).Pairwise (λx y=>∀b,x.has b→¬y.has b)) (hn:∀y,y∈A∨y∈T→∀b,y.has b→¬x'.has b):(A++x'::T).Pairwise (λx y=>∀b,x.has b→¬y.has b):=by
 rw[zaF] at h ⊢;obtain⟨h1,h2,h3⟩:=h;refine⟨h1,zbb.2 ⟨λy hy b hb hyb=>hn y (.inr hy) b hyb hb,(zbb.1 h2).2⟩,λy hy z hz b hb Zr=>?_⟩;rcases zH.1 hz with rfl|hz
 ·exact hn y (.inl hy) b hb Zr
 ·exact h3 y hy z (qC _ hz) b hb Zr
theorem yP {A:List Nd} {P:Nd→Prop}:(∃y∈A++x::T,P y)↔P x∨∃y,(y∈A∨y∈T)∧P y:=by
 constructor
 ·rintro⟨y,hy,hp⟩
  rcases qg.1 hy with hy|hy
  ·exact .inr ⟨y,.inl hy,hp⟩
  ·rcases zH.1 hy with rfl|hy
   ·exact .inl hp
   ·exact .inr ⟨y,.inr hy,hp⟩
 ·rintro(hp|⟨y,hy|hy,hp⟩)
  ·exact⟨x,sQ,hp⟩
  ·exact⟨y,by simp[hy],hp⟩
  ·exact⟨y,by simp[hy],hp⟩
theorem nT.wrote {A:List Nd} {c':Bytes} {D' R':List Int} {r':Int} (h:nT E B (A++x::T)) (hw:Wrote E E' B x.id x.k 1 x.c c' x.D x.r x.R D' r' R'):nT E' B (A++⟨x.id,x.k,c',D',r',R'⟩::T):=by
 have hm:=Bb h.apart;obtain⟨x',CO⟩:∃x':Nd,(⟨x.id,x.k,c',D',r',R'⟩:Nd)=x':=⟨_,rfl⟩
 have hg:Grow E E' x.has x'.has:=by rw[←CO];exact hw.grow
 have rU:x'.ok E' B:=by rw[←CO];exact hw.wu
 have nY:x'.c.length=c'.length:=by rw[←CO]
 rw[CO];have hn:∀y,y∈A∨y∈T→∀b,y.has b→¬x'.has b:=λy hy b hb hx=>by
  have hyo:y.ok E B:=h.wu y (by rcases hy with hy|hy<;>simp[hy]);rcases hg.new b hx with h1|h1
  ·exact hm y hy b hb h1
  ·rw[hyo.bit b hb] at h1
   cases h1
 refine⟨λy hy=>?_,Jm h.apart hn,λb=>?_,?_⟩
 ·have Yg:y=x'∨(y∈A∨y∈T):=by
   rcases qg.1 hy with hy|hy
   ·exact .inr (.inl hy)
   ·rcases zH.1 hy with hy|hy
    ·exact .inl hy
    ·exact .inr (.inr hy)
  rcases Yg with rfl|hy
  ·exact rU
  ·have hyo:y.ok E B:=h.wu y (by rcases hy with hy|hy<;>simp[hy])
   exact hyo.other (λb dZ hb=>hg.keep b dZ (hn y hy b hb)) (λb hb=>(hg.bits b).2 (.inl (hyo.bit b hb)))
 ·rw[hg.bits,h.bits,yP,yP]
  constructor
  ·rintro((h1|h1|h1)|h1)
   ·exact .inl h1
   ·exact .inr (.inl (hg.sub b h1))
   ·exact .inr (.inr h1)
   ·exact .inr (.inl h1)
  ·rintro(h1|h1|h1)
   ·exact .inl (.inl h1)
   ·exact .inr h1
   ·exact .inl (.inr (.inr h1))
 ·have h1:=hw.num
  have h2:=h.num;rw[zW,qy,zaQ,zay] at h2 ⊢;rw[nY];omega
structure fH (E E':nR) (B id:Nat) (G:Nat→Prop) (k:Nat):Prop where
 bits:∀b,aG (E' 0) b=true↔aG (E 0) b=true∧¬G b
 keep:∀b,b≠0→b≠id→E' b=E b
 num:cnt (E' 0) B+k=cnt (E 0) B
theorem fH.refl (E:nR) (B id:Nat):fH E E B id (λ_=>False) 0:=⟨λb=>sQ,λ_ _ _=>rfl,rfl⟩
theorem fH.step {id k p:Nat} {G:Nat→Prop} (h:fH E E' B id G k) (hp:p<B) (hB:B≤3840) (hl:(E' 0).length=480) (hb:aG (E 0) p=true) (hG:¬G p):fH E (λi=>if i=0 then aY (E' 0) p false else E' i) B id (λb=>G b∨b=p) (k+1):=by
 have hp8:p / 8<(E' 0).length:=by rw[hl];omega
 have yF:=bM hp8 false;refine⟨λb=>?_,λb h0 hi=>?_,?_⟩
 ·show aG (if(0:Nat)=0 then aY (E' 0) p false else E' 0) b=true↔_
  rw[if_pos rfl,yF];by_cases hbp:b=p
  ·simp[hbp]
  ·rw[if_neg hbp,h.bits]
   simp[hbp]
 ·show(if b=0 then aY (E' 0) p false else E' b)=_
  rw[if_neg h0];exact h.keep b h0 hi
 ·show cnt (if(0:Nat)=0 then aY (E' 0) p false else E' 0) B+(k+1)=_
  rw[if_pos rfl];have h1:=n_ (l:=aY (E' 0) p false) (l':=E' 0) (n:=p) (by rw[yF,if_pos rfl]) ((h.bits p).2 ⟨hb,hG⟩) (λm hm=>by rw[yF,if_neg hm]) hp;have h2:=h.num;omega
theorem nT.free {A:List Nd} (h:nT E B (A++x::T)) (hf:fH E E' B x.id x.has (1+need x.c.length)):nT E' B (A++T):=by
 have hm:=Bb h.apart;have U:x.has x.id:=.inl rfl;refine⟨λy hy=>?_,?_,λb=>?_,?_⟩
 ·have Yg:y∈A∨y∈T:=qg.1 hy
  have hyo:y.ok E B:=h.wu y (by rcases Yg with hy|hy<;>simp[hy]);exact hyo.other (λb dZ hb=>hf.keep b dZ (λe=>hm y Yg b hb (e▸U))) (λb hb=>(hf.bits b).2 ⟨hyo.bit b hb,hm y Yg b hb⟩)
 ·have:=h.apart
  rw[zaF] at this ⊢;exact⟨this.1,(zbb.1 this.2.1).2,λy hy z hz=>this.2.2 y hy z (qC _ hz)⟩
 ·rw[hf.bits,h.bits,yP]
  constructor
  ·rintro⟨h1|h1|⟨y,hy,h1⟩,h2⟩
   ·exact .inl h1
   ·exact absurd h1 h2
   ·exact .inr ⟨y,qg.2 hy,h1⟩
  ·rintro(h1|⟨y,hy,h1⟩)
   ·refine⟨.inl h1,λh2=>?_⟩
    have:=(h.mid.lt b h2).1;omega
   ·exact⟨.inr (.inr ⟨y,qg.1 hy,h1⟩),hm y (qg.1 hy) b h1⟩
 ·have h2:=h.num
  have h3:=hf.num;rw[zW,qy,zaQ,zay] at h2;rw[zW,zaQ];omega
theorem nT.cut {A:List Nd} (h:nT E B (A++x::T)) (hf:fH E E' B x.id (λb=>x.has b∧b≠x.id) (need x.c.length)) (rU:mh E' B x.id x.k 1 [] bN 0 aT):nT E' B (A++⟨x.id,x.k,[],bN,0,aT⟩::T):=by
 have hm:=Bb h.apart;have U:x.has x.id:=.inl rfl;obtain⟨x',CO⟩:∃x':Nd,(⟨x.id,x.k,[],bN,0,aT⟩:Nd)=x':=⟨_,rfl⟩
 have aja:x'.ok E' B:=by rw[←CO];exact rU
 have nY:x'.c.length=0:=by rw[←CO];rfl
 have nS:∀b,x'.has b↔b=x.id:=λb=>by
  rw[←CO];unfold Nd.has Has;have h0:fT ([]:Bytes).length=0:=rfl;simp only[h0];constructor
  ·rintro(h1|h1|⟨i,h1,_⟩)
   ·exact h1
   ·omega
   ·omega
  ·exact λh1=>.inl h1
 rw[CO];have hn:∀y,y∈A∨y∈T→∀b,y.has b→¬x'.has b:=λy hy b hb hx=>hm y hy b hb (((nS b).1 hx)▸U);refine⟨λy hy=>?_,Jm h.apart hn,λb=>?_,?_⟩
 ·have Yg:y=x'∨(y∈A∨y∈T):=by
   rcases qg.1 hy with hy|hy
   ·exact .inr (.inl hy)
   ·rcases zH.1 hy with hy|hy
    ·exact .inl hy
    ·exact .inr (.inr hy)
  rcases Yg with rfl|hy
  ·exact aja
  ·have hyo:y.ok E B:=h.wu y (by rcases hy with hy|hy<;>simp[hy])
   exact hyo.other (λb dZ hb=>hf.keep b dZ (λe=>hm y hy b hb (e▸U))) (λb hb=>(hf.bits b).2 ⟨hyo.bit b hb,λh2=>hm y hy b hb h2.1⟩)
 ·rw[hf.bits,h.bits,yP,yP,nS]
  constructor
  ·rintro⟨h1|h1|h1,h2⟩
   ·exact .inl h1
   ·exact .inr (.inl (zaE λh3=>h2 ⟨h1,h3⟩))
   ·exact .inr (.inr h1)
  ·rintro(h1|h1|⟨y,hy,h1⟩)
   ·refine⟨.inl h1,λh2=>?_⟩
    have:=(h.mid.lt b h2.1).1;omega
   ·exact⟨.inr (.inl (h1▸U)),λh2=>h2.2 h1⟩
   ·exact⟨.inr (.inr ⟨y,hy,h1⟩),λh2=>hm y hy b h1 h2.1⟩
 ·have h2:=h.num
  have h3:=hf.num;rw[zW,qy,zaQ,zay] at h2 ⊢;rw[nY];have h0:need 0=0:=rfl;omega
structure wD (E E':nR) (B m:Nat) (k:Int):Prop where
 wu:mh E' B m k 1 [] bN 0 aT
 free:aG (E 0) m=false
 bits:∀b,aG (E' 0) b=true↔aG (E 0) b=true∨b=m
 keep:∀b,b≠0→b≠m→E' b=E b
 num:cnt (E' 0) B=cnt (E 0) B+1
theorem nT.make {m:Nat} {k:Int} (h:nT E B S) (hm:wD E E' B m k):nT E' B (S++[⟨m,k,[],bN,0,aT⟩]):=by
 obtain⟨x',CO⟩:∃x':Nd,(⟨m,k,[],bN,0,aT⟩:Nd)=x':=⟨_,rfl⟩
 have aja:x'.ok E' B:=by rw[←CO];exact hm.wu
 have nY:x'.c.length=0:=by rw[←CO];rfl
 have nS:∀b,x'.has b↔b=m:=λb=>by
  rw[←CO];unfold Nd.has Has;have h0:fT ([]:Bytes).length=0:=rfl;simp only[h0];constructor
  ·rintro(h1|h1|⟨i,h1,_⟩)
   ·exact h1
   ·omega
   ·omega
  ·exact λh1=>.inl h1
 rw[CO];have hn:∀y∈S,∀b,y.has b→b≠m:=λy hy b hb e=>by
  have:=(h.wu y hy).bit b hb;rw[e,hm.free] at this;cases this
 refine⟨λy hy=>?_,?_,λb=>?_,?_⟩
 ·rcases qg.1 hy with hy|hy
  ·exact(h.wu y hy).other (λb dZ hb=>hm.keep b dZ (hn y hy b hb)) (λb hb=>(hm.bits b).2 (.inl ((h.wu y hy).bit b hb)))
  ·rw[zV.1 hy]
   exact aja
 ·rw[zaF]
  refine⟨h.apart,List.pairwise_singleton _ _,λy hy z hz b hb Zr=>?_⟩;rw[zV.1 hz,nS] at Zr;exact hn y hy b hb Zr
 ·rw[hm.bits,h.bits]
  constructor
  ·rintro((h1|⟨y,hy,h1⟩)|h1)
   ·exact .inl h1
   ·exact .inr ⟨y,qg.2 (.inl hy),h1⟩
   ·exact .inr ⟨x',sQ,(nS b).2 h1⟩
  ·rintro(h1|⟨y,hy,h1⟩)
   ·exact .inl (.inl h1)
   ·rcases qg.1 hy with hy|hy
    ·exact .inl (.inr ⟨y,hy,h1⟩)
    ·rw[zV.1 hy,nS] at h1
     exact .inr h1
 ·have h2:=h.num
  have h3:=hm.num;rw[zW,zaQ];simp only[qy,qK,zay,List.sum_nil];rw[nY];have h0:need 0=0:=rfl;omega
theorem KY {m:Nat} {k:Int} (hk:k=1∨k=2) (hB:B≤3840) (h0:(E 0).length=480) (hz:aG (E 0) 0=true) (hmB:m<B) (hm:aG (E 0) m=false):wD E (saved (λi=>if i=0 then aY (E 0) m true else E i) m k 1 0 bN 0 aT) B m k:=by
 have Pt:m≠0:=by
  rintro rfl;rw[hz] at hm;cases hm
 have Z7:m / 8<(E 0).length:=by rw[h0];omega
 have yF:=bM Z7 true;obtain⟨E1,hE1⟩:∃E1:nR,(λi=>if i=0 then aY (E 0) m true else E i)=E1:=⟨_,rfl⟩
 have e0:E1 0=aY (E 0) m true:=by rw[←hE1];rfl
 have ek:∀b,b≠0→E1 b=E b:=λb hb=>by rw[←hE1];exact if_neg hb
 have hn:fT ([]:Bytes).length=0:=rfl;have hP:uz E1 B m bN 0 aT []:=by
  refine⟨gI,pG,sQ,λi hi=>by rw[hn] at hi;omega,λi _ _=>KX i,λi j hi=>by rw[hn] at hi;omega,λh=>by rw[hn] at h;omega,λ_=>rfl,oQ,hmB,?_⟩;rw[e0,yF,if_pos rfl]
 rw[hE1];obtain⟨f1,f2,f3⟩:=Ba hP hB hk (l:=1) oQ (λ_=>rfl);have hx:(saved E1 m k 1 ([]:Bytes).length bN 0 aT)=saved E1 m k 1 0 bN 0 aT:=rfl;rw[hx] at f1 f2 f3;have nS:∀b,b≠m→¬Has m bN 0 aT ([]:Bytes).length b:=λb hb h=>by
  unfold Has at h;rw[hn] at h;rcases h with h1|h1|⟨i,h1,_⟩<;>omega
 refine⟨f1,hm,λb=>?_,λb dZ M8=>?_,?_⟩
 ·rw[f2,e0,yF]
  by_cases M8:b=m
  ·simp[M8]
  ·simp[M8]
 ·rw[f3 b (nS b M8),ek b dZ]
 ·rw[f2,e0]
  exact n_ hm (by rw[yF,if_pos rfl]) (λk hk=>by rw[yF,if_neg hk]) hmB
end
end
section
open Go.RowKit Go.Shelf Go.Maps O
attribute [local go_sem] Oper.semAt_some
theorem Rn (k l:Int):Tryz.prog.built 138 [(0,.int .i64 k),(1,.int .i64 l)]=some (aL (nd k l 0 (List.replicate 16 0) 0)):=kQ
theorem wE {o:Oper} {a:Act} {w:World} {x y:Operand} {k l:Int} (ho:o.op=.build 138 #[(0,x),(1,y)]) (hx:a.eval x=.int .i64 k) (hy:a.eval y=.int .i64 l):
  (execOp a.eval o).run Tryz.prog w=.ok (.value (.agg (aL (nd k l 0 bN 0)))) w:=by
 unfold execOp bN;simp only[ho,zac,qy,qK,hx,hy,qE,run_build w 138 _ _ (Rn k l),qp];rfl
section
variable {v w:World} {sp d B b n m:Nat} {C E:Nat→Bytes} {F:Nat→Prop} {k:Int}
theorem aaR {p tb:Nat} (hV:Base v sp d B C) (h:Wk v w p b sp d B C E n F) (nM:1≤n) (hk:k=1∨k=2) (x1:ah w tb 3 [.int .i64 k]) (hnt:¬F tb) (hz:aG (E 0) 0=true) (hm:m<B) (Pt:aG (E 0) m=false) (eD:∀j,j<m→aG (E 0) j=true):
  Calls Tryz.prog 271 #[.pointer (some ⟨p,0,none⟩),.pointer (some ⟨tb,0,none⟩)] w λe w'=>e=.returned (.int .i64 m)∧∃E' F',wD E E' B m k∧Wk v w' p b sp d B C E' (n+2) F'∧Mv d v F w F' w':=by
 have hB:=hV.few;have c1:=x1.cell 0;simp only[zf] at c1;have yQ:=KY hk hB.2 (h.EF hV.len) hz hm Pt;obtain⟨E1,hE1⟩:∃E1:nR,(λi=>if i=0 then aY (E 0) m true else E i)=E1:=⟨_,rfl⟩
 rw[hE1] at yQ;have rU:O.aac k 1 0 bN 0=true:=yQ.wu.iW.EU hB.2 hk (l:=1) oQ;have hmp:m≠0:=by have:=yQ.wu.iW.own.1;omega
 have pX:(k==1||k==2)=true:=by rcases hk with rfl|rfl<;>rfl
 have H:=U h;have HV:=U hV;have X:=U x1;have CZ:=U eD;have Ya:=U rU;have aeK:=U (yQ.wu.iW.rowOk hB.2);have aob:=U yQ;clear h hV x1 eD rU yQ;go_enter Tryz.func271,Tryz.ntmps271;rcases hk with rfl|rfl<;>clear pX
 all_goals
  go_wp2_with fail;refine(o_ _).mono ?_;rintro e w' ⟨⟨x,rfl⟩,rfl⟩;go_wp2_with fail;refine(mJ HV.o H.o nM hB.2 hm Pt CZ.o).mono ?_;rintro e w1 ⟨rfl,F1,h1,ajb⟩;rw[hE1] at h1;have y1:=(ajb.aW X.o dQ hnt).cell 0;simp only[zf] at y1;have H1:=U (And.intro h1 ajb);clear h1 ajb c1;go_wp2_with (first|(refine bB _ rfl (wE rfl rfl rfl) ?_)|(refine bB _ rfl (je rfl gI rfl rfl) ?_));clear y1;have aJ:=λo=>(zn w1.heap.size w1).alloc (zm _) o;have lJ:¬F1 w1.heap.size:=λhf=>by have:=(H1.o.1.lt _ hf).2;omega
  refine(u_ HV.o (H1.o.1.below (aJ _)) ⟨IsNode.new _ _ _,gI,pG⟩ lJ hmp oQ Ya.o ⟨0,rfl,λe=>hmp e.symm⟩ aeK.o).mono ?_;rintro e w3 ⟨⟨x,rfl⟩,F3,h3,aoc⟩;have H3:=U (And.intro h3 (Mv.trans (H1.o.2.below (aJ _)) aoc));clear aJ lJ h3 aoc;go_wp2_with fail;go_ret;exact⟨rfl,_,F3,aob.o,H3.o.1,H3.o.2⟩
theorem aaS (hV:Base v sp d B C) (h:cB v w b sp d C E n F) (hk:k=1∨k=2) (hz:aG (E 0) 0=true) (dx:cnt (E 0) B<B):
  Calls Tryz.prog 221 #[.agg #[.pointer (some ⟨b,0,none⟩),.int .i64 B],.int .i64 k] w λe w'=>∃m:Nat,e=.returned (.tuple #[.int .i64 m,.int .i64 0])∧∃E',wD E E' B m k∧∃F',cB v w' b sp d C E' (n+4) F'∧Mv d v F w F' w':=by
 obtain⟨m,hm,Pt,eD⟩:=o9 dx;obtain⟨w1,aP⟩:∃w1,(w.alloc (.cells #[.pointer (some ⟨b,0,none⟩),.int .i64 B] 85)).alloc (.cells #[.int .i64 k] 3)=w1:=⟨_,rfl⟩
 obtain⟨aM,aF,hz1⟩:=boxes [([.pointer (some ⟨b,0,none⟩),.int .i64 B],85),([.int .i64 k],3)] w w1 (by rw[←aP];rfl);have x0:ah w1 w.heap.size 85 [.pointer (some ⟨b,0,none⟩),.int .i64 B]:=aM 0 _ rfl;have x1:ah w1 (w.heap.size+1) 3 [.int .i64 k]:=aM 1 _ rfl;have y0:=x0.cell 0;have y1:=x0.cell 1;simp only[zf,zi] at y0 y1;have bA:=h.lt;have H:=U h;have H1:=U (h.below aF);have HV:=U hV;have X:=U x1;have HB:=U aF;have iK:=U bA;have CZ:=U eD;have vR:w1.heap.size=w.heap.size+2:=by simpa using hz1
 clear h hV aM aF hz1 x0 x1 bA eD;go_enter Tryz.func221,Tryz.ntmps221;go_wp2_with fail;refine(N9 HV.o H1.o (fn:=271) (caps:=#[.pointer (some ⟨w.heap.size+1,0,none⟩)]) (λ_ _=>rfl) (PE:=λE'=>wD E E' B m k) (n':=n+3) (Post:=λz X W=>z=(m:Int)∧X=[]) (λz X A W hP hk=>hP) (λw2 p b' G F1 hW hG fA=>?_)).mono ?_
 ·have hn:∀i,w.heap.size≤i→¬F i:=λi hi hf=>by have:=(iK.o _ hf).2;omega
  have hz2:=hG.size;refine(aaR HV.o (hW.mono (XO n)) oQ hk (hG.aW X.o dQ (hn _ oQ)) (λhf=>hG.apart oQ (hn _ oQ) (fA _ hf)) hz hm Pt CZ.o).mono ?_;rintro e w3 ⟨rfl,E',F2,h0,h1,h2⟩;exact⟨_,[],rfl,⟨rfl,rfl⟩,sQ,E',F2,h0,h1,sQ,h2⟩
 rintro e w2 ⟨z,X',rfl,⟨rfl,rfl⟩,E',hE',F',h1, -,h2⟩;have HG:=U (And.intro h1 (Mv.after HB.o h2 H.o.quiet (λk hk=>(H.o.lt k hk).2)));clear h1 h2 aP y0 y1;go_wp2_with fail;go_ret2;exact⟨m,rfl,E',hE',F',HG.o.1,HG.o.2⟩
end
theorem fH.to {E E':nR} {B id k k':Nat} {G G':Nat→Prop} (h:fH E E' B id G k) (hG:∀b,G b↔G' b) (hk:k=k'):fH E E' B id G' k':=⟨λb=>by rw[h.bits,hG],h.keep,by rw[←hk];exact h.num⟩
section
variable {v w:World} {sp d B b n id:Nat} {C E:Nat→Bytes} {F:Nat→Prop} {k l:Int} {c:Bytes} {D R:List Int} {r:Int}
def GN (D R:List Int) (c:Bytes) (i:Nat) (x:Nat):Prop:=∃j,j<i∧j<fT c.length∧pg D R j=(x:Int)
theorem fH.page {E':nR} {i:Nat} (hF:mh E B id k l c D r R) (h:fH E E' B id (GN D R c i) (min i (fT c.length))) (hi:i<fT c.length) (hB:B≤3840) (hl:(E' 0).length=480) {p:Nat} (hp:pg D R i=(p:Int)):
  fH E (λx=>if x=0 then aY (E' 0) p false else E' x) B id (GN D R c (i+1)) (min (i+1) (fT c.length)):=by
 obtain⟨p',g1,g2,g3,g4,g5,g6, -⟩:=hF.iW.ptr i hi;obtain rfl:p=p':=oQ
 refine(h.step g3 hB hl g6 ?_).to (λb=>?_) oQ
 ·rintro⟨j,j1,j2,j3⟩
  have:=hF.iW.inj j i j2 hi (by rw[j3,hp]);omega
 ·constructor
  ·rintro(⟨j,j1,j2,j3⟩|rfl)
   ·exact⟨j,oQ,j2,j3⟩
   ·exact⟨i,oQ,hi,hp⟩
  ·rintro⟨j,j1,j2,j3⟩
   by_cases hj:j=i
   ·subst hj
    exact .inr oQ
   ·exact .inl ⟨j,oQ,j2,j3⟩
end
section
variable {v w:World} {sp d B b n id:Nat} {C E:Nat→Bytes} {F:Nat→Prop} {k l:Int} {c:Bytes} {D R:List Int} {r:Int}
structure Cg (E E':nR) (B id:Nat) (k l:Int) (c:Bytes) (D:List Int) (r:Int) (R:List Int):Prop where
 freed:fH E E' B id (λb=>Has id D r R c.length b∧b≠id) (need c.length)
 wu:mh E' B id k l [] bN 0 aT
theorem yR {off len ga oa cd:Nat} {dd:Bytes} (hV:Base v sp d B C) (h:cB v w b sp d C E n F) (hF:mh E B id k l c D r R) (dO:cZ w (some ⟨ga,oa,none⟩) dd) (eX:dd.length=len) (Ak:ga<w.heap.size∧¬F ga) (hlen:1≤len∧len≤4096) (Aq:len≤cd) (ho:off≤c.length) (hf:off+len≤122880) (hz:aG (E 0) 0=true) (dx:cnt (E 0) B+need (max c.length (off+len))≤B+need c.length):
  Calls Tryz.prog 156 #[.agg #[.pointer (some ⟨b,0,none⟩),.int .i64 B],.int .i64 id,.int .i64 off,.slice (some ⟨ga,oa,none⟩) len cd] w λe w'=>e=.returned (.int .i64 0)∧∃E' D' r' R' F',Wrote E E' B id k l c (ow c off dd) D r R D' r' R'∧cB v w' b sp d C E' (n+14) F'∧Mv d v F w F' w':=by
 obtain⟨w1,aP⟩:∃w1,(((w.alloc (.cells #[.pointer (some ⟨b,0,none⟩),.int .i64 B] 85)).alloc (.cells #[.int .i64 id] 3)).alloc (.cells #[.int .i64 off] 3)).alloc (.cells #[.slice (some ⟨ga,oa,none⟩) len cd] 22)=w1:=⟨_,rfl⟩
 obtain⟨aM,aF,hz1⟩:=boxes [([.pointer (some ⟨b,0,none⟩),.int .i64 B],85),([.int .i64 id],3),([.int .i64 off],3),([.slice (some ⟨ga,oa,none⟩) len cd],22)] w w1 (by rw[←aP];rfl);have x0:ah w1 w.heap.size 85 [.pointer (some ⟨b,0,none⟩),.int .i64 B]:=aM 0 _ rfl;have x1:ah w1 (w.heap.size+1) 3 [.int .i64 id]:=aM 1 _ rfl;have x2:ah w1 (w.heap.size+2) 3 [.int .i64 off]:=aM 2 _ rfl;have x3:ah w1 (w.heap.size+3) 22 [.slice (some ⟨ga,oa,none⟩) len cd]:=aM 3 _ rfl;have y0:=x0.cell 0;have y1:=x0.cell 1;simp only[zf,zi] at y0 y1;have bA:=h.lt;have H:=U h;have H1:=U (h.below aF);have HV:=U hV;have HF:=U hF;have X:=U (And.intro x1 (And.intro x2 (And.intro x3 (dO.below aF))));have HB:=U aF;have iK:=U bA;have tC:=U eX;have Hz:=U hz;have Fe:=U dx;have vR:w1.heap.size=w.heap.size+4:=by simpa using hz1
 clear h hV aM aF hz1 x0 x1 x2 x3 bA hF dO eX hz dx;go_enter Tryz.func156,Tryz.ntmps156;go_wp2_with fail;refine(Da HV.o H1.o (fn:=233) (caps:=#[.pointer (some ⟨w.heap.size+1,0,none⟩),.pointer (some ⟨w.heap.size+2,0,none⟩),.pointer (some ⟨w.heap.size+3,0,none⟩)]) (λ_ _=>rfl) (PE:=λE'=>∃D' r' R',Wrote E E' B id k l c (ow c off dd) D r R D' r' R') (n':=n+13) (λw2 p b' G F1 hW hG fA=>?_)).mono ?_
 ·obtain⟨x1,x2,x3,x4⟩:=X.o
  have hn:∀i,w.heap.size≤i→¬F i:=λi hi hf=>by have:=(iK.o _ hf).2;omega
  have hz2:=hG.size;have nF:∀i,w.heap.size≤i→i<w1.heap.size→¬F1 i:=λi h1 h2 hf=>hG.apart h2 (hn i h1) (fA i hf);refine(KW HV.o (hW.mono (XO n)) oQ HF.o (hG.aW x1 dQ (hn _ oQ)) (hG.aW x2 dQ (hn _ oQ)) (hG.aW x3 dQ (hn _ oQ)) (nF _ oQ oQ) (nF _ oQ oQ) (nF _ oQ oQ) (hG.pR x4 (λg o e=>by injection e with e;injection e with e;subst e;exact Ak.2)) tC.o ⟨oQ,λhf=>hG.apart oQ Ak.2 (fA _ hf)⟩ hlen Aq ho hf Hz.o Fe.o).mono ?_;rintro e w3 ⟨hx,E',D',r',R',F2,h0,h1,h2⟩;exact⟨hx,E',F2,⟨D',r',R',h0⟩,h1,h2⟩
 rintro e w2 ⟨rfl,E',F',⟨D',r',R',hE'⟩,h1,h2⟩;have HG:=U (And.intro h1 (Mv.after HB.o h2 H.o.quiet (λk hk=>(H.o.lt k hk).2)));clear h1 h2 aP y0 y1;go_wp2_with fail;go_ret;exact⟨rfl,E',D',r',R',F',hE',HG.o.1,HG.o.2⟩
end
end
section
open Go.RowKit
def aaW {α:Type} (F:Fence) (n:Nat) (P:Program) (g:Nat) (lb:Array Value) (encs:α→Array Value) (Kp St:World→World→Prop) (Ok:List α→α→World→Prop) (Good:List α→Prop) (W:World):Prop:=
 ∀(l:Nat) (J:List α→World→Prop),OwnFrom W.heap.size J→(∀s A B,J s A→St A B→J s B)→
  (∀pre x W1,Ok pre x W1→J pre W1→YieldAt F (n - 1) P l (encs x) W1 λe W'=>e=.returned (.bool true)∧J (pre++[x]) W'∧Kp W1 W')→
  J [] W→CallsIn F n P g (#[.func (.yield l) #[] #[]]++lb) W λe W'=>(∃v,e=.returned v)∧∃L,Good L∧J L W'
variable {F:Fence} {n:Nat} {P:Program} {w:World}
theorem og {α:Type} {g:Operand} {ps:Array Tmp} {assign body:Code} {Q:Exit→Act→World→Prop} {a:Act}
  (hro:F.round=none) (h1:1≤n) {gf:Nat} {lb:Array Value} (hg:a.eval g=.func (.func gf) #[] lb) (hFg:F.fn gf) (eg:∀args w,(callFunc gf args).run P w=.ok (.enter gf args) w)
  {encs:α→Array Value} {Kp St:World→World→Prop} {Ok:List α→α→World→Prop} {Good:List α→Prop} (nN:∀W1,Below w.heap.size w W1→W1.heap.size=w.heap.size+2→aaW F (n - 1) P gf lb encs Kp St Ok Good W1)
  (hSt:∀{A B:World} {k:Nat} {o:Obj},St A B→A.heap[k]? =some o→o.isCells=false→B.heap[k]? =some o)
  (YO:∀{A B C:World},Kp A B→Kp B C→Kp A C) (hKb:∀(W:World) (o o':Obj),W.heap[w.heap.size+1]? =some o→o.isCells=false→Kp W (W.putObj (w.heap.size+1) o')) (hps:∀x,(encs x).size=ps.size)
  (I:List α→World→Prop) (hI:OwnFrom w.heap.size I) (hIs:∀s A B,I s A→St A B→I s B) (h0:I [] w) (Ax:List α→α→Act→World→Prop) (hAx:∀pre x a',OwnFrom w.heap.size (λ(_:Unit) W=>Ax pre x a' W))
  (hassign:∀(l:Nat) (pre:List α) (x:α) (W:World) (K:Act→World→Prop),I pre W→Ok pre x W→(∀a' W',KeepsFrom w.heap.size W W'→Kp W W'→I pre W'→Ax pre x a' W'→K a' W')→
   assign.wpIn (F.inRound l) (n - 1 - 1) P (Exit.then K (λ_ _ _=>False)) {tmps:=(ps.zip (encs x)).foldl (λt (p,v)=>t.setIfInBounds p v) a.tmps,defers:=[]} W)
  (LW:∀(l:Nat) (pre:List α) (x:α) (a':Act) (W:World),I pre W→Ax pre x a' W→w.heap.size+2≤W.heap.size→
   body.wpIn (F.inRound l) (n - 1 - 1) P (λe _ W'=>e=.normal∧KeepsFrom w.heap.size W W'∧Kp W W'∧I (pre++[x]) W') a' W)
  (LX:∀(L:List α) (D:Nat) (W:World),Good L→w.heap.size≤D→I L W→W.heap[D]? =some (.deferred (some []))→Q .normal {a with defers:={target:=.collected D,args:=#[]}::a.defers} W):
  (Code.rangeFunc g ps assign body).wpIn F n P Q a w:=by
 refine wpIn_rangeFunc ?_;intro fn lN;rw[hro];obtain⟨rec,mX⟩:∃rec:LoopState→Option Code→Loop,rec=λst pe=>{state:=st,pending:=pe,fn,tmps:=a.tmps,params:=ps,assign,body,defers:=w.heap.size}:=⟨_,rfl⟩
 obtain⟨W1,xX⟩:∃W1,(w.alloc (.deferred (some []))).alloc (.loop (rec .ready none))=W1:=⟨_,rfl⟩
 have hz1:W1.heap.size=w.heap.size+2:=by rw[←xX];simp
 have hL1:W1.heap[w.heap.size+1]? =some (.loop (rec .ready none)):=by
  rw[←xX];have:=World.alloc_heap_new (w.alloc (.deferred (some []))) (.loop (rec .ready none));rwa[zah] at this
 have hK1:W1.heap[w.heap.size]? =some (.deferred (some [])):=by
  rw[←xX];exact(zal _ _ _ sQ).trans (World.alloc_heap_new w _)
 have hI1:I [] W1:=by rw[←xX];exact hI.alloc _ (hI.alloc _ h0)
 have iA:Below w.heap.size w W1:=by rw[←xX];exact((zn _ w).alloc (zm _) _).alloc sQ _
 refine⟨w.heap.size+1,[{target:=.collected w.heap.size,args:=#[]}],W1,{target:=.fn (.func gf) lb,args:=#[.func (.yield (w.heap.size+1)) #[] #[]]},W1,gf,
  #[.func (.yield (w.heap.size+1)) #[] #[]]++lb,W1,?_,?_,?_,?_,λ_=>h1,?_⟩
 ·rw[←xX,mX];exact run_enterLoop_outer _ _ _ _ _
 ·simp only[resolve,hg]
  simp[go_sem]
 ·intro f' SL
  simp[Target.leads] at SL;subst SL;exact hFg
 ·simp[invoke,go_sem,eg]
 ·refine(nN W1 iA hz1 (w.heap.size+1)
   (λpre W=>I pre W∧W.heap[w.heap.size+1]? =some (.loop (rec .ready none))∧W.heap[w.heap.size]? =some (.deferred (some [])))
   (λs A B row hs lQ hr=>⟨hI s A B row hs.1 lQ (λr e=>⟨by have:=(hr r e).1;omega,(hr r e).2⟩),
    (lQ.block _ (zo.1 hs.2.1).1 (λe=>by have:=(hr _ e.symm).1;omega)).trans hs.2.1,
    (lQ.block _ (zo.1 hs.2.2).1 (λe=>by have:=(hr _ e.symm).1;omega)).trans hs.2.2⟩)
   (λs A B h hs=>⟨hIs s A B h.1 hs,hSt hs h.2.1 rfl,hSt hs h.2.2 rfl⟩) ?_ ⟨hI1,hL1,hK1⟩).mono ?_
  ·rintro pre x W nP ⟨hi,hl,hk⟩
   have hy:=run_yield (P:=P) (args:=encs x) hl (by rw[mX];exact hps x);rw[mX] at hy;refine⟨fn,_,assign,body,hy,roundIn_of_wpIn lN (hassign _ pre x W _ hi nP ?_)⟩;clear hy;intro a' Wa Im iX hia hax;have LY:=Im.same _ _ oQ hl rfl;have hka:=Im.same _ _ (zm _) hk rfl;have bA:w.heap.size+1<Wa.heap.size:=(zo.1 LY).1;refine⟨_,run_beginRound LY (by rw[mX]),?_⟩;obtain⟨Wb,Dz⟩:∃Wb,Wa.putObj (w.heap.size+1) (.loop {rec .ready none with state:=.busy})=Wb:=⟨_,rfl⟩
   have LZ:Wb.heap[w.heap.size+1]? =some (.loop {rec .ready none with state:=.busy}):=by rw[←Dz];exact World.putObj_heap_same bA
   have eO:Wb.heap[w.heap.size]? =some (.deferred (some [])):=by rw[←Dz];exact(World.putObj_heap_other oQ).trans hka
   have iy:Kp Wa Wb:=by rw[←Dz];exact hKb _ _ _ LY rfl
   have jQ:I pre Wb:=by rw[←Dz];exact hI.putObj _ hia oQ LY rfl
   have YP:Ax pre x a' Wb:=by rw[←Dz];exact(hAx pre x a').putObj (s:=()) _ hax oQ LY rfl
   have hz2:w.heap.size+2≤Wb.heap.size:=by rw[←Dz,World.putObj_size];omega
   rw[Dz];refine wpIn_mono (LW _ pre x a' _ jQ YP hz2) ?_;rintro e a3 W3 ⟨rfl,gL,DC,Pg⟩;have JO:=gL.same _ _ oQ LZ rfl;have hr:=run_endRound (P:=P) none JO;rw[mX] at hr JO ⊢;refine⟨_,_,hr,rfl,⟨hI.putObj _ Pg oQ JO rfl,World.putObj_heap_same (zo.1 JO).1,(World.putObj_heap_other oQ).trans (gL.same _ _ (zm _) eO rfl)⟩,YO iX (YO (YO iy DC) (hKb _ _ _ JO rfl))⟩
  ·rintro e W2 ⟨⟨v,rfl⟩,L,uD,hi,hl,hk⟩
   refine⟨none,_,by have:=run_endLoop (P:=P) hl (by rw[mX];simp);rw[mX] at this;exact this,LX _ _ _ uD (zm _) (hI.putObj _ hi oQ hl rfl) ((World.putObj_heap_other oQ).trans hk)⟩
end
end Go.Proofs.YtdjdpeadohobmaaGreatDoor
