/- A part of the walk below the law: what is proved here is used by later parts; no further condition. -/
import Derived.Test.YtdjdpeadohobmaaGreatDoorK31
set_option linter.unusedVariables false
set_option linter.unusedSimpArgs false
set_option maxRecDepth 100000
set_option maxHeartbeats 20000000
namespace Go.Proofs.YtdjdpeadohobmaaGreatDoor
section
open Go.RowKit Go.Shelf Go.Maps O
attribute [local go_sem] Oper.semAt_some
section
variable {v w:World} {sp d B b n id:Nat} {C E:Nat→Bytes} {F:Nat→Prop} {k l:Int} {c:Bytes} {D R:List Int} {r:Int}
theorem aeG {c:Bytes} {off m q x j:Nat} (hq:min m (c.length - off)=q) (hx:x+j≤q):ow (((c.drop off).take x)++zeros (q - x)) x ((c.drop (off+x)).take j)=((c.drop off).take (x+j))++zeros (q - (x+j)):=by
 have e1:((c.drop off).take x).length=x:=by rw[zF,zR];omega
 have e2:((c.drop (off+x)).take j).length=j:=by rw[zF,zR];omega
 have e3:(c.drop off).take (x+j)=(c.drop off).take x++(c.drop (off+x)).take j:=by
  rw[List.take_add,za1]
 have e5:((c.drop off).take x).drop (x+j)=[]:=qO oQ;have e4:((c.drop off).take x++zeros (q - x)).drop (x+j)=zeros (q - (x+j)):=by
  rw[List.drop_append,e1,e5,zB];unfold zeros;rw[zav];congr 1;omega
 have e6:((c.drop off).take x++zeros (q - x)).take x=(c.drop off).take x:=by
  rw[qB oQ,zy oQ]
 unfold ow;rw[e6,e2,e4,e3]
theorem NU {p t1 t2 t3 off m:Nat} (hV:Base v sp d B C) (h:Wk v w p b sp d B C E n F) (hF:mh E B id k l c D r R) (x1:ah w t1 3 [.int .i64 id]) (x2:ah w t2 3 [.int .i64 off]) (x3:ah w t3 3 [.int .i64 m]) (n1:¬F t1) (n2:¬F t2) (n3:¬F t3) (ho:off<c.length) (hm:1≤m∧m≤1000000) {q:Nat} (hq:min m (c.length - off)=q):
  Calls Tryz.prog 281 #[.pointer (some ⟨p,0,none⟩),.pointer (some ⟨t1,0,none⟩),.pointer (some ⟨t2,0,none⟩),.pointer (some ⟨t3,0,none⟩)] w λe w'=>∃g,e=.returned (.slice (some ⟨g,0,none⟩) q q)∧w.heap.size≤g∧Own 5 w.heap.size w' (some ⟨g,0,none⟩) q (((c.drop off).take m).map aH)∧∃F',Wk v w' p b sp d B C E n F'∧¬F' g∧Mv d v F w F' w':=by
 have c1:=x1.cell 0;have c2:=x2.cell 0;have c3:=x3.cell 0;simp only[zf] at c1 c2 c3;have gD:=hF.iW.few;obtain⟨s,hs⟩:∃s,c.length=s:=⟨_,rfl⟩
 have Hs:=U hs;rw[hs] at ho hq gD;clear hs;have H:=U h;have HV:=U hV;have HF:=U hF;have X1:=U x1;have X2:=U x2;have X3:=U x3;have Hq:=U hq;have uf:1≤q:=oQ
 have hqm:q≤m:=oQ
 have hqs:off+q≤s:=oQ
 clear h hV hF x1 x2 x3;go_enter Tryz.func281,Tryz.ntmps281;go_wp2_with fail;refine(mM HV.o H.o HF.o).mono ?_;rintro e w1 ⟨hb,rfl,xk,hH,F1,h1,lJ,eD⟩;rw[Hs.o] at hH;have y2:=eD.aW X2.o dQ n2;have y3:=eD.aW X3.o dQ n3;have m2:¬F1 t2:=eD.apart X2.o.lt n2;have m3:¬F1 t3:=eD.apart X3.o.lt n3;have d2:=y2.cell 0;have d3:=y3.cell 0;simp only[zf] at d2 d3;have H1:=U h1;have CZ:=U eD;have HH:=U hH;have Y2:=U y2;have Y3:=U y3;have ds:=hH.1.cell 3 _ rfl;have agB:(0:Int)≤off:=oQ
 have h0m:(0:Int)≤m:=oQ
 clear h1 eD hH y2 y3 c1 c2 c3;go_wp2_with fail;refine(o_ _).mono ?_;rintro e w1 ⟨⟨x,rfl⟩,rfl⟩;have bA:¬((s:Int)≤off):=oQ
 go_wp2_with fail;refine wp_region_noPanic ?_;refine ak (S:=(λW=>W.cell? ⟨t2,0,none⟩=some (.int .i64 off)∧W.cell? ⟨hb,3,none⟩=some (.int .i64 s))) (m:=7) kQ ⟨d2,ds⟩ (λaj=>?_);refine te 0 aj ?_;refine te 1 aj ?_;refine te 2 aj ?_;refine te 3 aj ?_;refine te 4 aj ?_;refine te 5 aj ?_;refine te 6 aj ?_;refine aD ?_;go_wp2_with fail;have fA:IntKind.i64.wrap ((s:Int) - off)=((s - off:Nat):Int):=by rw[zG];omega
 have vL:min (m:Int) ((s - off:Nat):Int)=q:=by have:=Hq.o;omega
 obtain⟨w2,fC,vK,aJ,hz2⟩:=eT (P:=Tryz.prog) bD (base:=w1.drew.drew.heap.size) (w:=w1.drew.drew) .i64 .i64 q oQ oQ (zm _);have fC:(Instr.makeSlice 22 (.int .i64 q) (.int .i64 q)).run Tryz.prog w1.drew.drew=.ok (.slice (some ⟨w1.heap.size,0,none⟩) q q) w2:=fC;have NV:Below w1.heap.size w1 w2:=((zn w1.heap.size w1).drew).drew.trans aJ;rw[eB] at vK;have HO2:=U (show Own 5 w1.heap.size w2 (some ⟨w1.heap.size,0,none⟩) q ((zeros q).map aH) from vK);have k2:=(Y2.o.below NV).cell 0;have k3:=(Y3.o.below NV).cell 0;have ks:=(HH.o.1.below NV).cell 3 _ rfl;simp only[zf] at k2 k3;have bH:=U NV;clear aJ NV vK;refine wp_region_noPanic ?_;refine ak (S:=(λW=>W.cell? ⟨t2,0,none⟩=some (.int .i64 off)∧W.cell? ⟨t3,0,none⟩=some (.int .i64 m)∧W.cell? ⟨hb,3,none⟩=some (.int .i64 s))) (m:=10) kQ ⟨d2,d3,ds⟩ (λaj=>?_);refine te 0 aj ?_;refine te 1 aj ?_;refine te 2 aj ?_;refine te 3 aj ?_;refine te 4 aj ?_;refine te 5 aj ?_;refine te 6 aj ?_;refine te 7 aj ?_;refine te 8 aj ?_;refine rE 9 λK hK=>?_;go_simp;refine hK.out _ _ (λ_=>⟨k2,k3,ks⟩) (λhS=>?_);have bQ:=hS dQ;clear hS hK K
 try simp only[Act.put,zh,zk,zl]
 refine vF 10 ?_;refine aD ?_;have HF1:=U (show¬F1 w1.heap.size from λhf=>by have:=(H1.o.lt _ hf).2;omega);have Gh:=U (CZ.o.below bH.o);have H2:=U (H1.o.below bH.o);have HH2:Hid (bE w2 hb id k l s D r R):=U ⟨HH.o.1.below bH.o,HH.o.2⟩;have Y22:=U (Y2.o.below bH.o);have AQ:w1.heap.size<w2.heap.size:=(eu HO2.o).2.1;have hzw:=CZ.o.size;have hhl:=HH.o.1.lt;have Tq:=Y2.o.lt;clear d2 d3 ds k2 k3 ks fC hz2;go_wp2_with fail;go_loopw [8] (λvv wr=>∃(x:Nat) (F':Nat→Prop),x≤q∧vv=.int .i64 x∧Wk v wr p b sp d B C E n F'∧¬F' w1.heap.size∧¬F' hb∧¬F' t2∧Own 5 w1.heap.size wr (some ⟨w1.heap.size,0,none⟩) q (((c.drop off).take x++zeros (q - x)).map aH)∧bE wr hb id k l s D r R∧ah wr t2 3 [.int .i64 off]∧Mv d v F w F' wr) (λvv _=>q - (intOf vv).toNat)
 case atStart=>exact⟨0,F1,oQ,rfl,H2.o,HF1.o,lJ,m2,by rw[zaA,zB,Nat.sub_zero];exact HO2.o,HH2.o,Y22.o,Gh.o⟩
 case round=>
  obtain⟨x,F',hx,rfl,hW,hnA,hnH,hnT,hA,Pw,hT,hM⟩:=hrel;have HW:=U hW;have HA:=U hA;have vo:=U Pw;have HT:=U hT;have HM:=U hM;have e2:=hT.cell 0;simp only[zf] at e2;clear hW hA Pw hT hM;by_cases hxq:x<q
  ·have hxi:(x:Int)<q:=oQ
   obtain⟨i,hi⟩:∃i,(off+x) / 480=i:=⟨_,rfl⟩
   obtain⟨o,vK⟩:∃o,(off+x)%480=o:=⟨_,rfl⟩
   obtain⟨j,hj⟩:∃j,min (q - x) (480 - o)=j:=⟨_,rfl⟩
   have hdiv:((off:Int)+(x:Int)) / 480=(i:Int):=oQ
   have NW:((off:Int)+(x:Int))%480=(o:Int):=oQ
   have hjj:(min ((q - x:Nat):Int) (480 - (o:Int))).toNat=j:=oQ
   have BL:i<fT c.length:=by rw[Hs.o];unfold fT;omega
   obtain⟨pp,Yo,Cw,hpB, -, -, -,dO⟩:=HF.o.iW.ptr i BL;have dO:=U dO;have Hd:=U (And.intro hdiv (And.intro NW hjj));have Hn:=U (And.intro hi (And.intro vK hj));clear hdiv NW hjj hi vK hj BL;go_wp2_with fail;rw[Hd.o.1,Hd.o.2.1,Hd.o.2.2];refine(pF vo.o (by have:=Hn.o.1;omega:i<256)).mono ?_;rintro e wr ⟨rfl,rfl⟩;rw[Yo];have QW:¬((pp:Int)=0):=oQ
   go_wp2_with fail;refine(uY HV.o HW.o (by omega:pp≠0) hpB).mono ?_;rintro e wr2 ⟨g,cg,rfl,xM,F2,lZ,anP,bC⟩;have hel:(E pp).length=480:=HW.o.len HV.o.len pp oQ;obtain⟨hi,vK,hj⟩:=Hn.o;have hcg:=xM.len.1;rw[zD,hel] at hcg;have hco:¬(cg=o):=oQ
   have ZJ:=bC.own dQ HA.o (λg' lQ=>by injection lQ with lQ;injection lQ with lQ;subst lQ;exact hnA);have Nr:((c.drop (off+x)).take j).length=j:=by rw[zF,zR,Hs.o];omega
   obtain⟨wr3,hcp,hA3,gL,mF⟩:=A_ (ty:=3) (n:=j) (cd:=q - x) (m:=480 - o) (cs:=cg - o) (o:=x) (y:=(c.drop (off+x)).take j) (a:=⟨g,o,none⟩) ZJ (by rw[Nr];omega) (λt ht=>by
    rw[Nr] at ht;have ha:(⟨g,o,none⟩:Addr).add t=⟨g,o+t,none⟩:=by unfold Addr.add;split<;>simp_all
    have hot:o+t<(E pp).length:=oQ
    rw[ha,xM.cell (o+t) (by rw[zD];exact hot),zaJ];congr 2;have h1:=dO.o (o+t) oQ (by rw[Hs.o];omega);rw[zu hot] at h1;have h2:((c.drop (off+x)).take j)[t]? =c[480*i+(o+t)]?:=by
     rw[qh,if_pos ht,zaB];congr 1;omega
    rw[←h1,zu (by rw[Nr];exact ht)] at h2;injection h2 with h2;exact h2.symm) (by rw[Nr,zw,zF,zR,Hs.o];simp[zeros];omega)
   rw[Nr] at hcp;rw[aeG (by rw[Hs.o];exact Hq.o) oQ] at hA3;have GH:=U hA3;have hag:w1.heap.size≠hb:=oQ
   have BP:=U (lZ.keep (w':=wr3) (λk hk=>gL.block k (lZ.lt k hk).2 (λe=>bC.apart (eu HA.o).2.1 hnA (e▸hk))) ((HM.o.trans bC).kept gL (.inr hzw)).q' oQ);have vX:=U ((HM.o.trans bC).kept gL (.inr hzw));have HH3:Hid (bE wr3 hb id k l s D r R):=U ⟨(vo.o.mv bC hnH).1.kept gL (λe=>hag e.symm),vo.o.2⟩;have jo:=U ((bC.aW HT.o dQ hnT).kept gL oQ);have z1:¬F2 w1.heap.size:=bC.apart (eu HA.o).2.1 hnA;have z2:¬F2 hb:=bC.apart vo.o.lt hnH;have z3:¬F2 t2:=bC.apart HT.o.lt hnT;clear xM lZ bC ZJ hA3 gL Nr mF e2;go_wp2_with fail;exact⟨⟨x+j,F2,oQ,by go_num,BP.o,z1,z2,z3,GH.o,HH3.o,jo.o,vX.o⟩,by simp[intOf];omega⟩
  ·obtain rfl:x=q:=oQ
   go_wp2_with fail;go_ret;refine⟨w1.heap.size,rfl,hzw,?_,F',HW.o,hnA,HM.o⟩;have h1:=HA.o;have h2:(c.drop off).take x++zeros (x - x)=(c.drop off).take m:=by
    rw[zbc];show _++[]=_;rw[qD];have h3:=Hq.o;rw[List.take_eq_take_iff,zR,Hs.o];omega
   rw[h2] at h1;exact h1.mono hzw
end
section
variable {v w:World} {sp d B b n id:Nat} {C E:Nat→Bytes} {F:Nat→Prop} {k l:Int} {c:Bytes} {D R:List Int} {r:Int}
theorem Wu {base c:Nat} {w w':World} {g:Nat} {xs:List Value} {e:TypeId} (h:Own e base w (some ⟨g,0,none⟩) c xs) (hk:w'.heap[g]? =w.heap[g]?):Own e base w' (some ⟨g,0,none⟩) c xs:=by
 refine⟨h.1,?_⟩;rcases h.2 with h0|⟨g',cap,cur,hv,hb,hg,r⟩
 ·exact .inl h0
 ·injection hv with e1 e2 e3
  injection e1 with e1;injection e1 with e1;subst e1 e3;exact .inr ⟨g,c,cur,by rw[e2],hb,hk.trans hg,r⟩
theorem Ce {off m:Nat} (hV:Base v sp d B C) (h:cB v w b sp d C E n F) (hF:mh E B id k l c D r R) (ho:off<c.length) (hm:1≤m∧m≤1000000) {q:Nat} (hq:min m (c.length - off)=q):
  Calls Tryz.prog 239 #[.agg #[.pointer (some ⟨b,0,none⟩),.int .i64 B],.int .i64 id,.int .i64 off,.int .i64 m] w λe w'=>∃g,e=.returned (.tuple #[.slice (some ⟨g,0,none⟩) q q,.int .i64 0])∧w.heap.size≤g∧Own 5 w.heap.size w' (some ⟨g,0,none⟩) q (((c.drop off).take m).map aH)∧∃F',cB v w' b sp d C E (up n) F'∧¬F' g∧Mv d v F w F' w':=by
 obtain⟨w1,aP⟩:∃w1,(((w.alloc (.cells #[.pointer (some ⟨b,0,none⟩),.int .i64 B] 85)).alloc (.cells #[.int .i64 id] 3)).alloc (.cells #[.int .i64 off] 3)).alloc (.cells #[.int .i64 m] 3)=w1:=⟨_,rfl⟩
 obtain⟨aM,aF,hz1⟩:=boxes [([.pointer (some ⟨b,0,none⟩),.int .i64 B],85),([.int .i64 id],3),([.int .i64 off],3),([.int .i64 m],3)] w w1 (by rw[←aP];rfl);have x0:ah w1 w.heap.size 85 [.pointer (some ⟨b,0,none⟩),.int .i64 B]:=aM 0 _ rfl;have x1:ah w1 (w.heap.size+1) 3 [.int .i64 id]:=aM 1 _ rfl;have x2:ah w1 (w.heap.size+2) 3 [.int .i64 off]:=aM 2 _ rfl;have x3:ah w1 (w.heap.size+3) 3 [.int .i64 m]:=aM 3 _ rfl;have y0:=x0.cell 0;have y1:=x0.cell 1;simp only[zf,zi] at y0 y1;have bA:=h.lt;have H:=U h;have H1:=U (h.below aF);have HV:=U hV;have HF:=U hF;have X:=U (And.intro x1 (And.intro x2 x3));have HB:=U aF;have iK:=U bA;have hz:w1.heap.size=w.heap.size+4:=by simpa using hz1
 clear h hV aM aF hz1 x0 x1 x2 x3 bA hF;go_enter Tryz.func239,Tryz.ntmps239;go_wp2_with fail;refine(Rl HV.o H1.o (fn:=281) (caps:=#[.pointer (some ⟨w.heap.size+1,0,none⟩),.pointer (some ⟨w.heap.size+2,0,none⟩),.pointer (some ⟨w.heap.size+3,0,none⟩)]) (λ_ _=>rfl) (PE:=λE'=>E'=E) (n':=n) (Post:=λa m' c' X W=>∃g,a=some ⟨g,0,none⟩∧m'=q∧c'=q∧X=[g]∧Own 5 w.heap.size W (some ⟨g,0,none⟩) q (((c.drop off).take m).map aH)) (λa m' c' X A W hP hk=>?_) (λw2 p b' G F1 hW hG fA=>?_)).mono ?_
 ·obtain⟨g,h1,h2,h3,h4,h5⟩:=hP
  subst h4;exact⟨g,h1,h2,h3,rfl,Wu h5 (hk g sQ)⟩
 ·obtain⟨x1,x2,x3⟩:=X.o
  have hn:∀i,w.heap.size≤i→¬F i:=λi hi hf=>by have:=(iK.o _ hf).2;omega
  have hz2:=hG.size;have nF:∀i,w.heap.size≤i→i<w1.heap.size→¬F1 i:=λi h1 h2 hf=>hG.apart h2 (hn i h1) (fA i hf);refine(NU HV.o hW HF.o (hG.aW x1 dQ (hn _ oQ)) (hG.aW x2 dQ (hn _ oQ)) (hG.aW x3 dQ (hn _ oQ)) (nF _ oQ oQ) (nF _ oQ oQ) (nF _ oQ oQ) ho hm hq).mono ?_;rintro e w3 ⟨g,rfl,hg,hO,F2,h1,h2,h3⟩;refine⟨_,_,_,[g],rfl,⟨g,rfl,rfl,rfl,rfl,hO.mono oQ⟩,λg' lQ=>?_,E,F2,rfl,h1,λg' lQ=>?_,h3⟩
  ·rw[zV.1 lQ]
   exact⟨hg,(eu hO).2.1⟩
  ·rw[zV.1 lQ]
   exact h2
 rintro e w2 ⟨a,m',c',X',rfl,⟨g,rfl,rfl,rfl,rfl,hO⟩,E',rfl,F',h1,hX,h2⟩;have hg:=hX g sQ;have HG:=U (And.intro h1 (And.intro (Mv.after HB.o h2 H.o.quiet (λk hk=>(H.o.lt k hk).2)) (And.intro hO hg.2.2)));have xW:=hg.1;clear h1 h2 aP y0 y1 hO hX hg;go_wp2_with fail;go_ret2;exact⟨g,rfl,oQ,HG.o.2.2.1,F',HG.o.1,HG.o.2.2.2,HG.o.2.1⟩
end
def Db (E:nR) (B id:Nat) (D:List Int) (r:Int) (R:List Int) (c:Bytes) (i o:Nat) (pp:Nat) (pb:Bytes) (E':nR) (D':List Int) (r':Int) (R':List Int) (dl:Nat):Prop:=
 pp≠0∧pp<B∧pb.length=480∧∀d:Bytes,d.length=dl→
  uz (λx=>if x=pp then ow pb o d else E' x) B id D' r' R' (ow c (480*i+o) d)∧Grow E (λx=>if x=pp then ow pb o d else E' x) (Has id D r R c.length) (Has id D' r' R' (ow c (480*i+o) d).length)∧
  cnt (E' 0) B+need c.length=cnt (E 0) B+need (ow c (480*i+o) d).length∧(fT (ow c (480*i+o) d).length≤16→R'=R)
section
variable {E:nR} {B id i o p dl:Nat} {D R:List Int} {r:Int} {c:Bytes}
theorem Wv (h:uz E B id D r R c) (hi:i<fT c.length) (dw:480*i+o≤c.length) (ho:o<480) (eX:o+dl≤480) (hf:480*i+o+dl≤122880) (hp:pg D R i=(p:Int)) (hE:(E p).length=480) {pb:Bytes} (pY:pb=E p∨(dl=480∧pb=zeros 480)):Db E B id D r R c i o p pb E D r R dl:=by
 obtain⟨p',h3,h4,h5, -⟩:=h.ptr i hi;obtain rfl:p=p':=oQ
 have hlen:pb.length=480:=by
  rcases pY with rfl|⟨_,rfl⟩
  ·exact hE
  ·simp[zeros]
 refine⟨oQ,h5,hlen,λd hd=>?_⟩;have e1:(480*i+o) / 480=i:=oQ
 have e2:(480*i+o)%480=o:=oQ
 have anQ:ow pb o d=ow (E p) o d:=by
  rcases pY with rfl|⟨h6,rfl⟩
  ·rfl
  ·obtain rfl:o=0:=oQ
   rw[EO (by rw[hd,h6];simp[zeros]),EO (by rw[hd,h6];exact hE)]
 have hw:=h.write (o:=480*i+o) (d:=d) dw (by rw[e1];exact hi) (by rw[e2,hd];omega) (p:=p) (by rw[e1];exact hp) hE (by rw[hd];omega);rw[e2] at hw;rw[anQ];refine⟨hw.1,hw.2,?_⟩;rw[iP dw,aeu (by rw[e1];exact hi) (by rw[e2,hd];omega)];exact⟨rfl,λ_=>rfl⟩
theorem xu (h:uz E B id D r R c) (hc:c.length=480*i) (hi:i<256) (eX:0<dl∧dl≤480) {r':Int} {B1:Bytes} (hz:aG (E 0) 0=true) (h0:(E 0).length=480) (hB:B≤3840)
  (jY:i=16→∃q:Nat,r'=(q:Int)∧q<B∧aG (E 0) q=false∧B1=aY (E 0) q true) (sH:i≠16→r'=r∧B1=E 0) (hp:p<B) (Cw:aG B1 p=false):
  Db E B id D r R c i 0 p (zeros 480) (λx=>if x=0 then aY B1 p true else E x) (AY D i p) r' (vP R i p) dl:=by
 have aDx:B1.length=480:=by
  by_cases jS:i=16
  ·obtain⟨q,_,_,_,e⟩:=jY jS
   rw[e,jc,h0]
  ·rw[(sH jS).2,h0]
 have iA:∀x,aG B1 x=true↔aG (E 0) x=true∨(i=16∧r'=(x:Int)):=λx=>by
  by_cases jS:i=16
  ·obtain⟨q,e1,e2,e3,e4⟩:=jY jS
   rw[e4,bM oQ];by_cases hx:x=q
   ·subst hx
    simp[jS,e1]
   ·rw[if_neg hx]
    constructor
    ·exact λh=>.inl h
    ·rintro(h|⟨_,h⟩)
     ·exact h
     ·omega
  ·rw[(sH jS).2]
   constructor
   ·exact λh=>.inl h
   ·rintro(h|⟨h,_⟩)
    ·exact h
    ·exact absurd h jS
 have dh:∀x,aG (aY B1 p true) x=true↔aG B1 x=true∨x=p:=λx=>by
  rw[bM oQ];by_cases hx:x=p
  ·simp[hx]
  ·simp[hx]
 have sV:p≠0:=by
  rintro rfl;rw[(iA 0).2 (.inl hz)] at Cw;cases Cw
 refine⟨sV,hp,by simp[zeros],λd hd=>?_⟩;have hg:=h.grow (d:=d) hc hi (by rw[hd];exact eX) iA (λjS=>by obtain⟨q,e1,e2,e3,e4⟩:=jY jS;exact⟨q,e1,e2,e3⟩) (λjS=>(sH jS).1) hp Cw dh hz;have he:(λx=>if x=p then ow (zeros 480) 0 d else if x=0 then aY B1 p true else E x)=(λx=>if x=0 then aY B1 p true else if x=p then ow (zeros 480) 0 d else E x):=by
  funext x;by_cases hx:x=p
  ·subst hx
   simp[sV]
  ·simp[hx]
 have hce:ow c (480*i+0) d=c++d:=by rw[za3];exact aaz hc d
 rw[he,hce];refine⟨hg.1,hg.2,?_⟩
 have anR:cnt B1 B=cnt (E 0) B+if i=16 then 1 else 0:=by
  by_cases jS:i=16
  ·obtain⟨q,e1,e2,e3,e4⟩:=jY jS
   rw[if_pos jS,e4];refine n_ e3 (by rw[bM oQ,if_pos rfl]) (λm hm=>by rw[bM oQ,if_neg hm]) e2
  ·rw[if_neg jS,(sH jS).2,za3]
 have anS:cnt (aY B1 p true) B=cnt B1 B+1:=n_ Cw (by rw[bM oQ,if_pos rfl]) (λm hm=>by rw[bM oQ,if_neg hm]) hp
 have hn:need (c++d).length=need c.length+if i=16 then 2 else 1:=by
  rw[zw,hc,hd];exact Jd i dl eX
 refine⟨?_,λh=>?_⟩
 ·show cnt (aY B1 p true) B+_=_
  rw[anS,anR,hn]
  split<;>omega
 ·rw[zw,hc,hd,KG i dl eX] at h
  unfold vP;rw[if_pos oQ]
end
section
variable {v w:World} {sp d B p b n hb id i o dl:Nat} {C E:Nat→Bytes} {F:Nat→Prop} {k l s:Int} {D R:List Int} {r:Int} {c:Bytes}
theorem Ww (hV:Base v sp d B C) (h:Wk v w p b sp d B C E n F) (nM:1≤n) (hH:bE w hb id k l s D r R) (lJ:¬F hb) (Yk:v.heap.size≤hb) (hP:uz E B id D r R c) (hz:aG (E 0) 0=true) (hi:i<256) (dw:480*i+o≤c.length) (ho:o<480) (eX:0<dl∧o+dl≤480) (hf:480*i+o+dl≤122880)
  (dx:cnt (E 0) B+need (max c.length (480*i+o+dl))≤B+need c.length) (wh:Bool) (hwh:wh=decide (dl=480)):
  Calls Tryz.prog 234 #[.pointer (some ⟨p,0,none⟩),.pointer (some ⟨hb,0,none⟩),.int .i64 i,.bool wh] w λe w'=>∃(pp g cg:Nat) (pb:Bytes) (E':nR) (D':List Int) (r':Int) (R':List Int) (F':Nat→Prop),e=.returned (.tuple #[.int .i64 pp,.slice (some ⟨g,0,none⟩) 480 cg])∧Db E B id D r R c i o pp pb E' D' r' R' dl∧w.heap.size≤g∧Own 5 w.heap.size w' (some ⟨g,0,none⟩) cg (pb.map aH)∧bE w' hb id k l s D' r' R'∧Wk v w' p b sp d B C E' n F'∧¬F' g∧¬F' hb∧Mv d v (λx=>F x∨x=hb) w (λx=>F' x∨x=hb) w':=by
 have hB:=hV.few;have bA:=h.lt;have H:=U h;have HV:=U hV;have HH:=U hH;have HP:=U hP;have iK:=U bA;have nI:=hH.lt;have Hr:=U dx;have Hwh:=U hwh
 have TP:Mv d v (λx=>F x∨x=hb) w (λx=>F x∨x=hb) w:=Mv.refl hV.dev h.quiet (λk hk=>by
  rcases hk with hk|rfl
  ·exact bA k hk
  ·exact⟨Yk,nI⟩)
 have Rm:=U TP;clear h hV hH hP bA dx TP hwh;go_enter Tryz.func234,Tryz.ntmps234;go_wp2_with fail;refine(pF HH.o hi).mono ?_;rintro e w ⟨rfl,rfl⟩;by_cases BL:i<fT c.length
 ·obtain⟨pp,Yo,Cw,hpB, -⟩:=HP.o.ptr i BL
  rw[Yo];have QW:¬((pp:Int)=0):=oQ
  have hel:(E pp).length=480:=H.o.len HV.o.len pp oQ;have hop:=λ(pb:Bytes) (pY:pb=E pp∨(dl=480∧pb=zeros 480))=>Wv HP.o BL dw ho eX.2 hf Yo hel pY;have Hop:=U hop;clear hop;rcases wh with _|_
  ·go_wp2_with fail
   refine(uY HV.o H.o oQ hpB).mono ?_;rintro e w2 ⟨g,cg,rfl,xM,F2,lZ,tq,bC⟩;have hgw:=(eu xM).1;have HF:=U (And.intro xM (And.intro lZ (And.intro tq bC)));clear xM lZ tq bC;go_wp2_with fail;go_ret2;obtain⟨xM,lZ,tq,bC⟩:=HF.o;refine⟨pp,g,cg,E pp,E,D,r,R,F2,rfl,Hop.o _ (.inl rfl),hgw,xM,HH.o.mv bC lJ,lZ,tq,bC.apart nI lJ,?_⟩
   exact Rm.o.trans (bC.more (λx hx=>.inl hx) Rm.o.lt (λx hx=>by
    rcases hx with hx|hx
    ·exact .inr (.inl hx)
    ·exact .inl (.inr hx)))
  ·have anT:=U (show dl=480 by simpa using Hwh.o.symm)
   go_wp2_with fail;obtain⟨w2,fC,vK,aJ,hz2⟩:=eT (P:=Tryz.prog) bD (base:=w.drew.heap.size) (w:=w.drew) .i64 .i64 480 oQ oQ (zm _);have fC:(Instr.makeSlice 22 (.int .i64 480) (.int .i64 480)).run Tryz.prog w.drew=.ok (.slice (some ⟨w.heap.size,0,none⟩) 480 480) w2:=fC;rw[eB] at vK;have HF:=U (And.intro (show Own 5 w.heap.size w2 (some ⟨w.heap.size,0,none⟩) 480 ((zeros 480).map aH) from vK) (show Below w.heap.size w w2 from((zn w.heap.size w).drew).trans aJ));clear vK aJ hz2;refine wp_region_noPanic ?_;refine ak (S:=(λ_=>True)) (m:=3) kQ trivial (λaj=>?_);refine te 0 aj ?_;refine te 2 aj ?_;refine rE 1 λK hK=>?_;go_simp;refine hK.out _ _ (λ_=>trivial) (λhS=>?_);have bQ:=hS dQ;clear hS hK K
   try simp only[Act.put,zh,zk,zl]
   refine vF 3 ?_;refine aD ?_;go_wp2_with fail;go_ret2;obtain⟨vK,aJ⟩:=HF.o;refine⟨pp,w.heap.size,480,zeros 480,E,D,r,R,F,rfl,Hop.o _ (.inr ⟨anT.o,rfl⟩),zm _,vK,⟨HH.o.1.below aJ,HH.o.2⟩,H.o.below aJ,λhf=>?_,lJ,Rm.o.below aJ⟩;have:=(iK.o _ hf).2;omega
 ·have hzero:=HP.o.nul i oQ hi
  rw[hzero];have CJ:c.length=480*i∧o=0:=by unfold fT at BL;omega
  obtain⟨CJ,rfl⟩:=CJ;have hE0:(E 0).length=480:=H.o.EF HV.o.len;have HE0:=U hE0;have aaM:cnt (E 0) B+(if i=16 then 2 else 1)≤B:=by
   have h1:=Hr.o;rw[show max c.length (480*i+0+dl)=480*i+dl by omega,Jd i dl ⟨eX.1,oQ⟩,CJ] at h1;omega
  clear hE0 hzero;by_cases jS:i=16
  ·have vU:r=0:=HP.o.row0 (by rw[CJ,AZ];omega)
   rw[if_pos jS] at aaM;obtain⟨q,uf,IL,I6⟩:=o9 (l:=E 0) (e:=B) oQ;have Hq3:=U I6;have aeH:(16:Int)≤i:=oQ
   have NP:=HH.o.1.cell 20 _ (kI HH.o.2.1);rw[vU] at NP;have H16:=U jS;have Hr0:=U vU;clear I6 jS vU;go_wp2_with fail;refine(mJ HV.o H.o nM hB.2 uf IL Hq3.o).mono ?_;rintro e w2 ⟨rfl,F1,lZ,bC⟩;have KV:=HH.o.mv bC lJ;have yJ:¬F1 hb:=bC.apart nI lJ;have k20:=KV.1.cell 20 _ (kI KV.2.1);have f20:=KV.1.free 20;obtain⟨wr,X_⟩:∃wr,w2.setCell ⟨hb,20,none⟩ (.int .i64 q)=wr:=⟨_,rfl⟩
   have hk:=Kept.setCell (r:=hb) w2 20 (.int .i64 q);have Pw:=IsNode.aB KV.1 20 (q:Int);rw[Q8 KV.2.1] at Pw;rw[X_] at hk Pw
   have HM2:=U (Rm.o.trans (bC.more (G':=λx=>F1 x∨x=hb) (λx hx=>.inl hx) Rm.o.lt (λx hx=>by
    rcases hx with hx|hx
    ·exact .inr (.inl hx)
    ·exact .inl (.inr hx))))
   have Yq:=U (HM2.o.kept hk (.inl (.inr rfl)));have HHn:Hid (bE wr hb id k l s D q R):=U ⟨Pw,KV.2⟩;obtain⟨B1,aF⟩:∃B1,aY (E 0) q true=B1:=⟨_,rfl⟩
   rw[aF] at lZ;have HWn:=U (lZ.keep (w':=wr) (λx hx=>hk.block x (lZ.lt x hx).2 (λe=>yJ (e▸hx))) Yq.o.q' hk.size)
   have Wx:=U (show cnt B1 B<B by
    rw[←aF,n_ IL (by rw[bM (by rw[HE0.o];omega),if_pos rfl]) (λm hm=>by rw[bM (by rw[HE0.o];omega),if_neg hm]) uf];omega)
   have jY:Hid (i=16→∃q':Nat,(q:Int)=(q':Int)∧q'<B∧aG (E 0) q'=false∧B1=aY (E 0) q' true):=U (λ_=>⟨q,rfl,uf,IL,aF.symm⟩);have sH:Hid (i≠16→(q:Int)=r∧B1=E 0):=U (λh=>absurd H16.o h);clear lZ bC KV hk Pw NP aF;go_wp2_with fail;clear X_ k20 f20;have hcB:cnt B1 B<B:=Wx.o;obtain⟨pp,sV,nK,hp3⟩:=o9 hcB;have HOp:=U (xu HP.o CJ (by omega:i<256) ⟨eX.1,oQ⟩ hz HE0.o hB.2 jY.o sH.o sV nK);have Hp3:=U hp3;clear hp3;go_wp2_with fail;refine(mJ HV.o HWn.o nM hB.2 sV nK Hp3.o).mono ?_;rintro e w3 ⟨rfl,F3,tu,dP⟩;have NY:(λx=>if x=0 then aY ((λx=>if x=0 then B1 else E x) 0) pp true else(λx=>if x=0 then B1 else E x) x)=(λx=>if x=0 then aY B1 pp true else E x):=by
    funext x;by_cases hx:x=0
    ·simp[hx]
    ·simp[hx]
   rw[NY] at tu;have HH3:=U (HHn.o.mv dP yJ);have GI:¬F3 hb:=dP.apart HHn.o.lt yJ;have BP:=U tu
   have vX:=U (Yq.o.trans (dP.more (G':=λx=>F3 x∨x=hb) (λx hx=>.inl hx) Yq.o.lt' (λx hx=>by
    rcases hx with hx|hx
    ·exact .inr (.inl hx)
    ·exact .inl (.inr hx))))
   clear tu dP NY;go_wp2_with fail;refine(yH HH3.o (by omega:i<256) (pp:Int)).mono ?_;rintro e w4 ⟨⟨x,rfl⟩,hH4,sO⟩;have HH4:=U hH4;have Gg:=U (vX.o.kept sO (.inl (.inr rfl)));have HW4:=U (BP.o.keep (w':=w4) (λx hx=>sO.block x (BP.o.lt x hx).2 (λe=>GI (e▸hx))) Gg.o.q' sO.size);clear hH4 sO;go_wp2_with fail;obtain⟨w5,fC,NZ,iJ,BN⟩:=eT (P:=Tryz.prog) bD (base:=w4.drew.heap.size) (w:=w4.drew) .i64 .i64 480 oQ oQ (zm _);have fC:(Instr.makeSlice 22 (.int .i64 480) (.int .i64 480)).run Tryz.prog w4.drew=.ok (.slice (some ⟨w4.heap.size,0,none⟩) 480 480) w5:=fC;rw[eB] at NZ;have Cu:=U (And.intro (show Own 5 w4.heap.size w5 (some ⟨w4.heap.size,0,none⟩) 480 ((zeros 480).map aH) from NZ) (show Below w4.heap.size w4 w5 from((zn w4.heap.size w4).drew).trans iJ));clear NZ iJ BN;refine wp_region_noPanic ?_;refine ak (S:=(λ_=>True)) (m:=3) kQ trivial (λaj=>?_);refine te 0 aj ?_;refine te 2 aj ?_;refine rE 1 λK hK=>?_;go_simp;refine hK.out _ _ (λ_=>trivial) (λhS=>?_);have bQ:=hS dQ;clear hS hK K
   try simp only[Act.put,zh,zk,zl]
   refine vF 3 ?_;refine aD ?_;go_wp2_with fail;go_ret2;obtain⟨NZ,iJ⟩:=Cu.o;have hzz:=Gg.o.size;refine⟨pp,w4.heap.size,480,zeros 480,_,_,_,_,F3,rfl,HOp.o,hzz,NZ.mono hzz,⟨HH4.o.1.below iJ,HH4.o.2⟩,HW4.o.below iJ,λhf=>?_,GI,Gg.o.below iJ⟩;have:=(HW4.o.lt _ hf).2;omega
  ·rw[if_neg jS] at aaM
   have hE:(λx=>if x=0 then E 0 else E x)=E:=by
    funext x;by_cases hx:x=0
    ·simp[hx]
    ·simp[hx]
   obtain⟨B1,aF⟩:∃B1,B1=E 0:=⟨_,rfl⟩
   have hW:=H.o;rw[←hE,←aF] at hW;have HWn:=U hW;obtain⟨r',hr'⟩:∃r',r'=r:=⟨_,rfl⟩
   have hH0:=HH.o;rw[←hr'] at hH0;have HHn:=U hH0;have Yq:=Rm;have yJ:=lJ;have Wx:=U (show cnt B1 B<B by rw[aF];omega);have jY:Hid (i=16→∃q':Nat,r'=(q':Int)∧q'<B∧aG (E 0) q'=false∧B1=aY (E 0) q' true):=U (λh=>absurd h jS);have sH:Hid (i≠16→r'=r∧B1=E 0):=U (λ_=>⟨hr',aF⟩);have NP:=hH0.1.cell 20 _ (kI hH0.2.1);clear hW hE aF hH0;by_cases aeH:i<16
   ·have h1:¬((16:Int)≤i):=oQ
    clear jS NP hr';go_wp2_with fail;have hcB:cnt B1 B<B:=Wx.o;obtain⟨pp,sV,nK,hp3⟩:=o9 hcB;have HOp:=U (xu HP.o CJ (by omega:i<256) ⟨eX.1,oQ⟩ hz HE0.o hB.2 jY.o sH.o sV nK);have Hp3:=U hp3;clear hp3;go_wp2_with fail;refine(mJ HV.o HWn.o nM hB.2 sV nK Hp3.o).mono ?_;rintro e w3 ⟨rfl,F3,tu,dP⟩;have NY:(λx=>if x=0 then aY ((λx=>if x=0 then B1 else E x) 0) pp true else(λx=>if x=0 then B1 else E x) x)=(λx=>if x=0 then aY B1 pp true else E x):=by
     funext x;by_cases hx:x=0
     ·simp[hx]
     ·simp[hx]
    rw[NY] at tu;have HH3:=U (HHn.o.mv dP yJ);have GI:¬F3 hb:=dP.apart HHn.o.lt yJ;have BP:=U tu
    have vX:=U (Yq.o.trans (dP.more (G':=λx=>F3 x∨x=hb) (λx hx=>.inl hx) Yq.o.lt' (λx hx=>by
     rcases hx with hx|hx
     ·exact .inr (.inl hx)
     ·exact .inl (.inr hx))))
    clear tu dP NY;go_wp2_with fail;refine(yH HH3.o (by omega:i<256) (pp:Int)).mono ?_;rintro e w4 ⟨⟨x,rfl⟩,hH4,sO⟩;have HH4:=U hH4;have Gg:=U (vX.o.kept sO (.inl (.inr rfl)));have HW4:=U (BP.o.keep (w':=w4) (λx hx=>sO.block x (BP.o.lt x hx).2 (λe=>GI (e▸hx))) Gg.o.q' sO.size);clear hH4 sO;go_wp2_with fail;obtain⟨w5,fC,NZ,iJ,BN⟩:=eT (P:=Tryz.prog) bD (base:=w4.drew.heap.size) (w:=w4.drew) .i64 .i64 480 oQ oQ (zm _);have fC:(Instr.makeSlice 22 (.int .i64 480) (.int .i64 480)).run Tryz.prog w4.drew=.ok (.slice (some ⟨w4.heap.size,0,none⟩) 480 480) w5:=fC;rw[eB] at NZ;have Cu:=U (And.intro (show Own 5 w4.heap.size w5 (some ⟨w4.heap.size,0,none⟩) 480 ((zeros 480).map aH) from NZ) (show Below w4.heap.size w4 w5 from((zn w4.heap.size w4).drew).trans iJ));clear NZ iJ BN;refine wp_region_noPanic ?_;refine ak (S:=(λ_=>True)) (m:=3) kQ trivial (λaj=>?_);refine te 0 aj ?_;refine te 2 aj ?_;refine rE 1 λK hK=>?_;go_simp;refine hK.out _ _ (λ_=>trivial) (λhS=>?_);have bQ:=hS dQ;clear hS hK K
    try simp only[Act.put,zh,zk,zl]
    refine vF 3 ?_;refine aD ?_;go_wp2_with fail;go_ret2;obtain⟨NZ,iJ⟩:=Cu.o;have hzz:=Gg.o.size;refine⟨pp,w4.heap.size,480,zeros 480,_,_,_,_,F3,rfl,HOp.o,hzz,NZ.mono hzz,⟨HH4.o.1.below iJ,HH4.o.2⟩,HW4.o.below iJ,λhf=>?_,GI,Gg.o.below iJ⟩;have:=(HW4.o.lt _ hf).2;omega
   ·have h1:(16:Int)≤i:=oQ
    obtain⟨q,uf,IL, -⟩:=HP.o.EP (by rw[CJ,AZ];omega);have hrn:(r'==0)=false:=by
     rw[hr',uf];simp;omega
    clear jS aeH uf hr';go_wp2_with fail;clear NP;go_wp2_with fail;have hcB:cnt B1 B<B:=Wx.o;obtain⟨pp,sV,nK,hp3⟩:=o9 hcB;have HOp:=U (xu HP.o CJ (by omega:i<256) ⟨eX.1,oQ⟩ hz HE0.o hB.2 jY.o sH.o sV nK);have Hp3:=U hp3;clear hp3;go_wp2_with fail;refine(mJ HV.o HWn.o nM hB.2 sV nK Hp3.o).mono ?_;rintro e w3 ⟨rfl,F3,tu,dP⟩;have NY:(λx=>if x=0 then aY ((λx=>if x=0 then B1 else E x) 0) pp true else(λx=>if x=0 then B1 else E x) x)=(λx=>if x=0 then aY B1 pp true else E x):=by
     funext x;by_cases hx:x=0
     ·simp[hx]
     ·simp[hx]
    rw[NY] at tu;have HH3:=U (HHn.o.mv dP yJ);have GI:¬F3 hb:=dP.apart HHn.o.lt yJ;have BP:=U tu
    have vX:=U (Yq.o.trans (dP.more (G':=λx=>F3 x∨x=hb) (λx hx=>.inl hx) Yq.o.lt' (λx hx=>by
     rcases hx with hx|hx
     ·exact .inr (.inl hx)
     ·exact .inl (.inr hx))))
    clear tu dP NY;go_wp2_with fail;refine(yH HH3.o (by omega:i<256) (pp:Int)).mono ?_;rintro e w4 ⟨⟨x,rfl⟩,hH4,sO⟩;have HH4:=U hH4;have Gg:=U (vX.o.kept sO (.inl (.inr rfl)));have HW4:=U (BP.o.keep (w':=w4) (λx hx=>sO.block x (BP.o.lt x hx).2 (λe=>GI (e▸hx))) Gg.o.q' sO.size);clear hH4 sO;go_wp2_with fail;obtain⟨w5,fC,NZ,iJ,BN⟩:=eT (P:=Tryz.prog) bD (base:=w4.drew.heap.size) (w:=w4.drew) .i64 .i64 480 oQ oQ (zm _);have fC:(Instr.makeSlice 22 (.int .i64 480) (.int .i64 480)).run Tryz.prog w4.drew=.ok (.slice (some ⟨w4.heap.size,0,none⟩) 480 480) w5:=fC;rw[eB] at NZ;have Cu:=U (And.intro (show Own 5 w4.heap.size w5 (some ⟨w4.heap.size,0,none⟩) 480 ((zeros 480).map aH) from NZ) (show Below w4.heap.size w4 w5 from((zn w4.heap.size w4).drew).trans iJ));clear NZ iJ BN;refine wp_region_noPanic ?_;refine ak (S:=(λ_=>True)) (m:=3) kQ trivial (λaj=>?_);refine te 0 aj ?_;refine te 2 aj ?_;refine rE 1 λK hK=>?_;go_simp;refine hK.out _ _ (λ_=>trivial) (λhS=>?_);have bQ:=hS dQ;clear hS hK K
    try simp only[Act.put,zh,zk,zl]
    refine vF 3 ?_;refine aD ?_;go_wp2_with fail;go_ret2;obtain⟨NZ,iJ⟩:=Cu.o;have hzz:=Gg.o.size;refine⟨pp,w4.heap.size,480,zeros 480,_,_,_,_,F3,rfl,HOp.o,hzz,NZ.mono hzz,⟨HH4.o.1.below iJ,HH4.o.2⟩,HW4.o.below iJ,λhf=>?_,GI,Gg.o.below iJ⟩;have:=(HW4.o.lt _ hf).2;omega
end
theorem N7 {n m:Nat} (h:n≤m):fT n≤fT m:=by unfold fT;omega
theorem Jl {n m:Nat} (h:n≤m):need n≤need m:=by
 have:=N7 h;unfold need
 split<;>split<;>omega
theorem Ba {E:nR} {B id:Nat} {k l:Int} {c:Bytes} {D R:List Int} {r:Int} (h:uz E B id D r R c) (hB:B≤3840) (hk:k=1∨k=2) (hl:0≤l∧l≤65535) (h0:fT c.length≤16→R=aT):
  mh (saved E id k l c.length D r R) B id k l c D r R∧(saved E id k l c.length D r R) 0=E 0∧∀x,¬Has id D r R c.length x→(saved E id k l c.length D r R) x=E x:=by
 obtain⟨q,uf,IL,I6,hq4⟩:=h.ES hB;have hown:=h.own;have wS:(saved E id k l c.length D r R) 0=E 0:=by
  unfold saved;rw[if_neg (λhx=>by have:=hx.1;have:=hx.2;omega),if_neg oQ]
 refine⟨⟨h.other (λi hi p hp=>?_) (λx hx=>?_),hk,hl,?_,λhn=>?_,h0⟩,wS,λx hx=>?_⟩
 ·obtain⟨p',g1,g2,g3,g4,g5, -⟩:=h.ptr i hi
  obtain rfl:p=p':=oQ
  unfold saved;rw[if_neg (λhx=>g5 hx.2.symm),if_neg g4]
 ·rw[wS]
  exact h.bit x hx
 ·unfold saved
  rw[if_neg (λhx=>by have:=hx.2;omega),if_pos rfl]
 ·have:q≠0:=λe=>by have:=hq4.1 e;omega
  unfold saved;rw[if_pos ⟨oQ,oQ⟩]
 ·unfold saved
  rw[if_neg (λh2=>hx (.inr (.inl ⟨by
   apply zaE;intro h3;have:=hq4.2 oQ;omega,h2.2.symm⟩))),if_neg (λe=>hx (.inl e))]
end
end Go.Proofs.YtdjdpeadohobmaaGreatDoor
