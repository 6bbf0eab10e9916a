/- A part of the walk below the law: what is proved here is used by later parts; no further condition. -/
import Derived.Test.YtdjdpeadohobmaaGreatDoorK35
import Derived.Test.YtdjdpeadohobmaaGreatDoorK38
import Derived.Test.YtdjdpeadohobmaaGreatDoorK39
import Derived.Test.YtdjdpeadohobmaaGreatDoorK47
set_option linter.unusedVariables false
set_option linter.unusedSimpArgs false
set_option maxRecDepth 100000
set_option maxHeartbeats 20000000
namespace Go.Proofs.YtdjdpeadohobmaaGreatDoor
section
open Go.RowKit Go.Shelf Go.Maps O
attribute [local go_sem] Oper.semAt_some
theorem abD {o:Oper} {a:Act} {w:World} {x:Operand} {n:Int} {t1 t2:TypeId} (ho:o.op=.typeAssert x t1 t2 true) (h1:t1=20) (h2:t2=273) (hx:a.eval x=.iface 273 (.int .i64 n)):(execOp a.eval o).run Tryz.prog w=.ok (.value (.tuple #[.int .i64 n,.bool true])) w:=by
 subst h1 h2;unfold execOp;simp only[ho,hx]
 kernel_rfl
theorem Lb (p q:Nat) (w:World) {x:Value} (hx:w.cell? ⟨q,0,none⟩=some x) (hf:w.frozen? ⟨q,0,none⟩=false):
  CallsD Tryz.prog 209 #[.pointer (some ⟨p,0,none⟩),.pointer (some ⟨q,0,none⟩)] (.panicking vZ) w λe u' w'=>e=.returned (.tuple #[])∧settle u'=.returning∧w'=(w.setCell ⟨q,0,none⟩ (.int .i64 7)).alloc (.cells #[] 99):=by
 have hq:=zq w _ hx;have hB:Below w.heap.size w (w.alloc (.cells #[] 99)):=(zn _ _).alloc (zm _) _;have wJ:=(hB.cell (p:=⟨q,0,none⟩) hq).trans hx;refine callsD_of_wpS Tryz.func209 rfl λc₀ cs hu=>?_;apply wpS_seq;refine wpS_of_wp (lK λQ' rF=>?_);have HQ:=U rF;clear rF;simp only[Tryz.ntmps209,zQ,zA,zN,Nat.reduceAdd,Nat.reduceSub,zJ,zK,zT,zM,zB,zU];go_wp2_with fail;rw[HQ.o];simp only[Exit.thenS];apply wpS_seq;apply wpS_region;simp[wpOpsS,go_sem,Act.eval,recoverD,hu,vZ,Exit.thenS];refine wpS_of_wp (lK λQ' rF=>?_);have UO:=U rF;clear rF;go_wp2_with (refine bB _ rfl (abD rfl rfl rfl rfl) ?_);rw[UO.o];exact⟨rfl,_,rfl,.tuple #[],by simp[results,Tryz.results209],rfl,rfl,rfl⟩
section
variable {v w:World} {sp d B b n:Nat} {C E:Nat→Bytes} {F:Nat→Prop}
theorem Xk (hV:Base v sp d B C) (h:cB v w b sp d C E n F) {fn:Nat} {caps:Array Value} (lN:∀args w,(callFunc fn args).run Tryz.prog w=.ok (.enter fn args) w)
  (kW:∀w1 p b' G F1,Wk v w1 p b' sp d B C E n F1→Mv d v F w G w1→(∀k,F1 k→G k)→Calls Tryz.prog fn (#[.pointer (some ⟨p,0,none⟩)]++caps) w1 λe w2=>e=.panicked vZ∧∃F2,Mv d v F1 w1 F2 w2):
  Calls Tryz.prog 131 #[.agg #[.pointer (some ⟨b,0,none⟩),.int .i64 B],.func (.func fn) #[] caps] w λe w'=>e=.returned (.tuple #[(.agg #[]),.int .i64 7])∧∃F',Mv d v F w F' w':=by
 have hB:=hV.few;have aF:¬((B:Int)<4):=oQ
 have aJ:¬((3840:Int)<(B:Int)):=oQ
 have hd:=hV.yE;obtain⟨L,hb,hE,hL⟩:=h;have bA:=hb.lt;have oJ:=hb.own;have hq:=hb.quiet;have tF:=hq.size;obtain⟨w1,aP⟩:∃w1,((w.alloc (.cells #[.pointer (some ⟨b,0,none⟩),.int .i64 B] 85)).alloc (.cells #[] 99)).alloc (.cells #[.int .i64 0] 26)=w1:=⟨_,rfl⟩
 obtain⟨aM,oK,hz1⟩:=boxes [([.pointer (some ⟨b,0,none⟩),.int .i64 B],85),(([]:List Value),99),([.int .i64 0],26)] w w1 (by rw[←aP];rfl);have x0:ah w1 w.heap.size 85 [.pointer (some ⟨b,0,none⟩),.int .i64 B]:=aM 0 _ rfl;have x1:ah w1 (w.heap.size+1) 99 ([]:List Value):=aM 1 _ rfl;have x2:ah w1 (w.heap.size+2) 26 [.int .i64 0]:=aM 2 _ rfl;have AU:w1.heap.size=w.heap.size+3:=by simpa using hz1
 have y0:=x0.cell 0;have y1:=x0.cell 1;simp only[zf,zi] at y0 y1;have hk:∀W,Below w1.heap.size w1 W→W.cell? ⟨w.heap.size,0,none⟩=some (.pointer (some ⟨b,0,none⟩))∧W.cell? ⟨w.heap.size,1,none⟩=some (.int .i64 B):=λW hW=>⟨(x0.below hW).cell 0,(x0.below hW).cell 1⟩
 have HK:=U hk;have HX:=U (And.intro x0 (And.intro x1 x2));have KP:=U (hb.below oK);have Ef:=U oK;have KQ:=U kW;have HV:=U hV;have Hq:=U hq;have iK:=U bA;clear aM oK hz1 x0 x1 x2 hb kW hV hq bA hk;go_enter_defers Tryz.func131,Tryz.ntmps131;go_wp2_with fail;refine wp_region_noPanic ?_;refine ak (S:=(λW=>W.cell? ⟨w.heap.size,0,none⟩=some (.pointer (some ⟨b,0,none⟩))∧W.cell? ⟨w.heap.size,1,none⟩=some (.int .i64 B))) (m:=7) kQ (HK.o _ (zn _ _).drew) (λaj=>?_);refine te 0 aj ?_;refine te 1 aj ?_;refine te 3 aj ?_;refine te 4 aj ?_;refine rE 2 λK hK=>?_;go_simp;with_reducible refine(ko hd (KP.o.below (zn _ _).drew)).mono ?_
 rintro e w2 ⟨b',rfl,dZ,dh,nK,jM⟩;have jM:=(Turn.of_below (zn _ _).drew v.heap.size (· =b)).trans jM;have Gx:b<w.heap.size:=(iK.o b oJ).2;have u0:=jM.aW HX.o.1 oQ (by show¬(w.heap.size=b);omega);have u1:=jM.aW HX.o.2.1 oQ (by show¬(w.heap.size+1=b);omega);have u2:=jM.aW HX.o.2.2 oQ (by show¬(w.heap.size+2=b);omega);have H2:=U (And.intro dZ (And.intro dh (And.intro nK jM)));go_wp2_with fail;refine hK.out _ _ (λ_=>⟨u0.cell 0,u0.cell 1⟩) (λhS=>?_);have bQ:=hS dQ;clear hS hK K
 try simp only[Act.put,zh,zk,zl]
 refine te 5 bQ ?_;refine rE 6 λK hK=>?_;go_simp;refine hK.out _ _ (λ_=>⟨(u0.below ((zn _ _).alloc (zm _) _)).cell 0,(u0.below ((zn _ _).alloc (zm _) _)).cell 1⟩) (λhS=>?_);have bV:=hS dQ;clear hS hK K
 try simp only[Act.put,zh,zk,zl]
 refine vF 7 ?_;refine aD ?_;obtain⟨w3,gV⟩:∃w3,w2.alloc (.cells #[.pointer (some ⟨b',0,none⟩),.int .i64 B,.slice none 0 0,.bool false] 132)=w3:=⟨_,rfl⟩
 have bf:Below w2.heap.size w2 w3:=by rw[←gV];exact(zn _ _).alloc (zm _) _
 have tu:ah w3 w2.heap.size 132 (Ja b' B (.slice none 0 0) false):=by rw[←gV];exact ah.new w2 _ _
 have mF:w3.heap.size=w2.heap.size+1:=by rw[←gV];simp
 obtain⟨dZ,dh,nK,jM⟩:=H2.o;have dZ:w1.heap.size≤b':=dZ;have AQ:=jM.size;have Jg:=dh.below bf;obtain⟨Fb,Nv⟩:∃Fb:Nat→Prop,(λk=>(F k∧k≠b)∨k=b')=Fb:=⟨_,rfl⟩
 rw[Nv] at Jg;have aez:∀k,Fb k→k<w2.heap.size:=λk hk=>by rw[←Nv] at hk;exact(dh.lt k hk).2
 have QW:¬Fb w2.heap.size:=λhk=>by have:=aez _ hk;omega
 have Zn:¬Fb b:=λhk=>by
  rw[←Nv] at hk;rcases hk with hk|hk
  ·exact hk.2 rfl
  ·omega
 have tJ:Wk v w3 w2.heap.size b' sp d B C E n (ru Fb w2.heap.size (.slice none 0 0)):=⟨L,true,Fb,.slice none 0 0,false,⟨tu,oQ,QW,Jg,.inl ⟨rfl,rfl,congrFun hE 0⟩,λi _=>congrFun hE i⟩,⟨hL,λ_=>rfl⟩,rfl⟩
 obtain⟨p,hp⟩:∃p,w2.heap.size=p:=⟨_,rfl⟩
 rw[hp] at tJ QW mF tu bf;obtain⟨F1,Jh⟩:∃F1,ru Fb p (.slice none 0 0)=F1:=⟨_,rfl⟩
 rw[Jh] at tJ;have mo:∀k,F1 k↔((F k∧k≠b)∨k=b')∨k=p:=λk=>by
  rw[←Jh,←Nv];unfold ru;constructor
  ·rintro(h|h|h)
   ·exact .inl h
   ·exact .inr h
   ·cases h
  ·rintro(h|h)
   ·exact .inl h
   ·exact .inr (.inl h)
 have hG:Mv d v F w (λk=>F1 k∨k=b) w3:=by
  refine Mv.mk' HV.o.dev Hq.o tJ.quiet iK.o (λk hk=>?_) ⟨oQ,λk h1 h2 h3=>?_,λk hk=>?_⟩
  ·rcases hk with hk|rfl
   ·exact tJ.lt k hk
   ·have:=iK.o k oJ
    exact⟨this.1,oQ⟩
  ·have e1:k≠b:=λe=>h3 (e▸oJ)
   rw[bf.block k oQ,jM.keep k h1 oQ e1];exact Ef.o.block k h2
  ·rcases hk with hk|rfl
   ·rcases(mo k).1 hk with(hk|hk)|hk
    ·exact .inl hk.1
    ·exact .inr oQ
    ·exact .inr oQ
   ·exact .inl oJ
 have v0:=u0.below (w':=w3) (by rw[hp];exact bf);have v1:=u1.below (w':=w3) (by rw[hp];exact bf);have v2:=u2.below (w':=w3) (by rw[hp];exact bf);have hp3:ah w3 b 191 _:=nK.choose_spec.choose_spec.choose_spec.choose_spec.below (by rw[hp];exact bf);have vQ:TD w3 b sp:=⟨_,_,_,_,hp3⟩
 have BP:=U tJ;have HG:=U hG;have aF8:=U vQ;have HU:=U (And.intro v0 (And.intro v1 v2));have Hp:=U hp;clear u0 u1 u2 v0 v1 v2 H2 dh nK jM bf Jg aez tJ hG vQ hp3 tu Nv hE Jh y0 y1;go_wp2_with fail;refine(KQ.o w3 p b' _ F1 BP.o HG.o (λk hk=>.inl hk)).mono ?_;rintro e w4 ⟨rfl,F2,dI⟩;have Cv:∀k,w.heap.size≤k→k<w.heap.size+3→¬F1 k:=λk h1 h2 hk=>by
  rcases(mo k).1 hk with(hk|hk)|hk
  ·have:=(iK.o k hk.1).2
   omega
  ·omega
  ·have:=Hp.o
   omega
 obtain⟨v0,v1,v2⟩:=HU.o;have a2:=dI.aW v2 dQ (Cv _ oQ oQ);have ao0:Mv d v F w (λk=>F2 k∨k=b) w4:=by
  refine HG.o.trans (dI.more (λk hk=>.inl hk) HG.o.lt' (λk hk=>?_));rcases hk with hk|hk
  ·exact .inr (.inl hk)
  ·exact .inl (.inr hk)
 have c2:=a2.cell 0;have f2:=a2.free 0;simp only[zf] at c2;have HF:=U (And.intro a2 ao0);clear v0 v1 v2 a2 ao0 dI;go_wp2_with fail;refine leaves_cons (f:=209) (args:=#[.pointer (some ⟨w.heap.size+1,0,none⟩),.pointer (some ⟨w.heap.size+2,0,none⟩)]) sQ (by simp[go_sem]) ?_;refine(Lb (w.heap.size+1) (w.heap.size+2) _ c2 f2).mono ?_;rintro e u' w9 ⟨rfl,hu,CY⟩;obtain⟨w5,IY⟩:∃w5,w4.setCell ⟨w.heap.size+2,0,none⟩ (.int .i64 7)=w5:=⟨_,rfl⟩
 have Jo:Kept (w.heap.size+2) w4 w5:=by rw[←IY];exact Kept.setCell _ _ _
 have y5:ah w5 (w.heap.size+2) 26 [.int .i64 7]:=by rw[←IY];exact HF.o.1.aB 0 (.int .i64 7)
 rw[IY] at CY;have jf:Below w5.heap.size w5 w9:=by rw[CY];exact(zn _ _).alloc (zm _) _
 have y9:=y5.below jf;have y2:=y9.cell 0;simp only[zf] at y2;have hm9:=(HF.o.2.kept Jo (.inr oQ)).below jf;show Leaves _ _ _ _ [] (settle u') w9;rw[hu];simp[Leaves,results,Tryz.results131,go_sem,y2];exact⟨_,hm9⟩
end
theorem Lc {l:Bytes} {B:Nat} (h:B≤cnt l B):∀k,k<B→aG l k=true:=λk hk=>by
 rcases hb:aG l k with _|_
 ·have:=cnt_lt hk hb
  omega
 ·rfl
section
variable {v w:World} {sp d B p b n hb id i:Nat} {C E:Nat→Bytes} {F:Nat→Prop} {k l s:Int} {D R:List Int} {r:Int} {c dd:Bytes}
theorem RL (hV:Base v sp d B C) (h:Wk v w p b sp d B C E n F) (nM:1≤n) (hH:bE w hb id k l s D r R) (lJ:¬F hb) (Yk:v.heap.size≤hb) (hP:uz E B id D r R c) (CJ:c.length=480*i) (hi:i<256) (kZ:B<cnt (E 0) B+(if i=16 then 2 else 1)) (wh:Bool):
  Calls Tryz.prog 234 #[.pointer (some ⟨p,0,none⟩),.pointer (some ⟨hb,0,none⟩),.int .i64 i,.bool wh] w λe w'=>e=.panicked vZ∧∃F',Mv d v (λx=>F x∨x=hb) w F' w':=by
 have hB:=hV.few;have bA:=h.lt;have H:=U h;have HV:=U hV;have HH:=U hH;have HP:=U hP;have iK:=U bA;have nI:=hH.lt
 have TP:Mv d v (λx=>F x∨x=hb) w (λx=>F x∨x=hb) w:=Mv.refl hV.dev h.quiet (λk hk=>by
  rcases hk with hk|rfl
  ·exact bA k hk
  ·exact⟨Yk,nI⟩)
 have Rm:=U TP;have HE0:=U (h.EF hV.len);have nY:=EC (E 0) B;clear h hV hH hP bA TP;go_enter Tryz.func234,Tryz.ntmps234;go_wp2_with fail;refine(pF HH.o hi).mono ?_;rintro e w ⟨rfl,rfl⟩;have hzero:=HP.o.nul i (by rw[CJ];unfold fT;omega) hi;rw[hzero];clear hzero;by_cases jS:i=16
 ·have vU:r=0:=HP.o.row0 (by rw[CJ,AZ];omega)
  rw[if_pos jS] at kZ;have aeH:(16:Int)≤i:=oQ
  have NP:=HH.o.1.cell 20 _ (kI HH.o.2.1);rw[vU] at NP;have H16:=U jS;have Hr0:=U vU;clear jS vU;by_cases IQ:B≤cnt (E 0) B
  ·go_wp2_with fail
   refine(rY HV.o H.o hB.2 (Lc IQ)).mono ?_;rintro e w2 ⟨rfl,F1,bC⟩;refine⟨rfl,rfl,_,Rm.o.trans (bC.more (G':=F1) (λx hx=>.inl hx) Rm.o.lt (λx hx=>.inr (.inl hx)))⟩
  ·obtain⟨q,uf,IL,I6⟩:=o9 (l:=E 0) (e:=B) oQ
   have Hq3:=U I6;clear I6;go_wp2_with fail;refine(mJ HV.o H.o nM hB.2 uf IL Hq3.o).mono ?_;rintro e w2 ⟨rfl,F1,lZ,bC⟩;have KV:=HH.o.mv bC lJ;have yJ:¬F1 hb:=bC.apart nI lJ;have k20:=KV.1.cell 20 _ (kI KV.2.1);have f20:=KV.1.free 20;obtain⟨wr,X_⟩:∃wr,w2.setCell ⟨hb,20,none⟩ (.int .i64 q)=wr:=⟨_,rfl⟩
   have hk:=Kept.setCell (r:=hb) w2 20 (.int .i64 q);rw[X_] at hk
   have HM2:=U (Rm.o.trans (bC.more (G':=λx=>F1 x∨x=hb) (λx hx=>.inl hx) Rm.o.lt (λx hx=>by
    rcases hx with hx|hx
    ·exact .inr (.inl hx)
    ·exact .inl (.inr hx))))
   have Yq:=U (HM2.o.kept hk (.inl (.inr rfl)));obtain⟨B1,aF⟩:∃B1,aY (E 0) q true=B1:=⟨_,rfl⟩
   rw[aF] at lZ;have HWn:=U (lZ.keep (w':=wr) (λx hx=>hk.block x (lZ.lt x hx).2 (λe=>yJ (e▸hx))) Yq.o.q' hk.size)
   have Wx:=U (show B≤cnt B1 B by
    rw[←aF,n_ IL (by rw[bM (by rw[HE0.o];omega),if_pos rfl]) (λm hm=>by rw[bM (by rw[HE0.o];omega),if_neg hm]) uf];omega)
   clear lZ bC KV hk aF NP;go_wp2_with fail;clear X_ k20 f20;refine(rY HV.o HWn.o hB.2 (Lc Wx.o)).mono ?_;rintro e w3 ⟨rfl,F3,dP⟩;refine⟨rfl,rfl,_,Yq.o.trans (dP.more (G':=F3) (λx hx=>.inl hx) Yq.o.lt' (λx hx=>.inr (.inl hx)))⟩
 ·rw[if_neg jS] at kZ
  have IQ:B≤cnt (E 0) B:=oQ
  have NP:=HH.o.1.cell 20 _ (kI HH.o.2.1);have Hf:=U (Lc IQ);by_cases aeH:i<16
  ·have ao1:¬((16:Int)≤i):=oQ
   clear jS;go_wp2_with fail;refine(rY HV.o H.o hB.2 Hf.o).mono ?_;rintro e w2 ⟨rfl,F1,bC⟩;refine⟨rfl,rfl,_,Rm.o.trans (bC.more (G':=F1) (λx hx=>.inl hx) Rm.o.lt (λx hx=>.inr (.inl hx)))⟩
  ·obtain⟨q,uf,IL, -⟩:=HP.o.EP (by rw[CJ,AZ];omega)
   have ao1:(16:Int)≤i:=oQ
   have iq:¬((q:Int)=0):=oQ
   rw[uf] at NP;clear jS;go_wp2_with fail;refine(rY HV.o H.o hB.2 Hf.o).mono ?_;rintro e w2 ⟨rfl,F1,bC⟩;refine⟨rfl,rfl,_,Rm.o.trans (bC.more (G':=F1) (λx hx=>.inl hx) Rm.o.lt (λx hx=>.inr (.inl hx)))⟩
theorem G5 {p t1 t2 t3 off len ga oa cd:Nat} (hV:Base v sp d B C) (h:Wk v w p b sp d B C E n F) (nM:1≤n) (hF:mh E B id k l c D r R) (x1:ah w t1 3 [.int .i64 id]) (x2:ah w t2 3 [.int .i64 off]) (x3:ah w t3 22 [.slice (some ⟨ga,oa,none⟩) len cd]) (n1:¬F t1) (n2:¬F t2) (n3:¬F t3)
  (dO:cZ w (some ⟨ga,oa,none⟩) dd) (eX:dd.length=len) (Ak:ga<w.heap.size∧¬F ga) (hlen:len=480) (Aq:len≤cd) (ho:off=c.length) (vO:off=480*i) (hi:i<256) (kZ:B<cnt (E 0) B+(if i=16 then 2 else 1)):
  Calls Tryz.prog 233 #[.pointer (some ⟨p,0,none⟩),.pointer (some ⟨t1,0,none⟩),.pointer (some ⟨t2,0,none⟩),.pointer (some ⟨t3,0,none⟩)] w λe w'=>e=.panicked vZ∧∃F',Mv d v F w F' w':=by
 have hB:=hV.few;have c1:=x1.cell 0;have c2:=x2.cell 0;have c3:=x3.cell 0;simp only[zf] at c1 c2 c3;obtain⟨s,hs⟩:∃s,c.length=s:=⟨_,rfl⟩
 have Hs:=U hs;rw[hs] at ho;clear hs;have H:=U h;have HV:=U hV;have HF:=U hF;have X1:=U x1;have X2:=U x2;have X3:=U x3;have pU:=U dO;have tC:=U eX;have iK:=U h.lt;have Ho:=U ho;have OB:=U vO;have iZ:=U hlen;have Fz:1≤len∧len≤4096:=oQ
 have hf:off+len≤122880:=oQ
 clear h hV hF x1 x2 x3 dO eX ho vO hlen;have hlen:=Fz;go_enter Tryz.func233,Tryz.ntmps233;go_wp2_with fail;refine(mM HV.o H.o HF.o).mono ?_;rintro e w1 ⟨hb,rfl,xk,hH,F1,h1,lJ,eD⟩;rw[Hs.o] at hH;have y2:=eD.aW X2.o dQ n2;have y3:=eD.aW X3.o dQ n3;have m2:¬F1 t2:=eD.apart X2.o.lt n2;have m3:¬F1 t3:=eD.apart X3.o.lt n3;have mg:¬F1 ga:=eD.apart Ak.1 Ak.2;have by1:=eD.pR pU.o (λg o e=>by injection e with e;injection e with e;subst e;exact Ak.2);have d2:=y2.cell 0;have d3:=y3.cell 0;simp only[zf] at d2 d3;have an0:=X2.o.lt;have ai4:=X3.o.lt;have hhl:=hH.1.lt;have hvh:v.heap.size≤hb:=zC H.o.quiet.size xk;have H1:=U h1;have HH:=U hH;have Y2:=U y2;have Y3:=U y3;have By1:=U by1
 have CZ:Hid (Mv d v F w (λx=>F1 x∨x=hb) w1):=U (eD.more (λ_ h=>h) iK.o (λx hx=>by
  rcases hx with hx|rfl
  ·exact .inr (.inl hx)
  ·exact .inr (.inr ⟨xk,hhl⟩)))
 have agB:(0:Int)≤off:=oQ
 have hl4:(len:Int)≤4096:=oQ
 have fA:IntKind.i64.wrap (122880 - (len:Int))=122880 - (len:Int):=by rw[zG];omega
 have hle:(off:Int)≤122880 - (len:Int):=oQ
 have Ap:¬((len:Int)=0):=oQ
 clear h1 eD hH y2 y3 by1 c1 c2 c3;go_wp2_with fail;refine(o_ _).mono ?_;rintro e w1 ⟨⟨x,rfl⟩,rfl⟩;clear hle fA hl4;go_wp2_with fail;have aaO:((len:Int)==0)=false:=by
  rw[beq_eq_false_iff_ne];exact Ap
 rw[aaO];clear aaO Ap;go_loopw [6] (λvv wr=>vv=.int .i64 0∧wr=w1) (λ_ _=>0)
 case atStart=>exact⟨rfl,rfl⟩
 case round=>
  obtain⟨rfl,rfl⟩:=hrel;have vO:=OB.o;have ao2:=iZ.o;have hxi:(0:Int)<len:=oQ
  have hdiv:(off:Int) / 480=(i:Int):=oQ
  have NW:(off:Int)%480=0:=oQ
  have vL:min (len:Int) 480=480:=oQ
  have Hd:=U (And.intro hdiv (And.intro NW vL));have aF9:¬(cd=0):=oQ
  clear vO ao2 hdiv NW vL;go_wp2_with fail;rw[Hd.o.1];refine(RL HV.o H1.o nM HH.o lJ hvh HF.o.iW (by rw[Hs.o,←Ho.o];exact OB.o) hi kZ _).mono ?_;rintro e w2 ⟨rfl,F2,bC⟩;exact⟨rfl,rfl,_,CZ.o.trans bC⟩
end
section
variable {v w:World} {sp d B b n id i:Nat} {C E:Nat→Bytes} {F:Nat→Prop} {k l:Int} {c dd:Bytes} {D R:List Int} {r:Int}
theorem Xl {w:World} {p tb fn:Nat} {caps:Array Value} {Q:World→Prop} (lN:∀args w,(callFunc fn args).run Tryz.prog w=.ok (.enter fn args) w) (hc:w.cell? ⟨tb,0,none⟩=some (.func (.func fn) #[] caps))
  (hj:∀W,Below w.heap.size w W→Calls Tryz.prog fn (#[.pointer (some ⟨p,0,none⟩)]++caps) W λe w2=>e=.panicked vZ∧Q w2):
  Calls Tryz.prog 132 #[.pointer (some ⟨p,0,none⟩),.pointer (some ⟨tb,0,none⟩)] w λe w2=>e=.panicked vZ∧Q w2:=by
 have hB:Below w.heap.size w (w.alloc (.cells #[] 99)):=(zn _ _).alloc (zm _) _;have HJ:=U hj;clear hj;have nI:=zq w _ hc;go_enter Tryz.func132,Tryz.ntmps132;go_wp2_with fail;refine(HJ.o _ hB).mono ?_;rintro e w2 ⟨rfl,hq⟩;exact⟨rfl,rfl,hq⟩
theorem abE (hV:Base v sp d B C) (h:cB v w b sp d C E n F) {fn:Nat} {caps:Array Value} (lN:∀args w,(callFunc fn args).run Tryz.prog w=.ok (.enter fn args) w)
  (kW:∀w1 p b' G F1,Wk v w1 p b' sp d B C E n F1→Mv d v F w G w1→(∀k,F1 k→G k)→Calls Tryz.prog fn (#[.pointer (some ⟨p,0,none⟩)]++caps) w1 λe w2=>e=.panicked vZ∧∃F2,Mv d v F1 w1 F2 w2):
  Calls Tryz.prog 62 #[.agg #[.pointer (some ⟨b,0,none⟩),.int .i64 B],.func (.func fn) #[] caps] w λe w'=>e=.returned (.int .i64 7)∧∃F',Mv d v F w F' w':=by
 obtain⟨w1,aP⟩:∃w1,(w.alloc (.cells #[.pointer (some ⟨b,0,none⟩),.int .i64 B] 85)).alloc (.cells #[.func (.func fn) #[] caps] 142)=w1:=⟨_,rfl⟩
 obtain⟨aM,aF,hz1⟩:=boxes [([.pointer (some ⟨b,0,none⟩),.int .i64 B],85),([.func (.func fn) #[] caps],142)] w w1 (by rw[←aP];rfl);have x0:ah w1 w.heap.size 85 [.pointer (some ⟨b,0,none⟩),.int .i64 B]:=aM 0 _ rfl;have x1:ah w1 (w.heap.size+1) 142 [.func (.func fn) #[] caps]:=aM 1 _ rfl;have y0:=x0.cell 0;have y1:=x0.cell 1;simp only[zf,zi] at y0 y1;have bA:=h.lt;have hq:=h.quiet;have j_:=hV.dev;have H:=U h;have H1:=U (h.below aF);have HV:=U hV;have HX:=U x1;have HB:=U aF;have HJ:=U kW;have iK:=U bA;have Hq:=U hq;have auP:=U j_;clear h hV aM aF hz1 x0 x1 kW bA hq j_;go_enter Tryz.func62,Tryz.ntmps62;go_wp2_with fail;refine(Xk HV.o H1.o (fn:=132) (caps:=#[.pointer (some ⟨w.heap.size+1,0,none⟩)]) (λ_ _=>rfl) (λw2 p b' G F1 hW hG fA=>?_)).mono ?_
 ·have hn:¬F (w.heap.size+1):=λhf=>by have:=(iK.o _ hf).2;omega
  have dh:=hG.aW HX.o dQ hn;refine(Xl (Q:=λGj=>∃F2,Mv d v F1 w2 F2 Gj) lN (dh.cell 0) (λW lZ=>?_)).mono (λ_ _ h=>h);refine(HJ.o W p b' G F1 (hW.below lZ) ((Mv.after HB.o hG Hq.o (λk hk=>(iK.o k hk).2)).below lZ) fA).mono ?_;rintro e w3 ⟨hx,F2,h2⟩;exact⟨hx,F2,Mv.after lZ h2 hW.quiet (λk hk=>(hW.lt k hk).2)⟩
 rintro e w2 ⟨rfl,F',h2⟩;have HF:=U (Mv.after HB.o h2 Hq.o (λk hk=>(iK.o k hk).2));clear h2;go_wp2_with fail;go_ret;have aJ:Below w2.heap.size w2 (w2.alloc (.cells #[] 99)):=(zn _ _).alloc (zm _) _;exact⟨rfl,F',HF.o.below aJ⟩
theorem G6 {off len ga oa cd:Nat} (hV:Base v sp d B C) (h:cB v w b sp d C E n F) (hF:mh E B id k l c D r R) (dO:cZ w (some ⟨ga,oa,none⟩) dd) (eX:dd.length=len) (Ak:ga<w.heap.size∧¬F ga) (hlen:len=480) (Aq:len≤cd) (ho:off=c.length) (vO:off=480*i) (hi:i<256) (kZ:B<cnt (E 0) B+(if i=16 then 2 else 1)):
  Calls Tryz.prog 156 #[.agg #[.pointer (some ⟨b,0,none⟩),.int .i64 B],.int .i64 id,.int .i64 off,.slice (some ⟨ga,oa,none⟩) len cd] w λe w'=>e=.returned (.int .i64 7)∧∃F',Mv d v F w F' w':=by
 have OB:=U vO;have Ho:=U ho;have iZ:=U hlen;clear vO ho hlen;obtain⟨w1,aP⟩:∃w1,(((w.alloc (.cells #[.pointer (some ⟨b,0,none⟩),.int .i64 B] 85)).alloc (.cells #[.int .i64 id] 3)).alloc (.cells #[.int .i64 off] 3)).alloc (.cells #[.slice (some ⟨ga,oa,none⟩) len cd] 22)=w1:=⟨_,rfl⟩
 obtain⟨aM,aF,hz1⟩:=boxes [([.pointer (some ⟨b,0,none⟩),.int .i64 B],85),([.int .i64 id],3),([.int .i64 off],3),([.slice (some ⟨ga,oa,none⟩) len cd],22)] w w1 (by rw[←aP];rfl);have x0:ah w1 w.heap.size 85 [.pointer (some ⟨b,0,none⟩),.int .i64 B]:=aM 0 _ rfl;have x1:ah w1 (w.heap.size+1) 3 [.int .i64 id]:=aM 1 _ rfl;have x2:ah w1 (w.heap.size+2) 3 [.int .i64 off]:=aM 2 _ rfl;have x3:ah w1 (w.heap.size+3) 22 [.slice (some ⟨ga,oa,none⟩) len cd]:=aM 3 _ rfl;have y0:=x0.cell 0;have y1:=x0.cell 1;simp only[zf,zi] at y0 y1;have bA:=h.lt;have H:=U h;have H1:=U (h.below aF);have HV:=U hV;have HF:=U hF;have X:=U (And.intro x1 (And.intro x2 (And.intro x3 (dO.below aF))));have HB:=U aF;have iK:=U bA;have tC:=U eX;have vR:w1.heap.size=w.heap.size+4:=by simpa using hz1
 clear h hV aM aF hz1 x0 x1 x2 x3 bA hF dO eX;go_enter Tryz.func156,Tryz.ntmps156;go_wp2_with fail;refine(abE HV.o H1.o (fn:=233) (caps:=#[.pointer (some ⟨w.heap.size+1,0,none⟩),.pointer (some ⟨w.heap.size+2,0,none⟩),.pointer (some ⟨w.heap.size+3,0,none⟩)]) (λ_ _=>rfl) (λw2 p b' G F1 hW hG fA=>?_)).mono ?_
 ·obtain⟨x1,x2,x3,x4⟩:=X.o
  have hn:∀i,w.heap.size≤i→¬F i:=λi hi hf=>by have:=(iK.o _ hf).2;omega
  have hz2:=hG.size;have nF:∀i,w.heap.size≤i→i<w1.heap.size→¬F1 i:=λi h1 h2 hf=>hG.apart h2 (hn i h1) (fA i hf);exact G5 HV.o (hW.mono (XO n)) oQ HF.o (hG.aW x1 dQ (hn _ oQ)) (hG.aW x2 dQ (hn _ oQ)) (hG.aW x3 dQ (hn _ oQ)) (nF _ oQ oQ) (nF _ oQ oQ) (nF _ oQ oQ) (hG.pR x4 (λg o e=>by injection e with e;injection e with e;subst e;exact Ak.2)) tC.o ⟨oQ,λhf=>hG.apart oQ Ak.2 (fA _ hf)⟩ iZ.o Aq Ho.o OB.o hi kZ
 rintro e w2 ⟨rfl,F',h2⟩;have HG:=U (Mv.after HB.o h2 H.o.quiet (λk hk=>(H.o.lt k hk).2));clear h2 aP y0 y1;go_wp2_with fail;go_ret;exact⟨rfl,F',HG.o⟩
end
def ajx (R:List PanicEntry→World→Prop) (Q:Exit→Act→World→Prop):Exit→Act→World→Prop
 | .panic c,a,w=>a.defers=[]∧R c w
 |e,a,w=>Q e a w
theorem Bj {P:Program} {id:Nat} {ops:Array Oper} {b:Bool} {R:List PanicEntry→World→Prop} {Q:Exit→Act→World→Prop} {a:Act} {w:World} (hR:∀c a w,(a.defers=[]∧R c w)→Q (.panic c) a w) (h:(Code.region id ops b).wp P (ajx R Q) a w):(Code.region id ops b).wp P Q a w:=
 Code.wp_mono (λe a w h=>by
  cases e
  case panic c=>exact hR c a w h
  all_goals exact h) h
section
variable {v w w1:World} {fb sp d B P q nn b p t1 t2:Nat} {C:Nat→Bytes} {cl yo:Bool} {op:Op} {G:Nat→Prop} {f:Nd} {dd:Bytes} {id pt ga oa len cd i:Nat}
theorem OC {z:Int} (hj:jI v w d B C sp w1 p b) (hF:mh C B id 1 1 f.c f.D f.r f.R) (x1:ah w1 t1 22 [.slice (some ⟨ga,oa,none⟩) len cd]) (x2:ah w1 t2 223 [.int .i64 id,.int .i64 pt]) (n1:t1≠b) (n2:t2≠b)
  (dO:cZ w1 (some ⟨ga,oa,none⟩) dd) (eX:dd.length=len) (Ak:ga<v.heap.size) (hlen:len=480) (Aq:len≤cd) (ho:pt=f.c.length) (vO:pt=480*i) (hi:i<256) (kZ:B<cnt (C 0) B+(if i=16 then 2 else 1)) (Gl:IntKind.i64.wrap ((pt:Int)+len)=z∧z=((pt+len:Nat):Int)):
  Calls Tryz.prog 154 (#[.pointer (some ⟨p,0,none⟩)]++#[.pointer (some ⟨t1,0,none⟩),.pointer (some ⟨t2,0,none⟩)]) w1 λe w2=>e=.panicked Bc∧∃F2,Mv d v (· =b) w1 F2 w2:=by
 have hw:=Gl.1;have hf:pt+len≤122880:=oQ
 have FY:¬((122880:Int)<z):=oQ
 have ao3:(len:Int)≤4096:=oQ
 have c1:=x1.cell 0;have c2:=x2.cell 0;have c3:=x2.cell 1;simp only[zf,zi] at c1 c2 c3;have HJ:=U hj;have X1:=U x1;have X2:=U x2;have pY:=hj.new.2.2;have hz1:=(hj.Bd.lt b rfl).2;have c4:=hj.view.cell 0;have c5:=hj.view.cell 1;simp only[zf,zi] at c4 c5;clear hj x1 x2 Gl;have AP:¬((len:Int)=0):=oQ
 have HF:=U hF;have pU:=U dO;have tC:=U eX;have iZ:=U hlen;have Ho:=U ho;have OB:=U vO;have hvq:=HJ.o.quiet.size;have hbv:=HJ.o.Bd.lt b rfl;clear hF dO eX hlen ho vO;go_enter Tryz.func154,Tryz.ntmps154;go_wp2_with fail;refine(pI _).mono ?_;rintro e w1 ⟨⟨u,rfl⟩,rfl⟩;go_wp2_with fail;refine Bj (R:=(λc W=>(Ending.panicked c=.panicked Bc∧∃F2,Mv d v (· =b) w1 F2 W))) (λc a w h=>h) ?_;refine ak (S:=(λW=>W.cell? ⟨p,0,none⟩=some (.pointer (some ⟨b,0,none⟩))∧W.cell? ⟨p,1,none⟩=some (.int .i64 B)∧W.cell? ⟨t2,0,none⟩=some (.int .i64 id)∧W.cell? ⟨t2,1,none⟩=some (.int .i64 pt)∧W.cell? ⟨t1,0,none⟩=some (.slice (some ⟨ga,oa,none⟩) len cd))) (m:=11) kQ ⟨c4,c5,c2,c3,c1⟩ (λaj=>?_);refine te 0 aj ?_;refine te 1 aj ?_;refine te 2 aj ?_;refine te 3 aj ?_;refine te 4 aj ?_;refine te 5 aj ?_;refine te 6 aj ?_;refine te 7 aj ?_;refine te 8 aj ?_;refine rE 9 λK hK=>?_;go_simp;refine(G6 (off:=pt) (len:=len) (dd:=dd) HJ.o.base (HJ.o.Bd.below (zn _ _).drew) HF.o (pU.o.below (zn _ _).drew) tC.o ⟨show ga<w1.heap.size by omega,λe=>by have:ga=b:=e;omega⟩ iZ.o Aq Ho.o OB.o hi kZ).mono ?_;rintro e w4 ⟨rfl,F4,dI⟩;have p4:=dI.aW (HJ.o.view.below (zn _ _).drew) dQ pY;have k4:=dI.aW (X2.o.below (zn _ _).drew) dQ n2;have s4:=dI.aW (X1.o.below (zn _ _).drew) dQ n1;have HZ:=U (Mv.after ((zn _ _).drew) dI HJ.o.quiet (λk hk=>by subst hk;exact hz1));clear dI;go_wp2_with fail;refine hK.out _ _ (λ_=>⟨p4.cell 0,p4.cell 1,k4.cell 0,k4.cell 1,s4.cell 0⟩) (λhS=>?_);have bQ:=hS dQ;clear hS hK K
 try simp only[Act.put,zh,zk,zl]
 refine rE 10 λK hK=>?_;go_simp;refine(abb _).mono ?_;rintro e w5 ⟨rfl,rfl⟩;exact⟨rfl,rfl,_,HZ.o⟩
end
section
variable {v w:World} {fb d B P q nop fn:Nat} {C:Nat→Bytes} {cl yo:Bool} {op:Op} {F X:Nat→Prop} {caps:Array Value}
theorem abF (h:fI v fb d B P q nop C cl yo op F) (hB:4≤B∧B≤3840) (Pq:Below v.heap.size v w) (hq:q<1000000) (lN:∀args w,(callFunc fn args).run Tryz.prog w=.ok (.enter fn args) w)
  (hX:∀k,X k→v.heap.size≤k∧k<w.heap.size)
  (kW:∀sp w1 p b,jI v w d B C sp w1 p b→Calls Tryz.prog fn (#[.pointer (some ⟨p,0,none⟩)]++caps) w1 λe w2=>e=.panicked Bc∧∃F2,Mv d v (λk=>k=b∨X k) w1 F2 w2):
  Calls Tryz.prog 31 #[.pointer (some ⟨fb,0,none⟩),.func (.func fn) #[] caps] w λe w'=>e=.returned (.int .i64 7)∧w.heap.size≤w'.heap.size∧fI w' fb d B P q nop C cl yo op F∧Step F v F w':=by
 obtain⟨sp,m,s,C0,Fs,hA,rfl⟩:=h;have hV:=hA.base hB;have hd:=hV.yE;have tF:=Pq.size;obtain⟨w1,aP⟩:∃w1,w.alloc (.cells #[.int .i64 0] 26)=w1:=⟨_,rfl⟩
 obtain⟨aM,aF,hz1⟩:=boxes [([.int .i64 0],26)] w w1 (by rw[←aP];rfl);have x0:ah w1 w.heap.size 26 [.int .i64 0]:=aM 0 _ rfl;have AU:w1.heap.size=w.heap.size+1:=by simpa using hz1
 have uf:Quiet d v w1:=Quiet.of_below (Pq.trans (aF.mono tF));have QA:=hA.quiet uf;have c0:=QA.cells.cell 0;simp only[zf] at c0;have HA:=U hA;have HV:=U hV;have HX:=U hX;have HJ:=U kW;have Ef:=U aF;have Hq1:=U uf;have X0:=U x0;have Hvw:=U Pq;clear hA hV hX kW aF aM hz1 uf QA x0 Pq;go_enter_defers Tryz.func31,Tryz.ntmps31;go_wp2_with fail;refine wp_region_noPanic ?_;refine ak (S:=(λW=>W.cell? ⟨fb,0,none⟩=some (.pointer (some ⟨sp,0,none⟩)))) (m:=17) kQ c0 (λaj=>?_);refine te 0 aj ?_;refine te 1 aj ?_;refine te 2 aj ?_;refine te 3 aj ?_;refine te 4 aj ?_;refine te 5 aj ?_;refine te 7 aj ?_;refine te 8 aj ?_;refine te 9 aj ?_;refine te 10 aj ?_;refine te 11 aj ?_;refine rE 6 λK hK=>?_;go_simp;with_reducible refine(EA (sp:=sp) (C:=C) (Hq1.o.trans (Quiet.of_below (zn _ _).drew))).mono ?_
 rintro e w2 ⟨b,rfl,dZ,dh,aJ⟩;have dZ:w1.heap.size≤b:=dZ;have aJ:=((zn w1.heap.size w1).drew).trans aJ;have q2:=Hq1.o.trans (Quiet.of_below aJ);have H2:=U (And.intro dZ (And.intro dh (And.intro aJ q2)));clear dZ dh aJ;go_wp2_with fail;refine hK.out _ _ (λ_=>((HA.o.quiet q2).cells.cell 0)) (λhS=>?_);have bQ:=hS dQ;clear hS hK K
 try simp only[Act.put,zh,zk,zl]
 refine rE 12 λK hK=>?_;go_simp;with_reducible refine(Ev (HA.o.quiet q2).p9).mono ?_
 rintro e w3 ⟨rfl,bf⟩;rw[ajo HA.o.is.1 HA.o.is.2.1];have q3:=q2.trans (Quiet.of_below bf);have H3:=U (And.intro bf q3);clear bf;go_wp2_with fail;refine hK.out _ _ (λ_=>((HA.o.quiet q3).cells.cell 0)) (λhS=>?_);have bV:=hS dQ;clear hS hK K
 try simp only[Act.put,zh,zk,zl]
 refine te 13 bV ?_ (v:=(.int .i64 B)) (hy:=by intro W iR;(try dsimp only at iR);(go_simp;rfl));refine te 14 bV ?_;refine te 15 bV ?_;refine rE 16 λK hK=>?_;go_simp;refine hK.out _ _ (λ_=>((HA.o.quiet (q3.trans (Quiet.of_below ((zn _ _).alloc (zm _) _)))).cells.cell 0)) (λhS=>?_);have jd:=hS dQ;clear hS hK K
 try simp only[Act.put,zh,zk,zl]
 refine vF 17 ?_;refine aD ?_;obtain⟨dZ,dh,aJ,q2'⟩:=H2.o;obtain⟨bf,q3'⟩:=H3.o;obtain⟨w4,gH⟩:∃w4,w3.alloc (.cells #[.pointer (some ⟨b,0,none⟩),.int .i64 B] 87)=w4:=⟨_,rfl⟩
 have dX:Below w3.heap.size w3 w4:=by rw[←gH];exact(zn _ _).alloc (zm _) _
 have Iu:ah w4 w3.heap.size 87 [.pointer (some ⟨b,0,none⟩),.int .i64 B]:=by rw[←gH];exact ah.new w3 _ _
 have Ah:w4.heap.size=w3.heap.size+1:=by rw[←gH];simp
 have q4:=q3'.trans (Quiet.of_below dX);have nI:=(dh.lt b dh.own).2;have Ol:=bf.size;have AQ:=aJ.size;have yS:=bf.trans (dX.mono Ol);have tX:=aJ.trans (yS.mono AQ);have Fv:jI v w d B C sp w4 w3.heap.size b:=⟨HV.o,q4,oQ,λk h1 h2=>(tX.block k oQ).trans (Ef.o.block k h2),Iu,⟨oQ,oQ,oQ⟩,⟨[],dh.below yS,rfl,zm _⟩⟩
 have x4:=X0.o.below tX;obtain⟨p,hp⟩:∃p,w3.heap.size=p:=⟨_,rfl⟩
 rw[hp] at Fv Iu Ol Ah;have Rv:=U Fv;have Tx:=U Iu;have rW:=U x4;have Hp:=U hp;clear dh aJ q2' bf q3' H2 H3 dX Iu q4 yS tX Fv x4 q2 q3 c0;go_wp2_with fail;refine(HJ.o sp w4 p b Rv.o).mono ?_;rintro e w5 ⟨rfl,F5,fu⟩;have hnX:∀k,w.heap.size≤k→k≠b→¬(k=b∨X k):=λk h1 h2 hk=>by
  rcases hk with hk|hk
  ·exact h2 hk
  ·have:=(HX.o k hk).2
   omega
 have CB:=fu.aW rW.o dQ (hnX _ (zm _) oQ);have e0:=CB.cell 0;have f0:=CB.free 0;simp only[zf] at e0;have BN:=fu.size;have Q5:=U fu.q';have Ch:=U CB;clear fu CB gH;go_wp2_with fail;refine leaves_cons (f:=56) (args:=#[.pointer (some ⟨w.heap.size,0,none⟩)]) sQ (by simp[go_sem]) ?_;refine(aeT w.heap.size _ e0 f0).mono ?_;rintro e u' w9 ⟨rfl,hu,CY⟩;have y9:ah w9 w.heap.size 26 [.int .i64 7]:=by rw[CY];exact Ch.o.aB 0 (.int .i64 7)
 have hs9:Step (· =w.heap.size) w5 (· =w.heap.size) w9:=by rw[CY];exact Step.set1 (Ch.o.aV dQ) _ _
 have y1:=y9.cell 0;simp only[zf] at y1;show Leaves _ _ _ _ [] (settle u') w9;rw[hu];simp[Leaves,results,Tryz.results31,go_sem,y1];have hz9:=hs9.size;have hg5:=HA.o.tab.1.size;exact⟨oQ,⟨sp,m,s,C0,Fs,(HA.o.quiet Q5.o).step hs9 (λk hk e=>by have:=HA.o.lt k hk;omega) (λk hk=>oQ),rfl⟩,(HA.o.Od Q5.o).inner hs9 (λk hk=>.inr oQ)⟩
end
section
variable {v:World} {fb d B P q nn:Nat} {C:Nat→Bytes} {cl yo:Bool} {op:Op} {G:Nat→Prop} {x f:Nd} {A T:nU} {s dd:Bytes} {fd pt ga oa len cd i:Nat}
theorem OD {z:Int} (h:fI v fb d B P q nn C cl yo op G) (Gw:nn≤15) (hT:Tr C B x (A++(f,s)::T)) (hq:q<1000000) (sS:fd<1000) (hop:op fd=some (f.id,pt)) (dO:cZ v (some ⟨ga,oa,none⟩) dd) (eX:dd.length=len) (Ak:ga<v.heap.size) (hlen:len=480) (Aq:len≤cd) (ho:pt=f.c.length) (vO:pt=480*i) (hi:i<256) (kZ:B<cnt (C 0) B+(if i=16 then 2 else 1)) (Gl:IntKind.i64.wrap ((pt:Int)+len)=z∧z=((pt+len:Nat):Int)):
  Calls Tryz.prog 84 #[.pointer (some ⟨fb,0,none⟩),.int .i64 fd,.slice (some ⟨ga,oa,none⟩) len cd] v λe w'=>e=.returned (.int .i64 7)∧fI w' fb d B P q nn C cl yo op G∧Step G v G w':=by
 obtain⟨dv,hdv⟩:∃dv,Value.slice (some ⟨ga,oa,none⟩) len cd=dv:=⟨_,rfl⟩
 rw[hdv];have lq:Below v.heap.size v (v.alloc (.cells #[dv] 22)):=(zn _ _).alloc (zm _) _;obtain⟨m,c1, -, -,hL, -⟩:=(h.below lq).sP;have hl:=hL fd sS;rw[hop] at hl;replace hl:(Instr.lookup 104 (.map (some m)) (.int .i64 (fd:Int)) true).run Tryz.prog (v.alloc (.cells #[dv] 22))=.ok (.tuple #[.agg #[.int .i64 f.id,.int .i64 pt],.bool true]) (v.alloc (.cells #[dv] 22)):=hl;clear hL lq;obtain⟨w1,aP⟩:∃w1,(v.alloc (.cells #[dv] 22)).alloc (.cells #[.int .i64 f.id,.int .i64 pt] 223)=w1:=⟨_,rfl⟩
 obtain⟨aM,aF,hz1⟩:=boxes [([dv],22),([.int .i64 f.id,.int .i64 pt],223)] v w1 (by rw[←aP];rfl);have x0:ah w1 v.heap.size 22 [dv]:=aM 0 _ rfl;have x1:ah w1 (v.heap.size+1) 223 [.int .i64 f.id,.int .i64 pt]:=aM 1 _ rfl;have vR:w1.heap.size=v.heap.size+2:=by simpa using hz1
 have wT:=U aP;have HF:=U h;have HB:=U aF;have X0:=U x0;have X1:=U x1;clear h aM aF hz1 x0 x1 aP;have Hzq:=U Gl;have HT:=U hT;have pU:=U dO;have tC:=U eX;have iZ:=U hlen;have Ho:=U ho;have OB:=U vO;clear hT dO eX Gl hlen ho vO;subst hdv;go_enter Tryz.func84,Tryz.ntmps84;go_wp2_with fail;rw[wT.o];refine(abF HF.o HT.o.big HB.o hq (fn:=154) (λ_ _=>rfl) (X:=λ_=>False) (λ_ h=>h.elim) (λsp w2 p b hj=>?_)).mono ?_
 ·have Lv:=hj.new
  refine(OC hj (HT.o.Cz (s:=s) sQ) (hj.aW X0.o (zm _)) (hj.aW X1.o oQ) oQ oQ (pU.o.step (hj.quiet.step hj.base.dev.choose_spec)) tC.o Ak iZ.o Aq Ho.o OB.o hi kZ Hzq.o).mono ?_;rintro e w3 ⟨hx,F2,h3⟩;exact⟨hx,_,mvX h3 (λ_ h=>h.elim)⟩
 rintro e w3 ⟨rfl,hzw,hS,bT⟩;have HZ:=U (And.intro hS bT);clear hS bT;go_wp2_with fail;go_ret;exact⟨rfl,HZ.o⟩
end
def taken (l:Bytes) (e:Nat):List Nat:=(List.range e).filter (aG l)
theorem FB (l:Bytes) (e:Nat):taken l (e+1)=taken l e++(if aG l e then[e] else[]):=by
 unfold taken;rw[za8,zaD];congr 1;cases h:aG l e<;>simp[List.filter_cons,h]
theorem sD (l:Bytes):∀e,(taken l e).length=cnt l e
 |0=>rfl
 |e+1=>by
  rw[FB,zw,sD l e,show cnt l (e+1)=cnt l e+(if aG l e then 1 else 0) by rfl];cases aG l e<;>rfl
theorem abH (l:Bytes) {k e:Nat} (h:k≤e):taken l k<+:taken l e:=by
 unfold taken;refine List.IsPrefix.filter _ ?_;exact⟨(List.range e).drop k,by rw[show List.range k=(List.range e).take k by rw[List.take_range,qP h],zak]⟩
section
variable {v w:World} {sp d B b n p:Nat} {C E:Nat→Bytes} {F:Nat→Prop} {l:Bytes} {c e g:Nat}
theorem RU {m tn tb:Nat} {W:World} (hm:1≤m) (he:e≤3840) (hl:l.length=480) (hb:cZ W (some ⟨g,0,none⟩) l) (x1:ah W tn 3 [.int .i64 e]) (x2:ah W tb 22 [.slice (some ⟨g,0,none⟩) 480 c]):
  Rw Fence.wide m Tryz.prog 332 #[.pointer (some ⟨tn,0,none⟩),.pointer (some ⟨tb,0,none⟩)] (λx:Nat=>#[.int .i64 x]) (bZ [tn,tb,g]) (λ_ _=>False) (λpre x _=>pre++[x]<+:taken l e) (λk L=>k=false∧L=taken l e) W:=by
 intro ll J hJs hY h0;have c1:=x1.cell 0;simp only[zf] at c1;have HY:=U hY;have H0:=U h0;have X1:=U x1;have X2:=U x2;have Hb:=U hb;have vL:min (e:Int) 3840=e:=oQ
 clear hY h0 x1 x2 hb hJs;refine callsIn_of_wp Tryz.func332 rfl trivial ?_ rfl;simp only[Tryz.ntmps332,zQ,zA,zN,Nat.reduceAdd,Nat.reduceSub,zJ,zK,zT,zM,zB,zU];gi_wp2_with fail;gi_loopw [7] (λvv wr=>∃k:Nat,k≤e∧vv=.int .i64 k∧bZ [tn,tb,g] W wr∧J false (taken l k) wr) (λvv _=>e - (intOf vv).toNat)
 case atStart=>exact⟨0,ql _,rfl,λ_ _=>rfl,H0.o⟩
 case round=>
  obtain⟨k,hk,rfl,hK,hJ⟩:=hrel;have HK:=U hK;have HJ:=U hJ;have z2:=(hK.aW sQ X2.o).cell 0;simp only[zf] at z2;clear hK hJ;by_cases hke:k<e
  ·have SH:(k:Int)<e:=oQ
   have dO:cZ wr (some ⟨g,0,none⟩) l:=by
    rcases Hb.o with h|⟨g',o',Cc,fr,e1,e2,e3⟩
    ·exact .inl h
    ·injection e1 with e1
     injection e1 with e1 e4;subst e1;exact .inr ⟨g,o',Cc,fr,by rw[e4],(HK.o g sQ).trans e2,e3⟩
   gi_wp2_with fail;refine⟨trivial,(callsIn_wide.2 (aaj (c:=c) hl dO (by omega:k<3840))).mono ?_⟩;rintro x w2 ⟨rfl,rfl⟩;have Yz:=FB l k;rcases oI:aG l k with _|_
   ·rw[oI] at Yz
    simp only[zab,if_false,qD] at Yz;have HJ2:=U (show J false (taken l (k+1)) w2 by rw[Yz];exact HJ.o);clear Yz;gi_wp2;refine⟨λ_ h=>(by cases h),?_⟩;gi_wp2;go_roundw
    case rel=>exact⟨k+1,oQ,by go_num,HK.o,HJ2.o⟩
    case measure=>simp[intOf];omega
   ·rw[oI] at Yz
    simp only[if_true] at Yz;have Gt:=HY.o false (taken l k) k w2 (by rw[←Yz];exact abH l oQ) HJ.o;rw[←Yz] at Gt;obtain⟨fn,tmps,assign,body,hy,hR⟩:=Gt;clear Yz;gi_wp2_with fail;refine hR.mono ?_;rintro e5 W5 ⟨rfl,hJ5,Jo⟩;gi_wp2;go_roundw
    case rel=>exact⟨k+1,oQ,by go_num,HK.o.trans Jo,hJ5⟩
    case measure=>simp[intOf];omega
  ·obtain rfl:k=e:=oQ
   gi_wp2_with fail;go_end0;exact⟨⟨_,rfl⟩,false,_,⟨rfl,rfl⟩,HJ.o⟩
end
end
end Go.Proofs.YtdjdpeadohobmaaGreatDoor
