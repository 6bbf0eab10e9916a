/- A part of the walk below the law: what is proved here is used by later parts; no further condition. -/
import Derived.Laws.Externs
import Derived.Lib.AppendStr
import Derived.Lib.Builder
import Derived.Lib.Slices
import Derived.Lib.Strings
import Derived.Lib.UnsafeStr
import Derived.Lib.Walk
import Derived.Test.YtdjdpeadohobmaaGreatDoorK09
import Derived.Test.YtdjdpeadohobmaaGreatDoorK31
import Derived.Test.YtdjdpeadohobmaaGreatDoorK41
set_option linter.unusedVariables false
set_option linter.unusedSimpArgs false
set_option maxRecDepth 100000
set_option maxHeartbeats 20000000
namespace Go.Proofs.YtdjdpeadohobmaaGreatDoor
section
open Go.RowKit Go.Shelf Go.Maps O
attribute [local go_sem] Oper.semAt_some
def gY (a b c:Int):Value:=.agg #[.int .i64 a,.int .i64 b,.int .i64 c]
def R_ (d:Nat) (Φ:World→(Nat→Prop)→Prop):Prop:=∀W F,Φ W F→(∃n st wt Fd,Dev W d n st wt false Fd)∧5≤W.heap.size∧∀k,F k→5≤k∧k<W.heap.size
structure abL (W:World) (fm d fb:Nat) (Φ:World→(Nat→Prop)→Prop) (F:Nat→Prop):Prop where
 cells:ah W fm 58 [.pointer (some ⟨d,0,none⟩),.pointer (some ⟨fb,0,none⟩)]
 fs:Φ W F
 nf:¬F fm
 f5:5≤fm
section
variable {v w:World} {fm d fb:Nat} {F:Nat→Prop} {Φ Φ0:World→(Nat→Prop)→Prop} {ec nc mc gU:Int} {path:ByteArray} {data:Value}
theorem ah.ajB {W:World} {b:Nat} {T:TypeId} {v0 v1 v2:Value} (h:ah W b T [v0,v1,v2]) (u0 u1 u2:Value):ah (((W.setCell ⟨b,0,none⟩ u0).setCell ⟨b,1,none⟩ u1).setCell ⟨b,2,none⟩ u2) b T [u0,u1,u2]:=
 ((h.aB 0 u0).aB 1 u1).aB 2 u2
theorem ah.apg {W:World} {b:Nat} {T:TypeId} {v0 v1 v2 v3 v4 v5 v6 v7:Value} (h:ah W b T [v0,v1,v2,v3,v4,v5,v6,v7]) (u0 u1 u2 u3 u4 u5 u6 u7:Value):ah ((((((((W.setCell ⟨b,0,none⟩ u0).setCell ⟨b,1,none⟩ u1).setCell ⟨b,2,none⟩ u2).setCell ⟨b,3,none⟩ u3).setCell ⟨b,4,none⟩ u4).setCell ⟨b,5,none⟩ u5).setCell ⟨b,6,none⟩ u6).setCell ⟨b,7,none⟩ u7) b T [u0,u1,u2,u3,u4,u5,u6,u7]:=
 (((((((h.aB 0 u0).aB 1 u1).aB 2 u2).aB 3 u3).aB 4 u4).aB 5 u5).aB 6 u6).aB 7 u7
theorem ah.ae7 {W:World} {b:Nat} {T:TypeId} {v0 v1 v2 v3 v4 v5 v6 v7:Value} (h:ah W b T [v0,v1,v2,v3,v4,v5,v6,v7]):W.cell? ⟨b,0,none⟩=some v0∧W.cell? ⟨b,1,none⟩=some v1∧W.cell? ⟨b,2,none⟩=some v2∧W.cell? ⟨b,3,none⟩=some v3∧W.cell? ⟨b,4,none⟩=some v4∧W.cell? ⟨b,5,none⟩=some v5∧W.cell? ⟨b,6,none⟩=some v6∧W.cell? ⟨b,7,none⟩=some v7∧
  W.frozen? ⟨b,0,none⟩=false∧W.frozen? ⟨b,1,none⟩=false∧W.frozen? ⟨b,2,none⟩=false∧W.frozen? ⟨b,3,none⟩=false∧W.frozen? ⟨b,4,none⟩=false∧W.frozen? ⟨b,5,none⟩=false∧W.frozen? ⟨b,6,none⟩=false∧W.frozen? ⟨b,7,none⟩=false:=
 ⟨h.cell 0,h.cell 1,h.cell 2,h.cell 3,h.cell 4,h.cell 5,h.cell 6,h.cell 7,h.free 0,h.free 1,h.free 2,h.free 3,h.free 4,h.free 5,h.free 6,h.free 7⟩
theorem ah.Sb {W:World} {b:Nat} {T:TypeId} {v0 v1 v2:Value} (h:ah W b T [v0,v1,v2]):W.cell? ⟨b,0,none⟩=some v0∧W.cell? ⟨b,1,none⟩=some v1∧W.cell? ⟨b,2,none⟩=some v2∧
  W.frozen? ⟨b,0,none⟩=false∧W.frozen? ⟨b,1,none⟩=false∧W.frozen? ⟨b,2,none⟩=false:=⟨h.cell 0,h.cell 1,h.cell 2,h.free 0,h.free 1,h.free 2⟩
theorem Jt {a b c:Int} {n:Nat} {st:Nat→Bytes} {wt:Wt} {Fd:Nat→Prop} (hc:ah v fm 58 [.pointer (some ⟨d,0,none⟩),.pointer (some ⟨fb,0,none⟩)]) (hD:Dev v d n st wt false Fd):
  Calls Tryz.prog 17 #[.pointer (some ⟨fm,0,none⟩),.agg #[.int .i64 a,.int .i64 b,.int .i64 c]] v λe w'=>(∃a b c:Int,e=.returned (.agg #[.int .i64 a,.int .i64 b,.int .i64 c]))∧Below v.heap.size v w':=by
 obtain⟨w1,aP⟩:∃w1,(v.alloc (.cells #[.int .i64 a,.int .i64 b,.int .i64 c] 36)).alloc (.cells #[.int .i64 0,.int .i64 0,.int .i64 0] 36)=w1:=⟨_,rfl⟩
 obtain⟨aM,aF,hz1⟩:=boxes [([.int .i64 a,.int .i64 b,.int .i64 c],36),([.int .i64 0,.int .i64 0,.int .i64 0],36)] v w1 (by rw[←aP];rfl);have x0:ah w1 v.heap.size 36 [.int .i64 a,.int .i64 b,.int .i64 c]:=aM 0 _ rfl;have x1:ah w1 (v.heap.size+1) 36 [.int .i64 0,.int .i64 0,.int .i64 0]:=aM 1 _ rfl;have y0:=(hc.below aF).cell 0;simp only[zf] at y0;have hz:w1.heap.size=v.heap.size+2:=by simpa using hz1
 have HB:=U aF;have X0:=U x0;have X1:=U x1;have HD:=U (hD.step (Step.of_below aF (λ_=>False)) (λ_ _ h=>h));clear aM aF hz1 x0 x1 hD hc;go_enter Tryz.func17,Tryz.ntmps17;go_wp2_with fail;clear aP;refine(wK HD.o).mono ?_;rintro e w2 ⟨⟨r,x,f,rfl⟩,aJ⟩;obtain⟨w3,gV⟩:∃w3,w2.alloc (.cells #[.int .i64 r,.int .i64 x,.int .i64 f] 36)=w3:=⟨_,rfl⟩
 have bf:Below w2.heap.size w2 w3:=by rw[←gV];exact(zn _ _).alloc (zm _) _
 have x3:ah w3 w2.heap.size 36 [.int .i64 r,.int .i64 x,.int .i64 f]:=by rw[←gV];exact ah.new _ _ _
 have hz2:=aJ.size;have z1:=(X1.o.below aJ).below bf;have z0:=(X0.o.below aJ).below bf;have a0:=z0.cell 0;have a1:=z0.cell 1;have a2:=z0.cell 2;have b0:=x3.cell 0;have b1:=x3.cell 1;have b2:=x3.cell 2;have f0:=z1.free 0;have f1:=z1.free 1;have f2:=z1.free 2;have g0:=z1.cell 0;have g1:=z1.cell 1;have g2:=z1.cell 2;simp only[zf,zi] at a0 a1 a2 b0 b1 b2 g0 g1 g2;have iB:=U (HB.o.trans ((aJ.trans (bf.mono hz2)).mono oQ));have Z1:=U z1;clear z0 z1 x3 aJ bf;go_wp2_with fail;generalize hW:World.setCell _ _ _=W;obtain⟨q0,q1,q2,hV⟩:∃q0 q1 q2:Int,ah W (v.heap.size+1) 36 [.int .i64 q0,.int .i64 q1,.int .i64 q2]:=by
  subst hW;exact⟨_,_,_,ah.ajB Z1.o _ _ _⟩
 have hB:Below v.heap.size v W:=by
  rw[←hW];exact((iB.o.setCell (p:=⟨v.heap.size+1,0,none⟩) (XO _) _).setCell (p:=⟨v.heap.size+1,1,none⟩) (XO _) _).setCell (p:=⟨v.heap.size+1,2,none⟩) (XO _) _
 clear hW;have c0:=hV.cell 0;have c1:=hV.cell 1;have c2:=hV.cell 2;simp only[zf,zi] at c0 c1 c2
 (try simp only[Exit.inBlock,Exit.then])
 refine bodyPost_ret (v:=.agg #[.int .i64 q0,.int .i64 q1,.int .i64 q2]) (by simp[results,Tryz.f17,go_sem,c0,c1,c2]) rfl ⟨⟨_,_,_,rfl⟩,hB⟩
theorem ajC {i fn:Nat} (lN:∀args w,(callFunc fn args).run Tryz.prog w=.ok (.enter fn args) w) (hi:i<1000) (hk:∀φ,vC φ→φ i=some (xQ fn)) (hfm:abL v fm d fb Φ0 F) (hd0:R_ d Φ0) (X6:R_ d Φ) (bT:Stable Φ)
  (hp:∀W,Below v.heap.size v W→Calls Tryz.prog fn #[.pointer (some ⟨fb,0,none⟩),bK i gU path data] W λe w'=>e=.returned (dH ec nc mc)∧∃F',Φ w' F'∧Step F W F' w'):
  Calls Tryz.prog 8 #[.pointer (some ⟨fm,0,none⟩),bK i gU path data] v λe w'=>(∃a b c,e=.returned (.tuple #[dH ec nc mc,gY a b c]))∧∃F',abL w' fm d fb Φ F'∧Step F v F' w':=by
 obtain⟨⟨n0,st0,wt0,Fd0,hD0⟩,h5,jL⟩:=hd0 v F hfm.fs;obtain⟨w1,aP⟩:∃w1,((v.alloc (.cells #[.int .i64 i,.int .i64 gU,.int .i64 0,.string path,.string ⟨#[]⟩,.int .i64 0,data] 40)).alloc (.cells #[.int .i64 0,.int .i64 0,.int .i64 0,.slice none 0 0,.slice none 0 0,.int .i64 0,.int .i64 0,.int .i64 0] 34)).alloc (.cells #[.int .i64 0,.int .i64 0,.int .i64 0] 36)=w1:=⟨_,rfl⟩
 obtain⟨aM,aF,hz1⟩:=boxes [(yZ i gU path data,40),(aI 0 0 0,34),([.int .i64 0,.int .i64 0,.int .i64 0],36)] v w1 (by rw[←aP];rfl);have x0:ah w1 v.heap.size 40 (yZ i gU path data):=aM 0 _ rfl;have x1:ah w1 (v.heap.size+1) 34 (aI 0 0 0):=aM 1 _ rfl;have x2:ah w1 (v.heap.size+2) 36 [.int .i64 0,.int .i64 0,.int .i64 0]:=aM 2 _ rfl;have xf:=hfm.cells.below aF;have m0:=xf.cell 0;have m1:=xf.cell 1;simp only[zf,zi] at m0 m1;have hz:w1.heap.size=v.heap.size+3:=by simpa using hz1
 have Ac:=hfm.cells.lt;have HB:=U aF;have X0:=U x0;have X1:=U x1;have X2:=U x2;have XF:=U xf;have HP:=U hp;have G8:=U jL;have Gi:=U bT;have Hk:=U hk;have Hi:=U hi;have Hfm:=U hfm;have HD0:=U (hD0.step (Step.of_below aF (λ_=>False)) (λ_ _ h=>h));have M0:=U X6;clear hp jL bT aM aF hz1 x0 x1 x2 xf hk hi hfm hD0 X6;unfold bK;go_enter Tryz.func8,Tryz.ntmps8;go_wp2_with fail;clear aP;refine(wK HD0.o).mono ?_;rintro e w2 ⟨⟨r,x,f,rfl⟩,aJ⟩;obtain⟨w3,gV⟩:∃w3,w2.alloc (.cells #[.int .i64 r,.int .i64 x,.int .i64 f] 36)=w3:=⟨_,rfl⟩
 have bf:Below w2.heap.size w2 w3:=by rw[←gV];exact(zn _ _).alloc (zm _) _
 have x3:ah w3 w2.heap.size 36 [.int .i64 r,.int .i64 x,.int .i64 f]:=by rw[←gV];exact ah.new _ _ _
 have hz2:=aJ.size;have mF:w3.heap.size=w2.heap.size+1:=by rw[←gV];simp
 have xD:=aJ.trans (bf.mono hz2);have XF3:=U (XF.o.below xD);have X03:=U (X0.o.below xD);have X13:=U (X1.o.below xD);have X23:=U (X2.o.below xD);have X33:=U x3;have iB:=U (HB.o.trans (xD.mono oQ));have m1:=XF3.o.cell 1;have s0:=X03.o.cell 0;have s1:=X03.o.cell 1;have s2:=X03.o.cell 2;have s3:=X03.o.cell 3;have s4:=X03.o.cell 4;have s5:=X03.o.cell 5;have s6:=X03.o.cell 6;simp only[yZ,zf,zi] at m1 s0 s1 s2 s3 s4 s5 s6;clear aJ bf xD x3 m0;go_wp2_with fail;clear gV;have wS:w3.cell? ⟨fm,1,none⟩=some (.pointer (some ⟨fb,0,none⟩))∧w3.cell? ⟨v.heap.size,0,none⟩=some (.int .i64 i)∧w3.cell? ⟨v.heap.size,1,none⟩=some (.int .i64 gU)∧w3.cell? ⟨v.heap.size,2,none⟩=some (.int .i64 0)∧w3.cell? ⟨v.heap.size,3,none⟩=some (.string path)∧w3.cell? ⟨v.heap.size,4,none⟩=some (.string ⟨#[]⟩)∧w3.cell? ⟨v.heap.size,5,none⟩=some (.int .i64 0)∧w3.cell? ⟨v.heap.size,6,none⟩=some data:=⟨m1,s0,s1,s2,s3,s4,s5,s6⟩
 have kL:∀W:World,(∀k,k<w3.heap.size→¬F k→W.heap[k]? =w3.heap[k]?)→W.cell? ⟨fm,1,none⟩=some (.pointer (some ⟨fb,0,none⟩))∧W.cell? ⟨v.heap.size,0,none⟩=some (.int .i64 i)∧W.cell? ⟨v.heap.size,1,none⟩=some (.int .i64 gU)∧W.cell? ⟨v.heap.size,2,none⟩=some (.int .i64 0)∧W.cell? ⟨v.heap.size,3,none⟩=some (.string path)∧W.cell? ⟨v.heap.size,4,none⟩=some (.string ⟨#[]⟩)∧W.cell? ⟨v.heap.size,5,none⟩=some (.int .i64 0)∧W.cell? ⟨v.heap.size,6,none⟩=some data:=λW h=>by
  have hv:∀j,W.cell? ⟨v.heap.size,j,none⟩=w3.cell? ⟨v.heap.size,j,none⟩:=λj=>zS (h v.heap.size oQ (λhf=>by have:=(G8.o _ hf).2;omega));have hm:∀j,W.cell? ⟨fm,j,none⟩=w3.cell? ⟨fm,j,none⟩:=λj=>zS (h fm oQ Hfm.o.nf);simp only[hv,hm];exact wS
 have TU:=U kL;clear m1 s0 s1 s2 s3 s4 s5 s6 kL;refine Code.wp_mono (Q:=NoPanic λe a W=>∃a7 W8 F8,e=.normal∧W=W8∧(Φ W8 F8∧Step F w3 F8 W8∧ah W8 a7 34 (aI ec nc mc)∧w3.heap.size≤a7∧¬F8 a7)∧a={tmps:=#[.pointer (some ⟨fm,0,none⟩),.agg #[.int .i64 i,.int .i64 gU,.int .i64 0,.string path,.string ⟨#[]⟩,.int .i64 0,data],undef,.pointer (some ⟨v.heap.size,0,none⟩),.pointer (some ⟨v.heap.size+1,0,none⟩),.pointer (some ⟨v.heap.size+1+1,0,none⟩),.pointer (some ⟨w2.heap.size,0,none⟩),.pointer (some ⟨a7,0,none⟩),.pointer (some ⟨fm,0,none⟩),.pointer (some ⟨fm,0,none⟩),.pointer (some ⟨fm,0,none⟩),.pointer (some ⟨fm,1,none⟩),.pointer (some ⟨fb,0,none⟩),.bool false,undef,undef,.pointer (some ⟨fm,0,none⟩),.pointer (some ⟨fm,0,none⟩),.pointer (some ⟨fm,0,none⟩),.pointer (some ⟨fm,0,none⟩),.pointer (some ⟨d,0,none⟩),.agg #[.int .i64 r,.int .i64 x,.int .i64 f],.pointer (some ⟨fm,0,none⟩),.pointer (some ⟨fm,0,none⟩),.pointer (some ⟨fm,0,none⟩),.pointer (some ⟨fm,1,none⟩),.pointer (some ⟨fb,0,none⟩),.agg #[.int .i64 i,.int .i64 gU,.int .i64 0,.string path,.string ⟨#[]⟩,.int .i64 0,data],dH ec nc mc,undef,undef,undef,undef],defers:=[]}) ?_ ?_
 case refine_2=>
  refine wp_region_noPanic ?_;refine ak (S:=(λW=>W.cell? ⟨fm,1,none⟩=some (.pointer (some ⟨fb,0,none⟩))∧W.cell? ⟨v.heap.size,0,none⟩=some (.int .i64 i)∧W.cell? ⟨v.heap.size,1,none⟩=some (.int .i64 gU)∧W.cell? ⟨v.heap.size,2,none⟩=some (.int .i64 0)∧W.cell? ⟨v.heap.size,3,none⟩=some (.string path)∧W.cell? ⟨v.heap.size,4,none⟩=some (.string ⟨#[]⟩)∧W.cell? ⟨v.heap.size,5,none⟩=some (.int .i64 0)∧W.cell? ⟨v.heap.size,6,none⟩=some data)) (m:=8) kQ wS (λaj=>?_);refine te 0 aj ?_;refine te 1 aj ?_;refine te 2 aj ?_;refine te 3 aj ?_;refine te 4 aj ?_;refine te 5 aj ?_;refine gK (i:=6) (j:=7) rfl rfl kQ (λK hK=>?_) (λK hK=>?_)
  ·go_simp
   refine(OU (v:=w3.drew) lN Hi.o Hk.o (λk hk=>by have:=(G8.o k hk).2;show k<w3.heap.size;omega) (show 5≤w3.heap.size by omega) Gi.o (λW hW=>HP.o W (iB.o.trans ((((zn w3.heap.size w3).drew).trans hW).mono oQ)))).mono ?_;rintro e w4 ⟨rfl,F4,h4,iI⟩;unfold dH;have iI:=(Step.of_below ((zn w3.heap.size w3).drew) F).trans iI;have sO:∀k,k<w3.heap.size→¬F k→w4.heap[k]? =w3.heap[k]?:=λk h1 h2=>iI.keep k h1 (.inl h2);have H4:=U (And.intro h4 iI);clear h4;go_wp2_with fail;refine hK.out _ _ (λ_=>(TU.o w4 sO)) (λhS=>?_);have bQ:=hS dQ;clear hS hK K
   try simp only[Act.put,zh,zk,zl]
   refine rE 7 λK hK=>?_;go_simp;refine hK.out _ _ (λ_=>(TU.o _ (λk h1 h2=>(zal _ _ _ (zx h1 iI.size)).trans (sO k h1 h2)))) (λhS=>?_);have bV:=hS dQ;clear hS hK K
   try simp only[Act.put,zh,zk,zl]
   refine rE 8 λK hK=>?_;go_simp;refine kX hK ?_;clear hK K
   try simp only[Act.put,zh,zk,zl]
   refine aD ?_;have oU:=(M0.o w4 F4 H4.o.1).2.2;exact NoPanic.normal ⟨w4.heap.size,_,F4,rfl,rfl,⟨Gi.o _ _ _ _ _ H4.o.1 (Step.of_below ((zn _ _).alloc (zm _) _) (λ_=>False)) (λ_ _ h=>h) (λ_ h=>h.elim),H4.o.2.trans (Step.alloc _ _ _),ah.new w4 _ _,H4.o.2.size,λhf=>by have:=(oU _ hf).2;omega⟩,rfl⟩
  ·go_simp
   refine hK.out _ _ (λ_=>(TU.o _ (λk h1 h2=>zal _ _ _ h1))) (λhS=>?_);have bQ:=hS dQ;clear hS hK K
   try simp only[Act.put,zh,zk,zl]
   refine rE 6 λK hK=>?_;go_simp;refine(OU lN Hi.o Hk.o (λk hk=>by have:=(G8.o k hk).2;simp;omega) (by simp;omega) Gi.o (λW hW=>HP.o W (iB.o.trans ((((((zn w3.heap.size w3).drew).alloc (zm _) _)).trans (hW.mono sQ)).mono oQ)))).mono ?_;rintro e w4 ⟨rfl,F4,h4,iI⟩;unfold dH;have apj:=(Step.of_below (((zn w3.heap.size w3).drew).alloc (zm _) (.cells #[.int .i64 0,.int .i64 0,.int .i64 0,.slice none 0 0,.slice none 0 0,.int .i64 0,.int .i64 0,.int .i64 0] 34)) F).trans iI;have sO:∀k,k<w3.heap.size→¬F k→w4.heap[k]? =w3.heap[k]?:=λk h1 h2=>apj.keep k h1 (.inl h2);have AO:¬F w3.heap.size:=λhf=>by have:=(G8.o _ hf).2;omega
   have y4:=(show ah (w3.drew.alloc (.cells #[.int .i64 0,.int .i64 0,.int .i64 0,.slice none 0 0,.slice none 0 0,.int .i64 0,.int .i64 0,.int .i64 0] 34)) w3.heap.size 34 (aI 0 0 0) from ah.new w3.drew _ _).step iI AO;rw[mF] at y4;obtain⟨c0,c1,c2,c3,c4,c5,c6,c7,f0,f1,f2,f3,f4,f5,f6,f7⟩:=ah.ae7 y4;have Y4:=U y4;clear y4;have H4:=U (And.intro h4 (And.intro apj iI));clear h4;go_wp2_with fail;refine hK.out _ _ (λ_=>(TU.o w4 sO)) (λhS=>?_);have bV:=hS dQ;clear hS hK K
   try simp only[Act.put,zh,zk,zl]
   refine rE 8 λK hK=>?_;go_simp;refine kX hK ?_;clear hK K
   try simp only[Act.put,zh,zk,zl]
   refine aD ?_;have AO:¬F w3.heap.size:=λhf=>by have:=(G8.o _ hf).2;omega
   have a7:¬F4 w3.heap.size:=H4.o.2.2.apart (by rw[zah];exact Nat.lt_succ_self _) AO;rw[mF] at a7;generalize hW:World.setCell _ _ _=W;have hs:AB w4 (w2.heap.size+1) 34 W:=by
    rw[←hW]
    repeat refine AB.set dQ _ _ ?_
    exact⟨Step.refl _ _,_,Y4.o⟩
   have hV:ah W (w2.heap.size+1) 34 (aI ec nc mc):=by
    rw[←hW];exact ah.apg Y4.o _ _ _ _ _ _ _ _
   exact NoPanic.normal ⟨w2.heap.size+1,_,F4,rfl,rfl,⟨Gi.o _ _ _ _ _ H4.o.1 hs.1 (λk hk e=>a7 (e▸hk)) (λk hk=>oQ),H4.o.2.1.inner hs.1 (λk hk=>.inr oQ),hV,oQ,a7⟩,rfl⟩
 intro e a W8 iq;obtain⟨a7,W9,F8,rfl,rfl,hq,rfl⟩:=NoPanic.imp e a W8 iq;clear iq;obtain⟨hΦ,uO,hA,ha7,hn7⟩:=hq;have nv:∀k,v.heap.size≤k→¬F k:=λk hk hf=>by have:=(G8.o _ hf).2;omega
 have y1:=X13.o.step uO (nv _ oQ);have y2:=X23.o.step uO (nv _ oQ);have y3:=X33.o.step uO (nv _ oQ);have yf:=XF3.o.step uO Hfm.o.nf;have e1:=uO.apart X13.o.lt (nv _ oQ);have e2:=uO.apart X23.o.lt (nv _ oQ);have ef:=uO.apart XF3.o.lt Hfm.o.nf;have hz8:=uO.size;have hal:=hA.lt;obtain⟨⟨n8,st8,wt8,Fd8,hD8⟩,h58,hF8⟩:=M0.o W8 F8 hΦ;have apl:W8.cell? ⟨a7,0,none⟩=some (.int .i64 ec)∧W8.cell? ⟨a7,1,none⟩=some (.int .i64 nc)∧W8.cell? ⟨a7,2,none⟩=some (.int .i64 mc)∧W8.cell? ⟨a7,3,none⟩=some (.slice none 0 0)∧W8.cell? ⟨a7,4,none⟩=some (.slice none 0 0)∧W8.cell? ⟨a7,5,none⟩=some (.int .i64 0)∧W8.cell? ⟨a7,6,none⟩=some (.int .i64 0)∧W8.cell? ⟨a7,7,none⟩=some (.int .i64 0)∧W8.cell? ⟨w2.heap.size,0,none⟩=some (.int .i64 r)∧W8.cell? ⟨w2.heap.size,1,none⟩=some (.int .i64 x)∧W8.cell? ⟨w2.heap.size,2,none⟩=some (.int .i64 f):=by
  obtain⟨c0,c1,c2,c3,c4,c5,c6,c7, -⟩:=ah.ae7 hA;obtain⟨d0,d1,d2, -⟩:=ah.Sb y3;exact⟨c0,c1,c2,c3,c4,c5,c6,c7,d0,d1,d2⟩
 have eO:∀W:World,W.heap[a7]? =W8.heap[a7]?→W.heap[w2.heap.size]? =W8.heap[w2.heap.size]?→W.cell? ⟨a7,0,none⟩=some (.int .i64 ec)∧W.cell? ⟨a7,1,none⟩=some (.int .i64 nc)∧W.cell? ⟨a7,2,none⟩=some (.int .i64 mc)∧W.cell? ⟨a7,3,none⟩=some (.slice none 0 0)∧W.cell? ⟨a7,4,none⟩=some (.slice none 0 0)∧W.cell? ⟨a7,5,none⟩=some (.int .i64 0)∧W.cell? ⟨a7,6,none⟩=some (.int .i64 0)∧W.cell? ⟨a7,7,none⟩=some (.int .i64 0)∧W.cell? ⟨w2.heap.size,0,none⟩=some (.int .i64 r)∧W.cell? ⟨w2.heap.size,1,none⟩=some (.int .i64 x)∧W.cell? ⟨w2.heap.size,2,none⟩=some (.int .i64 f):=λW h1 h2=>by
  have hv:∀j,W.cell? ⟨a7,j,none⟩=W8.cell? ⟨a7,j,none⟩:=λj=>zS h1;have hm:∀j,W.cell? ⟨w2.heap.size,j,none⟩=W8.cell? ⟨w2.heap.size,j,none⟩:=λj=>zS h2;simp only[hv,hm];exact apl
 have HK2:=U eO;have HΦ:=U hΦ;have HS8:=U uO;have HD8:=U hD8;have Y:=U (And.intro y1 (And.intro y2 yf));have hb9:∀W:World,Below W8.heap.size W8 W→W.heap[a7]? =W8.heap[a7]?∧W.heap[w2.heap.size]? =W8.heap[w2.heap.size]?:=λW h=>⟨h.block _ hal,h.block _ oQ⟩
 have Hb9:=U hb9;clear eO hΦ uO hD8 y1 y2 y3 yf hA hb9 nv;unfold dH;go_wp2_with fail;refine wp_region_noPanic ?_;refine ak (S:=(λW=>W.cell? ⟨a7,0,none⟩=some (.int .i64 ec)∧W.cell? ⟨a7,1,none⟩=some (.int .i64 nc)∧W.cell? ⟨a7,2,none⟩=some (.int .i64 mc)∧W.cell? ⟨a7,3,none⟩=some (.slice none 0 0)∧W.cell? ⟨a7,4,none⟩=some (.slice none 0 0)∧W.cell? ⟨a7,5,none⟩=some (.int .i64 0)∧W.cell? ⟨a7,6,none⟩=some (.int .i64 0)∧W.cell? ⟨a7,7,none⟩=some (.int .i64 0)∧W.cell? ⟨w2.heap.size,0,none⟩=some (.int .i64 r)∧W.cell? ⟨w2.heap.size,1,none⟩=some (.int .i64 x)∧W.cell? ⟨w2.heap.size,2,none⟩=some (.int .i64 f))) (m:=5) kQ apl (λaj=>?_);refine te 0 aj ?_;refine te 1 aj ?_;refine te 2 aj ?_;refine rE 3 λK hK=>?_;go_simp;refine(Jt (v:=W8.drew) (Y.o.2.2.below (zn _ _).drew) (HD8.o.step (Step.drew (λ_=>False) _) (λ_ _ h=>h))).mono ?_;rintro e w9 ⟨⟨q0,q1,q2,rfl⟩,jf⟩;have jf:=((zn W8.heap.size W8).drew).trans jf;have z1:=Y.o.1.below jf;have z2:=Y.o.2.1.below jf;obtain⟨c0,c1,c2,c3,c4,c5,c6,c7,f0,f1,f2,f3,f4,f5,f6,f7⟩:=ah.ae7 z1;obtain⟨d0,d1,d2,g0,g1,g2⟩:=ah.Sb z2;have Z:=U (And.intro z1 (And.intro z2 jf));clear z1 z2;go_wp2_with fail;refine hK.out _ _ (λ_=>(HK2.o w9 (Hb9.o w9 jf).1 (Hb9.o w9 jf).2)) (λhS=>?_);have bQ:=hS dQ;clear hS hK K
 try simp only[Act.put,zh,zk,zl]
 refine rE 4 λK hK=>?_;go_simp;refine hK.out _ _ (λ_=>(by refine HK2.o _ ?_ ?_<;>(repeat rw[zI _ _ _ _ (by show _≠v.heap.size+1;omega)])<;>first|exact(Hb9.o w9 Z.o.2.2).1|exact(Hb9.o w9 Z.o.2.2).2)) (λhS=>?_);have bV:=hS dQ;clear hS hK K
 try simp only[Act.put,zh,zk,zl]
 refine rE 5 λK hK=>?_;go_simp;refine kX hK ?_;clear hK K
 try simp only[Act.put,zh,zk,zl]
 refine aD ?_;go_wp2_with fail;obtain⟨z1,z2,jf⟩:=Z.o;obtain⟨W10,XC⟩:∃W10,(((((((w9.setCell ⟨v.heap.size+1,0,none⟩ (.int .i64 ec)).setCell ⟨v.heap.size+1,1,none⟩ (.int .i64 nc)).setCell ⟨v.heap.size+1,2,none⟩ (.int .i64 mc)).setCell ⟨v.heap.size+1,3,none⟩ (.slice none 0 0)).setCell ⟨v.heap.size+1,4,none⟩ (.slice none 0 0)).setCell ⟨v.heap.size+1,5,none⟩ (.int .i64 0)).setCell ⟨v.heap.size+1,6,none⟩ (.int .i64 0)).setCell ⟨v.heap.size+1,7,none⟩ (.int .i64 0)=W10:=⟨_,rfl⟩
 rw[XC];have v1:ah W10 (v.heap.size+1) 34 (aI ec nc mc):=by rw[←XC];exact ah.apg z1 _ _ _ _ _ _ _ _
 have s10:AB w9 (v.heap.size+1) 34 W10:=by
  rw[←XC]
  repeat refine AB.set dQ _ _ ?_
  exact⟨Step.refl _ _,_,z1⟩
 have v2:=z2.step s10.1 oQ;obtain⟨W11,Sc⟩:∃W11,((W10.setCell ⟨v.heap.size+1+1,0,none⟩ (.int .i64 q0)).setCell ⟨v.heap.size+1+1,1,none⟩ (.int .i64 q1)).setCell ⟨v.heap.size+1+1,2,none⟩ (.int .i64 q2)=W11:=⟨_,rfl⟩
 rw[Sc];have v3:ah W11 (v.heap.size+2) 36 [.int .i64 q0,.int .i64 q1,.int .i64 q2]:=by rw[←Sc];exact ah.ajB v2 _ _ _
 have s11:AB W10 (v.heap.size+2) 36 W11:=by
  rw[←Sc]
  repeat refine AB.set dQ _ _ ?_
  exact⟨Step.refl _ _,_,v2⟩
 have v1':=v1.step s11.1 oQ;obtain⟨b0,b1,b2,b3,b4,b5,b6,b7, -⟩:=ah.ae7 v1';obtain⟨m0,m1,m2, -⟩:=ah.Sb v3
 (try simp only[Exit.inBlock,Exit.then])
 refine bodyPost_ret (v:=.tuple #[dH ec nc mc,gY q0 q1 q2]) (by simp[results,Tryz.f8,go_sem,dH,gY,b0,b1,b2,b3,b4,b5,b6,b7,m0,m1,m2]) rfl ⟨⟨_,_,_,rfl⟩,F8,?_⟩;have p1:=Gi.o _ _ _ _ _ HΦ.o (Step.of_below jf (λ_=>False)) (λ_ _ h=>h) (λ_ h=>h.elim);have p2:=Gi.o _ _ _ _ _ p1 s10.1 (λk hk e=>e1 (e▸hk)) (λk hk=>oQ);have p3:=Gi.o _ _ _ _ _ p2 s11.1 (λk hk e=>e2 (e▸hk)) (λk hk=>oQ);exact⟨⟨((Y.o.2.2.below jf).step s10.1 oQ).step s11.1 oQ,p3,ef,Hfm.o.f5⟩,(((((Step.of_below iB.o F).trans HS8.o).trans (Step.of_below jf F8)).inner s10.1 (λk hk=>.inr oQ)).inner s11.1 (λk hk=>.inr oQ))⟩
end
section
variable {v w:World} {d fb B P q:Nat} {F:Nat→Prop}
def least (B:Nat):Nat:=(5*B+241) / 2
theorem Ju {B:Nat} (hB:4≤B∧B≤3840):Geo B (least B):=⟨hB,by unfold least;omega,by unfold least;omega⟩
theorem Jv (hB:4≤B∧B≤3840):Calls Tryz.prog 7 #[.int .i64 B] w λe w'=>e=.returned (.int .i64 (least B))∧w'=w:=by
 obtain⟨p,hp⟩:∃p,least B=p:=⟨_,rfl⟩
 have h1:¬((B:Int)<4):=oQ
 have h2:¬((3840:Int)<B):=oQ
 have e1:IntKind.i64.wrap (5*(B:Int))=5*(B:Int):=by rw[zG];omega
 have e2:IntKind.i64.wrap (5*(B:Int)+240)=5*(B:Int)+240:=by rw[zG];omega
 have e3:IntKind.i64.wrap (5*(B:Int)+240+2)=5*(B:Int)+242:=by rw[zG];omega
 have e4:IntKind.i64.wrap (5*(B:Int)+242 - 1)=5*(B:Int)+241:=by rw[zG];omega
 have e5:IntKind.i64.wrap ((5*(B:Int)+241).tdiv 2)=(p:Int):=by
  have h:(5*(B:Int)+241).tdiv 2=(p:Int):=by
   rw[Int.tdiv_eq_ediv_of_nonneg oQ,←hp];unfold least;omega
  rw[h,zG];have:p=least B:=hp.symm;unfold least at this;omega
 rw[hp];go_enter Tryz.func7,Tryz.ntmps7;go_wp2_with fail;go_ret;exact⟨rfl,rfl⟩
theorem FD (hg:Geo B P) (hG:Glob w):
  Calls Tryz.prog 6 #[.int .i64 B,.int .i64 P] w λe w'=>∃fm d fb q F,e=.returned (.tuple #[.pointer (some ⟨fm,0,none⟩),.int .i64 0])∧ah w' fm 58 [.pointer (some ⟨d,0,none⟩),.pointer (some ⟨fb,0,none⟩)]∧fI w' fb d B P q 0 (nE B) true true nH F∧q≤1∧¬F fm∧w.heap.size≤fm∧Step (λ_=>False) w F w':=by
 have hB:=hg.b;have hs:=hg.s;have h1:¬((20000:Int)<P):=oQ
 have e1:IntKind.i64.wrap ((P:Int)+1)=((P+1:Nat):Int):=by rw[zG];omega
 have HG:=U hG;have Hg:=U hg;have hgs:=hG.size;clear hG hg;go_enter Tryz.func6,Tryz.ntmps6;go_wp2_with fail;refine(PL w (P+1) oQ oQ).mono ?_;rintro e w1 ⟨d,F1,rfl,hD,Jh,aF⟩;have HD:=U hD;have jD:=U aF;have HF1:=U Jh;clear hD aF Jh;go_wp2_with fail;refine(OQ HD.o hB Hg.o (HG.o.below jD.o) (λk hk=>by have:=HF1.o k hk;omega)).mono ?_;rintro e w2 ⟨fb,rfl,hS⟩;obtain⟨hfb,C',q',cl',F',⟨hC,hq,nY⟩,h3,h4⟩:=hS;subst hC nY;have HS:=U (And.intro h3 h4);have hz1:=jD.o.size;have hz2:=h4.size;clear h3 h4;go_wp2_with fail;go_ret2;have bf:Below w2.heap.size w2 (w2.alloc (.cells #[.pointer (some ⟨d,0,none⟩),.pointer (some ⟨fb,0,none⟩)] 58)):=(zn _ _).alloc (zm _) _;refine⟨w2.heap.size,d,fb,q',F',rfl,ah.new w2 _ _,HS.o.1.below bf,hq,λhf=>by have:=HS.o.1.lt _ hf;omega,oQ,?_⟩
 exact((((Step.of_below jD.o (λ_=>False)).inner HS.o.2 (λk hk=>.inr (HF1.o k hk))).to (G':=F') (λk hk=>by
  rcases HS.o.2.new k hk with h|h
  ·exact .inr (HF1.o k h)
  ·exact .inr oQ)).trans (Step.of_below bf F'))
end
section
variable {v w:World} {fm d fb B P q nn:Nat} {C st:Nat→Bytes} {cl yo:Bool} {op:Op} {F Fd:Nat→Prop} {s:JS} {C0:Nat→Bytes}
theorem fI.dev (h:fI w fb d B P q nn C cl yo op F):∃n st wt Fd,Dev w d n st wt false Fd:=by
 obtain⟨sp,m,s,C0,Fs,hA,rfl⟩:=h;obtain⟨j,st,wt,Fj,h1,h2,h3,h4,h5,h6,h7⟩:=hA.p9;obtain⟨r,rb,t,pb,ob,Fd,f,g,hJ⟩:=h2;exact⟨_,st,wt,Fd,hJ.dev⟩
theorem FE (hc:ah w fm 58 [.pointer (some ⟨d,0,none⟩),.pointer (some ⟨fb,0,none⟩)]) (hD:Dev w d (P+1) st [] false Fd) (a:Option Addr) (m c:Nat):
  Calls Tryz.prog 10 #[.pointer (some ⟨fm,0,none⟩),.slice a m c] w λe w'=>(∃x,e=.returned x)∧Dev w' d (P+1) st [] true Fd∧Step Fd w Fd w':=by
 have c0:=hc.cell 0;simp only[zf] at c0;have HD:=U hD;clear hc hD;go_enter Tryz.func10,Tryz.ntmps10;go_wp2_with fail;refine(Uy HD.o a m c).mono ?_;rintro e w1 ⟨rfl,h1,h2⟩;have H:=U (And.intro h1 h2);clear h1 h2;go_wp2_with fail;go_end0;exact⟨⟨_,rfl⟩,H.o⟩
theorem FH (hc:ah w fm 58 [.pointer (some ⟨d,0,none⟩),.pointer (some ⟨fb,0,none⟩)]) (hD:Dev w d (P+1) st [] true Fd) (hk:OT B P C st s C0) (hG:Glob w) (OM:∀k,Fd k→5≤k) (XP:¬Fd fm) (VI:5≤fm):
  Calls Tryz.prog 11 #[.pointer (some ⟨fm,0,none⟩)] w λe w'=>(∃a b c,e=.returned (.tuple #[gY a b c,.int .i64 0]))∧∃Sd q' F',ah w' fm 58 [.pointer (some ⟨d,0,none⟩),.pointer (some ⟨Sd,0,none⟩)]∧fI w' Sd d B P q' 0 C false false nH F'∧q'<1000000∧¬F' fm∧Step (λk=>Fd k∨k=fm) w F' w':=by
 obtain⟨w1,aP⟩:∃w1,w.alloc (.cells #[.int .i64 0,.int .i64 0,.int .i64 0] 36)=w1:=⟨_,rfl⟩
 obtain⟨aM,aF,hz1⟩:=boxes [([.int .i64 0,.int .i64 0,.int .i64 0],36)] w w1 (by rw[←aP];rfl);have x0:ah w1 w.heap.size 36 [.int .i64 0,.int .i64 0,.int .i64 0]:=aM 0 _ rfl;have xf:=hc.below aF;have c0:=xf.cell 0;simp only[zf] at c0;have hz:w1.heap.size=w.heap.size+1:=by simpa using hz1
 have Ac:=hc.lt;have jL:=hD.lt;have X0:=U x0;have XF:=U xf;have jD:=U aF;have HD:=U (hD.step (Step.of_below aF (λ_=>False)) (λ_ _ h=>h));have Hk:=U hk;have HG:=U hG;have Cu:=U OM;have G8:=U jL;clear aM aF hz1 x0 xf hc hD hk hG OM jL;go_enter Tryz.func11,Tryz.ntmps11;go_wp2_with fail;clear aP;refine(wK HD.o).mono ?_;rintro e w2 ⟨⟨r,x,f,rfl⟩,aJ⟩;obtain⟨w3,gV⟩:∃w3,w2.alloc (.cells #[.int .i64 r,.int .i64 x,.int .i64 f] 36)=w3:=⟨_,rfl⟩
 have bf:Below w2.heap.size w2 w3:=by rw[←gV];exact(zn _ _).alloc (zm _) _
 have x3:ah w3 w2.heap.size 36 [.int .i64 r,.int .i64 x,.int .i64 f]:=by rw[←gV];exact ah.new _ _ _
 have hz2:=aJ.size;have mF:w3.heap.size=w2.heap.size+1:=by rw[←gV];simp
 have xD:=aJ.trans (bf.mono hz2);have XF3:=U (XF.o.below xD);have X03:=U (X0.o.below xD);have X33:=U x3;have HD3:=U (HD.o.step (Step.of_below xD (λ_=>False)) (λ_ _ h=>h));have iB:=U (jD.o.trans (xD.mono oQ));have m0:=XF3.o.cell 0;have m1:=XF3.o.cell 1;have n1:=XF3.o.free 1;simp only[zf,zi] at m0 m1;clear aJ bf xD x3 c0;obtain⟨w4,gH⟩:∃w4,w3.setCell ⟨fm,1,none⟩ (.pointer none)=w4:=⟨_,rfl⟩
 have y4:ah w4 fm 58 [.pointer (some ⟨d,0,none⟩),.pointer none]:=by rw[←gH];exact XF3.o.aB 1 _
 have s4:Step (· =fm) w3 (· =fm) w4:=by rw[←gH];exact Step.set1 (XF3.o.aV dQ) _ _
 have k0:=y4.cell 0;simp only[zf] at k0;have M4:=U (HD3.o.step s4 (λk hk e=>XP (e▸hk)));have H4:=U (And.intro y4 (And.intro s4 (And.intro (X03.o.step s4 oQ) (X33.o.step s4 oQ))));have Ah:=s4.size;clear y4 s4;go_wp2_with fail;clear gV;refine(LV M4.o).mono ?_;rintro e w4' ⟨rfl,rfl⟩;clear gH;go_wp2_with fail;refine(Ux M4.o).mono ?_;rintro e w5 ⟨rfl,h5,s5⟩;have H5:=U (And.intro h5 s5);have y5:=H4.o.1.step s5 XP;have k5:=y5.cell 0;simp only[zf] at k5;have Y5:=U (And.intro y5 (And.intro (H4.o.2.2.1.step s5 (λhf=>by have:=G8.o _ hf;omega)) (H4.o.2.2.2.step s5 (λhf=>by have:=G8.o _ hf;omega))));have BN:=s5.size;clear h5 s5 y5 k0;go_wp2_with fail;have hG5:=((HG.o.below iB.o).step H4.o.2.1 (λk hk=>oQ)).step H5.o.2 Cu.o;refine(R4 H5.o.1 Hk.o hG5 Cu.o).mono ?_;rintro e w6 ⟨Sd,rfl,hS⟩;obtain⟨hfb,C',q',cl',F',⟨hC,hq⟩,h6,s6⟩:=hS;subst hC;have y6:=Y5.o.1.step s6 XP;have n6:=s6.apart Y5.o.1.lt XP;have nv:∀k,w.heap.size≤k→¬Fd k:=λk hk hf=>by have:=G8.o _ hf;omega
 have u6:=Y5.o.2.1.step s6 (nv _ (zm _));have v6:=Y5.o.2.2.step s6 (nv _ oQ);have nu6:=s6.apart Y5.o.2.1.lt (nv _ (zm _));have U5:=s6.size;have k6:=y6.cell 1;have f6:=y6.free 1;simp only[zf,zi] at k6;have h6:=h6.dirty;have afa:=h6.step (w':=w6.setCell ⟨fm,1,none⟩ (.pointer (some ⟨Sd,0,none⟩))) (Step.set1 (y6.aV dQ) _ _) (λk hk e=>n6 (e▸hk)) (λk hk=>oQ);obtain⟨w7,BD⟩:∃w7,w6.setCell ⟨fm,1,none⟩ (.pointer (some ⟨Sd,0,none⟩))=w7:=⟨_,rfl⟩
 have s7:Step (· =fm) w6 (· =fm) w7:=by rw[←BD];exact Step.set1 (y6.aV dQ) _ _
 rw[BD] at afa;have y7:ah w7 fm 58 [.pointer (some ⟨d,0,none⟩),.pointer (some ⟨Sd,0,none⟩)]:=by rw[←BD];exact y6.aB 1 _
 have u7:=u6.step s7 oQ;have v7:=v6.step s7 oQ;have ZN:=s7.size;obtain⟨d0,d1,d2, -⟩:=ah.Sb v7;have l6:Step (λk=>Fd k∨k=fm) w F' w7:=by
  have t1:Step (λk=>Fd k∨k=fm) w (λk=>Fd k∨k=fm) w4:=((Step.of_below iB.o (λk=>Fd k∨k=fm)).inner H4.o.2.1 (λk hk=>.inl (.inr hk)))
  have t2:Step (λk=>Fd k∨k=fm) w (λk=>Fd k∨k=fm) w5:=t1.inner H5.o.2 (λk hk=>.inl (.inl hk));have t3:Step (λk=>Fd k∨k=fm) w (λk=>Fd k∨k=fm) w6:=t2.inner s6 (λk hk=>.inl (.inl hk));have t4:Step (λk=>Fd k∨k=fm) w (λk=>Fd k∨k=fm) w7:=t3.inner s7 (λk hk=>.inl (.inr hk));refine t4.to (λk hk=>?_);rcases s6.new k hk with h|h
  ·exact .inl (.inl h)
  ·exact .inr oQ
 obtain⟨n8,st8,wt8,Fd8,hD8⟩:=afa.dev;have HD8:=U hD8;have H7:=U (And.intro y7 (And.intro u7 (And.intro afa l6)));clear y6 u6 v6 h6 s6 k5 nv s7 y7 u7 v7 l6 afa hD8;go_wp2_with fail;clear BD;refine(Jt H7.o.1 HD8.o).mono ?_;rintro e w8 ⟨⟨q0,q1,q2,rfl⟩,xE⟩;have z1:=H7.o.2.1.below xE;obtain⟨a0,a1,a2,g0,g1,g2⟩:=ah.Sb z1;have Z:=U (And.intro z1 xE);clear z1 xE d0 d1 d2 k6 f6;go_wp2_with fail;obtain⟨z1,xE⟩:=Z.o;have hz8:=xE.size;obtain⟨W9,hW9⟩:∃W9,((w8.setCell ⟨w.heap.size,0,none⟩ (.int .i64 q0)).setCell ⟨w.heap.size,1,none⟩ (.int .i64 q1)).setCell ⟨w.heap.size,2,none⟩ (.int .i64 q2)=W9:=⟨_,rfl⟩
 rw[hW9];have v9:ah W9 w.heap.size 36 [.int .i64 q0,.int .i64 q1,.int .i64 q2]:=by rw[←hW9];exact ah.ajB z1 _ _ _
 have s9:AB w8 w.heap.size 36 W9:=by
  rw[←hW9]
  repeat refine AB.set dQ _ _ ?_
  exact⟨Step.refl _ _,_,z1⟩
 obtain⟨b0,b1,b2, -⟩:=ah.Sb v9;have hgs:=HG.o.size
 (try simp only[Exit.inBlock,Exit.then])
 refine bodyPost_ret (v:=.tuple #[gY q0 q1 q2,.int .i64 0]) (by simp[results,Tryz.f11,go_sem,gY,b0,b1,b2]) rfl ⟨⟨_,_,_,rfl⟩,Sd,q',F',((H7.o.1.below xE).step s9.1 oQ),(H7.o.2.2.1.below xE).step s9.1 (λk hk e=>nu6 (e▸hk)) (λk hk=>oQ),hq,n6,(H7.o.2.2.2.trans (Step.of_below xE F')).inner s9.1 (λk hk=>.inr oQ)⟩
end
section
variable {v w:World} {fm d fb B P q nn:Nat} {C st:Nat→Bytes} {cl yo:Bool} {op:Op} {F Fd:Nat→Prop} {s:JS} {C0:Nat→Bytes}
theorem OV (h:fI w fb d B P q nn C cl yo op F):Calls Tryz.prog 36 #[.pointer (some ⟨fb,0,none⟩)] w λe w'=>e=.returned (.bool false)∧w=w':=by
 obtain⟨sp,m,s,C0,Fs,hA,rfl⟩:=h;have c0:=hA.cells.cell 0;simp only[zf] at c0;obtain⟨j,st,wt,Fj,h1,h2,h3,h4,h5,h6,h7⟩:=hA.p9;have d0:=h1.cell 0;simp only[zf] at d0;have HJ:=U h2;clear hA h1 h2 h3 h4 h5 h6 h7;go_enter Tryz.func36,Tryz.ntmps36;go_wp2_with fail;refine(Qd HJ.o).mono ?_;rintro e w' ⟨rfl,rfl⟩;go_wp2_with fail;go_ret;exact⟨rfl,rfl⟩
theorem afb (hc:ah w fm 58 [.pointer (some ⟨d,0,none⟩),.pointer (some ⟨fb,0,none⟩)]) (h:fI w fb d B P q nn C cl yo op F):Calls Tryz.prog 18 #[.pointer (some ⟨fm,0,none⟩)] w λe w'=>e=.returned (.bool true)∧w=w':=by
 have c0:=hc.cell 0;have c1:=hc.cell 1;simp only[zf,zi] at c0 c1;obtain⟨n,st,wt,Fd,hD⟩:=h.dev;have HF:=U h;have HD:=U hD;clear hc h hD;go_enter Tryz.func18,Tryz.ntmps18;go_wp2_with fail;refine(OV HF.o).mono ?_;rintro e w' ⟨rfl,rfl⟩;go_wp2_with fail;refine(LV HD.o).mono ?_;rintro e w' ⟨rfl,rfl⟩;go_wp2_with fail;go_ret;exact⟨rfl,rfl⟩
end
end
section
open Go.RowKit
theorem TV:(Tryz.prog.info? 65).map (·.size)=some 2:=kQ
theorem FI:(Tryz.prog.info? 5).map (λi=>(i.zero,i.size,i.bytes))=some (some (.int .u8 0),1,1):=kQ
theorem abM:(65:TypeId)≠5:=dQ
theorem FJ (b:Nat) (w:World) (h0:w.cell? ⟨b,0,none⟩=some (.pointer (some ⟨b,0,none⟩))):
  Calls Tryz.prog 174 #[.pointer (some ⟨b,0,none⟩)] w λe w'=>e=.returned (.tuple #[])∧w'=w:=by
 obtain⟨j,hj,_⟩:=Option.map_eq_some_iff.1 TV;go_enter Tryz.func174,Tryz.ntmps174;go_wp2;rw[Lib.run_neq_ptr_same w _ Tryz.underlying63 hj];go_wp2;go_end0;exact⟨rfl,rfl⟩
theorem Cj (b:Nat) (w:World) (h0:w.cell? ⟨b,0,none⟩=some (.pointer none)) (hsh:w.shape? b=some (65,2)) (hfz:w.frozen? ⟨b,0,none⟩=false):
  Calls Tryz.prog 174 #[.pointer (some ⟨b,0,none⟩)] w λe w'=>e=.returned (.tuple #[])∧w'=w.setCell ⟨b,0,none⟩ (.pointer (some ⟨b,0,none⟩)):=by
 obtain⟨j,hj,hjs⟩:=Option.map_eq_some_iff.1 TV;go_enter Tryz.func174,Tryz.ntmps174;go_wp2;rw[Lib.run_to_unsafe w ⟨b,0,none⟩ Tryz.underlying63 Tryz.underlying303 hj (by rw[hjs];decide) hsh (Nat.zero_lt_succ 1)];simp only[Result.andThen];rw[Oper.upon_value];go_wp2;rw[run_callFunc_extern Tryz.func248 kQ kQ kQ (e:=Extern.AbiNoEscape.same) kQ];rw[Lib.run_noEscape];simp only[Result.andThen];rw[Oper.upon_value];go_wp2;rw[Lib.run_from_unsafe w ⟨b,0,none⟩ Tryz.underlying303 Tryz.underlying63 hj hsh kQ];simp only[Result.andThen];rw[Oper.upon_value];go_wp2;go_end0;exact⟨rfl,rfl⟩
def xR (b:Nat) (w w':World):Prop:=∀k C T fr,k≠b→w.heap[k]? =some (.cells C T fr)→T≠5→w'.heap[k]? =some (.cells C T fr)
theorem xR.refl (b:Nat) (w:World):xR b w w:=λ_ _ _ _ _ h _=>h
theorem xR.trans {b:Nat} {u v w:World} (h:xR b u v) (g:xR b v w):xR b u w:=λk C T fr hk h0 hT=>g k C T fr hk (h k C T fr hk h0 hT) hT
theorem xR.set (b o:Nat) (w:World) (u:Value):xR b w (w.setCell ⟨b,o,none⟩ u):=λk C T fr hk h0 hT=>(zI _ _ _ _ hk).trans h0
theorem xR.alloc (b:Nat) (w:World) (o:Obj):xR b w (w.alloc o):=λk C T fr hk h0 hT=>(zal _ _ _ (zo.1 h0).1).trans h0
theorem xR.grown {b B:Nat} {w w':World} {v:Value} {n:Nat} {xs:List Value} (h:w.grownBy w' v.ownBlock) (ho:w.ownsRow B 5 1 v n xs):xR b w w':=λk C T fr hk h0 hT=>(h.block k (zo.1 h0).1 (λe=>by
 rcases ho.2 with⟨hv,_⟩|⟨g,cap,cur,hv,_,hg,_⟩
 ·rw[hv] at e
  cases e
 ·rw[hv] at e
  have e:some k=some g:=e;injection e with e;rw[e,hg] at h0;injection h0 with h0;injection h0 with _ h0;exact hT h0.symm)).trans h0
theorem Jw (B b:Nat) (bs:List Value) (w:World) (h:Lib.IsBuilder 65 5 B b bs w):
  Calls Tryz.prog 174 #[.pointer (some ⟨b,0,none⟩)] w λe w'=>e=.returned (.tuple #[])∧(Lib.BuilderAt 65 5 B b (.pointer (some ⟨b,0,none⟩)) bs w'∧Below B w w'∧xR b w w'):=by
 rcases h with h|h
 ·refine(Cj b w h.cell0 h.shape h.frozen0).mono ?_
  rintro e w' ⟨rfl,rfl⟩;exact⟨rfl,h.used _,(zn B w).setCell (p:=⟨b,0,none⟩) h.1 _,xR.set b 0 w _⟩
 ·refine(FJ b w h.cell0).mono ?_
  rintro e w' ⟨rfl,rfl⟩;exact⟨rfl,h,zn B _,xR.refl _ _⟩
theorem G9 (B b:Nat) (bs:List Value) (c:Int) (w:World) (h:Lib.IsBuilder 65 5 B b bs w) (hlen:bs.length+1≤140737488355328) (Ag:B≤w.heap.size):
  Calls Tryz.prog 110 #[.pointer (some ⟨b,0,none⟩),.int .u8 c] w λe w'=>e=.returned .nilIface∧(Lib.BuilderAt 65 5 B b (.pointer (some ⟨b,0,none⟩)) (bs++[.int .u8 c]) w'∧Below B w w'∧xR b w w'):=by
 obtain⟨i0,hi,hz0,hz1,hz2⟩:=info_parts FI;go_enter Tryz.func110,Tryz.ntmps110;go_wp2_with fail;refine(Jw B b bs _ h).mono ?_;rintro e w1 ⟨rfl,h1,iA,pX⟩;obtain⟨hB,v,oI,hown,dV⟩:=h1;have c0:w1.cell? ⟨b,0,none⟩=some (.pointer (some ⟨b,0,none⟩)):=by rw[qL oI];rfl
 have c1:w1.cell? ⟨b,1,none⟩=some v:=by rw[qL oI];rfl
 go_wp2_with (at_builtin;refine wpList_append_own _ rfl _ _ 22 rfl B 5 i0 (.int .u8 0) 1 1 Tryz.underlying22 hi hz0 hz1 hz2 rfl dQ _ _ _ rfl (hown.alloc _) ⟨w1.heap.size,0,none⟩ 1 1 [.int .u8 c] rfl rfl ?c1 ?c2 ?c3 ?c4 ?c5 ?_)
 case c1=>
  intro j u hj
  match j,hj with
  |0,hj=>simp at hj;subst hj;simp[Addr.add]
 case c2=>intro u hu;simp at hu;subst hu;rfl
 case c3=>unfold maxLen;omega
 case c4=>omega
 case c5=>have:=iA.size;simp;omega
 intro v' w2 uF nA _;have bA:b<w1.heap.size:=by
  rcases zaL b w1.heap.size with h'|h'
  ·exact h'
  ·simp[Array.getElem?_eq_none h'] at oI
 have dh:w2.heap[b]? =some (.cells #[.pointer (some ⟨b,0,none⟩),v] 65 (0,0)):=by
  rw[nA.block b (by simp;omega) (λe=>dV e.symm),Lib.alloc_old w1 _ b bA];exact oI
 have d0:w2.cell? ⟨b,0,none⟩=some (.pointer (some ⟨b,0,none⟩)):=by rw[qL dh];rfl
 have d1:w2.cell? ⟨b,1,none⟩=some v:=by rw[qL dh];rfl
 have f1:w2.frozen? ⟨b,1,none⟩=false:=Lib.frozen_of_heap dh 1;obtain⟨g,cap,rfl⟩:∃g cap,v'=.slice (some ⟨g,0,none⟩) (bs.length+1) cap:=by
  rcases uF.2 with⟨_,h0⟩|⟨g,cap,cur,hv,_⟩
  ·omega
  ·exact⟨g,cap,hv⟩
 go_wp2;go_ret;refine⟨rfl,?_,?_,?_⟩
 ·exact Lib.BuilderAt.put (T:=65) (e:=5) hB dh (bs':=bs++[.int .u8 c]) (by simpa using uF) abM
 ·exact((iA.alloc (by have:=iA.size;omega) _).grown nA (by have:=iA.size;simp;omega) (λk hk=>(hown.lt k hk).1)).setCell (p:=⟨b,1,none⟩) hB _
 ·exact((pX.trans (xR.alloc _ _ _)).trans (xR.grown nA (hown.alloc _))).trans (xR.set b 1 _ _)
theorem CF (B b:Nat) (bs:List Value) (s:ByteArray) (w:World) (h:Lib.IsBuilder 65 5 B b bs w) (hlen:bs.length+s.size≤140737488355328) (Ag:B≤w.heap.size):
  Calls Tryz.prog 106 #[.pointer (some ⟨b,0,none⟩),.string s] w λe w'=>e=.returned (.tuple #[.int .i64 s.size,.nilIface])∧(Lib.BuilderAt 65 5 B b (.pointer (some ⟨b,0,none⟩)) (bs++Lib.strCells s) w'∧Below B w w'∧xR b w w'):=by
 obtain⟨i0,hi,hz0,hz1,hz2⟩:=info_parts FI;go_enter Tryz.func106,Tryz.ntmps106;go_wp2_with fail;refine(Jw B b bs _ h).mono ?_;rintro e w1 ⟨rfl,h1,iA,pX⟩;obtain⟨hB,v,oI,hown,dV⟩:=h1;have c0:w1.cell? ⟨b,0,none⟩=some (.pointer (some ⟨b,0,none⟩)):=by rw[qL oI];rfl
 have c1:w1.cell? ⟨b,1,none⟩=some v:=by rw[qL oI];rfl
 go_wp2_with (at_builtin;refine Lib.wpList_append_own_string _ rfl _ _ 22 9 rfl B 5 i0 Tryz.underlying22 Tryz.underlying9 hi hz0 hz1 hz2 _ _ _ rfl hown s rfl ?c3 ?c4 ?c5 ?_)
 case c3=>unfold maxLen;omega
 case c4=>omega
 case c5=>have:=iA.size;omega
 intro v' w2 uF nA _;have bA:b<w1.heap.size:=by
  rcases zaL b w1.heap.size with h'|h'
  ·exact h'
  ·simp[Array.getElem?_eq_none h'] at oI
 have dh:w2.heap[b]? =some (.cells #[.pointer (some ⟨b,0,none⟩),v] 65 (0,0)):=by
  rw[nA.block b bA (λe=>dV e.symm)];exact oI
 have d0:w2.cell? ⟨b,0,none⟩=some (.pointer (some ⟨b,0,none⟩)):=by rw[qL dh];rfl
 have d1:w2.cell? ⟨b,1,none⟩=some v:=by rw[qL dh];rfl
 have f1:w2.frozen? ⟨b,1,none⟩=false:=Lib.frozen_of_heap dh 1;obtain⟨ao,n',cap,rfl⟩:∃ao n' cap,v'=.slice ao n' cap:=by
  rcases uF.2 with⟨hv,_⟩|⟨g,cap,cur,hv,_⟩
  ·exact⟨_,_,_,hv⟩
  ·exact⟨_,_,_,hv⟩
 go_wp2;go_ret2;refine⟨rfl,?_,?_,?_⟩
 ·exact Lib.BuilderAt.put (T:=65) (e:=5) hB dh (bs':=bs++Lib.strCells s) (by simpa[Lib.strCells_length] using uF) abM
 ·exact(iA.grown nA (by have:=iA.size;omega) (λk hk=>(hown.lt k hk).1)).setCell (p:=⟨b,1,none⟩) hB _
 ·exact(pX.trans (xR.grown nA hown)).trans (xR.set b 1 _ _)
theorem FK (B b n c:Nat) (bs:List Value) (l:List UInt8) (a:Addr) (w:World) (h:Lib.IsBuilder 65 5 B b bs w) (hl:l.length=n) (ha:a.block≠b) (hc:∀j,(hj:j<l.length)→w.cell? (a.add j)=some (.int .u8 (n8 l[j]))) (aF:a.block<w.heap.size) (hlen:bs.length+n≤140737488355328) (Ag:B≤w.heap.size):
  Calls Tryz.prog 109 #[.pointer (some ⟨b,0,none⟩),.slice (some a) n c] w λe w'=>e=.returned (.tuple #[.int .i64 n,.nilIface])∧(Lib.BuilderAt 65 5 B b (.pointer (some ⟨b,0,none⟩)) (bs++l.map aH) w'∧Below B w w'∧xR b w w'):=by
 obtain⟨i0,hi,hz0,hz1,hz2⟩:=info_parts FI;go_enter Tryz.func109,Tryz.ntmps109;go_wp2_with fail;have BQ:Calls Tryz.prog 174 #[.pointer (some ⟨b,0,none⟩)] w λe w'=>e=.returned (.tuple #[])∧(Lib.BuilderAt 65 5 B b (.pointer (some ⟨b,0,none⟩)) bs w'∧Below B w w')∧Kept b w w':=by
  rcases h with h|h
  ·refine(Cj b w h.cell0 h.shape h.frozen0).mono ?_
   rintro e w' ⟨rfl,rfl⟩;exact⟨rfl,⟨h.used _,(zn B w).setCell (p:=⟨b,0,none⟩) h.1 _⟩,Kept.setCell _ _ _⟩
  ·refine(FJ b w h.cell0).mono ?_
   rintro e w' ⟨rfl,rfl⟩;exact⟨rfl,⟨h,zn B _⟩,Kept.refl _ _⟩
 refine BQ.mono ?_;rintro e w1 ⟨rfl,⟨h1,iA⟩,pX⟩;obtain⟨hB,v,oI,hown,dV⟩:=h1;have c0:w1.cell? ⟨b,0,none⟩=some (.pointer (some ⟨b,0,none⟩)):=by rw[qL oI];rfl
 have c1:w1.cell? ⟨b,1,none⟩=some v:=by rw[qL oI];rfl
 have apm:∀j,(a.add j).block=a.block:=λj=>by unfold Addr.add;split<;>rfl
 have aeF:∀j u,(l.map aH)[j]? =some u→w1.cell? (a.add j)=some u:=λj u hu=>by
  obtain⟨hj,rfl⟩:=zL.1 hu;rw[zD] at hj;rw[zaJ,zS (w:=w) (pX.block _ (by rw[apm];exact aF) (by rw[apm];exact ha)),hc j hj];rfl
 have avP:=U aeF;clear aeF BQ;go_wp2_with (at_builtin;refine wpList_append_own _ rfl _ _ 22 rfl B 5 i0 (.int .u8 0) 1 1 Tryz.underlying22 hi hz0 hz1 hz2 rfl dQ _ _ _ rfl hown a n c (l.map aH) rfl ?c0 avP.o ?c2 ?c3 ?c4 ?c5 ?_)
 case c0=>rw[zD,hl,Ug]
 case c2=>exact eP l
 case c3=>unfold maxLen;omega
 case c4=>omega
 case c5=>have:=iA.size;omega
 intro v' w2 uF nA _;have bA:b<w1.heap.size:=by
  rcases zaL b w1.heap.size with h'|h'
  ·exact h'
  ·simp[Array.getElem?_eq_none h'] at oI
 have dh:w2.heap[b]? =some (.cells #[.pointer (some ⟨b,0,none⟩),v] 65 (0,0)):=by
  rw[nA.block b bA (λe=>dV e.symm)];exact oI
 obtain⟨av,cv,rfl⟩:∃A cv,v'=.slice A (bs.length+n) cv:=by
  rcases uF.2 with⟨rfl,h0⟩|⟨g,cap,cur,hv,_⟩
  ·exact⟨none,0,by rw[h0]⟩
  ·exact⟨_,_,hv⟩
 have d0:w2.cell? ⟨b,0,none⟩=some (.pointer (some ⟨b,0,none⟩)):=by rw[qL dh];rfl
 have d1:w2.cell? ⟨b,1,none⟩=some v:=by rw[qL dh];rfl
 have f1:w2.frozen? ⟨b,1,none⟩=false:=Lib.frozen_of_heap dh 1;go_wp2;go_ret2;refine⟨rfl,?_,?_,?_⟩
 ·exact Lib.BuilderAt.put (T:=65) (e:=5) hB dh (bs':=bs++l.map aH) (by rw[zw,zD,hl];simpa using uF) abM
 ·exact((iA.grown nA (by have:=iA.size;omega) (λk hk=>(hown.lt k hk).1)).setCell (p:=⟨b,1,none⟩) hB _)
 ·have iX:xR b w w1:=λk C T fr hk h0 hT=>(pX.block k (zo.1 h0).1 hk).trans h0
  exact(iX.trans (xR.grown nA hown)).trans (xR.set b 1 _ _)
end
end Go.Proofs.YtdjdpeadohobmaaGreatDoor
