/- A part of the walk below the law: what is proved here is used by later parts; no further condition. -/
import Derived.Test.YtdjdpeadohobmaaGreatDoorK37
import Derived.Test.YtdjdpeadohobmaaGreatDoorK39
set_option linter.unusedVariables false
set_option linter.unusedSimpArgs false
set_option maxRecDepth 100000
set_option maxHeartbeats 20000000
namespace Go.Proofs.YtdjdpeadohobmaaGreatDoor
section
open Go.RowKit Go.Shelf Go.Maps O
attribute [local go_sem] Oper.semAt_some
def Srt (l:List bI):Prop:=∀(i:Nat) (e e':bI),l[i]? =some e→l[i+1]? =some e'→0≤Lib.compareBytes e'.2 e.2∧e'.2≠e.2
theorem abI (w:World) (e f:bI):Calls Tryz.prog 168 #[.agg #[.int .i64 e.1,.string ⟨e.2.toArray⟩],.agg #[.int .i64 f.1,.string ⟨f.2.toArray⟩]] w λx w'=>x=.returned (.int .i64 (Lib.compareBytes e.2 f.2))∧Below w.heap.size w w':=by
 have hB:Below w.heap.size w ((w.alloc (.cells #[.int .i64 e.1,.string ⟨e.2.toArray⟩] 163)).alloc (.cells #[.int .i64 f.1,.string ⟨f.2.toArray⟩] 163)):=((zn _ _).alloc (zm _) _).alloc sQ _;go_enter Tryz.func168,Tryz.ntmps168;go_wp2_with fail;refine(Tryz.strings_Compare _ _ _).mono ?_;rintro x w1 ⟨rfl,rfl⟩;go_wp2_with fail;go_ret;exact⟨rfl,hB⟩
theorem Xw (w:World) (e f:bI):Calls Tryz.prog 171 #[.agg #[.int .i64 e.1,.string ⟨e.2.toArray⟩],.agg #[.int .i64 f.1,.string ⟨f.2.toArray⟩]] w λx w'=>x=.returned (.bool (e.2==f.2))∧Below w.heap.size w w':=by
 have hB:Below w.heap.size w ((w.alloc (.cells #[.int .i64 e.1,.string ⟨e.2.toArray⟩] 163)).alloc (.cells #[.int .i64 f.1,.string ⟨f.2.toArray⟩] 163)):=((zn _ _).alloc (zm _) _).alloc sQ _;go_enter Tryz.func171,Tryz.ntmps171;go_wp2_with fail;go_ret;refine⟨?_,hB⟩
 first
  |rfl
  |(congr 2;rw[q9];simp)
theorem pK {w wr:World} {l:List bI} {n c:Nat} {a:Option Addr} (aZ:w.ownsRow 0 163 2 (.slice a n c) n (lM l)) (hn:l.length=n) (hB:Below w.heap.size w wr) {k:Nat} {e:bI} (he:l[k]? =some e):
  ∃g,a=some ⟨g,0,none⟩∧wr.cell? ⟨g,k*2,none⟩=some (.int .i64 e.1)∧wr.cell? ⟨g,k*2+1,none⟩=some (.string ⟨e.2.toArray⟩):=by
 have hg:=Fx he;have hk:=(zL.1 he).1;obtain⟨g,rfl,l7⟩:∃g,a=some ⟨g,0,none⟩∧g<w.heap.size:=by
  rcases aZ.2 with⟨h0,h1⟩|⟨g,cap,cur,hv,_,wQ,_⟩
  ·omega
  ·injection hv with hv
   exact⟨g,hv,(zo.1 wQ).1⟩
 rw[zaM k 2];exact⟨g,rfl,(hB.cell (p:=⟨g,2*k,none⟩) l7).trans (bL aZ rfl (2*k) hg.1),(hB.cell (p:=⟨g,2*k+1,none⟩) l7).trans (bL aZ rfl (2*k+1) hg.2)⟩
theorem RY {w:World} {l:List bI} {n c:Nat} {a:Option Addr} (aZ:w.ownsRow 0 163 2 (.slice a n c) n (lM l)) (hn:l.length=n) (Ai:n≤15) (hs:Srt l):
  Calls Tryz.prog 286 #[.slice a n c,.int .i64 0,.int .i64 n,.func (.func 168) #[] #[]] w λx w'=>(∃v,x=.returned v)∧Below w.heap.size w w':=by
 have HR:=U aZ;have Hn:=U hn;have Hs:=U hs;clear aZ hn hs;go_enter Tryz.func286,Tryz.ntmps286;go_wp2_with fail;go_loopw [8] (λvv wr=>∃k:Nat,(k=1∨k≤n)∧1≤k∧vv=.int .i64 k∧Below w.heap.size w wr) (λvv _=>n - (intOf vv).toNat)
 case atStart=>exact⟨1,.inl rfl,zm _,rfl,zn _ _⟩
 case round=>
  obtain⟨k,hk,pX,rfl,hB⟩:=hrel;have HB:=U hB;have hz:=hB.size;clear hB;by_cases mW:k<n
  ·have SH:(k:Int)<n:=oQ
   have hk0:(0:Int)<k:=oQ
   obtain⟨e,he⟩:∃e,l[k - 1]? =some e:=⟨l[k - 1]'(by rw[Hn.o];omega),zu _⟩
   obtain⟨e',LB⟩:∃e',l[k]? =some e':=⟨l[k]'(by rw[Hn.o];exact mW),zu _⟩
   obtain⟨ao6, -⟩:=Hs.o (k - 1) e e' he (by rw[show k - 1+1=k by omega];exact LB);obtain⟨g,rfl,d0,d1⟩:=pK HR.o Hn.o HB.o he;have l7:=zq wr _ d0;obtain⟨g',lQ,f0,f1⟩:=pK HR.o Hn.o HB.o LB;injection lQ with lQ;injection lQ with lQ;subst lQ;have fA:IntKind.i64.wrap ((k:Int) - 1)=((k - 1:Nat):Int):=by rw[zG];omega
   have avG:((k - 1:Nat):Int)<n:=oQ
   have avH:(0:Int)≤((k - 1:Nat):Int):=oQ
   obtain⟨z,hzc⟩:∃z,Lib.compareBytes e'.2 e.2=z:=⟨_,rfl⟩
   rw[hzc] at ao6;have hzl:¬(z<0):=oQ
   have Hz:=U hzc;clear he LB hzc ao6;go_wp2_with fail;go_loopw [9] (λvv wq=>vv=.int .i64 k∧wq=wr) (λ_ _=>0)
   case atStart=>exact⟨rfl,rfl⟩
   case round=>
    obtain⟨rfl,rfl⟩:=hrel;go_wp2_with fail;refine wp_region_noPanic ?_;refine ak (S:=(λW=>W.cell? ⟨g,(k - 1)*2,none⟩=some (.int .i64 e.1)∧W.cell? ⟨g,(k - 1)*2+1,none⟩=some (.string ⟨e.2.toArray⟩)∧W.cell? ⟨g,k*2,none⟩=some (.int .i64 e'.1)∧W.cell? ⟨g,k*2+1,none⟩=some (.string ⟨e'.2.toArray⟩))) (m:=17) kQ ⟨d0,d1,f0,f1⟩ (λaj=>?_);refine te 0 aj ?_;refine te 1 aj ?_;refine te 2 aj ?_ (v:=(.bool true)) (hy:=by intro W iR;(try dsimp only at iR);(go_simp;(try simp[hk0]);(try omega)));refine te 3 aj ?_;refine te 4 aj ?_;refine te 5 aj ?_;refine te 6 aj ?_;refine te 7 aj ?_;refine te 8 aj ?_;refine te 9 aj ?_;refine te 10 aj ?_;refine te 11 aj ?_;refine te 12 aj ?_;refine te 13 aj ?_;refine rE 14 λK hK=>?_;go_simp;with_reducible refine(abI _ e' e).mono ?_
    rintro x w2 ⟨rfl,aJ⟩;have aJ:=((zn wr.heap.size wr).drew).trans aJ;rw[Hz.o];have bH:=U (HB.o.trans (aJ.mono hz));go_wp2_with fail;refine hK.out _ _ (λ_=>⟨(aJ.cell (p:=⟨g,(k - 1)*2,none⟩) l7).trans d0,(aJ.cell (p:=⟨g,(k - 1)*2+1,none⟩) l7).trans d1,(aJ.cell (p:=⟨g,k*2,none⟩) l7).trans f0,(aJ.cell (p:=⟨g,k*2+1,none⟩) l7).trans f1⟩) (λhS=>?_);have bQ:=hS dQ;clear hS hK K
    try simp only[Act.put,zh,zk,zl]
    refine te 15 bQ ?_;refine te 16 bQ ?_;refine aD ?_;go_wp2_with fail;refine⟨⟨k+1,oQ,oQ,by go_num,bH.o⟩,by simp[intOf];omega⟩
  ·go_wp2_with fail
   go_end0;exact⟨⟨_,rfl⟩,HB.o⟩
theorem RZ {w:World} {l:List bI} {n c:Nat} {a:Option Addr} (aZ:w.ownsRow 0 163 2 (.slice a n c) n (lM l)) (hn:l.length=n) (Ai:n≤15) (hs:Srt l):
  Calls Tryz.prog 167 #[.slice a n c,.func (.func 168) #[] #[]] w λx w'=>(∃v,x=.returned v)∧Below w.heap.size w w':=by
 have bT:Calls Tryz.prog 244 #[.slice a n c,.int .i64 n,.func (.func 168) #[] #[]] w λx w'=>(∃v,x=.returned v)∧Below w.heap.size w w':=by
  have h20:¬((20:Int)≤n):=oQ
  have aGk:¬((20:Int)<n):=oQ
  have HR:=U aZ;have Hn:=U hn;clear aZ hn;go_enter Tryz.func244,Tryz.ntmps244;go_wp2_with fail;go_loopw [7,8] (λuu vv wr=>uu=.int .i64 0∧vv=.int .i64 20∧wr=w) (λ_ _ _=>0)
  case atStart=>exact⟨rfl,rfl,rfl⟩
  case round=>
   obtain⟨rfl,rfl,rfl⟩:=hrel;go_wp2_with fail;refine(RY HR.o Hn.o Ai hs).mono ?_;rintro x w2 ⟨⟨u,rfl⟩,hB⟩;have HB:=U hB;clear hB;go_wp2_with fail;go_loopw [6] (λvv wr=>vv=.int .i64 20∧wr=w2) (λ_ _=>0)
   case atStart=>exact⟨rfl,rfl⟩
   case round=>
    obtain⟨rfl,rfl⟩:=hrel;go_wp2_with fail;go_end0;exact⟨⟨_,rfl⟩,HB.o⟩
 go_enter Tryz.func167,Tryz.ntmps167;go_wp2_with fail;refine bT.mono ?_;rintro x w2 ⟨⟨u,rfl⟩,hB⟩;go_wp2_with fail;go_end0;exact⟨⟨_,rfl⟩,hB⟩
theorem OJ {w:World} {l:List bI} {n c:Nat} {a:Option Addr} (aZ:w.ownsRow 0 163 2 (.slice a n c) n (lM l)) (hn:l.length=n) (Ai:n≤15) (hs:Srt l):
  Calls Tryz.prog 170 #[.slice a n c,.func (.func 171) #[] #[]] w λx w'=>x=.returned (.slice a n c)∧Below w.heap.size w w':=by
 have HR:=U aZ;have Hn:=U hn;have Hs:=U hs;clear aZ hn hs;go_enter Tryz.func170,Tryz.ntmps170;by_cases h2:n<2
 ·have h2i:(n:Int)<2:=oQ
  go_wp2_with fail;go_ret;exact⟨rfl,zn _ _⟩
 ·have h2i:¬((n:Int)<2):=oQ
  go_wp2_with fail;go_loopw [5] (λvv wr=>∃k:Nat,k≤n∧1≤k∧vv=.int .i64 k∧Below w.heap.size w wr) (λvv _=>n - (intOf vv).toNat)
  case atStart=>exact⟨1,oQ,zm _,rfl,zn _ _⟩
  case round=>
   obtain⟨k,hk,pX,rfl,hB⟩:=hrel;have HB:=U hB;have hz:=hB.size;clear hB;by_cases mW:k<n
   ·have SH:(k:Int)<n:=oQ
    obtain⟨e,he⟩:∃e,l[k - 1]? =some e:=⟨l[k - 1]'(by rw[Hn.o];omega),zu _⟩
    obtain⟨e',LB⟩:∃e',l[k]? =some e':=⟨l[k]'(by rw[Hn.o];exact mW),zu _⟩
    obtain⟨-,dV⟩:=Hs.o (k - 1) e e' he (by rw[show k - 1+1=k by omega];exact LB);obtain⟨g,rfl,d0,d1⟩:=pK HR.o Hn.o HB.o he;obtain⟨g',lQ,f0,f1⟩:=pK HR.o Hn.o HB.o LB;injection lQ with lQ;injection lQ with lQ;subst lQ;have l7:=zq wr _ d0;have fA:IntKind.i64.wrap ((k:Int) - 1)=((k - 1:Nat):Int):=by rw[zG];omega
    have avG:((k - 1:Nat):Int)<n:=oQ
    have avH:(0:Int)≤((k - 1:Nat):Int):=oQ
    have Yl:(e'.2==e.2)=false:=by simpa using dV
    have Hbf:=U Yl;clear he LB dV Yl;go_wp2_with fail;refine wp_region_noPanic ?_;refine ak (S:=(λW=>W.cell? ⟨g,(k - 1)*2,none⟩=some (.int .i64 e.1)∧W.cell? ⟨g,(k - 1)*2+1,none⟩=some (.string ⟨e.2.toArray⟩)∧W.cell? ⟨g,k*2,none⟩=some (.int .i64 e'.1)∧W.cell? ⟨g,k*2+1,none⟩=some (.string ⟨e'.2.toArray⟩))) (m:=11) kQ ⟨d0,d1,f0,f1⟩ (λaj=>?_);refine te 0 aj ?_;refine te 1 aj ?_;refine te 2 aj ?_;refine te 3 aj ?_;refine te 4 aj ?_;refine te 5 aj ?_;refine te 6 aj ?_;refine te 7 aj ?_;refine te 8 aj ?_;refine te 9 aj ?_;refine rE 10 λK hK=>?_;go_simp;with_reducible refine(Xw _ e' e).mono ?_
    rintro x w2 ⟨rfl,aJ⟩;have aJ:=((zn wr.heap.size wr).drew).trans aJ;rw[Hbf.o];have bH:=U (HB.o.trans (aJ.mono hz));go_wp2_with fail;refine hK.out _ _ (λ_=>⟨(aJ.cell (p:=⟨g,(k - 1)*2,none⟩) l7).trans d0,(aJ.cell (p:=⟨g,(k - 1)*2+1,none⟩) l7).trans d1,(aJ.cell (p:=⟨g,k*2,none⟩) l7).trans f0,(aJ.cell (p:=⟨g,k*2+1,none⟩) l7).trans f1⟩) (λhS=>?_);have bQ:=hS dQ;clear hS hK K
    try simp only[Act.put,zh,zk,zl]
    refine aD ?_;go_wp2_with fail;refine⟨⟨k+1,oQ,oQ,by go_num,bH.o⟩,by simp[intOf];omega⟩
   ·go_wp2_with fail
    go_ret;exact⟨rfl,HB.o⟩
section
variable {v w:World} {sp d B b n id:Nat} {C E:Nat→Bytes} {F:Nat→Prop} {lk:Int} {l:List bI} {D R:List Int} {r:Int}
theorem Xx (hV:Base v sp d B C) (h:cB v w b sp d C E n F) (hl:∀e∈l,Aj e) (xw:l.length≤15) (hF:mh E B id 2 lk (b_ l) D r R) (hs:Srt l):
  Calls Tryz.prog 103 #[.agg #[.pointer (some ⟨b,0,none⟩),.int .i64 B],.int .i64 id] w λe w'=>∃u,e=.returned (.tuple #[u,.int .i64 0])∧w'.ownsRow 0 163 2 u l.length (lM l)∧(∀g,u.ownBlock=some g→w.heap.size≤g)∧∃F',cB v w' b sp d C E (up (up n)) F'∧(∀g,u.ownBlock=some g→¬F' g)∧Mv d v F w F' w':=by
 obtain⟨w1,aP⟩:∃w1,w.alloc (.cells #[.pointer (some ⟨b,0,none⟩),.int .i64 B] 85)=w1:=⟨_,rfl⟩
 obtain⟨aM,aF,hz1⟩:=boxes [([.pointer (some ⟨b,0,none⟩),.int .i64 B],85)] w w1 (by rw[←aP];rfl);have x0:ah w1 w.heap.size 85 [.pointer (some ⟨b,0,none⟩),.int .i64 B]:=aM 0 _ rfl;have y0:=x0.cell 0;have y1:=x0.cell 1;simp only[zf,zi] at y0 y1;have H:=U h;have H1:=U (h.below aF);have HV:=U hV;have HF:=U hF;have HB:=U aF;have Hl:=U hl;have Hs:=U hs;have vR:w.heap.size≤w1.heap.size:=aF.size;clear h hV aM aF hz1 x0 hF hl hs;go_enter Tryz.func103,Tryz.ntmps103;go_wp2_with fail;refine(vB HV.o H1.o Hl.o xw HF.o).mono ?_;rintro e w2 ⟨u,rfl,aZ,fJ,F2,h2,Cv,bC⟩;obtain⟨av,cv,rfl,BM⟩:=aR aZ;have HR:=U aZ;have HZ:=U (And.intro h2 (And.intro (Mv.after HB.o bC H.o.quiet (λk hk=>(H.o.lt k hk).2)) (And.intro fJ Cv)));clear aZ fJ h2 Cv bC y0 y1 BM;go_wp2_with fail;refine(RZ HR.o rfl xw Hs.o).mono ?_;rintro x w3 ⟨⟨u,rfl⟩,bf⟩;have UJ:=U (aC (Step.of_below bf (λ_=>False)) HR.o (λ_ _ h=>h));have iB:=U bf;clear bf;go_wp2_with fail;refine(OJ UJ.o rfl xw Hs.o).mono ?_;rintro x w4 ⟨rfl,dX⟩;have yS:=iB.o.trans (dX.mono iB.o.size);have HR4:=U (aC (Step.of_below dX (λ_=>False)) UJ.o (λ_ _ h=>h));have ao7:=U yS;clear dX yS;go_wp2_with fail;go_ret2;obtain⟨q1,q2,q3,q4⟩:=HZ.o;exact⟨_,rfl,HR4.o,λg hg=>zC vR (q3 g hg),F2,q1.below ao7.o,q4,q2.below ao7.o⟩
end
theorem Kept.own {r base:Nat} {w w' w'':World} (h:Kept r w w') (hB:Below base w' w'') (hb:w.heap.size≤base):Kept r w w'':=
 ⟨zC h.size hB.size,λk hk hr=>(hB.block k oQ).trans (h.block k hk hr),λB h1 h2=>(h.below B h1 h2).trans (hB.mono oQ)⟩
section
variable {v w w1:World} {fb sp d B P q nn b p t1 t2 t3 t4:Nat} {C:Nat→Bytes} {cl yo:Bool} {op:Op} {G:Nat→Prop} {x f:Nd} {fl:nU} {s:Bytes}
theorem Le (hj:jI v w d B C sp w1 p b) (hT:Tr C B x fl) (hso:Srt (ents fl)) {ln:Nat} (Ap:fl.length=ln)
  (x1:ah w1 t1 9 [.string ⟨([47]:Bytes).toArray⟩]) (x2:ah w1 t2 30 [.slice none 0 0]) (n1:t1≠b) (n2:t2≠b∧v.heap.size≤t2∧t2≠p∧t2≠t1):
  Calls Tryz.prog 102 (#[.pointer (some ⟨p,0,none⟩)]++#[.pointer (some ⟨t1,0,none⟩),.pointer (some ⟨t2,0,none⟩)]) w1 λe w2=>(∃x,e=.returned x)∧∃E' F2,(E'=C∧∃a c,ah w2 t2 30 [.slice a ln c]∧Own 9 w1.heap.size w2 a c (fl.map λg=>ku g.2))∧cB v w2 b sp d C E' 0 F2∧Mv d v (λk=>k=b∨k=t2) w1 (λk=>F2 k∨k=t2) w2:=by
 obtain⟨hV,hq,gJ,iX,hp,⟨sV,iA,pY⟩,nD⟩:=hj;have hB:=hT.big;have c1:=x1.cell 0;have p0:=hp.cell 0;have p1:=hp.cell 1;simp only[zf,zi] at c1 p0 p1;have fB:=hp.lt;have Tq:=x2.lt;have aGn:=x1.lt;have eX:=hV.yE;have hvq:=hq.size;have nI:b<w1.heap.size:=(nD.lt b rfl).2;have Ac:=hT.few;have HV:=U hV;have HP:=U hp;have HS:=U nD;have HT:=U hT;have X1:=U x1;have X2:=U x2;have Hso:=U hso;have Hq:=U hq;have Jr:=U Ap;clear hV hp nD hT x1 x2 hso hq iX Ap;go_enter Tryz.func102,Tryz.ntmps102;go_wp2_with fail;refine wp_region_noPanic ?_;refine ak (S:=(λW=>W.cell? ⟨p,0,none⟩=some (.pointer (some ⟨b,0,none⟩))∧W.cell? ⟨p,1,none⟩=some (.int .i64 B)∧W.cell? ⟨t1,0,none⟩=some (.string ⟨([47]:Bytes).toArray⟩))) (m:=13) kQ ⟨p0,p1,c1⟩ (λaj=>?_);refine te 0 aj ?_;refine te 1 aj ?_;refine te 2 aj ?_;refine te 3 aj ?_;refine te 4 aj ?_;refine te 5 aj ?_;refine rE 6 λK hK=>?_;go_simp;refine(kD (s:=[47]) (D:=[]) dQ w1.drew).mono ?_;rintro e w2 ⟨a,c,rfl, -,aJ⟩;have bH:=U (((zn w1.heap.size w1).drew).trans aJ);clear aJ;go_wp2_with fail;refine hK.out _ _ (λ_=>⟨(HP.o.below bH.o).cell 0,(HP.o.below bH.o).cell 1,(X1.o.below bH.o).cell 0⟩) (λhS=>?_);have bQ:=hS dQ;clear hS hK K
 try simp only[Act.put,zh,zk,zl]
 refine rE 7 λK hK=>?_;go_simp;refine(mP (kk:=0) (za:=1) (HP.o.below bH.o) HV.o (HS.o.below bH.o) HT.o.wF (by rw[bJ];omega) HT.o.Fq (.inl ⟨rfl,rfl⟩)).mono ?_;rintro e w3 ⟨rfl,F3,h3,dP⟩;have Dc:=U (And.intro (dP.aW (HP.o.below bH.o) dQ pY) (And.intro (dP.aW (X1.o.below bH.o) dQ n1) (dP.aW (X2.o.below bH.o) dQ n2.1)));have H3:=U (And.intro (show cB v w3 b sp d C C 0 F3 from h3) dP);clear h3 dP;go_wp2_with fail;refine hK.out _ _ (λ_=>⟨Dc.o.1.cell 0,Dc.o.1.cell 1,Dc.o.2.1.cell 0⟩) (λhS=>?_);have bV:=hS dQ;clear hS hK K
 try simp only[Act.put,zh,zk,zl]
 refine rE 8 λK hK=>?_;go_simp;refine(Xx HV.o H3.o.1 HT.o.wF (by rw[bJ];omega) HT.o.Fq Hso.o).mono ?_;rintro e w4 ⟨u,rfl,aZ,fJ,F4,h4,Cv,dI⟩;obtain⟨av,cv,rfl,BM⟩:=aR aZ;rw[show(ents fl).length=ln by rw[bJ,Jr.o]] at aZ fJ Cv ⊢;have Xd:=U (And.intro (dI.aW Dc.o.1 dQ (H3.o.2.apart (by have:=bH.o.size;omega) pY)) (And.intro (dI.aW Dc.o.2.1 dQ (H3.o.2.apart (by have:=bH.o.size;omega) n1)) (dI.aW Dc.o.2.2 dQ (H3.o.2.apart (by have:=bH.o.size;omega) n2.1))));have H4:=U (And.intro (show cB v w4 b sp d C C 0 F4 from h4) dI);have HR:=U (And.intro aZ (And.intro fJ Cv));clear h4 dI aZ fJ Cv BM;go_wp2_with fail;refine hK.out _ _ (λ_=>⟨Xd.o.1.cell 0,Xd.o.1.cell 1,Xd.o.2.1.cell 0⟩) (λhS=>?_);have jd:=hS dQ;clear hS hK K
 try simp only[Act.put,zh,zk,zl]
 refine te 9 jd ?_;refine te 10 jd ?_;refine te 11 jd ?_;refine te 12 jd ?_;refine vF 13 ?_;refine aD ?_;go_wp2_with fail;refine(bY _).mono ?_;rintro e w4' ⟨⟨y,rfl⟩,rfl⟩;go_wp2_with fail;have hz2:=bH.o.size;have mF:=H3.o.2.size;have Ah:=H4.o.2.size;have ay9:ln≤15:=by have:=Jr.o;omega
 have hnt:∀g,av=some ⟨g,0,none⟩→w3.heap.size≤g:=λg hg=>HR.o.2.1 g (by subst hg;rfl);have Hnt:=U hnt;obtain⟨i0,hi0,Ij,jQ,Pg⟩:=info_parts K7.info;have HI0:=U (And.intro hi0 (And.intro Ij (And.intro jQ Pg)));clear hnt hi0 Ij jQ Pg;go_loopw [24] (λvv wr=>∃(k:Nat) (A:Option Addr) (c:Nat),k≤ln∧vv=.int .i64 k∧Kept t2 w4' wr∧ah wr t2 30 [.slice A k c]∧Own 9 w4'.heap.size wr A c ((fl.take k).map λg=>ku g.2)) (λvv _=>ln - (intOf vv).toNat)
 case atStart=>exact⟨0,none,0,ql _,rfl,Kept.refl _ _,Xd.o.2.2,Own.nothing⟩
 case round=>
  obtain⟨k,A,c,hk,rfl,iX,aM,hown⟩:=hrel;have HK:=U iX;have HX:=U aM;have HO:=U hown;have b0:=aM.cell 0;have f0:=aM.free 0;simp only[zf] at b0;have hzr:=iX.size;clear iX aM hown;by_cases mW:k<ln
  ·have SH:(k:Int)<ln:=oQ
   have fF:k<fl.length:=by rw[Jr.o];exact mW
   obtain⟨e,he⟩:∃e,fl[k]? =some e:=⟨fl[k],zu fF⟩
   have hee:(ents fl)[k]? =some (e.1.id,e.2):=by unfold ents;rw[qb,he];rfl
   obtain⟨g,hg,d0,d1⟩:=pK HR.o.1 (show(ents fl).length=ln by rw[bJ,Jr.o]) (zn _ _) hee;have hgt:=Hnt.o g hg;have l7:=zq w4' _ d0;have d0:=(zS (w:=w4') (w':=wr) (a:=⟨g,k*2,none⟩) (HK.o.block g l7 oQ)).trans d0;have d1:=(zS (w:=w4') (w':=wr) (a:=⟨g,k*2+1,none⟩) (HK.o.block g l7 oQ)).trans d1;have PS:IntKind.i64.wrap ((k:Int)+1)=((k+1:Nat):Int):=by rw[zG];omega
   have He:=U he;have htr:t2<wr.heap.size:=oQ
   subst hg;obtain⟨W1,xX⟩:∃W1,wr.alloc (.cells #[.int .i64 e.1.id,.string ⟨e.2.toArray⟩] 163)=W1:=⟨_,rfl⟩
   have QA:Below wr.heap.size wr W1:=by rw[←xX];exact(zn _ _).alloc (zm _) _
   have hZ1:W1.heap.size=wr.heap.size+1:=by rw[←xX];simp
   have q0:=((HX.o.below QA).cell 0)
   have q1:W1.cell? ⟨wr.heap.size,1,none⟩=some (.string ⟨e.2.toArray⟩):=by rw[←xX];exact(ah.new wr 163 [.int .i64 e.1.id,.string ⟨e.2.toArray⟩]).cell 1
   simp only[zf] at q0;obtain⟨W2,lZ⟩:∃W2,W1.alloc (.cells #[.string ⟨e.2.toArray⟩] 9)=W2:=⟨_,rfl⟩
   have ZJ:Below W1.heap.size W1 W2:=by rw[←lZ];exact(zn _ _).alloc (zm _) _
   have hZ2:W2.heap.size=W1.heap.size+1:=by rw[←lZ];simp
   have ae4:=QA.trans (ZJ.mono oQ);obtain⟨A',c',W3,iT,nW,bf⟩:=gu K7 30 (HO.o.keep ae4) (show((fl.take k).map λg=>ku g.2).length=k by rw[zD,zF];omega) (A2:=some ⟨wr.heap.size+1,0,none⟩) (ys:=[ku e.2]) (m:=1) (c2:=1) (by rw[←lZ,←hZ1];exact gZ.ji W1 _ _ _ _ rfl) rfl (by simp[Value.oneCell',ku]) oQ oQ oQ;have hX3:ah W3 t2 30 [.slice A k c]:=(bf.block t2 oQ).trans ((HX.o.below ae4));have f3:=hX3.free 0;have g3:=hX3.cell 0;simp only[zf] at g3;have hK3:Kept t2 w4' W3:=(HK.o.trans (Kept.of_below ae4)).own bf (zm _);have N8:(fl.take (k+1)).map (λg=>ku g.2)=(fl.take k).map (λg=>ku g.2)++[ku e.2]:=by
    rw[zaV,he,zW];rfl
   rw[←N8] at nW;have H3':=U (And.intro hX3 (And.intro hK3 nW));have aGr:IntKind.i64.wrap ((k:Int)+1)=((k+1:Nat):Int):=PS;clear he hee nW bf hX3 hK3 N8 QA ZJ ae4 PS;subst xX lZ;go_wp2_with (at_builtin;refine wpList_append_run (.tmp 28) (.tmp 31) iT rfl rfl rfl rfl ?_);obtain⟨y1,y2,y3⟩:=H3'.o;refine⟨⟨k+1,A',c',oQ,by go_num,y2.trans (Kept.setCell _ _ _),y1.aB 0 _,y3.kept (Kept.setCell (r:=t2) _ _ _) (λg' e=>?_)⟩,by simp[intOf];omega⟩;subst e;have:=(eu y3).1;omega
  ·obtain rfl:k=ln:=oQ
   go_wp2_with fail;go_end0;have hO:=HO.o;rw[show fl.take k=fl from zy (by rw[Jr.o];exact zm _)] at hO;have h4:=H4.o.1;have Oz:=H3.o.2.apart (show t2<w2.heap.size by omega) n2.1;have nk4:=H4.o.2.apart (show t2<w3.heap.size by omega) Oz;have dI:=(mvY (X:=(· =t2)) (Mv.after bH.o (H3.o.2.trans H4.o.2) Hq.o (λk hk=>by subst hk;omega)) (λk hk=>by subst hk;exact⟨n2.2.1,Tq⟩)).kept HK.o (.inl (.inr rfl));exact⟨⟨_,rfl⟩,C,F4,⟨rfl,A,c,HX.o,hO.mono oQ⟩,h4.keep (λk hk=>HK.o.block k (h4.lt k hk).2 (λe=>nk4 (e▸hk))) dI.q' HK.o.size,dI⟩
theorem Lf {ln:Nat} (h:fI v fb d B P q nn C cl yo op G) (hT:Tr C B x fl) (hso:Srt (ents fl)) (hq:q<1000000) (Ap:fl.length=ln):
  Calls Tryz.prog 37 #[.pointer (some ⟨fb,0,none⟩),.string ⟨([47]:Bytes).toArray⟩] v λe w'=>∃a c,e=.returned (.tuple #[.slice a ln c,.int .i64 0])∧Own 9 v.heap.size w' a c (fl.map λg=>ku g.2)∧fI w' fb d B P q nn C cl yo op G∧Step G v G w'∧Quiet d v w':=by
 obtain⟨w1,aP⟩:∃w1,(v.alloc (.cells #[.string ⟨([47]:Bytes).toArray⟩] 9)).alloc (.cells #[.slice none 0 0] 30)=w1:=⟨_,rfl⟩
 obtain⟨aM,aF,hz1⟩:=boxes [([.string ⟨([47]:Bytes).toArray⟩],9),([.slice none 0 0],30)] v w1 (by rw[←aP];rfl);have x0:ah w1 v.heap.size 9 [.string ⟨([47]:Bytes).toArray⟩]:=aM 0 _ rfl;have x1:ah w1 (v.heap.size+1) 30 [.slice none 0 0]:=aM 1 _ rfl;have vR:w1.heap.size=v.heap.size+2:=by simpa using hz1
 have wT:=U aP;have HF:=U h;have HB:=U aF;have X0:=U x0;have X1:=U x1;have HT:=U hT;have Hso:=U hso;have Jr:=U Ap;clear h aM aF hz1 x0 x1 aP hT hso Ap;go_enter Tryz.func37,Tryz.ntmps37;go_wp2_with fail;rw[wT.o];refine(jJ HF.o HT.o.big HB.o hq (n':=0) oQ (fn:=102) (λ_ _=>rfl) (X:=(· =v.heap.size+1)) (λk h=>by subst h;omega) (PE:=λE' W=>E'=C∧∃a c,ah W (v.heap.size+1) 30 [.slice a ln c]∧Own 9 (w1.heap.size+1) W a c (fl.map λg=>ku g.2)) (λE' W h=>by rw[h.1];exact HT.o.o) (λsp w2 p b hj=>?_)).mono ?_
 ·have Lv:=hj.new
  have hjs:=hj.size;have nI:=(hj.Bd.lt b rfl).2;refine(Le hj HT.o Hso.o Jr.o (hj.aW X0.o oQ) (hj.aW X1.o oQ) oQ ⟨oQ,oQ,oQ,oQ⟩).mono ?_;rintro e w3 ⟨hx,E',F2,⟨h1,a,c,h2,h3⟩,h4⟩;exact⟨hx,E',F2,⟨h1,a,c,h2,h3.mono oQ⟩,h4⟩
 rintro e w3 ⟨rfl,E',w2,⟨rfl,a,c,oD,hown⟩,hD⟩;obtain⟨q',cl',F',hS,bT, -,GZ, -⟩:=hD.ex;obtain⟨rfl,rfl,rfl⟩:=GZ rfl;have HQ:=U (hD.quiet rfl);have xW:=hD.ge;have y2:ah w3 (v.heap.size+1) 30 [.slice a ln c]:=(hD.keep _ oQ oD.lt oQ).trans oD;have Wh:Own 9 (w1.heap.size+1) w3 a c (fl.map λg=>ku g.2):=by
  refine⟨hown.1,?_⟩;rcases hown.2 with h|⟨g,cap,cur,h1,h2,h3,h4⟩
  ·exact .inl h
  ·exact .inr ⟨g,cap,cur,h1,h2,(hD.keep g oQ (zo.1 h3).1 oQ).trans h3,h4⟩
 have HS:=U (And.intro (And.intro hS bT) (Wh.mono (show v.heap.size≤w1.heap.size+1 by omega)));have z2:=y2.cell 0;simp only[zf] at z2;clear hS bT hD oD y2 hown Wh;go_wp2_with fail;go_ret2;exact⟨a,c,rfl,HS.o.2,HS.o.1.1,HS.o.1.2,HQ.o⟩
end
def zeroE (B:Nat):nR:=λi=>if i<B then zeros 480 else[]
def G7 (B:Nat):nR:=λi=>if i=0 then aY (zeros 480) 0 true else zeroE B i
def nE (B:Nat):nR:=saved (λi=>if i=0 then aY (G7 B 0) 1 true else G7 B i) 1 2 1 0 bN 0 aT
def agT:Nd:=⟨1,2,[],bN,0,aT⟩
theorem nG (B b:Nat):aG (G7 B 0) b=true↔b=0:=by
 have h:aG (G7 B 0) b=aG (aY (zeros 480) 0 true) b:=rfl;rw[h,bM (by simp[zeros])];by_cases hb:b=0
 ·rw[if_pos hb];simp[hb]
 ·rw[if_neg hb]
  simp[hb,kU]
theorem yY {B:Nat} (hB:4≤B∧B≤3840):Tr (nE B) B agT []:=by
 have h0:nT (G7 B) B []:=by
  refine⟨sQ,List.Pairwise.nil,λb=>by rw[nG];simp,?_⟩
  have h1:cnt (G7 B 0) B=cnt (zeros 480) B+1:=n_ (n:=0) (kU _ _) ((nG B 0).2 rfl) (λm hm=>by
   rw[kU,Bool.eq_false_iff];exact λh=>hm ((nG B m).1 h)) oQ
  rw[h1,I_];rfl
 have hl:(G7 B 0).length=480:=by
  show(aY (zeros 480) 0 true).length=480;rw[jc];simp[zeros]
 have hm:wD (G7 B) (nE B) B 1 2:=KY (.inr rfl) hB.2 hl ((nG B 0).2 rfl) oQ (by rw[Bool.eq_false_iff];exact λh=>by have:=(nG B 1).1 h;omega);have h2:=h0.make hm;refine⟨h2,⟨rfl,rfl,rfl⟩,sQ,sQ,sQ,hB,λi hi=>?_⟩;rw[hm.keep i oQ oQ];show(if i=0 then aY (zeros 480) 0 true else zeroE B i)=[]
 rw[if_neg oQ];exact if_neg oQ
section
variable {v w:World} {sp d B b n p:Nat} {C E:Nat→Bytes} {F:Nat→Prop} {l:Bytes} {c e g:Nat}
theorem OL (hB:4≤B∧B≤3840) (hV:Base v sp d B C) (h:Wk v w p b sp d B C (zeroE B) 0 F):
  Calls Tryz.prog 63 #[.pointer (some ⟨p,0,none⟩)] w λe w'=>(∃x,e=.returned x)∧∃F',Wk v w' p b sp d B C (nE B) 3 F'∧Mv d v F w F' w':=by
 have tJ:=h;obtain⟨L,q,Fb,bits,mk,h,hn,rfl⟩:=h;obtain rfl:=hn.2 rfl;have vV:dW C L 0=zeroE B 0:=by
  rcases h.bit with⟨-, -,h3⟩|⟨g,c, -, -, -, -, -,h6⟩
  ·exact h3
  ·exact h6 rfl
 have hz0:zeroE B 0=zeros 480:=if_pos oQ;have fB:=h.cells.lt;have H:=U h;have HV:=U hV;have HWk:=U tJ;clear h hV tJ;go_enter Tryz.func63,Tryz.ntmps63;go_wp2_with fail;refine(aal w).mono ?_;rintro e w1 ⟨g,rfl,hg,ho,aF⟩;have h1:=H.o.keep (λk hk=>aF.block k (H.o.lt k hk).2) (H.o.vN.quiet.trans (Quiet.of_below aF)) aF.size;have f2:=h1.cells.free 2;have k2:=h1.cells.cell 2;simp only[Ja,zf,zi] at k2;have pW:=h1.cells.aB 2 (.slice (some ⟨g,0,none⟩) 480 480);have hk:=Kept.setCell (r:=p) w1 2 (.slice (some ⟨g,0,none⟩) 480 480);obtain⟨w2,iy⟩:∃w2,w1.setCell ⟨p,2,none⟩ (.slice (some ⟨g,0,none⟩) 480 480)=w2:=⟨_,rfl⟩
 rw[iy] at pW hk;have MN:g≠p:=oQ
 have vK:Own 5 v.heap.size w2 (some ⟨g,0,none⟩) 480 ((zeros 480).map aH):=(ho.mono H.o.vN.quiet.size).kept hk (λg' lQ=>by injection lQ with lQ;injection lQ with lQ;subst lQ;exact MN);have eD:Mv d v (ru Fb p bits) w (ru Fb p bits) w1:=Mv.of_below HV.o.dev H.o.vN.quiet H.o.lt aF;have bC:=eD.kept hk (.inl (.inr (.inl rfl)));have Pv:∀k,Fb k→k≠p:=λk hk e=>h1.np (e▸hk);have tq:¬Fb g:=λhf=>by have:=(H.o.vN.lt g hf).2;omega
 have hW:gX v w2 p b sp d B C (zeroE B) L q Fb (.slice (some ⟨g,0,none⟩) 480 480) false:=
  ⟨pW,h1.ge,h1.np,h1.vN.keep (λk eO=>hk.block k (h1.vN.lt k eO).2 (Pv k eO)) bC.q' hk.size,.inr ⟨g,480,rfl,by rw[hz0];exact vK,by rw[hz0];simp[zeros],tq,MN,λ_=>vV⟩,h1.same⟩
 have jr:=eu ho;have hgv:=H.o.vN.quiet.size
 have dP:Mv d v (ru Fb p bits) w (ru Fb p (.slice (some ⟨g,0,none⟩) 480 480)) w2:=bC.more (λ_ h=>h) H.o.lt (λk eO=>by
  rcases eO with eO|eO|eO
  ·exact .inl (.inl eO)
  ·exact .inl (.inr (.inl eO))
  ·have eO:some g=some k:=eO
   injection eO with eO;subst eO;exact .inr (.inr ⟨hg,zx jr.2.1 hk.size⟩))
 have HF:=U (And.intro (show Wk v w2 p b sp d B C (zeroE B) 1 _ from⟨L,q,Fb,_,false,hW,⟨oQ,λe=>oQ⟩,rfl⟩) dP);clear ho h1 eD pW hk vK bC hW dP jr Pv aF;go_wp2_with fail;clear iy f2 k2;refine(kr (id:=0) HV.o HF.o.1 (zm 1) oQ true).mono ?_;rintro e w3 ⟨⟨x,rfl⟩,F3,h3,dP⟩;have h3:Wk v w3 p b sp d B C (G7 B) 1 F3:=by
  rw[hz0] at h3;exact h3
 have H3:=U (And.intro h3 (HF.o.2.trans dP));clear h3 dP;go_wp2_with fail;refine(kr (id:=1) HV.o H3.o.1 (zm 1) oQ true).mono ?_;rintro e w4 ⟨⟨x,rfl⟩,F4,h4,dI⟩;have H4:=U (And.intro h4 (H3.o.2.trans dI));clear h4 dI;go_wp2_with (first|(refine bB _ rfl (wE rfl rfl rfl) ?_)|(refine bB _ rfl (je rfl gI rfl rfl) ?_));have yQ:=KY (E:=G7 B) (m:=1) (k:=2) (.inr rfl) hB.2 (h0:=by show(aY (zeros 480) 0 true).length=480;rw[jc];simp[zeros]) ((nG B 0).2 rfl) oQ (by rw[Bool.eq_false_iff];exact λh=>by have:=(nG B 1).1 h;omega);have rU:O.aac 2 1 0 bN 0=true:=yQ.wu.iW.EU hB.2 (.inr rfl) (l:=1) oQ;have aZ:=yQ.wu.iW.rowOk hB.2;have aJ:=λo=>(zn w4.heap.size w4).alloc (zm _) o;have lJ:¬F4 w4.heap.size:=λhf=>by have:=(H4.o.1.lt _ hf).2;omega
 refine(u_ (id:=1) HV.o (H4.o.1.below (aJ _)) ⟨IsNode.new _ _ _,gI,pG⟩ lJ dQ dQ rU ⟨0,rfl,dQ⟩ aZ).mono ?_;rintro e w5 ⟨⟨x,rfl⟩,F5,h5,fu⟩;have H5:=U (And.intro h5 (Mv.trans (H4.o.2.below (aJ _)) fu));clear aJ lJ h5 fu;go_wp2_with fail;go_end0;exact⟨⟨_,rfl⟩,F5,H5.o.1,H5.o.2⟩
end
theorem ae5 (p q:Addr) (w:World):
  CallsD Tryz.prog 44 #[.pointer (some p),.pointer (some q)] .returning w λe u' w'=>e=.returned (.tuple #[])∧u'=.returning∧w'=w:=by
 refine callsD_of_wpS Tryz.func44 rfl λc₀ cs hu=>?_;apply wpS_seq;apply wpS_region;simp[wpOpsS,go_sem,recoverD,hu,Tryz.ntmps44,Exit.thenS];refine(Fu w).mono ?_;rintro e w' ⟨rfl,rfl⟩;simp[go_sem];apply wpS_seq;apply wpS_region;simp[wpOpsS,go_sem,Array.replicate,Act.eval,Exit.thenS];refine wpS_cond (t:=false) (by simp[Act.eval,Array.replicate]) ?_;simp only[zab,if_false];refine wpS_of_wp (wp_skip ?_);cases c₀;simp_all[bodyPostS,results,Tryz.results44]
structure Js (w:World) (sp d B P q:Nat) (C:Nat→Bytes) (cl yo:Bool) (s:JS) (C0:Nat→Bytes) (F:Nat→Prop):Prop where
 p9:lW w sp d s C0 cl F
 is:s.B=B∧s.P=P∧s.seq=q∧(yo=true→yB s)
 con:(∀i,i<B→C0 i=C i)∧∀i,B≤i→C i=[]
def nH:Op:=λ_=>none
def Lg (w:World) (fb d B P:Nat) (yo:Bool) (PE:(Nat→Bytes)→Nat→Bool→Prop) (F:Nat→Prop) (w':World):Prop:=w.heap.size≤fb∧∃C' q' cl' F',PE C' q' cl'∧fI w' fb d B P q' 0 C' cl' yo nH F'∧Step F w F' w'
section
variable {w:World} {d B P q:Nat} {C:Nat→Bytes} {cl yo:Bool} {F:Nat→Prop}
theorem Js.fst {sp m fb:Nat} {s:JS} {C0:Nat→Bytes} {Fs:Nat→Prop} (h:Js w sp d B P q C cl yo s C0 Fs) (h5:∀k,Fs k→5≤k) (hG:Glob w) (hm:bF w m 0 (λ_=>none)) (hf:ah w fb 106 [.pointer (some ⟨sp,0,none⟩),.map (some m)]) (nf:¬Fs fb) (nm:¬Fs m) (f5:5≤fb) (m5:5≤m):
  fI w fb d B P q 0 C cl yo nH (uE Fs fb m):=⟨sp,m,s,C0,Fs,⟨hf,hm,h.p9,h.is,h.con,nf,nm,ql _,hG,h5,f5,m5⟩,rfl⟩
theorem FC {fn1 fn2:Nat} {caps:Array Value} {PE:(Nat→Bytes)→Nat→Bool→Prop} (jL:∀k,F k→k<w.heap.size) (OM:∀k,F k→5≤k) (hG:Glob w) (aGt:∀args w,(callFunc fn1 args).run Tryz.prog w=.ok (.enter fn1 args) w) (aGu:∀args w,(callFunc fn2 args).run Tryz.prog w=.ok (.enter fn2 args) w)
  (agU:∀w1,Below w.heap.size w w1→Calls Tryz.prog fn1 caps w1 λe w'=>∃sp F' s C0,e=.returned (.tuple #[.pointer (some ⟨sp,0,none⟩),.int .i64 0])∧Js w' sp d B P q C cl yo s C0 F'∧Step F w1 F' w')
  (agV:∀w3 fb F3,fI w3 fb d B P q 0 C cl yo nH F3→Calls Tryz.prog fn2 #[.pointer (some ⟨fb,0,none⟩)] w3 λe w'=>(∃x,e=.returned x)∧∃C' q' cl' F',PE C' q' cl'∧fI w' fb d B P q' 0 C' cl' yo nH F'∧Step F3 w3 F' w'):
  Calls Tryz.prog 26 #[.pointer (some ⟨d,0,none⟩),.func (.func fn1) #[] caps,.func (.func fn2) #[] #[]] w λe w'=>∃fb,e=.returned (.tuple #[.pointer (some ⟨fb,0,none⟩),.int .i64 0])∧Lg w fb d B P yo PE F w':=by
 have fC:∀w:World,(Instr.makeMap 104 none).run Tryz.prog w=.ok (.map (some w.heap.size)) (w.alloc (.map #[] 0)):=λw=>by simp[Instr.makeMap,run_underlying Tryz.underlying104,asInt,asIntOf,Result.andThen,go_sem]
 have hmf:∀(fn:Fn) (first cap:Array Value) (w:World),(Instr.makeFunc fn first cap).run Tryz.prog w=.ok (.func fn first cap) w:=λ_ _ _ _=>rfl;obtain⟨w1,aP⟩:∃w1,(w.alloc (.cells #[.pointer none] 52)).alloc (.cells #[.int .i64 0] 26)=w1:=⟨_,rfl⟩
 obtain⟨aM,aF,hz1⟩:=boxes [([.pointer none],52),([.int .i64 0],26)] w w1 (by rw[←aP];rfl);have x0:ah w1 w.heap.size 52 [.pointer none]:=aM 0 _ rfl;have x1:ah w1 (w.heap.size+1) 26 [.int .i64 0]:=aM 1 _ rfl;have vR:w1.heap.size=w.heap.size+2:=by simpa using hz1
 have jD:=U aF;have X0:=U x0;have X1:=U x1;have wT:=U aP;have HO:=U agU;have HN:=U agV;have Hmk:=U fC;have HG:=U hG;have G8:=U jL;have Cu:=U OM;clear agU agV aP aM aF hz1 x0 x1 fC hG jL OM;go_enter_defers Tryz.func26,Tryz.ntmps26;go_wp2_with fail;rw[wT.o];refine(HO.o w1 jD.o).mono ?_;rintro e w2 ⟨sp,F2,s,C0,rfl,h2,nJ⟩;have AO:¬F w.heap.size:=λhf=>by have:=G8.o _ hf;omega
 have nM:¬F (w.heap.size+1):=λhf=>by have:=G8.o _ hf;omega
 have y0:=X0.o.step nJ AO;have y1:=X1.o.step nJ nM;have a0:=nJ.apart X0.o.lt AO;have a1:=nJ.apart X1.o.lt nM;have g1:=y1.free 0;have k1:=y1.cell 0;simp only[zf] at k1;have hz2:=nJ.size;have H2:=U (And.intro h2 (And.intro ((Step.of_below jD.o F).trans nJ) (And.intro y0 y1)));clear h2 nJ y0 y1;go_wp2_with fail;obtain⟨w3,gV⟩:∃w3,w2.setCell ⟨w.heap.size+1,0,none⟩ (.int .i64 0)=w3:=⟨_,rfl⟩
 have y1:ah w3 (w.heap.size+1) 26 [.int .i64 0]:=by rw[←gV];exact H2.o.2.2.2.aB 0 (.int .i64 0)
 have s3:Step (· =w.heap.size+1) w2 (· =w.heap.size+1) w3:=by rw[←gV];exact Step.set1 (H2.o.2.2.2.aV dQ) _ _
 have y0:=H2.o.2.2.1.step s3 oQ;rw[gV];have k1':=y1.cell 0;have hG3:=HG.o.step ((H2.o.2.1).inner s3 (λk hk=>.inr oQ)) Cu.o;have mF:=s3.size;have H3:=U (And.intro y0 y1);have ao8:=H2.o.1.p9.step s3 (λk hk e=>a1 (e▸hk));have sU:=U (And.intro ao8 (H2.o.2.1.inner s3 (λk hk=>.inr oQ)));have HG3:=U hG3;simp only[zf] at k1';clear y0 y1 s3 ao8 hG3 k1 g1;go_wp2_with fail;refine(bY _).mono ?_;rintro e Df ⟨⟨x,rfl⟩,rfl⟩;have fC:=Hmk.o Df;obtain⟨w4,gH⟩:∃w4,Df.alloc (.map #[] 0)=w4:=⟨_,rfl⟩
 have dX:Below Df.heap.size Df w4:=by rw[←gH];exact(zn _ _).alloc (zm _) _
 have Ah:w4.heap.size=Df.heap.size+1:=by rw[←gH];simp
 have dI:bF w4 Df.heap.size 0 (λ_=>none):=by rw[←gH];exact bF.new Df
 rw[gH] at fC;obtain⟨w5,IY⟩:∃w5,w4.alloc (.cells #[.pointer (some ⟨sp,0,none⟩),.map (some Df.heap.size)] 106)=w5:=⟨_,rfl⟩
 have iJ:Below w4.heap.size w4 w5:=by rw[←IY];exact(zn _ _).alloc (zm _) _
 have BN:w5.heap.size=w4.heap.size+1:=by rw[←IY];simp
 have VI:ah w5 w4.heap.size 106 [.pointer (some ⟨sp,0,none⟩),.map (some Df.heap.size)]:=by rw[←IY];exact ah.new w4 _ _
 have Ov:=dX.trans (iJ.mono oQ);have y05:=H3.o.1.below Ov;have d0:=y05.free 0;have d1:=y05.cell 0;simp only[zf] at d1;have HW5:=U IY;have HY5:=U (And.intro y05 (H3.o.2.below Ov));have ao9:=U (And.intro VI (dI.below iJ));have ajq:=U Ov;clear gH dI VI dX iJ Ov y05;go_wp2_with fail;obtain⟨w6,yC⟩:∃w6,w5.setCell ⟨w.heap.size,0,none⟩ (.pointer (some ⟨Df.heap.size+1,0,none⟩))=w6:=⟨_,rfl⟩
 have y06:ah w6 w.heap.size 52 [.pointer (some ⟨Df.heap.size+1,0,none⟩)]:=by rw[←yC];exact HY5.o.1.aB 0 _
 have s6:Step (· =w.heap.size) w5 (· =w.heap.size) w6:=by rw[←yC];exact Step.set1 (HY5.o.1.aV dQ) _ _
 have y16:=HY5.o.2.step s6 oQ;have s36:=(Step.of_below ajq.o (· =w.heap.size)).trans s6;have ao_:∀k,F2 k→k<Df.heap.size:=λk hk=>zx (H2.o.1.p9.lt k hk) mF;have avM:∀k,F2 k→5≤k:=λk hk=>by
  rcases H2.o.2.1.new k hk with h|h
  ·exact Cu.o k h
  ·have:=HG.o.size
   omega
 have hgs:=HG.o.size;have apb:fI w6 (Df.heap.size+1) d B P q 0 C cl yo nH (uE F2 (Df.heap.size+1) Df.heap.size):=Js.fst ⟨sU.o.1.step s36 (λk hk e=>a0 (e▸hk)),H2.o.1.is,H2.o.1.con⟩ avM (HG3.o.step s36 (λk hk=>oQ)) (ao9.o.2.step s6 oQ) (by have:=ao9.o.1.step s6 oQ;rw[Ah] at this;exact this) (λhf=>by have:=ao_ _ hf;omega) (λhf=>by have:=ao_ _ hf;omega) oQ oQ;have apc:¬uE F2 (Df.heap.size+1) Df.heap.size w.heap.size:=λhf=>by
  rcases hf with hf|hf|hf
  ·exact a0 hf
  ·omega
  ·omega
 have Fg:¬uE F2 (Df.heap.size+1) Df.heap.size (w.heap.size+1):=λhf=>by
  rcases hf with hf|hf|hf
  ·exact a1 hf
  ·omega
  ·omega
 have apd:Step F w (uE F2 (Df.heap.size+1) Df.heap.size) w6:=((sU.o.2.trans (Step.of_below ajq.o F2)).inner s6 (λk hk=>.inr oQ)).to (λk hk=>by
  rcases hk with hk|hk|hk
  ·exact H2.o.2.1.new k hk
  ·exact .inr oQ
  ·exact .inr oQ)
 have g6:=y06.cell 0;simp only[zf] at g6;have H6:=U (And.intro apb (And.intro apd (And.intro y06 y16)));rw[yC];clear apb apd y06 y16 yC IY s6 s36 d0 d1 k1';go_wp2_with fail;refine(HN.o w6 _ _ H6.o.1).mono ?_;rintro e w7 ⟨⟨x,rfl⟩,C',q',cl',F7,Wn,h7,Na⟩;have AP:=H6.o.2.2.1.lt;have hl1:=H6.o.2.2.2.lt;have y07:=H6.o.2.2.1.step Na apc;have y17:=H6.o.2.2.2.step Na Fg;have e0:=y07.cell 0;have e1:=y17.cell 0;have f0:=y07.free 0;have f1:=y17.free 0;have n07:=Na.apart AP apc;have n17:=Na.apart hl1 Fg;have l6:=H6.o.2.1.trans Na;have H7:=U (And.intro Wn (And.intro h7 (And.intro l6 (And.intro y07 y17))));simp only[zf] at e0 e1;clear Wn h7 l6 y07 y17 Na;go_wp2_with fail;obtain⟨w8,sZ⟩:∃w8,w7.setCell ⟨w.heap.size,0,none⟩ (.pointer (some ⟨Df.heap.size+1,0,none⟩))=w8:=⟨_,rfl⟩
 obtain⟨w9,CY⟩:∃w9,w8.setCell ⟨w.heap.size+1,0,none⟩ (.int .i64 0)=w9:=⟨_,rfl⟩
 obtain⟨p1,p2,p3,p4,p5⟩:=H7.o;have s8:Step (· =w.heap.size) w7 (· =w.heap.size) w8:=by rw[←sZ];exact Step.set1 (p4.aV dQ) _ _
 have y8:ah w8 w.heap.size 52 [.pointer (some ⟨Df.heap.size+1,0,none⟩)]:=by rw[←sZ];exact p4.aB 0 _
 have z8:=p5.step s8 oQ;have s9:Step (· =w.heap.size+1) w8 (· =w.heap.size+1) w9:=by rw[←CY];exact Step.set1 (z8.aV dQ) _ _
 have z9:ah w9 (w.heap.size+1) 26 [.int .i64 0]:=by rw[←CY];exact z8.aB 0 _
 have y9:=y8.step s9 oQ;rw[sZ,CY];have m0:=y9.cell 0;have m1:=z9.cell 0;simp only[zf] at m0 m1;refine leaves_cons (f:=44) (args:=#[.pointer (some ⟨w.heap.size,0,none⟩),.pointer (some ⟨w.heap.size+1,0,none⟩)]) sQ (by simp[go_sem]) ?_;refine(ae5 _ _ _).mono ?_;rintro e u' Af ⟨rfl,rfl,rfl⟩;simp[Leaves,settle,results,Tryz.results26,go_sem,m0,m1];have hf9:=(p2.step s8 (λk hk e=>n07 (e▸hk)) (λk hk=>oQ)).step s9 (λk hk e=>n17 (e▸hk)) (λk hk=>oQ);exact⟨oQ,C',q',cl',F7,p1,hf9,(p3.inner s8 (λk hk=>.inr oQ)).inner s9 (λk hk=>.inr oQ)⟩
end
section
variable {v w:World} {fb sp d B P q b n p:Nat} {C E:Nat→Bytes} {cl yo:Bool} {F:Nat→Prop}
theorem abK (hB:4≤B∧B≤3840) (hV:Base v sp d B C) (h:cB v w b sp d C (zeroE B) 0 F):
  Calls Tryz.prog 33 #[.agg #[.pointer (some ⟨b,0,none⟩),.int .i64 B]] w λe w'=>e=.returned (.int .i64 0)∧∃F',cB v w' b sp d C (nE B) 4 F'∧Mv d v F w F' w':=by
 obtain⟨w1,aP⟩:∃w1,w.alloc (.cells #[.pointer (some ⟨b,0,none⟩),.int .i64 B] 85)=w1:=⟨_,rfl⟩
 obtain⟨aM,aF,hz1⟩:=boxes [([.pointer (some ⟨b,0,none⟩),.int .i64 B],85)] w w1 (by rw[←aP];rfl);have x0:ah w1 w.heap.size 85 [.pointer (some ⟨b,0,none⟩),.int .i64 B]:=aM 0 _ rfl;have y0:=x0.cell 0;have y1:=x0.cell 1;simp only[zf,zi] at y0 y1;have H:=U h;have H1:=U (h.below aF);have HV:=U hV;have HB:=U aF;clear h hV aM aF hz1 x0;go_enter Tryz.func33,Tryz.ntmps33;go_wp2_with fail;refine(Da HV.o H1.o (fn:=63) (caps:=#[]) (λ_ _=>rfl) (PE:=λE'=>E'=nE B) (n':=3) (λw2 p b' G F1 hW hG fA=>?_)).mono ?_
 ·refine(OL hB HV.o hW).mono ?_
  rintro e w3 ⟨hx,F2,h1,h2⟩;exact⟨hx,_,F2,rfl,h1,h2⟩
 rintro e w2 ⟨rfl,E',F',rfl,h1,h2⟩;have HG:=U (And.intro h1 (Mv.after HB.o h2 H.o.quiet (λk hk=>(H.o.lt k hk).2)));clear h1 h2 aP y0 y1;go_wp2_with fail;go_ret;exact⟨rfl,F',HG.o.1,HG.o.2⟩
variable {w1:World}
theorem Lh (hB:4≤B∧B≤3840) (hj:jI v w d B (zeroE B) sp w1 p b):
  Calls Tryz.prog 32 (#[.pointer (some ⟨p,0,none⟩)]++#[]) w1 λe w2=>(∃x,e=.returned x)∧∃E' F2,(E'=nE B)∧cB v w2 b sp d (zeroE B) E' 4 F2∧Mv d v (λk=>k=b∨False) w1 (λk=>F2 k∨False) w2:=by
 have p0:=hj.view.cell 0;have p1:=hj.view.cell 1;simp only[zf,zi] at p0 p1;have HJ:=U hj;clear hj;go_enter Tryz.func32,Tryz.ntmps32;go_wp2_with fail;refine(abK hB HJ.o.base HJ.o.Bd).mono ?_;rintro e w2 ⟨rfl,F1,h1,eD⟩;have H1:=U (And.intro h1 eD);clear h1 eD p0 p1;go_wp2_with fail;refine(bY _).mono ?_;rintro e Gj ⟨⟨x,rfl⟩,rfl⟩;go_wp2_with fail;go_end0;exact⟨⟨_,rfl⟩,_,F1,rfl,H1.o.1,by simpa using H1.o.2⟩
theorem OO (hB:4≤B∧B≤3840) (h:fI v fb d B P 0 0 (zeroE B) cl yo nH F):
  Calls Tryz.prog 29 #[.pointer (some ⟨fb,0,none⟩)] v λe w'=>(∃x,e=.returned x)∧∃C' q' cl' F',(C'=nE B∧q'≤1∧cl'=true)∧fI w' fb d B P q' 0 C' cl' yo nH F'∧Step F v F' w':=by
 have HF:=U h;clear h;go_enter Tryz.func29,Tryz.ntmps29;go_wp2_with fail;refine(jJ HF.o hB (zn _ _) oQ (n':=4) oQ (fn:=32) (caps:=#[]) (λ_ _=>rfl) (X:=λ_=>False) (λk h=>h.elim) (PE:=λE' W=>E'=nE B) (λE' W h=>by rw[h];exact(yY hB).o) (λsp w2 p b hj=>?_)).mono ?_
 ·exact Lh hB hj
 rintro e w3 ⟨rfl,E',w2,rfl,hD⟩;obtain⟨q',cl',F',hS,bT,GZ, -, -⟩:=hD.ex;have HS:=U (And.intro hS bT);clear hS bT hD;go_wp2_with fail;refine(bY _).mono ?_;rintro e Df ⟨⟨x,rfl⟩,rfl⟩;go_wp2_with fail;refine(Bl HS.o.1 hB oQ).mono ?_;rintro e w4 ⟨rfl,F4,h4,iI⟩;have JM:=U (And.intro h4 (HS.o.2.trans iI));clear h4 iI;go_wp2_with fail;refine(bY _).mono ?_;rintro e w4' ⟨⟨x,rfl⟩,rfl⟩;go_wp2_with fail;go_end0;exact⟨⟨_,rfl⟩,_,q',true,F4,⟨rfl,oQ,rfl⟩,JM.o⟩
theorem OP {t1 t2:Nat} (hD:Dev w d (P+1) (λ_=>zeros 512) [] false F) (hg:Geo B P) (hG:Glob w) (OM:∀k,F k→5≤k) (x1:ah w t1 49 [.pointer (some ⟨d,0,none⟩)]) (x2:ah w t2 3 [.int .i64 B]):
  Calls Tryz.prog 27 #[.pointer (some ⟨t1,0,none⟩),.pointer (some ⟨t2,0,none⟩)] w λe w'=>∃sp F' s C0,e=.returned (.tuple #[.pointer (some ⟨sp,0,none⟩),.int .i64 0])∧Js w' sp d B P 0 (zeroE B) true true s C0 F'∧Step F w F' w':=by
 have c1:=x1.cell 0;have c2:=x2.cell 0;simp only[zf] at c1 c2;have HD:=U hD;have HG:=U hG;have Cu:=U OM;have Hg:=U hg;clear hD hG OM hg x1 x2;go_enter Tryz.func27,Tryz.ntmps27;go_wp2_with fail;refine(Np HD.o Hg.o HG.o.crc (λh=>by have:=Cu.o _ h;revert this;decide)).mono ?_;rintro e w2 ⟨sp,F',rfl,h2,nJ⟩;have H2:=U (And.intro h2 nJ);clear h2 nJ c1 c2;go_wp2_with fail;go_ret2;exact⟨sp,F',Gd B P,λ_=>zeros 480,rfl,⟨H2.o.1,⟨rfl,rfl,rfl,λ_=>Vz B P⟩,⟨λi hi=>(if_pos hi).symm,λi hi=>if_neg oQ⟩⟩,H2.o.2⟩
theorem OQ (hD:Dev w d (P+1) (λ_=>zeros 512) [] false F) (hB:4≤B∧B≤3840) (hg:Geo B P) (hG:Glob w) (OM:∀k,F k→5≤k):
  Calls Tryz.prog 14 #[.pointer (some ⟨d,0,none⟩),.int .i64 B] w λe w'=>∃fb,e=.returned (.tuple #[.pointer (some ⟨fb,0,none⟩),.int .i64 0])∧Lg w fb d B P true (λC' q' cl'=>C'=nE B∧q'≤1∧cl'=true) F w':=by
 obtain⟨w1,aP⟩:∃w1,(w.alloc (.cells #[.pointer (some ⟨d,0,none⟩)] 49)).alloc (.cells #[.int .i64 B] 3)=w1:=⟨_,rfl⟩
 obtain⟨aM,aF,hz1⟩:=boxes [([.pointer (some ⟨d,0,none⟩)],49),([.int .i64 B],3)] w w1 (by rw[←aP];rfl);have x0:ah w1 w.heap.size 49 [.pointer (some ⟨d,0,none⟩)]:=aM 0 _ rfl;have x1:ah w1 (w.heap.size+1) 3 [.int .i64 B]:=aM 1 _ rfl;have y0:=x0.cell 0;simp only[zf] at y0;have hmf:∀(fn:Fn) (first cap:Array Value) (w:World),(Instr.makeFunc fn first cap).run Tryz.prog w=.ok (.func fn first cap) w:=λ_ _ _ _=>rfl;have jL:∀k,F k→k<w.heap.size:=by
  obtain⟨sb,ss,vw,xs,tb,cr,cw,cf,h⟩:=hD;exact h.lt
 have HD:=U hD;have HG:=U hG;have Cu:=U OM;have Hg:=U hg;have HB:=U aF;have X0:=U x0;have X1:=U x1;have wT:=U aP;have G8:=U jL;have hz:=aF.size;clear hD hG OM hg x0 x1 aM aF hz1 aP jL;go_enter Tryz.func14,Tryz.ntmps14;go_wp2_with fail;rw[wT.o];refine(FC (fn1:=27) (fn2:=29) (F:=F) (B:=B) (P:=P) (q:=0) (C:=zeroE B) (cl:=true) (yo:=true) (PE:=λC' q' cl'=>C'=nE B∧q'≤1∧cl'=true) (λk hk=>zx (G8.o k hk) hz) Cu.o (HG.o.below HB.o) (λ_ _=>rfl) (λ_ _=>rfl) (λw2 aJ=>?_) (λw3 fb F3 h3=>OO hB h3)).mono ?_
 ·exact OP (HD.o.step ((Step.of_below HB.o (λ_=>False)).trans (Step.of_below aJ (λ_=>False))) (λ_ _ h=>h)) Hg.o (HG.o.below (HB.o.trans (aJ.mono hz))) Cu.o (X0.o.below aJ) (X1.o.below aJ)
 rintro e w4 ⟨fb,rfl,hS⟩;have HS:=U hS;clear hS y0;go_wp2_with fail;go_ret2;obtain⟨h1,C',q',cl',F',h2,h3,h4⟩:=HS.o;exact⟨fb,rfl,zC hz h1,C',q',cl',F',h2,h3,(Step.of_below HB.o F).trans h4⟩
end
end
end Go.Proofs.YtdjdpeadohobmaaGreatDoor
