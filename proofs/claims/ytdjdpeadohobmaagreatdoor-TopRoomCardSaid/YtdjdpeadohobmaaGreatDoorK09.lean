/- A part of the walk below the law: what is proved here is used by later parts; no further condition. -/
import Derived.Defers
import Derived.RangeFuncNested
import Derived.Recover
import Derived.Test.YtdjdpeadohobmaaGreatDoorK02
import Derived.Test.YtdjdpeadohobmaaGreatDoorK08
set_option linter.unusedVariables false
set_option linter.unusedSimpArgs false
set_option maxRecDepth 100000
set_option maxHeartbeats 20000000
namespace Go.Proofs.YtdjdpeadohobmaaGreatDoor
section
open Go.RowKit O
theorem Y_ (q:Nat):Value.int .u8 ((q:Int)%256)=aH (UInt8.ofNat q):=by
 unfold aH n8;rw[zaK];congr 1
def lF (e s q f:Nat) (i c d:Int):List Value:=[.int .u32 (e:Int),.int .u64 (s:Int),.int .u64 (q:Int),.int .u64 (f:Int),.int .i64 i,.int .i64 c,.int .i64 d]
theorem Za (e s q f:Nat) (i c d:Int):∀v∈lF e s q f i c d,v.oneCell'=true:=by
 intro v hv;unfold lF at hv;simp only[zH,zO,or_false] at hv;rcases hv with rfl|rfl|rfl|rfl|rfl|rfl|rfl<;>rfl
theorem mY:(Tryz.prog.info? 241).map (·.size)=some 7:=kQ
def fsz (k:Nat):Nat:=[4,4,6,6,6,1,1,2,2].getD k 0
def D9 (e s q f i c d:Nat) (k:Nat):Nat:=[1465012808,e,q,f,s,i,c,d,0].getD k 0
def pre (e s q f i c d:Nat):Nat→List UInt8
 |0=>[]
 |k+1=>pre e s q f i c d k++le (fsz k) (D9 e s q f i c d k)
def tZ (k:Nat):Nat:=[0,4,8,14,20,26,27,28,30,32].getD k 0
theorem D_ (e s q f i c d:Nat):∀k,k≤9→(pre e s q f i c d k).length=tZ k
 |0,_=>rfl
 |k+1,h=>by
  rw[pre,zw,aA,D_ e s q f i c d k oQ]
  match k,h with
  |0,_=>rfl
  |1,_=>rfl
  |2,_=>rfl
  |3,_=>rfl
  |4,_=>rfl
  |5,_=>rfl
  |6,_=>rfl
  |7,_=>rfl
  |8,_=>rfl
theorem adx (e s q f i c d:Nat):pre e s q f i c d 9=head e s q f i c d:=by
 simp[pre,head,fsz,D9]
theorem sJ.kept {w w':World} {g p0 p2 p3 p4 p5 p6 p7 p8:Nat} (h:sJ w p0 p2 p3 p4 p5 p6 p7 p8) (hk:Kept g w w') (hn:g≠p0∧g≠p2∧g≠p3∧g≠p4∧g≠p5∧g≠p6∧g≠p7∧g≠p8):sJ w' p0 p2 p3 p4 p5 p6 p7 p8:=by
 obtain⟨n0,n2,n3,n4,n5,n6,n7,n8⟩:=hn;exact⟨(hk.fP (zq w _ h.c0) n0.symm).trans h.c0,(hk.fP (zq w _ h.c2) n2.symm).trans h.c2,(hk.fP (zq w _ h.c3) n3.symm).trans h.c3,(hk.fP (zq w _ h.c4) n4.symm).trans h.c4,(hk.fP (zq w _ h.c5) n5.symm).trans h.c5,(hk.fP (zq w _ h.c6) n6.symm).trans h.c6,(hk.fP (zq w _ h.c7) n7.symm).trans h.c7,(hk.fP (zq w _ h.c8) n8.symm).trans h.c8⟩
theorem t_ {w:World} {g p:Nat} {T:TypeId} {N:Nat} {v:Value} (hg:ah w g T (List.replicate N (.int .u8 0))) (hc:w.cell? ⟨p,0,none⟩=some v) (hv:v≠.int .u8 0):g≠p:=by
 rintro rfl;rw[hg.cell 0] at hc;exact hv (List.eq_of_mem_replicate (zaq hc))
theorem aht {w:World} {g p0 p2 p3 p4 p5 p6 p7 p8:Nat} {T:TypeId} {N:Nat} (h:sJ w p0 p2 p3 p4 p5 p6 p7 p8) (hg:ah w g T (List.replicate N (.int .u8 0))):g≠p0∧g≠p2∧g≠p3∧g≠p4∧g≠p5∧g≠p6∧g≠p7∧g≠p8:=
 ⟨t_ hg h.c0 (by intro h;cases h),t_ hg h.c2 (by intro h;cases h),t_ hg h.c3 (by intro h;cases h),t_ hg h.c4 (by intro h;cases h),t_ hg h.c5 (by intro h;cases h),t_ hg h.c6 (by intro h;cases h),t_ hg h.c7 (by intro h;cases h),t_ hg h.c8 (by intro h;cases h)⟩
theorem ay.SY {w w':World} {g:Nat} {a:Option Addr} {l:List UInt8} (h:ay w a l) (hk:Kept g w w') (hg:∀b off,a=some ⟨b,off,none⟩→b≠g):ay w' a l:=by
 obtain⟨b,off,h1,h2⟩:=h;refine⟨b,off,h1,λi hi=>?_⟩;have h3:=h2 i hi;have dV:l≠[]:=by rintro rfl;simp at hi
 rw[←h3];exact zS (hk.block b (zq w _ h3) (hg b off (h1 dV)))
theorem ay.low {w:World} {a:Option Addr} {l:List UInt8} (h:ay w a l) (dV:l≠[]):∀b off,a=some ⟨b,off,none⟩→b<w.heap.size:=by
 intro b off e;obtain⟨b',off',h1,h2⟩:=h;have:=(h1 dV).symm.trans e;injection this with this;injection this with this _ _;subst this;exact zq w _ (h2 0 (List.length_pos_iff.2 dV))
def upd (x:Nat):Nat→List Value→List Value
 |1,vs=>vs.set 0 (.int .u32 (x:Int))
 |2,vs=>vs.set 2 (.int .u64 (x:Int))
 |3,vs=>vs.set 3 (.int .u64 (x:Int))
 |4,vs=>vs.set 1 (.int .u64 (x:Int))
 |5,vs=>vs.set 4 (.int .i64 (x:Int))
 |6,vs=>vs.set 5 (.int .i64 (x:Int))
 |7,vs=>vs.set 6 (.int .i64 (x:Int))
 |_,vs=>vs
theorem PZ {sf b n:Nat} {args:Array Value} {W:World} {T:TypeId} {vs:List Value} {v:Value} (h:Calls Tryz.prog sf args W λy w'=>(∃v,y=.returned v)∧w'=W.setCell ⟨b,n,none⟩ v) (hT:ah W b T vs):Calls Tryz.prog sf args W λy w'=>(∃v,y=.returned v)∧ah w' b T (vs.set n v)∧Kept b W w':=
 h.mono λy w' h=>⟨h.1,by rw[h.2];exact⟨hT.aB n v,Kept.setCell _ _ _⟩⟩
theorem Mw (j:Nat) (hj:j<9):fsz j≤6∧tZ j+fsz j≤32∧tZ (j+1)=tZ j+fsz j:=by
 rcases(show j=0∨j=1∨j=2∨j=3∨j=4∨j=5∨j=6∨j=7∨j=8 by omega) with rfl|rfl|rfl|rfl|rfl|rfl|rfl|rfl|rfl<;>decide
theorem Mx {p0 p2 p3 p4 p5 p6 p7 p8:Nat} {F:Array Value} (hF:F=(lY p0 p2 p3 p4 p5 p6 p7 p8).toArray) (j:Nat) (hj:j<9):∃(gf sf:Nat) (gc sc:Array Value),JZ gf∧JZ sf∧(∀W,(Instr.index 336 (.agg F) (.int .i64 (j:Int))).run Tryz.prog W=.ok (.agg #[.int .i64 (fsz j:Int),.func (.func gf) #[] gc,.func (.func sf) #[] sc]) W)∧
  (∀(e s q f i c d:Nat) W,e<4294967296→i<9223372036854775808→c<9223372036854775808→d<9223372036854775808→sJ W p0 p2 p3 p4 p5 p6 p7 p8→Calls Tryz.prog gf (#[.agg (tagV e s q f i c d)]++gc) W λy w'=>y=.returned (.int .u64 (D9 e s q f i c d j:Int))∧Below W.heap.size W w')∧
  (∀(b x:Nat) (T:TypeId) (vs:List Value) W,ah W b T vs→vs.length=7→x<256^fsz j→sJ W p0 p2 p3 p4 p5 p6 p7 p8→Calls Tryz.prog sf (#[.pointer (some ⟨b,0,none⟩),.int .u64 (x:Int)]++sc) W λy w'=>(∃v,y=.returned v)∧ah w' b T (upd x j vs)∧Kept b W w'):=by
 subst hF;rcases(show j=0∨j=1∨j=2∨j=3∨j=4∨j=5∨j=6∨j=7∨j=8 by omega) with rfl|rfl|rfl|rfl|rfl|rfl|rfl|rfl|rfl
 ·exact⟨345,346,#[.pointer (some ⟨p0,0,none⟩)],#[],λ_ _=>rfl,λ_ _=>rfl,λW=>kQ,λe s q f i c d W he hi hc hd hX=>Ms _ _ _ _ _ _ _ p0 1465012808 _ hX.c0,λb x T vs W hT hl hx hX=>(Mt _ x _).mono λy w' h=>⟨h.1,by rw[h.2];exact⟨hT,Kept.refl _ _⟩⟩⟩
 ·exact⟨308,309,#[],#[],λ_ _=>rfl,λ_ _=>rfl,λW=>kQ,λe s q f i c d W he hi hc hd hX=>Y8 _ _ _ _ _ _ _ he _,λb x T vs W hT hl hx hX=>PZ (Y9 b x W T vs hT hl hx) hT⟩
 ·exact⟨347,348,#[.pointer (some ⟨p2,0,none⟩)],#[.pointer (some ⟨p2,0,none⟩)],λ_ _=>rfl,λ_ _=>rfl,λW=>kQ,λe s q f i c d W he hi hc hd hX=>DY _ _ _ _ _ _ _ hi hc hd 2 311 _ (by simp[D9]) p2 _ hX.c2,λb x T vs W hT hl hx hX=>PZ (D5 2 311 sQ b x p2 W T vs hT hl (zx hx dQ) hX.c2) hT⟩
 ·exact⟨347,348,#[.pointer (some ⟨p3,0,none⟩)],#[.pointer (some ⟨p3,0,none⟩)],λ_ _=>rfl,λ_ _=>rfl,λW=>kQ,λe s q f i c d W he hi hc hd hX=>DY _ _ _ _ _ _ _ hi hc hd 3 312 _ (by simp[D9]) p3 _ hX.c3,λb x T vs W hT hl hx hX=>PZ (D5 3 312 sQ b x p3 W T vs hT hl (zx hx dQ) hX.c3) hT⟩
 ·exact⟨347,348,#[.pointer (some ⟨p4,0,none⟩)],#[.pointer (some ⟨p4,0,none⟩)],λ_ _=>rfl,λ_ _=>rfl,λW=>kQ,λe s q f i c d W he hi hc hd hX=>DY _ _ _ _ _ _ _ hi hc hd 1 313 _ (by simp[D9]) p4 _ hX.c4,λb x T vs W hT hl hx hX=>PZ (D5 1 313 sQ b x p4 W T vs hT hl (zx hx dQ) hX.c4) hT⟩
 ·exact⟨349,350,#[.pointer (some ⟨p5,0,none⟩)],#[.pointer (some ⟨p5,0,none⟩)],λ_ _=>rfl,λ_ _=>rfl,λW=>kQ,λe s q f i c d W he hi hc hd hX=>DZ _ _ _ _ _ _ _ hi hc hd 4 315 _ (by simp[D9]) p5 _ hX.c5,λb x T vs W hT hl hx hX=>PZ (D6 4 315 sQ b x p5 W T vs hT hl (zx hx dQ) hX.c5) hT⟩
 ·exact⟨349,350,#[.pointer (some ⟨p6,0,none⟩)],#[.pointer (some ⟨p6,0,none⟩)],λ_ _=>rfl,λ_ _=>rfl,λW=>kQ,λe s q f i c d W he hi hc hd hX=>DZ _ _ _ _ _ _ _ hi hc hd 5 316 _ (by simp[D9]) p6 _ hX.c6,λb x T vs W hT hl hx hX=>PZ (D6 5 316 sQ b x p6 W T vs hT hl (zx hx dQ) hX.c6) hT⟩
 ·exact⟨349,350,#[.pointer (some ⟨p7,0,none⟩)],#[.pointer (some ⟨p7,0,none⟩)],λ_ _=>rfl,λ_ _=>rfl,λW=>kQ,λe s q f i c d W he hi hc hd hX=>DZ _ _ _ _ _ _ _ hi hc hd 6 317 _ (by simp[D9]) p7 _ hX.c7,λb x T vs W hT hl hx hX=>PZ (D6 6 317 sQ b x p7 W T vs hT hl (zx hx dQ) hX.c7) hT⟩
 ·exact⟨345,346,#[.pointer (some ⟨p8,0,none⟩)],#[],λ_ _=>rfl,λ_ _=>rfl,λW=>kQ,λe s q f i c d W he hi hc hd hX=>Ms _ _ _ _ _ _ _ p8 0 _ hX.c8,λb x T vs W hT hl hx hX=>(Mt _ x _).mono λy w' h=>⟨h.1,by rw[h.2];exact⟨hT,Kept.refl _ _⟩⟩⟩
theorem UH (e s q f:Nat) (i c d:Int) (n:Nat) (h:right e s q f i c d=false∨n≠480) (w:World) (a:Option Addr) (cc:Nat):
  Calls Tryz.prog 199 #[.agg (tagV e s q f i c d),.slice a n cc] w λx w'=>x=.returned (.tuple #[.slice none 0 0,.int .i64 1])∧Below w.heap.size w w':=by
 have HT:=U (ah.new w 241 (lF e s q f i c d));have HB:=U (iE w (.cells (lF e s q f i c d).toArray 241));obtain⟨T,hT⟩:∃T,T=tagV e s q f i c d:=⟨_,rfl⟩
 have e1:(lF e s q f i c d).toArray=T:=hT.symm;rw[←hT];have Hr:=U (show∀W,Calls Tryz.prog 263 #[.agg T] W λx w'=>x=.returned (.bool (right e s q f i c d))∧Below W.heap.size W w' from λW=>hT▸Iw e s q f i c d W);rw[e1] at HT HB;clear hT;go_enter Tryz.func199,Tryz.ntmps199;go_wp2_with (refine kF (.tmp 2) rfl w.heap.size rfl (lF e s q f i c d) _ HT.o Tryz.underlying241 rfl mY rQ ?_);refine(Hr.o _).mono ?_;rintro x w1 ⟨rfl,hB⟩;have jD:=U (HB.o.trans (hB.mono HB.o.size));clear hB;rcases hq:right e s q f i c d with _|_
 ·clear h hq
  go_wp2;go_ret2;exact⟨rfl,jD.o⟩
 ·have hn:((n:Int) !=480)=true:=by
   rcases h with h|h
   ·rw[h] at hq;cases hq
   ·simp;omega
  clear h hq;go_wp2;go_ret2;exact⟨rfl,jD.o⟩
theorem J3 {l:List UInt8} {n:Nat} (hl:l.length=n) {w:World} {a:Option Addr} {c:Nat} (hb:ay w a l):
  (convert 22 9 (.slice a n c)).run Tryz.prog w=.ok (.string ⟨l.toArray⟩) w:=
 tN Tryz.underlying22 Tryz.underlying5 Tryz.underlying9 l n hl w a c hb
theorem IB (x y:List UInt8) (n m:Nat) (hx:x.length=n) (hy:y.length=m) (w:World) (a a2:Option Addr) (c c2:Nat) (h1:ay w a x) (h2:ay w a2 y):
  Calls Tryz.prog 301 #[.slice a n c,.slice a2 m c2] w λv w'=>v=.returned (.bool (decide (x=y)))∧w=w':=by
 have Ad:=J3 (c:=c) hx h1;have nJ:=J3 (c:=c2) hy h2;clear hx hy h1 h2;go_enter Tryz.func301,Tryz.ntmps301;go_wp2;go_ret;exact⟨DV (by rw[q9];simp),rfl⟩
end
section
open Go.RowKit Go.Shelf O
attribute [local go_sem] Oper.semAt_some
theorem P5 (B S:Nat):∃r,j6 B S=iV++(le 4 B++(le 4 S++r))∧r.length=492:=by
 refine⟨List.replicate 492 0,?_,sQ⟩;unfold j6 field;rw[zy (by simp[iV,aA])];simp[iV,aA,zP]
theorem P6 (B S:Nat):∃r,eG B S=iV++(le 4 B++(le 4 S++r))∧r.length=496:=by
 obtain⟨r,h1,h2⟩:=P5 B S;refine⟨r++le 4 (M.sum (j6 B S)).toNat,?_,by rw[zw,h2,aA]⟩;rw[eG];generalize le 4 (M.sum (j6 B S)).toNat=t;rw[h1];simp[zP]
theorem rO (a b:List UInt8) (s:Bool) (k:Nat) (h:a.length=k):wO (a++b) k=a∧xH (a++b) k=b∧CQ (a++b) k s=s:=by
 subst h;simp[wO,xH,CQ]
theorem MB {B S:Nat} (h:Geo B S) (w:World) (hT:Md.bG w) {a:Option Addr} {c:Nat} (hb:ay w a (eG B S)) (hlc:512≤c):
  Calls Tryz.prog 252 #[.slice a 512 c] w λe w'=>e=.returned (Gu B S)∧Below w.heap.size w w':=by
 obtain⟨r,hr,hrl⟩:=P6 B S;have hnB:(num (le 4 B):Int)=B:=by rw[Au,zaz (by have:=h.b.2;omega)]
 have hnS:(num (le 4 S):Int)=S:=by rw[Au,zaz (by have:=h.s;omega)]
 have l1:=h.b.2;have l2:=h.s;have asg:(⟨iV.toArray⟩:ByteArray)=⟨#[72,65,82,82,79,87,32,49]⟩:=rfl;have H:=U h;have HT:=U hT;have HBy:=U hb;clear h hT hb;go_enter Tryz.func252,Tryz.ntmps252;go_wp2_with fail;obtain⟨w0,MC⟩:∃w0,w.alloc (.cells #[.int .i64 0,.int .i64 0] 109)=w0:=⟨_,rfl⟩
 have Pk:Below w.heap.size w w0:=by rw[←MC];exact(zn _ _).alloc (zm _) _
 have hv0:ah w0 w.heap.size 109 [.int .i64 0,.int .i64 0]:=by rw[←MC];exact ah.new _ _ _
 rw[MC];clear MC;refine(DK (eG B S) 512 (wP B S) _ a c oQ (HBy.o.below Pk)).mono ?_;rintro e w1 ⟨q,rfl,hq,hR,aF⟩;rw[hr] at hR;have iq:w.heap.size≤q:=zC Pk.size hq;have Uh:w.heap.size≠q:=by have:=hv0.lt;omega
 have HV1:=U (hv0.below aF);have HR:=U hR;have jD:=U (Pk.trans (aF.mono Pk.size));clear hR aF Pk hv0;go_wp2_with fail;refine(yc _).mono ?_;rintro e w2 ⟨⟨v,rfl⟩,rfl⟩;go_wp2_with fail;refine(Ir HR.o (by rw[zw,zw,zw,hrl,aA,aA];simp[iV]) iV (le 4 B++(le 4 S++r)) false 8 (rO _ _ false 8 rfl).1 (rO _ _ false 8 rfl).2.1 (rO _ _ false 8 rfl).2.2 rfl).mono ?_;rintro e w3 ⟨A3,c3,rfl,hO3,hR3,hK3⟩;have ash:=J3 (c:=c3) (n:=8) rfl hO3.row.bytes;have UJ:=U hR3;have iB:=U (jD.o.trans (hK3.below _ iq jD.o.size));have HV3:=U (HV1.o.kept hK3 Uh);clear hO3 hR3 hK3;go_wp2_with fail;refine(yc _).mono ?_;rintro e w4 ⟨⟨v2,rfl⟩,rfl⟩;clear ash;go_wp2_with fail;refine(jZ (z:=4) UJ.o B (le 4 S++r) false (by rw[show cl 4 8=4 from rfl,(rO _ _ false 4 (aA 4 B)).1];exact hnB) (rO _ _ false 4 (aA 4 B)).2.1 (rO _ _ false 4 (aA 4 B)).2.2).mono ?_;rintro e w5 ⟨rfl,hR5,hK5⟩;have HR5:=U hR5;have jR:=U (iB.o.trans (hK5.below _ iq iB.o.size));have HV5:=U (HV3.o.kept hK5 Uh);clear hR5 hK5;go_wp2_with fail;refine(jZ (z:=4) HR5.o S r false (by rw[show cl 4 8=4 from rfl,(rO _ _ false 4 (aA 4 S)).1];exact hnS) (rO _ _ false 4 (aA 4 S)).2.1 (rO _ _ false 4 (aA 4 S)).2.2).mono ?_;rintro e w6 ⟨rfl,hR6,hK6⟩;have lG:=U hR6;have sI:=U (jR.o.trans (hK6.below _ iq jR.o.size));have lT:=HV5.o.kept hK6 Uh;have HV6:=U lT;clear hR6 hK6 lT;go_wp2_with fail;obtain⟨w7,BD⟩:∃w7,w6.alloc (.cells #[.int .i64 B,.int .i64 S] 109)=w7:=⟨_,rfl⟩
 have tH:Below w6.heap.size w6 w7:=by rw[←BD];exact(zn _ _).alloc (zm _) _
 have hg7:ah w7 w6.heap.size 109 [.int .i64 B,.int .i64 S]:=by rw[←BD];exact ah.new _ _ _
 rw[BD];clear BD;have HR7:=U (lG.o.below tH);have XW:=U (HV6.o.below tH);have ME:=U (sI.o.trans (tH.mono sI.o.size));have HG7:=U hg7;have c0:=hg7.cell 0;have c1:=hg7.cell 1;simp only[zf,zi] at c0 c1;clear tH hg7;refine(YZ _ _ _ _ HR7.o).mono ?_;rintro e w8 ⟨rfl,rfl⟩;go_wp2_with fail;refine(rM H.o _).mono ?_;rintro e w9 ⟨rfl,jf⟩;have HV9:=U (XW.o.below jf);have UK:=U (ME.o.trans (jf.mono ME.o.size));have hg9:=HG7.o.below jf;have HG9:=U hg9;have d0:=hg9.cell 0;have d1:=hg9.cell 1;simp only[zf,zi] at d0 d1;clear jf hg9 c0 c1;go_wp2_with fail;refine(yc _).mono ?_;rintro e Af ⟨⟨v10,rfl⟩,rfl⟩;go_wp2_with fail;refine(DT H.o _ (HT.o.below UK.o)).mono ?_;rintro e vG ⟨A11,c11,rfl,al1,al2,P7⟩;have P8:=U (HV9.o.below P7);have UL:=U (UK.o.trans (P7.mono UK.o.size));have adz:=HG9.o.below P7;have e0:=adz.cell 0;have e1:=adz.cell 1;simp only[zf,zi] at e0 e1;have aso:=U al2;clear P7 adz d0 d1 al2;go_wp2_with fail;refine(IB _ _ 512 512 al1 al1 _ _ _ _ _ aso.o.row.bytes (HBy.o.below UL.o)).mono ?_;rintro e w12 ⟨rfl,rfl⟩;rw[decide_eq_true rfl];go_wp2_with fail;refine(yc _).mono ?_;rintro e S9 ⟨⟨v13,rfl⟩,rfl⟩;have f0:=P8.o.free 0;have f1:=P8.o.free 1;have r0:=P8.o.cell 0;have r1:=P8.o.cell 1;simp only[zf,zi] at r0 r1;go_wp2_with fail;have hb:ah ((vG.setCell ⟨w.heap.size,0,none⟩ (.int .i64 B)).setCell ⟨w.heap.size,1,none⟩ (.int .i64 S)) w.heap.size 109 [.int .i64 B,.int .i64 S]:=(P8.o.aB 0 (.int .i64 B)).aB 1 (.int .i64 S);have P9:Below w.heap.size w ((vG.setCell ⟨w.heap.size,0,none⟩ (.int .i64 B)).setCell ⟨w.heap.size,1,none⟩ (.int .i64 S)):=(UL.o.setCell (p:=⟨w.heap.size,0,none⟩) (zm _) _).setCell (p:=⟨w.heap.size,1,none⟩) (zm _) _;refine bodyPost_ret (v:=.agg #[.int .i64 B,.int .i64 S]) (dN (p:=2) (ty:=109) kQ rfl hb Tryz.underlying109 rfl kQ) rfl ?_;exact⟨rfl,P9⟩
theorem Zb (p q:Addr) (w:World):
  CallsD Tryz.prog 251 #[.pointer (some p),.pointer (some q)] .returning w λe u' w'=>e=.returned (.tuple #[])∧u'=.returning∧w'=w:=by
 refine callsD_of_wpS Tryz.func251 rfl λc₀ cs hu=>?_;apply wpS_seq;apply wpS_region;simp[wpOpsS,go_sem,recoverD,hu,Tryz.ntmps251,Exit.thenS];apply wpS_seq;apply wpS_region;simp[wpOpsS,go_sem,Array.replicate,Act.eval,Exit.thenS];refine wpS_cond (t:=false) (by simp[Act.eval,Array.replicate]) ?_;simp only[zab,if_false];refine wpS_of_wp (wp_skip ?_);cases c₀;simp_all[bodyPostS,results,Tryz.results251]
theorem P_ {B S:Nat} (h:Geo B S) (w:World) (hT:Md.bG w) {a:Option Addr} {c:Nat} (hb:ay w a (eG B S)) (hlc:512≤c):
  Calls Tryz.prog 178 #[.slice a 512 c] w λe w'=>e=.returned (.tuple #[Gu B S,.int .i64 0])∧Below w.heap.size w w':=by
 have hmf:∀(fn:Fn) (first cap:Array Value) (w:World),(Instr.makeFunc fn first cap).run Tryz.prog w=.ok (.func fn first cap) w:=λ_ _ _ _=>rfl;have H:=U h;have HT:=U hT;have HBy:=U hb;clear h hT hb;go_enter_defers Tryz.func178,Tryz.ntmps178;go_wp2_with fail;obtain⟨w1,aP⟩:∃w1,(w.alloc (.cells #[.int .i64 0,.int .i64 0] 109)).alloc (.cells #[.int .i64 0] 26)=w1:=⟨_,rfl⟩
 have aF:Below w.heap.size w w1:=by rw[←aP];exact((zn _ _).alloc (zm _) _).alloc sQ _
 have FZ:ah w1 w.heap.size 109 [.int .i64 0,.int .i64 0]:=by rw[←aP];exact(ah.new w _ _).below ((zn _ _).alloc (zm _) _)
 have he1:ah w1 (w.heap.size+1) 26 [.int .i64 0]:=by rw[←aP];exact ah.at sQ _ _
 rw[aP];clear aP;refine(MB H.o _ (HT.o.below aF) (HBy.o.below aF) hlc).mono ?_;rintro e w2 ⟨rfl,aJ⟩;have bH:=U (aF.trans (aJ.mono aF.size));have wQ:=FZ.below aJ;have he2:=he1.below aJ;have f0:=wQ.free 0;have f1:=wQ.free 1;have f2:=he2.free 0;have c0:=wQ.cell 0;have c1:=wQ.cell 1;have c2:=he2.cell 0;simp only[zf,zi] at c0 c1 c2;have HG2:=U wQ;have HE2:=U he2;clear aF aJ FZ he1 wQ he2;go_wp2_with fail;have hb:ah ((w2.setCell ⟨w.heap.size,0,none⟩ (.int .i64 B)).setCell ⟨w.heap.size,1,none⟩ (.int .i64 S)) w.heap.size 109 [.int .i64 B,.int .i64 S]:=(HG2.o.aB 0 (.int .i64 B)).aB 1 (.int .i64 S);have P9:Below w.heap.size w ((w2.setCell ⟨w.heap.size,0,none⟩ (.int .i64 B)).setCell ⟨w.heap.size,1,none⟩ (.int .i64 S)):=(bH.o.setCell (p:=⟨w.heap.size,0,none⟩) (zm _) _).setCell (p:=⟨w.heap.size,1,none⟩) (zm _) _;obtain⟨w3,gV⟩:∃w3,((w2.setCell ⟨w.heap.size,0,none⟩ (.int .i64 B)).setCell ⟨w.heap.size,1,none⟩ (.int .i64 S)).setCell ⟨w.heap.size+1,0,none⟩ (.int .i64 0)=w3:=⟨_,rfl⟩
 have vV:ah w3 w.heap.size 109 [.int .i64 B,.int .i64 S]:=by rw[←gV];exact(zI _ _ _ _ (by show w.heap.size≠w.heap.size+1;omega)).trans hb
 have he3:ah w3 (w.heap.size+1) 26 [.int .i64 0]:=by
  rw[←gV];refine ah.aB (vs:=[.int .i64 0]) ?_ 0 _;exact((zI _ _ _ _ (by show w.heap.size+1≠w.heap.size;omega)).trans ((zI _ _ _ _ (by show w.heap.size+1≠w.heap.size;omega)).trans HE2.o))
 have bf:Below w.heap.size w w3:=by rw[←gV];exact P9.setCell (p:=⟨w.heap.size+1,0,none⟩) (by show w.heap.size≤w.heap.size+1;omega) _
 rw[gV];clear gV hb P9;refine leaves_cons (f:=251) (args:=#[.pointer (some ⟨w.heap.size,0,none⟩),.pointer (some ⟨w.heap.size+1,0,none⟩)]) sQ (by simp[go_sem]) ?_;refine(Zb ⟨w.heap.size,0,none⟩ ⟨w.heap.size+1,0,none⟩ _).mono ?_;rintro e u' w'' ⟨rfl,rfl,rfl⟩;have d0:=vV.cell 0;have d1:=vV.cell 1;have d2:=he3.cell 0;simp only[zf,zi] at d0 d1 d2;simp[Leaves,settle,results,Tryz.results178,go_sem,d0,d1,d2];exact bf
end
section
open Go.RowKit
theorem J4 {β:Type} {G G':Nat→Prop} {W0:World}:OwnFrom W0.heap.size (λ(_:β) W=>Step G W0 G' W):=λ_ X Y row hs hg hr=>
 ⟨hg.os.trans hs.os,hg.tape.trans hs.tape,hg.output.trans hs.output,zC hs.size hg.size,λk hk jV=>(hg.block k (zx hk hs.size) (λe=>by
  have:=(hr k e.symm).1;omega)).trans (hs.keep k hk jV),hs.new⟩
theorem J5 {β:Type} (b:Nat) (T:TypeId) (f:β→List Value):Go.Own (λs W=>ah W b T (f s)):=λs X Y row hs hg aZ=>by
 refine(hg.block b hs.lt (λe=>?_)).trans hs;obtain⟨o,ho,hc⟩:=aZ b e.symm;have h2:X.heap[b]? =_:=hs;rw[h2] at ho;cases ho;cases hc
theorem S_ {β:Type} (f:β→Option Addr) (l:β→List UInt8):Go.Own (λs W=>cZ W (f s) (l s)):=λs X Y row hs hg aZ=>by
 rcases hs with h|⟨b,off,C,fr,ha,hb,hc⟩
 ·exact .inl h
 ·refine .inr ⟨b,off,C,fr,ha,?_,hc⟩
  refine(hg.block b (zo.1 hb).1 (λe=>?_)).trans hb;obtain⟨o,ho,hcell⟩:=aZ b e.symm;rw[hb] at ho;cases ho;cases hcell
theorem wR {β γ:Type} {B:Nat} {I:γ→β→World→Prop} (h:∀c,OwnFrom B (I c)):OwnFrom B (λs W=>∃c,I c s W):=λs X Y row hs hg hr=>by
 obtain⟨c,hc⟩:=hs;exact⟨c,h c s X Y row hc hg hr⟩
theorem BF {G:Nat→Prop} {W0 W:World} (h:Step G W0 G W) {D:Nat} (hD:W0.heap.size≤D) (o:Obj):Step G W0 G (W.putObj D o):=by
 have hg:=grownBy_putObj' W D o;exact⟨hg.os.trans h.os,hg.tape.trans h.tape,hg.output.trans h.output,zC h.size hg.size,λk hk jV=>(hg.block k (zx hk h.size) (λe=>by injection e with e;omega)).trans (h.keep k hk jV),h.new⟩
theorem Ea {W:World} {a:Option Addr} {l:List UInt8} (h:cZ W a l) {D:Nat} {o:Obj} (hD:W.heap[D]? =some o) (ho:o.isCells=false) (o':Obj):cZ (W.putObj D o') a l:=
 S_ (β:=Unit) (λ_=>a) (λ_=>l) () W _ (some D) h (grownBy_putObj' W D o') (λr e=>by cases e;exact⟨o,hD,ho⟩)
end
end Go.Proofs.YtdjdpeadohobmaaGreatDoor
