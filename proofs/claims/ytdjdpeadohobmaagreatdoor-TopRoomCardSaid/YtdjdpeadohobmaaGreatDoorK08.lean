/- A part of the walk below the law: what is proved here is used by later parts; no further condition. -/
import Derived.ArgAppend
import Derived.Deep.MidRow
import Derived.Lib.SlBytesConst
import Derived.Outline
import Derived.Test.YtdjdpeadohobmaaGreatDoorK01
import Derived.Test.YtdjdpeadohobmaaGreatDoorK02
import Derived.Test.YtdjdpeadohobmaaGreatDoorK07
import Derived.Test.YtdjdpeadohobmaaGreatDoorRows
set_option linter.unusedVariables false
set_option linter.unusedSimpArgs false
set_option maxRecDepth 100000
set_option maxHeartbeats 20000000
namespace Go.Proofs.YtdjdpeadohobmaaGreatDoor
section
open Go.RowKit Go.Shelf O
attribute [local go_sem] Oper.semAt_some
def iV:List UInt8:=[72,65,82,82,79,87,32,49]
def j6 (B S:Nat):List UInt8:=field (iV++le 4 B++le 4 S) 508
def eG (B S:Nat):List UInt8:=j6 B S++le 4 (M.sum (j6 B S)).toNat
theorem DR (B S:Nat):(j6 B S).length=508:=gG _ _
theorem wP (B S:Nat):(eG B S).length=512:=by rw[eG,zw,DR,aA]
structure Geo (B S:Nat):Prop where
 b:4≤B∧B≤3840
 s:S≤19999
 r:5*B+240≤2*S
abbrev Gu (B S:Nat):Value:=.agg #[.int .i64 B,.int .i64 S]
theorem rM {B S:Nat} (h:Geo B S) (w:World):Calls Tryz.prog 50 #[Gu B S] w λe w'=>e=.returned (.int .i64 0)∧Below w.heap.size w w':=by
 have h1:=h.b.1;have h2:=h.b.2;have h3:=h.s;have h4:=h.r;clear h;go_enter Tryz.func50,Tryz.ntmps50;go_wp2;go_ret;exact⟨rfl,(zn _ _).alloc (zm _) _⟩
theorem DT {B S:Nat} (h:Geo B S) (w:World) (hT:Md.bG w):Calls Tryz.prog 54 #[Gu B S] w (ahq w 512 (eG B S)):=by
 have kc:=λ(w:World) (C:Array Value) (n c:Nat)=>Lib.run_convert_bytes_const (P:=Tryz.prog) w 22 5 C n c Tryz.underlying22 Tryz.underlying5;have H:=U h;have HT:=U hT;have h1:=h.b.1;have h2:=h.b.2;have h3:=h.s;clear h hT;go_enter Tryz.func54,Tryz.ntmps54;go_wp2_with fail;obtain⟨w1,aP⟩:∃w1,w.alloc (.cells #[.int .i64 B,.int .i64 S] 109)=w1:=⟨_,rfl⟩
 have hv:ah w1 w.heap.size 109 [.int .i64 B,.int .i64 S]:=by rw[←aP];exact ah.new _ _ _
 have hB:Below w.heap.size w w1:=by rw[←aP];exact(zn _ _).alloc (zm _) _
 rw[aP];clear aP;refine(rM H.o _).mono ?_;rintro e w2 ⟨rfl,aJ⟩;have lq:=hB.trans (aJ.mono hB.size);obtain⟨w3,gV⟩:∃w3,w2.alloc (.cells #[.int .u8 72,.int .u8 65,.int .u8 82,.int .u8 82,.int .u8 79,.int .u8 87,.int .u8 32,.int .u8 49] 5 (8,9))=w3:=⟨_,rfl⟩
 have hm:ay w3 (some ⟨w2.heap.size,0,none⟩) iV:=by rw[←gV];exact ay.ji _ _ _ _ _ rfl
 have bf:Below w.heap.size w w3:=by rw[←gV];exact lq.alloc lq.size _
 have UG:=(hv.below aJ).below (show Below w2.heap.size w2 w3 by rw[←gV];exact(zn _ _).alloc (zm _) _);have c0:=UG.cell 0;have c1:=UG.cell 1;simp only[zf,zi] at c0 c1;have HV:=U UG;have HB:=U bf;have HM:=U hm;clear hv hB aJ lq UG bf hm;go_wp2_with fail;refine(lX (l:=iV) (n:=8) rfl oQ HM.o 4 B oQ (iV++le 4 B) 12 rQ (by simp[iV,aA])).mono ?_;rintro e w4 ⟨A,c,rfl,hl,hown,dX⟩;have Iu:=HV.o.below dX;have d1:=Iu.cell 1;simp only[zf,zi] at d1;have lS:=U (HB.o.trans (dX.mono HB.o.size));have HO:=U hown;clear Iu hown dX c0 c1 gV;go_wp2_with fail;refine(lX (l:=iV++le 4 B) hl oQ HO.o.row.bytes 4 S oQ (iV++le 4 B++le 4 S) 16 rQ (by simp[iV,aA])).mono ?_;rintro e w5 ⟨A5,cc5,rfl,hl5,ig,iJ⟩;have jR:=U (lS.o.trans (iJ.mono lS.o.size));have HO5:=U ig;clear ig iJ;go_wp2_with fail;refine(uM (l:=iV++le 4 B++le 4 S) hl5 HO5.o.row.bytes 508 (j6 B S) 508 (by rw[show cl 508 4096=508 from rfl,zP];rfl) (DR B S)).mono ?_;rintro e w6 ⟨A6,cc6,rfl,hl6,afQ,lu⟩;have sI:=U (jR.o.trans (lu.mono jR.o.size));have HO6:=U afQ;clear afQ lu;go_wp2_with fail;refine(Md.ads (j6 B S) 508 hl6 _ A6 cc6 oQ HO6.o.row.bytes (HT.o.below sI.o)).mono ?_;rintro e w7 ⟨rfl,rfl⟩;have CS:=M.sum (j6 B S) |>.isLt;obtain⟨q,hq⟩:∃q,(M.sum (j6 B S)).toNat=q:=⟨_,rfl⟩
 have hn:n32 (M.sum (j6 B S))=(q:Int):=by rw[←hq];rfl
 rw[hq] at CS;rw[hn];have Hq:=U hq;clear hq hn;go_wp2_with fail;refine(lX (l:=j6 B S) hl6 oQ HO6.o.row.bytes 4 q oQ (eG B S) 512 (by rw[eG,Hq.o];rfl) (wP B S)).mono ?_;rintro e w8 ⟨A8,cc8,rfl,hl8,alV,xE⟩;go_wp2_with fail;go_ret;exact⟨A8,cc8,rfl,hl8,alV.mono sI.o.size,sI.o.trans (xE.mono sI.o.size)⟩
theorem yc (w:World):Calls Tryz.prog 297 #[.bool true] w λe w'=>(∃v,e=.returned v)∧w=w':=by
 go_enter Tryz.func297,Tryz.ntmps297;go_wp2_with fail;go_end0;exact⟨⟨_,rfl⟩,rfl⟩
theorem YZ (l:List UInt8) (s:Bool) (r:Nat) (w:World) (hr:aU w r l s):
  Calls Tryz.prog 300 #[.pointer (some ⟨r,0,none⟩)] w λe w'=>e=.returned (.bool (!s))∧w=w':=by
 obtain⟨A,c,hb,hA,hlc,Cn⟩:=hr;have c1:=cell_of_row w r 1 _ _ _ hb;simp only[qZ,zf,zi] at c1;clear hb hA;go_enter Tryz.func300,Tryz.ntmps300;go_wp2;go_ret;exact⟨rfl,rfl⟩
end
section
open O
def tagV (e s q f:Nat) (i c d:Int):Array Value:=#[.int .u32 (e:Int),.int .u64 (s:Int),.int .u64 (q:Int),.int .u64 (f:Int),.int .i64 i,.int .i64 c,.int .i64 d]
def right (e s q f:Nat) (i c d:Int):Bool:=decide (1≤e∧1≤s∧s≤q∧q≤281474976710655∧f<q∧1≤c∧c≤72∧0≤i∧i<c∧0≤d∧d<3840)
theorem yg {e s q f:Nat} {i c d:Int} (h:right e s q f i c d=true):1≤e∧1≤s∧s≤q∧q≤281474976710655∧f<q∧1≤c∧c≤72∧0≤i∧i<c∧0≤d∧d<3840:=by
 unfold right at h;exact of_decide_eq_true h
theorem Ml {e s q f:Nat} {i c d:Int}:right e s q f i c d=true∨(right e s q f i c d=false∧
  ((e:Int)<1∨(1≤(e:Int)∧((s:Int)<1∨(1≤(s:Int)∧((q:Int)<(s:Int)∨((s:Int)≤(q:Int)∧(281474976710655<(q:Int)∨((q:Int)≤281474976710655∧((q:Int)≤(f:Int)∨((f:Int)<(q:Int)∧(c<1∨(1≤c∧(72<c∨(c≤72∧(i<0∨(0≤i∧(c≤i∨(i<c∧(d<0∨(0≤d∧3840≤d))))))))))))))))))))):=by
 cases h:right e s q f i c d with
 |true=>exact .inl rfl
 |false=>
  refine .inr ⟨rfl,?_⟩;unfold right at h;have:=of_decide_eq_false h;omega
def head (e s q f i c d:Nat):List UInt8:=le 4 1465012808++(le 4 e++(le 6 q++(le 6 f++(le 6 s++(le 1 i++(le 1 c++(le 2 d++le 2 0)))))))
theorem jm (e s q f i c d:Nat):(head e s q f i c d).length=32:=by simp[head,aA]
end
section
open Go.RowKit O
theorem DU:jC Tryz.prog 22 5 (.int .u8 0) 1:=⟨Tryz.underlying22,kQ,rfl⟩
theorem DV {a b:Bool} (h:a=b):Ending.returned (.bool a)=.returned (.bool b):=by rw[h]
theorem Iw (e s q f:Nat) (i c d:Int) (w:World):
  Calls Tryz.prog 263 #[.agg (tagV e s q f i c d)] w λx w'=>x=.returned (.bool (right e s q f i c d))∧Below w.heap.size w w':=by
 have HB:=U (show∀o,Below w.heap.size w (w.alloc o) from λo=>(zn _ _).alloc (zm _) o);unfold tagV;rcases Ml (e:=e) (s:=s) (q:=q) (f:=f) (i:=i) (c:=c) (d:=d) with h|⟨h,h1|⟨h1,h2|⟨h2,h3|⟨h3,h4|⟨h4,h5|⟨h5,h6|⟨h6,h7|⟨h7,h8|⟨h8,h9|⟨h9,ha|⟨ha,hb⟩⟩⟩⟩⟩⟩⟩⟩⟩⟩⟩
 ·obtain⟨h1,h2,h3,h4,h5,h6,h7,h8,h9,ha,hb⟩:=yg h
  rw[h];clear h;have h1':(1:Int)≤(e:Int):=oQ
  have h2':(1:Int)≤(s:Int):=oQ
  have h3':(s:Int)≤(q:Int):=oQ
  have h4':(q:Int)≤281474976710655:=oQ
  have h5':(f:Int)<(q:Int):=oQ
  clear h1 h2 h3 h4 h5;go_enter Tryz.func263,Tryz.ntmps263;go_wp2;go_ret;exact⟨DV (by simp_all),HB.o _⟩
 all_goals
  rw[h];clear h;go_enter Tryz.func263,Tryz.ntmps263;go_wp2;go_ret;exact⟨DV (by simp_all;try omega),HB.o _⟩
theorem Av (w:World) (v:Value) (t:TypeId) (o2:Obj):((w.alloc (.cells #[v] t)).alloc o2).cell? ⟨w.heap.size,0,none⟩=some v:=by
 rw[World.cell?_alloc_lt _ _ _ sQ,zaw];rfl
theorem Kept.fP {r:Nat} {w w':World} (h:Kept r w w') {b i:Nat} (hb:b<w.heap.size) (hr:b≠r):w'.cell? ⟨b,i,none⟩=w.cell? ⟨b,i,none⟩:=zS (h.block b hb hr)
def Made (w:World) (sz:Int) (g s:Fn) (v:Value) (cap:Bool) (e:Ending) (w':World):Prop:=
 e=.returned (.agg #[.int .i64 sz,.func g #[] #[.pointer (some ⟨w.heap.size,0,none⟩)],.func s #[] (if cap then #[.pointer (some ⟨w.heap.size,0,none⟩)] else #[])])∧
  w'.cell? ⟨w.heap.size,0,none⟩=some v∧w'.heap.size=w.heap.size+2∧Below w.heap.size w w'
def JV:List Value:=[.int .i64 0,.nilFunc,.nilFunc]
theorem afS:(Tryz.prog.info? 335).map (·.zero)=some (some (.agg JV.toArray)):=kQ
theorem BA:(Tryz.prog.info? 335).map (·.size)=some 3:=kQ
theorem Iy (n:Int) (x:Nat) (w:World):
  Calls Tryz.prog 307 #[.int .i64 n,.int .u64 (x:Int)] w (Made w n (.func 345) (.func 346) (.int .u64 (x:Int)) false):=by
 obtain⟨vs,tF⟩:∃vs:List Value,vs=[.int .i64 n,.func (.func 345) #[] #[.pointer (some ⟨w.heap.size,0,none⟩)],.func (.func 346) #[] #[]]:=⟨_,rfl⟩
 have JW:=U tF;have h1:=U (show∀v∈vs,v.oneCell'=true by rw[tF];intro v hv;simp at hv;rcases hv with rfl|rfl|rfl<;>rfl);clear tF;go_enter Tryz.func307,Tryz.ntmps307
 go_wp2_with (first
  |(refine dJ 335 (.tmp 4) (.tmp 7) rfl (w.heap.size+1) vs JV 335 rfl (by rw[JW.o];rfl) (ah.at sQ _ JV) (by rw[JW.o];rfl) (by rw[JW.o];exact BA) h1.o rQ ?_;intro w2 hN hK hS;have HN:=U hN;have HK:=U hK;have HS:=U hS;clear hN hK hS))
 have hB:Below w.heap.size w w2:=(Dk w _ _).trans (HK.o.below _ oQ (by simp;omega));exact bodyPost_ret (v:=.agg vs.toArray) (dN Tryz.results307 rfl HN.o Tryz.underlying335 rfl (by rw[JW.o];exact BA)) rfl ⟨by rw[JW.o];rfl,by rw[HK.o.fP (by simp;omega) oQ];exact Av _ _ _ _,by rw[HS.o];simp,hB⟩
theorem DW (k:Nat) (w:World):
  Calls Tryz.prog 310 #[.func (.func k) #[] #[]] w (Made w 6 (.func 347) (.func 348) (.func (.func k) #[] #[]) true):=by
 obtain⟨vs,tF⟩:∃vs:List Value,vs=[.int .i64 6,.func (.func 347) #[] #[.pointer (some ⟨w.heap.size,0,none⟩)],.func (.func 348) #[] #[.pointer (some ⟨w.heap.size,0,none⟩)]]:=⟨_,rfl⟩
 have JW:=U tF;have h1:=U (show∀v∈vs,v.oneCell'=true by rw[tF];intro v hv;simp at hv;rcases hv with rfl|rfl|rfl<;>rfl);clear tF;go_enter Tryz.func310,Tryz.ntmps310
 go_wp2_with (first
  |(refine dJ 335 (.tmp 2) (.tmp 5) rfl (w.heap.size+1) vs JV 335 rfl (by rw[JW.o];rfl) (ah.at sQ _ JV) (by rw[JW.o];rfl) (by rw[JW.o];exact BA) h1.o rQ ?_;intro w2 hN hK hS;have HN:=U hN;have HK:=U hK;have HS:=U hS;clear hN hK hS))
 have hB:Below w.heap.size w w2:=(Dk w _ _).trans (HK.o.below _ oQ (by simp;omega));exact bodyPost_ret (v:=.agg vs.toArray) (dN Tryz.results310 rfl HN.o Tryz.underlying335 rfl (by rw[JW.o];exact BA)) rfl ⟨by rw[JW.o];rfl,by rw[HK.o.fP (by simp;omega) oQ];exact Av _ _ _ _,by rw[HS.o];simp,hB⟩
theorem Aw (n:Int) (k:Nat) (w:World):
  Calls Tryz.prog 314 #[.int .i64 n,.func (.func k) #[] #[]] w (Made w n (.func 349) (.func 350) (.func (.func k) #[] #[]) true):=by
 obtain⟨vs,tF⟩:∃vs:List Value,vs=[.int .i64 n,.func (.func 349) #[] #[.pointer (some ⟨w.heap.size,0,none⟩)],.func (.func 350) #[] #[.pointer (some ⟨w.heap.size,0,none⟩)]]:=⟨_,rfl⟩
 have JW:=U tF;have h1:=U (show∀v∈vs,v.oneCell'=true by rw[tF];intro v hv;simp at hv;rcases hv with rfl|rfl|rfl<;>rfl);clear tF;go_enter Tryz.func314,Tryz.ntmps314
 go_wp2_with (first
  |(refine dJ 335 (.tmp 4) (.tmp 8) rfl (w.heap.size+1) vs JV 335 rfl (by rw[JW.o];rfl) (ah.at sQ _ JV) (by rw[JW.o];rfl) (by rw[JW.o];exact BA) h1.o rQ ?_;intro w2 hN hK hS;have HN:=U hN;have HK:=U hK;have HS:=U hS;clear hN hK hS))
 have hB:Below w.heap.size w w2:=(Dk w _ _).trans (HK.o.below _ oQ (by simp;omega));exact bodyPost_ret (v:=.agg vs.toArray) (dN Tryz.results314 rfl HN.o Tryz.underlying335 rfl (by rw[JW.o];exact BA)) rfl ⟨by rw[JW.o];rfl,by rw[HK.o.fP (by simp;omega) oQ];exact Av _ _ _ _,by rw[HS.o];simp,hB⟩
def lY (p0 p2 p3 p4 p5 p6 p7 p8:Nat):List Value:=[.int .i64 4,.func (.func 345) #[] #[.pointer (some ⟨p0,0,none⟩)],.func (.func 346) #[] #[],.int .i64 4,.func (.func 308) #[] #[],.func (.func 309) #[] #[],.int .i64 6,.func (.func 347) #[] #[.pointer (some ⟨p2,0,none⟩)],.func (.func 348) #[] #[.pointer (some ⟨p2,0,none⟩)],.int .i64 6,.func (.func 347) #[] #[.pointer (some ⟨p3,0,none⟩)],.func (.func 348) #[] #[.pointer (some ⟨p3,0,none⟩)],.int .i64 6,.func (.func 347) #[] #[.pointer (some ⟨p4,0,none⟩)],.func (.func 348) #[] #[.pointer (some ⟨p4,0,none⟩)],.int .i64 1,.func (.func 349) #[] #[.pointer (some ⟨p5,0,none⟩)],.func (.func 350) #[] #[.pointer (some ⟨p5,0,none⟩)],.int .i64 1,.func (.func 349) #[] #[.pointer (some ⟨p6,0,none⟩)],.func (.func 350) #[] #[.pointer (some ⟨p6,0,none⟩)],.int .i64 2,.func (.func 349) #[] #[.pointer (some ⟨p7,0,none⟩)],.func (.func 350) #[] #[.pointer (some ⟨p7,0,none⟩)],.int .i64 2,.func (.func 345) #[] #[.pointer (some ⟨p8,0,none⟩)],.func (.func 346) #[] #[]]
structure sJ (w:World) (p0 p2 p3 p4 p5 p6 p7 p8:Nat):Prop where
 c0:w.cell? ⟨p0,0,none⟩=some (.int .u64 1465012808)
 c2:w.cell? ⟨p2,0,none⟩=some (.func (.func 311) #[] #[])
 c3:w.cell? ⟨p3,0,none⟩=some (.func (.func 312) #[] #[])
 c4:w.cell? ⟨p4,0,none⟩=some (.func (.func 313) #[] #[])
 c5:w.cell? ⟨p5,0,none⟩=some (.func (.func 315) #[] #[])
 c6:w.cell? ⟨p6,0,none⟩=some (.func (.func 316) #[] #[])
 c7:w.cell? ⟨p7,0,none⟩=some (.func (.func 317) #[] #[])
 c8:w.cell? ⟨p8,0,none⟩=some (.int .u64 0)
theorem sJ.below {w w':World} {p0 p2 p3 p4 p5 p6 p7 p8:Nat} (h:sJ w p0 p2 p3 p4 p5 p6 p7 p8) (hb:Below w.heap.size w w'):sJ w' p0 p2 p3 p4 p5 p6 p7 p8:=
 ⟨(hb.cell (p:=⟨p0,0,none⟩) (zq w _ h.c0)).trans h.c0,(hb.cell (p:=⟨p2,0,none⟩) (zq w _ h.c2)).trans h.c2,(hb.cell (p:=⟨p3,0,none⟩) (zq w _ h.c3)).trans h.c3,(hb.cell (p:=⟨p4,0,none⟩) (zq w _ h.c4)).trans h.c4,(hb.cell (p:=⟨p5,0,none⟩) (zq w _ h.c5)).trans h.c5,(hb.cell (p:=⟨p6,0,none⟩) (zq w _ h.c6)).trans h.c6,(hb.cell (p:=⟨p7,0,none⟩) (zq w _ h.c7)).trans h.c7,(hb.cell (p:=⟨p8,0,none⟩) (zq w _ h.c8)).trans h.c8⟩
theorem adw (x0 y0 z0 x1 y1 z1 x2 y2 z2 x3 y3 z3 x4 y4 z4 x5 y5 z5 x6 y6 z6 x7 y7 z7 x8 y8 z8:Value):Tryz.prog.built 336 [(0,.agg #[x0,y0,z0]),(1,.agg #[x1,y1,z1]),(2,.agg #[x2,y2,z2]),(3,.agg #[x3,y3,z3]),(4,.agg #[x4,y4,z4]),(5,.agg #[x5,y5,z5]),(6,.agg #[x6,y6,z6]),(7,.agg #[x7,y7,z7]),(8,.agg #[x8,y8,z8])]=some #[x0,y0,z0,x1,y1,z1,x2,y2,z2,x3,y3,z3,x4,y4,z4,x5,y5,z5,x6,y6,z6,x7,y7,z7,x8,y8,z8]:=kQ
def alW:List Value:=[(.int .i64 0),.nilFunc,.nilFunc,(.int .i64 0),.nilFunc,.nilFunc,(.int .i64 0),.nilFunc,.nilFunc,(.int .i64 0),.nilFunc,.nilFunc,(.int .i64 0),.nilFunc,.nilFunc,(.int .i64 0),.nilFunc,.nilFunc,(.int .i64 0),.nilFunc,.nilFunc,(.int .i64 0),.nilFunc,.nilFunc,(.int .i64 0),.nilFunc,.nilFunc]
theorem ahs:(Tryz.prog.info? 336).map (·.zero)=some (some (.agg alW.toArray)):=kQ
theorem Y6:(Tryz.prog.info? 336).map (·.size)=some 27:=kQ
theorem JX {o:Oper} {a:Act} {w:World} {x0 y0 z0 x1 y1 z1 x2 y2 z2 x3 y3 z3 x4 y4 z4 x5 y5 z5 x6 y6 z6 x7 y7 z7 x8 y8 z8:Value} (o0 o1 o2 o3 o4 o5 o6 o7 o8:Operand) (ho:o.op=.build 336 #[(0,o0),(1,o1),(2,o2),(3,o3),(4,o4),(5,o5),(6,o6),(7,o7),(8,o8)]) (h0:a.eval o0=.agg #[x0,y0,z0]) (h1:a.eval o1=.agg #[x1,y1,z1]) (h2:a.eval o2=.agg #[x2,y2,z2]) (h3:a.eval o3=.agg #[x3,y3,z3]) (h4:a.eval o4=.agg #[x4,y4,z4]) (h5:a.eval o5=.agg #[x5,y5,z5]) (h6:a.eval o6=.agg #[x6,y6,z6]) (h7:a.eval o7=.agg #[x7,y7,z7]) (h8:a.eval o8=.agg #[x8,y8,z8]):
  (execOp a.eval o).run Tryz.prog w=.ok (.value (.agg #[x0,y0,z0,x1,y1,z1,x2,y2,z2,x3,y3,z3,x4,y4,z4,x5,y5,z5,x6,y6,z6,x7,y7,z7,x8,y8,z8])) w:=by
 unfold execOp;simp only[ho,zac,qy,qK,h0,h1,h2,h3,h4,h5,h6,h7,h8,qE,run_build w 336 _ _ (adw x0 y0 z0 x1 y1 z1 x2 y2 z2 x3 y3 z3 x4 y4 z4 x5 y5 z5 x6 y6 z6 x7 y7 z7 x8 y8 z8),qp];rfl
theorem Mq (p0 p2 p3 p4 p5 p6 p7 p8:Nat):∀v∈lY p0 p2 p3 p4 p5 p6 p7 p8,v.oneCell'=true:=by
 intro v hv;unfold lY at hv;simp only[zH,zO,or_false] at hv;rcases hv with rfl|rfl|rfl|rfl|rfl|rfl|rfl|rfl|rfl|rfl|rfl|rfl|rfl|rfl|rfl|rfl|rfl|rfl|rfl|rfl|rfl|rfl|rfl|rfl|rfl|rfl|rfl<;>rfl
theorem DX (w:World):
  Calls Tryz.prog 264 #[] w λe w'=>∃p0 p2 p3 p4 p5 p6 p7 p8,e=.returned (.agg (lY p0 p2 p3 p4 p5 p6 p7 p8).toArray)∧sJ w' p0 p2 p3 p4 p5 p6 p7 p8∧Below w.heap.size w w':=by
 go_enter Tryz.func264,Tryz.ntmps264;go_wp2_with (refine iF (w:=w) rfl rfl ahs ?_;intro w1 hN hB hS;have HR:=U hN;have HB:=U hB;clear hN hB hS);refine(Iy 4 1465012808 _).mono ?_;rintro e v0 ⟨rfl,hc,hs,hB⟩;have Ae:=U hc;have HL0:=U HR.o.lt;replace HR:=U (HR.o.below hB);replace HB:=U (HB.o.trans (hB.mono HB.o.size));clear hc hs hB;go_wp2_with fail;refine(DW 311 _).mono ?_;rintro e v2 ⟨rfl,hc,hs,hB⟩;have Iz:=U hc;have HL2:=U HR.o.lt;replace Ae:=U ((hB.cell (p:=⟨_,0,none⟩) (zq _ _ Ae.o)).trans Ae.o);replace HR:=U (HR.o.below hB);replace HB:=U (HB.o.trans (hB.mono HB.o.size));clear hc hs hB;go_wp2_with fail;refine(DW 312 _).mono ?_;rintro e v3 ⟨rfl,hc,hs,hB⟩;have Mr:=U hc;have HL3:=U HR.o.lt;replace Ae:=U ((hB.cell (p:=⟨_,0,none⟩) (zq _ _ Ae.o)).trans Ae.o);replace Iz:=U ((hB.cell (p:=⟨_,0,none⟩) (zq _ _ Iz.o)).trans Iz.o);replace HR:=U (HR.o.below hB);replace HB:=U (HB.o.trans (hB.mono HB.o.size));clear hc hs hB;go_wp2_with fail;refine(DW 313 _).mono ?_;rintro e v4 ⟨rfl,hc,hs,hB⟩;have SV:=U hc;have HL4:=U HR.o.lt;replace Ae:=U ((hB.cell (p:=⟨_,0,none⟩) (zq _ _ Ae.o)).trans Ae.o);replace Iz:=U ((hB.cell (p:=⟨_,0,none⟩) (zq _ _ Iz.o)).trans Iz.o);replace Mr:=U ((hB.cell (p:=⟨_,0,none⟩) (zq _ _ Mr.o)).trans Mr.o);replace HR:=U (HR.o.below hB);replace HB:=U (HB.o.trans (hB.mono HB.o.size));clear hc hs hB;go_wp2_with fail;refine(Aw 1 315 _).mono ?_;rintro e v5 ⟨rfl,hc,hs,hB⟩;have Y7:=U hc;have HL5:=U HR.o.lt;replace Ae:=U ((hB.cell (p:=⟨_,0,none⟩) (zq _ _ Ae.o)).trans Ae.o);replace Iz:=U ((hB.cell (p:=⟨_,0,none⟩) (zq _ _ Iz.o)).trans Iz.o);replace Mr:=U ((hB.cell (p:=⟨_,0,none⟩) (zq _ _ Mr.o)).trans Mr.o);replace SV:=U ((hB.cell (p:=⟨_,0,none⟩) (zq _ _ SV.o)).trans SV.o);replace HR:=U (HR.o.below hB);replace HB:=U (HB.o.trans (hB.mono HB.o.size));clear hc hs hB;go_wp2_with fail;refine(Aw 1 316 _).mono ?_;rintro e v6 ⟨rfl,hc,hs,hB⟩;have HC6:=U hc;have XV:=U HR.o.lt;replace Ae:=U ((hB.cell (p:=⟨_,0,none⟩) (zq _ _ Ae.o)).trans Ae.o);replace Iz:=U ((hB.cell (p:=⟨_,0,none⟩) (zq _ _ Iz.o)).trans Iz.o);replace Mr:=U ((hB.cell (p:=⟨_,0,none⟩) (zq _ _ Mr.o)).trans Mr.o);replace SV:=U ((hB.cell (p:=⟨_,0,none⟩) (zq _ _ SV.o)).trans SV.o);replace Y7:=U ((hB.cell (p:=⟨_,0,none⟩) (zq _ _ Y7.o)).trans Y7.o);replace HR:=U (HR.o.below hB);replace HB:=U (HB.o.trans (hB.mono HB.o.size));clear hc hs hB;go_wp2_with fail;refine(Aw 2 317 _).mono ?_;rintro e v7 ⟨rfl,hc,hs,hB⟩;have HC7:=U hc;have HL7:=U HR.o.lt;replace Ae:=U ((hB.cell (p:=⟨_,0,none⟩) (zq _ _ Ae.o)).trans Ae.o);replace Iz:=U ((hB.cell (p:=⟨_,0,none⟩) (zq _ _ Iz.o)).trans Iz.o);replace Mr:=U ((hB.cell (p:=⟨_,0,none⟩) (zq _ _ Mr.o)).trans Mr.o);replace SV:=U ((hB.cell (p:=⟨_,0,none⟩) (zq _ _ SV.o)).trans SV.o);replace Y7:=U ((hB.cell (p:=⟨_,0,none⟩) (zq _ _ Y7.o)).trans Y7.o);replace HC6:=U ((hB.cell (p:=⟨_,0,none⟩) (zq _ _ HC6.o)).trans HC6.o);replace HR:=U (HR.o.below hB);replace HB:=U (HB.o.trans (hB.mono HB.o.size));clear hc hs hB;go_wp2_with fail;refine(Iy 2 0 _).mono ?_;rintro e v8 ⟨rfl,hc,hs,hB⟩;have HC8:=U hc;have HL8:=U HR.o.lt;replace Ae:=U ((hB.cell (p:=⟨_,0,none⟩) (zq _ _ Ae.o)).trans Ae.o);replace Iz:=U ((hB.cell (p:=⟨_,0,none⟩) (zq _ _ Iz.o)).trans Iz.o);replace Mr:=U ((hB.cell (p:=⟨_,0,none⟩) (zq _ _ Mr.o)).trans Mr.o);replace SV:=U ((hB.cell (p:=⟨_,0,none⟩) (zq _ _ SV.o)).trans SV.o);replace Y7:=U ((hB.cell (p:=⟨_,0,none⟩) (zq _ _ Y7.o)).trans Y7.o);replace HC6:=U ((hB.cell (p:=⟨_,0,none⟩) (zq _ _ HC6.o)).trans HC6.o);replace HC7:=U ((hB.cell (p:=⟨_,0,none⟩) (zq _ _ HC7.o)).trans HC7.o);replace HR:=U (HR.o.below hB);replace HB:=U (HB.o.trans (hB.mono HB.o.size));clear hc hs hB
 go_wp2_with (first
  |(refine bB (.agg (lY (w1.heap.size) (v0.heap.size) (v2.heap.size) (v3.heap.size) (v4.heap.size) (v5.heap.size) (v6.heap.size) (v7.heap.size)).toArray) rQ (JX (.tmp 1) (.tmp 2) (.tmp 3) (.tmp 4) (.tmp 5) (.tmp 6) (.tmp 7) (.tmp 8) (.tmp 9) rfl rfl rfl rfl rfl rfl rfl rfl rfl rfl) ?_)
  |(refine dJ 336 (.tmp 0) (.tmp 10) rfl w.heap.size (lY (w1.heap.size) (v0.heap.size) (v2.heap.size) (v3.heap.size) (v4.heap.size) (v5.heap.size) (v6.heap.size) (v7.heap.size)) alW 336 rfl rfl HR.o rfl Y6 (Mq _ _ _ _ _ _ _ _) rQ ?_;intro w9 hN hK hS;have HN:=U hN;have HK:=U hK;clear hN hK hS))
 exact bodyPost_ret (v:=.agg (lY (w1.heap.size) (v0.heap.size) (v2.heap.size) (v3.heap.size) (v4.heap.size) (v5.heap.size) (v6.heap.size) (v7.heap.size)).toArray) (dN Tryz.results264 rfl HN.o Tryz.underlying336 rfl Y6) rfl ⟨w1.heap.size,v0.heap.size,v2.heap.size,v3.heap.size,v4.heap.size,v5.heap.size,v6.heap.size,v7.heap.size,rfl,⟨(HK.o.fP (zq _ _ Ae.o) (Yw HL0.o)).trans Ae.o,(HK.o.fP (zq _ _ Iz.o) (Yw HL2.o)).trans Iz.o,(HK.o.fP (zq _ _ Mr.o) (Yw HL3.o)).trans Mr.o,(HK.o.fP (zq _ _ SV.o) (Yw HL4.o)).trans SV.o,(HK.o.fP (zq _ _ Y7.o) (Yw HL5.o)).trans Y7.o,(HK.o.fP (zq _ _ HC6.o) (Yw XV.o)).trans HC6.o,(HK.o.fP (zq _ _ HC7.o) (Yw HL7.o)).trans HC7.o,(HK.o.fP (zq _ _ HC8.o) (Yw HL8.o)).trans HC8.o⟩,HB.o.trans (HK.o.below _ (zm _) HB.o.size)⟩
theorem JY (n k:Nat) (h:(n,k)∈[(2,311),(3,312),(1,313),(4,315),(5,316),(6,317)]) (b:Nat) (w:World):Calls Tryz.prog k #[.pointer (some ⟨b,0,none⟩)] w λx w'=>x=.returned (.pointer (some ⟨b,n,none⟩))∧w=w':=by
 simp only[zH,zO,or_false,zaS] at h;rcases h with⟨rfl,rfl⟩|⟨rfl,rfl⟩|⟨rfl,rfl⟩|⟨rfl,rfl⟩|⟨rfl,rfl⟩|⟨rfl,rfl⟩
 ·go_enter Tryz.func311,Tryz.ntmps311
  go_wp2;go_ret;exact⟨rfl,rfl⟩
 ·go_enter Tryz.func312,Tryz.ntmps312
  go_wp2;go_ret;exact⟨rfl,rfl⟩
 ·go_enter Tryz.func313,Tryz.ntmps313
  go_wp2;go_ret;exact⟨rfl,rfl⟩
 ·go_enter Tryz.func315,Tryz.ntmps315
  go_wp2;go_ret;exact⟨rfl,rfl⟩
 ·go_enter Tryz.func316,Tryz.ntmps316
  go_wp2;go_ret;exact⟨rfl,rfl⟩
 ·go_enter Tryz.func317,Tryz.ntmps317
  go_wp2;go_ret;exact⟨rfl,rfl⟩
def JZ (k:Nat):Prop:=∀args w,(callFunc k args).run Tryz.prog w=.ok (.enter k args) w
theorem J2 (n k:Nat) (h:(n,k)∈[(2,311),(3,312),(1,313),(4,315),(5,316),(6,317)]):JZ k:=by
 simp only[zH,zO,or_false,zaS] at h;rcases h with⟨rfl,rfl⟩|⟨rfl,rfl⟩|⟨rfl,rfl⟩|⟨rfl,rfl⟩|⟨rfl,rfl⟩|⟨rfl,rfl⟩<;>exact λ_ _=>rfl
theorem Y8 (e s q f:Nat) (i c d:Int) (he:e<4294967296) (w:World):
  Calls Tryz.prog 308 #[.agg (tagV e s q f i c d)] w λx w'=>x=.returned (.int .u64 (e:Int))∧Below w.heap.size w w':=by
 unfold tagV;go_enter Tryz.func308,Tryz.ntmps308;go_wp2;go_ret;exact⟨rfl,(zn _ _).alloc (zm _) _⟩
theorem Ms (e s q f:Nat) (i c d:Int) (p x:Nat) (w:World) (hp:w.cell? ⟨p,0,none⟩=some (.int .u64 (x:Int))):
  Calls Tryz.prog 345 #[.agg (tagV e s q f i c d),.pointer (some ⟨p,0,none⟩)] w λy w'=>y=.returned (.int .u64 (x:Int))∧Below w.heap.size w w':=by
 have bA:=zq w _ hp;have hc:∀o,(w.alloc o).cell? ⟨p,0,none⟩=some (.int .u64 (x:Int)):=λo=>by rw[World.cell?_alloc_lt _ _ _ bA];exact hp
 unfold tagV;go_enter Tryz.func345,Tryz.ntmps345;go_wp2;go_ret;exact⟨rfl,(zn _ _).alloc (zm _) _⟩
theorem DY (e s q f i c d:Nat) (hi:i<9223372036854775808) (hc:c<9223372036854775808) (hd:d<9223372036854775808) (n k v:Nat) (h:(n,k,v)∈[(2,311,q),(3,312,f),(1,313,s)]) (p:Nat) (w:World) (hp:w.cell? ⟨p,0,none⟩=some (.func (.func k) #[] #[])):
  Calls Tryz.prog 347 #[.agg (tagV e s q f i c d),.pointer (some ⟨p,0,none⟩)] w λy w'=>y=.returned (.int .u64 (v:Int))∧Below w.heap.size w w':=by
 have bA:=zq w _ hp;have hc:∀o,(w.alloc o).cell? ⟨p,0,none⟩=some (.func (.func k) #[] #[]):=λo=>by rw[World.cell?_alloc_lt _ _ _ bA];exact hp
 have hn:=(show(n,k)∈[(2,311),(3,312),(1,313),(4,315),(5,316),(6,317)] by simp at h ⊢;rcases h with h|h|h<;>simp[h])
 have ha:=U (JY n k hn);have lN:=J2 n k hn;clear hn;unfold JZ at lN;have Hh:=U h;clear h;unfold tagV;go_enter Tryz.func347,Tryz.ntmps347;go_wp2_with fail;refine(ha.o _ _).mono ?_;rintro y w1 ⟨rfl,rfl⟩;have h:=Hh.o;clear Hh ha;simp only[zH,zO,or_false,zaS] at h;rcases h with⟨rfl,rfl,rfl⟩|⟨rfl,rfl,rfl⟩|⟨rfl,rfl,rfl⟩<;>(go_wp2;go_ret;exact⟨rfl,(zn _ _).alloc (zm _) _⟩)
theorem DZ (e s q f i c d:Nat) (hi:i<9223372036854775808) (hc:c<9223372036854775808) (hd:d<9223372036854775808) (n k v:Nat) (h:(n,k,v)∈[(4,315,i),(5,316,c),(6,317,d)]) (p:Nat) (w:World) (hp:w.cell? ⟨p,0,none⟩=some (.func (.func k) #[] #[])):
  Calls Tryz.prog 349 #[.agg (tagV e s q f i c d),.pointer (some ⟨p,0,none⟩)] w λy w'=>y=.returned (.int .u64 (v:Int))∧Below w.heap.size w w':=by
 have bA:=zq w _ hp;have hc:∀o,(w.alloc o).cell? ⟨p,0,none⟩=some (.func (.func k) #[] #[]):=λo=>by rw[World.cell?_alloc_lt _ _ _ bA];exact hp
 have hn:=(show(n,k)∈[(2,311),(3,312),(1,313),(4,315),(5,316),(6,317)] by simp at h ⊢;rcases h with h|h|h<;>simp[h])
 have ha:=U (JY n k hn);have lN:=J2 n k hn;clear hn;unfold JZ at lN;have Hh:=U h;clear h;unfold tagV;go_enter Tryz.func349,Tryz.ntmps349;go_wp2_with fail;refine(ha.o _ _).mono ?_;rintro y w1 ⟨rfl,rfl⟩;have h:=Hh.o;clear Hh ha;simp only[zH,zO,or_false,zaS] at h;rcases h with⟨rfl,rfl,rfl⟩|⟨rfl,rfl,rfl⟩|⟨rfl,rfl,rfl⟩<;>(go_wp2;go_ret;exact⟨rfl,(zn _ _).alloc (zm _) _⟩)
theorem Y9 (b x:Nat) (w:World) (T:TypeId) (vs:List Value) (hb:ah w b T vs) (hl:vs.length=7) (hx:x<4294967296):
  Calls Tryz.prog 309 #[.pointer (some ⟨b,0,none⟩),.int .u64 (x:Int)] w λy w'=>(∃v,y=.returned v)∧w'=w.setCell ⟨b,0,none⟩ (.int .u32 (x:Int)):=by
 obtain⟨u,hu⟩:∃u,w.cell? ⟨b,0,none⟩=some u:=⟨_,(hb.cell 0).trans (zu oQ)⟩
 have hf:=hb.free 0;clear hb hl;go_enter Tryz.func309,Tryz.ntmps309;go_wp2;go_end0;exact⟨⟨_,rfl⟩,rfl⟩
theorem Mt (a:Value) (x:Nat) (w:World):
  Calls Tryz.prog 346 #[a,.int .u64 (x:Int)] w λy w'=>(∃v,y=.returned v)∧w'=w:=by
 go_enter Tryz.func346,Tryz.ntmps346;go_wp2;go_end0;exact⟨⟨_,rfl⟩,rfl⟩
theorem D5 (n k:Nat) (h:(n,k)∈[(2,311),(3,312),(1,313)]) (b x p:Nat) (w:World) (T:TypeId) (vs:List Value) (hb:ah w b T vs) (hl:vs.length=7) (hx:x<9223372036854775808) (hp:w.cell? ⟨p,0,none⟩=some (.func (.func k) #[] #[])):
  Calls Tryz.prog 348 #[.pointer (some ⟨b,0,none⟩),.int .u64 (x:Int),.pointer (some ⟨p,0,none⟩)] w λy w'=>(∃v,y=.returned v)∧w'=w.setCell ⟨b,n,none⟩ (.int .u64 (x:Int)):=by
 have hn:=(show(n,k)∈[(2,311),(3,312),(1,313),(4,315),(5,316),(6,317)] by simp at h ⊢;rcases h with h|h|h<;>simp[h])
 have ha:=U (JY n k hn);have lN:=J2 n k hn;clear hn;unfold JZ at lN;obtain⟨u,hu⟩:∃u,w.cell? ⟨b,n,none⟩=some u:=⟨_,(hb.cell n).trans (zu (by simp at h;omega))⟩
 have hf:=hb.free n;clear hb hl h;go_enter Tryz.func348,Tryz.ntmps348;go_wp2_with fail;refine(ha.o _ _).mono ?_;rintro y w1 ⟨rfl,rfl⟩;clear ha;go_wp2;go_end0;exact⟨⟨_,rfl⟩,rfl⟩
theorem D6 (n k:Nat) (h:(n,k)∈[(4,315),(5,316),(6,317)]) (b x p:Nat) (w:World) (T:TypeId) (vs:List Value) (hb:ah w b T vs) (hl:vs.length=7) (hx:x<9223372036854775808) (hp:w.cell? ⟨p,0,none⟩=some (.func (.func k) #[] #[])):
  Calls Tryz.prog 350 #[.pointer (some ⟨b,0,none⟩),.int .u64 (x:Int),.pointer (some ⟨p,0,none⟩)] w λy w'=>(∃v,y=.returned v)∧w'=w.setCell ⟨b,n,none⟩ (.int .i64 (x:Int)):=by
 have hn:=(show(n,k)∈[(2,311),(3,312),(1,313),(4,315),(5,316),(6,317)] by simp at h ⊢;rcases h with h|h|h<;>simp[h])
 have ha:=U (JY n k hn);have lN:=J2 n k hn;clear hn;unfold JZ at lN;obtain⟨u,hu⟩:∃u,w.cell? ⟨b,n,none⟩=some u:=⟨_,(hb.cell n).trans (zu (by simp at h;omega))⟩
 have hf:=hb.free n;clear hb hl h;go_enter Tryz.func350,Tryz.ntmps350;go_wp2_with fail;refine(ha.o _ _).mono ?_;rintro y w1 ⟨rfl,rfl⟩;clear ha;go_wp2;go_end0;exact⟨⟨_,rfl⟩,rfl⟩
end
section
open Go.RowKit
theorem oF (w:World) (b:Nat) (T:TypeId):∀(vs:List Value) (o:Nat) (Z:List Value),w.heap[b]? =some (.cells Z.toArray T (0,0))→o+vs.length≤Z.length→
  (w.setCells b o vs).heap[b]? =some (.cells (Z.take o++vs++Z.drop (o+vs.length)).toArray T (0,0))
 |[],o,Z,h,hl=>by
  rw[World.setCells,qD,zN,za3,zak];exact h
 |v::vs,o,Z,h,hl=>by
  rw[World.setCells];have h1:(w.setCell ⟨b,o,none⟩ v).heap[b]? =some (.cells (Z.set o v).toArray T (0,0)):=ah.aB h o v;simp only[zA] at hl;rw[oF _ b T vs (o+1) (Z.set o v) h1 (by simp;omega)];congr 3;rw[zZ (by simp;omega),List.getElem_set_self,List.take_set_of_le (zm _),List.drop_set_of_lt oQ,zA,show o+1+vs.length=o+(vs.length+1) by omega];simp
theorem ah.bytes {w:World} {g:Nat} {T:TypeId} {l:List UInt8} (h:ah w g T (l.map aH)):ay w (some ⟨g,0,none⟩) l:=
 ⟨g,0,λ_=>rfl,λi hi=>by
  rw[qx,h.cell,qb,zu hi];rfl⟩
section
variable {P:Program} {t e:TypeId} {z:Value} {bytes:Nat}
theorem D7 (E:jC P t e z bytes) (ty:TypeId) {w:World} {g n m c2 N:Nat} {T:TypeId} {A2:Addr} {xs Z ys:List Value} (hb:ah w g T (xs++Z)) (hn:xs.length=n) (hN:n+Z.length=N)
  (hr:gZ w (some A2) ys) (hm:ys.length=m) (hle:m≤Z.length) (dV:ys≠[]) (h1:∀u∈ys,u.oneCell'=true):
  ∃w',(Builtin.append_ #[t,t] ty #[.slice (some ⟨g,0,none⟩) n N,.slice (some A2) m c2]).run P w=.ok (.slice (some ⟨g,0,none⟩) (n+m) N) w'∧ah w' g T (xs++ys++Z.drop m)∧Kept g w w'∧w'.heap.size=w.heap.size:=by
 subst hn hm;obtain⟨i,hi,hz,hs,dO⟩:=info_parts E.info;obtain⟨b,off,ha,hc⟩:=hr;have:=ha dV;injection this with this;subst this
 have hrun:=run_append_room_cells (P:=P) (w:=w) t ty e i E.slice hi g 0 xs.length N ⟨b,off,none⟩ ys.length c2 ys (by rw[hs,Ug]) (λj u hu=>by
   obtain⟨hj,rfl⟩:=zL.1 hu;have h2:(⟨b,off,none⟩:Addr).add j=⟨b,off+j,none⟩:=by unfold Addr.add;split<;>simp_all
   rw[h2];exact hc j hj) h1 oQ (λj hj=>by rw[hb.cell,zu (by simp[hs];omega)];rfl) (λj hj=>hb.free _)
 refine⟨_,hrun,?_,⟨by rw[setCells_size];exact zm _,λk _ hk=>iC g _ _ w k hk,λB hB _=>iD g _ _ w B hB⟩,setCells_size _ _ _ _⟩;rw[hs,qx,Ug];have:=oF w g T ys xs.length (xs++Z) hb (by simp;omega);rw[List.take_left,List.drop_append,qO oQ,show xs.length+ys.length - xs.length=ys.length by omega] at this;exact this
theorem SX (E:jC P t e z bytes) {w:World} (kl kc:IntKind) (n:Nat) (lC:bytes*n≤281474976710656) (Pf:n≤140737488355328):
  ∃w',(Instr.makeSlice t (.int kl 0) (.int kc (n:Int))).run P w=.ok (.slice (some ⟨w.heap.size,0,none⟩) 0 n) w'∧
   ah w' w.heap.size e (List.replicate n z)∧Below w.heap.size w w'∧w'.heap.size=w.heap.size+1:=by
 obtain⟨i,hi,hz,hs,hb⟩:=info_parts E.info
 have hr:=run_make (P:=P) w t e i z E.slice hi hz kl kc 0 n oQ oQ (by
  rw[hb];have h:((bytes*n:Nat):Int)≤281474976710656:=oQ
  rwa[Int.natCast_mul] at h) oQ
 simp only[qX,Int.toNat_zero,E.one,hs,Ug] at hr;refine⟨_,hr,?_,iE w _,sQ⟩;have h2:madeCells #[z] n=(List.replicate n z).toArray:=by
  apply Array.ext';rw[toList_madeCells_one]
 rw[h2];exact ah.new w e _
theorem D8 {o:Oper} {a:Act} {w:World} {t:TypeId} {X Y v:Value} (x y:Operand) (ho:o.op=.index t x y) (hx:a.eval x=X) (hy:a.eval y=Y) (hr:(Instr.index t X Y).run P w=.ok v w):
  (execOp a.eval o).run P w=.ok (.value v) w:=by
 unfold execOp;simp only[ho,hx,hy,qE,hr,qp];rfl
end
end
end Go.Proofs.YtdjdpeadohobmaaGreatDoor
