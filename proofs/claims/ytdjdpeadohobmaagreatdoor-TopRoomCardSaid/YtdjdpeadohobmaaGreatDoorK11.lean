/- A part of the walk below the law: what is proved here is used by later parts; no further condition. -/
import Derived.Laws.StructEq
import Derived.Test.YtdjdpeadohobmaaGreatDoorK09
import Derived.Test.YtdjdpeadohobmaaGreatDoorK10
set_option linter.unusedVariables false
set_option linter.unusedSimpArgs false
set_option maxRecDepth 100000
set_option maxHeartbeats 20000000
namespace Go.Proofs.YtdjdpeadohobmaaGreatDoor
section
open Go.RowKit O
def jE:List Value:=[.int .u32 0,.int .u64 0,.int .u64 0,.int .u64 0,.int .i64 0,.int .i64 0,.int .i64 0]
theorem Ze:(Tryz.prog.info? 241).map (·.zero)=some (some (.agg jE.toArray)):=kQ
theorem IG:∀v∈jE,v.oneCell'=true:=by
 intro v hv;unfold jE at hv;simp only[zH,zO,or_false] at hv;rcases hv with rfl|rfl|rfl|rfl|rfl|rfl|rfl<;>rfl
def nb (l:List UInt8) (L m:Nat):Nat:=num ((l.drop L).take m)
def fn (l:List UInt8) (k:Nat):Nat:=nb l (tZ k) (fsz k)
def tk (l:List UInt8):Nat→List Value
 |0=>jE
 |k+1=>upd (fn l k) k (tk l k)
theorem Qb (x k:Nat) (vs:List Value):(upd x k vs).length=vs.length:=by
 unfold upd
 split<;>simp
theorem II (l:List UInt8):∀k,(tk l k).length=7
 |0=>rfl
 |k+1=>by rw[tk,Qb,II l k]
theorem ahB (l:List UInt8):tk l 9=lF (fn l 1) (fn l 4) (fn l 2) (fn l 3) (fn l 5) (fn l 6) (fn l 7):=rfl
def vW (l:List UInt8):Bool:=decide (l.length=512)&&(right (fn l 1) (fn l 4) (fn l 2) (fn l 3) (fn l 5) (fn l 6) (fn l 7)&&decide (head (fn l 1) (fn l 4) (fn l 2) (fn l 3) (fn l 5) (fn l 6) (fn l 7)++l.drop 32=l))
theorem nX {w:World} {g p:Nat} {T:TypeId} {v:Value} (hg:ah w g T jE) (hc:w.cell? ⟨p,0,none⟩=some v) (hv:v≠.int .u32 0):g≠p:=by
 rintro rfl;rw[hg.cell 0] at hc;injection hc with hc;exact hv hc.symm
theorem adF {w:World} {g p0 p2 p3 p4 p5 p6 p7 p8:Nat} {T:TypeId} (h:sJ w p0 p2 p3 p4 p5 p6 p7 p8) (hg:ah w g T jE):g≠p0∧g≠p2∧g≠p3∧g≠p4∧g≠p5∧g≠p6∧g≠p7∧g≠p8:=
 ⟨nX hg h.c0 (by intro h;cases h),nX hg h.c2 (by intro h;cases h),nX hg h.c3 (by intro h;cases h),nX hg h.c4 (by intro h;cases h),nX hg h.c5 (by intro h;cases h),nX hg h.c6 (by intro h;cases h),nX hg h.c7 (by intro h;cases h),nX hg h.c8 (by intro h;cases h)⟩
theorem ay.amb {w:World} {b o:Nat} {l:List UInt8} (h:ay w (some ⟨b,o,none⟩) l) (k:Nat):ay w (some ⟨b,o+k,none⟩) (l.drop k):=by
 refine⟨b,o+k,λ_=>rfl,λi hi=>?_⟩;rw[zR] at hi;obtain⟨b',o',h1,h2⟩:=h;have:=h1 (by rintro rfl;simp at hi);injection this with this;injection this with e1 e2 _;subst e1 e2;rw[zaR,h2 (k+i) oQ,List.getElem_drop]
theorem MH:Tryz.prog.built 241 []=some jE.toArray:=kQ
theorem BI {P:Program} {o:Oper} {a:Act} {w:World} {t:TypeId} (ho:o.op=.build t #[]) {Z:List Value} (hz:P.built t []=some Z.toArray):
  (execOp a.eval o).run P w=.ok (.value (.agg Z.toArray)) w:=by
 unfold execOp;simp only[ho,zac,qK,qE,run_build w t #[] Z.toArray hz,qp];rfl
theorem oG {fn:Func} {p u v:Tmp} {ty:TypeId} (h:fn.results=#[.cell p ty,.tmp u,.tmp v]) {P:Program} {w:World} {a:Addr} {C x y:Value} {tmps:Array Value} (h1:tmps.getD p undef=.pointer (some a)) (h2:tmps.getD u undef=x) (h3:tmps.getD v undef=y) (Gn:(loadVar ty a).run P w=.ok C w):
  (results fn tmps).run P w=.ok (.tuple #[C,x,y]) w:=by
 have h1':tmps[p]?.getD undef=.pointer (some a):=by simpa using h1
 have h2':tmps[u]?.getD undef=x:=by simpa using h2
 have h3':tmps[v]?.getD undef=y:=by simpa using h3
 simp[results,h,h1',h2',h3',asAddr,Gn,Result.andThen]
theorem Zf (l:List UInt8) (L m:Nat) (hm:L+m<l.length):nb l L (m+1)=nb l L m+256^m*(l[L+m]).toNat:=by
 unfold nb;have h1:m<(l.drop L).length:=by rw[zR];omega
 rw[zZ h1,Mc,zF,qP oQ,List.getElem_drop]
theorem J6 (l:List UInt8) (L m:Nat):nb l L m<256^m:=by
 unfold nb;have:=JU ((l.drop L).take m);exact zx this (qQ oQ (by rw[zF];omega))
theorem ahC (v c k:Nat) (hv:v<256^k) (hc:c<256) (hk:k≤7):bits .or .u64 (v:Int) ((c*2^(8*k):Nat):Int)=((v+256^k*c:Nat):Int):=by
 have hp:256^k=2^(8*k):=by rw[Nat.pow_mul]
 have hp7:256^k≤256^7:=qQ oQ hk;have h1:c*2^(8*k)≤255*256^7:=by
  rw[←hp];exact Nat.mul_le_mul oQ hp7
 have e7:256^7=72057594037927936:=dQ
 rw[e7] at h1 hp7;rw[u64_or_nat v (c*2^(8*k)) oQ oQ];congr 1;rw[←Nat.shiftLeft_eq,Nat.or_comm,←Nat.shiftLeft_add_eq_or_of_lt (by rw[←hp];exact hv),Nat.shiftLeft_eq,hp,zaM,Nat.add_comm]
theorem MI (v k:Nat) (c:UInt8) (hv:v<256^k) (hk:k≤7):bits .or .u64 (v:Int) (IntKind.u64.wrap (n8 c*2^(8*k)))=((v+256^k*c.toNat:Nat):Int):=by
 have hc:=c.toNat_lt;have hp:256^k=2^(8*k):=by rw[Nat.pow_mul]
 have hp7:256^k≤256^7:=qQ oQ hk;have h1:c.toNat*2^(8*k)≤255*256^7:=by
  rw[←hp];exact Nat.mul_le_mul oQ hp7
 have e7:256^7=72057594037927936:=dQ
 rw[e7] at h1;have e:n8 c*2^(8*k)=((c.toNat*2^(8*k):Nat):Int):=by unfold n8;simp
 rw[e,IntKind.wrap_u64,qY oQ oQ];exact ahC v c.toNat k hv hc hk
theorem ahD {w:World} {b off:Nat} {l:List UInt8} (hb:ay w (some ⟨b,off,none⟩) l) (i:Nat) (hi:i<l.length):w.cell? ⟨b,off+i,none⟩=some (.int .u8 (n8 l[i])):=by
 obtain⟨b',o',h1,h2⟩:=hb;have:=h1 (by rintro rfl;simp at hi);injection this with this;injection this with e1 e2 _;subst e1 e2;exact h2 i hi
theorem BJ (l:List UInt8) (hl:l.length=512) (w:World) (a:Option Addr) (c:Nat) (hb:ay w a l) (hlc:512≤c):
  Calls Tryz.prog 253 #[.slice a 512 c] w λx w'=>
   ((vW l=false∧x=.returned (.tuple #[.agg jE.toArray,.slice none 0 0,.int .i64 4]))∨
    (vW l=true∧∃A cc,x=.returned (.tuple #[.agg (tk l 9).toArray,.slice A 480 cc,.int .i64 0])∧Own 5 w.heap.size w' A cc ((l.drop 32).map aH)))∧Below w.heap.size w w':=by
 have Hl:=U hl;have UQ:=U (hb.low (by intro h0;rw[h0] at hl;cases hl));obtain⟨b,off,ha,hcell⟩:=hb;obtain rfl:=ha (by intro h0;rw[h0] at hl;cases hl);have Hb:=U (show ay w (some ⟨b,off,none⟩) l from⟨b,off,λ_=>rfl,hcell⟩);have aAE:=U (UQ.o b off rfl);clear hl ha hcell;go_enter Tryz.func253,Tryz.ntmps253
 go_wp2_with (first
  |(refine iF (w:=w) rfl rfl Ze ?_;intro w1 hN hB hS;have X7:=U hN;have jD:=U hB;have J7:=U hS;clear hN hB hS)
  |(refine iF (w:=w1) rfl rfl Ze ?_;intro w2 hN hB hS;have iY:=U hN;have HR2:=U (X7.o.below hB);have bH:=U (jD.o.trans (hB.mono jD.o.size));have Hg2:=U (show w.heap.size<w1.heap.size from X7.o.lt);clear hN hB hS))
 obtain⟨g,hg⟩:∃g,g=w1.heap.size:=⟨_,rfl⟩
 rw[←hg] at iY Hg2 ⊢;clear hg;refine(DX _).mono ?_;rintro x w3 ⟨p0,p2,p3,p4,p5,p6,p7,p8,rfl,hX,hB⟩;have HX3:=U hX;have UJ:=U (HR2.o.below hB);have jo:=U (iY.o.below hB);have iB:=U (bH.o.trans (hB.mono bH.o.size));have Hb3:=U (Hb.o.below iB.o);have hXg:=U (show g≠p0∧g≠p2∧g≠p3∧g≠p4∧g≠p5∧g≠p6∧g≠p7∧g≠p8 from adF hX jo.o);clear hX hB X7 jD J7 HR2 iY bH Hb;obtain⟨F,hF⟩:∃F,F=(lY p0 p2 p3 p4 p5 p6 p7 p8).toArray:=⟨_,rfl⟩
 rw[←hF];have HF:=U hF;clear hF;go_wp2_with fail;go_loopw [6,19] (λr k wr=>∃(j o cc:Nat),j≤9∧k=.int .i64 j∧r=.slice (some ⟨b,o,none⟩) (512 - tZ j) cc∧o=off+tZ j∧cc+tZ j=c∧ah wr g 241 (tk l j)∧Kept g w3 wr) (λ_ k _=>9 - (intOf k).toNat)
 case atStart=>exact⟨0,off,c,oQ,rfl,rfl,rfl,rfl,jo.o,Kept.refl _ _⟩
 case round=>
  obtain⟨j,o,cc,hj,rfl,rfl,ho,hcc,hT,hK⟩:=hrel;have HT:=U hT;have HK:=U hK;have Ho:=U ho;have Hcc:=U hcc;clear hT hK ho hcc;by_cases hj9:j<9
  ·obtain⟨gf,sf,gc,sc, -,lN,IE, -,kM⟩:=Mx HF.o j hj9
   unfold JZ at lN;have IE:=IE wr;obtain⟨sz,gJ⟩:∃sz,sz=fsz j:=⟨_,rfl⟩
   obtain⟨N,hN⟩:∃N,N=tZ j:=⟨_,rfl⟩
   obtain⟨uO,asC,nM⟩:sz≤6∧N+sz≤32∧tZ (j+1)=N+sz:=by rw[gJ,hN];exact Mw j hj9
   have Hn1:=U nM;have Hfn:=U (show fn l j=nb l N sz by rw[hN,gJ];rfl);have asI:=U (show fn l j<256^sz by rw[Hfn.o];exact J6 _ _ _);rw[←gJ] at IE;have Zg:=U (show∀(b x:Nat) (T:TypeId) (vs:List Value) W,ah W b T vs→vs.length=7→x<256^sz→sJ W p0 p2 p3 p4 p5 p6 p7 p8→Calls Tryz.prog sf (#[.pointer (some ⟨b,0,none⟩),.int .u64 (x:Int)]++sc) W λy w'=>(∃v,y=.returned v)∧ah w' b T (upd x j vs)∧Kept b W w' by rw[gJ];exact kM);have Hix:=U IE;have HX:=U (HX3.o.kept HK.o hXg.o);replace Ho:=U (show o=off+N by rw[hN];exact Ho.o);replace Hcc:=U (show cc+N=c by rw[hN];exact Hcc.o);rw[←hN];have vS:sz<cc:=by have:=Hcc.o;omega
   have Hbw:=U (show ay wr (some ⟨b,off,none⟩) l from Hb3.o.SY HK.o (λb' o' e=>by have:=UQ.o b' o' e;have:=Hg2.o;omega));clear IE kM gJ hN nM
   go_wp2_with (first
    |(refine bB _ rQ (D8 (.tmp 18) (.tmp 19) rfl rfl rfl Hix.o) ?_)
    |(refine iF rfl rfl afS ?_;intro wa hN hB hS;have HA:=U hN;have Cr:=U hB;clear hN hB hS)
    |(refine dJ 335 (.tmp 8) (.tmp 21) rfl wr.heap.size [.int .i64 (sz:Int),.func (.func gf) #[] gc,.func (.func sf) #[] sc] JV 335 rfl rfl HA.o rfl BA (by intro v hv;simp only[zH,zO,or_false] at hv;rcases hv with rfl|rfl|rfl<;>rfl) rQ ?_;intro wb hN hK hS;have Gs:wb.cell? ⟨wr.heap.size,0,none⟩=some (.int .i64 (sz:Int)):=hN.cell 0;have hc2:wb.cell? ⟨wr.heap.size,2,none⟩=some (.func (.func sf) #[] sc):=hN.cell 2;have Ae:=U hN;have Zd:=U (Cr.o.trans (hK.below _ (zm _) Cr.o.size));clear hN hK hS))
   obtain⟨gf',hgf⟩:∃gf',gf'=wr.heap.size:=⟨_,rfl⟩
   rw[←hgf] at Gs hc2 Ae ⊢;have Hgf:=U (show g<gf' by rw[hgf];exact HT.o.lt);have HXb:=U (HX.o.below Zd.o);have HTb:=U (HT.o.below Zd.o);have HKw:=U (HK.o.trans (Kept.of_below Zd.o));have Hbb:=U (Hbw.o.below Zd.o);clear hgf HA Cr Zd HX HT HK Hbw Hix;go_loopw [9,24] (λn j ws=>∃(m:Nat),m≤sz∧j=.int .i64 m∧n=.int .u64 ((nb l N m:Nat):Int)∧ws=wb) (λ_ j _=>sz - (intOf j).toNat)
   case atStart=>exact⟨0,oQ,rfl,rfl,rfl⟩
   case round=>
    obtain⟨m,hm,rfl,rfl,rfl⟩:=hrel;by_cases fC:m<sz
    ·have Hnx:=U (Zf l N m (by rw[Hl.o];omega))
     have hv:=J6 l N m;have hc:wr.cell? ⟨b,o+m,none⟩=some (.int .u8 (n8 (l[N+m]'(by rw[Hl.o];omega)))):=by
      have:=ahD Hbb.o (N+m) (by rw[Hl.o];omega);rw[Ho.o];exact(show wr.cell? ⟨b,off+N+m,none⟩=_ from by rw[zaR];exact this)
     generalize l[N+m]'(by rw[Hl.o];omega)=ch at hc Hnx;have h8:=Sw ch;generalize nb l N m=v at*;have how:=MI v m ch hv oQ;obtain⟨u,hu⟩:∃u,u=v+256^m*ch.toNat:=⟨_,rfl⟩
     rw[←hu] at how Hnx;clear hv hu;go_wp2;go_roundw
     case rel=>exact⟨m+1,oQ,by go_num,by rw[Hnx.o],trivial⟩
     case measure=>simp[intOf];omega
    ·obtain rfl:m=sz:=oQ
     clear fC hm;obtain⟨MJ,UR⟩:∃MJ,MJ=nb l N m:=⟨_,rfl⟩
     rw[←UR];have amc:=U (show MJ=fn l j from UR.trans Hfn.o.symm);clear UR;go_wp2_with fail;refine(Zg.o g MJ _ _ _ HTb.o (II l j) (by rw[amc.o];exact asI.o) HXb.o).mono ?_;rintro y wd ⟨⟨v,rfl⟩,hT2,hK2⟩
     have HTd:=U (show ah wd g 241 (tk l (j+1)) by
      rw[amc.o] at hT2;exact hT2)
     have HKd:=U (HKw.o.trans hK2);have aAL:wd.cell? ⟨gf',0,none⟩=some (.int .i64 (m:Int)):=by rw[hK2.fP (zq _ _ Gs) (Yw Hgf.o)];exact Gs
     clear hT2 hK2;go_wp2;go_roundw
     case rel=>exact⟨j+1,_,_,oQ,by go_num,(by rw[Hn1.o,Nat.sub_add_eq]),(by rw[Ho.o,Hn1.o];exact zaR _ _ _),(by have:=Hcc.o;have:=Hn1.o;omega),HTd.o,HKd.o⟩
     case measure=>simp[intOf];omega
  ·obtain rfl:j=9:=oQ
   clear hj9;have HX:=U trivial
   have wT:=U (show ay wr (some ⟨b,o,none⟩) (l.drop 32) by
    have:=Hb3.o.SY HK.o (λb' o' e=>by have:=UQ.o b' o' e;have:=Hg2.o;omega);rw[Ho.o];exact this.amb 32)
   have Hw0:=U (show ay wr (some ⟨b,off,none⟩) l from Hb3.o.SY HK.o (λb' o' e=>by have:=UQ.o b' o' e;have:=Hg2.o;omega));have HRr:=U (UJ.o.kept HK.o (Nat.ne_of_lt Hg2.o));have HBr:=U (iB.o.trans (HK.o.below _ (Nat.le_of_lt Hg2.o) iB.o.size));have HT9:=U (show ah wr g 241 (lF (fn l 1) (fn l 4) (fn l 2) (fn l 3) (fn l 5) (fn l 6) (fn l 7)) from HT.o);have hle:(l.drop 32).length=480:=by rw[zR,Hl.o]
   have HLe:=U hle;have Htk:=U (show tk l 9=lF (fn l 1) (fn l 4) (fn l 2) (fn l 3) (fn l 5) (fn l 6) (fn l 7) from rfl);have ame:=U (show vW l=(right (fn l 1) (fn l 4) (fn l 2) (fn l 3) (fn l 5) (fn l 6) (fn l 7)&&decide (head (fn l 1) (fn l 4) (fn l 2) (fn l 3) (fn l 5) (fn l 6) (fn l 7)++l.drop 32=l)) by unfold vW;rw[decide_eq_true Hl.o,Bool.true_and]);have he1:fn l 1<4294967296:=J6 _ _ _;simp only[show tZ 9=32 from rfl];clear HT hle HK HX;generalize fn l 1=n1 at*;generalize fn l 2=n2 at*;generalize fn l 3=n3 at*;generalize fn l 4=n4 at*;generalize fn l 5=n5 at*;generalize fn l 6=n6 at*;generalize fn l 7=n7 at*;go_wp2_with (refine kF (.tmp 5) rfl g rfl (lF n1 n4 n2 n3 n5 n6 n7) _ HT9.o Tryz.underlying241 rfl mY rQ ?_);rw[show(lF n1 n4 n2 n3 n5 n6 n7).toArray=tagV n1 n4 n2 n3 n5 n6 n7 from rfl];rcases hq:right n1 n4 n2 n3 n5 n6 n7 with _|_
   ·have Qc:=U (show vW l=false by rw[ame.o,hq];rfl)
    refine(UH n1 n4 n2 n3 n5 n6 n7 480 (.inl hq) _ _ _).mono ?_;rintro x we ⟨rfl,hB⟩;have HRe:=U (HRr.o.below hB);have HBe:=U (HBr.o.trans (hB.mono HBr.o.size));clear hB hq
    go_wp2_with (first
     |(refine bB (.agg jE.toArray) rQ (BI rfl MH) ?_)
     |(refine dJ 241 (.tmp 2) (.tmp 61) rfl w.heap.size jE jE 241 rfl rfl HRe.o rfl mY IG rQ ?_;intro wz hN hK hS;have HNz:=U hN;have HBz:=U (HBe.o.trans (hK.below _ (zm _) HBe.o.size));clear hN hK hS))
    have Gn:=mq (P:=Tryz.prog) (T:=241) HNz.o Tryz.underlying241 rfl mY;exact bodyPost_ret (v:=.tuple #[.agg jE.toArray,.slice none 0 0,.int .i64 4]) (oG Tryz.results253 rfl rfl rfl Gn) rfl ⟨.inl ⟨Qc.o,rfl⟩,HBz.o⟩
   ·have af2:=U (show vW l=decide (head n1 n4 n2 n3 n5 n6 n7++l.drop 32=l) by rw[ame.o,hq];rfl)
    refine(Eb n1 n4 n2 n3 n5 n6 n7 he1 hq (l.drop 32) HLe.o _ _ _ wT.o).mono ?_;rintro x we ⟨ge,rfl,xW,hE,hB⟩;have HRe:=U (HRr.o.below hB);have HTe:=U (HT9.o.below hB);have HBe:=U (HBr.o.trans (hB.mono HBr.o.size));have asK:=U (Hw0.o.below hB);have asL:=U (wT.o.below hB);have HEe:=U hE.bytes;have iZ:=U (show(head n1 n4 n2 n3 n5 n6 n7++l.drop 32).length=512 by rw[zw,jm,HLe.o]);clear hB hq xW hE;go_wp2_with fail;refine(IB (head n1 n4 n2 n3 n5 n6 n7++l.drop 32) l 512 512 iZ.o Hl.o _ _ _ _ _ HEe.o asK.o).mono ?_;rintro x wf ⟨rfl,rfl⟩;rcases heq:decide (head n1 n4 n2 n3 n5 n6 n7++l.drop 32=l) with _|_
    ·have Qc:=U (af2.o.trans heq)
     clear heq
     go_wp2_with (first
      |(refine bB (.agg jE.toArray) rQ (BI rfl MH) ?_)
      |(refine dJ 241 (.tmp 2) (.tmp 61) rfl w.heap.size jE jE 241 rfl rfl HRe.o rfl mY IG rQ ?_;intro wz hN hK hS;have HNz:=U hN;have HBz:=U (HBe.o.trans (hK.below _ (zm _) HBe.o.size));clear hN hK hS))
     have Gn:=mq (P:=Tryz.prog) (T:=241) HNz.o Tryz.underlying241 rfl mY;exact bodyPost_ret (v:=.tuple #[.agg jE.toArray,.slice none 0 0,.int .i64 4]) (oG Tryz.results253 rfl rfl rfl Gn) rfl ⟨.inl ⟨Qc.o,rfl⟩,HBz.o⟩
    ·have asM:=U (af2.o.trans heq)
     clear heq;obtain⟨A',c',wA,iT,hown,hBA⟩:=gu DU 22 (base:=we.heap.size) (w:=we.drew) (A:=none) (n:=0) (c:=0) (m:=480) (c2:=cc) Own.nothing rfl (asL.o.below (zn _ _).drew).row (by rw[zD,HLe.o]) (eP _) oQ oQ sQ;rw[qx] at iT;rw[zB] at hown;obtain⟨ga,rfl,asN,asO⟩:=hown.form (by intro h0;have:=congrArg List.length h0;rw[zD,HLe.o] at this;simp at this);have HO:=U hown;have HBA:=U (show Below we.heap.size we wA from(zn _ _).drew.trans hBA);have HRa:=U (HRe.o.below HBA.o);have HTa:=U (HTe.o.below HBA.o);have Cr:=U (HBe.o.trans (HBA.o.mono HBe.o.size));have Hga:=U (show w.heap.size<ga by have:=HRe.o.lt;omega);clear hown hBA asN asO;go_wp2_with fail;refine wp_region_noPanic ?_;refine wp_region_held_drew (S:=λW=>ah W g 241 (lF n1 n4 n2 n3 n5 n6 n7)) kQ (HTe.o.below (zn _ _).drew) (λhS=>?_);refine take_at (i:=0) (v:=.agg (lF n1 n4 n2 n3 n5 n6 n7).toArray) rfl kQ kQ kQ (λ_ _ _ h=>h) hS rQ ?h0 ?r0
     case h0=>(intro W iR;exact Bt (.tmp 5) rfl g rfl (lF n1 n4 n2 n3 n5 n6 n7) _ iR Tryz.underlying241 rfl mY)
     try simp only[Act.put,zh,zk,zl]
     refine take_at (i:=1) (v:=?v1) rfl kQ kQ kQ (λ_ _ _ h=>h) hS rQ ?h1 ?r1
     case h1=>(intro W iR;(try dsimp only at iR);go_simp;(try with_reducible rfl))
     try simp only[Act.put,zh,zk,zl]
     refine oP (i:=2) rfl kQ (λK hK=>?_);refine sG (.const (.slice none 0 0)) (.tmp 63) iT rfl rfl rfl rfl ?_;refine hK.out _ _ HTa.o (λhS=>?_);clear hK K
     try simp only[Act.put,zh,zk,zl]
     refine oP (i:=3) rfl kQ (λK hK=>?_);refine jU 241 (.tmp 2) (.tmp 62) rfl w.heap.size (lF n1 n4 n2 n3 n5 n6 n7) jE 241 rfl rfl HRa.o rfl mY (Za _ _ _ _ _ _ _) rQ ?_;intro wz hN hK2 bV;have HNz:=U hN;have HTz:=U (HTa.o.kept hK2 (Yw Hg2.o));have HBz:=U (Cr.o.trans (hK2.below _ (zm _) Cr.o.size));have HOz:=U ((HO.o.kept hK2 (λg' e=>by cases e;exact Yw Hga.o)).mono (base':=w.heap.size) HBe.o.size);clear hN hK2 bV;refine hK.out _ _ HTz.o (λhS=>?_);clear hK K
     try simp only[Act.put]
     refine oP (i:=4) rfl kQ (λK hK=>?_);go_simp;refine hK.out _ _ HTz.o (λhS=>?_);clear hK K
     try simp only[Act.put,zh,zk,zl]
     refine oP (i:=5) rfl kQ (λK hK=>?_);go_simp;refine hK.out _ _ HTz.o (λhS=>?_);clear hK K
     try simp only[Act.put,zh,zk,zl]
     refine wpAnyH_done kQ ?_ _;refine NoPanic.normal ?_;go_wp2_with fail;have Gn:=mq (P:=Tryz.prog) (T:=241) HNz.o Tryz.underlying241 rfl mY;exact bodyPost_ret (v:=.tuple #[.agg (lF n1 n4 n2 n3 n5 n6 n7).toArray,.slice (some ⟨ga,0,none⟩) 480 c',.int .i64 0]) (oG Tryz.results253 rfl rfl rfl Gn) rfl ⟨.inr ⟨asM.o,_,_,by rw[Htk.o],HOz.o⟩,HBz.o⟩
theorem UU {P:Program} {K:IntKind} {e:TypeId} (he:P.underlying e=some (.int K)) {xs:Array Value} {off:Nat} {v:Value} (hx:xs[off]? =some v) (w:World):(part e xs off).run P w=.ok v w:=by
 simp[part,isAgg,run_underlying he,hx]
theorem Ec (a m b:List UInt8) (L k:Nat) (ha:a.length=L) (hm:m.length=k):nb (a++(m++b)) L k=num m:=by
 unfold nb;subst ha hm;rw[List.drop_left,List.take_left]
theorem eF (k x:Nat) (h:x<256^k):num (le k x)=x:=by rw[Au,zaz h]
theorem Ta {e s q f i c d:Nat} (he:e<4294967296) (h:right e s q f i c d=true) (l:List UInt8):
  fn (head e s q f i c d++l) 1=e∧fn (head e s q f i c d++l) 4=s∧fn (head e s q f i c d++l) 2=q∧fn (head e s q f i c d++l) 3=f∧fn (head e s q f i c d++l) 5=i∧fn (head e s q f i c d++l) 6=c∧fn (head e s q f i c d++l) 7=d:=by
 obtain⟨-,a1,a2,a3,a4,a5,a6,a7,a8,a9,aa⟩:=yg h;have e4:256^4=4294967296:=dQ
 have e6:256^6=281474976710656:=dQ
 have e1:256^1=256:=dQ
 have e2:256^2=65536:=dQ
 refine⟨?_,?_,?_,?_,?_,?_,?_⟩
 ·have h1:head e s q f i c d++l=le 4 1465012808++(le 4 e++(le 6 q++(le 6 f++(le 6 s++(le 1 i++(le 1 c++(le 2 d++(le 2 0++l)))))))):=by unfold head;simp only[zP]
  rw[h1];exact(Ec _ _ _ 4 4 (by simp[aA]) (aA _ _)).trans (eF 4 e oQ)
 ·have h1:head e s q f i c d++l=(le 4 1465012808++(le 4 e++(le 6 q++le 6 f)))++(le 6 s++(le 1 i++(le 1 c++(le 2 d++(le 2 0++l))))):=by unfold head;simp only[zP]
  rw[h1];exact(Ec _ _ _ 20 6 (by simp[aA]) (aA _ _)).trans (eF 6 s oQ)
 ·have h1:head e s q f i c d++l=(le 4 1465012808++le 4 e)++(le 6 q++(le 6 f++(le 6 s++(le 1 i++(le 1 c++(le 2 d++(le 2 0++l))))))):=by unfold head;simp only[zP]
  rw[h1];exact(Ec _ _ _ 8 6 (by simp[aA]) (aA _ _)).trans (eF 6 q oQ)
 ·have h1:head e s q f i c d++l=(le 4 1465012808++(le 4 e++le 6 q))++(le 6 f++(le 6 s++(le 1 i++(le 1 c++(le 2 d++(le 2 0++l)))))):=by unfold head;simp only[zP]
  rw[h1];exact(Ec _ _ _ 14 6 (by simp[aA]) (aA _ _)).trans (eF 6 f oQ)
 ·have h1:head e s q f i c d++l=(le 4 1465012808++(le 4 e++(le 6 q++(le 6 f++le 6 s))))++(le 1 i++(le 1 c++(le 2 d++(le 2 0++l)))):=by unfold head;simp only[zP]
  rw[h1];exact(Ec _ _ _ 26 1 (by simp[aA]) (aA _ _)).trans (eF 1 i oQ)
 ·have h1:head e s q f i c d++l=(le 4 1465012808++(le 4 e++(le 6 q++(le 6 f++(le 6 s++le 1 i)))))++(le 1 c++(le 2 d++(le 2 0++l))):=by unfold head;simp only[zP]
  rw[h1];exact(Ec _ _ _ 27 1 (by simp[aA]) (aA _ _)).trans (eF 1 c oQ)
 ·have h1:head e s q f i c d++l=(le 4 1465012808++(le 4 e++(le 6 q++(le 6 f++(le 6 s++(le 1 i++le 1 c))))))++(le 2 d++(le 2 0++l)):=by unfold head;simp only[zP]
  rw[h1];exact(Ec _ _ _ 28 2 (by simp[aA]) (aA _ _)).trans (eF 2 d oQ)
theorem head_drop (e s q f i c d:Nat) (l:List UInt8):(head e s q f i c d++l).drop 32=l:=by
 rw[←jm e s q f i c d,List.drop_left]
theorem adG {e s q f i c d:Nat} (he:e<4294967296) (h:right e s q f i c d=true) (l:List UInt8) (hl:l.length=480):vW (head e s q f i c d++l)=true:=by
 obtain⟨r1,r2,r3,r4,r5,r6,r7⟩:=Ta he h l;unfold vW;rw[r1,r2,r3,r4,r5,r6,r7,h,head_drop,decide_eq_true (show(head e s q f i c d++l).length=512 by rw[zw,jm,hl])];simp
theorem adH {e s q f i c d:Nat} (he:e<4294967296) (h:right e s q f i c d=true) (l:List UInt8):tk (head e s q f i c d++l) 9=lF e s q f i c d:=by
 obtain⟨r1,r2,r3,r4,r5,r6,r7⟩:=Ta he h l;rw[ahB,r1,r2,r3,r4,r5,r6,r7]
end
section
open Go.RowKit Go.Shelf O
def encS:Option tQ→Bytes
 |none=>zeros 512
 |some x=>head x.epoch x.start x.seq (x.seq - 1) x.index x.count x.id++x.data
theorem tQ.Right.tag {B seq:Nat} {x:tQ} (h:x.Right B seq) (hB:B≤3840) (hs:seq≤iQ):right x.epoch x.start x.seq (x.seq - 1) x.index x.count x.id=true:=by
 have h1:=h.epoch;have h2:=h.start;have h3:=h.seq;have h4:=h.count;have h5:=h.id;unfold iQ at hs;unfold right;rw[decide_eq_true_eq];omega
theorem Zh {B seq:Nat} {x:tQ} (h:x.Right B seq):(encS (some x)).length=512:=by
 rw[encS,zw,jm,h.data]
def sK (P:Nat):List Int:=(List.range P).map (λ(p:Nat)=>(p:Int)+1)
theorem IJ {P p:Nat} (h:p<P):(sK P)[p]? =some ((p:Int)+1):=by
 rw[sK,qb,qW h];rfl
def nQ (d r t:Nat) (s:JS):List Value:=
 [.pointer (some ⟨d,0,none⟩),.pointer (some ⟨r,0,none⟩),.pointer (some ⟨t,0,none⟩),.int .i64 s.B,.int .u32 s.epoch,.int .u64 s.start,.int .u64 s.seq,.int .i64 s.head,.int .i64 s.used,.int .i64 s.freed,.bool false]
structure Ga (w:World) (j:Nat) (s:JS) (C:Nat→Bytes) (st:Nat→Bytes) (wt:Wt) (F:Nat→Prop) (d r rb t pb ob:Nat) (Fd:Nat→Prop) (f g:Nat→Option Nat):Prop where
 cells:ah w j 198 (nQ d r t s)
 dev:Dev w d (s.P+1) st wt false Fd
 ring:RingAt w r rb s.P (sK s.P)
 tab:TabAt w t pb ob s.B s.P f g
 at_:∀id,id<s.B→f id=s.at_ id
 ok:rD s C
 secs:∀p,p<s.P→view st wt (p+1)=encS (s.sec p)
 sup:view st wt 0=eG s.B s.P
 len:∀k,(st k).length=512
 X8:wt.length≤72∧∀e∈wt,e.1<s.P+1∧e.2.length=512
 Ct:Geo s.B s.P
 freed:s.freed≤48
 own:F j∧F r∧F rb∧F t∧F pb∧F ob∧∀k,Fd k→F k
 apart:¬Fd j∧¬Fd r∧¬Fd rb∧¬Fd t∧¬Fd pb∧¬Fd ob
 two:rb≠pb∧rb≠ob
 lt:∀k,F k→k<w.heap.size
def wU (w:World) (j d:Nat) (s:JS) (C:Nat→Bytes) (st:Nat→Bytes) (wt:Wt) (F:Nat→Prop):Prop:=∃r rb t pb ob Fd f g,Ga w j s C st wt F d r rb t pb ob Fd f g
section
variable {w w':World} {j:Nat} {s:JS} {C:Nat→Bytes} {st:Nat→Bytes} {wt:Wt} {F:Nat→Prop} {d r rb t pb ob:Nat} {Fd:Nat→Prop} {f g:Nat→Option Nat}
theorem Ga.step {G G':Nat→Prop} (hs:Step G w G' w') (h:Ga w j s C st wt F d r rb t pb ob Fd f g) (hn:∀k,F k→¬G k):Ga w' j s C st wt F d r rb t pb ob Fd f g:=by
 obtain⟨o1,o2,o3,o4,o5,o6,o7⟩:=h.own;exact⟨h.cells.step hs (hn _ o1),h.dev.step hs (λk hk=>hn _ (o7 k hk)),h.ring.step hs (hn _ o2) (hn _ o3),h.tab.step hs (hn _ o4) (hn _ o5) (hn _ o6),h.at_,h.ok,h.secs,h.sup,h.len,h.X8,h.Ct,h.freed,h.own,h.apart,h.two,λk hk=>zx (h.lt k hk) hs.size⟩
theorem wU.step {G G':Nat→Prop} (hs:Step G w G' w') (h:wU w j d s C st wt F) (hn:∀k,F k→¬G k):wU w' j d s C st wt F:=by
 obtain⟨r,rb,t,pb,ob,Fd,f,g,h⟩:=h;exact⟨r,rb,t,pb,ob,Fd,f,g,h.step hs hn⟩
theorem wU.below (hs:Below w.heap.size w w') (h:wU w j d s C st wt F):wU w' j d s C st wt F:=h.step (Step.of_below hs (λ_=>False)) (λ_ _ h=>h)
theorem Ga.below (hs:Below w.heap.size w w') (h:Ga w j s C st wt F d r rb t pb ob Fd f g):Ga w' j s C st wt F d r rb t pb ob Fd f g:=h.step (Step.of_below hs (λ_=>False)) (λ_ _ h=>h)
theorem Ga.Tc {MK:Nat→Prop} (h:Ga w j s C st wt F d r rb t pb ob Fd f g) (hs:Step Fd w MK w') (hd:Dev w' d (s.P+1) st wt false MK) (hF:∀k,MK k→Fd k):Ga w' j s C st wt F d r rb t pb ob Fd f g∧Step F w F w':=by
 obtain⟨o1,o2,o3,o4,o5,o6,o7⟩:=h.own;obtain⟨a1,a2,a3,a4,a5,a6⟩:=h.apart;have hd':Dev w' d (s.P+1) st wt false Fd:=by
  obtain⟨sb,ss,vw,xs,tb,cr,cw,cf,hd⟩:=hd;obtain⟨p1,p2,p3,p4⟩:=hd.own;have bA:∀k,Fd k→k<w'.heap.size:=λk hk=>zx (h.lt k (o7 k hk)) hs.size;exact⟨sb,ss,vw,xs,tb,cr,cw,cf,hd.cells,hd.row,hd.len,hd.secs,hd.wait,hd.waits,hd.tT,⟨hF _ p1,hF _ p2,hF _ p3,λg hg=>hF _ (p4 g hg)⟩,bA,hd.few⟩
 exact⟨⟨h.cells.step hs a1,hd',h.ring.step hs a2 a3,h.tab.step hs a4 a5 a6,h.at_,h.ok,h.secs,h.sup,h.len,h.X8,h.Ct,h.freed,h.own,h.apart,h.two,λk hk=>zx (h.lt k hk) hs.size⟩,hs.more o7 (λk hk=>.inl hk)⟩
theorem Ga.cell (h:Ga w j s C st wt F d r rb t pb ob Fd f g) (i:Nat):w.cell? ⟨j,i,none⟩=(nQ d r t s)[i]?:=h.cells.cell i
theorem Ga.Zi (h:Ga w j s C st wt F d r rb t pb ob Fd f g) (k:Nat):(view st wt k).length=512:=by
 unfold view
 split
 ·rename_i e he
  exact(h.X8.2 e (List.mem_reverse.1 (qN he))).2
 ·exact h.len k
end
end
end Go.Proofs.YtdjdpeadohobmaaGreatDoor
