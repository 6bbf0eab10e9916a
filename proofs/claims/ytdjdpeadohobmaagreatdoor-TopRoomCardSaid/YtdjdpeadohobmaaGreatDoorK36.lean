/- A part of the walk below the law: what is proved here is used by later parts; no further condition. -/
import Derived.Lib.AppendStr
import Derived.Test.YtdjdpeadohobmaaGreatDoorK13
import Derived.Test.YtdjdpeadohobmaaGreatDoorK14
import Derived.Test.YtdjdpeadohobmaaGreatDoorK18
import Derived.Test.YtdjdpeadohobmaaGreatDoorK31
import Derived.Test.YtdjdpeadohobmaaGreatDoorK33
import Derived.Test.YtdjdpeadohobmaaGreatDoorK35
set_option linter.unusedVariables false
set_option linter.unusedSimpArgs false
set_option maxRecDepth 100000
set_option maxHeartbeats 20000000
namespace Go.Proofs.YtdjdpeadohobmaaGreatDoor
section
open Go.RowKit Go.Shelf
attribute [local go_sem] Oper.semAt_some
def ny (B:Nat) (l:List UInt8) (v:Value) (w:World):Prop:=
 match ni l with
 |none=>v=.tuple #[.slice none 0 0,.int .i64 1]
 |some D=>∃a c,v=.tuple #[.slice a D.length c,.int .i64 0]∧Own 9 B w a c (D.map ku)
theorem K7:jC Tryz.prog 30 9 (.string ⟨#[]⟩) 16:=⟨Tryz.underlying30,kQ,rfl⟩
theorem abh {e:TypeId} {base n:Nat} {w:World} {v:Value} {xs:List Value} (hn:xs.length=n) (h:w.ownsRow base e 1 v n xs):∃A c,v=.slice A n c∧Own e base w A c xs:=by
 subst hn;have hh:=h;rcases h.2 with⟨rfl,h0⟩|⟨g,cap,cur,rfl,_⟩
 ·have:xs=[]:=zX h0
  subst this;exact⟨none,0,rfl,Own.nothing⟩
 ·exact⟨_,cap,rfl,hh⟩
theorem WR (l:List UInt8) (w:World):
  Calls Tryz.prog 173 #[.string ⟨l.toArray⟩] w λe w'=>(∃v,e=.returned v∧ny w.heap.size l v w')∧Below w.heap.size w w':=by
 obtain⟨n,gJ⟩:∃n,l.length=n:=⟨_,rfl⟩
 have abj:(l==[])=decide (n=0):=by
  rw[q9,beq_iff_eq,decide_eq_true_eq,←gJ];exact List.length_eq_zero_iff.symm
 refine(callsIn_wide (n:=3)).1 ?_;by_cases h1:1000<n
 ·have E:ni l=none:=by
   unfold ni;rw[if_neg (by rintro rfl;simp at gJ;omega),if_pos (.inr (.inl oQ))]
  refine callsIn_of_wp_marks Tryz.func173 rfl trivial ?_ rfl;simp only[Tryz.ntmps173,zQ,zA,zN,Nat.reduceAdd,Nat.reduceSub,zJ,zK,zT,zM,zB,zU];gi_wp2;refine⟨.tuple #[.slice none 0 0,.int .i64 1],?_,⟨_,rfl,by unfold ny;rw[E]⟩,((zn _ _).alloc (zm _) _).alloc sQ _⟩;simp[results,Tryz.f173,go_sem]
 ·by_cases Oo:l=[47]
  ·subst Oo
   have hx:n=1:=by simpa using gJ.symm
   subst hx;refine callsIn_of_wp_marks Tryz.func173 rfl trivial ?_ rfl;simp only[Tryz.ntmps173,zQ,zA,zN,Nat.reduceAdd,Nat.reduceSub,zJ,zK,zT,zM,zB,zU];gi_wp2;refine⟨.tuple #[.slice none 0 0,.int .i64 0],?_,⟨_,rfl,none,0,rfl,Own.nothing⟩,((zn _ _).alloc (zm _) _).alloc sQ _⟩;simp[results,Tryz.f173,go_sem]
  ·by_cases h0:n=0
   ·have hl:l=[]:=zX (gJ.trans h0)
    subst hl;subst h0;have E:ni []=none:=rfl;refine callsIn_of_wp_marks Tryz.func173 rfl trivial ?_ rfl;simp only[Tryz.ntmps173,zQ,zA,zN,Nat.reduceAdd,Nat.reduceSub,zJ,zK,zT,zM,zB,zU];gi_wp2;refine⟨.tuple #[.slice none 0 0,.int .i64 1],?_,⟨_,rfl,by unfold ny;rw[E]⟩,((zn _ _).alloc (zm _) _).alloc sQ _⟩;simp[results,Tryz.f173,go_sem]
   ·have AP:0<l.length:=oQ
    have dV:(l==[])=false:=by rw[abj];simp[h0]
    obtain⟨x,hx⟩:∃x,(l[0]'AP).toNat=x:=⟨_,rfl⟩
    have hxb:∀h:0<(ByteArray.mk l.toArray).size,((ByteArray.mk l.toArray)[0]'h).toNat=x:=λh=>hx;by_cases h47:x=47
    ·have aoC:(l==[47])=false:=by rw[beq_eq_false_iff_ne];exact Oo
     have hi:((x:Int)==47)=true:=by rw[h47];rfl
     have jQ:((x:Int) !=47)=false:=by rw[bne,hi];rfl
     refine callsIn_of_wp_marks Tryz.func173 rfl trivial ?_ rfl;simp only[Tryz.ntmps173,zQ,zA,zN,Nat.reduceAdd,Nat.reduceSub,zJ,zK,zT,zM,zB,zU];gi_wp2_with (refine⟨trivial,?_⟩;gi_at_call 246;refine(callsIn_wide.2 (WQ l _)).mono ?_;rintro e w' ⟨rfl,rfl⟩);obtain⟨i0,hi0,hz0,hz1,hz2⟩:=info_parts K7.info;have b0:=Boxed.new w 30 (.slice none 0 0);have b1:=Boxed.new (w.alloc (.cells #[.slice none 0 0] 30)) 26 (.int .i64 0);have b2:=Boxed.new ((w.alloc (.cells #[.slice none 0 0] 30)).alloc (.cells #[.int .i64 0] 26)) 30 (.slice none 0 0);have b3:=Boxed.new (((w.alloc (.cells #[.slice none 0 0] 30)).alloc (.cells #[.int .i64 0] 26)).alloc (.cells #[.slice none 0 0] 30)) 9 (.string ⟨l.toArray⟩);have Pk:Below w.heap.size w ((((w.alloc (.cells #[.slice none 0 0] 30)).alloc (.cells #[.int .i64 0] 26)).alloc (.cells #[.slice none 0 0] 30)).alloc (.cells #[.string ⟨l.toArray⟩] 9)):=((((zn _ w).alloc (zm _) _).alloc sQ _).alloc (by simp;omega) _).alloc (by simp;omega) _;have c0:=((b0.alloc (.cells #[.int .i64 0] 26)).alloc (.cells #[.slice none 0 0] 30)).alloc (.cells #[.string ⟨l.toArray⟩] 9);have c1:=(b1.alloc (.cells #[.slice none 0 0] 30)).alloc (.cells #[.string ⟨l.toArray⟩] 9);have c2:=b2.alloc (.cells #[.string ⟨l.toArray⟩] 9);clear b0 b1 b2;simp only[zah] at c1 c2 b3;obtain⟨W0,hW0⟩:∃W0,((((w.alloc (.cells #[.slice none 0 0] 30)).alloc (.cells #[.int .i64 0] 26)).alloc (.cells #[.slice none 0 0] 30)).alloc (.cells #[.string ⟨l.toArray⟩] 9))=W0:=⟨_,rfl⟩
     have wS:W0.heap.size=w.heap.size+4:=by rw[←hW0];simp
     rw[hW0] at c0 c1 c2 b3 Pk ⊢;clear hW0;have Zn:decide (1000<(n:Int))=false:=decide_eq_false oQ;simp only[Zn];rename_i _ _ _ _ K hKr;obtain⟨t,ht⟩:∃t,l=47::t:=by
      match l,AP,hx with
      |b::t,_,hx=>exact⟨t,by
        have CO:b.toNat=x:=hx;rw[show b=47 from UInt8.toNat_inj.1 (by rw[CO,h47];rfl)]⟩
     have Hp:=U (show pieces l=scan [] l.tail by rw[ht];rfl)
     have iZ:=U (show(pieces l).length≤1000 by
      rw[Hp.o,ht];have:=aaA t [];rw[ht] at gJ;simp only[zA,List.tail_cons] at*;omega)
     have Hsp:=U (show ni l=if(pieces l).all nm then some (pieces l) else none by
      unfold ni;rw[if_neg Oo,if_neg (by rintro(h'|h'|h');exact h0 (by rw[←gJ,h'];rfl);omega;exact h' (by rw[ht];rfl)),Hp.o])
     have hl1:l.length≤1000:=oQ
     have ahw:=Om (3 - 1) dQ (w.heap.size+1+1+1) w.heap.size l hl1 W0 oQ b3.cell;clear gJ abj hx hxb ht h0 Oo dV aoC hi jQ h47 AP
     refine wpIn_rangeFunc_ownF (n:=3) rfl dQ (gf:=289) (lb:=#[.pointer (some ⟨w.heap.size+1+1+1,0,none⟩)]) rfl trivial (enters_of Tryz.func289 kQ rfl)
      ahw belowK_t (belowK_b oQ) (zn _ _) (λ_=>rfl)
      (λpre W=>(∃v,Boxed W (w.heap.size+1+1) 30 v∧W.ownsRow w.heap.size 9 1 v pre.length (pre.map ku)∧(pre.all nm=true∧True))∧(Boxed W w.heap.size 30 (.slice none 0 0)∧Boxed W (w.heap.size+1) 26 (.int .i64 0))∧Below w.heap.size w W)
      (λc pre W=>(c=.ret∧pre.all nm=false)∧(Boxed W w.heap.size 30 (.slice none 0 0)∧Boxed W (w.heap.size+1) 26 (.int .i64 1))∧Below w.heap.size w W)
      ?hI ?hIx ?h0
      (λx=>{tmps:=#[.string ⟨l.toArray⟩,undef,.pointer (some ⟨w.heap.size,0,none⟩),.pointer (some ⟨w.heap.size+1,0,none⟩),.pointer (some ⟨w.heap.size+1+1,0,none⟩),ku x,.string ⟨l.toArray⟩,.int .i64 n,.bool false,.bool false,.string ⟨l.toArray⟩,.bool false,.bool false,.bool false,.string ⟨l.toArray⟩,.int .u8 47,.bool false,.bool false,.string ⟨l.toArray⟩,.bool false,.string ⟨l.toArray⟩,.func (.func 289) #[] #[.pointer (some ⟨w.heap.size+1+1+1,0,none⟩)],ku x,undef,undef,undef,undef,undef,undef,undef,undef],defers:=[]}) ?assign ?body ?done ?stop
     case hI=>exact OwnFrom.and (Own.from (holdsRow_own w.heap.size (w.heap.size+1+1) 30 9 1 (λpre:List (List UInt8)=>pre.length) (λpre=>pre.map ku) (λpre _=>pre.all nm=true∧True)) _) (OwnFrom.and (OwnFrom.and (Own.from (boxed_own _ _ _) _) (Own.from (boxed_own _ _ _) _)) (ownFrom_below (zm _) oQ))
     case hIx=>exact λc=>OwnFrom.and (ownFrom_pure _ _) (OwnFrom.and (OwnFrom.and (Own.from (boxed_own _ _ _) _) (Own.from (boxed_own _ _ _) _)) (ownFrom_below (zm _) oQ))
     case h0=>exact⟨⟨_,c2,zaU _ _ _ _,rfl,trivial⟩,⟨c0,c1⟩,Pk⟩
     case assign=>
      intro lr x W K hK;gi_wp2;exact hK
     case body=>
      rintro lr pre x W ⟨⟨v,hv,aZ,iw, -⟩,⟨dZ,iA⟩,hB⟩ bA;have hc:=hv.cell;rcases hnm:nm x with _|_
      ·have HN:=hnm▸E5 x
       dsimp only[ku];have d0:=dZ.cell;have d1:=iA.cell;have f0:=dZ.frozen;have f1:=iA.frozen;gi_wp2_with (refine⟨trivial,?_⟩;gi_at_call 247;refine(CallsIn.inRound lr (callsIn_wide.2 (HN _))).mono ?_;rintro e w' ⟨rfl,rfl⟩);exact⟨(KeepsOthers.setCell _ _ _).trans (KeepsOthers.setCell _ _ _),⟨rfl,by simp[hnm]⟩,⟨(dZ.set _).other oQ _,(iA.other oQ _).set _⟩,(hB.setCell (p:=⟨w.heap.size,0,none⟩) (zm _) _).setCell (p:=⟨w.heap.size+1,0,none⟩) sQ _⟩
      ·have HN:=hnm▸E5 x
       dsimp only[ku];have iK:=iZ.o;have fB:pre.length≤1000:=oQ
       gi_wp2_with (first
        |(refine⟨trivial,?_⟩;gi_at_call 247;refine(CallsIn.inRound lr (callsIn_wide.2 (HN _))).mono ?_;rintro e w' ⟨rfl,rfl⟩)
        |(gi_at_builtin;refine wpListIn_append_own _ rfl _ _ 30 rfl w.heap.size 9 i0 (.string ⟨#[]⟩) 1 16 Tryz.underlying30 hi0 hz0 hz1 hz2 rfl dQ _ _ _ rfl (aZ.alloc _) ⟨W.heap.size,0,none⟩ 1 1 [ku x] rfl rfl (cell_one_new _ _ _) (by simp[Value.oneCell',ku]) (by unfold maxLen;omega) oQ (by have:=hB.size;simp;omega) ?_;intro v' w1 uF nA _;obtain⟨g',cap',rfl⟩:=ownsRow_succ uF;obtain⟨L_,pW,sH,eO,dh⟩:=hv.appended dQ aZ hB.size oQ uF nA;have hc1:=L_.cell;have XU:=L_.frozen))
       have k0:=((dZ.alloc (.cells #[ku x] 9)).kept nA (dZ.not_row dQ aZ)).other (B':=w.heap.size+1+1) oQ (.slice (some ⟨g',0,none⟩) (pre.length+1) cap');have k1:=((iA.alloc (.cells #[ku x] 9)).kept nA (iA.not_row dQ aZ)).other (B':=w.heap.size+1+1) oQ (.slice (some ⟨g',0,none⟩) (pre.length+1) cap');exact⟨eO,dh,⟨_,pW,by simpa using sH,by simp[iw,hnm],trivial⟩,⟨k0,k1⟩,hB.trans dh⟩
     case done=>
      rintro D ys W hD rfl ⟨⟨v,hv,aZ,iw, -⟩,⟨dZ,iA⟩,hB⟩ hK;have jY:=aZ.kept (grownBy_setCell' W w.heap.size v) (.inr (dZ.not_row dQ aZ).symm);have e1:=iA.other (B':=w.heap.size) oQ v;have sH:=jY.kept (grownBy_setCell' _ (w.heap.size+1) (.int .i64 0)) (.inr (e1.not_row dQ jY).symm);have e0:=(dZ.set v).other (B':=w.heap.size+1) oQ (.int .i64 0);have e2:=e1.set (.int .i64 0);have hK':=((KeepsOthers.setCell W ⟨w.heap.size,0,none⟩ v).trans (KeepsOthers.setCell _ ⟨w.heap.size+1,0,none⟩ (.int .i64 0))).same D _ hK rfl;have hr3:=ownsRow_putObj sH (.deferred none) hK' rfl;have g0:=cell_kept e0.cell (grownBy_putObj' _ D (.deferred none)) (λr e=>by cases e;exact⟨_,hK',rfl⟩);have g1:=cell_kept e2.cell (grownBy_putObj' _ D (.deferred none)) (λr e=>by cases e;exact⟨_,hK',rfl⟩);have xI:=((hB.setCell (p:=⟨w.heap.size,0,none⟩) (zm _) v).setCell (p:=⟨w.heap.size+1,0,none⟩) sQ (.int .i64 0)).trans (belowK_b (w:=w) (zm _) _ D _ (.deferred none) oQ hK' rfl rfl);obtain⟨A,c,rfl,hown⟩:=abh sQ hr3;have agL:=hown;have H3:=U agL;have HB':=U xI;have G0:=U g0;have G1:=U g1;have HK':=U hK';have hc:=hv.cell;have d0:=dZ.cell;have d1:=iA.cell;have f0:=dZ.frozen;have f1:=iA.frozen;clear jY sH hr3 e0 e1 e2 g0 g1 xI hown agL aZ hK';refine hKr _ _ ?_;gi_wp2;refine⟨sQ,.inl ⟨_,_,rfl,run_takeDeferred HK'.o,?_⟩⟩;refine⟨.tuple #[.slice A (pieces l).length c,.int .i64 0],?_,⟨_,rfl,?_⟩,HB'.o⟩
      ·have g0:=G0.o
       have g1:=G1.o;simp[results,Tryz.f173,go_sem,g0,g1]
      ·unfold ny
       rw[Hsp.o,if_pos iw];exact⟨A,c,rfl,H3.o⟩
     case stop=>
      rintro D c pre W hD nP ⟨⟨rfl,avm⟩,⟨dZ,iA⟩,hB⟩ hK;have g0:=cell_kept dZ.cell (grownBy_putObj' _ D (.deferred none)) (λr e=>by cases e;exact⟨_,hK,rfl⟩);have g1:=cell_kept iA.cell (grownBy_putObj' _ D (.deferred none)) (λr e=>by cases e;exact⟨_,hK,rfl⟩);gi_wp2;refine⟨sQ,.inl ⟨_,_,rfl,run_takeDeferred hK,?_⟩⟩;refine⟨.tuple #[.slice none 0 0,.int .i64 1],?_,⟨_,rfl,?_⟩,hB.trans (belowK_b (w:=w) (zm _) W D _ _ oQ hK rfl rfl)⟩
      ·simp[results,Tryz.f173,go_sem,g0,g1]
      ·have kZ:¬(pieces l).all nm=true:=by
        obtain⟨r,hr⟩:=nP;rw[←hr,List.all_append,avm];simp
       unfold ny;rw[Hsp.o,if_neg kZ]
    ·have hh:l.head?≠some 47:=by
      intro h;rw[List.head?_eq_getElem?,zu AP] at h;injection h with h;exact h47 (by rw[←hx,h];rfl)
     have E:ni l=none:=by
      unfold ni;rw[if_neg Oo,if_pos (.inr (.inr hh))]
     have hi:((x:Int)==47)=false:=by rw[beq_eq_false_iff_ne];omega
     have jQ:((x:Int) !=47)=true:=by rw[bne,hi];rfl
     refine callsIn_of_wp_marks Tryz.func173 rfl trivial ?_ rfl;simp only[Tryz.ntmps173,zQ,zA,zN,Nat.reduceAdd,Nat.reduceSub,zJ,zK,zT,zM,zB,zU];gi_wp2;refine⟨.tuple #[.slice none 0 0,.int .i64 1],?_,⟨_,rfl,by unfold ny;rw[E]⟩,((zn _ _).alloc (zm _) _).alloc sQ _⟩;simp[results,Tryz.f173,go_sem]
end
section
open Go.RowKit Go.Shelf Go.Maps O
attribute [local go_sem] Oper.semAt_some
theorem nC {e:TypeId} {base:Nat} {w:World} {A:Option Addr} {c:Nat} {xs:List Value} (h:Own e base w A c xs) (hx:0<xs.length):∃g,A=some ⟨g,0,none⟩:=by
 rcases h.2 with⟨_,h0⟩|⟨g,cap,cur,hv,_⟩
 ·omega
 ·injection hv with hv
  exact⟨g,hv⟩
theorem Ry (l:Bytes):Go.Lib.strCells ⟨l.toArray⟩=l.map aH:=by
 unfold Go.Lib.strCells;simp[aH,n8]
theorem aeU:∃i,Tryz.prog.info? 5=some i∧i.zero=some (.int .u8 0)∧i.size=1∧i.bytes=1:=by
 obtain⟨i,h1,h2,h3,h4⟩:=info_parts bD.info;exact⟨i,h1,h2,h3,h4⟩
theorem Oq {e:bI} (he:Aj e) {w:World} {g c:Nat} (hb:ah w g 163 [.int .i64 e.1,.string ⟨e.2.toArray⟩]):
  Calls Tryz.prog 325 #[.slice (some ⟨g,0,none⟩) 1 c] w λx w'=>∃g' c',x=.returned (.tuple #[.slice (some ⟨g',0,none⟩) 480 c',.int .i64 0])∧Own 5 w.heap.size w' (some ⟨g',0,none⟩) c' ((field (gP e) 480).map aH)∧Below w.heap.size w w':=by
 obtain⟨n,m⟩:=e;have gD:=sOk.few (.inl he);have he2:=he;obtain⟨h1,h2,h3,h4,h5⟩:=he2;dsimp only at h1 h2 h3 h4 h5 hb gD;have c0:=hb.cell 0;have c1:=hb.cell 1;simp only[zf,zi] at c0 c1;obtain⟨k,hk⟩:∃k,m.length=k:=⟨_,rfl⟩
 have hk':=hk;rw[hk] at h3 h4;have fC:(⟨m.toArray⟩:ByteArray).size=k:=by rw[←hk];rfl
 have hwn:IntKind.u64.wrap (n:Int)=(n:Int):=by rw[IntKind.wrap_u64];omega
 have tJ:IntKind.u64.wrap (k:Int)=(k:Int):=by rw[IntKind.wrap_u64];omega
 have Hsl:=U (Rf (e:=(n,m)) (by dsimp only;omega));have aoD:=U (jH (e:=(n,m)) (by dsimp only;omega));have He:=U he;have Hmk:=U fC;have HB:=U hb;obtain⟨iu,Ij,jQ,Pg,hi4⟩:=aeU;clear he;go_enter Tryz.func325,Tryz.ntmps325;go_wp2_with fail;refine wp_loop_rounds 2 ?_;rw[rounds_succ];go_wp2_with fail;obtain⟨w1,aP⟩:∃w1,w.alloc (.cells #[.int .i64 n,.string ⟨m.toArray⟩] 163)=w1:=⟨_,rfl⟩
 have aF:Below w.heap.size w w1:=by rw[←aP];exact(zn _ _).alloc (zm _) _
 have Kl:ah w1 w.heap.size 163 [.int .i64 n,.string ⟨m.toArray⟩]:=by rw[←aP];exact ah.new w _ _
 rw[aP];clear aP c0 c1;refine(E_ He.o w1).mono ?_;rintro x w2 ⟨rfl,aJ⟩;have Yf:=Kl.below aJ;have NV:=aF.trans (aJ.mono aF.size);have c0:=Yf.cell 0;have c1:=Yf.cell 1;simp only[zf,zi] at c0 c1;have bH:=U NV;have Yd:=U Yf;clear aF Kl aJ Yf NV;go_wp2_with fail;refine(lX (l:=[]) (n:=0) rfl (w:=w2) (a:=none) (c:=0) oQ (ay.nil _ _) 2 n oQ (le 2 n) 2 rfl (aA _ _)).mono ?_;rintro x w3 ⟨A3,d3,rfl,JO,hO3,bf⟩;have BR:=Yd.o.below bf;have c0:=BR.cell 0;have c1:=BR.cell 1;simp only[zf,zi] at c0 c1;have iB:=U (bH.o.trans (bf.mono bH.o.size));have HV3:=U BR;have HO3:=U hO3;clear bf BR hO3;go_wp2_with fail;refine(lX (l:=le 2 n) (n:=2) JO (w:=w3) (a:=A3) (c:=d3) oQ HO3.o.pR.is 1 k oQ (le 2 n++le 1 k) 3 rfl (by rw[zw,aA,aA])).mono ?_;rintro x w4 ⟨A4,d4,rfl,hl4,hO4,dX⟩;have Ke:=HV3.o.below dX;have c0:=Ke.cell 0;have c1:=Ke.cell 1;simp only[zf,zi] at c0 c1;have lS:=U (iB.o.trans (dX.mono iB.o.size));have HO4:=U (hO4.mono (show w.heap.size≤_ from iB.o.size));clear dX Ke hO4;have abk:w4.ownsRow w.heap.size 5 1 (.slice A4 3 d4) 3 ((le 2 n++le 1 k).map aH):=⟨by simp[aA],HO4.o.2⟩
 obtain⟨v5,w5,aoE,ig,aoF,aoG⟩:=Go.Lib.run_append_own_string (P:=Tryz.prog) (w:=w4) w.heap.size 22 9 22 5 iu Tryz.underlying22 Tryz.underlying9 Ij jQ Pg hi4 (.slice A4 3 d4) 3 _ abk ⟨m.toArray⟩ (by rw[fC];simp only[maxLen];omega) (by rw[fC];omega) lS.o.size;rw[fC] at ig
 have iJ:Below w.heap.size w w5:=lS.o.grown aoF lS.o.size (λj hj=>by
  rcases abk.2 with⟨h1,_⟩|⟨g',cap,cur,h1,h2,_⟩
  ·rw[h1] at hj;simp[Value.ownBlock] at hj
  ·rw[h1] at hj
   have:g'=j:=by simpa[Value.ownBlock] using hj
   omega)
 rw[Ry,←zW] at ig;obtain⟨A5,d5,rfl,hO5⟩:=abh (n:=3+k) (by simp[aA,hk'];omega) ig;have jR:=U iJ;have HO5:=U hO5;clear abk ig aoF aoG iJ hO5;go_wp2_with (at_builtin;refine wpList_append_run _ _ aoE rfl rfl rfl rfl ?_);clear aoE;have hl5:(le 2 n++le 1 k++m).length=3+k:=by rw[zw,zw,aA,aA,hk']
 refine(uM (l:=le 2 n++le 1 k++m) (n:=3+k) hl5 (w:=w5) (a:=A5) (c:=d5) HO5.o.pR.is 32 (gP (n,m)) 32 (by have:=Hsl.o;rw[hk'] at this;exact this) aoD.o).mono ?_;rintro x w6 ⟨A6,d6,rfl,hl6,hO6,lu⟩;have sI:=U (jR.o.trans (lu.mono jR.o.size));obtain⟨A7,d7,w7,avo,abl,tH⟩:=gu bD 22 (base:=w.heap.size) (w:=w6) (A:=none) (n:=0) (c:=0) (m:=32) (c2:=d6) Own.nothing rfl hO6.pR.is.row (by rw[zD];exact hl6) (eP _) oQ oQ sI.o.size;rw[zB] at abl;have ME:=U (sI.o.trans (tH.mono (zm _)));have HO7:=U abl;clear lu hO6 tH abl;go_wp2_with (at_builtin;refine wpList_append_run _ _ avo rfl rfl rfl rfl ?_);rw[rounds_succ];go_wp2_with fail;refine(uM (l:=gP (n,m)) (n:=0+32) aoD.o (w:=w7) (a:=A7) (c:=d7) HO7.o.pR.is 480 (field (gP (n,m)) 480) 480 rfl (gG _ _)).mono ?_;rintro x w8 ⟨A8,d8,rfl,hl8,hO8,xE⟩;obtain⟨g',rfl⟩:=nC hO8 (by rw[zD,hl8];omega);have HF:=U (And.intro (hO8.mono ME.o.size) (ME.o.trans (xE.mono ME.o.size)));clear hO8 xE;go_wp2_with fail;go_ret2;exact⟨g',d8,rfl,HF.o.1,HF.o.2⟩
theorem yT {F:Fence} {n:Nat} {P:Program} {ops:Array Oper} {rest:List Oper} {o:Oper} {a:Act} {Q:Exit→Act→World→Prop} {w:World} {t t2:TypeId} {v:Value} (YA:o.guard=none) (x y:Operand) (ho:o.op=.binOp .eql t x y t2)
  (he:(execOp a.eval o).run P w=.ok (.value v) w) (h:wpListIn F n P ops Q rest (a.put o.dst v) w):wpListIn F n P ops Q (o::rest) a w:=by
 refine wpListIn_plain YA λK hK=>?_;unfold Oper.wpIn;refine⟨?_,?_⟩
 ·simp[Oper.about,ho]
 ·rw[Oper.semAt_plain F _ _ (by rw[ho];intro c hc;cases hc),he]
  exact hK _ _ h
def Rz (w:World) (k:Nat):Prop:=∃C fr,w.heap[k]? =some (.cells C 393 fr)
def KpR (A B:World):Prop:=A.heap.size≤B.heap.size∧∀k,k<A.heap.size→(B8 A k∨Rz A k)→B.heap[k]? =A.heap[k]?
def StR (N0:Nat) (A B:World):Prop:=Step (λk=>N0≤k∧Rz A k) A (λk=>N0≤k∧Rz A k) B
theorem KpR.refl (A:World):KpR A A:=⟨zm _,λ_ _ _=>rfl⟩
theorem KpR.trans {A B C:World} (h:KpR A B) (k:KpR B C):KpR A C:=⟨zC h.1 k.1,λi hi hc=>by
 have h1:=h.2 i hi hc;refine(k.2 i (zx hi h.1) ?_).trans h1;unfold B8 Rz;rw[h1];exact hc⟩
theorem xO.kpr {A B:World} {r:Nat} {l:Bytes} {s:Bool} (h:xO A r l s) (hk:KpR A B):xO B r l s:=by
 have hl:=h.lt;obtain⟨a,c,h1,h2,h3⟩:=h;refine⟨a,c,(hk.2 r hl (.inr ⟨_,_,h1⟩)).trans h1,?_,h3⟩;rcases h2 with h2|⟨g,o,D,fr,e1,e2,e3⟩
 ·exact .inl h2
 ·exact .inr ⟨g,o,D,fr,e1,(hk.2 g (zo.1 e2).1 (.inl ⟨D,fr,e2⟩)).trans e2,e3⟩
def leftOf (w:World) (r:Nat):Nat:=match w.cell? ⟨r,0,none⟩ with|some (.slice _ n _)=>n|_=>0
theorem xO.left {w:World} {r:Nat} {l:Bytes} {s:Bool} (h:xO w r l s):leftOf w r=l.length:=by
 obtain⟨a,c,h1,h2,h3⟩:=h;unfold leftOf;rw[cell_of_row w r 0 _ _ _ h1];rfl
def aeW (e:bI):Array Value:=#[.agg #[.int .i64 e.1,.string ⟨e.2.toArray⟩],.bool true]
theorem WS (e:bI) (l:List bI):b_ (e::l)=gP e++b_ l:=rfl
theorem RA {n bb c N0:Nat} {a:Option Addr} {W:World} {L:List bI} (hn:1≤n) (QG:ah W bb 22 [.slice a 480 c]) (dO:ay W a (b_ L)) (hL:∀e∈L,sOk e) (hl:L.length=15) (hN:N0≤W.heap.size):
  aaW Fence.wide n Tryz.prog 385 #[.pointer (some ⟨bb,0,none⟩)] aeW KpR (StR N0) (λpre x _=>pre++[x]<+:L) (· =L) W:=by
 intro l J hJ hJs hY h0;have c0:=QG.cell 0;simp only[zf] at c0;have hlen:=fq hL;rw[hl] at hlen;have HY:=U hY;have HJs:=U hJs;have HJ:=U hJ;have pU:=U dO;have HL:=U hL;have iZ:=U hlen;have Hl:=U hl;have H0:=U h0;clear hY hJs dO QG hL hlen hl h0;refine callsIn_of_wp Tryz.func385 rfl trivial ?_ rfl;simp only[Tryz.ntmps385,zQ,zA,zN,Nat.reduceAdd,Nat.reduceSub,zJ,zK,zT,zM,zB,zU];gi_wp2_with fail;refine⟨trivial,(callsIn_wide.2 (anK (n:=480) iZ.o oQ pU.o)).mono ?_⟩;rintro e W1 ⟨r,rfl,vU,jY,aF⟩;have hJ1:=HJs.o [] _ _ H0.o (Step.of_below aF _);have X7:=U jY;have HJ1:=U hJ1;clear c0 jY aF hJ1;gi_wp2_with fail;gi_loopw [9] (λ_ wr=>∃pre rest,L=pre++rest∧J pre wr∧xO wr r (b_ rest) false) (λ_ wr=>leftOf wr r)
 case atStart=>exact⟨[],L,rfl,HJ1.o,X7.o⟩
 case round=>
  obtain⟨pre,rest,hpr,hJp,hR⟩:=hrel;have Hpr:=U hpr;have HJp:=U hJp;have HR:=U hR;clear hpr hJp hR;rcases rest with _|⟨x,rest⟩
  ·gi_wp2_with fail
   refine⟨trivial,(callsIn_wide.2 (DN _ _ _ _ HR.o.is)).mono ?_⟩;rintro e W2 ⟨rfl,rfl⟩;have h0:((b_ []).length:Nat)=0:=rfl;rw[h0];gi_wp2_with fail;go_end0;refine⟨⟨_,rfl⟩,pre,?_,HJp.o⟩;have:=Hpr.o;simpa using this.symm
  ·have hxL:x∈L:=by rw[Hpr.o];simp
   have hrL:∀e∈rest,sOk e:=λe he=>HL.o e (by rw[Hpr.o];simp[he]);have hx:=HL.o x hxL;have hxf:=hx.few;have Qn:=jH (e:=x) oQ;have ayL:=fq hrL;have hrl:rest.length≤14:=by
    have h1:=Hl.o;rw[Hpr.o,zw,zA] at h1;omega
   obtain⟨q,hq⟩:∃q,(b_ (x::rest)).length=q:=⟨_,rfl⟩
   have IL:q=32+(b_ rest).length:=by rw[←hq,WS,zw,Qn]
   have aFN:(32:Int)≤(q:Int):=oQ
   have hrm:(b_ rest).length≤10000:=oQ
   have aoH:=HR.o.left;rw[hq] at aoH;have Hms:=U (show(b_ rest).length<leftOf wr r by rw[aoH];omega);gi_wp2_with fail;refine⟨trivial,(callsIn_wide.2 (DN _ _ _ _ HR.o.is)).mono ?_⟩;rintro e W2 ⟨rfl,rfl⟩;rw[hq];gi_wp2_with fail;refine⟨trivial,(callsIn_wide.2 (aaK hx HR.o hrm)).mono ?_⟩;rintro e W2 ⟨rfl,sH,eO⟩;have aoI:¬B8 wr r:=by
    obtain⟨a',c',h1, -⟩:=HR.o;rintro⟨C2,fr,h2⟩;rw[h1] at h2;injection h2 with h2;injection h2 with _ h2;exact absurd (show BT 393 by rw[h2];exact fr.ok) dQ
   have hrd:Rz wr r:=by
    obtain⟨a',c',h1, -⟩:=HR.o;exact⟨_,_,h1⟩
   have Yb:=HJs.o pre _ _ HJp.o (Step.Sy eO ⟨oQ,hrd⟩ aoI);obtain⟨W3,tu⟩:∃W3,W2.alloc (.cells #[.int .i64 x.1,.string ⟨x.2.toArray⟩] 163)=W3:=⟨_,rfl⟩
   have bf:Below W2.heap.size W2 W3:=by rw[←tu];exact(zn _ _).alloc (zm _) _
   have pV:=HJs.o pre _ _ Yb (Step.of_below bf _);have aoJ:pre++[x]<+:L:=⟨rest,by rw[Hpr.o];simp⟩
   have Gt:=HY.o pre x W3 aoJ pV;unfold aeW at Gt;obtain⟨fn,tmps,assign,body,hy,hR⟩:=Gt;have UJ:=U (sH.below bf);have BR:ah W3 W2.heap.size 163 [.int .i64 x.1,.string ⟨x.2.toArray⟩]:=by rw[←tu];exact ah.new W2 _ _
   have q0:=BR.cell 0;have q1:=BR.cell 1;simp only[zf,zi] at q0 q1;clear sH eO Yb pV bf;gi_wp2_with fail;refine hR.mono ?_;rintro e5 W5 ⟨rfl,hJ5,Jo⟩;have hr5:=UJ.o.kpr Jo;gi_wp2;go_roundw
   case rel=>exact⟨pre++[x],rest,by rw[Hpr.o];simp,hJ5,hr5⟩
   case measure=>rw[hr5.left];exact Hms.o
theorem WT (w:World) (a:Option Addr) (m c:Nat):Calls Tryz.prog 364 #[.slice a m c] w λe w'=>e=.returned (.func (.func 385) #[] #[.pointer (some ⟨w.heap.size,0,none⟩)])∧w'=w.alloc (.cells #[.slice a m c] 22):=by
 go_enter Tryz.func364,Tryz.ntmps364;go_wp2_with fail;go_ret;exact⟨rfl,rfl⟩
def lM (l:List bI):List Value:=l.flatMap (λe=>[.int .i64 e.1,.string ⟨e.2.toArray⟩])
theorem Ci (l:List bI):(lM l).length=2*l.length:=by
 induction l with
 |nil=>rfl
 |cons e l ih=>
  show([_,_]++lM l).length=_;rw[zw,ih];simp;omega
theorem WU (l:List bI) (e:bI):lM (l++[e])=lM l++[.int .i64 e.1,.string ⟨e.2.toArray⟩]:=by
 unfold lM;rw[za6];rfl
theorem yU:Dl Tryz.prog 157 163 (.agg #[.int .i64 0,.string ⟨#[]⟩]) 2 24:=⟨Tryz.underlying157,kQ,rfl,dQ⟩
def yV (l:List bI):List bI:=l++List.replicate (15 - l.length) (0,[])
theorem WV {l:List bI} {pre:List bI} {x:bI} (h:pre++[x]<+:yV l):(pre.length<l.length∧l[pre.length]? =some x)∨(l.length≤pre.length∧x=(0,[])):=by
 obtain⟨t,ht⟩:=h;have h1:(yV l)[pre.length]? =some x:=by rw[←ht];simp
 unfold yV at h1;by_cases hl:pre.length<l.length
 ·rw[qo hl] at h1
  exact .inl ⟨hl,h1⟩
 ·rw[qd oQ,qF] at h1
  split at h1
  ·injection h1 with h1
   exact .inr ⟨oQ,h1.symm⟩
  ·cases h1
structure DcI (t4 t5:Nat) (l:List bI) (w1:World) (pre:List bI) (V:World) (vl:Value):Prop where
 box:ah V t4 157 [vl]
 fin:ah V t5 4 [.bool (decide (l.length<pre.length))]
 row:V.ownsRow 0 163 2 vl (min pre.length l.length) (lM (l.take pre.length))
 new:∀b,vl.ownBlock=some b→w1.heap.size≤b
 step:Step (λk=>k=t4∨k=t5) w1 (λk=>k=t4∨k=t5) V
theorem RB {w:World} {a:Option Addr} {c:Nat} {l:List bI} (hl:∀e∈l,Aj e) (xw:l.length≤15) (dO:ay w a (field (b_ l) 480)):
  Calls Tryz.prog 333 #[.slice a 480 c] w λe w'=>∃v,e=.returned (.tuple #[v,.int .i64 0])∧w'.ownsRow 0 163 2 v l.length (lM l)∧(∀b,v.ownBlock=some b→w.heap.size≤b)∧Below w.heap.size w w':=by
 have fB:(yV l).length=15:=by unfold yV;rw[zw,qc];omega
 have hps:∀e∈yV l,sOk e:=λe he=>by
  rcases qg.1 he with h|h
  ·exact .inl (hl e h)
  ·exact .inr (List.eq_of_mem_replicate h)
 rw[Wd (λe he=>.inl (hl e he)) xw] at dO;have Hl:=U hl;have pU:=U dO;clear hl dO;have hez:=auQ;refine(callsIn_wide (n:=11)).1 ?_;refine callsIn_of_wp_marks Tryz.func333 rfl trivial ?_ rfl;simp only[Tryz.ntmps333,zQ,zA,zN,Nat.reduceAdd,Nat.reduceSub,zJ,zK,zT,zM,zB,zU];gi_wp2_with fail;refine⟨trivial,(callsIn_wide.2 (WT _ a 480 c)).mono ?_⟩;rintro e w2 ⟨rfl,iy⟩;have aoK:[([.slice none 0 0],157),([.int .i64 0],26),([.slice none 0 0],157),([.bool false],4),([.slice a 480 c],22)].foldl (λw x=>w.alloc (.cells x.1.toArray x.2)) w=w2:=iy.symm;obtain⟨aM,aJ,hz2⟩:=boxes _ _ _ aoK;have gJ:((((w.alloc (.cells #[.slice none 0 0] 157)).alloc (.cells #[.int .i64 0] 26)).alloc (.cells #[.slice none 0 0] 157)).alloc (.cells #[.bool false] 4)).heap.size=w.heap.size+4:=sQ
 have y0:=aM 0 _ rfl;have y1:=aM 1 _ rfl;have y2:=aM 2 _ rfl;have y3:=aM 3 _ rfl;have y4:=aM 4 _ rfl;dsimp only at y0 y1 y2 y3 y4;have aoL:w2.heap.size=w.heap.size+5:=hz2;simp only[zah,zaR,Nat.reduceAdd];clear iy aoK gJ aM;have bH:=U aJ;have HY:=U (And.intro y0 (And.intro y1 (And.intro y2 (And.intro y3 y4))));clear aJ y0 y1 y2 y3 y4;gi_wp2_with fail;generalize dw:Act.mk _ _=a0
 refine og (n:=11) rfl oQ (gf:=385) (lb:=#[.pointer (some ⟨w.heap.size+4,0,none⟩)]) (by rw[←dw];rfl) trivial (enters_of Tryz.func385 kQ rfl)
  (encs:=aeW) (Kp:=KpR) (St:=StR w2.heap.size) (Ok:=λpre x _=>pre++[x]<+:yV l) (Good:=(· =yV l))
  (λW1 hB hz=>RA oQ (HY.o.2.2.2.2.below hB) (pU.o.below (bH.o.trans (hB.mono bH.o.size))) hps fB oQ)
  (λh1 h2 hc=>(h1.keep _ (zo.1 h2).1 (.inl (λ⟨_,C,fr,h3⟩=>by rw[h2] at h3;injection h3 with h3;subst h3;cases hc))).trans h2) (λh1 h2=>h1.trans h2) ?hKb (λ_=>rfl)
  (λpre V=>∃vl,DcI (w.heap.size+2) (w.heap.size+3) l w2 pre V vl)
  ?hI ?hIs ?h0 (λpre x a' V=>pre++[x]<+:yV l∧∃g,w2.heap.size≤g∧ah V g 163 [.int .i64 x.1,.string ⟨x.2.toArray⟩]∧a'={tmps:=(((a0.tmps.setIfInBounds 13 (.agg #[.int .i64 x.1,.string ⟨x.2.toArray⟩])).setIfInBounds 14 (.bool true)).setIfInBounds 6 (.pointer (some ⟨g,0,none⟩))).setIfInBounds 7 (.bool true),defers:=[]}) ?hAx ?assign ?body ?done
 case hKb=>
  intro V o o' ho kR;refine⟨by rw[World.putObj_size];exact zm _,λk h1 h2=>World.putObj_heap_other (λe=>?_)⟩;rcases h2 with⟨C2,fr,h2⟩|⟨C2,fr,h2⟩<;>
  ·rw[e,ho] at h2
   injection h2 with h2;subst h2;cases kR
 case hI=>
  refine jg ?_;rintro pre V V' ⟨vl,hI⟩ hs;refine⟨vl,hI.box.step hs (NC.Gv hI.box),hI.fin.step hs (NC.Gv hI.fin),aC hs hI.row (λb hb=>?_),hI.new,hI.step.inner hs (λk hk=>.inr hk.1)⟩;obtain⟨Cb,lV⟩:=aN hI.row hb;rintro⟨_,o,ho,kR⟩;rw[lV] at ho;injection ho with ho;subst ho;cases kR
 case hIs=>
  rintro pre V V' ⟨vl,hI⟩ hs;have hnr:∀{b:Nat} {T:TypeId} {vs:List Value},ah V b T vs→T≠393→¬(w2.heap.size≤b∧Rz V b):=λhv hT ⟨_,C2,fr,h2⟩=>by
   unfold ah at hv;rw[hv] at h2;injection h2 with h2;injection h2 with _ h2;exact hT h2
  refine⟨vl,hI.box.step hs (hnr hI.box dQ),hI.fin.step hs (hnr hI.fin dQ),aC hs hI.row (λb hb=>?_),hI.new,hI.step.inner hs (λk hk=>.inr ?_)⟩
  ·obtain⟨Cb,lV⟩:=aN hI.row hb
   rintro⟨_,C2,fr,h2⟩;rw[lV] at h2;injection h2 with h2;injection h2 with _ h2;exact absurd h2 dQ
  ·exact hk.1
 case h0=>
  obtain⟨y0,y1,y2,y3,y4⟩:=HY.o;refine⟨.slice none 0 0,y2,by simpa using y3,⟨by rw[Ci];simp,.inl ⟨rfl,sQ⟩⟩,λb hb=>by simp[Value.ownBlock] at hb,Step.refl _ _⟩
 case hAx=>
  intro pre x a';refine jg ?_;rintro _ V V' ⟨h1,g,h2,h3,h4⟩ hs;exact⟨h1,g,h2,h3.step hs (NC.Gv h3),h4⟩
 case assign=>
  rintro l0 pre x V K2 ⟨vl,hI⟩ Ob hK;have HK:=U hK;have HI:=U hI;have HOk:=U Ob;clear hI Ob hK;subst dw;unfold aeW;obtain⟨V1,Kl⟩:∃V1,V.alloc (.cells #[.int .i64 x.1,.string ⟨x.2.toArray⟩] 163)=V1:=⟨_,rfl⟩
  have aF:Below V.heap.size V V1:=by rw[←Kl];exact(zn _ _).alloc (zm _) _
  have xX:ah V1 V.heap.size 163 [.int .i64 x.1,.string ⟨x.2.toArray⟩]:=by rw[←Kl];exact ah.new V _ _
  have q0:=xX.cell 0;have q1:=xX.cell 1;simp only[zf,zi] at q0 q1;gi_wp2;have hI:=HI.o;have hs:=Step.of_below aF (λ_=>False);refine HK.o _ _ ?_ ⟨aF.size,λk hk _=>aF.block k hk⟩ ⟨vl,hI.box.below aF,hI.fin.below aF,aC hs hI.row (λ_ _ h=>h),hI.new,hI.step.inner hs (λk hk=>hk.elim)⟩ ⟨HOk.o,V.heap.size,hI.step.size,xX,rfl⟩;exact⟨aF.size,λk o _ h0 _=>(aF.block k (zo.1 h0).1).trans h0⟩
 case body=>
  rintro l0 pre x a' V ⟨vl,hI⟩ ⟨Ob,g,hg,hG,rfl⟩ hzV;subst dw;simp only[zh,zk,zl];have q0:=hG.cell 0;have q1:=hG.cell 1;have z5:=hI.fin.cell 0;have f5:=hI.fin.free 0;have z4:=hI.box.cell 0;have f4:=hI.box.free 0;simp only[zf,zi] at q0 q1 z5 z4;have heq:=agA x.1 x.2;rcases WV Ob with⟨bA,MG⟩|⟨xW,rfl⟩
  ·have hxd:Aj x:=Hl.o x (zaq MG)
   have dV:decide (x.1=0∧x.2=[])=false:=decide_eq_false (λh=>by have:=hxd.1;omega);have hdf:decide (l.length<pre.length)=false:=decide_eq_false oQ;rw[dV] at heq;rw[hdf] at z5;obtain⟨av,cv,rfl,BM⟩:=aR hI.row;have vL:min pre.length l.length=pre.length:=oQ
   have B_:=hI.row;rw[vL] at B_;obtain⟨gq,cap,V5,iT,ig,rH,Em⟩:=jk yU 157 V B_ [.int .i64 x.1,.string ⟨x.2.toArray⟩] rfl (by simp[Value.oneCell']) oQ oQ 163;rw[vL] at z4
   have uN:Step (λk=>(Value.slice av pre.length cv).ownBlock=some k) V (λk=>(Value.slice av pre.length cv).ownBlock=some k) V5:=Step.bU rH (λr' e=>⟨e,by
    obtain⟨Cb,lV⟩:=aN B_ e;rintro⟨C2,fr,h2⟩;rw[lV] at h2;injection h2 with h2;injection h2 with _ h2
    first|exact absurd h2 dQ|exact(Fr.no h2 dQ).elim⟩)
   have abm:∀b,(Value.slice av pre.length cv).ownBlock=some b→w2.heap.size≤b:=λb hb=>hI.new b (by rw[vL];exact hb);have kS:=hI.box.step uN (λh=>by have:=abm _ h;omega);have VI:=hI.fin.step uN (λh=>by have:=abm _ h;omega);have k5:=kS.cell 0;have g5:=kS.free 0;simp only[zf] at k5;have Heq:=U heq;have HI:=U hI;have xJ:=U uN;have jR:=U kS;have Cu:=U VI;have yu:=U ig;have Qi:=U Em;have aoM:=U B_;have adE:=U MG;clear hI uN kS VI ig Em rH heq B_ MG Ob hG f5 hxd hdf dV;gi_wp2_with (first|(refine yT rfl _ _ rfl (xS _ _ rfl rfl rfl yO (Heq.o _)) ?_)|(gi_at_builtin;refine cK (.tmp 15) (.tmp 17) iT rfl rfl rfl rfl ?_));obtain⟨V6,lT⟩:∃V6,V5.setCell ⟨w.heap.size+2,0,none⟩ (.slice (some ⟨gq,0,none⟩) (pre.length+1) cap)=V6:=⟨_,rfl⟩
   have s6:Step (· =w.heap.size+2) V5 (· =w.heap.size+2) V6:=by rw[←lT];exact Step.set1 (jR.o.aV dQ) _ _
   have b6:ah V6 (w.heap.size+2) 157 [.slice (some ⟨gq,0,none⟩) (pre.length+1) cap]:=by rw[←lT];exact jR.o.aB 0 _
   rw[lT];have BN:=xJ.o.size;have U5:=s6.size
   have xK:∀k,k<V.heap.size→(Value.slice av pre.length cv).ownBlock≠some k→k≠w.heap.size+2→V6.heap[k]? =V.heap[k]?:=λk h1 h3 h4=>
    (s6.keep k oQ (.inl h4)).trans (xJ.o.keep k h1 (.inl h3))
   have hown:∀k,(Value.slice av pre.length cv).ownBlock=some k→w2.heap.size≤k∧∃Cb,V.heap[k]? =some (.cells Cb 163 (0,0)):=λk hk=>⟨abm k hk,aN aoM.o hk⟩
   have Uh:w2.heap.size≤gq:=by
    rcases Qi.o with h|h
    ·exact(hown _ h).1
    ·omega
   have aM:=HI.o.box;have TG:∀k,(B8 V k∨Rz V k)→(Value.slice av pre.length cv).ownBlock≠some k∧k≠w.heap.size+2:=λk h2=>by
    refine⟨λh=>?_,λh=>?_⟩
    ·obtain⟨_,Cb,lV⟩:=hown k h
     rcases h2 with⟨C2,fr,h2⟩|⟨C2,fr,h2⟩<;>
     ·rw[lV] at h2
      injection h2 with h2;injection h2 with _ h2
      first|exact absurd h2 dQ|exact absurd (show BT 163 by rw[h2];exact fr.ok) dQ
    ·unfold ah at aM
     rw[←h] at aM;rcases h2 with⟨C2,fr,h2⟩|⟨C2,fr,h2⟩<;>
     ·rw[aM] at h2
      injection h2 with h2;injection h2 with _ h2
      first|exact absurd h2 dQ|exact absurd (show BT 157 by rw[h2];exact fr.ok) dQ
   have wI:l.take (pre.length+1)=l.take pre.length++[x]:=by
    rw[zaV,adE.o];rfl
   refine⟨⟨oQ,λk o hk h0 kR=>(xK k (zo.1 h0).1 (λh=>?_) oQ).trans h0⟩,⟨oQ,λk h1 h2=>xK k h1 (TG k h2).1 (TG k h2).2⟩,_,b6,?_,?_,?_,?_⟩
   ·obtain⟨_,Cb,lV⟩:=hown k h
    rw[lV] at h0;injection h0 with h0;subst h0;cases kR
   ·have X6:decide (l.length<(pre++[x]).length)=decide (l.length<pre.length):=by
     rw[zw,zY,decide_eq_false oQ,decide_eq_false oQ]
    rw[X6];exact Cu.o.step s6 oQ
   ·rw[zw,zY,wI,WU,show min (pre.length+1) l.length=pre.length+1 by omega]
    refine aC s6 yu.o (λb hb=>?_);have:b=gq:=by simpa[Value.ownBlock] using hb.symm
    omega
   ·intro b hb
    have:b=gq:=by simpa[Value.ownBlock] using hb.symm
    omega
   ·exact(HI.o.step.inner xJ.o (λk hk=>.inr (hown k hk).1)).inner s6 (λk hk=>.inl (.inl hk))
  ·have dV:decide ((0:Nat)=0∧([]:Bytes)=[])=true:=rfl
   rw[dV] at heq;have Heq:=U heq;have HI:=U hI;clear hI heq Ob hG dV;gi_wp2_with (refine yT rfl _ _ rfl (xS _ _ rfl rfl rfl yO (Heq.o _)) ?_);obtain⟨V6,lT⟩:∃V6,V.setCell ⟨w.heap.size+3,0,none⟩ (.bool true)=V6:=⟨_,rfl⟩
   have hI:=HI.o;have s6:Step (· =w.heap.size+3) V (· =w.heap.size+3) V6:=by rw[←lT];exact Step.set1 (hI.fin.aV dQ) _ _
   have b6:ah V6 (w.heap.size+3) 4 [.bool true]:=by rw[←lT];exact hI.fin.aB 0 _
   rw[lT];have U5:=s6.size;have aM:=hI.fin;have MC:w2.heap.size≤V.heap.size:=hI.step.size;have oU:=hI.box.step s6 oQ;have Il:min (pre++[((0,[]):bI)]).length l.length=min pre.length l.length:=by rw[zw,zY];omega
   have wI:l.take (pre++[((0,[]):bI)]).length=l.take pre.length:=by rw[zw,zY,zy oQ,zy oQ]
   refine⟨⟨oQ,λk o hk h0 kR=>(s6.keep k (zo.1 h0).1 (.inl (λh=>?_))).trans h0⟩,⟨oQ,λk h1 h2=>s6.keep k h1 (.inl (λh=>?_))⟩,vl,oU,?_,?_,hI.new,hI.step.inner s6 (λk hk=>.inl (.inr hk))⟩
   ·unfold ah at aM
    rw[←h,h0] at aM;injection aM with aM;subst aM;cases kR
   ·unfold ah at aM
    rw[←h] at aM;rcases h2 with⟨C2,fr,h2⟩|⟨C2,fr,h2⟩<;>
    ·rw[aM] at h2
     injection h2 with h2;injection h2 with _ h2
     first|exact absurd h2 dQ|exact(Fr.no h2 dQ).elim
   ·rw[zw,zY,decide_eq_true oQ]
    exact b6
   ·rw[Il,wI]
    exact aC s6 hI.row (λb hb=>by have:=hI.new b hb;omega)
 case done=>
  rintro pre D V rfl hD ⟨vl,hI⟩ lI;subst dw;obtain⟨y0,y1,y2,y3,y4⟩:=HY.o;have hs:=hI.step;have aZ:=hI.row;rw[fB,show min 15 l.length=l.length by omega,zy xw] at aZ;obtain⟨av,cv,rfl,BM⟩:=aR aZ;have x0:=y0.step hs oQ;have x1:=y1.step hs oQ;have z4:=hI.box.cell 0;have f0:=x0.free 0;have f1:=x1.free 0;have z0:=x0.cell 0;have z1:=x1.cell 0;simp only[zf,za3] at z4 z0 z1 f0 x0;have HI:=U hI;have HX:=U (And.intro x0 x1);have aeK:=U aZ;clear hI y0 y1 y2 y3 y4 hs x0 x1 aZ;gi_wp2;obtain⟨V6,lT⟩:∃V6,(V.setCell ⟨w.heap.size,0,none⟩ (.slice av l.length cv)).setCell ⟨w.heap.size+1,0,none⟩ (.int .i64 0)=V6:=⟨_,rfl⟩
  rw[lT];have hI:=HI.o;obtain⟨x0,x1⟩:=HX.o;have k1:Kept w.heap.size V (V.setCell ⟨w.heap.size,0,none⟩ (.slice av l.length cv)):=Kept.setCell _ _ _;have b0:ah V6 w.heap.size 157 [.slice av l.length cv]:=by rw[←lT];exact(x0.aB 0 (.slice av l.length cv)).kept (Kept.setCell _ _ _) oQ
  have b1:ah V6 (w.heap.size+1) 26 [.int .i64 0]:=by rw[←lT];exact(x1.kept k1 oQ).aB 0 (.int .i64 0)
  have s6:Step (λk=>k=w.heap.size∨k=w.heap.size+1) V (λk=>k=w.heap.size∨k=w.heap.size+1) V6:=by
   rw[←lT];exact(Step.setCell (.inl rfl) (x0.aV dQ) _ _).trans (Step.setCell (.inr rfl) ((x1.kept k1 oQ).aV dQ) _ _)
  have Fw:V6.heap[D]? =some (.deferred (some [])):=(s6.keep D (zo.1 lI).1 (.inl oQ)).trans lI;have Vs:=x1.lt;have s7:Step (NC w2.heap.size V6) V6 (NC w2.heap.size V6) (V6.putObj D (.deferred none)):=Step.bU (grownBy_putObj' V6 D _) (λr' e=>by cases e;exact⟨⟨hD,_,Fw,rfl⟩,NC.aV (B:=0) ⟨ql _,_,Fw,rfl⟩⟩)
  have aZ:=aC s7 (aC s6 aeK.o (λb hb=>by have:=hI.new b hb;omega)) (λb hb=>by
   obtain⟨Cb,lV⟩:=aN (aC s6 aeK.o (λb hb=>by have:=hI.new b hb;omega)) hb;rintro⟨_,o,ho,kR⟩;rw[lV] at ho;injection ho with ho;subst ho;cases kR)
  have r0:=(b0.step s7 (NC.Gv b0)).cell 0;have r1:=(b1.step s7 (NC.Gv b1)).cell 0;simp only[zf] at r0 r1;have P9:Below w.heap.size w (V6.putObj D (.deferred none)):=by
   have t1:Step (λk=>k=w.heap.size+2∨k=w.heap.size+3) w2 (λk=>k=w.heap.size+2∨k=w.heap.size+3) V:=hI.step;have b1:=bH.o.trans (t1.below (B:=w.heap.size) (λk hk=>oQ) oQ);have hz:=t1.size;have b2:=b1.trans (s6.below (B:=w.heap.size) (λk hk=>oQ) oQ);exact b2.trans (s7.below (B:=w.heap.size) (λk hk=>by have:=hk.1;omega) (by have:=s6.size;omega))
  refine⟨sQ,.inl ⟨_,_,rfl,run_takeDeferred Fw,?_⟩⟩;exact⟨.tuple #[.slice av l.length cv,.int .i64 0],by simp[results,Tryz.f333,go_sem,r0,r1],_,rfl,aZ,λb hb=>by have:=hI.new b hb;omega,P9⟩
end
end Go.Proofs.YtdjdpeadohobmaaGreatDoor
