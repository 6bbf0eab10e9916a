/- A part of the walk below the law: what is proved here is used by later parts; no further condition. -/
import Derived.Test.YtdjdpeadohobmaaGreatDoorK15
set_option linter.unusedVariables false
set_option linter.unusedSimpArgs false
set_option maxRecDepth 100000
set_option maxHeartbeats 20000000
namespace Go.Proofs.YtdjdpeadohobmaaGreatDoor
section
open Go.RowKit Go.Shelf O
attribute [local go_sem] Oper.semAt_some
abbrev stV (ep st sq hd us:Nat) (v:Value):Value:=.agg #[.int .u32 ep,.int .u64 st,.int .u64 sq,.int .i64 hd,.int .i64 us,v]
structure Zy (P B ep st sq hd us:Nat) (A:Nat→Option Nat):Prop where
 bep:1≤ep∧ep<4294967296
 bsq:sq≤1000000
 bst:1≤st∧st≤sq+1
 bhd:hd<P
 bus:us≤P
 bb:1≤B∧B≤3840
 bp:P≤20000
 lt:∀i p,i<B→A i=some p→p<P
 inj:∀i k p,i<B→k<B→A i=some p→A k=some p→i=k
 near:∀i p,i<B→A i=some p→(if hd≤p then hd+P - p else hd - p)≤us
section
variable {w:World} {P B ep st sq hd us:Nat} {A:Nat→Option Nat}
theorem Qr (h:Zy P B ep st sq hd us A) {ab:Nat} (hA:ah w ab 3 (dA ((List.range B).map (λi=>jW (A i))))):
  Calls Tryz.prog 192 #[.int .i64 P,stV ep st sq hd us (.slice (some ⟨ab,0,none⟩) B B)] w λe w'=>e=.returned (.bool true)∧Below w.heap.size w w':=by
 have Ph:=λ(n:Int) (w:World)=>iN (P:=Tryz.prog) Tryz.underlying192 .i64 n w;have h1:=h.bep;have h2:=h.bsq;have h3:=h.bst;have h4:=h.bhd;have h5:=h.bus;have h6:=h.bb;have h7:=h.bp;have g1:¬((ep:Int)<1):=oQ
 have g2:decide ((281474976710655:Int)<(sq:Int))=false:=by rw[decide_eq_false_iff_not];omega
 have g3:¬((st:Int)<1):=oQ
 have g4:decide ((sq:Int)+1<(st:Int))=false:=by rw[decide_eq_false_iff_not];omega
 have H:=U h;have HA:=U hA;clear h hA;go_enter Tryz.func192,Tryz.ntmps192;go_wp2_with fail
 have hV0:∀W,Below (w.heap.size+1) (w.alloc (.cells #[.int .u32 ep,.int .u64 st,.int .u64 sq,.int .i64 hd,.int .i64 us,.slice (some ⟨ab,0,none⟩) B B] 118)) W→ah W w.heap.size 118 [.int .u32 ep,.int .u64 st,.int .u64 sq,.int .i64 hd,.int .i64 us,.slice (some ⟨ab,0,none⟩) B B]:=λW hW=>
  (ah.new w 118 [.int .u32 ep,.int .u64 st,.int .u64 sq,.int .i64 hd,.int .i64 us,.slice (some ⟨ab,0,none⟩) B B]).below (hW.mono sQ)
 have HV0:=U hV0;clear hV0;go_loopw [58] (λv wr=>∃(k s:Nat) (φ:Nat→Option Value),k≤B∧v=.int .i64 k∧s≤k∧bF wr (w.heap.size+1) s φ∧(∀p,(φ p).isSome=true→∃i,i<k∧A i=some p)∧Below (w.heap.size+1) (w.alloc (.cells #[.int .u32 ep,.int .u64 st,.int .u64 sq,.int .i64 hd,.int .i64 us,.slice (some ⟨ab,0,none⟩) B B] 118)) wr) (λv _=>B - (intOf v).toNat)
 case atStart=>exact⟨0,0,_,oQ,rfl,oQ,by have:=bF.new (w.alloc (.cells #[.int .u32 ep,.int .u64 st,.int .u64 sq,.int .i64 hd,.int .i64 us,.slice (some ⟨ab,0,none⟩) B B] 118));simpa using this,λp h=>by simp at h,(zn _ _).alloc sQ _⟩
 case round=>
  obtain⟨k,s,φ,hk,rfl,hs,hM,hφ,hB⟩:=hrel;have Ag:Below w.heap.size w wr:=((zn _ _).alloc (zm _) _).trans (hB.mono oQ);by_cases Pj:k<B
  ·have BQ:=fO (HA.o.below Ag) Pj
   have hV:=HV0.o _ hB;have c3:=hV.cell 3;have c4:=hV.cell 4;simp only[zf,zi] at c3 c4;have HM:=U hM;have Hφ:=U hφ;have HB:=U hB;rcases MU:A k with _|p
   ·rw[MU] at BQ
    have HAk:=U MU;clear hM hφ hB Ag hV c3 c4 MU;replace BQ:wr.cell? ⟨ab,k,none⟩=some (.int .i64 (-1)):=BQ;go_wp2_with fail;refine⟨⟨k+1,s,φ,oQ,by go_num,oQ,HM.o,λp hp=>?_,HB.o⟩,by simp[intOf];omega⟩;obtain⟨i,hi,Tp⟩:=Hφ.o p hp;exact⟨i,oQ,Tp⟩
   ·rw[MU] at BQ
    replace BQ:wr.cell? ⟨ab,k,none⟩=some (.int .i64 p):=BQ;have XR:=H.o.lt k p Pj MU;have agb:=H.o.near k p Pj MU;have kZ:φ p=none:=by
     rcases hp:φ p with _|v
     ·rfl
     ·obtain⟨i,hi,Tp⟩:=hφ p (by rw[hp];rfl)
      have:=H.o.inj i k p oQ Pj Tp MU;omega
    have hz:∀W:World,(zeroValue 3).run Tryz.prog W=.ok (.int .i64 0) W:=λW=>kQ
    have ah0:p<fZ:=by show p<9223372036854775808;omega
    have yh:=hM.look Tryz.underlying192 (hz _) p ah0;rw[kZ] at yh;obtain⟨w3,bT,uh,UZ⟩:=hM.store Tryz.underlying192 (by unfold maxLen;omega) p ah0 (.int .i64 k);rw[kZ] at uh;have lg:=hM.turn UZ;have bf:Below (w.heap.size+1) (w.alloc (.cells #[.int .u32 ep,.int .u64 st,.int .u64 sq,.int .i64 hd,.int .i64 us,.slice (some ⟨ab,0,none⟩) B B] 118)) w3:=hB.trans (lg.below (λk hk=>Yx hk.symm) (by have:=hM.lt;omega));have BR:=HV0.o _ bf;have d3:=BR.cell 3;have d4:=BR.cell 4;simp only[zf,zi] at d3 d4;have vX:=U uh;have iB:=U bf;have HAk:=U MU;have dZ:¬((p:Int)<0):=oQ
    have iA:((p:Int)== -1)=false:=by rw[beq_eq_false_iff_ne];omega
    have X6:decide ((P:Int)≤(p:Int))=false:=by rw[decide_eq_false_iff_not];omega
    have fA:IntKind.i64.wrap ((hd:Int) - (p:Int))=(hd:Int) - (p:Int):=by rw[zG];omega
    have Gy:Hid (∀q,((iM φ p (some (.int .i64 k))) q).isSome=true→∃i,i<k+1∧A i=some q):=U (λq hq=>by
     by_cases SN:q=p
     ·exact⟨k,oQ,by rw[SN];exact HAk.o⟩
     ·obtain⟨i,hi,Tp⟩:=Hφ.o q (by simpa[iM,SN] using hq)
      exact⟨i,oQ,Tp⟩)
    clear hM hφ hB Ag hV BR uh lg UZ bf kZ hz ah0 MU;by_cases hle:hd≤p
    ·rw[if_pos hle] at agb
     have q1:decide ((hd:Int) - (p:Int)≤0)=true:=by rw[decide_eq_true_eq];omega
     have q2:decide ((us:Int)<(hd:Int) - (p:Int)+(P:Int))=false:=by rw[decide_eq_false_iff_not];omega
     go_wp2_with fail;refine⟨⟨k+1,s+1,iM φ p (some (.int .i64 k)),oQ,by go_num,oQ,vX.o,Gy.o,iB.o⟩,by simp[intOf];omega⟩
    ·rw[if_neg hle] at agb
     have q1:decide ((hd:Int) - (p:Int)≤0)=false:=by rw[decide_eq_false_iff_not];omega
     have q2:decide ((us:Int)<(hd:Int) - (p:Int))=false:=by rw[decide_eq_false_iff_not];omega
     go_wp2_with fail;refine⟨⟨k+1,s+1,iM φ p (some (.int .i64 k)),oQ,by go_num,oQ,vX.o,Gy.o,iB.o⟩,by simp[intOf];omega⟩
  ·obtain rfl:k=B:=oQ
   have HB:=U Ag;clear hM hφ hB Ag;go_wp2_with fail;go_ret;exact⟨rfl,HB.o⟩
end
def nZ (P k:Nat):List Int:=(List.range P).map (λ(p:Nat)=>if p<k then(p:Int)+1 else 0)
theorem Qs (P:Nat):List.replicate P 0=nZ P 0:=by
 apply qG;intro i;by_cases h:i<P<;>simp[nZ,h]
theorem Az {P k p:Nat} (h:p<P):(nZ P k)[p]? =some (if p<k then(p:Int)+1 else 0):=by
 rw[nZ,qb,qW h];rfl
theorem U7 {P k:Nat} (h:k<P):(nZ P k).set k ((k:Int)+1)=nZ P (k+1):=by
 apply qG;intro i;by_cases hi:i<P
 ·rw[Az hi,zaW]
  by_cases hk:k=i
  ·subst hk
   rw[if_pos rfl,if_pos (by simp[nZ,h]),if_pos oQ]
  ·rw[if_neg hk,Az hi]
   by_cases h1:i<k
   ·rw[if_pos h1,if_pos oQ]
   ·rw[if_neg h1,if_neg oQ]
 ·rw[qz (by simp[nZ];omega),qz (by simp[nZ];omega)]
theorem U8 (P:Nat):nZ P P=sK P:=by
 unfold nZ sK;apply za5;intro p hp;rw[if_pos (zao.1 hp)]
def uj (A:Nat→Option Nat) (k:Nat):Nat→Option Nat:=λi=>if i<k then A i else none
theorem Zz {A:Nat→Option Nat} {k p:Nat} (h:A k=some p):fD (uj A k) k (some p)=uj A (k+1):=by
 funext i;unfold fD uj;by_cases hi:i=k
 ·subst hi
  rw[if_pos rfl,if_pos oQ,h]
 ·rw[if_neg hi]
  by_cases h1:i<k
  ·rw[if_pos h1,if_pos oQ]
  ·rw[if_neg h1,if_neg oQ]
theorem U9 {A:Nat→Option Nat} {k:Nat} (h:A k=none):uj A k=uj A (k+1):=by
 funext i;unfold uj;by_cases h1:i<k
 ·rw[if_pos h1,if_pos oQ]
 ·by_cases hi:i=k
  ·subst hi
   rw[if_neg h1,if_pos oQ,h]
  ·rw[if_neg h1,if_neg oQ]
structure NJ (w2:World) (j r rb t pb ob P B:Nat) (jl:List Value) (vals:List Int) (f g:Nat→Option Nat) (W:World):Prop where
 cells:ah W j 198 jl
 ring:RingAt W r rb P vals
 tab:TabAt W t pb ob B P f g
 below:Below w2.heap.size w2 W
structure NJd (w2:World) (j r rb t pb ob:Nat):Prop where
 new:w2.heap.size≤j∧w2.heap.size≤r∧w2.heap.size≤rb∧w2.heap.size≤t∧w2.heap.size≤pb∧w2.heap.size≤ob
 jn:j≠r∧j≠rb∧j≠t∧j≠pb∧j≠ob
 rn:r≠t∧r≠pb∧r≠ob∧rb≠t∧rb≠pb∧rb≠ob
section
variable {w2 W W':World} {j r rb t pb ob P B:Nat} {jl:List Value} {vals vals':List Int} {f g f' g':Nat→Option Nat}
theorem NJ.atl (h:NJ w2 j r rb t pb ob P B jl vals f g W) (d:NJd w2 j r rb t pb ob) (hs:Step (· =rb) W (· =rb) W') (hr:RingAt W' r rb P vals'):NJ w2 j r rb t pb ob P B jl vals' f g W':=
 ⟨h.cells.step hs d.jn.2.1,hr,h.tab.step hs (Bp d.rn.2.2.2.1) (Bp d.rn.2.2.2.2.1) (Bp d.rn.2.2.2.2.2),h.below.trans (hs.below (λk hk=>by subst hk;exact d.new.2.2.1) h.below.size)⟩
theorem NJ.atm (h:NJ w2 j r rb t pb ob P B jl vals f g W) (d:NJd w2 j r rb t pb ob) (hs:Step (sW t pb ob) W (sW t pb ob) W') (ht:TabAt W' t pb ob B P f' g'):NJ w2 j r rb t pb ob P B jl vals f' g' W':=by
 obtain⟨n1,n2,n3,n4,n5,n6⟩:=d.new;obtain⟨j1,j2,j3,j4,j5⟩:=d.jn;obtain⟨r1,r2,r3,r4,r5,r6⟩:=d.rn;exact⟨h.cells.step hs (by rintro(h|h|h)<;>contradiction),h.ring.step hs (by rintro(h|h|h)<;>contradiction) (by rintro(h|h|h)<;>contradiction),ht,h.below.trans (hs.below (by rintro k (rfl|rfl|rfl)<;>assumption) h.below.size)⟩
end
section
variable {w:World} {P B ep st sq hd us:Nat} {A:Nat→Option Nat}
theorem ZA (h:Zy P B ep st sq hd us A) (hP:1≤P) {ab d:Nat} (hA:ah w ab 3 (dA ((List.range B).map (λi=>jW (A i))))) {ds:Nat→Bytes} {wt:Wt} {Fd:Nat→Prop} (hD:Dev w d (P+1) ds wt false Fd):
  Calls Tryz.prog 121 #[.pointer (some ⟨d,0,none⟩),.int .i64 P,stV ep st sq hd us (.slice (some ⟨ab,0,none⟩) B B)] w λe w'=>∃(j r rb t pb ob:Nat) (g:Nat→Option Nat),e=.returned (.tuple #[.pointer (some ⟨j,0,none⟩),.int .i64 0])∧
   ah w' j 198 [.pointer (some ⟨d,0,none⟩),.pointer (some ⟨r,0,none⟩),.pointer (some ⟨t,0,none⟩),.int .i64 B,.int .u32 ep,.int .u64 st,.int .u64 sq,.int .i64 hd,.int .i64 us,.int .i64 0,.bool false]∧RingAt w' r rb P (sK P)∧TabAt w' t pb ob B P (uj A B) g∧
   (∀k,(k=j∨k=r∨k=rb∨k=t∨k=pb∨k=ob)→w.heap.size≤k)∧rb≠pb∧rb≠ob∧Below w.heap.size w w':=by
 have h1:=h.bb;have h2:=h.bp;have hdn:∀W,Below w.heap.size w W→Dev W d (P+1) ds wt false Fd:=λW hW=>hD.step (Step.of_below hW (λ_=>False)) (λ_ _ h=>h);have H:=U h;have HA:=U hA;have HD:=U hdn;clear h hA hD hdn;go_enter Tryz.func121,Tryz.ntmps121;go_wp2_with fail;obtain⟨wa,vH⟩:∃wa,w.alloc (.cells #[.int .u32 ep,.int .u64 st,.int .u64 sq,.int .i64 hd,.int .i64 us,.slice (some ⟨ab,0,none⟩) B B] 118)=wa:=⟨_,rfl⟩
 have lq:Below w.heap.size w wa:=by rw[←vH];exact(zn _ _).alloc (zm _) _
 have Tf:wa.heap.size=w.heap.size+1:=by rw[←vH];simp
 have ZB:ah wa w.heap.size 118 [.int .u32 ep,.int .u64 st,.int .u64 sq,.int .i64 hd,.int .i64 us,.slice (some ⟨ab,0,none⟩) B B]:=by rw[←vH];exact ah.new w _ _
 have a0:=ZB.cell 0;have a1:=ZB.cell 1;have a2:=ZB.cell 2;have a3:=ZB.cell 3;have a4:=ZB.cell 4;have a5:=ZB.cell 5;simp only[zf,zi] at a0 a1 a2 a3 a4 a5;rw[vH];have Cr:=U lq;have Hza:=U Tf;have HVa:=U ZB;clear vH lq Tf ZB;refine(kK (HD.o _ Cr.o)).mono ?_;rintro e w1 ⟨rfl,rfl⟩;have fA:IntKind.i64.wrap (((P+1:Nat):Int) - 1)=(P:Int):=by rw[zG];omega
 have hgt:¬((P:Int)<(P:Int)):=oQ
 go_wp2_with fail;refine(Qr H.o (HA.o.below Cr.o)).mono ?_;rintro e w2 ⟨rfl,aJ⟩
 have LA:Hid (∀W,Below w2.heap.size w2 W→W.cell? ⟨w.heap.size,0,none⟩=some (.int .u32 ep)∧W.cell? ⟨w.heap.size,1,none⟩=some (.int .u64 st)∧W.cell? ⟨w.heap.size,2,none⟩=some (.int .u64 sq)∧W.cell? ⟨w.heap.size,3,none⟩=some (.int .i64 hd)∧W.cell? ⟨w.heap.size,4,none⟩=some (.int .i64 us)∧W.cell? ⟨w.heap.size,5,none⟩=some (.slice (some ⟨ab,0,none⟩) B B)):=U (λW hW=>by
  have hV:=(HVa.o.below aJ).below hW;exact⟨hV.cell 0,hV.cell 1,hV.cell 2,hV.cell 3,hV.cell 4,hV.cell 5⟩)
 have Yd:=U (HVa.o.below aJ);have bH:=U (Cr.o.trans (aJ.mono Cr.o.size));have hz2:w.heap.size+1≤w2.heap.size:=by have:=aJ.size;have:=Hza.o;omega
 clear aJ a0 a1 a2 a3 a4 a5 fA hgt;go_wp2_with fail;refine wp_region_noPanic ?_;refine ak (S:=(λW=>W.cell? ⟨w.heap.size,0,none⟩=some (.int .u32 ep)∧W.cell? ⟨w.heap.size,1,none⟩=some (.int .u64 st)∧W.cell? ⟨w.heap.size,2,none⟩=some (.int .u64 sq)∧W.cell? ⟨w.heap.size,3,none⟩=some (.int .i64 hd)∧W.cell? ⟨w.heap.size,4,none⟩=some (.int .i64 us)∧W.cell? ⟨w.heap.size,5,none⟩=some (.slice (some ⟨ab,0,none⟩) B B))) (m:=23) kQ (LA.o _ (zn _ _).drew) (λaj=>?_);refine te 0 aj ?_;refine te 1 aj ?_;refine te 3 aj ?_;refine te 4 aj ?_;refine te 5 aj ?_;refine te 6 aj ?_;refine te 8 aj ?_;refine te 9 aj ?_;refine te 10 aj ?_;refine te 11 aj ?_;refine te 12 aj ?_;refine te 13 aj ?_;refine te 14 aj ?_;refine te 15 aj ?_;refine te 16 aj ?_;refine te 17 aj ?_;refine te 18 aj ?_;refine te 19 aj ?_;refine te 20 aj ?_;refine rE 2 λK hK=>?_;go_simp;with_reducible refine(Bw _ P hP oQ).mono ?_
 rintro e w3 ⟨r,rb,rfl,hR,hrn,bf⟩;have iB:=U ((zn w2.heap.size w2).drew.trans bf);have HR:=U hR;have hrn:w2.heap.size≤r∧w2.heap.size≤rb:=hrn;clear bf hR;go_wp2_with fail;refine hK.out _ _ (λ_=>(LA.o _ iB.o)) (λhS=>?_);have bQ:=hS dQ;clear hS hK K
 try simp only[Act.put,zh,zk,zl]
 refine rE 7 λK hK=>?_;go_simp;with_reducible refine(PV _ B P h1.1 oQ hP oQ).mono ?_
 rintro e w4 ⟨t,pb,ob,rfl,hT,htn,dX⟩;have HR4:=U (HR.o.below dX);have HT:=U hT;have mF:=iB.o.size;have lS:=U (iB.o.trans (dX.mono iB.o.size));have hrl:=HR.o.row.lt;clear dX hT;go_wp2_with fail;refine hK.out _ _ (λ_=>(LA.o _ lS.o)) (λhS=>?_);have bV:=hS dQ;clear hS hK K
 try simp only[Act.put,zh,zk,zl]
 refine te 21 bV ?_;refine rE 22 λK hK=>?_;go_simp;refine hK.out _ _ (λ_=>(LA.o _ (lS.o.alloc lS.o.size _))) (λhS=>?_);have jd:=hS dQ;clear hS hK K
 try simp only[Act.put,zh,zk,zl]
 refine vF 23 ?_;refine aD ?_;have Ah:=lS.o.size;obtain⟨wj,hwj⟩:∃wj,w4.alloc (.cells #[.pointer (some ⟨d,0,none⟩),.pointer (some ⟨r,0,none⟩),.pointer (some ⟨t,0,none⟩),.int .i64 B,.int .u32 ep,.int .u64 st,.int .u64 sq,.int .i64 hd,.int .i64 us,.int .i64 0,.bool false] 198)=wj:=⟨_,rfl⟩
 have hBj:Below w4.heap.size w4 wj:=by rw[←hwj];exact(zn _ _).alloc (zm _) _
 obtain⟨jl,Dv⟩:∃jl:List Value,[.pointer (some ⟨d,0,none⟩),.pointer (some ⟨r,0,none⟩),.pointer (some ⟨t,0,none⟩),.int .i64 B,.int .u32 ep,.int .u64 st,.int .u64 sq,.int .i64 hd,.int .i64 us,.int .i64 0,.bool false]=jl:=⟨_,rfl⟩
 have hVj:ah wj w4.heap.size 198 jl:=by rw[←hwj,←Dv];exact ah.new w4 _ _
 obtain⟨j,hj⟩:∃j,w4.heap.size=j:=⟨_,rfl⟩
 have hob:=HT.o.iU.lt;have pY:=HT.o.places.lt;have Tq:t<w4.heap.size:=by obtain⟨c,hc⟩:=HT.o.cells;exact hc.lt
 have hrr:r<w4.heap.size:=HR4.o.cells.lt;have atn:r<w3.heap.size:=HR.o.cells.lt;have hd:NJd w2 j r rb t pb ob:=⟨oQ,oQ,oQ⟩
 have hN:NJ w2 j r rb t pb ob P B jl (nZ P 0) (uj A 0) (λ_=>none) wj:=by
  refine⟨by rw[←hj];exact hVj,?_,?_,lS.o.trans (hBj.mono lS.o.size)⟩
  ·rw[←Qs];exact HR4.o.below hBj
  ·have:uj A 0=λ_=>none:=by funext i;simp[uj]
   rw[this];exact HT.o.step (Step.of_below hBj (λ_=>False)) (λh=>h) (λh=>h) (λh=>h)
 have agd:∀k,(k=j∨k=r∨k=rb∨k=t∨k=pb∨k=ob)→w.heap.size≤k:=by
  rintro k (rfl|rfl|rfl|rfl|rfl|rfl)<;>omega
 have HND:=U hd;have HN:=U hN;have amB:=U agd;have Hjl:=U Dv;clear hVj hBj hN hd agd hob pY Tq hrr atn hrl mF htn hrn;rw[hwj,hj];clear hwj hj Dv;go_wp2_with fail;go_loopw [55] (λv wr=>∃(k:Nat),k≤P∧v=.int .i64 k∧NJ w2 j r rb t pb ob P B jl (nZ P k) (uj A 0) (λ_=>none) wr) (λv _=>P - (intOf v).toNat)
 case atStart=>exact⟨0,oQ,rfl,HN.o⟩
 case round=>
  obtain⟨k,hk,rfl,yx⟩:=hrel;by_cases hkP:k<P
  ·have c1:=yx.cells.cell 1
   rw[←Hjl.o] at c1;simp only[zf,zi] at c1;have HNk:=U yx;have U_:(k:Int)%(P:Int)=(k:Int):=qY oQ oQ;have Hkm:=U U_;clear yx U_;go_wp2_with fail;refine(ado HNk.o.ring _ oQ k Hkm.o _ _ (Az hkP)).mono ?_;rintro e w5 ⟨rfl,hR5,Ki⟩;rw[U7 hkP] at hR5;have Qt:=U (HNk.o.atl HND.o Ki hR5);clear hR5 Ki;go_wp2_with fail;refine⟨⟨k+1,oQ,by go_num,Qt.o⟩,by simp[intOf];omega⟩
  ·obtain rfl:k=P:=oQ
   have hV:=Yd.o.below yx.below;have c5:=hV.cell 5;simp only[zf,zi] at c5;have HNk:=U yx;clear yx hV;go_wp2_with fail;go_loopw [70] (λv wr=>∃(i:Nat) (g:Nat→Option Nat),i≤B∧v=.int .i64 i∧NJ w2 j r rb t pb ob k B jl (nZ k k) (uj A i) g wr) (λv _=>B - (intOf v).toNat)
   case atStart=>exact⟨0,_,oQ,rfl,HNk.o⟩
   case round=>
    obtain⟨i,g,hi,rfl,hNi⟩:=hrel;by_cases hiB:i<B
    ·have c2:=hNi.cells.cell 2
     rw[←Hjl.o] at c2;simp only[zf,zi] at c2;have BQ:=fO ((HA.o.below bH.o).below hNi.below) hiB;have HNi:=U hNi;clear hNi;rcases Tp:A i with _|p
     ·rw[Tp] at BQ
      replace BQ:wr.cell? ⟨ab,i,none⟩=some (.int .i64 (-1)):=BQ;have Hci:=U (U9 Tp);clear Tp;go_wp2_with fail;refine⟨⟨i+1,g,oQ,by go_num,by rw[←Hci.o];exact HNi.o⟩,by simp[intOf];omega⟩
     ·rw[Tp] at BQ
      replace BQ:wr.cell? ⟨ab,i,none⟩=some (.int .i64 p):=BQ;have XR:=H.o.lt i p hiB Tp;have tV:∀x,x<B→uj A i x≠some p:=by
       intro x hx hxp;unfold uj at hxp
       split at hxp
       ·have:=H.o.inj x i p hx hiB hxp Tp
        omega
       ·cases hxp
      have Zx:=U tV;have Hci:=U (Zz Tp);clear Tp tV;go_wp2_with fail;refine(DF HNi.o.tab i p hiB XR Zx.o).mono ?_;rintro e w5 ⟨rfl,⟨g5,hT5⟩,Ki⟩;rw[Hci.o] at hT5;have Qt:=U (HNi.o.atm HND.o Ki hT5);clear hT5 Ki;go_wp2_with fail;refine⟨⟨i+1,g5,oQ,by go_num,Qt.o⟩,by simp[intOf];omega⟩
    ·obtain rfl:i=B:=oQ
     have HNi:=U hNi;clear hNi;go_wp2_with fail;go_ret2;refine⟨j,r,rb,t,pb,ob,g,rfl,by rw[Hjl.o];exact HNi.o.cells,by rw[←U8];exact HNi.o.ring,HNi.o.tab,amB.o,HND.o.rn.2.2.2.2.1,HND.o.rn.2.2.2.2.2,bH.o.trans (HNi.o.below.mono bH.o.size)⟩
end
end
section
open Go.RowKit Go.Shelf O
abbrev Fl:=List (Nat×tQ)
def gU (e:Nat×tQ):List Value:=[.int .u32 e.2.epoch,.int .u64 e.2.start,.int .u64 e.2.seq,.int .u64 ((e.2.seq - 1:Nat)),.int .i64 e.2.index,.int .i64 e.2.count,.int .i64 e.2.id,.int .i64 e.1]
def Qu (L:Fl):List Value:=L.flatMap gU
theorem Va (L:Fl) (e:Nat×tQ):Qu (L++[e])=Qu L++gU e:=by simp[Qu]
theorem MV:∀(L:Fl) (k i:Nat) (hk:k<L.length),i<8→(Qu L)[k*8+i]? =(gU L[k])[i]?
 |[],k,i,hk,_=>absurd hk sQ
 |e::L,0,i,hk,hi=>by
  have h8:(gU e).length=8:=rfl;rw[Qu,zaX,qo oQ];simp
 |e::L,k+1,i,hk,hi=>by
  have h8:(gU e).length=8:=rfl;rw[Qu,zaX,qd oQ,show(k+1)*8+i - (gU e).length=k*8+i by omega];exact MV L k i (by simpa using hk) hi
def AA (w:World) (v:Value) (L:Fl):Prop:=w.ownsRow 0 243 8 v L.length (Qu L)
def AJ (sec:Nat→Option tQ) (k:Nat):Fl:=(List.range k).filterMap (λp=>(sec p).map (λx=>(p,x)))
theorem MW {sec:Nat→Option tQ} {k:Nat} (h:sec k=none):AJ sec (k+1)=AJ sec k:=by
 rw[AJ,za8,zaT];simp[h,AJ]
theorem MX {sec:Nat→Option tQ} {k:Nat} {x:tQ} (h:sec k=some x):AJ sec (k+1)=AJ sec k++[(k,x)]:=by
 rw[AJ,za8,zaT];simp[h,AJ]
theorem Tt (sec:Nat→Option tQ) (k:Nat):(AJ sec k).length≤k:=zC (List.length_filterMap_le _ _) sQ
theorem rV {sec:Nat→Option tQ} {k:Nat} {e:Nat×tQ}:e∈AJ sec k↔e.1<k∧sec e.1=some e.2:=by
 obtain⟨p,x⟩:=e;unfold AJ;rw[List.mem_filterMap];constructor
 ·rintro⟨q,hq,h⟩
  rcases hs:sec q with _|y
  ·rw[hs] at h;cases h
  ·rw[hs] at h
   injection h with h;injection h with h1 h2;subst h1 h2;exact⟨zao.1 hq,hs⟩
 ·rintro⟨h1,h2⟩
  exact⟨p,zao.2 h1,by rw[h2];rfl⟩
theorem AA.nil (w:World):AA w (.slice none 0 0) []:=⟨rfl,.inl ⟨rfl,rfl⟩⟩
theorem AA.step {G G':Nat→Prop} {w w':World} {v:Value} {L:Fl} (h:AA w v L) (hs:Step G w G' w') (hn:∀b,v.ownBlock=some b→¬G b):AA w' v L:=aC hs h hn
theorem AA.below {w w':World} {v:Value} {L:Fl} (h:AA w v L) (hs:Below w.heap.size w w'):AA w' v L:=h.step (Step.of_below hs (λ_=>False)) (λ_ _ h=>h)
theorem AA.slice {w:World} {v:Value} {L:Fl} (h:AA w v L):∃a c,v=.slice a L.length c∧(L=[]∨∃b,a=some ⟨b,0,none⟩∧v.ownBlock=some b):=by
 obtain⟨a,c,hv,h2⟩:=aR h;refine⟨a,c,hv,?_⟩;rcases h2 with⟨_,h3⟩|⟨b,h3,h4⟩
 ·exact .inl (zX h3)
 ·exact .inr ⟨b,h3,h4⟩
theorem AA.cell {w:World} {b:Nat} {v:Value} {L:Fl} (h:AA w v L) (hb:v.ownBlock=some b) (k:Nat) (hk:k<L.length) (i:Nat) (hi:i<8) {u:Value} (hu:(gU L[k])[i]? =some u):w.cell? ⟨b,k*8+i,none⟩=some u:=
 bL h hb _ (by rw[MV L k i hk hi];exact hu)
theorem ah3:Dl Tryz.prog 237 243 (.agg #[.int .u32 0,.int .u64 0,.int .u64 0,.int .u64 0,.int .i64 0,.int .i64 0,.int .i64 0,.int .i64 0]) 8 64:=⟨Tryz.underlying237,kQ,rfl,dQ⟩
theorem adX (e:Nat×tQ):∀u∈gU e,u.oneCell'=true:=by
 intro u hu;simp only[gU,zH,zO,or_false] at hu;rcases hu with rfl|rfl|rfl|rfl|rfl|rfl|rfl|rfl<;>rfl
theorem Et (ty:TypeId) (w:World) {v:Value} {L:Fl} (h:AA w v L) (e:Nat×tQ) (hf:L.length<100000):∃g cap w',(Builtin.append_ #[237,237] ty #[v,.slice (some ⟨w.heap.size,0,none⟩) 1 1]).run Tryz.prog (w.alloc (.cells (gU e).toArray 243))=.ok (.slice (some ⟨g,0,none⟩) (L.length+1) cap) w'∧
  AA w' (.slice (some ⟨g,0,none⟩) (L.length+1) cap) (L++[e])∧(v.ownBlock=some g∨w.heap.size≤g)∧Step (λk=>v.ownBlock=some k) w (λk=>v.ownBlock=some k) w':=by
 obtain⟨g,cap,w',hr,ho,hg,dw⟩:=jk ah3 ty w h (gU e) rfl (adX e) oQ oQ 243
 refine⟨g,cap,w',hr,?_,dw,Step.bU hg (λr e=>⟨e,by
  obtain⟨C,hC⟩:=aN h e;rintro⟨C2,fr,h3⟩;rw[hC] at h3;injection h3 with h3;injection h3 with _ h3
  first|exact absurd h3 dQ|exact(Fr.no h3 dQ).elim⟩)⟩
 unfold AA;rw[Va,zw];exact ho
theorem Vb:vW (zeros 512)=false:=by
 have h:fn (zeros 512) 1=0:=by decide+kernel
 unfold vW right;rw[h];simp
theorem MZ (w:World) {a:Option Addr} (hb:cZ w a (zeros 512)):
  Calls Tryz.prog 253 #[.slice a 512 512] w λe w'=>e=.returned (.tuple #[.agg jE.toArray,.slice none 0 0,.int .i64 4])∧Below w.heap.size w w':=by
 refine(BJ (zeros 512) (by simp[zeros]) w a 512 hb.is (zm _)).mono ?_;rintro e w' ⟨h1|⟨h1,_⟩,hB⟩
 ·exact⟨h1.2,hB⟩
 ·rw[Vb] at h1
  cases h1
end
section
open Go.RowKit Go.Shelf O
attribute [local go_sem] Oper.semAt_some
section
variable {w:World} {d P B seq:Nat} {st:Nat→Bytes} {wt:Wt} {F:Nat→Prop} {sec:Nat→Option tQ}
theorem Vd (hD:Dev w d (P+1) st wt false F) (hP:P≤20000) (hB:B≤3840) (hq:seq≤iQ) (hlen:∀k,(st k).length=512) (hv:∀p,p<P→view st wt (p+1)=encS (sec p)) (hr:∀p x,p<P→sec p=some x→x.Right B seq):
  Calls Tryz.prog 179 #[.pointer (some ⟨d,0,none⟩),.int .i64 P,.int .i64 B] w λe w'=>(∃v,e=.returned (.tuple #[v,.int .i64 0])∧AA w' v (AJ sec P)∧∀b,v.ownBlock=some b→w.heap.size≤b)∧Dev w' d (P+1) st wt false F∧Step F w F w':=by
 have jL:∀k,F k→k<w.heap.size:=by
  obtain⟨sb,ss,vw,xs,tb,cr,cw,cf,h⟩:=hD;exact h.lt
 have HD:=U hD;have HL:=U hlen;have HV:=U hv;have HR:=U hr;have HQ:=U hq;have HF:=U jL;clear hD hlen hv hr jL hq;go_enter Tryz.func179,Tryz.ntmps179;go_wp2_with fail;go_loopw [8,15] (λt v wr=>∃(k:Nat) (u:Value),k≤P∧v=.int .i64 k∧u=t∧AA wr u (AJ sec k)∧(∀b,u.ownBlock=some b→w.heap.size≤b)∧Dev wr d (P+1) st wt false F∧Step F w F wr) (λ_ v _=>P - (intOf v).toNat)
 case atStart=>exact⟨0,_,oQ,rfl,rfl,AA.nil w,λb hb=>by simp[Value.ownBlock] at hb,HD.o,Step.refl _ _⟩
 case round=>
  obtain⟨k,u,hk,rfl,rfl,hN,hn,hD,hS⟩:=hrel;have HN:=U hN;have Hn:=U hn;have HS:=U hS;have Vf:=U hD;clear hN hn hS hD;by_cases hkP:k<P
  ·have Ac:=Tt sec k
   have hvk:=HV.o k hkP;have UW:(k:Int)+1=((k+1:Nat):Int):=oQ
   have Hpc:=U UW;have Hvk:=U hvk;clear UW hvk;go_wp2_with fail;rw[Hpc.o];refine(BG Vf.o (k+1) oQ HL.o).mono ?_;rintro e w1 ⟨⟨ga,rfl,dO⟩,hD1,bQ⟩;rw[Hvk.o] at dO;have M0:=U hD1;have J7:=U (HS.o.trans bQ);have Kj:=U (HN.o.step bQ (λb hb h=>by have:=Hn.o b hb;have:=HF.o b h;omega));have pU:=U dO;clear hD1 bQ dO;go_wp2_with fail;rcases hs:sec k with _|x
   ·have hz:encS (sec k)=zeros 512:=by rw[hs];rfl
    refine(MZ w1 (by rw[←hz];exact pU.o)).mono ?_;rintro e w2 ⟨rfl,aJ⟩;have Hfk:=U (MW hs);have HD2:=U (M0.o.step (Step.of_below aJ (λ_=>False)) (λ_ _ h=>h));have LA:=U (J7.o.trans (Step.of_below aJ F));have HN2:=U (Kj.o.below aJ);clear aJ hz hs;have hzT:jE=[.int .u32 0,.int .u64 0,.int .u64 0,.int .u64 0,.int .i64 0,.int .i64 0,.int .i64 0]:=rfl;rw[hzT];go_wp2_with fail;have lq:=(zn w2.heap.size w2).alloc (zm _) (.cells #[.int .u32 0,.int .u64 0,.int .u64 0,.int .u64 0,.int .i64 0,.int .i64 0,.int .i64 0] 241);exact⟨⟨k+1,u,oQ,by go_num,rfl,by rw[Hfk.o];exact HN2.o.below lq,Hn.o,HD2.o.step (Step.of_below lq (λ_=>False)) (λ_ _ h=>h),LA.o.trans (Step.of_below lq F)⟩,by simp[intOf];omega⟩
   ·have hrx:=HR.o k x hkP hs
    have hz:encS (sec k)=encS (some x):=by rw[hs]
    refine(Ed hrx hB HQ.o (by rw[←hz];exact pU.o)).mono ?_;rintro e w2 ⟨A,cc,rfl,_,aJ⟩;obtain⟨w3,gV⟩:∃w3,w2.alloc (.cells #[.int .u32 x.epoch,.int .u64 x.start,.int .u64 x.seq,.int .u64 ((x.seq - 1:Nat)),.int .i64 x.index,.int .i64 x.count,.int .i64 x.id] 241)=w3:=⟨_,rfl⟩
    have bf:Below w1.heap.size w1 w3:=by rw[←gV];exact aJ.alloc aJ.size _
    have BR:ah w3 w2.heap.size 241 [.int .u32 x.epoch,.int .u64 x.start,.int .u64 x.seq,.int .u64 ((x.seq - 1:Nat)),.int .i64 x.index,.int .i64 x.count,.int .i64 x.id]:=by rw[←gV];exact ah.new w2 _ _
    obtain⟨g,cap,w4,iT,hN4,dw,iI⟩:=Et 237 w3 (Kj.o.below bf) (k,x) oQ;dsimp only[gU] at iT;have c0:=BR.cell 0;have c1:=BR.cell 1;have c2:=BR.cell 2;have c3:=BR.cell 3;have c4:=BR.cell 4;have c5:=BR.cell 5;have c6:=BR.cell 6;simp only[zf,zi] at c0 c1 c2 c3 c4 c5 c6;have Eh:decide (B≤x.id)=false:=by have:=hrx.id;rw[decide_eq_false_iff_not];omega
    have Hfk:=U (MX hs);have hF4:∀b,u.ownBlock=some b→¬F b:=λb hb h=>by have:=Hn.o b hb;have:=HF.o b h;omega
    have M4:=U ((M0.o.step (Step.of_below bf (λ_=>False)) (λ_ _ h=>h)).step iI (λb hb h=>hF4 b h hb));have JM:=U ((J7.o.trans (Step.of_below bf F)).inner iI (λb hb=>.inr (Hn.o b hb)));have ZC:=U hN4;have hz1:=J7.o.size;have mF:=bf.size;have Hat:=U dw;clear aJ bf BR hN4 dw iI hF4 hz hs hrx;rw[lF];go_wp2_with (at_builtin;refine wpList_append_run (.tmp 43) (.tmp 47) iT rfl rfl rfl rfl ?_);refine⟨⟨k+1,_,oQ,by go_num,rfl,by rw[Hfk.o];exact ZC.o,λb hb=>?_,M4.o,JM.o⟩,by simp[intOf];omega⟩;have:b=g:=by simpa[Value.ownBlock] using hb.symm
    subst this;rcases Hat.o with h|h
    ·exact Hn.o _ h
    ·omega
  ·obtain rfl:k=P:=oQ
   go_wp2_with fail;go_ret2;exact⟨⟨u,rfl,HN.o,Hn.o⟩,Vf.o,HS.o⟩
end
end
end Go.Proofs.YtdjdpeadohobmaaGreatDoor
