/- A part of the walk below the law: what is proved here is used by later parts; no further condition. -/
import Derived.Defers
import Derived.Recover
import Derived.Test.YtdjdpeadohobmaaGreatDoorK02
import Derived.Test.YtdjdpeadohobmaaGreatDoorK08
import Derived.Test.YtdjdpeadohobmaaGreatDoorK28
set_option linter.unusedVariables false
set_option linter.unusedSimpArgs false
set_option maxRecDepth 100000
set_option maxHeartbeats 20000000
namespace Go.Proofs.YtdjdpeadohobmaaGreatDoor
section
open Go.RowKit Go.Shelf Go.Maps O
attribute [local go_sem] Oper.semAt_some
theorem yK {P:Program} {ops:Array Oper} {rest:List Oper} {op:Oper} {a:Act} {w:World} {Q:Exit→Act→World→Prop} (YA:op.guard=none) (ty:TypeId) (x y:Operand) (ho:op.op=.store ty x y)
  (b o:Nat) (N M:List Int) (T:TypeId) (hx:a.eval x=.pointer (some ⟨b,o,none⟩)) (hy:a.eval y=.agg (aL N)) (hM:IsNode w b T M) (hl:o+N.length≤M.length)
  (hi:(P.info? ty).map (·.size)=some N.length)
  (h:∀w',IsNode w' b T (over M o N)→Kept b w w'→w'.heap.size=w.heap.size→wpList P ops Q rest (a.put op.dst undef) w'):wpList P ops Q (op::rest) a w:=by
 refine wpList_store_mid YA ty x y ho b o (aL N) hx hy (λj hj=>?_) (by rw[rA];exact hi) (Ia N) (h _ ?_ ⟨by rw[setCells_size];exact zm _,λk _ hk=>iC b _ _ w k hk,λB hB _=>iD b _ _ w B hB⟩ (setCells_size _ _ _ _))
 ·rw[rA] at hj
  have bA:o+j<M.length:=oQ
  exact⟨by rw[hM.cell (o+j) _ (zu bA)];rfl,hM.free _⟩
 ·have h1:=oF w b T (aS N) o (aS M) hM (by rw[aO,aO];exact hl)
  have h2:aS (over M o N)=(aS M).take o++aS N++(aS M).drop (o+(aS N).length):=by
   unfold over aS;rw[zW,zW,List.map_take,List.map_drop,zD]
  unfold IsNode aL;rw[h2];exact h1
theorem Rh (id k l s r d0 d1 d2 d3 d4 d5 d6 d7 d8 d9 d10 d11 d12 d13 d14 d15:Int):Tryz.prog.built 141 [(0,.int .i64 id),(1,.agg (aL (nd k l s [d0,d1,d2,d3,d4,d5,d6,d7,d8,d9,d10,d11,d12,d13,d14,d15] r)))]=some (aL (dU id k l s [d0,d1,d2,d3,d4,d5,d6,d7,d8,d9,d10,d11,d12,d13,d14,d15] r aT)):=kQ
theorem Wi (id k l s r:Int) (D:List Int) (hD:D.length=16):Tryz.prog.built 141 [(0,.int .i64 id),(1,.agg (aL (nd k l s D r)))]=some (aL (dU id k l s D r aT)):=by
 match D,hD with
 |[d0,d1,d2,d3,d4,d5,d6,d7,d8,d9,d10,d11,d12,d13,d14,d15],_=>exact Rh id k l s r d0 d1 d2 d3 d4 d5 d6 d7 d8 d9 d10 d11 d12 d13 d14 d15
theorem je {o:Oper} {a:Act} {w:World} {x y:Operand} {id k l s r:Int} {D:List Int} (ho:o.op=.build 141 #[(0,x),(1,y)]) (hD:D.length=16) (hx:a.eval x=.int .i64 id) (hy:a.eval y=.agg (aL (nd k l s D r))):
  (execOp a.eval o).run Tryz.prog w=.ok (.value (.agg (aL (dU id k l s D r aT)))) w:=by
 unfold execOp;simp only[ho,zac,qy,qK,hx,hy,qE,run_build w 141 _ _ (Wi id k l s r D hD),qp];rfl
theorem Wj {R:List Int} (hR:R.length=240) (h:R.all dB=true):VU (gM R)=R∧VW (gM R)=0:=by
 have h1:gN (gM R) 240=R:=by
  have:=EN R (λp hp=>by
   have:=qU.1 h p hp;unfold dB at this;rw[decide_eq_true_iff] at this;omega) []
  rw[qD,hR] at this;exact this
 have h2:rowOk (gM R)=true:=by
  unfold rowOk;rw[h1,h,jv,hR];rfl
 obtain⟨h3,h4⟩:=TI h2;exact⟨h3.trans h1,h4⟩
theorem Ri {id k l s:Int} {D R Z:List Int} {r:Int} (hD:D.length=16) (hZ:Z.length=240) (hR:R.length=240):over (dU id k l s D r Z) 21 R=dU id k l s D r R:=by
 have h20:(nd k l s D r).length=20:=cO _ _ _ _ _ hD;rw[pE,pE];unfold over;rw[List.take_succ_cons,←h20,List.take_left,qO (by simp only[zA,zw];omega)];simp
section
variable {v w w':World} {sp d B p b n id:Nat} {C E:Nat→Bytes} {F F':Nat→Prop} {k l:Int} {c:Bytes} {D R:List Int} {r:Int}
theorem Wk.blocks {Bk:Nat} (h:Wk v w p b sp d Bk C E n F):w.cell? ⟨p,1,none⟩=some (.int .i64 Bk):=by
 obtain⟨L,q,Fb,bits,mk,h,hn,rfl⟩:=h;exact h.cells.cell 1
theorem Jf {id k l s:Int} {D R:List Int} {r:Int} (hD:D.length=16) (hR:R.length=240):R=((dU id k l s D r R).drop 21).take 240:=by
 have h20:(nd k l s D r).length=20:=cO _ _ _ _ _ hD;rw[pE,zaI,←h20,List.drop_left,zy oQ]
theorem mM (hV:Base v sp d B C) (h:Wk v w p b sp d B C E n F) (hF:mh E B id k l c D r R):
  Calls Tryz.prog 226 #[.pointer (some ⟨p,0,none⟩),.int .i64 id] w λe w'=>∃hb,e=.returned (.pointer (some ⟨hb,0,none⟩))∧w.heap.size≤hb∧bE w' hb id k l c.length D r R∧∃F',Wk v w' p b sp d B C E n F'∧¬F' hb∧Mv d v F w F' w':=by
 have hB:=hV.few;have rU:=hF.iW.EU hB.2 hF.kind hF.links;obtain⟨q,rfl,hqB,hqi,iq⟩:=hF.iW.ES hB.2;have hD:=hF.iW.ld;have hR:=hF.iW.lr;have hD1:=hF.iW.Aj hB.2;have hR1:=hF.iW.rOk hB.2;have anD:=hF.iW.rowOk hB.2;have hown:=hF.iW.own;have Jc:=hF.node;have agy:q≠0→E q=gM R:=λh0=>hF.anA oQ;have B_:q=0→R=aT:=λh0=>hF.row0 oQ;obtain⟨s,hs⟩:∃s:Int,(c.length:Int)=s:=⟨_,rfl⟩
 rw[hs] at rU Jc ⊢;clear hs hF iq;obtain⟨hdn,hde⟩:=aaw hD rU;rw[←Jc] at hdn hde;have Ij:(1:Int)≤id:=oQ
 have jQ:(id:Int)<B:=oQ
 have yj:id≠0:=oQ
 have MO:id<B:=hown.2.1;have c1:=h.blocks;have H:=U h;have HV:=U hV;have HDn:=U hdn;have HDe:=U hde;have M0:=U hD1;have X7:=U hR1;have HRo:=U anD;have HrB:=U agy;have Hr0:=U B_;have HD:=U hD;have HR:=U hR;clear h hV hdn hde hD1 hR1 anD agy B_ Jc rU hown hD hR;go_enter Tryz.func226,Tryz.ntmps226;go_wp2_with fail;refine(o_ _).mono ?_;rintro e w ⟨⟨x,rfl⟩,rfl⟩;go_wp2_with fail;refine(uY HV.o H.o yj MO).mono ?_;rintro e w1 ⟨g,cg,rfl,Yn,F1,h1,FZ,eD⟩;have hel:=h1.len HV.o.len id MO;have H1:=U h1;have CZ:=U eD;have Ho1:=U Yn;clear h1 eD Yn c1;go_wp2_with fail;refine(KE (E id) hel w1 (some ⟨g,0,none⟩) cg Ho1.o.pR.is).mono ?_;rintro e w2 ⟨rfl,aJ⟩;rw[HDn.o,HDe.o];have H2:=U (H1.o.below aJ);have Gh:=U (CZ.o.below aJ);have jO:(nd k l s D (q:Int)).length=20:=cO _ _ _ _ _ HD.o;have fU:(Tryz.prog.info? 138).map (·.size)=some (nd k l s D (q:Int)).length:=by rw[jO];kernel_rfl
 have aar:=U fU;have aiT:=U jO;clear aJ fU jO;go_wp2_with (first|(refine jG rfl rfl (Z:=aQ) kQ ?_;intro w3 mF bf lg)|(refine aK rfl 138 _ _ rfl w2.heap.size (nd k l s D q) (aS aQ) 138 rfl rfl mF (by rw[aO,aiT.o];rfl) aar.o ?_;intro w4 Ah sO iI));have ZC:=U Ah;have H4:=U (H2.o.keep (w':=w4) (λk hk=>(sO.block k (by have:=(H2.o.lt k hk).2;omega) (by have:=(H2.o.lt k hk).2;omega)).trans (bf.block k (H2.o.lt k hk).2)) (((H2.o.quiet.trans (Quiet.of_below bf))).kept sO H2.o.quiet.size HV.o.yE) oQ);have dI:=Gh.o.below bf;have Hm4:=U (dI.kept sO (.inr Gh.o.size));have hzz:w2.heap.size<w4.heap.size:=oQ
 clear mF bf lg Ah sO iI dI;refine(mH _).mono ?_;rintro e w' ⟨⟨x,rfl⟩,rfl⟩;obtain⟨w5,IY⟩:∃w5,w'.alloc (.cells (aL (dU id k l s D q aT)) 141)=w5:=⟨_,rfl⟩
 have iJ:Below w'.heap.size w' w5:=by rw[←IY];exact(zn _ _).alloc (zm _) _
 have hH5:bE w5 w'.heap.size id k l s D q aT:=⟨by rw[←IY];exact IsNode.new _ _ _,HD.o,eZ⟩
 have Qt:=U (ZC.o.below iJ);have H5:=U (H4.o.below iJ);have Hm5:=U (Hm4.o.below iJ);have HH5:=U hH5;have BN:w5.heap.size=w'.heap.size+1:=by rw[←IY];simp
 have c19:=Qt.o.cell 19 _ (aao k l s D q HD.o);clear iJ hH5;have xk:w.heap.size≤w'.heap.size:=by have:=Hm4.o.size;omega
 have aiU:¬F1 w'.heap.size:=λhf=>by have:=(H4.o.lt _ hf).2;omega
 by_cases hq:q=0
 ·have hqe:((q:Int) !=0)=false:=by simp[hq]
  have vU:=Hr0.o hq;have HHf:=HH5;rw[←vU] at HHf;have HWf:=H5;have HNf:=Qt;have Hmf:=Hm5;have aiV:=aiU;clear vU hq;go_wp2_with (first|(refine aX rfl 138 _ rfl w2.heap.size 0 rfl _ _ ZC.o.range Tryz.underlying138 rfl aar.o ?_)|(refine bB _ rfl (je rfl HD.o rfl rfl) ?_));have c1:=HWf.o.blocks;clear c19;go_wp2_with fail;refine(kV c1 HD.o oQ (HNf.o.nums 3 16 D (EI k l s D q HD.o)) (λx hx=>(M0.o x hx).2.2)).mono ?_;rintro e w' ⟨⟨x,rfl⟩,rfl⟩;go_wp2_with fail;refine(kV c1 HR.o oQ (HHf.o.1.nums 21 240 R (Jf HD.o HR.o)) (λx hx=>(X7.o x hx).2.2)).mono ?_;rintro e w' ⟨⟨x,rfl⟩,rfl⟩;go_wp2_with fail;go_ret;exact⟨_,rfl,xk,HHf.o,_,HWf.o,aiV,Hmf.o⟩
 ·have hqi:¬((q:Int)=0):=oQ
  have auM:(q:Int)<B:=oQ
  go_wp2_with (first|(refine aX rfl 138 _ rfl w2.heap.size 0 rfl _ _ ZC.o.range Tryz.underlying138 rfl aar.o ?_)|(refine bB _ rfl (je rfl HD.o rfl rfl) ?_));have lu:Below w5.heap.size w5 (w5.alloc (.cells #[.int .i64 q] 3)):=(zn _ _).alloc (zm _) _;have hN6:dY .i64 (w5.alloc (.cells #[.int .i64 q] 3)) (some ⟨w'.heap.size+1,0,none⟩) [(q:Int)]:=dY.alloc_at BN.symm _ rfl;obtain⟨w6,yC⟩:∃w6,w5.alloc (.cells #[.int .i64 q] 3)=w6:=⟨_,rfl⟩
  rw[yC] at lu hN6 ⊢;have H6:=U (H5.o.below lu);have Hm6:=U (Hm5.o.below lu);have HH6:Hid (bE w6 w'.heap.size id k l s D q aT):=U ⟨HH5.o.1.below lu,HH5.o.2⟩;have HN6:=U (Qt.o.below lu);have c1:=H6.o.blocks;clear lu yC;refine(kV c1 (n:=1) rfl oQ hN6 (λx hx=>by rw[zV.1 hx];exact auM)).mono ?_;rintro e w'' ⟨⟨x,rfl⟩,rfl⟩;have c19:=HN6.o.cell 19 _ (aao k l s D q HD.o);clear hN6 c1;go_wp2_with fail;refine(uY HV.o H6.o hq hqB).mono ?_;rintro e w7 ⟨g7,cg7,rfl,ho7,F7,h7,hg7,rz⟩;have hrl:(E q).length=480:=h7.len HV.o.len q oQ;have Ho7:=U ho7;have H7:=U h7;have Hm7:=U (Hm6.o.trans rz);have anG:¬F1 w2.heap.size:=λhf=>by have:=(H2.o.lt _ hf).2;omega
  have HH7:=U (HH6.o.mv rz aiU);have HN7:Hid (IsNode w7 w2.heap.size 138 (nd k l s D q)):=U (rz.aW (show ah w'' w2.heap.size 138 (aS (nd k l s D q)) from HN6.o) dQ anG);have anH:¬F7 w'.heap.size:=rz.apart HH6.o.lt aiU;have aC8:¬F7 w2.heap.size:=rz.apart HN6.o.lt anG;clear ho7 h7 rz hg7;go_wp2_with fail;refine(NK (E q) hrl w7 (some ⟨g7,0,none⟩) cg7 Ho7.o.pR.is).mono ?_;rintro e w8 ⟨rfl,xE⟩;obtain⟨hrn,hre⟩:=Wj HR.o HRo.o;rw[HrB.o hq,hrn,hre];have H8:=U (H7.o.below xE);have Hm8:=U (Hm7.o.below xE);have HH8:Hid (bE w8 w'.heap.size id k l s D q aT):=U ⟨HH7.o.1.below xE,HH7.o.2⟩;have HN8:=U (HN7.o.below xE);have wo:=KF HR.o;have Hi2:=U wo;have hhl:=KH (id:=(id:Int)) (k:=k) (l:=l) (s:=s) (r:=(q:Int)) HD.o eZ;have Hhl:=U (show 21+R.length≤(dU id k l s D q aT).length by rw[hhl,HR.o];omega);clear xE hrn hre wo hhl c19;go_wp2_with (refine yK rfl 139 _ _ rfl w'.heap.size 21 R _ 141 rfl rfl HH8.o.1 Hhl.o Hi2.o ?_;intro w9 hh9 hk9 hs9);have dV:w2.heap.size≠w'.heap.size:=oQ
  have HHf:Hid (bE w9 w'.heap.size id k l s D q R):=U ⟨by rw[←Ri HD.o eZ HR.o];exact hh9,HD.o,HR.o⟩;have HWf:=U (H8.o.keep (w':=w9) (λk hk=>hk9.block k (H8.o.lt k hk).2 (λe=>anH (e▸hk))) (H8.o.quiet.kept hk9 (by have:=H8.o.quiet.size;have:=H2.o.quiet.size;omega) HV.o.yE) oQ);have HNf:=U (HN8.o.kept hk9 dV);have Hmf:=U (Hm8.o.kept hk9 (.inr xk));have aiV:=anH;clear hh9 hk9 hs9;refine(mH _).mono ?_;rintro e w'' ⟨⟨x,rfl⟩,rfl⟩;have c19:=trivial;have c1:=HWf.o.blocks;clear c19;go_wp2_with fail;refine(kV c1 HD.o oQ (HNf.o.nums 3 16 D (EI k l s D q HD.o)) (λx hx=>(M0.o x hx).2.2)).mono ?_;rintro e w' ⟨⟨x,rfl⟩,rfl⟩;go_wp2_with fail;refine(kV c1 HR.o oQ (HHf.o.1.nums 21 240 R (Jf HD.o HR.o)) (λx hx=>(X7.o x hx).2.2)).mono ?_;rintro e w' ⟨⟨x,rfl⟩,rfl⟩;go_wp2_with fail;go_ret;exact⟨_,rfl,xk,HHf.o,_,HWf.o,aiV,Hmf.o⟩
end
end
section
variable {P:Program} {ops:Array Oper} {rest:List Oper} {o:Oper} {a:Act} {w:World} {Q:Exit→Act→World→Prop}
@[irreducible] def Stop (p:Prop):Prop:=p
theorem Stop.go {p:Prop} (h:p):Stop p:=by unfold Stop;exact h
theorem vg (t:TypeId) (x:Operand) (_ho:o.op=.load t x) (h:Stop (wpList P ops Q (o::rest) a w)):wpList P ops Q (o::rest) a w:=by unfold Stop at h;exact h
theorem C8 (p:Op) (_ho:o.op=p) (h:Stop (wpList P ops Q (o::rest) a w)):wpList P ops Q (o::rest) a w:=by unfold Stop at h;exact h
end
section
open Go.RowKit Go.Shelf Go.Maps O
theorem C9 {Fb:Nat→Prop} {p k:Nat} {bits:Value} (h:Fb k):ru Fb p bits k:=.inl h
theorem TD.below {w w':World} {b sp:Nat} (h:TD w b sp) (hB:Below w.heap.size w w'):TD w' b sp:=by
 obtain⟨p1,p2,p3,p4,h⟩:=h;exact⟨p1,p2,p3,p4,h.below hB⟩
def U3 (o b B:Nat) (T:TypeId) (Z:List Value) (W:World):Prop:=ah W o 85 [.pointer (some ⟨b,0,none⟩),.int .i64 B]∧ah W (o+1) T Z∧ah W (o+2) 26 [.int .i64 0]
section
variable {v w w1 w2 w3 w4 w7 w8 w9 wf W W':World} {sp d B b n p b' m:Nat} {C E E':Nat→Bytes} {F F1 F2 G Fb KL:Nat→Prop} {T:TypeId} {Z Z':List Value} {L L6:Wl} {q:Bool} {bits:Value} {mk:Bool} {X:List Nat} {lo:Nat}
theorem U3.below {o:Nat} (h:U3 o b B T Z W) (hB:Below W.heap.size W W'):U3 o b B T Z W':=⟨h.1.below hB,h.2.1.below hB,h.2.2.below hB⟩
theorem C_ (aP:((w.alloc (.cells #[.pointer (some ⟨b,0,none⟩),.int .i64 B] 85)).alloc (.cells Z.toArray T)).alloc (.cells #[.int .i64 0] 26)=w1):U3 w.heap.size b B T Z w1∧Below w.heap.size w w1∧w1.heap.size=w.heap.size+3:=by
 obtain⟨aM,oK,hz1⟩:=boxes [([.pointer (some ⟨b,0,none⟩),.int .i64 B],85),(Z,T),([.int .i64 0],26)] w w1 (by rw[←aP];rfl);exact⟨⟨aM 0 _ rfl,aM 1 _ rfl,aM 2 _ rfl⟩,oK,by simpa using hz1⟩
theorem yL (hV:Base v sp d B C) (hq:Quiet d v w) (bA:∀k,F k→v.heap.size≤k∧k<w.heap.size) (oJ:F b) (hE:dW C L=E) (hL:L.length≤n) (aF:Below w.heap.size w w1) (hz1:w1.heap.size=w.heap.size+3) (hu:U3 w.heap.size b B T Z w2) (dZ:w1.heap.size≤b') (dh:uX v w2 b' sp d C L true (λk=>(F k∧k≠b)∨k=b')) (nK:TD w2 b sp) (jM:Turn v.heap.size (· =b) w1 (· =b) w2)
  (gV:w2.alloc (.cells #[.pointer (some ⟨b',0,none⟩),.int .i64 B,.slice none 0 0,.bool false] 132)=w3):
  ∃F1,Wk v w3 w2.heap.size b' sp d B C E n F1∧(∀k,F1 k↔((F k∧k≠b)∨k=b')∨k=w2.heap.size)∧Mv d v F w (λk=>F1 k∨k=b) w3∧TD w3 b sp∧U3 w.heap.size b B T Z w3∧w3.heap.size=w2.heap.size+1∧w.heap.size+3≤w2.heap.size:=by
 have tF:=hq.size;have bf:Below w2.heap.size w2 w3:=by rw[←gV];exact(zn _ _).alloc (zm _) _
 have tu:ah w3 w2.heap.size 132 (Ja b' B (.slice none 0 0) false):=by rw[←gV];exact ah.new w2 _ _
 have mF:w3.heap.size=w2.heap.size+1:=by rw[←gV];simp
 have AQ:=jM.size;have Jg:=dh.below bf;obtain⟨Fb,Nv⟩:∃Fb:Nat→Prop,(λk=>(F k∧k≠b)∨k=b')=Fb:=⟨_,rfl⟩
 rw[Nv] at Jg;have aez:∀k,Fb k→k<w2.heap.size:=λk hk=>by rw[←Nv] at hk;exact(dh.lt k hk).2
 have QW:¬Fb w2.heap.size:=λhk=>by have:=aez _ hk;omega
 have tJ:Wk v w3 w2.heap.size b' sp d B C E n (ru Fb w2.heap.size (.slice none 0 0)):=⟨L,true,Fb,.slice none 0 0,false,⟨tu,oQ,QW,Jg,.inl ⟨rfl,rfl,congrFun hE 0⟩,λi _=>congrFun hE i⟩,⟨hL,λ_=>rfl⟩,rfl⟩
 obtain⟨F1,Jh⟩:∃F1,ru Fb w2.heap.size (.slice none 0 0)=F1:=⟨_,rfl⟩
 rw[Jh] at tJ;have mo:∀k,F1 k↔((F k∧k≠b)∨k=b')∨k=w2.heap.size:=λk=>by
  rw[←Jh,←Nv];unfold ru;constructor
  ·rintro(h|h|h)
   ·exact .inl h
   ·exact .inr h
   ·cases h
  ·rintro(h|h)
   ·exact .inl h
   ·exact .inr (.inl h)
 refine⟨F1,tJ,mo,?_,nK.below bf,hu.below bf,mF,oQ⟩;refine Mv.mk' hV.dev hq tJ.quiet bA (λk hk=>?_) ⟨oQ,λk h1 h2 h3=>?_,λk hk=>?_⟩
 ·rcases hk with hk|rfl
  ·exact tJ.lt k hk
  ·have:=bA k oJ
   exact⟨this.1,oQ⟩
 ·have e1:k≠b:=λe=>h3 (e▸oJ)
  rw[bf.block k oQ,jM.keep k h1 oQ e1];exact aF.block k h2
 ·rcases hk with hk|rfl
  ·rcases(mo k).1 hk with(hk|hk)|hk
   ·exact .inl hk.1
   ·exact .inr oQ
   ·exact .inr oQ
  ·exact .inl oJ
structure KM (v w:World) (sp d B b p b':Nat) (C E':Nat→Bytes) (F:Nat→Prop) (T:TypeId) (Z:List Value) (L:Wl) (q:Bool) (Fb:Nat→Prop) (bits:Value) (mk:Bool) (W:World):Prop where
 u:U3 w.heap.size b B T Z W
 par:TD W b sp
 mv:Mv d v F w (λk=>ru Fb p bits k∨k=b) W
 wk:gX v W p b' sp d B C E' L q Fb bits mk
 n3:∀k,w.heap.size≤k→k<w.heap.size+3→¬ru Fb p bits k
 nb:¬ru Fb p bits b
theorem vk (bA:∀k,F k→v.heap.size≤k∧k<w.heap.size) (oJ:F b) (hG:Mv d v F w (λk=>F1 k∨k=b) w3) (mo:∀k,F1 k↔((F k∧k≠b)∨k=b')∨k=p) (hb':w.heap.size+3≤b') (hp:w.heap.size+3≤p) (vQ:TD w3 b sp) (hU:U3 w.heap.size b B T Z w3) (hT:T≠74) (tJ:Wk v w4 p b' sp d B C E' n F2) (hm:Mv d v F1 w3 F2 w4):
  ∃L q Fb bits mk,F2=ru Fb p bits∧(L.length≤n∧(n=0→mk=false))∧KM v w sp d B b p b' C E' F T Z L q Fb bits mk w4:=by
 have Gx:b<w.heap.size:=(bA b oJ).2;have Cv:∀k,w.heap.size≤k→k<w.heap.size+3→¬F1 k:=λk h1 h2 hk=>by
  rcases(mo k).1 hk with(hk|hk)|hk
  ·have:=(bA k hk.1).2
   omega
  ·omega
  ·omega
 have yJ:¬F1 b:=λhk=>by
  rcases(mo b).1 hk with(hk|hk)|hk
  ·exact hk.2 rfl
  ·omega
  ·omega
 obtain⟨v0,v1,v2⟩:=hU;obtain⟨pw,sw,pt,st,pY⟩:=vQ;have hl:=v2.lt;obtain⟨L,q,Fb,bits,mk,gH,KN,rfl⟩:=tJ;refine⟨L,q,Fb,bits,mk,rfl,KN,⟨hm.aW v0 dQ (Cv _ oQ oQ),hm.aW v1 hT (Cv _ oQ oQ),hm.aW v2 dQ (Cv _ oQ oQ)⟩,⟨pw,sw,pt,st,hm.aW pY dQ yJ⟩,?_,gH,λk h1 h2=>hm.apart oQ (Cv k h1 h2),hm.apart oQ yJ⟩;refine hG.trans (hm.more (λk hk=>.inl hk) hG.lt' (λk hk=>?_));rcases hk with hk|hk
 ·exact .inr (.inl hk)
 ·exact .inl (.inr hk)
theorem KM.kept (h:KM v w sp d B b p b' C E' F T Z L q Fb bits mk W) (k5:Kept (w.heap.size+1) W W') (hz:b<w.heap.size) (h1:ah W' (w.heap.size+1) T Z'):KM v w sp d B b p b' C E' F T Z' L q Fb bits mk W':=by
 have hm:=h.mv.kept k5 (.inr oQ);obtain⟨pw,sw,pt,st,pY⟩:=h.par;exact⟨⟨h.u.1.kept k5 oQ,h1,h.u.2.2.kept k5 oQ⟩,⟨pw,sw,pt,st,pY.kept k5 oQ⟩,hm,h.wk.keep (λk hk=>k5.block k (h.wk.lt k hk).2 (λe=>h.n3 _ oQ oQ (e▸hk))) hm.q' k5.size,h.n3,h.nb⟩
theorem KM.wrote (h:KM v w sp d B b p b' C E' F T Z L q Fb bits mk W) (hT:T≠74) (h6:gX v W' p b' sp d B C E' L6 q KL bits mk) (hm:Mv d v (ru Fb p bits) W (ru KL p bits) W'):KM v w sp d B b p b' C E' F T Z L6 q KL bits mk W':=by
 have hl:=h.u.2.2.lt;obtain⟨pw,sw,pt,st,pY⟩:=h.par;have nI:=pY.lt;refine⟨⟨hm.aW h.u.1 dQ (h.n3 _ oQ oQ),hm.aW h.u.2.1 hT (h.n3 _ oQ oQ),hm.aW h.u.2.2 dQ (h.n3 _ oQ oQ)⟩,⟨pw,sw,pt,st,hm.aW pY dQ h.nb⟩,?_,h6,λk h1 h2=>hm.apart oQ (h.n3 k h1 h2),hm.apart oQ h.nb⟩;refine h.mv.trans (hm.more (λk hk=>.inl hk) h.mv.lt' (λk hk=>?_));rcases hk with hk|hk
 ·exact .inr (.inl hk)
 ·exact .inl (.inr hk)
theorem gX.aeA (h:gX v W p b' sp d B C E' L q Fb bits false):dW C L=E':=by
 funext i;by_cases hi:i=0
 ·subst hi
  rcases h.bit with⟨_,_,h1⟩|⟨g,c,_,_,_,_,_,h1⟩
  ·exact h1
  ·exact h1 rfl
 ·exact h.same i hi
theorem gX.aeB (h:gX v W p b' sp d B C E' L q Fb bits true):∃g c,bits=.slice (some ⟨g,0,none⟩) 480 c∧Bits v W p Fb bits true (dW C (jN L 0 (E' 0)) 0) (E' 0)∧(∀i,i≠0→dW C (jN L 0 (E' 0)) i=E' i)∧(E' 0).length=480∧cZ W (some ⟨g,0,none⟩) (E' 0)∧dW C (jN L 0 (E' 0))=E':=by
 obtain⟨g,c,rfl,ho,hl,hF,hp,_⟩:=h.bit.resolve_left (λh=>(by cases h.2.1));have hs:∀i,i≠0→dW C (jN L 0 (E' 0)) i=E' i:=λi hi=>by
  rw[uV];simp only[if_neg hi];exact h.same i hi
 refine⟨g,c,rfl,.inr ⟨g,c,rfl,ho,hl,hF,hp,λh=>(by cases h)⟩,hs,hl,ho.pR,?_⟩;funext i;by_cases hi:i=0
 ·subst hi
  rw[uV];simp
 ·exact hs i hi
theorem KO {l:Bytes} (hn:L.length≤n∧(n=0→true=false)) (hL:(jN L 0 l).length≤L.length+1):(jN L 0 l).length≤up n:=by
 have h0:n≠0:=λe=>(by cases hn.2 e)
 have h1:=hn.1;unfold up;rw[if_neg h0];omega
theorem KM.join (h:KM v w sp d B b p b' C E' F T Z L q Fb bits mk W) (hV:Base v sp d B C) (bA:∀k,F k→v.heap.size≤k∧k<w.heap.size) (oJ:F b) (tK:uX v w7 b sp d C L true (λk=>Fb k∨k=b)) (Kq:Turn v.heap.size (λk=>Fb k∨k=b) W (λk=>Fb k∨k=b) w7):
  U3 w.heap.size b B T Z w7∧Mv d v F w (λk=>Fb k∨k=b) w7∧∀k,w.heap.size≤k→k<w.heap.size+3→¬(Fb k∨k=b):=by
 have Gx:=(bA b oJ).2;have tF:=h.mv.vs;have hl:=h.u.2.2.lt;have nb:∀k,w.heap.size≤k→k<w.heap.size+3→¬(Fb k∨k=b):=λk h1 h2 h3=>by
  rcases h3 with h3|h3
  ·exact h.n3 k h1 h2 (.inl h3)
  ·omega
 refine⟨⟨Kq.aW h.u.1 oQ (nb _ oQ oQ),Kq.aW h.u.2.1 oQ (nb _ oQ oQ),Kq.aW h.u.2.2 oQ (nb _ oQ oQ)⟩,?_,nb⟩
 have hm:Mv d v (λk=>Fb k∨k=b) W (λk=>Fb k∨k=b) w7:=Mv.mk' hV.dev h.mv.q' tK.quiet (λk hk=>by
  rcases hk with hk|rfl
  ·exact h.wk.vN.lt k hk
  ·have:=bA k oJ
   exact⟨this.1,oQ⟩) tK.lt Kq
 exact h.mv.trans (hm.more (G:=λk=>ru Fb p bits k∨k=b) (λk hk=>hk.imp .inl (λh=>h)) h.mv.lt' (λk hk=>.inr (.inl hk)))
def Xs (W w4:World) (X:List Nat) (G:Nat→Prop) (lo:Nat):Prop:=∀g∈X,W.heap[g]? =w4.heap[g]?∧¬G g∧lo≤g∧g<W.heap.size
theorem Xs.kept {r:Nat} (h:Xs W w4 X G lo) (k:Kept r W W') (hr:r<lo):Xs W' w4 X G lo:=λg hg=>by
 obtain⟨h1,h2,h3,h4⟩:=h g hg;exact⟨(k.block g h4 oQ).trans h1,h2,h3,zx h4 k.size⟩
theorem Xs.mv (h:Xs W w4 X F lo) (hm:Mv d v F W G W') (hd:d<lo):Xs W' w4 X G lo:=λg hg=>by
 obtain⟨h1,h2,h3,h4⟩:=h g hg;exact⟨(hm.keep h4 oQ h2).trans h1,hm.apart h4 h2,h3,zx h4 hm.size⟩
theorem Xs.turn {base:Nat} (h:Xs W w4 X F lo) (ht:Turn base G W G w7) (hb:base≤lo) (hF:∀k,lo≤k→G k→F k):Xs w7 w4 X G lo:=λg hg=>by
 obtain⟨h1,h2,h3,h4⟩:=h g hg;have hn:¬G g:=λe=>h2 (hF g h3 e);exact⟨(ht.keep g oQ h4 hn).trans h1,hn,h3,zx h4 ht.size⟩
theorem yM (rz:Mv d v F w G w7) (tK:uX v w7 b sp d C L true G) (nb:∀k,w.heap.size≤k→k<w.heap.size+3→¬G k) (k1:Kept (w.heap.size+1) w7 w8) (k2:Kept (w.heap.size+2) w8 wf) (jf:Below wf.heap.size wf w9) (hu:dW C L=E') (hL:L.length≤m) (hx:Xs w7 w4 X G (w.heap.size+3)):
  (∀g∈X,w9.heap[g]? =w4.heap[g]?)∧cB v w9 b sp d C E' m G∧(∀g∈X,w.heap.size≤g∧g<w9.heap.size∧¬G g)∧Mv d v F w G w9:=by
 have hm:=((rz.kept k1 (.inr oQ)).kept k2 (.inr oQ)).below jf;have hz:w7.heap.size≤w9.heap.size:=zC (zC k1.size k2.size) jf.size;have hkb:∀k,k<w7.heap.size→k≠w.heap.size+1→k≠w.heap.size+2→w9.heap[k]? =w7.heap[k]?:=λk h1 h2 h3=>(jf.block k (zx h1 (zC k1.size k2.size))).trans ((k2.block k (zx h1 k1.size) h3).trans (k1.block k h1 h2));refine⟨λg hg=>?_,⟨L,tK.keep (λk hk=>hkb k (tK.lt k hk).2 (λe=>nb _ oQ oQ (e▸hk)) (λe=>nb _ oQ oQ (e▸hk))) hm.q' hz,hu,hL⟩,λg hg=>?_,hm⟩
 ·obtain⟨r1,r2,r3,r4⟩:=hx g hg
  exact(hkb g r4 oQ oQ).trans r1
 ·obtain⟨r1,r2,r3,r4⟩:=hx g hg
  exact⟨oQ,oQ,r2⟩
end
end
section
open Go.RowKit Go.Shelf Go.Maps O
attribute [local go_sem] Oper.semAt_some
theorem Sj (p q:Addr) (w:World):
  CallsD Tryz.prog 282 #[.pointer (some p),.pointer (some q)] .returning w λe u' w'=>e=.returned (.tuple #[])∧u'=.returning∧Below w.heap.size w w':=by
 refine callsD_of_wpS Tryz.func282 rfl λc₀ cs hu=>?_;apply wpS_seq;refine wpS_of_wp (lK λQ' rF=>?_);have HQ:=U rF;clear rF;simp only[Tryz.ntmps282,zQ,zA,zN,Nat.reduceAdd,Nat.reduceSub,zJ,zK,zT,zM,zB,zU];go_wp2_with fail;rw[HQ.o];simp only[Exit.thenS];apply wpS_seq;apply wpS_region;simp[wpOpsS,go_sem,Act.eval,recoverD,hu,Exit.thenS];refine wpS_of_wp (lK λQ' rF=>?_);have UO:=U rF;clear rF;go_wp2_with fail;rw[UO.o];cases c₀;simp_all[bodyPostS,results,Tryz.results282];exact zn _ _
section
variable {v w:World} {sp d B b n:Nat} {C E:Nat→Bytes} {F:Nat→Prop}
theorem N9 (hV:Base v sp d B C) (h:cB v w b sp d C E n F) {fn:Nat} {caps:Array Value} (lN:∀args w,(callFunc fn args).run Tryz.prog w=.ok (.enter fn args) w) {PE:(Nat→Bytes)→Prop} {n':Nat} {Post:Int→List Nat→World→Prop}
  (bT:∀z X A W,Post z X A→(∀g∈X,W.heap[g]? =A.heap[g]?)→Post z X W)
  (kW:∀w1 p b' G F1,Wk v w1 p b' sp d B C E n F1→Mv d v F w G w1→(∀k,F1 k→G k)→Calls Tryz.prog fn (#[.pointer (some ⟨p,0,none⟩)]++caps) w1 λe w2=>∃z X,e=.returned (.int .i64 z)∧Post z X w2∧(∀g∈X,w1.heap.size≤g∧g<w2.heap.size)∧∃E' F2,PE E'∧Wk v w2 p b' sp d B C E' n' F2∧(∀g∈X,¬F2 g)∧Mv d v F1 w1 F2 w2):
  Calls Tryz.prog 240 #[.agg #[.pointer (some ⟨b,0,none⟩),.int .i64 B],.func (.func fn) #[] caps] w λe w'=>∃z X,e=.returned (.tuple #[(.int .i64 z),.int .i64 0])∧Post z X w'∧∃E',PE E'∧∃F',cB v w' b sp d C E' (up n') F'∧(∀g∈X,w.heap.size≤g∧g<w'.heap.size∧¬F' g)∧Mv d v F w F' w':=by
 have hB:=hV.few;have aF:¬((B:Int)<4):=oQ
 have aJ:¬((3840:Int)<(B:Int)):=oQ
 have hd:=hV.yE;obtain⟨L,hb,hE,hL⟩:=h;have bA:=hb.lt;have oJ:=hb.own;have hq:=hb.quiet;have tF:=hq.size;obtain⟨w1,aP⟩:∃w1,((w.alloc (.cells #[.pointer (some ⟨b,0,none⟩),.int .i64 B] 85)).alloc (.cells #[.int .i64 0] 3)).alloc (.cells #[.int .i64 0] 26)=w1:=⟨_,rfl⟩
 obtain⟨hx,oK,AU⟩:=C_ (Z:=[.int .i64 0]) aP;have y0:=hx.1.cell 0;have y1:=hx.1.cell 1;simp only[zf,zi] at y0 y1;have hk:∀W,Below w1.heap.size w1 W→W.cell? ⟨w.heap.size,0,none⟩=some (.pointer (some ⟨b,0,none⟩))∧W.cell? ⟨w.heap.size,1,none⟩=some (.int .i64 B):=λW hW=>⟨(hx.1.below hW).cell 0,(hx.1.below hW).cell 1⟩
 have HK:=U hk;have HX:=U hx;have KP:=U (hb.below oK);have Ef:=U oK;have Gi:=U bT;have KQ:=U kW;have HV:=U hV;have Hq:=U hq;have iK:=U bA;clear hx oK hb bT kW hV hq bA hk;go_enter_defers Tryz.func240,Tryz.ntmps240;go_wp2_with fail;refine wp_region_noPanic ?_;refine ak (S:=(λW=>W.cell? ⟨w.heap.size,0,none⟩=some (.pointer (some ⟨b,0,none⟩))∧W.cell? ⟨w.heap.size,1,none⟩=some (.int .i64 B))) (m:=7) kQ (HK.o _ (zn _ _).drew) (λaj=>?_);refine te 0 aj ?_;refine te 1 aj ?_;refine te 3 aj ?_;refine te 4 aj ?_;refine rE 2 λK hK=>?_;go_simp;with_reducible refine(ko hd (KP.o.below (zn _ _).drew)).mono ?_
 rintro e w2 ⟨b',rfl,dZ,dh,nK,jM⟩;have jM:=(Turn.of_below (zn _ _).drew v.heap.size (· =b)).trans jM;have Gx:b<w.heap.size:=(iK.o b oJ).2;have u0:=jM.aW HX.o.1 oQ (by show¬(w.heap.size=b);omega);have U2:=U (show U3 w.heap.size b B 3 [.int .i64 0] w2 from⟨u0,jM.aW HX.o.2.1 oQ (by show¬(w.heap.size+1=b);omega),jM.aW HX.o.2.2 oQ (by show¬(w.heap.size+2=b);omega)⟩);have H2:=U (And.intro dZ (And.intro dh (And.intro nK jM)));go_wp2_with fail;refine hK.out _ _ (λ_=>⟨u0.cell 0,u0.cell 1⟩) (λhS=>?_);have bQ:=hS dQ;clear hS hK K
 try simp only[Act.put,zh,zk,zl]
 refine te 5 bQ ?_;refine rE 6 λK hK=>?_;go_simp;refine hK.out _ _ (λ_=>⟨(u0.below ((zn _ _).alloc (zm _) _)).cell 0,(u0.below ((zn _ _).alloc (zm _) _)).cell 1⟩) (λhS=>?_);have bV:=hS dQ;clear hS hK K
 try simp only[Act.put,zh,zk,zl]
 refine vF 7 ?_;refine aD ?_;obtain⟨w3,gV⟩:∃w3,w2.alloc (.cells #[.pointer (some ⟨b',0,none⟩),.int .i64 B,.slice none 0 0,.bool false] 132)=w3:=⟨_,rfl⟩
 obtain⟨dZ,dh,nK,jM⟩:=H2.o;have dZ:w1.heap.size≤b':=dZ;obtain⟨F1,tJ,mo,hG,vQ,hU,mF,hz2⟩:=yL HV.o Hq.o iK.o oJ hE hL Ef.o AU U2.o dZ dh nK jM gV;obtain⟨p,hp⟩:∃p,w2.heap.size=p:=⟨_,rfl⟩
 rw[hp] at tJ mo mF hz2;have BP:=U tJ;have HA:=U (And.intro hG (And.intro mo (And.intro vQ hU)));clear u0 U2 H2 dh nK jM tJ mo hG vQ hU hE y0 y1;go_wp2_with fail;refine(KQ.o w3 p b' _ F1 BP.o HA.o.1 (λk hk=>.inl hk)).mono ?_;rintro e w4 ⟨z,X,rfl,hP,hX,E',F2,Wn,EW,hXF,dI⟩;have Gx:b<w.heap.size:=(iK.o b oJ).2;have aaC:=dI.size;obtain⟨L4,q4,Fb4,bits,mk,rfl,KN,hR⟩:=vk iK.o oJ HA.o.1 HA.o.2.1 oQ hz2 HA.o.2.2.1 HA.o.2.2.2 dQ EW dI;have rW:=U (show Xs w4 w4 X (ru Fb4 p bits) (w.heap.size+3) from λg hg=>⟨rfl,hXF g hg,by have:=(hX g hg).1;omega,(hX g hg).2⟩);have k5:=Kept.setCell (r:=w.heap.size+1) w4 0 (.int .i64 z);have b1:=hR.u.2.1.aB 0 (.int .i64 z);simp only[zk] at b1;have z1:=hR.u.2.1.cell 0;have f1:=hR.u.2.1.free 0;simp only[zf] at z1;obtain⟨w5,KR⟩:∃w5,w4.setCell ⟨w.heap.size+1,0,none⟩ (.int .i64 z)=w5:=⟨_,rfl⟩
 rw[KR] at k5 b1;have Yj:=U (And.intro k5 (And.intro b1 hR));clear k5 b1 hR;go_wp2_with (refine vg 4 _ rfl ?_);clear KR z1 f1;obtain⟨k5,b1,hR⟩:=Yj.o;have HR:=U (hR.kept k5 Gx b1);have HX5:=U (rW.o.kept k5 oQ);have c3:=HR.o.wk.cells.cell 3;have c2:=HR.o.wk.cells.cell 2;simp only[Ja,zf,zi] at c2 c3;have aiX:=k5.size;have HP:=U hP;have Hn4:=U KN;have Hz3:=U mF;clear hP hX hXF k5 b1 dI KN hR rW EW HA BP gV;have VA:w1.heap.size≤w3.heap.size:=oQ
 cases mk
 case' false=>
  refine Stop.go ?_;go_wp2_with fail;have Rj:=HR.o.wk.aeA;obtain⟨W,hW⟩:∃W,W=w5:=⟨_,rfl⟩
  obtain⟨L6,r_⟩:∃L6,L6=L4:=⟨_,rfl⟩
  obtain⟨KL,EX⟩:∃KL,KL=Fb4:=⟨_,rfl⟩
  subst hW r_ EX;have Rk:L6.length≤up n':=zC Hn4.o.1 (NA n');have lG:=HR;have HX6:=HX5;clear c2 c3
 case' true=>
  obtain⟨g,cg,rfl,Un,wS,hlg,xM,hu⟩:=HR.o.wk.aeB;have EY:=U (And.intro Un (And.intro wS (And.intro hlg xM)));have Rj:=hu;clear Un wS hlg xM hu;refine Stop.go ?_;go_wp2_with fail;refine(pq HV.o HR.o.wk (by omega:0<4000) EY.o.2.2.1 EY.o.2.2.2 EY.o.1 EY.o.2.1).mono ?_;rintro e W ⟨⟨x,rfl⟩,KL,h6,tL⟩;have Rk:=KO (n:=n') (l:=E' 0) Hn4.o (by rw[oZ HR.o.wk.vN.nodup.1];split<;>omega);obtain⟨L6,r_⟩:∃L6,jN L4 0 (E' 0)=L6:=⟨_,rfl⟩
  rw[r_] at h6 Rj Rk;have lG:=U (HR.o.wrote dQ h6 tL);have HX6:=U (HX5.o.mv tL oQ);clear h6 tL c2 c3 r_ EY;go_wp2_with fail
 all_goals
  have c0:=lG.o.u.1.cell 0;have d0:=lG.o.wk.cells.cell 0;simp only[Ja,zf] at c0 d0;refine wp_region_noPanic ?_;refine ak (S:=(λW=>W.cell? ⟨w.heap.size,0,none⟩=some (.pointer (some ⟨b,0,none⟩))∧W.cell? ⟨p,0,none⟩=some (.pointer (some ⟨b',0,none⟩)))) (m:=7) kQ ⟨c0,d0⟩ (λaj=>?_);refine te 0 aj ?_;refine te 1 aj ?_;refine te 2 aj ?_;refine te 3 aj ?_;refine te 4 aj ?_;refine te 5 aj ?_;refine rE 6 λK hK=>?_;go_simp;with_reducible refine(mG hd (lG.o.par.below (zn _ _).drew) (iK.o b oJ).1 (lG.o.wk.vN.below (zn _ _).drew) (λh=>absurd (C9 h) lG.o.nb)).mono ?_
  rintro e w7 ⟨rfl,tK,Kq⟩;have KS:=(Turn.of_below (zn _ _).drew _ _).trans Kq;obtain⟨⟨g0,e1,e2⟩,rz,nb⟩:=lG.o.join HV.o iK.o oJ tK KS;go_wp2_with fail;refine hK.out _ _ (λ_=>⟨g0.cell 0,(KS.aW lG.o.wk.cells lG.o.wk.ge (λh=>by rcases h with h|h;exact lG.o.wk.np h;exact lG.o.nb (.inr (.inl h.symm)))).cell 0⟩) (λhS=>?_);have bQ:=hS dQ;clear hS hK K
  try simp only[Act.put,zh,zk,zl]
  refine aD ?_;have CU:=U (And.intro e2 (And.intro rz (And.intro tK (And.intro nb (HX6.o.turn KS oQ (λk hl hk=>hk.imp id (λ(e:k=b)=>oQ)))))));clear g0 e2 rz tK Kq KS nb c0 d0;have s1:=e1.aB 0 (.int .i64 z);have k1:=Kept.setCell (r:=w.heap.size+1) w7 0 (.int .i64 z);simp only[zk] at s1;have q1:=e1.cell 0;have p1:=e1.free 0;simp only[zf] at q1;obtain⟨w8,sZ⟩:∃w8,w7.setCell ⟨w.heap.size+1,0,none⟩ (.int .i64 z)=w8:=⟨_,rfl⟩
  rw[sZ] at k1 s1;have J7:=U (And.intro k1 s1);clear k1 s1 e1;go_wp2_with (refine C8 (.store 26 _ _) rfl ?_);clear sZ q1 p1;obtain⟨k1,s1⟩:=J7.o;obtain⟨e2,rz,tK,nb,hx7⟩:=CU.o;have s2:=e2.kept k1 oQ;have s3:=s2.aB 0 (.int .i64 0);have k2:=Kept.setCell (r:=w.heap.size+2) w8 0 (.int .i64 0);simp only[zk] at s3;have s4:=s1.kept k2 oQ;have q2:=s2.cell 0;have p2:=s2.free 0;simp only[zf] at q2;obtain⟨wf,Bu⟩:∃wf,w8.setCell ⟨w.heap.size+2,0,none⟩ (.int .i64 0)=wf:=⟨_,rfl⟩
  rw[Bu] at s3 k2 s4;have HS:=U (And.intro s3 (And.intro s4 (And.intro k1 k2)));clear e2 s1 s2 s3 s4 rz tK k1 k2 nb hx7;refine Stop.go ?_;go_wp2_with fail;clear Bu;refine leaves_cons (f:=282) (args:=#[.pointer (some ⟨w.heap.size+1,0,none⟩),.pointer (some ⟨w.heap.size+2,0,none⟩)]) sQ (by simp[go_sem]) ?_;refine(Sj ⟨w.heap.size+1,0,none⟩ ⟨w.heap.size+2,0,none⟩ _).mono ?_;rintro e u' w9 ⟨rfl,rfl,jf⟩;obtain⟨s3,s4,k1,k2⟩:=HS.o;have y1:=(s4.below jf).cell 0;have y2:=(s3.below jf).cell 0;simp only[zf] at y1 y2;simp[Leaves,settle,results,Tryz.results240,go_sem,y1,y2];obtain⟨r1,r2,r3,r4⟩:=yM CU.o.2.1 CU.o.2.2.1 CU.o.2.2.2.1 k1 k2 jf Rj Rk CU.o.2.2.2.2;exact⟨X,Gi.o z X w4 w9 HP.o r1,E',Wn,_,r2,r3,r4⟩
end
end
end Go.Proofs.YtdjdpeadohobmaaGreatDoor
