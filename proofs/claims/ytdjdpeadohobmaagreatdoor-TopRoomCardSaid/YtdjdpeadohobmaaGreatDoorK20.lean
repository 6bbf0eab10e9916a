/- A part of the walk below the law: what is proved here is used by later parts; no further condition. -/
import Derived.Test.YtdjdpeadohobmaaGreatDoorK19
set_option linter.unusedVariables false
set_option linter.unusedSimpArgs false
set_option maxRecDepth 100000
set_option maxHeartbeats 20000000
namespace Go.Proofs.YtdjdpeadohobmaaGreatDoor
section
open Go.RowKit Go.Shelf O
attribute [local go_sem] Oper.semAt_some
def ZQ (L:Fl):Nat:=L.foldl (λm e=>max m (e.2.seq - 1)) 0
theorem Nf (L:Fl) (e:Nat×tQ):ZQ (L++[e])=max (ZQ L) (e.2.seq - 1):=by simp[ZQ]
theorem ad9:∀(n:Nat) (L:Fl),L.length=n→(∀q,(∀e∈L,e.2.seq≤q)→ZQ L≤q - 1)∧∀e∈L,e.2.seq - 1≤ZQ L:=by
 intro n
 induction n with
 |zero=>
  intro L hL;have:L=[]:=zX hL;subst this;exact⟨λq _=>by simp[ZQ],λe h=>by simp at h⟩
 |succ n ih=>
  intro L0 hL;rcases List.eq_nil_or_concat L0 with h0|⟨L,e,h0⟩
  ·subst h0;simp at hL
  rw[List.concat_eq_append] at h0;subst h0;obtain⟨h1,h2⟩:=ih L (by simpa using hL);rw[Nf];refine⟨λq hq=>?_,λe' LB=>?_⟩
  ·have:=h1 q (λe he=>hq e (by simp[he]))
   have:=hq e sQ;omega
  ·rcases qg.1 LB with h|h
   ·have:=h2 e' h
    omega
   ·rw[zV.1 h]
    omega
theorem Ng (P:Program) (K:IntKind) (a b:Nat):∀(ts:Array TypeId) (t:TypeId) (W:World),(Builtin.max_ ts t #[.int K (a:Int),.int K (b:Int)]).run P W=.ok (.int K ((max a b:Nat):Int)) W:=by
 intro ts t W;simp[Builtin.max_,Builtin.max2]
 split<;>omega
section
variable {w:World} {d:Nat} {s:JS} {C:Nat→Bytes} {st:Nat→Bytes} {wt:Wt} {F:Nat→Prop}
theorem Vu (hD:Dev w d (s.P+1) st wt false F) (hlen:∀k,(st k).length=512) (hv:∀p,p<s.P→view st wt (p+1)=encS (s.sec p)) (rU:rD s C) (hy:yB s) (uf:1≤s.seq) (IL:s.seq<1000000) (hg:Geo s.B s.P):
  Calls Tryz.prog 113 #[.pointer (some ⟨d,0,none⟩),.int .i64 s.P,.int .i64 s.B] w λe w'=>(∃ab:Nat,e=.returned (.tuple #[stV 2 (s.seq+1) s.seq s.head s.us (.slice (some ⟨ab,0,none⟩) s.B s.B),.int .i64 0])∧ah w' ab 3 (Ye s.B s.at_)∧w.heap.size≤ab)∧Dev w' d (s.P+1) st wt false F∧Step F w F w':=by
 have jL:∀k,F k→k<w.heap.size:=by
  obtain⟨sb,ss,vw,xs,tb,cr,cw,cf,h⟩:=hD;exact h.lt
 have hb:=hg.b;have hs:=hg.s;have hr:=hg.r;obtain⟨n,hn⟩:=rU.lastB uf;have HD:=U hD;have HL:=U hlen;have HV:=U hv;have HO:=U rU;have HY:=U hy;have HN:=U hn;have HF:=U jL;clear hD hlen hv rU hy jL hn;go_enter Tryz.func113,Tryz.ntmps113;go_wp2_with fail;obtain⟨wa,vH⟩:∃wa,w.alloc (.cells #[.int .u32 0,.int .u64 0,.int .u64 0,.int .i64 0,.int .i64 0,.slice none 0 0] 118)=wa:=⟨_,rfl⟩
 have lq:Below w.heap.size w wa:=by rw[←vH];exact(zn _ _).alloc (zm _) _
 have Tf:wa.heap.size=w.heap.size+1:=by rw[←vH];simp
 have ZB:ah wa w.heap.size 118 [.int .u32 0,.int .u64 0,.int .u64 0,.int .i64 0,.int .i64 0,.slice none 0 0]:=by rw[←vH];exact ah.new w _ _
 rw[vH];have Cr:=U lq;have HVa:=U ZB;have Hza:=U Tf;clear vH lq ZB Tf;have HDa:=U (HD.o.step (Step.of_below Cr.o (λ_=>False)) (λ_ _ h=>h));refine(kK HDa.o).mono ?_;rintro e w1 ⟨rfl,rfl⟩;have fA:IntKind.i64.wrap (((s.P+1:Nat):Int) - 1)=(s.P:Int):=by rw[zG];omega
 have hgt:¬((s.P:Int)<(s.P:Int)):=oQ
 go_wp2_with fail;refine(Vd HDa.o oQ hb.2 HO.o.seq HL.o HV.o HO.o.right).mono ?_;rintro e w2 ⟨⟨v,rfl,hF2,Ai⟩,hD2,bV⟩;obtain⟨L,hLq⟩:∃L,AJ s.sec s.P=L:=⟨_,rfl⟩
 rw[hLq] at hF2;have Nh:L.length≤20000:=by rw[←hLq];exact zC (Tt _ _) oQ
 have ad_:L≠[]:=by
  obtain⟨e,he,_⟩:=HN.o.all 0 (by have:=HN.o.n1;omega);rw[hLq] at he;rintro rfl;simp at he
 have J9:∀e∈L,e.2.epoch=1∧e.2.start=1∧e.2.seq≤s.seq∧e.2.id<s.B∧e.1<s.P∧1≤e.2.seq:=by
  intro e he;rw[←hLq] at he;obtain⟨hp,hs⟩:=rV.1 he;have hr:=HO.o.right _ _ hp hs;obtain⟨y1,y2⟩:=HY.o.secs _ _ hp hs;exact⟨y1,y2,hr.seq,hr.id,hp,by have:=hr.start;omega⟩
 have Ac:ZQ L=s.seq - 1:=by
  obtain⟨g1,g2⟩:=ad9 _ L rfl;have:=g1 s.seq (λe he=>(J9 e he).2.2.1);obtain⟨e,he,hq,_⟩:=HN.o.all 0 (by have:=HN.o.n1;omega);rw[hLq] at he;have:=g2 e he;omega
 obtain⟨a,c,rfl,ha⟩:=hF2.slice;obtain⟨b,rfl,oJ⟩:∃b,a=some ⟨b,0,none⟩∧(Value.slice a L.length c).ownBlock=some b:=by
  rcases ha with h|h
  ·exact absurd h ad_
  ·exact h
 obtain⟨m,hm⟩:∃m,L.length=m:=⟨_,rfl⟩
 have eD:1≤m:=by rw[←hm];exact List.length_pos_iff.2 ad_
 rw[hm] at hF2 Nh ⊢;have HFn:=U hF2;have HLq:=U hLq;have atM:=U ad_;have Ni:=U J9;have Vv:=U Ac;have Hm:=U hm;have HD2:=U hD2;have LA:=U ((Step.of_below Cr.o F).trans bV);have Yd:=U (HVa.o.step bV (λh=>by have:=HF.o _ h;omega));have Hn2:=U Ai;clear hF2 hLq ad_ J9 Ac hm hD2 bV Ai ha oJ fA hgt;go_wp2_with fail;go_loopw [10,11,53] (λt u v wr=>∃(k:Nat),k≤m∧v=.int .i64 k∧t=.int .u64 (ZQ (L.take k))∧u=.int .u32 ((if k=0 then 0 else 1:Nat):Int)∧Below w2.heap.size w2 wr) (λ_ _ v _=>m - (intOf v).toNat)
 case atStart=>exact⟨0,oQ,rfl,by simp[ZQ],rfl,zn _ _⟩
 case round=>
  obtain⟨k,hk,rfl,rfl,rfl,hB⟩:=hrel;have HB:=U hB;by_cases U_:k<m
  ·have fF:k<L.length:=by rw[Hm.o];exact U_
   obtain⟨e,he⟩:∃e,L[k]=e:=⟨_,rfl⟩
   have Gb:e∈L:=by rw[←he];exact qm fF
   obtain⟨c0,c1,c2,c3,c4,c5,c6,c7⟩:=(HFn.o.below hB).at8 k fF he;have wI:=Nf (L.take k) e;rw[←uo fF he] at wI;have ep1:=(Ni.o e Gb).1;rw[ep1] at c0;have aib:=Ng Tryz.prog .u64 (ZQ (L.take k)) (e.2.seq - 1);have amL:=Ng Tryz.prog .u32 (if k=0 then 0 else 1) 1;have Ph:max (if k=0 then 0 else 1) 1=1:=by split<;>rfl
   rw[Ph] at amL;have Htk:=U wI;obtain⟨fk,hfk⟩:∃fk,ZQ (L.take k)=fk:=⟨_,rfl⟩
   obtain⟨uk,huk⟩:∃uk:Nat,(if k=0 then 0 else 1:Nat)=uk:=⟨_,rfl⟩
   obtain⟨sf,ZI⟩:∃x,e.2.seq - 1=x:=⟨_,rfl⟩
   rw[ZI] at aib c3 Htk;rw[hfk] at aib Htk ⊢;rw[huk] at amL ⊢;have aB6:uk≤1:=by rw[←huk];split<;>omega
   clear hB he Gb wI ep1 hfk huk ZI Ph;go_wp2_with fail;refine⟨⟨k+1,oQ,by go_num,by rw[Htk.o],?_,HB.o.alloc HB.o.size _⟩,by simp[intOf];omega⟩;rw[if_neg oQ];congr 1;omega
  ·obtain rfl:k=m:=oQ
   rw[zy (by rw[Hm.o];exact zm _),if_neg oQ,Vv.o];obtain⟨fl,Ac⟩:∃fl,s.seq=fl+1:=⟨s.seq - 1,oQ⟩
   have amM:s.seq - 1=fl:=oQ
   rw[amM];have Hsq:=U Ac;have aB7:fl≤999998:=oQ
   have xW:decide ((281474976710655:Int)≤(fl:Int)+1)=false:=by rw[decide_eq_false_iff_not];omega
   clear hB Ac amM;go_wp2_with fail;refine(QF (by have:=HFn.o.below HB.o;rw[←Hm.o] at this ⊢;exact this) (by rw[Hm.o];exact Nh) atM.o (λe he=>by obtain⟨q1,q2,q3,_⟩:=Ni.o e he;exact⟨q1,q2,oQ⟩)).mono ?_;rintro e w3 ⟨v3,rfl,LC,Gc,bf⟩;have HF3:=U LC;have iB:=U (HB.o.trans (bf.mono HB.o.size));clear LC bf Gc;go_wp2_with fail;have hq:((fl:Int)+1)=((fl+1:Nat):Int):=oQ
   have dP:∀e∈L,e.2.seq=fl+1→e.2.count=n∧e.2.index<n:=by
    intro e he hs;rw[←HLq.o] at he;obtain⟨i,hi,_,h2,h3⟩:=HN.o.at_ e he (by rw[Hsq.o];exact hs);exact⟨h3,oQ⟩
   have amN:((L.filter (hit (fl+1))).map (·.2.index)).Nodup:=by have:=HN.o.nodup;rw[HLq.o,Hsq.o] at this;exact this
   have amO:(L.filter (hit (fl+1))).length=n:=by have:=HN.o.count;rw[HLq.o,Hsq.o] at this;exact this
   rw[hq];refine(Qx HF3.o (by rw[Hm.o];exact Nh) ⟨HN.o.n1.1,HN.o.n1.2.1⟩ dP amN amO).mono ?_;rintro e w4 ⟨rfl,dX⟩;rw[←hq];have HF4:=U (HF3.o.below dX);have lS:=U (iB.o.trans (dX.mono iB.o.size));have Hq:=U hq;clear dX dP amN amO hq;go_wp2_with fail;refine(Bw w4 s.P oQ oQ).mono ?_;rintro e w5 ⟨r,rb,rfl,hR5,aB8,iJ⟩;have Cu:=U (HF4.o.below iJ);have HR5:=U hR5;have jR:=U (lS.o.trans (iJ.mono lS.o.size));clear iJ hR5;go_wp2_with fail;obtain⟨w6,yC⟩:∃w6,w5.alloc (.cells #[.int .u32 2,.int .u64 ((fl:Int)+1+1),.int .u64 ((fl:Int)+1),.int .i64 0,.int .i64 0,.slice none 0 0] 118)=w6:=⟨_,rfl⟩
   obtain⟨sb,XY⟩:∃sb,w5.heap.size=sb:=⟨_,rfl⟩
   have lu:Below w5.heap.size w5 w6:=by rw[←yC];exact(zn _ _).alloc (zm _) _
   have lT:ah w6 sb 118 [.int .u32 2,.int .u64 ((fl:Int)+1+1),.int .u64 ((fl:Int)+1),.int .i64 0,.int .i64 0,.slice none 0 0]:=by rw[←yC,←XY];exact ah.new w5 _ _
   rw[yC,XY];have aif:w2.heap.size≤sb:=by rw[←XY];exact jR.o.size
   have HF6:=U (Cu.o.below lu);have lG:=U (HR5.o.step (Step.of_below lu (λ_=>False)) (λh=>h) (λh=>h));have sI:=U (jR.o.trans (lu.mono jR.o.size));have HV6:=U lT;have aB9:r<sb∧rb<sb:=by rw[←XY];exact⟨HR5.o.cells.lt,HR5.o.row.lt⟩
   clear yC XY lu lT;rw[Hq.o];refine(Qz HF6.o (by rw[Hm.o];exact Nh) (q:=fl+1) (λe he=>by have:=(Ni.o e he).2.2.1;have:=Hsq.o;omega) (λe he=>(Ni.o e he).2.2.2.1) oQ).mono ?_;rintro e w7 ⟨ab,rfl,ZR,aB_,tH⟩;rw[←Hq.o];have hwe:Ye s.B (Gz L).1=Ye s.B s.at_:=by
    unfold Ye;congr 1;refine za5 (λi hi=>?_);rw[←HLq.o,HO.o.aic i (zao.1 hi)]
   rw[hwe] at ZR;have hV7:=HV6.o.below tH;have e5:=hV7.cell 5;have g5:=hV7.free 5;simp only[zf,zi] at e5;have HA7:=U ZR;have XW:=U hV7;have HF7:=U (HF6.o.below tH);have HR7:=U (lG.o.step (Step.of_below tH (λ_=>False)) (λh=>h) (λh=>h));have ME:=U (sI.o.trans (tH.mono sI.o.size));have aCb:sb<ab:=by have:=HV6.o.lt;omega
   clear hwe ZR hV7 tH;go_wp2_with fail;obtain⟨w8,sZ⟩:∃w8,w7.setCell ⟨sb,5,none⟩ (.slice (some ⟨ab,0,none⟩) s.B s.B)=w8:=⟨_,rfl⟩
   have uO:Step (· =sb) w7 (· =sb) w8:=by rw[←sZ];exact Step.set1 (XW.o.aV dQ) _ _
   have hV8:ah w8 sb 118 [.int .u32 2,.int .u64 ((fl:Int)+1+1),.int .u64 ((fl:Int)+1),.int .i64 0,.int .i64 0,.slice (some ⟨ab,0,none⟩) s.B s.B]:=by rw[←sZ];exact XW.o.aB 5 _
   have amP:∀b,v3.ownBlock=some b→¬b=sb:=by
    intro b hb h;subst h;obtain⟨C,hC⟩:=aN HF7.o hb;have h1:=XW.o;unfold ah at h1;rw[hC] at h1;injection h1 with h1;injection h1 with _ h1;exact absurd h1 dQ
   have HF8:=U (HF7.o.step uO amP);have HR8:=U (HR7.o.step uO oQ oQ);have HA8:=U (HA7.o.step uO oQ);have Yh:=U (ME.o.trans (uO.below (λk hk=>by rw[hk];exact aif) ME.o.size));have HV8:=U hV8;rw[sZ,Hq.o];clear sZ uO hV8 amP e5 g5
   refine(Vm HF8.o (by rw[Hm.o];exact Nh) HR8.o (q:=fl+1) (hd:=s.head) (λe he hs=>HN.o.head HO.o e (by rw[HLq.o];exact he) (by rw[Hsq.o];exact hs)) (λe he=>(Ni.o e he).2.2.2.2.1) (by
    obtain⟨e,he,hs,_⟩:=HN.o.all 0 (by have:=HN.o.n1;omega);exact⟨e,by rw[←HLq.o];exact he,by rw[←Hsq.o];exact hs⟩)).mono ?_
   rintro e w9 ⟨rfl,jf⟩;rw[←Hq.o];have hV9:=HV8.o.below jf;have e3:=hV9.cell 3;have e5:=hV9.cell 5;have g3:=hV9.free 3;simp only[zf,zi] at e3 e5;have HV9:=U hV9;have HR9:=U (HR8.o.step (Step.of_below jf (λ_=>False)) (λh=>h) (λh=>h));have HA9:=U (HA8.o.below jf);have UK:=U (Yh.o.trans (jf.mono Yh.o.size));clear hV9 jf;go_wp2_with fail;obtain⟨Af,Kr⟩:∃Af,w9.setCell ⟨sb,3,none⟩ (.int .i64 s.head)=Af:=⟨_,rfl⟩
   have aea:Step (· =sb) w9 (· =sb) Af:=by rw[←Kr];exact Step.set1 (HV9.o.aV dQ) _ _
   have QI:ah Af sb 118 [.int .u32 2,.int .u64 ((fl:Int)+1+1),.int .u64 ((fl:Int)+1),.int .i64 s.head,.int .i64 0,.slice (some ⟨ab,0,none⟩) s.B s.B]:=by rw[←Kr];exact HV9.o.aB 3 _
   have amQ:=U (HA9.o.step aea oQ);have atO:=U (HR9.o.step aea oQ oQ);have Vw:=U (UK.o.trans (aea.below (λk hk=>by rw[hk];exact aif) UK.o.size));have En:s.head<s.P:=dz HO.o.tail (by have:=HO.o.used;exact this);have e4:=QI.cell 4;have g4:=QI.free 4;simp only[zf,zi] at e4;have amR:=U QI;rw[Kr];clear Kr aea QI e3 e5 g3;refine(Vk amQ.o oQ atO.o En (λi p hi hp=>?_)).mono ?_
   ·unfold JS.at_ at hp
    rcases hx:idx s.Q i with _|x
    ·rw[hx] at hp;cases hp
    ·rw[hx] at hp
     injection hp with hp;rw[←hp];exact dz HO.o.tail (by have:=fK hx;have:=HO.o.used;omega)
   rintro e vG ⟨rfl,rfl⟩;have Nj:ah (Af.setCell ⟨sb,4,none⟩ (.int .i64 s.us)) sb 118 [.int .u32 2,.int .u64 ((fl:Int)+1+1),.int .u64 ((fl:Int)+1),.int .i64 s.head,.int .i64 s.us,.slice (some ⟨ab,0,none⟩) s.B s.B]:=amR.o.aB 4 _;obtain⟨vG,amS⟩:∃vG,Af.setCell ⟨sb,4,none⟩ (.int .i64 s.us)=vG:=⟨_,rfl⟩
   have aii:Step (· =sb) Af (· =sb) vG:=by rw[←amS];exact Step.set1 (amR.o.aV dQ) _ _
   rw[amS] at Nj;have UL:=U (Vw.o.trans (aii.below (λk hk=>by rw[hk];exact aif) Vw.o.size));have atP:=U (amQ.o.step aii oQ);have Tw:=Yd.o.below UL.o;have i0:=Nj.cell 0;have i1:=Nj.cell 1;have i2:=Nj.cell 2;have i3:=Nj.cell 3;have i4:=Nj.cell 4;have i5:=Nj.cell 5;have j0:=Tw.cell 0;have j1:=Tw.cell 1;have j2:=Tw.cell 2;have j3:=Tw.cell 3;have j4:=Tw.cell 4;have j5:=Tw.cell 5;have k0:=Tw.free 0;have k1:=Tw.free 1;have k2:=Tw.free 2;have k3:=Tw.free 3;have k4:=Tw.free 4;have k5:=Tw.free 5;simp only[zf,zi] at i0 i1 i2 i3 i4 i5 j0 j1 j2 j3 j4 j5;have dV:w.heap.size≠sb:=by have:=Yd.o.lt;omega
   have hus:Km s.P s.head s.at_ s.B=s.us:=rfl;rw[hus];have HRv:=U Tw;clear aii Nj Tw hus;go_wp2_with fail;have hR6:=(((((HRv.o.aB 0 (.int .u32 2)).aB 1 (.int .u64 ((fl:Int)+1+1))).aB 2 (.int .u64 ((fl:Int)+1))).aB 3 (.int .i64 s.head)).aB 4 (.int .i64 s.us)).aB 5 (.slice (some ⟨ab,0,none⟩) s.B s.B);simp only[zk,zl] at hR6;have hn8:∀(W:World),ah W w.heap.size 118 [.int .u32 0,.int .u64 0,.int .u64 0,.int .i64 0,.int .i64 0,.slice none 0 0]→True:=λ_ _=>trivial;have kM:∀(W:World) (vs:List Value) (i:Nat) (v:Value),ah W w.heap.size 118 vs→Step (· =w.heap.size) W (· =w.heap.size) (W.setCell ⟨w.heap.size,i,none⟩ v):=λW vs i v h=>Step.set1 (h.aV dQ) _ _;have t0:=kM _ _ 0 (.int .u32 2) HRv.o;have r0:=HRv.o.aB 0 (.int .u32 2);have t1:=t0.trans (kM _ _ 1 (.int .u64 ((fl:Int)+1+1)) r0);have r1:=r0.aB 1 (.int .u64 ((fl:Int)+1+1));have t2:=t1.trans (kM _ _ 2 (.int .u64 ((fl:Int)+1)) r1);have r2:=r1.aB 2 (.int .u64 ((fl:Int)+1));have t3:=t2.trans (kM _ _ 3 (.int .i64 s.head) r2);have r3:=r2.aB 3 (.int .i64 s.head);have t4:=t3.trans (kM _ _ 4 (.int .i64 s.us) r3);have r4:=r3.aB 4 (.int .i64 s.us);have t5:=t4.trans (kM _ _ 5 (.slice (some ⟨ab,0,none⟩) s.B s.B) r4);obtain⟨Wf,hWf⟩:∃Wf,((((((vG.setCell ⟨w.heap.size,0,none⟩ (.int .u32 2)).setCell ⟨w.heap.size,1,none⟩ (.int .u64 ((fl:Int)+1+1))).setCell ⟨w.heap.size,2,none⟩ (.int .u64 ((fl:Int)+1))).setCell ⟨w.heap.size,3,none⟩ (.int .i64 s.head)).setCell ⟨w.heap.size,4,none⟩ (.int .i64 s.us)).setCell ⟨w.heap.size,5,none⟩ (.slice (some ⟨ab,0,none⟩) s.B s.B))=Wf:=⟨_,rfl⟩
   rw[hWf] at hR6 t5 ⊢;clear t0 t1 t2 t3 t4 r0 r1 r2 r3 r4 kM hn8;have Cv:¬F w.heap.size:=λh=>by have:=HF.o _ h;omega
   have Nk:Step F w F vG:=LA.o.trans (Step.of_below UL.o F);refine bodyPost_ret (v:=.tuple #[.agg #[.int .u32 2,.int .u64 ((fl:Int)+1+1),.int .u64 ((fl:Int)+1),.int .i64 s.head,.int .i64 s.us,.slice (some ⟨ab,0,none⟩) s.B s.B],.int .i64 0]) (gy rfl rfl rfl (mq hR6 Tryz.underlying118 rfl kQ)) rfl ⟨⟨ab,?_,atP.o.step t5 (by have:=Yd.o.lt;omega),by have:=Yd.o.lt;omega⟩,(HD2.o.step (Step.of_below UL.o (λ_=>False)) (λ_ _ h=>h)).step t5 (λk hk=>by rintro rfl;exact Cv hk),Nk.inner t5 (λk hk=>by right;omega)⟩;rw[Hsq.o];rfl
end
def lW (w:World) (sp d:Nat) (s:JS) (C:Nat→Bytes) (cl:Bool) (F:Nat→Prop):Prop:=
 ∃(j:Nat) (st:Nat→Bytes) (wt:Wt) (Fj:Nat→Prop),ah w sp 125 [.pointer (some ⟨j,0,none⟩),.int .i64 s.B,.int .i64 s.P]∧wU w j d s C st wt Fj∧(∀k,Fj k→F k)∧F sp∧¬Fj sp∧(∀k,F k→k<w.heap.size)∧(cl=true→wt=[])
theorem wU.lt {w:World} {j d:Nat} {s:JS} {C:Nat→Bytes} {st:Nat→Bytes} {wt:Wt} {F:Nat→Prop} (h:wU w j d s C st wt F):∀k,F k→k<w.heap.size:=by
 obtain⟨r,rb,t,pb,ob,Fd,f,g,h⟩:=h;exact h.lt
theorem wU.facts {w:World} {j d:Nat} {s:JS} {C:Nat→Bytes} {st:Nat→Bytes} {wt:Wt} {F:Nat→Prop} (h:wU w j d s C st wt F):rD s C∧Geo s.B s.P:=by
 obtain⟨r,rb,t,pb,ob,Fd,f,g,h⟩:=h;exact⟨h.ok,h.Ct⟩
section
variable {w w':World} {sp d:Nat} {s:JS} {C:Nat→Bytes} {cl:Bool} {F:Nat→Prop}
theorem lW.lt (h:lW w sp d s C cl F):∀k,F k→k<w.heap.size:=by
 obtain⟨j,st,wt,Fj,h1,h2,h3,h4,h5,h6,h7⟩:=h;exact h6
theorem lW.facts (h:lW w sp d s C cl F):rD s C∧Geo s.B s.P:=by
 obtain⟨j,st,wt,Fj,h1,h2,h3,h4,h5,h6,h7⟩:=h;exact h2.facts
theorem lW.step {G G':Nat→Prop} (h:lW w sp d s C cl F) (hs:Step G w G' w') (hn:∀k,F k→¬G k):lW w' sp d s C cl F:=by
 obtain⟨j,st,wt,Fj,h1,h2,h3,h4,h5,h6,h7⟩:=h;exact⟨j,st,wt,Fj,h1.step hs (hn _ h4),h2.step hs (λk hk=>hn k (h3 k hk)),h3,h4,h5,λk hk=>zx (h6 k hk) hs.size,h7⟩
theorem lW.below (h:lW w sp d s C cl F) (hs:Below w.heap.size w w'):lW w' sp d s C cl F:=h.step (Step.of_below hs (λ_=>False)) (λ_ _ h=>h)
theorem lW.turn {j:Nat} {st':Nat→Bytes} {wt':Wt} {Fj Fj':Nat→Prop} {s':JS} {C':Nat→Bytes} (h1:ah w sp 125 [.pointer (some ⟨j,0,none⟩),.int .i64 s.B,.int .i64 s.P]) (h3:∀k,Fj k→F k) (h4:F sp) (h5:¬Fj sp) (h6:∀k,F k→k<w.heap.size)
  (hJ:wU w' j d s' C' st' wt' Fj') (hs:Step Fj w Fj' w') (hB:s'.B=s.B) (hP:s'.P=s.P) (nY:cl=true→wt'=[]):lW w' sp d s' C' cl (λk=>F k∨Fj' k)∧Step F w (λk=>F k∨Fj' k) w':=by
 refine⟨⟨j,st',wt',Fj',by rw[hB,hP];exact h1.step hs h5,hJ,λk hk=>.inr hk,.inl h4,hs.apart h1.lt h5,λk hk=>?_,nY⟩,hs.more h3 (λk hk=>?_)⟩
 ·rcases hk with hk|hk
  ·exact zx (h6 k hk) hs.size
  ·exact hJ.lt k hk
 ·rcases hk with hk|hk
  ·exact .inl hk
  ·rcases hs.new k hk with h|h
   ·exact .inl (h3 k h)
   ·exact .inr h
theorem Vx (h:lW w sp d s C cl F) {j:Nat} (hj:w.cell? ⟨sp,0,none⟩=some (.pointer (some ⟨j,0,none⟩))) (id:Nat) (yj:id<s.B):
  Calls Tryz.prog 114 #[.pointer (some ⟨j,0,none⟩),.int .i64 id] w λe w'=>(∃a c,e=.returned (.tuple #[.slice a 480 c,.int .i64 0])∧cZ w' a (C id))∧∃F',lW w' sp d s C cl F'∧Step F w F' w':=by
 obtain⟨j',st,wt,Fj,h1,h2,h3,h4,h5,h6,h7⟩:=h;have hc:=h1.cell 0;simp only[zf] at hc;rw[hj] at hc;injection hc with hc;injection hc with hc;injection hc with hc;injection hc with hc;subst hc;refine(UY h2 id yj).mono ?_;rintro e w' ⟨q1,q2,q3⟩;obtain⟨r1,r2⟩:=lW.turn h1 h3 h4 h5 h6 q2 q3 rfl rfl h7;exact⟨q1,_,r1,r2⟩
theorem lW.cell0 (h:lW w sp d s C cl F):∃j,w.cell? ⟨sp,0,none⟩=some (.pointer (some ⟨j,0,none⟩))∧w.cell? ⟨sp,1,none⟩=some (.int .i64 s.B)∧w.cell? ⟨sp,2,none⟩=some (.int .i64 s.P):=by
 obtain⟨j,st,wt,Fj,h1,h2,h3,h4,h5,h6,h7⟩:=h;exact⟨j,h1.cell 0,h1.cell 1,h1.cell 2⟩
theorem Nl (h:lW w sp d s C cl F) {j:Nat} (hj:w.cell? ⟨sp,0,none⟩=some (.pointer (some ⟨j,0,none⟩))) {b n c:Nat} {wl:Wl} (hw:BK w b wl) (lJ:¬F b) (hl:wl.length=n) (h1':1≤n) (h24:n≤24) (yt:(wl.map Prod.fst).Nodup) (hB:∀e∈wl,e.1<s.B) (nN:s.seq<iQ):
  Calls Tryz.prog 60 #[.pointer (some ⟨j,0,none⟩),.slice (some ⟨b,0,none⟩) n c] w λe w'=>e=.returned (.int .i64 0)∧∃F',lW w' sp d (s.batch C wl) (dW C wl) false F'∧Step F w F' w':=by
 obtain⟨j',st,wt,Fj,h1,h2,h3,h4,h5,h6,h7⟩:=h;have hc:=h1.cell 0;simp only[zf] at hc;rw[hj] at hc;injection hc with hc;injection hc with hc;injection hc with hc;injection hc with hc;subst hc;refine(BO h2 hw (λh=>lJ (h3 _ h)) hl h1' h24 yt hB nN).mono ?_;rintro e w' ⟨q1,st',wt',F',q2,q3⟩;obtain⟨r1,r2⟩:=lW.turn (cl:=false) h1 h3 h4 h5 h6 q2 q3 rfl rfl (λh=>by cases h);exact⟨q1,_,r1,r2⟩
theorem IW (h:lW w sp d s C cl F):
  Calls Tryz.prog 68 #[.pointer (some ⟨sp,0,none⟩)] w λe w'=>e=.returned (.int .i64 0)∧∃F',lW w' sp d s C true F'∧Step F w F' w':=by
 obtain⟨j,st,wt,Fj,h1,h2,h3,h4,h5,h6,h7⟩:=h;have c0:=h1.cell 0;simp only[zf] at c0;have H1:=U h1;have H2:=U h2;have H3:=U h3;have H6:=U h6;clear h1 h2 h3 h6 h7;go_enter Tryz.func68,Tryz.ntmps68;go_wp2_with fail;refine(Ee H2.o).mono ?_;rintro e w' ⟨rfl,q2,q3⟩;obtain⟨r1,r2⟩:=lW.turn (cl:=true) H1.o H3.o h4 h5 H6.o q2 q3 rfl rfl (λ_=>rfl);go_wp2_with fail;go_ret;exact⟨rfl,_,r1,r2⟩
theorem Ev (h:lW w sp d s C cl F):
  Calls Tryz.prog 58 #[.pointer (some ⟨sp,0,none⟩)] w λe w'=>e=.returned (Gu s.B s.P)∧Below w.heap.size w w':=by
 obtain⟨j,c0,c1,c2⟩:=h.cell0;have bA:=zq w _ c1;clear h;go_enter Tryz.func58,Tryz.ntmps58;go_wp2_with fail;have hV:ah (w.alloc (.cells #[.int .i64 s.B,.int .i64 s.P] 109)) w.heap.size 109 [.int .i64 s.B,.int .i64 s.P]:=ah.new w _ _;exact bodyPost_ret (v:=Gu s.B s.P) (dN rfl rfl hV Tryz.underlying109 rfl kQ) rfl ⟨rfl,(zn _ _).alloc (zm _) _⟩
end
theorem oW (w:World):Calls Tryz.prog 49 #[.int .i64 0] w λe w'=>(∃v,e=.returned v)∧w=w':=by
 go_enter Tryz.func49,Tryz.ntmps49;go_wp2_with fail;go_end0;exact⟨⟨_,rfl⟩,rfl⟩
inductive Stp
 |fl
 |wr (b0 b1 b2 i:Nat) (a:Option Addr) (c:Nat) (l:Bytes)
def Stp.val (d:Nat):Stp→Value
 | .fl=>.func (.func 53) #[.pointer (some ⟨d,0,none⟩)] #[]
 | .wr b0 b1 b2 _ _ _ _=>.func (.func 115) #[] #[.pointer (some ⟨b0,0,none⟩),.pointer (some ⟨b1,0,none⟩),.pointer (some ⟨b2,0,none⟩)]
def Stp.ok (w:World) (d n:Nat) (F:Nat→Prop):Stp→Prop
 | .fl=>True
 | .wr b0 b1 b2 i a c l=>i<n∧l.length=512∧cZ w a l∧(ah w b0 49 [.pointer (some ⟨d,0,none⟩)]∧¬F b0)∧(ah w b1 3 [.int .i64 i]∧¬F b1)∧(ah w b2 22 [.slice a 512 c]∧¬F b2)
def Stp.go (x:(Nat→Bytes)×Wt):Stp→(Nat→Bytes)×Wt
 | .fl=>(view x.1 x.2,[])
 | .wr _ _ _ i _ _ l=>(x.1,x.2++[(i,l)])
theorem Stp.CX {w w':World} {d n:Nat} {F F':Nat→Prop} {x:Stp} (h:x.ok w d n F) (hs:Step F w F' w'):x.ok w' d n F':=by
 cases x with
 |fl=>trivial
 |wr b0 b1 b2 i a c l=>
  obtain⟨h1,h2,h3,⟨h4,n4⟩,⟨h5,n5⟩,⟨h6,n6⟩⟩:=h;exact⟨h1,h2,h3.step hs,⟨h4.step hs n4,hs.apart h4.lt n4⟩,⟨h5.step hs n5,hs.apart h5.lt n5⟩,⟨h6.step hs n6,hs.apart h6.lt n6⟩⟩
theorem w_ (w:World) (d i:Nat) (a:Option Addr) (c:Nat) {n:Nat} {F:Nat→Prop} {l:Bytes} (hi:i<n) (hl:l.length=512) (hb:cZ w a l) (hF:∀k,F k→k<w.heap.size):
  Calls Tryz.prog 52 #[.pointer (some ⟨d,0,none⟩),.int .i64 i,.slice a 512 c] w λe w'=>∃b0 b1 b2:Nat,e=.returned ((Stp.wr b0 b1 b2 i a c l).val d)∧(Stp.wr b0 b1 b2 i a c l).ok w' d n F∧Below w.heap.size w w':=by
 have hmf:∀(fn:Fn) (first cap:Array Value) (w:World),(Instr.makeFunc fn first cap).run Tryz.prog w=.ok (.func fn first cap) w:=λ_ _ _ _=>rfl;have HB:=U hb;have HF:=U hF;clear hb hF;go_enter Tryz.func52,Tryz.ntmps52;go_wp2_with fail;go_ret;obtain⟨W,hW⟩:∃W,(((w.alloc (.cells #[.pointer (some ⟨d,0,none⟩)] 49)).alloc (.cells #[.int .i64 i] 3)).alloc (.cells #[.slice a 512 c] 22))=W:=⟨_,rfl⟩
 obtain⟨aM,lq,Tf⟩:=boxes [([.pointer (some ⟨d,0,none⟩)],49),([.int .i64 i],3),([.slice a 512 c],22)] w W hW;rw[hW];have hn:∀k,w.heap.size≤k→¬F k:=λk hk h=>by have:=HF.o k h;omega
 exact⟨w.heap.size,w.heap.size+1,w.heap.size+1+1,rfl,⟨hi,hl,HB.o.below lq,⟨aM 0 _ rfl,hn _ oQ⟩,⟨aM 1 _ rfl,hn _ oQ⟩,⟨aM 2 _ rfl,hn _ oQ⟩⟩,lq⟩
theorem Nn {w:World} {d n:Nat} {st:Nat→Bytes} {wt:Wt} {F:Nat→Prop} (h:Dev w d n st wt false F) (gD:wt.length<1000000) {b0 b1 b2 i:Nat} {a:Option Addr} {c:Nat} {l:Bytes} (hx:(Stp.wr b0 b1 b2 i a c l).ok w d n F):
  Calls Tryz.prog 115 #[.pointer (some ⟨b0,0,none⟩),.pointer (some ⟨b1,0,none⟩),.pointer (some ⟨b2,0,none⟩)] w λe w'=>e=.returned (.int .i64 0)∧∃F',Dev w' d n st (wt++[(i,l)]) false F'∧Step F w F' w':=by
 obtain⟨h1,h2,h3,⟨h4,_⟩,⟨h5,_⟩,⟨h6,_⟩⟩:=hx;have c0:=h4.cell 0;have c1:=h5.cell 0;have c2:=h6.cell 0;simp only[zf] at c0 c1 c2;have HD:=U h;have H3:=U h3;clear h h3 h4 h5 h6;go_enter Tryz.func115,Tryz.ntmps115;go_wp2_with fail;refine(Ii HD.o gD i h1 h2 H3.o).mono ?_;rintro e w1 ⟨rfl,F',hd,hs⟩;go_wp2_with fail;go_ret;exact⟨rfl,F',hd,hs⟩
theorem yD {w:World} {d n:Nat} {st:Nat→Bytes} {wt:Wt} {F:Nat→Prop} (h:Dev w d n st wt false F) (vb m:Nat) (L:List Stp) (hL:L.length=m) (hm:m≤10) (gD:wt.length+10<1000000) (dw:∀e∈wt,e.1<n) (hV:ah w vb 68 (L.map (Stp.val d))) (Vy:¬F vb) (rU:∀x∈L,x.ok w d n F):
  Calls Tryz.prog 51 #[.slice (some ⟨vb,0,none⟩) m m] w λe w'=>(∃v,e=.returned v)∧∃F',Dev w' d n (L.foldl Stp.go (st,wt)).1 (L.foldl Stp.go (st,wt)).2 false F'∧Step F w F' w':=by
 have HD:=U h;have HV:=U hV;have HO:=U rU;have HL:=U hL;have HAt:=U dw;clear h hV rU hL dw;go_enter Tryz.func51,Tryz.ntmps51;go_wp2_with fail;go_loopw [6] (λv wr=>∃(k:Nat) (s:(Nat→Bytes)×Wt) (F':Nat→Prop),k≤m∧v=.int .i64 k∧(L.take k).foldl Stp.go (st,wt)=s∧s.2.length≤wt.length+k∧(∀e∈s.2,e.1<n)∧Dev wr d n s.1 s.2 false F'∧Step F w F' wr) (λv _=>m - (intOf v).toNat)
 case atStart=>exact⟨0,(st,wt),F,oQ,rfl,rfl,sQ,HAt.o,HD.o,Step.refl _ _⟩
 case round=>
  obtain⟨k,⟨s1,s2⟩,F',hk,rfl,hf,hlen,dw,hD,hS⟩:=hrel;have Vf:=U hD;have HS:=U hS;have Hf:=U hf;have Hat:=U dw;by_cases U_:k<m
  ·have fF:k<L.length:=by have:=HL.o;omega
   have hcell:=(HV.o.step hS Vy).cell k;rw[qb,zu fF,qA] at hcell;have hx:=Stp.CX (HO.o _ (qm fF)) hS;have hft:(L.take (k+1)).foldl Stp.go (st,wt)=Stp.go (s1,s2) L[k]:=by
    rw[zZ fF,List.foldl_append,hf];rfl
   have Hft:=U hft;obtain⟨x,hxq⟩:∃x,L[k]=x:=⟨_,rfl⟩
   rw[hxq] at hcell hx Hft;have Hx:=U hx;clear hD hS hf dw hft hx hxq;cases x with
   |fl=>
    simp only[Stp.val] at hcell;go_wp2_with fail;refine(Ik Vf.o Hat.o).mono ?_;rintro e w1 ⟨rfl,hd,hs⟩;have M0:=U hd;have J7:=U (HS.o.trans hs);clear hd hs;go_wp2_with fail;exact⟨⟨k+1,_,F',oQ,by go_num,Hft.o,by simp[Stp.go],λe he=>by simp[Stp.go] at he,M0.o,J7.o⟩,by simp[intOf];omega⟩
   |wr b0 b1 b2 i a c l=>
    simp only[Stp.val] at hcell;have iy:s2.length<1000000:=by simp only at hlen;omega
    go_wp2_with fail;refine(Nn Vf.o iy Hx.o).mono ?_;rintro e w1 ⟨rfl,F1,hd,hs⟩;have M0:=U hd;have J7:=U (HS.o.trans hs);clear hd hs;go_wp2_with fail;refine⟨⟨k+1,_,F1,oQ,by go_num,Hft.o,by simp[Stp.go] at hlen ⊢;omega,λe he=>?_,M0.o,J7.o⟩,by simp[intOf];omega⟩;rcases qg.1 he with he|he
    ·exact Hat.o e he
    ·rw[zV.1 he]
     exact Hx.o.1
  ·obtain rfl:k=m:=oQ
   rw[zy (by rw[HL.o];exact zm _)] at hf;clear hD hS dw;have Hf2:=U hf;clear hf Hf;go_wp2_with fail;go_end0;rw[Hf2.o];exact⟨⟨_,rfl⟩,F',Vf.o,HS.o⟩
structure Ew (w w':World) (d sp B P ep st sq hd us:Nat) (A:Nat→Option Nat) (j r rb t pb ob:Nat) (g:Nat→Option Nat):Prop where
 store:ah w' sp 125 [.pointer (some ⟨j,0,none⟩),.int .i64 B,.int .i64 P]
 cells:ah w' j 198 [.pointer (some ⟨d,0,none⟩),.pointer (some ⟨r,0,none⟩),.pointer (some ⟨t,0,none⟩),.int .i64 B,.int .u32 ep,.int .u64 st,.int .u64 sq,.int .i64 hd,.int .i64 us,.int .i64 0,.bool false]
 ring:RingAt w' r rb P (sK P)
 tab:TabAt w' t pb ob B P (uj A B) g
 new:∀k,(k=sp∨k=j∨k=r∨k=rb∨k=t∨k=pb∨k=ob)→w.heap.size≤k
 two:rb≠pb∧rb≠ob
 sj:sp≠j
 below:Below w.heap.size w w'
section
variable {w:World} {P B ep st sq hd us:Nat} {A:Nat→Option Nat}
theorem IX (h:Zy P B ep st sq hd us A) (hP:1≤P) {ab d:Nat} (hA:ah w ab 3 (Ye B A)) {ds:Nat→Bytes} {wt:Wt} {Fd:Nat→Prop} (hD:Dev w d (P+1) ds wt false Fd):
  Calls Tryz.prog 55 #[.pointer (some ⟨d,0,none⟩),Gu B P,stV ep st sq hd us (.slice (some ⟨ab,0,none⟩) B B)] w λe w'=>∃(sp j r rb t pb ob:Nat) (g:Nat→Option Nat),e=.returned (.pointer (some ⟨sp,0,none⟩))∧Ew w w' d sp B P ep st sq hd us A j r rb t pb ob g:=by
 have H:=U h;have HA:=U hA;have HD:=U hD;clear h hA hD;go_enter Tryz.func55,Tryz.ntmps55;go_wp2_with fail;obtain⟨wa,vH⟩:∃wa,(w.alloc (.cells #[.int .i64 B,.int .i64 P] 109)).alloc (.cells #[.int .u32 ep,.int .u64 st,.int .u64 sq,.int .i64 hd,.int .i64 us,.slice (some ⟨ab,0,none⟩) B B] 118)=wa:=⟨_,rfl⟩
 obtain⟨aM,lq,Tf⟩:=boxes [([.int .i64 B,.int .i64 P],109),([.int .u32 ep,.int .u64 st,.int .u64 sq,.int .i64 hd,.int .i64 us,.slice (some ⟨ab,0,none⟩) B B],118)] w wa vH;have v0:ah wa w.heap.size 109 [.int .i64 B,.int .i64 P]:=aM 0 _ rfl;rw[vH];have Cr:=U lq;have V0:=U v0;clear vH aM lq v0 Tf;refine(ZA H.o hP (HA.o.below Cr.o) (HD.o.step (Step.of_below Cr.o (λ_=>False)) (λ_ _ h=>h))).mono ?_;rintro e w1 ⟨j,r,rb,t,pb,ob,g,rfl,h1,h2,h3,h4,h5,h6,h7⟩;have H1:=U h1;have H2:=U h2;have H3:=U h3;have H4:=U h4;have HB:=U (Cr.o.trans (h7.mono Cr.o.size));have V1:=U (V0.o.below h7);have Tf:=Cr.o.size;clear h1 h2 h3 h4 h7;go_wp2_with fail;refine(oW w1).mono ?_;rintro e w2 ⟨⟨v,rfl⟩,rfl⟩;have c0:=V1.o.cell 0;have c1:=V1.o.cell 1;simp only[zf,zi] at c0 c1;go_wp2_with fail;go_ret;have aJ:=(zn w1.heap.size w1).alloc (zm _) (.cells #[.pointer (some ⟨j,0,none⟩),.int .i64 B,.int .i64 P] 125);refine⟨w1.heap.size,j,r,rb,t,pb,ob,g,rfl,ah.new w1 _ _,H1.o.below aJ,H2.o.step (Step.of_below aJ (λ_=>False)) (λh=>h) (λh=>h),H3.o.step (Step.of_below aJ (λ_=>False)) (λh=>h) (λh=>h) (λh=>h),?_,⟨h5,h6⟩,?_,HB.o.trans (aJ.mono HB.o.size)⟩
 ·rintro k (rfl|hk)
  ·exact HB.o.size
  ·have:=H4.o k hk
   omega
 ·have:=H1.o.lt
  omega
theorem Ew.p9 {w w':World} {d sp j r rb t pb ob:Nat} {s:JS} {C:Nat→Bytes} {g:Nat→Option Nat} {ds:Nat→Bytes} {wt:Wt} {Fd:Nat→Prop} (h:Ew w w' d sp s.B s.P s.epoch s.start s.seq s.head s.used s.at_ j r rb t pb ob g) (hf:s.freed=0) (hD:Dev w d (s.P+1) ds wt false Fd) (rU:rD s C)
  (hv:∀p,p<s.P→view ds wt (p+1)=encS (s.sec p)) (GA:view ds wt 0=eG s.B s.P) (hlen:∀k,(ds k).length=512) (hwt:wt.length≤72∧∀e∈wt,e.1<s.P+1∧e.2.length=512) (hg:Geo s.B s.P) (cl:Bool) (nY:cl=true→wt=[]):
  ∃F',lW w' sp d s C cl F'∧Step Fd w F' w':=by
 have jL:∀k,Fd k→k<w.heap.size:=by
  obtain⟨sb,ss,vw,xs,tb,cr,cw,cf,h⟩:=hD;exact h.lt
 have hD':=hD.step (Step.of_below h.below (λ_=>False)) (λ_ _ h=>h);have hn:∀k,(k=sp∨k=j∨k=r∨k=rb∨k=t∨k=pb∨k=ob)→¬Fd k:=λk hk hF=>by
  have:=h.new k hk;have:=jL k hF;omega
 obtain⟨cc,hcc⟩:=h.tab.cells;have hsr:sp≠r:=h.store.eU h.ring.cells dQ;have atT:sp≠rb:=h.store.eU h.ring.row dQ;have bT:sp≠t:=h.store.eU hcc dQ;have atU:sp≠pb:=h.store.eU h.tab.places dQ;have atW:sp≠ob:=h.store.eU h.tab.iU dQ;have iw:∀k,(k=sp∨k=j∨k=r∨k=rb∨k=t∨k=pb∨k=ob)→k<w'.heap.size:=by
  rintro k (rfl|rfl|rfl|rfl|rfl|rfl|rfl)
  ·exact h.store.lt
  ·exact h.cells.lt
  ·exact h.ring.cells.lt
  ·exact h.ring.row.lt
  ·exact hcc.lt
  ·exact h.tab.places.lt
  ·exact h.tab.iU.lt
 have eX:∀k,Fd k→k<w'.heap.size:=λk hk=>zx (jL k hk) h.below.size;refine⟨λk=>Fd k∨(k=sp∨k=j∨k=r∨k=rb∨k=t∨k=pb∨k=ob),⟨j,ds,wt,λk=>Fd k∨(k=j∨k=r∨k=rb∨k=t∨k=pb∨k=ob),h.store,⟨r,rb,t,pb,ob,Fd,uj s.at_ s.B,g,?_⟩,?_,.inr (.inl rfl),?_,?_,nY⟩,?_⟩
 ·refine {cells:=?_,dev:=hD',ring:=h.ring,tab:=h.tab,at_:=λid U=>by simp[uj,U],ok:=rU,secs:=hv,sup:=GA,len:=hlen,X8:=hwt,Ct:=hg,freed:=oQ,own:=⟨.inr (.inl rfl),.inr (.inr (.inl rfl)),.inr (.inr (.inr (.inl rfl))),.inr (.inr (.inr (.inr (.inl rfl)))),.inr (.inr (.inr (.inr (.inr (.inl rfl))))),.inr (.inr (.inr (.inr (.inr (.inr rfl))))),λk hk=>.inl hk⟩,apart:=⟨hn _ sQ,hn _ sQ,hn _ sQ,hn _ sQ,hn _ sQ,hn _ sQ⟩,two:=h.two,lt:=?_}
  ·have:=h.cells
   unfold nQ;rw[hf];exact this
  ·rintro k (hk|hk)
   ·exact eX k hk
   ·exact iw k (.inr hk)
 ·rintro k (hk|hk)
  ·exact .inl hk
  ·exact .inr (.inr hk)
 ·rintro(hk|hk)
  ·exact hn sp (.inl rfl) hk
  ·rcases hk with hk|hk|hk|hk|hk|hk
   ·exact h.sj hk
   ·exact hsr hk
   ·exact atT hk
   ·exact bT hk
   ·exact atU hk
   ·exact atW hk
 ·rintro k (hk|hk)
  ·exact eX k hk
  ·exact iw k hk
 ·exact(Step.of_below h.below Fd).to (λk hk=>by
   rcases hk with hk|hk
   ·exact .inl hk
   ·exact .inr (h.new k hk))
end
end
end Go.Proofs.YtdjdpeadohobmaaGreatDoor
