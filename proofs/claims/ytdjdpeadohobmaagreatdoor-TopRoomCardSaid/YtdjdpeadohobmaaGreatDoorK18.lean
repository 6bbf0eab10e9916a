/- A part of the walk below the law: what is proved here is used by later parts; no further condition. -/
import Derived.Maps.OwnIn
import Derived.Maps.RangeWalk
import Derived.Test.YtdjdpeadohobmaaGreatDoorK13
import Derived.Test.YtdjdpeadohobmaaGreatDoorK17
set_option linter.unusedVariables false
set_option linter.unusedSimpArgs false
set_option maxRecDepth 100000
set_option maxHeartbeats 20000000
namespace Go.Proofs.YtdjdpeadohobmaaGreatDoor
section
open Go.RowKit Go.Shelf Go.Maps O
attribute [local go_sem] Oper.semAt_some
theorem QD (w:World):Calls Tryz.prog 320 #[.int .u64 1] w λe w'=>e=.returned (.int .i64 1)∧w=w':=by
 have h64:∀w:World,Calls Tryz.prog 337 #[.int .u64 1] w λe w'=>e=.returned (.int .i64 1)∧w=w':=by
  intro w;go_enter Tryz.func337,Tryz.ntmps337;go_wp2_with fail;go_ret;exact⟨kQ,rfl⟩
 go_enter Tryz.func320,Tryz.ntmps320;go_wp2_with fail;refine(h64 w).mono ?_;rintro e w' ⟨rfl,rfl⟩;go_wp2_with fail;go_ret;exact⟨rfl,rfl⟩
theorem Vn (a:Option Addr) (c:Nat) (w:World):Calls Tryz.prog 304 #[.slice a 1 c] w λe w'=>(∃v,e=.returned v)∧w=w':=by
 have h1:∀w:World,Calls Tryz.prog 370 #[.slice a 1 c,.int .i64 0,.int .i64 1] w λe w'=>(∃v,e=.returned v)∧w=w':=by
  intro w;go_enter Tryz.func370,Tryz.ntmps370;go_wp2_with fail;refine wp_loop_rounds 1 ?_;rw[rounds_succ];go_wp2_with fail;go_end0;exact⟨⟨_,rfl⟩,rfl⟩
 have h2:∀w:World,Calls Tryz.prog 344 #[.slice a 1 c,.int .i64 0,.int .i64 1,.int .i64 1] w λe w'=>(∃v,e=.returned v)∧w=w':=by
  intro w;go_enter Tryz.func344,Tryz.ntmps344;go_wp2_with fail;refine wp_loop_rounds 1 ?_;rw[rounds_succ];go_wp2_with fail;refine(h1 w).mono ?_;rintro e w' ⟨⟨v,rfl⟩,rfl⟩;go_wp2_with fail
  first|done|exact bodyPost_ret (v:=.tuple #[]) (by simp[results,Tryz.results344,go_sem]) rfl ⟨⟨_,rfl⟩,rfl⟩
 go_enter Tryz.func304,Tryz.ntmps304;go_wp2_with fail;refine(QD w).mono ?_;rintro e w' ⟨rfl,rfl⟩;go_wp2_with fail;refine(h2 w).mono ?_;rintro e w' ⟨⟨v,rfl⟩,rfl⟩;go_wp2_with fail;go_end0;exact⟨⟨_,rfl⟩,rfl⟩
def iH (T:TypeId) (n:Nat) (A B:World):Prop:=A.heap.size≤B.heap.size∧∀k,n≤k→k<A.heap.size→(¬∃C fr,A.heap[k]? =some (.cells C T fr))→B.heap[k]? =A.heap[k]?
theorem iH.refl (T:TypeId) (n:Nat) (A:World):iH T n A A:=⟨zm _,λ_ _ _ _=>rfl⟩
theorem iH.trans {T:TypeId} {n:Nat} {A B C:World} (h:iH T n A B) (k:iH T n B C):iH T n A C:=
 ⟨zC h.1 k.1,λi hi hA hn=>by
  have h1:=h.2 i hi hA hn;exact(k.2 i hi (zx hA h.1) (by rw[h1];exact hn)).trans h1⟩
theorem amE (x:Nat) (h:x<4294967296):(Lit.int .u32 (x:Int)).wf=true:=by
 simp only[Lit.wf,IntKind.min,IntKind.max,IntKind.signed,IntKind.bits,zad,decide_eq_true_eq];simp;omega
def M6 (x:Nat) (v:Value):DataW Value:=.map [(.int .u32 (x:Int),.held v)]
theorem yA:Keyed Tryz.prog 115:=int_keyed Tryz.underlying115
theorem Vo (w:World) (mb:Nat):Calls Tryz.prog 256 #[.map (some mb)] w λe w'=>∃bm:Nat,e=.returned (.func (.func 305) #[] #[.pointer (some ⟨bm,0,none⟩)])∧w.heap.size≤bm∧ah w' bm 313 [.map (some mb)]∧Below w.heap.size w w':=by
 have hmf:∀(fn:Fn) (first cap:Array Value) (w:World),(Instr.makeFunc fn first cap).run Tryz.prog w=.ok (.func fn first cap) w:=λ_ _ _ _=>rfl;go_enter Tryz.func256,Tryz.ntmps256;go_wp2_with fail;go_ret;exact⟨w.heap.size,rfl,zm _,ah.new w _ _,(zn _ _).alloc (zm _) _⟩
theorem Vp (w:World) (a:Option Addr) (m c:Nat):Calls Tryz.prog 254 #[.slice a m c] w λe w'=>∃bm:Nat,e=.returned (.func (.func 302) #[] #[.pointer (some ⟨bm,0,none⟩)])∧w.heap.size≤bm∧ah w' bm 318 [.slice a m c]∧Below w.heap.size w w':=by
 have hmf:∀(fn:Fn) (first cap:Array Value) (w:World),(Instr.makeFunc fn first cap).run Tryz.prog w=.ok (.func fn first cap) w:=λ_ _ _ _=>rfl;go_enter Tryz.func254,Tryz.ntmps254;go_wp2_with fail;go_ret;exact⟨w.heap.size,rfl,zm _,ah.new w _ _,(zn _ _).alloc (zm _) _⟩
theorem Vq (n:Nat) (hn:1≤n) (bm rb c x:Nat) (W:World) (hb:ah W bm 318 [.slice (some ⟨rb,0,none⟩) 1 c]) (hr:W.cell? ⟨rb,0,none⟩=some (.int .u32 x)) (S:List Nat) (hS:∀b∈[bm,rb],b∈S):
  wL Fence.wide n Tryz.prog 302 #[.pointer (some ⟨bm,0,none⟩)] (λx:Nat=>#[.int .i64 0,.int .u32 x]) (bZ S) [x] W:=by
 intro l J hJ hY h0;have c0:=hb.cell 0;simp only[zf] at c0;have HB:=U hb;have Gt:=hY [] x W sQ h0;have Hy0:=U Gt;clear Gt hY;refine callsIn_of_wp Tryz.func302 rfl trivial ?_ rfl;simp only[Tryz.ntmps302,zQ,zA,zN,Nat.reduceAdd,Nat.reduceSub,zJ,zK,zT,zM,zB,zU];gi_wp2_with fail;gi_loopw [3] (λv wr=>(v=.int .i64 0∧bZ S W wr∧wr=W)∨(v=.int .i64 (-1)∧J [x] wr)) (λv _=>(intOf v+1).toNat)
 case atStart=>exact .inl ⟨rfl,λ_ _=>rfl,rfl⟩
 case round=>
  rcases hrel with⟨rfl,hK,rfl⟩|⟨rfl,hJ1⟩
  ·obtain⟨fn,tmps,assign,body,hy,hR⟩:=Hy0.o
   gi_wp2_with fail;refine hR.mono ?_;rintro e W3 ⟨rfl,pV,gL⟩;gi_wp2;go_roundw
   case rel=>exact .inr ⟨rfl,pV⟩
   case measure=>simp[intOf]
  ·gi_wp2_with fail
   go_end0;exact⟨⟨_,rfl⟩,hJ1⟩
theorem M7 {w w':World} {b r n:Nat} {D:DataW Value} {left:Lit→Bool} {cnt:Nat} {k:TypeId} (h:w.ranges Tryz.prog k fG b r n D left cnt) (h1:w'.heap[b]? =w.heap[b]?) (h2:w'.heap[r]? =w.heap[r]?):w'.ranges Tryz.prog k fG b r n D left cnt:=by
 obtain⟨es,clock,since,seen,c0,g1,g2,g3,g4,g5,g⟩:=h;exact⟨es,clock,since,seen,c0,h1.trans g1,g2,g3,g4,h2.trans g5,g⟩
theorem Vr (n:Nat) (hn:1≤n) (bm mb x:Nat) (hx:x<4294967296) (v:Value) (W:World) (N0:Nat) (hN:N0≤W.heap.size) (M8:ah W bm 313 [.map (some mb)]) (hm:W.ownsMap Tryz.prog 115 fG mb 1 (M6 x v)):
  wL Fence.wide n Tryz.prog 305 #[.pointer (some ⟨bm,0,none⟩)] (λx:Nat=>#[.int .u32 x]) (λA B=>B.heap[mb]? =A.heap[mb]?∧iH 115 N0 A B) [x] W:=by
 intro l J hJ hY h0;have c0:=M8.cell 0;simp only[zf] at c0;have HY:=U hY;have HJ:=U hJ;have HM:=U hm;clear hY hJ;refine callsIn_of_wp Tryz.func305 rfl trivial ?_ rfl;simp only[Tryz.ntmps305,zQ,zA,zN,Nat.reduceAdd,Nat.reduceSub,zJ,zK,zT,zM,zB,zU];gi_wp2_with (gi_at_range;refine wpListIn_range_own _ rfl _ 313 rfl 115 116 yA Tryz.underlying313 _ mb 1 _ rfl HM.o ?_;intro w0 QE jr wS);have hJ0:J [] w0:=HJ.o [] W w0 none h0 jr (λr e=>by cases e);have M9:=HM.o.lt;have Vs:mb<W.heap.size:=M9;clear h0 jr
 gi_loopw [3] (λ_ wr=>∃(left:Lit→Bool) (cnt:Nat) (L:List Nat),wr.ranges Tryz.prog 115 fG mb W.heap.size 1 (M6 x v) left cnt∧((L=[]∧cnt=1)∨(L=[x]∧cnt=0))∧J L wr)
  (λ_ wr=>wr.rangeLeft mb W.heap.size)
 case atStart=>exact⟨_,_,[],QE,.inl ⟨rfl,rfl⟩,hJ0⟩
 case round=>
  obtain⟨left,cnt,L,hrg,jV,hJL⟩:=hrel;have Hor:=U jV;clear jV;gi_wp2_with (gi_at_next;refine wpListIn_next_ranges _ rfl _ rfl 115 yA fG (λx:Int=>.int .u32 x) id (λkey kl hk=>by obtain⟨x,hx,_⟩:=Maps.keyOf_int_inv Tryz.underlying115 hk;exact⟨x,hx⟩) (λv _ _=>⟨v,rfl⟩) mb W.heap.size 1 _ _ _ rfl hrg ?_ ?_)
  ·intro Gs AP
   gi_wp2;go_end0;rcases Hor.o with⟨_,h1⟩|⟨rfl,_⟩
   ·omega
   ·exact⟨⟨_,rfl⟩,hJL⟩
  ·intro y c kl yd yp w2 cnt2 ZK yh hv dw ZL bA wQ nJ hen
   obtain⟨y',ey,rfl,Bu⟩:=Maps.keyOf_int_inv Tryz.underlying115 ZK;cases ey;have hyx:y=(x:Int):=by
    apply zaE;intro dV;have h1:=dw .nil;have h2:=dw (.lit (.bool true));simp[M6,DataW.atKey,Lit.sameKey,dV,Bp dV] at h1 h2;rw[←h1] at h2;cases h2
   subst hyx;rcases Hor.o with⟨rfl,h1⟩|⟨_,h1⟩
   ·have Yb:J [] w2:=HJ.o [] wr w2 (some W.heap.size) hJL wQ (λr e=>by cases e;exact⟨zm _,by obtain⟨es,clock,since,seen,c0',g1,g2,g3,g4,g5,g⟩:=hrg;exact⟨_,g5,rfl⟩⟩)
    obtain⟨fn,tmps,assign,body,hy,hR⟩:=HY.o [] x w2 sQ Yb;have ah_:=U ZL;have hc2:cnt2=0:=oQ
    have Hc2:=U hc2;clear ZK yh hv dw ZL wQ nJ Yb hJL h1 hc2;gi_wp2_with fail;refine hR.mono ?_;rintro e W3 ⟨rfl,pV,gL⟩;have amF:=M7 ah_.o gL.1 (gL.2.2 W.heap.size oQ ?hl ?hn)
    case hl=>
     obtain⟨es,clock,since,seen,c0',g1,g2,g3,g4,g5,g⟩:=ah_.o;exact(zo.1 g5).1
    case hn=>
     obtain⟨es,clock,since,seen,c0',g1,g2,g3,g4,g5,g⟩:=ah_.o;rintro⟨C,fr,h⟩;rw[g5] at h;cases h
    gi_wp2;go_roundw
    case rel=>exact⟨_,cnt2,[x],amF,.inr ⟨rfl,Hc2.o⟩,pV⟩
    case measure=>rw[amF.left_eq,hrg.left_eq];exact bA
   ·omega
theorem aia:Dl Tryz.prog 318 115 (.int .u32 0) 1 4:=⟨Tryz.underlying318,kQ,rfl,dQ⟩
def Vt (L:List Nat):List Value:=L.map (λ(x:Nat)=>Value.int .u32 (x:Int))
structure ApI (bs n0:Nat) (w1:World) (pre:List Nat) (V:World) (vl:Value):Prop where
 box:ah V bs 318 [vl]
 row:V.ownsRow 0 115 1 vl pre.length (Vt pre)
 new:∀b,vl.ownBlock=some b→n0≤b
 step:Step (· =bs) w1 (· =bs) V
theorem Eu (w:World) {gf:Nat} {lb:Array Value} (hen:∀args w,(callFunc gf args).run Tryz.prog w=.ok (.enter gf args) w) (mb:Nat) (M9:mb<w.heap.size) (L:List Nat) (hL:L.length≤1000)
  (nN:∀W,Below w.heap.size w W→W.heap.size=w.heap.size+1+2→wL Fence.wide 10 Tryz.prog gf lb (λx:Nat=>#[.int .u32 x]) (λA B=>B.heap[mb]? =A.heap[mb]?∧iH 115 (w.heap.size+1+2) A B) L W):
  Calls Tryz.prog 343 #[.slice none 0 0,.func (.func gf) #[] lb] w λe w'=>∃v,e=.returned v∧w'.ownsRow 0 115 1 v L.length (Vt L)∧(∀b,v.ownBlock=some b→w.heap.size≤b)∧Below w.heap.size w w':=by
 refine(callsIn_wide (n:=11)).1 ?_;refine callsIn_of_wp_marks Tryz.func343 rfl trivial ?_ rfl;simp only[Tryz.ntmps343,zQ,zA,zN,Nat.reduceAdd,Nat.reduceSub,zJ,zK,zT,zM,zB,zU];gi_wp2_with fail;obtain⟨w1,aP⟩:∃w1,w.alloc (.cells #[.slice none 0 0] 318)=w1:=⟨_,rfl⟩
 have aF:Below w.heap.size w w1:=by rw[←aP];exact(zn _ _).alloc (zm _) _
 have hz1:w1.heap.size=w.heap.size+1:=by rw[←aP];simp
 have Kl:ah w1 w.heap.size 318 [.slice none 0 0]:=by rw[←aP];exact ah.new w _ _
 rw[aP];clear aP;have HV1:=U Kl;have jD:=U aF;generalize dw:Act.mk _ _=a0
 refine gF (n:=11) rfl oQ (gf:=gf) (lb:=lb) (by rw[←dw];rfl) trivial hen
  (encs:=λx:Nat=>#[.int .u32 x]) (Kp:=λA B=>B.heap[mb]? =A.heap[mb]?∧iH 115 (w.heap.size+1+2) A B) (L:=L)
  (λW1 hB hz=>nN W1 (aF.trans (hB.mono oQ)) oQ)
  (λh1 h2=>⟨h2.1.trans h1.1,h1.2.trans h2.2⟩) ?hKb (λ_=>rfl)
  (λpre V=>∃vl,ApI w.heap.size w1.heap.size w1 pre V vl)
  ?hI ?h0 (λx a' _=>a'={tmps:=(a0.tmps.setIfInBounds 7 (.int .u32 x)).setIfInBounds 5 (.int .u32 x),defers:=[]}) ?hAx ?assign ?body ?done
 case hKb=>
  intro V o o' ho kR;exact⟨World.putObj_heap_other oQ,by rw[World.putObj_size];exact zm _,λk h1 _ _=>World.putObj_heap_other oQ⟩
 case hI=>
  refine jg ?_;rintro pre V V' ⟨vl,hI⟩ hs;refine⟨vl,hI.box.step hs (NC.Gv hI.box),aC hs hI.row (λb hb=>?_),hI.new,hI.step.inner hs (λk hk=>.inr hk.1)⟩;obtain⟨Cb,lV⟩:=aN hI.row hb;rintro⟨_,o,ho,kR⟩;rw[lV] at ho;injection ho with ho;subst ho;cases kR
 case h0=>exact⟨.slice none 0 0,HV1.o,⟨rQ,.inl ⟨rfl,rfl⟩⟩,λb hb=>by simp[Value.ownBlock] at hb,Step.refl _ _⟩
 case hAx=>exact λx a'=>ownFrom_pure _ (λ_=>a'=_)
 case assign=>
  rintro l pre x V K2 hI hK;subst dw;gi_wp2;exact hK _ _ (KeepsFrom.refl _ _) ⟨rfl,iH.refl _ _ _⟩ hI rfl
 case body=>
  rintro l0 pre x a' V nP ⟨vl,hI⟩ rfl hzV;subst dw;simp only[zh,zk,zl];obtain⟨av,cv,rfl,BM⟩:=aR hI.row;have k4:=hI.box.cell 0;have f4:=hI.box.free 0;simp only[zf] at k4;have hlen:pre.length+1≤L.length:=by
   obtain⟨q,hq⟩:=nP;rw[←hq];simp
  obtain⟨gq,cap,V5,iT,ig,rH,Em⟩:=jk aia 318 V hI.row [.int .u32 x] rfl (by simp[Value.oneCell']) oQ oQ 115
  have uN:Step (λk=>(Value.slice av pre.length cv).ownBlock=some k) V (λk=>(Value.slice av pre.length cv).ownBlock=some k) V5:=Step.bU rH (λr' e=>⟨e,by
   obtain⟨Cb,lV⟩:=aN hI.row e;rintro⟨C2,fr,h2⟩;rw[lV] at h2;injection h2 with h2;injection h2 with _ h2
   first|exact absurd h2 dQ|exact(Fr.no h2 dQ).elim⟩)
  have kS:=hI.box.step uN (λh=>by have:=hI.new _ h;omega);have k5:=kS.cell 0;have f5:=kS.free 0;simp only[zf] at k5;have HI:=U hI;have xJ:=U uN;have jR:=U kS;have yu:=U ig;have Qi:=U Em;clear hI uN kS ig Em rH;gi_wp2_with (gi_at_builtin;refine cK (.tmp 8) (.tmp 10) iT rfl rfl rfl rfl ?_);obtain⟨V6,lT⟩:∃V6,V5.setCell ⟨w.heap.size,0,none⟩ (.slice (some ⟨gq,0,none⟩) (pre.length+1) cap)=V6:=⟨_,rfl⟩
  have s6:Step (· =w.heap.size) V5 (· =w.heap.size) V6:=by rw[←lT];exact Step.set1 (jR.o.aV dQ) _ _
  have b6:ah V6 w.heap.size 318 [.slice (some ⟨gq,0,none⟩) (pre.length+1) cap]:=by rw[←lT];exact jR.o.aB 0 _
  rw[lT];have BN:=xJ.o.size;have U5:=s6.size
  have xK:∀k,k<V.heap.size→(Value.slice av pre.length cv).ownBlock≠some k→k≠w.heap.size→V6.heap[k]? =V.heap[k]?:=λk h1 h3 h4=>
   (s6.keep k oQ (.inl h4)).trans (xJ.o.keep k h1 (.inl h3))
  have hown:∀k,(Value.slice av pre.length cv).ownBlock=some k→w1.heap.size≤k∧∃Cb,V.heap[k]? =some (.cells Cb 115 (0,0)):=λk hk=>⟨HI.o.new k hk,aN HI.o.row hk⟩
  have Uh:w1.heap.size≤gq:=by
   rcases Qi.o with h|h
   ·exact(hown _ h).1
   ·omega
  refine⟨⟨oQ,λk o hk h0 kR=>(xK k (zo.1 h0).1 (λh=>?_) oQ).trans h0⟩,⟨xK mb oQ (λh=>by have:=(hown _ h).1;omega) oQ,oQ,λk h1 h2 h3=>xK k h2 (λh=>?_) oQ⟩,_,b6,?_,?_,?_⟩
  ·obtain⟨_,Cb,lV⟩:=hown k h
   rw[lV] at h0;injection h0 with h0;subst h0;cases kR
  ·obtain⟨_,Cb,lV⟩:=hown k h
   exact h3 ⟨Cb,_,lV⟩
  ·rw[zw,zY]
   have:Vt (pre++[x])=Vt pre++[.int .u32 x]:=by simp[Vt]
   rw[this];refine aC s6 yu.o (λb hb=>?_);have:b=gq:=by simpa[Value.ownBlock] using hb.symm
   omega
  ·intro b hb
   have:b=gq:=by simpa[Value.ownBlock] using hb.symm
   omega
  ·exact(HI.o.step.inner xJ.o (λk hk=>.inr (hown k hk).1)).inner s6 (λk hk=>.inl hk)
 case done=>
  rintro D V hD ⟨vl,hI⟩ lI;subst dw;obtain⟨av,cv,rfl,BM⟩:=aR hI.row;have k4:=hI.box.cell 0;simp only[zf] at k4;gi_wp2;have s3:Step (NC w1.heap.size V) V (NC w1.heap.size V) (V.putObj D (.deferred none)):=Step.bU (grownBy_putObj' V D _) (λr' e=>by cases e;exact⟨⟨hD,_,lI,rfl⟩,NC.aV (B:=0) ⟨ql _,_,lI,rfl⟩⟩)
  have aZ:=aC s3 hI.row (λb hb=>by
   obtain⟨Cb,lV⟩:=aN hI.row hb;rintro⟨_,o,ho,kR⟩;rw[lV] at ho;injection ho with ho;subst ho;cases kR)
  have P9:Below w.heap.size w (V.putObj D (.deferred none)):=by
   have t1:Step (· =w.heap.size) w1 (· =w.heap.size) (V.putObj D (.deferred none)):=hI.step.inner s3 (λk hk=>.inr hk.1);exact jD.o.trans (t1.below (λk hk=>Yx hk.symm) oQ)
  refine⟨sQ,.inl ⟨_,_,rfl,run_takeDeferred lI,?_⟩⟩;refine⟨.slice av L.length cv,by simp[results,Tryz.f343,go_sem],_,rfl,aZ,λb hb=>?_,P9⟩;have:=hI.new b hb;omega
theorem M_ (w:World) {bm mb x:Nat} (hx:x<4294967296) {v:Value} (M8:ah w bm 313 [.map (some mb)]) (hm:w.ownsMap Tryz.prog 115 fG mb 1 (M6 x v)):
  Calls Tryz.prog 255 #[.func (.func 305) #[] #[.pointer (some ⟨bm,0,none⟩)]] w λe w'=>∃b c:Nat,e=.returned (.slice (some ⟨b,0,none⟩) 1 c)∧w'.cell? ⟨b,0,none⟩=some (.int .u32 x)∧w.heap.size≤b∧Below w.heap.size w w':=by
 have M9:=hm.lt
 have nN:∀W,Below w.heap.size w W→W.heap.size=w.heap.size+1+2→wL Fence.wide 10 Tryz.prog 305 #[.pointer (some ⟨bm,0,none⟩)] (λx:Nat=>#[.int .u32 x]) (λA B=>B.heap[mb]? =A.heap[mb]?∧iH 115 (w.heap.size+1+2) A B) [x] W:=λW hW hz=>
  Vr 10 oQ bm mb x hx v W (w.heap.size+1+2) oQ (M8.below hW) (by
   obtain⟨es,clock,hb,r⟩:=hm;exact⟨es,clock,(hW.block mb (zo.1 hb).1).trans hb,r⟩)
 have iT:=Eu w (enters_of Tryz.func305 kQ rfl) mb M9 [x] sQ nN;have amG:Calls Tryz.prog 303 #[.func (.func 305) #[] #[.pointer (some ⟨bm,0,none⟩)]] w λe w'=>∃v,e=.returned v∧w'.ownsRow 0 115 1 v 1 (Vt [x])∧(∀b,v.ownBlock=some b→w.heap.size≤b)∧Below w.heap.size w w':=by
  have HA:=U iT;clear iT nN;go_enter Tryz.func303,Tryz.ntmps303;go_wp2_with fail;refine HA.o.mono ?_;rintro e w1 ⟨v,rfl,h1,h2,h3⟩;go_wp2_with fail;go_ret;exact⟨v,rfl,h1,h2,h3⟩
 have HC:=U amG;clear iT nN amG;go_enter Tryz.func255,Tryz.ntmps255;go_wp2_with fail;refine HC.o.mono ?_;rintro e w1 ⟨v,rfl,h1,h2,h3⟩;obtain⟨a,c,rfl,ha⟩:=aR h1;rcases ha with⟨_,h0⟩|⟨b,rfl,hb⟩
 ·omega
 have hcell:=bL h1 hb 0 (u:=.int .u32 x) rfl;have Gx:=h2 b hb;clear h1 h2 hb;go_wp2_with fail;refine(Vn _ c w1).mono ?_;rintro e w2 ⟨⟨v,rfl⟩,rfl⟩;go_wp2_with fail;go_ret;exact⟨b,c,rfl,hcell,Gx,h3⟩
end
end Go.Proofs.YtdjdpeadohobmaaGreatDoor
