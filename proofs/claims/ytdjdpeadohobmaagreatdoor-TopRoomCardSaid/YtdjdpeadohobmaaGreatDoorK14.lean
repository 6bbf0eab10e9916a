/- A part of the walk below the law: what is proved here is used by later parts; no further condition. -/
import Derived.Test.YtdjdpeadohobmaaGreatDoorK11
import Derived.Test.YtdjdpeadohobmaaGreatDoorK13
set_option linter.unusedVariables false
set_option linter.unusedSimpArgs false
set_option maxRecDepth 100000
set_option maxHeartbeats 20000000
namespace Go.Proofs.YtdjdpeadohobmaaGreatDoor
section
open Go.RowKit Go.Shelf O
attribute [local go_sem] Oper.semAt_some
theorem Zp {s:JS} {f g:Nat→Option Nat} (hinv:∀p i,p<s.P→(g p=some i↔i<s.B∧f i=some p)) (dw:∀id,id<s.B→f id=s.at_ id) (ht:s.tail<s.P) (hu:s.Q.length≤s.P) {c:Nat} (hc:c≤s.Q.length) {x:Nat×Nat} (hx:x∈jq g s.tail s.P (List.range c)):
  ∃i,idx s.Q x.1=some i∧x.2=s.pl i∧x.1<s.B:=by
 unfold jq at hx;obtain⟨i,hi,hx⟩:=List.mem_filterMap.1 hx;have hi:=zao.1 hi;have fB:(s.tail+i)%s.P=s.pl i:=by rw[uJ ht oQ];rfl
 rw[fB] at hx;have XR:s.pl i<s.P:=dz ht oQ;rcases hg:g (s.pl i) with _|id
 ·rw[hg] at hx;cases hx
 ·rw[hg] at hx
  injection hx with hx;subst hx;obtain⟨hB,hf⟩:=(hinv _ _ XR).1 hg;rw[dw id hB,JS.at_] at hf;rcases hk:idx s.Q id with _|k
  ·rw[hk] at hf;cases hf
  ·rw[hk] at hf
   injection hf with hf;have fF:=fK hk;have:=rC (P:=s.P) (t:=s.tail) (i:=k) (j:=i) oQ oQ hf;exact⟨k,rfl,by rw[this],hB⟩
def rR (C:Nat→Bytes) (V:World) (xs:List Value) (kept:List Nat):Prop:=∀i (h:i<kept.length),xs[2*i]? =some (.int .i64 kept[i])∧∃a cc,xs[2*i+1]? =some (.slice a 480 cc)∧cZ V a (C kept[i])
theorem rR.step {C:Nat→Bytes} {V V':World} {xs:List Value} {kept:List Nat} {G G':Nat→Prop} (h:rR C V xs kept) (hs:Step G V G' V'):rR C V' xs kept:=λi hi=>by
 obtain⟨h1,a,cc,h2,h3⟩:=h i hi;exact⟨h1,a,cc,h2,h3.step hs⟩
theorem rR.snoc {C:Nat→Bytes} {V:World} {xs:List Value} {kept:List Nat} (h:rR C V xs kept) (hl:xs.length=2*kept.length) {id:Nat} {a:Option Addr} {cc:Nat} (hb:cZ V a (C id)):rR C V (xs++[.int .i64 id,.slice a 480 cc]) (kept++[id]):=λi hi=>by
 rw[zw,zY] at hi;by_cases hik:i<kept.length
 ·obtain⟨h1,b,c2,h2,h3⟩:=h i hik
  rw[zaG hik,qo oQ,qo oQ];exact⟨h1,b,c2,h2,h3⟩
 ·obtain rfl:i=kept.length:=oQ
  rw[zaj oQ,qd oQ,qd oQ];simp only[zbc,List.getElem_cons_zero];rw[show 2*kept.length - xs.length=0 by omega,show 2*kept.length+1 - xs.length=1 by omega];exact⟨rfl,a,cc,rfl,hb⟩
theorem Qg {w:World} {v:Value} {n b:Nat} {xs:List Value} {C:Nat→Bytes} {kept:List Nat} (h:w.ownsRow 0 176 2 v n xs) (hb:v.ownBlock=some b) (hr:rR C w xs kept) (hn:n=kept.length) (hl:∀id,(C id).length=480):BK w b (kept.map (λid=>(id,C id))):=by
 rcases h.2 with⟨rfl,_⟩|⟨g',cap,cur,rfl,_,hg,_,_,_,ht⟩
 ·simp[Value.ownBlock] at hb
 ·have:g'=b:=by simpa[Value.ownBlock] using hb
  subst this;have hx:∀k u,xs[k]? =some u→cur[k]? =some u:=λk u hk=>by
   have hj:=(zL.1 hk).1;rw[h.1] at hj;rw[←hk,←ht,qh,if_pos hj,qw]
  refine⟨cur,(0,0),hg,λi hi=>?_⟩;rw[zD] at hi;obtain⟨h1,a,cc,h2,h3⟩:=hr i hi;simp only[zaJ];exact⟨hx _ _ h1,a,cc,hx _ _ h2,hl _,h3⟩
structure MvI (lb n0:Nat) (l:List Nat) (C:Nat→Bytes) (F:Nat→Prop) (w1:World) (JA:World→Prop) (pre:List (Nat×Nat)) (V:World) (vl:Value) (xs:List Value):Prop where
 box:ah V lb 126 [vl]
 row:V.ownsRow 0 176 2 vl ((pre.map Prod.fst).filter (λid=> !decide (id∈l))).length xs
 rows:rR C V xs ((pre.map Prod.fst).filter (λid=> !decide (id∈l)))
 new:∀b,vl.ownBlock=some b→n0≤b
 step:Step (λk=>F k∨k=lb) w1 (λk=>F k∨k=lb) V
 jrn:JA V
theorem rT:Dl Tryz.prog 126 176 (.agg #[.int .i64 0,.slice none 0 0]) 2 32:=⟨Tryz.underlying126,kQ,rfl,dQ⟩
theorem cK {F:Fence} {n:Nat} {P:Program} {ops:Array Oper} {rest:List Oper} {o:Oper} {a:Act} {Q:Exit→Act→World→Prop} {w w':World} (s x:Operand) {t t':TypeId} {v y v':Value}
  (hrun:(Builtin.append_ #[t,t'] o.type #[v,y]).run P w=.ok v' w') (hg:o.guard=none) (hop:o.op=.call {callee:=.builtin .append,args:=#[s,x],argTypes:=#[t,t']})
  (hs:a.eval s=v) (hx:a.eval x=y) (h:wpListIn F n P ops Q rest (a.put o.dst v') w'):wpListIn F n P ops Q (o::rest) a w:=by
 refine wpListIn_plain hg λK hK'=>?_;unfold Oper.wpIn;refine⟨?_,?_⟩
 ·simp[Oper.about,hop,resolve,Target.leads,zax]
 ·rw[Oper.semAt_plain F _ _ (by rw[hop];intro c hc';cases hc')]
  simp[execOp,hop,resolve,invoke,builtin,hs,hx,hrun,Result.andThen];exact hK' _ _ h
theorem aR {w:World} {e:TypeId} {k n:Nat} {v:Value} {xs:List Value} (h:w.ownsRow 0 e k v n xs):∃a cap,v=.slice a n cap∧((a=none∧n=0)∨∃b,a=some ⟨b,0,none⟩∧v.ownBlock=some b):=by
 rcases h.2 with⟨rfl,rfl⟩|⟨g,cap,cur,rfl,_⟩
 ·exact⟨none,0,rfl,.inl ⟨rfl,rfl⟩⟩
 ·exact⟨_,cap,rfl,.inr ⟨g,rfl,rfl⟩⟩
section
variable {w:World} {j d:Nat} {s:JS} {C:Nat→Bytes} {st:Nat→Bytes} {wt:Wt} {F:Nat→Prop}
theorem Qh (h:wU w j d s C st wt F) {m k:Nat} {φ:Nat→Option Value} (hM:bF w m k φ) (hmF:¬F m) {l:List Nat} (hφ:∀id,(φ id).isSome=decide (id∈l)) (c:Nat) (hc:c≤s.Q.length) (adO:c≤48):
  Calls Tryz.prog 124 #[.pointer (some ⟨j,0,none⟩),.int .i64 c,.map (some m)] w λe w'=>(∃b cap,e=.returned (.tuple #[.slice b (gB l c s.Q).length cap,.int .i64 0])∧((gB l c s.Q)=[]∨∃bb,b=some ⟨bb,0,none⟩∧w.heap.size≤bb∧BK w' bb ((gB l c s.Q).map (λid=>(id,C id)))))∧wU w' j d s C st wt F∧Step F w F w':=by
 have HJ:=U h;obtain⟨r,rb,t,pb,ob,Fd,f,g,h⟩:=h;have hB:=h.Ct.b.2;have H:=U h;clear h;refine(callsIn_wide (n:=12)).1 ?_;refine callsIn_of_wp_marks Tryz.func124 rfl trivial ?_ rfl;simp only[Tryz.ntmps124,zQ,zA,zN,Nat.reduceAdd,Nat.reduceSub,zJ,zK,zT,zM,zB,zU];gi_wp2_with fail;obtain⟨wa,vH⟩:∃wa,(((((w.alloc (.cells #[.pointer (some ⟨j,0,none⟩)] 123)).alloc (.cells #[.map (some m)] 192)).alloc (.cells #[.slice none 0 0] 126)).alloc (.cells #[.int .i64 0] 26)).alloc (.cells #[.slice none 0 0] 126))=wa:=⟨_,rfl⟩
 obtain⟨aM,lq,Tf⟩:=boxes [([.pointer (some ⟨j,0,none⟩)],123),([.map (some m)],192),([.slice none 0 0],126),([.int .i64 0],26),([.slice none 0 0],126)] w wa vH;have v0:ah wa w.heap.size 123 [.pointer (some ⟨j,0,none⟩)]:=aM 0 _ rfl;have v1:ah wa (w.heap.size+1) 192 [.map (some m)]:=aM 1 _ rfl;have v2:ah wa (w.heap.size+1+1) 126 [.slice none 0 0]:=aM 2 _ rfl;have v3:ah wa (w.heap.size+1+1+1) 26 [.int .i64 0]:=aM 3 _ rfl;have v4:ah wa (w.heap.size+1+1+1+1) 126 [.slice none 0 0]:=aM 4 _ rfl;simp only[zA,zN,Nat.reduceAdd] at Tf;rw[vH];clear vH aM;refine⟨trivial,(callsIn_wide.2 (U0 wa j c)).mono ?_⟩;rintro e w1 ⟨bj,bn,rfl,hbj,Zn,vj,vn,aF⟩;have hz1:wa.heap.size≤w1.heap.size:=aF.size;have jD:=U (lq.trans (aF.mono lq.size));have V0:=U (v0.below aF);have V1:=U (v1.below aF);have V2:=U (v2.below aF);have V3:=U (v3.below aF);have V4:=U (v4.below aF);have VJ:=U vj;have VN:=U vn;have HA:=U (H.o.below jD.o);have HM1:=U (hM.below jD.o);have hml:=hM.lt;have jL:=H.o.lt;clear v0 v1 v2 v3 v4 vj vn aF hM lq;gi_wp2_with fail;have BL:∀b∈[j,r,rb,t,pb,ob,bj,bn],b<w1.heap.size:=by
  intro b hb;simp only[zH,zO,or_false] at hb;obtain⟨cc,hcc⟩:=HA.o.tab.cells;rcases hb with rfl|rfl|rfl|rfl|rfl|rfl|rfl|rfl
  ·exact HA.o.cells.lt
  ·exact HA.o.ring.cells.lt
  ·exact HA.o.ring.row.lt
  ·exact hcc.lt
  ·exact HA.o.tab.places.lt
  ·exact HA.o.tab.iU.lt
  ·exact VJ.o.lt
  ·exact VN.o.lt
 have MF:∀k,F k→k<w.heap.size:=jL;have af5:((jq g s.tail s.P (List.range c)).map Prod.fst).filter (λid=> !decide (id∈l))=gB l c s.Q:=U1 HA.o.tab.inv HA.o.at_ HA.o.ok.log.lt HA.o.ok.tail HA.o.ok.used l c hc;have amo:=U af5;clear af5;generalize dw:Act.mk _ _=a0;have nM:wa.heap.size≤bj∧wa.heap.size≤bn:=⟨hbj,Zn⟩
 refine gF (n:=12) rfl oQ (gf:=260) (lb:=#[.pointer (some ⟨bj,0,none⟩),.pointer (some ⟨bn,0,none⟩)]) (by rw[←dw];rfl) trivial (enters_of Tryz.func260 kQ rfl)
  (encs:=λx:Nat×Nat=>#[.int .i64 x.1,.int .i64 x.2]) (Kp:=λA B=>bZ [j,r,rb,t,pb,ob,bj,bn] A B∧kH (w1.heap.size+2) A B) (L:=jq g s.tail s.P (List.range c))
  (λW1 hB hz=>hz▸Zm (12 - 1) oQ c bj bn (zC hc HA.o.ok.used) W1 (HA.o.below hB).cells (HA.o.below hB).ring (HA.o.below hB).tab (VJ.o.below hB) (VN.o.below hB) HA.o.ok.tail HA.o.ok.used _ (λb hb=>hb))
  (λh1 h2=>⟨h1.1.trans h2.1,h1.2.trans h2.2⟩) ?hKb (λ_=>rfl)
  (λpre V=>∃vl xs,MvI (w.heap.size+1+1+1+1) w1.heap.size l C F w1 (λV=>Ga V j s C st wt F d r rb t pb ob Fd f g) pre V vl xs)
  ?hI ?h0 (λx a' _=>a'={tmps:=(((a0.tmps.setIfInBounds 18 (.int .i64 x.1)).setIfInBounds 19 (.int .i64 x.2)).setIfInBounds 9 (.int .i64 x.1)).setIfInBounds 10 (.int .i64 x.2),defers:=[]}) ?hAx ?assign ?body ?done
 case hKb=>
  intro V o o' ho kR;exact⟨λb hb=>World.putObj_heap_other (by have:=BL b hb;omega),by rw[World.putObj_size];exact zm _,λk h1 _ _=>World.putObj_heap_other oQ⟩
 case hI=>
  refine jg ?_;rintro pre V V' ⟨vl,xs,hI⟩ hs;refine⟨vl,xs,hI.box.step hs (NC.Gv hI.box),aC hs hI.row (λb hb=>?_),hI.rows.step hs,hI.new,hI.step.inner hs (λk hk=>.inr hk.1),hI.jrn.step hs (λk hk hn=>by have h1:=MF k hk;have h2:=hn.1;omega)⟩;obtain⟨Cb,lV⟩:=aN hI.row hb;rintro⟨_,o,ho,kR⟩;rw[lV] at ho;injection ho with ho;subst ho;cases kR
 case h0=>exact⟨.slice none 0 0,[],V4.o,⟨rfl,.inl ⟨rfl,rfl⟩⟩,λi hi=>absurd hi sQ,λb hb=>by simp[Value.ownBlock] at hb,Step.refl _ _,HA.o⟩
 case hAx=>exact λx a'=>ownFrom_pure _ (λ_=>a'=_)
 case assign=>
  rintro l pre x V K2 hI hK;subst dw;gi_wp2;exact hK _ _ (KeepsFrom.refl _ _) ⟨λ_ _=>rfl,kH.refl _ _⟩ hI rfl
 case body=>
  rintro l0 pre x a' V nP ⟨vl,xs,hI⟩ rfl hzV;subst dw;simp only[zh,zk,zl];obtain⟨id,p⟩:=x;have J9:(id,p)∈jq g s.tail s.P (List.range c):=by
   obtain⟨q,hq⟩:=nP;rw[←hq];simp
  obtain⟨i,U4,hpi,MO⟩:=Zp HA.o.tab.inv HA.o.at_ HA.o.ok.tail HA.o.ok.used hc J9;simp only at U4 hpi MO;have hMV:=HM1.o.step hI.step (by rintro(h|h);exact hmF h;omega);have hz:(zeroValue 3).run Tryz.prog V=.ok (.int .i64 0) V:=kQ
  have yh:=hMV.look Tryz.underlying192 hz id (by show id<9223372036854775808;omega);have w1b:=(V1.o.step hI.step (by rintro(h|h);have:=MF _ h;omega;omega)).cell 0;have w0b:=(V0.o.step hI.step (by rintro(h|h);have:=MF _ h;omega;omega)).cell 0;simp only[zf] at w1b w0b;have iX:((pre++[(id,p)]).map Prod.fst).filter (λid=> !decide (id∈l))=(pre.map Prod.fst).filter (λid=> !decide (id∈l))++(if id∈l then[] else[id]):=by
   rw[zW,zaD];by_cases h:id∈l<;>simp[h]
  by_cases adQ:id∈l
  ·have hs:=hφ id
   rw[decide_eq_true adQ] at hs;rw[hs] at yh;rw[if_pos adQ,qD] at iX;obtain⟨x1,wJ⟩:∃x1,(φ id).getD (.int .i64 0)=x1:=⟨_,rfl⟩
   rw[wJ] at yh;have HI:=U hI;clear hI hMV hz hs;gi_wp2_with fail;refine⟨KeepsFrom.refl _ _,⟨λ_ _=>rfl,kH.refl _ _⟩,vl,xs,HI.o.box,?_,?_,HI.o.new,HI.o.step,HI.o.jrn⟩
   ·rw[←hpi,iX];exact HI.o.row
   ·rw[←hpi,iX];exact HI.o.rows
  ·have hs:=hφ id
   rw[decide_eq_false adQ] at hs;have hn:φ id=none:=by
    rcases h:φ id with _|v
    ·rfl
    ·rw[h] at hs;cases hs
   rw[hn] at yh;rw[if_neg adQ] at iX;obtain⟨av,cv,rfl,BM⟩:=aR hI.row;have k4:=hI.box.cell 0;simp only[zf] at k4;have HI:=U hI;have as4:=U U4;rw[hpi];clear hI hMV hz hs hn k4;gi_wp2_with fail;refine⟨trivial,(CallsIn.inRound l0 (callsIn_wide.2 (adI HI.o.jrn as4.o))).mono ?_⟩;rintro e V3 ⟨⟨a3,c3,rfl,dO⟩,pV,jd⟩;have FX:∀k,Fd k→k<w.heap.size:=λk hk=>MF k (HA.o.own.2.2.2.2.2.2 k hk);have oU:=HI.o.box.step jd (λh=>by have:=FX _ h;omega);have k4:=oU.cell 0;have f4:=oU.free 0;simp only[zf] at k4;have pU:=U dO;have Zk:=U pV;have sU:=U jd;have lS:=U oU;clear dO pV jd oU;have gD:((pre.map Prod.fst).filter (λid=> !decide (id∈l))).length≤1000:=by
    obtain⟨q,hq⟩:=nP;have h1:=congrArg List.length hq;have h2:(jq g s.tail s.P (List.range c)).length≤c:=by
     unfold jq;exact zC (List.length_filterMap_le _ _) sQ
    have h3:=List.length_filter_le (λid=> !decide (id∈l)) (pre.map Prod.fst);simp at h1;simp only[zD] at h3;omega
   obtain⟨gq,cap,V5,iT,ig,rH,Em⟩:=jk rT 126 V3 (aC sU.o HI.o.row (λb hb h=>by have:=HI.o.new b hb;have:=FX _ h;omega)) [.int .i64 id,.slice a3 480 c3] rfl (by simp[Value.oneCell']) oQ oQ 176
   have uN:Step (λk=>(Value.slice av ((pre.map Prod.fst).filter (λid=> !decide (id∈l))).length cv).ownBlock=some k) V3 (λk=>(Value.slice av ((pre.map Prod.fst).filter (λid=> !decide (id∈l))).length cv).ownBlock=some k) V5:=Step.bU rH (λr' e=>⟨e,by
    obtain⟨Cb,lV⟩:=aN (aC sU.o HI.o.row (λb hb h=>by have:=HI.o.new b hb;have:=FX _ h;omega)) e;rintro⟨C2,fr,h2⟩;rw[lV] at h2;injection h2 with h2;injection h2 with _ h2
    first|exact absurd h2 dQ|exact(Fr.no h2 dQ).elim⟩)
   have kS:=lS.o.step uN (λh=>by have:=HI.o.new _ h;omega);have k5:=kS.cell 0;have f5:=kS.free 0;simp only[zf] at k5;have xJ:=U uN;have jR:=U kS;clear uN kS;have yu:=U ig;have Hgr:=U rH;have Qi:=U Em;have Hkp:=U iX;clear ig rH Em iX;gi_wp2_with (gi_at_builtin;refine cK (.tmp 37) (.tmp 41) iT rfl rfl rfl rfl ?_);obtain⟨V6,lT⟩:∃V6,V5.setCell ⟨w.heap.size+1+1+1+1,0,none⟩ (.slice (some ⟨gq,0,none⟩) (((pre.map Prod.fst).filter (λid=> !decide (id∈l))).length+1) cap)=V6:=⟨_,rfl⟩
   have s6:Step (· =w.heap.size+1+1+1+1) V5 (· =w.heap.size+1+1+1+1) V6:=by rw[←lT];exact Step.set1 (jR.o.aV dQ) _ _
   have b6:ah V6 (w.heap.size+1+1+1+1) 126 [.slice (some ⟨gq,0,none⟩) (((pre.map Prod.fst).filter (λid=> !decide (id∈l))).length+1) cap]:=by rw[←lT];exact jR.o.aB 0 _
   rw[lT];have mF:=sU.o.size;have BN:=xJ.o.size;have U5:=s6.size
   have xK:∀k,k<V.heap.size→¬Fd k→(Value.slice av ((pre.map Prod.fst).filter (λid=> !decide (id∈l))).length cv).ownBlock≠some k→k≠w.heap.size+1+1+1+1→V6.heap[k]? =V.heap[k]?:=λk h1 h2 h3 h4=>
    (s6.keep k oQ (.inl h4)).trans ((xJ.o.keep k oQ (.inl h3)).trans (sU.o.keep k h1 (.inl h2)))
   have hown:∀k,(Value.slice av ((pre.map Prod.fst).filter (λid=> !decide (id∈l))).length cv).ownBlock=some k→w1.heap.size≤k∧∃Cb,V.heap[k]? =some (.cells Cb 176 (0,0)):=λk hk=>⟨HI.o.new k hk,aN HI.o.row hk⟩
   obtain⟨p1,p2,p3,p4,p5,p6⟩:=HA.o.apart;have hVz:=HI.o.step.size;have Uh:w1.heap.size≤gq:=by
    rcases Qi.o with h|h
    ·exact(hown _ h).1
    ·omega
   refine⟨⟨oQ,λk o hk h0 kR=>(xK k (zo.1 h0).1 (λh=>by have:=FX k h;omega) (λh=>?_) oQ).trans h0⟩,⟨λb hb=>?_,oQ,λk h1 h2 h3=>xK k h2 (λh=>by have:=FX k h;omega) (λh=>?_) oQ⟩,_,xs++[.int .i64 id,.slice a3 480 c3],b6,?_,?_,?_,?_,?_⟩
   ·obtain⟨_,Cb,lV⟩:=hown k h
    rw[lV] at h0;injection h0 with h0;subst h0;cases kR
   ·have iA:=BL b hb
    refine xK b oQ ?_ (λh=>by have:=(hown b h).1;omega) ?_
    ·simp only[zH,zO,or_false] at hb
     rcases hb with rfl|rfl|rfl|rfl|rfl|rfl|rfl|rfl
     ·exact p1
     ·exact p2
     ·exact p3
     ·exact p4
     ·exact p5
     ·exact p6
     ·exact λh=>by have:=FX _ h;omega
     ·exact λh=>by have:=FX _ h;omega
    ·simp only[zH,zO,or_false] at hb
     have q:∀k,F k→k≠w.heap.size+1+1+1+1:=λk hk=>by have:=MF k hk;omega
     obtain⟨o1,o2,o3,o4,o5,o6,_⟩:=HA.o.own;rcases hb with rfl|rfl|rfl|rfl|rfl|rfl|rfl|rfl
     ·exact q _ o1
     ·exact q _ o2
     ·exact q _ o3
     ·exact q _ o4
     ·exact q _ o5
     ·exact q _ o6
     ·omega
     ·omega
   ·obtain⟨_,Cb,lV⟩:=hown k h
    exact h3 ⟨Cb,_,lV⟩
   ·rw[←hpi,Hkp.o,zw,zY]
    refine aC s6 yu.o (λb hb=>?_);have:b=gq:=by simpa[Value.ownBlock] using hb.symm
    omega
   ·rw[←hpi,Hkp.o]
    refine rR.snoc (((HI.o.rows.step sU.o).step xJ.o).step s6) ?_ ((pU.o.step xJ.o).step s6);have:=HI.o.row.1;omega
   ·intro b hb
    have:b=gq:=by simpa[Value.ownBlock] using hb.symm
    omega
   ·exact((HI.o.step.inner sU.o (λk hk=>.inl (.inl (HA.o.own.2.2.2.2.2.2 k hk)))).inner xJ.o (λk hk=>.inr (hown k hk).1)).inner s6 (λk hk=>.inl (.inr hk))
   ·exact(Zk.o.step xJ.o (λk hk h=>by have:=(hown k h).1;have:=MF k hk;omega)).step s6 (λk hk h=>by have:=MF k hk;omega)
 case done=>
  rintro D V hD ⟨vl,xs,hI⟩ lI;subst dw;have e2:ah V (w.heap.size+1+1) 126 [.slice none 0 0]:=V2.o.step hI.step (by rintro(h|h);have:=MF _ h;omega;omega);have e3:ah V (w.heap.size+1+1+1) 26 [.int .i64 0]:=V3.o.step hI.step (by rintro(h|h);have:=MF _ h;omega;omega);have aZ:=hI.row;have MP:=hI.rows;rw[amo.o] at aZ MP;obtain⟨av,cv,rfl,BM⟩:=aR aZ;have k4:=hI.box.cell 0;have k2:=e2.cell 0;have k3:=e3.cell 0;have f2:=e2.free 0;have f3:=e3.free 0;simp only[zf] at k4 k2 k3;gi_wp2;have s1:Step (λk=>k=w.heap.size+1+1∨k=w.heap.size+1+1+1) V (λk=>k=w.heap.size+1+1∨k=w.heap.size+1+1+1) (V.setCell ⟨w.heap.size+1+1,0,none⟩ (.slice av (gB l c s.Q).length cv)):=Step.setCell (.inl rfl) (e2.aV dQ) _ _;have e3b:ah (V.setCell ⟨w.heap.size+1+1,0,none⟩ (.slice av (gB l c s.Q).length cv)) (w.heap.size+1+1+1) 26 [.int .i64 0]:=(zI _ _ _ _ (by show w.heap.size+1+1+1≠w.heap.size+1+1;omega)).trans e3;obtain⟨Ve,hVe⟩:∃Ve,(V.setCell ⟨w.heap.size+1+1,0,none⟩ (.slice av (gB l c s.Q).length cv)).setCell ⟨w.heap.size+1+1+1,0,none⟩ (.int .i64 0)=Ve:=⟨_,rfl⟩
  have s2:Step (λk=>k=w.heap.size+1+1∨k=w.heap.size+1+1+1) V (λk=>k=w.heap.size+1+1∨k=w.heap.size+1+1+1) Ve:=by rw[←hVe];exact s1.trans (Step.setCell (.inr rfl) (e3b.aV dQ) _ _)
  have q3:ah Ve (w.heap.size+1+1+1) 26 [.int .i64 0]:=by rw[←hVe];exact e3b.aB 0 _
  have q2:ah Ve (w.heap.size+1+1) 126 [.slice av (gB l c s.Q).length cv]:=by
   rw[←hVe];exact(zI _ _ _ _ (by show w.heap.size+1+1≠w.heap.size+1+1+1;omega)).trans (e2.aB 0 _)
  have hKe:Ve.heap[D]? =some (.deferred (some [])):=(s2.keep D (zo.1 lI).1 (.inl oQ)).trans lI;have fJ:=hI.new;have af6:=aC s2 aZ (λb hb=>by have:=fJ b hb;omega);have hj2:=hI.jrn.step s2 (λk hk=>by have:=MF k hk;omega);have g1:=cell_kept (q2.cell 0) (grownBy_putObj' _ D (.deferred none)) (λr e=>by cases e;exact⟨_,hKe,rfl⟩);have g2:=cell_kept (q3.cell 0) (grownBy_putObj' _ D (.deferred none)) (λr e=>by cases e;exact⟨_,hKe,rfl⟩);have s3:Step (NC w1.heap.size Ve) Ve (NC w1.heap.size Ve) (Ve.putObj D (.deferred none)):=Step.bU (grownBy_putObj' Ve D _) (λr' e=>by cases e;exact⟨⟨hD,_,hKe,rfl⟩,NC.aV (B:=0) ⟨ql _,_,hKe,rfl⟩⟩)
  have amq:=aC s3 af6 (λb hb=>by
   obtain⟨Cb,lV⟩:=aN af6 hb;rintro⟨_,o,ho,kR⟩;rw[lV] at ho;injection ho with ho;subst ho;cases kR)
  have ahO:=(MP.step s2).step s3;have hj3:=hj2.step s3 (λk hk hn=>by have h1:=MF k hk;have h2:=hn.1;omega);have bT:Step F w F (Ve.putObj D (.deferred none)):=by
   have t1:Step F w F w1:=(Step.of_below jD.o F)
   have t2:=t1.inner hI.step (λk hk=>by rcases hk with hk|hk;exact .inl hk;right;omega);exact(t2.inner s2 (λk hk=>by right;omega)).inner s3 (λk hk=>by right;have:=hk.1;omega)
  rw[hVe];refine⟨sQ,.inl ⟨_,_,rfl,run_takeDeferred hKe,?_⟩⟩;refine⟨.tuple #[.slice av (gB l c s.Q).length cv,.int .i64 0],?_,⟨av,cv,rfl,?_⟩,⟨_,_,_,_,_,_,_,_,hj3⟩,bT⟩
  ·simp[results,Tryz.f124,go_sem,g1,g2]
  ·rcases BM with⟨rfl,h0⟩|⟨b,rfl,hb⟩
   ·exact .inl (zX h0)
   ·exact .inr ⟨b,rfl,by have:=fJ b hb;omega,Qg amq hb ahO rfl (λid=>HA.o.ok.len id)⟩
end
end
section
open Go.RowKit
def JS.one (s:JS) (all:List (Nat×Bytes)) (k:Nat) (e:Nat×Bytes):Nat×Bytes:=(s.pl (s.Q.length+k)+1,encS (some {epoch:=s.epoch,start:=s.start,seq:=s.seq+1,index:=k,count:=all.length,id:=e.1,data:=e.2}))
theorem Qj {s:JS} {all:List (Nat×Bytes)} {n:Nat} {st:Nat→Bytes} {wt:Wt} (ht:s.tail<s.P) (hr:s.Q.length+all.length≤s.P) (hv:∀p,p<s.P→view st wt (p+1)=encS (s.write all n p)) {e:Nat×Bytes} (he:all[n]? =some e):
  ∀p,p<s.P→view st (wt++[s.one all n e]) (p+1)=encS (s.write all (n+1) p):=by
 intro p hp;rw[JS.one,mE];have nL:=(zL.1 he).1;by_cases YH:p=s.pl (s.Q.length+n)
 ·subst YH
  rw[if_pos rfl,JS.Ic ht hr he (Nat.lt_succ_self n)]
 ·rw[if_neg oQ,hv p hp]
  congr 1;unfold JS.write;rcases hk:all[far s.P s.head p]? with _|e'
  ·rfl
  ·dsimp only
   by_cases h1:far s.P s.head p<n
   ·rw[if_pos h1,if_pos oQ]
   ·rw[if_neg h1,if_neg (λh2=>?_)]
    have h3:far s.P s.head p=n:=oQ
    have hh:s.head<s.P:=dz ht (by unfold JS.used;omega);have h4:=JI hh hp;rw[h3] at h4;exact YH (h4.symm.trans (g_ ht (by unfold JS.used;omega)))
theorem Qk (s:JS) (all:List (Nat×Bytes)) (p:Nat):s.write all 0 p=s.sec p:=JS.wG (.inr (ql _))
end
section
open Go.RowKit Go.Shelf O
attribute [local go_sem] Oper.semAt_some
structure m_ (w:World) (j P B:Nat) (vals:List Value) (sec:Nat→Option tQ) (st:Nat→Bytes) (wt:Wt) (F:Nat→Prop) (d r rb t pb ob:Nat) (Fd:Nat→Prop) (f g:Nat→Option Nat):Prop where
 cells:ah w j 198 vals
 dev:Dev w d (P+1) st wt false Fd
 ring:RingAt w r rb P (sK P)
 tab:TabAt w t pb ob B P f g
 secs:∀p,p<P→view st wt (p+1)=encS (sec p)
 sup:view st wt 0=eG B P
 len:∀k,(st k).length=512
 X8:∀e∈wt,e.1<P+1∧e.2.length=512
 Ct:Geo B P
 own:F j∧F r∧F rb∧F t∧F pb∧F ob∧∀k,Fd k→F k
 apart:¬Fd j∧¬Fd r∧¬Fd rb∧¬Fd t∧¬Fd pb∧¬Fd ob
 two:rb≠pb∧rb≠ob
 lt:∀k,F k→k<w.heap.size
section
variable {w w':World} {j P B:Nat} {vals:List Value} {sec:Nat→Option tQ} {st:Nat→Bytes} {wt:Wt} {F:Nat→Prop} {d r rb t pb ob:Nat} {Fd:Nat→Prop} {f g:Nat→Option Nat}
theorem m_.step {G G':Nat→Prop} (hs:Step G w G' w') (h:m_ w j P B vals sec st wt F d r rb t pb ob Fd f g) (hn:∀k,F k→¬G k):m_ w' j P B vals sec st wt F d r rb t pb ob Fd f g:=by
 obtain⟨o1,o2,o3,o4,o5,o6,o7⟩:=h.own;exact⟨h.cells.step hs (hn _ o1),h.dev.step hs (λk hk=>hn _ (o7 k hk)),h.ring.step hs (hn _ o2) (hn _ o3),h.tab.step hs (hn _ o4) (hn _ o5) (hn _ o6),h.secs,h.sup,h.len,h.X8,h.Ct,h.own,h.apart,h.two,λk hk=>zx (h.lt k hk) hs.size⟩
theorem m_.below (hs:Below w.heap.size w w') (h:m_ w j P B vals sec st wt F d r rb t pb ob Fd f g):m_ w' j P B vals sec st wt F d r rb t pb ob Fd f g:=h.step (Step.of_below hs (λ_=>False)) (λ_ _ h=>h)
theorem Ga.raw {s:JS} {C:Nat→Bytes} (h:Ga w j s C st wt F d r rb t pb ob Fd f g):m_ w j s.P s.B (nQ d r t s) s.sec st wt F d r rb t pb ob Fd f g:=
 ⟨h.cells,h.dev,h.ring,h.tab,h.secs,h.sup,h.len,h.X8.2,h.Ct,h.own,h.apart,h.two,h.lt⟩
theorem m_.wrote (h:m_ w j P B vals sec st wt F d r rb t pb ob Fd f g) {MK:Nat→Prop} {p:Nat} {l:Bytes} (hd:Dev w' d (P+1) st (wt++[(p+1,l)]) false MK) (hs:Step Fd w MK w') (hp:p<P) (hl:l.length=512) {amr:Nat→Option tQ}
  (hv:∀q,q<P→view st (wt++[(p+1,l)]) (q+1)=encS (amr q)):m_ w' j P B vals amr st (wt++[(p+1,l)]) (λk=>F k∨MK k) d r rb t pb ob MK f g∧Step F w (λk=>F k∨MK k) w':=by
 obtain⟨o1,o2,o3,o4,o5,o6,o7⟩:=h.own;obtain⟨a1,a2,a3,a4,a5,a6⟩:=h.apart;have hn:∀b,F b→¬Fd b→¬MK b:=λb hF hb=>hs.apart (h.lt b hF) hb;have bA:∀k,MK k→k<w'.heap.size:=by
  obtain⟨sb,ss,vw,xs,tb,cr,cw,cf,hd⟩:=hd;exact hd.lt
 refine⟨⟨h.cells.step hs a1,hd,h.ring.step hs a2 a3,h.tab.step hs a4 a5 a6,hv,?_,h.len,λe he=>?_,h.Ct,⟨.inl o1,.inl o2,.inl o3,.inl o4,.inl o5,.inl o6,λk hk=>.inr hk⟩,⟨hn _ o1 a1,hn _ o2 a2,hn _ o3 a3,hn _ o4 a4,hn _ o5 a5,hn _ o6 a6⟩,h.two,?_⟩,hs.more o7 (λk hk=>?_)⟩
 ·rw[mE,if_neg oQ]
  exact h.sup
 ·rcases qg.1 he with he|he
  ·exact h.X8 e he
  ·rw[zV.1 he]
   exact⟨by show p+1<P+1;omega,hl⟩
 ·rintro k (hk|hk)
  ·exact zx (h.lt k hk) hs.size
  ·exact bA k hk
 ·rcases hk with hk|hk
  ·exact .inl hk
  ·rcases hs.new k hk with h1|h1
   ·exact .inl (o7 k h1)
   ·exact .inr h1
end
theorem encode_at (e s q f i c d:Nat) (he:e<4294967296) (h:right e s q f i c d=true) (l:List UInt8) (hl:l.length=480) (w:World) (a:Option Addr) (cc:Nat) (hb:ay w a l) (qI:Int) (hq:qI=q):
  Calls Tryz.prog 199 #[.agg #[.int .u32 e,.int .u64 s,.int .u64 qI,.int .u64 f,.int .i64 i,.int .i64 c,.int .i64 d],.slice a 480 cc] w λx w'=>∃g,x=.returned (.tuple #[.slice (some ⟨g,0,none⟩) 512 512,.int .i64 0])∧cZ w' (some ⟨g,0,none⟩) (head e s q f i c d++l)∧Below w.heap.size w w':=by
 subst hq;refine(Eb e s q f i c d he h l hl w a cc hb).mono ?_;rintro x w' ⟨g,rfl,_,hV,hB⟩;exact⟨g,rfl,hV.pR,hB⟩
section
variable {w:World} {j:Nat} {s:JS} {st:Nat→Bytes} {F:Nat→Prop} {d r rb t pb ob:Nat} {Fd:Nat→Prop} {f g:Nat→Option Nat}
theorem Ql (h:m_ w j s.P s.B (nQ d r t s) s.sec st [] F d r rb t pb ob Fd f g) {b n c:Nat} {all:Wl} (hw:BK w b all) (lJ:¬F b) (hl:all.length=n) (h72:n≤72) (El:∀e∈all,e.1<s.B) (ht:s.tail<s.P) (hr:s.Q.length+n≤s.P)
  (nN:s.seq<iQ) (bT:1≤s.start∧s.start≤s.seq+1) (hep:1≤s.epoch∧s.epoch<4294967296):
  Calls Tryz.prog 127 #[.pointer (some ⟨j,0,none⟩),.slice (some ⟨b,0,none⟩) n c] w λe w'=>e=.returned (.int .i64 0)∧∃F' MK wt,wt.length=n∧m_ w' j s.P s.B (nQ d r t s) (s.write all n) st wt F' d r rb t pb ob MK f g∧Step F w F' w':=by
 have hB:=h.Ct.b.2;have hP:=h.ring.few;have En:s.head<s.P:=dz ht (by unfold JS.used;omega);unfold iQ at nN;have H:=U h;have HL:=U hl;have HW:=U hw;clear h hl hw;go_enter Tryz.func127,Tryz.ntmps127;go_wp2_with fail;go_loopw [12] (λv wr=>∃(k:Nat) (F' MK:Nat→Prop) (wt:Wt),k≤n∧v=.int .i64 k∧wt.length=k∧m_ wr j s.P s.B (nQ d r t s) (s.write all k) st wt F' d r rb t pb ob MK f g∧Step F w F' wr) (λv _=>n - (intOf v).toNat)
 case atStart=>exact⟨0,F,Fd,[],oQ,rfl,rfl,by rw[show s.write all 0=s.sec from funext (Qk s all)];exact H.o,Step.refl _ _⟩
 case round=>
  obtain⟨k,F',MK,wt,hk,rfl,Lx,hJ,hS⟩:=hrel;by_cases mW:k<n
  ·have fF:k<all.length:=by have:=HL.o;omega
   obtain⟨e1,a1,Pn,e2,e3,e4⟩:=(HW.o.step hS lJ).get k fF;have Eh:all[k].1<s.B:=El _ (qm fF);obtain⟨id,oH⟩:∃id,all[k].1=id:=⟨_,rfl⟩
   obtain⟨l,hlq⟩:∃l,all[k].2=l:=⟨_,rfl⟩
   have hel:all[k]? =some (id,l):=by rw[zu fF,←oH,←hlq]
   rw[oH] at e1 Eh;rw[hlq] at e3 e4;have HJ:=U hJ;have HS:=U hS;have Hel:=U hel;have E3:=U e3;have E4:=U e4;have Hwl:=U Lx;clear hJ hS oH hlq hel e3 e4 Lx;have fB:(s.head+k)%s.P=s.pl (s.Q.length+k):=by
    rw[uJ En oQ];exact g_ ht (by unfold JS.used;omega)
   have Eo:s.pl (s.Q.length+k)<s.P:=dz ht oQ;obtain⟨p,hp⟩:∃p,s.pl (s.Q.length+k)=p:=⟨_,rfl⟩
   have as7:Hid (s.one all k (id,l)=(p+1,head s.epoch s.start (s.seq+1) s.seq k n id++l)):=U (by rw[JS.one,hp,HL.o];rfl);rw[hp] at fB Eo;have X9:((s.head:Int)+(k:Int))%(s.P:Int)=(p:Int):=by rw[←fB];simp
   have UW:(p:Int)+1=((p+1:Nat):Int):=oQ
   have Zq:right s.epoch s.start (s.seq+1) s.seq k n id=true:=by
    unfold right;rw[decide_eq_true_eq];omega
   have Hpm:=U X9;have Hpc:=U UW;have ahP:=U Zq;have Hp:=U hp;clear X9 UW Zq fB hp;obtain⟨wb,vI⟩:∃wb,wr.alloc (.cells #[.int .i64 id,.slice a1 480 Pn] 176)=wb:=⟨_,rfl⟩
   have vJ:Below wr.heap.size wr wb:=by rw[←vI];exact(zn _ _).alloc (zm _) _
   have Zr:wb.heap.size=wr.heap.size+1:=by rw[←vI];simp
   have Gs:wb.cell? ⟨wr.heap.size,0,none⟩=some (.int .i64 id):=by rw[←vI];exact(ah.new wr 176 [.int .i64 id,.slice a1 480 Pn]).cell 0
   have hc1:wb.cell? ⟨wr.heap.size,1,none⟩=some (.slice a1 480 Pn):=by rw[←vI];exact(ah.new wr 176 [.int .i64 id,.slice a1 480 Pn]).cell 1
   have HJb:=U (HJ.o.below vJ)
   have hjc:∀W,Below wb.heap.size wb W→W.cell? ⟨j,4,none⟩=some (.int .u32 s.epoch)∧W.cell? ⟨j,5,none⟩=some (.int .u64 s.start)∧W.cell? ⟨j,6,none⟩=some (.int .u64 s.seq)∧W.cell? ⟨wr.heap.size,0,none⟩=some (.int .i64 id):=λW hW=>
    ⟨((HJb.o.below hW).cells.cell 4),((HJb.o.below hW).cells.cell 5),((HJb.o.below hW).cells.cell 6),(hW.cell (p:=⟨wr.heap.size,0,none⟩) (by show wr.heap.size<_;omega)).trans Gs⟩
   have Hjc:=U hjc;have Qf:=U vJ;have Hzb:=U Zr;have bA:wr.heap.size<wb.heap.size:=oQ
   clear hjc vJ Gs Zr;go_wp2_with fail;refine wp_region_noPanic ?_;refine ak (S:=(λW=>W.cell? ⟨j,4,none⟩=some (.int .u32 s.epoch)∧W.cell? ⟨j,5,none⟩=some (.int .u64 s.start)∧W.cell? ⟨j,6,none⟩=some (.int .u64 s.seq)∧W.cell? ⟨wr.heap.size,0,none⟩=some (.int .i64 id))) (m:=24) kQ (Hjc.o _ (zn _ _).drew) (λaj=>?_);refine te 0 aj ?_;refine te 1 aj ?_;refine te 2 aj ?_;refine te 3 aj ?_;refine te 4 aj ?_;refine te 5 aj ?_;refine te 6 aj ?_;refine te 7 aj ?_;refine te 8 aj ?_;refine te 9 aj ?_;refine te 10 aj ?_;refine te 11 aj ?_;refine te 12 aj ?_;refine te 13 aj ?_;refine te 14 aj ?_;refine te 15 aj ?_;refine te 16 aj ?_;refine te 17 aj ?_;refine te 18 aj ?_;refine te 19 aj ?_;refine te 20 aj ?_;refine te 21 aj ?_;refine te 22 aj ?_;refine rE 23 λK hK=>?_;go_simp;refine hK.out _ _ (λ_=>(Hjc.o _ ((zn _ _).drew.alloc sQ _))) (λhS=>?_);have bQ:=hS dQ;clear hS hK K
   try simp only[Act.put,zh,zk,zl]
   refine rE 24 λK hK=>?_;go_simp;refine kX hK ?_;clear hK K
   try simp only[Act.put,zh,zk,zl]
   refine aD ?_;go_wp2_with fail;obtain⟨wc,hwc⟩:∃wc,(wb.alloc (.cells #[.int .u32 s.epoch,.int .u64 s.start,.int .u64 ((s.seq:Int)+1),.int .u64 s.seq,.int .i64 k,.int .i64 n,.int .i64 id] 241)).drew=wc:=⟨_,rfl⟩
   have XZ:Below wr.heap.size wr wc:=by rw[←hwc];exact Qf.o.trans (((zn _ _).alloc (zm _) _).drew.mono Qf.o.size)
   rw[hwc];refine(encode_at s.epoch s.start (s.seq+1) s.seq k n id hep.2 ahP.o l E3.o wc a1 Pn (E4.o.below XZ).is ((s.seq:Int)+1) oQ).mono ?_;rintro e wd ⟨ge,rfl,dO,hBd⟩;have HBd:=U (XZ.trans (hBd.mono XZ.size));have HJd:=U (HJ.o.below HBd.o);have pU:=U dO
   have hjd:∀W,Below wd.heap.size wd W→W.cell? ⟨j,0,none⟩=some (.pointer (some ⟨d,0,none⟩))∧W.cell? ⟨j,1,none⟩=some (.pointer (some ⟨r,0,none⟩))∧W.cell? ⟨j,7,none⟩=some (.int .i64 s.head):=λW hW=>
    ⟨((HJd.o.below hW).cells.cell 0),((HJd.o.below hW).cells.cell 1),((HJd.o.below hW).cells.cell 7)⟩
   have Hjd:=U hjd;clear hwc XZ dO hBd hjd hc1 vI;go_wp2_with fail;have HL5:Hid ((head s.epoch s.start (s.seq+1) s.seq k n id++l).length=512):=U (by rw[zw,jm,E3.o])
   have amu:Hid (∀q,q<s.P→view st (wt++[(p+1,head s.epoch s.start (s.seq+1) s.seq k n id++l)]) (q+1)=encS (s.write all (k+1) q)):=U (by
    have h1:=Qj ht (by rw[HL.o];exact hr) HJ.o.secs Hel.o;rw[as7.o] at h1;exact h1)
   have tJ:=Hwl.o;have tJ:wt.length<1000000:=oQ
   have X_:IntKind.i64.wrap ((s.head:Int)+(k:Int))=(s.head:Int)+(k:Int):=by rw[zG];omega
   refine wp_region_noPanic ?_;refine ak (S:=(λW=>W.cell? ⟨j,0,none⟩=some (.pointer (some ⟨d,0,none⟩))∧W.cell? ⟨j,1,none⟩=some (.pointer (some ⟨r,0,none⟩))∧W.cell? ⟨j,7,none⟩=some (.int .i64 s.head))) (m:=18) kQ (Hjd.o _ (zn _ _).drew) (λaj=>?_);refine te 0 aj ?_;refine te 1 aj ?_;refine te 2 aj ?_;refine te 3 aj ?_;refine te 4 aj ?_;refine te 5 aj ?_;refine te 6 aj ?_;refine te 7 aj ?_;refine te 8 aj ?_;refine te 9 aj ?_;refine te 10 aj ?_;refine te 11 aj ?_;refine te 12 aj ?_;refine te 13 aj ?_;refine te 15 aj ?_;refine rE 14 λK hK=>?_;go_simp;with_reducible refine(SK (HJd.o.below (zn _ _).drew).ring _ oQ p Hpm.o _ (IJ Eo)).mono ?_
   rintro e w2 ⟨rfl,rfl⟩;go_wp2_with fail;refine hK.out _ _ (λ_=>(Hjd.o _ (zn _ _).drew.drew)) (λhS=>?_);have bQ:=hS dQ;clear hS hK K
   try simp only[Act.put,zh,zk,zl]
   refine rE 16 λK hK=>?_;go_simp;rw[Hpc.o];have ahQ:=HJd.o.below ((zn wd.heap.size wd).drew.drew);with_reducible refine(Ii ahQ.dev tJ (p+1) oQ HL5.o (pU.o.below ((zn _ _).drew.drew))).mono ?_
   rintro e w3 ⟨rfl,Fd2,j_,bT⟩;obtain⟨pV,jd⟩:=ahQ.wrote j_ bT Eo HL5.o amu.o;have Zk:=U pV;have sU:=U ((((HS.o.trans (Step.of_below HBd.o F')).trans (Step.drew F' _)).trans (Step.drew F' _)).trans jd);clear bT j_ jd ahQ;go_wp2_with fail;refine hK.out _ _ (λ_=>⟨pV.cells.cell 0,pV.cells.cell 1,pV.cells.cell 7⟩) (λhS=>?_);have bV:=hS dQ;clear hS hK K
   try simp only[Act.put,zh,zk,zl]
   refine te 17 bV ?_;refine aD ?_;go_wp2_with fail;refine⟨⟨k+1,_,Fd2,_,oQ,by go_num,?_,Zk.o,sU.o⟩,by simp[intOf];omega⟩;rw[zw,Hwl.o];rfl
  ·obtain rfl:k=n:=oQ
   go_wp2_with fail;go_ret;exact⟨rfl,F',MK,wt,Lx,hJ,hS⟩
end
end
end Go.Proofs.YtdjdpeadohobmaaGreatDoor
