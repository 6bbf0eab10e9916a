/- A part of the walk below the law: what is proved here is used by later parts; no further condition. -/
import Derived.Test.YtdjdpeadohobmaaGreatDoorK17
import Derived.Test.YtdjdpeadohobmaaGreatDoorK18
set_option linter.unusedVariables false
set_option linter.unusedSimpArgs false
set_option maxRecDepth 100000
set_option maxHeartbeats 20000000
namespace Go.Proofs.YtdjdpeadohobmaaGreatDoor
section
open Go.RowKit Go.Shelf Go.Maps O
attribute [local go_sem] Oper.semAt_some
def umD:Option Value→DataW Value
 |none=>.map []
 |some v=>M6 1 v
def UM (w:World) (mb:Nat) (o:Option Value):Prop:=w.ownsMap Tryz.prog 115 fG mb 1 (umD o)
theorem key1:keyOf Tryz.prog 115 (.int .u32 1)=some (.int .u32 1):=keyOf_int_mk Tryz.underlying115 (amE 1 oQ)
structure TrI (w:World) (mb bS lb:Nat) (mx:Int) (pre:List Nat) (V:World) (o:Option Value) (x:Int):Prop where
 map:UM V mb o
 box:ah V bS 313 [.map (some mb)]
 least:ah V lb 116 [.int .u64 x]
 what:(pre=[]∧o=some (.int .u64 1)∧x=mx)∨(pre≠[]∧o=some (.int .u64 mx))
 below:Below w.heap.size w V
theorem UM.new (w:World):UM (w.alloc (.map #[] 0)) w.heap.size none:=by
 obtain⟨es,clock,h1,h2,h3,h4⟩:=World.ownsMap_made (P:=Tryz.prog) (k:=115) (R:=fG) w;exact⟨es,clock,h1,h2,oQ,h4⟩
section
variable {w:World} {mb:Nat} {o:Option Value}
theorem UM.lt (h:UM w mb o):mb<w.heap.size:=World.ownsMap.lt h
theorem UM.look_ok (h:UM w mb o):(Instr.lookup 313 (.map (some mb)) (.int .u32 1) true).run Tryz.prog w=.ok (.tuple #[o.getD (.int .u64 0),.bool o.isSome]) w:=by
 obtain⟨v,ps,hr,hv⟩:=World.ownsMap.look_ok h yA Tryz.underlying313 (show(zeroValue 116).run Tryz.prog w=.ok (.int .u64 0) w by kernel_rfl) (show fG (.int .u64 0)=some (.held (.int .u64 0),[]) from rfl) key1;rw[hr];rcases o with _|u
 ·have:v=.int .u64 0:=by
   simp only[umD,DataW.atKey,fG,List.find?_nil] at hv;injection hv with hv;injection hv with hv _;injection hv
  rw[this];rfl
 ·have:v=u:=by
   simp[umD,M6,DataW.atKey,fG,Lit.sameKey] at hv;exact hv.1
  rw[this];rfl
theorem UM.store (h:UM w mb o) (v:Value):∃w',(Instr.mapUpdate 313 (.map (some mb)) (.int .u32 1) v).run Tryz.prog w=.ok () w'∧UM w' mb (some v)∧w.mapTurned w' mb:=by
 obtain⟨w',hr,ho,ht⟩:=World.ownsMap.store h yA Tryz.underlying313 (by unfold maxLen;omega) key1 (show fG v=some (.held v,[]) from rfl);refine⟨w',hr,?_,ht⟩;have hD:(umD o).put (.int .u32 1) (.held v)=umD (some v):=by
  rcases o with _|u
  ·rfl
  ·simp[umD,M6,DataW.put,Lit.sameKey,DataW.insert]
 rw[hD] at ho;have:=rP ho;exact this
theorem UM.look {u:Value} (h:UM w mb (some u)):(Instr.lookup 313 (.map (some mb)) (.int .u32 1) false).run Tryz.prog w=.ok u w:=by
 obtain⟨es,clock,hb,F,hs,hD⟩:=h;have hz:(zeroValue 116).run Tryz.prog w=.ok (.int .u64 0) w:=kQ
 have hu:∀zd,(umD (some u)).atKey (.int .u32 1) zd=.held u:=λzd=>by simp[umD,M6,DataW.atKey,Lit.sameKey]
 rcases Maps.fit_look false yA Tryz.underlying313 hz hb F key1 with⟨hrun,_,dw⟩|⟨e0,y,_,_,hrun,hR,dw,_⟩
 ·have h1:=dw .nil
  rw[←hD,hu] at h1;cases h1
 ·have h1:=dw .nil
  rw[←hD,hu] at h1;unfold fG at hR;injection hR with hR;rw[←hR] at h1;injection h1 with h1;rw[h1];exact hrun
theorem UM.block {w':World} (h:UM w mb o) (e:w'.heap[mb]? =w.heap[mb]?):UM w' mb o:=by
 obtain⟨es,clock,hb,r⟩:=h;exact⟨es,clock,e.trans hb,r⟩
theorem UM.aV (h:UM w mb o):¬B8 w mb:=by
 obtain⟨es,clock,hb,r⟩:=h;rintro⟨C,fr,h2⟩;rw[hb] at h2;cases h2
theorem UM.step {G G':Nat→Prop} {w':World} (h:UM w mb o) (hs:Step G w G' w') (hn:¬G mb):UM w' mb o:=h.block (hs.keep mb h.lt (.inl hn))
theorem UM.below {w':World} (h:UM w mb o) (hs:Below w.heap.size w w'):UM w' mb o:=h.block (hs.block mb h.lt)
theorem UM.turn {w':World} (h:UM w mb o) (ht:w.mapTurned w' mb):Step (· =mb) w (· =mb) w':=Step.bU ht.grown (λr hr=>by cases hr;exact⟨rfl,h.aV⟩)
theorem UM.ne {b:Nat} {T:TypeId} {vs:List Value} (h:UM w mb o) (hv:ah w b T vs):mb≠b:=by
 obtain⟨es,clock,hb,r⟩:=h;rintro rfl;unfold ah at hv;rw[hb] at hv;cases hv
end
section
variable {w:World} {L:Fl} {v:Value}
theorem QF (hN:AA w v L) (gD:L.length≤20000) (dV:L≠[]) (iw:∀e∈L,e.2.epoch=1∧e.2.start=1∧e.2.seq≤1000000):
  Calls Tryz.prog 180 #[v] w λe w'=>∃v',e=.returned v'∧AA w' v' L∧(∀b,v'.ownBlock=some b→w.heap.size≤b)∧Below w.heap.size w w':=by
 obtain⟨a,c,rfl,ha⟩:=hN.slice;obtain⟨b,rfl,hb⟩:∃b,a=some ⟨b,0,none⟩∧(Value.slice a L.length c).ownBlock=some b:=by
  rcases ha with h|h
  ·exact absurd h dV
  ·exact h
 obtain⟨n,hn⟩:∃n,L.length=n:=⟨_,rfl⟩
 have nM:1≤n:=by
  rw[←hn];exact List.length_pos_iff.2 dV
 have HN:=U hN;have HA:=U iw;have HL:=U hn;rw[hn] at gD ⊢;clear hN iw hn hb ha;have Ph:∀w:World,(Instr.makeMap 313 none).run Tryz.prog w=.ok (.map (some w.heap.size)) (w.alloc (.map #[] 0)):=λw=>by simp[Instr.makeMap,Go.run_underlying Tryz.underlying313,Result.andThen]
 refine(callsIn_wide (n:=20)).1 ?_;refine callsIn_of_wp_marks Tryz.func180 rfl trivial ?_ rfl;simp only[Tryz.ntmps180,zQ,zA,zN,Nat.reduceAdd,Nat.reduceSub,zJ,zK,zT,zM,zB,zU];gi_wp2_with fail;have hU0:=UM.new w;have Pk:Below w.heap.size w ((w.alloc (.map #[] 0)).alloc (.cells #[.map (some w.heap.size)] 313)):=((zn _ _).alloc (zm _) _).alloc sQ _;have hU1:UM ((w.alloc (.map #[] 0)).alloc (.cells #[.map (some w.heap.size)] 313)) w.heap.size none:=hU0.below ((zn _ _).alloc (zm _) _);have Kl:ah ((w.alloc (.map #[] 0)).alloc (.cells #[.map (some w.heap.size)] 313)) (w.heap.size+1) 313 [.map (some w.heap.size)]:=ah.at sQ _ _;have HU1:=U hU1;have HV1:=U Kl;have HB0:=U Pk;clear hU0 hU1 Kl Pk;gi_loopw [18] (λv wr=>∃(k:Nat) (o:Option Value),k≤n∧v=.int .i64 k∧((k=0∧o=none)∨o=some (.int .u64 1))∧UM wr w.heap.size o∧ah wr (w.heap.size+1) 313 [.map (some w.heap.size)]∧Below w.heap.size w wr) (λv _=>n - (intOf v).toNat)
 case atStart=>exact⟨0,none,oQ,rfl,.inl ⟨rfl,rfl⟩,HU1.o,HV1.o,HB0.o⟩
 case round=>
  obtain⟨k,o,hk,rfl,jV,hU,hV,hB⟩:=hrel;by_cases mW:k<n
  ·have fF:k<L.length:=by rw[HL.o];exact mW
   obtain⟨e,he⟩:∃e,L[k]=e:=⟨_,rfl⟩
   have Gb:e∈L:=by rw[←he];exact qm fF
   have yx:=HN.o.below hB;rw[HL.o] at yx;obtain⟨c0,c1,c2,c3,c4,c5,c6,c7⟩:=yx.at8 k fF he;obtain⟨ep1,st1,_⟩:=HA.o e Gb;rw[ep1] at c0;rw[st1] at c1;obtain⟨sq,IU⟩:∃x,e.2.seq=x:=⟨_,rfl⟩
   obtain⟨sf,ZI⟩:∃x,e.2.seq - 1=x:=⟨_,rfl⟩
   obtain⟨ix,IE⟩:∃x,e.2.index=x:=⟨_,rfl⟩
   obtain⟨ct,ZG⟩:∃x,e.2.count=x:=⟨_,rfl⟩
   obtain⟨id,oH⟩:∃x,e.2.id=x:=⟨_,rfl⟩
   obtain⟨pl,fB⟩:∃x,e.1=x:=⟨_,rfl⟩
   rw[IU] at c2;rw[ZI] at c3;rw[IE] at c4;rw[ZG] at c5;rw[oH] at c6;rw[fB] at c7;have c0:wr.cell? ⟨b,k*8,none⟩=some (.int .u32 1):=c0;have c1:wr.cell? ⟨b,k*8+1,none⟩=some (.int .u64 1):=c1;obtain⟨wb,vI⟩:∃wb,wr.alloc (.cells #[.int .u32 1,.int .u64 1,.int .u64 sq,.int .u64 sf,.int .i64 ix,.int .i64 ct,.int .i64 id,.int .i64 pl] 243)=wb:=⟨_,rfl⟩
   have vJ:Below wr.heap.size wr wb:=by rw[←vI];exact(zn _ _).alloc (zm _) _
   have CV:ah wb wr.heap.size 243 [.int .u32 1,.int .u64 1,.int .u64 sq,.int .u64 sf,.int .i64 ix,.int .i64 ct,.int .i64 id,.int .i64 pl]:=by rw[←vI];exact ah.new wr _ _
   have b0:=CV.cell 0;have b1:=CV.cell 1;simp only[zf,zi] at b0 b1;have hUb:=hU.below vJ;have hVb:=hV.below vJ;have bm:=hVb.cell 0;simp only[zf] at bm;have yh:=hUb.look_ok;obtain⟨w3,bT,hU3,UZ⟩:=hUb.store (.int .u64 1);have lg:=hUb.turn UZ;have BR:=hVb.step lg (Bp (hUb.ne hVb));have Ag:=hB.trans (vJ.mono hB.size);have bf:Below w.heap.size w w3:=Ag.trans (lg.below (λk hk=>Yx hk.symm) Ag.size);have HUb:=U hUb;have HVb:=U hVb;have Ef:=U Ag;have HU3:=U hU3;have HV3:=U BR;have iB:=U bf;clear hU hV hB yx Gb he ep1 st1 IU ZI IE ZG oH fB vJ CV hUb hVb hU3 UZ lg BR Ag bf;rcases jV with⟨rfl,rfl⟩|rfl
   ·have yh:(Instr.lookup 313 (.map (some w.heap.size)) (.int .u32 1) true).run Tryz.prog wb=.ok (.tuple #[.int .u64 0,.bool false]) wb:=yh
    gi_wp2_with fail;exact⟨⟨1,_,oQ,rfl,.inr rfl,HU3.o,HV3.o,iB.o⟩,by simp[intOf];omega⟩
   ·have yh:(Instr.lookup 313 (.map (some w.heap.size)) (.int .u32 1) true).run Tryz.prog wb=.ok (.tuple #[.int .u64 1,.bool true]) wb:=yh
    gi_wp2_with fail;exact⟨⟨k+1,_,oQ,by go_num,.inr rfl,HUb.o,HVb.o,Ef.o⟩,by simp[intOf];omega⟩
  ·obtain rfl:k=n:=oQ
   have ho:o=some (.int .u64 1):=by
    rcases jV with⟨h,_⟩|h
    ·omega
    ·exact h
   subst ho;have bm:=hV.cell 0;simp only[zf] at bm;have bA:w.heap.size+1<wr.heap.size:=hV.lt;have HU:=U hU;have HV:=U hV;have HB:=U hB;clear hU hV hB jV;gi_wp2_with fail;generalize FY:(18446744073709551615:Int)=mx;have aib:1000001≤mx:=oQ
   have vL:∀(ts:Array TypeId) (t:TypeId) (W:World),(Builtin.min_ ts t #[.int .u64 mx,.int .u64 1]).run Tryz.prog W=.ok (.int .u64 1) W:=by
    intro ts t W;simp[Builtin.min_,Builtin.min2];omega
   clear FY;obtain⟨wl,Lx⟩:∃wl,wr.alloc (.cells #[.int .u64 mx] 116)=wl:=⟨_,rfl⟩
   have CW:Below wr.heap.size wr wl:=by rw[←Lx];exact(zn _ _).alloc (zm _) _
   have hLl:ah wl wr.heap.size 116 [.int .u64 mx]:=by rw[←Lx];exact ah.new wr _ _
   rw[Lx];clear Lx;refine⟨trivial,(callsIn_wide.2 (Vo wl w.heap.size)).mono ?_⟩;rintro e w4 ⟨bm4,rfl,atE,Iu,dX⟩;have lS:=U (CW.trans (dX.mono CW.size));have HL4:=U (hLl.below dX);have hU4:=HU.o.below lS.o;have Hv4:=U Iu;have HU4:=U hU4;clear CW hLl dX Iu hU4 atE;gi_wp2_with fail;refine⟨trivial,(callsIn_wide.2 (M_ w4 (x:=1) oQ Hv4.o HU4.o)).mono ?_⟩;rintro e w5 ⟨rb,rc,rfl,hcell,hrb,iJ⟩;have jR:=U (lS.o.trans (iJ.mono lS.o.size));have HL5:=U (HL4.o.below iJ);have ZM:=U hcell;have Ah:=lS.o.size;have atF:=zq w5 _ hcell;clear iJ hcell;gi_wp2_with fail;refine⟨trivial,(callsIn_wide.2 (Vp w5 (some ⟨rb,0,none⟩) 1 rc)).mono ?_⟩;rintro e w6 ⟨bk,rfl,oI,hv6,lu⟩;have sI:=U (jR.o.trans (lu.mono jR.o.size));have XV:=U (HL5.o.below lu);have HU6:=U (HU.o.below sI.o);have HV6:=U (HV.o.below sI.o);have Ko:=U ((lu.cell (p:=⟨rb,0,none⟩) atF).trans ZM.o);have Hv6:=U hv6;have aBY:=hv6.lt;have U5:=lu.size;clear lu hv6;gi_wp2_with fail;have X_:w.heap.size+1<wr.heap.size:=bA;have aBZ:w5.heap.size≤bk:=oI;have BN:w4.heap.size≤rb:=hrb;generalize dw:Act.mk _ _=a0
   refine gF (n:=20) rfl oQ (gf:=302) (lb:=#[.pointer (some ⟨bk,0,none⟩)]) (by rw[←dw];rfl) trivial (enters_of Tryz.func302 kQ rfl)
    (encs:=λx:Nat=>#[.int .i64 0,.int .u32 x]) (Kp:=bZ [bk,rb]) (L:=[1])
    (λW1 hB hz=>Vq (20 - 1) oQ bk rb rc 1 W1 (Hv6.o.below hB) ((hB.cell (p:=⟨rb,0,none⟩) (zq w6 _ Ko.o)).trans Ko.o) _ (λb hb=>hb))
    (λh1 h2=>h1.trans h2) ?hKb (λ_=>rfl)
    (λpre V=>∃o x,TrI w w.heap.size (w.heap.size+1) wr.heap.size mx pre V o x)
    ?hI ?h0 (λx a' _=>a'={tmps:=((a0.tmps.setIfInBounds 51 (.int .i64 0)).setIfInBounds 52 (.int .u32 x)).setIfInBounds 10 (.int .u32 x),defers:=[]}) ?hAx ?assign ?body ?done
   case hKb=>
    intro V o o' ho kR q hq;simp only[zH,zO,or_false] at hq;rcases hq with rfl|rfl
    ·exact World.putObj_heap_other oQ
    ·exact World.putObj_heap_other (by have:=zq w6 _ Ko.o;simp at this;omega)
   case hI=>
    refine jg ?_;rintro pre V V' ⟨o,x,hI⟩ hs;exact⟨o,x,hI.map.step hs (λh=>by have:=h.1;have:=sI.o.size;have:=HU6.o.lt;omega),hI.box.step hs (NC.Gv hI.box),hI.least.step hs (NC.Gv hI.least),hI.what,hI.below.trans (hs.below (λk hk=>by have:=hk.1;have:=sI.o.size;omega) hI.below.size)⟩
   case h0=>exact⟨_,_,HU6.o,HV6.o,XV.o,.inl ⟨rfl,rfl,rfl⟩,HB.o.trans (sI.o.mono HB.o.size)⟩
   case hAx=>exact λx a'=>ownFrom_pure _ (λ_=>a'=_)
   case assign=>
    rintro l pre x V K2 hI hK;subst dw;gi_wp2;exact hK _ _ (KeepsFrom.refl _ _) (λ_ _=>rfl) hI rfl
   case body=>
    rintro l0 pre x a' V nP ⟨o,y,hI⟩ rfl hzV;subst dw;simp only[zh,zk,zl];obtain⟨rfl,rfl⟩:pre=[]∧x=1:=by
     obtain⟨q,hq⟩:=nP;rcases pre with _|⟨p,pre⟩
     ·simp at hq
      exact⟨rfl,hq.1⟩
     ·simp at hq
    obtain⟨rfl,rfl⟩:o=some (.int .u64 1)∧y=mx:=by
     rcases hI.what with⟨_,h1,h2⟩|⟨h,_⟩
     ·exact⟨h1,h2⟩
     ·exact absurd rfl h
    have yh:(Instr.lookup 313 (.map (some w.heap.size)) (.int .u32 1) false).run Tryz.prog V=.ok (.int .u64 1) V:=hI.map.look;obtain⟨w7,bT,hU7,Kq⟩:=hI.map.store (.int .u64 y);have Na:=hI.map.turn Kq;have hV7:=hI.box.step Na (Bp (hI.map.ne hI.box));have hL7:=hI.least.step Na (Bp (hI.map.ne hI.least));have q0:=hI.box.cell 0;have q1:=hI.least.cell 0;have q2:=hL7.cell 0;have q3:=hL7.free 0;simp only[zf] at q0 q1 q2;have HI:=U hI;have HU7:=U hU7;have Kh:=U Na;have XW:=U hV7;have HL7:=U hL7;clear hI hU7 Kq Na hV7 hL7;gi_wp2_with fail;obtain⟨V8,hV8⟩:∃V8,w7.setCell ⟨wr.heap.size,0,none⟩ (.int .u64 1)=V8:=⟨_,rfl⟩
    have s8:Step (· =wr.heap.size) w7 (· =wr.heap.size) V8:=by rw[←hV8];exact Step.set1 (HL7.o.aV dQ) _ _
    have hL8:ah V8 wr.heap.size 116 [.int .u64 1]:=by rw[←hV8];exact HL7.o.aB 0 _
    rw[hV8];have ZN:=Kh.o.size;have hz8:=s8.size;have hl4:=HL4.o.lt;have hlb:=XV.o.lt;have atG:=zq w6 _ Ko.o;simp only at atG;have Po:∀q,q<V.heap.size→q≠w.heap.size→q≠wr.heap.size→V8.heap[q]? =V.heap[q]?:=λq h1 h2 h3=>(s8.keep q oQ (.inl h3)).trans (Kh.o.keep q h1 (.inl h2));refine⟨⟨oQ,λq o hq h0 _=>(Po q (zo.1 h0).1 oQ oQ).trans h0⟩,λq hq=>?_,_,_,⟨HU7.o.step s8 oQ,XW.o.step s8 oQ,hL8,.inr ⟨sQ,rfl⟩,(HI.o.below.trans (Kh.o.below (λk hk=>Yx hk.symm) oQ)).trans (s8.below (λk hk=>oQ) oQ)⟩⟩;simp only[zH,zO,or_false] at hq;rcases hq with rfl|rfl
    ·exact Po _ oQ oQ oQ
    ·exact Po _ oQ oQ oQ
   case done=>
    rintro D V hD ⟨o,y,hI⟩ lI;subst dw;obtain rfl:o=some (.int .u64 mx):=by
     rcases hI.what with⟨h,_⟩|⟨_,h⟩
     ·cases h
     ·exact h
    have HI:=U hI;have Nb:=U lI;clear hI lI;gi_wp2_with fail;gi_loopw [12,64] (λt v wr=>∃(q:Nat) (u:Value),q≤k∧v=.int .i64 q∧u=t∧AA wr u (L.take q)∧(∀b,u.ownBlock=some b→V.heap.size≤b)∧Below V.heap.size V wr) (λ_ v _=>k - (intOf v).toNat)
    case atStart=>exact⟨0,_,oQ,rfl,rfl,AA.nil _,λb hb=>by simp[Value.ownBlock] at hb,zn _ _⟩
    case round=>
     obtain⟨q,u,hq,rfl,rfl,hF,hn,hBV⟩:=hrel;have Ag:Below w.heap.size w wr:=HI.o.below.trans (hBV.mono HI.o.below.size);by_cases hqk:q<k
     ·have hql:q<L.length:=by rw[HL.o];exact hqk
      obtain⟨e,he⟩:∃e,L[q]=e:=⟨_,rfl⟩
      have Gb:e∈L:=by rw[←he];exact qm hql
      have yx:=HN.o.below Ag;rw[HL.o] at yx;obtain⟨c0,c1,c2,c3,c4,c5,c6,c7⟩:=yx.at8 q hql he;obtain⟨ep1,st1,sq1⟩:=HA.o e Gb;have wI:=uo hql he;have hlen:(L.take q).length=q:=by rw[zF];omega
      rw[ep1] at c0;replace c0:wr.cell? ⟨b,q*8,none⟩=some (.int .u32 1):=c0;obtain⟨wb,vI⟩:∃wb,wr.alloc (.cells #[.int .u32 1,.int .u64 e.2.start,.int .u64 e.2.seq,.int .u64 ((e.2.seq - 1:Nat)),.int .i64 e.2.index,.int .i64 e.2.count,.int .i64 e.2.id,.int .i64 e.1] 243)=wb:=⟨_,rfl⟩
      have vJ:Below wr.heap.size wr wb:=by rw[←vI];exact(zn _ _).alloc (zm _) _
      have CV:ah wb wr.heap.size 243 [.int .u32 1,.int .u64 e.2.start,.int .u64 e.2.seq,.int .u64 ((e.2.seq - 1:Nat)),.int .i64 e.2.index,.int .i64 e.2.count,.int .i64 e.2.id,.int .i64 e.1]:=by rw[←vI];exact ah.new wr _ _
      obtain⟨g,cap,w4',iT,hF4,amI,iI⟩:=Et 237 wb (hF.below vJ) e (by rw[hlen];omega);rw[hlen] at iT hF4;rw[←wI] at hF4;dsimp only[gU] at iT;rw[ep1,show((1:Nat):Int)=1 from rfl] at iT;have ad8:=hBV.trans (vJ.mono hBV.size);have hUb:=(HI.o.map.below hBV).below vJ;have yh:(Instr.lookup 313 (.map (some w.heap.size)) (.int .u32 1) false).run Tryz.prog wb=.ok (.int .u64 mx) wb:=hUb.look;have bm:=((HI.o.box.below hBV).below vJ).cell 0;have d0:=CV.cell 0;have d1:=CV.cell 1;have d2:=CV.cell 2;have d3:=CV.cell 3;have d4:=CV.cell 4;have d5:=CV.cell 5;have d6:=CV.cell 6;have d7:=CV.cell 7;simp only[zf,zi] at bm d0 d1 d2 d3 d4 d5 d6 d7;have hgt:decide ((e.2.seq:Int)<mx)=true:=by rw[decide_eq_true_eq];omega
      have dX:Below V.heap.size V w4':=ad8.trans (iI.below (λb hb=>hn b hb) ad8.size);have HF4:=U hF4;have lS:=U dX;have Hn:=U hn;have atJ:=U amI;have hzz:=ad8.size;clear hF hn hBV Ag yx he Gb st1 sq1 wI hlen vJ CV hF4 amI iI ad8 hUb dX ep1;gi_wp2_with (gi_at_builtin;refine cK (.tmp 77) (.tmp 79) iT rfl rfl rfl rfl ?_);refine⟨⟨q+1,_,oQ,by go_num,rfl,HF4.o,λbb QG=>?_,lS.o⟩,by simp[intOf];omega⟩;have:bb=g:=by simpa[Value.ownBlock] using QG.symm
      subst this;rcases atJ.o with h|h
      ·exact Hn.o _ h
      ·omega
     ·obtain rfl:q=k:=oQ
      rw[zy (by rw[HL.o];exact zm _)] at hF;have HF:=U hF;have Hn:=U hn;have HBV:=U hBV;clear hF hn hBV;gi_wp2_with fail;have hKe:wr.heap[D]? =some (.deferred (some [])):=(HBV.o.block D (zo.1 Nb.o).1).trans Nb.o;have s3:Step (NC w6.heap.size wr) wr (NC w6.heap.size wr) (wr.putObj D (.deferred none)):=Step.bU (grownBy_putObj' wr D _) (λr' e=>by cases e;exact⟨⟨hD,_,hKe,rfl⟩,NC.aV (B:=0) ⟨ql _,_,hKe,rfl⟩⟩)
      have LC:=HF.o.step s3 (λbb hb=>by
       obtain⟨Cb,lV⟩:=aN HF.o hb;rintro⟨_,o,ho,kR⟩;rw[lV] at ho;injection ho with ho;subst ho;cases kR)
      have P9:Below w.heap.size w (wr.putObj D (.deferred none)):=Ag.trans (s3.below (λk hk=>by have:=hk.1;have:=HB.o.size;have:=sI.o.size;omega) Ag.size);refine⟨sQ,.inl ⟨_,_,rfl,run_takeDeferred hKe,?_⟩⟩;refine⟨u,by simp[results,Tryz.f180,go_sem],_,rfl,LC,λbb hb=>?_,P9⟩;have:=Hn.o bb hb;have:=HI.o.below.size;omega
end
end
section
open Go.RowKit Go.Shelf O
structure yB (s:JS):Prop where
 ep:s.epoch=1
 st:s.start=1
 secs:∀p x,p<s.P→s.sec p=some x→x.epoch=1∧x.start=1
theorem yB.batch {s:JS} {C:Nat→Bytes} {wl:List (Nat×Bytes)} (h:yB s):yB (s.batch C wl):=by
 refine⟨h.ep,h.st,λp x hp hx=>?_⟩;have hx:s.write (full C wl (s.clean wl) s.Q) (full C wl (s.clean wl) s.Q).length p=some x:=hx;have hp:p<s.P:=hp;unfold JS.write at hx
 split at hx
 ·split at hx
  ·injection hx with hx
   subst hx;exact⟨h.ep,h.st⟩
  ·exact h.secs p x hp hx
 ·exact h.secs p x hp hx
theorem oV {l:List Nat}:∀(n:Nat) (l:List Nat),(∀i,i<n→i∈l)→n≤l.length
 |0,l,_=>ql _
 |n+1,l,h=>by
  have h1:=oV (l:=l) n (l.filter (λx=>x !=n)) (λi hi=>qR.2 ⟨h i oQ,by simp;omega⟩);have h2:(l.filter (λx=>x !=n)).length<l.length:=by
   have hm:=h n oQ;obtain⟨a,b,rfl⟩:=List.append_of_mem hm;rw[zaD,List.filter_cons];have h3:=List.length_filter_le (λx=>x !=n) a;have h4:=List.length_filter_le (λx=>x !=n) b;simp at h3 h4 ⊢;omega
  omega
theorem wY (sec:Nat→Option tQ):∀k,(AJ sec k).Pairwise (λa b=>a.1<b.1)
 |0=>by simp[AJ]
 |k+1=>by
  rcases h:sec k with _|x
  ·rw[MW h]
   exact wY sec k
  ·rw[MX h,zaF]
   refine⟨wY sec k,sQ,λa ha b hb=>?_⟩;rw[zV.1 hb];exact(rV.1 ha).1
section
variable {s:JS} {C:Nat→Bytes}
structure LastB (s:JS) (n:Nat):Prop where
 n1:1≤n∧n≤72∧n≤s.Q.length
 at_:∀e,e∈AJ s.sec s.P→e.2.seq=s.seq→∃i,i<n∧e.1=s.pl (s.Q.length - n+i)∧e.2.index=i∧e.2.count=n
 all:∀i,i<n→∃e,e∈AJ s.sec s.P∧e.2.seq=s.seq∧e.2.index=i
theorem rD.lastB (h:rD s C) (h1:1≤s.seq):∃n,LastB s n:=by
 obtain⟨n,a1,a2,a3,a4,a5⟩:=h.last h1;have fB:∀i,i<n→s.pl (s.Q.length - n+i)<s.P:=λi hi=>dz h.tail (by have:=h.used;omega);refine⟨n,⟨a1,a2,a3⟩,λe he hq=>?_,λi hi=>?_⟩
 ·obtain⟨hp,hs⟩:=rV.1 he
  obtain⟨i,hi,hpi⟩:=a5 e.1 e.2 hp hs hq;obtain⟨x,hx,b1,b2,b3⟩:=a4 i hi;rw[←hpi,hs] at hx;injection hx with hx;exact⟨i,hi,hpi,by rw[hx];exact b2,by rw[hx];exact b3⟩
 ·obtain⟨x,hx,b1,b2,b3⟩:=a4 i hi
  exact⟨(s.pl (s.Q.length - n+i),x),rV.2 ⟨fB i hi,hx⟩,b1,b2⟩
theorem LastB.nodup {n:Nat} (h:LastB s n):(((AJ s.sec s.P).filter (hit s.seq)).map (·.2.index)).Nodup:=by
 rw[List.Nodup,List.pairwise_map];have h1:=(wY s.sec s.P).filter (hit s.seq);refine List.Pairwise.imp_of_mem ?_ h1;intro a b ha hb hab heq;obtain⟨ha1,ha2⟩:=qR.1 ha;obtain⟨iA,dh⟩:=qR.1 hb;obtain⟨i,_,p1,p2,_⟩:=h.at_ a ha1 (by simpa[hit] using ha2);obtain⟨j,_,q1,q2,_⟩:=h.at_ b iA (by simpa[hit] using dh);have:i=j:=by rw[←p2,←q2];exact heq
 subst this;rw[p1,q1] at hab;omega
theorem LastB.count {n:Nat} (h:LastB s n):((AJ s.sec s.P).filter (hit s.seq)).length=n:=by
 have h1:=eH n _ h.nodup (λx hx=>by
  obtain⟨e,he,rfl⟩:=qj.1 hx;obtain⟨he1,he2⟩:=qR.1 he;obtain⟨i,hi,_,p2,_⟩:=h.at_ e he1 (by simpa[hit] using he2);omega)
 have h2:=oV (l:=[]) n (((AJ s.sec s.P).filter (hit s.seq)).map (·.2.index)) (λi hi=>by
  obtain⟨e,he,h3,h4⟩:=h.all i hi;exact qj.2 ⟨e,qR.2 ⟨he,by simpa[hit] using h3⟩,h4⟩)
 rw[zD] at h1 h2;omega
theorem LastB.head (hk:rD s C) {n:Nat} (h:LastB s n):∀e,e∈AJ s.sec s.P→e.2.seq=s.seq→e.2.index<e.2.count∧e.2.count≤72∧((e.1:Int)+((e.2.count:Int) - (e.2.index:Int)))%(s.P:Int)=(s.head:Int):=by
 intro e he hq;obtain⟨i,hi,p1,p2,p3⟩:=h.at_ e he hq;obtain⟨n1,n2,n3⟩:=h.n1;have hu:=hk.used;refine⟨oQ,oQ,?_⟩;rw[p1,p2,p3];have fB:s.pl (s.Q.length - n+i)<s.P:=dz hk.tail oQ;have h1:(s.pl (s.Q.length - n+i)+(n - i))%s.P=s.head:=by
  rw[uJ fB oQ];show pos s.P (pos s.P s.tail _) _=pos s.P s.tail s.Q.length;rw[g_ hk.tail oQ];congr 1;omega
 rw[←h1];have h2:((s.pl (s.Q.length - n+i):Int)+((n:Int) - (i:Int)))=((s.pl (s.Q.length - n+i)+(n - i):Nat):Int):=oQ
 rw[h2];simp
theorem rD.aic (h:rD s C):∀id,id<s.B→(Gz (AJ s.sec s.P)).1 id=s.at_ id:=by
 intro id U;obtain⟨w1,w2,w3⟩:=ZH _ (AJ s.sec s.P) rfl;rcases hi:idx s.Q id with _|i
 ·rw[JS.at_,hi]
  rcases hw:(Gz (AJ s.sec s.P)).1 id with _|p
  ·rfl
  ·exfalso
   obtain⟨e,he,h1,h2,_⟩:=w1 id p hw;obtain⟨hp,hs⟩:=rV.1 he;obtain⟨i,y,jQ,_⟩:=h.newest e.1 e.2 hp hs;rw[h2,hi] at jQ;cases jQ
 ·rw[JS.at_,hi]
  obtain⟨y,hy,atK,_⟩:=h.live id i hi;have Eo:s.pl i<s.P:=dz h.tail (by have:=fK hi;have:=h.used;omega);have hym:(s.pl i,y)∈AJ s.sec s.P:=rV.2 ⟨Eo,hy⟩;have hyr:=h.right _ _ Eo hy;have hle:=w2 _ hym;simp only at hle;rw[atK] at hle;rcases hw:(Gz (AJ s.sec s.P)).1 id with _|p
  ·have:=w3 id hw
   have:=hyr.start;omega
  ·obtain⟨e,he,h1,h2,h3⟩:=w1 id p hw
   obtain⟨hp,hs⟩:=rV.1 he;obtain⟨i2,y2,jQ,Yg,jV⟩:=h.newest e.1 e.2 hp hs;rw[h2,hi] at jQ;injection jQ with jQ;subst jQ;rw[hy] at Yg;injection Yg with Yg;subst Yg;rcases jV with h4|h4
   ·omega
   ·show some p=some (s.pl i)
    rw[←h1,h4]
end
theorem ZO {Q:List ou} {k i id:Nat} (h:idx Q id=some i) (hk:k≤i):idx (Q.drop k) id=some (i - k):=by
 have hq:=h;rw[←zak k Q,mU] at h;rcases hj:idx (Q.drop k) id with _|j
 ·rw[hj] at h
  have:=fK h;rw[zF] at this;omega
 ·rw[hj] at h
  simp only[zF] at h;injection h with h;have:=fK hq;congr 1;omega
theorem vY {Q:List ou} {k id:Nat} (h:idx Q id=none):idx (Q.drop k) id=none:=by
 rw[mR] at h ⊢;intro hm;obtain⟨e,he,h2⟩:=qj.1 hm;exact h (qj.2 ⟨e,List.mem_of_mem_drop he,h2⟩)
theorem Tv {s:JS} {i:Nat} (ht:s.tail<s.P) (hu:s.Q.length≤s.P) (hi:i<s.Q.length):near s.P s.head (s.pl i)=s.Q.length - i:=by
 have h1:s.head=if s.tail+s.Q.length<s.P then s.tail+s.Q.length else s.tail+s.Q.length - s.P:=rfl
 have h2:s.pl i=if s.tail+i<s.P then s.tail+i else s.tail+i - s.P:=rfl
 unfold near;rw[h1,h2]
 split<;>split<;>split<;>omega
def JS.us (s:JS):Nat:=Km s.P s.head s.at_ s.B
def JS.mount (s:JS):JS:={s with epoch:=2,start:=s.seq+1,tail:=s.pl (s.Q.length - s.us),Q:=s.Q.drop (s.Q.length - s.us),freed:=0}
section
variable {s:JS} {C:Nat→Bytes}
theorem rD.agi (h:rD s C) {id i:Nat} (hi:idx s.Q id=some i):s.Q.length - i≤s.us:=by
 have U:id<s.B:=h.log.lt _ (JJ hi);have:=QB (P:=s.P) (hd:=s.head) (A:=s.at_) s.B id (s.pl i) U (by rw[JS.at_,hi];rfl);rw[Tv h.tail h.used (fK hi)] at this;exact this
theorem rD.Nc (h:rD s C):s.us≤s.Q.length:=by
 rcases QC (P:=s.P) (hd:=s.head) (A:=s.at_) s.B with h1|⟨id,p,h1,h2,h3⟩
 ·unfold JS.us;omega
 ·unfold JS.us
  rw[h3];unfold JS.at_ at h2;rcases hi:idx s.Q id with _|i
  ·rw[hi] at h2;cases h2
  ·rw[hi] at h2
   injection h2 with h2;rw[←h2,Tv h.tail h.used (fK hi)];omega
theorem rD.uU (h:rD s C) {id i:Nat} (hi:idx s.Q id=some i):idx s.mount.Q id=some (i - (s.Q.length - s.us))∧s.mount.pl (i - (s.Q.length - s.us))=s.pl i:=by
 have h1:=h.agi hi;have h2:=h.Nc;have h3:=fK hi;have h4:=h.used;refine⟨ZO hi oQ,?_⟩;show pos s.P (pos s.P s.tail _) _=pos s.P s.tail i;rw[g_ h.tail oQ];congr 1;omega
theorem rD.ZP (h:rD s C) (id:Nat):s.mount.at_ id=s.at_ id:=by
 unfold JS.at_;rcases hi:idx s.Q id with _|i
 ·rw[show idx s.mount.Q id=none from vY hi];rfl
 ·obtain⟨h1,h2⟩:=h.uU hi
  rw[h1,qA,qA,h2]
theorem rD.wZ (h:rD s C):s.mount.used=s.us:=by
 have h1:s.mount.used=(s.Q.drop (s.Q.length - s.us)).length:=rfl;rw[h1,zR];have:=h.Nc;omega
theorem rD.QH (h:rD s C):s.mount.head=s.head:=by
 have h1:s.mount.head=pos s.P (pos s.P s.tail (s.Q.length - s.us)) s.mount.used:=rfl;have h2:=h.Nc;have h3:=h.used;rw[h1,h.wZ,g_ h.tail oQ];show _=pos s.P s.tail s.Q.length;congr 1;omega
theorem rD.mount (h:rD s C):rD s.mount C:=by
 have h2:=h.Nc;have h4:=h.used;have hlen:s.mount.Q.length=s.us:=h.wZ;have fB:∀j,j≤s.us→s.mount.pl j=s.pl (s.Q.length - s.us+j):=λj hj=>by
  show pos s.P (pos s.P s.tail _) _=pos s.P s.tail _;rw[g_ h.tail oQ]
 refine⟨dz h.tail oQ,by rw[hlen];exact zC h2 h4,h.seq,⟨Nat.le_add_left 1 _,zm _⟩,⟨by show 1≤2;omega,by show 2<4294967296;omega⟩,h.log.drop _,λid i hi=>?_,λid hi=>?_,h.right,λp x hp hx=>?_,λhs=>?_⟩
 ·rcases hj:idx s.Q id with _|j
  ·have:=vY (k:=s.Q.length - s.us) hj
   have hi':idx (s.Q.drop (s.Q.length - s.us)) id=some i:=hi;rw[this] at hi';cases hi'
  ·obtain⟨h5,h6⟩:=h.uU hj
   rw[hi] at h5;injection h5 with h5;subst h5;obtain⟨x,q1,q2⟩:=h.live id j hj;exact⟨x,by rw[h6];exact q1,q2⟩
 ·refine h.zero id ?_
  rcases hj:idx s.Q id with _|j
  ·rfl
  ·rw[(h.uU hj).1] at hi
   cases hi
 ·obtain⟨i,y,q1,q2,q3⟩:=h.newest p x hp hx
  obtain⟨h5,h6⟩:=h.uU q1;exact⟨_,y,h5,by rw[h6];exact q2,by rw[h6];exact q3⟩
 ·obtain⟨n,a1,a2,a3,a4,a5⟩:=h.last hs
  have hnu:n≤s.us:=by
   obtain⟨x,hx,b1,b2,b3⟩:=a4 0 oQ;have Eo:s.pl (s.Q.length - n+0)<s.P:=dz h.tail oQ;obtain⟨i,y,q1,q2,q3⟩:=h.newest _ x Eo hx;have hil:=fK q1;have hyr:=h.right _ y (dz h.tail oQ) q2;rcases q3 with q3|q3
   ·have h1:=hyr.seq
    rw[b1] at q3;exact absurd h1 (Nat.not_le.2 q3)
   ·have:=rC (P:=s.P) (t:=s.tail) (i:=s.Q.length - n+0) (j:=i) oQ oQ q3
    have:=h.agi q1;omega
  have hp:∀i,i<n→s.mount.pl (s.mount.Q.length - n+i)=s.pl (s.Q.length - n+i):=λi hi=>by
   rw[hlen,fB _ oQ];congr 1;omega
  refine⟨n,a1,a2,by rw[hlen];exact hnu,λi hi=>?_,λp x hp' hx IU=>?_⟩
  ·rw[hp i hi]
   exact a4 i hi
  ·obtain⟨i,hi,h5⟩:=a5 p x hp' hx IU
   exact⟨i,hi,by rw[hp i hi];exact h5⟩
end
end
end Go.Proofs.YtdjdpeadohobmaaGreatDoor
