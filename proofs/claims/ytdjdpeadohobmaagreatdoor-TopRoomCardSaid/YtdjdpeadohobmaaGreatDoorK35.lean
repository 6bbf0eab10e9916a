/- A part of the walk below the law: what is proved here is used by later parts; no further condition. -/
import Derived.Defers
import Derived.LoopIn
import Derived.LoopNIn
import Derived.OwnWalkIn
import Derived.RangeFuncBound
import Derived.RangeFuncCalls
import Derived.RangeFuncLeaves
import Derived.RangeFuncNested
import Derived.Recover
import Derived.Shelf.Abstract
import Derived.Shelf.RegionOpen
import Derived.TacticsInMore
import Derived.WalkKit
import Derived.Test.YtdjdpeadohobmaaGreatDoorK31
import Derived.Test.YtdjdpeadohobmaaGreatDoorK33
import Derived.Test.YtdjdpeadohobmaaGreatDoorK34
set_option linter.unusedVariables false
set_option linter.unusedSimpArgs false
set_option maxRecDepth 100000
set_option maxHeartbeats 20000000
namespace Go.Proofs.YtdjdpeadohobmaaGreatDoor
section
open O
abbrev nU:=List (Nd×Bytes)
def ents (fl:nU):List bI:=fl.map (λf=>(f.1.id,f.2))
theorem bJ (fl:nU):(ents fl).length=fl.length:=by unfold ents;simp
structure Tr (E:nR) (B:Nat) (x:Nd) (fl:nU):Prop where
 disk:nT E B (x::fl.map Prod.fst)
 root:x.id=1∧x.k=2∧x.c=b_ (ents fl)
 file:∀f∈fl,f.1.k=1∧nm f.2=true
 once:(fl.map Prod.snd).Nodup
 few:fl.length≤3
 big:4≤B∧B≤3840
 o:∀i,B≤i→E i=[]
section
variable {E E' E1 E2:nR} {B:Nat} {x:Nd} {fl A T:nU} {f:Nd} {s:Bytes}
theorem aa_ {m:Nat} (h1:1≤m∧m≤3839) (h:nm s=true):Aj (m,s):=by
 unfold nm at h;rw[decide_eq_true_iff] at h;exact⟨h1.1,h1.2,h.1,h.2.1,h.2.2.2.1⟩
theorem Tr.Fq (h:Tr E B x fl):mh E B 1 2 1 (b_ (ents fl)) x.D x.r x.R:=by
 have h1:=h.disk.wu x sQ;unfold Nd.ok at h1;rw[h.root.1,h.root.2.1,h.root.2.2] at h1;exact h1
theorem Tr.Cz (h:Tr E B x fl) (hf:(f,s)∈fl):mh E B f.id 1 1 f.c f.D f.r f.R:=by
 have h1:=h.disk.wu f (qC _ (qj.2 ⟨_,hf,rfl⟩));unfold Nd.ok at h1;rw[(h.file _ hf).1] at h1;exact h1
theorem Tr.wF (h:Tr E B x fl):∀e∈ents fl,Aj e:=by
 intro e he;obtain⟨g,hg,rfl⟩:=qj.1 he;have h1:=(h.Cz (f:=g.1) (s:=g.2) hg).iW.own;have h2:=h.big;exact aa_ ⟨oQ,oQ⟩ (h.file _ hg).2
theorem Tr.size (h:Tr E B x fl):(b_ (ents fl)).length=32*fl.length:=by rw[fq (λe he=>.inl (h.wF e he)),bJ]
theorem Oj {k:Nat} (hk:k≤15):need (32*k)=if k=0 then 0 else 1:=by
 unfold need fT;have h1:¬(16<(32*k+479) / 480):=oQ
 rw[if_neg h1]
 split<;>omega
theorem Tr.num (h:Tr E B x fl):cnt (E 0) B=2+(if fl.length=0 then 0 else 1)+(fl.map (λf=>1+need f.1.c.length)).sum:=by
 have h1:=h.disk.num;rw[qy,zay,h.root.2.2,h.size,Oj (by have:=h.few;omega),List.map_map] at h1;rw[h1];have:((λx:Nd=>1+need x.c.length)∘Prod.fst:Nd×Bytes→Nat)=λf=>1+need f.1.c.length:=rfl;rw[this];omega
theorem Tr.zero (h:Tr E B x fl):aG (E 0) 0=true:=h.disk.zero
theorem Tr.at_ (h:Tr E B x (A++(f,s)::T)):(∀e∈ents A,e.2≠s)∧ents (A++(f,s)::T)=ents A++(f.id,s)::ents T:=by
 refine⟨λe he hs=>?_,by unfold ents;simp⟩;obtain⟨g,hg,rfl⟩:=qj.1 he;have h1:=h.once;rw[zW,qy] at h1;exact(zaY.1 h1).2.2 _ (qj.2 ⟨g,hg,rfl⟩) s sQ hs
theorem Tr.wrote {c':Bytes} {D' R':List Int} {r':Int} (h:Tr E B x (A++(f,s)::T)) (hw:Wrote E E' B f.id 1 1 f.c c' f.D f.r f.R D' r' R'):Tr E' B x (A++(⟨f.id,1,c',D',r',R'⟩,s)::T):=by
 have hf:=h.file (f,s) sQ;have h1:=h.disk;have e1:x::(A++(f,s)::T).map Prod.fst=(x::A.map Prod.fst)++f::T.map Prod.fst:=sQ
 have hw':Wrote E E' B f.id f.k 1 f.c c' f.D f.r f.R D' r' R':=by rw[hf.1];exact hw
 rw[e1] at h1;have h2:=h1.wrote hw';rw[hf.1] at h2;have he:ents (A++(⟨f.id,1,c',D',r',R'⟩,s)::T)=ents (A++(f,s)::T):=by unfold ents;simp
 have ho:=h.once;have hl:=h.few;refine⟨by simpa using h2,by rw[he];exact h.root,λg hg=>?_,by simpa using ho,by simpa using hl,h.big,λi hi=>?_⟩
 ·rcases qg.1 hg with hg|hg
  ·exact h.file g (by simp[hg])
  ·rcases zH.1 hg with rfl|hg
   ·exact⟨rfl,hf.2⟩
   ·exact h.file g (by simp[hg])
 ·rw[hw.grow.keep i (by have:=h.big;omega) (λhx=>by have:=(hw.wu.iW.lt i hx).2;omega)]
  exact h.o i hi
theorem Tr.made {m:Nat} {D' R':List Int} {r':Int} (h:Tr E B x fl) (gD:fl.length≤2) (hs:nm s=true) (kZ:∀f∈fl,f.2≠s) (hm:wD E E1 B m 1) (hw:Wrote E1 E2 B 1 2 1 (b_ (ents fl)) (b_ (ents fl++[(m,s)])) x.D x.r x.R D' r' R'):
  Tr E2 B ⟨1,2,b_ (ents fl++[(m,s)]),D',r',R'⟩ (fl++[(⟨m,1,[],bN,0,aT⟩,s)]):=by
 have h1:=h.disk.make hm;have hw':Wrote E1 E2 B x.id x.k 1 x.c (b_ (ents fl++[(m,s)])) x.D x.r x.R D' r' R':=by
  rw[h.root.1,h.root.2.1,h.root.2.2];exact hw
 have h2:=nT.wrote (A:=[]) (x:=x) (T:=fl.map Prod.fst++[⟨m,1,[],bN,0,aT⟩]) (by simpa using h1) hw';rw[h.root.1,h.root.2.1] at h2;have he:ents (fl++[((⟨m,1,[],bN,0,aT⟩:Nd),s)])=ents fl++[(m,s)]:=by unfold ents;simp
 have hmo:=hm.wu.iW.own;refine⟨by simpa using h2,⟨rfl,rfl,by rw[he]⟩,λg hg=>?_,?_,by simpa using gD,h.big,λi hi=>?_⟩
 ·rcases qg.1 hg with hg|hg
  ·exact h.file g hg
  ·rw[zV.1 hg]
   exact⟨rfl,hs⟩
 ·rw[zW,List.map_singleton,zaY]
  refine⟨h.once,sQ,λa ha b hb=>?_⟩;obtain⟨g,hg,rfl⟩:=qj.1 ha;rw[zV.1 hb];exact kZ g hg
 ·have hB:=h.big
  rw[hw.grow.keep i oQ (λhx=>by have:=(hw.wu.iW.lt i hx).2;omega),hm.keep i oQ oQ];exact h.o i hi
end
end
section
open Go.RowKit Go.Shelf Go.Maps O
attribute [local go_sem] Oper.semAt_some
theorem bY (w:World):Calls Tryz.prog 30 #[.int .i64 0] w λe w'=>(∃x,e=.returned x)∧w'=w:=by
 go_enter Tryz.func30,Tryz.ntmps30;go_wp2_with fail;go_end0;exact⟨⟨_,rfl⟩,rfl⟩
theorem pI (w:World):Calls Tryz.prog 155 #[.bool true] w λe w'=>(∃x,e=.returned x)∧w'=w:=by
 go_enter Tryz.func155,Tryz.ntmps155;go_wp2_with fail;go_end0;exact⟨⟨_,rfl⟩,rfl⟩
theorem Fu (w:World):Calls Tryz.prog 45 #[.nilIface] w λe w'=>e=.returned (.int .i64 0)∧w'=w:=by
 go_enter Tryz.func45,Tryz.ntmps45;go_wp2_with fail;go_ret;exact⟨rfl,rfl⟩
theorem Ru (p:Addr) (w:World):
  CallsD Tryz.prog 56 #[.pointer (some p)] .returning w λe u' w'=>e=.returned (.tuple #[])∧u'=.returning∧w'=w:=by
 refine callsD_of_wpS Tryz.func56 rfl λc₀ cs hu=>?_;apply wpS_seq;apply wpS_region;simp[wpOpsS,go_sem,recoverD,hu,Tryz.ntmps56,Exit.thenS];refine(Fu w).mono ?_;rintro e w' ⟨rfl,rfl⟩;simp[go_sem];apply wpS_seq;apply wpS_region;simp[wpOpsS,go_sem,Array.replicate,Act.eval,Exit.thenS];refine wpS_cond (t:=false) (by simp[Act.eval,Array.replicate]) ?_;simp only[zab,if_false];refine wpS_of_wp (wp_skip ?_);cases c₀;simp_all[bodyPostS,results,Tryz.results56]
section
variable {v w:World} {fb d B P q nop n' fn:Nat} {C:Nat→Bytes} {cl yo:Bool} {op:Op} {F X:Nat→Prop} {caps:Array Value} {PE:(Nat→Bytes)→World→Prop}
structure jI (v w:World) (d B:Nat) (C:Nat→Bytes) (sp:Nat) (w1:World) (p b:Nat):Prop where
 base:Base v sp d B C
 quiet:Quiet d v w1
 size:w.heap.size≤w1.heap.size
 keep:∀k,v.heap.size≤k→k<w.heap.size→w1.heap[k]? =w.heap[k]?
 view:ah w1 p 87 [.pointer (some ⟨b,0,none⟩),.int .i64 B]
 new:w.heap.size≤p∧w.heap.size≤b∧p≠b
 Bd:cB v w1 b sp d C C 0 (· =b)
structure ajn (v w:World) (fb d B P q nop n':Nat) (cl yo:Bool) (op:Op) (F:Nat→Prop) (E':Nat→Bytes) (w2 w':World):Prop where
 ge:w.heap.size≤w2.heap.size∧w2.heap.size≤w'.heap.size
 keep:∀k,v.heap.size≤k→k<w2.heap.size→k≠w.heap.size→w'.heap[k]? =w2.heap[k]?
 ex:∃q' cl' F',fI w' fb d B P q' nop E' cl' yo op F'∧Step F v F' w'∧(q≤q'∧q'≤q+1)∧(n'=0→q'=q∧cl'=cl∧F'=F)∧∀k,F' k→F k∨w2.heap.size≤k
 quiet:n'=0→Quiet d v w'
theorem ajo {B P b p:Nat} (h1:b=B) (h2:p=P):Gu b p=.agg #[.int .i64 B,.int .i64 P]:=by
 subst h1 h2;rfl
theorem K4 {w:World} {sp d:Nat} {s:JS} {C:Nat→Bytes} {cl:Bool} {F:Nat→Prop} (h:lW w sp d s C cl F) {j:Nat} (hj:w.cell? ⟨sp,0,none⟩=some (.pointer (some ⟨j,0,none⟩))) {b n c:Nat} {wl:Wl} (hw:BK w b wl) (lJ:¬F b) (hl:wl.length=n) (h1':1≤n) (h24:n≤24) (yt:(wl.map Prod.fst).Nodup) (hB:∀e∈wl,e.1<s.B) (nN:s.seq<iQ):
  Calls Tryz.prog 60 #[.pointer (some ⟨j,0,none⟩),.slice (some ⟨b,0,none⟩) n c] w λe w'=>e=.returned (.int .i64 0)∧w'.cell? ⟨sp,0,none⟩=some (.pointer (some ⟨j,0,none⟩))∧∃F',lW w' sp d (s.batch C wl) (dW C wl) false F'∧Step F w F' w':=by
 obtain⟨j',st,wt,Fj,h1,h2,h3,h4,h5,h6,h7⟩:=h;have hc:=h1.cell 0;simp only[zf] at hc;rw[hj] at hc;injection hc with hc;injection hc with hc;injection hc with hc;injection hc with hc;subst hc;refine(BO h2 hw (λh=>lJ (h3 _ h)) hl h1' h24 yt hB nN).mono ?_;rintro e w' ⟨q1,st',wt',F',q2,q3⟩;obtain⟨r1,r2⟩:=lW.turn (cl:=false) h1 h3 h4 h5 h6 q2 q3 rfl rfl (λh=>by cases h);exact⟨q1,(q3.cell (p:=⟨sp,0,none⟩) h1.lt h5).trans hj,_,r1,r2⟩
theorem jJ (h:fI v fb d B P q nop C cl yo op F) (hB:4≤B∧B≤3840) (Pq:Below v.heap.size v w) (hq:q<1000000) (hn':n'≤24) (lN:∀args w,(callFunc fn args).run Tryz.prog w=.ok (.enter fn args) w)
  (hX:∀k,X k→v.heap.size≤k∧k<w.heap.size) (hout:∀E' W,PE E' W→∀i,B≤i→E' i=[])
  (kW:∀sp w1 p b,jI v w d B C sp w1 p b→Calls Tryz.prog fn (#[.pointer (some ⟨p,0,none⟩)]++caps) w1 λe w2=>(∃x,e=.returned x)∧∃E' F2,PE E' w2∧cB v w2 b sp d C E' n' F2∧Mv d v (λk=>k=b∨X k) w1 (λk=>F2 k∨X k) w2):
  Calls Tryz.prog 31 #[.pointer (some ⟨fb,0,none⟩),.func (.func fn) #[] caps] w λe w'=>e=.returned (.int .i64 0)∧∃E' w2,PE E' w2∧ajn v w fb d B P q nop n' cl yo op F E' w2 w':=by
 obtain⟨sp,m,s,C0,Fs,hA,rfl⟩:=h;have hV:=hA.base hB;have hd:=hV.yE;have tF:=Pq.size;obtain⟨w1,aP⟩:∃w1,w.alloc (.cells #[.int .i64 0] 26)=w1:=⟨_,rfl⟩
 obtain⟨aM,aF,hz1⟩:=boxes [([.int .i64 0],26)] w w1 (by rw[←aP];rfl);have x0:ah w1 w.heap.size 26 [.int .i64 0]:=aM 0 _ rfl;have AU:w1.heap.size=w.heap.size+1:=by simpa using hz1
 have uf:Quiet d v w1:=Quiet.of_below (Pq.trans (aF.mono tF));have QA:=hA.quiet uf;have c0:=QA.cells.cell 0;simp only[zf] at c0;have HA:=U hA;have HV:=U hV;have HX:=U hX;have HO:=U hout;have HJ:=U kW;have Ef:=U aF;have Hq1:=U uf;have X0:=U x0;have Hvw:=U Pq;clear hA hV hX hout kW aF aM hz1 uf QA x0 Pq;go_enter_defers Tryz.func31,Tryz.ntmps31;go_wp2_with fail;refine wp_region_noPanic ?_;refine ak (S:=(λW=>W.cell? ⟨fb,0,none⟩=some (.pointer (some ⟨sp,0,none⟩)))) (m:=17) kQ c0 (λaj=>?_);refine te 0 aj ?_;refine te 1 aj ?_;refine te 2 aj ?_;refine te 3 aj ?_;refine te 4 aj ?_;refine te 5 aj ?_;refine te 7 aj ?_;refine te 8 aj ?_;refine te 9 aj ?_;refine te 10 aj ?_;refine te 11 aj ?_;refine rE 6 λK hK=>?_;go_simp;with_reducible refine(EA (sp:=sp) (C:=C) (Hq1.o.trans (Quiet.of_below (zn _ _).drew))).mono ?_
 rintro e w2 ⟨b,rfl,dZ,dh,aJ⟩;have dZ:w1.heap.size≤b:=dZ;have aJ:=((zn w1.heap.size w1).drew).trans aJ;have q2:=Hq1.o.trans (Quiet.of_below aJ);have H2:=U (And.intro dZ (And.intro dh (And.intro aJ q2)));clear dZ dh aJ;go_wp2_with fail;refine hK.out _ _ (λ_=>((HA.o.quiet q2).cells.cell 0)) (λhS=>?_);have bQ:=hS dQ;clear hS hK K
 try simp only[Act.put,zh,zk,zl]
 refine rE 12 λK hK=>?_;go_simp;with_reducible refine(Ev (HA.o.quiet q2).p9).mono ?_
 rintro e w3 ⟨rfl,bf⟩;rw[ajo HA.o.is.1 HA.o.is.2.1];have q3:=q2.trans (Quiet.of_below bf);have H3:=U (And.intro bf q3);clear bf;go_wp2_with fail;refine hK.out _ _ (λ_=>((HA.o.quiet q3).cells.cell 0)) (λhS=>?_);have bV:=hS dQ;clear hS hK K
 try simp only[Act.put,zh,zk,zl]
 refine te 13 bV ?_ (v:=(.int .i64 B)) (hy:=by intro W iR;(try dsimp only at iR);(go_simp;rfl));refine te 14 bV ?_;refine te 15 bV ?_;refine rE 16 λK hK=>?_;go_simp;refine hK.out _ _ (λ_=>((HA.o.quiet (q3.trans (Quiet.of_below ((zn _ _).alloc (zm _) _)))).cells.cell 0)) (λhS=>?_);have jd:=hS dQ;clear hS hK K
 try simp only[Act.put,zh,zk,zl]
 refine vF 17 ?_;refine aD ?_;obtain⟨dZ,dh,aJ,q2'⟩:=H2.o;obtain⟨bf,q3'⟩:=H3.o;obtain⟨w4,gH⟩:∃w4,w3.alloc (.cells #[.pointer (some ⟨b,0,none⟩),.int .i64 B] 87)=w4:=⟨_,rfl⟩
 have dX:Below w3.heap.size w3 w4:=by rw[←gH];exact(zn _ _).alloc (zm _) _
 have Iu:ah w4 w3.heap.size 87 [.pointer (some ⟨b,0,none⟩),.int .i64 B]:=by rw[←gH];exact ah.new w3 _ _
 have Ah:w4.heap.size=w3.heap.size+1:=by rw[←gH];simp
 have q4:=q3'.trans (Quiet.of_below dX);have nI:=(dh.lt b dh.own).2;have Ol:=bf.size;have AQ:=aJ.size;have yS:=bf.trans (dX.mono Ol);have tX:=aJ.trans (yS.mono AQ);have Fv:jI v w d B C sp w4 w3.heap.size b:=⟨HV.o,q4,oQ,λk h1 h2=>(tX.block k oQ).trans (Ef.o.block k h2),Iu,⟨oQ,oQ,oQ⟩,⟨[],dh.below yS,rfl,zm _⟩⟩
 have x4:=X0.o.below tX;obtain⟨p,hp⟩:∃p,w3.heap.size=p:=⟨_,rfl⟩
 rw[hp] at Fv Iu Ol Ah;have Rv:=U Fv;have Tx:=U Iu;have rW:=U x4;have Hp:=U hp;clear dh aJ q2' bf q3' H2 H3 dX Iu q4 yS tX Fv x4 q2 q3 c0;go_wp2_with fail;refine(HJ.o sp w4 p b Rv.o).mono ?_;rintro e w5 ⟨⟨x,rfl⟩,E',F5,Wn,⟨L5,kS,LD,Yr⟩,fu⟩;have hnX:∀k,w.heap.size≤k→k≠b→¬(k=b∨X k):=λk h1 h2 hk=>by
  rcases hk with hk|hk
  ·exact h2 hk
  ·have:=(HX.o k hk).2
   omega
 have CB:=fu.aW rW.o dQ (hnX _ (zm _) oQ);have TN:=fu.aW Tx.o dQ (hnX _ oQ oQ);have c5:=TN.cell 0;simp only[zf] at c5;have q5:=fu.q';have BN:=fu.size;have HPE:=U Wn;have jR:=U kS;have HE5:=U LD;have HL5:=U Yr;have Q5:=U q5;have Ch:=U CB;clear Wn kS LD Yr fu CB TN q5 gH;go_wp2_with fail;refine(Z9 jR.o).mono ?_;rintro e w5 ⟨rfl,rfl⟩;by_cases hL0:L5.length=0
 ·have hLn:=zX hL0
  have hEC:E'=C:=by rw[←HE5.o,hLn];rfl
  obtain⟨F7,hF7⟩:∃F7,F7=Fs:=⟨_,rfl⟩
  obtain⟨w7,BD⟩:∃w7,w7=w5:=⟨_,rfl⟩
  subst hF7 BD;obtain⟨K5,GU⟩:∃K5,K5=w7:=⟨_,rfl⟩
  obtain⟨q7,GV⟩:∃q7,q7=q:=⟨_,rfl⟩
  obtain⟨cl7,abf⟩:∃cl7,cl7=cl:=⟨_,rfl⟩
  obtain⟨s7,Na⟩:∃s7,s7=s:=⟨_,rfl⟩
  obtain⟨C7,hC7⟩:∃C7,C7=C0:=⟨_,rfl⟩
  have H7:Hid (jP w7 fb sp d m nop B P q7 s7 C7 E' cl7 yo op F7∧Step (uE F7 fb m) v (uE F7 fb m) w7∧(∀k,v.heap.size≤k→k<K5.heap.size→w7.heap[k]? =K5.heap[k]?)∧(K5.heap.size≤w7.heap.size∧w.heap.size≤K5.heap.size)∧ah w7 w.heap.size 26 [.int .i64 0]∧((((q≤q7∧q7≤q+1))∧(n'=0→q7=q∧cl7=cl∧uE F7 fb m=uE F7 fb m))∧∀k,uE F7 fb m k→k≠w.heap.size)):=by
   subst GV abf Na hC7;rw[hEC];exact U ⟨HA.o.quiet Q5.o,HA.o.Od Q5.o,λ_ _ _=>by rw[GU],⟨by rw[GU];exact zm _,by rw[GU];omega⟩,Ch.o,⟨⟨⟨zm _,XO _⟩,λ_=>⟨rfl,rfl,rfl⟩⟩,λk hk e=>by have:=HA.o.lt k hk;omega⟩⟩
  rw[hL0];have HPE:Hid (PE E' K5):=by rw[GU];exact HPE
  have hn7:∀k,uE F7 fb m k→uE F7 fb m k∨K5.heap.size≤k:=λk hk=>.inl hk;have hqt:n'=0→Quiet d v w7:=λ_=>Q5.o;clear GV abf Na hC7 GU;obtain⟨ZR,uQ,WO,ZN,Bf,GV⟩:=H7.o;have e0:=Bf.cell 0;have f0:=Bf.free 0;simp only[zf] at e0;clear ZR uQ WO ZN Bf GV;go_wp2_with fail;obtain⟨ZR,uQ,WO,ZN,Bf,GV⟩:=H7.o;obtain⟨w8,sZ⟩:∃w8,w7.setCell ⟨w.heap.size,0,none⟩ (.int .i64 0)=w8:=⟨_,rfl⟩
  have Po:Kept w.heap.size w7 w8:=by rw[←sZ];exact Kept.setCell _ _ _
  have y8:ah w8 w.heap.size 26 [.int .i64 0]:=by rw[←sZ];exact Bf.aB 0 (.int .i64 0)
  have uO:Step (· =w.heap.size) w7 (· =w.heap.size) w8:=by rw[←sZ];exact Step.set1 (Bf.aV dQ) _ _
  rw[sZ];have y1:=y8.cell 0;simp only[zf] at y1;refine leaves_cons (f:=56) (args:=#[.pointer (some ⟨w.heap.size,0,none⟩)]) sQ (by simp[go_sem]) ?_;refine(Ru ⟨w.heap.size,0,none⟩ _).mono ?_;rintro e u' w9 ⟨rfl,rfl,rfl⟩;simp[Leaves,settle,results,Tryz.results31,go_sem,y1];have hnt:∀k,uE F7 fb m k→k≠w.heap.size:=λk hk e=>by
   rcases uQ.new k hk with h1|h1
   ·have:=HA.o.lt k h1
    omega
   ·exact GV.2 k hk e
  have hg5:=HA.o.tab.1.size;refine⟨E',K5,HPE.o,⟨⟨oQ,by have:=Po.size;omega⟩,λk h1 h2 h3=>(Po.block k oQ h3).trans (WO k h1 h2),⟨q7,cl7,uE F7 fb m,⟨sp,m,s7,C7,F7,ZR.step uO (λk hk=>hnt k hk) (λk hk=>oQ),rfl⟩,uQ.inner uO (λk hk=>.inr oQ),GV.1.1,⟨λh0=>⟨(GV.1.2 h0).1,(GV.1.2 h0).2.1,by first|rfl|exact(GV.1.2 h0).2.2⟩,hn7⟩⟩,λh0=>(hqt h0).kept Po tF HV.o.yE⟩⟩
 ·have hLp:(0:Int)<L5.length:=oQ
  have VG:=HA.o.quiet Q5.o;obtain⟨j,hj5, -, -⟩:=VG.p9.cell0;have c5f:=VG.cells.cell 0;simp only[zf] at c5f;have El:=aa2 (B:=B) jR.o.nodup.1 jR.o.nodup.2 HE5.o (HO.o E' w5 HPE.o);have ahV:=U El;have Yj:=U VG;have aox:=VG.cells.lt;have avk:=VG.p9.lt sp VG.p9.own.2;have fB:=zq w5 _ c5;clear El VG;go_wp2_with fail;refine wp_region_noPanic ?_;refine ak (S:=(λW=>W.cell? ⟨fb,0,none⟩=some (.pointer (some ⟨sp,0,none⟩))∧W.cell? ⟨sp,0,none⟩=some (.pointer (some ⟨j,0,none⟩))∧W.cell? ⟨p,0,none⟩=some (.pointer (some ⟨b,0,none⟩)))) (m:=16) kQ ⟨c5f,hj5,c5⟩ (λaj=>?_);refine te 0 aj ?_;refine te 1 aj ?_;refine te 2 aj ?_;refine te 3 aj ?_;refine te 4 aj ?_;refine te 5 aj ?_;refine te 6 aj ?_;refine te 7 aj ?_;refine te 8 aj ?_;refine te 9 aj ?_;refine te 10 aj ?_;refine te 11 aj ?_;refine te 12 aj ?_;refine rE 13 λK hK=>?_;go_simp;with_reducible refine(WG (jR.o.below (zn _ _).drew) oQ).mono ?_
  rintro e w6 ⟨g,cg,wl,rfl,hg,aoy,Lx,yt,fA,lu⟩;have hg:w5.heap.size≤g:=hg;have lu:=((zn w5.heap.size w5).drew).trans lu;have hj6:=(lu.cell (p:=⟨sp,0,none⟩) avk).trans hj5;have XV:=U (And.intro aoy (And.intro Lx (And.intro yt fA)));have sI:=U lu;clear aoy Lx yt fA;go_wp2_with fail;refine hK.out _ _ (λ_=>⟨(lu.cell (p:=⟨fb,0,none⟩) aox).trans c5f,hj6,(lu.cell (p:=⟨p,0,none⟩) fB).trans c5⟩) (λhS=>?_);have bQ:=hS dQ;clear hS hK K
  try simp only[Act.put,zh,zk,zl]
  refine rE 14 λK hK=>?_;go_simp;with_reducible refine(K4 (Yj.o.p9.below lu) hj6 XV.o.1 (λh=>by have:=Yj.o.p9.lt _ h;omega) XV.o.2.1 oQ (by have:=HL5.o;omega) XV.o.2.2.1 (λe he=>by rw[HA.o.is.1];exact ahV.o e (XV.o.2.2.2 e he)) (by rw[HA.o.is.2.2.1];unfold iQ;omega)).mono ?_
  rintro e w7 ⟨rfl,hj7,F7,uQ,l6⟩;have Kh:=U (And.intro uQ l6);clear uQ;go_wp2_with fail;refine hK.out _ _ (λ_=>⟨(l6.cell (p:=⟨fb,0,none⟩) (by have:=lu.size;show fb<w6.heap.size;omega) HA.o.fs).trans ((lu.cell (p:=⟨fb,0,none⟩) aox).trans c5f),hj7,(l6.cell (p:=⟨p,0,none⟩) (by have:=lu.size;show p<w6.heap.size;omega) (show¬Fs p from λh=>by have:=HA.o.p9.lt _ h;omega)).trans ((lu.cell (p:=⟨p,0,none⟩) fB).trans c5)⟩) (λhS=>?_);have bV:=hS dQ;clear hS hK K
  try simp only[Act.put,zh,zk,zl]
  refine rE 15 λK hK=>?_;go_simp;with_reducible refine(bY _).mono ?_
  rintro e w8 ⟨⟨x,rfl⟩,rfl⟩;go_wp2_with fail;refine hK.out _ _ (λ_=>bV) (λhS=>?_);have jd:=hS dQ;clear hS hK K
  try simp only[Act.put,zh,zk,zl]
  refine aD ?_;obtain⟨TT,l6⟩:=Kh.o;have hq6:=Q5.o.trans (Quiet.of_below sI.o);have hA6:=HA.o.quiet hq6;have U5:=sI.o.size;have hz8:=l6.size;have hd7:=TT.own.1;have aFC:=TT.lt;have hn7:∀k,F7 k→Fs k∨w6.heap.size≤k:=l6.new;have Vy:∀k,Fs k→k<v.heap.size:=HA.o.p9.lt;have hg5:=HA.o.tab.1.size;obtain⟨s7,Na⟩:∃s7,s.batch C0 wl=s7:=⟨_,rfl⟩
  obtain⟨C7,hC7⟩:∃C7,dW C0 wl=C7:=⟨_,rfl⟩
  have hA8:jP w8 fb sp d m nop B P (q+1) s7 C7 E' false yo op F7:=by
   have hul:=WH (C:=C) jR.o.nodup.1 XV.o.2.1 XV.o.2.2.1 XV.o.2.2.2;rw[←Na,←hC7];refine⟨hA6.cells.step l6 HA.o.fs,hA6.map.step l6 HA.o.ms,TT,⟨HA.o.is.1,HA.o.is.2.1,by show s.seq+1=q+1;rw[HA.o.is.2.2.1],λhy=>(HA.o.is.2.2.2 hy).batch⟩,⟨λi hi=>?_,HO.o E' w5 HPE.o⟩,l6.apart hA6.cells.lt HA.o.fs,l6.apart hA6.map.lt HA.o.ms,HA.o.few,hA6.tab.1.step l6 HA.o.tab.2.1,λk hk=>?_,HA.o.tab.2.2⟩
   ·have h1:dW C0 wl i=dW C wl i:=by
     unfold dW
     split
     ·rfl
     ·exact HA.o.con.1 i hi
    rw[h1,hul,HE5.o]
   ·rcases hn7 k hk with h1|h1
    ·exact HA.o.tab.2.1 k h1
    ·omega
  have Tz:Step (uE Fs fb m) v (uE F7 fb m) w8:=(HA.o.Od hq6).trans (l6.more (λk hk=>.inl hk) (λk hk=>by
   rcases hk with hk|hk
   ·rcases hn7 k hk with h1|h1
    ·exact .inl (.inl h1)
    ·exact .inr h1
   ·exact .inl (.inr hk)))
  have Po:∀k,v.heap.size≤k→k<w5.heap.size→w8.heap[k]? =w5.heap[k]?:=λk h1 h2=>(l6.keep k oQ (.inl λh=>by have:=Vy k h;omega)).trans (sI.o.block k h2);have aoz:=(Ch.o.below sI.o).step l6 (λh=>by have:=Vy _ h;omega);obtain⟨w7,BD⟩:∃w7,w7=w8:=⟨_,rfl⟩
  subst BD;obtain⟨K5,GU⟩:∃K5,K5=w5:=⟨_,rfl⟩
  obtain⟨q7,GV⟩:∃q7,q7=q+1:=⟨_,rfl⟩
  obtain⟨cl7,abf⟩:∃cl7,cl7=false:=⟨_,rfl⟩
  have H7:Hid (jP w7 fb sp d m nop B P q7 s7 C7 E' cl7 yo op F7∧Step (uE Fs fb m) v (uE F7 fb m) w7∧(∀k,v.heap.size≤k→k<K5.heap.size→w7.heap[k]? =K5.heap[k]?)∧(K5.heap.size≤w7.heap.size∧w.heap.size≤K5.heap.size)∧ah w7 w.heap.size 26 [.int .i64 0]∧((((q≤q7∧q7≤q+1))∧(n'=0→q7=q∧cl7=cl∧uE F7 fb m=uE Fs fb m))∧∀k,uE F7 fb m k→k≠w.heap.size)):=by
   subst GV abf;rw[GU];refine U ⟨hA8,Tz,Po,⟨oQ,oQ⟩,aoz,⟨⟨⟨XO _,zm _⟩,λh0=>?_⟩,λk hk e=>?_⟩⟩
   ·have:=HL5.o
    omega
   ·rcases hk with hk|hk
    ·rcases hn7 k hk with h1|h1
     ·have:=Vy k h1
      omega
     ·omega
    ·have:=HA.o.lt k (.inr hk)
     omega
  have HPE:Hid (PE E' K5):=by rw[GU];exact HPE
  have hn7:∀k,uE F7 fb m k→uE Fs fb m k∨K5.heap.size≤k:=λk hk=>by
   rcases hk with hk|hk
   ·rcases hn7 k hk with h1|h1
    ·exact .inl (.inl h1)
    ·exact .inr (by rw[GU];omega)
   ·exact .inl (.inr hk)
  have hqt:n'=0→Quiet d v w7:=λh0=>absurd HL5.o oQ;clear GV abf GU aoz Po Tz hA8 Na hC7 TT l6 hA6 Kh;obtain⟨ZR,uQ,WO,ZN,Bf,GV⟩:=H7.o;have e0:=Bf.cell 0;have f0:=Bf.free 0;simp only[zf] at e0;clear ZR uQ WO ZN Bf GV;go_wp2_with fail;obtain⟨ZR,uQ,WO,ZN,Bf,GV⟩:=H7.o;obtain⟨w8,sZ⟩:∃w8,w7.setCell ⟨w.heap.size,0,none⟩ (.int .i64 0)=w8:=⟨_,rfl⟩
  have Po:Kept w.heap.size w7 w8:=by rw[←sZ];exact Kept.setCell _ _ _
  have y8:ah w8 w.heap.size 26 [.int .i64 0]:=by rw[←sZ];exact Bf.aB 0 (.int .i64 0)
  have uO:Step (· =w.heap.size) w7 (· =w.heap.size) w8:=by rw[←sZ];exact Step.set1 (Bf.aV dQ) _ _
  rw[sZ];have y1:=y8.cell 0;simp only[zf] at y1;refine leaves_cons (f:=56) (args:=#[.pointer (some ⟨w.heap.size,0,none⟩)]) sQ (by simp[go_sem]) ?_;refine(Ru ⟨w.heap.size,0,none⟩ _).mono ?_;rintro e u' w9 ⟨rfl,rfl,rfl⟩;simp[Leaves,settle,results,Tryz.results31,go_sem,y1];have hnt:∀k,uE F7 fb m k→k≠w.heap.size:=λk hk e=>by
   rcases uQ.new k hk with h1|h1
   ·have:=HA.o.lt k h1
    omega
   ·exact GV.2 k hk e
  have hg5:=HA.o.tab.1.size;refine⟨E',K5,HPE.o,⟨⟨oQ,by have:=Po.size;omega⟩,λk h1 h2 h3=>(Po.block k oQ h3).trans (WO k h1 h2),⟨q7,cl7,uE F7 fb m,⟨sp,m,s7,C7,F7,ZR.step uO (λk hk=>hnt k hk) (λk hk=>oQ),rfl⟩,uQ.inner uO (λk hk=>.inr oQ),GV.1.1,⟨λh0=>⟨(GV.1.2 h0).1,(GV.1.2 h0).2.1,by first|rfl|exact(GV.1.2 h0).2.2⟩,hn7⟩⟩,λh0=>(hqt h0).kept Po tF HV.o.yE⟩⟩
end
end
section
open Go.RowKit
def aoA {α:Type} (Good:Bool→List α→Prop) (J:Bool→List α→World→Prop) (W:World):Prop:=∃(k:Bool) (L:List α),Good k L∧J k L W
def Rw {α:Type} (F:Fence) (n:Nat) (P:Program) (g:Nat) (lb:Array Value) (encs:α→Array Value) (Kp St:World→World→Prop) (Ok:List α→α→World→Prop) (Good:Bool→List α→Prop) (W:World):Prop:=
 ∀(l:Nat) (J:Bool→List α→World→Prop),(∀s A B,J false s A→St A B→J true s B)→
  (∀k pre x W1,Ok pre x W1→J k pre W1→YieldAt F (n - 1) P l (encs x) W1 λe W'=>e=.returned (.bool true)∧J k (pre++[x]) W'∧Kp W1 W')→
  J false [] W→CallsIn F n P g (#[.func (.yield l) #[] #[]]++lb) W λe W'=>(∃v,e=.returned v)∧aoA Good J W'
variable {F:Fence} {n:Nat} {P:Program} {w:World}
theorem nu {α:Type} {g:Operand} {ps:Array Tmp} {assign body:Code} {Q:Exit→Act→World→Prop} {a:Act}
  (hro:F.round=none) (h1:1≤n) {gf:Nat} {lb:Array Value} (hg:a.eval g=.func (.func gf) #[] lb) (hFg:F.fn gf) (eg:∀args w,(callFunc gf args).run P w=.ok (.enter gf args) w)
  {encs:α→Array Value} {Kp St:World→World→Prop} {Ok:List α→α→World→Prop} {Good:Bool→List α→Prop} (nN:∀W1,Below w.heap.size w W1→W1.heap.size=w.heap.size+2→Rw F (n - 1) P gf lb encs Kp St Ok Good W1)
  (hSt:∀{A B:World} {k:Nat} {o:Obj},w.heap.size≤k→St A B→A.heap[k]? =some o→o.isCells=false→B.heap[k]? =some o)
  (YO:∀{A B C:World},Kp A B→Kp B C→Kp A C) (hKb:∀(W:World) (o o':Obj),W.heap[w.heap.size+1]? =some o→o.isCells=false→Kp W (W.putObj (w.heap.size+1) o')) (hps:∀x,(encs x).size=ps.size)
  (I:Bool→List α→World→Prop) (hIa:∀k s V V',I k s V→Below V.heap.size V V'→I k s V') (hIp:∀k s V o o',I k s V→V.heap[w.heap.size+1]? =some o→o.isCells=false→I k s (V.putObj (w.heap.size+1) o')) (hIs:∀s A B,w.heap.size+2≤A.heap.size→I false s A→St A B→I true s B) (h0:I false [] w) (Ax:List α→α→Act→World→Prop) (hAx:∀pre x a' V o o',Ax pre x a' V→V.heap[w.heap.size+1]? =some o→o.isCells=false→Ax pre x a' (V.putObj (w.heap.size+1) o'))
  (hassign:∀(l:Nat) (k:Bool) (pre:List α) (x:α) (W:World) (K:Act→World→Prop),I k pre W→Ok pre x W→(∀a' W',KeepsFrom w.heap.size W W'→Kp W W'→I k pre W'→Ax pre x a' W'→K a' W')→
   assign.wpIn (F.inRound l) (n - 1 - 1) P (Exit.then K (λ_ _ _=>False)) {tmps:=(ps.zip (encs x)).foldl (λt (p,v)=>t.setIfInBounds p v) a.tmps,defers:=[]} W)
  (LW:∀(l:Nat) (k:Bool) (pre:List α) (x:α) (a':Act) (W:World),I k pre W→Ax pre x a' W→w.heap.size+2≤W.heap.size→
   body.wpIn (F.inRound l) (n - 1 - 1) P (λe _ W'=>e=.normal∧KeepsFrom w.heap.size W W'∧Kp W W'∧I k (pre++[x]) W') a' W)
  (LX:∀(k:Bool) (L:List α) (W:World),Good k L→I k L W→W.heap[w.heap.size]? =some (.deferred (some []))→Q .normal {a with defers:={target:=.collected w.heap.size,args:=#[]}::a.defers} W):
  (Code.rangeFunc g ps assign body).wpIn F n P Q a w:=by
 refine wpIn_rangeFunc ?_;intro fn lN;rw[hro];obtain⟨rec,mX⟩:∃rec:LoopState→Option Code→Loop,rec=λst pe=>{state:=st,pending:=pe,fn,tmps:=a.tmps,params:=ps,assign,body,defers:=w.heap.size}:=⟨_,rfl⟩
 obtain⟨W1,xX⟩:∃W1,(w.alloc (.deferred (some []))).alloc (.loop (rec .ready none))=W1:=⟨_,rfl⟩
 have hz1:W1.heap.size=w.heap.size+2:=by rw[←xX];simp
 have hL1:W1.heap[w.heap.size+1]? =some (.loop (rec .ready none)):=by
  rw[←xX];have:=World.alloc_heap_new (w.alloc (.deferred (some []))) (.loop (rec .ready none));rwa[zah] at this
 have hK1:W1.heap[w.heap.size]? =some (.deferred (some [])):=by
  rw[←xX];exact(zal _ _ _ sQ).trans (World.alloc_heap_new w _)
 have iA:Below w.heap.size w W1:=by rw[←xX];exact((zn _ w).alloc (zm _) _).alloc sQ _
 have hI1:I false [] W1:=hIa _ _ _ _ h0 iA
 refine⟨w.heap.size+1,[{target:=.collected w.heap.size,args:=#[]}],W1,{target:=.fn (.func gf) lb,args:=#[.func (.yield (w.heap.size+1)) #[] #[]]},W1,gf,
  #[.func (.yield (w.heap.size+1)) #[] #[]]++lb,W1,?_,?_,?_,?_,λ_=>h1,?_⟩
 ·rw[←xX,mX];exact run_enterLoop_outer _ _ _ _ _
 ·simp only[resolve,hg]
  simp[go_sem]
 ·intro f' SL
  simp[Target.leads] at SL;subst SL;exact hFg
 ·simp[invoke,go_sem,eg]
 ·refine(nN W1 iA hz1 (w.heap.size+1)
   (λk pre W=>I k pre W∧W.heap[w.heap.size+1]? =some (.loop (rec .ready none))∧W.heap[w.heap.size]? =some (.deferred (some [])))
   (λs A B h hs=>⟨hIs s A B (zo.1 h.2.1).1 h.1 hs,hSt oQ hs h.2.1 rfl,hSt (zm _) hs h.2.2 rfl⟩) ?_ ⟨hI1,hL1,hK1⟩).mono ?_
  ·rintro k pre x W nP ⟨hi,hl,hk⟩
   have hy:=run_yield (P:=P) (args:=encs x) hl (by rw[mX];exact hps x);rw[mX] at hy;refine⟨fn,_,assign,body,hy,roundIn_of_wpIn lN (hassign _ k pre x W _ hi nP ?_)⟩;clear hy;intro a' Wa Im iX hia hax;have LY:=Im.same _ _ oQ hl rfl;have hka:=Im.same _ _ (zm _) hk rfl;have bA:w.heap.size+1<Wa.heap.size:=(zo.1 LY).1;refine⟨_,run_beginRound LY (by rw[mX]),?_⟩;obtain⟨Wb,Dz⟩:∃Wb,Wa.putObj (w.heap.size+1) (.loop {rec .ready none with state:=.busy})=Wb:=⟨_,rfl⟩
   have LZ:Wb.heap[w.heap.size+1]? =some (.loop {rec .ready none with state:=.busy}):=by rw[←Dz];exact World.putObj_heap_same bA
   have eO:Wb.heap[w.heap.size]? =some (.deferred (some [])):=by rw[←Dz];exact(World.putObj_heap_other oQ).trans hka
   have iy:Kp Wa Wb:=by rw[←Dz];exact hKb _ _ _ LY rfl
   have jQ:I k pre Wb:=by rw[←Dz];exact hIp k _ _ _ _ hia LY rfl
   have YP:Ax pre x a' Wb:=by rw[←Dz];exact hAx pre x a' _ _ _ hax LY rfl
   have hz2:w.heap.size+2≤Wb.heap.size:=by rw[←Dz,World.putObj_size];omega
   rw[Dz];refine wpIn_mono (LW _ k pre x a' _ jQ YP hz2) ?_;rintro e a3 W3 ⟨rfl,gL,DC,Pg⟩;have JO:=gL.same _ _ oQ LZ rfl;have hr:=run_endRound (P:=P) none JO;rw[mX] at hr JO ⊢;refine⟨_,_,hr,rfl,⟨hIp k _ _ _ _ Pg JO rfl,World.putObj_heap_same (zo.1 JO).1,(World.putObj_heap_other oQ).trans (gL.same _ _ (zm _) eO rfl)⟩,YO iX (YO (YO iy DC) (hKb _ _ _ JO rfl))⟩
  ·rintro e W2 ⟨⟨v,rfl⟩,k,L,uD,hi,hl,hk⟩
   refine⟨none,_,by have:=run_endLoop (P:=P) hl (by rw[mX];simp);rw[mX] at this;exact this,LX _ _ _ uD (hIp k _ _ _ _ hi hl rfl) ((World.putObj_heap_other oQ).trans hk)⟩
end
section
open Go.RowKit Go.Shelf
attribute [local go_sem] Oper.semAt_some
theorem K6 (l:List UInt8) (i j:Nat) (m:List UInt8) (h:(l.take j).drop i=m):(⟨l.toArray⟩:ByteArray).extract i j=⟨m.toArray⟩:=by
 apply ByteArray.ext;rw[ByteArray.data_extract,←h];rw[List.extract_toArray,List.extract_eq_drop_take']
def lenOf:Value→Nat
 | .string b=>b.size
 |_=>0
theorem Om (n:Nat) (hn:1≤n) (Bs n₀:Nat) (l:List UInt8) (hl:l.length≤1000) (w:World) (Lu:Bs<w.heap.size) (hc:w.cell? ⟨Bs,0,none⟩=some (.string ⟨l.toArray⟩)):
  SeqStopsK Fence.wide n Tryz.prog 289 #[.pointer (some ⟨Bs,0,none⟩)] (λx:List UInt8=>#[ku x]) (Below n₀) (λys=>ys=pieces l) (λpre=>pre<+:pieces l) (pieces l).length w:=λll J Jx W hW _ _ hY h0=>by
 have hc':=(hW.cell (p:=⟨Bs,0,none⟩) Lu).trans hc;refine callsIn_of_wp Tryz.func289 rfl trivial ?_ rfl;simp only[Tryz.ntmps289,zQ,zA,zN,Nat.reduceAdd,Nat.reduceSub,zJ,zK,zT,zM,zB,zU];gi_wp2;gi_loopw [3] (λv wr=>∃(pre:List (List UInt8)) (r:List UInt8),v=.string ⟨r.toArray⟩∧r.length≤1000∧pre++pieces r=pieces l∧J pre wr) (λv _=>lenOf v)
 case atStart=>exact⟨[],l,rfl,hl,rfl,h0⟩
 case round=>
  obtain⟨pre,r,rfl,hr,hp,hJ⟩:=hrel
  match r,hr,hp with
  |[],hr,hp=>
   gi_wp2;go_end0;exact⟨⟨_,rfl⟩,.inl ⟨_,by rw[←hp];simp[pieces],hJ⟩⟩
  |b::t,hr,hp=>
   rw[KJ] at hp;obtain⟨fn,tmps,assign,body,hy,hR⟩:=hY pre (t.take (cut t)) wr hJ (by rw[←hp];simp);dsimp only[ku] at hy;have wJ:(⟨(b::t).toArray⟩:ByteArray).extract 1 (t.length+1)=⟨t.toArray⟩:=K6 (b::t) 1 (t.length+1) t sQ;have oD:∀k,(⟨t.toArray⟩:ByteArray).extract 0 k=⟨(t.take k).toArray⟩:=λk=>K6 t 0 k _ sQ;have hx3:∀k,(⟨t.toArray⟩:ByteArray).extract k t.length=⟨(t.drop k).toArray⟩:=λk=>K6 t k t.length _ sQ;have CJ:=V9 t;have nY:=aiS t;simp at hr;gi_wp2;refine⟨trivial,(callsIn_wide.2 (Tryz.strings_IndexByte _ 47 _)).mono ?_⟩;rintro e w2 ⟨rfl,rfl⟩;show _;have iq:(Go.Lib.indexByte (⟨t.toArray⟩:ByteArray).data.toList (47:Int).toNat.toUInt8)=Go.Lib.indexByte t 47:=rfl;rw[iq];by_cases hq:Go.Lib.indexByte t 47<0
   ·rw[if_pos hq] at CJ
    gi_wp2;refine hR.mono ?_;rintro e W3 (⟨rfl,pV,gL⟩|⟨rfl,YN⟩)
    ·gi_wp2
     go_roundw
     case rel=>exact⟨pre++[t.take (cut t)],t.drop (cut t),rfl,by rw[zR];omega,by rw[zP];exact hp,pV⟩
     case measure=>simp[lenOf,ByteArray.size]<;>omega
    ·gi_wp2
     refine bodyPost_ret (results_none rfl _ _ _) rfl ?_;exact⟨⟨_,rfl⟩,.inr ⟨_,⟨_,by rw[←hp,zP];rfl⟩,YN⟩⟩
   ·rw[if_neg hq] at CJ
    rw[CJ];gi_wp2;refine hR.mono ?_;rintro e W3 (⟨rfl,pV,gL⟩|⟨rfl,YN⟩)
    ·gi_wp2
     go_roundw
     case rel=>exact⟨pre++[t.take (cut t)],t.drop (cut t),rfl,by rw[zR];omega,by rw[zP];exact hp,pV⟩
     case measure=>simp[lenOf,ByteArray.size]<;>omega
    ·gi_wp2
     refine bodyPost_ret (results_none rfl _ _ _) rfl ?_;exact⟨⟨_,rfl⟩,.inr ⟨_,⟨_,by rw[←hp,zP];rfl⟩,YN⟩⟩
end
section
open Go.RowKit
theorem WQ (l:List UInt8) (w:World):
  Calls Tryz.prog 246 #[.string ⟨l.toArray⟩] w λe w'=>e=.returned (.func (.func 289) #[] #[.pointer (some ⟨w.heap.size,0,none⟩)])∧w'=w.alloc (.cells #[.string ⟨l.toArray⟩] 9):=by
 go_enter Tryz.func246,Tryz.ntmps246;go_wp2;go_ret;exact⟨rfl,rfl⟩
end
end Go.Proofs.YtdjdpeadohobmaaGreatDoor
