/- A part of the walk below the law: what is proved here is used by later parts; no further condition. -/
import Derived.Test.YtdjdpeadohobmaaGreatDoorK35
import Derived.Test.YtdjdpeadohobmaaGreatDoorK37
set_option linter.unusedVariables false
set_option linter.unusedSimpArgs false
set_option maxRecDepth 100000
set_option maxHeartbeats 20000000
namespace Go.Proofs.YtdjdpeadohobmaaGreatDoor
section
open Go.RowKit Go.Shelf Go.Maps O
attribute [local go_sem] Oper.semAt_some
theorem kD {s:Bytes} {D:List Bytes} (h:ni s=some D) (w:World):Calls Tryz.prog 105 #[.string ⟨s.toArray⟩] w λe w'=>∃a c,e=.returned (.slice a D.length c)∧Own 9 w.heap.size w' a c (D.map ku)∧Below w.heap.size w w':=by
 go_enter Tryz.func105,Tryz.ntmps105;go_wp2_with fail;refine(WR s w).mono ?_;rintro e w1 ⟨⟨u,rfl,ha⟩,hB⟩;unfold ny at ha;rw[h] at ha;obtain⟨a,c,rfl,ho⟩:=ha;have HF:=U (And.intro ho hB);clear ho hB;go_wp2_with fail;refine(bY _).mono ?_;rintro e w2 ⟨⟨x,rfl⟩,rfl⟩;go_wp2_with fail;go_ret;exact⟨a,c,rfl,HF.o⟩
def Parts (w:World) (a:Option Addr) (k:Nat) (l:List bI) (za:Nat):Prop:=
 (k=0∧za=1)∨(k=1∧∃g s,a=some ⟨g,0,none⟩∧g<w.heap.size∧w.cell? ⟨g,0,none⟩=some (.string ⟨s.toArray⟩)∧∃(i:Nat) (x:bI),l[i]? =some x∧Py l s=i∧za=x.1)
section
variable {v w:World} {sp d B b n id p:Nat} {C E:Nat→Bytes} {F:Nat→Prop} {k lk:Int} {l:List bI} {c:Bytes} {D R:List Int} {r:Int}
theorem mP {a:Option Addr} {ca kk za:Nat} (hp:ah w p 87 [.pointer (some ⟨b,0,none⟩),.int .i64 B]) (hV:Base v sp d B C) (h:cB v w b sp d C E n F) (hl:∀e∈l,Aj e) (xw:l.length≤15) (hF:mh E B 1 2 lk (b_ l) D r R) (hP:Parts w a kk l za):
  Calls Tryz.prog 104 #[.pointer (some ⟨p,0,none⟩),.slice a kk ca] w λe w'=>e=.returned (.int .i64 za)∧∃F',cB v w' b sp d C E (up (up n)) F'∧Mv d v F w F' w':=by
 have c0:=hp.cell 0;have c1:=hp.cell 1;simp only[zf,zi] at c0 c1;have H:=U h;have HV:=U hV;have HF:=U hF;have Hl:=U hl;have HP:=U hP;clear h hV hF hl hP;go_enter Tryz.func104,Tryz.ntmps104;go_wp2_with fail;have fF:∃parts:List Bytes,parts.length=kk:=⟨List.replicate kk [],qc ..⟩
 obtain⟨parts,fB⟩:=fF;refine(WY HV.o H.o Hl.o xw HF.o fB HP.o).mono ?_;rintro e w1 ⟨rfl,F1,h1,eD⟩;have HZ:=U (And.intro h1 eD);clear h1 eD;go_wp2_with fail;refine(bY _).mono ?_;rintro e w2 ⟨⟨x,rfl⟩,rfl⟩;go_wp2_with fail;go_ret;exact⟨rfl,F1,HZ.o⟩
theorem Bg {q:Nat} (hp:ah w p 87 [.pointer (some ⟨b,0,none⟩),.int .i64 B]) (hV:Base v sp d B C) (h:cB v w b sp d C E n F) (hF:mh E B id k lk c D r R) (hq:c.length=q):
  Calls Tryz.prog 150 #[.pointer (some ⟨p,0,none⟩),.int .i64 id] w λe w'=>e=.returned (.agg (aL (nd k lk q D r)))∧∃F',cB v w' b sp d C E (up n) F'∧Mv d v F w F' w':=by
 have hD:=hF.iW.ld;have jO:(nd k lk (q:Int) D r).length=20:=cO _ _ _ _ _ hD;obtain⟨N,hN⟩:∃N,nd k lk (q:Int) D r=N:=⟨_,rfl⟩
 rw[hN] at jO ⊢;have fU:(Tryz.prog.info? 138).map (·.size)=some N.length:=by rw[jO];kernel_rfl
 obtain⟨w1,aP⟩:∃w1,w.alloc (.cells (aL aQ) 138)=w1:=⟨_,rfl⟩
 have aF:Below w.heap.size w w1:=by rw[←aP];exact(zn _ _).alloc (zm _) _
 have AL:IsNode w1 w.heap.size 138 aQ:=by rw[←aP];exact IsNode.new _ _ _
 have sV:=hp.below aF;have c0:=sV.cell 0;have c1:=sV.cell 1;simp only[zf,zi] at c0 c1;have H:=U h;have H1:=U (h.below aF);have HV:=U hV;have HF:=U hF;have HB:=U aF;have Kj:=U AL;have Hi:=U fU;have Hl:=U (show(aS aQ).length=N.length by rw[jO,aO];rfl);have HNe:=U hN;have Hq:=U hq;clear h hV hF aF AL fU jO hN hp sV hq;go_enter Tryz.func150,Tryz.ntmps150;go_wp2_with (refine Great.wpList_runTo rfl _ rfl _ _ (bg (t:=138) rfl (Z:=aQ) kQ) ?_);refine(Jk HV.o H1.o HF.o).mono ?_;rintro e w2 ⟨rfl,F2,h2,bC⟩;rw[Hq.o,HNe.o];have hn:¬F w.heap.size:=λhf=>by have:=(H.o.lt _ hf).2;omega
 have ZJ:=U (show IsNode w2 w.heap.size 138 aQ from bC.aW (show ah w1 w.heap.size 138 (aS aQ) from Kj.o) dQ hn);have GL:¬F2 w.heap.size:=bC.apart Kj.o.lt hn;have H2:=U h2;have Gh:=U (Mv.after HB.o bC H.o.quiet (λk hk=>(H.o.lt k hk).2));have hz:=bC.size;have hz1:=Kj.o.lt;clear aP h2 bC c0 c1;go_wp2_with (first|(refine Great.wpList_runTo rfl _ rfl _ _ (bg (t:=138) rfl (Z:=aQ) kQ) ?_)|(refine aK rfl 138 _ _ rfl w2.heap.size _ (aS aQ) 138 rfl rfl (IsNode.new w2 138 aQ) Hl.o Hi.o ?_;intro w3 Gc gL lg));have bf:Below w2.heap.size w2 (w2.alloc (.cells (aL aQ) 138)):=(zn _ _).alloc (zm _) _;have ajr:=bf.trans (gL.below _ (zm _) bf.size);have HN3:=U Gc;have GH:=U (ZJ.o.below ajr);have WZ:=U ajr;clear Gc gL bf ajr;refine(bY _).mono ?_;rintro e w4 ⟨⟨x,rfl⟩,rfl⟩;go_wp2_with (first|(refine aX rfl 138 _ rfl w2.heap.size 0 rfl N _ HN3.o.range Tryz.underlying138 rfl Hi.o ?_)|(refine aK rfl 138 _ _ rfl w.heap.size N (aS aQ) 138 rfl rfl GH.o Hl.o Hi.o ?_;intro w5 Px Jo Ki));have fu:=(Gh.o.below WZ.o).kept Jo (.inr (zm _));refine bodyPost_ret (v:=.agg (aL N)) (dN rfl rfl (show ah w5 w.heap.size 138 (aS N) from Px) Tryz.underlying138 rfl (by rw[aO];exact Hi.o)) rfl ⟨rfl,F2,?_,fu⟩;have h4:=H2.o.below WZ.o;exact h4.keep (λk hk=>Jo.block k (h4.lt k hk).2 (λe=>GL (e▸hk))) fu.q' Jo.size
theorem Bh {q:Nat} (hp:ah w p 87 [.pointer (some ⟨b,0,none⟩),.int .i64 B]) (hV:Base v sp d B C) (h:cB v w b sp d C E n F) (hF:mh E B id 1 lk c D r R) (hq:c.length=q):
  Calls Tryz.prog 141 #[.pointer (some ⟨p,0,none⟩),.int .i64 id] w λe w'=>e=.returned (.agg (aL (nd 1 lk q D r)))∧∃F',cB v w' b sp d C E (up n) F'∧Mv d v F w F' w':=by
 have hD:=hF.iW.ld;have jO:(nd 1 lk (q:Int) D r).length=20:=cO _ _ _ _ _ hD;have h0:(nd 1 lk (q:Int) D r)[0]? =some 1:=rfl;obtain⟨N,hN⟩:∃N,nd 1 lk (q:Int) D r=N:=⟨_,rfl⟩
 rw[hN] at jO h0 ⊢;have fU:(Tryz.prog.info? 138).map (·.size)=some N.length:=by rw[jO];kernel_rfl
 obtain⟨w1,aP⟩:∃w1,w.alloc (.cells (aL aQ) 138)=w1:=⟨_,rfl⟩
 have aF:Below w.heap.size w w1:=by rw[←aP];exact(zn _ _).alloc (zm _) _
 have AL:IsNode w1 w.heap.size 138 aQ:=by rw[←aP];exact IsNode.new _ _ _
 have H:=U h;have H1:=U (h.below aF);have HV:=U hV;have HF:=U hF;have HB:=U aF;have Kj:=U AL;have Hi:=U fU;have Hl:=U (show(aS aQ).length=N.length by rw[jO,aO];rfl);have HNe:=U hN;have Hq:=U hq;have Hp1:=U (hp.below aF);have H0:=U h0;clear h hV hF aF AL fU jO hN hp hq h0;go_enter Tryz.func141,Tryz.ntmps141;go_wp2_with (refine Great.wpList_runTo rfl _ rfl _ _ (bg (t:=138) rfl (Z:=aQ) kQ) ?_);refine(Bg Hp1.o HV.o H1.o HF.o Hq.o).mono ?_;rintro e w2 ⟨rfl,F2,h2,bC⟩;rw[HNe.o];have hn:¬F w.heap.size:=λhf=>by have:=(H.o.lt _ hf).2;omega
 have ZJ:=U (show IsNode w2 w.heap.size 138 aQ from bC.aW (show ah w1 w.heap.size 138 (aS aQ) from Kj.o) dQ hn);have GL:¬F2 w.heap.size:=bC.apart Kj.o.lt hn;have H2:=U h2;have Gh:=U (Mv.after HB.o bC H.o.quiet (λk hk=>(H.o.lt k hk).2));have hz:=bC.size;have hz1:=Kj.o.lt;clear aP h2 bC;have aoR:=U (show Below w2.heap.size w2 (w2.alloc (.cells (aL aQ) 138)) from(zn _ _).alloc (zm _) _);go_wp2_with (first|(refine Great.wpList_runTo rfl _ rfl _ _ (bg (t:=138) rfl (Z:=aQ) kQ) ?_)|(refine aK rfl 138 _ _ rfl w2.heap.size _ (aS aQ) 138 rfl rfl (IsNode.new w2 138 aQ) Hl.o Hi.o ?_;intro w3 Gc gL lg;have c0:=Gc.cell 0 _ H0.o;have WZ:=U (aoR.o.trans (gL.below _ (zm _) aoR.o.size));have HN3:=U Gc;have GH:=U (ZJ.o.below WZ.o);clear Gc gL)|(refine aX rfl 138 _ rfl w2.heap.size 0 rfl N _ HN3.o.range Tryz.underlying138 rfl Hi.o ?_)|(refine aK rfl 138 _ _ rfl w.heap.size N (aS aQ) 138 rfl rfl GH.o Hl.o Hi.o ?_;intro w5 Px Jo Ki));have fu:=(Gh.o.below WZ.o).kept Jo (.inr (zm _));refine bodyPost_ret (v:=.agg (aL N)) (dN rfl rfl (show ah w5 w.heap.size 138 (aS N) from Px) Tryz.underlying138 rfl (by rw[aO];exact Hi.o)) rfl ⟨rfl,F2,?_,fu⟩;have h4:=H2.o.below WZ.o;exact h4.keep (λk hk=>Jo.block k (h4.lt k hk).2 (λe=>GL (e▸hk))) fu.q' Jo.size
theorem RG {off m q:Nat} (hp:ah w p 87 [.pointer (some ⟨b,0,none⟩),.int .i64 B]) (hV:Base v sp d B C) (h:cB v w b sp d C E n F) (hF:mh E B id k lk c D r R) (ho:off<c.length) (hm:1≤m∧m≤1000000) (hq:min m (c.length - off)=q):
  Calls Tryz.prog 161 #[.pointer (some ⟨p,0,none⟩),.int .i64 id,.int .i64 off,.int .i64 m] w λe w'=>∃g,e=.returned (.slice (some ⟨g,0,none⟩) q q)∧w.heap.size≤g∧Own 5 w.heap.size w' (some ⟨g,0,none⟩) q (((c.drop off).take m).map aH)∧∃F',cB v w' b sp d C E (up n) F'∧¬F' g∧Mv d v F w F' w':=by
 have c0:=hp.cell 0;have c1:=hp.cell 1;simp only[zf,zi] at c0 c1;have H:=U h;have HV:=U hV;have HF:=U hF;have Hq:=U hq;clear h hV hF hq;go_enter Tryz.func161,Tryz.ntmps161;go_wp2_with fail;refine(Ce HV.o H.o HF.o ho hm Hq.o).mono ?_;rintro e w1 ⟨g,rfl,hg,xM,F1,h1,tq,eD⟩;have HZ:=U (And.intro xM (And.intro h1 (And.intro tq eD)));clear xM h1 tq eD;go_wp2_with fail;refine(bY _).mono ?_;rintro e w2 ⟨⟨x,rfl⟩,rfl⟩;go_wp2_with fail;go_ret;exact⟨g,rfl,hg,HZ.o.1,F1,HZ.o.2⟩
end
theorem W_ (w:World) (a:Option Addr) (l:List bI):Parts w a 0 l 1:=Or.inl ⟨rfl,rfl⟩
section
variable {v w:World} {sp d B b n p:Nat} {C E:Nat→Bytes} {F:Nat→Prop} {lk:Int} {l:List bI} {D R:List Int} {r:Int} {s:Bytes}
theorem Jq {g ca:Nat} (hp:ah w p 87 [.pointer (some ⟨b,0,none⟩),.int .i64 B]) (Pv:¬F p) (hV:Base v sp d B C) (h:cB v w b sp d C E n F) (hl:∀e∈l,Aj e) (xw:l.length≤15) (hF:mh E B 1 2 lk (b_ l) D r R) (hg:w.cell? ⟨g,0,none⟩=some (.string ⟨s.toArray⟩)) (tq:¬F g∧g≠d):
  Calls Tryz.prog 222 #[.pointer (some ⟨p,0,none⟩),.slice (some ⟨g,0,none⟩) 1 ca] w λe w'=>e=.returned (.agg #[.int .i64 1,.string ⟨s.toArray⟩])∧∃F',cB v w' b sp d C E (up (up n)) F'∧Mv d v F w F' w':=by
 obtain⟨w1,aP⟩:∃w1,w.alloc (.cells #[.int .i64 0,.string ⟨#[]⟩] 216)=w1:=⟨_,rfl⟩
 obtain⟨aM,aF,hz1⟩:=boxes [([.int .i64 0,.string ⟨#[]⟩],216)] w w1 (by rw[←aP];rfl);have x0:ah w1 w.heap.size 216 [.int .i64 0,.string ⟨#[]⟩]:=aM 0 _ rfl;have l7:=zq w _ hg;have d0:=(aF.cell (p:=⟨g,0,none⟩) l7).trans hg;have H:=U h;have H1:=U (h.below aF);have HV:=U hV;have HF:=U hF;have HB:=U aF;have Hl:=U hl;have X0:=U x0;have Hp1:=U (hp.below aF);have D0:=U d0;have vR:w1.heap.size=w.heap.size+1:=by simpa using hz1
 clear h hV aM aF hz1 x0 hF hl hp hg;go_enter Tryz.func222,Tryz.ntmps222;go_wp2_with fail;refine wp_region_noPanic ?_;refine ak (S:=(λW=>W.cell? ⟨g,0,none⟩=some (.string ⟨s.toArray⟩))) (m:=10) kQ d0 (λaj=>?_);refine te 0 aj ?_;refine te 1 aj ?_;refine te 2 aj ?_;refine te 3 aj ?_;refine te 5 aj ?_;refine te 6 aj ?_;refine te 7 aj ?_;refine te 8 aj ?_;refine rE 4 λK hK=>?_;go_simp;with_reducible refine(mP (Hp1.o.below (zn _ _).drew) HV.o (H1.o.below (zn _ _).drew) Hl.o xw HF.o (W_ _ _ _)).mono ?_
 rintro e w2 ⟨rfl,F2,h2,bC⟩;have dg:=(zS (w:=w1) (a:=⟨g,0,none⟩) (bC.keep (show g<w1.heap.size by omega) tq.2 tq.1)).trans D0.o;have AO:¬F w.heap.size:=λhf=>by have:=(H.o.lt _ hf).2;omega
 have x2:=bC.aW (X0.o.below (zn _ _).drew) dQ AO;have GL:=bC.apart (show w.heap.size<w1.drew.heap.size from(by have:w1.drew.heap.size=w1.heap.size:=rfl;omega)) AO;have HZ:=U (And.intro h2 (And.intro (Mv.after (HB.o.drew) bC H.o.quiet (λk hk=>(H.o.lt k hk).2)) GL));have X2:=U x2;have e0:=x2.cell 0;have e1:=x2.cell 1;have f0:=x2.free 0;have f1:=x2.free 1;simp only[zf,zi] at e0 e1;clear h2 bC x2 AO GL;go_wp2_with fail;refine hK.out _ _ (λ_=>dg) (λhS=>?_);have bQ:=hS dQ;clear hS hK K
 try simp only[Act.put,zh,zk,zl]
 refine te 9 bQ ?_;refine rE 10 λK hK=>?_;go_simp;refine kX hK ?_;clear hK K
 try simp only[Act.put,zh,zk,zl]
 refine aD ?_;obtain⟨W,hW⟩:∃W,(w2.setCell ⟨w.heap.size,0,none⟩ (.int .i64 1)).setCell ⟨w.heap.size,1,none⟩ (.string ⟨s.toArray⟩)=W:=⟨_,rfl⟩
 have RH:Kept w.heap.size w2 W:=by rw[←hW];exact(Kept.setCell _ _ _).trans (Kept.setCell _ _ _)
 have hT:ah W w.heap.size 216 [.int .i64 1,.string ⟨s.toArray⟩]:=by rw[←hW];exact(X2.o.aB 0 (.int .i64 1)).aB 1 (.string ⟨s.toArray⟩)
 rw[hW];clear hW e0 e1 f0 f1;go_wp2_with fail;obtain⟨z1,z2,z3⟩:=HZ.o;have fu:=z2.kept RH (.inr (zm _));refine bodyPost_ret (v:=.agg #[.int .i64 1,.string ⟨s.toArray⟩]) (dN rfl rfl hT Tryz.underlying216 rfl kQ) rfl ⟨rfl,F2,z1.keep (λk hk=>RH.block k (z1.lt k hk).2 (λe=>z3 (e▸hk))) fu.q' RH.size,fu⟩
theorem RI {g ca:Nat} (hp:ah w p 87 [.pointer (some ⟨b,0,none⟩),.int .i64 B]) (Pv:¬F p) (hV:Base v sp d B C) (h:cB v w b sp d C E n F) (hl:∀e∈l,Aj e) (xw:l.length≤15) (hF:mh E B 1 2 lk (b_ l) D r R) (kZ:Py l s= -1) (hg:w.cell? ⟨g,0,none⟩=some (.string ⟨s.toArray⟩)) (tq:¬F g∧g≠d):
  Calls Tryz.prog 142 #[.pointer (some ⟨p,0,none⟩),.slice (some ⟨g,0,none⟩) 1 ca] w λe w'=>e=.returned (.agg #[.int .i64 1,.string ⟨s.toArray⟩])∧∃F',cB v w' b sp d C E (up (up (up (up n)))) F'∧Mv d v F w F' w':=by
 obtain⟨w1,aP⟩:∃w1,w.alloc (.cells #[.int .i64 0,.string ⟨#[]⟩] 216)=w1:=⟨_,rfl⟩
 obtain⟨aM,aF,hz1⟩:=boxes [([.int .i64 0,.string ⟨#[]⟩],216)] w w1 (by rw[←aP];rfl);have x0:ah w1 w.heap.size 216 [.int .i64 0,.string ⟨#[]⟩]:=aM 0 _ rfl;have l7:=zq w _ hg;have d0:=(aF.cell (p:=⟨g,0,none⟩) l7).trans hg;have fB:=hp.lt;have H:=U h;have H1:=U (h.below aF);have HV:=U hV;have HF:=U hF;have HB:=U aF;have Hl:=U hl;have Qc:=U kZ;have X0:=U x0;have Hp1:=U (hp.below aF);have D0:=U d0;have vR:w1.heap.size=w.heap.size+1:=by simpa using hz1
 clear h hV aM aF hz1 x0 hF hl hp hg d0 kZ;go_enter Tryz.func142,Tryz.ntmps142;go_wp2_with fail;refine(Jq Hp1.o Pv HV.o H1.o Hl.o xw HF.o D0.o tq).mono ?_;rintro e w2 ⟨rfl,F2,h2,bC⟩;have AO:¬F w.heap.size:=λhf=>by have:=(H.o.lt _ hf).2;omega
 have x2:=bC.aW X0.o dQ AO;have p2:=bC.aW Hp1.o dQ Pv;have nx2:=bC.apart X0.o.lt AO;have np2:=bC.apart oQ Pv;have hz2:=bC.size;have HZ:=U (And.intro h2 (Mv.after HB.o bC H.o.quiet (λk hk=>(H.o.lt k hk).2)));obtain⟨w3,gV⟩:∃w3,w2.alloc (.cells #[.int .i64 1,.string ⟨s.toArray⟩] 216)=w3:=⟨_,rfl⟩
 have bf:Below w2.heap.size w2 w3:=by rw[←gV];exact(zn _ _).alloc (zm _) _
 have y3:ah w3 w2.heap.size 216 [.int .i64 1,.string ⟨s.toArray⟩]:=by rw[←gV];exact ah.new w2 _ _
 have mF:w3.heap.size=w2.heap.size+1:=by rw[←gV];simp
 have e0:=(p2.below bf).cell 0;have e1:=(p2.below bf).cell 1;have q0:=y3.cell 0;have q1:=y3.cell 1;simp only[zf,zi] at e0 e1 q0 q1;have sU:=U (HZ.o.1.below bf);have vX:=U (HZ.o.2.below bf);have HP3:=U (And.intro (p2.below bf) (And.intro y3 (x2.below bf)));have Qn:=U h2.lt;clear h2 bC x2 p2 bf y3 HZ;go_wp2_with fail;refine wp_region_noPanic ?_;refine ak (S:=(λW=>W.cell? ⟨p,0,none⟩=some (.pointer (some ⟨b,0,none⟩))∧W.cell? ⟨p,1,none⟩=some (.int .i64 B)∧W.cell? ⟨w2.heap.size,0,none⟩=some (.int .i64 1)∧W.cell? ⟨w2.heap.size,1,none⟩=some (.string ⟨s.toArray⟩))) (m:=13) kQ ⟨e0,e1,q0,q1⟩ (λaj=>?_);refine te 0 aj ?_;refine te 1 aj ?_;refine te 2 aj ?_;refine te 3 aj ?_;refine te 4 aj ?_;refine te 5 aj ?_;refine te 6 aj ?_;refine te 7 aj ?_;refine rE 8 λK hK=>?_;go_simp;refine(Jp (s:=s) HV.o (sU.o.below (zn _ _).drew) Hl.o xw HF.o (.inr ⟨Qc.o,rfl,rfl⟩)).mono ?_;rintro e w4 ⟨rfl,F4,h4,dI⟩;have ny4:¬F2 w2.heap.size:=λhf=>by have:=(Qn.o _ hf).2;omega
 have p4:=dI.aW (HP3.o.1.below (zn _ _).drew) dQ np2;have y4:=dI.aW (HP3.o.2.1.below (zn _ _).drew) dQ ny4;have x4:=dI.aW (HP3.o.2.2.below (zn _ _).drew) dQ nx2;have nx4:=dI.apart (show w.heap.size<w3.drew.heap.size from(by have:w3.drew.heap.size=w3.heap.size:=rfl;omega)) nx2;have r0:=y4.cell 0;have r1:=y4.cell 1;have u0:=x4.cell 0;have u1:=x4.cell 1;have f0:=x4.free 0;have f1:=x4.free 1;simp only[zf,zi] at r0 r1 u0 u1;have HX:=U (And.intro h4 (And.intro (vX.o.trans (Mv.after ((zn _ _).drew) dI sU.o.quiet (λk hk=>(sU.o.lt k hk).2))) (And.intro x4 nx4)));clear h4 dI nx4;go_wp2_with fail;refine hK.out _ _ (λ_=>⟨p4.cell 0,p4.cell 1,y4.cell 0,y4.cell 1⟩) (λhS=>?_);have bQ:=hS dQ;clear hS hK K
 try simp only[Act.put,zh,zk,zl]
 refine te 9 bQ ?_;refine te 10 bQ ?_;refine te 11 bQ ?_;refine te 12 bQ ?_;refine vF 13 ?_;refine aD ?_;go_wp2_with fail;obtain⟨z1,z2,x4,nx4⟩:=HX.o;obtain⟨W,hW⟩:∃W,(w4.setCell ⟨w.heap.size,0,none⟩ (.int .i64 1)).setCell ⟨w.heap.size,1,none⟩ (.string ⟨s.toArray⟩)=W:=⟨_,rfl⟩
 have RH:Kept w.heap.size w4 W:=by rw[←hW];exact(Kept.setCell _ _ _).trans (Kept.setCell _ _ _)
 have hT:ah W w.heap.size 216 [.int .i64 1,.string ⟨s.toArray⟩]:=by rw[←hW];exact(x4.aB 0 (.int .i64 1)).aB 1 (.string ⟨s.toArray⟩)
 rw[hW];have fu:=z2.kept RH (.inr (zm _));refine bodyPost_ret (v:=.agg #[.int .i64 1,.string ⟨s.toArray⟩]) (dN rfl rfl hT Tryz.underlying216 rfl kQ) rfl ⟨rfl,F4,z1.keep (λk hk=>RH.block k (z1.lt k hk).2 (λe=>nx4 (e▸hk))) fu.q' RH.size,fu⟩
theorem Xa {q:Nat} (hp:ah w p 87 [.pointer (some ⟨b,0,none⟩),.int .i64 B]) (hV:Base v sp d B C) (h:cB v w b sp d C E n F) (hF:mh E B 1 2 lk (b_ l) D r R) (hq:(b_ l).length=q) (IL:q≤480):
  Calls Tryz.prog 220 #[.pointer (some ⟨p,0,none⟩),.agg #[.int .i64 1,.string ⟨s.toArray⟩]] w λe w'=>(∃x,e=.returned x)∧∃F',cB v w' b sp d C E (up n) F'∧Mv d v F w F' w':=by
 obtain⟨w1,aP⟩:∃w1,w.alloc (.cells #[.int .i64 1,.string ⟨s.toArray⟩] 216)=w1:=⟨_,rfl⟩
 obtain⟨aM,aF,hz1⟩:=boxes [([.int .i64 1,.string ⟨s.toArray⟩],216)] w w1 (by rw[←aP];rfl);have x0:ah w1 w.heap.size 216 [.int .i64 1,.string ⟨s.toArray⟩]:=aM 0 _ rfl;have y0:=x0.cell 0;simp only[zf] at y0;have H:=U h;have H1:=U (h.below aF);have HV:=U hV;have HF:=U hF;have HB:=U aF;have Hp1:=U (hp.below aF);have Hq:=U hq;have hD:=U hF.iW.ld;obtain⟨z,Gl⟩:∃z:Int,(q:Int)=z:=⟨_,rfl⟩
 have bA:¬((122880:Int)≤z):=oQ
 have Hq2:=U IL;clear IL;clear h hV aM aF hz1 x0 hF hp hq;go_enter Tryz.func220,Tryz.ntmps220;go_wp2_with fail;refine(Bg Hp1.o HV.o H1.o HF.o Hq.o).mono ?_;rintro e w2 ⟨rfl,F2,h2,bC⟩;obtain⟨N,hN⟩:∃N,nd 2 lk (q:Int) D r=N:=⟨_,rfl⟩
 rw[hN];have hex:∀W,(Instr.field 138 (.agg (aL N)) 2).run Tryz.prog W=.ok (.int .i64 z) W:=by
  intro W;rw[←hN,←Gl]
  kernel_rfl
 clear Gl;clear hN;have HZ:=U (And.intro h2 (Mv.after HB.o bC H.o.quiet (λk hk=>(H.o.lt k hk).2)));clear h2 bC;go_wp2_with fail;go_end0;exact⟨⟨_,rfl⟩,F2,HZ.o⟩
theorem abz {m:Nat} (hs:nm s=true) (hm:1≤m∧m≤3839) (hp:ah w p 87 [.pointer (some ⟨b,0,none⟩),.int .i64 B]) (Pv:¬F p) (hV:Base v sp d B C) (h:cB v w b sp d C E n F) (hl:∀e∈l,Aj e) (xw:l.length≤14) (hF:mh E B 1 2 lk (b_ l) D r R) (kZ:Py l s= -1) {q:Nat} (hq:l.length=q) (hz:aG (E 0) 0=true) (dx:cnt (E 0) B+need (32*(q+1))≤B+need (32*q)):
  Calls Tryz.prog 143 #[.pointer (some ⟨p,0,none⟩),.agg #[.int .i64 1,.string ⟨s.toArray⟩],.int .i64 m] w λx w'=>(∃y,x=.returned y)∧∃E' D' r' R' F',Wrote E E' B 1 2 lk (b_ l) (b_ (l++[(m,s)])) D r R D' r' R'∧cB v w' b sp d C E' (n+16) F'∧Mv d v F w F' w':=by
 obtain⟨w1,aP⟩:∃w1,w.alloc (.cells #[.int .i64 1,.string ⟨s.toArray⟩] 216)=w1:=⟨_,rfl⟩
 obtain⟨aM,aF,hz1⟩:=boxes [([.int .i64 1,.string ⟨s.toArray⟩],216)] w w1 (by rw[←aP];rfl);have x0:ah w1 w.heap.size 216 [.int .i64 1,.string ⟨s.toArray⟩]:=aM 0 _ rfl;have y0:=x0.cell 0;have y1:=x0.cell 1;have p1:=hp.below aF;have e0:=p1.cell 0;have e1:=p1.cell 1;simp only[zf,zi] at y0 y1 e0 e1;have H:=U h;have H1:=U (h.below aF);have HV:=U hV;have HF:=U hF;have HB:=U aF;have Hl:=U hl;have Hp1:=U (And.intro p1 x0);have Qc:=U kZ;have Hq:=U hq;clear h hV aM aF hz1 x0 hF hp hq hl kZ p1;go_enter Tryz.func143,Tryz.ntmps143;go_wp2_with fail;refine wp_region_noPanic ?_;refine ak (S:=(λW=>W.cell? ⟨p,0,none⟩=some (.pointer (some ⟨b,0,none⟩))∧W.cell? ⟨p,1,none⟩=some (.int .i64 B)∧W.cell? ⟨w.heap.size,0,none⟩=some (.int .i64 1)∧W.cell? ⟨w.heap.size,1,none⟩=some (.string ⟨s.toArray⟩))) (m:=11) kQ ⟨e0,e1,y0,y1⟩ (λaj=>?_);refine te 0 aj ?_;refine te 1 aj ?_;refine te 2 aj ?_;refine te 3 aj ?_;refine te 4 aj ?_;refine te 5 aj ?_;refine te 6 aj ?_;refine te 7 aj ?_;refine te 8 aj ?_;refine rE 9 λK hK=>?_;go_simp;refine(abu hs hm HV.o (H1.o.below (zn _ _).drew) Hl.o xw HF.o Qc.o Hq.o hz dx).mono ?_;rintro e w4 ⟨rfl,E',D',r',R',F4,xP,h4,dI⟩;have p4:=dI.aW (Hp1.o.1.below (zn _ _).drew) dQ Pv;have x4:=dI.aW (Hp1.o.2.below (zn _ _).drew) dQ (λhf=>by have:=(H.o.lt _ hf).2;omega);have HX:=U (And.intro xP (And.intro h4 (Mv.after (HB.o.drew) dI H.o.quiet (λk hk=>(H.o.lt k hk).2))));clear xP h4 dI;go_wp2_with fail;refine hK.out _ _ (λ_=>⟨p4.cell 0,p4.cell 1,x4.cell 0,x4.cell 1⟩) (λhS=>?_);have bQ:=hS dQ;clear hS hK K
 try simp only[Act.put,zh,zk,zl]
 refine rE 10 λK hK=>?_;go_simp;with_reducible refine(bY _).mono ?_
 rintro e w5 ⟨⟨x,rfl⟩,rfl⟩;go_wp2_with fail;refine hK.out _ _ (λ_=>bQ) (λhS=>?_);have bV:=hS dQ;clear hS hK K
 try simp only[Act.put,zh,zk,zl]
 refine aD ?_;go_wp2_with fail;go_end0;exact⟨⟨_,rfl⟩,E',D',r',R',F4,HX.o⟩
end
theorem pJ {s:Bytes} (hs:nm s=true):ni (47::s)=some [s]:=by
 have h1:=Q_ hs;have hl:1≤s.length∧s.length≤28:=by
  unfold nm at hs;rw[decide_eq_true_iff] at hs;exact⟨hs.1,hs.2.1⟩
 have hsc:scan [] s=[s]:=by
  have h2:=VZ h1 [] [];rw[qD,zB] at h2;rw[h2];rfl
 unfold ni
 rw[if_neg (by intro e;injection e with _ e;rw[e] at hl;simp at hl),if_neg (by
  rintro(h|h|h)
  ·cases h
  ·rw[zA] at h;omega
  ·exact h rfl),List.tail_cons,hsc,List.all_cons,hs]
 rfl
theorem Tr.aeZ {E:nR} {B:Nat} {x:Nd} {fl:nU} {s:Bytes} (h:∀f∈fl,f.2≠s):Py (ents fl) s= -1:=Ow (λe he=>by
 obtain⟨g,hg,rfl⟩:=qj.1 he;exact h g hg)
theorem wD.Fq {E E1:nR} {B m:Nat} {x:Nd} {fl:nU} (h:Tr E B x fl) (hm:wD E E1 B m 1):mh E1 B 1 2 1 (b_ (ents fl)) x.D x.r x.R:=by
 have h1:=(h.disk.make hm).wu x sQ;unfold Nd.ok at h1;rw[h.root.1,h.root.2.1,h.root.2.2] at h1;exact h1
theorem mvX {d:Nat} {v w1 w2:World} {b:Nat} {F2 X:Nat→Prop} (h:Mv d v (· =b) w1 F2 w2) (hX:∀k,X k→v.heap.size≤k∧k<w1.heap.size):Mv d v (λk=>k=b∨X k) w1 (λk=>F2 k∨X k) w2:=
 h.more (λk hk=>.inl hk) (λk hk=>by
  rcases hk with hk|hk
  ·exact h.lt k hk
  ·exact hX k hk) (λk hk=>by
  rcases hk with hk|hk
  ·exact .inr (.inl hk)
  ·exact .inl (.inr hk))
section
variable {v w w1:World} {sp d B b p t1 t2:Nat} {C:Nat→Bytes} {x:Nd} {fl:nU} {s:Bytes}
theorem Xb (hj:jI v w d B C sp w1 p b) (hT:Tr C B x fl) (gD:fl.length≤2) (hs:nm s=true) (kZ:∀f∈fl,f.2≠s) (dx:cnt (C 0) B+1+need (32*(fl.length+1))≤B+need (32*fl.length))
  (x1:ah w1 t1 9 [.string ⟨(47::s).toArray⟩]) (x2:ah w1 t2 3 [.int .i64 1]) (n2:t2≠b):
  Calls Tryz.prog 219 #[.pointer (some ⟨p,0,none⟩),.pointer (some ⟨t1,0,none⟩),.pointer (some ⟨t2,0,none⟩)] w1 λe w2=>(∃x,e=.returned x)∧∃E' F2,(∃m x',Tr E' B x' (fl++[(⟨m,1,[],bN,0,aT⟩,s)]))∧cB v w2 b sp d C E' 24 F2∧Mv d v (· =b) w1 F2 w2:=by
 obtain⟨hV,hq,gJ,iX,hp,⟨sV,iA,pY⟩,nD⟩:=hj;have hB:=hT.big;have hnm:=Jl (show 32*fl.length≤32*(fl.length+1) by omega);have c1:=x1.cell 0;simp only[zf] at c1;have fB:=hp.lt;have Tq:=x2.lt;have eX:=hV.yE;have hvq:=hq.size;have aoT:=Tr.aeZ (E:=C) (B:=B) (x:=x) kZ;have JL:=hT.size;have nI:b<w1.heap.size:=(nD.lt b rfl).2;have HV:=U hV;have HP:=U hp;have HS:=U nD;have HT:=U hT;have X2:=U x2;have aoU:=U aoT;have Hs:=U hs;have Hq:=U hq;have avw:=U JL;have Qc:=U kZ;clear hV hp nD hT x1 x2 aoT hs hq iX JL kZ;go_enter Tryz.func219,Tryz.ntmps219;go_wp2_with fail;refine(kD (pJ Hs.o) w1).mono ?_;rintro e w2 ⟨a,c,rfl,ho,aJ⟩;obtain⟨g,rfl⟩:=nC ho sQ;have jr:=ho.cell 0 sQ;have l7:=eu ho;have jr:w2.cell? ⟨g,0,none⟩=some (.string ⟨s.toArray⟩):=jr;have bH:=U aJ;have hz2:=aJ.size;have HG:=U jr;rw[zY];clear ho aJ c1 jr;go_wp2_with fail;refine(RI (HP.o.below bH.o) oQ HV.o (HS.o.below bH.o) HT.o.wF (by rw[bJ];omega) HT.o.Fq aoU.o HG.o ⟨oQ,oQ⟩).mono ?_;rintro e w3 ⟨rfl,F3,h3,dP⟩;have h3:cB v w3 b sp d C C 0 F3:=h3;have p3:=dP.aW (HP.o.below bH.o) dQ pY;have Xc:=dP.apart (show p<w2.heap.size by omega) pY;have k3:=dP.aW (X2.o.below bH.o) dQ n2;have Oz:=dP.apart (show t2<w2.heap.size by omega) n2;have mF:=dP.size;obtain⟨w4,gH⟩:∃w4,w3.alloc (.cells #[.int .i64 1,.string ⟨s.toArray⟩] 216)=w4:=⟨_,rfl⟩
 have dX:Below w3.heap.size w3 w4:=by rw[←gH];exact(zn _ _).alloc (zm _) _
 have y4:ah w4 w3.heap.size 216 [.int .i64 1,.string ⟨s.toArray⟩]:=by rw[←gH];exact ah.new w3 _ _
 have Ah:w4.heap.size=w3.heap.size+1:=by rw[←gH];simp
 have y0:=y4.cell 0;have y1:=y4.cell 1;simp only[zf,zi] at y0 y1;have LC:¬F3 w3.heap.size:=λhf=>by have:=(h3.lt _ hf).2;omega
 have Gg:=U (dP.below dX);have H4:=U (h3.below dX);have Xd:=U (And.intro (p3.below dX) (And.intro (k3.below dX) y4));have ZC:=U (And.intro Xc (And.intro Oz LC));clear h3 dP p3 Xc k3 Oz dX y4 LC;go_wp2_with fail;refine(Xa Xd.o.1 HV.o H4.o HT.o.Fq avw.o oQ).mono ?_;rintro e w5 ⟨⟨u,rfl⟩,F5,h5,fu⟩;have h5:cB v w5 b sp d C C 0 F5:=h5;obtain⟨Xc,Oz,LC⟩:=ZC.o;have p5:=fu.aW Xd.o.1 dQ Xc;have k5:=fu.aW Xd.o.2.1 dQ Oz;have s5:=fu.aW Xd.o.2.2 dQ LC;have BN:=fu.size;have Qt:=U (And.intro (fu.apart (show p<w4.heap.size by omega) Xc) (And.intro (fu.apart (show t2<w4.heap.size by omega) Oz) (fu.apart (show w3.heap.size<w4.heap.size by omega) LC)));have Yt:=U (And.intro p5 (And.intro k5 s5));have HM5:=U (Gg.o.trans fu);have H5:=U h5;have e0:=p5.cell 0;have e1:=p5.cell 1;have e2:=k5.cell 0;simp only[zf,zi] at e0 e1 e2;clear h5 fu p5 k5 s5 Xc Oz LC y0 y1 gH;go_wp2_with fail;refine wp_region_noPanic ?_;refine ak (S:=(λW=>W.cell? ⟨p,0,none⟩=some (.pointer (some ⟨b,0,none⟩))∧W.cell? ⟨p,1,none⟩=some (.int .i64 B)∧W.cell? ⟨t2,0,none⟩=some (.int .i64 1))) (m:=10) kQ ⟨e0,e1,e2⟩ (λaj=>?_);refine te 0 aj ?_;refine te 1 aj ?_;refine te 2 aj ?_;refine te 3 aj ?_;refine te 4 aj ?_;refine rE 5 λK hK=>?_;go_simp;with_reducible refine(aaS HV.o (H5.o.below (zn _ _).drew) (.inl rfl) HT.o.zero oQ).mono ?_
 rintro e w6 ⟨m,rfl,E1,hmd,F6,h6,tL⟩;have p6:=tL.aW (Yt.o.1.below (zn _ _).drew) dQ Qt.o.1;have k6:=tL.aW (Yt.o.2.1.below (zn _ _).drew) dQ Qt.o.2.1;have s6:=tL.aW (Yt.o.2.2.below (zn _ _).drew) dQ Qt.o.2.2;have np6:=tL.apart (show p<w5.drew.heap.size from(by have:w5.drew.heap.size=w5.heap.size:=rfl;omega)) Qt.o.1;have HX:=U (And.intro hmd (And.intro h6 (And.intro (HM5.o.trans (Mv.after ((zn _ _).drew) tL H5.o.quiet (λk hk=>(H5.o.lt k hk).2))) (And.intro p6 (And.intro s6 np6)))));clear hmd h6 tL np6;go_wp2_with fail;refine hK.out _ _ (λ_=>⟨p6.cell 0,p6.cell 1,k6.cell 0⟩) (λhS=>?_);have bQ:=hS dQ;clear hS hK K
 try simp only[Act.put,zh,zk,zl]
 refine te 6 bQ ?_;refine te 7 bQ ?_;refine te 8 bQ ?_;refine te 9 bQ ?_;refine vF 10 ?_;refine aD ?_;have q0:=HX.o.2.2.2.2.1.cell 0;have q1:=HX.o.2.2.2.2.1.cell 1;simp only[zf,zi] at q0 q1;clear e0 e1 e2 p6 k6 s6;go_wp2_with fail;refine(bY _).mono ?_;rintro e w6 ⟨⟨u,rfl⟩,rfl⟩;go_wp2_with fail;obtain⟨hmd,h6,hM6,p6,s6,np6⟩:=HX.o;have hmo:=hmd.wu.iW.own;refine(abz Hs.o ⟨oQ,oQ⟩ p6 np6 HV.o h6 HT.o.wF (by rw[bJ];omega) (wD.Fq HT.o hmd) aoU.o (bJ fl) ((hmd.bits 0).2 (.inl HT.o.zero)) (by have:=hmd.num;omega)).mono ?_;rintro e w7 ⟨⟨u,rfl⟩,E',D',r',R',F7,xP,h7,rz⟩;have HZ:=U (And.intro (HT.o.made gD Hs.o Qc.o hmd xP) (And.intro (h7.mono (by omega:0+4+16≤24)) ((Mv.after bH.o hM6 Hq.o (λk hk=>by subst hk;omega)).trans rz)));clear xP h7 rz hmd h6 hM6 p6 s6 np6 q0 q1;go_wp2_with fail;go_end0;exact⟨⟨_,rfl⟩,E',F7,⟨m,_,HZ.o.1⟩,HZ.o.2⟩
end
theorem jI.aW {v w w1:World} {d B sp p b:Nat} {C:Nat→Bytes} (h:jI v w d B C sp w1 p b) {t:Nat} {T:TypeId} {vs:List Value} (hv:ah w t T vs) (ht:v.heap.size≤t):ah w1 t T vs:=(h.keep t ht hv.lt).trans hv
section
variable {v:World} {fb d B P q n:Nat} {C:Nat→Bytes} {cl yo:Bool} {op:Op} {F:Nat→Prop} {x:Nd} {fl:nU} {s:Bytes}
theorem Xe (h:fI v fb d B P q n C cl yo op F) (hT:Tr C B x fl) (hq:q<1000000) (gD:fl.length≤2) (hs:nm s=true) (kZ:∀f∈fl,f.2≠s) (dx:cnt (C 0) B+1+need (32*(fl.length+1))≤B+need (32*fl.length)):
  Calls Tryz.prog 139 #[.pointer (some ⟨fb,0,none⟩),.string ⟨(47::s).toArray⟩,.int .i64 1] v λe w'=>e=.returned (.int .i64 0)∧∃E' x' m q' F',Tr E' B x' (fl++[(⟨m,1,[],bN,0,aT⟩,s)])∧fI w' fb d B P q' n E' false yo op F'∧Step F v F' w'∧(q≤q'∧q'≤q+1):=by
 obtain⟨w1,aP⟩:∃w1,(v.alloc (.cells #[.string ⟨(47::s).toArray⟩] 9)).alloc (.cells #[.int .i64 1] 3)=w1:=⟨_,rfl⟩
 obtain⟨aM,aF,hz1⟩:=boxes [([.string ⟨(47::s).toArray⟩],9),([.int .i64 1],3)] v w1 (by rw[←aP];rfl);have x0:ah w1 v.heap.size 9 [.string ⟨(47::s).toArray⟩]:=aM 0 _ rfl;have x1:ah w1 (v.heap.size+1) 3 [.int .i64 1]:=aM 1 _ rfl;have vR:w1.heap.size=v.heap.size+2:=by simpa using hz1
 have HF:=U h;have HT:=U hT;have HB:=U aF;have X0:=U x0;have X1:=U x1;have Qc:=U kZ;have Hs:=U hs;clear h hT aM aF hz1 x0 x1 kZ hs;go_enter Tryz.func139,Tryz.ntmps139;go_wp2_with fail;refine(jJ HF.o HT.o.big HB.o hq (n':=24) oQ (fn:=219) (λ_ _=>rfl) (X:=λ_=>False) (λ_ h=>h.elim) (PE:=λE' _=>∃m x',Tr E' B x' (fl++[(⟨m,1,[],bN,0,aT⟩,s)])) (λE' W h=>h.choose_spec.choose_spec.o) (λsp w2 p b hj=>?_)).mono ?_
 ·refine(Xb hj HT.o gD Hs.o Qc.o dx (hj.aW X0.o oQ) (hj.aW X1.o oQ) (by have:=hj.new;omega)).mono ?_
  rintro e w3 ⟨hx,E',F2,h1,h2,h3⟩;exact⟨hx,E',F2,h1,h2,mvX h3 (λ_ h=>h.elim)⟩
 rintro e w3 ⟨rfl,E',w2,⟨m,x',Gp⟩,hD⟩;obtain⟨q',cl',F',hS,bT,GZ, -, -⟩:=hD.ex;have HZ:=U (And.intro Gp (And.intro hS.dirty (And.intro bT GZ)));clear Gp hS bT GZ hD;go_wp2_with fail;go_ret;exact⟨rfl,E',x',m,q',F',HZ.o⟩
theorem OA (h:fI v fb d B P q n C cl yo op F) (hT:Tr C B x fl) (hq:q<1000000) (gD:fl.length≤2) (hs:nm s=true) (kZ:∀f∈fl,f.2≠s) (dx:cnt (C 0) B+1+need (32*(fl.length+1))≤B+need (32*fl.length)):
  Calls Tryz.prog 70 #[.pointer (some ⟨fb,0,none⟩),.string ⟨(47::s).toArray⟩] v λe w'=>e=.returned (.int .i64 0)∧∃E' x' m q' F',Tr E' B x' (fl++[(⟨m,1,[],bN,0,aT⟩,s)])∧fI w' fb d B P q' n E' false yo op F'∧Step F v F' w'∧(q≤q'∧q'≤q+1):=by
 have HF:=U h;have HT:=U hT;have Qc:=U kZ;have Hs:=U hs;clear h hT kZ hs;go_enter Tryz.func70,Tryz.ntmps70;go_wp2_with fail;refine(Xe HF.o HT.o hq gD Hs.o Qc.o dx).mono ?_;rintro e w1 ⟨rfl,h⟩;have HZ:=U h;clear h;go_wp2_with fail;go_ret;exact⟨rfl,HZ.o⟩
end
theorem Xf (w:World):(zeroValue 223).run Tryz.prog w=.ok (.agg #[.int .i64 0,.int .i64 0]) w:=kQ
def f_ (op:Op) (i:Nat) (x:Option (Nat×Nat)):Op:=λj=>if j=i then x else op j
section
variable {w:World} {fb d B P q n:Nat} {C:Nat→Bytes} {cl yo:Bool} {op:Op} {F:Nat→Prop}
theorem fI.sP (h:fI w fb d B P q n C cl yo op F):∃m,w.cell? ⟨fb,1,none⟩=some (.map (some m))∧bF w m n (λi=>(op i).map nk)∧n≤20∧(∀i:Nat,i<1000→(Instr.lookup 104 (.map (some m)) (.int .i64 (i:Int)) true).run Tryz.prog w=.ok (.tuple #[((op i).map nk).getD (.agg #[.int .i64 0,.int .i64 0]),.bool (op i).isSome]) w)∧
  (∀(i:Nat) (x:Nat×Nat),i<1000→n≤15→∃w',(Instr.mapUpdate 104 (.map (some m)) (.int .i64 (i:Int)) (nk x)).run Tryz.prog w=.ok () w'∧fI w' fb d B P q (if(op i).isSome then n else n+1) C cl yo (f_ op i (some x)) F∧Step F w F w')∧
  (∀(i:Nat) (ty:TypeId),i<1000→∃w',(Builtin.delete_ #[104,3] ty #[.map (some m),.int .i64 (i:Int)]).run Tryz.prog w=.ok (.tuple #[]) w'∧fI w' fb d B P q (if(op i).isSome then n - 1 else n) C cl yo (f_ op i none) F∧Step F w F w'):=by
 obtain⟨sp,m,s,C0,Fs,hA,rfl⟩:=h;have c1:=hA.cells.cell 1;simp only[zf,zi] at c1;have hfm:=hA.fm;refine⟨m,c1,hA.map,hA.few,λi hi=>?_,λi x hi hn=>?_,λi ty hi=>?_⟩
 ·rw[hA.map.look (t:=104) Tryz.underlying104 (Xf w) i (by unfold fZ;omega)]
  rw[Option.isSome_map]
 ·obtain⟨w',hr,hM,ht⟩:=hA.map.store (t:=104) Tryz.underlying104 (by unfold maxLen;omega) i (by unfold fZ;omega) (nk x)
  have hs:=hA.map.turn ht;rw[Option.isSome_map] at hM;refine⟨w',hr,⟨sp,m,s,C0,Fs,⟨hA.cells.step hs (λe=>hfm e.symm),?_,hA.p9.step hs (λk hk e=>hA.ms (e▸hk)),hA.is,hA.con,hA.fs,hA.ms,by split<;>omega,hA.tab.1.step hs (λk hk=>by subst hk;exact hA.tab.2.2.2),hA.tab.2⟩,rfl⟩,hs.up (.inr (.inr rfl))⟩;have e:(λj=>(f_ op i (some x) j).map nk)=iM (λj=>(op j).map nk) i (some (nk x)):=by
   funext j;unfold f_ iM
   split<;>rfl
  rw[e];exact hM
 ·obtain⟨w',hr,hM,ht⟩:=hA.map.drop (t:=104) Tryz.underlying104 i (by unfold fZ;omega) ty
  have hs:=hA.map.turn ht;rw[Option.isSome_map] at hM;refine⟨w',hr,⟨sp,m,s,C0,Fs,⟨hA.cells.step hs (λe=>hfm e.symm),?_,hA.p9.step hs (λk hk e=>hA.ms (e▸hk)),hA.is,hA.con,hA.fs,hA.ms,by have:=hA.few;split<;>omega,hA.tab.1.step hs (λk hk=>by subst hk;exact hA.tab.2.2.2),hA.tab.2⟩,rfl⟩,hs.up (.inr (.inr rfl))⟩;have e:(λj=>(f_ op i none j).map nk)=iM (λj=>(op j).map nk) i none:=by
   funext j;unfold f_ iM
   split<;>rfl
  rw[e];exact hM
theorem K_ (h:fI w fb d B P q n C cl yo op F) {fd:Nat} (sS:fd<1000):Calls Tryz.prog 153 #[.pointer (some ⟨fb,0,none⟩),.int .i64 fd] w λe w'=>e=.returned (.bool (op fd).isSome)∧Below w.heap.size w w':=by
 obtain⟨m,c1,hM,hn,hL, -⟩:=h.sP;have hl:=hL fd sS;clear hL;obtain⟨x,y,hxy⟩:∃x y:Nat,((op fd).map nk).getD (.agg #[.int .i64 0,.int .i64 0])=.agg #[.int .i64 x,.int .i64 y]:=by
  rcases op fd with _|⟨x,y⟩
  ·exact⟨0,0,rfl⟩
  ·exact⟨x,y,rfl⟩
 rw[hxy] at hl;have hB:Below w.heap.size w (w.alloc (.cells #[.int .i64 x,.int .i64 y] 223)):=(zn _ _).alloc (zm _) _;clear h hM hxy;go_enter Tryz.func153,Tryz.ntmps153;go_wp2_with fail;go_ret;exact⟨rfl,hB⟩
end
theorem Tr.parts {E:nR} {B:Nat} {x f:Nd} {s:Bytes} {A T:nU} (h:Tr E B x (A++(f,s)::T)):(ents (A++(f,s)::T))[A.length]? =some (f.id,s)∧Py (ents (A++(f,s)::T)) s=A.length:=by
 obtain⟨h1,h2⟩:=h.at_;have h3:(ents (A++(f,s)::T))[A.length]? =some (f.id,s):=by
  rw[h2,qd (by rw[bJ];exact zm _),bJ];simp
 refine⟨h3,Fy h3 rfl (λj e hj he=>?_)⟩;rw[h2,qo (by rw[bJ];exact hj)] at he;exact h1 e (zaq he)
theorem mvY {d:Nat} {v w1 w2:World} {F F2 X:Nat→Prop} (h:Mv d v F w1 F2 w2) (hX:∀k,X k→v.heap.size≤k∧k<w1.heap.size):Mv d v (λk=>F k∨X k) w1 (λk=>F2 k∨X k) w2:=
 h.more (λk hk=>.inl hk) (λk hk=>by
  rcases hk with hk|hk
  ·exact h.lt k hk
  ·exact hX k hk) (λk hk=>by
  rcases hk with hk|hk
  ·exact .inr (.inl hk)
  ·exact .inl (.inr hk))
section
variable {v w w1:World} {fb sp d B P q nn b p t1 t2 t3:Nat} {C:Nat→Bytes} {cl yo:Bool} {op:Op} {G:Nat→Prop} {x f:Nd} {A T:nU} {s:Bytes}
theorem Xg (h:fI v fb d B P q nn C cl yo op G) (Gw:nn≤15) (hj:jI v w d B C sp w1 p b) (hT:Tr C B x (A++(f,s)::T)) (hs:nm s=true)
  (x1:ah w1 t1 9 [.string ⟨(47::s).toArray⟩]) (x2:ah w1 t2 3 [.int .i64 0]) (x3:ah w1 t3 52 [.pointer (some ⟨fb,0,none⟩)]) (n2:t2≠b∧v.heap.size≤t2∧t2≠p) (n3:t3≠b∧t3≠t2):
  Calls Tryz.prog 159 (#[.pointer (some ⟨p,0,none⟩)]++#[.pointer (some ⟨t1,0,none⟩),.pointer (some ⟨t2,0,none⟩),.pointer (some ⟨t3,0,none⟩)]) w1 λe w2=>(∃x,e=.returned x)∧∃E' F2,(E'=C∧ah w2 t2 3 [.int .i64 f.id]∧ah w2 t3 52 [.pointer (some ⟨fb,0,none⟩)])∧cB v w2 b sp d C E' 0 F2∧Mv d v (λk=>k=b∨k=t2) w1 (λk=>F2 k∨k=t2) w2:=by
 obtain⟨hV,hq,gJ,iX,hp,⟨sV,iA,pY⟩,nD⟩:=hj;have hB:=hT.big;have c1:=x1.cell 0;simp only[zf] at c1;have fB:=hp.lt;have Tq:=x2.lt;have ai4:=x3.lt;have eX:=hV.yE;have hvq:=hq.size;have hpt:=hT.parts;have nI:b<w1.heap.size:=(nD.lt b rfl).2;have Ac:=hT.few;have HV:=U hV;have HP:=U hp;have HS:=U nD;have HT:=U hT;have X2:=U x2;have X3:=U x3;have Hs:=U hs;have Hq:=U hq;have HF:=U h;have Hpt:=U hpt;clear hV hp nD hT x1 x2 x3 hs hq iX h hpt;go_enter Tryz.func159,Tryz.ntmps159;go_wp2_with fail;refine(kD (pJ Hs.o) w1).mono ?_;rintro e w2 ⟨a,c,rfl,ho,aJ⟩;obtain⟨g,rfl⟩:=nC ho sQ;have jr:=ho.cell 0 sQ;have l7:=eu ho;have jr:w2.cell? ⟨g,0,none⟩=some (.string ⟨s.toArray⟩):=jr;have bH:=U aJ;have hz2:=aJ.size;have HG:=U jr;rw[zY];clear ho aJ c1 jr;go_wp2_with fail;refine(mP (kk:=1) (za:=f.id) (HP.o.below bH.o) HV.o (HS.o.below bH.o) HT.o.wF (by rw[bJ];omega) HT.o.Fq (.inr ⟨rfl,g,s,rfl,l7.2.1,HG.o,A.length,(f.id,s),Hpt.o.1,Hpt.o.2,rfl⟩)).mono ?_;rintro e w3 ⟨rfl,F3,h3,dP⟩;have h3:cB v w3 b sp d C C 0 F3:=h3;have p3:=dP.aW (HP.o.below bH.o) dQ pY;have k3:=dP.aW (X2.o.below bH.o) dQ n2.1;have f3:=dP.aW (X3.o.below bH.o) dQ n3.1;have Xc:=dP.apart (show p<w2.heap.size by omega) pY;have Oz:=dP.apart (show t2<w2.heap.size by omega) n2.1;have nf3:=dP.apart (show t3<w2.heap.size by omega) n3.1;have mF:=dP.size;have kc:=k3.cell 0;have kf:=k3.free 0;simp only[zf] at kc;have aoW:=Mv.after bH.o dP Hq.o (λk hk=>by subst hk;omega);have vX:=U (mvY (X:=(· =t2)) aoW (λk hk=>by subst hk;exact⟨n2.2.1,Tq⟩));have Dc:=U (And.intro p3 (And.intro k3 f3));have H3:=U h3;clear h3 dP aoW p3 k3 f3;go_wp2_with fail;obtain⟨w4,gH⟩:∃w4,w3.setCell ⟨t2,0,none⟩ (.int .i64 f.id)=w4:=⟨_,rfl⟩
 have sO:Kept t2 w3 w4:=by rw[←gH];exact Kept.setCell _ _ _
 have y4:ah w4 t2 3 [.int .i64 f.id]:=by rw[←gH];exact Dc.o.2.1.aB 0 (.int .i64 f.id)
 have Gg:=U (vX.o.kept sO (.inl (.inr rfl)));have h4:=H3.o.keep (λk hk=>sO.block k (H3.o.lt k hk).2 (λe=>Oz (e▸hk))) Gg.o.q' sO.size;have Xd:=U (And.intro (Dc.o.1.kept sO (λe=>n2.2.2 e.symm)) (And.intro y4 (Dc.o.2.2.kept sO n3.2)));have Ah:=sO.size;have H4:=U h4;clear h4 sO y4 kc kf;rw[gH];clear gH;refine(Bh Xd.o.1 HV.o H4.o (HT.o.Cz (s:=s) sQ) rfl).mono ?_;rintro e w5 ⟨rfl,F5,h5,fu⟩;have h5:cB v w5 b sp d C C 0 F5:=h5;have k5:=fu.aW Xd.o.2.1 dQ Oz;have f5:=fu.aW Xd.o.2.2 dQ nf3;have g0:=f5.cell 0;simp only[zf] at g0;obtain⟨m,c1,hM, -, -, -, -⟩:=(HF.o.quiet fu.q').1.sP;have hlen:=hM.len (t:=104) Tryz.underlying104 3;have aF7:¬((16:Int)≤nn):=oQ
 have HZ:=U (And.intro (And.intro k5 f5) (And.intro h5 (Gg.o.trans (mvY (X:=(· =t2)) fu (λk hk=>by subst hk;exact⟨n2.2.1,oQ⟩)))));obtain⟨N,hN⟩:∃N,nd 1 1 (f.c.length:Int) f.D f.r=N:=⟨_,rfl⟩
 rw[hN];clear k5 h5 fu f5 hM hN;go_wp2_with fail;go_end0;exact⟨⟨_,rfl⟩,C,F5,⟨rfl,HZ.o.1⟩,HZ.o.2⟩
def abC (op:Op) (fd:Nat):Prop:=op fd=none∧∀j,j<fd→(op j).isSome=true
theorem Xh {fd:Nat} (h:fI v fb d B P q nn C cl yo op G) (Gw:nn≤15) (hT:Tr C B x (A++(f,s)::T)) (hq:q<1000000) (hs:nm s=true) (sS:abC op fd) (aoX:fd≤15):
  Calls Tryz.prog 91 #[.pointer (some ⟨fb,0,none⟩),.string ⟨(47::s).toArray⟩] v λe w'=>e=.returned (.tuple #[.int .i64 fd,.int .i64 0])∧∃F',fI w' fb d B P q (nn+1) C cl yo (f_ op fd (some (f.id,0))) F'∧Step G v F' w':=by
 obtain⟨w1,aP⟩:∃w1,((v.alloc (.cells #[.pointer (some ⟨fb,0,none⟩)] 52)).alloc (.cells #[.string ⟨(47::s).toArray⟩] 9)).alloc (.cells #[.int .i64 0] 3)=w1:=⟨_,rfl⟩
 obtain⟨aM,aF,hz1⟩:=boxes [([.pointer (some ⟨fb,0,none⟩)],52),([.string ⟨(47::s).toArray⟩],9),([.int .i64 0],3)] v w1 (by rw[←aP];rfl);have x0:ah w1 v.heap.size 52 [.pointer (some ⟨fb,0,none⟩)]:=aM 0 _ rfl;have x1:ah w1 (v.heap.size+1) 9 [.string ⟨(47::s).toArray⟩]:=aM 1 _ rfl;have x2:ah w1 (v.heap.size+2) 3 [.int .i64 0]:=aM 2 _ rfl;have vR:w1.heap.size=v.heap.size+3:=by simpa using hz1
 have c0:=x0.cell 0;simp only[zf] at c0;have HF:=U h;have HT:=U hT;have HB:=U aF;have X0:=U x0;have X1:=U x1;have X2:=U x2;have Hs:=U hs;have Hfd:=U sS;have wT:=U aP;clear h hT aM aF hz1 x0 x1 x2 hs sS aP c0;go_enter Tryz.func91,Tryz.ntmps91;go_wp2_with fail;rw[wT.o];refine(jJ HF.o HT.o.big HB.o hq (n':=0) oQ (fn:=159) (λ_ _=>rfl) (X:=(· =v.heap.size+2)) (λk h=>by subst h;omega) (PE:=λE' W=>E'=C∧ah W (v.heap.size+2) 3 [.int .i64 f.id]∧ah W v.heap.size 52 [.pointer (some ⟨fb,0,none⟩)]) (λE' W h=>by rw[h.1];exact HT.o.o) (λsp w2 p b hj=>?_)).mono ?_
 ·have Lv:=hj.new
  exact Xg HF.o Gw hj HT.o Hs.o (hj.aW X1.o oQ) (hj.aW X2.o oQ) (hj.aW X0.o oQ) ⟨oQ,oQ,oQ⟩ ⟨oQ,oQ⟩
 rintro e w3 ⟨rfl,E',w2,⟨rfl,oD,hx0⟩,hD⟩;obtain⟨q',cl',F',hS,bT, -,GZ, -⟩:=hD.ex;obtain⟨rfl,rfl,rfl⟩:=GZ rfl;have y2:ah w3 (v.heap.size+2) 3 [.int .i64 f.id]:=(hD.keep _ oQ oD.lt oQ).trans oD;have y0:ah w3 v.heap.size 52 [.pointer (some ⟨fb,0,none⟩)]:=(hD.keep _ oQ hx0.lt oQ).trans hx0;have HS:=U hS;have HSt:=U bT;have Y2:=U y2;have Y0:=U y0;have mF:=bT.size;clear hS bT hD oD hx0 y2 y0;go_wp2_with fail;go_loopw [8] (λvv wr=>∃k:Nat,k≤fd∧vv=.int .i64 k∧Below w3.heap.size w3 wr) (λvv _=>fd - (intOf vv).toNat)
 case atStart=>exact⟨0,ql _,rfl,zn _ _⟩
 case round=>
  obtain⟨k,hk,rfl,hB⟩:=hrel;have HB:=U hB;have y0:=(Y0.o.below hB).cell 0;have y2:=(Y2.o.below hB).cell 0;simp only[zf] at y0 y2;have hzr:=hB.size;clear hB;go_wp2_with fail;refine(K_ (HS.o.below HB.o) (by omega:k<1000)).mono ?_;rintro e wq ⟨rfl,hBq⟩;have HBq:=U (HB.o.trans (hBq.mono hzr));clear hBq y0 y2;by_cases Im:k<fd
  ·rw[Hfd.o.2 k Im]
   go_wp2_with fail;exact⟨⟨k+1,oQ,by go_num,HBq.o⟩,by simp[intOf];omega⟩
  ·obtain rfl:k=fd:=oQ
   rw[Hfd.o.1];obtain⟨m,c1, -, -, -,bT, -⟩:=((HS.o.below HBq.o).below (zn _ _).drew).sP;obtain⟨w6,hr,h6,xL⟩:=bT k (f.id,0) oQ Gw;rw[Hfd.o.1] at h6;have y0:=(Y0.o.below HBq.o).cell 0;have y2:=(Y2.o.below HBq.o).cell 0;simp only[zf] at y0 y2;have HZ:=U (And.intro h6 ((HSt.o.trans (Step.of_below (HBq.o.drew) _)).trans xL));have hr:(Instr.mapUpdate 104 (.map (some m)) (.int .i64 (k:Int)) (.agg #[.int .i64 f.id,.int .i64 0])).run Tryz.prog wq.drew=.ok () w6:=hr;clear bT h6 xL;go_wp2_with fail;refine wp_region_noPanic ?_;refine ak (S:=(λW=>W.cell? ⟨v.heap.size,0,none⟩=some (.pointer (some ⟨fb,0,none⟩))∧W.cell? ⟨fb,1,none⟩=some (.map (some m))∧W.cell? ⟨v.heap.size+2,0,none⟩=some (.int .i64 f.id))) (m:=7) kQ ⟨y0,c1,y2⟩ (λaj=>?_);refine te 0 aj ?_;refine te 1 aj ?_;refine te 2 aj ?_;refine te 3 aj ?_;refine te 4 aj ?_;refine te 5 aj ?_;refine te 6 aj ?_;refine rE 7 λK hK=>?_;go_simp;refine kX hK ?_;clear hK K
   try simp only[Act.put,zh,zk,zl]
   refine aD ?_;go_wp2_with fail;go_ret2;exact⟨rfl,_,HZ.o⟩
end
end
end Go.Proofs.YtdjdpeadohobmaaGreatDoor
