/- A part of the walk below the law: what is proved here is used by later parts; no further condition. -/
import Derived.Test.YtdjdpeadohobmaaGreatDoorK04
import Derived.Test.YtdjdpeadohobmaaGreatDoorK06
import Derived.Test.YtdjdpeadohobmaaGreatDoorK09
import Derived.Test.YtdjdpeadohobmaaGreatDoorK12
set_option linter.unusedVariables false
set_option linter.unusedSimpArgs false
set_option maxRecDepth 100000
set_option maxHeartbeats 20000000
namespace Go.Proofs.YtdjdpeadohobmaaGreatDoor
section
open Go.RowKit Go.Shelf O
attribute [local go_sem] Oper.semAt_some
theorem U0 (w:World) (j n:Nat):Calls Tryz.prog 196 #[.pointer (some ⟨j,0,none⟩),.int .i64 n] w λe w'=>∃bj bn:Nat,e=.returned (.func (.func 260) #[] #[.pointer (some ⟨bj,0,none⟩),.pointer (some ⟨bn,0,none⟩)])∧w.heap.size≤bj∧w.heap.size≤bn∧ah w' bj 123 [.pointer (some ⟨j,0,none⟩)]∧ah w' bn 3 [.int .i64 n]∧Below w.heap.size w w':=by
 have h1:ah ((w.alloc (.cells #[.pointer (some ⟨j,0,none⟩)] 123)).alloc (.cells #[.int .i64 n] 3)) w.heap.size 123 [.pointer (some ⟨j,0,none⟩)]:=(ah.new w _ _).below ((zn _ _).alloc (zm _) _);have h2:ah ((w.alloc (.cells #[.pointer (some ⟨j,0,none⟩)] 123)).alloc (.cells #[.int .i64 n] 3)) (w.heap.size+1) 3 [.int .i64 n]:=ah.at sQ _ _;have h3:Below w.heap.size w ((w.alloc (.cells #[.pointer (some ⟨j,0,none⟩)] 123)).alloc (.cells #[.int .i64 n] 3)):=((zn _ _).alloc (zm _) _).alloc sQ _;have H1:=U h1;have H2:=U h2;have H3:=U h3;clear h1 h2 h3;go_enter Tryz.func196,Tryz.ntmps196;go_wp2;go_ret;exact⟨_,_,rfl,zm _,XO _,H1.o,H2.o,H3.o⟩
theorem RingAt.below {w w':World} (hs:Below w.heap.size w w') {r rb P:Nat} {vals:List Int} (h:RingAt w r rb P vals):RingAt w' r rb P vals:=⟨h.cells.below hs,h.row.below hs,h.len,h.few⟩
theorem amm {s:JS} (ht:s.tail<s.P) (hu:s.Q.length≤s.P):((s.head:Int)+ -(s.used:Int))%(s.P:Int)=(s.tail:Int):=by
 have h1:s.used=s.Q.length:=rfl;have h2:s.head=if s.tail+s.used<s.P then s.tail+s.used else s.tail+s.used - s.P:=rfl
 rw[h2,h1]
 split
 ·rw[show(((s.tail+s.Q.length:Nat):Int)+ -(s.Q.length:Int))=(s.tail:Int) by omega]
  exact qY oQ oQ
 ·rw[show(((s.tail+s.Q.length - s.P:Nat):Int)+ -(s.Q.length:Int))=(s.tail:Int) - (s.P:Int) by omega,Int.sub_emod_right]
  exact qY oQ oQ
def kH (n:Nat) (A B:World):Prop:=A.heap.size≤B.heap.size∧∀k,n≤k→k<A.heap.size→(¬∃C fr,A.heap[k]? =some (.cells C 176 fr))→B.heap[k]? =A.heap[k]?
theorem kH.refl (n:Nat) (A:World):kH n A A:=⟨zm _,λ_ _ _ _=>rfl⟩
theorem kH.trans {n:Nat} {A B C:World} (h:kH n A B) (k:kH n B C):kH n A C:=⟨zC h.1 k.1,λi h1 h2 h3=>by
 have e:=h.2 i h1 h2 h3;exact(k.2 i h1 (zx h2 h.1) (by rw[e];exact h3)).trans e⟩
def jq (g:Nat→Option Nat) (t P:Nat) (L:List Nat):List (Nat×Nat):=L.filterMap (λi=>(g ((t+i)%P)).map (λid=>(id,(t+i)%P)))
theorem Ei (g:Nat→Option Nat) (t P:Nat) (L:List Nat) (i:Nat):jq g t P (L++[i])=jq g t P L++((g ((t+i)%P)).map (λid=>(id,(t+i)%P))).toList:=by
 unfold jq;rw[zaT];cases h:g ((t+i)%P)<;>simp[h]
theorem J8 (g:Nat→Option Nat) (t P:Nat) {L M:List Nat} (h:L<+:M):jq g t P L<+:jq g t P M:=by
 obtain⟨r,rfl⟩:=h;exact⟨jq g t P r,by unfold jq;rw[zaT]⟩
section
variable {j:Nat} {s:JS} {d r rb t pb ob:Nat} {f g:Nat→Option Nat}
theorem Zm (m:Nat) (hm:6≤m) (len bj bn:Nat) (hlen:len≤s.P) (W:World) (hc:ah W j 198 (nQ d r t s)) (hR:RingAt W r rb s.P (sK s.P)) (hT:TabAt W t pb ob s.B s.P f g)
  (hbj:ah W bj 123 [.pointer (some ⟨j,0,none⟩)]) (Zn:ah W bn 3 [.int .i64 len]) (ht:s.tail<s.P) (hu:s.Q.length≤s.P) (S:List Nat) (hS:∀b∈[j,r,rb,t,pb,ob,bj,bn],b∈S):
  wL Fence.wide m Tryz.prog 260 #[.pointer (some ⟨bj,0,none⟩),.pointer (some ⟨bn,0,none⟩)] (λx:Nat×Nat=>#[.int .i64 x.1,.int .i64 x.2])
   (λA B=>bZ S A B∧kH W.heap.size A B) (jq g s.tail s.P (List.range len)) W:=λll J hJa hY h0=>by
 have hP:=hR.few;have hhd:s.head<s.P:=dz ht hu;refine callsIn_of_wp_marks Tryz.func260 rfl trivial ?_ rfl;simp only[Tryz.ntmps260,zQ,zA,zN,Nat.reduceAdd,Nat.reduceSub,zJ,zK,zT,zM,zB,zU];gi_wp2_with fail;obtain⟨Wa,hWa⟩:∃Wa,W.alloc (.cells #[.func (.yield ll) #[] #[]] 48)=Wa:=⟨_,rfl⟩
 have hya:ah Wa W.heap.size 48 [.func (.yield ll) #[] #[]]:=by rw[←hWa];exact ah.new _ _ _
 have lq:Below W.heap.size W Wa:=by rw[←hWa];exact(zn _ _).alloc (zm _) _
 have Tf:Wa.heap.size=W.heap.size+1:=by rw[←hWa];simp
 rw[hWa];have hJ0:J [] Wa:=by rw[←hWa];exact hJa.alloc _ h0
 clear hWa h0;have hc:=hc.below lq;have hR:=hR.below lq;have hT:=hT.step (Step.of_below lq (λ_=>False)) id id id;have hbj:=hbj.below lq;have Zn:=Zn.below lq;have c1:=hc.cell 1;have c2:=hc.cell 2;have c7:=hc.cell 7;have c8:=hc.cell 8;have b0:=hbj.cell 0;have b1:=Zn.cell 0;have by0:=hya.cell 0;simp only[nQ,zf,zi] at c1 c2 c7 c8 b0 b1 by0;have HC:=U hc;have HR:=U hR;have HT:=U hT;have HBJ:=U hbj;have HBN:=U Zn;have HY0:=U hya;have Cr:=U lq;have Hng:=U (show IntKind.i64.wrap (-(s.used:Int))= -(s.used:Int) by rw[zG];have:s.used≤s.P:=hu;omega);have hto:((s.head:Int)+ -(s.used:Int))%(s.P:Int)=(s.tail:Int):=amm ht hu;have Hto:=U hto;have hu2:s.used≤s.P:=hu;have hk:∀V,Below Wa.heap.size Wa V→V.cell? ⟨bj,0,none⟩=some (.pointer (some ⟨j,0,none⟩))∧V.cell? ⟨j,1,none⟩=some (.pointer (some ⟨r,0,none⟩))∧V.cell? ⟨bn,0,none⟩=some (.int .i64 len):=λV hV=>⟨(hbj.below hV).cell 0,(hc.below hV).cell 1,(Zn.below hV).cell 0⟩
 have HK:=U hk;have Htm:=U (show(s.tail:Int)%(s.P:Int)=s.tail from qY oQ oQ);clear hc hR hT hbj Zn hya lq hto hk;refine wpIn_wide.2 ?_;refine wp_region_noPanic ?_;refine ak (S:=(λV=>V.cell? ⟨bj,0,none⟩=some (.pointer (some ⟨j,0,none⟩))∧V.cell? ⟨j,1,none⟩=some (.pointer (some ⟨r,0,none⟩))∧V.cell? ⟨j,7,none⟩=some (.int .i64 s.head)∧V.cell? ⟨j,8,none⟩=some (.int .i64 s.used))) (m:=14) kQ ⟨b0,c1,c7,c8⟩ (λaj=>?_);refine te 0 aj ?_;refine te 1 aj ?_;refine te 2 aj ?_;refine te 3 aj ?_;refine te 4 aj ?_;refine te 5 aj ?_;refine te 6 aj ?_;refine te 7 aj ?_;refine te 8 aj ?_;refine te 9 aj ?_;refine te 10 aj ?_;refine te 11 aj ?_;refine te 12 aj ?_;refine rE 13 λK hK=>?_;go_simp;rw[Hng.o];refine(Dy (HR.o.drew) _ _ oQ oQ).mono ?_;rintro e w2 ⟨rfl,rfl⟩;rw[Hto.o];go_wp2_with fail;refine hK.out _ _ (λ_=>⟨b0,c1,c7,c8⟩) (λhS=>?_);have bQ:=hS dQ;clear hS hK K
 try simp only[Act.put,zh,zk,zl]
 refine oC (i:=14) (v:=?aA4) rfl kQ kQ kQ dQ (λ_ _ _ h=>h) rQ ?asZ ?aA5
 case asZ=>(intro W iR;(try dsimp only at iR);go_simp;(try with_reducible rfl))
 try simp only[Act.put,zh,zk,zl]
 refine aD ?_;gi_wp2_with fail;refine wpIn_wide.2 ?_;refine wp_region_noPanic ?_;refine ak (S:=(λV=>V.cell? ⟨bj,0,none⟩=some (.pointer (some ⟨j,0,none⟩))∧V.cell? ⟨j,1,none⟩=some (.pointer (some ⟨r,0,none⟩))∧V.cell? ⟨bn,0,none⟩=some (.int .i64 len))) (m:=7) kQ ⟨b0,c1,b1⟩ (λaj=>?_);refine te 0 aj ?_;refine te 1 aj ?_;refine te 2 aj ?_;refine te 3 aj ?_;refine te 4 aj ?_;refine te 5 aj ?_;refine rE 6 λK hK=>?_;go_simp;refine(JR (HR.o.drew.drew) s.tail len oQ hlen).mono ?_;rintro e w2 ⟨g0,g1,g2,rfl,⟨z0,z1,z2⟩,v0,v1,v2,aJ⟩;rw[Htm.o] at v2;have bH:=U (((zn Wa.heap.size Wa).drew.drew).trans aJ);have V0:=U v0;have V1:=U v1;have V2:=U v2;clear v0 v1 v2 aJ;go_wp2_with fail;refine hK.out _ _ (λ_=>(HK.o _ bH.o)) (λhS=>?_);have bQ:=hS dQ;clear hS hK K
 try simp only[Act.put,zh,zk,zl]
 refine aD ?_;clear c1 c2 c7 c8 b0 b1 by0;gi_wp2_with fail;rename_i K hKr;have hz2:Wa.heap.size≤w2.heap.size:=bH.o.size;have BL:∀b∈[j,r,rb,t,pb,ob,bj,bn],b<Wa.heap.size:=by
  intro b hb;simp only[zH,zO,or_false] at hb;obtain⟨c,hc⟩:=HT.o.cells;rcases hb with rfl|rfl|rfl|rfl|rfl|rfl|rfl|rfl
  ·exact HC.o.lt
  ·exact HR.o.cells.lt
  ·exact HR.o.row.lt
  ·exact hc.lt
  ·exact HT.o.places.lt
  ·exact HT.o.iU.lt
  ·exact HBJ.o.lt
  ·exact HBN.o.lt
 have awX:g0<w2.heap.size∧g1<w2.heap.size∧g2<w2.heap.size:=⟨V0.o.lt,V1.o.lt,V2.o.lt⟩
 have bQ:∀b∈[g0,g1,g2,r,rb],b<w2.heap.size:=by
  intro b hb;simp only[zH,zO,or_false] at hb;have h1:=BL r sQ;have h2:=BL rb sQ;rcases hb with rfl|rfl|rfl|rfl|rfl<;>omega
 have C2:=U (HC.o.below bH.o);have R2:=U (HR.o.below bH.o);generalize dw:Act.mk _ _=a0
 refine gF (n:=m) rfl oQ (gf:=306) (lb:=#[.pointer (some ⟨g0,0,none⟩),.pointer (some ⟨g1,0,none⟩),.pointer (some ⟨g2,0,none⟩)]) (by rw[←dw];rfl) trivial (enters_of Tryz.func306 kQ rfl)
  (encs:=λx:Nat=>#[.int .i64 ((s.tail+x)%s.P:Nat),.int .i64 ((sK s.P).getD ((s.tail+x)%s.P) 0)]) (Kp:=bZ [g0,g1,g2,r,rb]) (L:=List.range len)
  (λW1 hB hz=>JQ (m - 1) oQ r rb s.P (sK s.P) g0 g1 g2 s.tail len hlen ht W1 (R2.o.below hB) _ (λb hb=>hb) (V0.o.below hB) (V1.o.below hB) (V2.o.below hB))
  bZ.trans (λV o o' _ _ b hb=>World.putObj_heap_other (by have:=bQ b hb;omega)) (λ_=>rfl)
  (λpre V=>J (jq g s.tail s.P pre) V∧bZ [j,t,pb,ob,bj,W.heap.size,g0,g1,g2,r,rb] w2 V)
  ?hI ?h0 (λx a' _=>a'={tmps:=((a0.tmps.setIfInBounds 29 (.int .i64 ((s.tail+x)%s.P:Nat))).setIfInBounds 30 (.int .i64 ((sK s.P).getD ((s.tail+x)%s.P) 0))).setIfInBounds 5 (.int .i64 ((s.tail+x)%s.P:Nat)),defers:=[]}) ?hAx ?assign ?body ?done
 case hI=>
  rintro pre A B row ⟨h1,h2⟩ hg hr;refine⟨hJa _ A B row h1 hg (λr' e=>⟨by have:=(hr r' e).1;omega,(hr r' e).2⟩),λb hb=>?_⟩;have hlb:b<w2.heap.size:=by
   simp only[zH,zO,or_false] at hb;have q1:=BL j sQ;have q2:=BL t sQ;have q3:=BL pb sQ;have q4:=BL ob sQ;have q5:=BL bj sQ;have q6:=BL r sQ;have q7:=BL rb sQ;omega
  have h3:=h2 b hb;refine(hg.block b ?_ (λe=>by have:=(hr b e.symm).1;omega)).trans h3;have h4:w2.heap[b]? =some w2.heap[b]:=qM hlb;rw[h4] at h3;exact(zo.1 h3).1
 case h0=>
  refine⟨?_,λ_ _=>rfl⟩;exact hJa _ Wa w2 none hJ0 ⟨bH.o.os,bH.o.tape,bH.o.output,bH.o.size,λk hk _=>bH.o.block k hk⟩ (λr e=>by cases e)
 case hAx=>exact λx a'=>ownFrom_pure _ (λ_=>a'=_)
 case assign=>
  rintro l pre x V K2 hI hK;subst dw;gi_wp2;exact hK _ _ (KeepsFrom.refl _ _) (λ_ _=>rfl) hI rfl
 case body=>
  rintro l pre x a' V nP ⟨hJ,hKp⟩ rfl hzV;subst dw;simp only[zh,zk,zl];have awY:x<len:=by
   obtain⟨q,hq⟩:=nP;have:x∈List.range len:=by rw[←hq];simp
   exact zao.1 this
  have fB:(s.tail+x)%s.P<s.P:=Nat.mod_lt _ oQ;have kbj:=(hKp.aW sQ (HBJ.o.below bH.o)).cell 0;have kc2:=(hKp.aW sQ C2.o).cell 2;have kT:=(HT.o.step (Step.of_below bH.o (λ_=>False)) id id id).kept hKp sQ;have ky:=(hKp.aW sQ (HY0.o.below bH.o)).cell 0;simp only[nQ,zf,zi] at kbj kc2 ky;obtain⟨p,hp⟩:∃p,(s.tail+x)%s.P=p:=⟨_,rfl⟩
  have Zo:=Ei g s.tail s.P pre x;have hpf:=J8 g s.tail s.P nP;rw[hp] at Zo fB;have KT:=U kT;have HKp:=U hKp;clear kT hKp;rcases MN:g p with _|id
  ·have Hgp:=U MN
   rw[MN] at Zo;have Hsn:=U Zo;clear MN Zo hpf;simp only[hp];gi_wp2_with fail;refine⟨trivial,λh=>(by cases h),(CallsIn.inRound l (callsIn_wide.2 (xY KT.o p fB))).mono ?_⟩;rintro e w' ⟨rfl,rfl⟩;rw[Hgp.o];gi_wp2_with fail;refine⟨λ_ h=>(by cases h),?_⟩;gi_wp2_with fail;refine⟨KeepsFrom.refl _ _,λ_ _=>rfl,?_,HKp.o⟩;rw[Hsn.o];simpa using hJ
  ·have Hgp:=U MN
   rw[MN] at Zo;have Hsn:=U Zo;simp only[qA,Option.toList_some] at Zo;have amn:jq g s.tail s.P pre++[(id,p)]<+:jq g s.tail s.P (List.range len):=by
    have h3:=Ei g s.tail s.P pre x;rw[hp,MN] at h3;simp only[qA,Option.toList_some] at h3;rw[h3] at hpf;exact hpf
   obtain⟨fn,tmps,assign,body,hy,hRd⟩:=YieldAt.deep (F:=Fence.wide) rfl (m - 1 - 1 - 1) (hY _ (id,p) V amn hJ);clear MN Zo hpf amn hJ;simp only[hp];gi_wp2_with fail;refine⟨trivial,λh=>(by cases h),(CallsIn.inRound l (callsIn_wide.2 (xY KT.o p fB))).mono ?_⟩;rintro e w' ⟨rfl,rfl⟩;rw[Hgp.o];gi_wp2_with fail;refine⟨λh=>(by cases h),RoundIn.mono hRd ?_⟩;rintro e W3 ⟨rfl,pV,gL,lg⟩;gi_wp2_with fail;have lZ:W.heap.size<w2.heap.size:=oQ
   have kL:∀k,W.heap.size≤k→∀o,V.heap[k]? =some o→(∀C fr,o≠.cells C 176 fr)→W3.heap[k]? =V.heap[k]?:=λk h1 o ho kZ=>lg.2 k h1 (zo.1 ho).1 (by
    rintro⟨C,fr,h⟩;rw[ho] at h;injection h with h;exact kZ C fr h)
   have hz0':Wa.heap.size≤g0∧Wa.heap.size≤g1∧Wa.heap.size≤g2:=⟨z0,z1,z2⟩
   have iw:∀b∈[j,t,pb,ob,bj,W.heap.size,g0,g1,g2,r,rb],W3.heap[b]? =V.heap[b]?:=by
    intro b hb;simp only[zH,zO,or_false] at hb;rcases hb with rfl|rfl|rfl|rfl|rfl|rfl|rfl|rfl|rfl|rfl|rfl
    ·exact gL _ (hS _ sQ)
    ·exact gL _ (hS _ sQ)
    ·exact gL _ (hS _ sQ)
    ·exact gL _ (hS _ sQ)
    ·exact gL _ (hS _ sQ)
    ·exact kL _ oQ _ (HKp.o.aW sQ (HY0.o.below bH.o)) (λC fr h=>by injection h with _ h;exact absurd h dQ)
    ·exact kL _ oQ _ (HKp.o.aW sQ V0.o) (λC fr h=>by injection h with _ h;exact absurd h dQ)
    ·exact kL _ oQ _ (HKp.o.aW sQ V1.o) (λC fr h=>by injection h with _ h;exact absurd h dQ)
    ·exact kL _ oQ _ (HKp.o.aW sQ V2.o) (λC fr h=>by injection h with _ h;exact absurd h dQ)
    ·exact gL _ (hS _ sQ)
    ·exact gL _ (hS _ sQ)
   refine⟨⟨lg.1,λk o hk h0 kR=>(kL k oQ o h0 (λC fr h=>by subst h;cases kR)).trans h0⟩,λb hb=>iw b (by simp only[zH,zO,or_false] at hb ⊢;omega),?_,λb hb=>(iw b hb).trans (HKp.o b hb)⟩;rw[Hsn.o];exact pV
 case done=>
  rintro D V hD ⟨hJ,hKp⟩ lI;subst dw;gi_wp2;refine⟨sQ,.inl ⟨_,_,rfl,run_takeDeferred lI,?_⟩⟩;exact⟨.tuple #[],by simp[results,Tryz.f260,go_sem],⟨_,rfl⟩,hJa.putObj _ hJ oQ lI rfl⟩
end
end
section
open Go.RowKit
theorem Tg (l:List Nat):∀(Q:List ou) (c:Nat),c≤Q.length→gB l c Q=(List.range c).filterMap (λi=>match (ids Q)[i]? with|some id=>if id∈ids (Q.drop (i+1))∨id∈l then none else some id|none=>none)
 |[],c,hc=>by
  obtain rfl:c=0:=by simpa using hc
  rfl
 |e::Q,0,_=>rfl
 |e::Q,c+1,hc=>by
  have ih:=Tg l Q c (by simpa using hc);rw[List.range_succ_eq_map,zaH,List.filterMap_map];have h2:((λi=>match (ids (e::Q))[i]? with|some id=>if id∈ids ((e::Q).drop (i+1))∨id∈l then none else some id|none=>none)∘Nat.succ)=(λi=>match (ids Q)[i]? with|some id=>if id∈ids (Q.drop (i+1))∨id∈l then none else some id|none=>none):=by
   funext i;simp[ids]
  rw[h2,←ih];have h3:(match (ids (e::Q))[0]? with|some id=>if id∈ids ((e::Q).drop (0+1))∨id∈l then none else some id|none=>none)=if e.1∈ids Q∨e.1∈l then none else some e.1:=rfl
  rw[h3,show gB l (c+1) (e::Q)=if e.1∈ids Q∨e.1∈l then gB l c Q else e.1::gB l c Q from rfl];by_cases h:e.1∈ids Q∨e.1∈l
  ·rw[if_pos h,if_pos h]
  ·rw[if_neg h,if_neg h]
theorem Ti {Q:List ou} {id i:Nat}:idx Q id=some i↔(ids Q)[i]? =some id∧id∉ids (Q.drop (i+1)):=by
 induction Q generalizing i with
 |nil=>simp[idx,ids]
 |cons e Q ih=>
  have hun:idx (e::Q) id=match idx Q id with|some i=>some (i+1)|none=>if e.1=id then some 0 else none:=rfl
  rw[hun];rcases h:idx Q id with _|k
  ·have hn:=mR.1 h
   cases i with
   |zero=>
    show(if e.1=id then some 0 else none)=some 0↔some e.1=some id∧id∉ids Q;by_cases he:e.1=id
    ·simp[he,hn]
    ·simp[he]
   |succ i=>
    show(if e.1=id then some 0 else none)=some (i+1)↔(ids Q)[i]? =some id∧id∉ids (Q.drop (i+1));refine⟨λh=>by split at h<;>simp at h,λh=>absurd (List.mem_iff_getElem?.2 ⟨i,h.1⟩) hn⟩
  ·have hm:=JJ h
   cases i with
   |zero=>
    show some (k+1)=some 0↔some e.1=some id∧id∉ids Q;simp[hm]
   |succ i=>
    show some (k+1)=some (i+1)↔(ids Q)[i]? =some id∧id∉ids (Q.drop (i+1));rw[←ih,h];simp
theorem lU {l:List Nat} {a:Nat→Option Nat} {h:Nat→Nat}:∀(R:List Nat),(((R.filterMap (λi=>(a i).map (λid=>(id,h i)))).map Prod.fst).filter (λid=> !decide (id∈l)))=R.filterMap (λi=>match a i with|some id=>if id∈l then none else some id|none=>none)
 |[]=>rfl
 |r::R=>by
  have ih:=lU (l:=l) (a:=a) (h:=h) R;rw[zaH,zaH];rcases hr:a r with _|id
  ·simpa[hr] using ih
  ·by_cases U:id∈l
   ·simpa[hr,U] using ih
   ·simpa[hr,U] using ih
theorem Ej {α β:Type} {f g:α→Option β}:∀{l:List α},(∀x∈l,f x=g x)→l.filterMap f=l.filterMap g
 |[],_=>rfl
 |a::l,h=>by rw[zaH,zaH,h a sQ,Ej (λx hx=>h x (by simp[hx]))]
theorem U1 {s:JS} {f g:Nat→Option Nat} (hinv:∀p i,p<s.P→(g p=some i↔i<s.B∧f i=some p)) (dw:∀id,id<s.B→f id=s.at_ id) (El:∀x∈ids s.Q,x<s.B) (ht:s.tail<s.P) (hu:s.Q.length≤s.P) (l:List Nat) (c:Nat) (hc:c≤s.Q.length):
  ((jq g s.tail s.P (List.range c)).map Prod.fst).filter (λid=> !decide (id∈l))=gB l c s.Q:=by
 unfold jq;rw[lU,Tg l s.Q c hc];apply Ej;intro i hi;have hi:=zao.1 hi;have fB:(s.tail+i)%s.P=s.pl i:=by rw[uJ ht oQ];rfl
 have XR:s.pl i<s.P:=dz ht oQ;rw[fB];obtain⟨id,adN⟩:∃id,(ids s.Q)[i]? =some id:=⟨_,zu (by unfold ids;rw[zD];omega)⟩
 have MO:=El id (List.mem_iff_getElem?.2 ⟨i,adN⟩);have key:∀x,g (s.pl i)=some x↔idx s.Q x=some i:=λx=>by
  rw[hinv _ _ XR];constructor
  ·rintro⟨hx,hf⟩
   rw[dw x hx,JS.at_] at hf;rcases hk:idx s.Q x with _|k
   ·rw[hk] at hf;cases hf
   ·rw[hk] at hf
    injection hf with hf;have fF:=fK hk;rw[rC (P:=s.P) (t:=s.tail) (i:=k) (j:=i) oQ oQ hf]
  ·intro hx
   have hxB:=El x (JJ hx);refine⟨hxB,?_⟩;rw[dw x hxB,JS.at_,hx];rfl
 rw[adN];by_cases Bv:id∈ids (s.Q.drop (i+1))
 ·have hg:g (s.pl i)=none:=by
   rcases hg:g (s.pl i) with _|x
   ·rfl
   ·have:=Ti.1 ((key x).1 hg)
    rw[adN] at this;obtain⟨h1,h2⟩:=this;injection h1 with h1;exact absurd (h1▸Bv) h2
  simp[hg,Bv]
 ·have hg:g (s.pl i)=some id:=(key id).2 (Ti.2 ⟨adN,Bv⟩)
  simp[hg,Bv]
theorem boxes:∀(L:List (List Value×TypeId)) (w W:World),L.foldl (λw x=>w.alloc (.cells x.1.toArray x.2)) w=W→
  (∀i x,L[i]? =some x→ah W (w.heap.size+i) x.2 x.1)∧Below w.heap.size w W∧W.heap.size=w.heap.size+L.length
 |[],w,W,h=>by
  subst h;exact⟨λi x hx=>by simp at hx,zn _ _,sQ⟩
 |y::L,w,W,h=>by
  obtain⟨h1,h2,h3⟩:=boxes L (w.alloc (.cells y.1.toArray y.2)) W h;have hs:(w.alloc (.cells y.1.toArray y.2)).heap.size=w.heap.size+1:=sQ
  rw[hs] at h3;refine⟨λi x hx=>?_,((zn _ _).alloc (zm _) _).trans (h2.mono oQ),by rw[h3,zA];omega⟩;cases i with
  |zero=>
   rw[zf] at hx;injection hx with hx;subst hx;exact(ah.new w y.2 y.1).below h2
  |succ i=>
   rw[zi] at hx;have:=h1 i x hx;rw[hs] at this;rw[show w.heap.size+(i+1)=w.heap.size+1+i by omega];exact this
def NC (B:Nat) (V:World):Nat→Prop:=λk=>B≤k∧∃o,V.heap[k]? =some o∧o.isCells=false
theorem NC.aV {B k:Nat} {V:World} (h:NC B V k):¬B8 V k:=by
 obtain⟨_,o,ho,hc⟩:=h;rintro⟨C,fr,h2⟩;rw[ho] at h2;injection h2 with h2;subst h2;cases hc
theorem NC.Gv {B b:Nat} {V:World} {T:TypeId} {vs:List Value} (hv:ah V b T vs):¬NC B V b:=by
 rintro⟨_,o,ho,hc⟩;unfold ah at hv;rw[hv] at ho;injection ho with ho;subst ho;cases hc
theorem jg {β:Type} {B:Nat} {I:β→World→Prop} (h:∀s V V',I s V→Step (NC B V) V (NC B V) V'→I s V'):OwnFrom B I:=λs V V' row hs hg hr=>
 h s V V' hs (Step.bU hg (λr e=>⟨⟨(hr r e).1,(hr r e).2⟩,NC.aV ⟨(hr r e).1,(hr r e).2⟩⟩))
end
end Go.Proofs.YtdjdpeadohobmaaGreatDoor
