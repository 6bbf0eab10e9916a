/- A part of the walk below the law: what is proved here is used by later parts; no further condition. -/
import Derived.Test.YtdjdpeadohobmaaGreatDoorK16
set_option linter.unusedVariables false
set_option linter.unusedSimpArgs false
set_option maxRecDepth 100000
set_option maxHeartbeats 20000000
namespace Go.Proofs.YtdjdpeadohobmaaGreatDoor
section
open Go.RowKit Go.Shelf O
attribute [local go_sem] Oper.semAt_some
theorem IsNode.setAt {w:World} {g:Nat} {T:TypeId} {N:List Int} (h:IsNode w g T N) (i:Nat) (x:Int):IsNode (w.setCell ⟨g,i,none⟩ (.int .i64 x)) g T (N.set i x):=by
 have:=ah.aB (vs:=aS N) h i (.int .i64 x);have h2:(aS N).set i (.int .i64 x)=aS (N.set i x):=by simp[aS,List.map_set]
 rw[h2] at this;exact this
def hit (q:Nat) (e:Nat×tQ):Bool:=e.2.seq==q
def um (L:Fl) (q k:Nat):List Int:=(List.range 72).map (λi=>if(L.take k).any (λe=>hit q e&&e.2.index==i) then 1 else 0)
def vM (L:Fl) (q k:Nat):Nat:=((L.take k).filter (hit q)).length
theorem uR (L:Fl) (q k:Nat):(um L q k).length=72:=by simp[um]
theorem uS (L:Fl) (q k:Nat) {i:Nat} (h:i<72):(um L q k)[i]? =some (if(L.take k).any (λe=>hit q e&&e.2.index==i) then 1 else 0):=by
 rw[um,qb,qW h];rfl
theorem Qv (L:Fl) (q:Nat):List.replicate 72 0=um L q 0:=by
 apply qG;intro i;by_cases h:i<72
 ·rw[uS _ _ _ h,qF,if_pos h]
  rfl
 ·rw[qz (by simp;omega),qz (by rw[uR];omega)]
theorem uo {L:Fl} {k:Nat} (hk:k<L.length) {e:Nat×tQ} (he:L[k]=e):L.take (k+1)=L.take k++[e]:=by rw[zZ hk,he]
theorem Qw {L:Fl} {q k:Nat} (hk:k<L.length) {e:Nat×tQ} (he:L[k]=e) (h:hit q e=false):um L q (k+1)=um L q k∧vM L q (k+1)=vM L q k:=by
 constructor
 ·unfold um
  refine za5 (λi _=>?_);have h1:[e].any (λe=>hit q e&&e.2.index==i)=false:=by simp only[List.any_cons,List.any_nil,h,Bool.false_and,zbd]
  rw[uo hk he,List.any_append,h1,zbd]
 ·unfold vM
  rw[uo hk he,zaD];simp[h]
theorem Vg {L:Fl} {q k:Nat} (hk:k<L.length) {e:Nat×tQ} (he:L[k]=e) (h:hit q e=true) (hi:e.2.index<72):(um L q k).set e.2.index 1=um L q (k+1)∧vM L q (k+1)=vM L q k+1:=by
 constructor
 ·apply qG
  intro i;by_cases h72:i<72
  ·have h1:[e].any (λe=>hit q e&&e.2.index==i)=(e.2.index==i):=by simp only[List.any_cons,List.any_nil,h,Bool.true_and,zbd]
   rw[uS _ _ _ h72,zaW,uo hk he,List.any_append,h1];by_cases XQ:e.2.index=i
   ·rw[if_pos XQ,if_pos (by rw[uR];exact hi),XQ,beq_self_eq_true,Bool.or_true,if_pos rfl]
   ·rw[if_neg XQ,uS _ _ _ h72,beq_eq_false_iff_ne.2 XQ,zbd]
  ·rw[qz (by rw[zat,uR];omega),qz (by rw[uR];omega)]
 ·unfold vM
  rw[uo hk he,zaD,zw];simp[h]
theorem Vh {L:Fl} {q k:Nat} (hk:k<L.length) (h:hit q L[k]=true) (hn:((L.filter (hit q)).map (·.2.index)).Nodup):(L.take k).any (λe=>hit q e&&e.2.index==L[k].2.index)=false:=by
 rw[List.any_eq_false];intro e he hee;rw[zad,beq_iff_eq] at hee;obtain⟨f,hf⟩:∃f,L[k]=f:=⟨_,rfl⟩
 have ah6:L=L.take k++f::L.drop (k+1):=by rw[←hf,←List.drop_eq_getElem_cons hk,zak]
 rw[hf] at hee h;rw[ah6,zaD,zW,zaY] at hn;have h1:e.2.index∈((L.take k).filter (hit q)).map (·.2.index):=qj.2 ⟨e,qR.2 ⟨he,hee.1⟩,rfl⟩;have h2:f.2.index∈((f::L.drop (k+1)).filter (hit q)).map (·.2.index):=qj.2 ⟨f,qR.2 ⟨sQ,h⟩,rfl⟩;exact hn.2.2 _ h1 _ h2 hee.2
theorem ZE (L:Fl) (q:Nat):vM L q L.length=(L.filter (hit q)).length:=by
 unfold vM;rw[zae]
section
variable {w:World} {L:Fl} {v:Value} {q n1:Nat}
theorem Qx (hN:AA w v L) (gD:L.length≤20000) (h1:1≤n1∧n1≤72) (hm:∀e∈L,e.2.seq=q→e.2.count=n1∧e.2.index<n1) (yt:((L.filter (hit q)).map (·.2.index)).Nodup) (hc:(L.filter (hit q)).length=n1):
  Calls Tryz.prog 181 #[v,.int .u64 q] w λe w'=>e=.returned (.bool true)∧Below w.heap.size w w':=by
 obtain⟨a,c,rfl,ha⟩:=hN.slice;obtain⟨n,hn⟩:∃n,L.length=n:=⟨_,rfl⟩
 have hzero:Tryz.zeroCells323=aL (List.replicate 72 0):=kQ
 have HN:=U hN;have HM:=U hm;have HND:=U yt;have HC:=U hc;have HL:=U hn;have HZ:=U hzero;rw[hn] at gD ⊢;clear hN hm yt hc hn hzero;go_enter Tryz.func181,Tryz.ntmps181;go_wp2_with fail;have aF:=(zn w.heap.size w).alloc (zm _) (.cells Tryz.zeroCells323 323);have aP:IsNode (w.alloc (.cells Tryz.zeroCells323 323)) w.heap.size 323 (List.replicate 72 0):=IsNode.at rfl _ _ HZ.o;have HV1:=U aP;have jD:=U aF;clear aP aF;go_loopw [6,7,12] (λt u v wr=>∃(k:Nat),k≤n∧v=.int .i64 k∧u=.int .i64 (vM L q k)∧t=.int .i64 (if vM L q k=0 then 0 else(n1:Int))∧IsNode wr w.heap.size 323 (um L q k)∧Below w.heap.size w wr) (λ_ _ v _=>n - (intOf v).toNat)
 case atStart=>exact⟨0,oQ,rfl,by simp[vM],by simp[vM],by rw[←Qv];exact HV1.o,jD.o⟩
 case round=>
  obtain⟨k,hk,rfl,rfl,rfl,hV,hB⟩:=hrel;by_cases mW:k<n
  ·have fF:k<L.length:=by rw[HL.o];exact mW
   rcases ha with ha|⟨b,rfl,hb⟩
   ·rw[ha] at fF;simp at fF
   have yx:=HN.o.below hB;have c0:=yx.cell hb k fF 0 oQ rfl;have c1:=yx.cell hb k fF 1 oQ rfl;have c2:=yx.cell hb k fF 2 oQ rfl;have c3:=yx.cell hb k fF 3 oQ rfl;have c4:=yx.cell hb k fF 4 oQ rfl;have c5:=yx.cell hb k fF 5 oQ rfl;have c6:=yx.cell hb k fF 6 oQ rfl;have c7:=yx.cell hb k fF 7 oQ rfl;rw[za3] at c0;have Vi:=HM.o _ (qm fF);have adZ:hit q L[k]=(L[k].2.seq==q):=rfl;obtain⟨e,he⟩:∃e,L[k]=e:=⟨_,rfl⟩
   by_cases hq:L[k].2.seq=q
   ·have hh:hit q L[k]=true:=by rw[adZ,hq];simp
    obtain⟨ah7,U4⟩:=Vi hq;obtain⟨s1,s2⟩:=Vg fF rfl hh oQ;have s3:=uS L q k (i:=L[k].2.index) oQ;rw[Vh fF hh HND.o] at s3;have hcell:=hV.cell _ _ s3;have hle:vM L q (k+1)≤n1:=by
     rw[←HC.o];unfold vM;exact List.Sublist.length_le (List.Sublist.filter _ (List.take_sublist _ _))
    obtain⟨ep,hep⟩:∃x,L[k].2.epoch=x:=⟨_,rfl⟩
    obtain⟨ix,IE⟩:∃x,L[k].2.index=x:=⟨_,rfl⟩
    obtain⟨sq,IU⟩:∃x,L[k].2.seq=x:=⟨_,rfl⟩
    obtain⟨sq1,ZF⟩:∃x,L[k].2.seq - 1=x:=⟨_,rfl⟩
    obtain⟨ct,ZG⟩:∃x,L[k].2.count=x:=⟨_,rfl⟩
    obtain⟨m,hm⟩:∃m,vM L q k=m:=⟨_,rfl⟩
    rw[ZF] at c3;rw[hep] at c0;rw[IU] at c2 hq;rw[ZG] at c5 ah7;rw[IE] at c4 s1 hcell U4;rw[hm] at s2;rw[hm];have AL:=hV;have S1:=U s1;have S2:=U s2;have eD:m+1≤n1:=oQ
    have dV:((sq:Int)==(q:Int))=true:=by rw[beq_iff_eq];omega
    have atu:((sq:Int) !=(q:Int))=false:=by rw[bne_eq_false_iff_eq];omega
    have aBF:((ct:Int) !=(n1:Int))=false:=by rw[bne_eq_false_iff_eq];omega
    have f5:=hV.free ix;have Hct:=U ah7;have HV:=U hV;have HB:=U hB;have bA:=HV.o.lt;clear hV hB yx Vi adZ he hq hh ah7 s1 s2 s3 hle hep IE IU ZF ZG hm AL;rcases zba m with rfl|hmp
    ·have hif:(if(0:Nat)=0 then(0:Int) else(n1:Int))=0:=rfl
     rw[hif];go_wp2_with fail;have hVs:=HV.o.setAt ix 1;rw[S1.o] at hVs;have Lu:Below w.heap.size w (wr.setCell ⟨w.heap.size,ix,none⟩ (.int .i64 1)):=HB.o.setCell (p:=⟨w.heap.size,ix,none⟩) (zm _) _;obtain⟨ws,IV⟩:∃ws,wr.setCell ⟨w.heap.size,ix,none⟩ (.int .i64 1)=ws:=⟨_,rfl⟩
     rw[IV] at hVs Lu ⊢;have lq:=(zn ws.heap.size ws).alloc (zm _) (.cells #[.int .u32 ep,.int .u64 L[k].2.start,.int .u64 sq,.int .u64 sq1,.int .i64 ix,.int .i64 ct,.int .i64 L[k].2.id,.int .i64 L[k].1] 243);exact⟨⟨k+1,oQ,by go_num,by rw[S2.o];go_num,by rw[S2.o,if_neg oQ,Hct.o],hVs.below lq,Lu.trans (lq.mono Lu.size)⟩,by simp[intOf];omega⟩
    ·have hif:(if m=0 then(0:Int) else(n1:Int))=n1:=if_neg oQ
     rw[hif];have atw:((n1:Int)==0)=false:=by rw[beq_eq_false_iff_ne];omega
     go_wp2_with fail;have hVs:=HV.o.setAt ix 1;rw[S1.o] at hVs;have Lu:Below w.heap.size w (wr.setCell ⟨w.heap.size,ix,none⟩ (.int .i64 1)):=HB.o.setCell (p:=⟨w.heap.size,ix,none⟩) (zm _) _;obtain⟨ws,IV⟩:∃ws,wr.setCell ⟨w.heap.size,ix,none⟩ (.int .i64 1)=ws:=⟨_,rfl⟩
     rw[IV] at hVs Lu ⊢;have lq:=(zn ws.heap.size ws).alloc (zm _) (.cells #[.int .u32 ep,.int .u64 L[k].2.start,.int .u64 sq,.int .u64 sq1,.int .i64 ix,.int .i64 ct,.int .i64 L[k].2.id,.int .i64 L[k].1] 243);exact⟨⟨k+1,oQ,by go_num,by rw[S2.o];go_num,by rw[S2.o,if_neg oQ],hVs.below lq,Lu.trans (lq.mono Lu.size)⟩,by simp[intOf];omega⟩
   ·have hh:hit q L[k]=false:=by rw[adZ];simp[hq]
    obtain⟨s1,s2⟩:=Qw fF rfl hh;obtain⟨sq,IU⟩:∃x,L[k].2.seq=x:=⟨_,rfl⟩
    obtain⟨sq1,ZF⟩:∃x,L[k].2.seq - 1=x:=⟨_,rfl⟩
    rw[ZF] at c3;rw[IU] at c2 hq;have atu:((sq:Int) !=(q:Int))=true:=by rw[bne_iff_ne];omega
    have S1:=U s1;have S2:=U s2;have HV:=U hV;have HB:=U hB;clear hV hB yx Vi adZ he hq hh s1 s2 IU ZF;go_wp2_with fail;have lq:=(zn wr.heap.size wr).alloc (zm _) (.cells #[.int .u32 L[k].2.epoch,.int .u64 L[k].2.start,.int .u64 sq,.int .u64 sq1,.int .i64 L[k].2.index,.int .i64 L[k].2.count,.int .i64 L[k].2.id,.int .i64 L[k].1] 243);exact⟨⟨k+1,oQ,by go_num,by rw[S2.o],by rw[S2.o],by rw[S1.o];exact HV.o.below lq,HB.o.trans (lq.mono HB.o.size)⟩,by simp[intOf];omega⟩
  ·obtain rfl:k=n:=oQ
   have hh:vM L q k=n1:=by rw[←HC.o,←ZE,HL.o]
   have HB:=U hB;rw[hh,if_neg oQ];have h0:decide ((0:Int)<(n1:Int))=true:=by rw[decide_eq_true_eq];omega
   have h2:((n1:Int)==(n1:Int))=true:=sQ
   clear hV hB hh;go_wp2_with fail;go_ret;exact⟨rfl,HB.o⟩
end
theorem AA.at8 {w:World} {b n c:Nat} {L:Fl} (h:AA w (.slice (some ⟨b,0,none⟩) n c) L) (k:Nat) (hk:k<L.length) {e:Nat×tQ} (he:L[k]=e):
  w.cell? ⟨b,k*8,none⟩=some (.int .u32 e.2.epoch)∧w.cell? ⟨b,k*8+1,none⟩=some (.int .u64 e.2.start)∧w.cell? ⟨b,k*8+2,none⟩=some (.int .u64 e.2.seq)∧w.cell? ⟨b,k*8+3,none⟩=some (.int .u64 ((e.2.seq - 1:Nat)))∧
  w.cell? ⟨b,k*8+4,none⟩=some (.int .i64 e.2.index)∧w.cell? ⟨b,k*8+5,none⟩=some (.int .i64 e.2.count)∧w.cell? ⟨b,k*8+6,none⟩=some (.int .i64 e.2.id)∧w.cell? ⟨b,k*8+7,none⟩=some (.int .i64 e.1):=by
 subst he;exact⟨h.cell rfl k hk 0 oQ rfl,h.cell rfl k hk 1 oQ rfl,h.cell rfl k hk 2 oQ rfl,h.cell rfl k hk 3 oQ rfl,h.cell rfl k hk 4 oQ rfl,h.cell rfl k hk 5 oQ rfl,h.cell rfl k hk 6 oQ rfl,h.cell rfl k hk 7 oQ rfl⟩
abbrev WhS:=(Nat→Option Nat)×(Nat→Nat)
def Kk (s:WhS) (e:Nat×tQ):WhS:=if s.2 e.2.id<e.2.seq then(fD s.1 e.2.id (some e.1),λi=>if i=e.2.id then e.2.seq else s.2 i) else s
def Gz (L:Fl):WhS:=L.foldl Kk (λ_=>none,λ_=>0)
theorem M5 (L:Fl) (e:Nat×tQ):Gz (L++[e])=Kk (Gz L) e:=by simp[Gz]
theorem ZH:∀(n:Nat) (L:Fl),L.length=n→(∀id p,(Gz L).1 id=some p→∃e,e∈L∧e.1=p∧e.2.id=id∧(Gz L).2 id=e.2.seq)∧(∀e,e∈L→e.2.seq≤(Gz L).2 e.2.id)∧(∀id,(Gz L).1 id=none→(Gz L).2 id=0):=by
 intro n
 induction n with
 |zero=>
  intro L hL;have:L=[]:=zX hL;subst this;exact⟨λid p h=>by simp[Gz] at h,λe h=>by simp at h,λid _=>rfl⟩
 |succ n ih=>
  intro L0 hL;rcases List.eq_nil_or_concat L0 with h0|⟨L,e,h0⟩
  ·subst h0;simp at hL
  rw[List.concat_eq_append] at h0;subst h0;obtain⟨h1,h2,h3⟩:=ih L (by simpa using hL);rw[M5];unfold Kk;by_cases bA:(Gz L).2 e.2.id<e.2.seq
  ·rw[if_pos bA]
   refine⟨λid p h=>?_,λe' h=>?_,λid h=>?_⟩
   ·by_cases hi:id=e.2.id
    ·subst hi
     simp only[fD,if_pos] at h;injection h with h;exact⟨e,sQ,h,rfl,sQ⟩
    ·simp only[fD,if_neg hi] at h
     obtain⟨e',LB,r1,r2,r3⟩:=h1 id p h;exact⟨e',by simp[LB],r1,r2,by simp only[if_neg hi];exact r3⟩
   ·rcases qg.1 h with h|h
    ·by_cases hi:e'.2.id=e.2.id
     ·simp only[if_pos hi]
      have:=h2 e' h;rw[hi] at this;omega
     ·simp only[if_neg hi]
      exact h2 e' h
    ·rw[zV.1 h]
     simp
   ·by_cases hi:id=e.2.id
    ·subst hi
     simp[fD] at h
    ·simp only[fD,if_neg hi] at h
     simp only[if_neg hi];exact h3 id h
  ·rw[if_neg bA]
   refine⟨λid p h=>?_,λe' h=>?_,h3⟩
   ·obtain⟨e',LB,r⟩:=h1 id p h
    exact⟨e',by simp[LB],r⟩
   ·rcases qg.1 h with h|h
    ·exact h2 e' h
    ·rw[zV.1 h]
     omega
theorem ad1:jC Tryz.prog 326 116 (.int .u64 0) 8:=⟨Tryz.underlying326,kQ,rfl⟩
def sM (B:Nat) (l:Nat→Nat):List Value:=(List.range B).map (λi=>Value.int .u64 (l i))
theorem uT {B:Nat} {l:Nat→Nat} {i:Nat} (h:i<B):(sM B l)[i]? =some (.int .u64 (l i)):=by
 rw[sM,qb,qW h];rfl
theorem Vj {B i x:Nat} {l:Nat→Nat} (h:i<B):(sM B l).set i (.int .u64 x)=sM B (λj=>if j=i then x else l j):=by
 apply qG;intro j;by_cases hj:j<B
 ·rw[uT hj,zaW]
  by_cases hi:i=j
  ·subst hi
   rw[if_pos rfl,if_pos (by simp[sM,h]),if_pos rfl]
  ·rw[if_neg hi,uT hj,if_neg (Bp hi)]
 ·rw[qz (by simp[sM];omega),qz (by simp[sM];omega)]
theorem Qy (B:Nat):List.replicate B (Value.int .u64 0)=sM B (λ_=>0):=by
 apply qG;intro j;by_cases hj:j<B
 ·rw[uT hj,qF,if_pos hj];rfl
 ·rw[qz (by simp;omega),qz (by simp[sM];omega)]
theorem uq (w:World) {p q:Addr} (h:q.block≠p.block) (v:Value):(w.setCell p v).cell? q=w.cell? q:=zS (zI _ _ _ _ h)
abbrev Ye (B:Nat) (A:Nat→Option Nat):List Value:=dA ((List.range B).map (λi=>jW (A i)))
section
variable {w:World} {L:Fl} {v:Value} {q B:Nat}
theorem Qz (hN:AA w v L) (gD:L.length≤20000) (hq:∀e∈L,e.2.seq≤q) (MO:∀e∈L,e.2.id<B) (aF:1≤B∧B≤3840):
  Calls Tryz.prog 183 #[v,.int .u64 q,.int .i64 B] w λe w'=>∃ab:Nat,e=.returned (.slice (some ⟨ab,0,none⟩) B B)∧ah w' ab 3 (Ye B (Gz L).1)∧w.heap.size≤ab∧Below w.heap.size w w':=by
 obtain⟨a,c,rfl,ha⟩:=hN.slice;obtain⟨n,hn⟩:∃n,L.length=n:=⟨_,rfl⟩
 obtain⟨wm,fC,hVm,hBm,hzm⟩:=kN (w:=w) CP .i64 .i64 B oQ oQ;have HN:=U hN;have HQ:=U hq;have HI:=U MO;have HL:=U hn;rw[hn] at gD ⊢;have HVm:=U hVm;have HBm:=U hBm;clear hN hq MO hn hVm hBm;go_enter Tryz.func183,Tryz.ntmps183;go_wp2_with fail;go_loopw [8,16] (λ_ v wr=>∃(k:Nat),k≤B∧v=.int .i64 k∧ah wr w.heap.size 3 (dA (gW B k))∧Below w.heap.size w wr) (λ_ v _=>B - (intOf v).toNat)
 case atStart=>exact⟨0,oQ,rfl,by rw[←tY];exact HVm.o,HBm.o⟩
 case round=>
  obtain⟨k,hk,rfl,hR,hB⟩:=hrel;have R:=U hR;have HBj:=U hB;by_cases Pj:k<B
  ·have dj:=hR.cell k
   rw[bW,jX Pj,qA] at dj;have fj:=hR.free k;have Gq:ah (wr.setCell ⟨w.heap.size,k,none⟩ (.int .i64 (-1))) w.heap.size 3 (dA (gW B (k+1))):=by rw[←wM Pj];exact hR.aB k _
   have R2':=U Gq;have PO:=U (hB.setCell (p:=⟨w.heap.size,k,none⟩) (zm _) (.int .i64 (-1)));clear hR hB Gq fC;go_wp2_with fail;exact⟨⟨k+1,oQ,by go_num,R2'.o,PO.o⟩,by simp[intOf];omega⟩
  ·obtain rfl:k=B:=oQ
   have hz:=hB.size;clear hR fC;obtain⟨wn,fC,hVn,hBn,hzn⟩:=kN (w:=wr) ad1 .i64 .i64 k oQ oQ;have QA:ah wn w.heap.size 3 (Ye k (Gz (L.take 0)).1):=by
    have h:=R.o.below hBn;rw[wN] at h;exact h
   have Kl:ah wn wr.heap.size 116 (sM k (Gz (L.take 0)).2):=by
    rw[Qy] at hVn;exact hVn
   have HA1:=U QA;have HV1:=U Kl;have HBn:=U (hB.trans (hBn.mono hB.size));have dV:w.heap.size≠wr.heap.size:=by have:=R.o.lt;omega
   obtain⟨lb,hlb⟩:∃lb,wr.heap.size=lb:=⟨_,rfl⟩
   rw[hlb] at fC dV HV1;have aty:w.heap.size≤lb:=oQ
   clear hB QA Kl hVn hBn;go_wp2_with fail;clear hlb fC hzn hz;go_loopw [27] (λi wr=>∃(j:Nat),j≤n∧i=.int .i64 j∧ah wr w.heap.size 3 (Ye k (Gz (L.take j)).1)∧ah wr lb 116 (sM k (Gz (L.take j)).2)∧Below w.heap.size w wr) (λi _=>n - (intOf i).toNat)
   case atStart=>exact⟨0,oQ,rfl,HA1.o,HV1.o,HBn.o⟩
   case round=>
    obtain⟨j,hj,rfl,hA,hV,Lu⟩:=hrel;by_cases Lv:j<n
    ·have Dv:j<L.length:=by rw[HL.o];exact Lv
     rcases ha with ha|⟨b,rfl,hb⟩
     ·rw[ha] at Dv;simp at Dv
     obtain⟨e,he⟩:∃e,L[j]=e:=⟨_,rfl⟩
     have Gb:e∈L:=by rw[←he];exact qm Dv
     have hNj:=HN.o.below Lu;rw[HL.o] at hNj;obtain⟨c0,c1,c2,c3,c4,c5,c6,c7⟩:=hNj.at8 j Dv he;have IV:=M5 (L.take j) e;rw[←uo Dv he] at IV;obtain⟨⟨A,l⟩,hAl⟩:∃s:WhS,Gz (L.take j)=s:=⟨_,rfl⟩
     rw[hAl] at hA hV IV;have hle:decide (e.2.seq≤q)=true:=by have:=HQ.o e Gb;rw[decide_eq_true_eq];omega
     have ad3:=HI.o e Gb;obtain⟨ep,hep⟩:∃x,e.2.epoch=x:=⟨_,rfl⟩
     obtain⟨sa,hsa⟩:∃x,e.2.start=x:=⟨_,rfl⟩
     obtain⟨sq,IU⟩:∃x,e.2.seq=x:=⟨_,rfl⟩
     obtain⟨sf,ZI⟩:∃x,e.2.seq - 1=x:=⟨_,rfl⟩
     obtain⟨ix,IE⟩:∃x,e.2.index=x:=⟨_,rfl⟩
     obtain⟨ct,ZG⟩:∃x,e.2.count=x:=⟨_,rfl⟩
     obtain⟨id,oH⟩:∃x,e.2.id=x:=⟨_,rfl⟩
     obtain⟨pl,fB⟩:∃x,e.1=x:=⟨_,rfl⟩
     rw[hep] at c0;rw[hsa] at c1;rw[IU] at c2 hle;rw[ZI] at c3;rw[IE] at c4;rw[ZG] at c5;rw[oH] at c6 ad3;rw[fB] at c7;have IV:Gz (L.take (j+1))=if l id<sq then(fD A id (some pl),λi=>if i=id then sq else l i) else(A,l):=by rw[IV];unfold Kk;simp only[IU,oH,fB]
     obtain⟨wb,vI⟩:∃wb,wr.alloc (.cells #[.int .u32 ep,.int .u64 sa,.int .u64 sq,.int .u64 sf,.int .i64 ix,.int .i64 ct,.int .i64 id,.int .i64 pl] 243)=wb:=⟨_,rfl⟩
     have vJ:Below wr.heap.size wr wb:=by rw[←vI];exact(zn _ _).alloc (zm _) _
     have CV:ah wb wr.heap.size 243 [.int .u32 ep,.int .u64 sa,.int .u64 sq,.int .u64 sf,.int .i64 ix,.int .i64 ct,.int .i64 id,.int .i64 pl]:=by rw[←vI];exact ah.new wr _ _
     have hAb:=hA.below vJ;have hVb:=hV.below vJ;have Zr:wr.heap.size<wb.heap.size:=by rw[←vI];simp
     have cl:=(hVb.cell id).trans (uT ad3);have ca:=fO hAb ad3;have b2:=CV.cell 2;have b6:=CV.cell 6;have b7:=CV.cell 7;simp only[zf,zi] at b2 b6 b7;have fl:=hVb.free id;have fa:=hAb.free id;have HAb:=U hAb;have HVb:=U hVb;have Hws:=U IV;have Qf:=U (Lu.trans (vJ.mono Lu.size));have hae:w.heap.size≠wr.heap.size:=by have:=hA.lt;omega
     have aBL:lb≠wr.heap.size:=by have:=hV.lt;omega
     clear hA hV Lu hNj Gb he hAl hep hsa IU ZI IE ZG oH fB IV vJ CV hAb hVb;have Bv:wb.cell? ⟨lb,id,none⟩=some (.int .u64 (l id)):=cl;go_wp2_with fail;refine wp_region_noPanic ?_;refine ak (S:=(λW=>W.cell? ⟨wr.heap.size,2,none⟩=some (.int .u64 sq)∧W.cell? ⟨wr.heap.size,6,none⟩=some (.int .i64 id)∧W.cell? ⟨lb,id,none⟩=some (.int .u64 (l id)))) (m:=17) kQ ⟨b2,b6,cl⟩ (λaj=>?_);refine te 0 aj ?_;refine te 1 aj ?_;refine te 2 aj ?_;refine te 3 aj ?_;refine te 4 aj ?_;refine te 5 aj ?_;refine te 6 aj ?_;refine te 7 aj ?_;refine te 8 aj ?_;refine te 9 aj ?_;refine te 10 aj ?_;refine te 11 aj ?_;refine te 12 aj ?_;refine te 13 aj ?_;refine te 14 aj ?_;refine te 15 aj ?_;refine te 16 aj ?_;refine aD ?_;by_cases bA:l id<sq
     ·have hd:decide (l id<sq)=true:=by rw[decide_eq_true_eq];exact bA
      go_wp2_with fail;refine wp_region_noPanic ?_;refine ak (S:=(λW=>W.cell? ⟨wr.heap.size,2,none⟩=some (.int .u64 sq)∧W.cell? ⟨wr.heap.size,6,none⟩=some (.int .i64 id)∧W.cell? ⟨wr.heap.size,7,none⟩=some (.int .i64 pl))) (m:=15) kQ ⟨b2,b6,b7⟩ (λaj=>?_);refine te 0 aj ?_;refine te 1 aj ?_;refine te 2 aj ?_;refine te 3 aj ?_;refine te 4 aj ?_;refine te 5 aj ?_;refine te 6 aj ?_;refine te 7 aj ?_;refine te 8 aj ?_;refine te 9 aj ?_;refine te 10 aj ?_;refine te 11 aj ?_;refine te 12 aj ?_;refine te 13 aj ?_;refine rE 14 λK hK=>?_;go_simp;refine hK.out _ _ (λ_=>⟨(uq wb.drew (p:=⟨w.heap.size,id,none⟩) (q:=⟨wr.heap.size,2,none⟩) (Bp hae) _).trans b2,(uq wb.drew (p:=⟨w.heap.size,id,none⟩) (q:=⟨wr.heap.size,6,none⟩) (Bp hae) _).trans b6,(uq wb.drew (p:=⟨w.heap.size,id,none⟩) (q:=⟨wr.heap.size,7,none⟩) (Bp hae) _).trans b7⟩) (λhS=>?_);have bQ:=hS dQ;clear hS hK K
      try simp only[Act.put,zh,zk,zl]
      refine vF 15 ?_;refine rE 16 λK hK=>?_;go_simp;refine kX hK ?_;clear hK K
      try simp only[Act.put,zh,zk,zl]
      refine aD ?_;go_wp2_with fail;rw[if_pos bA] at Hws;have ZJ:ah (wb.setCell ⟨w.heap.size,id,none⟩ (.int .i64 pl)) w.heap.size 3 (Ye k (fD A id (some pl))):=by
       have:=HAb.o.aB id (.int .i64 (jW (some pl)));rw[ints_set] at this;exact this
      have Yf:ah (wb.setCell ⟨w.heap.size,id,none⟩ (.int .i64 pl)) lb 116 (sM k l):=(zI _ _ _ _ (Bp dV)).trans HVb.o;have aJ:Below w.heap.size w (wb.setCell ⟨w.heap.size,id,none⟩ (.int .i64 pl)):=Qf.o.setCell (p:=⟨w.heap.size,id,none⟩) (zm _) _;have hA3:ah ((wb.setCell ⟨w.heap.size,id,none⟩ (.int .i64 pl)).setCell ⟨lb,id,none⟩ (.int .u64 sq)) w.heap.size 3 (Ye k (fD A id (some pl))):=(zI _ _ _ _ dV).trans ZJ;have BR:=Yf.aB id (.int .u64 sq);rw[Vj ad3] at BR;have bf:Below w.heap.size w ((wb.setCell ⟨w.heap.size,id,none⟩ (.int .i64 pl)).setCell ⟨lb,id,none⟩ (.int .u64 sq)):=aJ.setCell (p:=⟨lb,id,none⟩) aty _;exact⟨⟨j+1,oQ,by go_num,by rw[Hws.o];exact hA3,by rw[Hws.o];exact BR,bf.drew.drew⟩,by simp[intOf];omega⟩
     ·have hd:decide (l id<sq)=false:=by rw[decide_eq_false_iff_not];exact bA
      go_wp2_with fail;rw[if_neg bA] at Hws;have hBd:=(zn wb.heap.size wb).drew;exact⟨⟨j+1,oQ,by go_num,by rw[Hws.o];exact HAb.o.below hBd,by rw[Hws.o];exact HVb.o.below hBd,Qf.o.trans (hBd.mono Qf.o.size)⟩,by simp[intOf];omega⟩
    ·obtain rfl:j=n:=oQ
     rw[zy (by rw[HL.o];exact zm _)] at hA;have HA:=U hA;have HBs:=U Lu;clear hA hV Lu;go_wp2_with fail;go_ret;exact⟨w.heap.size,rfl,HA.o,zm _,HBs.o⟩
end
def near (P hd p:Nat):Nat:=if hd≤p then hd+P - p else hd - p
def Km (P hd:Nat) (A:Nat→Option Nat):Nat→Nat
 |0=>0
 |k+1=>match A k with|none=>Km P hd A k|some p=>max (Km P hd A k) (near P hd p)
theorem QB {P hd:Nat} {A:Nat→Option Nat}:∀(k i p:Nat),i<k→A i=some p→near P hd p≤Km P hd A k
 |0,i,p,h,_=>absurd h oQ
 |k+1,i,p,h,hA=>by
  rw[Km];by_cases hi:i=k
  ·subst hi
   rw[hA];exact Nat.le_max_right _ _
  ·have:=QB (P:=P) (hd:=hd) k i p oQ hA
   split
   ·exact this
   ·exact zC this (Nat.le_max_left _ _)
theorem QC {P hd:Nat} {A:Nat→Option Nat}:∀(k:Nat),Km P hd A k=0∨∃i p,i<k∧A i=some p∧Km P hd A k=near P hd p
 |0=>.inl rfl
 |k+1=>by
  rw[Km];rcases hA:A k with _|p
  ·rcases QC (P:=P) (hd:=hd) (A:=A) k with h|⟨i,p,h1,h2,h3⟩
   ·exact .inl h
   ·exact .inr ⟨i,p,oQ,h2,h3⟩
  ·by_cases hm:Km P hd A k≤near P hd p
   ·exact .inr ⟨k,p,oQ,hA,by simp only;omega⟩
   ·rcases QC (P:=P) (hd:=hd) (A:=A) k with h|⟨i,p',h1,h2,h3⟩
    ·omega
    ·exact .inr ⟨i,p',oQ,h2,by simp only;omega⟩
theorem ad4 (P:Program) (a b:Nat):∀(ts:Array TypeId) (t:TypeId) (W:World),(Builtin.max_ ts t #[.int .i64 (a:Int),.int .i64 (b:Int)]).run P W=.ok (.int .i64 ((max a b:Nat):Int)) W:=by
 intro ts t W;simp[Builtin.max_,Builtin.max2]
 split<;>omega
section
variable {w:World} {L:Fl} {v:Value} {q B P r rb hd:Nat} {vals:List Int} {A:Nat→Option Nat}
theorem Vk {ab:Nat} (hA:ah w ab 3 (Ye B A)) (aF:B≤3840) (hR:RingAt w r rb P vals) (X6:hd<P) (bA:∀i p,i<B→A i=some p→p<P):
  Calls Tryz.prog 185 #[.slice (some ⟨ab,0,none⟩) B B,.int .i64 hd,.pointer (some ⟨r,0,none⟩)] w λe w'=>e=.returned (.int .i64 (Km P hd A B))∧w=w':=by
 have hP:=hR.few;have HA:=U hA;have HR:=U hR;have HT:=U bA;clear hA hR bA;go_enter Tryz.func185,Tryz.ntmps185;go_wp2_with fail
 go_loop [7,13] (λt v=>∃(k:Nat),k≤B∧v=.int .i64 k∧t=.int .i64 (Km P hd A k)) (λ_ v=>B - (intOf v).toNat)
 case atStart=>exact⟨0,oQ,rfl,rfl⟩
 case round=>
  obtain⟨k,hk,rfl,rfl⟩:=hrel;by_cases Pj:k<B
  ·have BQ:=fO HA.o Pj
   rcases MU:A k with _|p
   ·rw[MU] at BQ
    replace BQ:w.cell? ⟨ab,k,none⟩=some (.int .i64 (-1)):=BQ;have hu:Hid (Km P hd A (k+1)=Km P hd A k):=U (by rw[Km,MU]);clear MU;go_wp2_with fail;go_round
    case rel=>exact⟨k+1,oQ,by go_num,by rw[hu.o]⟩
    case measure=>simp[intOf];omega
   ·rw[MU] at BQ
    replace BQ:w.cell? ⟨ab,k,none⟩=some (.int .i64 p):=BQ;have XR:=HT.o k p Pj MU;have hu:Hid (Km P hd A (k+1)=max (Km P hd A k) (near P hd p)):=U (by rw[Km,MU])
    have Kn:((hd:Int) - (p:Int))%(P:Int)=if hd=p then 0 else(near P hd p:Int):=by
     unfold near;by_cases h1:hd=p
     ·subst h1;simp
     ·rw[if_neg h1]
      by_cases h2:hd≤p
      ·rw[if_pos h2,←Int.add_emod_right]
       rw[qY oQ oQ];omega
      ·rw[if_neg h2,qY oQ oQ]
       omega
    have Vl:=U Kn;have FY:=ad4 Tryz.prog (Km P hd A k) (near P hd p);have Hmx:=U FY;clear MU Kn FY;go_wp2_with fail;refine(adn HR.o _ _ oQ oQ).mono ?_;rintro e w1 ⟨rfl,rfl⟩;rw[Vl.o];by_cases h1:hd=p
    ·rw[if_pos h1]
     have hn:near P hd p=P:=by unfold near;rw[if_pos oQ];omega
     have FY:=Hmx.o;rw[hn] at FY hu;clear hn Hmx h1;go_wp2_with fail;refine(kP HR.o).mono ?_;rintro e w1 ⟨rfl,rfl⟩;go_wp2_with fail;go_round
     case rel=>exact⟨k+1,oQ,by go_num,by rw[hu.o]⟩
     case measure=>simp[intOf];omega
    ·rw[if_neg h1]
     have AO:((near P hd p:Int)==0)=false:=by rw[beq_eq_false_iff_ne];unfold near;split<;>omega
     obtain⟨nr,hnr⟩:∃nr,near P hd p=nr:=⟨_,rfl⟩
     have FY:=Hmx.o;rw[hnr] at FY hu AO ⊢;clear hnr Hmx;go_wp2_with fail;go_round
     case rel=>exact⟨k+1,oQ,by go_num,by rw[hu.o]⟩
     case measure=>simp[intOf];omega
  ·obtain rfl:k=B:=oQ
   go_wp2_with fail;go_ret;exact⟨rfl,rfl⟩
theorem Vm (hN:AA w v L) (gD:L.length≤20000) (hR:RingAt w r rb P vals) (hm:∀e∈L,e.2.seq=q→e.2.index<e.2.count∧e.2.count≤72∧((e.1:Int)+((e.2.count:Int) - (e.2.index:Int)))%(P:Int)=(hd:Int)) (hp:∀e∈L,e.1<P) (hex:∃e,e∈L∧e.2.seq=q):
  Calls Tryz.prog 184 #[v,.int .u64 q,.pointer (some ⟨r,0,none⟩)] w λe w'=>e=.returned (.int .i64 hd)∧Below w.heap.size w w':=by
 obtain⟨a,c,rfl,ha⟩:=hN.slice;obtain⟨n,hn⟩:∃n,L.length=n:=⟨_,rfl⟩
 have hP:=hR.few;have HN:=U hN;have HM:=U hm;have HL:=U hn;have HR:=U hR;have HP:=U hp;have HE:=U hex;rw[hn] at gD ⊢;clear hN hm hn hR hp hex;go_enter Tryz.func184,Tryz.ntmps184;go_wp2_with fail;go_loopw [7,8,13] (λt u v wr=>∃(k:Nat) (at_ x:Int),k≤n∧v=.int .i64 k∧t=.int .i64 at_∧u=.int .i64 x∧ -1≤x∧x≤72∧((x= -1∧∀e∈L.take k,e.2.seq≠q)∨at_=(hd:Int))∧Below w.heap.size w wr) (λ_ _ v _=>n - (intOf v).toNat)
 case atStart=>exact⟨0,0, -1,oQ,rfl,rfl,rfl,oQ,oQ,.inl ⟨rfl,sQ⟩,zn _ _⟩
 case round=>
  obtain⟨k,at_,x,hk,rfl,rfl,rfl,wJ,oD,jV,hB⟩:=hrel;have Hor:=U jV;have HB:=U hB;by_cases mW:k<n
  ·have fF:k<L.length:=by rw[HL.o];exact mW
   rcases ha with ha|⟨b,rfl,hb⟩
   ·rw[ha] at fF;simp at fF
   obtain⟨e,he⟩:∃e,L[k]=e:=⟨_,rfl⟩
   have Gb:e∈L:=by rw[←he];exact qm fF
   have yx:=HN.o.below hB;rw[HL.o] at yx;obtain⟨c0,c1,c2,c3,c4,c5,c6,c7⟩:=yx.at8 k fF he;have wI:=uo fF he;have Vi:=HM.o e Gb;have YH:=HP.o e Gb;obtain⟨ep,hep⟩:∃x,e.2.epoch=x:=⟨_,rfl⟩
   obtain⟨sa,hsa⟩:∃x,e.2.start=x:=⟨_,rfl⟩
   obtain⟨sq,IU⟩:∃x,e.2.seq=x:=⟨_,rfl⟩
   obtain⟨sf,ZI⟩:∃x,e.2.seq - 1=x:=⟨_,rfl⟩
   obtain⟨ix,IE⟩:∃x,e.2.index=x:=⟨_,rfl⟩
   obtain⟨ct,ZG⟩:∃x,e.2.count=x:=⟨_,rfl⟩
   obtain⟨id,oH⟩:∃x,e.2.id=x:=⟨_,rfl⟩
   obtain⟨pl,fB⟩:∃x,e.1=x:=⟨_,rfl⟩
   rw[hep] at c0;rw[hsa] at c1;rw[IU] at c2 Vi;rw[ZI] at c3;rw[IE] at c4 Vi;rw[ZG] at c5 Vi;rw[oH] at c6;rw[fB] at c7 Vi YH;have Htk:=U wI;have Hsq:=U IU;obtain⟨wb,vI⟩:∃wb,wr.alloc (.cells #[.int .u32 ep,.int .u64 sa,.int .u64 sq,.int .u64 sf,.int .i64 ix,.int .i64 ct,.int .i64 id,.int .i64 pl] 243)=wb:=⟨_,rfl⟩
   have vJ:Below wr.heap.size wr wb:=by rw[←vI];exact(zn _ _).alloc (zm _) _
   have CV:ah wb wr.heap.size 243 [.int .u32 ep,.int .u64 sa,.int .u64 sq,.int .u64 sf,.int .i64 ix,.int .i64 ct,.int .i64 id,.int .i64 pl]:=by rw[←vI];exact ah.new wr _ _
   have b2:=CV.cell 2;have b4:=CV.cell 4;have b5:=CV.cell 5;have b7:=CV.cell 7;simp only[zf,zi] at b2 b4 b5 b7;have Qf:=U (hB.trans (vJ.mono hB.size));have HRb:=U (((HR.o.step (Step.of_below hB (λ_=>False)) (λh=>h) (λh=>h)).step (Step.of_below vJ (λ_=>False)) (λh=>h) (λh=>h)));clear yx wI Gb he hep hsa IU ZI IE ZG oH fB vJ CV hB jV;by_cases hq:sq=q
   ·obtain⟨g1,g2,g3⟩:=Vi hq
    have hbq:((sq:Int)==(q:Int))=true:=by rw[beq_iff_eq];omega
    have G3:=U g3;clear Vi g3 hq;by_cases hgt:x<(ix:Int)
    ·have X6:decide (x<(ix:Int))=true:=by rw[decide_eq_true_eq];exact hgt
     have fA:IntKind.i64.wrap ((ct:Int) - (ix:Int))=(ct:Int) - (ix:Int):=by rw[zG];omega
     go_wp2_with fail;refine wp_region_noPanic ?_;refine ak (S:=(λW=>W.cell? ⟨wr.heap.size,4,none⟩=some (.int .i64 ix)∧W.cell? ⟨wr.heap.size,5,none⟩=some (.int .i64 ct)∧W.cell? ⟨wr.heap.size,7,none⟩=some (.int .i64 pl))) (m:=15) kQ ⟨b4,b5,b7⟩ (λaj=>?_);refine te 0 aj ?_;refine te 1 aj ?_;refine te 2 aj ?_;refine te 3 aj ?_;refine te 4 aj ?_;refine te 5 aj ?_;refine te 6 aj ?_;refine te 7 aj ?_;refine te 8 aj ?_;refine te 9 aj ?_;refine te 11 aj ?_;refine te 12 aj ?_;refine te 13 aj ?_;refine rE 10 λK hK=>?_;go_simp;with_reducible refine(Dy (HRb.o.drew) _ _ oQ oQ).mono ?_
     rintro e w2 ⟨rfl,rfl⟩;rw[G3.o];go_wp2_with fail;refine hK.out _ _ (λ_=>⟨b4,b5,b7⟩) (λhS=>?_);have bQ:=hS dQ;clear hS hK K
     try simp only[Act.put,zh,zk,zl]
     refine te 14 bQ ?_;refine vF 15 ?_;refine aD ?_;go_wp2_with fail;exact⟨⟨k+1,_,_,oQ,by go_num,rfl,rfl,oQ,oQ,.inr rfl,Qf.o.trans ((zn _ _).drew.mono Qf.o.size)⟩,by simp[intOf];omega⟩
    ·have X6:decide (x<(ix:Int))=false:=by rw[decide_eq_false_iff_not];exact hgt
     go_wp2_with fail;refine⟨⟨k+1,at_,x,oQ,by go_num,rfl,rfl,wJ,oD,?_,Qf.o⟩,by simp[intOf];omega⟩;rcases Hor.o with⟨h1,_⟩|h1
     ·omega
     ·exact .inr h1
   ·have hbq:((sq:Int)==(q:Int))=false:=by rw[beq_eq_false_iff_ne];omega
    clear Vi;go_wp2_with fail;refine⟨⟨k+1,at_,x,oQ,by go_num,rfl,rfl,wJ,oD,?_,Qf.o⟩,by simp[intOf];omega⟩;rcases Hor.o with⟨h1,h2⟩|h1
    ·refine .inl ⟨h1,λe' LB=>?_⟩
     rw[Htk.o] at LB;rcases qg.1 LB with h|h
     ·exact h2 e' h
     ·rw[zV.1 h,Hsq.o]
      exact hq
    ·exact .inr h1
  ·obtain rfl:k=n:=oQ
   have dw:at_=(hd:Int):=by
    rcases jV with⟨_,h⟩|h
    ·obtain⟨e,he,heq⟩:=HE.o
     rw[zy (by rw[HL.o];exact zm _)] at h;exact absurd heq (h e he)
    ·exact h
   subst dw;clear hB jV;go_wp2_with fail;go_ret;exact⟨rfl,HB.o⟩
end
end
end Go.Proofs.YtdjdpeadohobmaaGreatDoor
