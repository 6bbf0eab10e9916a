/- A part of the walk below the law: what is proved here is used by later parts; no further condition. -/
import Derived.Lib.Hide
set_option linter.unusedVariables false
set_option linter.unusedSimpArgs false
set_option maxRecDepth 100000
set_option maxHeartbeats 20000000
namespace Go.Proofs.YtdjdpeadohobmaaGreatDoor
abbrev ou:=Nat×Bool
def ids (Q:List ou):List Nat:=Q.map Prod.fst
def wr (Q:List ou):Nat:=(Q.filter (λe=>e.2)).length
def Ib (Q:List ou):List Nat:=(Q.filter (λe=> !e.2)).map Prod.fst
def gB (l:List Nat):Nat→List ou→List Nat
 |0,_=>[]
 |_+1,[]=>[]
 |c+1,e::Q=>if e.1∈ids Q∨e.1∈l then gB l c Q else e.1::gB l c Q
def fresh (l:List Nat) (c:Nat) (Q:List ou):List ou:=l.map (·,true)++(gB l c Q).map (·,false)
def step (l:List Nat) (c:Nat) (Q:List ou):List ou:=Q.drop c++fresh l c Q
theorem Dm (Q R:List ou):ids (Q++R)=ids Q++ids R:=by simp[ids]
theorem uI (Q R:List ou):wr (Q++R)=wr Q+wr R:=by simp[wr]
theorem Dn (Q R:List ou):Ib (Q++R)=Ib Q++Ib R:=by simp[Ib]
theorem mD (l:List Nat) (c:Nat) (Q:List ou):ids (fresh l c Q)=l++gB l c Q:=by
 simp[ids,fresh,List.map_append,List.map_map,Function.comp_def]
theorem Sz (l:List Nat):wr (l.map (·,true))=l.length:=by
 induction l with
 |nil=>rfl
 |cons x l ih=>simpa[wr] using ih
theorem Dp (l:List Nat):wr (l.map (·,false))=0:=by
 induction l with
 |nil=>rfl
 |cons x l ih=>simp[wr] at*
theorem YE (l:List Nat):Ib (l.map (·,true))=[]:=by
 induction l with
 |nil=>rfl
 |cons x l ih=>simp[Ib] at*
theorem Uq (l:List Nat):Ib (l.map (·,false))=l:=by
 induction l with
 |nil=>rfl
 |cons x l ih=>simpa[Ib] using ih
theorem Ur (Q:List ou):Q.length=wr Q+(Ib Q).length:=by
 induction Q with
 |nil=>rfl
 |cons e Q ih=>
  obtain⟨i,b⟩:=e;cases b<;>simp[wr,Ib] at* <;>omega
theorem Dq (l:List Nat):∀c Q,(gB l c Q).length≤c:=by
 intro c
 induction c with
 |zero=>intro Q;simp[gB]
 |succ c ih=>
  intro Q;cases Q with
  |nil=>simp[gB]
  |cons e Q=>
   rw[gB];have:=ih Q
   split
   ·omega
   ·simp;omega
theorem xU (l:List Nat):∀c Q,∀x∈gB l c Q,x∈ids (Q.take c)∧x∉ids (Q.drop c)∧x∉l:=by
 intro c
 induction c with
 |zero=>intro Q x hx;simp[gB] at hx
 |succ c ih=>
  intro Q x hx;cases Q with
  |nil=>simp[gB] at hx
  |cons e Q=>
   rw[gB] at hx;have fA:∀y,y∈ids (Q.drop c)→y∈ids Q:=λy hy=>by
    unfold ids at*;rw[List.mem_map] at*;obtain⟨a,ha,rfl⟩:=hy;exact⟨a,List.mem_of_mem_drop ha,rfl⟩
   split at hx
   ·obtain⟨h1,h2,h3⟩:=ih Q x hx
    exact⟨by simp[ids] at h1 ⊢;exact .inr h1,h2,h3⟩
   ·rename_i hn
    rcases List.mem_cons.1 hx with rfl|hx
    ·exact⟨by simp[ids],λh=>hn (.inl (fA _ h)),λh=>hn (.inr h)⟩
    ·obtain⟨h1,h2,h3⟩:=ih Q x hx
     exact⟨by simp[ids] at h1 ⊢;exact .inr h1,h2,h3⟩
theorem CK (l:List Nat) (c:Nat) (Q:List ou) {x:Nat} (hx:x∈gB l c Q):x∈ids Q:=by
 have:=(xU l c Q x hx).1;unfold ids at*;rw[List.mem_map] at*;obtain⟨a,ha,rfl⟩:=this;exact⟨a,List.mem_of_mem_take ha,rfl⟩
theorem Dr (l:List Nat):∀c Q,(gB l c Q).Nodup:=by
 intro c
 induction c with
 |zero=>intro Q;simp[gB]
 |succ c ih=>
  intro Q;cases Q with
  |nil=>simp[gB]
  |cons e Q=>
   rw[gB]
   split
   ·exact ih Q
   ·rename_i hn
    rw[List.nodup_cons];exact⟨λh=>hn (.inl (CK l c Q h)),ih Q⟩
theorem YF (l:List Nat):∀c Q x,x∈ids (Q.take c)→x∉ids (Q.drop c)→x∈gB l c Q∨x∈l:=by
 intro c
 induction c with
 |zero=>intro Q x hx;simp[ids] at hx
 |succ c ih=>
  intro Q x hx hn;cases Q with
  |nil=>simp[ids] at hx
  |cons e Q=>
   rw[gB];simp only[List.take_succ_cons,List.drop_succ_cons] at hx hn;have CO:x=e.1∨x∈ids (Q.take c):=by simpa[ids] using hx
   by_cases h1:x∈ids (Q.take c)
   ·rcases ih Q x h1 hn with h|h
    ·left
     split
     ·exact h
     ·exact List.mem_cons_of_mem _ h
    ·exact .inr h
   ·have hxe:x=e.1:=CO.resolve_right h1
    subst hxe;by_cases hl:e.1∈l
    ·exact .inr hl
    ·left
     have hq:e.1∉ids Q:=by
      intro h;have:ids Q=ids (Q.take c)++ids (Q.drop c):=by rw[←Dm,List.take_append_drop]
      rw[this,List.mem_append] at h;exact h.elim h1 hn
     rw[if_neg (by rintro(h|h);exact hq h;exact hl h)];simp
theorem eH:∀(B:Nat) (l:List Nat),l.Nodup→(∀x∈l,x<B)→l.length≤B:=by
 intro B
 induction B with
 |zero=>
  intro l _ h;cases l with
  |nil=>simp
  |cons x l=>have:=h x (by simp);omega
 |succ B ih=>
  intro l hn h;have h1:(l.erase B).Nodup:=hn.erase B;have h2:∀x∈l.erase B,x<B:=λx hx=>by
   have h3:=h x (List.mem_of_mem_erase hx);have h4:x≠B:=λe=>by
    rw[e] at hx;exact(List.Nodup.not_mem_erase hn) hx
   omega
  have h3:=ih _ h1 h2;have h4:=List.le_length_erase (a:=B) (l:=l);omega
def Ord (K:Nat) (Q:List ou):Prop:=∀i,i<Q.length→i+2*wr (Q.drop (i+1))≤K
structure tO (B:Nat) (Q:List ou):Prop where
 lt:∀x∈ids Q,x<B
 once:(Ib Q).Nodup
 ord:Ord (2*B) Q
theorem SA {Q:List ou} {x:Nat} (h:x∈Ib Q):x∈ids Q:=by
 unfold Ib at h;unfold ids;rw[List.mem_map] at*;obtain⟨a,ha,rfl⟩:=h;exact⟨a,(List.mem_filter.1 ha).1,rfl⟩
theorem SB {B:Nat} {Q:List ou} (h1:∀x∈ids Q,x<B) (h2:(Ib Q).Nodup) (h3:0<Q.length→2*wr (Q.drop 1)≤2*B):Q.length≤2*B+1:=by
 have hl:=Ur Q;have hm:=eH B (Ib Q) h2 (λx hx=>h1 x (SA hx));cases Q with
 |nil=>simp
 |cons e Q=>
  have h4:=h3 (by simp);simp only[List.drop_succ_cons,List.drop_zero] at h4;have h5:wr (e::Q)≤wr Q+1:=by
   have:wr (e::Q)=wr [e]+wr Q:=uI [e] Q;have h6:wr [e]≤1:=by obtain⟨i,b⟩:=e;cases b<;>simp[wr]
   omega
  omega
theorem tO.used {B:Nat} {Q:List ou} (h:tO B Q):Q.length≤2*B+1:=
 SB h.lt h.once (λh0=>by have:=h.ord 0 h0;simpa using this)
theorem tO.drop {B:Nat} {Q:List ou} (h:tO B Q) (k:Nat):tO B (Q.drop k):=by
 have fA:∀x∈ids (Q.drop k),x∈ids Q:=λy hy=>by
  unfold ids at*;rw[List.mem_map] at*;obtain⟨a,ha,rfl⟩:=hy;exact⟨a,List.mem_of_mem_drop ha,rfl⟩
 refine⟨λx hx=>h.lt x (fA x hx),?_,λi hi=>?_⟩
 ·have:(Ib (Q.drop k)).Sublist (Ib Q):=by
   unfold Ib;exact((List.drop_sublist k Q).filter _).map _
  exact h.once.sublist this
 ·rw[List.length_drop] at hi
  have:=h.ord (k+i) (by omega);rw[List.drop_drop,show k+(i+1)=k+i+1 by omega];omega
theorem tO.batch {B:Nat} {Q:List ou} (h:tO B Q) {l:List Nat} (hl:l.Nodup) (hlB:∀x∈l,x<B) (h0:l≠[]):
  tO B (step l (min (2*l.length) Q.length) Q):=by
 obtain⟨c,hc⟩:∃c,min (2*l.length) Q.length=c:=⟨_,rfl⟩
 rw[hc];have hn:=eH B l hl hlB;have aly:0<l.length:=List.length_pos_iff.2 h0;have hU:=h.used;have bA:∀x∈ids (step l c Q),x<B:=by
  intro x hx;unfold step at hx;rw[Dm,List.mem_append,mD,List.mem_append] at hx;rcases hx with hx|hx|hx
  ·exact(h.drop c).lt x hx
  ·exact hlB x hx
  ·exact h.lt x (CK l c Q hx)
 have afG:(Ib (step l c Q)).Nodup:=by
  unfold step fresh;rw[Dn,Dn,YE,Uq,List.nil_append,List.nodup_append];refine⟨(h.drop c).once,Dr l c Q,λx hx y hy e=>?_⟩;subst e;exact(xU l c Q x hy).2.1 (SA hx)
 have hlen:(step l c Q).length=(Q.length - c)+(l.length+(gB l c Q).length):=by
  unfold step fresh;simp
 have alz:∀i,i<Q.length - c→(step l c Q).drop (i+1)=Q.drop (c+(i+1))++fresh l c Q:=by
  intro i hi;unfold step;rw[List.drop_append_of_le_length (by rw[List.length_drop];omega),List.drop_drop]
 have Bu:wr (fresh l c Q)=l.length:=by
  unfold fresh;rw[uI,Sz,Dp];omega
 have Ls:∀k,k<l.length→wr ((step l c Q).drop (Q.length - c+k+1))=l.length - 1 - k:=by
  intro k hk;unfold step;rw[show Q.length - c+k+1=(Q.drop c).length+(k+1) by rw[List.length_drop];omega,List.drop_length_add_append];unfold fresh;rw[List.drop_append_of_le_length (by simp;omega),uI,Dp,←List.map_drop,Sz,List.length_drop];omega
 have hmv:∀i,Q.length - c+l.length≤i→wr ((step l c Q).drop (i+1))=0:=by
  intro i hi;unfold step;rw[show i+1=(Q.drop c).length+(i+1 - (Q.length - c)) by rw[List.length_drop];omega,List.drop_length_add_append];unfold fresh;rw[show i+1 - (Q.length - c)=(l.map (λx=>(x,true))).length+(i+1 - (Q.length - c) - l.length) by rw[List.length_map];omega,List.drop_length_add_append,←List.map_drop,Dp]
 have h2:c=2*l.length∨(c=Q.length∧Q.length<2*l.length):=by omega
 have hold:∀i,i<Q.length - c→i+2*wr ((step l c Q).drop (i+1))≤2*B:=by
  intro i hi;rw[alz i hi,uI,Bu];have:=h.ord (c+i) (by omega);rw[show c+(i+1)=c+i+1 by omega];omega
 have fJ:∀k,k<l.length→(Q.length - c+k)+2*wr ((step l c Q).drop (Q.length - c+k+1))≤2*B:=by
  intro k hk;rw[Ls k hk];omega
 have hU':(step l c Q).length≤2*B+1:=by
  refine SB bA afG (λhp=>?_);by_cases h3:0<Q.length - c
  ·have:=hold 0 h3
   simpa using this
  ·have:=fJ 0 aly
   rw[show Q.length - c=0 by omega] at this;simpa using this
 refine⟨bA,afG,λi hi=>?_⟩;by_cases h3:i<Q.length - c
 ·exact hold i h3
 ·by_cases h4:i<Q.length - c+l.length
  ·have:=fJ (i - (Q.length - c)) (by omega)
   rw[show Q.length - c+(i - (Q.length - c))=i by omega] at this;exact this
  ·rw[hmv i (by omega)]
   omega
theorem tO.room {B P:Nat} {Q:List ou} (h:tO B Q) (hP:5*B+240≤2*P) (hB:4≤B) {l:List Nat} (hn:l.length≤24) {freed:Nat} (hf:freed≤48):
  Q.length+freed+(l.length+(gB l (min (2*l.length) Q.length) Q).length)≤P:=by
 have h1:=h.used;have h2:=Dq l (min (2*l.length) Q.length) Q;have h3:=hB;omega
abbrev Bytes:=List UInt8
structure tQ where
 epoch:Nat
 start:Nat
 seq:Nat
 index:Nat
 count:Nat
 id:Nat
 data:Bytes
def pos (P t i:Nat):Nat:=if t+i<P then t+i else t+i - P
theorem uJ {P t i:Nat} (ht:t<P) (hi:i≤P):(t+i)%P=pos P t i:=by
 unfold pos
 split
 ·rename_i h;exact Nat.mod_eq_of_lt h
 ·rename_i h
  rw[Nat.mod_eq_sub_mod (by omega)];by_cases h2:t+i - P<P
  ·exact Nat.mod_eq_of_lt h2
  ·omega
theorem dz {P t i:Nat} (ht:t<P) (hi:i≤P):pos P t i<P:=by unfold pos;split<;>omega
theorem rC {P t i j:Nat} (hi:i<P) (hj:j<P) (h:pos P t i=pos P t j):i=j:=by
 unfold pos at h
 split at h<;>split at h<;>omega
theorem g_ {P t c i:Nat} (ht:t<P) (hi:c+i≤P):pos P (pos P t c) i=pos P t (c+i):=by
 unfold pos
 repeat' split
 all_goals omega
def far (P t p:Nat):Nat:=if t≤p then p - t else p+P - t
theorem adb {P t i:Nat} (ht:t<P) (hi:i<P):far P t (pos P t i)=i:=by
 unfold far pos
 repeat' split
 all_goals omega
theorem JI {P t p:Nat} (ht:t<P) (hp:p<P):pos P t (far P t p)=p:=by
 unfold far pos
 repeat' split
 all_goals omega
def idx:List ou→Nat→Option Nat
 |[],_=>none
 |e::Q,id=>match idx Q id with
  |some i=>some (i+1)
  |none=>if e.1=id then some 0 else none
theorem mR {Q:List ou} {id:Nat}:idx Q id=none↔id∉ids Q:=by
 induction Q with
 |nil=>simp[idx,ids]
 |cons e Q ih=>
  rw[idx];cases h:idx Q id with
  |some i=>
   simp only[reduceCtorEq,false_iff,Classical.not_not];have:id∈ids Q:=by
    apply Classical.byContradiction;intro h2;rw[ih.2 h2] at h;cases h
   simp[ids] at this ⊢;exact .inr this
  |none=>
   have h2:=ih.1 h;by_cases h3:e.1=id
   ·simp[h3,ids]
   ·simp only[h3,if_false,true_iff]
    simp only[ids,List.map_cons,List.mem_cons,not_or] at h2 ⊢;exact⟨λh=>h3 h.symm,h2⟩
theorem fK {Q:List ou} {id i:Nat} (h:idx Q id=some i):i<Q.length:=by
 induction Q generalizing i with
 |nil=>cases h
 |cons e Q ih=>
  rw[idx] at h;cases h2:idx Q id with
  |some j=>
   rw[h2] at h;cases h;have:=ih h2;simp;omega
  |none=>
   rw[h2] at h;dsimp only at h
   split at h
   ·cases h;simp
   ·cases h
theorem mU (Q R:List ou) (id:Nat):idx (Q++R) id=match idx R id with|some i=>some (Q.length+i)|none=>idx Q id:=by
 induction Q with
 |nil=>simp[idx];split<;>simp_all
 |cons e Q ih=>
  rw[List.cons_append,idx,ih];cases h:idx R id with
  |some i=>simp;omega
  |none=>simp[idx]
theorem JJ {Q:List ou} {id i:Nat} (h:idx Q id=some i):id∈ids Q:=by
 apply Classical.byContradiction;intro h2;rw[mR.2 h2] at h;cases h
theorem JK {Q:List ou} {id i:Nat} (h:idx Q id=some i):(ids Q)[i]? =some id:=by
 induction Q generalizing i with
 |nil=>cases h
 |cons e Q ih=>
  rw[idx] at h;cases h2:idx Q id with
  |some j=>
   rw[h2] at h;cases h;simpa[ids] using ih h2
  |none=>
   rw[h2] at h;dsimp only at h
   split at h
   ·rename_i he;cases h;simp[ids,he]
   ·cases h
theorem ade {Q:List ou} {a b i:Nat} (ha:idx Q a=some i) (hb:idx Q b=some i):a=b:=by
 have h1:=JK ha;rw[JK hb] at h1;cases h1;rfl
theorem uK {α:Type} {l:List α} (hn:l.Nodup) {i j:Nat} {a:α} (hi:l[i]? =some a) (hj:l[j]? =some a):i=j:=by
 obtain⟨h1,e1⟩:=List.getElem?_eq_some_iff.1 hi;obtain⟨h2,e2⟩:=List.getElem?_eq_some_iff.1 hj;rw[List.nodup_iff_pairwise_ne,List.pairwise_iff_getElem] at hn;rcases Nat.lt_trichotomy i j with h|h|h
 ·exact absurd (e1.trans e2.symm) (hn i j h1 h2 h)
 ·exact h
 ·exact absurd (e2.trans e1.symm) (hn j i h2 h1 h)
theorem xV {Q:List ou} (hn:(ids Q).Nodup) {k:Nat} {id:Nat} (h:(ids Q)[k]? =some id):idx Q id=some k:=by
 have hm:id∈ids Q:=List.mem_of_getElem? h;cases h2:idx Q id with
 |none=>exact absurd hm (mR.1 h2)
 |some j=>
  have h3:=JK h2;rw[uK hn h3 h]
structure JS where
 P:Nat
 B:Nat
 epoch:Nat
 start:Nat
 seq:Nat
 tail:Nat
 Q:List ou
 freed:Nat
 sec:Nat→Option tQ
def JS.used (s:JS):Nat:=s.Q.length
def JS.pl (s:JS) (i:Nat):Nat:=pos s.P s.tail i
def JS.head (s:JS):Nat:=s.pl s.used
def JS.at_ (s:JS) (id:Nat):Option Nat:=(idx s.Q id).map s.pl
def iQ:Nat:=281474976710655
def zeros (n:Nat):Bytes:=List.replicate n 0
structure tQ.Right (B seq:Nat) (x:tQ):Prop where
 epoch:1≤x.epoch∧x.epoch<4294967296
 start:1≤x.start∧x.start≤x.seq
 seq:x.seq≤seq
 count:x.index<x.count∧x.count≤72
 id:x.id<B
 data:x.data.length=480
structure rD (s:JS) (C:Nat→Bytes):Prop where
 tail:s.tail<s.P
 used:s.Q.length≤s.P
 seq:s.seq≤iQ
 start:1≤s.start∧s.start≤s.seq+1
 epoch:1≤s.epoch∧s.epoch<4294967296
 log:tO s.B s.Q
 live:∀id i,idx s.Q id=some i→∃x,s.sec (s.pl i)=some x∧x.id=id∧x.data=C id
 zero:∀id,idx s.Q id=none→C id=zeros 480
 right:∀p x,p<s.P→s.sec p=some x→x.Right s.B s.seq
 newest:∀p x,p<s.P→s.sec p=some x→∃i y,idx s.Q x.id=some i∧s.sec (s.pl i)=some y∧(x.seq<y.seq∨p=s.pl i)
 last:1≤s.seq→∃n,1≤n∧n≤72∧n≤s.Q.length∧(∀i,i<n→∃x,s.sec (s.pl (s.Q.length - n+i))=some x∧x.seq=s.seq∧x.index=i∧x.count=n)∧
  ∀p x,p<s.P→s.sec p=some x→x.seq=s.seq→∃i,i<n∧p=s.pl (s.Q.length - n+i)
def full (C:Nat→Bytes) (wl:List (Nat×Bytes)) (c:Nat) (Q:List ou):List (Nat×Bytes):=wl++(gB (wl.map Prod.fst) c Q).map (λid=>(id,C id))
def JS.clean (s:JS) (wl:List (Nat×Bytes)):Nat:=min (2*wl.length) s.Q.length
def JS.write (s:JS) (all:List (Nat×Bytes)) (n:Nat) (p:Nat):Option tQ:=
 match all[far s.P s.head p]? with
 |some e=>if far s.P s.head p<n then some {epoch:=s.epoch,start:=s.start,seq:=s.seq+1,index:=far s.P s.head p,count:=all.length,id:=e.1,data:=e.2} else s.sec p
 |none=>s.sec p
def JS.batch (s:JS) (C:Nat→Bytes) (wl:List (Nat×Bytes)):JS:=
 {s with
  seq:=s.seq+1
  tail:=s.pl (s.clean wl)
  Q:=step (wl.map Prod.fst) (s.clean wl) s.Q
  freed:=s.clean wl
  sec:=s.write (full C wl (s.clean wl) s.Q) (full C wl (s.clean wl) s.Q).length}
def dW (C:Nat→Bytes) (wl:List (Nat×Bytes)) (id:Nat):Bytes:=match wl.find? (λe=>e.1==id) with|some e=>e.2|none=>C id
theorem mV (C:Nat→Bytes) (wl:List (Nat×Bytes)) (c:Nat) (Q:List ou):(full C wl c Q).map Prod.fst=ids (fresh (wl.map Prod.fst) c Q):=by
 rw[mD];simp[full,List.map_map,Function.comp_def]
theorem nV {l:List Nat} (hl:l.Nodup) (c:Nat) (Q:List ou):(ids (fresh l c Q)).Nodup:=by
 rw[mD,List.nodup_append];exact⟨hl,Dr l c Q,λx hx y hy e=>(xU l c Q y hy).2.2 (e▸hx)⟩
theorem SC {C:Nat→Bytes} {wl:List (Nat×Bytes)} (hn:(wl.map Prod.fst).Nodup) {e:Nat×Bytes} (he:e∈wl):dW C wl e.1=e.2:=by
 unfold dW;cases h:wl.find? (λx=>x.1==e.1) with
 |none=>
  have:=List.find?_eq_none.1 h e he;simp at this
 |some x=>
  have h1:=List.find?_some h;have h2:=List.mem_of_find?_eq_some h;simp at h1;obtain⟨i,hi,e1⟩:=List.getElem_of_mem he;obtain⟨j,hj,e2⟩:=List.getElem_of_mem h2;have:i=j:=by
   apply uK hn (a:=e.1)
   ·rw[List.getElem?_map,List.getElem?_eq_getElem hi,e1];rfl
   ·rw[List.getElem?_map,List.getElem?_eq_getElem hj,e2];simp[h1]
  subst this;rw[e1] at e2;rw[e2]
theorem Dt {C:Nat→Bytes} {wl:List (Nat×Bytes)} {id:Nat} (h:id∉wl.map Prod.fst):dW C wl id=C id:=by
 unfold dW;rw[List.find?_eq_none.2];intro x hx;simp;intro e;exact h (List.mem_map.2 ⟨x,hx,e⟩)
theorem Us {C:Nat→Bytes} {wl:List (Nat×Bytes)} (hn:(wl.map Prod.fst).Nodup) {c:Nat} {Q:List ou} {e:Nat×Bytes} (he:e∈full C wl c Q):e.2=dW C wl e.1:=by
 unfold full at he;rw[List.mem_append] at he;rcases he with he|he
 ·exact(SC hn he).symm
 ·obtain⟨id,hid,rfl⟩:=List.mem_map.1 he
  rw[Dt (xU _ _ _ _ hid).2.2]
theorem LM {l:List Nat} (hl:l.Nodup) {c:Nat} {Q:List ou} (hc:c≤Q.length) (id:Nat):
  (∃k,(ids (fresh l c Q))[k]? =some id∧idx (step l c Q) id=some (Q.length - c+k))∨
  (id∉ids (fresh l c Q)∧((idx Q id=none∧idx (step l c Q) id=none)∨∃i,c≤i∧idx Q id=some i∧idx (step l c Q) id=some (i - c))):=by
 by_cases h:id∈ids (fresh l c Q)
 ·obtain⟨k,hk,e⟩:=List.getElem_of_mem h
  have hg:(ids (fresh l c Q))[k]? =some id:=by rw[List.getElem?_eq_getElem hk,e]
  refine .inl ⟨k,hg,?_⟩;unfold step;rw[mU,xV (nV hl c Q) hg];simp
 ·refine .inr ⟨h,?_⟩
  have e1:idx (step l c Q) id=idx (Q.drop c) id:=by
   unfold step;rw[mU,mR.2 h]
  rw[e1]
  have e2:idx Q id=match idx (Q.drop c) id with|some i=>some ((Q.take c).length+i)|none=>idx (Q.take c) id:=by
   rw[←mU,List.take_append_drop]
  cases h3:idx (Q.drop c) id with
  |some i=>
   rw[h3] at e2
   right
   refine⟨c+i,by omega,?_,by congr 1;omega⟩;rw[e2,List.length_take,Nat.min_eq_left hc]
  |none=>
   rw[h3] at e2
   left
   refine⟨?_,rfl⟩;rw[e2];dsimp only;rw[mR];intro h4;have h5:=YF l c Q id h4 (mR.1 h3);apply h;rw[mD,List.mem_append];exact h5.symm
theorem YG {C:Nat→Bytes} {wl:List (Nat×Bytes)} {c:Nat} {Q:List ou} {k:Nat} {e:Nat×Bytes} (h:(full C wl c Q)[k]? =some e):(ids (fresh (wl.map Prod.fst) c Q))[k]? =some e.1:=by
 rw[←mV C,List.getElem?_map,h];rfl
theorem Du (C:Nat→Bytes) (wl:List (Nat×Bytes)) (c:Nat) (Q:List ou):(full C wl c Q).length=(ids (fresh (wl.map Prod.fst) c Q)).length:=by
 rw[←mV C,List.length_map]
theorem adf (C:Nat→Bytes) (wl:List (Nat×Bytes)) (c:Nat) (Q:List ou):wl.length≤(full C wl c Q).length∧(full C wl c Q).length≤wl.length+c:=by
 have:=Dq (wl.map Prod.fst) c Q;simp only[full,List.length_append,List.length_map];omega
theorem JS.Ic {s:JS} {all:List (Nat×Bytes)} {n k:Nat} {e:Nat×Bytes} (ht:s.tail<s.P) (hr:s.Q.length+all.length≤s.P) (hk:all[k]? =some e) (mW:k<n):
  s.write all n (s.pl (s.Q.length+k))=some {epoch:=s.epoch,start:=s.start,seq:=s.seq+1,index:=k,count:=all.length,id:=e.1,data:=e.2}:=by
 have fF:k<all.length:=(List.getElem?_eq_some_iff.1 hk).1;have hh:s.head<s.P:=dz ht (by unfold JS.used;omega);have hp:s.pl (s.Q.length+k)=pos s.P s.head k:=(g_ ht (by omega)).symm;have hf:far s.P s.head (s.pl (s.Q.length+k))=k:=by rw[hp];exact adb hh (by omega)
 unfold JS.write;rw[hf,hk];dsimp only;rw[if_pos mW]
theorem JS.wG {s:JS} {all:List (Nat×Bytes)} {n p:Nat} (h:all.length≤far s.P s.head p∨n≤far s.P s.head p):s.write all n p=s.sec p:=by
 unfold JS.write
 split
 ·rename_i e he
  have:=(List.getElem?_eq_some_iff.1 he).1;rw[if_neg (by omega)]
 ·rfl
theorem JS.adg {s:JS} (ht:s.tail<s.P) {i m:Nat} (hi:i<s.Q.length) (hr:s.Q.length+m≤s.P):m≤far s.P s.head (s.pl i):=by
 apply Classical.byContradiction;intro h;have hh:s.head<s.P:=dz ht (by unfold JS.used;omega);have hp:s.pl i<s.P:=dz ht (by omega);have h1:pos s.P s.head (far s.P s.head (s.pl i))=s.pl i:=JI hh hp;have h2:pos s.P s.head (far s.P s.head (s.pl i))=s.pl (s.Q.length+far s.P s.head (s.pl i)):=g_ ht (by unfold JS.used;omega);rw[h1] at h2;have:=rC (by omega) (by omega) h2;omega
theorem JS.Ut {s:JS} (ht:s.tail<s.P) {all:List (Nat×Bytes)} {n i:Nat} (hi:i<s.Q.length) (hr:s.Q.length+all.length≤s.P):s.write all n (s.pl i)=s.sec (s.pl i):=
 JS.wG (.inl (JS.adg ht hi hr))
theorem JS.LP {s:JS} (ht:s.tail<s.P) {all:List (Nat×Bytes)} {n p:Nat} (hp:p<s.P) (hr:s.Q.length+all.length≤s.P) (hn:n≤all.length):
  (∃k e,k<n∧all[k]? =some e∧p=s.pl (s.Q.length+k))∨s.write all n p=s.sec p:=by
 have hh:s.head<s.P:=dz ht (by unfold JS.used;omega);by_cases h:far s.P s.head p<n
 ·left
  refine⟨far s.P s.head p,all[far s.P s.head p]'(by omega),h,List.getElem?_eq_getElem (by omega),?_⟩;have h2:pos s.P s.head (far s.P s.head p)=s.pl (s.Q.length+far s.P s.head p):=g_ ht (by unfold JS.used;omega);rw[←h2,JI hh hp]
 ·exact .inr (JS.wG (.inr (by omega)))
theorem rD.len {s:JS} {C:Nat→Bytes} (h:rD s C) (id:Nat):(C id).length=480:=by
 cases hi:idx s.Q id with
 |none=>rw[h.zero id hi];exact List.length_replicate
 |some i=>
  obtain⟨x,hx,_,hd⟩:=h.live id i hi;have hp:s.pl i<s.P:=dz h.tail (by have:=fK hi;have:=h.used;omega);rw[←hd];exact(h.right _ x hp hx).data
theorem rD.batch {s:JS} {C:Nat→Bytes} (h:rD s C) {wl:List (Nat×Bytes)} (hn:(wl.map Prod.fst).Nodup) (hB:∀e∈wl,e.1<s.B∧e.2.length=480) (h0:wl≠[]) (h24:wl.length≤24) (nN:s.seq<iQ)
  (dx:s.Q.length+(full C wl (s.clean wl) s.Q).length≤s.P):rD (s.batch C wl) (dW C wl):=by
 have hc:s.clean wl≤s.Q.length:=Nat.min_le_right _ _;have hc2:s.clean wl≤2*wl.length:=Nat.min_le_left _ _;have Ac:=adf C wl (s.clean wl) s.Q;have Ap:=Du C wl (s.clean wl) s.Q;have aly:0<wl.length:=List.length_pos_iff.2 h0;have ht:=h.tail;have rF:(s.batch C wl).Q.length=s.Q.length - s.clean wl+(full C wl (s.clean wl) s.Q).length:=by
  show(step _ _ _).length=_;unfold step;rw[List.length_append,List.length_drop,Ap];simp[ids]
 have fB:∀i,s.clean wl+i≤s.P→(s.batch C wl).pl i=s.pl (s.clean wl+i):=λi hi=>g_ ht hi;have Uu:∀p,(s.batch C wl).sec p=s.write (full C wl (s.clean wl) s.Q) (full C wl (s.clean wl) s.Q).length p:=λ_=>rfl;have alA:∀e∈full C wl (s.clean wl) s.Q,e.2.length=480∧e.1<s.B:=by
  intro e he;unfold full at he;rw[List.mem_append] at he;rcases he with he|he
  ·exact⟨(hB e he).2,(hB e he).1⟩
  ·obtain⟨id,hid,rfl⟩:=List.mem_map.1 he
   exact⟨h.len id,h.log.lt id (CK _ _ _ hid)⟩
 have fJ:∀k e,(full C wl (s.clean wl) s.Q)[k]? =some e→(s.batch C wl).sec (s.pl (s.Q.length+k))=some {epoch:=s.epoch,start:=s.start,seq:=s.seq+1,index:=k,count:=(full C wl (s.clean wl) s.Q).length,id:=e.1,data:=e.2}:=by
  intro k e he;rw[Uu];exact JS.Ic ht dx he (List.getElem?_eq_some_iff.1 he).1
 have SE:∀k e,(full C wl (s.clean wl) s.Q)[k]? =some e→(s.batch C wl).sec ((s.batch C wl).pl (s.Q.length - s.clean wl+k))=some {epoch:=s.epoch,start:=s.start,seq:=s.seq+1,index:=k,count:=(full C wl (s.clean wl) s.Q).length,id:=e.1,data:=e.2}:=by
  intro k e he;have fF:=(List.getElem?_eq_some_iff.1 he).1;rw[fB _ (by omega),show s.clean wl+(s.Q.length - s.clean wl+k)=s.Q.length+k by omega];exact fJ k e he
 have hold:∀i,i<s.Q.length→(s.batch C wl).sec (s.pl i)=s.sec (s.pl i):=λi hi=>by
  rw[Uu];exact JS.Ut ht hi dx
 have PG:∀p x,p<s.P→(s.batch C wl).sec p=some x→(∃k e,(full C wl (s.clean wl) s.Q)[k]? =some e∧p=s.pl (s.Q.length+k)∧x={epoch:=s.epoch,start:=s.start,seq:=s.seq+1,index:=k,count:=(full C wl (s.clean wl) s.Q).length,id:=e.1,data:=e.2})∨s.sec p=some x:=by
  intro p x hp hx;rcases JS.LP ht (n:=(full C wl (s.clean wl) s.Q).length) hp dx (Nat.le_refl _) with⟨k,e,_,he,YH⟩|h2
  ·left
   refine⟨k,e,he,YH,?_⟩;rw[YH,fJ k e he] at hx;cases hx;rfl
  ·right
   rw[Uu,h2] at hx;exact hx
 have afI:∀(k id:Nat),(ids (fresh (wl.map Prod.fst) (s.clean wl) s.Q))[k]? =some id→∃e:Nat×Bytes,(full C wl (s.clean wl) s.Q)[k]? =some e∧e.1=id:=by
  intro k id hk;rw[←mV C,List.getElem?_map] at hk;cases he:(full C wl (s.clean wl) s.Q)[k]? with
  |none=>rw[he] at hk;cases hk
  |some e=>rw[he] at hk;cases hk;exact⟨e,rfl,rfl⟩
 have YI:=λid=>LM (c:=s.clean wl) (Q:=s.Q) hn hc id;refine {tail:=?_,used:=?_,seq:=?_,start:=⟨h.start.1,?_⟩,epoch:=h.epoch,log:=?_,live:=?_,zero:=?_,right:=?_,newest:=?_,last:=?_}
 ·exact dz ht (by have:=h.used;omega)
 ·rw[rF]
  show _≤s.P;omega
 ·show s.seq+1≤_
  omega
 ·show s.start≤s.seq+1+1
  have:=h.start.2;omega
 ·have h3:=h.log.batch hn (λx hx=>by obtain⟨e,he,rfl⟩:=List.mem_map.1 hx;exact(hB e he).1) (by intro h4;exact h0 (List.map_eq_nil_iff.1 h4))
  rw[List.length_map] at h3;exact h3
 ·intro id i hi
  rcases YI id with⟨k,hk,jQ⟩|⟨XP,⟨_,jQ⟩|⟨j,hcj,hj,jQ⟩⟩
  ·have:i=s.Q.length - s.clean wl+k:=by
    have h3:idx (s.batch C wl).Q id=some (s.Q.length - s.clean wl+k):=jQ;rw[hi] at h3;cases h3;rfl
   subst this;obtain⟨e,he,rfl⟩:=afI k id hk;exact⟨_,SE k e he,rfl,Us hn (List.mem_of_getElem? he)⟩
  ·have h3:idx (s.batch C wl).Q id=none:=jQ
   rw[hi] at h3;cases h3
  ·have:i=j - s.clean wl:=by
    have h3:idx (s.batch C wl).Q id=some (j - s.clean wl):=jQ;rw[hi] at h3;cases h3;rfl
   subst this;have Dv:=fK hj;obtain⟨x,hx,hxi,hxd⟩:=h.live id j hj;refine⟨x,?_,hxi,?_⟩
   ·rw[fB _ (by have:=h.used;omega),show s.clean wl+(j - s.clean wl)=j by omega,hold j Dv]
    exact hx
   ·rw[hxd,Dt]
    intro h4;apply XP;rw[mD,List.mem_append];exact .inl h4
 ·intro id hi
  rcases YI id with⟨k,hk,jQ⟩|⟨XP,⟨Pg,_⟩|⟨j,hcj,hj,jQ⟩⟩
  ·have h3:idx (s.batch C wl).Q id=some _:=jQ
   rw[hi] at h3;cases h3
  ·rw[Dt,h.zero id Pg]
   intro h4;apply XP;rw[mD,List.mem_append];exact .inl h4
  ·have h3:idx (s.batch C wl).Q id=some _:=jQ
   rw[hi] at h3;cases h3
 ·intro p x hp hx
  rcases PG p x hp hx with⟨k,e,he,_,rfl⟩|hx
  ·have hd:=alA e (List.mem_of_getElem? he)
   have fF:=(List.getElem?_eq_some_iff.1 he).1;refine {epoch:=h.epoch,start:=h.start,seq:=Nat.le_refl _,count:=⟨fF,?_⟩,id:=hd.2,data:=hd.1};show(full C wl (s.clean wl) s.Q).length≤72;omega
  ·have h3:=h.right p x hp hx
   exact {h3 with seq:=Nat.le_succ_of_le h3.seq}
 ·intro p x hp hx
  rcases PG p x hp hx with⟨k,e,he,YH,rfl⟩|hx
  ·have fF:=(List.getElem?_eq_some_iff.1 he).1
   have hk:=YG he;have jQ:=xV (nV hn (s.clean wl) s.Q) hk;have Pg:idx (s.batch C wl).Q e.1=some (s.Q.length - s.clean wl+k):=by
    show idx (step _ _ _) e.1=_;unfold step;rw[mU,jQ];simp
   refine⟨s.Q.length - s.clean wl+k,_,Pg,SE k e he,.inr ?_⟩;rw[fB _ (by omega),show s.clean wl+(s.Q.length - s.clean wl+k)=s.Q.length+k by omega];exact YH
  ·obtain⟨i,y,hi,hy,jV⟩:=h.newest p x hp hx
   rcases YI x.id with⟨k,hk,jQ⟩|⟨XP,⟨Pg,_⟩|⟨j,hcj,hj,jQ⟩⟩
   ·obtain⟨e,he,XQ⟩:=afI k _ hk
    have fF:=(List.getElem?_eq_some_iff.1 he).1;refine⟨_,_,jQ,SE k e he,.inl ?_⟩;have:=(h.right p x hp hx).seq;show x.seq<s.seq+1;omega
   ·rw[Pg] at hi;cases hi
   ·rw[hi] at hj
    cases hj;have Dv:=fK hi;refine⟨_,y,jQ,?_,?_⟩
    ·rw[fB _ (by have:=h.used;omega),show s.clean wl+(i - s.clean wl)=i by omega,hold i Dv]
     exact hy
    ·rw[fB _ (by have:=h.used;omega),show s.clean wl+(i - s.clean wl)=i by omega]
     exact jV
 ·intro _
  refine⟨(full C wl (s.clean wl) s.Q).length,by omega,by omega,by omega,?_,?_⟩
  ·intro i hi
   have h5:=SE i _ (List.getElem?_eq_getElem hi);refine⟨{epoch:=s.epoch,start:=s.start,seq:=s.seq+1,index:=i,count:=(full C wl (s.clean wl) s.Q).length,id:=((full C wl (s.clean wl) s.Q)[i]).1,data:=((full C wl (s.clean wl) s.Q)[i]).2},?_,rfl,rfl,rfl⟩
   ·rw[rF,show s.Q.length - s.clean wl+(full C wl (s.clean wl) s.Q).length - (full C wl (s.clean wl) s.Q).length+i=s.Q.length - s.clean wl+i by omega]
    exact h5
  ·intro p x hp hx hxs
   rcases PG p x hp hx with⟨k,e,he,YH,rfl⟩|hx
   ·have fF:=(List.getElem?_eq_some_iff.1 he).1
    refine⟨k,fF,?_⟩;rw[fB _ (by omega),rF,show s.clean wl+(s.Q.length - s.clean wl+(full C wl (s.clean wl) s.Q).length - (full C wl (s.clean wl) s.Q).length+k)=s.Q.length+k by omega];exact YH
   ·have:=(h.right p x hp hx).seq
    have h4:x.seq=s.seq+1:=hxs;omega
end Go.Proofs.YtdjdpeadohobmaaGreatDoor
