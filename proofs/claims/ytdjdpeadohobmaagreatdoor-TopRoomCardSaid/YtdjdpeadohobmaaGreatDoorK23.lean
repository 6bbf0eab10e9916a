/- A part of the walk below the law: what is proved here is used by later parts; no further condition. -/
import Derived.LaidEqlPtr
import Derived.Test.YtdjdpeadohobmaaGreatDoorK22
set_option linter.unusedVariables false
set_option linter.unusedSimpArgs false
set_option maxRecDepth 100000
set_option maxHeartbeats 20000000
namespace Go.Proofs.YtdjdpeadohobmaaGreatDoor
section
open Go.RowKit Go.Shelf Go.Maps O
attribute [local go_sem] Oper.semAt_some
def jA (sp:Nat) (pw:Option Nat) (sw:Bool) (pt:Option Nat) (st:Bool) (am:Option Nat):List Value:=[.iface 76 (.pointer (some ⟨sp,0,none⟩)),.int .i64 0,.map pw,.bool sw,.map pt,.bool st,.map am]
structure fQ (v w:World) (b sp d:Nat) (C:Nat→Bytes) (L:Wl) (F:Nat→Prop) (pw:Option Nat) (sw:Bool) (pt:Option Nat) (st:Bool) (am:Option Nat) (T:Wl):Prop where
 quiet:Quiet d v w
 lt:∀k,F k→v.heap.size≤k∧k<w.heap.size
 own:F b
 cells:ah w b 191 (jA sp pw sw pt st am)
 writes:Book w (.map pw) L F
 told:Book w (.map pt) T F
 same:∀e∈T,e.2=C e.1
 asked:am=none∨∃m,am=some m∧F m∧bF w m 0 (λ_=>none)
 apart:(∀m,pw=some m→pt≠some m∧am≠some m)∧∀m,pt=some m→am≠some m
def uX (v w:World) (b sp d:Nat) (C:Nat→Bytes) (L:Wl) (q:Bool) (F:Nat→Prop):Prop:=∃pw sw pt st am T,fQ v w b sp d C L F pw sw pt st am T∧(q=true→am=none)
def TD (w:World) (b sp:Nat):Prop:=∃pw sw pt st,ah w b 191 (jA sp pw sw pt st none)
section
variable {v w w':World} {b sp d:Nat} {C:Nat→Bytes} {L:Wl} {q:Bool} {F:Nat→Prop} {pw pt am:Option Nat} {sw st:Bool} {T:Wl}
theorem fQ.keep (h:fQ v w b sp d C L F pw sw pt st am T) (hk:∀k,F k→w'.heap[k]? =w.heap[k]?) (hq:Quiet d v w') (hs:w.heap.size≤w'.heap.size):fQ v w' b sp d C L F pw sw pt st am T:=
 ⟨hq,λk h0=>⟨(h.lt k h0).1,zx (h.lt k h0).2 hs⟩,h.own,(hk _ h.own).trans h.cells,h.writes.keep hk,h.told.keep hk,h.same,h.asked.imp id (λ⟨m,h1,h2,h3⟩=>⟨m,h1,h2,h3.block (hk _ h2)⟩),h.apart⟩
theorem uX.keep (h:uX v w b sp d C L q F) (hk:∀k,F k→w'.heap[k]? =w.heap[k]?) (hq:Quiet d v w') (hs:w.heap.size≤w'.heap.size):uX v w' b sp d C L q F:=by
 obtain⟨pw,sw,pt,st,am,T,h1,h2⟩:=h;exact⟨pw,sw,pt,st,am,T,h1.keep hk hq hs,h2⟩
theorem uX.quiet (h:uX v w b sp d C L q F):Quiet d v w:=by
 obtain⟨pw,sw,pt,st,am,T,h1,h2⟩:=h;exact h1.quiet
theorem uX.lt (h:uX v w b sp d C L q F):∀k,F k→v.heap.size≤k∧k<w.heap.size:=by
 obtain⟨pw,sw,pt,st,am,T,h1,h2⟩:=h;exact h1.lt
theorem uX.own (h:uX v w b sp d C L q F):F b:=by
 obtain⟨pw,sw,pt,st,am,T,h1,h2⟩:=h;exact h1.own
theorem uX.nodup (h:uX v w b sp d C L q F):(L.map Prod.fst).Nodup∧∀e∈L,e.1<4000∧e.2.length=480:=by
 obtain⟨pw,sw,pt,st,am,T,h1,h2⟩:=h;exact⟨h1.writes.1,h1.writes.2.1⟩
theorem uX.below (h:uX v w b sp d C L q F) (hB:Below w.heap.size w w'):uX v w' b sp d C L q F:=
 h.keep (λk hk=>hB.block k (h.lt k hk).2) (h.quiet.trans (Quiet.of_below hB)) hB.size
theorem EA (hq:Quiet d v w):Calls Tryz.prog 57 #[.iface 76 (.pointer (some ⟨sp,0,none⟩))] w λe w'=>∃b,e=.returned (.pointer (some ⟨b,0,none⟩))∧w.heap.size≤b∧uX v w' b sp d C [] true (· =b)∧Below w.heap.size w w':=by
 go_enter Tryz.func57,Tryz.ntmps57;go_wp2_with fail;go_ret;have hB:Below w.heap.size w (w.alloc (.cells #[.iface 76 (.pointer (some ⟨sp,0,none⟩)),.int .i64 0,.map none,.bool false,.map none,.bool false,.map none] 191)):=(zn _ _).alloc (zm _) _;have hs:=hq.size;refine⟨_,rfl,zm _,⟨none,false,none,false,none,[],⟨hq.trans (Quiet.of_below hB),λk hk=>?_,rfl,ah.new w _ _,Book.nil _ _,Book.nil _ _,λe he=>(by cases he),.inl rfl,⟨λm h=>(by cases h),λm h=>(by cases h)⟩⟩,λ_=>rfl⟩,hB⟩;subst hk;exact⟨hs,sQ⟩
theorem Book.size (h:Book w (.map pw) L F):(Builtin.len_ #[187] 3 #[.map pw]).run Tryz.prog w=.ok (.int .i64 L.length) w:=by
 obtain⟨_,_,⟨h3,rfl⟩|⟨mb,φ,h3,q2,q3,q4,q5⟩⟩:=h
 ·injection h3 with h3
  subst h3;simp[go_sem]
 ·injection h3 with h3
  subst h3;exact q3.len Tryz.underlying187 _
theorem Z9 (h:uX v w b sp d C L q F):Calls Tryz.prog 59 #[.pointer (some ⟨b,0,none⟩)] w λe w'=>e=.returned (.int .i64 L.length)∧w'=w:=by
 obtain⟨pw,sw,pt,st,am,T,h,hq⟩:=h;have c2:=h.cells.cell 2;simp only[jA,zf,zi] at c2;have hl:=h.writes.size;clear h;go_enter Tryz.func59,Tryz.ntmps59;go_wp2_with fail;go_ret;exact⟨rfl,rfl⟩
theorem ko (hd:d<v.heap.size) (h:uX v w b sp d C L true F):Calls Tryz.prog 210 #[.pointer (some ⟨b,0,none⟩)] w λe w'=>∃b',e=.returned (.pointer (some ⟨b',0,none⟩))∧w.heap.size≤b'∧uX v w' b' sp d C L true (λk=>(F k∧k≠b)∨k=b')∧TD w' b sp∧Turn v.heap.size (· =b) w (· =b) w':=by
 obtain⟨pw,sw,pt,st,am,T,h,hq⟩:=h;have hq:=hq rfl;subst hq;have nI:=h.cells.lt;have c0:=h.cells.cell 0;have c1:=h.cells.cell 1;simp only[jA,zf,zi] at c0 c1;have H:=U h;have hv:=U h.cells;clear h;go_enter Tryz.func210,Tryz.ntmps210;go_wp2_with fail;refine wp_region_noPanic ?_;refine ak (S:=(λW=>W.cell? ⟨b,0,none⟩=some (.iface 76 (.pointer (some ⟨sp,0,none⟩)))∧W.cell? ⟨b,1,none⟩=some (.int .i64 0))) (m:=18) kQ ⟨c0,c1⟩ (λaj=>?_);refine te 0 aj ?_;refine te 1 aj ?_;refine te 2 aj ?_;refine te 3 aj ?_;refine te 4 aj ?_;refine te 5 aj ?_;refine te 6 aj ?_;refine te 7 aj ?_;refine te 8 aj ?_;refine te 9 aj ?_;refine te 10 aj ?_;refine te 12 aj ?_;refine te 13 aj ?_;refine te 14 aj ?_;refine rE 11 λK hK=>?_;go_simp;with_reducible refine(uW (o:=2) (hv.o.below (zn _ _).drew) dQ rfl rfl).mono ?_
 rintro e w1 ⟨rfl,h1,s1⟩;have q1:=U h1;have z1:=U ((Step.drew (· =b) w).trans s1);go_wp2_with fail;refine hK.out _ _ (λ_=>⟨q1.o.cell 0,q1.o.cell 1⟩) (λhS=>?_);have bQ:=hS dQ;clear hS hK K
 try simp only[Act.put,zh,zk,zl]
 refine rE 15 λK hK=>?_;go_simp;with_reducible refine(uW (o:=4) q1.o dQ rfl rfl).mono ?_
 rintro e w2 ⟨rfl,h2,s2⟩;have q2:=U h2;have z2:=U (z1.o.trans s2);go_wp2_with fail;refine hK.out _ _ (λ_=>⟨q2.o.cell 0,q2.o.cell 1⟩) (λhS=>?_);have bV:=hS dQ;clear hS hK K
 try simp only[Act.put,zh,zk,zl]
 refine te 16 bV ?_;refine rE 17 λK hK=>?_;go_simp;refine hK.out _ _ (λ_=>⟨(q2.o.below ((zn _ _).alloc (zm _) _)).cell 0,(q2.o.below ((zn _ _).alloc (zm _) _)).cell 1⟩) (λhS=>?_);have jd:=hS dQ;clear hS hK K
 try simp only[Act.put,zh,zk,zl]
 refine vF 18 ?_;refine aD ?_;go_wp2_with fail;go_ret;have hB:=H.o;have hBn:Below w2.heap.size w2 (w2.alloc (.cells #[.iface 76 (.pointer (some ⟨sp,0,none⟩)),.int .i64 0,.map pw,.bool true,.map pt,.bool true,.map none] 191)):=(zn _ _).alloc (zm _) _;have bT:=z2.o.trans (Step.of_below hBn (· =b));have hz:=z2.o.size;have Yk:=(hB.lt b hB.own).1;have hqn:Quiet d v (w2.alloc (.cells #[.iface 76 (.pointer (some ⟨sp,0,none⟩)),.int .i64 0,.map pw,.bool true,.map pt,.bool true,.map none] 191)):=hB.quiet.inner bT (λk hk=>by have:k=b:=hk;omega) hd;have hb8:=hB.cells.aV dQ;have iX:∀k,F k→k≠b→(w2.alloc (.cells #[.iface 76 (.pointer (some ⟨sp,0,none⟩)),.int .i64 0,.map pw,.bool true,.map pt,.bool true,.map none] 191)).heap[k]? =w.heap[k]?:=λk hk hn=>bT.keep k (hB.lt k hk).2 (.inl hn);have agt:∀{p:Option Nat} {M:Wl},Book w (.map p) M F→Book (w2.alloc (.cells #[.iface 76 (.pointer (some ⟨sp,0,none⟩)),.int .i64 0,.map pw,.bool true,.map pt,.bool true,.map none] 191)) (.map p) M (λk=>(F k∧k≠b)∨k=w2.heap.size):=λ{p M} hM=>((hM.apart hB.cells dQ).keep (λk hk=>iX k hk.1 hk.2)).more (λk hk=>.inl hk);refine⟨_,rfl,hz,⟨pw,true,pt,true,none,T,⟨hqn,λk hk=>?_,.inr rfl,ah.new w2 _ _,agt hB.writes,agt hB.told,hB.same,.inl rfl,⟨λm hm=>⟨(hB.apart.1 m hm).1,λh=>(by cases h)⟩,λm hm h=>(by cases h)⟩⟩,λ_=>rfl⟩,⟨pw,true,pt,true,q2.o.below hBn⟩,Turn.Kv bT (λk hk=>hk)⟩;rcases hk with⟨hk,_⟩|rfl
 ·have:=hB.lt k hk
  refine⟨this.1,?_⟩;simp;omega
 ·refine⟨?_,sQ⟩
  have:=(hB.lt b hB.own).2;omega
end
theorem Z_ {a b:Nat} {w:World} {xs ys:List Value} (ha:ah w a 191 xs) (hb:ah w b 191 ys) (h:a≠b):(binOp .eql 83 (.pointer (some ⟨a,0,none⟩)) (.pointer (some ⟨b,0,none⟩))).run Tryz.prog w=.ok (.bool false) w:=by
 have hi:(Tryz.prog.info? 191).map (·.size)=some 7:=kQ
 rcases hj:Tryz.prog.info? 191 with _|j
 ·rw[hj] at hi
  cases hi
 ·rw[hj] at hi
  injection hi with hi;exact run_eql_ptr_other w Tryz.underlying83 hj (by have:j.size=7:=hi;omega) (λe=>h (by injection e)) ha hb
section
variable {v w w':World} {b f sp d:Nat} {C:Nat→Bytes} {L:Wl} {q:Bool} {F:Nat→Prop}
theorem mG (hd:d<v.heap.size) (hp:TD w b sp) (Yk:v.heap.size≤b) (h:uX v w f sp d C L q F) (lJ:¬F b):Calls Tryz.prog 211 #[.pointer (some ⟨b,0,none⟩),.pointer (some ⟨f,0,none⟩)] w λe w'=>e=.returned (.tuple #[])∧uX v w' b sp d C L true (λk=>F k∨k=b)∧Turn v.heap.size (λk=>F k∨k=b) w (λk=>F k∨k=b) w':=by
 obtain⟨pw,sw,pt,st,am,T,h,_⟩:=h;obtain⟨pw0,sw0,pt0,st0,hp⟩:=hp;have dV:f≠b:=λe=>lJ (e▸h.own);have anb:¬(b=f):=λe=>dV e.symm;have f0:=h.cells.cell 0;have f1:=h.cells.cell 1;have b0:=hp.cell 0;have b1:=hp.cell 1;have p0:=hp.free 0;have p1:=hp.free 1;simp only[jA,zf,zi] at f0 f1 b0 b1;obtain⟨w1,aP⟩:∃w1,w.setCell ⟨b,0,none⟩ (.iface 76 (.pointer (some ⟨sp,0,none⟩)))=w1:=⟨_,rfl⟩
 have Ad:Step (· =b) w (· =b) w1:=by rw[←aP];exact Step.set1 (hp.aV dQ) _ _
 have iA:ah w1 b 191 (jA sp pw0 sw0 pt0 st0 none):=by rw[←aP];exact hp.aB 0 _
 have XU:=h.cells.step Ad dV;have heq:=Z_ h.cells hp dV;have H:=U h;have HP:=U hp;have f1':=XU.cell 1;have b1':=iA.cell 1;have p1':=iA.free 1;simp only[jA,zf,zi] at f1' b1';obtain⟨w2,iy⟩:∃w2,w1.setCell ⟨b,1,none⟩ (.int .i64 0)=w2:=⟨_,rfl⟩
 have nJ:Step (· =b) w1 (· =b) w2:=by rw[←iy];exact Step.set1 (iA.aV dQ) _ _
 have dh:ah w2 b 191 (jA sp pw0 sw0 pt0 st0 none):=by rw[←iy];exact iA.aB 1 _
 have hf2:=XU.step nJ dV;have HB:=U (And.intro Ad (And.intro nJ (And.intro dh hf2)));clear Ad iA XU nJ dh hf2;clear h hp;go_enter Tryz.func211,Tryz.ntmps211;go_wp2_with fail;refine(uW (o:=2) HB.o.2.2.2 dQ rfl rfl).mono ?_;rintro e w3 ⟨rfl,hf3,lg⟩;obtain⟨Ad,nJ,dh,hf2⟩:=HB.o;have vV:=dh.step lg anb;have k2:=vV.cell 2;have k3:=vV.cell 3;simp only[jA,zf,zi] at k2 k3;have p2:=vV.free 2;have aad:=vV.aB 2 (.map pw);have p3:=aad.free 3;have k3a:=aad.cell 3;simp only[jA,zk,zl,zf,zi] at k3a;obtain⟨w4,gH⟩:∃w4,(w3.setCell ⟨b,2,none⟩ (.map pw)).setCell ⟨b,3,none⟩ (.bool true)=w4:=⟨_,rfl⟩
 have iI:Step (· =b) w3 (· =b) w4:=by rw[←gH];exact(Step.set1 (vV.aV dQ) _ _).trans (Step.set1 (aad.aV dQ) _ _)
 have oU:ah w4 b 191 (jA sp pw true pt0 st0 none):=by rw[←gH];exact aad.aB 3 _
 have hf4:=hf3.step iI dV;have lS:=U (And.intro Ad (And.intro nJ (And.intro lg (And.intro iI (And.intro oU hf4)))));clear Ad nJ dh hf2 vV aad iI oU hf4 lg hf3 aP iy f0 f1 b0 b1 p0 p1 f1' b1' p1' heq;go_wp2_with fail;refine(uW (o:=4) lS.o.2.2.2.2.2 dQ rfl rfl).mono ?_;rintro e w5 ⟨rfl,VI,Ki⟩;obtain⟨Ad,nJ,lg,iI,oU,hf4⟩:=lS.o;have kS:=oU.step Ki anb;have m4:=kS.cell 4;have m5:=kS.cell 5;simp only[jA,zf,zi] at m4 m5;have p4:=kS.free 4;have aae:=kS.aB 4 (.map pt);have p5:=aae.free 5;have m5a:=aae.cell 5;simp only[jA,zk,zl,zf,zi] at m5a;obtain⟨w6,yC⟩:∃w6,(w5.setCell ⟨b,4,none⟩ (.map pt)).setCell ⟨b,5,none⟩ (.bool true)=w6:=⟨_,rfl⟩
 have xL:Step (· =b) w5 (· =b) w6:=by rw[←yC];exact(Step.set1 (kS.aV dQ) _ _).trans (Step.set1 (aae.aV dQ) _ _)
 have Gf:ah w6 b 191 (jA sp pw true pt true none):=by rw[←yC];exact aae.aB 5 _
 have u1:∀{x y:World} {X:Nat},(X=b∨X=f)→Step (· =X) x (· =X) y→Step (λk=>k=b∨k=f) x (λk=>k=b∨k=f) y:=λ{x y X} hX hs=>hs.more (λk hk=>by
  have:k=X:=hk;subst this;exact hX) (λk hk=>.inl hk)
 have hsA:Step (λk=>k=b∨k=f) w (λk=>k=b∨k=f) w6:=((((u1 (.inl rfl) Ad).trans (u1 (.inl rfl) nJ)).trans (u1 (.inr rfl) lg)).trans (u1 (.inl rfl) iI)).trans ((u1 (.inr rfl) Ki).trans (u1 (.inl rfl) xL));have mZ:uX v w6 b sp d C L true (λk=>F k∨k=b)∧Turn v.heap.size (λk=>F k∨k=b) w (λk=>F k∨k=b) w6:=by
  have hH:=H.o;have hf:=hH.lt f hH.own;have nI:=HP.o.lt
  have oI:∀{p:Option Nat} {M:Wl},Book w (.map p) M F→Book w6 (.map p) M (λk=>F k∨k=b):=λ{p M} hM=>((hM.apart hH.cells dQ).keep (λk hk=>hsA.keep k (hH.lt k hk.1).2 (.inl (by
   rintro(rfl|rfl)
   ·exact lJ hk.1
   ·exact hk.2 rfl)))).more (λk hk=>.inl hk.1)
  refine⟨⟨pw,true,pt,true,none,T,⟨hH.quiet.inner hsA (λk hk=>?_) hd,λk hk=>?_,.inr rfl,Gf,oI hH.writes,oI hH.told,hH.same,.inl rfl,⟨λm hm=>⟨(hH.apart.1 m hm).1,λh=>(by cases h)⟩,λm hm h=>(by cases h)⟩⟩,λ_=>rfl⟩,Turn.Kv hsA (λk hk=>?_)⟩
  ·rcases hk with rfl|rfl
   ·exact Yk
   ·exact hf.1
  ·have gJ:=hsA.size
   rcases hk with hk|rfl
   ·have:=hH.lt k hk
    exact⟨this.1,oQ⟩
   ·exact⟨Yk,oQ⟩
  ·rcases hk with rfl|rfl
   ·exact .inr rfl
   ·exact .inl hH.own
 have HF:=U mZ;clear Ad nJ lg iI oU hf4 kS aae xL Gf u1 hsA mZ VI Ki k2 k3 p2 p3 k3a gH;go_wp2_with fail;go_end0;exact⟨rfl,HF.o⟩
end
section
variable {v w w':World} {b sp d:Nat} {C:Nat→Bytes} {L:Wl} {q:Bool} {F:Nat→Prop}
theorem Nt {o:Nat} {T:TypeId} {vs:List Value} {p:Option Nat} {sh:Bool} {id g c:Nat} {l:Bytes} (hv:ah w b T vs) (hT:¬BT T) (h0:vs[o]? =some (.map p)) (h1:vs[o+1]? =some (.bool sh)) (hb:Book w (.map p) L F) (hi:id<4000) (hl:l.length=480) (hg:jF w g l) (tq:F g):
  Calls Tryz.prog 270 #[.pointer (some ⟨b,o,none⟩),.int .i64 id,.slice (some ⟨g,0,none⟩) 480 c] w λe w'=>e=.returned (.tuple #[])∧∃m,(p=some m∨w.heap.size≤m)∧ah w' b T ((vs.set o (.map (some m))).set (o+1) (.bool false))∧Book w' (.map (some m)) (jN L id l) (λk=>F k∨k=m)∧Step (λk=>k=b∨p=some k) w (λk=>k=b∨k=m) w':=by
 by_cases vS:p=none∨sh=true
 ·refine(VH hv hT h0 h1 vS hb hi hl hg tq).mono ?_
  rintro e w' ⟨rfl,m,h2,h3,h4,h5⟩;exact⟨rfl,m,.inr h2,h3,h4,h5.more (λk hk=>.inl hk) (λk hk=>hk.elim (λh=>.inl (.inl h)) (λh=>.inr oQ))⟩
 ·obtain⟨m,rfl⟩:∃m,p=some m:=by
   rcases p with _|m
   ·exact absurd (.inl rfl) vS
   ·exact⟨m,rfl⟩
  obtain rfl:sh=false:=by
   cases sh
   ·rfl
   ·exact absurd (.inr rfl) vS
  have M9:b≠m:=by
   obtain⟨_,_,⟨h3,_⟩|⟨mb,φ,h3,q2,q3,q4,q5⟩⟩:=hb
   ·cases h3
   ·injection h3 with h3
    injection h3 with h3;subst h3;exact λe=>q3.fE hv e.symm
  refine(Z6 hv hT h0 h1 hb hi hl hg tq).mono ?_;rintro e w' ⟨rfl,h2,h3⟩;refine⟨rfl,m,.inl rfl,?_,h2.more (λk hk=>.inl hk),h3.more (λk hk=>.inr (by have:k=m:=hk;rw[this])) (λk hk=>.inl (hk.imp (λh=>h) (λh=>by rw[h])))⟩;have tF:(vs.set o (.map (some m))).set (o+1) (.bool false)=vs:=by
   apply qG;intro i;by_cases h6:o+1=i
   ·subst h6
    rw[qV (by rw[zat];exact(zL.1 h1).1),h1]
   ·rw[qH h6]
    by_cases h7:o=i
    ·subst h7
     rw[qV (zL.1 h0).1,h0]
    ·rw[qH h7]
  rw[tF];exact hv.step h3 M9
theorem Book.other {T:TypeId} {vs:List Value} {p x:Option Nat} {M:Wl} {G':Nat→Prop} (h:Book w (.map x) M F) (hs:Step (λk=>k=b∨p=some k) w G' w') (hv:ah w b T vs) (hT:¬BT T) (hx:∀k,x=some k→p≠some k):Book w' (.map x) M F:=by
 obtain⟨h1,h2,h3⟩:=h;refine⟨h1,h2,h3.imp id ?_⟩;rintro⟨mb,φ,q1,q2,q3,q4,q5⟩;refine⟨mb,φ,q1,q2,q3.step hs ?_,q4,λe he=>?_⟩
 ·injection q1 with q1
  rintro(h|h)
  ·exact q3.fE hv h
  ·exact hx mb q1 h
 ·obtain⟨g,c,r1,r2,r3⟩:=q5 e he
  exact⟨g,c,r1,r2,r3.block (hs.keep g r3.lt (.inr (by obtain⟨C,fr,r4,_⟩:=r3;exact⟨C,u8F fr,r4⟩)))⟩
theorem Book.mlt {x:Option Nat} {M:Wl} (h:Book w (.map x) M F) {k:Nat} (hx:x=some k):k<w.heap.size∧F k:=by
 obtain⟨h1,h2,⟨h3,_⟩|⟨mb,φ,q1,q2,q3,q4,q5⟩⟩:=h
 ·rw[hx] at h3
  cases h3
 ·injection q1 with q1
  rw[hx] at q1;injection q1 with q1;subst q1;exact⟨q3.lt,q2⟩
theorem fQ.aul (hd:d<v.heap.size) {pw pt am:Option Nat} {sw st:Bool} {T:Wl} (h:fQ v w b sp d C L F pw sw pt st am T) {id g c:Nat} {l:Bytes} (hi:id<4000) (hl:l.length=480) (hg:jF w g l) (hgv:v.heap.size≤g):
  Calls Tryz.prog 270 #[.pointer (some ⟨b,2,none⟩),.int .i64 id,.slice (some ⟨g,0,none⟩) 480 c] w λe w'=>e=.returned (.tuple #[])∧∃m,fQ v w' b sp d C (jN L id l) (λk=>F k∨k=g∨k=m) (some m) false pt st am T∧Turn v.heap.size (λk=>F k∨k=g) w (λk=>F k∨k=g∨k=m) w':=by
 refine(Nt (o:=2) h.cells dQ rfl rfl (h.writes.more (λk hk=>Or.inl (b:=k=g) hk)) hi hl hg (.inr rfl)).mono ?_;rintro e w' ⟨rfl,m,hm,h2,h3,h4⟩;have aiw:m<w'.heap.size:=(h3.mlt rfl).1;have hz:=h4.size;have l7:=hg.lt;have tF:=h.quiet.size;have hsF:∀k,k=b∨pw=some k→F k:=λk hk=>hk.elim (λe=>e▸h.own) (λe=>(h.writes.mlt e).2);have Il:∀k,k<w.heap.size→(∀j,pw=some j→k≠j)→k≠m:=λk hk hj=>by
  rcases hm with hm|hm
  ·exact hj m hm
  ·omega
 refine⟨rfl,m,⟨h.quiet.inner h4 (λk hk=>(h.lt k (hsF k hk)).1) hd,λk hk=>?_,.inl h.own,h2,h3.more (λk hk=>by
  rcases hk with(hk|hk)|hk
  ·exact .inl hk
  ·exact .inr (.inl hk)
  ·exact .inr (.inr hk)),(h.told.other h4 h.cells dQ (λk hk hp=>(h.apart.1 k hp).1 hk)).more (λk hk=>.inl hk),h.same,h.asked.imp (λh=>h) ?_,⟨λk hk=>?_,h.apart.2⟩⟩,⟨hz,λk _ hk hn=>h4.keep k hk (.inl (λhx=>hn (.inl (hsF k hx)))),λk hk=>?_⟩⟩
 ·rcases hk with hk|rfl|rfl
  ·have:=h.lt k hk
   exact⟨this.1,oQ⟩
  ·exact⟨hgv,oQ⟩
  ·refine⟨?_,aiw⟩
   rcases hm with hm|hm
   ·exact(h.lt _ (h.writes.mlt hm).2).1
   ·omega
 ·rintro⟨x,h5,h6,h7⟩
  refine⟨x,h5,.inl h6,h7.step h4 ?_⟩;rintro(e|e)
  ·exact h7.fE h.cells e
  ·exact(h.apart.1 x e).2 h5
 ·injection hk with hk
  subst hk;refine⟨λh8=>Il _ (h.told.mlt h8).1 (λj hj e=>(h.apart.1 j hj).1 (e▸h8)) rfl,λh8=>?_⟩;rcases h.asked with h9|⟨x,h5,h6,h7⟩
  ·rw[h9] at h8
   cases h8
  ·rw[h5] at h8
   injection h8 with h8;subst h8;exact Il _ h7.lt (λj hj e=>(h.apart.1 j hj).2 (e▸h5)) rfl
 ·rcases hk with hk|hk|hk
  ·exact .inl (.inl hk)
  ·exact .inl (.inr hk)
  ·rcases hm with hm|hm
   ·exact .inl (.inl (hk▸(h.writes.mlt hm).2))
   ·exact .inr oQ
theorem fQ.aum (hd:d<v.heap.size) {pw pt am:Option Nat} {sw st:Bool} {T:Wl} (h:fQ v w b sp d C L F pw sw pt st am T) {id g c:Nat} {l:Bytes} (hi:id<4000) (hl:l.length=480) (hg:jF w g l) (hgv:v.heap.size≤g) (hC:l=C id):
  Calls Tryz.prog 270 #[.pointer (some ⟨b,4,none⟩),.int .i64 id,.slice (some ⟨g,0,none⟩) 480 c] w λe w'=>e=.returned (.tuple #[])∧∃m,fQ v w' b sp d C L (λk=>F k∨k=g∨k=m) pw sw (some m) false am (jN T id l)∧Turn v.heap.size (λk=>F k∨k=g) w (λk=>F k∨k=g∨k=m) w'∧∀(a:Option Addr) (l:Bytes),cZ w a l→cZ w' a l:=by
 refine(Nt (o:=4) h.cells dQ rfl rfl (h.told.more (λk hk=>Or.inl (b:=k=g) hk)) hi hl hg (.inr rfl)).mono ?_;rintro e w' ⟨rfl,m,hm,h2,h3,h4⟩;have aiw:m<w'.heap.size:=(h3.mlt rfl).1;have hz:=h4.size;have l7:=hg.lt;have tF:=h.quiet.size;have hsF:∀k,k=b∨pt=some k→F k:=λk hk=>hk.elim (λe=>e▸h.own) (λe=>(h.told.mlt e).2);have Il:∀k,k<w.heap.size→(∀j,pt=some j→k≠j)→k≠m:=λk hk hj=>by
  rcases hm with hm|hm
  ·exact hj m hm
  ·omega
 refine⟨rfl,m,⟨h.quiet.inner h4 (λk hk=>(h.lt k (hsF k hk)).1) hd,λk hk=>?_,.inl h.own,h2,(h.writes.other h4 h.cells dQ (λk hk hp=>(h.apart.1 k hk).1 hp)).more (λk hk=>.inl hk),h3.more (λk hk=>by
  rcases hk with(hk|hk)|hk
  ·exact .inl hk
  ·exact .inr (.inl hk)
  ·exact .inr (.inr hk)),λe he=>?_,h.asked.imp (λh=>h) ?_,⟨λk hk=>⟨λh8=>?_,(h.apart.1 k hk).2⟩,λk hk h8=>?_⟩⟩,⟨hz,λk _ hk hn=>h4.keep k hk (.inl (λhx=>hn (.inl (hsF k hx)))),λk hk=>?_⟩,λa l hb=>hb.step h4⟩
 ·rcases hk with hk|rfl|rfl
  ·have:=h.lt k hk
   exact⟨this.1,oQ⟩
  ·exact⟨hgv,oQ⟩
  ·refine⟨?_,aiw⟩
   rcases hm with hm|hm
   ·exact(h.lt _ (h.told.mlt hm).2).1
   ·omega
 ·rcases zH.1 he with rfl|he
  ·exact hC
  ·exact h.same e (qR.1 he).1
 ·rintro⟨x,h5,h6,h7⟩
  refine⟨x,h5,.inl h6,h7.step h4 ?_⟩;rintro(e|e)
  ·exact h7.fE h.cells e
  ·exact h.apart.2 x e h5
 ·injection h8 with h8
  subst h8;exact Il _ (h.writes.mlt hk).1 (λj hj e=>(h.apart.1 _ hk).1 (by rw[e];exact hj)) rfl
 ·injection hk with hk
  subst hk;rcases h.asked with h9|⟨x,h5,h6,h7⟩
  ·rw[h9] at h8
   cases h8
  ·rw[h5] at h8
   injection h8 with h8;subst h8;exact Il _ h7.lt (λj hj e=>h.apart.2 j hj (e▸h5)) rfl
 ·rcases hk with hk|hk|hk
  ·exact .inl (.inl hk)
  ·exact .inl (.inr hk)
  ·rcases hm with hm|hm
   ·exact .inl (.inl (hk▸(h.told.mlt hm).2))
   ·exact .inr oQ
end
section
variable {v w w':World} {b sp d:Nat} {C:Nat→Bytes} {L:Wl} {q:Bool} {F:Nat→Prop}
theorem fQ.below {pw pt am:Option Nat} {sw st:Bool} {T:Wl} (h:fQ v w b sp d C L F pw sw pt st am T) (hB:Below w.heap.size w w'):fQ v w' b sp d C L F pw sw pt st am T:=
 h.keep (λk hk=>hB.block k (h.lt k hk).2) (h.quiet.trans (Quiet.of_below hB)) hB.size
theorem QS (hd:d<v.heap.size) (h:uX v w b sp d C L q F) {id c:Nat} {a:Option Addr} {l:Bytes} (hi:id<4000) (hl:l.length=480) (ha:cZ w a l):
  Calls Tryz.prog 217 #[.pointer (some ⟨b,0,none⟩),.int .i64 id,.slice a 480 c] w λe w'=>e=.returned (.int .i64 0)∧∃F',uX v w' b sp d C (jN L id l) q F'∧Turn v.heap.size F w F' w':=by
 obtain⟨pw,sw,pt,st,am,T,h,hq⟩:=h;have c1:=h.cells.cell 1;simp only[jA,zf,zi] at c1;have hn:¬((id:Int)<0):=oQ
 have H:=U h;have HA:=U ha;have HQ:=U hq;have tF:=h.quiet.size;have JW:=U tF;clear h ha tF hq;go_enter Tryz.func217,Tryz.ntmps217;go_wp2_with fail;refine wp_region_noPanic ?_;refine ak (S:=(λ_=>True)) (m:=7) kQ trivial (λaj=>?_);refine te 0 aj ?_;refine te 1 aj ?_;refine te 2 aj ?_;refine te 3 aj ?_;refine te 4 aj ?_;refine rE 5 λK hK=>?_;go_simp;with_reducible refine(I4 hl (HA.o.below (zn _ _).drew) c).mono ?_
 rintro e w1 ⟨g,cg,rfl,jr,hg,aF⟩;have aF:=((zn w.heap.size w).drew).trans aF;have jr:w.heap.size≤g:=jr;have HG:=U (And.intro jr (And.intro hg aF));clear jr hg aF;go_wp2_with fail;refine hK.out _ _ (λ_=>trivial) (λhS=>?_);have bQ:=hS dQ;clear hS hK K
 try simp only[Act.put,zh,zk,zl]
 refine rE 6 λK hK=>?_;go_simp;with_reducible refine(fQ.aul hd (H.o.below HG.o.2.2) hi hl HG.o.2.1 (zC JW.o HG.o.1)).mono ?_
 rintro e w2 ⟨rfl,m,dh,jM⟩;have bH:=U (And.intro dh jM);clear dh jM;go_wp2_with fail;refine hK.out _ _ (λ_=>trivial) (λhS=>?_);have bV:=hS dQ;clear hS hK K
 try simp only[Act.put,zh,zk,zl]
 refine aD ?_;go_wp2_with fail;go_ret;refine⟨rfl,_,⟨_,_,_,_,_,_,bH.o.1,HQ.o⟩,?_⟩;have aF:=HG.o.2.2;have jr:w.heap.size≤g:=HG.o.1;refine((Turn.of_below aF v.heap.size F).to (G':=λk=>F k∨k=g) (λk hk=>hk.imp (λh=>h) (λh=>oQ))).trans bH.o.2
end
theorem bF.Kw {w:World} {m s x o:Nat} {φ:Nat→Option Value} {v:Value} (h:bF w m s φ) (hc:w.cell? ⟨x,o,none⟩=some v):x≠m:=by
 obtain⟨D,⟨es,clock,hb,r⟩,_⟩:=h;rintro rfl;unfold World.cell? at hc;simp[hb] at hc
theorem lK {P:Program} {c:Code} {a:Act} {w:World} {Q:Exit→Act→World→Prop} (h:∀Q',Q'=Q→Code.wp P c Q' a w):Code.wp P c Q a w:=h Q rfl
theorem Nu {w:World} {x0 x1 b m s id:Nat} {p q:Addr} {φ:Nat→Option Value} (c0:w.cell? ⟨x0,0,none⟩=some (.pointer (some ⟨b,0,none⟩))) (c1:w.cell? ⟨x1,0,none⟩=some (.int .i64 id)) (c6:w.cell? ⟨b,6,none⟩=some (.map (some m))) (hM:bF w m s φ) (hi:id<4000) (hs:(φ id).isSome):
  CallsD Tryz.prog 361 #[.pointer (some ⟨x0,0,none⟩),.pointer (some ⟨x1,0,none⟩),.pointer (some p),.pointer (some q)] .returning w λe u' w'=>e=.returned (.tuple #[])∧u'=.returning∧bF w' m (s - 1) (iM φ id none)∧Step (· =m) w (· =m) w':=by
 obtain⟨w',hr,hM',ht⟩:=(hM.below (zn _ _).drew).drop (t:=71) Tryz.underlying71 id (by unfold fZ;omega) 0;rw[if_pos hs] at hM';have bT:Step (· =m) w (· =m) w':=(Step.drew _ _).trans ((hM.below (zn _ _).drew).turn ht);have HF:=U (And.intro hM' bT);have d0:=(bT.cell (p:=⟨x0,0,none⟩) (zq w _ c0) (hM.Kw c0)).trans c0;have d1:=(bT.cell (p:=⟨x1,0,none⟩) (zq w _ c1) (hM.Kw c1)).trans c1;have d6:=(bT.cell (p:=⟨b,6,none⟩) (zq w _ c6) (hM.Kw c6)).trans c6;have HDD:=U (And.intro d0 (And.intro d1 d6));clear d0 d1 d6;clear hM hM' bT ht;refine callsD_of_wpS Tryz.func361 rfl λc₀ cs hu=>?_;apply wpS_seq;refine wpS_of_wp (lK λQ' rF=>?_);have HQ:=U rF;clear rF;simp only[Tryz.ntmps361,zQ,zA,zN,Nat.reduceAdd,Nat.reduceSub,zJ,zK,zT,zM,zB,zU];go_wp2_with fail;refine wp_region_noPanic ?_;refine ak (S:=(λW=>W.cell? ⟨x0,0,none⟩=some (.pointer (some ⟨b,0,none⟩))∧W.cell? ⟨x1,0,none⟩=some (.int .i64 id)∧W.cell? ⟨b,6,none⟩=some (.map (some m)))) (m:=6) kQ ⟨c0,c1,c6⟩ (λaj=>?_);refine te 0 aj ?_;refine te 1 aj ?_;refine te 2 aj ?_;refine te 3 aj ?_;refine te 4 aj ?_;refine rE 5 λK hK=>?_;go_simp;refine hK.out _ _ (λ_=>HDD.o) (λhS=>?_);have bQ:=hS dQ;clear hS hK K
 try simp only[Act.put,zh,zk,zl]
 refine aD ?_;rw[HQ.o];simp[Exit.thenS];apply wpS_seq;apply wpS_region;simp[wpOpsS,go_sem,Act.eval,recoverD,hu,Exit.thenS];refine wpS_cond (t:=false) (by simp[Act.eval]) ?_;simp only[zab,if_false];refine wpS_of_wp (wp_skip ?_);cases c₀;have HFo:=HF.o;simp_all[bodyPostS,results,Tryz.results361]
end
end Go.Proofs.YtdjdpeadohobmaaGreatDoor
