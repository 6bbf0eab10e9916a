/- A part of the walk below the law: what is proved here is used by later parts; no further condition. -/
import Derived.Ground.SlbCloneProg
import Derived.Laws.Cover3
import Derived.Lib.SlMapMerge
import Derived.Shelf.Bytes.SlClone
import Derived.Test.YtdjdpeadohobmaaGreatDoorK21
import Derived.Test.YtdjdpeadohobmaaGreatDoorProg
set_option linter.unusedVariables false
set_option linter.unusedSimpArgs false
set_option maxRecDepth 100000
set_option maxHeartbeats 20000000
namespace Go.Proofs.YtdjdpeadohobmaaGreatDoor
section
open Go.RowKit Go.Shelf O
attribute [local go_sem] Oper.semAt_some
theorem Quiet.step {d:Nat} {w w':World} (h:Quiet d w w') {vs:List Value} (hv:ah w d 74 vs):Step (· =d) w (· =d) w':=
 ⟨h.os,h.tape,h.output,h.size,λk hk jV=>h.keep k hk (by
  rintro rfl;rcases jV with hn|h8
  ·exact hn rfl
  ·exact hv.aV dQ h8),λk hk=>.inl hk⟩
theorem Dev.quiet {w w':World} {d n:Nat} {st:Nat→Bytes} {wt:Wt} {dn:Bool} {F:Nat→Prop} (h:Dev w d n st wt dn F) (hq:Quiet d w w'):Dev w' d n st wt dn F∧Step F w F w':=by
 obtain⟨sb,ss,vw,xs,tb,cr,cw,cf,h⟩:=h;have hs:=hq.step h.cells;refine⟨?_,hs.up h.own.1⟩;rcases hq.dev _ h.cells with h1|⟨c,h1⟩
 ·exact⟨_,_,_,_,_,cr,cw,cf,h.turn hs h1⟩
 ·exact⟨_,_,_,_,_,c,cw,cf,h.turn hs (by simpa[oz] using h1)⟩
theorem wU.quiet {w w':World} {j d:Nat} {s:JS} {C:Nat→Bytes} {st:Nat→Bytes} {wt:Wt} {F:Nat→Prop} (h:wU w j d s C st wt F) (hq:Quiet d w w'):wU w' j d s C st wt F∧Step F w F w':=by
 obtain⟨r,rb,t,pb,ob,Fd,f,g,h⟩:=h;obtain⟨h1,h2⟩:=h.dev.quiet hq;obtain⟨h3,h4⟩:=h.Tc h2 h1 (λ_ h=>h);exact⟨⟨_,_,_,_,_,_,_,_,h3⟩,h4⟩
section
variable {w w':World} {sp d:Nat} {s:JS} {C:Nat→Bytes} {cl:Bool} {F:Nat→Prop}
theorem lW.quiet (h:lW w sp d s C cl F) (hq:Quiet d w w'):lW w' sp d s C cl F:=by
 obtain⟨j,st,wt,Fj,h1,h2,h3,h4,h5,h6,h7⟩:=h;obtain⟨q1,q2⟩:=h2.quiet hq;exact⟨j,st,wt,Fj,h1.step q2 h5,q1,h3,h4,h5,λk hk=>zx (h6 k hk) hq.size,h7⟩
theorem lW.yE (h:lW w sp d s C cl F):d<w.heap.size:=by
 obtain⟨j,st,wt,Fj,h1,h2,h3,h4,h5,h6,h7⟩:=h;obtain⟨r,rb,t,pb,ob,Fd,f,g,h⟩:=h2;obtain⟨sb,ss,vw,xs,tb,cr,cw,cf,h⟩:=h.dev;exact h.cells.lt
theorem TA (h:lW w sp d s C cl F) {j:Nat} (hj:w.cell? ⟨sp,0,none⟩=some (.pointer (some ⟨j,0,none⟩))) (id:Nat) (yj:id<s.B):
  Calls Tryz.prog 114 #[.pointer (some ⟨j,0,none⟩),.int .i64 id] w λe w'=>(∃a c,e=.returned (.tuple #[.slice a 480 c,.int .i64 0])∧cZ w' a (C id))∧Quiet d w w':=by
 obtain⟨j',st,wt,Fj,h1,h2,h3,h4,h5,h6,h7⟩:=h;have hc:=h1.cell 0;simp only[zf] at hc;rw[hj] at hc;injection hc with hc;injection hc with hc;injection hc with hc;injection hc with hc;subst hc;exact(Td h2 id yj).mono λe w' q=>⟨q.1,q.2.2.2⟩
end
end
section
open Go.Shelf
def Tryz.Ku:Go.Shelf.Ren:=⟨fun|4=>208|n=>n,fun|22=>22|4=>4|5=>5|n=>n,fun|n=>n⟩
theorem Tryz.ZY:Go.Proofs.SlLaysK.n4 Tryz.prog Tryz.Ku:={
 mixed:=by kernel_rfl
 f4:=Tryz.func208.trans (congrArg some (by kernel_rfl))
 t4:=Tryz.underlying4
 a4:=Tryz.isAgg4
 z4:=Tryz.sizeOf4
 v4:=Tryz.zeroValue4
 t22:=Tryz.underlying22
 a22:=Tryz.isAgg22
 z22:=Tryz.sizeOf22
 v22:=Tryz.zeroValue22
 t5:=Tryz.underlying5
 i5:=by kernel_rfl}
open Go.RowKit Go.Lib in
theorem Tryz.bytes_Clone_at (a:Addr) (n c:Nat) (xs:List Int) (w:World) (hx:xs.length=n) (auf:n≤140737488355328) (hc:∀i,i<n→w.cell? (a.add i)=some (.int .u8 (xs.getD i 0))):
  Calls Tryz.prog 208 #[.slice (some a) n c] w λe w'=>∃v',e=.returned v'∧w'.ownsRow w.heap.size 5 1 v' n (xs.map (Value.int .u8))∧v'≠.slice none 0 0∧Below w.heap.size w w':=Any.bytes_Clone_at Tryz.ZY a n c xs w hx auf hc
end
section
open Go.RowKit Go.Shelf O
def jF (w:World) (g:Nat) (l:Bytes):Prop:=∃C fr,w.heap[g]? =some (.cells C 5 fr)∧∀i,(h:i<l.length)→C[i]? =some (.int .u8 (n8 l[i]))
section
variable {w w':World} {g:Nat} {l:Bytes}
theorem jF.lt (h:jF w g l):g<w.heap.size:=by
 obtain⟨C,fr,h,_⟩:=h;exact(zo.1 h).1
theorem jF.pR (h:jF w g l):cZ w (some ⟨g,0,none⟩) l:=by
 obtain⟨C,fr,h1,h2⟩:=h;exact .inr ⟨g,0,C,u8F fr,rfl,h1,λi hi=>by rw[qx];exact h2 i hi⟩
theorem jF.block (h:jF w g l) (e:w'.heap[g]? =w.heap[g]?):jF w' g l:=by
 obtain⟨C,fr,h1,h2⟩:=h;exact⟨C,fr,e.trans h1,h2⟩
theorem jF.below (h:jF w g l) (hs:Below w.heap.size w w'):jF w' g l:=h.block (hs.block g h.lt)
theorem I4 {a:Option Addr} (hl:l.length=480) (hb:cZ w a l) (c:Nat):
  Calls Tryz.prog 208 #[.slice a 480 c] w λe w'=>∃g c',e=.returned (.slice (some ⟨g,0,none⟩) 480 c')∧w.heap.size≤g∧jF w' g l∧Below w.heap.size w w':=by
 rcases hb with rfl|⟨b,off,C,fr,rfl,h1,h2⟩
 ·cases hl
 refine(Tryz.bytes_Clone_at ⟨b,off,none⟩ 480 c (l.map n8) w (by simp[hl]) oQ (λi hi=>?_)).mono ?_
 ·have h3:=h2 i oQ
  have ha:(⟨b,off,none⟩:Addr).add i=⟨b,off+i,none⟩:=by
   unfold Addr.add;by_cases h0:i=0
   ·subst h0;simp
   ·simp[h0]
  rw[ha];unfold World.cell?;simp[h1,h3,z_,qb,zu (show i<l.length by omega)]
 ·rintro e w' ⟨v',rfl,ho,dV,hB⟩
  rcases ho.2 with⟨_,h0⟩|⟨g,cap,cur,hv,jr,hg,JG,_,vS,ht⟩
  ·cases h0
  ·subst hv
   refine⟨g,_,rfl,jr,⟨cur,(0,0),hg,λi hi=>?_⟩,hB⟩;have h3:((l.map n8).map (Value.int .u8))[i]? =some (.int .u8 (n8 l[i])):=by
    simp[zu hi]
   rw[←h3]
   conv=>rhs;rw[←ht]
   rw[qh,if_pos oQ,qw]
end
structure Turn (base:Nat) (F:Nat→Prop) (w:World) (F':Nat→Prop) (w':World):Prop where
 size:w.heap.size≤w'.heap.size
 keep:∀k,base≤k→k<w.heap.size→¬F k→w'.heap[k]? =w.heap[k]?
 new:∀k,F' k→F k∨w.heap.size≤k
section
variable {base d:Nat} {F F' F'' G G':Nat→Prop} {v w w' w'':World}
theorem Turn.refl (base:Nat) (F:Nat→Prop) (w:World):Turn base F w F w:=⟨zm _,λ_ _ _ _=>rfl,λ_ h=>.inl h⟩
theorem Turn.trans (h:Turn base F w F' w') (k:Turn base F' w' F'' w''):Turn base F w F'' w'':=by
 refine⟨zC h.size k.size,λi hb hi hn=>(k.keep i hb (zx hi h.size) (λhf=>?_)).trans (h.keep i hb hi hn),λi hi=>?_⟩
 ·rcases h.new i hf with h2|h2
  ·exact hn h2
  ·omega
 ·rcases k.new i hi with h2|h2
  ·exact h.new i h2
  ·exact .inr (zC h.size h2)
theorem Turn.of_below (h:Below w.heap.size w w') (base:Nat) (F:Nat→Prop):Turn base F w F w':=⟨h.size,λk _ hk _=>h.block k hk,λ_ h=>.inl h⟩
theorem Turn.Kv (h:Step G w G' w') (hF:∀k,G k→F k):Turn base F w F w':=⟨h.size,λk _ hk hn=>h.keep k hk (.inl λhg=>hn (hF k hg)),λ_ h=>.inl h⟩
theorem Turn.more (h:Turn base F w F' w') (h1:∀k,F k→G k) (h2:∀k,G' k→G k∨w.heap.size≤k):Turn base G w G' w':=⟨h.size,λk hb hk hn=>h.keep k hb hk (λhf=>hn (h1 k hf)),h2⟩
theorem Turn.to (h:Turn base F w F' w') (h2:∀k,G' k→F k∨w.heap.size≤k):Turn base F w G' w':=h.more (λ_ h=>h) h2
theorem Turn.apart (h:Turn base F w F' w') {b:Nat} (hb:b<w.heap.size) (hn:¬F b):¬F' b:=λh2=>by
 rcases h.new b h2 with h3|h3
 ·exact hn h3
 ·omega
theorem Turn.aW (h:Turn base F w F' w') {b:Nat} {T:TypeId} {vs:List Value} (hv:ah w b T vs) (hb:base≤b) (hn:¬F b):ah w' b T vs:=(h.keep b hb hv.lt hn).trans hv
theorem Turn.am9 (h:Turn base F w F' w') {g:Nat} {l:Bytes} (hv:jF w g l) (hb:base≤g) (hn:¬F g):jF w' g l:=hv.block (h.keep g hb hv.lt hn)
end
def Book (w:World) (mv:Value) (L:Wl) (F:Nat→Prop):Prop:=
 (L.map Prod.fst).Nodup∧(∀e∈L,e.1<4000∧e.2.length=480)∧((mv=.map none∧L=[])∨∃mb φ,mv=.map (some mb)∧F mb∧bF w mb L.length φ∧(∀i,i<fZ→(φ i).isSome=(L.find? (λe=>e.1==i)).isSome)∧∀e∈L,∃g c,φ e.1=some (.slice (some ⟨g,0,none⟩) 480 c)∧F g∧jF w g e.2)
theorem Book.turn {w w':World} {mv:Value} {L:Wl} {F:Nat→Prop} (h:Book w mv L F) (hk:∀k,F k→(B8 w k∨mv=.map (some k))→w'.heap[k]? =w.heap[k]?):Book w' mv L F:=by
 obtain⟨h1,h2,h3⟩:=h;refine⟨h1,h2,h3.imp id ?_⟩;rintro⟨mb,φ,q1,q2,q3,q4,q5⟩
 exact⟨mb,φ,q1,q2,q3.block (hk _ q2 (.inr q1)),q4,λe he=>by
  obtain⟨g,c,r1,r2,r3⟩:=q5 e he;exact⟨g,c,r1,r2,r3.block (hk _ r2 (.inl (by obtain⟨C,fr,r4,_⟩:=r3;exact⟨C,u8F fr,r4⟩)))⟩⟩
theorem Book.keep {w w':World} {mv:Value} {L:Wl} {F:Nat→Prop} (h:Book w mv L F) (hk:∀k,F k→w'.heap[k]? =w.heap[k]?):Book w' mv L F:=h.turn λk hF _=>hk k hF
theorem Book.more {w:World} {mv:Value} {L:Wl} {F G:Nat→Prop} (h:Book w mv L F) (hk:∀k,F k→G k):Book w mv L G:=by
 obtain⟨h1,h2,h3⟩:=h;refine⟨h1,h2,h3.imp id ?_⟩;rintro⟨mb,φ,q1,q2,q3,q4,q5⟩
 exact⟨mb,φ,q1,hk _ q2,q3,q4,λe he=>by
  obtain⟨g,c,r1,r2,r3⟩:=q5 e he;exact⟨g,c,r1,hk _ r2,r3⟩⟩
theorem Book.sub {w:World} {mv:Value} {L:Wl} {F G:Nat→Prop} (h:Book w mv L F) (hk:∀k,F k→(B8 w k∨(mv=.map (some k)∧∃s φ,bF w k s φ))→G k):Book w mv L G:=by
 obtain⟨h1,h2,h3⟩:=h;refine⟨h1,h2,h3.imp id ?_⟩;rintro⟨mb,φ,q1,q2,q3,q4,q5⟩
 exact⟨mb,φ,q1,hk _ q2 (.inr ⟨q1,_,_,q3⟩),q3,q4,λe he=>by
  obtain⟨g,c,r1,r2,r3⟩:=q5 e he;exact⟨g,c,r1,hk _ r2 (.inl (by obtain⟨C,fr,r4,_⟩:=r3;exact⟨C,u8F fr,r4⟩)),r3⟩⟩
theorem Book.apart {w:World} {mv:Value} {L:Wl} {F:Nat→Prop} (h:Book w mv L F) {b:Nat} {T:TypeId} {vs:List Value} (hv:ah w b T vs) (hT:¬BT T):Book w mv L (λk=>F k∧k≠b):=h.sub λk hk jV=>⟨hk,by
 rintro rfl;rcases jV with h8|⟨_,s,φ,hM⟩
 ·exact hv.aV hT h8
 ·exact hM.fE hv rfl⟩
theorem Book.nil (w:World) (F:Nat→Prop):Book w (.map none) [] F:=⟨List.nodup_nil,λe he=>(by cases he),.inl ⟨rfl,rfl⟩⟩
theorem Book.few {w:World} {mv:Value} {L:Wl} {F:Nat→Prop} (h:Book w mv L F):L.length≤4000:=by
 obtain⟨h1,h2,_⟩:=h
 have h3:=eH 4000 _ h1 (λx hx=>by
  obtain⟨e,he,rfl⟩:=qj.1 hx;exact(h2 e he).1)
 simpa using h3
def jN (L:Wl) (id:Nat) (l:Bytes):Wl:=(id,l)::L.filter (λe=>e.1 !=id)
theorem I5 (L:Wl) (id:Nat) (l:Bytes) (i:Nat):(jN L id l).find? (λe=>e.1==i)=if i=id then some (id,l) else L.find? (λe=>e.1==i):=by
 unfold jN;by_cases h:i=id
 ·subst h
  simp
 ·have h2:¬(id=i):=λe=>h e.symm
  rw[if_neg h,List.find?_cons_of_neg (by simpa using h2),List.find?_filter];congr 1;funext e;by_cases he:e.1=i
  ·simp[he,h]
  ·simp[he]
theorem uV (C:Nat→Bytes) (L:Wl) (id:Nat) (l:Bytes):dW C (jN L id l)=λi=>if i=id then l else dW C L i:=by
 funext i;unfold dW;rw[I5];by_cases h:i=id
 ·simp[h]
 ·simp[h]
theorem QL {L:Wl} (h:(L.map Prod.fst).Nodup) (id:Nat) (l:Bytes):((jN L id l).map Prod.fst).Nodup:=by
 unfold jN;rw[qy,za9];refine⟨λhx=>?_,h.sublist (List.filter_sublist.map _)⟩;obtain⟨e,he,h2⟩:=qj.1 hx;have:=(qR.1 he).2;simp[h2] at this
theorem QM {L:Wl} (h:(L.map Prod.fst).Nodup) (id:Nat):(L.filter (λe=>e.1 !=id)).length=if(L.find? (λe=>e.1==id)).isSome then L.length - 1 else L.length:=by
 induction L with
 |nil=>rfl
 |cons e L ih=>
  rw[qy,za9] at h;have ih:=ih h.2;by_cases he:e.1=id
  ·have hn:L.find? (λe=>e.1==id)=none:=zaN.2 (λx hx hxe=>h.1 (by
    rw[he,←(by simpa using hxe:x.1=id)];exact List.mem_map_of_mem hx))
   rw[hn] at ih;simp[he] at ih ⊢;exact ih
  ·have hfc:(e::L).find? (λe=>e.1==id)=L.find? (λe=>e.1==id):=by simp[List.find?_cons,he]
   rw[List.filter_cons_of_pos (by simpa using he),hfc,zA,ih]
   split
   ·rename_i hs
    have:1≤L.length:=by
     rcases L with _|⟨x,L⟩
     ·cases hs
     ·simp
    simp only[zA];omega
   ·simp
theorem oZ {L:Wl} (h:(L.map Prod.fst).Nodup) (id:Nat) (l:Bytes):(jN L id l).length=if(L.find? (λe=>e.1==id)).isSome then L.length else L.length+1:=by
 unfold jN;rw[zA,QM h]
 split
 ·rename_i hs
  have:1≤L.length:=by
   rcases L with _|⟨x,L⟩
   ·cases hs
   ·simp
  omega
 ·rfl
end
section
open Go.RowKit Go.Shelf Go.Maps O
attribute [local go_sem] Oper.semAt_some
theorem QN {k:TypeId} {R:Value→Option (DataW Value×List MemPlace)} {b n:Nat} {D:DataW Value} {w w':World} (h:w.ownsMap Tryz.prog k R b n D) (e:w'.heap[b]? =w.heap[b]?):w'.ownsMap Tryz.prog k R b n D:=by
 obtain⟨es,clock,hb,r⟩:=h;exact⟨es,clock,e.trans hb,r⟩
theorem Ns (D:DataW Value):Merged D (.map []) D (λ_=>false):=by
 refine⟨λk=>by simp[Maps.has],λk z=>?_⟩;rcases hh:Maps.has D k with _|_
 ·simp only[Bool.false_and,if_false,zab]
  cases D<;>try rfl
  rename_i es;have hf:es.find? (λp=>p.1.sameKey k)=none:=zaN.2 (λp hp=>by simpa using(List.any_eq_false.1 hh) p hp);simp[DataW.atKey,hf]
 ·simp
section
variable {w:World}
theorem QO (w:World):Calls Tryz.prog 205 #[.map none] w λe w'=>∃m,e=.returned (.map (some m))∧w.heap.size≤m∧bF w' m 0 (λ_=>none)∧Below w.heap.size w w':=by
 have Ph:=λ(n:Int) (w:World)=>iN (P:=Tryz.prog) Tryz.underlying187 .i64 n w;have hrg:=λw=>run_range_nilMap (P:=Tryz.prog) w 187 _ _ Tryz.underlying187;have hnx:=λty=>run_next_nilMap (P:=Tryz.prog) (w.alloc (.map #[] 0)) ty 0 0 #[];have gJ:(w.alloc (.map #[] 0)).heap.size=w.heap.size+1:=sQ
 rw[gJ] at hnx;go_enter Tryz.func205,Tryz.ntmps205;go_wp2;refine wp_loop_rounds 1 ?_;rw[rounds_succ];go_wp2;go_ret;exact⟨_,rfl,zm _,(bF.new w).below ((zn _ _).alloc (zm _) _),((zn _ _).alloc (zm _) _).alloc sQ _⟩
theorem Ez {b s:Nat} {φ:Nat→Option Value} (h:bF w b s φ) (hs:s<1000000):Calls Tryz.prog 205 #[.map (some b)] w λe w'=>∃m,e=.returned (.map (some m))∧w.heap.size≤m∧bF w' m s φ∧Below w.heap.size w w':=by
 obtain⟨D,hown,gJ,dw,ags⟩:=h;have nI:=hown.lt;have Ph:=λ(n:Int) (w:World)=>iN (P:=Tryz.prog) Tryz.underlying187 .i64 n w;have hlen:=λty=>hown.len (ty:=ty) Tryz.underlying187;have fJ:=World.ownsMap_made (P:=Tryz.prog) (k:=3) (R:=fG) w;have hown1:=QN (w':=w.alloc (.map #[] 0)) hown (zal _ _ _ nI);have aiv:(w.alloc (.map #[] 0)).heap.size=w.heap.size+1:=sQ
 obtain⟨w1,aP⟩:∃w1,w.alloc (.map #[] 0)=w1:=⟨_,rfl⟩
 have aF:Below w.heap.size w w1:=by rw[←aP];exact(zn _ _).alloc (zm _) _
 have hms:Maps.size (.map []:DataW Value)=0:=rfl;rw[aP] at fJ hown1 aiv;go_enter Tryz.func205,Tryz.ntmps205;go_wp2_with (at_range;refine wpList_range_own _ rfl _ 187 rfl 3 22 bP Tryz.underlying187 fG b s D rfl hown1 ?_;intro w0 QE jr wS);rw[aiv];rw[aiv] at wS QE
 go_frame
 have aCE:=U Ph;have axT:=U hlen;clear Ph hlen
 go_loopw [11] (λ_ wr=>∃(left:Lit→Bool) (cnt:Nat) (Dout:DataW Value),wr.ranges Tryz.prog 3 fG b (w.heap.size+1) s D left cnt∧cnt≤Maps.size D∧
   wr.ownsMap Tryz.prog 3 fG w.heap.size (Maps.size D - cnt) Dout∧Merged Dout (.map []) D left∧w1.grownBy wr (some w.heap.size))
  (λ_ wr=>wr.rangeLeft b (w.heap.size+1))
 case atStart=>
  refine⟨_,_,.map [],QE,zm _,?_,merged_start _ D,jr.but _⟩;rw[zbc];exact fJ.kept jr sQ
 case round=>
  obtain⟨left,cnt,Dout,hrg,vS,hout,hM,hgw⟩:=hrel;go_wp2_with (at_next;refine wpList_next_ranges _ rfl _ rfl 3 bP fG id id (λkey _ _=>⟨key,rfl⟩) (λv _ _=>⟨v,rfl⟩) b (w.heap.size+1) s _ _ _ rfl hrg ?_ ?_)
  ·intro Gs AP
   go_wp2;go_ret;subst Gs;have e1:=merged_eq bP.one hM AP (hout.canon bP) (fJ.canonK bP) (hown.canonK bP);have e2:=merged_eq bP.one (Ns D) (λ_=>rfl) (hown.canon bP) (fJ.canonK bP) (hown.canonK bP);rw[←e2] at e1;subst e1;refine⟨_,rfl,zm _,⟨_,?_,gJ,dw,ags⟩,?_⟩
   ·rw[←gJ]
    exact hout
   ·exact aF.trans ⟨hgw.os,hgw.tape,hgw.output,hgw.size,λk hk=>hgw.block k oQ (λe=>by have:=zau e;omega)⟩
  ·intro x c kl yd yp w2 cnt1 ZK hlx hv auh aui bA FZ Ad hen
   have am_:=hout.kept FZ (λe=>by have:=zau e;omega);go_wp2_with (at_mapUpdate;refine wpList_mapUpdate_own _ rfl _ _ _ 187 rfl 3 22 bP Tryz.underlying187 fG w.heap.size _ _ rfl am_ (by unfold maxLen;omega) _ _ _ rfl rfl ZK yd yp hv ?_;intro w3 ana wQ;go_frame);have ZL:=aui.kept wQ (λe=>by have:=zau e;omega) (λe=>by have:=zau e;omega);go_roundw
   case rel=>
    exact⟨_,cnt1,_,ZL,oQ,ana.mono oQ,merged_step hM hout.isMap (bP.key ZK) auh,(hgw.andThen FZ (λj hj=>.inl (by cases hj;omega))).andThen wQ (λj hj=>.inr hj)⟩
   case measure=>rw[ZL.left_eq,hrg.left_eq];exact bA
end
section
variable {w:World} {mv:Value} {L:Wl} {F:Nat→Prop}
theorem uw (h:Book w mv L F):Calls Tryz.prog 205 #[mv] w λe w'=>∃m,e=.returned (.map (some m))∧w.heap.size≤m∧Book w' (.map (some m)) L (λk=>F k∨k=m)∧Below w.heap.size w w':=by
 have gD:=h.few;obtain⟨h1,h2,⟨rfl,rfl⟩|⟨mb,φ,rfl,q2,q3,q4,q5⟩⟩:=h
 ·refine(QO w).mono ?_
  rintro e w' ⟨m,rfl,hm,hM,hB⟩;exact⟨m,rfl,hm,⟨h1,h2,.inr ⟨m,_,rfl,.inr rfl,hM,λi hi=>rfl,λe he=>(by cases he)⟩⟩,hB⟩
 ·refine(Ez q3 oQ).mono ?_
  rintro e w' ⟨m,rfl,hm,hM,hB⟩;refine⟨m,rfl,hm,⟨h1,h2,.inr ⟨m,φ,rfl,.inr rfl,hM,q4,λe he=>?_⟩⟩,hB⟩;obtain⟨g,c,r1,r2,r3⟩:=q5 e he;exact⟨g,c,r1,.inl r2,r3.below hB⟩
theorem Book.put {m:Nat} (h:Book w (.map (some m)) L F) {id:Nat} (hi:id<4000) {g c:Nat} {l:Bytes} (hl:l.length=480) (hg:jF w g l) (tq:F g):
  ∃w',(Instr.mapUpdate 187 (.map (some m)) (.int .i64 (id:Int)) (.slice (some ⟨g,0,none⟩) 480 c)).run Tryz.prog w=.ok () w'∧Book w' (.map (some m)) (jN L id l) F∧w.mapTurned w' m:=by
 have gD:=h.few;obtain⟨h1,h2,⟨h3,_⟩|⟨mb,φ,h3,q2,q3,q4,q5⟩⟩:=h
 ·cases h3
 injection h3 with h3;injection h3 with h3;subst h3;have Pf:id<fZ:=by unfold fZ;omega
 obtain⟨w',hr,hM,ht⟩:=q3.store Tryz.underlying187 (by unfold maxLen;omega) id Pf (.slice (some ⟨g,0,none⟩) 480 c);have hs:=q3.turn ht;have h8:∀{k:Nat} {l:Bytes},jF w k l→jF w' k l:=λ{k l} hk=>hk.block (hs.keep k hk.lt (.inr (by obtain⟨C,fr,r4,_⟩:=hk;exact⟨C,u8F fr,r4⟩)));refine⟨w',hr,⟨QL h1 id l,λe he=>?_,.inr ⟨m,iM φ id (some (.slice (some ⟨g,0,none⟩) 480 c)),rfl,q2,?_,λi jQ=>?_,λe he=>?_⟩⟩,ht⟩
 ·rcases zH.1 he with rfl|he
  ·exact⟨hi,hl⟩
  ·exact h2 e (qR.1 he).1
 ·rw[oZ h1,←q4 id Pf]
  exact hM
 ·rw[I5]
  unfold iM;by_cases Te:i=id
  ·simp[Te]
  ·simp[Te,q4 i jQ]
 ·rcases zH.1 he with rfl|he
  ·exact⟨g,c,by simp[iM],tq,h8 hg⟩
  ·have h5:=qR.1 he
   obtain⟨g',c',r1,r2,r3⟩:=q5 e h5.1;exact⟨g',c',by rw[show iM φ id (some (.slice (some ⟨g,0,none⟩) 480 c)) e.1=φ e.1 by unfold iM;rw[if_neg (by simpa using h5.2)]];exact r1,r2,h8 r3⟩
theorem Book.look (h:Book w mv L F) (id:Nat) (hi:id<4000):(Instr.lookup 187 mv (.int .i64 (id:Int)) true).run Tryz.prog w=.ok (.tuple #[.slice none 0 0,.bool false]) w∧L.find? (λe=>e.1==id)=none∨
  ∃g c l,(Instr.lookup 187 mv (.int .i64 (id:Int)) true).run Tryz.prog w=.ok (.tuple #[.slice (some ⟨g,0,none⟩) 480 c,.bool true]) w∧L.find? (λe=>e.1==id)=some (id,l)∧l.length=480∧jF w g l∧F g:=by
 have hz:(zeroValue 22).run Tryz.prog w=.ok (.slice none 0 0) w:=kQ
 have Pf:id<fZ:=by unfold fZ;omega
 obtain⟨h1,h2,⟨rfl,rfl⟩|⟨mb,φ,rfl,q2,q3,q4,q5⟩⟩:=h
 ·left
  refine⟨?_,rfl⟩;exact Maps.look_nil true bP Tryz.underlying187 hz (uP id Pf)
 ·have yh:=q3.look (t:=187) Tryz.underlying187 hz id Pf
  have h4:=q4 id Pf;rcases hf:L.find? (λe=>e.1==id) with _|e
  ·left
   rw[hf] at h4;rcases hφ:φ id with _|v
   ·rw[hφ] at yh
    exact⟨yh,hf⟩
   ·rw[hφ] at h4
    cases h4
  ·right
   have he:=qN hf;have Z4:e.1=id:=by simpa using List.find?_some hf
   obtain⟨g,c,r1,r2,r3⟩:=q5 e he;rw[Z4] at r1;rw[r1] at yh;exact⟨g,c,e.2,yh,by rw[hf,←Z4],(h2 e he).2,r3,r2⟩
end
section
variable {w:World}
theorem uW {b o:Nat} {T:TypeId} {vs:List Value} (hv:ah w b T vs) (hT:¬BT T) {p:Option Nat} {sh:Bool} (h0:vs[o]? =some (.map p)) (h1:vs[o+1]? =some (.bool sh)):
  Calls Tryz.prog 268 #[.pointer (some ⟨b,o,none⟩)] w λe w'=>e=.returned (.agg #[.map p,.bool true])∧ah w' b T (vs.set (o+1) (.bool true))∧Step (· =b) w (· =b) w':=by
 obtain⟨w1,aP⟩:∃w1,w.alloc (.cells #[.map none,.bool false] 189)=w1:=⟨_,rfl⟩
 have aF:Below w.heap.size w w1:=by rw[←aP];exact(zn _ _).alloc (zm _) _
 have nM:ah w1 w.heap.size 189 [.map none,.bool false]:=by rw[←aP];exact ah.new w _ _
 have L_:=hv.below aF;have f0:=L_.free (o+1);have Pn:=L_.cell (o+1);rw[h1] at Pn;have nI:=hv.lt;obtain⟨w2,iy⟩:∃w2,w1.setCell ⟨b,o+1,none⟩ (.bool true)=w2:=⟨_,rfl⟩
 have pW:ah w2 b T (vs.set (o+1) (.bool true)):=by rw[←iy];exact L_.aB _ _
 have nJ:Step (· =b) w1 (· =b) w2:=by rw[←iy];exact Step.set1 (L_.aV hT) _ _
 have Ai:=nM.step nJ oQ;have c0:=pW.cell o;have c1:=pW.cell (o+1);have ho:o+1<vs.length:=(zL.1 h1).1;have dV:o+1≠o:=oQ
 rw[qH dV,h0] at c0;rw[qV ho] at c1;have g0:=Ai.free 0;have g1:=Ai.free 1;have n0:=Ai.cell 0;have n1:=Ai.cell 1;simp only[zf,zi] at n0 n1;have HV:=U (And.intro pW (And.intro nJ (And.intro aF Ai)));clear aF nM L_ pW nJ Ai hv;go_enter Tryz.func268,Tryz.ntmps268;go_wp2_with fail;clear aP iy Pn f0;go_wp2_with fail;obtain⟨pW,nJ,aF,Ai⟩:=HV.o;have u0:=Ai.aB 0 (.map p);have u1:=u0.aB 1 (.bool true);simp only[zk,zl] at u1;have s0:=Step.set1 (Ai.aV dQ) 0 (.map p);have s1:=s0.trans (Step.set1 (u0.aV dQ) 1 (.bool true));refine bodyPost_ret (v:=.agg #[.map p,.bool true]) (dN rfl rfl u1 Tryz.underlying189 rfl kQ) rfl ⟨rfl,pW.step s1 oQ,?_⟩;exact((Step.of_below aF (· =b)).trans nJ).inner s1 (λk hk=>.inr (Yx hk.symm))
end
theorem TB (p:Option Nat) (w:World):(binOp .eql 187 (.map p) (.map none)).run Tryz.prog w=.ok (.bool p.isNone) w:=by
 simp[binOp,run_equal_map_nil w 187 _ _ p Tryz.underlying187,Result.andThen]
theorem Z5 (p:Option Nat) (w:World):(binOp .eql 71 (.map p) (.map none)).run Tryz.prog w=.ok (.bool p.isNone) w:=by
 simp[binOp,run_equal_map_nil w 71 _ _ p Tryz.underlying71,Result.andThen]
section
variable {w:World} {b o:Nat} {T:TypeId} {vs:List Value} {p:Option Nat} {sh:Bool} {L:Wl} {F:Nat→Prop} {id g c:Nat} {l:Bytes}
theorem Z6 {m:Nat} (hv:ah w b T vs) (hT:¬BT T) (h0:vs[o]? =some (.map (some m))) (h1:vs[o+1]? =some (.bool false)) (hb:Book w (.map (some m)) L F) (hi:id<4000) (hl:l.length=480) (hg:jF w g l) (tq:F g):
  Calls Tryz.prog 270 #[.pointer (some ⟨b,o,none⟩),.int .i64 id,.slice (some ⟨g,0,none⟩) 480 c] w λe w'=>e=.returned (.tuple #[])∧Book w' (.map (some m)) (jN L id l) F∧Step (· =m) w (· =m) w':=by
 have c0:=hv.cell o;have c1:=hv.cell (o+1);rw[h0] at c0;rw[h1] at c1;obtain⟨w',hr,hB,ht⟩:=hb.put hi (c:=c) hl hg tq;have Z7:¬B8 w m:=by
  obtain⟨_,_,⟨h3,_⟩|⟨mb,φ,h3,q2,q3,q4,q5⟩⟩:=hb
  ·cases h3
  ·injection h3 with h3
   injection h3 with h3;subst h3;exact q3.aV
 have hs:Step (· =m) w (· =m) w':=Step.bU ht.grown (λr hr=>by cases hr;exact⟨rfl,Z7⟩);have HF:=U (And.intro hB hs);clear hB hs ht Z7 hb;have heq:=TB;go_enter Tryz.func270,Tryz.ntmps270;go_wp2_with fail;go_end0;exact⟨rfl,HF.o⟩
theorem VH (hv:ah w b T vs) (hT:¬BT T) (h0:vs[o]? =some (.map p)) (h1:vs[o+1]? =some (.bool sh)) (vS:p=none∨sh=true) (hb:Book w (.map p) L F) (hi:id<4000) (hl:l.length=480) (hg:jF w g l) (tq:F g):
  Calls Tryz.prog 270 #[.pointer (some ⟨b,o,none⟩),.int .i64 id,.slice (some ⟨g,0,none⟩) 480 c] w λe w'=>e=.returned (.tuple #[])∧∃m,w.heap.size≤m∧ah w' b T ((vs.set o (.map (some m))).set (o+1) (.bool false))∧Book w' (.map (some m)) (jN L id l) (λk=>F k∨k=m)∧Step (· =b) w (λk=>k=b∨k=m) w':=by
 have c0:=hv.cell o;have c1:=hv.cell (o+1);rw[h0] at c0;rw[h1] at c1;have ho:o+1<vs.length:=(zL.1 h1).1;have HV:=U hv;have HB:=U hb;have HG:=U hg;have heq:=TB;have nI:=hv.lt;have key:∀(m:Nat) (w1:World),w.heap.size≤m→Book w1 (.map (some m)) L (λk=>F k∨k=m)→Below w.heap.size w w1→∃w2 w3,(w1.setCell ⟨b,o,none⟩ (.map (some m))).setCell ⟨b,o+1,none⟩ (.bool false)=w2∧ah w2 b T ((vs.set o (.map (some m))).set (o+1) (.bool false))∧(Instr.mapUpdate 187 (.map (some m)) (.int .i64 (id:Int)) (.slice (some ⟨g,0,none⟩) 480 c)).run Tryz.prog w2=.ok () w3∧ah w3 b T ((vs.set o (.map (some m))).set (o+1) (.bool false))∧Book w3 (.map (some m)) (jN L id l) (λk=>F k∨k=m)∧Step (· =b) w (λk=>k=b∨k=m) w3:=by
  intro m w1 hm aF CW;have v1:=HV.o.below CW;have v2:=v1.aB o (.map (some m));have v3:=v2.aB (o+1) (.bool false);have s2:=(Step.set1 (v1.aV hT) o (.map (some m))).trans (Step.set1 (v2.aV hT) (o+1) (.bool false));have M9:m≠b:=oQ
  have aJ:=aF.turn (w':=(w1.setCell ⟨b,o,none⟩ (.map (some m))).setCell ⟨b,o+1,none⟩ (.bool false)) (λk hk jV=>s2.keep k (by
   rcases jV with⟨C,fr,h⟩|h
   ·exact(zo.1 h).1
   ·injection h with h
    injection h with h;subst h;obtain⟨_,_,⟨h3,_⟩|⟨mb,φ,h3,q2,q3,q4,q5⟩⟩:=aF
    ·cases h3
    ·injection h3 with h3
     injection h3 with h3;subst h3;exact q3.lt) (by
   rcases jV with h|h
   ·exact .inr h
   ·injection h with h
    injection h with h;exact .inl (by show¬(k=b);omega)))
  have wQ:jF ((w1.setCell ⟨b,o,none⟩ (.map (some m))).setCell ⟨b,o+1,none⟩ (.bool false)) g l:=by
   have:=HG.o.below CW;exact this.block (s2.keep g this.lt (.inr (by obtain⟨C,fr,h,_⟩:=this;exact⟨C,u8F fr,h⟩)))
  obtain⟨w3,hr,bf,ht⟩:=aJ.put hi (c:=c) hl wQ (.inl tq);have Z7:¬B8 ((w1.setCell ⟨b,o,none⟩ (.map (some m))).setCell ⟨b,o+1,none⟩ (.bool false)) m:=by
   obtain⟨_,_,⟨h3,_⟩|⟨mb,φ,h3,q2,q3,q4,q5⟩⟩:=aJ
   ·cases h3
   ·injection h3 with h3
    injection h3 with h3;subst h3;exact q3.aV
  have hs:Step (· =m) _ (· =m) w3:=Step.bU ht.grown (λr hr=>by cases hr;exact⟨rfl,Z7⟩);refine⟨_,w3,rfl,v3,hr,v3.step hs oQ,bf,?_⟩
  exact((((Step.of_below CW (· =b)).trans s2).inner hs (λk hk=>.inr (by have:k=m:=hk;omega))).to (λk hk=>by
   rcases hk with hk|hk
   ·exact .inl hk
   ·exact .inr oQ))
 have HK:=U key;clear hv hb hg key;go_enter Tryz.func270,Tryz.ntmps270;rcases vS with rfl|rfl
 ·go_wp2_with fail
  refine(uw HB.o).mono ?_;rintro e w1 ⟨m,rfl,hm,aF,CW⟩;obtain⟨w2,w3,iy,pW,hr,UG,bf,lg⟩:=HK.o m w1 hm aF CW;have v1:=HV.o.below CW;have Z8:=v1.aB o (.map (some m));have f0:=v1.free o;have f1:=Z8.free (o+1);have k0:=v1.cell o;have k1:=Z8.cell (o+1);rw[h0] at k0;rw[qH oQ,h1] at k1;have e0:=pW.cell o;rw[qH oQ,qV oQ] at e0;have HF:=U (And.intro hm (And.intro UG (And.intro bf lg)));clear hm aF CW pW UG bf lg v1 Z8 c0 c1;go_wp2_with fail;clear iy f0 f1 k0 k1;go_wp2_with fail;go_end0;exact⟨rfl,m,HF.o⟩
 ·rcases p with _|p
  ·go_wp2_with fail
   refine(uw HB.o).mono ?_;rintro e w1 ⟨m,rfl,hm,aF,CW⟩;obtain⟨w2,w3,iy,pW,hr,UG,bf,lg⟩:=HK.o m w1 hm aF CW;have v1:=HV.o.below CW;have Z8:=v1.aB o (.map (some m));have f0:=v1.free o;have f1:=Z8.free (o+1);have k0:=v1.cell o;have k1:=Z8.cell (o+1);rw[h0] at k0;rw[qH oQ,h1] at k1;have e0:=pW.cell o;rw[qH oQ,qV oQ] at e0;have HF:=U (And.intro hm (And.intro UG (And.intro bf lg)));clear hm aF CW pW UG bf lg v1 Z8 c0 c1;go_wp2_with fail;clear iy f0 f1 k0 k1;go_wp2_with fail;go_end0;exact⟨rfl,m,HF.o⟩
  ·go_wp2_with fail
   refine(uw HB.o).mono ?_;rintro e w1 ⟨m,rfl,hm,aF,CW⟩;obtain⟨w2,w3,iy,pW,hr,UG,bf,lg⟩:=HK.o m w1 hm aF CW;have v1:=HV.o.below CW;have Z8:=v1.aB o (.map (some m));have f0:=v1.free o;have f1:=Z8.free (o+1);have k0:=v1.cell o;have k1:=Z8.cell (o+1);rw[h0] at k0;rw[qH oQ,h1] at k1;have e0:=pW.cell o;rw[qH oQ,qV oQ] at e0;have HF:=U (And.intro hm (And.intro UG (And.intro bf lg)));clear hm aF CW pW UG bf lg v1 Z8 c0 c1;go_wp2_with fail;clear iy f0 f1 k0 k1;go_wp2_with fail;go_end0;exact⟨rfl,m,HF.o⟩
end
end
end Go.Proofs.YtdjdpeadohobmaaGreatDoor
