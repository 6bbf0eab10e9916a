/- A part of the walk below the law: what is proved here is used by later parts; no further condition. -/
import Derived.Test.YtdjdpeadohobmaaGreatDoorK23
set_option linter.unusedVariables false
set_option linter.unusedSimpArgs false
set_option maxRecDepth 100000
set_option maxHeartbeats 20000000
namespace Go.Proofs.YtdjdpeadohobmaaGreatDoor
section
open Go.RowKit Go.Shelf Go.Maps O
attribute [local go_sem] Oper.semAt_some
theorem TF {w:World} {sp j:Nat} (h:w.cell? ⟨sp,0,none⟩=some (.pointer (some ⟨j,0,none⟩))) (n:Nat):(method (n+1) 76 (.pointer (some ⟨sp,0,none⟩)) "Read").run Tryz.prog w=.ok (114,.pointer (some ⟨j,0,none⟩)) w:=by
 have m1:((Tryz.prog.info? 76).bind (λi=>i.methods.find? (·.name== "Read"))).map (λm=>(m.path.toList.map (λs=>(s.struct,s.index,s.deref)),m.func))=some ([(125,0,true)],some (114,true)):=kQ
 rcases hi:Tryz.prog.info? 76 with _|i
 ·rw[hi] at m1
  cases m1
 rw[hi] at m1;simp only[Option.bind_some] at m1;rcases hr:i.methods.find? (·.name== "Read") with _|m
 ·rw[hr] at m1
  cases m1
 rw[hr] at m1;simp only[qA] at m1;injection m1 with m1;injection m1 with m1 m2;obtain⟨⟨st,ix,de⟩,hp,m1⟩:∃s,m.path.toList=[s]∧(s.struct,s.index,s.deref)=(125,0,true):=by
  rcases hl:m.path.toList with _|⟨s,_|⟨_,_⟩⟩
  ·rw[hl] at m1;cases m1
  ·rw[hl] at m1
   simp only[qy,qK] at m1;exact⟨s,rfl,(List.cons.inj m1).1⟩
  ·rw[hl] at m1
   simp at m1
 simp only[zaS] at m1;obtain⟨rfl,rfl,rfl⟩:=m1;have hu:=Tryz.underlying125;simp only[method,qE,typeInfo];simp[go_sem,hi,hr,hp,m2,follow,receiverAt,Place.get,fieldPlace,h,Go.run_underlying hu,Result.andThen]
 done
def Quit (w:World) (am:Option Nat):Prop:=am=none∨∃m,am=some m∧bF w m 0 (λ_=>none)
theorem Quit.below {w w':World} {am:Option Nat} (h:Quit w am) (hB:Below w.heap.size w w'):Quit w' am:=h.imp (λh=>h) λ⟨m,h1,h2⟩=>⟨m,h1,h2.below hB⟩
theorem Quit.look {w:World} {am:Option Nat} (h:Quit w am) {id:Nat} (hi:id<4000):(Instr.lookup 71 (.map am) (.int .i64 (id:Int)) true).run Tryz.prog w=.ok (.tuple #[.agg #[],.bool false]) w:=by
 have hz:(zeroValue 99).run Tryz.prog w=.ok (.agg #[]) w:=kQ
 have Pf:id<fZ:=by unfold fZ;omega
 rcases h with rfl|⟨m,rfl,hM⟩
 ·exact Maps.look_nil true bP Tryz.underlying71 hz (uP id Pf)
 ·exact hM.look (t:=71) Tryz.underlying71 hz id Pf
section
variable {v w w':World} {b sp d:Nat} {s:JS} {C:Nat→Bytes} {L:Wl} {cl:Bool} {q:Bool} {F F0:Nat→Prop}
theorem fQ.aaf (hd:d<v.heap.size) {pw pt:Option Nat} {sw st:Bool} {T:Wl} (h:fQ v w b sp d C L F pw sw pt st none T):
  fQ v ((w.alloc (.map #[] 0)).setCell ⟨b,6,none⟩ (.map (some w.heap.size))) b sp d C L (λk=>F k∨k=w.heap.size) pw sw pt st (some w.heap.size) T∧Step (· =b) w (λk=>k=b∨k=w.heap.size) ((w.alloc (.map #[] 0)).setCell ⟨b,6,none⟩ (.map (some w.heap.size)))∧bF ((w.alloc (.map #[] 0)).setCell ⟨b,6,none⟩ (.map (some w.heap.size))) w.heap.size 0 (λ_=>none):=by
 have hB:Below w.heap.size w (w.alloc (.map #[] 0)):=(zn _ _).alloc (zm _) _;have nI:=h.cells.lt;have h1:=h.cells.below hB;have h2:=h1.aB 6 (.map (some w.heap.size));have s1:=Step.set1 (h1.aV dQ) 6 (.map (some w.heap.size));have hM:=(bF.new w).step s1 oQ;obtain⟨w',hw'⟩:∃w',(w.alloc (.map #[] 0)).setCell ⟨b,6,none⟩ (.map (some w.heap.size))=w':=⟨_,rfl⟩
 rw[hw'] at h2 s1 hM ⊢;have hs:=(Step.of_below hB (· =b)).trans s1;have hz:=hs.size;have hml:=hM.lt;have tF:=h.quiet.size;have oI:∀{p:Option Nat} {M:Wl},Book w (.map p) M F→Book w' (.map p) M (λk=>F k∨k=w.heap.size):=λ{p M} hM=>((hM.apart h.cells dQ).keep (λk hk=>hs.keep k (h.lt k hk.1).2 (.inl hk.2))).more (λk hk=>.inl hk.1);refine⟨⟨h.quiet.inner hs (λk hk=>by have:k=b:=hk;subst this;exact(h.lt k h.own).1) hd,λk hk=>?_,.inl h.own,h2,oI h.writes,oI h.told,h.same,.inr ⟨_,rfl,.inr rfl,hM⟩,⟨λk hk=>⟨(h.apart.1 k hk).1,λe=>?_⟩,λk hk e=>?_⟩⟩,hs.to (λk hk=>?_),hM⟩
 ·rcases hk with hk|rfl
  ·have:=h.lt k hk
   exact⟨this.1,oQ⟩
  ·exact⟨oQ,hml⟩
 ·injection e with e
  have:=(h.writes.mlt hk).1;omega
 ·injection e with e
  have:=(h.told.mlt hk).1;omega
 ·rcases hk with hk|rfl
  ·exact .inl hk
  ·exact .inr (zm _)
theorem fQ.asked' {v w w':World} {b sp d:Nat} {C:Nat→Bytes} {L:Wl} {F:Nat→Prop} {pw pt:Option Nat} {sw st:Bool} {T:Wl} {m:Nat} (h:fQ v w b sp d C L F pw sw pt st (some m) T) (hk:∀k,F k→k≠m→w'.heap[k]? =w.heap[k]?) (hM:bF w' m 0 (λ_=>none)) (hq:Quiet d v w') (hs:w.heap.size≤w'.heap.size):fQ v w' b sp d C L F pw sw pt st (some m) T:=by
 obtain⟨m',e1,e2,e3⟩:∃m',some m=some m'∧F m'∧bF w m' 0 (λ_=>none):=h.asked.resolve_left (λe=>(by cases e));injection e1 with e1;subst e1;have M8:b≠m:=λe=>e3.fE h.cells e.symm;refine⟨hq,λk h0=>⟨(h.lt k h0).1,zx (h.lt k h0).2 hs⟩,h.own,(hk _ h.own M8).trans h.cells,h.writes.turn (λk hF jV=>hk k hF ?_),h.told.turn (λk hF jV=>hk k hF ?_),h.same,.inr ⟨m,rfl,e2,hM⟩,h.apart⟩
 ·rintro rfl
  rcases jV with h8|h8
  ·exact e3.aV h8
  ·injection h8 with h8
   exact(h.apart.1 _ h8).2 rfl
 ·rintro rfl
  rcases jV with h8|h8
  ·exact e3.aV h8
  ·injection h8 with h8
   exact h.apart.2 _ h8 rfl
theorem fQ.aag {v w:World} {b sp d:Nat} {C:Nat→Bytes} {L:Wl} {F:Nat→Prop} {pw pt:Option Nat} {sw st:Bool} {T:Wl} {m:Nat} (h:fQ v w b sp d C L F pw sw pt st (some m) T):F m∧bF w m 0 (λ_=>none):=by
 obtain⟨m',e1,e2,e3⟩:∃m',some m=some m'∧F m'∧bF w m' 0 (λ_=>none):=h.asked.resolve_left (λe=>(by cases e));injection e1 with e1;subst e1;exact⟨e2,e3⟩
theorem aah (hd:d<v.heap.size) {C0:Nat→Bytes} (hS:lW v sp d s C0 cl F0) {pw pt am:Option Nat} {sw st:Bool} {T:Wl} (h:fQ v w b sp d C L F pw sw pt st am T) {id:Nat} (hi:id<s.B) (hB:s.B≤4000):
  Calls Tryz.prog 321 #[.pointer (some ⟨b,0,none⟩),.int .i64 id] w λe w'=>∃a c,e=.returned (.tuple #[.slice a 480 c,.int .i64 0])∧cZ w' a (C0 id)∧∃am' F',fQ v w' b sp d C L F' pw sw pt st am' T∧Turn v.heap.size F w F' w':=by
 have hif:=λx (w:World)=>run_eql_held_nil (P:=Tryz.prog) w 186 76 x kQ;have hmf:∀(fn:Fn) (first cap:Array Value) (w:World),(Instr.makeFunc fn first cap).run Tryz.prog w=.ok (.func fn first cap) w:=λ_ _ _ _=>rfl;obtain⟨w1,aP⟩:∃w1,(((w.alloc (.cells #[.pointer (some ⟨b,0,none⟩)] 83)).alloc (.cells #[.int .i64 id] 3)).alloc (.cells #[.slice none 0 0] 22)).alloc (.cells #[.int .i64 0] 26)=w1:=⟨_,rfl⟩
 obtain⟨aM,aF,hz1⟩:=boxes [([.pointer (some ⟨b,0,none⟩)],83),([.int .i64 id],3),([.slice none 0 0],22),([.int .i64 0],26)] w w1 aP;have x0:ah w1 w.heap.size 83 [.pointer (some ⟨b,0,none⟩)]:=aM 0 _ rfl;have x1:ah w1 (w.heap.size+1) 3 [.int .i64 id]:=aM 1 _ rfl;have x2:ah w1 (w.heap.size+2) 22 [.slice none 0 0]:=aM 2 _ rfl;have x3:ah w1 (w.heap.size+3) 26 [.int .i64 0]:=aM 3 _ rfl;have h1:=h.below aF;have y0:=x0.cell 0;have y1:=x1.cell 0;have b0:=h1.cells.cell 0;have b6:=h1.cells.cell 6;have p6:=h1.cells.free 6;simp only[jA,zf,zi] at y0 y1 b0 b6;have h0:=h.lt;have Hvw:=U h.quiet.size;have lJ:=h.own;have Ef:=U aF;have H:=U h1;have HX:=U (And.intro x0 (And.intro x1 (And.intro x2 x3)));clear h1 x0 x1 x2 x3 aM;go_enter_defers Tryz.func321,Tryz.ntmps321;go_wp2_with fail;have hi4:id<4000:=oQ
 have uf:Quit w1 am:=H.o.asked.imp (λh=>h) λ⟨m,e1,_,e3⟩=>⟨m,e1,e3⟩
 have hk:∀W,Below w1.heap.size w1 W→(W.cell? ⟨w.heap.size,0,none⟩=some (.pointer (some ⟨b,0,none⟩))∧W.cell? ⟨w.heap.size+1,0,none⟩=some (.int .i64 id)∧W.cell? ⟨b,6,none⟩=some (.map am)∧Quit W am):=λW hW=>
  ⟨(HX.o.1.below hW).cell 0,(HX.o.2.1.below hW).cell 0,(H.o.cells.below hW).cell 6,uf.below hW⟩
 have HK:=U hk;clear hk uf;refine wp_region_noPanic ?_;refine ak (S:=(λW=>W.cell? ⟨w.heap.size,0,none⟩=some (.pointer (some ⟨b,0,none⟩))∧W.cell? ⟨w.heap.size+1,0,none⟩=some (.int .i64 id)∧W.cell? ⟨b,6,none⟩=some (.map am)∧Quit W am)) (m:=11) kQ (HK.o _ (zn _ _).drew) (λaj=>?_);refine te 0 aj ?_;refine te 1 aj ?_;refine te 2 aj ?_;refine te 3 aj ?_;refine te 4 aj ?_;refine te 5 aj ?_ (v:=(.tuple #[.agg #[],.bool false])) (hy:=by intro W iR;(try dsimp only at iR);(have yh:=iR.2.2.2.look hi4;go_simp;(try with_reducible rfl)));refine te 6 aj ?_;refine te 7 aj ?_;refine te 8 aj ?_;refine rE 9 λK hK=>?_;go_simp;refine hK.out _ _ (λ_=>(HK.o _ ((zn _ _).drew.alloc (zm _) _))) (λhS=>?_);have bQ:=hS dQ;clear hS hK K
 try simp only[Act.put,zh,zk,zl]
 refine rE 10 λK hK=>?_;go_simp;refine hK.out _ _ (λ_=>(HK.o _ ((zn _ _).drew.alloc (zm _) _))) (λhS=>?_);have bV:=hS dQ;clear hS hK K
 try simp only[Act.put,zh,zk,zl]
 refine vF 11 ?_;refine aD ?_;obtain⟨w2,iy⟩:∃w2,(w1.alloc (.cells #[] 99)).drew=w2:=⟨_,rfl⟩
 have aJ:Below w1.heap.size w1 w2:=by rw[←iy];exact((zn _ _).alloc (zm _) _).drew
 have hK2:=HK.o _ aJ;obtain⟨y0,y1,b6,IL⟩:=hK2;have h2:=H.o.below aJ;have H2:=U h2;have bH:=U aJ;have p6:=h2.cells.free 6;clear h2;have heq:=Z5;have Ph:∀w:World,(Instr.makeMap 71 none).run Tryz.prog w=.ok (.map (some w.heap.size)) (w.alloc (.map #[] 0)):=λw=>by simp[Instr.makeMap,Go.run_underlying Tryz.underlying71,Result.andThen]
 have hz2:w2.heap.size=w.heap.size+4+1:=by rw[←iy];simp[World.drew,hz1]
 have nI:=H2.o.cells.lt;rcases am with _|m
 ·obtain⟨w3,gV⟩:∃w3,(w2.alloc (.map #[] 0)).setCell ⟨b,6,none⟩ (.map (some (w.heap.size+4+1)))=w3:=⟨_,rfl⟩
  have hBm:Below w2.heap.size w2 (w2.alloc (.map #[] 0)):=(zn _ _).alloc (zm _) _;have g6:=(H2.o.cells.below hBm).free 6;have gc:=(H2.o.cells.below hBm).cell 6;simp only[jA,zf,zi] at gc;go_wp2_with fail;obtain⟨A3,s3,uh⟩:=H2.o.aaf hd;rw[hz2] at A3 s3 uh;rw[gV] at A3 s3 uh;obtain⟨m3,dP⟩:∃m3,w.heap.size+4+1=m3:=⟨_,rfl⟩
  obtain⟨F3,EB⟩:∃F3,(λk=>F k∨k=m3)=F3:=⟨_,rfl⟩
  rw[dP] at A3 s3 uh ⊢;rw[EB] at A3;have LC:F3 m3:=by rw[←EB];exact .inr rfl
  have Gx:b<w.heap.size:=(h0 b lJ).2
  have X3:ah w3 w.heap.size 83 [.pointer (some ⟨b,0,none⟩)]∧ah w3 (w.heap.size+1) 3 [.int .i64 id]∧ah w3 (w.heap.size+2) 22 [.slice none 0 0]∧ah w3 (w.heap.size+3) 26 [.int .i64 0]:=
   ⟨(HX.o.1.below bH.o).step s3 oQ,(HX.o.2.1.below bH.o).step s3 oQ,(HX.o.2.2.1.below bH.o).step s3 oQ,(HX.o.2.2.2.below bH.o).step s3 oQ⟩
  have jo:=U (show Turn v.heap.size F w F3 w3 from(((Turn.of_below Ef.o _ F).trans (Turn.of_below bH.o _ F)).trans (Turn.Kv s3 (λk hk=>by have:k=b:=hk;subst this;exact lJ))).to (λk hk=>by
   rw[←EB] at hk;exact hk.imp (λh=>h) (λh=>oQ)))
  have aix:F m3∨w.heap.size≤m3:=.inr oQ;have Nv:∀k,F3 k→k≠w.heap.size+2∧k≠w.heap.size+3:=λk hk=>by
   rw[←EB] at hk;rcases hk with hk|hk
   ·have:=(h0 k hk).2
    omega
   ·omega
  clear s3 EB dP g6 gc gV hBm;have I6:=A3.quiet;have Ih:=A3.cells;obtain⟨w4,hr4,hM4,BS⟩:=(uh.below (zn _ _).drew).store (t:=71) Tryz.underlying71 (by unfold maxLen;omega) id (by unfold fZ;omega) (.agg #[]);have iI:Step (· =m3) w3 (· =m3) w4:=(Step.drew _ _).trans ((uh.below (zn _ _).drew).turn BS);have Ah:=iI.size;have mF:=jo.o.size;have auo:=Ih.lt;have M9:m3≠b:=uh.fE Ih;have hd4:=Ih.step iI (λe=>M9 e.symm);have x04:=X3.1.step iI (λe=>uh.fE X3.1 e.symm);have x14:=X3.2.1.step iI (λe=>uh.fE X3.2.1 e.symm);have x24:=X3.2.2.1.step iI (λe=>uh.fE X3.2.2.1 e.symm);have x34:=X3.2.2.2.step iI (λe=>uh.fE X3.2.2.2 e.symm);have z0:=X3.1.cell 0;have z1:=X3.2.1.cell 0;have z6:=Ih.cell 6;simp only[jA,zf,zi] at z0 z1 z6;have GH:=U A3;have vX:=U (And.intro uh LC);have rW:=U (And.intro x04 (And.intro x14 (And.intro x24 x34)));have Gg:=U hM4;have JM:=U iI;have M4:=U hd4;clear A3 uh LC X3 I6 Ih BS hM4 iI hd4 x04 x14 x24 x34;go_wp2_with fail;refine wp_region_noPanic ?_;refine ak (S:=(λW=>W.cell? ⟨w.heap.size,0,none⟩=some (.pointer (some ⟨b,0,none⟩))∧W.cell? ⟨w.heap.size+1,0,none⟩=some (.int .i64 id)∧W.cell? ⟨b,6,none⟩=some (.map (some m3)))) (m:=6) kQ ⟨z0,z1,z6⟩ (λaj=>?_);refine te 0 aj ?_;refine te 1 aj ?_;refine te 2 aj ?_;refine te 3 aj ?_;refine te 4 aj ?_;refine te 5 aj ?_;refine rE 6 λK hK=>?_;go_simp;refine kX hK ?_;clear hK K
  try simp only[Act.put,zh,zk,zl]
  refine aD ?_;go_wp2_with fail;have hq4:Quiet d v w4:=GH.o.quiet.inner JM.o (λk hk=>by have:k=m3:=hk;subst this;exact(GH.o.lt _ vX.o.2).1) hd;have xG:=hS.quiet (hq4.trans (Quiet.of_below (zn _ _).drew));obtain⟨j,cj,_,_⟩:=xG.cell0;have hrm:(method 547 76 (.pointer (some ⟨sp,0,none⟩)) "Read").run Tryz.prog w4.drew=.ok (114,.pointer (some ⟨j,0,none⟩)) w4.drew:=TF cj 546;have k0:=rW.o.1.cell 0;have k1:=rW.o.2.1.cell 0;have k2:=M4.o.cell 0;simp only[jA,zf,zi] at k0 k1 k2;have aiz:=U xG;have HQ4:=U hq4;clear xG hq4 z0 z1 z6;refine wp_region_noPanic ?_;refine ak (S:=(λW=>W.cell? ⟨w.heap.size,0,none⟩=some (.pointer (some ⟨b,0,none⟩))∧W.cell? ⟨w.heap.size+1,0,none⟩=some (.int .i64 id)∧W.cell? ⟨b,0,none⟩=some (.iface 76 (.pointer (some ⟨sp,0,none⟩))))) (m:=8) kQ ⟨k0,k1,k2⟩ (λaj=>?_);refine te 0 aj ?_;refine te 1 aj ?_;refine te 2 aj ?_;refine te 3 aj ?_;refine te 4 aj ?_;refine rE 5 λK hK=>?_;go_simp;go_wp2_with fail;refine(TA aiz.o cj id hi).mono ?_;rintro e w5 ⟨⟨ra,rc,rfl,kS⟩,Nw⟩;have iX:∀k,v.heap.size≤k→k<w4.heap.size→w5.heap[k]? =w4.heap[k]?:=λk h1 h2=>Nw.keep k h2 oQ;have Pq:=Hvw.o;have r2:ah w5 (w.heap.size+2) 22 [.slice none 0 0]:=(iX _ oQ rW.o.2.2.1.lt).trans rW.o.2.2.1;have r3:ah w5 (w.heap.size+3) 26 [.int .i64 0]:=(iX _ oQ rW.o.2.2.2.lt).trans rW.o.2.2.2;have e0:ah w5 w.heap.size 83 [.pointer (some ⟨b,0,none⟩)]:=(iX _ oQ rW.o.1.lt).trans rW.o.1;have e1:ah w5 (w.heap.size+1) 3 [.int .i64 id]:=(iX _ oQ rW.o.2.1.lt).trans rW.o.2.1;have e2:ah w5 b 191 (jA sp pw sw pt st (some m3)):=(iX _ (h0 b lJ).1 M4.o.lt).trans M4.o;have r2c:=r2.cell 0;have r2f:=r2.free 0;have r3c:=r3.cell 0;have r3f:=r3.free 0;simp only[zf] at r2c r3c;go_wp2_with fail;refine hK.out _ _ (λ_=>⟨e0.cell 0,e1.cell 0,e2.cell 0⟩) (λhS=>?_);have bQ:=hS dQ;clear hS hK K
  try simp only[Act.put,zh,zk,zl]
  refine te 6 bQ ?_;refine te 7 bQ ?_;refine rE 8 λK hK=>?_;go_simp;refine kX hK ?_;clear hK K
  try simp only[Act.put,zh,zk,zl]
  refine rE 9 λK hK=>?_;go_simp;refine kX hK ?_;clear hK K
  try simp only[Act.put,zh,zk,zl]
  refine aD ?_;go_wp2_with fail;have t2:=r2.aB 0 (.slice ra 480 rc);have s2:=Step.set1 (r2.aV dQ) 0 (.slice ra 480 rc);have r3':=r3.step s2 oQ;have t3:=r3'.aB 0 (.int .i64 0);have s3:=Step.set1 (r3'.aV dQ) 0 (.int .i64 0);have u2:=t2.step s3 oQ;have u0:=(e0.step s2 oQ).step s3 oQ;have u1:=(e1.step s2 oQ).step s3 oQ;have GI:b<w.heap.size:=(h0 b lJ).2;have ub:=(e2.step s2 oQ).step s3 oQ;have m5:bF w5 m3 _ _:=Gg.o.block (iX m3 (GH.o.lt m3 vX.o.2).1 Gg.o.lt);have Ai:m3≠w.heap.size+2:=λe=>m5.fE r2 e;have Gc:m3≠w.heap.size+3:=λe=>m5.fE r3 e;have mf:=(m5.step s2 oQ).step s3 oQ;have Yl:=(kS.step s2).step s3;have Im:∀k,k<w3.heap.size→k≠m3→k≠d→k≠w.heap.size+2→k≠w.heap.size+3→((w5.setCell ⟨w.heap.size+2,0,none⟩ (.slice ra 480 rc)).setCell ⟨w.heap.size+3,0,none⟩ (.int .i64 0)).heap[k]? =w3.heap[k]?:=λk g1 g2 g3 g4 g5=>by
   rw[zI _ _ _ _ g5,zI _ _ _ _ g4];exact(Nw.keep k (zx g1 Ah) g3).trans (JM.o.keep k g1 (.inl g2))
  have hqf:=(((HQ4.o.trans (Quiet.of_below (zn _ _).drew)).trans Nw).inner s2 (λk hk=>by have:k=w.heap.size+2:=hk;have:=Hvw.o;omega) hd).inner s3 (λk hk=>by have:k=w.heap.size+3:=hk;have:=Hvw.o;omega) hd;have hzf:w4.heap.size≤((w5.setCell ⟨w.heap.size+2,0,none⟩ (.slice ra 480 rc)).setCell ⟨w.heap.size+3,0,none⟩ (.int .i64 0)).heap.size:=by simpa[World.setCell] using Nw.size
  obtain⟨wf,Bu⟩:∃wf,(w5.setCell ⟨w.heap.size+2,0,none⟩ (.slice ra 480 rc)).setCell ⟨w.heap.size+3,0,none⟩ (.int .i64 0)=wf:=⟨_,rfl⟩
  rw[Bu] at t3 u2 u0 u1 ub mf Yl Im hqf hzf ⊢;have v0:=u0.cell 0;have v1:=u1.cell 0;have v6:=ub.cell 6;simp only[jA,zf,zi] at v0 v1 v6;have I7:(iM (λ_=>none) id (some (.agg #[])) id).isSome=true:=by simp[iM]
  have aai:iM (iM (λ_=>none) id (some (.agg #[]))) id none=λ_=>(none:Option Value):=by
   funext k;unfold iM
   split<;>rfl
  have HU:=U (And.intro u2 (And.intro t3 (And.intro mf (And.intro Yl (And.intro Im (And.intro hqf hzf))))));clear t2 s2 r3' s3 u0 u1 ub m5 Bu r2 r3 e0 e1 e2 r2c r2f r3c r3f iX;refine leaves_cons (f:=361) (args:=#[.pointer (some ⟨w.heap.size,0,none⟩),.pointer (some ⟨w.heap.size+1,0,none⟩),.pointer (some ⟨w.heap.size+2,0,none⟩),.pointer (some ⟨w.heap.size+3,0,none⟩)]) sQ (by simp[go_sem]) ?_;refine(Nu (p:=⟨w.heap.size+2,0,none⟩) (q:=⟨w.heap.size+3,0,none⟩) v0 v1 v6 mf hi4 I7).mono ?_;rintro e u' w6 ⟨rfl,rfl,hM6,xL⟩;obtain⟨u2,t3,mf,Yl,Im,hqf,hzf⟩:=HU.o;rw[aai] at hM6;have aiC:bF w6 m3 0 (λ_=>none):=by
   have:(if((λ_=>none:Nat→Option Value) id).isSome then 0 else 0+1) - 1=0:=sQ
   simpa using hM6
  have y2:=(u2.step xL (λe=>Ai e.symm)).cell 0;have y3:=(t3.step xL (λe=>Gc e.symm)).cell 0;simp only[zf,zk] at y2 y3;have hq6:=hqf.inner xL (λk hk=>by have:k=m3:=hk;subst this;exact(GH.o.lt _ vX.o.2).1) hd;have xK:∀k,k<w3.heap.size→k≠m3→k≠d→k≠w.heap.size+2→k≠w.heap.size+3→w6.heap[k]? =w3.heap[k]?:=λk g1 g2 g3 g4 g5=>(xL.keep k oQ (.inl g2)).trans (Im k g1 g2 g3 g4 g5);have U5:=xL.size;have hA6:fQ v w6 b sp d C L F3 pw sw pt st (some m3) T:=GH.o.asked' (λk hk U_=>xK k (GH.o.lt k hk).2 U_ (by have:=(GH.o.lt k hk).1;omega) (Nv k hk).1 (Nv k hk).2) aiC hq6 oQ;have aiD:=Yl.step xL;have hT6:Turn v.heap.size F w F3 w6:=⟨oQ,λk g1 g2 g3=>(xK k oQ (λe=>aix.elim (λh=>g3 (e▸h)) (λh=>oQ)) oQ oQ oQ).trans (jo.o.keep k g1 g2 g3),jo.o.new⟩
  simp[Leaves,settle,results,Tryz.results321,go_sem,y2,y3];exact⟨aiD,some m3,F3,hA6,hT6⟩
 ·obtain⟨m3,dP⟩:∃m3,m3=m:=⟨_,rfl⟩
  subst dP;obtain⟨w3,gV⟩:∃w3,w3=w2:=⟨_,rfl⟩
  subst gV;obtain⟨F3,EB⟩:∃F3,F=F3:=⟨_,rfl⟩
  have A3:=H2.o;rw[EB] at A3;obtain⟨LC,uh⟩:=A3.aag;have aix:F m3∨w.heap.size≤m3:=.inl (by rw[EB];exact LC);have Nv:∀k,F3 k→k≠w.heap.size+2∧k≠w.heap.size+3:=λk hk=>by
   rw[←EB] at hk;have:=(h0 k hk).2;omega
  have X3:ah w3 w.heap.size 83 [.pointer (some ⟨b,0,none⟩)]∧ah w3 (w.heap.size+1) 3 [.int .i64 id]∧ah w3 (w.heap.size+2) 22 [.slice none 0 0]∧ah w3 (w.heap.size+3) 26 [.int .i64 0]:=
   ⟨HX.o.1.below bH.o,HX.o.2.1.below bH.o,HX.o.2.2.1.below bH.o,HX.o.2.2.2.below bH.o⟩
  have jo:=U (show Turn v.heap.size F w F3 w3 from((Turn.of_below Ef.o _ F).trans (Turn.of_below bH.o _ F)).to (λk hk=>by rw[←EB] at hk;exact .inl hk));clear EB;have I6:=A3.quiet;have Ih:=A3.cells;obtain⟨w4,hr4,hM4,BS⟩:=(uh.below (zn _ _).drew).store (t:=71) Tryz.underlying71 (by unfold maxLen;omega) id (by unfold fZ;omega) (.agg #[]);have iI:Step (· =m3) w3 (· =m3) w4:=(Step.drew _ _).trans ((uh.below (zn _ _).drew).turn BS);have Ah:=iI.size;have mF:=jo.o.size;have auo:=Ih.lt;have M9:m3≠b:=uh.fE Ih;have hd4:=Ih.step iI (λe=>M9 e.symm);have x04:=X3.1.step iI (λe=>uh.fE X3.1 e.symm);have x14:=X3.2.1.step iI (λe=>uh.fE X3.2.1 e.symm);have x24:=X3.2.2.1.step iI (λe=>uh.fE X3.2.2.1 e.symm);have x34:=X3.2.2.2.step iI (λe=>uh.fE X3.2.2.2 e.symm);have z0:=X3.1.cell 0;have z1:=X3.2.1.cell 0;have z6:=Ih.cell 6;simp only[jA,zf,zi] at z0 z1 z6;have GH:=U A3;have vX:=U (And.intro uh LC);have rW:=U (And.intro x04 (And.intro x14 (And.intro x24 x34)));have Gg:=U hM4;have JM:=U iI;have M4:=U hd4;clear A3 uh LC X3 I6 Ih BS hM4 iI hd4 x04 x14 x24 x34;go_wp2_with fail;refine wp_region_noPanic ?_;refine ak (S:=(λW=>W.cell? ⟨w.heap.size,0,none⟩=some (.pointer (some ⟨b,0,none⟩))∧W.cell? ⟨w.heap.size+1,0,none⟩=some (.int .i64 id)∧W.cell? ⟨b,6,none⟩=some (.map (some m3)))) (m:=6) kQ ⟨z0,z1,z6⟩ (λaj=>?_);refine te 0 aj ?_;refine te 1 aj ?_;refine te 2 aj ?_;refine te 3 aj ?_;refine te 4 aj ?_;refine te 5 aj ?_;refine rE 6 λK hK=>?_;go_simp;refine kX hK ?_;clear hK K
  try simp only[Act.put,zh,zk,zl]
  refine aD ?_;go_wp2_with fail;have hq4:Quiet d v w4:=GH.o.quiet.inner JM.o (λk hk=>by have:k=m3:=hk;subst this;exact(GH.o.lt _ vX.o.2).1) hd;have xG:=hS.quiet (hq4.trans (Quiet.of_below (zn _ _).drew));obtain⟨j,cj,_,_⟩:=xG.cell0;have hrm:(method 547 76 (.pointer (some ⟨sp,0,none⟩)) "Read").run Tryz.prog w4.drew=.ok (114,.pointer (some ⟨j,0,none⟩)) w4.drew:=TF cj 546;have k0:=rW.o.1.cell 0;have k1:=rW.o.2.1.cell 0;have k2:=M4.o.cell 0;simp only[jA,zf,zi] at k0 k1 k2;have aiz:=U xG;have HQ4:=U hq4;clear xG hq4 z0 z1 z6;refine wp_region_noPanic ?_;refine ak (S:=(λW=>W.cell? ⟨w.heap.size,0,none⟩=some (.pointer (some ⟨b,0,none⟩))∧W.cell? ⟨w.heap.size+1,0,none⟩=some (.int .i64 id)∧W.cell? ⟨b,0,none⟩=some (.iface 76 (.pointer (some ⟨sp,0,none⟩))))) (m:=8) kQ ⟨k0,k1,k2⟩ (λaj=>?_);refine te 0 aj ?_;refine te 1 aj ?_;refine te 2 aj ?_;refine te 3 aj ?_;refine te 4 aj ?_;refine rE 5 λK hK=>?_;go_simp;go_wp2_with fail;refine(TA aiz.o cj id hi).mono ?_;rintro e w5 ⟨⟨ra,rc,rfl,kS⟩,Nw⟩;have iX:∀k,v.heap.size≤k→k<w4.heap.size→w5.heap[k]? =w4.heap[k]?:=λk h1 h2=>Nw.keep k h2 oQ;have Pq:=Hvw.o;have r2:ah w5 (w.heap.size+2) 22 [.slice none 0 0]:=(iX _ oQ rW.o.2.2.1.lt).trans rW.o.2.2.1;have r3:ah w5 (w.heap.size+3) 26 [.int .i64 0]:=(iX _ oQ rW.o.2.2.2.lt).trans rW.o.2.2.2;have e0:ah w5 w.heap.size 83 [.pointer (some ⟨b,0,none⟩)]:=(iX _ oQ rW.o.1.lt).trans rW.o.1;have e1:ah w5 (w.heap.size+1) 3 [.int .i64 id]:=(iX _ oQ rW.o.2.1.lt).trans rW.o.2.1;have e2:ah w5 b 191 (jA sp pw sw pt st (some m3)):=(iX _ (h0 b lJ).1 M4.o.lt).trans M4.o;have r2c:=r2.cell 0;have r2f:=r2.free 0;have r3c:=r3.cell 0;have r3f:=r3.free 0;simp only[zf] at r2c r3c;go_wp2_with fail;refine hK.out _ _ (λ_=>⟨e0.cell 0,e1.cell 0,e2.cell 0⟩) (λhS=>?_);have bQ:=hS dQ;clear hS hK K
  try simp only[Act.put,zh,zk,zl]
  refine te 6 bQ ?_;refine te 7 bQ ?_;refine rE 8 λK hK=>?_;go_simp;refine kX hK ?_;clear hK K
  try simp only[Act.put,zh,zk,zl]
  refine rE 9 λK hK=>?_;go_simp;refine kX hK ?_;clear hK K
  try simp only[Act.put,zh,zk,zl]
  refine aD ?_;go_wp2_with fail;have t2:=r2.aB 0 (.slice ra 480 rc);have s2:=Step.set1 (r2.aV dQ) 0 (.slice ra 480 rc);have r3':=r3.step s2 oQ;have t3:=r3'.aB 0 (.int .i64 0);have s3:=Step.set1 (r3'.aV dQ) 0 (.int .i64 0);have u2:=t2.step s3 oQ;have u0:=(e0.step s2 oQ).step s3 oQ;have u1:=(e1.step s2 oQ).step s3 oQ;have GI:b<w.heap.size:=(h0 b lJ).2;have ub:=(e2.step s2 oQ).step s3 oQ;have m5:bF w5 m3 _ _:=Gg.o.block (iX m3 (GH.o.lt m3 vX.o.2).1 Gg.o.lt);have Ai:m3≠w.heap.size+2:=λe=>m5.fE r2 e;have Gc:m3≠w.heap.size+3:=λe=>m5.fE r3 e;have mf:=(m5.step s2 oQ).step s3 oQ;have Yl:=(kS.step s2).step s3;have Im:∀k,k<w3.heap.size→k≠m3→k≠d→k≠w.heap.size+2→k≠w.heap.size+3→((w5.setCell ⟨w.heap.size+2,0,none⟩ (.slice ra 480 rc)).setCell ⟨w.heap.size+3,0,none⟩ (.int .i64 0)).heap[k]? =w3.heap[k]?:=λk g1 g2 g3 g4 g5=>by
   rw[zI _ _ _ _ g5,zI _ _ _ _ g4];exact(Nw.keep k (zx g1 Ah) g3).trans (JM.o.keep k g1 (.inl g2))
  have hqf:=(((HQ4.o.trans (Quiet.of_below (zn _ _).drew)).trans Nw).inner s2 (λk hk=>by have:k=w.heap.size+2:=hk;have:=Hvw.o;omega) hd).inner s3 (λk hk=>by have:k=w.heap.size+3:=hk;have:=Hvw.o;omega) hd;have hzf:w4.heap.size≤((w5.setCell ⟨w.heap.size+2,0,none⟩ (.slice ra 480 rc)).setCell ⟨w.heap.size+3,0,none⟩ (.int .i64 0)).heap.size:=by simpa[World.setCell] using Nw.size
  obtain⟨wf,Bu⟩:∃wf,(w5.setCell ⟨w.heap.size+2,0,none⟩ (.slice ra 480 rc)).setCell ⟨w.heap.size+3,0,none⟩ (.int .i64 0)=wf:=⟨_,rfl⟩
  rw[Bu] at t3 u2 u0 u1 ub mf Yl Im hqf hzf ⊢;have v0:=u0.cell 0;have v1:=u1.cell 0;have v6:=ub.cell 6;simp only[jA,zf,zi] at v0 v1 v6;have I7:(iM (λ_=>none) id (some (.agg #[])) id).isSome=true:=by simp[iM]
  have aai:iM (iM (λ_=>none) id (some (.agg #[]))) id none=λ_=>(none:Option Value):=by
   funext k;unfold iM
   split<;>rfl
  have HU:=U (And.intro u2 (And.intro t3 (And.intro mf (And.intro Yl (And.intro Im (And.intro hqf hzf))))));clear t2 s2 r3' s3 u0 u1 ub m5 Bu r2 r3 e0 e1 e2 r2c r2f r3c r3f iX;refine leaves_cons (f:=361) (args:=#[.pointer (some ⟨w.heap.size,0,none⟩),.pointer (some ⟨w.heap.size+1,0,none⟩),.pointer (some ⟨w.heap.size+2,0,none⟩),.pointer (some ⟨w.heap.size+3,0,none⟩)]) sQ (by simp[go_sem]) ?_;refine(Nu (p:=⟨w.heap.size+2,0,none⟩) (q:=⟨w.heap.size+3,0,none⟩) v0 v1 v6 mf hi4 I7).mono ?_;rintro e u' w6 ⟨rfl,rfl,hM6,xL⟩;obtain⟨u2,t3,mf,Yl,Im,hqf,hzf⟩:=HU.o;rw[aai] at hM6;have aiC:bF w6 m3 0 (λ_=>none):=by
   have:(if((λ_=>none:Nat→Option Value) id).isSome then 0 else 0+1) - 1=0:=sQ
   simpa using hM6
  have y2:=(u2.step xL (λe=>Ai e.symm)).cell 0;have y3:=(t3.step xL (λe=>Gc e.symm)).cell 0;simp only[zf,zk] at y2 y3;have hq6:=hqf.inner xL (λk hk=>by have:k=m3:=hk;subst this;exact(GH.o.lt _ vX.o.2).1) hd;have xK:∀k,k<w3.heap.size→k≠m3→k≠d→k≠w.heap.size+2→k≠w.heap.size+3→w6.heap[k]? =w3.heap[k]?:=λk g1 g2 g3 g4 g5=>(xL.keep k oQ (.inl g2)).trans (Im k g1 g2 g3 g4 g5);have U5:=xL.size;have hA6:fQ v w6 b sp d C L F3 pw sw pt st (some m3) T:=GH.o.asked' (λk hk U_=>xK k (GH.o.lt k hk).2 U_ (by have:=(GH.o.lt k hk).1;omega) (Nv k hk).1 (Nv k hk).2) aiC hq6 oQ;have aiD:=Yl.step xL;have hT6:Turn v.heap.size F w F3 w6:=⟨oQ,λk g1 g2 g3=>(xK k oQ (λe=>aix.elim (λh=>g3 (e▸h)) (λh=>oQ)) oQ oQ oQ).trans (jo.o.keep k g1 g2 g3),jo.o.new⟩
  simp[Leaves,settle,results,Tryz.results321,go_sem,y2,y3];exact⟨aiD,some m3,F3,hA6,hT6⟩
end
end
section
open Go.RowKit Go.Shelf O
structure Mv (d:Nat) (v:World) (F:Nat→Prop) (w:World) (F':Nat→Prop) (w':World):Prop where
 dev:∃vs,ah v d 74 vs
 q:Quiet d v w
 q':Quiet d v w'
 lt:∀k,F k→v.heap.size≤k∧k<w.heap.size
 lt':∀k,F' k→v.heap.size≤k∧k<w'.heap.size
 turn:Turn v.heap.size F w F' w'
section
variable {d:Nat} {F F' F'' G G':Nat→Prop} {v w w' w'':World}
theorem Mv.size (h:Mv d v F w F' w'):w.heap.size≤w'.heap.size:=h.turn.size
theorem Mv.vs (h:Mv d v F w F' w'):v.heap.size≤w.heap.size:=h.q.size
theorem Mv.yE (h:Mv d v F w F' w'):d<v.heap.size:=by
 obtain⟨vs,hv⟩:=h.dev;exact hv.lt
theorem Mv.keep (h:Mv d v F w F' w') {k:Nat} (hk:k<w.heap.size) (hd:k≠d) (hn:¬F k):w'.heap[k]? =w.heap[k]?:=by
 by_cases hv:k<v.heap.size
 ·rw[h.q'.keep k hv hd,h.q.keep k hv hd]
 ·exact h.turn.keep k oQ hk hn
theorem Mv.refl (j_:∃vs,ah v d 74 vs) (hq:Quiet d v w) (hl:∀k,F k→v.heap.size≤k∧k<w.heap.size):Mv d v F w F w:=⟨j_,hq,hq,hl,hl,Turn.refl _ _ _⟩
theorem Mv.trans (h:Mv d v F w F' w') (k:Mv d v F' w' F'' w''):Mv d v F w F'' w'':=⟨h.dev,h.q,k.q',h.lt,k.lt',h.turn.trans k.turn⟩
theorem Mv.below (h:Mv d v F w F' w') (hB:Below w'.heap.size w' w''):Mv d v F w F' w'':=⟨h.dev,h.q,h.q'.trans (Quiet.of_below hB),h.lt,λk hk=>⟨(h.lt' k hk).1,zx (h.lt' k hk).2 hB.size⟩,h.turn.trans (Turn.of_below hB _ _)⟩
theorem Mv.of_below (j_:∃vs,ah v d 74 vs) (hq:Quiet d v w) (hl:∀k,F k→v.heap.size≤k∧k<w.heap.size) (hB:Below w.heap.size w w'):Mv d v F w F w':=(Mv.refl j_ hq hl).below hB
theorem Mv.mk' (j_:∃vs,ah v d 74 vs) (hq:Quiet d v w) (Ym:Quiet d v w') (hl:∀k,F k→v.heap.size≤k∧k<w.heap.size) (hl':∀k,F' k→v.heap.size≤k∧k<w'.heap.size) (ht:Turn v.heap.size F w F' w'):Mv d v F w F' w':=⟨j_,hq,Ym,hl,hl',ht⟩
theorem Mv.more (h:Mv d v F w F' w') (h1:∀k,F k→G k) (hG:∀k,G k→v.heap.size≤k∧k<w.heap.size) (h2:∀k,G' k→G k∨F' k∨w.heap.size≤k∧k<w'.heap.size):Mv d v G w G' w':=by
 have hs:=h.size;have tF:=h.vs;refine⟨h.dev,h.q,h.q',hG,λk hk=>?_,h.turn.more h1 (λk hk=>?_)⟩
 ·rcases h2 k hk with h3|h3|h3
  ·have:=hG k h3
   exact⟨this.1,oQ⟩
  ·exact h.lt' k h3
  ·exact⟨oQ,h3.2⟩
 ·rcases h2 k hk with h3|h3|h3
  ·exact .inl h3
  ·rcases h.turn.new k h3 with h4|h4
   ·exact .inl (h1 k h4)
   ·exact .inr h4
  ·exact .inr h3.1
theorem Mv.Ky (h:Mv d v F w F' w') {b:Nat} {T:TypeId} {C:Array Value} {fr:Nat×Nat} (hb:w.heap[b]? =some (.cells C T fr)) (hT:T≠74):b≠d:=by
 rintro rfl;obtain⟨vs,hv⟩:=h.dev;rcases h.q.dev vs hv with h1|⟨c,h1⟩
 ·unfold ah at h1
  rw[hb] at h1;injection h1 with h1;injection h1 with _ h1;exact hT h1
 ·unfold ah at h1
  rw[hb] at h1;injection h1 with h1;injection h1 with _ h1;exact hT h1
theorem Mv.aW (h:Mv d v F w F' w') {b:Nat} {T:TypeId} {vs:List Value} (hv:ah w b T vs) (hT:T≠74) (hn:¬F b):ah w' b T vs:=(h.keep hv.lt (h.Ky hv hT) hn).trans hv
theorem Mv.pR (h:Mv d v F w F' w') {a:Option Addr} {l:Bytes} (hb:cZ w a l) (hn:∀g o,a=some ⟨g,o,none⟩→¬F g):cZ w' a l:=by
 rcases hb with hb|⟨g,o,C,fr,rfl,h1,h2⟩
 ·exact .inl hb
 ·exact .inr ⟨g,o,C,fr,rfl,(h.keep (zo.1 h1).1 (h.Ky h1 (λe=>Fr.no e.symm dQ)) (hn g o rfl)).trans h1,h2⟩
theorem Mv.own (h:Mv d v F w F' w') {e:TypeId} (he:e≠74) {base c:Nat} {A:Option Addr} {xs:List Value} (ho:Own e base w A c xs) (hn:∀g,A=some ⟨g,0,none⟩→¬F g):Own e base w' A c xs:=by
 refine⟨ho.1,?_⟩;rcases ho.2 with h1|⟨g,cap,cur,hv,FW,hg,rest⟩
 ·exact .inl h1
 ·injection hv with hv _ _
  subst hv;exact .inr ⟨g,cap,cur,by simp_all,FW,(h.keep (zo.1 hg).1 (h.Ky hg he) (hn g rfl)).trans hg,rest⟩
theorem Mv.apart (h:Mv d v F w F' w') {b:Nat} (hb:b<w.heap.size) (hn:¬F b):¬F' b:=h.turn.apart hb hn
theorem Mv.after (hB:Below w.heap.size w w') (k:Mv d v F w' F' w'') (hq:Quiet d v w) (hl:∀k,F k→k<w.heap.size):Mv d v F w F' w'':=⟨k.dev,hq,k.q',λi hi=>⟨(k.lt i hi).1,hl i hi⟩,k.lt',(Turn.of_below hB _ _).trans k.turn⟩
theorem Quiet.kept {r:Nat} (h:Quiet d v w) (hk:Kept r w w') (hr:v.heap.size≤r) (hd:d<v.heap.size):Quiet d v w':=by
 have hb:=hk.below 0 (ql _) (ql _);have hn:∀k,k<v.heap.size→w'.heap[k]? =w.heap[k]?:=λk eO=>hk.block k (zx eO h.size) oQ;refine⟨hb.os.trans h.os,hb.tape.trans h.tape,hb.output.trans h.output,zC h.size hk.size,λk hk dV=>(hn k hk).trans (h.keep k hk dV),λvs hv=>?_⟩;rcases h.dev vs hv with h1|⟨x,h1⟩
 ·exact .inl ((hn d hd).trans h1)
 ·exact .inr ⟨x,(hn d hd).trans h1⟩
theorem Mv.kept (h:Mv d v F w F' w') {r:Nat} (hk:Kept r w' w'') (hr:F' r∨w.heap.size≤r):Mv d v F w F' w'':=by
 have hvr:v.heap.size≤r:=by
  rcases hr with hr|hr
  ·exact(h.lt' r hr).1
  ·exact zC h.vs hr
 refine⟨h.dev,h.q,h.q'.kept hk hvr h.yE,h.lt,λk eO=>⟨(h.lt' k eO).1,zx (h.lt' k eO).2 hk.size⟩,⟨zC h.size hk.size,λk hb eO hn=>?_,h.turn.new⟩⟩;refine(hk.block k (zx eO h.size) ?_).trans (h.turn.keep k hb eO hn);rintro rfl;rcases hr with hr|hr
 ·rcases h.turn.new k hr with h1|h1
  ·exact hn h1
  ·omega
 ·omega
theorem Mv.step (h:Mv d v F w F' w') (hs:Step G w' G' w'') (hG:∀k,G k→v.heap.size≤k∧(F' k∨w.heap.size≤k)):Mv d v F w F' w'':=by
 refine⟨h.dev,h.q,h.q'.inner hs (λk hk=>(hG k hk).1) h.yE,h.lt,λk eO=>⟨(h.lt' k eO).1,zx (h.lt' k eO).2 hs.size⟩,⟨zC h.size hs.size,λk hb eO hn=>?_,h.turn.new⟩⟩;refine(hs.keep k (zx eO h.size) (.inl λhg=>?_)).trans (h.turn.keep k hb eO hn);rcases(hG k hg).2 with hr|hr
 ·rcases h.turn.new k hr with h1|h1
  ·exact hn h1
  ·omega
 ·omega
end
end
end Go.Proofs.YtdjdpeadohobmaaGreatDoor
