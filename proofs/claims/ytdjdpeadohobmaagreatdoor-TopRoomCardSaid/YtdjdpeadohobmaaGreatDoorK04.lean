/- A part of the walk below the law: what is proved here is used by later parts; no further condition. -/
import Derived.Deep.RegionHeld3
import Derived.Maps.OwnSet
import Derived.Outline
import Derived.Test.YtdjdpeadohobmaaGreatDoorK02
import Derived.Test.YtdjdpeadohobmaaGreatDoorK03
import Derived.Test.YtdjdpeadohobmaaGreatDoorProg
set_option linter.unusedVariables false
set_option linter.unusedSimpArgs false
set_option maxRecDepth 100000
set_option maxHeartbeats 20000000
namespace Go.Proofs.YtdjdpeadohobmaaGreatDoor
section
open Go.RowKit Go.Maps
abbrev Wt:=List (Nat×Bytes)
def view (st:Nat→Bytes) (wt:Wt) (i:Nat):Bytes:=match wt.reverse.find? (λe=>e.1==i) with|some e=>e.2|none=>st i
theorem oN (st:Nat→Bytes):view st []=st:=rfl
theorem mE (st:Nat→Bytes) (wt:Wt) (at_:Nat) (b:Bytes) (i:Nat):view st (wt++[(at_,b)]) i=if at_=i then b else view st wt i:=by
 unfold view;rw[List.reverse_append,List.reverse_singleton,List.singleton_append,List.find?_cons];by_cases h:at_=i
 ·simp[h]
 ·have h2:(at_==i)=false:=by simp[h]
  simp only[h2,h,if_false]
def adi (w:World) (v:Value) (l:Bytes):Prop:=(v=.slice none 0 0∧l=zeros 512)∨∃a,v=.slice a 512 512∧l.length=512∧cZ w a l
theorem adi.step {F F':Nat→Prop} {w w':World} (hs:Step F w F' w') {v:Value} {l:Bytes} (h:adi w v l):adi w' v l:=by
 rcases h with h|⟨a,h1,h2,h3⟩
 ·exact .inl h
 ·exact .inr ⟨a,h1,h2,h3.step hs⟩
def WtV (w:World) (wt:Wt) (xs:List Value):Prop:=∀i (h:i<wt.length),xs[2*i]? =some (.int .i64 wt[i].1)∧∃a,xs[2*i+1]? =some (.slice a 512 512)∧wt[i].2.length=512∧cZ w a wt[i].2
theorem WtV.step {F F':Nat→Prop} {w w':World} (hs:Step F w F' w') {wt:Wt} {xs:List Value} (h:WtV w wt xs):WtV w' wt xs:=λi hi=>by
 obtain⟨h1,a,h2,h3,h4⟩:=h i hi;exact⟨h1,a,h2,h3,h4.step hs⟩
def oz (sb n:Nat) (vw:Value) (tb:Nat) (cr cw cf:Int) (dn:Bool):List Value:=
 [.slice (some ⟨sb,0,none⟩) n n,vw,.map (some tb),.int .i64 cr,.int .i64 cw,.int .i64 cf,.bool dn,.bool false,.int .i64 0,.slice none 0 0]
abbrev rG (w:World) (tb:Nat):Prop:=w.ownsMap Tryz.prog 3 (unitElem (H:=Unit)) tb 0 (.map [])
structure iG (w:World) (d n:Nat) (st:Nat→Bytes) (wt:Wt) (dn:Bool) (F:Nat→Prop) (sb:Nat) (ss:List Value) (vw:Value) (xs:List Value) (tb:Nat) (cr cw cf:Int):Prop where
 cells:ah w d 74 (oz sb n vw tb cr cw cf dn)
 row:ah w sb 22 ss
 len:ss.length=n
 secs:∀i v,ss[i]? =some v→adi w v (st i)
 wait:w.ownsRow 0 97 2 vw wt.length xs
 waits:WtV w wt xs
 tT:rG w tb
 own:F d∧F sb∧F tb∧∀g,vw.ownBlock=some g→F g
 lt:∀k,F k→k<w.heap.size
 few:wt.length≤1000000∧1≤n∧n≤20000
def Dev (w:World) (d n:Nat) (st:Nat→Bytes) (wt:Wt) (dn:Bool) (F:Nat→Prop):Prop:=∃sb ss vw xs tb cr cw cf,iG w d n st wt dn F sb ss vw xs tb cr cw cf
theorem ah.step {F F':Nat→Prop} {w w':World} {b:Nat} {T:TypeId} {vs:List Value} (h:ah w b T vs) (hs:Step F w F' w') (hn:¬F b):ah w' b T vs:=hs.aW h hn
structure Quiet (d:Nat) (w w':World):Prop where
 os:w'.os=w.os
 tape:w'.tape=w.tape
 output:w'.output=w.output
 size:w.heap.size≤w'.heap.size
 keep:∀k,k<w.heap.size→k≠d→w'.heap[k]? =w.heap[k]?
 dev:∀vs,ah w d 74 vs→ah w' d 74 vs∨∃c:Int,ah w' d 74 (vs.set 3 (.int .i64 c))
theorem Quiet.of_below {d:Nat} {w w':World} (h:Below w.heap.size w w'):Quiet d w w':=⟨h.os,h.tape,h.output,h.size,λk hk _=>h.block k hk,λvs hv=>.inl (hv.below h)⟩
theorem Quiet.refl (d:Nat) (w:World):Quiet d w w:=Quiet.of_below (zn _ _)
theorem Quiet.trans {d:Nat} {a b c:World} (h:Quiet d a b) (k:Quiet d b c):Quiet d a c:=by
 refine⟨k.os.trans h.os,k.tape.trans h.tape,k.output.trans h.output,zC h.size k.size,λi hi hn=>(k.keep i (zx hi h.size) hn).trans (h.keep i hi hn),λvs hv=>?_⟩;rcases h.dev vs hv with h1|⟨x,h1⟩
 ·exact k.dev vs h1
 ·rcases k.dev _ h1 with h2|⟨y,h2⟩
  ·exact .inr ⟨x,h2⟩
  ·rw[List.set_set] at h2
   exact .inr ⟨y,h2⟩
theorem Quiet.count (d:Nat) (w:World) (c:Int):Quiet d w (w.setCell ⟨d,3,none⟩ (.int .i64 c)):=
 ⟨rfl,rfl,rfl,by simp[World.setCell],λk hk hn=>zI _ _ _ _ hn,λvs hv=>.inr ⟨c,hv.aB 3 _⟩⟩
theorem Quiet.inner {d:Nat} {G G':Nat→Prop} {w w0 w':World} (h:Quiet d w w0) (hs:Step G w0 G' w') (hG:∀k,G k→w.heap.size≤k) (hd:d<w.heap.size):Quiet d w w':=by
 have hn:∀k,k<w.heap.size→w'.heap[k]? =w0.heap[k]?:=λk hk=>hs.keep k (zx hk h.size) (.inl λhg=>by have:=hG k hg;omega);refine⟨hs.os.trans h.os,hs.tape.trans h.tape,hs.output.trans h.output,zC h.size hs.size,λk hk dV=>(hn k hk).trans (h.keep k hk dV),λvs hv=>?_⟩;rcases h.dev vs hv with h1|⟨x,h1⟩
 ·exact .inl ((hn d hd).trans h1)
 ·exact .inr ⟨x,(hn d hd).trans h1⟩
theorem iG.step {G G':Nat→Prop} {w w':World} (hs:Step G w G' w') {d n:Nat} {st:Nat→Bytes} {wt:Wt} {dn:Bool} {F:Nat→Prop} {sb:Nat} {ss:List Value} {vw:Value} {xs:List Value} {tb:Nat} {cr cw cf:Int}
  (h:iG w d n st wt dn F sb ss vw xs tb cr cw cf) (hn:∀k,F k→¬G k):iG w' d n st wt dn F sb ss vw xs tb cr cw cf where
 cells:=h.cells.step hs (hn _ h.own.1)
 row:=h.row.step hs (hn _ h.own.2.1)
 len:=h.len
 secs:=λi v hv=>(h.secs i v hv).step hs
 wait:=aC hs h.wait (λg hg=>hn _ (h.own.2.2.2 g hg))
 waits:=h.waits.step hs
 tT:=by
  obtain⟨es,clock,hb,r⟩:=h.tT;exact⟨es,clock,(hs.keep tb (zo.1 hb).1 (.inl (hn _ h.own.2.2.1))).trans hb,r⟩
 own:=h.own
 lt:=λk hk=>zx (h.lt k hk) hs.size
 few:=h.few
theorem Dev.step {G G':Nat→Prop} {w w':World} (hs:Step G w G' w') {d n:Nat} {st:Nat→Bytes} {wt:Wt} {dn:Bool} {F:Nat→Prop} (h:Dev w d n st wt dn F) (hn:∀k,F k→¬G k):Dev w' d n st wt dn F:=by
 obtain⟨sb,ss,vw,xs,tb,cr,cw,cf,h⟩:=h;exact⟨sb,ss,vw,xs,tb,cr,cw,cf,h.step hs hn⟩
theorem LQ {w:World} {tb:Nat} (h:rG w tb):¬B8 w tb:=by
 obtain⟨es,clock,hb,_⟩:=h;rintro⟨C,fr,h2⟩;rw[hb] at h2;cases h2
end
section
open Go.RowKit
theorem SF:jC Tryz.prog 22 5 (.int .u8 0) 1:=⟨Tryz.underlying22,kQ,rfl⟩
theorem iG.h_ {w:World} {d n:Nat} {st:Nat→Bytes} {wt:Wt} {dn:Bool} {F:Nat→Prop} {sb:Nat} {ss:List Value} {vw:Value} {xs:List Value} {tb:Nat} {cr cw cf:Int}
  (h:iG w d n st wt dn F sb ss vw xs tb cr cw cf) (i:Nat):w.cell? ⟨d,i,none⟩=(oz sb n vw tb cr cw cf dn)[i]?:=h.cells.cell i
theorem kK {w:World} {d n:Nat} {st:Nat→Bytes} {wt:Wt} {dn:Bool} {F:Nat→Prop} (h:Dev w d n st wt dn F):
  Calls Tryz.prog 48 #[.pointer (some ⟨d,0,none⟩)] w λe w'=>e=.returned (.int .i64 n)∧w=w':=by
 obtain⟨sb,ss,vw,xs,tb,cr,cw,cf,h⟩:=h;have c0:=h.h_ 0;simp only[oz,zf] at c0;clear h;go_enter Tryz.func48,Tryz.ntmps48;go_wp2;go_ret;exact⟨rfl,rfl⟩
theorem SG {w:World} {d n:Nat} {st:Nat→Bytes} {wt:Wt} {dn:Bool} {F:Nat→Prop} (h:Dev w d n st wt dn F) (i:Int) (h0:0≤i) (h1:i<n):
  Calls Tryz.prog 188 #[.pointer (some ⟨d,0,none⟩),.int .i64 i] w λe w'=>e=.returned (.bool true)∧w=w':=by
 have H:=U h;clear h;go_enter Tryz.func188,Tryz.ntmps188;go_wp2_with fail;refine(kK H.o).mono ?_;rintro e w' ⟨rfl,rfl⟩;go_wp2;go_ret;exact⟨rfl,rfl⟩
theorem Dw {w:World} {d n:Nat} {st:Nat→Bytes} {wt:Wt} {F:Nat→Prop} (h:Dev w d n st wt false F):
  Calls Tryz.prog 117 #[.pointer (some ⟨d,0,none⟩)] w λe w'=>e=.returned (.int .i64 0)∧w=w':=by
 obtain⟨sb,ss,vw,xs,tb,cr,cw,cf,h⟩:=h;have c4:=h.h_ 6;have c5:=h.h_ 7;simp only[oz,zf,zi] at c4 c5;clear h;go_enter Tryz.func117,Tryz.ntmps117;go_wp2;go_ret;exact⟨rfl,rfl⟩
theorem wH {w:World} {a:Option Addr} {l:Bytes} {c n:Nat} (hb:cZ w a l) (hn:l.length=n):
  Calls Tryz.prog 189 #[.slice a n c] w λe w'=>∃g,e=.returned (.slice (some ⟨g,0,none⟩) 512 512)∧w.heap.size≤g∧cZ w' (some ⟨g,0,none⟩) (l.take 512++zeros (512 - n))∧Below w.heap.size w w':=by
 obtain⟨w1,fC,hown,hB,gJ⟩:=eT SF (base:=w.heap.size) (w:=w) .i64 .i64 512 oQ oQ (zm _);obtain⟨w2,hcp,fM,aJ,JL⟩:=LK SF 3 (n:=512) (m:=n) (c2:=c) hown qc ((hb.below hB).is.row) (by rw[zD];exact hn) (eP l);have nO:Own 5 w.heap.size w2 (some ⟨w.heap.size,0,none⟩) 512 ((l.take 512++zeros (512 - n)).map aH):=by
  have e:(l.map aH).take 512++(List.replicate 512 (Value.int .u8 0)).drop n=(l.take 512++zeros (512 - n)).map aH:=by
   rw[zW,List.map_take,zav,eB];rfl
  rw[←e];exact fM
 have HE:=U nO.pR;have HB:=U (hB.trans aJ);have az6:(Instr.makeSlice 22 (.int .i64 512) (.int .i64 512)).run Tryz.prog w=.ok (.slice (some ⟨w.heap.size,0,none⟩) 512 512) w1:=fC;clear hown hB fM aJ JL nO fC hb;go_enter Tryz.func189,Tryz.ntmps189;go_wp2_with (at_builtin;refine wpList_copy_run _ _ hcp rfl rfl rfl rfl ?_);go_ret;exact⟨_,rfl,zm _,HE.o,HB.o⟩
end
section
variable {P:Program} {ops:Array Oper} {Q:Exit→Act→World→Prop} {md:Region.Mode} {S:World→Prop} {m:Nat}
def Any (P:Program) (md:Region.Mode) (ops:Array Oper) (Q:Exit→Act→World→Prop) (S:World→Prop) (m:Nat):Nat→Array Bool→Act→World→Prop
 |0,listed,a,w=>Region.ready md ops listed=[]∧Q .normal a w
 |fuel+1,listed,a,w=>(Region.ready md ops listed=[]→Q .normal a w)∧∀i∈Region.ready md ops listed,wpOp P ops Q i (λa' w'=>(i<m→S w')∧Any P md ops Q S m fuel (listed.setIfInBounds i true) a' w') a w
theorem Ie:∀(fuel:Nat) (listed:Array Bool) (a:Act) (w:World),Any P md ops Q S m fuel listed a w→wpAny P md ops Q fuel listed a w
 |0,_,_,_,h=>h
 |fuel+1,_,_,_,h=>⟨h.1,λi hi=>wpOp_mono (λa' w' h'=>Ie fuel _ a' w' h'.2) (h.2 i hi)⟩
theorem ak {id:Nat} {a:Act} {w:World} (hm:P.follows .mixedOrders=true) (hS:S w.drew) (h:S w.drew→Any P .any ops Q S m ops.size (Array.replicate ops.size false) a w.drew):(Code.region id ops true).wp P Q a w:=
 wp_region_any hm (Ie _ _ _ _ (h hS))
theorem Uv {md:Region.Mode} {ops:Array Oper} {listed:Array Bool} {i j:Nat} {oj:Oper} (hi:i∈Region.ready md ops listed) (hj:j∈Region.ready md ops listed) (hoj:ops[j]? =some oj):∀e∈oj.after,Region.binds md e=true→e.on≠i:=by
 obtain⟨_,o,ho,iw⟩:=mem_ready.1 hj;rw[hoj] at ho;cases ho;intro e he hb heq;have h1:=iw e he hb;have h0:=(mem_ready.1 hi).1;rw[heq] at h1;rcases Nat.lt_or_ge i listed.size with h'|h'
 ·simp[h'] at h0 h1
  rw[h0] at h1;cases h1
 ·simp[Array.getElem?_eq_none h'] at h1
theorem Ig {i:Nat} {oi:Oper} {v:Value} (hi:ops[i]? =some oi) (alC:∀(j:Nat) (o:Oper) cs b,ops[j]? =some o→o.op≠.select cs b) (hQ:∀c a w,Q (.panic c) (a.put oi.dst v) w→Q (.panic c) a w)
  (T:World→Prop) (afJ:(m≤i∧∀w,T w)∨((∀w,S w→T w)∧∀j oj,ops[j]? =some oj→m≤j→j≠i→∃e∈oj.after,Region.binds md e=true∧e.on=i)):
  ∀(fuel:Nat) (listed:Array Bool) (a:Act) (w:World),(∀j oj,ops[j]? =some oj→j≠i→listed.getD j true=false→(∀e∈oj.after,Region.binds md e=true→e.on≠i)→oi.apart ops oj=true)→
   i∈Region.ready md ops listed→YieldsIf P ops T oi v a→T w→(i<m→S w)→
   Any P md ops Q S m fuel (listed.setIfInBounds i true) (a.put oi.dst v) w→Any P md ops Q S m (fuel+1) listed a w:=by
 intro fuel
 induction fuel with
 |zero=>
  intro listed a w _ hr hy hT hS H;refine⟨λh=>(by rw[h] at hr;cases hr),λj hj=>?_⟩;by_cases oO:j=i
  ·subst oO
   exact hy.wpOp hi hT ⟨hS,H⟩
  ·have:=ready_mono hj oO
   rw[H.1] at this;cases this
 |succ fuel ih=>
  intro listed a w tV hr hy hT hS H;refine⟨λh=>(by rw[h] at hr;cases hr),λj hj=>?_⟩;by_cases oO:j=i
  ·subst oO
   exact hy.wpOp hi hT ⟨hS,H⟩
  ·obtain⟨hun,oj,hoj,_⟩:=mem_ready.1 hj
   have kZ:=Uv hr hj hoj;have Gp:∀w',(j<m→S w')→T w':=λw' hw'=>by
    rcases afJ with⟨_,h⟩|⟨h1,h2⟩
    ·exact h w'
    ·refine h1 w' (hw' ?_)
     apply Classical.byContradiction;intro xW;obtain⟨e,he,hb,heq⟩:=h2 j oj hoj (by omega) oO;exact kZ e he hb heq
   have YJ:∀k ok,ops[k]? =some ok→k≠i→(listed.setIfInBounds j true).getD k true=false→(∀e∈ok.after,Region.binds md e=true→e.on≠i)→oi.apart ops ok=true:=λk ok hk SH hku mW=>by
    refine tV k ok hk SH ?_ mW;by_cases PI:j=k
    ·rw[←PI]
     exact hun
    ·rw[getD_set_ne true PI] at hku
     exact hku
   have h2:=wpOp_putIf hoj (tV j oj hoj oO hun kZ) (λcs b=>alC i oi cs b hi) (λcs b=>alC j oj cs b hoj) hQ hy (H.2 j (ready_mono hj oO));refine wpOp_mono (λa' w' h3=>⟨h3.2.1,?_⟩) h2;have h4:=h3.2.2;rw[Array.setIfInBounds_comm _ _ (Ne.symm oO)] at h4;by_cases hjm:j<m
   ·exact ih _ a' w' YJ (ready_mono hr (Ne.symm oO)) h3.1 (Gp w' h3.2.1) (λ_=>h3.2.1 hjm) h4
   ·rcases afJ with⟨him,_⟩|⟨_,h5⟩
    ·exact ih _ a' w' YJ (ready_mono hr (Ne.symm oO)) h3.1 (Gp w' h3.2.1) (λh=>by omega) h4
    ·obtain⟨e,he,hb,heq⟩:=h5 j oj hoj (by omega) oO
     exact absurd heq (kZ e he hb)
theorem dG {i:Nat} {oi:Oper} {tl:List Oper} (h:ops.toList.drop i=oi::tl):ops[i]? =some oi:=by
 have h1:(ops.toList.drop i)[0]? =some oi:=by rw[h];rfl
 rw[List.getElem?_drop] at h1;simpa using h1
def waits (md:Region.Mode) (ops:Array Oper) (m i:Nat):Bool:=(List.range ops.size).all λj=>j<m||(j==i||match ops[j]? with|some o=>o.after.any (λe=>Region.binds md e&&e.on==i)|none=>true)
theorem PK {i:Nat} (h:waits md ops m i=true):∀j oj,ops[j]? =some oj→m≤j→j≠i→∃e∈oj.after,Region.binds md e=true∧e.on=i:=by
 intro j oj hj hm oO;have bA:j<ops.size:=(Array.getElem?_eq_some_iff.1 hj).1;have h1:=List.all_eq_true.1 h j (List.mem_range.2 bA);rw[hj] at h1;simp only[Bool.or_eq_true,decide_eq_true_eq,beq_iff_eq,Array.any_eq_true'] at h1;rcases h1 with h1|h1|⟨e,he,h1⟩
 ·omega
 ·exact absurd h1 oO
 ·rw[Bool.and_eq_true,beq_iff_eq] at h1
  exact⟨e,he,h1.1,h1.2⟩
theorem ahd {i:Nat} {oi:Oper} {tl:List Oper} {v:Value} {fuel:Nat} {listed:Array Bool} {a:Act} {w:World} (hi:ops.toList.drop i=oi::tl)
  (hs:Region.noSelect ops=true) (hf:Region.free md ops listed i=true) (hr:(Region.ready md ops listed).contains i=true) (hl:waits md ops m i=true)
  (hQ:∀c a w,Q (.panic c) (a.put oi.dst v) w→Q (.panic c) a w) (hS:S w)
  (hw:Region.wanted oi (yielded ops a.tmps)=true) (hy:∀w,S w→(execOp a.eval oi).run P w=.ok (.value v) w)
  (h:Any P md ops Q S m fuel (listed.setIfInBounds i true) (a.put oi.dst v) w):Any P md ops Q S m (fuel+1) listed a w:=
 Ig (dG hi) (Region.noSelect_spec hs) hQ S (.inr ⟨λ_ h=>h,PK hl⟩) fuel listed a w (Region.free_spec (dG hi) hf) (by simpa using hr) (.inl ⟨hw,hy⟩) hS (λ_=>hS) h
theorem oC {i:Nat} {oi:Oper} {tl:List Oper} {v:Value} {fuel:Nat} {listed:Array Bool} {a:Act} {w:World} (hi:ops.toList.drop i=oi::tl)
  (hs:Region.noSelect ops=true) (hf:Region.free md ops listed i=true) (hr:(Region.ready md ops listed).contains i=true) (hl:m≤i)
  (hQ:∀c a w,Q (.panic c) (a.put oi.dst v) w→Q (.panic c) a w)
  (hw:Region.wanted oi (yielded ops a.tmps)=true) (hy:∀w,True→(execOp a.eval oi).run P w=.ok (.value v) w)
  (h:Any P md ops Q S m fuel (listed.setIfInBounds i true) (a.put oi.dst v) w):Any P md ops Q S m (fuel+1) listed a w:=
 Ig (dG hi) (Region.noSelect_spec hs) hQ (λ_=>True) (.inl ⟨hl,λ_=>trivial⟩) fuel listed a w (Region.free_spec (dG hi) hf) (by simpa using hr) (.inl ⟨hw,hy⟩) trivial (λh=>by omega) h
theorem adj {i:Nat} {o:Oper} {tl:List Oper} {fuel:Nat} {listed:Array Bool} {a:Act} {w:World} (hi:ops.toList.drop i=o::tl) (hr:Region.ready md ops listed=[i])
  (h:∀K':Act→World→Prop,Shut (∀a w,(i<m→S w)→((i<m→S w)→Any P md ops Q S m fuel (listed.setIfInBounds i true) a w)→K' a w)→if Region.wanted o (yielded ops a.tmps)=true then Oper.wp P o a w K' Q else K' (a.put o.dst undef) w):
  Any P md ops Q S m (fuel+1) listed a w:=by
 refine⟨λh0=>(by rw[h0] at hr;cases hr),λj hj=>?_⟩;rw[hr] at hj;rcases List.mem_singleton.1 hj with rfl;exact wpOp_step (dG hi) (λK' hK=>h K' (λa w hS hW=>hK a w ⟨hS,hW hS⟩))
theorem gK {i j:Nat} {o p:Oper} {tl tl2:List Oper} {fuel:Nat} {listed:Array Bool} {a:Act} {w:World} (hi:ops.toList.drop i=o::tl) (hj:ops.toList.drop j=p::tl2) (hr:Region.ready md ops listed=[i,j])
  (h:∀K':Act→World→Prop,Shut (∀a w,(i<m→S w)→((i<m→S w)→Any P md ops Q S m fuel (listed.setIfInBounds i true) a w)→K' a w)→if Region.wanted o (yielded ops a.tmps)=true then Oper.wp P o a w K' Q else K' (a.put o.dst undef) w)
  (h2:∀K':Act→World→Prop,Shut (∀a w,(j<m→S w)→((j<m→S w)→Any P md ops Q S m fuel (listed.setIfInBounds j true) a w)→K' a w)→if Region.wanted p (yielded ops a.tmps)=true then Oper.wp P p a w K' Q else K' (a.put p.dst undef) w):
  Any P md ops Q S m (fuel+1) listed a w:=by
 refine⟨λh0=>(by rw[h0] at hr;cases hr),λk hk=>?_⟩;rw[hr] at hk;rcases List.mem_cons.1 hk with rfl|hk
 ·exact wpOp_step (dG hi) (λK' hK=>h K' (λa w hS hW=>hK a w ⟨hS,hW hS⟩))
 ·rcases List.mem_singleton.1 hk with rfl
  exact wpOp_step (dG hj) (λK' hK=>h2 K' (λa w hS hW=>hK a w ⟨hS,hW hS⟩))
theorem YK {listed:Array Bool} {a:Act} {w:World} (hr:Region.ready md ops listed=[]) (h:Q .normal a w):∀fuel,Any P md ops Q S m fuel listed a w
 |0=>⟨hr,h⟩
 |_+1=>⟨λ_=>h,by rw[hr];simp⟩
end
section
variable {P:Program} {ops:Array Oper} {Q:Exit→Act→World→Prop} {md:Region.Mode} {S:World→Prop} {m:Nat}
theorem te (i:Nat) {oi:Oper} {tl:List Oper} {v:Value} {fuel:Nat} {listed:Array Bool} {a a':Act} {w:World} (hS:S w) (h:Any P md ops Q S m fuel (listed.setIfInBounds i true) a' w)
  (hi:ops.toList.drop i=oi::tl:=by rfl) (hs:Region.noSelect ops=true:=by kernel_rfl) (hf:Region.free md ops listed i=true:=by kernel_rfl) (hr:(Region.ready md ops listed).contains i=true:=by kernel_rfl) (hl:waits md ops m i=true:=by kernel_rfl)
  (hQ:∀c a w,Q (.panic c) (a.put oi.dst v) w→Q (.panic c) a w:=by exact λ_ _ _ h=>h)
  (hw:Region.wanted oi (yielded ops a.tmps)=true:=by rfl)
  (hy:∀w,S w→(execOp a.eval oi).run P w=.ok (.value v) w:=by(intro W iR;(try dsimp only at iR);go_simp;(try with_reducible rfl)))
  (ha:a.put oi.dst v=a':=by((try simp only[Act.put,List.setIfInBounds_toArray,List.set_cons_zero,List.set_cons_succ]);rfl)):Any P md ops Q S m (fuel+1) listed a w:=by
 subst ha;exact ahd hi hs hf hr hl hQ hS hw hy h
theorem vF (i:Nat) {oi:Oper} {tl:List Oper} {v:Value} {fuel:Nat} {listed:Array Bool} {a a':Act} {w:World} (h:Any P md ops Q S m fuel (listed.setIfInBounds i true) a' w)
  (hi:ops.toList.drop i=oi::tl:=by rfl) (hs:Region.noSelect ops=true:=by kernel_rfl) (hf:Region.free md ops listed i=true:=by kernel_rfl) (hr:(Region.ready md ops listed).contains i=true:=by kernel_rfl) (hl:m≤i:=by decide)
  (hQ:∀c a w,Q (.panic c) (a.put oi.dst v) w→Q (.panic c) a w:=by exact λ_ _ _ h=>h)
  (hw:Region.wanted oi (yielded ops a.tmps)=true:=by rfl)
  (hy:∀w,True→(execOp a.eval oi).run P w=.ok (.value v) w:=by(intro W iR;go_simp;(try with_reducible rfl)))
  (ha:a.put oi.dst v=a':=by((try simp only[Act.put,List.setIfInBounds_toArray,List.set_cons_zero,List.set_cons_succ]);rfl)):Any P md ops Q S m (fuel+1) listed a w:=by
 subst ha;exact oC hi hs hf hr hl hQ hw hy h
theorem rE (i:Nat) {o:Oper} {tl:List Oper} {fuel:Nat} {listed:Array Bool} {a:Act} {w:World}
  (h:∀K':Act→World→Prop,Shut (∀a w,(i<m→S w)→((i<m→S w)→Any P md ops Q S m fuel (listed.setIfInBounds i true) a w)→K' a w)→if Region.wanted o (yielded ops a.tmps)=true then Oper.wp P o a w K' Q else K' (a.put o.dst undef) w)
  (hi:ops.toList.drop i=o::tl:=by rfl) (hr:Region.ready md ops listed=[i]:=by kernel_rfl):Any P md ops Q S m (fuel+1) listed a w:=adj hi hr h
theorem aD {fuel:Nat} {listed:Array Bool} {a:Act} {w:World} (h:Q .normal a w) (hr:Region.ready md ops listed=[]:=by kernel_rfl):Any P md ops (NoPanic Q) S m fuel listed a w:=YK hr (NoPanic.normal h) fuel
theorem kX {i:Nat} {A K':Act→World→Prop} {a:Act} {w:World} (hK:Shut (∀a w,(i<m→S w)→((i<m→S w)→A a w)→K' a w)) (h:A a w) (hn:¬i<m:=by decide):K' a w:=hK.out a w (λh=>absurd h hn) (λ_=>h)
end
section
open Go.RowKit
theorem ahe:Dl Tryz.prog 72 97 (.agg #[.int .i64 0,.slice none 0 0]) 2 32:=⟨Tryz.underlying72,kQ,rfl,dQ⟩
section
variable {w w':World} {d n:Nat} {st:Nat→Bytes} {wt:Wt} {dn dn':Bool} {F:Nat→Prop} {sb:Nat} {ss:List Value} {vw:Value} {xs:List Value} {tb:Nat} {cr cw cf cr' cw' cf':Int}
theorem iG.turn (h:iG w d n st wt dn F sb ss vw xs tb cr cw cf) (hs:Step (· =d) w (· =d) w') (hc:ah w' d 74 (oz sb n vw tb cr' cw' cf' dn')):iG w' d n st wt dn' F sb ss vw xs tb cr' cw' cf' where
 cells:=hc
 row:=h.row.step hs (by rintro rfl;have:=h.cells;have h2:=h.row;unfold ah at this h2;rw[this] at h2;cases h2)
 len:=h.len
 secs:=λi v hv=>(h.secs i v hv).step hs
 wait:=aC hs h.wait (λg hg=>by
  rintro rfl;obtain⟨C,hC⟩:=aN h.wait hg;have:=h.cells;unfold ah at this;rw[this] at hC;cases hC)
 waits:=h.waits.step hs
 tT:=by
  obtain⟨es,clock,hb,r⟩:=h.tT;refine⟨es,clock,(hs.keep tb (zo.1 hb).1 (.inl ?_)).trans hb,r⟩;rintro rfl;have:=h.cells;unfold ah at this;rw[this] at hb;cases hb
 own:=h.own
 lt:=λk hk=>zx (h.lt k hk) hs.size
 few:=h.few
end
theorem iG.pushed {w1 w2 w3:World} {d n:Nat} {st:Nat→Bytes} {wt:Wt} {dn:Bool} {F:Nat→Prop} {sb:Nat} {ss:List Value} {vw:Value} {xs:List Value} {tb:Nat} {cr cw cf:Int} {g gq cap i:Nat} {l:Bytes}
  (h:iG w1 d n st wt dn F sb ss vw xs tb cr cw cf) (hB:Below w1.heap.size w1 w2) (hown:w3.ownsRow 0 97 2 (.slice (some ⟨gq,0,none⟩) (wt.length+1) cap) (wt.length+1) (xs++[.int .i64 i,.slice (some ⟨g,0,none⟩) 512 512]))
  (rH:w2.grownBy w3 vw.ownBlock) (dw:vw.ownBlock=some gq∨w2.heap.size≤gq) (hl:l.length=512) (dO:cZ w2 (some ⟨g,0,none⟩) l) (gD:wt.length<1000000):
  w3.cell? ⟨d,1,none⟩=some vw∧w3.frozen? ⟨d,1,none⟩=false∧∃F',iG (w3.setCell ⟨d,1,none⟩ (.slice (some ⟨gq,0,none⟩) (wt.length+1) cap)) d n st (wt++[(i,l)]) dn F' sb ss (.slice (some ⟨gq,0,none⟩) (wt.length+1) cap) (xs++[.int .i64 i,.slice (some ⟨g,0,none⟩) 512 512]) tb cr cw cf∧
   Step F w1 F' (w3.setCell ⟨d,1,none⟩ (.slice (some ⟨gq,0,none⟩) (wt.length+1) cap)):=by
 have hd:=h.cells.lt;have adk:∀k,vw.ownBlock=some k→∃C,w1.heap[k]? =some (.cells C 97 (0,0)):=λk hk=>aN h.wait hk;have kL:∀k,k<w1.heap.size→vw.ownBlock≠some k→w3.heap[k]? =w1.heap[k]?:=λk hk dV=>(rH.block k (zx hk hB.size) (λe=>dV e.symm)).trans (hB.block k hk);have dV:∀{k:Nat} {o:Obj},w1.heap[k]? =some o→(∀C,o≠.cells C 97 (0,0))→vw.ownBlock≠some k:=λ{k o} ho hn e=>by
  obtain⟨C,hC⟩:=adk k e;rw[hC] at ho;cases ho;exact hn C rfl
 have alF:vw.ownBlock≠some d:=dV h.cells (λC e=>by cases e);have Ih:ah w3 d 74 (oz sb n vw tb cr cw cf dn):=(kL d hd alF).trans h.cells;have Uh:w3.heap[gq]? =w3.heap[gq]?∧gq≠d:=by
  refine⟨rfl,?_⟩;rintro rfl;rcases dw with h1|h1
  ·exact alF h1
  ·have:=hB.size;omega
 have kM:∀k,k≠d→(w3.setCell ⟨d,1,none⟩ (.slice (some ⟨gq,0,none⟩) (wt.length+1) cap)).heap[k]? =w3.heap[k]?:=λk hk=>zI _ _ _ _ hk;refine⟨Ih.cell 1,Ih.free 1,λk=>F k∨k=gq,?_,?_⟩
 ·have hs:Step (λk=>k=d∨vw.ownBlock=some k) w1 (λk=>k=d∨vw.ownBlock=some k) (w3.setCell ⟨d,1,none⟩ (.slice (some ⟨gq,0,none⟩) (wt.length+1) cap)):=by
   refine⟨rH.os.trans hB.os,rH.tape.trans hB.tape,rH.output.trans hB.output,?_,λk hk jV=>?_,λk hk=>.inl hk⟩
   ·have:=hB.size;have:=rH.size;simp[World.setCell];omega
   ·have h8:¬(k=d∨vw.ownBlock=some k):=by
     rcases jV with h1|⟨C,fr,h1⟩
     ·exact h1
     ·rintro(rfl|h2)
      ·exact h.cells.aV dQ ⟨C,fr,h1⟩
      ·obtain⟨C2,h3⟩:=adk k h2
       rw[h1] at h3;injection h3 with h3;injection h3 with _ h3;exact Fr.no h3.symm dQ
    rw[kM k (λe=>h8 (.inl e)),kL k hk (λe=>h8 (.inr e))]
  refine {cells:=?_,row:=?_,len:=h.len,secs:=λi v hv=>(h.secs i v hv).step hs,wait:=?_,waits:=?_,tT:=?_,own:=⟨.inl h.own.1,.inl h.own.2.1,.inl h.own.2.2.1,λg hg=>?_⟩,lt:=?_,few:=⟨?_,h.few.2⟩}
  ·exact Ih.aB 1 _
  ·refine h.row.step hs ?_
   rintro(rfl|h2)
   ·have h1:=h.cells
    have h2:=h.row;unfold ah at h1 h2;rw[h1] at h2;cases h2
   ·exact dV h.row (λC e=>by cases e) h2
  ·rw[zw]
   refine aC (F:=(· =d)) (F':=(· =d)) (w:=w3) (Step.setCell (F:=(· =d)) rfl (Ih.aV dQ) 1 _) hown (λg hg=>?_);have:g=gq:=by simpa[Value.ownBlock] using hg.symm
   rw[this];exact Uh.2
  ·intro j hj
   rw[zw,zY] at hj;have hxl:xs.length=wt.length*2:=h.wait.1;by_cases hjw:j<wt.length
   ·obtain⟨h1,a,h2,h3,h4⟩:=h.waits j hjw
    rw[qo oQ,qo oQ,zaG hjw];exact⟨h1,a,h2,h3,h4.step hs⟩
   ·obtain rfl:j=wt.length:=oQ
    rw[qd oQ,qd oQ,zaj (zm _)];rw[show 2*wt.length - xs.length=0 by omega,show 2*wt.length+1 - xs.length=1 by omega];simp only[zbc,List.getElem_cons_zero,zf,zi,true_and];refine⟨some ⟨g,0,none⟩,rfl,hl,?_⟩;have nJ:Step (λk=>k=d∨vw.ownBlock=some k) w2 (λk=>k=d∨vw.ownBlock=some k) (w3.setCell ⟨d,1,none⟩ (.slice (some ⟨gq,0,none⟩) (wt.length+1) cap)):=by
     refine⟨rH.os,rH.tape,rH.output,by simpa[World.setCell] using rH.size,λk hk jV=>?_,λk hk=>.inl hk⟩;have h8:¬(k=d∨vw.ownBlock=some k):=by
      rcases jV with h1|⟨C,fr,h1⟩
      ·exact h1
      ·rintro(rfl|h2)
       ·rw[hB.block k hd] at h1
        exact h.cells.aV dQ ⟨C,fr,h1⟩
       ·obtain⟨C2,h3⟩:=adk k h2
        rw[hB.block k (zo.1 h3).1,h3] at h1;injection h1 with h1;injection h1 with _ h1;exact Fr.no h1 dQ
     rw[kM k (λe=>h8 (.inl e)),rH.block k hk (λe=>h8 (.inr e.symm))]
    exact dO.step nJ
  ·obtain⟨es,clock,hb,r⟩:=h.tT
   refine⟨es,clock,(hs.keep tb (zo.1 hb).1 (.inl ?_)).trans hb,r⟩;rintro(rfl|h2)
   ·have h1:=h.cells
    unfold ah at h1;rw[h1] at hb;cases hb
   ·exact dV hb (λC e=>by cases e) h2
  ·right
   simpa[Value.ownBlock] using hg.symm
  ·rintro k (hk|rfl)
   ·have:=h.lt k hk
    have:=hs.size;omega
   ·rcases hown.2 with⟨h0,_⟩|⟨g',cap',cur,hv,_,lQ,_⟩
    ·cases h0
    ·have:g'=k:=by injection hv with hv;injection hv with hv;injection hv with hv;exact hv.symm
     subst this;have:=(zo.1 lQ).1;simpa[World.setCell] using this
  ·rw[zw,zY]
   omega
 ·refine⟨rH.os.trans hB.os,rH.tape.trans hB.tape,rH.output.trans hB.output,?_,λk hk jV=>?_,λk hk=>?_⟩
  ·have:=hB.size;have:=rH.size;simp[World.setCell];omega
  ·have h8:k≠d∧vw.ownBlock≠some k:=by
    rcases jV with h1|⟨C,fr,h1⟩
    ·exact⟨λe=>h1 (e▸h.own.1),λe=>h1 (h.own.2.2.2 k e)⟩
    ·exact⟨λe=>by subst e;exact h.cells.aV dQ ⟨C,fr,h1⟩,λe=>by
      obtain⟨C2,h3⟩:=adk k e;rw[h1] at h3;injection h3 with h3;injection h3 with _ h3;exact Fr.no h3.symm dQ⟩
   rw[kM k h8.1,kL k hk h8.2]
  ·rcases hk with hk|rfl
   ·exact .inl hk
   ·rcases dw with h1|h1
    ·exact .inl (h.own.2.2.2 _ h1)
    ·right
     have:=hB.size;omega
theorem Ii {w:World} {d n:Nat} {st:Nat→Bytes} {wt:Wt} {F:Nat→Prop} (h:Dev w d n st wt false F) (gD:wt.length<1000000) (i:Nat) (hi:i<n) {a:Option Addr} {l:Bytes} {c:Nat} (hl:l.length=512) (hb:cZ w a l):
  Calls Tryz.prog 116 #[.pointer (some ⟨d,0,none⟩),.int .i64 i,.slice a 512 c] w λe w'=>e=.returned (.int .i64 0)∧∃F',Dev w' d n st (wt++[(i,l)]) false F'∧Step F w F' w':=by
 have H:=U h;obtain⟨sb,ss,vw,xs,tb,cr,cw,cf,h⟩:=h;have bA:=h.few.2.2;have c4:=h.h_ 4;simp only[oz,zf,zi] at c4;have f4:=h.cells.free 4;have D:=U h;have Hb:=U hb;clear h hb;go_enter Tryz.func116,Tryz.ntmps116;go_wp2_with fail;refine(SG H.o i oQ oQ).mono ?_;rintro e w1 ⟨rfl,rfl⟩;go_wp2_with fail;refine(Dw H.o).mono ?_;rintro e w1 ⟨rfl,rfl⟩;go_wp2_with fail;obtain⟨w1,aP⟩:∃w1,w.setCell ⟨d,4,none⟩ (.int .i64 (wrap64 (cw+1)))=w1:=⟨_,rfl⟩
 have Ad:Step (· =d) w (· =d) w1:=by rw[←aP];exact Step.setCell (F:=(· =d)) rfl (D.o.cells.aV dQ) 4 _
 have h1:iG w1 d n st wt false F sb ss vw xs tb cr (wrap64 (cw+1)) cf:=D.o.turn Ad (by rw[←aP];exact D.o.cells.aB 4 _);have FX:=h1.own.1;rw[aP];clear aP c4 f4;have c1:w1.cell? ⟨d,1,none⟩=some vw:=h1.h_ 1;have H1:=U h1;have hk:∀W,Below w1.heap.size w1 W→W.cell? ⟨d,1,none⟩=some vw:=λW hW=>(hW.cell (p:=⟨d,1,none⟩) h1.cells.lt).trans c1;have wI:l.take 512++zeros (512 - 512)=l:=by rw[zy oQ];simp[zeros]
 clear h1;refine wp_region_noPanic ?_;refine ak (S:=(λW=>W.cell? ⟨d,1,none⟩=some vw)) (m:=11) kQ (hk w1.drew (zn _ _).drew) (λaj=>?_);refine te 0 aj ?_;refine te 1 aj ?_;refine te 2 aj ?_;refine te 3 aj ?_;refine te 4 aj ?_;refine te 5 aj ?_;refine te 6 aj ?_;refine rE 7 λK hK=>?_;go_simp;refine(wH ((Hb.o.step Ad).below (zn _ _).drew) hl).mono ?_;rintro e w2 ⟨g,rfl,hg,dO,hB⟩;rw[wI] at dO;have HC:=U ((zn w1.heap.size w1).drew.trans hB);have pU:=U dO;clear hg dO hB;go_wp2_with fail;refine hK.out _ _ (λ_=>(hk _ HC.o)) (λhS=>?_);have bQ:=hS dQ;clear hS hK K
 try simp only[Act.put,zh,zk,zl]
 refine te 8 bQ ?_;refine rE 9 λK hK=>?_;go_simp;refine hK.out _ _ (λ_=>(hk _ (HC.o.alloc HC.o.size _))) (λhS=>?_);have bV:=hS dQ;clear hS hK K
 try simp only[Act.put,zh,zk,zl]
 refine rE 10 λK hK=>?_;obtain⟨gq,cap,w3,iT,nW,rH,dw⟩:=jk ahe 72 w2 (aC (Step.of_below HC.o (λ_=>False)) H1.o.wait (λ_ _ h=>h)) [.int .i64 i,.slice (some ⟨g,0,none⟩) 512 512] rfl (by simp[Value.oneCell']) oQ oQ 97;refine sG (.tmp 35) (.tmp 40) iT rfl rfl rfl rfl ?_;have HP:=U (H1.o.pushed HC.o nW rH dw hl pU.o gD);have hc3:=HP.o.1;have gL:∀W,W=w3→W.cell? ⟨d,1,none⟩=some vw:=(λW hW=>hW▸hc3)
 have hf3:=HP.o.2.1;clear iT nW rH dw;refine hK.out _ _ (λ_=>(gL _ rfl)) (λhS=>?_);have jd:=hS dQ;clear hS hK K
 try simp only[Act.put,zh,zk,zl]
 refine oC (i:=11) (v:=?v11) rfl kQ kQ kQ dQ (λ_ _ _ h=>h) rQ ?h11 ?r11
 case h11=>(intro W iR;(try dsimp only at iR);go_simp;(try with_reducible rfl))
 try simp only[Act.put,zh,zk,zl]
 refine oC (i:=12) (v:=?v12) rfl kQ kQ kQ dQ (λ_ _ _ h=>h) rQ ?h12 ?r12
 case h12=>(intro W iR;(try dsimp only at iR);go_simp;(try with_reducible rfl))
 try simp only[Act.put,zh,zk,zl]
 refine rE 13 λK hK=>?_;go_simp;refine kX hK ?_;clear hK K
 try simp only[Act.put,zh,zk,zl]
 refine aD ?_;go_wp2;go_ret;obtain⟨_,_,F',hd,hs⟩:=HP.o;exact⟨rfl,F',⟨_,_,_,_,_,_,_,_,hd⟩,(Ad.more (λk hk=>by subst hk;exact FX) (λk hk=>.inl hk)).trans hs⟩
end
end Go.Proofs.YtdjdpeadohobmaaGreatDoor
