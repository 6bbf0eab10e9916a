/- A part of the walk below the law: what is proved here is used by later parts; no further condition. -/
import Derived.Laws.StructEq
import Derived.Lib.ConvBytes
import Derived.Lib.UnsafeStr
import Derived.Outline
import Derived.Shelf.Small.Strs
import Derived.Shelf.Strings.Builder1
import Derived.Shelf.Strings.Search1
import Derived.Test.YtdjdpeadohobmaaGreatDoorK02
import Derived.Test.YtdjdpeadohobmaaGreatDoorK07
import Derived.Test.YtdjdpeadohobmaaGreatDoorK11
import Derived.Test.YtdjdpeadohobmaaGreatDoorK13
import Derived.Test.YtdjdpeadohobmaaGreatDoorK28
import Derived.Test.YtdjdpeadohobmaaGreatDoorK30
import Derived.Test.YtdjdpeadohobmaaGreatDoorProg
import Derived.Test.YtdjdpeadohobmaaGreatDoorRows
set_option linter.unusedVariables false
set_option linter.unusedSimpArgs false
set_option maxRecDepth 100000
set_option maxHeartbeats 20000000
namespace Go.Proofs.YtdjdpeadohobmaaGreatDoor
section
open Go.RowKit Go.Shelf Go.Maps O
attribute [local go_sem] Oper.semAt_some
section
variable {v w:World} {sp d B b n:Nat} {C E:Nat→Bytes} {F:Nat→Prop}
theorem aaI {w:World} {p tb fn:Nat} {caps:Array Value} {Q:World→Prop} (lN:∀args w,(callFunc fn args).run Tryz.prog w=.ok (.enter fn args) w) (hc:w.cell? ⟨tb,0,none⟩=some (.func (.func fn) #[] caps))
  (hj:∀W,Below w.heap.size w W→Calls Tryz.prog fn (#[.pointer (some ⟨p,0,none⟩)]++caps) W λe w2=>(∃x,e=.returned x)∧Q w2):
  Calls Tryz.prog 132 #[.pointer (some ⟨p,0,none⟩),.pointer (some ⟨tb,0,none⟩)] w λe w2=>e=.returned (.agg #[])∧Q w2:=by
 have hB:Below w.heap.size w (w.alloc (.cells #[] 99)):=(zn _ _).alloc (zm _) _;have HJ:=U hj;clear hj;have nI:=zq w _ hc;go_enter Tryz.func132,Tryz.ntmps132;go_wp2_with fail;refine(HJ.o _ hB).mono ?_;rintro e w2 ⟨⟨x,rfl⟩,hq⟩;have HQ:=U hq;clear hq;go_wp2_with fail;exact⟨rfl,.agg #[],by simp[results,Tryz.results132,go_sem],rfl,HQ.o⟩
theorem Da (hV:Base v sp d B C) (h:cB v w b sp d C E n F) {fn:Nat} {caps:Array Value} (lN:∀args w,(callFunc fn args).run Tryz.prog w=.ok (.enter fn args) w) {PE:(Nat→Bytes)→Prop} {n':Nat}
  (kW:∀w1 p b' G F1,Wk v w1 p b' sp d B C E n F1→Mv d v F w G w1→(∀k,F1 k→G k)→Calls Tryz.prog fn (#[.pointer (some ⟨p,0,none⟩)]++caps) w1 λe w2=>(∃x,e=.returned x)∧∃E' F2,PE E'∧Wk v w2 p b' sp d B C E' n' F2∧Mv d v F1 w1 F2 w2):
  Calls Tryz.prog 62 #[.agg #[.pointer (some ⟨b,0,none⟩),.int .i64 B],.func (.func fn) #[] caps] w λe w'=>e=.returned (.int .i64 0)∧∃E' F',PE E'∧cB v w' b sp d C E' (up n') F'∧Mv d v F w F' w':=by
 obtain⟨w1,aP⟩:∃w1,(w.alloc (.cells #[.pointer (some ⟨b,0,none⟩),.int .i64 B] 85)).alloc (.cells #[.func (.func fn) #[] caps] 142)=w1:=⟨_,rfl⟩
 obtain⟨aM,aF,hz1⟩:=boxes [([.pointer (some ⟨b,0,none⟩),.int .i64 B],85),([.func (.func fn) #[] caps],142)] w w1 (by rw[←aP];rfl);have x0:ah w1 w.heap.size 85 [.pointer (some ⟨b,0,none⟩),.int .i64 B]:=aM 0 _ rfl;have x1:ah w1 (w.heap.size+1) 142 [.func (.func fn) #[] caps]:=aM 1 _ rfl;have y0:=x0.cell 0;have y1:=x0.cell 1;simp only[zf,zi] at y0 y1;have bA:=h.lt;have hq:=h.quiet;have j_:=hV.dev;have H:=U h;have H1:=U (h.below aF);have HV:=U hV;have HX:=U x1;have HB:=U aF;have HJ:=U kW;have iK:=U bA;have Hq:=U hq;have auP:=U j_;clear h hV aM aF hz1 x0 x1 kW bA hq j_;go_enter Tryz.func62,Tryz.ntmps62;go_wp2_with fail;refine(Wm HV.o H1.o (fn:=132) (caps:=#[.pointer (some ⟨w.heap.size+1,0,none⟩)]) (λ_ _=>rfl) (PE:=PE) (n':=n') (Post:=λ_ X _=>X=[]) (λ_ _ _ _ h _=>h) (λw2 p b' G F1 hW hG fA=>?_)).mono ?_
 ·have hn:¬F (w.heap.size+1):=λhf=>by have:=(iK.o _ hf).2;omega
  have dh:=hG.aW HX.o dQ hn;have hnG:¬G (w.heap.size+1):=hG.apart HX.o.lt hn;refine(aaI (Q:=λGj=>∃E' F2,PE E'∧Wk v Gj p b' sp d B C E' n' F2∧Mv d v F1 w2 F2 Gj) lN (dh.cell 0) (λW lZ=>?_)).mono ?_
  ·refine(HJ.o W p b' G F1 (hW.below lZ) ((Mv.after HB.o hG Hq.o (λk hk=>(iK.o k hk).2)).below lZ) fA).mono ?_
   rintro e w3 ⟨hx,E',F2,hE,h1,h2⟩;exact⟨hx,E',F2,hE,h1,Mv.after lZ h2 hW.quiet (λk hk=>(hW.lt k hk).2)⟩
  ·rintro e w3 ⟨rfl,E',F2,hE,h1,h2⟩
   exact⟨(),[],rfl,rfl,sQ,E',F2,hE,h1,sQ,h2⟩
 rintro e w2 ⟨z,X,rfl,hX,E',hE,F',h1, -,h2⟩;have HF:=U (And.intro h1 (Mv.after HB.o h2 Hq.o (λk hk=>(iK.o k hk).2)));clear h1 h2;go_wp2_with fail;go_ret;have aJ:Below w2.heap.size w2 (w2.alloc (.cells #[] 99)):=(zn _ _).alloc (zm _) _;exact⟨rfl,E',F',hE,HF.o.1.below aJ,HF.o.2.below aJ⟩
end
end
section
open Go.RowKit O
attribute [local go_sem] Oper.semAt_some
def xO (w:World) (r:Nat) (l:List UInt8) (s:Bool):Prop:=
 ∃A c,w.heap[r]? =some (.cells #[.slice A l.length c,.bool s] 393 (0,0))∧cZ w A l∧l.length≤c∧c≤maxLen
section
variable {w w':World} {r k:Nat} {l m:List UInt8} {s:Bool} {a:Option Addr}
theorem xO.is (h:xO w r l s):aU w r l s:=by
 obtain⟨A,c,h1,h2,h3⟩:=h;exact⟨A,c,h1,h2.is,h3⟩
theorem xO.lt (h:xO w r l s):r<w.heap.size:=h.is.lt
theorem cZ.block {b:Nat} {C:Array Value} {T:TypeId} {fr:Nat×Nat} (h:cZ w a l) (hb:w.heap[b]? =some (.cells C T fr)) (hT:¬BT T) (hk:∀k,k<w.heap.size→k≠b→w'.heap[k]? =w.heap[k]?):cZ w' a l:=by
 rcases h with h|⟨g,o,D,fr',h1,h2,h3⟩
 ·exact .inl h
 ·refine .inr ⟨g,o,D,fr',h1,(hk g (zo.1 h2).1 (λe=>?_)).trans h2,h3⟩
  rw[e,hb] at h2;injection h2 with h2;injection h2 with _ h2;exact hT (by rw[h2];exact fr'.ok)
theorem cZ.kept {m:List UInt8} (h:cZ w a l) (hr:xO w r m s) (hk:Kept r w w'):cZ w' a l:=by
 obtain⟨A,c,hb, -⟩:=hr;exact h.block hb dQ (λk h1 h2=>hk.block k h1 h2)
theorem cZ.drop (h:cZ w a l) (c:Nat) (hk:k≤l.length) (hc:l.length≤c):cZ w (if c=k then a else a.map (·.add k)) (l.drop k):=by
 rcases h with h|⟨g,o,D,fr,rfl,h2,h3⟩
 ·subst h
  exact .inl sQ
 ·by_cases fF:k=l.length
  ·exact .inl (by rw[fF,List.drop_length])
  ·rw[if_neg oQ]
   refine .inr ⟨g,o+k,D,fr,?_,h2,λi hi=>?_⟩
   ·simp only[qA]
    congr 1;unfold Addr.add
    split<;>simp_all
   ·rw[zR] at hi
    rw[List.getElem_drop,zaR];exact h3 (k+i) oQ
theorem xO.below (h:xO w r l s) (hb:Below w.heap.size w w'):xO w' r l s:=by
 obtain⟨A,c,h1,h2,h3⟩:=h;exact⟨A,c,(hb.block r (zo.1 h1).1).trans h1,h2.below hb,h3⟩
theorem anK {n c:Nat} (nL:l.length=n) (hn:n≤140737488000000) (hb:ay w a l):
  Calls Tryz.prog 296 #[.slice a n c] w λe w'=>∃r,e=.returned (.pointer (some ⟨r,0,none⟩))∧w.heap.size≤r∧xO w' r l false∧Below w.heap.size w w':=by
 obtain⟨A1,c1,w2,iT,fM,aJ⟩:=gu bD 22 (base:=w.heap.size) (w:=w) (A:=none) (n:=0) (c:=0) (c2:=c) Own.nothing rfl hb.row (by simpa using nL) (eP _) oQ oQ (zm _);rw[qx] at iT;rw[zB] at fM;have H2:=U fM;have HB:=U aJ;clear fM aJ;go_enter Tryz.func296,Tryz.ntmps296;go_wp2_with (at_builtin;refine wpList_append_run _ _ iT rfl rfl rfl rfl ?_);go_ret;refine⟨w2.heap.size,rfl,HB.o.size,⟨A1,c1,?_,?_,?_⟩,HB.o.alloc HB.o.size _⟩
 ·rw[nL];exact heap_alloc_new _ _
 ·exact H2.o.pR.below ((zn _ _).alloc (zm _) _)
 ·have:=H2.o.len
  simpa using this
theorem Ji {c:Nat} {A:Option Addr} (hr:xO w r l s) (hb:w.heap[r]? =some (.cells #[.slice A l.length c,.bool s] 393 (0,0)))
  (hA:cZ w A l) (hlc:l.length≤c) (Cn:c≤maxLen) (hk:k≤l.length) (B:Option Addr) (n' c':Nat) (hB:B=if c=k then A else A.map (·.add k)) (hn':n'=l.length - k) (hc':c'=c - k):
  cZ (w.setCell ⟨r,0,none⟩ (.slice B n' c')) A (l.take k)∧xO (w.setCell ⟨r,0,none⟩ (.slice B n' c')) r (l.drop k) s∧Kept r w (w.setCell ⟨r,0,none⟩ (.slice B n' c')):=by
 subst hB hn' hc';have iX:∀v,Kept r w (w.setCell ⟨r,0,none⟩ v):=λv=>Kept.setCell w 0 v;refine⟨(hA.take k).kept hr (iX _),⟨_,c - k,?_,(hA.drop c hk hlc).kept hr (iX _),?_,?_⟩,iX _⟩
 ·rw[block_setCell hb,zR]
  rfl
 ·rw[zR];omega
 ·unfold maxLen at*;omega
theorem agz (hr:xO w r l s) (hk:k≤l.length):
  Calls Tryz.prog 341 #[.pointer (some ⟨r,0,none⟩),.int .i64 (k:Int)] w λe w'=>∃A,e=.returned (.tuple #[.slice A k k,.bool true])∧cZ w' A (l.take k)∧xO w' r (l.drop k) s∧Kept r w w':=by
 have vU:=U hr;obtain⟨A,c,hb,hA,hlc,Cn⟩:=hr;have YW:=Cn;unfold maxLen at Cn;have c0:=cell_of_row w r 0 _ _ _ hb;have c1:=cell_of_row w r 1 _ _ _ hb;have f0:=fV 0 hb;simp only[qZ,zf,zi] at c0 c1;have Hb:=U hb;have HA:=U hA;clear hb hA;go_enter Tryz.func341,Tryz.ntmps341;go_wp2
 ·go_ret2
  rename_i h;exact⟨_,rfl,Ji vU.o Hb.o HA.o hlc YW hk A _ _ (by rw[if_pos h]) rfl oQ⟩
 ·go_ret2
  rename_i h;exact⟨_,rfl,Ji vU.o Hb.o HA.o hlc YW hk _ _ _ (by rw[if_neg h]) rfl rfl⟩
theorem TL {z:Int} (hr:xO w r l s) (v:Int) (m:List UInt8) (hv:((num (wO l (cl z 8)):Nat):Int)=v) (hm:xH l (cl z 8)=m) (fF:cl z 8≤l.length):
  Calls Tryz.prog 299 #[.pointer (some ⟨r,0,none⟩),.int .i64 z] w λe w'=>e=.returned (.int .u64 v)∧xO w' r m s∧Kept r w w':=by
 subst hv hm;have hk:=Ip z 8;have hwi:=U (λw=>rJ z 8 oQ w);generalize cl z 8=k at*;have Hr:=U hr;clear hr;have e1:=U (show wO l k=l.take k∧xH l k=l.drop k by simp[wO,xH,fF]);go_enter Tryz.func299,Tryz.ntmps299;go_wp2_with fail;refine(hwi.o _).mono ?_;rintro e w0 ⟨rfl,rfl⟩;go_wp2_with fail;refine(agz Hr.o fF).mono ?_;rintro e w1 ⟨A,rfl,hA,jY,pX⟩;have HA:=U hA;have Hr1:=U jY;have Hk1:=U pX;clear hA jY pX;go_wp2_with fail;refine(Mj (l.take k) k (by simp[fF]) hk _ A k HA.o.is).mono ?_;rintro e w2 ⟨rfl,hB⟩;go_wp2;go_ret;rw[e1.o.1,e1.o.2];exact⟨rfl,Hr1.o.below hB,Hk1.o.trans (Kept.of_below hB)⟩
theorem ai0 {k:Nat} (hr:xO w r l s) (hl:l.length≤140737488000000) (b m:List UInt8) (hb:wO l k=b) (hm:xH l k=m) (fF:k≤l.length):
  Calls Tryz.prog 298 #[.pointer (some ⟨r,0,none⟩),.int .i64 k] w λe w'=>∃A c,e=.returned (.slice A k c)∧Own 5 w.heap.size w' A c (b.map aH)∧xO w' r m s∧Kept r w w':=by
 subst hb hm;have FY:∀ts t W,(Builtin.max_ ts t #[.int .i64 (k:Int),.int .i64 0]).run Tryz.prog W=.ok (.int .i64 (k:Int)) W:=λts t W=>by
  simp[Builtin.max_,Builtin.max2];intro h;omega
 have Hr:=U hr;clear hr;have e1:=U (show wO l k=l.take k∧xH l k=l.drop k by simp[wO,xH,fF]);go_enter Tryz.func298,Tryz.ntmps298;go_wp2_with fail;refine(agz Hr.o fF).mono ?_;rintro e w1 ⟨A,rfl,hA,jY,pX⟩;obtain⟨A1,c1,w2,iT,fM,aJ⟩:=gu bD 22 (base:=w1.heap.size) (w:=w1) (A:=none) (n:=0) (c:=0) (m:=k) (c2:=k) Own.nothing rfl hA.is.row (by simp[fF]) (eP _) oQ oQ (zm _);rw[qx] at iT;rw[zB] at fM;have Hr1:=U (jY.below aJ);have Hk1:=U (pX.trans (Kept.of_below aJ));have H2:=U (fM.mono pX.size);clear hA jY pX fM aJ;go_wp2_with (at_builtin;refine wpList_append_run _ _ iT rfl rfl rfl rfl ?_);go_ret;rw[e1.o.1,e1.o.2];exact⟨A1,c1,rfl,H2.o,Hr1.o,Hk1.o⟩
end
end
section
open Go.Shelf
def Tryz.Ca:Go.Shelf.Ren:=⟨fun|169=>21|n=>n,fun|70=>63|9=>9|0=>0|72=>65|37=>22|127=>95|3=>3|5=>5|n=>n,fun|n=>n⟩
theorem Tryz.aeC:Go.Proofs.Lays.n169 Tryz.prog Tryz.Ca:={
 mixed:=by kernel_rfl
 f169:=Tryz.func21.trans (congrArg some (by kernel_rfl))
 t0:=Tryz.underlying0
 a0:=Tryz.isAgg0
 z0:=Tryz.sizeOf0
 v0:=Tryz.zeroValue0
 t3:=Tryz.underlying3
 a3:=Tryz.isAgg3
 z3:=Tryz.sizeOf3
 v3:=Tryz.zeroValue3
 t9:=Tryz.underlying9
 a9:=Tryz.isAgg9
 z9:=Tryz.sizeOf9
 v9:=Tryz.zeroValue9
 t37:=Tryz.underlying22
 a37:=Tryz.isAgg22
 z37:=Tryz.sizeOf22
 v37:=Tryz.zeroValue22
 t70:=Tryz.underlying63
 a70:=Tryz.isAgg63
 z70:=Tryz.sizeOf63
 v70:=Tryz.zeroValue63
 t72:=Tryz.underlying65
 a72:=Tryz.isAgg65
 z72:=Tryz.sizeOf65
 v72:=Tryz.zeroValue65
 t127:=Tryz.underlying95
 a127:=Tryz.isAgg95
 z127:=Tryz.sizeOf95
 v127:=Tryz.zeroValue95}
theorem Tryz.yN:Builder.Extra Tryz.prog Tryz.Ca:={
 sizeBuilder:=by kernel_rfl
 liesBuilder:=by kernel_rfl
 t5:=Tryz.underlying5
 a5:=Tryz.isAgg5
 z5:=Tryz.sizeOf5
 v5:=Tryz.zeroValue5
 infoByte:=by kernel_rfl
 cellsByte:=by kernel_rfl
 sizeByte:=by kernel_rfl
 neB5:=by decide}
open Go.RowKit in
theorem Tryz.Builder_String_any (B b:Nat) (l:List UInt8) (w:World) (h:Lib.IsBuilder 65 5 B b (Lib.byteCells l) w) (Ag:B≤w.heap.size):
  Calls Tryz.prog 21 #[.pointer (some ⟨b,0,none⟩)] w λe w'=>e=.returned (.string ⟨l.toArray⟩)∧Below B w w':=Any.Builder_String_any Tryz.aeC Tryz.yN B b l w h Ag
def Tryz.NS:Go.Shelf.Ren:=⟨fun|106=>169|213=>245|265=>288|n=>n,fun|9=>9|3=>3|n=>n,fun|n=>n⟩
theorem Tryz.aeD:Go.Proofs.Lays.n106 Tryz.prog Tryz.NS:={
 mixed:=by kernel_rfl
 f106:=Tryz.func169.trans (congrArg some (by kernel_rfl))
 f213:=Tryz.func245.trans (congrArg some (by kernel_rfl))
 f265:=Tryz.func288.trans (congrArg some (by kernel_rfl))
 t3:=Tryz.underlying3
 a3:=Tryz.isAgg3
 z3:=Tryz.sizeOf3
 v3:=Tryz.zeroValue3
 t9:=Tryz.underlying9
 a9:=Tryz.isAgg9
 z9:=Tryz.sizeOf9
 v9:=Tryz.zeroValue9}
open Go.RowKit in
theorem Tryz.strings_Compare (a b:ByteArray) (w:World):
  Calls Tryz.prog 169 #[.string a,.string b] w λe w'=>e=.returned (.int .i64 (Lib.compareBytes a.data.toList b.data.toList))∧w'=w:=Any.strings_Compare Tryz.aeD a b w
def Tryz.NT:Go.Shelf.Ren:=⟨fun|137=>290|217=>335|266=>366|n=>n,fun|9=>9|5=>5|3=>3|n=>n,fun|n=>n⟩
theorem Tryz.aeE:Go.Proofs.Lays.n137 Tryz.prog Tryz.NT:={
 mixed:=by kernel_rfl
 f137:=Tryz.func290.trans (congrArg some (by kernel_rfl))
 f217:=Tryz.func335.trans (congrArg some (by kernel_rfl))
 f266:=Tryz.func366.trans (congrArg some (by kernel_rfl))
 t3:=Tryz.underlying3
 a3:=Tryz.isAgg3
 z3:=Tryz.sizeOf3
 v3:=Tryz.zeroValue3
 t5:=Tryz.underlying5
 a5:=Tryz.isAgg5
 z5:=Tryz.sizeOf5
 v5:=Tryz.zeroValue5
 t9:=Tryz.underlying9
 a9:=Tryz.isAgg9
 z9:=Tryz.sizeOf9
 v9:=Tryz.zeroValue9}
open Go.RowKit in
theorem Tryz.strings_IndexByte (s:ByteArray) (c:Int) (w:World):
  Calls Tryz.prog 290 #[.string s,.int .u8 c] w λe w'=>e=.returned (.int .i64 (Lib.indexByte s.data.toList c.toNat.toUInt8))∧w'=w:=Any.strings_IndexByte Tryz.aeE s c w
end
section
open Go.RowKit
theorem A9 {a b:Bool} (h:a=b):Ending.returned (.bool a)=.returned (.bool b):=by rw[h]
theorem Jj (l:List UInt8) (c:UInt8) (w:World):
  Calls Tryz.prog 290 #[.string ⟨l.toArray⟩,.int .u8 (n8 c)] w λe w'=>e=.returned (.int .i64 (Lib.indexByte l c))∧w'=w:=by
 have h:=Tryz.strings_IndexByte ⟨l.toArray⟩ (n8 c) w;have e2:(n8 c).toNat.toUInt8=c:=by
  unfold n8;rw[qX];exact UInt8.ofNat_toNat
 rw[e2] at h;exact h
theorem E5 (l:List UInt8) (w:World):Calls Tryz.prog 247 #[.string ⟨l.toArray⟩] w λe w'=>e=.returned (.bool (nm l))∧w=w':=by
 obtain⟨n,gJ⟩:∃n,l.length=n:=⟨_,rfl⟩
 have Hn:=U gJ;by_cases h1:1≤n∧n≤28
 case neg=>
  have kZ:nm l=false:=by
   unfold nm;rw[Hn.o];exact decide_eq_false (λh=>h1 ⟨h.1,h.2.1⟩)
  rw[kZ];rcases(show n<1∨(1≤n∧28<n) by omega) with h2|⟨h2,h3⟩
  all_goals
   clear h1;go_enter Tryz.func247,Tryz.ntmps247;go_wp2;go_ret;exact⟨rfl,rfl⟩
 obtain⟨h1,h2⟩:=h1;obtain⟨i1,Ij⟩:∃i1,Lib.indexByte l 47=i1:=⟨_,rfl⟩
 obtain⟨i2,jQ⟩:∃i2,Lib.indexByte l 0=i2:=⟨_,rfl⟩
 have CZ:=U (Ij▸ER l 47);have Gh:=U (jQ▸ER l 0);have HI1:=U (show∀w,Calls Tryz.prog 290 #[.string ⟨l.toArray⟩,.int .u8 47] w λe w'=>e=.returned (.int .i64 i1)∧w'=w from λw=>Ij▸Jj l 47 w);have HI2:=U (show∀w,Calls Tryz.prog 290 #[.string ⟨l.toArray⟩,.int .u8 0] w λe w'=>e=.returned (.int .i64 i2)∧w'=w from λw=>jQ▸Jj l 0 w)
 have Hnm:=U (show nm l=(!decide (0≤i1)&& !decide (0≤i2)&& !(l==[46])&& !(l==[46,46])) by
  unfold nm;rw[Hn.o,q9];simp only[decide_eq_true_eq,zad,Bool.not_eq_true',decide_eq_false_iff_not,beq_eq_false_iff_ne,CZ.o,Gh.o];exact⟨λh=>⟨⟨⟨h.2.2.1,h.2.2.2.1⟩,h.2.2.2.2.1⟩,h.2.2.2.2.2⟩,λh=>⟨h1,h2,h.1.1.1,h.1.1.2,h.1.2,h.2⟩⟩)
 clear Ij jQ;rw[Hnm.o];obtain⟨b1,iA⟩:∃b1,(l==[46])=b1:=⟨_,rfl⟩
 obtain⟨b2,dh⟩:∃b2,(l==[46,46])=b2:=⟨_,rfl⟩
 rw[iA,dh];go_enter Tryz.func247,Tryz.ntmps247;go_wp2_with fail;refine(HI1.o _).mono ?_;rintro e w1 ⟨rfl,rfl⟩;by_cases Ij:0≤i1
 ·go_wp2
  go_ret;exact⟨A9 (by rw[decide_eq_true Ij];simp),rfl⟩
 ·go_wp2_with fail
  refine(HI2.o _).mono ?_;rintro e w2 ⟨rfl,rfl⟩;by_cases jQ:0≤i2
  ·go_wp2
   go_ret;exact⟨A9 (by rw[decide_eq_true jQ];simp),rfl⟩
  ·cases b1<;>cases b2<;>
   (go_wp2
    go_ret;exact⟨A9 (by rw[decide_eq_false (show¬0≤i1 by omega),decide_eq_false (show¬0≤i2 by omega)];rfl),rfl⟩)
end
section
open Go.RowKit Go.Shelf O
attribute [local go_sem] Oper.semAt_some
theorem E_ {e:bI} (h:Aj e) (w:World):Calls Tryz.prog 362 #[.agg #[.int .i64 e.1,.string ⟨e.2.toArray⟩]] w λx w'=>x=.returned (.bool true)∧Below w.heap.size w w':=by
 obtain⟨h1,h2,h3,h4,h5⟩:=h;obtain⟨n,m⟩:=e;dsimp only at h1 h2 h3 h4 h5 ⊢;have hi:=Aj.idx (e:=(n,m)) ⟨h1,h2,h3,h4,h5⟩;dsimp only at hi;obtain⟨k,hk⟩:∃k,m.length=k:=⟨_,rfl⟩
 rw[hk] at h3 h4;have nM:¬((n:Int)<1):=oQ
 have Ai:¬((3839:Int)<n):=oQ
 have pX:¬((k:Int)<1):=oQ
 have eO:¬((28:Int)<k):=oQ
 go_enter Tryz.func362,Tryz.ntmps362;go_wp2_with fail;refine(Tryz.strings_IndexByte _ 0 _).mono ?_;rintro e w' ⟨rfl,rfl⟩;have iq:(Go.Lib.indexByte (⟨m.toArray⟩:ByteArray).data.toList (0:Int).toNat.toUInt8)=Go.Lib.indexByte m 0:=rfl;rw[iq];go_wp2_with fail;go_ret;refine⟨?_,(zn _ _).alloc (zm _) _⟩;simp[hi]
theorem yO:Tryz.prog.eqGuardType Tryz.prog.depth 163=false:=kQ
theorem Wp:Tryz.prog.underlying 163=some (.struct (Tryz.prog.fieldsOf 163)):=kQ
theorem aaJ:Tryz.prog.stoodInHeld 163=false:=kQ
theorem Wq:(Tryz.prog.fieldsOf 163).toList.map (λf=>(f.name,f.type,f.offset))=[("Node",3,0),("Name",9,1)]:=kQ
theorem agA (n:Nat) (m:Bytes) (w:World):(Op.equalIn 10000 163 (.agg #[.int .i64 n,.string ⟨m.toArray⟩]) (.agg #[.int .i64 0,.string ⟨#[]⟩])).run Tryz.prog w=.ok (decide (n=0∧m=[])) w:=by
 rw[run_equalIn_struct w 9999 _ _ _ Wp aaJ];have hf:=Wq;generalize (Tryz.prog.fieldsOf 163).toList=fs at hf;have hl:fs.length=2:=by simpa using congrArg List.length hf
 match fs,hl,hf with
 |[f0,f1],_,hf=>
  simp only[qy,qK,List.cons.injEq,zaS,and_true] at hf;obtain⟨⟨n0,t0,o0⟩,⟨n1,t1,o1⟩⟩:=hf;have p0:=λ(n:Int) (m:ByteArray) (w:World)=>UU (P:=Tryz.prog) Tryz.underlying3 (show(#[Value.int .i64 n,.string m]:Array Value)[0]? =some (.int .i64 n) from rfl) w;have h0:("Node" :String)≠ "_" :=dQ
  have h1:("Name" :String)≠ "_" :=dQ
  have ei:=λ(a b:Int) (w:World)=>run_equalIn_int (P:=Tryz.prog) w 9998 3 .i64 .i64 a b Tryz.underlying3;have es:=λ(a b:ByteArray) (w:World)=>run_equalIn_string (P:=Tryz.prog) w 9998 9 a b Tryz.underlying9;have p1:∀(n:Int) (m:ByteArray) (w:World),(part 9 #[Value.int .i64 n,.string m] 1).run Tryz.prog w=.ok (.string m) w:=λn m w=>by simp[part,isAgg,run_underlying Tryz.underlying9]
  simp only[Op.eqFields,n0,n1,t0,t1,o0,o1,h0,h1,ne_eq,not_false_eq_true,if_true,qE,Sem.run_ite,zax,p0,p1,ei,es,qp];have e1:((n:Int)==0)=decide (n=0):=by rw[q9,beq_iff_eq,decide_eq_true_iff];omega
  have e2:((⟨m.toArray⟩:ByteArray).toList==(⟨#[]⟩:ByteArray).toList)=decide (m=[]):=by
   rw[ByteArray.toList_eq,ByteArray.toList_eq,q9,beq_iff_eq,decide_eq_true_iff]
  rw[e1,e2];by_cases a:n=0<;>by_cases b:m=[]<;>simp[a,b]
theorem xO.TM {w w':World} {r b:Nat} {x:Int} {y:ByteArray} {l:Bytes} {s:Bool} (h:xO w r l s) (hv:ah w b 163 [.int .i64 x,.string y]) (hk:Kept b w w'):xO w' r l s:=by
 obtain⟨A,c,h1,h2,h3⟩:=h;have dV:r≠b:=by
  rintro rfl;unfold ah at hv;rw[hv] at h1;injection h1 with h1;injection h1 with _ h1;cases h1
 exact⟨A,c,(hk.block r (zo.1 h1).1 dV).trans h1,h2.block hv dQ (λk h1 h2=>hk.block k h1 h2),h3⟩
theorem Kept.PD {r b:Nat} {w w':World} (h:Kept r w w') (hb:w.heap.size≤b) (o:Nat) (v:Value):Kept r w (w'.setCell ⟨b,o,none⟩ v):=
 ⟨by simpa[World.setCell] using h.size,λk hk hr=>(zI _ _ _ _ (by show k≠b;omega)).trans (h.block k hk hr),λB h1 h2=>(h.below B h1 h2).setCell (zC h2 hb) _⟩
theorem xq {P:Program} {fn:Func} {p u:Tmp} {ty T':TypeId} (h:fn.results=#[.cell p ty,.tmp u]) {w:World} {tmps:Array Value} {b:Nat} {vs:List Value} {v:Value} {d:TypeDesc} (h1:tmps.getD p undef=.pointer (some ⟨b,0,none⟩)) (h2:tmps.getD u undef=v) (hv:ah w b T' vs)
  (hu:P.underlying ty=some d) (hd:d.isRow=true) (hi:(P.info? ty).map (·.size)=some vs.length):(results fn tmps).run P w=.ok (.tuple #[.agg vs.toArray,v]) w:=
 gy h h1 h2 (mq hv hu hd hi)
theorem auQ:Tryz.prog.built 163 []=some #[.int .i64 0,.string ⟨#[]⟩]:=kQ
theorem aaK {w:World} {r:Nat} {e:bI} {m:Bytes} {s:Bool} (h:sOk e) (hr:xO w r (gP e++m) s) (hm:m.length≤10000):Calls Tryz.prog 386 #[.pointer (some ⟨r,0,none⟩)] w λx w'=>x=.returned (.tuple #[.agg #[.int .i64 e.1,.string ⟨e.2.toArray⟩],.bool true])∧xO w' r m s∧Kept r w w':=by
 obtain⟨⟨n1,n2,n3⟩,⟨n4,n5,n6⟩,⟨n7,n8,n9⟩⟩:=aex h m;have hf:=h.few;obtain⟨n,nm⟩:=e;dsimp only at n1 n2 n3 n4 n5 n6 n7 n8 n9 hf ⊢;obtain⟨k,hk⟩:∃k,nm.length=k:=⟨_,rfl⟩
 rw[hk] at n2 n4 n5 n6 n7 n8 n9 hf;have hrl:=hr.lt;have hz:(zeros (29 - k)).length=29 - k:=by unfold zeros;exact qc ..
 have hL:(nm++zeros (29 - k)).length=29:=by rw[zw,hz];omega
 obtain⟨w1,aP⟩:∃w1,w.alloc (.cells #[.int .i64 0,.string ⟨#[]⟩] 163)=w1:=⟨_,rfl⟩
 have aF:Below w.heap.size w w1:=by rw[←aP];exact(zn _ _).alloc (zm _) _
 have Kl:ah w1 w.heap.size 163 [.int .i64 0,.string ⟨#[]⟩]:=by rw[←aP];exact ah.new w _ _
 have jY:=hr.below aF;have HR:=U jY;have HB:=U aF;have HV:=U Kl;have N:=U (And.intro n1 (And.intro n2 (And.intro n3 (And.intro n4 (And.intro n5 (And.intro n6 (And.intro n7 (And.intro n8 n9))))))));clear hr jY aF Kl n1 n2 n3 n4 n5 n6 n7 n8 n9;go_enter Tryz.func386,Tryz.ntmps386;go_wp2_with fail;clear aP;obtain⟨n1,n2,n3,n4,n5,n6,n7,n8,n9⟩:=N.o;refine(TL HR.o (n:Int) _ (by rw[n1]) n2 (by rw[zw];exact zC (by decide:cl 2 8≤32) (by rw[jH (by dsimp only;omega)];omega))).mono ?_;clear n1 n2 n3 n4 n5 n6 n7 n8 n9;rintro x w2 ⟨rfl,sH,eO⟩;have HR2:=U sH;have HK2:=U eO;clear sH eO;go_wp2_with fail;obtain⟨n1,n2,n3,n4,n5,n6,n7,n8,n9⟩:=N.o;refine(TL HR2.o (k:Int) _ (by rw[n4]) n5 (by rw[zw,zw,aA];exact zC (by decide:cl 1 8≤1) oQ)).mono ?_;clear n1 n2 n3 n4 n5 n6 n7 n8 n9;rintro x w3 ⟨rfl,hr3,gL⟩;have UJ:=U hr3;have HK3:=U (HK2.o.trans gL);clear hr3 gL;go_wp2_with fail;obtain⟨n1,n2,n3,n4,n5,n6,n7,n8,n9⟩:=N.o;refine(ai0 (k:=29) UJ.o (by simp only[zw,hL] at*;omega) _ m n7 n8 (by simp only[zw,hL] at*;omega)).mono ?_;clear n1 n2 n3 n4 n5 n6 n7 n8 n9;rintro x w4 ⟨A,c,rfl,QU,hr4,sO⟩;have HR4:=U hr4;have HK4:=U (HK3.o.trans sO)
 obtain⟨g,rfl,jr,FZ⟩:=QU.form (λe=>by
  have:=congrArg List.length e;rw[zD,hL] at this;cases this)
 have nY:=QU.len.1;rw[zD,hL] at nY;have BQ:¬(c=k):=oQ
 have hcell:∀j,j<29 - k→w4.cell? ⟨g,k+j,none⟩=some (.int .u8 0):=λj hj=>by
  rw[QU.cell (k+j) (by rw[zD,hL];omega),zaJ,zaj oQ];unfold zeros;rw[List.getElem_replicate];rfl
 have oI:ay w4 (some ⟨g,0,none⟩) nm:=by
  have h1:=QU.row.bytes.take k;rwa[qB oQ,zy oQ] at h1
 have XY:=λc2=>tN Tryz.underlying22 Tryz.underlying5 Tryz.underlying9 nm k hk w4 (some ⟨g,0,none⟩) c2 oI;have HO:=U QU;have HC:=U hcell;have HS:=U XY;clear hr4 sO QU hcell oI XY;have aDs:¬((29:Int)<k):=oQ
 go_wp2_with fail
 go_loop [27] (λi=>∃(j:Nat),j≤29 - k∧i=.int .i64 j) (λi=>29 - k - (intOf i).toNat)
 case atStart=>exact⟨0,oQ,rfl⟩
 case round=>
  obtain⟨j,hj,rfl⟩:=hrel;by_cases PI:j<29 - k
  ·have hc:=HC.o j PI
   go_wp2_with fail;go_round
   case rel=>exact⟨j+1,oQ,by go_num⟩
   case measure=>simp[intOf];omega
  ·obtain rfl:j=29 - k:=oQ
   have XY:=HS.o c;have dZ:=HV.o.kept HK4.o oQ;obtain⟨w5,IY⟩:∃w5,(w4.alloc (.cells #[.int .i64 0,.string ⟨#[]⟩] 163))=w5:=⟨_,rfl⟩
   have oU:Below w4.heap.size w4 w5:=by rw[←IY];exact(zn _ _).alloc (zm _) _
   have TN:ah w5 w4.heap.size 163 [.int .i64 0,.string ⟨#[]⟩]:=by rw[←IY];exact ah.new w4 _ _
   have hv6:=(TN.aB 0 (.int .i64 n)).aB 1 (.string ⟨nm.toArray⟩);have xK:=(Kept.setCell (r:=w4.heap.size) w5 0 (.int .i64 n)).trans (Kept.setCell (r:=w4.heap.size) (w5.setCell ⟨w4.heap.size,0,none⟩ (.int .i64 n)) 1 (.string ⟨nm.toArray⟩));have q0:=TN.free 0;have q1:=(TN.aB 0 (.int .i64 n)).free 1;have p0:=TN.cell 0;have p1:=(TN.aB 0 (.int .i64 n)).cell 1;simp only[zk,zl,zf,zi] at hv6 p0 p1;obtain⟨w6,yC⟩:∃w6,((w5.setCell ⟨w4.heap.size,0,none⟩ (.int .i64 n)).setCell ⟨w4.heap.size,1,none⟩ (.string ⟨nm.toArray⟩))=w6:=⟨_,rfl⟩
   rw[yC] at hv6 xK;have Gf:=(dZ.below oU).kept xK (by have:=HB.o.size;have:=dZ.lt;omega);have i0:=hv6.cell 0;have i1:=hv6.cell 1;have j0:=Gf.cell 0;have j1:=(Gf.aB 0 (.int .i64 n)).cell 1;have k0:=Gf.free 0;have k1:=(Gf.aB 0 (.int .i64 n)).free 1;simp only[zk,zl,zf,zi] at i0 i1 j0 j1;have hr6:xO w6 r m s:=by
    have h5:=HR4.o.below oU;rw[←yC];exact(h5.TM TN (Kept.setCell w5 0 (.int .i64 n))).TM (TN.aB 0 (.int .i64 n)) (Kept.setCell _ 1 (.string ⟨nm.toArray⟩))
   have hv8:=(Gf.aB 0 (.int .i64 n)).aB 1 (.string ⟨nm.toArray⟩);simp only[zk,zl] at hv8;have Hb4:=U oU;have Hv8:=U hv8;have Hk6:=U xK;have nO:∀W,Below w6.heap.size w6 W→ah ((W.setCell ⟨w.heap.size,0,none⟩ (.int .i64 n)).setCell ⟨w.heap.size,1,none⟩ (.string ⟨nm.toArray⟩)) w.heap.size 163 [.int .i64 n,.string ⟨nm.toArray⟩]∧xO ((W.setCell ⟨w.heap.size,0,none⟩ (.int .i64 n)).setCell ⟨w.heap.size,1,none⟩ (.string ⟨nm.toArray⟩)) r m s∧Kept r w ((W.setCell ⟨w.heap.size,0,none⟩ (.int .i64 n)).setCell ⟨w.heap.size,1,none⟩ (.string ⟨nm.toArray⟩)):=by
    intro W hW;have a1:=Gf.below hW;have a2:=a1.aB 0 (.int .i64 n);have a3:=a2.aB 1 (.string ⟨nm.toArray⟩);simp only[zk,zl] at a2 a3;have b1:=hr6.below hW;have e1:=Kept.setCell (r:=w.heap.size) W 0 (.int .i64 n);have e2:=Kept.setCell (r:=w.heap.size) (W.setCell ⟨w.heap.size,0,none⟩ (.int .i64 n)) 1 (.string ⟨nm.toArray⟩);refine⟨a3,(b1.TM a1 e1).TM a2 e2,?_⟩;have hB:=HB.o;have g1:Kept r w w4:=(Kept.of_below hB).trans HK4.o;have g2:Below w4.heap.size w4 w6:=by
     rw[←yC];exact(oU.setCell (p:=⟨w4.heap.size,0,none⟩) (zm _) _).setCell (p:=⟨w4.heap.size,1,none⟩) (zm _) _
    exact(((g1.trans (Kept.of_below g2)).trans (Kept.of_below hW)).PD (zm _) _ _).PD (zm _) _ _
   have Hv6:=U hv6;have Hb6:=U Gf;have anL:=U nO;clear dZ TN hv6 Gf xK hv8 oU hr6 nO;have heq:=agA n nm;rcases h with hd|hz0
   ·have dV:decide (n=0∧nm=[])=false:=decide_eq_false (λh=>by have:=hd.1;have h2:=h.1;simp at this;omega)
    rw[dV] at heq;have Heq:=U heq;clear heq dV;go_wp2_with (refine bB (.bool false) rfl (xS _ _ rfl rfl rfl yO (Heq.o _)) ?_);refine(E_ hd _).mono ?_;rintro x w7 ⟨rfl,tH⟩;have i0:=(Hv6.o.below tH).cell 0;have i1:=(Hv6.o.below tH).cell 1;have j0:=(Hb6.o.below tH).cell 0;have j1:=((Hb6.o.below tH).aB 0 (.int .i64 n)).cell 1;have k0:=(Hb6.o.below tH).free 0;have k1:=((Hb6.o.below tH).aB 0 (.int .i64 n)).free 1;simp only[zk,zl,zf,zi] at i0 i1 j0 j1;have ME:=U tH;clear tH;go_wp2_with fail;obtain⟨f1,f2,f3⟩:=anL.o w7 ME.o;exact bodyPost_ret (v:=.tuple #[.agg #[.int .i64 n,.string ⟨nm.toArray⟩],.bool true]) (xq rfl rfl rfl f1 Tryz.underlying163 rfl kQ) rfl ⟨rfl,f2,f3⟩
   ·injection hz0 with e1 e2
    have dV:decide (n=0∧nm=[])=true:=decide_eq_true ⟨e1,e2⟩;rw[dV] at heq;have Heq:=U heq;clear heq dV e1 e2;go_wp2_with (refine bB (.bool true) rfl (xS _ _ rfl rfl rfl yO (Heq.o _)) ?_);obtain⟨f1,f2,f3⟩:=anL.o w6 (zn _ _);exact bodyPost_ret (v:=.tuple #[.agg #[.int .i64 n,.string ⟨nm.toArray⟩],.bool true]) (xq rfl rfl rfl f1 Tryz.underlying163 rfl kQ) rfl ⟨rfl,f2,f3⟩
end
section
open Go.RowKit Go.Shelf Go.Maps O
attribute [local go_sem] Oper.semAt_some
section
variable {v w:World} {sp d B b n id:Nat} {C E:Nat→Bytes} {F:Nat→Prop} {k l:Int} {c:Bytes} {D R:List Int} {r:Int}
theorem bE.range {w:World} {hb:Nat} {id k l s:Int} {D R:List Int} {r:Int} (h:bE w hb id k l s D r R):w.rangeAt hb 1 (aS (nd k l s D r)):=h.1.part 1 20 _ (by
 have jO:=cO k l s D r h.2.1;rw[pE,zaI,za2,qB oQ,zy oQ])
theorem Ws {p tb:Nat} (hV:Base v sp d B C) (h:Wk v w p b sp d B C E n F) (hF:mh E B id k l c D r R) (ht:w.cell? ⟨tb,0,none⟩=some (.int .i64 id)):
  Calls Tryz.prog 279 #[.pointer (some ⟨p,0,none⟩),.pointer (some ⟨tb,0,none⟩)] w λe w'=>e=.returned (.agg (aL (nd k l c.length D r)))∧∃F',Wk v w' p b sp d B C E n F'∧Mv d v F w F' w':=by
 have hD:=hF.iW.ld;have jO:(nd k l (c.length:Int) D r).length=20:=cO _ _ _ _ _ hD;obtain⟨s,hs⟩:∃s:Int,(c.length:Int)=s:=⟨_,rfl⟩
 rw[hs] at jO ⊢;have Hs:=U hs;have fU:(Tryz.prog.info? 138).map (·.size)=some (nd k l s D r).length:=by rw[jO];kernel_rfl
 obtain⟨w1,aP⟩:∃w1,w.alloc (.cells (aL aQ) 138)=w1:=⟨_,rfl⟩
 have aF:Below w.heap.size w w1:=by rw[←aP];exact(zn _ _).alloc (zm _) _
 have AL:IsNode w1 w.heap.size 138 aQ:=by rw[←aP];exact IsNode.new _ _ _
 have ht1:w1.cell? ⟨tb,0,none⟩=some (.int .i64 id):=(aF.cell (p:=⟨tb,0,none⟩) (zq w _ ht)).trans ht;have H1:=U (h.below aF);have H:=U h;have HB:=U aF;have HN:=U AL;have HV:=U hV;have HF:=U hF;have Hi:=U fU;have Hl:=U (show(aS aQ).length=(nd k l s D r).length by rw[jO,aO];rfl);clear h aF AL hV hF fU hs jO ht;go_enter Tryz.func279,Tryz.ntmps279;go_wp2_with (refine Great.wpList_runTo rfl _ rfl _ _ (bg (t:=138) rfl (Z:=aQ) kQ) ?_);refine(mM HV.o H1.o HF.o).mono ?_;rintro e w2 ⟨hb,rfl,xk,hH,F2,h2,lJ,bC⟩;rw[Hs.o] at hH;have hn:¬F w.heap.size:=λhf=>by have:=(H.o.lt _ hf).2;omega
 have Yp:=U (show IsNode w2 w.heap.size 138 aQ from bC.aW (show ah w1 w.heap.size 138 (aS aQ) from HN.o) dQ hn);have GL:¬F2 w.heap.size:=bC.apart HN.o.lt hn;have HR:=U hH.range;have H2:=U h2;have Gh:=U (Mv.after HB.o bC H.o.quiet (λk hk=>(H.o.lt k hk).2));clear aP hH h2 bC ht1;go_wp2_with (first|(refine aX rfl 138 _ rfl hb 1 rfl _ _ HR.o Tryz.underlying138 rfl Hi.o ?_)|(refine aK rfl 138 _ _ rfl w.heap.size _ (aS aQ) 138 rfl rfl Yp.o Hl.o Hi.o ?_;intro w3 Gc gL lg));refine bodyPost_ret (v:=.agg (aL (nd k l s D r))) (dN rfl rfl (show ah w3 w.heap.size 138 (aS (nd k l s D r)) from Gc) Tryz.underlying138 rfl (by rw[aO];exact Hi.o)) rfl ⟨rfl,F2,?_,Gh.o.kept gL (.inr (zm _))⟩;exact H2.o.keep (λk hk=>gL.block k (H2.o.lt k hk).2 (λe=>GL (e▸hk))) (Gh.o.kept gL (.inr (zm _))).q' gL.size
theorem Jk (hV:Base v sp d B C) (h:cB v w b sp d C E n F) (hF:mh E B id k l c D r R):
  Calls Tryz.prog 231 #[.agg #[.pointer (some ⟨b,0,none⟩),.int .i64 B],.int .i64 id] w λe w'=>e=.returned (.tuple #[.agg (aL (nd k l c.length D r)),.int .i64 0])∧∃F',cB v w' b sp d C E (up n) F'∧Mv d v F w F' w':=by
 have hD:=hF.iW.ld;have jO:(nd k l (c.length:Int) D r).length=20:=cO _ _ _ _ _ hD;obtain⟨N,hN⟩:∃N,nd k l (c.length:Int) D r=N:=⟨_,rfl⟩
 rw[hN] at jO ⊢;have HN:=U hN;have fU:(Tryz.prog.info? 138).map (·.size)=some N.length:=by rw[jO];kernel_rfl
 obtain⟨w1,aP⟩:∃w1,((w.alloc (.cells #[.pointer (some ⟨b,0,none⟩),.int .i64 B] 85)).alloc (.cells #[.int .i64 id] 3)).alloc (.cells (aL aQ) 138)=w1:=⟨_,rfl⟩
 obtain⟨aM,aF,hz1⟩:=boxes [([.pointer (some ⟨b,0,none⟩),.int .i64 B],85),([.int .i64 id],3),(aS aQ,138)] w w1 (by rw[←aP];rfl);have x0:ah w1 w.heap.size 85 [.pointer (some ⟨b,0,none⟩),.int .i64 B]:=aM 0 _ rfl;have x1:ah w1 (w.heap.size+1) 3 [.int .i64 id]:=aM 1 _ rfl;have x2:ah w1 (w.heap.size+2) 138 (aS aQ):=aM 2 _ rfl;have y0:=x0.cell 0;have y1:=x0.cell 1;simp only[zf,zi] at y0 y1;have bA:=h.lt;have H:=U h;have H1:=U (h.below aF);have HV:=U hV;have HF:=U hF;have X1:=U x1;have X2:=U x2;have HB:=U aF;have iK:=U bA;have Hi:=U fU;have Hl:=U (show(aS aQ).length=N.length by rw[jO,aO];rfl);have aiT:=U jO;clear h hV aM aF hz1 x0 x1 x2 bA hF fU hN jO;go_enter Tryz.func231,Tryz.ntmps231;go_wp2_with (refine Great.wpList_runTo rfl _ rfl _ _ (bg (t:=138) rfl (Z:=aQ) kQ) ?_);refine(Wo HV.o H1.o (fn:=279) (caps:=#[.pointer (some ⟨w.heap.size+1,0,none⟩)]) (λ_ _=>rfl) (PE:=λE'=>E'=E) (n':=n) (Post:=λz X _=>z=N∧X=[]) (λz _ _ h=>by rw[h.1];exact aiT.o) (λ_ _ _ _ h _=>h) (λw2 p b' G F1 hW hG fA=>?_)).mono ?_
 ·have hn:¬F (w.heap.size+1):=λhf=>by have:=(iK.o _ hf).2;omega
  have dh:=hG.aW X1.o dQ hn;refine(Ws HV.o hW HF.o (dh.cell 0)).mono ?_;rintro e w3 ⟨rfl,F2,h1,h2⟩;rw[HN.o];exact⟨N,[],rfl,⟨rfl,rfl⟩,sQ,E,F2,rfl,h1,sQ,h2⟩
 rintro e w2 ⟨z,X,rfl,⟨rfl, -⟩,E',rfl,F',h1, -,h2⟩;have hn:¬F (w.heap.size+2):=λhf=>by have:=(iK.o _ hf).2;omega
 have Yp:=U (h2.aW X2.o dQ hn);have GL:¬F' (w.heap.size+2):=h2.apart X2.o.lt hn;have HG:=U (And.intro h1 (Mv.after HB.o h2 H.o.quiet (λk hk=>(H.o.lt k hk).2)));clear h1 h2 aP y0 y1;go_wp2_with (refine aK rfl 138 _ _ rfl (w.heap.size+2) z (aS aQ) 138 rfl rfl Yp.o Hl.o Hi.o ?_;intro w3 Gc gL lg);have dP:=HG.o.2.kept gL (.inr oQ);refine bodyPost_ret (v:=.tuple #[.agg (aL z),.int .i64 0]) (xq rfl rfl rfl (show ah w3 (w.heap.size+2) 138 (aS z) from Gc) Tryz.underlying138 rfl (by rw[aO];exact Hi.o)) rfl ⟨rfl,F',?_,dP⟩;exact HG.o.1.keep (λk hk=>gL.block k (HG.o.1.lt k hk).2 (λe=>GL (e▸hk))) dP.q' gL.size
end
end
section
open Go.RowKit Go.Shelf O
theorem aaL (l:Bytes) (o:Nat) (y:Bytes):(ow l o y).map aH=(l.map aH).take o++y.map aH++(l.map aH).drop (o+y.length):=by
 unfold ow;rw[zW,zW,List.map_take,List.map_drop]
theorem Fa {α:Type} {A ys:List α} {o k:Nat} (hk:ys.length=k) (ho:o≤A.length) (i:Nat):(A.take o++ys++A.drop (o+k))[i]? =if i<o then A[i]? else if i<o+k then ys[i - o]? else A[i]?:=by
 have e1:(A.take o).length=o:=by rw[zF];omega
 by_cases h1:i<o
 ·rw[if_pos h1,zP,qo oQ,qh,if_pos h1]
 ·rw[if_neg h1]
  by_cases h2:i<o+k
  ·rw[if_pos h2,qo (by rw[zw];omega),qd oQ,e1]
  ·rw[if_neg h2,qd (by rw[zw];omega),zw,e1,hk,zaB]
   congr 1;omega
theorem A_ {base:Nat} {w:World} {g o n cd m cs c:Nat} {l y:Bytes} {a:Addr} (ty:TypeId) (h:Own 5 base w (some ⟨g,0,none⟩) c (l.map aH)) (hy:y.length=min m n) (aeF:∀j,(hj:j<y.length)→w.cell? (a.add j)=some (aH y[j])) (aDt:o+y.length≤l.length):
  ∃w',(Builtin.copy_ #[22,22] ty #[.slice (some ⟨g,o,none⟩) n cd,.slice (some a) m cs]).run Tryz.prog w=.ok (.int .i64 (y.length:Nat)) w'∧Own 5 base w' (some ⟨g,0,none⟩) c ((ow l o y).map aH)∧Kept g w w'∧w'.heap.size=w.heap.size:=by
 have gJ:(Tryz.prog.info? 5).map (·.size)=some 1:=kQ
 rcases h.2 with⟨hv,hn⟩|⟨g',cap,cur,hv,hb,hg,JG,Cn,vS,ht⟩
 ·cases hv
 ·injection hv with hv h2 hc
  injection hv with hv;injection hv with hv;subst hv hc;have hlc:(l.map aH).length=l.length:=zD ..;rw[hlc] at JG;have arU:cur.size=c:=oQ
  have hrun:=run_copy_row (P:=Tryz.prog) w 22 22 ty 5 g o n cd a m cs cur 5 (y.map aH) Tryz.underlying22 gJ hg (by rw[zD,hy])
   (λj u hu=>by
    obtain⟨hj,rfl⟩:=zL.1 hu;rw[zaJ];exact aeF j (by simpa using hj))
   (by rw[zD];omega) (eP y)
  rw[zD] at hrun;have hx:∀j,j<l.length→(l.map aH)[j]? =cur.toList[j]?:=λj hj=>by
   conv=>lhs;rw[←ht]
   rw[qh,if_pos (by rw[hlc];omega)]
  have anM:(ow l o y).length=l.length:=by rw[iP oQ];omega
  refine⟨_,hrun,?_,⟨sQ,λk hk dV=>setRow_other w g k _ dV,λB hB _=>below_setRow (zn _ _) hB _⟩,sQ⟩;unfold Own;have LZ:((ow l o y).map aH).length=l.length:=by rw[zD,anM]
  rw[LZ];refine⟨by rw[LZ,Ug],.inr ⟨g,c,_,rfl,hb,setRow_heap w g cur _ 5 (0,0) hg,JG,Cn,?_,?_⟩⟩
  ·simp only[zQ,zw,zF,zR,za4,zD]
   omega
  ·rw[Ug]
   apply qG;intro i;rw[qh,aaL];have hym:(y.map aH).length=y.length:=zD ..;by_cases hi:i<l.length
   ·rw[if_pos hi]
    show((cur.toList.take o++y.map aH++cur.toList.drop (o+y.length)).toArray).toList[i]? =_;rw[List.toList_toArray,Fa hym (by rw[za4];omega),Fa hym (by rw[hlc];omega),hx i hi]
   ·rw[if_neg hi]
    symm
    rw[List.getElem?_eq_none_iff,←aaL,LZ];omega
end
end Go.Proofs.YtdjdpeadohobmaaGreatDoor
