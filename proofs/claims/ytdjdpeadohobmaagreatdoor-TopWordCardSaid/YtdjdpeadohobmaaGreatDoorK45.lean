/- A part of the walk below the law: what is proved here is used by later parts; no further condition. -/
import Derived.Deep.DeepHandedRow
import Derived.Lib.ConvBytes
import Derived.Lib.ItoaLen
import Derived.Lib.LaidTab
import Derived.Lib.TrailingZeros
import Derived.Lib.UnsafeStr
import Derived.Test.YtdjdpeadohobmaaGreatDoorCards
import Derived.Test.YtdjdpeadohobmaaGreatDoorK01
import Derived.Test.YtdjdpeadohobmaaGreatDoorK02
import Derived.Test.YtdjdpeadohobmaaGreatDoorK07
import Derived.Test.YtdjdpeadohobmaaGreatDoorK34
import Derived.Test.YtdjdpeadohobmaaGreatDoorK35
import Derived.Test.YtdjdpeadohobmaaGreatDoorK38
import Derived.Test.YtdjdpeadohobmaaGreatDoorK39
import Derived.Test.YtdjdpeadohobmaaGreatDoorK41
import Derived.Test.YtdjdpeadohobmaaGreatDoorK42
import Derived.Test.YtdjdpeadohobmaaGreatDoorK43
import Derived.Test.YtdjdpeadohobmaaGreatDoorK44
import Derived.Test.YtdjdpeadohobmaaGreatDoorProg
import Derived.Test.YtdjdpeadohobmaaGreatDoorTie
set_option linter.unusedVariables false
set_option linter.unusedSimpArgs false
set_option maxRecDepth 100000
set_option maxHeartbeats 20000000
namespace Go.Proofs.YtdjdpeadohobmaaGreatDoor
section
open Go.RowKit Go.WideShapes Go.ChangeShapes
section
variable {H:Type} {enc:TypeId×Value→H} {P:Program}
theorem Uj {K:IntKind} {W:World} {t e:TypeId} {base:Nat} {v:Value} {d:DataW H} {p:List MemPlace} (ht:P.underlying t=some (.slice e)) (he:P.underlying e=some (.int K)) (hc:P.cellsOf e=1)
  (jy:Value.okWide P W .any base t v) (h:DataW.Trod enc P W 0 (λ_=>true) true t v d p):
  ∃(a:Option Addr) (l:List Int) (c:Nat),v=.slice a l.length c∧dY K W a l∧l.length≤c∧c≤maxLen∧∀x∈l,(Lit.int K x).wf=true:=by
 obtain⟨a0,len,cap,rfl⟩:=okWide_slice ht jy;obtain⟨fuel,hf⟩:=h;rcases open_ints ht he hc hf with⟨vS,_⟩|⟨a,len',cap',zs,vS,_,hl,hm,hz,_,hcell,hwz⟩
 ·simp[Value.cells] at vS
  obtain⟨rfl,rfl,rfl⟩:=vS;exact⟨none,[],0,rfl,dY.nil _ _ _,sQ,by simp[maxLen],sQ⟩
 ·simp[Value.cells] at vS
  obtain⟨rfl,rfl,rfl⟩:=vS;simp at hz;refine⟨some a,zs.take len,cap,by rw[zF,qP oQ],?_,by rw[zF,qP oQ];exact hl,hm,λx hx=>hwz x (List.mem_of_mem_take hx)⟩;by_cases h0:len=0
  ·subst h0;rw[zaA];exact dY.nil _ _ _
  ·have hs:a.spot=none:=by
    have:=hcell 0 oQ;cases Bq:a.spot with
    |none=>rfl
    |some s=>
     simp only[World.cell?,Addr.add,if_true,Bq,Option.isSome_some] at this
     split at this<;>cases this
   refine⟨a.block,a.off,λ_=>by cases a;simp_all,λi hi=>?_⟩;rw[zF] at hi;have CJ:=hcell i oQ;have ha:a.add i=⟨a.block,a.off+i,none⟩:=by
    unfold Addr.add
    split
    ·rename_i h;subst h;cases a;simp_all
    ·rfl
   rw[ha] at CJ;rw[CJ,List.getElem_take];have hi':i<zs.length:=oQ
   simp[hi']
end
end
section
open Go.RowKit Go.WideShapes
def Am (P:Program) (fits:TypeId→Bool):Nat→TypeId→Bool
 |0,_=>false
 |d+1,e=>fits e||match P.underlying e with
  |some (.struct fs)=>fs.any λf=>Am P fits d f.type
  |some (.array _ e')=>Am P fits d e'
  |_=>false
theorem Ao {P:Program} {fits:TypeId→Bool}:∀(d:Nat) (e cnt off n:Nat),rowAt P fits d e cnt off n=true→Am P fits d e=true
 |0,_,_,_,_,h=>by simp[rowAt] at h
 |d+1,e,cnt,off,n,h=>by
  unfold rowAt at h;unfold Am;dsimp only at h
  split at h
  ·cases h
  ·rw[Bool.or_eq_true] at h ⊢
   rcases h with h|h
   ·simp only[zad] at h
    exact .inl h.2
   ·rw[zad] at h
    obtain⟨-,h⟩:=h
    right
    split at h
    ·rename_i fs hu
     simp only[hu];rw[zad] at h;obtain⟨-,h⟩:=h;obtain⟨i,hi,h⟩:=Array.any_eq_true.1 h;simp only[zad] at h;exact Array.any_eq_true.2 ⟨i,hi,Ao d _ _ _ _ h.2⟩
    ·rename_i m e' hu
     simp only[hu];exact Ao d _ _ _ _ h
    ·cases h
theorem aha:(List.range Tryz.prog.types.size).all (λe=> !Am Tryz.prog (sameLayout Tryz.prog Tryz.prog.depth · 5) Tryz.prog.depth e||decide (BT e))=true:=kQ
theorem ac9:Tryz.prog.types.size=447:=kQ
theorem YC:Tryz.prog.depth=1096:=kQ
theorem Um {e:Nat} (h:Am Tryz.prog (sameLayout Tryz.prog Tryz.prog.depth · 5) Tryz.prog.depth e=true):BT e:=by
 by_cases he:e<Tryz.prog.types.size
 ·have h1:=qU.1 aha e (zao.2 he)
  rw[h,Bool.not_true,Bool.false_or,decide_eq_true_iff] at h1;exact h1
 ·rw[ac9] at he
  unfold BT;have he:=Nat.le_of_not_lt he
  iterate 12 right
  exact he
theorem ac_ {row cnt off n:Nat} (h:liesAt Tryz.prog Tryz.prog.depth row cnt off 5 n=true):BT row:=by
 obtain⟨D,hD⟩:∃D,Tryz.prog.depth=D+1:=⟨1095,YC⟩
 have h2:liesAt Tryz.prog (D+1) row cnt off 5 n=true:=by rw[←hD];exact h
 unfold liesAt at h2;rw[Tryz.underlying5] at h2;simp only[zbd] at h2;exact Um (Ao _ _ _ _ _ h2)
theorem YD {W:World} {base:Nat} {a:Option Addr} {l:List UInt8} {n c:Nat} (hn:l.length=n) (jy:Value.okWide Tryz.prog W .any base 22 (.slice a n c)) (hb:ay W a l):cZ W a l:=by
 by_cases h0:l=[]
 ·exact .inl h0
 ·obtain⟨b,off,ha,hc⟩:=hb
  have ha:=ha h0;subst ha;unfold Value.okWide at jy;rw[Tryz.underlying22] at jy;simp only at jy;unfold Cell.okWide at jy;rw[Tryz.underlying22] at jy;simp only at jy;unfold Cell.ok at jy;rw[Tryz.underlying22] at jy;simp only at jy;obtain⟨-, -, -, -,row,cells,hsh,hl⟩:=jy;have Un:=ac_ hl;unfold World.shape? at hsh;simp only at hsh
  split at hsh
  ·rename_i C T fr hh
   injection hsh with hsh;injection hsh with h1 h2;subst h1;refine .inr ⟨b,off,C,⟨T,fr,Un⟩,rfl,hh,λi hi=>?_⟩;have h3:=hc i hi;unfold World.cell? at h3;simp only[hh] at h3;exact h3
  ·cases hsh
end
section
open Go.ChangeShapes Go.WideShapes Go.ChangeAt Go.RowKit
theorem Tryz.TQ:Tryz.prog.cellsOf 5=1:=kQ
theorem Tryz.aa3:Tryz.prog.cellsOf 3=1:=kQ
theorem Oi:Tryz.pinned.checked.prog.inPlace 3=Rows.topWordRow.inPlace:=kQ
theorem Fp:Tryz.pinned.checked.prog.unfollowed 3=Rows.topWordRow.unfollowed:=kQ
theorem K3:Tryz.pinned.checked.prog.recurses 3=Rows.topWordRow.recurses:=kQ
theorem WJ:Tryz.pinned.checked.prog.varsNamed 3=Rows.topWordRow.named:=kQ
theorem WK:mapsRowed Tryz.pinned.checked.prog=true:=kQ
theorem aeR:namedTie Tryz.pinned.checked.prog Rows.topWordRow.named (OpenSpec.ofChange Rows.topWordSpec).bare.vars=true:=kQ
theorem WL:Tryz.pinned.checked.prog.stopsHeard=true:=kQ
theorem WM:Tryz.pinned.checked.prog.mayEnter=true:=kQ
theorem Rs:Tryz.pinned.checked.prog.liftsFinal=Rows.topWordRow.lifted:=kQ
theorem Rt:joinedFacts Tryz.pinned.checked.prog 3 Tryz.f3 (OpenSpec.ofChange Rows.topWordSpec).bare Rows.topWordRow=true:=by
 unfold joinedFacts;rw[Oi,Fp,K3,WJ,WK,aeR,WL,WM,Rs]
 kernel_rfl
theorem ajm:Tryz.pinned.checked.prog.funcNamed Rows.topWordRow.func=some 3:=kQ
end
section
open Go.RowKit Go.Shelf Go.Maps O
attribute [local go_sem] Oper.semAt_some
section
variable {v w w1:World} {fb sp d B P q nn b p t1 t2 t3 t4:Nat} {C:Nat→Bytes} {cl yo:Bool} {op:Op} {G:Nat→Prop}
theorem Xi {id pt:Nat} (hj:jI v w d B C sp w1 p b) (x1:ah w1 t1 2 [.int .i64 0]) (x2:ah w1 t2 3 [.int .i64 0]) (x4:ah w1 t4 2 [.int .i64 0]) (x3:ah w1 t3 223 [.int .i64 id,.int .i64 pt]) (n4:t4≠b∧v.heap.size≤t4∧t4≠t3∧t4≠t1∧t4≠p):
  Calls Tryz.prog 162 (#[.pointer (some ⟨p,0,none⟩)]++#[.pointer (some ⟨t1,0,none⟩),.pointer (some ⟨t2,0,none⟩),.pointer (some ⟨t3,0,none⟩),.pointer (some ⟨t4,0,none⟩)]) w1 λe w2=>(∃x,e=.returned x)∧∃E' F2,(E'=C∧ah w2 t3 223 [.int .i64 id,.int .i64 pt]∧ah w2 t4 2 [.int .i64 0])∧cB v w2 b sp d C E' 0 F2∧Mv d v (λk=>k=b∨k=t4) w1 (λk=>F2 k∨k=t4) w2:=by
 have c1:=x1.cell 0;have c2:=x2.cell 0;have c4:=x4.cell 0;have f4:=x4.free 0;simp only[zf] at c1 c2 c4;have HJ:=U hj;have X3:=U x3;have X4:=U x4;have X1:=U x1;clear hj x1 x2 x3 x4;go_enter Tryz.func162,Tryz.ntmps162;go_wp2_with fail;refine(pI _).mono ?_;rintro e w1 ⟨⟨u,rfl⟩,rfl⟩;go_wp2_with fail;obtain⟨w2,iy⟩:∃w2,w1.setCell ⟨t4,0,none⟩ (.int .i64 0)=w2:=⟨_,rfl⟩
 have eO:Kept t4 w1 w2:=by rw[←iy];exact Kept.setCell _ _ _
 have y4:ah w2 t4 2 [.int .i64 0]:=by rw[←iy];exact X4.o.aB 0 (.int .i64 0)
 rw[iy];refine(pI _).mono ?_;rintro e Gj ⟨⟨u,rfl⟩,rfl⟩;have hS:=HJ.o.Bd;have nI:=(hS.lt b rfl).2
 have hM:Mv d v (λk=>k=b∨k=t4) w1 (λk=>k=b∨k=t4) w1:=Mv.refl HJ.o.base.dev HJ.o.quiet (λk hk=>by
  rcases hk with rfl|rfl
  ·exact hS.lt k rfl
  ·exact⟨n4.2.1,X4.o.lt⟩)
 have hM2:=hM.kept eO (.inl (.inr rfl));have bV:=hS.keep (λk hk=>eO.block k (hS.lt k hk).2 (λe=>by subst hk;exact n4.1 e.symm)) hM2.q' eO.size;have HZ:=U (And.intro (And.intro (X3.o.kept eO (λe=>n4.2.2.1 e.symm)) y4) (And.intro bV hM2));clear iy eO y4 hS hM hM2 bV;go_wp2_with fail;go_end0;exact⟨⟨_,rfl⟩,C,_,⟨rfl,HZ.o.1⟩,HZ.o.2⟩
theorem Xj {fd id pt:Nat} (h:fI v fb d B P q nn C cl yo op G) (Gw:nn≤15) (hB:4≤B∧B≤3840) (hC:∀i,B≤i→C i=[]) (hq:q<1000000) (sS:fd<1000) (hop:op fd=some (id,pt)):
  Calls Tryz.prog 95 #[.pointer (some ⟨fb,0,none⟩),.int .i64 fd,.int .i64 0,.int .i64 0] v λe w'=>e=.returned (.tuple #[.int .i64 0,.int .i64 0])∧∃F',fI w' fb d B P q nn C cl yo (f_ op fd (some (id,0))) F'∧Step G v F' w':=by
 have lq:Below v.heap.size v ((v.alloc (.cells #[.int .i64 0] 2)).alloc (.cells #[.int .i64 0] 3)):=((zn _ _).alloc (zm _) _).alloc sQ _;obtain⟨m,c1, -, -,hL, -⟩:=(h.below lq).sP;have hl:=hL fd sS;rw[hop] at hl;replace hl:(Instr.lookup 104 (.map (some m)) (.int .i64 (fd:Int)) true).run Tryz.prog ((v.alloc (.cells #[.int .i64 0] 2)).alloc (.cells #[.int .i64 0] 3))=.ok (.tuple #[.agg #[.int .i64 id,.int .i64 pt],.bool true]) ((v.alloc (.cells #[.int .i64 0] 2)).alloc (.cells #[.int .i64 0] 3)):=hl;clear hL lq;obtain⟨w1,aP⟩:∃w1,(((v.alloc (.cells #[.int .i64 0] 2)).alloc (.cells #[.int .i64 0] 3)).alloc (.cells #[.int .i64 id,.int .i64 pt] 223)).alloc (.cells #[.int .i64 0] 2)=w1:=⟨_,rfl⟩
 obtain⟨aM,aF,hz1⟩:=boxes [([.int .i64 0],2),([.int .i64 0],3),([.int .i64 id,.int .i64 pt],223),([.int .i64 0],2)] v w1 (by rw[←aP];rfl);have x0:ah w1 v.heap.size 2 [.int .i64 0]:=aM 0 _ rfl;have x1:ah w1 (v.heap.size+1) 3 [.int .i64 0]:=aM 1 _ rfl;have x2:ah w1 (v.heap.size+2) 223 [.int .i64 id,.int .i64 pt]:=aM 2 _ rfl;have x3:ah w1 (v.heap.size+3) 2 [.int .i64 0]:=aM 3 _ rfl;have vR:w1.heap.size=v.heap.size+4:=by simpa using hz1
 have wT:=U aP;have HF:=U h;have HB:=U aF;have X0:=U x0;have X1:=U x1;have X2:=U x2;have X3:=U x3;have HC:=U hC;clear h aM aF hz1 x0 x1 x2 x3 aP hC;go_enter Tryz.func95,Tryz.ntmps95;go_wp2_with fail;rw[wT.o];refine(jJ HF.o hB HB.o hq (n':=0) oQ (fn:=162) (λ_ _=>rfl) (X:=(· =v.heap.size+3)) (λk h=>by subst h;omega) (PE:=λE' W=>E'=C∧ah W (v.heap.size+2) 223 [.int .i64 id,.int .i64 pt]∧ah W (v.heap.size+3) 2 [.int .i64 0]) (λE' W h=>by rw[h.1];exact HC.o) (λsp w2 p b hj=>?_)).mono ?_
 ·have Lv:=hj.new
  exact Xi hj (hj.aW X0.o oQ) (hj.aW X1.o oQ) (hj.aW X3.o oQ) (hj.aW X2.o oQ) ⟨oQ,oQ,oQ,oQ,oQ⟩
 rintro e w3 ⟨rfl,E',w2,⟨rfl,oD,hx3⟩,hD⟩;obtain⟨q',cl',F',hS,bT, -,GZ, -⟩:=hD.ex;obtain⟨rfl,rfl,rfl⟩:=GZ rfl;have y2:ah w3 (v.heap.size+2) 223 [.int .i64 id,.int .i64 pt]:=(hD.keep _ oQ oD.lt oQ).trans oD;have y3:ah w3 (v.heap.size+3) 2 [.int .i64 0]:=(hD.keep _ oQ hx3.lt oQ).trans hx3;have HS:=U hS;have HSt:=U bT;have Y2:=U y2;have z2:=y2.cell 1;have g2:=y2.free 1;have z3:=y3.cell 0;simp only[zf,zi] at z2 z3;clear hS bT hD oD hx3 y2 y3 hl c1;go_wp2_with fail;obtain⟨w4,gH⟩:∃w4,w3.setCell ⟨v.heap.size+1+1,1,none⟩ (.int .i64 0)=w4:=⟨_,rfl⟩
 have y4:ah w4 (v.heap.size+2) 223 [.int .i64 id,.int .i64 0]:=by rw[←gH];exact Y2.o.aB 1 (.int .i64 0)
 have iI:Step (· =v.heap.size+2) w3 (· =v.heap.size+2) w4:=by rw[←gH];exact Step.set1 (Y2.o.aV dQ) 1 _
 rw[gH];have hGv:=HF.o.lt;have h5v:=HF.o.ge.2.size;have xG:=HS.o.step iI (λk hk e=>by have:=hGv k hk;omega) (λk hk=>oQ);obtain⟨m',c1, -, -, -,hU, -⟩:=(xG.below (zn _ _).drew).sP;obtain⟨w6,hr,h6,xL⟩:=hU fd (id,0) sS Gw;rw[hop] at h6;replace hr:(Instr.mapUpdate 104 (.map (some m')) (.int .i64 (fd:Int)) (.agg #[.int .i64 id,.int .i64 0])).run Tryz.prog w4.drew=.ok () w6:=hr;have b0:=y4.cell 0;have b1:=y4.cell 1;simp only[zf,zi] at b0 b1;have La:Step F' w4 F' w6:=(Step.of_below (zn _ _).drew F').trans xL;have b2:=(La.cell (p:=⟨v.heap.size+1+1,1,none⟩) y4.lt (show¬F' (v.heap.size+2) from λhf=>by have:=hGv _ hf;omega)).trans b1;have HZ:=U (And.intro h6 ((HSt.o.inner iI (λk hk=>.inr oQ)).trans La));clear hU h6 xL iI xG y4 gH z2 g2 z3 La;refine wp_region_noPanic ?_;refine ak (S:=(λW=>W.cell? ⟨fb,1,none⟩=some (.map (some m'))∧W.cell? ⟨v.heap.size+2,0,none⟩=some (.int .i64 id)∧W.cell? ⟨v.heap.size+2,1,none⟩=some (.int .i64 0))) (m:=6) kQ ⟨c1,b0,b1⟩ (λaj=>?_);refine te 0 aj ?_;refine te 1 aj ?_;refine te 2 aj ?_;refine te 3 aj ?_;refine te 4 aj ?_;refine te 5 aj ?_;refine rE 6 λK hK=>?_;go_simp;refine kX hK ?_;clear hK K
 try simp only[Act.put,zh,zk,zl]
 refine aD ?_;go_wp2_with fail;go_ret2;exact⟨rfl,_,HZ.o⟩
end
section
variable {v w w1:World} {fb sp d B P q nn b p t1 t2:Nat} {C:Nat→Bytes} {cl yo:Bool} {op:Op} {G:Nat→Prop} {f:Nd} {dd:Bytes} {id pt ga oa len cd i:Nat}
theorem RO {z:Int} {a0:Option Addr} (hj:jI v w d B C sp w1 p b) (x1:ah w1 t1 22 [.slice a0 0 cd]) (x2:ah w1 t2 223 [.int .i64 id,.int .i64 pt]) (hlen:len=0) (hf:pt+len≤122880) (Gl:IntKind.i64.wrap ((pt:Int)+0)=z∧z=((pt+len:Nat):Int)):
  Calls Tryz.prog 154 (#[.pointer (some ⟨p,0,none⟩)]++#[.pointer (some ⟨t1,0,none⟩),.pointer (some ⟨t2,0,none⟩)]) w1 λe w2=>(∃x,e=.returned x)∧∃E' F2,(E'=C∧ah w2 t1 22 [.slice a0 0 cd]∧ah w2 t2 223 [.int .i64 id,.int .i64 pt])∧cB v w2 b sp d C E' 0 F2∧Mv d v (· =b) w1 F2 w2:=by
 have hw:=Gl.1;have FY:¬((122880:Int)<z):=oQ
 have ao3:(len:Int)≤4096:=oQ
 have c1:=x1.cell 0;have c2:=x2.cell 0;have c3:=x2.cell 1;simp only[zf,zi] at c1 c2 c3;have HJ:=U hj;have X1:=U x1;have X2:=U x2;have pY:=hj.new.2.2;have hz1:=(hj.Bd.lt b rfl).2;have c4:=hj.view.cell 0;have c5:=hj.view.cell 1;simp only[zf,zi] at c4 c5;clear hj x1 x2 Gl;go_enter Tryz.func154,Tryz.ntmps154;go_wp2_with fail;refine(pI _).mono ?_;rintro e w1 ⟨⟨u,rfl⟩,rfl⟩;go_wp2_with fail;refine bodyPost_ret (results_none rfl _ _ _) rfl ?_;exact⟨⟨_,rfl⟩,C,_,⟨rfl,X1.o,X2.o⟩,HJ.o.Bd,HJ.o.Bd.mv HJ.o.base⟩
end
section
variable {v:World} {fb d B P q nn:Nat} {C:Nat→Bytes} {cl yo:Bool} {op:Op} {G:Nat→Prop} {x f:Nd} {A T:nU} {s dd:Bytes} {fd pt ga oa len cd i:Nat}
theorem RQ {a0:Option Addr} {z:Int} (h:fI v fb d B P q nn C cl yo op G) (Gw:nn≤15) (hT:Tr C B x (A++(f,s)::T)) (hq:q<1000000) (sS:fd<1000) (hop:op fd=some (f.id,pt)) (hlen:len=0) (hf:pt+len≤122880) (Gl:IntKind.i64.wrap ((pt:Int)+0)=z∧z=((pt+len:Nat):Int)):
  Calls Tryz.prog 84 #[.pointer (some ⟨fb,0,none⟩),.int .i64 fd,.slice a0 0 cd] v λe w'=>e=.returned (.int .i64 0)∧∃F',fI w' fb d B P q nn C cl yo (f_ op fd (some (f.id,pt+len))) F'∧Step G v F' w':=by
 obtain⟨dv,hdv⟩:∃dv,Value.slice a0 0 cd=dv:=⟨_,rfl⟩
 rw[hdv];have lq:Below v.heap.size v (v.alloc (.cells #[dv] 22)):=(zn _ _).alloc (zm _) _;obtain⟨m,c1, -, -,hL, -⟩:=(h.below lq).sP;have hl:=hL fd sS;rw[hop] at hl;replace hl:(Instr.lookup 104 (.map (some m)) (.int .i64 (fd:Int)) true).run Tryz.prog (v.alloc (.cells #[dv] 22))=.ok (.tuple #[.agg #[.int .i64 f.id,.int .i64 pt],.bool true]) (v.alloc (.cells #[dv] 22)):=hl;clear hL lq;obtain⟨w1,aP⟩:∃w1,(v.alloc (.cells #[dv] 22)).alloc (.cells #[.int .i64 f.id,.int .i64 pt] 223)=w1:=⟨_,rfl⟩
 obtain⟨aM,aF,hz1⟩:=boxes [([dv],22),([.int .i64 f.id,.int .i64 pt],223)] v w1 (by rw[←aP];rfl);have x0:ah w1 v.heap.size 22 [dv]:=aM 0 _ rfl;have x1:ah w1 (v.heap.size+1) 223 [.int .i64 f.id,.int .i64 pt]:=aM 1 _ rfl;have vR:w1.heap.size=v.heap.size+2:=by simpa using hz1
 have wT:=U aP;have HF:=U h;have HB:=U aF;have X0:=U x0;have X1:=U x1;clear h aM aF hz1 x0 x1 aP;have hw:=Gl.1;have Hzq:=U Gl;have HT:=U hT;have iZ:=U hlen;clear hT Gl hlen;subst hdv;go_enter Tryz.func84,Tryz.ntmps84;go_wp2_with fail;rw[wT.o];refine(jJ HF.o HT.o.big HB.o hq (n':=0) oQ (fn:=154) (λ_ _=>rfl) (X:=λ_=>False) (λ_ h=>h.elim) (PE:=λE' W=>E'=C∧ah W v.heap.size 22 [.slice a0 0 cd]∧ah W (v.heap.size+1) 223 [.int .i64 f.id,.int .i64 pt]) (λE' W h=>by rw[h.1];exact HT.o.o) (λsp w2 p b hj=>?_)).mono ?_
 ·have Lv:=hj.new
  refine(RO hj (hj.aW X0.o (zm _)) (hj.aW X1.o oQ) iZ.o hf Hzq.o).mono ?_;rintro e w3 ⟨hx,E',F2,h1,h2,h3⟩;exact⟨hx,E',F2,h1,h2,mvX h3 (λ_ h=>h.elim)⟩
 rintro e w3 ⟨rfl,E',w2,⟨rfl,hx0,wJ⟩,hD⟩;obtain⟨q',cl',F',hS,bT, -,GZ,hnw⟩:=hD.ex;obtain⟨rfl,rfl,hFF⟩:=GZ rfl;have y0:ah w3 v.heap.size 22 [.slice a0 0 cd]:=(hD.keep _ oQ hx0.lt oQ).trans hx0;have y1:ah w3 (v.heap.size+1) 223 [.int .i64 f.id,.int .i64 pt]:=(hD.keep _ oQ wJ.lt oQ).trans wJ;have l7:=HF.o.lt;have ajy:∀k,F' k→k≠v.heap.size+1:=λk hk e=>by
  rcases hnw k hk with h1|h1
  ·have:=l7 k h1
   omega
  ·have:=wJ.lt
   omega
 have HS:=U hS;have HSt:=U bT;have Y1:=U y1;have z0:=y0.cell 0;have z1:=y1.cell 1;have g1:=y1.free 1;simp only[zf,zi] at z0 z1;clear hS bT hD y0 y1 hl c1;go_wp2_with fail;have hpz:(pt:Int)=z:=by have h1:=Hzq.o.2;have h2:=iZ.o;omega
 rw[hpz];clear hpz;obtain⟨w4,gH⟩:∃w4,w3.setCell ⟨v.heap.size+1,1,none⟩ (.int .i64 z)=w4:=⟨_,rfl⟩
 have y4:ah w4 (v.heap.size+1) 223 [.int .i64 f.id,.int .i64 z]:=by rw[←gH];exact Y1.o.aB 1 (.int .i64 z)
 have iI:Step (· =v.heap.size+1) w3 (· =v.heap.size+1) w4:=by rw[←gH];exact Step.set1 (Y1.o.aV dQ) 1 _
 rw[gH];have hGv:=HF.o.lt;have h5v:=HF.o.ge.2.size;have Pp:=ajy;have xG:=HS.o.step iI (λk hk e=>Pp k hk e) (λk hk=>oQ);obtain⟨m',c1, -, -, -,hU, -⟩:=(xG.below (zn _ _).drew).sP;obtain⟨w6,hr,h6,xL⟩:=hU fd (f.id,pt+len) sS Gw;rw[hop] at h6;replace hr:(Instr.mapUpdate 104 (.map (some m')) (.int .i64 (fd:Int)) (.agg #[.int .i64 f.id,.int .i64 z])).run Tryz.prog w4.drew=.ok () w6:=by rw[Hzq.o.2];exact hr
 have b0:=y4.cell 0;have b1:=y4.cell 1;simp only[zf,zi] at b0 b1;have La:Step F' w4 F' w6:=(Step.of_below (zn _ _).drew F').trans xL;have HZ:=U (And.intro h6 ((HSt.o.inner iI (λk hk=>.inr oQ)).trans La));clear hU h6 xL iI xG y4 gH z0 g1 z1 La;refine wp_region_noPanic ?_;refine ak (S:=(λW=>W.cell? ⟨fb,1,none⟩=some (.map (some m'))∧W.cell? ⟨v.heap.size+1,0,none⟩=some (.int .i64 f.id)∧W.cell? ⟨v.heap.size+1,1,none⟩=some (.int .i64 z))) (m:=6) kQ ⟨c1,b0,b1⟩ (λaj=>?_);refine te 0 aj ?_;refine te 1 aj ?_;refine te 2 aj ?_;refine te 3 aj ?_;refine te 4 aj ?_;refine te 5 aj ?_;refine rE 6 λK hK=>?_;go_simp;refine kX hK ?_;clear hK K
 try simp only[Act.put,zh,zk,zl]
 refine aD ?_;go_wp2_with fail;go_ret;exact⟨rfl,F',HZ.o.1,HZ.o.2⟩
end
section
variable {v w:World} {fb d B P q nop sp m n t1 p:Nat} {s:JS} {C C0:Nat→Bytes} {cl yo:Bool} {op:Op} {F Fs:Nat→Prop}
theorem RS {fd:Nat} (h:fI v fb d B P q nop C cl yo op F) (hB:4≤B∧B≤3840) (hq:q<1000000) (sS:fd<1000) (ho:(op fd).isSome=true):
  Calls Tryz.prog 88 #[.pointer (some ⟨fb,0,none⟩),.int .i64 fd] v λe w'=>e=.returned (.int .i64 0)∧∃F',fI w' fb d B P q nop C true yo op F'∧Step F v F' w':=by
 have HF:=U h;clear h;go_enter Tryz.func88,Tryz.ntmps88;go_wp2_with fail;refine(K_ HF.o sS).mono ?_;rintro e w1 ⟨rfl,aF⟩;rw[ho];have jD:=U aF;clear aF;go_wp2_with fail;refine(Bl (HF.o.below jD.o) hB hq).mono ?_;rintro e w2 ⟨rfl,F',hS,bT⟩;have HZ:=U (And.intro hS ((Step.of_below jD.o F).trans bT));clear hS bT;go_wp2_with fail;go_ret;exact⟨rfl,F',HZ.o⟩
end
section
variable {v:World} {fb:Nat} {F:Nat→Prop} {Φ:World→(Nat→Prop)→Prop} {ec nc mc Yu gU:Int} {path:ByteArray} {data:Value}
theorem R5 (jL:∀k,F k→k<v.heap.size) (h5:5≤v.heap.size) (bT:Stable Φ) (hc:∀W,Below v.heap.size v W→Calls Tryz.prog 88 #[.pointer (some ⟨fb,0,none⟩),.int .i64 gU] W λe w'=>e=.returned (.int .i64 ec)∧∃F',Φ w' F'∧Step F W F' w'):
  Calls Tryz.prog 87 #[.pointer (some ⟨fb,0,none⟩),bK Yu gU path data] v λe w'=>e=.returned (dH ec 0 0)∧∃F',Φ w' F'∧Step F v F' w':=by
 obtain⟨w1,aP⟩:∃w1,(v.alloc (.cells #[.int .i64 Yu,.int .i64 gU,.int .i64 0,.string path,.string ⟨#[]⟩,.int .i64 0,data] 40)).alloc (.cells #[.int .i64 0,.int .i64 0,.int .i64 0,.slice none 0 0,.slice none 0 0,.int .i64 0,.int .i64 0,.int .i64 0] 34)=w1:=⟨_,rfl⟩
 obtain⟨aM,aF,hz1⟩:=boxes [(yZ Yu gU path data,40),(aI 0 0 0,34)] v w1 (by rw[←aP];rfl);have x1:ah w1 (v.heap.size+1) 34 (aI 0 0 0):=aM 1 _ rfl;have wT:=U aP;have HB:=U aF;have X1:=U x1;have HC:=U hc;have G8:=U jL;have Gi:=U bT;have hz:w1.heap.size=v.heap.size+2:=by simpa using hz1
 clear hc jL bT aM aF hz1 aP x1;unfold bK;go_enter Tryz.func87,Tryz.ntmps87;go_wp2_with fail;rw[wT.o];refine(HC.o w1 HB.o).mono ?_;rintro e w2 ⟨rfl,F',hΦ,nJ⟩;have nM:¬F (v.heap.size+1):=λhf=>by have:=G8.o _ hf;omega
 have y1:=X1.o.step nJ nM;have a1:=nJ.apart X1.o.lt nM;have H2:=U (And.intro hΦ ((Step.of_below HB.o F).trans nJ));have hf:=λj=>y1.free j;have c0:=y1.cell 0;have c1:=y1.cell 1;have c2:=y1.cell 2;have c3:=y1.cell 3;have c4:=y1.cell 4;have c5:=y1.cell 5;have c6:=y1.cell 6;have c7:=y1.cell 7;simp only[aI,zf,zi] at c0 c1 c2 c3 c4 c5 c6 c7;have f0:=hf 0;have f1:=hf 1;have f2:=hf 2;have f3:=hf 3;have f4:=hf 4;have f5:=hf 5;have f6:=hf 6;have f7:=hf 7;have Y1:=U y1;clear hΦ nJ y1 hf;go_wp2_with fail;generalize hW:World.setCell _ _ _=W;have hs:AB w2 (v.heap.size+1) 34 W:=by
  rw[←hW]
  repeat refine AB.set dQ _ _ ?_
  exact⟨Step.refl _ _,_,Y1.o⟩
 have hs:=hs.1;have hV:ah W (v.heap.size+1) 34 (aI ec 0 0):=by
  rw[←hW];exact((((((((Y1.o.aB 0 (.int .i64 ec)).aB 1 (.int .i64 0)).aB 2 (.int .i64 0)).aB 3 (.slice none 0 0)).aB 4 (.slice none 0 0)).aB 5 (.int .i64 0)).aB 6 (.int .i64 0)).aB 7 (.int .i64 0))
 clear hW c0 c1 c2 c3 c4 c5 c6 c7;have c0:=hV.cell 0;have c1:=hV.cell 1;have c2:=hV.cell 2;have c3:=hV.cell 3;have c4:=hV.cell 4;have c5:=hV.cell 5;have c6:=hV.cell 6;have c7:=hV.cell 7;simp only[aI,zf,zi] at c0 c1 c2 c3 c4 c5 c6 c7
 (try simp only[Exit.inBlock,Exit.then])
 refine bodyPost_ret (v:=dH ec 0 0) (by simp[results,Tryz.f87,go_sem,dH,c0,c1,c2,c3,c4,c5,c6,c7]) rfl ⟨rfl,F',?_⟩;exact⟨Gi.o _ _ _ _ _ H2.o.1 hs (λk hk e=>a1 (e▸hk)) (λk hk=>oQ),H2.o.2.inner hs (λk hk=>.inr oQ)⟩
theorem R8 (jL:∀k,F k→k<v.heap.size) (h5:5≤v.heap.size) (bT:Stable Φ) (hc:∀W,Below v.heap.size v W→Calls Tryz.prog 95 #[.pointer (some ⟨fb,0,none⟩),.int .i64 gU,.int .i64 0,.int .i64 0] W λe w'=>e=.returned (.tuple #[.int .i64 nc,.int .i64 ec])∧∃F',Φ w' F'∧Step F W F' w'):
  Calls Tryz.prog 94 #[.pointer (some ⟨fb,0,none⟩),bK Yu gU path data] v λe w'=>e=.returned (dH ec nc 0)∧∃F',Φ w' F'∧Step F v F' w':=by
 obtain⟨w1,aP⟩:∃w1,(v.alloc (.cells #[.int .i64 Yu,.int .i64 gU,.int .i64 0,.string path,.string ⟨#[]⟩,.int .i64 0,data] 40)).alloc (.cells #[.int .i64 0,.int .i64 0,.int .i64 0,.slice none 0 0,.slice none 0 0,.int .i64 0,.int .i64 0,.int .i64 0] 34)=w1:=⟨_,rfl⟩
 obtain⟨aM,aF,hz1⟩:=boxes [(yZ Yu gU path data,40),(aI 0 0 0,34)] v w1 (by rw[←aP];rfl);have x1:ah w1 (v.heap.size+1) 34 (aI 0 0 0):=aM 1 _ rfl;have wT:=U aP;have HB:=U aF;have X1:=U x1;have HC:=U hc;have G8:=U jL;have Gi:=U bT;have hz:w1.heap.size=v.heap.size+2:=by simpa using hz1
 clear hc jL bT aM aF hz1 aP x1;unfold bK;go_enter Tryz.func94,Tryz.ntmps94;go_wp2_with fail;rw[wT.o];refine(HC.o w1 HB.o).mono ?_;rintro e w2 ⟨rfl,F',hΦ,nJ⟩;have nM:¬F (v.heap.size+1):=λhf=>by have:=G8.o _ hf;omega
 have y1:=X1.o.step nJ nM;have a1:=nJ.apart X1.o.lt nM;have H2:=U (And.intro hΦ ((Step.of_below HB.o F).trans nJ));have hf:=λj=>y1.free j;have c0:=y1.cell 0;have c1:=y1.cell 1;have c2:=y1.cell 2;have c3:=y1.cell 3;have c4:=y1.cell 4;have c5:=y1.cell 5;have c6:=y1.cell 6;have c7:=y1.cell 7;simp only[aI,zf,zi] at c0 c1 c2 c3 c4 c5 c6 c7;have f0:=hf 0;have f1:=hf 1;have f2:=hf 2;have f3:=hf 3;have f4:=hf 4;have f5:=hf 5;have f6:=hf 6;have f7:=hf 7;have Y1:=U y1;clear hΦ nJ y1 hf;go_wp2_with fail;generalize hW:World.setCell _ _ _=W;have hs:AB w2 (v.heap.size+1) 34 W:=by
  rw[←hW]
  repeat refine AB.set dQ _ _ ?_
  exact⟨Step.refl _ _,_,Y1.o⟩
 have hs:=hs.1;have hV:ah W (v.heap.size+1) 34 (aI ec nc 0):=by
  rw[←hW];exact((((((((((Y1.o.aB 1 (.int .i64 nc)).aB 0 (.int .i64 ec)).aB 0 (.int .i64 ec)).aB 1 (.int .i64 nc)).aB 2 (.int .i64 0)).aB 3 (.slice none 0 0)).aB 4 (.slice none 0 0)).aB 5 (.int .i64 0)).aB 6 (.int .i64 0)).aB 7 (.int .i64 0))
 clear hW c0 c1 c2 c3 c4 c5 c6 c7;have c0:=hV.cell 0;have c1:=hV.cell 1;have c2:=hV.cell 2;have c3:=hV.cell 3;have c4:=hV.cell 4;have c5:=hV.cell 5;have c6:=hV.cell 6;have c7:=hV.cell 7;simp only[aI,zf,zi] at c0 c1 c2 c3 c4 c5 c6 c7
 (try simp only[Exit.inBlock,Exit.then])
 refine bodyPost_ret (v:=dH ec nc 0) (by simp[results,Tryz.f94,go_sem,dH,c0,c1,c2,c3,c4,c5,c6,c7]) rfl ⟨rfl,F',?_⟩;exact⟨Gi.o _ _ _ _ _ H2.o.1 hs (λk hk e=>a1 (e▸hk)) (λk hk=>oQ),H2.o.2.inner hs (λk hk=>.inr oQ)⟩
end
end
section
open Go.RowKit Go.Shelf Go.Maps O
section
variable {v w:World} {fm d fb B P q nn:Nat} {C:Nat→Bytes} {cl yo:Bool} {op:Op} {F:Nat→Prop} {ec nc mc gU:Int} {path:ByteArray} {data:Value} {x f:Nd} {A T fl:nU} {s dd:Bytes} {pt ga oa len cd i fd:Nat}
theorem Lj {a0:Option Addr} (h:Gm v fm d fb B P q nn C cl yo op F) (Gw:nn≤15) (hT:Tr C B x (A++(f,s)::T)) (hq:q<1000000) (sS:fd<1000) (hop:op fd=some (f.id,pt)) (hf:pt≤122880):
  Calls Tryz.prog 8 #[.pointer (some ⟨fm,0,none⟩),bK 10 fd path (.slice a0 0 cd)] v λe w'=>jh v fm d fb B P yo F 0 0 0 (λq' kJ C' cl' op'=>kJ=nn∧q'=q∧cl'=cl∧C'=C∧op'=f_ op fd (some (f.id,pt))) e w':=
 doF (i:=10) (fn:=83) (λ_ _=>rfl) oQ (λ_ h=>h.s10) h (λW hB SL hl h5=>Bn hl h5 G_.stable (λW' xI=>(RQ (len:=0) (SL.below xI) Gw hT hq sS hop rfl oQ ⟨by rw[zG];omega,rfl⟩).mono (by
  rintro e w' ⟨rfl,F',h1,h2⟩;exact⟨rfl,F',⟨_,_,_,_,_,⟨rfl,rfl,rfl,rfl,rfl⟩,h1⟩,h2⟩)))
theorem afe {id:Nat} (h:Gm v fm d fb B P q nn C cl yo op F) (Gw:nn≤15) (hT:Tr C B x fl) (hq:q<1000000) (sS:fd<1000) (hop:op fd=some (id,pt)):
  Calls Tryz.prog 8 #[.pointer (some ⟨fm,0,none⟩),bK 11 fd path data] v λe w'=>jh v fm d fb B P yo F 0 0 0 (λq' kJ C' cl' op'=>kJ=nn∧q'=q∧cl'=cl∧C'=C∧op'=f_ op fd (some (id,0))) e w':=
 doF (i:=11) (fn:=94) (λ_ _=>rfl) oQ (λ_ h=>h.s11) h (λW hB hf hl h5=>R8 hl h5 G_.stable (λW' xI=>(Xj (hf.below xI) Gw hT.big hT.o hq sS hop).mono (by
  rintro e w' ⟨rfl,F',h1,h2⟩;exact⟨rfl,F',⟨_,_,_,_,_,⟨rfl,rfl,rfl,rfl,rfl⟩,h1⟩,h2⟩)))
theorem abQ (h:Gm v fm d fb B P q nn C cl yo op F) (hT:Tr C B x fl) (hq:q<1000000) (sS:fd<1000) (ho:(op fd).isSome=true):
  Calls Tryz.prog 8 #[.pointer (some ⟨fm,0,none⟩),bK 16 fd path data] v λe w'=>jh v fm d fb B P yo F 0 0 0 (λq' kJ C' cl' op'=>kJ=nn∧q'=q∧cl'=true∧C'=C∧op'=op) e w':=
 doF (i:=16) (fn:=87) (λ_ _=>rfl) oQ (λ_ h=>h.s16) h (λW hB hf hl h5=>R5 hl h5 G_.stable (λW' xI=>(RS (hf.below xI) hT.big hq sS ho).mono (by
  rintro e w' ⟨rfl,F',h1,h2⟩;exact⟨rfl,F',⟨_,_,_,_,_,⟨rfl,rfl,rfl,rfl,rfl⟩,h1⟩,h2⟩)))
end
theorem vE (n:Nat):need n≤n / 480+2:=by unfold need fT;split<;>omega
theorem apn:need 0=0:=by unfold need fT;simp
theorem ow0 (c d:Bytes) (h:c=[]∨c=d):ow c 0 d=d:=by
 rcases h with rfl|rfl
 ·unfold ow;simp
 ·exact EO rfl
end
section
open Go.RowKit Go.Shelf Go.Maps O
attribute [local go_sem] Oper.semAt_some
theorem ajH {n:Nat} (h:¬n<10):Lib.decDigits n=Lib.decDigits (n / 10)++[UInt8.ofNat (48+n%10)]:=by rw[Lib.decDigits,dif_neg h]
theorem TW:∀(n:Nat),n<1000000→∀w:World,Calls Tryz.prog 12 #[.int .i64 n] w λe w'=>e=.returned (.string ⟨(Lib.decDigits n).toArray⟩)∧Below w.heap.size w w':=by
 intro n
 induction n using Nat.strongRecOn with
 |_ n ih=>
 intro hn w;obtain⟨c,hc⟩:∃c:UInt8,UInt8.ofNat (48+n%10)=c:=⟨_,rfl⟩
 have hc8:(48+(n:Int)%10)=n8 c:=by
  rw[←hc];unfold n8;rw[zaK];omega
 have hcv:(convert 22 9 (.slice (some ⟨w.heap.size,0,none⟩) 1 1)).run Tryz.prog (w.alloc (.cells #[.int .u8 (48+(n:Int)%10)] 5))=.ok (.string ⟨#[c]⟩) (w.alloc (.cells #[.int .u8 (48+(n:Int)%10)] 5)):=by
  refine tN Tryz.underlying22 Tryz.underlying5 Tryz.underlying9 [c] 1 rfl _ _ _ ?_;refine⟨w.heap.size,0,λ_=>rfl,λi hi=>?_⟩;obtain rfl:i=0:=by simpa using hi
  rw[qx,zaw,hc8];rfl
 have hB:Below w.heap.size w (w.alloc (.cells #[.int .u8 (48+(n:Int)%10)] 5)):=(zn _ _).alloc (zm _) _;obtain⟨w1,aP⟩:∃w1,w.alloc (.cells #[.int .u8 (48+(n:Int)%10)] 5)=w1:=⟨_,rfl⟩
 rw[aP] at hB hcv;have HB:=U hB;have Hc:=U hc;have Hih:=U ih;clear hB hc ih hc8;by_cases h10:n<10
 ·have avZ:(n:Int)<10:=oQ
  go_enter Tryz.func12,Tryz.ntmps12;go_wp2_with fail;go_ret;refine⟨?_,HB.o⟩;rw[Aa h10,←Hc.o,zaz h10];rfl
 ·have avZ:¬(n:Int)<10:=oQ
  obtain⟨m,hm⟩:∃m,n / 10=m:=⟨_,rfl⟩
  have hq:IntKind.i64.wrap ((n:Int).tdiv 10)=(m:Int):=by
   rw[Int.tdiv_eq_ediv_of_nonneg oQ,zG];omega
  have Hq2:=U (show(n:Int) / 10=(m:Int) by omega);have Hm:=U hm;clear hm;go_enter Tryz.func12,Tryz.ntmps12;go_wp2_with fail;rw[Hq2.o];refine(Hih.o m (by have:=Hm.o;omega) (by have:=Hm.o;omega) w1).mono ?_;rintro e w2 ⟨rfl,aJ⟩;have LZ:(Lib.decDigits m).length≤21:=by
   have:=Lib.itoa_length_le (m:Int) oQ (by have:=Hm.o;omega);rwa[Lib.itoa_nonneg] at this
  have hz:=HB.o.size;obtain⟨D,hD⟩:∃D,Lib.decDigits m=D:=⟨_,rfl⟩
  rw[hD] at LZ;have HD:=U hD;rw[hD];have ajG:((⟨D.toArray⟩:ByteArray)++⟨#[c]⟩)=⟨(D++[c]).toArray⟩:=by
   apply ByteArray.ext;simp[ByteArray.data_append]
  have bH:=U (HB.o.trans (aJ.mono hz));clear hD aJ;go_wp2_with fail;go_ret;refine⟨?_,bH.o⟩;rw[ajH h10,Hc.o,Hm.o,HD.o];rfl
end
section
open Go.RowKit Go.Shelf Go.Maps O
section
variable {W0 w w':World} {K K':O6} {fm d fb B P q nn q0:Nat} {C:Nat→Bytes} {cl yo:Bool} {op:Op} {F:Nat→Prop} {p p':oq} {gU:Int} {path:ByteArray} {data:Value} {ca cb dd:Bytes} {p1 c0:Bool}
def newP (q0:Nat):oq:=λq nn C cl yo op=>nn=0∧yo=true∧op=nH∧q≤q0∧∃x,Tr C 60 x []
def agZ (q0:Nat):oq:=λq nn C cl yo op=>nn=0∧yo=true∧op=nH∧q≤q0∧∃x f,Tr C 60 x [(f,[97])]∧f.c=[]
def ag0 (q0:Nat):oq:=λq nn C cl yo op=>nn=0∧yo=true∧op=nH∧q≤q0∧∃x f g,Tr C 60 x [(f,[97]),(g,[98])]∧f.c=[]∧g.c=[]
def ag1 (q0:Nat):oq:=λq nn C cl yo op=>nn=1∧yo=true∧q≤q0∧∃x f g,Tr C 60 x [(f,[97]),(g,[98])]∧f.c=[]∧g.c=[]∧op=f_ nH 0 (some (f.id,0))
def kY (q0:Nat) (ca cb:Bytes) (p1 c0:Bool):oq:=λq nn C cl yo op=>nn=2∧yo=true∧q≤q0∧(c0=true→cl=true)∧∃x f g pt,Tr C 60 x [(f,[97]),(g,[98])]∧f.c=ca∧g.c=cb∧op 0=some (f.id,ca.length)∧op 1=some (g.id,pt)∧(p1=true→pt=0)
theorem apr {x f g:Nd} {s t:Bytes} (h:Tr C B x [(f,s),(g,t)]):cnt (C 0) B=5+need f.c.length+need g.c.length:=by
 have:=h.num;simp only[zA,zN,qx,if_neg (show¬(1+1:Nat)=0 by decide),qy,qK,zay,List.sum_nil] at this;omega
theorem XH (hq:q0<1000000) (h:bR W0 fm d fb 60 P (newP q0) K w):
  Calls Tryz.prog 8 #[.pointer (some ⟨fm,0,none⟩),bK 1 gU ⟨#[47,97]⟩ data] w λe w'=>jT W0 fm d fb 60 P K (agZ (q0+1)) 0 0 0 e w':=by
 obtain⟨q,nn,C,cl,yo,op,F,⟨rfl,rfl,rfl,iq,x,hT⟩,h⟩:=h;have:=ajK hT;refine jh.top h (vD (s:=[97]) h.kE hT oQ sQ dQ sQ (om (n:=0) oQ oQ)) ?_;rintro q' kJ C' cl' op' ⟨rfl,rfl,rfl,Ym,x',m,Gp⟩;exact⟨rfl,rfl,rfl,oQ,x',_,Gp,rfl⟩
theorem Sk (hq:q0<1000000) (h:bR W0 fm d fb 60 P (agZ q0) K w):
  Calls Tryz.prog 8 #[.pointer (some ⟨fm,0,none⟩),bK 1 gU ⟨#[47,98]⟩ data] w λe w'=>jT W0 fm d fb 60 P K (ag0 (q0+1)) 0 0 0 e w':=by
 obtain⟨q,nn,C,cl,yo,op,F,⟨rfl,rfl,rfl,iq,x,f,hT,hc⟩,h⟩:=h;have hn:=MJ hT;rw[hc,zN,apn] at hn;refine jh.top h (vD (s:=[98]) h.kE hT oQ sQ dQ (by intro y hy;simp only[zV] at hy;subst hy;exact(show([97]:Bytes)≠[98] by decide)) (om (n:=1) oQ oQ)) ?_;rintro q' kJ C' cl' op' ⟨rfl,rfl,rfl,Ym,x',m,Gp⟩;exact⟨rfl,rfl,rfl,oQ,x',f,_,Gp,hc,rfl⟩
theorem afl (hq:q0<1000000) (h:bR W0 fm d fb 60 P (ag0 q0) K w):
  Calls Tryz.prog 8 #[.pointer (some ⟨fm,0,none⟩),bK 7 gU ⟨#[47,97]⟩ data] w λe w'=>jT W0 fm d fb 60 P K (ag1 q0) 0 0 0 e w':=by
 obtain⟨q,nn,C,cl,yo,op,F,⟨rfl,rfl,rfl,iq,x,f,g,hT,hc,hd⟩,h⟩:=h;refine jh.top h (Li (fd:=0) (A:=[]) (T:=[(g,[98])]) (s:=[97]) h.kE oQ hT oQ dQ ⟨rfl,λj hj=>oQ⟩ oQ) ?_;rintro q' kJ C' cl' op' ⟨rfl,rfl,rfl,rfl,rfl⟩;exact⟨rfl,rfl,iq,x,f,g,hT,hc,hd,rfl⟩
theorem abU (hq:q0<1000000) (h:bR W0 fm d fb 60 P (ag1 q0) K w):
  Calls Tryz.prog 8 #[.pointer (some ⟨fm,0,none⟩),bK 7 gU ⟨#[47,98]⟩ data] w λe w'=>jT W0 fm d fb 60 P K (kY q0 [] [] false false) 0 1 0 e w':=by
 obtain⟨q,nn,C,cl,yo,op,F,⟨rfl,rfl,iq,x,f,g,hT,hc,hd,rfl⟩,h⟩:=h;refine jh.top (ec:=0) (nc:=((1:Nat):Int)) (mc:=0) h (Li (fd:=1) (A:=[(f,[97])]) (T:=[]) (s:=[98]) h.kE oQ hT oQ dQ ⟨rfl,λj hj=>?_⟩ oQ) ?_
 ·obtain rfl:j=0:=oQ
  rfl
 ·rintro q' kJ C' cl' op' ⟨rfl,rfl,rfl,rfl,rfl⟩
  exact⟨rfl,rfl,iq,λh=>(by cases h),x,f,g,0,hT,hc,hd,rfl,rfl,λh=>(by cases h)⟩
theorem abV {ga oa len cd:Nat} (hq:q0<1000000) (h:bR W0 fm d fb 60 P (kY q0 ca cb p1 c0) K w) (dO:cZ w (some ⟨ga,oa,none⟩) dd) (eX:dd.length=len) (Ak:ga<w.heap.size) (hlen:1≤len∧len≤4096) (Aq:len≤cd) (hca:ca.length+len≤10000) (CS:cb.length≤4000):
  Calls Tryz.prog 8 #[.pointer (some ⟨fm,0,none⟩),bK 10 0 path (.slice (some ⟨ga,oa,none⟩) len cd)] w λe w'=>jT W0 fm d fb 60 P K (kY (q0+1) (ca++dd) cb p1 false) 0 0 0 e w':=by
 obtain⟨q,nn,C,cl,yo,op,F,⟨rfl,rfl,iq,nY,x,f,g,pt,hT,rfl,rfl,h0,h1,hp⟩,h⟩:=h;have hn:=apr hT;have n1:=vE f.c.length;have n2:=vE g.c.length;have n3:=vE (f.c.length+len);refine jh.top h (FL (fd:=0) (pt:=f.c.length) (A:=[]) (T:=[(g,[98])]) (s:=[97]) h.kE oQ hT oQ oQ h0 dO eX Ak hlen Aq (zm _) oQ (by rw[Nat.max_eq_right oQ,hn];omega)) ?_;rintro q' kJ C' cl' op' ⟨rfl,Ym,rfl,rfl,D',r',R',Gp⟩;refine⟨rfl,rfl,oQ,λh=>(by cases h),x,_,g,pt,Gp,aaz rfl dd,rfl,?_,?_,hp⟩
 ·rw[pQ,zw,eX]
 ·rw[←h1]
  rfl
theorem afm (hq:q0<1000000) (h:bR W0 fm d fb 60 P (kY q0 ca cb p1 c0) K w):
  Calls Tryz.prog 8 #[.pointer (some ⟨fm,0,none⟩),bK 11 1 path data] w λe w'=>jT W0 fm d fb 60 P K (kY q0 ca cb true c0) 0 0 0 e w':=by
 obtain⟨q,nn,C,cl,yo,op,F,⟨rfl,rfl,iq,nY,x,f,g,pt,hT,hca,CS,h0,h1,hp⟩,h⟩:=h;refine jh.top h (afe (fd:=1) h.kE oQ hT oQ oQ h1) ?_;rintro q' kJ C' cl' op' ⟨rfl,rfl,rfl,rfl,rfl⟩;exact⟨rfl,rfl,iq,nY,x,f,g,0,hT,hca,CS,by rw[←h0];rfl,by rw[pQ],λ_=>rfl⟩
theorem abX {a:Option Addr} {len cd:Nat} (hq:q0<1000000) (h:bR W0 fm d fb 60 P (kY q0 ca cb true c0) K w) (dO:cZ w a dd) (eX:dd.length=len) (hlen:len≤4000) (Aq:len≤cd) (hca:ca.length≤10000) (CS:cb=[]∨cb=dd):
  Calls Tryz.prog 8 #[.pointer (some ⟨fm,0,none⟩),bK 10 1 path (.slice a len cd)] w λe w'=>jT W0 fm d fb 60 P K (kY (q0+1) ca dd false false) 0 0 0 e w':=by
 obtain⟨q,nn,C,cl,yo,op,F,⟨rfl,rfl,iq,nY,x,f,g,pt,hT,rfl,rfl,h0,h1,hp⟩,h⟩:=h;obtain rfl:=hp rfl;by_cases AP:len=0
 ·subst AP
  have hd0:=zX eX;subst hd0;refine jh.top h (Lj (fd:=1) (pt:=0) (A:=[(f,[97])]) (T:=[]) (s:=[98]) h.kE oQ hT oQ oQ h1 oQ) ?_;rintro q' kJ C' cl' op' ⟨rfl,rfl,rfl,rfl,rfl⟩;exact⟨rfl,rfl,oQ,λh=>(by cases h),x,f,g,0,hT,rfl,by rcases CS with h|h<;>exact h,by rw[←h0];rfl,by rw[pQ],λh=>(by cases h)⟩
 ·rcases dO with rfl|⟨ga,oa,Cx,fr,rfl,hb,hc⟩
  ·exact absurd eX.symm AP
  ·have hn:=apr hT
   have n1:=vE f.c.length;have n2:=vE g.c.length;have n3:=vE (max g.c.length (0+len));have l7:g.c.length≤4000:=by rcases CS with h|h<;>rw[h];exact ql _;omega
   have hm:max g.c.length (0+len)≤4000:=oQ
   refine jh.top h (FL (fd:=1) (pt:=0) (A:=[(f,[97])]) (T:=[]) (s:=[98]) h.kE oQ hT oQ oQ h1 (.inr ⟨ga,oa,Cx,fr,rfl,hb,hc⟩) eX (zo.1 hb).1 oQ Aq (ql _) oQ (by rw[hn];omega)) ?_;rintro q' kJ C' cl' op' ⟨rfl,Ym,rfl,rfl,D',r',R',Gp⟩;exact⟨rfl,rfl,oQ,λh=>(by cases h),x,f,_,_,Gp,rfl,ow0 _ _ CS,by rw[←h0];rfl,pQ _ _ _,λh=>(by cases h)⟩
theorem abY (hq:q0<1000000) (h:bR W0 fm d fb 60 P (kY q0 ca cb p1 c0) K w):
  Calls Tryz.prog 8 #[.pointer (some ⟨fm,0,none⟩),bK 16 0 path data] w λe w'=>jT W0 fm d fb 60 P K (kY q0 ca cb p1 true) 0 0 0 e w':=by
 obtain⟨q,nn,C,cl,yo,op,F,⟨rfl,rfl,iq,nY,x,f,g,pt,hT,hca,CS,h0,h1,hp⟩,h⟩:=h;refine jh.top h (abQ (fd:=0) h.kE hT oQ oQ (by rw[h0];rfl)) ?_;rintro q' kJ C' cl' op' ⟨rfl,rfl,rfl,rfl,rfl⟩;exact⟨rfl,rfl,iq,λ_=>rfl,x,f,g,pt,hT,hca,CS,h0,h1,hp⟩
def JE (ca cb:Bytes):Bytes:=Cm [97] ca++Cm [98] cb
theorem FQ (f g:Nd):gQ [(f,[97]),(g,[98])]=JE f.c g.c:=by simp[gQ,JE]
theorem aps (f g:Nd):Srt (ents [(f,[97]),(g,[98])]):=by
 intro i e e' h1 h2;rcases i with _|_|i
 ·simp only[ents,qy,qK,zf,zi,Option.some.injEq] at h1 h2
  subst h1 h2;exact⟨show 0≤Lib.compareBytes ([98]:Bytes) [97] by decide,show([98]:Bytes)≠[97] by decide⟩
 ·simp[ents] at h2
 ·simp[ents] at h2
theorem afn (hq:q0<1000000) (h:bR W0 fm d fb 60 P (kY q0 ca cb p1 c0) K w) (hca:ca.length≤10000) (CS:cb.length≤4000):
  Calls Tryz.prog 9 #[.pointer (some ⟨fm,0,none⟩)] w λe w'=>e=.returned (.tuple #[.string ⟨(JE ca cb).toArray⟩,.int .i64 0])∧bR W0 fm d fb 60 P (kY q0 ca cb p1 c0) K w':=by
 obtain⟨q,nn,C,cl,yo,op,F,⟨rfl,rfl,iq,nY,x,f,g,pt,hT,rfl,rfl,h0,h1,hp⟩,h⟩:=h;refine(FM (ln:=2) h.kE.fs h.kE.cells hT (aps f g) oQ rfl oQ (by intro y hy;simp only[zH,zO,or_false] at hy;rcases hy with rfl|rfl<;>(dsimp only;omega))).mono ?_;rintro e w' ⟨rfl,hq⟩;rw[FQ];exact⟨rfl,q,2,C,cl,true,op,F,⟨rfl,rfl,iq,nY,x,f,g,pt,hT,rfl,rfl,h0,h1,hp⟩,h.dump hq⟩
def abZ (ca cb:Bytes):oq:=λq nn C cl yo op=>q<1000000∧∃x f g,Tr C 60 x [(f,[97]),(g,[98])]∧f.c=ca∧g.c=cb
def ag2 (W0:World) (fm d P:Nat) (ca cb:Bytes) (K:O6) (w:World):Prop:=∃w0 fb q nn C cl yo op F Fd st s C0 x f g,jB W0 w0 K fm d fb 60 P q nn C cl yo op F∧(∀k,Fd k→F k)∧Step Fd w0 Fd w∧Dev w d (P+1) st [] true Fd∧OT 60 P C st s C0∧Tr C 60 x [(f,[97]),(g,[98])]∧f.c=ca∧g.c=cb
theorem ab0 {a:Option Addr} {m c:Nat} (hq:q0<900000) (h:bR W0 fm d fb 60 P (kY q0 ca cb p1 true) K w):
  Calls Tryz.prog 10 #[.pointer (some ⟨fm,0,none⟩),.slice a m c] w λe w'=>(∃x,e=.returned x)∧ag2 W0 fm d P ca cb K w':=by
 obtain⟨q,nn,C,cl,yo,op,F,⟨rfl,rfl,iq,nY,x,f,g,pt,hT,hca,CS,h0,h1,hp⟩,h⟩:=h;obtain rfl:=nY rfl;obtain⟨st,Fd,s,C0,hD,FX,hk⟩:=h.kE.fs.disk oQ oQ hT.zero;refine(FE h.kE.cells hD a m c).mono ?_;rintro e w' ⟨hx,hD',hs⟩;exact⟨hx,w,fb,q,2,C,true,true,op,F,Fd,st,s,C0,x,f,g,h,FX,hs,hD',hk,hT,hca,CS⟩
theorem ab1 (h:ag2 W0 fm d P ca cb K w):
  Calls Tryz.prog 11 #[.pointer (some ⟨fm,0,none⟩)] w λe w'=>(∃a b c,e=.returned (.tuple #[gY a b c,.int .i64 0]))∧∃Sd,bR W0 fm d Sd 60 P (abZ ca cb) K w':=by
 obtain⟨w0,fb,q,nn,C,cl,yo,op,F,Fd,st,s,C0,x,f,g,h,FX,hs,hD,hk,hT,hca,CS⟩:=h;have KN:¬Fd fm:=λhf=>h.kE.nf (FX _ hf);have h54:∀k,Fd k→5≤k:=λk hf=>h.kE.fs.ge.1 k (FX _ hf);refine(FH (h.kE.cells.step hs KN) hD hk (h.kE.fs.ge.2.step hs h54) h54 KN h.kE.f5).mono ?_;rintro e w5 ⟨he,fb5,q5,F5,hc5,VI,Nw,Px,Ki⟩;exact⟨he,fb5,q5,0,C,false,false,nH,F5,⟨Nw,x,f,g,hT,hca,CS⟩,h.back FX hs Ki ⟨hc5,VI,Px,h.kE.f5⟩⟩
theorem ab2 (h:bR W0 fm d fb 60 P (abZ ca cb) K w) (hca:ca.length≤10000) (CS:cb.length≤4000):
  Calls Tryz.prog 9 #[.pointer (some ⟨fm,0,none⟩)] w λe w'=>e=.returned (.tuple #[.string ⟨(JE ca cb).toArray⟩,.int .i64 0])∧bR W0 fm d fb 60 P (abZ ca cb) K w':=by
 obtain⟨q,nn,C,cl,yo,op,F,⟨hq,x,f,g,hT,rfl,rfl⟩,h⟩:=h;refine(FM (ln:=2) h.kE.fs h.kE.cells hT (aps f g) hq rfl oQ (by intro y hy;simp only[zH,zO,or_false] at hy;rcases hy with rfl|rfl<;>(dsimp only;omega))).mono ?_;rintro e w' ⟨rfl,Ym⟩;rw[FQ];exact⟨rfl,q,nn,C,cl,yo,op,F,⟨hq,x,f,g,hT,rfl,rfl⟩,h.dump Ym⟩
end
end
end Go.Proofs.YtdjdpeadohobmaaGreatDoor
