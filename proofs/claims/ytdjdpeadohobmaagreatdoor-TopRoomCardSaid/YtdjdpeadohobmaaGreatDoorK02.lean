/- A part of the walk below the law: what is proved here is used by later parts; no further condition. -/
import Derived.ChangeKeysEq
import Derived.Deep.MidRow
import Derived.Deep.RegionHeld3
import Derived.Great.Walk
import Derived.Laws.CopyOwn
import Derived.Laws.ResultCell
import Derived.Laws.StructEq
import Derived.Laws.Tables
import Derived.Maps.AppendAt
import Derived.OneCell
import Derived.Test.YtdjdpeadohobmaaGreatDoorK01
set_option linter.unusedVariables false
set_option linter.unusedSimpArgs false
set_option maxRecDepth 100000
set_option maxHeartbeats 20000000
namespace Go.Proofs.YtdjdpeadohobmaaGreatDoor
section
open Go.RowKit
section
variable {P:Program} {t e:TypeId} {z:Value} {bytes:Nat}
theorem LK (E:jC P t e z bytes) (ty:TypeId) {base:Nat} {w:World} {A A2:Option Addr} {n c m c2:Nat} {xs ys:List Value} (hown:Own e base w A c xs) (hn:xs.length=n)
  (hr:gZ w A2 ys) (hm:ys.length=m) (h1:∀u∈ys,u.oneCell'=true):
  ∃w',(Builtin.copy_ #[t,t] ty #[.slice A n c,.slice A2 m c2]).run P w=.ok (.int .i64 ((min m n:Nat):Int)) w'∧Own e base w' A c (ys.take n++xs.drop m)∧Below base w w'∧w'.heap.size=w.heap.size:=by
 subst hn hm;have gJ:(P.info? e).map (·.size)=some 1:=by
  obtain⟨i,hi,hz,hs,hb⟩:=info_parts E.info;rw[hi];simp[hs]
 by_cases h0:Nat.min ys.length xs.length=0
 ·refine⟨w,?_,?_,zn _ _,rfl⟩
  ·have:=run_copy_none (P:=P) w t t ty e A A2 xs.length c ys.length c2 E.slice gJ h0
   rw[this];have h0':min ys.length xs.length=0:=h0;rw[h0'];rfl
  ·rcases zba ys.length with h|h
   ·have:ys=[]:=zX h
    subst this;simpa using hown
   ·have hx:xs.length=0:=by
     have h0':min ys.length xs.length=0:=h0;omega
    have:xs=[]:=zX hx;subst this;simpa using hown
 ·have h0':min ys.length xs.length≠0:=h0
  rcases hown.2 with⟨hv,hn⟩|⟨g,cap,cur,hv,hb,hg,JG,Cn,vS,ht⟩
  ·omega
  ·injection hv with hv _ hc
   subst hv hc;obtain⟨b,off,ha,hcell⟩:=hr;have:=ha (by rintro rfl;simp at h0');subst this;have hl:(ys.take xs.length).length=Nat.min ys.length xs.length:=by
    rw[zF];exact Nat.min_comm _ _
   have arU:cur.size=c:=oQ
   have hrun:=run_copy_row (P:=P) w t t ty e g 0 xs.length c ⟨b,off,none⟩ ys.length c2 cur e (ys.take xs.length) E.slice gJ hg hl
    (λj u hu=>by
     obtain⟨hj,rfl⟩:=zL.1 hu;have h2:(⟨b,off,none⟩:Addr).add j=⟨b,off+j,none⟩:=by unfold Addr.add;split<;>simp_all
     rw[h2,List.getElem_take];exact hcell j (by simp at hj;omega))
    (by rw[zF];omega) (λu hu=>h1 u (List.mem_of_mem_take hu))
   rw[hl,show Nat.min ys.length xs.length=min ys.length xs.length from rfl] at hrun;refine⟨_,hrun,?_,below_setRow (zn _ _) hb _,sQ⟩;have hlen:(ys.take xs.length++xs.drop ys.length).length=xs.length:=by
    rw[zw,zF,zR];omega
   have hx:∀j,j<xs.length→xs[j]? =cur.toList[j]?:=λj hj=>by
    conv=>lhs;rw[←ht]
    rw[qh,if_pos oQ]
   unfold Own;rw[hlen];refine⟨by rw[hlen,Ug],.inr ⟨g,c,_,rfl,hb,setRow_heap w g cur _ e (0,0) hg,JG,Cn,?_,?_⟩⟩
   ·simp only[zaA,zB,qx,zQ,zw,zF,zR,za4]
    omega
   ·simp only[zaA,zB,qx,Ug]
    rw[List.take_append,zy (by rw[zF];omega)];congr 1;apply qG;intro i;rw[qh,zaB,zaB,zF];by_cases h2:ys.length+i<xs.length
    ·rw[if_pos oQ,hx _ h2,show min ys.length xs.length=ys.length by omega]
    ·rw[if_neg oQ,qz (l:=xs) oQ]
end
theorem sG {P:Program} {ops:Array Oper} {o:Oper} {a:Act} {w w':World} {K:Act→World→Prop} {Q:Exit→Act→World→Prop} {E:Prop} (s x:Operand) {t t':TypeId} {v y v':Value}
  (hrun:(Builtin.append_ #[t,t'] o.type #[v,y]).run P w=.ok v' w')
  (hw:Region.wanted o (yielded ops a.tmps)=true) (ho:o.op=.call {callee:=.builtin .append,args:=#[s,x],argTypes:=#[t,t']})
  (hs:a.eval s=v) (hx:a.eval x=y) (hK:K (a.put o.dst v') w'):if Region.wanted o (yielded ops a.tmps)=true then Oper.wp P o a w K Q else E:=by
 rw[if_pos hw];unfold Oper.wp execOp;simp only[ho,resolve,invoke,builtin,qE,zax,qp,zac,qy,qK,hs,hx,hrun];exact hK
structure Kept (r:Nat) (w w':World):Prop where
 size:w.heap.size≤w'.heap.size
 block:∀k,k<w.heap.size→k≠r→w'.heap[k]? =w.heap[k]?
 below:∀B,B≤r→B≤w.heap.size→Below B w w'
theorem Kept.refl (r:Nat) (w:World):Kept r w w:=⟨zm _,λ_ _ _=>rfl,λ_ _ _=>zn _ _⟩
theorem Kept.trans {r:Nat} {a b c:World} (h:Kept r a b) (k:Kept r b c):Kept r a c:=
 ⟨zC h.size k.size,λi hi hr=>(k.block i (zx hi h.size) hr).trans (h.block i hi hr),λB h1 h2=>(h.below B h1 h2).trans (k.below B h1 (zC h2 h.size))⟩
theorem Kept.of_below {r:Nat} {w w':World} (h:Below w.heap.size w w'):Kept r w w':=⟨h.size,λk hk _=>h.block k hk,λ_ _ h2=>h.mono h2⟩
theorem Kept.setCell {r:Nat} (w:World) (o:Nat) (v:Value):Kept r w (w.setCell ⟨r,o,none⟩ v):=
 ⟨by simp[World.setCell],λk _ hr=>zI _ _ _ _ hr,λ_ h1 _=>(zn _ _).setCell h1 _⟩
theorem gZ.kept {r:Nat} {w w':World} {a:Option Addr} {xs:List Value} (h:gZ w a xs) (hk:Kept r w w') (hr:xs≠[]→∀b off,a=some ⟨b,off,none⟩→b≠r):gZ w' a xs:=by
 obtain⟨b,off,h1,h2⟩:=h;refine⟨b,off,h1,λi hi=>?_⟩;have dV:xs≠[]:=by rintro rfl;simp at hi
 rw[←h2 i hi];exact zS (hk.block b (zq w _ (h2 i hi)) (hr dV b off (h1 dV)))
theorem Own.kept {r:Nat} {e:TypeId} {base:Nat} {w w':World} {A:Option Addr} {c:Nat} {xs:List Value} (h:Own e base w A c xs) (hk:Kept r w w') (hr:∀g,A=some ⟨g,0,none⟩→g≠r):Own e base w' A c xs:=by
 refine⟨h.1,?_⟩;rcases h.2 with hn|⟨g,cap,cur,hv,FW,hg,rest⟩
 ·exact .inl hn
 ·injection hv with hv _ _
  subst hv;exact .inr ⟨g,cap,cur,by simp_all,FW,(hk.block g (zo.1 hg).1 (hr g rfl)).trans hg,rest⟩
end
section
open Go.RowKit Go.WideShapes Go.ChangeShapes
def dY (K:IntKind) (w:World) (a:Option Addr) (l:List Int):Prop:=
 ∃b off,(l≠[]→a=some ⟨b,off,none⟩)∧∀i,(h:i<l.length)→w.cell? ⟨b,off+i,none⟩=some (.int K l[i])
theorem dY.nil (K:IntKind) (w:World) (a:Option Addr):dY K w a []:=⟨0,0,λh=>absurd rfl h,λ_ h=>absurd h sQ⟩
theorem dY.keep {K:IntKind} {w w':World} {a:Option Addr} {l:List Int} (h:dY K w a l) (hk:∀p:Addr,p.block<w.heap.size→w'.cell? p=w.cell? p):dY K w' a l:=by
 obtain⟨b,off,h1,h2⟩:=h;exact⟨b,off,h1,λi hi=>(hk _ (zq w _ (h2 i hi))).trans (h2 i hi)⟩
theorem dY.below {K:IntKind} {w w':World} {a:Option Addr} {l:List Int} (h:dY K w a l) (hb:Below w.heap.size w w'):dY K w' a l:=h.keep λ_ hp=>hb.cell hp
end
section
open Go.RowKit
def aS (N:List Int):List Value:=N.map (Value.int .i64)
def aL (N:List Int):Array Value:=(aS N).toArray
theorem aO (N:List Int):(aS N).length=N.length:=by simp[aS]
theorem rA (N:List Int):(aL N).size=N.length:=by simp[aL,aS]
theorem oL (N:List Int) (i:Nat):(aL N)[i]? =N[i]?.map (Value.int .i64):=by simp[aL,aS]
theorem oM (N:List Int) (i:Nat) (x:Int) (h:N[i]? =some x):(aL N)[i]? =some (.int .i64 x):=by rw[oL,h];rfl
theorem H_ (N:List Int) (i:Nat) (x:Int):(aL N).setIfInBounds i (.int .i64 x)=aL (N.set i x):=by
 simp only[aL,aS,zh,List.map_set]
theorem Uk (N:List Int):∀u∈aS N,u.oneCell'=true:=by
 intro u hu;obtain⟨x,_,rfl⟩:=qj.1 hu;rfl
theorem Ia (N:List Int):(aL N).all (·.oneCell')=true:=all_oneCell_toArray (Uk N)
def IsNode (w:World) (b:Nat) (T:TypeId) (N:List Int):Prop:=w.heap[b]? =some (.cells (aL N) T (0,0))
theorem IsNode.cell {w:World} {b:Nat} {T:TypeId} {N:List Int} (h:IsNode w b T N) (i:Nat) (x:Int) (hx:N[i]? =some x):w.cell? ⟨b,i,none⟩=some (.int .i64 x):=by
 rw[cell_of_row w b i _ _ _ h,oM N i x hx]
theorem IsNode.free {w:World} {b:Nat} {T:TypeId} {N:List Int} (h:IsNode w b T N) (i:Nat):w.frozen? ⟨b,i,none⟩=false:=by
 unfold IsNode at h;simp[World.frozen?,h]
theorem IsNode.lt {w:World} {b:Nat} {T:TypeId} {N:List Int} (h:IsNode w b T N):b<w.heap.size:=(zo.1 h).1
theorem IsNode.below {w w':World} {b:Nat} {T:TypeId} {N:List Int} (h:IsNode w b T N) (hb:Below w.heap.size w w'):IsNode w' b T N:=(hb.block b h.lt).trans h
theorem IsNode.kept {w w':World} {b r:Nat} {T:TypeId} {N:List Int} (h:IsNode w b T N) (hk:Kept r w w') (hr:b≠r):IsNode w' b T N:=(hk.block b h.lt hr).trans h
theorem IsNode.new (w:World) (T:TypeId) (N:List Int):IsNode (w.alloc (.cells (aL N) T)) w.heap.size T N:=heap_alloc_new _ _
theorem IsNode.range {w:World} {b:Nat} {T:TypeId} {N:List Int} (h:IsNode w b T N):w.rangeAt b 0 (aS N):=λj v hv=>by
 rw[qx,cell_of_row w b j _ _ _ h];simpa[aL] using hv
theorem IsNode.part {w:World} {b:Nat} {T:TypeId} {N:List Int} (h:IsNode w b T N) (o n:Nat) (D:List Int) (hD:D=(N.drop o).take n):w.rangeAt b o (aS D):=λj v hv=>by
 subst hD;have hj:j<(aS ((N.drop o).take n)).length:=(zL.1 hv).1;rw[aO,zF,zR] at hj;rw[cell_of_row w b (o+j) _ _ _ h,oL];rw[aS,qb,qh,if_pos oQ,zaB] at hv;exact hv
section
variable {P:Program}
theorem iL {w:World} {b:Nat} {T T':TypeId} {N:List Int} {d:TypeDesc} (h:IsNode w b T' N) (hu:P.underlying T=some d) (hd:d.isRow=true) (hi:(P.info? T).map (·.size)=some N.length):
  (loadVar T ⟨b,0,none⟩).run P w=.ok (.agg (aL N)) w:=run_loadVar_mid w b 0 T (aS N) d h.range hu hd (by rw[aO];exact hi)
theorem mQ (w:World) (b:Nat) (T:TypeId):∀(vs:List Value) (o:Nat) (Z:List Value),w.heap[b]? =some (.cells Z.toArray T (0,0))→o+vs.length=Z.length→
  (w.setCells b o vs).heap[b]? =some (.cells (Z.take o++vs).toArray T (0,0))
 |[],o,Z,h,hl=>by
  rw[World.setCells,qD,zy (by simp at hl;omega)];exact h
 |v::vs,o,Z,h,hl=>by
  rw[World.setCells];have bA:b<w.heap.size:=(zo.1 h).1;have h1:(w.setCell ⟨b,o,none⟩ v).heap[b]? =some (.cells (Z.set o v).toArray T (0,0)):=by
   have h':w.heap[b]=.cells Z.toArray T (0,0):=by simpa[qM bA] using h
   show(w.heap.modify b _)[b]? =_;rw[qM (by simpa using bA),Array.getElem_modify_self,h'];simp
  simp only[zA] at hl;rw[mQ _ b T vs (o+1) (Z.set o v) h1 (by simp;omega)];congr 3;rw[zZ (by simp;omega),List.getElem_set_self,zP,List.take_set_of_le (zm _)];rfl
theorem iC (b:Nat):∀(vs:List Value) (o:Nat) (w:World) (k:Nat),k≠b→(w.setCells b o vs).heap[k]? =w.heap[k]?
 |[],_,_,_,_=>rfl
 |v::vs,o,w,k,h=>by
  rw[World.setCells,iC b vs (o+1) _ k h];exact zI _ _ _ _ h
theorem setCells_size (b:Nat):∀(vs:List Value) (o:Nat) (w:World),(w.setCells b o vs).heap.size=w.heap.size
 |[],_,_=>rfl
 |v::vs,o,w=>by
  rw[World.setCells,setCells_size b vs (o+1) _];simp[World.setCell]
theorem iD (b:Nat):∀(vs:List Value) (o:Nat) (w:World) (B:Nat),B≤b→Below B w (w.setCells b o vs)
 |[],_,_,_,_=>zn _ _
 |v::vs,o,w,B,h=>by
  rw[World.setCells];exact((zn _ _).setCell (p:=⟨b,o,none⟩) h v).trans (iD b vs (o+1) _ B h)
theorem aK {ops:Array Oper} {rest:List Oper} {op:Oper} {a:Act} {w:World} {Q:Exit→Act→World→Prop} (YA:op.guard=none) (ty:TypeId) (x y:Operand) (ho:op.op=.store ty x y)
  (b:Nat) (N:List Int) (Z:List Value) (T:TypeId) (hx:a.eval x=.pointer (some ⟨b,0,none⟩)) (hy:a.eval y=.agg (aL N)) (hZ:w.heap[b]? =some (.cells Z.toArray T (0,0))) (hl:Z.length=N.length)
  (hi:(P.info? ty).map (·.size)=some N.length)
  (h:∀w',IsNode w' b T N→Kept b w w'→w'.heap.size=w.heap.size→wpList P ops Q rest (a.put op.dst undef) w'):wpList P ops Q (op::rest) a w:=by
 have hcell:∀j,w.cell? ⟨b,j,none⟩=Z[j]?:=λj=>by rw[cell_of_row w b j _ _ _ hZ];simp
 refine wpList_store_mid YA ty x y ho b 0 (aL N) hx hy (λj hj=>?_) (by rw[rA];exact hi) (Ia N) (h _ ?_ ⟨by rw[setCells_size];exact zm _,λk _ hk=>iC b _ 0 w k hk,λB hB _=>iD b _ 0 w B hB⟩ (setCells_size _ _ _ _))
 ·rw[rA] at hj
  rw[qx,hcell];exact⟨by rw[zu oQ];rfl,Co hZ j⟩
 ·have:=mQ w b T (aS N) 0 Z hZ (by rw[aO];omega)
  rw[zaA,zB] at this;exact this
 where
 Co {w:World} {g:Nat} {cs:Array Value} {t:TypeId} (hg:w.heap[g]? =some (.cells cs t (0,0))) (j:Nat):w.frozen? ⟨g,j,none⟩=false:=by simp[World.frozen?,hg]
theorem YB {e:TypeId} (he:P.underlying e=some (.int .i64)) {xs:Array Value} {off:Nat} {v:Value} (hx:xs[off]? =some v) (w:World):(part e xs off).run P w=.ok v w:=by
 simp[part,isAgg,run_underlying he,hx]
end
theorem Pz {P:Program} {t e:TypeId} {n:Nat} {i:TypeInfo} (ht:P.underlying t=some (.array n e)) (he:P.underlying e=some (.int .i64)) (hi:P.info? e=some i) (hs:i.size=1) (N:List Int) (j:Nat) (hj:j<n) (x:Int) (hx:N[j]? =some x) (w:World):
  (Instr.index t (.agg (aL N)) (.int .i64 (j:Int))).run P w=.ok (.int .i64 x) w:=by
 unfold Instr.index;have g:=oM N j x hx;have gJ:(sizeOf e).run P w=.ok 1 w:=by simp[sizeOf,typeInfo,hi,hs]
 simp only[asIntOf,qE,zax,qp,run_underlying ht];have hc:0≤(j:Int)∧(j:Int)<(n:Int):=oQ
 rw[if_pos hc];simp only[qE,gJ,qp,Ug,qX];exact YB he g w
theorem dY.ji (w:World) (N:List Int) (e:TypeId) (fr:Nat×Nat) (C:Array Value) (h:C.toList=aS N):dY .i64 (w.alloc (.cells C e fr)) (some ⟨w.heap.size,0,none⟩) N:=by
 refine⟨w.heap.size,0,λ_=>rfl,λi hi=>?_⟩;rw[qx,zaw,←qw,h,aS,qb,zu hi];rfl
theorem IsNode.nums {w:World} {b:Nat} {T:TypeId} {N:List Int} (h:IsNode w b T N) (o n:Nat) (D:List Int) (hD:D=(N.drop o).take n):dY .i64 w (some ⟨b,o,none⟩) D:=
 ⟨b,o,λ_=>rfl,λi hi=>h.part o n D hD i _ (by rw[aS,qb,zu hi];rfl)⟩
theorem dY.alloc_at {w:World} {g:Nat} (hg:g=w.heap.size) (N:List Int) {e:TypeId} {fr:Nat×Nat} {C:Array Value} (h:C.toList=aS N):dY .i64 (w.alloc (.cells C e fr)) (some ⟨g,0,none⟩) N:=by
 subst hg;exact dY.ji w N e fr C h
theorem ay.alloc_at {w:World} {g:Nat} (hg:g=w.heap.size) (l:List UInt8) {e:TypeId} {fr:Nat×Nat} {C:Array Value} (h:C.toList=l.map (λc=>Value.int .u8 (n8 c))):ay (w.alloc (.cells C e fr)) (some ⟨g,0,none⟩) l:=by
 subst hg;exact ay.ji w C e fr l h
theorem IsNode.at {w:World} {g:Nat} (hg:g=w.heap.size) (T:TypeId) (N:List Int) {C:Array Value} (h:C=aL N):IsNode (w.alloc (.cells C T)) g T N:=by
 subst hg h;exact IsNode.new w T N
theorem iE (w:World) (o1:Obj):Below w.heap.size w (w.alloc o1):=(zn _ _).alloc (zm _) o1
theorem Dk (w:World) (o1 o2:Obj):Below w.heap.size w ((w.alloc o1).alloc o2):=(iE w o1).alloc sQ o2
theorem ag_ (w:World) (o1 o2 o3:Obj):Below w.heap.size w (((w.alloc o1).alloc o2).alloc o3):=(Dk w o1 o2).alloc (by simp;omega) o3
theorem aX {P:Program} {ops:Array Oper} {rest:List Oper} {op:Oper} {a:Act} {w:World} {Q:Exit→Act→World→Prop} (YA:op.guard=none) (ty:TypeId) (x:Operand) (ho:op.op=.load ty x)
  (b o:Nat) (hx:a.eval x=.pointer (some ⟨b,o,none⟩)) (D:List Int) (d:TypeDesc) (hc:w.rangeAt b o (aS D))
  (hu:P.underlying ty=some d) (hd:d.isRow=true) (hi:(P.info? ty).map (·.size)=some D.length)
  (h:wpList P ops Q rest (a.put op.dst (.agg (aL D))) w):wpList P ops Q (op::rest) a w:=
 wpList_load_mid YA ty x ho b o hx (aS D) d hc hu hd (by rw[aO];exact hi) h
theorem gy {fn:Func} {p u:Tmp} {ty:TypeId} (h:fn.results=#[.cell p ty,.tmp u]) {P:Program} {w:World} {a:Addr} {C v:Value} {tmps:Array Value} (h1:tmps.getD p undef=.pointer (some a)) (h2:tmps.getD u undef=v) (Gn:(loadVar ty a).run P w=.ok C w):
  (results fn tmps).run P w=.ok (.tuple #[C,v]) w:=by
 rw[results_cell_tmp h,h1,h2];simp[asAddr,Gn,Result.andThen]
theorem ay.afE {w w':World} {g:Nat} {T:TypeId} {N:List Int} {a:Option Addr} {l:List UInt8} (h:ay w a l) (hg:IsNode w g T N) (hk:Kept g w w'):ay w' a l:=by
 obtain⟨b,o,e1,e2⟩:=h;refine⟨b,o,e1,λi hi=>?_⟩;have e3:=e2 i hi;have FW:b≠g∨b=g:=oQ
 rcases FW with FW|rfl
 ·rw[←e3]
  exact zS (hk.block b (zq _ _ e3) FW)
 ·rw[cell_of_row _ b _ _ _ _ hg,oL] at e3
  cases hq:N[o+i]? with
  |none=>rw[hq] at e3;cases e3
  |some v=>rw[hq] at e3;cases e3
section
variable {P:Program} {ops:Array Oper} {rest:List Oper} {o:Oper} {a:Act} {w:World} {Q:Exit→Act→World→Prop} {S:World→Prop} {t t2:TypeId} {X Y:Array Value} {b:Bool}
theorem xS (x y:Operand) (ho:o.op=.binOp .eql t x y t2) (hx:a.eval x=.agg X) (hy:a.eval y=.agg Y) (hg:P.eqGuardType P.depth t=false) (heq:(Op.equalIn 10000 t (.agg X) (.agg Y)).run P w=.ok b w):
  (execOp a.eval o).run P w=.ok (.value (.bool b)) w:=by
 unfold execOp;simp only[ho,hx,hy,qE,run_eqGuard_agg w .eql t x y X Y hg,qp,run_eql_struct,heq,zax]
theorem bB (v:Value) (hw:Region.wanted o (yielded ops a.tmps)=true) (he:(execOp a.eval o).run P w=.ok (.value v) w) (h:wpList P ops Q rest (a.put o.dst v) w):wpList P ops Q (o::rest) a w:=
 wpList_step λK hK=>by
  rw[if_pos hw];unfold Oper.wp;rw[he];exact hK _ _ h
end
def ah (w:World) (b:Nat) (T:TypeId) (vs:List Value):Prop:=w.heap[b]? =some (.cells vs.toArray T (0,0))
theorem ah.cell {w:World} {b:Nat} {T:TypeId} {vs:List Value} (h:ah w b T vs) (i:Nat):w.cell? ⟨b,i,none⟩=vs[i]?:=by
 rw[cell_of_row w b i _ _ _ h];simp
theorem ah.free {w:World} {b:Nat} {T:TypeId} {vs:List Value} (h:ah w b T vs) (i:Nat):w.frozen? ⟨b,i,none⟩=false:=by
 unfold ah at h;simp[World.frozen?,h]
theorem ah.lt {w:World} {b:Nat} {T:TypeId} {vs:List Value} (h:ah w b T vs):b<w.heap.size:=(zo.1 h).1
theorem ah.eU {w:World} {b b':Nat} {T T':TypeId} {vs vs':List Value} (h:ah w b T vs) (h':ah w b' T' vs') (hT:T≠T'):b≠b':=by
 rintro rfl;unfold ah at h h';rw[h] at h';injection h' with h';injection h' with _ h';exact hT h'
theorem ah.below {w w':World} {b:Nat} {T:TypeId} {vs:List Value} (h:ah w b T vs) (hb:Below w.heap.size w w'):ah w' b T vs:=(hb.block b h.lt).trans h
theorem ah.kept {w w':World} {b r:Nat} {T:TypeId} {vs:List Value} (h:ah w b T vs) (hk:Kept r w w') (hr:b≠r):ah w' b T vs:=(hk.block b h.lt hr).trans h
theorem ah.new (w:World) (T:TypeId) (vs:List Value):ah (w.alloc (.cells vs.toArray T)) w.heap.size T vs:=heap_alloc_new _ _
theorem ah.at {w:World} {g:Nat} (hg:g=w.heap.size) (T:TypeId) (vs:List Value):ah (w.alloc (.cells vs.toArray T)) g T vs:=by
 subst hg;exact ah.new w T vs
theorem ah.range {w:World} {b:Nat} {T:TypeId} {vs:List Value} (h:ah w b T vs):w.rangeAt b 0 vs:=λj v hv=>by
 rw[qx,h.cell];exact hv
theorem ah.aB {w:World} {g:Nat} {T:TypeId} {vs:List Value} (h:ah w g T vs) (i:Nat) (v:Value):ah (w.setCell ⟨g,i,none⟩ v) g T (vs.set i v):=by
 have bA:=h.lt;have h':w.heap[g]=.cells vs.toArray T (0,0):=by
  unfold ah at h;simpa[qM bA] using h
 show(w.heap.modify g _)[g]? =_;rw[qM (by simpa using bA),Array.getElem_modify_self,h'];simp
section
variable {P:Program} {ops:Array Oper} {rest:List Oper} {o:Oper} {a:Act} {w:World} {Q:Exit→Act→World→Prop} {t:TypeId}
theorem mq {w:World} {b:Nat} {T T':TypeId} {vs:List Value} {d:TypeDesc} (h:ah w b T' vs) (hu:P.underlying T=some d) (hd:d.isRow=true) (hi:(P.info? T).map (·.size)=some vs.length):
  (loadVar T ⟨b,0,none⟩).run P w=.ok (.agg vs.toArray) w:=run_loadVar_mid w b 0 T vs d h.range hu hd hi
theorem Bt (x:Operand) (ho:o.op=.load t x) (b:Nat) (hx:a.eval x=.pointer (some ⟨b,0,none⟩)) {T':TypeId} (vs:List Value) (d:TypeDesc) (h:ah w b T' vs)
  (hu:P.underlying t=some d) (hd:d.isRow=true) (hi:(P.info? t).map (·.size)=some vs.length):(execOp a.eval o).run P w=.ok (.value (.agg vs.toArray)) w:=by
 unfold execOp;simp only[ho,hx,Instr.loadAt,Instr.sureAddr,qE,zax,qp,mq h hu hd hi]
theorem kF (x:Operand) (ho:o.op=.load t x) (b:Nat) (hx:a.eval x=.pointer (some ⟨b,0,none⟩)) {T':TypeId} (vs:List Value) (d:TypeDesc) (h:ah w b T' vs)
  (hu:P.underlying t=some d) (hd:d.isRow=true) (hi:(P.info? t).map (·.size)=some vs.length) (hw:Region.wanted o (yielded ops a.tmps)=true)
  (hk:wpList P ops Q rest (a.put o.dst (.agg vs.toArray)) w):wpList P ops Q (o::rest) a w:=
 bB _ hw (Bt x ho b hx vs d h hu hd hi) hk
theorem jU {K:Act→World→Prop} {E:Prop} (ty:TypeId) (x y:Operand) (ho:o.op=.store ty x y)
  (b:Nat) (vs Z:List Value) (T:TypeId) (hx:a.eval x=.pointer (some ⟨b,0,none⟩)) (hy:a.eval y=.agg vs.toArray) (hZ:ah w b T Z) (hl:Z.length=vs.length)
  (hi:(P.info? ty).map (·.size)=some vs.length) (h1:∀v∈vs,v.oneCell'=true) (hw:Region.wanted o (yielded ops a.tmps)=true)
  (h:∀w',ah w' b T vs→Kept b w w'→w'.heap.size=w.heap.size→K (a.put o.dst undef) w'):if Region.wanted o (yielded ops a.tmps)=true then Oper.wp P o a w K Q else E:=by
 rw[if_pos hw];refine wp_store_mid ty x y ho b 0 vs.toArray hx hy (λj hj=>?_) (by simpa using hi) (all_oneCell_toArray h1) (h _ ?_ ⟨by rw[setCells_size];exact zm _,λk _ hk=>iC b _ 0 w k hk,λB hB _=>iD b _ 0 w B hB⟩ (setCells_size _ _ _ _))
 ·rw[qx,hZ.cell]
  have hj':j<vs.length:=by simpa using hj
  exact⟨by rw[zu oQ];rfl,hZ.free j⟩
 ·have:=mQ w b T vs 0 Z hZ oQ
  rw[zaA,zB] at this;exact this
theorem dJ (ty:TypeId) (x y:Operand) (ho:o.op=.store ty x y)
  (b:Nat) (vs Z:List Value) (T:TypeId) (hx:a.eval x=.pointer (some ⟨b,0,none⟩)) (hy:a.eval y=.agg vs.toArray) (hZ:ah w b T Z) (hl:Z.length=vs.length)
  (hi:(P.info? ty).map (·.size)=some vs.length) (h1:∀v∈vs,v.oneCell'=true) (hw:Region.wanted o (yielded ops a.tmps)=true)
  (h:∀w',ah w' b T vs→Kept b w w'→w'.heap.size=w.heap.size→wpList P ops Q rest (a.put o.dst undef) w'):wpList P ops Q (o::rest) a w:=
 wpList_step λK hK=>by
  exact jU ty x y ho b vs Z T hx hy hZ hl hi h1 hw λw' h1 h2 h3=>hK _ _ (h w' h1 h2 h3)
theorem Ul {Z:List Value} (hz:(P.info? t).map (·.zero)=some (some (.agg Z.toArray))) (w:World):(zeroValue t).run P w=.ok (.agg Z.toArray) w:=by
 cases hi:P.info? t with
 |none=>rw[hi] at hz;cases hz
 |some i=>
  rw[hi] at hz;have h2:i.zero=some (.agg Z.toArray):=by simpa using hz
  simp[zeroValue,typeInfo,hi,h2]
theorem JH (ho:o.op=.alloc t) {Z:List Value} (hz:(P.info? t).map (·.zero)=some (some (.agg Z.toArray))):
  (execOp a.eval o).run P w=.ok (.value (.pointer (some ⟨w.heap.size,0,none⟩))) (w.alloc (.cells Z.toArray t)):=by
 unfold execOp;simp only[ho,Instr.alloc,qE,Ul hz,qp,newVar,newRow,Value.cells];rfl
theorem iF (ho:o.op=.alloc t) (hg:o.guard=none) {Z:List Value} (hz:(P.info? t).map (·.zero)=some (some (.agg Z.toArray)))
  (h:∀w',ah w' w.heap.size t Z→Below w.heap.size w w'→w'.heap.size=w.heap.size+1→wpList P ops Q rest (a.put o.dst (.pointer (some ⟨w.heap.size,0,none⟩))) w'):wpList P ops Q (o::rest) a w:=
 Great.wpList_runTo hg _ rfl _ _ (JH ho hz) (h _ (ah.new w t Z) (iE w _) sQ)
theorem dN {fn:Func} {p:Tmp} {ty T':TypeId} (h:fn.results=#[.cell p ty]) {tmps:Array Value} {b:Nat} {vs:List Value} {d:TypeDesc} (h1:tmps.getD p undef=.pointer (some ⟨b,0,none⟩)) (hv:ah w b T' vs)
  (hu:P.underlying ty=some d) (hd:d.isRow=true) (hi:(P.info? ty).map (·.size)=some vs.length):
  (results fn tmps).run P w=.ok (.agg vs.toArray) w:=
 results_cell_row h tmps w b T' vs.toArray (0,0) d h1 hv hu (by cases d<;>first|rfl|(cases hd)) (by simpa using hi)
end
abbrev BT (T:TypeId):Prop:=T=5∨T=6∨T=7∨T=8∨T=354∨T=391∨T=427∨T=428∨T=440∨T=441∨T=445∨T=446∨447≤T
structure Fr where
 ty:TypeId
 fz:Nat×Nat
 ok:BT ty
def u8F (f:Nat×Nat):Fr:=⟨5,f,.inl rfl⟩
theorem Fr.no {fr:Fr} {T:TypeId} (h:T=fr.ty) (hT:¬BT T):False:=hT (by rw[h];exact fr.ok)
def B8 (w:World) (k:Nat):Prop:=∃(C:Array Value) (fr:Fr),w.heap[k]? =some (.cells C fr.ty fr.fz)
theorem ah.aV {w:World} {b:Nat} {T:TypeId} {vs:List Value} (h:ah w b T vs) (hT:¬BT T):¬B8 w b:=by
 rintro⟨C,fr,h2⟩;unfold ah at h;rw[h] at h2;injection h2 with h2;injection h2 with _ h2;exact hT (by rw[h2];exact fr.ok)
structure Step (F:Nat→Prop) (w:World) (F':Nat→Prop) (w':World):Prop where
 os:w'.os=w.os
 tape:w'.tape=w.tape
 output:w'.output=w.output
 size:w.heap.size≤w'.heap.size
 keep:∀k,k<w.heap.size→(¬F k∨B8 w k)→w'.heap[k]? =w.heap[k]?
 new:∀k,F' k→F k∨w.heap.size≤k
theorem Step.refl (F:Nat→Prop) (w:World):Step F w F w:=⟨rfl,rfl,rfl,zm _,λ_ _ _=>rfl,λ_ h=>.inl h⟩
theorem B8.step {F F':Nat→Prop} {w w':World} (h:Step F w F' w') {k:Nat} (hb:B8 w k):B8 w' k:=by
 obtain⟨C,fr,hk⟩:=hb;have bA:k<w.heap.size:=(zo.1 hk).1;exact⟨C,fr,(h.keep k bA (.inr ⟨C,fr,hk⟩)).trans hk⟩
theorem Step.trans {F F' F'':Nat→Prop} {a b c:World} (h:Step F a F' b) (k:Step F' b F'' c):Step F a F'' c:=by
 refine⟨k.os.trans h.os,k.tape.trans h.tape,k.output.trans h.output,zC h.size k.size,λi hi jV=>?_,λi hi=>?_⟩
 ·have h1:=h.keep i hi jV
  refine(k.keep i (zx hi h.size) ?_).trans h1;rcases jV with hn|h8
  ·left
   intro hF;rcases h.new i hF with h2|h2
   ·exact hn h2
   ·omega
  ·exact .inr (h8.step h)
 ·rcases k.new i hi with h2|h2
  ·exact h.new i h2
  ·exact .inr (zC h.size h2)
theorem Step.of_below {w w':World} (h:Below w.heap.size w w') (F:Nat→Prop):Step F w F w':=⟨h.os,h.tape,h.output,h.size,λk hk _=>h.block k hk,λ_ h=>.inl h⟩
theorem Step.drew (F:Nat→Prop) (w:World):Step F w F w.drew:=⟨rfl,rfl,rfl,zm _,λ_ _ _=>rfl,λ_ h=>.inl h⟩
theorem Step.alloc (F:Nat→Prop) (w:World) (o:Obj):Step F w F (w.alloc o):=Step.of_below ((zn _ _).alloc (zm _) o) F
theorem Step.setCell {F:Nat→Prop} {w:World} {b:Nat} (hF:F b) (h8:¬B8 w b) (o:Nat) (v:Value):Step F w F (w.setCell ⟨b,o,none⟩ v):=
 ⟨rfl,rfl,rfl,by simp[World.setCell],λk hk jV=>zI _ _ _ _ (by
  rintro rfl;rcases jV with h|h
  ·exact h hF
  ·exact h8 h),λ_ h=>.inl h⟩
theorem Step.set1 {w:World} {b:Nat} (h8:¬B8 w b) (o:Nat) (v:Value):Step (· =b) w (· =b) (w.setCell ⟨b,o,none⟩ v):=Step.setCell (F:=(· =b)) rfl h8 o v
theorem Step.PD {F F':Nat→Prop} {w w':World} (h:Step F w F' w') {b:Nat} (hb:w.heap.size≤b) (o:Nat) (v:Value):Step F w F' (w'.setCell ⟨b,o,none⟩ v):=
 ⟨h.os,h.tape,h.output,by simpa[World.setCell] using h.size,λk hk jV=>(zI _ _ _ _ (by
  rintro rfl;exact absurd hk (Nat.not_lt.2 hb))).trans (h.keep k hk jV),h.new⟩
theorem Step.Sy {F:Nat→Prop} {w w':World} {r:Nat} (h:Kept r w w') (hF:F r) (h8:¬B8 w r):Step F w F w':=by
 have hb:=h.below 0 (ql _) (ql _)
 refine⟨hb.os,hb.tape,hb.output,h.size,λk hk jV=>h.block k hk (by
  rintro rfl;rcases jV with h|h
  ·exact h hF
  ·exact h8 h),λ_ h=>.inl h⟩
theorem Step.bU {F:Nat→Prop} {w w':World} {row:Option Nat} (h:w.grownBy w' row) (hF:∀r,row=some r→F r∧¬B8 w r):Step F w F w':=
 ⟨h.os,h.tape,h.output,h.size,λk hk jV=>h.block k hk (λe=>by
  obtain⟨h1,h2⟩:=hF k e.symm;rcases jV with h|h
  ·exact h h1
  ·exact h2 h),λ_ h=>.inl h⟩
theorem Step.more {F F' G G':Nat→Prop} {w w':World} (h:Step F w F' w') (h1:∀k,F k→G k) (h2:∀k,G' k→G k∨w.heap.size≤k):Step G w G' w':=
 ⟨h.os,h.tape,h.output,h.size,λk hk jV=>h.keep k hk (jV.imp (λhn hF=>hn (h1 k hF)) id),h2⟩
theorem Step.to {F F' G':Nat→Prop} {w w':World} (h:Step F w F' w') (h2:∀k,G' k→F k∨w.heap.size≤k):Step F w G' w':=h.more (λ_ h=>h) h2
theorem Step.up {b:Nat} {F:Nat→Prop} {w w':World} (h:Step (· =b) w (· =b) w') (hF:F b):Step F w F w':=h.more (λk hk=>by subst hk;exact hF) (λk hk=>.inl hk)
theorem Step.below {F F':Nat→Prop} {w w':World} (h:Step F w F' w') {B:Nat} (hF:∀k,F k→B≤k) (hB:B≤w.heap.size):Below B w w':=
 ⟨h.os,h.tape,h.output,h.size,λk hk=>h.keep k oQ (.inl λhf=>by have:=hF k hf;omega)⟩
theorem Step.inner {F F' G G':Nat→Prop} {w w0 w':World} (h:Step F w F' w0) (hs:Step G w0 G' w') (hG:∀k,G k→F' k∨w.heap.size≤k):Step F w F' w':=
 ⟨hs.os.trans h.os,hs.tape.trans h.tape,hs.output.trans h.output,zC h.size hs.size,λk hk jV=>(hs.keep k (zx hk h.size) (by
  rcases jV with hn|h8
  ·left
   intro hg;rcases hG k hg with h1|h1
   ·rcases h.new k h1 with h2|h2
    ·exact hn h2
    ·omega
   ·omega
  ·exact .inr (h8.step h))).trans (h.keep k hk jV),h.new⟩
theorem Step.aW {F F':Nat→Prop} {w w':World} (h:Step F w F' w') {b:Nat} {T:TypeId} {vs:List Value} (hb:ah w b T vs) (hn:¬F b):ah w' b T vs:=(h.keep b hb.lt (.inl hn)).trans hb
theorem Step.cell {F F':Nat→Prop} {w w':World} (h:Step F w F' w') {p:Addr} (hp:p.block<w.heap.size) (hn:¬F p.block):w'.cell? p=w.cell? p:=zS (w:=w) (h.keep p.block hp (.inl hn))
theorem Step.apart {F F':Nat→Prop} {w w':World} (h:Step F w F' w') {b:Nat} (hb:b<w.heap.size) (hn:¬F b):¬F' b:=λh2=>by
 rcases h.new b h2 with h3|h3
 ·exact hn h3
 ·omega
def cZ (w:World) (a:Option Addr) (l:List UInt8):Prop:=l=[]∨∃(b off:Nat) (C:Array Value) (fr:Fr),a=some ⟨b,off,none⟩∧w.heap[b]? =some (.cells C fr.ty fr.fz)∧∀i,(h:i<l.length)→C[off+i]? =some (.int .u8 (n8 l[i]))
theorem cZ.nil (w:World) (a:Option Addr):cZ w a []:=.inl rfl
theorem cZ.step {F F':Nat→Prop} {w w':World} (hs:Step F w F' w') {a:Option Addr} {l:List UInt8} (h:cZ w a l):cZ w' a l:=by
 rcases h with h|⟨b,off,C,fr,ha,hb,hc⟩
 ·exact .inl h
 ·have bA:b<w.heap.size:=(zo.1 hb).1
  exact .inr ⟨b,off,C,fr,ha,(hs.keep b bA (.inr ⟨C,fr,hb⟩)).trans hb,hc⟩
theorem cZ.below {w w':World} (hs:Below w.heap.size w w') {a:Option Addr} {l:List UInt8} (h:cZ w a l):cZ w' a l:=h.step (Step.of_below hs (λ_=>False))
theorem cZ.is {w:World} {a:Option Addr} {l:List UInt8} (h:cZ w a l):ay w a l:=by
 rcases h with rfl|⟨b,off,C,fr,ha,hb,hc⟩
 ·exact ay.nil w a
 ·refine⟨b,off,λ_=>ha,λi hi=>?_⟩
  have:=hc i hi;unfold World.cell?;simp[hb,this]
theorem cZ.take {w:World} {a:Option Addr} {l:List UInt8} (h:cZ w a l) (k:Nat):cZ w a (l.take k):=by
 rcases h with rfl|⟨b,off,C,fr,ha,hb,hc⟩
 ·exact .inl sQ
 ·refine .inr ⟨b,off,C,fr,ha,hb,λi hi=>?_⟩
  rw[zF] at hi;rw[hc i oQ];simp
theorem Own.pR {base:Nat} {w:World} {A:Option Addr} {c:Nat} {l:List UInt8} (h:Own 5 base w A c (l.map aH)):cZ w A l:=by
 rcases h.2 with⟨_,h0⟩|⟨g,cap,cur,hv,_,hg,JG,_,vS,ht⟩
 ·left
  rw[zD] at h0;exact zX h0
 ·right
  injection hv with hv _ hc;subst hv;refine⟨g,0,cur,u8F (0,0),rfl,hg,λi hi=>?_⟩;have h1:(l.map aH)[i]? =some (.int .u8 (n8 l[i])):=by
   rw[qb,zu hi];rfl
  rw[qx,←h1]
  conv=>rhs;rw[←ht]
  rw[qh,if_pos (by rw[zD];omega),qw]
structure Dl (P:Program) (t e:TypeId) (z:Value) (k bytes:Nat):Prop where
 slice:P.underlying t=some (.slice e)
 info:(P.info? e).map (λi=>(i.zero,i.size,i.bytes))=some (some z,k,bytes)
 cells:z.cells.size=k
 pos:0<k
theorem Uo (w:World) (xs:List Value) (t:TypeId):∀j u,xs[j]? =some u→(w.alloc (.cells xs.toArray t)).cell? ((⟨w.heap.size,0,none⟩:Addr).add j)=some u:=by
 intro j u hj;have h2:(⟨w.heap.size,0,none⟩:Addr).add j=⟨w.heap.size,j,none⟩:=by unfold Addr.add;split<;>simp_all
 rw[h2,(ah.new w t xs).cell,hj]
theorem jk {P:Program} {t e:TypeId} {z:Value} {k bytes:Nat} (E:Dl P t e z k bytes) (ty:TypeId) (w:World) {v:Value} {n:Nat} {xs:List Value} (hown:w.ownsRow 0 e k v n xs) (ys:List Value) (hk:ys.length=k)
  (h1:∀u∈ys,u.oneCell'=true) (lC:(n+1)*bytes≤140737488355328) (Pf:n+1≤140737488355328) (T:TypeId):
  ∃g cap w',(Builtin.append_ #[t,t] ty #[v,.slice (some ⟨w.heap.size,0,none⟩) 1 1]).run P (w.alloc (.cells ys.toArray T))=.ok (.slice (some ⟨g,0,none⟩) (n+1) cap) w'∧
   w'.ownsRow 0 e k (.slice (some ⟨g,0,none⟩) (n+1) cap) (n+1) (xs++ys)∧w.grownBy w' v.ownBlock∧(v.ownBlock=some g∨w.heap.size≤g):=by
 obtain⟨i,hi,hz,hs,hb⟩:=info_parts E.info;have LJ:n+1≤maxLen:=by simp only[maxLen];omega
 obtain⟨v',w',hrun,ho,hg,_,dw⟩:=run_append_own_at (P:=P) (w.alloc (.cells ys.toArray T)) 0 t ty e i z k bytes E.slice hi hz hs hb E.cells E.pos v n xs (hown.alloc _) ⟨w.heap.size,0,none⟩ 1 1 ys (by simpa using hk) (Uo w ys T) h1 LJ lC (ql _);rcases ho.2 with⟨_,h0⟩|⟨g,cap,cur,hv,_⟩
 ·omega
 ·subst hv
  refine⟨g,cap,w',hrun,ho,(World.grownBy_alloc w _ _).trans hg,?_⟩;rcases dw with h|h
  ·exact .inl (by simpa[Value.ownBlock] using h.symm)
  ·right
   have:g=(w.alloc (.cells ys.toArray T)).heap.size:=by simpa[Value.ownBlock] using h
   rw[this];simp
theorem aN {w:World} {e:TypeId} {k n:Nat} {v:Value} {xs:List Value} (h:w.ownsRow 0 e k v n xs) {g:Nat} (hg:v.ownBlock=some g):∃C,w.heap[g]? =some (.cells C e (0,0)):=by
 rcases h.2 with⟨rfl,_⟩|⟨g',cap,cur,rfl,_,hb,_⟩
 ·simp[Value.ownBlock] at hg
 ·have:g'=g:=by simpa[Value.ownBlock] using hg
  subst this;exact⟨cur,hb⟩
theorem aC {F F':Nat→Prop} {w w':World} (hs:Step F w F' w') {e:TypeId} {k n:Nat} {v:Value} {xs:List Value} (h:w.ownsRow 0 e k v n xs) (hn:∀g,v.ownBlock=some g→¬F g):w'.ownsRow 0 e k v n xs:=by
 refine⟨h.1,?_⟩;rcases h.2 with h0|⟨g,cap,cur,rfl,hb,hg,r⟩
 ·exact .inl h0
 ·exact .inr ⟨g,cap,cur,rfl,hb,(hs.keep g (zo.1 hg).1 (.inl (hn g rfl))).trans hg,r⟩
theorem bL {w:World} {e:TypeId} {k n:Nat} {v:Value} {xs:List Value} (h:w.ownsRow 0 e k v n xs) {g:Nat} (hg:v.ownBlock=some g) (j:Nat) {u:Value} (hu:xs[j]? =some u):w.cell? ⟨g,j,none⟩=some u:=by
 rcases h.2 with⟨rfl,_⟩|⟨g',cap,cur,rfl,_,hb,_,_,_,ht⟩
 ·simp[Value.ownBlock] at hg
 ·have:g'=g:=by simpa[Value.ownBlock] using hg
  subst this;rw[cell_of_row w g' j _ _ _ hb,←hu]
  conv=>rhs;rw[←ht]
  have hj:=(zL.1 hu).1;rw[h.1] at hj;rw[qh,if_pos hj,qw]
end
end Go.Proofs.YtdjdpeadohobmaaGreatDoor
