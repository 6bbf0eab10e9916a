/- A part of the walk below the law: what is proved here is used by later parts; no further condition. -/
import Derived.Test.YtdjdpeadohobmaaGreatDoorK43
set_option linter.unusedVariables false
set_option linter.unusedSimpArgs false
set_option maxRecDepth 100000
set_option maxHeartbeats 20000000
namespace Go.Proofs.YtdjdpeadohobmaaGreatDoor
section
section
variable {P:Program} {ops:Array Oper} {Q:Exit→Act→World→Prop} {md:Region.Mode} {S:World→Prop} {m:Nat}
theorem FN {i j k:Nat} {o p r:Oper} {tl tl2 tl3:List Oper} {fuel:Nat} {listed:Array Bool} {a:Act} {w:World} (hi:ops.toList.drop i=o::tl) (hj:ops.toList.drop j=p::tl2) (hk:ops.toList.drop k=r::tl3) (hr:Region.ready md ops listed=[i,j,k])
  (h:∀K':Act→World→Prop,Shut (∀a w,(i<m→S w)→((i<m→S w)→Any P md ops Q S m fuel (listed.setIfInBounds i true) a w)→K' a w)→if Region.wanted o (yielded ops a.tmps)=true then Oper.wp P o a w K' Q else K' (a.put o.dst undef) w)
  (h2:∀K':Act→World→Prop,Shut (∀a w,(j<m→S w)→((j<m→S w)→Any P md ops Q S m fuel (listed.setIfInBounds j true) a w)→K' a w)→if Region.wanted p (yielded ops a.tmps)=true then Oper.wp P p a w K' Q else K' (a.put p.dst undef) w)
  (h3:∀K':Act→World→Prop,Shut (∀a w,(k<m→S w)→((k<m→S w)→Any P md ops Q S m fuel (listed.setIfInBounds k true) a w)→K' a w)→if Region.wanted r (yielded ops a.tmps)=true then Oper.wp P r a w K' Q else K' (a.put r.dst undef) w):
  Any P md ops Q S m (fuel+1) listed a w:=by
 refine⟨λh0=>(by rw[h0] at hr;cases hr),λq hq=>?_⟩;rw[hr] at hq;rcases zH.1 hq with rfl|hq
 ·exact wpOp_step (dG hi) (λK' hK=>h K' (λa w hS hW=>hK a w ⟨hS,hW hS⟩))
 ·rcases zH.1 hq with rfl|hq
  ·exact wpOp_step (dG hj) (λK' hK=>h2 K' (λa w hS hW=>hK a w ⟨hS,hW hS⟩))
  ·rcases zV.1 hq with rfl
   exact wpOp_step (dG hk) (λK' hK=>h3 K' (λa w hS hW=>hK a w ⟨hS,hW hS⟩))
end
open Go.RowKit Go.Shelf Go.Maps O
abbrev O6:=List (Nat×TypeId×List Value)
abbrev oq:=Nat→Nat→(Nat→Bytes)→Bool→Bool→Op→Prop
def bR (W0:World) (fm d fb B P:Nat) (p:oq) (K:O6) (w:World):Prop:=∃q nn C cl yo op F,p q nn C cl yo op∧jB W0 w K fm d fb B P q nn C cl yo op F
section
variable {W0 w w':World} {K K':O6} {fm d fb B P:Nat} {p p':oq}
theorem bR.grow (h:bR W0 fm d fb B P p K w) (hB:Below w.heap.size w w'):bR W0 fm d fb B P p K w':=by
 obtain⟨q,nn,C,cl,yo,op,F,h1,h2⟩:=h;exact⟨q,nn,C,cl,yo,op,F,h1,h2.grow hB⟩
theorem bR.drew (h:bR W0 fm d fb B P p K w):bR W0 fm d fb B P p K w.drew:=h.grow (zn _ _).drew
theorem bR.alloc (h:bR W0 fm d fb B P p K w) (T:TypeId) (vs:List Value):bR W0 fm d fb B P p ((w.heap.size,T,vs)::K) (w.alloc (.cells vs.toArray T)):=by
 obtain⟨q,nn,C,cl,yo,op,F,h1,h2⟩:=h;exact⟨q,nn,C,cl,yo,op,F,h1,(h2.grow ((zn _ _).alloc (zm _) _)).add (ah.new w _ _) (λhf=>by have:=h2.kE.fs.lt _ hf;omega) (λe=>by have:=h2.kE.cells.lt;omega)⟩
theorem bR.box (h:bR W0 fm d fb B P p K w) {b:Nat} {T:TypeId} {vs:List Value} (hb:(b,T,vs)∈K):ah w b T vs:=by
 obtain⟨q,nn,C,cl,yo,op,F,h1,h2⟩:=h;exact(h2.box _ hb).1
theorem bR.cell (h:bR W0 fm d fb B P p K w) {b:Nat} {T:TypeId} {vs:List Value} (hb:(b,T,vs)∈K) (j:Nat):w.cell? ⟨b,j,none⟩=vs[j]?:=(h.box hb).cell j
theorem bR.sub (h:bR W0 fm d fb B P p K w) (hs:∀x∈K',x∈K):bR W0 fm d fb B P p K' w:=by
 obtain⟨q,nn,C,cl,yo,op,F,h1,h2⟩:=h;exact⟨q,nn,C,cl,yo,op,F,h1,h2.sub hs⟩
theorem bR.imp (h:bR W0 fm d fb B P p K w) (hs:∀q nn C cl yo op,p q nn C cl yo op→p' q nn C cl yo op):bR W0 fm d fb B P p' K w:=by
 obtain⟨q,nn,C,cl,yo,op,F,h1,h2⟩:=h;exact⟨q,nn,C,cl,yo,op,F,hs _ _ _ _ _ _ h1,h2⟩
theorem bR.size (h:bR W0 fm d fb B P p K w):W0.heap.size≤w.heap.size:=by
 obtain⟨q,nn,C,cl,yo,op,F,h1,h2⟩:=h;exact h2.O5.size
theorem bR.aB (h:bR W0 fm d fb B P p K w) {b:Nat} {T:TypeId} {vs:List Value} (hb:(b,T,vs)∈K) (hT:¬BT T) (xW:W0.heap.size≤b) (h5:5≤b) (hK:∀x∈K',x.1≠b∧x∈K) (j:Nat) (u:Value):bR W0 fm d fb B P p ((b,T,vs.set j u)::K') (w.setCell ⟨b,j,none⟩ u):=by
 obtain⟨q,nn,C,cl,yo,op,F,h1,h2⟩:=h;obtain⟨y1,y2,y3⟩:=h2.box _ hb;have hs:Step (· =b) w (· =b) (w.setCell ⟨b,j,none⟩ u):=Step.set1 (y1.aV hT) j u;have Ls:=h2.kE.step hs (λk hk e=>y2 (e▸hk)) (λe=>y3 e.symm) (λk hk=>by subst hk;exact h5);refine⟨q,nn,C,cl,yo,op,F,h1,⟨Ls,h2.O5.trans (hs.below (λk hk=>by subst hk;exact xW) h2.O5.size),h2.ge,h2.fge,λx hx=>?_⟩⟩;rcases zH.1 hx with rfl|hx
 ·exact⟨y1.aB j u,y2,y3⟩
 ·obtain⟨z1,z2⟩:=hK x hx
  obtain⟨y4,y5,y6⟩:=h2.box _ z2;exact⟨y4.step hs z1,y5,y6⟩
theorem bR.kept (h:bR W0 fm d fb B P p K w) {b:Nat} {T:TypeId} {vs vs':List Value} (hb:(b,T,vs)∈K) (hT:¬BT T) (xW:W0.heap.size≤b) (h5:5≤b) (hk:Kept b w w') (hv:ah w' b T vs') (hK:∀x∈K',x.1≠b∧x∈K):bR W0 fm d fb B P p ((b,T,vs')::K') w':=by
 obtain⟨q,nn,C,cl,yo,op,F,h1,h2⟩:=h;obtain⟨y1,y2,y3⟩:=h2.box _ hb;have hs:Step (· =b) w (· =b) w':=Step.Sy (F:=(· =b)) hk rfl (y1.aV hT);have Ls:=h2.kE.step hs (λk hk e=>y2 (e▸hk)) (λe=>y3 e.symm) (λk hk=>by subst hk;exact h5);refine⟨q,nn,C,cl,yo,op,F,h1,⟨Ls,h2.O5.trans (hs.below (λk hk=>by subst hk;exact xW) h2.O5.size),h2.ge,h2.fge,λx hx=>?_⟩⟩;rcases zH.1 hx with rfl|hx
 ·exact⟨hv,y2,y3⟩
 ·obtain⟨z1,z2⟩:=hK x hx
  obtain⟨y4,y5,y6⟩:=h2.box _ z2;exact⟨y4.step hs z1,y5,y6⟩
theorem O7 (e n m:Int):∀v∈aI e n m,v.oneCell'=true:=by
 intro v hv;simp only[aI,zH,zO,or_false] at hv;rcases hv with rfl|rfl|rfl|rfl|rfl|rfl|rfl|rfl<;>rfl
theorem TY (a b c:Int):∀v∈([.int .i64 a,.int .i64 b,.int .i64 c]:List Value),v.oneCell'=true:=by
 intro v hv;simp only[zH,zO,or_false] at hv;rcases hv with rfl|rfl|rfl<;>rfl
end
end
section
open Go.RowKit Go.Shelf Go.Maps O
def jT (W0:World) (fm d fb B P:Nat) (K:O6) (p:oq) (ec nc mc:Int) (e:Ending) (w':World):Prop:=(∃a b c,e=.returned (.tuple #[dH ec nc mc,gY a b c]))∧bR W0 fm d fb B P p K w'
theorem pQ (op:Op) (i:Nat) (x:Option (Nat×Nat)):f_ op i x i=x:=by unfold f_;rw[if_pos rfl]
section
variable {W0 w w':World} {K K':O6} {fm d fb B P q nn:Nat} {C:Nat→Bytes} {cl yo:Bool} {op:Op} {F:Nat→Prop} {p p':oq}
theorem jh.top {args:Array Value} {ec nc mc:Int} {pp:Nat→Nat→(Nat→Bytes)→Bool→Op→Prop} (h:jB W0 w K fm d fb B P q nn C cl yo op F) (hd:Calls Tryz.prog 8 args w λe w'=>jh w fm d fb B P yo F ec nc mc pp e w')
  (hp:∀q' kJ C' cl' op',pp q' kJ C' cl' op'→p q' kJ C' cl' yo op'):Calls Tryz.prog 8 args w λe w'=>jT W0 fm d fb B P K p ec nc mc e w':=by
 refine hd.mono ?_;rintro e w' ⟨he,q',kJ,C',cl',op',F',h1,h2,h3⟩;exact⟨he,q',kJ,C',cl',yo,op',F',hp _ _ _ _ _ h1,h.did h2 h3⟩
theorem MJ {x f:Nd} {s:Bytes} (h:Tr C B x [(f,s)]):cnt (C 0) B=4+need f.c.length:=by
 have:=h.num;simp only[zA,zN,qx,if_neg (show¬(1:Nat)=0 by decide),qy,qK,zay,List.sum_nil] at this;omega
theorem ajK {x:Nd} (h:Tr C B x []):cnt (C 0) B=2:=by
 have:=h.num;simpa using this
theorem bR.ans (h:bR W0 fm d fb B P p K w) (e n m a b c:Int):bR W0 fm d fb B P p ((w.heap.size,34,aI e n m)::K) (dF w e n m a b c)∧(dF w e n m a b c).heap.size=w.heap.size+2:=by
 obtain⟨q,nn,C,cl,yo,op,F,h1,h2⟩:=h;exact⟨⟨q,nn,C,cl,yo,op,F,h1,(h2.ans e n m a b c).1⟩,(h2.ans e n m a b c).2⟩
end
section
variable {W0 w w':World} {K K':O6} {fm d fb B P q nn q0:Nat} {C:Nat→Bytes} {cl yo:Bool} {op:Op} {F:Nat→Prop} {p p':oq} {gU:Int} {path:ByteArray} {data:Value} {ca cb dd:Bytes} {p1 c0:Bool}
theorem bR.O5 (h:bR W0 fm d fb B P p K w):Below W0.heap.size W0 w:=by
 obtain⟨q,nn,C,cl,yo,op,F,h1,h2⟩:=h;exact h2.O5
end
end
end Go.Proofs.YtdjdpeadohobmaaGreatDoor
