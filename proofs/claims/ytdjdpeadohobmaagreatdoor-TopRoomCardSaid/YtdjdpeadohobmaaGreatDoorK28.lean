/- A part of the walk below the law: what is proved here is used by later parts; no further condition. -/
import Derived.Lib.IndexLaws
import Derived.Test.YtdjdpeadohobmaaGreatDoorK02
import Derived.Test.YtdjdpeadohobmaaGreatDoorK07
import Derived.Test.YtdjdpeadohobmaaGreatDoorK26
import Derived.Test.YtdjdpeadohobmaaGreatDoorK27
set_option linter.unusedVariables false
set_option linter.unusedSimpArgs false
set_option maxRecDepth 100000
set_option maxHeartbeats 20000000
namespace Go.Proofs.YtdjdpeadohobmaaGreatDoor
def AY (D:List Int) (i:Nat) (p:Int):List Int:=if i<16 then D.set i p else D
def vP (R:List Int) (i:Nat) (p:Int):List Int:=if i<16 then R else R.set (i - 16) p
theorem BX (D:List Int) (i:Nat) (p:Int):(AY D i p).length=D.length:=by unfold AY;split<;>simp
theorem BZ (R:List Int) (i:Nat) (p:Int):(vP R i p).length=R.length:=by unfold vP;split<;>simp
theorem aay {D R:List Int} (hD:D.length=16) (hR:R.length=240) {i:Nat} (hi:i<256) (p:Int) (j:Nat):pg (AY D i p) (vP R i p) j=if j=i then p else pg D R j:=by
 unfold pg AY vP;by_cases h1:i<16
 ·simp only[if_pos h1]
  by_cases h2:j=i
  ·subst h2
   simp[h1,hD]
  ·have:¬(i=j):=λe=>h2 e.symm
   simp[h2,List.getD_eq_getElem?_getD,List.getElem?_set,this]
 ·simp only[if_neg h1]
  by_cases h2:j=i
  ·subst h2
   have:j - 16<R.length:=by omega
   simp[h1,List.getD_eq_getElem?_getD,this]
  ·by_cases h3:j<16
   ·simp[h2,h3]
   ·have:¬(i - 16=j - 16):=by omega
    simp[h2,h3,List.getD_eq_getElem?_getD,List.getElem?_set,this]
theorem KG (i m:Nat) (h:0<m∧m≤480):fT (480*i+m)=i+1:=by unfold fT;omega
theorem AZ (i:Nat):fT (480*i)=i:=by unfold fT;omega
theorem aaz {c:Bytes} {n:Nat} (h:c.length=n) (d:Bytes):ow c n d=c++d:=by
 subst h;unfold ow;simp
section
variable {E:nR} {Bk id:Nat} {D R:List Int} {r:Int} {c:Bytes}
theorem uz.grow (h:uz E Bk id D r R c) {i p:Nat} {d:Bytes} {r':Int} {B1 B2:Bytes} (hc:c.length=480*i) (hi:i<256) (hd:0<d.length∧d.length≤480)
  (aF:∀x,aG B1 x=true↔aG (E 0) x=true∨(i=16∧r'=(x:Int))) (jY:i=16→∃q:Nat,r'=(q:Int)∧q<Bk∧aG (E 0) q=false) (sH:i≠16→r'=r)
  (hp:p<Bk) (Cw:aG B1 p=false) (aJ:∀x,aG B2 x=true↔aG B1 x=true∨x=p) (hz:aG (E 0) 0=true):
  uz (λx=>if x=0 then B2 else if x=p then ow (zeros 480) 0 d else E x) Bk id (AY D i p) r' (vP R i p) (c++d)∧
   Grow E (λx=>if x=0 then B2 else if x=p then ow (zeros 480) 0 d else E x) (Has id D r R c.length) (Has id (AY D i p) r' (vP R i p) (c++d).length):=by
 have hpE:aG (E 0) p=false:=by
  cases hb:aG (E 0) p
  ·rfl
  ·rw[(aF p).2 (.inl hb)] at Cw
   cases Cw
 have sV:0<p:=by
  rcases Nat.eq_zero_or_pos p with rfl|h1
  ·rw[hz] at hpE
   cases hpE
  ·exact h1
 have hrp:r'≠(p:Int):=λe=>by
  by_cases jS:i=16
  ·rw[(aF p).2 (.inr ⟨jS,e⟩)] at Cw
   cases Cw
  ·rw[sH jS] at e
   by_cases hn:16<fT c.length
   ·obtain⟨q,g1,g2,g3,g4,g5⟩:=h.EP hn
    obtain rfl:q=p:=by omega
    rw[g5] at hpE;cases hpE
   ·have:=h.row0 (by omega)
    omega
 have JG:fT c.length=i:=by rw[hc];exact AZ i
 have hlen:(c++d).length=480*i+d.length:=by rw[List.length_append,hc]
 have yt:fT (c++d).length=i+1:=by rw[hlen];exact KG i _ hd
 have kM:∀x,aG (E 0) x=true→aG B2 x=true:=λx hx=>(aJ x).2 (.inl ((aF x).2 (.inl hx)));have auC:p≠id:=λe=>by rw[e,h.own.2.2] at hpE;cases hpE
 have Yo:=aay h.ld h.lr hi (p:Int);have aZ:16<i+1→∃q:Nat,r'=(q:Int)∧0<q∧q<Bk∧q≠id∧aG B2 q=true:=λh1=>by
  by_cases jS:i=16
  ·obtain⟨q,g1,g2,g3⟩:=jY jS
   refine⟨q,g1,?_,g2,λe=>?_,(aJ q).2 (.inl ((aF q).2 (.inr ⟨jS,g1⟩)))⟩
   ·rcases Nat.eq_zero_or_pos q with rfl|h1
    ·rw[hz] at g3
     cases g3
    ·exact h1
   ·rw[e,h.own.2.2] at g3
    cases g3
  ·obtain⟨q,g1,g2,g3,g4,g5⟩:=h.EP (by omega)
   exact⟨q,by rw[sH jS,g1],g2,g3,g4,kM q g5⟩
 refine⟨⟨by rw[BX];exact h.ld,by rw[BZ];exact h.lr,by rw[hlen];omega,λj hj=>?_,λj hj hj2=>?_,λj k hj hk e=>?_,?_,λh1=>?_,h.own.1,h.own.2.1,kM id h.own.2.2⟩,?_⟩
 ·rw[yt] at hj
  rw[Yo];by_cases oO:j=i
  ·subst oO
   refine⟨p,by rw[if_pos rfl],sV,hp,auC,hrp,(aJ p).2 (.inr rfl),λk hk hl=>?_⟩;have h0:¬(p=0):=by omega
   simp only[if_neg h0,↓reduceIte];rw[AX (Nat.zero_le _),if_pos (by omega),List.getElem?_append_right (by omega)];congr 1;omega
  ·rw[if_neg oO]
   obtain⟨q,g3,g4,g5,g6,g7,g8,g9⟩:=h.ptr j (by omega);have iq:¬(q=0):=by omega
   have SN:¬(q=p):=λe=>by rw[e,hpE] at g8;cases g8
   refine⟨q,g3,g4,g5,g6,λe=>?_,kM q g8,λk hk hl=>?_⟩
   ·by_cases jS:i=16
    ·obtain⟨q',f1,f2,f3⟩:=jY jS
     obtain rfl:q=q':=by omega
     rw[f3] at g8;cases g8
    ·rw[sH jS] at e
     exact g7 e
   ·simp only[if_neg iq,if_neg SN]
    rw[g9 k hk (by omega),List.getElem?_append_left (by omega)]
 ·rw[yt] at hj
  rw[Yo,if_neg (by omega)];exact h.nul j (by omega) hj2
 ·rw[yt] at hj hk
  rw[Yo,Yo] at e;have dV:∀j,j<i→pg D R j≠(p:Int):=λj hj e=>by
   obtain⟨q,g3,g4,g5,g6,g7,g8,g9⟩:=h.ptr j (by omega);obtain rfl:q=p:=by omega
   rw[hpE] at g8;cases g8
  by_cases h1:j=i
  ·by_cases h2:k=i
   ·omega
   ·rw[if_pos h1,if_neg h2] at e
    exact absurd e.symm (dV k (by omega))
  ·by_cases h2:k=i
   ·rw[if_neg h1,if_pos h2] at e
    exact absurd e (dV j (by omega))
   ·rw[if_neg h1,if_neg h2] at e
    exact h.inj j k (by omega) (by omega) e
 ·rw[yt]
  exact aZ
 ·rw[yt] at h1
  rw[sH (by omega)];exact h.row0 (by omega)
 ·have nS:∀x,Has id (AY D i p) r' (vP R i p) (c++d).length x↔Has id D r R c.length x∨x=p∨(i=16∧r'=(x:Int)):=by
   intro x;unfold Has;rw[yt,JG];constructor
   ·rintro(h1|⟨h1,h2⟩|⟨j,h1,h2⟩)
    ·exact .inl (.inl h1)
    ·by_cases jS:i=16
     ·exact .inr (.inr ⟨jS,h2⟩)
     ·exact .inl (.inr (.inl ⟨by omega,by rw[←sH jS];exact h2⟩))
    ·rw[Yo] at h2
     by_cases oO:j=i
     ·rw[if_pos oO] at h2
      exact .inr (.inl (by omega))
     ·rw[if_neg oO] at h2
      exact .inl (.inr (.inr ⟨j,by omega,h2⟩))
   ·rintro((h1|⟨h1,h2⟩|⟨j,h1,h2⟩)|h1|⟨h1,h2⟩)
    ·exact .inl h1
    ·exact .inr (.inl ⟨by omega,by rw[sH (by omega)];exact h2⟩)
    ·exact .inr (.inr ⟨j,by omega,by rw[Yo,if_neg (by omega)];exact h2⟩)
    ·exact .inr (.inr ⟨i,by omega,by rw[Yo,if_pos rfl,h1]⟩)
    ·exact .inr (.inl ⟨by omega,h2⟩)
  refine⟨λx hx=>(nS x).2 (.inl hx),λx hx=>?_,λx=>?_,λx h0 hx=>?_⟩
  ·rcases(nS x).1 hx with h1|h1|⟨h1,h2⟩
   ·exact .inl h1
   ·exact .inr (by rw[h1];exact hpE)
   ·obtain⟨q,f1,f2,f3⟩:=jY h1
    obtain rfl:q=x:=by omega
    exact .inr f3
  ·show aG B2 x=true↔_
   rw[aJ,aF,nS];constructor
   ·rintro((h1|h1)|h1)
    ·exact .inl h1
    ·exact .inr (.inr (.inr h1))
    ·exact .inr (.inr (.inl h1))
   ·rintro(h1|h1|h1|h1)
    ·exact .inl (.inl h1)
    ·exact .inl (.inl (h.bit x h1))
    ·exact .inr h1
    ·exact .inl (.inr h1)
  ·have h1:x≠p:=λe=>hx ((nS x).2 (.inr (.inl e)))
   simp[h0,h1]
theorem Jd (i m:Nat) (h:0<m∧m≤480):need (480*i+m)=need (480*i)+if i=16 then 2 else 1:=by
 unfold need;rw[KG i m h,AZ]
 split<;>split<;>split<;>omega
theorem aeu {n o m:Nat} (h:o / 480<fT n) (hm:o%480+m≤480):need (max n (o+m))=need n:=by
 unfold need;rw[aax h hm]
end
section
open Go.RowKit Go.Shelf Go.Maps O
attribute [local go_sem] Oper.semAt_some
def dU (id k l s:Int) (D:List Int) (r:Int) (R:List Int):List Int:=id::k::l::s::(D++(r::R))
theorem pE (id k l s:Int) (D:List Int) (r:Int) (R:List Int):dU id k l s D r R=id::(nd k l s D r++R):=by
 unfold dU nd;simp
section
variable {id k l s:Int} {D R:List Int} {r:Int}
theorem KH (hD:D.length=16) (hR:R.length=240):(dU id k l s D r R).length=261:=by
 unfold dU;simp[hD,hR]
theorem aev (hD:D.length=16) {i:Nat} (hi:i<16):(dU id k l s D r R)[4+i]? =some (D.getD i 0):=by
 unfold dU;rw[show 4+i=i+1+1+1+1 by omega];simp only[zi];rw[qo oQ,zu oQ,z_,zu oQ,zaf]
theorem kI (hD:D.length=16):(dU id k l s D r R)[20]? =some r:=by
 unfold dU;rw[show 20=16+1+1+1+1 by omega];simp only[zi];rw[qd oQ,hD];rfl
theorem aew (hD:D.length=16) (hR:R.length=240) {i:Nat} (hi:i<240):(dU id k l s D r R)[21+i]? =some (R.getD i 0):=by
 unfold dU;rw[show 21+i=(16+(i+1))+1+1+1+1 by omega];simp only[zi];rw[qd oQ,hD,Nat.add_sub_cancel_left,zi,zu oQ,z_,zu oQ,zaf]
theorem Q7 (hD:D.length=16) {i:Nat} (hi:i<16) (p:Int):(dU id k l s D r R).set (4+i) p=dU id k l s (D.set i p) r R:=by
 unfold dU;rw[show 4+i=i+1+1+1+1 by omega];simp only[zl];rw[List.set_append_left _ _ oQ]
theorem Q8 (hD:D.length=16) (p:Int):(dU id k l s D r R).set 20 p=dU id k l s D p R:=by
 unfold dU;rw[show 20=16+1+1+1+1 by omega];simp only[zl];rw[List.set_append_right _ _ oQ,hD];rfl
theorem Q9 (hD:D.length=16) {i:Nat} (p:Int):(dU id k l s D r R).set (21+i) p=dU id k l s D r (R.set i p):=by
 unfold dU;rw[show 21+i=(16+(i+1))+1+1+1+1 by omega];simp only[zl];rw[List.set_append_right _ _ oQ,hD,Nat.add_sub_cancel_left,zl]
end
def bE (w:World) (hb:Nat) (id k l s:Int) (D:List Int) (r:Int) (R:List Int):Prop:=IsNode w hb 141 (dU id k l s D r R)∧D.length=16∧R.length=240
section
variable {w w':World} {hb:Nat} {id k l s:Int} {D R:List Int} {r:Int}
theorem bE.aW (h:bE w hb id k l s D r R):ah w hb 141 (aS (dU id k l s D r R)):=h.1
theorem bE.page (h:bE w hb id k l s D r R) {i:Nat} (hi:i<256):w.cell? ⟨hb,if i<16 then 4+i else 21+(i - 16),none⟩=some (.int .i64 (pg D R i)):=by
 refine h.1.cell _ _ ?_;unfold pg
 split
 ·rename_i h1
  exact aev h.2.1 h1
 ·exact aew h.2.1 h.2.2 oQ
theorem bE.put (h:bE w hb id k l s D r R) {i:Nat} (hi:i<256) (p:Int):bE (w.setCell ⟨hb,if i<16 then 4+i else 21+(i - 16),none⟩ (.int .i64 p)) hb id k l s (AY D i p) r (vP R i p):=by
 refine⟨?_,by rw[BX];exact h.2.1,by rw[BZ];exact h.2.2⟩;have h1:=IsNode.aB h.1 (if i<16 then 4+i else 21+(i - 16)) p;have h2:(dU id k l s D r R).set (if i<16 then 4+i else 21+(i - 16)) p=dU id k l s (AY D i p) r (vP R i p):=by
  unfold AY vP
  split
  ·rename_i h3
   exact Q7 h.2.1 h3 p
  ·exact Q9 h.2.1 p
 rw[h2] at h1;exact h1
theorem pF (h:bE w hb id k l s D r R) {i:Nat} (hi:i<256):Calls Tryz.prog 230 #[.pointer (some ⟨hb,0,none⟩),.int .i64 i] w λe w'=>e=.returned (.int .i64 (pg D R i))∧w'=w:=by
 have hc:=h.page hi;by_cases jS:i<16
 ·rw[if_pos jS] at hc
  have h1:(i:Int)<16:=oQ
  go_enter Tryz.func230,Tryz.ntmps230;go_wp2_with fail;go_ret;exact⟨rfl,rfl⟩
 ·rw[if_neg jS] at hc
  have h1:¬((i:Int)<16):=oQ
  have h2:IntKind.i64.wrap ((i:Int) - 16)=((i - 16:Nat):Int):=by rw[zG];omega
  go_enter Tryz.func230,Tryz.ntmps230;go_wp2_with fail;go_ret;exact⟨rfl,rfl⟩
theorem yH (h:bE w hb id k l s D r R) {i:Nat} (hi:i<256) (p:Int):Calls Tryz.prog 237 #[.pointer (some ⟨hb,0,none⟩),.int .i64 i,.int .i64 p] w λe w'=>(∃x,e=.returned x)∧bE w' hb id k l s (AY D i p) r (vP R i p)∧Kept hb w w':=by
 have hp:=U (h.put hi p);have hc:=h.page hi;have hf:=h.1.free (if i<16 then 4+i else 21+(i - 16));have hl:hb<w.heap.size:=h.1.lt;by_cases jS:i<16
 ·rw[if_pos jS] at hc hf hp
  have h1:(i:Int)<16:=oQ
  clear h;go_enter Tryz.func237,Tryz.ntmps237;go_wp2_with fail;refine bodyPost_ret (results_none rfl _ _ _) rfl ?_;exact⟨⟨_,rfl⟩,hp.o,Kept.setCell _ _ _⟩
 ·rw[if_neg jS] at hc hf hp
  have h1:¬((i:Int)<16):=oQ
  have h2:IntKind.i64.wrap ((i:Int) - 16)=((i - 16:Nat):Int):=by rw[zG];omega
  clear h;go_enter Tryz.func237,Tryz.ntmps237;go_wp2_with fail;go_end0;exact⟨⟨_,rfl⟩,hp.o,Kept.setCell _ _ _⟩
theorem kV {p Bk n c:Nat} {a:Option Addr} {L:List Int} (hc:w.cell? ⟨p,1,none⟩=some (.int .i64 Bk)) (hL:L.length=n) (hn:n≤1000) (ha:dY .i64 w a L) (bA:∀x∈L,x<(Bk:Int)):
  Calls Tryz.prog 276 #[.pointer (some ⟨p,0,none⟩),.slice a n c] w λe w'=>(∃x,e=.returned x)∧w'=w:=by
 obtain⟨b,o,h1,h2⟩:=ha;have HL:=U bA;have H2:=U h2;have fB:=zq w _ hc;clear bA h2;go_enter Tryz.func276,Tryz.ntmps276;go_wp2_with fail
 go_loop [8] (λv=>∃(k:Nat),k≤n∧v=.int .i64 k) (λv=>n - (intOf v).toNat)
 case atStart=>exact⟨0,oQ,rfl⟩
 case round=>
  obtain⟨k,hk,rfl⟩:=hrel;by_cases mW:k<n
  ·have dV:L≠[]:=by rintro rfl;simp at hL;omega
   have ha:=h1 dV;subst ha;have BQ:=H2.o k oQ;have ha2:(⟨b,o,none⟩:Addr).add k=⟨b,o+k,none⟩:=by unfold Addr.add;split<;>simp_all
   have yh:¬((Bk:Int)≤L[k]' oQ):=by
    have:=HL.o _ (qm (h:=(by omega:k<L.length)));omega
   obtain⟨x,hx⟩:∃x,L[k]' oQ=x:=⟨_,rfl⟩
   rw[hx] at BQ yh;clear hx h1;go_wp2_with fail;go_round
   case rel=>exact⟨k+1,oQ,by go_num⟩
   case measure=>simp[intOf];omega
  ·obtain rfl:k=n:=oQ
   clear h1;go_wp2_with fail;go_end0;exact⟨⟨_,rfl⟩,rfl⟩
end
end
def nm (l:List UInt8):Bool:=decide (1≤l.length∧l.length≤28∧(47:UInt8)∉l∧(0:UInt8)∉l∧l≠[46]∧l≠[46,46])
theorem ER (l:List UInt8) (c:UInt8):(0≤Go.Lib.indexByte l c)↔c∈l:=by
 have h0:=Go.Lib.indexByte_ge l c;constructor
 ·intro h
  obtain⟨o,ho⟩:∃o:Nat,Go.Lib.indexByte l c=(o:Int):=⟨(Go.Lib.indexByte l c).toNat,oQ⟩
  exact zaq (Go.Lib.indexByte_some ho).1
 ·intro h
  have h2:Go.Lib.indexByte l c≠ -1:=by
   intro h3;obtain⟨k,hk,e⟩:=za7 h;exact Go.Lib.indexByte_none h3 k (by rw[zu hk,e])
  omega
def ku (l:List UInt8):Value:=.string ⟨l.toArray⟩
def scan:List UInt8→List UInt8→List (List UInt8)
 |acc,[]=>[acc]
 |acc,b::r=>if b=47 then acc::scan [] r else scan (acc++[b]) r
def ni (l:List UInt8):Option (List (List UInt8)):=
 if l=[47] then some []
 else if l=[]∨1000<l.length∨l.head?≠some 47 then none
 else if(scan [] l.tail).all nm then some (scan [] l.tail) else none
theorem yI (acc r:List UInt8):scan acc (47::r)=acc::scan [] r:=by
 rw[scan,if_pos rfl]
theorem rZ (acc r:List UInt8) {b:UInt8} (h:b≠47):scan acc (b::r)=scan (acc++[b]) r:=by
 rw[scan,if_neg h]
theorem aaA (l:List UInt8):∀acc,(scan acc l).length≤l.length+1:=by
 induction l with
 |nil=>intro acc;simp[scan]
 |cons b r ih=>
  intro acc;by_cases h:b=47
  ·subst h
   rw[yI];have:=ih [];simp;omega
  ·rw[rZ _ _ h]
   have:=ih (acc++[b]);simp;omega
theorem VZ {x:List UInt8} (hx:(47:UInt8)∉x):∀(acc r:List UInt8),scan acc (x++r)=scan (acc++x) r:=by
 induction x with
 |nil=>intro acc r;simp
 |cons b x ih=>
  intro acc r;have hb:b≠47:=by rintro rfl;simp at hx
  have CO:(47:UInt8)∉x:=λh=>hx (qC _ h);rw[zU,rZ _ _ hb,ih CO,zP,List.singleton_append]
theorem Q_ {x:List UInt8} (h:nm x=true):(47:UInt8)∉x:=by
 unfold nm at h;rw[decide_eq_true_eq] at h;exact h.2.2.1
def cut (t:List UInt8):Nat:=(t.takeWhile (λb=>b≠47)).length
theorem aiS (t:List UInt8):cut t≤t.length:=List.Sublist.length_le (List.takeWhile_sublist _)
def pieces:List UInt8→List (List UInt8)
 |[]=>[]
 |_::t=>scan [] t
theorem Ra (t:List UInt8):∀acc,scan acc t=(acc++t.take (cut t))::pieces (t.drop (cut t)):=by
 induction t with
 |nil=>intro acc;simp[scan,cut,pieces]
 |cons b r ih=>
  intro acc;by_cases h:b=47
  ·subst h
   rw[yI];simp[cut,pieces]
  ·rw[rZ _ _ h,ih]
   have hc:cut (b::r)=cut r+1:=by
    unfold cut;rw[List.takeWhile_cons_of_pos (by simp[h])];rfl
   rw[hc,List.take_succ_cons,zaI,zP,List.singleton_append]
theorem KJ (b:UInt8) (t:List UInt8):pieces (b::t)=t.take (cut t)::pieces (t.drop (cut t)):=by
 rw[pieces,Ra,zB]
theorem V9 (t:List UInt8):(if Go.Lib.indexByte t 47<0 then(t.length:Int) else Go.Lib.indexByte t 47)=cut t:=by
 have iw:∀(m:Nat) (t:List UInt8),(∀k,k<m→(h:k<t.length)→t[k]≠47)→m≤t.length→(m=t.length∨∃h:m<t.length,t[m]=47)→cut t=m:=by
  intro m
  induction m with
  |zero=>
   intro t _ _ h
   match t,h with
   |[],_=>rfl
   |b::r,.inr ⟨_,h⟩=>
    have h':b=47:=h;simp[cut,h']
  |succ m ih=>
   intro t hk hm h
   match t,hk,hm,h with
   |b::r,hk,hm,h=>
    have hb:b≠47:=hk 0 oQ sQ;have hc:cut (b::r)=cut r+1:=by
     unfold cut;rw[List.takeWhile_cons_of_pos (by simp[hb])];rfl
    rw[hc,ih r (λk h1 h2=>hk (k+1) oQ (by simp;omega)) (by simp at hm;omega) (by
     rcases h with h|⟨h1,h2⟩
     ·left;simp at h;omega
     ·right;exact⟨by simp at h1;omega,h2⟩)]
 have h0:=Go.Lib.indexByte_ge t 47;by_cases h:Go.Lib.indexByte t 47<0
 ·have hn:Go.Lib.indexByte t 47= -1:=oQ
  rw[if_pos h,iw t.length t (λk h1 h2 e=>Go.Lib.indexByte_none hn k (by rw[zu h2,e])) (zm _) (.inl rfl)]
 ·rw[if_neg h]
  obtain⟨o,ho⟩:∃o:Nat,Go.Lib.indexByte t 47=(o:Int):=⟨(Go.Lib.indexByte t 47).toNat,oQ⟩
  have hs:=Go.Lib.indexByte_some ho;obtain⟨hol,e⟩:=zL.1 hs.1;rw[ho,iw o t (λk h1 h2 e=>hs.2 k h1 (by rw[zu h2,e])) oQ (.inr ⟨hol,e⟩)]
section
open O
abbrev bI:=Nat×Bytes
def Aj (e:bI):Prop:=1≤e.1∧e.1≤3839∧1≤e.2.length∧e.2.length≤28∧(0:UInt8)∉e.2
def sOk (e:bI):Prop:=Aj e∨e=(0,[])
def gP (e:bI):Bytes:=le 2 e.1++(le 1 e.2.length++(e.2++zeros (29 - e.2.length)))
def b_ (l:List bI):Bytes:=l.flatMap gP
theorem sOk.few {e:bI} (h:sOk e):e.1≤3839∧e.2.length≤28:=by
 rcases h with h|rfl
 ·exact⟨h.2.1,h.2.2.2.1⟩
 ·exact⟨sQ,sQ⟩
theorem jH {e:bI} (h:e.2.length≤29):(gP e).length=32:=by
 unfold gP zeros;simp only[zw,aA,qc];omega
theorem Rb:gP (0,[])=zeros 32:=dQ
theorem Rf {e:bI} (h:e.2.length≤29):field (le 2 e.1++le 1 e.2.length++e.2) 32=gP e:=by
 unfold field gP zeros;have hl:(le 2 e.1++le 1 e.2.length++e.2).length=3+e.2.length:=by simp only[zw,aA]
 rw[hl,zy oQ,zP,zP];congr 4;omega
theorem fq {l:List bI} (h:∀e∈l,sOk e):(b_ l).length=32*l.length:=by
 unfold b_
 induction l with
 |nil=>rfl
 |cons e l ih=>
  rw[zaX,zw,ih (λx hx=>h x (qC _ hx)),jH (by have:=(h e (qJ ..)).few;omega),zA];omega
theorem V_ (l:List bI) (e:bI):b_ (l++[e])=b_ l++gP e:=by
 unfold b_;rw[za6];simp
theorem Je:∀n,b_ (List.replicate n (0,[]))=zeros (32*n)
 |0=>rfl
 |n+1=>by
  have ih:=Je n;unfold b_ at ih ⊢;rw[List.replicate_succ,zaX,ih,Rb];unfold zeros;rw[List.replicate_append_replicate];congr 1;omega
theorem Wd {l:List bI} (h:∀e∈l,sOk e) (hl:l.length≤15):field (b_ l) 480=b_ (l++List.replicate (15 - l.length) (0,[])):=by
 have h2:b_ (l++List.replicate (15 - l.length) (0,[]))=b_ l++zeros (32*(15 - l.length)):=by
  rw[←Je];unfold b_;rw[za6]
 rw[h2];unfold field zeros;rw[zy (by rw[fq h];omega),fq h];congr 2;omega
theorem aex {e:bI} (h:sOk e) (m:Bytes):
  (num (wO (gP e++m) (cl 2 8))=e.1∧xH (gP e++m) (cl 2 8)=le 1 e.2.length++(e.2++zeros (29 - e.2.length))++m∧∀s,CQ (gP e++m) (cl 2 8) s=s)∧
  (num (wO (le 1 e.2.length++(e.2++zeros (29 - e.2.length))++m) (cl 1 8))=e.2.length∧xH (le 1 e.2.length++(e.2++zeros (29 - e.2.length))++m) (cl 1 8)=(e.2++zeros (29 - e.2.length))++m∧∀s,CQ (le 1 e.2.length++(e.2++zeros (29 - e.2.length))++m) (cl 1 8) s=s)∧
  (wO ((e.2++zeros (29 - e.2.length))++m) 29=e.2++zeros (29 - e.2.length)∧xH ((e.2++zeros (29 - e.2.length))++m) 29=m∧∀s,CQ ((e.2++zeros (29 - e.2.length))++m) 29 s=s):=by
 have hf:=h.few;have c2:cl 2 8=2:=YS 2 8 oQ;have c1:cl 1 8=1:=YS 1 8 oQ;have hz:(zeros (29 - e.2.length)).length=29 - e.2.length:=by unfold zeros;exact qc ..
 have hL:(e.2++zeros (29 - e.2.length)).length=29:=by rw[zw,hz];omega
 have l2:(le 2 e.1).length=2:=aA 2 e.1;have l1:(le 1 e.2.length).length=1:=aA 1 _;rw[c2,c1];refine⟨⟨?_,?_,λs=>?_⟩,⟨?_,?_,λs=>?_⟩,?_,?_,λs=>?_⟩
 ·unfold wO gP
  rw[if_pos (by simp only[zw,l2];omega),zP,qB oQ,zy oQ,Au];omega
 ·unfold xH gP
  rw[if_pos (by simp only[zw,l2];omega),zP,List.drop_append_of_le_length oQ,qO oQ,zB]
 ·unfold CQ gP
  rw[if_pos (by simp only[zw,l2];omega)]
 ·unfold wO
  rw[if_pos (by simp only[zw,l1];omega),zP,qB oQ,zy oQ,Au];omega
 ·unfold xH
  rw[if_pos (by simp only[zw,l1];omega),zP,List.drop_append_of_le_length oQ,qO oQ,zB]
 ·unfold CQ
  rw[if_pos (by simp only[zw,l1];omega)]
 ·unfold wO
  rw[if_pos (by rw[zw,hL];omega),qB oQ,zy oQ]
 ·unfold xH
  rw[if_pos (by rw[zw,hL];omega),List.drop_append_of_le_length oQ,qO oQ,zB]
 ·unfold CQ
  rw[if_pos (by rw[zw,hL];omega)]
theorem Aj.idx {e:bI} (h:Aj e):Go.Lib.indexByte e.2 0<0:=by
 have:=(ER e.2 0).1;rcases Int.lt_or_le (Go.Lib.indexByte e.2 0) 0 with h1|h1
 ·exact h1
 ·exact absurd (this h1) h.2.2.2.2
structure mh (E:nR) (Bk id:Nat) (k l:Int) (c:Bytes) (D:List Int) (r:Int) (R:List Int):Prop where
 iW:uz E Bk id D r R c
 kind:k=1∨k=2
 links:0≤l∧l≤65535
 node:E id=O.enc k l c.length D r
 anA:16<fT c.length→E r.toNat=gM R
 row0:fT c.length≤16→R=aT
def saved (E:nR) (id:Nat) (k l s:Int) (D:List Int) (r:Int) (R:List Int):nR:=λi=>if r≠0∧(i:Int)=r then gM R else if i=id then O.enc k l s D r else E i
section
variable {E:nR} {Bk id:Nat} {k l:Int} {c:Bytes} {D R:List Int} {r:Int}
theorem uz.anB (h:uz E Bk id D r R c) (hB:Bk≤3840) {i:Nat} (hi:i<256):0≤pg D R i∧pg D R i≤3839∧pg D R i<Bk:=by
 have hb:=h.own.2.1;by_cases hn:i<fT c.length
 ·obtain⟨p,h1,h2,h3,_⟩:=h.ptr i hn
  omega
 ·rw[h.nul i oQ hi]
  omega
theorem uz.Aj (h:uz E Bk id D r R c) (hB:Bk≤3840):∀x∈D,0≤x∧x≤3839∧x<Bk:=by
 intro x hx;obtain⟨i,hi,rfl⟩:=za7 hx;have h1:=h.anB hB (i:=i) (by have:=h.ld;omega);unfold pg at h1;rw[if_pos (by have:=h.ld;omega),z_,zu hi,zaf] at h1;exact h1
theorem uz.rOk (h:uz E Bk id D r R c) (hB:Bk≤3840):∀x∈R,0≤x∧x≤3839∧x<Bk:=by
 intro x hx;obtain⟨i,hi,rfl⟩:=za7 hx;have h1:=h.anB hB (i:=16+i) (by have:=h.lr;omega);unfold pg at h1;rw[if_neg oQ,Nat.add_sub_cancel_left,z_,zu hi,zaf] at h1;exact h1
theorem uz.ES (h:uz E Bk id D r R c) (hB:Bk≤3840):∃q:Nat,r=(q:Int)∧q<Bk∧q≠id∧(q=0↔fT c.length≤16):=by
 by_cases hn:16<fT c.length
 ·obtain⟨q,h1,h2,h3,h4,h5⟩:=h.EP hn
  exact⟨q,h1,h3,h4,oQ⟩
 ·have:=h.row0 oQ
  exact⟨0,oQ,by have:=h.own;omega,by have:=h.own;omega,oQ⟩
theorem uz.EU (h:uz E Bk id D r R c) (hB:Bk≤3840) (hk:k=1∨k=2) (hl:0≤l∧l≤65535):O.aac k l c.length D r=true:=by
 obtain⟨q,h1,h2,h3,h4⟩:=h.ES hB;have hf:=h.few;have nI:blk (c.length:Int)=fT c.length:=aiH c.length hf
 have he:iO (blk (c.length:Int)) D=true:=yG _ _ (λi hi hb=>by
  rw[nI] at hb;have:=h.nul i hb (by have:=h.ld;omega);unfold pg at this;rw[if_pos (by have:=h.ld;omega)] at this;exact this)
 unfold O.aac
 have hp:D.all dB=true:=qU.2 (λx hx=>by
  have:=h.Aj hB x hx;unfold dB;rw[decide_eq_true_iff];omega)
 have hr:dB r=true:=by
  unfold dB;rw[decide_eq_true_iff];omega
 have aZ:(decide (16<blk (c.length:Int))||r==0)=true:=by
  rw[nI];by_cases hn:16<fT c.length
  ·simp[hn]
  ·have:q=0:=h4.2 oQ
   simp[h1,this]
 rw[he,hp,hr];have e1:(k==1||k==2)=true:=by rcases hk with rfl|rfl<;>rfl
 have e2:decide (0≤l∧l≤65535)=true:=decide_eq_true hl;have e3:decide (0≤(c.length:Int)∧(c.length:Int)≤122880)=true:=decide_eq_true ⟨oQ,oQ⟩;rw[e1,e2,e3,aZ];rfl
theorem uz.rowOk (h:uz E Bk id D r R c) (hB:Bk≤3840):R.all dB=true:=qU.2 (λx hx=>by
 have:=h.rOk hB x hx;unfold dB;rw[decide_eq_true_iff];omega)
end
end
section
open Go.RowKit Go.Shelf Go.Maps O
attribute [local go_sem] Oper.semAt_some
section
variable {v w w':World} {sp d B p b Bk n hb id:Nat} {C E:Nat→Bytes} {F F':Nat→Prop} {k l s:Int} {D R:List Int} {r:Int}
theorem bE.mv (h:bE w hb id k l s D r R) (hm:Mv d v F w F' w') (hn:¬F hb):bE w' hb id k l s D r R:=⟨hm.aW h.aW dQ hn,h.2⟩
theorem bE.lt (h:bE w hb id k l s D r R):hb<w.heap.size:=h.1.lt
theorem u_ (hV:Base v sp d B C) (h:Wk v w p b sp d Bk C E n F) (hH:bE w hb id k l s D r R) (lJ:¬F hb) (yj:id≠0) (hi4:id<3840) (rU:O.aac k l s D r=true) (hr:∃q:Nat,r=(q:Int)∧q≠id) (hR:R.all dB=true):
  Calls Tryz.prog 66 #[.pointer (some ⟨p,0,none⟩),.pointer (some ⟨hb,0,none⟩)] w λe w'=>(∃x,e=.returned x)∧∃F',Wk v w' p b sp d Bk C (saved E id k l s D r R) (n+2) F'∧Mv d v F w F' w':=by
 obtain⟨q,rfl,hq⟩:=hr;have aZ:IsNode w hb 141 (dU id k l s D q R):=hH.1;have hD:=hH.2.1;have Gq:=hH.2.2;have jO:(nd k l s D (q:Int)).length=20:=cO _ _ _ _ _ hD
 have EL:∀W,IsNode W hb 141 (dU id k l s D q R)→W.rangeAt hb 1 (aS (nd k l s D q)):=λW hW=>hW.part 1 20 _ (by
  rw[pE,zaI,za2,qB oQ,zy oQ])
 have TK:∀W,IsNode W hb 141 (dU id k l s D q R)→W.rangeAt hb 21 (aS R):=λW hW=>hW.part 21 240 _ (by
  rw[pE,zaI,←jO,List.drop_left,zy oQ])
 have fU:(Tryz.prog.info? 138).map (·.size)=some (nd k l s D (q:Int)).length:=by rw[jO];kernel_rfl
 have wo:=KF Gq;have Hr1:=U (EL w aZ);have Hr2:=U TK;have Hi1:=U fU;have Hi2:=U wo;have H:=U h;have HH:=U hH;have HV:=U hV;clear h hH hV EL TK fU wo aZ;go_enter Tryz.func66,Tryz.ntmps66;go_wp2_with (refine aX rfl 138 _ rfl hb 1 rfl _ _ Hr1.o Tryz.underlying138 rfl Hi1.o ?_);refine(NI k l s D q hD rU w).mono ?_;rintro e w1 ⟨A,c,rfl,Yn,aF⟩;have H1:=U (H.o.below aF);have jD:=U aF;have pU:=U Yn.pR;have HH1:Hid (bE w1 hb id k l s D q R):=U ⟨HH.o.1.below aF,HH.o.2⟩;have c0:=HH1.o.1.cell 0 _ rfl;clear Yn aF;go_wp2_with fail;refine(mH _).mono ?_;rintro e w' ⟨⟨x,rfl⟩,rfl⟩;have hel:(O.enc k l s D q).length=480:=by unfold O.enc;exact gG _ _
 go_wp2_with fail;refine(xg HV.o H1.o yj oQ hel pU.o).mono ?_;rintro e w2 ⟨⟨x,rfl⟩,F2,h2,bC⟩;have yJ:¬F2 hb:=bC.apart HH1.o.lt lJ;have HH2:=U (HH1.o.mv bC lJ);have H2:=U h2;have Gh:=U (Mv.after jD.o bC H.o.quiet (λk hk=>(H.o.lt k hk).2));have NP:=HH2.o.1.cell 20 _ (kI hD);clear h2 bC c0;by_cases iq:q=0
 ·subst iq
  have hz:((0:Nat):Int)=0:=rfl;rw[hz] at NP;go_wp2_with fail;refine bodyPost_ret (results_none rfl _ _ _) rfl ?_;refine⟨⟨_,rfl⟩,F2,?_,Gh.o⟩;have he:(λi=>if i=id then O.enc k l s D ((0:Nat):Int) else E i)=saved E id k l s D ((0:Nat):Int) R:=by
   funext i;unfold saved;rw[if_neg (c:=((0:Nat):Int)≠0∧_) (λh=>h.1 rfl)]
  rw[←he];exact H2.o.mono oQ
 ·have hqi:¬((q:Int)=0):=oQ
  go_wp2_with (refine aX rfl 139 _ rfl hb 21 rfl _ _ (Hr2.o _ HH2.o.1) Tryz.underlying139 rfl Hi2.o ?_);refine(Q0 R Gq hR _).mono ?_;rintro e w3 ⟨A3,c3,rfl,Wh,bf⟩;have H3:=U (H2.o.below bf);have iB:=U bf;have auF:=U Wh.pR;have HH3:Hid (bE w3 hb id k l s D q R):=U ⟨HH2.o.1.below bf,HH2.o.2⟩;have k20:=HH3.o.1.cell 20 _ (kI hD);clear Wh bf NP;go_wp2_with fail;refine(mH _).mono ?_;rintro e w' ⟨⟨x,rfl⟩,rfl⟩;go_wp2_with fail;have hrl:(gM R).length=480:=by rw[jv,Gq]
  have aCY:q<3840:=by
   have h1:=rU;unfold O.aac at h1;simp only[zad] at h1;have h2:=h1.1.1.2;unfold dB at h2;rw[decide_eq_true_iff] at h2;omega
  refine(xg HV.o H3.o iq oQ hrl auF.o).mono ?_;rintro e w4 ⟨⟨x,rfl⟩,F4,h4,dI⟩;have fu:=Gh.o.trans (Mv.after iB.o dI H2.o.quiet (λk hk=>(H2.o.lt k hk).2));have he:(λi=>if i=q then gM R else if i=id then O.enc k l s D (q:Int) else E i)=saved E id k l s D (q:Int) R:=by
   funext i;unfold saved;by_cases h1:i=q
   ·rw[if_pos h1,if_pos ⟨hqi,oQ⟩]
   ·have h2:¬((q:Int)≠0∧(i:Int)=(q:Int)):=λh=>h1 (by have:=h.2;omega)
    simp only[if_neg h1,if_neg h2]
  rw[he] at h4;go_wp2_with fail;go_end0;exact⟨⟨_,rfl⟩,F4,h4,fu⟩
end
end
end Go.Proofs.YtdjdpeadohobmaaGreatDoor
