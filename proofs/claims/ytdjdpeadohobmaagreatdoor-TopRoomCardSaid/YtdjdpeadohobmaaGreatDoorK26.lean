/- A part of the walk below the law: what is proved here is used by later parts; no further condition. -/
import Derived.Test.YtdjdpeadohobmaaGreatDoorK02
import Derived.Test.YtdjdpeadohobmaaGreatDoorK07
import Derived.Test.YtdjdpeadohobmaaGreatDoorK25
set_option linter.unusedVariables false
set_option linter.unusedSimpArgs false
set_option maxRecDepth 100000
set_option maxHeartbeats 20000000
namespace Go.Proofs.YtdjdpeadohobmaaGreatDoor
section
open Go.RowKit Go.Shelf Go.Maps O
attribute [local go_sem] Oper.semAt_some
section
variable {v w w':World} {sp d B p b Bk n:Nat} {C E:Nat→Bytes} {L:Wl} {q:Bool} {Fb F F':Nat→Prop} {bits:Value} {mk:Bool}
theorem gX.marked {g c:Nat} (h:gX v w p b sp d Bk C E L q Fb (.slice (some ⟨g,0,none⟩) 480 c) mk) {w1:World} (hk:Kept g w w1) {l:Bytes} (hl:l.length=480) (ho:Own 5 v.heap.size w1 (some ⟨g,0,none⟩) c (l.map aH)) (hd:d<v.heap.size) (j_:∃vs,ah v d 74 vs):
  gX v (w1.setCell ⟨p,3,none⟩ (.bool true)) p b sp d Bk C (λi=>if i=0 then l else E i) L q Fb (.slice (some ⟨g,0,none⟩) 480 c) true∧Mv d v (ru Fb p (.slice (some ⟨g,0,none⟩) 480 c)) w (ru Fb p (.slice (some ⟨g,0,none⟩) 480 c)) (w1.setCell ⟨p,3,none⟩ (.bool true))∧ah w1 p 132 (Ja b Bk (.slice (some ⟨g,0,none⟩) 480 c) mk):=by
 obtain⟨MN,tq⟩:g≠p∧¬Fb g:=by
  rcases h.bit with⟨h1,_⟩|⟨g',c',h1,h2,h3,h4,h5,h6⟩
  ·cases h1
  ·injection h1 with h1
   injection h1 with h1;injection h1 with h1;subst h1;exact⟨h5,h4⟩
 have L_:=h.cells.kept hk (λe=>MN e.symm);have pW:=L_.aB 3 (.bool true);have eO:=Kept.setCell (r:=p) w1 3 (.bool true);obtain⟨w2,iy⟩:∃w2,w1.setCell ⟨p,3,none⟩ (.bool true)=w2:=⟨_,rfl⟩
 rw[iy] at pW eO ⊢;have Pt:Mv d v (ru Fb p (.slice (some ⟨g,0,none⟩) 480 c)) w (ru Fb p (.slice (some ⟨g,0,none⟩) 480 c)) w:=Mv.refl j_ h.vN.quiet h.lt;have bC:=(Pt.kept hk (.inl (.inr (.inr rfl)))).kept eO (.inl (.inr (.inl rfl)));have vK:=ho.kept eO (λg' lQ=>by injection lQ with lQ;injection lQ with lQ;subst lQ;exact MN);refine⟨⟨pW,h.ge,h.np,h.vN.keep (λk gL=>?_) bC.q' bC.size,.inr ⟨g,c,rfl,vK,hl,tq,MN,λh=>(by cases h)⟩,λi hi=>?_⟩,bC,L_⟩
 ·have h3:=(h.vN.lt k gL).2
  refine(eO.block k (zx h3 hk.size) (λe=>h.np (e▸gL))).trans (hk.block k h3 (λe=>tq (e▸gL)))
 ·simp only[if_neg hi]
  exact h.same i hi
theorem gX.row {g c:Nat} (h:gX v w p b sp d Bk C E L q Fb (.slice (some ⟨g,0,none⟩) 480 c) mk):Own 5 v.heap.size w (some ⟨g,0,none⟩) c ((E 0).map aH)∧(E 0).length=480:=by
 rcases h.bit with⟨h1,_⟩|⟨g',c',h1,h2,h3,h4,h5,h6⟩
 ·cases h1
 ·injection h1 with h1 h7 h8
  injection h1 with h1;injection h1 with h1;subst h1 h8;exact⟨h2,h3⟩
theorem kr (hV:Base v sp d B C) (h:Wk v w p b sp d Bk C E n F) (nM:1≤n) {id:Nat} (hi:id<3840) (t:Bool):
  Calls Tryz.prog 65 #[.pointer (some ⟨p,0,none⟩),.int .i64 id,.bool t] w λe w'=>(∃x,e=.returned x)∧
   ∃F',Wk v w' p b sp d Bk C (λi=>if i=0 then aY (E 0) id t else E i) n F'∧Mv d v F w F' w':=by
 have H:=U h;have HV:=U hV;clear h hV;go_enter Tryz.func65,Tryz.ntmps65;go_wp2_with fail;refine(uZ HV.o H.o).mono ?_;rintro e w1 ⟨g,c,rfl,L,q,Fb,mk,h1,hn,eD⟩;have H1:=U h1;have CZ:=U eD;clear h1 eD;go_wp2_with fail;refine(EH H1.o.row.1 H1.o.row.2 hi t).mono ?_;rintro e w2 ⟨rfl,vK,eO⟩;obtain⟨h3,dP,pW⟩:=H1.o.marked eO (by rw[jc];exact H1.o.row.2) vK HV.o.yE HV.o.dev;have f3:=pW.free 3;have k3:=pW.cell 3;simp only[Ja,zf,zi] at k3;have HF:=U (And.intro h3 dP);clear vK eO h3 dP pW;go_wp2_with fail;go_end0;exact⟨⟨_,rfl⟩,_,⟨L,q,Fb,_,true,HF.o.1,⟨hn.1,λe=>oQ⟩,rfl⟩,CZ.o.trans HF.o.2⟩
theorem mJ (hV:Base v sp d B C) (h:Wk v w p b sp d Bk C E n F) (nM:1≤n) (hB:Bk≤3840) {m:Nat} (hm:m<Bk) (Pt:aG (E 0) m=false) (eD:∀k,k<m→aG (E 0) k=true):
  Calls Tryz.prog 272 #[.pointer (some ⟨p,0,none⟩)] w λe w'=>e=.returned (.int .i64 m)∧
   ∃F',Wk v w' p b sp d Bk C (λi=>if i=0 then aY (E 0) m true else E i) n F'∧Mv d v F w F' w':=by
 have c1:w.cell? ⟨p,1,none⟩=some (.int .i64 Bk):=by
  obtain⟨L,q,Fb,bits,mk,h,hn,rfl⟩:=h;exact h.cells.cell 1
 have QW:∀w' L q Fb g c mk,gX v w' p b sp d Bk C E L q Fb (.slice (some ⟨g,0,none⟩) 480 c) mk→w'.cell? ⟨p,1,none⟩=some (.int .i64 Bk):=λw' L q Fb g c mk h=>h.cells.cell 1;have Hp:=U QW;have H:=U h;have HV:=U hV;have CZ:=U eD;clear h hV QW eD;go_enter Tryz.func272,Tryz.ntmps272;go_wp2_with fail;refine wp_region_noPanic ?_;refine ak (S:=(λW=>W.cell? ⟨p,1,none⟩=some (.int .i64 Bk))) (m:=11) kQ c1 (λaj=>?_);refine te 0 aj ?_;refine te 2 aj ?_;refine te 3 aj ?_;refine te 4 aj ?_;refine te 5 aj ?_;refine rE 1 λK hK=>?_;go_simp;with_reducible refine(uZ HV.o (H.o.below (zn _ _).drew)).mono ?_
 rintro e w1 ⟨g,c,rfl,L,q,Fb,mk,h1,hn,eD⟩;have H1:=U (And.intro h1 eD);go_wp2_with fail;refine hK.out _ _ (λ_=>(Hp.o _ _ _ _ _ _ _ h1)) (λhS=>?_);have bQ:=hS dQ;clear hS hK K
 try simp only[Act.put,zh,zk,zl]
 refine rE 6 λK hK=>?_;go_simp;with_reducible refine(VP H1.o.1.row.1 H1.o.1.row.2 hB hm Pt CZ.o).mono ?_
 rintro e w2 ⟨rfl,vK,eO⟩;have H2:=U (H1.o.1.marked eO (by rw[jc];exact H1.o.1.row.2) vK HV.o.yE HV.o.dev);have H3:=U H2.o.2.2;go_wp2_with fail;refine hK.out _ _ (λ_=>(H3.o.cell 1)) (λhS=>?_);have bV:=hS dQ;clear hS hK K
 try simp only[Act.put,zh,zk,zl]
 refine te 7 bV ?_;refine te 8 bV ?_;refine te 9 bV ?_;refine te 10 bV ?_;refine vF 11 ?_;refine aD ?_;have f3:=H3.o.free 3;have k3:=H3.o.cell 3;simp only[Ja,zf,zi] at k3;go_wp2_with fail;go_ret;refine⟨rfl,_,⟨L,q,Fb,_,true,H2.o.1,⟨hn.1,λe=>oQ⟩,rfl⟩,?_⟩;exact(Mv.after (zn _ _).drew H1.o.2 H.o.quiet (λk hk=>(H.o.lt k hk).2)).trans H2.o.2.1
end
end
namespace O
def blk (s:Int):Nat:=(cl s 122880+479) / 480
theorem aiG (s:Int):blk s≤256:=by have:=Ip s 122880;unfold blk;omega
def dB (p:Int):Bool:=decide (0≤p∧p<3840)
def nd (k l s:Int) (D:List Int) (r:Int):List Int:=k::l::s::(D++[r])
def iO (b:Nat) (D:List Int):Bool:=(D.drop b).all (λp=>p==0)
theorem yG (b:Nat) (D:List Int) (h:∀i,i<D.length→b≤i→D.getD i 0=0):iO b D=true:=by
 unfold iO;rw[List.all_eq_true];intro x hx;obtain⟨i,hi,rfl⟩:=List.getElem_of_mem hx;rw[List.length_drop] at hi;have:=h (b+i) (by omega) (by omega);rw[List.getElem_drop];have bA:b+i<D.length:=by omega
 simpa[bA] using this
theorem GJ (b:Nat) (D:List Int) (i:Nat) (hi:i<D.length) (hb:b≤i) (h:D.getD i 0≠0):iO b D=false:=by
 rw[←Bool.not_eq_true];unfold iO;rw[List.all_eq_true];intro h2;have h3:=h2 (D[i]) (by rw[List.mem_iff_getElem];exact⟨i - b,by rw[List.length_drop];omega,by rw[List.getElem_drop];congr 1;omega⟩);apply h;simpa[hi] using h3
def aac (k l s:Int) (D:List Int) (r:Int):Bool:=
 (k==1||k==2)&&decide (0≤l∧l≤65535)&&decide (0≤s∧s≤122880)&&D.all dB&&dB r&&(decide (16<blk s)||r==0)&&iO (blk s) D
theorem cO (k l s:Int) (D:List Int) (r:Int) (h:D.length=16):(nd k l s D r).length=20:=by simp[nd,h]
theorem nd0 (k l s:Int) (D:List Int) (r:Int):(nd k l s D r)[0]? =some k:=rfl
theorem nd1 (k l s:Int) (D:List Int) (r:Int):(nd k l s D r)[1]? =some l:=rfl
theorem nd2 (k l s:Int) (D:List Int) (r:Int):(nd k l s D r)[2]? =some s:=rfl
theorem aao (k l s:Int) (D:List Int) (r:Int) (h:D.length=16):(nd k l s D r)[19]? =some r:=by
 simp only[nd,List.getElem?_cons_succ];rw[List.getElem?_append_right (by omega),h];rfl
theorem EI (k l s:Int) (D:List Int) (r:Int) (h:D.length=16):D=((nd k l s D r).drop 3).take 16:=by
 simp only[nd,List.drop_succ_cons,List.drop_zero];rw[←h,List.take_left]
def gM:List Int→List UInt8
 |[]=>[]
 |p::D=>le 2 p.toNat++gM D
theorem jv (D:List Int):(gM D).length=2*D.length:=by
 induction D with
 |nil=>rfl
 |cons p D ih=>simp only[gM,List.length_append,aA,ih,List.length_cons];omega
theorem NG (D E:List Int):gM (D++E)=gM D++gM E:=by
 induction D with
 |nil=>rfl
 |cons p D ih=>simp only[List.cons_append,gM,ih,List.append_assoc]
def told (k l s:Int) (D:List Int) (r:Int):List UInt8:=le 1 k.toNat++le 2 l.toNat++le 4 s.toNat++gM D++gM [r]
def enc (k l s:Int) (D:List Int) (r:Int):List UInt8:=field (told k l s D r) 480
theorem uy (k l s:Int) (D:List Int) (r:Int) (h:D.length=16):(told k l s D r).length=41:=by
 simp[told,aA,jv,h]
def gN (l:List UInt8):Nat→List Int
 |0=>[]
 |n+1=>((num (l.take 2):Nat):Int)::gN (l.drop 2) n
theorem eY (l:List UInt8) (n:Nat):(gN l n).length=n:=by
 induction n generalizing l with
 |zero=>rfl
 |succ n ih=>simp[gN,ih]
theorem QX (l:List UInt8) (n:Nat):gN l (n+1)=gN l n++[((num ((l.drop (2*n)).take 2):Nat):Int)]:=by
 induction n generalizing l with
 |zero=>rfl
 |succ n ih=>
  rw[gN,ih (l.drop 2)]
  conv=>rhs;rw[gN]
  rw[List.drop_drop,List.cons_append,show 2+2*n=2*(n+1) by omega]
def over (N:List Int) (off:Nat) (vs:List Int):List Int:=N.take off++vs++N.drop (off+vs.length)
theorem NH (N:List Int) (off:Nat) (vs:List Int) (h:off+vs.length≤N.length):(over N off vs).length=N.length:=by
 simp only[over,List.length_append,List.length_take,List.length_drop];omega
theorem aap (N:List Int) (off:Nat):over N off []=N:=by simp[over]
theorem VQ (N:List Int) (off:Nat) (vs:List Int) (x:Int) (h:off+vs.length<N.length):(over N off vs).set (off+vs.length) x=over N off (vs++[x]):=by
 unfold over;have h1:(N.take off++vs).length=off+vs.length:=by simp;omega
 rw[List.set_append_right _ _ (by omega),h1,Nat.sub_self,List.drop_eq_getElem_cons h,List.set_cons_zero];simp[Nat.add_assoc]
theorem aej (l:List UInt8):num (l.take 2)<65536:=by
 have h:=JU (l.take 2);have h2:(l.take 2).length≤2:=by simp;omega
 have h3:256^(l.take 2).length≤256^2:=Nat.pow_le_pow_right (by omega) h2;have:256^2=65536:=by decide
 omega
def aQ:List Int:=nd 0 0 0 (List.replicate 16 0) 0
def sN (l:List UInt8):Bool:=l.any (λc=>c !=0)
def dK (l:List UInt8):Int:=((num (l.take 1):Nat):Int)
def dL (l:List UInt8):Int:=((num ((l.drop 1).take 2):Nat):Int)
def dS (l:List UInt8):Int:=((num ((l.drop 3).take 4):Nat):Int)
def dD (l:List UInt8):List Int:=gN (l.drop 7) 16
def dR (l:List UInt8):Int:=((num ((l.drop 39).take 2):Nat):Int)
def Jb (l:List UInt8):Bool:=decide (l.length=480)&&aac (dK l) (dL l) (dS l) (dD l) (dR l)&& !sN (l.drop 41)
def KA (l:List UInt8):List Int:=if Jb l then nd (dK l) (dL l) (dS l) (dD l) (dR l) else aQ
def KC (l:List UInt8):Int:=if Jb l then 0 else 4
theorem pz (l:List UInt8):(dD l).length=16:=eY _ _
theorem aek (k l s:Int) (Z D:List Int) (r:Int) (hZ:Z.length=16) (hD:D.length=16):over (nd k l s Z r) 3 D=nd k l s D r:=by
 unfold over nd;rw[hD,List.drop_succ_cons,List.drop_succ_cons,List.drop_succ_cons,List.take_succ_cons,List.take_succ_cons,List.take_succ_cons,List.take_zero];have h2:(Z++[r]).drop (3+13)=[r]:=by
  rw[show 3+13=Z.length from hZ.symm,List.drop_left]
 rw[h2];rfl
theorem aaq (k l s:Int) (D:List Int) (r x:Int) (hD:D.length=16):(nd k l s D r).set 19 x=nd k l s D x:=by
 unfold nd;simp only[List.set_cons_succ];rw[List.set_append_right _ _ (by omega),hD];rfl
theorem aiH (s:Nat) (h:s≤122880):blk (s:Int)=(s+479) / 480:=by
 unfold blk;rw[YS s 122880 h]
end O
section
open Go.RowKit O
theorem ael (P:Program) (z:Int) (m:Nat) (mI:Int) (hm:mI=(m:Int)):∃M:Int,(∀(ts:Array TypeId) (t:TypeId) (W:World),(Builtin.max_ ts t #[.int .i64 z,.int .i64 0]).run P W=.ok (.int .i64 M) W)∧(∀(ts:Array TypeId) (t:TypeId) (W:World),(Builtin.min_ ts t #[.int .i64 M,.int .i64 mI]).run P W=.ok (.int .i64 ((cl z m:Nat):Int)) W):=by
 subst hm;refine⟨max z 0,λts t W=>?_,λts t W=>?_⟩
 ·simp[Builtin.max_,Builtin.max2]
  omega
 ·simp[Builtin.min_,Builtin.min2]
  unfold cl;omega
theorem EJ (s:Int) (w:World):
  Calls Tryz.prog 236 #[.int .i64 s] w λe w'=>e=.returned (.int .i64 ((blk s:Nat):Int))∧w=w':=by
 obtain⟨M,FY,Il⟩:=ael Tryz.prog s 122880 122880 rfl;have hb:=U (show blk s=(cl s 122880+479) / 480 from rfl);have hk:=Ip s 122880;generalize cl s 122880=k at*;go_enter Tryz.func236,Tryz.ntmps236;go_wp2;go_ret;refine⟨DJ ?_,rfl⟩;rw[hb.o];omega
theorem l8 (D:List Int) (n:Nat) (hn:D.length=n) (Ai:n≤140737488000000) (w:World) (a:Option Addr) (c:Nat) (hD:dY .i64 w a D):
  Calls Tryz.prog 218 #[.slice a n c] w λe w'=>e=.returned (.bool (D.all dB))∧w=w':=by
 subst hn;go_enter Tryz.func218,Tryz.ntmps218;go_wp2
 go_loop [7] (λi=>∃(k:Nat),k≤D.length∧i=.int .i64 k∧(D.take k).all dB=true) (λi=>D.length - (intOf i).toNat)
 case atStart=>exact⟨0,ql _,rfl,rfl⟩
 case round=>
  obtain⟨k,hk,rfl,iw⟩:=hrel;have Kg:=U iw;clear iw;by_cases mW:k<D.length
  ·obtain⟨b,off,ha,hcell⟩:=hD
   obtain rfl:=ha (by rintro rfl;simp at mW);have hc:=hcell k mW;have hs:=U (show(D.take (k+1)).all dB=dB D[k] by rw[zZ mW,List.all_append,Kg.o];simp)
   have hf:=U (λh:dB D[k]=false=>(show D.all dB=false by
    rw[←Bool.not_eq_true,qU];intro h2;have:=h2 _ (qm mW);rw[h] at this;cases this))
   clear hcell ha;generalize D[k]=p at*;by_cases h0:p<0
   ·go_wp2
    go_ret;exact⟨dM (hf.o (by unfold dB;simp;omega)).symm,rfl⟩
   ·by_cases h1:3840≤p
    ·go_wp2
     go_ret;exact⟨dM (hf.o (by unfold dB;simp;omega)).symm,rfl⟩
    ·go_wp2
     go_round
     case rel=>exact⟨k+1,oQ,by go_num,by rw[hs.o];unfold dB;simp;omega⟩
     case measure=>simp[intOf];omega
  ·obtain rfl:k=D.length:=oQ
   go_wp2;go_ret;exact⟨dM (by rw[zae] at Kg;exact Kg.o.symm),rfl⟩
theorem aiI:(Tryz.prog.info? 136).map (·.size)=some 16:=kQ
theorem info3':(Tryz.prog.info? 3).map (λi=>(i.zero,i.size,i.bytes))=some (some (.int .i64 0),1,8):=kQ
theorem info3:∃i,Tryz.prog.info? 3=some i∧i.size=1:=by
 obtain⟨i,hi,_,hs,_⟩:=info_parts info3';exact⟨i,hi,hs⟩
theorem EK (k l s:Int) (D:List Int) (r:Int) (hD:D.length=16) (w:World):
  Calls Tryz.prog 215 #[.agg (aL (nd k l s D r))] w λe w'=>e=.returned (.bool (aac k l s D r))∧Below w.heap.size w w':=by
 have g0:=oM _ _ _ (nd0 k l s D r);have g1:=oM _ _ _ (nd1 k l s D r);have g2:=oM _ _ _ (nd2 k l s D r);have g19:=oM _ _ _ (aao k l s D r hD);have HN:=U (λ(w:World)=>IsNode.new w 138 (nd k l s D r));obtain⟨C,hC⟩:∃C,C=aL (nd k l s D r):=⟨_,rfl⟩
 rw[←hC] at g0 g1 g2 g19 ⊢;have HC:=U hC;clear hC;have anr:(k≠1∧k≠2)∨((k=1∨k=2)∧(l<0∨(0≤l∧65535<l)∨(0≤l∧l≤65535∧s<0)∨(0≤l∧l≤65535∧0≤s∧122880<s)))∨((k=1∨k=2)∧0≤l∧l≤65535∧0≤s∧s≤122880):=oQ
 rcases anr with⟨h1,h2⟩|⟨h1,h2⟩|⟨h1,AP,hl1,wS,Ad⟩
 ·have e1:(k !=1)=true:=by simpa using h1
  have e2:(k !=2)=true:=by simpa using h2
  go_enter Tryz.func215,Tryz.ntmps215;go_wp2;go_ret;exact⟨dM (by unfold aac;simp[h1,h2]),(zn _ _).alloc (zm _) _⟩
 ·rcases h1 with rfl|rfl<;>rcases h2 with h2|h2|h2|h2
  all_goals
   go_enter Tryz.func215,Tryz.ntmps215;go_wp2;go_ret;exact⟨dM (by unfold aac;simp;omega),(zn _ _).alloc (zm _) _⟩
 ·have hkk:(k==1||k==2)=true:=by simpa using h1
  have AL:=U ((HN.o w).nums 3 16 D (EI k l s D r hD))
  have hR:=U (show aac k l s D r=(D.all dB&&dB r&&(decide (16<blk s)||r==0)&&iO (blk s) D) by
   unfold aac;rw[hkk,decide_eq_true (show 0≤l∧l≤65535 from⟨AP,hl1⟩),decide_eq_true (show 0≤s∧s≤122880 from⟨wS,Ad⟩)];simp)
  have HN2:=U (HN.o w);rw[←HC.o] at AL HN2;clear hkk HN;rcases h1 with rfl|rfl
  all_goals
   go_enter Tryz.func215,Tryz.ntmps215;go_wp2_with fail;refine(l8 D 16 hD oQ _ _ _ AL.o).mono ?_;rintro e w1 ⟨rfl,rfl⟩;rcases sV:D.all dB with _|_
   ·go_wp2
    go_ret;exact⟨dM (by rw[hR.o,sV];rfl),(zn _ _).alloc (zm _) _⟩
   ·go_wp2_with fail
    refine(l8 [r] 1 rfl oQ _ _ _ (by exact dY.alloc_at sQ _ rfl)).mono ?_;rintro e w1 ⟨rfl,aP⟩;have aF:=U (show Below w.heap.size w w1 by rw[←aP];exact Dk _ _ _);have nM:=U (show IsNode w1 w.heap.size 138 (nd _ l s D r) by rw[←aP];exact HN2.o.below (iE _ _));have jr:=nM.o.cell 0 _ (nd0 _ l s D r);have wQ:=nM.o.cell 2 _ (nd2 _ l s D r);have aCO:=nM.o.cell 19 _ (aao _ l s D r hD);have hpr:[r].all dB=dB r:=sQ
    rw[hpr];clear aP hpr g0 g1 g2 g19;rcases nK:dB r with _|_
    ·go_wp2
     go_ret;exact⟨dM (by rw[hR.o,sV,nK];rfl),aF.o⟩
    ·go_wp2_with fail
     refine(EJ s w1).mono ?_;rintro e w2 ⟨rfl,rfl⟩;have hbs:=aiG s;generalize blk s=b at*;have EL:=nM.o.part 3 16 D (EI _ l s D r hD);have fU:(Tryz.prog.info? 136).map (·.size)=some D.length:=by rw[hD];exact aiI
     have aiJ:=U EL;have aar:=U fU;clear EL fU;by_cases hbr:b≤16∧r≠0
     ·obtain⟨aCP,vU⟩:=hbr
      have e1:(r !=0)=true:=by simpa using vU
      go_wp2;go_ret;exact⟨dM (by rw[hR.o,sV,nK];simp;omega),aF.o⟩
     ·have vS:(16<b)∨(b≤16∧r=0):=oQ
      have Gq:=U (show aac _ l s D r=iO b D by
       rw[hR.o,sV,nK];have:(decide (16<b)||r==0)=true:=by simpa using(by omega:16<b∨r=0)
       rw[this];simp)
      clear hbr jr hR;rcases vS with vS|⟨vS,vU⟩
      all_goals
       try have e1:(r !=0)=false:=by simp[vU]
       try clear vU
       go_wp2_with (refine aX rfl 136 _ rfl w.heap.size 3 rfl D _ aiJ.o Tryz.underlying136 rfl aar.o ?_)
       go_loop [50] (λi=>∃(j:Nat),j≤16∧i=.int .i64 j∧∀i,i<j→b≤i→D.getD i 0=0) (λi=>16 - (intOf i).toNat)
       case atStart=>exact⟨0,ql _,rfl,λi hi=>oQ⟩
       case round=>
        obtain⟨j,hj,rfl,hz⟩:=hrel;have Hz:=U hz;clear hz;by_cases auw:j<16
        ·have hx:D[j]? =some (D.getD j 0):=by
          have:j<D.length:=oQ
          simp[this]
         have U4:=λ(W:World)=>Pz Tryz.underlying136 Tryz.underlying3 (by exact info3.choose_spec.1) info3.choose_spec.2 D j auw _ hx W;have dV:=U (GJ b D j oQ);obtain⟨p,hp⟩:∃p,p=D.getD j 0:=⟨_,rfl⟩
         rw[←hp] at U4 dV;have Hp:=U hp;clear hp;clear hx;by_cases hbj:b≤j
         ·first
          |(exfalso;omega)
          |(
            by_cases Cw:p=0
            ·have e2:(p !=0)=false:=by simp[Cw]
             have Hp0:=U Cw;clear Cw;go_wp2;go_round
             case rel=>
              refine⟨j+1,oQ,by go_num,λi hi hbi=>?_⟩;rcases zaL i j with h|h
              ·exact Hz.o i h hbi
              ·obtain rfl:i=j:=oQ
               rw[←Hp.o,Hp0.o]
             case measure=>simp[intOf];omega
            ·have e2:(p !=0)=true:=by simpa using Cw
             have nO:=U (dV.o hbj Cw);clear Cw;go_wp2;go_ret;exact⟨dM (by rw[Gq.o];exact nO.o.symm),aF.o⟩)
         ·go_wp2
          go_round
          case rel=>
           refine⟨j+1,oQ,by go_num,λi hi hbi=>?_⟩;exact Hz.o i oQ hbi
          case measure=>simp[intOf];omega
        ·have nO:=U (yG b D (λi hi hbi=>Hz.o i oQ hbi))
         go_wp2;go_ret;exact⟨dM (by rw[Gq.o];exact nO.o.symm),aF.o⟩
theorem VR (D:List Int) (j:Nat) (h:j<D.length):gM (D.take (j+1))=gM (D.take j)++le 2 D[j].toNat:=by
 rw[zZ h,NG];simp[gM]
theorem EM (l:List UInt8) (n:Nat) (nL:l.length=n) (D:List Int) (m:Nat) (hm:D.length=m) (bC:m≤70000) (hn:n≤70000) (hD:∀p∈D,0≤p∧p≤65535) (w:World) (a:Option Addr) (c:Nat) (hb:ay w a l) (a2:Option Addr) (c2:Nat) (dh:dY .i64 w a2 D):
  Calls Tryz.prog 216 #[.slice a n c,.slice a2 m c2] w λe w'=>∃A c',e=.returned (.slice A (n+2*m) c')∧ay w' A (l++gM D)∧(0<m→Own 5 w.heap.size w' A c' ((l++gM D).map aH))∧Below w.heap.size w w':=by
 subst hm;have HD:=U hD;have Hb2:=U dh;have Hb:=U hb;clear hD dh hb;go_enter Tryz.func216,Tryz.ntmps216;go_wp2;go_loopw [0,9] (λv i wr=>∃(j:Nat) (A:Option Addr) (cc:Nat),j≤D.length∧i=.int .i64 j∧v=.slice A (n+2*j) cc∧ay wr A (l++gM (D.take j))∧(0<j→Own 5 w.heap.size wr A cc ((l++gM (D.take j)).map aH))∧Below w.heap.size w wr) (λ_ i _=>D.length - (intOf i).toNat)
 case atStart=>exact⟨0,a,c,oQ,rfl,rfl,by simpa[gM] using Hb.o,λh=>oQ,zn _ _⟩
 case round=>
  obtain⟨j,A,cc,hj,rfl,rfl,hA,hown,Mg⟩:=hrel;have HA:=U hA;have VT:=U hown;have HB:=U Mg;clear hA hown Mg;by_cases hjm:j<D.length
  ·obtain⟨b1,o1,e1,g1⟩:=Hb2.o.below HB.o
   obtain rfl:=e1 (by rintro rfl;simp at hjm);have g1':=g1 j hjm;obtain⟨Cw,sV⟩:=HD.o _ (qm hjm);have hs:=U (VR D j hjm);have hlen:=U (show(l++gM (D.take j)).length=n+2*j by rw[zw,jv,nL,zF,qP hj]);obtain⟨x,hx⟩:∃x:Nat,D[j]=(x:Int):=⟨D[j].toNat,oQ⟩
   rw[hx] at g1' Cw sV hs;rw[qX] at hs;clear e1 g1 hx;go_wp2_with fail;refine(lX hlen.o oQ HA.o 2 x oQ (l++gM (D.take (j+1))) (n+2*(j+1)) (by rw[hs.o,zP];rfl) (by rw[hs.o,←zP,zw,hlen.o,aA];omega)).mono ?_;rintro e w3 ⟨A1,c1,rfl, -,hown,hB⟩;have iB:=U (HB.o.trans (hB.mono HB.o.size));have HO:=U (hown.mono HB.o.size);clear hown hB;go_wp2;go_roundw
   case rel=>exact⟨j+1,A1,c1,oQ,by go_num,rfl,HO.o.row.bytes,λ_=>HO.o,iB.o⟩
   case measure=>simp[intOf];omega
  ·obtain rfl:j=D.length:=oQ
   rw[zae] at HA VT;go_wp2;go_ret;exact⟨A,cc,rfl,HA.o,VT.o,HB.o⟩
theorem aas {k l s r:Int} {D:List Int} (h:aac k l s D r=true):(k=1∨k=2)∧(0≤l∧l≤65535)∧(0≤s∧s≤122880)∧(∀p∈D,0≤p∧p≤3839)∧(0≤r∧r≤3839)∧(16<blk s∨r=0)∧iO (blk s) D=true:=by
 unfold aac at h;simp only[zad,Bool.or_eq_true,beq_iff_eq,decide_eq_true_eq,qU] at h;obtain⟨⟨⟨⟨⟨⟨h1,h2⟩,h3⟩,h4⟩,h5⟩,h6⟩,h7⟩:=h;refine⟨h1,h2,h3,λp hp=>?_,?_,h6,h7⟩
 ·have:=h4 p hp
  simp[dB] at this;omega
 ·simp[dB] at h5
  omega
theorem NI (k l s:Int) (D:List Int) (r:Int) (hD:D.length=16) (hr:aac k l s D r=true) (w:World):
  Calls Tryz.prog 135 #[.agg (aL (nd k l s D r))] w λe w'=>∃A c,e=.returned (.tuple #[.slice A 480 c,.int .i64 0])∧Own 5 w.heap.size w' A c ((enc k l s D r).map aH)∧Below w.heap.size w w':=by
 have fU:=U (show(Tryz.prog.info? 138).map (·.size)=some (nd k l s D r).length by rw[cO _ _ _ _ _ hD];kernel_rfl);have HN:=U (IsNode.new w 138 (nd k l s D r));obtain⟨hk,hl,hs,hDb,hrb, -, -⟩:=aas hr;obtain⟨k',rfl⟩:∃k':Nat,k=(k':Int):=⟨k.toNat,oQ⟩
 obtain⟨l',rfl⟩:∃l':Nat,l=(l':Int):=⟨l.toNat,oQ⟩
 obtain⟨s',rfl⟩:∃s':Nat,s=(s':Int):=⟨s.toNat,oQ⟩
 have hk0:(0:Int)≤(k':Int)∧(k':Int)≤2:=oQ
 have HDb:=U hDb;have Hr:=U hr;have eX:=U hD;clear hk hDb hr hD;go_enter Tryz.func135,Tryz.ntmps135;go_wp2_with (refine aX rfl 138 _ rfl w.heap.size 0 rfl (nd k' l' s' D r) _ HN.o.range Tryz.underlying138 rfl fU.o ?_);refine(EK k' l' s' D r eX.o _).mono ?_;rintro e w1 ⟨rfl,hB⟩;rw[Hr.o];have hn:=U (HN.o.below hB);have HB:=U ((iE w _).trans (hB.mono sQ));have g0:=hn.o.cell 0 _ (nd0 _ _ _ _ _);clear hB HN fU;go_wp2_with fail;refine(lX (l:=[]) (n:=0) rfl oQ (ay.nil _ _) 1 k' oQ (le 1 k') 1 rfl (aA _ _)).mono ?_;rintro e w2 ⟨A1,c1,rfl, -,hown,hB⟩;replace hn:=U (hn.o.below hB);replace HB:=U (HB.o.trans (hB.mono HB.o.size));have hb:=U hown.row.bytes;clear hB hown g0;have g1:=hn.o.cell 1 _ (nd1 _ _ _ _ _);go_wp2_with fail;refine(lX (l:=le 1 k') (n:=1) (aA _ _) oQ hb.o 2 l' oQ (le 1 k'++le 2 l') 3 rfl (by simp[aA])).mono ?_;rintro e w3 ⟨A2,c2,rfl, -,hown,hB⟩;replace hn:=U (hn.o.below hB);replace HB:=U (HB.o.trans (hB.mono HB.o.size));replace hb:=U hown.row.bytes;clear hB hown g1;have g2:=hn.o.cell 2 _ (nd2 _ _ _ _ _);go_wp2_with fail;refine(lX (l:=le 1 k'++le 2 l') (n:=3) (by simp[aA]) oQ hb.o 4 s' oQ (le 1 k'++le 2 l'++le 4 s') 7 rfl (by simp[aA])).mono ?_;rintro e w4 ⟨A3,c3,rfl, -,hown,hB⟩;replace hn:=U (hn.o.below hB);replace HB:=U (HB.o.trans (hB.mono HB.o.size));replace hb:=U hown.row.bytes;clear hB hown g2;have UR:=U (hn.o.nums 3 16 D (EI _ _ _ _ _ eX.o));go_wp2_with fail;refine(EM (le 1 k'++le 2 l'++le 4 s') 7 (by simp[aA]) D 16 eX.o oQ oQ (λp hp=>by have:=HDb.o p hp;omega) _ _ _ hb.o _ _ UR.o).mono ?_;rintro e w5 ⟨A4,c4,rfl,hbs, -,hB⟩;replace hn:=U (hn.o.below hB);replace HB:=U (HB.o.trans (hB.mono HB.o.size));replace hb:=U hbs;clear hB hbs UR;have g19:=hn.o.cell 19 _ (aao _ _ _ _ _ eX.o);go_wp2_with fail;refine(EM _ 39 (by simp[aA,jv,eX.o]) [r] 1 rfl oQ oQ (λp hp=>by simp at hp;omega) _ _ _ (hb.o.below (iE _ _)) _ _ (by exact dY.alloc_at sQ _ rfl)).mono ?_;rintro e w6 ⟨A5,c5,rfl,hbs, -,hB⟩;replace HB:=U (HB.o.trans (((iE _ _).trans (hB.mono sQ)).mono HB.o.size));replace hb:=U hbs;clear hB hbs g19 hn;have Tq:=U (uy k' l' s' D r eX.o);go_wp2_with fail;refine(uM Tq.o (by unfold told;simpa using hb.o) 480 (enc k' l' s' D r) 480 rfl (gG _ _)).mono ?_;rintro e w7 ⟨A6,c6,rfl, -,hown,hB⟩;have HO:=U (hown.mono HB.o.size);replace HB:=U (HB.o.trans (hB.mono HB.o.size));clear hown hB;go_wp2;go_ret2;exact⟨A6,c6,rfl,HO.o,HB.o⟩
theorem QY (l:List UInt8) (n:Nat) (nL:l.length=n) (hn:n≤140737488000000) (w:World) (a:Option Addr) (c:Nat) (hb:ay w a l):
  Calls Tryz.prog 363 #[.slice a n c,.func (.func 329) #[] #[]] w λe w'=>∃q:Int,e=.returned (.int .i64 q)∧decide (0≤q)=sN l∧w=w':=by
 subst nL;go_enter Tryz.func363,Tryz.ntmps363;go_wp2
 go_loop [8] (λi=>∃(k:Nat),k≤l.length∧i=.int .i64 k∧sN (l.take k)=false) (λi=>l.length - (intOf i).toNat)
 case atStart=>exact⟨0,ql _,rfl,rfl⟩
 case round=>
  obtain⟨k,hk,rfl,hz⟩:=hrel;have Hz:=U hz;clear hz;by_cases mW:k<l.length
  ·obtain⟨b,off,ha,hcell⟩:=hb
   obtain rfl:=ha (by rintro rfl;simp at mW);have hc:=hcell k mW;have hs:=U (show sN (l.take (k+1))=(l[k] !=0) by unfold sN at*;rw[zZ mW,List.any_append,Hz.o];simp)
   have hf:=U (λh:(l[k] !=0)=true=>(show sN l=true by
    unfold sN;rw[List.any_eq_true];exact⟨_,qm mW,h⟩))
   clear hcell ha;generalize l[k]=C at*;have e0:(n8 C !=0)=(C !=0):=by
    have:(0:Int)=n8 0:=rfl;rw[this,bne,ag9,bne]
   rcases h0:(C !=0) with _|_
   ·rw[h0] at e0 hs
    clear h0;go_wp2;go_round
    case rel=>exact⟨k+1,oQ,by go_num,hs.o⟩
    case measure=>simp[intOf];omega
   ·rw[h0] at e0
    have hf2:=U (hf.o h0);clear h0 hf;go_wp2;go_ret;exact⟨_,rfl,by rw[hf2.o];simp,rfl⟩
  ·obtain rfl:k=l.length:=oQ
   rw[zae] at Hz;go_wp2;go_ret;exact⟨_,rfl,by rw[Hz.o];rfl,rfl⟩
theorem GK (l:List UInt8) (n:Nat) (nL:l.length=n) (hn:n≤140737488000000) (w:World) (a:Option Addr) (c:Nat) (hb:ay w a l):
  Calls Tryz.prog 328 #[.slice a n c,.func (.func 329) #[] #[]] w λe w'=>e=.returned (.bool (sN l))∧w=w':=by
 go_enter Tryz.func328,Tryz.ntmps328;go_wp2_with fail;refine(QY l n nL hn w a c hb).mono ?_;rintro e w1 ⟨q,rfl,hq,rfl⟩;have Hq:=U hq;clear hq;go_wp2;go_ret;exact⟨dM Hq.o,rfl⟩
theorem AV (l:List UInt8) (s:Bool) (r g off n:Nat) (T:TypeId) (N:List Int) (hl:2*n≤l.length) (vO:off+n≤N.length) (hn:n≤65536) (rH:g≠r) (c:Nat) (hc:n≤c) (w:World) (hr:aU w r l s) (hg:IsNode w g T N):
  Calls Tryz.prog 326 #[.pointer (some ⟨r,0,none⟩),.slice (some ⟨g,off,none⟩) n c] w λe w'=>e=.returned (.tuple #[])∧aU w' r (l.drop (2*n)) s∧IsNode w' g T (over N off (gN l n))∧w.heap.size≤w'.heap.size∧(∀k,k<w.heap.size→k≠r→k≠g→w'.heap[k]? =w.heap[k]?)∧(∀B,B≤r→B≤g→B≤w.heap.size→Below B w w'):=by
 have Hr:=U hr;have Hg:=U hg;clear hr hg;go_enter Tryz.func326,Tryz.ntmps326;go_wp2;go_loopw [7] (λi wr=>∃(j:Nat),j≤n∧i=.int .i64 j∧aU wr r (l.drop (2*j)) s∧IsNode wr g T (over N off (gN l j))∧w.heap.size≤wr.heap.size∧(∀k,k<w.heap.size→k≠r→k≠g→wr.heap[k]? =w.heap[k]?)∧(∀B,B≤r→B≤g→B≤w.heap.size→Below B w wr)) (λi _=>n - (intOf i).toNat)
 case atStart=>exact⟨0,oQ,rfl,by simpa using Hr.o,by rw[gN,aap];exact Hg.o,zm _,λ_ _ _ _=>rfl,λ_ _ _ _=>zn _ _⟩
 case round=>
  obtain⟨j,hj,rfl,hr,hg,gJ,hk,hB⟩:=hrel;have HR:=U hr;have HG:=U hg;have HS:=U gJ;have HK:=U hk;have HB:=U hB;clear hr hg gJ hk hB Hr Hg;by_cases Lv:j<n
  ·have hlen:=U (show(l.drop (2*j)).length=l.length - 2*j by rw[zR])
   have hx:=aej (l.drop (2*j));have Zo:=U (QX l j);have nL:=U (eY l j);obtain⟨x,hxe⟩:∃x,x=num ((l.drop (2*j)).take 2):=⟨_,rfl⟩
   rw[←hxe] at hx Zo;have Hxe:=U hxe;clear hxe;go_wp2_with fail;refine(jZ HR.o (x:Nat) (l.drop (2*(j+1))) s (by rw[Hxe.o,show cl (2:Int) 8=2 from rfl,wO,if_pos (by rw[hlen.o];omega)]) (by rw[show cl (2:Int) 8=2 from rfl,xH,if_pos (by rw[hlen.o];omega),za1];congr 1) (by rw[show cl (2:Int) 8=2 from rfl,CQ,if_pos (by rw[hlen.o];omega)])).mono ?_;rintro e w3 ⟨rfl,hr,iX⟩;have Yi:=HG.o.kept iX rH;have hol:j+off<(over N off (gN l j)).length:=by rw[NH _ _ _ (by rw[nL.o];omega)];omega
   have hcell:=Yi.cell (off+j) ((over N off (gN l j))[off+j]' oQ) (zu oQ);have Ls:=Yi.free (off+j);generalize (over N off (gN l j))[off+j]'_=u at hcell;have hr3:=U hr;have anw:=U Yi;have DC:=U iX;clear hr iX Yi hol;go_wp2;go_roundw
   case rel=>
    have hkg:Kept g w3 (w3.setCell ⟨g,off+j,none⟩ (.int .i64 (x:Int))):=Kept.setCell _ _ _;refine⟨j+1,oQ,by go_num,?_,?_,?_,?_,?_⟩
    ·obtain⟨A,c,h1,h2,h3⟩:=hr3.o
     have dV:r≠g:=λh=>rH h.symm;refine⟨A,c,(hkg.block r (zo.1 h1).1 dV).trans h1,?_,h3⟩;obtain⟨b,o,e1,e2⟩:=h2;refine⟨b,o,e1,λi hi=>?_⟩;have e3:=e2 i hi;have FW:b≠g∨b=g:=oQ
     rcases FW with FW|rfl
     ·rw[←e3]
      exact zS (hkg.block b (zq _ _ e3) FW)
     ·rw[cell_of_row _ b _ _ _ _ anw.o,oL] at e3
      cases hq:(over N off (gN l j))[o+i]? with
      |none=>rw[hq] at e3;cases e3
      |some v=>rw[hq] at e3;cases e3
    ·have h1:=block_setCell anw.o (off+j) (.int .i64 (x:Int))
     rw[H_] at h1;have h2:=VQ N off (gN l j) (x:Int) (by rw[nL.o];omega);rw[nL.o] at h2;rw[h2] at h1;rw[Zo.o];exact h1
    ·have:=hkg.size
     have:=DC.o.size;have:=HS.o;omega
    ·intro k pX eO gL
     have:=HS.o;have:=DC.o.size;rw[hkg.block k oQ gL,DC.o.block k oQ eO,HK.o k pX eO gL]
    ·intro B h1 h2 h3
     have:=HS.o;have:=DC.o.size;exact((HB.o B h1 h2 h3).trans (DC.o.below B h1 oQ)).trans (hkg.below B h2 oQ)
   case measure=>simp[intOf];omega
  ·obtain rfl:j=n:=oQ
   go_wp2;go_end0;exact⟨rfl,HR.o,HG.o,HS.o,HK.o,HB.o⟩
theorem aU.afE {w w':World} {r g:Nat} {T:TypeId} {N:List Int} {l:List UInt8} {s:Bool} (h:aU w r l s) (hg:IsNode w g T N) (hk:Kept g w w') (dV:r≠g):aU w' r l s:=by
 obtain⟨A,c,h1,h2,h3⟩:=h;refine⟨A,c,(hk.block r (zo.1 h1).1 dV).trans h1,?_,h3⟩;obtain⟨b,o,e1,e2⟩:=h2;refine⟨b,o,e1,λi hi=>?_⟩;have e3:=e2 i hi;have FW:b≠g∨b=g:=oQ
 rcases FW with FW|rfl
 ·rw[←e3]
  exact zS (hk.block b (zq _ _ e3) FW)
 ·rw[cell_of_row _ b _ _ _ _ hg,oL] at e3
  cases hq:N[o+i]? with
  |none=>rw[hq] at e3;cases e3
  |some v=>rw[hq] at e3;cases e3
theorem IsNode.aB {w:World} {g:Nat} {T:TypeId} {N:List Int} (h:IsNode w g T N) (i:Nat) (x:Int):IsNode (w.setCell ⟨g,i,none⟩ (.int .i64 x)) g T (N.set i x):=by
 have h1:=block_setCell h i (.int .i64 x);rw[H_] at h1;exact h1
end
end Go.Proofs.YtdjdpeadohobmaaGreatDoor
