/- A part of the walk below the law: what is proved here is used by later parts; no further condition. -/
import Derived.Outline
import Derived.Test.YtdjdpeadohobmaaGreatDoorK01
import Derived.Test.YtdjdpeadohobmaaGreatDoorK02
import Derived.Test.YtdjdpeadohobmaaGreatDoorK06
import Derived.Test.YtdjdpeadohobmaaGreatDoorProg
import Derived.Test.YtdjdpeadohobmaaGreatDoorRows
set_option linter.unusedVariables false
set_option linter.unusedSimpArgs false
set_option maxRecDepth 100000
set_option maxHeartbeats 20000000
namespace Go.Proofs.YtdjdpeadohobmaaGreatDoor
section
open Go.RowKit Go.Shelf
attribute [local go_sem] Oper.semAt_some
def gW (n j:Nat):List Int:=(List.range n).map (λk=>if k<j then -1 else 0)
theorem tY (n:Nat):List.replicate n (Value.int .i64 0)=dA (gW n 0):=by
 apply qG;intro k;rw[bW];by_cases hk:k<n
 ·simp[gW,qF,hk]
 ·simp[gW,qF,hk]
theorem jX {n j k:Nat} (hk:k<n):(gW n j)[k]? =some (if k<j then -1 else 0):=by
 rw[gW,qb,qW hk];rfl
theorem wM {n j:Nat} (hj:j<n):(dA (gW n j)).set j (.int .i64 (-1))=dA (gW n (j+1)):=by
 apply qG;intro k;rw[zaW];by_cases hk:k<n
 ·by_cases PI:j=k
  ·subst PI
   rw[if_pos rfl,if_pos (by simp[dA,gW,hj]),bW,jX hk,if_pos oQ];rfl
  ·rw[if_neg PI,bW,bW,jX hk,jX hk]
   by_cases h:k<j
   ·rw[if_pos h,if_pos oQ]
   ·rw[if_neg h,if_neg oQ]
 ·have h1:∀j,(gW n j)[k]? =none:=λj=>by simp[gW];omega
  rw[bW,bW,h1,h1];by_cases PI:j=k
  ·subst PI;omega
  ·rw[if_neg PI]
theorem wN (n:Nat):gW n n=(List.range n).map (λk=>jW none):=by
 unfold gW;apply za5;intro k hk;rw[if_pos (zao.1 hk)];rfl
theorem xZ (w:World) (n:Nat) (h1:1≤n) (h2:n≤1048576):
  Calls Tryz.prog 259 #[.int .i64 n] w λe w'=>∃b:Nat,e=.returned (.slice (some ⟨b,0,none⟩) n n)∧ah w' b 3 (dA ((List.range n).map (λk=>jW none)))∧w.heap.size≤b∧Below w.heap.size w w':=by
 obtain⟨w1,fC,hv,hB,gJ⟩:=kN CP (w:=w) .i64 .i64 n oQ oQ;rw[tY] at hv;have FY:max (n:Int) 0=n:=oQ
 have Il:min (n:Int) 1048576=n:=oQ
 have HB:=U hB;have HV:=U hv;clear hv hB;go_enter Tryz.func259,Tryz.ntmps259;go_wp2_with fail;go_loopw [4,11] (λu i wr=>∃(j:Nat),j≤n∧i=.int .i64 j∧ah wr w.heap.size 3 (dA (gW n j))∧Below w.heap.size w wr) (λ_ i _=>n - (intOf i).toNat)
 case atStart=>exact⟨0,oQ,rfl,HV.o,HB.o⟩
 case round=>
  obtain⟨j,hj,rfl,hR,hB⟩:=hrel;have R:=U hR;have HBj:=U hB;by_cases Lv:j<n
  ·have dj:=hR.cell j
   rw[bW,jX Lv,qA] at dj;have fj:=hR.free j;have Gq:ah (wr.setCell ⟨w.heap.size,j,none⟩ (.int .i64 (-1))) w.heap.size 3 (dA (gW n (j+1))):=by rw[←wM Lv];exact hR.aB j _
   have R2':=U Gq;have PO:=U (hB.setCell (p:=⟨w.heap.size,j,none⟩) (zm _) (.int .i64 (-1)));clear hR hB Gq fC FY Il;go_wp2_with fail;go_roundw
   case rel=>exact⟨j+1,oQ,by go_num,R2'.o,PO.o⟩
   case measure=>simp[intOf];omega
  ·obtain rfl:j=n:=oQ
   clear hR hB fC FY Il;go_wp2_with fail;go_ret;refine⟨_,rfl,?_,zm _,HBj.o⟩;rw[←wN];exact R.o
theorem TabAt.new {w:World} {t pb ob B P:Nat} (h1:ah w t 266 [.slice (some ⟨pb,0,none⟩) B B,.slice (some ⟨ob,0,none⟩) P P,.int .i64 0])
  (h2:ah w pb 3 (dA ((List.range B).map (λk=>jW none)))) (h3:ah w ob 3 (dA ((List.range P).map (λk=>jW none)))) (h4:1≤B∧B≤1048576∧1≤P∧P≤1048576) (h5:pb≠ob):
  TabAt w t pb ob B P (λ_=>none) (λ_=>none):=
 ⟨⟨_,h1⟩,h2,h3,h4,λp i _=>sQ,λi p _ h=>(by cases h),h5⟩
theorem PV (w:World) (B P:Nat) (h1:1≤B) (h2:B≤1048576) (h3:1≤P) (h4:P≤1048576):
  Calls Tryz.prog 193 #[.int .i64 B,.int .i64 P] w λe w'=>∃t pb ob:Nat,e=.returned (.pointer (some ⟨t,0,none⟩))∧TabAt w' t pb ob B P (λ_=>none) (λ_=>none)∧(w.heap.size≤t∧w.heap.size≤pb∧w.heap.size≤ob)∧Below w.heap.size w w':=by
 go_enter Tryz.func193,Tryz.ntmps193;go_wp2_with fail;refine(xZ _ B h1 h2).mono ?_;rintro e w1 ⟨pb,rfl,L_,sV,aF⟩;go_wp2_with fail;refine(xZ _ P h3 h4).mono ?_;rintro e w2 ⟨ob,rfl,pW,nK,aJ⟩;have hl1:=L_.lt;have alR:=L_.below aJ;have hB:Below w.heap.size w w2:=aF.trans (aJ.mono aF.size);have dV:pb≠ob:=oQ
 obtain⟨w3,gV⟩:∃w3,w2.alloc (.cells #[.slice (some ⟨pb,0,none⟩) B B,.slice (some ⟨ob,0,none⟩) P P,.int .i64 0] 266)=w3:=⟨_,rfl⟩
 have hT:TabAt w3 w2.heap.size pb ob B P (λ_=>none) (λ_=>none):=by
  rw[←gV];exact TabAt.new (ah.new _ _ _) (alR.below ((zn _ _).alloc (zm _) _)) (pW.below ((zn _ _).alloc (zm _) _)) ⟨h1,h2,h3,h4⟩ dV
 have bf:Below w.heap.size w w3:=by rw[←gV];exact hB.alloc hB.size _
 have hz:w.heap.size≤w2.heap.size:=hB.size;have HT:=U hT;have iB:=U bf;have ar_:w.heap.size≤ob:=zC aF.size nK;clear L_ pW alR hB hT bf aF aJ;go_wp2_with fail;go_ret;exact⟨_,_,_,rfl,HT.o,⟨hz,sV,ar_⟩,iB.o⟩
end
namespace M
abbrev B:=BitVec 32
def alS:List Nat:=[0,498536548,997073096,651767980,1994146192,1802195444,1303535960,1342533948,3988292384,4027552580,3604390888,3412177804,2607071920,2262029012,2685067896,3183342108]
def hf (n:BitVec 4):B:=BitVec.ofNat 32 (alS.getD n.toNat 0)
def nib (x:B):B:=x>>>4^^^hf (x.setWidth 4)
def Z (x:B):B:=nib (nib x)
def wide (c:UInt8):B:=c.toBitVec.setWidth 32
def YR (x:B) (c:UInt8):B:=Z (x^^^wide c)
def run (x:B) (l:List UInt8):B:=l.foldl YR x
def more (s:B) (l:List UInt8):B:= ~~~ run (~~~ s) l
def sum (l:List UInt8):B:=more 0#32 l
theorem DI (x:B) (l m:List UInt8):run x (l++m)=run (run x l) m:=by simp[run,List.foldl_append]
theorem not_not (x:B): ~~~ ~~~ x=x:=by simp
theorem Ma (s:B) (l m:List UInt8):more (more s l) m=more s (l++m):=by
 unfold more;rw[not_not,DI]
theorem sum_append (l m:List UInt8):sum (l++m)=more (sum l) m:=by unfold sum;rw[Ma]
end M
namespace O
def le:Nat→Nat→List UInt8
 |0,_=>[]
 |k+1,x=>UInt8.ofNat x::le k (x / 256)
def num:List UInt8→Nat
 |[]=>0
 |c::l=>c.toNat+256*num l
theorem aA (k x:Nat):(le k x).length=k:=by
 induction k generalizing x with
 |zero=>rfl
 |succ k ih=>simp[le,ih]
theorem SQ (k x:Nat):le (k+1) x=le k x++[UInt8.ofNat (x / 256^k)]:=by
 induction k generalizing x with
 |zero=>simp[le]
 |succ k ih=>
  rw[le,ih,Nat.div_div_eq_div_mul]
  conv=>rhs;rw[le]
  rw[Nat.pow_succ,Nat.mul_comm (256^k)];rfl
theorem JU (l:List UInt8):num l<256^l.length:=by
 induction l with
 |nil=>simp[num]
 |cons c l ih=>
  have:=c.toNat_lt;simp only[num,List.length_cons,Nat.pow_succ];omega
theorem PW (l m:List UInt8):num (l++m)=num l+256^l.length*num m:=by
 induction l with
 |nil=>simp[num]
 |cons c l ih=>
  simp only[List.cons_append,num,ih,List.length_cons,Nat.pow_succ];rw[Nat.mul_add,Nat.mul_comm (256^l.length) 256,Nat.mul_assoc];omega
theorem Mc (l:List UInt8) (c:UInt8):num (l++[c])=num l+256^l.length*c.toNat:=by
 rw[PW];simp[num]
theorem Au (k x:Nat):num (le k x)=x%256^k:=by
 induction k generalizing x with
 |zero=>simp[le,num,Nat.mod_one]
 |succ k ih=>
  simp only[le,num,ih,UInt8.toNat_ofNat'];have e:256^(k+1)=256*256^k:=by rw[Nat.pow_succ,Nat.mul_comm]
  rw[e,Nat.mod_mul]
def cl (z:Int) (m:Nat):Nat:=(min (max z 0) (m:Int)).toNat
theorem Ip (z:Int) (m:Nat):cl z m≤m:=by unfold cl;omega
theorem YS (z k:Nat) (h:z≤k):cl (z:Int) k=z:=by unfold cl;omega
def field (l:List UInt8) (n:Nat):List UInt8:=l.take n++List.replicate (n - l.length) 0
theorem gG (l:List UInt8) (n:Nat):(field l n).length=n:=by
 simp only[field,List.length_append,List.length_take,List.length_replicate];omega
def wO (l:List UInt8) (k:Nat):List UInt8:=if k≤l.length then l.take k else[]
def xH (l:List UInt8) (k:Nat):List UInt8:=if k≤l.length then l.drop k else[]
def CQ (l:List UInt8) (k:Nat) (s:Bool):Bool:=if k≤l.length then s else true
end O
section
namespace Md
open Go.RowKit M
def n4 (c:BitVec 4):Int:=(c.toNat:Int)
theorem afO (c:BitVec 4):0≤n4 c∧n4 c<16:=by have:=c.isLt;unfold n4;omega
theorem PX (x:B) (c:UInt8):bits .xor .u32 (n32 x) (n8 c)=n32 (x^^^wide c):=by
 have:=c.toNat_lt;unfold n32 n8;rw[u32_xor_nat x.toNat c.toNat x.isLt oQ];simp[wide]
theorem Me (x y:B):bits .xor .u32 (n32 x) (n32 y)=n32 (x^^^y):=by
 unfold n32;rw[u32_xor_nat x.toNat y.toNat x.isLt y.isLt];simp
theorem adq (x:B):bits .xor .u32 IntKind.u32.max (n32 x)=n32 (~~~ x):=by
 have e:IntKind.u32.max=((4294967295:Nat):Int):=dQ
 unfold n32;rw[e,u32_xor_nat 4294967295 x.toNat dQ x.isLt,←BitVec.allOnes_xor];simp
theorem UC (x:B):bits .and .u32 (n32 x) 15=n4 (x.setWidth 4):=by
 unfold n32 n4;have:=u32_and_nat x.toNat 15 x.isLt dQ;simp at this;rw[this];have:=Nat.and_two_pow_sub_one_eq_mod x.toNat 4;simp at this;simp[BitVec.toNat_setWidth];omega
theorem YT (x:B):n32 x / (16:Int)=n32 (x>>>4):=by
 unfold n32;simp[Nat.shiftRight_eq_div_pow]
attribute [local go_sem] PX Me adq UC YT
def bG (w:World):Prop:=∀y:BitVec 4,w.cell? ⟨0,(n4 y).toNat,none⟩=some (.int .u32 (n32 (hf y)))
theorem bG.keep {w w':World} (h:bG w) (hk:∀p:Addr,p.block<w.heap.size→w'.cell? p=w.cell? p):bG w':=
 λy=>(hk _ (zq w _ (h y))).trans (h y)
theorem bG.below {w w':World} (h:bG w) (hb:Below w.heap.size w w'):bG w':=h.keep λ_ hp=>hb.cell hp
def adr:Nat→B→B
 |0,x=>x
 |j+1,x=>nib (adr j x)
theorem YU (x:B) (l:List UInt8) (k:Nat) (h:k<l.length):run x (l.take (k+1))=adr 2 (run x (l.take k)^^^wide l[k]):=by
 rw[zZ h,DI];rfl
theorem YV (x:B) (l:List UInt8) (n:Nat) (nL:l.length=n) (w:World) (a:Option Addr) (c:Nat) (hn:n≤9223372036854775807) (hb:ay w a l) (hT:bG w):
  Calls Tryz.prog 191 #[.int .u32 (n32 x),.slice a n c] w λe w'=>e=.returned (.int .u32 (n32 (more x l)))∧w=w':=by
 subst nL;go_enter Tryz.func191,Tryz.ntmps191;go_wp2
 go_loop [5,11] (λs i=>∃(k:Nat),k≤l.length∧i=.int .i64 k∧s=.int .u32 (n32 (run (~~~ x) (l.take k)))) (λ_ i=>l.length - (intOf i).toNat)
 case atStart=>exact⟨0,ql _,rfl,rQ⟩
 case round=>
  obtain⟨k,hk,rfl,rfl⟩:=hrel;by_cases mW:k<l.length
  ·obtain⟨b,off,ha,hcell⟩:=hb
   have hl:l≠[]:=by rintro rfl;simp at mW
   obtain rfl:=ha hl;have hc:=hcell k mW;have h8:=Sw l[k];clear hcell ha hl;go_wp2
   go_loop [5,21] (λs i=>∃j:Nat,j≤2∧i=.int .i64 j∧s=.int .u32 (n32 (adr j (run (~~~ x) (l.take k)^^^wide l[k])))) (λ_ i=>2 - (intOf i).toNat)
   case atStart=>exact⟨0,oQ,rfl,rfl⟩
   case round=>
    obtain⟨j,hj,rfl,rfl⟩:=hrel;have Gp:=hT;unfold bG at Gp;have h4:=afO ((adr j (run (~~~ x) (l.take k)^^^wide l[k])).setWidth 4);by_cases hj2:j<2
    ·go_wp2
     go_round
     case rel=>exact⟨j+1,oQ,by go_num,rfl⟩
     case measure=>simp[intOf];omega
    ·obtain rfl:j=2:=oQ
     go_wp2;go_round
     case rel=>exact⟨k+1,oQ,by go_num,by rw[YU _ _ _ mW]⟩
     case measure=>simp[intOf];omega
  ·obtain rfl:k=l.length:=oQ
   go_wp2;go_ret;refine⟨?_,rfl⟩;simp[more]
theorem ads (l:List UInt8) (n:Nat) (nL:l.length=n) (w:World) (a:Option Addr) (c:Nat) (hn:n≤9223372036854775807) (hb:ay w a l) (hT:bG w):
  Calls Tryz.prog 120 #[.slice a n c] w λe w'=>e=.returned (.int .u32 (n32 (sum l)))∧w=w':=by
 have h0:(0:Int)=n32 0#32:=rfl;go_enter Tryz.func120,Tryz.ntmps120;go_wp2_with fail;refine(YV 0#32 l n nL w a c hn hb hT).mono ?_;rintro e w' ⟨rfl,rfl⟩;go_wp2;go_ret;exact⟨rfl,rfl⟩
end Md
end
section
open Go.RowKit O
theorem bD:jC Tryz.prog 22 5 (.int .u8 0) 1:=⟨Tryz.underlying22,kQ,rfl⟩
theorem DJ {k:IntKind} {a b:Int} (h:a=b):Ending.returned (.int k a)=.returned (.int k b):=by rw[h]
theorem dM {a b:Bool} (h:a=b):Ending.returned (.bool a)=.returned (.bool b):=by rw[h]
theorem rJ (z:Int) (m:Nat) (hm:m≤65536) (w:World):
  Calls Tryz.prog 190 #[.int .i64 z,.int .i64 (m:Int)] w λe w'=>e=.returned (.int .i64 (cl z m:Nat))∧w=w':=by
 go_enter Tryz.func190,Tryz.ntmps190;go_wp2
 all_goals (go_ret;refine⟨DJ ?_,rfl⟩;unfold cl;omega)
def Out (w:World) (l:List UInt8) (e:Ending) (w':World):Prop:=
 ∃A c n,e=.returned (.slice A n c)∧l.length=n∧Own 5 w.heap.size w' A c (l.map aH)∧Below w.heap.size w w'
theorem Mf (q:Nat):Value.int .u8 ((q:Int)%256)=aH (UInt8.ofNat q):=by
 unfold aH n8;rw[zaK];congr 1
theorem adt (l:List UInt8) (n:Nat) (nL:l.length=n) (w:World) (a:Option Addr) (c:Nat) (hn:n≤140737488000000) (hb:ay w a l) (z:Int) (x:Nat) (hx:x<18446744073709551616):
  Calls Tryz.prog 118 #[.slice a n c,.int .i64 z,.int .u64 (x:Int)] w (Out w (l++le (cl z 8) x)):=by
 have hk:=Ip z 8;have hwi:=U (λw=>rJ z 8 oQ w);generalize cl z 8=k at*;obtain⟨w1,fC,hown1,aF,Ad⟩:=Ui bD (base:=w.heap.size) (w:=w) .i64 .i64 (n+k) oQ oQ (zm _);rw[Int.natCast_add] at fC;obtain⟨A1,c1,w2,iT,fM,aJ⟩:=gu bD 22 (n:=0) (c2:=c) hown1 rfl ((hb.below aF).row) (by simpa using nL) (eP _) oQ oQ aF.size;rw[qx] at iT;rw[zB] at fM;have H2:=U (show Own 5 w.heap.size w2 A1 c1 ((l++le 0 x).map aH) by simpa[le] using fM);have HB:=U (aF.trans aJ);clear hown1 fM aF aJ;go_enter Tryz.func118,Tryz.ntmps118;go_wp2_with fail;refine(hwi.o _).mono ?_;rintro e w0 ⟨rfl,rfl⟩;go_wp2_with (first|(at_make;refine lD fC rfl rfl rfl rfl ?_)|(at_builtin;refine wpList_append_run _ _ iT rfl rfl rfl rfl ?_));clear fC iT;go_loopw [7,2,19] (λv y i wr=>∃(j:Nat) (A:Option Addr) (cc:Nat),j≤k∧i=.int .i64 j∧y=.int .u64 ((x / 256^j:Nat):Int)∧v=.slice A (n+j) cc∧Own 5 w.heap.size wr A cc ((l++le j x).map aH)∧Below w.heap.size w wr) (λ_ _ i _=>k - (intOf i).toNat)
 case atStart=>exact⟨0,A1,c1,oQ,rfl,sQ,rfl,H2.o,HB.o⟩
 case round=>
  obtain⟨j,A,cc,hj,rfl,rfl,rfl,hown,Mg⟩:=hrel;by_cases PI:j<k
  ·have hd:x / 256^(j+1)=x / 256^j / 256:=by rw[Nat.pow_succ,Nat.div_div_eq_div_mul]
   have hs:=SQ j x;have hq:x / 256^j<18446744073709551616:=Nat.lt_of_le_of_lt (Nat.div_le_self _ _) hx;have Hd:=U hd;have Hs:=U hs;have hlen:=U (aA j x);clear hd hs;generalize x / 256^j=q at*;obtain⟨A',c',w3,iT,nW,bf⟩:=gu bD 22 (n:=n+j) (m:=1) (c2:=1) (w:=wr.alloc (.cells #[.int .u8 ((q:Int)%256)] 5)) (hown.keep ((zn _ _).alloc (zm _) _)) (by simp[nL,hlen.o]) (gZ.ji wr #[.int .u8 ((q:Int)%256)] 5 (0,0) [.int .u8 ((q:Int)%256)] rfl) rfl (by intro u hu;simp at hu;subst hu;rfl) oQ oQ (by simp;have:=Mg.size;omega)
   have H3:=U (show Own 5 w.heap.size w3 A' c' ((l++le (j+1) x).map aH) by
    rw[Hs.o,←zP,zW (l₁:=l++le j x),List.map_singleton,←Mf];exact nW)
   have iB:=U (((Mg.alloc Mg.size _).trans bf));clear hown Mg nW bf hlen;go_wp2_with (at_builtin;refine wpList_append_run _ _ iT rfl rfl rfl rfl ?_);go_roundw
   case rel=>exact⟨j+1,A',c',oQ,by go_num,by rw[Hd.o];go_num,rfl,H3.o,iB.o⟩
   case measure=>simp[intOf];omega
  ·obtain rfl:j=k:=oQ
   go_wp2;go_ret;exact⟨A,cc,n+j,rfl,by simp[nL,aA],hown,Mg⟩
theorem UD (l:List UInt8) (n:Nat) (nL:l.length=n) (w:World) (a:Option Addr) (c:Nat) (hb:ay w a l) (z:Int):
  Calls Tryz.prog 119 #[.slice a n c,.int .i64 z] w (Out w (field l (cl z 4096))):=by
 have hk:=Ip z 4096;have hwi:=U (λw=>rJ z 4096 oQ w);generalize cl z 4096=k at*;obtain⟨w1,fC,hown1,aF,Ad⟩:=eT bD (base:=w.heap.size) (w:=w) .i64 .i64 k oQ oQ (zm _);obtain⟨w2,hcp,fM,aJ,nJ⟩:=LK bD 3 (n:=k) (c2:=c) hown1 sQ ((hb.below aF).row) (by simpa using nL) (eP _)
 have H2:=U (show Own 5 w.heap.size w2 (some ⟨w.heap.size,0,none⟩) k ((field l k).map aH) by
  rw[eB,←List.map_take,←List.map_drop,←zW] at fM;unfold field;rw[nL];rw[zav] at fM;exact fM)
 have HB:=U (aF.trans aJ);clear hown1 fM aF aJ;go_enter Tryz.func119,Tryz.ntmps119;go_wp2_with fail;refine(hwi.o _).mono ?_;rintro e w0 ⟨rfl,rfl⟩;go_wp2_with (first|(at_make;refine lD fC rfl rfl rfl rfl ?_)|(refine wpList_copy_run (.tmp 9) (.tmp 10) hcp rfl rfl rfl rfl ?_));go_ret;exact⟨_,k,k,rfl,gG _ _,H2.o,HB.o⟩
def aU (w:World) (r:Nat) (l:List UInt8) (s:Bool):Prop:=
 ∃A c,w.heap[r]? =some (.cells #[.slice A l.length c,.bool s] 393 (0,0))∧ay w A l∧l.length≤c∧c≤maxLen
theorem ay.kept {w w':World} {r:Nat} {a:Option Addr} {l m:List UInt8} {s:Bool} (h:ay w a l) (hr:aU w r m s) (hk:Kept r w w'):ay w' a l:=by
 obtain⟨b,off,h1,h2⟩:=h;obtain⟨A,c,hb, -⟩:=hr;refine⟨b,off,h1,λi hi=>?_⟩;have h3:=h2 i hi;rw[←h3];refine zS (hk.block b (zq w _ h3) ?_);rintro rfl;rw[cell_of_row w b (off+i) _ _ _ hb] at h3;rcases h:off+i with _|_|k
 ·rw[h] at h3;cases h3
 ·rw[h] at h3;cases h3
 ·rw[h] at h3;simp at h3
theorem aU.below {w w':World} {r:Nat} {l:List UInt8} {s:Bool} (h:aU w r l s) (hb:Below w.heap.size w w'):aU w' r l s:=by
 obtain⟨A,c,h1,h2,h3⟩:=h;exact⟨A,c,(hb.block r (zo.1 h1).1).trans h1,h2.below hb,h3⟩
theorem aU.lt {w:World} {r:Nat} {l:List UInt8} {s:Bool} (h:aU w r l s):r<w.heap.size:=by
 obtain⟨A,c,h1,h2,h3⟩:=h;exact(zo.1 h1).1
theorem DK (l:List UInt8) (n:Nat) (nL:l.length=n) (w:World) (a:Option Addr) (c:Nat) (hn:n≤140737488000000) (hb:ay w a l):
  Calls Tryz.prog 296 #[.slice a n c] w λe w'=>∃r,e=.returned (.pointer (some ⟨r,0,none⟩))∧w.heap.size≤r∧aU w' r l false∧Below w.heap.size w w':=by
 obtain⟨A1,c1,w2,iT,fM,aJ⟩:=gu bD 22 (base:=w.heap.size) (w:=w) (A:=none) (n:=0) (c:=0) (c2:=c) Own.nothing rfl hb.row (by simpa using nL) (eP _) oQ oQ (zm _);rw[qx] at iT;rw[zB] at fM;have H2:=U fM;have HB:=U aJ;clear fM aJ;go_enter Tryz.func296,Tryz.ntmps296;go_wp2_with (at_builtin;refine wpList_append_run _ _ iT rfl rfl rfl rfl ?_);go_ret;refine⟨w2.heap.size,rfl,HB.o.size,⟨A1,c1,?_,?_,?_⟩,HB.o.alloc HB.o.size _⟩
 ·rw[nL];exact heap_alloc_new _ _
 ·exact H2.o.row.bytes.below ((zn _ _).alloc (zm _) _)
 ·have:=H2.o.len
  simpa using this
theorem block_setCell {w:World} {r:Nat} {C:Array Value} {T:TypeId} (h:w.heap[r]? =some (.cells C T (0,0))) (o:Nat) (u:Value):(w.setCell ⟨r,o,none⟩ u).heap[r]? =some (.cells (C.setIfInBounds o u) T (0,0)):=by
 have bA:=(zo.1 h).1;have h':w.heap[r]=.cells C T (0,0):=by simpa[qM bA] using h
 show(w.heap.modify r _)[r]? =_;rw[qM (by simpa using bA),Array.getElem_modify_self,h'];rfl
theorem fV {w:World} {g:Nat} (j:Nat) {cs:Array Value} {t:TypeId} (hg:w.heap[g]? =some (.cells cs t (0,0))):w.frozen? ⟨g,j,none⟩=false:=by simp[World.frozen?,hg]
theorem Mh {w:World} {r k c:Nat} {l:List UInt8} {s:Bool} {A:Option Addr} (hr:aU w r l s) (hb:w.heap[r]? =some (.cells #[.slice A l.length c,.bool s] 393 (0,0)))
  (hA:ay w A l) (hlc:l.length≤c) (Cn:c≤maxLen) (hk:k≤l.length) (B:Option Addr) (n' c':Nat) (hB:B=if c=k then A else A.map (·.add k)) (hn':n'=l.length - k) (hc':c'=c - k):
  ay (w.setCell ⟨r,0,none⟩ (.slice B n' c')) A (l.take k)∧aU (w.setCell ⟨r,0,none⟩ (.slice B n' c')) r (l.drop k) s∧Kept r w (w.setCell ⟨r,0,none⟩ (.slice B n' c')):=by
 subst hB hn' hc';have iX:∀v,Kept r w (w.setCell ⟨r,0,none⟩ v):=λv=>Kept.setCell w 0 v;refine⟨(hA.take k).kept hr (iX _),⟨_,c - k,?_,(hA.drop k c hk hlc).kept hr (iX _),?_,?_⟩,iX _⟩
 ·rw[block_setCell hb,zR]
  rfl
 ·rw[zR];omega
 ·unfold maxLen at*;omega
theorem Mi (l:List UInt8) (s:Bool) (r k:Nat) (w:World) (hr:aU w r l s) (hk:k≤l.length):
  Calls Tryz.prog 341 #[.pointer (some ⟨r,0,none⟩),.int .i64 (k:Int)] w λe w'=>∃A,e=.returned (.tuple #[.slice A k k,.bool true])∧ay w' A (l.take k)∧aU w' r (l.drop k) s∧Kept r w w':=by
 have vU:=U hr;obtain⟨A,c,hb,hA,hlc,Cn⟩:=hr;have YW:=Cn;unfold maxLen at Cn;have c0:=cell_of_row w r 0 _ _ _ hb;have c1:=cell_of_row w r 1 _ _ _ hb;have f0:=fV 0 hb;simp only[qZ,zf,zi] at c0 c1;have Hb:=U hb;have HA:=U hA;clear hb hA;go_enter Tryz.func341,Tryz.ntmps341;go_wp2
 ·go_ret2
  rename_i h;exact⟨_,rfl,Mh vU.o Hb.o HA.o hlc YW hk A _ _ (by rw[if_pos h]) rfl oQ⟩
 ·go_ret2
  rename_i h;exact⟨_,rfl,Mh vU.o Hb.o HA.o hlc YW hk _ _ _ (by rw[if_neg h]) rfl rfl⟩
theorem SS (l:List UInt8) (s:Bool) (r k:Nat) (w:World) (hr:aU w r l s) (hk:l.length<k):
  Calls Tryz.prog 341 #[.pointer (some ⟨r,0,none⟩),.int .i64 (k:Int)] w λe w'=>e=.returned (.tuple #[.slice none 0 0,.bool false])∧aU w' r [] true∧Kept r w w':=by
 obtain⟨A,c,hb,hA,hlc,Cn⟩:=hr;have c0:=cell_of_row w r 0 _ _ _ hb;have c1:=cell_of_row w r 1 _ _ _ hb;have f0:=fV 0 hb;have f1:=fV 1 hb;simp only[qZ,zf,zi] at c0 c1;have Hb:=U hb;clear hb hA;go_enter Tryz.func341,Tryz.ntmps341;go_wp2;go_ret2;refine⟨rfl,⟨none,0,?_,ay.nil _ _,sQ,by simp[maxLen]⟩,(Kept.setCell w 0 _).trans (Kept.setCell _ 1 _)⟩;have h1:=block_setCell Hb.o 0 (.slice none 0 0);have h2:=block_setCell h1 1 (.bool true);rw[h2];rfl
theorem UE (v c k:Nat) (hv:v<256^k) (hc:c<256) (hk:k≤7):bits .or .u64 (v:Int) ((c*2^(8*k):Nat):Int)=((v+256^k*c:Nat):Int):=by
 have hp:256^k=2^(8*k):=by rw[Nat.pow_mul]
 have hp7:256^k≤256^7:=qQ oQ hk;have h1:c*2^(8*k)≤255*256^7:=by
  rw[←hp];exact Nat.mul_le_mul oQ hp7
 have e7:256^7=72057594037927936:=dQ
 rw[e7] at h1 hp7;rw[u64_or_nat v (c*2^(8*k)) oQ oQ];congr 1;rw[←Nat.shiftLeft_eq,Nat.or_comm,←Nat.shiftLeft_add_eq_or_of_lt (by rw[←hp];exact hv),Nat.shiftLeft_eq,hp,zaM,Nat.add_comm]
theorem DL (v k:Nat) (c:UInt8) (hv:v<256^k) (hk:k≤7):bits .or .u64 (v:Int) (IntKind.u64.wrap (n8 c*2^(8*k)))=((v+256^k*c.toNat:Nat):Int):=by
 have hc:=c.toNat_lt;have hp:256^k=2^(8*k):=by rw[Nat.pow_mul]
 have hp7:256^k≤256^7:=qQ oQ hk;have h1:c.toNat*2^(8*k)≤255*256^7:=by
  rw[←hp];exact Nat.mul_le_mul oQ hp7
 have e7:256^7=72057594037927936:=dQ
 rw[e7] at h1;have e:n8 c*2^(8*k)=((c.toNat*2^(8*k):Nat):Int):=by unfold n8;simp
 rw[e,IntKind.wrap_u64,qY oQ oQ];exact UE v c.toNat k hv hc hk
theorem YX (v k:Nat) (c:UInt8) (hv:v<256^k) (hk:k≤7) (w:World):
  Calls Tryz.prog 369 #[.agg #[.int .u64 (v:Int),.int .u64 (8*(k:Int))],.int .u8 (n8 c)] w λe w'=>e=.returned (.agg #[.int .u64 ((v+256^k*c.toNat:Nat):Int),.int .u64 (8*(k:Int)+8)])∧Below w.heap.size w w':=by
 have h8:=Sw c;have ho:=DL v k c hv hk;generalize v+256^k*c.toNat=u at*;clear hv;go_enter Tryz.func369,Tryz.ntmps369;go_wp2;exact bodyPost_ret (v:=.agg #[.int .u64 (u:Int),.int .u64 (8*(k:Int)+8)]) (by simp[results,Tryz.results369,go_sem]) rfl ⟨rfl,((zn _ _).alloc (zm _) _).alloc sQ _⟩
theorem Mj (l:List UInt8) (n:Nat) (nL:l.length=n) (hn8:n≤8) (w:World) (a:Option Addr) (c:Nat) (hb:ay w a l):
  Calls Tryz.prog 342 #[.slice a n c] w λe w'=>e=.returned (.int .u64 ((num l:Nat):Int))∧Below w.heap.size w w':=by
 subst nL;go_enter Tryz.func342,Tryz.ntmps342;go_wp2;go_loopw [8] (λi wr=>∃(k:Nat),k≤l.length∧i=.int .i64 k∧wr.heap[w.heap.size]? =some (.cells #[.int .u64 ((num (l.take k):Nat):Int),.int .u64 (8*(k:Int))] 411 (0,0))∧Below w.heap.size w wr) (λi _=>l.length - (intOf i).toNat)
 case atStart=>exact⟨0,oQ,rfl,heap_alloc_new _ _,(zn _ _).alloc (zm _) _⟩
 case round=>
  obtain⟨k,hk,rfl,Mk,hB⟩:=hrel;have g0:=cell_of_row wr w.heap.size 0 _ _ _ Mk;have g1:=cell_of_row wr w.heap.size 1 _ _ _ Mk;have f0:=fV 0 Mk;have f1:=fV 1 Mk;simp only[qZ,zf,zi] at g0 g1;have HB:=U hB;have alT:=U Mk;clear hB Mk;by_cases mW:k<l.length
  ·obtain⟨b,off,ha,hcell⟩:=hb.below HB.o
   obtain rfl:=ha (by rintro rfl;simp at mW);have hc:=hcell k mW;have h8:=Sw l[k];have hv:num (l.take k)<256^k:=by
    have:=JU (l.take k);rwa[zF,qP hk] at this
   have hs:num (l.take (k+1))=num (l.take k)+256^k*l[k].toNat:=by
    rw[zZ mW,Mc,zF,qP hk]
   have Hs:=U hs;clear hcell ha hs;generalize num (l.take k)=v at*;go_wp2_with fail;refine(YX v k l[k] hv oQ _).mono ?_;rintro e w2 ⟨rfl,aJ⟩;have Iq:=(aJ.block w.heap.size (zo.1 alT.o).1).trans alT.o;have g0':=cell_of_row w2 w.heap.size 0 _ _ _ Iq;have g1':=cell_of_row w2 w.heap.size 1 _ _ _ Iq;have f0':=fV 0 Iq;have f1':=fV 1 Iq;simp only[qZ,zf,zi] at g0' g1';have bH:=U aJ;have alU:=U Iq;clear aJ Iq;go_wp2;go_roundw
   case rel=>
    refine⟨k+1,oQ,by go_num,?_,((HB.o.trans (bH.o.mono HB.o.size)).setCell (zm _) _).setCell (zm _) _⟩;rw[Hs.o,block_setCell (block_setCell alU.o 0 _) 1 _];simp;omega
   case measure=>simp[intOf];omega
  ·obtain rfl:k=l.length:=oQ
   go_wp2;go_ret;refine⟨?_,HB.o⟩;simp
theorem PY (l:List UInt8) (s:Bool) (r:Nat) (z:Int) (w:World) (hr:aU w r l s):
  Calls Tryz.prog 299 #[.pointer (some ⟨r,0,none⟩),.int .i64 z] w λe w'=>e=.returned (.int .u64 ((num (wO l (cl z 8)):Nat):Int))∧aU w' r (xH l (cl z 8)) (CQ l (cl z 8) s)∧Kept r w w':=by
 have hk:=Ip z 8;have hwi:=U (λw=>rJ z 8 oQ w);generalize cl z 8=k at*;have Hr:=U hr;clear hr;by_cases fF:k≤l.length
 ·have e1:=U (show wO l k=l.take k∧xH l k=l.drop k∧CQ l k s=s by simp[wO,xH,CQ,fF])
  go_enter Tryz.func299,Tryz.ntmps299;go_wp2_with fail;refine(hwi.o _).mono ?_;rintro e w0 ⟨rfl,rfl⟩;go_wp2_with fail;refine(Mi l s r k w Hr.o fF).mono ?_;rintro e w1 ⟨A,rfl,hA,jY,pX⟩;have HA:=U hA;have Hr1:=U jY;have Hk1:=U pX;clear hA jY pX;go_wp2_with fail;refine(Mj (l.take k) k (by simp[fF]) hk _ A k HA.o).mono ?_;rintro e w2 ⟨rfl,hB⟩;go_wp2;go_ret;rw[e1.o.1,e1.o.2.1,e1.o.2.2];exact⟨rfl,Hr1.o.below hB,Hk1.o.trans (Kept.of_below hB)⟩
 ·have e1:=U (show wO l k=[]∧xH l k=[]∧CQ l k s=true by simp[wO,xH,CQ,fF])
  go_enter Tryz.func299,Tryz.ntmps299;go_wp2_with fail;refine(hwi.o _).mono ?_;rintro e w0 ⟨rfl,rfl⟩;go_wp2_with fail;refine(SS l s r k w Hr.o oQ).mono ?_;rintro e w1 ⟨rfl,jY,pX⟩;go_wp2;go_ret;rw[e1.o.1,e1.o.2.1,e1.o.2.2];exact⟨rfl,jY,pX⟩
theorem UF (l:List UInt8) (s:Bool) (r:Nat) (z:Int) (w:World) (hr:aU w r l s) (hl:l.length≤140737488000000):
  Calls Tryz.prog 298 #[.pointer (some ⟨r,0,none⟩),.int .i64 z] w λe w'=>∃A c n,e=.returned (.slice A n c)∧(wO l z.toNat).length=n∧Own 5 w.heap.size w' A c ((wO l z.toNat).map aH)∧aU w' r (xH l z.toNat) (CQ l z.toNat s)∧Kept r w w':=by
 obtain⟨k,hk⟩:∃k,k=z.toNat:=⟨_,rfl⟩
 have FY:∀ts t W,(Builtin.max_ ts t #[.int .i64 z,.int .i64 0]).run Tryz.prog W=.ok (.int .i64 (k:Int)) W:=λts t W=>by
  subst hk;simp[Builtin.max_,Builtin.max2]
  split<;>omega
 rw[←hk];clear hk;have Hr:=U hr;clear hr;by_cases fF:k≤l.length
 ·have e1:=U (show wO l k=l.take k∧xH l k=l.drop k∧CQ l k s=s by simp[wO,xH,CQ,fF])
  go_enter Tryz.func298,Tryz.ntmps298;go_wp2_with fail;refine(Mi l s r k w Hr.o fF).mono ?_;rintro e w1 ⟨A,rfl,hA,jY,pX⟩;obtain⟨A1,c1,w2,iT,fM,aJ⟩:=gu bD 22 (base:=w1.heap.size) (w:=w1) (A:=none) (n:=0) (c:=0) (m:=k) (c2:=k) Own.nothing rfl hA.row (by simp[fF]) (eP _) oQ oQ (zm _);rw[qx] at iT;rw[zB] at fM;have Hr1:=U (jY.below aJ);have Hk1:=U (pX.trans (Kept.of_below aJ));have H2:=U (fM.mono pX.size);clear hA jY pX fM aJ;go_wp2_with (at_builtin;refine wpList_append_run _ _ iT rfl rfl rfl rfl ?_);go_ret;rw[e1.o.1,e1.o.2.1,e1.o.2.2];exact⟨A1,c1,k,rfl,by simp[fF],H2.o,Hr1.o,Hk1.o⟩
 ·have e1:=U (show wO l k=[]∧xH l k=[]∧CQ l k s=true by simp[wO,xH,CQ,fF])
  go_enter Tryz.func298,Tryz.ntmps298;go_wp2_with fail;refine(SS l s r k w Hr.o oQ).mono ?_;rintro e w1 ⟨rfl,jY,pX⟩;go_wp2;go_ret;rw[e1.o.1,e1.o.2.1,e1.o.2.2];exact⟨none,0,0,rfl,rfl,Own.nothing,jY,pX⟩
theorem DN (l:List UInt8) (s:Bool) (r:Nat) (w:World) (hr:aU w r l s):
  Calls Tryz.prog 327 #[.pointer (some ⟨r,0,none⟩)] w λe w'=>e=.returned (.int .i64 (l.length:Nat))∧w=w':=by
 obtain⟨A,c,hb,hA,hlc,Cn⟩:=hr;have c0:=cell_of_row w r 0 _ _ _ hb;simp only[qZ,zf] at c0;clear hb hA;go_enter Tryz.func327,Tryz.ntmps327;go_wp2;go_ret;exact⟨rfl,rfl⟩
theorem jZ {l:List UInt8} {s:Bool} {r:Nat} {z:Int} {w:World} (hr:aU w r l s) (v:Int) (m:List UInt8) (t:Bool) (hv:((num (wO l (cl z 8)):Nat):Int)=v) (hm:xH l (cl z 8)=m) (ht:CQ l (cl z 8) s=t):
  Calls Tryz.prog 299 #[.pointer (some ⟨r,0,none⟩),.int .i64 z] w λe w'=>e=.returned (.int .u64 v)∧aU w' r m t∧Kept r w w':=by
 subst hv hm ht;exact PY l s r z w hr
theorem Ir {l:List UInt8} {s:Bool} {r:Nat} {z:Int} {w:World} (hr:aU w r l s) (hl:l.length≤140737488000000) (b m:List UInt8) (t:Bool) (n:Nat) (hb:wO l z.toNat=b) (hm:xH l z.toNat=m) (ht:CQ l z.toNat s=t) (hn:b.length=n):
  Calls Tryz.prog 298 #[.pointer (some ⟨r,0,none⟩),.int .i64 z] w λe w'=>∃A c,e=.returned (.slice A n c)∧Own 5 w.heap.size w' A c (b.map aH)∧aU w' r m t∧Kept r w w':=by
 subst hb hm ht hn;refine(UF l s r z w hr hl).mono ?_;rintro e w' ⟨A,c,n,rfl,hn,hown,hr,hk⟩;subst hn;exact⟨A,c,rfl,hown,hr,hk⟩
def ahq (w:World) (n:Nat) (l:List UInt8) (e:Ending) (w':World):Prop:=
 ∃A c,e=.returned (.slice A n c)∧l.length=n∧Own 5 w.heap.size w' A c (l.map aH)∧Below w.heap.size w w'
theorem lX {l:List UInt8} {n:Nat} (nL:l.length=n) {w:World} {a:Option Addr} {c:Nat} (hn:n≤140737488000000) (hb:ay w a l) (z:Int) (x:Nat) (hx:x<18446744073709551616) (b:List UInt8) (m:Nat) (he:l++le (cl z 8) x=b) (hm:b.length=m):
  Calls Tryz.prog 118 #[.slice a n c,.int .i64 z,.int .u64 (x:Int)] w (ahq w m b):=by
 subst he hm;refine(adt l n nL w a c hn hb z x hx).mono ?_;rintro e w' ⟨A,c,n,rfl,hn,h⟩;subst hn;exact⟨A,c,rfl,rfl,h⟩
theorem uM {l:List UInt8} {n:Nat} (nL:l.length=n) {w:World} {a:Option Addr} {c:Nat} (hb:ay w a l) (z:Int) (b:List UInt8) (m:Nat) (he:field l (cl z 4096)=b) (hm:b.length=m):
  Calls Tryz.prog 119 #[.slice a n c,.int .i64 z] w (ahq w m b):=by
 subst he hm;refine(UD l n nL w a c hb z).mono ?_;rintro e w' ⟨A,c,n,rfl,hn,h⟩;subst hn;exact⟨A,c,rfl,rfl,h⟩
theorem aU.drewN {w:World} {r:Nat} {l:List UInt8} {s:Bool} (h:aU w r l s) (j:Nat):aU (w.drewN j) r l s:=h.below (below_drewN (zn _ _) j)
theorem ay.drewN {w:World} {a:Option Addr} {l:List UInt8} (h:ay w a l) (j:Nat):ay (w.drewN j) a l:=h.below (below_drewN (zn _ _) j)
end
end Go.Proofs.YtdjdpeadohobmaaGreatDoor
