/- A part of the walk below the law: what is proved here is used by later parts; no further condition. -/
import Derived.Test.YtdjdpeadohobmaaGreatDoorK03
import Derived.Test.YtdjdpeadohobmaaGreatDoorK07
import Derived.Test.YtdjdpeadohobmaaGreatDoorK24
set_option linter.unusedVariables false
set_option linter.unusedSimpArgs false
set_option maxRecDepth 100000
set_option maxHeartbeats 20000000
namespace Go.Proofs.YtdjdpeadohobmaaGreatDoor
def aG (l:Bytes) (n:Nat):Bool:=(l.getD (n / 8) 0).toNat.testBit (n%8)
def I8 (l:Bytes) (n:Nat):Bytes:=l.set (n / 8) (UInt8.ofNat ((l.getD (n / 8) 0).toNat^^^(2^(n%8))))
def aY (l:Bytes) (n:Nat) (t:Bool):Bytes:=if aG l n=t then l else I8 l n
theorem Kz (l:Bytes) (n:Nat):(I8 l n).length=l.length:=by unfold I8;rw[List.length_set]
theorem jc (l:Bytes) (n:Nat) (t:Bool):(aY l n t).length=l.length:=by
 unfold aY
 split
 ·rfl
 ·exact Kz l n
theorem QT (x k m:Nat) (hm:m<8):(UInt8.ofNat (x^^^(2^k))).toNat.testBit m=(x.testBit m !=decide (k=m)):=by
 rw[UInt8.toNat_ofNat',Nat.testBit_mod_two_pow,Nat.testBit_xor,Nat.testBit_two_pow];simp[hm]
theorem Ny {l:Bytes} {n:Nat} (h:n / 8<l.length) (m:Nat):aG (I8 l n) m=if m=n then !aG l n else aG l m:=by
 unfold aG I8;by_cases h8:m / 8=n / 8
 ·rw[h8,List.getD_eq_getElem?_getD (l:=l.set _ _),List.getElem?_set_self h,Option.getD_some,QT _ _ _ (Nat.mod_lt _ (by decide))]
  by_cases Il:m=n
  ·subst Il
   rw[if_pos rfl];simp
  ·rw[if_neg Il]
   have:¬(n%8=m%8):=by omega
   simp[this]
 ·rw[List.getD_eq_getElem?_getD (l:=l.set _ _),List.getElem?_set_ne (λe=>h8 e.symm),if_neg (by rintro rfl;exact h8 rfl),←List.getD_eq_getElem?_getD]
theorem bM {l:Bytes} {n:Nat} (h:n / 8<l.length) (t:Bool) (m:Nat):aG (aY l n t) m=if m=n then t else aG l m:=by
 unfold aY
 split
 ·rename_i e
  split
  ·rename_i e2
   rw[e2,e]
  ·rfl
 ·rename_i e
  rw[Ny h]
  split
  ·cases t<;>cases hb:aG l n<;>simp_all
  ·rfl
def cnt (l:Bytes):Nat→Nat
 |0=>0
 |e+1=>cnt l e+if aG l e then 1 else 0
theorem I9 {l l':Bytes}:∀{e:Nat},(∀m,m<e→aG l m=aG l' m)→cnt l e=cnt l' e
 |0,_=>rfl
 |e+1,h=>by
  unfold cnt;rw[h e (by omega),I9 (e:=e) (λm hm=>h m (by omega))]
theorem Nz {l:Bytes}:∀{e:Nat},(∀m,m<e→aG l m=true)→cnt l e=e
 |0,_=>rfl
 |e+1,h=>by
  unfold cnt;rw[h e (by omega),Nz (e:=e) (λm hm=>h m (by omega))];rfl
theorem n_ {l l':Bytes} {n:Nat} (h0:aG l n=false) (h1:aG l' n=true) (h:∀m,m≠n→aG l' m=aG l m):∀{e:Nat},n<e→cnt l' e=cnt l e+1
 |e+1,hn=>by
  unfold cnt;by_cases dV:n=e
  ·subst dV
   rw[h0,h1,I9 (e:=n) (λm hm=>h m (by omega))];simp
  ·rw[n_ h0 h1 h (e:=e) (by omega),h e (λx=>dV x.symm)]
   omega
theorem o9 {l:Bytes}:∀{e:Nat},cnt l e<e→∃n,n<e∧aG l n=false∧∀m,m<n→aG l m=true
 |e,h=>by
  have:∃n,n<e∧aG l n=false:=by
   apply Classical.byContradiction;intro hn
   have:=Nz (l:=l) (e:=e) (λm hm=>by
    cases hb:aG l m
    ·exact absurd ⟨m,hm,hb⟩ hn
    ·rfl)
   omega
  obtain⟨n,h1,h2⟩:=this;have key:∀k n,n≤k→n<e→aG l n=false→∃n,n<e∧aG l n=false∧∀m,m<n→aG l m=true:=by
   intro k
   induction k with
   |zero=>exact λn hn h1 h2=>⟨n,h1,h2,λm hm=>by omega⟩
   |succ k ih=>
    intro n hn h1 h2;by_cases hx:∃m,m<n∧aG l m=false
    ·obtain⟨m,h3,h4⟩:=hx
     exact ih m (by omega) (by omega) h4
    ·exact⟨n,h1,h2,λm hm=>by
      cases hb:aG l m
      ·exact absurd ⟨m,hm,hb⟩ hx
      ·rfl⟩
  exact key n n (Nat.le_refl _) h1 h2
theorem kU (k n:Nat):aG (zeros k) n=false:=by
 unfold aG zeros;have:((List.replicate k (0:UInt8)).getD (n / 8) 0)=0:=by
  rw[List.getD_eq_getElem?_getD,List.getElem?_replicate]
  split<;>rfl
 rw[this];simp
theorem I_ (k:Nat):∀e,cnt (zeros k) e=0
 |0=>rfl
 |e+1=>by
  unfold cnt;rw[kU,I_ k e];simp
section
open Go.RowKit Go.Shelf O
def BU (B:Nat) (C:Nat→Bytes):Prop:=4≤B∧∀i,i<B→(C i).length=480
structure Base (v:World) (sp d B:Nat) (C:Nat→Bytes):Prop where
 p9:∃s cl F0 C0,lW v sp d s C0 cl F0∧s.B=B∧∀i,i<B→C0 i=C i
 few:4≤B∧B≤3840
 len:BU B C
 out:∀i,B≤i→C i=[]
theorem lW.dev {w:World} {sp d:Nat} {s:JS} {C:Nat→Bytes} {cl:Bool} {F:Nat→Prop} (h:lW w sp d s C cl F):∃vs,ah w d 74 vs:=by
 obtain⟨j,st,wt,Fj,h1,h2,h3,h4,h5,h6,h7⟩:=h;obtain⟨r,rb,t,pb,ob,Fd,f,g,h⟩:=h2;obtain⟨sb,ss,vw,xs,tb,cr,cw,cf,h⟩:=h.dev;exact⟨_,h.cells⟩
section
variable {v w w':World} {sp d B:Nat} {C:Nat→Bytes}
theorem Base.dev (h:Base v sp d B C):∃vs,ah v d 74 vs:=by
 obtain⟨s,cl,F0,C0,h1,h2⟩:=h.p9;exact h1.dev
theorem Base.yE (h:Base v sp d B C):d<v.heap.size:=by
 obtain⟨vs,hv⟩:=h.dev;exact hv.lt
theorem ED {L:Wl} (hC:BU B C) (hL:∀e∈L,e.1<4000∧e.2.length=480) (i:Nat) (hi:i<B):(dW C L i).length=480:=by
 unfold dW
 split
 ·rename_i e he
  exact(hL _ (qN he)).2
 ·exact hC.2 i hi
def cB (v w:World) (b sp d:Nat) (C E:Nat→Bytes) (n:Nat) (F:Nat→Prop):Prop:=∃L,uX v w b sp d C L true F∧dW C L=E∧L.length≤n
def up (n:Nat):Nat:=if n=0 then 0 else n+1
theorem NA (n:Nat):n≤up n:=by
 unfold up
 split<;>omega
def Ja (b Bk:Nat) (bits:Value) (mk:Bool):List Value:=[.pointer (some ⟨b,0,none⟩),.int .i64 Bk,bits,.bool mk]
def Bits (v w:World) (p:Nat) (Fb:Nat→Prop) (bits:Value) (mk:Bool) (B0 E0:Bytes):Prop:=
 (bits=.slice none 0 0∧mk=false∧B0=E0)∨∃g c,bits=.slice (some ⟨g,0,none⟩) 480 c∧Own 5 v.heap.size w (some ⟨g,0,none⟩) c (E0.map aH)∧E0.length=480∧¬Fb g∧g≠p∧(mk=false→B0=E0)
def ru (Fb:Nat→Prop) (p:Nat) (bits:Value):Nat→Prop:=λk=>Fb k∨k=p∨bits.ownBlock=some k
structure gX (v w:World) (p b sp d Bk:Nat) (C E:Nat→Bytes) (L:Wl) (q:Bool) (Fb:Nat→Prop) (bits:Value) (mk:Bool):Prop where
 cells:ah w p 132 (Ja b Bk bits mk)
 ge:v.heap.size≤p
 np:¬Fb p
 vN:uX v w b sp d C L q Fb
 bit:Bits v w p Fb bits mk (dW C L 0) (E 0)
 same:∀i,i≠0→dW C L i=E i
def Wk (v w:World) (p b sp d Bk:Nat) (C E:Nat→Bytes) (n:Nat) (F:Nat→Prop):Prop:=∃L q Fb bits mk,gX v w p b sp d Bk C E L q Fb bits mk∧(L.length≤n∧(n=0→mk=false))∧F=ru Fb p bits
section
variable {p b Bk n:Nat} {E:Nat→Bytes} {L:Wl} {q:Bool} {Fb F F':Nat→Prop} {bits:Value} {mk:Bool}
theorem eu {e:TypeId} {base:Nat} {w:World} {g c:Nat} {xs:List Value} (h:Own e base w (some ⟨g,0,none⟩) c xs):base≤g∧g<w.heap.size∧∃C,w.heap[g]? =some (.cells C e (0,0)):=by
 rcases h.2 with⟨hv,hn⟩|⟨g',cap,cur,hv,hb,hg,r⟩
 ·cases hv
 ·injection hv with hv
  injection hv with hv;injection hv with hv;subst hv;exact⟨hb,(zo.1 hg).1,cur,hg⟩
theorem gX.lt (h:gX v w p b sp d Bk C E L q Fb bits mk):∀k,ru Fb p bits k→v.heap.size≤k∧k<w.heap.size:=by
 rintro k (hk|rfl|hk)
 ·exact h.vN.lt k hk
 ·exact⟨h.ge,h.cells.lt⟩
 ·rcases h.bit with⟨h1,_⟩|⟨g,c,h1,h2,_⟩
  ·rw[h1] at hk
   cases hk
  ·rw[h1] at hk
   have hk:some g=some k:=hk;injection hk with hk;subst hk;exact⟨(eu h2).1,(eu h2).2.1⟩
theorem Wk.lt (h:Wk v w p b sp d Bk C E n F):∀k,F k→v.heap.size≤k∧k<w.heap.size:=by
 obtain⟨L,q,Fb,bits,mk,h1,h2,rfl⟩:=h;exact h1.lt
theorem Wk.quiet (h:Wk v w p b sp d Bk C E n F):Quiet d v w:=by
 obtain⟨L,q,Fb,bits,mk,h1,h2,rfl⟩:=h;exact h1.vN.quiet
theorem gX.len (h:gX v w p b sp d Bk C E L q Fb bits mk) (hC:BU B C) (i:Nat) (hi:i<B):(E i).length=480:=by
 by_cases h0:i=0
 ·subst h0
  rcases h.bit with⟨_,_,h1⟩|⟨g,c,_,_,h1,_⟩
  ·rw[←h1]
   exact ED hC h.vN.nodup.2 0 hi
  ·exact h1
 ·rw[←h.same i h0]
  exact ED hC h.vN.nodup.2 i hi
theorem gX.EF (h:gX v w p b sp d Bk C E L q Fb bits mk) (hC:BU B C):(E 0).length=480:=h.len hC 0 (by have:=hC.1;omega)
theorem Wk.len (h:Wk v w p b sp d Bk C E n F) (hC:BU B C) (i:Nat) (hi:i<B):(E i).length=480:=by
 obtain⟨L,q,Fb,bits,mk,h1,h2,rfl⟩:=h;exact h1.len hC i hi
theorem Wk.EF (h:Wk v w p b sp d Bk C E n F) (hC:BU B C):(E 0).length=480:=h.len hC 0 (by have:=hC.1;omega)
theorem Bits.keep {B0 E0:Bytes} (h:Bits v w p Fb bits mk B0 E0) (hk:∀g,bits.ownBlock=some g→w'.heap[g]? =w.heap[g]?):Bits v w' p Fb bits mk B0 E0:=by
 rcases h with h1|⟨g,c,h1,h2,h3⟩
 ·exact .inl h1
 ·refine .inr ⟨g,c,h1,⟨h2.1,?_⟩,h3⟩
  rcases h2.2 with⟨hv,hn⟩|⟨g',cap,cur,hv,hb,hg,r⟩
  ·exact .inl ⟨hv,hn⟩
  ·injection hv with e1 e2 e3
   injection e1 with e1;injection e1 with e1;subst e1 e3;exact .inr ⟨g,c,cur,by rw[e2],hb,(hk g (by rw[h1];rfl)).trans hg,r⟩
theorem gX.keep (h:gX v w p b sp d Bk C E L q Fb bits mk) (hk:∀k,ru Fb p bits k→w'.heap[k]? =w.heap[k]?) (hq:Quiet d v w') (hs:w.heap.size≤w'.heap.size):gX v w' p b sp d Bk C E L q Fb bits mk:=
 ⟨(hk p (.inr (.inl rfl))).trans h.cells,h.ge,h.np,h.vN.keep (λk h1=>hk k (.inl h1)) hq hs,h.bit.keep (λg hg=>hk g (.inr (.inr hg))),h.same⟩
theorem Wk.keep (h:Wk v w p b sp d Bk C E n F) (hk:∀k,F k→w'.heap[k]? =w.heap[k]?) (hq:Quiet d v w') (hs:w.heap.size≤w'.heap.size):Wk v w' p b sp d Bk C E n F:=by
 obtain⟨L,q,Fb,bits,mk,h1,h2,rfl⟩:=h;exact⟨L,q,Fb,bits,mk,h1.keep hk hq hs,h2,rfl⟩
theorem Wk.below (h:Wk v w p b sp d Bk C E n F) (hB:Below w.heap.size w w'):Wk v w' p b sp d Bk C E n F:=h.keep (λk hk=>hB.block k (h.lt k hk).2) (h.quiet.trans (Quiet.of_below hB)) hB.size
theorem Wk.mono {n':Nat} (h:Wk v w p b sp d Bk C E n F) (hn:n≤n'):Wk v w p b sp d Bk C E n' F:=by
 obtain⟨L,q,Fb,bits,mk,h1,h2,h3⟩:=h;exact⟨L,q,Fb,bits,mk,h1,⟨oQ,λe=>h2.2 oQ⟩,h3⟩
theorem Wk.mv (h:Wk v w p b sp d Bk C E n F) (hV:Base v sp d B C):Mv d v F w F w:=Mv.refl hV.dev h.quiet h.lt
theorem cB.keep (h:cB v w b sp d C E n F) (hk:∀k,F k→w'.heap[k]? =w.heap[k]?) (hq:Quiet d v w') (hs:w.heap.size≤w'.heap.size):cB v w' b sp d C E n F:=by
 obtain⟨L,h1,h2⟩:=h;exact⟨L,h1.keep hk hq hs,h2⟩
theorem cB.lt (h:cB v w b sp d C E n F):∀k,F k→v.heap.size≤k∧k<w.heap.size:=by
 obtain⟨L,h1,h2⟩:=h;exact h1.lt
theorem cB.quiet (h:cB v w b sp d C E n F):Quiet d v w:=by
 obtain⟨L,h1,h2⟩:=h;exact h1.quiet
theorem cB.mono {n':Nat} (h:cB v w b sp d C E n F) (hn:n≤n'):cB v w b sp d C E n' F:=by
 obtain⟨L,h1,h2,h3⟩:=h;exact⟨L,h1,h2,oQ⟩
theorem cB.below (h:cB v w b sp d C E n F) (hB:Below w.heap.size w w'):cB v w' b sp d C E n F:=h.keep (λk hk=>hB.block k (h.lt k hk).2) (h.quiet.trans (Quiet.of_below hB)) hB.size
theorem cB.mv (h:cB v w b sp d C E n F) (hV:Base v sp d B C):Mv d v F w F w:=Mv.refl hV.dev h.quiet h.lt
theorem cB.len (h:cB v w b sp d C E n F) (hC:BU B C) (i:Nat) (hi:i<B):(E i).length=480:=by
 obtain⟨L,h1,rfl,h2⟩:=h;exact ED hC h1.nodup.2 i hi
theorem cB.EF (h:cB v w b sp d C E n F) (hC:BU B C):(E 0).length=480:=h.len hC 0 (by have:=hC.1;omega)
end
end
end
section
open Go.RowKit Go.Shelf Go.Maps O
attribute [local go_sem] Oper.semAt_some
theorem rX {w:World} {l:Bytes} {a:Option Addr} (hl:l.length=480) (hb:cZ w a l) (c:Nat):
  Calls Tryz.prog 208 #[.slice a 480 c] w λe w'=>∃g c',e=.returned (.slice (some ⟨g,0,none⟩) 480 c')∧w.heap.size≤g∧Own 5 w.heap.size w' (some ⟨g,0,none⟩) c' (l.map aH)∧Below w.heap.size w w':=by
 rcases hb with rfl|⟨b,off,C,fr,rfl,h1,h2⟩
 ·cases hl
 refine(Tryz.bytes_Clone_at ⟨b,off,none⟩ 480 c (l.map n8) w (by simp[hl]) oQ (λi hi=>?_)).mono ?_
 ·have h3:=h2 i oQ
  have ha:(⟨b,off,none⟩:Addr).add i=⟨b,off+i,none⟩:=by
   unfold Addr.add;by_cases h0:i=0
   ·subst h0;simp
   ·simp[h0]
  rw[ha];unfold World.cell?;simp[h1,h3,z_,qb,zu (show i<l.length by omega)]
 ·rintro e w' ⟨v',rfl,ho,dV,hB⟩
  have hm:(l.map n8).map (Value.int .u8)=l.map aH:=by rw[List.map_map];rfl
  rw[hm] at ho;have hlen:(l.map aH).length=480:=by rw[zD,hl]
  rcases ho.2 with⟨_,h0⟩|⟨g,cap,cur,hv,jr,hg,JG,hx⟩
  ·cases h0
  ·subst hv
   refine⟨g,_,rfl,jr,?_,hB⟩;unfold Own;rw[hlen];exact ho
theorem Own.am9 {base:Nat} {w:World} {g c:Nat} {l:Bytes} (h:Own 5 base w (some ⟨g,0,none⟩) c (l.map aH)):jF w g l:=by
 rcases h.2 with⟨hv,_⟩|⟨g',cap,cur,hv,hb,hg,JG,Cn,vS,ht⟩
 ·cases hv
 ·injection hv with hv
  injection hv with hv;injection hv with hv;subst hv;refine⟨cur,(0,0),hg,λi hi=>?_⟩;have h3:(l.map aH)[i]? =some (.int .u8 (n8 l[i])):=by
   simp[zu hi,aH]
  rw[←h3]
  conv=>rhs;rw[←ht]
  rw[qh,if_pos (by rw[zD];omega),qw]
section
variable {v w:World} {b sp d B:Nat} {C:Nat→Bytes} {L:Wl} {q:Bool} {F:Nat→Prop}
def Got (v w:World) (b sp d:Nat) (C:Nat→Bytes) (L:Wl) (l:Bytes) (F:Nat→Prop) (g c:Nat) (w':World):Prop:=
 Own 5 w.heap.size w' (some ⟨g,0,none⟩) c (l.map aH)∧∃q' F',uX v w' b sp d C L q' F'∧¬F' g∧Mv d v F w F' w'
theorem VK (hV:Base v sp d B C) (h:uX v w b sp d C L q F) {id:Nat} (hi:id<B):
  Calls Tryz.prog 269 #[.pointer (some ⟨b,0,none⟩),.int .i64 id] w λe w'=>∃g c,e=.returned (.tuple #[.slice (some ⟨g,0,none⟩) 480 c,.int .i64 0])∧Got v w b sp d C L (dW C L id) F g c w':=by
 have hd:=hV.yE;have j_:=hV.dev;have gD:=hV.few;obtain⟨s,cl,F0,C0,hS,hsB,hC0⟩:=hV.p9;have hC0:=hC0 id hi;have iq:=h.quiet;have Vs:=h.lt;obtain⟨pw,sw,pt,st,am,T,h,hq⟩:=h;have hi4:id<4000:=oQ
 have c1:=h.cells.cell 1;have c2:=h.cells.cell 2;have c4:=h.cells.cell 4;simp only[jA,zf,zi] at c1 c2 c4;have hit:∀(g':Nat) (l:Bytes) (w':World) (g c:Nat),dW C L id=l→w.heap.size≤g→Own 5 w.heap.size w' (some ⟨g,0,none⟩) c (l.map aH)→Below w.heap.size w w'→Got v w b sp d C L (dW C L id) F g c w':=by
  intro g' l w' g c he hg ho hB;rw[he];refine⟨ho,q,F,⟨pw,sw,pt,st,am,T,h.below hB,hq⟩,λhf=>?_,Mv.of_below j_ iq Vs hB⟩;have:=(Vs g hf).2;omega
 have Hit:=U hit;have H:=U h;have HV:=U hV;have HS:=U hS;have Hq0:=U iq;have aus:=U Vs;clear hit hq hV hS iq Vs j_;rcases h.writes.look id hi4 with⟨hk,hf⟩|⟨g,c,l,hk,hf,hl,hg,tq⟩
 ·rcases h.told.look id hi4 with⟨eO,hf2⟩|⟨g,c,l,eO,hf2,hl,hg,tq⟩
  ·clear h
   go_enter Tryz.func269,Tryz.ntmps269;go_wp2_with fail;refine(aah hd HS.o H.o (by omega:id<s.B) oQ).mono ?_;rintro e w1 ⟨a,c,rfl,iA,am1,F1,h1,ht1⟩;rw[hC0] at iA;have hlc:(C id).length=480:=HV.o.len.2 id hi;have hu:dW C L id=C id:=by
    unfold dW;rw[hf]
   have H1:=U h1;have Ht1:=U ht1;have Hb1:=U iA;clear h1 ht1 iA c1 c2 c4 hk eO;go_wp2_with fail;refine wp_region_noPanic ?_;refine ak (S:=(λ_=>True)) (m:=7) kQ trivial (λaj=>?_);refine te 0 aj ?_;refine te 1 aj ?_;refine te 2 aj ?_;refine te 3 aj ?_;refine te 4 aj ?_;refine rE 5 λK hK=>?_;go_simp;with_reducible refine(rX hlc (Hb1.o.below (zn _ _).drew) c).mono ?_
   rintro e w2 ⟨g,cg,rfl,jr,hg,aJ⟩;have jr:w1.heap.size≤g:=jr;have aJ:=((zn w1.heap.size w1).drew).trans aJ;have HG:=U (And.intro jr (And.intro hg aJ));clear jr hg aJ;go_wp2_with fail;refine hK.out _ _ (λ_=>trivial) (λhS=>?_);have bQ:=hS dQ;clear hS hK K
   try simp only[Act.put,zh,zk,zl]
   refine rE 6 λK hK=>?_;go_simp;with_reducible refine(fQ.aum hd (H1.o.below HG.o.2.2) hi4 hlc HG.o.2.1.am9 (zC H1.o.quiet.size HG.o.1) rfl).mono ?_
   rintro e w3 ⟨rfl,m,vV,UZ,aiF⟩;have iB:=U (And.intro vV (And.intro UZ aiF));clear vV UZ aiF;go_wp2_with fail;refine hK.out _ _ (λ_=>trivial) (λhS=>?_);have bV:=hS dQ;clear hS hK K
   try simp only[Act.put,zh,zk,zl]
   refine aD ?_;have vJ:cZ w3 a (C id):=iB.o.2.2 _ _ (Hb1.o.below HG.o.2.2);go_wp2_with fail;refine(rX hlc vJ c).mono ?_;rintro e w4 ⟨g4,c4,rfl,hg4,QU,dX⟩;go_wp2_with fail;go_ret2;refine⟨g4,c4,rfl,?_⟩;rw[hu];obtain⟨vV,UZ,aiF⟩:=iB.o;obtain⟨jr,xM,aJ⟩:=HG.o;have Qq:uX v w3 b sp d C L false (λk=>F1 k∨k=g∨k=m):=⟨_,_,_,_,_,_,vV,λh=>by cases h⟩
   have ht:Turn v.heap.size F w (λk=>F1 k∨k=g∨k=m) w3:=by
    refine Ht1.o.trans (((Turn.of_below aJ v.heap.size F1).to (G':=λk=>F1 k∨k=g) (λk hk=>hk.imp (λh=>h) (λh=>oQ))).trans UZ)
   have hmv:Mv d v F w (λk=>F1 k∨k=g∨k=m) w3:=Mv.mk' HV.o.dev Hq0.o Qq.quiet aus.o Qq.lt ht;have hs:=hmv.size;refine⟨QU.mono oQ,false,_,Qq.below dX,λhf=>?_,hmv.below dX⟩;have:=(Qq.lt g4 hf).2;omega
  ·have he:dW C L id=l:=by
    unfold dW;rw[hf];have:=H.o.same _ (qN hf2);exact this.symm
   clear h;go_enter Tryz.func269,Tryz.ntmps269;go_wp2_with fail;refine(rX hl hg.pR c).mono ?_;rintro e w' ⟨g',c',rfl,jr,ho,hB⟩;go_wp2_with fail;go_ret2;exact⟨g',c',rfl,Hit.o g l w' g' c' he jr ho hB⟩
 ·have he:dW C L id=l:=by
   unfold dW;rw[hf]
  clear h;go_enter Tryz.func269,Tryz.ntmps269;go_wp2_with fail;refine(rX hl hg.pR c).mono ?_;rintro e w' ⟨g',c',rfl,jr,ho,hB⟩;go_wp2_with fail;go_ret2;exact⟨g',c',rfl,Hit.o g l w' g' c' he jr ho hB⟩
end
end
section
open Go.RowKit Go.Shelf O
attribute [local go_sem] Oper.semAt_some
section
variable {w:World} {a:Option Addr} {l:Bytes} {c n:Nat}
theorem EG (hn:n<3840):Calls Tryz.prog 212 #[.slice a 480 c,.int .i64 n] w λe w'=>e=.returned (.bool true)∧w'=w:=by
 go_enter Tryz.func212,Tryz.ntmps212;have Gc:(n:Int)<3840:=oQ
 go_wp2_with fail;go_ret;exact⟨by simp[Gc],rfl⟩
theorem VL (x k:Nat) (hx:x<256):(bits .and .u8 (((x:Nat):Int) / 2^k) 1==1)=x.testBit k:=by
 have h1:((x:Nat):Int) / 2^k=((x / 2^k:Nat):Int):=by
  rw[Int.natCast_ediv,Int.natCast_pow];rfl
 have h3:x / 2^k≤x:=Nat.div_le_self _ _;rw[h1];have h2:bits .and .u8 (((x / 2^k:Nat):Nat):Int) 1=((x / 2^k%2:Nat):Int):=by
  show IntKind.u8.wrap ((BitVec.ofInt 8 ((x / 2^k:Nat):Int)&&& BitVec.ofInt 8 1).toNat:Int)=_;have e1:(BitVec.ofInt 8 ((x / 2^k:Nat):Int)&&& BitVec.ofInt 8 1).toNat=x / 2^k%2:=by
   rw[BitVec.toNat_and,zaZ,za_,zaz oQ];exact Nat.and_one_is_mod _
  rw[e1];simp[IntKind.wrap,IntKind.signed,IntKind.bits];omega
 rw[h2,Nat.testBit_eq_decide_div_mod_eq];rw[q9,beq_iff_eq,decide_eq_true_iff];omega
theorem VO (x k:Nat) (hx:x<256) (hk:k<8) (z:Int) (hz:z=((2^k:Nat):Int)):bits .xor .u8 ((x:Nat):Int) z=n8 (UInt8.ofNat (x^^^2^k)):=by
 subst hz;have h2:2^k<256:=by
  have:2^k≤2^7:=qQ dQ oQ;omega
 show IntKind.u8.wrap ((BitVec.ofInt 8 ((x:Nat):Int)^^^BitVec.ofInt 8 ((2^k:Nat):Int)).toNat:Int)=_;have e1:(BitVec.ofInt 8 ((x:Nat):Int)^^^BitVec.ofInt 8 ((2^k:Nat):Int)).toNat=x^^^2^k:=by
  rw[BitVec.toNat_xor,zaZ,zaZ,za_,za_,zaz hx,zaz h2]
 rw[e1];have h3:x^^^2^k<2^8:=Nat.xor_lt_two_pow oQ oQ;unfold n8;rw[zaK];simp[IntKind.wrap,IntKind.signed,IntKind.bits]
theorem aaj (hl:l.length=480) (hb:cZ w a l) (hn:n<3840):Calls Tryz.prog 213 #[.slice a 480 c,.int .i64 n] w λe w'=>e=.returned (.bool (aG l n))∧w'=w:=by
 rcases hb with rfl|⟨g,o,C,fr,rfl,h1,h2⟩
 ·cases hl
 have hq:n / 8<480:=oQ
 have h3:=h2 (n / 8) oQ;have hc:w.cell? ⟨g,o+n / 8,none⟩=some (.int .u8 (n8 l[n / 8])):=by
  unfold World.cell?;simp[h1,h3]
 have ha:(⟨g,o,none⟩:Addr).add (n / 8)=⟨g,o+n / 8,none⟩:=by unfold Addr.add;split<;>simp_all
 clear h1 h2 h3;go_enter Tryz.func213,Tryz.ntmps213;go_wp2_with fail;refine(EG hn).mono ?_;rintro e w' ⟨rfl,rfl⟩;go_wp2_with fail;go_ret;refine⟨?_,rfl⟩;have iA:=VL l[n / 8].toNat (n%8) l[n / 8].toNat_lt;have dh:aG l n=l[n / 8].toNat.testBit (n%8):=by
  unfold aG;rw[z_,zu oQ,zaf]
 rw[dh,←iA];rfl
theorem EH {base g:Nat} (ho:Own 5 base w (some ⟨g,0,none⟩) c (l.map aH)) (hl:l.length=480) (hn:n<3840) (t:Bool):Calls Tryz.prog 133 #[.slice (some ⟨g,0,none⟩) 480 c,.int .i64 n,.bool t] w λe w'=>e=.returned (.bool (!(aG l n==t)))∧Own 5 base w' (some ⟨g,0,none⟩) c ((aY l n t).map aH)∧Kept g w w':=by
 have hu:=ho.LH (n / 8);have hc:=ho.cell (n / 8) (by rw[zD];omega);have HO:=U ho;clear ho;go_enter Tryz.func133,Tryz.ntmps133;go_wp2_with fail;refine(EG hn).mono ?_;rintro e w' ⟨rfl,rfl⟩;go_wp2_with fail;refine(aaj hl HO.o.pR hn).mono ?_;rintro e w' ⟨rfl,rfl⟩;have hw:w'.cell? ⟨g,n / 8,none⟩=some (aH l[n / 8]):=by
  rw[hc,zaJ]
 clear hc;unfold aH at hw;by_cases hb:aG l n=t
 ·subst hb
  have hbe:(aG l n==aG l n)=true:=sQ
  go_wp2_with fail;go_ret;unfold aY;rw[if_pos rfl,hbe];exact⟨rfl,HO.o,Kept.refl _ _⟩
 ·have hbe:(aG l n==t)=false:=by simp[hb]
  have Hb:=U hb;clear hb;go_wp2_with fail;have hu2:=(HO.o.keep (zn _ _).drew).LH (n / 8);have e1:IntKind.i64.wrap ((n:Int) / 8)=(n:Int) / 8:=by rw[zG];omega
  have e2:IntKind.i64.wrap ((n:Int)%8)=(n:Int)%8:=by rw[zG];omega
  have e3:(n:Int) / 8<480:=oQ
  have e4:0≤(n:Int) / 8:=oQ
  have e5:((n:Int) / 8).toNat=n / 8:=oQ
  have e6:0≤(n:Int)%8:=oQ
  have e7:((n:Int)%8).toNat=n%8:=oQ
  have e8:(n:Int).tmod 8=(n:Int)%8:=Int.tmod_eq_emod_of_nonneg oQ;have e9:(n:Int)%8≤8:=oQ
  refine wp_region_noPanic ?_;refine ak (S:=(λW=>W.cell? ⟨g,n / 8,none⟩=some (.int .u8 (n8 l[n / 8])))) (m:=10) kQ hw (λaj=>?_);refine te 0 aj ?_;refine te 1 aj ?_;refine te 2 aj ?_;refine te 3 aj ?_;refine te 4 aj ?_;refine te 5 aj ?_;refine te 6 aj ?_;refine te 7 aj ?_;refine te 8 aj ?_;refine te 9 aj ?_;refine rE 10 λK hK=>?_;go_simp;refine kX hK ?_;clear hK K
  try simp only[Act.put,zh,zk,zl]
  refine aD ?_;go_wp2_with fail;go_ret;have hx:=l[n / 8].toNat_lt;have Po:n%8<8:=oQ
  have hpw:(2:Nat)^(n%8)<256:=by
   have:(2:Nat)^(n%8)≤2^7:=qQ dQ oQ;omega
  have hz:IntKind.u8.wrap ((2:Int)^(n%8))=((2^(n%8):Nat):Int):=by
   have h1:((2:Int)^(n%8))=((2^(n%8):Nat):Int):=by rw[Int.natCast_pow];rfl
   rw[h1];clear h1;generalize (2:Nat)^(n%8)=q at hpw;simp[IntKind.wrap,IntKind.signed,IntKind.bits];omega
  have hv:=VO l[n / 8].toNat (n%8) hx Po _ hz;have pW:bits BinOp.xor IntKind.u8 (n8 l[n / 8]) (IntKind.u8.wrap (2^(n%8)))=n8 (UInt8.ofNat (l[n / 8].toNat^^^2^(n%8))):=hv;rw[pW];have kM:=HO.o.set (n / 8) (aH (UInt8.ofNat (l[n / 8].toNat^^^2^(n%8))));have hf:aY l n t=l.set (n / 8) (UInt8.ofNat (l[n / 8].toNat^^^2^(n%8))):=by
   unfold aY I8;rw[if_neg Hb.o,z_,zu oQ,zaf]
  rw[hf];refine⟨?_,?_,?_⟩
  ·show Ending.returned (.bool true)=_
   rw[hbe];rfl
  ·rw[List.map_set]
   exact kM.keep (zn _ _).drew
  ·exact(Kept.setCell _ _ _).trans (Kept.of_below (zn _ _).drew)
theorem VP {base g Bk m:Nat} (ho:Own 5 base w (some ⟨g,0,none⟩) c (l.map aH)) (hl:l.length=480) (hB:Bk≤3840) (hm:m<Bk) (Pt:aG l m=false) (eD:∀k,k<m→aG l k=true):
  Calls Tryz.prog 322 #[.slice (some ⟨g,0,none⟩) 480 c,.int .i64 Bk] w λe w'=>e=.returned (.tuple #[.int .i64 m,.bool true])∧Own 5 base w' (some ⟨g,0,none⟩) c ((aY l m true).map aH)∧Kept g w w':=by
 have HO:=U ho;have H1:=U eD;clear ho eD;have vL:min (Bk:Int) 3840=Bk:=oQ
 go_enter Tryz.func322,Tryz.ntmps322;go_wp2_with fail;go_loopw [9] (λv wr=>∃(k:Nat),k≤m∧v=.int .i64 k∧Own 5 base wr (some ⟨g,0,none⟩) c (l.map aH)∧Kept g w wr) (λv _=>m - (intOf v).toNat)
 case atStart=>exact⟨0,oQ,rfl,HO.o,Kept.refl _ _⟩
 case round=>
  obtain⟨k,hk,rfl,ho,iX⟩:=hrel;have HOk:=U ho;have HKk:=U iX;clear ho iX;have Pj:(k:Int)<Bk:=oQ
  go_wp2_with fail;refine(EH HOk.o hl (by omega:k<3840) true).mono ?_;rintro e w1 ⟨rfl,Yn,pX⟩;have HO1:=U Yn;have HK1:=U (HKk.o.trans pX);clear Yn pX;by_cases U_:k<m
  ·have hb:aG l k=true:=H1.o k U_
   have hf:(!(aG l k==true))=false:=by rw[hb];rfl
   have kM:aY l k true=l:=by unfold aY;rw[if_pos hb]
   have Zg:=U kM;clear kM;rw[hf];go_wp2_with fail;refine⟨⟨k+1,oQ,by go_num,?_,HK1.o⟩,by simp[intOf];omega⟩;have:=HO1.o;rw[Zg.o] at this;exact this
  ·obtain rfl:k=m:=oQ
   have hf:(!(aG l k==true))=true:=by rw[Pt];rfl
   rw[hf];go_wp2_with fail;go_ret2;exact⟨rfl,HO1.o,HK1.o⟩
theorem aal (w:World):Calls Tryz.prog 64 #[] w λe w'=>∃g,e=.returned (.slice (some ⟨g,0,none⟩) 480 480)∧w.heap.size≤g∧Own 5 w.heap.size w' (some ⟨g,0,none⟩) 480 ((zeros 480).map aH)∧Below w.heap.size w w':=by
 obtain⟨w1,hr,ho,hB,hz⟩:=eT (P:=Tryz.prog) bD (base:=w.heap.size) (w:=w) .i64 .i64 480 oQ oQ (zm _);have hr:(Instr.makeSlice 22 (.int .i64 480) (.int .i64 480)).run Tryz.prog w=.ok (.slice (some ⟨w.heap.size,0,none⟩) 480 480) w1:=hr;rw[eB] at ho;have HF:=U (And.intro ho hB);clear ho hB;go_enter Tryz.func64,Tryz.ntmps64;go_wp2_with fail;go_ret;exact⟨_,rfl,zm _,HF.o⟩
end
end
section
open Go.RowKit Go.Shelf Go.Maps O
attribute [local go_sem] Oper.semAt_some
theorem aam (a:Option Addr) (n c:Nat) (w:World):(binOp .eql 22 (.slice a n c) (.slice none 0 0)).run Tryz.prog w=.ok (.bool a.isNone) w:=by
 simp[binOp,Go.run_equal_slice_nil w 22 5 a n c Tryz.underlying22,Result.andThen]
theorem mH (w:World):Calls Tryz.prog 136 #[.int .i64 0] w λe w'=>(∃x,e=.returned x)∧w'=w:=by
 go_enter Tryz.func136,Tryz.ntmps136;go_wp2_with fail;go_end0;exact⟨⟨_,rfl⟩,rfl⟩
theorem o_ (w:World):Calls Tryz.prog 227 #[.bool true] w λe w'=>(∃x,e=.returned x)∧w'=w:=by
 go_enter Tryz.func227,Tryz.ntmps227;go_wp2_with fail;go_end0;exact⟨⟨_,rfl⟩,rfl⟩
section
variable {v w w':World} {sp d B p b Bk n:Nat} {C E:Nat→Bytes} {L:Wl} {q:Bool} {Fb F F':Nat→Prop} {bits:Value} {mk:Bool}
theorem gX.anm (h:gX v w p b sp d Bk C E L q Fb bits mk) (hm:Mv d v Fb w F' w') {L':Wl} {q':Bool} {E':Nat→Bytes} (hb:uX v w' b sp d C L' q' F') (yF:Bits v w p Fb bits mk (dW C L' 0) (E' 0)) (hs:∀i,i≠0→dW C L' i=E' i):
  gX v w' p b sp d Bk C E' L' q' F' bits mk∧Mv d v (ru Fb p bits) w (ru F' p bits) w':=by
 have TG:∀g,bits.ownBlock=some g→g<w.heap.size∧w'.heap[g]? =w.heap[g]?∧¬F' g:=λg hg=>by
  rcases yF with⟨h1,_⟩|⟨g',c,h1,h2,h3,h4,h5⟩
  ·rw[h1] at hg
   cases hg
  ·rw[h1] at hg
   have hg:some g'=some g:=hg;injection hg with hg;subst hg;obtain⟨x1,x2,cur,x3⟩:=eu h2;exact⟨x2,hm.keep x2 (hm.Ky x3 dQ) h4,hm.apart x2 h4⟩
 have ano:Bits v w' p F' bits mk (dW C L' 0) (E' 0):=by
  have h1:=yF.keep (w':=w') (λg hg=>(TG g hg).2.1);rcases h1 with h1|⟨g,c,h1,h2,h3,h4,h5⟩
  ·exact .inl h1
  ·exact .inr ⟨g,c,h1,h2,h3,(TG g (by rw[h1];rfl)).2.2,h5⟩
 have hW:gX v w' p b sp d Bk C E' L' q' F' bits mk:=⟨hm.aW h.cells dQ h.np,h.ge,hm.apart h.cells.lt h.np,hb,ano,hs⟩
 refine⟨hW,hm.more (λk hk=>.inl hk) h.lt (λk hk=>?_)⟩;rcases hk with hk|hk|hk
 ·exact .inr (.inl hk)
 ·exact .inl (.inr (.inl hk))
 ·exact .inl (.inr (.inr hk))
theorem ND (hV:Base v sp d B C) (h:gX v w p b sp d Bk C E L q Fb bits mk) {id:Nat} (hi:id<B):
  Calls Tryz.prog 214 #[.pointer (some ⟨p,0,none⟩),.int .i64 id] w λe w'=>∃g c,e=.returned (.slice (some ⟨g,0,none⟩) 480 c)∧Own 5 w.heap.size w' (some ⟨g,0,none⟩) c ((dW C L id).map aH)∧
   ∃q' Fb',gX v w' p b sp d Bk C E L q' Fb' bits mk∧¬Fb' g∧Mv d v (ru Fb p bits) w (ru Fb' p bits) w':=by
 have c0:=h.cells.cell 0;simp only[Ja,zf] at c0;have H:=U h;have HV:=U hV;clear h hV;go_enter Tryz.func214,Tryz.ntmps214;go_wp2_with fail;refine(VK HV.o H.o.vN hi).mono ?_;rintro e w1 ⟨g,c,rfl,ho,q1,F1,iA,FZ,eD⟩;obtain⟨h1,hm⟩:=H.o.anm eD iA H.o.bit H.o.same;have HF:=U (And.intro ho (And.intro h1 (And.intro FZ hm)));clear ho iA FZ eD h1 hm c0;go_wp2_with fail;refine(mH _).mono ?_;rintro e w' ⟨⟨x,rfl⟩,rfl⟩;go_wp2_with fail;go_ret;exact⟨g,c,rfl,HF.o.1,q1,F1,HF.o.2.1,HF.o.2.2.1,HF.o.2.2.2⟩
theorem uY (hV:Base v sp d B C) (h:Wk v w p b sp d Bk C E n F) {id:Nat} (h0:id≠0) (hi:id<B):
  Calls Tryz.prog 214 #[.pointer (some ⟨p,0,none⟩),.int .i64 id] w λe w'=>∃g c,e=.returned (.slice (some ⟨g,0,none⟩) 480 c)∧Own 5 w.heap.size w' (some ⟨g,0,none⟩) c ((E id).map aH)∧
   ∃F',Wk v w' p b sp d Bk C E n F'∧¬F' g∧Mv d v F w F' w':=by
 obtain⟨L,q,Fb,bits,mk,h1,h2,rfl⟩:=h;refine(ND hV h1 hi).mono ?_;rintro e w' ⟨g,c,rfl,ho,q',Fb',h3,h4,h5⟩;rw[h1.same id h0] at ho;refine⟨g,c,rfl,ho,_,⟨L,q',Fb',bits,mk,h3,h2,rfl⟩,?_,h5⟩;have xW:=(eu ho).1;rintro(hk|hk|hk)
 ·exact h4 hk
 ·have:=h1.cells.lt
  omega
 ·have:=(h1.lt g (.inr (.inr hk))).2
  omega
theorem pq (hV:Base v sp d B C) (h:gX v w p b sp d Bk C E L q Fb bits mk) {id c:Nat} {a:Option Addr} {l:Bytes} (hi:id<4000) (hl:l.length=480) (ha:cZ w a l) {E':Nat→Bytes} (yF:Bits v w p Fb bits mk (dW C (jN L id l) 0) (E' 0)) (hs:∀i,i≠0→dW C (jN L id l) i=E' i):
  Calls Tryz.prog 137 #[.pointer (some ⟨p,0,none⟩),.int .i64 id,.slice a 480 c] w λe w'=>(∃x,e=.returned x)∧
   ∃Fb',gX v w' p b sp d Bk C E' (jN L id l) q Fb' bits mk∧Mv d v (ru Fb p bits) w (ru Fb' p bits) w':=by
 have c0:=h.cells.cell 0;simp only[Ja,zf] at c0;have H:=U h;have HV:=U hV;have Hb:=U yF;have Hs:=U hs;have HA:=U ha;clear h hV yF hs ha;go_enter Tryz.func137,Tryz.ntmps137;go_wp2_with fail;refine(QS HV.o.yE H.o.vN hi hl HA.o).mono ?_;rintro e w1 ⟨rfl,F1,iA,ht1⟩;obtain⟨h1,hm⟩:=H.o.anm (Mv.mk' HV.o.dev H.o.vN.quiet iA.quiet H.o.vN.lt iA.lt ht1) iA Hb.o Hs.o;have HF:=U (And.intro h1 hm);clear iA ht1 h1 hm c0;go_wp2_with fail;refine(mH _).mono ?_;rintro e w' ⟨⟨x,rfl⟩,rfl⟩;go_wp2_with fail;go_end0;exact⟨⟨_,rfl⟩,F1,HF.o⟩
theorem xg (hV:Base v sp d B C) (h:Wk v w p b sp d Bk C E n F) {id c:Nat} {a:Option Addr} {l:Bytes} (h0:id≠0) (hi:id<4000) (hl:l.length=480) (ha:cZ w a l):
  Calls Tryz.prog 137 #[.pointer (some ⟨p,0,none⟩),.int .i64 id,.slice a 480 c] w λe w'=>(∃x,e=.returned x)∧
   ∃F',Wk v w' p b sp d Bk C (λi=>if i=id then l else E i) (n+1) F'∧Mv d v F w F' w':=by
 obtain⟨L,q,Fb,bits,mk,h1,h2,rfl⟩:=h;have h00:(0:Nat)≠id:=λe=>h0 e.symm;refine(pq hV h1 hi hl ha (E':=λi=>if i=id then l else E i) ?_ (λi jQ=>?_)).mono ?_
 ·rw[uV]
  simp only[if_neg h00];exact h1.bit
 ·rw[uV]
  by_cases hh:i=id
  ·simp[hh]
  ·simp only[if_neg hh]
   exact h1.same i jQ
 ·rintro e w' ⟨hx,Fb',h3,h4⟩
  refine⟨hx,_,⟨_,q,Fb',bits,mk,h3,⟨?_,λe=>absurd e (Nat.succ_ne_zero n)⟩,rfl⟩,h4⟩;have h2:=h2.1;rw[oZ h1.vN.nodup.1]
  split<;>omega
theorem uZ (hV:Base v sp d B C) (h:Wk v w p b sp d Bk C E n F):
  Calls Tryz.prog 134 #[.pointer (some ⟨p,0,none⟩)] w λe w'=>∃g c,e=.returned (.slice (some ⟨g,0,none⟩) 480 c)∧
   ∃L q Fb mk,gX v w' p b sp d Bk C E L q Fb (.slice (some ⟨g,0,none⟩) 480 c) mk∧(L.length≤n∧(n=0→mk=false))∧Mv d v F w (ru Fb p (.slice (some ⟨g,0,none⟩) 480 c)) w':=by
 obtain⟨L,q,Fb,bits,mk,h,hn,rfl⟩:=h;have c2:=h.cells.cell 2;simp only[Ja,zf,zi] at c2;have heq:=aam;rcases h.bit with⟨iA,dh,vV⟩|⟨g,c,iA,dh,vV,oU,kS,Gf⟩
 ·subst iA
  have H:=U h;have HV:=U hV;have h0B:0<B:=by have:=hV.few;omega
  clear h hV;go_enter Tryz.func134,Tryz.ntmps134;go_wp2_with fail;refine(ND HV.o H.o h0B).mono ?_;rintro e w1 ⟨g,c,rfl,ho,q1,F1,h1,FZ,eD⟩;have f2:=h1.cells.free 2;have k2:=h1.cells.cell 2;simp only[Ja,zf,zi] at k2;have pW:=h1.cells.aB 2 (.slice (some ⟨g,0,none⟩) 480 c);have MN:g≠p:=by
   have:=(eu ho).1;have:=H.o.cells.lt;omega
  have hk:=Kept.setCell (r:=p) w1 2 (.slice (some ⟨g,0,none⟩) 480 c);obtain⟨w2,iy⟩:∃w2,w1.setCell ⟨p,2,none⟩ (.slice (some ⟨g,0,none⟩) 480 c)=w2:=⟨_,rfl⟩
  rw[iy] at pW hk;have j2:=pW.cell 2;simp only[Ja,zk,zl,zf,zi] at j2;have vK:Own 5 v.heap.size w2 (some ⟨g,0,none⟩) c ((dW C L 0).map aH):=(ho.mono H.o.vN.quiet.size).kept hk (λg' lQ=>by injection lQ with lQ;injection lQ with lQ;subst lQ;exact MN);have bC:Mv d v (ru Fb p (.slice none 0 0)) w (ru F1 p (.slice none 0 0)) w2:=eD.kept hk (.inl (.inr (.inl rfl)));have AP:(E 0).length=480:=H.o.EF HV.o.len;have Pv:∀k,F1 k→k≠p:=λk hk e=>h1.np (e▸hk)
  have hW:gX v w2 p b sp d Bk C E L q1 F1 (.slice (some ⟨g,0,none⟩) 480 c) mk:=
   ⟨pW,h1.ge,h1.np,h1.vN.keep (λk eO=>hk.block k (h1.vN.lt k eO).2 (Pv k eO)) bC.q' hk.size,.inr ⟨g,c,rfl,by rw[←vV];exact vK,AP,FZ,MN,λ_=>vV⟩,h1.same⟩
  have jr:=(eu ho)
  have dP:Mv d v (ru Fb p (.slice none 0 0)) w (ru F1 p (.slice (some ⟨g,0,none⟩) 480 c)) w2:=bC.more (λ_ h=>h) H.o.lt (λk eO=>by
   rcases eO with eO|eO|eO
   ·exact .inr (.inl (.inl eO))
   ·exact .inl (.inr (.inl eO))
   ·have eO:some g=some k:=eO
    injection eO with eO;subst eO;exact .inr (.inr ⟨jr.1,zx jr.2.1 hk.size⟩))
  have HF:=U (And.intro hW dP);clear ho h1 FZ eD pW hk vK bC hW dP jr Pv c2;go_wp2_with fail;clear iy f2 k2;go_wp2_with fail;go_ret;exact⟨g,c,rfl,L,q1,F1,mk,HF.o.1,hn,HF.o.2⟩
 ·subst iA
  have H:=U h;have HV:=U hV;clear h hV dh vV;go_enter Tryz.func134,Tryz.ntmps134;go_wp2_with fail;go_ret;exact⟨g,c,rfl,L,q,Fb,mk,H.o,hn,Mv.refl HV.o.dev H.o.vN.quiet H.o.lt⟩
end
end
end Go.Proofs.YtdjdpeadohobmaaGreatDoor
