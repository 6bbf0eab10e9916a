/- A part of the walk below the law: what is proved here is used by later parts; no further condition. -/
import Derived.Lib.AppendIntMem
import Derived.Lib.ConvBytes
import Derived.Lib.ItoaLen
import Derived.Lib.UnsafeStr
import Derived.Test.YtdjdpeadohobmaaGreatDoorK02
import Derived.Test.YtdjdpeadohobmaaGreatDoorK07
import Derived.Test.YtdjdpeadohobmaaGreatDoorK29
import Derived.Test.YtdjdpeadohobmaaGreatDoorK31
import Derived.Test.YtdjdpeadohobmaaGreatDoorK34
import Derived.Test.YtdjdpeadohobmaaGreatDoorK40
import Derived.Test.YtdjdpeadohobmaaGreatDoorK42
set_option linter.unusedVariables false
set_option linter.unusedSimpArgs false
set_option maxRecDepth 100000
set_option maxHeartbeats 20000000
namespace Go.Proofs.YtdjdpeadohobmaaGreatDoor
section
open Go.RowKit Go.Shelf Go.Maps O
attribute [local go_sem] Oper.semAt_some
def Ck (b:Nat) (l:Bytes) (w:World):Prop:=Lib.IsBuilder 65 5 b b (l.map aH) w
theorem Ck.keep {b d:Nat} {l:Bytes} {w w':World} {vs:List Value} (h:Ck b l w) (hq:Quiet d w w') (hd:ah w d 74 vs):Ck b l w':=by
 have key:∀p,Lib.BuilderAt 65 5 b b p (l.map aH) w→Lib.BuilderAt 65 5 b b p (l.map aH) w':=λp hb=>by
  obtain⟨hB,v,oI,hown,dV⟩:=hb;have ne:∀k C T fr,w.heap[k]? =some (.cells C T fr)→T≠74→k≠d:=λk C T fr h0 hT e=>by
   unfold ah at hd;rw[e,hd] at h0;injection h0 with h0;injection h0 with _ h0;exact hT h0.symm
  refine⟨hB,v,(hq.keep b (zo.1 oI).1 (ne _ _ _ _ oI dQ)).trans oI,⟨hown.1,?_⟩,dV⟩;rcases hown.2 with h|⟨g,cap,cur,h1,h2,h3,h4⟩
  ·exact .inl h
  ·exact .inr ⟨g,cap,cur,h1,h2,(hq.keep g (zo.1 h3).1 (ne _ _ _ _ h3 dQ)).trans h3,h4⟩
 rcases h with h|h
 ·exact .inl (key _ h)
 ·exact .inr (key _ h)
theorem Ck.nil {w:World}:Ck w.heap.size [] (w.alloc (.cells #[.pointer none,.slice none 0 0] 65)):=
 .inl ⟨zm _,.slice none 0 0,World.alloc_heap_new w _,⟨rfl,.inl ⟨rfl,rfl⟩⟩,by intro h;cases h⟩
theorem OW {b:Nat} {l s:Bytes} {w:World} (h:Ck b l w) (hlen:l.length+s.length≤1000000) (hb:b≤w.heap.size):
  Calls Tryz.prog 106 #[.pointer (some ⟨b,0,none⟩),.string ⟨s.toArray⟩] w λe w'=>(∃x,e=.returned x)∧Ck b (l++s) w'∧Below b w w'∧xR b w w':=by
 refine(CF b b (l.map aH) ⟨s.toArray⟩ w h (by rw[zD];show l.length+s.toArray.size≤_;simp;omega) hb).mono ?_;rintro e w' ⟨rfl,h1,h2,h3⟩;refine⟨⟨_,rfl⟩,.inr ?_,h2,h3⟩;rw[zW];exact h1
theorem OX {b g n c:Nat} {l s:Bytes} {w:World} (h:Ck b l w) (hs:cZ w (some ⟨g,0,none⟩) s) (hn:s.length=n) (hg:g<w.heap.size) (Pm:g≠b) (hlen:l.length+n≤1000000) (hb:b≤w.heap.size):
  Calls Tryz.prog 109 #[.pointer (some ⟨b,0,none⟩),.slice (some ⟨g,0,none⟩) n c] w λe w'=>(∃x,e=.returned x)∧Ck b (l++s) w'∧Below b w w'∧xR b w w':=by
 refine(FK b b n c (l.map aH) s ⟨g,0,none⟩ w h hn Pm (λj hj=>?_) hg (by rw[zD];omega) hb).mono ?_
 ·rcases hs with rfl|⟨g',o',Cc,fr,e1,e2,e3⟩
  ·exact absurd hj (Nat.not_lt_zero _)
  ·injection e1 with e1
   injection e1 with e1 e4;subst e1 e4;have:=e3 j hj;rw[show(⟨g,0,none⟩:Addr).add j=⟨g,0+j,none⟩ by unfold Addr.add;split<;>simp_all];unfold World.cell?;simp only[e2];exact this
 rintro e w' ⟨rfl,h1,h2,h3⟩;refine⟨⟨_,rfl⟩,.inr ?_,h2,h3⟩;rw[zW];exact h1
theorem OY {b:Nat} {l:Bytes} {w:World} (h:Ck b l w) (hlen:l.length≤1000000) (hb:b≤w.heap.size):
  Calls Tryz.prog 110 #[.pointer (some ⟨b,0,none⟩),.int .u8 10] w λe w'=>(∃x,e=.returned x)∧Ck b (l++[10]) w'∧Below b w w'∧xR b w w':=by
 refine(G9 b b (l.map aH) 10 w h (by rw[zD];omega) hb).mono ?_;rintro e w' ⟨rfl,h1,h2,h3⟩;refine⟨⟨_,rfl⟩,.inr ?_,h2,h3⟩;rw[zW];exact h1
theorem OZ {b:Nat} {l:Bytes} {w:World} (h:Ck b l w) (hb:b≤w.heap.size):
  Calls Tryz.prog 21 #[.pointer (some ⟨b,0,none⟩)] w λe w'=>e=.returned (.string ⟨l.toArray⟩)∧Below b w w':=Tryz.Builder_String_any b b l w h hb
theorem O1 {n:Nat} {w:World} (hn:n<1000000000) (hG:Glob w):Calls Tryz.prog 107 #[.int .i64 n] w λe w'=>e=.returned (.string ⟨(Lib.itoa (n:Int)).toArray⟩)∧Below w.heap.size w w':=by
 refine(Tryz.strconv_Itoa n oQ oQ w hG.pow).mono ?_;rintro e w' ⟨rfl,k,os,rfl⟩;exact⟨rfl,Lib.below_grow _ _ (zm _) _ _⟩
theorem sF (w:World):Calls Tryz.prog 38 #[.int .i64 0] w λe w'=>(∃x,e=.returned x)∧w'=w:=by
 go_enter Tryz.func38,Tryz.ntmps38;go_wp2_with fail;go_end0;exact⟨⟨_,rfl⟩,rfl⟩
theorem avQ (a b:Bytes):((⟨a.toArray⟩:ByteArray)++⟨b.toArray⟩)=⟨(a++b).toArray⟩:=by
 apply ByteArray.ext;simp[ByteArray.data_append]
theorem pO {a b c:Bytes} (h:a++b=c):((⟨a.toArray⟩:ByteArray)++⟨b.toArray⟩)=⟨c.toArray⟩:=by rw[avQ,h]
structure Dmp (v0 w wr:World) (d bb t:Nat) (sv:List Value):Prop where
 q:Quiet d v0 wr
 st:∀(k:Nat) (Cx:Array Value) (fr:Nat×Nat),w.heap[k]? =some (Obj.cells Cx 9 fr)→wr.heap[k]? =some (Obj.cells Cx 9 fr)
 sv:ah wr t 32 sv
theorem ah.ne {W:World} {d:Nat} {vs:List Value} (hd:ah W d 74 vs) {k:Nat} {Cx:Array Value} {T:TypeId} {fr:Nat×Nat} (h:W.heap[k]? =some (Obj.cells Cx T fr)) (hT:T≠74):k≠d:=λe=>by
 unfold ah at hd;rw[e,hd] at h;injection h with h;injection h with _ h;exact hT h.symm
theorem Ck.ne {W:World} {bb:Nat} {l:Bytes} (hb:Ck bb l W) {k:Nat} {Cx:Array Value} {T:TypeId} {fr:Nat×Nat} (h:W.heap[k]? =some (Obj.cells Cx T fr)) (hT:T≠65):k≠bb:=λe=>by
 rcases hb with h'|h'<;>
 ·obtain⟨_,v,oI,_⟩:=h'
  rw[e,oI] at h;injection h with h;injection h with _ h;exact hT h.symm
theorem Ck.lt {W:World} {bb:Nat} {l:Bytes} (hb:Ck bb l W):bb<W.heap.size:=by
 rcases hb with h|h<;>
 ·obtain⟨_,v,oI,_⟩:=h
  exact(zo.1 oI).1
theorem Dmp.quiet {v0 w wr w':World} {d bb t:Nat} {sv vs:List Value} (h:Dmp v0 w wr d bb t sv) (hq:Quiet d wr w') (hd:ah wr d 74 vs):Dmp v0 w w' d bb t sv:=
 ⟨h.q.trans hq,λk Cx fr h0=>(hq.keep k (zo.1 (h.st k Cx fr h0)).1 (hd.ne (h.st k Cx fr h0) dQ)).trans (h.st k Cx fr h0),(hq.keep t h.sv.lt (hd.ne h.sv dQ)).trans h.sv⟩
theorem Dmp.bld {v0 w wr w':World} {d bb t:Nat} {sv:List Value} {l:Bytes} (h:Dmp v0 w wr d bb t sv) (hb:Ck bb l wr) (QG:v0.heap.size≤bb) (hB:Below bb wr w') (hk:xR bb wr w'):Dmp v0 w w' d bb t sv:=by
 refine⟨⟨hB.os.trans h.q.os,hB.tape.trans h.q.tape,hB.output.trans h.q.output,zC h.q.size hB.size,λk pX hn=>(hB.block k oQ).trans (h.q.keep k pX hn),λvs hv=>?_⟩,λk Cx fr h0=>hk k Cx _ fr (hb.ne (h.st k Cx fr h0) dQ) (h.st k Cx fr h0) dQ,hk t _ _ _ (hb.ne h.sv dQ) h.sv dQ⟩;have eX:d<bb:=by have:=hv.lt;omega
 rcases h.q.dev vs hv with h1|⟨c,h1⟩
 ·exact .inl ((hB.block d eX).trans h1)
 ·exact .inr ⟨c,(hB.block d eX).trans h1⟩
section
variable {v0 v w:World} {fm d fb B P q nn bb:Nat} {C:Nat→Bytes} {cl yo:Bool} {op:Op} {G:Nat→Prop} {x f:Nd} {A T:nU} {s l:Bytes}
theorem abN {ln:Nat} (h0:fI v0 fb d B P q nn C cl yo op G) (iq:Quiet d v0 w) (hc:ah v0 fm 58 [.pointer (some ⟨d,0,none⟩),.pointer (some ⟨fb,0,none⟩)]) (hT:Tr C B x (A++(f,s)::T)) (hs:nm s=true) (Ap:f.c.length=ln) (hq:q<1000000) (hb:Ck bb l w) (QG:v0.heap.size≤bb) (hl:l.length≤300000) (aGL:ln≤122880):
  Calls Tryz.prog 39 #[.pointer (some ⟨fm,0,none⟩),.pointer (some ⟨bb,0,none⟩),.string ⟨(47::s).toArray⟩] w λe w'=>(∃x,e=.returned x)∧Ck bb (l++(((((((47::s)++[32,102,32])++Lib.itoa ((1:Nat):Int))++[32])++Lib.itoa (ln:Int))++[10])++f.c++[10])) w'∧Quiet d v0 w'∧∀(k:Nat) (Cx:Array Value) (fr:Nat×Nat),w.heap[k]? =some (Obj.cells Cx 9 fr)→w'.heap[k]? =some (Obj.cells Cx 9 fr):=by
 obtain⟨vd,hvd⟩:∃vd,ah w d 74 vd:=by
  obtain⟨n,st,wt,Fd,sb,ss,vw,xs,tb,cr,cw,cf,hD⟩:=(h0.quiet iq).1.dev;exact⟨_,hD.cells⟩
 have nI:bb<w.heap.size:=by
  rcases hb with h|h<;>
  ·obtain⟨_,v,oI,_⟩:=h
   exact(zo.1 oI).1
 have Hvd:=U hvd;clear hvd;have hcw:ah w fm 58 [.pointer (some ⟨d,0,none⟩),.pointer (some ⟨fb,0,none⟩)]:=by
  have hD:=h0.dev;obtain⟨n,st,wt,Fd,sb,ss,vw,xs,tb,cr,cw,cf,hD⟩:=hD
  exact(iq.keep fm hc.lt (λe=>by
   have h1:=hD.cells;unfold ah at h1 hc;rw[e,h1] at hc;injection hc with hc;injection hc with _ hc;exact absurd hc dQ)).trans hc
 have c1:=hcw.cell 1;simp only[zf,zi] at c1;have H0:=U h0;have Hq0:=U iq;have HT:=U hT;have Hs:=U hs;have Jr:=U Ap;have HB:=U hb;have HC:=U hcw;have Hc0:=U hc;have sS:fm≠d:=by
  obtain⟨n,st,wt,Fd,sb,ss,vw,xs,tb,cr,cw,cf,hD⟩:=h0.dev;exact hD.cells.ne hc dQ
 clear h0 iq hT hs Ap hb hcw hc;go_enter Tryz.func39,Tryz.ntmps39;go_wp2_with fail;refine(Xt (H0.o.quiet Hq0.o).1 HT.o hq Hs.o Jr.o).mono ?_;rintro e w1 ⟨rfl,h1, -,q1⟩;have Q1:=U (Hq0.o.trans q1);have QW1:=U q1;have hz1:=q1.size;obtain⟨w2,iy⟩:∃w2,w1.alloc (.cells #[.int .i64 1,.int .i64 1,.int .i64 ln] 32)=w2:=⟨_,rfl⟩
 have aJ:Below w1.heap.size w1 w2:=by rw[←iy];exact(zn _ _).alloc (zm _) _
 have x2:ah w2 w1.heap.size 32 [.int .i64 1,.int .i64 1,.int .i64 ln]:=by rw[←iy];exact ah.new _ _ _
 obtain⟨a0,a1,a2, -⟩:=ah.Sb x2;have X2:=U x2;have Q2:=U (Q1.o.trans (Quiet.of_below aJ));have QW2:=U (QW1.o.trans (Quiet.of_below aJ));have hz2:=aJ.size;clear aJ x2 q1 h1;go_wp2_with fail;refine(sF _).mono ?_;rintro e Gj ⟨⟨y,rfl⟩,rfl⟩;clear iy;go_wp2_with fail;have HA:=U (And.intro a1 a2);have Qn:s.length≤1000:=by
  have h:=Hs.o;unfold nm at h;rw[decide_eq_true_iff] at h;omega
 have Ij:(Lib.itoa ((1:Nat):Int)).length≤21:=Lib.itoa_length_le _ oQ oQ;have jQ:(Lib.itoa (ln:Int)).length≤21:=Lib.itoa_length_le _ oQ (by have:=(HT.o.Cz (s:=s) (f:=f) sQ).iW.few;have:=Jr.o;omega);obtain⟨I1,hI1⟩:∃I1,Lib.itoa ((1:Nat):Int)=I1:=⟨_,rfl⟩
 obtain⟨I2,hI2⟩:∃I2,Lib.itoa (ln:Int)=I2:=⟨_,rfl⟩
 rw[hI1] at Ij;rw[hI2] at jQ;obtain⟨S3,jd⟩:∃S3:Bytes,(47::s)++[32,102,32]=S3:=⟨_,rfl⟩
 have lS3:S3.length=s.length+4:=by rw[←jd];simp
 have sU:=U jd;clear jd;obtain⟨S7,uQ⟩:∃S7:Bytes,S3++I1=S7:=⟨_,rfl⟩
 have lS7:S7.length=S3.length+I1.length:=by rw[←uQ];simp
 have Kh:=U uQ;clear uQ;obtain⟨S8,Tz⟩:∃S8:Bytes,S7++[32]=S8:=⟨_,rfl⟩
 have lS8:S8.length=S7.length+1:=by rw[←Tz];simp
 have HS8:=U Tz;clear Tz;obtain⟨XD,O4⟩:∃XD:Bytes,S8++I2=XD:=⟨_,rfl⟩
 have avS:XD.length=S8.length+I2.length:=by rw[←O4];simp
 have afc:=U O4;clear O4;obtain⟨Sg,Ey⟩:∃Sg:Bytes,XD++[10]=Sg:=⟨_,rfl⟩
 have avT:Sg.length=XD.length+1:=by rw[←Ey];simp
 have afd:=U Ey;clear Ey;have HI1:=U hI1;have HI2:=U hI2;clear hI1 hI2;refine wp_region_noPanic ?_;refine ak (S:=(λW=>W.cell? ⟨w1.heap.size,1,none⟩=some (.int .i64 1)∧W.cell? ⟨w1.heap.size,2,none⟩=some (.int .i64 ln))) (m:=15) kQ ⟨a1,a2⟩ (λaj=>?_);refine te 0 aj ?_;refine te 1 aj ?_;refine te 2 aj ?_;refine te 3 aj ?_ (v:=(.string ⟨S3.toArray⟩)) (hy:=by intro W iR;(try dsimp only at iR);(go_simp;rw[if_neg oQ];exact congrArg (λz=>Result.ok (Next.value (Value.string z)) W) (pO sU.o)));refine te 4 aj ?_;refine te 5 aj ?_;refine te 9 aj ?_;refine te 10 aj ?_;refine rE 6 λK hK=>?_;go_simp;refine(O1 (n:=1) oQ ((H0.o.quiet (Q2.o.trans (Quiet.of_below (zn _ _).drew))).1.ge.2)).mono ?_;rintro e w3 ⟨rfl,bf⟩;rw[HI1.o];have bf:=((zn Gj.heap.size Gj).drew).trans bf;have iB:=U bf;go_wp2_with fail;refine hK.out _ _ (λ_=>⟨(bf.cell (p:=⟨w1.heap.size,1,none⟩) X2.o.lt).trans HA.o.1,(bf.cell (p:=⟨w1.heap.size,2,none⟩) X2.o.lt).trans HA.o.2⟩) (λhS=>?_);have bQ:=hS dQ;clear hS hK K
 try simp only[Act.put,zh,zk,zl]
 refine te 7 bQ ?_ (v:=(.string ⟨S7.toArray⟩)) (hy:=by intro W iR;(try dsimp only at iR);(go_simp;rw[if_neg oQ];exact congrArg (λz=>Result.ok (Next.value (Value.string z)) W) (pO Kh.o)));refine te 8 bQ ?_ (v:=(.string ⟨S8.toArray⟩)) (hy:=by intro W iR;(try dsimp only at iR);(go_simp;rw[if_neg oQ];exact congrArg (λz=>Result.ok (Next.value (Value.string z)) W) (pO HS8.o)));refine rE 11 λK hK=>?_;go_simp;refine(O1 (n:=ln) oQ ((H0.o.quiet (Q2.o.trans (Quiet.of_below iB.o))).1.ge.2)).mono ?_;rintro e w4 ⟨rfl,dX⟩;rw[HI2.o];have dX:=iB.o.trans (dX.mono iB.o.size);have lS:=U dX;go_wp2_with fail;refine hK.out _ _ (λ_=>⟨(dX.cell (p:=⟨w1.heap.size,1,none⟩) X2.o.lt).trans HA.o.1,(dX.cell (p:=⟨w1.heap.size,2,none⟩) X2.o.lt).trans HA.o.2⟩) (λhS=>?_);have bV:=hS dQ;clear hS hK K
 try simp only[Act.put,zh,zk,zl]
 refine te 12 bV ?_ (v:=(.string ⟨XD.toArray⟩)) (hy:=by intro W iR;(try dsimp only at iR);(go_simp;rw[if_neg oQ];exact congrArg (λz=>Result.ok (Next.value (Value.string z)) W) (pO afc.o)));refine te 13 bV ?_ (v:=(.string ⟨Sg.toArray⟩)) (hy:=by intro W iR;(try dsimp only at iR);(go_simp;rw[if_neg oQ];exact congrArg (λz=>Result.ok (Next.value (Value.string z)) W) (pO afd.o)));refine rE 14 λK hK=>?_;go_simp;have Ah:=lS.o.size;have QW4:=U (QW2.o.trans (Quiet.of_below lS.o));have X4:=U (X2.o.below lS.o);refine(OW (HB.o.keep QW4.o Hvd.o) oQ oQ).mono ?_;rintro e w5 ⟨⟨u,rfl⟩,kS,iJ,Jo⟩;have h5:w5.heap[w1.heap.size]? =_:=Jo _ _ _ _ oQ X4.o dQ;have H5:=U (And.intro kS (And.intro iJ (And.intro Jo h5)));go_wp2_with fail;refine hK.out _ _ (λ_=>⟨(zS (h5.trans X4.o.symm)).trans (ah.cell X4.o 1),(zS (h5.trans X4.o.symm)).trans (ah.cell X4.o 2)⟩) (λhS=>?_);have jd:=hS dQ;clear hS hK K
 try simp only[Act.put,zh,zk,zl]
 refine aD ?_;have X5:=U (show ah w5 w1.heap.size 32 [.int .i64 1,.int .i64 1,.int .i64 ln] from H5.o.2.2.2);have z0:=X5.o.cell 0;simp only[zf] at z0;have Ah:=lS.o.size;have BN:=H5.o.2.1.size;have Nw:Quiet d v0 w5:=by
  have hqa:=Q2.o.trans (Quiet.of_below lS.o);have iJ:=H5.o.2.1
  exact⟨iJ.os.trans hqa.os,iJ.tape.trans hqa.tape,iJ.output.trans hqa.output,zC hqa.size iJ.size,λk hk hn=>(iJ.block k oQ).trans (hqa.keep k hk hn),λvs hv=>by
   have eX:d<bb:=by have:=hv.lt;omega
   rcases hqa.dev vs hv with h|⟨c,h⟩
   ·exact .inl ((iJ.block d eX).trans h)
   ·exact .inr ⟨c,(iJ.block d eX).trans h⟩⟩
 have HQ5:=U Nw;have uG:∀(k:Nat) (Cx:Array Value) (fr:Nat×Nat),w.heap[k]? =some (Obj.cells Cx 9 fr)→w5.heap[k]? =some (Obj.cells Cx 9 fr):=λk Cx fr h=>by
  have hqw:=QW2.o.trans (Quiet.of_below lS.o);have hvd:=Hvd.o;have hkd:k≠d:=λe=>by
   unfold ah at hvd;rw[e,hvd] at h;injection h with h;injection h with _ h;exact absurd h dQ
  have hkb:k≠bb:=λe=>by
   rcases HB.o with h'|h'<;>
   ·obtain⟨_,v,oI,_⟩:=h'
    rw[e,oI] at h;injection h with h;injection h with _ h;exact absurd h dQ
  exact H5.o.2.2.1 k Cx _ fr hkb ((hqw.keep k (zo.1 h).1 hkd).trans h) dQ
 have xJ:=U uG;have HD5:=U (show Dmp v0 w w5 d bb w1.heap.size [.int .i64 1,.int .i64 1,.int .i64 ln] from⟨Nw,uG,X5.o⟩);have jR:=U H5.o.1;clear Nw uG;go_wp2_with fail;go_loopw [9] (λvv wr=>∃k:Nat,k≤ln+4096∧vv=.int .i64 k∧Dmp v0 w wr d bb w1.heap.size [.int .i64 1,.int .i64 1,.int .i64 ln]∧Ck bb ((l++Sg)++f.c.take k) wr) (λvv _=>ln+4096 - (intOf vv).toNat)
 case atStart=>exact⟨0,oQ,rfl,HD5.o,by simpa using jR.o⟩
 case round=>
  obtain⟨k,hk,rfl,hD,CW⟩:=hrel;have z2:=hD.sv.cell 2;have m1:=(show ah wr fm 58 [.pointer (some ⟨d,0,none⟩),.pointer (some ⟨fb,0,none⟩)] from(hD.q.keep fm Hc0.o.lt sS).trans Hc0.o).cell 1;simp only[zf,zi] at z2 m1;have HD:=U hD;have HBl:=U CW;clear hD CW;by_cases mW:k<ln
  ·have SH:(k:Int)<ln:=oQ
   obtain⟨lk,yh⟩:∃lk,min 4096 (f.c.length - k)=lk:=⟨_,rfl⟩
   have Hlk:=U yh;clear yh;go_wp2_with fail;refine(Xv (off:=k) (m:=4096) (H0.o.quiet HD.o.q).1 HT.o hq Hs.o (by have:=Jr.o;omega) oQ ⟨oQ,oQ⟩ Hlk.o).mono ?_;rintro e w6 ⟨g,rfl,dO,FZ,wQ,h6, -,q6⟩;obtain⟨vd',ajF⟩:∃vd,ah wr d 74 vd:=by
    obtain⟨n,st,wt,Fd,sb,ss,vw,xs,tb,cr,cw,cf,hD⟩:=(H0.o.quiet HD.o.q).1.dev;exact⟨_,hD.cells⟩
   have hD6:=HD.o.quiet q6 ajF;have lu:=HBl.o.keep q6 ajF;have avV:=HBl.o.lt;have U5:=q6.size;have H6:=U (And.intro hD6 (And.intro lu dO));clear hD6 lu dO h6 q6 ajF z2 m1;go_wp2_with fail;refine(sF _).mono ?_;rintro e w6' ⟨⟨y,rfl⟩,rfl⟩;have agY:((l++Sg)++f.c.take k).length+lk≤1000000:=by
    have:=Hlk.o;rw[zw,zw,zF];have:=Jr.o;omega
   have Fz:((f.c.drop k).take 4096).length=lk:=by
    rw[zF,zR];exact Hlk.o
   go_wp2_with fail;refine(OX (c:=lk) H6.o.2.1 H6.o.2.2 Fz wQ oQ agY oQ).mono ?_;rintro e w7 ⟨⟨y,rfl⟩,tK,tH,WO⟩;have hD7:=H6.o.1.bld H6.o.2.1 QG tH WO;have PS:IntKind.i64.wrap ((k:Int)+4096)=((k+4096:Nat):Int):=by rw[zG];omega
   have wI:(l++Sg)++f.c.take (k+4096)=((l++Sg)++f.c.take k)++(f.c.drop k).take 4096:=by
    rw[List.take_add,←zP]
   rw[←wI] at tK;have H7:=U (And.intro hD7 tK);clear hD7 tK tH WO wI agY Fz;go_wp2_with fail;go_roundw
   case rel=>exact⟨k+4096,oQ,by go_num,H7.o.1,H7.o.2⟩
   case measure=>simp[intOf];omega
  ·have iw:f.c.take k=f.c:=zy (by have:=Jr.o;omega)
   rw[iw] at HBl;go_wp2_with fail;have avV:=HBl.o.lt;refine(OY HBl.o (by rw[zw,zw];have:=Jr.o;omega) oQ).mono ?_;rintro e w7 ⟨⟨y,rfl⟩,tK,tH,WO⟩;have hD7:=HD.o.bld HBl.o QG tH WO;have H7:=U (And.intro hD7 tK);clear hD7 tK tH WO;go_wp2_with fail;go_end0;refine⟨⟨_,rfl⟩,?_,H7.o.1.q,H7.o.1.st⟩;have h:=H7.o.2;rw[HI1.o,HI2.o];rw[←afd.o,←afc.o,←HS8.o,←Kh.o,←sU.o] at h;simpa[zP] using h
end
end
section
open Go.RowKit Go.Shelf Go.Maps O
def G_ (fb d B P:Nat) (yo:Bool) (p:Nat→Nat→(Nat→Bytes)→Bool→Op→Prop):World→(Nat→Prop)→Prop:=λW F=>∃q nn C cl op,p q nn C cl op∧fI W fb d B P q nn C cl yo op F
theorem G_.stable {fb d B P:Nat} {yo:Bool} {p:Nat→Nat→(Nat→Bytes)→Bool→Op→Prop}:Stable (G_ fb d B P yo p):=by
 rintro W W' F G G' ⟨q,nn,C,cl,op,hp,h⟩ hs hn h5;exact⟨q,nn,C,cl,op,hp,h.step hs hn h5⟩
theorem G_.dev {fb d B P:Nat} {yo:Bool} {p:Nat→Nat→(Nat→Bytes)→Bool→Op→Prop}:R_ d (G_ fb d B P yo p):=by
 rintro W F ⟨q,nn,C,cl,op,hp,h⟩;exact⟨h.dev,h.ge.2.size,λk hk=>⟨h.ge.1 k hk,h.lt k hk⟩⟩
structure Gm (W:World) (fm d fb B P q nn:Nat) (C:Nat→Bytes) (cl yo:Bool) (op:Op) (F:Nat→Prop):Prop where
 cells:ah W fm 58 [.pointer (some ⟨d,0,none⟩),.pointer (some ⟨fb,0,none⟩)]
 fs:fI W fb d B P q nn C cl yo op F
 nf:¬F fm
 f5:5≤fm
def jh (v:World) (fm d fb B P:Nat) (yo:Bool) (F:Nat→Prop) (ec nc mc:Int) (p:Nat→Nat→(Nat→Bytes)→Bool→Op→Prop) (e:Ending) (w':World):Prop:=
 (∃a b c,e=.returned (.tuple #[dH ec nc mc,gY a b c]))∧∃q' kJ C' cl' op' F',p q' kJ C' cl' op'∧Gm w' fm d fb B P q' kJ C' cl' yo op' F'∧Step F v F' w'
section
variable {v w:World} {fm d fb B P q nn:Nat} {C:Nat→Bytes} {cl yo:Bool} {op:Op} {F:Nat→Prop} {ec nc mc gU:Int} {path:ByteArray} {data:Value} {x f:Nd} {A T fl:nU} {s dd:Bytes} {pt ga oa len cd i fd:Nat}
theorem Gm.below (h:Gm v fm d fb B P q nn C cl yo op F) (hB:Below v.heap.size v w):Gm w fm d fb B P q nn C cl yo op F:=⟨h.cells.below hB,h.fs.below hB,h.nf,h.f5⟩
theorem Gm.step {G G':Nat→Prop} (h:Gm v fm d fb B P q nn C cl yo op F) (hs:Step G v G' w) (hn:∀k,F k→¬G k) (hm:¬G fm) (ht:∀k,G k→5≤k):Gm w fm d fb B P q nn C cl yo op F:=⟨h.cells.step hs hm,h.fs.step hs hn ht,h.nf,h.f5⟩
theorem doF {p:Nat→Nat→(Nat→Bytes)→Bool→Op→Prop} {fn:Nat} (lN:∀args w,(callFunc fn args).run Tryz.prog w=.ok (.enter fn args) w) (hi:i<1000) (hk:∀φ,vC φ→φ i=some (xQ fn)) (h:Gm v fm d fb B P q nn C cl yo op F)
  (hp:∀W,Below v.heap.size v W→fI W fb d B P q nn C cl yo op F→(∀k,F k→k<W.heap.size)→5≤W.heap.size→Calls Tryz.prog fn #[.pointer (some ⟨fb,0,none⟩),bK i gU path data] W λe w'=>e=.returned (dH ec nc mc)∧∃F',G_ fb d B P yo p w' F'∧Step F W F' w'):
  Calls Tryz.prog 8 #[.pointer (some ⟨fm,0,none⟩),bK i gU path data] v λe w'=>jh v fm d fb B P yo F ec nc mc p e w':=by
 refine(ajC (Φ0:=G_ fb d B P yo (λq' kJ C' cl' op'=>True)) (Φ:=G_ fb d B P yo p) (F:=F) (ec:=ec) (nc:=nc) (mc:=mc) lN hi hk ⟨h.cells,⟨_,_,_,_,_,trivial,h.fs⟩,h.nf,h.f5⟩ G_.dev G_.dev G_.stable (λW hW=>?_)).mono ?_
 ·have hf:=h.fs.below hW
  exact hp W hW hf hf.lt hf.ge.2.size
 ·rintro e w' ⟨he,F',⟨h1,⟨q',kJ,C',cl',op',hp',h2⟩,h3,h4⟩,hs⟩
  exact⟨he,q',kJ,C',cl',op',F',hp',⟨h1,h2,h3,h4⟩,hs⟩
theorem vD (h:Gm v fm d fb B P q nn C cl yo op F) (hT:Tr C B x fl) (hq:q<1000000) (gD:fl.length≤2) (hs:nm s=true) (kZ:∀f∈fl,f.2≠s) (dx:cnt (C 0) B+1+need (32*(fl.length+1))≤B+need (32*fl.length)):
  Calls Tryz.prog 8 #[.pointer (some ⟨fm,0,none⟩),bK 1 gU ⟨(47::s).toArray⟩ data] v λe w'=>jh v fm d fb B P yo F 0 0 0 (λq' kJ C' cl' op'=>kJ=nn∧cl'=false∧op'=op∧(q≤q'∧q'≤q+1)∧∃x' m,Tr C' B x' (fl++[(⟨m,1,[],bN,0,aT⟩,s)])) e w':=
 doF (i:=1) (fn:=69) (λ_ _=>rfl) oQ (λ_ h=>h.s1) h (λW hB hf hl h5=>Xz hl h5 G_.stable (λW' xI=>(OA (hf.below xI) hT hq gD hs kZ dx).mono (by
  rintro e w' ⟨rfl,E',x',m,q',F',h1,h2,h3,h4⟩;exact⟨rfl,F',⟨q',nn,E',false,op,⟨rfl,rfl,rfl,h4,x',m,h1⟩,h2⟩,h3⟩)))
theorem Li (h:Gm v fm d fb B P q nn C cl yo op F) (Gw:nn≤15) (hT:Tr C B x (A++(f,s)::T)) (hq:q<1000000) (hs:nm s=true) (sS:abC op fd) (aoX:fd≤15):
  Calls Tryz.prog 8 #[.pointer (some ⟨fm,0,none⟩),bK 7 gU ⟨(47::s).toArray⟩ data] v λe w'=>jh v fm d fb B P yo F 0 fd 0 (λq' kJ C' cl' op'=>kJ=nn+1∧q'=q∧C'=C∧cl'=cl∧op'=f_ op fd (some (f.id,0))) e w':=
 doF (i:=7) (fn:=90) (λ_ _=>rfl) oQ (λ_ h=>h.s7) h (λW hB hf hl h5=>R7 hl h5 G_.stable (λW' xI=>(Xh (hf.below xI) Gw hT hq hs sS aoX).mono (by
  rintro e w' ⟨rfl,F',h1,h2⟩;exact⟨rfl,F',⟨_,_,_,_,_,⟨rfl,rfl,rfl,rfl,rfl⟩,h1⟩,h2⟩)))
theorem FL (h:Gm v fm d fb B P q nn C cl yo op F) (Gw:nn≤15) (hT:Tr C B x (A++(f,s)::T)) (hq:q<1000000) (sS:fd<1000) (hop:op fd=some (f.id,pt)) (dO:cZ v (some ⟨ga,oa,none⟩) dd) (eX:dd.length=len) (Ak:ga<v.heap.size) (hlen:1≤len∧len≤4096) (Aq:len≤cd) (ho:pt≤f.c.length) (hf:pt+len≤122880) (dx:cnt (C 0) B+need (max f.c.length (pt+len))≤B+need f.c.length):
  Calls Tryz.prog 8 #[.pointer (some ⟨fm,0,none⟩),bK 10 fd path (.slice (some ⟨ga,oa,none⟩) len cd)] v λe w'=>jh v fm d fb B P yo F 0 0 0 (λq' kJ C' cl' op'=>kJ=nn∧(q≤q'∧q'≤q+1)∧cl'=false∧op'=f_ op fd (some (f.id,pt+len))∧∃D' r' R',Tr C' B x (A++(⟨f.id,1,ow f.c pt dd,D',r',R'⟩,s)::T)) e w':=
 doF (i:=10) (fn:=83) (λ_ _=>rfl) oQ (λ_ h=>h.s10) h (λW hB SL hl h5=>Bn hl h5 G_.stable (λW' xI=>(RP (SL.below xI) Gw hT hq sS hop ((dO.below hB).below xI) eX (by have:=hB.size;have:=xI.size;omega) hlen Aq ho hf dx ⟨by rw[zG];omega,rfl⟩).mono (by
  rintro e w' ⟨rfl,E',D',r',R',q',F',h1,h2,h3,h4⟩;exact⟨rfl,F',⟨_,_,_,_,_,⟨rfl,h4,rfl,rfl,D',r',R',h1⟩,h2⟩,h3⟩)))
theorem aff (h:Gm v fm d fb B P q nn C cl yo op F) (hT:Tr C B x fl) (hq:q<1000000):
  Calls Tryz.prog 8 #[.pointer (some ⟨fm,0,none⟩),bK 17 gU path data] v λe w'=>jh v fm d fb B P yo F 0 0 0 (λq' kJ C' cl' op'=>kJ=nn∧q'=q∧cl'=true∧C'=C∧op'=op) e w':=
 doF (i:=17) (fn:=89) (λ_ _=>rfl) oQ (λ_ h=>h.s17) h (λW hB hf hl h5=>R6 hl h5 G_.stable (λW' xI=>(Bl (hf.below xI) hT.big hq).mono (by
  rintro e w' ⟨rfl,F',h1,h2⟩;exact⟨rfl,F',⟨_,_,_,_,_,⟨rfl,rfl,rfl,rfl,rfl⟩,h1⟩,h2⟩)))
end
def Cm (s c:Bytes):Bytes:=((((((47::s)++[32,102,32])++Lib.itoa ((1:Nat):Int))++[32])++Lib.itoa (c.length:Int))++[10])++c++[10]
def gQ:nU→Bytes
 |[]=>[]
 |g::t=>Cm g.2 g.1.c++gQ t
theorem Ll (a b:nU):gQ (a++b)=gQ a++gQ b:=by
 induction a with
 |nil=>rfl
 |cons g t ih=>simp[gQ,ih]
theorem Lm (s c:Bytes) (hs:s.length≤28) (hc:c.length≤122880):(Cm s c).length≤123000:=by
 have h1:(Lib.itoa ((1:Nat):Int)).length≤21:=Lib.itoa_length_le _ oQ oQ;have h2:(Lib.itoa (c.length:Int)).length≤21:=Lib.itoa_length_le _ oQ oQ;unfold Cm;simp only[zw,zA,zN];omega
end
section
open Go.RowKit Go.Shelf Go.Maps O
attribute [local go_sem] Oper.semAt_some
section
variable {v0 v w:World} {fm d fb B P q nn bb:Nat} {C:Nat→Bytes} {cl yo:Bool} {op:Op} {G:Nat→Prop} {x f:Nd} {A T fl:nU} {s l:Bytes}
theorem Jz {fl:nU} (h:∀g∈fl,nm g.2=true∧g.1.c.length≤122880):(gQ fl).length≤123000*fl.length:=by
 induction fl with
 |nil=>simp[gQ]
 |cons g t ih=>
  have h1:=ih (λk hk=>h k (qC _ hk));obtain⟨h2,h3⟩:=h g (qJ ..);have h4:g.2.length≤28:=by
   unfold nm at h2;rw[decide_eq_true_iff] at h2;exact h2.2.1
  have h5:=Lm g.2 g.1.c h4 h3;simp only[gQ,zw,zA];omega
theorem XG {ln:Nat} (h0:fI v0 fb d B P q nn C cl yo op G) (iq:Quiet d v0 w) (hc:ah v0 fm 58 [.pointer (some ⟨d,0,none⟩),.pointer (some ⟨fb,0,none⟩)]) (hT:Tr C B x fl) (hso:Srt (ents fl)) (hq:q<1000000) (hb:Ck bb [] w) (QG:v0.heap.size≤bb) (Ac:fl.length=ln) (LZ:ln≤2) (hlen:∀g∈fl,g.1.c.length≤122880):
  Calls Tryz.prog 20 #[.pointer (some ⟨fm,0,none⟩),.pointer (some ⟨bb,0,none⟩),.string ⟨#[]⟩] w λe w'=>(∃x,e=.returned x)∧Ck bb (gQ fl) w'∧Quiet d v0 w':=by
 obtain⟨vd,hvd⟩:∃vd,ah w d 74 vd:=by
  obtain⟨n,st,wt,Fd,sb,ss,vw,xs,tb,cr,cw,cf,hD⟩:=(h0.quiet iq).1.dev;exact⟨_,hD.cells⟩
 obtain⟨n,st,wt,Fd,sb,ss,vw,xs,tb,cr,cw,cf,hD0⟩:=h0.dev;have sS:fm≠d:=hD0.cells.ne hc dQ;clear hD0;have hcw:ah w fm 58 [.pointer (some ⟨d,0,none⟩),.pointer (some ⟨fb,0,none⟩)]:=(iq.keep fm hc.lt sS).trans hc;have c1:=hcw.cell 1;simp only[zf,zi] at c1;have nL:∀g∈fl,nm g.2=true∧g.1.c.length≤122880:=λg hg=>⟨(hT.file g hg).2,hlen g hg⟩
 have eX:(gQ fl).length≤123000*ln:=by rw[←Ac];exact Jz nL
 have Hvd:=U hvd;have H0:=U h0;have Hq0:=U iq;have HT:=U hT;have Hso:=U hso;have HB:=U hb;have Hc0:=U hc;have Vv:=U Ac;have Hnl:=U nL;have tC:=U eX;clear hvd h0 iq hT hso hb hc hcw Ac nL hlen eX;go_enter Tryz.func20,Tryz.ntmps20;go_wp2_with fail;refine(Lf (H0.o.quiet Hq0.o).1 HT.o Hso.o hq Vv.o).mono ?_;rintro e w2 ⟨a,c,rfl,hown, -, -,q2⟩;have dh:=HB.o.keep q2 Hvd.o;have bH:=U dh;have Q2:=U (Hq0.o.trans q2);have VT:=U hown;clear dh q2 hown;go_wp2_with fail;refine(sF _).mono ?_;rintro e Gj ⟨⟨y,rfl⟩,rfl⟩;go_wp2_with fail;go_loopw [28] (λvv wr=>∃k:Nat,k≤ln∧vv=.int .i64 k∧Quiet d v0 wr∧Ck bb (gQ (fl.take k)) wr∧∀(k:Nat) (Cx:Array Value) (fr:Nat×Nat),Gj.heap[k]? =some (Obj.cells Cx 9 fr)→wr.heap[k]? =some (Obj.cells Cx 9 fr)) (λvv _=>ln - (intOf vv).toNat)
 case atStart=>exact⟨0,oQ,rfl,Q2.o,bH.o,λ_ _ _ h=>h⟩
 case round=>
  obtain⟨k,hk,rfl,hqr,hbr,bT⟩:=hrel;have Hqr:=U hqr;have Hbr:=U hbr;have Gi:=U bT;clear hqr hbr bT;by_cases mW:k<ln
  ·obtain⟨g,hg⟩:∃g,fl[k]? =some g:=⟨fl[k]'(by rw[Vv.o];exact mW),zu _⟩
   obtain⟨b,rfl⟩:=nC VT.o (by rw[zD,Vv.o];omega);obtain⟨-, -,Cx,hCx⟩:=eu VT.o;have hcell:wr.cell? ⟨b,k,none⟩=some (.string ⟨g.2.toArray⟩):=by
    have h1:=VT.o.cell k (by rw[zD,Vv.o];exact mW);have h2:wr.cell? ⟨b,k,none⟩=Gj.cell? ⟨b,k,none⟩:=zS ((Gi.o b Cx _ hCx).trans hCx.symm);have h3:(fl.map λg=>ku g.2)[k]? =some (ku g.2):=by rw[qb,hg];rfl
    rw[h2];rw[zu (by rw[zD,Vv.o];exact mW)] at h3;injection h3 with h3;rw[h3] at h1;exact h1
   have SH:(k:Int)<ln:=oQ
   have PS:IntKind.i64.wrap ((k:Int)+1)=((k+1:Nat):Int):=by rw[zG];omega
   have Hg:=U hg;clear hg;have ajG:((⟨#[]⟩:ByteArray)++⟨#[47]⟩++⟨g.2.toArray⟩)=⟨(47::g.2).toArray⟩:=by
    apply ByteArray.ext;simp[ByteArray.data_append]
   have Bq:fl=fl.take k++(g.1,g.2)::fl.drop (k+1):=by
    have h1:=List.drop_eq_getElem_cons (l:=fl) (i:=k) (by rw[Vv.o];exact mW);have h2:fl[k]'(by rw[Vv.o];exact mW)=g:=by
     have h3:=Hg.o;rw[zu (by rw[Vv.o];exact mW)] at h3;injection h3
    rw[h2] at h1;rw[show((g.1,g.2):Nd×Bytes)=g from rfl,←h1,zak]
   have hTs:=HT.o;rw[Bq] at hTs;have wI:gQ (fl.take (k+1))=gQ (fl.take k)++Cm g.2 g.1.c:=by
    rw[zaV,Hg.o,Ll];simp[gQ]
   have J9:g∈fl:=zaq Hg.o;have bA:(gQ (fl.take k)).length≤300000:=by
    have h1:=Jz (fl:=fl.take k) (λy hy=>Hnl.o y (List.mem_of_mem_take hy));rw[zF] at h1;omega
   have Qn:g.2.length≤28:=by
    have h1:=(Hnl.o g J9).1;unfold nm at h1;rw[decide_eq_true_iff] at h1;exact h1.2.1
   have iK:=U bA;clear bA;have Htk:=U wI;have HTs:=U hTs;have Ni:=U J9;have avY:=U ajG;clear Bq wI hTs J9 ajG;go_wp2_with fail;rw[avY.o];refine(abN (ln:=g.1.c.length) H0.o Hqr.o Hc0.o HTs.o (Hnl.o g Ni.o).1 rfl hq Hbr.o QG iK.o (Hnl.o g Ni.o).2).mono ?_;rintro e w3 ⟨⟨y,rfl⟩,vV,I6,lg⟩;have H3:=U (And.intro I6 (And.intro (show Ck bb (gQ (fl.take (k+1))) w3 by rw[Htk.o];exact vV) (λ(k:Nat) (Cx:Array Value) (fr:Nat×Nat) (h:Gj.heap[k]? =some (Obj.cells Cx 9 fr))=>lg k Cx fr (Gi.o k Cx fr h))));clear vV I6 lg;go_wp2_with fail;go_roundw
   case rel=>exact⟨k+1,oQ,by go_num,H3.o.1,H3.o.2.1,H3.o.2.2⟩
   case measure=>simp[intOf];omega
  ·have iw:fl.take k=fl:=zy (by rw[Vv.o];omega)
   rw[iw] at Hbr;go_wp2_with fail;go_end0;exact⟨⟨_,rfl⟩,Hbr.o,Hqr.o⟩
end
theorem afg (p q:Addr) (w:World):
  CallsD Tryz.prog 19 #[.pointer (some p),.pointer (some q)] .returning w λe u' w'=>e=.returned (.tuple #[])∧u'=.returning∧w'=w:=by
 refine callsD_of_wpS Tryz.func19 rfl λc₀ cs hu=>?_;apply wpS_seq;apply wpS_region;simp[wpOpsS,go_sem,Act.eval,recoverD,hu,Tryz.ntmps19,Exit.thenS];refine wpS_of_wp (lK λQ' rF=>?_);have UO:=U rF;clear rF;simp only[zJ,zK,zT,zM,zB,zU,zh,zl,zk];go_wp2_with fail;rw[UO.o];cases c₀;simp_all[bodyPostS,results,Tryz.results19]
theorem Quiet.high {d b:Nat} {v w w':World} (h:Quiet d v w) (hB:Below b w w') (hb:v.heap.size≤b):Quiet d v w':=
 ⟨hB.os.trans h.os,hB.tape.trans h.tape,hB.output.trans h.output,zC h.size hB.size,λk hk hn=>(hB.block k oQ).trans (h.keep k hk hn),λvs hv=>by
  have eX:d<b:=by have:=hv.lt;omega
  rcases h.dev vs hv with h|⟨c,h⟩
  ·exact .inl ((hB.block d eX).trans h)
  ·exact .inr ⟨c,(hB.block d eX).trans h⟩⟩
section
variable {v0 v w:World} {fm d fb B P q nn bb:Nat} {C:Nat→Bytes} {cl yo:Bool} {op:Op} {G:Nat→Prop} {x f:Nd} {A T fl:nU} {s l:Bytes}
theorem FM {ln:Nat} (h:fI w fb d B P q nn C cl yo op G) (hc:ah w fm 58 [.pointer (some ⟨d,0,none⟩),.pointer (some ⟨fb,0,none⟩)]) (hT:Tr C B x fl) (hso:Srt (ents fl)) (hq:q<1000000) (Ac:fl.length=ln) (LZ:ln≤2) (hlen:∀g∈fl,g.1.c.length≤122880):
  Calls Tryz.prog 9 #[.pointer (some ⟨fm,0,none⟩)] w λe w'=>e=.returned (.tuple #[.string ⟨(gQ fl).toArray⟩,.int .i64 0])∧Quiet d w w':=by
 obtain⟨w1,aP⟩:∃w1,(w.alloc (.cells #[.string ⟨#[]⟩] 9)).alloc (.cells #[.int .i64 0] 26)=w1:=⟨_,rfl⟩
 obtain⟨aM,aF,hz1⟩:=boxes [([.string ⟨#[]⟩],9),([.int .i64 0],26)] w w1 (by rw[←aP];rfl);have x0:ah w1 w.heap.size 9 [.string ⟨#[]⟩]:=aM 0 _ rfl;have x1:ah w1 (w.heap.size+1) 26 [.int .i64 0]:=aM 1 _ rfl;have vR:w1.heap.size=w.heap.size+2:=by simpa using hz1
 have jD:=U aF;have X0:=U x0;have X1:=U x1;have wT:=U aP;have HF:=U (h.below aF);have Hc:=U (hc.below aF);have eX:d<w.heap.size:=h.lt d h.own.1;have HT:=U hT;have Hso:=U hso;have Vv:=U Ac;have iZ:=U hlen;clear h hc aP aM aF hz1 x0 x1 hT hso Ac hlen;go_enter_defers Tryz.func9,Tryz.ntmps9;go_wp2_with fail;rw[wT.o];refine(afb Hc.o HF.o).mono ?_;rintro e w1' ⟨rfl,rfl⟩;go_wp2_with fail;obtain⟨w2,iy⟩:∃w2,w1.alloc (.cells #[.pointer none,.slice none 0 0] 65)=w2:=⟨_,rfl⟩
 have dh:Ck (w.heap.size+2) [] w2:=by rw[←iy,←vR];exact Ck.nil
 have aJ:Below w1.heap.size w1 w2:=by rw[←iy];exact(zn _ _).alloc (zm _) _
 rw[iy];clear iy;refine(XG (ln:=ln) HF.o (Quiet.of_below aJ) Hc.o HT.o Hso.o hq dh oQ Vv.o LZ iZ.o).mono ?_;rintro e w3 ⟨⟨y,rfl⟩,vV,I6⟩;have y0:ah w3 w.heap.size 9 [.string ⟨#[]⟩]:=(I6.keep _ X0.o.lt oQ).trans X0.o;have y1:ah w3 (w.heap.size+1) 26 [.int .i64 0]:=(I6.keep _ X1.o.lt oQ).trans X1.o;have mF:=I6.size;have Y:=U (And.intro y0 y1);have HQ3:=U ((Quiet.of_below jD.o (d:=d)).trans I6);clear y0 y1 dh aJ I6;go_wp2_with fail;refine(OZ vV oQ).mono ?_;rintro e w4 ⟨rfl,dX⟩;have y0:ah w4 w.heap.size 9 [.string ⟨#[]⟩]:=(dX.block _ oQ).trans Y.o.1;have y1:ah w4 (w.heap.size+1) 26 [.int .i64 0]:=(dX.block _ oQ).trans Y.o.2;have HQ4:=U (HQ3.o.high dX oQ);have f0:=y0.free 0;have f1:=y1.free 0;have k0:=y0.cell 0;have k1:=y1.cell 0;simp only[zf] at k0 k1;have Y4:=U (And.intro y0 y1);clear dX vV y0 y1;go_wp2_with fail;obtain⟨w8,sZ⟩:∃w8,w4.setCell ⟨w.heap.size,0,none⟩ (.string ⟨(gQ fl).toArray⟩)=w8:=⟨_,rfl⟩
 obtain⟨w9,CY⟩:∃w9,w8.setCell ⟨w.heap.size+1,0,none⟩ (.int .i64 0)=w9:=⟨_,rfl⟩
 have y8:ah w8 w.heap.size 9 [.string ⟨(gQ fl).toArray⟩]:=by rw[←sZ];exact Y4.o.1.aB 0 _
 have z8:w8.heap[w.heap.size+1]? =w4.heap[w.heap.size+1]?:=by rw[←sZ];exact zI _ _ _ _ (by show _≠w.heap.size;omega)
 have z9:ah w9 (w.heap.size+1) 26 [.int .i64 0]:=by rw[←CY];exact ah.aB (z8.trans Y4.o.2) 0 _
 have y9:ah w9 w.heap.size 9 [.string ⟨(gQ fl).toArray⟩]:=by rw[←CY];exact(zI _ _ _ _ (by show _≠w.heap.size+1;omega)).trans y8
 have jf:Below w.heap.size w4 w9:=by
  rw[←CY,←sZ];exact((zn _ _).setCell (p:=⟨w.heap.size,0,none⟩) (zm _) _).setCell (p:=⟨w.heap.size+1,0,none⟩) (XO _) _
 have m0:=y9.cell 0;have m1:=z9.cell 0;simp only[zf] at m0 m1;rw[sZ,CY];refine leaves_cons (f:=19) (args:=#[.pointer (some ⟨w.heap.size,0,none⟩),.pointer (some ⟨w.heap.size+1,0,none⟩)]) sQ (by simp[go_sem]) ?_;refine(afg _ _ _).mono ?_;rintro e u' Af ⟨rfl,rfl,rfl⟩;simp[Leaves,settle,results,Tryz.results9,go_sem,m0,m1];exact HQ4.o.high jf (zm _)
end
end
section
open Go.RowKit Go.Shelf Go.Maps O
structure jB (W0 w:World) (K:List (Nat×TypeId×List Value)) (fm d fb B P q nn:Nat) (C:Nat→Bytes) (cl yo:Bool) (op:Op) (F:Nat→Prop):Prop where
 kE:Gm w fm d fb B P q nn C cl yo op F
 O5:Below W0.heap.size W0 w
 ge:∀k,F k→W0.heap.size≤k
 fge:W0.heap.size≤fm
 box:∀x∈K,ah w x.1 x.2.1 x.2.2∧¬F x.1∧x.1≠fm
def dF (w:World) (e n m a b c:Int):World:=
 (w.alloc (.cells #[.int .i64 e,.int .i64 n,.int .i64 m,.slice none 0 0,.slice none 0 0,.int .i64 0,.int .i64 0,.int .i64 0] 34)).alloc (.cells #[.int .i64 a,.int .i64 b,.int .i64 c] 36)
section
variable {W0 w w':World} {K K':List (Nat×TypeId×List Value)} {fm d fb B P q nn q' kJ Sd:Nat} {C C':Nat→Bytes} {cl yo cl' yo':Bool} {op op':Op} {F F' G G':Nat→Prop}
theorem jB.did (h:jB W0 w K fm d fb B P q nn C cl yo op F) (h2:Gm w' fm d Sd B P q' kJ C' cl' yo' op' F') (hs:Step F w F' w'):jB W0 w' K fm d Sd B P q' kJ C' cl' yo' op' F':=by
 have hz:=h.O5.size;refine⟨h2,h.O5.trans (hs.below h.ge hz),λk hk=>?_,h.fge,λx hx=>?_⟩
 ·rcases hs.new k hk with h3|h3
  ·exact h.ge k h3
  ·omega
 ·obtain⟨h3,h4,h5⟩:=h.box x hx
  exact⟨h3.step hs h4,hs.apart h3.lt h4,h5⟩
theorem jB.grow (h:jB W0 w K fm d fb B P q nn C cl yo op F) (hB:Below w.heap.size w w'):jB W0 w' K fm d fb B P q nn C cl yo op F:=h.did (h.kE.below hB) (Step.of_below hB F)
theorem jB.add (h:jB W0 w K fm d fb B P q nn C cl yo op F) {b:Nat} {T:TypeId} {vs:List Value} (hb:ah w b T vs) (hn:¬F b) (hm:b≠fm):jB W0 w ((b,T,vs)::K) fm d fb B P q nn C cl yo op F:=
 ⟨h.kE,h.O5,h.ge,h.fge,λx hx=>by
  rcases zH.1 hx with rfl|hx
  ·exact⟨hb,hn,hm⟩
  ·exact h.box x hx⟩
theorem jB.sub (h:jB W0 w K fm d fb B P q nn C cl yo op F) (hs:∀x∈K',x∈K):jB W0 w K' fm d fb B P q nn C cl yo op F:={h with box:=λx hx=>h.box x (hs x hx)}
theorem jB.ans (h:jB W0 w K fm d fb B P q nn C cl yo op F) (e n m a b c:Int):jB W0 (dF w e n m a b c) ((w.heap.size,34,aI e n m)::K) fm d fb B P q nn C cl yo op F∧(dF w e n m a b c).heap.size=w.heap.size+2:=by
 have aF:Below w.heap.size w (w.alloc (.cells (aI e n m).toArray 34)):=(zn _ _).alloc (zm _) _;have hA:ah (w.alloc (.cells (aI e n m).toArray 34)) w.heap.size 34 (aI e n m):=ah.new w _ _;have aJ:Below (w.alloc (.cells (aI e n m).toArray 34)).heap.size (w.alloc (.cells (aI e n m).toArray 34)) (dF w e n m a b c):=(zn _ _).alloc (zm _) _;refine⟨((h.grow aF).grow aJ).add (hA.below aJ) (λhf=>by have:=h.kE.fs.lt _ hf;omega) (λe=>by have:=h.kE.cells.lt;omega),by simp[dF]⟩
theorem jB.dump (h:jB W0 w K fm d fb B P q nn C cl yo op F) (hq:Quiet d w w'):jB W0 w' K fm d fb B P q nn C cl yo op F:=by
 have hs:=(h.kE.fs.quiet hq).2;exact h.did ⟨h.kE.cells.step hs h.kE.nf,(h.kE.fs.quiet hq).1,h.kE.nf,h.kE.f5⟩ hs
def JB (w:World) (a b c:Int):World:=w.alloc (.cells #[.int .i64 a,.int .i64 b,.int .i64 c] 36)
theorem jB.cnt (h:jB W0 w K fm d fb B P q nn C cl yo op F) (a b c:Int):jB W0 (JB w a b c) K fm d fb B P q nn C cl yo op F∧(JB w a b c).heap.size=w.heap.size+1:=by
 have hB:Below w.heap.size w (JB w a b c):=(zn _ _).alloc (zm _) _;exact⟨h.grow hB,by simp[JB]⟩
theorem jB.back {w4 w5:World} {Fd:Nat→Prop} (h:jB W0 w K fm d fb B P q nn C cl yo op F) (FX:∀k,Fd k→F k) (h4:Step Fd w Fd w4) (h5:Step (λk=>Fd k∨k=fm) w4 F' w5) (h2:Gm w5 fm d Sd B P q' kJ C' cl' yo' op' F'):jB W0 w5 K fm d Sd B P q' kJ C' cl' yo' op' F':=by
 have hz:=h.O5.size;have Ah:=h4.size;have hg5:∀k,(Fd k∨k=fm)→W0.heap.size≤k:=λk hk=>by
  rcases hk with hk|rfl
  ·exact h.ge k (FX k hk)
  ·exact h.fge
 refine⟨h2,(h.O5.trans (h4.below (λk hk=>h.ge k (FX k hk)) hz)).trans (h5.below hg5 oQ),λk hk=>?_,h.fge,λx hx=>?_⟩
 ·rcases h5.new k hk with h3|h3
  ·exact hg5 k h3
  ·omega
 ·obtain⟨h3,h6,h7⟩:=h.box x hx
  have n4:¬Fd x.1:=λhf=>h6 (FX _ hf);have n5:¬(Fd x.1∨x.1=fm):=λhf=>hf.elim n4 h7;have h8:=h3.step h4 n4;exact⟨h8.step h5 n5,h5.apart h8.lt n5,h7⟩
theorem om {n:Nat} (hn:n≤2) (h:cnt (C 0) B+2≤B):cnt (C 0) B+1+need (32*(n+1))≤B+need (32*n):=by
 have h1:=Oj (k:=n+1) oQ;rw[if_neg oQ] at h1;omega
end
end
section
open Go.RowKit Go.Shelf Go.Maps O
attribute [local go_sem] Oper.semAt_some
theorem Aa {n:Nat} (h:n<10):Lib.decDigits n=[UInt8.ofNat (48+n)]:=by rw[Lib.decDigits,dif_pos h]
theorem ajI {n:Nd} (hn:n.c=[]):gQ [(n,[97])]=[47,97,32,102,32,49,32,48,10,10]:=by
 simp only[gQ,Cm,hn,zN,Lib.itoa_nonneg];rw[Aa (n:=1) oQ,Aa (n:=0) oQ];decide
theorem JC {v:World} (hG:Glob v):Calls Tryz.prog 5 #[] v λe w'=>e=.returned (.bool true)∧Below v.heap.size v w':=by
 have hgs:=hG.size;have HG:=U hG;clear hG;go_enter Tryz.func5,Tryz.ntmps5;go_wp2_with fail;refine(FD (B:=10) (P:=150) ⟨⟨oQ,oQ⟩,oQ,oQ⟩ HG.o).mono ?_;rintro e w1 ⟨fm,d,fb,q,F,rfl,hc,hf,hq,hn,xW,hs⟩;have T1:jB v w1 [] fm d fb 10 150 q 0 (nE 10) true true nH F:=⟨⟨hc,hf,hn,oQ⟩,hs.below (λ_ h=>h.elim) (zm _),λk hk=>(hs.new k hk).resolve_left id,xW,λx hx=>(by cases hx)⟩
 have lH:=U T1;clear T1 hc hf hn hs;go_wp2_with fail;have hR0:Tr (nE 10) 10 agT []:=yY ⟨oQ,oQ⟩;have AO:=hR0.num;simp only[zN,if_true,qK,List.sum_nil] at AO;refine(vD (s:=[97]) lH.o.kE hR0 oQ sQ dQ sQ (om (n:=0) oQ oQ)).mono ?_;rintro e w2 ⟨⟨a2,b2,c2,rfl⟩,q2,n2,C2,cl2,op2,F2,⟨rfl,rfl,rfl,IL,x2,m2,hT2⟩,apo,nJ⟩;obtain⟨T2,z2⟩:=(lH.o.did apo nJ).ans 0 0 0 a2 b2 c2;obtain⟨W2,lZ⟩:∃W2,dF w2 0 0 0 a2 b2 c2=W2:=⟨_,rfl⟩
 rw[lZ] at T2 z2;unfold dF at lZ;have iY:=U T2;have ajJ:=U hT2;clear apo nJ T2 hT2 hR0 AO;simp only[dH,gY];go_wp2_with fail;refine(aff iY.o.kE ajJ.o oQ).mono ?_;rintro e w3 ⟨⟨a3,b3,c3,rfl⟩,q3,n3,C3,cl3,op3,F3,⟨rfl,rfl,rfl,rfl,rfl⟩,apq,lg⟩;obtain⟨T3,z3⟩:=(iY.o.did apq lg).ans 0 0 0 a3 b3 c3;obtain⟨W3,tu⟩:∃W3,dF w3 0 0 0 a3 b3 c3=W3:=⟨_,rfl⟩
 rw[tu] at T3 z3;unfold dF at tu;obtain⟨st,Fd,s,C0,hD,FX,hk⟩:=T3.kE.fs.disk oQ oQ ajJ.o.zero;have jo:=U T3;have HD:=U hD;have HK:=U hk;have HFd:=U FX;clear apq lg T3 hD hk FX lZ;simp only[dH,gY];go_wp2_with fail;refine(FE jo.o.kE.cells HD.o none 0 0).mono ?_;rintro e w4 ⟨⟨y,rfl⟩,hD4,iI⟩;have KN:¬Fd fm:=λhf=>jo.o.kE.nf (HFd.o _ hf);have h54:∀k,Fd k→5≤k:=λk hf=>jo.o.kE.fs.ge.1 k (HFd.o _ hf);have hG4:Glob w4:=jo.o.kE.fs.ge.2.step iI h54;have hc4:=jo.o.kE.cells.step iI KN;have H4:=U (And.intro hD4 (And.intro iI (And.intro hG4 hc4)));have H54:=U h54;clear hD4 iI hG4 hc4 h54 tu;go_wp2_with fail;refine(FH H4.o.2.2.2 H4.o.1 HK.o H4.o.2.2.1 H54.o KN jo.o.kE.f5).mono ?_;rintro e w5 ⟨⟨a5,b5,c5,rfl⟩,fb5,q5,F5,hc5,VI,Nw,Px,Ki⟩;obtain⟨T5,z5⟩:=(jo.o.back HFd.o H4.o.2.1 Ki ⟨hc5,VI,Px,jo.o.kE.f5⟩).cnt a5 b5 c5;obtain⟨W5,Es⟩:∃W5,JB w5 a5 b5 c5=W5:=⟨_,rfl⟩
 rw[Es] at T5 z5;unfold JB at Es;have Ch:=U T5;clear hc5 VI Px Ki T5;simp only[gY];go_wp2_with fail;refine(FM (ln:=1) Ch.o.kE.fs Ch.o.kE.cells ajJ.o (by intro i e e' h1 h2;rcases i with _|i<;>simp[ents] at h2) Nw rfl oQ (by intro g hg;simp at hg;subst hg;simp)).mono ?_;rintro e w6 ⟨rfl,hq6⟩;have T6:=Ch.o.dump hq6;have y1:=(T6.box _ (qJ ..)).1.cell 0;have y2:=(T6.box _ (qC _ (qJ ..))).1.cell 0;simp only[aI,zf] at y1 y2;have HT6:=U T6;have hdt:gQ ([]++[((⟨m2,1,[],bN,0,aT⟩:Nd),([97]:Bytes))])=[47,97,32,102,32,49,32,48,10,10]:=ajI rfl;rw[hdt];clear T6 hq6 hdt Es;go_wp2_with fail;go_ret;exact⟨rfl,HT6.o.O5⟩
end
end Go.Proofs.YtdjdpeadohobmaaGreatDoor
