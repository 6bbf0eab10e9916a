/- A part of the walk below the law: what is proved here is used by later parts; no further condition. -/
import Derived.Test.YtdjdpeadohobmaaGreatDoorK40
set_option linter.unusedVariables false
set_option linter.unusedSimpArgs false
set_option maxRecDepth 100000
set_option maxHeartbeats 20000000
namespace Go.Proofs.YtdjdpeadohobmaaGreatDoor
section
open Go.RowKit Go.Shelf Go.Maps O
attribute [local go_sem] Oper.semAt_some
structure OT (B P:Nat) (C st:Nat→Bytes) (s:JS) (C0:Nat→Bytes):Prop where
 ok:rD s C0
 yo:yB s
 seq:1≤s.seq∧s.seq<900000
 is:s.B=B∧s.P=P
 Ct:Geo B P
 len:∀k,(st k).length=512
 secs:∀p,p<P→st (p+1)=encS (s.sec p)
 sup:st 0=eG B P
 con:(∀i,i<B→C0 i=C i)∧∀i,B≤i→C i=[]
section
variable {v w:World} {fb sp d B P q nn b n p:Nat} {C E:Nat→Bytes} {cl yo:Bool} {F:Nat→Prop} {op:Op} {s:JS} {C0 st:Nat→Bytes}
theorem rD.seq1 (h:rD s C0) (h0:C0 0≠zeros 480):1≤s.seq:=by
 rcases zaL 0 s.seq with h1|h1
 ·exact h1
 exfalso;rcases hi:idx s.Q 0 with _|i
 ·exact h0 (h.zero 0 hi)
 ·obtain⟨x,hx, -, -⟩:=h.live 0 i hi
  have hp:s.pl i<s.P:=dz h.tail (by have:=fK hi;have:=h.used;omega);have:=h.right _ x hp hx;have h2:=this.start;have h3:=this.seq;omega
theorem fI.disk (h:fI w fb d B P q nn C true true op F) (hB:4≤B) (hq:q<900000) (h0:aG (C 0) 0=true):∃st Fd s C0,Dev w d (P+1) st [] false Fd∧(∀k,Fd k→F k)∧OT B P C st s C0:=by
 obtain⟨sp,m,s,C0,Fs,hA,rfl⟩:=h;obtain⟨j,st,wt,Fj,h1,h2,h3,h4,h5,h6,h7⟩:=hA.p9;obtain rfl:=h7 rfl;obtain⟨r,rb,t,pb,ob,Fd,f,g,hJ⟩:=h2;obtain⟨i1,i2,i3,i4⟩:=hA.is;have dV:C0 0≠zeros 480:=λe=>by
  rw[←hA.con.1 0 oQ,e,kU] at h0;cases h0
 have j_:=hJ.dev;have Uu:=hJ.secs;have GA:=hJ.sup;have MS:=hJ.Ct;rw[i1,i2] at MS;rw[i2] at j_ Uu;rw[i1,i2] at GA;exact⟨st,Fd,s,C0,j_,λk hk=>.inl (h3 k (hJ.own.2.2.2.2.2.2 k hk)),hJ.ok,i4 rfl,⟨hJ.ok.seq1 dV,oQ⟩,⟨i1,i2⟩,MS,hJ.len,Uu,GA,hA.con⟩
theorem R3 {t1:Nat} (hD:Dev w d (P+1) st [] false F) (hk:OT B P C st s C0) (hG:Glob w) (OM:∀k,F k→5≤k) (x1:ah w t1 49 [.pointer (some ⟨d,0,none⟩)]):
  Calls Tryz.prog 41 #[.pointer (some ⟨t1,0,none⟩)] w λe w'=>∃sp F' s' C0',e=.returned (.tuple #[.pointer (some ⟨sp,0,none⟩),.int .i64 0])∧Js w' sp d B P (s.seq+1) C true false s' C0' F'∧Step F w F' w':=by
 have c1:=x1.cell 0;simp only[zf] at c1;obtain⟨k1,k2,k3,⟨rfl,rfl⟩,k4,k5,k6,k7,k8⟩:=hk;have HD:=U hD;have HG:=U hG;have Cu:=U OM;have HK:=U (And.intro k1 (And.intro k2 (And.intro k4 (And.intro k5 (And.intro k6 (And.intro k7 k8))))));clear hD hG OM k1 k2 k4 k5 k6 k7 k8 x1;go_enter Tryz.func41,Tryz.ntmps41;go_wp2_with fail;refine(QJ HD.o HK.o.1 HK.o.2.1 k3.1 oQ HK.o.2.2.1 HK.o.2.2.2.1 HK.o.2.2.2.2.1 HK.o.2.2.2.2.2.1 HG.o.crc (λh=>by have:=Cu.o _ h;revert this;decide)).mono ?_;rintro e w2 ⟨sp,F',rfl,h2,nJ⟩;have H2:=U (And.intro h2 nJ);clear h2 nJ c1;go_wp2_with fail;go_ret2;exact⟨sp,F',_,C0,rfl,⟨H2.o.1,⟨rfl,rfl,rfl,λh=>(by cases h)⟩,HK.o.2.2.2.2.2.2⟩,H2.o.2⟩
theorem R4 (hD:Dev w d (P+1) st [] false F) (hk:OT B P C st s C0) (hG:Glob w) (OM:∀k,F k→5≤k):
  Calls Tryz.prog 25 #[.pointer (some ⟨d,0,none⟩)] w λe w'=>∃fb,e=.returned (.tuple #[.pointer (some ⟨fb,0,none⟩),.int .i64 0])∧Lg w fb d B P false (λC' q' cl'=>C'=C∧q'<1000000) F w':=by
 obtain⟨w1,aP⟩:∃w1,w.alloc (.cells #[.pointer (some ⟨d,0,none⟩)] 49)=w1:=⟨_,rfl⟩
 obtain⟨aM,aF,hz1⟩:=boxes [([.pointer (some ⟨d,0,none⟩)],49)] w w1 (by rw[←aP];rfl);have x0:ah w1 w.heap.size 49 [.pointer (some ⟨d,0,none⟩)]:=aM 0 _ rfl;have y0:=x0.cell 0;simp only[zf] at y0;have hmf:∀(fn:Fn) (first cap:Array Value) (w:World),(Instr.makeFunc fn first cap).run Tryz.prog w=.ok (.func fn first cap) w:=λ_ _ _ _=>rfl;have jL:∀k,F k→k<w.heap.size:=by
  obtain⟨sb,ss,vw,xs,tb,cr,cw,cf,h⟩:=hD;exact h.lt
 have IU:=hk.seq;have HD:=U hD;have HG:=U hG;have Cu:=U OM;have Hk:=U hk;have HB:=U aF;have X0:=U x0;have wT:=U aP;have G8:=U jL;have hz:=aF.size;clear hD hG OM hk x0 aM aF hz1 aP jL;go_enter Tryz.func25,Tryz.ntmps25;go_wp2_with fail;rw[wT.o];refine(FC (fn1:=41) (fn2:=43) (F:=F) (B:=B) (P:=P) (q:=s.seq+1) (C:=C) (cl:=true) (yo:=false) (PE:=λC' q' cl'=>C'=C∧q'<1000000) (λk hk=>zx (G8.o k hk) hz) Cu.o (HG.o.below HB.o) (λ_ _=>rfl) (λ_ _=>rfl) (λw2 aJ=>?_) (λw3 fb F3 h3=>?_)).mono ?_
 ·exact R3 (HD.o.step ((Step.of_below HB.o (λ_=>False)).trans (Step.of_below aJ (λ_=>False))) (λ_ _ h=>h)) Hk.o (HG.o.below (HB.o.trans (aJ.mono hz))) Cu.o (X0.o.below aJ)
 ·go_enter Tryz.func43,Tryz.ntmps43
  go_wp2_with fail;go_end0;exact⟨⟨_,rfl⟩,C,s.seq+1,true,F3,⟨rfl,oQ⟩,h3,Step.refl _ _⟩
 rintro e w4 ⟨fb,rfl,hS⟩;have HS:=U hS;clear hS y0;go_wp2_with fail;go_ret2;obtain⟨h1,C',q',cl',F',h2,h3,h4⟩:=HS.o;exact⟨fb,rfl,zC hz h1,C',q',cl',F',h2,h3,(Step.of_below HB.o F).trans h4⟩
end
def ae6 (w:World) (m n:Nat) (φ:Nat→Option Value):Prop:=∃s,s≤n∧bF w m s φ
theorem ae6.put {w v:World} {m n:Nat} {φ:Nat→Option Value} (h:ae6 w m n φ) (hB:Below v.heap.size v w) (hm:v.heap.size≤m) (hn:n<1000) (i:Nat) (hi:i<1000) (u:Value):
  ∃w',(Instr.mapUpdate 91 (.map (some m)) (.int .i64 (i:Int)) u).run Tryz.prog w=.ok () w'∧ae6 w' m (n+1) (iM φ i (some u))∧Below v.heap.size v w':=by
 obtain⟨s,hs,h⟩:=h;obtain⟨w',hr,hM,ht⟩:=h.store (t:=91) Tryz.underlying91 (by unfold maxLen;omega) i (by unfold fZ;omega) u;refine⟨w',hr,⟨_,?_,hM⟩,hB.grown ht.grown (by have:=hB.size;omega) (λk e=>by cases e;exact hm)⟩
 split<;>omega
def xQ (k:Nat):Value:=.func (.func k) #[] #[]
structure vC (φ:Nat→Option Value):Prop where
 s1:φ 1=some (xQ 69)
 s4:φ 4=some (xQ 75)
 s7:φ 7=some (xQ 90)
 s8:φ 8=some (xQ 81)
 s10:φ 10=some (xQ 83)
 s11:φ 11=some (xQ 94)
 s15:φ 15=some (xQ 99)
 s16:φ 16=some (xQ 87)
 s17:φ 17=some (xQ 89)
theorem Xy (v:World):Calls Tryz.prog 35 #[] v λe w'=>∃m n φ,e=.returned (.map (some m))∧v.heap.size≤m∧bF w' m n φ∧vC φ∧Below v.heap.size v w':=by
 have fC:(Instr.makeMap 91 none).run Tryz.prog v=.ok (.map (some v.heap.size)) (v.alloc (.map #[] 0)):=by simp[Instr.makeMap,run_underlying Tryz.underlying91,asInt,asIntOf,Result.andThen,go_sem]
 obtain⟨w0,MC⟩:∃w0,v.alloc (.map #[] 0)=w0:=⟨_,rfl⟩
 have Pk:Below v.heap.size v w0:=by rw[←MC];exact(zn _ _).alloc (zm _) _
 have h0:ae6 w0 v.heap.size 0 (λ_=>none):=by rw[←MC];exact⟨0,zm _,bF.new v⟩
 rw[MC] at fC;clear MC;obtain⟨φ0,hφ0⟩:∃φ0:Nat→Option Value,(λ_=>none)=φ0:=⟨_,rfl⟩
 rw[hφ0] at h0;obtain⟨w1,r1,h1,aF⟩:=h0.put Pk (zm _) dQ 1 dQ (xQ 69);replace r1:(Instr.mapUpdate 91 (.map (some v.heap.size)) (.int .i64 1) (.func (.func 69) #[] #[])).run Tryz.prog w0=.ok () w1:=r1;obtain⟨w2,r2,h2,aJ⟩:=h1.put aF (zm _) dQ 2 dQ (xQ 71);replace r2:(Instr.mapUpdate 91 (.map (some v.heap.size)) (.int .i64 2) (.func (.func 71) #[] #[])).run Tryz.prog w1=.ok () w2:=r2;obtain⟨w3,r3,h3,bf⟩:=h2.put aJ (zm _) dQ 3 dQ (xQ 73);replace r3:(Instr.mapUpdate 91 (.map (some v.heap.size)) (.int .i64 3) (.func (.func 73) #[] #[])).run Tryz.prog w2=.ok () w3:=r3;obtain⟨w4,r4,h4,dX⟩:=h3.put bf (zm _) dQ 4 dQ (xQ 75);replace r4:(Instr.mapUpdate 91 (.map (some v.heap.size)) (.int .i64 4) (.func (.func 75) #[] #[])).run Tryz.prog w3=.ok () w4:=r4;obtain⟨w5,r5,h5,iJ⟩:=h4.put dX (zm _) dQ 5 dQ (xQ 77);replace r5:(Instr.mapUpdate 91 (.map (some v.heap.size)) (.int .i64 5) (.func (.func 77) #[] #[])).run Tryz.prog w4=.ok () w5:=r5;obtain⟨w6,r6,h6,lu⟩:=h5.put iJ (zm _) dQ 6 dQ (xQ 79);replace r6:(Instr.mapUpdate 91 (.map (some v.heap.size)) (.int .i64 6) (.func (.func 79) #[] #[])).run Tryz.prog w5=.ok () w6:=r6;obtain⟨w7,r7,h7,tH⟩:=h6.put lu (zm _) dQ 8 dQ (xQ 81);replace r7:(Instr.mapUpdate 91 (.map (some v.heap.size)) (.int .i64 8) (.func (.func 81) #[] #[])).run Tryz.prog w6=.ok () w7:=r7;obtain⟨w8,r8,h8,xE⟩:=h7.put tH (zm _) dQ 10 dQ (xQ 83);replace r8:(Instr.mapUpdate 91 (.map (some v.heap.size)) (.int .i64 10) (.func (.func 83) #[] #[])).run Tryz.prog w7=.ok () w8:=r8;obtain⟨w9,r9,h9,jf⟩:=h8.put xE (zm _) dQ 12 dQ (xQ 85);replace r9:(Instr.mapUpdate 91 (.map (some v.heap.size)) (.int .i64 12) (.func (.func 85) #[] #[])).run Tryz.prog w8=.ok () w9:=r9;obtain⟨Af,r10,h10,VB⟩:=h9.put jf (zm _) dQ 16 dQ (xQ 87);replace r10:(Instr.mapUpdate 91 (.map (some v.heap.size)) (.int .i64 16) (.func (.func 87) #[] #[])).run Tryz.prog w9=.ok () Af:=r10;obtain⟨vG,r11,h11,P7⟩:=h10.put VB (zm _) dQ 17 dQ (xQ 89);replace r11:(Instr.mapUpdate 91 (.map (some v.heap.size)) (.int .i64 17) (.func (.func 89) #[] #[])).run Tryz.prog Af=.ok () vG:=r11;obtain⟨w12,r12,h12,Kt⟩:=h11.put P7 (zm _) dQ 7 dQ (xQ 90);replace r12:(Instr.mapUpdate 91 (.map (some v.heap.size)) (.int .i64 7) (.func (.func 90) #[] #[])).run Tryz.prog vG=.ok () w12:=r12;obtain⟨S9,r13,h13,xD⟩:=h12.put Kt (zm _) dQ 9 dQ (xQ 92);replace r13:(Instr.mapUpdate 91 (.map (some v.heap.size)) (.int .i64 9) (.func (.func 92) #[] #[])).run Tryz.prog w12=.ok () S9:=r13;obtain⟨w14,r14,h14,tX⟩:=h13.put xD (zm _) dQ 11 dQ (xQ 94);replace r14:(Instr.mapUpdate 91 (.map (some v.heap.size)) (.int .i64 11) (.func (.func 94) #[] #[])).run Tryz.prog S9=.ok () w14:=r14;obtain⟨w15,r15,xw,adK⟩:=h14.put tX (zm _) dQ 13 dQ (xQ 96);replace r15:(Instr.mapUpdate 91 (.map (some v.heap.size)) (.int .i64 13) (.func (.func 96) #[] #[])).run Tryz.prog w14=.ok () w15:=r15;obtain⟨w16,r16,jS,ape⟩:=xw.put adK (zm _) dQ 14 dQ (xQ 98);replace r16:(Instr.mapUpdate 91 (.map (some v.heap.size)) (.int .i64 14) (.func (.func 98) #[] #[])).run Tryz.prog w15=.ok () w16:=r16;obtain⟨w17,r17,h17,apf⟩:=jS.put ape (zm _) dQ 15 dQ (xQ 99);replace r17:(Instr.mapUpdate 91 (.map (some v.heap.size)) (.int .i64 15) (.func (.func 99) #[] #[])).run Tryz.prog w16=.ok () w17:=r17;obtain⟨s,hs,hM⟩:=h17;have HZ:=U (And.intro hM apf);clear hM apf hs Pk aF aJ bf dX iJ lu tH xE jf VB P7 Kt xD tX adK ape h0 h1 h2 h3 h4 h5 h6 h7 h8 h9 h10 h11 h12 h13 h14 xw jS;go_enter Tryz.func35,Tryz.ntmps35;go_wp2_with fail;go_ret;refine⟨_,s,_,rfl,zm _,HZ.o.1,?_,HZ.o.2⟩;constructor<;>rfl
theorem vC.look {φ:Nat→Option Value} {w:World} {m n:Nat} (hM:bF w m n φ) {i k:Nat} (hi:i<1000) (h:φ i=some (xQ k)):
  (Instr.lookup 91 (.map (some m)) (.int .i64 (i:Int)) true).run Tryz.prog w=.ok (.tuple #[.func (.func k) #[] #[],.bool true]) w:=by
 rw[hM.look (t:=91) Tryz.underlying91 (z:=.nilFunc) kQ i (by unfold fZ;omega),h];rfl
def bK (op fd:Int) (path:ByteArray) (data:Value):Value:=.agg #[.int .i64 op,.int .i64 fd,.int .i64 0,.string path,.string ⟨#[]⟩,.int .i64 0,data]
def yZ (op fd:Int) (path:ByteArray) (data:Value):List Value:=[.int .i64 op,.int .i64 fd,.int .i64 0,.string path,.string ⟨#[]⟩,.int .i64 0,data]
def aI (e n m:Int):List Value:=[.int .i64 e,.int .i64 n,.int .i64 m,.slice none 0 0,.slice none 0 0,.int .i64 0,.int .i64 0,.int .i64 0]
def dH (e n m:Int):Value:=.agg #[.int .i64 e,.int .i64 n,.int .i64 m,.slice none 0 0,.slice none 0 0,.int .i64 0,.int .i64 0,.int .i64 0]
def Stable (Φ:World→(Nat→Prop)→Prop):Prop:=∀(W W':World) (F G G':Nat→Prop),Φ W F→Step G W G' W'→(∀k,F k→¬G k)→(∀k,G k→5≤k)→Φ W' F
def AB (w2:World) (b:Nat) (T:TypeId) (W:World):Prop:=Step (· =b) w2 (· =b) W∧∃vs,ah W b T vs
theorem AB.set {w2 W:World} {b:Nat} {T:TypeId} (hT:¬BT T) (j:Nat) (u:Value) (h:AB w2 b T W):AB w2 b T (W.setCell ⟨b,j,none⟩ u):=by
 obtain⟨h1,vs,h2⟩:=h;exact⟨h1.trans (Step.set1 (h2.aV hT) j u),_,h2.aB j u⟩
section
variable {v:World} {fb:Nat} {F:Nat→Prop} {Φ:World→(Nat→Prop)→Prop} {ec nc mc Yu gU:Int} {path:ByteArray} {data:Value}
theorem Xz (jL:∀k,F k→k<v.heap.size) (h5:5≤v.heap.size) (bT:Stable Φ) (hc:∀W,Below v.heap.size v W→Calls Tryz.prog 70 #[.pointer (some ⟨fb,0,none⟩),.string path] W λe w'=>e=.returned (.int .i64 ec)∧∃F',Φ w' F'∧Step F W F' w'):
  Calls Tryz.prog 69 #[.pointer (some ⟨fb,0,none⟩),bK Yu gU path data] v λe w'=>e=.returned (dH ec 0 0)∧∃F',Φ w' F'∧Step F v F' w':=by
 obtain⟨w1,aP⟩:∃w1,(v.alloc (.cells #[.int .i64 Yu,.int .i64 gU,.int .i64 0,.string path,.string ⟨#[]⟩,.int .i64 0,data] 40)).alloc (.cells #[.int .i64 0,.int .i64 0,.int .i64 0,.slice none 0 0,.slice none 0 0,.int .i64 0,.int .i64 0,.int .i64 0] 34)=w1:=⟨_,rfl⟩
 obtain⟨aM,aF,hz1⟩:=boxes [(yZ Yu gU path data,40),(aI 0 0 0,34)] v w1 (by rw[←aP];rfl);have x1:ah w1 (v.heap.size+1) 34 (aI 0 0 0):=aM 1 _ rfl;have wT:=U aP;have HB:=U aF;have X1:=U x1;have HC:=U hc;have G8:=U jL;have Gi:=U bT;have hz:w1.heap.size=v.heap.size+2:=by simpa using hz1
 clear hc jL bT aM aF hz1 aP x1;unfold bK;go_enter Tryz.func69,Tryz.ntmps69;go_wp2_with fail;rw[wT.o];refine(HC.o w1 HB.o).mono ?_;rintro e w2 ⟨rfl,F',hΦ,nJ⟩;have nM:¬F (v.heap.size+1):=λhf=>by have:=G8.o _ hf;omega
 have y1:=X1.o.step nJ nM;have a1:=nJ.apart X1.o.lt nM;have H2:=U (And.intro hΦ ((Step.of_below HB.o F).trans nJ));have hf:=λj=>y1.free j;have c0:=y1.cell 0;have c1:=y1.cell 1;have c2:=y1.cell 2;have c3:=y1.cell 3;have c4:=y1.cell 4;have c5:=y1.cell 5;have c6:=y1.cell 6;have c7:=y1.cell 7;simp only[aI,zf,zi] at c0 c1 c2 c3 c4 c5 c6 c7;have f0:=hf 0;have f1:=hf 1;have f2:=hf 2;have f3:=hf 3;have f4:=hf 4;have f5:=hf 5;have f6:=hf 6;have f7:=hf 7;have Y1:=U y1;clear hΦ nJ y1 hf;go_wp2_with fail;generalize hW:World.setCell _ _ _=W;have hs:AB w2 (v.heap.size+1) 34 W:=by
  rw[←hW]
  repeat refine AB.set dQ _ _ ?_
  exact⟨Step.refl _ _,_,Y1.o⟩
 have hs:=hs.1;have hV:ah W (v.heap.size+1) 34 (aI ec 0 0):=by
  rw[←hW];exact((((((((Y1.o.aB 0 (.int .i64 ec)).aB 1 (.int .i64 0)).aB 2 (.int .i64 0)).aB 3 (.slice none 0 0)).aB 4 (.slice none 0 0)).aB 5 (.int .i64 0)).aB 6 (.int .i64 0)).aB 7 (.int .i64 0))
 clear hW c0 c1 c2 c3 c4 c5 c6 c7;have c0:=hV.cell 0;have c1:=hV.cell 1;have c2:=hV.cell 2;have c3:=hV.cell 3;have c4:=hV.cell 4;have c5:=hV.cell 5;have c6:=hV.cell 6;have c7:=hV.cell 7;simp only[aI,zf,zi] at c0 c1 c2 c3 c4 c5 c6 c7
 (try simp only[Exit.inBlock,Exit.then])
 refine bodyPost_ret (v:=dH ec 0 0) (by simp[results,Tryz.f69,go_sem,dH,c0,c1,c2,c3,c4,c5,c6,c7]) rfl ⟨rfl,F',?_⟩;exact⟨Gi.o _ _ _ _ _ H2.o.1 hs (λk hk e=>a1 (e▸hk)) (λk hk=>oQ),H2.o.2.inner hs (λk hk=>.inr oQ)⟩
theorem Bn (jL:∀k,F k→k<v.heap.size) (h5:5≤v.heap.size) (bT:Stable Φ) (hc:∀W,Below v.heap.size v W→Calls Tryz.prog 84 #[.pointer (some ⟨fb,0,none⟩),.int .i64 gU,data] W λe w'=>e=.returned (.int .i64 ec)∧∃F',Φ w' F'∧Step F W F' w'):
  Calls Tryz.prog 83 #[.pointer (some ⟨fb,0,none⟩),bK Yu gU path data] v λe w'=>e=.returned (dH ec 0 0)∧∃F',Φ w' F'∧Step F v F' w':=by
 obtain⟨w1,aP⟩:∃w1,(v.alloc (.cells #[.int .i64 Yu,.int .i64 gU,.int .i64 0,.string path,.string ⟨#[]⟩,.int .i64 0,data] 40)).alloc (.cells #[.int .i64 0,.int .i64 0,.int .i64 0,.slice none 0 0,.slice none 0 0,.int .i64 0,.int .i64 0,.int .i64 0] 34)=w1:=⟨_,rfl⟩
 obtain⟨aM,aF,hz1⟩:=boxes [(yZ Yu gU path data,40),(aI 0 0 0,34)] v w1 (by rw[←aP];rfl);have x1:ah w1 (v.heap.size+1) 34 (aI 0 0 0):=aM 1 _ rfl;have wT:=U aP;have HB:=U aF;have X1:=U x1;have HC:=U hc;have G8:=U jL;have Gi:=U bT;have hz:w1.heap.size=v.heap.size+2:=by simpa using hz1
 clear hc jL bT aM aF hz1 aP x1;unfold bK;go_enter Tryz.func83,Tryz.ntmps83;go_wp2_with fail;rw[wT.o];refine(HC.o w1 HB.o).mono ?_;rintro e w2 ⟨rfl,F',hΦ,nJ⟩;have nM:¬F (v.heap.size+1):=λhf=>by have:=G8.o _ hf;omega
 have y1:=X1.o.step nJ nM;have a1:=nJ.apart X1.o.lt nM;have H2:=U (And.intro hΦ ((Step.of_below HB.o F).trans nJ));have hf:=λj=>y1.free j;have c0:=y1.cell 0;have c1:=y1.cell 1;have c2:=y1.cell 2;have c3:=y1.cell 3;have c4:=y1.cell 4;have c5:=y1.cell 5;have c6:=y1.cell 6;have c7:=y1.cell 7;simp only[aI,zf,zi] at c0 c1 c2 c3 c4 c5 c6 c7;have f0:=hf 0;have f1:=hf 1;have f2:=hf 2;have f3:=hf 3;have f4:=hf 4;have f5:=hf 5;have f6:=hf 6;have f7:=hf 7;have Y1:=U y1;clear hΦ nJ y1 hf;go_wp2_with fail;generalize hW:World.setCell _ _ _=W;have hs:AB w2 (v.heap.size+1) 34 W:=by
  rw[←hW]
  repeat refine AB.set dQ _ _ ?_
  exact⟨Step.refl _ _,_,Y1.o⟩
 have hs:=hs.1;have hV:ah W (v.heap.size+1) 34 (aI ec 0 0):=by
  rw[←hW];exact((((((((Y1.o.aB 0 (.int .i64 ec)).aB 1 (.int .i64 0)).aB 2 (.int .i64 0)).aB 3 (.slice none 0 0)).aB 4 (.slice none 0 0)).aB 5 (.int .i64 0)).aB 6 (.int .i64 0)).aB 7 (.int .i64 0))
 clear hW c0 c1 c2 c3 c4 c5 c6 c7;have c0:=hV.cell 0;have c1:=hV.cell 1;have c2:=hV.cell 2;have c3:=hV.cell 3;have c4:=hV.cell 4;have c5:=hV.cell 5;have c6:=hV.cell 6;have c7:=hV.cell 7;simp only[aI,zf,zi] at c0 c1 c2 c3 c4 c5 c6 c7
 (try simp only[Exit.inBlock,Exit.then])
 refine bodyPost_ret (v:=dH ec 0 0) (by simp[results,Tryz.f83,go_sem,dH,c0,c1,c2,c3,c4,c5,c6,c7]) rfl ⟨rfl,F',?_⟩;exact⟨Gi.o _ _ _ _ _ H2.o.1 hs (λk hk e=>a1 (e▸hk)) (λk hk=>oQ),H2.o.2.inner hs (λk hk=>.inr oQ)⟩
theorem R6 (jL:∀k,F k→k<v.heap.size) (h5:5≤v.heap.size) (bT:Stable Φ) (hc:∀W,Below v.heap.size v W→Calls Tryz.prog 34 #[.pointer (some ⟨fb,0,none⟩)] W λe w'=>e=.returned (.int .i64 ec)∧∃F',Φ w' F'∧Step F W F' w'):
  Calls Tryz.prog 89 #[.pointer (some ⟨fb,0,none⟩),bK Yu gU path data] v λe w'=>e=.returned (dH ec 0 0)∧∃F',Φ w' F'∧Step F v F' w':=by
 obtain⟨w1,aP⟩:∃w1,(v.alloc (.cells #[.int .i64 Yu,.int .i64 gU,.int .i64 0,.string path,.string ⟨#[]⟩,.int .i64 0,data] 40)).alloc (.cells #[.int .i64 0,.int .i64 0,.int .i64 0,.slice none 0 0,.slice none 0 0,.int .i64 0,.int .i64 0,.int .i64 0] 34)=w1:=⟨_,rfl⟩
 obtain⟨aM,aF,hz1⟩:=boxes [(yZ Yu gU path data,40),(aI 0 0 0,34)] v w1 (by rw[←aP];rfl);have x1:ah w1 (v.heap.size+1) 34 (aI 0 0 0):=aM 1 _ rfl;have wT:=U aP;have HB:=U aF;have X1:=U x1;have HC:=U hc;have G8:=U jL;have Gi:=U bT;have hz:w1.heap.size=v.heap.size+2:=by simpa using hz1
 clear hc jL bT aM aF hz1 aP x1;unfold bK;go_enter Tryz.func89,Tryz.ntmps89;go_wp2_with fail;rw[wT.o];refine(HC.o w1 HB.o).mono ?_;rintro e w2 ⟨rfl,F',hΦ,nJ⟩;have nM:¬F (v.heap.size+1):=λhf=>by have:=G8.o _ hf;omega
 have y1:=X1.o.step nJ nM;have a1:=nJ.apart X1.o.lt nM;have H2:=U (And.intro hΦ ((Step.of_below HB.o F).trans nJ));have hf:=λj=>y1.free j;have c0:=y1.cell 0;have c1:=y1.cell 1;have c2:=y1.cell 2;have c3:=y1.cell 3;have c4:=y1.cell 4;have c5:=y1.cell 5;have c6:=y1.cell 6;have c7:=y1.cell 7;simp only[aI,zf,zi] at c0 c1 c2 c3 c4 c5 c6 c7;have f0:=hf 0;have f1:=hf 1;have f2:=hf 2;have f3:=hf 3;have f4:=hf 4;have f5:=hf 5;have f6:=hf 6;have f7:=hf 7;have Y1:=U y1;clear hΦ nJ y1 hf;go_wp2_with fail;generalize hW:World.setCell _ _ _=W;have hs:AB w2 (v.heap.size+1) 34 W:=by
  rw[←hW]
  repeat refine AB.set dQ _ _ ?_
  exact⟨Step.refl _ _,_,Y1.o⟩
 have hs:=hs.1;have hV:ah W (v.heap.size+1) 34 (aI ec 0 0):=by
  rw[←hW];exact((((((((Y1.o.aB 0 (.int .i64 ec)).aB 1 (.int .i64 0)).aB 2 (.int .i64 0)).aB 3 (.slice none 0 0)).aB 4 (.slice none 0 0)).aB 5 (.int .i64 0)).aB 6 (.int .i64 0)).aB 7 (.int .i64 0))
 clear hW c0 c1 c2 c3 c4 c5 c6 c7;have c0:=hV.cell 0;have c1:=hV.cell 1;have c2:=hV.cell 2;have c3:=hV.cell 3;have c4:=hV.cell 4;have c5:=hV.cell 5;have c6:=hV.cell 6;have c7:=hV.cell 7;simp only[aI,zf,zi] at c0 c1 c2 c3 c4 c5 c6 c7
 (try simp only[Exit.inBlock,Exit.then])
 refine bodyPost_ret (v:=dH ec 0 0) (by simp[results,Tryz.f89,go_sem,dH,c0,c1,c2,c3,c4,c5,c6,c7]) rfl ⟨rfl,F',?_⟩;exact⟨Gi.o _ _ _ _ _ H2.o.1 hs (λk hk e=>a1 (e▸hk)) (λk hk=>oQ),H2.o.2.inner hs (λk hk=>.inr oQ)⟩
theorem R7 (jL:∀k,F k→k<v.heap.size) (h5:5≤v.heap.size) (bT:Stable Φ) (hc:∀W,Below v.heap.size v W→Calls Tryz.prog 91 #[.pointer (some ⟨fb,0,none⟩),.string path] W λe w'=>e=.returned (.tuple #[.int .i64 nc,.int .i64 ec])∧∃F',Φ w' F'∧Step F W F' w'):
  Calls Tryz.prog 90 #[.pointer (some ⟨fb,0,none⟩),bK Yu gU path data] v λe w'=>e=.returned (dH ec nc 0)∧∃F',Φ w' F'∧Step F v F' w':=by
 obtain⟨w1,aP⟩:∃w1,(v.alloc (.cells #[.int .i64 Yu,.int .i64 gU,.int .i64 0,.string path,.string ⟨#[]⟩,.int .i64 0,data] 40)).alloc (.cells #[.int .i64 0,.int .i64 0,.int .i64 0,.slice none 0 0,.slice none 0 0,.int .i64 0,.int .i64 0,.int .i64 0] 34)=w1:=⟨_,rfl⟩
 obtain⟨aM,aF,hz1⟩:=boxes [(yZ Yu gU path data,40),(aI 0 0 0,34)] v w1 (by rw[←aP];rfl);have x1:ah w1 (v.heap.size+1) 34 (aI 0 0 0):=aM 1 _ rfl;have wT:=U aP;have HB:=U aF;have X1:=U x1;have HC:=U hc;have G8:=U jL;have Gi:=U bT;have hz:w1.heap.size=v.heap.size+2:=by simpa using hz1
 clear hc jL bT aM aF hz1 aP x1;unfold bK;go_enter Tryz.func90,Tryz.ntmps90;go_wp2_with fail;rw[wT.o];refine(HC.o w1 HB.o).mono ?_;rintro e w2 ⟨rfl,F',hΦ,nJ⟩;have nM:¬F (v.heap.size+1):=λhf=>by have:=G8.o _ hf;omega
 have y1:=X1.o.step nJ nM;have a1:=nJ.apart X1.o.lt nM;have H2:=U (And.intro hΦ ((Step.of_below HB.o F).trans nJ));have hf:=λj=>y1.free j;have c0:=y1.cell 0;have c1:=y1.cell 1;have c2:=y1.cell 2;have c3:=y1.cell 3;have c4:=y1.cell 4;have c5:=y1.cell 5;have c6:=y1.cell 6;have c7:=y1.cell 7;simp only[aI,zf,zi] at c0 c1 c2 c3 c4 c5 c6 c7;have f0:=hf 0;have f1:=hf 1;have f2:=hf 2;have f3:=hf 3;have f4:=hf 4;have f5:=hf 5;have f6:=hf 6;have f7:=hf 7;have Y1:=U y1;clear hΦ nJ y1 hf;go_wp2_with fail;generalize hW:World.setCell _ _ _=W;have hs:AB w2 (v.heap.size+1) 34 W:=by
  rw[←hW]
  repeat refine AB.set dQ _ _ ?_
  exact⟨Step.refl _ _,_,Y1.o⟩
 have hs:=hs.1;have hV:ah W (v.heap.size+1) 34 (aI ec nc 0):=by
  rw[←hW];exact((((((((((Y1.o.aB 1 (.int .i64 nc)).aB 0 (.int .i64 ec)).aB 0 (.int .i64 ec)).aB 1 (.int .i64 nc)).aB 2 (.int .i64 0)).aB 3 (.slice none 0 0)).aB 4 (.slice none 0 0)).aB 5 (.int .i64 0)).aB 6 (.int .i64 0)).aB 7 (.int .i64 0))
 clear hW c0 c1 c2 c3 c4 c5 c6 c7;have c0:=hV.cell 0;have c1:=hV.cell 1;have c2:=hV.cell 2;have c3:=hV.cell 3;have c4:=hV.cell 4;have c5:=hV.cell 5;have c6:=hV.cell 6;have c7:=hV.cell 7;simp only[aI,zf,zi] at c0 c1 c2 c3 c4 c5 c6 c7
 (try simp only[Exit.inBlock,Exit.then])
 refine bodyPost_ret (v:=dH ec nc 0) (by simp[results,Tryz.f90,go_sem,dH,c0,c1,c2,c3,c4,c5,c6,c7]) rfl ⟨rfl,F',?_⟩;exact⟨Gi.o _ _ _ _ _ H2.o.1 hs (λk hk e=>a1 (e▸hk)) (λk hk=>oQ),H2.o.2.inner hs (λk hk=>.inr oQ)⟩
end
section
variable {v:World} {fb:Nat} {F:Nat→Prop} {Φ:World→(Nat→Prop)→Prop} {ec nc mc gU:Int} {path:ByteArray} {data:Value}
theorem OU {i fn:Nat} (lN:∀args w,(callFunc fn args).run Tryz.prog w=.ok (.enter fn args) w) (hi:i<1000) (hk:∀φ,vC φ→φ i=some (xQ fn)) (jL:∀k,F k→k<v.heap.size) (h5:5≤v.heap.size) (bT:Stable Φ)
  (hp:∀W,Below v.heap.size v W→Calls Tryz.prog fn #[.pointer (some ⟨fb,0,none⟩),bK i gU path data] W λe w'=>e=.returned (dH ec nc mc)∧∃F',Φ w' F'∧Step F W F' w'):
  Calls Tryz.prog 16 #[.pointer (some ⟨fb,0,none⟩),bK i gU path data] v λe w'=>e=.returned (dH ec nc mc)∧∃F',Φ w' F'∧Step F v F' w':=by
 obtain⟨w1,aP⟩:∃w1,(v.alloc (.cells #[.int .i64 i,.int .i64 gU,.int .i64 0,.string path,.string ⟨#[]⟩,.int .i64 0,data] 40)).alloc (.cells #[.int .i64 0,.int .i64 0,.int .i64 0,.slice none 0 0,.slice none 0 0,.int .i64 0,.int .i64 0,.int .i64 0] 34)=w1:=⟨_,rfl⟩
 obtain⟨aM,aF,hz1⟩:=boxes [(yZ i gU path data,40),(aI 0 0 0,34)] v w1 (by rw[←aP];rfl);have x0:ah w1 v.heap.size 40 (yZ i gU path data):=aM 0 _ rfl;have x1:ah w1 (v.heap.size+1) 34 (aI 0 0 0):=aM 1 _ rfl;have s0:=x0.cell 0;simp only[yZ,zf] at s0;have wT:=U aP;have HB:=U aF;have X0:=U x0;have X1:=U x1;have HP:=U hp;have G8:=U jL;have Gi:=U bT;have Hk:=U hk;have Hi:=U hi;have hz:w1.heap.size=v.heap.size+2:=by simpa using hz1
 clear hp jL bT aM aF hz1 x0 x1 hk hi;unfold bK;go_enter Tryz.func16,Tryz.ntmps16;go_wp2_with fail;clear aP;refine wp_region_noPanic ?_;refine ak (S:=(λW=>W.cell? ⟨v.heap.size,0,none⟩=some (.int .i64 i))) (m:=8) kQ s0 (λaj=>?_);refine te 1 aj ?_;refine te 2 aj ?_;refine rE 0 λK hK=>?_;go_simp;refine(Xy w1.drew).mono ?_;rintro e w2 ⟨m,n,φ,rfl,hm,hM,hT,aJ⟩;have aJ:=((zn w1.heap.size w1).drew).trans aJ;have hs:=((X0.o.below aJ).cell 0)
 simp only[yZ,zf] at hs;have hl:=vC.look hM Hi.o (Hk.o φ hT);have bH:=U aJ;clear aJ;go_wp2_with fail;refine hK.out _ _ (λ_=>hs) (λhS=>?_);have bQ:=hS dQ;clear hS hK K
 try simp only[Act.put,zh,zk,zl]
 refine rE 3 λK hK=>?_;go_simp;refine hK.out _ _ (λ_=>hs) (λhS=>?_);have bV:=hS dQ;clear hS hK K
 try simp only[Act.put,zh,zk,zl]
 refine te 4 bV ?_;refine te 5 bV ?_;refine te 6 bV ?_;refine te 7 bV ?_;refine vF 8 ?_;refine aD ?_;have x2:=X0.o.below bH.o;have z0:=x2.cell 0;have z1:=x2.cell 1;have z2:=x2.cell 2;have z3:=x2.cell 3;have z4:=x2.cell 4;have z5:=x2.cell 5;have z6:=x2.cell 6;simp only[yZ,zf,zi] at z0 z1 z2 z3 z4 z5 z6;have aed:=U (HB.o.trans (bH.o.mono oQ));have X2:=U (X1.o.below bH.o);clear x2 hs hl hM hT;go_wp2_with fail;refine(HP.o w2 aed.o).mono ?_;rintro e w3 ⟨rfl,F',hΦ,lg⟩;have hzz:=bH.o.size;have nM:¬F (v.heap.size+1):=λhf=>by have:=G8.o _ hf;omega
 have y1:=X2.o.step lg nM;have a1:=lg.apart X2.o.lt nM;have H2:=U (And.intro hΦ ((Step.of_below aed.o F).trans lg));have hf:=λj=>y1.free j;have c0:=y1.cell 0;have c1:=y1.cell 1;have c2:=y1.cell 2;have c3:=y1.cell 3;have c4:=y1.cell 4;have c5:=y1.cell 5;have c6:=y1.cell 6;have c7:=y1.cell 7;simp only[aI,zf,zi] at c0 c1 c2 c3 c4 c5 c6 c7;have f0:=hf 0;have f1:=hf 1;have f2:=hf 2;have f3:=hf 3;have f4:=hf 4;have f5:=hf 5;have f6:=hf 6;have f7:=hf 7;have Y1:=U y1;unfold dH;clear hΦ lg y1 hf z0 z1 z2 z3 z4 z5 z6;go_wp2_with fail;generalize hW:World.setCell _ _ _=W;have hs:AB w3 (v.heap.size+1) 34 W:=by
  rw[←hW]
  repeat refine AB.set dQ _ _ ?_
  exact⟨Step.refl _ _,_,Y1.o⟩
 have hs:=hs.1;have hV:ah W (v.heap.size+1) 34 (aI ec nc mc):=by
  rw[←hW];exact((((((((Y1.o.aB 0 (.int .i64 ec)).aB 1 (.int .i64 nc)).aB 2 (.int .i64 mc)).aB 3 (.slice none 0 0)).aB 4 (.slice none 0 0)).aB 5 (.int .i64 0)).aB 6 (.int .i64 0)).aB 7 (.int .i64 0))
 clear hW c0 c1 c2 c3 c4 c5 c6 c7;have c0:=hV.cell 0;have c1:=hV.cell 1;have c2:=hV.cell 2;have c3:=hV.cell 3;have c4:=hV.cell 4;have c5:=hV.cell 5;have c6:=hV.cell 6;have c7:=hV.cell 7;simp only[aI,zf,zi] at c0 c1 c2 c3 c4 c5 c6 c7
 (try simp only[Exit.inBlock,Exit.then])
 refine bodyPost_ret (v:=dH ec nc mc) (by simp[results,Tryz.f16,go_sem,dH,c0,c1,c2,c3,c4,c5,c6,c7]) rfl ⟨rfl,F',?_⟩;exact⟨Gi.o _ _ _ _ _ H2.o.1 hs (λk hk e=>a1 (e▸hk)) (λk hk=>oQ),H2.o.2.inner hs (λk hk=>.inr oQ)⟩
end
end
end Go.Proofs.YtdjdpeadohobmaaGreatDoor
