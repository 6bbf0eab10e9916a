/- A part of the walk below the law: what is proved here is used by later parts; no further condition. -/
import Derived.Defers
import Derived.Recover
import Derived.Test.YtdjdpeadohobmaaGreatDoorK03
import Derived.Test.YtdjdpeadohobmaaGreatDoorK07
import Derived.Test.YtdjdpeadohobmaaGreatDoorK24
import Derived.Test.YtdjdpeadohobmaaGreatDoorK25
import Derived.Test.YtdjdpeadohobmaaGreatDoorK26
import Derived.Test.YtdjdpeadohobmaaGreatDoorK33
import Derived.Test.YtdjdpeadohobmaaGreatDoorK34
import Derived.Test.YtdjdpeadohobmaaGreatDoorK35
import Derived.Test.YtdjdpeadohobmaaGreatDoorK37
import Derived.Test.YtdjdpeadohobmaaGreatDoorK38
set_option linter.unusedVariables false
set_option linter.unusedSimpArgs false
set_option maxRecDepth 100000
set_option maxHeartbeats 20000000
namespace Go.Proofs.YtdjdpeadohobmaaGreatDoor
theorem EC (l:Bytes):∀e,cnt l e≤e
 |0=>Nat.le_refl _
 |e+1=>by
  have:=EC l e;unfold cnt
  split<;>omega
theorem cnt_lt {l:Bytes}:∀{e m:Nat},m<e→aG l m=false→cnt l e<e
 |e+1,m,hm,h=>by
  have:=EC l e;unfold cnt;by_cases Vi:m=e
  ·subst Vi
   rw[h];simp;omega
  ·have:=cnt_lt (e:=e) (m:=m) (by omega) h
   split<;>omega
section
open Go.RowKit Go.Shelf O
attribute [local go_sem] Oper.semAt_some
section
variable {w:World} {a:Option Addr} {l:Bytes} {c n:Nat}
theorem QV {base g Bk:Nat} (ho:Own 5 base w (some ⟨g,0,none⟩) c (l.map aH)) (hl:l.length=480) (hB:Bk≤3840) (eD:∀k,k<Bk→aG l k=true):
  Calls Tryz.prog 322 #[.slice (some ⟨g,0,none⟩) 480 c,.int .i64 Bk] w λe w'=>e=.returned (.tuple #[.int .i64 0,.bool false])∧Kept g w w':=by
 have HO:=U ho;have H1:=U eD;clear ho eD;have vL:min (Bk:Int) 3840=Bk:=oQ
 go_enter Tryz.func322,Tryz.ntmps322;go_wp2_with fail;go_loopw [9] (λv wr=>∃(k:Nat),k≤Bk∧v=.int .i64 k∧Own 5 base wr (some ⟨g,0,none⟩) c (l.map aH)∧Kept g w wr) (λv _=>Bk - (intOf v).toNat)
 case atStart=>exact⟨0,oQ,rfl,HO.o,Kept.refl _ _⟩
 case round=>
  obtain⟨k,hk,rfl,ho,iX⟩:=hrel;have HOk:=U ho;have HKk:=U iX;clear ho iX;by_cases U_:k<Bk
  ·have Pj:(k:Int)<Bk:=oQ
   go_wp2_with fail;refine(EH HOk.o hl (by omega:k<3840) true).mono ?_;rintro e w1 ⟨rfl,Yn,pX⟩;have HO1:=U Yn;have HK1:=U (HKk.o.trans pX);clear Yn pX;have hb:aG l k=true:=H1.o k U_;have hf:(!(aG l k==true))=false:=by rw[hb];rfl
   have kM:aY l k true=l:=by unfold aY;rw[if_pos hb]
   have Zg:=U kM;clear kM;rw[hf];go_wp2_with fail;refine⟨⟨k+1,oQ,by go_num,?_,HK1.o⟩,by simp[intOf];omega⟩;have:=HO1.o;rw[Zg.o] at this;exact this
  ·obtain rfl:k=Bk:=oQ
   go_wp2_with fail;go_ret2;exact⟨rfl,HKk.o⟩
end
end
section
open Go.RowKit Go.Shelf Go.Maps O
attribute [local go_sem] Oper.semAt_some
section
variable {v w w':World} {sp d B p b Bk n:Nat} {C E:Nat→Bytes} {L:Wl} {q:Bool} {Fb F F':Nat→Prop} {bits:Value} {mk:Bool}
theorem gX.anp {g c:Nat} (h:gX v w p b sp d Bk C E L q Fb (.slice (some ⟨g,0,none⟩) 480 c) mk):p≠g:=by
 rcases h.bit with⟨h1,_⟩|⟨g',c',h1,h2,h3,h4,h5,h6⟩
 ·cases h1
 ·injection h1 with h1 h7 h8
  injection h1 with h1;injection h1 with h1;subst h1 h8;exact λe=>h5 e.symm
def vZ:List PanicEntry:=[{v:=.iface 273 (.int .i64 7),recovered:=false}]
theorem aan (w:World):Calls Tryz.prog 136 #[.int .i64 7] w λe w'=>e=.panicked vZ∧w'=w:=by
 go_enter Tryz.func136,Tryz.ntmps136;go_wp2_with fail;exact⟨rfl,rfl,rfl⟩
theorem rY (hV:Base v sp d B C) (h:Wk v w p b sp d Bk C E n F) (hB:Bk≤3840) (eD:∀k,k<Bk→aG (E 0) k=true):
  Calls Tryz.prog 272 #[.pointer (some ⟨p,0,none⟩)] w λe w'=>e=.panicked vZ∧∃F',Mv d v F w F' w':=by
 have c1:w.cell? ⟨p,1,none⟩=some (.int .i64 Bk):=by
  obtain⟨L,q,Fb,bits,mk,h,hn,rfl⟩:=h;exact h.cells.cell 1
 have QW:∀w' L q Fb g c mk,gX v w' p b sp d Bk C E L q Fb (.slice (some ⟨g,0,none⟩) 480 c) mk→w'.cell? ⟨p,1,none⟩=some (.int .i64 Bk):=λw' L q Fb g c mk h=>h.cells.cell 1;have Hp:=U QW;have H:=U h;have HV:=U hV;have CZ:=U eD;clear h hV QW eD;go_enter Tryz.func272,Tryz.ntmps272;go_wp2_with fail;refine wp_region_noPanic ?_;refine ak (S:=(λW=>W.cell? ⟨p,1,none⟩=some (.int .i64 Bk))) (m:=11) kQ c1 (λaj=>?_);refine te 0 aj ?_;refine te 2 aj ?_;refine te 3 aj ?_;refine te 4 aj ?_;refine te 5 aj ?_;refine rE 1 λK hK=>?_;go_simp;with_reducible refine(uZ HV.o (H.o.below (zn _ _).drew)).mono ?_
 rintro e w1 ⟨g,c,rfl,L,q,Fb,mk,h1,hn,eD⟩;have H1:=U (And.intro h1 eD);go_wp2_with fail;refine hK.out _ _ (λ_=>(Hp.o _ _ _ _ _ _ _ h1)) (λhS=>?_);have bQ:=hS dQ;clear hS hK K
 try simp only[Act.put,zh,zk,zl]
 refine rE 6 λK hK=>?_;go_simp;with_reducible refine(QV H1.o.1.row.1 H1.o.1.row.2 hB CZ.o).mono ?_
 rintro e w2 ⟨rfl,eO⟩;have H3:=U (And.intro (H1.o.2.kept eO (.inl (.inr (.inr rfl)))) (H1.o.1.cells.kept eO (H1.o.1.anp)));go_wp2_with fail;refine hK.out _ _ (λ_=>(H3.o.2.cell 1)) (λhS=>?_);have bV:=hS dQ;clear hS hK K
 try simp only[Act.put,zh,zk,zl]
 refine te 7 bV ?_;refine te 8 bV ?_;refine te 9 bV ?_;refine te 10 bV ?_;refine vF 11 ?_;refine aD ?_;go_wp2_with fail;refine(aan _).mono ?_;rintro e w' ⟨rfl,rfl⟩;refine⟨rfl,rfl,_,Mv.after (zn _ _).drew H3.o.1 H.o.quiet (λk hk=>(H.o.lt k hk).2)⟩
end
section
variable {v w:World} {sp d B b n id:Nat} {C E:Nat→Bytes} {F:Nat→Prop} {k l:Int} {c:Bytes} {D R:List Int} {r:Int}
theorem fH.skip {E':nR} {i:Nat} (h:fH E E' B id (GN D R c i) (min i (fT c.length))) (hi:fT c.length≤i):fH E E' B id (GN D R c (i+1)) (min (i+1) (fT c.length)):=
 h.to (λb=>⟨λ⟨j,j1,j2,j3⟩=>⟨j,oQ,j2,j3⟩,λ⟨j,j1,j2,j3⟩=>⟨j,oQ,j2,j3⟩⟩) oQ
theorem Wz {p t1:Nat} (hV:Base v sp d B C) (h:Wk v w p b sp d B C E n F) (nM:1≤n) (hF:mh E B id k l c D r R) (x1:ah w t1 3 [.int .i64 id]):
  Calls Tryz.prog 229 #[.pointer (some ⟨p,0,none⟩),.pointer (some ⟨t1,0,none⟩)] w λe w'=>(∃x,e=.returned x)∧∃E' F',fH E E' B id (Has id D r R c.length) (1+need c.length)∧Wk v w' p b sp d B C E' n F'∧Mv d v F w F' w':=by
 have hB:=hV.few;have c1:=x1.cell 0;simp only[zf] at c1;have gD:fT c.length≤256:=by have:=hF.iW.few;unfold fT;omega
 have H:=U h;have HV:=U hV;have HF:=U hF;have iK:=U h.lt;clear h hV hF x1;go_enter Tryz.func229,Tryz.ntmps229;go_wp2_with fail;refine(mM HV.o H.o HF.o).mono ?_;rintro e w1 ⟨hb,rfl,xk,hH,F1,h1,lJ,eD⟩;have H1:=U h1;have HH:=U hH;have CZ:=U eD;clear h1 eD hH c1;go_wp2_with fail;go_loopw [9] (λvv wr=>∃(i:Nat) (F':Nat→Prop) (Ex:nR),i≤256∧vv=.int .i64 i∧fH E Ex B id (GN D R c i) (min i (fT c.length))∧Wk v wr p b sp d B C Ex n F'∧¬F' hb∧bE wr hb id k l c.length D r R∧Mv d v F w F' wr) (λvv _=>256 - (intOf vv).toNat)
 case atStart=>exact⟨0,F1,E,oQ,rfl,(fH.refl E B id).to (λb=>⟨λh=>h.elim,λ⟨j,h,_⟩=>oQ⟩) oQ,H1.o,lJ,HH.o,CZ.o⟩
 case round=>
  obtain⟨i,F',Ex,hi,rfl,hFr,hW,GQ,Pw,hM⟩:=hrel;have HFr:=U hFr;have HW:=U hW;have vo:=U Pw;have HM:=U hM;clear hFr hW Pw hM;by_cases hiq:i<256
  ·have Te:(i:Int)<256:=oQ
   go_wp2_with fail;refine(pF vo.o hiq).mono ?_;rintro e w' ⟨rfl,rfl⟩;by_cases BL:i<fT c.length
   ·obtain⟨q,g1,g2,g3,g4,g5,g6, -⟩:=HF.o.iW.ptr i BL
    have iq:¬((q:Int)=0):=oQ
    have hqb:((q:Int) !=0)=true:=by simpa using iq
    rw[g1];go_wp2_with fail;refine(kr (id:=q) HV.o HW.o nM oQ false).mono ?_;rintro e w2 ⟨⟨x,rfl⟩,F2,h2,bC⟩;have HZ:=U (And.intro (HFr.o.page HF.o BL hB.2 (HW.o.EF HV.o.len) g1) (And.intro h2 (And.intro (bC.apart vo.o.lt GQ) (And.intro (vo.o.mv bC GQ) (HM.o.trans bC)))));clear h2 bC;go_wp2_with fail;exact⟨⟨i+1,F2,_,oQ,by go_num,HZ.o⟩,by simp[intOf];omega⟩
   ·rw[HF.o.iW.nul i oQ hiq]
    go_wp2_with fail;exact⟨⟨i+1,F',Ex,oQ,by go_num,HFr.o.skip oQ,HW.o,GQ,vo.o,HM.o⟩,by simp[intOf];omega⟩
  ·obtain rfl:i=256:=oQ
   have hown:=HF.o.iW.own;obtain⟨q,rfl,hqB,hqi,iq⟩:=HF.o.iW.ES hB.2;have NP:=vo.o.1.cell 20 _ (kI vo.o.2.1);have c0:=vo.o.1.cell 0 _ rfl;have ajf:∀x,GN D R c 256 x↔∃j,j<fT c.length∧pg D R j=(x:Int):=λx=>⟨λ⟨j,j1,j2,j3⟩=>⟨j,j2,j3⟩,λ⟨j,j2,j3⟩=>⟨j,oQ,j2,j3⟩⟩
   have hF0:=HFr.o.to ajf (k':=fT c.length) oQ;have ajg:¬∃j,j<fT c.length∧pg D R j=(id:Int):=by
    rintro⟨j,j1,j2⟩;obtain⟨p',g1,g2,g3,g4, -⟩:=HF.o.iW.ptr j j1;omega
   by_cases Fg:fT c.length≤16
   ·have au3:q=0:=iq.2 Fg
    subst au3
    have mZ:=(hF0.step hown.2.1 hB.2 (HW.o.EF HV.o.len) hown.2.2 ajg).to (G':=Has id D ((0:Nat):Int) R c.length) (k':=1+need c.length) (λx=>by
     unfold Has;constructor
     ·rintro(h1|h1)
      ·exact .inr (.inr h1)
      ·exact .inl h1
     ·rintro(h1|h1|h1)
      ·exact .inr h1
      ·omega
      ·exact .inl h1) (by unfold need;rw[if_neg oQ];omega)
    have Gy:=U mZ;clear mZ hF0 ajf ajg;go_wp2_with fail;refine(kr (id:=id) HV.o HW.o nM oQ false).mono ?_;rintro e w2 ⟨⟨x,rfl⟩,F2,h2,bC⟩;have HZ:=U (And.intro h2 (HM.o.trans bC));clear h2 bC;go_wp2_with fail;go_end0;exact⟨⟨_,rfl⟩,_,F2,Gy.o,HZ.o.1,HZ.o.2⟩
   ·have uf:¬((q:Int)=0):=λe=>Fg (iq.1 oQ)
    obtain⟨q',e1,g2,g3,g4,g5⟩:=HF.o.iW.EP oQ;obtain rfl:q=q':=oQ
    have SN:¬∃j,j<fT c.length∧pg D R j=(q:Int):=by
     rintro⟨j,j1,j2⟩;obtain⟨p',f1,f2,f3,f4,f5, -⟩:=HF.o.iW.ptr j j1;exact f5 oQ
    have Jh:=hF0.step hqB hB.2 (HW.o.EF HV.o.len) g5 SN;have HF1:=U Jh;clear Jh hF0 ajf;go_wp2_with fail;refine(kr (id:=q) HV.o HW.o nM oQ false).mono ?_;rintro e w2 ⟨⟨x,rfl⟩,F2,h2,bC⟩
    have mZ:=(HF1.o.step hown.2.1 hB.2 (h2.EF HV.o.len) hown.2.2 (λh=>h.elim ajg (λe=>hqi e.symm))).to (G':=Has id D (q:Int) R c.length) (k':=1+need c.length) (λx=>by
     unfold Has;constructor
     ·rintro((h1|h1)|h1)
      ·exact .inr (.inr h1)
      ·exact .inr (.inl ⟨oQ,oQ⟩)
      ·exact .inl h1
     ·rintro(h1|h1|h1)
      ·exact .inr h1
      ·exact .inl (.inr oQ)
      ·exact .inl (.inl h1)) (by unfold need;rw[if_pos oQ];omega)
    have Gy:=U mZ;have KV:=vo.o.mv bC GQ;have d0:=KV.1.cell 0 _ rfl;have HZ:=U (And.intro h2 (HM.o.trans bC));clear mZ h2 bC KV c0 NP;go_wp2_with fail;refine(kr (id:=id) HV.o HZ.o.1 nM oQ false).mono ?_;rintro e w3 ⟨⟨x,rfl⟩,F3,h3,dP⟩;have HY:=U (And.intro h3 (HZ.o.2.trans dP));clear h3 dP;go_wp2_with fail;go_end0;exact⟨⟨_,rfl⟩,_,F3,Gy.o,HY.o.1,HY.o.2⟩
theorem WA (hV:Base v sp d B C) (h:cB v w b sp d C E n F) (hF:mh E B id k l c D r R):
  Calls Tryz.prog 148 #[.agg #[.pointer (some ⟨b,0,none⟩),.int .i64 B],.int .i64 id] w λe w'=>e=.returned (.int .i64 0)∧∃E' F',fH E E' B id (Has id D r R c.length) (1+need c.length)∧cB v w' b sp d C E' (n+2) F'∧Mv d v F w F' w':=by
 obtain⟨w1,aP⟩:∃w1,(w.alloc (.cells #[.pointer (some ⟨b,0,none⟩),.int .i64 B] 85)).alloc (.cells #[.int .i64 id] 3)=w1:=⟨_,rfl⟩
 obtain⟨aM,aF,hz1⟩:=boxes [([.pointer (some ⟨b,0,none⟩),.int .i64 B],85),([.int .i64 id],3)] w w1 (by rw[←aP];rfl);have x0:ah w1 w.heap.size 85 [.pointer (some ⟨b,0,none⟩),.int .i64 B]:=aM 0 _ rfl;have x1:ah w1 (w.heap.size+1) 3 [.int .i64 id]:=aM 1 _ rfl;have y0:=x0.cell 0;have y1:=x0.cell 1;simp only[zf,zi] at y0 y1;have bA:=h.lt;have H:=U h;have H1:=U (h.below aF);have HV:=U hV;have HF:=U hF;have X:=U x1;have HB:=U aF;have iK:=U bA;have vR:w1.heap.size=w.heap.size+2:=by simpa using hz1
 clear h hV aM aF hz1 x0 x1 bA hF;go_enter Tryz.func148,Tryz.ntmps148;go_wp2_with fail;refine(Da HV.o H1.o (fn:=229) (caps:=#[.pointer (some ⟨w.heap.size+1,0,none⟩)]) (λ_ _=>rfl) (PE:=λE'=>fH E E' B id (Has id D r R c.length) (1+need c.length)) (n':=n+1) (λw2 p b' G F1 hW hG fA=>?_)).mono ?_
 ·have hn:∀i,w.heap.size≤i→¬F i:=λi hi hf=>by have:=(iK.o _ hf).2;omega
  refine(Wz HV.o (hW.mono (XO n)) oQ HF.o (hG.aW X.o dQ (hn _ oQ))).mono ?_;rintro e w3 ⟨hx,E',F2,h0,h1,h2⟩;exact⟨hx,E',F2,h0,h1,h2⟩
 rintro e w2 ⟨rfl,E',F',hE',h1,h2⟩;have HG:=U (And.intro h1 (Mv.after HB.o h2 H.o.quiet (λk hk=>(H.o.lt k hk).2)));clear h1 h2 aP y0 y1;go_wp2_with fail;go_ret;exact⟨rfl,E',F',hE',HG.o.1,HG.o.2⟩
end
section
variable {v w:World} {sp d B b n id:Nat} {C E:Nat→Bytes} {F:Nat→Prop} {k l:Int} {c:Bytes} {D R:List Int} {r:Int}
theorem WB {p hb:Nat} (hH:bE w hb id k l 0 D r R):Calls Tryz.prog 238 #[.pointer (some ⟨p,0,none⟩),.pointer (some ⟨hb,0,none⟩)] w λe w'=>(∃x,e=.returned x)∧w'=w:=by
 have c3:=hH.1.cell 3 _ rfl;have hl:=hH.lt;clear hH;go_enter Tryz.func238,Tryz.ntmps238;go_wp2_with fail
 first
  |exact⟨⟨_,rfl⟩,rfl⟩
  |(refine bodyPost_ret (results_none rfl _ _ _) rfl ?_
    exact⟨⟨_,rfl⟩,rfl⟩)
theorem aaT {Di:List Int} {i:Nat} (hD:Di.length=16) (hi:i<16) (h:∀j,pg Di aT j=if j<i then 0 else pg D aT j) (j:Nat):pg (AY Di i 0) (vP aT i 0) j=if j<i+1 then 0 else pg D aT j:=by
 rw[aay hD pG oQ,h];by_cases h1:j=i
 ·subst h1
  rw[if_pos rfl,if_pos oQ]
 ·rw[if_neg h1]
  by_cases h2:j<i
  ·rw[if_pos h2,if_pos oQ]
  ·rw[if_neg h2,if_neg oQ]
theorem aaU {Di:List Int} (hD:Di.length=16) (h:∀j,j<256→pg Di aT j=0):Di=bN:=by
 refine List.ext_getElem (by rw[hD,gI]) (λi h1 h2=>?_);have h3:=h i oQ;have h4:=KX i;unfold pg at h3 h4;rw[if_pos oQ,z_,zu h1,zaf] at h3;rw[if_pos oQ,z_,zu h2,zaf] at h4;rw[h3,h4]
theorem ajh {Ex:nR} (hB:B≤3840) (hF:mh E B id k l c D r R) (hn:fT c.length≤16) (h:fH E Ex B id (GN D R c 256) (min 256 (fT c.length))):Cg E (saved Ex id k l 0 bN 0 aT) B id k l c D r R:=by
 have hown:=hF.iW.own;have hr:r=0:=hF.iW.row0 hn;have h0:fT ([]:Bytes).length=0:=rfl;have aoe:¬GN D R c 256 id:=by
  rintro⟨j,j1,j2,j3⟩;obtain⟨p',g1,g2,g3,g4, -⟩:=hF.iW.ptr j j2;omega
 have hP:uz Ex B id bN 0 aT []:=by
  refine⟨gI,pG,sQ,λi hi=>by rw[h0] at hi;omega,λi _ _=>KX i,λi j hi=>by rw[h0] at hi;omega,λh=>by rw[h0] at h;omega,λ_=>rfl,hown.1,hown.2.1,(h.bits id).2 ⟨hown.2.2,aoe⟩⟩
 obtain⟨f1,f2,f3⟩:=Ba hP hB hF.kind hF.links (λ_=>rfl);have hx:(saved Ex id k l ([]:Bytes).length bN 0 aT)=saved Ex id k l 0 bN 0 aT:=rfl;rw[hx] at f1 f2 f3;have nS:∀b,b≠id→¬Has id bN 0 aT ([]:Bytes).length b:=λb hb h=>by
  unfold Has at h;rw[h0] at h;rcases h with h1|h1|⟨i,h1,_⟩<;>omega
 refine⟨⟨λb=>?_,λb dZ hbi=>?_,?_⟩,f1⟩
 ·rw[f2,h.bits]
  have:GN D R c 256 b↔(Has id D r R c.length b∧b≠id):=by
   constructor
   ·rintro⟨j,j1,j2,j3⟩
    refine⟨.inr (.inr ⟨j,j2,j3⟩),λe=>aoe (e▸⟨j,j1,j2,j3⟩)⟩
   ·rintro⟨h1|h1|⟨j,j2,j3⟩,h2⟩
    ·exact absurd h1 h2
    ·omega
    ·exact⟨j,oQ,j2,j3⟩
  rw[this]
 ·rw[f3 b (nS b hbi),h.keep b dZ hbi]
 ·rw[f2]
  have:=h.num;unfold need;rw[if_neg oQ];omega
theorem Ro {p t1 t2:Nat} (hV:Base v sp d B C) (h:Wk v w p b sp d B C E n F) (nM:1≤n) (hF:mh E B id k l c D r R) (Fg:fT c.length≤16) (x1:ah w t1 3 [.int .i64 id]) (x2:ah w t2 3 [.int .i64 0]) (nt2:¬F t2):
  Calls Tryz.prog 235 #[.pointer (some ⟨p,0,none⟩),.pointer (some ⟨t1,0,none⟩),.pointer (some ⟨t2,0,none⟩)] w λe w'=>(∃x,e=.returned x)∧∃E' F',Cg E E' B id k l c D r R∧Wk v w' p b sp d B C E' (n+2) F'∧Mv d v F w F' w':=by
 have hB:=hV.few;have c1:=x1.cell 0;have c2:=x2.cell 0;simp only[zf] at c1 c2;have hRz:=hF.row0 Fg;have hrz:=hF.iW.row0 Fg;subst hRz hrz;have H:=U h;have HV:=U hV;have HF:=U hF;have X2:=U x2;have iK:=U h.lt;clear h hV hF x1 x2;go_enter Tryz.func235,Tryz.ntmps235;go_wp2_with fail;refine(mM HV.o H.o HF.o).mono ?_;rintro e w1 ⟨hb,rfl,xk,hH,F1,h1,lJ,eD⟩;have y2:=eD.aW X2.o dQ nt2;have m2:¬F1 t2:=eD.apart X2.o.lt nt2;have d2:=y2.cell 0;simp only[zf] at d2;have htb:t2<w.heap.size:=X2.o.lt;have H1:=U h1;have HH:=U hH;have CZ:=U eD;have Y2:=U y2;clear h1 eD hH c1 c2 y2;go_wp2_with fail;refine(o_ _).mono ?_;rintro e w' ⟨⟨x,rfl⟩,rfl⟩;go_wp2_with fail;refine(EJ 0 _).mono ?_;rintro e w' ⟨rfl,rfl⟩;have dZ:((blk 0:Nat):Int)=0:=rfl;rw[dZ];go_wp2_with fail;clear d2;go_loopw [5] (λvv wr=>∃(i:Nat) (F':Nat→Prop) (Ex:nR) (Di:List Int),i≤256∧vv=.int .i64 i∧(∀j,pg Di aT j=if j<i then 0 else pg D aT j)∧fH E Ex B id (GN D aT c i) (min i (fT c.length))∧Wk v wr p b sp d B C Ex n F'∧(¬F' hb∧¬F' t2)∧bE wr hb id k l c.length Di 0 aT∧ah wr t2 3 [.int .i64 0]∧Mv d v F w F' wr) (λvv _=>256 - (intOf vv).toNat)
 case atStart=>exact⟨0,F1,E,D,oQ,rfl,λj=>sQ,(fH.refl E B id).to (λb=>⟨λh=>h.elim,λ⟨j,h,_⟩=>oQ⟩) oQ,H1.o,⟨lJ,m2⟩,HH.o,Y2.o,CZ.o⟩
 case round=>
  obtain⟨i,F',Ex,Di,hi,rfl,hDi,hFr,hW,⟨GQ,m2'⟩,Pw,hT,hM⟩:=hrel;have HDi:=U hDi;have HFr:=U hFr;have HW:=U hW;have vo:=U Pw;have HT:=U hT;have HM:=U hM;clear hDi hFr hW Pw hT hM;by_cases hiq:i<256
  ·have Te:(i:Int)<256:=oQ
   go_wp2_with fail;refine(pF vo.o hiq).mono ?_;rintro e w' ⟨rfl,rfl⟩;rw[HDi.o i,if_neg (Nat.lt_irrefl i)];by_cases BL:i<fT c.length
   ·obtain⟨q,g1,g2,g3,g4,g5,g6, -⟩:=HF.o.iW.ptr i BL
    have iq:¬((q:Int)=0):=oQ
    have hqb:((q:Int) !=0)=true:=by simpa using iq
    rw[g1];go_wp2_with fail;refine(kr (id:=q) HV.o HW.o nM oQ false).mono ?_;rintro e w2 ⟨⟨x,rfl⟩,F2,h2,bC⟩;have HZ:=U (And.intro (HFr.o.page HF.o BL hB.2 (HW.o.EF HV.o.len) g1) (And.intro h2 (And.intro (bC.apart vo.o.lt GQ) (And.intro (vo.o.mv bC GQ) (And.intro (bC.aW HT.o dQ m2') (And.intro (bC.apart HT.o.lt m2') (HM.o.trans bC)))))));clear h2 bC;go_wp2_with fail;refine(yH HZ.o.2.2.2.1 hiq 0).mono ?_;rintro e w3 ⟨⟨x,rfl⟩,hH3,gL⟩;obtain⟨z1,z2,z3,z4,z5,z6,z7⟩:=HZ.o;have dP:=z7.kept gL (.inr xk);have hR0:vP aT i 0=aT:=by unfold vP;rw[if_pos oQ]
    rw[hR0] at hH3;have hlb:=vo.o.lt;have aDM:=HT.o.lt;have dV:t2≠hb:=oQ
    have WC:=aaT vo.o.2.1 oQ HDi.o;rw[hR0] at WC;have HY:=U (And.intro WC (And.intro z1 (And.intro (z2.keep (w':=w3) (λk hk=>gL.block k (z2.lt k hk).2 (λe=>z3 (e▸hk))) dP.q' gL.size) (And.intro hH3 (And.intro (z5.kept gL dV) dP)))));clear z1 z2 z4 z5 z7 hH3 gL dP HZ WC;go_wp2_with fail;obtain⟨q1,q2,q3,q4,q5,q6⟩:=HY.o;exact⟨⟨i+1,F2,_,_,oQ,by go_num,q1,q2,q3,⟨z3,z6⟩,q4,q5,q6⟩,by simp[intOf];omega⟩
   ·rw[HF.o.iW.nul i oQ hiq]
    have WC:∀j,pg Di aT j=if j<i+1 then 0 else pg D aT j:=λj=>by
     rw[HDi.o j];by_cases h1:j=i
     ·subst h1
      rw[if_neg (Nat.lt_irrefl j),if_pos (Nat.lt_succ_self j),HF.o.iW.nul j oQ hiq]
     ·by_cases h2:j<i
      ·rw[if_pos h2,if_pos oQ]
      ·rw[if_neg h2,if_neg oQ]
    have HD3:=U WC;clear WC;go_wp2_with fail;exact⟨⟨i+1,F',Ex,Di,oQ,by go_num,HD3.o,HFr.o.skip oQ,HW.o,⟨GQ,m2'⟩,vo.o,HT.o,HM.o⟩,by simp[intOf];omega⟩
  ·obtain rfl:i=256:=oQ
   have hown:=HF.o.iW.own;have hDz:Di=bN:=aaU vo.o.2.1 (λj hj=>by rw[HDi.o j,if_pos hj]);subst hDz;have NP:=vo.o.1.cell 20 _ (kI vo.o.2.1);have e2:=HT.o.cell 0;have s3:=vo.o.1.free 3;have f3:=vo.o.1.cell 3 _ rfl;simp only[zf] at e2;have aaV:=U (ajh hB.2 HF.o Fg HFr.o);go_wp2_with fail;obtain⟨ws,IV⟩:∃ws,wr.setCell ⟨hb,3,none⟩ (.int .i64 0)=ws:=⟨_,rfl⟩
   rw[IV];have Wy:Kept hb wr ws:=by rw[←IV];exact Kept.setCell _ _ _
   have hHs:bE ws hb id k l 0 bN 0 aT:=by
    refine⟨?_,vo.o.2⟩;have h1:=IsNode.aB vo.o.1 3 (0:Int);rw[←IV];exact h1
   have TP:=HM.o.kept Wy (.inr xk);have hWs:=HW.o.keep (w':=ws) (λy hy=>Wy.block y (HW.o.lt y hy).2 (λe=>GQ (e▸hy))) TP.q' Wy.size;have HS:=U (And.intro hHs (And.intro TP hWs));clear Wy hHs TP hWs IV NP e2 s3 f3;refine(WB HS.o.1).mono ?_;rintro e w' ⟨⟨x,rfl⟩,rfl⟩;go_wp2_with fail;have rU:=aaV.o.wu.iW.EU hB.2 aaV.o.wu.kind aaV.o.wu.links;refine(u_ HV.o HS.o.2.2 HS.o.1 GQ oQ oQ rU ⟨0,rfl,oQ⟩ (aaV.o.wu.iW.rowOk hB.2)).mono ?_;rintro e w5 ⟨⟨u,rfl⟩,F5,Es,fu⟩;have HZ:=U (And.intro Es (HS.o.2.1.trans fu));clear Es fu;go_wp2_with fail;go_end0;exact⟨⟨_,rfl⟩,_,F5,aaV.o,HZ.o.1,HZ.o.2⟩
theorem Fh (hV:Base v sp d B C) (h:cB v w b sp d C E n F) (hF:mh E B id k l c D r R) (Fg:fT c.length≤16):
  Calls Tryz.prog 158 #[.agg #[.pointer (some ⟨b,0,none⟩),.int .i64 B],.int .i64 id,.int .i64 0] w λe w'=>e=.returned (.int .i64 0)∧∃E' F',Cg E E' B id k l c D r R∧cB v w' b sp d C E' (n+4) F'∧Mv d v F w F' w':=by
 obtain⟨w1,aP⟩:∃w1,((w.alloc (.cells #[.pointer (some ⟨b,0,none⟩),.int .i64 B] 85)).alloc (.cells #[.int .i64 id] 3)).alloc (.cells #[.int .i64 0] 3)=w1:=⟨_,rfl⟩
 obtain⟨aM,aF,hz1⟩:=boxes [([.pointer (some ⟨b,0,none⟩),.int .i64 B],85),([.int .i64 id],3),([.int .i64 0],3)] w w1 (by rw[←aP];rfl);have x0:ah w1 w.heap.size 85 [.pointer (some ⟨b,0,none⟩),.int .i64 B]:=aM 0 _ rfl;have x1:ah w1 (w.heap.size+1) 3 [.int .i64 id]:=aM 1 _ rfl;have x2:ah w1 (w.heap.size+2) 3 [.int .i64 0]:=aM 2 _ rfl;have y0:=x0.cell 0;have y1:=x0.cell 1;simp only[zf,zi] at y0 y1;have bA:=h.lt;have H:=U h;have H1:=U (h.below aF);have HV:=U hV;have HF:=U hF;have X:=U (And.intro x1 x2);have HB:=U aF;have iK:=U bA;have vR:w1.heap.size=w.heap.size+3:=by simpa using hz1
 clear h hV aM aF hz1 x0 x1 x2 bA hF;go_enter Tryz.func158,Tryz.ntmps158;go_wp2_with fail;refine(Da HV.o H1.o (fn:=235) (caps:=#[.pointer (some ⟨w.heap.size+1,0,none⟩),.pointer (some ⟨w.heap.size+2,0,none⟩)]) (λ_ _=>rfl) (PE:=λE'=>Cg E E' B id k l c D r R) (n':=n+3) (λw2 p b' G F1 hW hG fA=>?_)).mono ?_
 ·have hn:∀i,w.heap.size≤i→¬F i:=λi hi hf=>by have:=(iK.o _ hf).2;omega
  have hz2:=hG.size;refine(Ro HV.o (hW.mono (XO n)) oQ HF.o Fg (hG.aW X.o.1 dQ (hn _ oQ)) (hG.aW X.o.2 dQ (hn _ oQ)) (λhf=>hG.apart oQ (hn _ oQ) (fA _ hf))).mono ?_;rintro e w3 ⟨hx,E',F2,h0,h1,h2⟩;exact⟨hx,E',F2,h0,h1,h2⟩
 rintro e w2 ⟨rfl,E',F',hE',h1,h2⟩;have HG:=U (And.intro h1 (Mv.after HB.o h2 H.o.quiet (λk hk=>(H.o.lt k hk).2)));clear h1 h2 aP y0 y1;go_wp2_with fail;go_ret;exact⟨rfl,E',F',hE',HG.o.1,HG.o.2⟩
end
end
section
open O
section
variable {E E' E1 E2:nR} {B:Nat} {x:Nd} {fl A T:nU} {f:Nd} {s:Bytes}
theorem Tr.gone (h:Tr E B x [(f,s)]) (hc:Cg E E1 B 1 2 1 (b_ (ents [(f,s)])) x.D x.r x.R) (hf:fH E1 E2 B f.id (Has f.id f.D f.r f.R f.c.length) (1+need f.c.length)):Tr E2 B ⟨1,2,[],bN,0,aT⟩ []:=by
 have h1:nT E B ([]++x::[f]):=h.disk;have nY:(b_ (ents [(f,s)]))=x.c:=h.root.2.2.symm;have Ls:fH E E1 B x.id (λb=>x.has b∧b≠x.id) (need x.c.length):=by
  have:=hc.freed;rw[nY] at this;unfold Nd.has;rw[h.root.1];exact this
 have h2:=h1.cut Ls (by rw[h.root.1,h.root.2.1];exact hc.wu);rw[h.root.1,h.root.2.1] at h2;have h3:=nT.free (A:=[⟨1,2,[],bN,0,aT⟩]) (x:=f) (T:=[]) h2 hf;have hB:=h.big;refine⟨by simpa using h3,⟨rfl,rfl,rfl⟩,sQ,sQ,sQ,h.big,λi hi=>?_⟩;have hfo:=(h.Cz (f:=f) (s:=s) sQ).iW.own;rw[hf.keep i oQ oQ,hc.freed.keep i oQ oQ];exact h.o i hi
end
end
section
open Go.RowKit Go.Shelf Go.Maps O
attribute [local go_sem] Oper.semAt_some
def Bc:List PanicEntry:=[{v:=.iface 119 (.int .i64 7),recovered:=false}]
theorem abb (w:World):Calls Tryz.prog 30 #[.int .i64 7] w λe w'=>e=.panicked Bc∧w'=w:=by
 go_enter Tryz.func30,Tryz.ntmps30;go_wp2_with fail;exact⟨rfl,rfl,rfl⟩
theorem aeS {o:Oper} {a:Act} {w:World} {x:Operand} {n:Int} {t1 t2:TypeId} (ho:o.op=.typeAssert x t1 t2 true) (h1:t1=20) (h2:t2=119) (hx:a.eval x=.iface 119 (.int .i64 n)):(execOp a.eval o).run Tryz.prog w=.ok (.value (.tuple #[.int .i64 n,.bool true])) w:=by
 subst h1 h2;unfold execOp;simp only[ho,hx]
 kernel_rfl
theorem abd (w:World):Calls Tryz.prog 45 #[.iface 119 (.int .i64 7)] w λe w'=>e=.returned (.int .i64 7)∧w'=w:=by
 go_enter Tryz.func45,Tryz.ntmps45;go_wp2_with (refine bB _ rfl (aeS rfl rfl rfl rfl) ?_);go_ret;exact⟨rfl,rfl⟩
theorem aeT (p:Nat) (W:World) {x:Value} (hx:W.cell? ⟨p,0,none⟩=some x) (hf:W.frozen? ⟨p,0,none⟩=false):
  CallsD Tryz.prog 56 #[.pointer (some ⟨p,0,none⟩)] (.panicking Bc) W λe u' w'=>e=.returned (.tuple #[])∧settle u'=.returning∧w'=W.setCell ⟨p,0,none⟩ (.int .i64 7):=by
 refine callsD_of_wpS Tryz.func56 rfl λc₀ cs hu=>?_;apply wpS_seq;apply wpS_region;simp[wpOpsS,go_sem,recoverD,hu,Tryz.ntmps56,Exit.thenS,Bc];refine(abd W).mono ?_;rintro e w' ⟨rfl,rfl⟩;simp[go_sem];apply wpS_seq;apply wpS_region;simp[wpOpsS,go_sem,Array.replicate,Act.eval,Exit.thenS];refine wpS_cond (t:=true) (by simp[Act.eval,Array.replicate]) ?_;simp only[if_true];apply wpS_region;simp[wpOpsS,go_sem,Array.replicate,Act.eval,Exit.thenS,hx,hf];refine⟨rfl,_,rfl,.tuple #[],by simp[results,Tryz.results56],rfl,rfl,rfl⟩
theorem aeY {x:bI}:Py [x] x.2=0:=Fy (i:=0) rfl rfl (λj _ h=>absurd h (Nat.not_lt_zero j))
section
variable {v w:World} {sp d B b n id:Nat} {C E:Nat→Bytes} {F:Nat→Prop} {lk:Int} {x:bI} {D R:List Int} {r:Int}
theorem Ox (hx:Aj x) (hV:Base v sp d B C) (h:cB v w b sp d C E n F) (hF:mh E B id 2 lk (b_ [x]) D r R):
  Calls Tryz.prog 228 #[.agg #[.pointer (some ⟨b,0,none⟩),.int .i64 B],.int .i64 id,.string ⟨x.2.toArray⟩] w λy w'=>y=.returned (.int .i64 0)∧∃E' F',Cg E E' B id 2 lk (b_ [x]) D r R∧cB v w' b sp d C E' (up (up n)+4) F'∧Mv d v F w F' w':=by
 have hd:=hV.yE;have eX:(b_ [x]).length=32:=fq (l:=[x]) (λe he=>.inl (by rw[zV.1 he];exact hx));obtain⟨w1,aP⟩:∃w1,w.alloc (.cells #[.pointer (some ⟨b,0,none⟩),.int .i64 B] 85)=w1:=⟨_,rfl⟩
 obtain⟨aM,aF,hz1⟩:=boxes [([.pointer (some ⟨b,0,none⟩),.int .i64 B],85)] w w1 (by rw[←aP];rfl);have x0:ah w1 w.heap.size 85 [.pointer (some ⟨b,0,none⟩),.int .i64 B]:=aM 0 _ rfl;have y0:=x0.cell 0;have y1:=x0.cell 1;simp only[zf,zi] at y0 y1;have Yk:v.heap.size≤b:=by
  obtain⟨L,hb,_⟩:=h;exact(hb.lt b hb.own).1
 have Gx:b<w.heap.size:=by
  obtain⟨L,hb,_⟩:=h;exact(hb.lt b hb.own).2
 have H:=U h;have H1:=U (h.below aF);have HV:=U hV;have HF:=U hF;have HB:=U aF;have Hx:=U hx;have tC:=U eX;have X0:=U x0;clear h hV aM aF hz1 x0 hF hx eX;go_enter Tryz.func228,Tryz.ntmps228;go_wp2_with fail;refine(vB (l:=[x]) HV.o H1.o (λe he=>by rw[zV.1 he];exact Hx.o) sQ HF.o).mono ?_;rintro e w2 ⟨u,rfl,aZ,fJ,F2,h2,Cv,bC⟩;rw[zY] at aZ;obtain⟨av,cv,rfl,BM⟩:=aR aZ;have AO:¬F w.heap.size:=λhf=>by have:=(H.o.lt _ hf).2;omega
 have u0:=bC.aW X0.o dQ AO;have HR:=U aZ;have HZ:=U (And.intro u0 (Mv.after HB.o bC H.o.quiet (λk hk=>(H.o.lt k hk).2)));have Ai:=bC.apart X0.o.lt AO;have H2:=U h2;have aF3:=HZ.o.2.size;have Lx:=HZ.o.1.lt;clear aZ fJ h2 Cv bC y0 y1 BM u0 AO;go_wp2_with fail;refine(xA (l:=[x]) (s:=x.2) HR.o rfl oQ).mono ?_;rintro e w3 ⟨rfl,bf⟩;rw[aeY];have mF:=bf.size;obtain⟨L3,vV,NY,hL3⟩:=H2.o.below bf;have u3:=HZ.o.1.below bf;have y0:=u3.cell 0;have y1:=u3.cell 1;simp only[zf,zi] at y0 y1;have HZ:Hid (ah w3 w.heap.size 85 [.pointer (some ⟨b,0,none⟩),.int .i64 B]∧Mv d v F w F2 w3):=U (And.intro u3 (HZ.o.2.below bf));have Hb3:=U (And.intro vV (And.intro NY hL3));have aaP:=U vV.lt;have nW:=vV.own;have aF4:=HZ.o.2.vs;clear bf u3 vV NY hL3;go_wp2_with fail;refine wp_region_noPanic ?_;refine ak (S:=(λW=>W.cell? ⟨w.heap.size,0,none⟩=some (.pointer (some ⟨b,0,none⟩))∧W.cell? ⟨w.heap.size,1,none⟩=some (.int .i64 B))) (m:=7) kQ ⟨y0,y1⟩ (λaj=>?_);refine te 0 aj ?_;refine te 1 aj ?_;refine te 3 aj ?_;refine te 4 aj ?_;refine gK (i:=2) (j:=6) rfl rfl kQ (λK hK=>?_) (λK hK=>?_)
 ·go_simp
  with_reducible refine(ko hd (Hb3.o.1.below (zn _ _).drew)).mono ?_
  rintro e w4 ⟨b',rfl,dZ,oU,GY,BS⟩;have dZ:w3.heap.size≤b':=dZ;have BS:=(Turn.of_below (zn _ _).drew v.heap.size (· =b)).trans BS;have z4:=BS.aW HZ.o.1 (by have:=H.o.quiet.size;omega) (by show¬(w.heap.size=b);omega);have H4:=U (And.intro dZ (And.intro oU (And.intro GY (And.intro BS z4))));clear dZ oU GY BS;go_wp2_with fail;refine hK.out _ _ (λ_=>⟨z4.cell 0,z4.cell 1⟩) (λhS=>?_);have bQ:=hS dQ;clear hS hK K
  try simp only[Act.put,zh,zk,zl]
  refine te 5 bQ ?_;refine rE 6 λK hK=>?_;go_simp;refine hK.out _ _ (λ_=>⟨(z4.below ((zn _ _).alloc (zm _) _)).cell 0,(z4.below ((zn _ _).alloc (zm _) _)).cell 1⟩) (λhS=>?_);have bV:=hS dQ;clear hS hK K
  try simp only[Act.put,zh,zk,zl]
  refine rE 7 λK hK=>?_;go_simp;refine kX hK ?_;clear hK K
  try simp only[Act.put,zh,zk,zl]
  refine aD ?_;obtain⟨dZ,oU,GY,BS,z4⟩:=H4.o;obtain⟨W,hW⟩:∃W,w4.alloc (.cells #[.pointer (some ⟨b',0,none⟩),.int .i64 B] 85)=W:=⟨_,rfl⟩
  obtain⟨tb,htb⟩:∃tb,w4.heap.size=tb:=⟨_,rfl⟩
  have hBW:Below w4.heap.size w4 W:=by rw[←hW];exact(zn _ _).alloc (zm _) _
  have hT:ah W w4.heap.size 85 [.pointer (some ⟨b',0,none⟩),.int .i64 B]:=by rw[←hW];exact ah.new w4 _ _
  obtain⟨F1,Jh⟩:∃F1:Nat→Prop,(λk=>(F2 k∧k≠b)∨k=b')=F1:=⟨_,rfl⟩
  rw[Jh] at oU;have hFm:∀k,F1 k→F2 k∧k≠b∨k=b':=λk hk=>by rw[←Jh] at hk;exact hk
  have aaC:=BS.size
  have dI:Mv d v F2 w3 (λk=>F1 k∨k=b) w4:=Mv.mk' HV.o.dev HZ.o.2.q' oU.quiet aaP.o (λk hk=>by
   rcases hk with hk|rfl
   ·exact oU.lt k hk
   ·exact⟨Yk,oQ⟩) (BS.more (λk hk=>by rw[hk];exact nW) (λk hk=>by
   rcases hk with hk|rfl
   ·rcases hFm k hk with h|rfl
    ·exact .inl h.1
    ·exact .inr dZ
   ·exact .inl nW))
  have dI:=dI.below hBW
  have nF:¬F1 w4.heap.size∧¬F1 b∧¬F1 w.heap.size:=⟨λh=>by have:=(oU.lt _ h).2;omega,λh=>by rcases hFm b h with h|h<;>omega,λh=>by
   rcases hFm _ h with h|h
   ·exact Ai h.1
   ·omega⟩
  have abw:cB v W b' sp d C E (up (up n)) F1:=⟨L3,oU.below hBW,Hb3.o.2.1,Hb3.o.2.2⟩
  have GY:TD W b sp:=GY.below hBW;have Bq:=z4.below hBW;rw[hW];rw[htb] at hT nF ⊢;clear dZ oU BS z4 H4 hW hBW Jh hFm htb;have ajs:b<W.heap.size:=by have:=dI.size;omega
  have HW:=U (And.intro hT (And.intro GY (And.intro dI (And.intro nF Bq))));have ajt:=U abw;have q0:=hT.cell 0;have q1:=hT.cell 1;have q2:=Bq.cell 0;simp only[zf,zi] at q0 q1 q2;clear hT GY dI nF Bq abw;go_wp2_with fail;refine(Fh HV.o ajt.o HF.o (by rw[tC.o];decide)).mono ?_;rintro e w5 ⟨rfl,E',F5,xB,h5,fu⟩;obtain⟨hT,GY,dI,nF,Bq⟩:=HW.o;have r0:=fu.aW hT dQ nF.1;have r2:=fu.aW Bq dQ nF.2.2;have hp5:TD w5 b sp:=by
   obtain⟨p1,p2,p3,p4,hp⟩:=GY;exact⟨p1,p2,p3,p4,fu.aW hp dQ nF.2.1⟩
  have bF5:=fu.apart ajs nF.2.1;obtain⟨L5,kS,LD,Yr⟩:=h5
  have xC:Mv d v F2 w3 (λk=>F5 k∨k=b) w5:=dI.trans (fu.more (λk hk=>.inl hk) dI.lt' (λk hk=>by
   rcases hk with hk|hk
   ·exact .inr (.inl hk)
   ·exact .inl (.inr hk)))
  have t0:=r0.cell 0;have t2:=r2.cell 0;simp only[zf] at t0 t2;have HY:=U (And.intro xB (And.intro kS (And.intro LD (And.intro Yr (And.intro hp5 (And.intro bF5 xC))))));clear hT GY dI nF Bq r0 r2 xB kS LD Yr hp5 bF5 xC fu q0 q1 q2;go_wp2_with fail;obtain⟨xB,kS,LD,Yr,hp5,bF5,xC⟩:=HY.o;refine(mG hd hp5 Yk kS bF5).mono ?_;rintro e w6 ⟨rfl,Gf,ht6⟩;have tL:Mv d v (λk=>F5 k∨k=b) w5 (λk=>F5 k∨k=b) w6:=Mv.mk' HV.o.dev xC.q' Gf.quiet xC.lt' Gf.lt ht6;have HX:=U (And.intro Gf (HZ.o.2.trans (xC.trans tL)));clear Gf ht6 tL kS hp5 bF5 xC;go_wp2_with fail;go_ret;exact⟨rfl,E',_,xB,⟨L5,HX.o.1,LD,zC Yr (zm _)⟩,HX.o.2⟩
 ·go_simp
  refine hK.out _ _ (λ_=>⟨(HZ.o.1.below ((zn _ _).alloc (zm _) _)).cell 0,(HZ.o.1.below ((zn _ _).alloc (zm _) _)).cell 1⟩) (λhS=>?_);have bQ:=hS dQ;clear hS hK K
  try simp only[Act.put,zh,zk,zl]
  refine rE 2 λK hK=>?_;go_simp;with_reducible refine(ko hd (Hb3.o.1.below (((zn _ _).alloc (zm _) _).drew))).mono ?_
  rintro e w4 ⟨b',rfl,dZ,oU,GY,BS⟩;have dZ:(w3.alloc (.cells #[.pointer none,.int .i64 0] 85)).heap.size≤b':=dZ;have t4:=BS.aW (show ah (w3.alloc (.cells #[.pointer none,.int .i64 0] 85)) w3.heap.size 85 [.pointer none,.int .i64 0] from ah.new w3 _ _) oQ (by show¬(w3.heap.size=b);omega);have BS:=(Turn.of_below (((zn _ _).alloc (zm _) _).drew) v.heap.size (· =b)).trans BS;have z4:=BS.aW HZ.o.1 (by have:=H.o.quiet.size;omega) (by show¬(w.heap.size=b);omega);have g0:=t4.cell 0;have g1:=t4.cell 1;have f0:=t4.free 0;have f1:=t4.free 1;simp only[zf,zi] at g0 g1;have H4:=U (And.intro dZ (And.intro oU (And.intro GY (And.intro BS (And.intro z4 t4)))));clear dZ oU GY BS t4;go_wp2_with fail;refine hK.out _ _ (λ_=>⟨z4.cell 0,z4.cell 1⟩) (λhS=>?_);have bV:=hS dQ;clear hS hK K
  try simp only[Act.put,zh,zk,zl]
  refine te 5 bV ?_;refine rE 7 λK hK=>?_;go_simp;refine kX hK ?_;clear hK K
  try simp only[Act.put,zh,zk,zl]
  refine aD ?_;obtain⟨dZ,oU,GY,BS,z4,t4⟩:=H4.o;obtain⟨W,hW⟩:∃W,(w4.setCell ⟨w3.heap.size,0,none⟩ (.pointer (some ⟨b',0,none⟩))).setCell ⟨w3.heap.size,1,none⟩ (.int .i64 B)=W:=⟨_,rfl⟩
  obtain⟨tb,htb⟩:∃tb,w3.heap.size=tb:=⟨_,rfl⟩
  have RH:Kept w3.heap.size w4 W:=by rw[←hW];exact(Kept.setCell _ _ _).trans (Kept.setCell _ _ _)
  have hT:ah W w3.heap.size 85 [.pointer (some ⟨b',0,none⟩),.int .i64 B]:=by rw[←hW];exact(t4.aB 0 (.pointer (some ⟨b',0,none⟩))).aB 1 (.int .i64 B)
  have hzA:(w3.alloc (.cells #[.pointer none,.int .i64 0] 85)).heap.size=w3.heap.size+1:=sQ
  rw[hzA] at dZ;obtain⟨F1,Jh⟩:∃F1:Nat→Prop,(λk=>(F2 k∧k≠b)∨k=b')=F1:=⟨_,rfl⟩
  rw[Jh] at oU;have hFm:∀k,F1 k→F2 k∧k≠b∨k=b':=λk hk=>by rw[←Jh] at hk;exact hk
  have aaC:=BS.size;have hzW:=RH.size
  have dI:Mv d v F2 w3 (λk=>F1 k∨k=b) w4:=Mv.mk' HV.o.dev HZ.o.2.q' oU.quiet aaP.o (λk hk=>by
   rcases hk with hk|rfl
   ·exact oU.lt k hk
   ·exact⟨Yk,oQ⟩) (BS.more (λk hk=>by rw[hk];exact nW) (λk hk=>by
   rcases hk with hk|rfl
   ·rcases hFm k hk with h|rfl
    ·exact .inl h.1
    ·exact .inr oQ
   ·exact .inl nW))
  have dI:=dI.kept RH (.inr (zm _))
  have nF:¬F1 w3.heap.size∧¬F1 b∧¬F1 w.heap.size:=⟨λh=>by
   rcases hFm _ h with h|h
   ·have:=(aaP.o _ h.1).2
    omega
   ·omega,λh=>by rcases hFm b h with h|h<;>omega,λh=>by
   rcases hFm _ h with h|h
   ·exact Ai h.1
   ·omega⟩
  have hbW:uX v W b' sp d C L3 true F1:=oU.keep (λk hk=>RH.block k (oU.lt k hk).2 (λe=>nF.1 (e▸hk))) dI.q' RH.size;have abw:cB v W b' sp d C E (up (up n)) F1:=⟨L3,hbW,Hb3.o.2.1,Hb3.o.2.2⟩
  have GY:TD W b sp:=by
   obtain⟨p1,p2,p3,p4,hp⟩:=GY;exact⟨p1,p2,p3,p4,hp.kept RH oQ⟩
  have Bq:=z4.kept RH oQ;rw[hW];rw[htb] at hT nF ⊢;clear dZ oU BS z4 t4 H4 hW RH Jh hFm htb g0 g1 f0 f1 hbW;have ajs:b<W.heap.size:=by have:=dI.size;omega
  have HW:=U (And.intro hT (And.intro GY (And.intro dI (And.intro nF Bq))));have ajt:=U abw;have q0:=hT.cell 0;have q1:=hT.cell 1;have q2:=Bq.cell 0;simp only[zf,zi] at q0 q1 q2;clear hT GY dI nF Bq abw;go_wp2_with fail;refine(Fh HV.o ajt.o HF.o (by rw[tC.o];decide)).mono ?_;rintro e w5 ⟨rfl,E',F5,xB,h5,fu⟩;obtain⟨hT,GY,dI,nF,Bq⟩:=HW.o;have r0:=fu.aW hT dQ nF.1;have r2:=fu.aW Bq dQ nF.2.2;have hp5:TD w5 b sp:=by
   obtain⟨p1,p2,p3,p4,hp⟩:=GY;exact⟨p1,p2,p3,p4,fu.aW hp dQ nF.2.1⟩
  have bF5:=fu.apart ajs nF.2.1;obtain⟨L5,kS,LD,Yr⟩:=h5
  have xC:Mv d v F2 w3 (λk=>F5 k∨k=b) w5:=dI.trans (fu.more (λk hk=>.inl hk) dI.lt' (λk hk=>by
   rcases hk with hk|hk
   ·exact .inr (.inl hk)
   ·exact .inl (.inr hk)))
  have t0:=r0.cell 0;have t2:=r2.cell 0;simp only[zf] at t0 t2;have HY:=U (And.intro xB (And.intro kS (And.intro LD (And.intro Yr (And.intro hp5 (And.intro bF5 xC))))));clear hT GY dI nF Bq r0 r2 xB kS LD Yr hp5 bF5 xC fu q0 q1 q2;go_wp2_with fail;obtain⟨xB,kS,LD,Yr,hp5,bF5,xC⟩:=HY.o;refine(mG hd hp5 Yk kS bF5).mono ?_;rintro e w6 ⟨rfl,Gf,ht6⟩;have tL:Mv d v (λk=>F5 k∨k=b) w5 (λk=>F5 k∨k=b) w6:=Mv.mk' HV.o.dev xC.q' Gf.quiet xC.lt' Gf.lt ht6;have HX:=U (And.intro Gf (HZ.o.2.trans (xC.trans tL)));clear Gf ht6 tL kS hp5 bF5 xC;go_wp2_with fail;go_ret;exact⟨rfl,E',_,xB,⟨L5,HX.o.1,LD,zC Yr (zm _)⟩,HX.o.2⟩
end
section
variable {v w:World} {sp d B b n p:Nat} {C E:Nat→Bytes} {F:Nat→Prop} {lk:Int} {l:List bI} {D R:List Int} {r:Int} {s:Bytes}
theorem Oy {x:bI} {g ca:Nat} (hx:Aj x) (hp:ah w p 87 [.pointer (some ⟨b,0,none⟩),.int .i64 B]) (Pv:¬F p) (hV:Base v sp d B C) (h:cB v w b sp d C E n F) (hF:mh E B 1 2 lk (b_ [x]) D r R) (hg:w.cell? ⟨g,0,none⟩=some (.string ⟨x.2.toArray⟩)) (tq:¬F g∧g≠d):
  Calls Tryz.prog 147 #[.pointer (some ⟨p,0,none⟩),.slice (some ⟨g,0,none⟩) 1 ca] w λy w'=>(∃z,y=.returned z)∧∃E' F',Cg E E' B 1 2 lk (b_ [x]) D r R∧cB v w' b sp d C E' (up (up (up (up n)))+4) F'∧Mv d v F w F' w':=by
 have fB:=hp.lt;have H:=U h;have HV:=U hV;have HF:=U hF;have HP:=U hp;have HG:=U hg;have Hx:=U hx;clear h hV hF hp hg hx;go_enter Tryz.func147,Tryz.ntmps147;go_wp2_with fail;refine(Jq (l:=[x]) (s:=x.2) HP.o Pv HV.o H.o (λe he=>by rw[zV.1 he];exact Hx.o) sQ HF.o HG.o tq).mono ?_;rintro e w2 ⟨rfl,F2,h2,bC⟩;have p2:=bC.aW HP.o dQ Pv;have np2:=bC.apart oQ Pv;obtain⟨w3,gV⟩:∃w3,w2.alloc (.cells #[.int .i64 1,.string ⟨x.2.toArray⟩] 216)=w3:=⟨_,rfl⟩
 have bf:Below w2.heap.size w2 w3:=by rw[←gV];exact(zn _ _).alloc (zm _) _
 have y3:ah w3 w2.heap.size 216 [.int .i64 1,.string ⟨x.2.toArray⟩]:=by rw[←gV];exact ah.new w2 _ _
 have e0:=(p2.below bf).cell 0;have e1:=(p2.below bf).cell 1;have q0:=y3.cell 0;have q1:=y3.cell 1;simp only[zf,zi] at e0 e1 q0 q1;have sU:=U (h2.below bf);have vX:=U (bC.below bf);have HP3:=U (And.intro (p2.below bf) y3);have Qn:=U h2.lt;clear h2 bC p2 bf y3;go_wp2_with fail;refine wp_region_noPanic ?_;refine ak (S:=(λW=>W.cell? ⟨p,0,none⟩=some (.pointer (some ⟨b,0,none⟩))∧W.cell? ⟨p,1,none⟩=some (.int .i64 B)∧W.cell? ⟨w2.heap.size,0,none⟩=some (.int .i64 1)∧W.cell? ⟨w2.heap.size,1,none⟩=some (.string ⟨x.2.toArray⟩))) (m:=10) kQ ⟨e0,e1,q0,q1⟩ (λaj=>?_);refine te 0 aj ?_;refine te 1 aj ?_;refine te 2 aj ?_;refine te 3 aj ?_;refine te 4 aj ?_;refine te 5 aj ?_;refine te 6 aj ?_;refine te 7 aj ?_;refine rE 8 λK hK=>?_;go_simp;refine(Ox Hx.o HV.o (sU.o.below (zn _ _).drew) HF.o).mono ?_;rintro e w4 ⟨rfl,E',F4,xB,h4,dI⟩;have p4:=dI.aW (HP3.o.1.below (zn _ _).drew) dQ np2;have y4:=dI.aW (HP3.o.2.below (zn _ _).drew) dQ (λhf=>by have:=(Qn.o _ hf).2;omega);have HX:=U (And.intro xB (And.intro h4 (vX.o.trans (Mv.after ((zn _ _).drew) dI sU.o.quiet (λk hk=>(sU.o.lt k hk).2)))));clear xB h4 dI;go_wp2_with fail;refine hK.out _ _ (λ_=>⟨p4.cell 0,p4.cell 1,y4.cell 0,y4.cell 1⟩) (λhS=>?_);have bQ:=hS dQ;clear hS hK K
 try simp only[Act.put,zh,zk,zl]
 refine rE 9 λK hK=>?_;go_simp;with_reducible refine(bY _).mono ?_
 rintro e w5 ⟨⟨x,rfl⟩,rfl⟩;go_wp2_with fail;refine hK.out _ _ (λ_=>bQ) (λhS=>?_);have bV:=hS dQ;clear hS hK K
 try simp only[Act.put,zh,zk,zl]
 refine aD ?_;go_wp2_with fail;go_end0;exact⟨⟨_,rfl⟩,E',F4,HX.o⟩
end
section
variable {w:World} {fb d B P q n:Nat} {C:Nat→Bytes} {cl yo:Bool} {op:Op} {F:Nat→Prop}
theorem RJ (h:fI w fb d B P q n C cl yo op F) {fd:Nat} (sS:fd<1000) (ho:(op fd).isSome=true):Calls Tryz.prog 82 #[.pointer (some ⟨fb,0,none⟩),.int .i64 fd] w λe w'=>e=.returned (.int .i64 0)∧fI w' fb d B P q (n - 1) C cl yo (f_ op fd none) F∧Step F w F w':=by
 have HF:=U h;clear h;go_enter Tryz.func82,Tryz.ntmps82;go_wp2_with fail;refine(K_ HF.o sS).mono ?_;rintro e w1 ⟨rfl,hB⟩;rw[ho];obtain⟨m,c1, -, -, -, -,hd⟩:=(HF.o.below hB).sP;obtain⟨w2,hr,h2,nJ⟩:=hd fd 0 sS;rw[ho,if_pos rfl] at h2;have HZ:=U (And.intro h2 ((Step.of_below hB F).trans nJ));clear h2 nJ hd;go_wp2_with fail;go_ret;exact⟨rfl,HZ.o⟩
end
end
end Go.Proofs.YtdjdpeadohobmaaGreatDoor
