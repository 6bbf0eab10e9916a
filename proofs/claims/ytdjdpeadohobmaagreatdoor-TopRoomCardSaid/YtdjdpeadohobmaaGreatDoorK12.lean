/- A part of the walk below the law: what is proved here is used by later parts; no further condition. -/
import Derived.Maps.RangeWalk
import Derived.Test.YtdjdpeadohobmaaGreatDoorK04
import Derived.Test.YtdjdpeadohobmaaGreatDoorK05
import Derived.Test.YtdjdpeadohobmaaGreatDoorK11
set_option linter.unusedVariables false
set_option linter.unusedSimpArgs false
set_option maxRecDepth 100000
set_option maxHeartbeats 20000000
namespace Go.Proofs.YtdjdpeadohobmaaGreatDoor
section
open Go.RowKit Go.Shelf O
attribute [local go_sem] Oper.semAt_some
section
variable {w:World} {j d:Nat} {s:JS} {C:Nat→Bytes} {st:Nat→Bytes} {wt:Wt} {F:Nat→Prop}
theorem ah.pR {w:World} {b:Nat} {l:List UInt8} (h:ah w b 5 (l.map aH)):cZ w (some ⟨b,0,none⟩) l:=by
 refine .inr ⟨b,0,_,u8F (0,0),rfl,h,λi hi=>?_⟩;simp[aH,hi]
theorem Ed {B seq:Nat} {x:tQ} (h:x.Right B seq) (hB:B≤3840) (hs:seq≤iQ) {a:Option Addr} (hb:cZ w a (encS (some x))):
  Calls Tryz.prog 253 #[.slice a 512 512] w λe w'=>∃A cc,e=.returned (.tuple #[.agg (lF x.epoch x.start x.seq (x.seq - 1) x.index x.count x.id).toArray,.slice A 480 cc,.int .i64 0])∧cZ w' A x.data∧Below w.heap.size w w':=by
 have ht:=h.tag hB hs;refine(BJ _ (Zh h) w a 512 hb.is (zm _)).mono ?_;rintro e w' ⟨h1|⟨h1,A,cc,rfl,hown⟩,xI⟩
 ·rw[encS,adG h.epoch.2 ht x.data h.data] at h1
  cases h1.1
 ·refine⟨A,cc,?_,?_,xI⟩
  ·rw[encS,adH h.epoch.2 ht]
  ·rw[encS,head_drop] at hown
   exact hown.pR
theorem Zj {r rb t pb ob:Nat} {Fd:Nat→Prop} {f g:Nat→Option Nat} (h:Ga w j s C st wt F d r rb t pb ob Fd f g) {id i:Nat} (hi:idx s.Q id=some i):
  Calls Tryz.prog 187 #[.pointer (some ⟨j,0,none⟩),.int .i64 id,.int .i64 (s.pl i)] w λe w'=>(∃a c,e=.returned (.tuple #[.slice a 480 c,.int .i64 0])∧cZ w' a (C id))∧Ga w' j s C st wt F d r rb t pb ob Fd f g∧Step Fd w Fd w'∧Quiet d w w':=by
 have hil:=fK hi;have fB:s.pl i<s.P:=dz h.ok.tail (zC (Nat.le_of_lt hil) h.ok.used);have hP:=h.ring.few;obtain⟨x,wJ,oD,hx3⟩:=h.ok.live id i hi;have hxr:=h.ok.right _ x fB wJ;have hv:=h.secs _ fB;rw[wJ] at hv;obtain⟨p,hp⟩:∃p,s.pl i=p:=⟨_,rfl⟩
 rw[hp] at fB hv ⊢;have c0:=h.cell 0;have c1:=h.cell 1;simp only[nQ,zf,zi] at c0 c1;have X9:(p:Int)%(s.P:Int)=(p:Int):=qY oQ oQ;have UW:(p:Int)+1=((p+1:Nat):Int):=oQ
 have hd:∀W,Below w.heap.size w W→Ga W j s C st wt F d r rb t pb ob Fd f g:=λW hW=>h.below hW;have HD:=U hd;have Hpm:=U X9;have Hpc:=U UW;have Hpl:=U fB;have Hv:=U hv;have Hxr:=U hxr;have HB:=U h.Ct.b.2;have asR:=U h.ok.seq;clear h hd X9 UW hv hxr;go_enter Tryz.func187,Tryz.ntmps187;go_wp2_with fail;refine wp_region_noPanic ?_;refine ak (S:=(λW=>W.cell? ⟨j,0,none⟩=some (.pointer (some ⟨d,0,none⟩))∧W.cell? ⟨j,1,none⟩=some (.pointer (some ⟨r,0,none⟩)))) (m:=15) kQ ⟨c0,c1⟩ (λaj=>?_);refine te 0 aj ?_;refine te 1 aj ?_;refine te 2 aj ?_;refine te 3 aj ?_;refine te 4 aj ?_;refine te 5 aj ?_;refine te 6 aj ?_;refine te 7 aj ?_;refine te 8 aj ?_;refine rE 9 λK hK=>?_;go_simp;refine(SK (HD.o _ (zn _ _).drew).ring _ oQ p Hpm.o _ (IJ Hpl.o)).mono ?_;rintro e w2 ⟨rfl,rfl⟩;go_wp2_with fail;refine hK.out _ _ (λ_=>⟨c0,c1⟩) (λhS=>?_);have bQ:=hS dQ;clear hS hK K
 try simp only[Act.put,zh,zk,zl]
 refine rE 10 λK hK=>?_;go_simp;rw[Hpc.o];refine(IC (HD.o _ (zn _ _).drew.drew).dev (p+1) oQ (HD.o _ (zn _ _).drew.drew).len).mono ?_;rintro e w3 ⟨⟨g1,rfl,dO⟩,j_,bT,hqt⟩;obtain⟨pV,jd⟩:=(HD.o _ (zn _ _).drew.drew).Tc bT j_ (λ_ h=>h);rw[Hv.o] at dO;have Zk:=U pV;have sU:=U (((Step.drew Fd w).trans (Step.drew Fd _)).trans bT);have HQ3:=U ((Quiet.of_below (d:=d) ((zn w.heap.size w).drew.drew)).trans hqt);have pU:=U dO;clear bT j_ jd dO hqt;go_wp2_with fail;refine hK.out _ _ (λ_=>⟨pV.cell 0,pV.cell 1⟩) (λhS=>?_);have bV:=hS dQ;clear hS hK K
 try simp only[Act.put,zh,zk,zl]
 refine te 11 bV ?_;refine te 12 bV ?_;refine te 13 bV ?_;refine te 14 bV ?_;refine oC (i:=15) (v:=?aAT) rfl kQ kQ kQ dQ (λ_ _ _ h=>h) rQ ?asT ?aAU
 case asT=>(intro W iR;(try dsimp only at iR);go_simp;(try with_reducible rfl))
 try simp only[Act.put,zh,zk,zl]
 refine aD ?_;go_wp2_with fail;refine(Ed Hxr.o HB.o asR.o pU.o).mono ?_;rintro e w4 ⟨A,cc,rfl,hA,dX⟩;rw[oD,lF];have HA:=U hA;have HJ4:=U (Zk.o.below dX);have JM:=U (sU.o.trans (Step.of_below dX Fd));have HQ4:=U (HQ3.o.trans (Quiet.of_below dX));clear hA dX;go_wp2_with fail;go_ret2;refine⟨⟨A,cc,rfl,?_⟩,HJ4.o.below ((zn _ _).alloc (zm _) _),JM.o.trans (Step.alloc Fd _ _),HQ4.o.trans (Quiet.of_below ((zn _ _).alloc (zm _) _))⟩;rw[←hx3];exact HA.o.below ((zn _ _).alloc (zm _) _)
theorem adI {r rb t pb ob:Nat} {Fd:Nat→Prop} {f g:Nat→Option Nat} (h:Ga w j s C st wt F d r rb t pb ob Fd f g) {id i:Nat} (hi:idx s.Q id=some i):
  Calls Tryz.prog 187 #[.pointer (some ⟨j,0,none⟩),.int .i64 id,.int .i64 (s.pl i)] w λe w'=>(∃a c,e=.returned (.tuple #[.slice a 480 c,.int .i64 0])∧cZ w' a (C id))∧Ga w' j s C st wt F d r rb t pb ob Fd f g∧Step Fd w Fd w':=
 (Zj h hi).mono λe w' q=>⟨q.1,q.2.1,q.2.2.1⟩
theorem adJ (h:wU w j d s C st wt F) {id i:Nat} (hi:idx s.Q id=some i):
  Calls Tryz.prog 187 #[.pointer (some ⟨j,0,none⟩),.int .i64 id,.int .i64 (s.pl i)] w λe w'=>(∃a c,e=.returned (.tuple #[.slice a 480 c,.int .i64 0])∧cZ w' a (C id))∧wU w' j d s C st wt F∧Step F w F w'∧Quiet d w w':=by
 obtain⟨r,rb,t,pb,ob,Fd,f,g,h⟩:=h;exact(Zj h hi).mono λe w' q=>⟨q.1,⟨_,_,_,_,_,_,_,_,q.2.1⟩,q.2.2.1.more h.own.2.2.2.2.2.2 (λk hk=>.inl hk),q.2.2.2⟩
theorem Td (h:wU w j d s C st wt F) (id:Nat) (yj:id<s.B):
  Calls Tryz.prog 114 #[.pointer (some ⟨j,0,none⟩),.int .i64 id] w λe w'=>(∃a c,e=.returned (.tuple #[.slice a 480 c,.int .i64 0])∧cZ w' a (C id))∧wU w' j d s C st wt F∧Step F w F w'∧Quiet d w w':=by
 have HJ:=U h;obtain⟨r,rb,t,pb,ob,Fd,f,g,h⟩:=h;have c2:=h.cell 2;have c3:=h.cell 3;have c10:=h.cell 10;simp only[nQ,zf,zi] at c2 c3 c10;have hB:=h.Ct.b.2;have iA:¬((id:Int)<0):=oQ
 have dh:((id:Int)<(s.B:Int)):=oQ
 have dw:=h.at_ id yj;have H:=U h;rcases hi:idx s.Q id with _|i
 ·have hf:f id=none:=by rw[dw,JS.at_,hi];rfl
  have hz:=h.ok.zero id hi;obtain⟨w1,fC,hown,aF,Ad⟩:=kN (w:=w) SF .i64 .i64 480 oQ oQ;have fC:(Instr.makeSlice 22 (.int .i64 480) (.int .i64 480)).run Tryz.prog w=.ok (.slice (some ⟨w.heap.size,0,none⟩) 480 480) w1:=fC;clear h dw;go_enter Tryz.func114,Tryz.ntmps114;go_wp2_with fail;refine(uL H.o.tab id yj).mono ?_;rintro e w2 ⟨rfl,rfl⟩;rw[hf];go_wp2_with fail;go_ret2;refine⟨⟨_,480,rfl,?_⟩,HJ.o.below aF,Step.of_below aF F,Quiet.of_below aF⟩;rw[hz];exact(show ah w1 w.heap.size 5 ((zeros 480).map aH) from hown).pR
 ·have hf:f id=some (s.pl i):=by rw[dw,JS.at_,hi];rfl
  clear h dw;go_enter Tryz.func114,Tryz.ntmps114;go_wp2_with fail;refine(uL H.o.tab id yj).mono ?_;rintro e w2 ⟨rfl,rfl⟩;rw[hf];go_wp2_with fail;refine(adJ HJ.o hi).mono ?_;rintro e w3 ⟨⟨a,c,rfl,dO⟩,hJ,hS,hQ⟩;go_wp2_with fail;go_ret2;exact⟨⟨a,c,rfl,dO⟩,hJ,hS,hQ⟩
theorem UY (h:wU w j d s C st wt F) (id:Nat) (yj:id<s.B):
  Calls Tryz.prog 114 #[.pointer (some ⟨j,0,none⟩),.int .i64 id] w λe w'=>(∃a c,e=.returned (.tuple #[.slice a 480 c,.int .i64 0])∧cZ w' a (C id))∧wU w' j d s C st wt F∧Step F w F w':=
 (Td h id yj).mono λe w' q=>⟨q.1,q.2.1,q.2.2.1⟩
theorem Zl (h:wU w j d s C st wt F):Calls Tryz.prog 126 #[.pointer (some ⟨j,0,none⟩)] w λe w'=>e=.returned (.int .i64 ((s.P:Int) - s.used - s.freed))∧w'=w.drew:=by
 obtain⟨r,rb,t,pb,ob,Fd,f,g,h⟩:=h;have c1:=h.cell 1;have c8:=h.cell 8;have c9:=h.cell 9;simp only[nQ,zf,zi] at c1 c8 c9;have hP:=h.ring.few;have hu:=h.ok.used;have hf:=h.freed;have hu2:s.used=s.Q.length:=rfl;have hn:s.Q.length≤s.P:=hu;have e1:IntKind.i64.wrap ((s.P:Int) - (s.Q.length:Int))=(s.P:Int) - (s.Q.length:Int):=by rw[zG];omega
 have e2:IntKind.i64.wrap ((s.P:Int) - (s.Q.length:Int) - (s.freed:Int))=(s.P:Int) - (s.Q.length:Int) - (s.freed:Int):=by rw[zG];omega
 have H:=U h;clear h;go_enter Tryz.func126,Tryz.ntmps126;go_wp2_with fail;refine wp_region_noPanic ?_;refine ak (S:=(λW=>W.cell? ⟨j,1,none⟩=some (.pointer (some ⟨r,0,none⟩))∧W.cell? ⟨j,8,none⟩=some (.int .i64 s.used)∧W.cell? ⟨j,9,none⟩=some (.int .i64 s.freed))) (m:=15) kQ ⟨c1,c8,c9⟩ (λaj=>?_);refine te 0 aj ?_;refine te 1 aj ?_;refine te 2 aj ?_;refine te 3 aj ?_;refine te 5 aj ?_;refine te 6 aj ?_;refine te 7 aj ?_;refine te 8 aj ?_;refine te 10 aj ?_;refine te 11 aj ?_;refine te 12 aj ?_;refine te 13 aj ?_;refine rE 4 λK hK=>?_;go_simp;refine(kP H.o.ring.drew).mono ?_;rintro e w2 ⟨rfl,rfl⟩;go_wp2_with fail;refine hK.out _ _ (λ_=>⟨c1,c8,c9⟩) (λhS=>?_);have bQ:=hS dQ;clear hS hK K
 try simp only[Act.put,zh,zk,zl]
 refine te 9 bQ ?_;refine te 14 bQ ?_;refine oC (i:=15) (v:=?aAW) rfl kQ kQ kQ dQ (λ_ _ _ h=>h) rQ ?adK ?aAX
 case adK=>(intro W iR;(try dsimp only at iR);go_simp;(try with_reducible rfl))
 try simp only[Act.put,zh,zk,zl]
 refine aD ?_;go_wp2_with fail;go_ret;exact⟨rfl,rfl⟩
theorem Qd (h:wU w j d s C st wt F):Calls Tryz.prog 101 #[.pointer (some ⟨j,0,none⟩)] w λe w'=>e=.returned (.bool false)∧w=w':=by
 obtain⟨r,rb,t,pb,ob,Fd,f,g,h⟩:=h;have c10:=h.cell 10;simp only[nQ,zf,zi] at c10;clear h;go_enter Tryz.func101,Tryz.ntmps101;go_wp2_with fail;go_ret;exact⟨rfl,rfl⟩
end
end
section
open Go.RowKit Go.Maps
def fG (v:Value):Option (DataW Value×List MemPlace):=some (.held v,[])
abbrev fZ:Nat:=9223372036854775808
def ug (i:Nat):Lit:=.int .i64 (i:Int)
theorem ML {i j:Nat} (h:i≠j):ug i≠ug j:=by
 unfold ug;intro e;injection e with _ e;omega
theorem uP (i:Nat) (hi:i<fZ):keyOf Tryz.prog 3 (.int .i64 (i:Int))=some (ug i):=keyOf_int_mk Tryz.underlying3 (YL i hi)
theorem adL (i:Nat):WideAt.IsKeyLit (ug i):=by unfold ug WideAt.IsKeyLit;trivial
def bF (w:World) (b s:Nat) (φ:Nat→Option Value):Prop:=
 ∃D:DataW Value,w.ownsMap Tryz.prog 3 fG b s D∧Maps.size D=s∧(∀i,i<fZ→∀z,D.atKey (ug i) z=match φ i with|some v=>.held v|none=>z)∧(∀kl,Maps.has D kl=true→∃i,i<fZ∧kl=ug i)
theorem rP {w:World} {P:Program} {k:TypeId} {R:Value→Option (DataW Value×List MemPlace)} {b n:Nat} {D:DataW Value} (h:w.ownsMap P k R b n D):w.ownsMap P k R b (Maps.size D) D:=by
 obtain⟨es,clock,h1,h2,h3,rfl⟩:=h;exact⟨es,clock,h1,h2,by simp[Maps.size,length_sorted],rfl⟩
section
variable {w:World} {b s:Nat} {φ:Nat→Option Value}
theorem bF.new (w:World):bF (w.alloc (.map #[] 0)) w.heap.size 0 (λ_=>none):=
 ⟨_,World.ownsMap_made w _ _ _,rfl,λi _ z=>rfl,λkl h=>by simp[Maps.has] at h⟩
theorem bF.has (h:bF w b s φ):∃D:DataW Value,w.ownsMap Tryz.prog 3 fG b s D∧∀i,i<fZ→Maps.has D (ug i)=(φ i).isSome:=by
 obtain⟨D,h1,h2,h3,h4⟩:=h;refine⟨D,h1,λi hi=>?_⟩;have h5:=h3 i hi;rcases hf:φ i with _|v
 ·rw[hf] at h5
  exact zas h5
 ·rw[hf] at h5
  exact zaO h5
theorem bF.look {t e:TypeId} {z:Value} (h:bF w b s φ) (ht:Tryz.prog.underlying t=some (.map 3 e)) (hz:(zeroValue e).run Tryz.prog w=.ok z w) (i:Nat) (hi:i<fZ):
  (Instr.lookup t (.map (some b)) (.int .i64 (i:Int)) true).run Tryz.prog w=.ok (.tuple #[(φ i).getD z,.bool (φ i).isSome]) w:=by
 obtain⟨D,h1,h2,h3,h4⟩:=h;have h5:=h3 i hi;obtain⟨v,ps,hr,hv⟩:=h1.look_ok bP ht hz (show fG z=some (.held z,[]) from rfl) (uP i hi);rw[hr];have hs:Maps.has D (ug i)=(φ i).isSome:=by
  rcases hf:φ i with _|u
  ·rw[hf] at h5
   exact zas h5
  ·rw[hf] at h5
   exact zaO h5
 rw[hs];rw[h5 (.held z)] at hv;unfold fG at hv;injection hv with hv;injection hv with hv _;rcases hf:φ i with _|u
 ·rw[hf] at hv
  injection hv with hv;rw[hv];rfl
 ·rw[hf] at hv
  injection hv with hv;rw[hv];rfl
theorem bF.len {t e:TypeId} (h:bF w b s φ) (ht:Tryz.prog.underlying t=some (.map 3 e)) (ty:TypeId):(Builtin.len_ #[t] ty #[.map (some b)]).run Tryz.prog w=.ok (.int .i64 s) w:=by
 obtain⟨D,h1,h2,_⟩:=h;rw[h1.len ht,h2]
def iM (φ:Nat→Option Value) (i:Nat) (v:Option Value):Nat→Option Value:=λj=>if j=i then v else φ j
theorem bF.store {t e:TypeId} (h:bF w b s φ) (ht:Tryz.prog.underlying t=some (.map 3 e)) (hs:s<maxLen) (i:Nat) (hi:i<fZ) (v:Value):
  ∃w',(Instr.mapUpdate t (.map (some b)) (.int .i64 (i:Int)) v).run Tryz.prog w=.ok () w'∧bF w' b (if(φ i).isSome then s else s+1) (iM φ i (some v))∧w.mapTurned w' b:=by
 obtain⟨D,h1,h2,h3,h4⟩:=h;obtain⟨w',hr,ho,ht'⟩:=h1.store bP ht hs (uP i hi) (show fG v=some (.held v,[]) from rfl)
 have gJ:Maps.size (D.put (ug i) (.held v))=if(φ i).isSome then s else s+1:=by
  rw[Maps.size_put (h1.tidy bP),h2];have h5:=h3 i hi;rcases hf:φ i with _|u
  ·rw[hf] at h5
   rw[zas h5];rfl
  ·rw[hf] at h5
   rw[zaO h5];rfl
 refine⟨w',hr,⟨_,by rw[←gJ];exact rP ho,gJ,λj hj z=>?_,λkl hk=>?_⟩,ht'⟩
 ·by_cases oO:j=i
  ·subst oO
   rw[Maps.atKey_put_same h1.isMap (adL j)];simp[iM]
  ·rw[Maps.atKey_put_other (ML oO),h3 j hj]
   simp[iM,oO]
 ·by_cases SH:kl=ug i
  ·exact⟨i,hi,SH⟩
  ·rw[Maps.has_put_other SH] at hk
   exact h4 kl hk
theorem bF.drop {t e:TypeId} (h:bF w b s φ) (ht:Tryz.prog.underlying t=some (.map 3 e)) (i:Nat) (hi:i<fZ) (ty:TypeId):
  ∃w',(Builtin.delete_ #[t,3] ty #[.map (some b),.int .i64 (i:Int)]).run Tryz.prog w=.ok (.tuple #[]) w'∧bF w' b (if(φ i).isSome then s - 1 else s) (iM φ i none)∧w.mapTurned w' b:=by
 obtain⟨D,h1,h2,h3,h4⟩:=h;obtain⟨w',hr,ho,ht'⟩:=h1.drop bP ht (uP i hi) ty
 have gJ:Maps.size (D.del (ug i))=if(φ i).isSome then s - 1 else s:=by
  have h6:=Maps.size_del (k:=ug i) (h1.tidy bP);have h5:=h3 i hi;rcases hf:φ i with _|u
  ·rw[hf] at h5
   rw[zas h5] at h6;simp at h6 ⊢;omega
  ·rw[hf] at h5
   rw[zaO h5] at h6;simp at h6 ⊢;omega
 refine⟨w',hr,⟨_,by rw[←gJ];exact rP ho,gJ,λj hj z=>?_,λkl hk=>?_⟩,ht'⟩
 ·by_cases oO:j=i
  ·subst oO
   rw[Maps.atKey_del_same];simp[iM]
  ·rw[Maps.atKey_del_other (ML oO),h3 j hj]
   simp[iM,oO]
 ·by_cases SH:kl=ug i
  ·rw[SH,Maps.has_del_same] at hk
   cases hk
  ·rw[Maps.has_del_other SH] at hk
   exact h4 kl hk
theorem bF.lt (h:bF w b s φ):b<w.heap.size:=by
 obtain⟨D,h1,_⟩:=h;exact h1.lt
theorem bF.block {w':World} (h:bF w b s φ) (e:w'.heap[b]? =w.heap[b]?):bF w' b s φ:=by
 obtain⟨D,⟨es,clock,hb,r⟩,h2⟩:=h;exact⟨D,⟨es,clock,e.trans hb,r⟩,h2⟩
theorem bF.aV (h:bF w b s φ):¬B8 w b:=by
 obtain⟨D,⟨es,clock,hb,r⟩,_⟩:=h;rintro⟨C,fr,h2⟩;rw[hb] at h2;cases h2
theorem bF.step {G G':Nat→Prop} {w':World} (h:bF w b s φ) (hs:Step G w G' w') (hn:¬G b):bF w' b s φ:=h.block (hs.keep b h.lt (.inl hn))
theorem bF.below {w':World} (h:bF w b s φ) (hs:Below w.heap.size w w'):bF w' b s φ:=h.block (hs.block b h.lt)
theorem bF.turn {w':World} (h:bF w b s φ) (ht:w.mapTurned w' b):Step (· =b) w (· =b) w':=Step.bU ht.grown (λr hr=>by cases hr;exact⟨rfl,h.aV⟩)
theorem bF.fE {b':Nat} {T:TypeId} {vs:List Value} (h:bF w b s φ) (hv:ah w b' T vs):b≠b':=by
 obtain⟨D,⟨es,clock,hb,r⟩,_⟩:=h;rintro rfl;unfold ah at hv;rw[hb] at hv;cases hv
end
end
section
open Go.RowKit Go.Shelf O
attribute [local go_sem] Oper.semAt_some
theorem iN {P:Program} {t key elem:TypeId} (hu:P.underlying t=some (.map key elem)) (k:IntKind) (n:Int) (w:World):(Instr.makeMap t (some (.int k n))).run P w=.ok (.map (some w.heap.size)) (w.alloc (.map #[] 0)):=by
 simp[Instr.makeMap,Go.run_underlying hu,asInt,asIntOf,Result.andThen]
abbrev Wl:=List (Nat×Bytes)
def BK (w:World) (b:Nat) (wl:Wl):Prop:=∃C fr,w.heap[b]? =some (.cells C 176 fr)∧∀i (h:i<wl.length),C[2*i]? =some (.int .i64 wl[i].1)∧∃a c,C[2*i+1]? =some (.slice a 480 c)∧wl[i].2.length=480∧cZ w a wl[i].2
section
variable {w w':World} {b:Nat} {wl:Wl}
theorem BK.lt (h:BK w b wl):b<w.heap.size:=by
 obtain⟨C,fr,h1,_⟩:=h;exact(zo.1 h1).1
theorem BK.step {G G':Nat→Prop} (h:BK w b wl) (hs:Step G w G' w') (hn:¬G b):BK w' b wl:=by
 have hl:=h.lt;obtain⟨C,fr,h1,h2⟩:=h;refine⟨C,fr,(hs.keep b hl (.inl hn)).trans h1,λi hi=>?_⟩;obtain⟨h3,a,c,h4,h5,h6⟩:=h2 i hi;exact⟨h3,a,c,h4,h5,h6.step hs⟩
theorem BK.below (h:BK w b wl) (hs:Below w.heap.size w w'):BK w' b wl:=h.step (Step.of_below hs (λ_=>False)) id
theorem BK.get (h:BK w b wl) (i:Nat) (hi:i<wl.length):w.cell? ⟨b,i*2,none⟩=some (.int .i64 wl[i].1)∧∃a c,w.cell? ⟨b,i*2+1,none⟩=some (.slice a 480 c)∧wl[i].2.length=480∧cZ w a wl[i].2:=by
 obtain⟨C,fr,h1,h2⟩:=h;obtain⟨h3,a,c,h4,h5,h6⟩:=h2 i hi;rw[zaM];exact⟨by unfold World.cell?;simp[h1,h3],a,c,by unfold World.cell?;simp[h1,h4],h5,h6⟩
end
section
variable {w:World} {j d:Nat} {s:JS} {C:Nat→Bytes} {st:Nat→Bytes} {wt:Wt} {F:Nat→Prop}
theorem Ee (h:wU w j d s C st wt F):
  Calls Tryz.prog 123 #[.pointer (some ⟨j,0,none⟩)] w λe w'=>e=.returned (.int .i64 0)∧wU w' j d s C (view st wt) [] F∧Step F w F w':=by
 obtain⟨r,rb,t,pb,ob,Fd,f,g,h⟩:=h;have c0:=h.cell 0;have c10:=h.cell 10;simp only[nQ,zf,zi] at c0 c10;have H:=U h;clear h;go_enter Tryz.func123,Tryz.ntmps123;go_wp2_with fail;refine(Ik H.o.dev (λe he=>(H.o.X8.2 e he).1)).mono ?_;rintro e w1 ⟨rfl,j_,bT⟩;have h1:wU w1 j d s C (view st wt) [] F∧Step F w F w1:=by
  have h:=H.o;obtain⟨o1,o2,o3,o4,o5,o6,o7⟩:=h.own;obtain⟨a1,a2,a3,a4,a5,a6⟩:=h.apart;exact⟨⟨r,rb,t,pb,ob,Fd,f,g,h.cells.step bT a1,j_,h.ring.step bT a2 a3,h.tab.step bT a4 a5 a6,h.at_,h.ok,h.secs,h.sup,h.Zi,⟨sQ,sQ⟩,h.Ct,h.freed,h.own,h.apart,h.two,λk hk=>zx (h.lt k hk) bT.size⟩,bT.more o7 (λk hk=>.inl hk)⟩
 go_wp2_with fail;go_ret;exact⟨rfl,h1⟩
theorem Qe (h:wU w j d s C st wt F) {b n c:Nat} {wl:Wl} (hw:BK w b wl) (hl:wl.length=n) (h1:1≤n) (h24:n≤24) (yt:(wl.map Prod.fst).Nodup) (hB:∀e∈wl,e.1<s.B):
  Calls Tryz.prog 122 #[.pointer (some ⟨j,0,none⟩),.slice (some ⟨b,0,none⟩) n c] w λe w'=>∃m φ,e=.returned (.tuple #[.map (some m),.bool true])∧w.heap.size≤m∧bF w' m n φ∧(∀id,(φ id).isSome=decide (id∈wl.map Prod.fst))∧Below w.heap.size w w':=by
 obtain⟨r,rb,t,pb,ob,Fd,f,g,h⟩:=h;have H:=U h;have Ph:=λ(n:Int) (w:World)=>iN (P:=Tryz.prog) Tryz.underlying192 .i64 n w;have aJ:=h.Ct.b.2;go_enter Tryz.func122,Tryz.ntmps122;go_wp2_with fail;go_loopw [24] (λv wr=>∃(k:Nat) (φ:Nat→Option Value),k≤n∧v=.int .i64 k∧bF wr w.heap.size k φ∧(∀id,(φ id).isSome=decide (id∈(wl.take k).map Prod.fst))∧Below w.heap.size w wr) (λv _=>n - (intOf v).toNat)
 case atStart=>exact⟨0,_,oQ,rfl,bF.new w,λid=>sQ,(zn _ _).alloc (zm _) _⟩
 case round=>
  obtain⟨k,φ,hk,rfl,hM,hφ,Ag⟩:=hrel;have HM:=U hM;have Hφ:=U hφ;have Ef:=U Ag;by_cases mW:k<n
  ·have fF:k<wl.length:=oQ
   obtain⟨e1,a1,Pn,e2,e3,e4⟩:=(hw.below Ag).get k fF;have Eh:wl[k].1<s.B:=hB _ (qm fF);obtain⟨id,oH⟩:∃id,wl[k].1=id:=⟨_,rfl⟩
   rw[oH] at e1 Eh;have hnone:φ id=none:=by
    have:=hφ id
    rw[show decide (id∈(wl.take k).map Prod.fst)=false by
     rw[decide_eq_false_iff_not];intro hm;obtain⟨e,he,hee⟩:=qj.1 hm;obtain⟨i,hi,hie⟩:=za0.1 he;rw[zF] at hi;rw[List.getElem_take] at hie;have h1:(wl.map Prod.fst)[i]? =some id:=by rw[qb,zu oQ];simp[hie,hee]
     have h2:(wl.map Prod.fst)[k]? =some id:=by rw[qb,zu fF];simp[oH]
     have:=uK yt h1 h2;omega] at this
    simpa using this
   have c3:=(H.o.below Ag).cell 3;simp only[nQ,zf,zi] at c3;obtain⟨wb,vI⟩:∃wb,wr.alloc (.cells #[.int .i64 id,.slice a1 480 Pn] 176)=wb:=⟨_,rfl⟩
   have hMb:bF wb w.heap.size k φ:=by rw[←vI];exact hM.below ((zn _ _).alloc (zm _) _)
   have vJ:Below w.heap.size w wb:=by rw[←vI];exact Ag.alloc Ag.size _
   have dZ:¬((id:Int)<0):=oQ
   have iA:(id:Int)<(s.B:Int):=oQ
   have Gs:wb.cell? ⟨wr.heap.size,0,none⟩=some (.int .i64 id):=by rw[←vI];exact(ah.new wr 176 [.int .i64 id,.slice a1 480 Pn]).cell 0
   have hc1:wb.cell? ⟨wr.heap.size,1,none⟩=some (.slice a1 480 Pn):=by rw[←vI];exact(ah.new wr 176 [.int .i64 id,.slice a1 480 Pn]).cell 1
   have c3b:wb.cell? ⟨j,3,none⟩=some (.int .i64 s.B):=by have:=(H.o.below vJ).cell 3;simpa only[nQ,zf,zi] using this
   have HMb:=U hMb;have Qf:=U vJ;have af3:=U hnone;have amj:=U oH;have Hhl:=U hl;have Hw:=U hw;clear hM hφ Ag hMb vJ hnone e3 e4 h oH hl hw c3;have hd0:decide ((id:Int)<0)=false:=by rw[decide_eq_false_iff_not];exact dZ
   have X6:decide (s.B≤id)=false:=by rw[decide_eq_false_iff_not];omega
   go_wp2_with fail
   go_quiet (fail)
   obtain⟨wq,hwq⟩:∃wq,wb.drewN nq=wq:=⟨_,rfl⟩
   have hMq:bF wq w.heap.size k φ:=by rw[←hwq];exact HMb.o.below (below_drewN (zn _ _) nq)
   have hBq:Below w.heap.size w wq:=by rw[←hwq];exact below_drewN Qf.o nq
   have iq:wq.cell? ⟨wr.heap.size,0,none⟩=some (.int .i64 id):=by rw[←hwq];exact Gs
   rw[hwq];have hz:(zeroValue 3).run Tryz.prog wq=.ok (.int .i64 0) wq:=kQ
   have af4:id<fZ:=by show id<9223372036854775808;omega
   have yh:=hMq.look Tryz.underlying192 hz id af4;rw[af3.o] at yh;obtain⟨w3,bT,uh,UZ⟩:=hMq.store Tryz.underlying192 (by unfold maxLen;omega) id af4 (.int .i64 k);rw[af3.o] at uh;have lg:=hMq.turn UZ;have bf:Below w.heap.size w w3:=hBq.trans (lg.below (λk hk=>Yx hk.symm) hBq.size);have vX:=U uh;have iB:=U bf;clear hMq hBq uh lg UZ bf hz Gs hc1 c3b hwq;go_wp2_with fail;refine⟨⟨k+1,iM φ id (some (.int .i64 k)),oQ,by go_num,vX.o,λid'=>?_,iB.o⟩,by simp[intOf];omega⟩;have asW:k<wl.length:=by have:=Hhl.o;omega
   rw[zaV,zu asW,zW];by_cases Te:id'=id
   ·have:id'∈List.map Prod.fst (List.take k wl)++List.map Prod.fst (some wl[k]).toList:=by simp[Te,amj.o]
    rw[decide_eq_true this];simp[iM,Te]
   ·have h2:(id'∈List.map Prod.fst (List.take k wl)++List.map Prod.fst (some wl[k]).toList)↔id'∈List.map Prod.fst (List.take k wl):=by
     rw[qg];constructor
     ·rintro(h|h)
      ·exact h
      ·exfalso
       simp[amj.o] at h;exact Te h
     ·exact .inl
    have h3:decide (id'∈List.map Prod.fst (List.take k wl)++List.map Prod.fst (some wl[k]).toList)=decide (id'∈List.map Prod.fst (List.take k wl)):=by simp only[h2]
    rw[h3,←Hφ.o id'];simp[iM,Te]
  ·obtain rfl:k=n:=oQ
   clear hM hφ Ag h;go_wp2_with fail;go_ret2;refine⟨_,φ,rfl,zm _,HM.o,λid=>?_,Ef.o⟩;rw[Hφ.o id,←hl,zae]
end
end
end Go.Proofs.YtdjdpeadohobmaaGreatDoor
