/- A part of the walk below the law: what is proved here is used by later parts; no further condition. -/
import Derived.Test.YtdjdpeadohobmaaGreatDoorK44
import Derived.Test.YtdjdpeadohobmaaGreatDoorK47
import Derived.Test.YtdjdpeadohobmaaGreatDoorK48
import Derived.Test.YtdjdpeadohobmaaGreatDoorK49
set_option linter.unusedVariables false
set_option linter.unusedSimpArgs false
set_option maxRecDepth 100000
set_option maxHeartbeats 20000000
namespace Go.Proofs.YtdjdpeadohobmaaGreatDoor
section
open Go.RowKit Go.Shelf Go.Maps O
attribute [local go_sem] Oper.semAt_some
theorem ab6 {p:Prop} (h:p:=by
 exact⟨b9,jw,ca,cb,cc,g,rfl,HT6.o,rfl⟩
 ):p:=h
theorem Bo {p:Prop} (h:p:=by
 have y9:=Yv.o.box (b:=b9) (T:=34) (vs:=[.int .i64 0,.int .i64 0,.int .i64 0,.slice none 0 0,.slice none 0 0,.int .i64 0,.int .i64 0,.int .i64 0]) sQ;have n9:b9≠bO:=λe=>absurd l9.2 oQ;have n10:jw≠bO:=λe=>absurd l10.2 oQ;refine rE 11 λK hK=>?_;refine jU 34 (.tmp 15) (.tmp 91) rfl b9 (aI ec 0 0) _ 34 rfl rfl y9 rfl kQ (O7 _ _ _) rQ (λv5 y9' k9 _=>?_);have Ch:=U (Yv.o.kept (b:=b9) (T:=34) (vs:=[.int .i64 0,.int .i64 0,.int .i64 0,.slice none 0 0,.slice none 0 0,.int .i64 0,.int .i64 0,.int .i64 0]) (K':=[(jw,36,[.int .i64 0,.int .i64 0,.int .i64 0]),(bO,34,aI 0 0 0)]) sQ dQ l9.1 oQ k9 y9' (by intro x hx;simp only[zH,zO,or_false] at hx;rcases hx with rfl|rfl;exact⟨λe=>ne e.symm,sQ⟩;exact⟨λe=>n9 e.symm,sQ⟩));refine hK.out _ _ (λ_=>Ch.o.cell (b:=bO) (T:=34) (vs:=aI 0 0 0) sQ 1) (λhS=>?_);have y10:=Ch.o.box (b:=jw) (T:=36) (vs:=[.int .i64 0,.int .i64 0,.int .i64 0]) sQ;clear hK K hS y9 y9' k9
 try simp only[Act.put,zh,zk,zl]
 refine rE 12 λK hK=>?_;refine jU 36 (.tmp 16) (.tmp 92) rfl jw [.int .i64 ca,.int .i64 cb,.int .i64 cc] _ 36 rfl rfl y10 rfl kQ (TY _ _ _) rQ (λv6 ab4 k10 _=>?_);have HT6:=U ((Ch.o.kept (b:=jw) (T:=36) (vs:=[.int .i64 0,.int .i64 0,.int .i64 0]) (K':=[(b9,34,aI ec 0 0),(bO,34,aI 0 0 0)]) sQ dQ l10.1 oQ k10 ab4 (by intro x hx;simp only[zH,zO,or_false] at hx;rcases hx with rfl|rfl;exact⟨ne,sQ⟩;exact⟨λe=>n10 e.symm,sQ⟩)).sub (K':=[(b9,34,aI ec 0 0),(bO,34,aI 0 0 0)]) (by intro x hx;exact qC _ hx));refine kX hK ?_;clear hK K y10 ab4 k10
 try simp only[Act.put,zh,zk,zl]
 refine aD ?_;exact ab6
 ):p:=h
theorem O_ {p:Prop} (h:p:=by
 refine rE 10 λK hK=>?_;obtain⟨v4,hv⟩:∃v',v3.alloc (.cells #[.int .i64 0,.int .i64 0,.int .i64 0] 36)=v':=⟨_,rfl⟩
 obtain⟨jw,hb⟩:∃b',v3.heap.size=b':=⟨_,rfl⟩
 have hT:=jo.o.alloc 36 [.int .i64 0,.int .i64 0,.int .i64 0];rw[hv,hb] at hT;have Yv:=U hT;have l10:W.heap.size≤jw∧bO<jw:=by rw[←hb];exact⟨jo.o.size,(jo.o.box (b:=bO) (T:=34) (vs:=aI 0 0 0) sQ).lt⟩
 have ne:b9≠jw:=by have:=(jo.o.box (b:=b9) (T:=34) (vs:=[.int .i64 0,.int .i64 0,.int .i64 0,.slice none 0 0,.slice none 0 0,.int .i64 0,.int .i64 0,.int .i64 0]) sQ).lt;omega
 go_simp
 (try rw[hv]);(try rw[hb])
 clear hv hb hT;refine hK.out _ _ (λ_=>Yv.o.cell (b:=bO) (T:=34) (vs:=aI 0 0 0) sQ 1) (λhS=>?_);have xG:=hS dQ;clear hS hK K
 try simp only[Act.put,zh,zk,zl]
 exact Bo
 ):p:=h
theorem Pb {p:Prop} (h:p:=by
 refine rE 9 λK hK=>?_;obtain⟨v4,hv⟩:∃v',v3.alloc (.cells #[.int .i64 0,.int .i64 0,.int .i64 0,.slice none 0 0,.slice none 0 0,.int .i64 0,.int .i64 0,.int .i64 0] 34)=v':=⟨_,rfl⟩
 obtain⟨b9,hb⟩:∃b',v3.heap.size=b':=⟨_,rfl⟩
 have hT:=jo.o.alloc 34 [.int .i64 0,.int .i64 0,.int .i64 0,.slice none 0 0,.slice none 0 0,.int .i64 0,.int .i64 0,.int .i64 0];rw[hv,hb] at hT;have Yv:=U hT;have l9:W.heap.size≤b9∧bO<b9:=by rw[←hb];exact⟨jo.o.size,(jo.o.box (b:=bO) (T:=34) (vs:=aI 0 0 0) sQ).lt⟩
 have ne:b9≠jw:=by have:=(jo.o.box (b:=jw) (T:=36) (vs:=[.int .i64 0,.int .i64 0,.int .i64 0]) sQ).lt;omega
 go_simp
 (try rw[hv]);(try rw[hb])
 clear hv hb hT;refine hK.out _ _ (λ_=>Yv.o.cell (b:=bO) (T:=34) (vs:=aI 0 0 0) sQ 1) (λhS=>?_);have xG:=hS dQ;clear hS hK K
 try simp only[Act.put,zh,zk,zl]
 exact Bo
 ):p:=h
theorem FV {p:Prop} (h:p:=by
 refine rE 5 λK hK=>?_;go_simp;refine(Ab.o v3 _ g jo.o afs.o Yi).mono ?_;rintro e v4 ⟨⟨ca,cb,cc,rfl⟩,hT⟩;have Yv:=U hT;clear hT;simp only[dH,gY];go_wp2_with fail;refine hK.out _ _ (λ_=>Yv.o.cell (b:=bO) (T:=34) (vs:=aI 0 0 0) sQ 1) (λhS=>?_);have xG:=hS dQ;clear hS hK K
 try simp only[Act.put,zh,zk,zl]
 refine te 6 xG ?_;refine te 7 xG ?_;refine te 8 xG ?_;exact Bo
 ):p:=h
theorem aft {p:Prop} (h:p:=by
 refine gK (i:=9) (j:=10) rfl rfl kQ (λK hK=>?_) (λK hK=>?_)
 ·obtain⟨v3,hv⟩:∃v',v2.alloc (.cells #[.int .i64 0,.int .i64 0,.int .i64 0,.slice none 0 0,.slice none 0 0,.int .i64 0,.int .i64 0,.int .i64 0] 34)=v':=⟨_,rfl⟩
  obtain⟨b9,hb⟩:∃b',v2.heap.size=b':=⟨_,rfl⟩
  have hT:=iY.o.alloc 34 [.int .i64 0,.int .i64 0,.int .i64 0,.slice none 0 0,.slice none 0 0,.int .i64 0,.int .i64 0,.int .i64 0];rw[hv,hb] at hT;have jo:=U hT;have l9:W.heap.size≤b9∧bO<b9:=by rw[←hb];exact⟨iY.o.size,(iY.o.box (b:=bO) (T:=34) (vs:=aI 0 0 0) sQ).lt⟩
  go_simp
  (try rw[hv]);(try rw[hb])
  clear hv hb hT;refine hK.out _ _ (λ_=>jo.o.cell (b:=bO) (T:=34) (vs:=aI 0 0 0) sQ 1) (λhS=>?_);have jd:=hS dQ;clear hS hK K
  try simp only[Act.put,zh,zk,zl]
  exact O_
 ·obtain⟨v3,hv⟩:∃v',v2.alloc (.cells #[.int .i64 0,.int .i64 0,.int .i64 0] 36)=v':=⟨_,rfl⟩
  obtain⟨jw,hb⟩:∃b',v2.heap.size=b':=⟨_,rfl⟩
  have hT:=iY.o.alloc 36 [.int .i64 0,.int .i64 0,.int .i64 0];rw[hv,hb] at hT;have jo:=U hT;have l10:W.heap.size≤jw∧bO<jw:=by rw[←hb];exact⟨iY.o.size,(iY.o.box (b:=bO) (T:=34) (vs:=aI 0 0 0) sQ).lt⟩
  go_simp
  (try rw[hv]);(try rw[hb])
  clear hv hb hT;refine hK.out _ _ (λ_=>jo.o.cell (b:=bO) (T:=34) (vs:=aI 0 0 0) sQ 1) (λhS=>?_);have jd:=hS dQ;clear hS hK K
  try simp only[Act.put,zh,zk,zl]
  exact Pb
 ):p:=h
theorem Ud {p:Prop} (h:p:=by
 refine gK (i:=5) (j:=10) rfl rfl kQ (λK hK=>?_) (λK hK=>?_)
 ·go_simp
  refine(Ab.o v2 _ g iY.o Lr.o wQ).mono ?_;rintro e v3 ⟨⟨ca,cb,cc,rfl⟩,hT⟩;have jo:=U hT;clear hT;simp only[dH,gY];go_wp2_with fail;refine hK.out _ _ (λ_=>jo.o.cell (b:=bO) (T:=34) (vs:=aI 0 0 0) sQ 1) (λhS=>?_);have jd:=hS dQ;clear hS hK K
  try simp only[Act.put,zh,zk,zl]
  refine te 6 jd ?_;refine te 7 jd ?_;refine te 8 jd ?_;exact O_
 ·obtain⟨v3,hv⟩:∃v',v2.alloc (.cells #[.int .i64 0,.int .i64 0,.int .i64 0] 36)=v':=⟨_,rfl⟩
  obtain⟨jw,hb⟩:∃b',v2.heap.size=b':=⟨_,rfl⟩
  have hT:=iY.o.alloc 36 [.int .i64 0,.int .i64 0,.int .i64 0];rw[hv,hb] at hT;have jo:=U hT;have l10:W.heap.size≤jw∧bO<jw:=by rw[←hb];exact⟨iY.o.size,(iY.o.box (b:=bO) (T:=34) (vs:=aI 0 0 0) sQ).lt⟩
  have ne:b9≠jw:=by have:=(iY.o.box (b:=b9) (T:=34) (vs:=[.int .i64 0,.int .i64 0,.int .i64 0,.slice none 0 0,.slice none 0 0,.int .i64 0,.int .i64 0,.int .i64 0]) sQ).lt;omega
  have afs:=U (Lr.o.below (w':=v3) (by rw[←hv];exact(zn _ _).alloc (zm _) _));have Yi:g<v3.heap.size:=by rw[←hv,zah];omega
  go_simp
  (try rw[hv]);(try rw[hb])
  clear hv hb hT;refine hK.out _ _ (λ_=>jo.o.cell (b:=bO) (T:=34) (vs:=aI 0 0 0) sQ 1) (λhS=>?_);have jd:=hS dQ;clear hS hK K
  try simp only[Act.put,zh,zk,zl]
  exact FV
 ):p:=h
theorem Ue {p:Prop} (h:p:=by
 refine gK (i:=5) (j:=9) rfl rfl kQ (λK hK=>?_) (λK hK=>?_)
 ·go_simp
  refine(Ab.o v2 _ g iY.o Lr.o wQ).mono ?_;rintro e v3 ⟨⟨ca,cb,cc,rfl⟩,hT⟩;have jo:=U hT;clear hT;simp only[dH,gY];go_wp2_with fail;refine hK.out _ _ (λ_=>jo.o.cell (b:=bO) (T:=34) (vs:=aI 0 0 0) sQ 1) (λhS=>?_);have jd:=hS dQ;clear hS hK K
  try simp only[Act.put,zh,zk,zl]
  refine te 6 jd ?_;refine te 7 jd ?_;refine te 8 jd ?_;exact Pb
 ·obtain⟨v3,hv⟩:∃v',v2.alloc (.cells #[.int .i64 0,.int .i64 0,.int .i64 0,.slice none 0 0,.slice none 0 0,.int .i64 0,.int .i64 0,.int .i64 0] 34)=v':=⟨_,rfl⟩
  obtain⟨b9,hb⟩:∃b',v2.heap.size=b':=⟨_,rfl⟩
  have hT:=iY.o.alloc 34 [.int .i64 0,.int .i64 0,.int .i64 0,.slice none 0 0,.slice none 0 0,.int .i64 0,.int .i64 0,.int .i64 0];rw[hv,hb] at hT;have jo:=U hT;have l9:W.heap.size≤b9∧bO<b9:=by rw[←hb];exact⟨iY.o.size,(iY.o.box (b:=bO) (T:=34) (vs:=aI 0 0 0) sQ).lt⟩
  have ne:b9≠jw:=by have:=(iY.o.box (b:=jw) (T:=36) (vs:=[.int .i64 0,.int .i64 0,.int .i64 0]) sQ).lt;omega
  have afs:=U (Lr.o.below (w':=v3) (by rw[←hv];exact(zn _ _).alloc (zm _) _));have Yi:g<v3.heap.size:=by rw[←hv,zah];omega
  go_simp
  (try rw[hv]);(try rw[hb])
  clear hv hb hT;refine hK.out _ _ (λ_=>jo.o.cell (b:=bO) (T:=34) (vs:=aI 0 0 0) sQ 1) (λhS=>?_);have jd:=hS dQ;clear hS hK K
  try simp only[Act.put,zh,zk,zl]
  exact FV
 ):p:=h
theorem Uf {p:Prop} (h:p:=by
 refine rE 3 λK hK=>?_;obtain⟨v3,fC,ho,hB,vR⟩:=eT (P:=Tryz.prog) bD (base:=v2.heap.size) (w:=v2) .i64 .i64 480 oQ oQ (zm _);replace fC:(Instr.makeSlice 22 (.int .i64 480) (.int .i64 480)).run Tryz.prog v2=.ok (.slice (some ⟨v2.heap.size,0,none⟩) 480 480) v3:=fC;rw[eB] at ho;have afs:=U (show cZ v3 (some ⟨v2.heap.size,0,none⟩) (zeros 480) from Own.pR ho);have jo:=U (iY.o.grow hB);have Yi:v2.heap.size<v3.heap.size:=oQ
 obtain⟨g,Sv⟩:∃g,v2.heap.size=g:=⟨_,rfl⟩
 rw[Sv] at afs Yi;go_simp
 try rw[Sv]
 clear fC ho hB Sv vR;refine hK.out _ _ (λ_=>jo.o.cell (b:=bO) (T:=34) (vs:=aI 0 0 0) sQ 1) (λhS=>?_);have jd:=hS dQ;clear hS hK K
 try simp only[Act.put,zh,zk,zl]
 refine te 4 jd ?_;exact FV
 ):p:=h
theorem ajV {p:Prop} (h:p:=by
 refine FN (i:=5) (j:=9) (k:=10) rfl rfl rfl kQ (λK hK=>?_) (λK hK=>?_) (λK hK=>?_)
 ·go_simp
  refine(Ab.o v1 _ g lH.o afu.o FZ).mono ?_;rintro e v2 ⟨⟨ca,cb,cc,rfl⟩,hT⟩;have iY:=U hT;clear hT;simp only[dH,gY];go_wp2_with fail;refine hK.out _ _ (λ_=>iY.o.cell (b:=bO) (T:=34) (vs:=aI 0 0 0) sQ 1) (λhS=>?_);have bV:=hS dQ;clear hS hK K
  try simp only[Act.put,zh,zk,zl]
  refine te 6 bV ?_;refine te 7 bV ?_;refine te 8 bV ?_;exact aft
 ·obtain⟨v2,hv⟩:∃v',v1.alloc (.cells #[.int .i64 0,.int .i64 0,.int .i64 0,.slice none 0 0,.slice none 0 0,.int .i64 0,.int .i64 0,.int .i64 0] 34)=v':=⟨_,rfl⟩
  obtain⟨b9,hb⟩:∃b',v1.heap.size=b':=⟨_,rfl⟩
  have hT:=lH.o.alloc 34 [.int .i64 0,.int .i64 0,.int .i64 0,.slice none 0 0,.slice none 0 0,.int .i64 0,.int .i64 0,.int .i64 0];rw[hv,hb] at hT;have iY:=U hT;have l9:W.heap.size≤b9∧bO<b9:=by rw[←hb];exact⟨lH.o.size,(lH.o.box (b:=bO) (T:=34) (vs:=aI 0 0 0) sQ).lt⟩
  have Lr:=U (afu.o.below (w':=v2) (by rw[←hv];exact(zn _ _).alloc (zm _) _));have wQ:g<v2.heap.size:=by rw[←hv,zah];omega
  go_simp
  (try rw[hv]);(try rw[hb])
  clear hv hb hT;refine hK.out _ _ (λ_=>iY.o.cell (b:=bO) (T:=34) (vs:=aI 0 0 0) sQ 1) (λhS=>?_);have bV:=hS dQ;clear hS hK K
  try simp only[Act.put,zh,zk,zl]
  exact Ud
 ·obtain⟨v2,hv⟩:∃v',v1.alloc (.cells #[.int .i64 0,.int .i64 0,.int .i64 0] 36)=v':=⟨_,rfl⟩
  obtain⟨jw,hb⟩:∃b',v1.heap.size=b':=⟨_,rfl⟩
  have hT:=lH.o.alloc 36 [.int .i64 0,.int .i64 0,.int .i64 0];rw[hv,hb] at hT;have iY:=U hT;have l10:W.heap.size≤jw∧bO<jw:=by rw[←hb];exact⟨lH.o.size,(lH.o.box (b:=bO) (T:=34) (vs:=aI 0 0 0) sQ).lt⟩
  have Lr:=U (afu.o.below (w':=v2) (by rw[←hv];exact(zn _ _).alloc (zm _) _));have wQ:g<v2.heap.size:=by rw[←hv,zah];omega
  go_simp
  (try rw[hv]);(try rw[hb])
  clear hv hb hT;refine hK.out _ _ (λ_=>iY.o.cell (b:=bO) (T:=34) (vs:=aI 0 0 0) sQ 1) (λhS=>?_);have bV:=hS dQ;clear hS hK K
  try simp only[Act.put,zh,zk,zl]
  exact Ue
 ):p:=h
theorem ajW {p:Prop} (h:p:=by
 refine gK (i:=3) (j:=10) rfl rfl kQ (λK hK=>?_) (λK hK=>?_)
 ·obtain⟨v2,fC,ho,hB,vR⟩:=eT (P:=Tryz.prog) bD (base:=v1.heap.size) (w:=v1) .i64 .i64 480 oQ oQ (zm _)
  replace fC:(Instr.makeSlice 22 (.int .i64 480) (.int .i64 480)).run Tryz.prog v1=.ok (.slice (some ⟨v1.heap.size,0,none⟩) 480 480) v2:=fC;rw[eB] at ho;have Lr:=U (show cZ v2 (some ⟨v1.heap.size,0,none⟩) (zeros 480) from Own.pR ho);have iY:=U (lH.o.grow hB);have wQ:v1.heap.size<v2.heap.size:=oQ
  obtain⟨g,Sv⟩:∃g,v1.heap.size=g:=⟨_,rfl⟩
  rw[Sv] at Lr wQ;go_simp
  try rw[Sv]
  clear fC ho hB Sv vR;refine hK.out _ _ (λ_=>iY.o.cell (b:=bO) (T:=34) (vs:=aI 0 0 0) sQ 1) (λhS=>?_);have bV:=hS dQ;clear hS hK K
  try simp only[Act.put,zh,zk,zl]
  refine te 4 bV ?_;exact Ud
 ·obtain⟨v2,hv⟩:∃v',v1.alloc (.cells #[.int .i64 0,.int .i64 0,.int .i64 0] 36)=v':=⟨_,rfl⟩
  obtain⟨jw,hb⟩:∃b',v1.heap.size=b':=⟨_,rfl⟩
  have hT:=lH.o.alloc 36 [.int .i64 0,.int .i64 0,.int .i64 0];rw[hv,hb] at hT;have iY:=U hT;have l10:W.heap.size≤jw∧bO<jw:=by rw[←hb];exact⟨lH.o.size,(lH.o.box (b:=bO) (T:=34) (vs:=aI 0 0 0) sQ).lt⟩
  have ne:b9≠jw:=by have:=(lH.o.box (b:=b9) (T:=34) (vs:=[.int .i64 0,.int .i64 0,.int .i64 0,.slice none 0 0,.slice none 0 0,.int .i64 0,.int .i64 0,.int .i64 0]) sQ).lt;omega
  go_simp
  (try rw[hv]);(try rw[hb])
  clear hv hb hT;refine hK.out _ _ (λ_=>iY.o.cell (b:=bO) (T:=34) (vs:=aI 0 0 0) sQ 1) (λhS=>?_);have bV:=hS dQ;clear hS hK K
  try simp only[Act.put,zh,zk,zl]
  exact Uf
 ):p:=h
theorem ajX {p:Prop} (h:p:=by
 refine gK (i:=3) (j:=9) rfl rfl kQ (λK hK=>?_) (λK hK=>?_)
 ·obtain⟨v2,fC,ho,hB,vR⟩:=eT (P:=Tryz.prog) bD (base:=v1.heap.size) (w:=v1) .i64 .i64 480 oQ oQ (zm _)
  replace fC:(Instr.makeSlice 22 (.int .i64 480) (.int .i64 480)).run Tryz.prog v1=.ok (.slice (some ⟨v1.heap.size,0,none⟩) 480 480) v2:=fC;rw[eB] at ho;have Lr:=U (show cZ v2 (some ⟨v1.heap.size,0,none⟩) (zeros 480) from Own.pR ho);have iY:=U (lH.o.grow hB);have wQ:v1.heap.size<v2.heap.size:=oQ
  obtain⟨g,Sv⟩:∃g,v1.heap.size=g:=⟨_,rfl⟩
  rw[Sv] at Lr wQ;go_simp
  try rw[Sv]
  clear fC ho hB Sv vR;refine hK.out _ _ (λ_=>iY.o.cell (b:=bO) (T:=34) (vs:=aI 0 0 0) sQ 1) (λhS=>?_);have bV:=hS dQ;clear hS hK K
  try simp only[Act.put,zh,zk,zl]
  refine te 4 bV ?_;exact Ue
 ·obtain⟨v2,hv⟩:∃v',v1.alloc (.cells #[.int .i64 0,.int .i64 0,.int .i64 0,.slice none 0 0,.slice none 0 0,.int .i64 0,.int .i64 0,.int .i64 0] 34)=v':=⟨_,rfl⟩
  obtain⟨b9,hb⟩:∃b',v1.heap.size=b':=⟨_,rfl⟩
  have hT:=lH.o.alloc 34 [.int .i64 0,.int .i64 0,.int .i64 0,.slice none 0 0,.slice none 0 0,.int .i64 0,.int .i64 0,.int .i64 0];rw[hv,hb] at hT;have iY:=U hT;have l9:W.heap.size≤b9∧bO<b9:=by rw[←hb];exact⟨lH.o.size,(lH.o.box (b:=bO) (T:=34) (vs:=aI 0 0 0) sQ).lt⟩
  have ne:b9≠jw:=by have:=(lH.o.box (b:=jw) (T:=36) (vs:=[.int .i64 0,.int .i64 0,.int .i64 0]) sQ).lt;omega
  go_simp
  (try rw[hv]);(try rw[hb])
  clear hv hb hT;refine hK.out _ _ (λ_=>iY.o.cell (b:=bO) (T:=34) (vs:=aI 0 0 0) sQ 1) (λhS=>?_);have bV:=hS dQ;clear hS hK K
  try simp only[Act.put,zh,zk,zl]
  exact Uf
 ):p:=h
theorem ajY {p:Prop} (h:p:=by
 refine FN (i:=3) (j:=9) (k:=10) rfl rfl rfl kQ (λK hK=>?_) (λK hK=>?_) (λK hK=>?_)
 ·obtain⟨v1,fC,ho,hB,vR⟩:=eT (P:=Tryz.prog) bD (base:=v0.heap.size) (w:=v0) .i64 .i64 480 oQ oQ (zm _)
  replace fC:(Instr.makeSlice 22 (.int .i64 480) (.int .i64 480)).run Tryz.prog v0=.ok (.slice (some ⟨v0.heap.size,0,none⟩) 480 480) v1:=fC;rw[eB] at ho;have afu:=U (show cZ v1 (some ⟨v0.heap.size,0,none⟩) (zeros 480) from Own.pR ho);have lH:=U (Sl.o.grow hB);have FZ:v0.heap.size<v1.heap.size:=oQ
  obtain⟨g,Sv⟩:∃g,v0.heap.size=g:=⟨_,rfl⟩
  rw[Sv] at afu FZ;go_simp
  try rw[Sv]
  clear fC ho hB Sv vR;refine hK.out _ _ (λ_=>lH.o.cell (b:=bO) (T:=34) (vs:=aI 0 0 0) sQ 1) (λhS=>?_);have bQ:=hS dQ;clear hS hK K
  try simp only[Act.put,zh,zk,zl]
  refine te 4 bQ ?_;exact ajV
 ·obtain⟨v1,hv⟩:∃v',v0.alloc (.cells #[.int .i64 0,.int .i64 0,.int .i64 0,.slice none 0 0,.slice none 0 0,.int .i64 0,.int .i64 0,.int .i64 0] 34)=v':=⟨_,rfl⟩
  obtain⟨b9,hb⟩:∃b',v0.heap.size=b':=⟨_,rfl⟩
  have hT:=Sl.o.alloc 34 [.int .i64 0,.int .i64 0,.int .i64 0,.slice none 0 0,.slice none 0 0,.int .i64 0,.int .i64 0,.int .i64 0];rw[hv,hb] at hT;have lH:=U hT;have l9:W.heap.size≤b9∧bO<b9:=by rw[←hb];exact⟨Sl.o.size,(Sl.o.box (b:=bO) (T:=34) (vs:=aI 0 0 0) sQ).lt⟩
  go_simp
  (try rw[hv]);(try rw[hb])
  clear hv hb hT;refine hK.out _ _ (λ_=>lH.o.cell (b:=bO) (T:=34) (vs:=aI 0 0 0) sQ 1) (λhS=>?_);have bQ:=hS dQ;clear hS hK K
  try simp only[Act.put,zh,zk,zl]
  exact ajW
 ·obtain⟨v1,hv⟩:∃v',v0.alloc (.cells #[.int .i64 0,.int .i64 0,.int .i64 0] 36)=v':=⟨_,rfl⟩
  obtain⟨jw,hb⟩:∃b',v0.heap.size=b':=⟨_,rfl⟩
  have hT:=Sl.o.alloc 36 [.int .i64 0,.int .i64 0,.int .i64 0];rw[hv,hb] at hT;have lH:=U hT;have l10:W.heap.size≤jw∧bO<jw:=by rw[←hb];exact⟨Sl.o.size,(Sl.o.box (b:=bO) (T:=34) (vs:=aI 0 0 0) sQ).lt⟩
  go_simp
  (try rw[hv]);(try rw[hb])
  clear hv hb hT;refine hK.out _ _ (λ_=>lH.o.cell (b:=bO) (T:=34) (vs:=aI 0 0 0) sQ 1) (λhS=>?_);have bQ:=hS dQ;clear hS hK K
  try simp only[Act.put,zh,zk,zl]
  exact ajX
 ):p:=h
theorem JF {p:Prop} (h:p:=by
 clear e4 e5 hR apU jS;go_loopw [9] (λvv wr=>∃i:Nat,i≤N∧vv=.int .i64 i∧bR W fm d fb B P (FP B (1+60*i)) [] wr) (λvv _=>N - (intOf vv).toNat)
 case atStart=>exact⟨0,oQ,rfl,apV.o⟩
 case round=>
  obtain⟨i,hi,rfl,hE⟩:=hrel;have HE:=U hE;clear hE;by_cases BL:i<N
  ·have awg:(i:Int)<N:=oQ
   go_wp2_with fail;refine(abS ⟨oQ,oQ⟩ oQ HE.o).mono ?_;rintro e w3 ⟨⟨a3,b3,c3,rfl⟩,NY⟩;obtain⟨T3,z3⟩:=NY.ans 0 0 0 a3 b3 c3;obtain⟨W3,tu⟩:∃W3,dF w3 0 0 0 a3 b3 c3=W3:=⟨_,rfl⟩
   rw[tu] at T3 z3;unfold dF at tu;have jo:=U T3;clear NY T3;simp only[dH,gY];go_wp2_with fail;refine(ajL (R:=R) oQ jo.o).mono ?_;rintro e w4 ⟨⟨a4,b4,c4,rfl⟩,hE4⟩;obtain⟨T4,z4⟩:=hE4.ans 0 0 0 a4 b4 c4;obtain⟨W4,hW4⟩:∃W4,dF w4 0 0 0 a4 b4 c4=W4:=⟨_,rfl⟩
   rw[hW4] at T4 z4;unfold dF at hW4;have y3:=T4.cell (b:=w3.heap.size) (T:=34) (vs:=aI 0 0 0) (qC _ (qJ ..)) 0;have y4:=T4.cell (b:=w4.heap.size) (T:=34) (vs:=aI 0 0 0) (qJ ..) 0;simp only[aI,zf] at y3 y4;have Yv:=U (T4.sub (K':=[(w4.heap.size,34,aI 0 0 0)]) sQ);clear hE4 T4 tu;simp only[dH,gY];go_wp2_with fail;clear y3 y4 hW4;obtain⟨bO,hbO⟩:∃bO,w4.heap.size=bO:=⟨_,rfl⟩
   rw[hbO] at Yv ⊢;go_loopw [14] (λvv wr=>∃k:Nat,k≤R+1∧vv=.int .i64 k∧bR W fm d fb B P (uH B R (1+60*i+1) k) [(bO,34,aI 0 0 0)] wr) (λvv _=>R+1 - (intOf vv).toNat)
   case atStart=>exact⟨0,oQ,rfl,Yv.o⟩
   case round=>
    obtain⟨k,hk,rfl,hE⟩:=hrel;by_cases hkR:k≤R
    ·have awh:(k:Int)≤R:=oQ
     have o1:=hE.cell (b:=bO) (T:=34) (vs:=aI 0 0 0) (qJ ..) 1;have nI:=(hE.box (qJ ..)).lt;simp only[aI,zf,zi] at o1;have HE2:=U hE;clear hE;have hq9:1+60*i+1<900000:=oQ
     obtain⟨ec,hec⟩:∃ec:Int,(if k<R then 0 else 7)=ec:=⟨_,rfl⟩
     have Ab:Hid (∀(v:World) (K:O6) (g:Nat),bR W fm d fb B P (uH B R (1+60*i+1) k) K v→cZ v (some ⟨g,0,none⟩) (zeros 480)→g<v.heap.size→Calls Tryz.prog 8 #[.pointer (some ⟨fm,0,none⟩),bK 10 0 ⟨#[]⟩ (.slice (some ⟨g,0,none⟩) 480 480)] v λe w'=>jT W fm d fb B P K (uH B R (1+60*i+1) (k+1)) ec 0 0 e w'):=U (λv K g h1 h2 h3=>by rw[←hec];exact ajM aF HR2.o hq9 hkR h1 h2 h3);have Hec:=U hec;clear hec;go_wp2_with fail;generalize dw:Act.mk _ _=a0;refine Code.wp_mono (Q:=NoPanic λe a W'=>∃b9 jw ca cb cc g,e=.normal∧bR W fm d fb B P (uH B R (1+60*i+1) (k+1)) [(b9,34,aI ec 0 0),(bO,34,aI 0 0 0)] W'∧a={tmps:=((((((((((a0.tmps.setIfInBounds 85 (.pointer (some ⟨fm,0,none⟩))).setIfInBounds 86 (.pointer (some ⟨bO,1,none⟩))).setIfInBounds 87 (.int .i64 0)).setIfInBounds 88 (.slice (some ⟨g,0,none⟩) 480 480)).setIfInBounds 89 (.agg #[.int .i64 10,.int .i64 0,.int .i64 0,.string ⟨#[]⟩,.string ⟨#[]⟩,.int .i64 0,.slice (some ⟨g,0,none⟩) 480 480])).setIfInBounds 90 (.tuple #[dH ec 0 0,gY ca cb cc])).setIfInBounds 84 (.tuple #[dH ec 0 0,gY ca cb cc])).setIfInBounds 91 (dH ec 0 0)).setIfInBounds 92 (gY ca cb cc)).setIfInBounds 15 (.pointer (some ⟨b9,0,none⟩))).setIfInBounds 16 (.pointer (some ⟨jw,0,none⟩)),defers:=a0.defers}) ?_ ?_
     case refine_2=>
      subst dw;refine wp_region_noPanic ?_;refine ak (S:=(λW'=>W'.cell? ⟨bO,1,none⟩=some (.int .i64 0))) (m:=12) kQ o1 (λaj=>?_);have Sl:=U HE2.o.drew;generalize wr.drew=v0 at*;refine te 0 aj ?_;refine te 1 aj ?_;refine te 2 aj ?_;exact ajY
     intro e a W8 iq;obtain⟨b9,jw,ca,cb,cc,g,rfl,hT8,rfl⟩:=NoPanic.imp e a W8 iq;clear iq;subst dw;simp only[zh,zk,zl];have y9:=hT8.cell (b:=b9) (T:=34) (vs:=aI ec 0 0) (qJ ..) 0;simp only[aI,zf] at y9;have HT8:=U (hT8.sub (K':=[(bO,34,aI 0 0 0)]) (λx hx=>qC _ hx));clear hT8;have pX:IntKind.i64.wrap ((k:Int)+1)=((k+1:Nat):Int):=by rw[zG];omega
     by_cases bA:k<R
     ·have awj:(k:Int)<R:=oQ
      obtain rfl:ec=0:=by rw[←Hec.o,if_pos bA]
      go_wp2_with fail;go_roundw
      case rel=>exact⟨k+1,oQ,by go_num,HT8.o⟩
      case measure=>simp[intOf];omega
     ·have awj:¬(k:Int)<R:=oQ
      obtain rfl:ec=7:=by rw[←Hec.o,if_neg bA]
      go_wp2_with fail;go_roundw
      case rel=>exact⟨k+1,oQ,by go_num,HT8.o⟩
      case measure=>simp[intOf];omega
    ·obtain rfl:k=R+1:=oQ
     have awh:¬((R+1:Nat):Int)≤R:=oQ
     have o1:=hE.cell (b:=bO) (T:=34) (vs:=aI 0 0 0) (qJ ..) 1;have nI:=(hE.box (qJ ..)).lt;simp only[aI,zf,zi] at o1;have HE2:=U hE;clear hE;go_wp2_with fail;refine(afi aF HR2.o oQ HE2.o).mono ?_;rintro e w5 ⟨mc,hmc,⟨a5,b5,c5,rfl⟩,LD⟩;obtain⟨T5,z5⟩:=LD.ans 0 B mc a5 b5 c5;obtain⟨W5,Es⟩:∃W5,dF w5 0 B mc a5 b5 c5=W5:=⟨_,rfl⟩
     rw[Es] at T5 z5;unfold dF at Es;have o5:=T5.cell (b:=bO) (T:=34) (vs:=aI 0 0 0) sQ 1;simp only[aI,zf,zi] at o5;have Ch:=U T5;clear LD T5 o1;simp only[dH,gY];go_wp2_with fail;refine(afj Ch.o).mono ?_;rintro e w6 ⟨⟨a6,b6,c6,rfl⟩,hE6⟩;obtain⟨T6,z6⟩:=hE6.ans 0 0 0 a6 b6 c6;obtain⟨W6,hW6⟩:∃W6,dF w6 0 0 0 a6 b6 c6=W6:=⟨_,rfl⟩
     rw[hW6] at T6 z6;unfold dF at hW6;have HT6:=U T6;clear hE6 T6 o5 Es;simp only[dH,gY];go_wp2_with fail;refine(abT oQ HT6.o).mono ?_;rintro e w7 ⟨⟨a7,b7,c7,rfl⟩,hE7⟩;obtain⟨T7,z7⟩:=hE7.ans 0 0 0 a7 b7 c7;obtain⟨W7,hW7⟩:∃W7,dF w7 0 0 0 a7 b7 c7=W7:=⟨_,rfl⟩
     rw[hW7] at T7 z7;unfold dF at hW7;have HT7:=U T7;clear hE7 T7 hW6;simp only[dH,gY];go_wp2_with fail;refine(afk oQ HT7.o).mono ?_;rintro e w8 ⟨⟨a8,b8,c8,rfl⟩,hE8⟩;obtain⟨T8,z8⟩:=hE8.ans 0 B ((B:Int) - 2) a8 b8 c8;obtain⟨W8,hW8⟩:∃W8,dF w8 0 B ((B:Int) - 2) a8 b8 c8=W8:=⟨_,rfl⟩
     rw[hW8] at T8 z8;unfold dF at hW8;have q5:=T8.box (b:=w5.heap.size) (T:=34) (vs:=aI 0 B mc) sQ;have q6:=T8.cell (b:=w6.heap.size) (T:=34) (vs:=aI 0 0 0) sQ 0;have q7:=T8.cell (b:=w7.heap.size) (T:=34) (vs:=aI 0 0 0) sQ 0;have q8:=T8.cell (b:=w8.heap.size) (T:=34) (vs:=aI 0 B ((B:Int) - 2)) sQ 2;have q50:=q5.cell 0;have q52:=q5.cell 2;simp only[aI,zf,zi] at q50 q52 q6 q7 q8
     have HT8:=U ((T8.sub (K':=[]) sQ).imp (p':=FP B (1+60*(i+1))) (by
      rintro q nn C cl yo op ⟨h1,h2,h3,h4⟩;exact⟨h1,h2,oQ,h4⟩))
     have aHi:¬(1<mc):=oQ
     clear hE8 T8 hW7 q5;simp only[dH,gY];go_wp2_with fail;go_roundw
     case rel=>exact⟨i+1,oQ,by go_num,HT8.o⟩
     case measure=>simp[intOf];omega
  ·have awg:¬(i:Int)<N:=oQ
   go_wp2_with fail;go_ret;obtain⟨q,nn,C,cl,yo,op,F,h1,h2⟩:=HE.o;exact⟨rfl,h2.O5⟩
 ):p:=h
theorem walk_TopRoom (W:World) (hG:Glob W) (z:Int) (hz: -9223372036854775808≤z∧z≤9223372036854775807) (y:Int) (hy: -9223372036854775808≤y∧y≤9223372036854775807):
  Calls Tryz.prog 4 #[.int .i64 z,.int .i64 y] W λe w'=>e=.returned (.bool true)∧Below W.heap.size W w':=by
 have hgs:=hG.size;have HG:=U hG;clear hG;obtain⟨m,apy,hm⟩:=Dh z 65535 65535 rfl oQ;obtain⟨m2,awl,bC⟩:=Dh y 65535 65535 rfl oQ;obtain⟨B,hB⟩:∃B,6+m%35=B:=⟨_,rfl⟩
 obtain⟨N,hN⟩:∃N,1+m2%3=N:=⟨_,rfl⟩
 have aF:6≤B∧B≤40:=oQ
 have AL:1≤N∧N≤3:=oQ
 have hBi:6+(m:Int)%35=(B:Int):=oQ
 have hNi:1+(m2:Int)%3=(N:Int):=oQ
 have HBi:=U hBi;have HNi:=U hNi;clear hBi hNi hB hN;go_enter Tryz.func4,Tryz.ntmps4;go_wp2_with fail;refine(JC HG.o).mono ?_;rintro e w1 ⟨rfl,ab5⟩;have Sn:=U ab5;clear ab5;go_wp2_with fail;rw[HBi.o,HNi.o];obtain⟨P,hP⟩:∃P,least B=P:=⟨_,rfl⟩
 have MS:Geo B P:=by rw[←hP];exact Ju oQ
 refine(Jv oQ).mono ?_;rintro e w1' ⟨rfl,rfl⟩;rw[hP];have Zv:=U MS;clear hP MS;go_wp2_with fail;refine(FD Zv.o (HG.o.below Sn.o)).mono ?_;rintro e w2 ⟨fm,d,fb,q0,F0,rfl,hc,hf,hq,hn,xW,hs⟩;have hz1:=Sn.o.size;have T2:jB W w2 [] fm d fb B P q0 0 (nE B) true true nH F0:=⟨⟨hc,hf,hn,oQ⟩,Sn.o.trans (hs.below (λ_ h=>h.elim) hz1),λk hk=>zC hz1 ((hs.new k hk).resolve_left id),oQ,λx hx=>(by cases hx)⟩
 have apV:=U (show bR W fm d fb B P (FP B 1) [] w2 from⟨_,_,_,_,_,_,_,⟨rfl,rfl,hq,_,yY oQ⟩,T2⟩);clear T2 hc hf hn xW hs;obtain⟨R,hR⟩:∃R,R=if 16<B - 4 then max 16 (B - 5) else B - 4:=⟨_,rfl⟩
 have Gq:(¬16<B - 4∧R=B - 4)∨(16<B - 4∧R=max 16 (B - 5)):=by
  rw[hR]
  split
  ·exact .inr ⟨by assumption,rfl⟩
  ·exact .inl ⟨by assumption,rfl⟩
 have HR2:=U Gq;have hRB:R≤36:=oQ
 have e4:IntKind.i64.wrap ((B:Int) - 4)=(B:Int) - 4:=by rw[zG];omega
 have e5:IntKind.i64.wrap ((B:Int) - 4 - 1)=(B:Int) - 5:=by rw[zG];omega
 clear hR;rcases Gq with⟨jS,hR⟩|⟨jS,hR⟩
 ·have apU:¬(16:Int)<(B:Int) - 4:=oQ
  go_wp2_with fail;rw[show(B:Int) - 4=(R:Int) by omega];exact JF
 ·have apU:(16:Int)<(B:Int) - 4:=oQ
  go_wp2_with fail;rw[show max (16:Int) ((B:Int) - 5)=(R:Int) by omega];exact JF
end
end Go.Proofs.YtdjdpeadohobmaaGreatDoor
