/- A part of the walk below the law: what is proved here is used by later parts; no further condition. -/
import Derived.Test.YtdjdpeadohobmaaGreatDoorK02
import Derived.Test.YtdjdpeadohobmaaGreatDoorK44
import Derived.Test.YtdjdpeadohobmaaGreatDoorK45
import Derived.Test.YtdjdpeadohobmaaGreatDoorProg
set_option linter.unusedVariables false
set_option linter.unusedSimpArgs false
set_option maxRecDepth 100000
set_option maxHeartbeats 20000000
namespace Go.Proofs.YtdjdpeadohobmaaGreatDoor
section
open Go.RowKit Go.Shelf Go.Maps O
attribute [local go_sem] Oper.semAt_some
theorem ab3 {p:Prop} (h:p:=by
 exact⟨b9,jw,_,_,_,_,_,_,_,_,_,_,_,_,_,_,_,_,_,rfl,HT6.o,rfl⟩
 ):p:=h
theorem FR {p:Prop} (h:p:=by
 have y9:=jo.o.box (b:=b9) (T:=34) (vs:=[.int .i64 0,.int .i64 0,.int .i64 0,.slice none 0 0,.slice none 0 0,.int .i64 0,.int .i64 0,.int .i64 0]) sQ;have n9:b9≠bq:=λe=>absurd l9.2 oQ;have n10:jw≠bq:=λe=>absurd l10.2 oQ;refine rE 19 λK hK=>?_;refine jU 34 (.tmp 21) (.tmp 133) rfl b9 (aI 0 0 0) _ 34 rfl rfl y9 rfl kQ (O7 _ _ _) rQ (λv5 y9' k9 _=>?_);have Ch:=U (jo.o.kept (b:=b9) (T:=34) (vs:=[.int .i64 0,.int .i64 0,.int .i64 0,.slice none 0 0,.slice none 0 0,.int .i64 0,.int .i64 0,.int .i64 0]) (K':=[(jw,36,[.int .i64 0,.int .i64 0,.int .i64 0]),(bp,34,aI 0 0 0),(bq,34,aI 0 1 0)]) sQ dQ l9.1 oQ k9 y9' (by intro x hx;simp only[zH,zO,or_false] at hx;rcases hx with rfl|rfl|rfl;exact⟨λe=>ne e.symm,sQ⟩;exact⟨λe=>absurd l9.2 (by dsimp only at e;omega),sQ⟩;exact⟨λe=>n9 e.symm,sQ⟩));refine hK.out _ _ (λ_=>Ch.o.cell (b:=bp) (T:=34) (vs:=aI 0 0 0) sQ 1) (λhS=>?_);have y10:=Ch.o.box (b:=jw) (T:=36) (vs:=[.int .i64 0,.int .i64 0,.int .i64 0]) sQ;clear hK K hS y9 y9' k9
 try simp only[Act.put,zh,zk,zl]
 refine rE 20 λK hK=>?_;refine jU 36 (.tmp 22) (.tmp 134) rfl jw [.int .i64 ca,.int .i64 cb,.int .i64 cc] _ 36 rfl rfl y10 rfl kQ (TY _ _ _) rQ (λv6 ab4 k10 _=>?_);have HT6:=U ((Ch.o.kept (b:=jw) (T:=36) (vs:=[.int .i64 0,.int .i64 0,.int .i64 0]) (K':=[(b9,34,aI 0 0 0),(bp,34,aI 0 0 0),(bq,34,aI 0 1 0)]) sQ dQ l10.1 oQ k10 ab4 (by intro x hx;simp only[zH,zO,or_false] at hx;rcases hx with rfl|rfl|rfl;exact⟨ne,sQ⟩;exact⟨λe=>absurd l10.2 (by dsimp only at e;omega),sQ⟩;exact⟨λe=>n10 e.symm,sQ⟩)).sub (K':=[(b9,34,aI 0 0 0),(bp,34,aI 0 0 0),(bq,34,aI 0 1 0)]) (by intro x hx;exact qC _ hx));refine kX hK ?_;clear hK K y10 ab4 k10
 try simp only[Act.put,zh,zk,zl]
 refine aD ?_;exact ab3
 ):p:=h
theorem T_ {p:Prop} (h:p:=by
 refine rE 18 λK hK=>?_;obtain⟨v3,hv⟩:∃v',v2.alloc (.cells #[.int .i64 0,.int .i64 0,.int .i64 0] 36)=v':=⟨_,rfl⟩
 obtain⟨jw,hb⟩:∃b',v2.heap.size=b':=⟨_,rfl⟩
 have hT:=iY.o.alloc 36 [.int .i64 0,.int .i64 0,.int .i64 0];rw[hv,hb] at hT;have jo:=U hT;have l10:W.heap.size≤jw∧bq<jw:=by rw[←hb];exact⟨iY.o.size,(iY.o.box (b:=bq) (T:=34) (vs:=aI 0 1 0) sQ).lt⟩
 have ne:b9≠jw:=by have:=(iY.o.box (b:=b9) (T:=34) (vs:=[.int .i64 0,.int .i64 0,.int .i64 0,.slice none 0 0,.slice none 0 0,.int .i64 0,.int .i64 0,.int .i64 0]) sQ).lt;omega
 go_simp
 (try rw[hv]);(try rw[hb])
 clear hv hb hT;refine hK.out _ _ (λ_=>jo.o.cell (b:=bp) (T:=34) (vs:=aI 0 0 0) sQ 1) (λhS=>?_);have jd:=hS dQ;clear hS hK K
 try simp only[Act.put,zh,zk,zl]
 exact FR
 ):p:=h
theorem Ua {p:Prop} (h:p:=by
 refine rE 17 λK hK=>?_;obtain⟨v3,hv⟩:∃v',v2.alloc (.cells #[.int .i64 0,.int .i64 0,.int .i64 0,.slice none 0 0,.slice none 0 0,.int .i64 0,.int .i64 0,.int .i64 0] 34)=v':=⟨_,rfl⟩
 obtain⟨b9,hb⟩:∃b',v2.heap.size=b':=⟨_,rfl⟩
 have hT:=iY.o.alloc 34 [.int .i64 0,.int .i64 0,.int .i64 0,.slice none 0 0,.slice none 0 0,.int .i64 0,.int .i64 0,.int .i64 0];rw[hv,hb] at hT;have jo:=U hT;have l9:W.heap.size≤b9∧bq<b9:=by rw[←hb];exact⟨iY.o.size,(iY.o.box (b:=bq) (T:=34) (vs:=aI 0 1 0) sQ).lt⟩
 have ne:b9≠jw:=by have:=(iY.o.box (b:=jw) (T:=36) (vs:=[.int .i64 0,.int .i64 0,.int .i64 0]) sQ).lt;omega
 go_simp
 (try rw[hv]);(try rw[hb])
 clear hv hb hT;refine hK.out _ _ (λ_=>jo.o.cell (b:=bp) (T:=34) (vs:=aI 0 0 0) sQ 1) (λhS=>?_);have jd:=hS dQ;clear hS hK K
 try simp only[Act.put,zh,zk,zl]
 exact FR
 ):p:=h
theorem Ub {p:Prop} (h:p:=by
 refine rE 13 λK hK=>?_;go_simp;refine(Ab.o v2 _ iY.o).mono ?_;rintro e v3 ⟨⟨ca,cb,cc,rfl⟩,hT⟩;have jo:=U hT;clear hT;simp only[dH,gY];go_wp2_with fail;refine hK.out _ _ (λ_=>jo.o.cell (b:=bp) (T:=34) (vs:=aI 0 0 0) sQ 1) (λhS=>?_);have jd:=hS dQ;clear hS hK K
 try simp only[Act.put,zh,zk,zl]
 refine te 14 jd ?_;refine te 15 jd ?_;refine te 16 jd ?_;exact FR
 ):p:=h
theorem ajN {p:Prop} (h:p:=by
 refine gK (i:=17) (j:=18) rfl rfl kQ (λK hK=>?_) (λK hK=>?_)
 ·obtain⟨v2,hv⟩:∃v',v1.alloc (.cells #[.int .i64 0,.int .i64 0,.int .i64 0,.slice none 0 0,.slice none 0 0,.int .i64 0,.int .i64 0,.int .i64 0] 34)=v':=⟨_,rfl⟩
  obtain⟨b9,hb⟩:∃b',v1.heap.size=b':=⟨_,rfl⟩
  have hT:=lH.o.alloc 34 [.int .i64 0,.int .i64 0,.int .i64 0,.slice none 0 0,.slice none 0 0,.int .i64 0,.int .i64 0,.int .i64 0];rw[hv,hb] at hT;have iY:=U hT;have l9:W.heap.size≤b9∧bq<b9:=by rw[←hb];exact⟨lH.o.size,(lH.o.box (b:=bq) (T:=34) (vs:=aI 0 1 0) sQ).lt⟩
  go_simp
  (try rw[hv]);(try rw[hb])
  clear hv hb hT;refine hK.out _ _ (λ_=>iY.o.cell (b:=bp) (T:=34) (vs:=aI 0 0 0) sQ 1) (λhS=>?_);have bV:=hS dQ;clear hS hK K
  try simp only[Act.put,zh,zk,zl]
  exact T_
 ·obtain⟨v2,hv⟩:∃v',v1.alloc (.cells #[.int .i64 0,.int .i64 0,.int .i64 0] 36)=v':=⟨_,rfl⟩
  obtain⟨jw,hb⟩:∃b',v1.heap.size=b':=⟨_,rfl⟩
  have hT:=lH.o.alloc 36 [.int .i64 0,.int .i64 0,.int .i64 0];rw[hv,hb] at hT;have iY:=U hT;have l10:W.heap.size≤jw∧bq<jw:=by rw[←hb];exact⟨lH.o.size,(lH.o.box (b:=bq) (T:=34) (vs:=aI 0 1 0) sQ).lt⟩
  go_simp
  (try rw[hv]);(try rw[hb])
  clear hv hb hT;refine hK.out _ _ (λ_=>iY.o.cell (b:=bp) (T:=34) (vs:=aI 0 0 0) sQ 1) (λhS=>?_);have bV:=hS dQ;clear hS hK K
  try simp only[Act.put,zh,zk,zl]
  exact Ua
 ):p:=h
theorem ajO {p:Prop} (h:p:=by
 refine gK (i:=13) (j:=18) rfl rfl kQ (λK hK=>?_) (λK hK=>?_)
 ·go_simp
  refine(Ab.o v1 _ lH.o).mono ?_;rintro e v2 ⟨⟨ca,cb,cc,rfl⟩,hT⟩;have iY:=U hT;clear hT;simp only[dH,gY];go_wp2_with fail;refine hK.out _ _ (λ_=>iY.o.cell (b:=bp) (T:=34) (vs:=aI 0 0 0) sQ 1) (λhS=>?_);have bV:=hS dQ;clear hS hK K
  try simp only[Act.put,zh,zk,zl]
  refine te 14 bV ?_;refine te 15 bV ?_;refine te 16 bV ?_;exact T_
 ·obtain⟨v2,hv⟩:∃v',v1.alloc (.cells #[.int .i64 0,.int .i64 0,.int .i64 0] 36)=v':=⟨_,rfl⟩
  obtain⟨jw,hb⟩:∃b',v1.heap.size=b':=⟨_,rfl⟩
  have hT:=lH.o.alloc 36 [.int .i64 0,.int .i64 0,.int .i64 0];rw[hv,hb] at hT;have iY:=U hT;have l10:W.heap.size≤jw∧bq<jw:=by rw[←hb];exact⟨lH.o.size,(lH.o.box (b:=bq) (T:=34) (vs:=aI 0 1 0) sQ).lt⟩
  have ne:b9≠jw:=by have:=(lH.o.box (b:=b9) (T:=34) (vs:=[.int .i64 0,.int .i64 0,.int .i64 0,.slice none 0 0,.slice none 0 0,.int .i64 0,.int .i64 0,.int .i64 0]) sQ).lt;omega
  go_simp
  (try rw[hv]);(try rw[hb])
  clear hv hb hT;refine hK.out _ _ (λ_=>iY.o.cell (b:=bp) (T:=34) (vs:=aI 0 0 0) sQ 1) (λhS=>?_);have bV:=hS dQ;clear hS hK K
  try simp only[Act.put,zh,zk,zl]
  exact Ub
 ):p:=h
theorem ajP {p:Prop} (h:p:=by
 refine gK (i:=13) (j:=17) rfl rfl kQ (λK hK=>?_) (λK hK=>?_)
 ·go_simp
  refine(Ab.o v1 _ lH.o).mono ?_;rintro e v2 ⟨⟨ca,cb,cc,rfl⟩,hT⟩;have iY:=U hT;clear hT;simp only[dH,gY];go_wp2_with fail;refine hK.out _ _ (λ_=>iY.o.cell (b:=bp) (T:=34) (vs:=aI 0 0 0) sQ 1) (λhS=>?_);have bV:=hS dQ;clear hS hK K
  try simp only[Act.put,zh,zk,zl]
  refine te 14 bV ?_;refine te 15 bV ?_;refine te 16 bV ?_;exact Ua
 ·obtain⟨v2,hv⟩:∃v',v1.alloc (.cells #[.int .i64 0,.int .i64 0,.int .i64 0,.slice none 0 0,.slice none 0 0,.int .i64 0,.int .i64 0,.int .i64 0] 34)=v':=⟨_,rfl⟩
  obtain⟨b9,hb⟩:∃b',v1.heap.size=b':=⟨_,rfl⟩
  have hT:=lH.o.alloc 34 [.int .i64 0,.int .i64 0,.int .i64 0,.slice none 0 0,.slice none 0 0,.int .i64 0,.int .i64 0,.int .i64 0];rw[hv,hb] at hT;have iY:=U hT;have l9:W.heap.size≤b9∧bq<b9:=by rw[←hb];exact⟨lH.o.size,(lH.o.box (b:=bq) (T:=34) (vs:=aI 0 1 0) sQ).lt⟩
  have ne:b9≠jw:=by have:=(lH.o.box (b:=jw) (T:=36) (vs:=[.int .i64 0,.int .i64 0,.int .i64 0]) sQ).lt;omega
  go_simp
  (try rw[hv]);(try rw[hb])
  clear hv hb hT;refine hK.out _ _ (λ_=>iY.o.cell (b:=bp) (T:=34) (vs:=aI 0 0 0) sQ 1) (λhS=>?_);have bV:=hS dQ;clear hS hK K
  try simp only[Act.put,zh,zk,zl]
  exact Ub
 ):p:=h
theorem ajQ {p:Prop} (h:p:=by
 refine FN (i:=13) (j:=17) (k:=18) rfl rfl rfl kQ (λK hK=>?_) (λK hK=>?_) (λK hK=>?_)
 ·go_simp
  refine(Ab.o v0 _ Sl.o).mono ?_;rintro e v1 ⟨⟨ca,cb,cc,rfl⟩,hT⟩;have lH:=U hT;clear hT;simp only[dH,gY];go_wp2_with fail;refine hK.out _ _ (λ_=>lH.o.cell (b:=bp) (T:=34) (vs:=aI 0 0 0) sQ 1) (λhS=>?_);have bQ:=hS dQ;clear hS hK K
  try simp only[Act.put,zh,zk,zl]
  refine te 14 bQ ?_;refine te 15 bQ ?_;refine te 16 bQ ?_;exact ajN
 ·obtain⟨v1,hv⟩:∃v',v0.alloc (.cells #[.int .i64 0,.int .i64 0,.int .i64 0,.slice none 0 0,.slice none 0 0,.int .i64 0,.int .i64 0,.int .i64 0] 34)=v':=⟨_,rfl⟩
  obtain⟨b9,hb⟩:∃b',v0.heap.size=b':=⟨_,rfl⟩
  have hT:=Sl.o.alloc 34 [.int .i64 0,.int .i64 0,.int .i64 0,.slice none 0 0,.slice none 0 0,.int .i64 0,.int .i64 0,.int .i64 0];rw[hv,hb] at hT;have lH:=U hT;have l9:W.heap.size≤b9∧bq<b9:=by rw[←hb];exact⟨Sl.o.size,(Sl.o.box (b:=bq) (T:=34) (vs:=aI 0 1 0) sQ).lt⟩
  go_simp
  (try rw[hv]);(try rw[hb])
  clear hv hb hT;refine hK.out _ _ (λ_=>lH.o.cell (b:=bp) (T:=34) (vs:=aI 0 0 0) sQ 1) (λhS=>?_);have bQ:=hS dQ;clear hS hK K
  try simp only[Act.put,zh,zk,zl]
  exact ajO
 ·obtain⟨v1,hv⟩:∃v',v0.alloc (.cells #[.int .i64 0,.int .i64 0,.int .i64 0] 36)=v':=⟨_,rfl⟩
  obtain⟨jw,hb⟩:∃b',v0.heap.size=b':=⟨_,rfl⟩
  have hT:=Sl.o.alloc 36 [.int .i64 0,.int .i64 0,.int .i64 0];rw[hv,hb] at hT;have lH:=U hT;have l10:W.heap.size≤jw∧bq<jw:=by rw[←hb];exact⟨Sl.o.size,(Sl.o.box (b:=bq) (T:=34) (vs:=aI 0 1 0) sQ).lt⟩
  go_simp
  (try rw[hv]);(try rw[hb])
  clear hv hb hT;refine hK.out _ _ (λ_=>lH.o.cell (b:=bp) (T:=34) (vs:=aI 0 0 0) sQ 1) (λhS=>?_);have bQ:=hS dQ;clear hS hK K
  try simp only[Act.put,zh,zk,zl]
  exact ajP
 ):p:=h
theorem O8 {p:Prop} (h:p:=by
 have QG:ay w15 a0 bb:=(Hb.o.below Sm.o).is;have Ij:(Lib.decDigits n).length≤21:=by
  have:=Lib.itoa_length_le (n:Int) oQ oQ;rwa[Lib.itoa_nonneg] at this
 have jQ:(Lib.decDigits cb.length).length≤21:=by
  have:=Lib.itoa_length_le (cb.length:Int) oQ (by have:=Yc.o;omega);rwa[Lib.itoa_nonneg] at this
 obtain⟨N1,AL⟩:∃N1,Lib.decDigits n=N1:=⟨_,rfl⟩
 obtain⟨lb,hlb⟩:∃lb,cb.length=lb:=⟨_,rfl⟩
 obtain⟨N2,Yp⟩:∃N2,Lib.decDigits cb.length=N2:=⟨_,rfl⟩
 rw[AL] at Ij;rw[Yp] at jQ;obtain⟨S3,jd⟩:∃S3:Bytes,[47,97,32,102,32,49,32]++N1=S3:=⟨_,rfl⟩
 have lS3:S3.length=7+N1.length:=by rw[←jd];simp;omega
 obtain⟨S4,xG⟩:∃S4:Bytes,S3++[10]=S4:=⟨_,rfl⟩
 have lS4:S4.length=S3.length+1:=by rw[←xG];simp
 obtain⟨S7,uQ⟩:∃S7:Bytes,S4++bb=S7:=⟨_,rfl⟩
 have lS7:S7.length=S4.length+n:=by rw[←uQ,zw,iZ.o]
 obtain⟨S8,Tz⟩:∃S8:Bytes,S7++[10,47,98,32,102,32,49,32]=S8:=⟨_,rfl⟩
 have lS8:S8.length=S7.length+8:=by rw[←Tz];simp
 obtain⟨XD,O4⟩:∃XD:Bytes,S8++N2=XD:=⟨_,rfl⟩
 have avS:XD.length=S8.length+N2.length:=by rw[←O4];simp
 obtain⟨Sg,Ey⟩:∃Sg:Bytes,XD++[10]=Sg:=⟨_,rfl⟩
 have avT:Sg.length=XD.length+1:=by rw[←Ey];simp
 obtain⟨S15,afo⟩:∃S15:Bytes,Sg++cb=S15:=⟨_,rfl⟩
 have aGY:S15.length=Sg.length+lb:=by rw[←afo,zw,hlb]
 obtain⟨S16,afp⟩:∃S16:Bytes,S15++[10]=S16:=⟨_,rfl⟩
 have aGZ:S16.length=S15.length+1:=by rw[←afp];simp
 have hSD:S16=D:=by
  rw[←HD.o,←afp,←afo,←Ey,←O4,←Tz,←uQ,←xG,←jd,←AL,←Yp];unfold JE Cm;rw[Lib.itoa_nonneg,Lib.itoa_nonneg,Lib.itoa_nonneg,Aa (n:=1) oQ,iZ.o];simp[zP]
 have aG0:lb≤4000:=by have:=Yc.o;omega
 have TG:n<1000000:=oQ
 have sU:=U jd;have JM:=U xG;have Kh:=U uQ;have HS8:=U Tz;have afc:=U O4;have afd:=U Ey;have av1:=U afo;have av2:=U afp;have Kj:=U AL;have HN2:=U Yp;have Hlb:=U hlb;have HSD:=U hSD;clear jd xG uQ Tz O4 Ey afo afp AL Yp hlb hSD;refine wp_region_noPanic ?_;refine ak (S:=(λW'=>ay W' a0 bb)) (m:=17) kQ QG (λaj=>?_);have HB0:=U ((zn w15.heap.size w15).drew);generalize w15.drew=v0 at*;refine te 0 aj ?_;refine te 1 aj ?_;refine te 5 aj ?_;refine te 6 aj ?_ (v:=.string ⟨bb.toArray⟩) (hy:=by intro W' iR;(try dsimp only at iR);have hk:=tN Tryz.underlying22 Tryz.underlying5 Tryz.underlying9 bb n iZ.o W' a0 c0 iR;go_simp);refine te 9 aj ?_;refine te 10 aj ?_ (v:=.int .i64 (lb:Int)) (hy:=by intro W' iR;go_simp;(try rw[←Hlb.o]);(try simp));refine te 14 aj ?_;refine rE 2 λK hK=>?_;go_simp;refine(TW n TG _).mono ?_;rintro e v1 ⟨rfl,aF⟩;have jD:=U (HB0.o.trans (aF.mono HB0.o.size));rw[Kj.o];clear aF;go_wp2_with fail;refine hK.out _ _ (λ_=>(Hb.o.below (Sm.o.trans (jD.o.mono Sm.o.size))).is) (λhS=>?_);have bQ:=hS dQ;clear hS hK K
 try simp only[Act.put,zh,zk,zl]
 refine te 3 bQ ?_ (v:=.string ⟨S3.toArray⟩) (hy:=by intro W' iR;go_simp;rw[if_neg oQ];exact congrArg (λz=>Result.ok (Next.value (Value.string z)) W') (pO sU.o));refine te 4 bQ ?_ (v:=.string ⟨S4.toArray⟩) (hy:=by intro W' iR;go_simp;rw[if_neg oQ];exact congrArg (λz=>Result.ok (Next.value (Value.string z)) W') (pO JM.o));refine te 7 bQ ?_ (v:=.string ⟨S7.toArray⟩) (hy:=by intro W' iR;go_simp;rw[if_neg (by have:=iZ.o;omega)];exact congrArg (λz=>Result.ok (Next.value (Value.string z)) W') (pO Kh.o));refine te 8 bQ ?_ (v:=.string ⟨S8.toArray⟩) (hy:=by intro W' iR;go_simp;rw[if_neg oQ];exact congrArg (λz=>Result.ok (Next.value (Value.string z)) W') (pO HS8.o));refine rE 11 λK hK=>?_;go_simp;refine(TW lb oQ _).mono ?_;rintro e v2 ⟨rfl,aJ⟩;have bH:=U (jD.o.trans (aJ.mono jD.o.size));rw[←Hlb.o,HN2.o];clear aJ;go_wp2_with fail;refine hK.out _ _ (λ_=>(Hb.o.below (Sm.o.trans (bH.o.mono Sm.o.size))).is) (λhS=>?_);have bV:=hS dQ;clear hS hK K
 try simp only[Act.put,zh,zk,zl]
 refine te 12 bV ?_ (v:=.string ⟨XD.toArray⟩) (hy:=by intro W' iR;go_simp;rw[if_neg oQ];exact congrArg (λz=>Result.ok (Next.value (Value.string z)) W') (pO afc.o));refine te 13 bV ?_ (v:=.string ⟨Sg.toArray⟩) (hy:=by intro W' iR;go_simp;rw[if_neg oQ];exact congrArg (λz=>Result.ok (Next.value (Value.string z)) W') (pO afd.o));refine te 15 bV ?_ (v:=.string ⟨S15.toArray⟩) (hy:=by intro W' iR;go_simp;rw[if_neg (by have:=Hlb.o;omega)];exact congrArg (λz=>Result.ok (Next.value (Value.string z)) W') (pO av1.o));refine te 16 bV ?_ (v:=.string ⟨S16.toArray⟩) (hy:=by intro W' iR;go_simp;rw[if_neg oQ];exact congrArg (λz=>Result.ok (Next.value (Value.string z)) W') (pO av2.o));refine vF 17 ?_;refine aD ?_;rw[HSD.o];have u12:=(bH.o.cell (p:=⟨vG.heap.size,0,none⟩) apx).trans Hu.o;go_wp2_with fail;go_ret;exact⟨rfl,Sm.o.trans (bH.o.mono Sm.o.size)⟩
 ):p:=h
theorem walk_TopWord (W:World) (hG:Glob W) (a0:Option Addr) (b:Bytes) (c0:Nat) (hb:cZ W a0 b) (AP:b.length≤c0) (Pt:c0≤maxLen) (z:Int) (hz: -9223372036854775808≤z∧z≤9223372036854775807)
  (a2:Option Addr) (ot:Bytes) (c2:Nat) (dh:cZ W a2 ot) (LZ:ot.length≤c2) (bC:c2≤maxLen) (a3:Option Addr) (l3 c3:Nat):
  Calls Tryz.prog 3 #[.slice a0 b.length c0,.int .i64 z,.slice a2 ot.length c2,.slice a3 l3 c3] W λe w'=>e=.returned (.bool true)∧Below W.heap.size W w':=by
 have hgs:=hG.size;have HG:=U hG;clear hG;obtain⟨m,apy,hm⟩:=Dh z 65535 65535 rfl oQ;unfold maxLen at Pt bC;obtain⟨n,hn⟩:∃n,min b.length 10000=n:=⟨_,rfl⟩
 obtain⟨o,ho⟩:∃o,min ot.length 4000=o:=⟨_,rfl⟩
 have hlen:(b.take 10000).length=n:=by rw[zF];omega
 have Fz:(ot.take 4000).length=o:=by rw[zF];omega
 have vL:min ((b.length:Nat):Int) 10000=(n:Int):=oQ
 have azA:min ((ot.length:Nat):Int) 4000=(o:Int):=oQ
 have atw:n≤10000∧n≤c0:=oQ
 have QU:o≤4000∧o≤c2:=oQ
 clear hn ho;have hb':=hb.take 10000;have apz:=dh.take 4000;generalize b.take 10000=bb at*;generalize ot.take 4000=oo at*;have Hb:=U hb';have Hb2:=U apz;have iZ:=U hlen;have Uc:=U Fz;obtain⟨pc0,av4⟩:∃pc0,1+m%4096=pc0:=⟨_,rfl⟩
 have aG2:1≤pc0∧pc0≤4096:=oQ
 have apA:1+(m:Int)%4096=(pc0:Int):=oQ
 have av5:=U apA;clear hb dh hb' apz hlen Fz apA av4;go_enter Tryz.func3,Tryz.ntmps3;go_wp2_with fail;refine(JC HG.o).mono ?_;rintro e w1 ⟨rfl,ab5⟩;have Sn:=U ab5;clear ab5;go_wp2_with fail;refine(Jv (B:=60) oQ).mono ?_;rintro e w1' ⟨rfl,rfl⟩;go_wp2_with fail;refine(FD (B:=60) (Ju oQ) (HG.o.below Sn.o)).mono ?_;rintro e w2 ⟨fm,d,fb,q0,F0,rfl,hc,hf,hq,XP,xW,hs⟩;have hz1:=Sn.o.size;have T2:jB W w2 [] fm d fb 60 (least 60) q0 0 (nE 60) true true nH F0:=⟨⟨hc,hf,XP,oQ⟩,Sn.o.trans (hs.below (λ_ h=>h.elim) hz1),λk hk=>zC hz1 ((hs.new k hk).resolve_left id),oQ,λx hx=>(by cases hx)⟩
 have HE2:=U (show bR W fm d fb 60 (least 60) (newP 1) [] w2 from⟨_,_,_,_,_,_,_,⟨rfl,rfl,rfl,hq,_,yY oQ⟩,T2⟩);clear T2 hc hf XP xW hs;obtain⟨P,hP⟩:∃P,least 60=P:=⟨_,rfl⟩
 rw[hP] at HE2;clear hP;rw[av5.o];go_wp2_with fail;refine(XH oQ HE2.o).mono ?_;rintro e w3 ⟨⟨xa3,xb3,xc3,rfl⟩,NY⟩;obtain⟨T3,z3⟩:=NY.ans 0 0 0 xa3 xb3 xc3;obtain⟨W3,tu⟩:∃W3,dF w3 0 0 0 xa3 xb3 xc3=W3:=⟨_,rfl⟩
 rw[tu] at T3 z3;unfold dF at tu;have jo:=U T3;clear NY T3;simp only[dH,gY];go_wp2_with fail;refine(Sk oQ jo.o).mono ?_;rintro e w4 ⟨⟨xa4,xb4,xc4,rfl⟩,hE4⟩;obtain⟨T4,z4⟩:=hE4.ans 0 0 0 xa4 xb4 xc4;obtain⟨W4,hW4⟩:∃W4,dF w4 0 0 0 xa4 xb4 xc4=W4:=⟨_,rfl⟩
 rw[hW4] at T4 z4;unfold dF at hW4;have Yv:=U T4;clear hE4 T4 tu;simp only[dH,gY];go_wp2_with fail;refine(afl oQ Yv.o).mono ?_;rintro e w5 ⟨⟨xa5,xb5,xc5,rfl⟩,LD⟩;obtain⟨T5,z5⟩:=LD.ans 0 0 0 xa5 xb5 xc5;obtain⟨W5,Es⟩:∃W5,dF w5 0 0 0 xa5 xb5 xc5=W5:=⟨_,rfl⟩
 rw[Es] at T5 z5;unfold dF at Es;have Ch:=U T5;clear LD T5 hW4;simp only[dH,gY];go_wp2_with fail;refine(abU oQ Ch.o).mono ?_;rintro e w6 ⟨⟨xa6,xb6,xc6,rfl⟩,hE6⟩;obtain⟨T6,z6⟩:=hE6.ans 0 1 0 xa6 xb6 xc6;obtain⟨W6,hW6⟩:∃W6,dF w6 0 1 0 xa6 xb6 xc6=W6:=⟨_,rfl⟩
 rw[hW6] at T6 z6;unfold dF at hW6;have y3:=T6.cell (b:=w3.heap.size) (T:=34) (vs:=aI 0 0 0) sQ 0;have y4:=T6.cell (b:=w4.heap.size) (T:=34) (vs:=aI 0 0 0) sQ 0;have y5:=T6.cell (b:=w5.heap.size) (T:=34) (vs:=aI 0 0 0) sQ 0;have y6:=T6.cell (b:=w6.heap.size) (T:=34) (vs:=aI 0 1 0) sQ 0;simp only[aI,zf] at y3 y4 y5 y6;have hbp:=hE6.box (b:=w5.heap.size) (T:=34) (vs:=aI 0 0 0) sQ;have hpq:w5.heap.size<w6.heap.size:=hbp.lt;have HT6:=U (T6.sub (K':=[(w5.heap.size,34,aI 0 0 0),(w6.heap.size,34,aI 0 1 0)]) (by intro x hx;simp only[zH,zO,or_false] at hx;rcases hx with rfl|rfl<;>simp));clear hE6 T6 Es hbp;simp only[dH,gY];obtain⟨pc,UW⟩:∃pc,max pc0 (n / 40+1)=pc:=⟨_,rfl⟩
 have azN:1≤pc∧pc≤4096:=oQ
 have e40:IntKind.i64.wrap ((n:Int).tdiv 40)=((n / 40:Nat):Int):=by
  rw[Int.tdiv_eq_ediv_of_nonneg oQ,zG];omega
 have e41:IntKind.i64.wrap (((n / 40:Nat):Int)+1)=((n / 40+1:Nat):Int):=by rw[zG];omega
 have e42:max (pc0:Int) (((n / 40:Nat):Int)+1)=(pc:Int):=oQ
 go_wp2_with fail;rw[show max (pc0:Int) ((n:Int) / 40+1)=(pc:Int) by omega];clear UW e40 e41 e42 y3 y4 y5 y6 hW6;obtain⟨bp,hbp⟩:∃bp,w5.heap.size=bp:=⟨_,rfl⟩
 obtain⟨bq,hbq⟩:∃bq,w6.heap.size=bq:=⟨_,rfl⟩
 rw[hbp,hbq] at HT6 hpq ⊢;clear hbp hbq;go_loopw [20] (λvv wr=>∃t:Nat,(t≤n+4096∧(n=0→t=0))∧vv=.int .i64 t∧bR W fm d fb 60 P (kY (5+2*t) (bb.take t) (if t=0 then[] else oo) false false) [(bp,34,aI 0 0 0),(bq,34,aI 0 1 0)] wr) (λvv _=>n+4096 - (intOf vv).toNat)
 case atStart=>exact⟨0,⟨oQ,λ_=>rfl⟩,rfl,HT6.o.imp (by
  rintro q nn C cl yo op ⟨h1,h2,h3,h4⟩;exact⟨h1,h2,oQ,h4⟩)⟩
 case round=>
  obtain⟨t,ht,rfl,hE⟩:=hrel;have HE:=U hE;clear hE;by_cases htn:t<n
  ·have av6:(t:Int)<n:=oQ
   obtain⟨ga,oa,Cx,fr,rfl,FW,hbc⟩:∃(ga oa:Nat) (Cx:Array Value) (fr:Fr),a0=some ⟨ga,oa,none⟩∧W.heap[ga]? =some (.cells Cx fr.ty fr.fz)∧∀i,(h:i<bb.length)→Cx[oa+i]? =some (.int .u8 (n8 bb[i])):=by
    rcases Hb.o with h|⟨ga,oa,Cx,fr,h1,h2,h3⟩
    ·have:=iZ.o
     rw[h,zN] at this;omega
    ·exact⟨ga,oa,Cx,fr,h1,h2,h3⟩
   obtain⟨e,he⟩:∃e,min (t+pc) n=e:=⟨_,rfl⟩
   have PS:IntKind.i64.wrap ((t:Int)+(pc:Int))=((t+pc:Nat):Int):=by rw[zG];omega
   have XQ:min ((t+pc:Nat):Int) (n:Int)=(e:Int):=oQ
   have hte:t<e∧e≤n∧e - t≤pc:=oQ
   have o1:=HE.o.cell (b:=bp) (T:=34) (vs:=aI 0 0 0) sQ 1;simp only[aI,zf,zi] at o1;obtain⟨cb,CS⟩:∃cb:Bytes,(if t=0 then[] else oo)=cb:=⟨_,rfl⟩
   have XI:cb=[]∨cb=oo:=by
    rw[←CS]
    split
    ·exact .inl rfl
    ·exact .inr rfl
   rw[CS] at HE;have HCb:=U XI;clear CS XI;have nY:cb.length≤4000:=by
    rcases HCb.o with h|h<;>rw[h]
    ·exact ql _
    ·rw[Uc.o];omega
   have Yc:=U nY;clear nY;have hdd:((bb.drop t).take pc).length=e - t:=by
    rw[zF,zR,iZ.o];omega
   have wI:(bb.take t).length=t:=by rw[zF,iZ.o];omega
   have apC:cZ W (some ⟨ga,oa+t,none⟩) ((bb.drop t).take pc):=.inr ⟨ga,oa+t,Cx,fr,rfl,FW,λi hi=>by
    have h1:i<pc∧t+i<bb.length:=by
     rw[zF,zR] at hi;omega
    have h2:=hbc (t+i) h1.2;rw[←zaR] at h2;rw[h2];simp⟩
   have Ak:=(zo.1 FW).1;have Ab:Hid (∀(v:World) (K:O6),bR W fm d fb 60 P (kY (5+2*t) (bb.take t) cb false false) K v→Calls Tryz.prog 8 #[.pointer (some ⟨fm,0,none⟩),bK 10 0 ⟨#[]⟩ (.slice (some ⟨ga,oa+t,none⟩) (e - t) (c0 - t))] v λe w'=>jT W fm d fb 60 P K (kY (5+2*t+1) (bb.take t++(bb.drop t).take pc) cb false false) 0 0 0 e w'):=U (λv K h1=>abV oQ h1 (apC.below h1.O5) hdd (zx Ak h1.size) oQ oQ (by rw[wI];omega) Yc.o);clear hdd wI apC Ak FW hbc;go_wp2_with fail;generalize dw:Act.mk _ _=A0;refine Code.wp_mono (Q:=NoPanic λe a W'=>∃(b9 jw:Nat) (x0 x1 x2 x3 x4 x5 x6 x7 x8 x9 x10 x11 x12 x13 x14 x15 x16:Value),e=.normal∧bR W fm d fb 60 P (kY (5+2*t+1) (bb.take t++(bb.drop t).take pc) cb false false) [(b9,34,aI 0 0 0),(bp,34,aI 0 0 0),(bq,34,aI 0 1 0)] W'∧a={tmps:=((((((((((((((((((A0.tmps.setIfInBounds 119 x0).setIfInBounds 120 x1).setIfInBounds 121 x2).setIfInBounds 122 x3).setIfInBounds 123 x4).setIfInBounds 124 x5).setIfInBounds 125 x6).setIfInBounds 126 x7).setIfInBounds 127 x8).setIfInBounds 128 x9).setIfInBounds 129 x10).setIfInBounds 130 x11).setIfInBounds 131 x12).setIfInBounds 132 x13).setIfInBounds 118 x14).setIfInBounds 133 x15).setIfInBounds 134 x16).setIfInBounds 21 (.pointer (some ⟨b9,0,none⟩))).setIfInBounds 22 (.pointer (some ⟨jw,0,none⟩)),defers:=A0.defers}) ?_ ?_
   case refine_2=>
    subst dw;refine wp_region_noPanic ?_;refine ak (S:=(λW'=>W'.cell? ⟨bp,1,none⟩=some (.int .i64 0))) (m:=20) kQ o1 (λaj=>?_);have Sl:=U HE.o.drew;generalize wr.drew=v0 at*;refine te 0 aj ?_;refine te 1 aj ?_;refine te 2 aj ?_;refine te 3 aj ?_;refine te 4 aj ?_;refine te 5 aj ?_;refine te 6 aj ?_;refine te 7 aj ?_ (v:=.int .i64 ((t+pc:Nat):Int)) (hy:=by intro W iR;go_simp);refine te 8 aj ?_;refine te 9 aj ?_;refine te 10 aj ?_ (v:=.int .i64 (e:Int)) (hy:=by intro W iR;go_simp;omega);refine te 11 aj ?_ (v:=.slice (some ⟨ga,oa+t,none⟩) (e - t) (c0 - t)) (hy:=by intro W iR;go_simp;rw[if_pos oQ,if_pos oQ,if_neg oQ]);refine te 12 aj ?_;exact ajQ
   intro e a W8 iq;obtain⟨b9,jw,x0,x1,x2,x3,x4,x5,x6,x7,x8,x9,x10,x11,x12,x13,x14,x15,x16,rfl,hT8,rfl⟩:=NoPanic.imp e a W8 iq;clear iq;subst dw;simp only[zh,zk,zl];have s1:=hT8.cell (b:=bq) (T:=34) (vs:=aI 0 1 0) sQ 1;simp only[aI,zf,zi] at s1;have HT8:=U hT8;clear hT8 o1;go_wp2_with fail;refine(afm oQ HT8.o).mono ?_;rintro e w9 ⟨⟨xa9,xb9,xc9,rfl⟩,hE9⟩;obtain⟨T9,z9⟩:=hE9.ans 0 0 0 xa9 xb9 xc9;obtain⟨W9,hW9⟩:∃W9,dF w9 0 0 0 xa9 xb9 xc9=W9:=⟨_,rfl⟩
   rw[hW9] at T9 z9;unfold dF at hW9;have s9:=T9.cell (b:=bq) (T:=34) (vs:=aI 0 1 0) sQ 1;simp only[aI,zf,zi] at s9;have HT9:=U T9;clear hE9 T9 s1;simp only[dH,gY];go_wp2_with fail;refine(abX (dd:=oo) oQ HT9.o (Hb2.o.below HT9.o.O5) Uc.o QU.1 QU.2 (by rw[zw,zF,zF,zR,iZ.o];omega) HCb.o).mono ?_;rintro e Af ⟨⟨apD,apE,apF,rfl⟩,apG⟩;obtain⟨T10,z10⟩:=apG.ans 0 0 0 apD apE apF;obtain⟨W10,XC⟩:∃W10,dF Af 0 0 0 apD apE apF=W10:=⟨_,rfl⟩
   rw[XC] at T10 z10;unfold dF at XC;have u9:=T10.cell (b:=b9) (T:=34) (vs:=aI 0 0 0) sQ 0;have u10:=T10.cell (b:=w9.heap.size) (T:=34) (vs:=aI 0 0 0) sQ 0;have u11:=T10.cell (b:=Af.heap.size) (T:=34) (vs:=aI 0 0 0) sQ 0;simp only[aI,zf] at u9 u10 u11;have apH:bb.take (t+pc)=bb.take t++(bb.drop t).take pc:=by rw[List.take_add]
   have av7:=U ((T10.sub (K':=[(bp,34,aI 0 0 0),(bq,34,aI 0 1 0)]) (by intro x hx;simp only[zH,zO,or_false] at hx;rcases hx with rfl|rfl<;>simp)).imp (p':=kY (5+2*(t+pc)) (bb.take (t+pc)) (if t+pc=0 then[] else oo) false false) (by
    rintro q nn C cl yo op ⟨h1,h2,h3,h4⟩;rw[apH,if_neg oQ];exact⟨h1,h2,oQ,h4⟩))
   clear apG T10 hW9 s9 apH;simp only[dH,gY];go_wp2_with fail;go_roundw
   case rel=>exact⟨t+pc,⟨oQ,λh=>oQ⟩,by go_num,av7.o⟩
   case measure=>simp[intOf];omega
  ·have av6:¬(t:Int)<n:=oQ
   have iw:bb.take t=bb:=zy (by rw[iZ.o];omega);rw[iw] at HE;clear iw;obtain⟨cb,CS⟩:∃cb:Bytes,(if t=0 then[] else oo)=cb:=⟨_,rfl⟩
   rw[CS] at HE;have XI:(n=0∧cb=[])∨(0<n∧cb=oo):=by
    rw[←CS];rcases zba n with h|h
    ·exact .inl ⟨h,if_pos (ht.2 h)⟩
    ·exact .inr ⟨h,if_neg oQ⟩
   have nY:cb.length≤4000:=by
    rcases XI with⟨_,h⟩|⟨_,h⟩<;>rw[h]
    ·exact ql _
    ·rw[Uc.o];omega
   have nI:bb.length≤10000:=by rw[iZ.o];omega
   have o1:=HE.o.cell (b:=bp) (T:=34) (vs:=aI 0 0 0) sQ 1;simp only[aI,zf,zi] at o1;have Yc:=U nY;have Hbl:=U nI;have av8:=U XI;clear CS XI nY nI;go_wp2_with fail;refine(abY oQ HE.o).mono ?_;rintro e vG ⟨⟨apI,apJ,apK,rfl⟩,apL⟩;obtain⟨T11,z11⟩:=apL.ans 0 0 0 apI apJ apK;obtain⟨W11,Sc⟩:∃W11,dF vG 0 0 0 apI apJ apK=W11:=⟨_,rfl⟩
   rw[Sc] at T11 z11;unfold dF at Sc;have av_:=U T11;clear apL T11 o1;simp only[dH,gY];go_wp2_with fail;refine(afn oQ av_.o Hbl.o Yc.o).mono ?_;rintro e w12 ⟨rfl,apM⟩;have awc:=U apM;obtain⟨D,hD⟩:∃D,JE bb cb=D:=⟨_,rfl⟩
   rw[hD];have HD:=U hD;clear apM hD;go_wp2_with fail;refine(ab0 oQ awc.o).mono ?_;rintro e S9 ⟨⟨y13,rfl⟩,apN⟩;have awd:=U apN;clear apN;go_wp2_with fail;refine(ab1 awd.o).mono ?_;rintro e w14 ⟨⟨apO,apP,apQ,rfl⟩,Sd,apR⟩;have T14:=apR.alloc 36 [.int .i64 apO,.int .i64 apP,.int .i64 apQ];obtain⟨W14,apS⟩:∃W14,w14.alloc (.cells #[.int .i64 apO,.int .i64 apP,.int .i64 apQ] 36)=W14:=⟨_,rfl⟩
   rw[apS] at T14;have awf:=U T14;clear apR T14 Sc;simp only[gY];go_wp2_with fail;refine(ab2 awf.o Hbl.o Yc.o).mono ?_;rintro e w15 ⟨rfl,afq⟩;rw[HD.o];have ajT:=afq.O5;have u11:=afq.cell (b:=vG.heap.size) (T:=34) (vs:=aI 0 0 0) sQ 0;simp only[aI,zf] at u11;have hob:=(Hb2.o.below ajT).is;have hkc:(convert 22 9 (.slice a2 o c2)).run Tryz.prog w15=.ok (.string ⟨oo.toArray⟩) w15:=tN Tryz.underlying22 Tryz.underlying5 Tryz.underlying9 oo o Uc.o w15 a2 c2 hob;have Sm:=U ajT;have Hu:=U u11;have apx:=(afq.box (b:=vG.heap.size) (T:=34) (vs:=aI 0 0 0) sQ).lt;clear afq apS ajT hob;rcases av8.o with⟨hn,hc⟩|⟨hn,hc⟩
   ·have hni:¬(0:Int)<n:=oQ
    have Hc:=U hc;clear hkc hn hc;go_wp2_with fail;rw[show(⟨#[]⟩:ByteArray)=⟨cb.toArray⟩ by rw[Hc.o]];exact O8
   ·have hni:(0:Int)<n:=oQ
    have Hc:=U hc;clear hn hc;go_wp2_with fail;rw[show(⟨oo.toArray⟩:ByteArray)=⟨cb.toArray⟩ by rw[Hc.o]];exact O8
end
end Go.Proofs.YtdjdpeadohobmaaGreatDoor
