/- A part of the walk below the law: what is proved here is used by later parts; no further condition. -/
import Derived.Lib.AppendZerosOnto
import Derived.Test.YtdjdpeadohobmaaGreatDoorK14
set_option linter.unusedVariables false
set_option linter.unusedSimpArgs false
set_option maxRecDepth 100000
set_option maxHeartbeats 20000000
namespace Go.Proofs.YtdjdpeadohobmaaGreatDoor
section
open Go.RowKit Go.Shelf O
attribute [local go_sem] Oper.semAt_some
def Ep (w:World) (wl:Wl) (xs:List Value):Prop:=xs.length=2*wl.length∧∀i (h:i<wl.length),xs[2*i]? =some (.int .i64 wl[i].1)∧∃a c,xs[2*i+1]? =some (.slice a 480 c)∧wl[i].2.length=480∧cZ w a wl[i].2
section
variable {w w':World} {wl ms:Wl} {xs ys:List Value}
theorem Ep.step {G G':Nat→Prop} (h:Ep w wl xs) (hs:Step G w G' w'):Ep w' wl xs:=⟨h.1,λi hi=>by
 obtain⟨h1,a,c,h2,h3,h4⟩:=h.2 i hi;exact⟨h1,a,c,h2,h3,h4.step hs⟩⟩
theorem Ep.nil (w:World):Ep w [] []:=⟨rfl,λi hi=>absurd hi sQ⟩
theorem Ep.append (h:Ep w wl xs) (k:Ep w ms ys):Ep w (wl++ms) (xs++ys):=by
 refine⟨by rw[zw,zw,h.1,k.1];omega,λi hi=>?_⟩;have hx:=h.1;have hy:=k.1;rw[zw] at hi;by_cases hil:i<wl.length
 ·obtain⟨h1,a,c,h2,h3,h4⟩:=h.2 i hil
  rw[qo oQ,qo oQ,zaG hil];exact⟨h1,a,c,h2,h3,h4⟩
 ·obtain⟨h1,a,c,h2,h3,h4⟩:=k.2 (i - wl.length) oQ
  rw[qd oQ,qd oQ,zaj oQ];rw[show 2*i - xs.length=2*(i - wl.length) by omega,show 2*i+1 - xs.length=2*(i - wl.length)+1 by omega];exact⟨h1,a,c,h2,h3,h4⟩
theorem Ep.one (h:Ep w wl xs):∀u∈xs,u.oneCell'=true:=by
 intro u hu;obtain⟨k,hk,rfl⟩:=za0.1 hu;have hl:=h.1;obtain⟨h1,a,c,h2,_⟩:=h.2 (k / 2) oQ;have eO:k=2*(k / 2)∨k=2*(k / 2)+1:=oQ
 rcases eO with e|e
 ·have h3:=h1
  rw[←e,zu hk] at h3;injection h3 with h3;rw[h3];rfl
 ·have h3:=h2
  rw[←e,zu hk] at h3;injection h3 with h3;rw[h3];rfl
theorem BK.cells {b:Nat} (h:BK w b wl):∃xs,Ep w wl xs∧∀j u,xs[j]? =some u→w.cell? ⟨b,j,none⟩=some u:=by
 obtain⟨C,fr,hb,h2⟩:=h;have gJ:2*wl.length≤C.size:=by
  rcases zba wl.length with h0|h0
  ·omega
  ·obtain⟨_,a,c,h3,_⟩:=h2 (wl.length - 1) oQ
   have:=(zo.1 h3).1;omega
 refine⟨C.toList.take (2*wl.length),⟨by simp;omega,λi hi=>?_⟩,λj u hj=>?_⟩
 ·obtain⟨h3,a,c,h4,h5,h6⟩:=h2 i hi
  rw[qh,if_pos oQ,qh,if_pos oQ,qw,qw];exact⟨h3,a,c,h4,h5,h6⟩
 ·have Dv:=(zL.1 hj).1
  rw[zF] at Dv;rw[qh,if_pos oQ,qw] at hj;unfold World.cell?;simp[hb,hj]
theorem Ep.wrs {v:Value} {n g:Nat} (h:Ep w wl xs) (ho:w.ownsRow 0 176 2 v n xs) (hg:v.ownBlock=some g):BK w g wl:=by
 rcases ho.2 with⟨rfl,_⟩|⟨g',cap,cur,rfl,_,hb,_,_,_,ht⟩
 ·simp[Value.ownBlock] at hg
 ·have:g'=g:=by simpa[Value.ownBlock] using hg
  subst this;have hx:∀k u,xs[k]? =some u→cur[k]? =some u:=λk u hk=>by
   have hj:=(zL.1 hk).1;rw[ho.1] at hj;rw[←hk,←ht,qh,if_pos hj,qw]
  refine⟨cur,(0,0),hb,λi hi=>?_⟩;obtain⟨h1,a,c,h2,h3,h4⟩:=h.2 i hi;exact⟨hx _ _ h1,a,c,hx _ _ h2,h3,h4⟩
def WSl (w:World) (v:Value) (wl:Wl):Prop:=∃a c,v=.slice a wl.length c∧(wl=[]∨∃b,a=some ⟨b,0,none⟩∧BK w b wl)
theorem WSl.below {v:Value} (h:WSl w v wl) (hs:Below w.heap.size w w'):WSl w' v wl:=by
 obtain⟨a,c,hv,h⟩:=h;exact⟨a,c,hv,h.imp id (λ⟨b,hb,hw⟩=>⟨b,hb,hw.below hs⟩)⟩
end
theorem Zt (w:World) (n:Nat) (h1:1≤n) (h2:n≤1000):
  Calls Tryz.prog 197 #[.slice none 0 0,.int .i64 n] w λe w'=>∃g cap,e=.returned (.slice (some ⟨g,0,none⟩) 0 cap)∧w.heap.size≤g∧w'.ownsRow 0 176 2 (.slice (some ⟨g,0,none⟩) 0 cap) 0 []∧Below w.heap.size w w':=by
 obtain⟨i,hi,hz,hs,hb⟩:=info_parts rT.info
 have iT:=Lib.run_append_grow_zeros (P:=Tryz.prog) w 126 3 126 176 i _ .i64 .i64 rT.slice Tryz.underlying3 hi hz none 0 0 [] (by simp[Builtin.firstCells]) n oQ oQ oQ oQ (by rw[hb];omega) (by
  rw[hb];have:Builtin.nextslicecap (0+n) 0=n:=by unfold Builtin.nextslicecap;rw[if_pos oQ];omega
  rw[this];omega)
 have hcg:=grownCap_ge w (0+n) 0 176;have Cn:=grownCap_le_maxLen w (0+n) 0 176 (by unfold maxLen;omega);rw[qx] at iT hcg Cn;obtain⟨cap,as8⟩:∃cap,grownCap w n 0 176=cap:=⟨_,rfl⟩
 rw[as8] at iT hcg Cn;obtain⟨C,hC⟩:∃C,([]:List Value).toArray++Builtin.zeroCells (Value.agg #[.int .i64 0,.slice none 0 0]).cells n++Builtin.zeroCells (Value.agg #[.int .i64 0,.slice none 0 0]).cells (cap - n)=C:=⟨_,rfl⟩
 have hCs:C.size=cap*2:=by
  rw[←hC];simp[Builtin.zeroCells,Value.cells];omega
 rw[hC] at iT;have hown:=World.ownsRow_made (base:=0) (e:=176) w.drew C cap (ql _) Cn hCs;obtain⟨w1,aP⟩:∃w1,w.drew.alloc (.cells C 176)=w1:=⟨_,rfl⟩
 have hB:Below w.heap.size w w1:=by rw[←aP];exact(zn _ _).drew.alloc (zm _) _
 rw[aP] at iT hown;have HO:=U hown;have HB:=U hB;have HC:=U Cn;unfold maxLen at Cn;clear hown hB hC hCs aP;go_enter Tryz.func197,Tryz.ntmps197;go_wp2_with (at_builtin;refine wpList_append_run (.tmp 20) (.tmp 21) iT rfl rfl rfl rfl ?_);go_ret;exact⟨_,cap,rfl,zm _,HO.o,HB.o⟩
theorem J_ {P:Program} {t e:TypeId} {z:Value} {k bytes:Nat} (E:Dl P t e z k bytes) (ty:TypeId) (w:World) {v:Value} {n:Nat} {xs:List Value} (hown:w.ownsRow 0 e k v n xs) (c2:Nat):
  (Builtin.append_ #[t,t] ty #[v,.slice none 0 c2]).run P w=.ok v w:=by
 obtain⟨i,hi,hz,hs,hb⟩:=info_parts E.info;rcases hown.2 with⟨rfl,rfl⟩|⟨g,cap,cur,rfl,_,_,JG,_⟩
 ·simp[Builtin.append_,run_underlying E.slice,sizeOf,typeInfo,hi,Builtin.lenOf,Builtin.firstCells]
 ·simp[Builtin.append_,run_underlying E.slice,sizeOf,typeInfo,hi,Builtin.lenOf,Builtin.firstCells,JG,storeCells]
theorem MQ (ty:TypeId) {w:World} {v:Value} {n:Nat} {xs:List Value} (hown:w.ownsRow 0 176 2 v n xs) {wl ms:Wl} (hx:Ep w wl xs) {y:Value} (hy:WSl w y ms) (gD:n+ms.length≤100000):
  ∃v' w' xs',(Builtin.append_ #[126,126] ty #[v,y]).run Tryz.prog w=.ok v' w'∧w'.ownsRow 0 176 2 v' (n+ms.length) xs'∧Ep w' (wl++ms) xs'∧(v'.ownBlock=v.ownBlock∨v'.ownBlock=some w.heap.size)∧w.grownBy w' v.ownBlock:=by
 obtain⟨i,hi,hz,hs,hb⟩:=info_parts rT.info;obtain⟨a,c,rfl,hy⟩:=hy;rcases a with _|ad
 ·have hms:ms=[]:=by
   rcases hy with h|⟨b,hb,_⟩
   ·exact h
   ·cases hb
  subst hms;exact⟨v,w,xs,J_ rT ty w hown c,hown,by simpa using hx,.inl rfl,⟨rfl,rfl,rfl,zm _,λ_ _ _=>rfl⟩⟩
 ·have hc:∃ys,Ep w ms ys∧∀j u,ys[j]? =some u→w.cell? (ad.add j)=some u:=by
   rcases hy with rfl|⟨b,hb,hw⟩
   ·exact⟨[],Ep.nil w,λj u h=>by simp at h⟩
   ·obtain⟨ys,h1,h2⟩:=hw.cells
    refine⟨ys,h1,λj u h=>?_⟩;injection hb with hb;subst hb;rw[show(⟨b,0,none⟩:Addr).add j=⟨b,j,none⟩ by unfold Addr.add;split<;>simp_all];exact h2 j u h
  obtain⟨ys,h1,h2⟩:=hc;obtain⟨v',w',hrun,ho,hg,_,dw⟩:=run_append_own_at (P:=Tryz.prog) w 0 126 ty 176 i _ 2 32 rT.slice hi hz hs hb rT.cells rT.pos v n xs hown ad ms.length c ys (by rw[h1.1];omega) h2 h1.one (by unfold maxLen;omega) oQ (ql _);refine⟨v',w',_,hrun,ho,?_,dw,hg⟩
  have bT:Step (λk=>v.ownBlock=some k) w (λk=>v.ownBlock=some k) w':=Step.bU hg (λr e=>⟨e,by
   obtain⟨C,hC⟩:=aN hown e;rintro⟨C2,fr,h3⟩;rw[hC] at h3;injection h3 with h3;injection h3 with _ h3
   first|exact absurd h3 dQ|exact(Fr.no h3 dQ).elim⟩)
  exact(hx.step bT).append (h1.step bT)
def wV (L:List (Value×Wl)) (k:Nat):Nat:=((L.take k).map (λx=>x.2.length)).sum
theorem IK {L:List (Value×Wl)} {k:Nat} (h:k<L.length):wV L (k+1)=wV L k+L[k].2.length:=by
 unfold wV;rw[zZ h,zW,zaQ];simp only[qy,qK,zay,List.sum_nil,za3]
theorem Tj (L:List (Value×Wl)) (k:Nat):wV L k≤wV L L.length:=by
 induction L generalizing k with
 |nil=>simp[wV]
 |cons x L ih=>
  cases k with
  |zero=>simp[wV]
  |succ k=>
   have:=ih k;simp only[wV,List.take_succ_cons,qy,zay,zA] at this ⊢;omega
theorem U6 {L:List (Value×Wl)} {k:Nat} (h:k<L.length):(L.take (k+1)).flatMap Prod.snd=(L.take k).flatMap Prod.snd++L[k].2:=by
 rw[zZ h,za6];simp only[zaX,List.flatMap_nil,qD]
theorem Qm (w:World) (vb q n:Nat) (L:List (Value×Wl)) (hq:L.length=q) (IL:q≤10) (hV:ah w vb 126 (L.map Prod.fst)) (hL:∀x∈L,WSl w x.1 x.2) (hn:wV L q=n) (h1:1≤n) (h2:n≤1000):
  Calls Tryz.prog 125 #[.slice (some ⟨vb,0,none⟩) q q] w λe w'=>∃g cap,e=.returned (.slice (some ⟨g,0,none⟩) n cap)∧w.heap.size≤g∧BK w' g (L.flatMap Prod.snd)∧Below w.heap.size w w':=by
 have Zu:∀k (hk:k<L.length),(L.map Prod.fst)[k]? =some L[k].1:=λk hk=>by rw[qb,zu hk];rfl
 have HV:=U hV;have HL:=U hL;have HN:=U hn;have HQ:=U hq;have HC:=U Zu;clear hV hL hn hq Zu;go_enter Tryz.func125,Tryz.ntmps125;go_wp2_with fail
 go_loop [3,11] (λt v=>∃k:Nat,k≤q∧v=.int .i64 k∧t=.int .i64 (wV L k)) (λ_ v=>q - (intOf v).toNat)
 case atStart=>exact⟨0,oQ,rfl,by simp[wV]⟩
 case round=>
  obtain⟨k,hk,rfl,rfl⟩:=hrel;by_cases hkq:k<q
  ·have fF:k<L.length:=by rw[HQ.o];exact hkq
   obtain⟨a,c,hv,Qn⟩:=HL.o _ (qm fF);have hcell:=HV.o.cell k;rw[HC.o k fF,hv] at hcell;have hs:=IK fF;have hle:=Tj L (k+1);rw[HQ.o,HN.o] at hle;obtain⟨m,hm⟩:∃m,L[k].2.length=m:=⟨_,rfl⟩
   rw[hm] at hs hcell;have hb:wV L k+m≤1000:=oQ
   have HS:=U hs;clear hv Qn hm hs hle;have Gw:¬((wV L k:Int)+(m:Int)<0):=oQ
   go_wp2_with fail;go_round
   case rel=>exact⟨k+1,oQ,by go_num,by rw[HS.o];go_num⟩
   case measure=>simp[intOf];omega
  ·obtain rfl:k=q:=oQ
   rw[HN.o];go_wp2_with fail;refine(Zt w n h1 h2).mono ?_;rintro e w1 ⟨g,cap,rfl,hg,hown,hB⟩;have HO:=U hown;have HB:=U hB;clear hown hB;go_wp2_with fail;go_loopw [6,27] (λv i wr=>∃(j:Nat) (xs:List Value) (u:Value),j≤k∧i=.int .i64 j∧u=v∧wr.ownsRow 0 176 2 u (wV L j) xs∧Ep wr ((L.take j).flatMap Prod.snd) xs∧(∃b,u.ownBlock=some b∧w.heap.size≤b)∧Below w.heap.size w wr) (λ_ i _=>k - (intOf i).toNat)
   case atStart=>exact⟨0,[],_,oQ,rfl,rfl,HO.o,Ep.nil _,⟨g,rfl,hg⟩,HB.o⟩
   case round=>
    obtain⟨j,xs,u,hj,rfl,rfl,hown,hx,⟨b,hb,Gx⟩,Mg⟩:=hrel;by_cases PI:j<k
    ·have Dv:j<L.length:=by rw[HQ.o];exact PI
     obtain⟨a,c,hv,_⟩:=HL.o _ (qm Dv);have hcell:=(HV.o.below Mg).cell j;rw[HC.o j Dv,hv] at hcell;have hs:=IK Dv;have hle:=Tj L (j+1);rw[HQ.o,HN.o] at hle;obtain⟨v',w2,xs',hrun,vK,oD,dw,rH⟩:=MQ 126 hown hx ((HL.o _ (qm Dv)).below Mg) oQ;have aJ:Below w.heap.size w w2:=by
      have bT:Step (λk=>u.ownBlock=some k) wr (λk=>u.ownBlock=some k) w2:=Step.bU rH (λr e=>⟨e,by
       obtain⟨C,hC⟩:=aN hown e;rintro⟨C2,fr,h3⟩;rw[hC] at h3;injection h3 with h3;injection h3 with _ h3
       first|exact absurd h3 dQ|exact(Fr.no h3 dQ).elim⟩)
      exact Mg.trans (bT.below (λk hk=>by rw[hb] at hk;injection hk with hk;omega) Mg.size)
     rw[hv] at hrun;have HO2:=U vK;have HX2:=U oD;have HAT:=U dw;have bH:=U aJ;have HS:=U hs;have hbr:=Mg.size;clear hown hx Mg vK oD dw aJ hs hle rH hv;go_wp2_with (at_builtin;refine wpList_append_run (.tmp 31) (.tmp 32) hrun rfl rfl rfl rfl ?_);refine⟨⟨j+1,xs',v',oQ,by go_num,rfl,by rw[HS.o];exact HO2.o,by rw[U6 Dv];exact HX2.o,?_,bH.o⟩,by simp[intOf];omega⟩;rcases HAT.o with h|h
     ·exact⟨b,by rw[h,hb],Gx⟩
     ·exact⟨_,h,hbr⟩
    ·obtain rfl:j=k:=oQ
     obtain⟨a,cap2,rfl,ha⟩:=aR hown;rw[zy (by rw[HQ.o];exact zm _)] at hx;have hw:=hx.wrs hown hb;rcases ha with⟨rfl,_⟩|⟨b',rfl,hb'⟩
     ·simp[Value.ownBlock] at hb
     ·rw[hb] at hb'
      injection hb' with hb';subst hb';have HW:=U hw;have HBr:=U Mg;clear hown hx hw Mg;go_wp2_with fail;go_ret;exact⟨b,cap2,by rw[←HN.o];rfl,Gx,HW.o,HBr.o⟩
def kg (s:JS) (f:Nat→Option Nat) (all:Wl):Nat→Nat→Option Nat
 |0=>f
 |k+1=>fD (kg s f all k) (all.getD k (0,[])).1 (some (s.pl (s.Q.length+k)))
theorem wW {s:JS} {f:Nat→Option Nat} {all:Wl} (hn:(all.map Prod.fst).Nodup):∀(k i id:Nat),i<k→k≤all.length→(all.map Prod.fst)[i]? =some id→kg s f all k id=some (s.pl (s.Q.length+i))
 |0,i,id,h,_,_=>absurd h oQ
 |k+1,i,id,h,hl,hi=>by
  have hk:k<all.length:=oQ
  have hg:(all.getD k (0,[])).1=all[k].1:=by rw[z_,zu hk];rfl
  have h2:(all.map Prod.fst)[k]? =some all[k].1:=by rw[qb,zu hk];rfl
  rw[kg,fD,hg];by_cases he:id=all[k].1
  ·rw[if_pos he]
   have:=uK hn hi (he▸h2);rw[this]
  ·rw[if_neg he]
   refine wW hn k i id ?_ oQ hi;rcases zaL i k with h3|h3
   ·exact h3
   ·exfalso
    have:i=k:=oQ
    subst this;rw[h2] at hi;injection hi with hi;exact he hi.symm
theorem Ay {s:JS} {f:Nat→Option Nat} {all:Wl}:∀(k id:Nat),k≤all.length→(∀i,i<k→(all.map Prod.fst)[i]?≠some id)→kg s f all k id=f id
 |0,id,_,_=>rfl
 |k+1,id,hl,hi=>by
  have hk:k<all.length:=oQ
  have hg:(all.getD k (0,[])).1=all[k].1:=by rw[z_,zu hk];rfl
  have h2:(all.map Prod.fst)[k]? =some all[k].1:=by rw[qb,zu hk];rfl
  rw[kg,fD,hg,if_neg (show¬id=all[k].1 from λhe=>hi k oQ (by rw[he];exact h2))];exact Ay k id oQ (λi h=>hi i oQ)
theorem MR {s:JS} {f:Nat→Option Nat} {all:Wl} (hn:(all.map Prod.fst).Nodup) (hf:∀id,id<s.B→f id=s.at_ id) (ht:s.tail<s.P) (hr:s.Q.length+all.length≤s.P) {k:Nat} (hk:k<all.length):∀j,j<s.B→kg s f all k j≠some (s.pl (s.Q.length+k)):=by
 intro j hj he;by_cases h:∃i,i<k∧(all.map Prod.fst)[i]? =some j
 ·obtain⟨i,hi,hij⟩:=h
  rw[wW hn k i j hi oQ hij] at he;injection he with he;have:=rC (P:=s.P) (t:=s.tail) (i:=s.Q.length+i) (j:=s.Q.length+k) oQ oQ he;omega
 ·rw[Ay k j oQ (λi hi h2=>h ⟨i,hi,h2⟩),hf j hj,JS.at_] at he
  rcases hx:idx s.Q j with _|x
  ·rw[hx] at he;cases he
  ·rw[hx] at he
   injection he with he;have hxl:=fK hx;have:=rC (P:=s.P) (t:=s.tail) (i:=x) (j:=s.Q.length+k) oQ oQ he;omega
theorem Ka {s:JS} {C:Nat→Bytes} {f:Nat→Option Nat} {wl:Wl} (hn:(wl.map Prod.fst).Nodup) (hf:∀id,id<s.B→f id=s.at_ id) (ht:s.tail<s.P) (hr:s.Q.length+(full C wl (s.clean wl) s.Q).length≤s.P):
  ∀id,id<s.B→kg s f (full C wl (s.clean wl) s.Q) (full C wl (s.clean wl) s.Q).length id=(s.batch C wl).at_ id:=by
 intro id U;have hc:s.clean wl≤s.Q.length:=Nat.min_le_right _ _;have lN:((full C wl (s.clean wl) s.Q).map Prod.fst).Nodup:=by rw[mV];exact nV hn _ _
 have fB:∀i,s.clean wl+i≤s.P→(s.batch C wl).pl i=s.pl (s.clean wl+i):=λi hi=>g_ ht hi;have dw:(s.batch C wl).at_ id=(idx (step (wl.map Prod.fst) (s.clean wl) s.Q) id).map (s.batch C wl).pl:=rfl;rw[dw];rcases LM hn hc id with⟨k,hk,he⟩|⟨hni,h⟩
 ·have fF:k<(full C wl (s.clean wl) s.Q).length:=by
   rw[Du];exact(zL.1 hk).1
  rw[wW lN _ k id fF (zm _) (by rw[mV];exact hk),he,qA,fB _ oQ];congr 2;omega
 ·rw[Ay _ id (zm _) (λi hi h2=>hni (by rw[←mV C];exact zaq h2)),hf id U,JS.at_]
  rcases h with⟨h1,h2⟩|⟨i,h1,h2,h3⟩
  ·rw[h1,h2];rfl
  ·have:=fK h2
   rw[h2,h3,qA,qA,fB _ oQ];congr 2;omega
section
variable {w w':World} {j P B:Nat} {vals:List Value} {sec:Nat→Option tQ} {st:Nat→Bytes} {wt:Wt} {F:Nat→Prop} {d r rb t pb ob:Nat} {Fd:Nat→Prop} {f g:Nat→Option Nat}
theorem m_.diff (h:m_ w j P B vals sec st wt F d r rb t pb ob Fd f g):j≠r∧j≠rb∧j≠t∧j≠pb∧j≠ob∧r≠t∧r≠pb∧r≠ob∧rb≠t:=by
 obtain⟨c,hc⟩:=h.tab.cells;exact⟨h.cells.eU h.ring.cells dQ,h.cells.eU h.ring.row dQ,h.cells.eU hc dQ,h.cells.eU h.tab.places dQ,h.cells.eU h.tab.iU dQ,h.ring.cells.eU hc dQ,h.ring.cells.eU h.tab.places dQ,h.ring.cells.eU h.tab.iU dQ,h.ring.row.eU hc dQ⟩
theorem m_.adS (h:m_ w j P B vals sec st wt F d r rb t pb ob Fd f g) {f' g':Nat→Option Nat} (hs:Step (sW t pb ob) w (sW t pb ob) w') (ht:TabAt w' t pb ob B P f' g'):m_ w' j P B vals sec st wt F d r rb t pb ob Fd f' g'∧Step F w F w':=by
 obtain⟨o1,o2,o3,o4,o5,o6,o7⟩:=h.own;obtain⟨a1,a2,a3,a4,a5,a6⟩:=h.apart;obtain⟨e1,e2,e3,e4,e5,e6,e7,e8,e9⟩:=h.diff;have hF:∀k,sW t pb ob k→F k:=by rintro k (rfl|rfl|rfl)<;>assumption
 refine⟨⟨h.cells.step hs (by rintro(h|h|h)<;>contradiction),h.dev.step hs (λk hk=>by rintro(rfl|rfl|rfl)<;>contradiction),h.ring.step hs (by rintro(h|h|h)<;>contradiction) (by rintro(q|q|q);exact e9 q;exact h.two.1 q;exact h.two.2 q),ht,h.secs,h.sup,h.len,h.X8,h.Ct,h.own,h.apart,h.two,λk hk=>zx (h.lt k hk) hs.size⟩,hs.more hF (λk hk=>.inl hk)⟩
theorem m_.yw (h:m_ w j P B vals sec st wt F d r rb t pb ob Fd f g) (i:Nat) (v:Value):m_ (w.setCell ⟨j,i,none⟩ v) j P B (vals.set i v) sec st wt F d r rb t pb ob Fd f g∧Step F w F (w.setCell ⟨j,i,none⟩ v):=by
 obtain⟨o1,o2,o3,o4,o5,o6,o7⟩:=h.own;obtain⟨a1,a2,a3,a4,a5,a6⟩:=h.apart;obtain⟨e1,e2,e3,e4,e5,e6,e7,e8,e9⟩:=h.diff;have hs:Step (· =j) w (· =j) (w.setCell ⟨j,i,none⟩ v):=Step.set1 (h.cells.aV dQ) _ _;exact⟨⟨h.cells.aB i v,h.dev.step hs (λk hk=>by rintro rfl;exact a1 hk),h.ring.step hs (Bp e1) (Bp e2),h.tab.step hs (Bp e3) (Bp e4) (Bp e5),h.secs,h.sup,h.len,h.X8,h.Ct,h.own,h.apart,h.two,λk hk=>zx (h.lt k hk) hs.size⟩,hs.up o1⟩
end
theorem Er {s:JS} {C:Nat→Bytes} {wl:Wl}:(s.batch C wl).used=s.Q.length - s.clean wl+(full C wl (s.clean wl) s.Q).length:=by
 have h:(s.batch C wl).used=(step (wl.map Prod.fst) (s.clean wl) s.Q).length:=rfl;rw[h,step,zw,zR,Du];simp[ids]
theorem Qo {s:JS} {C:Nat→Bytes} {wl:Wl} (ht:s.tail<s.P) (hr:s.Q.length+(full C wl (s.clean wl) s.Q).length≤s.P):(s.batch C wl).head=s.pl (s.Q.length+(full C wl (s.clean wl) s.Q).length):=by
 have hc:s.clean wl≤s.Q.length:=Nat.min_le_right _ _;have h:(s.batch C wl).head=pos s.P (pos s.P s.tail (s.clean wl)) (s.batch C wl).used:=rfl;rw[h,Er,g_ ht oQ];show pos s.P s.tail _=pos s.P s.tail _;congr 1;omega
theorem Qp {d r t:Nat} {s:JS} {C:Nat→Bytes} {wl:Wl} {N cl:Nat} (nY:s.clean wl=cl) (hN:(full C wl (s.clean wl) s.Q).length=N) (ht:s.tail<s.P) (hr:s.Q.length+N≤s.P):
  ((((nQ d r t s).set 6 (.int .u64 ((s.seq:Int)+1))).set 7 (.int .i64 (s.pl (s.Q.length+N)))).set 8 (.int .i64 ((s.used:Int)+((N:Int) - cl)))).set 9 (.int .i64 cl)=nQ d r t (s.batch C wl):=by
 have h1:=Er (s:=s) (C:=C) (wl:=wl);have h2:=Qo (s:=s) (C:=C) (wl:=wl) ht oQ;have hc:s.clean wl≤s.Q.length:=Nat.min_le_right _ _;rw[hN] at h1 h2;rw[nY] at h1 hc;have h3:(s.used:Int)+((N:Int) - cl)=((s.batch C wl).used:Int):=by rw[h1];unfold JS.used;omega
 rw[h3,←h2,←nY];rfl
theorem adT (P:Program) (a b:Nat):∀(ts:Array TypeId) (t:TypeId) (W:World),(Builtin.min_ ts t #[.int .i64 (a:Int),.int .i64 (b:Int)]).run P W=.ok (.int .i64 ((min a b:Nat):Int)) W:=by
 intro ts t W;simp[Builtin.min_,Builtin.min2]
 split<;>omega
section
variable {w:World} {j d:Nat} {s:JS} {C:Nat→Bytes} {st:Nat→Bytes} {wt:Wt} {F:Nat→Prop}
theorem BO (h:wU w j d s C st wt F) {b n c:Nat} {wl:Wl} (hw:BK w b wl) (lJ:¬F b) (hl:wl.length=n) (h1:1≤n) (h24:n≤24) (yt:(wl.map Prod.fst).Nodup) (hB:∀e∈wl,e.1<s.B) (nN:s.seq<iQ):
  Calls Tryz.prog 60 #[.pointer (some ⟨j,0,none⟩),.slice (some ⟨b,0,none⟩) n c] w λe w'=>e=.returned (.int .i64 0)∧∃st' wt' F',wU w' j d (s.batch C wl) (dW C wl) st' wt' F'∧Step F w F' w':=by
 have bA:∀k,F k→k<w.heap.size:=by
  obtain⟨r,rb,t,pb,ob,Fd,f,g,h⟩:=h;exact h.lt
 obtain⟨rU,MS,Ls⟩:rD s C∧Geo s.B s.P∧s.freed≤48:=by
  obtain⟨r,rb,t,pb,ob,Fd,f,g,h⟩:=h;exact⟨h.ok,h.Ct,h.freed⟩
 have Ya:=U rU;have Zv:=U MS;clear rU MS;have HJ:=U h;have HW:=U hw;have HL:=U hl;have Kc:=U nN;clear h hw hl;have xW:decide (281474976710655≤(s.seq:Int))=false:=by unfold iQ at nN;rw[decide_eq_false_iff_not];omega
 have iK:=U bA;clear nN bA;go_enter Tryz.func60,Tryz.ntmps60;go_wp2_with fail;refine(Qe (c:=c) HJ.o HW.o HL.o h1 h24 yt hB).mono ?_;rintro e w1 ⟨m,φ,rfl,hm,hM,hφ,aF⟩;have HM:=U hM;have jD:=U aF;have Hφ:=U hφ;have hmF:¬F m:=λh=>by have:=iK.o m h;omega
 have c6:w1.cell? ⟨j,6,none⟩=some (.int .u64 s.seq):=by
  obtain⟨r,rb,t,pb,ob,Fd,f,g,h⟩:=HJ.o.below jD.o;exact h.cell 6
 clear hM aF hφ hm;go_wp2_with fail;refine(Ee (HJ.o.below jD.o)).mono ?_;rintro e w2 ⟨rfl,Yb,bV⟩;have hM2:=HM.o.step bV hmF;have lZ:=(HW.o.below jD.o).step bV lJ;have hc8:w2.cell? ⟨j,8,none⟩=some (.int .i64 s.used):=by
  obtain⟨r,rb,t,pb,ob,Fd,f,g,h⟩:=Yb;exact h.cell 8
 have Zw:s.clean wl=min (2*n) s.Q.length:=by unfold JS.clean;rw[HL.o]
 have vL:∀(ts:Array TypeId) (t:TypeId) (W:World),(Builtin.min_ ts t #[.int .i64 (2*(n:Int)),.int .i64 s.used]).run Tryz.prog W=.ok (.int .i64 ((s.clean wl:Nat):Int)) W:=by
  rw[Zw];exact adT _ (2*n) s.Q.length
 have amw:s.clean wl≤s.Q.length:=Nat.min_le_right _ _;have adO:s.clean wl≤48:=oQ
 obtain⟨cl,nY⟩:∃cl,s.clean wl=cl:=⟨_,rfl⟩
 rw[nY] at vL amw adO;have HM2:=U hM2;have HW2:=U lZ;have HJ2:=U Yb;have LA:=U ((Step.of_below jD.o F).trans bV);have Yc:=U nY;clear hM2 lZ Yb bV c6 nY Zw;go_wp2_with fail;refine(Qh HJ2.o HM2.o hmF Hφ.o cl amw adO).mono ?_;rintro e w3 ⟨⟨bo,cap,rfl,hmv⟩,pV,jd⟩;obtain⟨nm,hnm⟩:∃nm,(gB (wl.map Prod.fst) cl s.Q).length=nm:=⟨_,rfl⟩
 rw[hnm];have aBk:nm≤cl:=by rw[←hnm];exact Dq _ _ _
 have HMv:=U hmv;have Hnm:=U hnm;have BP:=U (HW2.o.step jd lJ);have Zk:=U pV;have sU:=U (LA.o.trans jd);clear vL hc8 hmv hnm pV jd;go_wp2_with fail;obtain⟨w4,gH⟩:∃w4,w3.alloc (.cells #[.slice (some ⟨b,0,none⟩) n c,.slice bo nm cap] 126)=w4:=⟨_,rfl⟩
 have dX:Below w3.heap.size w3 w4:=by rw[←gH];exact(zn _ _).alloc (zm _) _
 have Ke:ah w4 w3.heap.size 126 [.slice (some ⟨b,0,none⟩) n c,.slice bo nm cap]:=by rw[←gH];exact ah.new w3 _ _
 rw[gH];clear gH;obtain⟨N,hN⟩:∃N,n+nm=N:=⟨_,rfl⟩
 refine(Qm w4 w3.heap.size 2 N [(.slice (some ⟨b,0,none⟩) n c,wl),(.slice bo nm cap,(gB (wl.map Prod.fst) cl s.Q).map (λid=>(id,C id)))] rfl oQ Ke ?hL ?hn oQ oQ).mono ?_
 case hL=>
  intro x hx;simp only[zH,zO,or_false] at hx;rcases hx with rfl|rfl
  ·exact⟨_,c,by rw[HL.o],.inr ⟨b,rfl,BP.o.below dX⟩⟩
  ·refine⟨bo,cap,by rw[zD,Hnm.o],?_⟩
   rcases HMv.o with h|⟨bb,h,_,h2⟩
   ·exact .inl (by rw[h];rfl)
   ·exact .inr ⟨bb,h,h2.below dX⟩
 case hn=>
  rw[←hN];simp[wV,HL.o,Hnm.o]
 rintro e w5 ⟨g5,cap5,rfl,hg5,Es,iJ⟩;have IQ:[((.slice (some ⟨b,0,none⟩) n c:Value),wl),(.slice bo nm cap,(gB (wl.map Prod.fst) cl s.Q).map (λid=>(id,C id)))].flatMap Prod.snd=full C wl (s.clean wl) s.Q:=by
  rw[Yc.o];simp[full]
 rw[IQ] at Es;obtain⟨all,iw⟩:∃all,full C wl (s.clean wl) s.Q=all:=⟨_,rfl⟩
 have af9:all.length=N:=by
  rw[←iw,Yc.o,←hN];simp[full,HL.o,Hnm.o]
 rw[iw] at Es;have jR:=U (dX.trans (iJ.mono dX.size));have HJ5:=U (Zk.o.below jR.o);have xJ:=U (sU.o.trans (Step.of_below jR.o F));have HW5:=U Es;have hz:=sU.o.size;have Ah:=dX.size;have amy:¬F g5:=λh=>by have:=iK.o g5 h;omega
 have dx:s.Q.length+s.freed+N≤s.P:=by
  have:=Ya.o.log.room Zv.o.r Zv.o.b.1 (l:=wl.map Prod.fst) (by rw[zD,HL.o];exact h24) Ls;rw[zD,HL.o,show min (2*n) s.Q.length=cl by rw[←Yc.o,JS.clean,HL.o],Hnm.o] at this;omega
 have hnr:decide ((s.P:Int) - s.used - s.freed<(N:Int))=false:=by
  rw[decide_eq_false_iff_not];unfold JS.used;omega
 have Kg:=U iw;have Tk:=U af9;have HN:=U hN;clear dX Ke hg5 Es iJ IQ iw af9 hN hz Ah;go_wp2_with fail;refine(Zl HJ5.o).mono ?_;rintro e w6 ⟨rfl,rfl⟩;go_wp2_with fail;have El:∀e∈all,e.1<s.B:=by
  intro e he;rw[←Kg.o] at he;rcases qg.1 he with he|he
  ·exact hB e he
  ·obtain⟨id,U,rfl⟩:=qj.1 he
   exact Ya.o.log.lt _ (CK _ _ _ U)
 obtain⟨r,rb,t,pb,ob,Fd,f,g,hA⟩:=HJ5.o.below (zn w5.heap.size w5).drew;refine(Ql hA.raw (HW5.o.below (zn w5.heap.size w5).drew) amy Tk.o (by have:=HN.o;omega) El hA.ok.tail oQ Kc.o hA.ok.start hA.ok.epoch).mono ?_;rintro e w7 ⟨rfl,F7,Fd7,wt7,amA,hJ7,uQ⟩;have HA:=U hA;have HJ7:=U hJ7;have Kh:=U ((Step.drew F w5).trans uQ);have atd:=U amA;have dw:=hA.at_;have Hat:=U dw;have lN:(all.map Prod.fst).Nodup:=by rw[←Kg.o,mV];exact nV yt _ _
 have Hfn:=U lN;have ahV:=U El;have ht:=hA.ok.tail;have hP:=hA.ring.few;have ate:=hA.Ct.b;clear hnr hA hJ7 uQ amA dw lN El;go_wp2_with fail;go_loopw [70] (λv wr=>∃(k:Nat) (g':Nat→Option Nat),k≤N∧v=.int .i64 k∧m_ wr j s.P s.B (nQ d r t s) (s.write all N) (view st wt) wt7 F7 d r rb t pb ob Fd7 (kg s f all k) g'∧Step F w5 F7 wr) (λv _=>N - (intOf v).toNat)
 case atStart=>exact⟨0,g,oQ,rfl,HJ7.o,Kh.o⟩
 case round=>
  obtain⟨k,g',hk,rfl,hJ,hS⟩:=hrel;by_cases mW:k<N
  ·have fF:k<all.length:=by have:=Tk.o;omega
   obtain⟨e1,a1,Pn,e2,e3,e4⟩:=(HW5.o.step hS amy).get k fF;have Eh:all[k].1<s.B:=ahV.o _ (qm fF);have YA:(all.getD k (0,[])).1=all[k].1:=by rw[z_,zu fF];rfl
   obtain⟨id,oH⟩:∃id,all[k].1=id:=⟨_,rfl⟩
   rw[oH] at e1 Eh YA;have En:s.head<s.P:=dz ht (by unfold JS.used;omega);have fB:(s.head+k)%s.P=s.pl (s.Q.length+k):=by
    rw[uJ En oQ];exact g_ ht (by unfold JS.used;omega)
   have Eo:s.pl (s.Q.length+k)<s.P:=dz ht oQ;have tV:=MR (f:=f) Hfn.o Hat.o ht (by rw[Tk.o];omega) fF;have ahW:kg s f all (k+1)=fD (kg s f all k) id (some (s.pl (s.Q.length+k))):=by rw[kg,YA]
   obtain⟨p,hp⟩:∃p,s.pl (s.Q.length+k)=p:=⟨_,rfl⟩
   rw[hp] at fB Eo tV ahW;have X9:((s.head:Int)+(k:Int))%(s.P:Int)=(p:Int):=by rw[←fB];simp
   have HJ:=U hJ;have HS:=U hS;have Hpm:=U X9;have Zx:=U tV;have atf:=U ahW;clear hJ hS oH e3 e4 YA fB hp X9 tV ahW;obtain⟨wb,vI⟩:∃wb,wr.alloc (.cells #[.int .i64 id,.slice a1 480 Pn] 176)=wb:=⟨_,rfl⟩
   have vJ:Below wr.heap.size wr wb:=by rw[←vI];exact(zn _ _).alloc (zm _) _
   have Zr:wb.heap.size=wr.heap.size+1:=by rw[←vI];simp
   have Gs:wb.cell? ⟨wr.heap.size,0,none⟩=some (.int .i64 id):=by rw[←vI];exact(ah.new wr 176 [.int .i64 id,.slice a1 480 Pn]).cell 0
   have HJb:=U (HJ.o.below vJ)
   have Hjc:Hid (∀W,Below wb.heap.size wb W→W.cell? ⟨j,1,none⟩=some (.pointer (some ⟨r,0,none⟩))∧W.cell? ⟨j,2,none⟩=some (.pointer (some ⟨t,0,none⟩))∧W.cell? ⟨j,7,none⟩=some (.int .i64 s.head)∧W.cell? ⟨wr.heap.size,0,none⟩=some (.int .i64 id)):=U (λW hW=>
    ⟨((HJb.o.below hW).cells.cell 1),((HJb.o.below hW).cells.cell 2),((HJb.o.below hW).cells.cell 7),(hW.cell (p:=⟨wr.heap.size,0,none⟩) (by show wr.heap.size<_;omega)).trans Gs⟩)
   have Qf:=U vJ;have bA:wr.heap.size<wb.heap.size:=oQ
   have HnT:Hid (¬sW t pb ob wr.heap.size):=U (by
    obtain⟨_,_,_,o4,o5,o6,_⟩:=HJ.o.own;have q4:=HJ.o.lt _ o4;have q5:=HJ.o.lt _ o5;have q6:=HJ.o.lt _ o6;rintro(h|h|h)<;>omega)
   clear vJ Zr;have aBo:(s.head:Int)<4611686018427387904:=oQ
   go_wp2_with fail;refine wp_region_noPanic ?_;refine ak (S:=(λW=>W.cell? ⟨j,1,none⟩=some (.pointer (some ⟨r,0,none⟩))∧W.cell? ⟨j,2,none⟩=some (.pointer (some ⟨t,0,none⟩))∧W.cell? ⟨j,7,none⟩=some (.int .i64 s.head)∧W.cell? ⟨wr.heap.size,0,none⟩=some (.int .i64 id))) (m:=17) kQ (Hjc.o _ (zn _ _).drew) (λaj=>?_);refine te 0 aj ?_;refine te 1 aj ?_;refine te 2 aj ?_;refine te 3 aj ?_;refine te 4 aj ?_;refine te 5 aj ?_;refine te 6 aj ?_;refine te 7 aj ?_;refine te 8 aj ?_;refine te 9 aj ?_;refine te 10 aj ?_;refine te 11 aj ?_;refine te 12 aj ?_;refine te 13 aj ?_;refine te 14 aj ?_;refine rE 15 λK hK=>?_;go_simp;with_reducible refine(Dy (HJb.o.below (zn _ _).drew).ring _ _ oQ oQ).mono ?_
   rintro e w2 ⟨rfl,rfl⟩;rw[Hpm.o];go_wp2_with fail;refine hK.out _ _ (λ_=>(Hjc.o _ (zn _ _).drew)) (λhS=>?_);have bQ:=hS dQ;clear hS hK K
   try simp only[Act.put,zh,zk,zl]
   refine rE 16 λK hK=>?_;go_simp;with_reducible refine(DF (HJb.o.below (zn _ _).drew).tab id p Eh Eo Zx.o).mono ?_
   rintro e w3 ⟨rfl,⟨g3,ahX⟩,bT⟩;obtain⟨pV,jd⟩:=(HJb.o.below (zn _ _).drew).adS bT ahX;rw[←atf.o] at pV;have Zk:=U pV;have sU:=U (((HS.o.trans (Step.of_below Qf.o F7)).trans (Step.drew F7 _)).trans jd);go_wp2_with fail;refine hK.out _ _ (λ_=>⟨pV.cells.cell 1,pV.cells.cell 2,pV.cells.cell 7,(bT.cell (p:=⟨wr.heap.size,0,none⟩) bA HnT.o).trans Gs⟩) (λhS=>?_);have bV:=hS dQ;clear hS hK K
   try simp only[Act.put,zh,zk,zl]
   refine aD ?_;go_wp2_with fail;refine⟨⟨k+1,g3,oQ,by go_num,Zk.o,sU.o⟩,by simp[intOf];omega⟩
  ·obtain rfl:k=N:=oQ
   have c6:=hJ.cells.cell 6;have f6:=hJ.cells.free 6;simp only[nQ,zf,zi] at c6;obtain⟨hJa,hSa⟩:=hJ.yw 6 (.int .u64 ((s.seq:Int)+1));have HJa:=U hJa;have HSa:=U (hS.trans hSa);have IU:(s.seq:Int)+1≤281474976710655:=by have:=Kc.o;unfold iQ at this;omega
   clear hJ hS hJa hSa;go_wp2_with fail;obtain⟨wa,vH⟩:∃wa,wr.setCell ⟨j,6,none⟩ (.int .u64 ((s.seq:Int)+1))=wa:=⟨_,rfl⟩
   have HJa:Hid (m_ wa j s.P s.B ((nQ d r t s).set 6 (.int .u64 ((s.seq:Int)+1))) (s.write all k) (view st wt) wt7 F7 d r rb t pb ob Fd7 (kg s f all k) g'):=U (by rw[←vH];exact HJa.o);have HSa:Hid (Step F w5 F7 wa):=U (by rw[←vH];exact HSa.o);have d1:wa.cell? ⟨j,1,none⟩=some (.pointer (some ⟨r,0,none⟩)):=HJa.o.cells.cell 1;have d7:wa.cell? ⟨j,7,none⟩=some (.int .i64 s.head):=HJa.o.cells.cell 7;have f7:=HJa.o.cells.free 7;have En:s.head<s.P:=dz ht (by unfold JS.used;omega);have fB:(s.head+k)%s.P=s.pl (s.Q.length+k):=by
    rw[uJ En oQ];exact g_ ht (by unfold JS.used;omega)
   have X9:((s.head:Int)+(k:Int))%(s.P:Int)=(s.pl (s.Q.length+k):Int):=by rw[←fB];simp
   obtain⟨hd2,ahZ⟩:∃x,s.pl (s.Q.length+k)=x:=⟨_,rfl⟩
   rw[ahZ] at X9;have Hpm:=U X9;have ath:=U ahZ;rw[vH];clear X9 fB ahZ vH;refine wp_region_noPanic ?_;refine ak (S:=(λW=>W.cell? ⟨j,1,none⟩=some (.pointer (some ⟨r,0,none⟩))∧W.cell? ⟨j,7,none⟩=some (.int .i64 s.head))) (m:=12) kQ ⟨d1,d7⟩ (λaj=>?_);refine te 0 aj ?_;refine te 1 aj ?_;refine te 2 aj ?_;refine te 3 aj ?_;refine te 4 aj ?_;refine te 5 aj ?_;refine te 6 aj ?_;refine te 7 aj ?_;refine te 8 aj ?_;refine te 9 aj ?_;refine te 10 aj ?_;refine rE 11 λK hK=>?_;go_simp;with_reducible refine(Dy (HJa.o.below (zn _ _).drew).ring _ _ oQ oQ).mono ?_
   rintro e w2 ⟨rfl,rfl⟩;rw[Hpm.o];go_wp2_with fail;refine hK.out _ _ (λ_=>⟨d1,d7⟩) (λhS=>?_);have bQ:=hS dQ;clear hS hK K
   try simp only[Act.put,zh,zk,zl]
   refine vF 12 ?_;refine vF 13 ?_;refine rE 14 λK hK=>?_;go_simp;refine kX hK ?_;clear hK K
   try simp only[Act.put,zh,zk,zl]
   refine aD ?_;obtain⟨hJc,hSc⟩:=HJa.o.yw 7 (.int .i64 (hd2:Int));obtain⟨wc,hwc⟩:∃wc,(wa.setCell ⟨j,7,none⟩ (.int .i64 (hd2:Int))).drew=wc:=⟨_,rfl⟩
   have hJc:=hJc.below (w':=wc) (by rw[←hwc];exact(zn _ _).drew);have HSc:Hid (Step F w5 F7 wc):=U (by rw[←hwc];exact(HSa.o.trans hSc).trans (Step.drew F7 _));have c8:wc.cell? ⟨j,8,none⟩=some (.int .i64 s.used):=hJc.cells.cell 8;have f8:=hJc.cells.free 8;have f9:=hJc.cells.free 9;have c9:wc.cell? ⟨j,9,none⟩=some (.int .i64 s.freed):=hJc.cells.cell 9;have HJc:=U hJc;rw[hwc];have aBr:(k:Int)≤72:=by have:=HN.o;omega
   have axc:(cl:Int)≤48:=oQ
   have ati:=Zv.o.s;have aBs:(s.used:Int)≤20000:=by unfold JS.used;omega
   clear ati
   have eX:Hid (∀e∈wl,e.1<s.B∧e.2.length=480):=U (λe he=>⟨hB e he,by
    obtain⟨i,hi,rfl⟩:=za0.1 he;obtain⟨_,_,_,_,h4,_⟩:=HW.o.get i hi;exact h4⟩)
   clear hwc hJc hSc d1 d7 f7;go_wp2_with fail;go_ret;obtain⟨hJd,hSd⟩:=HJc.o.yw 8 (.int .i64 ((s.used:Int)+((k:Int) - cl)));obtain⟨Tn,hSe⟩:=hJd.yw 9 (.int .i64 (cl:Int));have Ac:(full C wl (s.clean wl) s.Q).length=k:=by rw[Kg.o];exact Tk.o
   have aga:=Qp (d:=d) (r:=r) (t:=t) (C:=C) Yc.o Ac ht oQ;rw[ath.o] at aga;rw[aga] at Tn;have Qq:=Ka (C:=C) yt Hat.o ht (by rw[Ac];omega);rw[Ac,Kg.o] at Qq;refine⟨rfl,_,wt7,F7,⟨r,rb,t,pb,ob,Fd7,kg s f all k,g',Tn.cells,Tn.dev,Tn.ring,Tn.tab,Qq,?_,?_,Tn.sup,Tn.len,⟨by have:=atd.o;omega,Tn.X8⟩,Tn.Ct,?_,Tn.own,Tn.apart,Tn.two,Tn.lt⟩,((xJ.o.trans HSc.o).trans hSd).trans hSe⟩
   ·exact Ya.o.batch yt eX.o (by intro e;have:=HL.o;rw[e] at this;simp at this;omega) (by rw[HL.o];exact h24) Kc.o (by rw[Ac];omega)
   ·intro p hp
    have:=Tn.secs p hp;rw[this];show _=encS (s.write (full C wl (s.clean wl) s.Q) (full C wl (s.clean wl) s.Q).length p);rw[Ac,Kg.o]
   ·show s.clean wl≤48
    rw[Yc.o];exact adO
end
end
end Go.Proofs.YtdjdpeadohobmaaGreatDoor
