/- The statement 'TopWord': for every input that can be read (and, where the row lists the package's table, as the program's text lays it) the law returns true, and each argument reads afterwards as it read before. No further condition. -/
import Derived.Test.YtdjdpeadohobmaaGreatDoorK02
import Derived.Test.YtdjdpeadohobmaaGreatDoorK34
import Derived.Test.YtdjdpeadohobmaaGreatDoorK44
import Derived.Test.YtdjdpeadohobmaaGreatDoorK45
import Derived.Test.YtdjdpeadohobmaaGreatDoorK46
import Derived.Test.YtdjdpeadohobmaaGreatDoorProg
set_option linter.unusedVariables false
set_option maxRecDepth 100000
set_option maxHeartbeats 20000000
namespace Go.Proofs.YtdjdpeadohobmaaGreatDoor.topWord
open Go.ChangeShapes Go.WideShapes Go.ChangeAt Go.RowKit
open Go.ChangeMaps (open_string)
theorem contract (H:Type) (enc:TypeId×Value→H) (W:World) (base:Nat) (args:Array Value) (ds gs:List (DataW H)) (before:List MemPlace)
  (jy:∀(j:Nat) t v,Tryz.f3.params[j]? =some t→args[j]? =some v→Value.okWide Tryz.prog W .any base t v)
  (hW:DataW.Whole enc Tryz.prog Tryz.f3.params.toList Rows.topWordSpec.vars false W args.toList ds gs before) (hL:laidMetH Tryz.prog Rows.topWordRow.laid W):
  Calls Tryz.prog 3 args W λe W'=>∃v,e=.returned v∧Rows.topWordSpec.post enc Tryz.prog Tryz.f3 false true false false W args v W':=by
 have hW':=hW;obtain⟨p,q,hA0,hV,rfl,hfz,yt⟩:=hW;have hA:DataW.TrodAll enc Tryz.prog W 0 (λ_=>true) true Tryz.f3.params.toList args.toList ds p:=hA0;rw[Tryz.params3] at hA jy;obtain⟨v0,vs0,d0,ds0,p0,q0,apT,rfl,rfl,h0,r0⟩:=trodAll_cons hA;obtain⟨v1,vs1,d1,ds1,p1,q1,rfl,rfl,rfl,h1,r1⟩:=trodAll_cons r0;obtain⟨v2,vs2,d2,ds2,p2,q2,rfl,rfl,rfl,h2,r2⟩:=trodAll_cons r1;obtain⟨v3,vs3,d3,ds3,p3,q3,rfl,rfl,rfl,h3,r3⟩:=trodAll_cons r2;obtain⟨rfl,rfl,rfl⟩:=trodAll_nil r3;obtain rfl:args=#[v0,v1,v2,v3]:=by cases args;simp_all
 obtain⟨rfl,rfl⟩:=trodVars_none hV;obtain⟨a0,l0,c0,rfl,dZ,AP,Pt⟩:=Dj Tryz.underlying22 Tryz.underlying5 Tryz.TQ (jy 0 22 v0 rfl rfl) h0;obtain⟨n1,rfl,X6,_,w1⟩:=open_int Tryz.underlying3 (jy 1 3 v1 rfl rfl) h1;obtain⟨a2,l2,c2,rfl,dh,LZ,bC⟩:=Dj Tryz.underlying22 Tryz.underlying5 Tryz.TQ (jy 2 22 v2 rfl rfl) h2;obtain⟨a3,l3,c3,rfl, -, -, -, -⟩:=Uj Tryz.underlying23 Tryz.underlying3 Tryz.aa3 (jy 3 23 v3 rfl rfl) h3;refine(walk_TopWord W (TR hL) a0 l0 c0 (YD rfl (jy 0 22 _ rfl rfl) dZ) AP Pt n1 (Al w1) a2 l2 c2 (YD rfl (jy 2 22 _ rfl rfl) dh) LZ bC a3 l3.length c3).mono λe W' ⟨he,hg⟩=>?_;subst he;exact⟨_,rfl,LG Tryz.Oe kQ rfl rfl Tryz.underlying4 hW' rfl hg⟩
theorem FT (os:Os):laidMet Tryz.prog Rows.topWordRow.laid ((mO os).forCall (λ_ _=>0) ⟨#[],#[.slice none 0 0,.int .i64 0,.slice none 0 0,.slice none 0 0],[]⟩).memory:=
 laidMet_of_run' 8 kQ kQ
theorem reads (os:Os) {H:Type} (enc:TypeId×Value→H):∃places,DataW.whole enc Tryz.prog ((mO os).forCall (λ_ _=>0) ⟨#[],#[.slice none 0 0,.int .i64 0,.slice none 0 0,.slice none 0 0],[]⟩).memory Tryz.f3.params.toList Rows.topWordSpec.vars false (#[(.slice none 0 0:Value),(.int .i64 0:Value),(.slice none 0 0:Value),(.slice none 0 0:Value)]:Array Value).toList 8=some ([.nil,.lit (.int .i64 0),.nil,.nil],[],places):=
 ⟨[],kQ⟩
theorem lifted (os:Os) (started:os.Started) (H:Type) (enc:TypeId×Value→H) (F:Stop.Interp):
  ReturnsInHanded {} Tryz.checked os 3 .any ((OpenSpec.ofChange Rows.topWordSpec).preRow enc Tryz.prog Tryz.f3 Rows.topWordRow.domain false Rows.topWordRow.laid) (((OpenSpec.ofChange Rows.topWordSpec).at F).post enc Tryz.prog Tryz.f3 false true false false):=by
 obtain⟨places,hx⟩:=reads os enc
 refine returnsInHanded_of_row (C:=Tryz.checked) (s:=OpenSpec.ofChange Rows.topWordSpec) own started kQ Tryz.func3
  (witness_row_at (enc:=enc) (C:=Tryz.checked) false (mO os) #[.slice none 0 0,.int .i64 0,.slice none 0 0,.slice none 0 0] rfl kQ kQ kQ
   (OpenSpec.preRow_of_cond 8 hx kQ (λk hk=>by cases hk) kQ (FT os))) ?_
 intro W base args ds gs before jy hW _ _ _ hL _ _;exact contract H enc W base args ds gs before jy hW hL
theorem said:Rows.TopWordSaid:=
 OpenClaim.holds_of_cond 3 Tryz.f3 rfl rfl rfl rfl rfl rfl rfl ⟨rfl,rfl,rfl,rfl,rfl⟩ rfl rfl rfl rfl rfl ajm Tryz.func3 Rt
  (of_decide_eq_true kQ) (by unfold Func.isWrapper;first|(rw[if_pos (by decide+kernel)];kernel_rfl)|(rw[if_neg (by decide+kernel)];exact⟨rfl,rfl⟩))
  (λos started H enc _ F=>by rw[OpenClaim.pre_eq_preRow];exact lifted os started H enc F)
theorem plain (f:FuncId) (fn:Func) (hf:Tryz.pinned.checked.prog.funcNamed "harrow/harrowtop.TopWord" =some f) (lN:Tryz.pinned.checked.prog.funcs[f]? =some fn):
  true=Tryz.pinned.checked.prog.looks []∧∀(j:Nat) t,fn.params[j]? =some t→Tryz.pinned.checked.prog.wantsStandIn t=false:=by
 obtain rfl:f=3:=zau ((show Tryz.prog.funcNamed "harrow/harrowtop.TopWord" =some 3 by kernel_rfl).symm.trans hf) |>.symm;obtain rfl:fn=Tryz.f3:=(zau (Tryz.func3.symm.trans lN)).symm;refine⟨kQ,λj t ht=>?_⟩;have iw:Tryz.f3.params.toList.all (λt=> !Tryz.prog.wantsStandIn t)=true:=kQ
 have hm:t∈Tryz.f3.params.toList:=by simpa using Array.mem_of_getElem? ht
 have:=qU.1 iw t hm;have h2:Tryz.prog.wantsStandIn t=false:=by simpa using this
 exact h2
theorem proved:Rows.TopWordCardSaid:=
 Claim7.holds_tied_plain_at .later [] _ _ _ _ said (λ_ h=>by cases h) kQ (λ_ h=>by cases h) topWord_row_tie rfl ⟨rfl,rfl⟩ kQ rfl plain kQ
end Go.Proofs.YtdjdpeadohobmaaGreatDoor.topWord
