/- The statement 'TopRoom': for every input that can be read (and, where the row lists the package's table, as the program's text lays it) the law returns true, and each argument reads afterwards as it read before. No further condition. -/
import Derived.Test.YtdjdpeadohobmaaGreatDoorK34
import Derived.Test.YtdjdpeadohobmaaGreatDoorK44
import Derived.Test.YtdjdpeadohobmaaGreatDoorK47
import Derived.Test.YtdjdpeadohobmaaGreatDoorK48
import Derived.Test.YtdjdpeadohobmaaGreatDoorK49
import Derived.Test.YtdjdpeadohobmaaGreatDoorK50
set_option linter.unusedVariables false
set_option maxRecDepth 100000
set_option maxHeartbeats 20000000
namespace Go.Proofs.YtdjdpeadohobmaaGreatDoor.topRoom
open Go.ChangeShapes Go.WideShapes Go.ChangeAt Go.RowKit
open Go.ChangeMaps (open_string)
theorem contract (H:Type) (enc:TypeId×Value→H) (W:World) (base:Nat) (args:Array Value) (ds gs:List (DataW H)) (before:List MemPlace)
  (jy:∀(j:Nat) t v,Tryz.f4.params[j]? =some t→args[j]? =some v→Value.okWide Tryz.prog W .any base t v)
  (hW:DataW.Whole enc Tryz.prog Tryz.f4.params.toList Rows.topRoomSpec.vars false W args.toList ds gs before) (hL:laidMetH Tryz.prog Rows.topRoomRow.laid W):
  Calls Tryz.prog 4 args W λe W'=>∃v,e=.returned v∧Rows.topRoomSpec.post enc Tryz.prog Tryz.f4 false true false false W args v W':=by
 have hW':=hW;obtain⟨p,q,hA0,hV,rfl,hfz,yt⟩:=hW;have hA:DataW.TrodAll enc Tryz.prog W 0 (λ_=>true) true Tryz.f4.params.toList args.toList ds p:=hA0;rw[Tryz.params4] at hA jy;obtain⟨v0,vs0,d0,ds0,p0,q0,apT,rfl,rfl,h0,r0⟩:=trodAll_cons hA;obtain⟨v1,vs1,d1,ds1,p1,q1,rfl,rfl,rfl,h1,r1⟩:=trodAll_cons r0;obtain⟨rfl,rfl,rfl⟩:=trodAll_nil r1;obtain rfl:args=#[v0,v1]:=by cases args;simp_all
 obtain⟨rfl,rfl⟩:=trodVars_none hV;obtain⟨n0,rfl,hd0,_,w0⟩:=open_int Tryz.underlying3 (jy 0 3 v0 rfl rfl) h0;obtain⟨n1,rfl,X6,_,w1⟩:=open_int Tryz.underlying3 (jy 1 3 v1 rfl rfl) h1;refine(walk_TopRoom W (TR hL) n0 (Al w0) n1 (Al w1)).mono λe W' ⟨he,hg⟩=>?_;subst he;exact⟨_,rfl,LG Tryz.Oe kQ rfl rfl Tryz.underlying4 hW' rfl hg⟩
theorem FT (os:Os):laidMet Tryz.prog Rows.topRoomRow.laid ((mO os).forCall (λ_ _=>0) ⟨#[],#[.int .i64 0,.int .i64 0],[]⟩).memory:=
 laidMet_of_run' 8 kQ kQ
theorem reads (os:Os) {H:Type} (enc:TypeId×Value→H):∃places,DataW.whole enc Tryz.prog ((mO os).forCall (λ_ _=>0) ⟨#[],#[.int .i64 0,.int .i64 0],[]⟩).memory Tryz.f4.params.toList Rows.topRoomSpec.vars false (#[(.int .i64 0:Value),(.int .i64 0:Value)]:Array Value).toList 8=some ([.lit (.int .i64 0),.lit (.int .i64 0)],[],places):=
 ⟨[],kQ⟩
theorem lifted (os:Os) (started:os.Started) (H:Type) (enc:TypeId×Value→H) (F:Stop.Interp):
  ReturnsInHanded {} Tryz.checked os 4 .any ((OpenSpec.ofChange Rows.topRoomSpec).preRow enc Tryz.prog Tryz.f4 Rows.topRoomRow.domain false Rows.topRoomRow.laid) (((OpenSpec.ofChange Rows.topRoomSpec).at F).post enc Tryz.prog Tryz.f4 false true false false):=by
 obtain⟨places,hx⟩:=reads os enc
 refine returnsInHanded_of_row (C:=Tryz.checked) (s:=OpenSpec.ofChange Rows.topRoomSpec) own started kQ Tryz.func4
  (witness_row_at (enc:=enc) (C:=Tryz.checked) false (mO os) #[.int .i64 0,.int .i64 0] rfl kQ kQ kQ
   (OpenSpec.preRow_of_cond 8 hx kQ (λk hk=>by cases hk) kQ (FT os))) ?_
 intro W base args ds gs before jy hW _ _ _ hL _ _;exact contract H enc W base args ds gs before jy hW hL
theorem said:Rows.TopRoomSaid:=
 OpenClaim.holds_of_cond 4 Tryz.f4 rfl rfl rfl rfl rfl rfl rfl ⟨rfl,rfl,rfl,rfl,rfl⟩ rfl rfl rfl rfl rfl ajU Tryz.func4 Sr
  (of_decide_eq_true kQ) (by unfold Func.isWrapper;first|(rw[if_pos (by decide+kernel)];kernel_rfl)|(rw[if_neg (by decide+kernel)];exact⟨rfl,rfl⟩))
  (λos started H enc _ F=>by rw[OpenClaim.pre_eq_preRow];exact lifted os started H enc F)
theorem plain (f:FuncId) (fn:Func) (hf:Tryz.pinned.checked.prog.funcNamed "harrow/harrowtop.TopRoom" =some f) (lN:Tryz.pinned.checked.prog.funcs[f]? =some fn):
  true=Tryz.pinned.checked.prog.looks []∧∀(j:Nat) t,fn.params[j]? =some t→Tryz.pinned.checked.prog.wantsStandIn t=false:=by
 obtain rfl:f=4:=zau ((show Tryz.prog.funcNamed "harrow/harrowtop.TopRoom" =some 4 by kernel_rfl).symm.trans hf) |>.symm;obtain rfl:fn=Tryz.f4:=(zau (Tryz.func4.symm.trans lN)).symm;refine⟨kQ,λj t ht=>?_⟩;have iw:Tryz.f4.params.toList.all (λt=> !Tryz.prog.wantsStandIn t)=true:=kQ
 have hm:t∈Tryz.f4.params.toList:=by simpa using Array.mem_of_getElem? ht
 have:=qU.1 iw t hm;have h2:Tryz.prog.wantsStandIn t=false:=by simpa using this
 exact h2
theorem proved:Rows.TopRoomCardSaid:=
 Claim7.holds_tied_plain_at .later [] _ _ _ _ said (λ_ h=>by cases h) kQ (λ_ h=>by cases h) topRoom_row_tie rfl ⟨rfl,rfl⟩ kQ rfl plain kQ
end Go.Proofs.YtdjdpeadohobmaaGreatDoor.topRoom
