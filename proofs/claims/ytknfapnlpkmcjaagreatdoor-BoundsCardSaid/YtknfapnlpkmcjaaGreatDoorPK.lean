/- bounds_ok walks the law Bounds: whatever the text and the policy, invariants.Analyze in Intervals and the document's Analyze give the same facts, sites, error and place. No condition. -/
import Derived.Test.YtknfapnlpkmcjaaGreatDoorPF
import Derived.Test.YtknfapnlpkmcjaaGreatDoorPJ
import Derived.Test.YtknfapnlpkmcjaaGreatDoorPA
set_option linter.all false
set_option maxRecDepth 100000
set_option maxHeartbeats 32000000
namespace Go.Proofs.YtknfapnlpkmcjaaGreatDoor.bounds
open Go.ChangeShapes Go.WideShapes Go.ChangeAt Go.RowKit Go.ChangeMaps Go.Sh Go.Inv cards
theorem tabs_of_laid{W:World}(h:laidMetH Tryz.prog Rows.boundsRow.laid W):TabsS W:=by
 have h':laidMet Tryz.prog [("invariants/tree.rels",Rows.laid_invariants_tree_rels)] W∧handlesMet Tryz.prog [("errors.errorType",Rows.laid_errors_errorType)] W:=h;exact tabsS_of h'.1 h'.2
theorem contract(H:Type)(enc:TypeId×Value→H)(W:World)(base:Nat)(args:Array Value)(ds gs:List (DataW H))(before:List MemPlace)
 (hval:∀(j:Nat) t v,Tryz.f9.params[j]?=some t→args[j]?=some v→Value.okWide Tryz.prog W .any base t v)
 (hW:DataW.Whole enc Tryz.prog Tryz.f9.params.toList Rows.boundsSpec.vars false W args.toList ds gs before)(hL:laidMetH Tryz.prog Rows.boundsRow.laid W):
 Calls Tryz.prog 9 args W fun e W'=>∃v,e= .returned v∧Rows.boundsSpec.post enc Tryz.prog Tryz.f9 false true false false W args v W':=by
 have hW':=hW;obtain⟨p,q,hA0,hV,rfl,hfz,hnd⟩:=hW;have hA:DataW.TrodAll enc Tryz.prog W 0 (fun _=>true) true Tryz.f9.params.toList args.toList ds p:=hA0;rw[Tryz.params9]at hA hval;obtain⟨v0,vs0,d0,ds0,p0,q0,hargs,rfl,rfl,h0,r0⟩:=trodAll_cons hA;obtain⟨v1,vs1,d1,ds1,p1,q1,hargs1,rfl,rfl,h1,r1⟩:=trodAll_cons r0;obtain⟨v2,vs2,d2,ds2,p2,q2,hargs2,rfl,rfl,h2,r2⟩:=trodAll_cons r1;obtain⟨v3,vs3,d3,ds3,p3,q3,hargs3,rfl,rfl,h3,r3⟩:=trodAll_cons r2;obtain⟨v4,vs4,d4,ds4,p4,q4,hargs4,rfl,rfl,h4,r4⟩:=trodAll_cons r3;obtain⟨rfl,rfl,rfl⟩:=trodAll_nil r4;subst hargs1 hargs2 hargs3 hargs4;obtain rfl:args=#[v0,v1,v2,v3,v4]:=by cases args;simp_all
 obtain⟨rfl,rfl⟩:=trodVars_none hV;obtain⟨s0,rfl,rfl,rfl,hs0⟩:=open_string Tryz.underlying9 (hval 0 9 v0 rfl rfl) h0;obtain⟨m1,rfl,rfl,rfl,hm1⟩:=open_int Tryz.underlying3 (hval 1 3 v1 rfl rfl) h1;obtain⟨m2,rfl,rfl,rfl,hm2⟩:=open_int Tryz.underlying3 (hval 2 3 v2 rfl rfl) h2;obtain⟨m3,rfl,rfl,rfl,hm3⟩:=open_int Tryz.underlying3 (hval 3 3 v3 rfl rfl) h3;obtain⟨b4,rfl,rfl,rfl⟩:=open_bool Tryz.underlying4 (hval 4 4 v4 rfl rfl) h4;have ht:=tabs_of_laid hL;clear hA0;simp only[List.append_nil,List.nil_append]at hW'⊢;have walk:=D1w (src:=s0.data.toList) (q1:=m1) (q2:=m2) (q3:=m3) (t:=b4) ht.rel ht.err;rw[S_list]at walk;refine walk.mono fun e W' ⟨ho,he⟩=>?_;subst he;have e1:Rows.boundsSpec.fn H ([.lit (.string s0.data.toList),.lit (.int .i64 m1),.lit (.int .i64 m2),.lit (.int .i64 m3),.lit (.bool b4)]++[])={results:=[.lit (.bool true)],args:=[.lit (.string s0.data.toList),.lit (.int .i64 m1),.lit (.int .i64 m2),.lit (.int .i64 m3),.lit (.bool b4)]}:=rfl;refine⟨_,rfl,_,_,_,[],[],[],hW',?_,?_,?_,kept_of_old ho _,fun h=>by cases h⟩
 ·rw[e1];exact trodAll_mk1 (shut_bool Tryz.underlying4 true)
 ·rw[e1];have:=(trodAll_cons_mk (shut_string (enc:=enc) (P:=Tryz.prog) (w:=W') (base:=0) (sp:=fun b=>decide (b<W.heap.size)) (held:=true) Tryz.underlying9 hs0) (trodAll_cons_mk (shut_int Tryz.underlying3 hm1) (trodAll_cons_mk (shut_int Tryz.underlying3 hm2) (trodAll_cons_mk (shut_int Tryz.underlying3 hm3) (trodAll_cons_mk (shut_bool Tryz.underlying4 b4) trodAll_mk0)))));simpa[Tryz.params9]using this
 ·rw[e1];rfl
noncomputable def wArgs:Array Value:=#[.string ⟨#[]⟩,.int .i64 0,.int .i64 0,.int .i64 0,.bool false]
theorem laid_met(os:Os):laidMetH Tryz.prog Rows.boundsRow.laid ((laidWorld os).forCall (fun _ _=>0) ⟨#[],wArgs,[]⟩).memory:=
 laidMetH_of_parts (laidMet_of_run' 8 kr kr) kr
theorem reads(os:Os){H:Type}(enc:TypeId×Value→H):∃places,DataW.whole enc Tryz.prog ((laidWorld os).forCall (fun _ _=>0) ⟨#[],wArgs,[]⟩).memory Tryz.f9.params.toList Rows.boundsSpec.vars false wArgs.toList 8=some ([.lit (.string []),.lit (.int .i64 0),.lit (.int .i64 0),.lit (.int .i64 0),.lit (.bool false)],[],places):=
 ⟨[],kr⟩
theorem lifted(os:Os)(started:os.Started)(H:Type)(enc:TypeId×Value→H)(F:Stop.Interp):
 ReturnsInHanded {} Tryz.checked os 9 .any ((OpenSpec.ofChange Rows.boundsSpec).preRow enc Tryz.prog Tryz.f9 Rows.boundsRow.domain false Rows.boundsRow.laid) (((OpenSpec.ofChange Rows.boundsSpec).at F).post enc Tryz.prog Tryz.f9 false true false false):=by
 obtain⟨places,hx⟩:=reads os enc
 refine returnsInHanded_of_row (C:=Tryz.checked) (s:=OpenSpec.ofChange Rows.boundsSpec) own started kr Tryz.func9
  (witness_row_at (enc:=enc) (C:=Tryz.checked) false (laidWorld os) wArgs rfl kr kr kr
   (OpenSpec.preRow_of_cond 8 hx kr (fun k hk=>by cases hk) kr (laid_met os))) ?_
 intro W base args ds gs before hval hW _ _ _ hL _ _;exact contract H enc W base args ds gs before hval hW hL
theorem said:Rows.BoundsSaid:=
 OpenClaim.holds_of_cond 9 Tryz.f9 rfl rfl rfl rfl rfl rfl rfl ⟨rfl,rfl,rfl,rfl,rfl⟩ rfl rfl rfl rfl rfl kr Tryz.func9 closed
  (of_decide_eq_true kr) (by unfold Func.isWrapper;first|(rw[if_pos (by decide+kernel)];kernel_rfl)|(rw[if_neg (by decide+kernel)];exact⟨rfl,rfl⟩))
  (fun os started H enc _ F=>by rw[OpenClaim.pre_eq_preRow];exact lifted os started H enc F)
theorem plain(f:FuncId)(fn:Func)(hf:Tryz.pinned.checked.prog.funcNamed "invariants/invariantslaw.Bounds" =some f)(hfn:Tryz.pinned.checked.prog.funcs[f]?=some fn):
 true=Tryz.pinned.checked.prog.looks []∧∀(j:Nat) t,fn.params[j]?=some t→Tryz.pinned.checked.prog.wantsStandIn t=false:=by
 obtain rfl:f=9:=Option.some.inj ((show Tryz.prog.funcNamed "invariants/invariantslaw.Bounds" =some 9 by kernel_rfl).symm.trans hf)|>.symm
 obtain rfl:fn=Tryz.f9:=(Option.some.inj (Tryz.func9.symm.trans hfn)).symm;refine⟨kr,fun j t ht=>?_⟩;rw[Tryz.params9]at ht;have hm:t=9∨t=3∨t=4:=by
  have:=Array.mem_of_getElem? ht;simpa using this
 rcases hm with rfl|rfl|rfl
 ·exact(show Tryz.prog.wantsStandIn 9=false by kernel_rfl)
 ·exact(show Tryz.prog.wantsStandIn 3=false by kernel_rfl)
 ·exact(show Tryz.prog.wantsStandIn 4=false by kernel_rfl)
theorem card:Rows.BoundsCardSaid:=
 Claim7.holds_tied_plain_at .later [] _ _ _ _ said (fun _ h=>by cases h) kr (fun _ h=>by cases h) bounds_row_tie rfl ⟨rfl,rfl⟩ kr rfl plain kr
#print axioms card
end Go.Proofs.YtknfapnlpkmcjaaGreatDoor.bounds
