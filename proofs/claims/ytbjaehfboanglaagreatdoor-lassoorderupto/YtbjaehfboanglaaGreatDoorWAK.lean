/- Part 11 of 11 of the proof: LassoOrder returns true and every argument reads behind the call as it read before, for all arguments of bulk at most 1048576 (the second form of the statement). -/
import Derived.Test.YtbjaehfboanglaaGreatDoorWAJ
set_option linter.unusedVariables false
set_option linter.unusedSimpArgs false
namespace Go.Proofs.YtbjaehfboanglaaGreatDoor
open Go Go.AL Go.ChangeShapes Go.WideShapes Go.ChangeAt Go.RowKit
set_option maxRecDepth 100000
theorem order_contract (H:Type) (enc:TypeId×Value→H) (W:World) (base:Nat) (args:Array Value) (ds gs:List (DataW H)) (before:List MemPlace)
  (hval:∀ (j:Nat) t v,Tryz.f6.params[j]? = some t→args[j]? = some v→Value.okWide Tryz.prog W .any base t v)
  (hW:DataW.Whole enc Tryz.prog Tryz.f6.params.toList Rows.lassoOrderSpec.vars false W args.toList ds gs before) (hB:Rows.uptoSmall H (ds ++ gs) = true) :
  Calls Tryz.prog 6 args W fun e W'=>∃ v,e = .returned v∧Rows.lassoOrderSpec.post enc Tryz.prog Tryz.f6 false true false false W args v W':=by
 have hW':=hW
 obtain ⟨p,q,hA0,hV,rfl,hfz,hnd⟩:=hW
 have hA:DataW.TrodAll enc Tryz.prog W 0 (fun _=>true) true Tryz.f6.params.toList args.toList ds p:=hA0
 rw [Tryz.params6] at hA hval
 obtain ⟨v0,v1,v2,v3,d0,d1,d2,d3,p0,p1,p2,p3,rfl,rfl,rfl,h0,h1,h2,h3⟩:=trodAll_four hA
 obtain ⟨rfl,rfl⟩:=trodVars_none hV
 have hB:Rows.uptoBulkAll ([d0,d1,d2,d3] ++ [])≤1048576:=of_decide_eq_true hB
 simp only [List.cons_append,List.nil_append,Rows.uptoBulkAll] at hB
 obtain ⟨sp,a0,s0⟩:=open_spec (hval 0 27 v0 rfl rfl) h0 (by omega)
 obtain ⟨b,a1,s1⟩:=open_bounds (hval 1 31 v1 rfl rfl) h1 (by omega)
 obtain ⟨x,a2,s2⟩:=open_model (hval 2 37 v2 rfl rfl) h2 (by omega)
 obtain ⟨y,a3,s3⟩:=open_model (hval 3 37 v3 rfl rfl) h3 (by omega)
 obtain ⟨F,hF⟩:=l6 sp s0 b s1 x y s2 s3
 have walk:=c6 F sp b x y true hF [] 0 (C0 W) #[v0,v1,v2,v3] (C0_SR W) (VRL.cons' a0 (VRL.cons' a1 (VRL.cons' a2 (VRL.one a3))))
 refine (callsIn_wide.1 walk).mono fun e W' ⟨C',hw,hext,_,hend⟩=>?_
 subst hw
 obtain ⟨r,rfl,hr⟩:=hend
 simp only [VR] at hr
 subst hr
 have ho:=Old.of hext
 exact ⟨_,rfl,_,_,_,[],_,[],hW',trodAll_mk1 (shut_bool Tryz.underlying4 true),trodAll_mk4 (stay ho (by decide) h0) (stay ho (by decide) h1) (stay ho (by decide) h2) (stay ho (by decide) h3),rfl,ho.kept _,fun h=>by cases h⟩
def orderArgs:Array Value:=#[.agg #[.slice none 0 0,.slice none 0 0,.slice none 0 0,.slice none 0 0],.slice none 0 0,.agg #[.slice none 0 0,.int .i64 0,.slice none 0 0,.int .i64 0],.agg #[.slice none 0 0,.int .i64 0,.slice none 0 0,.int .i64 0]]
theorem order_met (os:Os):laidMetH Tryz.prog Rows.lassoOrderUptoRow.laid ((World.doorLaid Tryz.prog 24 os).forCall (fun _ _=>0) ⟨#[],orderArgs,[]⟩).memory:=
 laidMetH_of_parts3 (fuel:=8) (laidMet_of_run' 8 (by kernel_rfl) (by kernel_rfl)) (by kernel_rfl) (by kernel_rfl)
theorem order_reads (os:Os) {H:Type} (enc:TypeId×Value→H):∃ places,DataW.whole enc Tryz.prog ((World.doorLaid Tryz.prog 24 os).forCall (fun _ _=>0) ⟨#[],orderArgs,[]⟩).memory Tryz.f6.params.toList Rows.lassoOrderSpec.vars false orderArgs.toList 8 =
  some ([.agg [.nil,.nil,.nil,.nil],.nil,.agg [.agg [.nil,.lit (.int .i64 0)],.nil,.lit (.int .i64 0)],.agg [.agg [.nil,.lit (.int .i64 0)],.nil,.lit (.int .i64 0)]],[],places):=
 ⟨[],by kernel_rfl⟩
theorem order_lifted (os:Os) (started:os.Started) (H:Type) (enc:TypeId×Value→H) (F:Stop.Interp) :
  ReturnsInHanded {} Tryz.checked os 6 .any ((Rows.OpenSpec.upto Rows.lassoOrderSpec).preRow enc Tryz.prog Tryz.f6 Rows.lassoOrderUptoRow.domain false Rows.lassoOrderUptoRow.laid) (((Rows.OpenSpec.upto Rows.lassoOrderSpec).at F).post enc Tryz.prog Tryz.f6 false true false false):=by
 obtain ⟨places,hx⟩:=order_reads os enc
 refine returnsInHanded_of_row (C:=Tryz.checked) (s:=Rows.OpenSpec.upto Rows.lassoOrderSpec) Go.AL.own started (by kernel_rfl) Tryz.func6
  (witness_row_at (enc:=enc) (C:=Tryz.checked) false (World.doorLaid Tryz.prog 24 os) orderArgs rfl (by kernel_rfl) (by kernel_rfl) (by kernel_rfl)
   (OpenSpec.preRow_of_cond 8 hx (by kernel_rfl) (fun k hk=>by cases hk; kernel_rfl) (by kernel_rfl) (order_met os))) ?_
 intro W base args ds gs before hval hW _ hcond _ _ _ _
 exact order_contract H enc W base args ds gs before hval hW (hcond _ rfl)
theorem order_inst:Func.isInstance Tryz.prog Tryz.f6 Rows.lassoOrderUptoRow.origin Rows.lassoOrderUptoRow.targs:=of_decide_eq_true (by kernel_rfl)
theorem order_wrap:Func.isWrapper Tryz.prog Tryz.f6 Rows.lassoOrderUptoRow.wrapper Rows.lassoOrderUptoRow.mainSum:=by
 unfold Func.isWrapper; first | (rw [if_pos (by decide +kernel)]; kernel_rfl) | (rw [if_neg (by decide +kernel)]; exact ⟨rfl,rfl⟩)
theorem order_named : Tryz.prog.funcNamed "armature/armaturelaw18.LassoOrder" = some 6 := by kernel_rfl
theorem order_said:Rows.LassoOrderUptoSaid:=
 OpenClaim.holds_of_cond (p:=Tryz.pinned) 6 Tryz.f6 rfl rfl rfl rfl rfl rfl rfl ⟨rfl,rfl,rfl,rfl,rfl⟩ rfl rfl rfl rfl rfl order_named Tryz.func6 ofacts order_inst order_wrap
  (fun os started H enc _ F=>by rw [OpenClaim.pre_eq_preRow]; exact order_lifted os started H enc F)
theorem order_plain (f : FuncId) (fn : Func) (hf : Tryz.pinned.checked.prog.funcNamed "armature/armaturelaw18.LassoOrder" = some f) (hfn : Tryz.pinned.checked.prog.funcs[f]? = some fn) :
  true = Tryz.pinned.checked.prog.looks []∧∀ (j:Nat) t,fn.params[j]? = some t→Tryz.pinned.checked.prog.wantsStandIn t = false:=by
 obtain rfl : f = 6 := Option.some.inj ((show Tryz.prog.funcNamed "armature/armaturelaw18.LassoOrder" = some 6 by kernel_rfl).symm.trans hf) |>.symm
 obtain rfl:fn = Tryz.f6:=(Option.some.inj (Tryz.func6.symm.trans hfn)).symm
 refine ⟨by kernel_rfl,fun j t ht=>?_⟩
 rw [Tryz.params6] at ht
 have hm:t ∈ [27,31,37,37]:=by simpa using Array.mem_of_getElem? ht
 have hall:([27,31,37,37].all fun u=>!Tryz.prog.wantsStandIn u) = true:=by kernel_rfl
 exact (show Tryz.prog.wantsStandIn t = false by simpa using List.all_eq_true.1 hall t hm)
theorem order_wf:OpenClaim.wfByText (Rows.OpenSpec.upto Rows.lassoOrderSpec) Rows.lassoOrderUptoRow = true:=by kernel_rfl
theorem order_card:Rows.LassoOrderUptoCardSaid:=
 Claim7.holds_tied_plain_at .later [] _ _ _ _ order_said (fun _ h=>by cases h) order_wf (fun _ h=>by cases h) lassoOrderUpto_row_tie rfl ⟨rfl,rfl⟩ main_is rfl order_plain (row_goes _ rfl order_named)
#print axioms order_card
end Go.Proofs.YtbjaehfboanglaaGreatDoor
