/- Part 10 of 11 of the proof: the lemmas and contracts of LOrdF .. LOrdF. -/
import Derived.Test.YtbjaehfboanglaaGreatDoorWAI
set_option linter.unusedVariables false
set_option linter.unusedSimpArgs false
namespace Go.Proofs.YtbjaehfboanglaaGreatDoor
open Go Go.AL Go.ChangeShapes Go.WideShapes Go.ChangeAt Go.RowKit
set_option maxRecDepth 100000
theorem o0:(Rows.lassoOrderUptoRow.wf (OpenSpec.ofChange (Rows.OpenSpec.upto Rows.lassoOrderSpec).bare)) = true:=by kernel_rfl
theorem k1:(laidOutB Tryz.prog) = true:=by kernel_rfl
theorem k2:(mapsRowed Tryz.prog) = true:=by kernel_rfl
theorem o3:(Tryz.f6.params.all (Tryz.prog.readableRec ·)) = true:=by kernel_rfl
theorem o4:(namedTie Tryz.prog Rows.lassoOrderUptoRow.named (Rows.OpenSpec.upto Rows.lassoOrderSpec).bare.vars) = true:=by kernel_rfl
theorem o5:(Rows.lassoOrderUptoRow.stops == []) = true:=by kernel_rfl
theorem k6:(Tryz.prog.stops == []) = true:=by kernel_rfl
theorem o7:(Rows.lassoOrderUptoRow.knobs == []) = true:=by kernel_rfl
theorem k8:(Tryz.prog.stopKnobs == []) = true:=by kernel_rfl
theorem o9:(Rows.lassoOrderUptoRow.inPlace == Tryz.prog.inPlace 6) = true:=by kernel_rfl
theorem o10:(Rows.lassoOrderUptoRow.unfollowed == Tryz.prog.unfollowed 6) = true:=by kernel_rfl
theorem o11:(Rows.lassoOrderUptoRow.recurses == Tryz.prog.recurses 6) = true:=by kernel_rfl
theorem o12:(Rows.lassoOrderUptoRow.named == Tryz.prog.varsNamed 6) = true:=by kernel_rfl
theorem o13:(Rows.lassoOrderUptoRow.maps == (Tryz.f6.params.toList ++ (Rows.OpenSpec.upto Rows.lassoOrderSpec).bare.plain.varTypes Tryz.prog).any (Tryz.prog.mapsRec ·)) = true:=by kernel_rfl
theorem o14:(Rows.lassoOrderUptoRow.ifaces == (Tryz.f6.params.toList ++ (Rows.OpenSpec.upto Rows.lassoOrderSpec).bare.plain.varTypes Tryz.prog).any (Tryz.prog.ifacesRec ·)) = true:=by kernel_rfl
theorem o15:(Rows.lassoOrderUptoRow.mapsOut == Tryz.prog.mapsAmong Tryz.f6.resultTypes.toList) = true:=by kernel_rfl
theorem o16:(Rows.lassoOrderUptoRow.loops == (Tryz.f6.params.toList ++ (Rows.OpenSpec.upto Rows.lassoOrderSpec).bare.plain.varTypes Tryz.prog).any (Tryz.prog.loopsFrom ·)) = true:=by kernel_rfl
theorem o17:(Rows.lassoOrderUptoRow.wideKeys == (Tryz.f6.params.toList ++ (Rows.OpenSpec.upto Rows.lassoOrderSpec).bare.plain.varTypes Tryz.prog ++ Tryz.f6.resultTypes.toList).any (Tryz.prog.wideKeysFrom ·)) = true:=by kernel_rfl
theorem o18:((Rows.OpenSpec.upto Rows.lassoOrderSpec).bare.vars.all (Tryz.prog.varReadable ·)) = true:=by kernel_rfl
theorem o19:(Tryz.f6.resultTypes.all (fun t=>Tryz.prog.readableRec t && decide (t < Tryz.prog.types.size))) = true:=by kernel_rfl
theorem o20:(Rows.lassoOrderUptoRow.ifacesOut == Tryz.f6.resultTypes.toList.any (Tryz.prog.ifacesRec ·)) = true:=by kernel_rfl
theorem o21:(Rows.lassoOrderUptoRow.loopsOut == Tryz.f6.resultTypes.toList.any (Tryz.prog.loopsFrom ·)) = true:=by kernel_rfl
theorem o22:(Rows.lassoOrderUptoRow.plainKeys == Tryz.prog.plainKeys) = true:=by kernel_rfl
theorem o23:(Rows.lassoOrderUptoRow.shortTexts.isNone) = true:=by kernel_rfl
theorem k24:(Tryz.prog.stopsHeard) = true:=by kernel_rfl
theorem k25:(Tryz.prog.mayEnter) = true:=by kernel_rfl
theorem o26:(Rows.lassoOrderUptoRow.lifted == Tryz.prog.liftsFinal) = true:=by kernel_rfl
theorem o27:(Tryz.prog.make == some Rows.lassoOrderUptoRow.make) = true:=by kernel_rfl
theorem o28:(Rows.lassoOrderUptoRow.kinds == (if Rows.lassoOrderUptoRow.domain.isEmpty then [] else Tryz.f6.params.toList.map fun t=>match Tryz.prog.underlying t with | some (.int k)=>some k | _=>none)) = true:=by kernel_rfl
theorem o29:(Rows.lassoOrderUptoRow.pinned == Rows.lassoOrderUptoRow.pinnedBy) = true:=by kernel_rfl
theorem o30:(Rows.lassoOrderUptoRow.veiled == (Tryz.f6.params.toList ++ (Rows.OpenSpec.upto Rows.lassoOrderSpec).bare.plain.varTypes Tryz.prog ++ Tryz.f6.resultTypes.toList).any (Tryz.prog.veiledRec ·)) = true:=by kernel_rfl
theorem o31:(Rows.lassoOrderUptoRow.veiledFits Tryz.prog Tryz.f6.params.toList (Tryz.f6.params.toList ++ (Rows.OpenSpec.upto Rows.lassoOrderSpec).bare.plain.varTypes Tryz.prog ++ Tryz.f6.resultTypes.toList)) = true:=by kernel_rfl
theorem ofacts:joinedFacts Tryz.prog 6 Tryz.f6 (Rows.OpenSpec.upto Rows.lassoOrderSpec).bare Rows.lassoOrderUptoRow = true:=by
 unfold joinedFacts
 simp only [Bool.and_eq_true]
 exact ⟨⟨⟨⟨⟨⟨⟨⟨⟨⟨⟨⟨⟨⟨⟨⟨⟨⟨⟨⟨⟨⟨⟨⟨⟨⟨⟨⟨⟨⟨⟨o0,k1⟩,k2⟩,o3⟩,o4⟩,o5⟩,k6⟩,o7⟩,k8⟩,o9⟩,o10⟩,o11⟩,o12⟩,o13⟩,o14⟩,o15⟩,o16⟩,o17⟩,o18⟩,o19⟩,o20⟩,o21⟩,o22⟩,o23⟩,k24⟩,k25⟩,o26⟩,o27⟩,o28⟩,o29⟩,o30⟩,o31⟩
end Go.Proofs.YtbjaehfboanglaaGreatDoor
