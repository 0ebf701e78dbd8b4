/-
  THE CLOSED FACTS OF THE ROW OF topBytes.
-/
import Derived.Test.YtdhakdifgcepoaaGreatDoorRows
import Derived.JoinedOf
import Derived.KernelRfl
/-
  THE CLOSED FACTS OF THE ROW OF topBytes.
-/
namespace Go.Cx
noncomputable section
open Go Go.Proofs Go.Proofs.YtdhakdifgcepoaaGreatDoor
theorem topBytes_j0 : (Rows.topBytesRow.wf (OpenSpec.ofChange Rows.topBytesSpec)) = true := by kernel_rfl
theorem topBytes_j1 : (laidOutB Tryz.prog) = true := by kernel_rfl
theorem topBytes_j2 : (mapsRowed Tryz.prog) = true := by kernel_rfl
theorem topBytes_j3 : (Tryz.f7.params.all (Tryz.prog.readableRec ·)) = true := by kernel_rfl
theorem topBytes_j4 : (namedTie Tryz.prog Rows.topBytesRow.named Rows.topBytesSpec.vars) = true := by kernel_rfl
theorem topBytes_j5 : ((Rows.topBytesRow.stops == [])) = true := by kernel_rfl
theorem topBytes_j6 : ((Tryz.prog.stops == [])) = true := by kernel_rfl
theorem topBytes_j7 : ((Rows.topBytesRow.knobs == [])) = true := by kernel_rfl
theorem topBytes_j8 : ((Tryz.prog.stopKnobs == [])) = true := by kernel_rfl
theorem topBytes_j9 : ((Rows.topBytesRow.inPlace == Tryz.prog.inPlace 7)) = true := by kernel_rfl
theorem topBytes_j10 : ((Rows.topBytesRow.unfollowed == Tryz.prog.unfollowed 7)) = true := by kernel_rfl
theorem topBytes_j11 : ((Rows.topBytesRow.recurses == Tryz.prog.recurses 7)) = true := by kernel_rfl
theorem topBytes_j12 : ((Rows.topBytesRow.named == Tryz.prog.varsNamed 7)) = true := by kernel_rfl
theorem topBytes_j13 : ((Rows.topBytesRow.maps == (Tryz.f7.params.toList ++ Rows.topBytesSpec.plain.varTypes Tryz.prog).any (Tryz.prog.mapsRec ·))) = true := by kernel_rfl
theorem topBytes_j14 : ((Rows.topBytesRow.ifaces == (Tryz.f7.params.toList ++ Rows.topBytesSpec.plain.varTypes Tryz.prog).any (Tryz.prog.ifacesRec ·))) = true := by kernel_rfl
theorem topBytes_j15 : ((Rows.topBytesRow.mapsOut == Tryz.prog.mapsAmong Tryz.f7.resultTypes.toList)) = true := by kernel_rfl
theorem topBytes_j16 : ((Rows.topBytesRow.loops == (Tryz.f7.params.toList ++ Rows.topBytesSpec.plain.varTypes Tryz.prog).any (Tryz.prog.loopsFrom ·))) = true := by kernel_rfl
theorem topBytes_j17 : ((Rows.topBytesRow.wideKeys == (Tryz.f7.params.toList ++ Rows.topBytesSpec.plain.varTypes Tryz.prog ++ Tryz.f7.resultTypes.toList).any (Tryz.prog.wideKeysFrom ·))) = true := by kernel_rfl
theorem topBytes_j18 : (Rows.topBytesSpec.vars.all (Tryz.prog.varReadable ·)) = true := by kernel_rfl
theorem topBytes_j19 : (Tryz.f7.resultTypes.all (fun t => Tryz.prog.readableRec t && decide (t < Tryz.prog.types.size))) = true := by kernel_rfl
theorem topBytes_j20 : ((Rows.topBytesRow.ifacesOut == Tryz.f7.resultTypes.toList.any (Tryz.prog.ifacesRec ·))) = true := by kernel_rfl
theorem topBytes_j21 : ((Rows.topBytesRow.loopsOut == Tryz.f7.resultTypes.toList.any (Tryz.prog.loopsFrom ·))) = true := by kernel_rfl
theorem topBytes_j22 : ((Rows.topBytesRow.plainKeys == Tryz.prog.plainKeys)) = true := by kernel_rfl
theorem topBytes_j23 : (Rows.topBytesRow.shortTexts.isNone) = true := by kernel_rfl
theorem topBytes_j24 : (Tryz.prog.stopsHeard) = true := by kernel_rfl
theorem topBytes_j25 : (Tryz.prog.mayEnter) = true := by kernel_rfl
theorem topBytes_j26 : ((Rows.topBytesRow.lifted == Tryz.prog.liftsFinal)) = true := by kernel_rfl
theorem topBytes_j27 : ((Tryz.prog.make == some Rows.topBytesRow.make)) = true := by kernel_rfl
theorem topBytes_j28 : ((Rows.topBytesRow.kinds == (if Rows.topBytesRow.domain.isEmpty then [] else Tryz.f7.params.toList.map fun t => match Tryz.prog.underlying t with | some (.int k) => some k | _ => none))) = true := by kernel_rfl
theorem topBytes_j29 : ((Rows.topBytesRow.pinned == Rows.topBytesRow.pinnedBy)) = true := by kernel_rfl
theorem topBytes_j30 : ((Rows.topBytesRow.veiled == (Tryz.f7.params.toList ++ Rows.topBytesSpec.plain.varTypes Tryz.prog ++ Tryz.f7.resultTypes.toList).any (Tryz.prog.veiledRec ·))) = true := by kernel_rfl
theorem topBytes_j31 : (Rows.topBytesRow.veiledFits Tryz.prog Tryz.f7.params.toList (Tryz.f7.params.toList ++ Rows.topBytesSpec.plain.varTypes Tryz.prog ++ Tryz.f7.resultTypes.toList)) = true := by kernel_rfl
theorem band {a b : Bool} (h : a = true) (h1 : b = true) : (a && b) = true := by rw [h, h1]; rfl
set_option maxRecDepth 100000 in
theorem topBytes_joined : joinedFacts Tryz.prog 7 Tryz.f7 Rows.topBytesSpec Rows.topBytesRow = true := band (band (band (band (band (band (band (band (band (band (band (band (band (band (band (band (band (band (band (band (band (band (band (band (band (band (band (band (band (band (band topBytes_j0 topBytes_j1) topBytes_j2) topBytes_j3) topBytes_j4) topBytes_j5) topBytes_j6) topBytes_j7) topBytes_j8) topBytes_j9) topBytes_j10) topBytes_j11) topBytes_j12) topBytes_j13) topBytes_j14) topBytes_j15) topBytes_j16) topBytes_j17) topBytes_j18) topBytes_j19) topBytes_j20) topBytes_j21) topBytes_j22) topBytes_j23) topBytes_j24) topBytes_j25) topBytes_j26) topBytes_j27) topBytes_j28) topBytes_j29) topBytes_j30) topBytes_j31
theorem topBytes_named : Tryz.prog.funcNamed Rows.topBytesRow.func = some 7 := by kernel_rfl
theorem topBytes_inst : Tryz.f7.isInstance Tryz.prog Rows.topBytesRow.origin Rows.topBytesRow.targs := of_decide_eq_true (by kernel_rfl)
theorem topBytes_wrap : Tryz.f7.isWrapper Tryz.prog Rows.topBytesRow.wrapper Rows.topBytesRow.mainSum := by unfold Func.isWrapper; first | (rw [if_pos (by decide +kernel)]; kernel_rfl) | (rw [if_neg (by decide +kernel)]; exact ⟨rfl, rfl⟩)
end
end Go.Cx

