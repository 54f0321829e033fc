/- Of two times, one behind the other, what is told are both parts; more matchers tell no more entries (QueryParts), for every input, over the program's text with its listed variables tied. Part 11 of 12. -/
import Derived.Test.YtekokhhgdhikpaaGreatDoorRows
import Derived.JoinedOf
set_option linter.unusedSimpArgs false
set_option linter.unusedVariables false
set_option linter.unusedSectionVars false
namespace Go.Proofs.YtekokhhgdhikpaaGreatDoor
set_option maxRecDepth 100000
theorem qpj0 : (Rows.queryPartsRow.wf (OpenSpec.ofChange Rows.queryPartsSpec)) = true := by kernel_rfl
theorem qpj1 : (laidOutB Tryz.prog) = true := by kernel_rfl
theorem qpj2 : (mapsRowed Tryz.prog) = true := by kernel_rfl
theorem qpj3 : (Tryz.f3.params.all (Tryz.prog.readableRec ·)) = true := by kernel_rfl
theorem qpj4 : (namedTie Tryz.prog Rows.queryPartsRow.named Rows.queryPartsSpec.vars) = true := by kernel_rfl
theorem qpj5 : ((Rows.queryPartsRow.stops == [])) = true := by kernel_rfl
theorem qpj6 : ((Tryz.prog.stops == [])) = true := by kernel_rfl
theorem qpj7 : ((Rows.queryPartsRow.knobs == [])) = true := by kernel_rfl
theorem qpj8 : ((Tryz.prog.stopKnobs == [])) = true := by kernel_rfl
theorem qpj9 : ((Rows.queryPartsRow.inPlace == Tryz.prog.inPlace 3)) = true := by kernel_rfl
theorem qpj10 : ((Rows.queryPartsRow.unfollowed == Tryz.prog.unfollowed 3)) = true := by kernel_rfl
theorem qpj11 : ((Rows.queryPartsRow.recurses == Tryz.prog.recurses 3)) = true := by kernel_rfl
theorem qpj12 : ((Rows.queryPartsRow.named == Tryz.prog.varsNamed 3)) = true := by kernel_rfl
theorem qpj13 : ((Rows.queryPartsRow.maps == (Tryz.f3.params.toList ++ Rows.queryPartsSpec.plain.varTypes Tryz.prog).any (Tryz.prog.mapsRec ·))) = true := by kernel_rfl
theorem qpj14 : ((Rows.queryPartsRow.ifaces == (Tryz.f3.params.toList ++ Rows.queryPartsSpec.plain.varTypes Tryz.prog).any (Tryz.prog.ifacesRec ·))) = true := by kernel_rfl
theorem qpj15 : ((Rows.queryPartsRow.mapsOut == Tryz.prog.mapsAmong Tryz.f3.resultTypes.toList)) = true := by kernel_rfl
theorem qpj16 : ((Rows.queryPartsRow.loops == (Tryz.f3.params.toList ++ Rows.queryPartsSpec.plain.varTypes Tryz.prog).any (Tryz.prog.loopsFrom ·))) = true := by kernel_rfl
theorem qpj17 : ((Rows.queryPartsRow.wideKeys == (Tryz.f3.params.toList ++ Rows.queryPartsSpec.plain.varTypes Tryz.prog ++ Tryz.f3.resultTypes.toList).any (Tryz.prog.wideKeysFrom ·))) = true := by kernel_rfl
theorem qpj18 : (Rows.queryPartsSpec.vars.all (Tryz.prog.varReadable ·)) = true := by kernel_rfl
theorem qpj19 : (Tryz.f3.resultTypes.all (fun t => Tryz.prog.readableRec t && decide (t < Tryz.prog.types.size))) = true := by kernel_rfl
theorem qpj20 : ((Rows.queryPartsRow.ifacesOut == Tryz.f3.resultTypes.toList.any (Tryz.prog.ifacesRec ·))) = true := by kernel_rfl
theorem qpj21 : ((Rows.queryPartsRow.loopsOut == Tryz.f3.resultTypes.toList.any (Tryz.prog.loopsFrom ·))) = true := by kernel_rfl
theorem qpj22 : ((Rows.queryPartsRow.plainKeys == Tryz.prog.plainKeys)) = true := by kernel_rfl
theorem qpj23 : (Rows.queryPartsRow.shortTexts.isNone) = true := by kernel_rfl
theorem qpj24 : (Tryz.prog.stopsHeard) = true := by kernel_rfl
theorem qpj25 : (Tryz.prog.mayEnter) = true := by kernel_rfl
theorem qpj26 : ((Rows.queryPartsRow.lifted == Tryz.prog.liftsFinal)) = true := by kernel_rfl
theorem qpj27 : ((Tryz.prog.make == some Rows.queryPartsRow.make)) = true := by kernel_rfl
theorem qpj28 : ((Rows.queryPartsRow.kinds == (if Rows.queryPartsRow.domain.isEmpty then [] else Tryz.f3.params.toList.map fun t => match Tryz.prog.underlying t with | some (.int k) => some k | _ => none))) = true := by kernel_rfl
theorem qpj29 : ((Rows.queryPartsRow.pinned == Rows.queryPartsRow.pinnedBy)) = true := by kernel_rfl
theorem qpj30 : ((Rows.queryPartsRow.veiled == (Tryz.f3.params.toList ++ Rows.queryPartsSpec.plain.varTypes Tryz.prog ++ Tryz.f3.resultTypes.toList).any (Tryz.prog.veiledRec ·))) = true := by kernel_rfl
theorem qpj31 : (Rows.queryPartsRow.veiledFits Tryz.prog Tryz.f3.params.toList (Tryz.f3.params.toList ++ Rows.queryPartsSpec.plain.varTypes Tryz.prog ++ Tryz.f3.resultTypes.toList)) = true := by kernel_rfl
theorem qp_and {a b : Bool} (h : a = true) (k : b = true) : (a && b) = true := by rw [h, k]; rfl
theorem qp_closed : joinedFacts Tryz.prog 3 Tryz.f3 Rows.queryPartsSpec Rows.queryPartsRow = true := (qp_and (qp_and (qp_and (qp_and (qp_and (qp_and (qp_and (qp_and (qp_and (qp_and (qp_and (qp_and (qp_and (qp_and (qp_and (qp_and (qp_and (qp_and (qp_and (qp_and (qp_and (qp_and (qp_and (qp_and (qp_and (qp_and (qp_and (qp_and (qp_and (qp_and (qp_and qpj0 qpj1) qpj2) qpj3) qpj4) qpj5) qpj6) qpj7) qpj8) qpj9) qpj10) qpj11) qpj12) qpj13) qpj14) qpj15) qpj16) qpj17) qpj18) qpj19) qpj20) qpj21) qpj22) qpj23) qpj24) qpj25) qpj26) qpj27) qpj28) qpj29) qpj30) qpj31)
end Go.Proofs.YtekokhhgdhikpaaGreatDoor
