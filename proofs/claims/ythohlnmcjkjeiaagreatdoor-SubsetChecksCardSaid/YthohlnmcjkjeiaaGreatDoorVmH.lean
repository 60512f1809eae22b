/- Seat 8: SubsetChecks: the row's closed facts, one by one. Conditions: none but those that each theorem names. -/
import Derived.Test.YthohlnmcjkjeiaaGreatDoorCards
import Derived.JoinedCond
import Derived.Test.YthohlnmcjkjeiaaGreatDoorVmA
namespace Go.Proofs.YthohlnmcjkjeiaaGreatDoor.SubsetChecks
set_option maxRecDepth 100000
open Go
theorem k0:(Rows.subsetChecksRow.wf (OpenSpec.ofChange (OpenSpec.ofChange Rows.subsetChecksSpec).bare))=true:=by kernel_rfl
theorem k1:(laidOutB Tryz.pinned.checked.prog)=true:=by kernel_rfl
theorem k2:(mapsRowed Tryz.pinned.checked.prog)=true:=by kernel_rfl
theorem k3:(Tryz.f7.params.all (Tryz.pinned.checked.prog.readableRec ·))=true:=by kernel_rfl
theorem k4:(namedTie Tryz.pinned.checked.prog Rows.subsetChecksRow.named (OpenSpec.ofChange Rows.subsetChecksSpec).bare.vars)=true:=by kernel_rfl
theorem k5:((Rows.subsetChecksRow.stops == []))=true:=by kernel_rfl
theorem k6:((Tryz.pinned.checked.prog.stops == []))=true:=by kernel_rfl
theorem k7:((Rows.subsetChecksRow.knobs == []))=true:=by kernel_rfl
theorem k8:((Tryz.pinned.checked.prog.stopKnobs == []))=true:=by kernel_rfl
theorem k9:((Rows.subsetChecksRow.inPlace == Tryz.pinned.checked.prog.inPlace 7))=true:=by kernel_rfl
theorem k10:((Rows.subsetChecksRow.unfollowed == Tryz.pinned.checked.prog.unfollowed 7))=true:=by kernel_rfl
theorem k11:((Rows.subsetChecksRow.recurses == Tryz.pinned.checked.prog.recurses 7))=true:=by kernel_rfl
theorem k12:((Rows.subsetChecksRow.named == Tryz.pinned.checked.prog.varsNamed 7))=true:=by kernel_rfl
theorem k13:((Rows.subsetChecksRow.maps == (Tryz.f7.params.toList++(OpenSpec.ofChange Rows.subsetChecksSpec).bare.plain.varTypes Tryz.pinned.checked.prog).any (Tryz.pinned.checked.prog.mapsRec ·)))=true:=by kernel_rfl
theorem k14:((Rows.subsetChecksRow.ifaces == (Tryz.f7.params.toList++(OpenSpec.ofChange Rows.subsetChecksSpec).bare.plain.varTypes Tryz.pinned.checked.prog).any (Tryz.pinned.checked.prog.ifacesRec ·)))=true:=by kernel_rfl
theorem k15:((Rows.subsetChecksRow.mapsOut == Tryz.pinned.checked.prog.mapsAmong Tryz.f7.resultTypes.toList))=true:=by kernel_rfl
theorem k16:((Rows.subsetChecksRow.loops == (Tryz.f7.params.toList++(OpenSpec.ofChange Rows.subsetChecksSpec).bare.plain.varTypes Tryz.pinned.checked.prog).any (Tryz.pinned.checked.prog.loopsFrom ·)))=true:=by kernel_rfl
theorem k17:((Rows.subsetChecksRow.wideKeys == (Tryz.f7.params.toList++(OpenSpec.ofChange Rows.subsetChecksSpec).bare.plain.varTypes Tryz.pinned.checked.prog++Tryz.f7.resultTypes.toList).any (Tryz.pinned.checked.prog.wideKeysFrom ·)))=true:=by kernel_rfl
theorem k18:((OpenSpec.ofChange Rows.subsetChecksSpec).bare.vars.all (Tryz.pinned.checked.prog.varReadable ·))=true:=by kernel_rfl
theorem k19:(Tryz.f7.resultTypes.all (fun t=>Tryz.pinned.checked.prog.readableRec t && decide (t<Tryz.pinned.checked.prog.types.size)))=true:=by kernel_rfl
theorem k20:((Rows.subsetChecksRow.ifacesOut == Tryz.f7.resultTypes.toList.any (Tryz.pinned.checked.prog.ifacesRec ·)))=true:=by kernel_rfl
theorem k21:((Rows.subsetChecksRow.loopsOut == Tryz.f7.resultTypes.toList.any (Tryz.pinned.checked.prog.loopsFrom ·)))=true:=by kernel_rfl
theorem k22:((Rows.subsetChecksRow.plainKeys == Tryz.pinned.checked.prog.plainKeys))=true:=by kernel_rfl
theorem k23:(Rows.subsetChecksRow.shortTexts.isNone)=true:=by kernel_rfl
theorem k24:(Tryz.pinned.checked.prog.stopsHeard)=true:=by kernel_rfl
theorem k25:(Tryz.pinned.checked.prog.mayEnter)=true:=by kernel_rfl
theorem k26:((Rows.subsetChecksRow.lifted == Tryz.pinned.checked.prog.liftsFinal))=true:=by kernel_rfl
theorem k27:((Tryz.pinned.checked.prog.make == some Rows.subsetChecksRow.make))=true:=by kernel_rfl
theorem k28:((Rows.subsetChecksRow.kinds == (if Rows.subsetChecksRow.domain.isEmpty then [] else Tryz.f7.params.toList.map fun t=>match Tryz.pinned.checked.prog.underlying t with|some (.int k)=>some k|_=>none)))=true:=by kernel_rfl
theorem k29:((Rows.subsetChecksRow.pinned == Rows.subsetChecksRow.pinnedBy))=true:=by kernel_rfl
theorem k30:((Rows.subsetChecksRow.veiled == (Tryz.f7.params.toList++(OpenSpec.ofChange Rows.subsetChecksSpec).bare.plain.varTypes Tryz.pinned.checked.prog++Tryz.f7.resultTypes.toList).any (Tryz.pinned.checked.prog.veiledRec ·)))=true:=by kernel_rfl
theorem k31:(Rows.subsetChecksRow.veiledFits Tryz.pinned.checked.prog Tryz.f7.params.toList (Tryz.f7.params.toList++(OpenSpec.ofChange Rows.subsetChecksSpec).bare.plain.varTypes Tryz.pinned.checked.prog++Tryz.f7.resultTypes.toList))=true:=by kernel_rfl
theorem qA {a b:Bool} (h:a=true) (k:b=true):(a && b)=true:=by rw [h,k];rfl
theorem facts:joinedFacts Tryz.pinned.checked.prog 7 Tryz.f7 (OpenSpec.ofChange Rows.subsetChecksSpec).bare Rows.subsetChecksRow=true:=qA (qA (qA (qA (qA (qA (qA (qA (qA (qA (qA (qA (qA (qA (qA (qA (qA (qA (qA (qA (qA (qA (qA (qA (qA (qA (qA (qA (qA (qA (qA k0 k1) k2) k3) k4) k5) k6) k7) k8) k9) k10) k11) k12) k13) k14) k15) k16) k17) k18) k19) k20) k21) k22) k23) k24) k25) k26) k27) k28) k29) k30) k31
theorem named:Tryz.pinned.checked.prog.funcNamed Rows.subsetChecksRow.func=some 7:=by kernel_rfl
end Go.Proofs.YthohlnmcjkjeiaaGreatDoor.SubsetChecks
