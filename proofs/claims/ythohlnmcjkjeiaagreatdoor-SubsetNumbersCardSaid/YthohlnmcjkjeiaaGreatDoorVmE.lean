/- Seat 8: SubsetNumbers: the row's closed facts, one by one. Conditions: none but those named. -/
import Derived.Test.YthohlnmcjkjeiaaGreatDoorCards
import Derived.JoinedCond
import Derived.Test.YthohlnmcjkjeiaaGreatDoorVmA
namespace Go.Proofs.YthohlnmcjkjeiaaGreatDoor.SubsetNumbers
open Go.Proofs.Tryz
set_option maxRecDepth 100000
open Go
theorem k0:(Rows.subsetNumbersRow.wf (OpenSpec.ofChange (OpenSpec.ofChange Rows.subsetNumbersSpec).bare))=true:=by kernel_rfl
theorem k1:(laidOutB Tryz.pinned.checked.prog)=true:=by kernel_rfl
theorem k2:(mapsRowed Tryz.pinned.checked.prog)=true:=by kernel_rfl
theorem k3:(f5.params.all (Tryz.pinned.checked.prog.readableRec ·))=true:=by kernel_rfl
theorem k4:(namedTie Tryz.pinned.checked.prog Rows.subsetNumbersRow.named (OpenSpec.ofChange Rows.subsetNumbersSpec).bare.vars)=true:=by kernel_rfl
theorem k5:((Rows.subsetNumbersRow.stops == []))=true:=by kernel_rfl
theorem k6:((Tryz.pinned.checked.prog.stops == []))=true:=by kernel_rfl
theorem k7:((Rows.subsetNumbersRow.knobs == []))=true:=by kernel_rfl
theorem k8:((Tryz.pinned.checked.prog.stopKnobs == []))=true:=by kernel_rfl
theorem k9:((Rows.subsetNumbersRow.inPlace == Tryz.pinned.checked.prog.inPlace 5))=true:=by kernel_rfl
theorem k10:((Rows.subsetNumbersRow.unfollowed == Tryz.pinned.checked.prog.unfollowed 5))=true:=by kernel_rfl
theorem k11:((Rows.subsetNumbersRow.recurses == Tryz.pinned.checked.prog.recurses 5))=true:=by kernel_rfl
theorem k12:((Rows.subsetNumbersRow.named == Tryz.pinned.checked.prog.varsNamed 5))=true:=by kernel_rfl
theorem k13:((Rows.subsetNumbersRow.maps == (f5.params.toList++(OpenSpec.ofChange Rows.subsetNumbersSpec).bare.plain.varTypes Tryz.pinned.checked.prog).any (Tryz.pinned.checked.prog.mapsRec ·)))=true:=by kernel_rfl
theorem k14:((Rows.subsetNumbersRow.ifaces == (f5.params.toList++(OpenSpec.ofChange Rows.subsetNumbersSpec).bare.plain.varTypes Tryz.pinned.checked.prog).any (Tryz.pinned.checked.prog.ifacesRec ·)))=true:=by kernel_rfl
theorem k15:((Rows.subsetNumbersRow.mapsOut == Tryz.pinned.checked.prog.mapsAmong f5.resultTypes.toList))=true:=by kernel_rfl
theorem k16:((Rows.subsetNumbersRow.loops == (f5.params.toList++(OpenSpec.ofChange Rows.subsetNumbersSpec).bare.plain.varTypes Tryz.pinned.checked.prog).any (Tryz.pinned.checked.prog.loopsFrom ·)))=true:=by kernel_rfl
theorem k17:((Rows.subsetNumbersRow.wideKeys == (f5.params.toList++(OpenSpec.ofChange Rows.subsetNumbersSpec).bare.plain.varTypes Tryz.pinned.checked.prog++f5.resultTypes.toList).any (Tryz.pinned.checked.prog.wideKeysFrom ·)))=true:=by kernel_rfl
theorem k18:((OpenSpec.ofChange Rows.subsetNumbersSpec).bare.vars.all (Tryz.pinned.checked.prog.varReadable ·))=true:=by kernel_rfl
theorem k19:(f5.resultTypes.all (λt=>Tryz.pinned.checked.prog.readableRec t && decide (t<Tryz.pinned.checked.prog.types.size)))=true:=by kernel_rfl
theorem k20:((Rows.subsetNumbersRow.ifacesOut == f5.resultTypes.toList.any (Tryz.pinned.checked.prog.ifacesRec ·)))=true:=by kernel_rfl
theorem k21:((Rows.subsetNumbersRow.loopsOut == f5.resultTypes.toList.any (Tryz.pinned.checked.prog.loopsFrom ·)))=true:=by kernel_rfl
theorem k22:((Rows.subsetNumbersRow.plainKeys == Tryz.pinned.checked.prog.plainKeys))=true:=by kernel_rfl
theorem k23:(Rows.subsetNumbersRow.shortTexts.isNone)=true:=by kernel_rfl
theorem k24:(Tryz.pinned.checked.prog.stopsHeard)=true:=by kernel_rfl
theorem k25:(Tryz.pinned.checked.prog.mayEnter)=true:=by kernel_rfl
theorem k26:((Rows.subsetNumbersRow.lifted == Tryz.pinned.checked.prog.liftsFinal))=true:=by kernel_rfl
theorem k27:((Tryz.pinned.checked.prog.make == some Rows.subsetNumbersRow.make))=true:=by kernel_rfl
theorem k28:((Rows.subsetNumbersRow.kinds == (if Rows.subsetNumbersRow.domain.isEmpty then [] else f5.params.toList.map λt=>match Tryz.pinned.checked.prog.underlying t with|some (.int k)=>some k|_=>none)))=true:=by kernel_rfl
theorem k29:((Rows.subsetNumbersRow.pinned == Rows.subsetNumbersRow.pinnedBy))=true:=by kernel_rfl
theorem k30:((Rows.subsetNumbersRow.veiled == (f5.params.toList++(OpenSpec.ofChange Rows.subsetNumbersSpec).bare.plain.varTypes Tryz.pinned.checked.prog++f5.resultTypes.toList).any (Tryz.pinned.checked.prog.veiledRec ·)))=true:=by kernel_rfl
theorem k31:(Rows.subsetNumbersRow.veiledFits Tryz.pinned.checked.prog f5.params.toList (f5.params.toList++(OpenSpec.ofChange Rows.subsetNumbersSpec).bare.plain.varTypes Tryz.pinned.checked.prog++f5.resultTypes.toList))=true:=by kernel_rfl
theorem kx{a b:Bool}(h:a=true)(k:b=true):(a && b)=true:=by rw[h,k];rfl
theorem facts:joinedFacts Tryz.pinned.checked.prog 5 f5 (OpenSpec.ofChange Rows.subsetNumbersSpec).bare Rows.subsetNumbersRow=true:=kx (kx (kx (kx (kx (kx (kx (kx (kx (kx (kx (kx (kx (kx (kx (kx (kx (kx (kx (kx (kx (kx (kx (kx (kx (kx (kx (kx (kx (kx (kx k0 k1) k2) k3) k4) k5) k6) k7) k8) k9) k10) k11) k12) k13) k14) k15) k16) k17) k18) k19) k20) k21) k22) k23) k24) k25) k26) k27) k28) k29) k30) k31
theorem named:Tryz.pinned.checked.prog.funcNamed Rows.subsetNumbersRow.func=some 5:=by kernel_rfl
end Go.Proofs.YthohlnmcjkjeiaaGreatDoor.SubsetNumbers
