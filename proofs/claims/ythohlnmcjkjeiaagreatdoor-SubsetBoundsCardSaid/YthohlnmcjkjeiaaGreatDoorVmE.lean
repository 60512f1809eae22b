/- Seat 8: SubsetBounds: the row's closed facts, one by one. Conditions: none but those named. -/
import Derived.Test.YthohlnmcjkjeiaaGreatDoorCards
import Derived.JoinedCond
import Derived.Test.YthohlnmcjkjeiaaGreatDoorVmA
namespace Go.Proofs.YthohlnmcjkjeiaaGreatDoor.SubsetBounds
open Go.Proofs.Tryz
set_option maxRecDepth 100000
open Go
theorem k0:(Rows.subsetBoundsRow.wf (OpenSpec.ofChange (OpenSpec.ofChange Rows.subsetBoundsSpec).bare))=true:=by kernel_rfl
theorem k1:(laidOutB Tryz.pinned.checked.prog)=true:=by kernel_rfl
theorem k2:(mapsRowed Tryz.pinned.checked.prog)=true:=by kernel_rfl
theorem k3:(f10.params.all (Tryz.pinned.checked.prog.readableRec ·))=true:=by kernel_rfl
theorem k4:(namedTie Tryz.pinned.checked.prog Rows.subsetBoundsRow.named (OpenSpec.ofChange Rows.subsetBoundsSpec).bare.vars)=true:=by kernel_rfl
theorem k5:((Rows.subsetBoundsRow.stops == []))=true:=by kernel_rfl
theorem k6:((Tryz.pinned.checked.prog.stops == []))=true:=by kernel_rfl
theorem k7:((Rows.subsetBoundsRow.knobs == []))=true:=by kernel_rfl
theorem k8:((Tryz.pinned.checked.prog.stopKnobs == []))=true:=by kernel_rfl
theorem k9:((Rows.subsetBoundsRow.inPlace == Tryz.pinned.checked.prog.inPlace 10))=true:=by kernel_rfl
theorem k10:((Rows.subsetBoundsRow.unfollowed == Tryz.pinned.checked.prog.unfollowed 10))=true:=by kernel_rfl
theorem k11:((Rows.subsetBoundsRow.recurses == Tryz.pinned.checked.prog.recurses 10))=true:=by kernel_rfl
theorem k12:((Rows.subsetBoundsRow.named == Tryz.pinned.checked.prog.varsNamed 10))=true:=by kernel_rfl
theorem k13:((Rows.subsetBoundsRow.maps == (f10.params.toList++(OpenSpec.ofChange Rows.subsetBoundsSpec).bare.plain.varTypes Tryz.pinned.checked.prog).any (Tryz.pinned.checked.prog.mapsRec ·)))=true:=by kernel_rfl
theorem k14:((Rows.subsetBoundsRow.ifaces == (f10.params.toList++(OpenSpec.ofChange Rows.subsetBoundsSpec).bare.plain.varTypes Tryz.pinned.checked.prog).any (Tryz.pinned.checked.prog.ifacesRec ·)))=true:=by kernel_rfl
theorem k15:((Rows.subsetBoundsRow.mapsOut == Tryz.pinned.checked.prog.mapsAmong f10.resultTypes.toList))=true:=by kernel_rfl
theorem k16:((Rows.subsetBoundsRow.loops == (f10.params.toList++(OpenSpec.ofChange Rows.subsetBoundsSpec).bare.plain.varTypes Tryz.pinned.checked.prog).any (Tryz.pinned.checked.prog.loopsFrom ·)))=true:=by kernel_rfl
theorem k17:((Rows.subsetBoundsRow.wideKeys == (f10.params.toList++(OpenSpec.ofChange Rows.subsetBoundsSpec).bare.plain.varTypes Tryz.pinned.checked.prog++f10.resultTypes.toList).any (Tryz.pinned.checked.prog.wideKeysFrom ·)))=true:=by kernel_rfl
theorem k18:((OpenSpec.ofChange Rows.subsetBoundsSpec).bare.vars.all (Tryz.pinned.checked.prog.varReadable ·))=true:=by kernel_rfl
theorem k19:(f10.resultTypes.all (λt=>Tryz.pinned.checked.prog.readableRec t && decide (t<Tryz.pinned.checked.prog.types.size)))=true:=by kernel_rfl
theorem k20:((Rows.subsetBoundsRow.ifacesOut == f10.resultTypes.toList.any (Tryz.pinned.checked.prog.ifacesRec ·)))=true:=by kernel_rfl
theorem k21:((Rows.subsetBoundsRow.loopsOut == f10.resultTypes.toList.any (Tryz.pinned.checked.prog.loopsFrom ·)))=true:=by kernel_rfl
theorem k22:((Rows.subsetBoundsRow.plainKeys == Tryz.pinned.checked.prog.plainKeys))=true:=by kernel_rfl
theorem k23:(Rows.subsetBoundsRow.shortTexts.isNone)=true:=by kernel_rfl
theorem k24:(Tryz.pinned.checked.prog.stopsHeard)=true:=by kernel_rfl
theorem k25:(Tryz.pinned.checked.prog.mayEnter)=true:=by kernel_rfl
theorem k26:((Rows.subsetBoundsRow.lifted == Tryz.pinned.checked.prog.liftsFinal))=true:=by kernel_rfl
theorem k27:((Tryz.pinned.checked.prog.make == some Rows.subsetBoundsRow.make))=true:=by kernel_rfl
theorem k28:((Rows.subsetBoundsRow.kinds == (if Rows.subsetBoundsRow.domain.isEmpty then [] else f10.params.toList.map λt=>match Tryz.pinned.checked.prog.underlying t with|some (.int k)=>some k|_=>none)))=true:=by kernel_rfl
theorem k29:((Rows.subsetBoundsRow.pinned == Rows.subsetBoundsRow.pinnedBy))=true:=by kernel_rfl
theorem k30:((Rows.subsetBoundsRow.veiled == (f10.params.toList++(OpenSpec.ofChange Rows.subsetBoundsSpec).bare.plain.varTypes Tryz.pinned.checked.prog++f10.resultTypes.toList).any (Tryz.pinned.checked.prog.veiledRec ·)))=true:=by kernel_rfl
theorem k31:(Rows.subsetBoundsRow.veiledFits Tryz.pinned.checked.prog f10.params.toList (f10.params.toList++(OpenSpec.ofChange Rows.subsetBoundsSpec).bare.plain.varTypes Tryz.pinned.checked.prog++f10.resultTypes.toList))=true:=by kernel_rfl
theorem kp{a b:Bool}(h:a=true)(k:b=true):(a && b)=true:=by rw[h,k];rfl
theorem facts:joinedFacts Tryz.pinned.checked.prog 10 f10 (OpenSpec.ofChange Rows.subsetBoundsSpec).bare Rows.subsetBoundsRow=true:=kp (kp (kp (kp (kp (kp (kp (kp (kp (kp (kp (kp (kp (kp (kp (kp (kp (kp (kp (kp (kp (kp (kp (kp (kp (kp (kp (kp (kp (kp (kp k0 k1) k2) k3) k4) k5) k6) k7) k8) k9) k10) k11) k12) k13) k14) k15) k16) k17) k18) k19) k20) k21) k22) k23) k24) k25) k26) k27) k28) k29) k30) k31
theorem named:Tryz.pinned.checked.prog.funcNamed Rows.subsetBoundsRow.func=some 10:=by kernel_rfl
end Go.Proofs.YthohlnmcjkjeiaaGreatDoor.SubsetBounds
