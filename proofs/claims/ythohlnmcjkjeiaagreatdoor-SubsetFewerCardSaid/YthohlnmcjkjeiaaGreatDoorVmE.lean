/- Seat 8: SubsetFewer: the row's closed facts, one by one. Conditions: none but those named. -/
import Derived.Test.YthohlnmcjkjeiaaGreatDoorCards
import Derived.JoinedCond
import Derived.Test.YthohlnmcjkjeiaaGreatDoorVmA
namespace Go.Proofs.YthohlnmcjkjeiaaGreatDoor.SubsetFewer
open Go.Proofs.Tryz
set_option maxRecDepth 100000
open Go
theorem k0:(Rows.subsetFewerRow.wf (OpenSpec.ofChange (OpenSpec.ofChange Rows.subsetFewerSpec).bare))=true:=by kernel_rfl
theorem k1:(laidOutB Tryz.pinned.checked.prog)=true:=by kernel_rfl
theorem k2:(mapsRowed Tryz.pinned.checked.prog)=true:=by kernel_rfl
theorem k3:(f9.params.all (Tryz.pinned.checked.prog.readableRec ·))=true:=by kernel_rfl
theorem k4:(namedTie Tryz.pinned.checked.prog Rows.subsetFewerRow.named (OpenSpec.ofChange Rows.subsetFewerSpec).bare.vars)=true:=by kernel_rfl
theorem k5:((Rows.subsetFewerRow.stops == []))=true:=by kernel_rfl
theorem k6:((Tryz.pinned.checked.prog.stops == []))=true:=by kernel_rfl
theorem k7:((Rows.subsetFewerRow.knobs == []))=true:=by kernel_rfl
theorem k8:((Tryz.pinned.checked.prog.stopKnobs == []))=true:=by kernel_rfl
theorem k9:((Rows.subsetFewerRow.inPlace == Tryz.pinned.checked.prog.inPlace 9))=true:=by kernel_rfl
theorem k10:((Rows.subsetFewerRow.unfollowed == Tryz.pinned.checked.prog.unfollowed 9))=true:=by kernel_rfl
theorem k11:((Rows.subsetFewerRow.recurses == Tryz.pinned.checked.prog.recurses 9))=true:=by kernel_rfl
theorem k12:((Rows.subsetFewerRow.named == Tryz.pinned.checked.prog.varsNamed 9))=true:=by kernel_rfl
theorem k13:((Rows.subsetFewerRow.maps == (f9.params.toList++(OpenSpec.ofChange Rows.subsetFewerSpec).bare.plain.varTypes Tryz.pinned.checked.prog).any (Tryz.pinned.checked.prog.mapsRec ·)))=true:=by kernel_rfl
theorem L_:((Rows.subsetFewerRow.ifaces == (f9.params.toList++(OpenSpec.ofChange Rows.subsetFewerSpec).bare.plain.varTypes Tryz.pinned.checked.prog).any (Tryz.pinned.checked.prog.ifacesRec ·)))=true:=by kernel_rfl
theorem k15:((Rows.subsetFewerRow.mapsOut == Tryz.pinned.checked.prog.mapsAmong f9.resultTypes.toList))=true:=by kernel_rfl
theorem k16:((Rows.subsetFewerRow.loops == (f9.params.toList++(OpenSpec.ofChange Rows.subsetFewerSpec).bare.plain.varTypes Tryz.pinned.checked.prog).any (Tryz.pinned.checked.prog.loopsFrom ·)))=true:=by kernel_rfl
theorem k17:((Rows.subsetFewerRow.wideKeys == (f9.params.toList++(OpenSpec.ofChange Rows.subsetFewerSpec).bare.plain.varTypes Tryz.pinned.checked.prog++f9.resultTypes.toList).any (Tryz.pinned.checked.prog.wideKeysFrom ·)))=true:=by kernel_rfl
theorem k18:((OpenSpec.ofChange Rows.subsetFewerSpec).bare.vars.all (Tryz.pinned.checked.prog.varReadable ·))=true:=by kernel_rfl
theorem k19:(f9.resultTypes.all (λt=>Tryz.pinned.checked.prog.readableRec t && decide (t<Tryz.pinned.checked.prog.types.size)))=true:=by kernel_rfl
theorem k20:((Rows.subsetFewerRow.ifacesOut == f9.resultTypes.toList.any (Tryz.pinned.checked.prog.ifacesRec ·)))=true:=by kernel_rfl
theorem k21:((Rows.subsetFewerRow.loopsOut == f9.resultTypes.toList.any (Tryz.pinned.checked.prog.loopsFrom ·)))=true:=by kernel_rfl
theorem k22:((Rows.subsetFewerRow.plainKeys == Tryz.pinned.checked.prog.plainKeys))=true:=by kernel_rfl
theorem k23:(Rows.subsetFewerRow.shortTexts.isNone)=true:=by kernel_rfl
theorem k24:(Tryz.pinned.checked.prog.stopsHeard)=true:=by kernel_rfl
theorem k25:(Tryz.pinned.checked.prog.mayEnter)=true:=by kernel_rfl
theorem k26:((Rows.subsetFewerRow.lifted == Tryz.pinned.checked.prog.liftsFinal))=true:=by kernel_rfl
theorem k27:((Tryz.pinned.checked.prog.make == some Rows.subsetFewerRow.make))=true:=by kernel_rfl
theorem Ut:((Rows.subsetFewerRow.kinds == (if Rows.subsetFewerRow.domain.isEmpty then [] else f9.params.toList.map λt=>match Tryz.pinned.checked.prog.underlying t with|some (.int k)=>some k|_=>none)))=true:=by kernel_rfl
theorem k29:((Rows.subsetFewerRow.pinned == Rows.subsetFewerRow.pinnedBy))=true:=by kernel_rfl
theorem X8:((Rows.subsetFewerRow.veiled == (f9.params.toList++(OpenSpec.ofChange Rows.subsetFewerSpec).bare.plain.varTypes Tryz.pinned.checked.prog++f9.resultTypes.toList).any (Tryz.pinned.checked.prog.veiledRec ·)))=true:=by kernel_rfl
theorem k31:(Rows.subsetFewerRow.veiledFits Tryz.pinned.checked.prog f9.params.toList (f9.params.toList++(OpenSpec.ofChange Rows.subsetFewerSpec).bare.plain.varTypes Tryz.pinned.checked.prog++f9.resultTypes.toList))=true:=by kernel_rfl
theorem kq{a b:Bool}(h:a=true)(k:b=true):(a && b)=true:=by rw[h,k];rfl
theorem facts:joinedFacts Tryz.pinned.checked.prog 9 f9 (OpenSpec.ofChange Rows.subsetFewerSpec).bare Rows.subsetFewerRow=true:=kq (kq (kq (kq (kq (kq (kq (kq (kq (kq (kq (kq (kq (kq (kq (kq (kq (kq (kq (kq (kq (kq (kq (kq (kq (kq (kq (kq (kq (kq (kq k0 k1) k2) k3) k4) k5) k6) k7) k8) k9) k10) k11) k12) k13) L_) k15) k16) k17) k18) k19) k20) k21) k22) k23) k24) k25) k26) k27) Ut) k29) X8) k31
theorem named:Tryz.pinned.checked.prog.funcNamed Rows.subsetFewerRow.func=some 9:=by kernel_rfl
end Go.Proofs.YthohlnmcjkjeiaaGreatDoor.SubsetFewer
