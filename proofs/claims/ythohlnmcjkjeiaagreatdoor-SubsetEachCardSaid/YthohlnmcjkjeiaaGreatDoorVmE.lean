/- Seat 8: SubsetEach: the row's closed facts, one by one. Conditions: none but those named. -/
import Derived.Test.YthohlnmcjkjeiaaGreatDoorCards
import Derived.JoinedCond
import Derived.Test.YthohlnmcjkjeiaaGreatDoorVmA
namespace Go.Proofs.YthohlnmcjkjeiaaGreatDoor.SubsetEach
open Go.Proofs.Tryz
set_option maxRecDepth 100000
open Go
theorem k0:(Rows.subsetEachRow.wf (OpenSpec.ofChange (OpenSpec.ofChange Rows.subsetEachSpec).bare))=true:=by kernel_rfl
theorem k1:(laidOutB Tryz.pinned.checked.prog)=true:=by kernel_rfl
theorem k2:(mapsRowed Tryz.pinned.checked.prog)=true:=by kernel_rfl
theorem k3:(f6.params.all (Tryz.pinned.checked.prog.readableRec ·))=true:=by kernel_rfl
theorem k4:(namedTie Tryz.pinned.checked.prog Rows.subsetEachRow.named (OpenSpec.ofChange Rows.subsetEachSpec).bare.vars)=true:=by kernel_rfl
theorem k5:((Rows.subsetEachRow.stops == []))=true:=by kernel_rfl
theorem k6:((Tryz.pinned.checked.prog.stops == []))=true:=by kernel_rfl
theorem k7:((Rows.subsetEachRow.knobs == []))=true:=by kernel_rfl
theorem k8:((Tryz.pinned.checked.prog.stopKnobs == []))=true:=by kernel_rfl
theorem k9:((Rows.subsetEachRow.inPlace == Tryz.pinned.checked.prog.inPlace 6))=true:=by kernel_rfl
theorem k10:((Rows.subsetEachRow.unfollowed == Tryz.pinned.checked.prog.unfollowed 6))=true:=by kernel_rfl
theorem k11:((Rows.subsetEachRow.recurses == Tryz.pinned.checked.prog.recurses 6))=true:=by kernel_rfl
theorem k12:((Rows.subsetEachRow.named == Tryz.pinned.checked.prog.varsNamed 6))=true:=by kernel_rfl
theorem k13:((Rows.subsetEachRow.maps == (f6.params.toList++(OpenSpec.ofChange Rows.subsetEachSpec).bare.plain.varTypes Tryz.pinned.checked.prog).any (Tryz.pinned.checked.prog.mapsRec ·)))=true:=by kernel_rfl
theorem TO:((Rows.subsetEachRow.ifaces == (f6.params.toList++(OpenSpec.ofChange Rows.subsetEachSpec).bare.plain.varTypes Tryz.pinned.checked.prog).any (Tryz.pinned.checked.prog.ifacesRec ·)))=true:=by kernel_rfl
theorem k15:((Rows.subsetEachRow.mapsOut == Tryz.pinned.checked.prog.mapsAmong f6.resultTypes.toList))=true:=by kernel_rfl
theorem k16:((Rows.subsetEachRow.loops == (f6.params.toList++(OpenSpec.ofChange Rows.subsetEachSpec).bare.plain.varTypes Tryz.pinned.checked.prog).any (Tryz.pinned.checked.prog.loopsFrom ·)))=true:=by kernel_rfl
theorem k17:((Rows.subsetEachRow.wideKeys == (f6.params.toList++(OpenSpec.ofChange Rows.subsetEachSpec).bare.plain.varTypes Tryz.pinned.checked.prog++f6.resultTypes.toList).any (Tryz.pinned.checked.prog.wideKeysFrom ·)))=true:=by kernel_rfl
theorem k18:((OpenSpec.ofChange Rows.subsetEachSpec).bare.vars.all (Tryz.pinned.checked.prog.varReadable ·))=true:=by kernel_rfl
theorem k19:(f6.resultTypes.all (λt=>Tryz.pinned.checked.prog.readableRec t && decide (t<Tryz.pinned.checked.prog.types.size)))=true:=by kernel_rfl
theorem k20:((Rows.subsetEachRow.ifacesOut == f6.resultTypes.toList.any (Tryz.pinned.checked.prog.ifacesRec ·)))=true:=by kernel_rfl
theorem k21:((Rows.subsetEachRow.loopsOut == f6.resultTypes.toList.any (Tryz.pinned.checked.prog.loopsFrom ·)))=true:=by kernel_rfl
theorem k22:((Rows.subsetEachRow.plainKeys == Tryz.pinned.checked.prog.plainKeys))=true:=by kernel_rfl
theorem k23:(Rows.subsetEachRow.shortTexts.isNone)=true:=by kernel_rfl
theorem k24:(Tryz.pinned.checked.prog.stopsHeard)=true:=by kernel_rfl
theorem k25:(Tryz.pinned.checked.prog.mayEnter)=true:=by kernel_rfl
theorem k26:((Rows.subsetEachRow.lifted == Tryz.pinned.checked.prog.liftsFinal))=true:=by kernel_rfl
theorem k27:((Tryz.pinned.checked.prog.make == some Rows.subsetEachRow.make))=true:=by kernel_rfl
theorem Xt:((Rows.subsetEachRow.kinds == (if Rows.subsetEachRow.domain.isEmpty then [] else f6.params.toList.map λt=>match Tryz.pinned.checked.prog.underlying t with|some (.int k)=>some k|_=>none)))=true:=by kernel_rfl
theorem P3:((Rows.subsetEachRow.pinned == Rows.subsetEachRow.pinnedBy))=true:=by kernel_rfl
theorem Xu:((Rows.subsetEachRow.veiled == (f6.params.toList++(OpenSpec.ofChange Rows.subsetEachSpec).bare.plain.varTypes Tryz.pinned.checked.prog++f6.resultTypes.toList).any (Tryz.pinned.checked.prog.veiledRec ·)))=true:=by kernel_rfl
theorem k31:(Rows.subsetEachRow.veiledFits Tryz.pinned.checked.prog f6.params.toList (f6.params.toList++(OpenSpec.ofChange Rows.subsetEachSpec).bare.plain.varTypes Tryz.pinned.checked.prog++f6.resultTypes.toList))=true:=by kernel_rfl
theorem kq{a b:Bool}(h:a=true)(k:b=true):(a && b)=true:=by rw[h,k];rfl
theorem facts:joinedFacts Tryz.pinned.checked.prog 6 f6 (OpenSpec.ofChange Rows.subsetEachSpec).bare Rows.subsetEachRow=true:=kq (kq (kq (kq (kq (kq (kq (kq (kq (kq (kq (kq (kq (kq (kq (kq (kq (kq (kq (kq (kq (kq (kq (kq (kq (kq (kq (kq (kq (kq (kq k0 k1) k2) k3) k4) k5) k6) k7) k8) k9) k10) k11) k12) k13) TO) k15) k16) k17) k18) k19) k20) k21) k22) k23) k24) k25) k26) k27) Xt) P3) Xu) k31
theorem named:Tryz.pinned.checked.prog.funcNamed Rows.subsetEachRow.func=some 6:=by kernel_rfl
end Go.Proofs.YthohlnmcjkjeiaaGreatDoor.SubsetEach
