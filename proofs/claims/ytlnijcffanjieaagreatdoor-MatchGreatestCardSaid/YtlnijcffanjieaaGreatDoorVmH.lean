/- Seat 7: MatchGreatest: the row's closed facts, one by one. Conditions: none but those that each theorem names. -/
import Derived.Test.YtlnijcffanjieaaGreatDoorCards
import Derived.JoinedCond
namespace Go.Proofs.YtlnijcffanjieaaGreatDoor.Greatest
set_option maxRecDepth 100000
open Go
theorem k0:(Rows.matchGreatestRow.wf (OpenSpec.ofChange (OpenSpec.ofChange Rows.matchGreatestSpec).bare))=true:=by kernel_rfl
theorem k1:(laidOutB Tryz.pinned.checked.prog)=true:=by kernel_rfl
theorem k2:(mapsRowed Tryz.pinned.checked.prog)=true:=by kernel_rfl
theorem k3:(Tryz.f5.params.all (Tryz.pinned.checked.prog.readableRec ·))=true:=by kernel_rfl
theorem k4:(namedTie Tryz.pinned.checked.prog Rows.matchGreatestRow.named (OpenSpec.ofChange Rows.matchGreatestSpec).bare.vars)=true:=by kernel_rfl
theorem k5:((Rows.matchGreatestRow.stops == []))=true:=by kernel_rfl
theorem k6:((Tryz.pinned.checked.prog.stops == []))=true:=by kernel_rfl
theorem k7:((Rows.matchGreatestRow.knobs == []))=true:=by kernel_rfl
theorem k8:((Tryz.pinned.checked.prog.stopKnobs == []))=true:=by kernel_rfl
theorem k9:((Rows.matchGreatestRow.inPlace == Tryz.pinned.checked.prog.inPlace 5))=true:=by kernel_rfl
theorem k10:((Rows.matchGreatestRow.unfollowed == Tryz.pinned.checked.prog.unfollowed 5))=true:=by kernel_rfl
theorem k11:((Rows.matchGreatestRow.recurses == Tryz.pinned.checked.prog.recurses 5))=true:=by kernel_rfl
theorem k12:((Rows.matchGreatestRow.named == Tryz.pinned.checked.prog.varsNamed 5))=true:=by kernel_rfl
theorem k13:((Rows.matchGreatestRow.maps == (Tryz.f5.params.toList++(OpenSpec.ofChange Rows.matchGreatestSpec).bare.plain.varTypes Tryz.pinned.checked.prog).any (Tryz.pinned.checked.prog.mapsRec ·)))=true:=by kernel_rfl
theorem k14:((Rows.matchGreatestRow.ifaces == (Tryz.f5.params.toList++(OpenSpec.ofChange Rows.matchGreatestSpec).bare.plain.varTypes Tryz.pinned.checked.prog).any (Tryz.pinned.checked.prog.ifacesRec ·)))=true:=by kernel_rfl
theorem k15:((Rows.matchGreatestRow.mapsOut == Tryz.pinned.checked.prog.mapsAmong Tryz.f5.resultTypes.toList))=true:=by kernel_rfl
theorem k16:((Rows.matchGreatestRow.loops == (Tryz.f5.params.toList++(OpenSpec.ofChange Rows.matchGreatestSpec).bare.plain.varTypes Tryz.pinned.checked.prog).any (Tryz.pinned.checked.prog.loopsFrom ·)))=true:=by kernel_rfl
theorem k17:((Rows.matchGreatestRow.wideKeys == (Tryz.f5.params.toList++(OpenSpec.ofChange Rows.matchGreatestSpec).bare.plain.varTypes Tryz.pinned.checked.prog++Tryz.f5.resultTypes.toList).any (Tryz.pinned.checked.prog.wideKeysFrom ·)))=true:=by kernel_rfl
theorem k18:((OpenSpec.ofChange Rows.matchGreatestSpec).bare.vars.all (Tryz.pinned.checked.prog.varReadable ·))=true:=by kernel_rfl
theorem k19:(Tryz.f5.resultTypes.all (fun t=>Tryz.pinned.checked.prog.readableRec t && decide (t<Tryz.pinned.checked.prog.types.size)))=true:=by kernel_rfl
theorem k20:((Rows.matchGreatestRow.ifacesOut == Tryz.f5.resultTypes.toList.any (Tryz.pinned.checked.prog.ifacesRec ·)))=true:=by kernel_rfl
theorem k21:((Rows.matchGreatestRow.loopsOut == Tryz.f5.resultTypes.toList.any (Tryz.pinned.checked.prog.loopsFrom ·)))=true:=by kernel_rfl
theorem k22:((Rows.matchGreatestRow.plainKeys == Tryz.pinned.checked.prog.plainKeys))=true:=by kernel_rfl
theorem k23:(Rows.matchGreatestRow.shortTexts.isNone)=true:=by kernel_rfl
theorem k24:(Tryz.pinned.checked.prog.stopsHeard)=true:=by kernel_rfl
theorem k25:(Tryz.pinned.checked.prog.mayEnter)=true:=by kernel_rfl
theorem k26:((Rows.matchGreatestRow.lifted == Tryz.pinned.checked.prog.liftsFinal))=true:=by kernel_rfl
theorem k27:((Tryz.pinned.checked.prog.make == some Rows.matchGreatestRow.make))=true:=by kernel_rfl
theorem k28:((Rows.matchGreatestRow.kinds == (if Rows.matchGreatestRow.domain.isEmpty then [] else Tryz.f5.params.toList.map fun t=>match Tryz.pinned.checked.prog.underlying t with|some (.int k)=>some k|_=>none)))=true:=by kernel_rfl
theorem k29:((Rows.matchGreatestRow.pinned == Rows.matchGreatestRow.pinnedBy))=true:=by kernel_rfl
theorem k30:((Rows.matchGreatestRow.veiled == (Tryz.f5.params.toList++(OpenSpec.ofChange Rows.matchGreatestSpec).bare.plain.varTypes Tryz.pinned.checked.prog++Tryz.f5.resultTypes.toList).any (Tryz.pinned.checked.prog.veiledRec ·)))=true:=by kernel_rfl
theorem k31:(Rows.matchGreatestRow.veiledFits Tryz.pinned.checked.prog Tryz.f5.params.toList (Tryz.f5.params.toList++(OpenSpec.ofChange Rows.matchGreatestSpec).bare.plain.varTypes Tryz.pinned.checked.prog++Tryz.f5.resultTypes.toList))=true:=by kernel_rfl
theorem kf {a b:Bool} (h:a=true) (k:b=true):(a && b)=true:=by rw [h,k];rfl
theorem facts:joinedFacts Tryz.pinned.checked.prog 5 Tryz.f5 (OpenSpec.ofChange Rows.matchGreatestSpec).bare Rows.matchGreatestRow=true:=kf (kf (kf (kf (kf (kf (kf (kf (kf (kf (kf (kf (kf (kf (kf (kf (kf (kf (kf (kf (kf (kf (kf (kf (kf (kf (kf (kf (kf (kf (kf k0 k1) k2) k3) k4) k5) k6) k7) k8) k9) k10) k11) k12) k13) k14) k15) k16) k17) k18) k19) k20) k21) k22) k23) k24) k25) k26) k27) k28) k29) k30) k31
theorem named:Tryz.pinned.checked.prog.funcNamed Rows.matchGreatestRow.func=some 5:=by kernel_rfl
end Go.Proofs.YtlnijcffanjieaaGreatDoor.Greatest
