/- Seat 7: MatchMore: the row's closed facts, one by one. Conditions: none but those that each theorem names. -/
import Derived.Test.YtlnijcffanjieaaGreatDoorCards
import Derived.JoinedCond
namespace Go.Proofs.YtlnijcffanjieaaGreatDoor.More
set_option maxRecDepth 100000
open Go
theorem k0:(Rows.matchMoreRow.wf (OpenSpec.ofChange (OpenSpec.ofChange Rows.matchMoreSpec).bare))=true:=by kernel_rfl
theorem k1:(laidOutB Tryz.pinned.checked.prog)=true:=by kernel_rfl
theorem k2:(mapsRowed Tryz.pinned.checked.prog)=true:=by kernel_rfl
theorem k3:(Tryz.f6.params.all (Tryz.pinned.checked.prog.readableRec ·))=true:=by kernel_rfl
theorem k4:(namedTie Tryz.pinned.checked.prog Rows.matchMoreRow.named (OpenSpec.ofChange Rows.matchMoreSpec).bare.vars)=true:=by kernel_rfl
theorem k5:((Rows.matchMoreRow.stops == []))=true:=by kernel_rfl
theorem k6:((Tryz.pinned.checked.prog.stops == []))=true:=by kernel_rfl
theorem k7:((Rows.matchMoreRow.knobs == []))=true:=by kernel_rfl
theorem k8:((Tryz.pinned.checked.prog.stopKnobs == []))=true:=by kernel_rfl
theorem k9:((Rows.matchMoreRow.inPlace == Tryz.pinned.checked.prog.inPlace 6))=true:=by kernel_rfl
theorem k10:((Rows.matchMoreRow.unfollowed == Tryz.pinned.checked.prog.unfollowed 6))=true:=by kernel_rfl
theorem k11:((Rows.matchMoreRow.recurses == Tryz.pinned.checked.prog.recurses 6))=true:=by kernel_rfl
theorem k12:((Rows.matchMoreRow.named == Tryz.pinned.checked.prog.varsNamed 6))=true:=by kernel_rfl
theorem k13:((Rows.matchMoreRow.maps == (Tryz.f6.params.toList++(OpenSpec.ofChange Rows.matchMoreSpec).bare.plain.varTypes Tryz.pinned.checked.prog).any (Tryz.pinned.checked.prog.mapsRec ·)))=true:=by kernel_rfl
theorem k14:((Rows.matchMoreRow.ifaces == (Tryz.f6.params.toList++(OpenSpec.ofChange Rows.matchMoreSpec).bare.plain.varTypes Tryz.pinned.checked.prog).any (Tryz.pinned.checked.prog.ifacesRec ·)))=true:=by kernel_rfl
theorem k15:((Rows.matchMoreRow.mapsOut == Tryz.pinned.checked.prog.mapsAmong Tryz.f6.resultTypes.toList))=true:=by kernel_rfl
theorem k16:((Rows.matchMoreRow.loops == (Tryz.f6.params.toList++(OpenSpec.ofChange Rows.matchMoreSpec).bare.plain.varTypes Tryz.pinned.checked.prog).any (Tryz.pinned.checked.prog.loopsFrom ·)))=true:=by kernel_rfl
theorem k17:((Rows.matchMoreRow.wideKeys == (Tryz.f6.params.toList++(OpenSpec.ofChange Rows.matchMoreSpec).bare.plain.varTypes Tryz.pinned.checked.prog++Tryz.f6.resultTypes.toList).any (Tryz.pinned.checked.prog.wideKeysFrom ·)))=true:=by kernel_rfl
theorem k18:((OpenSpec.ofChange Rows.matchMoreSpec).bare.vars.all (Tryz.pinned.checked.prog.varReadable ·))=true:=by kernel_rfl
theorem k19:(Tryz.f6.resultTypes.all (fun t=>Tryz.pinned.checked.prog.readableRec t && decide (t<Tryz.pinned.checked.prog.types.size)))=true:=by kernel_rfl
theorem k20:((Rows.matchMoreRow.ifacesOut == Tryz.f6.resultTypes.toList.any (Tryz.pinned.checked.prog.ifacesRec ·)))=true:=by kernel_rfl
theorem k21:((Rows.matchMoreRow.loopsOut == Tryz.f6.resultTypes.toList.any (Tryz.pinned.checked.prog.loopsFrom ·)))=true:=by kernel_rfl
theorem k22:((Rows.matchMoreRow.plainKeys == Tryz.pinned.checked.prog.plainKeys))=true:=by kernel_rfl
theorem k23:(Rows.matchMoreRow.shortTexts.isNone)=true:=by kernel_rfl
theorem k24:(Tryz.pinned.checked.prog.stopsHeard)=true:=by kernel_rfl
theorem k25:(Tryz.pinned.checked.prog.mayEnter)=true:=by kernel_rfl
theorem k26:((Rows.matchMoreRow.lifted == Tryz.pinned.checked.prog.liftsFinal))=true:=by kernel_rfl
theorem k27:((Tryz.pinned.checked.prog.make == some Rows.matchMoreRow.make))=true:=by kernel_rfl
theorem k28:((Rows.matchMoreRow.kinds == (if Rows.matchMoreRow.domain.isEmpty then [] else Tryz.f6.params.toList.map fun t=>match Tryz.pinned.checked.prog.underlying t with|some (.int k)=>some k|_=>none)))=true:=by kernel_rfl
theorem k29:((Rows.matchMoreRow.pinned == Rows.matchMoreRow.pinnedBy))=true:=by kernel_rfl
theorem k30:((Rows.matchMoreRow.veiled == (Tryz.f6.params.toList++(OpenSpec.ofChange Rows.matchMoreSpec).bare.plain.varTypes Tryz.pinned.checked.prog++Tryz.f6.resultTypes.toList).any (Tryz.pinned.checked.prog.veiledRec ·)))=true:=by kernel_rfl
theorem k31:(Rows.matchMoreRow.veiledFits Tryz.pinned.checked.prog Tryz.f6.params.toList (Tryz.f6.params.toList++(OpenSpec.ofChange Rows.matchMoreSpec).bare.plain.varTypes Tryz.pinned.checked.prog++Tryz.f6.resultTypes.toList))=true:=by kernel_rfl
theorem jA {a b:Bool} (h:a=true) (k:b=true):(a && b)=true:=by rw [h,k];rfl
theorem facts:joinedFacts Tryz.pinned.checked.prog 6 Tryz.f6 (OpenSpec.ofChange Rows.matchMoreSpec).bare Rows.matchMoreRow=true:=jA (jA (jA (jA (jA (jA (jA (jA (jA (jA (jA (jA (jA (jA (jA (jA (jA (jA (jA (jA (jA (jA (jA (jA (jA (jA (jA (jA (jA (jA (jA k0 k1) k2) k3) k4) k5) k6) k7) k8) k9) k10) k11) k12) k13) k14) k15) k16) k17) k18) k19) k20) k21) k22) k23) k24) k25) k26) k27) k28) k29) k30) k31
theorem named:Tryz.pinned.checked.prog.funcNamed Rows.matchMoreRow.func=some 6:=by kernel_rfl
end Go.Proofs.YtlnijcffanjieaaGreatDoor.More
