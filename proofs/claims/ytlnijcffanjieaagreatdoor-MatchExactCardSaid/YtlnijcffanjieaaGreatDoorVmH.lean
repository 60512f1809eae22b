/- Seat 7: MatchExact: the row's closed facts, one by one. Conditions: none but those named. -/
import Derived.Test.YtlnijcffanjieaaGreatDoorCards
import Derived.JoinedCond
import Derived.Test.YtlnijcffanjieaaGreatDoorVmA
set_option linter.defProp false
namespace Go.Proofs.YtlnijcffanjieaaGreatDoor.Exact
open Go.Proofs.Tryz
set_option maxRecDepth 100000
open Go
def k0:(Rows.matchExactRow.wf (OpenSpec.ofChange (OpenSpec.ofChange Rows.matchExactSpec).bare))=true:=by kernel_rfl
def k1:(laidOutB Tryz.pinned.checked.prog)=true:=by kernel_rfl
def k2:(mapsRowed Tryz.pinned.checked.prog)=true:=by kernel_rfl
def k3:(f8.params.all (Tryz.pinned.checked.prog.readableRec ·))=true:=by kernel_rfl
def k4:(namedTie Tryz.pinned.checked.prog Rows.matchExactRow.named (OpenSpec.ofChange Rows.matchExactSpec).bare.vars)=true:=by kernel_rfl
def k5:((Rows.matchExactRow.stops == []))=true:=by kernel_rfl
def k6:((Tryz.pinned.checked.prog.stops == []))=true:=by kernel_rfl
def k7:((Rows.matchExactRow.knobs == []))=true:=by kernel_rfl
def k8:((Tryz.pinned.checked.prog.stopKnobs == []))=true:=by kernel_rfl
def k9:((Rows.matchExactRow.inPlace == Tryz.pinned.checked.prog.inPlace 8))=true:=by kernel_rfl
def Xd:((Rows.matchExactRow.unfollowed == Tryz.pinned.checked.prog.unfollowed 8))=true:=by kernel_rfl
def k11:((Rows.matchExactRow.recurses == Tryz.pinned.checked.prog.recurses 8))=true:=by kernel_rfl
def TY:((Rows.matchExactRow.named == Tryz.pinned.checked.prog.varsNamed 8))=true:=by kernel_rfl
def TZ:((Rows.matchExactRow.maps == (f8.params.toList++(OpenSpec.ofChange Rows.matchExactSpec).bare.plain.varTypes Tryz.pinned.checked.prog).any (Tryz.pinned.checked.prog.mapsRec ·)))=true:=by kernel_rfl
def T0:((Rows.matchExactRow.ifaces == (f8.params.toList++(OpenSpec.ofChange Rows.matchExactSpec).bare.plain.varTypes Tryz.pinned.checked.prog).any (Tryz.pinned.checked.prog.ifacesRec ·)))=true:=by kernel_rfl
def k15:((Rows.matchExactRow.mapsOut == Tryz.pinned.checked.prog.mapsAmong f8.resultTypes.toList))=true:=by kernel_rfl
def T1:((Rows.matchExactRow.loops == (f8.params.toList++(OpenSpec.ofChange Rows.matchExactSpec).bare.plain.varTypes Tryz.pinned.checked.prog).any (Tryz.pinned.checked.prog.loopsFrom ·)))=true:=by kernel_rfl
def k17:((Rows.matchExactRow.wideKeys == (f8.params.toList++(OpenSpec.ofChange Rows.matchExactSpec).bare.plain.varTypes Tryz.pinned.checked.prog++f8.resultTypes.toList).any (Tryz.pinned.checked.prog.wideKeysFrom ·)))=true:=by kernel_rfl
def k18:((OpenSpec.ofChange Rows.matchExactSpec).bare.vars.all (Tryz.pinned.checked.prog.varReadable ·))=true:=by kernel_rfl
def k19:(f8.resultTypes.all (λt=>Tryz.pinned.checked.prog.readableRec t && decide (t<Tryz.pinned.checked.prog.types.size)))=true:=by kernel_rfl
def k20:((Rows.matchExactRow.ifacesOut == f8.resultTypes.toList.any (Tryz.pinned.checked.prog.ifacesRec ·)))=true:=by kernel_rfl
def k21:((Rows.matchExactRow.loopsOut == f8.resultTypes.toList.any (Tryz.pinned.checked.prog.loopsFrom ·)))=true:=by kernel_rfl
def k22:((Rows.matchExactRow.plainKeys == Tryz.pinned.checked.prog.plainKeys))=true:=by kernel_rfl
def k23:(Rows.matchExactRow.shortTexts.isNone)=true:=by kernel_rfl
def k24:(Tryz.pinned.checked.prog.stopsHeard)=true:=by kernel_rfl
def k25:(Tryz.pinned.checked.prog.mayEnter)=true:=by kernel_rfl
def k26:((Rows.matchExactRow.lifted == Tryz.pinned.checked.prog.liftsFinal))=true:=by kernel_rfl
def T2:((Tryz.pinned.checked.prog.make == some Rows.matchExactRow.make))=true:=by kernel_rfl
def Xe:((Rows.matchExactRow.kinds == (if Rows.matchExactRow.domain.isEmpty then [] else f8.params.toList.map λt=>match Tryz.pinned.checked.prog.underlying t with|some (.int k)=>some k|_=>none)))=true:=by kernel_rfl
def T3:((Rows.matchExactRow.pinned == Rows.matchExactRow.pinnedBy))=true:=by kernel_rfl
def T4:((Rows.matchExactRow.veiled == (f8.params.toList++(OpenSpec.ofChange Rows.matchExactSpec).bare.plain.varTypes Tryz.pinned.checked.prog++f8.resultTypes.toList).any (Tryz.pinned.checked.prog.veiledRec ·)))=true:=by kernel_rfl
def k31:(Rows.matchExactRow.veiledFits Tryz.pinned.checked.prog f8.params.toList (f8.params.toList++(OpenSpec.ofChange Rows.matchExactSpec).bare.plain.varTypes Tryz.pinned.checked.prog++f8.resultTypes.toList))=true:=by kernel_rfl
def jF{a b:Bool}(h:a=true)(k:b=true):(a && b)=true:=by rw[h,k];rfl
def facts:joinedFacts Tryz.pinned.checked.prog 8 f8 (OpenSpec.ofChange Rows.matchExactSpec).bare Rows.matchExactRow=true:=jF (jF (jF (jF (jF (jF (jF (jF (jF (jF (jF (jF (jF (jF (jF (jF (jF (jF (jF (jF (jF (jF (jF (jF (jF (jF (jF (jF (jF (jF (jF k0 k1) k2) k3) k4) k5) k6) k7) k8) k9) Xd) k11) TY) TZ) T0) k15) T1) k17) k18) k19) k20) k21) k22) k23) k24) k25) k26) T2) Xe) T3) T4) k31
def named:Tryz.pinned.checked.prog.funcNamed Rows.matchExactRow.func=some 8:=by kernel_rfl
end Go.Proofs.YtlnijcffanjieaaGreatDoor.Exact
