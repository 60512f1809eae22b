/- Seat 8: FollowBounds: the row's closed facts, one by one. Conditions: none but those named. -/
import Derived.Test.YthohlnmcjkjeiaaGreatDoorCards
import Derived.JoinedCond
import Derived.Test.YthohlnmcjkjeiaaGreatDoorVmA
set_option linter.defProp false
namespace Go.Proofs.YthohlnmcjkjeiaaGreatDoor.FollowBounds
open Go.Proofs.Tryz
set_option maxRecDepth 100000
open Go
def k0:(Rows.followBoundsRow.wf (OpenSpec.ofChange (OpenSpec.ofChange Rows.followBoundsSpec).bare))=true:=by kernel_rfl
def k1:(laidOutB Tryz.pinned.checked.prog)=true:=by kernel_rfl
def k2:(mapsRowed Tryz.pinned.checked.prog)=true:=by kernel_rfl
def k3:(f4.params.all (Tryz.pinned.checked.prog.readableRec ·))=true:=by kernel_rfl
def k4:(namedTie Tryz.pinned.checked.prog Rows.followBoundsRow.named (OpenSpec.ofChange Rows.followBoundsSpec).bare.vars)=true:=by kernel_rfl
def k5:((Rows.followBoundsRow.stops == []))=true:=by kernel_rfl
def k6:((Tryz.pinned.checked.prog.stops == []))=true:=by kernel_rfl
def k7:((Rows.followBoundsRow.knobs == []))=true:=by kernel_rfl
def k8:((Tryz.pinned.checked.prog.stopKnobs == []))=true:=by kernel_rfl
def k9:((Rows.followBoundsRow.inPlace == Tryz.pinned.checked.prog.inPlace 4))=true:=by kernel_rfl
def Sy:((Rows.followBoundsRow.unfollowed == Tryz.pinned.checked.prog.unfollowed 4))=true:=by kernel_rfl
def k11:((Rows.followBoundsRow.recurses == Tryz.pinned.checked.prog.recurses 4))=true:=by kernel_rfl
def k12:((Rows.followBoundsRow.named == Tryz.pinned.checked.prog.varsNamed 4))=true:=by kernel_rfl
def k13:((Rows.followBoundsRow.maps == (f4.params.toList++(OpenSpec.ofChange Rows.followBoundsSpec).bare.plain.varTypes Tryz.pinned.checked.prog).any (Tryz.pinned.checked.prog.mapsRec ·)))=true:=by kernel_rfl
def k14:((Rows.followBoundsRow.ifaces == (f4.params.toList++(OpenSpec.ofChange Rows.followBoundsSpec).bare.plain.varTypes Tryz.pinned.checked.prog).any (Tryz.pinned.checked.prog.ifacesRec ·)))=true:=by kernel_rfl
def k15:((Rows.followBoundsRow.mapsOut == Tryz.pinned.checked.prog.mapsAmong f4.resultTypes.toList))=true:=by kernel_rfl
def k16:((Rows.followBoundsRow.loops == (f4.params.toList++(OpenSpec.ofChange Rows.followBoundsSpec).bare.plain.varTypes Tryz.pinned.checked.prog).any (Tryz.pinned.checked.prog.loopsFrom ·)))=true:=by kernel_rfl
def k17:((Rows.followBoundsRow.wideKeys == (f4.params.toList++(OpenSpec.ofChange Rows.followBoundsSpec).bare.plain.varTypes Tryz.pinned.checked.prog++f4.resultTypes.toList).any (Tryz.pinned.checked.prog.wideKeysFrom ·)))=true:=by kernel_rfl
def k18:((OpenSpec.ofChange Rows.followBoundsSpec).bare.vars.all (Tryz.pinned.checked.prog.varReadable ·))=true:=by kernel_rfl
def k19:(f4.resultTypes.all (λt=>Tryz.pinned.checked.prog.readableRec t && decide (t<Tryz.pinned.checked.prog.types.size)))=true:=by kernel_rfl
def k20:((Rows.followBoundsRow.ifacesOut == f4.resultTypes.toList.any (Tryz.pinned.checked.prog.ifacesRec ·)))=true:=by kernel_rfl
def k21:((Rows.followBoundsRow.loopsOut == f4.resultTypes.toList.any (Tryz.pinned.checked.prog.loopsFrom ·)))=true:=by kernel_rfl
def k22:((Rows.followBoundsRow.plainKeys == Tryz.pinned.checked.prog.plainKeys))=true:=by kernel_rfl
def k23:(Rows.followBoundsRow.shortTexts.isNone)=true:=by kernel_rfl
def k24:(Tryz.pinned.checked.prog.stopsHeard)=true:=by kernel_rfl
def k25:(Tryz.pinned.checked.prog.mayEnter)=true:=by kernel_rfl
def k26:((Rows.followBoundsRow.lifted == Tryz.pinned.checked.prog.liftsFinal))=true:=by kernel_rfl
def k27:((Tryz.pinned.checked.prog.make == some Rows.followBoundsRow.make))=true:=by kernel_rfl
def k28:((Rows.followBoundsRow.kinds == (if Rows.followBoundsRow.domain.isEmpty then [] else f4.params.toList.map λt=>match Tryz.pinned.checked.prog.underlying t with|some (.int k)=>some k|_=>none)))=true:=by kernel_rfl
def k29:((Rows.followBoundsRow.pinned == Rows.followBoundsRow.pinnedBy))=true:=by kernel_rfl
def k30:((Rows.followBoundsRow.veiled == (f4.params.toList++(OpenSpec.ofChange Rows.followBoundsSpec).bare.plain.varTypes Tryz.pinned.checked.prog++f4.resultTypes.toList).any (Tryz.pinned.checked.prog.veiledRec ·)))=true:=by kernel_rfl
def k31:(Rows.followBoundsRow.veiledFits Tryz.pinned.checked.prog f4.params.toList (f4.params.toList++(OpenSpec.ofChange Rows.followBoundsSpec).bare.plain.varTypes Tryz.pinned.checked.prog++f4.resultTypes.toList))=true:=by kernel_rfl
def kT{a b:Bool}(h:a=true)(k:b=true):(a && b)=true:=by rw[h,k];rfl
def facts:joinedFacts Tryz.pinned.checked.prog 4 f4 (OpenSpec.ofChange Rows.followBoundsSpec).bare Rows.followBoundsRow=true:=kT (kT (kT (kT (kT (kT (kT (kT (kT (kT (kT (kT (kT (kT (kT (kT (kT (kT (kT (kT (kT (kT (kT (kT (kT (kT (kT (kT (kT (kT (kT k0 k1) k2) k3) k4) k5) k6) k7) k8) k9) Sy) k11) k12) k13) k14) k15) k16) k17) k18) k19) k20) k21) k22) k23) k24) k25) k26) k27) k28) k29) k30) k31
def named:Tryz.pinned.checked.prog.funcNamed Rows.followBoundsRow.func=some 4:=by kernel_rfl
end Go.Proofs.YthohlnmcjkjeiaaGreatDoor.FollowBounds
