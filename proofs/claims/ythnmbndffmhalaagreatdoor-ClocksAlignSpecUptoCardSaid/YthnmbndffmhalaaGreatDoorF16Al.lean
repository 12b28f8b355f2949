/- The DR of the statement ClocksAlignSpec's row, each by itself. -/
import Derived.Test.YthnmbndffmhalaaGreatDoorRows
import Derived.JoinedCond
import Derived.ProofKit
set_option maxRecDepth 100000
namespace Go.Proofs.YthnmbndffmhalaaGreatDoor.clocksAlignSpecDone
theorem ZI:(Rows.clocksAlignSpecUptoRow.wf (OpenSpec.ofChange (Rows.OpenSpec.upto Rows.clocksAlignSpecSpec).bare))=true:=by kernel_rfl
theorem ZH:(laidOutB Tryz.pinned.checked.prog)=true:=by kernel_rfl
theorem ZG:(mapsRowed Tryz.pinned.checked.prog)=true:=by kernel_rfl
theorem ZF:(Tryz.f3.params.all (Tryz.pinned.checked.prog.readableRec ·))=true:=by kernel_rfl
theorem ZE:(namedTie Tryz.pinned.checked.prog Rows.clocksAlignSpecUptoRow.named (Rows.OpenSpec.upto Rows.clocksAlignSpecSpec).bare.vars)=true:=by kernel_rfl
theorem ZD:(Rows.clocksAlignSpecUptoRow.stops==[])=true:=by kernel_rfl
theorem ZC:(Tryz.pinned.checked.prog.stops==[])=true:=by kernel_rfl
theorem ZB:(Rows.clocksAlignSpecUptoRow.knobs==[])=true:=by kernel_rfl
theorem ZA:(Tryz.pinned.checked.prog.stopKnobs==[])=true:=by kernel_rfl
theorem Y':(Rows.clocksAlignSpecUptoRow.inPlace==Tryz.pinned.checked.prog.inPlace 3)=true:=by kernel_rfl
theorem RP:(Rows.clocksAlignSpecUptoRow.unfollowed==Tryz.pinned.checked.prog.unfollowed 3)=true:=by kernel_rfl
theorem RO:(Rows.clocksAlignSpecUptoRow.recurses==Tryz.pinned.checked.prog.recurses 3)=true:=by kernel_rfl
theorem RN:(Rows.clocksAlignSpecUptoRow.named==Tryz.pinned.checked.prog.varsNamed 3)=true:=by kernel_rfl
theorem RM:(Rows.clocksAlignSpecUptoRow.maps==(Tryz.f3.params.toList++(Rows.OpenSpec.upto Rows.clocksAlignSpecSpec).bare.plain.varTypes Tryz.pinned.checked.prog).any (Tryz.pinned.checked.prog.mapsRec ·))=true:=by kernel_rfl
theorem RK:(Rows.clocksAlignSpecUptoRow.ifaces==(Tryz.f3.params.toList++(Rows.OpenSpec.upto Rows.clocksAlignSpecSpec).bare.plain.varTypes Tryz.pinned.checked.prog).any (Tryz.pinned.checked.prog.ifacesRec ·))=true:=by kernel_rfl
theorem RI:(Rows.clocksAlignSpecUptoRow.mapsOut==Tryz.pinned.checked.prog.mapsAmong Tryz.f3.resultTypes.toList)=true:=by kernel_rfl
theorem RH:(Rows.clocksAlignSpecUptoRow.loops==(Tryz.f3.params.toList++(Rows.OpenSpec.upto Rows.clocksAlignSpecSpec).bare.plain.varTypes Tryz.pinned.checked.prog).any (Tryz.pinned.checked.prog.loopsFrom ·))=true:=by kernel_rfl
theorem RG:(Rows.clocksAlignSpecUptoRow.wideKeys==(Tryz.f3.params.toList++(Rows.OpenSpec.upto Rows.clocksAlignSpecSpec).bare.plain.varTypes Tryz.pinned.checked.prog++Tryz.f3.resultTypes.toList).any (Tryz.pinned.checked.prog.wideKeysFrom ·))=true:=by kernel_rfl
theorem RE:((Rows.OpenSpec.upto Rows.clocksAlignSpecSpec).bare.vars.all (Tryz.pinned.checked.prog.varReadable ·))=true:=by kernel_rfl
theorem RD:(Tryz.f3.resultTypes.all (λt=>Tryz.pinned.checked.prog.readableRec t&&decide (t<Tryz.pinned.checked.prog.types.size)))=true:=by kernel_rfl
theorem RC:(Rows.clocksAlignSpecUptoRow.ifacesOut==Tryz.f3.resultTypes.toList.any (Tryz.pinned.checked.prog.ifacesRec ·))=true:=by kernel_rfl
theorem RA:(Rows.clocksAlignSpecUptoRow.loopsOut==Tryz.f3.resultTypes.toList.any (Tryz.pinned.checked.prog.loopsFrom ·))=true:=by kernel_rfl
theorem Q_:(Rows.clocksAlignSpecUptoRow.plainKeys==Tryz.pinned.checked.prog.plainKeys)=true:=by kernel_rfl
theorem P':(Rows.clocksAlignSpecUptoRow.shortTexts.isNone)=true:=by kernel_rfl
theorem P_:(Tryz.pinned.checked.prog.stopsHeard)=true:=by kernel_rfl
theorem P9:(Tryz.pinned.checked.prog.mayEnter)=true:=by kernel_rfl
theorem P8:(Rows.clocksAlignSpecUptoRow.lifted==Tryz.pinned.checked.prog.liftsFinal)=true:=by kernel_rfl
theorem P7:(Tryz.pinned.checked.prog.make==some Rows.clocksAlignSpecUptoRow.make)=true:=by kernel_rfl
theorem P6:(Rows.clocksAlignSpecUptoRow.kinds==(if Rows.clocksAlignSpecUptoRow.domain.isEmpty then[]else Tryz.f3.params.toList.map λt=>match Tryz.pinned.checked.prog.underlying t with|some (.int k)=>some k|_=>none))=true:=by kernel_rfl
theorem P5:(Rows.clocksAlignSpecUptoRow.pinned==Rows.clocksAlignSpecUptoRow.pinnedBy)=true:=by kernel_rfl
theorem P4:(Rows.clocksAlignSpecUptoRow.veiled==(Tryz.f3.params.toList++(Rows.OpenSpec.upto Rows.clocksAlignSpecSpec).bare.plain.varTypes Tryz.pinned.checked.prog++Tryz.f3.resultTypes.toList).any (Tryz.pinned.checked.prog.veiledRec ·))=true:=by kernel_rfl
theorem P3:(Rows.clocksAlignSpecUptoRow.veiledFits Tryz.pinned.checked.prog Tryz.f3.params.toList (Tryz.f3.params.toList++(Rows.OpenSpec.upto Rows.clocksAlignSpecSpec).bare.plain.varTypes Tryz.pinned.checked.prog++Tryz.f3.resultTypes.toList))=true:=by kernel_rfl
theorem Cq{a b:Bool}(x:a=true)(y:b=true):(a&&b)=true:=by rw[x,y];rfl
theorem DR:joinedFacts Tryz.pinned.checked.prog 3 Tryz.f3 (Rows.OpenSpec.upto Rows.clocksAlignSpecSpec).bare Rows.clocksAlignSpecUptoRow=true:=by unfold joinedFacts;exact(Cq (Cq (Cq (Cq (Cq (Cq (Cq (Cq (Cq (Cq (Cq (Cq (Cq (Cq (Cq (Cq (Cq (Cq (Cq (Cq (Cq (Cq (Cq (Cq (Cq (Cq (Cq (Cq (Cq (Cq (Cq ZI ZH) ZG) ZF) ZE) ZD) ZC) ZB) ZA) Y') RP) RO) RN) RM) RK) RI) RH) RG) RE) RD) RC) RA) Q_) P') P_) P9) P8) P7) P6) P5) P4) P3)
theorem named:Tryz.pinned.checked.prog.funcNamed Rows.clocksAlignSpecUptoRow.func=some 3:=by kernel_rfl
theorem I_:Func.isInstance Tryz.pinned.checked.prog Tryz.f3 Rows.clocksAlignSpecUptoRow.origin Rows.clocksAlignSpecUptoRow.targs:=of_decide_eq_true (by kernel_rfl)
theorem MP:Func.isWrapper Tryz.pinned.checked.prog Tryz.f3 Rows.clocksAlignSpecUptoRow.wrapper Rows.clocksAlignSpecUptoRow.mainSum:=by unfold Func.isWrapper;first|(rw[if_pos (by decide+kernel)];kernel_rfl)|(rw[if_neg (by decide+kernel)];exact⟨rfl,rfl⟩)
end Go.Proofs.YthnmbndffmhalaaGreatDoor.clocksAlignSpecDone
