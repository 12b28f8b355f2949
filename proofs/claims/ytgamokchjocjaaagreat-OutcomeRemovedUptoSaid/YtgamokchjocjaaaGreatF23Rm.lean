/- The LJ of the statement OutcomeRemoved's row, each by itself. -/
import Derived.Test.YtgamokchjocjaaaGreatRows
import Derived.JoinedCond
import Derived.ProofKit
set_option maxRecDepth 100000
namespace Go.Proofs.YtgamokchjocjaaaGreat.outcomeRemovedDone
theorem bL:(Rows.outcomeRemovedUptoRow.wf (OpenSpec.ofChange (Rows.OpenSpec.upto Rows.outcomeRemovedSpec).bare))=true:=by kernel_rfl
theorem bK:(laidOutB Tryz.pinned.checked.prog)=true:=by kernel_rfl
theorem bJ:(mapsRowed Tryz.pinned.checked.prog)=true:=by kernel_rfl
theorem bI:(Tryz.f3.params.all (Tryz.pinned.checked.prog.readableRec ·))=true:=by kernel_rfl
theorem bH:(namedTie Tryz.pinned.checked.prog Rows.outcomeRemovedUptoRow.named (Rows.OpenSpec.upto Rows.outcomeRemovedSpec).bare.vars)=true:=by kernel_rfl
theorem bG:(Rows.outcomeRemovedUptoRow.stops==[])=true:=by kernel_rfl
theorem bE:(Tryz.pinned.checked.prog.stops==[])=true:=by kernel_rfl
theorem bD:(Rows.outcomeRemovedUptoRow.knobs==[])=true:=by kernel_rfl
theorem bC:(Tryz.pinned.checked.prog.stopKnobs==[])=true:=by kernel_rfl
theorem bB:(Rows.outcomeRemovedUptoRow.inPlace==Tryz.pinned.checked.prog.inPlace 3)=true:=by kernel_rfl
theorem SB:(Rows.outcomeRemovedUptoRow.unfollowed==Tryz.pinned.checked.prog.unfollowed 3)=true:=by kernel_rfl
theorem SA:(Rows.outcomeRemovedUptoRow.recurses==Tryz.pinned.checked.prog.recurses 3)=true:=by kernel_rfl
theorem R':(Rows.outcomeRemovedUptoRow.named==Tryz.pinned.checked.prog.varsNamed 3)=true:=by kernel_rfl
theorem R_:(Rows.outcomeRemovedUptoRow.maps==(Tryz.f3.params.toList++(Rows.OpenSpec.upto Rows.outcomeRemovedSpec).bare.plain.varTypes Tryz.pinned.checked.prog).any (Tryz.pinned.checked.prog.mapsRec ·))=true:=by kernel_rfl
theorem R9:(Rows.outcomeRemovedUptoRow.ifaces==(Tryz.f3.params.toList++(Rows.OpenSpec.upto Rows.outcomeRemovedSpec).bare.plain.varTypes Tryz.pinned.checked.prog).any (Tryz.pinned.checked.prog.ifacesRec ·))=true:=by kernel_rfl
theorem R8:(Rows.outcomeRemovedUptoRow.mapsOut==Tryz.pinned.checked.prog.mapsAmong Tryz.f3.resultTypes.toList)=true:=by kernel_rfl
theorem R7:(Rows.outcomeRemovedUptoRow.loops==(Tryz.f3.params.toList++(Rows.OpenSpec.upto Rows.outcomeRemovedSpec).bare.plain.varTypes Tryz.pinned.checked.prog).any (Tryz.pinned.checked.prog.loopsFrom ·))=true:=by kernel_rfl
theorem R6:(Rows.outcomeRemovedUptoRow.wideKeys==(Tryz.f3.params.toList++(Rows.OpenSpec.upto Rows.outcomeRemovedSpec).bare.plain.varTypes Tryz.pinned.checked.prog++Tryz.f3.resultTypes.toList).any (Tryz.pinned.checked.prog.wideKeysFrom ·))=true:=by kernel_rfl
theorem R5:((Rows.OpenSpec.upto Rows.outcomeRemovedSpec).bare.vars.all (Tryz.pinned.checked.prog.varReadable ·))=true:=by kernel_rfl
theorem R4:(Tryz.f3.resultTypes.all (λt=>Tryz.pinned.checked.prog.readableRec t&&decide (t<Tryz.pinned.checked.prog.types.size)))=true:=by kernel_rfl
theorem R3:(Rows.outcomeRemovedUptoRow.ifacesOut==Tryz.f3.resultTypes.toList.any (Tryz.pinned.checked.prog.ifacesRec ·))=true:=by kernel_rfl
theorem R0:(Rows.outcomeRemovedUptoRow.loopsOut==Tryz.f3.resultTypes.toList.any (Tryz.pinned.checked.prog.loopsFrom ·))=true:=by kernel_rfl
theorem Rz:(Rows.outcomeRemovedUptoRow.plainKeys==Tryz.pinned.checked.prog.plainKeys)=true:=by kernel_rfl
theorem Ry:(Rows.outcomeRemovedUptoRow.shortTexts.isNone)=true:=by kernel_rfl
theorem Rw:(Tryz.pinned.checked.prog.stopsHeard)=true:=by kernel_rfl
theorem Rv:(Tryz.pinned.checked.prog.mayEnter)=true:=by kernel_rfl
theorem Ru:(Rows.outcomeRemovedUptoRow.lifted==Tryz.pinned.checked.prog.liftsFinal)=true:=by kernel_rfl
theorem Rs:(Tryz.pinned.checked.prog.make==some Rows.outcomeRemovedUptoRow.make)=true:=by kernel_rfl
theorem Rr:(Rows.outcomeRemovedUptoRow.kinds==(if Rows.outcomeRemovedUptoRow.domain.isEmpty then[]else Tryz.f3.params.toList.map λt=>match Tryz.pinned.checked.prog.underlying t with|some (.int k)=>some k|_=>none))=true:=by kernel_rfl
theorem Rq:(Rows.outcomeRemovedUptoRow.pinned==Rows.outcomeRemovedUptoRow.pinnedBy)=true:=by kernel_rfl
theorem Rp:(Rows.outcomeRemovedUptoRow.veiled==(Tryz.f3.params.toList++(Rows.OpenSpec.upto Rows.outcomeRemovedSpec).bare.plain.varTypes Tryz.pinned.checked.prog++Tryz.f3.resultTypes.toList).any (Tryz.pinned.checked.prog.veiledRec ·))=true:=by kernel_rfl
theorem Ro:(Rows.outcomeRemovedUptoRow.veiledFits Tryz.pinned.checked.prog Tryz.f3.params.toList (Tryz.f3.params.toList++(Rows.OpenSpec.upto Rows.outcomeRemovedSpec).bare.plain.varTypes Tryz.pinned.checked.prog++Tryz.f3.resultTypes.toList))=true:=by kernel_rfl
theorem DG{a b:Bool}(x:a=true)(y:b=true):(a&&b)=true:=by rw[x,y];rfl
theorem LJ:joinedFacts Tryz.pinned.checked.prog 3 Tryz.f3 (Rows.OpenSpec.upto Rows.outcomeRemovedSpec).bare Rows.outcomeRemovedUptoRow=true:=by unfold joinedFacts;exact(DG (DG (DG (DG (DG (DG (DG (DG (DG (DG (DG (DG (DG (DG (DG (DG (DG (DG (DG (DG (DG (DG (DG (DG (DG (DG (DG (DG (DG (DG (DG bL bK) bJ) bI) bH) bG) bE) bD) bC) bB) SB) SA) R') R_) R9) R8) R7) R6) R5) R4) R3) R0) Rz) Ry) Rw) Rv) Ru) Rs) Rr) Rq) Rp) Ro)
theorem named:Tryz.pinned.checked.prog.funcNamed Rows.outcomeRemovedUptoRow.func=some 3:=by kernel_rfl
theorem KD:Func.isInstance Tryz.pinned.checked.prog Tryz.f3 Rows.outcomeRemovedUptoRow.origin Rows.outcomeRemovedUptoRow.targs:=of_decide_eq_true (by kernel_rfl)
theorem Mq:Func.isWrapper Tryz.pinned.checked.prog Tryz.f3 Rows.outcomeRemovedUptoRow.wrapper Rows.outcomeRemovedUptoRow.mainSum:=by unfold Func.isWrapper;first|(rw[if_pos (by decide+kernel)];kernel_rfl)|(rw[if_neg (by decide+kernel)];exact⟨rfl,rfl⟩)
end Go.Proofs.YtgamokchjocjaaaGreat.outcomeRemovedDone
