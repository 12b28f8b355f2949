/- The Lk of the statement OutcomePenalty's row, each by itself. -/
import Derived.Test.YtbiglpikpigidaaGreatRows
import Derived.JoinedCond
import Derived.ProofKit
set_option maxRecDepth 100000
namespace Go.Proofs.YtbiglpikpigidaaGreat.outcomePenaltyDone
theorem cC:(Rows.outcomePenaltyUptoRow.wf (OpenSpec.ofChange (Rows.OpenSpec.upto Rows.outcomePenaltySpec).bare))=true:=by kernel_rfl
theorem cB:(laidOutB Tryz.pinned.checked.prog)=true:=by kernel_rfl
theorem cA:(mapsRowed Tryz.pinned.checked.prog)=true:=by kernel_rfl
theorem b_:(Tryz.f3.params.all (Tryz.pinned.checked.prog.readableRec ·))=true:=by kernel_rfl
theorem b9:(namedTie Tryz.pinned.checked.prog Rows.outcomePenaltyUptoRow.named (Rows.OpenSpec.upto Rows.outcomePenaltySpec).bare.vars)=true:=by kernel_rfl
theorem b5:(Rows.outcomePenaltyUptoRow.stops==[])=true:=by kernel_rfl
theorem b4:(Tryz.pinned.checked.prog.stops==[])=true:=by kernel_rfl
theorem bt:(Rows.outcomePenaltyUptoRow.knobs==[])=true:=by kernel_rfl
theorem bZ:(Tryz.pinned.checked.prog.stopKnobs==[])=true:=by kernel_rfl
theorem bY:(Rows.outcomePenaltyUptoRow.inPlace==Tryz.pinned.checked.prog.inPlace 3)=true:=by kernel_rfl
theorem Sc:(Rows.outcomePenaltyUptoRow.unfollowed==Tryz.pinned.checked.prog.unfollowed 3)=true:=by kernel_rfl
theorem Sa:(Rows.outcomePenaltyUptoRow.recurses==Tryz.pinned.checked.prog.recurses 3)=true:=by kernel_rfl
theorem SZ:(Rows.outcomePenaltyUptoRow.named==Tryz.pinned.checked.prog.varsNamed 3)=true:=by kernel_rfl
theorem SY:(Rows.outcomePenaltyUptoRow.maps==(Tryz.f3.params.toList++(Rows.OpenSpec.upto Rows.outcomePenaltySpec).bare.plain.varTypes Tryz.pinned.checked.prog).any (Tryz.pinned.checked.prog.mapsRec ·))=true:=by kernel_rfl
theorem SX:(Rows.outcomePenaltyUptoRow.ifaces==(Tryz.f3.params.toList++(Rows.OpenSpec.upto Rows.outcomePenaltySpec).bare.plain.varTypes Tryz.pinned.checked.prog).any (Tryz.pinned.checked.prog.ifacesRec ·))=true:=by kernel_rfl
theorem SW:(Rows.outcomePenaltyUptoRow.mapsOut==Tryz.pinned.checked.prog.mapsAmong Tryz.f3.resultTypes.toList)=true:=by kernel_rfl
theorem SV:(Rows.outcomePenaltyUptoRow.loops==(Tryz.f3.params.toList++(Rows.OpenSpec.upto Rows.outcomePenaltySpec).bare.plain.varTypes Tryz.pinned.checked.prog).any (Tryz.pinned.checked.prog.loopsFrom ·))=true:=by kernel_rfl
theorem SU:(Rows.outcomePenaltyUptoRow.wideKeys==(Tryz.f3.params.toList++(Rows.OpenSpec.upto Rows.outcomePenaltySpec).bare.plain.varTypes Tryz.pinned.checked.prog++Tryz.f3.resultTypes.toList).any (Tryz.pinned.checked.prog.wideKeysFrom ·))=true:=by kernel_rfl
theorem ST:((Rows.OpenSpec.upto Rows.outcomePenaltySpec).bare.vars.all (Tryz.pinned.checked.prog.varReadable ·))=true:=by kernel_rfl
theorem SS:(Tryz.f3.resultTypes.all (λt=>Tryz.pinned.checked.prog.readableRec t&&decide (t<Tryz.pinned.checked.prog.types.size)))=true:=by kernel_rfl
theorem SQ:(Rows.outcomePenaltyUptoRow.ifacesOut==Tryz.f3.resultTypes.toList.any (Tryz.pinned.checked.prog.ifacesRec ·))=true:=by kernel_rfl
theorem SP:(Rows.outcomePenaltyUptoRow.loopsOut==Tryz.f3.resultTypes.toList.any (Tryz.pinned.checked.prog.loopsFrom ·))=true:=by kernel_rfl
theorem SN:(Rows.outcomePenaltyUptoRow.plainKeys==Tryz.pinned.checked.prog.plainKeys)=true:=by kernel_rfl
theorem SM:(Rows.outcomePenaltyUptoRow.shortTexts.isNone)=true:=by kernel_rfl
theorem SL:(Tryz.pinned.checked.prog.stopsHeard)=true:=by kernel_rfl
theorem SK:(Tryz.pinned.checked.prog.mayEnter)=true:=by kernel_rfl
theorem SJ:(Rows.outcomePenaltyUptoRow.lifted==Tryz.pinned.checked.prog.liftsFinal)=true:=by kernel_rfl
theorem SI:(Tryz.pinned.checked.prog.make==some Rows.outcomePenaltyUptoRow.make)=true:=by kernel_rfl
theorem SH:(Rows.outcomePenaltyUptoRow.kinds==(if Rows.outcomePenaltyUptoRow.domain.isEmpty then[]else Tryz.f3.params.toList.map λt=>match Tryz.pinned.checked.prog.underlying t with|some (.int k)=>some k|_=>none))=true:=by kernel_rfl
theorem SG:(Rows.outcomePenaltyUptoRow.pinned==Rows.outcomePenaltyUptoRow.pinnedBy)=true:=by kernel_rfl
theorem SF:(Rows.outcomePenaltyUptoRow.veiled==(Tryz.f3.params.toList++(Rows.OpenSpec.upto Rows.outcomePenaltySpec).bare.plain.varTypes Tryz.pinned.checked.prog++Tryz.f3.resultTypes.toList).any (Tryz.pinned.checked.prog.veiledRec ·))=true:=by kernel_rfl
theorem SE:(Rows.outcomePenaltyUptoRow.veiledFits Tryz.pinned.checked.prog Tryz.f3.params.toList (Tryz.f3.params.toList++(Rows.OpenSpec.upto Rows.outcomePenaltySpec).bare.plain.varTypes Tryz.pinned.checked.prog++Tryz.f3.resultTypes.toList))=true:=by kernel_rfl
theorem DJ{a b:Bool}(x:a=true)(y:b=true):(a&&b)=true:=by rw[x,y];rfl
theorem Lk:joinedFacts Tryz.pinned.checked.prog 3 Tryz.f3 (Rows.OpenSpec.upto Rows.outcomePenaltySpec).bare Rows.outcomePenaltyUptoRow=true:=by unfold joinedFacts;exact(DJ (DJ (DJ (DJ (DJ (DJ (DJ (DJ (DJ (DJ (DJ (DJ (DJ (DJ (DJ (DJ (DJ (DJ (DJ (DJ (DJ (DJ (DJ (DJ (DJ (DJ (DJ (DJ (DJ (DJ (DJ cC cB) cA) b_) b9) b5) b4) bt) bZ) bY) Sc) Sa) SZ) SY) SX) SW) SV) SU) ST) SS) SQ) SP) SN) SM) SL) SK) SJ) SI) SH) SG) SF) SE)
theorem named:Tryz.pinned.checked.prog.funcNamed Rows.outcomePenaltyUptoRow.func=some 3:=by kernel_rfl
theorem Ka:Func.isInstance Tryz.pinned.checked.prog Tryz.f3 Rows.outcomePenaltyUptoRow.origin Rows.outcomePenaltyUptoRow.targs:=of_decide_eq_true (by kernel_rfl)
theorem NF:Func.isWrapper Tryz.pinned.checked.prog Tryz.f3 Rows.outcomePenaltyUptoRow.wrapper Rows.outcomePenaltyUptoRow.mainSum:=by unfold Func.isWrapper;first|(rw[if_pos (by decide+kernel)];kernel_rfl)|(rw[if_neg (by decide+kernel)];exact⟨rfl,rfl⟩)
end Go.Proofs.YtbiglpikpigidaaGreat.outcomePenaltyDone
