/- The Lt of the statement OutcomeWays's row, each by itself. -/
import Derived.Test.YtbiglpikpigidaaGreatRows
import Derived.JoinedCond
import Derived.ProofKit
set_option maxRecDepth 100000
namespace Go.Proofs.YtbiglpikpigidaaGreat.outcomeWaysDone
theorem cC:(Rows.outcomeWaysUptoRow.wf (OpenSpec.ofChange (Rows.OpenSpec.upto Rows.outcomeWaysSpec).bare))=true:=by kernel_rfl
theorem cB:(laidOutB Tryz.pinned.checked.prog)=true:=by kernel_rfl
theorem cA:(mapsRowed Tryz.pinned.checked.prog)=true:=by kernel_rfl
theorem b_:(Tryz.f5.params.all (Tryz.pinned.checked.prog.readableRec ·))=true:=by kernel_rfl
theorem b5:(namedTie Tryz.pinned.checked.prog Rows.outcomeWaysUptoRow.named (Rows.OpenSpec.upto Rows.outcomeWaysSpec).bare.vars)=true:=by kernel_rfl
theorem b4:(Rows.outcomeWaysUptoRow.stops==[])=true:=by kernel_rfl
theorem bt:(Tryz.pinned.checked.prog.stops==[])=true:=by kernel_rfl
theorem bZ:(Rows.outcomeWaysUptoRow.knobs==[])=true:=by kernel_rfl
theorem bY:(Tryz.pinned.checked.prog.stopKnobs==[])=true:=by kernel_rfl
theorem bX:(Rows.outcomeWaysUptoRow.inPlace==Tryz.pinned.checked.prog.inPlace 5)=true:=by kernel_rfl
theorem Se:(Rows.outcomeWaysUptoRow.unfollowed==Tryz.pinned.checked.prog.unfollowed 5)=true:=by kernel_rfl
theorem Sd:(Rows.outcomeWaysUptoRow.recurses==Tryz.pinned.checked.prog.recurses 5)=true:=by kernel_rfl
theorem Sc:(Rows.outcomeWaysUptoRow.named==Tryz.pinned.checked.prog.varsNamed 5)=true:=by kernel_rfl
theorem Sa:(Rows.outcomeWaysUptoRow.maps==(Tryz.f5.params.toList++(Rows.OpenSpec.upto Rows.outcomeWaysSpec).bare.plain.varTypes Tryz.pinned.checked.prog).any (Tryz.pinned.checked.prog.mapsRec ·))=true:=by kernel_rfl
theorem SZ:(Rows.outcomeWaysUptoRow.ifaces==(Tryz.f5.params.toList++(Rows.OpenSpec.upto Rows.outcomeWaysSpec).bare.plain.varTypes Tryz.pinned.checked.prog).any (Tryz.pinned.checked.prog.ifacesRec ·))=true:=by kernel_rfl
theorem SY:(Rows.outcomeWaysUptoRow.mapsOut==Tryz.pinned.checked.prog.mapsAmong Tryz.f5.resultTypes.toList)=true:=by kernel_rfl
theorem SX:(Rows.outcomeWaysUptoRow.loops==(Tryz.f5.params.toList++(Rows.OpenSpec.upto Rows.outcomeWaysSpec).bare.plain.varTypes Tryz.pinned.checked.prog).any (Tryz.pinned.checked.prog.loopsFrom ·))=true:=by kernel_rfl
theorem SW:(Rows.outcomeWaysUptoRow.wideKeys==(Tryz.f5.params.toList++(Rows.OpenSpec.upto Rows.outcomeWaysSpec).bare.plain.varTypes Tryz.pinned.checked.prog++Tryz.f5.resultTypes.toList).any (Tryz.pinned.checked.prog.wideKeysFrom ·))=true:=by kernel_rfl
theorem SV:((Rows.OpenSpec.upto Rows.outcomeWaysSpec).bare.vars.all (Tryz.pinned.checked.prog.varReadable ·))=true:=by kernel_rfl
theorem SU:(Tryz.f5.resultTypes.all (λt=>Tryz.pinned.checked.prog.readableRec t&&decide (t<Tryz.pinned.checked.prog.types.size)))=true:=by kernel_rfl
theorem ST:(Rows.outcomeWaysUptoRow.ifacesOut==Tryz.f5.resultTypes.toList.any (Tryz.pinned.checked.prog.ifacesRec ·))=true:=by kernel_rfl
theorem SS:(Rows.outcomeWaysUptoRow.loopsOut==Tryz.f5.resultTypes.toList.any (Tryz.pinned.checked.prog.loopsFrom ·))=true:=by kernel_rfl
theorem SQ:(Rows.outcomeWaysUptoRow.plainKeys==Tryz.pinned.checked.prog.plainKeys)=true:=by kernel_rfl
theorem SP:(Rows.outcomeWaysUptoRow.shortTexts.isNone)=true:=by kernel_rfl
theorem SN:(Tryz.pinned.checked.prog.stopsHeard)=true:=by kernel_rfl
theorem SM:(Tryz.pinned.checked.prog.mayEnter)=true:=by kernel_rfl
theorem SL:(Rows.outcomeWaysUptoRow.lifted==Tryz.pinned.checked.prog.liftsFinal)=true:=by kernel_rfl
theorem SK:(Tryz.pinned.checked.prog.make==some Rows.outcomeWaysUptoRow.make)=true:=by kernel_rfl
theorem SJ:(Rows.outcomeWaysUptoRow.kinds==(if Rows.outcomeWaysUptoRow.domain.isEmpty then[]else Tryz.f5.params.toList.map λt=>match Tryz.pinned.checked.prog.underlying t with|some (.int k)=>some k|_=>none))=true:=by kernel_rfl
theorem SI:(Rows.outcomeWaysUptoRow.pinned==Rows.outcomeWaysUptoRow.pinnedBy)=true:=by kernel_rfl
theorem SH:(Rows.outcomeWaysUptoRow.veiled==(Tryz.f5.params.toList++(Rows.OpenSpec.upto Rows.outcomeWaysSpec).bare.plain.varTypes Tryz.pinned.checked.prog++Tryz.f5.resultTypes.toList).any (Tryz.pinned.checked.prog.veiledRec ·))=true:=by kernel_rfl
theorem SG:(Rows.outcomeWaysUptoRow.veiledFits Tryz.pinned.checked.prog Tryz.f5.params.toList (Tryz.f5.params.toList++(Rows.OpenSpec.upto Rows.outcomeWaysSpec).bare.plain.varTypes Tryz.pinned.checked.prog++Tryz.f5.resultTypes.toList))=true:=by kernel_rfl
theorem DM{a b:Bool}(x:a=true)(y:b=true):(a&&b)=true:=by rw[x,y];rfl
theorem Lt:joinedFacts Tryz.pinned.checked.prog 5 Tryz.f5 (Rows.OpenSpec.upto Rows.outcomeWaysSpec).bare Rows.outcomeWaysUptoRow=true:=by unfold joinedFacts;exact(DM (DM (DM (DM (DM (DM (DM (DM (DM (DM (DM (DM (DM (DM (DM (DM (DM (DM (DM (DM (DM (DM (DM (DM (DM (DM (DM (DM (DM (DM (DM cC cB) cA) b_) b5) b4) bt) bZ) bY) bX) Se) Sd) Sc) Sa) SZ) SY) SX) SW) SV) SU) ST) SS) SQ) SP) SN) SM) SL) SK) SJ) SI) SH) SG)
theorem named:Tryz.pinned.checked.prog.funcNamed Rows.outcomeWaysUptoRow.func=some 5:=by kernel_rfl
theorem KY:Func.isInstance Tryz.pinned.checked.prog Tryz.f5 Rows.outcomeWaysUptoRow.origin Rows.outcomeWaysUptoRow.targs:=of_decide_eq_true (by kernel_rfl)
theorem NK:Func.isWrapper Tryz.pinned.checked.prog Tryz.f5 Rows.outcomeWaysUptoRow.wrapper Rows.outcomeWaysUptoRow.mainSum:=by unfold Func.isWrapper;first|(rw[if_pos (by decide+kernel)];kernel_rfl)|(rw[if_neg (by decide+kernel)];exact⟨rfl,rfl⟩)
end Go.Proofs.YtbiglpikpigidaaGreat.outcomeWaysDone
