/- The L1 of the statement OutcomeOf's row, each by itself. -/
import Derived.Test.YtmaeahbcmjpfpaaGreatRows
import Derived.JoinedCond
import Derived.ProofKit
set_option maxRecDepth 100000
namespace Go.Proofs.YtmaeahbcmjpfpaaGreat.outcomeOfDone
theorem dR:(Rows.outcomeOfUptoRow.wf (OpenSpec.ofChange (Rows.OpenSpec.upto Rows.outcomeOfSpec).bare))=true:=by kernel_rfl
theorem dQ:(laidOutB Tryz.pinned.checked.prog)=true:=by kernel_rfl
theorem dP:(mapsRowed Tryz.pinned.checked.prog)=true:=by kernel_rfl
theorem dO:(Tryz.f3.params.all (Tryz.pinned.checked.prog.readableRec ·))=true:=by kernel_rfl
theorem dN:(namedTie Tryz.pinned.checked.prog Rows.outcomeOfUptoRow.named (Rows.OpenSpec.upto Rows.outcomeOfSpec).bare.vars)=true:=by kernel_rfl
theorem dM:(Rows.outcomeOfUptoRow.stops==[])=true:=by kernel_rfl
theorem dL:(Tryz.pinned.checked.prog.stops==[])=true:=by kernel_rfl
theorem dK:(Rows.outcomeOfUptoRow.knobs==[])=true:=by kernel_rfl
theorem dJ:(Tryz.pinned.checked.prog.stopKnobs==[])=true:=by kernel_rfl
theorem dI:(Rows.outcomeOfUptoRow.inPlace==Tryz.pinned.checked.prog.inPlace 3)=true:=by kernel_rfl
theorem Tg:(Rows.outcomeOfUptoRow.unfollowed==Tryz.pinned.checked.prog.unfollowed 3)=true:=by kernel_rfl
theorem Tf:(Rows.outcomeOfUptoRow.recurses==Tryz.pinned.checked.prog.recurses 3)=true:=by kernel_rfl
theorem Te:(Rows.outcomeOfUptoRow.named==Tryz.pinned.checked.prog.varsNamed 3)=true:=by kernel_rfl
theorem Td:(Rows.outcomeOfUptoRow.maps==(Tryz.f3.params.toList++(Rows.OpenSpec.upto Rows.outcomeOfSpec).bare.plain.varTypes Tryz.pinned.checked.prog).any (Tryz.pinned.checked.prog.mapsRec ·))=true:=by kernel_rfl
theorem Tc:(Rows.outcomeOfUptoRow.ifaces==(Tryz.f3.params.toList++(Rows.OpenSpec.upto Rows.outcomeOfSpec).bare.plain.varTypes Tryz.pinned.checked.prog).any (Tryz.pinned.checked.prog.ifacesRec ·))=true:=by kernel_rfl
theorem Tb:(Rows.outcomeOfUptoRow.mapsOut==Tryz.pinned.checked.prog.mapsAmong Tryz.f3.resultTypes.toList)=true:=by kernel_rfl
theorem Ta:(Rows.outcomeOfUptoRow.loops==(Tryz.f3.params.toList++(Rows.OpenSpec.upto Rows.outcomeOfSpec).bare.plain.varTypes Tryz.pinned.checked.prog).any (Tryz.pinned.checked.prog.loopsFrom ·))=true:=by kernel_rfl
theorem TZ:(Rows.outcomeOfUptoRow.wideKeys==(Tryz.f3.params.toList++(Rows.OpenSpec.upto Rows.outcomeOfSpec).bare.plain.varTypes Tryz.pinned.checked.prog++Tryz.f3.resultTypes.toList).any (Tryz.pinned.checked.prog.wideKeysFrom ·))=true:=by kernel_rfl
theorem TY:((Rows.OpenSpec.upto Rows.outcomeOfSpec).bare.vars.all (Tryz.pinned.checked.prog.varReadable ·))=true:=by kernel_rfl
theorem TX:(Tryz.f3.resultTypes.all (λt=>Tryz.pinned.checked.prog.readableRec t&&decide (t<Tryz.pinned.checked.prog.types.size)))=true:=by kernel_rfl
theorem TW:(Rows.outcomeOfUptoRow.ifacesOut==Tryz.f3.resultTypes.toList.any (Tryz.pinned.checked.prog.ifacesRec ·))=true:=by kernel_rfl
theorem TV:(Rows.outcomeOfUptoRow.loopsOut==Tryz.f3.resultTypes.toList.any (Tryz.pinned.checked.prog.loopsFrom ·))=true:=by kernel_rfl
theorem TU:(Rows.outcomeOfUptoRow.plainKeys==Tryz.pinned.checked.prog.plainKeys)=true:=by kernel_rfl
theorem TT:(Rows.outcomeOfUptoRow.shortTexts.isNone)=true:=by kernel_rfl
theorem TS:(Tryz.pinned.checked.prog.stopsHeard)=true:=by kernel_rfl
theorem TR:(Tryz.pinned.checked.prog.mayEnter)=true:=by kernel_rfl
theorem TQ:(Rows.outcomeOfUptoRow.lifted==Tryz.pinned.checked.prog.liftsFinal)=true:=by kernel_rfl
theorem TP:(Tryz.pinned.checked.prog.make==some Rows.outcomeOfUptoRow.make)=true:=by kernel_rfl
theorem TO:(Rows.outcomeOfUptoRow.kinds==(if Rows.outcomeOfUptoRow.domain.isEmpty then[]else Tryz.f3.params.toList.map λt=>match Tryz.pinned.checked.prog.underlying t with|some (.int k)=>some k|_=>none))=true:=by kernel_rfl
theorem TN:(Rows.outcomeOfUptoRow.pinned==Rows.outcomeOfUptoRow.pinnedBy)=true:=by kernel_rfl
theorem TM:(Rows.outcomeOfUptoRow.veiled==(Tryz.f3.params.toList++(Rows.OpenSpec.upto Rows.outcomeOfSpec).bare.plain.varTypes Tryz.pinned.checked.prog++Tryz.f3.resultTypes.toList).any (Tryz.pinned.checked.prog.veiledRec ·))=true:=by kernel_rfl
theorem TK:(Rows.outcomeOfUptoRow.veiledFits Tryz.pinned.checked.prog Tryz.f3.params.toList (Tryz.f3.params.toList++(Rows.OpenSpec.upto Rows.outcomeOfSpec).bare.plain.varTypes Tryz.pinned.checked.prog++Tryz.f3.resultTypes.toList))=true:=by kernel_rfl
theorem DR{a b:Bool}(x:a=true)(y:b=true):(a&&b)=true:=by rw[x,y];rfl
theorem L1:joinedFacts Tryz.pinned.checked.prog 3 Tryz.f3 (Rows.OpenSpec.upto Rows.outcomeOfSpec).bare Rows.outcomeOfUptoRow=true:=by unfold joinedFacts;exact(DR (DR (DR (DR (DR (DR (DR (DR (DR (DR (DR (DR (DR (DR (DR (DR (DR (DR (DR (DR (DR (DR (DR (DR (DR (DR (DR (DR (DR (DR (DR dR dQ) dP) dO) dN) dM) dL) dK) dJ) dI) Tg) Tf) Te) Td) Tc) Tb) Ta) TZ) TY) TX) TW) TV) TU) TT) TS) TR) TQ) TP) TO) TN) TM) TK)
theorem named:Tryz.pinned.checked.prog.funcNamed Rows.outcomeOfUptoRow.func=some 3:=by kernel_rfl
theorem Ke:Func.isInstance Tryz.pinned.checked.prog Tryz.f3 Rows.outcomeOfUptoRow.origin Rows.outcomeOfUptoRow.targs:=of_decide_eq_true (by kernel_rfl)
theorem Nj:Func.isWrapper Tryz.pinned.checked.prog Tryz.f3 Rows.outcomeOfUptoRow.wrapper Rows.outcomeOfUptoRow.mainSum:=by unfold Func.isWrapper;first|(rw[if_pos (by decide+kernel)];kernel_rfl)|(rw[if_neg (by decide+kernel)];exact⟨rfl,rfl⟩)
end Go.Proofs.YtmaeahbcmjpfpaaGreat.outcomeOfDone
