/- The facts of the statement MatchHands's row, each by itself. -/
import Derived.Test.YthdhdobclejckaaGreatRows
import Derived.JoinedCond
import Derived.ProofKit
set_option maxRecDepth 100000
namespace Go.Proofs.YthdhdobclejckaaGreat.matchHandsDone
theorem fact0:(Rows.matchHandsUptoRow.wf (OpenSpec.ofChange (Rows.OpenSpec.upto Rows.matchHandsSpec).bare))=true:=by kernel_rfl
theorem fact1:(laidOutB Tryz.pinned.checked.prog)=true:=by kernel_rfl
theorem fact2:(mapsRowed Tryz.pinned.checked.prog)=true:=by kernel_rfl
theorem fact3:(Tryz.f7.params.all (Tryz.pinned.checked.prog.readableRec ·))=true:=by kernel_rfl
theorem fact4:(namedTie Tryz.pinned.checked.prog Rows.matchHandsUptoRow.named (Rows.OpenSpec.upto Rows.matchHandsSpec).bare.vars)=true:=by kernel_rfl
theorem fact5:(Rows.matchHandsUptoRow.stops==[])=true:=by kernel_rfl
theorem fact6:(Tryz.pinned.checked.prog.stops==[])=true:=by kernel_rfl
theorem fact7:(Rows.matchHandsUptoRow.knobs==[])=true:=by kernel_rfl
theorem fact8:(Tryz.pinned.checked.prog.stopKnobs==[])=true:=by kernel_rfl
theorem fact9:(Rows.matchHandsUptoRow.inPlace==Tryz.pinned.checked.prog.inPlace 7)=true:=by kernel_rfl
theorem fact10:(Rows.matchHandsUptoRow.unfollowed==Tryz.pinned.checked.prog.unfollowed 7)=true:=by kernel_rfl
theorem fact11:(Rows.matchHandsUptoRow.recurses==Tryz.pinned.checked.prog.recurses 7)=true:=by kernel_rfl
theorem fact12:(Rows.matchHandsUptoRow.named==Tryz.pinned.checked.prog.varsNamed 7)=true:=by kernel_rfl
theorem fact13:(Rows.matchHandsUptoRow.maps==(Tryz.f7.params.toList++(Rows.OpenSpec.upto Rows.matchHandsSpec).bare.plain.varTypes Tryz.pinned.checked.prog).any (Tryz.pinned.checked.prog.mapsRec ·))=true:=by kernel_rfl
theorem fact14:(Rows.matchHandsUptoRow.ifaces==(Tryz.f7.params.toList++(Rows.OpenSpec.upto Rows.matchHandsSpec).bare.plain.varTypes Tryz.pinned.checked.prog).any (Tryz.pinned.checked.prog.ifacesRec ·))=true:=by kernel_rfl
theorem fact15:(Rows.matchHandsUptoRow.mapsOut==Tryz.pinned.checked.prog.mapsAmong Tryz.f7.resultTypes.toList)=true:=by kernel_rfl
theorem fact16:(Rows.matchHandsUptoRow.loops==(Tryz.f7.params.toList++(Rows.OpenSpec.upto Rows.matchHandsSpec).bare.plain.varTypes Tryz.pinned.checked.prog).any (Tryz.pinned.checked.prog.loopsFrom ·))=true:=by kernel_rfl
theorem fact17:(Rows.matchHandsUptoRow.wideKeys==(Tryz.f7.params.toList++(Rows.OpenSpec.upto Rows.matchHandsSpec).bare.plain.varTypes Tryz.pinned.checked.prog++Tryz.f7.resultTypes.toList).any (Tryz.pinned.checked.prog.wideKeysFrom ·))=true:=by kernel_rfl
theorem fact18:((Rows.OpenSpec.upto Rows.matchHandsSpec).bare.vars.all (Tryz.pinned.checked.prog.varReadable ·))=true:=by kernel_rfl
theorem fact19:(Tryz.f7.resultTypes.all (λt=>Tryz.pinned.checked.prog.readableRec t&&decide (t<Tryz.pinned.checked.prog.types.size)))=true:=by kernel_rfl
theorem fact20:(Rows.matchHandsUptoRow.ifacesOut==Tryz.f7.resultTypes.toList.any (Tryz.pinned.checked.prog.ifacesRec ·))=true:=by kernel_rfl
theorem fact21:(Rows.matchHandsUptoRow.loopsOut==Tryz.f7.resultTypes.toList.any (Tryz.pinned.checked.prog.loopsFrom ·))=true:=by kernel_rfl
theorem fact22:(Rows.matchHandsUptoRow.plainKeys==Tryz.pinned.checked.prog.plainKeys)=true:=by kernel_rfl
theorem fact23:(Rows.matchHandsUptoRow.shortTexts.isNone)=true:=by kernel_rfl
theorem fact24:(Tryz.pinned.checked.prog.stopsHeard)=true:=by kernel_rfl
theorem fact25:(Tryz.pinned.checked.prog.mayEnter)=true:=by kernel_rfl
theorem fact26:(Rows.matchHandsUptoRow.lifted==Tryz.pinned.checked.prog.liftsFinal)=true:=by kernel_rfl
theorem fact27:(Tryz.pinned.checked.prog.make==some Rows.matchHandsUptoRow.make)=true:=by kernel_rfl
theorem fact28:(Rows.matchHandsUptoRow.kinds==(if Rows.matchHandsUptoRow.domain.isEmpty then[]else Tryz.f7.params.toList.map λt=>match Tryz.pinned.checked.prog.underlying t with|some (.int k)=>some k|_=>none))=true:=by kernel_rfl
theorem fact29:(Rows.matchHandsUptoRow.pinned==Rows.matchHandsUptoRow.pinnedBy)=true:=by kernel_rfl
theorem fact30:(Rows.matchHandsUptoRow.veiled==(Tryz.f7.params.toList++(Rows.OpenSpec.upto Rows.matchHandsSpec).bare.plain.varTypes Tryz.pinned.checked.prog++Tryz.f7.resultTypes.toList).any (Tryz.pinned.checked.prog.veiledRec ·))=true:=by kernel_rfl
theorem fact31:(Rows.matchHandsUptoRow.veiledFits Tryz.pinned.checked.prog Tryz.f7.params.toList (Tryz.f7.params.toList++(Rows.OpenSpec.upto Rows.matchHandsSpec).bare.plain.varTypes Tryz.pinned.checked.prog++Tryz.f7.resultTypes.toList))=true:=by kernel_rfl
theorem and2{a b:Bool}(x:a=true)(y:b=true):(a&&b)=true:=by rw[x,y];rfl
theorem facts:joinedFacts Tryz.pinned.checked.prog 7 Tryz.f7 (Rows.OpenSpec.upto Rows.matchHandsSpec).bare Rows.matchHandsUptoRow=true:=by unfold joinedFacts;exact(and2 (and2 (and2 (and2 (and2 (and2 (and2 (and2 (and2 (and2 (and2 (and2 (and2 (and2 (and2 (and2 (and2 (and2 (and2 (and2 (and2 (and2 (and2 (and2 (and2 (and2 (and2 (and2 (and2 (and2 (and2 fact0 fact1) fact2) fact3) fact4) fact5) fact6) fact7) fact8) fact9) fact10) fact11) fact12) fact13) fact14) fact15) fact16) fact17) fact18) fact19) fact20) fact21) fact22) fact23) fact24) fact25) fact26) fact27) fact28) fact29) fact30) fact31)
theorem named:Tryz.pinned.checked.prog.funcNamed Rows.matchHandsUptoRow.func=some 7:=by kernel_rfl
theorem instanced:Func.isInstance Tryz.pinned.checked.prog Tryz.f7 Rows.matchHandsUptoRow.origin Rows.matchHandsUptoRow.targs:=of_decide_eq_true (by kernel_rfl)
theorem wrapped:Func.isWrapper Tryz.pinned.checked.prog Tryz.f7 Rows.matchHandsUptoRow.wrapper Rows.matchHandsUptoRow.mainSum:=by unfold Func.isWrapper;first|(rw[if_pos (by decide+kernel)];kernel_rfl)|(rw[if_neg (by decide+kernel)];exact⟨rfl,rfl⟩)
end Go.Proofs.YthdhdobclejckaaGreat.matchHandsDone
