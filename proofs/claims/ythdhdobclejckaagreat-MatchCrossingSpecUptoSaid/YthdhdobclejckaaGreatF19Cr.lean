/- The facts of the statement MatchCrossingSpec's row, each by itself. -/
import Derived.Test.YthdhdobclejckaaGreatRows
import Derived.JoinedCond
import Derived.ProofKit
set_option maxRecDepth 100000
namespace Go.Proofs.YthdhdobclejckaaGreat.matchCrossingSpecDone
theorem fact0:(Rows.matchCrossingSpecUptoRow.wf (OpenSpec.ofChange (Rows.OpenSpec.upto Rows.matchCrossingSpecSpec).bare))=true:=by kernel_rfl
theorem fact1:(laidOutB Tryz.pinned.checked.prog)=true:=by kernel_rfl
theorem fact2:(mapsRowed Tryz.pinned.checked.prog)=true:=by kernel_rfl
theorem fact3:(Tryz.f4.params.all (Tryz.pinned.checked.prog.readableRec ·))=true:=by kernel_rfl
theorem fact4:(namedTie Tryz.pinned.checked.prog Rows.matchCrossingSpecUptoRow.named (Rows.OpenSpec.upto Rows.matchCrossingSpecSpec).bare.vars)=true:=by kernel_rfl
theorem fact5:(Rows.matchCrossingSpecUptoRow.stops==[])=true:=by kernel_rfl
theorem fact6:(Tryz.pinned.checked.prog.stops==[])=true:=by kernel_rfl
theorem fact7:(Rows.matchCrossingSpecUptoRow.knobs==[])=true:=by kernel_rfl
theorem fact8:(Tryz.pinned.checked.prog.stopKnobs==[])=true:=by kernel_rfl
theorem fact9:(Rows.matchCrossingSpecUptoRow.inPlace==Tryz.pinned.checked.prog.inPlace 4)=true:=by kernel_rfl
theorem fact10:(Rows.matchCrossingSpecUptoRow.unfollowed==Tryz.pinned.checked.prog.unfollowed 4)=true:=by kernel_rfl
theorem fact11:(Rows.matchCrossingSpecUptoRow.recurses==Tryz.pinned.checked.prog.recurses 4)=true:=by kernel_rfl
theorem fact12:(Rows.matchCrossingSpecUptoRow.named==Tryz.pinned.checked.prog.varsNamed 4)=true:=by kernel_rfl
theorem fact13:(Rows.matchCrossingSpecUptoRow.maps==(Tryz.f4.params.toList++(Rows.OpenSpec.upto Rows.matchCrossingSpecSpec).bare.plain.varTypes Tryz.pinned.checked.prog).any (Tryz.pinned.checked.prog.mapsRec ·))=true:=by kernel_rfl
theorem fact14:(Rows.matchCrossingSpecUptoRow.ifaces==(Tryz.f4.params.toList++(Rows.OpenSpec.upto Rows.matchCrossingSpecSpec).bare.plain.varTypes Tryz.pinned.checked.prog).any (Tryz.pinned.checked.prog.ifacesRec ·))=true:=by kernel_rfl
theorem fact15:(Rows.matchCrossingSpecUptoRow.mapsOut==Tryz.pinned.checked.prog.mapsAmong Tryz.f4.resultTypes.toList)=true:=by kernel_rfl
theorem fact16:(Rows.matchCrossingSpecUptoRow.loops==(Tryz.f4.params.toList++(Rows.OpenSpec.upto Rows.matchCrossingSpecSpec).bare.plain.varTypes Tryz.pinned.checked.prog).any (Tryz.pinned.checked.prog.loopsFrom ·))=true:=by kernel_rfl
theorem fact17:(Rows.matchCrossingSpecUptoRow.wideKeys==(Tryz.f4.params.toList++(Rows.OpenSpec.upto Rows.matchCrossingSpecSpec).bare.plain.varTypes Tryz.pinned.checked.prog++Tryz.f4.resultTypes.toList).any (Tryz.pinned.checked.prog.wideKeysFrom ·))=true:=by kernel_rfl
theorem fact18:((Rows.OpenSpec.upto Rows.matchCrossingSpecSpec).bare.vars.all (Tryz.pinned.checked.prog.varReadable ·))=true:=by kernel_rfl
theorem fact19:(Tryz.f4.resultTypes.all (λt=>Tryz.pinned.checked.prog.readableRec t&&decide (t<Tryz.pinned.checked.prog.types.size)))=true:=by kernel_rfl
theorem fact20:(Rows.matchCrossingSpecUptoRow.ifacesOut==Tryz.f4.resultTypes.toList.any (Tryz.pinned.checked.prog.ifacesRec ·))=true:=by kernel_rfl
theorem fact21:(Rows.matchCrossingSpecUptoRow.loopsOut==Tryz.f4.resultTypes.toList.any (Tryz.pinned.checked.prog.loopsFrom ·))=true:=by kernel_rfl
theorem fact22:(Rows.matchCrossingSpecUptoRow.plainKeys==Tryz.pinned.checked.prog.plainKeys)=true:=by kernel_rfl
theorem fact23:(Rows.matchCrossingSpecUptoRow.shortTexts.isNone)=true:=by kernel_rfl
theorem fact24:(Tryz.pinned.checked.prog.stopsHeard)=true:=by kernel_rfl
theorem fact25:(Tryz.pinned.checked.prog.mayEnter)=true:=by kernel_rfl
theorem fact26:(Rows.matchCrossingSpecUptoRow.lifted==Tryz.pinned.checked.prog.liftsFinal)=true:=by kernel_rfl
theorem fact27:(Tryz.pinned.checked.prog.make==some Rows.matchCrossingSpecUptoRow.make)=true:=by kernel_rfl
theorem fact28:(Rows.matchCrossingSpecUptoRow.kinds==(if Rows.matchCrossingSpecUptoRow.domain.isEmpty then[]else Tryz.f4.params.toList.map λt=>match Tryz.pinned.checked.prog.underlying t with|some (.int k)=>some k|_=>none))=true:=by kernel_rfl
theorem fact29:(Rows.matchCrossingSpecUptoRow.pinned==Rows.matchCrossingSpecUptoRow.pinnedBy)=true:=by kernel_rfl
theorem fact30:(Rows.matchCrossingSpecUptoRow.veiled==(Tryz.f4.params.toList++(Rows.OpenSpec.upto Rows.matchCrossingSpecSpec).bare.plain.varTypes Tryz.pinned.checked.prog++Tryz.f4.resultTypes.toList).any (Tryz.pinned.checked.prog.veiledRec ·))=true:=by kernel_rfl
theorem fact31:(Rows.matchCrossingSpecUptoRow.veiledFits Tryz.pinned.checked.prog Tryz.f4.params.toList (Tryz.f4.params.toList++(Rows.OpenSpec.upto Rows.matchCrossingSpecSpec).bare.plain.varTypes Tryz.pinned.checked.prog++Tryz.f4.resultTypes.toList))=true:=by kernel_rfl
theorem and2{a b:Bool}(x:a=true)(y:b=true):(a&&b)=true:=by rw[x,y];rfl
theorem facts:joinedFacts Tryz.pinned.checked.prog 4 Tryz.f4 (Rows.OpenSpec.upto Rows.matchCrossingSpecSpec).bare Rows.matchCrossingSpecUptoRow=true:=by unfold joinedFacts;exact(and2 (and2 (and2 (and2 (and2 (and2 (and2 (and2 (and2 (and2 (and2 (and2 (and2 (and2 (and2 (and2 (and2 (and2 (and2 (and2 (and2 (and2 (and2 (and2 (and2 (and2 (and2 (and2 (and2 (and2 (and2 fact0 fact1) fact2) fact3) fact4) fact5) fact6) fact7) fact8) fact9) fact10) fact11) fact12) fact13) fact14) fact15) fact16) fact17) fact18) fact19) fact20) fact21) fact22) fact23) fact24) fact25) fact26) fact27) fact28) fact29) fact30) fact31)
theorem named:Tryz.pinned.checked.prog.funcNamed Rows.matchCrossingSpecUptoRow.func=some 4:=by kernel_rfl
theorem instanced:Func.isInstance Tryz.pinned.checked.prog Tryz.f4 Rows.matchCrossingSpecUptoRow.origin Rows.matchCrossingSpecUptoRow.targs:=of_decide_eq_true (by kernel_rfl)
theorem wrapped:Func.isWrapper Tryz.pinned.checked.prog Tryz.f4 Rows.matchCrossingSpecUptoRow.wrapper Rows.matchCrossingSpecUptoRow.mainSum:=by unfold Func.isWrapper;first|(rw[if_pos (by decide+kernel)];kernel_rfl)|(rw[if_neg (by decide+kernel)];exact⟨rfl,rfl⟩)
end Go.Proofs.YthdhdobclejckaaGreat.matchCrossingSpecDone
