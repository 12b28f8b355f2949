/- The facts of the statement PenaltiesCasesSpec's row, each by itself. -/
import Derived.Test.YtdlojdpflfdgcaaGreatDoorRows
import Derived.JoinedCond
import Derived.ProofKit
set_option maxRecDepth 100000
namespace Go.Proofs.YtdlojdpflfdgcaaGreatDoor.penaltiesCasesSpecDone
theorem fact0:(Rows.penaltiesCasesSpecUptoRow.wf (OpenSpec.ofChange (Rows.OpenSpec.upto Rows.penaltiesCasesSpecSpec).bare))=true:=by kernel_rfl
theorem fact1:(laidOutB Tryz.pinned.checked.prog)=true:=by kernel_rfl
theorem fact2:(mapsRowed Tryz.pinned.checked.prog)=true:=by kernel_rfl
theorem fact3:(Tryz.f3.params.all (Tryz.pinned.checked.prog.readableRec ·))=true:=by kernel_rfl
theorem fact4:(namedTie Tryz.pinned.checked.prog Rows.penaltiesCasesSpecUptoRow.named (Rows.OpenSpec.upto Rows.penaltiesCasesSpecSpec).bare.vars)=true:=by kernel_rfl
theorem fact5:(Rows.penaltiesCasesSpecUptoRow.stops==[])=true:=by kernel_rfl
theorem fact6:(Tryz.pinned.checked.prog.stops==[])=true:=by kernel_rfl
theorem fact7:(Rows.penaltiesCasesSpecUptoRow.knobs==[])=true:=by kernel_rfl
theorem fact8:(Tryz.pinned.checked.prog.stopKnobs==[])=true:=by kernel_rfl
theorem fact9:(Rows.penaltiesCasesSpecUptoRow.inPlace==Tryz.pinned.checked.prog.inPlace 3)=true:=by kernel_rfl
theorem fact10:(Rows.penaltiesCasesSpecUptoRow.unfollowed==Tryz.pinned.checked.prog.unfollowed 3)=true:=by kernel_rfl
theorem fact11:(Rows.penaltiesCasesSpecUptoRow.recurses==Tryz.pinned.checked.prog.recurses 3)=true:=by kernel_rfl
theorem fact12:(Rows.penaltiesCasesSpecUptoRow.named==Tryz.pinned.checked.prog.varsNamed 3)=true:=by kernel_rfl
theorem fact13:(Rows.penaltiesCasesSpecUptoRow.maps==(Tryz.f3.params.toList++(Rows.OpenSpec.upto Rows.penaltiesCasesSpecSpec).bare.plain.varTypes Tryz.pinned.checked.prog).any (Tryz.pinned.checked.prog.mapsRec ·))=true:=by kernel_rfl
theorem fact14:(Rows.penaltiesCasesSpecUptoRow.ifaces==(Tryz.f3.params.toList++(Rows.OpenSpec.upto Rows.penaltiesCasesSpecSpec).bare.plain.varTypes Tryz.pinned.checked.prog).any (Tryz.pinned.checked.prog.ifacesRec ·))=true:=by kernel_rfl
theorem fact15:(Rows.penaltiesCasesSpecUptoRow.mapsOut==Tryz.pinned.checked.prog.mapsAmong Tryz.f3.resultTypes.toList)=true:=by kernel_rfl
theorem fact16:(Rows.penaltiesCasesSpecUptoRow.loops==(Tryz.f3.params.toList++(Rows.OpenSpec.upto Rows.penaltiesCasesSpecSpec).bare.plain.varTypes Tryz.pinned.checked.prog).any (Tryz.pinned.checked.prog.loopsFrom ·))=true:=by kernel_rfl
theorem fact17:(Rows.penaltiesCasesSpecUptoRow.wideKeys==(Tryz.f3.params.toList++(Rows.OpenSpec.upto Rows.penaltiesCasesSpecSpec).bare.plain.varTypes Tryz.pinned.checked.prog++Tryz.f3.resultTypes.toList).any (Tryz.pinned.checked.prog.wideKeysFrom ·))=true:=by kernel_rfl
theorem fact18:((Rows.OpenSpec.upto Rows.penaltiesCasesSpecSpec).bare.vars.all (Tryz.pinned.checked.prog.varReadable ·))=true:=by kernel_rfl
theorem fact19:(Tryz.f3.resultTypes.all (λt=>Tryz.pinned.checked.prog.readableRec t&&decide (t<Tryz.pinned.checked.prog.types.size)))=true:=by kernel_rfl
theorem fact20:(Rows.penaltiesCasesSpecUptoRow.ifacesOut==Tryz.f3.resultTypes.toList.any (Tryz.pinned.checked.prog.ifacesRec ·))=true:=by kernel_rfl
theorem fact21:(Rows.penaltiesCasesSpecUptoRow.loopsOut==Tryz.f3.resultTypes.toList.any (Tryz.pinned.checked.prog.loopsFrom ·))=true:=by kernel_rfl
theorem fact22:(Rows.penaltiesCasesSpecUptoRow.plainKeys==Tryz.pinned.checked.prog.plainKeys)=true:=by kernel_rfl
theorem fact23:(Rows.penaltiesCasesSpecUptoRow.shortTexts.isNone)=true:=by kernel_rfl
theorem fact24:(Tryz.pinned.checked.prog.stopsHeard)=true:=by kernel_rfl
theorem fact25:(Tryz.pinned.checked.prog.mayEnter)=true:=by kernel_rfl
theorem fact26:(Rows.penaltiesCasesSpecUptoRow.lifted==Tryz.pinned.checked.prog.liftsFinal)=true:=by kernel_rfl
theorem fact27:(Tryz.pinned.checked.prog.make==some Rows.penaltiesCasesSpecUptoRow.make)=true:=by kernel_rfl
theorem fact28:(Rows.penaltiesCasesSpecUptoRow.kinds==(if Rows.penaltiesCasesSpecUptoRow.domain.isEmpty then[]else Tryz.f3.params.toList.map λt=>match Tryz.pinned.checked.prog.underlying t with|some (.int k)=>some k|_=>none))=true:=by kernel_rfl
theorem fact29:(Rows.penaltiesCasesSpecUptoRow.pinned==Rows.penaltiesCasesSpecUptoRow.pinnedBy)=true:=by kernel_rfl
theorem fact30:(Rows.penaltiesCasesSpecUptoRow.veiled==(Tryz.f3.params.toList++(Rows.OpenSpec.upto Rows.penaltiesCasesSpecSpec).bare.plain.varTypes Tryz.pinned.checked.prog++Tryz.f3.resultTypes.toList).any (Tryz.pinned.checked.prog.veiledRec ·))=true:=by kernel_rfl
theorem fact31:(Rows.penaltiesCasesSpecUptoRow.veiledFits Tryz.pinned.checked.prog Tryz.f3.params.toList (Tryz.f3.params.toList++(Rows.OpenSpec.upto Rows.penaltiesCasesSpecSpec).bare.plain.varTypes Tryz.pinned.checked.prog++Tryz.f3.resultTypes.toList))=true:=by kernel_rfl
theorem and2{a b:Bool}(x:a=true)(y:b=true):(a&&b)=true:=by rw[x,y];rfl
theorem facts:joinedFacts Tryz.pinned.checked.prog 3 Tryz.f3 (Rows.OpenSpec.upto Rows.penaltiesCasesSpecSpec).bare Rows.penaltiesCasesSpecUptoRow=true:=by unfold joinedFacts;exact(and2 (and2 (and2 (and2 (and2 (and2 (and2 (and2 (and2 (and2 (and2 (and2 (and2 (and2 (and2 (and2 (and2 (and2 (and2 (and2 (and2 (and2 (and2 (and2 (and2 (and2 (and2 (and2 (and2 (and2 (and2 fact0 fact1) fact2) fact3) fact4) fact5) fact6) fact7) fact8) fact9) fact10) fact11) fact12) fact13) fact14) fact15) fact16) fact17) fact18) fact19) fact20) fact21) fact22) fact23) fact24) fact25) fact26) fact27) fact28) fact29) fact30) fact31)
theorem named:Tryz.pinned.checked.prog.funcNamed Rows.penaltiesCasesSpecUptoRow.func=some 3:=by kernel_rfl
theorem instanced:Func.isInstance Tryz.pinned.checked.prog Tryz.f3 Rows.penaltiesCasesSpecUptoRow.origin Rows.penaltiesCasesSpecUptoRow.targs:=of_decide_eq_true (by kernel_rfl)
theorem wrapped:Func.isWrapper Tryz.pinned.checked.prog Tryz.f3 Rows.penaltiesCasesSpecUptoRow.wrapper Rows.penaltiesCasesSpecUptoRow.mainSum:=by unfold Func.isWrapper;first|(rw[if_pos (by decide+kernel)];kernel_rfl)|(rw[if_neg (by decide+kernel)];exact⟨rfl,rfl⟩)
end Go.Proofs.YtdlojdpflfdgcaaGreatDoor.penaltiesCasesSpecDone
