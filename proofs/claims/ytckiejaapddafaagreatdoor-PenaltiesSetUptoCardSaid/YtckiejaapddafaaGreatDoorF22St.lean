/- The facts of the statement PenaltiesSet's row, each by itself. -/
import Derived.Test.YtckiejaapddafaaGreatDoorRows
import Derived.JoinedCond
import Derived.ProofKit
set_option maxRecDepth 100000
namespace Go.Proofs.YtckiejaapddafaaGreatDoor.penaltiesSetDone
theorem fact0:(Rows.penaltiesSetUptoRow.wf (OpenSpec.ofChange (Rows.OpenSpec.upto Rows.penaltiesSetSpec).bare))=true:=by kernel_rfl
theorem fact1:(laidOutB Tryz.pinned.checked.prog)=true:=by kernel_rfl
theorem fact2:(mapsRowed Tryz.pinned.checked.prog)=true:=by kernel_rfl
theorem fact3:(Tryz.f8.params.all (Tryz.pinned.checked.prog.readableRec ·))=true:=by kernel_rfl
theorem fact4:(namedTie Tryz.pinned.checked.prog Rows.penaltiesSetUptoRow.named (Rows.OpenSpec.upto Rows.penaltiesSetSpec).bare.vars)=true:=by kernel_rfl
theorem fact5:(Rows.penaltiesSetUptoRow.stops==[])=true:=by kernel_rfl
theorem fact6:(Tryz.pinned.checked.prog.stops==[])=true:=by kernel_rfl
theorem fact7:(Rows.penaltiesSetUptoRow.knobs==[])=true:=by kernel_rfl
theorem fact8:(Tryz.pinned.checked.prog.stopKnobs==[])=true:=by kernel_rfl
theorem fact9:(Rows.penaltiesSetUptoRow.inPlace==Tryz.pinned.checked.prog.inPlace 8)=true:=by kernel_rfl
theorem fact10:(Rows.penaltiesSetUptoRow.unfollowed==Tryz.pinned.checked.prog.unfollowed 8)=true:=by kernel_rfl
theorem fact11:(Rows.penaltiesSetUptoRow.recurses==Tryz.pinned.checked.prog.recurses 8)=true:=by kernel_rfl
theorem fact12:(Rows.penaltiesSetUptoRow.named==Tryz.pinned.checked.prog.varsNamed 8)=true:=by kernel_rfl
theorem fact13:(Rows.penaltiesSetUptoRow.maps==(Tryz.f8.params.toList++(Rows.OpenSpec.upto Rows.penaltiesSetSpec).bare.plain.varTypes Tryz.pinned.checked.prog).any (Tryz.pinned.checked.prog.mapsRec ·))=true:=by kernel_rfl
theorem fact14:(Rows.penaltiesSetUptoRow.ifaces==(Tryz.f8.params.toList++(Rows.OpenSpec.upto Rows.penaltiesSetSpec).bare.plain.varTypes Tryz.pinned.checked.prog).any (Tryz.pinned.checked.prog.ifacesRec ·))=true:=by kernel_rfl
theorem fact15:(Rows.penaltiesSetUptoRow.mapsOut==Tryz.pinned.checked.prog.mapsAmong Tryz.f8.resultTypes.toList)=true:=by kernel_rfl
theorem fact16:(Rows.penaltiesSetUptoRow.loops==(Tryz.f8.params.toList++(Rows.OpenSpec.upto Rows.penaltiesSetSpec).bare.plain.varTypes Tryz.pinned.checked.prog).any (Tryz.pinned.checked.prog.loopsFrom ·))=true:=by kernel_rfl
theorem fact17:(Rows.penaltiesSetUptoRow.wideKeys==(Tryz.f8.params.toList++(Rows.OpenSpec.upto Rows.penaltiesSetSpec).bare.plain.varTypes Tryz.pinned.checked.prog++Tryz.f8.resultTypes.toList).any (Tryz.pinned.checked.prog.wideKeysFrom ·))=true:=by kernel_rfl
theorem fact18:((Rows.OpenSpec.upto Rows.penaltiesSetSpec).bare.vars.all (Tryz.pinned.checked.prog.varReadable ·))=true:=by kernel_rfl
theorem fact19:(Tryz.f8.resultTypes.all (λt=>Tryz.pinned.checked.prog.readableRec t&&decide (t<Tryz.pinned.checked.prog.types.size)))=true:=by kernel_rfl
theorem fact20:(Rows.penaltiesSetUptoRow.ifacesOut==Tryz.f8.resultTypes.toList.any (Tryz.pinned.checked.prog.ifacesRec ·))=true:=by kernel_rfl
theorem fact21:(Rows.penaltiesSetUptoRow.loopsOut==Tryz.f8.resultTypes.toList.any (Tryz.pinned.checked.prog.loopsFrom ·))=true:=by kernel_rfl
theorem fact22:(Rows.penaltiesSetUptoRow.plainKeys==Tryz.pinned.checked.prog.plainKeys)=true:=by kernel_rfl
theorem fact23:(Rows.penaltiesSetUptoRow.shortTexts.isNone)=true:=by kernel_rfl
theorem fact24:(Tryz.pinned.checked.prog.stopsHeard)=true:=by kernel_rfl
theorem fact25:(Tryz.pinned.checked.prog.mayEnter)=true:=by kernel_rfl
theorem fact26:(Rows.penaltiesSetUptoRow.lifted==Tryz.pinned.checked.prog.liftsFinal)=true:=by kernel_rfl
theorem fact27:(Tryz.pinned.checked.prog.make==some Rows.penaltiesSetUptoRow.make)=true:=by kernel_rfl
theorem fact28:(Rows.penaltiesSetUptoRow.kinds==(if Rows.penaltiesSetUptoRow.domain.isEmpty then[]else Tryz.f8.params.toList.map λt=>match Tryz.pinned.checked.prog.underlying t with|some (.int k)=>some k|_=>none))=true:=by kernel_rfl
theorem fact29:(Rows.penaltiesSetUptoRow.pinned==Rows.penaltiesSetUptoRow.pinnedBy)=true:=by kernel_rfl
theorem fact30:(Rows.penaltiesSetUptoRow.veiled==(Tryz.f8.params.toList++(Rows.OpenSpec.upto Rows.penaltiesSetSpec).bare.plain.varTypes Tryz.pinned.checked.prog++Tryz.f8.resultTypes.toList).any (Tryz.pinned.checked.prog.veiledRec ·))=true:=by kernel_rfl
theorem fact31:(Rows.penaltiesSetUptoRow.veiledFits Tryz.pinned.checked.prog Tryz.f8.params.toList (Tryz.f8.params.toList++(Rows.OpenSpec.upto Rows.penaltiesSetSpec).bare.plain.varTypes Tryz.pinned.checked.prog++Tryz.f8.resultTypes.toList))=true:=by kernel_rfl
theorem and2{a b:Bool}(x:a=true)(y:b=true):(a&&b)=true:=by rw[x,y];rfl
theorem facts:joinedFacts Tryz.pinned.checked.prog 8 Tryz.f8 (Rows.OpenSpec.upto Rows.penaltiesSetSpec).bare Rows.penaltiesSetUptoRow=true:=by unfold joinedFacts;exact(and2 (and2 (and2 (and2 (and2 (and2 (and2 (and2 (and2 (and2 (and2 (and2 (and2 (and2 (and2 (and2 (and2 (and2 (and2 (and2 (and2 (and2 (and2 (and2 (and2 (and2 (and2 (and2 (and2 (and2 (and2 fact0 fact1) fact2) fact3) fact4) fact5) fact6) fact7) fact8) fact9) fact10) fact11) fact12) fact13) fact14) fact15) fact16) fact17) fact18) fact19) fact20) fact21) fact22) fact23) fact24) fact25) fact26) fact27) fact28) fact29) fact30) fact31)
theorem named:Tryz.pinned.checked.prog.funcNamed Rows.penaltiesSetUptoRow.func=some 8:=by kernel_rfl
theorem instanced:Func.isInstance Tryz.pinned.checked.prog Tryz.f8 Rows.penaltiesSetUptoRow.origin Rows.penaltiesSetUptoRow.targs:=of_decide_eq_true (by kernel_rfl)
theorem wrapped:Func.isWrapper Tryz.pinned.checked.prog Tryz.f8 Rows.penaltiesSetUptoRow.wrapper Rows.penaltiesSetUptoRow.mainSum:=by unfold Func.isWrapper;first|(rw[if_pos (by decide+kernel)];kernel_rfl)|(rw[if_neg (by decide+kernel)];exact⟨rfl,rfl⟩)
end Go.Proofs.YtckiejaapddafaaGreatDoor.penaltiesSetDone
