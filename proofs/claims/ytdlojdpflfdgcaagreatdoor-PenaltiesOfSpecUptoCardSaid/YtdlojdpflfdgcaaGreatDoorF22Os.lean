/- The Bo of the statement PenaltiesOfSpec's row, each by itself. -/
import Derived.Test.YtdlojdpflfdgcaaGreatDoorRows
import Derived.JoinedCond
import Derived.ProofKit
set_option maxRecDepth 100000
namespace Go.Proofs.YtdlojdpflfdgcaaGreatDoor.penaltiesOfSpecDone
theorem VN:(Rows.penaltiesOfSpecUptoRow.wf (OpenSpec.ofChange (Rows.OpenSpec.upto Rows.penaltiesOfSpecSpec).bare))=true:=by kernel_rfl
theorem VM:(laidOutB Tryz.pinned.checked.prog)=true:=by kernel_rfl
theorem VL:(mapsRowed Tryz.pinned.checked.prog)=true:=by kernel_rfl
theorem VK:(Tryz.f4.params.all (Tryz.pinned.checked.prog.readableRec ·))=true:=by kernel_rfl
theorem VJ:(namedTie Tryz.pinned.checked.prog Rows.penaltiesOfSpecUptoRow.named (Rows.OpenSpec.upto Rows.penaltiesOfSpecSpec).bare.vars)=true:=by kernel_rfl
theorem U':(Rows.penaltiesOfSpecUptoRow.stops==[])=true:=by kernel_rfl
theorem U_:(Tryz.pinned.checked.prog.stops==[])=true:=by kernel_rfl
theorem U9:(Rows.penaltiesOfSpecUptoRow.knobs==[])=true:=by kernel_rfl
theorem U8:(Tryz.pinned.checked.prog.stopKnobs==[])=true:=by kernel_rfl
theorem U7:(Rows.penaltiesOfSpecUptoRow.inPlace==Tryz.pinned.checked.prog.inPlace 4)=true:=by kernel_rfl
theorem OT:(Rows.penaltiesOfSpecUptoRow.unfollowed==Tryz.pinned.checked.prog.unfollowed 4)=true:=by kernel_rfl
theorem OS:(Rows.penaltiesOfSpecUptoRow.recurses==Tryz.pinned.checked.prog.recurses 4)=true:=by kernel_rfl
theorem OR:(Rows.penaltiesOfSpecUptoRow.named==Tryz.pinned.checked.prog.varsNamed 4)=true:=by kernel_rfl
theorem OQ:(Rows.penaltiesOfSpecUptoRow.maps==(Tryz.f4.params.toList++(Rows.OpenSpec.upto Rows.penaltiesOfSpecSpec).bare.plain.varTypes Tryz.pinned.checked.prog).any (Tryz.pinned.checked.prog.mapsRec ·))=true:=by kernel_rfl
theorem OP:(Rows.penaltiesOfSpecUptoRow.ifaces==(Tryz.f4.params.toList++(Rows.OpenSpec.upto Rows.penaltiesOfSpecSpec).bare.plain.varTypes Tryz.pinned.checked.prog).any (Tryz.pinned.checked.prog.ifacesRec ·))=true:=by kernel_rfl
theorem OO:(Rows.penaltiesOfSpecUptoRow.mapsOut==Tryz.pinned.checked.prog.mapsAmong Tryz.f4.resultTypes.toList)=true:=by kernel_rfl
theorem ON:(Rows.penaltiesOfSpecUptoRow.loops==(Tryz.f4.params.toList++(Rows.OpenSpec.upto Rows.penaltiesOfSpecSpec).bare.plain.varTypes Tryz.pinned.checked.prog).any (Tryz.pinned.checked.prog.loopsFrom ·))=true:=by kernel_rfl
theorem OM:(Rows.penaltiesOfSpecUptoRow.wideKeys==(Tryz.f4.params.toList++(Rows.OpenSpec.upto Rows.penaltiesOfSpecSpec).bare.plain.varTypes Tryz.pinned.checked.prog++Tryz.f4.resultTypes.toList).any (Tryz.pinned.checked.prog.wideKeysFrom ·))=true:=by kernel_rfl
theorem OL:((Rows.OpenSpec.upto Rows.penaltiesOfSpecSpec).bare.vars.all (Tryz.pinned.checked.prog.varReadable ·))=true:=by kernel_rfl
theorem OK:(Tryz.f4.resultTypes.all (λt=>Tryz.pinned.checked.prog.readableRec t&&decide (t<Tryz.pinned.checked.prog.types.size)))=true:=by kernel_rfl
theorem OJ:(Rows.penaltiesOfSpecUptoRow.ifacesOut==Tryz.f4.resultTypes.toList.any (Tryz.pinned.checked.prog.ifacesRec ·))=true:=by kernel_rfl
theorem OI:(Rows.penaltiesOfSpecUptoRow.loopsOut==Tryz.f4.resultTypes.toList.any (Tryz.pinned.checked.prog.loopsFrom ·))=true:=by kernel_rfl
theorem OH:(Rows.penaltiesOfSpecUptoRow.plainKeys==Tryz.pinned.checked.prog.plainKeys)=true:=by kernel_rfl
theorem OG:(Rows.penaltiesOfSpecUptoRow.shortTexts.isNone)=true:=by kernel_rfl
theorem OF:(Tryz.pinned.checked.prog.stopsHeard)=true:=by kernel_rfl
theorem OE:(Tryz.pinned.checked.prog.mayEnter)=true:=by kernel_rfl
theorem OD:(Rows.penaltiesOfSpecUptoRow.lifted==Tryz.pinned.checked.prog.liftsFinal)=true:=by kernel_rfl
theorem OC:(Tryz.pinned.checked.prog.make==some Rows.penaltiesOfSpecUptoRow.make)=true:=by kernel_rfl
theorem OB:(Rows.penaltiesOfSpecUptoRow.kinds==(if Rows.penaltiesOfSpecUptoRow.domain.isEmpty then[]else Tryz.f4.params.toList.map λt=>match Tryz.pinned.checked.prog.underlying t with|some (.int k)=>some k|_=>none))=true:=by kernel_rfl
theorem OA:(Rows.penaltiesOfSpecUptoRow.pinned==Rows.penaltiesOfSpecUptoRow.pinnedBy)=true:=by kernel_rfl
theorem N':(Rows.penaltiesOfSpecUptoRow.veiled==(Tryz.f4.params.toList++(Rows.OpenSpec.upto Rows.penaltiesOfSpecSpec).bare.plain.varTypes Tryz.pinned.checked.prog++Tryz.f4.resultTypes.toList).any (Tryz.pinned.checked.prog.veiledRec ·))=true:=by kernel_rfl
theorem N_:(Rows.penaltiesOfSpecUptoRow.veiledFits Tryz.pinned.checked.prog Tryz.f4.params.toList (Tryz.f4.params.toList++(Rows.OpenSpec.upto Rows.penaltiesOfSpecSpec).bare.plain.varTypes Tryz.pinned.checked.prog++Tryz.f4.resultTypes.toList))=true:=by kernel_rfl
theorem BC{a b:Bool}(x:a=true)(y:b=true):(a&&b)=true:=by rw[x,y];rfl
theorem Bo:joinedFacts Tryz.pinned.checked.prog 4 Tryz.f4 (Rows.OpenSpec.upto Rows.penaltiesOfSpecSpec).bare Rows.penaltiesOfSpecUptoRow=true:=by unfold joinedFacts;exact(BC (BC (BC (BC (BC (BC (BC (BC (BC (BC (BC (BC (BC (BC (BC (BC (BC (BC (BC (BC (BC (BC (BC (BC (BC (BC (BC (BC (BC (BC (BC VN VM) VL) VK) VJ) U') U_) U9) U8) U7) OT) OS) OR) OQ) OP) OO) ON) OM) OL) OK) OJ) OI) OH) OG) OF) OE) OD) OC) OB) OA) N') N_)
theorem named:Tryz.pinned.checked.prog.funcNamed Rows.penaltiesOfSpecUptoRow.func=some 4:=by kernel_rfl
theorem G1:Func.isInstance Tryz.pinned.checked.prog Tryz.f4 Rows.penaltiesOfSpecUptoRow.origin Rows.penaltiesOfSpecUptoRow.targs:=of_decide_eq_true (by kernel_rfl)
theorem KV:Func.isWrapper Tryz.pinned.checked.prog Tryz.f4 Rows.penaltiesOfSpecUptoRow.wrapper Rows.penaltiesOfSpecUptoRow.mainSum:=by unfold Func.isWrapper;first|(rw[if_pos (by decide+kernel)];kernel_rfl)|(rw[if_neg (by decide+kernel)];exact⟨rfl,rfl⟩)
end Go.Proofs.YtdlojdpflfdgcaaGreatDoor.penaltiesOfSpecDone
