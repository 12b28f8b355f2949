/- The Lv of the statement OutcomeGun's row, each by itself. -/
import Derived.Test.YtbiglpikpigidaaGreatRows
import Derived.JoinedCond
import Derived.ProofKit
set_option maxRecDepth 100000
namespace Go.Proofs.YtbiglpikpigidaaGreat.outcomeGunDone
theorem cA:(Rows.outcomeGunUptoRow.wf (OpenSpec.ofChange (Rows.OpenSpec.upto Rows.outcomeGunSpec).bare))=true:=by kernel_rfl
theorem b_:(laidOutB Tryz.pinned.checked.prog)=true:=by kernel_rfl
theorem b9:(mapsRowed Tryz.pinned.checked.prog)=true:=by kernel_rfl
theorem b5:(Tryz.f4.params.all (Tryz.pinned.checked.prog.readableRec ·))=true:=by kernel_rfl
theorem b4:(namedTie Tryz.pinned.checked.prog Rows.outcomeGunUptoRow.named (Rows.OpenSpec.upto Rows.outcomeGunSpec).bare.vars)=true:=by kernel_rfl
theorem bt:(Rows.outcomeGunUptoRow.stops==[])=true:=by kernel_rfl
theorem bZ:(Tryz.pinned.checked.prog.stops==[])=true:=by kernel_rfl
theorem bY:(Rows.outcomeGunUptoRow.knobs==[])=true:=by kernel_rfl
theorem bX:(Tryz.pinned.checked.prog.stopKnobs==[])=true:=by kernel_rfl
theorem bV:(Rows.outcomeGunUptoRow.inPlace==Tryz.pinned.checked.prog.inPlace 4)=true:=by kernel_rfl
theorem Sj:(Rows.outcomeGunUptoRow.unfollowed==Tryz.pinned.checked.prog.unfollowed 4)=true:=by kernel_rfl
theorem Si:(Rows.outcomeGunUptoRow.recurses==Tryz.pinned.checked.prog.recurses 4)=true:=by kernel_rfl
theorem Sh:(Rows.outcomeGunUptoRow.named==Tryz.pinned.checked.prog.varsNamed 4)=true:=by kernel_rfl
theorem Sg:(Rows.outcomeGunUptoRow.maps==(Tryz.f4.params.toList++(Rows.OpenSpec.upto Rows.outcomeGunSpec).bare.plain.varTypes Tryz.pinned.checked.prog).any (Tryz.pinned.checked.prog.mapsRec ·))=true:=by kernel_rfl
theorem Sf:(Rows.outcomeGunUptoRow.ifaces==(Tryz.f4.params.toList++(Rows.OpenSpec.upto Rows.outcomeGunSpec).bare.plain.varTypes Tryz.pinned.checked.prog).any (Tryz.pinned.checked.prog.ifacesRec ·))=true:=by kernel_rfl
theorem Se:(Rows.outcomeGunUptoRow.mapsOut==Tryz.pinned.checked.prog.mapsAmong Tryz.f4.resultTypes.toList)=true:=by kernel_rfl
theorem Sd:(Rows.outcomeGunUptoRow.loops==(Tryz.f4.params.toList++(Rows.OpenSpec.upto Rows.outcomeGunSpec).bare.plain.varTypes Tryz.pinned.checked.prog).any (Tryz.pinned.checked.prog.loopsFrom ·))=true:=by kernel_rfl
theorem Sc:(Rows.outcomeGunUptoRow.wideKeys==(Tryz.f4.params.toList++(Rows.OpenSpec.upto Rows.outcomeGunSpec).bare.plain.varTypes Tryz.pinned.checked.prog++Tryz.f4.resultTypes.toList).any (Tryz.pinned.checked.prog.wideKeysFrom ·))=true:=by kernel_rfl
theorem Sa:((Rows.OpenSpec.upto Rows.outcomeGunSpec).bare.vars.all (Tryz.pinned.checked.prog.varReadable ·))=true:=by kernel_rfl
theorem SZ:(Tryz.f4.resultTypes.all (λt=>Tryz.pinned.checked.prog.readableRec t&&decide (t<Tryz.pinned.checked.prog.types.size)))=true:=by kernel_rfl
theorem SY:(Rows.outcomeGunUptoRow.ifacesOut==Tryz.f4.resultTypes.toList.any (Tryz.pinned.checked.prog.ifacesRec ·))=true:=by kernel_rfl
theorem SX:(Rows.outcomeGunUptoRow.loopsOut==Tryz.f4.resultTypes.toList.any (Tryz.pinned.checked.prog.loopsFrom ·))=true:=by kernel_rfl
theorem SW:(Rows.outcomeGunUptoRow.plainKeys==Tryz.pinned.checked.prog.plainKeys)=true:=by kernel_rfl
theorem SV:(Rows.outcomeGunUptoRow.shortTexts.isNone)=true:=by kernel_rfl
theorem SU:(Tryz.pinned.checked.prog.stopsHeard)=true:=by kernel_rfl
theorem ST:(Tryz.pinned.checked.prog.mayEnter)=true:=by kernel_rfl
theorem SS:(Rows.outcomeGunUptoRow.lifted==Tryz.pinned.checked.prog.liftsFinal)=true:=by kernel_rfl
theorem SQ:(Tryz.pinned.checked.prog.make==some Rows.outcomeGunUptoRow.make)=true:=by kernel_rfl
theorem SP:(Rows.outcomeGunUptoRow.kinds==(if Rows.outcomeGunUptoRow.domain.isEmpty then[]else Tryz.f4.params.toList.map λt=>match Tryz.pinned.checked.prog.underlying t with|some (.int k)=>some k|_=>none))=true:=by kernel_rfl
theorem SN:(Rows.outcomeGunUptoRow.pinned==Rows.outcomeGunUptoRow.pinnedBy)=true:=by kernel_rfl
theorem SM:(Rows.outcomeGunUptoRow.veiled==(Tryz.f4.params.toList++(Rows.OpenSpec.upto Rows.outcomeGunSpec).bare.plain.varTypes Tryz.pinned.checked.prog++Tryz.f4.resultTypes.toList).any (Tryz.pinned.checked.prog.veiledRec ·))=true:=by kernel_rfl
theorem SL:(Rows.outcomeGunUptoRow.veiledFits Tryz.pinned.checked.prog Tryz.f4.params.toList (Tryz.f4.params.toList++(Rows.OpenSpec.upto Rows.outcomeGunSpec).bare.plain.varTypes Tryz.pinned.checked.prog++Tryz.f4.resultTypes.toList))=true:=by kernel_rfl
theorem DL{a b:Bool}(x:a=true)(y:b=true):(a&&b)=true:=by rw[x,y];rfl
theorem Lv:joinedFacts Tryz.pinned.checked.prog 4 Tryz.f4 (Rows.OpenSpec.upto Rows.outcomeGunSpec).bare Rows.outcomeGunUptoRow=true:=by unfold joinedFacts;exact(DL (DL (DL (DL (DL (DL (DL (DL (DL (DL (DL (DL (DL (DL (DL (DL (DL (DL (DL (DL (DL (DL (DL (DL (DL (DL (DL (DL (DL (DL (DL cA b_) b9) b5) b4) bt) bZ) bY) bX) bV) Sj) Si) Sh) Sg) Sf) Se) Sd) Sc) Sa) SZ) SY) SX) SW) SV) SU) ST) SS) SQ) SP) SN) SM) SL)
theorem named:Tryz.pinned.checked.prog.funcNamed Rows.outcomeGunUptoRow.func=some 4:=by kernel_rfl
theorem Kl:Func.isInstance Tryz.pinned.checked.prog Tryz.f4 Rows.outcomeGunUptoRow.origin Rows.outcomeGunUptoRow.targs:=of_decide_eq_true (by kernel_rfl)
theorem NO:Func.isWrapper Tryz.pinned.checked.prog Tryz.f4 Rows.outcomeGunUptoRow.wrapper Rows.outcomeGunUptoRow.mainSum:=by unfold Func.isWrapper;first|(rw[if_pos (by decide+kernel)];kernel_rfl)|(rw[if_neg (by decide+kernel)];exact⟨rfl,rfl⟩)
end Go.Proofs.YtbiglpikpigidaaGreat.outcomeGunDone
