/- The statement OutcomeChecks, where what it reads is of the bound: the function returns true; nothing that lay there is turned. -/
import Derived.Test.YtigaapnlkgbkeaaGreatW23Ck
import Derived.Test.YtigaapnlkgbkeaaGreatC23Ck
import Derived.Test.YtigaapnlkgbkeaaGreatF23Ck
import Derived.Test.YtigaapnlkgbkeaaGreatRows
import Derived.WalkKit
import Derived.ProofKit
import Derived.OpenShut
import Derived.ShutString
import Derived.ChangeOld
import Derived.Below
import Derived.Deep.DeepHandedRow
import Derived.JoinedCond
import Derived.LaidLaws
set_option linter.unusedVariables false
set_option linter.unusedSimpArgs false
set_option maxRecDepth 100000
namespace Go.Proofs.YtigaapnlkgbkeaaGreat.outcomeChecksDone
open Go.ChangeShapes Go.WideShapes Go.ChangeAt Go.RowKit Go.Sw
open Go.ChangeMaps (open_string shut_string)
theorem own:ownKnob Tryz.prog.godebug=none:=by kernel_rfl
theorem laidOut:laidOutB Tryz.prog=true:=by kernel_rfl
theorem part_le{H:Type}{d:DataW H}{l:List (DataW H)}(h:d∈l):Rows.uptoBulk d<=Rows.uptoBulkAll l:=by
  induction l with
  |nil=>cases h
  |cons x r ih=>
    simp only[Rows.uptoBulkAll];rcases List.mem_cons.1 h with rfl|h
    · omega
    · have:=ih h;omega
theorem one_le{H:Type}(d:DataW H):1<=Rows.uptoBulk d:=by
  cases d with
  |lit l=>cases l<;>simp[Rows.uptoBulk]
  |_=>simp[Rows.uptoBulk]
theorem length_le{H:Type}(l:List (DataW H)):l.length<=Rows.uptoBulkAll l:=by
  induction l with
  |nil=>simp
  |cons x r ih=>have:=one_le x;simp only[Rows.uptoBulkAll,List.length_cons];omega
theorem meas(H:Type):Meas (H:=H) Rows.uptoBulk:=
  ⟨λb=>by simp[Rows.uptoBulk],λe s=>by have:=length_le e;simp only[Rows.uptoBulk];omega,λe s d hd=>by have:=part_le hd;simp only[Rows.uptoBulk];omega,λps d hd=>by have:=part_le hd;simp only[Rows.uptoBulk];omega⟩
theorem gp_law{W:World}(h:W.ShapedOpen Tryz.prog):GP W:=
  ⟨Qfw (g:=QgJ) (t:=3) (z:=.int .i64 0) h rfl (by kernel_rfl) (by kernel_rfl) (by kernel_rfl) Tryz.underlying3,λg zs hz=>absurd hz (by simp[QfG])⟩
noncomputable def start(os:Os):World:={World.holding Tryz.prog os ⟨#[], #[],[]⟩with heap:=(World.holding Tryz.prog os ⟨#[], #[],[]⟩).heap}
def wit0:Array Value:= #[.agg #[.slice none 0 0,.slice none 0 0],.agg #[.bool false,.int .i64 0,.int .i64 0,.int .i64 0]]
theorem laid_met(os:Os):laidMetH Tryz.prog Rows.outcomeChecksUptoRow.laid ((start os).forCall (λ_ _=>0) ⟨#[],wit0,[]⟩).memory:=
  laidMet_of_run' 8 (by kernel_rfl) (by kernel_rfl)
set_option maxRecDepth 100000 in
theorem reads(os:Os){H:Type}(enc:TypeId×Value->H):∃places,DataW.whole enc Tryz.prog ((start os).forCall (λ_ _=>0) ⟨#[],wit0,[]⟩).memory Tryz.f3.params.toList Rows.outcomeChecksSpec.vars false wit0.toList 8=some ([.agg [.nil,.nil],.agg [.lit (.bool false),.lit (.int .i64 0),.lit (.int .i64 0),.lit (.int .i64 0)]],[],places):=
  ⟨[],by kernel_rfl⟩
set_option maxRecDepth 100000 in
theorem lifted(os:Os)(started:os.Started)(H:Type)(enc:TypeId×Value->H)(F:Stop.Interp):
    ReturnsInHanded {} Tryz.checked os 3 .any ((Rows.OpenSpec.upto Rows.outcomeChecksSpec).preRow enc Tryz.prog Tryz.f3 Rows.outcomeChecksUptoRow.domain false Rows.outcomeChecksUptoRow.laid) (((Rows.OpenSpec.upto Rows.outcomeChecksSpec).at F).post enc Tryz.prog Tryz.f3 false true false false):=by
  obtain⟨places,hx⟩:=reads os enc;refine returnsInHanded_of_row (C:=Tryz.checked) (s:=(Rows.OpenSpec.upto Rows.outcomeChecksSpec)) own started (by kernel_rfl) Tryz.func3
    (witness_row_at (enc:=enc) (C:=Tryz.checked) false (start os) wit0 rfl (by kernel_rfl) (by kernel_rfl) (by kernel_rfl)
      (OpenSpec.preRow_of_cond 8 hx (by kernel_rfl) (λk hk=>by cases hk;kernel_rfl) (by kernel_rfl) (laid_met os))) ?_
  intro W base args ds gs before hval0 hW _ hcond _ hL hsh _;have hval:∀(j:Nat) t v,Tryz.f3.params[j]?=some t->args[j]?=some v->Value.okWide Tryz.prog W .any base t v:=hval0;have hb0:=of_decide_eq_true (hcond _ rfl);have hW':=hW;obtain⟨p,q,hA0,hV,rfl,hfz,hnd⟩:=hW;have hA:DataW.TrodAll enc Tryz.prog W 0 (λ_=>true) true Tryz.f3.params.toList args.toList ds p:=hA0;rw[Tryz.params3]at hA hval;obtain⟨v0,vs0,d0,ds0,p0,q0,hargs,rfl,rfl,h0,r0⟩:=trodAll_cons hA;obtain⟨v1,vs1,d1,ds1,p1,q1,rfl,rfl,rfl,h1,r1⟩:=trodAll_cons r0;obtain⟨rfl,rfl,rfl⟩:=trodAll_nil r1;obtain rfl:args= #[v0,v1]:=by cases args;simp_all
  obtain⟨rfl,rfl⟩:=trodVars_none hV;have hb:∀d∈[d0,d1],Rows.uptoBulk d<=1048576:=λd hd=>Nat.le_trans (part_le (by simpa using hd)) hb0;obtain⟨cs0,rfl⟩:=QeV Tryz.underlying25 (hval 0 25 v0 rfl rfl);have k0:=h0;have lt0:∀x∈p0,x.block<W.heap.size:=by obtain⟨m,hm⟩:=k0;exact DataW.trod_lt m _ _ _ hm
  obtain⟨a1,w0,l0⟩:=Qc7 rd_25 h0 (meas H) (hb d0 (by simp));obtain⟨cs1,rfl⟩:=QeV Tryz.underlying27 (hval 1 27 v1 rfl rfl);have k1:=h1;have lt1:∀x∈p1,x.block<W.heap.size:=by obtain⟨m,hm⟩:=k1;exact DataW.trod_lt m _ _ _ hm
  obtain⟨a2,w1,l1⟩:=Qc7 rd_27 h1 (meas H) (hb d1 (by simp));clear hA0 hval0;obtain⟨n,hn⟩:=law_OutcomeChecks a1 a2 w0 w1;refine(C.law (vals:=[.agg cs0,.agg cs1]) (k_bm n a1 a2 true hn) ⟨_,_,rfl,l0,⟨_,_,rfl,l1,rfl⟩⟩ (gp_law hsh)).mono λe W' ⟨he,bel⟩=>?_;subst he;exact⟨_,rfl,_,_,_,[],_,[],hW',trodAll_mk1 (shut_bool Tryz.underlying4 _),(trodAll_cons_mk (Below.trod laidOut (by kernel_rfl) (of_decide_eq_true (by kernel_rfl)) k0 bel lt0) (trodAll_cons_mk (Below.trod laidOut (by kernel_rfl) (of_decide_eq_true (by kernel_rfl)) k1 bel lt1) trodAll_mk0)),rfl,bel.frame _,λh=>by cases h⟩
theorem over:Rows.OutcomeChecksUptoSaid:=
  OpenClaim.holds_of_cond 3 Tryz.f3 rfl rfl rfl rfl rfl rfl rfl ⟨rfl,rfl,rfl,rfl,rfl⟩ rfl rfl rfl rfl rfl named Tryz.func3 facts instanced wrapped
    (λos started H enc _ F=>by rw[OpenClaim.pre_eq_preRow];exact lifted os started H enc F)
theorem proved:Rows.OutcomeChecksUptoSaid:=over
end Go.Proofs.YtigaapnlkgbkeaaGreat.outcomeChecksDone
