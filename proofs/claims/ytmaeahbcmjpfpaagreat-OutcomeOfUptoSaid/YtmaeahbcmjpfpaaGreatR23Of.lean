/- The statement OutcomeOf, where what it reads is of the bound: the function returns true; nothing that lay there is turned. -/
import Derived.Test.YtmaeahbcmjpfpaaGreatW23Of
import Derived.Test.YtmaeahbcmjpfpaaGreatC23Of
import Derived.Test.YtmaeahbcmjpfpaaGreatF23Of
import Derived.Test.YtmaeahbcmjpfpaaGreatRows
import Derived.WalkKit
import Derived.ProofKit
import Derived.OpenShut
import Derived.ShutString
import Derived.ChangeOld
import Derived.Below
import Derived.Deep.DeepHandedRow
import Derived.JoinedCond
import Derived.LaidLaws
set_option linter.unusedVariables false
set_option linter.unusedSimpArgs false
set_option maxRecDepth 100000
namespace Go.Proofs.YtmaeahbcmjpfpaaGreat.outcomeOfDone
open Go.ChangeShapes Go.WideShapes Go.ChangeAt Go.RowKit Go.Sw
open Go.ChangeMaps (open_string shut_string)
theorem own:ownKnob Tryz.prog.godebug=none:=by kernel_rfl
theorem laidOut:laidOutB Tryz.prog=true:=by kernel_rfl
theorem part_le{H:Type}{d:DataW H}{l:List (DataW H)}(h:d∈l):Rows.uptoBulk d<=Rows.uptoBulkAll l:=by
  induction l with
  |nil=>cases h
  |cons x r ih=>
    simp only[Rows.uptoBulkAll];rcases List.mem_cons.1 h with rfl|h
    · omega
    · have:=ih h;omega
theorem one_le{H:Type}(d:DataW H):1<=Rows.uptoBulk d:=by
  cases d with
  |lit l=>cases l<;>simp[Rows.uptoBulk]
  |_=>simp[Rows.uptoBulk]
theorem length_le{H:Type}(l:List (DataW H)):l.length<=Rows.uptoBulkAll l:=by
  induction l with
  |nil=>simp
  |cons x r ih=>have:=one_le x;simp only[Rows.uptoBulkAll,List.length_cons];omega
theorem meas(H:Type):eD (H:=H) Rows.uptoBulk:=
  ⟨λb=>by simp[Rows.uptoBulk],λe s=>by have:=length_le e;simp only[Rows.uptoBulk];omega,λe s d hd=>by have:=part_le hd;simp only[Rows.uptoBulk];omega,λps d hd=>by have:=part_le hd;simp only[Rows.uptoBulk];omega⟩
theorem gp_law{W:World}(h:W.ShapedOpen Tryz.prog):GP W:=
  ⟨QjL (g:=Zv) (t:=3) (z:=.int .i64 0) h rfl (by kernel_rfl) (by kernel_rfl) (by kernel_rfl) Tryz.underlying3,λg zs hz=>absurd hz (by simp[NV])⟩
noncomputable def start(os:Os):World:={World.holding Tryz.prog os ⟨#[], #[],[]⟩with heap:=(World.holding Tryz.prog os ⟨#[], #[],[]⟩).heap}
def Nk:Array Value:= #[.agg #[.string ⟨#[]⟩,.slice none 0 0,.slice none 0 0,.slice none 0 0,.slice none 0 0,.slice none 0 0,.slice none 0 0,.slice none 0 0,.slice none 0 0,.int .i64 0,.int .i64 0,.int .i64 0,.int .i64 0,.int .i64 0,.int .i64 0,.int .i64 0],.slice none 0 0,.int .i64 0,.int .i64 0,.int .i64 0]
theorem laid_met(os:Os):laidMetH Tryz.prog Rows.outcomeOfUptoRow.laid ((start os).forCall (λ_ _=>0) ⟨#[],Nk,[]⟩).memory:=
  laidMet_of_run' 8 (by kernel_rfl) (by kernel_rfl)
set_option maxRecDepth 100000 in
theorem reads(os:Os){H:Type}(enc:TypeId×Value->H):∃places,DataW.whole enc Tryz.prog ((start os).forCall (λ_ _=>0) ⟨#[],Nk,[]⟩).memory Tryz.f3.params.toList Rows.outcomeOfSpec.vars false Nk.toList 8=some ([.agg [.lit (.string []),.nil,.nil,.nil,.nil,.nil,.nil,.nil,.nil,.agg [.lit (.int .i64 0),.lit (.int .i64 0),.lit (.int .i64 0),.lit (.int .i64 0),.lit (.int .i64 0)],.lit (.int .i64 0),.lit (.int .i64 0)],.nil,.lit (.int .i64 0),.lit (.int .i64 0),.lit (.int .i64 0)],[],places):=
  ⟨[],by kernel_rfl⟩
set_option maxRecDepth 100000 in
theorem lifted(os:Os)(started:os.Started)(H:Type)(enc:TypeId×Value->H)(F:Stop.Interp):
    ReturnsInHanded {} Tryz.checked os 3 .any ((Rows.OpenSpec.upto Rows.outcomeOfSpec).preRow enc Tryz.prog Tryz.f3 Rows.outcomeOfUptoRow.domain false Rows.outcomeOfUptoRow.laid) (((Rows.OpenSpec.upto Rows.outcomeOfSpec).at F).post enc Tryz.prog Tryz.f3 false true false false):=by
  obtain⟨places,hx⟩:=reads os enc;refine returnsInHanded_of_row (C:=Tryz.checked) (s:=(Rows.OpenSpec.upto Rows.outcomeOfSpec)) own started (by kernel_rfl) Tryz.func3
    (witness_row_at (enc:=enc) (C:=Tryz.checked) false (start os) Nk rfl (by kernel_rfl) (by kernel_rfl) (by kernel_rfl)
      (OpenSpec.preRow_of_cond 8 hx (by kernel_rfl) (λk hk=>by cases hk;kernel_rfl) (by kernel_rfl) (laid_met os))) ?_
  intro W base args ds gs before hval0 hW _ hcond _ hL hsh _;have hval:∀(j:Nat) t v,Tryz.f3.params[j]?=some t->args[j]?=some v->Value.okWide Tryz.prog W .any base t v:=hval0;have hb0:=of_decide_eq_true (hcond _ rfl);have hW':=hW;obtain⟨p,q,hA0,hV,rfl,hfz,hnd⟩:=hW;have hA:DataW.TrodAll enc Tryz.prog W 0 (λ_=>true) true Tryz.f3.params.toList args.toList ds p:=hA0;rw[Tryz.params3]at hA hval;obtain⟨v0,vs0,d0,ds0,p0,q0,hargs,rfl,rfl,h0,r0⟩:=trodAll_cons hA;obtain⟨v1,vs1,d1,ds1,p1,q1,rfl,rfl,rfl,h1,r1⟩:=trodAll_cons r0;obtain⟨v2,vs2,d2,ds2,p2,q2,rfl,rfl,rfl,h2,r2⟩:=trodAll_cons r1;obtain⟨v3,vs3,d3,ds3,p3,q3,rfl,rfl,rfl,h3,r3⟩:=trodAll_cons r2;obtain⟨v4,vs4,d4,ds4,p4,q4,rfl,rfl,rfl,h4,r4⟩:=trodAll_cons r3;obtain⟨rfl,rfl,rfl⟩:=trodAll_nil r4;obtain rfl:args= #[v0,v1,v2,v3,v4]:=by cases args;simp_all
  obtain⟨rfl,rfl⟩:=trodVars_none hV;have hb:∀d∈[d0,d1,d2,d3,d4],Rows.uptoBulk d<=1048576:=λd hd=>Nat.le_trans (part_le (by simpa using hd)) hb0;obtain⟨cs0,rfl⟩:=QnK Tryz.underlying33 (hval 0 33 v0 rfl rfl);have k0:=h0;have lt0:∀x∈p0,x.block<W.heap.size:=by obtain⟨m,hm⟩:=k0;exact DataW.trod_lt m _ _ _ hm
  obtain⟨a1,w0,l0⟩:=QjO b9 h0 (meas H) (hb d0 (by simp));obtain⟨b1,len1,cap1,rfl⟩:=okWide_slice Tryz.underlying34 (hval 1 34 v1 rfl rfl);have k1:=h1;have lt1:∀x∈p1,x.block<W.heap.size:=by obtain⟨m,hm⟩:=k1;exact DataW.trod_lt m _ _ _ hm
  obtain⟨a2,w1,l1⟩:=QlV (λn=>(RB.slice (k:=57) Tryz.underlying34 (by kernel_rfl) rfl (λ_=>rfl) (QrI n)).down) h1 (meas H) (hb d1 (by simp));obtain⟨a3,rfl,rfl,rfl,w20⟩:=open_int Tryz.underlying3 (hval 2 3 v2 rfl rfl) h2;have w2:Qn .i64 a3:=by simpa[Lit.wf,Qn]using w20
  obtain⟨a4,rfl,rfl,rfl,w30⟩:=open_int Tryz.underlying3 (hval 3 3 v3 rfl rfl) h3;have w3:Qn .i64 a4:=by simpa[Lit.wf,Qn]using w30
  obtain⟨a5,rfl,rfl,rfl,w40⟩:=open_int Tryz.underlying3 (hval 4 3 v4 rfl rfl) h4;have w4:Qn .i64 a5:=by simpa[Lit.wf,Qn]using w40
  clear hA0 hval0;obtain⟨n,hn⟩:=HR a1 a2 a3 a4 a5 w0 w1 w2 w3 w4;refine(C.law (vals:=[.agg cs0,.slice b1 len1 cap1,.int .i64 a3,.int .i64 a4,.int .i64 a5]) ((kl n a1 a2 a3 a4 a5).c true hn) ⟨_,_,rfl,l0,⟨_,_,rfl,l1,⟨_,_,rfl,rfl,⟨_,_,rfl,rfl,⟨_,_,rfl,rfl,rfl⟩⟩⟩⟩⟩ (gp_law hsh)).mono λe W' ⟨he,bel⟩=>?_;subst he;exact⟨_,rfl,_,_,_,[],_,[],hW',trodAll_mk1 (shut_bool Tryz.underlying4 _),(trodAll_cons_mk (Below.trod laidOut (by kernel_rfl) (of_decide_eq_true (by kernel_rfl)) k0 bel lt0) (trodAll_cons_mk (Below.trod laidOut (by kernel_rfl) (of_decide_eq_true (by kernel_rfl)) k1 bel lt1) (trodAll_cons_mk (shut_int Tryz.underlying3 w20) (trodAll_cons_mk (shut_int Tryz.underlying3 w30) (trodAll_cons_mk (shut_int Tryz.underlying3 w40) trodAll_mk0))))),rfl,bel.frame _,λh=>by cases h⟩
theorem over:Rows.OutcomeOfUptoSaid:=
  OpenClaim.holds_of_cond 3 Tryz.f3 rfl rfl rfl rfl rfl rfl rfl ⟨rfl,rfl,rfl,rfl,rfl⟩ rfl rfl rfl rfl rfl named Tryz.func3 L1 Ke Nj
    (λos started H enc _ F=>by rw[OpenClaim.pre_eq_preRow];exact lifted os started H enc F)
theorem proved:Rows.OutcomeOfUptoSaid:=over
end Go.Proofs.YtmaeahbcmjpfpaaGreat.outcomeOfDone
