/- The statement ClocksAlignSpec, where what it reads is of the bound: the function returns true; nothing that lay there is turned. -/
import Derived.Test.YthnmbndffmhalaaGreatDoorW16Al
import Derived.Test.YthnmbndffmhalaaGreatDoorC16Al
import Derived.Test.YthnmbndffmhalaaGreatDoorF16Al
import Derived.Test.YthnmbndffmhalaaGreatDoorRows
import Derived.Test.YthnmbndffmhalaaGreatDoorCards
import Derived.Test.YthnmbndffmhalaaGreatDoorTie
import Derived.WalkKit
import Derived.ProofKit
import Derived.OpenShut
import Derived.ShutString
import Derived.ChangeOld
import Derived.Below
import Derived.Deep.DeepHandedRow
import Derived.JoinedCond
import Derived.LaidLaws
set_option linter.unusedVariables false
set_option linter.unusedSimpArgs false
set_option maxRecDepth 100000
namespace Go.Proofs.YthnmbndffmhalaaGreatDoor.clocksAlignSpecDone
open Go.ChangeShapes Go.WideShapes Go.ChangeAt Go.RowKit Go.Sw
open Go.ChangeMaps (open_string shut_string)
theorem own:ownKnob Tryz.prog.godebug=none:=by kernel_rfl
theorem laidOut:laidOutB Tryz.prog=true:=by kernel_rfl
theorem part_le{H:Type}{d:DataW H}{l:List (DataW H)}(h:d∈l):Rows.uptoBulk d<=Rows.uptoBulkAll l:=by
  induction l with
  |nil=>cases h
  |cons x r ih=>
    simp only[Rows.uptoBulkAll];rcases List.mem_cons.1 h with rfl|h
    · omega
    · have:=ih h;omega
theorem one_le{H:Type}(d:DataW H):1<=Rows.uptoBulk d:=by
  cases d with
  |lit l=>cases l<;>simp[Rows.uptoBulk]
  |_=>simp[Rows.uptoBulk]
theorem length_le{H:Type}(l:List (DataW H)):l.length<=Rows.uptoBulkAll l:=by
  induction l with
  |nil=>simp
  |cons x r ih=>have:=one_le x;simp only[Rows.uptoBulkAll,List.length_cons];omega
theorem meas(H:Type):Zd (H:=H) Rows.uptoBulk:=
  ⟨λb=>by simp[Rows.uptoBulk],λe s=>by have:=length_le e;simp only[Rows.uptoBulk];omega,λe s d hd=>by have:=part_le hd;simp only[Rows.uptoBulk];omega,λps d hd=>by have:=part_le hd;simp only[Rows.uptoBulk];omega⟩
noncomputable def setBlk(h:Array Obj)(b:Nat)(cs:Array Value):Array Obj:=h.modify b λ
  |.cells _ t z=>.cells cs t z
  |o=>o
theorem gp_law{W:World}(h:W.ShapedOpen Tryz.prog)(hL:laidMetH Tryz.prog Rows.clocksAlignSpecUptoRow.laid W):GP W:=by
  obtain⟨ps,hv,_,_⟩:laidMet Tryz.prog Rows.clocksAlignSpecUptoRow.laid W:=hL;refine⟨z8 (g:=Tw) (t:=3) (z:=.int .i64 0) h rfl (by kernel_rfl) (by kernel_rfl) (by kernel_rfl) Tryz.underlying3,λg zs hz=>?_⟩
  match g,hz with
  |0,hz=>exact JO (Yq (name:="stopwatch/facts.bibS") (t:=282) (e:=3) hv (.tail _ (.tail _ (.head _))) (by kernel_rfl) (by kernel_rfl) Tryz.underlying282 rfl rfl rfl rfl Tryz.underlying3 (by kernel_rfl) (by kernel_rfl)) zs hz
  |1,hz=>exact JO (Yq (name:="stopwatch/facts.timeS") (t:=282) (e:=3) hv (.head _) (by kernel_rfl) (by kernel_rfl) Tryz.underlying282 rfl rfl rfl rfl Tryz.underlying3 (by kernel_rfl) (by kernel_rfl)) zs hz
  |2,hz=>exact JO (Yq (name:="stopwatch/facts.chipS") (t:=282) (e:=3) hv (.tail _ (.tail _ (.tail _ (.tail _ (.tail _ (.head _)))))) (by kernel_rfl) (by kernel_rfl) Tryz.underlying282 rfl rfl rfl rfl Tryz.underlying3 (by kernel_rfl) (by kernel_rfl)) zs hz
  |3,hz=>exact JO (Yq (name:="stopwatch/facts.matS") (t:=282) (e:=3) hv (.tail _ (.tail _ (.tail _ (.head _)))) (by kernel_rfl) (by kernel_rfl) Tryz.underlying282 rfl rfl rfl rfl Tryz.underlying3 (by kernel_rfl) (by kernel_rfl)) zs hz
  |4,hz=>exact JO (Yq (name:="stopwatch/facts.epochS") (t:=282) (e:=3) hv (.tail _ (.tail _ (.tail _ (.tail _ (.head _))))) (by kernel_rfl) (by kernel_rfl) Tryz.underlying282 rfl rfl rfl rfl Tryz.underlying3 (by kernel_rfl) (by kernel_rfl)) zs hz
  |5,hz=>exact JO (Yq (name:="stopwatch/facts.lengthS") (t:=282) (e:=3) hv (.tail _ (.head _)) (by kernel_rfl) (by kernel_rfl) Tryz.underlying282 rfl rfl rfl rfl Tryz.underlying3 (by kernel_rfl) (by kernel_rfl)) zs hz
  |6,hz=>exact JO (Yq (name:="stopwatch/facts.positionS") (t:=282) (e:=3) hv (.tail _ (.tail _ (.tail _ (.tail _ (.tail _ (.tail _ (.head _))))))) (by kernel_rfl) (by kernel_rfl) Tryz.underlying282 rfl rfl rfl rfl Tryz.underlying3 (by kernel_rfl) (by kernel_rfl)) zs hz
  |7,hz=>exact JO (Yq (name:="stopwatch/facts.caseS") (t:=282) (e:=3) hv (.tail _ (.tail _ (.tail _ (.tail _ (.tail _ (.tail _ (.tail _ (.head _)))))))) (by kernel_rfl) (by kernel_rfl) Tryz.underlying282 rfl rfl rfl rfl Tryz.underlying3 (by kernel_rfl) (by kernel_rfl)) zs hz
  |8,hz=>exact JO (Yq (name:="stopwatch/facts.bitS") (t:=282) (e:=3) hv (.tail _ (.tail _ (.tail _ (.tail _ (.tail _ (.tail _ (.tail _ (.tail _ (.tail _ (.tail _ (.head _))))))))))) (by kernel_rfl) (by kernel_rfl) Tryz.underlying282 rfl rfl rfl rfl Tryz.underlying3 (by kernel_rfl) (by kernel_rfl)) zs hz
  |9,hz=>exact JO (Yq (name:="stopwatch/facts.crewS") (t:=282) (e:=3) hv (.tail _ (.tail _ (.tail _ (.tail _ (.tail _ (.tail _ (.tail _ (.tail _ (.head _))))))))) (by kernel_rfl) (by kernel_rfl) Tryz.underlying282 rfl rfl rfl rfl Tryz.underlying3 (by kernel_rfl) (by kernel_rfl)) zs hz
  |10,hz=>exact JO (Yq (name:="stopwatch/facts.numberS") (t:=282) (e:=3) hv (.tail _ (.tail _ (.tail _ (.tail _ (.tail _ (.tail _ (.tail _ (.tail _ (.tail _ (.head _)))))))))) (by kernel_rfl) (by kernel_rfl) Tryz.underlying282 rfl rfl rfl rfl Tryz.underlying3 (by kernel_rfl) (by kernel_rfl)) zs hz
  |n+11,hz=>exact absurd hz (by simp[L9])
noncomputable def start(os:Os):World:={World.holding Tryz.prog os ⟨#[], #[],[]⟩with heap:=setBlk (setBlk (setBlk (setBlk (setBlk (setBlk (setBlk (setBlk (setBlk (setBlk (setBlk ((World.holding Tryz.prog os ⟨#[], #[],[]⟩).heap) 1 #[.int .i64 (-1099511627776),.int .i64 1099511627776]) 5 #[.int .i64 0,.int .i64 1099511627776]) 0 #[.int .i64 1,.int .i64 9999]) 3 #[.int .i64 0,.int .i64 39]) 4 #[.int .i64 0,.int .i64 255]) 2 #[.int .i64 0,.int .i64 1048576]) 6 #[.int .i64 0,.int .i64 255]) 7 #[.int .i64 1,.int .i64 1048576]) 9 #[.int .i64 0,.int .i64 31]) 10 #[.int .i64 1,.int .i64 1048576]) 8 #[.int .i64 0,.int .i64 1]}
def MQ:Array Value:= #[.agg #[.string ⟨#[]⟩,.slice none 0 0,.slice none 0 0,.slice none 0 0,.slice none 0 0,.slice none 0 0,.slice none 0 0,.slice none 0 0,.slice none 0 0,.int .i64 0,.int .i64 0,.int .i64 0,.int .i64 0,.int .i64 0,.int .i64 0,.int .i64 0],.slice none 0 0,.agg #[.slice none 0 0,.slice none 0 0],.int .i64 0,.agg #[.int .i64 0,.int .i64 0]]
theorem laid_met(os:Os):laidMetH Tryz.prog Rows.clocksAlignSpecUptoRow.laid ((start os).forCall (λ_ _=>0) ⟨#[],MQ,[]⟩).memory:=
  laidMet_of_run' 8 (by kernel_rfl) (by kernel_rfl)
set_option maxRecDepth 100000 in
theorem reads(os:Os){H:Type}(enc:TypeId×Value->H):∃places,DataW.whole enc Tryz.prog ((start os).forCall (λ_ _=>0) ⟨#[],MQ,[]⟩).memory Tryz.f3.params.toList Rows.clocksAlignSpecSpec.vars false MQ.toList 8=some ([.agg [.lit (.string []),.nil,.nil,.nil,.nil,.nil,.nil,.nil,.nil,.agg [.lit (.int .i64 0),.lit (.int .i64 0),.lit (.int .i64 0),.lit (.int .i64 0),.lit (.int .i64 0)],.lit (.int .i64 0),.lit (.int .i64 0)],.nil,.agg [.nil,.nil],.lit (.int .i64 0),.agg [.lit (.int .i64 0),.lit (.int .i64 0)]],[],places):=
  ⟨[],by kernel_rfl⟩
set_option maxRecDepth 100000 in
theorem lifted(os:Os)(started:os.Started)(H:Type)(enc:TypeId×Value->H)(F:Stop.Interp):
    ReturnsInHanded {} Tryz.checked os 3 .any ((Rows.OpenSpec.upto Rows.clocksAlignSpecSpec).preRow enc Tryz.prog Tryz.f3 Rows.clocksAlignSpecUptoRow.domain false Rows.clocksAlignSpecUptoRow.laid) (((Rows.OpenSpec.upto Rows.clocksAlignSpecSpec).at F).post enc Tryz.prog Tryz.f3 false true false false):=by
  obtain⟨places,hx⟩:=reads os enc;refine returnsInHanded_of_row (C:=Tryz.checked) (s:=(Rows.OpenSpec.upto Rows.clocksAlignSpecSpec)) own started (by kernel_rfl) Tryz.func3
    (witness_row_at (enc:=enc) (C:=Tryz.checked) false (start os) MQ rfl (by kernel_rfl) (by kernel_rfl) (by kernel_rfl)
      (OpenSpec.preRow_of_cond 8 hx (by kernel_rfl) (λk hk=>by cases hk;kernel_rfl) (by kernel_rfl) (laid_met os))) ?_
  intro W base args ds gs before hval0 hW _ hcond _ hL hsh _;have hval:∀(j:Nat) t v,Tryz.f3.params[j]?=some t->args[j]?=some v->Value.okWide Tryz.prog W .any base t v:=hval0;have hb0:=of_decide_eq_true (hcond _ rfl);have hW':=hW;obtain⟨p,q,hA0,hV,rfl,hfz,hnd⟩:=hW;have hA:DataW.TrodAll enc Tryz.prog W 0 (λ_=>true) true Tryz.f3.params.toList args.toList ds p:=hA0;rw[Tryz.params3]at hA hval;obtain⟨v0,vs0,d0,ds0,p0,q0,hargs,rfl,rfl,h0,r0⟩:=trodAll_cons hA;obtain⟨v1,vs1,d1,ds1,p1,q1,rfl,rfl,rfl,h1,r1⟩:=trodAll_cons r0;obtain⟨v2,vs2,d2,ds2,p2,q2,rfl,rfl,rfl,h2,r2⟩:=trodAll_cons r1;obtain⟨v3,vs3,d3,ds3,p3,q3,rfl,rfl,rfl,h3,r3⟩:=trodAll_cons r2;obtain⟨v4,vs4,d4,ds4,p4,q4,rfl,rfl,rfl,h4,r4⟩:=trodAll_cons r3;obtain⟨rfl,rfl,rfl⟩:=trodAll_nil r4;obtain rfl:args= #[v0,v1,v2,v3,v4]:=by cases args;simp_all
  obtain⟨rfl,rfl⟩:=trodVars_none hV;have hb:∀d∈[d0,d1,d2,d3,d4],Rows.uptoBulk d<=1048576:=λd hd=>Nat.le_trans (part_le (by simpa using hd)) hb0;obtain⟨cs0,rfl⟩:=mb Tryz.underlying33 (hval 0 33 v0 rfl rfl);have k0:=h0;have lt0:∀x∈p0,x.block<W.heap.size:=by obtain⟨m,hm⟩:=k0;exact DataW.trod_lt m _ _ _ hm
  obtain⟨a1,w0,l0⟩:=nQ V6 h0 (meas H) (hb d0 (by simp));obtain⟨b1,len1,cap1,rfl⟩:=okWide_slice Tryz.underlying34 (hval 1 34 v1 rfl rfl);have k1:=h1;have lt1:∀x∈p1,x.block<W.heap.size:=by obtain⟨m,hm⟩:=k1;exact DataW.trod_lt m _ _ _ hm
  obtain⟨a2,w1,l1⟩:=yw (λn=>(RB.slice (k:=57) Tryz.underlying34 (by kernel_rfl) rfl (λ_=>rfl) (VP n)).down) h1 (meas H) (hb d1 (by simp));obtain⟨cs2,rfl⟩:=mb Tryz.underlying38 (hval 2 38 v2 rfl rfl);have k2:=h2;have lt2:∀x∈p2,x.block<W.heap.size:=by obtain⟨m,hm⟩:=k2;exact DataW.trod_lt m _ _ _ hm
  obtain⟨a3,w2,l2⟩:=nQ V5 h2 (meas H) (hb d2 (by simp));obtain⟨a4,rfl,rfl,rfl,w30⟩:=open_int Tryz.underlying3 (hval 3 3 v3 rfl rfl) h3;have w3:Qp .i64 a4:=by simpa[Lit.wf,Qp]using w30
  obtain⟨cs4,rfl⟩:=mb Tryz.underlying40 (hval 4 40 v4 rfl rfl);have k4:=h4;have lt4:∀x∈p4,x.block<W.heap.size:=by obtain⟨m,hm⟩:=k4;exact DataW.trod_lt m _ _ _ hm
  obtain⟨a5,w4,l4⟩:=nQ V4 h4 (meas H) (hb d4 (by simp));clear hA0 hval0;obtain⟨n,hn⟩:=D6 a1 a2 a3 a4 a5 w0 w1 w2 w3 w4;refine(C.law (vals:=[.agg cs0,.slice b1 len1 cap1,.agg cs2,.int .i64 a4,.agg cs4]) (ie n a1 a2 a3 a4 a5 true hn) ⟨_,_,rfl,l0,⟨_,_,rfl,l1,⟨_,_,rfl,l2,⟨_,_,rfl,rfl,⟨_,_,rfl,l4,rfl⟩⟩⟩⟩⟩ (gp_law hsh hL)).mono λe W' ⟨he,bel⟩=>?_;subst he;exact⟨_,rfl,_,_,_,[],_,[],hW',trodAll_mk1 (shut_bool Tryz.underlying4 _),(trodAll_cons_mk (Below.trod laidOut (by kernel_rfl) (of_decide_eq_true (by kernel_rfl)) k0 bel lt0) (trodAll_cons_mk (Below.trod laidOut (by kernel_rfl) (of_decide_eq_true (by kernel_rfl)) k1 bel lt1) (trodAll_cons_mk (Below.trod laidOut (by kernel_rfl) (of_decide_eq_true (by kernel_rfl)) k2 bel lt2) (trodAll_cons_mk (shut_int Tryz.underlying3 w30) (trodAll_cons_mk (Below.trod laidOut (by kernel_rfl) (of_decide_eq_true (by kernel_rfl)) k4 bel lt4) trodAll_mk0))))),rfl,bel.frame _,λh=>by cases h⟩
theorem over:Rows.ClocksAlignSpecUptoSaid:=
  OpenClaim.holds_of_cond 3 Tryz.f3 rfl rfl rfl rfl rfl rfl rfl ⟨rfl,rfl,rfl,rfl,rfl⟩ rfl rfl rfl rfl rfl named Tryz.func3 DR I_ MP
    (λos started H enc _ F=>by rw[OpenClaim.pre_eq_preRow];exact lifted os started H enc F)
theorem plain(f:FuncId)(fn:Func)(hf:Tryz.pinned.checked.prog.funcNamed "stopwatch/stopwatchlaw16.ClocksAlignSpec"=some f)(hfn:Tryz.pinned.checked.prog.funcs[f]?=some fn):
    true=Tryz.pinned.checked.prog.looks []/\ ∀(j:Nat) t,fn.params[j]?=some t->Tryz.pinned.checked.prog.wantsStandIn t=false:=by
  obtain rfl:f=3:=Option.some.inj ((show Tryz.prog.funcNamed "stopwatch/stopwatchlaw16.ClocksAlignSpec"=some 3 by kernel_rfl).symm.trans hf) |>.symm
  obtain rfl:fn=Tryz.f3:=(Option.some.inj (Tryz.func3.symm.trans hfn)).symm;refine⟨by kernel_rfl,λj t ht=>?_⟩;rw[Tryz.params3]at ht;have ht2:t∈[33,34,38,3,40]:=by simpa using Array.mem_of_getElem? ht
  have all:∀t∈[33,34,38,3,40],Tryz.prog.wantsStandIn t=false:=by
    intro t h;have hh:([33,34,38,3,40].all λt=> !Tryz.prog.wantsStandIn t)=true:=by kernel_rfl
    simpa using List.all_eq_true.1 hh t h
  exact all t ht2
theorem w1:Rows.clocksAlignSpecUptoRow.wfByText (Rows.OpenSpec.upto Rows.clocksAlignSpecSpec)=true:=by kernel_rfl
theorem w2:Tryz.pinned.checked.prog.mainIs=some (Rows.clocksAlignSpecUptoCard.stood.harness.1,Rows.clocksAlignSpecUptoCard.stood.harness.2.toList):=by kernel_rfl
theorem w3:false=Rows.clocksAlignSpecUptoRow.goesBy Tryz.pinned.checked.prog:=by kernel_rfl
theorem proved:Rows.ClocksAlignSpecUptoCardSaid:=
  Claim7.holds_tied_plain_at .later [] _ _ _ _ over (λ_ h=>by cases h) w1 (λ_ h=>by cases h) clocksAlignSpecUpto_row_tie rfl ⟨rfl,rfl⟩ w2 rfl plain w3
end Go.Proofs.YthnmbndffmhalaaGreatDoor.clocksAlignSpecDone
