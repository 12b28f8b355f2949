/- Segments and Error agree with the reference. -/
import Derived.Test.YtgjcbknjiemdgaaGreatDoorQ16Sg
set_option linter.unusedVariables false
set_option linter.unusedSimpArgs false
namespace Go.Sw
theorem law_ClocksSegmentsSpec(c:Course)(l:List Fact)(s:Segment)(a:Int)(j:Course.wf c)(H:l.length<=1048576/\ ∀f∈l,Fact.wf f)(L:Segment.wf s)(u:Qm .i64 a):∃n,F_gn n c l s a=some true:=by
 have w:=Qi3 j;have q:=QjS j;obtain⟨k,i⟩:=QnK j;obtain⟨b,y,fb⟩:=Qhu c w q k i;refine Ev.ex ?_;unfold F_gn;refine Ea (Ey QoN) ?_;simp only[Xg,Vl];refine Ea (v:= !b||decide (14<(l.length:Int))) (Ea y (Er λ_=>Qa _)) ?_;cases p:(!b||decide (14<(l.length:Int)))with
 |true=>exact Qa _
 |false=>
  rw[Bool.or_eq_false_iff,Bool.not_eq_false']at p;obtain⟨t,e⟩:=p;have E:l.length<=14:=by have:=Vs e;omega
  have g:=Qln c w q (fb t) k i;have r:=Qhr c w q (fb t) k i;obtain⟨x,G,B⟩:=Qlm g r (λh=>Qpj h) s a;have J:=QnM c l;have d:Ev (λn=>F_s n c l) (bif courseE c != 0 then([],courseE c)else(segV c l,0)):=by
   by_cases m:courseE c=0
   .rw[m]at g⊢;exact QiJ g (by omega)
   .rw[show(courseE c != 0)=true by simpa using m];exact Qht g m
  simp only[Vl];refine Ea d (Ea (Qfz r (by omega)) (Ea G (Ea B ?_)));generalize hz:(bif courseE c != 0 then(([]:List Segment),courseE c)else(segV c l,0))=z;have F:z.1.length<=1048576:=by
   rw[<- hz];cases courseE c != 0 with
   |true=>simp
   |false=>show(segV c l).length<=1048576;omega
  refine Ea (v:=true) (Ea (Qju _ _ F) ?_) (Qa _);rw[QZ rfl];simp only[Vk,beq_self_eq_true];exact Qa _
end Go.Sw
