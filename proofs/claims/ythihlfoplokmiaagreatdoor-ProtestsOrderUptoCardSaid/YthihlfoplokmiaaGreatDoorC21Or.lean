/- The order and repetition of facts have no effect on protests. -/
import Derived.Test.YthihlfoplokmiaaGreatDoorQ21Or
set_option linter.unusedVariables false
set_option linter.unusedSimpArgs false
namespace Go.Sw
theorem law_ProtestsOrder(c:Course)(l:List Fact)(f:Fact)(t:Int)(s:Course.wf c)(hl:l.length<=1048576/\ ∀f∈l,Fact.wf f)(r:Fact.wf f)(P:Qi .i64 t):∃n,F_dm n c l f t=some true:=by
 have w:=Qjd s;have q:=Qj7 s;obtain⟨z,B⟩:=Qn4 s;obtain⟨b,M,fb⟩:=Qlp c w q z B;refine Ev.ex ?_;unfold F_dm;refine Ea (EB Qpd) ?_;simp only[Xh,Vr];refine Ea (v:= !b||(!decide ((l.length:Int)<=12)||((l.length:Int)==0))) (Ea M (Eu λ_=>Ea (v:=()) (Qa _) (Eu λ_=>Qa _))) ?_;cases y:(!b||(!decide ((l.length:Int)<=12)||((l.length:Int)==0)))with
 |true=>exact Qa _
 |false=>
  rw[XY,XY,Bool.not_eq_false',Bool.not_eq_false']at y;obtain⟨E,i,N⟩:=y;have H:l.length<=12:=by have:=Vw i;omega
  have j:l≠[]:=by rintro rfl;simp at N
  obtain⟨e,d⟩:=Qhy c w q (fb E) z B;obtain⟨k,x,F,L,u,G,O⟩:=Qn3 l t j;simp only[Vr,F,L,XK,G,Qjm l u,QeO l u];rw[QhB [Uk] _ (by simp;omega)];simp only[XK];rw[QhB _ _ (by simp;omega)];simp only[XK];rw[QhB _ [x] (by simp;omega)];simp only[XK];have g:SameF l ([Uk]++l.drop k++l.take k++[x]):=by
   intro f r;have J:f≠Uk:=by rintro rfl;rw[QmP]at r;cases r
   simp only[VE,VC];constructor
   .intro h;rw[<- Xz k l,VE]at h;rcases h with h|h
    .exact .inl (.inr h)
    .exact .inl (.inl (.inr h))
   .rintro(((h|h)|h)|h)
    .exact absurd h J
    .exact List.mem_of_mem_drop h
    .exact List.mem_of_mem_take h
    .rw[h];exact O
  have a:([Uk]++l.drop k++l.take k++[x]).length<=16:=by simp;omega
  generalize[Uk]++l.drop k++l.take k++[x]=m at g a;refine Ea (QbZ e c l _ (by omega) d) (Ea (QbZ e c m _ (by omega) d) ?_);rw[<- QfE (e:=e) (c:=c) g];refine Ea (v:=true) ?_ (Qa _);rw[beq_self_eq_true,beq_self_eq_true];refine QgS (QgS (Ea (QbY e c l _ (by omega) d) (Ea (QbY e c m _ a d) ?_)));rw[<- Qd1 (e:=e) (c:=c) g,beq_self_eq_true];refine QgS (Ea (Qba e c l f (by omega) d) (Ea (Qba e c m f a d) ?_));rw[<- QgM (e:=e) (c:=c) g,beq_self_eq_true];refine QgS (Ea (QkN e c l (by omega) d) (Ea (QkN e c m a d) ?_));rw[<- QjC (e:=e) (c:=c) g];have p:(openF e c l).length<=1048576:=by
   unfold openF;rw[(Qk _ _).length_eq,X3];have:=Qdz e c l l [];rw[List.length_nil]at this;omega
  refine Ea (QjN _ _ p) ?_;rw[YT rfl];exact Qa _
end Go.Sw
