/- Admissible and Open match the specification. -/
import Derived.Test.YtbhpipneolcmkaaGreatDoorQ21Ad
set_option linter.unusedVariables false
set_option linter.unusedSimpArgs false
namespace Go.Sw
theorem law_ProtestsAdmissibleSpec(c:Course)(l:List Fact)(f:Fact)(k:Course.wf c)(hl:l.length<=1048576/\ ∀f∈l,Fact.wf f)(J:Fact.wf f):∃n,F_gx n c l f=some true:=by
 have w:=QkT k;have q:=QlW k;obtain⟨t,u⟩:=QpY k;obtain⟨b,F,fb⟩:=Qnn c w q t u;refine Ev.ex ?_;unfold F_gx;refine Ea (Ez Qq0) ?_;simp only[Xh,Vj];refine Ea (v:= !b|| !decide ((l.length:Int)<=12)) (Ea F (Ep λ_=>Ea (v:=()) (Qa _) (Qa _))) ?_;cases s:(!b|| !decide ((l.length:Int)<=12))with
 |true=>exact Qa _
 |false=>
  rw[Bool.or_eq_false_iff,Bool.not_eq_false',Bool.not_eq_false']at s;obtain⟨B,h⟩:=s;have H:l.length<=12:=by have:=Vp h;omega
  obtain⟨e,p,d⟩:=Qks c w q (fb B) t u;simp only[Vj];rw[QcG [f] l (by simp;omega)];simp only[XG];have loop:∀(r:List Fact) (i:Nat),([f]++l).drop i=r->i<=([f]++l).length->EvI (λn=>F_gi n c l ([f]++l)) (i:Int) (.cont ()):=by
   intro r
   induction r with
   |nil=>
    intro i m y;refine Eh ?_;unfold F_gi;simp only[QO m y,Vj];exact Qa _
   |cons x r E=>
    intro i m y;obtain⟨a,j⟩:=Qt (by simp;omega) m;have G:=a.lt';cases z:decide (5<(i:Int))with
    |true=>
     refine Eh ?_;unfold F_gi;simp only[a.lt,Vi,a.ix,XG,z];exact Qa _
    |false=>
     refine Et ?_ (E (i+1) j (by omega));unfold F_gi;simp only[a.lt,Vi,a.ix,XG,a.nx,z,Vj];refine Ea (QcX e c l x (by omega) p) (Ea (Qbw e c l x (by omega) d) ?_);rw[QrD];exact Qa _
  refine Ea (loop _ 0 rfl (XR _)).ev ?_;refine Ea (Qqv e c l (by omega) p) (Ea (Qlt e c l (by omega) d) ?_);have g:(openF e c l).length<=1048576:=by
   unfold openF;rw[(Qu _ _).length_eq,XX];have:=Qen e c l l [];rw[List.length_nil]at this;omega
  refine Ea (Qls _ _ g) ?_;rw[YS rfl];exact Qa _
end Go.Sw
