/- The check agrees with the reference. -/
import Derived.Test.YthdhdobclejckaaGreatQ19Ck
set_option linter.unusedVariables false
set_option linter.unusedSimpArgs false
set_option maxRecDepth 10000
namespace Go.Sw
theorem Qmj{a:stopwatchlaw19_Input}(w:stopwatchlaw19_Input.wf a)(f:FewI a)(k:Ev (λn=>F_ao n a) true)(t:Task)(h:taskE a.C a.K a.S a.Extra a.Hits a.Hands=.inr t):t.r.length<=8:=by
 have e:=QfS f.ty f.good f.clk (by have:=f.hits;omega) h;have g:t.r=(routeO a.C a.S.Distance a.Extra).1:=by rw[e.is];rfl
 obtain⟨j,d,p,l,q,i,m,s,u⟩:=Qb0 (f.good e.cE) e.rt;have:=(XL.1 i).1;rw[g];exact Qjm w f k e.cE (by omega) (by omega) e.rt
theorem law_MatchCheckSpec(d:stopwatchlaw19_Input)(e:Way)(w0:stopwatchlaw19_Input.wf d)(k:Way.wf e):∃n,F_ha n d e=some true:=by
 refine Ev.ex ?_;unfold F_ha;refine Ea (EA Qm5) ?_;simp only[Xg,Vp];obtain⟨b,h,fb⟩:=QnB d w0;cases b with
 |false=>exact Ea (v:=true) (Ea h (Qa _)) (Qa _)
 |true=>
 have f:=fb rfl;have g:=k.1.1;by_cases a:300<(e.Hits.length:Int)
 .exact Ea (v:=true) (Ea h (Qt ((Qa _).eq (Qx a)))) (Qa _)
 refine Ea (v:=false) (Ea h (Qt ((Qa _).eq (Qy a)))) (Qt ?_);have i:d.Hits.length<=1000:=by have:=f.hits;omega
 have j:d.Hands.length<=1048576:=by have:=f.hands;omega
 refine Ea (v:=true) ?_ (Qa _);refine Ea (Qld f g) (Ea (QhT f.ty f.ref f.good f.clk i j (Qmj w0 f h) g) (YY (beq_self_eq_true _) ?_));exact Ea (QfA e d.Hits g (by omega)) (Ea (QeF e d.Hits g (by omega)) ((Qa _).eq (beq_self_eq_true _)))
end Go.Sw
