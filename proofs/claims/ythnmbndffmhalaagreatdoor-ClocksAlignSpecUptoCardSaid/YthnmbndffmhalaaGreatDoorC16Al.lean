/- Align, Check and True agree with the reference. -/
import Derived.Test.YthnmbndffmhalaaGreatDoorQ16Al
set_option linter.unusedVariables false
set_option linter.unusedSimpArgs false
set_option maxRecDepth 10000
namespace Go.Sw
open Option renaming some→AC
open Bool renaming false→AD,true→AE
open Decidable renaming decide→AG
open List renaming length→AI
theorem zP(k:Bp)(w:L4 k):∃v,Ev (λn=>OQ n k) v:=by
 unfold OQ;cases h:(AG (8<(AI k.AR:Int))||AG (10<(AI k.BB:Int)))with
 |true=>exact⟨AD,Ea (Ex λ_=>Qa _) (by rw[h];exact Qa _)⟩
 |false=>
  have lp:Ev (λn=>iter (NG n k) n 0) (bif (List.range (AI k.BB)).all (λi=>match k.BB[i]? with|some r=> !decide (12<(AI r:Int))|none=>AE)then Bn.k ()else Bn.d AD):=by
   refine Ju (AI k.BB) _ _ _ (λi e=>?_) ?_
   .have a:=Za w.far e;unfold NG;simp only[a.lt,Vq,a.ix,XK,a.nx,a.get];cases AG (12<(AI (k.BB[i]):Int))<;>exact Qa _
   .unfold NG;simp only[KT,Vr];exact Qa _
  cases d:(List.range (AI k.BB)).all (λi=>match k.BB[i]? with|some r=> !decide (12<(AI r:Int))|none=>AE)with
  |true=>rw[d]at lp;exact⟨AE,Ea (Ex λ_=>Qa _) (by rw[h];exact Qy (Ea lp (Qa _)))⟩
  |false=>rw[d]at lp;exact⟨AD,Ea (Ex λ_=>Qa _) (by rw[h];exact Qy (Ea lp (Qa _)))⟩
theorem QkF(S:AA Bk)(T:AA (AA Int))(h:AI S<=1000)(g:AI T<=1000)(d:∀x∈T,AI x<=1000):Ev (λn=>Nm n ⟨S,T⟩ ⟨S,T⟩) true:=by
 unfold Nm;refine Ea (v:=AD) (Ea ((QkE S S (by omega)).eq (Vv rfl)) ?_) ?_
 .simp only[Xg,Vr,bne_self_eq_false];exact Qa _
 .have lp:Ev (λn=>iter (NM n ⟨S,T⟩ ⟨S,T⟩) n 0) (bif (List.range (AI T)).all (λi=>AE)then Bn.k ()else Bn.d AD):=by
   refine Ju (AI T) _ _ _ (λi f=>?_) ?_
   .have a:=Za (show AI T<=1048576 by omega) f;unfold NM;simp only[a.lt,Vq,a.ix,XK,a.nx];refine Ea ((zS _ _ (by have:=d _ a.mem;omega)).eq (Vv rfl)) ?_;exact Qa _
   .unfold NM;simp only[KT,Vr];exact Qa _
  have e:(List.range (AI T)).all (λ_=>AE)=true:=by simp
  rw[e]at lp;exact Qy (Ea lp (Qa _))
theorem D6(c:Bl)(l:AA Bm)(k:Bp)(a:Int)(s:CA)(p:Bl.wf c)(hl:AI l<=1048576/\ ∀f∈l,Bm.wf f)(T:Bp.wf k)(ha:Qp .i64 a)(Y:CA.wf s):∃n,Sr n c l k a s=AC true:=by
 have w:=Qj9 p;have q:=zt p;obtain⟨j,m⟩:=w8 p;obtain⟨b,X,fb⟩:=Qir c w q j m;have wk:L4 k:=by
  obtain⟨⟨P,_⟩,⟨E,N⟩,_⟩:=T;exact⟨P,E,λr d=>(N r d).1⟩
 obtain⟨z,R⟩:=zP k wk;refine Ev.ex ?_;unfold Sr;refine Ea (ED wS) ?_;simp only[Xg,Vr];refine Ea (v:= !b||(AG (14<(AI l:Int))|| !z)) (Ea X (Ex λ_=>Ex λ_=>Ea R (Qa _))) ?_;cases B:(!b||(AG (14<(AI l:Int))|| !z))with
 |true=>exact Qa _
 |false=>
  rw[XY,XY,Bool.not_eq_false']at B;obtain⟨u,e,_⟩:=B;have M:AI l<=14:=by have:=Vw e;omega
  have i:=zJ c w q (fb u) j m;have d:=Qim c w q (fb u) j m;simp only[Vr];have W:∃r,(AI r.1<=1000/\AI r.2.1<=1000/\ ∀x∈r.2.1,AI x<=1000)/\Ev (λn=>Kb n c l) r/\Ev (λn=>IQ n c l) r:=by
   by_cases g:C3 c=0
   .rw[g]at i d;exact zI (pS g) i d (by omega)
   .refine⟨([],[],C3 c),⟨by simp,by simp,λx H=>by cases H⟩,zH i g,?_⟩;have y:(C3 c != 0)=true:=by simpa using g
    unfold IQ Li;refine Ea (v:=(0,[],C3 c)) (Ea (ng d (by omega)) ?_) ?_
    iterate 2 simp only[y,Vq];exact Qa _
  obtain⟨r,⟨L,O,F⟩,J,Q⟩:=W;obtain⟨t,G,V⟩:=xj (λh=>pS h) i d k wk a s;refine Ea J (Ea Q (Ea G (Ea V ?_)));refine Ea (v:=AE) (Ea (QkF r.1 r.2.1 L O F) ?_) (Qa _);simp only[Vq,beq_self_eq_true];refine Ea (lR k wk) (Ea (li k wk) ?_);simp only[Vq,beq_self_eq_true,decide_true];exact Qa _
end Go.Sw
