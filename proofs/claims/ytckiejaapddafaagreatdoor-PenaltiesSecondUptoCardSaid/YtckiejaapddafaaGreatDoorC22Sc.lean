/- The second body decides alone. -/
import Derived.Test.YtckiejaapddafaaGreatDoorQ22Sc
set_option linter.unusedVariables false
set_option linter.unusedSimpArgs false
namespace Go.Sw
def secM(m:List (Int×Bool))(x:Fact):List (Int×Bool):=bif (x.Kind==10)&&((x.Ruling.Instance==2)&&validS x)then QG m x.Ruling.Case true else m
theorem QhL(k:Int):∀(l:List Fact) (m:List (Int×Bool)),QK (l.foldl secM m) k false=(QK m k false||secB l k)
 |[],m=>by simp[secB]
 |x::l,m=>by
  rw[XG,QhL k l];have e:secB (x::l) k=((rulB k 2 x&&validS x)||secB l k):=rfl;have e2:QK (secM m x) k false=(QK m k false||(rulB k 2 x&&validS x)):=by
   unfold secM rulB;cases(x.Kind==10)with
   |false=>simp
   |true=>
    cases(x.Ruling.Instance==2)with
    |false=>simp
    |true=>
     cases validS x with
     |false=>simp
     |true=>
      simp only[Bool.and_self,Vr,VC,Bool.and_true,Qcz];by_cases h:k=x.Ruling.Case
      .rw[Vv h,h];simp
      .rw[Vu h,show(x.Ruling.Case==k)=false from VB.2 λq=>h q.symm];simp
  rw[e,e2,Bool.or_assoc]
theorem law_PenaltiesSecond(c:Course)(l:List Fact)(d:Int)(r:Course.wf c)(hl:l.length<=1048576/\ ∀f∈l,Fact.wf f)(z:Ql .i64 d):∃n,F_fa n c l d=some true:=by
 obtain⟨b,u,fb⟩:=Qno c r;refine Ev.ex ?_;unfold F_fa;refine Ea (Ez Qpd) ?_;simp only[Xg,Vs];refine Ea (Qm7 l u) ?_;cases h:(b&&decide ((l.length:Int)<=14))with
 |false=>exact Qa _
 |true=>
  rw[XZ,Vt]at h;obtain⟨_,j⟩:=fb h.1;have q:l.length<=14:=by have:=h.2;omega
  simp only[Xg,Vs];refine Ea (v:=l.foldl secM []) ?_ ?_
  .refine Yq l secM [] (λm i=>(m,(i:Int))) (λm=>m) (by omega) rfl (λi x m g _=>?_) ?_
   .unfold F_hq;simp only[g.lt,Vr,g.ix,XM,g.nx];refine Ea (v:=(x.Kind==10)&&((x.Ruling.Instance==2)&&validS x)) (Ei λ_=>Ei λ_=>Ea (Qcp x) ?_) ?_
    .cases validS x<;>exact Qa _
    .unfold secM;cases((x.Kind==10)&&((x.Ruling.Instance==2)&&validS x))<;>exact Qa _
   .unfold F_hq;simp only[Qbt,Vs];exact Qa _
  have p:∀k,QK (l.foldl secM []) k false=secB l k:=λk=>by rw[QhL,Qgc,Bool.false_or]
  generalize l.foldl secM []=m at p;refine Ea (v:=l.filter (restB l)) ?_ ?_
  .refine QfL l (restB l) (by omega) (λi x a g s=>?_) λa=>?_
   .have t:=g.lt';unfold F_hl;simp only[g.lt,Vr,g.ix,XM,g.nx,p];refine Ea (v:=bif restB l x then a++[x]else a) ?_ (Qa _);refine Ea (v:= !restB l x) ?_ ?_
    .unfold restB;cases(x.Kind==10)<;>cases(x.Ruling.Instance==1)<;>cases secB l x.Ruling.Case<;>cases(x.Kind==11)<;>cases secB l x.Appeal.Case<;>exact Qa _
    .cases restB l x with
     |false=>exact Qa _
     |true=>
      simp only[Xg,Vs,Vr];rw[Qcc _ _ (by simp;omega)];exact Qa _
   .unfold F_hl;simp only[Qbt,Vs];exact Qa _
  have B:=VP (restB l) l;refine Ea (Qix _ c l d (by omega) j) (Ea (Qix _ c _ d (by omega) j) ?_);have e:casesF (courseE c) c (l.filter (restB l)) d=casesF (courseE c) c l d:=by
   unfold casesF casesOf;rw[show keysOf (l.filter (restB l))=keysOf l from QkU l]
  rw[e];obtain⟨w,y⟩:=QjD (courseE c) c l d;refine Ea (v:=true) (Ea (Qlc _ _ (by omega)) ?_) (Qa _);rw[Yt rfl];refine QiV (Ea (Qlb _ _ (by omega)) ?_);rw[Yt rfl];exact Qa _
end Go.Sw
