/- Open cases are those with an admissible protest and no later ruling. -/
import Derived.Test.YthihlfoplokmiaaGreatDoorQ21Op
set_option linter.unusedVariables false
set_option linter.unusedSimpArgs false
namespace Go.Sw
def laterB(l:List Fact)(f g:Fact):Bool:=(g.Kind==10)&&(validS g&&((g.Ruling.Case==f.Protest.Case)&&(decide (f.At<g.At)&& !((voidR l).any λr=>decide (r=refOf g)))))
theorem Qmi(l:List Fact)(f:Fact):lateB l f=l.any (laterB l f):=by
 unfold lateB;rw[XZ,Xu,Xu];constructor
 .rintro⟨g,a,b⟩;rw[XX,Vz]at b;rcases QpE.1 a with⟨m,i,d⟩|h
  .refine⟨g,m,?_⟩;unfold standB at d;simp only[XX]at d;unfold laterB;rw[i,d.1,d.2.1,d.2.2,b.2];rfl
  .obtain⟨_,_,d⟩:=QbT h;unfold repB at d;rw[XX,Vz]at d;have:=b.1;omega
 .rintro⟨g,a,b⟩;unfold laterB at b;simp only[XX]at b;obtain⟨e,k,p,n,j⟩:=b;refine⟨g,QpE.2 (.inl ⟨a,k,?_⟩),by rw[e,n];rfl⟩;unfold standB;rw[e,p,j];rfl
def metM(e:Int)(c:Course)(l:List Fact)(m:List (Int×Bool))(f:Fact):List (Int×Bool):=bif openB e c l f then QO m f.Protest.Case true else m
theorem QgT(e:Int)(c:Course)(l:List Fact):∀(r:List Fact) (m:List (Int×Bool)),(m.map Prod.fst).Nodup->(∀k,YD m k≠some false)->(((r.foldl (metM e c l) m).map Prod.fst).Nodup/\(∀k,YD (r.foldl (metM e c l) m) k≠some false)/\ ∀k,k∈(r.foldl (metM e c l) m).map Prod.fst↔k∈m.map Prod.fst\/ ∃f∈r,openB e c l f=true/\f.Protest.Case=k)
 |[],m,h1,h2=>⟨h1,h2,λk=>by simp⟩
 |x::r,m,h1,h2=>by
  rw[XE];cases hb:openB e c l x with
  |false=>
   have e1:metM e c l m x=m:=by unfold metM;rw[hb];rfl
   rw[e1];obtain⟨h,i,j⟩:=QgT e c l r m h1 h2;refine⟨h,i,λk=>?_⟩;rw[j k];constructor
   .rintro(q|⟨f,a,b⟩)
    .exact .inl q
    .exact .inr ⟨f,by simp[a],b⟩
   .rintro(q|⟨f,a,b,g⟩)
    .exact .inl q
    .rcases X7.1 a with rfl|a
     .rw[hb]at b;cases b
     .exact .inr ⟨f,a,b,g⟩
  |true=>
   have e1:metM e c l m x=QO m x.Protest.Case true:=by unfold metM;rw[hb];rfl
   rw[e1];obtain⟨h,i,j⟩:=QgT e c l r (QO m x.Protest.Case true) (Qcx _ _ h1) (λk=>by
    rw[YB];by_cases z:k=x.Protest.Case
    .rw[Vu z];intro y;cases y
    .rw[Vt z];exact h2 k)
   refine⟨h,i,λk=>?_⟩;have n:k∈(QO m x.Protest.Case true).map Prod.fst↔k=x.Protest.Case\/k∈m.map Prod.fst:=by
    rw[Qbd,Qbd];constructor
    .rintro⟨v,d⟩;rw[YB]at d;by_cases z:k=x.Protest.Case
     .exact .inl z
     .rw[Vt z]at d;exact .inr ⟨v,d⟩
    .rintro(z|⟨v,d⟩)
     .exact⟨true,by rw[YB,Vu z]⟩
     .by_cases z:k=x.Protest.Case
      .exact⟨true,by rw[YB,Vu z]⟩
      .exact⟨v,by rw[YB,Vt z];exact d⟩
   rw[j k,n];constructor
   .rintro((rfl|q)|⟨f,a,b⟩)
    .exact .inr ⟨x,by simp,hb,rfl⟩
    .exact .inl q
    .exact .inr ⟨f,by simp[a],b⟩
   .rintro(q|⟨f,a,b,g⟩)
    .exact .inl (.inr q)
    .rcases X7.1 a with rfl|a
     .exact .inl (.inl g.symm)
     .exact .inr ⟨f,a,b,g⟩
theorem law_ProtestsOpen(c:Course)(l:List Fact)(B:Course.wf c)(hl:l.length<=1048576/\ ∀f∈l,Fact.wf f):∃n,F_gb n c l=some true:=by
 have w:=QiO B;have q:=QjE B;obtain⟨O,Q⟩:=QnD B;obtain⟨b,V,fb⟩:=QkV c w q O Q;refine Ev.ex ?_;unfold F_gb;refine Ea (Ez QoJ) ?_;simp only[Xh,Vr];refine Ea (v:= !b|| !decide ((l.length:Int)<=12)) (Ea V (Et λ_=>Ea (v:=()) (Qa _) (Qa _))) ?_;cases L:(!b|| !decide ((l.length:Int)<=12))with
 |true=>exact Qa _
 |false=>
  rw[XY,Bool.not_eq_false',Bool.not_eq_false']at L;obtain⟨R,y⟩:=L;have aa:l.length<=12:=by have:=Vw y;omega
  obtain⟨e,J⟩:=Qhe c w q (fb R) O Q;simp only[Vr];have E:(voidR l).length<=100:=by
   unfold voidR voidS;rw[X3];exact XW (VO ..) (by have:=Qby l;omega)
  refine Ea (Qkk l (by omega)) (Ea (Qn2 e c l (by omega) J) ?_);refine Ea (v:=l.foldl (metM e c l) []) ?_ ?_
  .refine QL l (metM e c l) [] (λm i=>(m,(i:Int))) (λm=>m) (by omega) rfl (λi x m a _=>?_) ?_
   .unfold F_gw;simp only[a.lt,Vq,a.ix,XK,a.nx];refine Ea (v:=metM e c l m x) ?_ (Qa _);refine Ea (Qcp e c l x (by omega) J) ?_;unfold metM openB;cases admS e c l x with
    |false=>exact Qa _
    |true=>
     simp only[Xh,Vr,VB];refine Ea (v:= !lateB l x) ?_ ?_
     .rw[Qmi];have F:∀(r:List Fact) (b:Bool),r.foldl (λb g=>b&& !laterB l x g) b=(b&& !r.any (laterB l x)):=by
       intro r
       induction r with
       |nil=>intro b;simp
       |cons g r z=>
        intro b;rw[XE,z,List.any_cons];cases b<;>cases laterB l x g<;>simp
      have e3:(!l.any (laterB l x))=l.foldl (λb g=>b&& !laterB l x g) true:=by rw[F];rfl
      rw[e3];refine QL l (λb g=>b&& !laterB l x g) true (λb i=>(b,(i:Int))) (λb=>b) (by omega) rfl (λj g b u _=>?_) ?_
      .unfold F_hc;simp only[u.lt,Vq,u.ix,XK,u.nx];refine Ea (v:=b&& !laterB l x g) ?_ (Qa _);refine Ea (v:=(g.Kind != 10)||(!validS g||((g.Ruling.Case != x.Protest.Case)||decide (g.At<=x.At)))) (Et λ_=>Ea (Y9 g) ?_) ?_
       .cases validS g with
        |false=>exact Qa _
        |true=>exact Y7 (Et λ_=>Qa _)
       have e4:laterB l x g=(!((g.Kind != 10)||(!validS g||((g.Ruling.Case != x.Protest.Case)||decide (g.At<=x.At))))&& !((voidR l).any λr=>decide (r=refOf g))):=by
        unfold laterB;have Y:decide (x.At<g.At)= !decide (g.At<=x.At):=by
         by_cases h:g.At<=x.At
         .rw[Vv h,Vy (by omega)];rfl
         .rw[Vy h,Vv (by omega)];rfl
        rw[Y,bne,bne];cases(g.Kind==10)<;>cases validS g<;>cases(g.Ruling.Case==x.Protest.Case)<;>cases decide (g.At<=x.At)<;>simp
       rw[e4];cases(g.Kind != 10)||(!validS g||((g.Ruling.Case != x.Protest.Case)||decide (g.At<=x.At)))with
       |true=>cases b<;>exact Qa _
       |false=>
        simp only[Vr,Xi,VB];refine Ea (v:= !((voidR l).any λr=>decide (r=refOf g))) ?_ ?_
        .have T:∀(r:List Ref) (b:Bool),r.foldl (λb v=>b&&(v != refOf g)) b=(b&& !(r.any λv=>decide (v=refOf g))):=by
          intro r
          induction r with
          |nil=>intro b;simp
          |cons v r z=>
           intro b;rw[XE,z,List.any_cons];have:(v != refOf g)= !decide (v=refOf g):=rfl;rw[this];cases b<;>cases decide (v=refOf g)<;>simp
         have e6:(!((voidR l).any λr=>decide (r=refOf g)))=(voidR l).foldl (λb v=>b&&(v != refOf g)) true:=by rw[T];rfl
         rw[e6];generalize voidR l=vs at E;refine QL vs (λb v=>b&&(v != refOf g)) true (λb i=>(b,(i:Int))) (λb=>b) (by omega) rfl (λj v b s _=>?_) ?_
         .unfold F_gz;simp only[s.lt,Vq,s.ix,XK,s.nx];cases b<;>exact Qa _
         .unfold F_gz;simp only[Ju,Vr];exact Qa _
        .generalize((voidR l).any λr=>decide (r=refOf g))=v;cases b<;>cases v<;>exact Qa _
      .unfold F_hc;simp only[Ju,Vr];exact Qa _
     .cases lateB l x<;>exact Qa _
   .unfold F_gw;simp only[Ju,Vr];exact Qa _
  obtain⟨N,P,M⟩:=QgT e c l l [] (by simp) (λk h=>by cases h);obtain⟨H,o2⟩:=Ql6 e c l;generalize l.foldl (metM e c l) []=m at N P M;have d:∀k,k∈openF e c l↔k∈m.map Prod.fst:=λk=>by rw[o2,M];simp
  have on:(openF e c l).Nodup:=List.Pairwise.imp (λh=>by omega) H;have p:(openF e c l).Perm (m.map Prod.fst):=(List.perm_ext_iff_of_nodup on N).2 d;have t:(openF e c l).length=m.length:=by rw[p.length_eq,X3]
  have ab:(openF e c l).length<=1048576:=by
   unfold openF;rw[(Ql _ _).length_eq,X3];have:=Qdp e c l l [];rw[List.length_nil]at this;omega
  generalize openF e c l=cs at*;refine Ea (Qnp cs (λ_=>false) (λ_=>false) (by omega) (λi x a=>?_) ?_) ?_
  .have G:=a.lt';have u:Qo m x false=true:=by
    rw[Qbs];obtain⟨v,s⟩:=(Qbd m x).1 ((d x).1 a.mem);rw[s];cases v with
    |true=>rfl
    |false=>exact absurd s (P x)
   unfold F_hb;simp only[a.lt,Vq,a.ix,XK,a.nx,u,Xh,Vr];refine Ea (v:=false) ?_ (Qa _);cases hi:decide (0<(i:Int))with
   |false=>exact Qa _
   |true=>
    have X:0<i:=by have:=Vw hi;omega
    have hp:cs[i-1]?=some cs[i-1]:=XL (by omega);have w1:IntKind.i64.wrap ((i:Int)-1)=((i-1:Nat):Int):=by rw[Ys (by omega) (by omega)];omega
    simp only[Vq,w1,YS hp,XK];have:=VF.1 H (i-1) i (by omega) G (by omega);have W:cs[i]=x:=(XM.1 a.get).2;rw[W]at this;rw[YJ (show¬x<=cs[i-1]by omega)];exact Qa _
  .unfold F_hb;simp only[Ju,Vr];exact Qa _
  .have e0:cs.find? (λ_=>false)=none:=List.find?_eq_none.2 λx _=>Bool.false_ne_true;rw[e0];refine Eu (Qa _) ?_;rw[t];simp
end Go.Sw
