/- What is filed later does not change whether a protest is admissible. -/
import Derived.Test.YthihlfoplokmiaaGreatDoorQ21La
set_option linter.unusedVariables false
set_option linter.unusedSimpArgs false
namespace Go.Sw
def tellB(k:Int)(g:Fact):Bool:=validS g&&(((g.Kind==8)&&(g.Report.Case==k))||((g.Kind==10)&&(g.Ruling.Case==k)))
theorem law_ProtestsLater(c:Course)(l d:List Fact)(f:Fact)(y:Course.wf c)(hl:l.length<=1048576/\ ∀f∈l,Fact.wf f)(hm:d.length<=1048576/\ ∀f∈d,Fact.wf f)(hf:Fact.wf f):∃n,F_et n c l d f=some true:=by
 have w:=QiK y;have q:=QjB y;obtain⟨Q,O⟩:=Qnv y;obtain⟨b,X,fb⟩:=QkQ c w q Q O;refine Ev.ex ?_;unfold F_et;refine Ea (Ez QoB) ?_;simp only[Xh,Vr];refine Ea (v:= !b||(!decide ((l.length:Int)<=12)|| !decide ((d.length:Int)<=12))) (Ea X (Et λ_=>Ea (v:=()) (Qa _) (Et λ_=>Ea (v:=()) (Qa _) (Qa _)))) ?_;cases P:(!b||(!decide ((l.length:Int)<=12)|| !decide ((d.length:Int)<=12)))with
 |true=>exact Qa _
 |false=>
  rw[XY,XY,Bool.not_eq_false',Bool.not_eq_false',Bool.not_eq_false']at P;obtain⟨hb,s,u⟩:=P;have L:l.length<=12:=by have:=Vw s;omega
  have E:d.length<=12:=by have:=Vw u;omega
  obtain⟨e,m⟩:=Qhb c w q (fb hb) Q O;simp only[Vr];have W:app ([]:List Fact) l=some l:=by rw[QnZ _ _ (by simp;omega)];rfl
  simp only[W,XK];have T:(d.filter λg=>decide (f.At<g.At)).length<=12:=XW (VO ..) E;refine Ea (v:=l++d.filter λg=>decide (f.At<g.At)) ?_ ?_
  .rw[<- Jy (λg:Fact=>decide (f.At<g.At))];refine QZ d (λa x=>bif decide (f.At<x.At)then a++[x]else a) l (λa i=>(a,(i:Int))) (λa=>a) (by omega) rfl (λi x a j H=>?_) ?_
   .have J:a.length<=24:=by
     rw[H,Jy (λg:Fact=>decide (f.At<g.At)),X4];have:=VO (λg:Fact=>decide (f.At<g.At)) (d.take i);rw[Xy]at this;omega
    unfold F_hj;simp only[j.lt,Vq,j.ix,XK,j.nx];cases decide (f.At<x.At)with
    |false=>exact Qa _
    |true=>
     simp only[Vq];rw[Jf a _ (by omega)];exact Qa _
   .unfold F_hj;simp only[Qah,Vr];exact Qa _
  refine Ea (v:=l.filter (filedB f.At)) (QfB l _ (by omega) (λi x a j J=>?_) λa=>?_) ?_
  .have aa:=j.lt';have Y:decide (x.At<=f.At)=filedB f.At x:=by
    unfold filedB;by_cases h:f.At<x.At
    .rw[Vv h,Vy (by omega)];rfl
    .rw[Vy h,Vv (by omega)];rfl
   unfold F_hh;simp only[j.lt,Vq,j.ix,XK,j.nx,Y];cases filedB f.At x with
   |false=>exact Qa _
   |true=>
    simp only[Vq];rw[Jf a _ (by omega)];exact Qa _
  .unfold F_hh;simp only[Qah,Vr];exact Qa _
  have R:(l++d.filter λg=>decide (f.At<g.At)).filter (filedB f.At)=l.filter (filedB f.At):=by
   rw[List.filter_append];have:(d.filter λg=>decide (f.At<g.At)).filter (filedB f.At)=[]:=by
    refine Qar λx k=>?_;have:=(Xe.1 k).2;unfold filedB;rw[this];rfl
   rw[this,Vh]
  have f2:(l.filter (filedB f.At)).filter (filedB f.At)=l.filter (filedB f.At):=by
   rw[List.filter_filter];simp
  have a1:admS e c (l++d.filter λg=>decide (f.At<g.At)) f=admS e c l f:=by unfold admS;rw[R]
  have a2:admS e c (l.filter (filedB f.At)) f=admS e c l f:=by unfold admS;rw[f2]
  have ab:(l.filter (filedB f.At)).length<=12:=XW (VO ..) L;refine Ea (Qch e c l f (by omega) m) ?_;refine Ea (v:=false) ?_ ?_
  .refine Ea ((QbP e c _ f (by rw[X4];omega) (by rw[R];omega) m).eq a1) ?_;rw[QmO];refine Y8 (Ea ((Qch e c _ f (by omega) m).eq a2) ?_);rw[QmO];exact Qa _
  simp only[Vr];cases j:admS e c l f with
  |false=>exact Qa _
  |true=>
   obtain⟨p1,p2,p3,p4,N,p6,V⟩:=Qjv j;obtain⟨_,M⟩:=QkZ N;simp only[Xh,Vr];generalize hB:l.filter (filedB f.At)=B at*;refine Ea (QdW e c B _ (by omega) m) ?_;have t:B.any (tellB f.Protest.Case)=true:=by
    cases z:about B f.Protest.Case with
    |nil=>rw[z]at M;cases M
    |cons g r=>
     have hg:g∈about B f.Protest.Case:=by rw[z];simp
     obtain⟨m1,m2,p⟩:=Qir hg;refine Xu.2 ⟨g,m1,?_⟩;unfold tellB;rw[m2];rcases p with⟨p,F⟩|⟨p,F⟩
     .rw[p,F];simp
     .rw[p,F];simp
   refine Ea (v:=true) ?_ ?_
   .have G:∀(r:List Fact) (b:Bool),r.foldl (λb g=>b||tellB f.Protest.Case g) b=(b||r.any (tellB f.Protest.Case)):=by
     intro r
     induction r with
     |nil=>intro b;simp
     |cons g r ih=>intro b;rw[XE,ih,List.any_cons,Bool.or_assoc]
    have e3:B.foldl (λb g=>b||tellB f.Protest.Case g) false=true:=by rw[G,t];rfl
    rw[<- e3];refine QZ B (λb g=>b||tellB f.Protest.Case g) false (λb i=>(b,(i:Int))) (λb=>b) (by omega) rfl (λi x b k _=>?_) ?_
    .unfold F_gv;simp only[k.lt,Vq,k.ix,XK,k.nx];refine Ea (v:=b||tellB f.Protest.Case x) (Et λ_=>Ea (Ja x) ?_) (Qa _);unfold tellB;cases validS x<;>cases(x.Kind==8)<;>cases(x.Report.Case==f.Protest.Case)<;>cases(x.Kind==10)<;>exact Qa _
    .unfold F_gv;simp only[Qah,Vr];exact Qa _
   refine Ea (v:=true) ?_ (Qa _);rw[N,Vv p6,p2,p3];refine QfA (QfA (QfA (QfA (QfA (Ea (QdV e c B f.Protest (by omega) m) ?_)))));rw[V];exact Qa _
end Go.Sw
