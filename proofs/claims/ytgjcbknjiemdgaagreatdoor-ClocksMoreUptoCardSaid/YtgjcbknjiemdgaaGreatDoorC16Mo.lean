/- Further facts never widen what is known of the clocks. -/
import Derived.Test.YtgjcbknjiemdgaaGreatDoorQ16Mo
set_option linter.unusedVariables false
set_option linter.unusedSimpArgs false
namespace Go.Sw
theorem Qkw{c:Course}{S:List Segment}{l m:List Fact}(h:∀f∈l,f∈m):∀x∈edgesV c S l,x∈edgesV c S m:=by
 have sub:∀k,∀f∈cntS l k,f∈cntS m k:=λk f a=>by
  obtain⟨d,g,e⟩:=QaB a;unfold cntS;rw[Xd,(Qdt m).2];exact⟨⟨h f d,g⟩,by simpa using e⟩
 intro x b;unfold edgesV at b⊢;simp only[VC,List.mem_flatMap]at b⊢;rcases b with h|⟨f,a,h⟩|⟨f,a,h⟩
 .exact .inl h
 .exact .inr (.inl ⟨f,sub 3 f a,h⟩)
 .exact .inr (.inr ⟨f,sub 4 f a,h⟩)
theorem Ql4{n:Nat}{es h:List Edge}{S S':List Segment}{f g:List (List Int)}{D D':Nat->Nat->Int}{e l:Int}(F:n<=100)(s:FarOk es n f D)(hg:FarOk h n g D')(q:∀i j,i<n->j<n->D' i j<=D i j):
  Ev (λm=>iter (F_fj m (S,f,e) (S',g,l)) m 0) (Ctl.cont ()):=by
 have lf:=s.len;have B:=hg.len;have inner:∀(i:Nat),i<n->∀(m k:Nat),k+m=n->EvI (λm=>F_gs m (S,f,e) (S',g,l) (i:Int)) (k:Int) (Ctl.cont ()):=by
  intro i d m;obtain⟨r,w,G,x⟩:=s.row i d;obtain⟨t,u,E,z⟩:=hg.row i d
  induction m with
  |zero=>
   intro k y;refine Ej ?_;unfold F_gs;simp only[QK (show¬((k:Int)<(f.length:Int))by omega),Vp];exact Qa _
  |succ m p=>
   intro k y;have b:k<n:=by omega
   refine Ew ?_ (p (k+1) (by omega));unfold F_gs;simp only[QS (show(k:Int)<(f.length:Int)by omega),Vn,QK (show¬((g.length:Int)<=(i:Int))by omega),Vp,QJ w,QJ u,XJ,QK (show¬((r.length:Int)<=(k:Int))by omega),QK (show¬((t.length:Int)<=(k:Int))by omega),QJ (x k b),QJ (z k b),QK (show¬(D i k<D' i k)by have:=q i k d b;omega),QO (show k<9223372036854775807 by omega)];exact Qa _
 have a:∀(m i:Nat),i+m=n->EvI (λm=>F_fj m (S,f,e) (S',g,l)) (i:Int) (Ctl.cont ()):=by
  intro m
  induction m with
  |zero=>
   intro i d;refine Ej ?_;unfold F_fj;simp only[QK (show¬((i:Int)<(f.length:Int))by omega),Vp];exact Qa _
  |succ m p=>
   intro i d;refine Ew ?_ (p (i+1) (by omega));unfold F_fj;simp only[QS (show(i:Int)<(f.length:Int)by omega),Vn,QO (show i<9223372036854775807 by omega)];exact Ea (inner i (by omega) n 0 (by omega)).ev (Qa _)
 exact(a n 0 (by omega)).ev
theorem law_ClocksMore(c:Course)(l:List Fact)(f:Fact)(y:Course.wf c)(hl:l.length<=1048576/\ ∀f∈l,Fact.wf f)(hf:Fact.wf f):∃n,F_ep n c l f=some true:=by
 have w:=Qik y;have q:=Qi5 y;obtain⟨F,N⟩:=Qnb y;obtain⟨b,X,fb⟩:=QgT c w q F N;refine Ev.ex ?_;unfold F_ep;refine Ea (Ez Qoh) ?_;simp only[Xg,Vp];refine Ea (v:= !b||decide (12<(l.length:Int))) (Ea X (Eu λ_=>Qa _)) ?_;cases G:(!b||decide (12<(l.length:Int)))with
 |true=>exact Qa _
 |false=>
  rw[Bool.or_eq_false_iff,Bool.not_eq_false']at G;obtain⟨P,h⟩:=G;have O:l.length<=12:=by have:=Vv h;omega
  have d:=Qkt c w q (fb P) F N;simp only[Vp];rw[QjR [] l (by simp;omega)];simp only[XJ,Vg];rw[QjR l [f] (by simp;omega)];simp only[XJ];have hm:(l++[f]).length<=13:=by simp;omega
  by_cases r:courseE c=0
  .rw[r]at d;have a:=Qo4 r;refine Ea (QaW d (by omega)) (Ea (QaW d (by omega)) ?_);have sl:=Qgw c l;refine Ea (v:= !decide (segV c l=segV c (l++[f]))) (Yk (Yk (Ea (QiM _ _ (by show(segV c l).length<=1048576;omega)) (Qa _)))) ?_;by_cases z:segV c l=segV c (l++[f])
   .rw[QS z];refine Yk ?_;have sub:=Qkw (c:=c) (S:=segV c l) (l:=l) (m:=l++[f]) λg V=>List.mem_append_left _ V;have H:=QcM a l (by omega);have E:=QcM a (l++[f]) (by omega);have x:=Qh0 a d (l:=l++[f]) (by omega);have J:=QjQ c (segV c (l++[f])) (l++[f]);rw[<- z]at x E J;rcases Qh0 a d (l:=l) (by omega)with⟨φ,W,D,h1,L,B,_⟩|⟨R,B⟩
    .refine Ea B ?_;rcases x with⟨φ',p,D',M,s,e,_⟩|⟨t,e⟩
     .refine Ea e (Yk (Yk ?_));have F1:=QjE H (QjQ c (segV c l) l) L;have F2:=QjE E J s;have nn:=H.n1;refine Ea (Ql4 (by omega) L s λi j u Y=>?_) (Qa _);have:=((F1.wk i j u Y).sub sub).le (f:=D' i) λk Q=>F2.hold i k u Q;rw[F2.zero i u]at this;omega
     .refine Ea e (Yk ?_);exact Ea (Qa _) (Qa _)
    .refine Ea B ?_;rcases x with⟨φ',p,D',M,s,e,_⟩|⟨t,e⟩
     .exact absurd ⟨φ',M.sub sub⟩ R
     .exact Ea e (Qa _)
   .rw[QK z];exact Qa _
  .refine Ea (QcL d r) (Ea (QcL d r) ?_);have T:(courseE c != 0)=true:=by simpa using r
   refine Ea (v:=true) ?_ (Qa _);simp only[T,Vn];exact Qa _
end Go.Sw
