/- Far holds exactly the greatest differences of offsets. -/
import Derived.Test.YtgjcbknjiemdgaaGreatDoorQ16Ex
set_option linter.unusedVariables false
set_option linter.unusedSimpArgs false
namespace Go.Sw
theorem Qor{α:Type}(l:List α)(a:Int)(h:l≠[])(f:l.length<=1000)(d:0<=a):∃(k:Nat) (x:α),nz (IntKind.u64.wrap (l.length:Int))=some ()/\IntKind.i64.wrap (Int.tmod a (IntKind.u64.wrap (l.length:Int)))=(k:Int)/\k<l.length/\l[k]?=some x/\x∈l:=by
 have b:=List.length_pos_iff.2 h;have w:IntKind.u64.wrap (l.length:Int)=(l.length:Int):=by
  unfold IntKind.wrap;simp[IntKind.bits,IntKind.signed];omega
 have e:0<=Int.tmod a (l.length:Int):=Int.tmod_nonneg _ d;have g:Int.tmod a (l.length:Int)<l.length:=Int.tmod_lt_of_pos _ (by omega);rw[w];refine⟨(Int.tmod a (l.length:Int)).toNat,l[(Int.tmod a (l.length:Int)).toNat]'(by omega),?_,?_,by omega,XK _,Vd _⟩
 .unfold nz;rw[show((l.length:Int)==0)=false by simp;omega];rfl
 .rw[Qo (by omega) (by omega)];omega
def bestV(n:Nat)(D:Nat->Nat->Int)(v:Nat):List Int:=(List.range n).map λk=>D v k-D v 0
theorem Qfn{n:Nat}{D:Nat->Nat->Int}{v k:Nat}(a:k<n):(bestV n D v)[k]?=some (D v k-D v 0):=by simp[bestV,a]
theorem Qh5{n:Nat}{es:List Edge}(h:SysOk n es){a:List (List Int)}{D:Nat->Nat->Int}(f:FarOk es n a D)(F:Full es n D)(O:Ev (λm=>F_ad m ⟨(n:Int),es⟩) (a,[],0)){v:Nat}(d:v<n):
  Ev (λm=>F_ci m ⟨(n:Int),es⟩ (v:Int) (0-D v 0)) (bestV n D v,0):=by
 have V:=h.n0;have W:=h.n1;have fl:=f.len;have H:=F.ge d (j:=0) (by omega);have L:=F.le v 0 d (by omega);obtain⟨J,p,N,l⟩:=f.row v d;obtain⟨B,x,E,g⟩:=f.row 0 (by omega);have w:idx a 0=some B:=Ql (i:=0) x;have u:idx J 0=some (D v 0):=Ql (i:=0) (l 0 (by omega));have nb:∀i j,i<n->j<n->(D i j==1152921504606846976)=false:=λi j s M=>by
  have:=F.le i j s M;exact Vz.2 (by omega)
 have y:Ev (λm=>F_cd m ⟨(n:Int),es⟩ (v:Int) (0-D v 0)) (a,0):=by
  unfold F_cd;refine Ea O (Q7 (Ea (v:=false) ?_ (Q7 ?_)))
  .rw[QG (show¬((v:Int)<0)by omega),QG (show¬((n:Int)<=(v:Int))by omega)];exact Qa _
  have loop:∀(m i:Nat),i+m=n->EvI (λq=>F_ha q (a,[],0)) (i:Int) (Ctl.cont ()):=by
   intro m
   induction m with
   |zero=>
    intro i s;refine Ej ?_;unfold F_ha;simp only[QG (show¬((i:Int)<(a.length:Int))by omega),Vq];exact Qa _
   |succ m z=>
    intro i s;have b:i<n:=by omega
    obtain⟨r,P,X,Q⟩:=f.row i b;have G:idx r 0=some (D i 0):=Ql (i:=0) (Q 0 (by omega));refine Ew ?_ (z (i+1) (by omega));unfold F_ha;simp only[QO (show(i:Int)<(a.length:Int)by omega),Vp,Ql P,XJ,G,w,Ql (g i b),nb i 0 b (by omega),nb 0 i (by omega) b,Vq,QC (show i<9223372036854775807 by omega)];exact Qa _
  refine Ea (loop n 0 (by omega)).ev ?_;have t:=F.tri (i:=0) (j:=v) (v:=0) (by omega) d (by omega);rw[F.zero 0 (by omega)]at t;simp only[Ql p,u,XJ,w,Ql (g v d)];rw[Qo (n:=0-D v 0) (by omega) (by omega),QG (show¬(0-D v 0<0-D v 0)by omega),QG (show¬(D 0 v<0-D v 0)by omega)];exact Qa _
 unfold F_ci;refine Ea y (Q7 ?_);have loop:∀(m i:Nat),i+m=n->EvI (λq=>F_hl q (v:Int) (0-D v 0) (a,0)) ((List.range i).map λk=>D v k-D v 0,(i:Int)) (bestV n D v):=by
  intro m
  induction m with
  |zero=>
   intro i s;obtain rfl:i=n:=by omega
   refine Ej ?_;unfold F_hl;simp only[QG (show¬((i:Int)<(a.length:Int))by omega),Vq];exact Qa _
  |succ m z=>
   intro i s;have b:i<n:=by omega
   have q:=z (i+1) (by omega);rw[Xu,Xf]at q;refine Ew ?_ q;have t:=F.tri (i:=v) (j:=0) (v:=i) d (by omega) b;have T:=F.le v i d b;have R:=F.ge d b;unfold F_hl;simp only[QO (show(i:Int)<(a.length:Int)by omega),Vp,w,Ql (g i b),Ql p,Ql (l i b),XJ,QC (show i<9223372036854775807 by omega)];rw[Qo (n:=0-D v 0+D v i) (by omega) (by omega)];have e:(if 0-D v 0+D v i<D 0 i then 0-D v 0+D v i else D 0 i)=D v i-D v 0:=by split<;>omega
   rw[e,Qbp _ _ (by simp;omega)];exact Qa _
 exact Ea (loop n 0 (by omega)).ev (Qa _)
theorem Qi5{n:Nat}{es:List Edge}(h:SysOk n es){D:Nat->Nat->Int}(F:Full es n D){v:Nat}(b:v<n):holdB es n (bestV n D v)=true:=by
 have l:=h.n0;have f:∀k,k<n-> -4398046511104<=D v k-D v 0/\D v k-D v 0<=4398046511104:=λk a=>by
  have p:=F.le v k b a;have m:=F.ge b a;have r:=F.le v 0 b (by omega);have q:=F.ge b (j:=0) (by omega);omega
 have d:∀k,k<n->valG (bestV n D v) k=D v k-D v 0:=λk a=>by unfold valG;rw[Qfn a];rfl
 refine hold_iff.2 ⟨by simp[bestV],by rw[d 0 l];omega,λy e=>?_,λi g=>?_⟩
 .unfold bestV at e;obtain⟨k,a,rfl⟩:=Xe.1 e;have:=f k (by simpa using a);omega
 .rw[d _ (gr_T h i),d _ (Ql0 h i)];have:=F.hold v i b g;omega
theorem law_ClocksExact(c:Course)(l:List Fact)(a:Int)(vs:List Int)(V:Course.wf c)(hl:l.length<=1048576/\ ∀f∈l,Fact.wf f)(ha:Qk .u64 a)(hv:vs.length<=1048576/\ ∀x∈vs,Qk .i64 x):
  ∃n,F_fn n c l a vs=some true:=by
 have w:=Qip V;have q:=Qjc V;obtain⟨X,t2⟩:=Qnl V;obtain⟨b,pb,fb⟩:=QgZ c w q X t2;refine Ev.ex ?_;unfold F_fn;refine Ea (Ez Qot) ?_;simp only[Xg,Vq];refine Ea (v:= !b||decide (14<(l.length:Int))) (Ea pb (Eu λ_=>Qa _)) ?_;cases h6:(!b||decide (14<(l.length:Int)))with
 |true=>exact Qa _
 |false=>
  rw[XX,Bool.not_eq_false']at h6;obtain⟨hb,G⟩:=h6;have ae:l.length<=14:=by have:=Vw G;omega
  have E:=Qkz c w q (fb hb) X t2;simp only[Vq];by_cases H:courseE c=0
  .rw[H]at E;have h:=Qph H;have sl:=Qeb c l;have B:=QcK h l (by omega);rcases Qmn h E (l:=l) (by omega)with⟨φ,g,D,h1,y,O,hF⟩|⟨np,O⟩
   .refine Ea O (Ea (Qds h E (by omega)) (Q7 ?_));have F:=QjK B (QjX c (segV c l) l) y;have z:IntKind.i64.wrap (((segV c l).length:Int)+1)=(((segV c l).length+1:Nat):Int):=QC (by omega);simp only[z];have fl:=y.len;generalize hn:(segV c l).length+1=n at*;have L:0<n:=by omega
    refine Ea (v:=false) (Q7 (Ea (Qpi h (by omega) (by rw[hn];exact y)) ?_)) (Q7 ?_)
    .simp only[bne_self_eq_false,Vq,fl];exact Qa _
    have P:g≠[]:=by intro e;rw[e]at fl;simp at fl;omega
    obtain⟨v,rv,q1,T,p,R,q5⟩:=Qor g a P (by omega) (show(0:Int)<=a from ha.1);rw[fl]at q1 T p;obtain⟨ad,W,p2,Y⟩:=y.row v p;rw[R]at W;cases W;obtain⟨r0,Q,M,ab⟩:=y.row 0 L;have i0:idx g 0=some r0:=Ql (i:=0) Q;have N:idx rv 0=some (D v 0):=Ql (i:=0) (Y 0 L);have aa:=F.ge p (j:=0) L;have ac:=F.le v 0 p L;simp only[q1,T,XJ,Ql R,i0,N,p2,M,bne_self_eq_false,Vq];rw[Qo (n:=0-D v 0) (by omega) (by omega)];refine Ea (Qh5 B y F hF p) (Ea (Qh4 B _) ?_);rw[Qi5 B F p];refine Ea (v:=false) ?_ (Q7 ?_)
    .have:(bestV n D v).length=n:=by simp[bestV]
     simp only[this,bne_self_eq_false,Vq,Xg];exact Qa _
    have nb:n<=64:=B.n1;have l1:∀(m i:Nat),i+m=n->EvI (λq=>F_hc q a (segV c l,g,0) (bestV n D v,0)) (i:Int) (Ctl.cont ()):=by
     intro m
     induction m with
     |zero=>
      intro i t;refine Ej ?_;unfold F_hc;simp only[z,hn,QG (show¬((i:Int)<(n:Int))by omega),Vq];exact Qa _
     |succ m J=>
      intro i t;have d:i<n:=by omega
      have a1:=F.le v i p d;have a2:=F.ge p d;refine Ew ?_ (J (i+1) (by omega));unfold F_hc;simp only[z,hn,QO (show(i:Int)<(n:Int)by omega),Vp,T,Ql (Qfn (D:=D) (v:=v) d),Ql (Qfn (D:=D) (v:=v) p),Ql R,Ql (Y i d),XJ,F.zero v p,QC (show i<9223372036854775807 by omega)];rw[Qo (n:=D v i-D v 0-(0-D v 0)) (by omega) (by omega),show D v i-D v 0-(0-D v 0)=D v i by omega,bne_self_eq_false];exact Qa _
    refine Ea (l1 n 0 (by omega)).ev ?_;refine Ea (Qh4 B vs) ?_;cases hh:holdB (edgesV c (segV c l) l) n vs with
    |false=>exact Ea (v:=true) (Qa _) (Qa _)
    |true=>
     obtain⟨v1,v2,v3,v4⟩:=hold_iff.1 hh;refine Ea (v:=false) ?_ (Q7 ?_)
     .simp only[v1,Xg,Vq,bne_self_eq_false];exact Qa _
     have get:∀i,i<n->idx vs (i:Int)=some (valG vs i)/\ -1152921504606846976<=valG vs i/\valG vs i<=1152921504606846976:=λi t=>by
      have d:i<vs.length:=by omega
      have e:valG vs i=vs[i]:=by unfold valG;rw[XK d];rfl
      rw[e];exact⟨Ql (XK d),v3 _ (Vd d)⟩
     have l3:∀(i:Nat),i<n->∀(m k:Nat),k+m=n->EvI (λq=>F_gs q vs (segV c l,g,0) (i:Int)) (k:Int) (Ctl.cont ()):=by
      intro i t m;obtain⟨r,r1,r2,r3⟩:=y.row i t;obtain⟨g1,g2,g3⟩:=get i t
      induction m with
      |zero=>
       intro k hk;refine Ej ?_;unfold F_gs;simp only[z,hn,QG (show¬((k:Int)<(n:Int))by omega),Vq];exact Qa _
      |succ m J=>
       intro k hk;have u:k<n:=by omega
       obtain⟨g4,g5,g6⟩:=get k u;have s:=F.sol v4 t u;refine Ew ?_ (J (k+1) (by omega));unfold F_gs;simp only[z,hn,QO (show(k:Int)<(n:Int)by omega),Vp,Ql r1,r2,bne_self_eq_false,Vq,g1,g4,Ql (r3 k u),XJ,QC (show k<9223372036854775807 by omega)];rw[Qo (n:=valG vs k-valG vs i) (by omega) (by omega),QG (show¬(D i k<valG vs k-valG vs i)by omega)];exact Qa _
     have l2:∀(m i:Nat),i+m=n->EvI (λq=>F_he q vs (segV c l,g,0)) (i:Int) (Ctl.cont ()):=by
      intro m
      induction m with
      |zero=>
       intro i t;refine Ej ?_;unfold F_he;simp only[z,hn,QG (show¬((i:Int)<(n:Int))by omega),Vq];exact Qa _
      |succ m J=>
       intro i t;refine Ew ?_ (J (i+1) (by omega));unfold F_he;simp only[z,hn,QO (show(i:Int)<(n:Int)by omega),Vp,QC (show i<9223372036854775807 by omega)];exact Ea (l3 i (by omega) n 0 (by omega)).ev (Qa _)
     exact Ea (l2 n 0 (by omega)).ev (Qa _)
   .refine Ea O (Ea (Qds h E (by omega)) ?_);exact Ea (v:=true) (Qa _) (Qa _)
  .refine Ea (QkA E H) (Ea (Qff E H) ?_);have e0:(courseE c != 0)=true:=by simpa using H
   simp only[e0,Vp,beq_self_eq_true];exact Ea (v:=true) (Qa _) (Qa _)
end Go.Sw
