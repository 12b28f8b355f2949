/- A crossing whose report obeys the errors lies within True. -/
import Derived.Test.YtgjcbknjiemdgaaGreatDoorQ16Tr
set_option linter.unusedVariables false
set_option linter.unusedSimpArgs false
namespace Go.Sw
theorem Qos{α:Type}(l:List α)(a:Int)(h:l≠[])(e:l.length<=1000)(d:0<=a):∃(k:Nat) (x:α),nz (IntKind.u64.wrap (l.length:Int))=some ()/\IntKind.i64.wrap (Int.tmod a (IntKind.u64.wrap (l.length:Int)))=(k:Int)/\k<l.length/\l[k]?=some x/\x∈l:=by
 have b:=List.length_pos_iff.2 h;have w:IntKind.u64.wrap (l.length:Int)=(l.length:Int):=by
  unfold IntKind.wrap;simp[IntKind.bits,IntKind.signed];omega
 have g:0<=Int.tmod a (l.length:Int):=Int.tmod_nonneg _ d;have f:Int.tmod a (l.length:Int)<l.length:=Int.tmod_lt_of_pos _ (by omega);rw[w];refine⟨(Int.tmod a (l.length:Int)).toNat,l[(Int.tmod a (l.length:Int)).toNat]'(by omega),?_,?_,by omega,XK _,Vd _⟩
 .unfold nz;rw[show((l.length:Int)==0)=false by simp;omega];rfl
 .rw[Qn (by omega) (by omega)];omega
theorem law_ClocksTrue(c:Course)(l:List Fact)(vs:List Int)(a d m:Int)(u:Course.wf c)(hl:l.length<=1048576/\ ∀f∈l,Fact.wf f)(hv:vs.length<=1048576/\ ∀x∈vs,Qk .i64 x)(W:Qk .u64 a)(H:Qk .i64 d)(V:Qk .i64 m):
  ∃n,F_dl n c l vs a d m=some true:=by
 have w:=Qio u;have q:=Qja u;obtain⟨N,M⟩:=Qnl u;obtain⟨b,X,fb⟩:=Qg0 c w q N M;refine Ev.ex ?_;unfold F_dl;refine Ea (Ez Qou) ?_;simp only[Xg,Vq];refine Ea (v:= !b||decide (14<(l.length:Int))) (Ea X (Eu λ_=>Qa _)) ?_;cases O:(!b||decide (14<(l.length:Int)))with
 |true=>exact Qa _
 |false=>
  rw[XX,Bool.not_eq_false']at O;obtain⟨hb,p⟩:=O;have aa:l.length<=14:=by have:=Vw p;omega
  have h:=Qkx c w q (fb hb) N M;simp only[Vq];by_cases r:courseE c=0
  .rw[r]at h;have g:=Qpg r;have sl:=QcA c l;have B:=QbM g l (by omega);rcases Qmm g h (l:=l) (by omega)with⟨φ,ab,D,h1,G,z,_⟩|⟨np,z⟩
   .refine Ea z (Ea (Qdr g h (by omega)) ?_);refine Ea (v:=(((segV c l).length:Int)==0)) (QT (QT (Qa _))) ?_;cases P:(((segV c l).length:Int)==0)with
    |true=>exact Qa _
    |false=>
     have y:segV c l≠[]:=by intro e;rw[e]at P;simp at P
     refine QT (Ea (Qmk B vs) ?_);have wl:IntKind.i64.wrap (((segV c l).length:Int)+1)=(((segV c l).length+1:Nat):Int):=QH (by omega);cases T:holdB (edgesV c (segV c l) l) ((segV c l).length+1) vs with
     |false=>exact Ea (v:=true) (Qa _) (Qa _)
     |true=>
      obtain⟨v1,Y,v3,E⟩:=hold_iff.1 T;refine Ea (v:=false) ?_ (QT ?_)
      .simp only[wl,v1,Xg,Vq,bne_self_eq_false];exact Qa _
      obtain⟨k,s,q1,q2,q3,J,L⟩:=Qos (segV c l) a y (by omega) (show(0:Int)<=a from W.1);simp only[q1,q2,Qq J,XJ];refine Ea (Qml g h L d) (Ea (QnK g (by omega) h G J d) ?_);cases ht:timeB d with
      |false=>exact Ea (v:=true) (Qa _) (Qa _)
      |true=>
       refine Ea (v:=false) (Qa _) (QT ?_);have F:=QgR B (Qg8 c (segV c l) l) G;have t:k+1<(segV c l).length+1:=by omega
       have iv:idx vs (IntKind.i64.wrap ((k:Int)+1))=some (valG vs (k+1)):=by
        rw[QH (by omega)];have:k+1<vs.length:=by omega
        rw[Qq (XK this)];unfold valG;rw[XK this];rfl
       simp only[iv,XJ,Vp];have s1:=F.sol E (i:=0) (j:=k+1) (by omega) t;have R:=F.sol E (i:=k+1) (j:=0) t (by omega);rw[Y]at s1 R;have b1:=F.le 0 (k+1) (by omega) t;have b2:=F.le (k+1) 0 t (by omega);have Q:=Qpu.1 ht;obtain⟨d1,d2,d3,d4⟩:=Qi1 g (kindM c s.Mat) (Qcj L).an Q;unfold isT at Q;generalize devV c (kindM c s.Mat) s d=dv at*;generalize hcl:(if dv.Lo<(if dv.Hi<m then dv.Hi else m)then(if dv.Hi<m then dv.Hi else m)else dv.Lo)=cl;have c1:dv.Lo<=cl/\cl<=dv.Hi:=by
        rw[<- hcl];split<;>split<;>omega
       generalize valG vs (k+1)=x at*;rw[Qn (n:=d+x) (by omega) (by omega),Qn (n:=d+x+cl) (by omega) (by omega),QQ (show d+dv.Lo-D (k+1) 0<=d+x+cl by omega),QQ (show d+x+cl<=d+dv.Hi+D 0 (k+1)by omega)];exact Ea (Qa _) (Qa _)
   .exact Ea z (Ea (Qdr g h (by omega)) (Ea (v:=true) (Qa _) (Qa _)))
  .refine Ea (Qky h r) (Ea (Qff h r) ?_);have e0:(courseE c != 0)=true:=by simpa using r
   refine Ea (v:=true) ?_ (Qa _);simp only[e0,Vp];exact Qa _
end Go.Sw
