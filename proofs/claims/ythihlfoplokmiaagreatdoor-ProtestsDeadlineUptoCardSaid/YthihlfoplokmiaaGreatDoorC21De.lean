/- A longer time moves deadlines. -/
import Derived.Test.YthihlfoplokmiaaGreatDoorQ21De
set_option linter.unusedVariables false
set_option linter.unusedSimpArgs false
namespace Go.Sw
theorem law_ProtestsDeadline(c:Course)(l:List Fact)(f:Fact)(t:Int)(y:Course.wf c)(hl:l.length<=1048576/\ ∀f∈l,Fact.wf f)(hf:Fact.wf f)(ht:Qk .i64 t):∃n,F_gp n c l f t=some true:=by
 have w:=Qjr y;have q:=Qki y;obtain⟨F,B⟩:=Qof y;obtain⟨b,G,fb⟩:=Qlx c w q F B;obtain⟨k1,k2⟩:=QoK t;refine Ev.ex ?_;unfold F_gp;generalize hmore:Qeu .i64 t 1023=more at k1 k2⊢;generalize hd:({c with Deadline:=IntKind.i64.wrap (c.Deadline+more):Course})=d;refine Ea (EA Qpi) ?_;simp only[Xh,Vs];cases O:b with
 |false=>
  subst O;exact Ea (v:=true) (Ea G (Qa _)) (Qa _)
 |true=>
 subst O;cases s:decide ((l.length:Int)<=12)with
 |false=>
  refine Ea (v:=true) (Ea G (QP (Ea (v:=()) (Qa _) ?_))) (Qa _);exact Qa _
 |true=>
 have aa:l.length<=12:=by have:=Vx s;omega
 obtain⟨e,u,H⟩:=Qef c w q (fb rfl) F B;have M:CourseOk d:=by subst hd;exact⟨w.name,w.mats,w.matsN,w.legs,w.dist,w.distN,w.cut,w.wave,w.waveN,w.off,w.offN,w.cat,w.catN,w.prize⟩
 have Q:PartsOk d:=by subst hd;exact⟨q.len,q.wf⟩
 have P:FewL d:=by subst hd;exact⟨(fb rfl).lens,(fb rfl).name,(fb rfl).dist,(fb rfl).ties⟩
 obtain⟨J,g,z⟩:=Qef d M Q P (by subst hd;exact F) (by subst hd;exact B);refine Ea (v:=(e != 0)||(J != 0)) (Ea G (QP (Ea (v:=()) (Qa _) ?_))) ?_
 .refine QP (Ea H (Eu λ_=>Ea z (Qa _)))
 cases T:((e != 0)||(J != 0))with
 |true=>exact Qa _
 |false=>
  rw[XZ,bne_eq_false_iff_eq,bne_eq_false_iff_eq]at T;obtain⟨rfl,rfl⟩:=T;simp only[Vs];have r1:=(QfK c w q (fb rfl) u).2;have r2:=(QfK d M Q P g).2;have X:d.Deadline=c.Deadline+more:=by subst hd;exact QJ (by omega) (by omega)
  have R:∀(m:List Fact) (k:Int),(about m k).isEmpty=true/\deadS 0 c m k=(0,false)/\deadS 0 d m k=(0,false)\/(about m k).isEmpty=false/\deadS 0 c m k=(maxAt (about m k)+c.Deadline,true)/\deadS 0 d m k=(maxAt (about m k)+c.Deadline+more,true):=λm k=>by
   have hx:=Qgw (l:=m) (k:=k);unfold deadS;cases(about m k).isEmpty with
   |true=>exact .inl ⟨rfl,rfl,rfl⟩
   |false=>
    refine .inr ⟨rfl,?_,?_⟩
    .show(IntKind.i64.wrap (maxAt (about m k)+c.Deadline),true)=_;rw[QJ (by omega) (by omega)]
    .show(IntKind.i64.wrap (maxAt (about m k)+d.Deadline),true)=_;rw[QJ (by omega) (by omega),X,Int.add_assoc]
  have st:∀(m:List Fact) (p:Protest),standS 0 d m p=standS 0 c m p:=λm p=>by subst hd;rfl
  have Y:d.Fee=c.Fee:=by subst hd;rfl
  have am:admS 0 c l f=true->admS 0 d l f=true:=λh=>by
   obtain⟨p1,p2,W,p4,N,L,V⟩:=Qkc h;unfold admS;rw[p1,p2,W,Y,p4,st,V];rcases R (l.filter (filedB f.At)) f.Protest.Case with⟨E,a,j⟩|⟨E,a,j⟩
   .rw[a]at N;cases N
   .rw[a]at L;rw[j];rw[Vw (show f.At<=maxAt (about (l.filter (filedB f.At)) f.Protest.Case)+c.Deadline+more by have:f.At<=maxAt (about (l.filter (filedB f.At)) f.Protest.Case)+c.Deadline:=L;omega)];rfl
  refine Ea (Qn0 [1,2,3,f.Protest.Case] (λ_=>false) (λ_=>false) (by simp) (λi x r=>?_) ?_) ?_
  .unfold F_iq;rw[hmore,hd];simp only[r.lt,Vr,r.ix,XL,r.nx];refine Ea (Qb0 0 c l x (by omega) u) (Ea (Qb0 0 d l x (by omega) g) ?_);refine Ea (v:=false) ?_ (Qa _);have hx:=Qgw (l:=l) (k:=x);rcases R l x with⟨E,a,j⟩|⟨E,a,j⟩
   .rw[a,j];exact Qa _
   .rw[a,j];simp only[QJ (show-9223372036854775808<=maxAt (about l x)+c.Deadline+more by omega) (show maxAt (about l x)+c.Deadline+more<=9223372036854775807 by omega),Qp2,Xh,Vr,Vs];exact Qa _
  .unfold F_iq;simp only[YU,Vs];exact Qa _
  .show Ev (λn=>_) true;refine Ea (v:=true) (Ea (Qct 0 c l f (by omega) u) ?_) (Qa _);cases r:admS 0 c l f with
   |false=>exact Qa _
   |true=>
    refine QP (Ea (Qct 0 d l f (by omega) g) ?_);rw[am r];exact Qa _
end Go.Sw
