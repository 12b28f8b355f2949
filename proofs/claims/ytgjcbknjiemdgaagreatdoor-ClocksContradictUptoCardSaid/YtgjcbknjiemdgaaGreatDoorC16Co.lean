/- Clocks contradict each other exactly if the system has a negative cycle. -/
import Derived.Test.YtgjcbknjiemdgaaGreatDoorQ16Co
set_option linter.unusedVariables false
set_option linter.unusedSimpArgs false
namespace Go.Sw
theorem QiG{n:Nat}{es:List Edge}(h:SysOk n es)(N e1 e2:Int)(b:List (List Int))(a:List Int)(k:a.length<=64)(f:∀c∈a,∃j,j<es.length/\c=((j:Nat):Int)):
  ∀(r:List Int) (i:Nat) (s:Int),a.drop i=r->i<=a.length-> -(35184372088832*(i:Int))<=s/\s<=35184372088832*(i:Int)->EvI (λm=>F_gs m (N,es,e1) (b,a,e2)) (s,(i:Int)) (Ctl.cont (s+wSum es r))
 |[],i,s,hr,hi,_=>by
  refine Ei ?_;unfold F_gs;simp only[Yp hr hi,Vp,wSum,Vj,List.sum_nil,Int.add_zero];exact Qa _
 |c::r,i,s,hr,hi,hs=>by
  obtain⟨ha,hr'⟩:=QJ (by omega) hr;have hlt:=ha.lt';obtain⟨j,hj,rfl⟩:=f c ha.mem;have hE:=h.e1;obtain⟨w0,w1⟩:=gr_W h j;have e:s+wSum es (((j:Nat):Int)::r)=(s+(grOf es).W j)+wSum es r:=by
   unfold wSum;simp only[Vi,List.sum_cons,Int.toNat_natCast];omega
  rw[e];refine Et ?_ (QiG h N e1 e2 b a k f r (i+1) (s+(grOf es).W j) hr' (by omega) (by rw[Int.natCast_succ];omega));have d:=XK hj;generalize es[j]=x at d;obtain⟨_,_,g⟩:=Qht d;unfold F_gs;simp only[ha.lt,Vn,ha.ix,XJ,ha.nx];refine Ea (v:=false) ?_ (Yg ?_)
  .rw[QP (show¬((j:Int)<0)by omega),QP (show¬((es.length:Int)<=(j:Int))by omega)];exact Qa _
  .simp only[QQ d,XJ];rw[<- g,Qq (by omega) (by omega)];exact Qa _
def noB(f:Fact):Bool:=(f.Kind != 3)&&(f.Kind != 4)
theorem QjE(l:List Fact)(f:l.length<=1048576):Ev (λn=>iter (F_gp n l) n (([]:List Fact),0)) (l.filter noB):=by
 refine Qi6 l noB f (λi x a b d=>?_) λa=>?_
 .have e:=b.lt';unfold F_gp;simp only[b.lt,Vn,b.ix,XJ,b.nx];refine Ea (v:=noB x) (Eh λ_=>Qa _) ?_;refine Ea (v:=bif noB x then a++[x]else a) ?_ (Qa _);cases noB x with
  |true=>simp only[Vn];rw[Qbp a x (by omega)];exact Qa _
  |false=>exact Qa _
 .unfold F_gp;simp only[QcH,Vp];exact Qa _
theorem Qh0:∀(r:List Segment) (i:Nat),∀x∈baseG r i,x.W=1099511627776
 |_::r,i,x,h=>by
  simp only[baseG,X5]at h;rcases h with rfl|rfl|h
  .rfl
  .rfl
  .exact Qh0 r (i+1) x h
theorem Qlj(c:Course)(l:List Fact):PotB (edgesV c (segV c (l.filter noB)) (l.filter noB)) λ_=>0:=by
 have none:∀k,k=3\/k=4->cntS (l.filter noB) k=[]:=λk j=>by
  refine List.eq_nil_iff_forall_not_mem.2 λf e=>?_;obtain⟨a,_,h⟩:=QaB e;have a:=(Xd.1 a).2;unfold noB at a;rw[h]at a;rcases j with rfl|rfl<;>simp at a
 intro i g;obtain⟨x,b,_,_,d⟩:=Qnn g;unfold edgesV at b;rw[none 3 (.inl rfl),none 4 (.inr rfl)]at b;simp only[List.flatMap_nil,Vf]at b;rw[d,Qh0 _ _ x b];show(0:Int)<=0+1099511627776;decide
theorem law_ClocksContradict(c:Course)(l:List Fact)(t:Course.wf c)(R:l.length<=1048576/\ ∀f∈l,Fact.wf f):∃n,F_dq n c l=some true:=by
 have w:=Qid t;have q:=QiZ t;obtain⟨z,y⟩:=Qm9 t;obtain⟨b,H,fb⟩:=QgN c w q z y;refine Ev.ex ?_;unfold F_dq;refine Ea (Ex Qoc) ?_;simp only[Xg,Vp];refine Ea (v:= !b||decide (14<(l.length:Int))) (Ea H (Er λ_=>Qa _)) ?_;cases x:(!b||decide (14<(l.length:Int)))with
 |true=>exact Qa _
 |false=>
  rw[Bool.or_eq_false_iff,Bool.not_eq_false']at x;obtain⟨G,g⟩:=x;have s:l.length<=14:=by have:=Vv g;omega
  have e:=Qkn c w q (fb G) z y;simp only[Vp];by_cases j:courseE c=0
  .rw[j]at e;have d:=QoX j;have p:=Qe8 d l (by omega);have r:=Qf2 d e (l:=l) (by omega);have M:(l.filter noB).length<=14:=XV (VM _ _) s;have m:∃S a,Ev (λn=>F_b n c (l.filter noB)) (S,a,0):=by
    rcases Qmb d e (l:=l.filter noB) (by omega)with⟨_,a,_,_,_,h,_⟩|⟨E,_⟩
    .exact⟨_,a,h⟩
    .exact absurd ⟨_,Qlj c l⟩ E
   obtain⟨S',B,m⟩:=m;rcases Qma p with⟨φ,a,D,Q,O,i⟩|⟨E,k,N,P,J,L,i⟩
   .have u:Ev (λn=>F_b n c l) (segV c l,a,0):=by
     unfold F_b;exact Ea r (Yg (Ea i (Yg (Ea (QbM e (by omega)) (Qa _)))))
    refine Ea u (Ea r (Yg (Ea i ?_)));refine Ea (v:=false) (Qa _) (Yg ?_);refine Ea (QiG p _ _ _ a [] (by simp) (λc h=>by cases h) [] 0 0 rfl (XT _) (by decide)).ev ?_;refine Ea (QjE l (by omega)) (Ea m ?_);exact Ea (v:=true) (Qa _) (Qa _)
   .have u:Ev (λn=>F_b n c l) ([],[],160):=by
     unfold F_b;exact Ea r (Yg (Ea i (Qa _)))
    refine Ea u (Ea r (Yg (Ea i ?_)));refine Ea (v:=false) (Qa _) (Yg ?_);have n1:=p.n1;refine Ea (QiG p _ _ _ [] k (by omega) J k 0 0 rfl (XU _) (by decide)).ev ?_;refine Ea (QjE l (by omega)) (Ea m ?_);refine Ea (v:=true) ?_ (Qa _);simp only[Int.zero_add,QT L];exact Qa _
  .refine Ea (Qko e j) (Ea (Qe6 e j) ?_);have F:(courseE c != 0)=true:=by simpa using j
   simp only[F,Vn,beq_self_eq_true];exact Qa _
end Go.Sw
