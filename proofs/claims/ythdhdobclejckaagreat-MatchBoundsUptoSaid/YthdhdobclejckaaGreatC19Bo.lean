/- Bounds: an admitted way keeps the bounds. -/
import Derived.Test.YthdhdobclejckaaGreatQ19Bo
set_option linter.unusedVariables false
set_option linter.unusedSimpArgs false
set_option maxRecDepth 10000
namespace Go.Sw
def handM(l:List Hand):List (Int×Bool):=l.foldl (λm h=>QU m h.Position true) []
theorem Qe6:∀(l:List Hand) (a:List (Int×Bool)) (p:Int),Qq (l.foldl (λm h=>QU m h.Position true) a) p false=(l.any (λh=>h.Position==p)||Qq a p false)
 |[],a,p=>rfl
 |x::l,a,p=>by
  rw[XC,Qe6 l _ p,List.any_cons];unfold Qq;rw[Qac];by_cases e:p=x.Position
  .subst e;simp
  .rw[Vp e,show(x.Position==p)=false from beq_false_of_ne λq=>e q.symm];simp
theorem QiK(l:List Hand)(p:Int):Qq (handM l) p false=YF (hndV l).1 p:=by
 unfold handM;rw[Qe6,QbE,Qgs,Option.isSome_map];show(_||false)=_;rw[Bool.or_false]
 induction l with
 |nil=>rfl
 |cons x l a=>
  rw[List.any_cons,List.find?_cons];cases(x.Position==p)<;>simp[a]
theorem QiW(a:stopwatchlaw19_Input)(W:Way)(d:a.Hands.length<=1048576)(h:∀x∈a.Hands,x.Position<=W.Last):Ev (λn=>Go.Sw.iter (F_gz n a W) n (([]:List (Int×Bool)),0)) (Ctl.cont (handM a.Hands)):=by
 refine Jq a.Hands (λ(m:List (Int×Bool)) x=>QU m x.Position true) [] (λm i=>(m,(i:Int))) (λm=>Ctl.cont m) (by omega) rfl (λi x m ha _=>?_) ?_
 .have:=h x ha.mem;unfold F_gz;simp only[ha.lt,Vm,ha.ix,XI,ha.nx,Qy (show¬W.Last<x.Position by omega),Vn];exact Qa _
 .unfold F_gz;simp only[Qa6,Vn];exact Qa _
theorem QiV{t:Task}(ok:TaskOk t)(a:stopwatchlaw19_Input)(W:Way)(hH:t.H=a.Hits)(hM:t.c.Faults.Misses=a.C.Faults.Misses)(m:List (Int×Bool))(hm:∀p,Qq m p false=YF t.m p)(ab:W.Hits.length=t.r.length)(e:Int):
  ∀(r:List Int) (i:Nat) (u v:List (Int×Bool)) (s:Uf) (row:Int),W.Hits.drop i=r->i<=W.Hits.length->(∀q,0<=q->Qq v q false=Qq u q false)->((i:Int)<=W.Last->row=s.row)->0<=s.row->s.row<=(i:Int)->admL t W r i u s=true->
   EvI (λn=>F_fq n a W (t.r,e) m) (v,row,(i:Int)) (Ctl.cont ()):=by
 have rl:=ok.rl;intro r
 induction r with
 |nil=>
  intro i u v s row R hi _ _ _ _ _;have ad:W.Hits.length<=i:=Xq.1 R;refine Ej ?_;unfold F_fq;simp only[Qy (show¬(i:Int)<(t.r.length:Int)by omega),Vn];exact Qa _
 |cons h r V=>
  intro i u v s row R hi P N h0 ac d;obtain⟨Q,k⟩:=Qt (by omega) R;have ae:=Q.lt';have G:t.r[i]?=some (t.r[i]'(by omega)):=XJ (by omega);rw[Qfl]at d;cases j:((h != -1)&&badV t W u i h)with
  |true=>rw[j]at d;cases d
  |false=>
  rw[j,Vn]at d;obtain⟨hI,w⟩:=Qd7 j;have L:Ev (λn=>(bif (h != (-1))then(bif decide (h<0)then some true else(bif decide ((a.Hits.length:Int)<=h)then some true else(some (Qq v h false)).bind λE=>(bif E then some true else(idx a.Hits h).bind λB=>(idx t.r (i:Int)).bind λM=>(bif (B.Mat != M)then some true else some (decide (W.Last<(i:Int)))))))else some false:Option Bool)) false:=by
   rcases w with rfl|⟨X,Y⟩
   .exact Qa _
   .unfold badV at Y;simp only[XW,decide_eq_false_iff_not]at Y;obtain⟨b1,b2,T,b4,b5⟩:=Y;obtain⟨y,y1,y2⟩:=Qbl (l:=t.H) (h:=h) (by omega) (by omega);rw[y1,G]at T;simp only[Xj,Option.getD_some]at T;rw[hH]at y2 b2;have F:(h != -1)=true:=by simp[bne];omega
    refine QaR F (Qam (Qy b1) (Qam (Qy b2) ?_));rw[P h X,b4,y2,Qu G];simp only[XI,Vn];rw[T,Qy b5];exact Qa _
  have x:∀q,0<=q->Qq (QU v h (h != -1)) q false=Qq (bif h != -1 then QU u h true else u) q false:=by
   intro q hq;rcases w with rfl|⟨X,_⟩
   .show Qq (QU v (-1) false) q false=Qq u q false;unfold Qq;rw[Qac,Vp (by omega)];exact P q hq
   .have F:(h != -1)=true:=by simp[bne];omega
    rw[F];simp only[Vm];have:=P q hq;unfold Qq at this⊢;rw[Qac,Qac];split<;>simp_all
  have step:∀(b:Bool) (g:Int),((h != -1)||Qq m (i:Int) false)=b->(bif b then 0 else IntKind.i64.wrap (row+1))=g->((i:Int)<=W.Last->g<=a.C.Faults.Misses)->
    Ev (λn=>F_fq n a W (t.r,e) m (v,row,(i:Int))) (Ctl.cont (QU v h (h != -1),g,((i+1:Nat):Int))):=by
   intro b g e1 e2 e3;unfold F_fq;simp only[QA (show(i:Int)<(t.r.length:Int)by omega),Vm,Q.ix,XI,Q.nx];refine Ea L (Qs (Ea (v:=b) (Ew (Ql λ_=>Qa _) e1) (Ea (v:=g) ?_ (Ea (v:=false) ?_ (Qs (Qa _))))))
   .rw[<- e2];cases b<;>exact Qa _
   .by_cases z:(i:Int)<=W.Last
    .exact QaR (QA z) ((Qa _).eq (Qy (by have:=e3 z;omega)))
    .exact Qam (Qy z) (Qa _)
  by_cases z:W.Last<(i:Int)
  .rw[QA z,Vm]at d;exact Ex (step _ _ rfl rfl (λq=>by omega)) (V (i+1) _ _ s _ k (by omega) x (λq=>by omega) h0 (by omega) d)
  .rw[Qy z,Vn]at d;have er:=N (by omega);subst er;cases f:(stepV t s (i:Int) h).2 with
   |false=>rw[f]at d;cases d
   |true=>
   rw[f]at d;simp only[Xg,Vn]at d;have aa:(knownV t (i:Int) h).2=((h != -1)||YF t.m (i:Int)):=by
    unfold knownV;rcases w with rfl|⟨X,_⟩
    .rw[QA (show(-1:Int)<0 by omega),Bool.or_true];rfl
    .have F:(h != -1)=true:=by simp[bne];omega
     rw[Qy (show¬h<0 by omega),F,Bool.or_false];cases e:YF t.m (i:Int)<;>simp[e]
   unfold stepV at f d;rw[aa]at f d;cases O:((h != -1)||YF t.m (i:Int))with
   |false=>
    rw[O]at f d;simp only[Xh,Vm]at f d;have f:=Vs f;refine Ex (step false (s.row+1) (by rw[hm];exact O) (Qz (by omega) (by omega)) (λ_=>by omega)) (V (i+1) _ _ _ _ k (by omega) x (λ_=>rfl) (by show 0<=s.row+1;omega) (by show s.row+1<=_;omega) d)
   |true=>
    rw[O]at f d;simp only[Xg,Vn]at f d;cases J:stopV t s (i:Int) h with
    |true=>rw[J]at f;cases f
    |false=>
     rw[J]at d;simp only[Vn]at d;exact Ex (step true 0 (by rw[hm];exact O) rfl (λ_=>by have:=ok.mi;omega)) (V (i+1) _ _ _ _ k (by omega) x (λ_=>rfl) (by show(0:Int)<=0;omega) (by show(0:Int)<=_;omega) d)
theorem law_MatchBounds(a:stopwatchlaw19_Input)(e:Way)(w0:stopwatchlaw19_Input.wf a)(J:Way.wf e):∃n,F_en n a e=some true:=by
 refine Ev.ex ?_;unfold F_en;refine Ea (EA Ql9) ?_;simp only[Xg,Vn];obtain⟨b,u,fb⟩:=QmE a w0;cases b with
 |false=>exact Ea (v:=true) (Ea u (Qa _)) (Qa _)
 |true=>
 have f:=fb rfl;have z:=J.1.1;by_cases h:300<(e.Hits.length:Int)
 .exact Ea (v:=true) (Ea u (Qs (QaR (QA h) (Qa _)))) (Qa _)
 cases w:(chkV a.C a.K a.S a.Extra a.Hits a.Hands e != 0)with
 |true=>exact Ea (v:=true) (Ea u (Qs (Qam (Qy h) (Ea (QgO f z) (by exact(Qa _).eq w))))) (Qa _)
 |false=>
 obtain⟨t,O,i,d⟩:=QmJ f (by simpa[bne]using w);have g:=f.good i.cE;have M:routeO a.C a.S.Distance a.Extra=(t.r,0):=by
  have:=i.is;refine Prod.ext ?_ i.rt;rw[this];rfl
 have E:t.H=a.Hits:=by rw[i.is];rfl
 have s:t.c=a.C:=by rw[i.is];rfl
 have G:t.m=(hndV a.Hands).1:=by rw[i.is];rfl
 have B:t.hi=(hndV a.Hands).2:=by rw[i.is];rfl
 unfold admV at d;cases y:admB t e with
 |true=>rw[y]at d;cases d
 |false=>
 rw[y,Vn]at d;have k:=y;unfold admB at k;simp only[XW,decide_eq_false_iff_not]at k;obtain⟨j,L,N,P,F⟩:=k;have l:e.Hits.length=t.r.length:=by have:=j;simp[bne]at this;omega
 refine Ea (v:=false) (Ea u (Qs (Qam (Qy h) (Ea (QgO f z) (by exact(Qa _).eq w))))) (Qs ?_);refine Ea ((QgP g (by have:=f.ty;rwa [i.cE]at this) a.S.Distance a.Extra).eq M) ?_;refine Ea (v:=false) ?_ (Qs ?_)
 .refine Qam rfl (Qam j (Qam (Qy L) (Qam (Qy N) (Ea (Qfd e a.Hits z (by have:=f.hits;omega)) ((Qa _).eq ?_)))));rw[E,s]at F;exact Qy F
 have q:∀x∈a.Hands,x.Position<=e.Last:=((Qj3 a.Hands e.Last).1 (by rw[<- B];omega)).2;refine Ea (QiW a e (by have:=f.hands;omega) q) ?_;simp only;refine Ea (QiV i.ok a e E (by rw[s]) (handM a.Hands) (λp=>by rw[G];exact QiK _ _) l 0 e.Hits 0 [] [] s0V 0 rfl (XT _) (λ_ _=>rfl) (λ_=>rfl) (by show(0:Int)<=0;omega) (by show(0:Int)<=0;omega) d).ev ?_;exact Qa _
end Go.Sw
