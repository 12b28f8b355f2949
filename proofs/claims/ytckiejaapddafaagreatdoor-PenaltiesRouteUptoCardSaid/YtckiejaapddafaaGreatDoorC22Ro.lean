/- The route with the penalty laps of a starter exists. -/
import Derived.Test.YtckiejaapddafaaGreatDoorQ22Ro
set_option linter.unusedVariables false
set_option linter.unusedSimpArgs false
namespace Go.Sw
theorem Qn5(e:Int)(c:Course)(l:List Fact)(b:Int)(hl:l.length<=15)(he:Ev (λn=>F_e n c) e)(g:e=0->Good c)(j:∀p∈ofF e c l b,okPen p):Ev (λn=>F_ai n c l b) (lapsS (ofF e c l b)):=by
 unfold F_ai;refine Ea (Qp1 e c l b hl he g) (Ea ?_ (Qa _));have q:=QkR e c l b;generalize ofF e c l b=x at j q;have f:∀(r:List Penalty) (i:Nat) (s:Int),x.drop i=r->i<=x.length->0<=s->s<=64*(i:Int)->EvI (λn=>F_hp n x) (s,(i:Int)) (s+lapsS r):=by
  intro r
  induction r with
  |nil=>
   intro i s d k _ _;refine(Ej ?_).eq (b:=s) (by simp[lapsS]);unfold F_hp;simp only[Yg d k,Vw];exact Qa _
  |cons p r m=>
   intro i s d k w y;obtain⟨a,h⟩:=QN (by omega) d;have t:=a.lt';have u:=j p a.mem;unfold okPen at u;refine(Ex ?_ (m (i+1) (s+p.Laps) h (by omega) (by omega) (by omega))).eq (by rw[Qag];omega);unfold F_hp;simp only[a.lt,Vv,a.ix,XP,a.nx];rw[QW (n:=s+p.Laps) (by omega) (by omega)];exact Qa _
 exact(f x 0 0 (by simp) (X0 _) (Int.le_refl _) (by simp)).ev.eq (by omega)
theorem Qnn{e:Int}{c:Course}{l:List Fact}{b:Int}(h:(startF e c l).1.find? (λs=>s.Bib==b)=none):ofF e c l b=[]:=by
 unfold ofF;rw[h];cases((startF e c l).2 != 0)<;>rfl
theorem Qlx{e:Int}{c:Course}{l:List Fact}(h:(startF e c l).2≠0):(startF e c l).1=[]:=by
 unfold startF at h⊢;cases q:(e != 0)with
 |true=>rfl
 |false=>
  rw[q]at h;rw[Vw]at h⊢;cases a:decide (((ordF (firstS c l)).map chipK).Nodup)with
  |true=>rw[a]at h;exact absurd rfl h
  |false=>rfl
theorem Qgs{c:Course}{l:List Fact}{s:Starter}(g:courseE c=0->Good c)(h:s∈(startF (courseE c) c l).1):
  courseE c=0/\ ∃(j:Nat) (d:Distance),s.Distance=(j:Int)/\c.Distances[j]?=some d/\(flPs d.Route).length<=256/\roomF c s=bif decide (0<=d.Extra)then 256-((flPs d.Route).length:Int)else 0:=by
 have f:=(Qdx h).1;have k:=QeS h;have b:=g f;obtain⟨j,i⟩:∃j:Nat,s.Distance=(j:Int):=⟨s.Distance.toNat,by omega⟩;have a:c.Distances[j]?=some (c.Distances[j]'(by omega)):=XQ (by omega);have e:=(b.route _ (VN a)).2;rw[b.exp (VN a)]at e;refine⟨f,j,_,i,a,e,?_⟩;unfold roomF;rw[i,Int.toNat_natCast,a]
theorem Qij{c:Course}{l:List Fact}{s:Starter}(g:courseE c=0->Good c)(h:s∈(startF (courseE c) c l).1):0<=roomF c s/\roomF c s<=256:=by
 obtain⟨_,j,d,_,_,b,a⟩:=Qgs g h;rw[a];cases decide (0<=d.Extra)<;>simp only[Vv,Vw]<;>omega
theorem law_PenaltiesRoute(c:Course)(l:List Fact)(e:Int)(hc:Course.wf c)(hl:l.length<=1048576/\ ∀f∈l,Fact.wf f)(hb:Ql .i64 e):∃n,F_fj n c l e=some true:=by
 obtain⟨b,pb,fb⟩:=Qok c hc;refine Ev.ex ?_;unfold F_fj;refine Ea (EA Qqe) ?_;simp only[Xg,Vw];refine Ea (QnZ l pb) ?_;cases X:(b&&decide ((l.length:Int)<=14))with
 |false=>exact Qa _
 |true=>
  rw[X3,Vx]at X;obtain⟨fo,Q⟩:=fb X.1;have af:l.length<=14:=by have:=X.2;omega
  have J:courseE c=0->Good c:=λM=>Qph (Qen hc) (QfZ hc) M;simp only[Xg,Vw];have hx:(∀p∈ofF (courseE c) c l e,okPen p)/\(ofF (courseE c) c l e).Pairwise (λa b=>a.Position<=b.Position)/\0<=lapsS (ofF (courseE c) c l e)/\
    (∀s,(startF (courseE c) c l).1.find? (λs=>s.Bib==e)=some s->lapsS (ofF (courseE c) c l e)<=roomF c s):=by
   unfold ofF;cases N:((startF (courseE c) c l).2 != 0)with
   |true=>exact⟨λp G=>(by cases G),List.Pairwise.nil,Int.le_refl _,λs t=>by rw[Qlx (by simpa using N)]at t;cases t⟩
   |false=>
    rw[Vw];cases u:(startF (courseE c) c l).1.find? λs=>s.Bib==e with
    |none=>exact⟨λp G=>(by cases G),List.Pairwise.nil,Int.le_refl _,λs t=>by cases t⟩
    |some s=>
     simp only;have E:=Qij J (List.mem_of_find?_eq_some u);have so:=QmS (casesF (courseE c) c l e).2;obtain⟨c1,c2,c3,c4⟩:=Qlh (sortB (casesF (courseE c) c l e).2) (roomF c s) E.1 E.2 λp G=>Qon c l e p (so.1.mem_iff.1 G);refine⟨c1,?_,c2,λs' V=>by cases V;exact c3⟩;have:((capF (roomF c s) (sortB (casesF (courseE c) c l e).2)).map (·.Position)).Pairwise (· <= ·):=by
      rw[c4,List.pairwise_map];exact so.2
     rwa [List.pairwise_map]at this
  obtain⟨P,x2,x3,W⟩:=hx;refine Ea (Qp1 _ c l e (by omega) Q J) ?_;refine Ea (Qn5 _ c l e (by omega) Q J P) ?_;have xn:=QkR (courseE c) c l e;have hu:(untF (ofF (courseE c) c l e) 256).2.1=lapsS (ofF (courseE c) c l e)\/1000000<lapsS (ofF (courseE c) c l e):=by
   by_cases q:lapsS (ofF (courseE c) c l e)<=1000000
   .exact .inl ((Qgk _ P (0,0,false) (Int.le_refl _) (by simpa using q) (λ_ _=>x3)).trans (by simp))
   .exact .inr (by omega)
  refine Ea (v:=Ctl.cont ()) ?_ ?_
  .clear W hu x3;generalize ofF (courseE c) c l e=x at P x2 xn;have B:∀(m i:Nat),1<=i->x.length<=i+m->EvI (λn=>F_fv n x) (i:Int) (Ctl.cont ()):=by
    intro m
    induction m with
    |zero=>
     intro i h1 N;refine Ej ?_;unfold F_fv;rw[Q7 (by omega)];exact Qa _
    |succ m Y=>
     intro i h1 N;by_cases H:i<x.length
     .refine Ex ?_ (Y (i+1) (by omega) (by omega));have a1:x[i]?=some (x[i]'(H)):=XQ H;have a0:x[i-1]?=some (x[i-1]'(by omega)):=XQ (by omega);have G:=P _ (VN a1);unfold okPen at G;have ho:=VK.1 x2 (i-1) i (by omega) H (by omega);have w:IntKind.i64.wrap ((i:Int)-1)=((i-1:Nat):Int):=by rw[QW (by omega) (by omega)];omega
      unfold F_fv;rw[QZ (by omega),Vv,w];simp only[YD a0,YD a1,XP];rw[Q7 (by omega),Q7 (by omega),Vw,XP,Vw,Yq (by omega)];exact Qa _
     .refine Ej ?_;unfold F_fv;rw[Q7 (by omega)];exact Qa _
   exact(B x.length 1 (XZ _) (by omega)).ev
  simp only;refine Ea (Qed _ c l (by omega) Q) ?_;cases N:((startF (courseE c) c l).2 != 0)with
  |true=>
   have M:ofF (courseE c) c l e=[]:=by unfold ofF;rw[N];rfl
   rw[M];exact Qa _
  |false=>
   simp only[Vw];have sn:=QeT (courseE c) c l;have hP:∀s,(startF (courseE c) c l).1.find? (λs=>s.Bib==e)=some s->∃r,Ev (λn=>F_v n c s.Distance (lapsS (ofF (courseE c) c l e))) (r,0):=by
    intro s t;obtain⟨M,j,d,hj,hd,E,aa⟩:=Qgs J (List.mem_of_find?_eq_some t);have g:=W s t;rw[aa]at g;obtain⟨k,hk⟩:∃k:Nat,lapsS (ofF (courseE c) c l e)=(k:Int):=⟨(lapsS (ofF (courseE c) c l e)).toNat,by omega⟩;rw[hk]at g⊢;rw[hj];refine QlS (J M) (M▸Q) hd k ?_ λag=>?_
    .cases q:decide (0<=d.Extra)with
     |true=>rw[q]at g;simp only[Vv]at g;omega
     |false=>rw[q]at g;simp only[Vw]at g;omega
    .cases q:decide (0<=d.Extra)with
     |true=>simpa using q
     |false=>rw[q]at g;simp only[Vw]at g;omega
   have O:∀s,(startF (courseE c) c l).1.find? (λs=>s.Bib==e)=some s->lapsS (ofF (courseE c) c l e)<=256:=λs t=>by
    have a:=W s t;have b:=(Qij J (List.mem_of_find?_eq_some t)).2;omega
   have T:(startF (courseE c) c l).1.find? (λs=>s.Bib==e)=none->ofF (courseE c) c l e=[]:=Qnn;have hv:=Qn4 (ofF (courseE c) c l e) 256 (by omega);have hm:∀s∈(startF (courseE c) c l).1,True:=λ_ _=>trivial;generalize hS:startF (courseE c) c l=SS at*;obtain⟨S,z⟩:=SS;simp only at*;have B:∀(r:List Starter) (i:Nat),S.drop i=r->i<=S.length->S.find? (λs=>s.Bib==e)=r.find? (λs=>s.Bib==e)->
     EvI (λn=>F_ff n c e (ofF (courseE c) c l e) (lapsS (ofF (courseE c) c l e)) (S,z)) (i:Int) (match S.find? (λs=>s.Bib==e)with|some _=>Ctl.done true|none=>Ctl.cont ()):=by
    intro r
    induction r with
    |nil=>
     intro i E H u;rw[u];refine Ej ?_;unfold F_ff;simp only[Yg E H,Vw];exact Qa _
    |cons y r Y=>
     intro i E H u;obtain⟨L,ac⟩:=QN (by omega) E;have ah:=L.lt';cases q:(y.Bib==e)with
     |true=>
      have F:S.find? (λs=>s.Bib==e)=some y:=by rw[u,List.find?_cons,q]
      obtain⟨rt,R⟩:=hP y F;have ae:=O y F;rw[F];refine Ej ?_;unfold F_ff;simp only[L.lt,Vv,L.ix,XP,q];refine Ea R (Ea hv ?_);have e1:(untF (ofF (courseE c) c l e) 256).2.1=lapsS (ofF (courseE c) c l e):=hu.elim id λh=>by omega
      simp only[e1,QZ x3,beq_self_eq_true,Vv];exact Qa _
     |false=>
      have ab:S.find? (λs=>s.Bib==e)=r.find? (λs=>s.Bib==e):=by rw[u,List.find?_cons,q]
      refine Ex ?_ (Y (i+1) ac (by omega) ab);unfold F_ff;simp only[L.lt,Vv,L.ix,XP,q,Vw,L.nx];exact Qa _
   refine Ea ((B S 0 (by simp) (X0 _) rfl).ev) ?_;cases u:S.find? (λs=>s.Bib==e)with
   |some s=>exact Qa _
   |none=>
    simp only;rw[T u];exact Qa _
end Go.Sw
