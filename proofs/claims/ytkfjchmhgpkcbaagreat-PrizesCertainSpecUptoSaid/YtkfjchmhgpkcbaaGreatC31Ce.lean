/- PrizesCertainSpec: Certain and Open are as the reference says. -/
import Derived.Test.YtkfjchmhgpkcbaaGreatQ31Ce
set_option linter.unusedVariables false
set_option linter.unusedSimpArgs false
namespace Go.Sw
theorem Qn0:F_fu 300=some true:=by kernel_rfl
theorem QfO(c:Course)(f:Field)(d k e:Int)(he:Ev (λn=>F_z n c) e)(a:FewF f):Ev (λn=>F_at n c f d k) (checkV e c f d k):=by
 unfold F_at checkV;refine Ev.bind he ?_;refine Ys (λ_=>Qa _) λ_=>?_;refine Ev.bind (v:=decide (d<0)||(decide ((c.Distances.length:Int)<=d)||(decide (k< -1)||decide ((c.Categories.length:Int)<=k)))) (Qf λ_=>Qf λ_=>Qf λ_=>Qa _) ?_;refine Ys (λ_=>Qa _) λ_=>?_;refine Ev.bind (Qdg f a) ?_;cases fieldB f<;>exact Qa _
def rkN(j:Nat):Int:=((j+1:Nat):Int)
def insS(c:Course)(f:Field)(d k:Int)(l:List Payment)(j:Nat):List Payment:=match soleR (allP f) (rkN j)with
 |some r=>bif decide (0<amountS c d k (rkN j))then insP {Bib:=r.Bib,Amount:=amountS c d k (rkN j)} l else l
 |none=>l
def refL(c:Course)(f:Field)(d k:Int)(m:Nat):List Payment:=(List.range m).foldl (insS c f d k) []
theorem Qc7(c:Course)(f:Field)(d k:Int)(m:Nat):refL c f d k (m+1)=insS c f d k (refL c f d k m) m:=YT _ _ _
theorem Qef(c:Course)(f:Field)(d k:Int):∀m,(refL c f d k m).length<=m
 |0=>by simp[refL]
 |m+1=>by
  rw[Qc7];have ih:=Qef c f d k m;unfold insS;cases soleR (allP f) (rkN m)with
  |none=>simp only;omega
  |some r=>
   simp only;cases decide (0<amountS c d k (rkN m))with
   |false=>simp only[cond_false];omega
   |true=>simp only[cond_true,QlI];omega
theorem Qi3(c:Course){f:Field}(o:FieldOk f)(d k:Int):∀m,(refL c f d k m).Pairwise ltB/\ ∀p,p∈refL c f d k m↔ ∃j,j<m/\ ∃r,soleR (allP f) (rkN j)=some r/\0<amountS c d k (rkN j)/\p={Bib:=r.Bib,Amount:=amountS c d k (rkN j)}
 |0=>⟨List.Pairwise.nil,λp=>⟨(λh=>by cases h),λ⟨j,hj,_⟩=>absurd hj (Xn _)⟩⟩
 |m+1=>by
  obtain⟨h1,h2⟩:=Qi3 c o d k m;rw[Qc7];have same:(∀r,soleR (allP f) (rkN m)=some r->¬0<amountS c d k (rkN m))->∀p,p∈refL c f d k m↔ ∃j,j<m+1/\ ∃r,soleR (allP f) (rkN j)=some r/\0<amountS c d k (rkN j)/\p={Bib:=r.Bib,Amount:=amountS c d k (rkN j)}:=by
   intro u p;rw[h2 p];constructor
   .rintro⟨j,hj,r,g⟩;exact⟨j,by omega,r,g⟩
   .rintro⟨j,hj,r,a,b,l⟩;rcases Xp.1 hj with z|rfl
    .exact⟨j,z,r,a,b,l⟩
    .exact(u r a b).elim
  unfold insS;cases n:soleR (allP f) (rkN m)with
  |none=>exact⟨h1,same λr h=>by rw[n]at h;cases h⟩
  |some r=>
   simp only;by_cases s:0<amountS c d k (rkN m)
   .rw[QJ s];simp only[cond_true];refine⟨Qdv _ _ h1 λq E e=>?_,λp=>?_⟩
    .obtain⟨j,hj,w,a,b,rfl⟩:=(h2 q).1 E;obtain⟨i,x,rfl,_,F,_,_⟩:=Qcp n;obtain⟨y,t,rfl,_,B,_,_⟩:=Qcp a;have:y=i:=Qg1 o t x e;subst this;have:rkN j=rkN m:=B.symm.trans F;unfold rkN at this;omega
    .rw[Qet,h2 p];constructor
     .rintro(rfl|⟨j,hj,g⟩)
      .exact⟨m,Xo _,r,n,s,rfl⟩
      .exact⟨j,by omega,g⟩
     .rintro⟨j,hj,w,a,b,l⟩;rcases Xp.1 hj with z|rfl
      .exact .inr ⟨j,z,w,a,b,l⟩
      .rw[n]at a;obtain rfl:=X7 a;exact .inl l
   .rw[QD s];exact⟨h1,same λ_ _=>s⟩
theorem Qfn(c:Course)(f:Field)(d k e:Int)(he:Ev (λn=>F_z n c) e)(h:FewF f)(p:c.Prizes.length<=1048576):
  Ev (λn=>F_cw n c f d k) (bif checkV e c f d k != 0 then([],checkV e c f d k)else(refL c f d k f.Runners.length,0)):=by
 have t:=h.runs;unfold F_cw;refine Ev.bind (QfO c f d k e he h) ?_;cases m:(checkV e c f d k != 0)with
 |true=>exact Qa _
 |false=>
  have o:=QaI h (QaS m);refine QN (Ev.bind (v:=refL c f d k f.Runners.length) ?_ (Qa _));refine Ev.iter (λi=>(refL c f d k i,rkN i)) f.Runners.length rfl (λi r=>?_) ?_
  .have s:=Qef c f d k i;unfold F_lz;have a:decide (rkN i<=(f.Runners.length:Int))=true:=QJ (by unfold rkN;omega);have q:IntKind.i64.wrap (rkN i+1)=rkN (i+1):=Ye (show i+1<=1048576 by omega);simp only[a,cond_true,q];refine Ev.bind (QcE c d k _ p) (Ev.bind (QdA f o _) ?_);refine Ev.bind (Ev.and λ_=>Qa _) ?_;refine Ev.bind (v:=refL c f d k (i+1)) ?_ (Qa _);rw[Qc7];unfold insS;rcases Qi4 f (rkN i)with⟨j,l,b,g⟩|⟨b,g⟩
   .rw[b,g,QJ (show(0:Int)<=(j:Int)by omega),Bool.and_true,Qo (XR l)];simp only[XQ,QdP,QcI l];exact Ys (λ_=>Ev.bind (Qne _ _ (by omega)) (Qa _)) (λ_=>Qa _)
   .rw[b,g,QD (show¬(0:Int)<= -1 by omega),Bool.and_false];exact Qa _
  .unfold F_lz;have a:decide (rkN f.Runners.length<=(f.Runners.length:Int))=false:=QD (by unfold rkN;omega);simp only[a,cond_false];exact Qa _
def openL(c:Course)(f:Field)(d k:Int)(m:Nat):List Int:=((List.range m).map rkN).filter λx=>decide (0<amountS c d k x)&&openB (allP f) x
theorem Qif(c:Course)(f:Field)(d k:Int)(m:Nat):openL c f d k (m+1)=openL c f d k m++(bif decide (0<amountS c d k (rkN m))&&openB (allP f) (rkN m)then[rkN m]else[]):=by
 unfold openL;rw[Xz,Xg,List.filter_append];cases h:decide (0<amountS c d k (rkN m))&&openB (allP f) (rkN m)<;>simp[h]
theorem QfD(c:Course)(f:Field)(d k:Int)(m:Nat):(openL c f d k m).length<=m:=by
 unfold openL;exact X3 (List.length_filter_le ..) (by simp)
theorem Qin(c:Course)(f:Field)(d k e:Int)(he:Ev (λn=>F_z n c) e)(g:FewF f)(r:c.Prizes.length<=1048576):
  Ev (λn=>F_fg n c f d k) (bif checkV e c f d k != 0 then([],checkV e c f d k)else(openL c f d k f.Runners.length,0)):=by
 have y:=g.runs;unfold F_fg;refine Ev.bind (QfO c f d k e he g) ?_;cases q:(checkV e c f d k != 0)with
 |true=>exact Qa _
 |false=>
  have p:=QaS q;have o:=QaI g p;refine QN (Ev.bind (v:=openL c f d k f.Runners.length) ?_ (Qa _));refine Ev.iter (λi=>(openL c f d k i,rkN i)) f.Runners.length rfl (λi u=>?_) ?_
  .have x:=QfD c f d k i;unfold F_mg;have h:decide (rkN i<=(f.Runners.length:Int))=true:=QJ (by unfold rkN;omega);have s:IntKind.i64.wrap (rkN i+1)=rkN (i+1):=Ye (show i+1<=1048576 by omega);simp only[h,cond_true,s];refine Ev.bind (Qhu f g (rkN i)) ?_;rw[p,QD (show¬rkN i<1 by unfold rkN;omega)];simp only[cond_true,cond_false];refine Ev.bind (v:=decide (0<amountS c d k (rkN i))&&openB (allP f) (rkN i)) ?_ ?_
   .refine Ev.bind (QcE c d k _ r) (Ev.and λ_=>?_);refine(Ev.and λ_=>Ev.bind (QdA f o _) (Qa _)).eq ?_;unfold openB;have b:decide (0<(((candP (allP f) (rkN i)).map (·.Bib)).length:Int))= !(candP (allP f) (rkN i)).isEmpty:=by
     cases candP (allP f) (rkN i)with
     |nil=>rfl
     |cons a t=>exact QJ (by simp)
    rw[b];rcases Qi4 f (rkN i)with⟨j,w,l,m⟩|⟨l,m⟩
    .rw[l,m,QD (show¬(j:Int)<0 by omega)];rfl
    .rw[l,m];rfl
   .refine Ev.bind (v:=openL c f d k (i+1)) ?_ (Qa _);rw[Qif,Qcj (show(openL c f d k i).length<=140737488 by omega)];cases decide (0<amountS c d k (rkN i))&&openB (allP f) (rkN i)with
    |true=>exact Qa _
    |false=>exact(Qa _).eq (by simp)
  .unfold F_mg;have h:decide (rkN f.Runners.length<=(f.Runners.length:Int))=false:=QD (by unfold rkN;omega);simp only[h,cond_false];exact Qa _
theorem Qi9{m:MapI}(h:(m.map Prod.fst).Nodup):(keysS m).Pairwise (· < ·):=by
 have d:(keysS m).Pairwise (· <= ·):=(Y8 (QdR _)).imp λ{a b} h=>by simp[ltI]at h;exact h
 have e:(keysS m).Pairwise (· ≠ ·):=QlD h;exact(d.and e).imp λ{a b} z=>by have:=z.1;have:=z.2;omega
theorem Qhp(l:List Payment)(d:l.length<=1048576):Ev (λn=>F_ad n l l) true:=by
 unfold F_ad;simp only[bne_self_eq_false,cond_false];refine Ev.bind (v:=Ctl.cont ()) (Ev.iter (λi=>(i:Int)) l.length rfl (λi b=>?_) ?_) (Qa _)
 .have a:=atN d b;unfold F_mk;simp only[a.lt,cond_true,a.ix,XQ,a.nx,bne_self_eq_false,cond_false];exact Qa _
 .unfold F_mk;simp only[Yc,cond_false];exact Qa _
theorem divN(all:List Rank):∀(l:List (Int×Int)) (s:List Int×MapI),(s.2.map Prod.fst).Nodup->((l.foldl (divS all) s).2.map Prod.fst).Nodup
 |[],s,h=>h
 |(x,v)::l,s,h=>by
  refine divN all l _ ?_;rw[QcG];cases soleR all x with
  |some r=>exact Qek _ _ h
  |none=>simp only;cases openB all x<;>exact h
theorem law_PrizesCertainSpec(c:Course)(f:Field)(d k:Int)(Y:Course.wf c)(hf:Field.wf f)(h3:QM .i64 d)(h4:QM .i64 k):∃n,F_iw n c f d k=some true:=by
 have w:=Qh5 Y;have q:=QiM Y;obtain⟨t1,W⟩:=QmX Y;obtain⟨L,p1,q1⟩:=QjZ c w q t1 W;obtain⟨M,p2,q2⟩:=few25 f hf;refine Ev.ex ?_;unfold F_iw;refine Ev.bind (Ev.const Qn0) ?_;simp only[Xh,cond_false];refine Ev.bind (v:= !L|| !M) (Ev.bind p1 (Qf λ_=>Ev.bind p2 (Qa _))) ?_;refine QoO (λ_=>Qa _) λN=>?_;simp only[X5,Bool.not_eq_false']at N;have fl:=q1 N.1;have ff:=q2 N.2;have e:=w.prize;obtain⟨B,t,O⟩:=QhM c w q fl t1 W;refine Ev.bind (QiA c f d k B t ff e) ?_;refine Ev.bind (Qfn c f d k B O ff e) ?_;refine Ev.bind (Qnp c f d k B t ff e) ?_;refine Ev.bind (Qin c f d k B O ff e) ?_;refine Ev.bind (v:=true) ?_ (Qa _);unfold certV openV;cases H:(checkV B c f d k != 0)with
 |true=>
  simp only[cond_true];refine Ev.bind (Qhp [] (by simp)) ?_;simp only[cond_true,beq_self_eq_true];exact Ev.bind (QfM [] (by simp)) (Qa _)
 |false=>
 have T:=QaS H;have o:=QaI ff T;have hr:=o.few.runs;have X:(B != 0)=false:=by
  unfold checkV at H;cases z:(B != 0)with
  |false=>rfl
  |true=>rw[z]at H;simp only[cond_true]at H;rw[z]at H;exact H
 have po:=QhS (QhL c w q fl t1 W t X);simp only[cond_false,beq_self_eq_true,cond_true];have u:(divF (allP f) (amtF c d k)).1=(keysS (amtF c d k)).filter (openB (allP f)):=by
  unfold divF ordP;rw[QhH];rfl
 have m:∀b v,YN (divF (allP f) (amtF c d k)).2 b=some v->∃x∈keysS (amtF c d k),∃r,soleR (allP f) x=some r/\r.Bib=b/\v=amountS c d k x:=by
  intro b v h;unfold divF ordP at h;rcases Qjm _ _ _ _ _ _ h with z|⟨x,F,r,g,l,P⟩
  .cases z
  .exact⟨x,F,r,g,l,by rw[P,Qnz po]⟩
 have J:∀x∈keysS (amtF c d k),∀r,soleR (allP f) x=some r->(YN (divF (allP f) (amtF c d k)).2 r.Bib).isSome=true:=by
  intro x F r h;unfold divF ordP;exact Qjl _ _ _ _ _ (.inr ⟨x,F,r,h,rfl⟩)
 have ab:((divF (allP f) (amtF c d k)).2.map Prod.fst).Nodup:=divN _ _ _ List.nodup_nil;have ae:=QeY c d k;have Q:=QhJ (allP f) (amtF c d k);have aa:=Qi9 (QfY d k c.Prizes [] List.nodup_nil:((amtF c d k).map Prod.fst).Nodup);have y:∀x,x∈keysS (amtF c d k)↔0<amountS c d k x:=λx=>QnA po d k x;rw[u]at Q⊢;generalize(divF (allP f) (amtF c d k)).2=m1 at*;have rk:∀x:Int,1<=x->x<=(f.Runners.length:Int)->∃j,j<f.Runners.length/\rkN j=x:=λx h1 h2=>⟨(x-1).toNat,by omega,by unfold rkN;omega⟩;have E:(keysS (amtF c d k)).filter (openB (allP f))=openL c f d k f.Runners.length:=by
  refine Qfr (lt:=λa b:Int=>a<b) (λa b h=>by omega) (aa.sublist List.filter_sublist) ?_ λx=>?_
  .unfold openL;refine List.Pairwise.sublist List.filter_sublist ?_;exact List.Pairwise.map rkN (λa b h=>by unfold rkN;omega) List.pairwise_lt_range
  .unfold openL;rw[Xe,Xe,y];simp only[X4,decide_eq_true_eq,Xf,List.mem_range];constructor
   .rintro⟨g,l⟩;obtain⟨L,M⟩:=Qm6 l;exact⟨rk x L M,g,l⟩
   .rintro⟨_,g,l⟩;exact⟨g,l⟩
 have s:payP m1=refL c f d k f.Runners.length:=by
  obtain⟨s1,s2⟩:=Qi3 c o d k f.Runners.length;refine Qfr (lt:=ltB) (λa b h=>by unfold ltB at*;omega) ?_ s1 λp=>?_
  .unfold payP ordP;rw[List.map_map];exact List.Pairwise.map _ (λa b h=>h) (Qi9 ab)
  .rw[s2 p];have hD:∀b v,YN m1 b=some v->QU m1 b 0=v:=by intro b v h;unfold QU;rw[h];rfl
   unfold payP ordP;simp only[Xf];constructor
   .rintro⟨_,⟨b,N,rfl⟩,rfl⟩;have V:b∈m1.map Prod.fst:=(Yd ltI _).mem_iff.1 N;obtain⟨v,G⟩:=(Qen m1 b).1 V;obtain⟨x,F,r,g,l,P⟩:=m b v G;obtain⟨_,_,_,_,_,L,M⟩:=Qcp g;obtain⟨j,hj,rfl⟩:=rk x L M;exact⟨j,hj,r,g,(y _).1 F,by rw[hD b v G,l,P]⟩
   .rintro⟨j,hj,r,g,l,rfl⟩;have F:=(y _).2 l;obtain⟨v,G⟩:=Option.isSome_iff_exists.1 (J _ F r g);obtain⟨x',af,r',a1,a2,a3⟩:=m _ _ G;obtain⟨i,hi,rfl,_,c1,_,_⟩:=Qcp g;obtain⟨R,ac,rfl,_,c2,_,_⟩:=Qcp a1;have:R=i:=Qg1 o ac hi a2;subst this;have ex:x'=rkN j:=c2.symm.trans c1;subst ex;exact⟨((ofP f R).Bib,v),⟨(ofP f R).Bib,(Yd ltI _).mem_iff.2 ((Qen m1 _).2 ⟨v,G⟩),by rw[hD _ _ G]⟩,by rw[a3]⟩
 have ad:=Qef c f d k f.Runners.length;have ag:=QfD c f d k f.Runners.length;rw[s,E];refine Ev.bind (Qhp _ (by omega)) ?_;simp only[cond_true];exact Ev.bind (QfM _ (by omega)) (Qa _)
end Go.Sw
