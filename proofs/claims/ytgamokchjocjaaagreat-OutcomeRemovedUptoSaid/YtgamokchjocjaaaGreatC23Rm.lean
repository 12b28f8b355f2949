/- A removal from a Ao on: no time at and after it, nothing changes before it. -/
import Derived.Test.YtgamokchjocjaaaGreatQ23Rm
set_option linter.unusedVariables false
set_option linter.unusedSimpArgs false
set_option maxRecDepth 10000
namespace Go.Sw
open Option renaming some→AC,none→AF
open Bool renaming false→AD,true→AE
open Decidable renaming decide→AG
open List renaming length→AI
theorem zK:U7 300=AC true:=by kernel_rfl
theorem _I{α:Type}{f g:Nat->AB α}{v:α}(h:Ev f v)(e:∃N,∀n,N<=n->g n=f n):Ev g v:=by
 obtain⟨N,d⟩:=h;obtain⟨M,j⟩:=e;exact⟨max N M,λn k=>by rw[j n (by omega)];exact d n (by omega)⟩
def M6(a:Int)(x:CF):Int:=IntKind.i64.wrap (a+x.As)
def FD(P:AA CF):Int:=P.foldl M6 0
theorem Qlk(a:Int):IntKind.i64.wrap (IntKind.i64.wrap a+0)=IntKind.i64.wrap a:=by
 simp only[qg];omega
theorem QnL(P:AA CF)(y:CF)(h:y.As=0):FD (P++[y])=FD P:=by
 unfold FD;rw[XC];show IntKind.i64.wrap (P.foldl M6 0+y.As)=_;rw[h];rcases List.eq_nil_or_concat P with e|⟨Q,x,e⟩
 .subst e;rfl
 .subst e;rw[List.concat_eq_append,XC];exact Qlk _
theorem _c(P:AA CF)(d:AI P<=1000):Ev (λn=>I_ n P) (FD P):=by
 unfold I_;refine Ea (YL P (λa x=>M6 a x) 0 (λa i=>(a,(i:Int))) (λa=>a) (by omega) rfl (λi x a ha _=>?_) ?_) (Qb _)
 .unfold Lc;simp only[ha.lt,Vp,ha.ix,XJ,ha.nx];exact Qb _
 .unfold Lc;simp only[Y9,Vq];exact Qb _
def Cu(c:CB)(k:CE)(s:AP)(x:AA CN)(l:AA Ae)(P:AA CF)(p:Int):Ui:={A4:=c,Bj:=k,Aj:=s,B6:=x,Bt:=l,BV:=P,Ba:=FD P,Ao:=p}
theorem Qp2(c:CB)(k:CE)(s:AP)(x:AA CN)(l:AA Ae)(P:AA CF)(p:Int)(d:AI P<=1000):Ev (λn=>O9 n c k s x l P p) (Cu c k s x l P p):=by
 unfold O9;refine Ea (YL P (λa y=>M6 a y) 0 (λa i=>({Cu c k s x l P p with Ba:=a},(i:Int))) (λa=>{Cu c k s x l P p with Ba:=a}) (by omega) rfl (λi y a ha _=>?_) ?_) (Qb _)
 .unfold TZ;simp only[ha.lt,Vp,ha.ix,XJ,ha.nx];exact Qb _
 .unfold TZ;simp only[Y9,Vq];exact Qb _
def HV(R:AA Int×Int)(p:Int):AB Int:=bif (R.2 != 0)||(AG (p< -1)||AG ((AI R.1:Int)<=p))then AF else AC (bif p== -1 then(AI R.1:Int)-1 else p)
theorem sL{q:Ui}(h:MY q.A4):Ev (λn=>I1 n q) (match HV (CY q.A4 q.Aj.AN q.Ba) q.Ao with|none=>(q,90)|some p=>({q with Ao:=p},0)):=by
 unfold I1 HV;have f:=lB h.good h.ty q.Aj.AN q.Ba;have d:(CY q.A4 q.Aj.AN q.Ba).2=0->(CY q.A4 q.Aj.AN q.Ba).1.length<=256:=λz=>(lR h.good z).2;generalize CY q.A4 q.Aj.AN q.Ba=R at f d;refine Ea f (Ea (QN λ_=>QN λ_=>Qb _) ?_);cases g:((R.2 != 0)||(AG (q.Ao< -1)||AG ((AI R.1:Int)<=q.Ao)))with
 |true=>exact Qb _
 |false=>
  simp only[XX]at g;have j:R.2=0:=by simpa[bne]using g.1
  have:=d j;refine QY ?_;rw[Qt (n:=(AI R.1:Int)-1) (by omega) (by omega)];cases(q.Ao== -1)with
  |true=>exact Qb _
  |false=>exact Qb _
theorem Qlo(n:Nat)(h:0<n):Dv (List.replicate n FP)=[FP]:=by
 unfold Dv Dt H5;have a:(List.replicate n FP).any (·.BQ)=true:=by
  rw[Xt];exact⟨FP,List.mem_replicate.2 ⟨by omega,rfl⟩,rfl⟩
 have b:(List.replicate n FP).filter IP=[]:=by
  rw[List.filter_eq_nil_iff];intro x d;rw[(List.mem_replicate.1 d).2];decide
 rw[a,b];rfl
theorem LW{c:CB}{k:CE}{s:AP}{x:AA CN}{l:AA Ae}{P:AA CF}{p:Int}{pv:AB Int}(h:Ev (λn=>I1 n (Cu c k s x l P p)) (match pv with|none=>(Cu c k s x l P p,90)|some p'=>({Cu c k s x l P p with Ao:=p'},0)))(hP:AI P<=100){V:AA CX×Int}(g:Ev (λn=>LY n c k s (FD P) x l) V){o:AA CD×Int}
  (d:Ev (λn=>(bif (bif V.2 != 0 then V.2 != 2 else AD)then AC ([],V.2)else(match(generalizing:=false) pv with
   |none=>AC ([],90)
   |some p'=>bif V.2==2 then(KS n {Cu c k s x l P p with Ao:=p'}).bind λr=>AC (r,0)else(iter (J9 n V ({Cu c k s x l P p with Ao:=p'},0)) n ([],0):AB (AA CD)).bind λL=>(I5 n L).bind λr=>AC (r,0)):AB (AA CD×Int))) o):
  Ev (λn=>HE n c k s x l P p) o:=by
 unfold HE;refine Ea (Qp2 c k s x l P p (by omega)) (Ea g (Ea (v:=bif V.2 != 0 then V.2 != 2 else AD) (JN (λ_=>Qb _) λ_=>Qb _) ?_));cases f:(bif V.2 != 0 then V.2 != 2 else AD)with
 |true=>rw[f]at d;exact d
 |false=>
  rw[f]at d;refine QY (Ea h ?_);cases pv with
  |none=>exact d
  |some p'=>exact d
theorem pE{q:Ui}(f:Ev (λn=>F0 n q.A4) (CP q.A4))(h:CP q.A4≠0):Ev (λn=>I1 n q) (q,90):=by
 unfold I1 IK Ho I2;have d:(CP q.A4 != 0)=true:=bne_iff_ne.2 h;refine Ea (v:=([],CP q.A4)) (Ea (v:=(CP q.A4,[])) (Ea (v:=CT.c0 (CP q.A4)) (Ea (v:=(Uu,CP q.A4)) (Ea f (J5 d (Qb _))) (J5 d (Qb _))) (Qb _)) (J5 d (Qb _))) (Ea (v:=AE) (J5 d (Qb _)) (Qb _))
theorem Qok{c:CB}(h:Km c)(hE:CP c≠0){k:CE}(j:Ff k)(s:AP)(e:Int)(x:AA CN)(m:AI x<=4)(l:AA Ae)(t:AI l<=6):Ev (λn=>LY n c k s e x l) ([],CP c):=by
 unfold LY;have d:(CP c != 0)=true:=bne_iff_ne.2 hE;have g:Dr c k s e x l=.inl (CP c):=by unfold Dr;rw[d];rfl
 have f:=j8 h.ty (λq=>absurd q hE) j s e x (by omega) l (by omega);rw[g]at f;exact Ea f (J5 d (Qb _))
theorem zq{n:Nat}{q:Ui}{P P':AA CF}(h:F_ n P' q.Ao=F_ n P q.Ao)(w:CX):I7 n {q with BV:=P'} w=I7 n {q with BV:=P} w:=by
 show(F_ n P' q.Ao).bind _=(F_ n P q.Ao).bind _;rw[h];rfl
theorem _s{q:Ui}{t:Cp}(h:Qk q t){V:AA CX×Int}(y:AI V.1<=64)(f:∀w∈V.1,FS t w=AE/\0<AI w.BJ):Tt (λn=>iter (J9 n V (q,0)) n ([],0)) λr=>AI r<=128:=by
 refine QP V.1 (λ(a:AA CD) i=>(a,i)) (λi a=>AI a<=2*i) (by omega) (λi w a d j=>?_) (λa j=>?_) [] _ rfl (XT _)
 .unfold J9;have:=d.lt';simp only[d.lt,Vp,d.ix,XJ,d.nx];obtain⟨k,x⟩:=f w d.mem;exact Tt.b (iT h k x) λr z=>Tt.b (Tt.a (by omega)) λm g=>Tt.p ⟨m,rfl,by subst g;simp;omega⟩
 .unfold J9;simp only[Y9,Vq];exact Tt.p ⟨_,rfl,by omega⟩
theorem lh{α β:Type}(x:β):∀(l:AA α) (a:AA β),l.foldl (λa _=>a++[x]) a=a++List.replicate (AI l) x
 |[],a=>by simp
 |_::l,a=>by
  rw[XD,lh x l,X0,Xl,Vj];rfl
theorem z?{q:Ui}{V:AA CX×Int}(h:AI V.1<=64)(hP:AI q.BV<=100)(g:(q.BV.foldl (Kn q.Ao) (0,0,AD)).2.2=AE):Ev (λn=>iter (J9 n V (q,0)) n ([],0)) (List.replicate (AI V.1) FP):=by
 refine(YL V.1 (λa (_:CX)=>a++[FP]) [] (λa i=>(a,(i:Int))) (λa=>a) (by omega) rfl (λi w a d f=>?_) ?_).eq (by rw[lh];rfl)
 .have k:=d.lt';have j:AI a<=i:=by rw[f,lh];simp;omega
  unfold J9;simp only[d.lt,Vp,d.ix,XJ,d.nx];refine Ea (v:=[FP]) ?_ (YB (ZB _ _ (by simp;omega)) (Qb _));unfold I7;refine Ea (dE _ _ (by omega)) (Ea (v:=AE) ?_ (Qb _));rw[g];cases AG (w.A9<q.Ao)<;>exact Qb _
 .unfold J9;simp only[Y9,Vq];exact Qb _
theorem rF(q:Ui)(hP:AI q.BV<=100):Tt (λn=>KS n q) λ_=>True:=by
 unfold KS;exact Qg (Tt.e (dE _ _ (by omega)) trivial) λ_=>Tt.c (λ_=>Qg (Tt.p trivial) λ_=>Tt.p trivial) λ_=>Qg (Tt.p trivial) λ_=>Tt.p trivial
theorem yv{R:AA Int×Int}{p d:Int}(h:HV R p=AC d)(g:2<=AI R.1):0<=d/\d=(bif p== -1 then(AI R.1:Int)-1 else p):=by
 unfold HV at h;cases f:((R.2 != 0)||(AG (p< -1)||AG ((AI R.1:Int)<=p)))with
 |true=>rw[f]at h;cases h
 |false=>
  rw[f,Vq]at h;have h:=(XZ h).symm;simp only[XX,decide_eq_false_iff_not]at f;refine⟨?_,h⟩;rw[h];cases q:(p== -1)with
  |true=>show 0<=(AI R.1:Int)-1;omega
  |false=>
   have:p≠ -1:=by simpa using q
   show 0<=p;omega
theorem FC(c:CB)(l:AA CI)(b p fr:Int)(wc:CB.wf c)(wl:AI l<=1048576/\ ∀x∈l,CI.wf x)(N:Qs .i64 b)(hp:Qs .i64 p)(hf:Qs .i64 fr):∃n,PS n c l b p fr=AC true:=by
 refine Ev.ex (f:=λn=>PS n c l b p fr) ?_;unfold PS;refine Ea (EB zK) (QY ?_);obtain⟨r,er,X⟩:=R? c wc l b;refine Ea er ?_;obtain⟨k1,k2,s1,s2,s3,s4,s5,s6,s7,s8,H,D,P,ok⟩:=r;refine Ea (QN λ_=>QN λ_=>Qb _) ?_;cases hq:((!ok)||(AG (fr<0)||AG (256<fr)))with
 |true=>exact Qb _
 |false=>
 simp only[XX,decide_eq_false_iff_not,Bool.not_eq_false']at hq;obtain⟨cw,kw,hH,hD,hP⟩:=X hq.1;simp only at kw hH hD hP;refine QY ?_;show Ev (λn=>(app ([]:AA CF) P).bind λae=>(app ae [({AT:=fr,Bb:=0,As:=0,BQ:=AE}:CF)]).bind _) AE;refine YB (ZB _ _ (by simp;omega)) (YB (ZB _ _ (by simp;omega)) ?_);rw[Vi];generalize hk:({AS:=k1,BN:=k2}:CE)=k at kw;generalize({BT:=s1,AN:=s2,A3:=s3,BM:=s4,B4:=s5,BA:=s6,Bl:=s7,B5:=s8}:AP)=s;generalize hy:({AT:=fr,Bb:=0,As:=0,BQ:=AE}:CF)=y;have yl:y.As=0:=by rw[<- hy]
 have lp:=QnL P y yl;have E:AI (P++[y])<=100:=by simp;omega
 have Y:∃(V:AA CX×Int) (j F:AA CD×Int),Ev (λn=>LY n c k s (FD P) H D) V/\Ev (λn=>HE n c k s H D P p) j/\Ev (λn=>HE n c k s H D (P++[y]) p) F/\j.2=F.2/\
   (j.2=0->V.2=0->∃R,Ev (λn=>KT n V.1 p) R/\(fr<=R->F.1=[FP])/\(¬fr<=R->j.1=F.1)/\AI j.1<=1048576/\AI F.1<=1048576):=by
  by_cases hE:CP c=0
  case neg=>
   have O:=Qok cw hE kw s (FD P) H hH D hD;have J:Ev (λn=>LY n c k s (FD (P++[y])) H D) ([],CP c):=by rw[lp];exact O
   have M:=pE (q:=Cu c k s H D P p) cw.ty hE;have B:=pE (q:=Cu c k s H D (P++[y]) p) cw.ty hE;have z:∃e,∀P',Ev (λn=>(bif (bif CP c != 0 then CP c != 2 else AD)then AC ([],CP c)else(match(AF:AB Int)with
     |none=>AC ([],90)
     |some d=>bif CP c==2 then(KS n {Cu c k s H D P' p with Ao:=d}).bind λr=>AC (r,0)else(iter (J9 n ([],CP c) ({Cu c k s H D P' p with Ao:=d},0)) n ([],0):AB (AA CD)).bind λL=>(I5 n L).bind λr=>AC (r,0)):AB (AA CD×Int))) (([]:AA CD),e):=by
    cases(bif CP c != 0 then CP c != 2 else AD)with
    |true=>exact⟨_,λ_=>Qb _⟩
    |false=>exact⟨_,λ_=>Qb _⟩
   obtain⟨e,z⟩:=z;exact⟨_,([],e),([],e),O,LW (pv:=AF) M (by omega) O (z P),LW (pv:=AF) B E J (z (P++[y])),rfl,λ_ q=>absurd q hE⟩
  have cr:=cw.r hE;obtain⟨V,O,wr⟩:=_l cr kw s (FD P) H hH D hD;have M:=sL (q:=Cu c k s H D P p) cr;have B:=sL (q:=Cu c k s H D (P++[y]) p) cr;have af:HV (CY (Cu c k s H D P p).A4 (Cu c k s H D P p).Aj.AN (Cu c k s H D P p).Ba) (Cu c k s H D P p).Ao=HV (CY c s.AN (FD P)) p:=rfl;have ad:HV (CY (Cu c k s H D (P++[y]) p).A4 (Cu c k s H D (P++[y]) p).Aj.AN (Cu c k s H D (P++[y]) p).Ba) (Cu c k s H D (P++[y]) p).Ao=HV (CY c s.AN (FD (P++[y]))) p:=rfl;rw[af]at M;rw[ad]at B;have J:Ev (λn=>LY n c k s (FD (P++[y])) H D) V:=by rw[lp];exact O
  refine⟨V,?_⟩
  suffices z:∃j F:AA CD×Int,Ev (λn=>HE n c k s H D P p) j/\Ev (λn=>HE n c k s H D (P++[y]) p) F/\j.2=F.2/\
    (j.2=0->V.2=0->∃R,Ev (λn=>KT n V.1 p) R/\(fr<=R->F.1=[FP])/\(¬fr<=R->j.1=F.1)/\AI j.1<=1048576/\AI F.1<=1048576)from by
   obtain⟨j,F,z⟩:=z;exact⟨j,F,O,z⟩
  cases N:(bif V.2 != 0 then V.2 != 2 else AD)with
  |true=>
   have h0:V.2≠0:=by
    intro z;rw[z]at N;cases N
   exact⟨([],V.2),([],V.2),LW M (by omega) O (by rw[N];exact Qb _),LW B E J (by rw[N];exact Qb _),rfl,λz=>absurd z h0⟩
  |false=>
  cases m:HV (CY c s.AN (FD P)) p with
  |none=>exact⟨([],90),([],90),LW M (by omega) O (by rw[N,m];exact Qb _),LW B E J (by rw[N,lp,m];exact Qb _),rfl,λz=>absurd z (by decide)⟩
  |some d=>
  cases T:(V.2==2)with
  |true=>
   have ab:V.2=2:=by simpa using T
   obtain⟨u1,e1,_⟩:=rF {Cu c k s H D P p with Ao:=d} (by show AI P<=100;omega);obtain⟨u2,e2,_⟩:=rF {Cu c k s H D (P++[y]) p with Ao:=d} E;exact⟨(u1,0),(u2,0),LW M (by omega) O (by rw[N,m,T];exact Ea e1 (Qb _)),LW B E J (by rw[N,lp,m,T];exact Ea e2 (Qb _)),rfl,λ_ z=>by rw[ab]at z;cases z⟩
  |false=>
   have h0:V.2=0:=by
    cases z:(V.2 != 0)with
    |false=>simpa[bne]using z
    |true=>
     rw[z,Vp]at N;have:V.2=2:=by simpa[bne]using N
     rw[this]at T;cases T
   obtain⟨ne,t,ti,te,r2,hw⟩:=wr.ok h0;have X:t.r=(CY c s.AN (FD P)).1:=by rw[ti.is];rfl
   obtain⟨p0,pe⟩:=yv m (by rw[<- X];exact r2);have aa:=wr.len;have Q:Qk {Cu c k s H D P p with Ao:=d} t:=⟨cr,kw,te,ti,hH,hD,p0,by show AI P<=100;omega⟩;obtain⟨L,eL,hL⟩:=_s Q aa λw h=>⟨(hw w h).2,by have:=(hw w h).1;omega⟩;have eT:=pC L (by omega);have tl:=QmW L;have A1:=LW M (by omega) O (P:=P) (p:=p) (o:=(Dv L,0)) (by rw[N,m,T];exact Ea eL (Ea eT (Qb _)));have rs:Ev (λn=>KT n V.1 p) d:=by
    unfold KT;obtain⟨w,W,e⟩:∃w W,V.1=w::W:=by
     cases z:V.1 with
     |nil=>exact absurd z ne
     |cons w W=>exact⟨w,W,rfl⟩
    have ac:=(hw w (by rw[e];exact X5 ..)).1;have rl:=ti.ok.rl;rw[pe];cases z:(p== -1)with
    |true=>
     refine Ea (v:=AE) ((Qb _).eq (Yj (by rw[e];simp only[X0];omega))) ?_;rw[e];refine P6 (YB (show CJ (w::W) 0=AC w from rfl) ((Qb _).eq ?_));rw[ac,X,Qt (by rw[<- X];omega) (by rw[<- X];omega)];rfl
    |false=>exact Ea (v:=AD) (Qb _) (Qb _)
   by_cases g:fr<=d
   .have G:Ev (λn=>iter (J9 n V ({Cu c k s H D (P++[y]) p with Ao:=d},0)) n ([],0)) (List.replicate (AI V.1) FP):=by
     refine z? aa E ?_;show((P++[y]).foldl (Kn d) (0,0,AD)).2.2=AE;rw[XC];show(Kn d _ y).2.2=AE;unfold Kn;rw[<- hy,Yj (show fr<=d from g)];simp
    have A2:=LW B E J (P:=P++[y]) (p:=p) (o:=([FP],0)) (by
     rw[N,lp,m,T];refine Ea G (Ea ((pC _ (by rw[List.length_replicate];omega)).eq (Qlo _ ?_)) (Qb _));exact List.length_pos_iff.2 ne)
    exact⟨_,_,A1,A2,rfl,λ_ _=>⟨d,rs,λ_=>rfl,λz=>absurd g z,by show(Dv L).length<=_;omega,by simp⟩⟩
   .have U1:=dE P d (by omega);have U2:=dE (P++[y]) d (by omega);have ue:(P++[y]).foldl (Kn d) (0,0,AD)=P.foldl (Kn d) (0,0,AD):=by
     rw[XC];show Kn d _ y=_;unfold Kn;rw[<- hy,Yp (show¬fr<=d from g)];rfl
    rw[ue]at U2;have G:Ev (λn=>iter (J9 n V ({Cu c k s H D (P++[y]) p with Ao:=d},0)) n ([],0)) L:=by
     refine _I eL ?_;obtain⟨N1,e1⟩:=U1;obtain⟨N2,e2⟩:=U2;refine⟨max N1 N2,λn hn=>?_⟩;have eu:F_ n (P++[y]) d=F_ n P d:=(e2 n (by omega)).trans (e1 n (by omega)).symm;have qe:({Cu c k s H D (P++[y]) p with Ao:=d}:Ui)={({Cu c k s H D P p with Ao:=d}:Ui)with BV:=P++[y]}:=by
      unfold Cu;rw[lp]
     have st:J9 n V ({Cu c k s H D (P++[y]) p with Ao:=d},0)=J9 n V ({Cu c k s H D P p with Ao:=d},0):=by
      funext a
      rw[qe];unfold J9;simp only[zq (q:={Cu c k s H D P p with Ao:=d}) (P:=P) (P':=P++[y]) eu];rfl
     rw[st]
    have A2:=LW B E J (P:=P++[y]) (p:=p) (o:=(Dv L,0)) (by
     rw[N,lp,m,T];exact Ea G (Ea eT (Qb _)))
    exact⟨_,_,A1,A2,rfl,λ_ _=>⟨d,rs,λz=>absurd z g,λ_=>rfl,by show(Dv L).length<=_;omega,by show(Dv L).length<=_;omega⟩⟩
 obtain⟨V,j,F,O,E1,E2,eo,fin⟩:=Y;refine Ea E1 (Ea E2 (Ea (_c P (by omega)) (Ea O ?_)));rw[show(j.2 != F.2)=AD by rw[eo];simp];refine QY (Ea (QN λ_=>Qb _) ?_);cases hz:((j.2 != 0)||(V.2 != 0))with
 |true=>exact Qb _
 |false=>
 simp only[XX]at hz;obtain⟨R,e,g1,g2,b1,b2⟩:=fin (by simpa[bne]using hz.1) (by simpa[bne]using hz.2);refine QY (Ea e ?_);by_cases g:fr<=R
 .rw[Yj g];exact P6 (Ea ((rW F.1 [FP] b2).eq (Yj (g1 g))) (Qb _))
 .rw[Yp g];exact QY (Ea ((rW j.1 F.1 b1).eq (Yj (g2 g))) (Qb _))
end Go.Sw
