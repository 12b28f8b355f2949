/- The plain laws that a law needs, with no program in sight. -/
import Derived.Test.YtmaeahbcmjpfpaaGreatP23Of
set_option linter.unusedVariables false
set_option linter.unusedSimpArgs false
namespace Go.Sw
open Option renaming some→AC,none→AF
open Bool renaming false→AD,true→AE
open Decidable renaming decide→AG
open List renaming length→AI
open Go renaming Value→AL
open List(map)
open Int(toNat)
open Go.IntKind(i64 u64 u8)
set_option maxRecDepth 10000
theorem Qqj(kk:Int):∀(m:Nat) (l:AA CM),Co l<=m->C3 kk l=AE->AI l<=1048576->(∀x∈l,CM.wf x)->AI (Ca l)<=256->Ev (λn=>Mf n l) (Ca l):=by
 intro m
 induction m using Nat.strongRecOn with
 |_ m Y=>
 intro l hm N R V T;rw[Y1,Xs]at N;refine Yy ?_;show Ev (λn=>bE (Mf n) n l) _;unfold bE;have inner:∀(p:CM) (i:Nat) (f:At l i p) (M w:AA Int),0<=p.Aj->p.Aj<=64->AI w<=256->∀(k j:Nat) (o:AA Int),j+k=p.Aj.toNat->AI o+(List.replicate k w).flatten.length<=256->
   C9 (λn=>K7 n l (M,(i:Int)) w) (o,(j:Int)) (o++(List.replicate k w).flatten):=by
  intro p i f M w H aa O k
  induction k with
  |zero=>
   intro j o X _;refine Ei ?_;unfold K7;simp only[f.ix,XK,QN (show¬((j:Int)<p.Aj)by omega),Vs,List.replicate_zero,List.flatten_nil,Vj];exact Qa _
  |succ k F=>
   intro j o X g;by_cases B:AI w=0
   .have B:w=[]:=VM.1 B;subst B;refine Ei ?_;unfold K7;simp only[f.ix,XK,dT ((j:Int)<p.Aj),Vr,QN (show¬((0:Int)<(AI ([]:AA Int):Int))by simp),Vs];exact(Qa _).eq sq
   .rw[Xl,Vo]at g⊢;simp only[X5]at g;refine(Eu ?_ (F (j+1) (o++w) om gq)).eq sq;unfold K7;simp only[f.ix,XK,dT ((j:Int)<p.Aj),Vr,dT ((0:Int)<(AI w:Int)),dT ((AI o:Int)<=300)];refine Qj (Sk o w om) ?_
    grind[QL,Qa]
 have loop:∀(r:AA CM) (i:Nat) (o:AA Int),l.drop i=r->i<=AI l->AI o+AI (Ca r)<=256->C9 (λn=>K8 n l (Mf n)) (o,(i:Int)) (o++Ca r):=by
  intro r
  induction r with
  |nil=>
   intro i o E L _;refine Ei ?_;unfold K8;simp only[QH E L,Vs,Ca,Vj];exact Qa _
  |cons p r G=>
   intro i o E L g;obtain⟨f,t⟩:=Qs om E;have Q:=f.lt';rw[fI,X5]at g;have hs:=YK f.mem;rw[Yw]at hs;obtain⟨P,w2⟩:=Q2 (V p f.mem);have W:=N p f.mem;refine(Eu ?_ (G (i+1) (o++N8 p) t om gq)).eq (by rw[fI,Vl]);unfold K8;simp only[f.lt,Vr,f.ix,XK,f.nx];rcases m7 W with H|⟨a,b,d⟩
   .have h:(p.Aj==0)=true:=by simp[H]
    have q:N8 p=[p.Af]:=by rw[aA,h];rfl
    rw[q]at g⊢;refine Ea (v:=o++[p.Af]) ?_ (Qa _);rw[h];exact Jk (Ea (Ez (Se om)) (Qa _))
   .have h:(p.Aj==0)=false:=beq_false_of_ne om;have q:N8 p=(List.replicate p.Aj.toNat (Ca p.Aa)).flatten:=by rw[aA,h];rfl
    rw[q]at g⊢;have hk:AI (Ca p.Aa)<=256:=by
     obtain⟨J,y⟩:∃J,p.Aj.toNat=J+1:=⟨p.Aj.toNat-1,om⟩;rw[y,Xl,Vo,X5]at g;omega
    refine Ea (v:=o++(List.replicate p.Aj.toNat (Ca p.Aa)).flatten) ?_ (Qa _);rw[h];exact Qo (Ea (Y (Co p.Aa) om p.Aa (XU _) d P w2 hk) (Ea ((inner p i f o (Ca p.Aa) om b hk p.Aj.toNat 0 o om om).ev) (Qa _)))
 exact Ea ((loop l 0 [] sq (XV _) (by simpa using T)).ev.eq (Vk _)) (Qa _)
theorem vg(l:AA Int)(x:Int){j:Nat}(hj:0<j)(hx:l[j]?=AC x):∀m,j<=m->(∀p,j<p->p<=m->l[p]? ≠AC x)->D9 l x m=j
 |0,h,_=>om
 |m+1,h,h2=>by
  unfold D9;rcases Nat.eq_or_lt_of_le h with e|q
  .grind
  .have:=h2 (m+1) q (XU _);have e:(l[m+1]? ==AC x)=false:=gq;rw[e,Vs];exact vg l x hj hx m om gq
theorem Qqn(l:AA Int)(x:Int)(hl:AI l<=1048576):∃b:Int,Ev (λn=>PT n l x) b/\((b= -1/\ ∀p:Nat,l[p]? ≠AC x)\/ ∃q:Nat,q<AI l/\b=(q:Int)/\l[q]?=AC x/\ ∀p:Nat,q<p->l[p]? ≠AC x):=by
 have h:∀(r:AA Int) (i:Nat) (b:Int),l.drop i=r->i<=AI l->((b= -1/\ ∀p:Nat,p<i->l[p]? ≠AC x)\/ ∃q:Nat,q<i/\b=(q:Int)/\l[q]?=AC x/\ ∀p:Nat,q<p->p<i->l[p]? ≠AC x)->
   ∃f:Int,C9 (λn=>Oz n l x) (b,(i:Int)) f/\((f= -1/\ ∀p:Nat,l[p]? ≠AC x)\/ ∃q:Nat,q<AI l/\f=(q:Int)/\l[q]?=AC x/\ ∀p:Nat,q<p->l[p]? ≠AC x):=by
  intro r
  induction r with
  |nil=>
   intro i b t B J;have L:AI l<=i:=(by simp_all);have F:∀p:Nat,i<=p->l[p]? ≠AC x:=λp M=>gq;refine⟨b,Ei ?_,?_⟩
   .unfold Oz;simp only[QH t B,Vs];exact Qa _
   grind
  |cons y r H=>
   intro i b t B J;obtain⟨d,j⟩:=Qs om t;have E:=d.lt';obtain⟨f,g,m⟩:=H (i+1) (bif y==x then(i:Int)else b) j om (by
    cases e:(y==x)with
    |true=>
     rw[VA]at e;subst e;exact .inr ⟨i,om,rfl,d.get,λp a c=>om⟩
    |false=>
     rw[VB]at e;have G:l[i]? ≠AC x:=by rw[d.get];grind
     grind)
   refine⟨f,Eu ?_ g,m⟩;unfold Oz;simp only[d.lt,Vr,d.ix,XK,d.nx];cases(y==x)<;>exact Qa _
 obtain⟨b,g,m⟩:=h l 0 (-1) rfl (XV _) sq;refine⟨b,?_,m⟩;unfold PT;exact Ea g.ev (Qa _)
theorem Qoc{c:CE}(g:Dd c)(B:CO c=0){d:AN}(t:d∈c.AO)(hE:0<=d.Ae):∃i,0<i/\(Ca d.Ab)[i]?=AC d.Ae:=by
 have h:=(YB B).2.2 d t;unfold Df GF at h;rw[g.exp t]at h;simp only[XX,Vt]at h;obtain⟨⟨G,x⟩,H,j,_⟩:=h;rw[Yr hE,Vr]at j;simp only[XX,Bool.not_eq_true',VB,ne_eq]at j;obtain⟨E,J,F⟩:=j;have f:d.Ae∈Ca d.Ab:=by
  grind
 obtain⟨i,L,y⟩:=List.getElem_of_mem f;refine⟨i,?_,gq⟩;rcases Nat.eq_zero_or_pos i with q|q
 .subst q;cases hl:Ca d.Ab with
  |nil=>grind
  |cons m r=>
   simp_all[D6]
 .exact q
theorem Qob{c:CE}(f:CO c=0){d:AN}(g:d∈c.AO): -1<=d.Ae:=by
 have h:=(YB f).2.1
 simp_all[Cw,FZ,C7]
theorem fH{c:CE}(hg:CO c=0->Dd c)(he:Ev (λn=>D2 n c) (CO c))(i k:Int):Ev (λn=>HJ n c i k) (bif CO c != 0 then([],CO c)else CV c i k):=by
 unfold HJ;cases G:(CO c != 0)with
 |true=>
  refine Ea (v:=CO c) ?_ (Yx G (Qa _));unfold Ip;exact Ea he (Yx G (Qa _))
 |false=>
 have f:CO c=0:=gq;have g:=hg f;rw[f]at he;simp only[Vs];unfold CV;have Ht:∀b:Bool,(AG (i<0)||AG ((AI c.AO:Int)<=i))=b->Ev (λn=>Ip n c i) (bif b then 90 else 0):=by
  intro b B;unfold Ip;refine Ea he (Qo (Ea (v:=b) (Et (Qg λ_=>Qa _) B) ?_));cases b<;>exact Qa _
 by_cases F:i<0
 .rw[Yr F,Vr];exact Ea (Ht AE gq) (Qa _)
 rw[QN F,Vs];cases x:c.AO[i.toNat]? with
 |none=>
  have:=List.getElem?_eq_none_iff.1 x;exact Ea (Ht AE gq) (Qa _)
 |some d=>
  have H:=(XM.1 x).1;have t:=VK x;have W:=Qob f t;have h:=(g.BT d t).2;rw[g.exp t]at h;refine Ea (Ht AD gq) (Qo ?_);have y:CN c.AO i=AC d:=by
   grind[Qf]
  refine Qj y ?_;simp only;have e1:AG (d.Ae<0)=(d.Ae== -1):=by
   grind
  refine Ea (v:=AG (k<0)||(AG (0<k)&&AG (d.Ae<0))) ?_ ?_
  .simp_all[Qg,Eh,Qa]
  cases B:(AG (k<0)||(AG (0<k)&&AG (d.Ae<0)))with
  |true=>exact Qa _
  |false=>
   simp only[XY,decide_eq_false_iff_not,Bool.and_eq_false_iff]at B;refine Qo (Ea (Qqj _ _ d.Ab (XU _) (g.parts d t) (g.len d t) (g.wf d t) h) ?_);refine Ea (v:=AG (256-(AI (Ca d.Ab):Int)<k)) ?_ ?_
   .grind[Qa,QN,Qz]
   cases hk:AG (256-(AI (Ca d.Ab):Int)<k)with
   |true=>exact Qa _
   |false=>
    have L:=Vy hk;simp only[Vs];by_cases N:k=0
    .simp_all[Qa,DD]
    .have kb:(k==0)=false:=beq_false_of_ne N;rw[kb];refine Qo ?_;have R:0<=d.Ae:=om;obtain⟨b,P,Q⟩:=Qqn (Ca d.Ab) d.Ae om;obtain⟨i0,i1,i2⟩:=Qoc g f t R;rcases Q with⟨_,h2⟩|⟨q,q1,q2,O,T⟩
     .grind
     have J:0<q:=by
      grind
     have E:=vg (Ca d.Ab) d.Ae J O (AI (Ca d.Ab)-1) om λp a _=>T p a;refine Ea P ?_;rw[q2,QL om];have V:Do (Ca d.Ab) 0 ((q+1:Nat):Int)=AC ((Ca d.Ab).take (q+1)):=by
      have:=jM (Ca d.Ab) (a:=0) (b:=q+1) om om
      grind
     have M:Do (Ca d.Ab) ((q+1:Nat):Int) (AI (Ca d.Ab):Int)=AC ((Ca d.Ab).drop (q+1)):=by
      have:=jM (Ca d.Ab) (a:=q+1) (b:=AI (Ca d.Ab)) om om
      grind
     refine Qj V ?_;refine Qj (Sk [] _ (by simp;omega)) ?_;rw[Vk];have lp:∀(m j:Nat),j+m=k.toNat->C9 (λn=>O7 n k d) ((Ca d.Ab).take (q+1)++List.replicate j d.Ae,(j:Int)) ((Ca d.Ab).take (q+1)++List.replicate k.toNat d.Ae):=by
      intro m
      induction m with
      |zero=>
       intro j X;have:j=k.toNat:=om;subst this;refine Ei ?_;unfold O7;simp only[QN (show¬((k.toNat:Nat):Int)<k by omega),Vs];exact Qa _
      |succ m Y=>
       intro j X;refine Eu ?_ (Y (j+1) om);unfold O7;simp only[dT ((j:Int)<k),Vr];refine Qj (Se (by simp;omega)) ?_;rw[QL om,Vl, <- List.replicate_succ'];exact Qa _
     refine Ea ((lp k.toNat 0 om).ev.eq rfl |> λh=>by simpa using h) ?_;refine Qj M ?_;refine Qj (Sk _ _ (by simp;omega)) ((Qa _).eq ?_);unfold DD;rw[E]
theorem Qor(k:CG)(w:Dy k):∃b,Ev (λn=>Po n k) b/\(b=AE->AI k.AQ<=8):=by
 unfold Po;cases d:(AG (8<(AI k.AQ:Int))||AG (10<(AI k.BE:Int)))with
 |true=>exact⟨AD,Ea (v:=AE) (Et (Qg λ_=>Qa _) d) (Qa _),nofun⟩
 |false=>
  have hs:=d;simp only[XY,decide_eq_false_iff_not]at hs;refine⟨bif k.BE.all (λr=> !decide (12<(AI r:Int)))then AE else AD,Ea (v:=AD) (Et (Qg λ_=>Qa _) d) (Qo (Ea (Ye k.BE (λr=> !decide (12<(AI r:Int))) (CJ.d AD) (CJ.k ()) om (λi x f=>?_) ?_) ?_)),λ_=>om⟩
  .unfold V7;simp only[f.lt,Vr,f.ix,XK,f.nx]
   grind[Qa]
  .simp_all[V7,Qa]
  grind[Qa]
def SB(c:CE)(k:CG)(s:AP)(e:Int)(x:AA CQ)(l:AA AY)(t:AA Ud):Cj:=
 {c:=c,k:=k,r:=(CV c s.AN e).1,s:=C4 c (CV c s.AN e).1,H:=x,T:=t,m:=(F8 l).1,hi:=(F8 l).2}
def DG(c:CE)(k:CG)(s:AP)(e:Int)(x:AA CQ)(l:AA AY):Int ⊕ Cj:=
 bif CO c != 0 then .inl (CO c)else bif !FH k then .inl 160 else bif GK c s l then .inl 1 else bif (CV c s.AN e).2 != 0 then .inl (CV c s.AN e).2 else bif !Dg c x then .inl 170 else
  match C_ c k x with
  |none=>.inl 170
  |some t=>.inr (SB c k s e x l t)
def IZ:Int ⊕ Cj->CT
 |.inl e=>.c0 e
 |.inr t=>.c1 (t.r,t.s,t.T,t.m,t.hi)
theorem eo{c:CE}(f:Ev (λn=>GA n c) (CO c))(j:CO c=0->Dd c){k:CG}(h:Dy k)(s:AP)(e:Int)(x:AA CQ)(hx:AI x<=1000)(l:AA AY)(hl:AI l<=1048576):
  Ev (λn=>OX n c k s e x l) (IZ (DG c k s e x l)):=by
 unfold DG;cases g:(CO c != 0)with
 |true=>
  unfold OX;exact Ea f (Yx g (Qa _))
 |false=>
  have d:CO c=0:=gq;refine(Qj1 (j d) d (d▸f) h s e x hx l hl).eq ?_;unfold Lt;cases FH k with
  |false=>rfl
  |true=>
  cases GK c s l with
  |true=>rfl
  |false=>
  cases((CV c s.AN e).2 != 0)with
  |true=>rfl
  |false=>
  cases Dg c x with
  |false=>rfl
  |true=>cases C_ c k x<;>rfl
structure Dr (c:CE) (k:CG) (s:AP) (e:Int) (x:List CQ) (l:List AY) (t:Cj):Prop where
 ok:DI t
 cE:CO c=0
 clk:FH k=AE
 arg:GK c s l=AD
 rt:(CV c s.AN e).2=0
 hit:Dg c x=AE
 is:t=SB c k s e x l t.T
 tm:C_ c k x=AC t.T
theorem Sn{c:CE}(Y:Ev (λn=>GA n c) (CO c))(Q:CO c=0->Dd c){k:CG}(W:Dy k){s:AP}{e:Int}{x:AA CQ}(hx:AI x<=1000){l:AA AY}{t:Cj}(h:DG c k s e x l=.inr t):Dr c k s e x l t:=by
 unfold DG at h;cases hc:(CO c != 0)with
 |true=>grind
 |false=>
 rw[hc,Vs]at h;have f:CO c=0:=gq;cases hk:FH k with
 |false=>grind
 |true=>
 rw[hk]at h;cases M:GK c s l with
 |true=>grind
 |false=>
 rw[M]at h;cases X:((CV c s.AN e).2 != 0)with
 |true=>grind
 |false=>
 have q:(CV c s.AN e).2=0:=gq;rw[X]at h;cases G:Dg c x with
 |false=>grind
 |true=>
 rw[G]at h;cases m:C_ c k x with
 |none=>grind
 |some T=>
 rw[m]at h;cases h;have g:=Q f;obtain⟨j,d,k',r1,r2,r3,r4,r5,r6⟩:=fK g q;have H:(CV c s.AN e).1.length<=256:=by
  grind[DD]
 obtain⟨T1,T2⟩:=fQ m;have kk:=nq W hk;refine⟨⟨f▸Y,oG f,kk,Jb _ _,H,T1,hx,λi y B=>nZ G y (VK B),λy B=>?_,λp y B=>?_,?_⟩,f,hk,M,q,G,rfl,m⟩
 .obtain⟨i,L,e1⟩:=List.getElem_of_mem B;have F:i<AI x:=by have:i<AI T:=L;omega
  obtain⟨N,g1,O⟩:=T2 i _ (XL F);have R:N=y:=by
   have:T[i]?=AC y:=by rw[<- e1];exact XL L
   grind
  subst R;rcases Qnb O with z|⟨J,s',z1,P,_⟩
  .exact⟨0,om,om⟩
  .have:=(XM.1 P).1;exact⟨J+1,om,by show J+1<AI k.AQ+1;omega⟩
 .have:=jR l p;rw[show GM (F8 l).1 p=AC y from B]at this;cases V:l.find? (λh=>h.AS==p)with
  |none=>grind
  |some h'=>
   rw[V]at this;cases this;exact⟨0,rfl,om⟩
 .have E:=(YB f).2.1;unfold Cw Ie C7 at E;simp only[XX,Vt]at E;exact E.2.2.2.2.2.2.2.2.2.1.1.1
theorem fP{c:CE}{k:CG}{s:AP}{e:Int}{x:AA CQ}{l:AA AY}{v:Int}(h:DG c k s e x l=.inl v):v≠0:=by
 unfold DG at h
 grind
def Gy(c:CE)(k:CG)(s:AP)(e:Int)(x:AA CQ)(l:AA AY)(W:CW):Int:=
 match DG c k s e x l with
 |.inl v=>v
 |.inr t=>bif Dq t W then 0 else 190
theorem QoC{c:CE}(h:Ev (λn=>GA n c) (CO c))(f:CO c=0->Dd c){k:CG}(d:Dy k)(s:AP)(e:Int)(x:AA CQ)(hx:AI x<=1000)(l:AA AY)(hl:AI l<=1048576)(W:CW)(q:AI W.Ak<=1048576):
  Ev (λn=>Ro n c k s e x l W) (Gy c k s e x l W):=by
 unfold Ro Gy;refine Ea (eo h f d s e x hx l hl) ?_;cases g:DG c k s e x l with
 |inl v=>
  have:=fP g;exact Yx (by simpa[bne]using this) (Qa _)
 |inr t=>
  have i:=Sn h f d hx g;have B:t.c=c:=by rw[i.is];rfl
  have hk:t.k=k:=by rw[i.is];rfl
  have y:t.H=x:=by rw[i.is];rfl
  have:=ir i.ok W q;rw[B,hk,y]at this;show Ev (λn=>(KK n W c k t.r t.s x t.T t.hi t.m c k).bind λj=>(bif (!j)then AC 190 else AC 0)) _;refine Ea this ?_;simp only;cases Dq t W<;>exact Qa _
set_option maxRecDepth 10000
structure fq (x:C2):Prop where
 lo:0<=x.Bn
 le:x.Bn<=x.Bs
 hi:x.Bs<=68719476736
theorem mr{c:CE}(f:CO c=0){a b:Int}(h:Cq c a b=AE):fq (D1 c a b)/\(c.As.find? λl=>(l.A5==a)&&(l.To==b))=AC (D1 c a b)/\(c.As.map C0).Nodup:=by
 have hn:=(YB f).2.1;unfold Cw at hn;simp only[XX,Vt]at hn;obtain⟨_,hl,d,_⟩:=hn;unfold D1;cases e:c.As.find? λl=>(l.A5==a)&&(l.To==b)with
 |none=>
  unfold Cq at h;obtain⟨y,j,g⟩:=Xt.1 h;exact absurd g (List.find?_eq_none.1 e y j)
 |some y=>
  have:=Xs.1 hl y (List.mem_of_find?_eq_some e);unfold Id C7 at this;simp only[XX,Vt]at this;exact⟨⟨this.2.1.1.1,this.2.2,this.2.1.2.2⟩,rfl,d⟩
theorem vv(c:CE):∀(r:AA Int) (s:CK) (a:Int) (i:Nat) (x y:Int) (u:CK),(a::r)[i]?=AC x->(a::r)[i+1]?=AC y->(s::Fh c s a r)[i]?=AC u->(s::Fh c s a r)[i+1]?=AC (D7 c u x y)
 |[],s,a,i,x,y,u,_,h2,_=>by simp at h2
 |b::r,s,a,0,x,y,u,h1,h2,h3=>by
  simp at h1 h2 h3;subst h1;subst h2;subst h3;rw[o4];rfl
 |b::r,s,a,i+1,x,y,u,h1,h2,h3=>by
  rw[o4]at h3⊢;exact vv c r (D7 c s a b) b i x y u (by simpa using h1) (by simpa using h2) (by simpa using h3)
theorem uP(c:CE)(r:AA Int)(i:Nat)(x y:Int)(u:CK)(d:r[i]?=AC x)(f:r[i+1]?=AC y)(g:(C4 c r)[i]?=AC u):(C4 c r)[i+1]?=AC (D7 c u x y):=by
 cases r with
 |nil=>simp at d
 |cons a r=>exact vv c r _ a i x y u d f g
theorem nD{c:CE}(q:CO c=0){r:AA Int}(f:Fz c r)(hl:AI r<=256):∀(i:Nat) (u:CK),(C4 c r)[i]?=AC u->0<=u.Lo/\u.Lo<=u.Hi/\u.Hi<=(i:Int)*68719476736
 |0,u,h=>by
  cases r with
  |nil=>simp[C4]at h
  |cons a r=>
   have:u={Lo:=0,Hi:=0}:=by simpa[C4]using h.symm
   subst this;exact⟨Int.le_refl _,Int.le_refl _,by show(0:Int)<=_;omega⟩
 |i+1,v,h=>by
  have d:=(XM.1 h).1;rw[Jb]at d;have j:r[i]?=AC (r[i]'om):=XL om;have g:r[i+1]?=AC (r[i+1]'(d)):=XL d;have m:(C4 c r)[i]?=AC ((C4 c r)[i]'(by rw[Jb];omega)):=XL _;obtain⟨x,y,t⟩:=nD q f hl i _ m;rw[uP c r i _ _ _ j g m]at h;cases h;have L:=(mr q (f.at j g)).1;have B:=L.lo;have E:=L.le;have F:=L.hi;generalize(C4 c r)[i]'(by rw[Jb];omega)=u at x y t;unfold D7;rw[Dj,Dj];show 0<=u.Lo+_/\u.Lo+_<=u.Hi+_/\u.Hi+_<=_;rw[show((i+1:Nat):Int)*68719476736=(i:Int)*68719476736+68719476736 by omega];omega
theorem vG{c:CE}(j:CO c=0){r:AA Int}(f:Fz c r)(hl:AI r<=256){i:Nat}{x y:Int}{u:CK}(d:r[i]?=AC x)(g:r[i+1]?=AC y)(h:(C4 c r)[i]?=AC u):
  (C4 c r)[i+1]?=AC {Lo:=u.Lo+(D1 c x y).Bn,Hi:=u.Hi+(D1 c x y).Bs}:=by
 have m:=(XM.1 d).1;rw[uP c r i x y u d g h];obtain⟨t,F,q⟩:=nD j f hl i u h;have L:=(mr j (f.at d g)).1;have B:=L.lo;have E:=L.le;have G:=L.hi;unfold D7;rw[Dj,Dj]
theorem vF{c:CE}(hc:CO c=0){r:AA Int}(ha:Fz c r)(hl:AI r<=256){i:Nat}{u:CK}(h:(C4 c r)[i]?=AC u):∀(d:Nat) (v:CK),(C4 c r)[i+d]?=AC v->0<=v.Lo-u.Lo/\v.Lo-u.Lo<=v.Hi-u.Hi/\v.Hi-u.Hi<=(d:Int)*68719476736
 |0,v,hv=>by
  rw[Xy,h]at hv;cases hv;omega
 |d+1,v,hv=>by
  have hlt:=(XM.1 hv).1;rw[Jb]at hlt;have h1:r[i+d]?=AC (r[i+d]'om):=XL om;have h2:r[i+d+1]?=AC (r[i+d+1]'om):=XL om;have h3:(C4 c r)[i+d]?=AC ((C4 c r)[i+d]'(by rw[Jb];omega)):=XL _;obtain⟨p1,p2,p3⟩:=vF hc ha hl h d _ h3;have:=vG hc ha hl h1 h2 h3;rw[show i+(d+1)=i+d+1 by omega,this]at hv;cases hv;have L:=(mr hc (ha.at h1 h2)).1;have l1:=L.lo;have l2:=L.le;have l3:=L.hi;generalize(C4 c r)[i+d]'(by rw[Jb];omega)=w at p1 p2 p3;show 0<=w.Lo+_-u.Lo/\w.Lo+_-u.Lo<=w.Hi+_-u.Hi/\w.Hi+_-u.Hi<=_;rw[show((d+1:Nat):Int)*68719476736=(d:Int)*68719476736+68719476736 by omega];omega
theorem Qms{c:CE}(g:Dd c)(he:Ev (λn=>GA n c) 0){i k:Int}(h:(CV c i k).2=0):Ev (λn=>It n c i k) (Ch.c3 ((CV c i k).1,c.As.foldl (λm x=>QE m ({Be:=x.A5,to_:=x.To:Ub}) x) [])):=by
 have H:=oI g he i k;obtain⟨j,d,f,J,G,B,N,P,F⟩:=fK g h;subst J;subst G;have q:=VK B;have E:=(g.BT d q);rw[g.exp q]at E;have w:i64.wrap (256-(AI (Ca d.Ab):Int))=256-(AI (Ca d.Ab):Int):=Dj;have t:Ev (λn=>Go.Sw.iter (J7 n c) n (([]:AA (Ub×C2)),0)) (c.As.foldl (λm x=>QE m ({Be:=x.A5,to_:=x.To:Ub}) x) []):=by
  have hl:=g.legs;refine Yu c.As (λ(m:AA (Ub×C2)) x=>QE m ({Be:=x.A5,to_:=x.To:Ub}) x) [] (λm i=>(m,(i:Int))) (λm=>m) om rfl (λi x m ha _=>?_) ?_
  .unfold J7;simp only[ha.lt,Vr,ha.ix,XK,ha.nx];exact Qa _
  simp_all[J7,Qa]
 rw[F];unfold It;have M:(AG ((f:Int)<0)||(AG (0<(f:Int))&&AG (d.Ae<0)))=false:=by
  grind
 refine Ea (jC he B) (Qo (Ea (v:=AD) (Et (Qg λ_=>Eh λ_=>Qa _) M) (Qo (Ea (o0 g q) ?_))));simp only[w,QN (show¬256-(AI (Ca d.Ab):Int)<(f:Int)by omega),Vs];refine Ea (v:=DD d f) ?_ (Ea t (Qa _));by_cases O:f=0
 .simp_all[Qa,DD]
 .refine Yx gq ?_;have y:=oy d 0 (Ca d.Ab) E.2 (AI (Ca d.Ab)-1) om;have L:=n9 (Ca d.Ab) d.Ae (AI (Ca d.Ab)-1);rw[Qz (n:=(AI (Ca d.Ab):Int)-1) om om,show(AI (Ca d.Ab):Int)-1=((AI (Ca d.Ab)-1:Nat):Int)by omega];refine Ea y.ev (Ea (ox d.Ae f om om) (Ea (Ez ?_) (Qa _)))
  grind[DD,Qz,Zw,Nat.blt,Nat.ble_eq_true_of_le,Yp]
set_option maxRecDepth 10000
structure JW (x:CK):Prop where
 a: -4398046511104<=x.Lo
 b:x.Lo<=x.Hi
 c:x.Hi<=4398046511104
theorem td{c:CE}(g:GC c){s:CF}(f:F7 s.A4){h:CQ}(d:Fk c h):JW (Fi c s h):=by
 have B:=sB g (CU c h.Af) f d.fi;have x:=sB g (CU c h.Af) f d.la;have q:=d.fi;have j:=d.la;have y:=d.le;unfold F7 at q j;have m:i64.wrap (h.BD+(FG c (CU c h.Af) s h.BD).Lo)=h.BD+(FG c (CU c h.Af) s h.BD).Lo:=Dj;have t:i64.wrap (h.Ai+(FG c (CU c h.Af) s h.Ai).Hi)=h.Ai+(FG c (CU c h.Af) s h.Ai).Hi:=Dj;unfold Fi;rw[m,t];refine⟨?_,?_,?_⟩
 iterate 3 grind
theorem QlC{c:CE}(m:GC c){k:CG}(kk:Hy k){h:CQ}(x:Fk c h){t:Ud}(q:DU c k h=AC t):JW t.Ay:=by
 unfold DU at q;cases hk:(CU c h.Af==1)with
 |true=>grind[td,F7]
 |false=>
  rw[hk]at q;by_cases d:DN k h<0
  .grind
  .rw[QN d]at q;obtain⟨j,s,g,f,y,_⟩:=fE d;rw[g,Int.toNat_natCast,f]at q;cases q;exact td m (kk.anc s gq) x
section
variable {c:CE} {k:CG} {s:AP} {e:Int} {x:AA CQ} {l:AA AY} {t:Cj}
theorem wG(d:Dr c k s e x l t){p h:Int}(Q:Fs t h)(q:(DE t p h).2=AE):JW (DE t p h).1.Ay:=by
 have ok:=d.ok;have E:t.c=c:=by rw[d.is];rfl
 have P:t.H=x:=by rw[d.is];rfl
 have B:t.k=k:=by rw[d.is];rfl
 have L:t.m=(F8 l).1:=by rw[d.is];rfl
 unfold DE at q⊢;cases e:(GN t.m p||AG (h<0))with
 |true=>
  rw[e]at q;simp only[Vr]at q⊢;rw[UK]at q;obtain⟨y,f⟩:=Option.isSome_iff_exists.1 q;unfold Qd;rw[f];rw[L,jR]at f;cases F:l.find? (λh=>h.AS==p)with
  |none=>grind
  |some M=>
   rw[F]at f;cases f;have j:=d.arg;unfold GK at j;simp only[XY]at j;have J:=List.any_eq_false.1 j.2.2.2.2 M (List.mem_of_find?_eq_some F);unfold D4 Ds C7 at J;simp only[Bool.or_eq_true,Vt,Bool.not_eq_true',Bool.and_eq_false_iff,decide_eq_false_iff_not,not_or,Decidable.not_not]at J;exact⟨gq,gq,gq⟩
 |false=>
  simp only[Vs];rw[XY,decide_eq_false_iff_not]at e;have g:h.toNat<AI t.H:=by rcases Q with z|z<;>omega
  obtain⟨y,G,R⟩:=Kw (l:=t.H) (h:=h) om g;obtain⟨_,T2⟩:=fQ d.tm;rw[P]at G;obtain⟨z,O,N⟩:=T2 _ _ G;rw[O];exact QlC (by rw[<- E];exact ok.crs) (by rw[<- B];exact ok.clk) (by have:=ok.hit h.toNat y gq;grind) N
end
def kv(t:Cj)(W:CW)(i:Nat):Ud×Bool:=DE t (i:Int) ((W.Ak[i]?).getD (-1))
theorem e7{t:Cj}{W:CW}:∀{r:AA Int} {i:Nat} {u:AA (Int×Bool)} {s:Uf},admL t W r i u s=AE->∀h∈r,Fs t h
 |[],_,_,_,_,h,hm=>by cases hm
 |y::r,i,u,s,q,h,hm=>by
  rw[aS]at q;cases hb:((y != -1)&&FJ t W u i y)with
  |true=>grind
  |false=>
  rw[hb,Vs]at q;rcases X9.1 hm with rfl|hm
  .exact(o6 hb).1
  .cases hL:AG (W.Ai<(i:Int))with
   |true=>rw[hL,Vr]at q;exact e7 q h hm
   |false=>
    rw[hL,Vs]at q;cases h2:(C8 t s (i:Int) y).2 with
    |false=>grind
    |true=>rw[h2]at q;exact e7 q h hm
def fx(t:Cj)(W:CW)(i:Nat)(s:Uf):Prop:=(s.Bb= -1/\ ∀j,j<i->(kv t W j).2=AD)\/ ∃a:Nat,a<i/\s.Bb=(a:Int)/\(kv t W a).2=AE/\s.Bt=(kv t W a).1/\ ∀j,a<j->j<i->(kv t W j).2=AD
theorem l7(t:Cj)(W:CW):fx t W 0 Ns:=.inl ⟨rfl,λj h=>om⟩
inductive Cr (t:Cj) (W:CW) (p:Nat):Int->CK->Prop
 |back (i:Nat) (hi:i<=p) (hk:(kv t W i).2=AE) (g:∀j,i<j->j<=p->(kv t W j).2=AD):Cr t W p (kv t W i).1.AW {Lo:=i64.wrap ((kv t W i).1.Ay.Lo+(DH t i p).Lo),Hi:=i64.wrap ((kv t W i).1.Ay.Hi+(DH t i p).Hi)}
 |fwd (hb:∀j,j<=p->(kv t W j).2=AD) (i:Nat) (hi:p<i) (hL:(i:Int)<=W.Ai) (hk:(kv t W i).2=AE) (g:∀j,p<j->j<i->(kv t W j).2=AD):Cr t W p (kv t W i).1.AW {Lo:=i64.wrap ((kv t W i).1.Ay.Lo-(DH t p i).Hi),Hi:=i64.wrap ((kv t W i).1.Ay.Hi-(DH t p i).Lo)}
 |none (hb:∀j:Nat,(j:Int)<=W.Ai->(kv t W j).2=AD):Cr t W p (-1) {Lo:= -1099511627776,Hi:=1099511627776}
theorem Qou{c:CE}(ty:Ev (λn=>GA n c) (CO c))(gd:CO c=0->Dd c){k:CG}(kw:Dy k){s:AP}{e:Int}{x:AA CQ}(hx:AI x<=1000){l:AA AY}(hl:AI l<=1048576){t:Cj}(ht:DG c k s e x l=.inr t){W:CW}(hW:AI W.Ak<=1048576)(P:Dq t W=AE){p:Nat}(hp:(p:Int)<=W.Ai):
  ∃sg sp,Ev (λn=>HH n c k s e x l W (p:Int)) (sg,sp,0)/\Cr t W p sg sp:=by
 have V:=Sn ty gd kw hx ht;have ok:=V.ok;have hc:t.c=c:=by rw[V.is];rfl
 have hk:t.k=k:=by rw[V.is];rfl
 have hH:t.H=x:=by rw[V.is];rfl
 have y:=P;unfold Dq at y;cases X:F9 t W with
 |true=>grind
 |false=>
 rw[X,Vs]at y;unfold F9 at X;simp only[XY,decide_eq_false_iff_not]at X;obtain⟨M,b1,b2,b3,b4⟩:=X;have M:AI W.Ak=AI t.r:=gq;have rl:=ok.rl;have ac:=e7 y;have kn:∀i:Nat,i<AI W.Ak->∃h,CN W.Ak (i:Int)=AC h/\Ev (λn=>Ik n (i:Int) h c k t.r t.s x t.T t.hi t.m c k) (kv t W i):=by
  intro i hi;have hy:W.Ak[i]?=AC (W.Ak[i]'(hi)):=XL hi
  grind[Qf,oK,kv]
 have nd:∀i j:Nat,i<AI t.r->j<AI t.r->Ev (λn=>KA n (i:Int) (j:Int) c k t.r t.s x t.T t.hi t.m c k) (DH t i j):=by
  grind[jD]
 have up:(∀j,j<=p->(kv t W j).2=AD)->∀(m i:Nat),p<=i->W.Ai.toNat+1-i<=m->(∀j,p<j->j<i->(kv t W j).2=AD)->
   (∃d,p<d/\(d:Int)<=W.Ai/\(kv t W d).2=AE/\(∀j,p<j->j<d->(kv t W j).2=AD)/\C9 (λn=>HY n c k x W (p:Int) (t.r,t.s,t.T,t.m,t.hi)) (i:Int) (CJ.d ((kv t W d).1.AW,{Lo:=i64.wrap ((kv t W d).1.Ay.Lo-(DH t p d).Hi),Hi:=i64.wrap ((kv t W d).1.Ay.Hi-(DH t p d).Lo)},0)))\/
   ((∀j,p<j->(j:Int)<=W.Ai->(kv t W j).2=AD)/\C9 (λn=>HY n c k x W (p:Int) (t.r,t.s,t.T,t.m,t.hi)) (i:Int) (CJ.k ())):=by
  intro hb m
  induction m with
  |zero=>
   intro i hi hm F;refine .inr ⟨λj B G=>F j B om,Ei ?_⟩;unfold HY;simp only[dF ((i:Int)<=W.Ai),Vs];exact Qa _
  |succ m ih=>
   intro i hi hm F;by_cases R:(i:Int)<=W.Ai
   case neg=>
    refine .inr ⟨λj B G=>F j B om,Ei ?_⟩;unfold HY;simp only[QN R,Vs];exact Qa _
   obtain⟨h,L,O⟩:=kn i om;cases f:(kv t W i).2 with
   |true=>
    have aa:p<i:=(VE p i).elim id λz=>gq;refine .inl ⟨i,aa,R,f,F,Ei ?_⟩;unfold HY;simp only[Yr R,Vr,L,XK];refine Ea O (Yx f (Ea (nd p i om om) (Qa _)))
   |false=>
    have E:Ev (λn=>HY n c k x W (p:Int) (t.r,t.s,t.T,t.m,t.hi) (i:Int)) (CJ.k ((i+1:Nat):Int)):=by
     unfold HY;simp only[Yr R,Vr,L,XK];refine Ea O (YS f ?_);rw[QL om];exact Qa _
    rcases ih (i+1) om om (λj B G=>(VE j i).elim (F j B) λz=>(show i=j by omega)▸f)with⟨d,g,q,Q,N,g5⟩|⟨g,q⟩
    .exact .inl ⟨d,g,q,Q,N,Eu E g5⟩
    .exact .inr ⟨g,Eu E q⟩
 have down:∀(m:Nat),m<=p+1->(∀j,m<=j->j<=p->(kv t W j).2=AD)->
   (∃d,d<=p/\(kv t W d).2=AE/\(∀j,d<j->j<=p->(kv t W j).2=AD)/\C9 (λn=>IC n c k x W (p:Int) (t.r,t.s,t.T,t.m,t.hi)) ((m:Int)-1) (CJ.d ((kv t W d).1.AW,{Lo:=i64.wrap ((kv t W d).1.Ay.Lo+(DH t d p).Lo),Hi:=i64.wrap ((kv t W d).1.Ay.Hi+(DH t d p).Hi)},0)))\/
   ((∀j,j<=p->(kv t W j).2=AD)/\C9 (λn=>IC n c k x W (p:Int) (t.r,t.s,t.T,t.m,t.hi)) ((m:Int)-1) (CJ.k ())):=by
  intro m
  induction m with
  |zero=>
   intro _ F;refine .inr ⟨λj hj=>F j (XV _) hj,Ei ?_⟩;unfold IC;simp only[QN (show¬(0:Int)<=((0:Nat):Int)-1 by omega),Vs];exact Qa _
  |succ m ih=>
   intro hm F;rw[show((m+1:Nat):Int)-1=(m:Int)by omega];obtain⟨h,L,O⟩:=kn m om;cases f:(kv t W m).2 with
   |true=>
    refine .inl ⟨m,om,f,λj B G=>F j B G,Ei ?_⟩;unfold IC;simp only[dT ((0:Int)<=(m:Int)),Vr,L,XK];refine Ea O (Yx f (Ea (nd m p om om) (Qa _)))
   |false=>
    have E:Ev (λn=>IC n c k x W (p:Int) (t.r,t.s,t.T,t.m,t.hi) (m:Int)) (CJ.k ((m:Int)-1)):=by
     unfold IC;simp only[dT ((0:Int)<=(m:Int)),Vr,L,XK];refine Ea O (YS f ?_);rw[Qz (n:=(m:Int)-1) om om];exact Qa _
    rcases ih om (λj B G=>(Nat.eq_or_lt_of_le B).elim (λz=>z▸f) λz=>F j z G)with⟨d,g,q,Q,N⟩|⟨g,q⟩
    .exact .inl ⟨d,g,q,Q,Eu E N⟩
    .exact .inr ⟨g,Eu E q⟩
 have J:=ir ok W hW;rw[hc,hk,hH,P]at J;have start:∀v,Ev (λn=>(iter (IC n c k x W (p:Int) (t.r,t.s,t.T,t.m,t.hi)) n (p:Int):AB (CJ Unit (Int×CK×Int))).bind λY=>match Y with|.k sb24=>((iter (HY n c k x W (p:Int) (t.r,t.s,t.T,t.m,t.hi)) n (p:Int):AB (CJ Unit (Int×CK×Int))).bind λab=>match ab with|.k sb46=>(AC ((-1),{Lo:=(-1099511627776),Hi:=1099511627776:CK},0))|.d sb46=>AC sb46)|.d sb24=>AC sb24) v->Ev (λn=>HH n c k s e x l W (p:Int)) v:=by
  intro v hv;unfold HH;refine Ea (eo ty gd kw s e x hx l hl) ?_;rw[ht];simp only[IZ];refine Ea J (Qo (Ea (v:=AD) ?_ (Qo hv)));exact YS (QN om) ((Qa _).eq (QN om))
 have hd:=down (p+1) (XU _) (λj B G=>om);rw[show((p+1:Nat):Int)-1=(p:Int)by omega]at hd;rcases hd with⟨d,g,q,Q,N⟩|⟨g,q⟩
 .exact⟨_,_,start _ (Ea N.ev (Qa _)),Cr.back d g q Q⟩
 .rcases up g (W.Ai.toNat+1) p (XU _) om (λj B G=>om)with⟨d,u1,u2,u3,u4,u5⟩|⟨u1,u2⟩
  .exact⟨_,_,start _ (Ea q.ev (Ea u5.ev (Qa _))),Cr.fwd g d u1 u2 u3 u4⟩
  .exact⟨_,_,start _ (Ea q.ev (Ea u2.ev (Qa _))),Cr.none λj hj=>(VE p j).elim (λz=>u1 j z hj) (g j)⟩
section
variable {c:CE} {k:CG} {s:AP} {e:Int} {x:AA CQ} {l:AA AY} {t:Cj}
theorem Qsc{k:CG}(h:FH k=AE){i j:Nat}(hi:i<AI k.AQ+1)(x:j<AI k.AQ+1):DQ k i i=0/\ -2199023255552<=DQ k i j/\DQ k i j<=2199023255552:=by
 have d:=jk h;simp only[FH,XX]at h;have f:=eK.1 h.2.2.1 i gq;obtain⟨t,m⟩:=d.get hi x;obtain⟨_,y⟩:=d.get hi hi;rw[t]at f;simp only[I_,Bool.not_eq_true',XY]at f;obtain⟨_,g,q⟩:=f;rw[y]at g;have b:=List.any_eq_false.1 q (DQ k i j) (VK m);unfold FX at b
 grind
theorem Qqv{t:Cj}(d:FH t.k=AE){a b:Ud}{g f:Nat}(m:a.AW+1=(g:Int))(j:g<AI t.k.AQ+1)(q:b.AW+1=(f:Int))(E:f<AI t.k.AQ+1)(y1: -4398046511104<=a.Ay.Lo)(y2:a.Ay.Lo<=a.Ay.Hi)(y:a.Ay.Hi<=4398046511104)(B: -4398046511104<=b.Ay.Lo)(x:b.Ay.Lo<=b.Ay.Hi)(F:b.Ay.Hi<=4398046511104):
  Ii t a b={Lo:=i64.wrap (i64.wrap (b.Ay.Lo-a.Ay.Hi)-DQ t.k f g),Hi:=i64.wrap (i64.wrap (b.Ay.Hi-a.Ay.Lo)+DQ t.k g f)}:=by
 have hs:=(jk d).segs;unfold Ii;rw[m,q,Qz (n:=(g:Int)) om om,Qz (n:=(f:Int)) om om,Int.toNat_natCast,Int.toNat_natCast];by_cases h:g=f
 .subst h;rw[(Qsc d j j).1,bne_self_eq_false,Vs,Qz (n:=b.Ay.Lo-a.Ay.Hi) om om,Qz (n:=b.Ay.Hi-a.Ay.Lo) om om,Dj,Dj,Int.sub_zero,Int.add_zero]
 grind
theorem oX(f:Dr c k s e x l t)(y:CO c=0->Dd c):Fz c t.r:=by
 have g:=y f.cE;obtain⟨j,d,h,F,B,E,m,G,q⟩:=fK g f.rt;have:t.r=DD d h:=by rw[f.is];exact q
 rw[this];exact vn g f.cE gq h m
theorem tQ(d:Dr c k s e x l t)(h:CO c=0->Dd c)(H:AI t.r<=8){i j:Nat}(E:i<=j)(J:j<AI t.r):∃u v,(C4 c t.r)[i]?=AC u/\(C4 c t.r)[j]?=AC v/\DH t i j={Lo:=v.Lo-u.Lo,Hi:=v.Hi-u.Hi}/\0<=v.Lo-u.Lo/\v.Lo-u.Lo<=v.Hi-u.Hi/\v.Hi-u.Hi<=549755813888:=by
 have hs:t.s=C4 c t.r:=by rw[d.is];rfl
 have f:(C4 c t.r)[i]?=AC ((C4 c t.r)[i]'(by rw[Jb];omega)):=sq;have g:(C4 c t.r)[j]?=AC ((C4 c t.r)[j]'(by rw[Jb];omega)):=sq;have m:=vF d.cE (oX d h) om f (j-i) _ (by rw[show i+(j-i)=j by omega];exact g);have F:=nD d.cE (oX d h) om _ _ f;have B:=om;refine⟨_,_,f,g,?_⟩;unfold DH;rw[hs,Int.toNat_natCast,Int.toNat_natCast,f,g];simp only[Option.getD_some];generalize(C4 c t.r)[i]'gq=u at m F;generalize(C4 c t.r)[j]'gq=v at m B;have G:((j-i:Nat):Int)*68719476736<=549755813888:=by
  omega
 have y:(i:Int)*68719476736<=549755813888:=om;have q:(j:Int)*68719476736<=549755813888:=om;rw[Qz (n:=v.Lo-u.Lo) om om,Qz (n:=v.Hi-u.Hi) om om,Vv om,Vv om]
 grind
end
set_option maxRecDepth 10000
theorem tI(k:CG)(h:CQ)(hk:AI k.AQ<=1048576):Ev (λn=>He n k.AQ h.Af h.Ad) (DN k h+1):=by
 have q:∀(r:AA CF) (i:Nat),k.AQ.drop i=r->i<=AI k.AQ->∃f:CJ Unit Int,C9 (λn=>J5 n k.AQ h.Af h.Ad) (i:Int) f/\(match f with|.k _=>AC 0|.d v=>AC v)=AC (DY (λx:CF=>({mat:=x.Af,BC:=x.Ad:Ue})=={mat:=h.Af,BC:=h.Ad}) r i+1):=by
  intro r
  induction r with
  |nil=>
   intro i B G;refine⟨.k (),Ei ?_,rfl⟩;unfold J5;simp only[QH B G,Vs];exact Qa _
  |cons y r J=>
   intro i B G;obtain⟨g,t⟩:=Qs om B;have H:=g.lt';unfold DY;have eq:(({mat:=y.Af,BC:=y.Ad:Ue})=={mat:=h.Af,BC:=h.Ad})=((y.Af==h.Af)&&(y.Ad==h.Ad)):=by
    grind
   rw[eq];have d:Ev (λn=>((CN k.AQ (i:Int)).bind λE=>(bif (E.Af==h.Af)then(CN k.AQ (i:Int)).bind λj=>AC (j.Ad==h.Ad)else AC AD):AB Bool)) ((y.Af==h.Af)&&(y.Ad==h.Ad)):=by
    simp only[g.ix,XK];exact Eh λ_=>Qa _
   cases e:((y.Af==h.Af)&&(y.Ad==h.Ad))with
   |true=>
    rw[e]at d;refine⟨.d ((i:Int)+1),Ei ?_,rfl⟩;unfold J5;simp only[g.lt,Vr];refine Ea d (Jk ?_)
    grind[Qz,Qa]
   |false=>
    rw[e]at d;obtain⟨f,m,F⟩:=J (i+1) t om;refine⟨f,Eu ?_ m,F⟩;unfold J5;simp only[g.lt,Vr,g.nx];exact Ea d (Qo (Qa _))
 obtain⟨f,m,F⟩:=q k.AQ 0 rfl (XV _);unfold He DN;refine Ea m.ev ?_
 grind[Qa]
theorem tH{c:CE}{h:CQ}(d:Fk c h):Ev (λn=>Hg n c h.Af) (CU c h.Af==1):=by
 obtain⟨i,m,g,f⟩:=d.mat
 grind[Hg,CU,Qf,Qa]
def Fj(c:CE)(k:CG)(h:CQ):Bool:= !(CU c h.Af==1)&&AG (DN k h<0)
theorem QlD(c:CE)(k:CG)(h:CQ):(DU c k h).isNone=Fj c k h:=by
 unfold DU Fj;cases(CU c h.Af==1)with
 |true=>rfl
 |false=>
  by_cases d:DN k h<0
  .grind
  .rw[QN d];obtain⟨j,s,m,f,g,_⟩:=fE d
   grind
theorem w6(c:CE)(k:CG):∀x:AA CQ,(C_ c k x).isNone=x.any (Fj c k)
 |[]=>rfl
 |h::r=>by
  rw[pI,List.any_cons, <- QlD, <- w6 c k r];cases DU c k h with
  |none=>rfl
  |some t=>simp
def dU(q:Int ⊕ Cj):Int:=match q with|.inl v=>v|.inr _=>0
theorem Qom{c:CE}(f:Ev (λn=>D2 n c) (CO c))(M:CO c=0->Dd c){k:CG}(G:Dy k)(s:AP)(e:Int)(x:AA CQ)(hx:AI x<=1000)(l:AA AY)(hl:AI l<=1048576):
  Ev (λn=>Rl n c k s e x l) (dU (DG c k s e x l)):=by
 unfold Rl DG;cases N:(CO c != 0)with
 |true=>
  refine Ea f (Ea (v:=CO c) (YS ?_ (Qa _)) (Yx N (Qa _)))
  grind
 |false=>
 have m:CO c=0:=gq;refine Ea f ?_;rw[m];refine Ea (Jk (Ea (tJ k G) (Qa _))) ?_;cases hk:FH k with
 |false=>exact Qa _
 |true=>
 refine Qo ?_;simp only[bne_self_eq_false,Xg,Vs];have O:GK c s l=((AG (s.AN<0)||(AG ((AI c.AO:Int)<=s.AN)||(AG (s.Aw<0)||AG ((AI c.Ax:Int)<=s.Aw))))||l.any D4):=by
  unfold GK
  grind
 rw[O];cases E:(AG (s.AN<0)||(AG ((AI c.AO:Int)<=s.AN)||(AG (s.Aw<0)||AG ((AI c.Ax:Int)<=s.Aw))))with
 |true=>exact Ea (v:=AE) (Et (Qg λ_=>Qg λ_=>Qg λ_=>Qa _) E) (Qa _)
 |false=>
 refine Ea (v:=AD) (Et (Qg λ_=>Qg λ_=>Qg λ_=>Qa _) E) (Qo ?_);have g:Ev (λn=>iter (PD n l) n 0) (bif l.all (λh=> !D4 h)then CJ.k ()else CJ.d 1):=by
  refine Ye l (λh=> !D4 h) (CJ.d 1) (CJ.k ()) om (λi y d=>?_) ?_
  .unfold PD;simp only[d.lt,Vr,d.ix,XK,d.nx];have F:∀z:Int,Ev (λn=>Mu n z) (Ds z):=by
    simp_all[Mu,Ds,C7,Eh,Qa]
   refine Ea (v:=D4 y) ?_ ?_
   .unfold D4;exact Qg λ_=>Ea (F _) (Qg λ_=>Ea (F _) (Qg λ_=>Qa _))
   .cases D4 y<;>exact Qa _
  simp_all[PD,Qa]
 refine Ea g ?_;rw[show l.all (λh=> !D4 h)= !l.any D4 from(List.not_any_eq_all_not ..).symm];cases d:l.any D4 with
 |true=>exact Qa _
 |false=>
 simp only[Xh,Vr,Bool.or_false,Vs];have H:=fH M f s.AN e;rw[m]at H;refine Ea H ?_;simp only[bne_self_eq_false,Vs];cases L:((CV c s.AN e).2 != 0)with
 |true=>
  refine Ea (v:=(CV c s.AN e).2) (YS ?_ (Qa _)) (Yx L (Qa _))
  grind
 |false=>
 have t:(CV c s.AN e).2=0:=gq;refine Ea (Yx (by rw[t];rfl) (Ea (Qml c x om f) (Qa _))) ?_;rw[m];simp only[bne_self_eq_false,Vs];cases J:Dg c x with
 |false=>exact Qa _
 |true=>
 refine Qo ?_;have q:Ev (λn=>iter (O5 n c k x) n 0) (bif x.all (λh=> !Fj c k h)then CJ.k ()else CJ.d 170):=by
  refine Ye x (λh=> !Fj c k h) (CJ.d 170) (CJ.k ()) om (λi y d=>?_) ?_
  .unfold O5;simp only[d.lt,Vr,d.ix,XK,d.nx];refine Ea (v:=Fj c k y) ?_ ?_
   .refine Ea (tH (nZ J y d.mem)) ?_;unfold Fj;refine Eh λ_=>Ea (tI k y G.segs) ((Qa _).eq ?_);rcases ju (λx:CF=>({mat:=x.Af,BC:=x.Ad:Ue})=={mat:=y.Af,BC:=y.Ad}) k.AQ 0 with⟨B,_⟩|⟨j,P,B,_⟩
    .have:DN k y= -1:=B;rw[this];rfl
    .have:DN k y=(j:Int):=by unfold DN;rw[B];simp
     rw[this,dF ((j:Int)<0)];rw[VB];omega
   .cases Fj c k y<;>exact Qa _
  simp_all[O5,Qa]
 refine Ea q ?_;rw[show x.all (λh=> !Fj c k h)= !x.any (Fj c k)from(List.not_any_eq_all_not ..).symm, <- w6];cases C_ c k x with
 |none=>exact Qa _
 |some T=>exact Qa _
theorem uz(I:CI)(hl:AI I.A6<=1048576)(p:Int):Ev (λn=>NE n I p) (match I.A6.find? (λh=>h.AS==p)with|some h=>(h,AE)|none=>(Uv,AD)):=by
 have f:∀(r:AA AY) (i:Nat),I.A6.drop i=r->i<=AI I.A6->C9 (λn=>MI n I p) (i:Int) (match r.find? (λh=>h.AS==p)with|some h=>CJ.d (h,AE)|none=>CJ.k ()):=by
  intro r
  induction r with
  |nil=>
   intro i j m;refine Ei ?_;unfold MI;simp only[QH j m,Vs];exact Qa _
  |cons y r t=>
   intro i j m;obtain⟨d,g⟩:=Qs om j;have q:=d.lt';rw[List.find?_cons];cases e:(y.AS==p)with
   |true=>
    refine Ei ?_;unfold MI;simp only[d.lt,Vr,d.ix,XK,e];exact Qa _
   |false=>
    refine Eu ?_ (t (i+1) g om);unfold MI;simp only[d.lt,Vr,d.ix,XK,e,Vs,d.nx];exact Qa _
 unfold NE;refine Ea (f I.A6 0 rfl (XV _)).ev ?_
 grind[Qa]
theorem oL(I:CI)(hk:AI I.k.AQ<=1048576){h:CQ}(d:Fk I.c h){t:Ud}(q:DU I.c I.k h=AC t):Ev (λn=>IL n I h) t.AW:=by
 unfold IL;refine Ea (tH d) ?_;unfold DU at q;cases e:(CU I.c h.Af==1)with
 |true=>rw[e]at q;cases q;exact Qa _
 |false=>
  rw[e]at q;refine Qo (Ea (tI I.k h hk) ?_)
  grind[Qa,Qz]
theorem tG{c:CE}(f:Ev (λn=>D2 n c) (CO c))(h:CO c=0){i:Nat}{m:Af}(g:c.An[i]?=AC m){s:CF}(hs:s.Af=(i:Int)){d:Int}(j:F7 s.A4)(hl:F7 d):Ev (λn=>Mj n c s d) (FG c m.AV s d,0):=by
 unfold Mj;rw[h]at f;have q:=(XM.1 g).1;refine Ea f (Qo (Ea (v:=AD) ?_ (Qo (Ea (oc (oG h) g hs j hl) (Qa _)))));refine Ea (od c s.Af) ?_;rw[show GH c s.Af=AE by simp_all[GH]];refine Qo (Ea (jo d) ?_);rw[F4.2 hl];refine Qo (Ea (jo s.A4) ?_);rw[F4.2 j];exact Qa _
theorem Qmi(I:CI)(f:Ev (λn=>D2 n I.c) (CO I.c))(E:CO I.c=0)(kk:Hy I.k){h:CQ}(g:Fk I.c h){t:Ud}(q:DU I.c I.k h=AC t):Ev (λn=>Mz n I h) t.Ay:=by
 have L:=kk.dims.segs;have seg:=oL I om g q;obtain⟨i,m,B,x⟩:=g.mat;have P:CU I.c h.Af=m.AV:=by simp_all[CU]
 have fin:∀s:CF,s.Af=h.Af->F7 s.A4->t.Ay=Fi I.c s h->Ev (λn=>((bif 0<=t.AW then(IL n I h).bind λO=>(CN I.k.AQ O).bind λG=>AC G else AC ({Af:=h.Af,Ad:=h.Ad,A4:=0:CF})):AB CF)) s->Ev (λn=>Mz n I h) t.Ay:=by
  intro s y F M N;unfold Mz;refine Ea seg (Ea N (Ea (tG f E x (y.trans B) F g.fi) (Ea (tG f E x (y.trans B) F g.la) ((Qa _).eq ?_))));rw[M];unfold Fi;rw[P]
 have R:=q;unfold DU at q;cases e:(CU I.c h.Af==1)with
 |true=>
  rw[e]at q;cases q
  simp_all[F7,Qa]
 |false=>
  rw[e]at q;by_cases d:DN I.k h<0
  .grind
  .rw[QN d]at q;obtain⟨j,s,J,H,Q,_⟩:=fE d;rw[J,Int.toNat_natCast,H]at q;cases q;refine fin s Q (kk.anc s gq) (by rfl) (Yx sq (Ea seg ?_))
   grind[Qf,Qa]
set_option maxRecDepth 10000
theorem Qqi{c:CE}(hl:AI c.As<=512){a b:Int}(hg:Cq c a b=AE):Ev (λn=>P9 n c a b) (D1 c a b):=by
 have j:∀(r:AA C2) (i:Nat),c.As.drop i=r->i<=AI c.As->C9 (λn=>MM n c a b) (i:Int) (match r.find? (λl=>(l.A5==a)&&(l.To==b))with|some l=>CJ.d l|none=>CJ.k ()):=by
  intro r
  induction r with
  |nil=>
   intro i q x;refine Ei ?_;unfold MM;simp only[QH q x,Vs];exact Qa _
  |cons y r E=>
   intro i q x;obtain⟨f,m⟩:=Qs om q;have B:=f.lt';have d:Ev (λn=>((CN c.As (i:Int)).bind λh=>(bif (h.A5==a)then(CN c.As (i:Int)).bind λt=>AC (t.To==b)else AC AD):AB Bool)) ((y.A5==a)&&(y.To==b)):=by
    simp only[f.ix,XK];exact Eh λ_=>Qa _
   rw[List.find?_cons];cases e:((y.A5==a)&&(y.To==b))with
   |true=>
    rw[e]at d;refine Ei ?_;unfold MM;simp only[f.lt,Vr];refine Ea d (Jk ?_);rw[f.ix];exact Qa _
   |false=>
    rw[e]at d;refine Eu ?_ (E (i+1) m om);unfold MM;simp only[f.lt,Vr,f.nx];exact Ea d (Qo (Qa _))
 unfold P9;have g:=(j c.As 0 rfl (XV _)).ev;unfold D1;cases e:c.As.find? (λl=>(l.A5==a)&&(l.To==b))with
 |none=>
  grind[Cq]
 |some y=>
  rw[e]at g;exact Ea g (Qa _)
section
variable {c:CE} {k:CG} {s:AP} {e:Int} {x:AA CQ} {l:AA AY} {t:Cj}
theorem Qjc(f:Dr c k s e x l t)(q:CO c=0->Dd c)(M:AI t.r<=8){a b:Nat}(E:a<=b)(P:b<AI t.r):Ev (λn=>Px n c t.r (a:Int) (b:Int)) (DH t a b):=by
 obtain⟨u,v,J,q2,Q,q4,q5,q6⟩:=tQ f q M E P;rw[Q];have d:=oX f q;have lp:∀(m i:Nat),i+m=b->a<=i->∀w:CK,(C4 c t.r)[i]?=AC w->C9 (λn=>OZ n c t.r (b:Int)) ({Lo:=w.Lo-u.Lo,Hi:=w.Hi-u.Hi},(i:Int)) {Lo:=v.Lo-u.Lo,Hi:=v.Hi-u.Hi}:=by
  intro m
  induction m with
  |zero=>
   simp_all[Ei,OZ,Qa]
  |succ m ih=>
   intro i hi W w V;have h:t.r[i]?=AC (t.r[i]'om):=XL om;have g:t.r[i+1]?=AC (t.r[i+1]'om):=XL om;have G:=d.at h g;have N:=vG f.cE d om h g V;obtain⟨u',w',L,H,_,B,y,F⟩:=tQ f q M (i:=a) (j:=i+1) om om;rw[J]at L;cases L;rw[N]at H;cases H;refine Eu ?_ (ih (i+1) om om _ N);unfold OZ;simp only[dT ((i:Int)<(b:Int)),Vr];generalize(t.r[i]'om)=y1 at h G B y F;generalize(t.r[i+1]'om)=y2 at g G B y F;rw[QL om];refine Qj (Qf h) (Qj (Qf g) ?_);refine Ea (Qqi (q f.cE).legs G) ((Qa _).eq ?_);have O:0<=w.Lo+(D1 c y1 y2).Bn-u.Lo:=B;have X:w.Lo+(D1 c y1 y2).Bn-u.Lo<=w.Hi+(D1 c y1 y2).Bs-u.Hi:=y;have T:w.Hi+(D1 c y1 y2).Bs-u.Hi<=549755813888:=F;have Y:i64.wrap (w.Lo-u.Lo+(D1 c y1 y2).Bn)=w.Lo+(D1 c y1 y2).Bn-u.Lo:=by rw[Dj];omega
   have R:i64.wrap (w.Hi-u.Hi+(D1 c y1 y2).Bs)=w.Hi+(D1 c y1 y2).Bs-u.Hi:=by rw[Dj];omega
   show CJ.k (({Lo:=if i64.wrap (w.Lo-u.Lo+(D1 c y1 y2).Bn)<2199023255552 then i64.wrap (w.Lo-u.Lo+(D1 c y1 y2).Bn)else 2199023255552,Hi:=if i64.wrap (w.Hi-u.Hi+(D1 c y1 y2).Bs)<2199023255552 then i64.wrap (w.Hi-u.Hi+(D1 c y1 y2).Bs)else 2199023255552}:CK),((i+1:Nat):Int))=_;rw[Y,R,Vv om,Vv om]
 unfold Px;have:=lp (b-a) a om (XU _) u J;rw[Int.sub_self,Int.sub_self]at this;exact Ea this.ev (Qa _)
def HA(t:Cj)(i j:Nat):CK:=DH t ((if j<i then j else i:Nat):Int) ((if i<j then j else i:Nat):Int)
def JU(t:Cj)(i:Nat):AA CK:=(List.range (AI t.r)).map (HA t i)
def Gz(t:Cj):AA (AA CK):=(List.range (AI t.r)).map (JU t)
theorem wi(f:Dr c k s e x l t)(y:Ev (λn=>D2 n c) (CO c))(G:CO c=0->Dd c)(J:AI t.r<=8):Ev (λn=>NL n c k s e x l) (t.r,Gz t):=by
 have d:=fH G y s.AN e;rw[f.cE]at d;simp only[bne_self_eq_false,Vs]at d;have L:CV c s.AN e=(t.r,0):=Prod.ext (by rw[f.is];rfl) f.rt;rw[L]at d;have bt:∀i j:Nat,i<AI t.r->j<AI t.r->Ev (λn=>PU n c s.AN e (if(j:Int)<(i:Int)then(j:Int)else(i:Int)) (if(i:Int)<(j:Int)then(j:Int)else(i:Int))) (HA t i j,0):=by
  intro i j g E;have H:(if(j:Int)<(i:Int)then(j:Int)else(i:Int))=((if j<i then j else i:Nat):Int):=gq;have M:(if(i:Int)<(j:Int)then(j:Int)else(i:Int))=((if i<j then j else i:Nat):Int):=gq;rw[H,M];have B:(if j<i then j else i)<=(if i<j then j else i):=om;have F:(if i<j then j else i)<AI t.r:=om;unfold PU HA;generalize(if j<i then j else i)=a at B;generalize(if i<j then j else i)=b at B F;refine Ea d (Qo (Ea (v:=AD) (YS (QN om) (YS (QN om) ((Qa _).eq (QN gq)))) (Qo (Ea (Qjc f G J B F) (Qa _)))))
 have row:∀(o:AA (AA CK)) (i:Nat),i<AI t.r->Ev (λn=>iter (MO n c s e (t.r,0) (o,(i:Int))) n (([]:AA CK),0)) (JU t i):=by
  intro o i g;have h:∀(m j:Nat),j+m=AI t.r->C9 (λn=>MO n c s e (t.r,0) (o,(i:Int))) ((List.range j).map (HA t i),(j:Int)) (JU t i):=by
   intro m
   induction m with
   |zero=>
    intro j E;have:j=AI t.r:=om;subst this;refine Ei ?_;unfold MO;simp only[Jd,Vs];exact Qa _
   |succ m q=>
    intro j E;refine Eu ?_ (q (j+1) om);unfold MO;simp only[dT ((j:Int)<(AI t.r:Int)),Vr];refine Ea (bt i j g om) (Qj (Se (by simp;omega)) ?_);rw[QL om,Xu,Xf];exact Qa _
  exact(h (AI t.r) 0 om).ev
 have all:∀(m i:Nat),i+m=AI t.r->C9 (λn=>Od n c s e (t.r,0)) ((List.range i).map (JU t),(i:Int)) (Gz t):=by
  intro m
  induction m with
  |zero=>
   intro i g;have:i=AI t.r:=om;subst this;refine Ei ?_;unfold Od;simp only[Jd,Vs];exact Qa _
  |succ m q=>
   intro i g;refine Eu ?_ (q (i+1) om);unfold Od;simp only[dT ((i:Int)<(AI t.r:Int)),Vr];refine Ea (row _ i om) (Qj (Se (by simp;omega)) ?_);rw[QL om,Xu,Xf];exact Qa _
 unfold NL;exact Ea d (Ea (all (AI t.r) 0 om).ev (Qa _))
theorem nR(t:Cj){i j:Nat}(hi:i<AI t.r)(d:j<AI t.r):CN (Gz t) (i:Int)=AC (JU t i)/\CN (JU t i) (j:Int)=AC (HA t i j):=by
 grind[Qf,Gz,JU]
def DV(t:Cj)(l:AA AY):CI:={c:=t.c,k:=t.k,BM:=t.H,A6:=l,BT:=t.r,BY:=Gz t}
theorem pF(d:Dr c k s e x l t)(Q:Ev (λn=>D2 n c) (CO c))(hl:AI l<=1048576){W:CW}(f:∀h∈W.Ak,Fs t h){i:Nat}(hi:i<AI W.Ak):
  Ev (λn=>IM n (DV t l) W (i:Int)) (bif (kv t W i).2 then((kv t W i).1.AW,(kv t W i).1.Ay,AE)else(-1,{Lo:=0,Hi:=0},AD)):=by
 have ok:=d.ok;have j:t.c=c:=by rw[d.is];rfl
 have P:t.H=x:=by rw[d.is];rfl
 have F:t.k=k:=by rw[d.is];rfl
 have N:t.m=(F8 l).1:=by rw[d.is];rfl
 have E:W.Ak[i]?=AC (W.Ak[i]'hi):=sq;have J:=f _ (Vg hi);unfold kv;rw[E,Option.getD_some];generalize W.Ak[i]'(hi)=h at E J;unfold IM;have g:=uz (DV t l) hl (i:Int);rw[show(DV t l).A6=l from rfl]at g;have R:GM t.m (i:Int)=(l.find? λh=>h.AS==(i:Int)).map λh=>{AW:= -1,Ay:={Lo:=h.Lo,Hi:=h.Hi}}:=by rw[N];exact jR l _
 unfold DE Qd;rw[UK,R];cases G:l.find? (λh=>h.AS==(i:Int))with
 |some T=>
  rw[G]at g;exact Ea g (Qa _)
 |none=>
  rw[G]at g;refine Ea g ?_;simp only[Xk,Option.isSome_none,Bool.false_or,Vs,Qf E,XK];by_cases M:h<0
  .rw[Yr M];exact Qa _
  .rw[QN M];have q:h.toNat<AI t.H:=by rcases J with z|z<;>omega
   obtain⟨y,y1,y2⟩:=Kw (l:=t.H) (h:=h) om q;obtain⟨_,T2⟩:=fQ d.tm;obtain⟨z,O,B⟩:=T2 _ _ (by rw[<- P];exact y1);rw[O];simp only[Vs,Vr,Option.getD_some];have L:Fk t.c y:=ok.hit _ _ y1;rw[<- j, <- F]at B;refine Qj y2 (Ea (oL (DV t l) (by have:=ok.clk.dims.segs;show AI t.k.AQ<=_;omega) L B) (Ea (Qmi (DV t l) (by show Ev (λn=>D2 n t.c) (CO t.c);grind) (by show CO t.c=0;rw[j];exact d.cE) ok.clk L B) (Qa _)))
end
set_option maxRecDepth 10000
def H0(t:Cj)(W:CW):AA Int->Nat->AA (Int×Bool)->Bool
 |[],_,_=>AE
 |h::r,i,u=>bif (h != -1)&&FJ t W u i h then AD else H0 t W r (i+1) (bif h != -1 then QE u h AE else u)
def I7(t:Cj)(W:CW):AA Int->Nat->Uf->Bool
 |[],_,_=>AE
 |h::r,i,s=>bif W.Ai<(i:Int) then AE else bif !(C8 t s (i:Int) h).2 then AD else I7 t W r (i+1) (C8 t s (i:Int) h).1
theorem oU(t:Cj)(W:CW)(h:Int)(r:AA Int)(i:Nat)(u:AA (Int×Bool)):H0 t W (h::r) i u=bif (h != -1)&&FJ t W u i h then AD else H0 t W r (i+1) (bif h != -1 then QE u h AE else u):=rfl
theorem oW(t:Cj)(W:CW)(h:Int)(r:AA Int)(i:Nat)(s:Uf):I7 t W (h::r) i s=bif W.Ai<(i:Int) then AE else bif !(C8 t s (i:Int) h).2 then AD else I7 t W r (i+1) (C8 t s (i:Int) h).1:=rfl
theorem QpF(t:Cj)(W:CW):∀(r:AA Int) (i:Nat) (s:Uf),W.Ai<(i:Int)->I7 t W r i s=AE
 |[],_,_,_=>rfl
 |h::r,i,s,q=>by rw[oW,Yr q,Vr]
theorem nM(t:Cj)(W:CW):∀(r:AA Int) (i:Nat) (u:AA (Int×Bool)) (s:Uf),admL t W r i u s=(H0 t W r i u&&I7 t W r i s)
 |[],_,_,_=>rfl
 |h::r,i,u,s=>by
  rw[aS,oU,oW];cases((h != -1)&&FJ t W u i h)with
  |true=>rfl
  |false=>
  simp only[Vs];by_cases hL:W.Ai<(i:Int)
  .rw[Yr hL,Vr,Vr,nM t W r,QpF t W r (i+1) s om]
  .rw[QN hL,Vs,Vs];cases(C8 t s (i:Int) h).2 with
   |false=>simp
   |true=>
    simp only[Xg,Vs];exact nM t W r _ _ _
theorem Qse(l:AA Int)(x:Int)(hl:AI l<=1048576):Ev (λn=>Re n l x) (N6 l x):=by
 have f:∀(r:AA Int) (i:Nat),l.drop i=r->i<=AI l->C9 (λn=>MN n l x) (i:Int) (bif 0<=DY (λy=>x==y) r i then CJ.d AE else CJ.k ()):=by
  intro r
  induction r with
  |nil=>
   intro i h j;refine Ei ?_;unfold MN;simp only[QH h j,Vs];exact Qa _
  |cons y r q=>
   intro i h j;obtain⟨d,g⟩:=Qs om h;have m:=d.lt';unfold DY;have eq:(y==x)=(x==y):=gq;cases e:(x==y)with
   |true=>
    refine Ei ?_;unfold MN;simp only[d.lt,Vr,d.ix,XK,eq,e,dT ((0:Int)<=(i:Int))];exact Qa _
   |false=>
    refine Eu ?_ (q (i+1) g om);unfold MN;simp only[d.lt,Vr,d.ix,XK,eq,e,Vs,d.nx];exact Qa _
 unfold Re N6;refine Ea (f l 0 rfl (XV _)).ev ?_
 grind[Qa]
theorem QjX(W:CW)(H:AA CQ)(m:AI W.Ak<=1048576)(hH:AI H<=1048576):Ev (λn=>Rp n H W) (G7 W H 0 0):=by
 have d:∀(r:AA CQ) (i:Nat) (a:Int),H.drop i=r->i<=AI H->C9 (λn=>PC n H W) (a,(i:Int)) (G7 W r i a):=by
  intro r
  induction r with
  |nil=>
   intro i a h j;refine Ei ?_;unfold PC;simp only[QH h j,Vs];exact Qa _
  |cons y r t=>
   intro i a h j;obtain⟨f,g⟩:=Qs om h;have q:=f.lt';refine Eu ?_ (t (i+1) _ g om);unfold PC;simp only[f.lt,Vr,f.nx];refine Ea (Qse W.Ak (i:Int) m) ?_
   grind[Qa]
 unfold Rp;exact Ea (d H 0 0 rfl (XV _)).ev (Qa _)
def Fq(t:Cj)(W:CW):Bool:=bif (((AI W.Ak:Int) != (AI t.r:Int))||(AG (W.Ai< -1)||AG ((AI t.r:Int)<=W.Ai)))then AD else bif H0 t W W.Ak 0 []then !decide (W.Ai<t.hi)else AD
theorem Qsn(W:CW)(i:Nat)(hi:i<AI W.Ak)(t:AI W.Ak<=1048576)(h:Int):Ev (λn=>iter (LB n W (i:Int) h) n 0) (bif (W.Ak.take i).any (λy=>y==h)then CJ.d (.d (.d (.d AD)))else CJ.k ()):=by
 have d:∀(m j:Nat),j+m=i->C9 (λn=>LB n W (i:Int) h) (j:Int) (bif ((W.Ak.take i).drop j).any (λy=>y==h)then CJ.d (.d (.d (.d AD)))else CJ.k ()):=by
  intro m
  induction m with
  |zero=>
   simp_all[Ei,LB,Qa]
  |succ m q=>
   intro j x;have f:W.Ak[j]?=AC (W.Ak[j]'om):=sq;have g:(W.Ak.take i).drop j=(W.Ak[j]'om)::(W.Ak.take i).drop (j+1):=by
    rw[Xp (by simp;omega)];simp
   rw[g,List.any_cons];cases e:((W.Ak[j]'om)==h)with
   |true=>
    refine Ei ?_;unfold LB;simp only[dT ((j:Int)<(i:Int)),Vr,Qf f,XK,e,Bool.true_or];exact Qa _
   |false=>
    refine Eu ?_ (q (j+1) om);unfold LB;simp only[dT ((j:Int)<(i:Int)),Vr,Qf f,XK,e,Vs];rw[QL om];exact Qa _
 have:=d i 0 om;simpa using this.ev
theorem Qmh{t:Cj}{l:AA AY}(ok:DI t)(P:t.hi=(F8 l).2)(hl:AI l<=1048576){W:CW}(hW:AI W.Ak<=1048576):Ev (λn=>Rz n (DV t l) W) (Fq t W):=by
 have rl:=ok.rl;unfold Rz Fq;refine Ea (v:=(((AI W.Ak:Int) != (AI t.r:Int))||(AG (W.Ai< -1)||AG ((AI t.r:Int)<=W.Ai)))) (Qg λ_=>Qg λ_=>Qa _) ?_;cases hB:(((AI W.Ak:Int) != (AI t.r:Int))||(AG (W.Ai< -1)||AG ((AI t.r:Int)<=W.Ai)))with
 |true=>exact Qa _
 |false=>
 simp only[XY,decide_eq_false_iff_not]at hB;obtain⟨x,b1,b2⟩:=hB;have x:AI W.Ak=AI t.r:=gq;simp only[Vs];have O:∀(r:AA Int) (i:Nat) (u:AA (Int×Bool)),W.Ak.drop i=r->i<=AI W.Ak->(∀q,0<=q->Qd u q AD=(W.Ak.take i).any (λy=>y==q))->C9 (λn=>J6 n (DV t l) W) (i:Int) (bif H0 t W r i u then CJ.k ()else CJ.d AD):=by
  intro r
  induction r with
  |nil=>
   intro i u R hi _;have ab:AI W.Ak<=i:=Xq.1 R;refine Ei ?_;unfold J6;rw[QN (show¬(i:Int)<((DV t l).BT.length:Int)by show¬(i:Int)<(AI t.r:Int);omega)];exact Qa _
  |cons h r ih=>
   intro i u R hi Y;obtain⟨d,m⟩:=Qs om R;have aa:=d.lt';have G:t.r[i]?=AC (t.r[i]'om):=XL om;have M:∀q,(W.Ak.take (i+1)).any (λy=>y==q)=((W.Ak.take i).any (λy=>y==q)||(h==q)):=by
    grind
   have L:(AG ((i:Int)<((DV t l).BT.length:Int)))=true:=Yr (by show(i:Int)<(AI t.r:Int);omega);rw[oU];by_cases B:h= -1
   .subst B;refine Eu ?_ (ih (i+1) u m om (λq V=>gq));unfold J6;rw[L];simp only[Vr,d.ix,XK,d.nx]
    simp_all[Qa]
   .have hn:(h != -1)=true:=by grind
    have j:(h== -1)=false:=beq_false_of_ne B;rw[hn,VC];simp only[Vr];have f:Ev (λn=>(bif h<0 then AC AE else(bif ((DV t l).BM.length:Int)<=h then AC AE else(CN (DV t l).BM h).bind λF=>(CN (DV t l).BT (i:Int)).bind λE=>(bif (F.Af != E)then AC AE else AC (AG (W.Ai<(i:Int))))):AB Bool)) (AG (h<0)||(AG ((AI t.H:Int)<=h)||((((t.H[h.toNat]?).map (·.Af)).getD 0 != (t.r[i]?).getD 0)||AG (W.Ai<(i:Int))))):=by
     refine Qg λX=>Qg λq2=>?_;have X:=Vy X;have q2:¬(AI t.H:Int)<=h:=Vy q2;obtain⟨y,y1,y2⟩:=Kw (l:=t.H) (h:=h) om om;rw[y1,G];refine Qj y2 (Qj (Qf G) ?_);exact Qg λ_=>Qa _
    have split:FJ t W u i h=((AG (h<0)||(AG ((AI t.H:Int)<=h)||((((t.H[h.toNat]?).map (·.Af)).getD 0 != (t.r[i]?).getD 0)||AG (W.Ai<(i:Int)))))||Qd u h AD):=by
     unfold FJ
     grind
    rw[split];cases N:(AG (h<0)||(AG ((AI t.H:Int)<=h)||((((t.H[h.toNat]?).map (·.Af)).getD 0 != (t.r[i]?).getD 0)||AG (W.Ai<(i:Int)))))with
    |true=>
     rw[N]at f;refine Ei ?_;unfold J6;rw[L];simp only[Vr,d.ix,XK,j,Vs];exact Ea (v:=CJ.d (.d (.d AD))) (Ea f (Jk (Qa _))) (Qa _)
    |false=>
     rw[N]at f;simp only[XY,decide_eq_false_iff_not]at N;have h0:0<=h:=om;rw[Bool.false_or,Y h h0];have J:=Qsn W i om hW h;cases T:(W.Ak.take i).any (λy=>y==h)with
     |true=>
      rw[T,Vr]at J;refine Ei ?_;unfold J6;rw[L];simp only[Vr,d.ix,XK,j,Vs];exact Ea (v:=CJ.d (.d (.d AD))) (Ea f (Qo (Ea J (Qa _)))) (Qa _)
     |false=>
      rw[T,Vs]at J;refine Eu ?_ (ih (i+1) (QE u h AE) m om (λq V=>?_))
      .unfold J6;rw[L];simp only[Vr,d.ix,XK,j,Vs,d.nx];exact Ea (v:=CJ.k ()) (Ea f (Qo (Ea J (Qa _)))) (Qa _)
      .rw[M, <- Y q V];unfold Qd;rw[jX];by_cases e:q=h
       .subst e;simp
       .rw[Vu e,show(h==q)=AD from beq_false_of_ne λz=>e z.symm,Bool.or_false]
 have g:=(O W.Ak 0 [] rfl (XV _) (λq _=>rfl)).ev;cases hs:H0 t W W.Ak 0 []with
 |false=>
  rw[hs]at g;exact Ea g (Qa _)
 |true=>
  rw[hs]at g;refine Ea g ?_;have A6:Ev (λn=>iter (Ox n (DV t l) W) n 0) (bif l.all (λh=> !decide (W.Ai<h.AS))then CJ.k ()else CJ.d AD):=by
   refine Ye l (λh=> !decide (W.Ai<h.AS)) (CJ.d AD) (CJ.k ()) om (λi y d=>?_) ?_
   .unfold Ox;rw[show(DV t l).A6=l from rfl];simp only[d.lt,Vr,d.ix,XK,d.nx];cases AG (W.Ai<y.AS)<;>exact Qa _
   .unfold Ox;rw[show(DV t l).A6=l from rfl];simp only[Jd,Vs];exact Qa _
  have eh:l.all (λh=> !decide (W.Ai<h.AS))= !decide (W.Ai<t.hi):=by
   rw[XZ,Xs];simp only[Bool.not_eq_true',decide_eq_false_iff_not];rw[P];have:=Qn1 l W.Ai;constructor
   .intro h;have:=this.2 ⟨om,λy Q=>by have:=h y Q;omega⟩;omega
   .intro h y Q;have:=(this.1 om).2 y Q;omega
  rw[eh]at A6;refine Ea A6 ?_;cases AG (W.Ai<t.hi)<;>exact Qa _
set_option maxRecDepth 10000
section
variable {c:CE} {k:CG} {s:AP} {e:Int} {x:AA CQ} {l:AA AY} {t:Cj}
theorem Qol(B:Dr c k s e x l t)(E:Ev (λn=>D2 n c) (CO c))(kw:Dy k){y:Ud}(hx:t.seg y){a b:Int}(Y:F7 a)(T:F7 b)(aa:a<=b):∃er,Ev (λn=>LH n t.c t.k y.AW {Lo:=a,Hi:=b}) (IW t.c t.k y.AW a b,er):=by
 have ok:=B.ok;have P:t.c=c:=by rw[B.is];rfl
 have ab:t.k=k:=by rw[B.is];rfl
 obtain⟨j,j1,j2⟩:=hx;have hs:=ok.clk.dims.segs;have start:∀{v:CK×Int},Ev (λn=>(bif (y.AW==(-1))then AC ({Lo:=a,Hi:=i64.wrap (b+t.c.AT.A0):CK},0)else(CN t.k.AQ y.AW).bind λf=>(G4 n t.c f.Af).bind λG=>(bif (!G)then AC ({Lo:=0,Hi:=0:CK},1)else(Kz n t.c f a).bind λH=>(CN t.k.BE (i64.wrap (y.AW+1))).bind λN=>(CN N 0).bind λJ=>(Kz n t.c f b).bind λF=>(CN t.k.BE 0).bind λM=>(CN M (i64.wrap (y.AW+1))).bind λL=>AC ({Lo:=i64.wrap ((i64.wrap (a+H.Lo))-J),Hi:=i64.wrap ((i64.wrap (b+F.Hi))+L):CK},0)):AB (CK×Int))) v->Ev (λn=>LH n t.c t.k y.AW {Lo:=a,Hi:=b}) v:=by
  intro v hv;have rf:Ev (λn=>D2 n t.c) 0:=by rw[P];rw[B.cE]at E;exact E
  have ck:Ev (λn=>LF n t.k) 0:=by
   have:=tJ k kw;rw[B.clk]at this
   grind
  unfold LH;refine Ea rf (Ea (v:=0) (Jk (Ea ck (Qa _))) (Qo (Ea (v:=AD) ?_ (Qo hv))));refine YS (QN om) (YS (QN om) (Ea (jo a) ?_));rw[F4.2 Y];refine Qo (Ea (jo b) ?_);rw[F4.2 T]
  simp_all[Qa,QN]
 unfold IW;by_cases d:y.AW<0
 .rw[Yr d];exact⟨_,start (Yx gq (Qa _))⟩
 rw[QN d];simp only[Vs];have g:(y.AW== -1)=false:=gq;obtain⟨q,V,R⟩:=Kw (l:=t.k.AQ) (h:=y.AW) om om;rw[V];simp only;cases O:GH t.c q.Af with
 |false=>exact⟨_,start (YS g (Qj R (Ea ((od t.c q.Af).eq O) (Yx rfl (Qa _)))))⟩
 |true=>
  obtain⟨i,m,W,Q⟩:=sY O;have kd:CU t.c q.Af=m.AV:=by simp_all[CU]
  have X:=ok.clk.anc q (VK V);obtain⟨g1,g2⟩:=ok.clk.dims.get (i:=y.AW.toNat+1) (j:=0) om om;obtain⟨g3,g4⟩:=ok.clk.dims.get (i:=0) (j:=y.AW.toNat+1) om om;have w:i64.wrap (y.AW+1)=((y.AW.toNat+1:Nat):Int):=by rw[Dj];omega
  refine⟨0,start (YS g (Qj R (Ea ((od t.c q.Af).eq O) (YS rfl (Ea (oc ok.crs Q W X Y) (Qj (v:=t.k.BE[y.AW.toNat+1]?.getD []) (by rw[w];exact Qf g1) (Qj (v:=DQ t.k (y.AW.toNat+1) 0) (Qf (i:=0) g2) (Ea (oc ok.crs Q W X T) (Qj (v:=t.k.BE[0]?.getD []) (Qf (i:=0) g3) (Qj (v:=DQ t.k 0 (y.AW.toNat+1)) (by rw[w];exact Qf g4) ?_))))))))))⟩;rw[kd];exact Qa _
theorem Qoj(B:Dr c k s e x l t)(T:Ev (λn=>D2 n c) (CO c))(gd:CO c=0->Dd c)(kw:Dy k)(h8:AI t.r<=8)(hl:AI l<=1048576){W:CW}(BM:∀h∈W.Ak,Fs t h)(ax:AI W.Ak=AI t.r)(a3:W.Ai<(AI t.r:Int)):
  ∀(r:AA Int) (i:Nat) (st:Uf),W.Ak.drop i=r->i<=AI W.Ak->fx t W i st->0<=st.row->st.row<=(i:Int)->C9 (λn=>IE n (DV t l) W) (st.row,st.Bb,(i:Int)) (bif I7 t W r i st then CJ.k ()else CJ.d AD):=by
 have ok:=B.ok;have ar:t.c=c:=by rw[B.is];rfl
 have am:t.k=k:=by rw[B.is];rfl
 have hH:t.H=x:=by rw[B.is];rfl
 have hm:t.m=(F8 l).1:=by rw[B.is];rfl
 have P:FH t.k=true:=by rw[am];exact B.clk
 have dm:=jk P;have a2:=dm.segs;have hI:∀i:Nat,Fs t ((W.Ak[i]?).getD (-1)):=by
  intro i;cases e:W.Ak[i]? with
  |none=>exact .inl sq
  |some y=>grind
 intro r
 induction r with
 |nil=>
  intro i st hr hi _ _ _;have a4:AI W.Ak<=i:=Xq.1 hr;refine Ei ?_;unfold IE;simp only[dF ((i:Int)<=W.Ai),Vs];exact Qa _
 |cons h r ih=>
  intro i st hr hi hK h0 a0;obtain⟨R,aa⟩:=Qs om hr;have av:=R.lt';rw[oW];by_cases hL:W.Ai<(i:Int)
  .rw[Yr hL];refine Ei ?_;unfold IE;simp only[dF ((i:Int)<=W.Ai),Vs];exact Qa _
  rw[QN hL,Vs];have ac:kv t W i=DE t (i:Int) h:=by unfold kv;rw[R.get];rfl
  have M:=pF B T hl BM (i:=i) av;have go:AG ((i:Int)<=W.Ai)=true:=Yr om;unfold C8;rw[<- ac];cases hk:(kv t W i).2 with
  |false=>
   rw[hk]at M;simp only[Vs]at M;simp only[Xh,Vr];have w:i64.wrap (st.row+1)=st.row+1:=Dj;by_cases hM:st.row+1<=t.c.AT.BK
   .rw[Yr hM];simp only[Xg,Vs];refine Eu ?_ (ih (i+1) {st with row:=st.row+1} aa om ?_ gq gq)
    .unfold IE;simp only[go,Vr];refine Ea (v:=CJ.k (st.row+1,st.Bb)) (Ea M (Yx rfl ?_)) ?_
     .rw[w];exact YS (QN (by show¬t.c.AT.BK<st.row+1;omega)) (Qa _)
     .simp only[R.nx];exact Qa _
    .rcases hK with⟨Y,X⟩|⟨J,Y,X,i3,i4,i5⟩
     .exact .inl ⟨Y,λj hj=>(VE j i).elim (X j) λz=>(show i=j by omega)▸hk⟩
     .exact .inr ⟨J,om,X,i3,i4,λj h1 hj=>(VE j i).elim (i5 j h1) λz=>(show i=j by omega)▸hk⟩
   .rw[QN hM];simp only[Xh,Vr,Vs];refine Ei ?_;unfold IE;simp only[go,Vr];refine Ea (v:=CJ.d (.d (.d AD))) (Ea M (Yx rfl ?_)) (Qa _);rw[w];exact Yx (Yr (by show t.c.AT.BK<st.row+1;omega)) (Qa _)
  |true=>
   rw[hk]at M;simp only[Vr]at M;simp only[Xg,Vs];obtain⟨z1,z2,z3⟩:=wG B (hI i) hk;obtain⟨jb,eb,lb⟩:=fJ ok (hI i) hk;have q:Ev (λn=>((bif 0<=st.Bb then(IM n (DV t l) W st.Bb).bind λd=>(CN (DV t l).k.BE (i64.wrap ((kv t W i).1.AW+1))).bind λaj=>(CN aj (i64.wrap (d.1+1))).bind λG=>(CN (DV t l).k.BE (i64.wrap (d.1+1))).bind λab=>(CN ab (i64.wrap ((kv t W i).1.AW+1))).bind λE=>(CN (DV t l).BY st.Bb).bind λad=>(CN ad (i:Int)).bind λg=>(NM n ({Lo:=i64.wrap ((i64.wrap ((kv t W i).1.Ay.Lo-d.2.1.Hi))-G),Hi:=i64.wrap ((i64.wrap ((kv t W i).1.Ay.Hi-d.2.1.Lo))+E):CK}) ({Lo:=g.Lo,Hi:=g.Hi:CK})).bind λay=>(bif (!(AG ((if(i64.wrap ((i64.wrap ((kv t W i).1.Ay.Lo-d.2.1.Hi))-G))<g.Lo then g.Lo else(i64.wrap ((i64.wrap ((kv t W i).1.Ay.Lo-d.2.1.Hi))-G)))<=(if g.Hi<(i64.wrap ((i64.wrap ((kv t W i).1.Ay.Hi-d.2.1.Lo))+E))then g.Hi else(i64.wrap ((i64.wrap ((kv t W i).1.Ay.Hi-d.2.1.Lo))+E))))))then AC (.d (.d (.d (.d AD))))else AC (.k ()))else AC (.k ())):AB (CJ Unit (CJ (Int×Int) (CJ (Int×Int×Int) (CJ Unit Bool))))))
     (bif AG (0<=st.Bb)&& !Dl t st.Bt st.Bb (kv t W i).1 (i:Int)then .d (.d (.d (.d AD)))else .k ()):=by
    rcases hK with⟨Y,X⟩|⟨J,Y,X,i3,i4,i5⟩
    .rw[Y];exact Qa _
    .rw[X,i4,dT ((0:Int)<=(J:Int)),VC];obtain⟨y1,y2,y3⟩:=wG B (hI J) i3;obtain⟨ja,ea,la⟩:=fJ ok (hI J) i3;have ca:=pF B T hl BM (i:=J) om;rw[i3]at ca;simp only[Vr]at ca;change (kv t W J).1.AW+1=(ja:Int)at ea;change (kv t W i).1.AW+1=(jb:Int)at eb;have D:=Qqv P (a:=(kv t W J).1) (b:=(kv t W i).1) ea la eb lb y1 y2 y3 z1 z2 z3;have bv:HA t J i=DH t (J:Int) (i:Int):=by
      unfold HA;rw[Vu om,Vv Y]
     obtain⟨b1,b2⟩:=nR t (i:=J) (j:=i) om om;obtain⟨g1,g2⟩:=dm.get lb la;obtain⟨g3,g4⟩:=dm.get la lb;unfold Dl;rw[D, <- bv];refine Jk (Ea ca ?_);rw[ea,eb,Qz (n:=(ja:Int)) om om,Qz (n:=(jb:Int)) om om];refine Qj (Qf g1) (Qj (Qf g2) (Qj (Qf g3) (Qj (Qf g4) (Qj b1 (Qj b2 ?_)))));refine Ea (v:=()) (Qa _) ?_;unfold KS;refine YQ (λ_=>Qa _) λ_=>Qa _
   have V:=uz (DV t l) hl (i:Int);rw[show(DV t l).A6=l from rfl]at V;have gm:GM t.m (i:Int)=(l.find? λh=>h.AS==(i:Int)).map λh=>{AW:= -1,Ay:={Lo:=h.Lo,Hi:=h.Hi}}:=by rw[hm];exact jR l _
   have aw:∀N:AY×Bool,(match l.find? (λh=>h.AS==(i:Int))with|some h=>(h,AE)|none=>(Uv,AD))=N->∃L,Ev (λn=>(bif N.2 then(CN W.Ak (i:Int)).bind λaf=>AC (AG (0<=af))else AC AD:AB Bool)) L/\Ev (λn=>((bif L then(CN W.Ak (i:Int)).bind λah=>(CN (DV t l).BM ah).bind λF=>(IL n (DV t l) F).bind λae=>(LH n (DV t l).c (DV t l).k ae ({Lo:=F.BD,Hi:=F.Ai:CK})).bind λf=>(NM n ({Lo:=f.1.Lo,Hi:=f.1.Hi:CK}) ({Lo:=N.1.Lo,Hi:=N.1.Hi:CK})).bind λaz=>(bif (!(AG ((if f.1.Lo<N.1.Lo then N.1.Lo else f.1.Lo)<=(if N.1.Hi<f.1.Hi then N.1.Hi else f.1.Hi))))then AC (.d (.d (.d (.d AD))))else AC (.k ()))else AC (.k ())):AB (CJ Unit (CJ (Int×Int) (CJ (Int×Int×Int) (CJ Unit Bool))))))
     (bif AG (0<=h)&& !Fu t h (i:Int)then .d (.d (.d (.d AD)))else .k ()):=by
    intro N O;unfold Fu;unfold Qd;rw[UK,gm];cases hf:l.find? (λh=>h.AS==(i:Int))with
    |none=>
     rw[hf]at O;subst O;refine⟨AD,Qa _,(Qa _).eq ?_⟩;simp
    |some h'=>
     rw[hf]at O;subst O;refine⟨AG (0<=h),Jk (Qj R.ix (Qa _)),?_⟩;by_cases Q:0<=h
     .rw[Yr Q,VC];have ak:=hI i;rw[R.get,Option.getD_some]at ak;have ao:h.toNat<AI t.H:=by rcases ak with z|z<;>omega
      obtain⟨y,y1,y2⟩:=Kw (l:=t.H) Q ao;obtain⟨_,T2⟩:=fQ B.tm;obtain⟨z,aq,an⟩:=T2 _ _ (by rw[<- hH];exact y1);rw[y1,aq];rw[<- ar, <- am]at an;have hy:=ok.hit _ _ y1;have sg:=oL (DV t l) (by show AI t.k.AQ<=_;omega) hy an;obtain⟨er,tr⟩:=Qol B T kw (ok.sg z (VK aq)) hy.fi hy.la hy.le;refine Jk (Qj R.ix (Qj y2 (Ea sg (Ea tr (Ea (v:=()) (Qa _) ?_)))));simp only[Xj,Option.isSome_some,Xg,Vs,Option.getD_some];unfold KS;exact YQ (λ_=>Qa _) λ_=>Qa _
     .rw[QN Q];exact Qa _
   have ai:G8 t st (i:Int) h=((AG (0<=h)&& !Fu t h (i:Int))||(AG (0<=st.Bb)&& !Dl t st.Bt st.Bb (kv t W i).1 (i:Int))):=by
    unfold G8;rw[<- ac]
   rw[ai];cases eA:(AG (0<=st.Bb)&& !Dl t st.Bt st.Bb (kv t W i).1 (i:Int))with
   |true=>
    rw[eA]at q;simp only[Vr]at q;simp only[Bool.or_true,Vr,Xh,Vs];refine Ei ?_;unfold IE;simp only[go,Vr];refine Ea (v:=CJ.d (.d (.d AD))) (Ea M (YS rfl (Ea q (Qa _)))) (Qa _)
   |false=>
    rw[eA]at q;simp only[Vs]at q;rw[Bool.or_false];obtain⟨L,a1,ag⟩:=aw _ rfl;cases eB:(AG (0<=h)&& !Fu t h (i:Int))with
    |true=>
     rw[eB]at ag;simp only[Vr]at ag;simp only[Vr,Xh,Vs];refine Ei ?_;unfold IE;simp only[go,Vr];refine Ea (v:=CJ.d (.d (.d AD))) (Ea M (YS rfl (Ea q (Ea V (Ea a1 (Ea ag (Qa _))))))) (Qa _)
    |false=>
     rw[eB]at ag;simp only[Vs]at ag;simp only[Vs,Xg];refine Eu ?_ (ih (i+1) {Bb:=(i:Int),Bt:=(kv t W i).1,row:=0} aa om (.inr ⟨i,om,rfl,hk,rfl,λj h1 h2=>om⟩) (by show(0:Int)<=0;omega) (by show(0:Int)<=_;omega));unfold IE;simp only[go,Vr];refine Ea (v:=CJ.k (0,(i:Int))) (Ea M (YS rfl (Ea q (Ea V (Ea a1 (Ea ag (Qa _))))))) ?_;simp only[R.nx];exact Qa _
theorem Qqk(m:Dr c k s e x l t)(B:Ev (λn=>D2 n c) (CO c))(P:CO c=0->Dd c)(L:Dy k)(J:AI t.r<=8)(hl:AI l<=1048576){W:CW}(G:AI W.Ak<=1048576):Ev (λn=>Rj n (DV t l) W) (Dq t W):=by
 have ok:=m.ok;have j:t.hi=(F8 l).2:=by rw[m.is];rfl
 have M:=Qmh ok j hl G;have O:=QjX W t.H G (by have:=ok.hl;omega);unfold Rj;have Q:Dq t W=bif !Fq t W||AG (t.c.AT.BF<G7 W t.H 0 0)then AD else I7 t W W.Ak 0 Ns:=by
  unfold Dq F9 Fq;rw[nM]
  grind
 rw[Q];refine Ea (v:= !Fq t W||AG (t.c.AT.BF<G7 W t.H 0 0)) ?_ ?_
 .refine Ea M ?_;exact Qg λ_=>Ea O (Qa _)
 cases g:(!Fq t W||AG (t.c.AT.BF<G7 W t.H 0 0))with
 |true=>exact Qa _
 |false=>
 simp only[XY,Bool.not_eq_false']at g;obtain⟨hs,_⟩:=g;unfold Fq at hs;cases E:(((AI W.Ak:Int) != (AI t.r:Int))||(AG (W.Ai< -1)||AG ((AI t.r:Int)<=W.Ai)))with
 |true=>grind
 |false=>
 rw[E,Vs]at hs;simp only[XY,decide_eq_false_iff_not]at E;obtain⟨d,R,T⟩:=E;have d:AI W.Ak=AI t.r:=gq;have f:∀h∈W.Ak,Fs t h:=by
  cases V:H0 t W W.Ak 0 []with
  |false=>grind
  |true=>
  have N:∀(r:AA Int) (i:Nat) (u:AA (Int×Bool)),H0 t W r i u=AE->∀h∈r,Fs t h:=by
   intro r
   induction r with
   |nil=>simp
   |cons y r X=>
    intro i u q h F;rw[oU]at q;cases g:((y != -1)&&FJ t W u i y)with
    |true=>grind
    |false=>
     rw[g,Vs]at q;rcases X9.1 F with rfl|F
     .exact(o6 g).1
     grind
  grind
 have lp:=(Qoj m B P L J hl f d om W.Ak 0 Ns rfl (XV _) (l7 t W) (by show(0:Int)<=0;omega) (by show(0:Int)<=0;omega)).ev;refine Qo (Ea lp ?_)
 grind[Qa]
theorem oa(E:Ev (λn=>GA n c) (CO c))(d:Ev (λn=>D2 n c) (CO c))(g:CO c=0->Dd c)(j:Dy k)(hx:AI x<=1000)(hl:AI l<=1048576)(q:∀t,DG c k s e x l=.inr t->AI t.r<=8){W:CW}(y:AI W.Ak<=1048576):Ev (λn=>M8 n c k s e x l W) (Gy c k s e x l W):=by
 unfold M8 Gy;refine Ea (Qom d g j s e x hx l hl) ?_;cases h:DG c k s e x l with
 |inl v=>
  have:=fP h;exact Yx (by simpa[dU,bne]using this) (Qa _)
 |inr t=>
  have f:=Sn E g j hx h;have F:t.c=c:=by rw[f.is];rfl
  have hk:t.k=k:=by rw[f.is];rfl
  have B:t.H=x:=by rw[f.is];rfl
  have m:=Qqk f d g j (q t h) hl y;unfold DV at m;rw[F,hk,B]at m;refine Qo (Ea (wi f d g (q t h)) (Ea m ?_));show Ev _ (bif Dq t W then(0:Int)else 190);cases Dq t W with
  |true=>exact YS rfl (Qa _)
  |false=>exact Yx rfl (Qa _)
end
set_option maxRecDepth 10000
theorem Qqw{t:Cj}{W:CW}{p:Nat}(G:(p:Int)<=W.Ai){s s':Int}{x x':CK}(h:Cr t W p s x)(B:Cr t W p s' x'):s=s'/\x=x':=by
 cases h with
 |back i F hk g=>
  cases B with
  |back q j d y=>
   grind
  |fwd f q j m d y=>grind
  |none f=>grind
 |fwd E i F H hk g=>
  cases B with
  |back q j d y=>grind
  |fwd f q j m d y=>
   grind
  |none f=>grind
 |none E=>
  cases B with
  |back q j d y=>grind
  |fwd f q j m d y=>grind
  |none f=>simp
section
variable {c:CE} {k:CG} {s:AP} {e:Int} {x:AA CQ} {l:AA AY}
theorem Qmj{t:Cj}(ty:Ev (λn=>GA n c) (CO c))(O:Ev (λn=>D2 n c) (CO c))(gd:CO c=0->Dd c)(kw:Dy k)(hx:AI x<=1000)(hl:AI l<=1048576)(h8:∀t,DG c k s e x l=.inr t->AI t.r<=8)(X:DG c k s e x l=.inr t){W:CW}(hW:AI W.Ak<=1048576)(P:Dq t W=AE){p:Nat}(hp:(p:Int)<=W.Ai):
  ∃sg sp,Ev (λn=>Kd n c k s e x l W (p:Int)) (sg,sp,0)/\Cr t W p sg sp:=by
 have N:=Sn ty gd kw hx X;have ok:=N.ok;have hc:t.c=c:=by rw[N.is];rfl
 have hk:t.k=k:=by rw[N.is];rfl
 have hH:t.H=x:=by rw[N.is];rfl
 have q:=P;unfold Dq at q;cases T:F9 t W with
 |true=>grind
 |false=>
 rw[T,Vs]at q;unfold F9 at T;simp only[XY,decide_eq_false_iff_not]at T;obtain⟨L,b1,b2,b3,b4⟩:=T;have L:AI W.Ak=AI t.r:=gq;have rl:=ok.rl;have BM:=e7 q;have J:∀i:Nat,i<AI W.Ak->Ev (λn=>IM n ({c:=c,k:=k,BM:=x,A6:=l,BT:=t.r,BY:=Gz t}:CI) W (i:Int)) (bif (kv t W i).2 then((kv t W i).1.AW,(kv t W i).1.Ay,AE)else(-1,{Lo:=0,Hi:=0},AD)):=by
  grind[pF,DV]
 have bk:∀i:Nat,i<=p->HA t i p=DH t (i:Int) (p:Int):=by
  intro i hi;unfold HA
  grind
 have bf:∀i:Nat,p<=i->HA t p i=DH t (p:Int) (i:Int):=by
  intro i hi;unfold HA
  grind
 let I:CI:={c:=c,k:=k,BM:=x,A6:=l,BT:=t.r,BY:=Gz t}
 have up:(∀j,j<=p->(kv t W j).2=AD)->∀(m i:Nat),p<=i->W.Ai.toNat+1-i<=m->(∀j,p<j->j<i->(kv t W j).2=AD)->
   (∃d,p<d/\(d:Int)<=W.Ai/\(kv t W d).2=AE/\(∀j,p<j->j<d->(kv t W j).2=AD)/\C9 (λn=>IF n W (p:Int) I) (i:Int) (CJ.d ((kv t W d).1.AW,{Lo:=i64.wrap ((kv t W d).1.Ay.Lo-(DH t p d).Hi),Hi:=i64.wrap ((kv t W d).1.Ay.Hi-(DH t p d).Lo)},0)))\/
   ((∀j,p<j->(j:Int)<=W.Ai->(kv t W j).2=AD)/\C9 (λn=>IF n W (p:Int) I) (i:Int) (CJ.k ())):=by
  intro hb m
  induction m with
  |zero=>
   intro i hi hm E;refine .inr ⟨λj y G=>E j y om,Ei ?_⟩;unfold IF;simp only[dF ((i:Int)<=W.Ai),Vs];exact Qa _
  |succ m ih=>
   intro i hi hm E;by_cases R:(i:Int)<=W.Ai
   case neg=>
    refine .inr ⟨λj y G=>E j y om,Ei ?_⟩;unfold IF;simp only[QN R,Vs];exact Qa _
   have F:=J i om;cases f:(kv t W i).2 with
   |true=>
    have V:p<i:=(VE p i).elim id λz=>by rw[hb i z]at f;cases f
    rw[f,Vr]at F;obtain⟨g,h⟩:=nR t (i:=p) (j:=i) om om;refine .inl ⟨i,V,R,f,E,Ei ?_⟩;unfold IF;simp only[Yr R,Vr];refine Ea F (Jk (Qj g (Qj h ?_)));rw[bf i om];exact Qa _
   |false=>
    rw[f,Vs]at F;have B:Ev (λn=>IF n W (p:Int) I (i:Int)) (CJ.k ((i+1:Nat):Int)):=by
     unfold IF;simp only[Yr R,Vr];refine Ea F (Qo ?_);rw[QL om];exact Qa _
    rcases ih (i+1) om om (λj y G=>(VE j i).elim (E j y) λz=>(show i=j by omega)▸f)with⟨d,g,h,Q,M,g5⟩|⟨g,h⟩
    .exact .inl ⟨d,g,h,Q,M,Eu B g5⟩
    .exact .inr ⟨g,Eu B h⟩
 have down:∀(m:Nat),m<=p+1->(∀j,m<=j->j<=p->(kv t W j).2=AD)->
   (∃d,d<=p/\(kv t W d).2=AE/\(∀j,d<j->j<=p->(kv t W j).2=AD)/\C9 (λn=>Ij n c k x l W (p:Int)) (t.r,Gz t,(m:Int)-1) (CJ.d ((kv t W d).1.AW,{Lo:=i64.wrap ((kv t W d).1.Ay.Lo+(DH t d p).Lo),Hi:=i64.wrap ((kv t W d).1.Ay.Hi+(DH t d p).Hi)},0)))\/
   ((∀j,j<=p->(kv t W j).2=AD)/\C9 (λn=>Ij n c k x l W (p:Int)) (t.r,Gz t,(m:Int)-1) (CJ.k I)):=by
  intro m
  induction m with
  |zero=>
   intro _ E;refine .inr ⟨λj hj=>E j (XV _) hj,Ei ?_⟩;unfold Ij;simp only[QN (show¬(0:Int)<=((0:Nat):Int)-1 by omega),Vs];exact Qa _
  |succ m ih=>
   intro hm E;rw[show((m+1:Nat):Int)-1=(m:Int)by omega];have F:=J m om;cases f:(kv t W m).2 with
   |true=>
    rw[f,Vr]at F;obtain⟨g,h⟩:=nR t (i:=m) (j:=p) om om;refine .inl ⟨m,om,f,λj y G=>E j y G,Ei ?_⟩;unfold Ij;simp only[dT ((0:Int)<=(m:Int)),Vr];refine Ea F (Jk (Qj g (Qj h ?_)));rw[bk m om];exact Qa _
   |false=>
    rw[f,Vs]at F;have B:Ev (λn=>Ij n c k x l W (p:Int) (t.r,Gz t,(m:Int))) (CJ.k (t.r,Gz t,(m:Int)-1)):=by
     unfold Ij;simp only[dT ((0:Int)<=(m:Int)),Vr];refine Ea F (Qo ?_);rw[Qz (n:=(m:Int)-1) om om];exact Qa _
    rcases ih om (λj y G=>(Nat.eq_or_lt_of_le y).elim (λz=>z▸f) λz=>E j z G)with⟨d,g,h,Q,M⟩|⟨g,h⟩
    .exact .inl ⟨d,g,h,Q,Eu B M⟩
    .exact .inr ⟨g,Eu B h⟩
 have Ht:=oa ty O gd kw hx hl h8 hW;have ac:Gy c k s e x l W=0:=by
  unfold Gy;rw[X];simp only[P,Vr]
 rw[ac]at Ht;have start:∀v,Ev (λn=>(iter (Ij n c k x l W (p:Int)) n (t.r,Gz t,(p:Int)):AB (CJ CI (Int×CK×Int))).bind λaa=>match aa with|.k sb20=>((iter (IF n W (p:Int) sb20) n (p:Int):AB (CJ Unit (Int×CK×Int))).bind λab=>match ab with|.k sb42=>(AC ((-1),{Lo:=(-1099511627776),Hi:=1099511627776:CK},0))|.d sb42=>AC sb42)|.d sb20=>AC sb20) v->Ev (λn=>Kd n c k s e x l W (p:Int)) v:=by
  intro v hv;unfold Kd;refine Ea Ht (Qo (Ea (v:=AD) ?_ (Qo (Ea (wi N O gd (h8 t X)) hv))));exact YS (QN om) ((Qa _).eq (QN om))
 have hd:=down (p+1) (XU _) (λj y G=>om);rw[show((p+1:Nat):Int)-1=(p:Int)by omega]at hd;rcases hd with⟨d,g,h,Q,M⟩|⟨g,h⟩
 .exact⟨_,_,start _ (Ea M.ev (Qa _)),Cr.back d g h Q⟩
 .rcases up g (W.Ai.toNat+1) p (XU _) om (λj y G=>om)with⟨d,u1,Y,u3,u4,u5⟩|⟨u1,Y⟩
  .exact⟨_,_,start _ (Ea h.ev (Ea u5.ev (Qa _))),Cr.fwd g d u1 Y u3 u4⟩
  .exact⟨_,_,start _ (Ea h.ev (Ea Y.ev (Qa _))),Cr.none λj hj=>(VE p j).elim (λz=>u1 j z hj) (g j)⟩
theorem Qkd(F:Ev (λn=>GA n c) (CO c))(G:Ev (λn=>D2 n c) (CO c))(y:CO c=0->Dd c)(E:Dy k)(hx:AI x<=1000)(hl:AI l<=1048576)(N:∀t,DG c k s e x l=.inr t->AI t.r<=8){W:CW}(J:AI W.Ak<=1048576)(p:Int):
  ∃v,Ev (λn=>HH n c k s e x l W p) v/\Ev (λn=>Kd n c k s e x l W p) v:=by
 have Ht:=oa F G y E hx hl N J;have d:=eo F y E s e x hx l hl;cases g:DG c k s e x l with
 |inl v=>
  have hv:=fP g;have j:Gy c k s e x l W=v:=by unfold Gy;rw[g]
  rw[j]at Ht;rw[g]at d;have M:(v != 0)=true:=gq;refine⟨(0,{Lo:=0,Hi:=0},v),?_,?_⟩
  .unfold HH;exact Ea d (Yx M (Qa _))
  .unfold Kd;exact Ea Ht (Yx M (Qa _))
 |inr t=>
  have L:=Sn F y E hx g;have ok:=L.ok;have R:t.c=c:=by rw[L.is];rfl
  have hk:t.k=k:=by rw[L.is];rfl
  have Q:t.H=x:=by rw[L.is];rfl
  have B:=ir ok W J;rw[R,hk,Q]at B;have j:Gy c k s e x l W=bif Dq t W then 0 else 190:=by unfold Gy;rw[g]
  rw[j]at Ht;rw[g]at d;cases f:Dq t W with
  |false=>
   rw[f]at B Ht;refine⟨(0,{Lo:=0,Hi:=0},190),?_,?_⟩
   .unfold HH;exact Ea d (Ea B (Yx rfl (Qa _)))
   .unfold Kd;exact Ea Ht (Yx rfl (Qa _))
  |true=>
   rw[f]at B Ht;by_cases h:0<=p/\p<=W.Ai
   .obtain⟨q,O⟩:∃q:Nat,p=(q:Int):=⟨p.toNat,om⟩;subst O;obtain⟨X,x1,e1,c1⟩:=Qou F y E hx hl g J f (p:=q) h.2;obtain⟨T,Y,V,P⟩:=Qmj F G y E hx hl N g J f (p:=q) h.2;obtain⟨rfl,rfl⟩:=Qqw h.2 c1 P
    grind
   .have m:(AG (p<0)||AG (W.Ai<p))=true:=by
     grind
    refine⟨(0,{Lo:=0,Hi:=0},1),?_,?_⟩
    .unfold HH;exact Ea d (Ea B (YS rfl (Ea (v:=AE) (Et (Qg λ_=>Qa _) m) (Qa _))))
    .unfold Kd;exact Ea Ht (YS rfl (Ea (v:=AE) (Et (Qg λ_=>Qa _) m) (Qa _)))
end
def Tt{α:Type}(f:Nat->AB α)(Q:α->Prop):Prop:=∃v,Ev f v/\Q v
section
variable {α β S B:Type} {f g:Nat->AB α} {P Q:α->Prop} {R:β->Prop}
theorem Tt.p{v:α}(h:Q v):Tt (λ_=>AC v) Q:=⟨v,Qa v,h⟩
theorem Tt.b{k:Nat->α->AB β}(h:Tt f P)(q:∀v,P v->Tt (λn=>k n v) R):Tt (λn=>(f n).bind (k n)) R:=by
 obtain⟨v,e,p⟩:=h;obtain⟨w,d,r⟩:=q v p;exact⟨w,Ea e d,r⟩
theorem Qp{k:Nat->α->AB β}(h:Tt f λ_=>True)(q:∀v,Tt (λn=>k n v) R):Tt (λn=>(f n).bind (k n)) R:=Tt.b h λv _=>q v
theorem Tt.c{c:Bool}(a:c=AE->Tt f Q)(b:c=AD->Tt g Q):Tt (λn=>bif c then f n else g n) Q:=by
 cases c with
 |true=>exact a rfl
 |false=>exact b rfl
theorem Tt.z{v:α}(h:Q v:=by exact trivial):Tt (λ_=>AC v) Q:=Tt.p h
theorem Tt.k{c:Bool}{v:α}(b:c=AD->Tt g Q)(h:Q v:=by exact trivial):Tt (λn=>bif c then AC v else g n) Q:=Tt.c (λ_=>Tt.p h) b
theorem Yv{c:Bool}{v:α}(b:Tt g Q)(h:Q v:=by exact trivial):Tt (λn=>bif c then AC v else g n) Q:=Tt.c (λ_=>Tt.p h) λ_=>b
theorem Tt.n{c:Bool}{v:α}(b:c=AD->Tt g Q)(h:Q v:=by exact nofun):Tt (λn=>bif c then AC v else g n) Q:=Tt.c (λ_=>Tt.p h) b
theorem Tt.w(h:Tt f P)(q:∀v,P v->Q v):Tt f Q:=let⟨v,e,p⟩:=h;⟨v,e,q v p⟩
theorem Tt.any(h:Tt f P):Tt f λ_=>True:=h.w λ_ _=>trivial
theorem Tt.e{v:α}(h:Ev f v)(q:Q v):Tt f Q:=⟨v,h,q⟩
theorem Tt.o{o:AB α}{v:α}(h:o=AC v)(q:Q v):Tt (λ_=>o) Q:=⟨v,Ez h,q⟩
theorem Tt.s(h:Tt (λn=>f (n+1)) Q):Tt f Q:=let⟨v,e,q⟩:=h;⟨v,Yy e,q⟩
theorem Tt.i{l:AA α}{i:Int}(d:0<=i)(f:i<(AI l:Int)):Tt (λ_=>CN l i) (λx=>x∈l):=by
 obtain⟨k,rfl⟩:=Int.eq_ofNat_of_zero_le d;have h:k<AI l:=om;exact⟨l[k],Ez (Qf sq),Vg h⟩
theorem Tt.a{l m:AA α}(h:AI l+AI m<=4294967296):Tt (λ_=>app l m) (λx=>x=l++m):=Tt.o (Sk l m h) rfl
theorem Tt.sl{l:AA α}{i j:Int}(g:0<=i)(f:i<=j)(h:j<=(AI l:Int)):Tt (λ_=>Do l i j) (λx=>(AI x:Int)=j-i/\ ∀y∈x,y∈l):=by
 refine Tt.o (v:=(l.take j.toNat).drop i.toNat) ?_ ⟨?_,λy d=>List.mem_of_mem_take (List.mem_of_mem_drop d)⟩
 .unfold Do
  grind
 grind
theorem Tt.set{l:AA α}{i:Int}{x:α}(f:0<=i)(d:i<(AI l:Int)):Tt (λ_=>JF l i x) (λm=>AI m=AI l/\ ∀y∈m,y=x\/y∈l):=by
 refine Tt.o (v:=l.set i.toNat x) ?_ gq;unfold JF;simp[f,d]
abbrev J2(I:S->Prop)(m:S->Nat)(s:S)(Q:B->Prop):CJ S B->Prop
 |.k s'=>I s'/\m s'<m s
 |.d b=>Q b
theorem Tt.l{step:Nat->S->AB (CJ S B)}{Q:B->Prop}(I:S->Prop)(m:S->Nat)(h:∀s,I s->Tt (λn=>step n s) (J2 I m s Q))(s:S)(hs:I s):Tt (λn=>iter (step n) n s) Q:=by
 have d:∀k s,m s<=k->I s->∃b,C9 step s b/\Q b:=by
  intro k
  induction k with
  |zero=>
   intro s hk hs;obtain⟨c,e,q⟩:=h s hs
   grind[C9.done]
  |succ k f=>
   intro s hk hs;obtain⟨c,e,q⟩:=h s hs
   grind[C9.cont,C9.done]
 obtain⟨b,e,q⟩:=d (m s) s (XU _) hs;exact⟨b,e.ev,q⟩
abbrev Ka(pk:β->Int->S)(I:Nat->β->Prop)(i:Nat)(Q:B->Prop):CJ S B->Prop
 |.k s=>∃a,s=pk a ((i+1:Nat):Int)/\I (i+1) a
 |.d b=>Q b
theorem QX{step:Nat->S->AB (CJ S B)}{Q:B->Prop}(l:AA α)(d:β->Int->S)(I:Nat->β->Prop)(hl:AI l<=4611686018427387904)
  (h:∀i x a,At l i x->I i a->Tt (λn=>step n (d a i)) (Ka d I i Q))(e:∀a,I (AI l) a->Tt (λn=>step n (d a (AI l))) (λc=>∃b,c=.d b/\Q b))(g:β)(s0:S)(H:s0=d g ((0:Nat):Int))(hi:I 0 g):
  Tt (λn=>iter (step n) n s0) Q:=by
 have f:∀k i a,i+k=AI l->I i a->∃b,C9 step (d a i) b/\Q b:=by
  intro k
  induction k with
  |zero=>
   intro i a hk m;have:i=AI l:=om;subst this;obtain⟨c,q,b,rfl,y⟩:=e a m;exact⟨b,Ei q,y⟩
  |succ k F=>
   intro i a hk m;have j:i<AI l:=om;obtain⟨c,q,E⟩:=h i l[i] a (YH hl (XL j)) m;cases c with
   |k M=>
    obtain⟨G,rfl,t⟩:=E;obtain⟨b,J,L⟩:=F (i+1) G om t;exact⟨b,Eu q J,L⟩
   |d b=>exact⟨b,Ei q,E⟩
 obtain⟨b,q,y⟩:=f (AI l) 0 g om hi;subst H;exact⟨b,q.ev,y⟩
theorem Tt.find{d:Nat->Int->AB Bool}(l:AA α)(hl:AI l<=4611686018427387904)(h:∀i x,At l i x->Tt (λn=>d n i) λ_=>True):
  Tt (λn=>iter (λs:Int=>((bif s<(AI l:Int) then d n s else AC AD):AB Bool).bind λb=>bif b then AC (CJ.k (i64.wrap (s+1)))else AC (CJ.d s)) n 0) (λr=>0<=r/\r<=(AI l:Int)):=by
 refine QX (β:=Unit) l (λ_ i=>i) (λ_ _=>True) hl (λi x a ha _=>?_) (λa _=>?_) () _ rfl trivial
 .have:=ha.lt';simp only[ha.lt,Vr,ha.nx];exact Qp (h i x ha) λb=>Tt.c (λ_=>Tt.p ⟨(),rfl,trivial⟩) λ_=>Tt.p ⟨om,om⟩
 .simp only[Jd,Vs,XK];exact Tt.p ⟨_,rfl,om,om⟩
end
theorem bI(a b c:Int):Tt (λn=>GB n a b c) λr=>r=AE->b<=a:=by
 simp_all[GB,Tt.c,Tt.p]
theorem SZ(a b c:Int):Tt (λn=>GB n a b c) λ_=>True:=(bI a b c).any
theorem QlG(s:AP):Tt (λn=>Ph n s) λr=>r=AE->0<=s.AN:=by
 unfold Ph G2 HN IJ;refine Tt.b (P:=λr=>r=AE->0<=s.AN) (Qp (Qp (SZ ..) λ_=>Tt.z) λr=>Tt.c (λ_=>Tt.b (bI ..) λr h=>Tt.c (λq=>Tt.w (P:=λ_=>True) ?_ λ_ _ _=>h q) λ_=>Tt.p nofun) λ_=>Tt.p nofun) λv h=>Tt.p h
 repeat' first|with_reducible exact Tt.p trivial|with_reducible refine Tt.c (λ_=>?_) λ_=>?_|with_reducible refine Qp ?_ λ_=>?_|with_reducible exact SZ ..
theorem Qnj(s:Ao):Tt (λn=>Pp n s) λ_=>True:=by
 unfold Pp J9 G2 Ir
 repeat' first|with_reducible exact Tt.p trivial|with_reducible refine Tt.c (λ_=>?_) λ_=>?_|with_reducible refine Qp ?_ λ_=>?_|with_reducible exact SZ ..
theorem Qra(s:BA):Tt (λn=>RP n s) λ_=>True:=by
 unfold RP Io Lk HN
 repeat' first|with_reducible exact Tt.p trivial|with_reducible refine Tt.c (λ_=>?_) λ_=>?_|with_reducible refine Qp ?_ λ_=>?_|with_reducible exact SZ ..
def VF(f:CP):Prop:=f.AV=1->0<=f.AP.AN
theorem QlK(f:CP):Tt (λn=>Ru n f) λr=>r=AE->VF f:=by
 unfold Ru Io Lk HN G2 Ir J9 IJ NB M9;refine Tt.c (λ_=>Tt.b (QlG _) λr h=>Tt.p λq _=>h q) λhk=>Tt.w (P:=λ_=>True) ?_ λ_ _ _ e=>absurd e gq
 repeat' first|with_reducible exact Tt.p trivial|with_reducible refine Tt.c (λ_=>?_) λ_=>?_|with_reducible refine Qp ?_ λ_=>?_|with_reducible exact SZ .. |with_reducible exact Qra _|with_reducible exact Qnj _
theorem Qrd(f:CP):Tt (λn=>Rv n f) λ_=>True:=by
 unfold Rv
 repeat' first|with_reducible exact Tt.p trivial|with_reducible refine Tt.c (λ_=>?_) λ_=>?_|with_reducible refine Qp ?_ λ_=>?_
theorem tg(f:CP):Tt (λn=>Mq n f) λr=>r=0->VF f:=by
 unfold Mq NB M9;refine Tt.b (P:=λb=>b=AD->VF f) ?_ λb h=>Tt.n λq=>Tt.p λ_=>h q;refine Qp (Qp (SZ ..) λ_=>Tt.z) λ_=>Tt.n λ_=>?_;refine Qp (Qp (SZ ..) λ_=>Tt.z) λ_=>Tt.n λ_=>?_;refine Qp (SZ ..) λ_=>Tt.n λ_=>?_;exact Tt.b (QlK f) λr h=>Tt.n λq=>Qp (Qrd f) λ_=>Tt.p gq
theorem QlI(f:CP):Tt (λn=>Pr n f) λl=>AI l<=20:=by
 unfold Pr
 repeat' first|exact Tt.p sq|refine Tt.c (λ_=>?_) λ_=>?_|refine Tt.b (Tt.a sq) λl h=>Tt.p (by subst h;simp)
def GU(v:AL):Prop:=v.AV=1/\v.S=[]/\v.L=[]
theorem Qrn(l:AA Int)(hl:AI l<=20):Tt (λn=>Pb n l) λr=>AI r<=20/\ ∀v∈r,GU v:=by
 unfold Pb;refine Tt.b (QX l (λ(a:AA AL) i=>(a,i)) (λi a=>AI a<=i/\ ∀v∈a,GU v) om (λi x a d g=>?_) (λa g=>?_) [] _ rfl sq) λr h=>Tt.p h
 .unfold U9 W8;have:=d.lt';simp only[d.lt,Vr,d.ix,XK,d.nx];refine Tt.b (Tt.a (by simp;omega)) λr h=>Tt.p ⟨r,rfl,?_⟩;subst h;refine⟨by simp;omega,λv f=>?_⟩;rcases VG.1 f with h|h
  .grind
  .cases VD.1 h;exact⟨rfl,rfl,rfl⟩
 .unfold U9;simp only[Jd,Vs];exact Tt.p gq
theorem QlN{v:AL}(h:GU v):Tt (λn=>Wr n v) λ_=>True:=by
 refine Tt.s ?_;show Tt (λn=>bB (Wr n) n v) _;unfold bB;rw[h.1]
 simp_all[Tt.c,Tt.p]
theorem Qnr(l:AA AL)(hl:AI l<=20)(h:∀v∈l,GU v):Tt (λn=>Wr n {AV:=3,N:=0,S:=[],L:=l}) λ_=>True:=by
 refine Tt.s ?_;show Tt (λn=>bB (Wr n) n _) _;unfold bB;refine Qp (QX l (λ(_:Unit) i=>i) (λi a=>True) om (λi x a d f=>?_) (λa f=>?_) () _ rfl trivial) λr=>?_
 .unfold V3;simp only[d.lt,Vr,d.ix,XK,d.nx];exact Qp (QlN (h x d.mem)) λr=>Yv <| Tt.p ⟨(),rfl,trivial⟩
 .simp_all[V3,Tt.p]
 .cases r
  .simp_all[Tt.p]
  .exact Tt.z
theorem Qns{v:AL}(h:GU v):Tt (λn=>Wb n v) λ_=>True:=by
 refine Tt.s ?_;show Tt (λn=>bA (Wb n) n v) _;unfold bA;rw[h.1];exact Tt.z
theorem Qpy(l:AA AL)(hl:AI l<=20)(h:∀v∈l,GU v):Tt (λn=>Wb n {AV:=3,N:=0,S:=[],L:=l}) λ_=>True:=by
 refine Tt.s ?_;show Tt (λn=>bA (Wb n) n _) _;unfold bA;refine Qp (QX l (λ(a:Int) i=>(a,i)) (λi a=>True) om (λi x a d f=>?_) (λa f=>?_) 0 _ rfl trivial) λr=>Tt.z
 .unfold VS;simp only[d.lt,Vr,d.ix,XK,d.nx];exact Qp (Qns (h x d.mem)) λr=>Tt.p ⟨_,rfl,trivial⟩
 simp_all[VS,Tt.p]
theorem vK:∀(k:Nat) (a:Int),0<=a->a<128^k->k<=20->Tt (λn=>Su n a) λl=>AI l<=k+1
 |0,a,h0,h1,_=>by
  refine Tt.s ?_;show Tt (λn=>bD (Su n) n a) _;unfold bD;exact Tt.c (λ_=>Tt.p sq) gq
 |k+1,a,h0,h1,hk=>by
  refine Tt.s ?_;show Tt (λn=>bD (Su n) n a) _;unfold bD;refine Tt.c (λ_=>Tt.p sq) λq=>?_;have hd:0<=Int.tdiv a 128/\Int.tdiv a 128<128^k:=by
   grind
  have d:0<=u64.wrap (Int.tdiv a 128)/\u64.wrap (Int.tdiv a 128)<=Int.tdiv a 128:=by
   show 0<=(Int.tdiv a 128)%18446744073709551616/\(Int.tdiv a 128)%18446744073709551616<=_;omega
  refine Tt.b (vK k _ d.1 om om) λr f=>Tt.b (Tt.a (by simp;omega)) λl h=>Tt.p gq
theorem rU(a:Int)(h0:0<=a)(h1:a<18446744073709551616):Tt (λn=>Su n a) λl=>AI l<=11:=
 vK 10 a h0 om om
theorem m5(a:Int):0<=u64.wrap a/\u64.wrap a<18446744073709551616:=by
 show 0<=a%18446744073709551616/\a%18446744073709551616<_;omega
theorem QjH(a:Int):Tt (λn=>RT n a) λr=>0<=r/\r<18446744073709551616:=by
 simp_all[RT,Tt.c,Tt.p,m5]
theorem QlJ{v:AL}(h:GU v):Tt (λn=>W5 n v) λr=>AI r<=12:=by
 refine Tt.s ?_;show Tt (λn=>bC (W5 n) n v) _;unfold bC;rw[h.1];exact Tt.b (QjH _) λr q=>Tt.b (rU r q.1 q.2) λl hl=>Tt.b (Tt.a (by simp;omega)) λm d=>Tt.p gq
theorem Qno(l:AA AL)(hl:AI l<=20)(h:∀v∈l,GU v):Tt (λn=>W5 n {AV:=3,N:=0,S:=[],L:=l}) λ_=>True:=by
 refine Tt.s ?_;show Tt (λn=>bC (W5 n) n _) _;unfold bC;refine Tt.b (rU _ (m5 _).1 (m5 _).2) λr q=>Tt.b (Tt.a (by simp;omega)) λm f=>Qp ?_ λr=>Tt.z;refine QX l (λ(a:AA Int) i=>(a,i)) (λi a=>AI a<=12+12*i) om (λi x a d g=>?_) (λa g=>?_) m _ rfl gq
 .unfold WX;have:=d.lt';simp only[d.lt,Vr,d.ix,XK,d.nx];exact Tt.b (QlJ (h x d.mem)) λr q=>Tt.b (Tt.a om) λm f=>Tt.p ⟨m,rfl,gq⟩
 simp_all[WX,Tt.p]
theorem uQ(f:CP):Tt (λn=>Mn n f) λ_=>True:=by
 unfold Mn Wj Wt;refine Qp (tg f).any λ_=>Yv <| Tt.b (QlI f) λl hl=>Tt.b (Qrn l hl) λr d=>Qp ?_ λ_=>Tt.z
 refine Qp (Qp (Qnr r d.1 d.2) λ_=>Yv <| Qp (Qpy r d.1 d.2) λ_=>Tt.k λ_=>Tt.z) λ_=>Yv <| Qp (Qno r d.1 d.2) λ_=>Tt.z
theorem QlO(f g:CP):Tt (λn=>Pz n f g) λ_=>True:=by
 unfold Pz;refine Qp (QX [f.At,f.BB,f.No] (λ(_:Unit) i=>i) (λi a=>True) sq (λi x a d m=>?_) (λa m=>?_) () _ rfl trivial) λr=>?_
 .unfold VX;have h:=d.lt';simp only[X3,List.length_nil]at h;obtain⟨y,j⟩:∃y,CN [g.At,g.BB,g.No] (i:Int)=AC y:=⟨_,Qf (XL (by simpa using h))⟩;simp only[dT ((i:Int)<3),Vr,d.ix,j,XK,d.nx];exact Yv <| Yv <| Tt.p ⟨(),rfl,trivial⟩
 .simp_all[VX,Tt.p]
 .cases r with
  |k s=>exact Qp (uQ f) λ_=>Qp (uQ g) λ_=>Yv <| Yv <| Tt.z
  |d s=>exact Tt.z
theorem Sm(l:AA CP)(hl:AI l<=16):Tt (λn=>HF n l) λr=>AI r<=16/\ ∀f∈r,VF f:=by
 unfold HF;refine Tt.b (QX l (λ(a:AA CP) i=>(a,i)) (λi a=>AI a<=i/\ ∀f∈a,VF f) om (λi x a d t=>?_) (λa t=>?_) [] _ rfl sq) λr h=>Tt.p h
 .unfold WS;have:=d.lt';simp only[d.lt,Vr,d.ix,XK,d.nx];refine Tt.b (P:=λ(m:AA CP)=>AI m<=i+1/\ ∀f∈m,VF f) (Tt.b (tg x) λr G=>Tt.c (λ_=>Tt.p ⟨om,t.2⟩) λq=>?_) λm B=>Tt.p ⟨m,rfl,B⟩;have T:VF x:=G gq;refine Tt.b (Tt.find a om λj y F=>?_) λb g=>?_
  .exact Qp (Tt.o F.ix trivial) λy=>Qp (Tt.o d.ix trivial) λx=>Qp (QlO y x) λ_=>Tt.z
  refine Qp (Tt.c (λh=>Qp (Tt.i g.1 (Vx h)).any λ_=>Tt.z) λ_=>Tt.z) λ_=>Tt.c (λ_=>Tt.p ⟨om,t.2⟩) λ_=>?_;refine Tt.b (Tt.sl (Int.le_refl 0) g.1 g.2) λp L=>Tt.b (Tt.a (by simp;omega)) λN E=>?_;subst E;refine Tt.b (Tt.a (by simp;omega)) λO H=>Tt.b (Tt.sl g.1 g.2 (Int.le_refl _)) λJ R=>?_;subst H;refine Tt.b (Tt.a (by simp;omega)) λM Q=>Tt.p ?_
  grind
 .unfold WS;simp only[Jd,Vs];exact Tt.p gq
def G9(c:CE)(m:Int):Prop:=0<=m/\m<(AI c.An:Int)
def Ff(c:CE)(l:AA CF):Prop:=∀s∈l,G9 c s.Af
theorem ig(c:CE)(m:Int):Tt (λn=>G4 n c m) λr=>r=AE->G9 c m:=by
 unfold G4;exact Tt.b (P:=λr=>r=AE->G9 c m) (Tt.c (λh=>Tt.p λq=>⟨Vx h,Vx q⟩) λ_=>Tt.p nofun) λv h=>Tt.p h
theorem wx{c:CE}{m:Int}(h:G9 c m):Tt (λn=>Hg n c m) λ_=>True:=by
 unfold Hg;exact Tt.b (Tt.i h.1 h.2) λ_ _=>Tt.z
theorem Qre(a b:CF):Tt (λn=>KF n a b) λ_=>True:=by
 unfold KF;exact Qp (Yv <| Tt.k λ_=>Tt.z) λ_=>Tt.z
theorem io(c:CE)(l:AA CF)(a b:Int)(hl:AI l<=1000)(hs:Ff c l):Tt (λn=>KC n c l a b) λr=>AI r<=AI l+1/\Ff c r:=by
 unfold KC;have skip:AI l<=AI l+1/\Ff c l:=⟨om,hs⟩;refine Tt.b (P:=λq=>q=AD->G9 c a) (Tt.b (ig c a) λr L=>Tt.n λq=>?_) λq g=>Tt.c (λ_=>Tt.p skip) λm=>?_
 .simp_all[wx]
 have G:=g m;refine Tt.b (Tt.find l om λj y E=>Qp (Tt.o E.ix trivial) λy=>Qp (Qre _ _) λ_=>Tt.z) λi d=>?_;refine Qp (Tt.c (λh=>Qp (Tt.i d.1 (Vx h)).any λ_=>Tt.c (λ_=>Qp (Tt.i d.1 (Vx h)).any λ_=>Tt.z) λ_=>Tt.z) λ_=>Tt.z) λ_=>Tt.c (λ_=>Tt.p skip) λ_=>?_;refine Tt.b (Tt.sl d.1 d.2 (Int.le_refl _)) λp f=>Tt.b (Tt.a (by simp;omega)) λH t=>?_;subst t;refine Tt.b (Tt.sl (Int.le_refl 0) d.1 d.2) λJ B=>Tt.b (Tt.a (by simp;omega)) λF x=>Tt.p ?_;subst x;refine⟨by simp;omega,λs h=>?_⟩;simp only[VG,VD]at h;rcases h with h|h|h
 .exact hs s (B.2 s h)
 .grind
 .exact hs s (f.2 s h)
theorem wz(c:CE)(l:AA CP)(hl:AI l<=16){e:Int}(he:Ev (λn=>D2 n c) e):Tt (λn=>Ms n c l) λr=>AI r.1<=511/\Ff c r.1:=by
 unfold Ms;have nil:AI ([]:AA CF)<=511/\Ff c []:=⟨sq,λ_ h=>nomatch h⟩;refine Qp (Tt.e he trivial) λe=>Tt.c (λ_=>Tt.p nil) λ_=>Tt.b (Sm l hl) λC hC=>?_;refine Tt.b (P:=λ(r:AA CF)=>AI r<=2*AI C/\Ff c r) (QX C (λ(a:AA CF) i=>(a,i)) (λi a=>AI a<=2*i/\Ff c a) om (λi x a E g=>?_) (λa g=>?_) [] _ rfl gq) λr hr=>?_
 .unfold WP;have:=E.lt';simp only[E.lt,Vr,E.ix,XK,E.nx];refine Tt.b (P:=λ(r:AA CF)=>AI r<=2*(i+1)/\Ff c r) ?_ λr h=>Tt.p ⟨r,rfl,h⟩;refine Tt.c (λ_=>Tt.b (io c a _ _ om g.2) λr h=>Tt.p ⟨om,h.2⟩) λ_=>Tt.c (λ_=>Tt.b (io c a _ _ om g.2) λr h=>Tt.p ⟨om,h.2⟩) λ_=>Tt.c (λ_=>?_) λ_=>Tt.p ⟨om,g.2⟩;exact Tt.b (io c a _ _ om g.2) λr h=>Tt.b (io c r _ _ om h.2) λr2 d=>Tt.p ⟨om,d.2⟩
 .simp_all[WP,Tt.p]
 refine Tt.c (λ_=>Tt.p nil) λq=>?_;have hk:AI r<=511:=om;refine Tt.b (P:=λ(b:AA CF)=>AI b<=511/\Ff c b) (Tt.l (λs:AA CF×Int=>AI s.1=AI r/\Ff c s.1/\0<=s.2/\s.2<=(AI r:Int)) (λs=>((AI r:Int)-s.2).toNat) (λs hs=>?_) (r,0) gq) λb L=>Tt.p (Q:=λv:AA CF×Int=>AI v.1<=511/\Ff c v.1) L;obtain⟨B,R⟩:=s;obtain⟨V,d,G,T⟩:=hs;simp only at V d G T;unfold f6;refine Tt.c (λq=>?_) λ_=>Tt.p (Q:=J2 _ _ _ _) ⟨gq,d⟩;have O:=Vx q;simp only at O;refine Tt.b (P:=λ(t:AA CF)=>AI t=AI B/\Ff c t) (Tt.l (λt:AA CF×Int=>AI t.1=AI B/\Ff c t.1/\ -1<=t.2/\t.2<(AI C:Int)) (λt=>(t.2+1).toNat) (λt J=>?_) (B,i64.wrap ((AI C:Int)-1)) ⟨rfl,d,?_,?_⟩) λb L=>Tt.p (Q:=J2 _ _ _ _) ?_
 .obtain⟨M,t2⟩:=t;obtain⟨j,f,Y,F⟩:=J;simp only at j f Y F;unfold f_;refine Tt.c (λq=>?_) λ_=>Tt.p (Q:=J2 _ _ _ _) ⟨j,f⟩;have H:=Vx q;simp only at H;have ix:∀{Q:CF->Prop},(∀x∈M,Q x)->Tt (λ_=>CN M R) Q:=λh=>(Tt.i G om).w h;refine Qp (Tt.i H F).any λx=>Qp (Qp (Tt.i H F).any λ_=>Tt.c (λ_=>Qp (ix λ_ _=>trivial) λ_=>Tt.c (λ_=>Qp (ix λ_ _=>trivial) λ_=>Tt.z) λ_=>Tt.z) λ_=>Tt.z) λb=>?_;refine Tt.b (P:=λ(t:AA CF)=>AI t=AI B/\Ff c t) (Tt.c (λ_=>?_) λ_=>Tt.p ⟨j,f⟩) λt J=>Tt.p (Q:=J2 _ _ _ _) ?_
  .refine Tt.b (ix λx h=>h) λy X=>Tt.b (Tt.set G gq) λm N=>Tt.p ⟨N.1.trans j,λz W=>?_⟩;rcases N.2 z W with h|h
   .subst h;exact f y X
   .exact f z h
  grind[Qz]
 iterate 3 grind[Qz]
abbrev NS{A β:Type}(Q:β->Prop):CJ A β->Prop
 |.k _=>True
 |.d r=>Q r
theorem o5(l:AA CF)(a b:Int)(hl:AI l<=1000):Tt (λn=>He n l a b) λr=>0<=r/\r<=(AI l:Int):=by
 unfold He;refine Tt.b (P:=NS λr=>0<=r/\r<=(AI l:Int)) (QX l (λ(_:Unit) i=>i) (λ_ _=>True) om (λi x _ ha _=>?_) (λ_ _=>?_) () _ rfl trivial) λr d=>?_
 .unfold J5;have:=ha.lt';simp only[ha.lt,Vr,ha.ix,XK,ha.nx];exact Qp (Tt.k λ_=>Tt.z) λ_=>Tt.c (λ_=>Tt.p (Q:=Ka _ _ _ _) om) λ_=>Tt.p ⟨(),rfl,trivial⟩
 .simp_all[J5,Tt.p]
 .cases r with
  |k s=>exact Tt.p om
  |d s=>exact Tt.p d
theorem ot{c:CE}{l:AA CF}{v a b:Int}(hs:Ff c l)(g:0<=v)(f:v<=(AI l:Int))(hl:AI l<=1000)(d:G9 c a):Tt (λn=>LN n l v a b) λs=>G9 c s.Af:=by
 unfold LN;refine Tt.c (λ_=>Tt.p d) λq=>?_;have q:v≠0:=by simpa using q
 have e:i64.wrap (v-1)=v-1:=Dj;rw[e];exact Tt.b (Tt.i om om) λx h=>Tt.p (hs x h)
theorem Qpx(a b:Int):Tt (λn=>LM n a b) λ_=>True:=by
 unfold LM
 repeat' first|with_reducible exact Tt.p trivial|with_reducible refine Tt.c (λ_=>?_) λ_=>?_|with_reducible refine Qp ?_ λ_=>?_
theorem pH{c:CE}{s:CF}(h:G9 c s.Af)(a:Int):Tt (λn=>Kz n c s a) λ_=>True:=by
 unfold Kz;exact Qp (wx h) λ_=>Yv <| Qp (Qpx _ _) λ_=>Tt.z
theorem Qnp(c:CE)(l:AA CP)(hl:AI l<=16){e:Int}(he:Ev (λn=>D2 n c) e):Tt (λn=>PM n c l) λ_=>True:=by
 unfold PM;refine Tt.b (wz c l hl he) λr J=>Yv <| ?_
 obtain⟨S,z⟩:=r;have L:AI S<=511:=J.1;have f:Ff c S:=J.2;refine Tt.b (P:=λ(a:AA Edge)=>AI a<=1022) (QX S (λ(a:AA Edge) i=>(a,i)) (λi a=>AI a<=2*i) om (λi x a d g=>?_) (λa g=>?_) [] _ rfl (XU _)) λE1 h1=>Tt.b (Sm l hl) λC hC=>?_
 .unfold U2;have:=d.lt';simp only[d.lt,Vr,d.nx];exact Tt.b (Tt.a (by simp;omega)) λm f=>Tt.p ⟨m,rfl,gq⟩
 .unfold U2;simp only[Jd,Vs];exact Tt.p ⟨_,rfl,om⟩
 refine Tt.b (P:=λ(b:AA CF×AA Edge)=>b.1=S/\AI b.2<=1054) (QX C (λ(a:AA Edge) i=>(S,a,i)) (λi a=>AI a<=1022+2*i) om (λi x a d g=>?_) (λa g=>?_) E1 _ rfl om) λb y=>?_
 .unfold U8;have:=d.lt';simp only[d.lt,Vr,d.ix,XK,d.nx];refine Tt.b (P:=λ(m:AA Edge)=>AI m<=1022+2*(i+1)) (Tt.b (P:=λq=>q=AD->G9 c x.Av.Af) (Tt.n λ_=>Tt.b (ig c _) λr h=>Tt.p gq) λq E=>Tt.c (λ_=>Tt.p om) λB=>?_) λm f=>Tt.p ⟨m,rfl,f⟩;have t:=E B;exact Tt.b (o5 S _ _ om) λv j=>Tt.b (ot f j.1 j.2 om t) λs hs=>Qp (pH hs _) λ_=>Tt.b (Tt.a (by simp;omega)) λm h=>Tt.p gq
 .unfold U8;simp only[Jd,Vs];exact Tt.p gq
 obtain⟨H,M⟩:=b;obtain⟨rfl,y⟩:=y;simp only at y L f;refine Tt.b (P:=λ(b:AA Edge)=>True) (QX C (λ(a:AA Edge) i=>(a,i)) (λi a=>AI a<=1054+2*i) om (λi x a d g=>?_) (λa g=>?_) M _ rfl om) λb y=>Yv <| Tt.z
 .unfold U';have:=d.lt';simp only[d.lt,Vr,d.ix,XK,d.nx];refine Tt.b (P:=λ(m:AA Edge)=>AI m<=1054+2*(i+1)) (Tt.b (P:=λq=>q=AD->G9 c x.BA.B5/\G9 c x.BA.B4) (Tt.n λ_=>Tt.b (ig c _) λr h=>Tt.n λR=>Tt.b (ig c _) λN Q=>Tt.p gq) λq E=>Tt.c (λ_=>Tt.p om) λB=>?_) λm f=>Tt.p ⟨m,rfl,f⟩;have t:=E B;exact Tt.b (o5 H _ _ om) λv j=>Tt.b (o5 H _ _ om) λw G=>Tt.b (ot f j.1 j.2 om t.1) λs hs=>Qp (pH hs _) λ_=>Tt.b (ot f G.1 G.2 om t.2) λO F=>Qp (pH F _) λ_=>Tt.b (Tt.a (by simp;omega)) λm h=>Tt.p gq
 simp_all[U',Tt.p]
def aZ(v:Int)(e:Edge):Prop:=0<=e.A5/\e.A5<v/\0<=e.To/\e.To<v
theorem QlP(s:Cs):Tt (λn=>RO n s) λr=>r=0->1<=s.Aq/\s.Aq<=512/\AI s.Bj<=8192/\ ∀e∈s.Bj,aZ s.Aq e:=by
 unfold RO;refine Tt.b (P:=λb=>b=AD->1<=s.Aq/\s.Aq<=512/\AI s.Bj<=8192) (Tt.n λh=>Tt.n λt=>Tt.p λB=>?_) λb d=>Tt.n λq=>?_
 .grind
 obtain⟨J,t,B⟩:=d q;refine Tt.b (P:=λ(c:CJ Unit Int)=>match c with|.k _=>∀e∈s.Bj,aZ s.Aq e|.d r=>r≠0) (QX s.Bj (λ(_:Unit) i=>i) (λi _=>∀e∈s.Bj.take i,aZ s.Aq e) om (λi x _ ha hI=>?_) (λ_ hI=>?_) () _ rfl sq) λr y=>?_
 .unfold U5;simp only[ha.lt,Vr,ha.ix,XK,ha.nx];refine Tt.b (P:=λb=>b=AD->aZ s.Aq x) (Tt.n λj=>Tt.n λg=>Tt.n λE=>Tt.n λf=>Tt.w (P:=λ_=>True) (Tt.k λ_=>Tt.z) λ_ _ _=>?_) λb d=>Tt.c (λ_=>Tt.p (Q:=Ka _ _ _ _) om) λq=>Tt.p ⟨(),rfl,?_⟩
  .have G:=Vy j;have H:=Vy g;have L:=Vy E;have F:=Vy f;exact⟨om,om,om,om⟩
  .intro e m;rw[ha.take]at m
   grind
 .simp_all[U5,Tt.p]
 .cases r with
  |k u=>exact Tt.p gq
  |d v=>exact Tt.p λh=>absurd h y
def IP(k:Nat)(t:AA (AA Int)):Prop:=AI t=k/\ ∀r∈t,AI r=k
theorem IP.set{k:Nat}{t:AA (AA Int)}{r:AA Int}(h:IP k t)(hr:AI r=k)(i:Nat):IP k (t.set i r):=
 ⟨by simp[h.1],λq hq=>(List.mem_or_eq_of_mem_set hq).elim (h.2 q) λe=>e▸hr⟩
theorem Tt.up{β S B:Type}{step:Nat->S->AB (CJ S B)}{Q:B->Prop}(k:Nat)(hk:k<=4611686018427387904)(d:β->Int->S)(I:Nat->β->Prop)
  (h:∀i a,i<k->i64.wrap ((i:Int)+1)=((i+1:Nat):Int)->I i a->Tt (λn=>step n (d a i)) (Ka d I i Q))(e:∀a,I k a->Tt (λn=>step n (d a k)) (λc=>∃b,c=.d b/\Q b))(g:β)(s0:S)(m:s0=d g ((0:Nat):Int))(hi:I 0 g):
  Tt (λn=>iter (step n) n s0) Q:=by
 have hl:AI (List.replicate k ())=k:=List.length_replicate;refine QX (List.replicate k ()) d I om (λi x a j f=>h i a (by have:=j.lt';omega) j.nx f) (λa f=>?_) g s0 m hi;rw[hl]at f⊢;exact e a f
theorem Qrg{k:Nat}(hk:k<=512)(r:AA Int)(f:AI r=k):Tt (λn=>iter (Og n (k:Int)) n (r,0)) λl=>AI l=k:=by
 refine Tt.up k om (λ(a:AA Int) i=>(a,i)) (λ_ a=>AI a=k) (λi a h hn d=>?_) (λa d=>?_) r _ rfl f
 .unfold Og;simp only[dT ((i:Int)<(k:Int)),Vr,hn];exact Tt.b (Tt.i om om) λx _=>Tt.b (Tt.set om om) λm g=>Tt.p gq
 simp_all[Og,Tt.p]
theorem Qrc{k:Nat}(hk:k<=512):Tt (λn=>iter (Ot n (k:Int)) n ([],0)) (IP k):=by
 refine Tt.up k om (λ(a:AA (AA Int)) i=>(a,i)) (λi a=>AI a=i/\ ∀r∈a,AI r=k) (λi a q hn d=>?_) (λa d=>?_) [] _ rfl sq
 .unfold Ot;simp only[dT ((i:Int)<(k:Int)),Vr,hn];refine Qp (Tt.o (v:=()) (by rw[d.1];simp[Ht]) trivial) λ_=>?_;refine Tt.b (P:=λ(r:AA Int)=>AI r=k) (Tt.o (v:=List.replicate k 0) (by unfold mk;grind) sq) λf g=>?_;refine Tt.b (Qrg hk f g) λr1 (h1:AI r1=k)=>Tt.b (Tt.i (Int.natCast_nonneg i) om) λx _=>Tt.b (Tt.set (Int.natCast_nonneg i) om) λm h=>Tt.p ⟨a++[m],rfl,by simp[d.1],λr j=>?_⟩
  grind
 .unfold Ot;simp only[dF ((k:Int)<(k:Int)),Vs];exact Tt.p ⟨_,rfl,d⟩
theorem Qpu{k:Nat}(E:AA Edge)(hE:AI E<=8192)(h:∀e∈E,aZ (k:Int) e)(t:AA (AA Int))(F:IP k t):Tt (λn=>iter (Oc n E) n (t,0)) (IP k):=by
 refine QX E (λ(a:AA (AA Int)) i=>(a,i)) (λ_ a=>IP k a) om (λi x a f d=>?_) (λa d=>?_) t _ rfl F
 .unfold Oc;simp only[f.lt,Vr,f.ix,XK,f.nx];obtain⟨q,G,g,H⟩:=h x f.mem;refine Tt.b (Tt.i q (by rw[d.1];exact G)) λr B=>?_;have hl:=d.2 r B;exact Qp (Tt.i g om).any λy=>Tt.b (Tt.set g om) λm j=>Tt.p ⟨_,rfl,d.set (j.1.trans hl) _⟩
 simp_all[Oc,Tt.p]
theorem kE{k m i j:Nat}(B:m<k)(hi:i<k)(F:j<k)(t:AA (AA Int))(d:IP k t):Tt (λ_=>WH (m:Int) (i:Int) (j:Int) t) (IP k):=by
 unfold WH;refine Tt.b (Tt.i om (by rw[d.1];omega)) λr x=>?_;have hl:=d.2 r x;refine Qp (Tt.i om om).any λa=>Tt.c (λ_=>?_) λ_=>Tt.p d;refine Tt.b (Tt.i om (by rw[d.1];omega)) λq h=>?_;have f:=d.2 q h;refine Qp (Tt.i om om).any λb=>Tt.c (λ_=>?_) λ_=>Tt.p d;exact Qp (Tt.i om om).any λy=>Tt.b (Tt.set om om) λE g=>Tt.p (d.set (g.1.trans hl) _)
theorem xk{k m i:Nat}(hk:k<=512)(h:m<k)(hi:i<k)(t:AA (AA Int))(d:IP k t):Tt (λn=>iter (Ov n (k:Int) (m:Int) (i:Int)) n (t,0)) (IP k):=by
 refine Tt.up k om (λ(a:AA (AA Int)) i=>(a,i)) (λ_ a=>IP k a) (λj a g hn f=>?_) (λa f=>?_) t _ rfl d
 .unfold Ov;simp only[dT ((j:Int)<(k:Int)),Vr,hn];exact Tt.b (kE h hi g a f) λt d=>Tt.p ⟨t,rfl,d⟩
 simp_all[Ov,Tt.p]
theorem xl{k m:Nat}(hk:k<=512)(h:m<k)(t:AA (AA Int))(d:IP k t):Tt (λn=>iter (O6 n (k:Int) (m:Int)) n (t,0)) (IP k):=by
 refine Tt.up k om (λ(a:AA (AA Int)) i=>(a,i)) (λ_ a=>IP k a) (λj a g hn f=>?_) (λa f=>?_) t _ rfl d
 .unfold O6;simp only[dT ((j:Int)<(k:Int)),Vr,hn];exact Tt.b (xk hk h g a f) λt d=>Tt.p ⟨t,rfl,d⟩
 simp_all[O6,Tt.p]
theorem Qrh{k:Nat}(hk:k<=512)(t:AA (AA Int))(d:IP k t):Tt (λn=>iter (PA n (k:Int) t) n 0) λ_=>True:=by
 refine Tt.up k om (λ(_:Unit) i=>i) (λ_ a=>True) (λj a h hn f=>?_) (λa f=>?_) () _ rfl trivial
 .unfold PA;simp only[dT ((j:Int)<(k:Int)),Vr,hn];refine Tt.b (Tt.i om (by rw[d.1];omega)) λr g=>?_;have hl:=d.2 r g;exact Qp (Tt.i om om).any λa=>Yv <| Tt.p ⟨(),rfl,trivial⟩
 simp_all[PA,Tt.p]
theorem Qim{k:Nat}(hk:k<=512)(E:AA Edge)(hE:AI E<=8192)(h:∀e∈E,aZ (k:Int) e):Tt (λn=>R0 n {Aq:=(k:Int),Bj:=E}) λr=>AI r.1<=512/\ ∀q∈r.1,AI q<=512:=by
 unfold R0;refine Qp (Tt.o (v:=List.replicate k ()) (by unfold mk;grind) trivial) λ_=>Tt.b (Qrc hk) λH g=>?_;refine Qp (Tt.o (v:=()) (by rw[g.1];simp[Ht]) trivial) λ_=>Tt.b (Qpu E hE h H g) λB G=>?_;refine Tt.b (P:=λ(c:CJ (AA (AA Int)) Unit)=>match c with|.k t=>IP k t|.d _=>True) (Tt.up k om (λ(a:AA (AA Int)) i=>(a,i)) (λ_ a=>IP k a) (λj a F hn f=>?_) (λa f=>?_) B _ rfl G) λc x=>?_
 .unfold WQ;simp only[dT ((j:Int)<(k:Int)),Vr,hn];refine Tt.b (xl hk F a f) λt m=>Qp (Qrh hk t m) λd=>?_;cases d with
  |k _=>exact Tt.p ⟨t,rfl,m⟩
  |d _=>exact Tt.p (Q:=Ka _ _ _ _) trivial
 .simp_all[WQ,Tt.p]
 .cases c with
  |k t=>exact Tt.p ⟨by rw[x.1];exact hk,λq y=>by rw[x.2 q y];exact hk⟩
  |d _=>simp_all[Tt.p]
theorem bJ(s:Cs):Tt (λn=>RH n s) λr=>AI r.1<=512/\ ∀q∈r.1,AI q<=512:=by
 unfold RH;have nil:AI ([]:AA (AA Int))<=512/\ ∀q∈([]:AA (AA Int)),AI q<=512:=sq;refine Tt.b (QlP s) λr d=>Tt.c (λ_=>Tt.p nil) λq=>?_;obtain⟨v,E⟩:=s;obtain⟨j,h,g,f⟩:=d gq;simp only at j h g f;obtain⟨k,rfl⟩:=Int.eq_ofNat_of_zero_le (show 0<=v by omega);exact Tt.b (Qim om E g f) λr d=>Tt.c (λ_=>Tt.p nil) λ_=>Tt.p d
theorem QpC(c:CE)(l:AA CP)(hl:AI l<=16){e:Int}(he:Ev (λn=>D2 n c) e):Tt (λn=>Rf n c l) λr=>Dy {AQ:=r.1,BE:=r.2.1}:=by
 unfold Rf;have nil:Dy {AQ:=[],BE:=[]}:=⟨sq,sq,λ_ h=>nomatch h⟩;exact Qp (Qnp c l hl he) λr=>Tt.c (λ_=>Tt.p nil) λ_=>Tt.b (bJ _) λr d=>Tt.c (λ_=>Tt.p nil) λ_=>Tt.b (wz c l hl he) λs hs=>Tt.p ⟨gq,gq,λq f=>gq⟩
set_option maxRecDepth 10000
abbrev NC{B:Type}(i:Nat):CJ Int (CJ Unit B)->Prop
 |.k s=>s=((i+1:Nat):Int)
 |.d _=>True
theorem mZ{α B:Type}{step:Nat->Int->AB (CJ Int (CJ Unit B))}(l:AA α)(hl:AI l<=1048576)(h:∀i x,At l i x->Tt (λn=>step n (i:Int)) (NC i))(e:∀n,step n (AI l:Int)=AC (.d (.k ()))):Tt (λn=>iter (step n) n 0) λ_=>True:=by
 refine QX l (λ(_:Unit) i=>i) (λ_ _=>True) om (λi x _ ha _=>(h i x ha).w λc f=>?_) (λ_ _=>?_) () _ rfl trivial
 .cases c with
  |k s=>exact⟨(),f,trivial⟩
  |d d=>exact trivial
 .simp only[e];exact Tt.p ⟨_,rfl,trivial⟩
def mV(c:CE)(d:AN):Prop:=C3 ((AI c.An:Int)-1) d.Ab=AE/\(d.Ae≠ -1->0<=d.Ae/\d.Ae<(AI c.An:Int))
set_option maxRecDepth 10000
theorem QpP{k:Int}{l:AA CM}(h:C3 k l=AE){p:CM}(d:p∈l):(p.Aj=0->0<=p.Af/\p.Af<=k)/\(p.Aj≠0->1<=p.Aj/\p.Aj<=64/\C3 k p.Aa=AE):=by
 rw[Y1,Xs]at h;have q:=h p d;rw[UL]at q;unfold C7 at q;cases z:(p.Aj==0)with
 |true=>
  rw[z,Vr]at q;simp only[XX,Vt]at q;exact⟨λ_=>q.1,λy=>absurd (by simpa using z) y⟩
 |false=>
  rw[z,Vs]at q;simp only[XX,Vt]at q;exact⟨λy=>by rw[y]at z;simp at z,λ_=>⟨q.1.1,q.1.2,q.2.2.2⟩⟩
def xZ(k:Int)(m:Nat)(r:AA Int):Prop:=AI r<=600*(m+1)/\ ∀x∈r,0<=x/\x<=k
theorem xZ.app{k:Int}{m:Nat}{a b:AA Int}(ha:∀x∈a,0<=x/\x<=k)(hb:∀x∈b,0<=x/\x<=k)(h:AI a+AI b<=600*(m+1)):xZ k m (a++b):=
 ⟨gq,gq⟩
def Kn(c:CE):Prop:=∀d∈c.AO,mV c d/\Co d.Ab<=256
set_option maxRecDepth 10000
theorem ur:∀l:AA CM,AI l<=Co l
 |[]=>XV _
 |p::r=>by
  have:=ur r
  grind[Co,Yw]
theorem Qng:∀(m:Nat) (l:AA CM) (d:Int),Co l<=m->AI l<=1048576->(∀x∈l,CM.wf x)->Tt (λn=>NQ n l d) λ_=>True:=by
 intro m
 induction m using Nat.strongRecOn with
 |ind m h=>
  intro l d q hl f;refine Tt.s ?_;show Tt (λn=>R9 (NQ n) n l d) _;unfold R9;refine Yv <| Qp (QX l (λ(a:Int) i=>(a,i)) (λ_ _=>True) om (λi x a ha _=>?_) (λ_ _=>?_) _ _ rfl trivial) λ_=>Tt.z
  .unfold V4;simp only[ha.lt,Vr,ha.ix,XK,ha.nx];obtain⟨g,j⟩:=Q2 (f x ha.mem);have hs:=YK ha.mem;rw[Yw]at hs;exact Tt.c (λ_=>Qp (h (Co x.Aa) om x.Aa _ (XU _) g j) λr=>Tt.p ⟨_,rfl,trivial⟩) λ_=>Tt.p (Q:=Ka _ _ _ _) trivial
  simp_all[V4,Tt.p]
theorem QlL:∀(m:Nat) (l:AA AR) (d:Int),SizeOf.sizeOf l<=m->AI l<=1048576->(∀x∈l,AR.wf x)->Tt (λn=>NP n l d) λ_=>True:=by
 intro m
 induction m with
 |zero=>intro l d f;cases l<;>simp at f
 |succ m j=>
  intro l d f hl g;refine Tt.s ?_;show Tt (λn=>R8 (NP n) n l d) _;unfold R8;refine Yv <| Qp (QX l (λ(a:Int) i=>(a,i)) (λ_ _=>True) om (λi x a ha _=>?_) (λ_ _=>?_) _ _ rfl trivial) λ_=>Tt.z
  .unfold WJ;simp only[ha.lt,Vr,ha.ix,XK,ha.nx];obtain⟨h,q⟩:=Y4 (g x ha.mem);have y:=List.sizeOf_lt_of_mem ha.mem;have t:SizeOf.sizeOf x.Aa<SizeOf.sizeOf x:=by cases x;simp;omega
   exact Tt.c (λ_=>Qp (j x.Aa _ om h q) λr=>Tt.p ⟨_,rfl,trivial⟩) λ_=>Tt.p (Q:=Ka _ _ _ _) trivial
  simp_all[WJ,Tt.p]
theorem QlF:∀(m:Nat) (l:AA AX) (d:Int),SizeOf.sizeOf l<=m->AI l<=1048576->(∀x∈l,AX.wf x)->Tt (λn=>NO n l d) λ_=>True:=by
 intro m
 induction m with
 |zero=>intro l d q;cases l<;>simp at q
 |succ m t=>
  intro l d q hl B;refine Tt.s ?_;show Tt (λn=>R7 (NO n) n l d) _;unfold R7;refine Yv <| Qp (QX l (λ(a:Int) i=>(a,i)) (λ_ _=>True) om (λi x a ha _=>?_) (λ_ _=>?_) _ _ rfl trivial) λ_=>Tt.z
  .unfold U6;simp only[ha.lt,Vr,ha.ix,XK,ha.nx];obtain⟨H,⟨g,h⟩,⟨f,j⟩⟩:=Y3 (B x ha.mem);have G:=List.sizeOf_lt_of_mem ha.mem;have E:SizeOf.sizeOf x.BN<SizeOf.sizeOf x/\SizeOf.sizeOf x.BQ<SizeOf.sizeOf x:=by cases x;simp;omega
   exact Tt.c (λ_=>Qp (QlL _ [x.AR] 0 (XU _) sq λy F=>gq) λ_=>Qp (t x.BN _ om g h) λ_=>Qp (t x.BQ _ om f j) λ_=>Tt.p ⟨_,rfl,trivial⟩) λ_=>Tt.p (Q:=Ka _ _ _ _) trivial
  simp_all[U6,Tt.p]
theorem Qpw(c:CE)(f:CE.wf c):Tt (λn=>Pj n c) λ_=>True:=by
 have w:=JD f;have g:=fY f;obtain⟨j,h⟩:=nF f;unfold Pj;refine Qp (mZ c.AO w.dist (λi x d=>?_) λn=>by simp_all[WV]) λb=>?_
 .unfold WV;simp only[d.lt,Vr,d.ix,XK,d.nx];exact Qp (Qp (Qng _ x.Ab 0 (XU _) (g.len x d.mem) (g.wf x d.mem)) λ_=>Yv <| Tt.k λ_=>Tt.z) λ_=>Yv <| Tt.p rfl
 rcases b with u|v
 case d=>exact Tt.z
 refine Qp (mZ c.An w.mats (λi x d=>?_) λn=>by simp_all[WB]) λb=>?_
 .unfold WB;simp only[d.lt,Vr,d.ix,XK,d.nx];exact Yv <| Tt.p rfl
 rcases b with u|v
 case d=>exact Tt.z
 refine Qp (by repeat' first|with_reducible exact Tt.p trivial|with_reducible refine Tt.c (λ_=>?_) λ_=>?_) λ_=>Yv <| Qp (QlF _ c.BZ 0 (XU _) j h) λ_=>Tt.z
theorem QjJ(k:Int):∀(m:Nat) (l:AA CM),Co l<=m->m<=256->AI l<=1048576->(∀x∈l,CM.wf x)->C3 k l=AE->Tt (λn=>Mf n l) λr=>AI r<=600*(m+1):=by
 intro m
 induction m using Nat.strongRecOn with
 |ind m O=>
  intro l hm g hl G H;have ll:=ur l;refine Tt.s ?_;show Tt (λn=>bE (Mf n) n l) _;unfold bE;refine Tt.b (P:=λ(r:AA Int)=>AI r<=600*(m+1)) (QX l (λ(a:AA Int) i=>(a,i)) (λi a=>AI a<=300+600*m+i) om (λi x a d J=>?_) (λa J=>?_) [] _ rfl sq) λr f=>Tt.p f
  .have hi:=d.lt';unfold K8;simp only[d.lt,Vr,d.ix,XK,d.nx];obtain⟨X,t⟩:=QpP H d.mem;refine Tt.b (P:=λ(r:AA Int)=>AI r<=300+600*m+(i+1)) (Tt.c (λz=>?_) λz=>?_) λr f=>Tt.p ⟨r,rfl,f⟩
   .exact Tt.b (Tt.a (by simp;omega)) λr f=>Tt.p gq
   .obtain⟨l1,l2,F⟩:=t (by simpa using z);obtain⟨j,R⟩:=Q2 (G x d.mem);have hs:=YK d.mem;rw[Yw]at hs;refine Tt.b (O (Co x.Aa) om x.Aa (XU _) om j R F) λr f=>?_;have h:600*(Co x.Aa+1)<=600*m:=om;refine Tt.b (P:=λ(r:AA Int)=>AI r<=300+600*m+(i+1)) (Tt.l (λs:AA Int×Int=>AI s.1<=300+600*m+i/\0<=s.2/\s.2<=64) (λs=>(64-s.2).toNat) (λs hs=>?_) (a,0) gq) λr f=>Tt.p f;obtain⟨N,E⟩:=s;obtain⟨L,B,T⟩:=hs;simp only at L B T;unfold K7;refine Tt.b (P:=λb=>b=AE->E<x.Aj/\AI N<=300) (Tt.b (P:=λy=>y=x) (Tt.o d.ix rfl) λy M=>Tt.c (λW=>Tt.c (λ_=>Tt.p λq2=>?_) λ_=>Tt.p nofun) λ_=>Tt.p nofun) λb h=>Tt.c (λq=>?_) λ_=>Tt.p (Q:=J2 _ _ _ _) gq
    .grind
    .obtain⟨Y,V⟩:=h q;refine Tt.b (Tt.a gq) λy M=>Tt.p (Q:=J2 _ _ _ _) ?_
     grind[Qz]
  .unfold K8;simp only[Jd,Vs];exact Tt.p ⟨_,rfl,om⟩
theorem th{c:CE}(h:CE.wf c)(R:Kn c){d:AN}(f:d∈c.AO):Tt (λn=>Mf n d.Ab) λr=>AI r<=1048576:=by
 have g:=fY h;obtain⟨⟨a,_⟩,b⟩:=R d f;exact(QjJ _ _ d.Ab (XU _) b (g.len d f) (g.wf d f) a).w om
theorem Qpv{c:CE}(f:CE.wf c)(R:Kn c)(k:Int):Tt (λn=>RM n c k) λ_=>True:=by
 unfold RM;refine Qp (Qpw c f) λb=>Yv <| Qp (mZ c.AO (JD f).dist (λi x d=>?_) λn=>by simp_all[VY]) λb=>by cases b<;>exact Tt.z
 unfold VY;simp only[d.lt,Vr,d.ix,XK,d.nx];exact Qp (th f R d.mem).any λ_=>Yv <| Tt.p rfl
theorem QlM{c:CE}(he:Ev (λn=>D2 n c) 0)(i:Int):Tt (λn=>Ip n c i) λe=>e=0->0<=i/\i<(AI c.AO:Int):=by
 unfold Ip;refine Tt.b (P:=λe=>e=0) (Tt.e he rfl) λe d=>?_;subst d;refine Tt.c (λq=>by cases q) λ_=>Tt.b (P:=λb=>b=AD->0<=i/\i<(AI c.AO:Int)) (Tt.n λh=>Tt.p λq=>?_) λb f=>Tt.n λq=>Tt.p λ_=>f q;have h:=Vy h;have q:=Vy q;exact⟨om,om⟩
theorem Qnq{c:CE}(h:CE.wf c)(R:Kn c)(he:Ev (λn=>D2 n c) 0)(i:Int):Tt (λn=>Pe n c i) λ_=>True:=by
 unfold Pe;refine Tt.b (QlM he i) λe g=>Tt.k λq=>?_;obtain⟨a,b⟩:=g gq;exact Tt.b (Tt.i a b) λd f=>Qp (Tt.z) λ_=>Qp (th h R f).any λ_=>Qp (Tt.z) λ_=>Yv <| Tt.z
section
variable {α:Type}
theorem m0{R:AA α->Prop}(l:AA α)(x:α){i:Int}(q:0<=i)(j:i<=(AI l:Int))(hl:AI l<=100000)(h:∀m,AI m=AI l+1->(∀y∈m,y=x\/y∈l)->R m):
  Tt (λ_=>(Do l i (AI l:Int)).bind λa=>(app [x] a).bind λb=>(Do l 0 i).bind λc=>(app c b).bind λd=>AC d) R:=by
 refine Tt.b (Tt.sl q j (Int.le_refl _)) λp t=>Tt.b (Tt.a (by simp;omega)) λG B=>?_;subst B;refine Tt.b (Tt.sl (Int.le_refl 0) q j) λH E=>Tt.b (Tt.a (by simp;omega)) λF f=>Tt.p (h _ ?_ λy g=>?_)
 .subst f;simp;omega
 .subst f;simp only[VG,VD]at g;rcases g with h|h|h
  .exact .inr (E.2 y h)
  .exact .inl h
  .exact .inr (t.2 y h)
theorem Qrf{R:AA α->Prop}(l:AA α)(x:α){i:Int}(g:0<=i)(f:i<=(AI l:Int))(hl:AI l<=100000)(h:∀m,AI m=AI l+1->(∀y∈m,y=x\/y∈l)->R m):
  Tt (λ_=>(Do l 0 i).bind λa=>(app ([]:AA α) a).bind λb=>(app b [x]).bind λc=>(Do l i (AI l:Int)).bind λd=>(app c d).bind λe=>AC e) R:=by
 refine Tt.b (Tt.sl (Int.le_refl 0) g f) λp t=>Tt.b (Tt.a (by simp;omega)) λF j=>?_;subst j;refine Tt.b (Tt.a (by simp;omega)) λH q=>Tt.b (Tt.sl g f (Int.le_refl _)) λB L=>?_;subst q;refine Tt.b (Tt.a (by simp;omega)) λE J=>Tt.p (h _ ?_ λy G=>?_)
 .grind
 grind
end
def Zu(c:CE)(l:AA AP):Prop:=∀s∈l,0<=s.AN/\s.AN<(AI c.AO:Int)
theorem Qro(l:AA AP)(b:Int)(hl:AI l<=1000):Tt (λn=>Ri n l b) λ_=>True:=by
 unfold Ri;refine Qp (QX l (λ(_:Unit) i=>i) (λ_ _=>True) om (λi x _ ha _=>?_) (λ_ _=>?_) () _ rfl trivial) λr=>?_
 .unfold UX;simp only[ha.lt,Vr,ha.ix,XK,ha.nx]
  simp_all[Tt.c,Tt.p]
 .simp_all[UX,Tt.p]
 .cases r<;>exact Tt.z
theorem w5(c:CE)(l:AA CP)(hl:AI l<=16){e:Int}(he:Ev (λn=>D2 n c) e):Tt (λn=>Mp n c l) λr=>AI r.1<=16/\Zu c r.1:=by
 unfold Mp;have nil:AI ([]:AA AP)<=16/\Zu c []:=⟨sq,λ_ h=>nomatch h⟩;refine Qp (Tt.e he trivial) λe=>Tt.c (λ_=>Tt.p nil) λ_=>Tt.b (Sm l hl) λC hC=>?_;refine Tt.b (P:=λ(a:AA AP)=>AI a<=16/\Zu c a) (QX C (λ(a:AA AP) i=>(a,i)) (λi a=>AI a<=i/\Zu c a) om (λi x a d g=>?_) (λa g=>?_) [] _ rfl gq) λa d=>Tt.c (λ_=>Tt.p nil) λ_=>?_
 .unfold UW;have:=d.lt';simp only[d.lt,Vr,d.ix,XK,d.nx];have skip:AI a<=i+1/\Zu c a:=⟨om,g.2⟩;refine Tt.b (P:=λ(m:AA AP)=>AI m<=i+1/\Zu c m) (Tt.b (P:=λb=>b=AD->0<=x.AP.AN/\x.AP.AN<(AI c.AO:Int)) (Tt.n λH=>Tt.n λG=>Tt.w (P:=λ_=>True) (Yv <| Qp (Qro a _ om) λ_=>Tt.z) λ_ _ _=>?_) λb L=>Tt.c (λ_=>Tt.p skip) λq=>?_) λm E=>Tt.p ⟨m,rfl,E⟩
  .have:=Vy G;exact⟨hC.2 x d.mem gq,om⟩
  refine Tt.b (Tt.find a om λj y f=>Qp (Tt.o f.ix trivial) λy=>Tt.z) λj f=>?_;refine Qrf a x.AP f.1 f.2 om λm J F=>⟨om,λs hs=>?_⟩;rcases F s hs with h|h
  .grind
  .exact g.2 s h
 .unfold UW;simp only[Jd,Vs];exact Tt.p gq
 refine Tt.b (P:=NS λ(r:AA AP×Int)=>r.1=[]) (QX a (λ(_:Unit) i=>i) (λ_ _=>True) om (λi x _ hx _=>?_) (λ_ _=>?_) () _ rfl trivial) λr t=>?_
 .unfold UT;have B:=hx.lt';simp only[hx.lt,Vr,hx.nx];refine Tt.b (P:=NS λ(r:CJ Int (CJ Unit (AA AP×Int)))=>r=.d (.d ([],180))) (Tt.up i om (λ(_:Unit) i=>i) (λ_ _=>True) (λj _ f hn _=>?_) (λ_ _=>?_) () _ rfl trivial) λr t=>?_
  .unfold VV;simp only[dT ((j:Int)<(i:Int)),Vr,hn];exact Qp (Tt.i (Int.natCast_nonneg i) om).any λ_=>Qp (Tt.i (Int.natCast_nonneg j) om).any λ_=>Tt.c (λ_=>Tt.p (Q:=Ka _ _ _ _) rfl) λ_=>Tt.p ⟨(),rfl,trivial⟩
  .simp_all[VV,Tt.p]
  .cases r with
   |k s=>exact Tt.p ⟨(),rfl,trivial⟩
   |d s=>cases t;exact Tt.p (Q:=Ka _ _ _ _) rfl
 .simp_all[UT,Tt.p]
 .cases r with
  |k s=>exact Tt.p d
  |d s=>simp_all[Tt.p]
theorem Qnh(l:AA CP)(r:A_)(hl:AI l<=16):Tt (λn=>Pa n l r) λ_=>True:=by
 unfold Pa;refine Qp (QX l (λ(_:Unit) i=>i) (λ_ _=>True) om (λi x _ ha _=>?_) (λ_ _=>?_) () _ rfl trivial) λr=>?_
 .unfold WK;simp only[ha.lt,Vr,ha.ix,XK,ha.nx];refine Qp ?_ λ_=>Yv <| Tt.p ⟨(),rfl,trivial⟩
  repeat' first|with_reducible exact Tt.p trivial|with_reducible refine Tt.c (λ_=>?_) λ_=>?_
 .simp_all[WK,Tt.p]
 .cases r<;>exact Tt.z
theorem Qnm(a b:A_):Tt (λn=>Pq n a b) λ_=>True:=by
 unfold Pq
 repeat' first|with_reducible exact Tt.p trivial|with_reducible refine Tt.c (λ_=>?_) λ_=>?_
theorem Qrj(c:CE)(l:AA CP)(hl:AI l<=16):Tt (λn=>RZ n c l) λr=>AI r<=16:=by
 unfold RZ;refine Tt.b (Sm l hl) λC hC=>?_;refine Tt.b (P:=λ(a:AA A_)=>AI a<=16) (QX C (λ(a:AA A_) i=>(a,i)) (λi a=>AI a<=i) om (λi x a d h=>?_) (λa h=>?_) [] _ rfl (XU _)) λa d=>Tt.p d
 .unfold V_;have:=d.lt';simp only[d.lt,Vr,d.ix,XK,d.nx];refine Tt.b (P:=λ(m:AA A_)=>AI m<=i+1) (Qp (Yv <| Yv <| Qp (Qnh C _ hC.1) λ_=>Tt.z) λb=>Tt.c (λ_=>Tt.p om) λ_=>?_) λm g=>Tt.p ⟨m,rfl,g⟩;refine Tt.b (Tt.find a om λj y f=>Qp (Tt.o f.ix trivial) λy=>Qp (Qnm _ _) λ_=>Tt.z) λj f=>?_;exact m0 a x.A_ f.1 f.2 om λm t q=>om
 .unfold V_;simp only[Jd,Vs];exact Tt.p ⟨_,rfl,om⟩
theorem QpB(c:CE)(l:AA CP)(hl:AI l<=16){e:Int}(he:Ev (λn=>D2 n c) e):Tt (λn=>RA n c l) λr=>AI r<=16:=by
 unfold RA;refine Qp (Tt.e he trivial) λe=>Tt.c (λ_=>Tt.p sq) λ_=>Tt.b (Qrj c l hl) λC hC=>?_;refine Tt.b (P:=λ(a:AA CQ)=>AI a<=16) (QX C (λ(a:AA CQ) i=>(a,i)) (λi a=>AI a<=i) om (λi x a d j=>?_) (λa j=>?_) [] _ rfl (XU _)) λa d=>Tt.p d
 .unfold UZ;have:=d.lt';have w:i64.wrap ((AI a:Int)-1)=(AI a:Int)-1:=Dj;simp only[d.lt,Vr,d.ix,XK,d.nx,w];refine Tt.b (P:=λb=>b=AE->0<=(AI a:Int)-1) (Tt.c (λh=>?_) λ_=>Tt.p nofun) λb g=>?_
  .have h:=Vx h;refine Tt.w (P:=λ_=>True) ?_ λ_ _ _=>h
   repeat' first|with_reducible exact Tt.p trivial|with_reducible refine Tt.c (λ_=>?_) λ_=>?_|with_reducible refine Qp ?_ λ_=>?_|exact(Tt.i h om).any
  .refine Tt.b (P:=λ(m:AA CQ)=>AI m<=i+1) (Tt.c (λq=>?_) λ_=>Tt.b (Tt.a (by simp;omega)) λm f=>Tt.p gq) λm f=>Tt.p ⟨m,rfl,f⟩;have h:=g q;exact Qp (Tt.i h om).any λy=>Tt.b (Tt.set h om) λm f=>Tt.p om
 .unfold UZ;simp only[Jd,Vs];exact Tt.p ⟨_,rfl,om⟩
theorem Qrm(c:CE)(l:AA CP)(k:Int)(hl:AI l<=16){e:Int}(he:Ev (λn=>D2 n c) e):Tt (λn=>Rq n c l k) λr=>AI r<=16:=by
 unfold Rq;refine Tt.b (QpB c l hl he) λC hC=>?_;refine Tt.b (P:=λ(a:AA CQ)=>AI a<=16) (QX C (λ(a:AA CQ) i=>(a,i)) (λi a=>AI a<=i) om (λi x a d g=>?_) (λa g=>?_) [] _ rfl (XU _)) λa d=>Tt.p d
 .unfold U_;have:=d.lt';simp only[d.lt,Vr,d.ix,XK,d.nx];exact Tt.b (P:=λ(m:AA CQ)=>AI m<=i+1) (Tt.c (λ_=>Tt.b (Tt.a (by simp;omega)) λm f=>Tt.p gq) λ_=>Tt.p om) λm f=>Tt.p ⟨m,rfl,f⟩
 .unfold U_;simp only[Jd,Vs];exact Tt.p ⟨_,rfl,om⟩
theorem vI(l:AA CP)(k:Int)(hl:AI l<=16):Tt (λn=>Mh n l k) λr=>AI r<=16:=by
 unfold Mh;refine Tt.b (P:=λ(a:AA Int)=>AI a<=16) (QX l (λ(a:AA Int) i=>(a,i)) (λi a=>AI a<=i) om (λi x a d q=>?_) (λa q=>?_) [] _ rfl (XU _)) λa d=>Tt.p d
 .unfold VT;have:=d.lt';simp only[d.lt,Vr,d.ix,XK,d.nx];refine Tt.b (P:=λ(m:AA Int)=>AI m<=i+1) (Tt.c (λ_=>Tt.p om) λ_=>?_) λm g=>Tt.p ⟨m,rfl,g⟩;refine Tt.b (Tt.find a om λj y f=>Qp (Tt.o f.ix trivial) λy=>Tt.z) λj f=>?_;refine Qp (Tt.c (λh=>Qp (Tt.i f.1 (Vx h)).any λ_=>Tt.z) λ_=>Tt.z) λ_=>Tt.c (λ_=>Tt.p om) λ_=>?_;exact m0 a _ f.1 f.2 om λm B t=>om
 .unfold VT;simp only[Jd,Vs];exact Tt.p ⟨_,rfl,om⟩
theorem vJ(l:AA CP)(hl:AI l<=16):Tt (λn=>M5 n l) λr=>AI r<=16:=by
 unfold M5;refine Tt.b (Sm l hl) λC hC=>Tt.b (vI C 8 hC.1) λK hK=>?_;refine Tt.b (P:=λ(a:AA Ap)=>AI a<=16) (QX K (λ(a:AA Ap) i=>(a,i)) (λi a=>AI a<=i) om (λi x a d g=>?_) (λa g=>?_) [] _ rfl (XU _)) λa d=>Tt.p d
 .unfold U7;have:=d.lt';simp only[d.lt,Vr,d.nx];refine Tt.b (P:=λ(m:AA Ap)=>AI m<=i+1) (QX C (λ(_:Unit) i=>i) (λ_ _=>True) om (λj y _ hy _=>?_) (λ_ _=>?_) () _ rfl trivial) λm f=>Tt.p ⟨m,rfl,f⟩
  .unfold V2;simp only[hy.lt,Vr,hy.ix,XK,hy.nx];exact Qp (Tt.c (λ_=>Qp (Tt.o d.ix trivial) λ_=>Tt.z) λ_=>Tt.z) λ_=>Tt.c (λ_=>Tt.b (Tt.a (by simp;omega)) λm f=>Tt.p (Q:=Ka _ _ _ _) gq) λ_=>Tt.p ⟨(),rfl,trivial⟩
  .unfold V2;simp only[Jd,Vs];exact Tt.p ⟨_,rfl,om⟩
 .unfold U7;simp only[Jd,Vs];exact Tt.p ⟨_,rfl,om⟩
theorem uR(l:AA Int)(k:Int)(hl:AI l<=1000):Tt (λn=>Mv n l k) λr=>AI r<=AI l+1:=by
 unfold Mv;refine Tt.b (Tt.find l om λj y d=>Qp (Tt.o d.ix trivial) λy=>Tt.z) λj d=>?_;refine Qp (Tt.c (λh=>Qp (Tt.i d.1 (Vx h)).any λ_=>Tt.z) λ_=>Tt.z) λ_=>Tt.c (λ_=>Tt.p om) λ_=>?_;exact m0 l _ d.1 d.2 om λm f g=>om
theorem jr(l:AA CP)(a b:Int)(hl:AI l<=16):Tt (λn=>KE n l a b) λr=>r<(AI l:Int):=by
 unfold KE;refine Tt.b (P:=NS λr=>r<(AI l:Int)) (QX l (λ(_:Unit) i=>i) (λ_ _=>True) om (λi x _ ha _=>?_) (λ_ _=>?_) () _ rfl trivial) λr d=>?_
 .unfold WE;have:=ha.lt';simp only[ha.lt,Vr,ha.ix,XK,ha.nx];refine Qp ?_ λ_=>Tt.c (λ_=>Tt.p (Q:=Ka _ _ _ _) om) λ_=>Tt.p ⟨(),rfl,trivial⟩
  repeat' first|with_reducible exact Tt.p trivial|with_reducible refine Tt.c (λ_=>?_) λ_=>?_
 .simp_all[WE,Tt.p]
 .cases r with
  |k s=>exact Tt.p om
  |d s=>exact Tt.p d
theorem Qik(l:AA CP)(a:Int)(hl:AI l<=16):Tt (λn=>RW n l a) λ_=>True:=by
 unfold RW;refine Qp (Qp (jr l a 1 hl).any λ_=>Yv <| Qp (jr l a 2 hl).any λ_=>Tt.z) λ_=>Yv <| ?_
 refine Qp (QX l (λ(_:Unit) i=>i) (λ_ _=>True) om (λi x _ ha _=>?_) (λ_ _=>?_) () _ rfl trivial) λr=>?_
 .unfold WW;simp only[ha.lt,Vr,ha.ix,XK,ha.nx];refine Qp ?_ λ_=>Yv <| Tt.p ⟨(),rfl,trivial⟩
  repeat' first|with_reducible exact Tt.p trivial|with_reducible refine Tt.c (λ_=>?_) λ_=>?_
 .simp_all[WW,Tt.p]
 .cases r<;>exact Tt.z
theorem tj(l:AA CP)(a:Int)(hl:AI l<=16):Tt (λn=>Mx n l a) λr=>r<(AI l:Int):=by
 unfold Mx;exact Qp (Qik l a hl) λ_=>Tt.c (λ_=>Tt.p om) λ_=>Tt.b (jr l a 2 hl) λr h=>Tt.c (λ_=>Tt.p h) λ_=>Tt.b (jr l a 1 hl) λr h=>Tt.p h
theorem QpA(l:AA CP)(hl:AI l<=16):Tt (λn=>PX n l) λr=>AI r<=16:=by
 unfold PX;refine Tt.b (Sm l hl) λC hC=>Tt.b (vI C 10 hC.1) λK hK=>?_;refine Tt.b (P:=λ(a:AA Ao)=>AI a<=16) (QX K (λ(a:AA Ao) i=>(a,i)) (λi a=>AI a<=i) om (λi x a d j=>?_) (λa j=>?_) [] _ rfl (XU _)) λa d=>Tt.p d
 .unfold UV;have:=d.lt';simp only[d.lt,Vr,d.ix,XK,d.nx];exact Tt.b (tj C x hC.1) λr g=>Tt.b (P:=λ(m:AA Ao)=>AI m<=i+1) (Tt.c (λh=>Qp (Tt.i (Vx h) g).any λ_=>Tt.b (Tt.a (by simp;omega)) λm f=>Tt.p gq) λ_=>Tt.p om) λm f=>Tt.p ⟨m,rfl,f⟩
 .unfold UV;simp only[Jd,Vs];exact Tt.p ⟨_,rfl,om⟩
theorem Qrl(l:AA CP)(a:Int)(hl:AI l<=16):Tt (λn=>P2 n l a) λ_=>True:=by
 unfold P2;refine Tt.b (Sm l hl) λC hC=>Tt.b (tj C a hC.1) λr d=>Tt.k λq=>?_;have:=Vy q;exact Qp (Tt.i om d).any λ_=>Tt.z
theorem Qnk(l:AA CP)(a:Int)(hl:AI l<=16):Tt (λn=>P4 n l a) λ_=>True:=by
 unfold P4;refine Tt.b (vJ l hl) λC hC=>Qp (QX C (λ(_:Unit) i=>i) (λ_ _=>True) om (λi x _ ha _=>?_) (λ_ _=>?_) () _ rfl trivial) λr=>?_
 .unfold WA;simp only[ha.lt,Vr,ha.ix,XK,ha.nx]
  simp_all[Tt.c,Tt.p]
 .simp_all[WA,Tt.p]
 .cases r<;>exact Tt.z
theorem QlH(c:CE)(l:AA CP)(a:Int)(hl:AI l<=16):Tt (λn=>Rg n c l a) λ_=>True:=by
 unfold Rg;refine Qp (Qrl l a hl) λr=>Qp ?_ λb=>?_
 .repeat' first|with_reducible exact Tt.p trivial|with_reducible refine Tt.c (λ_=>?_) λ_=>?_
 .cases b with
  |d s=>exact Tt.z
  |k s=>
   refine Qp (Qnk l a hl) λr=>Tt.b (P:=λb=>b=AD->0<=r.1.Ag/\r.1.Ag<(AI c.Ah:Int)) (Tt.n λ_=>Tt.n λh=>Tt.p λq=>?_) λb g=>Tt.k λq=>?_
   .grind
   .obtain⟨d,f⟩:=g q;exact Qp (Tt.i d f).any λ_=>Tt.z
theorem QlQ(c:CE)(l:AA CP)(a:Int)(hl:AI l<=16){e:Int}(he:Ev (λn=>D2 n c) e):Tt (λn=>Rb n c l a) λr=>AI r.2<=32:=by
 unfold Rb;refine Qp (Tt.e he trivial) λe=>Tt.c (λ_=>Tt.p sq) λ_=>Tt.b (vJ l hl) λR hR=>?_;refine Tt.b (P:=λ(a:AA Int)=>AI a<=16) (QX R (λ(a:AA Int) i=>(a,i)) (λi a=>AI a<=i) om (λi x a d f=>?_) (λa f=>?_) [] _ rfl (XU _)) λK1 h1=>Tt.b (QpA l hl) λA hA=>?_
 .unfold UU;have:=d.lt';simp only[d.lt,Vr,d.ix,XK,d.nx];exact Tt.b (uR a _ om) λm g=>Tt.p ⟨m,rfl,om⟩
 .unfold UU;simp only[Jd,Vs];exact Tt.p ⟨_,rfl,om⟩
 refine Tt.b (P:=λ(a:AA Int)=>AI a<=32) (QX A (λ(a:AA Int) i=>(a,i)) (λi a=>AI a<=16+i) om (λi x a d f=>?_) (λa f=>?_) K1 _ rfl om) λK2 h=>?_
 .unfold VZ;have:=d.lt';simp only[d.lt,Vr,d.ix,XK,d.nx];exact Tt.b (uR a _ om) λm g=>Tt.p ⟨m,rfl,om⟩
 .unfold VZ;simp only[Jd,Vs];exact Tt.p ⟨_,rfl,om⟩
 refine Tt.b (P:=λ(a:AA Int×AA CL)=>AI a.2<=32) (QX K2 (λ(a:AA Int×AA CL) i=>(a.1,a.2,i)) (λi a=>AI a.1<=i/\AI a.2<=i) om (λi x a d f=>?_) (λa f=>?_) ([],[]) _ rfl sq) λb j=>Tt.p j
 .unfold WR;have:=d.lt';simp only[d.lt,Vr,d.ix,XK,d.nx];refine Qp (QlH c l x hl) λr=>Qp (Tt.k λ_=>Tt.z) λb=>?_;refine Tt.b (P:=λ(m:AA Int×AA CL)=>AI m.1<=i+1/\AI m.2<=i+1) (Tt.c (λ_=>Tt.b (Tt.a (by simp;omega)) λm g=>Tt.b (Tt.a (by simp;omega)) λq h=>Tt.p gq) λ_=>Tt.p gq) λm g=>Tt.p ⟨m,rfl,g⟩
 .unfold WR;simp only[Jd,Vs];exact Tt.p ⟨_,rfl,gq⟩
theorem Qnf(l:AA CL)(hl:AI l<=32):Tt (λn=>Pv n l) λr=>AI r<=32:=by
 unfold Pv;refine Tt.b (P:=λ(a:AA CL)=>AI a<=32) (QX l (λ(a:AA CL) i=>(a,i)) (λi a=>AI a<=i) om (λi x a d h=>?_) (λa h=>?_) [] _ rfl (XU _)) λa d=>Tt.p d
 .unfold VQ;have:=d.lt';simp only[d.lt,Vr,d.ix,XK,d.nx];refine Tt.b (Tt.find a om λj y f=>Qp (Tt.o f.ix trivial) λy=>Qp (Tt.o d.ix trivial) λy=>Tt.z) λj f=>?_;refine Tt.b (Tt.sl f.1 f.2 (Int.le_refl _)) λp q=>Tt.b (Tt.a (by simp;omega)) λt m=>?_;subst m;refine Tt.b (Tt.sl (Int.le_refl 0) f.1 f.2) λF E=>Tt.b (Tt.a (by simp;omega)) λg B=>Tt.p ⟨g,rfl,?_⟩
  grind
 .unfold VQ;simp only[Jd,Vs];exact Tt.p ⟨_,rfl,om⟩
theorem Qrk{c:CE}(F:CE.wf c)(R:Kn c)(l:AA CP)(b:Int)(hl:AI l<=16)(he:Ev (λn=>D2 n c) 0):Tt (λn=>Rw n c l b) λr=>AI r<=32:=by
 unfold Rw;refine Tt.b (w5 c l hl he) λS hS=>Tt.c (λ_=>Tt.p sq) λ_=>?_;refine Tt.b (P:=NS λ(r:AA CL)=>AI r<=32) (QX S.1 (λ(_:Unit) i=>i) (λ_ _=>True) om (λi x _ ha _=>?_) (λ_ _=>?_) () _ rfl trivial) λr g=>?_
 .unfold V9;simp only[ha.lt,Vr,ha.ix,XK,ha.nx];refine Tt.b (P:=NS λ(r:CJ Int (CJ Unit (AA CL)))=>match r with|.d (.d p)=>AI p<=32|_=>False) (Yv <| ?_) λr g=>?_
  .refine Tt.b (QlQ c l b hl he) λC hC=>Tt.b (Qnf C.2 hC) λp h=>?_;obtain⟨E,G⟩:=hS.2 x ha.mem;refine Qp (Qnq F R he _) λ_=>Qp (Tt.i E G).any λd=>Qp (Tt.k λ_=>Tt.z) λroom=>?_
   .refine Tt.b (P:=λ(p:AA CL)=>AI p<=32) (Tt.l (λs:AA CL×Int×Int=>AI s.1=AI p/\0<=s.2.2/\s.2.2<=(AI p:Int)) (λs=>((AI p:Int)-s.2.2).toNat) (λs hs=>?_) (p,room,0) ⟨rfl,Int.le_refl 0,sq⟩) λp h=>Tt.p h;obtain⟨H,L,t⟩:=s;obtain⟨B,f,J⟩:=hs;simp only at B f J;unfold f7;refine Tt.c (λq=>?_) λ_=>Tt.p (Q:=J2 _ _ _ _) (by show AI H<=32;omega);have q:=Vx q;simp only at q;have e:i64.wrap (t+1)=t+1:=Dj;refine Qp (Tt.i f q).any λy=>Qp (Tt.i f q).any λz=>Tt.b (Tt.set f q) λm j=>Qp (Tt.i f (by rw[j.1];exact q)).any λw=>Tt.p (Q:=J2 _ _ _ _) ?_;show(_/\_/\_)/\_;simp only[e];exact⟨⟨j.1.trans B,om,om⟩,om⟩
  .cases r with
   |k s=>exact Tt.p ⟨(),rfl,trivial⟩
   |d s=>
    cases s with
    |k i=>exact absurd g sq
    |d s=>
     cases s with
     |k u=>exact absurd g sq
     |d p=>exact Tt.p (Q:=Ka _ _ _ _) g
 .unfold V9;simp only[Jd,Vs];exact Tt.p ⟨_,rfl,trivial⟩
 .cases r with
  |k s=>exact Tt.p sq
  |d s=>exact Tt.p g
structure HK (c:CE):Prop where
 wf:CE.wf c
 few:Fl c
 ty:Ev (λn=>GA n c) 0
 cE:CO c=0
 good:Dd c
structure iE (c:CE):Prop where
 wf:CE.wf c
 few:Fl c
 ty:Ev (λn=>GA n c) (CO c)
 ref:Ev (λn=>D2 n c) 0
 rr:Kn c
theorem iE.r{c:CE}(h:iE c)(e:CO c=0):HK c:=⟨h.wf,h.few,e▸h.ty,e,tv (JD h.wf) (fY h.wf) e⟩
abbrev xX:=AA CF×AA (AA Int)×Int×Int×Int×Int×Int×Int×Int×Int×AA CQ×AA AY×AA CL×Bool
section
variable {α β:Type}
theorem Ql8{l:AA α}[DecidableEq (AA α)](hl:AI l<=1048576):isNil l (AC ([]:AA α)) ((app ([]:AA α) l).bind λx=>AC x)=AC l:=by
 have:app [] l=AC l:=by rw[s_ _ _ (by simp;omega)];rfl
 unfold isNil
 grind
theorem Qpe{F:Nat->α->α->AB β}{V:α->α->β}(l:AA α)(h:∀x∈l,∀y∈l,Ev (λn=>F n x y) (V x y)):∃N,∀n,N<=n->∀x∈l,∀y∈l,F n x y=AC (V x y):=by
 obtain⟨N,d⟩:=pK (F:=λn p=>F n p.1 p.2) (V:=λp=>V p.1 p.2) (l.flatMap λx=>l.map λy=>(x,y)) (by
  grind)
 exact⟨N,λn hn x hx y f=>d n hn (x,y) gq⟩
def TB(c:α->α->Int)(x y:α):Bool:=AG (c x y<0)
theorem tL{c:α->α->Int}(d:Dv c)(l:AA α):OK (TB c) l:=by
 refine⟨λx _=>?_,λx _ y _ z _ g f=>?_,λx _ y _ z _ g f=>?_⟩
 .have:=d.refl x;exact Vz om
 .have g:=Vx g;have f:=Vx f;exact Vw (d.trans x y z g f)
 .have g:=Vy g;have f:=Vy f;refine Vz λh=>?_;have a:=d.swap x y;have b:=d.swap y z;by_cases e:c x y=0
  .rw[d.eqt x y z e]at h;exact f h
  .by_cases j:c y z=0
   .rw[<- d.eqr x j]at h;exact g h
   .have m:=d.trans z y x om om;have:=d.swap x z;omega
theorem QqM[DecidableEq α]{g:Nat->α->α->AB Int}{l:AA α}{c:α->α->Int}(hl:AI l<=1048576)(F:∀x∈l,∀y∈l,Ev (λn=>g n x y) (c x y))(d:Dv c)(B:∀x∈l,∀y∈l,c x y=0->x=y):
  Ev (λn=>MB (g n) l) (MA (TB c) l):=by
 obtain⟨N,E⟩:=Qpe l F;refine⟨N,λn hn=>?_⟩;have h:=E n hn;have t:=Qnz (XS (Qp3 hl)) c h (λx _=>by have:=d.refl x;omega) (λx _ y _ z _=>d.trans x y z) (λx hx y f z G m j=>by
   have:=(tL d l).ntrans x hx y f z G (Vz m) (Vz j);exact Vy this) (λx hx y f m j=>B x hx y f (by have:=d.swap x y;omega))
 show MB (g n) l=AC (MA (TB c) l);rw[t];congr 1;obtain⟨_,_,hs,_,_⟩:=oV t;have q:∀x∈l,∀y∈l,HL (g n) x y=TB c x y:=λx hx y f=>by unfold HL TB;grind
 refine pB ((YT _ l).trans (YT _ l).symm) (λx hx y f m j=>?_) ?_ (js (tL d l))
 .grind[YT]
 grind[List.Pairwise.imp_of_mem,js,YT]
end
def DL:AA Int->AA Int->Int
 |[],[]=>0
 |[],_::_=> -1
 |_::_,[]=>1
 |x::a,y::b=>bif DM x y != 0 then DM x y else DL a b
theorem Qqq(a b:AA Int)(J:AI a<=1048576)(L:AI b<=1048576):Ev (λn=>RC n a b) (DL a b):=by
 unfold RC;have h:∀(r:AA Int) (i:Nat),a.drop i=r->i<=AI a->i<=AI b->∃d:CJ Unit Int,C9 (λn=>LD n a b) (i:Int) d/\(match d with|.k _=>(bif (AI a:Int)<(AI b:Int) then(-1:Int)else 0)|.d v=>v)=DL r (b.drop i):=by
  intro r
  induction r with
  |nil=>
   intro i j F B;refine⟨.k (),Ei ?_,?_⟩
   .unfold LD;simp only[QH j F,Vs];exact Qa _
   .have f:i=AI a:=by have:=Xq.1 j;omega
    cases q:b.drop i with
    |nil=>
     simp_all[QN,DL]
    |cons y s=>
     have:i<AI b:=by
      grind
     simp_all[DL]
  |cons x r G=>
   intro i j F B;obtain⟨f,H⟩:=Qs om j;by_cases E:AI b<=i
   .refine⟨.d 1,Ei ?_,?_⟩
    .unfold LD;simp only[f.lt,Vr,f.ix,XK,dT ((AI b:Int)<=(i:Int))];exact Qa _
    .rw[List.drop_of_length_le E];rfl
   .have g:i<AI b:=by omega
    rw[Xp g];cases q:(DM x b[i] != 0)with
    |true=>
     refine⟨.d (DM x b[i]),Ei ?_,?_⟩
     .unfold LD;simp only[f.lt,Vr,f.ix,XK,dF ((AI b:Int)<=(i:Int)),Vs,Qf (XL g)];refine Ea (iu _ _) ?_;rw[q];exact Qa _
     .simp only[DL,q,Vr]
    |false=>
     obtain⟨d,t,m⟩:=G (i+1) H (by have:=f.lt';omega) om;refine⟨d,Eu ?_ t,?_⟩
     .unfold LD;simp only[f.lt,Vr,f.ix,XK,dF ((AI b:Int)<=(i:Int)),Vs,Qf (XL g),f.nx];refine Ea (iu _ _) ?_;rw[q];exact Qa _
     simp_all[DL]
 obtain⟨d,t,m⟩:=h a 0 rfl (XV _) (XV _);rw[List.drop_zero]at m;refine Ea t.ev ?_;rw[<- m];cases d with
 |d v=>exact Qa _
 |k _=>exact YQ (λ_=>Qa _) (λ_=>Qa _)
theorem QoL(a b:Int):DM a b<0↔a<b:=by
 grind[DM]
theorem jA(a b:Int):(DM a b != 0)=(a != b):=by
 grind[DM]
theorem Qqz(x y:Int)(a b:AA Int):DL (x::a) (y::b)<0↔x<y\/x=y/\DL a b<0:=by
 rw[show DL (x::a) (y::b)=bif DM x y != 0 then DM x y else DL a b from rfl,jA];by_cases e:x=y
 .subst e;simp
 .have:(x != y)=true:=by grind
  rw[this,Vr,QoL];omega
theorem wL:∀a b c:AA Int,DL a b<0->DL b c<0->DL a c<0
 |[],[],c,h,_=>om
 |[],y::b,[],_,h=>by simp[DL]at h
 |[],y::b,z::c,_,_=>by simp[DL]
 |x::a,[],c,h,_=>by simp[DL]at h
 |x::a,y::b,[],_,h=>by simp[DL]at h
 |x::a,y::b,z::c,h1,h2=>by
  rw[Qqz]at h1 h2⊢;rcases h1 with h1|⟨e1,h1⟩<;>rcases h2 with h2|⟨e2,h2⟩
  iterate 3 left;omega
  .exact .inr ⟨om,wL a b c h1 h2⟩
theorem QqN{α:Type}[DecidableEq α](l m:AA α)(step:Nat->Int->AB (CJ Int (CJ Unit Bool)))(hl:AI l<=4611686018427387904)
  (hs:∀n s,step n s=(bif s<(AI l:Int) then(CN l s).bind λx=>(CN m s).bind λy=>(bif (x != y)then AC (.d (.d AD))else AC (.k (i64.wrap (s+1))))else AC (.d (.k ())))):
  Ev (λn=>(bif ((AI l:Int) != (AI m:Int))then AC AD else(Go.Sw.iter (step n) n 0:AB (CJ Unit Bool)).bind λb11=>match b11 with|.k sb11=>(AC AE)|.d sb11=>AC sb11)) (AG (l=m)):=by
 by_cases j:AI l=AI m
 .rw[show(AI l != (AI m:Int))=AD by grind];have loop:∀(r d:AA α) (i:Nat),l.drop i=r->m.drop i=d->i<=AI l->C9 step i (bif r=d then CJ.k ()else CJ.d AD):=by
   intro r
   induction r with
   |nil=>
    grind[C9.done,Qa,QH]
   |cons x r E=>
    intro d i F h G;obtain⟨f,q⟩:=Qs hl F;have B:=f.lt';cases d with
    |nil=>
     have h1:=Xq.1 h;omega
    |cons y d=>
     obtain⟨t,g⟩:=Qs om h;by_cases e:x=y
     .subst e;refine Eu ?_ ((E d (i+1) q g om).eq ?_)
      .refine Ev.congr (Qa _) λn=>?_;rw[hs,f.lt,f.ix,t.ix,Vr,XK,XK,f.nx];simp
      .simp
     .refine Ei (Ev.congr (Qa _) λn=>?_);rw[hs,f.lt,f.ix,t.ix,Vr,XK,XK,bne_iff_ne.2 e];simp[e]
  refine Ea (loop l m 0 rfl rfl (XV _)).ev ?_;cases AG (l=m)<;>exact Qa _
 .rw[show(AI l != (AI m:Int))=AE by rw[bne_iff_ne];omega];refine(Qa _).eq ?_;rw[QN λe=>j (by rw[e])]
theorem Qmg(l m:AA CH)(hl:AI l<=1048576):Ev (λn=>NG n l m) (AG (l=m)):=QqN l m (λn=>f9 n l m) om λn s=>rfl
set_option maxRecDepth 10000
def IX:AA (Int×Int)->Int
 |[]=>0
 |e::l=>e.2+IX l
theorem tf:∀(l m:AA (Int×Int)),IX (l++m)=IX l+IX m
 |[],m=>by simp[IX]
 |e::l,m=>by simp only[VN,IX,tf l m];omega
theorem Ql4{l:AA (Int×Int)}{k:Int}(h:k∉l.map (·.1)):Qd l k 0=0:=by
 unfold Qd
 induction l with
 |nil=>rfl
 |cons e l d=>
  simp only[Vm,X9,not_or]at h;rw[Y2,Vu (λq=>h.1 q.symm)];exact d h.2
theorem m9{l:AA (Int×Int)}{k:Int}(h:k∈l.map (·.1)):(k,Qd l k 0)∈l:=by
 unfold Qd
 induction l with
 |nil=>simp at h
 |cons e l d=>
  rw[Y2]
  grind
theorem aF{l:AA (Int×Int)}{k:Int}(h:k∈l.map (·.1))(v:Int):QE l k v=l.map λp=>bif p.1=k then(p.1,v)else p:=by
 unfold QE
 grind
theorem QnO{l:AA (Int×Int)}{k:Int}(h:k∉l.map (·.1))(v:Int):QE l k v=l++[(k,v)]:=by
 unfold QE
 grind
theorem ey{l:AA (Int×Int)}{k:Int}(h:k∈l.map (·.1))(v:Int):(QE l k v).map (·.1)=l.map (·.1):=by
 rw[aF h,List.map_map];refine List.map_congr_left λe _=>?_
 grind
theorem tO{l:AA (Int×Int)}{k:Int}(h:k∈l.map (·.1))(v:Int):AI (QE l k v)=AI l:=by
 rw[aF h,X4]
theorem ut{l:AA (Int×Int)}{k:Int}(h:k∈l.map (·.1))(v:Int):∀e∈QE l k v,e.2=v\/e∈l:=by
 intro e d;rw[aF h]at d
 grind
theorem tM{l:AA (Int×Int)}{k v:Int}(h:k∉l.map (·.1)):(l.map λp=>bif p.1=k then(p.1,v)else p)=l:=by
 induction l with
 |nil=>rfl
 |cons e l d=>
  grind
theorem uu{l:AA (Int×Int)}{k:Int}(nd:(l.map (·.1)).Nodup)(h:k∈l.map (·.1))(v:Int):IX (QE l k v)=IX l+v-Qd l k 0:=by
 rw[aF h];unfold Qd
 induction l with
 |nil=>simp at h
 |cons e l d=>
  simp only[Vm,List.nodup_cons]at nd;rw[Y2,Vm];by_cases q:e.1=k
  .subst q;rw[tM nd.1,Yr rfl,Vv rfl]
   grind[IX]
  .have hk:k∈l.map (·.1):=by
    grind
   have:=d nd.2 hk;rw[Vu q,QN q]
   grind[IX]
theorem Ql3{l:AA (Int×Int)}{k:Int}(nd:(l.map (·.1)).Nodup)(h:k∈l.map (·.1))(v:Int):QE (QE l k v) k (Qd l k 0)=l:=by
 rw[aF (by rw[ey h];exact h),aF h];unfold Qd
 induction l with
 |nil=>rfl
 |cons e l d=>
  simp only[Vm,List.nodup_cons]at nd;rw[Y2,Vm,Vm];by_cases q:e.1=k
  .subst q
   simp_all[tM]
  .have hk:k∈l.map (·.1):=by
    grind
   simp_all
theorem QpY{l:AA Int}{x:Int}(h:x∈l):N6 l x=true:=by
 grind[N6,ju]
theorem nC(W:CW)(U:AA Bool)(d:∀h:Nat,U[h]?=AC AE->N6 W.Ak (h:Int)=AE)(hn:AI U<=1000):∀(H:AA CQ) (i:Nat) (a:Int),i+AI H=AI U->0<=a->a<=(i:Int)->G7 W H i a<=a+((U.drop i).count AD:Int)
 |[],i,a,h,_,_=>by
  show a<=a+_;omega
 |y::H,i,a,h,h0,h1=>by
  simp only[X3]at h;have hi:i<AI U:=om;rw[Xp hi,List.count_cons];show G7 W H (i+1) _<=_;cases q:N6 W.Ak (i:Int)with
  |true=>
   have:=nC W U d hn H (i+1) a om h0 om
   grind
  |false=>
   have hf:U[i]=false:=by
    grind
   have w:i64.wrap (a+1)=a+1:=Dj;have:=nC W U d hn H (i+1) (a+1) om om om
   grind
theorem tu(f:Int×Int->Int):∀(l:AA (Int×Int)) (s:Int),(∀e∈l,e.2<=f e/\0<=f e/\f e<=100000)->0<=s->s+100000*(AI l:Int)<=1000000000000->s+IX l<=l.foldl (λs e=>i64.wrap (s+f e)) s
 |[],s,_,_,_=>by show s+0<=s;omega
 |e::l,s,h,h0,hb=>by
  obtain⟨a,b,c⟩:=h e (X7 ..);simp only[X3]at hb;have w:i64.wrap (s+f e)=s+f e:=Dj;have:=tu f l (s+f e) gq om om
  grind[IX]
set_option maxRecDepth 10000
theorem Qm5(n:Int):i64.wrap n=if n%18446744073709551616≥9223372036854775808 then n%18446744073709551616-18446744073709551616 else n%18446744073709551616:=by
 simp_all[IntKind.wrap,IntKind.bits,IntKind.signed]
theorem Qlz(z a b:Int):i64.wrap (i64.wrap (z+a)+b)=i64.wrap (i64.wrap (z+b)+a):=by
 simp only[Qm5];omega
theorem Qrb(f:Int×Int->Int)(l:AA (Int×Int)):anyP (λp=>(L7 (λ(s:Int) (e:Int×Int)=>AC (CJ.k (i64.wrap (s+f e)))) (λs=>AC s) 0 p).bind λb=>AC b) l=AC (l.foldl (λs e=>i64.wrap (s+f e)) 0):=by
 have run:∀(p:AA (Int×Int)) (s:Int),L7 (B:=Int) (λ(s:Int) (e:Int×Int)=>AC (CJ.k (i64.wrap (s+f e)))) (λs=>AC s) s p=AC (p.foldl (λs e=>i64.wrap (s+f e)) s):=by
  intro p
  induction p with
  |nil=>intro s;rfl
  |cons e p g=>intro s;exact g _
 unfold anyP;have:(Li l).all (λp=>AG (((L7 (B:=Int) (λ(s:Int) (e:Int×Int)=>AC (CJ.k (i64.wrap (s+f e)))) (λs=>AC s) 0 p).bind λb=>AC b)=((L7 (B:=Int) (λ(s:Int) (e:Int×Int)=>AC (CJ.k (i64.wrap (s+f e)))) (λs=>AC s) 0 l).bind λb=>AC b)))=true:=by
  rw[Xs];intro p d;rw[run,run,Vt];exact congrArg AC ((jp l p d).foldl_eq' (λx _ y _ z=>Qlz z (f x) (f y)) 0)
 rw[this];simp only[Vr];rw[run];rfl
def Ls(F M:AA (Int×Int)):Int:=F.foldl (λs e=>i64.wrap (s+(if 0<i64.wrap (e.2-Qd M e.1 0)then i64.wrap (e.2-Qd M e.1 0)else 0))) 0
theorem wO(F M:AA (Int×Int)):Ev (λn=>Rn n F M) (Ls F M):=
 Ez (o:=Rn 0 F M) (Qrb (λe=>if 0<i64.wrap (e.2-Qd M e.1 0)then i64.wrap (e.2-Qd M e.1 0)else 0) F)
theorem uO(t:Cj)(s:Uf)(p h:Int)(d:0<=s.row):(C8 t s p h).1.row<=s.row+1:=by
 unfold C8
 grind
theorem iY{α:Type}{l:AA α}{i:Int}{x:α}(f:0<=i)(d:i<(AI l:Int)):Tt (λ_=>JF l i x) (λm=>m=l.set i.toNat x):=by
 simp_all[Tt.o,JF]
def WL(t:Cj)(L:AA CW):Prop:=AI L<=65/\ ∀w∈L,AI w.Ak=AI t.r/\(-1<=w.Ai/\w.Ai<=300)/\Dq t w=AE
abbrev mS:=AA CW×AA Int×AA (Int×Int)×AA Bool×AA (Int×Int)
def SR(t:Cj)(W:AA Int)(U:AA Bool)(M F:AA (Int×Int))(r:mS):Prop:=WL t r.1/\r.2.1=W/\r.2.2.2.1=U/\r.2.2.2.2=F/\ ∀m,Qd r.2.2.1 m 0=Qd M m 0
structure Sv (t:Cj) (p:Nat) (en:Bool) (la:Int) (s:Uf) (W:List Int) (U:List Bool) (M F:List (Int×Int)):Prop where
 st:Km t s
 row:s.row<=(p:Int)
 wl:AI W=AI t.r
 ul:AI U=AI t.H
 tail:∀j,p<=j->j<AI t.r->W[j]?=AC (-1)
 used:∀h:Nat,U[h]?=AC AE->(h:Int)∈W
 cnt:∀m,Qd M m 0=((t.r.drop p).count m:Int)
 nd:(F.map (·.1)).Nodup
 fl:AI F<=1000
 fb:∀e∈F,-(p:Int)<=e.2/\e.2<=1000
 sum:IX F=(U.count AD:Int)
 key:∀h∈t.H,h.Af∈F.map (·.1)
 l0: -1<=la
 l1:la<(p:Int)
 l2:en=AD->la=(p:Int)-1
 pre:∃u,(∀h:Int,Qd u h AD=AE->0<=h/\U[h.toNat]?=AC AE)/\ ∀W':CW,AI W'.Ak=AI t.r->(∀j,j<p->W'.Ak[j]?=W[j]?)->(en=AE->W'.Ai=la)->(en=AD->(p:Int)-1<=W'.Ai)->
  admL t W' (W'.Ak.drop p) p u s=AE->admL t W' W'.Ak 0 [] Ns=AE
theorem jl{α:Type}{l:AA α}{p:Nat}{x:α}(h:l[p]?=AC x):l.drop p=x::l.drop (p+1):=by
 grind[List.drop_eq_getElem_cons]
theorem oF{t:Cj}{p:Nat}{x:Int}{M:AA (Int×Int)}(d:t.r[p]?=AC x)(hn:AI t.r<=256)(h:∀m,Qd M m 0=((t.r.drop p).count m:Int))(m:Int):
  Qd (QE M x (i64.wrap (Qd M x 0-1))) m 0=((t.r.drop (p+1)).count m:Int):=by
 have e:∀m,((t.r.drop p).count m:Int)=((t.r.drop (p+1)).count m:Int)+(if x=m then 1 else 0):=by
  intro m;rw[jl d,List.count_cons];by_cases q:x=m<;>simp[q]
 have f:(t.r.drop (p+1)).count x<=256:=XW List.count_le_length (by rw[List.length_drop];omega);rw[YG];by_cases q:m=x
 .subst q;rw[Vv rfl,h,e,Vv rfl,Dj];omega
 .rw[Vu q,h,e,Vu (λz=>q z.symm)];omega
theorem QoJ{M M2:AA (Int×Int)}{x:Int}(d: -100000<=Qd M x 0/\Qd M x 0<=100000)(h:∀m,Qd M2 m 0=Qd (QE M x (i64.wrap (Qd M x 0-1))) m 0)(m:Int):
  Qd (QE M2 x (i64.wrap (Qd M2 x 0+1))) m 0=Qd M m 0:=by
 rw[YG];by_cases q:m=x
 .subst q;rw[Vv rfl,h,YG,Vv rfl,Qz (n:=Qd M m 0-1) om om,Dj];omega
 .rw[Vu q,h,YG,Vu q]
theorem QpE{t:Cj}(ok:DI t){g:Bool}{d:Int}{s:Uf}{W:AA Int}{U:AA Bool}{M F:AA (Int×Int)}(v:Sv t (AI t.r) g d s W U M F)(x:t.hi<=d)(m:¬t.c.AT.BF<Ls F M):
  Dq t {Ak:=W,Ai:=d}=true:=by
 have rl:=ok.rl;have hl:=ok.hl;unfold Dq;have j:F9 t {Ak:=W,Ai:=d}=false:=by
  unfold F9;have a:=v.l0;have b:=v.l1;have wl:=v.wl;have y:IX F<=Ls F M:=by
   have z:=tu (λe=>if 0<i64.wrap (e.2-Qd M e.1 0)then i64.wrap (e.2-Qd M e.1 0)else 0) F 0 (λe f=>by
    have:=v.fb e f;have c:=v.cnt e.1;rw[Xr,List.count_nil]at c;have w:i64.wrap (e.2-Qd M e.1 0)=e.2:=by rw[c,Dj];omega
    simp only[w];split<;>omega) om (by have:=v.fl;omega)
   rw[Int.zero_add]at z;exact z
  have sl:=nC {Ak:=W,Ai:=d} U (λh q=>QpY (v.used h q)) (by have:=v.ul;omega) t.H 0 0 (by have:=v.ul;omega) (Int.le_refl 0) (Int.le_refl 0);rw[List.drop_zero]at sl;have B:=v.sum;simp only[wl,bne_self_eq_false,Bool.false_or];rw[QN om,QN om,QN om,QN om];rfl
 rw[j,Vs];obtain⟨u,_,pre⟩:=v.pre;refine pre {Ak:=W,Ai:=d} v.wl (λ_ _=>rfl) (λ_=>rfl) (λq=>by have:=v.l2 q;show(AI t.r:Int)-1<=d;omega) ?_;show admL t _ (W.drop (AI t.r)) _ _ _=AE;rw[<- v.wl,Xr];rfl
theorem QpD{t:Cj}(ok:DI t){p:Nat}{y:Int}{s:Uf}{W:AA Int}{U:AA Bool}{M F:AA (Int×Int)}(v:Sv t p AD y s W U M F){x:Int}(hx:t.r[p]?=AC x)(h:(C8 t s (p:Int) (-1)).2=AE):
  Sv t (p+1) AD (p:Int) (C8 t s (p:Int) (-1)).1 W U (QE M x (i64.wrap (Qd M x 0-1))) F:=by
 have rl:=ok.rl;have f:=(XM.1 hx).1;have E:=v.row;refine {v with st:=nB ok v.st om (.inl om) om,row:=?_,tail:=λj a b=>v.tail j om b,cnt:=oF hx rl v.cnt,fb:=λe g=>?_,l0:=om,l1:=om,l2:=λ_=>om,pre:=?_}
 .have:=uO t s (p:Int) (-1) v.st.r0;omega
 .have:=v.fb e g;omega
 .obtain⟨u,m,pre⟩:=v.pre;refine⟨u,m,λW' a b _ d q=>pre W' a (λj B=>b j om) nofun (λ_=>by have:=d rfl;omega) ?_⟩;have e:W'.Ak[p]?=AC (-1):=by rw[b p om];exact v.tail p (XU _) f
  have G:=d rfl;rw[jl e,aS];have:((-1:Int) != -1)=false:=by decide
  simp only[this,Bool.false_and,Vs,h,Xg];rw[QN om,Vs];exact q
theorem Qrr{t:Cj}(ok:DI t){p:Nat}{y:Bool}{d:Int}{s:Uf}{W:AA Int}{U:AA Bool}{M F:AA (Int×Int)}(v:Sv t p y d s W U M F){x:Int}(hx:t.r[p]?=AC x):
  Sv t (p+1) AE d s W U (QE M x (i64.wrap (Qd M x 0-1))) F:=by
 have rl:=ok.rl;have f:=(XM.1 hx).1;have h:=v.l1;refine {v with row:=by have:=v.row;omega,tail:=λj a b=>v.tail j om b,cnt:=oF hx rl v.cnt,fb:=λe g=>by have:=v.fb e g;omega,l1:=om,l2:=nofun,pre:=?_};obtain⟨u,m,pre⟩:=v.pre;refine⟨u,m,λW' a b c _ q=>pre W' a (λj B=>b j om) (λ_=>c rfl) (λz=>by have:=v.l2 z;rw[c rfl];omega) ?_⟩;have e:W'.Ak[p]?=AC (-1):=by rw[b p om];exact v.tail p (XU _) f
 rw[jl e,aS];have:((-1:Int) != -1)=false:=by decide
 simp only[this,Bool.false_and,Vs];rw[Yr (show W'.Ai<(p:Int)by rw[c rfl];omega),Vr];exact q
theorem Qrq{t:Cj}(ok:DI t){p i:Nat}{R:Int}{s:Uf}{W:AA Int}{U:AA Bool}{M F:AA (Int×Int)}(v:Sv t p AD R s W U M F){x:Int}(hx:t.r[p]?=AC x){y:CQ}(g:t.H[i]?=AC y)(G:y.Af=x)(E:U[i]?=AC AD)(O:(C8 t s (p:Int) (i:Int)).2=AE)
  {M2:AA (Int×Int)}(Q:∀m,Qd M2 m 0=((t.r.drop (p+1)).count m:Int)):
  Sv t (p+1) AD (p:Int) (C8 t s (p:Int) (i:Int)).1 (W.set p (i:Int)) (U.set i AE) M2 (QE F x (i64.wrap (Qd F x 0-1))):=by
 have rl:=ok.rl;have N:=(XM.1 hx).1;have T:=(XM.1 g).1;have hr:=v.row;have wl:=v.wl;have P:Fs t (i:Int):=.inr (by simpa using T);have hk:x∈F.map (·.1):=by rw[<- G];exact v.key y (VK g)
 have X:=v.fb _ (m9 hk);simp only at X;have w:i64.wrap (Qd F x 0-1)=Qd F x 0-1:=Dj;rw[w];obtain⟨f,B⟩:=XM.1 E;refine {st:=nB ok v.st om P om,row:=?_,wl:=by rw[X6];exact wl,ul:=by rw[X6];exact v.ul,tail:=λj a b=>?_,used:=λh q=>?_,cnt:=Q,nd:=by rw[ey hk];exact v.nd,fl:=by rw[tO hk];exact v.fl,fb:=λe Y=>?_,sum:=?_,key:=λh q=>by rw[ey hk];exact v.key h q,l0:=om,l1:=om,l2:=λ_=>om,pre:=?_}
 .have:=uO t s (p:Int) (i:Int) v.st.r0;omega
 .rw[Xb,Vu om];exact v.tail j om b
 .rw[Xb]at q;by_cases z:i=h
  .subst z;exact VK (i:=p) (by rw[Xb,Vv rfl,Vv om])
  .rw[Vu z]at q;obtain⟨k,hk,e⟩:=List.getElem_of_mem (v.used h q);refine VK (i:=k) ?_;rw[Xb,Vu (λc=>?_),XL hk,e];subst c;have:=v.tail p (XU _) N;rw[XL hk,e]at this;have:=X0 this;omega
 .rcases ut hk _ e Y with z|z
  .omega
  .have:=v.fb e z;omega
 .rw[uu v.nd hk,v.sum,List.count_set f,B];have:0<U.count false:=List.count_pos_iff.2 (by rw[<- B];exact Vg f);simp;omega
 .obtain⟨u,J,pre⟩:=v.pre;refine⟨QE u (i:Int) AE,λh q=>?_,λW' a b _ d q=>pre W' a (λj hj=>by rw[b j om,Xb,Vu om]) nofun (λ_=>by have:=d rfl;omega) ?_⟩
  .rw[YG]at q;by_cases z:h=(i:Int)
   .subst z;exact⟨om,by rw[Int.toNat_natCast,Xb,Vv rfl,Vv f]⟩
   .rw[Vu z]at q;obtain⟨c1,L⟩:=J h q;exact⟨c1,by rw[Xb,Vu om];exact L⟩
  .have e:W'.Ak[p]?=AC (i:Int):=by rw[b p om,Xb,Vv rfl,Vv om]
   have dl:=d rfl;have nb:FJ t W' u p (i:Int)=false:=by
    unfold FJ;have V:Qd u (i:Int) AD=false:=by
     cases z:Qd u (i:Int) AD with
     |false=>rfl
     |true=>
      have:=(J _ z).2;rw[Int.toNat_natCast,E]at this;cases this
    rw[V,Int.toNat_natCast,g,hx,QN om,QN om,QN om];simp[G]
   have ni:((i:Int) != -1)=true:=bne_iff_ne.2 om;rw[jl e,aS,nb];simp only[Bool.and_false,Vs,ni,Vr,O,Xg];rw[QN om,Vs];exact q
set_option maxRecDepth 10000
theorem Qni{t:Cj}(ok:DI t):∀(m p:Nat),p+m=AI t.r->∀(s:Uf) (Y:Bool) (la:Int) (L:AA CW) (W:AA Int) (U:AA Bool) (M F:AA (Int×Int)),Sv t p Y la s W U M F->WL t L->
  Tt (λn=>V0 n (p:Int) s Y la L t.c (AI t.r:Int) W t.H U t.c t.k t.r t.s t.H t.T t.hi M F t.m t.c t.k) (SR t W U M F):=by
 have rl:=ok.rl;have hl:=ok.hl;intro m
 induction m with
 |zero=>
  intro p hp s Y la L W U M F v hL;have ep:p=AI t.r:=om;have HO:SR t W U M F (L,W,M,U,F):=⟨hL,rfl,rfl,rfl,λ_=>rfl⟩;refine Tt.s ?_;show Tt (λn=>a_ (V0 n) n _ _ _ _ _ _ _ _ _ _ _ _ _ _ _ _ _ _ _ _ _ _) _;unfold a_;refine Tt.b (P:=λb=>b=AD->AI L<=64/\ ¬t.c.AT.BF<Ls F M) (Tt.n λh=>Tt.b (P:=λr=>r=Ls F M) (Tt.e (wO F M) rfl) λr d=>Tt.p λq=>⟨gq,gq⟩) λb Q=>Tt.c (λ_=>Tt.p HO) λq=>Tt.c (λ_=>?_) λG=>absurd G (by rw[ep];simp);obtain⟨ah,ab⟩:=Q q;refine Tt.b (P:=WL t) (Tt.c (λhh=>?_) λ_=>Tt.p hL) λr d=>Tt.p ⟨d,rfl,rfl,rfl,λ_=>rfl⟩;unfold Zh;have wl:=v.wl;have l0:=v.l0;have l1:=v.l1;refine Tt.b (P:=λ(r:AA Int)=>r=W) (Tt.o (Ql8 om) rfl) λr d=>Tt.b (Tt.a (by simp;omega)) λx hx=>Tt.p ?_;subst hx d;refine⟨by simp;omega,λw X=>?_⟩;rcases VG.1 X with h|h
  .exact hL.2 w h
  .cases VD.1 h;subst ep;exact⟨wl,⟨l0,gq⟩,QpE ok v (Vx hh) ab⟩
 |succ m ih=>
  intro p hp s Y la L W U M F v hL;have B:p<AI t.r:=om;have HO:SR t W U M F (L,W,M,U,F):=⟨hL,rfl,rfl,rfl,λ_=>rfl⟩;refine Tt.s ?_;show Tt (λn=>a_ (V0 n) n _ _ _ _ _ _ _ _ _ _ _ _ _ _ _ _ _ _ _ _ _ _) _;unfold a_;refine Qp (Tt.k λh=>Qp (Tt.e (wO F M) trivial) λ_=>Tt.z) λb=>Tt.c (λ_=>Tt.p HO) λq=>Tt.c (λG=>absurd G (by simp;omega)) λ_=>?_;have wp:i64.wrap ((p:Int)+1)=((p+1:Nat):Int):=QL om;have hx:t.r[p]?=AC t.r[p]:=XL B;generalize t.r[p]=x at hx;refine Tt.b (P:=λz=>z=x) (Tt.o (Qf hx) rfl) λz V=>?_;subst V;simp only[XK,wp];have c1:=v.cnt z;have cb:(t.r.drop p).count z<=256:=XW List.count_le_length gq;have M1:=oF hx rl v.cnt;have af: -100000<=Qd M z 0/\Qd M z 0<=100000:=om;generalize hMe:QE M z (i64.wrap (Qd M z 0-1))=M' at M1;have SRb:∀{r:mS},SR t W U M' F r->SR t W U M F (r.1,r.2.1,QE r.2.2.1 z (i64.wrap (Qd r.2.2.1 z 0+1)),r.2.2.2.1,r.2.2.2.2):=λh=>
   ⟨h.1,h.2.1,h.2.2.1,h.2.2.2.1,QoJ af λm=>by rw[h.2.2.2.2 m,hMe]⟩
  refine Tt.b (P:=SR t W U M' F) (Tt.c (λag=>?_) λ_=>Tt.p ⟨hL,rfl,rfl,rfl,λ_=>rfl⟩) λb Q=>Tt.b (P:=λ_=>True) (Tt.k λ_=>Tt.z) λb2 _=>?_
  .have ae:Y=false:=by grind
   subst ae;refine Tt.b (P:=λr=>r=C8 t s (p:Int) (-1)) (Tt.e (nW ok v.st (Int.natCast_nonneg p) om (.inl om)) rfl) λr d=>?_;subst d;refine Tt.b (P:=SR t W U M' F) (Tt.c (λJ=>Tt.b (P:=SR t W U M' F) (ih (p+1) om _ _ _ _ _ _ _ _ (by rw[<- hMe];exact QpD ok v hx J) hL) λv E=>Tt.p E) λ_=>Tt.p ⟨hL,rfl,rfl,rfl,λ_=>rfl⟩) λw X=>?_;refine Tt.b (P:=SR t W U M' F) (QX t.H (λ(a:mS) i=>(a.1,a.2.1,a.2.2.1,a.2.2.2.1,a.2.2.2.2,i)) (λ_ a=>SR t W U M' F a) om (λi y a O hI=>?_) (λa hI=>?_) w _ rfl X) λw X=>Tt.p X
   .unfold Wa;have ac:=O.lt';simp only[O.lt,Vr,O.ix,XK,O.nx,wp];obtain⟨a1,N,a3,g,f⟩:=a;obtain⟨g1,g2,g3,g4,g5⟩:=hI;simp only at g1 g2 g3 g4 g5;subst g2 g3 g4;have keep:SR t N g M' f (a1,N,a3,g,f):=⟨g1,rfl,rfl,rfl,g5⟩;have ul:=v.ul;have wl:=v.wl;have hU:g[i]?=AC g[i]:=XL om;generalize g[i]'om=ub at hU;refine Tt.b (P:=SR t N g M' f) (Tt.b (P:=λb=>b=AD->ub=AD/\y.Af=z) (Tt.b (P:=λq=>q=ub) (Tt.o (Qf hU) rfl) λq hq=>Tt.n λR=>Tt.p λh3=>⟨by rw[<- hq];exact R,by simpa[bne]using h3⟩) λb Q=>Tt.c (λ_=>Tt.p keep) λad=>?_) λz V=>Tt.p ⟨z,rfl,V⟩;obtain⟨aa,j⟩:=Q ad;subst aa;have hh:Fs t (i:Int):=.inr (by simpa using ac);refine Tt.b (P:=λr=>r=C8 t s (p:Int) (i:Int)) (Tt.e (nW ok v.st (Int.natCast_nonneg p) (by simpa using B) hh) rfl) λr d=>?_;subst d;refine Tt.b (P:=SR t N g M' f) (Tt.c (λJ=>?_) λ_=>Tt.p keep) λz V=>Tt.p V;have u0:(i:Int)<(AI g:Int):=om;have w0:(p:Int)<(AI N:Int):=om;refine Qp (Tt.i (Int.natCast_nonneg i) u0).any λ_=>Tt.b (iY (Int.natCast_nonneg i) u0) λU' hU'=>Qp (Tt.i (Int.natCast_nonneg p) w0).any λ_=>Tt.b (iY (Int.natCast_nonneg p) w0) λW' hW'=>?_;rw[Int.toNat_natCast]at hU' hW';subst hU' hW';have sv:=Qrq ok v hx O.get j hU J (M2:=a3) λm=>by rw[g5 m];exact M1 m
    refine Tt.b (ih (p+1) om _ _ _ _ _ _ _ _ sv g1) λr d=>?_;obtain⟨v1,v2,v3,v4,v5⟩:=d;obtain⟨r1,r2,r3,r4,r5⟩:=r;simp only at v1 v2 v3 v4 v5;subst v2 v3 v4;have hk:z∈f.map (·.1):=by rw[<- j];exact v.key y O.mem
    have E:=v.fb _ (m9 hk);simp only at E;have bk:QE (QE f z (i64.wrap (Qd f z 0-1))) z (i64.wrap (Qd (QE f z (i64.wrap (Qd f z 0-1))) z 0+1))=f:=by
     rw[YG,Vv rfl,Qz (n:=Qd f z 0-1) om om,Qz (n:=Qd f z 0-1+1) om om,show Qd f z 0-1+1=Qd f z 0 by omega];exact Ql3 v.nd hk _
    simp only[bk];have u1:(i:Int)<(AI (g.set i AE):Int):=by rw[X6];exact u0
    have w1:(p:Int)<(AI (N.set p (i:Int)):Int):=by rw[X6];exact w0
    refine Qp (Tt.i (Int.natCast_nonneg i) u1).any λ_=>Tt.b (iY (Int.natCast_nonneg i) u1) λU2 hU2=>Qp (Tt.i (Int.natCast_nonneg p) w1).any λ_=>Tt.b (iY (Int.natCast_nonneg p) w1) λW2 hW2=>Tt.p ⟨v1,?_,?_,rfl,λm=>by rw[v5 m];exact g5 m⟩
    .rw[hW2,Int.toNat_natCast,List.set_set];obtain⟨q1,G⟩:=XM.1 (v.tail p (XU _) B);rw[<- G];exact List.set_getElem_self q1
    .rw[hU2,Int.toNat_natCast,List.set_set];obtain⟨q1,G⟩:=XM.1 hU;rw[<- G];exact List.set_getElem_self q1
   .unfold Wa;simp only[Jd,Vs];exact Tt.p ⟨_,rfl,hI⟩
  .obtain⟨b1,bW,bM,bU,bF⟩:=b;obtain⟨R,J,h3,h4,h5⟩:=Q;simp only at R J h3 h4 h5;subst J h3 h4;refine Tt.b (P:=SR t bW bU M' bF) (Tt.c (λ_=>Tt.b (P:=SR t bW bU M' bF) ((ih (p+1) om _ _ _ _ _ _ _ _ (Qrr ok v hx |> λq=>by rw[hMe]at q;exact {q with cnt:=λm=>by rw[h5 m];exact M1 m}) R).w λr d=>⟨d.1,d.2.1,d.2.2.1,d.2.2.2.1,λm=>by rw[d.2.2.2.2 m];exact h5 m⟩) λv E=>Tt.p E) λ_=>Tt.p ⟨R,rfl,rfl,rfl,h5⟩) λv E=>Tt.p (SRb E)
set_option maxRecDepth 10000
theorem ow:∀a b:AA Int,DL a b=0->a=b
 |[],[],_=>rfl
 |[],y::b,h=>by simp[DL]at h
 |x::a,[],h=>by simp[DL]at h
 |x::a,y::b,h=>by
  rw[show DL (x::a) (y::b)=bif DM x y != 0 then DM x y else DL a b from rfl,jA]at h;by_cases e:x=y
  .subst e;rw[show(x != x)=AD by simp,Vs]at h;rw[ow a b h]
  .rw[show(x != y)=AE by grind,Vr]at h;exact absurd (nv.1 h) e
theorem v_:∀a b:AA Int,DL b a= -DL a b
 |[],[]=>rfl
 |[],y::b=>rfl
 |x::a,[]=>rfl
 |x::a,y::b=>by
  rw[show DL (x::a) (y::b)=bif DM x y != 0 then DM x y else DL a b from rfl,show DL (y::b) (x::a)=bif DM y x != 0 then DM y x else DL b a from rfl,jA,jA];by_cases e:x=y
  .subst e;rw[show(x != x)=AD by simp,Vs,Vs];exact v_ a b
  .rw[show(x != y)=AE by grind,show(y != x)=AE by grind,Vr,Vr];exact OC.swap x y
theorem OB:Dv DL:=⟨v_,wL,λx y z h=>by rw[ow x y h]⟩
def JR(x y:CW):Int:=bif DL x.Ak y.Ak != 0 then DL x.Ak y.Ak else x.Ai-y.Ai
theorem Qqy:Dv JR:=
 (OB.on λw:CW=>w.Ak).lex (d:=λx y:CW=>x.Ai-y.Ai) ⟨λx y=>om,λx y z=>om,λx y z=>om⟩
theorem Qmy{x y:CW}(h:JR x y=0):x=y:=by
 unfold JR at h;cases q:(DL x.Ak y.Ak != 0)with
 |true=>grind
 |false=>
  rw[q,Vs]at h;have e:=ow _ _ (show DL x.Ak y.Ak=0 by simpa[bne]using q);obtain⟨a,b⟩:=x;obtain⟨f,d⟩:=y
  grind
theorem Qqp{x y:CW}(hx:AI x.Ak<=1048576)(d:AI y.Ak<=1048576)(g: -1<=x.Ai/\x.Ai<=300)(f: -1<=y.Ai/\y.Ai<=300):Ev (λn=>NF n x y) (JR x y):=by
 unfold NF JR;refine Ea (Qqq _ _ hx d) (YQ (λ_=>Qa _) λ_=>(Qa _).eq (Dj))
theorem fL{c:CE}(g:Dd c){i k:Int}(h:(CV c i k).2=0):2<=(CV c i k).1.length/\(CV c i k).1.length<=256:=by
 obtain⟨j,d,E,B,x,q,y,F,m⟩:=fK g h;have f:=VK q;have t:=(g.BT d f).1;rw[g.exp f]at t;rw[m];unfold DD;simp only[X5,Xz,List.length_drop,List.length_replicate];omega
structure SJ (c:CE) (k:CG) (s:AP) (e:Int) (x:List CQ) (l:List AY) (r:List CW×Int):Prop where
 len:AI r.1<=64
 ok:r.2=0->r.1≠[]/\ ∃t,Dr c k s e x l t/\DG c k s e x l=.inr t/\2<=AI t.r/\ ∀w∈r.1,AI w.Ak=AI t.r/\Dq t w=AE
 er:r.2≠0->r.1=[]
theorem Qri{c:CE}(h:HK c){k:CG}(kw:Dy k)(s:AP)(e:Int)(x:AA CQ)(hx:AI x<=4)(l:AA AY)(hl:AI l<=6):Tt (λn=>ND n c k s e x l) (SJ c k s e x l):=by
 unfold ND;have ty:Ev (λn=>GA n c) (CO c):=h.cE.symm▸h.ty;have nil:∀{e':Int},e'≠0->SJ c k s e x l ([],e'):=λq=>⟨sq,λz=>absurd z q,λ_=>rfl⟩;refine Tt.b (P:=λr=>r=IZ (DG c k s e x l)) (Tt.e (eo ty (λ_=>h.good) kw s e x om l om) rfl) λr hr=>?_;subst hr;cases R:DG c k s e x l with
 |inl v=>
  have:=fP R;exact Tt.c (f:=λ_=>AC ([],v)) (g:=λ_=>AF) (λ_=>Tt.p (nil this)) λq=>absurd (by simpa[bne]using q) this
 |inr t=>
  have i:=Sn ty (λ_=>h.good) kw om R;have ok:=i.ok;have hc:t.c=c:=by rw[i.is];rfl
  have hk:t.k=k:=by rw[i.is];rfl
  have hH:t.H=x:=by rw[i.is];rfl
  have hr:t.r=(CV c s.AN e).1:=by rw[i.is];rfl
  obtain⟨r1,r2⟩:=fL h.good i.rt;rw[<- hr]at r1 r2;show Tt (λn=>(iter (PK n (t.r,t.s,t.T,t.m,t.hi)) n ([],0):AB (AA (Int×Int))).bind λac=>(iter (Ol n x) n ([],0):AB (AA (Int×Int))).bind λab=>(LT n [(-1)] (AI t.r:Int)).bind λV=>(mk (AI x:Int) AD).bind λX=>(NK n).bind λaf=>(V0 n 0 ({Di with Bb:=(-1):Uf}) AD (-1) ([]:AA CW) c (AI t.r:Int) V x X c k t.r t.s x t.T t.hi ac ab t.m c k).bind λG=>(bif 64<(AI G.1:Int) then AC ([],2)else(bif ((AI G.1:Int)==0)then AC ([],190)else(MB (λx y=>NF n x y) G.1).bind λae=>AC (ae,0)))) _;refine Tt.b (P:=λ(M:AA (Int×Int))=>∀m,Qd M m 0=(t.r.count m:Int)) (QX t.r (λ(a:AA (Int×Int)) i=>(a,i)) (λi a=>∀m,Qd a m 0=((t.r.take i).count m:Int)) om (λi y a d B=>?_) (λa B=>?_) [] _ rfl (λm=>by simp[Qd,GM])) λM hM=>?_
  .unfold PK;have hi:=d.lt';simp only[d.lt,Vr,d.ix,XK,d.nx];refine Tt.p ⟨_,rfl,λm=>?_⟩;have cb:(t.r.take i).count y<=256:=XW List.count_le_length (by rw[Xz];omega);rw[YG,d.take,List.count_append,B,B];by_cases q:m=y
   .subst q;rw[Vv rfl,Dj];simp
   .rw[Vu q,List.count_singleton,Vu (by simpa using λz=>q z.symm)];simp
  .unfold PK;simp only[Jd,Vs];exact Tt.p ⟨_,rfl,by rw[Vc]at B;exact B⟩
  refine Tt.b (P:=λ(F:AA (Int×Int))=>(F.map (·.1)).Nodup/\AI F<=AI x/\(∀e∈F,0<=e.2/\e.2<=(AI x:Int))/\IX F=(AI x:Int)/\ ∀h∈x,h.Af∈F.map (·.1)) (QX x (λ(a:AA (Int×Int)) i=>(a,i)) (λi F=>(F.map (·.1)).Nodup/\AI F<=i/\(∀e∈F,0<=e.2/\e.2<=(i:Int))/\IX F=(i:Int)/\ ∀h∈x.take i,h.Af∈F.map (·.1)) om (λi y a d B=>?_) (λa B=>?_) [] _ rfl ⟨List.nodup_nil,XU _,(λ_ h=>nomatch h),rfl,(λ_ h=>nomatch h)⟩) λF hF=>?_
  .unfold Ol;have hi:=d.lt';simp only[d.lt,Vr,d.ix,XK,d.nx];obtain⟨a1,a2,Y,a4,a5⟩:=B;refine Tt.p ⟨_,rfl,?_⟩;by_cases hk:y.Af∈a.map (·.1)
   .have hv:=Y _ (m9 hk);simp only at hv;rw[Dj];refine⟨by rw[ey hk];exact a1,by rw[tO hk];omega,λe N=>?_,by rw[uu a1 hk,a4];omega,λh E=>?_⟩
    .rcases ut hk _ e N with z|z
     .omega
     .have:=Y e z;omega
    .rw[ey hk];rw[d.take]at E;rcases VG.1 E with z|z
     .exact a5 h z
     .cases VD.1 z;exact hk
   .rw[Ql4 hk,QnO hk,show i64.wrap (0+1)=1 from rfl];refine⟨?_,by simp;omega,λe N=>?_,by rw[tf,a4];simp[IX],λh E=>?_⟩
    .rw[Xf,List.nodup_append];exact⟨a1,sq,λp hp q hq=>by
      simp only[Vm,Vn,VD]at hq;intro z;rw[z,hq]at hp;exact hk hp⟩
    .rcases VG.1 N with z|z
     .have:=Y e z;omega
     .cases VD.1 z;exact⟨by show(0:Int)<=1;omega,by show(1:Int)<=_;omega⟩
    .rw[d.take]at E;rw[Xf];rcases VG.1 E with z|z
     .exact List.mem_append_left _ (a5 h z)
     .cases VD.1 z;exact List.mem_append_right _ sq
  .unfold Ol;simp only[Jd,Vs];exact Tt.p ⟨_,rfl,by rw[Vc]at B;exact B⟩
  obtain⟨f1,f2,f3,f4,f5⟩:=hF;refine Tt.b (P:=λ(W:AA Int)=>W=List.replicate (AI t.r) (-1)) (Tt.e (ox (-1) (AI t.r) om om) rfl) λW hW=>?_;refine Tt.b (P:=λ(U:AA Bool)=>U=List.replicate (AI x) AD) (Tt.o (v:=List.replicate (AI x) AD) (by unfold mk;rw[Yr (by show(0:Int)<=(AI x:Int);omega),Yr (by show(AI x:Int)<=4294967296;omega)];rfl) rfl) λU hU=>Qp (Tt.z) λ_=>?_;have sv:Sv t 0 AD (-1) Ns W U M F:=by
   subst hW hU;refine {st:=rT,row:=by show(0:Int)<=0;omega,wl:=sq,ul:=by rw[hH];simp,tail:=λj _ b=>by rw[List.getElem?_replicate,Vv b],used:=λh q=>?_,cnt:=λm=>by rw[List.drop_zero];exact hM m,nd:=f1,fl:=om,fb:=λe N=>by have:=f3 e N;omega,sum:=by rw[f4];simp,key:=λh E=>f5 h (by rw[<- hH];exact E),l0:=om,l1:=om,l2:=λ_=>om,pre:=⟨[],λh q=>by simp[Qd,GM]at q,λW' _ _ _ _ q=>by rwa [List.drop_zero]at q⟩};rw[List.getElem?_replicate]at q;split at q<;>simp at q
  have se:=Qni ok (AI t.r) 0 om Ns AD (-1) [] W U M F sv ⟨sq,λ_ h=>nomatch h⟩;rw[hc,hk,hH]at se;refine Tt.b (P:=SR t W U M F) se λr hR=>Tt.c (λ_=>Tt.p (nil (by decide))) λq=>Tt.c (λ_=>Tt.p (nil (by decide))) λq2=>?_;obtain⟨⟨h1,L⟩,_,_⟩:=hR;have ad:AI r.1<=64:=by have:=Vy q;omega
  have Q:r.1≠[]:=λz=>by rw[z]at q2;cases q2
  refine Tt.b (P:=λl'=>l'=MA (TB JR) r.1) (Tt.e (QqM om (λa d b hb=>Qqp (by have:=(L a d).1;omega) (by have:=(L b hb).1;omega) (L a d).2.1 (L b hb).2.1) Qqy λa _ b _=>Qmy) rfl) λl' aa=>Tt.p ?_;subst aa;have O:=YT (TB JR) r.1;refine⟨by show(MA _ _).length<=64;rw[O.length_eq];exact ad,λ_=>⟨λz=>Q (VM.1 (by rw[<- O.length_eq];simp only at z;rw[z];rfl)),t,i,R,r1,λw hw=>?_⟩,λz=>absurd rfl z⟩;have J:=L w (O.mem_iff.1 hw);exact⟨J.1,J.2.2⟩
set_option maxRecDepth 10000
def I9(k:CG)(g:Int):Prop:=∃j:Nat,g+1=(j:Int)/\j<AI k.AQ+1
theorem vz{t:Cj}{W:CW}(h:Dq t W=AE):AI W.Ak=AI t.r/\W.Ai<(AI t.r:Int)/\ ∀y∈W.Ak,Fs t y:=by
 unfold Dq at h;cases d:F9 t W with
 |true=>grind
 |false=>
  rw[d,Vs]at h
  grind[F9,e7]
theorem Qpz{t:Cj}{s:AP}{e:Int}{l:AA AY}(J:Ev (λn=>OX n t.c t.k s e t.H l) (IZ (.inr t)))(ok:DI t){W:CW}(E:Dq t W=AE){p:Int}(F:0<=p)(O:p<=W.Ai):
  Tt (λn=>HH n t.c t.k s e t.H l W p) λr=>I9 t.k r.1:=by
 obtain⟨N,R,G⟩:=vz E;have rl:=ok.rl;unfold HH;refine Tt.b (P:=λr=>r=IZ (.inr t)) (Tt.e J rfl) λr f=>?_;subst f;show Tt (λn=>(KK n W t.c t.k t.r t.s t.H t.T t.hi t.m t.c t.k).bind _) _;have d:∀{i:Int} {h:Int},h∈W.Ak->Tt (λn=>Ik n i h t.c t.k t.r t.s t.H t.T t.hi t.m t.c t.k) λr=>r.2=AE->I9 t.k r.1.AW:=λ{i h} hm=>Tt.e (oK ok i h (G h hm)) λq=>fJ ok (G h hm) q;refine Tt.b (P:=λb=>b=AE) (Tt.e (ir ok W om) E) λb j=>?_;subst j;refine Tt.c (λq=>by cases q) λ_=>Tt.b (P:=λb=>b=AD) (Tt.c gq λ_=>Tt.p (QN om)) λb j=>?_;subst j;refine Tt.c (λq=>by cases q) λ_=>?_;refine Tt.b (P:=NS λ(r:Int×CK×Int)=>I9 t.k r.1) (Tt.l (λi:Int=> -1<=i/\i<=p) (λi=>(i+1).toNat) (λi hi=>?_) p om) λr f=>?_
 .unfold IC;refine Tt.c (λq=>?_) λ_=>Tt.p (Q:=J2 _ _ _ _) trivial;have q:=Vx q;obtain⟨M,L⟩:=hi;refine Tt.b (Tt.i q om) λy g=>Tt.b (d g) λz B=>Tt.c (λx=>Tt.b (Tt.e (jD ok q om F om) trivial) λ_ (_:True)=>Tt.p (Q:=J2 _ _ _ _) (B x)) λ_=>Tt.p (Q:=J2 _ _ _ _) ?_
  grind[Qz]
 cases r with
 |d v=>exact Tt.p f
 |k u=>
  refine Tt.b (P:=NS λ(r:Int×CK×Int)=>I9 t.k r.1) (Tt.l (λi:Int=>p<=i/\i<=W.Ai+1) (λi=>(W.Ai+1-i).toNat) (λi hi=>?_) p om) λr f=>?_
  .unfold HY;refine Tt.c (λq=>?_) λ_=>Tt.p (Q:=J2 _ _ _ _) trivial;have q:=Vx q;obtain⟨M,L⟩:=hi;refine Tt.b (Tt.i om om) λy g=>Tt.b (d g) λz B=>Tt.c (λx=>Tt.b (Tt.e (jD ok F om om om) trivial) λ_ (_:True)=>Tt.p (Q:=J2 _ _ _ _) (B x)) λ_=>Tt.p (Q:=J2 _ _ _ _) ?_
   grind[Qz]
  cases r with
  |d v=>exact Tt.p f
  |k u=>exact Tt.p ⟨0,rfl,om⟩
theorem Qij{k:CG}(ok:Hy k){g:Int}(hg:I9 k g)(x:CK):Tt (λn=>LG n k g x) λ_=>True:=by
 unfold LG;obtain⟨j,e,f⟩:=hg;have hs:=ok.dims.segs;refine Tt.k λ_=>?_;obtain⟨t,q⟩:=ok.dims.get (i:=j) (j:=0) f om;obtain⟨y,m⟩:=ok.dims.get (i:=0) (j:=j) om f;rw[e,Qz (n:=(j:Int)) om om];have h:(0:Int)=((0:Nat):Int):=rfl;rw[h];refine Tt.b (P:=λr=>r=k.BE[j]?.getD []) (Tt.o (Qf t) rfl) λr d=>?_;subst d;refine Qp (Tt.o (Qf q) trivial) λ_=>Tt.b (P:=λr=>r=k.BE[0]?.getD []) (Tt.o (Qf y) rfl) λr d=>?_;subst d;exact Qp (Tt.o (Qf m) trivial) λ_=>Tt.z
set_option maxRecDepth 10000
structure Qk (q:Uh) (t:Cj):Prop where
 crs:HK q.Au
 clk:Dy q.BO
 te:DG q.Au q.BO q.Al q.BJ q.BM q.A6=.inr t
 task:Dr q.Au q.BO q.Al q.BJ q.BM q.A6 t
 hx:AI q.BM<=4
 hl:AI q.A6<=6
 p0:0<=q.Az
 pen:AI q.Bo<=100
theorem Qnl{q:Uh}{t:Cj}(h:Qk q t){W:CW}(f:Dq t W=AE){p:Int}(j:0<=p)(g:p<=W.Ai):Tt (λn=>II n q W p) λr=>I9 q.BO r.1:=by
 unfold II;have i:=h.task;have m:t.c=q.Au:=by rw[i.is];rfl
 have hk:t.k=q.BO:=by rw[i.is];rfl
 have x:t.H=q.BM:=by rw[i.is];rfl
 have d:=eo (c:=q.Au) (h.crs.cE.symm▸h.crs.ty) (λ_=>h.crs.good) h.clk q.Al q.BJ q.BM (by have:=h.hx;omega) q.A6 (by have:=h.hl;omega);rw[h.te]at d;have z:=Qpz (t:=t) (s:=q.Al) (e:=q.BJ) (l:=q.A6) gq i.ok f j g;rw[m,hk,x]at z;exact Tt.b z λr y=>Tt.p y
theorem mn{c:CE}{s:AP}{l:AA AY}(h:GK c s l=AD):0<=s.AN/\s.AN<(AI c.AO:Int)/\0<=s.Aw/\s.Aw<(AI c.Ax:Int):=by
 grind[GK]
def Nm(p:Int)(s:Int×Int×Bool)(x:CL):Int×Int×Bool:=
 bif x.AS<=p then(i64.wrap (s.1+x.BV),i64.wrap (s.2.1+x.Aj),s.2.2||x.BP)else s
theorem Qoz(l:AA CL)(p:Int)(hl:AI l<=1048576):Ev (λn=>Mt n l p) (l.foldl (Nm p) (0,0,AD)):=by
 unfold Mt;refine Ea (Yu l (λs x=>Nm p s x) (0,0,AD) (λs i=>(s.1,s.2.1,s.2.2,(i:Int))) (λs=>s) om rfl (λi x s ha _=>?_) ?_) (Qa _)
 .unfold V';simp only[ha.lt,Vr,ha.ix,XK,ha.nx];refine Ea (v:=Nm p s x) ?_ (Qa _);unfold Nm;refine YQ (λ_=>?_) λ_=>Qa _
  grind[Qa]
 simp_all[V',Qa]
theorem QlB{c:CE}(h:CO c=0){d:AN}(f:d∈c.AO):1<=d.BI/\d.BI<=3:=by
 have g:=(YB h).2.1
 simp_all[Cw,FZ,C7]
set_option maxRecDepth 10000
theorem Qrw:Zd 300=AC true:=by kernel_rfl
def TD(a:Int)(x:CL):Int:=i64.wrap (a+x.Aj)
def FR(P:AA CL):Int:=P.foldl TD 0
theorem nV(P:AA CL)(hl:AI P<=1000):Ev (λn=>LS n P) (FR P):=by
 unfold LS;refine Ea (Yu P (λa x=>TD a x) 0 (λa i=>(a,(i:Int))) (λa=>a) om rfl (λi x a ha _=>?_) ?_) (Qa _)
 .unfold U4;simp only[ha.lt,Vr,ha.ix,XK,ha.nx];exact Qa _
 simp_all[U4,Qa]
def D3(c:CE)(k:CG)(s:AP)(x:AA CQ)(l:AA AY)(P:AA CL)(p:Int):Uh:={Au:=c,BO:=k,Al:=s,BM:=x,A6:=l,Bo:=P,BJ:=FR P,Az:=p}
theorem Qql(c:CE)(k:CG)(s:AP)(x:AA CQ)(l:AA AY)(P:AA CL)(p:Int)(hl:AI P<=1000):Ev (λn=>NJ n c k s x l P p) (D3 c k s x l P p):=by
 unfold NJ;refine Ea (Yu P (λa y=>TD a y) 0 (λa i=>({D3 c k s x l P p with BJ:=a},(i:Int))) (λa=>{D3 c k s x l P p with BJ:=a}) om rfl (λi y a ha _=>?_) ?_) (Qa _)
 .unfold V6;simp only[ha.lt,Vr,ha.ix,XK,ha.nx];exact Qa _
 simp_all[V6,Qa]
def H6(R:AA Int×Int)(p:Int):AB Int:=bif (R.2 != 0)||(AG (p< -1)||AG ((AI R.1:Int)<=p))then AF else AC (bif p== -1 then(AI R.1:Int)-1 else p)
theorem QjY{q:Uh}(h:HK q.Au):Ev (λn=>M6 n q) (match H6 (CV q.Au q.Al.AN q.BJ) q.Az with|none=>(q,90)|some p=>({q with Az:=p},0)):=by
 unfold M6 H6;have f:=oI h.good h.ty q.Al.AN q.BJ;have d:(CV q.Au q.Al.AN q.BJ).2=0->(CV q.Au q.Al.AN q.BJ).1.length<=256:=λz=>(fL h.good z).2;generalize CV q.Au q.Al.AN q.BJ=R at f d;refine Ea f (Ea (Qg λ_=>Qg λ_=>Qa _) ?_);cases j:((R.2 != 0)||(AG (q.Az< -1)||AG ((AI R.1:Int)<=q.Az)))with
 |true=>exact Qa _
 |false=>
  simp only[XY]at j;have g:R.2=0:=gq;have:=d g;refine Qo ?_;rw[Qz (n:=(AI R.1:Int)-1) om om];cases(q.Az== -1)with
  |true=>exact Qa _
  |false=>exact Qa _
theorem QrO{R:AA Int×Int}{p d:Int}(h:H6 R p=AC d)(f:2<=AI R.1):0<=d/\d=(bif p== -1 then(AI R.1:Int)-1 else p):=by
 unfold H6 at h
 grind
set_option maxRecDepth 10000
theorem s8{c:CE}(g:Dd c)(k:Fl c)(h:CO c=0):Kn c:=λd hd=>by
 have hn:=(YB h).2.1;unfold Cw at hn;simp only[XX]at hn;have a:=Xs.1 hn.2.2.2.1 d hd;unfold FZ C7 at a;simp only[XX,Vt]at a;have f:=k.dist d hd;unfold TJ at f;obtain⟨_,⟨a1,a2⟩,_⟩:=a;exact⟨⟨g.parts d hd,om⟩,om⟩
def dB(c:CE)(i e:Int):Prop:=0<=i->i<(AI c.AO:Int)->(CV c i e).2=0->(CV c i e).1.length<=8
theorem Qrp{c:CE}(h:HK c)(E:Ev (λn=>D2 n c) 0){k:CG}(B:Dy k)(s:AP)(e:Int)(x:AA CQ)(l:AA AY):Tt (λn=>Rm n c k s e x l) λr=>r=AE->AI x<=4/\AI l<=6/\dB c s.AN e:=by
 unfold Rm;obtain⟨b,t,_⟩:=uB c h.wf;obtain⟨M,G,_⟩:=Qor k B;have g:=fH (λ_=>h.good) (h.cE.symm▸E) s.AN e;rw[h.cE]at g;refine Tt.b (P:=λq=>q=AD->AI x<=4/\AI l<=6) (Qp (Tt.e t trivial) λ_=>Tt.n λ_=>Tt.n λ_=>Qp (Tt.e G trivial) λ_=>Tt.n λ_=>Tt.n λL=>Tt.p λH=>?_) λq m=>Tt.n λj=>?_
 .grind
 obtain⟨d,f⟩:=m j;refine Tt.b (P:=λb=>b=AE->¬(0<=s.AN/\s.AN<(AI c.AO:Int))) (Tt.c (λz=>Tt.p λ_=>gq) λ_=>Tt.p λz=>gq) λb F=>Tt.c (λz=>Tt.p λ_=>⟨d,f,λy1 y2 _=>gq⟩) λ_=>Tt.b (P:=λr=>r=CV c s.AN e) (Tt.e g rfl) λr J=>Tt.b (P:=λb=>b=AE->r.2=0->AI r.1<=8) (Tt.c (λz=>Tt.p λ_ y=>gq) λ_=>Tt.p λz _=>gq) λb F=>Tt.p λz=>⟨d,f,λ_ _ y=>gq⟩
def jv(c:CE)(r:xX):Prop:=r.2.2.2.2.2.2.2.2.2.2.2.2.2=AE->
 (HK c/\Ev (λn=>D2 n c) 0)/\Dy {AQ:=r.1,BE:=r.2.1}/\AI r.2.2.2.2.2.2.2.2.2.2.1<=4/\AI r.2.2.2.2.2.2.2.2.2.2.2.1<=6/\AI r.2.2.2.2.2.2.2.2.2.2.2.2.1<=32/\dB c r.2.2.2.1 (FR r.2.2.2.2.2.2.2.2.2.2.2.2.1)
theorem Qnn(c:CE)(j:CE.wf c)(l:AA CP)(b:Int):Tt (λn=>Ry n c l b) (jv c):=by
 unfold Ry;have w:=JD j;have F:=fY j;obtain⟨R,J⟩:=nF j;obtain⟨bf,T,M⟩:=uB c j;have AF:∀{z},jv c ([],[],0,0,0,0,0,0,0,0,[],[],z,AD):=λh=>absurd h sq;refine Tt.b (P:=λb=>b=AD->(HK c/\Ev (λn=>D2 n c) 0)/\AI l<=16) (Tt.b (P:=λb=>b=AE->Fl c/\Ev (λn=>GA n c) (CO c)) (Tt.e T M) λb t=>Tt.n λX=>Tt.n λV=>?_) λb t=>Tt.c (λ_=>Tt.p AF) λL=>?_
 .obtain⟨fo,E⟩:=t gq;have B:=QhJ c w F fo R J;refine Tt.b (P:=λe=>e=CO c) (Tt.e B rfl) λe N=>Tt.n λY=>?_;have q:CO c=0:=gq;rw[q]at E B;have g:=tv w F q;have:=Vy V;exact Qp (Qpv j (s8 g fo q) 10) λ_=>Tt.p λ_=>⟨⟨⟨j,fo,E,q,g⟩,B⟩,om⟩
 obtain⟨h,hl⟩:=t L;refine Tt.b (QpC c l hl h.2) λA hA=>Tt.b (w5 c l hl h.2) λS hS=>Qp (Tt.k λ_=>Tt.z) λ_=>Tt.c (λ_=>Tt.p AF) λ_=>?_;refine Tt.b (P:=NS (jv c)) (QX S.1 (λ(_:Unit) i=>i) (λ_ _=>True) om (λi x _ d _=>?_) (λ_ _=>?_) () _ rfl trivial) λr y=>?_
 .unfold WU;simp only[d.lt,Vr,d.ix,XK,d.nx];refine Tt.b (P:=NS λ(r:CJ Int (CJ Unit xX))=>match r with|.d (.d p)=>jv c p|_=>False) (Yv <| ?_) λr y=>?_
  .refine Tt.b (Qrm c l x.A' hl h.2) λH hH=>Tt.b (Qrk h.1.wf (s8 h.1.good h.1.few h.1.cE) l _ hl h.2) λP hP=>Tt.b (Sm l hl) λC hC=>?_;refine Tt.b (P:=λ(a:AA AY)=>True) (QX C (λ(a:AA AY) i=>(a,i)) (λi a=>AI a<=i) om (λi x a d O=>?_) (λa O=>?_) [] _ rfl (XU _)) λD _=>Tt.b (P:=λe=>e=FR P) (Tt.e (nV P om) rfl) λe N=>Tt.b (Qrp h.1 h.2 hA x e H D) λf hf=>Tt.p ?_
   .unfold WD;have:=d.lt';simp only[d.lt,Vr,d.ix,XK,d.nx];exact Qp (Tt.k λ_=>Tt.z) λ_=>Tt.b (P:=λ(m:AA AY)=>AI m<=i+1) (Tt.c (λ_=>Tt.b (Tt.a (by simp;omega)) λm G=>Tt.p gq) λ_=>Tt.p om) λm G=>Tt.p ⟨m,rfl,G⟩
   .simp_all[WD,Tt.p]
   .intro W
    grind
  .cases r with
   |k s=>exact Tt.p ⟨(),rfl,trivial⟩
   |d s=>
    cases s with
    |k i=>grind
    |d s=>
     cases s with
     |k u=>grind
     |d p=>exact Tt.p (Q:=Ka _ _ _ _) y
 .simp_all[WU,Tt.p]
 .cases r with
  |k s=>exact Tt.p AF
  |d s=>exact Tt.p y
def Ig(R:AA Int)(i:Nat):Nat:=(R.take (i+1)).count (R[i]?.getD 0)
def HP(R:AA Int)(a b:Int):Nat->Nat->CJ Unit (Int×Int)
 |0,_=>.k ()
 |m+1,i=>bif (R[i]?.getD 0==a)&&((Ig R i:Int)==b)then .d ((i:Int),0)else HP R a b m (i+1)
theorem tT(R:AA Int)(a b:Int):∀m i {v:Int×Int},HP R a b m i=.d v->0<=v.1
 |0,_,_,h=>by cases h
 |m+1,i,v,h=>by
  unfold HP at h;cases hb:(R[i]?.getD 0==a)&&((Ig R i:Int)==b)with
  |true=>grind
  |false=>rw[hb]at h;exact tT R a b m (i+1) h
theorem uA{R:AA Int}{j:Nat}(d:j<AI R)(f:AI R<=256)(x:Int):(((R.take (j+1)).count x:Nat):Int)=bif R[j]==x then i64.wrap (((R.take j).count x:Nat)+1)else(((R.take j).count x:Nat):Int):=by
 have g:(R.take j).count x<=j:=XW List.count_le_length gq
 grind[List.take_succ_eq_append_getElem,Qz]
theorem Qsg(R:AA Int)(q:AI R<=256){i:Nat}(hi:i<AI R):Ev (λn=>PR n R (i:Int)) (Ig R i:Int):=by
 unfold PR;have e:R[i]?=AC R[i]:=sq;have f:∀m j,j+m=i+1->C9 (λn=>Oa n R (i:Int)) ((((R.take j).count R[i]:Nat):Int),(j:Int)) (((R.take (i+1)).count R[i]:Nat):Int):=by
  intro m
  induction m with
  |zero=>
   intro j g;obtain rfl:j=i+1:=om;refine Ei ?_;unfold Oa;simp only[QN (show¬((i+1:Nat):Int)<=(i:Int)by omega),Vs];exact Qa _
  |succ m h=>
   intro j g;have d:j<AI R:=om;refine Eu ?_ (h (j+1) om);unfold Oa;simp only[dT ((j:Int)<=(i:Int)),Vr,Qf (XL d),Qf e,XK,QL (show j<9223372036854775807 by omega),uA d q];cases R[j]==R[i]<;>exact Qa _
 have t:=(f (i+1) 0 om).ev
 simp_all[Ig]
theorem Qqg(R:AA Int)(g:AI R<=256)(a b z:Int):∀m i,i+m=AI R->C9 (λn=>MP n a b (R,z)) (i:Int) (HP R a b m i):=by
 intro m
 induction m with
 |zero=>
  intro i f;obtain rfl:i=AI R:=om;refine Ei ?_;unfold MP;simp only[Jd,Vs];exact Qa _
 |succ m h=>
  intro i f;have hl:i<AI R:=om;have d:At R i R[i]:=YH om sq;have j:Ev (λn=>MP n a b (R,z) (i:Int)) (bif (R[i]==a)&&((Ig R i:Int)==b)then .d (.d ((i:Int),0))else .k ((i+1:Nat):Int)):=by
   unfold MP;simp only[d.lt,Vr,d.ix,XK,d.nx];exact Ea (Eh λ_=>Ea (Qsg R g hl) (Qa _)) (YQ (λ_=>Qa _) λ_=>Qa _)
  grind[HP,C9.done,C9.cont]
theorem QnI(R:AA Int)(F:AI R<=256)(m:AA (Ub×C2))(a b:Int):∃y,Ev (λn=>M_ n R m) y/\ ∀n,SS (J4 n a b (R,m)) y.1 ()=AC (HP R a b (AI R) 0):=by
 unfold M_;have h:∀(k i:Nat) (M:AA (Int×Int)),i+k=AI R->(∀x,Qd M x 0=((R.take i).count x:Int))->∃y:AA (Int×Int)×Unit,(∃N,∀n f,N<=n->N<=f->OO (Mc n R) f (M,(i:Int))=AC y)/\ ∀n,SS (J4 n a b (R,m)) y.1 ()=AC (HP R a b k i):=by
  intro k
  induction k with
  |zero=>
   intro i M hk hM;obtain rfl:i=AI R:=om;refine⟨([],()),⟨1,λn f _ t=>?_⟩,λ_=>rfl⟩;obtain⟨f,rfl⟩:∃g,f=g+1:=⟨f-1,om⟩
   simp_all[OO,Mc]
  |succ k B=>
   intro i M hk hM;have G:i<AI R:=om;have d:At R i R[i]:=YH om sq;have j:∀x,Qd (QE M R[i] (i64.wrap (Qd M R[i] 0+1))) x 0=((R.take (i+1)).count x:Int):=λx=>by
    rw[YG,uA G F,hM,hM]
    grind
   generalize hx:R[i]=x at d j;obtain⟨y,⟨N,q⟩,E⟩:=B (i+1) (QE M x (i64.wrap (Qd M x 0+1))) om j;refine⟨(((i:Int),Qd (QE M x (i64.wrap (Qd M x 0+1))) x 0)::y.1,y.2),⟨N+1,λn f hn t=>?_⟩,λn=>?_⟩
   .obtain⟨f,rfl⟩:∃g,f=g+1:=⟨f-1,om⟩;have e:=q n f om om;unfold OO;have step:Mc n R (M,(i:Int))=AC ([((i:Int),Qd (QE M x (i64.wrap (Qd M x 0+1))) x 0)],CJ.k (QE M x (i64.wrap (Qd M x 0+1)),((i+1:Nat):Int))):=by
     unfold Mc;simp only[d.lt,Vr,d.ix,XK,d.nx];rfl
    grind
   .have ln:Ig R i=(R.take (i+1)).count x:=by unfold Ig;grind
    have H:J4 n a b (R,m) () ((i:Int),Qd (QE M x (i64.wrap (Qd M x 0+1))) x 0)=AC (bif (x==a)&&((Ig R i:Int)==b)then .d ((i:Int),0)else .k ()):=by
     unfold J4;simp only[d.ix,XK]
     grind
    show(J4 n a b (R,m) () _).bind _=_;rw[H];unfold HP
    grind
 obtain⟨y,⟨N,q⟩,E⟩:=h (AI R) 0 [] om (λx=>by rfl);refine⟨(y.1++[],()),⟨N,λn hn=>?_⟩,λn=>gq⟩
 simp_all[ap]
theorem Qgp{c:CE}(h:HK c)(G:Ev (λn=>D2 n c) 0){i k:Int}(j:(CV c i k).2=0)(a b:Int):∃v:Int×Int,Ev (λn=>RU n c i k a b) v/\Ev (λn=>Rs n c i k a b) v/\(v.2=0->0<=v.1):=by
 obtain⟨F,f⟩:=fL h.good j;have d:=fH (λ_=>h.good) (h.cE.symm▸G) i k;have g:=Qms h.good h.ty j;rw[h.cE]at d;have e:CV c i k=((CV c i k).1,0):=Prod.ext rfl j;have d:Ev (λn=>HJ n c i k) (CV c i k):=d;have d:=d.eq e;generalize(c.As.foldl (λm x=>QE m ({Be:=x.A5,to_:=x.To:Ub}) x) [])=m at g;generalize(CV c i k).1=R at F f d g;obtain⟨y,E,B⟩:=QnI R f m a b;have J:=(Qqg R f a b 0 (AI R) 0 om).ev;refine⟨match HP R a b (AI R) 0 with|.k _=>(0,90)|.d s=>s,?_,?_,?_⟩
 .unfold RU;refine Ea g ?_;show Ev (λn=>(ZF n R m).bind λH=>(M_ n R m).bind λq=>(SS (J4 n a b (R,m)) q.1 ():AB (CJ Unit (Int×Int))).bind λD45=>match D45 with|.k s57=>(AC (0,90))|.d s57=>AC s57) _;refine Ea (Qa _) (Ea E (Ea ⟨0,λn _=>B n⟩ ?_))
  grind[Qa]
 .unfold Rs;refine Ea d (Qo (Ea J ?_))
  grind[Qa]
 .cases t:HP R a b (AI R) 0 with
  |k u=>simp
  |d s=>exact λ_=>tT R a b _ _ t
set_option maxRecDepth 10000
def B2{α β:Type}(f:Nat->AB α)(g:Nat->AB β)(R:α->β->Prop):Prop:=∃v w,Ev f v/\Ev g w/\R v w
section
variable {α β γ δ S B:Type} {f:Nat->AB α} {g:Nat->AB β} {R:γ->δ->Prop} {P:α->β->Prop}
theorem B2.p{v:γ}{w:δ}(h:R v w):B2 (λ_=>AC v) (λ_=>AC w) R:=⟨v,w,Qa v,Qa w,h⟩
theorem B2.b{k:Nat->α->AB γ}{d:Nat->β->AB δ}(h:B2 f g P)(q:∀v w,P v w->B2 (λn=>k n v) (λn=>d n w) R):B2 (λn=>(f n).bind (k n)) (λn=>(g n).bind (d n)) R:=by
 obtain⟨v,w,e,t,p⟩:=h;obtain⟨x,y,m,j,r⟩:=q v w p;exact⟨x,y,Ea e m,Ea t j,r⟩
theorem B2.e{f f':Nat->AB α}{k:Nat->α->AB γ}{k':Nat->α->AB δ}(h:B2 f f' Eq)(q:∀v,B2 (λn=>k n v) (λn=>k' n v) R):B2 (λn=>(f n).bind (k n)) (λn=>(f' n).bind (k' n)) R:=B2.b h λv _ e=>e▸q v
theorem B2.l{v:α}{k:Nat->α->AB γ}{g:Nat->AB δ}(h:Ev f v)(q:B2 (λn=>k n v) g R):B2 (λn=>(f n).bind (k n)) g R:=by
 obtain⟨x,y,e,d,r⟩:=q;exact⟨x,y,Ea h e,d,r⟩
theorem B2.r{v:α}{k:Nat->α->AB δ}{g:Nat->AB γ}(h:Ev f v)(q:B2 g (λn=>k n v) R):B2 g (λn=>(f n).bind (k n)) R:=by
 obtain⟨x,y,e,d,r⟩:=q;exact⟨x,y,e,Ea h d,r⟩
theorem B2.c{c:Bool}{f d:Nat->AB γ}{g g':Nat->AB δ}(a:c=AE->B2 f g R)(b:c=AD->B2 d g' R):B2 (λn=>bif c then f n else d n) (λn=>bif c then g n else g' n) R:=by
 cases c with
 |true=>exact a rfl
 |false=>exact b rfl
theorem B2.fo{step f:Nat->S->AB (CJ S B)}(l:AA α)(g:β->Int->S)(hl:AI l<=4611686018427387904)
  (h:∀i x a,At l i x->B2 (λn=>step n (g a i)) (λn=>f n (g a i)) λc d=>c=d/\ ∃a,d=.k (g a ((i+1:Nat):Int)))(e:∀a,B2 (λn=>step n (g a (AI l))) (λn=>f n (g a (AI l))) λc d=>c=d/\ ∃b,d=.d b)(E:β)(s0:S)(H:s0=g E ((0:Nat):Int)):
  B2 (λn=>iter (step n) n s0) (λn=>iter (f n) n s0) Eq:=by
 have j:∀k i a,i+k=AI l->∃b,C9 step (g a i) b/\C9 f (g a i) b:=by
  intro k
  induction k with
  |zero=>
   intro i a hk;obtain rfl:i=AI l:=om;obtain⟨_,_,m,y,rfl,b,rfl⟩:=e a;exact⟨b,Ei m,Ei y⟩
  |succ k F=>
   intro i a hk;obtain⟨_,_,m,y,rfl,G,rfl⟩:=h i _ a (YH hl (XL (show i<AI l by omega)));obtain⟨b,q,t⟩:=F (i+1) G om;exact⟨b,Eu m q,Eu y t⟩
 obtain⟨b,q,t⟩:=j (AI l) 0 E om;subst H;exact⟨b,b,q.ev,t.ev,rfl⟩
theorem Ev.uni{v w:α}(h:Ev f v)(g:Ev f w):v=w:=by
 obtain⟨N,d⟩:=h;obtain⟨M,j⟩:=g;have a:=d (max N M) om
 grind
theorem Z7{l:AA α}{i:Int}(d:0<=i)(f:i<(AI l:Int)):∃x,CN l i=AC x/\x∈l:=by
 obtain⟨k,rfl⟩:=Int.eq_ofNat_of_zero_le d
 simp_all[Qf]
end
structure tW (q:Uh) (t:Cj) (W:CW):Prop extends Qk q t where
 re:Ev (λn=>D2 n q.Au) 0
 h8:dB q.Au q.Al.AN q.BJ
 adm:Dq t W=AE
 hW:AI W.Ak<=1048576
theorem rN{c:CE}{k:CG}{s:AP}{e:Int}{x:AA CQ}{l:AA AY}(h:HK c)(kw:Dy k)(hx:AI x<=1000)(h8:dB c s.AN e):∀t,DG c k s e x l=.inr t->AI t.r<=8:=λt te=>by
 have i:=Sn (h.cE.symm▸h.ty) (λ_=>h.good) kw hx te;have a:=mn i.arg;rw[show t.r=(CV c s.AN e).1 by rw[i.is];rfl];exact h8 a.1 a.2.1 i.rt
section
variable {q:Uh} {t:Cj} {W:CW} (h:tW q t W)
include h
theorem oz(p:Int):∃v:Int×CK×Int,Ev (λn=>II n q W p) (v.1,v.2.1)/\Ev (λn=>Kd n q.Au q.BO q.Al q.BJ q.BM q.A6 W p) v/\(0<=p->p<=W.Ai->I9 q.BO v.1):=by
 have hx:=h.hx;have hl:=h.hl;obtain⟨v,m,y⟩:=Qkd (s:=q.Al) (e:=q.BJ) (x:=q.BM) (l:=q.A6) (W:=W) (h.crs.cE.symm▸h.crs.ty) (h.crs.cE.symm▸h.re) (λ_=>h.crs.good) h.clk om om (rN h.crs h.clk om h.h8) h.hW p;have d:Ev (λn=>II n q W p) (v.1,v.2.1):=by
  unfold II;exact Ea m (Qa _)
 refine⟨v,d,y,λj g=>?_⟩;obtain⟨r,t,f⟩:=Qnl h.toQk h.adm j g;rw[t.uni d]at f;exact f
theorem QmD(hL:q.Az<=W.Ai):B2 (λn=>RE n q W) (λn=>Mi n q.Au q.BO q.Al q.BJ q.BM q.A6 W q.Az) Eq:=by
 obtain⟨X,Y,M,N⟩:=mn h.task.arg;have kk:=nq h.clk h.task.clk;obtain⟨D,E,Q⟩:=Z7 X Y;obtain⟨G,T,_⟩:=Z7 M N;have F:=(JD h.crs.wf).cut D Q;have d:Ev (λn=>Il n q) G.B0:=by
  simp_all[Il,Qa]
 unfold RE Mi;refine B2.l (Ez E) (B2.r (Ez E) (B2.r (Ez T) (B2.e (B2.fo D.Am (λ(a:Bool×Bool) i=>(a.1,a.2,i)) om (λi x a t=>?_) (λa=>?_) (AD,AD) _ rfl) λv=>B2.p rfl)))
 .unfold UY WN;simp only[t.lt,Vr,t.ix,XK,t.nx];obtain⟨m,R,H,V⟩:=Qgp h.crs h.re h.task.rt x.Af x.B9;refine B2.e (B2.l R (B2.r H (B2.b (P:=λb B=>b=B/\(b=AD->m.2=0/\m.1<=q.Az)) (B2.c (λ_=>B2.p ⟨rfl,nofun⟩) λz=>B2.p ⟨rfl,λJ=>?_⟩) λb B g=>?_))) λv=>B2.p ⟨rfl,v,rfl⟩
  .grind
  obtain⟨rfl,g⟩:=g;refine B2.c (λ_=>B2.p rfl) λz=>?_;obtain⟨L,J⟩:=g z;obtain⟨v,c1,O,f⟩:=oz h m.1;have f:=f (V L) om;obtain⟨w,y,_⟩:=Qij kk f v.2.1;have w2:Ev (λn=>R3 n q.BO v.1 v.2.1) w:=by
   refine y.congr λn=>?_;obtain⟨j,ej,_⟩:=f;unfold R3 LG
   grind
  refine B2.l c1 (B2.r O (B2.l y (B2.r w2 (B2.e (B2.c (λ_=>B2.p rfl) λ_=>B2.l d (B2.p rfl)) λb1=>B2.e (B2.c (λ_=>B2.p rfl) λ_=>B2.l d (B2.p rfl)) λb2=>B2.p rfl))))
 .unfold UY WN;simp only[Jd,Vs];exact B2.p ⟨rfl,_,rfl⟩
omit h in
theorem Qmk(l:AA CL)(p:Int)(hl:AI l<=1048576):Ev (λn=>LI n l p) (l.foldl (Nm p) (0,0,AD)):=by
 unfold LI;refine Ea (Yu l (λs x=>Nm p s x) (0,0,AD) (λs i=>(s.1,s.2.1,s.2.2,(i:Int))) (λs=>s) om rfl (λi x s ha _=>?_) ?_) (Qa _)
 .unfold V8;simp only[ha.lt,Vr,ha.ix,XK,ha.nx];refine Ea (v:=Nm p s x) ?_ (Qa _);unfold Nm;refine YQ (λ_=>?_) λ_=>Qa _;cases s.2.2 with
  |true=>exact Qa _
  |false=>exact Qa _
 .unfold V8;simp only[Jd,Vs];exact Qa _
omit h in
theorem Qmt(l:AA AY)(hl:AI l<=6):Ev (λn=>RG n l) (l.any λx=>x.AS==0)/\ ∀W:CW,Ev (λn=>(iter (LA n l 0) n 0:AB (CJ Unit Bool)).bind λb15=>match b15 with|.k sb15=>(AC AD)|.d sb15=>AC sb15) (l.any λx=>x.AS==0):=by
 constructor
 .unfold RG ZK;have hs:∀i x,At l i x->Ev (λn=>ML n l (i:Int)) (bif x.AS==0 then .d (.d (i:Int))else .k ((i+1:Nat):Int)):=λi x d=>by
   unfold ML ZO;simp only[d.lt,Vr,d.ix,XK,d.nx];exact YQ (λ_=>Qa _) λ_=>Qa _
  have q:Ev (λn=>ML n l (AI l:Int)) (.d (.k ())):=by
   unfold ML;simp only[Jd,Vs];exact Qa _
  rcases vA l (λx=>x.AS==0) om hs q with⟨i,x,d,j,e⟩|⟨j,e⟩
  .refine Ea (Ea e (Qa _)) ((Qa _).eq ?_);rw[dT ((0:Int)<=(i:Int))];exact(Xt.2 ⟨x,d.mem,List.find?_some j⟩).symm
  .refine Ea (Ea e (Qa _)) ((Qa _).eq ?_);refine(List.any_eq_false.2 λx hx=>?_).symm;exact List.find?_eq_none.1 j x hx
 .intro W;have g:∀k i,i+k=AI l->C9 (λn=>LA n l 0) (i:Int) (bif (l.drop i).any (λx=>x.AS==0)then .d AE else .k ()):=by
   intro k
   induction k with
   |zero=>
    intro i y;obtain rfl:i=AI l:=om;rw[Xr];refine Ei ?_;unfold LA;simp only[Jd,Vs];exact Qa _
   |succ k t=>
    intro i y;have d:At l i (l[i]'om):=YH om (XL om);have f:Ev (λn=>LA n l 0 (i:Int)) (bif (l[i]'om).AS==0 then .d (.d AE)else .k ((i+1:Nat):Int)):=by
     unfold LA;simp only[d.lt,Vr,d.ix,XK,d.nx];exact YQ (λ_=>Qa _) λ_=>Qa _
    rw[d.drop,List.any_cons];cases m:((l[i]'om).AS==0)with
    |true=>rw[m]at f;exact Ei f
    |false=>rw[m]at f;exact Eu f (t (i+1) om)
  refine Ea (g (AI l) 0 om).ev ?_;rw[List.drop_zero];cases l.any λx=>x.AS==0<;>exact Qa _
omit h in
theorem Qru{D:AN}(f:CN q.Au.AO q.Al.AN=AC D){G:Aw}(d:CN q.Au.Ax q.Al.Aw=AC G)(g:D.BI=1):∃v,Ev (λn=>KJ n q W) v/\Ev (λn=>Ha n q.Au q.BO q.Al q.BJ q.BM q.A6 W) v:=by
 refine⟨{Lo:=G.B0,Hi:=G.B0},?_,?_⟩
 .unfold KJ Il;exact Ea (Qj d (Qa _)) (Ea (Qa _) (Qa _))
 .unfold Ha;refine Qj d (Qj f ?_);rw[g];exact Qo (Ea (Qo (Qa _)) (Qa _))
theorem Qrt{D:AN}(P:CN q.Au.AO q.Al.AN=AC D){G:Aw}(M:CN q.Au.Ax q.Al.Aw=AC G)(O:D.BI=2)(hn:0<AI W.Ak):∃v,Ev (λn=>NH n q W) v/\Ev (λn=>Ha n q.Au q.BO q.Al q.BJ q.BM q.A6 W) v:=by
 obtain⟨m,j⟩:=Qmt q.A6 h.hl;have j:=j W;generalize q.A6.any (λx=>x.AS==0)=b at m j;obtain⟨v,c1,F,_⟩:=oz h 0;obtain⟨y,H,_⟩:=Z7 (l:=W.Ak) (Int.le_refl 0) om;have f:Ev (λn=>Mm n W q.A6 0) (AG (0<=y)||b):=by
  unfold Mm;refine Ea (v:=AG (0<=y)) ?_ (Qg λ_=>j)
  simp_all[Qa]
 have g:Ev (λ_=>(CN W.Ak 0).bind λJ=>(bif J<0 then AC (!b)else AC AD)) (!(AG (0<=y)||b)):=by
  refine Qj H ?_
  grind[Qa]
 have E:∀v,Ev (λn=>((Mm n W q.A6 0).bind λt=>(bif t then(Kd n q.Au q.BO q.Al q.BJ q.BM q.A6 W 0).bind λd=>AC (.d ({Lo:=d.2.1.Lo,Hi:=d.2.1.Hi:CK}))else AC (.k ())):AB (CJ Unit CK)).bind λL=>match L with|.k sb8=>(AC ({Lo:=G.B0,Hi:=G.B0:CK}))|.d sb8=>AC sb8) v->Ev (λn=>Ha n q.Au q.BO q.Al q.BJ q.BM q.A6 W) v:=λv N=>by
  unfold Ha
  grind
 cases B:(AG (0<=y)||b)with
 |false=>
  rw[B]at f g;refine⟨{Lo:=G.B0,Hi:=G.B0},?_,E _ (Ea (Ea f (Qa _)) (Qa _))⟩;unfold NH KJ Il;exact Ea m (Ea g (Jk (Ea (Ea (Qj M (Qa _)) (Ea (Qa _) (Qa _))) (Qa _))))
 |true=>
  rw[B]at f g;refine⟨v.2.1,?_,E _ (Ea (Ea f (Jk (Ea F (Qa _)))) (Qa _))⟩;unfold NH;exact Ea m (Ea g (Qo (Ea c1 (Qa _))))
omit h in
theorem Qrs{D:AN}(f:CN q.Au.AO q.Al.AN=AC D){G:Aw}(d:CN q.Au.Ax q.Al.Aw=AC G)(g:D.BI=3):Ev (λn=>Ha n q.Au q.BO q.Al q.BJ q.BM q.A6 W) {Lo:=q.Al.Bc,Hi:=q.Al.Bc}:=by
 unfold Ha;refine Qj d (Qj f ?_);rw[g];exact Jk (Qa _)
end
theorem Qi5{c:CE}(h:HK c)(g:Ev (λn=>D2 n c) 0)(s:AP)(e p:Int):Ev (λn=>RX n c s e p) (match H6 (CV c s.AN e) p with|none=>(0,AD)|some p=>(p,AE)):=by
 unfold RX H6;have f:=fH (λ_=>h.good) (h.cE.symm▸g) s.AN e;rw[h.cE]at f;have f:Ev (λn=>HJ n c s.AN e) (CV c s.AN e):=f;have d:(CV c s.AN e).2=0->(CV c s.AN e).1.length<=256:=λz=>(fL h.good z).2;generalize CV c s.AN e=R at f d;refine Ea f (Ea (Qg λ_=>Qg λ_=>Qa _) ?_);cases m:((R.2 != 0)||(AG (p< -1)||AG ((AI R.1:Int)<=p)))with
 |true=>exact Qa _
 |false=>
  simp only[XY]at m;have j:R.2=0:=gq;have:=d j;refine Qo ?_
  grind[Qz,Qa]
theorem QqA{c:CE}{k:CG}{s:AP}{x:AA CQ}{l:AA AY}{P:AA CL}{p:Int}{W:CW}(h:HK c)(re:Ev (λn=>D2 n c) 0)(F:Dy k)(hx:AI x<=4)(hl:AI l<=6)(hP:AI P<=32)(h8:dB c s.AN (FR P))(hW:AI W.Ak<=1048576):
  B2 (λn=>NA n c k s x l P W p) (λn=>M7 n c k s x l P W p) λv w=>v=w/\AI w.1<=2:=by
 have ty:Ev (λn=>GA n c) (CO c):=h.cE.symm▸h.ty;have c1:=QoC (l:=l) ty (λ_=>h.good) F s (FR P) x om om W hW;have c2:=oa (s:=s) (e:=FR P) (x:=x) (l:=l) ty (h.cE.symm▸re) (λ_=>h.good) F om om (rN h F om h8) hW;unfold NA M7;refine B2.l (Qql c k s x l P p om) (B2.r (nV P om) (B2.l c1 (B2.r c2 (B2.c (λ_=>B2.p ⟨rfl,sq⟩) λhc=>?_))));have L:Gy c k s (FR P) x l W=0:=gq;unfold Gy at L;cases te:DG c k s (FR P) x l with
 |inl v=>rw[te]at L;exact absurd L (fP te)
 |inr t=>
 rw[te]at L;have J:Dq t W=true:=by
  grind
 have O:=Sn ty (λ_=>h.good) F om te;have B:=QjY (q:=D3 c k s x l P p) h;have N:=Qi5 h re s (FR P) p;have pe:H6 (CV (D3 c k s x l P p).Au (D3 c k s x l P p).Al.AN (D3 c k s x l P p).BJ) (D3 c k s x l P p).Az=H6 (CV c s.AN (FR P)) p:=rfl;rw[pe]at B;cases hp:H6 (CV c s.AN (FR P)) p with
 |none=>
  rw[hp]at B N;exact B2.l B (B2.r N (B2.p ⟨rfl,sq⟩))
 |some d=>
 rw[hp]at B N;have hr:t.r=(CV c s.AN (FR P)).1:=by rw[O.is];rfl
 obtain⟨V,ad,_⟩:=vz J;have ab:2<=(CV c s.AN (FR P)).1.length:=(fL h.good O.rt).1;obtain⟨p0,pl⟩:=QrO hp ab;have Q:tW {D3 c k s x l P p with Az:=d} t W:={crs:=h,clk:=F,te:=te,task:=O,hx:=hx,hl:=hl,p0:=p0,pen:=by show AI P<=100;omega,re:=re,h8:=h8,adm:=J,hW:=hW};obtain⟨a1,a2,a3,a4⟩:=mn O.arg;obtain⟨D,M,mD⟩:=Z7 a1 a2;obtain⟨G,hG,_⟩:=Z7 a3 a4;have tm:=QlB h.cE mD;have o1:Ev (λn=>K3 n) ():=Qa _;have Y:Ev (λn=>IH n) ():=Qa _;refine B2.l B (B2.r N ?_);show B2 (λn=>(LU n {D3 c k s x l P p with Az:=d} W).bind λy=>AC (y,0)) (λn=>(LI n P d).bind _) _;have aa:B2 (λn=>LU n {D3 c k s x l P p with Az:=d} W) (λn=>(LI n P d).bind λy=>((bif W.Ai<d then AC AE else AC y.2.2):AB Bool).bind λb8=>(bif b8 then(IH n).bind λae=>AC ([{BP:=AE,Bg:=(-1),Lo:=0,Hi:=0:CH}],0)else(Mi n c k s (FR P) x l W d).bind λE=>(bif E.1 then(IH n).bind λac=>AC ([{BP:=AE,Bg:=(-1),Lo:=0,Hi:=0:CH}],0)else(Kd n c k s (FR P) x l W d).bind λg=>(Ha n c k s (FR P) x l W).bind λj=>(bif E.2 then(IH n).bind λX=>AC ([{BP:=AE,Bg:=(-1),Lo:=0,Hi:=0:CH},{BP:=AD,Bg:=g.1,Lo:=i64.wrap ((i64.wrap (g.2.1.Lo-j.Hi))+y.1),Hi:=i64.wrap ((i64.wrap (g.2.1.Hi-j.Lo))+y.1):CH}],0)else AC ([{BP:=AD,Bg:=g.1,Lo:=i64.wrap ((i64.wrap (g.2.1.Lo-j.Hi))+y.1),Hi:=i64.wrap ((i64.wrap (g.2.1.Hi-j.Lo))+y.1):CH}],0))))) λv w=>w=(v,(0:Int))/\AI v<=2:=by
  unfold LU;refine B2.l (Qoz P d om) (B2.r (Qmk P d om) (B2.b (P:=λb b'=>b=b'/\(b=AD->d<=W.Ai)) (B2.c (λ_=>B2.p ⟨rfl,nofun⟩) λz=>B2.p ⟨rfl,λ_=>by have z:¬W.Ai<d:=Vy z;omega⟩) λb b' T=>?_));obtain⟨rfl,T⟩:=T;refine B2.c (λ_=>B2.l o1 (B2.r Y (B2.p ⟨rfl,sq⟩))) λz=>B2.e (QmD Q (T z)) λla=>B2.c (λ_=>B2.l o1 (B2.r Y (B2.p ⟨rfl,sq⟩))) λ_=>?_;obtain⟨v,c1,c2,_⟩:=oz Q d;refine B2.l c1 (B2.l (Qa _) (B2.l (Ez M) (B2.r c2 ?_)));have e0:(D.BI==0)=false:=by rw[VB];omega
  rw[e0];have fin:∀(u:Int) (z:CK),B2 (λn=>(bif la.2 then(K3 n).bind λj=>AC [{BP:=AE,Bg:=(-1),Lo:=0,Hi:=0:CH},{BP:=AD,Bg:=v.1,Lo:=i64.wrap ((i64.wrap (v.2.1.Lo-z.Hi))+u),Hi:=i64.wrap ((i64.wrap (v.2.1.Hi-z.Lo))+u):CH}]else AC [{BP:=AD,Bg:=v.1,Lo:=i64.wrap ((i64.wrap (v.2.1.Lo-z.Hi))+u),Hi:=i64.wrap ((i64.wrap (v.2.1.Hi-z.Lo))+u):CH}])) (λn=>(bif la.2 then(IH n).bind λX=>AC ([{BP:=AE,Bg:=(-1),Lo:=0,Hi:=0:CH},{BP:=AD,Bg:=v.1,Lo:=i64.wrap ((i64.wrap (v.2.1.Lo-z.Hi))+u),Hi:=i64.wrap ((i64.wrap (v.2.1.Hi-z.Lo))+u):CH}],0)else AC ([{BP:=AD,Bg:=v.1,Lo:=i64.wrap ((i64.wrap (v.2.1.Lo-z.Hi))+u),Hi:=i64.wrap ((i64.wrap (v.2.1.Hi-z.Lo))+u):CH}],0))) λv w=>w=(v,(0:Int))/\AI v<=2:=λu z=>B2.c (λ_=>B2.l o1 (B2.r Y (B2.p ⟨rfl,sq⟩))) λ_=>B2.p ⟨rfl,sq⟩;rcases(show D.BI=1\/D.BI=2\/D.BI=3 by omega)with m|m|m
  .obtain⟨w,R,H⟩:=Qru (q:={D3 c k s x l P p with Az:=d}) (W:=W) M hG m;rw[m];exact B2.l R (B2.r H (fin _ w))
  .obtain⟨w,R,H⟩:=Qrt Q M hG m (by rw[V,hr];omega);rw[m];exact B2.l R (B2.r H (fin _ w))
  .have H:=Qrs (q:={D3 c k s x l P p with Az:=d}) (W:=W) M hG m;rw[m];simp only[show((3:Int)==1)=AD from rfl,show((3:Int)==2)=AD from rfl,show((3:Int)==3)=AE from rfl,Vr,Vs];refine B2.l (f:=λn=>Zg n {D3 c k s x l P p with Az:=d} W) (Qa _) ?_;exact B2.r H (fin (P.foldl (Nm d) (0,0,AD)).1 {Lo:=s.Bc,Hi:=s.Bc})
 obtain⟨v,w,e1,e2,e3,e4⟩:=aa;exact⟨_,w,Ea e1 (Qa _),e2,e3.symm,by rw[e3];exact e4⟩
end Go.Sw
