/- The law of ways: outcomes are those of the admissible ways. -/
import Derived.Test.YtbiglpikpigidaaGreatQ23Wa
set_option linter.unusedVariables false
set_option linter.unusedSimpArgs false
set_option maxRecDepth 10000
namespace Go.Sw
open Option renaming some→AC,none→AF
open Bool renaming false→AD,true→AE
open List renaming length→AI
theorem OT.of{c:CA}(h:CM c=0):OT c:=λo ho=>by
 have hn:=(Y4 h).2.1;unfold Cv at hn;simp only[XV]at hn;have a:=Xs.1 hn.2.2.2.2.2.1 o ho;unfold NW at a;unfold Dh;have e:o.BW=0\/DG 0 68719476736 o.BW=true:=by
  grind
 rcases e with e|e
 .omega
 .unfold DG at e;grind
theorem tP{α β:Type}{f:α->AA β}(h:∀x,AI (f x)<=2):∀l:AA α,AI (l.flatMap f)<=2*AI l
 |[]=>XS _
 |x::l=>by
  have:=tP h l
  grind
theorem eB{α β:Type}(f:α->AA β):∀(l:AA α) (a:AA β),l.foldl (λa x=>a++f x) a=a++l.flatMap f
 |[],a=>sq
 |x::l,a=>by rw[XC,eB f l,List.flatMap_cons,Vi]
def aF(y x:CB):Bool:=(x.A'==y.A')&&(x.A_==y.A_)
theorem ru{α:Type}(p q:α->Bool):∀(l:AA α) (b:Bool×Bool),l.foldl (λs x=>(s.1||p x,s.2||q x)) b=(b.1||l.any p,b.2||l.any q)
 |[],b=>sq
 |x::l,b=>by rw[XC,ru p q l,List.any_cons,List.any_cons,Bool.or_assoc,Bool.or_assoc]
theorem cF{c:CA}{k:CD}{s:AO}{x:AA CL}{l:AA Ac}{P:AA CE}{p q:Int}(g:LH c)(G:FR k)(M:AI x<=4)(L:AI l<=6)(hP:AI P<=100){t:Cj}(F:Ds c k s (Fk P) x l=.inr t)(d:HF c k s (Fk P) x l t)(y:Ev (λn=>IH n (C9 c k s x l P p)) ({C9 c k s x l P p with Aw:=q},0)){W:CU}(E:FG t W=AE)(hH:AI W.BL<=1048576){r:AA CB}(er:Ev (λn=>J8 n {C9 c k s x l P p with Aw:=q} W) r):Ev (λn=>Pm n c k s x l P W p) (r,0):=by
 unfold Pm;refine Ea (qK c k s x l P p om) (Ea (v:=0) ?_ (Ra rfl (Ea y (Ra rfl (Ea er (Qa _))))));have J:t.c=c:=by rw[d.is];rfl
 have B:t.k=k:=by rw[d.is];rfl
 have f:t.H=x:=by rw[d.is];rfl
 have h:=dq (c:=c) (g.cE.symm▸g.ty) (λ_=>g.good) G s (Fk P) x om l om;rw[F]at h;have j:=kp d.ok W hH;rw[E,J,B,f]at j;show Ev (λn=>Pn n c k s (Fk P) x l W) 0;unfold Pn;refine Ea h ?_;show Ev (λn=>(Ii n W c k t.r t.s x t.T t.hi t.m c k).bind _) 0;exact Ea j (Qa _)
theorem F2(c:CA)(l:AA CH)(b p:Int)(wc:CA.wf c)(wl:AI l<=1048576/\ ∀x∈l,CH.wf x)(Y:Qq .i64 b)(hp:Qq .i64 p):∃n,Pq n c l b p=AC true:=by
 refine Ev.ex (f:=λn=>Pq n c l b p) ?_;unfold Pq;refine Ea (EA u?) (QW ?_);obtain⟨r,er,T⟩:=QnH c wc l b;refine Ea er ?_;obtain⟨k1,k2,s1,s2,s3,s4,s5,s6,s7,s8,H,D,P,ok⟩:=r;cases ok with
 |false=>exact Qa _
 |true=>
 obtain⟨cw,O,hH,hD,⟨hP,X⟩,sl⟩:=T rfl;simp only at O hH hD hP X sl;refine QW ?_;unfold ey ei
 dsimp only
 generalize hk:({AR:=k1,BP:=k2}:CD)=k at O;generalize hs:({BT:=s1,AN:=s2,A2:=s3,BM:=s4,B5:=s5,BB:=s6,Bk:=s7,B4:=s8}:AO)=s;have sl:Dh s.BM:=gq;clear T er hs hk;have aa:=QqY P om;have G:∀{V:AA CU×Int} {o:AA CB×Int} {g:Nat->AA CB×Int->AA CU×Int->AB Bool},Ev (λn=>HW n c k s (Fk P) H D) V->Ev (λn=>KB n c k s H D P p) o->(o.2≠0\/V.2≠0)->(o.1=[]\/V.2=2)->Ev (λn=>(KB n c k s H D P p).bind λr5=>(Ig n P).bind λr6=>(HW n c k s r6 H D).bind λr7=>((bif (r5.2 != 0)then AC AE else AC (r7.2 != 0)):AB Bool).bind λb9=>(bif b9 then((bif ((AI r5.1:Int)==0)then AC AE else AC (r7.2==2)):AB Bool).bind λab=>AC ab else g n r5 r7)) true:=λ{V o g} B eA h1 h2=>by
  refine Ea eA (Ea aa (Ea B (Ea (v:=AE) ?_ (Rb (Ea (v:=AE) ?_ (Qa _))))))
  .cases h:(o.2 != 0)with
   |true=>exact Qa _
   |false=>
    refine QW ((Qa _).eq ?_)
    grind
  .rcases h2 with z|z
   .rw[z];exact Rb (Qa _)
   simp_all[Qa]
 by_cases hE:CM c=0
 case neg=>
  have B:=Qo3 cw hE O s (Fk P) H hH D hD;have d:=QqQ (q:=C9 c k s H D P p) cw.ty hE;have z:∃e,Ev (λn=>(bif (bif CM c != 0 then CM c != 2 else AD)then AC ([],CM c)else(match(AF:AB Int)with
    |none=>AC ([],90)
    |some M=>bif CM c==2 then(K5 n {C9 c k s H D P p with Aw:=M}).bind λr=>AC (r,0)else(iter (Ku n ([],CM c) ({C9 c k s H D P p with Aw:=M},0)) n ([],0):AB (AA CB)).bind λL=>(Ih n L).bind λr=>AC (r,0)):AB (AA CB×Int))) (([]:AA CB),e):=by
   cases(bif CM c != 0 then CM c != 2 else AD)with
   |true=>exact⟨_,Qa _⟩
   |false=>exact⟨_,Qa _⟩
  obtain⟨e,z⟩:=z;exact G B (dh (pv:=AF) d om B z) (.inr hE) (.inl rfl)
 have cr:=cw.r hE;obtain⟨V,B,wr⟩:=d? cr O s (Fk P) H hH D hD;have d:=Qj4 (q:=C9 c k s H D P p) cr;have ad:Iw (CX (C9 c k s H D P p).A3 (C9 c k s H D P p).Ai.AN (C9 c k s H D P p).BV) (C9 c k s H D P p).Aw=Iw (CX c s.AN (Fk P)) p:=rfl;rw[ad]at d;cases Y:(bif V.2 != 0 then V.2 != 2 else AD)with
 |true=>
  have h0:V.2≠0:=by
   grind
  exact G B (dh d om B (o:=([],V.2)) (by rw[Y];exact Qa _)) (.inr h0) (.inl rfl)
 |false=>
 cases F:Iw (CX c s.AN (Fk P)) p with
 |none=>exact G B (dh d om B (o:=([],90)) (by rw[Y,F];exact Qa _)) (.inl (by decide)) (.inl rfl)
 |some M=>
 cases h2:(V.2==2)with
 |true=>
  have ac:V.2=2:=gq;obtain⟨u1,e1,_⟩:=QlP {C9 c k s H D P p with Aw:=M} (by show AI P<=100;omega);exact G B (dh d om B (o:=(u1,0)) (by rw[Y,F,h2];exact Ea e1 (Qa _))) (.inr om) (.inr ac)
 |false=>
 have h0:V.2=0:=by
  grind
 obtain⟨ne,t,W,te,r2,hw⟩:=wr.ok h0;have T:t.r=(CX c s.AN (Fk P)).1:=by rw[W.is];rfl
 obtain⟨p0,pe⟩:=_O F gq;have ag:=wr.len;have rl:=W.ok.rl;have Q:Qk {C9 c k s H D P p with Aw:=M} t:=⟨cr,O,te,W,hH,hD,p0,by show AI P<=100;omega⟩;have QB:ZO {C9 c k s H D P p with Aw:=M} t:=⟨Q,Qpn W,sl,λy J=>X y J (OT.of hE)⟩;have ch:∀w:CU,∃r:AA CB,AI r<=2/\(w∈V.1->Ev (λn=>J8 n {C9 c k s H D P p with Aw:=M} w) r/\oL k r):=λw=>by
  by_cases h:w∈V.1
  .obtain⟨r,e,T⟩:=aB QB (hw w h).2 gq;exact⟨r,T.1.2,λ_=>⟨e,T⟩⟩
  .exact⟨[],sq,λz=>absurd z h⟩
 obtain⟨R,hR⟩:=Classical.axiomOfChoice ch;have R2:∀w,AI (R w)<=2:=λw=>(hR w).1;have fl:=tP R2;generalize hLL:V.1.flatMap R=L;have N:∀o∈L,oW k o:=λo ho=>by
  rw[<- hLL]at ho;obtain⟨w,m,q⟩:=List.mem_flatMap.1 ho;exact((hR w).2 m).2.2 o q
 have hL:AI L<=128:=by
  grind
 have eL:Ev (λn=>iter (Ku n V ({C9 c k s H D P p with Aw:=M},0)) n ([],0)) L:=by
  refine(Q9 V.1 (λa w=>a++R w) [] (λa i=>(a,(i:Int))) (λa=>a) om rfl (λi w a E hf=>?_) ?_).eq (by rw[eB,Vh,hLL])
  .have hi:=E.lt';have la:AI a<=128:=by
    grind[eB,List.length_take]
   have:=R2 w;unfold Ku;simp only[E.lt,Vo,E.ix,XI,E.nx];exact Ea ((hR w).2 E.mem).1 (YP (dy _ _ om) (Qa _))
  .unfold Ku;simp only[Jf,Vp];exact Qa _
 have tl:=Qnp L;have A1:=dh d om B (P:=P) (p:=p) (o:=(C1 L,0)) (by rw[Y,F,h2];exact Ea eL (Ea (qI L om) (Qa _)));rw[F]at d;refine Ea A1 (Ea aa (Ea B (Ea (v:=AD) ?_ (QW (Ea ((qI (C1 L) om).eq (QlN L)) (Ea ((Qmx (C1 L) (C1 L) om).eq (JA rfl)) (QW ?_)))))))
 .rw[h0];exact QW (Qa _)
 refine Ea (v:=CF.k L) ?_ (Ea (v:=CF.k ()) ?_ (Qa _))
 .refine(Q9 V.1 (λa w=>a++R w) [] (λa i=>(a,(i:Int))) (λa=>CF.k a) om rfl (λi w a E hf=>?_) ?_).eq (by rw[eB,Vh,hLL])
  .have hi:=E.lt';have la:AI a<=128:=by
    rw[hf,eB,Vh];have:=fl (V.1.take i);rw[Xx]at this;omega
   have ae:=R2 w;obtain⟨e,h1⟩:=(hR w).2 E.mem;obtain⟨a1,a2⟩:=hw w E.mem;have cv:=QmD (R w) (C1 L) om om λx hx=>Qnq N x (by rw[<- hLL];exact List.mem_flatMap.2 ⟨w,E.mem,hx⟩);simp only[E.lt,Vo,E.ix,XI,E.nx];refine Ea (cF cr O hH hD om te W d a2 om e) (Ea (v:=AD) (QW ?_) (QW (YP (dy _ _ (by show AI a+AI (R w)<=_;omega)) (Qa _))));have af:=h1.1.1;rw[YO (show¬(AI (R w):Int)<1 by omega),YO (show¬(2:Int)<(AI (R w):Int)by omega)];exact QW (QW (Ea cv (Qa _)))
  .simp only[Jf,Vp];exact Qa _
 .refine Q9 (C1 L) (λ(_:Unit) _=>()) () (λ_ i=>(i:Int)) (λ_=>CF.k ()) om rfl (λi y _ J _=>?_) ?_
  .simp only[J.lt,Vo,J.ix,XI,J.nx];obtain⟨⟨x,m,e1,e2,e3⟩,z,m2,f1,f2,f3⟩:=tA N y J.mem;refine Ea (v:=(AE,AE)) ((Q9 L (λs x=>(s.1||(aF y x&&(x.Lo==y.Lo)),s.2||(aF y x&&(x.Hi==y.Hi)))) (AD,AD) (λs j=>(s.1,s.2,(j:Int))) (λs=>s) om rfl (λj x s hx _=>?_) ?_).eq ?_) ?_
   .unfold TZ;simp only[hx.lt,Vo,hx.ix,J.ix,XI,hx.nx];refine(Qa _).near ⟨0,λn _=>?_⟩;unfold aF;cases s.1<;>cases s.2<;>cases(x.A'==y.A')<;>cases(x.A_==y.A_)<;>rfl
   .unfold TZ;simp only[Jf,Vp];exact Qa _
   .rw[ru,Bool.false_or,Bool.false_or,Xt.2 ⟨x,m,by unfold aF;rw[e1,e2,e3];simp⟩,Xt.2 ⟨z,m2,by unfold aF;rw[f1,f2,f3];simp⟩]
   .have ck:=Qjf k O W.clk y;rw[QpU N y J.mem]at ck;exact Ea (v:=AD) (Ea ck (Qa _)) (Qa _)
  .simp only[Jf,Vp];exact Qa _
end Go.Sw
