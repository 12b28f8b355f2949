/- The law of a later gun. -/
import Derived.Test.YtbiglpikpigidaaGreatQ23Gu
set_option linter.unusedVariables false
set_option linter.unusedSimpArgs false
set_option maxRecDepth 10000
namespace Go.Sw
open Option renaming some→AC,none→AF
open Bool renaming false→AD,true→AE
open List renaming length→AI
open List(map)
open Int(toNat)
open Go.IntKind(i64 u64 u8)
theorem OT.of{c:CB}(h:CL c=0):OT c:=λo ho=>by
 have hn:=(Y4 h).2.1;unfold Cp at hn;simp only[XV]at hn;have a:=Xs.1 hn.2.2.2.2.2.1 o ho;unfold Nc at a;unfold Di;have e:o.BX=0\/DE 0 68719476736 o.BX=true:=by
  grind
 rcases e with e|e
 .omega
 .unfold DE at e;grind
theorem Qol{c:CB}{w:AA Aw}(R:HO c)(cd:HO (C7 c w))(hl:AI w=AI c.Ap)(cE:CL (C7 c w)=CL c){k:CE}(O:Fh k){s:AP}{H:AA CN}(hH:AI H<=4){D:AA Ae}(hD:AI D<=6){P:AA CF}(hP:AI P<=32)(aa:∀y∈P,pT c y)(sl:Di s.BK)(p:Int){b:Int}(b0:0<=b)(b1:b<=1073741824){x:AN}(hx:CJ c.AO s.AN=AC x)(xt:x.A9=1)(xc:x.Aq=[]){v v':Aw}(hv:CJ c.Ap s.Aw=AC v)(ab:CJ w s.Aw=AC v')(hg:v'.Bv=i64.wrap (v.Bv+b)):
  ∃(V:AA CX×Int) (E B:AA CC×Int),Ev (λn=>Kz n c k s (Fa P) H D) V/\Ev (λn=>NJ n c k s H D P p) E/\Ev (λn=>NJ n (C7 c w) k s H D P p) B/\E.2=B.2/\(V.2=0->B.1=E.1.map (Fi (i64.wrap (0-b)))/\AI E.1<=1048576/\AI B.1<=1048576):=by
 by_cases N:CL c=0
 case neg=>
  have X:CL (C7 c w)≠0:=cE▸N;have M:=rE R N O s (Fa P) H hH D hD;have j:=rE cd X O s (Fa P) H hH D hD;rw[cE]at j;have d:=qE (q:=C0 c k s H D P p) R.ty N;have f:=qE (q:=C0 (C7 c w) k s H D P p) cd.ty X;have z:∃e,∀c',Ev (λn=>(bif (bif CL c != 0 then CL c != 2 else AD)then AC ([],CL c)else(match(AF:AB Int)with
    |none=>AC ([],90)
    |some F=>bif CL c==2 then(LC n {C0 c' k s H D P p with As:=F}).bind λr=>AC (r,0)else(iter (HM n ([],CL c) ({C0 c' k s H D P p with As:=F},0)) n ([],0):AB (AA CC)).bind λL=>(J7 n L).bind λr=>AC (r,0)):AB (AA CC×Int))) (([]:AA CC),e):=by
   cases(bif CL c != 0 then CL c != 2 else AD)with
   |true=>exact⟨_,λ_=>Qa _⟩
   |false=>exact⟨_,λ_=>Qa _⟩
  obtain⟨e,z⟩:=z;exact⟨_,([],e),([],e),M,NA (pv:=AF) d om M (z c),NA (pv:=AF) f om j (z (C7 c w)),rfl,λq=>absurd q N⟩
 have T:=R.r N;have dr:=cd.r (cE.trans N);obtain⟨V,M,wr⟩:=o? T O s (Fa P) H hH D hD;obtain⟨N1,t1⟩:=R.ty;obtain⟨N2,t2⟩:=cd.ty;have tt:∀m,max N1 N2<=m->DZ m (C7 c w)=DZ m c:=λm hm=>by
  grind
 have j:Ev (λn=>Kz n (C7 c w) k s (Fa P) H D) V:=by
  refine i? M ?_;obtain⟨N3,hp⟩:=dZ R.ty (λ_=>T.good) O s (Fa P) H om D om;exact⟨max N3 (max N1 N2+1000),λn hn=>QrI tt hl om (hp n om) λt ht=>(qf R.ty (λ_=>T.good) O om ht).ok.rl⟩
 have d:=t3 (q:=C0 c k s H D P p) T;have f:=t3 (q:=C0 (C7 c w) k s H D P p) dr;have ad:IA (CY (C0 c k s H D P p).Ar (C0 c k s H D P p).Ad.AN (C0 c k s H D P p).BV) (C0 c k s H D P p).As=IA (CY c s.AN (Fa P)) p:=rfl;have ac:IA (CY (C0 (C7 c w) k s H D P p).Ar (C0 (C7 c w) k s H D P p).Ad.AN (C0 (C7 c w) k s H D P p).BV) (C0 (C7 c w) k s H D P p).As=IA (CY c s.AN (Fa P)) p:=rfl;rw[ad]at d;rw[ac]at f;refine⟨V,?_⟩
 suffices z:∃E B:AA CC×Int,Ev (λn=>NJ n c k s H D P p) E/\Ev (λn=>NJ n (C7 c w) k s H D P p) B/\E.2=B.2/\(V.2=0->B.1=E.1.map (Fi (i64.wrap (0-b)))/\AI E.1<=1048576/\AI B.1<=1048576)from by
  obtain⟨E,B,z⟩:=z
  grind
 have no:(([],90):AA CC×Int).1=(([],90):AA CC×Int).1.map (Fi (i64.wrap (0-b))):=rfl;cases J:(bif V.2 != 0 then V.2 != 2 else AD)with
 |true=>exact⟨([],V.2),([],V.2),NA d om M (by rw[J];exact Qa _),NA f om j (by rw[J];exact Qa _),rfl,sq⟩
 |false=>
 cases g:IA (CY c s.AN (Fa P)) p with
 |none=>exact⟨([],90),([],90),NA d om M (by rw[J,g];exact Qa _),NA f om j (by rw[J,g];exact Qa _),rfl,λ_=>⟨rfl,XT _,XT _⟩⟩
 |some F=>
 cases Y:(V.2==2)with
 |true=>
  have af:V.2=2:=gq;obtain⟨u1,e1,_⟩:=sk {C0 c k s H D P p with As:=F} (by show AI P<=100;omega);obtain⟨u2,e2,_⟩:=sk {C0 (C7 c w) k s H D P p with As:=F} (by show AI P<=100;omega);exact⟨(u1,0),(u2,0),NA d om M (by rw[J,g,Y];exact Ea e1 (Qa _)),NA f om j (by rw[J,g,Y];exact Ea e2 (Qa _)),rfl,λz=>om⟩
 |false=>
  have h0:V.2=0:=by
   grind
  obtain⟨ne,t,ti,te,r2,hw⟩:=wr.ok h0;have hr:t.r=(CY c s.AN (Fa P)).1:=by rw[ti.is];rfl
  obtain⟨p0,pe⟩:=_d g gq;have ae:=wr.len;have Q:Qk {C0 c k s H D P p with As:=F} t:=⟨T,O,te,ti,hH,hD,p0,by show AI P<=100;omega⟩;have QB:Ss {C0 c k s H D P p with As:=F} t:=⟨Q,Qpe ti,sl,λy hy=>aa y hy (OT.of N)⟩;obtain⟨L,eL,hL,hB⟩:=QpR QB ae λw h=>⟨(hw w h).2,gq⟩;have eT:=qC L om;have tl:=Qnh L;have A1:=NA d om M (P:=P) (p:=p) (o:=(FY L,0)) (by rw[J,g,Y];exact Ea eL (Ea eT (Qa _)));have G:Ev (λn=>iter (HM n V ({C0 (C7 c w) k s H D P p with As:=F},0)) n ([],0)) (L.map (Fi (i64.wrap (0-b)))):=by
   obtain⟨N0,e0⟩:=eL;exact⟨max N0 (max N1 N2),λn hn=>D? (q:={C0 c k s H D P p with As:=F}) (λW r hr=>_X (q:={C0 c k s H D P p with As:=F}) (tt n om) hl hx xt xc hv ab hg hr) (e0 n om)⟩
  have sb:sB (i64.wrap (0-b)):=by
   rw[Dh];unfold sB;omega
  have td:=QpN sb hB;have A2:=NA f om j (P:=P) (p:=p) (o:=((FY L).map (Fi (i64.wrap (0-b))),0)) (by
   rw[J,g,Y];exact Ea G (Ea ((qC _ gq).eq td) (Qa _)))
  grind
theorem HF(c:CB)(l:AA CI)(b p y:Int)(B:CB.wf c)(wl:AI l<=1048576/\ ∀x∈l,CI.wf x)(hb:Qq .i64 b)(hp:Qq .i64 p)(hy:Qq .i64 y):∃n,Mo n c l b p y=AC true:=by
 suffices z:Tt (λn=>Mo n c l b p y) (λr=>r=AE)from by
  obtain⟨r,e,h⟩:=z;subst h;exact e.ex (f:=λn=>Mo n c l b p y)
 unfold Mo;refine Tt.b (P:=λr=>r=AE) (Tt.e (EA Qr5) rfl) λr h=>?_;subst h;refine Tt.c (λq=>by cases q) λ_=>Tt.b (Qnx c B l b) λr hr=>?_;obtain⟨k1,k2,s1,s2,E,s4,s5,s6,s7,s8,H,D,P,ok⟩:=r;refine Tt.b (P:=λv=>v=AD->ok=AE/\(0<=y/\y<=1073741824)/\(0<=E/\E<(AI c.Ap:Int))/\ ∃x,CJ c.AO s2=AC x/\x.A9=1/\x.Aq=[]) ?_ λv d=>Tt.c (λ_=>Tt.p rfl) λq0=>?_
 .refine Tt.n λq1=>Tt.n λq2=>Tt.n λq3=>Tt.n λN=>Tt.n λJ=>Tt.n λG=>Tt.n λF=>?_;have q2:=Vv q2;have q3:=Vv q3;have N:=Vv N;have J:=Vv J;have G:=Vv G;have F:=Vv F;simp only at N J G F;refine Tt.b (kB gq gq) λx R=>Tt.n λq8=>Tt.b (P:=λz=>z=x) (Tt.o R.2 rfl) λz L=>Tt.p λq=>?_
  simp_all
 obtain⟨T,⟨y0,y1⟩,⟨w0,w1⟩,x,R,xt,xc⟩:=d q0;obtain⟨Q,kw,hH,Y,⟨hP,t⟩,sl⟩:=hr T;simp only at kw hH Y hP t sl;have wv:=(YN B).wave;refine Tt.b (P:=λm=>m=c.Ap) (Tt.o (Zk [] c.Ap (by simp;omega)) sq) λm hm=>?_;subst hm;refine Tt.b (kB w0 w1) λv d=>Tt.b (P:=λz=>z=v) (Tt.o d.2 rfl) λz L=>?_;subst L;obtain⟨i,rfl⟩:∃i:Nat,E=(i:Int):=⟨E.toNat,om⟩;have il:i<AI c.Ap:=om;generalize hu:({An:=z.An,Bv:=i64.wrap (z.Bv+y)}:Aw)=u;have vi:c.Ap[i]?=AC z:=(JO d.2).2;refine Tt.b (P:=λw=>w=c.Ap.set i u) (Tt.o (mH _ _ il) rfl) λw hw=>?_;have O:AI w=AI c.Ap:=gq;have hn:w.map (·.An)=c.Ap.map (·.An):=by
  rw[hw,List.map_set];refine List.ext_getElem? λj=>?_
  grind
 have wi:CJ w (i:Int)=AC u:=Qx gq;have wd:CB.wf (C7 c w):=by
  unfold CB.wf at B⊢;obtain⟨a1,a2,a3,a4,⟨a5,a6⟩,a7⟩:=B;refine⟨a1,a2,a3,a4,⟨gq,λo M=>?_⟩,a7⟩;have M:o∈c.Ap.set i u:=hw▸M;rcases List.mem_or_eq_of_mem_set M with h|h
  .exact a6 o h
  .subst h;rw[<- hu];exact⟨(a6 z d.1).1,QjX _,trivial⟩
 obtain⟨e,ee,W⟩:=uX (C7 c w) wd;refine Tt.b (P:=λr=>r=e) (Tt.e ee rfl) λr h=>?_;subst h;refine Tt.c (λ_=>Tt.p rfl) λq1=>?_;have e0:r=0:=gq;subst e0;have X:=W rfl;have cd:=Q.w O wd ee X;have cE:=j8 O hn Q.rr.2 X.2;refine Tt.b (P:=λv=>v=Fa P) (Tt.e (QqR P om) rfl) λe W=>?_;subst W;obtain⟨V,o1,o2,eV,E1,E2,eo,fin⟩:=Qol Q cd O cE kw (s:={BU:=s1,AN:=s2,Aw:=(i:Int),BK:=s4,B7:=s5,BB:=s6,Bl:=s7,B6:=s8}) hH Y hP t sl p y0 y1 R xt xc d.2 wi (by rw[<- hu]);refine⟨AE,Ea eV (Ea E1 (Ea E2 (Ea (v:=AE) ?_ (Qa _)))),rfl⟩;rw[show(o1.2==o2.2)=AE by rw[eo];simp];refine Sx ?_;cases L:(V.2 != 0)with
 |true=>exact Qa _
 |false=>
  obtain⟨g,b1,b2⟩:=fin gq;exact Yd (Ea (Qj0 o1.1 _ b1) (Ea ((Qmp o2.1 _ b2).eq (Jz g)) (Qa _)))
end Go.Sw
