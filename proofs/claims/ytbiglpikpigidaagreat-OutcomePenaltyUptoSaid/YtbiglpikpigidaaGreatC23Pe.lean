/- The law of a further BP. -/
import Derived.Test.YtbiglpikpigidaaGreatQ23Pe
set_option linter.unusedVariables false
set_option linter.unusedSimpArgs false
set_option maxRecDepth 10000
namespace Go.Sw
open Option renaming some→AC,none→AF
open Bool renaming false→AD,true→AE
open Decidable renaming decide→AG
open List renaming length→AI
theorem OT.of{c:CB}(h:CN c=0):OT c:=λo ho=>by
 have hn:=(Y3 h).2.1;unfold Cx at hn;simp only[XW]at hn;have a:=Xs.1 hn.2.2.2.2.2.1 o ho;unfold NT at a;unfold Df;have e:o.BU=0\/DG 0 68719476736 o.BU=true:=by
  grind
 rcases e with e|e
 .omega
 .unfold DG at e;grind
theorem FO(c:CB)(l:AA CI)(b p fr B:Int)(wc:CB.wf c)(wl:AI l<=1048576/\ ∀x∈l,CI.wf x)(O:Qq .i64 b)(hp:Qq .i64 p)(hf:Qq .i64 fr)(ht:Qq .i64 B):∃n,Pp n c l b p fr B=AC true:=by
 refine Ev.ex (f:=λn=>Pp n c l b p fr B) ?_;unfold Pp;refine Ea (EA Q?) (Q1 ?_);obtain⟨r,er,hr⟩:=Qns c wc l b;refine Ea er ?_;obtain⟨k1,k2,s1,s2,s3,s4,s5,s6,s7,s8,H,D,P,ok⟩:=r;refine Ea (QI λ_=>QI λ_=>QI λ_=>QI λ_=>Qa _) ?_;cases hq:((!ok)||(AG (B<0)||(AG (68719476736<B)||(AG (fr<0)||AG (256<fr)))))with
 |true=>exact Qa _
 |false=>
 simp only[XX,decide_eq_false_iff_not,Bool.not_eq_false']at hq;obtain⟨cw,kw,hH,hD,⟨hP,aa⟩,sl⟩:=hr hq.1;simp only at kw hH hD hP aa sl;refine Q1 ?_;show Ev (λn=>(app ([]:AA CF) P).bind λaf=>(app af [({AT:=fr,BU:=B,As:=0,BM:=AD}:CF)]).bind _) AE;refine YC (S6 _ _ (by simp;omega)) (YC (S6 _ _ (by simp;omega)) ?_);rw[Vi];generalize hk:({AS:=k1,BQ:=k2}:CE)=k at kw;generalize hs:({BW:=s1,AN:=s2,A3:=s3,BK:=s4,B6:=s5,BB:=s6,Bl:=s7,B5:=s8}:AP)=s;have sl:Df s.BK:=gq;generalize hy:({AT:=fr,BU:=B,As:=0,BM:=AD}:CF)=y;have yl:y.As=0:=by rw[<- hy]
 have lp:=Qn8 P y yl;have M:AI (P++[y])<=100:=by simp;omega
 have ab:∃(V:AA CW×Int) (g F:AA CC×Int),Ev (λn=>HF n c k s (FP P) H D) V/\Ev (λn=>NA n c k s H D P p) g/\Ev (λn=>NA n c k s H D (P++[y]) p) F/\g.2=F.2/\
   (g.2=0->V.2=0->∃T,Ev (λn=>K8 n V.1 p) T/\(fr<=T->F.1=g.1.map (D8 B))/\(¬fr<=T->g.1=F.1)/\AI g.1<=1048576/\AI F.1<=1048576):=by
  by_cases X:CN c=0
  case neg=>
   have R:=QoP cw X kw s (FP P) H hH D hD;have N:Ev (λn=>HF n c k s (FP (P++[y])) H D) ([],CN c):=gq;have J:=qE (q:=Cp c k s H D P p) cw.ty X;have m:=qE (q:=Cp c k s H D (P++[y]) p) cw.ty X;have z:∃e,∀P',Ev (λn=>(bif (bif CN c != 0 then CN c != 2 else AD)then AC ([],CN c)else(match(AF:AB Int)with
     |none=>AC ([],90)
     |some d=>bif CN c==2 then(K4 n {Cp c k s H D P' p with Aj:=d}).bind λr=>AC (r,0)else(iter (Ie n ([],CN c) ({Cp c k s H D P' p with Aj:=d},0)) n ([],0):AB (AA CC)).bind λL=>(JZ n L).bind λr=>AC (r,0)):AB (AA CC×Int))) (([]:AA CC),e):=by
    cases(bif CN c != 0 then CN c != 2 else AD)with
    |true=>exact⟨_,λ_=>Qa _⟩
    |false=>exact⟨_,λ_=>Qa _⟩
   obtain⟨e,z⟩:=z;exact⟨_,([],e),([],e),R,L3 (pv:=AF) J om R (z P),L3 (pv:=AF) m M N (z (P++[y])),rfl,λ_ q=>absurd q X⟩
  have cr:=cw.r X;obtain⟨V,R,wr⟩:=Z? cr kw s (FP P) H hH D hD;have J:=tw (q:=Cp c k s H D P p) cr;have m:=tw (q:=Cp c k s H D (P++[y]) p) cr;have ad:Hw (CX (Cp c k s H D P p).A0 (Cp c k s H D P p).Ag.AN (Cp c k s H D P p).BY) (Cp c k s H D P p).Aj=Hw (CX c s.AN (FP P)) p:=rfl;have ac:Hw (CX (Cp c k s H D (P++[y]) p).A0 (Cp c k s H D (P++[y]) p).Ag.AN (Cp c k s H D (P++[y]) p).BY) (Cp c k s H D (P++[y]) p).Aj=Hw (CX c s.AN (FP (P++[y]))) p:=rfl;rw[ad]at J;rw[ac]at m;have N:Ev (λn=>HF n c k s (FP (P++[y])) H D) V:=gq;refine⟨V,?_⟩
  suffices z:∃g F:AA CC×Int,Ev (λn=>NA n c k s H D P p) g/\Ev (λn=>NA n c k s H D (P++[y]) p) F/\g.2=F.2/\
    (g.2=0->V.2=0->∃T,Ev (λn=>K8 n V.1 p) T/\(fr<=T->F.1=g.1.map (D8 B))/\(¬fr<=T->g.1=F.1)/\AI g.1<=1048576/\AI F.1<=1048576)from by
   obtain⟨g,F,z⟩:=z
   grind
  cases O:(bif V.2 != 0 then V.2 != 2 else AD)with
  |true=>
   have h0:V.2≠0:=by
    grind
   exact⟨([],V.2),([],V.2),L3 J om R (by rw[O];exact Qa _),L3 m M N (by rw[O];exact Qa _),rfl,λz=>absurd z h0⟩
  |false=>
  cases E:Hw (CX c s.AN (FP P)) p with
  |none=>exact⟨([],90),([],90),L3 J om R (by rw[O,E];exact Qa _),L3 m M N (by rw[O,lp,E];exact Qa _),rfl,λz=>absurd z (by decide)⟩
  |some d=>
  cases Y:(V.2==2)with
  |true=>
   have ah:V.2=2:=gq;obtain⟨u1,e1,_⟩:=si {Cp c k s H D P p with Aj:=d} (by show AI P<=100;omega);obtain⟨u2,e2,_⟩:=si {Cp c k s H D (P++[y]) p with Aj:=d} M;exact⟨(u1,0),(u2,0),L3 J om R (by rw[O,E,Y];exact Ea e1 (Qa _)),L3 m M N (by rw[O,lp,E,Y];exact Ea e2 (Qa _)),rfl,λ_ z=>om⟩
  |false=>
   have h0:V.2=0:=by
    grind
   obtain⟨ne,t,ti,te,r2,hw⟩:=wr.ok h0;have hr:t.r=(CX c s.AN (FP P)).1:=by rw[ti.is];rfl
   obtain⟨p0,pe⟩:=_V E gq;have ag:=wr.len;have Q:Qk {Cp c k s H D P p with Aj:=d} t:=⟨cr,kw,te,ti,hH,hD,p0,by show AI P<=100;omega⟩;have QB:Sl {Cp c k s H D P p with Aj:=d} t:=⟨Q,Qo9 ti,sl,λy hy=>aa y hy (OT.of X)⟩;obtain⟨L,eL,hL,hB⟩:=QpM QB ag λw h=>⟨(hw w h).2,gq⟩;have eT:=qC L om;have tl:=Qnc L;have A1:=L3 J om R (P:=P) (p:=p) (o:=(DW L,0)) (by rw[O,E,Y];exact Ea eL (Ea eT (Qa _)));have rs:Ev (λn=>K8 n V.1 p) d:=by
    unfold K8;obtain⟨w,W,e⟩:∃w W,V.1=w::W:=by
     cases z:V.1 with
     |nil=>grind
     |cons w W=>simp
    have ae:=(hw w gq).1;have rl:=ti.ok.rl;rw[pe];cases z:(p== -1)with
    |true=>
     refine Ea (v:=AE) ((Qa _).eq (Jf (by rw[e];simp only[X0];omega))) ?_;rw[e];refine RY (YC (show CJ (w::W) 0=AC w from rfl) ((Qa _).eq ?_));rw[ae,hr,QJ (by rw[<- hr];omega) (by rw[<- hr];omega)];rfl
    |false=>exact Ea (v:=AD) (Qa _) (Qa _)
   by_cases j:fr<=d
   .have U1:=Zk P d om;have U2:=Zk (P++[y]) d om;have ue:(P++[y]).foldl (IR d) (0,0,AD)=IR d (P.foldl (IR d) (0,0,AD)) y:=by
     rw[XC];rfl
    rw[ue]at U2;generalize P.foldl (IR d) (0,0,AD)=u at U1 U2;have v1:(IR d u y).1=IntKind.i64.wrap (u.1+B)/\(IR d u y).2.2=u.2.2:=by
     unfold IR;rw[<- hy,Jf (show fr<=d from j)];exact⟨rfl,sq⟩
    have G:Ev (λn=>iter (Ie n V ({Cp c k s H D (P++[y]) p with Aj:=d},0)) n ([],0)) (L.map (D8 B)):=by
     obtain⟨N0,e0⟩:=eL;obtain⟨N1,e1⟩:=U1;obtain⟨N2,e2⟩:=U2;have qe:({Cp c k s H D (P++[y]) p with Aj:=d}:Ui)={({Cp c k s H D P p with Aj:=d}:Ui)with BP:=P++[y]}:=by
      unfold Cp;rw[lp]
     rw[qe];exact⟨max N0 (max N1 N2),λn hn=>Qqi (q:={Cp c k s H D P p with Aj:=d}) (P:=P++[y]) (e1 n om) (e2 n om) v1.1 v1.2 (e0 n om)⟩
    have td:DW (L.map (D8 B))=(DW L).map (D8 B):=QpH (by unfold sB;omega) hB;have A2:=L3 m M N (P:=P++[y]) (p:=p) (o:=((DW L).map (D8 B),0)) (by
     rw[O,lp,E,Y];exact Ea G (Ea ((qC _ (by rw[X2];omega)).eq td) (Qa _)))
    exact⟨_,_,A1,A2,rfl,λ_ _=>⟨d,rs,λ_=>rfl,λz=>absurd j z,by show(DW L).length<=_;omega,by show((DW L).map (D8 B)).length<=_;rw[X2];omega⟩⟩
   .have U1:=Zk P d om;have U2:=Zk (P++[y]) d om;have ue:(P++[y]).foldl (IR d) (0,0,AD)=P.foldl (IR d) (0,0,AD):=by
     rw[XC];show IR d _ y=_;unfold IR;rw[<- hy,YO (show¬fr<=d from j)];rfl
    rw[ue]at U2;have G:Ev (λn=>iter (Ie n V ({Cp c k s H D (P++[y]) p with Aj:=d},0)) n ([],0)) L:=by
     refine Qq7 eL ?_;obtain⟨N1,e1⟩:=U1;obtain⟨N2,e2⟩:=U2;refine⟨max N1 N2,λn hn=>?_⟩;have eu:KX n (P++[y]) d=KX n P d:=(e2 n om).trans (e1 n om).symm;have qe:({Cp c k s H D (P++[y]) p with Aj:=d}:Ui)={({Cp c k s H D P p with Aj:=d}:Ui)with BP:=P++[y]}:=by
      unfold Cp;rw[lp]
     have st:Ie n V ({Cp c k s H D (P++[y]) p with Aj:=d},0)=Ie n V ({Cp c k s H D P p with Aj:=d},0):=by
      funext a
      rw[qe];unfold Ie;simp only[_P (q:={Cp c k s H D P p with Aj:=d}) (P:=P) (P':=P++[y]) eu];rfl
     rw[st]
    have A2:=L3 m M N (P:=P++[y]) (p:=p) (o:=(DW L,0)) (by
     rw[O,lp,E,Y];exact Ea G (Ea eT (Qa _)))
    exact⟨_,_,A1,A2,rfl,λ_ _=>⟨d,rs,λz=>absurd z j,λ_=>rfl,by show(DW L).length<=_;omega,by show(DW L).length<=_;omega⟩⟩
 obtain⟨V,g,F,R,E1,E2,eo,fin⟩:=ab;refine Ea E1 (Ea E2 (Ea (QqM P om) (Ea R ?_)));rw[show(g.2 != F.2)=AD by rw[eo];simp];refine Q1 (Ea (QI λ_=>Qa _) ?_);cases hz:((g.2 != 0)||(V.2 != 0))with
 |true=>exact Qa _
 |false=>
 simp only[XX]at hz;obtain⟨T,e,g1,g2,b1,b2⟩:=fin (by simpa[bne]using hz.1) (by simpa[bne]using hz.2);refine Q1 (Ea e ?_);by_cases j:fr<=T
 .rw[Jf j];exact RY (Ea (QjY g.1 B b1) (Ea ((s_ F.1 (g.1.map (D8 B)) b2).eq (Jf (g1 j))) (Qa _)))
 .rw[YO j];exact Q1 (Ea ((s_ g.1 F.1 b1).eq (Jf (g2 j))) (Qa _))
end Go.Sw
