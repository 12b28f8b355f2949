/- Legs: some difference of neighbouring crossings that the clocks allow is what the leg between them needs. -/
import Derived.Test.YthdhdobclejckaaGreatQ19Le
set_option linter.unusedVariables false
set_option linter.unusedSimpArgs false
set_option maxRecDepth 10000
namespace Go.Sw
open List(map)
open Int(toNat)
open Go.IntKind(i64 u64 u8)
theorem Qja{a:stopwatchlaw19_Input}(w:stopwatchlaw19_Input.wf a)(f:FewI a)(d:Ev (λn=>F_an n a) true)(s:courseE a.C=0)(u:0<=a.S.Distance)(x:a.S.Distance<(a.C.Distances.length:Int))(t:(routeO a.C a.S.Distance a.Extra).2=0):(routeO a.C a.S.Distance a.Extra).1.length<=8:=by
 obtain⟨r,g,_⟩:=Qhe a.C w.1;obtain⟨l,i,_⟩:=Qg6 a.K f.clk;have k:∃v,Ev (λn=>F_an n a) v/\(v=true->(routeO a.C a.S.Distance a.Extra).1.length<=8):=by
  unfold F_an F_ca;cases d:(!r||(decide (8<(a.C.Mats.length:Int))||(!l||(decide (4<(a.Hits.length:Int))||decide (6<(a.Hands.length:Int))))))with
  |true=>exact⟨false,Ea (Ea (v:=true) (Ew (Ea g (Ql λ_=>Ql λ_=>Ea i (Ql λ_=>Ql λ_=>Qa _))) d) (Qa _)) (Qa _),nofun⟩
  |false=>
   have j:(decide (a.S.Distance<0)||decide ((a.C.Distances.length:Int)<=a.S.Distance))=false:=by
    rw[Qu (show¬a.S.Distance<0 by omega),Qu (show¬(a.C.Distances.length:Int)<=a.S.Distance by omega)];rfl
   have e:=Qfw f.good f.ref a.S.Distance a.Extra;rw[s]at e;simp only[bne_self_eq_false,Vn]at e;refine⟨(routeO a.C a.S.Distance a.Extra).2 != 0||decide (((routeO a.C a.S.Distance a.Extra).1.length:Int)<=8),Ea (Ea (v:=false) (Ew (Ea g (Ql λ_=>Ql λ_=>Ea i (Ql λ_=>Ql λ_=>Qa _))) d) (Qs (Ea (v:=false) (Ew (Ql λ_=>Qa _) j) (Qs (Ea e (Ea (Ql λ_=>Qa _) (Qa _))))))) (Qa _),λh=>?_⟩;rw[t]at h;have h:=Vs (p:=((routeO a.C a.S.Distance a.Extra).1.length:Int)<=8) (by simpa using h);omega
 obtain⟨v,q,m⟩:=k;exact m (Qmi q d)
theorem QhS{c:Course}(g:Good c)(r:courseE c=0)(he:Ev (λn=>F_c n c) 0){i k:Int}(h:(routeO c i k).2=0){p:Nat}{a b:Int}(q:(routeO c i k).1[p]?=some a)(d:(routeO c i k).1[p+1]?=some b)(w:(routeO c i k).1.length<=256)(hg:hasLeg c a b=true):
  Ev (λn=>F_bw n c i k (p:Int) ((p+1:Nat):Int)) ({Lo:=(legV c a b).Min,Hi:=(legV c a b).Max},0):=by
 obtain⟨L,lf,ln⟩:=Qeg r hg;have t:=L.lo;have u:=L.le;have s:=L.hi;have f:=(XK.1 d).1;unfold F_bw;refine Ea (Qjj g he h) ?_;simp only;refine Ea (v:=false) (Yp (Qu (by omega)) (Yp (Qu (by omega)) ((Qa _).eq (Qu (by omega))))) (Qs ?_);refine Ea (v:={Lo:=(legV c a b).Min,Hi:=(legV c a b).Max}) ?_ (Qa _);unfold F_ft;have fin:∀v:Span,EvI (λn=>F_hc n (routeO c i k).1 ((p+1:Nat):Int) (c.Legs.foldl (λm x=>QW m ({from_:=x.From,to_:=x.To:Ub}) x) [])) (v,((p+1:Nat):Int)) v:=by
  intro v;refine Ej ?_;unfold F_hc;simp only[Qu (show¬((p+1:Nat):Int)<((p+1:Nat):Int)by omega),Vn];exact Qa _
 refine Ea (Ex (s':=({Lo:=(legV c a b).Min,Hi:=(legV c a b).Max},((p+1:Nat):Int))) ?_ (fin _)).ev (Qa _);unfold F_hc;simp only[Qv (show(p:Int)<((p+1:Nat):Int)by omega),Vm];rw[Qt q,XI,QV (by omega),Qt d,XI];have j:QA (c.Legs.foldl (λm x=>QW m ({from_:=x.From,to_:=x.To:Ub}) x) []) ({from_:=a,to_:=b}:Ub) Us=legV c a b:=by
  unfold QA;rw[QgG c.Legs [] ln lf];rfl
 rw[j];simp only[XI];have e:i64.wrap (0+(legV c a b).Min)=(legV c a b).Min:=by rw[Qj (by omega) (by omega)];omega
 have l:i64.wrap (0+(legV c a b).Max)=(legV c a b).Max:=by rw[Qj (by omega) (by omega)];omega
 rw[e,l,Vq (by omega),Vq (by omega)];exact Qa _
theorem QhI{k:Clocks}(h:clkB k=true){i j:Nat}(hi:i<k.Segments.length+1)(m:j<k.Segments.length+1):farG k i i=0/\ -2199023255552<=farG k i j/\farG k i j<=2199023255552:=by
 have d:=QbT h;simp only[clkB,XV]at h;have a:=Qnk.1 h.2.2.1 i (by have:=d.far;omega);obtain⟨f,g⟩:=d.get hi m;obtain⟨_,n⟩:=d.get hi hi;rw[f]at a;simp only[rowB,Bool.not_eq_true',XW]at a;obtain⟨_,e,l⟩:=a;rw[n]at e;have b:=List.any_eq_false.1 l (farG k i j) (VD g);unfold farBad at b;simp only[Bool.or_eq_true,Vo,not_or]at b;refine⟨by simpa[bne]using e,by omega,by omega⟩
theorem Qkg(d w:Span):meetV d w=true↔d.Lo<=d.Hi/\d.Lo<=w.Hi/\w.Lo<=d.Hi/\w.Lo<=w.Hi:=by
 unfold meetV;rw[Vo];constructor
 .intro h;split at h<;>split at h<;>omega
 .intro h;split<;>split<;>omega
theorem Qc4{a b c d F G m x:Int}(k: -9007199254740992<=a)(r:a<=9007199254740992)(f: -9007199254740992<=b)(j:b<=9007199254740992)(c1: -9007199254740992<=c)(h:c<=9007199254740992)(l: -9007199254740992<=d)(p:d<=9007199254740992)(i: -9007199254740992<=F)(q:F<=9007199254740992)(e: -9007199254740992<=G)(g:G<=9007199254740992):
  meetV {Lo:=i64.wrap (i64.wrap (c-b)-F),Hi:=i64.wrap (i64.wrap (d-a)+G)} {Lo:=m,Hi:=x}=true↔c-b-F<=d-a+G/\c-b-F<=x/\m<=d-a+G/\m<=x:=by
 rw[Qj (n:=c-b) (by omega) (by omega),Qj (n:=d-a) (by omega) (by omega),Qj (n:=c-b-F) (by omega) (by omega),Qj (n:=d-a+G) (by omega) (by omega),Qkg]
theorem Ql6{yl e a g d f m x:Int}(y1: -4398046511104<=yl)(y2:yl<=e)(h:e<=4398046511104)(q:0<=d-a)(l:d-a<=f-g)(p:f-g<=549755813888)(j:0<=m)(k:m<=x)(i:x<=68719476736):
  meetV {Lo:=i64.wrap (i64.wrap (i64.wrap (yl+(d+m-a))-i64.wrap (e+(f-g)))-0),Hi:=i64.wrap (i64.wrap (i64.wrap (e+(f+x-g))-i64.wrap (yl+(d-a)))+0)} {Lo:=m,Hi:=x}=true:=by
 rw[Qj (n:=yl+(d+m-a)) (by omega) (by omega),Qj (n:=e+(f-g)) (by omega) (by omega),Qj (n:=e+(f+x-g)) (by omega) (by omega),Qj (n:=yl+(d-a)) (by omega) (by omega)];exact(Qc4 (by omega) (by omega) (by omega) (by omega) (by omega) (by omega) (by omega) (by omega) (by omega) (by omega) (by omega) (by omega)).2 (by omega)
theorem Ql5{yl yh zl zh il ih pl ph m x F G z0:Int}(y1: -4398046511104<=yl)(y2:yl<=yh)(f:yh<=4398046511104)(q: -4398046511104<=zl)(e:zl<=zh)(h:zh<=4398046511104)(t:0<=pl-il)(p:pl-il<=ph-ih)(s:ph-ih<=549755813888)(i:0<=m)(j:m<=x)(g:x<=68719476736)
  (l: -2199023255552<=F)(r:F<=2199023255552)(d: -2199023255552<=G)(k:G<=2199023255552)(a:meetV {Lo:=i64.wrap (i64.wrap (zl-yh)-F),Hi:=i64.wrap (i64.wrap (zh-yl)+G)} {Lo:=pl+m-il,Hi:=ph+x-ih}=true):
  meetV {Lo:=i64.wrap (i64.wrap (i64.wrap (zl+(pl+m-(pl+m)))-i64.wrap (yh+(ph-ih)))-F),Hi:=i64.wrap (i64.wrap (i64.wrap (zh+(ph+x-(ph+x)))-i64.wrap (yl+(pl-il)))+G)} {Lo:=m,Hi:=x}=true:=by
 rw[Qj (n:=zl+(pl+m-(pl+m))) (by omega) (by omega),Qj (n:=yh+(ph-ih)) (by omega) (by omega),Qj (n:=zh+(ph+x-(ph+x))) (by omega) (by omega),Qj (n:=yl+(pl-il)) (by omega) (by omega)];have a:=(Qc4 (by omega) (by omega) (by omega) (by omega) (by omega) (by omega) (by omega) (by omega) (by omega) (by omega) (by omega) (by omega)).1 a;exact(Qc4 (by omega) (by omega) (by omega) (by omega) (by omega) (by omega) (by omega) (by omega) (by omega) (by omega) (by omega) (by omega)).2 (by omega)
theorem Ql3{yl e d a m x:Int}(y1: -4398046511104<=yl)(y2:yl<=e)(f:e<=4398046511104)(h:0<=m)(i:m<=x)(g:x<=68719476736):
  meetV {Lo:=i64.wrap (i64.wrap (i64.wrap (yl+(d+m-(d+m)))-i64.wrap (e-(d+m-d)))-0),Hi:=i64.wrap (i64.wrap (i64.wrap (e+(a+x-(a+x)))-i64.wrap (yl-(a+x-a)))+0)} {Lo:=m,Hi:=x}=true:=by
 rw[Qj (n:=yl+(d+m-(d+m))) (by omega) (by omega),Qj (n:=e-(d+m-d)) (by omega) (by omega),Qj (n:=e+(a+x-(a+x))) (by omega) (by omega),Qj (n:=yl-(a+x-a)) (by omega) (by omega)];exact(Qc4 (by omega) (by omega) (by omega) (by omega) (by omega) (by omega) (by omega) (by omega) (by omega) (by omega) (by omega) (by omega)).2 (by omega)
theorem Qm9{yl e f a d g m x:Int}(y1: -4398046511104<=yl)(y2:yl<=e)(h:e<=4398046511104)(q:0<=f-(d+m))(l:f-(d+m)<=a-(g+x))(p:a-(g+x)<=549755813888)(j:0<=m)(k:m<=x)(i:x<=68719476736):
  meetV {Lo:=i64.wrap (i64.wrap (i64.wrap (yl-(a-(g+x)))-i64.wrap (e-(f-d)))-0),Hi:=i64.wrap (i64.wrap (i64.wrap (e-(f-(d+m)))-i64.wrap (yl-(a-g)))+0)} {Lo:=m,Hi:=x}=true:=by
 rw[Qj (n:=yl-(a-(g+x))) (by omega) (by omega),Qj (n:=e-(f-d)) (by omega) (by omega),Qj (n:=e-(f-(d+m))) (by omega) (by omega),Qj (n:=yl-(a-g)) (by omega) (by omega)];exact(Qc4 (by omega) (by omega) (by omega) (by omega) (by omega) (by omega) (by omega) (by omega) (by omega) (by omega) (by omega) (by omega)).2 (by omega)
theorem Ql4{m x:Int}(l1:0<=m)(l2:m<=x)(l3:x<=68719476736):meetV {Lo:=i64.wrap (i64.wrap ((-1099511627776)-1099511627776)-0),Hi:=i64.wrap (i64.wrap (1099511627776-(-1099511627776))+0)} {Lo:=m,Hi:=x}=true:=
 (Qc4 (a:= -1099511627776) (b:=1099511627776) (c:= -1099511627776) (d:=1099511627776) (F:=0) (G:=0) (by omega) (by omega) (by omega) (by omega) (by omega) (by omega) (by omega) (by omega) (by omega) (by omega) (by omega) (by omega)).2 (by omega)
theorem Ql1{t:Task}(d:clkB t.k=true){a b:Ud}{f e:Nat}(i:a.segment+1=(f:Int))(g:f<t.k.Segments.length+1)(l:b.segment+1=(e:Int))(s:e<t.k.Segments.length+1)(y1: -4398046511104<=a.span.Lo)(y2:a.span.Lo<=a.span.Hi)(m:a.span.Hi<=4398046511104)(u: -4398046511104<=b.span.Lo)(p:b.span.Lo<=b.span.Hi)(r:b.span.Hi<=4398046511104):
  distV t a b={Lo:=i64.wrap (i64.wrap (b.span.Lo-a.span.Hi)-farG t.k e f),Hi:=i64.wrap (i64.wrap (b.span.Hi-a.span.Lo)+farG t.k f e)}:=by
 have q:=(QbT d).segs;unfold distV;rw[i,l,Qj (n:=(f:Int)) (by omega) (by omega),Qj (n:=(e:Int)) (by omega) (by omega),Int.toNat_natCast,Int.toNat_natCast];by_cases h:f=e
 .subst h;rw[(QhI d g g).1,bne_self_eq_false,Vn,Qj (n:=b.span.Lo-a.span.Hi) (by omega) (by omega),Qj (n:=b.span.Hi-a.span.Lo) (by omega) (by omega),Qj (by omega) (by omega),Qj (by omega) (by omega),Int.sub_zero,Int.add_zero]
 .have j:((f:Int) != (e:Int))=true:=by simp[bne];omega
  rw[j];rfl
section
variable {c:Course} {k:Clocks} {s:Starter} {e:Int} {x:List Hit} {l:List Hand} {t:Task}
theorem Qbv(a:TaskIs c k s e x l t)(i:courseE c=0->Good c):Adj c t.r:=by
 have g:=i a.cE;obtain⟨j,d,f,u,p,n,h,q,m⟩:=QaV g a.rt;have:t.r=routeV d f:=by rw[a.is];exact m
 rw[this];exact Qfg g a.cE (VD n) f h
theorem Qim(a:TaskIs c k s e x l t)(g:courseE c=0->Good c)(E:t.r.length<=8){i j:Nat}(z:i<=j)(F:j<t.r.length):∃u v,(sumsV c t.r)[i]?=some u/\(sumsV c t.r)[j]?=some v/\needV t i j={Lo:=v.Lo-u.Lo,Hi:=v.Hi-u.Hi}/\0<=v.Lo-u.Lo/\v.Lo-u.Lo<=v.Hi-u.Hi/\v.Hi-u.Hi<=549755813888:=by
 have y:t.s=sumsV c t.r:=by rw[a.is];rfl
 have f:(sumsV c t.r)[i]?=some ((sumsV c t.r)[i]'(by rw[YC];omega)):=XJ _;have d:(sumsV c t.r)[j]?=some ((sumsV c t.r)[j]'(by rw[YC];omega)):=XJ _;have m:=Qe9 a.cE (Qbv a g) (by omega) f (j-i) _ (by rw[show i+(j-i)=j by omega];exact d);have w:=QdH a.cE (Qbv a g) (by omega) _ _ f;have p:=QdH a.cE (Qbv a g) (by omega) _ _ d;refine⟨_,_,f,d,?_⟩;unfold needV;rw[y,Int.toNat_natCast,Int.toNat_natCast,f,d];simp only[Option.getD_some];generalize(sumsV c t.r)[i]'(by rw[YC];omega)=u at m w;generalize(sumsV c t.r)[j]'(by rw[YC];omega)=v at m p;have B:((j-i:Nat):Int)*68719476736<=549755813888:=by
  have:((j-i:Nat):Int)<=8:=by omega
  omega
 have q:(i:Int)*68719476736<=549755813888:=by omega
 have h:(j:Int)*68719476736<=549755813888:=by omega
 rw[Qj (n:=v.Lo-u.Lo) (by omega) (by omega),Qj (n:=v.Hi-u.Hi) (by omega) (by omega),Vq (by omega),Vq (by omega)];exact⟨rfl,by omega,by omega,by omega⟩
theorem QkW(m:TaskIs c k s e x l t){W:Way}(a:∀h∈W.Hits,hitI t h){p:Nat}{n:Int}{r:Span}(h:Cr t W p n r):∃j:Nat,n+1=(j:Int)/\j<t.k.Segments.length+1:=by
 have f:∀i:Nat,hitI t ((W.Hits[i]?).getD (-1)):=by
  intro i;cases e:W.Hits[i]? with
  |none=>exact .inl (by show(-1:Int)<0;omega)
  |some y=>exact a y (VD e)
 cases h with
 |back i q d g=>exact QbS m.ok (f i) d
 |fwd u i q w d g=>exact QbS m.ok (f i) d
 |none u=>exact⟨0,rfl,by omega⟩
theorem Ql2(J:TaskIs c k s e x l t)(gd:courseE c=0->Good c)(h8:t.r.length<=8){W:Way}(ab:∀h∈W.Hits,hitI t h)(ac:admL t W W.Hits 0 [] s0V=true)(ah:W.Hits.length=t.r.length)(ai:W.Last<(t.r.length:Int)){p:Nat}(hp:((p+1:Nat):Int)<=W.Last){a b:Int}(h1:t.r[p]?=some a)(h2:t.r[p+1]?=some b)
  {sA sB:Int}{A B:Span}(hA:Cr t W p sA A)(hB:Cr t W (p+1) sB B){Q O:Nat}(ea:sA+1=(Q:Int))(la:Q<t.k.Segments.length+1)(eb:sB+1=(O:Int))(lb:O<t.k.Segments.length+1):
  meetV {Lo:=i64.wrap (i64.wrap (B.Lo-A.Hi)-farG t.k O Q),Hi:=i64.wrap (i64.wrap (B.Hi-A.Lo)+farG t.k Q O)} {Lo:=(legV c a b).Min,Hi:=(legV c a b).Max}=true:=by
 have ag:t.k=k:=by rw[J.is];rfl
 have E:clkB t.k=true:=by rw[ag];exact J.clk
 have ad:=Qbv J gd;obtain⟨LO,_,_⟩:=Qeg J.cE (ad.at h1 h2);have l1:=LO.lo;have l2:=LO.le;have l3:=LO.hi;have hI:∀i:Nat,hitI t ((W.Hits[i]?).getD (-1)):=by
  intro i;cases e:W.Hits[i]? with
  |none=>exact .inl (by show(-1:Int)<0;omega)
  |some y=>exact ab y (VD e)
 obtain⟨f0,f1,f2⟩:=QhI E la lb;obtain⟨_,f3,f4⟩:=QhI E lb la;obtain⟨u,v,q1,P,_,q3,q4,q5⟩:=Qim J gd h8 (Nat.le_succ p) (by omega);have H:=Qe8 J.cE ad (by omega) h1 h2 q1;rw[P]at H;have H:v={Lo:=u.Lo+(legV c a b).Min,Hi:=u.Hi+(legV c a b).Max}:=XY H;have f:∀i j:Nat,i<=j->j<t.r.length->∃u v,(sumsV c t.r)[i]?=some u/\(sumsV c t.r)[j]?=some v/\needV t i j={Lo:=v.Lo-u.Lo,Hi:=v.Hi-u.Hi}/\0<=v.Lo-u.Lo/\v.Lo-u.Lo<=v.Hi-u.Hi/\v.Hi-u.Hi<=549755813888:=λi j=>Qim J gd h8;have T:∀i:Nat,(kv t W i).2=true->SpanOk (kv t W i).1.span:=λi n=>QhE J (hI i) n;cases hA with
 |back i hi n g=>
  obtain⟨ui,up,n1,n2,n3,n4,n5,n6⟩:=f i p hi (by omega);have e1:up=u:=by rw[q1]at n2;exact(XY n2).symm
  subst e1;obtain⟨y1,y2,y3⟩:=T i n;cases hB with
  |back m q d Y=>
   obtain⟨z1,z2,z3⟩:=T m d;obtain⟨aa,vp,F,V,m3,m4,m5,m6⟩:=f m (p+1) q (by omega);have e2:vp=v:=by rw[P]at V;exact(XY V).symm
   subst e2;rw[n3,m3];rcases Vy m (p+1)with z|z
   ·
    have G:i=m:=by
     rcases Nat.lt_trichotomy i m with y|y|y
     .rw[g m y (by omega)]at d;cases d
     .exact y
     .rw[Y i y (by omega)]at n;cases n
    subst G;have e3:aa=ui:=by rw[n1]at F;exact(XY F).symm
    subst e3;have ej:Q=O:=by omega
    subst ej;rw[f0,H];exact Ql6 y1 y2 y3 n4 n5 n6 l1 l2 l3
   .have G:m=p+1:=by omega
    subst G;have e3:aa=vp:=by rw[P]at F;exact(XY F).symm
    subst e3;have X:=Qch (W:=W) rfl (inv0 t W) ac i (p+1) (by omega) (XT _) (by omega) (by omega) n d (λj a1 a2=>g j a1 (by omega));obtain⟨ae,af,N,M,r3,r4,r5,r6⟩:=f i (p+1) (by omega) (by omega);have e4:ae=ui:=by rw[n1]at N;exact(XY N).symm
    have e5:af=aa:=by rw[P]at M;exact(XY M).symm
    subst e4;subst e5;unfold followsV at X;rw[Ql1 E ea la eb lb y1 y2 y3 z1 z2 z3,r3,H]at X;rw[H];exact Ql5 (z0:=0) y1 y2 y3 z1 z2 z3 n4 n5 n6 l1 l2 l3 f3 f4 f1 f2 X
  |fwd L m q R d Y=>rw[L i (by omega)]at n;cases n
  |none L=>rw[L i (by omega)]at n;cases n
 |fwd L i hi hL n g=>
  obtain⟨y1,y2,y3⟩:=T i n;cases hB with
  |back m q d Y=>
   have G:m=p+1:=by
    rcases Vy m (p+1)with z|z
    .rw[L m (by omega)]at d;cases d
    .omega
   subst G;have G:i=p+1:=by
    rcases Vy (p+1) i with z|z
    .rw[g (p+1) (by omega) z]at d;cases d
    .omega
   subst G;obtain⟨u1,v1,F,V,m3,m4,m5,m6⟩:=f (p+1) (p+1) (XS _) (by omega);obtain⟨u2,v2,N,M,r3,r4,r5,r6⟩:=f p (p+1) (by omega) (by omega);have e1:u1=v:=by rw[P]at F;exact(XY F).symm
   have e2:v1=v:=by rw[P]at V;exact(XY V).symm
   have e3:u2=u:=by rw[q1]at N;exact(XY N).symm
   have e4:v2=v:=by rw[P]at M;exact(XY M).symm
   subst e3;rw[m3,r3,e1,e2,e4,H];have ej:Q=O:=by omega
   subst ej;rw[f0];exact Ql3 y1 y2 y3 l1 l2 l3
  |fwd w m q R d Y=>
   have G:i=m:=by
    rcases Nat.lt_trichotomy i m with y|y|y
    .rcases Vy (p+1) i with z|z
     .rw[Y i z y]at n;cases n
     .rw[w i z]at n;cases n
    .exact y
    .rw[g m (by omega) y]at d;cases d
   subst G;obtain⟨u1,v1,F,V,m3,m4,m5,m6⟩:=f (p+1) i (by omega) (by omega);obtain⟨u2,v2,N,M,r3,r4,r5,r6⟩:=f p i (by omega) (by omega);have e1:u1=v:=by rw[P]at F;exact(XY F).symm
   have e2:v2=v1:=by rw[V]at M;exact(XY M).symm
   have e3:u2=u:=by rw[q1]at N;exact(XY N).symm
   subst e3;rw[e1,H]at m4 m5 m6;rw[m3,r3,e1,e2,H];have ej:Q=O:=by omega
   subst ej;rw[f0];exact Qm9 y1 y2 y3 m4 m5 m6 l1 l2 l3
  |none w=>rw[w i hL]at n;cases n
 |none L=>
  cases hB with
  |back m q d Y=>rw[L m (by omega)]at d;cases d
  |fwd w m q R d Y=>rw[L m R]at d;cases d
  |none w=>
   have ej:Q=O:=by omega
   subst ej;rw[f0];exact Ql4 l1 l2 l3
end
theorem law_MatchLegs(i:stopwatchlaw19_Input)(u:Way)(z:Int)(w0:stopwatchlaw19_Input.wf i)(w1:Way.wf u)(w2:Qx .i64 z):∃n,F_fb n i u z=some true:=by
 refine Ev.ex ?_;unfold F_fb;refine Ea (EA Qmx) ?_;simp only[Xg,Vn];obtain⟨b,s,fb⟩:=Qm2 i w0;cases b with
 |false=>exact Ea (v:=true) (Ea s (Qa _)) (Qa _)
 |true=>
 have f:=fb rfl;have E:=w1.1.1;by_cases e:300<(u.Hits.length:Int)
 .exact Ea (v:=true) (Ea s (Qs (Qal (Qv e) (Qa _)))) (Qa _)
 cases G:(chkV i.C i.K i.S i.Extra i.Hits i.Hands u != 0)with
 |true=>exact Ea (v:=true) (Ea s (Qs (Yp (Qu e) (Ea (QcB f E) (Qal G (Qa _)))))) (Qa _)
 |false=>
 by_cases O:z<0
 .exact Ea (v:=true) (Ea s (Qs (Yp (Qu e) (Ea (QcB f E) (Yp G (Qal (Qv O) (Qa _))))))) (Qa _)
 by_cases h9:u.Last<=z
 .exact Ea (v:=true) (Ea s (Qs (Yp (Qu e) (Ea (QcB f E) (Yp G (Yp (Qu O) ((Qa _).eq (Qv h9)))))))) (Qa _)
 refine Ea (v:=false) (Ea s (Qs (Yp (Qu e) (Ea (QcB f E) (Yp G (Yp (Qu O) ((Qa _).eq (Qu h9)))))))) (Qs ?_);obtain⟨t,ht,h,q⟩:=Qm6 f (by simpa[bne]using G);have g:=f.good h.cE;have ok:=h.ok;have m:t.r=(routeO i.C i.S.Distance i.Extra).1:=by rw[h.is];rfl
 have Y:t.k=i.K:=by rw[h.is];rfl
 obtain⟨j,d,k',r1,r2,r3,r4,r5,r6⟩:=QaV g h.rt;have h8:t.r.length<=8:=by
  rw[m];have:=(XK.1 r3).1;exact Qja w0 f s h.cE (by omega) (by omega) h.rt
 have a:=q;unfold admV at a;cases F:admB t u with
 |true=>rw[F]at a;cases a
 |false=>
 rw[F,Vn]at a;unfold admB at F;simp only[XW,decide_eq_false_iff_not]at F;obtain⟨l,b1,b2,b3,b4⟩:=F;have l:u.Hits.length=t.r.length:=by have:=l;simp[bne]at this;omega
 have hits:=QcD a;obtain⟨p,hp⟩:∃p:Nat,z=(p:Int):=⟨z.toNat,by omega⟩;subst hp;rw[QV (by omega)];have hx:i.Hits.length<=1000:=by have:=f.hits;omega
 have hl:i.Hands.length<=1048576:=by have:=f.hands;omega
 obtain⟨sA,A,eA,cA⟩:=Qg7 f.ty f.good f.clk hx hl ht E q (p:=p) (by omega);obtain⟨sB,B,eB,cB⟩:=Qg7 f.ty f.good f.clk hx hl ht E q (p:=p+1) (by omega);have N:t.r[p]?=some (t.r[p]'(by omega)):=XJ (by omega);have H:t.r[p+1]?=some (t.r[p+1]'(by omega)):=XJ (by omega);have T:=Qbv h f.good;have V:=T.at N H;generalize(t.r[p]'(by omega))=x at N V;generalize(t.r[p+1]'(by omega))=y at H V;have R:=QhS g h.cE (by have:=f.ty;rwa [h.cE]at this) h.rt (by rw[<- m];exact N) (by rw[<- m];exact H) (by rw[<- m];omega) V;obtain⟨ja,ea,J⟩:=QkW h hits cA;obtain⟨jb,eb,L⟩:=QkW h hits cB;have M:=Ql2 h f.good h8 hits a l (by omega) (by omega) N H cA cB ea J eb L;have w:=QbT h.clk;have ab:=w.segs;have aa:=w.far;rw[Y]at J L M;refine Ea eA (Ea eB (Ea R ?_));simp only;rw[ea,eb,Qj (n:=(ja:Int)) (by omega) (by omega),Qj (n:=(jb:Int)) (by omega) (by omega)];obtain⟨P,W⟩:=w.get J L;obtain⟨Q,X⟩:=w.get L J;have ra:=w.row ja (by omega);have rb:=w.row jb (by omega);refine Ea (v:=false) (Yp rfl (Yp rfl (Yp rfl (Yp (Qu (by omega)) (Yp (Qu (by omega)) (Yp (Qu (by omega)) ((Qa _).eq (Qu (by omega))))))))) (Qs ?_);rw[Qt P,Qt Q];simp only[XI];refine Ea (v:=false) (Yp (Qu (by omega)) ((Qa _).eq (Qu (by omega)))) (Qs ?_);rw[Qt W,Qt X];simp only[XI];exact(Qa _).eq M
end Go.Sw
