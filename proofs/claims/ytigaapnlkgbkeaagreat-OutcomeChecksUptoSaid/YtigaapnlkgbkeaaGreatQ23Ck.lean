/- The plain laws that a law needs, with no program in sight. -/
import Derived.Test.YtigaapnlkgbkeaaGreatW23Ck
set_option linter.unusedVariables false
set_option linter.unusedSimpArgs false
namespace Go.Sw
open List(map)
open Int(toNat)
open Go.IntKind(i64 u64 u8)
def inR(lo hi x:Int):Bool:=decide (lo<=x)&&decide (x<=hi)
set_option maxRecDepth 4000
def cmpI(a b:Int):Int:=bif decide (a<b)then-1 else bif decide (b<a)then 1 else 0
theorem QiU(n:Nat)(a b:Int):F_c n a b=some (cmpI a b):=by
 unfold F_c F_aj cmpI
 grind
def orL:List Int->Int
 |[]=>0
 |x::r=>bif x != 0 then x else orL r
theorem ev_or(l:List Int)(k:l.length<=1000):Ev (λn=>F_s n l) (orL l):=by
 have loop:∀(r:List Int) (i:Nat),l.drop i=r->i<=l.length->EvI (λn=>F_bk n l) i (bif orL r==0 then Ctl.cont ()else Ctl.done (orL r)):=by
  intro r
  induction r with
  |nil=>
   intro i f g;refine EvI.done ?_;unfold F_bk;simp only[Qh0 f g];exact Qf _
  |cons x r h=>
   intro i f g;obtain⟨a,d⟩:=Qf2 (by omega) f;have j:=a.lt';unfold orL;cases q:(x != 0)with
   |true=>
    have e:(x==0)=false:=by grind
    simp[Vh,e];refine EvI.done ?_;unfold F_bk;simp only[a.lt,a.ix,XD,q];exact Qf _
   |false=>
    refine EvI.cont ?_ (h (i+1) d (by omega));unfold F_bk;simp only[a.lt,a.ix,XD,q,a.nx];exact Qf _
 refine Ea (loop l 0 rfl (XN _)).ev ?_
 grind[Qf]
set_option maxRecDepth 4000
section
variable {α:Type} {c d:α->α->Int}
end
theorem QbW(p:Nat->Bool):∀k,(∀i,i<k->p i=true)\/ ∃j,j<k/\p j=false/\ ∀i,i<j->p i=true
 |0=>.inl λi h=>absurd h (Nat.not_lt_zero _)
 |k+1=>by
  rcases QbW p k with h|⟨j,h1,h2,h3⟩
  .cases q:p k with
   |true=>exact .inl λi hi=>(Nat.lt_succ_iff_lt_or_eq.1 hi).elim (h i) λe=>e▸q
   |false=>exact .inr ⟨k,Xk _,q,h⟩
  .exact .inr ⟨j,by omega,h2,h3⟩
theorem QgE{p:Nat->Bool}{k:Nat}:(List.range k).all p=true↔ ∀i,i<k->p i=true:=by simp[Xo]
theorem YY{B:Type}{step:Nat->Int->Option (Ctl Int B)}(k:Nat)(p:Nat->Bool)(g b:B)
  (e:∀i,i<k->Ev (λn=>step n (i:Int)) (bif p i then .cont ((i+1:Nat):Int)else .done g))(l:Ev (λn=>step n (k:Int)) (.done b)):
  Ev (λn=>Go.Sw.iter (step n) n 0) (bif (List.range k).all p then b else g):=by
 rcases QbW p k with h|⟨j,f,d,m⟩
 .rw[QgE.2 h];exact Ev.iter (λi=>(i:Int)) k rfl (λi a=>(e i a).eq (by rw[h i a];rfl)) l
 .have:(List.range k).all p=false:=by
   rw[Vx];intro q;rw[QgE.1 q j f]at d;cases d
  rw[this];exact Ev.iter (λi=>(i:Int)) j rfl (λi a=>(e i (by omega)).eq (by rw[m i a];rfl)) ((e j f).eq (by rw[d];rfl))
theorem atN{α:Type}{l:List α}{i:Nat}(hl:l.length<=1048576)(hi:i<l.length):At l i l[i]:=Qcm (by omega) (XE hi)
theorem Qaz{n:Nat}(h:n<=1048576):i64.wrap ((n:Int)+1)=((n+1:Nat):Int):=QdH (by omega)
def segLt(x y:Segment):Bool:=decide (x.Mat<y.Mat)||((x.Mat==y.Mat)&&decide (x.Epoch<y.Epoch))
def cmpSeg(x y:Segment):Int:=orL [cmpI x.Mat y.Mat,cmpI x.Epoch y.Epoch]
theorem QgQ(x y:Segment):decide (0<=cmpSeg x y)= !segLt x y:=by
 unfold cmpSeg segLt orL orL orL cmpI;by_cases a:x.Mat<y.Mat
 .simp[a]
 .by_cases d:y.Mat<x.Mat
  .have:¬x.Mat=y.Mat:=by omega
   simp[a,d,this]
  .have:x.Mat=y.Mat:=by omega
   by_cases e:x.Epoch<y.Epoch
   .simp[a,d,this,e]
   .by_cases f:y.Epoch<x.Epoch
    iterate 2 simp[a,d,this,e,f]
theorem QhV(a b:Int):Ev (λn=>F_c n a b) (cmpI a b):=Qiq (Qf _) λn=>QiU n a b
theorem Qe7(x y:Segment):Ev (λn=>F_ah n x y) (cmpSeg x y):=by
 unfold F_ah F_bh;exact Ea (Ea (QhV _ _) (Ea (QhV _ _) (Ea (ev_or _ (by simp)) (Qf _)))) (Qf _)
def timeB(x:Int):Bool:=inR (-1099511627776) 1099511627776 x
theorem QgM(x:Int):Ev (λn=>F_d n x) (timeB x):=by
 unfold F_d timeB inR;exact Ea (Eh λ_=>Qf _) (Qf _)
def prevSeg(c:Clocks)(i:Nat)(x:Segment):Bool:=decide (0<(i:Int))&& !(match c.Segments[i-1]? with|some y=>segLt y x|none=>true)
def segBad(c:Clocks)(i:Nat)(x:Segment):Bool:=decide (x.Mat<0)||(decide (40<=x.Mat)||(decide (x.Epoch<0)||(decide (255<x.Epoch)||(!timeB x.Anchor||prevSeg c i x))))
def segsB(c:Clocks):Bool:=(List.range c.Segments.length).all λi=>match c.Segments[i]? with|some x=> !segBad c i x|none=>true
theorem QeY{α:Type}{l:List α}{i:Nat}{y:α}(d:l.length<=1048576)(hi:0<i)(a:i<=l.length)(h:l[i-1]?=some y):idx l (i64.wrap ((i:Int)-1))=some y:=by
 rw[Qfu (by omega) (by omega),show((i:Int)-1)=((i-1:Nat):Int)by omega];exact QS h
theorem QiR(c:Clocks)(j:c.Segments.length<=1048576):Ev (λn=>iter (F_cf n c) n 0) (bif segsB c then Ctl.cont ()else Ctl.done 160):=by
 unfold segsB;refine YY c.Segments.length _ _ _ (λi k=>?_) ?_
 .have a:=atN j k;unfold F_cf;simp only[a.lt,Vh,a.ix,XD,a.nx,a.get];have:Ev (λn=>((bif decide ((c.Segments[i]).Mat<0)then some true else(bif decide (40<=(c.Segments[i]).Mat)then some true else(bif decide ((c.Segments[i]).Epoch<0)then some true else(bif decide (255<(c.Segments[i]).Epoch)then some true else(F_d n (c.Segments[i]).Anchor).bind λd=>(bif (!d)then some true else(bif decide (0<(i:Int))then(idx c.Segments (i64.wrap ((i:Int)-1))).bind λe=>(F_ah n e (c.Segments[i])).bind λf=>some (decide (0<=f))else some false)))))):Option Bool)) (segBad c i (c.Segments[i])):=by
   unfold segBad;refine Ys λ_=>Ys λ_=>Ys λ_=>Ys λ_=>Ea (QgM _) (Ys λ_=>?_);unfold prevSeg;refine Eh λh=>?_;have l:0<i:=by have:=of_decide_eq_true h;omega
   have g:i-1<c.Segments.length:=by omega
   rw[QeY j l (by omega) (XE g),XE g];simp only[XD];exact Ea (Qe7 _ _) ((Qf _).eq (QgQ _ _))
  refine Ea this ?_;cases segBad c i (c.Segments[i])<;>exact Qf _
 .unfold F_cf;simp only[end_,Vi];exact Qf _
def farBad(x:Int):Bool:=decide (x< -2199023255552)||decide (2199023255552<x)
theorem QgN(l:List Int)(a:l.length<=1048576):Ev (λn=>F_ak n l) (l.any farBad):=by
 unfold F_ak F_bn;refine Ev.contains l farBad (λn x=>F_bd n x) (by omega) λx _=>?_;unfold F_bd farBad;exact Ea (Ys λ_=>Qf _) (Qf _)
def rowB(c:Clocks)(i:Nat)(r:List Int):Bool:= !(((r.length:Int) != ((c.Segments.length+1:Nat):Int))||((r[i]?.getD 1 != 0)||r.any farBad))
def rowsB(c:Clocks):Bool:=(List.range c.Far.length).all λi=>match c.Far[i]? with|some r=>rowB c i r|none=>true
theorem QiT(c:Clocks)(l:c.Segments.length<=1048576)(k:c.Far.length<=1048576)(m:∀r∈c.Far,r.length<=1048576)(p:c.Far.length=c.Segments.length+1):
  Ev (λn=>iter (F_bx n c) n 0) (bif rowsB c then Ctl.cont ()else Ctl.done 160):=by
 unfold rowsB;refine YY c.Far.length _ _ _ (λi j=>?_) ?_
 .have a:=atN k j;unfold F_bx;simp only[a.lt,Vh,a.ix,XD,a.nx,a.get,Qaz l];have:Ev (λn=>((bif (((c.Far[i]).length:Int) != ((c.Segments.length+1:Nat):Int))then some true else(idx (c.Far[i]) (i:Int)).bind λf=>(bif (f != 0)then some true else(F_ak n (c.Far[i])).bind λd=>some d)):Option Bool)) (!rowB c i (c.Far[i])):=by
   unfold rowB;rw[Bool.not_not];refine Ys λh=>?_;have g:(c.Far[i]).length=c.Segments.length+1:=by
    have:((c.Far[i]).length:Int)=((c.Segments.length+1:Nat):Int):=by simpa[bne]using h
    omega
   have e:i<(c.Far[i]).length:=by omega
   rw[QS (XE e),XE e];simp only[XD,Option.getD_some];exact Ys λ_=>Ea (QgN _ (m _ a.mem)) (Qf _)
  refine Ea this ?_;cases rowB c i (c.Far[i])<;>exact Qf _
 .unfold F_bx;simp only[end_,Vi];exact Qf _
def farG(c:Clocks)(i j:Nat):Int:=((c.Far[i]?.getD [])[j]?).getD 0
structure Dims (c:Clocks):Prop where
 segs:c.Segments.length<=511
 far:c.Far.length=c.Segments.length+1
 row:∀i,i<c.Far.length->(c.Far[i]?.getD []).length=c.Segments.length+1
theorem Dims.get{c:Clocks}(d:Dims c){i j:Nat}(hi:i<c.Segments.length+1)(e:j<c.Segments.length+1):c.Far[i]?=some (c.Far[i]?.getD [])/\(c.Far[i]?.getD [])[j]?=some (farG c i j):=by
 have a:i<c.Far.length:=by rw[d.far];exact hi
 have f:=d.row i a;refine⟨by rw[XE a];rfl,?_⟩;unfold farG;have:j<(c.Far[i]?.getD []).length:=by omega
 rw[XE this];rfl
def triB(c:Clocks):Bool:=(List.range (c.Segments.length+1)).all λi=>(List.range (c.Segments.length+1)).all λj=>(List.range (c.Segments.length+1)).all λk=> !decide (i64.wrap (farG c i j+farG c j k)<farG c i k)
theorem ltN{a b:Nat}(h:a<b):decide ((a:Int)<(b:Int))=true:=decide_eq_true (by omega)
theorem geN{a b:Nat}(h:b<=a):decide ((a:Int)<(b:Int))=false:=Vl (by omega)
theorem QjA(c:Clocks)(d:Dims c):Ev (λn=>iter (F_dx n c) n 0) (bif triB c then Ctl.cont ()else Ctl.done 160):=by
 have s:=d.segs;unfold triB;refine YY (c.Segments.length+1) _ _ _ (λi a=>?_) ?_
 .unfold F_dx;have g:=(d.get a a).1;have l:=d.row i (by rw[d.far];exact a);simp only[Qaz (show c.Segments.length<=1048576 by omega),ltN a,Vh,QS g,XD,Qaz (show i<=1048576 by omega)];refine Ea (YY (c.Segments.length+1) (λj=>(List.range (c.Segments.length+1)).all λk=> !decide (i64.wrap (farG c i j+farG c j k)<farG c i k)) (Ctl.done (Ctl.done (Ctl.done 160))) (Ctl.cont ()) (λj e=>?_) ?_) ?_
  .unfold F_hd;have p:=(d.get a e).2;have q:=(d.get e e).1;have f:=d.row j (by rw[d.far];exact e);simp only[l,ltN e,Vh,QS p,QS q,XD,Qaz (show j<=1048576 by omega)];refine Ea (YY (c.Segments.length+1) (λk=> !decide (i64.wrap (farG c i j+farG c j k)<farG c i k)) (Ctl.done (Ctl.done (Ctl.done (Ctl.done (Ctl.done 160))))) (Ctl.cont ()) (λk h=>?_) ?_) ?_
   .unfold F_hc;have m:=(d.get e h).2;have r:=(d.get a h).2;simp only[f,ltN h,Vh,QS m,QS g,QS r,XD,Qaz (show k<=1048576 by omega)];cases decide (i64.wrap (farG c i j+farG c j k)<farG c i k)<;>exact Qf _
   .unfold F_hc;simp only[f,geN (XM _),Vi];exact Qf _
   .cases(List.range (c.Segments.length+1)).all λk=> !decide (i64.wrap (farG c i j+farG c j k)<farG c i k)<;>exact Qf _
  .unfold F_hd;simp only[l,geN (XM _),Vi];exact Qf _
  .cases(List.range (c.Segments.length+1)).all λj=>(List.range (c.Segments.length+1)).all λk=> !decide (i64.wrap (farG c i j+farG c j k)<farG c i k)<;>exact Qf _
 .unfold F_dx;simp only[Qaz (show c.Segments.length<=1048576 by omega),geN (XM _),Vi];exact Qf _
def clkB(c:Clocks):Bool:= !(decide (511<(c.Segments.length:Int))||((c.Far.length:Int) != ((c.Segments.length+1:Nat):Int)))&&(segsB c&&(rowsB c&&triB c))
structure ClkW (c:Clocks):Prop where
 segs:c.Segments.length<=1048576
 far:c.Far.length<=1048576
 row:∀r∈c.Far,r.length<=1048576
theorem Qeo{c:Clocks}(g:¬511<(c.Segments.length:Int))(f:c.Far.length=c.Segments.length+1)(d:rowsB c=true):Dims c:=by
 refine⟨by omega,f,λi a=>?_⟩;have:=QgE.1 d i a;rw[XE a]at this⊢;simp only[rowB,Bool.not_eq_true',XQ]at this;have e:((c.Far[i]).length:Int)=((c.Segments.length+1:Nat):Int):=by simpa[bne]using this.1
 simp only[Option.getD_some];omega
theorem QhW(c:Clocks)(w:ClkW c):Ev (λn=>F_p n c) (bif clkB c then 0 else 160):=by
 unfold F_p clkB;simp only[Qaz w.segs];refine Ea (Ys λ_=>Qf _) ?_;cases a:(decide (511<(c.Segments.length:Int))||((c.Far.length:Int) != ((c.Segments.length+1:Nat):Int)))with
 |true=>exact Qf _
 |false=>
  simp only[Xg,Bool.true_and,XQ,decide_eq_false_iff_not]at a⊢;have d:c.Far.length=c.Segments.length+1:=by
   have:(c.Far.length:Int)=((c.Segments.length+1:Nat):Int):=by simpa[bne]using a.2
   omega
  refine Qbx (Ea (QiR c w.segs) ?_);cases segsB c with
  |false=>exact Qf _
  |true=>
   refine Ea (QiT c w.segs w.far w.row d) ?_;cases e:rowsB c with
   |false=>exact Qf _
   |true=>
    refine Ea (QjA c (Qeo a.1 d e)) ?_;cases triB c<;>exact Qf _
theorem QdY{c:Clocks}(h:clkB c=true):Dims c:=by
 simp only[clkB,XP,Bool.not_eq_true',XQ,decide_eq_false_iff_not]at h;have a:c.Far.length=c.Segments.length+1:=by
  have:(c.Far.length:Int)=((c.Segments.length+1:Nat):Int):=by simpa[bne]using h.1.2
  omega
 exact Qeo h.1.1 a h.2.2.1
def fineO(c:Clocks)(x:Outcome):Bool:=decide (-1<=x.Seg)&&(decide (x.Seg<(c.Segments.length:Int))&&(decide (-288230376151711744<=x.Lo)&&(decide (x.Lo<=x.Hi)&&decide (x.Hi<=288230376151711744))))
def outB(c:Clocks)(x:Outcome):Bool:=bif x.Out then x==({Out:=true,Seg:=(-1),Lo:=0,Hi:=0:Outcome})else fineO c x
theorem Qe9(c:Clocks)(w:ClkW c)(h:clkB c=true)(x:Outcome):Ev (λn=>F_g n c x) (bif outB c x then 0 else 230):=by
 unfold F_g;refine Ea (QhW c w) ?_;rw[h];refine Qbx (Ea (v:=fineO c x) (Eh λ_=>Eh λ_=>Eh λ_=>Eh λ_=>Qf _) ?_);refine Ea (v:=outB c x) ?_ ?_
 .unfold outB F_b;exact QjL (λ_=>Ea (Qf _) (Qf _)) (λ_=>Qf _)
 .cases outB c x<;>exact Qf _
theorem leN{a b:Nat}(h:a<b+1):decide ((a:Int)<=(b:Int))=true:=decide_eq_true (by omega)
theorem QhA(b:Nat):decide (((b+1:Nat):Int)<=(b:Int))=false:=Vl (by omega)
theorem QhR(x:Int):Ev (λn=>F_az n x) (timeB x):=by
 unfold F_az timeB inR;exact Ea (Eh λ_=>Qf _) (Qf _)
theorem QhU(x y:Segment):Ev (λn=>F_ao n x y) (segLt x y):=by
 unfold F_ao segLt;exact Ea (Ys λ_=>Eh λ_=>Qf _) (Qf _)
theorem QhS(c:Clocks)(d:c.Segments.length<=1048576):Ev (λn=>iter (F_fi n c) n 0) (bif segsB c then Ctl.cont ()else Ctl.done 160):=by
 unfold segsB;refine YY c.Segments.length _ _ _ (λi f=>?_) ?_
 .have a:=atN d f;unfold F_fi;simp only[a.lt,Vh,a.ix,XD,a.nx,a.get];refine Ea (v:=segBad c i (c.Segments[i])) ?_ ?_
  .unfold segBad;refine Ys λ_=>Ys λ_=>Ys λ_=>Ys λ_=>Ea (QhR _) (Ys λ_=>?_);unfold prevSeg;refine Eh λh=>?_;have g:0<i:=by have:=of_decide_eq_true h;omega
   have e:i-1<c.Segments.length:=by omega
   rw[QeY d g (by omega) (XE e),XE e];simp only[XD];exact Ea (QhU _ _) (Qf _)
  .cases segBad c i (c.Segments[i])<;>exact Qf _
 .unfold F_fi;simp only[end_,Vi];exact Qf _
theorem QgS(l:List Int)(q:Int->Bool):(List.range l.length).all (λu=> !q ((l[u]?).getD 0))= !l.any q:=by
 rw[XR,QgE,Bool.not_eq_true',Vx];constructor
 .intro h e;obtain⟨x,d,g⟩:=Xp.1 e;obtain⟨i,a,f⟩:=List.mem_iff_getElem.1 d;have:=h i a;rw[XE a,f]at this;simp[g]at this
 .intro h i a;rw[XE a];cases z:q ((some l[i]).getD 0)with
  |false=>rfl
  |true=>exact(h (Xp.2 ⟨l[i],X6 a,z⟩)).elim
theorem QhT(c:Clocks)(m:c.Segments.length<=1048576)(s:∀r∈c.Far,r.length<=1048576)(p:c.Far.length=c.Segments.length+1):
  Ev (λn=>iter (F_ft n c) n 0) (bif rowsB c then Ctl.cont ()else Ctl.done 160):=by
 unfold rowsB;rw[p];refine YY (c.Segments.length+1) _ _ _ (λi l=>?_) ?_
 .have d:i<c.Far.length:=by omega
  have g:=XE d;unfold F_ft;simp only[leN l,Vh,QS g,g,XD,Qaz m,Qaz (show i<=1048576 by omega)];have k:(c.Far[i]).length<=1048576:=s _ (X6 d);refine Ea (v:=((c.Far[i]).length:Int) != ((c.Segments.length+1:Nat):Int)||((c.Far[i])[i]?.getD 1 != 0)) ?_ ?_
  .refine Ys λh=>?_;have a:(c.Far[i]).length=c.Segments.length+1:=by
    have:((c.Far[i]).length:Int)=((c.Segments.length+1:Nat):Int):=by simpa[bne]using h
    omega
   have e:i<(c.Far[i]).length:=by omega
   rw[QS (XE e),XE e];exact Qf _
  .unfold rowB;cases t:(((c.Far[i]).length:Int) != ((c.Segments.length+1:Nat):Int))with
   |true=>exact Qf _
   |false=>
    have a:(c.Far[i]).length=c.Segments.length+1:=by
     have:((c.Far[i]).length:Int)=((c.Segments.length+1:Nat):Int):=by simpa[bne]using t
     omega
    simp only[Bool.false_or];cases(c.Far[i])[i]?.getD 1 != 0 with
    |true=>exact Qf _
    |false=>
     simp only[Bool.false_or,Vi];rw[<- QgS,a];refine Ea (YY (c.Segments.length+1) (λu=> !farBad (((c.Far[i])[u]?).getD 0)) (Ctl.done (Ctl.done (Ctl.done 160))) (Ctl.cont ()) (λu q=>?_) ?_) ?_
     .have j:u<(c.Far[i]).length:=by omega
      have f:=XE j;unfold F_ha;simp only[leN q,Vh,QS g,QS f,f,XD,Option.getD_some,Qaz (show u<=1048576 by omega)];refine Ea (v:=farBad (c.Far[i])[u]) (by unfold farBad;exact Ys λ_=>Qf _) ?_;cases farBad (c.Far[i])[u]<;>exact Qf _
     .unfold F_ha;simp only[QhA,Vi];exact Qf _
     .cases(List.range (c.Segments.length+1)).all λu=> !farBad (((c.Far[i])[u]?).getD 0)<;>exact Qf _
 .unfold F_ft;simp only[QhA,Vi];exact Qf _
theorem QiS(c:Clocks)(d:Dims c):Ev (λn=>iter (F_cl n c) n 0) (bif triB c then Ctl.cont ()else Ctl.done 160):=by
 have q:=d.segs;unfold triB;refine YY (c.Segments.length+1) _ _ _ (λi a=>?_) ?_
 .unfold F_cl;have g:=(d.get a a).1;simp only[leN a,Vh,Qaz (show i<=1048576 by omega)];refine Ea (YY (c.Segments.length+1) (λj=>(List.range (c.Segments.length+1)).all λk=> !decide (i64.wrap (farG c i j+farG c j k)<farG c i k)) (Ctl.done (Ctl.done (Ctl.done 160))) (Ctl.cont ()) (λj e=>?_) ?_) ?_
  .unfold F_hb;have l:=(d.get a e).2;have m:=(d.get e e).1;simp only[leN e,Vh,Qaz (show j<=1048576 by omega)];refine Ea (YY (c.Segments.length+1) (λk=> !decide (i64.wrap (farG c i j+farG c j k)<farG c i k)) (Ctl.done (Ctl.done (Ctl.done (Ctl.done (Ctl.done 160))))) (Ctl.cont ()) (λk f=>?_) ?_) ?_
   .unfold F_gz;have h:=(d.get e f).2;have p:=(d.get a f).2;simp only[leN f,Vh,QS g,QS l,QS m,QS h,QS p,XD,Qaz (show k<=1048576 by omega)];cases decide (i64.wrap (farG c i j+farG c j k)<farG c i k)<;>exact Qf _
   .unfold F_gz;simp only[QhA,Vi];exact Qf _
   .cases(List.range (c.Segments.length+1)).all λk=> !decide (i64.wrap (farG c i j+farG c j k)<farG c i k)<;>exact Qf _
  .unfold F_hb;simp only[QhA,Vi];exact Qf _
  .cases(List.range (c.Segments.length+1)).all λj=>(List.range (c.Segments.length+1)).all λk=> !decide (i64.wrap (farG c i j+farG c j k)<farG c i k)<;>exact Qf _
 .unfold F_cl;simp only[QhA,Vi];exact Qf _
theorem Qgj(c:Clocks)(w:ClkW c):Ev (λn=>F_am n c) (bif clkB c then 0 else 160):=by
 unfold F_am clkB;simp only[Qaz w.segs];refine Ea (Ys λ_=>Qf _) ?_;cases a:(decide (511<(c.Segments.length:Int))||((c.Far.length:Int) != ((c.Segments.length+1:Nat):Int)))with
 |true=>exact Qf _
 |false=>
  simp only[Xg,Bool.true_and,XQ,decide_eq_false_iff_not]at a⊢;have d:c.Far.length=c.Segments.length+1:=by
   have:(c.Far.length:Int)=((c.Segments.length+1:Nat):Int):=by simpa[bne]using a.2
   omega
  refine Qbx (Ea (QhS c w.segs) ?_);cases segsB c with
  |false=>exact Qf _
  |true=>
   refine Ea (QhT c w.segs w.row d) ?_;cases e:rowsB c with
   |false=>exact Qf _
   |true=>
    refine Ea (QiS c (Qeo a.1 d e)) ?_;cases triB c<;>exact Qf _
theorem QiG(c:Clocks)(x:Outcome):outB c x= !(bif x.Out then((x.Seg != (-1))||((x.Lo != 0)||(x.Hi != 0)))else(decide (x.Seg<(-1))||(decide ((c.Segments.length:Int)<=x.Seg)||(decide (x.Lo<(-288230376151711744))||(decide (x.Hi<x.Lo)||decide (288230376151711744<x.Hi)))))):=by
 obtain⟨o,s,l,h⟩:=x;unfold outB;cases o with
 |true=>
  simp only[Vh];rw[XR];simp[bne]
 |false=>
  simp only[Vi,fineO];rw[XR];simp
theorem Qen(c:Clocks)(w:ClkW c)(h:clkB c=true)(x:Outcome):Ev (λn=>F_n n c x) (bif outB c x then 0 else 230):=by
 unfold F_n;refine Ea (Qgj c w) ?_;rw[h];refine Qbx (Ea (v:= !outB c x) ?_ ?_)
 .rw[QiG,Bool.not_not];cases a:x.Out with
  |true=>
   simp only[Vh,Bool.not_true,Vi];exact Ys λ_=>Ys λ_=>(Ys λ_=>Qf _).eq (Bool.or_false _)
  |false=>
   simp only[Vi,Xg,Vh];exact Ys λ_=>Ys λ_=>Ys λ_=>Ys λ_=>Qf _
 .cases outB c x<;>exact Qf _
section
variable {α β:Type}
end
end Go.Sw
