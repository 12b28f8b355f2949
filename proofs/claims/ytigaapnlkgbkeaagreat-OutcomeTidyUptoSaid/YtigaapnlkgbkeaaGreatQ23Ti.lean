/- The plain laws that a law needs, with no program in sight. -/
import Derived.Test.YtigaapnlkgbkeaaGreatW23Ti
set_option linter.unusedVariables false
set_option linter.unusedSimpArgs false
namespace Go.Sw
theorem QiS{α:Type}(l:List α){a b:Nat}(h:a<=b)(d:b<=l.length):slc l (a:Int) (b:Int)=some ((l.take b).drop a):=by
 grind[slc]
theorem QjJ{α:Type}(l:List α){b:Nat}(a:b<=l.length):slc l 0 (b:Int)=some (l.take b):=by
 have:=QiS l (XP b) a
 grind
theorem Qjh{α:Type}(l m:List α)(h:l.length+m.length<=4294967296):app l m=some (l++m):=by
 unfold app;rw[XN (by exact h)];rfl
theorem Qe5{α:Type}(l:List α){i:Nat}(x:α)(h:i<l.length):Qba l (i:Int) x=some (l.set i x):=by
 grind[Qba]
def firstI{α:Type}(q:α->Bool):List α->Nat->Int
 |[],_=> -1
 |x::l,i=>bif q x then(i:Int)else firstI q l (i+1)
theorem Ev.first{α:Type}{step:Nat->Int->Option (Ctl Int (Ctl Unit Int))}(l:List α)(q:α->Bool)(f:l.length<=4611686018427387904)
  (m:∀i x,At l i x->Ev (λn=>step n (i:Int)) (bif q x then .done (.done (i:Int))else .cont ((i+1:Nat):Int)))(e:Ev (λn=>step n (l.length:Int)) (.done (.cont ()))):
  Ev (λn=>(Go.Sw.iter (step n) n 0).bind λb=>match b with|.cont _=>some (-1)|.done v=>some v) (firstI q l 0):=by
 have loop:∀(r:List α) (i:Nat),l.drop i=r->i<=l.length->∃a:Ctl Unit Int,EvI step i a/\(match a with|.cont _=>some (-1)|.done v=>some v)=some (firstI q r i):=by
  intro r
  induction r with
  |nil=>
   intro i d g;have:i=l.length:=by have:=Xn.1 d;omega
   subst this;exact⟨.cont (),Ei e,rfl⟩
  |cons x r u=>
   intro i d g;obtain⟨j,t⟩:=Yx f d;have s:=m i x j;unfold firstI;cases h:q x with
   |true=>
    rw[h]at s;exact⟨_,Ei s,rfl⟩
   |false=>
    grind[EvI.cont]
 obtain⟨a,p,k⟩:=loop l 0 rfl (XP _);exact Ea p.ev (Ev.const k)
theorem Qbl{α:Type}(q:α->Bool):∀(l:List α) (i:Nat),(firstI q l i= -1/\l.all (λx=> !q x)=true)\/ ∃j x,firstI q l i=((i+j:Nat):Int)/\l[j]?=some x/\q x=true/\(l.take j).all (λx=> !q x)=true
 |[],_=>.inl ⟨rfl,rfl⟩
 |x::l,i=>by
  unfold firstI;cases h:q x with
  |true=>exact .inr ⟨0,x,rfl,rfl,h,rfl⟩
  |false=>
   rcases Qbl q l (i+1)with⟨h1,h2⟩|⟨j,y,h1,h2,h3,h4⟩
   .grind
   .refine .inr ⟨j+1,y,by grind,h2,h3,by simp[h,h4]⟩
theorem Qdq{α:Type}{p:α->Bool}{l:List α}(h:l.all p=true):l.filter p=l:=(by simp_all)
theorem Qhy{α:Type}{first:Nat->Option Int}{step:Nat->List α×Int×Int->Option (Ctl (List α×Int×Int) (List α×Int))}(a:List α)(q:α->Bool)(hl:a.length<=1048576)
  (O:Ev first (firstI q a 0))
  (X:∀(l:List α) (i j:Nat) x y,l.length<=1048576->At l j x->l[i]?=some y->x∈a->i<=j->Ev (λn=>step n (l,(i:Int),(j:Int))) (.cont (bif q x then l else l.set i x,(bif q x then(i:Int)else((i+1:Nat):Int)),((j+1:Nat):Int))))
  (hd:∀(l:List α) (i:Int),Ev (λn=>step n (l,i,(l.length:Int))) (.done (l,i))):
  Ev (λn=>(first n).bind λr1=>bif r1== -1 then some a else(Go.Sw.iter (step n) n (a,r1,IntKind.i64.wrap (r1+1))).bind λb=>(slc b.1 0 b.2).bind λx=>some x) (a.filter λx=> !q x):=by
 refine Ea O ?_;rcases Qbl q a 0 with⟨G,H⟩|⟨E,T,G,H,Q,P⟩
 .rw[G,Qdq H];exact Qk _
 .have W:=(XG.1 H).1;rw[Xs]at G;rw[G];have V:((E:Int)== -1)=false:=by simp
  rw[V,Qb9 (by omega)];have loop:∀(r l:List α) (i j:Nat),a.drop j=r->j<=a.length->i<j->l.length=a.length->l.drop j=a.drop j->l.take i=(a.take j).filter (λx=> !q x)->∃g:List α,∃k:Nat,EvI step (l,i,j) (g,k)/\k<=g.length/\g.take k=a.filter λx=> !q x:=by
   intro r
   induction r with
   |nil=>
    intro l i j F R J d z e;have:j=l.length:=by have:=Xn.1 F;omega
    subst this;refine⟨l,i,Ei (hd l _),by omega,?_⟩;rw[e,d,X4]
   |cons x r M=>
    intro l i j F R J d z e;have L:l.drop j=x::r:=by rw[z,F]
    obtain⟨N,B⟩:=Yx (by omega) L;obtain⟨m,f⟩:=Yx (by omega) F;have Y:=N.lt';have s:=X l i j x l[i] (by omega) N (XF (by omega)) m.mem (by omega);cases h:q x with
    |true=>
     rw[h]at s;obtain⟨g,k,u,t,p⟩:=M l i (j+1) f (by omega) (by omega) d (by rw[B,f]) (by rw[m.take,List.filter_append,e];simp[h]);exact⟨g,k,Ep s u,t,p⟩
    |false=>
     rw[h]at s;obtain⟨g,k,u,t,p⟩:=M (l.set i x) (i+1) (j+1) f (by omega) (by omega) (by simpa using d) (by rw[List.drop_set_of_lt (by omega),B,f])
      (by
       rw[m.take,List.filter_append, <- e];have:i<(l.set i x).length:=by simp;omega
       rw[List.take_add_one,XF this];simp[h,List.take_set_of_le])
     exact⟨g,k,Ep s u,t,p⟩
  have w:a.take (E+1)=a.take E++[T]:=by rw[List.take_add_one,H];rfl
  obtain⟨g,k,u,t,p⟩:=loop _ a E (E+1) rfl (by omega) (by omega) rfl rfl (by rw[w,List.filter_append,Qdq P];simp[Q]);refine QgM (Ea u.ev ?_);rw[<- p];exact Ev.const (by simp[QjJ g t])
theorem Qbp{ι α:Type}{F:Nat->ι->Option α}{V:ι->α}:∀(L:List ι),(∀p∈L,Ev (λn=>F n p) (V p))->∃N,∀n,N<=n->∀p∈L,F n p=some (V p)
 |[],_=>(by simp)
 |x::L,h=>by
  obtain⟨N,hN⟩:=Qbp L λp hp=>h p (by simp[hp]);obtain⟨M,hM⟩:=h x (by simp);refine⟨N+M,λn hn p hp=>?_⟩
  grind
theorem Ev.isNil{α R:Type}[DecidableEq R]{l:List α}{x y:Nat->Option R}{v:R}(d:l=[]->Ev x v)(a:Ev y v):Ev (λn=>Go.Sw.isNil l (x n) (y n)) v:=by
 unfold Go.Sw.isNil;cases q:l.isEmpty with
 |false=>exact a
 |true=>
  obtain⟨N,f⟩:=d (List.isEmpty_iff.1 q);obtain⟨M,e⟩:=a;exact⟨N+M,λn g=>by grind⟩
set_option maxRecDepth 4000
def cmpI(a b:Int):Int:=bif decide (a<b)then-1 else bif decide (b<a)then 1 else 0
theorem Qjb(n:Nat)(a b:Int):F_b n a b=some (cmpI a b):=by
 unfold F_b F_al cmpI
 grind
def orL:List Int->Int
 |[]=>0
 |x::r=>bif x != 0 then x else orL r
theorem ev_or(l:List Int)(k:l.length<=1000):Ev (λn=>F_p n l) (orL l):=by
 have loop:∀(r:List Int) (i:Nat),l.drop i=r->i<=l.length->EvI (λn=>F_be n l) i (bif orL r==0 then Ctl.cont ()else Ctl.done (orL r)):=by
  intro r
  induction r with
  |nil=>
   intro i d g;refine Ei ?_;unfold F_be;simp only[Qbm d g];exact Qk _
  |cons x r h=>
   intro i d g;obtain⟨a,f⟩:=Yx (by omega) d;have j:=a.lt';unfold orL;cases q:(x != 0)with
   |true=>
    have e:(x==0)=false:=by grind
    simp[Vi,e];refine Ei ?_;unfold F_be;simp only[a.lt,a.ix,XE,q];exact Qk _
   |false=>
    refine Ep ?_ (h (i+1) f (by omega));unfold F_be;simp only[a.lt,a.ix,XE,q,a.nx];exact Qk _
 refine Ea (loop l 0 rfl (XP _)).ev ?_
 grind[Qk]
theorem Qi6{n:Nat}(h:n<=1048576):Nat.ble n Yg=true:=XN (XQ h (by decide))
theorem Qke{a b:Int}:cmpI a b=0↔a=b:=by
 grind[cmpI]
set_option maxRecDepth 4000
structure CmpOK {α:Type} (c:α->α->Int):Prop where
 swap:∀x y,c y x= -c x y
 trans:∀x y z,c x y<0->c y z<0->c x z<0
 eqt:∀x y z,c x y=0->c x z=c y z
section
variable {α:Type} {c d:α->α->Int}
theorem CmpOK.refl(h:CmpOK c)(x:α):c x x=0:=by have:=h.swap x x;omega
theorem CmpOK.eqr(h:CmpOK c){x y:α}(z:α)(e:c x y=0):c z x=c z y:=by
 rw[h.swap x z,h.swap y z,h.eqt x y z e]
theorem CmpOK.lex(h:CmpOK c)(k:CmpOK d):CmpOK λx y=>bif c x y != 0 then c x y else d x y:=by
 refine⟨λx y=>?_,λx y z=>?_,λx y z=>?_⟩
 .have e:=h.swap x y;by_cases q:c x y=0
  .have f:c y x=0:=by omega
   rw[q,f];exact k.swap x y
  grind
 .by_cases q:c x y=0
  .have e:=h.eqt x y z q;rw[q,e];by_cases f:c y z=0
   .rw[f];exact k.trans x y z
   grind
  .rw[bne_iff_ne.2 q];by_cases f:c y z=0
   .have e:=h.eqr x f
    grind
   .rw[bne_iff_ne.2 f];intro a b;have:=h.trans x y z a b
    grind
 .by_cases q:c x y=0
  .rw[q,h.eqt x y z q];intro e;rw[k.eqt x y z e]
  grind
theorem CmpOK.on{β:Type}(h:CmpOK c)(f:β->α):CmpOK λx y=>c (f x) (f y):=
 ⟨λx y=>h.swap _ _,λx y z=>h.trans _ _ _,λx y z=>h.eqt _ _ _⟩
end
theorem cmpI_ok:CmpOK cmpI:=by
 have e:∀a b,cmpI a b=if a<b then-1 else if b<a then 1 else 0:=by
  intro a b;unfold cmpI
  grind
 refine⟨λx y=>?_,λx y z=>?_,λx y z=>?_⟩
 iterate 3 grind
theorem Qjt{α:Type}[DecidableEq α](l m:List α)(step:Nat->Int->Option (Ctl Int (Ctl Unit Bool)))(q:l.length<=4611686018427387904)
  (k:∀n s,step n s=(bif decide (s<(l.length:Int))then(idx l s).bind λx=>(idx m s).bind λy=>(bif (x != y)then some (.done (.done false))else some (.cont (IntKind.i64.wrap (s+1))))else some (.done (.cont ())))):
  Ev (λn=>(bif ((l.length:Int) != (m.length:Int))then some false else(Go.Sw.iter (step n) n 0:Option (Ctl Unit Bool)).bind λb11=>match b11 with|.cont sb11=>(some true)|.done sb11=>some sb11)) (decide (l=m)):=by
 by_cases h:l.length=m.length
 .rw[show(l.length != (m.length:Int))=false by grind];have loop:∀(r d:List α) (i:Nat),l.drop i=r->m.drop i=d->i<=l.length->EvI step i (bif decide (r=d)then Ctl.cont ()else Ctl.done false):=by
   intro r
   induction r with
   |nil=>
    grind[EvI.done,Qk,Qbm]
   |cons x r t=>
    intro d i u f z;obtain⟨a,j⟩:=Yx q u;have w:=a.lt';cases d with
    |nil=>
     have h1:=Xn.1 f;omega
    |cons y d=>
     obtain⟨p,g⟩:=Yx (by omega) f;by_cases e:x=y
     .subst e;refine Ep ?_ ((t d (i+1) j g (by omega)).eq ?_)
      .refine QdT (Qk _) λn=>?_;rw[k,a.lt,a.ix,p.ix,Vi,XE,XE,a.nx];simp
      .simp
     .refine Ei (QdT (Qk _) λn=>?_);rw[k,a.lt,a.ix,p.ix,Vi,XE,XE,bne_iff_ne.2 e];simp[e]
  refine Ea (loop l m 0 rfl rfl (XP _)).ev ?_;cases decide (l=m)<;>exact Qk _
 .rw[show(l.length != (m.length:Int))=true by rw[bne_iff_ne];omega];refine(Qk _).eq ?_;rw[QfY λe=>h (by rw[e])]
theorem QfV(a b:Int):Ev (λn=>F_b n a b) (cmpI a b):=QdT (Qk _) λn=>Qjb n a b
def farG(c:Clocks)(i j:Nat):Int:=((c.Far[i]?.getD [])[j]?).getD 0
structure Dims (c:Clocks):Prop where
 segs:c.Segments.length<=511
 far:c.Far.length=c.Segments.length+1
 row:∀i,i<c.Far.length->(c.Far[i]?.getD []).length=c.Segments.length+1
theorem Dims.get{c:Clocks}(d:Dims c){i j:Nat}(hi:i<c.Segments.length+1)(f:j<c.Segments.length+1):c.Far[i]?=some (c.Far[i]?.getD [])/\(c.Far[i]?.getD [])[j]?=some (farG c i j):=by
 have a:i<c.Far.length:=by rw[d.far];exact hi
 have e:=d.row i a;refine⟨by rw[XF a];rfl,?_⟩;unfold farG;have:j<(c.Far[i]?.getD []).length:=by omega
 rw[XF this];rfl
section
variable {α β:Type}
theorem Qg0{l:List α}[DecidableEq (List α)](a:l.length<=1048576):isNil l (some ([]:List α)) ((app ([]:List α) l).bind λx=>some x)=some l:=by
 have:app [] l=some l:=by rw[Qjh _ _ (by simp;omega)];rfl
 unfold isNil
 grind
theorem QiG{F:Nat->α->α->Option β}{V:α->α->β}(l:List α)(h:∀x∈l,∀y∈l,Ev (λn=>F n x y) (V x y)):∃N,∀n,N<=n->∀x∈l,∀y∈l,F n x y=some (V x y):=by
 obtain⟨N,a⟩:=Qbp (F:=λn p=>F n p.1 p.2) (V:=λp=>V p.1 p.2) (l.flatMap λx=>l.map λy=>(x,y)) (by
  grind)
 exact⟨N,λn d x e y f=>a n d (x,y) (by grind)⟩
def ltC(c:α->α->Int)(x y:α):Bool:=decide (c x y<0)
theorem QcX{c:α->α->Int}(d:CmpOK c)(l:List α):QdD (ltC c) l:=by
 refine⟨λx _=>?_,λx _ y _ z _ f g=>?_,λx _ y _ z _ f g=>?_⟩
 .have:=d.refl x;exact Vo (by omega)
 .have f:=of_decide_eq_true f;have g:=of_decide_eq_true g;exact decide_eq_true (d.trans x y z f g)
 .have f:=Vn f;have g:=Vn g;refine Vo λh=>?_;have a:=d.swap x y;have b:=d.swap y z;by_cases e:c x y=0
  .rw[d.eqt x y z e]at h;exact g h
  .by_cases i:c y z=0
   .rw[<- d.eqr x i]at h;exact f h
   .have j:=d.trans z y x (by omega) (by omega);have:=d.swap x z;omega
theorem Qjs[DecidableEq α]{f:Nat->α->α->Option Int}{l:List α}{c:α->α->Int}(m:l.length<=1048576)(r:∀x∈l,∀y∈l,Ev (λn=>f n x y) (c x y))(a:CmpOK c)(p:∀x∈l,∀y∈l,c x y=0->x=y):
  Ev (λn=>Qbx (f n) l) (Qbk (ltC c) l):=by
 obtain⟨N,s⟩:=QiG l r;refine⟨N,λn t=>?_⟩;have h:=s n t;have k:=QhR (XM (Qi6 m)) c h (λx _=>by have:=a.refl x;omega) (λx _ y _ z _=>a.trans x y z) (λx e y d z q i j=>by
   have:=(QcX a l).ntrans x e y d z q (Vo i) (Vo j);exact Vn this) (λx e y d i j=>p x e y d (by have:=a.swap x y;omega))
 show Qbx (f n) l=some (Qbk (ltC c) l);rw[k];congr 1;obtain⟨_,_,u,_,_⟩:=Qc9 k;have g:∀x∈l,∀y∈l,ltO (f n) x y=ltC c x y:=λx e y d=>by unfold ltO ltC;grind
 refine QaR ((QK _ l).trans (QK _ l).symm) (λx e y d i j=>?_) ?_ (YH (QcX a l))
 .grind[QK]
 grind[List.Pairwise.imp_of_mem,YH,QK]
end
theorem QjK:F_bo 300=some true:=by kernel_rfl
end Go.Sw
