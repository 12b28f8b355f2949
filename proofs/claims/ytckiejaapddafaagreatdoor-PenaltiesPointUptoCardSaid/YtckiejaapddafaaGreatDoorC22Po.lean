/- Rulings apply from a point of the race on. -/
import Derived.Test.YtckiejaapddafaaGreatDoorQ22Po
set_option linter.unusedVariables false
set_option linter.unusedSimpArgs false
namespace Go.Sw
theorem QhQ{c:Course}{k:Int}{r:Option Report}{y:Ud}(h:viaR c k r=some y):y.number=k:=by
 cases r with
 |none=>cases h
 |some r=>
  simp only[viaR]at h;cases q:(decide (r.Offence<0)||decide ((c.Offences.length:Int)<=r.Offence))with
  |true=>rw[q]at h;cases h
  |false=>
   rw[q,Vu,Option.map_eq_some_iff]at h;obtain⟨o,_,rfl⟩:=h;rfl
theorem Qh0{k:Int}{g:Ruling}{y:Ud}(h:rulP k g=some y):y.number=k/\y.bib=g.Bib/\y.penalty.Position=g.Position:=by
 unfold rulP at h;cases d:(g.Kind==5)<;>cases b:(g.Kind==4)<;>cases a:(g.Kind==3)<;>simp only[a,b,d,Vt,Vu]at h<;>cases h<;>exact⟨rfl,rfl,rfl⟩
theorem Qlg{c:Course}{x:KeyT}{y:Ud}(h:givenK c x=some y):y.number=x.1:=by
 unfold givenK at h;cases a:x.2.1 with
 |none=>rw[a]at h;exact QhQ h
 |some g=>
  rw[a]at h;simp only at h;cases q:((g.Kind==5)||((g.Kind==4)||(g.Kind==3)))with
  |true=>rw[q]at h;exact(Qh0 h).1
  |false=>
   rw[q,Vu]at h;cases b:(g.Kind==2)with
   |true=>rw[b]at h;cases h
   |false=>rw[b]at h;exact QhQ h
theorem Qja{f:Fact}(h:validS f=true)(k:f.Kind=10):1<=f.Ruling.Kind/\f.Ruling.Kind<=5:=by
 obtain⟨_,a,_⟩:=QdT h;unfold contR at a;rw[k]at a;have b:(true&&(nb f.Ruling.Case 1 1048576&&(nb f.Ruling.Instance 1 2&&(nb f.Ruling.Kind 1 5&&(bif (f.Ruling.Kind==1)||(f.Ruling.Kind==2)then nb f.Ruling.Bib 0 0&&(nb f.Ruling.Position 0 0&&(nb f.Ruling.Amount 0 0&&true))else bif f.Ruling.Kind==3 then nb f.Ruling.Bib 1 9999&&(nb f.Ruling.Position 0 255&&(nb f.Ruling.Amount 1 1099511627776&&true))else bif f.Ruling.Kind==4 then nb f.Ruling.Bib 1 9999&&(nb f.Ruling.Position 0 255&&(nb f.Ruling.Amount 1 64&&true))else nb f.Ruling.Bib 1 9999&&(nb f.Ruling.Position 0 255&&(nb f.Ruling.Amount 0 0&&true)))))))=true:=a;simp only[X0,QdA]at b;exact b.2.2.2.1
def casesG(e:Int)(c:Course)(l:List Fact)(b:Int):List Ud:=bif e != 0 then[]else casesOf c l b
theorem QfF(e:Int)(c:Course)(l:List Fact)(b:Int):casesF e c l b=((casesG e c l b).map (·.number),(casesG e c l b).map (·.penalty)):=by
 unfold casesF casesG;cases(e != 0)<;>rfl
theorem QfE(e:Int)(c:Course)(l:List Fact)(b:Int):(casesG e c l b).length<=l.length:=by
 have:=(QjO e c l b).1;rw[QfF,X6]at this;exact this
theorem QfA{c:Course}{P:Ud->Bool}{k:Int}:∀(K:List KeyT),(∀x∈K,x.1=k->∀y,givenK c x=some y->P y=false)->(K.filterMap (givenK c)).filter P=((K.filter λx=> !(x.1==k)).filterMap (givenK c)).filter P
 |[],_=>rfl
 |x::K,h=>by
  have ih:=QfA K λz hz=>h z (by simp[hz]);rw[List.filterMap_cons,Xd (x:=x)];by_cases e:x.1=k
  .rw[show(!(x.1==k))=false by simp[e],Vw Bool.false_ne_true];cases hg:givenK c x with
   |none=>exact ih
   |some y=>
    simp only;rw[Xd,h x (by simp) e y hg,Vw Bool.false_ne_true];exact ih
  .rw[show(!(x.1==k))=true by simp[e],Vx rfl,List.filterMap_cons];cases givenK c x with
   |none=>exact ih
   |some y=>
    simp only;rw[Xd,Xd,ih]
def pointB(b p:Int)(y:Ud):Bool:=decide (y.penalty.Position<=p)&&(y.bib==b)
theorem Qf7(c:Course)(l:List Fact)(b p:Int):untF ((casesOf c l b).map (·.penalty)) p=untF ((((keysOf l).filterMap (givenK c)).filter (pointB b p)).map (·.penalty)) p:=by
 rw[QhR,List.filter_map];unfold casesOf;rw[List.filter_filter];rfl
theorem Qig{l:List Fact}{k:Int}{x:KeyT}(b:x∈keysOf l)(a:x.1=k):inForce l k=x.2.1:=by
 unfold inForce;rw[<- a,QcX (QdG (Qhe l).inc) b];rfl
theorem Qjn{c:Course}{l:List Fact}{f:Fact}{b p:Int}(n:validS f=true)(r:f.Kind=10)(J:f.Ruling.Kind≠1)
  (H:∀y∈casesOf c l b,¬(y.number=f.Ruling.Case/\y.penalty.Position<=p))(E:¬(f.Ruling.Kind≠2/\f.Ruling.Bib=b/\f.Ruling.Position<=p))(F:inForce (l++[f]) f.Ruling.Case=some f.Ruling):
  untF ((casesOf c l b).map (·.penalty)) p=untF ((casesOf c (l++[f]) b).map (·.penalty)) p:=by
 have w:caseN f=some f.Ruling.Case:=by unfold caseN;rw[r];rfl
 have B:=Qja n r;rw[Qf7,Qf7,QfA (k:=f.Ruling.Case) (keysOf l),QfA (k:=f.Ruling.Case) (keysOf (l++[f]))]
 .have e:=QlA (l:=l) n w;have s:∀m:List Fact,(keysOf m).filter (λx=> !(x.1==f.Ruling.Case))=((filesS (canonS m)).filter λx=> !(x.number==f.Ruling.Case)).map keyF:=λm=>by
   unfold keysOf;rw[List.filter_map];rfl
  rw[s,s,e]
 .intro x j d y a;have g:=Qig j d;rw[F]at g;unfold givenK at a;rw[<- g]at a;simp only at a;cases q:((f.Ruling.Kind==5)||((f.Ruling.Kind==4)||(f.Ruling.Kind==3)))with
  |true=>
   rw[q]at a;obtain⟨_,z,G⟩:=Qh0 a;unfold pointB;rw[z,G];simp only[Bool.or_eq_true,VC]at q;by_cases u:f.Ruling.Position<=p
   .by_cases t:f.Ruling.Bib=b
    .exact absurd ⟨by omega,t,u⟩ E
    .rw[VD.2 t,Bool.and_false]
   .rw[YK u,Bool.false_and]
  |false=>
   rw[q,Vu]at a;simp only[X2,VD,ne_eq]at q;have:f.Ruling.Kind=2:=by omega
   rw[this]at a;cases a
 .intro x j d y a;have h:=Qlg a;cases i:pointB b p y with
  |false=>rfl
  |true=>
   unfold pointB at i;rw[X0,Vv]at i;exact absurd ⟨by rw[h,d],i.1⟩ (H y (Xe.2 ⟨List.mem_filterMap.2 ⟨x,j,a⟩,i.2⟩))
theorem law_PenaltiesPoint(c:Course)(l:List Fact)(a:Int)(f:Fact)(p:Int)(E:Course.wf c)(hl:l.length<=1048576/\ ∀f∈l,Fact.wf f)(W:Qk .i64 a)(X:Fact.wf f)(T:Qk .i64 p):∃n,F_fr n c l a f p=some true:=by
 obtain⟨b,L,fb⟩:=Qnu c E;refine Ev.ex ?_;unfold F_fr;refine Ea (Ez Qpm) ?_;simp only[Xh,Vu];refine Ea (v:= !(b&&decide ((l.length:Int)<=14))||((f.Kind != 10)||(!validS f||(f.Ruling.Kind==1)))) (Ea (Qnd l L) (Eu λ_=>Eu λ_=>Ea (Qcp f) ?_)) ?_
 .cases validS f<;>exact Qa _
 cases z:(!(b&&decide ((l.length:Int)<=14))||((f.Kind != 10)||(!validS f||(f.Ruling.Kind==1))))with
 |true=>exact Qa _
 |false=>
  simp only[X2,Bool.not_eq_false',X0,Vv,bne_eq_false_iff_eq,VD,ne_eq]at z;obtain⟨⟨u,w⟩,N,M,J⟩:=z;obtain⟨_,B⟩:=fb u;have R:l.length<=14:=by omega
  simp only[Vu];refine Ea (QiK _ c l a (by omega) B) ?_;rw[QfF];simp only[X6,bne_self_eq_false,Vu];have V:=QfE (courseE c) c l a;refine Ea (v:=bif (casesG (courseE c) c l a).any (λy=>(y.number==f.Ruling.Case)&&decide (y.penalty.Position<=p))then Ctl.done true else Ctl.cont ()) ?_ ?_
  .refine Qa3 (casesG (courseE c) c l a) (λy=>(y.number==f.Ruling.Case)&&decide (y.penalty.Position<=p)) (λi=>(i:Int)) (Ctl.done true) (Ctl.cont ()) (by omega) rfl (λi y h m=>?_) (λi y h m=>?_) ?_
   .have t:idx ((casesG (courseE c) c l a).map (·.number)) (i:Int)=some y.number:=YT (by rw[Xq,h.get];rfl);have k:idx ((casesG (courseE c) c l a).map (·.penalty)) (i:Int)=some y.penalty:=YT (by rw[Xq,h.get];rfl);unfold F_hk;simp only[X6,h.lt,Vt,t,k,XN,h.nx];refine Ea (v:=false) ((Ei λ_=>Qa _).eq m) (Qa _)
   .have t:idx ((casesG (courseE c) c l a).map (·.number)) (i:Int)=some y.number:=YT (by rw[Xq,h.get];rfl);have k:idx ((casesG (courseE c) c l a).map (·.penalty)) (i:Int)=some y.penalty:=YT (by rw[Xq,h.get];rfl);unfold F_hk;simp only[X6,h.lt,Vt,t,k,XN,h.nx];refine Ea (v:=true) ((Ei λ_=>Qa _).eq m) (Qa _)
   .unfold F_hk;simp only[X6,Qbi,Vu];exact Qa _
  cases d:(casesG (courseE c) c l a).any (λy=>(y.number==f.Ruling.Case)&&decide (y.penalty.Position<=p))with
  |true=>exact Qa _
  |false=>
   simp only[Vu];refine Ea (v:=(f.Ruling.Kind != 2)&&((f.Ruling.Bib==a)&&decide (f.Ruling.Position<=p))) (Ei λ_=>Ei λ_=>Qa _) ?_;cases s:(f.Ruling.Kind != 2)&&((f.Ruling.Bib==a)&&decide (f.Ruling.Position<=p))with
   |true=>exact Qa _
   |false=>
    simp only[Vu];rw[Qby ([]:List Fact) l (by simp;omega),Vl];simp only[XN];rw[Qby l [f] (by simp;omega)];simp only[XN];have O:(l++[f]).length<=15:=by simp;omega
    refine Ea (QiJ _ f.Ruling.Case (by omega)) ?_;cases r:inForce (l++[f]) f.Ruling.Case with
    |none=>exact Ea (v:=true) (Qa _) (Qa _)
    |some g=>
     simp only[Xh,Vu];refine Ea (v:=g != f.Ruling) (Qa _) ?_;cases x:(g != f.Ruling)with
     |true=>exact Qa _
     |false=>
      rw[bne_eq_false_iff_eq]at x;subst x;simp only[Vu];refine Ea (QiK _ c _ a (by omega) B) ?_;have G:=QfE (courseE c) c (l++[f]) a;rw[QfF];refine Ea (QiI _ p (by rw[X6];omega)) (Ea (QiI _ p (by rw[X6];omega)) ?_);have e:untF ((casesG (courseE c) c l a).map (·.penalty)) p=untF ((casesG (courseE c) c (l++[f]) a).map (·.penalty)) p:=by
       unfold casesG at d⊢;cases j:(courseE c != 0)with
       |true=>rfl
       |false=>
        rw[j]at d;simp only[Vu]at d⊢;refine Qjn M N J (λy F q=>?_) (λq=>?_) r
        .have:=List.any_eq_false.1 d y F;rw[q.1,Ys q.2]at this;simp at this
        .obtain⟨Q,P,H⟩:=q;rw[P,Ys H]at s;simp at s;exact Q s
      rw[e];simp only[beq_self_eq_true,Vt];exact Ea (v:=true) (Qa _) (Qa _)
end Go.Sw
