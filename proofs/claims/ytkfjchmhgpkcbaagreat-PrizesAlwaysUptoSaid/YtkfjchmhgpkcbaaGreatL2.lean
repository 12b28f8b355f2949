/- The rules by which the code is walked, with what they rest on (part 2). -/
import Derived.Test.YtkfjchmhgpkcbaaGreatL1
import Derived.Shelf.SlSortCmp.NoneTotal
import Derived.Below
import GoSem.ClaimChange
import Derived.Shelf.Strings.Search3
import Derived.Lib.LazyBuf
import Derived.Shelf.Sort.Plain
import Derived.Shelf.Slices.In.SortNone
import Derived.Shelf.Slices.CompactI
import Derived.RangeFuncIn
import Derived.RangeFuncSeq
import Derived.RangeFuncNested
import Derived.Lib.Bytealg
import Derived.Laws.Externs
import Derived.LaidLaws
import Derived.Lib.LaidTab
import Derived.ChangeArms
import Derived.ChangeSame
import Derived.Laws.BytesString
set_option linter.unusedVariables false
set_option linter.unusedSectionVars false
set_option linter.unusedSimpArgs false
namespace Go.Sw
open Go.Sort Go.Proofs Go.Shelf
section
variable {α:Type}
def ins(lt:α->α->Bool)(x:α):List α->List α
 |[]=>[x]
 |y::l=>bif lt y x then y::ins lt x l else x::y::l
def QaH(lt:α->α->Bool):List α->List α
 |[]=>[]
 |x::l=>ins lt x (QaH lt l)
theorem Qeu(lt:α->α->Bool)(x:α):∀l,(ins lt x l).Perm (x::l)
 |[]=>.refl _
 |y::l=>by
  unfold ins;cases lt y x
  .exact .refl _
  .exact((Qeu lt x l).cons y).trans (List.Perm.swap _ _ _)
theorem QD(lt:α->α->Bool):∀l,(QaH lt l).Perm l
 |[]=>.refl _
 |x::l=>(Qeu lt x _).trans ((QD lt l).cons x)
structure Qe3 (lt:α->α->Bool) (l:List α):Prop where
 irrefl:∀x∈l,lt x x=false
 trans:∀x∈l,∀y∈l,∀z∈l,lt x y=true->lt y z=true->lt x z=true
 ntrans:∀x∈l,∀y∈l,∀z∈l,lt x y=false->lt y z=false->lt x z=false
theorem Qe3.mono{lt:α->α->Bool}{l m:List α}(h:Qe3 lt l)(hm:∀x∈m,x∈l):Qe3 lt m:=
 ⟨λx hx=>h.irrefl x (hm x hx),λx hx y hy z hz=>h.trans x (hm x hx) y (hm y hy) z (hm z hz),λx hx y hy z hz=>h.ntrans x (hm x hx) y (hm y hy) z (hm z hz)⟩
theorem Qe3.asymm{lt:α->α->Bool}{l:List α}(h:Qe3 lt l){x y:α}(a:x∈l)(d:y∈l)(b:lt x y=true):lt y x=false:=by
 cases q:lt y x
 .rfl
 .rw[<- h.irrefl x a,h.trans x a y d x a b q]
theorem Qet{lt:α->α->Bool}{x:α}:∀{l:List α},Qe3 lt (x::l)->l.Pairwise (λa b=>lt b a=false)->(ins lt x l).Pairwise (λa b=>lt b a=false)
 |[],_,_=>by simp[ins]
 |y::l,h,hp=>by
  obtain⟨h1,h2⟩:=Xc.1 hp;unfold ins;cases q:lt y x
  .refine Xc.2 ⟨λz hz=>?_,hp⟩;rcases Ve.1 hz with rfl|hz
   .exact q
   .exact h.ntrans z (by simp[hz]) y (by simp) x (by simp) (h1 z hz) q
  .refine Xc.2 ⟨λz hz=>?_,Qet (h.mono (by intro z hz;rcases Ve.1 hz with rfl|hz<;>simp[*])) h2⟩;rcases Ve.1 ((Qeu lt x l).mem_iff.1 hz)with rfl|hz
   .exact h.asymm (by simp) (by simp) q
   .exact h1 z hz
theorem Yx{lt:α->α->Bool}:∀{l:List α},Qe3 lt l->(QaH lt l).Pairwise (λa b=>lt b a=false)
 |[],_=>by simp[QaH]
 |x::l,h=>Qet (h.mono (by
   intro z hz;rcases Ve.1 hz with rfl|hz
   .simp
   .exact Vd _ ((QD lt l).mem_iff.1 hz))) (Yx (h.mono λz hz=>Vd _ hz))
theorem QaF{lt:α->α->Bool}:∀{l m:List α},l.Perm m->(∀x∈l,∀y∈l,lt x y=false->lt y x=false->x=y)->l.Pairwise (λa b=>lt b a=false)->m.Pairwise (λa b=>lt b a=false)->l=m
 |[],m,h,_,_,_=>by rw[List.nil_perm.1 h]
 |x::l,[],h,_,_,_=>by have:=h.length_eq;simp at this
 |x::l,y::m,h,ha,hl,hm=>by
  obtain⟨l1,l2⟩:=Xc.1 hl;obtain⟨m1,m2⟩:=Xc.1 hm;have hy:y∈x::l:=h.mem_iff.2 (by simp);have hx:x∈y::m:=h.mem_iff.1 (by simp);have hxy:x=y:=by
   rcases Ve.1 hy with e|d
   .exact e.symm
   .rcases Ve.1 hx with e|g
    .exact e
    .exact ha x (by simp) y (by simp[d]) (m1 x g) (l1 y d)
  subst hxy;rw[QaF ((List.perm_cons x).1 h) (λa f b i=>ha a (by simp[f]) b (by simp[i])) l2 m2]
def ltO(cf:α->α->Option Int)(x y:α):Bool:=match cf x y with
 |some c=>decide (c<0)
 |none=>false
def QhP[DecidableEq α](cf:α->α->Option Int)(l:List α):Bool:=
 l.all λx=> !ltO cf x x&&l.all λy=>(cf x y).isSome&&(ltO cf x y||ltO cf y x||decide (x=y))&&l.all λz=>(!ltO cf x y|| !ltO cf y z||ltO cf x z)&&(ltO cf x y||ltO cf y z|| !ltO cf x z)
def Qco[DecidableEq α](cf:α->α->Option Int)(l:List α):Option (List α):=bif Nat.ble l.length QO&&QhP cf l then some (QaH (ltO cf) l)else none
theorem Qd6[DecidableEq α]{cf:α->α->Option Int}{l l':List α}(h:Qco cf l=some l'):
  l.length<=QO/\(∀x∈l,∀y∈l,∃c,cf x y=some c)/\Qe3 (ltO cf) l/\(∀x∈l,∀y∈l,ltO cf x y=false->ltO cf y x=false->x=y)/\QaH (ltO cf) l=l':=by
 unfold Qco at h;cases g:Nat.ble l.length QO with
 |false=>rw[g]at h;cases h
 |true=>
 rw[g,Bool.true_and]at h;cases q:QhP cf l with
 |false=>rw[q]at h;cases h
 |true=>
  rw[q]at h;refine⟨XY g,?_⟩;unfold QhP at q;simp only[Xw,X4,Bool.not_eq_true',Bool.or_eq_true,decide_eq_true_eq]at q;refine⟨λx b y d=>Option.isSome_iff_exists.1 ((q x b).2 y d).1.1,⟨λx b=>(q x b).1,λx b y d z i e f=>?_,λx b y d z i e f=>?_⟩,λx b y d e f=>?_,X7 h⟩
  .rcases(((q x b).2 y d).2 z i).1 with(a|a)|a
   .rw[e]at a;cases a
   .rw[f]at a;cases a
   .exact a
  .rcases(((q x b).2 y d).2 z i).2 with(a|a)|a
   .rw[e]at a;cases a
   .rw[f]at a;cases a
   .exact a
  .rcases((q x b).2 y d).1.2 with(a|a)|a
   .rw[e]at a;cases a
   .rw[f]at a;cases a
   .exact a
theorem Qld[DecidableEq α]{cf:α->α->Option Int}{l:List α}(h:l.length<=QO)(c:α->α->Int)(m:∀x∈l,∀y∈l,cf x y=some (c x y))(n:∀x∈l,¬c x x<0)
  (p:∀x∈l,∀y∈l,∀z∈l,c x y<0->c y z<0->c x z<0)(r:∀x∈l,∀y∈l,∀z∈l,¬c x y<0->¬c y z<0->¬c x z<0)(s:∀x∈l,∀y∈l,¬c x y<0->¬c y x<0->x=y):
  Qco cf l=some (QaH (ltO cf) l):=by
 have g:∀x∈l,∀y∈l,ltO cf x y=decide (c x y<0):=λx e y f=>by unfold ltO;rw[m x e y f]
 have q:QhP cf l=true:=by
  unfold QhP;simp only[Xw,X4,Bool.not_eq_true',Bool.or_eq_true,decide_eq_true_eq];intro x e;refine⟨by rw[g x e x e];simpa using n x e,λy f=>⟨⟨by rw[m x e y f];rfl,?_⟩,λz i=>?_⟩⟩
  .rw[g x e y f,g y f x e];by_cases j:c x y<0
   .simp[j]
   .by_cases k:c y x<0
    .simp[k]
    .exact .inr (s x e y f j k)
  .rw[g x e y f,g y f z i,g x e z i];have j:=p x e y f z i;have k:=r x e y f z i;by_cases a:c x y<0<;>by_cases b:c y z<0<;>by_cases d:c x z<0<;>simp_all
 unfold Qco;rw[q,XZ h];rfl
theorem Qfu[DecidableEq α]{cf:α->α->Option Int}{l l':List α}(h:Qco cf l=some l'):l.length=l'.length:=by
 rw[<- (Qd6 h).2.2.2.2];exact(QD _ _).length_eq.symm
theorem Q1{h0:Nat}{env:Env}{H:Qc}{s:Nat}{a a':A}(h:lk env s=a)(e:a=a'):Le h0 env H (up env s a') H:=by
 intro f d σ N act w r;refine⟨d,σ,⟨r.sim,λb=>?_,r.size,r.defers⟩,λ_ q=>q,rfl⟩;subst e;have:lk (up env s a) b=lk env b:=by
  simp only[lk];cases q:Nat.beq b s with
  |true=>rw[XX q,h];rfl
  |false=>rfl
 rw[this];exact r.env b
end
section
variable {fr ro:Nat->Prop}{σ:Sig}{H:Qc}{w w':World}
theorem Qdy(hh:∀b,b<w.heap.size->w'.heap[b]?=w.heap[b]?)(hro:∀b,ro b->b<w.heap.size)(σ:Sig):Ext ro σ w ro σ w':=
 ⟨λ_ q=>q,λb hb=>hh b (hro b hb),λb x hx=>by unfold World.shape? at hx⊢;rw[hh b (Qcp hx)];exact hx,λ_ _ q=>q⟩
theorem Sim.grown(s:Sim fr ro σ H w)(a:∀b,b<w.heap.size->w'.heap[b]?=w.heap[b]?)(g:w.heap.size<=w'.heap.size):Sim fr ro σ H w':=by
 refine⟨s.len,s.roOk.to (λ_ q=>q) (λb q=>a b (s.roLt b q)) (λb h=>Vn (s.roLt b h) g),λb h=>Vn (s.frLt b h) g,s.roFr,λi b x e f n=>?_,s.inj,λi y x e f=>?_,s.hidTo (· = ·) Q0 g (λ_ _ _ _ _ _ _ q=>q) (λ_ _ _ _ _ _ _ q=>q) λj d y m l r=>.inl ⟨j,y,rfl,m,l,id,λc q=>s.hidKeep m l (λz=>a d (s.own j d y m l z).1) (λb q=>a b (s.roLt b q)) q⟩⟩
 .obtain⟨p,q⟩:=s.own i b x e f n;exact⟨Vn p g,q⟩
 .refine(s.blk i y x e f).keep (Qdy a s.roLt σ) ?_ ?_
  .rintro b rfl k;exact a b (s.own i b x e f k).1
  .rintro b c rfl k;exact a c (s.hid i b x c e f k).lt
theorem Qf.grown(hh:∀b,b<w.heap.size->w'.heap[b]?=w.heap[b]?)(hs:w.heap.size<=w'.heap.size)(s:Sim fr ro σ H w)(ho:w'.os=w.os)(ht:w'.tape=w.tape)(hu:w'.output=w.output)(hd:w.drawn<=w'.drawn):Qf fr ro w ro w':=
 ⟨λ_ q=>q,λb h=>hh b (s.roLt b h),λb h=>hh b (s.frLt b h),hs,(Qdy hh s.roLt σ).shape,ho,ht,hu,hd⟩
theorem QnB(j:∀b,b<w.heap.size->w'.heap[b]?=w.heap[b]?)(k:w.heap.size<=w'.heap.size)(f:w'.os=w.os)(e:w'.tape=w.tape)(h:w'.output=w.output)(m:w.drawn<=w'.drawn):
  ∃q os',w'=grow (w.drewN q) os':=by
 refine⟨w'.drawn-w.drawn,w'.heap.extract w.heap.size w'.heap.size,?_⟩;obtain⟨a,s,g,t,r⟩:=w';simp only at j k f e h m;subst f e h;unfold grow World.drewN;have n:a=w.heap++a.extract w.heap.size a.size:=by
  apply Array.ext_getElem?;intro i;rw[Array.getElem?_append];split
  .rename_i d;exact j i d
  .rename_i d;rw[Array.getElem?_extract];split
   .rename_i l;congr 1;omega
   .rename_i l;rw[Array.getElem?_eq_none];omega
 have p:g=w.drawn+(g-w.drawn):=by omega
 rw[<- n, <- p]
end
end Go.Sw
namespace Go.Sw
open Go.Sort Go.Proofs Go.Shelf
theorem Qdx{α:Type}{k:Nat}:∀(vs:List (List α)) (j:Nat),(∀v∈vs,v.length=k)->j<vs.length*k->vs.flatten[j]?=(vs[j/k]?).bind λv=>v[j%k]?
 |[],j,_,h=>by simp at h
 |v::vs,j,hk,h=>by
  have hv:=hk v (by simp);have k0:0<k:=by
   rcases Nat.eq_zero_or_pos k with q|q
   .subst q;simp at h
   .exact q
  rw[Vt];by_cases q:j<k
  .rw[XT (by omega),Nat.div_eq_of_lt q,Nat.mod_eq_of_lt q];simp
  .rw[XU (by omega),hv,Qdx vs (j-k) (λv hv=>hk v (by simp[hv])) (by simp[Xn]at h;omega)];have b:j/k=(j-k)/k+1:=by rw[Nat.div_eq_sub_div k0 (by omega)]
   have a:j%k=(j-k)%k:=Nat.mod_eq_sub_mod (by omega);rw[b,a,XM]
theorem Qam{α:Type}{k:Nat}:∀(vs:List (List α)),(∀v∈vs,v.length=k)->vs.flatten.length=vs.length*k
 |[],_=>by simp
 |v::vs,h=>by rw[Vt,Va,Qam vs (λv hv=>h v (by simp[hv])),h v (by simp),X8,Xn];omega
theorem QaX{α:Type}(F:List α)(j:Nat):F.toArray[j]?=F[j]? :=by simp
theorem Qhl{α:Type}[Inhabited α](F:List α)(j:Nat)(h:j<F.length):F[j]?=some (F.toArray[j]!):=by simp[h]
theorem Qhq{β:Type}[Inhabited β]{enc:β->List Value}{k:Nat}(f:∀x,(enc x).length=k)(d:Array β):flatK enc k d=((d.toList.map enc).flatten).toArray:=by
 have a:∀v∈d.toList.map enc,v.length=k:=by
  intro v j;obtain⟨x,_,rfl⟩:=Xf.1 j;exact f x
 apply Array.ext_getElem?;intro t;rw[QaX ((d.toList.map enc).flatten) t];by_cases h:t<d.size*k
 .rw[Qdx _ t a (by simpa using h)];have i:0<k:=by
   rcases Nat.eq_zero_or_pos k with q|q
   .subst q;simp at h
   .exact q
  have g:t/k<d.size:=Nat.div_lt_of_lt_mul (by rw[Nat.mul_comm];exact h);have l:t%k<k:=Nat.mod_lt _ i;have b:t<(flatK enc k d).size:=by simpa using h
  have e:=get_flatK enc k d t h;rw[getElem!_pos (flatK enc k d) t b]at e;rw[Array.getElem?_eq_getElem b,e];simp[g];rw[XR (by rw[f];exact l)];rfl
 .have e:(d.toList.map enc).flatten.length=d.size*k:=by rw[Qam _ a];simp
  rw[Array.getElem?_eq_none (by simpa using h),XV (by rw[e];omega)]
section
variable {ro:Nat->Prop}{σ:Sig}{w:World}{T:Type}{enc:T->List A}{k:Nat}
theorem QhV:∀{l:List T}{lv:List Value},RL ro σ w k (l.map enc) lv->
  ∃(ps:List (T×List Value)) (rest:List Value),ps.map (·.1)=l/\lv=(ps.map (·.2)).flatten++rest/\ ∀p∈ps,p.2.length=k/\LR ro σ w (enc p.1) p.2/\ ∀v∈p.2,Qv v
 |[],lv,_=>⟨[],lv,rfl,rfl,by simp⟩
 |x::l,lv,h=>by
  obtain⟨l1,l2,rfl,h1,⟨h2,h3⟩,h4⟩:=h;obtain⟨ps,rest,e1,rfl,h5⟩:=QhV (l:=l) h4;refine⟨(x,l1)::ps,rest,by simp[e1],by simp,?_⟩;intro p hp;rcases Ve.1 hp with rfl|hp
  .exact⟨by rw[h2.length];exact h1,h2,h3⟩
  .exact h5 p hp
theorem QdF(hk:∀x:T,(enc x).length=k):∀{ps:List (T×List Value)}{rest:List Value},(∀p∈ps,LR ro σ w (enc p.1) p.2/\ ∀v∈p.2,Qv v)->RL ro σ w k ((ps.map (·.1)).map enc) ((ps.map (·.2)).flatten++rest)
 |[],_,_=>trivial
 |p::ps,rest,h=>by
  refine⟨p.2,(ps.map (·.2)).flatten++rest,by simp,hk _,h p (by simp),QdF hk λq hq=>h q (by simp[hq])⟩
end
structure Elt (ro:Nat->Prop) (w:World) {T:Type} (enc:T->List A) (k:Nat) (l:List T) where
 x:T
 vs:List Value
 mem:x∈l
 len:vs.length=k
 rel:LR ro [] w (enc x) vs
 plain:∀v∈vs,Qv v
theorem QjW{v:Value}(h:Qv v):v.oneCell'=true:=by cases v<;>first|rfl|exact h.elim
theorem Qoe{P:Program}{ρ:Ren}(L:SlLaysF0.n6 P ρ){T:Type}[DecidableEq T]{enc:T->List A}{k t g:Nat}{cap:List A}{l l':List T}{cf:T->T->Option Int}(hs:Qco cf l=some l')
  (az:∀x y c,cf x y=some c->C P g ([.agg (enc x),.agg (enc y)]++cap) [] (λa H=>a=.int .i64 c/\H=[]))
  (aE:∀w,(isAgg (ρ.t 24)).run P w=.ok true w)(zE:∀w,(Go.sizeOf (ρ.t 24)).run P w=.ok k w)(eg:∀args w,(callFunc g args).run P w=.ok (.enter g args) w)
  (hk:∀x,(enc x).length=k)(hd:Yk cap=true):
  C P (ρ.f 6) [.osl 0 0 l.length k,.fn (.func g) [] cap] [.row t k (l.map enc)] (λa H=>a=.tup []/\H=[.row t k (l'.map enc)]):=by
 intro fr J σ vals w s hv;obtain⟨vs,r1,rfl,bl,vf,r2,rfl,bp,hr⟩:=hv;cases(show r2=[]from hr);obtain⟨lf,lc,rfl,h1,bb⟩:=bp;cases(show lf=[]from h1);have av:LR J [] w cap lc:=LR.data hd bb;obtain⟨a0,ai,N,aw,a8⟩:=Qd6 hs;have E:∀(ad:Option Addr) (c:Nat),vs=.slice ad 0 c->l=[]->
   Calls P (ρ.f 6) [vs,.func (.func g) #[] lc.toArray].toArray w λe w'=>∃v r H' ah τ,e=.returned v/\(r=.tup []/\H'=[.row t k (l'.map enc)])/\Sim fr ah (σ++τ) H' w'/\VR ah (σ++τ) w' r v/\Qf fr J w ah w':=by
  rintro ad c rfl rfl;have af:l'=[]:=by rw[<- a8];rfl
  subst af;refine(AnyF.slices_SortFunc_none L ad c (.func (.func g) #[] lc.toArray) w).mono ?_;rintro e w' ⟨rfl,rfl⟩;exact⟨_,_,_,J,[],rfl,⟨rfl,rfl⟩,by simpa using s,⟨[],rfl,rfl⟩,Qf.refl _ _ _⟩
 rcases bl with⟨h0,rfl⟩|⟨b,p,cp,t',m,q1,rfl,q2,q3,q4,q5⟩
 .exact E none 0 rfl (List.length_eq_zero_iff.1 h0)
 .by_cases af:l=[]
  .subst af;exact E _ cp rfl rfl
  .have bj:0<l.length:=List.length_pos_iff.2 af;obtain rfl:=q2 (Vn bj q3);obtain⟨lv,e1,e2⟩:=s.blk 0 _ _ q1 rfl;obtain⟨hb,al,a4⟩:=s.own 0 b _ q1 rfl rfl;obtain⟨V,G,a1,rfl,ag⟩:=QhV e2
   let α:=Elt J w enc k l
   have a2:∀p∈V,p.1∈l:=λp hp=>by rw[<- a1];exact List.mem_map_of_mem hp
   let ds:List α:=V.attach.map λp=>⟨p.1.1,p.1.2,a2 _ p.2,(ag _ p.2).1,(ag _ p.2).2.1,(ag _ p.2).2.2⟩
   have a7:∀{γ:Type} (f:T×List Value->γ),V.attach.map (λp=>f p.1)=V.map f:=λf=>by simp
   have Q:ds.map (·.x)=l:=by
    show(V.attach.map _).map _=_;rw[List.map_map];exact(a7 (·.1)).trans a1
   have ak:ds.map (·.vs)=V.map (·.2):=by
    show(V.attach.map _).map _=_;rw[List.map_map];exact a7 (·.2)
   have aq:ds.length=l.length:=by rw[<- Q];simp
   have a6:ds≠[]:=by intro q;rw[q]at aq;simp at aq;omega
   let inh:Inhabited α:=⟨ds.head a6⟩
   let enc':α->List Value:=λa=>a.vs
   let cf':α->α->Int:=λx y=>(cf x.x y.x).getD 0
   have ae:∀x y:α,ltOf cf' x y=ltO cf x.x y.x:=by
    intro x y;obtain⟨c,B⟩:=ai x.x x.mem y.x y.mem;simp only[ltOf,ltO,cf',B,Option.getD_some]
   have hO:SWO (ltOf cf'):=⟨λx=>by rw[ae];exact N.irrefl _ x.mem,λx y z a b=>by rw[ae]at*;exact N.trans _ x.mem _ y.mem _ z.mem a b,
    λx y z a b=>by rw[ae]at*;exact N.ntrans _ x.mem _ y.mem _ z.mem a b⟩
   have aa:∀x:α,(enc' x).length=k:=λx=>x.len;have ao:flatK enc' k ds.toArray=((V.map (·.2)).flatten).toArray:=by
    rw[Qhq aa];show((ds.map λa=>a.vs).flatten).toArray=_;rw[ak]
   have bo:∀v∈V.map (·.2),v.length=k:=by
    intro v hv;obtain⟨p,hp,rfl⟩:=Xf.1 hv;exact(ag p hp).1
   have ab:(V.map (·.2)).flatten.length=ds.length*k:=by rw[Qam _ bo, <- ak];simp
   have hH:HoldsK enc' k w b (0*k) ds.toArray:=by
    intro j hj;rw[ao]at hj⊢;simp only[List.size_toArray]at hj;constructor
    .unfold World.cell?;simp only[e1,Option.isSome_none,Xj,if_false,Nat.zero_mul,XB];rw[QaX,XT hj];exact Qhl _ _ hj
    .unfold World.frozen?;simp only[e1];simp
   have au:∀(d:Array α),d.size=ds.toArray.size->(putRowK enc' k w b (0*k) d).heap=w.heap.setIfInBounds b (.cells (((d.toList.map enc').flatten++G)).toArray t (0,0)):=by
    intro d u;have ac:(d.toList.map enc').flatten.length=(V.map (·.2)).flatten.length:=by
     rw[Qam _ (k:=k) (by intro v hv;obtain⟨x,_,rfl⟩:=Xf.1 hv;exact aa x),ab];simp at u⊢;rw[u]
    unfold putRowK putRow mapBlock;show w.heap.modify b _=_;rw[QbR e1];simp only[onCells];congr 2;rw[Qhq aa];unfold putCells;apply Array.ext_getElem?;intro i;simp only[Array.getElem?_mapIdx,QaX,Nat.zero_mul,X2,true_and,XB,XA,List.size_toArray,id_eq];by_cases hi:i<(d.toList.map enc').flatten.length
    .rw[XT hi,XT (by rw[<- ac];exact hi),XR (by rw[<- ac];exact hi),Qhl _ _ hi];exact congrArg some (if_pos hi)
    .rw[XU (by omega),XU (by omega),ac];cases(G[i-(V.map (·.2)).flatten.length]?)with
     |none=>rfl
     |some v=>
      rw[<- ac];exact congrArg some (if_neg hi)
   have M:∀(m:Nat) (os:Array Obj) (d:Array α),d.size=ds.toArray.size->
     (∀c,c<w.heap.size->c≠b->(sortWorldK enc' k w b (0*k) m d os).heap[c]?=w.heap[c]?)/\(sortWorldK enc' k w b (0*k) m d os).heap[b]?=some (.cells (((d.toList.map enc').flatten++G)).toArray t (0,0))/\
     w.heap.size<=(sortWorldK enc' k w b (0*k) m d os).heap.size:=by
    intro m os d u;have e:(sortWorldK enc' k w b (0*k) m d os).heap=w.heap.setIfInBounds b (.cells (((d.toList.map enc').flatten++G)).toArray t (0,0))++os:=by
     rw[<- au d u];rfl
    rw[e];refine⟨λc B bg=>?_,?_,by simp⟩
    .rw[Array.getElem?_append_left (by simpa using B),Vm,if_neg (λq=>bg q.symm)]
    .rw[Array.getElem?_append_left (by simpa using hb),Vm,if_pos rfl,if_pos hb]
   have O:∀(m:Nat) (os:Array Obj) (d:Array α),d.size=ds.toArray.size->∀c y,w.shape? c=some y->(sortWorldK enc' k w b (0*k) m d os).shape? c=some y:=by
    intro m os d u c y hy;obtain⟨g1,g2,g3⟩:=M m os d u;by_cases B:c=b
    .subst B;unfold World.shape? at hy⊢;rw[e1]at hy;rw[g2];simp only[Option.some.injEq]at hy⊢;rw[<- hy];congr 1;simp only[List.size_toArray,Va];rw[Qam _ (k:=k) (by intro v hv;obtain⟨x,_,rfl⟩:=Xf.1 hv;exact aa x),ab];simp at u⊢;rw[u]
    .unfold World.shape? at hy⊢;rw[g1 c (Qcp hy) B];exact hy
   have aj:∀(m:Nat) (os:Array Obj) (d:Array α),d.size=ds.toArray.size->∀τ,Ext J τ w J τ (sortWorldK enc' k w b (0*k) m d os):=by
    intro m os d u τ;obtain⟨g1,g2,g3⟩:=M m os d u;exact⟨λ_ q=>q,λc B=>g1 c (s.roLt c B) (λq=>al (q▸B)),O m os d u,λ_ _ q=>q⟩
   have bd:CmpLays P g lc.toArray enc' k cf' b (0*k) ds.toArray.size w:=by
    intro m os dk a3 x y;obtain⟨c,B⟩:=ai x.x x.mem y.x y.mem;have F:=aj m os dk a3 [];have be:=az _ _ _ B;generalize hW:sortWorldK enc' k w b (0*k) m dk os=W at*;have bm:w.heap.size<=W.heap.size:=by rw[<- hW];exact(M m os dk a3).2.2
    have sW:Sim (λc=>c<W.heap.size/\ ¬J c) J [] [] W:=
     ⟨rfl,s.roOk.to (λ_ q=>q) F.keep (λc B=>Vn (s.roLt c B) bm),λc B=>B.1,λc B hf=>hf.2 B,λi b x h=>by simp at h,λi j b x y h=>by simp at h,λi y x h=>by simp at h,λi b x c h=>by simp at h⟩
    have an:LR J [] W ([.agg (enc x.x),.agg (enc y.x)]++cap) ([.agg x.vs.toArray,.agg y.vs.toArray]++lc):=
     LR.append (show LR J [] W [A.agg (enc x.x),A.agg (enc y.x)] [Value.agg x.vs.toArray,Value.agg y.vs.toArray]from⟨_,_,rfl,⟨x.vs,rfl,x.rel.mono F⟩,_,_,rfl,⟨y.vs,rfl,y.rel.mono F⟩,rfl⟩) (av.mono F)
    have R:=be _ J [] _ W sW an;have bi:(([Value.agg x.vs.toArray,Value.agg y.vs.toArray]++lc).toArray:Array Value)= #[Value.agg (enc' x).toArray,Value.agg (enc' y).toArray]++lc.toArray:=by simp[enc']
    rw[bi]at R;refine R.mono ?_;rintro e w' ⟨v,r,H',ah,τ,rfl,⟨rfl,rfl⟩,s',bk,ev⟩;refine⟨?_,?_⟩
    .rw[show v=.int .i64 c from bk];simp only[cf',B,Option.getD_some]
    .refine QnB (λc B=>?_) ev.size ev.os ev.tape ev.output ev.drawn;by_cases ba:J c
     .exact ev.keepRo c ba
     .exact ev.keepFr c ⟨B,ba⟩
   have X:ds.toArray.size=l.length:=by simpa using aq
   have am:=AnyQ.slices_SortFunc L k aE zE enc' aa (λx v hv=>QjW (x.plain v hv)) cf' hO g lc.toArray b (0*k) cp ds.toArray w eg bd hH hb (by rw[X];unfold QO at a0;omega);rw[X]at am;refine am.mono ?_;rintro e w' ⟨rfl,d,n,os,Y,ax,rfl⟩;have u:d.size=ds.toArray.size:=Y.1;obtain⟨g1,g2,g3⟩:=M n os d u;have ar:d.toList.Perm ds:=by
    have h:=Y.2.2;have x1:d.extract 0 l.length=d:=by rw[<- X, <- u];exact Array.extract_size
    have x2:ds.toArray.extract 0 l.length=ds.toArray:=by rw[<- X];exact Array.extract_size
    rw[x1,x2]at h;simpa using h
   have a5:d.toList.map (·.x)=l':=by
    rw[<- a8];refine QaF (lt:=ltO cf) ?_ ?_ ?_ (Yx N)
    .exact((ar.map (·.x)).trans (by rw[Q])).trans (QD _ _).symm
    .intro x hx y hy;have bh:x∈l:=by rw[<- Q];exact(ar.map (·.x)).mem_iff.1 hx
     have bn:y∈l:=by rw[<- Q];exact(ar.map (·.x)).mem_iff.1 hy
     exact aw x bh y bn
    .rw[List.pairwise_iff_getElem];intro i j hi hj bq;simp only[X9]at hi hj;simp only[List.getElem_map];rw[<- ae];have:=ax i j (X2 _) bq (by rw[<- X, <- u];simpa using hj);rw[getElem!_pos d j (by simpa using hj),getElem!_pos d i (by simpa using hi)]at this;simpa using this
   have bf:RL J [] (sortWorldK enc' k w b (0*k) n d os) k (l'.map enc) ((d.toList.map enc').flatten++G):=by
    have e3:d.toList.map enc'=(d.toList.map λa=>(a.x,a.vs)).map (·.2):=by simp[enc']
    have e4:l'=(d.toList.map λa=>(a.x,a.vs)).map (·.1):=by rw[<- a5];simp
    rw[e3,e4];refine QdF hk ?_;intro p hp;obtain⟨a,_,rfl⟩:=Xf.1 hp;exact⟨a.rel.mono (aj n os d u []),a.plain⟩
   have bc:Qf fr J w J (sortWorldK enc' k w b (0*k) n d os):=
    ⟨λ_ q=>q,λc B=>g1 c (s.roLt c B) (λq=>al (q▸B)),λc B=>g1 c (s.frLt c B) (λq=>a4 (q▸B)),g3,O n os d u,rfl,rfl,rfl,Nat.le_add_right _ _⟩
   have ay:σ.length=1:=s.len;have a9:Sim fr J σ [.row t k (l'.map enc)] (sortWorldK enc' k w b (0*k) n d os):=by
    have i0:∀{i:Nat}{x:Blk},([.row t k (l'.map enc)]:Qc)[i]?=some x->i=0/\x=.row t k (l'.map enc):=by
     intro i x h;cases i with
     |zero=>simp at h;exact⟨rfl,h.symm⟩
     |succ i=>simp at h
    refine⟨ay,s.roOk.to (λ_ q=>q) bc.keepRo (λc B=>Vn (s.roLt c B) g3),λc B=>Vn (s.frLt c B) g3,s.roFr,λi c x h1 h2 h3=>?_,λi j c x y h1 h2 h3 h4 _ _=>?_,λi y x h1 h2=>?_,λi b x c h1 h2 h3=>by obtain⟨rfl,rfl⟩:=i0 h2;exact h3.elim⟩
    .obtain⟨rfl,rfl⟩:=i0 h2;obtain⟨p1,p2⟩:=s.own 0 c _ h1 rfl rfl;exact⟨Vn p1 g3,p2⟩
    .rw[(i0 h3).1,(i0 h4).1]
    .obtain⟨rfl,rfl⟩:=i0 h2;rw[q1]at h1;cases h1;exact⟨_,g2,bf⟩
   exact⟨_,_,_,J,[],rfl,⟨rfl,rfl⟩,by simpa using a9,⟨[],rfl,rfl⟩,bc⟩
end Go.Sw
namespace Go.Sw
section
variable {P:Program}{o:Oper}{env:Env}{H:Qc}{fr ro:Nat->Prop}{σ:Sig}{w:World}
theorem Sim.addRo(s:Sim fr ro σ H w){b:Nat}(E:b<w.heap.size)(g:¬fr b)(h:∀(i:Nat) (x:Blk),σ[i]?=some (some b)->H[i]?=some x->x.live=true->False)
  (p:∀(i d:Nat) (x:Blk),σ[i]?=some (some d)->H[i]?=some x->Hid w x d b->False):Sim fr (λc=>ro c\/c=b) σ H w:=by
 refine⟨s.len,s.roOk.to (λ_ q=>.inl q) (λ_ _=>rfl) ?_,s.frLt,?_,?_,s.inj,?_,s.hidTo (· = ·) Q0 (X0 _) (λj d x c n B z u=>u.elim id λq=>(p j d x n B (q▸z)).elim) (λ_ _ _ _ _ _ _ q=>q) λj d y r k F=>.inl ⟨j,y,rfl,r,k,id,λ_ q=>q⟩⟩
 .rintro c (q|rfl)
  .exact s.roLt c q
  .exact E
 .rintro c (q|rfl)
  .exact s.roFr c q
  .exact g
 .intro i c x a e f;obtain⟨m,t,l⟩:=s.own i c x a e f;refine⟨m,?_,l⟩;rintro(q|rfl)
  .exact t q
  .exact h i x a e f
 .intro i y x a e;exact(s.blk i y x a e).keep ⟨λ_ q=>.inl q,λ_ _=>rfl,λ_ _ q=>q,λ_ _ q=>q⟩ (λ_ _ _=>rfl) (λ_ _ _ _=>rfl)
theorem QcU{T e k n:Nat}{xs:List Operand}{es:List (List A)}(E:QX P T e k)(Y:o.op=.buildSlice T n (QaR 0 xs).toArray)(M:xs.length=n)(B:Nat.ble (n*k) 16777216=true)
  (hk:(xs.all λx=>Yl (opA env x))=true)(y:Yc env xs=es)(J:allK k es)(Q:es.flatten.all Yt=true)(R:Yk es.flatten=true):
  OpH P o env H (.rsl k es) H:=by
 intro V t σ N a w r;subst y;obtain⟨l,O,L⟩:=QbC r E M B hk J;have G:LR t [] w (Yc env xs).flatten l:=L.data R;have f:∀b,b<w.heap.size->(w.alloc (.cells l.toArray e)).heap[b]?=w.heap[b]? :=λb W=>Yr _ _ b W;have h:w.heap.size<=(w.alloc (.cells l.toArray e)).heap.size:=by rw[Yq];omega
 have X:=r.sim.grown f h;have p:Qf V t w t (w.alloc (.cells l.toArray e)):=Qf.alloc _ r.sim.roLt r.sim.frLt;have s2:=X.addRo (b:=w.heap.size) (by rw[Yq];omega) (λq=>Nat.lt_irrefl _ (r.sim.frLt _ q)) (λi x j m F=>Nat.lt_irrefl _ (r.sim.own i _ x j m F).1)
  (λi d x j m F=>Nat.lt_irrefl _ (r.sim.hid i d x _ j m (r.sim.hidKeep j m (λz=>f d (r.sim.own i d x j m z).1) (λb q=>f b (r.sim.roLt b q)) F)).lt)
 have u:RL t [] (w.alloc (.cells l.toArray e)) k (Yc env xs) l:=by
  have:=QaK (rest:=[]) J (G.mono (p.ext0 [])) (L.plain Q)
  rwa [Vo]at this
 have g:(Yc env xs).length=n:=by simp[Yc,M]
 refine⟨_,_,λc=>t c\/c=w.heap.size,[],Qbv Y a.eval O,?_,by simpa using s2,p.trans (YA λ_ q=>.inl q)⟩;refine⟨some ⟨w.heap.size,0,none⟩,n,by rw[g],by rw[g];exact X0 _,.inr ⟨w.heap.size,0,rfl,.inr rfl,?_⟩⟩;have s:(w.alloc (.cells l.toArray e)).heap[w.heap.size]?=some (.cells (([]:List Value)++l).toArray e (0,0)):=YH _ _;have:=Jj (pre:=[]) s u;exact this.keep ⟨λ_ q=>.inl q,λ_ _=>rfl,λ_ _ q=>q,λ_ _ q=>q⟩ rfl
end
inductive QiP:List A->List A->Prop
 |nil:QiP [] []
 |eq {a:A}{l m:List A} (h:QiP l m):QiP (a::l) (a::m)
 |nl {k:Nat}{l m:List A} (h:QiP l m):QiP (.nils::l) (.rsl k []::m)
theorem LR.nils{ro:Nat->Prop}{σ:Sig}{w:World}{f g:List A}(h:QiP f g):∀{l:List Value},LR ro σ w f l->LR ro σ w g l:=by
 induction h with
 |nil=>intro l h;exact h
 |eq _ ih=>rintro l ⟨v,b,e,d,a⟩;exact⟨v,b,e,d,ih a⟩
 |nl _ ih=>rintro l ⟨v,b,e,d,a⟩;exact⟨v,b,e,⟨none,0,d,X0 _,.inl rfl⟩,ih a⟩
theorem C.nils{P:Program}{f:FuncId}{l1 bs:List A}{H:Qc}{Q:A->Qc->Prop}(hl:QiP l1 bs)(h:C P f bs H Q):C P f l1 H Q:=
 λfr ro σ vals w s l=>h fr ro σ vals w s (LR.nils hl l)
end Go.Sw
namespace Go.Sw
def QB(k:IntKind)(n:Int):Prop:=k.min<=n/\n<=k.max
def Qe1(w:World):Nat->Prop:=λb=>b<w.heap.size
structure Meas {H:Type} (μ:DataW H->Nat):Prop where
 str:∀bytes,bytes.length<=μ (.lit (.string bytes))
 sl:∀e s,e.length<=μ (.slice e s)
 sle:∀e s,∀d∈e,μ d<=μ (.slice e s)
 ag:∀ps,∀d∈ps,μ d<=μ (.agg ps)
def RB(P:Program)(n:Nat)(t:TypeId)(T:Type)(e:T->List A)(wf:T->Prop):Prop:=
 ∀(H:Type) (enc:TypeId×Value->H) (w:World) (base:Nat) (spare:Nat->Bool) (held:Bool) (m:Nat) (cs:List Value) d,m<n->DataW.trod enc P w base spare held m t cs=some d->
  ∀μ:DataW H->Nat,Meas μ->μ d.1<=1048576->∃x:T,wf x/\LR (Qe1 w) [] w (e x) cs/\ ∀v∈cs,Qv v
section
variable {P:Program}{n:Nat}{t:TypeId}{T:Type}{e:T->List A}{wf:T->Prop}
theorem RB.down(h:RB P (n+1) t T e wf):RB P n t T e wf:=λH enc w base spare held m cs d hm=>h H enc w base spare held m cs d (Nat.lt_succ_of_lt hm)
theorem QdY(h:∀n,RB P n t T e wf->RB P (n+1) t T e wf):∀n,RB P n t T e wf
 |0=>λH enc w base spare held m cs d hm=>absurd hm (Xo _)
 |n+1=>h n (QdY h n)
theorem Q7{T':Type}{b:T'->List A}{a:T'->Prop}(h:RB P n t T e wf)(g:T->T')(he:∀x,b (g x)=e x)(j:∀x,wf x->a (g x)):RB P n t T' b a:=by
 intro H enc w base spare held m cs d hm hd μ hμ hwt;obtain⟨x,k,f,i⟩:=h H enc w base spare held m cs d hm hd μ hμ hwt;exact⟨g x,j x k,by rw[he];exact f,i⟩
theorem RB.int{k:IntKind}(a:P.underlying t=some (.int k)):RB P n t Int (Qe k) (QB k):=by
 intro H enc w base spare held m cs d hm hd μ hμ hwt;cases m with
 |zero=>simp[DataW.trod]at hd
 |succ m=>
  rcases cs with _|⟨v,_|⟨g,r⟩⟩
  .simp[DataW.trod,a]at hd
  .cases v<;>simp[DataW.trod,a]at hd;rename_i f e;obtain⟨⟨rfl,b⟩,_⟩:=hd;refine⟨e,?_,⟨_,_,rfl,rfl,rfl⟩,by simp[Qv]⟩;simpa[Lit.wf,QB]using b
  .simp[DataW.trod,a]at hd
theorem RB.bool(a:P.underlying t=some .bool):RB P n t Bool encB (λ_=>True):=by
 intro H enc w base spare held m cs d hm hd μ hμ hwt;cases m with
 |zero=>simp[DataW.trod]at hd
 |succ m=>
  rcases cs with _|⟨v,_|⟨e,r⟩⟩
  .simp[DataW.trod,a]at hd
  .cases v<;>simp[DataW.trod,a]at hd;rename_i b;exact⟨b,trivial,⟨_,_,rfl,rfl,rfl⟩,by simp[Qv]⟩
  .simp[DataW.trod,a]at hd
theorem RB.string(a:P.underlying t=some .string):RB P n t (List UInt8) encS (λs=>s.length<=1048576):=by
 intro H enc w base spare held m cs d hm hd μ hμ hwt;cases m with
 |zero=>simp[DataW.trod]at hd
 |succ m=>
  rcases cs with _|⟨v,_|⟨b,r⟩⟩
  .simp[DataW.trod,a]at hd
  .cases v<;>simp[DataW.trod,a]at hd;rename_i s;obtain⟨_,rfl⟩:=hd;exact⟨s.data.toList,X3 (hμ.str _) hwt,⟨_,_,rfl,rfl,rfl⟩,by simp[Qv]⟩
  .simp[DataW.trod,a]at hd
theorem Qcc{α:Type}{f:Nat->Option α}:∀{n:Nat}{l:List α},(List.range n).mapM f=some l->l.length=n/\ ∀i,i<n->∃y,f i=some y/\l[i]?=some y
 |0,l,h=>by simp at h;subst h;exact⟨rfl,λi hi=>absurd hi (Xo _)⟩
 |n+1,l,h=>by
  rw[Xz,List.mapM_append]at h;cases h1:(List.range n).mapM f with
  |none=>simp[h1]at h
  |some l1=>
   cases h2:f n with
   |none=>simp[h1,h2]at h
   |some y=>
    simp[h1,h2]at h;subst h;obtain⟨e1,e2⟩:=Qcc h1;refine⟨by simp[e1],λi hi=>?_⟩;rcases Xq.1 hi with q|rfl
    .obtain⟨z,z1,z2⟩:=e2 i q;exact⟨z,z1,by rw[XT (by omega)];exact z2⟩
    .exact⟨y,h2,by rw[XU (by omega)];simp[e1]⟩
theorem QdG{w:World}{ro:Nat->Prop}{b:Nat}:∀{cs:List A}{l:List Value}{off:Nat},LR ro [] w cs l->(∀v∈l,Qv v)->(∀i,i<l.length->w.cell? ⟨b,off+i,none⟩=l[i]?)->CR ro [] w b cs off
 |[],_,_,_,_,_=>trivial
 |a::cs,l,off,h,hp,hc=>by
  obtain⟨v,l',rfl,h1,h2⟩:=h;refine⟨⟨v,by simpa using hc 0 (by simp),hp v (by simp),h1⟩,QdG h2 (λv hv=>hp v (by simp[hv])) λi hi=>?_⟩;have:=hc (i+1) (by simpa using hi);rw[show off+1+i=off+(i+1)by omega,this];simp
theorem RB.slice{E:TypeId}{k:Nat}{s:TypeId}(M:P.underlying s=some (.slice E))(hk:P.cellsOf E=k)(h0:Nat.blt 0 k=true)(hl:∀x,(e x).length=k)(h:RB P n E T e wf):
  RB P (n+1) s (List T) (YB k e) (λl=>l.length<=1048576/\ ∀x∈l,wf x):=by
 intro H enc w base spare held m cs d hm hd μ hμ hwt;have k0:0<k:=by simpa using h0
 cases m with
 |zero=>simp[DataW.trod]at hd
 |succ m=>
  rcases cs with _|⟨v,_|⟨v2,r⟩⟩
  .simp[DataW.trod,M]at hd
  .cases v<;>try (simp[DataW.trod,M]at hd;done)
   rename_i a len p;cases a with
   |none=>
    rcases len with _|len
    .rcases p with _|p
     .refine⟨[],⟨by simp,by simp⟩,⟨_,_,rfl,⟨none,0,rfl,X0 _,.inl rfl⟩,rfl⟩,by simp[Qv]⟩
     .simp[DataW.trod,M]at hd
    .simp[DataW.trod,M]at hd
   |some a=>
    simp only[DataW.trod,M]at hd;split at hd
    .rename_i hc;obtain⟨c1,c2,c3⟩:=hc;cases G:(List.range len).mapM (λi=>(w.cells? base (a.add (i*P.cellsOf E)) (P.cellsOf E)).bind (DataW.trod enc P w base spare held m E))with
     |none=>rw[G]at hd;cases hd
     |some f=>
      rw[G]at hd;simp only[XQ,Option.map_eq_some_iff]at hd;obtain⟨B,_,rfl⟩:=hd;have F:f.length<=1048576:=by
       have h1:=hμ.sl (f.map (·.1)) (B.map (·.1));rw[X9]at h1;exact X3 h1 hwt
      have Y:∀y∈f,μ y.1<=1048576:=λy Q=>X3 (hμ.sle _ (B.map (·.1)) _ (List.mem_map_of_mem Q)) hwt;obtain⟨e1,e2⟩:=Qcc G;have O:∀i,i<len->∃(x:T) (l:List Value),wf x/\LR (Qe1 w) [] w (e x) l/\(∀v∈l,Qv v)/\l.length=k/\ ∀j,j<k->w.cell? ((a.add (i*k)).add j)=l[j]? :=by
       intro i hi;obtain⟨y,y1,y2⟩:=e2 i hi;rw[hk]at y1;cases g:w.cells? base (a.add (i*k)) k with
       |none=>rw[g]at y1;cases y1
       |some l=>
        rw[g]at y1;obtain⟨x,x1,x2,x3⟩:=h H enc w base spare held m l y (by omega) y1 μ hμ (Y y (List.mem_of_getElem? y2));refine⟨x,l,x1,x2,x3,by rw[x2.length];exact hl x,λj hj=>?_⟩;unfold World.cells? at g;split at g
        .obtain⟨_,z2⟩:=Qcc g;obtain⟨v,v1,v2⟩:=z2 j hj;rw[v2, <- v1]
        .cases g
      by_cases V:len=0
      .subst V;exact⟨[],⟨by simp,by simp⟩,⟨_,_,rfl,⟨some a,p,rfl,X2 _,.inl rfl⟩,rfl⟩,by simp[Qv]⟩
      .have first:a.spot=none/\a.block<w.heap.size:=by
        obtain⟨x',l,p1,p2,p3,p4,p5⟩:=O 0 (by omega);have u:=p5 0 k0;have X:l[0]?=some l[0]:=XR (by omega);have ea:(a.add (0*k)).add 0=a:=by simp[Addr.add]
        rw[X,ea]at u;unfold World.cell? at u;split at u
        .rename_i hh;constructor
         .cases q:a.spot with
          |none=>rfl
          |some z=>simp[q]at u
         .exact(Vk.1 hh).1
        .cases u
       obtain⟨t,hb⟩:=first
       have W:∀n,a.add n=⟨a.block,a.off+n,none⟩:=by
        intro n;cases a;simp only at t;subst t;unfold Addr.add;split
        .rename_i q;subst q;rfl
        .rfl
       have J:∀(b o n:Nat),(⟨b,o,none⟩:Addr).add n=⟨b,o+n,none⟩:=by
        intro b o n;unfold Addr.add;split
        .rename_i q;subst q;rfl
        .rfl
       have pick:∀q i,len-i=q->i<=len->∃L:List T,L.length=len-i/\(∀x∈L,wf x)/\RR (Qe1 w) [] w a.block k (L.map e) (a.off+i*k):=by
        intro q
        induction q with
        |zero=>intro i hq hi;exact⟨[],by simp[hq],by simp,trivial⟩
        |succ q ih=>
         intro i hq hi;obtain⟨L,N,w2,R⟩:=ih (i+1) (by omega) (by omega);obtain⟨x,l,p1,p2,p3,p4,p5⟩:=O i (by omega);refine⟨x::L,by simp[N];omega,by intro y Q;rcases Ve.1 Q with rfl|Q;exact p1;exact w2 y Q,hl x,?_,?_⟩
         .refine QdG p2 p3 λj hj=>?_;have u:=p5 j (by omega);rw[W,J]at u;exact u
         .rw[Xn, <- Nat.add_assoc]at R;exact R
       obtain⟨L,N,w2,R⟩:=pick len 0 (by omega) (X2 _);rw[Nat.zero_mul,XC]at R;rw[XA]at N;refine⟨L,⟨by rw[N, <- e1];exact F,w2⟩,⟨_,_,rfl,⟨some a,p,by simp[N],by simp[N];exact c2,.inr ⟨a.block,a.off,?_,hb,R⟩⟩,rfl⟩,by simp[Qv]⟩;cases a;simp only at t;subst t;rfl
    .cases hd
  .simp[DataW.trod,M]at hd
def RF(P:Program)(n:Nat)(fs:List Field)(off L:Nat)(T:Type)(e:T->List A)(wf:T->Prop):Prop:=
 ∀(H:Type) (enc:TypeId×Value->H) (w:World) (base:Nat) (spare:Nat->Bool) (held:Bool) (m:Nat) (cs:List Value) ds,m<n->cs.length=L->
  fs.mapM (λf=>DataW.trod enc P w base spare held m f.type ((cs.drop f.offset).take (P.cellsOf f.type)))=some ds->
  ∀μ:DataW H->Nat,Meas μ->(∀y∈ds,μ y.1<=1048576)->∃x:T,wf x/\LR (Qe1 w) [] w (e x) (cs.drop off)/\ ∀v∈cs.drop off,Qv v
theorem RF.nil{L:Nat}:RF P n [] L L Unit (λ_=>[]) (λ_=>True):=by
 intro H enc w base spare held m cs ds hm hl hd μ hμ hwt;have:cs.drop L=[]:=List.drop_eq_nil_of_le (by omega);rw[this];exact⟨(),trivial,rfl,by simp⟩
theorem RF.cons{f:Field}{fs:List Field}{off L k:Nat}{T2:Type}{e2:T2->List A}{a:T2->Prop}(z:f.offset=off)(u:P.cellsOf f.type=k)(h:RB P n f.type T e wf)(r:RF P n fs (off+k) L T2 e2 a):
  RF P n (f::fs) off L (T×T2) (λp=>e p.1++e2 p.2) (λp=>wf p.1/\a p.2):=by
 intro H enc w base spare held m cs ds hm hl hd μ hμ hwt;rw[List.mapM_cons]at hd;cases b:DataW.trod enc P w base spare held m f.type ((cs.drop f.offset).take (P.cellsOf f.type))with
 |none=>simp[b]at hd
 |some d=>
  cases j:fs.mapM (λf=>DataW.trod enc P w base spare held m f.type ((cs.drop f.offset).take (P.cellsOf f.type)))with
  |none=>simp[b,j]at hd
  |some i=>
   have l:ds=d::i:=by
    rw[b,j]at hd;exact(X7 hd).symm
   subst l;rw[z,u]at b;obtain⟨x,s,F,E⟩:=h H enc w base spare held m _ d hm b μ hμ (hwt d (by simp));obtain⟨y,y1,y2,G⟩:=r H enc w base spare held m cs i hm hl j μ hμ (λy t=>hwt y (by simp[t]));have g:cs.drop off=(cs.drop off).take k++cs.drop (off+k):=by rw[<- List.drop_drop,XF]
   refine⟨(x,y),⟨s,y1⟩,by rw[g];exact F.append y2,?_⟩;rw[g];intro v B;rcases List.mem_append.1 B with q|q
   .exact E v q
   .exact G v q
theorem RB.struct{fs:Array Field}{L:Nat}(j:P.underlying t=some (.struct fs))(b:P.cellsOf t=L)(h:RF P n fs.toList 0 L T e wf):RB P (n+1) t T e wf:=by
 intro H enc w base spare held m cs d hm hd μ hμ hwt;cases m with
 |zero=>simp[DataW.trod]at hd
 |succ m=>
  unfold DataW.trod at hd;simp only[j]at hd;split at hd
  .rename_i i;cases a:fs.toList.mapM (λf=>DataW.trod enc P w base spare held m f.type ((cs.drop f.offset).take (P.cellsOf f.type)))with
   |none=>rw[a]at hd;cases hd
   |some k=>
    rw[a]at hd;simp only[Xk,Option.some.injEq]at hd;subst hd;have:=h H enc w base spare held m cs k (by omega) (by rw[i,b]) a μ hμ (λy g=>X3 (hμ.ag _ _ (List.mem_map_of_mem g)) hwt);simpa using this
  .cases hd
end
theorem C.law{P:Program}{f:FuncId}{args:List A}{W:World}{vals:List Value}(h:C P f args [] (λa H=>a=.bool true/\H=[]))(l:LR (Qe1 W) [] W args vals)(d:GP W):
  Calls P f vals.toArray W λe W'=>e=.returned (.bool true)/\Go.RowKit.Below W.heap.size W W':=by
 have s:Sim (λ_=>False) (Qe1 W) [] [] W:=
  ⟨rfl,⟨λ_ h=>h,λb p=>d.size b p,d⟩,λ_ h=>h.elim,λ_ _ h=>h,λi b x h=>by simp at h,λi j b x y h=>by simp at h,λi y x h=>by simp at h,λi b x c h=>by simp at h⟩
 refine(h _ _ _ _ W s l).mono ?_;rintro e W' ⟨v,r,H',n,τ,rfl,⟨rfl,rfl⟩,_,g,ev⟩;exact⟨by rw[show v=.bool true from g],⟨ev.os,ev.tape,ev.output,ev.size,λk m=>ev.keepRo k m⟩⟩
theorem Qem{P:Program}{W:World}{a:Nat}{t:TypeId}{v:Value}{fs:Array Field}(b:P.underlying t=some (.struct fs))(h:Value.okWide P W .any a t v):∃cs,v=.agg cs:=by
 unfold Value.okWide at h;rw[b]at h;obtain⟨cs,rfl,_⟩:=h;exact⟨cs,rfl⟩
theorem Qb8{P:Program}{W:World}{t:TypeId}{cs:Array Value}{T:Type}{e:T->List A}{wf:T->Prop}{H:Type}{enc:TypeId×Value->H}{b:Nat}{a:Nat->Bool}{held:Bool}{d:DataW H}{ps:List MemPlace}
  (h:∀n,RB P n t T e wf)(j:DataW.Trod enc P W b a held t (.agg cs) d ps){μ:DataW H->Nat}(hμ:Meas μ)(f:μ d<=1048576):∃x:T,wf x/\VR (Qe1 W) [] W (.agg (e x)) (.agg cs):=by
 obtain⟨m,g⟩:=j;obtain⟨x,k,i,_⟩:=h (m+1) H enc W b a held m _ _ (Xp _) g μ hμ f;exact⟨x,k,cs.toList,by simp,i⟩
theorem Qib{P:Program}{W:World}(h:W.ShapedOpen P){g t u:Nat}{z:Value}(hg:Nat.blt g P.globals.size=true)(j:(((begin P (λ_ _=>0) default).world.heap[g]?).bind Obj.row?)=some (#[z],t))
  (x:P.buildable t=true)(l:P.cellTypes P.depth t=some [u])(p:P.underlying u=some (.int .i64)):∃m:Int,W.cell? ⟨g,0,none⟩=some (.int .i64 m):=by
 obtain⟨d,r,w,s⟩:=h.1 g _ _ (by simpa using hg) j;obtain⟨B,f,_,q⟩:=s x;rw[l]at f;cases f;have y:d.size=1:=w;have a:d[0]?=some d[0]:=Array.getElem?_eq_getElem (by omega);obtain⟨E,i,b⟩:=q 0 _ a;simp at i;subst i;unfold Cell.ok at b;rw[p]at b;cases e:d[0]<;>rw[e]at b<;>simp at b;rename_i k n;obtain⟨rfl,_⟩:=b;refine⟨n,?_⟩;simp only[World.cell?,r];rw[a,e];rfl
end Go.Sw
namespace Go.Sw
theorem Qik{S B:Type}{step:S->Option (Ctl S B)}(d:Nat->S)(b:B)(k:Nat)(j:∀i,i<k->step (d i)=some (.cont (d (i+1))))(l:step (d k)=some (.done b)):∀n,k<n->iter step n (d 0)=some b:=by
 have e:∀m i n,k-i=m->i<=k->m<n->iter step n (d i)=some b:=by
  intro m
  induction m with
  |zero=>
   intro i n g p f;have:i=k:=by omega
   subst this;obtain⟨a,rfl⟩:∃a,n=a+1:=⟨n-1,by omega⟩;simp[iter,l]
  |succ m h=>
   intro i n g p f;obtain⟨a,rfl⟩:∃a,n=a+1:=⟨n-1,by omega⟩;simp only[iter,j i (by omega)];exact h (i+1) a (by omega) (by omega) (by omega)
 intro n q;exact e k 0 n (by omega) (X2 _) q
theorem QlW{S B:Type}{step:S->Option (Ctl S B)}(s0:S)(a:Nat->S)(b:B)(k:Nat)(h0:a 0=s0)(e:∀i,i<k->step (a i)=some (.cont (a (i+1))))(f:step (a k)=some (.done b))(n:Nat)(d:k<n):iter step n s0=some b:=by
 rw[<- h0];exact Qik a b k e f n d
theorem Qm{α:Type}{l:List α}{i:Nat}{x:α}(h:l[i]?=some x):idx l (i:Int)=some x:=by
 unfold idx;have:decide ((0:Int)<=i)=true:=by simp
 rw[this];simpa using h
theorem QnY{α:Type}(l:List α)(x:α)(h:l.length<4294967296):app l [x]=some (l++[x]):=by
 unfold app;have:Nat.ble (l.length+[x].length) QO=true:=by
  apply XZ;unfold QO;simp;omega
 rw[this];rfl
theorem QhS{α:Type}(l m:List α)(h:l.length+m.length<=4294967296):app l m=some (l++m):=by
 unfold app;have:Nat.ble (l.length+m.length) QO=true:=XZ h;rw[this];rfl
theorem QJ{n:Int}(h0: -9223372036854775808<=n)(a:n<=9223372036854775807):IntKind.i64.wrap n=n:=by
 unfold IntKind.wrap;simp[IntKind.bits,IntKind.signed];omega
theorem QaB{i:Nat}(h:i<9223372036854775807):IntKind.i64.wrap ((i:Int)+1)=((i+1:Nat):Int):=by
 rw[QJ (by omega) (by omega)];omega
theorem Yp{p:Prop}[Decidable p](h:p):decide p=true:=decide_eq_true h
theorem Q3{p:Prop}[Decidable p](h:¬p):decide p=false:=decide_eq_false h
end Go.Sw
namespace Go.Sw
open Go.Proofs Go.Shelf
def cat(a b:List UInt8):Option (List UInt8):=bif Nat.ble (a.length+b.length) 4294967296 then some (a++b)else none
theorem Qpj{a b r:List UInt8}(h:cat a b=some r):a.length+b.length<=4294967296/\a++b=r:=by
 unfold cat at h;cases q:Nat.ble (a.length+b.length) 4294967296 with
 |true=>rw[q]at h;exact⟨XY q,X7 h⟩
 |false=>rw[q]at h;cases h
def Qez(s t:List UInt8):Option Bool:=bif Nat.blt s.length 4294967281 then some (Lib.contains s t)else none
section
variable {P:Program}{o:Oper}{env:Env}{H:Qc}
theorem Qe7{t u:TypeId}{x y:Operand}{p q r:List UInt8}(l:cat p q=some r)(j:o.op=.binOp .add t x y u:=by exact rfl)(hx:opA env x=.str p:=by exact rfl)(hy:opA env y=.str q:=by exact rfl):OpV P o env H (.str r):=by
 intro s n σ N a w rr;obtain⟨m,k⟩:=Qpj l;have f:=Qg rr x;rw[hx]at f;have g:=Qg rr y;rw[hy]at g;have d:a.eval x=.string ⟨p.toArray⟩:=f;have e:a.eval y=.string ⟨q.toArray⟩:=g;have h:(⟨p.toArray⟩:ByteArray)++⟨q.toArray⟩=⟨r.toArray⟩:=by
  rw[<- k];apply ByteArray.ext;simp
 refine⟨.string ⟨r.toArray⟩,?_,rfl⟩;have b:¬((((⟨p.toArray⟩:ByteArray).size+(⟨q.toArray⟩:ByteArray).size:Nat):Int)>IntKind.i64.max):=by
  have:IntKind.i64.max=9223372036854775807:=by decide
  rw[this];simp only[ByteArray.size,List.size_toArray];omega
 generalize a.eval=ρ at*;have i:(eqGuard BinOp.add t x y (.string ⟨p.toArray⟩) (.string ⟨q.toArray⟩)).run P w=.ok () w:=by simp[eqGuard]
 simp only[execOp,j,d,e,binOp_string_add,Op.stringOp,if_neg b,h,Vu,Vv,Result.andThen,i]
def Qce{α:Type}(n:Nat)(l:List α)(i:Int):Option α:=bif Nat.beq l.length n then idx l i else none
theorem Qah{α:Type}{n:Nat}{l:List α}{i:Int}{x:α}(h:Qce n l i=some x):l.length=n/\idx l i=some x:=by
 unfold Qce at h;cases q:Nat.beq l.length n with
 |true=>rw[q]at h;exact⟨XX q,h⟩
 |false=>rw[q]at h;cases h
def arr{α:Type}(n:Nat)(l:List α):Option (List α):=bif Nat.beq l.length n then some l else none
theorem QbK{α:Type}{n:Nat}{l l':List α}(h:arr n l=some l'):l.length=n/\l=l':=by
 unfold arr at h;cases q:Nat.beq l.length n with
 |true=>rw[q]at h;exact⟨XX q,X7 h⟩
 |false=>rw[q]at h;cases h
theorem QgE{α:Type}{n:Nat}{l l':List α}(h:arr n l=some l'):l'.length=n:=(QbK h).2▸(QbK h).1
section
variable {α:Type}{e:α->List A}{t et k n b:Nat}{x y:Operand}{l:List α}
theorem YW{i:Int}{v:α}{m:IntKind}(h:Qce n l i=some v)(E:∀w,(underlying t).run P w=.ok (.array n et) w)(s:∀w,(sizeOf et).run P w=.ok k w)(u:Nat.ble 2 n=true)
  (F:o.op=.indexAddr t x y:=by exact rfl)(hx:opA env x=.ptr b 0:=by exact rfl)(hy:opA env y=.int m i:=by exact rfl):OpV P o env H (.ptr b (i.toNat*k)):=by
 intro M Q σ N a w r;obtain⟨O,p⟩:=Qah h;obtain⟨L,B⟩:=Qbi p;have G:i.toNat<l.length:=(XS.1 B).1;have e:=Qg r x;rw[hx]at e;obtain⟨f,e,z⟩:=e;have j:=Qg r y;rw[hy]at j;have g:a.eval y=.int m i:=j;refine⟨.pointer (some ⟨f,i.toNat*k,none⟩),?_,f,e,rfl⟩;have J:0<=i/\i<(n:Int):=by omega
 have d:(⟨f,0,none⟩:Addr).add (i.toNat*k)=⟨f,i.toNat*k,none⟩:=by
  unfold Addr.add;split
  .rename_i q;rw[q]
  .simp
 generalize a.eval=ρ at*;simp[execOp,F,z,g,Instr.indexAt,asIntOf,E,s,Instr.sureAddr,J,d,go_sem,Result.andThen]
theorem QjG{cs:List A}(i:H[b]?=some (.row t k (l.map e)):=by exact rfl)(hcs:(l.map e).flatten=cs:=by exact rfl):Pts H (.ptr b 0) cs:=by
 intro n m σ w v s h;obtain⟨d,a,g⟩:=h;obtain⟨p,f,j⟩:=s.blk b _ _ a i;refine⟨d,0,g,?_⟩;have:=(RR.flat (Jj (pre:=[]) (by simpa using f) j)).1;subst hcs;exact this.lift
theorem Qhp(a:∀x,(e x).length=k)(L:List α):(L.map e).flatten.length=L.length*k:=by
 induction L with
 |nil=>simp
 |cons c L ih=>simp only[Vr,Vt,Va,a c,ih,X8,Xn];omega
theorem QhX{f:Nat}{l':List α}(h:arr n l=some l')(m:∀x,(e x).length=k)(a:n*k=f)(p:∀w,(isAgg t).run P w=.ok true w)(g:∀w,(sizeOf t).run P w=.ok f w){T:Nat}
  (j:o.op=.load t x:=by exact rfl)(hx:opA env x=.ptr b 0:=by exact rfl)(hH:H[b]?=some (.row T k (l.map e)):=by exact rfl):OpV P o env H (.agg (l'.map e).flatten):=by
 obtain⟨i,rfl⟩:=QbK h;have d:=Qhp m l;rw[i,a]at d;exact QI j p g hx (QjG hH rfl) (List.take_of_length_le (by omega)) d
theorem QkF{r:Nat}{n2 T:Nat}(f:l.length=n)(i:∀x,(e x).length=k)(a:n*k=n2)(j:∀w,(isAgg t).run P w=.ok true w)(g:∀w,(sizeOf t).run P w=.ok n2 w)
  (h:lk env r=.ptr b 0:=by exact rfl)(hH:H[b]?=some (.row T k (l.map e)):=by exact rfl):QcP P env H (.cell r t) (.agg (l.map e).flatten):=by
 have d:=Qhp i l;rw[f,a]at d;have:=QdE (b:=r) (p:=.ptr b 0) (n:=n2) j g (QjG hH rfl) h (by rw[List.take_of_length_le (by omega)];exact d)
 rwa [List.take_of_length_le (by omega)]at this
theorem QhT{c:List A}{k:Nat}(h:c.length=k):∀n,allK k (List.replicate n c)
 |0=>trivial
 |n+1=>⟨h,QhT h n⟩
theorem Qbn{vs:Array Value}{z:α}(q:∀w,(zeroValue t).run P w=.ok (.agg vs) w)(m:(YT (List.replicate n (e z)).flatten).toArray=vs)(h:Qea (List.replicate n (e z)).flatten=true)(l:(List.replicate n (e z)).flatten.all Yt=true)(j:Nat.beq (e z).length k=true)
  (i:o.op=.alloc t:=by exact rfl):OpH P o env H (.ptr H.length 0) (H++[.row t k ((List.replicate n z).map e)]):=by
 intro s f σ N a w r;have d:LR f [] w (List.replicate n (e z)).flatten (YT (List.replicate n (e z)).flatten):=Qfi h;have b:=r.sim.allocRow (t:=t) (rest:=[]) (QhT (XX j) n) d (d.plain l);rw[Vo]at b;have g:(List.replicate n z).map e=List.replicate n (e z):=List.map_replicate;refine⟨.pointer (some ⟨w.heap.size,0,none⟩),w.alloc (.cells (YT (List.replicate n (e z)).flatten).toArray t),f,[some w.heap.size],?_,⟨w.heap.size,?_,rfl⟩,g▸b,Qf.alloc _ r.sim.roLt r.sim.frLt⟩
 .generalize a.eval=ρ at*;have p:(newVar t (.agg vs)).run P w=.ok ⟨w.heap.size,0,none⟩ (w.alloc (.cells vs t)):=rfl;rw[m];simp only[execOp,i,Instr.alloc,Vu,q,Result.andThen,p];rfl
 .rw[<- r.sim.len];simp
theorem QcT{T n2:Nat}{l':List α}{vs:List A}(h:l.length=n)(h':l'.length=n)(hk:∀x,(e x).length=k)(u:n*k=n2)(hs:∀w,(sizeOf t).run P w=.ok n2 w)
  (hp:∀x,(e x).all Yt=true)(hd:∀x,Yk (e x)=true)(W:(l'.map e).flatten=vs)
  (ho:o.op=.store t x y:=by exact rfl)(G:opA env x=.ptr b 0:=by exact rfl)(hH:H[b]?=some (.row T k (l.map e)):=by exact rfl)(M:opA env y=.agg vs:=by exact rfl):
  OpU P o env H (H.set b (.row T k (l'.map e))):=by
 intro fr ro σ N a w r;subst W;have d:=Qg r x;rw[G]at d;obtain⟨bb,d,O⟩:=d;have h3:=Qg r y;rw[M]at h3;obtain⟨m,Y,F⟩:=h3;obtain⟨E,q1,q2⟩:=r.sim.blk b _ _ d hH;have z:∀(L:List α),allK k (L.map e):=by
  intro L
  induction L with
  |nil=>trivial
  |cons c L g=>exact⟨hk c,g⟩
 have V:(l'.map e).flatten.length=n2:=by rw[YP (z l'),X9,h',u]
 have hm:m.length=n2:=by rw[F.length,V]
 have q:∀L:List α,(L.map e).flatten.all Yt=true:=by
  intro L
  induction L with
  |nil=>rfl
  |cons c L g=>simp only[Vr,Vt,List.all_append,hp c,g,Bool.and_self]
 have R:∀i p:List A,Yk i=true->Yk p=true->Yk (i++p)=true:=by
  intro i
  induction i with
  |nil=>intro p _ h;exact h
  |cons c i g=>
   intro p d O;simp only[Yk,X4,List.cons_append]at d⊢;exact⟨d.1,g p d.2 O⟩
 have Q:∀L:List α,Yk (L.map e).flatten=true:=by
  intro L
  induction L with
  |nil=>rfl
  |cons c L g=>simp only[Vr,Vt];exact R _ _ (hd c) g
 have aa:n2<=E.length:=by
  have:=q2.length;rw[X9,h,u]at this;exact this
 have j:=YG (P:=P) (vs:=m) 0 0 q1 (by omega) (F.plain (q l'));have B:splice E 0 m=m++E.drop n2:=by unfold splice;simp[hm]
 have f:=r.sim.set (x':=.row T k (l'.map e)) (obj:=.cells (splice E 0 m).toArray T (0,0)) d hH rfl
  (λy M=>QaZ q1 (Yn (by omega)) y M)
  (λex s=>by
   have G:=(F.data (Q l')).mono ex.nil;rw[B]at G s⊢;exact⟨_,s,QaK (z l') G (F.plain (q l'))⟩)
 refine⟨_,ro,[],?_,by simpa using f.1,f.2⟩;generalize a.eval=ρ at*;have J:(ρ y).cells.size=n2:=by rw[Y];simp[Value.cells,hm]
 have X:(storeVar t ⟨bb,0,none⟩ (ρ y)).run P w=.ok () {w with heap:=w.heap.setIfInBounds bb (.cells (splice E 0 m).toArray T (0,0))}:=by
  unfold storeVar;rw[Vu,hs];simp only[Result.andThen];rw[if_neg (by simp[J]),Y];have ec:(Value.agg m.toArray).cells.toList=m:=by simp[Value.cells]
  rw[ec];simpa using j
 simp only[execOp,ho,O,Instr.storeAt,Instr.sureAddr,pure_bind,Vu,X];rfl
end
end
theorem C.contains{P:Program}{ρ:Ren}(L:Lays.n144 P ρ)(hg:ρ.g 1=Qj8){s t:List UInt8}{r:Bool}(h:Qez s t=some r):C P (ρ.f 144) [.str s,.str t] [] (λa H=>a=.bool r/\H=[]):=by
 unfold Qez at h;cases q:Nat.blt s.length 4294967281 with
 |false=>rw[q]at h;cases h
 |true=>
  rw[q]at h;obtain rfl:=X7 h;intro E n σ vals w sim hv;obtain⟨p,z,rfl,k,d,j,rfl,u,i⟩:=hv;cases(show j=[]from i);obtain⟨m,b⟩:=sim.roOk.gp.max;have x:p=.string ⟨s.toArray⟩:=k;have y:d=.string ⟨t.toArray⟩:=u;subst x y;have l:s.length<4294967281:=by simpa using q
  refine(Any.strings_Contains L ⟨s.toArray⟩ ⟨t.toArray⟩ m w (by simpa[ByteArray.size]using l) (by rw[hg];exact b)).mono ?_;rintro e B ⟨rfl,rfl⟩;exact⟨_,_,_,n,[],rfl,⟨rfl,rfl⟩,by simpa using sim,rfl,Qf.refl _ _ _⟩
section
variable {P:Program}{o:Oper}{env:Env}{H:Qc}{fr ro:Nat->Prop}{σ:Sig}{w:World}
theorem Sim.touch(s:Sim fr ro σ H w){b:Nat}{obj:Obj}(r:¬ro b)(p:¬fr b)(B:∀(i:Nat) (x:Blk),σ[i]?=some (some b)->H[i]?=some x->x.live=true->False)
  (k:∀(i d:Nat) (x:Blk),σ[i]?=some (some d)->H[i]?=some x->Hid w x d b->False)
  (u:∀y,w.shape? b=some y->({w with heap:=w.heap.setIfInBounds b obj}:World).shape? b=some y):
  Sim fr ro σ H {w with heap:=w.heap.setIfInBounds b obj}/\Qf fr ro w ro {w with heap:=w.heap.setIfInBounds b obj}:=by
 have a:∀c,c≠b->({w with heap:=w.heap.setIfInBounds b obj}:World).heap[c]?=w.heap[c]? :=by
  intro c F;show(w.heap.setIfInBounds b obj)[c]?=_;rw[Vm,if_neg (λq=>F q.symm)]
 have f:({w with heap:=w.heap.setIfInBounds b obj}:World).heap.size=w.heap.size:=by simp
 have ev:Qf fr ro w ro {w with heap:=w.heap.setIfInBounds b obj}:=
  ⟨λ_ h=>h,λc h=>a c (λq=>r (q▸h)),λc h=>a c (λq=>p (q▸h)),by rw[f];exact X0 _,by
   intro c y h;by_cases q:c=b
   .subst q;exact u y h
   .unfold World.shape? at h⊢;rw[a c q];exact h,rfl,rfl,rfl,X0 _⟩
 refine⟨⟨s.len,s.roOk.to (λ_ q=>q) ev.keepRo (λc h=>by rw[f];exact s.roLt c h),λc h=>by rw[f];exact s.frLt c h,s.roFr,?_,s.inj,?_,s.hidTo (· = ·) Q0 (by rw[f];exact X0 _) (λ_ _ _ _ _ _ _ q=>q) (λ_ _ _ _ _ _ _ q=>q) λj d y t m G=>.inl ⟨j,y,rfl,t,m,id,λc q=>s.hidKeep t m (λz=>a d (λe=>B j y (e▸t) m z)) ev.keepRo q⟩⟩,ev⟩
 .intro i c x g l E;rw[f];exact s.own i c x g l E
 .intro i y x g l;refine(s.blk i y x g l).keep (ev.ext0 σ) ?_ ?_
  .rintro c rfl n;exact a c (λq=>by subst q;exact B i x g l n)
  .rintro d c rfl n;exact a c (λq=>k i d x g l (q▸n))
theorem QkT{T E i n t:Nat}{x:Operand}{es:List (List A)}(ht:P.underlying T=some (.slice E))(hE:P.underlying E=some (.int .u8))(hn:es.length=n)(h0:Nat.blt 0 n=true)
  (ho:o.op=.convert T T x:=by exact rfl)(hx:opA env x=.osl i 0 n 1:=by exact rfl)(hH:H[i]?=some (.row t 1 es):=by exact rfl):
  OpH P o env H (.rsl 1 es) (H.set i .dead):=by
 intro fr O σ N a w r;subst hn;have u:=Qg r x;rw[hx]at u;rcases u with⟨hz,_⟩|⟨b,p,L,t',m,u,h2,h6,h3,h4,h5⟩
 .rw[hz]at h0;simp at h0
 .have aa:0<es.length:=by simpa using h0
  obtain rfl:=h6 (by omega);obtain⟨V,G,h⟩:=r.sim.own i b _ u hH rfl;obtain⟨l,W,q2⟩:=r.sim.blk i _ _ u hH;have s1:=r.sim.kill i;have g:∀(j:Nat) (y:Blk),σ[j]?=some (some b)->(H.set i .dead)[j]?=some y->y.live=true->False:=by
   intro j y B f F;by_cases q:j=i
   .subst q;rw[Xb]at f;simp only[if_true]at f;split at f
    .cases f;simp[Blk.live]at F
    .simp at f
   .rw[XW (λz=>q z.symm)]at f;exact q (r.sim.inj j i b y _ B u f hH F rfl)
  have J:∀(j d:Nat) (y:Blk),σ[j]?=some (some d)->(H.set i .dead)[j]?=some y->Hid w y d b->False:=by
   intro j d y B f F;by_cases q:j=i
   .subst q;rw[Xb]at f;simp only[if_true]at f;split at f
    .cases f;exact F.elim
    .simp at f
   .rw[XW (λz=>q z.symm)]at f;exact(r.sim.hid j d y b B f F).ne i b _ u hH rfl rfl
  let fz:Nat×Nat:=(l.length,l.length+1)
  have X:∀y,w.shape? b=some y->({w with heap:=w.heap.setIfInBounds b (.cells l.toArray t fz)}:World).shape? b=some y:=by
   intro y Q;unfold World.shape? at Q⊢;rw[W]at Q;have e:(w.heap.setIfInBounds b (.cells l.toArray t fz))[b]?=some (.cells l.toArray t fz):=by rw[Vm,if_pos rfl,if_pos V]
   simp only[e];exact Q
  obtain⟨s2,s⟩:=s1.touch (obj:=.cells l.toArray t fz) G h g J X;have s3:=s2.addRo (b:=b) (by simpa using V) h g (λj d y B f F=>J j d y B f (s1.hidKeep B f (λz=>by
   show(w.heap.setIfInBounds b _)[d]?=_;rw[Vm,if_neg (λe:b=d=>g j y (by rw[e];exact B) f z)]) s.keepRo F))
  have k:({w with heap:=w.heap.setIfInBounds b (.cells l.toArray t fz)}:World).heap[b]?=some (.cells (([]:List Value)++l).toArray t fz):=by
   show(w.heap.setIfInBounds b _)[b]?=_;rw[Vm,if_pos rfl,if_pos V];rfl
  have M:Ext O [] w O [] {w with heap:=w.heap.setIfInBounds b (.cells l.toArray t fz)}:=s.ext0 [];refine⟨.slice (some ⟨b,0*1,none⟩) es.length L,_,λc=>O c\/c=b,[],?_,?_,by simpa using s3,s.trans (YA λ_ q=>.inl q)⟩
  .have hf:w.freeze ⟨b,l.length,none⟩ 1={w with heap:=w.heap.setIfInBounds b (.cells l.toArray t fz)}:=by
    unfold World.freeze;simp only[Nat.one_ne_zero,if_false];rw[QbR W];rfl
   have Y:(markStringish ⟨b,0*1,none⟩).run P w=.ok () {w with heap:=w.heap.setIfInBounds b (.cells l.toArray t fz)}:=by
    rw[<- hf];unfold markStringish;simp[shape,freeze,Sem.run,World.shape?,W,Result.andThen]
   have hu:∀w,(underlying T).run P w=.ok (.slice E) w:=run_underlying ht;have R:∀w,(underlying E).run P w=.ok (.int .u8) w:=run_underlying hE;generalize a.eval=ρ at*;simp only[execOp,ho,h2,convert,Vu,hu,R,Result.andThen,beq_self_eq_true,Y,Vv]
  .refine⟨some ⟨b,0*1,none⟩,L,rfl,h3,.inr ⟨b,0*1,rfl,.inr rfl,?_⟩⟩;have:=Jj (pre:=[]) k (q2.mono M);exact(by simpa using this:RR O [] _ b 1 es (0*1)).keep ⟨λ_ q=>.inl q,λ_ _=>rfl,λ_ _ q=>q,λ_ _ q=>q⟩ rfl
end
mutual
theorem Qc4(ρ:Nat->Nat):∀{a:A},Ye a=true->Yw ρ a=a
 |.any,_=>rfl
 |.bool _,_=>rfl
 |.int _ _,_=>rfl
 |.str _,_=>rfl
 |.nilp,_=>rfl
 |.ptr _ _,h=>by simp[Ye]at h
 |.rp _,_=>rfl
 |.nils,_=>rfl
 |.rsl _ _,_=>rfl
 |.osl _ _ _ _,h=>by simp[Ye]at h
 |.agg cs,h=>by simp only[Ye]at h;simp only[Yw,Qaf ρ h]
 |.fn f a c,h=>by simp only[Ye,X4]at h;simp only[Yw,Qaf ρ h.1,Qaf ρ h.2]
 |.nilf,_=>rfl
 |.iface t a,h=>by simp only[Ye]at h;simp only[Yw,Qc4 ρ h]
 |.nilif,_=>rfl
 |.map _,h=>by simp[Ye]at h
 |.nilm,_=>rfl
 |.tup vs,h=>by simp only[Ye]at h;simp only[Yw,Qaf ρ h]
theorem Qaf(ρ:Nat->Nat):∀{l:List A},Yk l=true->Qaa ρ l=l
 |[],_=>rfl
 |a::l,h=>by simp only[Yk,X4]at h;simp only[Qaa,Qc4 ρ h.1,Qaf ρ h.2]
end
theorem QfI{α:Type}{e:α->List A}(b:∀x,Yk (e x)=true):∀L:List α,Yk (L.map e).flatten=true
 |[]=>rfl
 |c::L=>by
  have hdt:∀cs ds:List A,Yk cs=true->Yk ds=true->Yk (cs++ds)=true:=by
   intro cs
   induction cs with
   |nil=>intro ds _ h;exact h
   |cons c cs f=>
    intro ds a d;simp only[Yk,X4,List.cons_append]at a⊢;exact⟨a.1,f ds a.2 d⟩
  simp only[Vr,Vt];exact hdt _ _ (b c) (QfI b L)
theorem Qno{α:Type}{e:α->List A}(hd:∀x,Yk (e x)=true)(ρ:Nat->Nat)(l:List α):Yw ρ (.agg (l.map e).flatten)=.agg (l.map e).flatten:=
 Qc4 ρ (by simp only[Ye];exact QfI hd l)
end Go.Sw
namespace Go.Sw
section
variable {P:Program}{o:Oper}{env:Env}{H:Qc}
theorem QdZ{c:Call}{f T:Nat}{x:Operand}{xs:List Operand}{n:Array TypeId}{b:String}{v:A}{args:List A}(d:∀(a:Array Value) (w:World),(callFunc f a).run P w=.ok (.enter f a) w)(k:o.op=.call c)
  (m:c={callee:=.invoke x b,args:=xs.toArray,argTypes:=n})(q:opA env x=.iface T v)(hargs:v::xs.map (opA env)=args)
  (j:∀(u:Value) (w:World),(method (P.types.size+Made.depth) T u b).run P w=.ok (f,u) w):OpC P o env H f args:=by
 intro t s σ N a w r;have g:=Qg r x;rw[q]at g;obtain⟨u,g,p⟩:=g;refine⟨u::xs.map a.eval,?_,hargs▸⟨u,xs.map a.eval,rfl,p,Qa9 r xs⟩⟩;subst m;generalize a.eval=ρ at*;have e:(#[ρ x]++(xs.toArray.map ρ):Array Value)=(.iface T u::xs.map ρ).toArray:=by rw[g];simp
 have h:((.iface T u::xs.map ρ).toArray.extract 1 (.iface T u::xs.map ρ).toArray.size:Array Value)=(xs.map ρ).toArray:=by
  simp[List.take_of_length_le]
 have i:∀l:Array Value,(callMethod (.iface T u) b l).run P w=.ok (.enter f (#[u]++l)) w:=by
  intro l;simp only[callMethod,Vu,run_program,Result.andThen,j,d]
 simp only[execOp,k,resolve,e,invoke,Vu,Vv,Result.andThen];simp only[XN,XL,h,i];simp
theorem Qbm{T I:Nat}{x:Operand}{v:A}{d:TypeDesc}(f:∀w,(underlying T).run P w=.ok d w)(h:∀m,d≠ .interface m)(g:o.op=.typeAssert x I T true:=by exact rfl)(hx:opA env x=.iface T v:=by exact rfl):
  OpV P o env H (.tup [v,.bool true]):=by
 intro j i σ N a w r;have b:=Qg r x;rw[hx]at b;obtain⟨u,b,e⟩:=b;refine⟨.tuple #[u,.bool true],?_,[u,.bool true],rfl,_,_,rfl,e,_,_,rfl,rfl,rfl⟩;generalize a.eval=ρ at*;cases d<;>first|(simp[execOp,g,b,Instr.typeAssert,f,go_sem];done)|exact(h _ rfl).elim
theorem QgI{T T' I:Nat}{x:Operand}{v z:A}{zv:Value}{d:TypeDesc}(g:∀w,(underlying T).run P w=.ok d w)(i:∀m,d≠ .interface m)(b:Nat.beq T' T=false)(j:∀w,(zeroValue T).run P w=.ok zv w)(f:ZR z zv)
  (h:o.op=.typeAssert x I T true:=by exact rfl)(hx:opA env x=.iface T' v:=by exact rfl):
  OpV P o env H (.tup [z,.bool false]):=by
 intro p l σ N a w r;have e:=Qg r x;rw[hx]at e;obtain⟨u,e,n⟩:=e;have k:T'≠T:=λq=>by rw[q,Nat.beq_refl]at b;cases b
 refine⟨.tuple #[zv,.bool false],?_,[zv,.bool false],rfl,_,_,rfl,f _ _ _,_,_,rfl,rfl,rfl⟩;generalize a.eval=ρ at*;cases d<;>first|(simp[execOp,h,e,Instr.typeAssert,g,k,j,go_sem];done)|exact(i _ rfl).elim
end
def TL(P:Program)(h0 N:Nat)(c:Code)(env:Env)(H:Qc)(Q:Qy):Prop:=
 ∀rd fr ro σ a w,Rel fr ro σ H env N a w->QdJ rd fr w->∀(b:Frame) (k:List Item) (cs:List Frame),b.roundOf=(WF rd).round->(WF rd).fn b.fn->(WF rd).room (cs.length+1+0)->∃e a' w',Qbb h0 fr ro σ w N a.defers Q e a' w'/\ArrivesIn (Machine.fenced P (WF rd)) P (lone (b.atR a (.code c::.inLoop c::k)) cs w) b k cs e a' w'
def QiH(P:Program)(h0 N:Nat)(c:Code)(Q:Qy):Qy
 |.normal,env,H=>TL P h0 N c env H Q
 |.exit id,env,H=>Q (.exit id) env H
 |.ret,env,H=>Q .ret env H
section
variable {P:Program}{h0 N:Nat}{c:Code}{env:Env}{H:Qc}{Q:Qy}
theorem QmR(h:TL P h0 N c env H Q):TC P h0 N (.loop c) env H Q:=by
 intro m l f σ a w r hrd b k cs hro hb hr;obtain⟨e,j,g,i,d⟩:=h m l f σ a w r hrd b k cs hro hb hr;exact⟨e,j,g,i,.of_steps (.one (fenced_calm hb hr rfl) stepR_loop) d⟩
theorem TL.round(h:TC P h0 N c env H (QiH P h0 N c Q)):TL P h0 N c env H Q:=by
 intro G z B σ a w r hrd b k cs hro hb hr;obtain⟨e,n,l,L,d⟩:=h G z B σ a w r hrd b (.inLoop c::k) cs hro hb hr;obtain⟨x,f,H',j,σ',i,m,t,F,s,E,u⟩:=L;have y:∀x,Q x f H'->ExR e x->Qbb h0 z B σ w N a.defers Q e n l:=λx q J=>⟨x,f,H',j,σ',i,J,q,F,s,E,u⟩;cases e with
 |normal=>
  obtain rfl:x=.normal:=m;obtain⟨R,O,M,p,g⟩:=t G i j σ' n l F (hrd.to s u.sub) b k cs hro hb hr;exact⟨R,O,M,p.grow s E u,.of_steps (StepsIn.trans d (.one (fenced_calm hb hr rfl) stepR_inLoop)) g⟩
 |exit id=>
  obtain rfl:x=.exit id:=m;exact⟨_,n,l,y _ t rfl,.pass (x:=.inLoop c) rfl (λ_ _=>.inl (by simp)) d⟩
 |ret=>
  obtain rfl:x=.ret:=m;exact⟨_,n,l,y _ t rfl,.pass (x:=.inLoop c) rfl (λ_ _=>.inl (by simp)) d⟩
 |_=>exact m.elim
theorem unrN(h:TC P h0 N c env H (QiH P h0 N c Q)):QiH P h0 N c Q .normal env H:=TL.round h
theorem unrX{id:Nat}(h:Q (.exit id) env H):QiH P h0 N c Q (.exit id) env H:=h
theorem unrR(h:Q .ret env H):QiH P h0 N c Q .ret env H:=h
theorem QkC(h:TC P h0 N c env H (QiH P h0 N c Q)):TC P h0 N (.loop c) env H Q:=QmR (TL.round h)
end
section
variable {P:Program}{o:Oper}{env:Env}{H:Qc}
end
section
variable {P:Program}{o:Oper}{env:Env}{H:Qc}
end
def isNil{α R:Type}[DecidableEq R](l:List α)(x y:Option R):Option R:=bif l.isEmpty then(bif decide (x=y)then x else none)else y
theorem QlX{α R:Type}[DecidableEq R]{l:List α}{x y:Option R}{r:R}(h:isNil l x y=some r)(b:Bool)(f:l≠[]->b=false):(b=true->x=some r)/\(b=false->y=some r):=by
 unfold isNil at h;cases q:l.isEmpty with
 |true=>
  rw[q]at h;by_cases a:x=y
  .subst a;simp at h;exact⟨λ_=>h,λ_=>h⟩
  .simp[a]at h
 |false=>
  rw[q]at h;have d:l≠[]:=by rintro rfl;cases q
  refine⟨λe=>?_,λ_=>h⟩;rw[f d]at e;cases e
section
variable {P:Program}{o:Oper}{env:Env}{H:Qc}{h0 N:Nat}{Q:Qy}
theorem QkU{α:Type}{e:α->List A}{T E k:Nat}{u:TypeId}{x:Operand}{l:List α}(i:P.underlying T=some (.slice E))(q:o.op=.binOp .eql T x (.const (.slice none 0 0)) u)(s:opA env x=.rsl k (l.map e)):
  OpE P o env H (λv H'=>∃b:Bool,v=.bool b/\(l≠[]->b=false)/\H'=H):=by
 intro z j σ N a w r;have h:=Qg r x;rw[s]at h;obtain⟨g,f,h,y,d⟩:=h;refine⟨.bool g.isNone,H,.bool g.isNone,w,j,[],⟨g.isNone,rfl,λp=>?_,rfl⟩,?_,rfl,by simpa using r.sim,Qf.refl _ _ _⟩
 .rcases d with d|⟨b,t,d,_⟩
  .exact absurd (List.map_eq_nil_iff.1 d) p
  .rw[d];rfl
 .have m:a.eval (.const (.slice none 0 0))=.slice none 0 0:=rfl;generalize a.eval=ρ at*;have n:(eqGuard .eql T x (.const (.slice none 0 0)) (.slice g (l.map e).length f) (.slice none 0 0)).run P w=.ok () w:=by simp[eqGuard]
  simp only[execOp,q,h,m,Vu,n,Result.andThen,Go.run_eql_slice_nil w T E g _ f i,Vv]
theorem QmP{α:Type}{e:α->List A}{T E k d:Nat}{u:TypeId}{x:Operand}{l:List α}{all:Array Oper}{L:List Oper}(a:P.underlying T=some (.slice E))(g:opA env x=.rsl k (l.map e))
  (h:∀b:Bool,(l≠[]->b=false)->WO P h0 N all L (up env d (.bool b)) H Q)
  (f:o.op=.binOp .eql T x (.const (.slice none 0 0)) u:=by exact rfl)(hg:Qs all o env true:=by exact rfl)(hd:o.dst=some d:=by exact rfl)(hN:Nat.blt d N=true:=by exact rfl)(hh:Nat.ble h0 H.length=true:=by exact rfl):WO P h0 N all (o::L) env H Q:=by
 refine QmO (XY hh) hg hd hN (QkU a f g) ?_;rintro v H' ⟨b,rfl,i,rfl⟩;exact h b i
end
theorem slc0{α:Type}{l x:List α}{i:Int}(h:slc l 0 i=some x):0<=i/\i.toNat<=l.length/\l.take i.toNat=x/\x.length=i.toNat:=by
 obtain⟨_,d,e,b⟩:=Qd7 h;have a:l.take i.toNat=x:=by simpa using b
 exact⟨d,by omega,a,by rw[<- a,XD];omega⟩
section
variable {P:Program}{o:Oper}{env:Env}{H:Qc}{α:Type}{e:α->List A}{T et k b t:Nat}{x y:Operand}{l l':List α}{i:Int}
end
end Go.Sw
namespace Go.Sw
open Go.Sort Go.Proofs Go.Shelf
def ltI(x y:Int):Bool:=decide (x<y)
def sortI(l:List Int):Option (List Int):=bif Nat.ble l.length QO then some (QaH ltI l)else none
theorem QgY{l l':List Int}(h:sortI l=some l'):l.length<=QO/\QaH ltI l=l':=by
 unfold sortI at h;cases e:Nat.ble l.length QO with
 |false=>rw[e]at h;simp at h
 |true=>rw[e]at h;exact⟨XY e,X7 h⟩
theorem Qad{l l':List Int}(h:sortI l=some l'):l.length=l'.length:=by
 rw[<- (QgY h).2];exact(QD _ _).length_eq.symm
theorem QcA(l:List Int):Qe3 ltI l:=
 ⟨λx _=>by simp[ltI],λx _ y _ z _ a b=>by simp[ltI]at*;omega,λx _ y _ z _ a b=>by simp[ltI]at*;omega⟩
theorem QdH(l:List Int):(l.mergeSort λx y=>decide (x<=y))=QaH ltI l:=by
 refine QaF (lt:=ltI) ?_ ?_ ?_ (Yx (QcA l))
 .exact(List.mergeSort_perm _ _).trans (QD _ _).symm
 .intro x _ y _ a b;simp[ltI]at*;omega
 .refine(List.pairwise_mergeSort (le:=λx y=>decide (x<=y)) ?_ ?_ l).imp ?_
  .intro a b c;simp;omega
  .intro a b;simp;omega
  .intro a b;simp[ltI]
theorem QjF{ro:Nat->Prop}{σ:Sig}{w:World}:∀{l:List Int}{lv:List Value},RL ro σ w 1 (l.map λx=>[A.int .i64 x]) lv->∃rest,lv=l.map (Value.int .i64)++rest
 |[],lv,_=>⟨lv,rfl⟩
 |x::l,lv,h=>by
  obtain⟨l1,l2,rfl,h1,⟨h2,h3⟩,h4⟩:=h;obtain⟨rest,rfl⟩:=QjF (l:=l) h4;obtain⟨v,r,rfl,hv,hr⟩:=h2;cases(show r=[]from hr);exact⟨rest,by rw[show v=.int .i64 x from hv];simp⟩
theorem Qe6{ro:Nat->Prop}{σ:Sig}{w:World}:∀(l:List Int) (rest:List Value),RL ro σ w 1 (l.map λx=>[A.int .i64 x]) (l.map (Value.int .i64)++rest)
 |[],_=>trivial
 |x::l,rest=>⟨[.int .i64 x],l.map (Value.int .i64)++rest,by simp,rfl,⟨⟨_,_,rfl,rfl,rfl⟩,by simp[Qv]⟩,Qe6 l rest⟩
theorem QjN{P:Program}{ρ:Ren}(L:Lays.n189 P ρ){t:Nat}{l l':List Int}(hs:sortI l=some l'):
  C P (ρ.f 189) [.osl 0 0 l.length 1] [.row t 1 (l.map λx=>[A.int .i64 x])] (λa H=>a=.tup []/\H=[.row t 1 (l'.map λx=>[A.int .i64 x])]):=by
 intro fr N σ vals w s hv;obtain⟨vs,r1,rfl,ah,hr⟩:=hv;cases(show r1=[]from hr);obtain⟨ab,X⟩:=QgY hs;have d:∀(ad:Option Addr) (c:Nat),vs=.slice ad 0 c->l=[]->
   Calls P (ρ.f 189) [vs].toArray w λe Q=>∃v r H' ro' τ,e=.returned v/\(r=.tup []/\H'=[.row t 1 (l'.map λx=>[A.int .i64 x])])/\Sim fr ro' (σ++τ) H' Q/\VR ro' (σ++τ) Q r v/\Qf fr N w ro' Q:=by
  rintro ad c rfl rfl;have B:l'=[]:=by rw[<- X];rfl
  subst B;refine(Any.slices_Sort_int_none L ad c w).mono ?_;rintro e Q ⟨rfl,rfl⟩;exact⟨_,_,_,N,[],rfl,⟨rfl,rfl⟩,by simpa using s,⟨[],rfl,rfl⟩,Qf.refl _ _ _⟩
 rcases ah with⟨h0,rfl⟩|⟨b,p,cp,t',m,q1,rfl,q2,q3,q4,q5⟩
 .exact d none 0 rfl (List.length_eq_zero_iff.1 h0)
 .by_cases B:l=[]
  .subst B;exact d _ cp rfl rfl
  .have ae:0<l.length:=List.length_pos_iff.2 B;obtain rfl:=q2 (Vn ae q3);obtain⟨lv,e1,e2⟩:=s.blk 0 _ _ q1 rfl;obtain⟨hb,R,T⟩:=s.own 0 b _ q1 rfl rfl;obtain⟨k,rfl⟩:=QjF e2;have hH:Holds (Value.int .i64) w b 0 l.toArray:=by
    intro j hj;simp only[List.size_toArray]at hj;constructor
    .unfold World.cell?;simp only[e1,Option.isSome_none,Xj,if_false,XB];rw[QaX,XT (by simpa using hj)];simp[hj]
    .unfold World.frozen?;simp only[e1];simp
   have z:=Any.slices_Sort_int L b 0 cp l w hH hb (by unfold QO at ab;omega);rw[QdH,X]at z;simp only[Nat.zero_mul]at z⊢;refine z.mono ?_;rintro e Q ⟨rfl,n,os,rfl⟩;have F:l.length=l'.length:=Qad hs;generalize hW:grow (putRow (Value.int .i64) (Sort.ahead w n) b 0 l'.toArray) os=W;have g:W.heap=w.heap.setIfInBounds b (.cells ((l'.map (Value.int .i64)++k)).toArray t (0,0))++os:=by
    rw[<- hW];show(w.heap.modify b _)++os=_;rw[QbR e1];simp only[onCells];congr 3;unfold putCells;apply Array.ext_getElem?;intro i;simp only[Array.getElem?_mapIdx,QaX,X2,true_and,XB,XA,List.size_toArray];by_cases hi:i<l'.length
    .rw[XT (by simpa[F]using hi),XT (by simpa using hi)];simp[hi,F]
    .rw[XU (by simp;omega),XU (by simp;omega)];simp only[X9,F];cases(k[i-l'.length]?)with
     |none=>rfl
     |some v=>exact congrArg some (if_neg hi)
   have g1:∀c,c<w.heap.size->c≠b->W.heap[c]?=w.heap[c]? :=by
    intro c u ac;rw[g,Array.getElem?_append_left (by simpa using u),Vm,if_neg (λq=>ac q.symm)]
   have g2:W.heap[b]?=some (.cells ((l'.map (Value.int .i64)++k)).toArray t (0,0)):=by
    rw[g,Array.getElem?_append_left (by simpa using hb),Vm,if_pos rfl,if_pos hb]
   have g3:w.heap.size<=W.heap.size:=by rw[g];simp
   have E:∀c y,w.shape? c=some y->W.shape? c=some y:=by
    intro c y G;by_cases u:c=b
    .subst u;unfold World.shape? at G⊢;rw[e1]at G;rw[g2];simp only[Option.some.injEq]at G⊢;rw[<- G];simp[F]
    .unfold World.shape? at G⊢;rw[g1 c (Qcp G) u];exact G
   have aj:W.os=w.os:=by rw[<- hW];rfl
   have af:W.tape=w.tape:=by rw[<- hW];rfl
   have ai:W.output=w.output:=by rw[<- hW];rfl
   have ag:w.drawn<=W.drawn:=by rw[<- hW];exact Nat.le_add_right _ _
   have aa:Qf fr N w N W:=
    ⟨λ_ q=>q,λc u=>g1 c (s.roLt c u) (λq=>R (q▸u)),λc u=>g1 c (s.frLt c u) (λq=>T (q▸u)),g3,E,aj,af,ai,ag⟩
   have J:σ.length=1:=s.len;have Y:Sim fr N σ [.row t 1 (l'.map λx=>[A.int .i64 x])] W:=by
    have V:∀{i:Nat}{x:Blk},([.row t 1 (l'.map λx=>[A.int .i64 x])]:Qc)[i]?=some x->i=0/\x=.row t 1 (l'.map λx=>[A.int .i64 x]):=by
     intro i x h;cases i with
     |zero=>simp at h;exact⟨rfl,h.symm⟩
     |succ i=>simp at h
    refine⟨J,s.roOk.to (λ_ q=>q) aa.keepRo (λc u=>Vn (s.roLt c u) g3),λc u=>Vn (s.frLt c u) g3,s.roFr,λi c x O M h3=>?_,λi j c x y O M h3 h4 _ _=>?_,λi y x O M=>?_,λi b x c O M h3=>by obtain⟨rfl,rfl⟩:=V M;exact h3.elim⟩
    .obtain⟨rfl,rfl⟩:=V M;obtain⟨p1,p2⟩:=s.own 0 c _ O rfl rfl;exact⟨Vn p1 g3,p2⟩
    .rw[(V h3).1,(V h4).1]
    .obtain⟨rfl,rfl⟩:=V M;rw[q1]at O;cases O;exact⟨_,g2,Qe6 l' k⟩
   exact⟨_,_,_,N,[],rfl,⟨rfl,rfl⟩,by simpa using Y,⟨[],rfl,rfl⟩,aa⟩
section
variable {P:Program}{o:Oper}{env:Env}{H:Qc}{α:Type}{e:α->List A}{T et k b t:Nat}{x y:Operand}
theorem Qf6{lo f:Option Operand}{l r:List α}{a c:Int}(h:slc l a c=some r)(E1:∀w,(underlying T).run P w=.ok (.slice et) w)(E2:∀w,(sizeOf et).run P w=.ok k w)
  (i:lo=none/\a=0\/ ∃y,lo=some y/\opA env y=.int .i64 a)(g:f=none/\c=l.length\/ ∃y,f=some y/\opA env y=.int .i64 c)
  (j:o.op=.slice T x lo f none:=by exact rfl)(hx:opA env x=.osl b 0 l.length k:=by exact rfl):OpV P o env H (.osl b (0+a.toNat) (c.toNat-a.toNat) k):=by
 obtain⟨m,n,p,_⟩:=Qd7 h;refine QhZ (l:=a.toNat) (h:=c.toNat) E1 E2 j hx ?_ ?_ (by omega) (by omega)
 .rcases i with⟨d,e⟩|⟨y,d,e⟩
  .exact .inl ⟨d,by rw[e];rfl⟩
  .exact .inr ⟨y,a,d,e,m,rfl⟩
 .rcases g with⟨d,e⟩|⟨y,d,e⟩
  .exact .inl ⟨d,by rw[e];simp⟩
  .exact .inr ⟨y,c,d,e,by omega,rfl⟩
end
end Go.Sw
namespace Go.Sw
inductive Bx where
 |mk (a:A)
def lkB:Env->Nat->Bx
 |[],_=>.mk .any
 |(d,a)::r,s=>bif Nat.beq s d then .mk a else lkB r s
theorem Qij:∀{env:Env}{s:Nat}{a:A},lkB env s=.mk a->lk env s=a
 |[],s,a,h=>by cases h;rfl
 |(d,b)::r,s,a,h=>by
  unfold lkB at h;unfold lk;cases q:Nat.beq s d with
  |true=>rw[q]at h;cases h;rfl
  |false=>rw[q]at h;exact Qij h
inductive FBy where
 |mk (l:List UInt8)
def fby:List UInt8->FBy
 |[]=>.mk []
 |a::r=>match fby r with
  |.mk r'=>.mk (a::r')
theorem Ql7:∀l:List UInt8,fby l=.mk l
 |[]=>rfl
 |a::r=>by unfold fby;rw[Ql7 r]
def opB(env:Env):Operand->Bx
 |.tmp t=>lkB env t
 |.const (.bool b)=>.mk (.bool b)
 |.const (.int k n)=>.mk (.int k n)
 |.const (.string s)=>match fby s.data.toList with
  |.mk l=>.mk (.str l)
 |.const (.pointer none)=>.mk .nilp
 |.const (.slice none 0 0)=>.mk .nils
 |.const (.map none)=>.mk .nilm
 |.const .nilFunc=>.mk .nilf
 |.const .nilIface=>.mk .nilif
 |.func f=>.mk (.fn (.func f) [] [])
 |_=>.mk .any
theorem QC{env:Env}{x:Operand}{a:A}(h:opB env x=.mk a):opA env x=a:=by
 cases x with
 |tmp t=>exact Qij h
 |const v=>
  cases v with
  |slice b n k=>cases b with
   |none=>cases n with
    |zero=>cases k<;>(cases h;rfl)
    |succ n=>cases h;rfl
   |some b=>cases h;rfl
  |pointer p=>cases p<;>(cases h;rfl)
  |map p=>cases p<;>(cases h;rfl)
  |string s=>
   have d:(match fby s.data.toList with|.mk l=>Bx.mk (.str l))=.mk a:=h;rw[Ql7]at d;cases d;rfl
  |_=>cases h;rfl
 |global g=>cases h;rfl
 |func f=>cases h;rfl
def YN{α:Type}:List α->Nat->Option α
 |[],_=>none
 |a::_,0=>some a
 |_::r,n+1=>YN r n
theorem Qaz{α:Type}:∀(l:List α) (n:Nat),YN l n=l[n]?
 |[],n=>by simp[YN]
 |a::r,0=>rfl
 |a::r,n+1=>by simp[YN,Qaz r n]
def arB:BinOp->IntKind->Int->Int->Option A
 |.add,k,m,n=>some (.int k (k.wrap (m+n)))
 |.sub,k,m,n=>some (.int k (k.wrap (m-n)))
 |.mul,k,m,n=>some (.int k (k.wrap (m*n)))
 |.eql,_,m,n=>some (.bool (m==n))
 |.neq,_,m,n=>some (.bool (m != n))
 |.lss,_,m,n=>some (.bool (decide (m<n)))
 |.leq,_,m,n=>some (.bool (decide (m<=n)))
 |.gtr,_,m,n=>some (.bool (decide (n<m)))
 |.geq,_,m,n=>some (.bool (decide (n<=m)))
 |_,_,_,_=>none
def srB:BinOp->List UInt8->List UInt8->Option A
 |.eql,p,q=>some (.bool (p==q))
 |.neq,p,q=>some (.bool (p != q))
 |.lss,p,q=>some (.bool (Op.bytesLess p q))
 |_,_,_=>none
def biB(b:BinOp):Bx->Bx->Option A
 |.mk (.int k m),.mk (.int k' n)=>if k=k' then arB b k m n else none
 |.mk (.str p),.mk (.str q)=>srB b p q
 |_,_=>none
def unB:UnOp->Bx->Option A
 |.not,.mk (.bool b)=>some (.bool !b)
 |.neg,.mk (.int k n)=>some (.int k (k.wrap (0-n)))
 |_,_=>none
def exB:Bx->Nat->Option A
 |.mk (.tup vs),i=>YN vs i
 |_,_=>none
def nlB:Bx->Option A
 |.mk (.ptr i j)=>some (.ptr i j)
 |.mk (.rp cs)=>some (.rp cs)
 |_=>none
def piB:Bx->Bx->Bx->Option A
 |.mk (.bool true),.mk a,_=>some a
 |.mk (.bool false),_,.mk a=>some a
 |_,_,_=>none
def svB(env:Env):Op->Option A
 |.move x=>match opB env x with|.mk a=>some a
 |.assign x=>match opB env x with|.mk a=>some a
 |.nilCheck x=>nlB (opB env x)
 |.extract x i=>exB (opB env x) i
 |.unOp u _ x=>unB u (opB env x)
 |.pick c x y=>piB (opB env c) (opB env x) (opB env y)
 |.binOp b _ x y _=>biB b (opB env x) (opB env y)
 |_=>none
def pr(d:Nat):Option A->Option (Nat×A)
 |some a=>some (d,a)
 |none=>none
def stB(o:Oper)(env:Env):Option (Nat×A):=
 match o.dst with
 |some d=>pr d (svB env o.op)
 |none=>none
section
variable {P:Program}{h0 N:Nat}{all:Array Oper}{o:Oper}{l:List Oper}{env:Env}{H H':Qc}{Q:Qy}{d:Nat}{x:A}
theorem Qbz{p:Op}(d:o.op=p)(h:svB env p=some x):OpV P o env H x:=by
 unfold svB at h;split at h
 .rename_i y;cases q:opB env y with|mk a=>rw[q]at h;cases h;exact OpV.move d (QC q)
 .rename_i y;cases q:opB env y with|mk a=>rw[q]at h;cases h;exact OpV.assign d (QC q)
 .rename_i y;unfold nlB at h;split at h
  .rename_i i j q;cases h;exact Qe8 d (QC q) rfl
  .rename_i w q;cases h;exact Qe8 d (QC q) rfl
  .cases h
 .rename_i y i;unfold exB at h;split at h
  .rename_i vs _ q;rw[Qaz]at h;exact OpV.extract d (QC q) h
  .cases h
 .rename_i u t y;unfold unB at h;split at h
  .rename_i b q;cases h;exact OpV.not d (QC q)
  .rename_i k n q;cases h;exact OpV.neg d (QC q)
  .cases h
 .rename_i c y z;unfold piB at h;split at h
  .rename_i a _ l r;cases h;exact OpV.pick d (QC l) (by rw[if_pos rfl];exact QC r)
  .rename_i a l r;cases h;exact OpV.pick d (QC l) (by rw[if_neg (by decide)];exact QC r)
  .cases h
 .rename_i b t y z u;unfold biB at h;split at h
  .rename_i k m s n l r;split at h
   .rename_i e;subst e;have f:=QC l;have g:=QC r;unfold arB at h;split at h
    .cases h;exact OpV.add d f g
    .cases h;exact OpV.sub d f g
    .cases h;exact OpV.mul d f g
    .cases h;exact OpV.eql d f g
    .cases h;exact OpV.neq d f g
    .cases h;exact OpV.lss d f g
    .cases h;exact OpV.leq d f g
    .cases h;exact OpV.gtr d f g
    .cases h;exact OpV.geq d f g
    .cases h
   .cases h
  .rename_i p q l r;have f:=QC l;have g:=QC r;unfold srB at h;split at h
   .cases h;exact QkL d f g
   .cases h;exact QkI d f g
   .cases h;exact QkJ d f g
   .cases h
  .cases h
 .cases h
theorem Qge(h:stB o env=some (d,x)):o.dst=some d/\OpV P o env H x:=by
 unfold stB at h;split at h
 .rename_i b q;cases e:svB env o.op with
  |none=>rw[e]at h;cases h
  |some a=>rw[e]at h;cases h;exact⟨q,Qbz rfl e⟩
 .cases h
theorem S(e:stB o env=some (d,x))(k:WO P h0 N all l (up env d x) H Q)(hg:Qs all o env true:=by exact rfl)(hN:Nat.blt d N=true:=by exact rfl):WO P h0 N all (o::l) env H Q:=
 QF hg (Qge (P:=P) (H:=H) e).1 hN (Qge e).2 k
theorem Sg(hg:Qs all o env true)(e:stB o env=some (d,x))(k:WO P h0 N all l (up env d x) H Q)(a:Nat.blt d N=true:=by exact rfl):WO P h0 N all (o::l) env H Q:=
 QF hg (Qge (P:=P) (H:=H) e).1 a (Qge e).2 k
theorem K(hg:Qs all o env false)(a:o.dst=some d)(k:WO P h0 N all l (up env d (.tup [])) H Q)(b:Nat.blt d N=true:=by exact rfl):WO P h0 N all (o::l) env H Q:=
 WO.skip hg a b k
def p2B(v:Bool):Bx->Bx->Bx->Option (Bool×A)
 |.mk (.bool b),.mk a,.mk a'=>match v with|true=>some (b,a)|false=>some (b,a')
 |_,_,_=>none
def pr2(d:Nat):Option (Bool×A)->Option (Nat×Bool×A)
 |some a=>some (d,a)
 |none=>none
def pkB(v:Bool)(o:Oper)(env:Env):Option (Nat×Bool×A):=
 match o.dst,o.op with
 |some d,.pick c x y=>pr2 d (p2B v (opB env c) (opB env x) (opB env y))
 |_,_=>none
theorem QoZ{v b:Bool}{p q r:Bx}(h:p2B v p q r=some (b,x)):∃a a',p=.mk (.bool b)/\q=.mk a/\r=.mk a'/\(bif v then a else a')=x:=by
 obtain⟨p⟩:=p;obtain⟨q⟩:=q;obtain⟨r⟩:=r;cases p<;>first|(cases h;done)|skip
 cases v<;>cases h<;>exact⟨_,_,rfl,rfl,rfl,rfl⟩
theorem QlH{v b:Bool}(h:pkB v o env=some (d,b,x))(m:b=v):o.dst=some d/\OpV P o env H x:=by
 unfold pkB at h;split at h
 .rename_i n c y z g l;cases e:p2B v (opB env c) (opB env y) (opB env z)with
  |none=>rw[e]at h;cases h
  |some s=>
   rw[e]at h;cases h;obtain⟨a,p,i,k,j,f⟩:=QoZ e;refine⟨g,OpV.pick l (QC i) ?_⟩;rw[QC k,QC j,m];cases v<;>exact f
 .cases h
theorem Pk{v b:Bool}(a:b=v)(e:pkB v o env=some (d,b,x))(k:WO P h0 N all l (up env d x) H Q)(hg:Qs all o env true:=by exact rfl)(hN:Nat.blt d N=true:=by exact rfl):WO P h0 N all (o::l) env H Q:=
 QF hg (QlH (P:=P) (H:=H) e a).1 hN (QlH e a).2 k
def fpB(o:Oper)(env:Env):Option (Nat×Nat×Nat×Nat×Nat):=
 match o.dst,o.op with
 |some d,.fieldAddr T x f=>match opB env x with
  |.mk (.ptr i p)=>some (d,T,f,i,p)
  |_=>none
 |_,_=>none
theorem Qgt{T f off n i p:Nat}(b:Jk P T f off n)(h:fpB o env=some (d,T,f,i,p)):o.dst=some d/\OpV P o env H (.ptr i (p+off)):=by
 unfold fpB at h;split at h
 .rename_i g e;split at h
  .rename_i a;cases h;exact⟨g,Qcj b e (QC a)⟩
  .cases h
 .cases h
theorem Fp{T f off n i p:Nat}(a:Jk P T f off n)(e:fpB o env=some (d,T,f,i,p))(k:WO P h0 N all l (up env d (.ptr i (p+off))) H Q)(hg:Qs all o env true:=by exact rfl)(hN:Nat.blt d N=true:=by exact rfl):WO P h0 N all (o::l) env H Q:=
 QF hg (Qgt (H:=H) a e).1 hN (Qgt a e).2 k
theorem Fpg{T f off n i p:Nat}(hg:Qs all o env true)(a:Jk P T f off n)(e:fpB o env=some (d,T,f,i,p))(k:WO P h0 N all l (up env d (.ptr i (p+off))) H Q)(b:Nat.blt d N=true:=by exact rfl):WO P h0 N all (o::l) env H Q:=
 QF hg (Qgt (H:=H) a e).1 b (Qgt a e).2 k
inductive Lx where
 |mk (l:List A)
def QhH:Nat->List A->Lx
 |0,l=>.mk l
 |n+1,_::r=>QhH n r
 |_+1,[]=>.mk []
theorem QeU:∀{n:Nat}{l r:List A},QhH n l=.mk r->l.drop n=r
 |0,l,r,h=>by cases h;rfl
 |n+1,a::l,r,h=>by rw[List.drop_succ_cons];exact QeU h
 |n+1,[],r,h=>by cases h;rfl
def ctB:Option Blk->Nat->Option A
 |some (.cells _ cs),off=>YN cs off
 |_,_=>none
def lvB(H:Qc):Bx->Option A
 |.mk (.ptr i off)=>ctB (YN H i) off
 |.mk (.rp (a::_))=>some a
 |_=>none
def pr3(d t:Nat):Option A->Option (Nat×Nat×A)
 |some a=>some (d,t,a)
 |none=>none
def ldB(o:Oper)(env:Env)(H:Qc):Option (Nat×Nat×A):=
 match o.dst,o.op with
 |some d,.load t x=>pr3 d t (lvB H (opB env x))
 |_,_=>none
theorem Qgp{t:Nat}(k:∀w,(isAgg t).run P w=.ok false w)(h:ldB o env H=some (d,t,x)):o.dst=some d/\OpV P o env H x:=by
 unfold ldB at h;split at h
 .rename_i p q y n l;cases e:lvB H (opB env y)with
  |none=>rw[e]at h;cases h
  |some a=>
   rw[e]at h;cases h;refine⟨n,?_⟩;unfold lvB at e;split at e
   .rename_i i b j;unfold ctB at e;split at e
    .rename_i b s T0 T cs q4;rw[Qaz]at e q4;obtain⟨f,m⟩:∃f,cs.drop b=x::f:=by
      have g:=(XS.1 e).1;refine⟨cs.drop (b+1),?_⟩;rw[Xs g,(XS.1 e).2]
     exact OpV.load l k (QC j) (Pts.cells q4 m)
    .cases e
   .rename_i a r j;cases e;exact OpV.load l k (QC j) Pts.rp
   .cases e
 .cases h
theorem Ld{t:Nat}(a:∀w,(isAgg t).run P w=.ok false w)(e:ldB o env H=some (d,t,x))(k:WO P h0 N all l (up env d x) H Q)(hg:Qs all o env true:=by exact rfl)(hN:Nat.blt d N=true:=by exact rfl):WO P h0 N all (o::l) env H Q:=
 QF hg (Qgp a e).1 hN (Qgp a e).2 k
theorem Ldg{t:Nat}(hg:Qs all o env true)(a:∀w,(isAgg t).run P w=.ok false w)(e:ldB o env H=some (d,t,x))(k:WO P h0 N all l (up env d x) H Q)(b:Nat.blt d N=true:=by exact rfl):WO P h0 N all (o::l) env H Q:=
 QF hg (Qgp a e).1 b (Qgp a e).2 k
def ixB(o:Oper)(env:Env):Option (Nat×Nat×Nat×List (List A)×IntKind×Int):=
 match o.dst,o.op with
 |some d,.indexAddr t x y=>match opB env x,opB env y with
  |.mk (.rsl k es),.mk (.int kk i)=>some (d,t,k,es,kk,i)
  |_,_=>none
 |_,_=>none
theorem Ix{α:Type}{e:α->List A}{t et k:Nat}{L:List α}{p:IntKind}{i:Int}{v:α}(h:idx L i=some v)(a:∀w,(underlying t).run P w=.ok (.slice et) w)(b:∀w,(sizeOf et).run P w=.ok k w)
  (q:ixB o env=some (d,t,k,L.map e,p,i))(k:WO P h0 N all l (up env d (.rp (e v))) H Q)(hg:Qs all o env true:=by exact rfl)(hN:Nat.blt d N=true:=by exact rfl):WO P h0 N all (o::l) env H Q:=by
 unfold ixB at q;split at q
 .rename_i f n;split at q
  .rename_i m j;simp only[Option.some.injEq,Prod.mk.injEq]at q;obtain⟨rfl,rfl,rfl,g,rfl,rfl⟩:=q;exact QF hg f hN (YJ h a b n (by rw[QC m,g]) (QC j)) k
  .cases q
 .cases q
def lnB(o:Oper)(env:Env):Option (Nat×Nat×Bx):=
 match o.dst,o.op with
 |some d,.call c=>match c with
  |{callee:=.builtin .len,args:=⟨[x]⟩,argTypes:=⟨[t]⟩}=>some (d,t,opB env x)
  |_=>none
 |_,_=>none
theorem Qo5{t:Nat}{b:Bx}(q:lnB o env=some (d,t,b)):∃x,o.dst=some d/\o.op=.call {callee:=.builtin .len,args:= #[x],argTypes:= #[t]}/\opB env x=b:=by
 unfold lnB at q;split at q
 .rename_i e a;split at q
  .cases q;exact⟨_,e,a,rfl⟩
  .cases q
 .cases q
theorem LnM{α:Type}{e:α->List A}{t et k:Nat}{L:List α}(f:∀w,(underlying t).run P w=.ok (.slice et) w)(q:lnB o env=some (d,t,.mk (.rsl k (L.map e))))
  (k:WO P h0 N all l (up env d (.int .i64 L.length)) H Q)(hg:Qs all o env true:=by exact rfl)(hN:Nat.blt d N=true:=by exact rfl):WO P h0 N all (o::l) env H Q:=by
 obtain⟨x,g,b,a⟩:=Qo5 q;exact QF hg g hN (Yy f b rfl (QC a)) k
end
section
variable {P:Program}{h0 N:Nat}{all:Array Oper}{env env':Env}{H H':Qc}{Q:Qy}{c c':Code}
theorem Nx(h:TC P h0 N c env H Q):WO P h0 N all [] env H (Seq P h0 N c Q):=WO.nil (Qlg h)
theorem Rg{id:Nat}{l:List Oper}(h:WO P h0 N l.toArray l env H (Seq P h0 N c Q)):TC P h0 N (.seq (.region id l.toArray false) c) env H Q:=TC.seq (TC.region h)
theorem SkN(h:TC P h0 N c env H Q):TC P h0 N .skip env H (Seq P h0 N c Q):=TC.skip (Qlg h)
theorem ExX{id:Nat}(h:Q (.exit id) env H):TC P h0 N (.exit id) env H (Seq P h0 N c Q):=TC.exit (seqX h)
theorem Oi{α:Type}{x y:α}(h:some x=some y):x=y:=X7 h
theorem Bd{α β:Type}{x:Option α}{f:α->Option β}{r:β}{G:Prop}(h:x.bind f=some r)(k:∀a,x=some a->f a=some r->G):G:=by
 obtain⟨a,d,b⟩:=Y1 h;exact k a d b
theorem If{α:Type}{c:Bool}{x y:Option α}{r:α}{G:Prop}(h:(bif c then x else y)=some r)(t:c=true->x=some r->G)(e:c=false->y=some r->G):G:=by
 cases c with
 |true=>exact t rfl h
 |false=>exact e rfl h
theorem Cn{α:Type}{x:Operand}{t:Bool}{p q:Option α}{r:α}(hx:opB env x=.mk (.bool t))(h:(bif t then p else q)=some r)(ht:t=true->p=some r->TC P h0 N c env H Q)(hf:t=false->q=some r->TC P h0 N c' env H Q):TC P h0 N (.cond x c c') env H Q:=
 TC.cond (QC hx) (λe=>ht e (ifT e h)) (λe=>hf e (ifF e h))
theorem Yi{α:Type}{x:Operand}{t:Bool}{p q:Option α}{r:α}(hx:opB env x=.mk (.bool t))(h:(bif t then p else q)=some r)(hf:t=false->q=some r->TC P h0 N c' env H Q)(ht:t=true->p=some r->TC P h0 N c env H Q):TC P h0 N (.cond x c c') env H Q:=
 TC.cond (QC hx) (λe=>ht e (ifT e h)) (λe=>hf e (ifF e h))
theorem Lr(π:List Nat)(a:π.take h0=List.range h0:=by exact rfl)(hH:π.map (λp=>H[p]?)=(H'.map (QV (rho π H.length))).map some:=by exact rfl)(hπ:π.Nodup:=by decide)
  (hE:Qfj (rho π H.length) env env':=by(repeat' (first|exact trivial|refine⟨rfl,?_⟩))):Le h0 env H env' H':=Qpq π a hH hπ hE
end
end Go.Sw
namespace Go.Sw
def Ev{α:Type}(f:Nat->Option α)(v:α):Prop:=∃N,∀n,N<=n->f n=some v
section
variable {α β:Type}{f g:Nat->Option α}{v w:α}
theorem Qa(v:α):Ev (λ_=>some v) v:=⟨0,λ_ _=>rfl⟩
theorem Ev.const{o:Option α}(h:o=some v):Ev (λ_=>o) v:=⟨0,λ_ _=>h⟩
theorem Ev.bind{k:Nat->α->Option β}{b:β}(h:Ev f v)(a:Ev (λn=>k n v) b):Ev (λn=>(f n).bind (k n)) b:=by
 obtain⟨N,h⟩:=h;obtain⟨M,a⟩:=a;exact⟨max N M,λn d=>by show(f n).bind (k n)=some b;rw[h n (by omega),XQ];exact a n (by omega)⟩
theorem QaN{o:Option α}{k:Nat->α->Option β}{b:β}(h:o=some v)(hk:Ev (λn=>k n v) b):Ev (λn=>o.bind (k n)) b:=Ev.bind (Ev.const h) hk
theorem Ym{c:Bool}(b:c=true->Ev f v)(a:c=false->Ev g w):Ev (λn=>bif c then f n else g n) (bif c then v else w):=by
 cases c with
 |true=>exact b rfl
 |false=>exact a rfl
theorem QjK(h:Ev f v):Ev (λn=>bif true then f n else g n) v:=h
theorem Q6(h:Ev g v):Ev (λn=>bif false then f n else g n) v:=h
theorem Ev.and{c d:Bool}{h:Nat->Option Bool}(a:c=true->Ev h d):Ev (λn=>bif c then h n else some false) (c&&d):=by
 cases c with
 |true=>exact a rfl
 |false=>exact Qa _
theorem Qi{c d:Bool}{h:Nat->Option Bool}(a:c=false->Ev h d):Ev (λn=>bif c then some true else h n) (c||d):=by
 cases c with
 |true=>exact Qa _
 |false=>exact a rfl
theorem Ev.eq(h:Ev f v)(e:v=w):Ev f w:=e▸h
theorem QcW(h:Ev f v)(e:∀n,g n=f n):Ev g v:=by
 obtain⟨N,h⟩:=h;exact⟨N,λn a=>by rw[e];exact h n a⟩
theorem YX(h:Ev (λn=>f (n+1)) v):Ev f v:=by
 obtain⟨N,h⟩:=h;refine⟨N+1,λn a=>?_⟩;obtain⟨m,rfl⟩:∃m,n=m+1:=⟨n-1,by omega⟩;exact h m (by omega)
theorem Ev.ex(h:Ev f v):∃n,f n=some v:=let⟨N,h⟩:=h;⟨N,h N (X0 _)⟩
theorem Ev.uniq(h:Ev f v)(k:Ev f w):v=w:=by
 obtain⟨N,h⟩:=h;obtain⟨M,k⟩:=k;have a:=h (max N M) (by omega);rw[k (max N M) (by omega)]at a;exact(X7 a).symm
theorem Ev.all{k:Nat}{F:Nat->Nat->Option α}{V:Nat->α}(h:∀i,i<k->Ev (F i) (V i)):∃N,∀n,N<=n->∀i,i<k->F i n=some (V i):=by
 induction k with
 |zero=>exact⟨0,λn _ i a=>absurd a (Xo _)⟩
 |succ k b=>
  obtain⟨N,d⟩:=b λi a=>h i (by omega);obtain⟨M,e⟩:=h k (by omega);refine⟨max N M,λn f i a=>?_⟩;rcases Xq.1 a with q|rfl
  .exact d n (by omega) i q
  .exact e n (by omega)
end
section
variable {S B α:Type}{step:Nat->S->Option (Ctl S B)}
theorem Ev.iter{s0:S}(a:Nat->S)(k:Nat){b:B}(h0:a 0=s0)(e:∀i,i<k->Ev (λn=>step n (a i)) (.cont (a (i+1))))(h:Ev (λn=>step n (a k)) (.done b)):
  Ev (λn=>Go.Sw.iter (step n) n s0) b:=by
 obtain⟨N,f⟩:=Ev.all e;obtain⟨M,g⟩:=h;exact⟨max (max N M) (k+1),λn j=>QlW s0 a b k h0 (λi d=>f n (by omega) i d) (g n (by omega)) n (by omega)⟩
theorem QaE{step:S->Option (Ctl S B)}{s:S}{b:B}(m:Nat)(h:Go.Sw.iter step m s=some b):Ev (λn=>Go.Sw.iter step n s) b:=by
 have mono:∀m s,Go.Sw.iter step m s=some b->∀n,m<=n->Go.Sw.iter step n s=some b:=by
  intro m
  induction m with
  |zero=>intro s h;cases h
  |succ m g=>
   intro s h n d;obtain⟨a,rfl⟩:∃a,n=a+1:=⟨n-1,by omega⟩;simp only[Go.Sw.iter]at h⊢;cases e:step s with
   |none=>rw[e]at h;cases h
   |some c=>
    rw[e]at h;cases c with
    |cont f=>exact g f h a (by omega)
    |done i=>exact h
 exact⟨m,λn d=>mono m s h n d⟩
structure At (l:List α) (i:Nat) (x:α):Prop where
 get:l[i]?=some x
 lt:decide ((i:Int)<(l.length:Int))=true
 ix:idx l (i:Int)=some x
 nx:IntKind.i64.wrap ((i:Int)+1)=((i+1:Nat):Int)
theorem Jl{l:List α}{i:Nat}{x:α}(b:l.length<=4611686018427387904)(h:l[i]?=some x):At l i x:=by
 have a:=(XS.1 h).1;exact⟨h,decide_eq_true (by omega),Qm h,QaB (by omega)⟩
theorem At.mem{l:List α}{i:Nat}{x:α}(h:At l i x):x∈l:=List.mem_of_getElem? h.get
theorem At.lt'{l:List α}{i:Nat}{x:α}(h:At l i x):i<l.length:=(XS.1 h.get).1
theorem At.take{l:List α}{i:Nat}{x:α}(h:At l i x):l.take (i+1)=l.take i++[x]:=by
 rw[List.take_add_one,h.get];rfl
theorem YD(l:List α):decide ((l.length:Int)<(l.length:Int))=false:=decide_eq_false (by omega)
theorem QbN{s0:S}(l:List α)(q:α->Bool)(d:Nat->S)(w b:B)(s:l.length<=4611686018427387904)(h0:d 0=s0)
  (u:∀i x,At l i x->q x=false->Ev (λn=>step n (d i)) (.cont (d (i+1))))
  (f:∀i x,At l i x->q x=true->Ev (λn=>step n (d i)) (.done w))
  (H:Ev (λn=>step n (d l.length)) (.done b)):Ev (λn=>Go.Sw.iter (step n) n s0) (bif l.any q then w else b):=by
 have r:∀k,k<=l.length->(∀i x,l[i]?=some x->i<k->q x=false)\/ ∃i x,l[i]?=some x/\i<k/\q x=true/\ ∀j y,l[j]?=some y->j<i->q y=false:=by
  intro k
  induction k with
  |zero=>intro _;exact .inl λi x _ a=>absurd a (Xo _)
  |succ k F=>
   intro L;rcases F (by omega)with h|⟨i,x,p,J,m⟩
   .have t:l[k]?=some l[k]:=XR (by omega);cases e:q l[k]with
    |true=>exact .inr ⟨k,_,t,Xp _,e,h⟩
    |false=>
     refine .inl λi x f a=>?_;rcases Xq.1 a with z|rfl
     .exact h i x f z
     .rw[t]at f;cases f;exact e
   .exact .inr ⟨i,x,p,by omega,m⟩
 rcases r l.length (X0 _)with h|⟨i,x,p,J,m,E⟩
 .have:l.any q=false:=by
   rw[Bool.eq_false_iff];intro e;obtain⟨x,f,e⟩:=Xx.1 e;obtain⟨i,a,rfl⟩:=List.getElem_of_mem f;rw[h i _ (XR a) a]at e;cases e
  rw[this];exact Ev.iter d l.length h0 (λi a=>u i _ (Jl s (XR a)) (h i _ (XR a) a)) H
 .have:l.any q=true:=Xx.2 ⟨x,List.mem_of_getElem? p,m⟩;rw[this];refine Ev.iter d i h0 (λj G=>?_) (f i x (Jl s p) m);have g:l[j]?=some l[j]:=XR (by omega);exact u j _ (Jl s g) (E j _ g G)
theorem Qbp{β:Type}{s0:S}(l:List α)(g:β->α->β)(b:β)(d:β->Nat->S)(e:β->B)(j:l.length<=4611686018427387904)(h0:d b 0=s0)
  (k:∀i x a,At l i x->a=(l.take i).foldl g b->Ev (λn=>step n (d a i)) (.cont (d (g a x) (i+1))))
  (m:Ev (λn=>step n (d (l.foldl g b) l.length)) (.done (e (l.foldl g b)))):Ev (λn=>Go.Sw.iter (step n) n s0) (e (l.foldl g b)):=by
 refine Ev.iter (λi=>d ((l.take i).foldl g b) i) l.length (by simpa using h0) (λi h=>?_) (by simpa using m);have f:=Jl (x:=l[i]) j (XR h);have:=k i _ _ f rfl;rw[f.take,XJ];exact this
theorem Ev.contains(l:List α)(q:α->Bool)(g:Nat->α->Option Bool)(w:l.length<=4611686018427387904)(hg:∀x∈l,Ev (λn=>g n x) (q x)):
  Ev (λn=>(((Go.Sw.iter (λs:Int=>bif decide (s<(l.length:Int))then(idx l s).bind λx=>(g n x).bind λr=>(bif r then some (Ctl.done (Ctl.done s))else some (Ctl.cont (IntKind.i64.wrap (s+1))))else some (Ctl.done (Ctl.cont ()))) n (0:Int):Option (Ctl Unit Int)).bind λb=>
   match b with
   |.cont _=>some (-1)
   |.done s=>some s):Option Int).bind λr=>some (decide (0<=r))) (l.any q):=by
 cases e:l.any q with
 |false=>
  refine Ev.bind (v:=(-1:Int)) (Ev.bind (v:=Ctl.cont ()) (Ev.iter (λi=>(i:Int)) l.length rfl (λi d=>?_) ?_) (Qa _)) (Qa _)
  .have a:=Jl (x:=l[i]) w (XR d);simp only[a.lt,cond_true,a.ix,XQ];have G:q l[i]=false:=by
    rw[Bool.eq_false_iff];intro h;rw[Xx.2 ⟨_,a.mem,h⟩]at e;cases e
   refine Ev.bind ((hg _ a.mem).eq G) ?_;simp only[cond_false,a.nx];exact Qa _
  .simp only[YD,cond_false];exact Qa _
 |true=>
  obtain⟨x,f,h⟩:=Xx.1 e;have u:∀k,k<=l.length->(∀(i:Nat) (x:α),l[i]?=some x->i<k->q x=false)\/ ∃(i:Nat) (x:α),l[i]?=some x/\i<k/\q x=true/\ ∀(j:Nat) (y:α),l[j]?=some y->j<i->q y=false:=by
   intro k
   induction k with
   |zero=>intro _;exact .inl λi x _ d=>absurd d (Xo _)
   |succ k E=>
    intro J;rcases E (by omega)with h|⟨i,x,t,F,p⟩
    .have hg:l[k]?=some l[k]:=XR (by omega);cases e:q l[k]with
     |true=>exact .inr ⟨k,_,hg,Xp _,e,h⟩
     |false=>
      refine .inl λi x f d=>?_;rcases Xq.1 d with z|rfl
      .exact h i x f z
      .rw[hg]at f;cases f;exact e
    .exact .inr ⟨i,x,t,by omega,p⟩
  rcases u l.length (X0 _)with H|⟨i,x,t,F,p,B⟩
  .obtain⟨j,m,rfl⟩:=List.getElem_of_mem f;rw[H j _ (XR m) m]at h;cases h
  .refine Ev.bind (v:=(i:Int)) (Ev.bind (v:=Ctl.done (i:Int)) (Ev.iter (λi=>(i:Int)) i rfl (λj m=>?_) ?_) (Qa _)) ?_
   .have a:=Jl (x:=l[j]) w (XR (by omega));simp only[a.lt,cond_true,a.ix,XQ];refine Ev.bind ((hg _ a.mem).eq (B j _ a.get m)) ?_;simp only[cond_false,a.nx];exact Qa _
   .have a:=Jl w t;simp only[a.lt,cond_true,a.ix,XQ];refine Ev.bind ((hg _ a.mem).eq p) ?_;exact Qa _
   .rw[decide_eq_true (by omega)];exact Qa _
end
section
variable {S B α:Type}{step:Nat->S->Option (Ctl S B)}
theorem QgP{s0:S}(a:Nat->S)(k:Nat)(R:Nat->B)(h0:a 0=s0)(p:∀i,i<k->(Ev (λn=>step n (a i)) (.cont (a (i+1)))/\R i=R (i+1))\/Ev (λn=>step n (a i)) (.done (R i)))
  (r:Ev (λn=>step n (a k)) (.done (R k))):Ev (λn=>Go.Sw.iter (step n) n s0) (R 0):=by
 have f:∀m,m<=k->(∀i,i<m->Ev (λn=>step n (a i)) (.cont (a (i+1)))/\R i=R (i+1))\/ ∃j,j<m/\(∀i,i<j->Ev (λn=>step n (a i)) (.cont (a (i+1)))/\R i=R (i+1))/\Ev (λn=>step n (a j)) (.done (R j)):=by
  intro m
  induction m with
  |zero=>intro _;exact .inl λi b=>absurd b (Xo _)
  |succ m e=>
   intro s;rcases e (by omega)with h|⟨j,l,d⟩
   .rcases p m (by omega)with q|q
    .refine .inl λi b=>?_;rcases Xq.1 b with z|rfl
     .exact h i z
     .exact q
    .exact .inr ⟨m,Xp _,h,q⟩
   .exact .inr ⟨j,by omega,d⟩
 have same:∀m,(∀i,i<m->R i=R (i+1))->R 0=R m:=by
  intro m
  induction m with
  |zero=>intro _;rfl
  |succ m e=>intro h;exact(e λi b=>h i (by omega)).trans (h m (Xp _))
 rcases f k (X0 _)with h|⟨j,l,d,g⟩
 .rw[same k λi b=>(h i b).2];exact Ev.iter a k h0 (λi b=>(h i b).1) r
 .rw[same j λi b=>(d i b).2];exact Ev.iter a j h0 (λi b=>(d i b).1) g
theorem At.drop{l:List α}{i:Nat}{x:α}(h:At l i x):l.drop i=x::l.drop (i+1):=by
 have:=h.lt';rw[Xs this,(XS.1 h.get).2]
theorem QgO{s0:S}(l:List α)(st:Nat->S)(R:Nat->B)(hl:l.length<=4611686018427387904)(h0:st 0=s0)
  (hc:∀i x,At l i x->(Ev (λn=>step n (st i)) (.cont (st (i+1)))/\R i=R (i+1))\/Ev (λn=>step n (st i)) (.done (R i)))
  (hd:Ev (λn=>step n (st l.length)) (.done (R l.length))):Ev (λn=>Go.Sw.iter (step n) n s0) (R 0):=
 QgP st l.length R h0 (λi hi=>hc i _ (Jl hl (XR hi))) hd
end
section
variable {α β:Type} [DecidableEq α]
theorem YU(p:α×β)(l:List (α×β))(k:α):YI (p::l) k=if p.1=k then some p.2 else YI l k:=by
 unfold YI;by_cases h:p.1=k<;>simp[List.find?_cons,h]
theorem Qj2(p:α×β)(l:List (α×β))(k:α)(v:β):QR (p::l) k v=if p.1=k then(p.1,v)::l.map (λq=>bif decide (q.1=k)then(q.1,v)else q)else p::QR l k v:=by
 unfold QR;by_cases h:p.1=k
 .simp[h]
 .simp only[List.any_cons,h,decide_false,Bool.false_or,if_false,Vr,cond_false];cases l.any λp=>decide (p.1=k)<;>simp
theorem QlR(l:List (α×β))(k a:α)(v:β)(h:a≠k):YI (l.map λq=>bif decide (q.1=k)then(q.1,v)else q) a=YI l a:=by
 induction l with
 |nil=>rfl
 |cons p l b=>
  rw[Vr,YU,YU,b];by_cases e:p.1=k
  .have:¬k=a:=λq=>h q.symm;simp[e,this]
  .simp[e]
theorem QbS(l:List (α×β))(k a:α)(v:β):YI (QR l k v) a=if a=k then some v else YI l a:=by
 induction l with
 |nil=>
  show YI ([]++[(k,v)]) a=_;rw[Vp,YU];by_cases h:a=k
  .subst h;simp
  .rw[if_neg λq=>h q.symm,if_neg h]
 |cons p l b=>
  rw[Qj2];by_cases e:p.1=k
  .rw[if_pos e,YU,YU];by_cases h:a=k
   .subst h;simp[e]
   .have:p.1≠a:=λq=>h (q.symm.trans e);simp only[this,if_false,h];exact QlR l k a v h
  .rw[if_neg e,YU,YU,b];by_cases h:p.1=a
   .rw[if_pos h,if_neg λq=>e (h.trans q),if_pos h]
   .rw[if_neg h,if_neg h]
theorem Qj3(k:α)(z:β):Qx ([]:List (α×β)) k z=z:=rfl
theorem Qcb(l:List (α×β))(k a:α)(v z:β):Qx (QR l k v) a z=if a=k then v else Qx l a z:=by
 unfold Qx;rw[QbS];by_cases h:a=k<;>simp[h]
theorem QbQ(l:List (α×β))(k:α)(v:β):(QR l k v).map (·.1)=if k∈l.map (·.1)then l.map (·.1)else l.map (·.1)++[k]:=by
 unfold QR;have e:(l.any λp=>decide (p.1=k))=decide (k∈l.map (·.1)):=by
  rw[X6];simp only[Xx,decide_eq_true_eq,Xf]
 rw[e];by_cases h:k∈l.map (·.1)
 .rw[decide_eq_true h,if_pos h,cond_true,List.map_map];apply List.map_congr_left;intro p _;simp only[Function.comp];cases decide (p.1=k)<;>rfl
 .rw[decide_eq_false h,if_neg h,cond_false,Xg];rfl
def Yd{γ:Type}(key:γ->α)(v:β)(l:List γ):List (α×β):=l.foldl (λm x=>QR m (key x) v) []
theorem Qgl{γ:Type}(key:γ->α)(v:β)(l:List γ)(x:γ):Yd key v (l++[x])=QR (Yd key v l) (key x) v:=by
 unfold Yd;rw[XJ];rfl
theorem Qdt{γ:Type}(key:γ->α)(v z:β)(l:List γ)(k:α):Qx (Yd key v l) k z=if k∈l.map key then v else z:=by
 have a:∀(l:List γ) (m:List (α×β)),Qx (l.foldl (λm x=>QR m (key x) v) m) k z=if k∈l.map key then v else Qx m k z:=by
  intro l
  induction l with
  |nil=>intro m;simp
  |cons x l b=>
   intro m;rw[XK,b,Qcb];by_cases h:k∈l.map key
   .rw[if_pos h,if_pos (by simp only[Vr];exact Vd _ h)]
   .rw[if_neg h];by_cases e:k=key x
    .rw[if_pos e,if_pos (by simp[e])]
    .rw[if_neg e,if_neg (by simp only[Vr,Ve,not_or];exact⟨e,h⟩)]
 exact a l []
theorem Qb0{γ:Type}(key:γ->α)(v:β)(l:List γ):(Yd key v l).length<=l.length/\((Yd key v l).length=l.length↔(l.map key).Nodup):=by
 have i:∀(l:List γ) (m:List (α×β)),(m.map (·.1)).Nodup->(l.foldl (λm x=>QR m (key x) v) m).length<=m.length+l.length/\((l.foldl (λm x=>QR m (key x) v) m).length=m.length+l.length↔(m.map (·.1)++l.map key).Nodup):=by
  intro l
  induction l with
  |nil=>intro m g;simpa using g
  |cons x l k=>
   intro m g;have f:=QbQ m (key x) v;have d:(QR m (key x) v).length=((QR m (key x) v).map (·.1)).length:=by simp
   by_cases h:key x∈m.map (·.1)
   .rw[if_pos h]at f;obtain⟨p,j⟩:=k (QR m (key x) v) (by rw[f];exact g);have e:(QR m (key x) v).length=m.length:=by rw[d,f];simp
    rw[XK];refine⟨by simp only[X8];omega,⟨λq=>?_,λq=>?_⟩⟩
    .simp only[X8]at q;omega
    .exfalso;have:=(List.nodup_append.1 q).2.2 _ h (key x) (by simp);exact this rfl
   .rw[if_neg h]at f;have s:((QR m (key x) v).map (·.1)).Nodup:=by
     rw[f];refine List.nodup_append.2 ⟨g,by simp,?_⟩;intro a r b n e;simp only[List.mem_singleton]at n;exact h (by rw[<- n, <- e];exact r)
    obtain⟨p,j⟩:=k (QR m (key x) v) s;have e:(QR m (key x) v).length=m.length+1:=by rw[d,f];simp
    rw[XK];refine⟨by simp only[X8];omega,?_⟩;rw[f]at j;rw[show m.length+(x::l).length=(QR m (key x) v).length+l.length by rw[e];simp;omega,j];simp[Vq]
 have:=i l [] (by simp);simpa[Yd]using this
end
theorem Y6{α:Type}(l:List α)(p:α->Bool)(g:Nat->α->Option Bool)(d:l.length<=4611686018427387904)(hg:∀x∈l,Ev (λn=>g n x) (p x)):
  Ev (λn=>((((Go.Sw.iter (λs:Int=>bif decide (s<(l.length:Int))then(idx l s).bind λx=>((g n x).bind λr1=>some (!r1)).bind λr=>(bif r then some (Ctl.done (Ctl.done s))else some (Ctl.cont (IntKind.i64.wrap (s+1))))else some (Ctl.done (Ctl.cont ()))) n (0:Int):Option (Ctl Unit Int)).bind λb=>
   match b with
   |.cont _=>some (-1)
   |.done s=>some s):Option Int).bind λr=>some (decide (0<=r)):Option Bool).bind λr=>some (!r)) (l.all p):=by
 refine Ev.bind (Ev.contains l (λx=> !p x) (λn x=>(g n x).bind λr1=>some (!r1)) d λx a=>Ev.bind (hg x a) (Qa _)) ((Qa _).eq ?_);rw[List.not_any_eq_all_not];simp
theorem Ev.inner{α κ B:Type}[DecidableEq κ]{step:Nat->Int->Option (Ctl Int B)}(l:List α)(i:Nat)(key:α->κ)(k:κ)(q b:B)(s:l.length<=4611686018427387904)(x:i<=l.length)
  (t:∀j y,j<i->At l j y->decide (key y=k)=false->Ev (λn=>step n (j:Int)) (.cont ((j+1:Nat):Int)))
  (w:∀j y,j<i->At l j y->decide (key y=k)=true->Ev (λn=>step n (j:Int)) (.done q))
  (u:Ev (λn=>step n (i:Int)) (.done b)):Ev (λn=>Go.Sw.iter (step n) n 0) (bif ((l.take i).map key).contains k then q else b):=by
 have e:((l.take i).map key).contains k=(l.take i).any λy=>decide (key y=k):=by
  rw[X6];simp only[List.contains_eq_mem,decide_eq_true_eq,Xf,Xx]
 rw[e];have g:(l.take i).length=i:=by simp;omega
 have f:∀j y,At (l.take i) j y->j<i/\At l j y:=by
  intro j y d;have r:=d.lt';have a:=d.get;rw[List.getElem?_take]at a;split at a
  .exact⟨by omega,Jl s a⟩
  .cases a
 refine QbN (l.take i) (λy=>decide (key y=k)) (λi=>(i:Int)) _ _ (by omega) rfl (λj y d p=>?_) (λj y d p=>?_) ?_
 .obtain⟨h,m⟩:=f j y d;exact t j y h m p
 .obtain⟨h,m⟩:=f j y d;exact w j y h m p
 .rw[g];exact u
theorem Qbq{α κ β:Type}[DecidableEq κ]{step:Nat->List (κ×β)×Int->Option (Ctl (List (κ×β)×Int) (List (κ×β)))}(l:List α)(key:α->κ)(v:β)(hl:l.length<=4611686018427387904)
  (hc:∀i x m,At l i x->Ev (λn=>step n (m,(i:Int))) (.cont (QR m (key x) v,((i+1:Nat):Int))))
  (hd:∀m,Ev (λn=>step n (m,(l.length:Int))) (.done m)):Ev (λn=>Go.Sw.iter (step n) n ([],0)) (Yd key v l):=
 Qbp l (λm x=>QR m (key x) v) [] (λm i=>(m,(i:Int))) (λm=>m) hl rfl (λi x m ha _=>hc i x m ha) (hd _)
theorem Ev.shift{α:Type}{f:Nat->Option α}{v:α}(h:Ev f v):Ev (λn=>f (n+1)) v:=by
 obtain⟨N,h⟩:=h;exact⟨N,λn a=>h (n+1) (by omega)⟩
def EvI{S B:Type}(step:Nat->S->Option (Ctl S B))(s:S)(b:B):Prop:=∃N,∀n k,N<=n->N<=k->Go.Sw.iter (step n) k s=some b
section
variable {S B:Type}{step:Nat->S->Option (Ctl S B)}{s s':S}{b:B}
theorem EvI.done(h:Ev (λn=>step n s) (.done b)):EvI step s b:=by
 obtain⟨N,h⟩:=h;refine⟨N+1,λn k e d=>?_⟩;obtain⟨a,rfl⟩:∃a,k=a+1:=⟨k-1,by omega⟩;have:=h n (by omega);simp only[Go.Sw.iter,this]
theorem EvI.cont(h:Ev (λn=>step n s) (.cont s'))(q:EvI step s' b):EvI step s b:=by
 obtain⟨N,h⟩:=h;obtain⟨M,q⟩:=q;refine⟨max N M+1,λn k e d=>?_⟩;obtain⟨a,rfl⟩:∃a,k=a+1:=⟨k-1,by omega⟩;have:=h n (by omega);simp only[Go.Sw.iter,this];exact q n a (by omega) (by omega)
theorem EvI.ev(h:EvI step s b):Ev (λn=>Go.Sw.iter (step n) n s) b:=by
 obtain⟨N,h⟩:=h;exact⟨N,λn a=>h n n a a⟩
theorem EvI.eq{b':B}(h:EvI step s b)(e:b=b'):EvI step s b':=e▸h
end
theorem QT{α:Type}{l r:List α}{i:Nat}{x:α}(a:l.length<=4611686018427387904)(h:l.drop i=x::r):At l i x/\l.drop (i+1)=r:=by
 have b:l[i]?=some x:=by
  have:=congrArg (λl=>l[0]?) h;simpa using this
 refine⟨Jl a b,?_⟩;have:=(Jl a b).drop;rw[h]at this;exact(List.cons.inj this).2.symm
theorem YK{α:Type}{l:List α}{i:Nat}(h:l.drop i=[])(a:i<=l.length):decide ((i:Int)<(l.length:Int))=false:=by
 have:=Xu.1 h;exact decide_eq_false (by omega)
end Go.Sw
namespace Go.Sw
theorem Z.{u}{α:Sort u}{a:α}:a=a:=rfl
section
variable {P:Program}{h0 N:Nat}{all:Array Oper}{env:Env}{H H':Qc}{Q:Qy}{l:List Oper}{o:Oper}{d:Nat}
theorem aV(x:A)(H:Qc){x':A}{H':Qc}(a:x'=x)(b:H'=H)(k:WO P h0 N all l (up env d x) H Q):WO P h0 N all l (up env d x') H' Q:=by subst a;subst b;exact k
theorem vX(x:A)(a:OpV P o env H x)(k:WO P h0 N all l (up env d x) H Q)(hg:Qs all o env true:=by exact rfl)(hd:o.dst=some d:=by exact rfl)(hN:Nat.blt d N=true:=by exact rfl):WO P h0 N all (o::l) env H Q:=
 QF hg hd hN a k
theorem Wp:WO P h0 N all [] env H (YZ env H):=WO.nil YZ.mk
end
end Go.Sw
namespace Go.Sw
section
variable {P:Program}{o:Oper}{env:Env}{H:Qc}
theorem Qod{ro:Nat->Prop}{σ:Sig}{w:World}(g:GP w){b:Nat}{zs:List Int}(h:Qil[b]?=some zs):∀(i:Nat),CR ro σ w b ((zs.drop i).map (A.int .i64)) i:=by
 intro i;generalize hl:zs.drop i=l
 induction l generalizing i with
 |nil=>trivial
 |cons z l e=>
  have d:zs[i]?=some z:=by
   have:=congrArg (·[0]?) hl;simpa using this
  have a:zs.drop (i+1)=l:=by
   rw[<- List.drop_drop,hl];rfl
  exact⟨⟨_,g.tab b zs h i z d,by simp[Qv],rfl⟩,e (i+1) a⟩
theorem Qf5{t n g:Nat}{zs:List Int}(j:∀w,(isAgg t).run P w=.ok true w)(f:∀w,(sizeOf t).run P w=.ok n w)(hg:Qil[g]?=some zs)(e:zs.length=n)(h:o.op=.load t (.global g):=by exact rfl):
  OpV P o env H (.agg (zs.map (A.int .i64))):=by
 intro m ro σ N a w r;obtain⟨l,i,_,d⟩:=Yv (P:=P) (b:=g) (cs:=zs.map (A.int .i64)) (off:=0) 0 (by simpa using Qod (ro:=ro) (σ:=σ) r.sim.roOk.gp hg 0);have d:=d w #[] rfl;rw[X9,e]at d;refine⟨.agg l.toArray,?_,l,rfl,i⟩;have k:a.eval (.global g)=.pointer (some ⟨g,0,none⟩):=rfl;generalize a.eval=ρ at*;simp[execOp,h,k,Instr.loadAt,Instr.sureAddr,loadVar,j,f,loadCells,d,go_sem]
end
end Go.Sw
namespace Go.Sw
open Go.Proofs
section
variable {P:Program}
def toV(agg:Bool)(l:List Value):Value:=bif agg then .agg l.toArray else l.headD .nilFunc
structure QkX (P:Program) (t:TypeId) (h k:Nat) (agg:Bool) (ok:List Value->Prop):Prop where
 len:∀l,ok l->l.length=k
 ia:∀w,(isAgg t).run P w=.ok agg w
 so:∀w,(sizeOf t).run P w=.ok k w
 eq:∀(w:World) (d:Nat) (l m:List Value),ok l->ok m->∃b:Bool,(Op.equalIn (d+h) t (toV agg l) (toV agg m)).run P w=.ok b w/\(b=true↔l=m)
structure Qm7 (P:Program) (fs:List Field) (h off k:Nat) (ok:List Value->Prop):Prop where
 len:∀l,ok l->l.length=k
 eq:∀(w:World) (d:Nat) (p q l m:List Value),p.length=off->q.length=off->ok l->ok m->∃b:Bool,(Op.eqFields (d+h) (p++l).toArray (q++m).toArray fs).run P w=.ok b w/\(b=true↔l=m)
theorem QkX.int{t:TypeId}{k:IntKind}(e:P.underlying t=some (.int k))(b:∀w,(isAgg t).run P w=.ok false w)(a:∀w,(sizeOf t).run P w=.ok 1 w)(h:Nat):QkX P t (h+1) 1 false (λl=>∃n:Int,l=[.int k n]):=by
 refine⟨?_,b,a,?_⟩
 .rintro _ ⟨n,rfl⟩;rfl
 .rintro w d _ _ ⟨n,rfl⟩ ⟨m,rfl⟩;exact⟨_,run_equalIn_int w (d+h) t k k n m e,by simp⟩
theorem QkX.bool{t:TypeId}(e:P.underlying t=some .bool)(b:∀w,(isAgg t).run P w=.ok false w)(a:∀w,(sizeOf t).run P w=.ok 1 w)(h:Nat):QkX P t (h+1) 1 false (λl=>∃n:Bool,l=[.bool n]):=by
 refine⟨?_,b,a,?_⟩
 .rintro _ ⟨n,rfl⟩;rfl
 .rintro w d _ _ ⟨n,rfl⟩ ⟨m,rfl⟩;exact⟨_,run_equalIn_bool' w (d+h) t n m e,by simp⟩
theorem Qm7.nil(h off:Nat):Qm7 P [] h off 0 (λl=>l=[]):=by
 refine⟨?_,?_⟩
 .rintro _ rfl;rfl
 .rintro w d p q _ _ _ _ rfl rfl;exact⟨true,by simp[Op.eqFields],by simp⟩
theorem Qg7{t:TypeId}{k:Nat}{agg:Bool}{w:World}(b:∀w,(isAgg t).run P w=.ok agg w)(g:∀w,(sizeOf t).run P w=.ok k w)(p a e:List Value)(d:a.length=k)(f:agg=false->k=1):
  (part t (p++(a++e)).toArray p.length).run P w=.ok (toV agg a) w:=by
 unfold part;cases agg with
 |true=>
  simp[b,g,go_sem,toV];rw[<- d];simp[List.extract]
 |false=>
  have:=f rfl;subst this
  match a,d with
  |[v],_=>simp[b,go_sem,toV]
theorem Qm7.cons{f:Field}{fs:List Field}{h off r G:Nat}{agg:Bool}{i k:List Value->Prop}(O:Nat.beq f.offset off=true)(L:f.name≠"_")(g:QkX P f.type h r agg i)(H:agg=false->r=1)(y:Qm7 P fs h (off+r) G k):
  Qm7 P (f::fs) h off (r+G) (λl=>∃l1 l2,l=l1++l2/\i l1/\k l2):=by
 have t:f.offset=off:=XX O;refine⟨?_,?_⟩
 .rintro _ ⟨l1,l2,rfl,a,b⟩;rw[Va,g.len _ a,y.len _ b]
 .rintro w d p q _ _ x z ⟨l1,l2,rfl,m,V⟩ ⟨j,s,rfl,n,J⟩;have B:=Qg7 (P:=P) (w:=w) g.ia g.so p l1 l2 (g.len _ m) H;have E:=Qg7 (P:=P) (w:=w) g.ia g.so q j s (g.len _ n) H;rw[x]at B;rw[z]at E;obtain⟨u,R,Q⟩:=g.eq w d l1 j m n;obtain⟨T,F,M⟩:=y.eq w d (p++l1) (q++j) l2 s (by rw[Va,x,g.len _ m]) (by rw[Va,z,g.len _ n]) V J;rw[Vq,Vq]at F;have N:l1.length=j.length:=by rw[g.len _ m,g.len _ n]
  refine⟨u&&T,?_,?_⟩
  .generalize(p++(l1++l2)).toArray=X at*;generalize(q++(j++s)).toArray=Y at*;cases u<;>simp[Op.eqFields,L,t,Vu,Result.andThen,B,E,R,F]
  .rw[X4,Q,M];constructor
   .rintro⟨rfl,rfl⟩;rfl
   .intro e;exact List.append_inj e N
theorem QkX.struct{t:TypeId}{h k:Nat}{ok:List Value->Prop}(j:P.underlying t=some (.struct (P.fieldsOf t)))(i:P.stoodInHeld t=false)(f:∀w,(isAgg t).run P w=.ok true w)(p:∀w,(sizeOf t).run P w=.ok k w)(e:Qm7 P (P.fieldsOf t).toList h 0 k ok):QkX P t (h+1) k true ok:=by
 refine⟨e.len,f,p,λw d l m a b=>?_⟩;obtain⟨r,g,n⟩:=e.eq w d [] [] l m rfl rfl a b;refine⟨r,?_,n⟩;show(Op.equalIn (d+h+1) t (.agg l.toArray) (.agg m.toArray)).run P w=_;rw[run_equalIn_agg w (d+h) t _ _ j i];simpa using g
theorem QcX{t:TypeId}{h k:Nat}{fs:Array Field}{ok:List Value->Prop}(a:P.underlying t=some (.struct fs))(f:P.stoodInHeld t=false)(d:∀w,(isAgg t).run P w=.ok true w)(g:∀w,(sizeOf t).run P w=.ok k w)(b:Qm7 P fs.toList h 0 k ok):QkX P t (h+1) k true ok:=by
 have e:P.fieldsOf t=fs:=by simp[Program.fieldsOf,a]
 exact QkX.struct (by rw[e];exact a) f d g (by rw[e];exact b)
structure EqD (P:Program) (t:TypeId) {α:Type} (cells:α->List A):Prop where
 scl:∀x,Qea (cells x)=true
 inj:∀x y,YT (cells x)=YT (cells y)->x=y
 guard:P.eqGuardType P.depth t=false
 eq:∀(w:World) x y,∃b:Bool,(Op.equalIn 10000 t (.agg (YT (cells x)).toArray) (.agg (YT (cells y)).toArray)).run P w=.ok b w/\(b=true↔YT (cells x)=YT (cells y))
theorem QjL{α:Type}{cells:α->List A}{t h k:Nat}{ok:List Value->Prop}(E:QkX P t h k true ok)(e:Nat.ble h 10000=true)(a:∀x,ok (YT (cells x)))(d:∀x,Qea (cells x)=true)(b:∀x y,YT (cells x)=YT (cells y)->x=y)(hg:P.eqGuardType P.depth t=false):EqD P t cells:=by
 refine⟨d,b,hg,λw x y=>?_⟩;have:=E.eq w (10000-h) (YT (cells x)) (YT (cells y)) (a x) (a y)
 rwa [show 10000-h+h=10000 by have:=XY e;omega]at this
variable {o:Oper}{env:Env}{H:Qc}
theorem Qf7{α:Type}[DecidableEq α]{cells:α->List A}{t u:TypeId}{x y:Operand}{p q:α}(E:EqD P t cells)(n:opA env x=.agg (cells p))(k:opA env y=.agg (cells q))(j:o.op=.binOp .eql t x y u:=by exact rfl):OpV P o env H (.bool (p==q)):=by
 intro F B σ N a w r;have g:=Qg r x;have h:=Qg r y;rw[n]at g;rw[k]at h;have l:=VR.val (a:=.agg (cells p)) (E.scl p) g;have s:=VR.val (a:=.agg (cells q)) (E.scl q) h;obtain⟨b,m,i⟩:=E.eq w p q;have z:b=(p==q):=by
  rw[X6,i,beq_iff_eq];exact⟨E.inj p q,λe=>by rw[e]⟩
 refine⟨.bool (p==q),?_,rfl⟩;rw[<- z];generalize a.eval=ρ at*;have d:ρ x=.agg (YT (cells p)).toArray:=l;have f:ρ y=.agg (YT (cells q)).toArray:=s;simp[execOp,j,d,f,go_sem,run_eqGuard_agg _ _ _ _ _ _ _ E.guard,run_eql_struct,m]
theorem QkO{α:Type}[DecidableEq α]{cells:α->List A}{t u:TypeId}{x y:Operand}{p q:α}(E:EqD P t cells)(n:opA env x=.agg (cells p))(k:opA env y=.agg (cells q))(j:o.op=.binOp .neq t x y u:=by exact rfl):OpV P o env H (.bool (p != q)):=by
 intro F B σ N a w r;have g:=Qg r x;have h:=Qg r y;rw[n]at g;rw[k]at h;have l:=VR.val (a:=.agg (cells p)) (E.scl p) g;have s:=VR.val (a:=.agg (cells q)) (E.scl q) h;obtain⟨b,m,i⟩:=E.eq w p q;have z:b=(p==q):=by
  rw[X6,i,beq_iff_eq];exact⟨E.inj p q,λe=>by rw[e]⟩
 refine⟨.bool (p != q),?_,rfl⟩;rw[bne, <- z];generalize a.eval=ρ at*;have d:ρ x=.agg (YT (cells p)).toArray:=l;have f:ρ y=.agg (YT (cells q)).toArray:=s;simp[execOp,j,d,f,go_sem,run_eqGuard_agg _ _ _ _ _ _ _ E.guard,run_neq_struct,m]
end
end Go.Sw
namespace Go.Sw
structure Qe5 (g g':Nat->Prop) (W W':World):Prop where
 sub:∀b,g b->g' b
 new:∀b,g' b->g b\/W.heap.size<=b
 lt:∀b,g' b->b<W'.heap.size
 all:∀b,W.heap.size<=b->b<W'.heap.size->g' b
 keep:∀b,b<W.heap.size->¬g b->W'.heap[b]?=W.heap[b]?
 size:W.heap.size<=W'.heap.size
 shape:∀b x,W.shape? b=some x->W'.shape? b=some x
 os:W'.os=W.os
 tape:W'.tape=W.tape
 output:W'.output=W.output
 drawn:W.drawn<=W'.drawn
abbrev Jv(T:Type):=List T->(Nat->Prop)->(Nat->Prop)->World->Prop
structure Qoy {T:Type} (J:Jv T):Prop where
 ev:∀rem q g W W' ro',J rem q g W->Qf g q W ro' W'->J rem q g W'
 up:∀rem q g g' W,J rem q g W->(∀b,g b->g' b)->(∀b,g' b->b<W.heap.size)->J rem q g' W
theorem Sim.round{fr g g' ro:Nat->Prop}{σ:Sig}{H:Qc}{W W':World}(s:Sim fr ro σ H W)(a:∀b,g b->fr b)(k:Qe5 g g' W W'):Sim (λb=>fr b\/g' b) ro σ H W'/\Qf (λb=>b<W.heap.size/\ ¬g b) ro W ro W':=by
 have e:∀b,ro b->W'.heap[b]?=W.heap[b]? :=λb q=>k.keep b (s.roLt b q) (λr=>s.roFr b q (a b r));have m:Ext ro σ W ro σ W':=by
  have ev:Qf (λ_=>False) ro W ro W':=⟨λ_ q=>q,e,λ_ q=>q.elim,k.size,k.shape,k.os,k.tape,k.output,k.drawn⟩;have:=ev.ext σ [];simpa using this
 refine⟨⟨s.len,s.roOk.to (λ_ q=>q) e (λb q=>Vn (s.roLt b q) k.size),λb q=>q.elim (λq=>Vn (s.frLt b q) k.size) (k.lt b),λb q r=>?_,λi b x f h B=>?_,s.inj,λi y x f h=>?_,
  s.hidTo (· = ·) Q0 k.size (λ_ _ _ _ _ _ _ q=>q) (λi b x c f h B F=>F.elim id λq=>(k.new c q).elim (a c) λl=>(by have:=(s.hid i b x c f h B).lt;omega)) λj d y t n G=>.inl ⟨j,y,rfl,t,n,id,λc q=>s.hidKeep t n (λz=>k.keep d (s.own j d y t n z).1 λr=>(s.own j d y t n z).2.2 (a d r)) e q⟩⟩,
  ⟨λ_ q=>q,e,λb q=>k.keep b q.1 q.2,k.size,k.shape,k.os,k.tape,k.output,k.drawn⟩⟩
 .rcases r with r|r
  .exact s.roFr b q r
  .rcases k.new b r with l|l
   .exact s.roFr b q (a b l)
   .have:=s.roLt b q;omega
 .obtain⟨w,E,p⟩:=s.own i b x f h B;refine⟨Vn w k.size,E,λr=>?_⟩;rcases r with r|r
  .exact p r
  .rcases k.new b r with l|l
   .exact p (a b l)
   .omega
 .refine(s.blk i y x f h).keep m ?_ ?_
  .rintro b rfl u;obtain⟨w,E,p⟩:=s.own i b x f h u;exact k.keep b w (λr=>p (a b r))
  .rintro b c rfl u;have q:=s.hid i b x c f h u;exact k.keep c q.lt (λr=>q.fr (a c r))
def Qpp{T:Type}(J Jx:Jv T)(g ri:Nat->Prop)(W1:World)(rem:List T):Ending->World->Prop:=λe W'=>
 ∃g' q',(∀b,q' b->ri b)/\Qe5 g g' W1 W'/\((e=.returned (.bool true)/\J rem q' g' W')\/(e=.returned (.bool false)/\Jx rem q' g' W'))
structure Ctx (T:Type) where
 l:Nat
 J:Jv T
 Jx:Jv T
 enc:T->List A
 nx:List T->T->List T->Prop
structure Ctx.ok {T:Type} (X:Ctx T) (P:Program):Prop where
 b:Qoy X.J
 bx:Qoy X.Jx
 round:∀l x rem q g ri W1 vs,X.nx l x rem->X.J l q g W1->(∀b,q b->ri b)->(∀b,ri b->b<W1.heap.size/\ ¬g b)->LR ri [] W1 (X.enc x) vs->YieldAt Fence.wide 0 P X.l vs.toArray W1 (Qpp X.J X.Jx g ri W1 rem)
def QdI{T:Type}(P:Program)(f:FuncId)(caps:List A)(H:Qc)(enc:T->List A)(nx:List T->T->List T->Prop)(xs:List T):Prop:=
 ∀(X:Ctx T),X.enc=enc->X.nx=nx->X.ok P->∀fr ro σ w capv q,Sim fr ro σ H w->(∀b,q b->ro b)->LR ro σ w caps capv->X.J xs q fr w->
  Calls P f ((Value.func (.yield X.l) #[] #[]::capv)).toArray w λe W'=>(∃v,e=.returned v)/\ ∃g q',(∀b,fr b->g b)/\((X.J [] q' g W')\/(∃rem,X.Jx rem q' g W'))
inductive YSt (T:Type) where
 |on (rem:List T)
 |off (rem:List T)
def Ctx.J'{T:Type}(X:Ctx T):YSt T->(Nat->Prop)->(Nat->Prop)->World->Prop
 |.on rem=>X.J rem
 |.off rem=>X.Jx rem
def Ctx.at{T:Type}(X:Ctx T)(st:YSt T)(g ro:Nat->Prop)(W:World):Prop:=∃q,(∀b,q b->ro b)/\X.J' st q g W
theorem Qf.roMono{fr ro ro0 ro':Nat->Prop}{w w':World}(h:Qf fr ro w ro' w')(s:∀b,ro0 b->ro b):Qf fr ro0 w ro' w':=
 ⟨λb q=>h.sub b (s b q),λb q=>h.keepRo b (s b q),h.keepFr,h.size,h.shape,h.os,h.tape,h.output,h.drawn⟩
theorem Ctx.ok.ev{T:Type}{X:Ctx T}{P:Program}(h:X.ok P){d:YSt T}{g ro ro':Nat->Prop}{W W':World}(a:X.at d g ro W)(he:Qf g ro W ro' W'):X.at d g ro' W':=by
 obtain⟨q,e,a⟩:=a;refine⟨q,λb z=>he.sub b (e b z),?_⟩;cases d with
 |on rem=>exact h.b.ev rem q g W W' ro' a (he.roMono e)
 |off rem=>exact h.bx.ev rem q g W W' ro' a (he.roMono e)
theorem Ctx.ok.up{T:Type}{X:Ctx T}{P:Program}(h:X.ok P){d:YSt T}{g g' ro:Nat->Prop}{W:World}(a:X.at d g ro W)(hg:∀b,g b->g' b)(e:∀b,g' b->b<W.heap.size):X.at d g' ro W:=by
 obtain⟨q,f,a⟩:=a;refine⟨q,f,?_⟩;cases d with
 |on rem=>exact h.b.up rem q g g' W a hg e
 |off rem=>exact h.bx.up rem q g g' W a hg e
abbrev Ys(T:Type):=AEx->Env->Qc->YSt T->Prop
structure In (g fr:Nat->Prop) (ds:List Deferred):Prop where
 sub:∀b,g b->fr b
 beside:∀D,({target:=.collected D,args:= #[]}:Deferred)∈ds->¬g D
def QcQ{T:Type}(X:Ctx T)(h0:Nat)(fr ro:Nat->Prop)(σ:Sig)(w:World)(N:Nat)(ds:List Deferred)(Q:Ys T):Exit->Act->World->Prop:=
 λe a' w'=>∃x env' H' st ro' σ' fr' g',ExR e x/\Q x env' H' st/\Rel fr' ro' σ' H' env' N a' w'/\(X.at st g' ro' w'/\In g' fr' a'.defers)/\(∀b,ro b->ro' b)/\w.heap.size<=w'.heap.size/\σ'.take h0=σ.take h0/\Grow fr w ds fr' a'.defers
theorem QcQ.grow{T:Type}{X:Ctx T}{h0:Nat}{fr g ro d:Nat->Prop}{σ σ1:Sig}{w l:World}{N:Nat}{k f:List Deferred}{Q:Ys T}{e:Exit}{a':Act}{w':World}
  (h:QcQ X h0 g d σ1 l N f Q e a' w')(G:∀b,ro b->d b)(m:w.heap.size<=l.heap.size)(t:σ1.take h0=σ.take h0)(hg:Grow fr w k g f):QcQ X h0 fr ro σ w N k Q e a' w':=by
 obtain⟨x,a,H',n,i,σ',j,u,s,E,r,p,B,y,z,F⟩:=h;exact⟨x,a,H',n,i,σ',j,u,s,E,r,p,λb q=>B b (G b q),X3 m y,z.trans t,hg.trans m F⟩
def TCy{T:Type}(X:Ctx T)(P:Program)(h0 N:Nat)(c:Code)(env:Env)(H:Qc)(st:YSt T)(Q:Ys T):Prop:=
 X.ok P->∀rd fr ro σ a w g,Rel fr ro σ H env N a w->X.at st g ro w/\In g fr a.defers->rd=none->c.wpIn (WF rd) 0 P (QcQ X h0 fr ro σ w N a.defers Q) a w
def WOy{T:Type}(X:Ctx T)(P:Program)(h0 N:Nat)(all:Array Oper)(l:List Oper)(env:Env)(H:Qc)(st:YSt T)(Q:Ys T):Prop:=
 X.ok P->∀rd fr ro σ a w g,Rel fr ro σ H env N a w->X.at st g ro w/\In g fr a.defers->rd=none->wpL P rd all (QcQ X h0 fr ro σ w N a.defers Q) l a w
theorem In.later{fr a g:Nat->Prop}{w:World}{ds d:List Deferred}(h:In g fr ds)(f:∀b,fr b->b<w.heap.size)(hg:Grow fr w ds a d):In g a d:=by
 refine⟨λb q=>hg.sub b (h.sub b q),λD hD q=>?_⟩;rcases hg.ds _ hD with r|⟨D',e,r⟩
 .exact h.beside D r q
 .have:D=D':=by simpa using e
  subst this;have:=f D (h.sub D q);omega
section
variable {T:Type}{X:Ctx T}{P:Program}{h0 N:Nat}{c c':Code}{env:Env}{H:Qc}{st:YSt T}{Q:Ys T}
theorem QkH{fr ro:Nat->Prop}{σ:Sig}{w:World}{j:List Deferred}{e:Exit}{a':Act}{w':World}(s:X.ok P)(h:Qbb h0 fr ro σ w N j (λx env H=>Q x env H st) e a' w'){g:Nat->Prop}(p:∀b,fr b->b<w.heap.size)(i:X.at st g ro w/\In g fr j):
  QcQ X h0 fr ro σ w N j Q e a' w':=by
 obtain⟨x,a,H',f,σ',k,n,r,m,d,q,l⟩:=h;exact⟨x,a,H',st,f,σ',k,g,n,r,m,⟨s.ev i.1 (d.frMono i.2.sub),i.2.later p l⟩,d.sub,d.size,q,l⟩
theorem TCy.lift(h:TC P h0 N c env H (λx env H=>Q x env H st)):TCy X P h0 N c env H st Q:=
 λhX rd fr ro σ a w g r hj hrd=>Code.wpIn_mono (λe a' w' q=>QkH hX q r.sim.frLt hj) (h rd fr ro σ a w r (hrd▸QbV))
def SeqY(X:Ctx T)(P:Program)(h0 N:Nat)(c:Code)(Q:Ys T):Ys T
 |.normal,env,H,st=>TCy X P h0 N c env H st Q
 |.exit id,env,H,st=>Q (.exit id) env H st
 |.ret,env,H,st=>Q .ret env H st
theorem TCy.seq(h:TCy X P h0 N c env H st (SeqY X P h0 N c' Q)):TCy X P h0 N (.seq c c') env H st Q:=by
 intro y z E F σ a w g r hj hrd;refine wpIn_seq (Code.wpIn_mono ?_ (h y z E F σ a w g r hj hrd));rintro e G B ⟨x,b,H',i,f,σ',d,u,j,s,l,k,p,m,n,t⟩;cases e with
 |normal=>
  obtain rfl:x=.normal:=j;exact Code.wpIn_mono (λe a w q=>q.grow p m n t) (s y z d f σ' G B u l k hrd)
 |exit id=>
  obtain rfl:x=.exit id:=j;exact⟨_,b,H',i,f,σ',d,u,rfl,s,l,k,p,m,n,t⟩
 |ret=>
  obtain rfl:x=.ret:=j;exact⟨_,b,H',i,f,σ',d,u,rfl,s,l,k,p,m,n,t⟩
 |_=>exact j.elim
theorem TCy.region{id:Nat}{l:List Oper}(h:WOy X P h0 N l.toArray l env H st Q):TCy X P h0 N (.region id l.toArray false) env H st Q:=
 λhX rd fr ro σ a w g r hj hrd=>wpIn_region_lit (h hX rd fr ro σ a w g r hj hrd)
theorem TCy.cond{x:Operand}{t:Bool}(l:opA env x=.bool t)(k:t=true->TCy X P h0 N c env H st Q)(j:t=false->TCy X P h0 N c' env H st Q):TCy X P h0 N (.cond x c c') env H st Q:=by
 intro h i f b σ a w g r hj hrd;have d:=Qg r x;rw[l]at d;exact wpIn_cond_split d (λe=>k e h i f b σ a w g r hj hrd) (λe=>j e h i f b σ a w g r hj hrd)
theorem WOy.nil{all:Array Oper}(h:Q .normal env H st):WOy X P h0 N all [] env H st Q:=
 λhX rd fr ro σ a w g r hj hrd=>⟨_,env,H,st,ro,σ,fr,g,rfl,h,r,hj,λ_ q=>q,X0 _,rfl,Grow.refl _ _ _⟩
end
theorem Qh8{P:Program}{rd:Option Nat}{o:Oper}{a:Act}{K K':Act->World->Prop}{Q Q':Exit->Act->World->Prop}(b:∀a w,K a w->K' a w)(i:∀ch a w,Q (.panic ch) a w->Q' (.panic ch) a w)(j:∀a w,Q .outgrown a w->Q' .outgrown a w)
  {r:Result Next}(h:o.uponIn (WF rd) 0 P a K Q r):o.uponIn (WF rd) 0 P a K' Q' r:=by
 cases r with
 |ok x w=>
  cases x with
  |value v=>exact b _ _ h
  |skip=>exact b _ _ h
  |defer d=>exact b _ _ h
  |enter f g=>
   refine⟨h.1,CallsIn.mono h.2 ?_⟩;intro e m q;cases e with
   |returned v=>exact b _ _ q
   |panicked c=>exact i _ _ _ q
   |outgrown=>obtain⟨a,w,q⟩:=q;exact⟨a,w,j _ _ q⟩
  |row r g=>exact⟨h.1,RowsIn.mono h.2 λv m q=>b _ _ q⟩
  |round l f k assign n=>
   refine⟨h.1,RoundIn.mono h.2 ?_⟩;intro e m q;cases e with
   |returned v=>exact b _ _ q
   |panicked c=>exact i _ _ _ q
   |outgrown=>obtain⟨a,w,q⟩:=q;exact⟨a,w,j _ _ q⟩
  |_=>exact h
 |halt x w=>
  cases x with
  |panic v=>exact i _ _ _ h
  |_=>exact h
section
variable {T:Type}{X:Ctx T}{P:Program}{h0 N:Nat}{env:Env}{H:Qc}{st:YSt T}{Q:Ys T}
theorem WOy.step{all:Array Oper}{o:Oper}{rest:List Oper}(h:WO P h0 N all [o] env H (λx env' H'=>x=.normal/\WOy X P h0 N all rest env' H' st Q)):WOy X P h0 N all (o::rest) env H st Q:=by
 intro B u p s σ a w g r hj hrd;have E:∀j d,QbM h0 p s σ w N a.defers (λx env' H'=>x=.normal/\WOy X P h0 N all rest env' H' st Q) .normal j d->wpL P u all (QcQ X h0 p s σ w N a.defers Q) rest j d:=by
  rintro j d ⟨x,env',H',i,σ',f,M,⟨_,J⟩,F,m,G,y,z⟩;have t:X.at st g i d/\In g f j.defers:=⟨B.ev hj.1 (m.frMono hj.2.sub),by rw[y];exact hj.2.later r.sim.frLt z⟩;have:=J B u f i σ' j d g F t hrd;refine Yo (λe l k q=>?_) _ _ _ this;exact q.grow m.sub m.size G (by rw[y];exact z)
 have b:=h u p s σ a w r (hrd▸QbV);unfold wpL wpListIn at b⊢;split
 .rename_i n;rw[if_pos n]at b;refine⟨b.1,Qh8 (λl k q=>?_) (λL l k q=>?_) (λl k q=>?_) b.2⟩
  .unfold wpListIn at q;exact E l k q
  .obtain⟨x,_,_,_,_,_,q,_⟩:=q;exact q.elim
  .obtain⟨x,_,_,_,_,_,q,_⟩:=q;exact q.elim
 .rename_i n;rw[if_neg n]at b;refine⟨b.1,?_⟩;have q:=b.2;unfold wpListIn at q;exact E _ _ q
theorem WOy.yield{all:Array Oper}{o:Oper}{rest:List Oper}{d:Nat}{x:T}{L rem:List T}(M:X.nx L x rem)(hg:Qs all o env true)(E:o.dst=some d)(hN:Nat.blt d N=true)
  (G:∀fr ro σ a w,Rel fr ro σ H env N a w->∃vs:List Value,LR ro [] w (X.enc x) vs/\(execOp a.eval o).run P w=(Instr.yield X.l vs.toArray).run P w)
  (k:∀b:Bool,WOy X P h0 N all rest (up env d (.bool b)) H (bif b then .on rem else .off rem) Q):WOy X P h0 N all (o::rest) env H (.on L) Q:=by
 intro V R fr ro σ a w g r hj hrd;obtain⟨vs,hv,he⟩:=G fr ro σ a w r;obtain⟨q,hq,J⟩:=hj.1;obtain⟨fn,tmps,assign,W,h1,h2⟩:=V.round L x rem q g ro w vs M J hq (λb z=>⟨r.sim.roLt b z,λy=>r.sim.roFr b z (hj.2.sub b y)⟩) hv;have Y:=he.trans h1;unfold wpL wpListIn;rw[if_pos (Jc hg r)];refine⟨λ_ _=>trivial,?_⟩;rw[Qcq Y (λd e=>by cases e)];refine⟨λh=>by simp[WF,Fence.wide]at h,?_⟩;refine RoundIn.mono (F:=WF R) (n:=0) h2 ?_;rintro e i ⟨j,m,u,t,f⟩;obtain⟨s',ev⟩:=r.sim.round hj.2.sub t;have O:d<N:=by simpa using hN
 have p:Ext ro σ w ro σ i:=by have:=ev.ext σ [];simpa using this
 have fin:∀b:Bool,X.at (bif b then .on rem else .off rem) j ro i->wpL P R all (QcQ X h0 fr ro σ w N a.defers Q) rest (a.put o.dst (.bool b)) i:=by
  intro b f;have hm:QcV (λb=>fr b\/j b) a.defers i:=by
   refine⟨r.defers.1,λd E=>?_⟩;obtain⟨D,rfl,B,q2⟩:=r.defers.2 d E;exact⟨D,rfl,.inl B,(t.keep D (r.sim.frLt D B) (hj.2.beside D E)).trans q2⟩
  have hi:In j (λb=>fr b\/j b) a.defers:=by
   refine⟨λb q=>.inr q,λD hD q=>?_⟩;rcases t.new D q with m|m
   .exact hj.2.beside D hD m
   .obtain⟨D',e,B,_⟩:=r.defers.2 _ hD;have:D=D':=by simpa using e
    subst this;have:=r.sim.frLt D B;omega
  have r':Rel (λb=>fr b\/j b) ro σ H (up env d (.bool b)) N {a with tmps:=a.tmps.setIfInBounds d (.bool b)} i:=
   ⟨s',VR.up (fr:=fr) (λs=>(r.env s).mono p) (by rw[r.size];exact O) rfl,by simpa using r.size,hm⟩
  have:=k b V R _ ro σ _ i j r' ⟨f,hi⟩ hrd;simp only[E,Act.put];refine Yo (λe a2 w2 q=>q.grow (λ_ q=>q) t.size rfl ⟨λ_ q=>.inl q,λb q=>?_,λ_ q=>.inl q⟩) _ _ _ this;rcases q with q|q
  .exact .inl q
  .rcases t.new b q with q|q
   .exact .inl (hj.2.sub b q)
   .exact .inr q
 rcases f with⟨rfl,f⟩|⟨rfl,f⟩
 .exact fin true ⟨m,u,f⟩
 .exact fin false ⟨m,u,f⟩
end
def EndY{T:Type}:Ys T:=λx env H st=>(x=.normal\/x=.ret)/\(st=.on []\/ ∃rem,st=.off rem)
theorem QcM{T:Type}{P:Program}{f:FuncId}{fn:Func}{c:Code}{N:Nat}{a:List A}{H:Qc}{enc:T->List A}{nx:List T->T->List T->Prop}{xs:List T}
  (hf:P.funcs[f]?=some fn)(hb:fn.body=some c)(hN:fn.ntmps=N)(hA:Nat.ble (a.length+1) N=true)(hR:fn.results= #[])
  (h:∀X:Ctx T,X.enc=enc->X.nx=nx->TCy X P H.length N c (QfV 0 (.fn (.yield X.l) [] []::a)) H (.on xs) EndY):QdI P f a H enc nx xs:=by
 intro X hE hNx hX fr ro0 σ w capv q0 hs hq0 hl hj;have t:LR ro0 σ w (.fn (.yield X.l) [] []::a) (Value.func (.yield X.l) #[] #[]::capv):=⟨_,_,rfl,⟨[],[],rfl,rfl,rfl⟩,hl⟩;have p:=t.length;have ab:a.length+1<=N:=by simpa using hA
 refine(callsIn_wide (n:=0)).1 (callsIn_of_wp_marks hf hb trivial (Code.wpIn_mono ?_ (h X hE hNx hX none fr ro0 σ _ w fr ⟨hs,?_,?_,List.nodup_nil,λd y=>by cases y⟩ ⟨⟨q0,hq0,hj⟩,λ_ q=>q,λD hD=>by cases hD⟩ rfl)))
 .rintro e O Q ⟨x,V,H1,st,E,σ1,aa,F,R,⟨Y,L⟩,j,⟨W,k⟩,h5,h6,h7,h8⟩;have r:LeavesInM Fence.wide 0 P fn O.tmps (λe W'=>(∃v,e=.returned v)/\ ∃g q',(∀b,fr b->g b)/\((X.J [] q' g W')\/(∃rem,X.Jx rem q' g W'))) O.defers .returning Q:=by
   refine Qbg (ro:=E) (fr:=F) (σ:=σ1) (H:=H1) O.defers Q j.defers.1 (λd y=>?_) (j.sim.frMono k.sub) (λw2 s2 m=>?_)
   .obtain⟨D,rfl,B,q2⟩:=j.defers.2 d y;exact⟨D,rfl,λq=>j.sim.roFr D q B,k.beside D y,λi x z M G=>(j.sim.own i D x z M G).2.2 B,λi d x z M G=>(j.sim.hid i d x D z M G).fr B,q2⟩
   .have u:=hX.up (hX.ev W m) (g':=λb=>F b\/fr b) (λb q=>.inl q) (λb q=>Vn (j.sim.frLt b (q.elim (k.sub b) (h8.sub b))) m.size);obtain⟨q9,_,u⟩:=u;refine⟨.tuple #[],by simp[results,hR,go_sem],⟨_,rfl⟩,λb=>F b\/fr b,q9,λb q=>.inr q,?_⟩;rcases L with rfl|⟨rem,rfl⟩
    .exact .inl u
    .exact .inr ⟨rem,u⟩
  cases e with
  |normal=>exact r
  |ret=>exact r
  |exit id=>
   obtain rfl:x=.exit id:=R;rcases Y with q|q<;>cases q
  |_=>exact R.elim
 .intro s;have:=Qer (i:=0) [] rfl t (Array.replicate (fn.ntmps-(Value.func (.yield X.l) #[] #[]::capv).toArray.size) undef) s;simpa using this
 .simp only[X8]at p;simp[hN];omega
section
variable {T:Type}{X:Ctx T}{P:Program}{h0 N:Nat}{c c':Code}{env:Env}{H:Qc}{st:YSt T}{Q Q':Ys T}
theorem TCy.mono(h:TCy X P h0 N c env H st Q)(p:∀x env H st,Q x env H st->Q' x env H st):TCy X P h0 N c env H st Q':=by
 intro s t q l σ a w g r hj hrd;refine Code.wpIn_mono ?_ (h s t q l σ a w g r hj hrd);rintro e y u ⟨x,b,H',i,d,σ',f,m,k,n,j⟩;exact⟨x,b,H',i,d,σ',f,m,k,p _ _ _ _ n,j⟩
theorem TCy.skip(h:Q .normal env H st):TCy X P h0 N .skip env H st Q:=TCy.lift (TC.skip h)
theorem TCy.ret(h:Q .ret env H st):TCy X P h0 N .ret env H st Q:=TCy.lift (TC.ret h)
theorem TCy.exit{id:Nat}(h:Q (.exit id) env H st):TCy X P h0 N (.exit id) env H st Q:=TCy.lift (TC.exit h)
def BloY(id:Nat)(Q:Ys T):Ys T
 |.normal,env,H,st=>Q .normal env H st
 |.exit id',env,H,st=>bif Nat.beq id' id then Q .normal env H st else Q (.exit id') env H st
 |.ret,env,H,st=>Q .ret env H st
theorem TCy.block{id:Nat}(h:TCy X P h0 N c env H st (BloY id Q)):TCy X P h0 N (.block id c) env H st Q:=by
 intro s y t p σ a w g r hj hrd;refine wpIn_block (Code.wpIn_mono ?_ (h s y t p σ a w g r hj hrd));rintro e B z ⟨x,b,H',j,f,σ',i,n,m,k,l⟩;cases e with
 |normal=>
  obtain rfl:x=.normal:=m;exact⟨_,b,H',j,f,σ',i,n,rfl,k,l⟩
 |exit d=>
  obtain rfl:x=.exit d:=m;show Exit.inBlock id _ _ _ _;unfold Exit.inBlock;simp only[BloY]at k;by_cases q:d=id
  .subst q;rw[Nat.beq_refl,cond_true]at k;simp only[if_true];exact⟨.normal,b,H',j,f,σ',i,n,rfl,k,l⟩
  .have u:Nat.beq d id=false:=by
    cases e:Nat.beq d id with
    |false=>rfl
    |true=>exact absurd (XX e) q
   rw[u,cond_false]at k;simp only[q,if_false];exact⟨.exit d,b,H',j,f,σ',i,n,rfl,k,l⟩
 |ret=>
  obtain rfl:x=.ret:=m;exact⟨_,b,H',j,f,σ',i,n,rfl,k,l⟩
 |_=>exact m.elim
end
section
variable {T:Type}{X:Ctx T}{P:Program}{h0 N:Nat}{c:Code}{env:Env}{H:Qc}{st:YSt T}{Q:Ys T}
def QkV(I:Env->Qc->YSt T->Prop)(Q:Ys T):Ys T
 |.normal,env,H,st=>I env H st
 |.exit id,env,H,st=>Q (.exit id) env H st
 |.ret,env,H,st=>Q .ret env H st
theorem Qf3{I:Nat->Env->Qc->YSt T->Prop}(body:∀n env H st,I n env H st->TCy X P h0 N c env H st (QkV (λenv H st=>∃n',n'<n/\I n' env H st) Q)){n:Nat}(F:I n env H st):TCy X P h0 N (.loop c) env H st Q:=by
 intro hX rd y z σ a w g r hj hrd b k cs hro hb hr;have J:∀m n env H st fr1 ro1 σ1 a1 w1 g1,n<m->I n env H st->Rel fr1 ro1 σ1 H env N a1 w1->(∀b,z b->ro1 b)->w.heap.size<=w1.heap.size->σ1.take h0=σ.take h0->Grow y w a.defers fr1 a1.defers->X.at st g1 ro1 w1/\In g1 fr1 a1.defers->
   ∃e i h,QcQ X h0 y z σ w N a.defers Q e i h/\ArrivesIn (Machine.fenced P (WF rd)) P (lone (b.atR a1 (.code c::.inLoop c::k)) cs w1) b k cs e i h:=by
  intro m
  induction m with
  |zero=>intro n env H st fr1 ro1 σ1 a1 w1 g1 hn;exact absurd hn (Xo _)
  |succ m ih=>
   intro n env H st fr1 ro1 σ1 a1 w1 g1 hn F r1 s1 z1 t1 gr1 j1;obtain⟨e,i,h,G,d⟩:=body n env H st F hX rd fr1 ro1 σ1 a1 w1 g1 r1 j1 hrd b (.inLoop c::k) cs hro hb hr;obtain⟨x,f,H',j,u,σ',t,O,B,p,Y,W,q5,V,R,q8⟩:=G;have M:=λb q=>q5 b (s1 b q);have s:=gr1.trans z1 q8;have L:∀x,Q x f H' j->ExR e x->QcQ X h0 y z σ w N a.defers Q e i h:=λx q q'=>⟨x,f,H',j,u,σ',t,O,q',q,Y,W,M,X3 z1 V,R.trans t1,s⟩;cases e with
   |normal=>
    obtain rfl:x=.normal:=B;obtain⟨n',aa,p⟩:=p;obtain⟨e2,a2,w2,E,l⟩:=ih n' f H' j t u σ' i h O (by omega) p Y M (X3 z1 V) (R.trans t1) s W;exact⟨e2,a2,w2,E,.of_steps (StepsIn.trans d (.one (fenced_calm hb hr rfl) stepR_inLoop)) l⟩
   |exit id=>
    obtain rfl:x=.exit id:=B;exact⟨_,i,h,L _ p rfl,.pass (x:=.inLoop c) rfl (λ_ _=>.inl (by simp)) d⟩
   |ret=>
    obtain rfl:x=.ret:=B;exact⟨_,i,h,L _ p rfl,.pass (x:=.inLoop c) rfl (λ_ _=>.inl (by simp)) d⟩
   |_=>exact B.elim
 obtain⟨e,i,h,G,d⟩:=J (n+1) n env H st y z σ a w g (Xp _) F r (λ_ q=>q) (X0 _) rfl (Grow.refl _ _ _) hj;exact⟨e,i,h,G,.of_steps (.one (fenced_calm hb hr rfl) stepR_loop) d⟩
end
end Go.Sw
namespace Go.Sw
theorem Sim.part{fr ro:Nat->Prop}{σ:Sig}{H:Qc}{w:World}(s0:Sim fr ro σ H w){π:List Nat}{Hc:Qc}(V:π.map (λp=>H[p]?)=(Hc.map (QV (rho π H.length))).map some)(hπ:π.Nodup):
  Sim (λb=>fr b\/(∃i x,σ[i]?=some (some b)/\H[i]?=some x/\x.live=true/\i∉π)\/ ∃i x d,σ[i]?=some (some d)/\H[i]?=some x/\Hid w x d b/\i∉π) ro (Q5 σ π) Hc w/\ ∀j:Nat,σ[rho π H.length j]?=(Q5 σ π)[j]? :=by
 have hp:∀p∈π,p<H.length:=λp q=>Y4 V q;have hσl:=s0.len;have m:∀(j p:Nat),π[j]?=some p->H[p]?=(Hc[j]?).map (QV (rho π H.length)):=by
  intro j p a;have:=congrArg (λl=>l[j]?) V;simp only[Xr,a,Xk]at this;cases e:Hc[j]? with
  |none=>rw[e]at this;simp at this
  |some x=>rw[e]at this;simpa using this
 have O:π.length=Hc.length:=by simpa using congrArg List.length V
 have hσc:∀j:Nat,σ[rho π H.length j]?=(Q5 σ π)[j]? :=by
  intro j;have:=QdK (τ:=[]) hσl hp j;simpa using this
 have hπj:∀(j b:Nat),(Q5 σ π)[j]?=some (some b)->∃p,π[j]?=some p/\σ[p]?=some (some b):=by
  intro j b a;simp only[Q5,Xr]at a;cases e:π[j]? with
  |none=>rw[e]at a;simp at a
  |some p=>
   rw[e]at a;simp at a;refine⟨p,rfl,?_⟩;cases r:σ[p]? with
   |none=>rw[r]at a;simp at a
   |some s=>rw[r]at a;simp at a;rw[a]
 refine⟨?_,hσc⟩
 .refine⟨by simp[Q5,O],s0.roOk,?_,?_,?_,?_,?_,?_⟩
  .rintro b (M|⟨i,x,f,h,n,Q⟩|⟨i,x,d,f,h,n,Q⟩)
   .exact s0.frLt b M
   .exact(s0.own i b x f h n).1
   .exact(s0.hid i d x b f h n).lt
  .rintro b M (N|⟨i,x,f,h,n,Q⟩|⟨i,x,d,f,h,n,Q⟩)
   .exact s0.roFr b M N
   .exact(s0.own i b x f h n).2.1 M
   .exact(s0.hid i d x b f h n).ro M
  .intro j b x f h n;obtain⟨p,g,r⟩:=hπj j b f;have E:H[p]?=some (QV (rho π H.length) x):=by rw[m j p g,h];rfl
   obtain⟨o1,o2,o3⟩:=s0.own p b _ r E (by rw[QH];exact n);refine⟨o1,o2,?_⟩;rintro(N|⟨i,y,y1,y2,G,P⟩|⟨i,y,d,y1,y2,G,P⟩)
   .exact o3 N
   .have:=s0.inj i p b _ _ y1 r y2 E G (by rw[QH];exact n);subst this;exact P (List.mem_of_getElem? g)
   .exact(s0.hid i d y b y1 y2 G).ne p b _ r E (by rw[QH];exact n) rfl
  .intro i j b x y f h n Q q5 q6;obtain⟨p,g,r⟩:=hπj i b f;obtain⟨u,t,X⟩:=hπj j b h;have E:H[p]?=some (QV (rho π H.length) x):=by rw[m i p g,n];rfl
   have aa:H[u]?=some (QV (rho π H.length) y):=by rw[m j u t,Q];rfl
   have:=s0.inj p u b _ _ r X E aa (by rw[QH];exact q5) (by rw[QH];exact q6);subst this;have F:i<π.length:=by
    rcases Nat.lt_or_ge i π.length with q|q
    .exact q
    .rw[XV q]at g;simp at g
   have a:j<π.length:=by
    rcases Nat.lt_or_ge j π.length with q|q
    .exact q
    .rw[XV q]at t;simp at t
   rw[XR F]at g;rw[XR a]at t;have z:=(X7 g).trans (X7 t).symm;rcases Nat.lt_trichotomy i j with q|q|q
   .exact(List.pairwise_iff_getElem.1 hπ i j F a q z).elim
   .exact q
   .exact(List.pairwise_iff_getElem.1 hπ j i a F q z.symm).elim
  .intro j s x f h;have a:j<π.length:=by
    rcases Nat.lt_or_ge j π.length with q|q
    .exact q
    .rw[XV (by simpa[Q5]using q)]at f;simp at f
   have g:π[j]?=some π[j]:=XR a;have E:H[π[j]]?=some (QV (rho π H.length) x):=by rw[m j _ g,h];rfl
   have r:σ[π[j]]?=some s:=by
    have:=hσc j;rw[f]at this;simpa[rho,g]using this
   exact(QgS hσc).1 (s0.blk _ s _ r E)
  .intro j b x c f h n;obtain⟨p,g,r⟩:=hπj j b f;have E:H[p]?=some (QV (rho π H.length) x):=by rw[m j p g,h];rfl
   have k:=s0.hid p b _ c r E ((Qal _ _ _ _ _).2 n);refine⟨k.lt,k.ro,?_,?_,?_⟩
   .rintro(N|⟨i,y,y1,y2,G,P⟩|⟨i,y,d,y1,y2,G,P⟩)
    .exact k.fr N
    .exact k.ne i c y y1 y2 G rfl
    .obtain⟨rfl,rfl⟩:=k.one i d y y1 y2 G;exact P (List.mem_of_getElem? g)
   .intro B L y R T W;obtain⟨u,J,Y⟩:=hπj B L R;exact k.ne u L _ Y (show H[u]?=some (QV (rho π H.length) y)by rw[m B u J,T];rfl) (by rw[QH];exact W)
   .intro B L y R T W;obtain⟨u,J,Y⟩:=hπj B L R;obtain⟨z4,z5⟩:=k.one u L _ Y (show H[u]?=some (QV (rho π H.length) y)by rw[m B u J,T];rfl) ((Qal _ _ _ _ _).2 W);subst z5;have F:B<π.length:=(XS.1 J).1;have a:j<π.length:=(XS.1 g).1;rw[XR F]at J;rw[XR a]at g;have z:=(X7 J).trans (X7 g).symm;refine⟨z4,?_⟩;rcases Nat.lt_trichotomy B j with q|q|q
    .exact(List.pairwise_iff_getElem.1 hπ B j F a q z).elim
    .exact q
    .exact(List.pairwise_iff_getElem.1 hπ j B a F q z.symm).elim
theorem Sim.frames{fr fr' ro:Nat->Prop}{σ:Sig}{H:Qc}{w:World}(s:Sim fr ro σ H w)(lt:∀b,fr' b->b<w.heap.size)(hro:∀b,ro b->¬fr' b)(own:∀(i b:Nat) (x:Blk),σ[i]?=some (some b)->H[i]?=some x->x.live=true->¬fr' b)
  (hd:∀(i b:Nat) (x:Blk) (c:Nat),σ[i]?=some (some b)->H[i]?=some x->Hid w x b c->¬fr' c):Sim fr' ro σ H w:=
 ⟨s.len,s.roOk,lt,hro,λi b x q1 q2 q3=>⟨(s.own i b x q1 q2 q3).1,(s.own i b x q1 q2 q3).2.1,own i b x q1 q2 q3⟩,s.inj,s.blk,
  s.hidTo (· = ·) Q0 (X0 _) (λ_ _ _ _ _ _ _ q=>q) (λi b x c q1 q2 q3 q4=>(hd i b x c q1 q2 q3 q4).elim) λj d y g1 g2 g3=>.inl ⟨j,y,rfl,g1,g2,id,λ_ q=>q⟩⟩
def Qje(H:Qc)(p:Nat):Qc:=match H[p]? with
 |some x=>bif x.holds then H.set p .dead else H
 |none=>H
def Qdu:Qc->List Nat->Qc
 |H,[]=>H
 |H,p::π=>Qdu (Qje H p) π
theorem Qdv(H:Qc)(p:Nat):(Qje H p=H/\ ∀x,H[p]?=some x->x.holds=false)\/Qje H p=H.set p .dead:=by
 unfold Qje;cases h:H[p]? with
 |none=>exact .inl ⟨rfl,λx q=>by cases q⟩
 |some x=>
  cases q:x.holds with
  |false=>exact .inl ⟨by simp[q],λy a=>by cases a;exact q⟩
  |true=>exact .inr (by simp[q])
theorem Qes:∀(π:List Nat) (H:Qc) (i:Nat) (x:Blk),(Qdu H π)[i]?=some x->x=.dead\/(H[i]?=some x/\(x.holds=true->i∉π))
 |[],H,i,x,h=>.inr ⟨h,λ_=>by simp⟩
 |p::π,H,i,x,h=>by
  rcases Qes π _ i x h with h|⟨h1,h2⟩
  .exact .inl h
  .rcases Qdv H p with⟨e,hl⟩|e
   .rw[e]at h1;refine .inr ⟨h1,λhx=>?_⟩;simp only[Ve,not_or];refine⟨λq=>?_,h2 hx⟩;subst q;have:=hl x h1;rw[this]at hx;cases hx
   .rw[e]at h1;by_cases q:p=i
    .subst q;rw[Xb]at h1;simp at h1;exact .inl h1.2.symm
    .rw[XW q]at h1;exact .inr ⟨h1,λhx=>by simp only[Ve,not_or];exact⟨λr=>q r.symm,h2 hx⟩⟩
theorem Qdk{fr ro:Nat->Prop}{σ:Sig}{w:World}:∀(π:List Nat) {H:Qc} (s:Sim fr ro σ H w),Sim fr ro σ (Qdu H π) w
 |[],_,s=>s
 |p::π,H,s=>by
  rw[Qdu];rcases Qdv H p with h|h
  .rw[h.1];exact Qdk π s
  .rw[h];exact Qdk π (s.kill p)
theorem Sim.put{fr ro:Nat->Prop}{σ:Sig}{H:Qc}{w:World}(s:Sim fr ro σ H w){b:Nat}{obj:Obj}(l:fr b)(t:w.shape? b=none):
  Sim fr ro σ H (w.putObj b obj)/\Qf (λc=>c≠b) ro w ro (w.putObj b obj):=by
 have a:∀c,c≠b->(w.putObj b obj).heap[c]?=w.heap[c]? :=λc u=>World.putObj_heap_other u;have f:(w.putObj b obj).heap.size=w.heap.size:=by simp
 have p:∀c,ro c->c≠b:=λc q e=>s.roFr c q (e▸l);have ev:Qf (λc=>c≠b) ro w ro (w.putObj b obj):=by
  refine⟨λ_ q=>q,λc q=>a c (p c q),λc q=>a c q,by rw[f];exact X0 _,λc x q=>?_,rfl,rfl,rfl,X0 _⟩;by_cases e:c=b
  .subst e;rw[t]at q;cases q
  .unfold World.shape? at q⊢;rw[a c e];exact q
 have g:Ext ro σ w ro σ (w.putObj b obj):=by have:=ev.ext σ [];simpa using this
 refine⟨⟨s.len,s.roOk.to (λ_ q=>q) ev.keepRo (λc q=>by rw[f];exact s.roLt c q),λc q=>by rw[f];exact s.frLt c q,s.roFr,λi c x h k G=>?_,s.inj,λi y x h k=>?_,
  s.hidTo (· = ·) Q0 (by rw[f];exact X0 _) (λ_ _ _ _ _ _ _ q=>q) (λ_ _ _ _ _ _ _ q=>q) λj d y r n J=>.inl ⟨j,y,rfl,r,n,id,λc q=>s.hidKeep r n (λz=>a d (λe=>(s.own j d y r n z).2.2 (e▸l))) ev.keepRo q⟩⟩,ev⟩
 .obtain⟨E,F,B⟩:=s.own i c x h k G;exact⟨by rw[f];exact E,F,B⟩
 .refine(s.blk i y x h k).keep g ?_ ?_
  .rintro c rfl m;exact a c (λe=>(s.own i c x h k m).2.2 (e▸l))
  .rintro d c rfl m;exact a c (λe=>(s.hid i d x c h k m).fr (e▸l))
theorem Qbe{w:World}{l:Nat}{r:Loop}(h:w.heap[l]?=some (.loop r)):w.shape? l=none:=by
 unfold World.shape?;rw[h]
structure Fix where
 fr:Nat->Prop
 ro:Nat->Prop
 σ:Sig
 w:World
 h1:Nat
 env:Env
 tmps:Array Value
 ds1:List Deferred
 l:Nat
 rc:LoopState->Option Code->Loop
 fr1:Nat->Prop
structure Fix.Ok (D:Fix):Prop where
 sub:∀b,D.fr b->D.fr1 b
 l1:D.fr1 D.l
 lf:¬D.fr D.l
 len:D.σ.length=D.h1
structure RJ (D:Fix) (ro1:Nat->Prop) (σ1:Sig) (H:Qc) (st:LoopState) (pe:Option Code) (q g:Nat->Prop) (W:World):Prop where
 sim:Sim D.fr1 ro1 σ1 H W
 env:∀t,VR ro1 D.σ W (lk D.env t) (D.tmps.getD t undef)
 sig:σ1.take D.h1=D.σ
 ev:Qf D.fr D.ro D.w ro1 W
 marks:QcV D.fr1 D.ds1 W
 rc:W.heap[D.l]?=some (.loop (D.rc st pe))
 roG:∀b,ro1 b->q b\/g b
 frG:∀b,D.fr1 b->g b
 own:∀(i b:Nat) (x:Blk),σ1[i]?=some (some b)->H[i]?=some x->x.live=true->g b
 hidG:∀(i b:Nat) (x:Blk) (c:Nat),σ1[i]?=some (some b)->H[i]?=some x->Hid W x b c->g c
 lt:∀b,g b->b<W.heap.size
theorem Qdo{σ σ1:Sig}{a:Nat}(h:σ1.take a=σ){i b:Nat}(q:σ[i]?=some (some b)):σ1[i]?=some (some b):=by
 subst h;rw[List.getElem?_take]at q;split at q
 .exact q
 .cases q
section
variable {D:Fix}{ro1:Nat->Prop}{σ1:Sig}{H:Qc}{st:LoopState}{pe:Option Code}{qR g:Nat->Prop}{W:World}
theorem RJ.step(r:D.Ok)(j:RJ D ro1 σ1 H st pe qR g W){ro':Nat->Prop}{W':World}(e:Qf g qR W ro' W'):RJ D ro1 σ1 H st pe qR g W':=by
 have f:∀b,ro1 b->W'.heap[b]?=W.heap[b]? :=λb q=>(j.roG b q).elim (e.keepRo b) (e.keepFr b);have ev:Qf D.fr1 ro1 W ro1 W':=⟨λ_ q=>q,f,λb q=>e.keepFr b (j.frG b q),e.size,e.shape,e.os,e.tape,e.output,e.drawn⟩;have k:∀σ,Ext ro1 σ W ro1 σ W':=λ σ=>by have:=ev.ext σ [];simpa using this
 refine⟨⟨j.sim.len,j.sim.roOk.to (λ_ q=>q) f (λb q=>Vn (j.sim.roLt b q) e.size),λb q=>Vn (j.sim.frLt b q) e.size,j.sim.roFr,λi b x a h p=>?_,j.sim.inj,λi z x a h=>?_,
  j.sim.hidTo (· = ·) Q0 e.size (λ_ _ _ _ _ _ _ q=>q) (λ_ _ _ _ _ _ _ q=>q) λi d y n m w=>.inl ⟨i,y,rfl,n,m,id,λc q=>j.sim.hidKeep n m (λz=>e.keepFr d (j.own i d y n m z)) f q⟩⟩,
  λt=>(j.env t).mono (k _),j.sig,j.ev.trans (ev.frMono r.sub),j.marks.keep ev,(ev.keepFr _ r.l1).trans j.rc,j.roG,j.frG,j.own,λi b x c a h p=>j.hidG i b x c a h (j.sim.hidKeep a h (λz=>e.keepFr b (j.own i b x a h z)) f p),λb q=>Vn (j.lt b q) e.size⟩
 .obtain⟨s,u⟩:=j.sim.own i b x a h p;exact⟨Vn s e.size,u⟩
 .refine(j.sim.blk i z x a h).keep (k _) ?_ ?_
  .rintro b rfl l;exact e.keepFr b (j.own i b x a h l)
  .rintro b c rfl l;exact e.keepFr c (j.hidG i b x c a h l)
theorem RJ.up{g':Nat->Prop}(j:RJ D ro1 σ1 H st pe qR g W)(h:∀b,g b->g' b)(hl:∀b,g' b->b<W.heap.size):RJ D ro1 σ1 H st pe qR g' W:=
 {j with roG:=λb q=>(j.roG b q).imp id (h b),frG:=λb q=>h b (j.frG b q),own:=λi b x q1 q2 q3=>h b (j.own i b x q1 q2 q3),hidG:=λi b x c q1 q2 q3=>h c (j.hidG i b x c q1 q2 q3),lt:=hl}
def FrB(D:Fix)(ro1 g:Nat->Prop)(W:World):Nat->Prop:=λb=>(D.fr1 b\/(¬g b/\ ¬ro1 b))/\b<W.heap.size
theorem RJ.simB(j:RJ D ro1 σ1 H st pe qR g W):Sim (FrB D ro1 g W) ro1 σ1 H W:=by
 refine j.sim.frames (λb q=>q.2) (λb q r=>?_) (λi b x e d a r=>?_) (λi b x c e d a r=>r.1.elim (j.sim.hid i b x c e d a).fr λr=>r.1 (j.hidG i b x c e d a))
 .rcases r.1 with r|r
  .exact j.sim.roFr b q r
  .exact r.2 q
 .rcases r.1 with r|r
  .exact(j.sim.own i b x e d a).2.2 r
  .exact r.1 (j.own i b x e d a)
theorem RJ.fin(E:D.Ok)(j:RJ D ro1 σ1 H st pe qR g W){w ro':Nat->Prop}{σ':Sig}{H':Qc}{W':World}{st':LoopState}{pe':Option Code}
  (ev:Qf (λb=>FrB D ro1 g W b/\b≠D.l) ro1 W ro' W')(s:Sim w ro' σ' H' W')(u:∀b,FrB D ro1 g W b->w b)(hσ:σ'.take D.h1=σ1.take D.h1)(R:W'.heap[D.l]?=some (.loop (D.rc st' pe'))):
  RJ D ro' σ' H' st' pe' qR (λb=>g b\/(W.heap.size<=b/\b<W'.heap.size)) W'/\Qe5 g (λb=>g b\/(W.heap.size<=b/\b<W'.heap.size)) W W':=by
 have n:∀b,D.fr1 b->FrB D ro1 g W b:=λb q=>⟨.inl q,j.sim.frLt b q⟩;have Q:W.shape? D.l=none:=Qbe j.rc;have z:Qf D.fr ro1 W ro' W':=ev.frMono λb q=>⟨n b (E.sub b q),λe=>E.lf (e▸q)⟩;have y:Ext ro1 D.σ W ro' D.σ W':=ev.ext0 D.σ;have F:∀b,b<W.heap.size->b<W'.heap.size:=λb q=>Vn q ev.size;have m:∀b,b<W.heap.size->¬FrB D ro1 g W b->g b\/ro1 b:=by
  intro b h O;by_cases f:g b
  .exact .inl f
  .by_cases a:ro1 b
   .exact .inr a
   .exact absurd ⟨.inr ⟨f,a⟩,h⟩ O
 refine⟨⟨s.frames (λb q=>F b (j.sim.frLt b q)) (λb q r=>s.roFr b q (u b (n b r))) (λi b x f a p r=>(s.own i b x f a p).2.2 (u b (n b r))) (λi b x c f a p r=>(s.hid i b x c f a p).fr (u c (n c r))),
  λt=>(j.env t).mono y,hσ.trans j.sig,j.ev.trans z,⟨j.marks.1,λd M=>?_⟩,R,λb q=>?_,λb q=>.inl (j.frG b q),λi b x f a p=>?_,λi b x c f a p=>?_,λb q=>q.elim (λq=>F b (j.lt b q)) (λq=>q.2)⟩,
  ⟨λb q=>.inl q,λb q=>q.imp id (λq=>q.1),λb q=>q.elim (λq=>F b (j.lt b q)) (λq=>q.2),λb f a=>.inr ⟨f,a⟩,λb f a=>?_,ev.size,ev.shape,ev.os,ev.tape,ev.output,ev.drawn⟩⟩
 .obtain⟨B,N,J,G⟩:=j.marks.2 d M;refine⟨B,N,J,(ev.keepFr B ⟨n B J,λe=>?_⟩).trans G⟩;subst e;rw[j.rc]at G;cases G
 .rcases Nat.lt_or_ge b W.heap.size with h|h
  .rcases m b h (λr=>s.roFr b q (u b r))with r|r
   .exact .inr (.inl r)
   .exact(j.roG b r).imp id .inl
  .exact .inr (.inr ⟨h,s.roLt b q⟩)
 .obtain⟨P,L,T⟩:=s.own i b x f a p;rcases Nat.lt_or_ge b W.heap.size with h|h
  .rcases m b h (λr=>T (u b r))with r|r
   .exact .inl r
   .exact absurd (ev.sub b r) L
  .exact .inr ⟨h,P⟩
 .have k:=s.hid i b x c f a p;rcases Nat.lt_or_ge c W.heap.size with h|h
  .rcases m c h (λr=>k.fr (u c r))with r|r
   .exact .inl r
   .exact absurd (ev.sub c r) k.ro
  .exact .inr ⟨h,k.lt⟩
 .by_cases r:ro1 b
  .exact ev.keepRo b r
  .exact ev.keepFr b ⟨⟨.inr ⟨a,r⟩,f⟩,λe=>a (j.frG b (e▸E.l1))⟩
end
theorem Sim.roAdd{fr ro a:Nat->Prop}{σ:Sig}{H:Qc}{w:World}(s:Sim fr ro σ H w)(m:∀b,a b->b<w.heap.size)(l:∀b,a b->¬fr b)(g:∀(i b:Nat) (x:Blk),σ[i]?=some (some b)->H[i]?=some x->x.live=true->¬a b)
  (h:∀(i b:Nat) (x:Blk) (c:Nat),σ[i]?=some (some b)->H[i]?=some x->Hid w x b c->¬a c):Sim fr (λb=>ro b\/a b) σ H w:=by
 have ext:Ext ro σ w (λb=>ro b\/a b) σ w:=⟨λ_ q=>.inl q,λ_ _=>rfl,λ_ _ q=>q,λ_ _ q=>q⟩;refine⟨s.len,s.roOk.to (λ_ q=>.inl q) (λ_ _=>rfl) (λb q=>q.elim (s.roLt b) (m b)),s.frLt,λb q=>q.elim (s.roFr b) (l b),λi b x e f k=>?_,s.inj,λi y x e f=>(s.blk i y x e f).keep ext (λ_ _ _=>rfl) (λ_ _ _ _=>rfl),
  s.hidTo (· = ·) Q0 (X0 _) (λi b x c e f k z=>z.elim id λq=>(h i b x c e f k q).elim) (λ_ _ _ _ _ _ _ q=>q) λj d y t n B=>.inl ⟨j,y,rfl,t,n,id,λ_ q=>q⟩⟩
 obtain⟨r,u,p⟩:=s.own i b x e f k;exact⟨r,λq=>q.elim u (g i b x e f k),p⟩
theorem RJ.roAdd{D:Fix}{ro1:Nat->Prop}{σ1:Sig}{H:Qc}{st:LoopState}{pe:Option Code}{qR ri g:Nat->Prop}{W:World}(j:RJ D ro1 σ1 H st pe qR g W)(hq:∀b,qR b->ri b)(hI:∀b,ri b->b<W.heap.size/\ ¬g b):RJ D (λb=>ro1 b\/ri b) σ1 H st pe ri g W:=
 {j with
  sim:=j.sim.roAdd (λb q=>(hI b q).1) (λb q z=>(hI b q).2 (j.frG b z)) (λi b x q1 q2 q3 z=>(hI b z).2 (j.own i b x q1 q2 q3)) (λi b x c q1 q2 q3 z=>(hI c z).2 (j.hidG i b x c q1 q2 q3))
  env:=λt=>(j.env t).mono ⟨λ_ q=>.inl q,λ_ _=>rfl,λ_ _ q=>q,λ_ _ q=>q⟩
  ev:=j.ev.trans (YA λ_ q=>.inl q)
  roG:=λb q=>q.elim (λq=>(j.roG b q).imp (hq b) id) .inl}
def Qk5:List Nat->List A->Env->Env
 |p::ps,a::zs,env=>Qk5 ps zs (up env p a)
 |_,_,env=>env
def Qic:List Nat->List Value->Array Value->Array Value
 |p::ps,v::vs,t=>Qic ps vs (t.setIfInBounds p v)
 |_,_,t=>t
theorem Qfv:∀(ps:List Nat) (vs:List Value) (t:Array Value),(Qic ps vs t).size=t.size
 |[],_,_=>rfl
 |_::_,[],_=>rfl
 |p::ps,v::vs,t=>by simp[Qic,Qfv ps]
theorem Qfw:∀(ps:List Nat) (vs:List Value) (t:Array Value),(ps.toArray.zip vs.toArray).foldl (λt (p,v)=>t.setIfInBounds p v) t=Qic ps vs t
 |[],vs,t=>by rw[<- Array.foldl_toList,Array.toList_zip];rfl
 |p::ps,[],t=>by rw[<- Array.foldl_toList,Array.toList_zip];rfl
 |p::ps,v::vs,t=>by
  have:=Qfw ps vs (t.setIfInBounds p v);rw[<- Array.foldl_toList,Array.toList_zip]at this⊢;exact this
theorem QiZ{ro:Nat->Prop}{σ:Sig}{w:World}:∀(ps:List Nat) (zs:List A) (vs:List Value) (env:Env) (t:Array Value),LR ro σ w zs vs->(∀p∈ps,p<t.size)->(∀s,VR ro σ w (lk env s) (t.getD s undef))->
  ∀s,VR ro σ w (lk (Qk5 ps zs env) s) ((Qic ps vs t).getD s undef)
 |[],_,_,_,_,_,_,h=>h
 |p::ps,[],vs,_,_,hv,_,h=>by
  obtain rfl:vs=[]:=hv;exact h
 |p::ps,a::zs,vs,env,t,hv,hp,h=>by
  obtain⟨v,vs',rfl,h0,hv'⟩:=hv;have h1:=VR.up (fr:=λ_=>False) (a:={tmps:=t,defers:=[]}) h (hp p (by simp)) h0;exact QiZ ps zs vs' (up env p a) (t.setIfInBounds p v) hv' (λq hq=>by simpa using hp q (by simp[hq])) h1
def QiI(h1:Nat)(env:Env)(Q:Qy)(K:Qc->Prop):Qy
 |.normal,env',H'=>∃H2,Le h1 env' H' [] H2/\K H2
 |.exit id,env',H'=>∃H2,Le h1 env' H' [] H2/\Q (.exit id) env H2
 |.ret,env',H'=>∃H2,Le h1 env' H' [] H2/\Q .ret env H2
def Jump(Q:Qy)(env:Env)(c:Code)(H:Qc):Prop:=(∃id,c=.exit id/\Q (.exit id) env H)\/(c=.ret/\Q .ret env H)
section
variable {D:Fix}{ro0:Nat->Prop}{σ1:Sig}{H:Qc}{qR ri g:Nat->Prop}{W:World}{P:Program}{N:Nat}{Q:Qy}{K:Qc->Prop}
theorem RJ.round{fn:FuncId}{ps:List Nat}{assign body:Code}{df:Nat}{cs:List A}{vs:List Value}(hD:D.Ok)(n:D.rc=λst pe=>{state:=st,pending:=pe,fn:=fn,tmps:=D.tmps,params:=ps.toArray,assign:=assign,body:=body,defers:=df})
  (hN:D.tmps.size=N)(af:∀p∈ps,p<N)(ae:cs.length=ps.length)(hq:∀b,qR b->ri b)(hI:∀b,ri b->b<W.heap.size/\ ¬g b)(ab:LR ri [] W cs vs)(j0:RJ D ro0 σ1 H .ready none qR g W)
  (h:TC P D.h1 N assign (Qk5 ps cs D.env) H λe env1 H1=>e=.normal/\TC P D.h1 N body env1 H1 (QiI D.h1 D.env Q K)):
  YieldAt Fence.wide 0 P D.l vs.toArray W λe W'=>∃g',Qe5 g g' W W'/\((e=.returned (.bool true)/\ ∃H2 ro2 σ2,K H2/\RJ D ro2 σ2 H2 .ready none ri g' W')\/
   (e=.returned (.bool false)/\ ∃H2 c ro2 σ2,Jump Q D.env c H2/\RJ D ro2 σ2 H2 .done (some c) ri g' W')):=by
 have aj:vs.length=cs.length:=ab.length;have j:=j0.roAdd hq hI;have E:LR (λb=>ro0 b\/ri b) σ1 W cs vs:=ab.mono ⟨λ_ q=>.inr q,λ_ _=>rfl,λ_ _ q=>q,λi b q=>by simp at q⟩;clear j0;generalize(λb=>ro0 b\/ri b)=ro1 at j E;have ak:∀b,D.fr1 b->FrB D ro1 g W b:=λb q=>⟨.inl q,j.sim.frLt b q⟩;have t:=ak _ hD.l1;have J:=j.rc;have hy:=run_yield (P:=P) (r:=D.rc .ready none) (args:=vs.toArray) J (by rw[n];simp[aj,ae]);refine⟨fn,Qic ps vs D.tmps,assign,body,?_,?_⟩
 .rw[hy,n];simp only[];rw[<- Qfw]
 .refine roundIn_of_wpIn trivial ?_;show Code.wpIn (WF (some D.l)) 0 P _ _ _ _;have O:∀s,VR ro1 σ1 W (lk D.env s) (D.tmps.getD s undef):=λs=>(j.env s).mono ⟨λ_ q=>q,λ_ _=>rfl,λ_ _ q=>q,λi b q=>Qdo j.sig q⟩;have ai:QdJ (some D.l) (FrB D ro1 g W) W:=λl e=>by cases e;exact⟨t,_,J⟩
  have y:=h (some D.l) (FrB D ro1 g W) ro1 σ1 {tmps:=Qic ps vs D.tmps,defers:=[]} W ⟨j.simB,QiZ ps cs vs D.env D.tmps E (by rw[hN];exact af) O,by simp[Qfv,hN],List.nodup_nil,λd hd=>by cases hd⟩ ai;refine Code.wpIn_mono ?_ y;rintro e a1 y ⟨x1,env1,H1,ro2,σ2,m,h1,⟨rfl,h2⟩,R,h4,h5,h6⟩;cases e with
  |normal=>
   have k:y.heap[D.l]?=some (.loop (D.rc .ready none)):=(h4.keepFr _ t).trans J;refine⟨_,run_beginRound k (by rw[n]),?_⟩;obtain⟨s2,F⟩:=R.sim.put (obj:=.loop {D.rc .ready none with state:=.busy}) (h6.sub _ t) (Qbe k);have ad:D.l<y.heap.size:=by rw[Vk]at k;exact k.1
   have ac:(y.putObj D.l (.loop {D.rc .ready none with state:=.busy})).heap[D.l]?=some (.loop {D.rc .ready none with state:=.busy}):=World.putObj_heap_same ad;generalize hw2:y.putObj D.l (.loop {D.rc .ready none with state:=.busy})=w2 at*;have ah:QcV m a1.defers w2:=by
    refine⟨R.defers.1,λd hd=>?_⟩;obtain⟨B,e1,e2,e3⟩:=R.defers.2 d hd;refine⟨B,e1,e2,(F.keepFr B (λe=>?_)).trans e3⟩;subst e;rw[k]at e3;cases e3
   have r2:Rel m ro2 σ2 H1 env1 N a1 w2:=⟨s2,λs=>(R.env s).mono (F.ext0 σ2),R.size,ah⟩;have M:m D.l:=h6.sub _ t;refine Code.wpIn_mono ?_ (h2 (some D.l) m ro2 σ2 a1 w2 r2 (λl e=>by cases e;exact⟨M,_,ac⟩));rintro e a3 z ⟨x3,aa,H3,G,σ3,T,g1,g2,g3,g4,g5,g6⟩;have x:z.heap[D.l]?=some (.loop {D.rc .ready none with state:=.busy}):=(g4.keepFr _ M).trans ac;have L:∀(H2:Qc) (jump:Option Code),Le D.h1 aa H3 [] H2->∃v u,(Instr.endRound D.l jump).run P z=.ok v u/\v=.bool jump.isNone/\ ∃g',Qe5 g g' W u/\ ∃a σ4,RJ D a σ4 H2 (if jump.isNone then .ready else .done) jump ri g' u:=by
    intro H2 jump f;obtain⟨a,σ4,r4,s4,t4⟩:=f T G σ3 N a3 z g3;refine⟨_,_,run_endRound jump x,rfl,?_⟩;have al:T D.l:=g6.sub _ M;obtain⟨s5,am⟩:=r4.sim.put (obj:=.loop {{D.rc .ready none with state:=.busy}with state:=if jump.isNone then .ready else .done,pending:=jump}) al (Qbe x);have X:D.l<z.heap.size:=by rw[Vk]at x;exact x.1
    have ag:=World.putObj_heap_same (w:=z) (r:=D.l) (o:=.loop {{D.rc .ready none with state:=.busy}with state:=if jump.isNone then .ready else .done,pending:=jump}) X;have e1:Qf (λb=>FrB D ro1 g W b/\b≠D.l) ro1 W ro2 y:=h4.frMono λb q=>q.1;have e2:Qf (λb=>FrB D ro1 g W b/\b≠D.l) ro2 y ro2 w2:=F.frMono λb q=>q.2;have e3:Qf (λb=>FrB D ro1 g W b/\b≠D.l) ro2 w2 G z:=g4.frMono λb q=>h6.sub b q.1;have e4:Qf (λb=>FrB D ro1 g W b/\b≠D.l) G z a z:=YA s4;have e5:=(((e1.trans e2).trans e3).trans e4).trans (am.frMono λb (q:FrB D ro1 g W b/\b≠D.l)=>q.2);obtain⟨q1,q2⟩:=j.fin hD e5 s5 (λb q=>g6.sub b (h6.sub b q)) (by rw[t4,g5,h5]) (st':=if jump.isNone then .ready else .done) (pe':=jump) (by rw[ag,n]);exact⟨_,q2,a,σ4,q1⟩
   cases e with
   |normal=>
    obtain rfl:x3=.normal:=g1;obtain⟨H2,f,hK⟩:=g2;obtain⟨v,u,Y,rfl,g',V,a,σ4,k3⟩:=L H2 none f;exact⟨_,u,Y,g',V,.inl ⟨rfl,H2,a,σ4,hK,k3⟩⟩
   |exit id=>
    obtain rfl:x3=.exit id:=g1;obtain⟨H2,f,hK⟩:=g2;obtain⟨v,u,Y,rfl,g',V,a,σ4,k3⟩:=L H2 (some (.exit id)) f;exact⟨_,u,Y,g',V,.inr ⟨rfl,H2,_,a,σ4,.inl ⟨id,rfl,hK⟩,k3⟩⟩
   |ret=>
    obtain rfl:x3=.ret:=g1;obtain⟨H2,f,hK⟩:=g2;obtain⟨v,u,Y,rfl,g',V,a,σ4,k3⟩:=L H2 (some .ret) f;exact⟨_,u,Y,g',V,.inr ⟨rfl,H2,_,a,σ4,.inr ⟨rfl,hK⟩,k3⟩⟩
   |_=>exact g1.elim
  |exit id=>cases h1
  |ret=>cases h1
  |_=>exact h1.elim
end
theorem Sim.beside{fr ro:Nat->Prop}{σ:Sig}{H:Qc}{w h:World}(s:Sim fr ro σ H w)(ev:Qf fr ro w ro h)(a:∀b,b<w.heap.size->h.heap[b]?=w.heap[b]?):Sim (λb=>fr b\/(w.heap.size<=b/\b<h.heap.size)) ro σ H h:=by
 have g:Ext ro σ w ro σ h:=ev.ext0 σ;refine⟨s.len,s.roOk.to (λ_ q=>q) ev.keepRo (λb q=>Vn (s.roLt b q) ev.size),λb q=>q.elim (λq=>Vn (s.frLt b q) ev.size) (λq=>q.2),λb q r=>?_,λi b x e f n=>?_,s.inj,λi z x e f=>?_,
  s.hidTo (· = ·) Q0 ev.size (λ_ _ _ _ _ _ _ q=>q) (λi b x c e f n B=>B.elim id λq=>(by have:=(s.hid i b x c e f n).lt;omega)) λj d y m l E=>.inl ⟨j,y,rfl,m,l,id,λc q=>s.hidKeep m l (λz=>a d (s.own j d y m l z).1) ev.keepRo q⟩⟩
 .rcases r with r|r
  .exact s.roFr b q r
  .have:=s.roLt b q;omega
 .obtain⟨t,u,p⟩:=s.own i b x e f n;refine⟨Vn t ev.size,u,λr=>?_⟩;rcases r with r|r
  .exact p r
  .omega
 .refine(s.blk i z x e f).keep g ?_ ?_
  .rintro b rfl k;exact a b (s.own i b x e f k).1
  .rintro b c rfl k;exact a c (s.hid i b x c e f k).lt
theorem QbU{w:World}{o:Obj}{b:Nat}(a:b<w.heap.size):(w.alloc o).heap[b]?=w.heap[b]? :=by
 show(w.heap.push o)[b]?=_;rw[Array.getElem?_push,if_neg (by omega)]
theorem Qmx{P:Program}{fn:FuncId}{tmps:Array Value}{ps:Array Tmp}{assign body:Code}{rd:Option Nat}{fr ro:Nat->Prop}{w:World}(g:QdJ rd fr w)(k:∀b,ro b->b<w.heap.size)(i:∀b,fr b->b<w.heap.size):
  ∃l mark w1 df,(Instr.enterLoop fn tmps ps assign body rd).run P w=.ok (l,mark) w1/\w.heap.size<=l/\l<w1.heap.size/\w1.heap[l]?=some (.loop {state:=.ready,pending:=none,fn:=fn,tmps:=tmps,params:=ps,assign:=assign,body:=body,defers:=df})/\
   (∀b,b<w.heap.size->w1.heap[b]?=w.heap[b]?)/\mark.Nodup/\(∀d∈mark,∃D,d={target:=.collected D,args:= #[]}/\w.heap.size<=D/\D<w1.heap.size/\w1.heap[D]?=some (.deferred (some [])))/\Qf fr ro w ro w1:=by
 have e:∀w1:World,(∀b,b<w.heap.size->w1.heap[b]?=w.heap[b]?)->w.heap.size<=w1.heap.size->w1.os=w.os->w1.tape=w.tape->w1.output=w.output->w1.drawn=w.drawn->Qf fr ro w ro w1:=by
  intro w1 h u p n t s;refine⟨λ_ q=>q,λb q=>h b (k b q),λb q=>h b (i b q),u,λb x q=>?_,p,n,t,by rw[s];exact X0 _⟩;have f:b<w.heap.size:=by
   rcases Nat.lt_or_ge b w.heap.size with z|z
   .exact z
   .unfold World.shape? at q;rw[Array.getElem?_eq_none (by simpa using z)]at q;cases q
  unfold World.shape? at q⊢;rw[h b f];exact q
 cases rd with
 |none=>
  have a:∀b,b<w.heap.size->((w.alloc (.deferred (some []))).alloc (.loop {state:=.ready,pending:=none,fn:=fn,tmps:=tmps,params:=ps,assign:=assign,body:=body,defers:=w.heap.size})).heap[b]?=w.heap[b]? :=λb f=>
   (QbU (by simp;omega)).trans (QbU f)
  refine⟨_,_,_,w.heap.size,run_enterLoop_outer fn tmps ps assign body,by omega,by simp,?_,a,by simp,?_,e _ a (by simp;omega) rfl rfl rfl rfl⟩
  .have:=World.alloc_heap_new (w.alloc (.deferred (some []))) (.loop {state:=.ready,pending:=none,fn:=fn,tmps:=tmps,params:=ps,assign:=assign,body:=body,defers:=w.heap.size})
   rwa [World.size_alloc]at this
  .intro d j;obtain rfl:=List.mem_singleton.1 j;exact⟨_,rfl,X0 _,by simp;omega,(QbU (by simp)).trans (World.alloc_heap_new w _)⟩
 |some r=>
  obtain⟨_,m,y⟩:=g r rfl;have a:∀b,b<w.heap.size->(w.alloc (.loop {state:=.ready,pending:=none,fn:=fn,tmps:=tmps,params:=ps,assign:=assign,body:=body,defers:=m.defers})).heap[b]?=w.heap[b]? :=λb f=>QbU f;exact⟨_,_,_,m.defers,run_enterLoop_inner y fn tmps ps assign body,X0 _,by simp,World.alloc_heap_new w _,a,List.nodup_nil,(λd j=>absurd j List.not_mem_nil),e _ a (by simp) rfl rfl rfl rfl⟩
theorem TC.rangeFunc{P:Program}{h0 N:Nat}{ad:Operand}{ps:List Nat}{assign body:Code}{env:Env}{H:Qc}{Q:Qy}{f:FuncId}{af ac:List A}{Hc:Qc}{T S:Type}{enc:T->List A}{nx:List T->T->List T->Prop}{xs:List T}
  (π:List Nat)(Hp:S->Qc)(V:S->List T->Prop)(s0:S)(hh:h0<=H.length)(hg:opA env ad=.fn (.func f) [] af)(hargs:af=Qaa (rho π H.length) ac)(hH:π.map (λp=>H[p]?)=(Hc.map (QV (rho π H.length))).map some)(hπ:π.Nodup)
  (a5:(ps.all λp=>Nat.blt p N)=true)(eg:∀args w,(callFunc f args).run P w=.ok (.enter f args) w)(aq:QdI P f ac Hc enc nx xs)(ay:∀x,(enc x).length=ps.length)
  (a6:Le H.length env (Qdu H π) env (Hp s0))(hV:V s0 xs)
  (ak:∀s l x rem,V s l->nx l x rem->TC P H.length N assign (Qk5 ps (enc x) env) (Hp s) λe env1 H1=>e=.normal/\TC P H.length N body env1 H1 (QiI H.length env Q λH2=>∃s',V s' rem/\H2=Hp s'))
  (am:∀s,V s []->Q .normal env (Hp s)):TC P h0 N (.rangeFunc ad ps.toArray assign body) env H Q:=by
 intro rd fr ro σ a w r hrd;have hv:=Qg r ad;rw[hg]at hv;obtain⟨l1,E,hv,bf,a0⟩:=hv;obtain rfl:l1=[]:=bf;refine wpIn_rangeFunc ?_;intro fn bg;obtain⟨l,G,Y,df,he,hl,a8,ar,ao,ba,an,aa⟩:=Qmx (P:=P) (fn:=fn) (tmps:=a.tmps) (ps:=ps.toArray) (assign:=assign) (body:=body) (ro:=ro) hrd r.sim.roLt r.sim.frLt;have s1:=r.sim.beside aa ao
 let D:Fix:=⟨fr,ro,σ,w,H.length,env,a.tmps,G++a.defers,l,(λst pe=>{state:=st,pending:=pe,fn:=fn,tmps:=a.tmps,params:=ps.toArray,assign:=assign,body:=body,defers:=df}),(λb=>fr b\/(w.heap.size<=b/\b<Y.heap.size))⟩
 have ag:¬fr l:=λq=>by have:=r.sim.frLt l q;omega
 have hD:D.Ok:=⟨λb q=>.inl q,.inr ⟨hl,a8⟩,ag,r.sim.len⟩;have L:QcV D.fr1 (G++a.defers) Y:=by
  refine⟨List.nodup_append.2 ⟨ba,r.defers.1,λd R d' a2 e=>?_⟩,λd R=>?_⟩
  .subst e;obtain⟨B,e1,e2,_⟩:=an d R;obtain⟨B',ax,a4,_⟩:=r.defers.2 d a2;rw[e1]at ax;have:B=B':=by simpa using ax
   subst this;have:=r.sim.frLt B a4;omega
  .rcases List.mem_append.1 R with R|R
   .obtain⟨B,e1,e2,e3,e4⟩:=an d R;exact⟨B,e1,.inr ⟨e2,e3⟩,e4⟩
   .obtain⟨B,e1,e2,e3⟩:=(r.defers.keep aa).2 d R;exact⟨B,e1,.inl e2,e3⟩
 obtain⟨sp,hσc⟩:=s1.part hH hπ;have ai:LR ro (Q5 σ π) Y ac E:=(Qbo hσc).1 (hargs▸a0.mono (aa.ext0 σ))
 let frX:Nat->Prop:=λb=>D.fr1 b\/(∃(j:Nat) (x:Blk),(Q5 σ π)[j]?=some (some b)/\Hc[j]?=some x/\x.live=true)\/ ∃(j:Nat) (x:Blk) (d:Nat),(Q5 σ π)[j]?=some (some d)/\Hc[j]?=some x/\Hid Y x d b
 have sX:Sim frX ro σ (Qdu H π) Y:=by
  refine(Qdk π s1).frames (λb q=>?_) (λb q r=>?_) (λi b x n m k r=>?_) (λi b x c n m k r=>?_)
  .rcases q with q|⟨j,x,n,m,k⟩|⟨j,x,d,n,m,k⟩
   .exact s1.frLt b q
   .exact(sp.own j b x n m k).1
   .exact(sp.hid j d x b n m k).lt
  .rcases r with r|⟨j,x,n,m,k⟩|⟨j,x,d,n,m,k⟩
   .exact s1.roFr b q r
   .exact(sp.own j b x n m k).2.1 q
   .exact(sp.hid j d x b n m k).ro q
  .rcases Qes _ _ _ _ m with rfl|⟨m,hi⟩
   .cases k
   .rcases r with r|⟨j,y,p1,p2,p3⟩|⟨j,y,d,p1,p2,p3⟩
    .exact(s1.own i b x n m k).2.2 r
    .exact(sp.own j b y p1 p2 p3).2.2 (.inr (.inl ⟨i,x,n,m,k,hi (Qbr k)⟩))
    .exact(sp.hid j d y b p1 p2 p3).fr (.inr (.inl ⟨i,x,n,m,k,hi (Qbr k)⟩))
  .rcases Qes _ _ _ _ m with rfl|⟨m,hi⟩
   .exact k.elim
   .rcases r with r|⟨j,y,p1,p2,p3⟩|⟨j,y,d,p1,p2,p3⟩
    .exact(s1.hid i b x c n m k).fr r
    .exact(sp.own j c y p1 p2 p3).2.2 (.inr (.inr ⟨i,x,b,n,m,k,hi k.holds⟩))
    .exact(sp.hid j d y c p1 p2 p3).fr (.inr (.inr ⟨i,x,b,n,m,k,hi k.holds⟩))
 have rX:Rel frX ro σ (Qdu H π) env N {a with defers:=G++a.defers} Y:=
  ⟨sX,λs=>(r.env s).mono (aa.ext0 σ),r.size,L.1,λd R=>let⟨B,e1,e2,e3⟩:=L.2 d R;⟨B,e1,.inl e2,e3⟩⟩
 obtain⟨ae,σ',r',ab,a9⟩:=a6 frX ro σ N _ Y rX;have hσt:σ.take H.length=σ:=by rw[<- r.sim.len,Vh]
 let g0:Nat->Prop:=λb=>D.fr1 b\/(ae b/\ ¬ro b)\/(∃(i:Nat) (x:Blk),σ'[i]?=some (some b)/\(Hp s0)[i]?=some x/\x.live=true)\/ ∃(i:Nat) (x:Blk) (d:Nat),σ'[i]?=some (some d)/\(Hp s0)[i]?=some x/\Hid Y x d b
 have j0:RJ D ae σ' (Hp s0) .ready none ro g0 Y:=by
  refine⟨r'.sim.frMono λb q=>.inl q,λt=>(r.env t).mono ⟨ab,aa.keepRo,aa.shape,λ_ _ q=>q⟩,a9.trans hσt,aa.trans (YA ab),L,ar,λb q=>?_,λb q=>.inl q,λi b x n m k=>.inr (.inr (.inl ⟨i,x,n,m,k⟩)),λi b x c n m k=>.inr (.inr (.inr ⟨i,x,b,n,m,k⟩)),λb q=>?_⟩
  .by_cases z:ro b
   .exact .inl z
   .exact .inr (.inr (.inl ⟨q,z⟩))
  .rcases q with q|q|⟨i,x,n,m,k⟩|⟨i,x,d,n,m,k⟩
   .exact s1.frLt b q
   .exact r'.sim.roLt b q.1
   .exact(r'.sim.own i b x n m k).1
   .exact(r'.sim.hid i d x b n m k).lt
 have sI:Sim g0 ro (Q5 σ π) Hc Y:=by
  refine sp.frames (λb q=>j0.lt b q) (λb q z=>?_) (λj b x n m k z=>?_) (λj b x c n m k z=>?_)
  .rcases z with z|z|⟨i,x,n,m,k⟩|⟨i,x,d,n,m,k⟩
   .exact s1.roFr b q z
   .exact z.2 q
   .exact(r'.sim.own i b x n m k).2.1 (ab b q)
   .exact(r'.sim.hid i d x b n m k).ro (ab b q)
  .have hX:frX b:=.inr (.inl ⟨j,x,n,m,k⟩);rcases z with z|z|⟨i,y,p1,p2,p3⟩|⟨i,y,d,p1,p2,p3⟩
   .exact(sp.own j b x n m k).2.2 (.inl z)
   .exact r'.sim.roFr b z.1 hX
   .exact(r'.sim.own i b y p1 p2 p3).2.2 hX
   .exact(r'.sim.hid i d y b p1 p2 p3).fr hX
  .have hX:frX c:=.inr (.inr ⟨j,x,b,n,m,k⟩);rcases z with z|z|⟨i,y,p1,p2,p3⟩|⟨i,y,d,p1,p2,p3⟩
   .exact(sp.hid j b x c n m k).fr (.inl z)
   .exact r'.sim.roFr c z.1 hX
   .exact(r'.sim.own i c y p1 p2 p3).2.2 hX
   .exact(r'.sim.hid i d y c p1 p2 p3).fr hX
 let X:Ctx T:={l:=l,J:=λrem q g W=>∃s F σ1,V s rem/\RJ D F σ1 (Hp s) .ready none q g W,Jx:=λ_ q g W=>∃H2 c F σ1,Jump Q env c H2/\RJ D F σ1 H2 .done (some c) q g W,enc:=enc,nx:=nx}
 have a1:∀p∈ps,p<N:=λp hp=>by simpa using Xw.1 a5 p hp
 have hX:X.ok P:=by
  refine⟨⟨λrem q g W W' ae ⟨s,F,σ1,M,O⟩ he=>⟨s,F,σ1,M,O.step hD he⟩,λrem q g g' W ⟨s,F,σ1,M,O⟩ hg hl=>⟨s,F,σ1,M,O.up hg hl⟩⟩,
   ⟨λrem q g W W' ae ⟨H2,c,F,σ1,M,O⟩ he=>⟨H2,c,F,σ1,M,O.step hD he⟩,λrem q g g' W ⟨H2,c,F,σ1,M,O⟩ hg hl=>⟨H2,c,F,σ1,M,O.up hg hl⟩⟩,?_⟩
  rintro lr x rem q g ri W vs a7 ⟨s,F,σ1,M,O⟩ hq hI be;obtain⟨bb,tm,bd,a3,y1,y2⟩:=RJ.round (D:=D) (Q:=Q) (K:=λH2=>∃s',V s' rem/\H2=Hp s') hD rfl r.size a1 (ay x) hq hI be O (ak s lr x rem M a7);refine⟨bb,tm,bd,a3,y1,RoundIn.mono y2 ?_⟩;rintro e W' ⟨g',k1,k2⟩;refine⟨g',ri,λ_ z=>z,k1,?_⟩;rcases k2 with⟨rfl,H2,u,σ2,⟨s',bc,rfl⟩,k3⟩|⟨rfl,H2,c,u,σ2,k3,k4⟩
  .exact .inl ⟨rfl,s',u,σ2,bc,k3⟩
  .exact .inr ⟨rfl,H2,c,u,σ2,k3,k4⟩
 have au:∀(ev:Operand->Value),ev ad=.func (.func f) #[] E.toArray->ev (.const (.func (.yield l) #[] #[]))=.func (.yield l) #[] #[]->(resolve ev (rangeCall ad l) 0).run P Y=.ok {target:=.fn (.func f) E.toArray,args:= #[.func (.yield l) #[] #[]]} Y:=by
  intro ev M O;simp[resolve,go_sem,M,O]
 refine⟨l,G,Y,{target:=.fn (.func f) E.toArray,args:= #[.func (.yield l) #[] #[]]},Y,f, #[.func (.yield l) #[] #[]]++E.toArray,Y,he,au a.eval hv rfl,λ_ _=>trivial,by simp[invoke,go_sem,eg],λh=>by simp[WF,Fence.wide]at h,?_⟩;refine WF.calls.2 ?_;have ah:=aq X rfl rfl hX g0 ro (Q5 σ π) Y E ro sI (λ_ z=>z) ai ⟨s0,ae,σ',hV,j0⟩;have al:(#[.func (.yield l) #[] #[]]++E.toArray:Array Value)=((Value.func (.yield X.l) #[] #[]::E)).toArray:=by simp[X]
 rw[al];refine Calls.mono ah ?_;rintro e W' ⟨⟨v,rfl⟩,g2,qz,bh,av⟩;have fin:∀(H2:Qc) (st:LoopState) (pe:Option Code) (u:Nat->Prop) (σ2:Sig),st≠ .busy->RJ D u σ2 H2 st pe qz g2 W'->∃w4,(Instr.endLoop l).run P W'=.ok pe w4/\Rel D.fr1 u σ2 H2 env N {a with defers:=G++a.defers} w4/\Qf fr ro w u w4:=by
  intro H2 st pe u σ2 hst j;refine⟨_,run_endLoop j.rc (by exact hst),?_⟩;obtain⟨s5,aj⟩:=j.sim.put (obj:=.loop {(D.rc st pe)with state:=.exhausted}) hD.l1 (Qbe j.rc);have hr:=j.rc;refine⟨⟨s5,λt=>((j.env t).mono ⟨λ_ q=>q,λ_ _=>rfl,λ_ _ q=>q,λi b q=>Qdo j.sig q⟩).mono (aj.ext0 σ2),r.size,j.marks.1,λd R=>?_⟩,j.ev.trans (aj.frMono λb q e=>ag (by have e':b=l:=e;rw[<- e'];exact q))⟩;obtain⟨B,e1,e2,e3⟩:=j.marks.2 d R;refine⟨B,e1,e2,(aj.keepFr B (λe=>?_)).trans e3⟩;subst e;rw[hr]at e3;cases e3
 have aw:Grow fr w a.defers D.fr1 (G++a.defers):=by
  refine⟨λb q=>.inl q,λb q=>q.imp id (λq=>q.1),λd R=>?_⟩;rcases List.mem_append.1 R with R|R
  .obtain⟨B,e1,e2,_⟩:=an d R;exact .inr ⟨B,e1,e2⟩
  .exact .inl R
 have az:∀{σ2:Sig},σ2.take H.length=σ->σ2.take h0=σ.take h0:=by
  intro σ2 h;have:=congrArg (List.take h0) h
  rwa [List.take_take,XH hh]at this
 rcases av with⟨s,u,σ2,M,O⟩|⟨rem,H2,c,u,σ2,M,O⟩
 .obtain⟨w4,f1,f2,f3⟩:=fin _ _ _ u σ2 (by intro e;cases e) O;exact⟨none,w4,f1,.normal,env,_,u,σ2,_,rfl,am s M,f2,f3,az O.sig,aw⟩
 .obtain⟨w4,f1,f2,f3⟩:=fin _ _ _ u σ2 (by intro e;cases e) O;refine⟨some c,w4,f1,?_⟩;have hc:TC P h0 N c env H2 Q:=by
   rcases M with⟨id,rfl,M⟩|⟨rfl,M⟩
   .exact TC.exit M
   .exact TC.ret M
  exact Code.wpIn_mono (λe a w q=>q.grow f3 (az O.sig) aw) (hc rd D.fr1 u σ2 _ w4 f2 (hrd.to f3 λb q=>.inl q))
end Go.Sw
namespace Go.Sw
theorem Qh3{h0 i k t T:Nat}{env:Env}{H:Qc}(V:Nat.ble h0 H.length=true)(Q:H[i]?=some (.cells T [.nils])):Le h0 env H env (H.set i (.cells T [.osl H.length 0 0 k])++[.row t k []]):=by
 intro fr F σ N a w r;have E:h0<=H.length:=XY V;have O:i<H.length:=(XS.1 Q).1;have ext:Ext F σ w F (σ++[none]) w:=⟨λ_ q=>q,λ_ _=>rfl,λ_ _ q=>q,λ_ _ h=>Y9 h⟩;have s:=r.sim.phantom t k;have p:(H++[Blk.row t k []])[i]?=some (.cells T [.nils]):=by rw[XT O];exact Q
 have W:H.set i (.cells T [.osl H.length 0 0 k])++[.row t k []]=(H++[Blk.row t k []]).set i (.cells T [.osl H.length 0 0 k]):=by
  rw[List.set_append_left _ _ O]
 have g:∀(j:Nat) (v:Blk),((H++[Blk.row t k []]).set i (.cells T [.osl H.length 0 0 k]))[j]?=some v->(j=i/\v=.cells T [.osl H.length 0 0 k])\/(j≠i/\(H++[Blk.row t k []])[j]?=some v):=by
  intro j v h;by_cases e:j=i
  .subst e;rw[Xa (by simp;omega)]at h;exact .inl ⟨rfl,by simpa using h.symm⟩
  .rw[XW (λq=>e q.symm)]at h;exact .inr ⟨e,h⟩
 have f:∀(j:Nat) (v:Blk),((H++[Blk.row t k []]).set i (.cells T [.osl H.length 0 0 k]))[j]?=some v->v.live=true->∃z,(H++[Blk.row t k []])[j]?=some z/\z.live=true:=by
  intro j v h hv;rcases g j v h with⟨rfl,rfl⟩|⟨_,h⟩
  .exact⟨_,p,rfl⟩
  .exact⟨v,h,hv⟩
 refine⟨F,σ++[none],⟨?_,λq=>(r.env q).mono ext,r.size,r.defers⟩,λ_ q=>q,QQ (by rw[r.sim.len];exact E)⟩;rw[W];refine⟨by rw[Vb];exact s.len,s.roOk,s.frLt,s.roFr,λj b v u B L=>?_,λj P b v z u B L q4 q5 q6=>?_,λj y v u B=>?_,
  s.hidTo (· = ·) Q0 (X0 _) (λ_ _ _ _ _ _ _ q=>q) (λ_ _ _ _ _ _ _ q=>q) λj d y m n R=>.inl ?_⟩
 rotate_left 3
 .rcases g j y n with⟨rfl,rfl⟩|⟨_,h⟩
  .exact⟨j,_,rfl,m,p,λ_=>rfl,λ_ q=>q.elim⟩
  .exact⟨j,y,rfl,m,h,id,λ_ q=>q⟩
 .obtain⟨z,m,n⟩:=f j v B L;exact s.own j b z u m n
 .obtain⟨x,m,n⟩:=f j v L q5;obtain⟨Y,J,G⟩:=f P z q4 q6;exact s.inj j P b x Y u B m J n G
 .rcases g j v B with⟨rfl,rfl⟩|⟨_,h⟩
  .have:=s.blk j y _ u p;cases y with
   |none=>exact this
   |some b=>
    obtain⟨l,m,⟨X,M,rfl,n,R⟩,g4⟩:=this;refine⟨_,m,⟨X,M,rfl,.inl ⟨rfl,n⟩,?_⟩,g4⟩;obtain rfl:M=[]:=R;rfl
  .exact s.blk j y v u h
theorem Qob{h0 i:Nat}{env:Env}{H:Qc}{es:List (A×A)}(e:H[i]?=some (.map es)):Le h0 env H env (H.set i (.fmap es)):=by
 intro f g σ N a w r;have d:∃s,σ[i]?=some s:=by
  have:i<σ.length:=by rw[r.sim.len];exact(XS.1 e).1
  exact⟨_,XR this⟩
 obtain⟨s,d⟩:=d;cases s with
 |none=>exact(r.sim.blk i _ _ d e).elim
 |some b=>
  refine⟨_,σ,⟨r.sim.shutMap d e,λq=>(r.env q).mono ⟨λ_ q=>.inl q,λ_ _=>rfl,λ_ _ q=>q,λ_ _ q=>q⟩,r.size,r.defers⟩,λ_ q=>.inl q,rfl⟩
def anyN{T:Type}(l:List T)(x:T)(rem:List T):Prop:=l.Perm (x::rem)
def QmK(ts te:Nat)(ld:Op):Code:=.block 1 (.region 3 #[{dst:=some 8,op:=.load ts (.tmp 2),type:=ts,pos:="iter.go:52",after:= #[],guard:=none},{dst:=some 9,op:=ld,type:=te,pos:="iter.go:52",after:= #[],guard:=none},
 {dst:=some 10,op:=.buildSlice ts 1 #[(0,.tmp 9)],type:=ts,pos:="iter.go:52",after:= #[{on:=1,ground:=.data}],guard:=none},
 {dst:=some 11,op:=.call {callee:=.builtin .append,args:= #[.tmp 8,.tmp 10],argTypes:= #[ts,ts]},type:=ts,pos:="iter.go:52",after:= #[{on:=0,ground:=.data},{on:=2,ground:=.data}],guard:=none},
 {dst:=none,op:=.store ts (.tmp 2) (.tmp 11),type:=0,pos:="iter.go:52",after:= #[{on:=3,ground:=.data},{on:=3,ground:=.chain},{on:=0,ground:=.phase},{on:=1,ground:=.phase},{on:=2,ground:=.phase},{on:=3,ground:=.phase}],guard:=none}] false)
def Qpm(ts tq te:Nat)(asg:Code)(ld:Op):Code:=(Code.region 0 #[{dst:=some 2,op:=.box ts (.tmp 0),type:=0,pos:="iter.go:50",after:= #[],guard:=none},{dst:=some 4,op:=.assign (.const (.slice none 0 0)),type:=ts,pos:="iter.go:50",after:= #[],guard:=none}] false).seq
 (((Code.region 1 #[{dst:=some 6,op:=.move (.tmp 1),type:=tq,pos:="iter.go:51",after:= #[],guard:=none}] false).seq (.block 0 (.rangeFunc (.tmp 6) #[7] asg (QmK ts te ld)))).seq
  ((Code.region 4 #[{dst:=some 12,op:=.load ts (.tmp 2),type:=ts,pos:="iter.go:54",after:= #[],guard:=none},{dst:=some 4,op:=.assign (.tmp 12),type:=ts,pos:="iter.go:54",after:= #[{on:=0,ground:=.data},{on:=0,ground:=.phase}],guard:=none}] false).seq .ret))
def Qpn(te:Nat):Code:=.region 2 #[{dst:=some 5,op:=.assign (.tmp 7),type:=te,pos:="iter.go:51",after:= #[],guard:=none}] false
section
variable {P:Program}{T:Type}{ts tq te k tm:Nat}{g:FuncId}{es:List (A×A)}{e:T->List A}{ea:T->A}{xs:List T}
abbrev apH(ts te k tm:Nat)(es:List (A×A))(e:T->List A)(done:List T):Qc:=[.dead,.fmap es,.cells ts [.osl 3 0 done.length k],.row te k (done.map e)]
abbrev apE(g:FuncId):Env:=[(6,.fn (.func g) [] [.ptr 0 0]),(4,.nils),(2,.ptr 2 0),(0,.nils),(1,.fn (.func g) [] [.ptr 0 0])]
theorem QnZ{N:Nat}(F:N=13){done:List T}{x:T}{env:Env}{H:Qc}{K:Qc->Prop}{p:Op}(E:QX P ts te k)(J:∀w,(isAgg ts).run P w=.ok false w)(V:∀w,(sizeOf ts).run P w=.ok 1 w)(O:app done [x]=some (done++[x]))
  (R:(e x).length=k)(a:Nat.ble k 16777216=true)(g:Yl (ea x)=true)(f:Q9 (ea x)=e x)(d:(e x).all Yt=true)(L:Yk (e x)=true)(B:Nat.ble 3 H.length=true)
  (l:lk env 2=.ptr 2 0)(j:H[2]?=some (.cells ts [.osl 3 0 done.length k]))(r:H[3]?=some (.row te k (done.map e)))
  (b:∀env',(∀s,s≠8->lk env' s=lk env s)->∀pos,OpV P {dst:=some 9,op:=p,type:=te,pos:=pos,after:= #[],guard:=none} env' H (ea x))
  (M:∀env',∃H2,Le 3 env' (((((H++[Blk.row te k [e x]]).set 3 .dead)++[Blk.row te k ((done++[x]).map e)]).set 2 (.cells ts [.osl (H.length+1) 0 (done++[x]).length k]))) [] H2/\K H2){env0:Env}{Q:Qy}:
  TC P 3 N (QmK ts te p) env H (QiI 3 env0 Q K):=by
 subst F;have G:3<=H.length:=XY B;have u:3<H.length:=(XS.1 r).1;refine TC.block (TC.region ?_);refine QF rfl rfl rfl (OpV.load (v:=.osl 3 0 done.length k) (cs:=[]) rfl J l (Pts.cells j rfl)) ?_;refine QF rfl rfl rfl (x:=ea x) ?_ ?_
 .refine b _ (λs z=>?_) _;simp only[up,lk];have:Nat.beq s 8=false:=by
   rw[Bool.eq_false_iff];intro q;exact z (XX q)
  rw[this];rfl
 refine Qci (by omega) rfl rfl rfl (OpH.lit (xs:=[.tmp 9]) (es:=[e x]) E rfl rfl (by simpa using a) ?_ ?_ ⟨R,trivial⟩ (by simpa using d) (by simpa using L)) ?_
 .simp[opA,lk,up,g]
 .simp[Yc,opA,lk,up,f]
 refine Qci (x:=.osl (H.length+1) 0 (done++[x]).length k) (H':=((H++[Blk.row te k [e x]]).set 3 .dead)++[Blk.row te k ((done++[x]).map e)]) (by simp;omega) rfl rfl rfl ?_ ?_
 .have:=QW (P:=P) (o:={dst:=some 11,op:=.call {callee:=.builtin .append,args:= #[.tmp 8,.tmp 10],argTypes:= #[ts,ts]},type:=ts,pos:="iter.go:52",after:= #[{on:=0,ground:=.data},{on:=2,ground:=.data}],guard:=none})
   (env:=up (up (up env 8 (.osl 3 0 done.length k)) 9 (ea x)) 10 (.osl H.length 0 1 k)) (H:=H++[Blk.row te k [e x]]) (x:=.tmp 8) (y:=.tmp 10) (e:=e) (m:=[x]) (i:=3) (n:=done.length) (ya:=.osl H.length 0 1 k) O E E.sl (YR (t:=te) (by simp) rfl) rfl rfl rfl rfl (by rw[XT u];exact r) rfl
  simpa using this
 refine QiG (by simp;omega) rfl rfl (OpU.store (i:=2) (off:=0) (T:=ts) (n:=1) (cs:=[.osl 3 0 done.length k]) (vs:=[.osl (H.length+1) 0 (done++[x]).length k]) (cs':=[.osl (H.length+1) 0 (done++[x]).length k]) (v:=.osl (H.length+1) 0 (done++[x]).length k) rfl ?_ ?_ V rfl rfl rfl rfl rfl rfl rfl) ?_
 .exact l
 .have h:2<H.length:=by omega
  rw[XT (by simp;omega),XW (by decide),XT h];exact j
 .refine WO.nil ?_;exact M _
theorem QmJ{xs done l rem:List T}{x:T}(e:Nat.ble xs.length QO=true)(a:(done++l).Perm xs)(b:l.Perm (x::rem)):app done [x]=some (done++[x])/\((done++[x])++rem).Perm xs:=by
 have f:=a.length_eq;have d:=b.length_eq;have g:=XY e;simp at f d;refine⟨?_,?_⟩
 .unfold app;have:Nat.ble (done.length+[x].length) QO=true:=XZ (by simp;omega);rw[this];rfl
 .refine List.Perm.trans ?_ a;simp only[Vq,List.singleton_append];exact(List.Perm.append_left done b).symm
theorem Qgb{m:FuncId}{fn:Func}(n:P.funcs[m]?=some fn)(B:fn.body=some (Qpm ts tq te (Qpn te) (.move (.tmp 5))))(s:fn.ntmps=13)(M:fn.results= #[.tmp 4])(E:QX P ts te 1)(j:∀w,(isAgg ts).run P w=.ok false w)(L:∀w,(sizeOf ts).run P w=.ok 1 w)
  (F:∀args w,(callFunc g args).run P w=.ok (.enter g args) w)(b:QdI P g [.ptr 0 0] [.cells tm [.map 1],.fmap es] (λx=>[ea x]) anyN xs)(G:Nat.ble xs.length QO=true)
  (N:∀x,QbB (ea x)=true)(h:∀x,Yl (ea x)=true)(f:∀x,Q9 (ea x)=[ea x])(e:∀x,Yt (ea x)=true)(u:∀x,Ye (ea x)=true):
  C P m [.nils,.fn (.func g) [] [.ptr 0 0]] [.cells tm [.map 1],.fmap es] (λr H1=>∃p:List T,p.Perm xs/\r=.osl 2 0 p.length 1/\H1=[.dead,.fmap es,.row te 1 (p.map λx=>[ea x])]):=by
 refine Qb n B s rfl ?_;refine TC.seq (TC.region ?_);refine Qci (XY rfl) rfl rfl rfl (OpH.box (v:=.nils) (cs:=[.nils]) rfl rfl rfl rfl rfl) ?_;refine QF rfl rfl rfl (OpV.assign (v:=.nils) rfl rfl) ?_;refine WO.nil ?_;refine TC.seq (TC.seq (TC.region ?_));refine QF rfl rfl rfl (OpV.move (v:=.fn (.func g) [] [.ptr 0 0]) rfl rfl) ?_;refine WO.nil ?_;refine TC.block ?_;refine TC.rangeFunc (env:=apE g) (ps:=[7]) (S:=List T) [0,1] (apH ts te 1 tm es (λx=>[ea x])) (λdone l=>(done++l).Perm xs) [] (XY rfl) rfl rfl rfl (by decide) rfl F b (λx=>rfl) ?_ (List.Perm.refl _) ?_ ?_
 .exact Qh3 (h0:=3) (i:=2) (t:=te) (k:=1) (H:=[.dead,.fmap es,.cells ts [.nils]]) rfl rfl
 .intro done l x rem d z;obtain⟨q,y⟩:=QmJ G d z;refine TC.region (QF rfl rfl rfl (OpV.assign (v:=ea x) rfl rfl) (WO.nil ⟨rfl,?_⟩));refine QnZ (ea:=ea) rfl E j L q rfl rfl (h x) (f x) (by simp[e x]) (by simp[Yk,u x]) rfl rfl rfl rfl ?_ ?_
  .intro a J pos;exact OpV.move rfl (by show lk a 5=ea x;rw[J 5 (by decide)];rfl)
  .intro a;exact⟨_,Lr (H':=apH ts te 1 tm es (λx=>[ea x]) (done++[x])) [0,1,2,5],_,y,rfl⟩
 .intro done d;rw[Vo]at d;refine TC.seq (TC.region ?_);refine QF rfl rfl rfl (OpV.load (v:=.osl 3 0 done.length 1) (cs:=[]) rfl j rfl (Pts.cells rfl rfl)) ?_;refine QF rfl rfl rfl (OpV.assign (v:=.osl 3 0 done.length 1) rfl rfl) ?_;refine WO.nil ?_;refine TC.ret ?_;exact⟨[(4,.osl 2 0 done.length 1)],[.dead,.fmap es,.row te 1 (done.map λx=>[ea x])],_,Lr [0,1,3],QcO.one M rfl,done,d,rfl,rfl⟩
end
theorem TCy.le{T:Type}{X:Ctx T}{P:Program}{h0 N:Nat}{c:Code}{env env':Env}{H H':Qc}{l:YSt T}{Q:Ys T}(k:Le h0 env H env' H')(h:TCy X P h0 N c env' H' l Q):TCy X P h0 N c env H l Q:=by
 intro x y m n σ a w g r hj hrd;obtain⟨j,σ',u,s,t⟩:=k m n σ N a w r;obtain⟨⟨p,f,i⟩,d⟩:=hj;exact Code.wpIn_mono (λe a w q=>q.grow s (X0 _) t (Grow.refl _ _ _)) (h x y m j σ' a w g u ⟨⟨p,λb z=>s b (f b z),i⟩,d⟩ hrd)
mutual
theorem Qg1:∀{a:A},QbB a=true->Ye a=true
 |.any,_=>rfl
 |.bool _,_=>rfl
 |.int _ _,_=>rfl
 |.str _,_=>rfl
 |.nilp,_=>rfl
 |.ptr _ _,h=>by simp[QbB]at h
 |.rp _,_=>rfl
 |.nils,_=>rfl
 |.rsl _ _,_=>rfl
 |.osl _ _ _ _,h=>by simp[QbB]at h
 |.agg cs,h=>by simp only[QbB]at h;simp only[Ye];exact Qfx h
 |.fn _ a c,h=>by simp[QbB]at h
 |.nilf,_=>rfl
 |.iface _ v,h=>by simp[QbB]at h
 |.nilif,_=>rfl
 |.map _,h=>by simp[QbB]at h
 |.nilm,_=>rfl
 |.tup vs,h=>by simp[QbB]at h
theorem Qfx:∀{l:List A},Qea l=true->Yk l=true
 |[],_=>rfl
 |a::r,h=>by
  simp only[Qea,X4]at h;simp only[Yk,X4];exact⟨Qg1 h.1,Qfx h.2⟩
end
theorem QgV{P:Program}{o:Oper}{env:Env}{H:Qc}{y z:Operand}{l:Nat}{a:A}{j:Array TypeId}(i:o.op=.call {callee:=.value y,args:= #[z],argTypes:=j})(h:opA env y=.fn (.yield l) [] [])(m:opA env z=a)(g:Ye a=true){N:Nat}:
  ∀fr ro σ act w,Rel fr ro σ H env N act w->∃vs:List Value,LR ro [] w [a] vs/\(execOp act.eval o).run P w=(Instr.yield l vs.toArray).run P w:=by
 intro fr ro σ act w r;have b:=Qg r y;rw[h]at b;obtain⟨e,f,b,k,n⟩:=b;obtain rfl:e=[]:=k;obtain rfl:f=[]:=n;have d:=Qg r z;rw[m]at d;refine⟨[act.eval z],⟨_,_,rfl,VR.data g d,rfl⟩,?_⟩;generalize act.eval=ev at*;simp[execOp,i,resolve,invoke,go_sem,b]
theorem QjO{P:Program}{o:Oper}{env:Env}{H:Qc}{y b d:Operand}{l:Nat}{f j:A}{s:Array TypeId}(t:o.op=.call {callee:=.value y,args:= #[b,d],argTypes:=s})(q:opA env y=.fn (.yield l) [] [])(i:opA env b=f)(h:opA env d=j)(e:Ye f=true)(g:Ye j=true){N:Nat}:
  ∀fr ro σ act w,Rel fr ro σ H env N act w->∃vs:List Value,LR ro [] w [f,j] vs/\(execOp act.eval o).run P w=(Instr.yield l vs.toArray).run P w:=by
 intro fr ro σ act w r;have a:=Qg r y;rw[q]at a;obtain⟨n,p,a,u,x⟩:=a;obtain rfl:n=[]:=u;obtain rfl:p=[]:=x;have m:=Qg r b;rw[i]at m;have k:=Qg r d;rw[h]at k;refine⟨[act.eval b,act.eval d],⟨_,_,rfl,VR.data e m,_,_,rfl,VR.data g k,rfl⟩,?_⟩;generalize act.eval=ev at*;simp[execOp,t,resolve,invoke,go_sem,a]
def QlT(tm tb ty tk:Nat)(asg:Array Oper)(ld:Op):Code:=
 (Code.region 0 #[{dst:=some 4,op:=.load tm (.tmp 1),type:=tm,pos:="iter.go:27",after:= #[],guard:=none},{dst:=some 5,op:=.range tm (.tmp 4),type:=0,pos:="iter.go:27",after:= #[{on:=0,ground:=.data}],guard:=none}] false).seq
 (.block 0 (Code.loop ((Code.region 1 #[{dst:=some 6,op:=.next (.tmp 5) false,type:=0,pos:="iter.go:27",after:= #[],guard:=none},{dst:=some 7,op:=.extract (.tmp 6) 0,type:=tb,pos:="iter.go:27",after:= #[{on:=0,ground:=.data}],guard:=none}] false).seq
  ((Code.cond (.tmp 7) .skip (.exit 0)).seq (.block 1 ((Code.region 2 asg false).seq
   ((Code.region 3 #[{dst:=some 10,op:=.move (.tmp 0),type:=ty,pos:="iter.go:28",after:= #[],guard:=none},{dst:=some 11,op:=ld,type:=tk,pos:="iter.go:28",after:= #[],guard:=none},
    {dst:=some 12,op:=.call {callee:=.value (.tmp 10),args:= #[.tmp 11],argTypes:= #[tk]},type:=tb,pos:="iter.go:28",after:= #[{on:=0,ground:=.data},{on:=1,ground:=.data}],guard:=none},
    {dst:=some 13,op:=.unOp .not tb (.tmp 12),type:=tb,pos:="iter.go:28",after:= #[{on:=2,ground:=.data}],guard:=none}] false).seq (.cond (.tmp 13) .ret .skip))))))))
def Qo6(tk:Nat):Array Oper:= #[{dst:=some 8,op:=.entry (.tmp 5),type:=0,pos:="iter.go:27",after:= #[],guard:=none},{dst:=some 9,op:=.extract (.tmp 8) 0,type:=tk,pos:="iter.go:27",after:= #[{on:=0,ground:=.data}],guard:=none},
 {dst:=some 3,op:=.assign (.tmp 9),type:=tk,pos:="iter.go:27",after:= #[{on:=1,ground:=.data},{on:=0,ground:=.phase},{on:=1,ground:=.phase}],guard:=none}]
section
variable {P:Program}{K V:Type}{tm tb ty tk kt et:Nat}{ek:K->A}{ev:V->A}{m:List (K×V)}{T:Type}
abbrev kyE(l:Nat):Env:=[(0,.fn (.yield l) [] []),(1,.ptr 0 0),(5,.ptr 2 0)]
abbrev kyH(tm:Nat)(ek:K->A)(ev:V->A)(m l:List (K×V)):Qc:=[.cells tm [.map 1],.fmap (Qt ek ev m),.iter none (Qt ek ev l)]
theorem Qj5{g:FuncId}{fn:Func}{h:Array Oper}{r:Op}(B:P.funcs[g]?=some fn)(N:fn.body=some (QlT tm tb ty tk h r))(F:fn.ntmps=14)(T:fn.results= #[])(G:∀w,(isAgg tm).run P w=.ok false w)(L:P.underlying tm=some (.map kt et))(E:∀x,QbB (ek x)=true)
  (round:∀(X:Ctx K) (e:K×V) (l:List (K×V)) (env:Env) (H:Qc) (d:YSt K) (Q:Ys K),lk env 0=.fn (.yield X.l) [] []->lk env 1=.ptr 0 0->lk env 5=.ptr 2 0->H=[.cells tm [.map 1],.fmap (Qt ek ev m),.iter (some (ek e.1,ev e.2)) (Qt ek ev l)]->
   (∀env' H',lk env' 0=.fn (.yield X.l) [] []->lk env' 1=.ptr 0 0->lk env' 5=.ptr 2 0->(∀env2 b,lk env2 0=.fn (.yield X.l) [] []->lk env2 1=.ptr 0 0->lk env2 5=.ptr 2 0->Le 2 (up (up env2 12 (.bool b)) 13 (.bool (!b))) H' (kyE X.l) (kyH tm ek ev m l))->
    (∀pos env2,(∀s,s≠10->lk env2 s=lk env' s)->OpV P {dst:=some 11,op:=r,type:=tk,pos:=pos,after:= #[],guard:=none} env2 H' (ek e.1))->Nat.ble 2 H'.length=true->Q .normal env' H' d)->
   TCy X P 2 14 (.region 2 h false) env H d Q):
  QdI P g [.ptr 0 0] [.cells tm [.map 1],.fmap (Qt ek ev m)] (λx=>[ek x]) anyN (m.map Prod.fst):=by
 refine QcM B N F rfl T ?_;intro X hE hNx;refine TCy.seq (TCy.lift (TC.region ?_));refine QF rfl rfl rfl (OpV.load (v:=.map 1) (cs:=[]) rfl G rfl (Pts.cells rfl rfl)) ?_;refine Qci (XY rfl) rfl rfl rfl (QiN L) ?_;refine WO.nil ?_;refine TCy.block ?_;refine Qf3 (I:=λn env H d=>∃l:List (K×V),l.length=n/\d=.on (l.map Prod.fst)/\Le 2 env H (kyE X.l) (kyH tm ek ev m l)) ?_ ⟨m,rfl,rfl,Lr [0,1,2]⟩;rintro n env H d ⟨l,M,rfl,k⟩;refine TCy.le k ?_;refine TCy.seq (TCy.lift (TC.region ?_));refine QmO (XY rfl) rfl rfl rfl (OpE.next rfl rfl rfl) ?_;rintro v H' (⟨j,rfl,rfl⟩|⟨W,J,j,rfl,rfl⟩)
 .have R:l=[]:=List.map_eq_nil_iff.1 j;subst R;refine QF rfl rfl rfl (OpV.extract (v:=.bool false) rfl rfl rfl) ?_;refine WO.nil ?_;refine TCy.seq (TCy.cond (t:=false) rfl (λe=>by cases e) (λ_=>?_));exact TCy.exit ⟨.inl rfl,.inl rfl⟩
 .obtain⟨O,u,p⟩:=QjX j rfl;cases O with
  |nil=>cases p
  |cons e i=>
   simp only[Vr,List.cons.injEq]at p;obtain⟨rfl,rfl⟩:=p;have f:i.length<n:=by rw[<- M, <- u.length_eq];simp
   refine QF rfl rfl rfl (OpV.extract (v:=.bool true) rfl rfl rfl) ?_;refine WO.nil ?_;refine TCy.seq (TCy.cond (t:=true) rfl (λ_=>?_) (λe=>by cases e));refine TCy.skip ?_;refine TCy.block ?_;refine TCy.seq (round X e i _ _ _ _ rfl rfl rfl rfl ?_);intro env' H' g0 g1 g5 hfin hld hL;refine TCy.seq (TCy.region ?_);refine WOy.step (QF rfl rfl rfl (OpV.move (v:=.fn (.yield X.l) [] []) rfl g0) (WO.nil ⟨rfl,?_⟩));refine WOy.step (QF rfl rfl rfl (x:=ek e.1) (hld _ _ λs q=>?_) (WO.nil ⟨rfl,?_⟩))
   .simp only[up,lk];have:Nat.beq s 10=false:=by rw[Bool.eq_false_iff];intro z;exact q (XX z)
    rw[this];rfl
   refine WOy.yield (x:=e.1) (rem:=i.map Prod.fst) ?_ rfl rfl rfl ?_ ?_
   .rw[hNx];exact u.symm.map Prod.fst
   .rw[hE];refine QgV (y:=.tmp 10) (z:=.tmp 11) (l:=X.l) (a:=ek e.1) rfl ?_ ?_ (Qg1 (E _))
    .rfl
    .rfl
   .intro b;refine WOy.step (QF rfl rfl rfl (OpV.not (b:=b) rfl rfl) (WO.nil ⟨rfl,?_⟩));refine WOy.nil ?_;refine TCy.cond (t:= !b) rfl (λq=>?_) (λq=>?_)
    .obtain rfl:b=false:=by simpa using q
     exact TCy.ret ⟨.inr rfl,.inr ⟨_,rfl⟩⟩
    .obtain rfl:b=true:=by simpa using q
     refine TCy.skip ?_;exact⟨_,f,i,rfl,rfl,hfin _ true g0 g1 g5⟩
theorem Qe4{g:FuncId}{fn:Func}(d:P.funcs[g]?=some fn)(t:fn.body=some (QlT tm tb ty tk (Qo6 tk) (.move (.tmp 3))))(j:fn.ntmps=14)(r:fn.results= #[])(p:∀w,(isAgg tm).run P w=.ok false w)(s:P.underlying tm=some (.map kt et))(f:∀x,QbB (ek x)=true):
  QdI P g [.ptr 0 0] [.cells tm [.map 1],.fmap (Qt ek ev m)] (λx=>[ek x]) anyN (m.map Prod.fst):=by
 refine Qj5 (et:=et) (kt:=kt) d t j r p s f ?_;intro X e l env H st Q g0 g1 g5 hH hk;subst hH;refine TCy.lift (TC.region ?_);refine QF rfl rfl rfl (OpV.entry (e:=(ek e.1,ev e.2)) rfl g5 rfl) ?_;refine QF rfl rfl rfl (OpV.extract (v:=ek e.1) rfl rfl rfl) ?_;refine QF rfl rfl rfl (OpV.assign (v:=ek e.1) rfl rfl) ?_;refine WO.nil ?_;refine hk _ _ g0 g1 g5 ?_ ?_ rfl
 .intro a b h q k;exact Le.trans (QkW (i:=2) (es:=Qt ek ev l) rfl rfl) (Lr [0,1,2] (hE:=⟨h,q,k,trivial⟩))
 .intro pos a n;exact OpV.move rfl (by show lk a 3=_;rw[n 3 (by decide)];rfl)
end
def Qph(ts tq fA:Nat):Code:=(Code.region 0 #[{dst:=some 2,op:=.assign (.const (.slice none 0 0)),type:=ts,pos:="iter.go:59",after:= #[],guard:=none}] false).seq
 ((Code.region 1 #[{dst:=some 3,op:=.move (.tmp 0),type:=tq,pos:="iter.go:60",after:= #[],guard:=none},
  {dst:=some 4,op:=.call {callee:=.value (.func fA),args:= #[.const (.slice none 0 0),.tmp 3],argTypes:= #[ts,tq]},type:=ts,pos:="iter.go:60",after:= #[{on:=0,ground:=.data}],guard:=none},
  {dst:=some 2,op:=.assign (.tmp 4),type:=ts,pos:="iter.go:60",after:= #[{on:=1,ground:=.data},{on:=1,ground:=.chain},{on:=0,ground:=.phase},{on:=1,ground:=.phase}],guard:=none}] false).seq .ret)
theorem Qga{P:Program}{T:Type}{f l i k j:Nat}{g:FuncId}{es:List (A×A)}{e:T->List A}{xs:List T}{fC a:FuncId}{fn:Func}(n:P.funcs[fC]?=some fn)(u:fn.body=some (Qph f l a))(q:fn.ntmps=5)(t:fn.results= #[.tmp 2])
  (b:∀(env:Env) (H:Qc),lk env 3=.fn (.func g) [] [.ptr 0 0]->OpC P {dst:=some 4,op:=.call {callee:=.value (.func a),args:= #[.const (.slice none 0 0),.tmp 3],argTypes:= #[f,l]},type:=f,pos:="iter.go:60",after:= #[{on:=0,ground:=.data}],guard:=none} env H a [.nils,.fn (.func g) [] [.ptr 0 0]])
  (m:C P a [.nils,.fn (.func g) [] [.ptr 0 0]] [.cells j [.map 1],.fmap es] (λr H1=>∃p:List T,p.Perm xs/\r=.osl 2 0 p.length k/\H1=[.dead,.fmap es,.row i k (p.map e)])):
  C P fC [.fn (.func g) [] [.ptr 0 0]] [.cells j [.map 1],.fmap es] (λr H1=>∃p:List T,p.Perm xs/\r=.osl 2 0 p.length k/\H1=[.dead,.fmap es,.row i k (p.map e)]):=by
 refine Qb n u q rfl ?_;refine TC.seq (TC.region ?_);refine QF rfl rfl rfl (OpV.assign (v:=.nils) rfl rfl) ?_;refine WO.nil ?_;refine TC.seq (TC.region ?_);refine QF rfl rfl rfl (OpV.move (v:=.fn (.func g) [] [.ptr 0 0]) rfl rfl) ?_;refine WO.call (d:=some 4) [0,1] (XY rfl) rfl rfl (λx h=>by cases h;decide) (b _ _ rfl) rfl rfl (by decide) m ?_;rintro r H1 ⟨p,s,rfl,rfl⟩;refine QF rfl rfl rfl (OpV.assign (v:=.osl 2 0 p.length k) rfl rfl) ?_;refine WO.nil ?_;refine TC.ret ?_;exact⟨[(2,.osl 2 0 p.length k)],[.dead,.fmap es,.row i k (p.map e)],_,Lr [0,1,2],QcO.one t rfl,p,s,rfl,rfl⟩
def Qkz{K R:Type}[DecidableEq R](l:List K)(k:List K->Option R):Option R:=bif Nat.ble l.length QO then anyP k l else none
theorem Qjy{K R:Type}[DecidableEq R]{l:List K}{k:List K->Option R}{r:R}(h:Qkz l k=some r):Nat.ble l.length QO=true/\ ∀p,p.Perm l->k p=some r:=by
 unfold Qkz at h;cases q:Nat.ble l.length QO with
 |true=>rw[q]at h;exact⟨rfl,Qn0 h⟩
 |false=>rw[q]at h;cases h
end Go.Sw
namespace Go.Sw
section
variable {P:Program}{o:Oper}{env:Env}{H:Qc}{fr ro:Nat->Prop}{σ:Sig}{w:World}
end
section
variable {P:Program}{h0 N:Nat}{A B C:Code}{env:Env}{H:Qc}{Q:Qy}
end
end Go.Sw
namespace Go.Sw
section
variable {P:Program}{o:Oper}{env:Env}{H:Qc}
def YE(k:IntKind)(m n:Int):Int:=k.wrap (BitVec.ofInt k.bits m&&& BitVec.ofInt k.bits n).toNat
def YF(k:IntKind)(m n:Int):Int:=m.fdiv (2^(min n.toNat k.bits))
theorem OpV.and{t u:TypeId}{x y:Operand}{k:IntKind}{m n:Int}(e:o.op=.binOp .and t x y u)(g:opA env x=.int k m)(f:opA env y=.int k n):OpV P o env H (.int k (YE k m n)):=by
 intro i h σ N a w r;have d:=QU r g;have b:=QU r f;refine⟨_,?_,rfl⟩;generalize a.eval=ρ at*;simp[execOp,e,d,b,Go.binOp,eqGuard,Op.intBits,go_sem,YE]
theorem OpV.shr{t u:TypeId}{x y:Operand}{k b:IntKind}{m n:Int}(e:o.op=.binOp .shr t x y u)(h:opA env x=.int k m)(f:opA env y=.int b n)(i:0<=n):OpV P o env H (.int k (YF k m n)):=by
 intro l j σ N a w r;have d:=QU r h;have g:=QU r f;refine⟨_,?_,rfl⟩;generalize a.eval=ρ at*;simp[execOp,e,d,g,Go.binOp,eqGuard,Op.shift,go_sem,YF,Int.not_lt.2 i]
theorem Ya{h0 i m t k T:Nat}{cs:List A}(J:Nat.ble h0 H.length=true)(n:H[i]?=some (.cells T cs))(e:cs[m]?=some .nils):
  Le h0 env H env (H.set i (.cells T (cs.set m (.osl H.length 0 0 k)))++[.row t k []]):=by
 intro L g σ N a w r;have j:h0<=H.length:=XY J;have p:i<H.length:=(XS.1 n).1;have ext:Ext g σ w g (σ++[none]) w:=⟨λ_ q=>q,λ_ _=>rfl,λ_ _ q=>q,λ_ _ h=>Y9 h⟩;have s:=r.sim.phantom t k;have d:(H++[Blk.row t k []])[i]?=some (.cells T cs):=by rw[XT p];exact n
 have u:H.set i (.cells T (cs.set m (.osl H.length 0 0 k)))++[.row t k []]=(H++[Blk.row t k []]).set i (.cells T (cs.set m (.osl H.length 0 0 k))):=by
  rw[List.set_append_left _ _ p]
 rw[u];refine⟨g,σ++[none],⟨s.weaken d rfl ?_,λq=>(r.env q).mono ext,r.size,r.defers⟩,λ_ q=>q,QQ (by rw[r.sim.len];exact j)⟩;intro y h;cases y with
 |none=>exact h
 |some b=>
  obtain⟨l,B,G,z⟩:=h;refine⟨l,B,?_,z⟩;clear B z d u n
  induction cs generalizing m l with
  |nil=>cases e
  |cons c cs F=>
   obtain⟨v,f,rfl,x,E⟩:=G;cases m with
   |zero=>
    simp at e;subst e;exact⟨v,f,rfl,.inl ⟨rfl,x⟩,E⟩
   |succ m=>exact⟨v,f,rfl,x,F (by simpa using e) f E⟩
end
end Go.Sw
namespace Go.Sw
end Go.Sw
namespace Go.Sw
def Qcd:Option Blk->Bool
 |some .dead=>true
 |_=>false
def Qar(hB hE:Nat)(H H':Qc):Bool:=(List.range (hE-hB)).all λp=> !Qcd H'[hB+p]? ||Qcd H[hB+p]?
def QjJ(hB hE:Nat)(σ:Sig)(H:Qc):Prop:=∀p,hB<=p->p<hE->Qcd H[p]?=true->σ[p]?=some none
theorem Qkq{hB hE:Nat}{H H':Qc}(h:Qar hB hE H H'=true){p:Nat}(d:hB<=p)(b:p<hE)(a:Qcd H'[p]?=true):Qcd H[p]?=true:=by
 have:=Xw.1 h (p-hB) (List.mem_range.2 (by omega));rw[show hB+(p-hB)=p by omega,a]at this;simpa using this
theorem Sim.allocAt{fr ro:Nat->Prop}{σ:Sig}{H:Qc}{w:World}(s:Sim fr ro σ H w){p:Nat}(J:σ[p]?=some none){obj:Obj}{x:Blk}
  (O:BR ro (σ.set p (some w.heap.size)) (w.alloc obj) x (some w.heap.size))
  (F:∀c,Hid (w.alloc obj) x w.heap.size c->False:=by exact λ_ h=>h.elim):Sim fr ro (σ.set p (some w.heap.size)) (H.set p x) (w.alloc obj):=by
 have ev:Qf fr ro w ro (w.alloc obj):=Qf.alloc obj s.roLt s.frLt;have t:=s.len;have E:p<σ.length:=(XS.1 J).1;have u:Ext ro σ w ro (σ.set p (some w.heap.size)) (w.alloc obj):=⟨ev.sub,ev.keepRo,ev.shape,λi b q=>by
  rw[XW (λz=>by subst z;rw[J]at q;cases q)];exact q⟩
 have e:∀(i:Nat) (y:Option Nat),(σ.set p (some w.heap.size))[i]?=some y->(i≠p/\σ[i]?=some y)\/(i=p/\y=some w.heap.size):=by
  intro i y h;by_cases q:i=p
  .subst q;rw[Xa E]at h;exact .inr ⟨rfl,(X7 h).symm⟩
  .rw[XW (λz=>q z.symm)]at h;exact .inl ⟨q,h⟩
 have n:∀i:Nat,i≠p->(H.set p x)[i]?=H[i]? :=λi N=>XW (λz=>N z.symm);have M:(H.set p x)[p]?=some x:=Xa (by omega);refine⟨by simp[t],s.roOk.to (λ_ q=>q) ev.keepRo (λb h=>?_),λb h=>?_,s.roFr,?_,?_,?_,s.hidTo (· = ·) Q0 (by rw[Yq];omega) (λ_ _ _ _ _ _ _ q=>q) (λ_ _ _ _ _ _ _ q=>q) λj d y l k Q=>?_⟩
 rotate_left 5
 .rcases e j _ l with⟨q,l⟩|⟨rfl,m⟩
  .rw[n j q]at k;exact .inl ⟨j,y,rfl,l,k,id,λc q=>s.hidKeep l k (λz=>Yr w obj d (s.own j d y l k z).1) ev.keepRo q⟩
  .rw[M]at k;cases k;cases m;exact .inr ⟨X0 _,F⟩
 .rw[Yq];have:=s.roLt b h;omega
 .rw[Yq];have:=s.frLt b h;omega
 .intro i b y f g r;rw[Yq];rcases e i _ f with⟨q,f⟩|⟨rfl,m⟩
  .rw[n i q]at g;obtain⟨a,b,c⟩:=s.own i b y f g r;exact⟨by omega,b,c⟩
  .cases m;exact⟨by omega,λq=>by have:=s.roLt _ q;omega,λq=>by have:=s.frLt _ q;omega⟩
 .intro i j b y z f g r B L G;rcases e i _ f with⟨q,l⟩|⟨P,m⟩<;>rcases e j _ g with⟨q',k⟩|⟨ej,e2⟩
  .rw[n i q]at r;rw[n j q']at B;exact s.inj i j b y z l k r B L G
  .cases e2;rw[n i q]at r;have:=(s.own i _ y l r L).1;omega
  .cases m;rw[n j q']at B;have:=(s.own j _ z k B G).1;omega
  .rw[P,ej]
 .intro i y z f g;rcases e i _ f with⟨q,f⟩|⟨rfl,m⟩
  .rw[n i q]at g;refine(s.blk i y z f g).keep u ?_ ?_
   .rintro b rfl t;exact Yr w obj b (s.own i b z f g t).1
   .rintro b c rfl t;exact Yr w obj c (s.hid i b z c f g t).lt
  .rw[M]at g;cases g;subst m;exact O
def OpZ(P:Program)(o:Oper)(t:Nat)(cs:List A):Prop:=
 ∀(ro:Nat->Prop) (σ:Sig) (w:World) (a:Act),∃l:List Value,(execOp a.eval o).run P w=.ok (.value (.pointer (some ⟨w.heap.size,0,none⟩))) (w.alloc (.cells l.toArray t))/\LR ro σ w cs l/\ ∀v∈l,Qv v
theorem OpZ.alloc{P:Program}{o:Oper}{t:Nat}{z:Value}{v:A}{cs:List A}(g:∀w,(zeroValue t).run P w=.ok z w)(d:ZR v z)(h:o.op=.alloc t:=by exact rfl)(hk:Yl v=true:=by exact rfl)(hcs:Q9 v=cs:=by exact rfl)(hpl:cs.all Yt=true:=by exact rfl):
  OpZ P o t cs:=by
 intro i σ w a;obtain⟨l,f,b⟩:=(d i σ w).cells hk;subst hcs;refine⟨l,?_,b,b.plain hpl⟩;generalize a.eval=ρ at*;have e:(newVar t z).run P w=.ok ⟨w.heap.size,0,none⟩ (w.alloc (.cells l.toArray t)):=by
  unfold newVar;rw[f];rfl
 simp only[execOp,h,Instr.alloc,Vu,g,Result.andThen,e];rfl
theorem Qcu{P:Program}{l:List Oper}{i:Nat}{o:Oper}{rd:Option Nat}{R:Exit->Act->World->Prop}{Q:Exit->Act->World->Prop}{K:Act->World->Prop}{a:Act}{w:World}
  (B:l[i]?=some o)(g:wpL P rd l.toArray R [o] a w)(j:∀e a' w',R e a' w'->e=.normal/\a'.defers=a.defers)(k:∀v w',R .normal (a.put o.dst v) w'->K (a.put o.dst v) w'):
  wpOpIn (WF rd) 0 P l.toArray Q i K a w:=by
 unfold wpOpIn;have t:l.toArray[i]?=some o:=by simpa using B
 rw[t];simp only;unfold wpL wpListIn at g;split at g
 .rename_i s;rw[if_pos s];obtain⟨h,g⟩:=g;refine⟨h,?_⟩;have d:=Qk3 (by
   intro a' w' q;unfold wpListIn at q;exact(j _ _ _ q).2) g
  generalize(o.semAt (WF rd).round a.eval).run P w=res at*;cases res with
  |ok n w'=>
   cases n with
   |value v=>exact k _ _ d.1
   |skip=>exact k _ _ d.1
   |defer F=>
    exfalso;have:=(j _ _ _ d.1).2;have:=congrArg List.length this
    revert this
    cases o.dst<;>simp[Act.put]
   |enter f m=>
    refine⟨d.1,CallsIn.mono d.2 (λe p b=>?_)⟩;cases e with
    |returned v=>exact k _ _ b.1
    |panicked c=>have:=(j _ _ _ b).1;cases this
    |outgrown=>obtain⟨z,E,b⟩:=b;have:=(j _ _ _ b).1;cases this
   |row r m=>
    exact⟨d.1,RowsIn.mono d.2 (λ_ _ b=>k _ _ b.1)⟩
   |round l f u assign y=>
    refine⟨d.1,RoundIn.mono d.2 (λe p b=>?_)⟩;cases e with
    |returned v=>exact k _ _ b.1
    |panicked c=>have:=(j _ _ _ b).1;cases this
    |outgrown=>obtain⟨z,E,b⟩:=b;have:=(j _ _ _ b).1;cases this
   |_=>exact d.elim
  |halt x w'=>
   cases x with
   |panic v=>have:=(j _ _ _ d).1;cases this
   |_=>exact d.elim
 .rename_i s;rw[if_neg s];obtain⟨h,g⟩:=g;refine⟨h,?_⟩;unfold wpListIn at g;exact k _ _ g
theorem Qkp{P:Program}{l:List Oper}{m:Nat}(p:∀i o,l[i]?=some o->∀j∈Qh o,j<i)(k:∀i o,m<i->l[i]?=some o->i-1∈Qh o){Q:Exit->Act->World->Prop}{rd:Option Nat}:
  ∀(b t:Nat) (L:Array Bool) (a:Act) (w:World),L.size=l.length->(∀i,i<l.length->(onL L i↔i<t))->unl L<=b->m<=t->t<=l.length->
   wpL P rd l.toArray Q (l.drop t) a w->wpAnyIn (WF rd) 0 P .any l.toArray Q b L a w:=by
 intro b
 induction b with
 |zero=>
  intro t L a w hsz hL hf hm ht h;have:t=l.length:=by
   rcases Nat.lt_or_ge t l.length with q|q
   .have:=Qi0 (L:=L) (i:=t) (by omega) (λz=>by have:=(hL t q).1 z;omega);omega
   .omega
  subst this;refine⟨List.eq_nil_iff_forall_not_mem.2 λi n=>?_,?_⟩
  .obtain⟨o,e,g,_⟩:=(QaC hsz).1 n;have d:=(XS.1 e).1;exact g ((hL i d).2 d)
  .rw[List.drop_length]at h;exact h
 |succ b H=>
  intro t L a w hsz hL hf hm ht h;have x:∀i o,l[i]?=some o->¬onL L i->(∀j∈Qh o,onL L j)->i=t:=by
   intro i o e g s;have d:=(XS.1 e).1;have G:t<=i:=by
    rcases Nat.lt_or_ge i t with q|q
    .exact absurd ((hL i d).2 q) g
    .exact q
   rcases Nat.lt_or_ge t i with q|q
   .have:=(hL (i-1) (by omega)).1 (s _ (k i o (by omega) e));omega
   .omega
  rcases Nat.lt_or_ge t l.length with f|f
  .have E:l[t]?=some l[t]:=XR f;have r:¬onL L t:=λq=>by have:=(hL t f).1 q;omega
   have F:t∈Region.ready .any l.toArray L:=by
    refine(QaC hsz).2 ⟨_,E,r,λj y=>?_⟩;have:=p t _ E j y;exact(hL j (by omega)).2 this
   refine⟨λq=>(by rw[q]at F;cases F),λi n=>?_⟩;obtain⟨o,e,g,s⟩:=(QaC hsz).1 n;obtain rfl:=x i o e g s;rw[Xs f]at h;obtain rfl:l[i]=o:=by rw[XR f]at e;exact X7 e
   unfold wpOpIn;rw[show l.toArray[i]?=some l[i]by rw[XN];exact e];simp only;unfold wpL wpListIn at h;have B:∀a w,wpL P rd l.toArray Q (l.drop (i+1)) a w->wpAnyIn (WF rd) 0 P .any l.toArray Q b (L.setIfInBounds i true) a w:=by
    intro a w q;have J:=Qgd (L:=L) (i:=i) (by omega) r;refine H (i+1) _ a w (by simpa using hsz) (λj y=>?_) (by omega) (by omega) (by omega) q;rw[Ji (by omega),hL j y];omega
   split at h
   .rename_i u;rw[if_pos u];exact Oper.wpIn_mono B h
   .rename_i u;rw[if_neg u];exact⟨h.1,B _ _ h.2⟩
  .have:t=l.length:=by omega
   subst this;rw[List.drop_length]at h;refine⟨λ_=>h,λi n=>?_⟩;obtain⟨o,e,g,_⟩:=(QaC hsz).1 n;have d:=(XS.1 e).1;exact absurd ((hL i d).2 d) g
def Qm9(af ds:List Nat)(xs:List A)(env0 e:Env):Prop:=
 ∀s,(∃j x,af.contains j=true/\ds[j]?=some s/\xs[j]?=some x/\lk e s=x)\/lk e s=.any\/(ds.contains s=false/\lk e s=lk env0 s)
inductive Qab (P:Program) (N:Nat) (l:List Oper) (ds:List Nat) (xs:List A) (env0:Env) (hB hE:Nat) (i:Nat) (H H':Qc):Prop
 |mk (o:Oper) (e:Env) (d:Nat) (x:A) (ho:l[i]?=some o) (hd:o.dst=some d) (hx:xs[i]?=some x) (hdd:Qar hB hE H H'=true) (hs:Sb (Qh o) (Qky l i) ds xs env0 e)
   (h:WO P H.length N l.toArray [o] e H (YZ (up e d x) H')):Qab P N l ds xs env0 hB hE i H H'
 |unit (o:Oper) (e:Env) (ho:l[i]?=some o) (hd:o.dst=none) (hx:xs[i]?=some .any) (hdd:Qar hB hE H H'=true) (hs:Sb (Qh o) (Qky l i) ds xs env0 e)
   (h:WO P H.length N l.toArray [o] e H (YZ e H')):Qab P N l ds xs env0 hB hE i H H'
 |alloc (o:Oper) (d t p:Nat) (cs:List A) (ho:l[i]?=some o) (hd:o.dst=some d) (hg:o.guard=none) (hx:xs[i]?=some (.ptr p 0)) (hp:(Nat.ble hB p&&Nat.blt p hE)=true) (hdead:Qcd H[p]?=true)
   (hH:H.set p (.cells t cs)=H') (h:OpZ P o t cs) (hN:Nat.blt d N=true):Qab P N l ds xs env0 hB hE i H H'
 |val (o:Oper) (e:Env) (d:Nat) (x:A) (ho:l[i]?=some o) (hd:o.dst=some d) (hg:o.guard=none) (hx:xs[i]?=some x) (hN:Nat.blt d N=true) (he:Qm9 (Qh o) ds xs env0 e) (h:OpV P o e H x)
   (hH:H=H':=by rfl):Qab P N l ds xs env0 hB hE i H H'
 |woE (o:Oper) (e:Env) (d:Nat) (x:A) (ho:l[i]?=some o) (hd:o.dst=some d) (hx:xs[i]?=some x) (he:Qm9 (Qh o) ds xs env0 e) (hdd:Qar hB hE H H'=true) (h:WO P H.length N l.toArray [o] e H (YZ (up e d x) H')):Qab P N l ds xs env0 hB hE i H H'
theorem Sb.rel{af f d:List Nat}{xs:List A}{env0 e:Env}{ro:Nat->Prop}{σ:Sig}{w:World}{a:Act}(h:Sb af f d xs env0 e)
  (g:∀j∈af,∀s x,d[j]?=some s->xs[j]?=some x->VR ro σ w x (a.tmps.getD s undef))
  (i:∀s,d.contains s=false->VR ro σ w (lk env0 s) (a.tmps.getD s undef))(hP:∀j s,f.contains j=true->d[j]?=some s->VR ro σ w (lk env0 s) (a.tmps.getD s undef)):
  ∀s,VR ro σ w (lk e s) (a.tmps.getD s undef):=by
 intro s
 induction h with
 |nil=>exact trivial
 | @dep j s1 x1 r h1 h2 h3 _ ih=>
  unfold lk;cases b:Nat.beq s s1 with
  |false=>exact ih
  |true=>
   obtain rfl:=XX b;exact g j (by simpa using h1) _ _ h2 h3
 | @old s1 x1 r h1 h2 _ ih=>
  unfold lk;cases b:Nat.beq s s1 with
  |false=>exact ih
  |true=>
   obtain rfl:=XX b;subst h2;exact i _ h1
 | @pre j s1 x1 r h1 h2 h3 _ ih=>
  unfold lk;cases b:Nat.beq s s1 with
  |false=>exact ih
  |true=>
   obtain rfl:=XX b;subst h3;exact hP j _ h1 h2
structure After (fr ro:Nat->Prop) (σ:Sig) (w:World) (hB hE:Nat) (H':Qc) (xs:List A) (i:Nat) (o:Oper) (a':Act) (w':World) (ro':Nat->Prop) (σ':Sig):Prop where
 val:∀x,xs[i]?=some x->match o.dst with
  |some d=>VR ro' σ' w' x (a'.tmps.getD d undef)
  |none=>x=.any
 sim:Sim fr ro' σ' H' w'
 ev:Qf fr ro w ro' w'
 ext:Ext ro σ w ro' σ' w'
 holes:QjJ hB hE σ' H'
 take:σ'.take hB=σ.take hB
theorem Qab.use{P:Program}{N:Nat}{l:List Oper}{ds:List Nat}{xs:List A}{env0:Env}{hB hE i:Nat}{H H':Qc}(hb:Qab P N l ds xs env0 hB hE i H H')
  {Q:Exit->Act->World->Prop}{K:Act->World->Prop}{fr ro:Nat->Prop}{σ:Sig}{a:Act}{w:World}{o:Oper}{rd:Option Nat}(M:l[i]?=some o)
  (f:Sim fr ro σ H w)(hN:a.tmps.size=N)(n:QcV fr a.defers w)(ac:QdJ rd fr w)(hh:QjJ hB hE σ H)(hl:hE<=H.length)(al:hB<=hE)
  (hD:∀j∈Qh o,∀s x,ds[j]?=some s->xs[j]?=some x->VR ro σ w x (a.tmps.getD s undef))
  (hO:∀s,ds.contains s=false->VR ro σ w (lk env0 s) (a.tmps.getD s undef))(hP:∀j s,(Qky l i).contains j=true->ds[j]?=some s->VR ro σ w (lk env0 s) (a.tmps.getD s undef))
  (hK:∀v w' ro' σ',After fr ro σ w hB hE H' xs i o (a.put o.dst v) w' ro' σ'->K (a.put o.dst v) w'):
  wpOpIn (WF rd) 0 P l.toArray Q i K a w:=by
 have J:∀{e:Env}{H2:Qc}{E:Exit}{u:Act}{w':World},QbM H.length fr ro σ w N a.defers (YZ e H2) E u w'->E=.normal/\u.defers=a.defers:=by
  rintro e H2 E u w' ⟨x,_,_,_,_,_,k,⟨rfl,_⟩,_,_,_,B,_⟩;refine⟨?_,B⟩;cases E<;>first|rfl|exact k.elim|cases k
 have ai:∀{σ':Sig}{w':World},Qf fr ro w ro w'->σ'.take H.length=σ.take H.length->True:=λ_ _=>trivial;have L:∀{e:Env}{u:Act}{w':World},QbM H.length fr ro σ w N a.defers (YZ e H') .normal u w'->Qar hB hE H H'=true->
   ∃ro' σ',Sim fr ro' σ' H' w'/\Qf fr ro w ro' w'/\Ext ro σ w ro' σ' w'/\QjJ hB hE σ' H'/\σ'.take hB=σ.take hB/\ ∀s,VR ro' σ' w' (lk e s) (u.tmps.getD s undef):=by
  rintro e u w' ⟨_,aj,H2,ro',σ',ak,_,⟨_,rfl,rfl⟩,r',he,ht,_,af⟩ m;have hσ:σ'=σ++σ'.drop H.length:=by
   conv=>lhs;rw[<- XF H.length σ']
   rw[ht, <- f.len,Vh]
  refine⟨ro',σ',r'.sim.frMono af.sub,he,?_,?_,?_,r'.env⟩
  .rw[hσ];exact he.ext σ _
  .intro p k B X;have:=hh p k B (Qkq m k B X);rw[hσ,XT (by rw[f.len];omega)];exact this
  .rw[hσ];exact QQ (by rw[f.len];omega)
 cases hb with
 |woE r e d x g G V he m h=>
  obtain rfl:r=o:=X7 (g.symm.trans M);have hr:∀s,VR ro σ w (lk e s) (a.tmps.getD s undef):=λs=>by
   rcases he s with⟨j,x,k,B,X,F⟩|F|⟨k,F⟩
   .rw[F];exact hD j (by simpa using k) s x B X
   .rw[F];exact trivial
   .rw[F];exact hO s k
  refine Qcu M (h rd fr ro σ a w ⟨f,hr,hN,n⟩ ac) (λ_ _ _ q=>J q) (λv w' q=>?_);obtain⟨ro',σ',g1,Y,O,g4,g5,g6⟩:=L q m;refine hK v w' ro' σ' ⟨λy T=>?_,g1,Y,O,g4,g5⟩;obtain rfl:=X7 (V.symm.trans T);have:=g6 d;unfold lk at this;rw[Nat.beq_refl]at this;rw[G]at this⊢;exact this
 |mk r e d x g G V m hs h=>
  obtain rfl:r=o:=X7 (g.symm.trans M);refine Qcu M (h rd fr ro σ a w ⟨f,hs.rel hD hO hP,hN,n⟩ ac) (λ_ _ _ q=>J q) (λv w' q=>?_);obtain⟨ro',σ',g1,Y,O,g4,g5,g6⟩:=L q m;refine hK v w' ro' σ' ⟨λy T=>?_,g1,Y,O,g4,g5⟩;obtain rfl:=X7 (V.symm.trans T);have:=g6 d;unfold lk at this;rw[Nat.beq_refl]at this;rw[G]at this⊢;exact this
 |unit r e g G V m hs h=>
  obtain rfl:r=o:=X7 (g.symm.trans M);refine Qcu M (h rd fr ro σ a w ⟨f,hs.rel hD hO hP,hN,n⟩ ac) (λ_ _ _ q=>J q) (λv w' q=>?_);obtain⟨ro',σ',g1,Y,O,g4,g5,g6⟩:=L q m;refine hK v w' ro' σ' ⟨λy T=>?_,g1,Y,O,g4,g5⟩;obtain rfl:=X7 (V.symm.trans T);rw[G]
 |val r e d x g G hg V aa he h hH=>
  obtain rfl:r=o:=X7 (g.symm.trans M);subst hH;have hr:Rel fr ro σ H e N a w:=by
   refine⟨f,λs=>?_,hN,n⟩;rcases he s with⟨j,x,k,B,X,F⟩|F|⟨k,F⟩
   .rw[F];exact hD j (by simpa using k) s x B X
   .rw[F];exact trivial
   .rw[F];exact hO s k
  obtain⟨v0,k,B⟩:=h fr ro σ N a w hr;have hw:Region.wanted r (yielded l.toArray a.tmps)=true:=by unfold Region.wanted;rw[hg]
  refine Qcu (R:=λE u w'=>E=.normal/\u.defers=a.defers/\u=a.put r.dst v0/\w'=w) M (QaW hw k ?_) (λ_ _ _ q=>⟨q.1,q.2.1⟩) (λv w' q=>?_)
  .unfold wpL wpListIn;refine⟨rfl,?_,rfl,rfl⟩;rw[G];rfl
  .obtain⟨_,_,q1,rfl⟩:=q;refine hK v _ ro σ ⟨λy T=>?_,f,Qf.refl _ _ _,⟨λ_ q=>q,λ_ _=>rfl,λ_ _ q=>q,λ_ _ q=>q⟩,hh,rfl⟩;obtain rfl:=X7 (V.symm.trans T);rw[q1,G];have ad:d<a.tmps.size:=by rw[hN];simpa using aa
   show VR ro σ w' x _;simpa[Act.put,Array.getD_eq_getD_getElem?,ad]using B
 |alloc r d t p cs g G hg V hp ab hH h aa=>
  obtain rfl:r=o:=X7 (g.symm.trans M);subst hH;simp only[X4]at hp;have ae:=XY hp.1;have ah:p<hE:=by simpa using hp.2
  have hσp:=hh p ae ah ab;obtain⟨lv,k,B,X⟩:=h ro σ w a;have hw:Region.wanted r (yielded l.toArray a.tmps)=true:=by unfold Region.wanted;rw[hg]
  have ev:Qf fr ro w ro (w.alloc (.cells lv.toArray t)):=Qf.alloc _ f.roLt f.frLt;have ag:p<σ.length:=by rw[f.len];omega
  have W:Ext ro σ w ro (σ.set p (some w.heap.size)) (w.alloc (.cells lv.toArray t)):=⟨ev.sub,ev.keepRo,ev.shape,λj b q=>by
   rw[XW (λz=>by subst z;rw[hσp]at q;cases q)];exact q⟩
  refine Qcu (R:=λE u w'=>E=.normal/\u.defers=a.defers/\u=a.put r.dst (.pointer (some ⟨w.heap.size,0,none⟩))/\w'=w.alloc (.cells lv.toArray t)) M (QaW hw k ?_) (λ_ _ _ q=>⟨q.1,q.2.1⟩) (λv w' q=>?_)
  .unfold wpL wpListIn;refine⟨rfl,?_,rfl,rfl⟩;rw[G];rfl
  .obtain⟨_,_,q1,rfl⟩:=q;refine hK v _ ro (σ.set p (some w.heap.size)) ⟨λy T=>?_,f.allocAt hσp ⟨lv,YH _ _,B.mono W,X⟩,ev,W,λp' g1 Y O=>?_,?_⟩
   .obtain rfl:=X7 (V.symm.trans T);rw[q1,G];have ad:d<a.tmps.size:=by rw[hN];simpa using aa
    refine⟨w.heap.size,Xa ag,?_⟩;simp[Act.put,Array.getD_eq_getD_getElem?,ad]
   .by_cases q:p'=p
    .subst q;rw[Xa (by omega)]at O;cases O
    .rw[XW (λz=>q z.symm)]at O⊢;exact hh p' g1 Y O
   .rw[List.take_set,List.set_eq_of_length_le];rw[XD];omega
def same(a b:List Nat):Bool:=a.all (b.contains ·)&&b.all (a.contains ·)
theorem Qnl{a b:List Nat}(h:same a b=true)(i:Nat):i∈a↔i∈b:=by
 unfold same at h;simp only[X4,Xw,List.contains_iff_mem]at h;exact⟨h.1 i,h.2 i⟩
structure Qna (l:List Oper) (m:Nat) (ds:List Nat) (hs:List Bool) (rq ms:List (List Nat)) (pl:List (List (Nat×Nat))) (N:Nat):Prop where
 len:m<=l.length
 dst:∀i o,i<m->l[i]?=some o->(∃d,o.dst=some d/\ds[i]?=some d/\d<N)\/o.dst=none
 dsl:ds.length=m
 nodup:∀(i j d:Nat),ds[i]?=some d->ds[j]?=some d->i=j
 back:∀i o,l[i]?=some o->∀j∈Qh o,j<i
 mid:∀o,l[m]?=some o->∀j,j<m->Qb4 l m j
 chain:∀i o,m<i->l[i]?=some o->i-1∈Qh o
 rqs:∀i o,i<m->l[i]?=some o->∀h∈rq.getD i [],h<m/\hs.getD h false=true/\(h∈Qh o\/ ∃j∈Qh o,j<m/\h∈rq.getD j [])
 ms0:ms.getD 0 []=[]
 full:∀st,st<ms.length->st+1=ms.length\/ ∃i,i<m/\hs.getD i false=true/\i∉ms.getD st []
 msh:∀st h,h∈ms.getD st []->h<m/\hs.getD h false=true
 pls:∀i st,i<m->st<ms.length->(∀h∈rq.getD i [],h∈ms.getD st [])->(hs.getD i false=true->i∉ms.getD st [])->(∀h∈ms.getD st [],¬Qb4 l h i)->
  ∃st',(st,st')∈pl.getD i []/\st'<ms.length/\if hs.getD i false then∀j,j∈ms.getD st' []↔j=i\/j∈ms.getD st []else st'=st
theorem Qji{α:Type}{l:List α}{i:Nat}{d x:α}(h:l[i]?=some x):l.getD i d=x:=by rw[List.getD_eq_getElem?_getD,h];rfl
theorem QhJ{P:Program}{l:List Oper}{m:Nat}{X:List Nat}{hs:List Bool}{rq ms:List (List Nat)}{pl:List (List (Nat×Nat))}{N h0 hB hE:Nat}{xs:List A}{env0:Env}{Hs:List Qc}{Hk:Qc}
  (ok:Qna l m X hs rq ms pl N)(az:xs.length=m)(a9:Hs.length=ms.length)(a8:h0<=hB)(ar:hB<=hE)(ay:∀H∈Hs,hE<=H.length)
  (a6:∀i p,i<m->p∈pl.getD i []->Qab P N l X xs env0 hB hE i (Hs.getD p.1 []) (Hs.getD p.2 []))(a4:Hs.getD (ms.length-1) []=Hk)
  {fr ro0:Nat->Prop}{σ0:Sig}{w0:World}{rd:Option Nat}{ds0:List Deferred}{R:Exit->Act->World->Prop}
  (hk:∀ro σ a w,Rel fr ro σ Hk (Qat X xs env0) N a w->Qf fr ro0 w0 ro w->σ.take h0=σ0.take h0->a.defers=ds0->wpL P rd l.toArray R (l.drop m) a w)(al:QcV fr ds0 w0)(ax:QdJ rd fr w0):
  ∀(f:Nat) (L:Array Bool) (a:Act) (w:World) (ro:Nat->Prop) (σ:Sig) (t:Nat),
   L.size=l.length->unl L<=f->(∀i,m<=i->¬onL L i)->t<ms.length->Sim fr ro σ (Hs.getD t []) w->a.tmps.size=N->a.defers=ds0->
   (∀(i d:Nat) (x:A),onL L i->X[i]?=some d->xs[i]?=some x->VR ro σ w x (a.tmps.getD d undef))->(∀s,(∀j,X[j]?=some s->¬onL L j)->VR ro σ w (lk env0 s) (a.tmps.getD s undef))->
   Qf fr ro0 w0 ro w->σ.take h0=σ0.take h0->QjJ hB hE σ (Hs.getD t [])->
   (∀i,i<m->onL L i->∀h∈rq.getD i [],onL L h)->(∀i,i<m->hs.getD i false=true->(onL L i↔i∈ms.getD t []))->
   (∀i o,onL L i->l[i]?=some o->∀j∈Qh o,onL L j)->
   wpAnyIn (WF rd) 0 P .any l.toArray R f L a w:=by
 have aq:∀t,t<ms.length->hE<=(Hs.getD t []).length:=by
  intro t h;have e:Hs[t]?=some Hs[t]:=XR (by omega);rw[Qji e];exact ay _ (Vl _)
 have fin:∀(f:Nat) (L:Array Bool) (a:Act) (w:World) (ro:Nat->Prop) (σ:Sig) (t:Nat),
   L.size=l.length->unl L<=f->(∀i,m<=i->¬onL L i)->t<ms.length->Sim fr ro σ (Hs.getD t []) w->a.tmps.size=N->a.defers=ds0->
   (∀(i d:Nat) (x:A),onL L i->X[i]?=some d->xs[i]?=some x->VR ro σ w x (a.tmps.getD d undef))->(∀s,(∀j,X[j]?=some s->¬onL L j)->VR ro σ w (lk env0 s) (a.tmps.getD s undef))->
   Qf fr ro0 w0 ro w->σ.take h0=σ0.take h0->
   (∀i,i<m->hs.getD i false=true->(onL L i↔i∈ms.getD t []))->(∀i,i<m->onL L i)->
   wpAnyIn (WF rd) 0 P .any l.toArray R f L a w:=by
  intro f L a w ro σ t hsz hu hsuf hst hsim hN hdef hD hE' hev htk hI2 k;have am:t=ms.length-1:=by
   rcases ok.full t hst with q|⟨i,O,W,h3⟩
   .omega
   .exact absurd ((hI2 i O W).1 (k i O)) h3
  rw[am,a4]at hsim;refine Qkp ok.back ok.chain f m L a w hsz (λi hi=>⟨λq=>?_,λq=>k i q⟩) hu (X0 _) ok.len ?_
  .rcases Nat.lt_or_ge i m with z|z
   .exact z
   .exact absurd q (hsuf i z)
  .have hr:Rel fr ro σ Hk (Qat X xs env0) N a w:=by
    refine⟨hsim,λs=>?_,hN,by rw[hdef];exact al.keep hev⟩;rcases Qnv (env0:=env0) (by rw[ok.dsl,az]) s with⟨j,x,O,W,h3⟩|⟨O,W⟩
    .rw[h3];have b:j<m:=by have:=(XS.1 O).1;rw[ok.dsl]at this;exact this
     exact hD j s x (k j b) O W
    .rw[W];exact hE' s (λj q=>absurd (List.mem_of_getElem? q) (by simpa using O))
   exact hk ro σ a w hr hev htk hdef
 intro f
 induction f with
 |zero=>
  intro L a w ro σ t hsz hu hsuf hst hsim hN hdef hD hE' hev htk hho hI1 hI2 hcl;refine fin 0 L a w ro σ t hsz hu hsuf hst hsim hN hdef hD hE' hev htk hI2 (λi hi=>?_);by_cases q:onL L i
  .exact q
  .have:=Qi0 (L:=L) (i:=i) (by have:=ok.len;omega) q;omega
 |succ f ih=>
  intro L a w ro σ t hsz hu hsuf hst hsim hN hdef hD hE' hev htk hho hI1 hI2 hcl;by_cases k:∀i,i<m->onL L i
  .exact fin (f+1) L a w ro σ t hsz hu hsuf hst hsim hN hdef hD hE' hev htk hI2 k
  .have aw:∃i,i<m/\ ¬onL L i:=by
    refine Classical.byContradiction λq=>k λi hi=>Classical.byContradiction λz=>q ⟨i,hi,z⟩
   obtain⟨n,hn,ae⟩:=aw;obtain⟨i0,O,W,h3⟩:=least (p:=λi=>¬onL L i) (λi=>Classical.em _) n ae;have ba:=ok.len;have ak:l[i0]?=some l[i0]:=XR (by omega);have hr:i0∈Region.ready .any l.toArray L:=(QaC hsz).2 ⟨_,ak,W,λj b=>Classical.byContradiction λz=>h3 j (ok.back i0 _ ak j b) z⟩;refine⟨λq=>(by rw[q]at hr;cases hr),λi hi=>?_⟩;obtain⟨o,V,Y,G⟩:=(QaC hsz).1 hi;have B:i<m:=by
    rcases Nat.lt_or_ge i m with q|q
    .exact q
    .exfalso;rcases Nat.lt_or_ge m i with z|z
     .exact hsuf (i-1) (by omega) (G _ (ok.chain i o z V))
     .have:i=m:=by omega
      subst this;have au:∀j,Qb4 l i j->onL L j:=by
       intro j b
       induction b with
       |one r b=>rw[V]at r;cases r;exact G _ b
       |step _ r b ihr=>exact hcl _ _ ihr r _ b
      exact ae (au n (ok.mid o V n hn))
   have aj:∀h∈rq.getD i [],onL L h:=by
    intro h T;obtain⟨_,_,q|⟨j,q1,q2,q3⟩⟩:=ok.rqs i o B V h T
    .exact G h q
    .exact hI1 j q2 (G j q1) h q3
   obtain⟨a0,an,a7,M⟩:=ok.pls i t B hst (λh T=>by
    obtain⟨q1,q2,_⟩:=ok.rqs i o B V h T;exact(hI2 h q1 q2).1 (aj h T)) (λq z=>Y ((hI2 i B q).2 z)) (λh T hR=>by
    obtain⟨q1,q2⟩:=ok.msh t h T;have a3:onL L h:=(hI2 h q1 q2).2 T;have ah:∀j,Qb4 l h j->onL L j:=by
     intro j b
     induction b with
     |one r b=>exact hcl _ _ a3 r _ b
     |step _ r b ihr=>exact hcl _ _ ihr r _ b
    exact Y (ah i hR))
   have hb:=a6 i _ B an;refine hb.use V hsim hN (by rw[hdef];exact al.keep hev) (ax.to hev λ_ q=>q) hho (aq t hst) ar (λj b s x q1 q2=>hD j s x (G j b) q1 q2) (λs O=>hE' s (λj q=>absurd (List.mem_of_getElem? q) (by simpa using O))) (λj s O W=>hE' s (λj' q q'=>?_)) ?_
   .obtain rfl:=ok.nodup j' j s q W;have b:=Xe.1 (List.contains_iff_mem.1 O);cases ad:l[j']? with
    |none=>rw[ad]at b;simp at b
    |some oj=>
     rw[ad]at b;exact Y (hcl j' oj q' ad i (by simpa using b.2))
   intro v w' a2 σ' af;have aa:=af.ext;have ab:∀s,(∀d,o.dst=some d->s≠d)->(a.put o.dst v).tmps.getD s undef=a.tmps.getD s undef:=by
    intro s a1;cases hd:o.dst with
    |none=>rfl
    |some d=>
     simp only[Act.put,Array.getD_eq_getD_getElem?,Vm];rw[if_neg (λq=>a1 d hd q.symm)]
   have ac:(a.put o.dst v).tmps.size=N:=by
    cases hd:o.dst with
    |none=>simpa[Act.put]using hN
    |some d=>simpa[Act.put]using hN
   have a5:(a.put o.dst v).defers=ds0:=by
    cases hd:o.dst with
    |none=>simpa[Act.put]using hdef
    |some d=>simpa[Act.put]using hdef
   have bb:=Qgd (L:=L) (i:=i) (by omega) Y;have u:i<L.size:=by omega
   have av:∀s j,X[j]?=some s->j≠i->∀d,o.dst=some d->s≠d:=by
    intro s j b E d hd q;subst q;rcases ok.dst i o B V with⟨d',g,Q,ag⟩|g
    .rw[hd]at g;cases g;exact E (ok.nodup j i _ b Q)
    .rw[hd]at g;cases g
   refine ih _ _ w' a2 σ' a0 (by simpa using hsz) (by omega) (λj b q=>?_) a7 af.sim ac a5 ?_ ?_ (hev.trans af.ev) ?_ af.holes ?_ ?_ ?_
   .rcases(Ji u).1 q with z|z
    .omega
    .exact hsuf j b z
   .intro j s y b F hy;by_cases E:j=i
    .subst E;have hv:=af.val y hy;rcases ok.dst j o B V with⟨d',g,Q,ag⟩|g
     .obtain rfl:s=d':=X7 (F.symm.trans Q);simp only[g]at hv⊢;exact hv
     .simp only[g]at hv;subst hv;exact trivial
    .rw[ab s (av s j F E)];rcases(Ji u).1 b with z|z
     .exact absurd z E
     .exact(hD j s y z F hy).mono aa
   .intro s F;have ao:∀d,o.dst=some d->s≠d:=by
     rintro d hd rfl;rcases ok.dst i o B V with⟨d',g,Q,ag⟩|g
     .rw[hd]at g;cases g;exact F i Q ((Ji u).2 (.inl rfl))
     .rw[hd]at g;cases g
    rw[ab s ao];exact(hE' s (λj q z=>F j q ((Ji u).2 (.inr z)))).mono aa
   .rw[<- htk];have:=congrArg (List.take h0) af.take;rw[List.take_take,List.take_take,XH a8]at this;exact this
   .intro j b J h T;refine(Ji u).2 (.inr ?_);rcases(Ji u).1 J with z|z
    .subst z;exact aj h T
    .exact hI1 j b z h T
   .intro j b J;rw[Ji u];cases q:hs.getD i false with
    |false=>
     have E:j≠i:=by rintro rfl;rw[q]at J;cases J
     rw[q]at M;simp only[Xj,if_false]at M;simp only[E,false_or];rw[M];exact hI2 j b J
    |true=>
     rw[q]at M;simp only[if_true]at M;rw[M j,hI2 j b J]
   .intro j o' b r j' ai;rcases(Ji u).1 b with z|z
    .subst z;rw[V]at r;cases r;exact(Ji u).2 (.inr (G _ ai))
    .exact(Ji u).2 (.inr (hcl j o' z r j' ai))
def QdA.dstB(N:Nat):Nat->List Oper->List Nat->Bool
 |_,_,[]=>true
 |i,o::r,d::ds=>(match o.dst with|some d'=>Nat.beq d' d&&Nat.blt d N|none=>true)&&QdA.dstB N (i+1) r ds
 |_,[],_::_=>false
def QdA.rqB(m:Nat)(hs:List Bool)(rq:List (List Nat)):Nat->List Oper->Bool
 |_,[]=>true
 |i,o::r=>(rq.getD i []).all (λh=>Nat.blt h m&&hs.getD h false&&((Qh o).contains h||(Qh o).any λj=>Nat.blt j m&&(rq.getD j []).contains h))&&QdA.rqB m hs rq (i+1) r
def Qif(l:List Oper)(h:Nat):List Nat:=match l[h]? with
 |some o=>Qek l h (Qh o)
 |none=>[]
theorem QjS{l:List Oper}{h j:Nat}(q:j∈Qif l h):Qb4 l h j:=by
 unfold Qif at q;cases a:l[h]? with
 |none=>rw[a]at q;cases q
 |some o=>rw[a]at q;exact QbP h (Qh o) (λi b=>.one a b) j q
def QdA.plB(l:List Oper)(m:Nat)(hs:List Bool)(rq ms:List (List Nat))(pl:List (List (Nat×Nat))):Bool:=
 (List.range m).all λi=>(List.range ms.length).all λst=>((ms.getD st []).any λh=>(Qif l h).contains i)|| !(rq.getD i []).all ((ms.getD st []).contains ·)||(hs.getD i false&&(ms.getD st []).contains i)||
  (pl.getD i []).any λp=>Nat.beq p.1 st&&Nat.blt p.2 ms.length&&(bif hs.getD i false then same (ms.getD p.2 []) (i::ms.getD st [])else Nat.beq p.2 st)
def QdA(l:List Oper)(m N:Nat)(ds:List Nat)(hs:List Bool)(rq ms:List (List Nat))(pl:List (List (Nat×Nat))):Bool:=
 Nat.ble m l.length&&(ds.length==m)&&QdA.dstB N 0 l ds&&drawChk.nodupB ds&&drawChk.goB l m 0 l&&QdA.rqB m hs rq 0 l&&(ms.getD 0 []).isEmpty&&Nat.blt 0 ms.length
 &&((List.range ms.length).all λst=>Nat.beq (st+1) ms.length||(List.range m).any λi=>hs.getD i false&& !(ms.getD st []).contains i)&&QdA.plB l m hs rq ms pl&&(List.range ms.length).all λst=>(ms.getD st []).all λh=>Nat.blt h m&&hs.getD h false
theorem QfX{N:Nat}:∀(l:List Oper) (a:List Nat) (b:Nat),QdA.dstB N b l a=true->∀(i d:Nat) (o:Oper),l[i]?=some o->a[i]?=some d->
  (o.dst=some d/\d<N)\/o.dst=none:=by
 intro l
 induction l with
 |nil=>intro a b h i d o f;simp at f
 |cons x r k=>
  intro a b h i d o f g;cases a with
  |nil=>simp at g
  |cons y a=>
   simp only[QdA.dstB,X4]at h;cases i with
   |zero=>
    simp at f g;subst f;subst g;have h:=h.1;split at h
    .rename_i m j;simp only[X4]at h;have e:=XX h.1;subst e;exact .inl ⟨j,by simpa using h.2⟩
    .rename_i j;exact .inr j
   |succ i=>
    have:=k a (b+1) h.2 i d o (by simpa using f) (by simpa using g);exact this
theorem Qlk{m:Nat}{e:List Bool}{d:List (List Nat)}:∀(l:List Oper) (b:Nat),QdA.rqB m e d b l=true->∀(i:Nat) (o:Oper),l[i]?=some o->
  ∀h∈d.getD (b+i) [],h<m/\e.getD h false=true/\(h∈Qh o\/ ∃j∈Qh o,j<m/\h∈d.getD j []):=by
 intro l
 induction l with
 |nil=>intro b h i o a;simp at a
 |cons x r g=>
  intro b h i o a;simp only[QdA.rqB,X4]at h;cases i with
  |zero=>
   simp at a;subst a;intro k n;have:=Xw.1 h.1 k (by simpa using n);simp only[X4,Bool.or_eq_true,List.contains_iff_mem,Xx]at this;obtain⟨⟨p,u⟩,t⟩:=this;refine⟨by simpa using p,u,?_⟩;rcases t with q|⟨j,s,f,w⟩
   .exact .inl q
   .exact .inr ⟨j,s,by simpa using f,w⟩
  |succ i=>
   have:=g (b+1) h.2 i o (by simpa using a);rw[show b+1+i=b+(i+1)by omega]at this;exact this
theorem QmC{l:List Oper}{m N:Nat}{t:List Nat}{y:List Bool}{F r:List (List Nat)}{H:List (List (Nat×Nat))}(h:QdA l m N t y F r H=true):
  Qna l m t y F r H N/\0<r.length:=by
 unfold QdA at h;simp only[X4]at h;obtain⟨⟨⟨⟨⟨⟨⟨⟨⟨⟨Y,T⟩,L⟩,J⟩,R⟩,O⟩,P⟩,W⟩,Q⟩,G⟩,E⟩:=h;have x:m<=l.length:=XY Y;have B:t.length=m:=by simpa using T
 have g:=Qhk l 0 R;refine⟨⟨x,λi o s b=>?_,B,Qds J,λi o b=>by have:=(g i o b).1;simpa using this,λo b j hj=>QbP m (Qh o) (λi s=>.one b s) j ((g m o b).2.1 (by omega) j hj),
  λi o s b=>by have:=(g i o b).2.2 (by omega);simpa using this,λi o s b h d=>by have:=Qlk l 0 O i o b h (by simpa using d);exact this,
  by simpa using P,λk a=>?_,λk h d=>?_,λi k s a X V hx=>?_⟩,by simpa using W⟩
 .have w:t[i]?=some t[i]:=XR (by omega);rcases QfX l t 0 L i _ o b w with⟨n,u⟩|n
  .exact .inl ⟨_,n,w,u⟩
  .exact .inr n
 .have:=Xw.1 Q k (List.mem_range.2 a);simp only[Bool.or_eq_true,Xx,X4,Bool.not_eq_true']at this;rcases this with q|⟨i,n,u,f⟩
  .exact .inl (XX q)
  .exact .inr ⟨i,List.mem_range.1 n,u,λz=>by rw[List.contains_iff_mem.2 z]at f;cases f⟩
 .have a:k<r.length:=by
   rcases Nat.lt_or_ge k r.length with q|q
   .exact q
   .rw[List.getD_eq_getElem?_getD,XV q]at d;cases d
  have:=Xw.1 (Xw.1 E k (List.mem_range.2 a)) h d;simp only[X4]at this;exact⟨by simpa using this.1,this.2⟩
 .have:=Xw.1 (Xw.1 G i (List.mem_range.2 s)) k (List.mem_range.2 a);simp only[Bool.or_eq_true,Bool.not_eq_true']at this;rcases this with((q|q)|q)|q
  .exfalso;obtain⟨h,d,q⟩:=Xx.1 q;exact hx h d (QjS (List.contains_iff_mem.1 q))
  .exfalso;have:((F.getD i []).all ((r.getD k []).contains ·))=true:=Xw.2 λh d=>List.contains_iff_mem.2 (X h d);rw[this]at q;cases q
  .simp only[X4]at q;exact absurd (List.contains_iff_mem.1 q.2) (V q.1)
  .obtain⟨p,M,q⟩:=Xx.1 q;simp only[X4]at q;obtain⟨⟨n,u⟩,f⟩:=q;have e:=XX n;refine⟨p.2,by rw[<- e];exact M,by simpa using u,?_⟩;cases z:y.getD i false with
   |true=>
    rw[z]at f;simp only[cond_true]at f;simp only[if_true];intro j;rw[Qnl f j,Ve]
   |false=>
    rw[z]at f;simp only[cond_false]at f;simp only[Xj,if_false];exact XX f
inductive QgM (P:Program) (N:Nat) (l:List Oper) (ds:List Nat) (xs:List A) (env0:Env) (hB hE:Nat):Nat->List (List (Qc×Qc))->Prop
 |nil {i:Nat}:QgM P N l ds xs env0 hB hE i []
 |cons {i:Nat}{s:List (Qc×Qc)}{r:List (List (Qc×Qc))} (h:∀p∈s,Qab P N l ds xs env0 hB hE i p.1 p.2) (k:QgM P N l ds xs env0 hB hE (i+1) r):QgM P N l ds xs env0 hB hE i (s::r)
theorem QgM.get{P:Program}{N:Nat}{l:List Oper}{e:List Nat}{xs:List A}{env0:Env}{hB hE b:Nat}{d:List (List (Qc×Qc))}(h:QgM P N l e xs env0 hB hE b d):
  ∀(i:Nat) (s:List (Qc×Qc)),d[i]?=some s->∀p∈s,Qab P N l e xs env0 hB hE (b+i) p.1 p.2:=by
 induction h with
 |nil=>intro i s h;simp at h
 | @cons b s0 r h _ ih=>
  intro i s a;cases i with
  |zero=>simp at a;subst a;exact h
  |succ i=>
   have:=ih i s (by simpa using a);rw[show b+1+i=b+(i+1)by omega]at this;exact this
theorem QG{P:Program}{N:Nat}{l:List Oper}{b:List Nat}{xs:List A}{env0:Env}{hB hE i:Nat}:∀p∈([]:List (Qc×Qc)),Qab P N l b xs env0 hB hE i p.1 p.2:=by
 intro p a;cases a
theorem Qd{P:Program}{N:Nat}{l:List Oper}{a:List Nat}{xs:List A}{env0:Env}{hB hE i:Nat}{H H':Qc}{r:List (Qc×Qc)}(h:Qab P N l a xs env0 hB hE i H H')
  (k:∀p∈r,Qab P N l a xs env0 hB hE i p.1 p.2):∀p∈(H,H')::r,Qab P N l a xs env0 hB hE i p.1 p.2:=by
 intro p b;rcases Ve.1 b with rfl|q
 .exact h
 .exact k p q
theorem Qgh{P:Program}{h0 N:Nat}{id:Nat}{l:List Oper}{env:Env}{H:Qc}{fr ro:Nat->Prop}{σ:Sig}{a:Act}{w:World}{rd:Option Nat}{R:Exit->Act->World->Prop}(m c:Nat)(ds:List Nat)(hs:List Bool)(rq V:List (List Nat))(E:List (List (Nat×Nat)))(xs:List A)(Hs:List Qc)(Hk:Qc)
  (hm:P.follows .mixedOrders=true)(hc:QdA l m N ds hs rq V E=true)(T:Nat.beq xs.length m=true)(Y:Nat.beq Hs.length V.length=true)(af:Nat.ble h0 H.length=true)
  (hh:Hs.all (λX=>Nat.ble (H.length+c) X.length)=true)(ac:Hs[0]?=some (H++List.replicate c .dead))(W:Hs.getD (V.length-1) []=Hk)
  (ae:QgM P N l ds xs env H.length (H.length+c) 0 (E.map λq=>q.map λp=>(Hs.getD p.1 [],Hs.getD p.2 [])))(aa:Nat.beq E.length m=true)
  (r:Rel fr ro σ H env N a w)(ad:QdJ rd fr w)
  (hk:∀ro' σ' a' w',Rel fr ro' σ' Hk (Qat ds xs env) N a' w'->Qf fr ro w ro' w'->σ'.take h0=σ.take h0->a'.defers=a.defers->wpL P rd l.toArray R (l.drop m) a' w'):(Code.region id l.toArray true).wpIn (WF rd) 0 P R a w:=by
 obtain⟨ok,J⟩:=QmC hc;have B:=XX T;have G:=XX Y;have ag:=XX aa;have O:Qf fr ro w ro {w with drawn:=w.drawn+1}:=⟨λ_ q=>q,λ_ _=>rfl,λ_ _=>rfl,X0 _,λ_ _ q=>q,rfl,rfl,rfl,Nat.le_succ _⟩;have u:Ext ro σ w ro (σ++List.replicate c none) {w with drawn:=w.drawn+1}:=O.ext σ _;have ab:=r.sim.len;have L:Hs.getD 0 []=H++List.replicate c .dead:=Qji ac;have n:∀(i:Nat) (s:Option Nat) (x:Blk),(σ++List.replicate c none)[i]?=some s->(H++List.replicate c Blk.dead)[i]?=some x->(σ[i]?=some s/\H[i]?=some x)\/(s=none/\x=.dead):=by
  intro i s x k h;rcases Nat.lt_or_ge i σ.length with q|q
  .rw[XT q]at k;rw[XT (by omega)]at h;exact .inl ⟨k,h⟩
  .rw[XU q]at k;rw[XU (by omega)]at h;have a1:=List.mem_of_getElem? k;have a2:=List.mem_of_getElem? h;exact .inr ⟨(List.mem_replicate.1 a1).2,(List.mem_replicate.1 a2).2⟩
 have M:Sim fr ro (σ++List.replicate c none) (H++List.replicate c .dead) {w with drawn:=w.drawn+1}:=by
  refine⟨by simp[ab],r.sim.roOk.to (λ_ q=>q) (λ_ _=>rfl) r.sim.roLt,r.sim.frLt,r.sim.roFr,?_,?_,?_,
   r.sim.hidTo (· = ·) Q0 (X0 _) (λ_ _ _ _ _ _ _ q=>q) (λ_ _ _ _ _ _ _ q=>q) λj d y g1 g2 g3=>.inl ?_⟩
  rotate_left 3
  .rcases n j _ _ g1 g2 with⟨g,t⟩|⟨g,_⟩
   .exact⟨j,y,rfl,g,t,(λz=>z),λc q=>q⟩
   .cases g
  .intro i b blk k h Q;rcases n i _ _ k h with⟨g,t⟩|⟨g,_⟩
   .exact r.sim.own i b blk g t Q
   .cases g
  .intro i j b x y k h Q h4 h5 h6;rcases n i _ _ k Q with⟨g,t⟩|⟨g,_⟩
   .rcases n j _ _ h h4 with⟨q3,q4⟩|⟨q3,_⟩
    .exact r.sim.inj i j b x y g q3 t q4 h5 h6
    .cases q3
   .cases g
  .intro i s x k h;rcases n i _ _ k h with⟨g,t⟩|⟨g,t⟩
   .exact BR.keep u (λb hb _=>rfl) (r.sim.blk i s x g t) (λ_ _ _ _=>rfl)
   .subst t;exact trivial
 have f:∀i,¬onL (Array.replicate l.length false) i:=by
  intro i q;unfold onL at q;rw[Array.getElem?_replicate]at q;split at q<;>simp at q
 have F:=XY af;refine wpIn_region_any hm ?_;rw[List.size_toArray];refine QhJ ok B G F (Nat.le_add_right _ _) (λX hX=>XY (Xw.1 hh X hX)) ?_ W (ro0:=ro) (σ0:=σ) (w0:=w) (ds0:=a.defers) hk r.defers ad
  l.length _ a _ ro (σ++List.replicate c none) 0 (by simp) ?_ (λi _=>f i) J (by rw[L];exact M) r.size rfl (λi d x q=>absurd q (f i)) (λs _=>(r.env s).mono u) O (QQ (by omega)) ?_
  (λi _ q=>absurd q (f i)) (λi _ _=>⟨λq=>absurd q (f i),λq=>by rw[ok.ms0]at q;cases q⟩) (λi o q=>absurd q (f i))
 .intro i p hi hp;have e:(E.map λq=>q.map λp=>(Hs.getD p.1 [],Hs.getD p.2 []))[i]?=some ((E.getD i []).map λp=>(Hs.getD p.1 [],Hs.getD p.2 [])):=by
   rw[Xr,XR (by omega),List.getD_eq_getElem?_getD,XR (by omega)];rfl
  have:=ae.get i _ e _ (Xf.2 ⟨p,hp,rfl⟩);simpa using this
 .unfold unl;simp[List.countP_replicate]
 .intro p k h Q;rw[XU (by omega),List.getElem?_replicate,if_pos (by omega)]
theorem Qba{P:Program}{h0 N:Nat}{id:Nat}{l:List Oper}{env:Env}{H:Qc}{Q:Qy}(m c:Nat)(f:List Nat)(u:List Bool)(x d:List (List Nat))(g:List (List (Nat×Nat)))(xs:List A)(Hs:List Qc)(Hk:Qc)
  (E:P.follows .mixedOrders=true)(y:QdA l m N f u x d g=true)(h:Nat.beq xs.length m=true)(s:Nat.beq Hs.length d.length=true)(t:Nat.ble h0 H.length=true)
  (z:Hs.all (λX=>Nat.ble (H.length+c) X.length)=true)(j:Hs[0]?=some (H++List.replicate c .dead))(n:Hs.getD (d.length-1) []=Hk)
  (k:QgM P N l f xs env H.length (H.length+c) 0 (g.map λq=>q.map λp=>(Hs.getD p.1 [],Hs.getD p.2 [])))(i:Nat.beq g.length m=true)
  (F:WO P h0 N l.toArray (l.drop m) (Qat f xs env) Hk Q):TC P h0 N (.region id l.toArray true) env H Q:=by
 intro G B J σ a w r hrd;refine Code.wpIn_mono (λe a w q=>QbM.postW q) (Qgh m c f u x d g xs Hs Hk E y h s t z j n k i r hrd λro' σ' a' w' hr hev htk hdf=>?_);have b:=F G B ro' σ' a' w' hr (hrd.to hev λ_ q=>q);rw[hdf]at b;exact Yo (λe a w q=>q.step hev htk) _ _ _ b
def draw0(l:List Oper)(m N:Nat)(ds:List Nat):Bool:=Nat.ble m l.length&&(ds.length==m)&&QdA.dstB N 0 l ds&&drawChk.nodupB ds&&drawChk.goB l m 0 l
inductive Oq (P:Program) (N:Nat) (l:List Oper) (ds:List Nat) (xs:List A) (env0:Env) (H:Qc):Nat->Nat->Prop
 |n {i:Nat}:Oq P N l ds xs env0 H i 0
 |c {i c:Nat} (h:Qab P N l ds xs env0 H.length H.length i H H) (k:Oq P N l ds xs env0 H (i+1) c):Oq P N l ds xs env0 H i (c+1)
theorem Oq.get{P:Program}{N:Nat}{l:List Oper}{a:List Nat}{xs:List A}{env0:Env}{H:Qc}{b c:Nat}(h:Oq P N l a xs env0 H b c):∀i,i<c->Qab P N l a xs env0 H.length H.length (b+i) H H:=by
 induction h with
 |n=>intro i d;omega
 | @c b c h _ ih=>
  intro i d;cases i with
  |zero=>exact h
  |succ i=>
   have:=ih i (by omega);rw[show b+1+i=b+(i+1)by omega]at this;exact this
theorem QmD{l:List Oper}{m N:Nat}{e:List Nat}(h:draw0 l m N e=true):Qna l m e [] [] [[]] (List.replicate m [(0,0)]) N:=by
 unfold draw0 at h;simp only[X4]at h;obtain⟨⟨⟨⟨u,y⟩,t⟩,s⟩,x⟩:=h;have p:m<=l.length:=XY u;have r:e.length=m:=by simpa using y
 have g:=Qhk l 0 x;refine⟨p,λi o d b=>?_,r,Qds s,λi o b=>by have:=(g i o b).1;simpa using this,λo b j w=>QbP m (Qh o) (λi d=>.one b d) j ((g m o b).2.1 (by omega) j w),
  λi o d b=>by have:=(g i o b).2.2 (by omega);simpa using this,λi o d b h n=>by simp at n,rfl,λk a=>.inl (by simp at a;simp[a]),λk h n=>by cases k<;>simp at n,λi k d a _ _ _=>?_⟩
 .have f:e[i]?=some e[i]:=XR (by omega);rcases QfX l e 0 t i _ o b f with⟨q,z⟩|q
  .exact .inl ⟨_,q,f,z⟩
  .exact .inr q
 .have:k=0:=by simp at a;exact a
  subst this;refine⟨0,?_,by simp,by simp⟩;rw[List.getD_eq_getElem?_getD,List.getElem?_replicate,if_pos d];exact List.mem_singleton.2 rfl
theorem Qcs{P:Program}{h0 N:Nat}{id:Nat}{l:List Oper}{env:Env}{H:Qc}{fr ro:Nat->Prop}{σ:Sig}{a:Act}{w:World}{rd:Option Nat}{R:Exit->Act->World->Prop}(m:Nat)(t:List Nat)(xs:List A)
  (B:P.follows .mixedOrders=true)(E:Go.Sw.draw0 l m N t=true)(n:Nat.beq xs.length m=true)(u:Nat.ble h0 H.length=true)
  (k:Oq P N l t xs env H 0 m)(r:Rel fr ro σ H env N a w)(j:QdJ rd fr w)
  (F:∀ro' σ' a' w',Rel fr ro' σ' H (Qat t xs env) N a' w'->Qf fr ro w ro' w'->σ'.take h0=σ.take h0->a'.defers=a.defers->wpL P rd l.toArray R (l.drop m) a' w'):(Code.region id l.toArray true).wpIn (WF rd) 0 P R a w:=by
 have ok:=QmD E;have g:=XX n;have h:Qf fr ro w ro {w with drawn:=w.drawn+1}:=⟨λ_ q=>q,λ_ _=>rfl,λ_ _=>rfl,X0 _,λ_ _ q=>q,rfl,rfl,rfl,Nat.le_succ _⟩;have f:Ext ro σ w ro σ {w with drawn:=w.drawn+1}:=h.ext0 σ;have e:Sim fr ro σ H {w with drawn:=w.drawn+1}:=r.sim.heap rfl;have b:∀i,¬onL (Array.replicate l.length false) i:=by
  intro i q;unfold onL at q;rw[Array.getElem?_replicate]at q;split at q<;>simp at q
 refine wpIn_region_any B ?_;rw[List.size_toArray];refine QhJ (hB:=H.length) (hE:=H.length) (Hs:=[H]) (Hk:=H) ok g rfl (XY u) (X0 _) (λX hX=>by rw[List.mem_singleton.1 hX];exact X0 _) ?_ rfl (ro0:=ro) (σ0:=σ) (w0:=w) (ds0:=a.defers) F r.defers j
  l.length _ a _ ro σ 0 (by simp) ?_ (λi _=>b i) (by simp) e r.size rfl (λi d x q=>absurd q (b i)) (λs _=>(r.env s).mono f) h rfl (λp G J=>by omega)
  (λi _ q=>absurd q (b i)) (λi _ _=>⟨λq=>absurd q (b i),λq=>by cases q⟩) (λi o q=>absurd q (b i))
 .intro i p y z;rw[List.getD_eq_getElem?_getD,List.getElem?_replicate,if_pos y]at z;obtain rfl:=List.mem_singleton.1 z;have:=k.get i y;rw[XB]at this;exact this
 .unfold unl;simp[List.countP_replicate]
theorem TC.draw0{P:Program}{h0 N:Nat}{id:Nat}{l:List Oper}{env:Env}{H:Qc}{Q:Qy}(m:Nat)(d:List Nat)(xs:List A)
  (i:P.follows .mixedOrders=true)(j:Go.Sw.draw0 l m N d=true)(g:Nat.beq xs.length m=true)(h:Nat.ble h0 H.length=true)
  (f:Oq P N l d xs env H 0 m)(k:WO P h0 N l.toArray (l.drop m) (Qat d xs env) H Q):TC P h0 N (.region id l.toArray true) env H Q:=by
 intro p n s σ a w r hrd;refine Code.wpIn_mono (λe a w q=>QbM.postW q) (Qcs m d xs i j g h f r hrd λro' σ' a' w' hr hev htk hdf=>?_);have b:=k p n ro' σ' a' w' hr (hrd.to hev λ_ q=>q);rw[hdf]at b;exact Yo (λe a w q=>q.step hev htk) _ _ _ b
section
variable {P:Program}{N:Nat}{l:List Oper}{ds af bf:List Nat}{xs:List A}{env0 e r:Env}{H H':Qc}{i hB hE:Nat}{o:Oper}{d s:Nat}{x a:A}
theorem sN:Sb af bf ds xs env0 []:=.nil
theorem sD(j:Nat)(k:Sb af bf ds xs env0 r)(b:af.contains j=true:=by exact rfl)(h2:ds[j]?=some s:=by exact rfl)(h3:xs[j]?=some a:=by exact rfl):Sb af bf ds xs env0 ((s,a)::r):=.dep j b h2 h3 k
theorem sO(s:Nat)(k:Sb af bf ds xs env0 r)(b:ds.contains s=false:=by exact rfl)(h2:lk env0 s=a:=by exact rfl):Sb af bf ds xs env0 ((s,a)::r):=.old b h2 k
theorem QhM(H:Qc):Qar hB hE H H=true:=by
 unfold Qar;refine Xw.2 λp _=>?_;cases Qcd H[hB+p]? <;>rfl
theorem Om1(b:l[i]?=some o)(a:Sb (Qh o) (Qky l i) ds xs env0 e)(h:WO P H.length N l.toArray [o] e H (YZ (up e d x) H'))(f:o.dst=some d:=by exact rfl)(hx:xs[i]?=some x:=by exact rfl)(hdd:Qar hB hE H H'=true:=by exact rfl):Qab P N l ds xs env0 hB hE i H H':=
 .mk o e d x b f hx hdd a h
theorem Om2(b:l[i]?=some o)(a:Sb (Qh o) (Qky l i) ds xs env0 e)(h:WO P H.length N l.toArray [o] e H (YZ e H'))(d:o.dst=none:=by exact rfl)(hx:xs[i]?=some .any:=by exact rfl)(hdd:Qar hB hE H H'=true:=by exact rfl):Qab P N l ds xs env0 hB hE i H H':=
 .unit o e b d hx hdd a h
end
end Go.Sw
namespace Go.Sw
structure TyI where
 fld:List (Nat×Nat×Nat)
 agg:List (Nat×Bool×Nat)
 zer:List (Nat×List A×List (Nat×Nat))
structure TyOK (P:Program) (T:TyI):Prop where
 fld:∀e∈T.fld,∃n,Jk P e.1 e.2.1 e.2.2 n
 agg:∀e∈T.agg,(∀w,(isAgg e.1).run P w=.ok e.2.1 w)/\ ∀w,(sizeOf e.1).run P w=.ok e.2.2 w
 zer:∀e∈T.zer,(∃z,(∀w,(zeroValue e.1).run P w=.ok z w)/\ZR (.agg e.2.1) z)/\QL P e.1 e.2.2
def Qho:List (Nat×Nat×Nat)->Nat->Nat->Option Nat
 |[],_,_=>none
 |(a,b,c)::r,t,f=>bif Nat.beq a t&&Nat.beq b f then some c else Qho r t f
def QbY{β:Type}:List (Nat×β)->Nat->Option β
 |[],_=>none
 |(a,b)::r,t=>bif Nat.beq a t then some b else QbY r t
theorem Qhn{l:List (Nat×Nat×Nat)}{t f c:Nat}(h:Qho l t f=some c):(t,f,c)∈l:=by
 induction l with
 |nil=>cases h
 |cons x r i=>
  obtain⟨a,b,d⟩:=x;unfold Qho at h;cases q:(Nat.beq a t&&Nat.beq b f)with
  |true=>
   rw[q]at h;simp only[X4]at q;have g:=XX q.1;have e:=XX q.2;simp only[cond_true,Option.some.injEq]at h;subst g e h;exact .head _
  |false=>rw[q]at h;exact .tail _ (i h)
theorem Qav{β:Type}{l:List (Nat×β)}{t:Nat}{c:β}(h:QbY l t=some c):(t,c)∈l:=by
 induction l with
 |nil=>cases h
 |cons x r e=>
  obtain⟨a,b⟩:=x;unfold QbY at h;cases q:Nat.beq a t with
  |true=>
   rw[q]at h;have d:=XX q;simp only[cond_true,Option.some.injEq]at h;subst d h;exact .head _
  |false=>rw[q]at h;exact .tail _ (e h)
def QgD(H:Qc):A->Option (List A)
 |.rp cs=>some cs
 |.ptr i off=>match H[i]? with
  |some (.cells _ cs)=>some (cs.drop off)
  |_=>none
 |_=>none
theorem QiD{H:Qc}{p:A}{cs:List A}(h:QgD H p=some cs):Pts H p cs:=by
 unfold QgD at h;split at h
 .cases h;exact Pts.rp
 .split at h
  .rename_i a;cases h;exact Pts.cells a rfl
  .cases h
 .cases h
def Qlb(T:TyI)(o:Oper)(env:Env)(H:Qc):Option A:=
 match o.op with
 |.move x=>some (opA env x)
 |.assign x=>some (opA env x)
 |.fieldAddr t x f=>match Qho T.fld t f with
  |none=>none
  |some off=>match opA env x with
   |.ptr i p=>some (.ptr i (p+off))
   |.rp cs=>some (.rp (cs.drop off))
   |_=>none
 |.load t x=>match QbY T.agg t with
  |none=>none
  |some (b,n)=>match x with
   |.global g=>match Qil[g]? with
    |some zs=>bif b&&Nat.beq zs.length n then some (.agg (zs.map (A.int .i64)))else none
    |none=>none
   |x=>match QgD H (opA env x)with
    |none=>none
    |some cs=>bif b then(bif Nat.beq (cs.take n).length n then some (.agg (cs.take n))else none)else cs.head?
 |.build t parts=>match QbY T.zer t with
  |none=>none
  |some (zs,pl)=>match QeF env pl zs parts.toList with
   |some cs=>some (.agg cs)
   |none=>none
 |.extract x i=>match opA env x with
  |.tup vs=>vs[i]?
  |_=>none
 |.makeFunc f first cap=>some (.fn f (first.toList.map (opA env)) (cap.toList.map (opA env)))
 |_=>none
theorem Qla{P:Program}{T:TyI}(m:TyOK P T){o:Oper}{env:Env}{H:Qc}{x:A}(h:Qlb T o env H=some x):OpV P o env H x:=by
 unfold Qlb at h;split at h
 .rename_i y a;cases h;exact OpV.move a rfl
 .rename_i y a;cases h;exact OpV.assign a rfl
 .rename_i t y f a;split at h
  .cases h
  .rename_i J l;obtain⟨n,u⟩:=m.fld _ (Qhn l);split at h
   .rename_i i p j;cases h;exact Qcj u a j
   .rename_i d j;cases h;exact Qfb u a j rfl
   .cases h
 .rename_i t y a;split at h
  .cases h
  .rename_i b n w;obtain⟨e,k⟩:=m.agg _ (Qav w);split at h
   .rename_i g;split at h
    .rename_i s F;cases q:(b&&Nat.beq s.length n)with
     |false=>rw[q]at h;cases h
     |true=>
      rw[q]at h;cases h;simp only[X4]at q;obtain⟨rfl,L⟩:=q;exact Qf5 e k F (XX L) a
    .cases h
   .split at h
    .cases h
    .rename_i d E;have r:=QiD E;cases b with
     |true=>
      simp only[cond_true]at h;cases q:Nat.beq (d.take n).length n with
      |false=>rw[q]at h;cases h
      |true=>
       rw[q]at h;cases h;exact QI a e k rfl r rfl (XX q)
     |false=>
      simp only[cond_false]at h;cases d with
      |nil=>cases h
      |cons v d=>cases h;exact OpV.load a e rfl r
 .rename_i t parts a;split at h
  .cases h
  .rename_i s M G;obtain⟨⟨z,e,k⟩,B⟩:=m.zer _ (Qav G);split at h
   .rename_i d l;cases h;exact OpV.build e k B (by rw[a]) l
   .cases h
 .rename_i y i a;split at h
  .rename_i vs j;exact OpV.extract a j h
  .cases h
 .rename_i f first cap a
  cases h;exact OpV.makeFunc (first:=first.toList) (cap:=cap.toList) (by rw[a]) rfl rfl
 .cases h
def QhG(af:List Nat):Nat->List Nat->List A->Env->Env
 |j,d::ds,x::xs,e=>(d,bif af.contains j then x else .any)::QhG af (j+1) ds xs e
 |_,_,_,e=>e
theorem QnU{af:List Nat}{env0:Env}(s:Nat):∀(a:List Nat) (xs:List A) (b:Nat),a.length=xs.length->
  (∃(j:Nat) (x:A),a[j]?=some s/\xs[j]?=some x/\lk (QhG af b a xs env0) s=bif af.contains (b+j)then x else .any)\/(a.contains s=false/\lk (QhG af b a xs env0) s=lk env0 s):=by
 intro a
 induction a with
 |nil=>intro xs b g;right;exact⟨rfl,by unfold QhG;rfl⟩
 |cons d a l=>
  intro xs b g;cases xs with
  |nil=>cases g
  |cons x xs=>
   cases q:Nat.beq s d with
   |true=>
    have e:=XX q;subst e;left;refine⟨0,x,rfl,rfl,?_⟩;simp only[QhG,lk,q,cond_true];rfl
   |false=>
    have f:s≠d:=λz=>by subst z;simp[Nat.beq_refl]at q
    simp only[QhG,lk,q,cond_false];rcases l xs (b+1) (by simpa using g)with⟨j,y,h,i,k⟩|⟨h,i⟩
    .left;refine⟨j+1,y,by simpa using h,by simpa using i,?_⟩;rw[show b+(j+1)=b+1+j by omega];exact k
    .right;refine⟨?_,i⟩;rw[List.contains_cons,h];simpa using f
def Qi1(T:TyI)(N:Nat)(l:List Oper)(ds:List Nat)(xs:List A)(env0:Env)(H:Qc)(i:Nat):Option A:=
 match l[i]? with
 |none=>none
 |some o=>match o.guard,o.dst with
  |none,some d=>bif Nat.blt d N&&Nat.beq ds.length xs.length then Qlb T o (QhG (Qh o) 0 ds xs env0) H else none
  |_,_=>none
theorem QnT{af b:List Nat}{xs:List A}{env0:Env}(e:b.length=xs.length):Qm9 af b xs env0 (QhG af 0 b xs env0):=by
 intro s;rcases QnU (af:=af) (env0:=env0) s b xs 0 e with⟨j,x,f,d,a⟩|h
 .rw[XB]at a;cases q:af.contains j with
  |true=>rw[q]at a;exact .inl ⟨j,x,q,f,d,a⟩
  |false=>rw[q]at a;exact .inr (.inl a)
 .exact .inr (.inr h)
theorem vQ{P:Program}{T:TyI}(g:TyOK P T){N:Nat}{l:List Oper}{a:List Nat}{xs:List A}{env0:Env}{hB hE i:Nat}{H:Qc}{x:A}(f:xs[i]?=some x)(h:Qi1 T N l a xs env0 H i=some x):Qab P N l a xs env0 hB hE i H H:=by
 unfold Qi1 at h;split at h
 .cases h
 .rename_i o b;split at h
  .rename_i d e j;cases q:(Nat.blt d N&&Nat.beq a.length xs.length)with
   |false=>rw[q]at h;cases h
   |true=>
    rw[q]at h;simp only[X4]at q;exact .val o _ d x b j e f q.1 (QnT (XX q.2)) (Qla g h)
  .cases h
abbrev I(n:Int):A:=.int .i64 n
theorem zc{a:A}{v:Value}{al:List A}{vl:List Value}(h:ZR a v)(k:ZL al vl):ZL (a::al) (v::vl):=ZL.cons h k
def zr1:A->Value->Bool
 |.int k n,.int k' n'=>decide (k=k')&&decide (n=n')
 |.bool b,.bool b'=>b==b'
 |.str s,.string s'=>s.isEmpty&&s'.data.toList.isEmpty
 |.rsl _ es,.slice none 0 0=>es.isEmpty
 |.nils,.slice none 0 0=>true
 |.nilp,.pointer none=>true
 |.nilf,.nilFunc=>true
 |.nilm,.map none=>true
 |.nilif,.nilIface=>true
 |_,_=>false
def zrL:List A->List Value->Bool
 |[],[]=>true
 |a::r,v::s=>zr1 a v&&zrL r s
 |_,_=>false
def zrB:A->Value->Bool
 |.agg r,.agg s=>zrL r s.toList
 |a,v=>zr1 a v
theorem Qk0{a:A}{v:Value}(h:zr1 a v=true):ZR a v:=by
 unfold zr1 at h;split at h
 .simp only[X4,decide_eq_true_eq]at h;obtain⟨rfl,rfl⟩:=h;exact ZR.int
 .simp only[beq_iff_eq]at h;subst h;exact ZR.bool
 .rename_i s g;simp only[X4,List.isEmpty_iff]at h;obtain⟨rfl,b⟩:=h;obtain⟨d⟩:=g;obtain⟨d⟩:=d;have b:d=[]:=b;subst b;exact ZR.str
 .rename_i k f;have h:f=[]:=List.isEmpty_iff.1 h;subst h;exact ZR.rsl (α:=A) (e:=λx=>[x])
 .exact ZR.nils
 .exact ZR.nilp
 .exact ZR.nilf
 .exact ZR.nilm
 .exact Qn5
 .cases h
theorem QkZ:∀{r:List A}{s:List Value},zrL r s=true->ZL r s
 |[],[],_=>ZL.nil
 |a::r,v::s,h=>by
  simp only[zrL,X4]at h;exact ZL.cons (Qk0 h.1) (QkZ h.2)
 |[],_::_,h=>by cases h
 |_::_,[],h=>by cases h
theorem zrC{a:A}{v:Value}(h:zrB a v=true):ZR a v:=by
 unfold zrB at h;split at h
 .rename_i r s;have:=ZR.agg (QkZ h);simpa using this
 .exact Qk0 h
end Go.Sw
namespace Go.Sw
section
variable {P:Program}{o:Oper}{env:Env}{H:Qc}
end
end Go.Sw
