/- The rules by which the code is walked, with what they rest on (part 2). -/
import Derived.Test.YthihlfoplokmiaaGreatDoorL1
import Derived.Shelf.SlSortCmp.NoneTotal
import Derived.Below
import GoSem.ClaimChange
import Derived.Shelf.Strings.Search3
import Derived.Lib.LazyBuf
import Derived.Shelf.Sort.Plain
import Derived.Shelf.Slices.In.SortNone
import Derived.Shelf.Slices.CompactI
import Derived.RangeFuncIn
import Derived.RangeFuncSeq
import Derived.RangeFuncNested
import Derived.Lib.Bytealg
import Derived.Laws.Externs
import Derived.LaidLaws
import Derived.Lib.LaidTab
import Derived.ChangeArms
import Derived.ChangeSame
set_option linter.unusedVariables false
set_option linter.unusedSectionVars false
set_option linter.unusedSimpArgs false
namespace Go.Sw
open Go.Sort Go.Proofs Go.Shelf
section
variable {α:Type}
def ins(lt:α->α->Bool)(x:α):List α->List α
 |[]=>[x]
 |y::l=>bif lt y x then y::ins lt x l else x::y::l
def Y6(lt:α->α->Bool):List α->List α
 |[]=>[]
 |x::l=>ins lt x (Y6 lt l)
theorem QeU(lt:α->α->Bool)(x:α):∀l,(ins lt x l).Perm (x::l)
 |[]=>.refl _
 |y::l=>by
  unfold ins;cases lt y x
  .exact .refl _
  .exact((QeU lt x l).cons y).trans (List.Perm.swap _ _ _)
theorem Qn(lt:α->α->Bool):∀l,(Y6 lt l).Perm l
 |[]=>.refl _
 |x::l=>(QeU lt x _).trans ((Qn lt l).cons x)
structure Qd1 (lt:α->α->Bool) (l:List α):Prop where
 irrefl:∀x∈l,lt x x=false
 trans:∀x∈l,∀y∈l,∀z∈l,lt x y=true->lt y z=true->lt x z=true
 ntrans:∀x∈l,∀y∈l,∀z∈l,lt x y=false->lt y z=false->lt x z=false
theorem Qd1.mono{lt:α->α->Bool}{l m:List α}(h:Qd1 lt l)(hm:∀x∈m,x∈l):Qd1 lt m:=
 ⟨λx hx=>h.irrefl x (hm x hx),λx hx y hy z hz=>h.trans x (hm x hx) y (hm y hy) z (hm z hz),λx hx y hy z hz=>h.ntrans x (hm x hx) y (hm y hy) z (hm z hz)⟩
theorem Qd1.asymm{lt:α->α->Bool}{l:List α}(h:Qd1 lt l){x y:α}(a:x∈l)(d:y∈l)(b:lt x y=true):lt y x=false:=by
 cases q:lt y x
 .rfl
 .rw[<- h.irrefl x a,h.trans x a y d x a b q]
theorem QeT{lt:α->α->Bool}{x:α}:∀{l:List α},Qd1 lt (x::l)->l.Pairwise (λa b=>lt b a=false)->(ins lt x l).Pairwise (λa b=>lt b a=false)
 |[],_,_=>by simp[ins]
 |y::l,h,hp=>by
  obtain⟨h1,h2⟩:=Xc.1 hp;unfold ins;cases q:lt y x
  .refine Xc.2 ⟨λz hz=>?_,hp⟩;rcases X7.1 hz with rfl|hz
   .exact q
   .exact h.ntrans z (by simp[hz]) y (by simp) x (by simp) (h1 z hz) q
  .refine Xc.2 ⟨λz hz=>?_,QeT (h.mono (by intro z hz;rcases X7.1 hz with rfl|hz<;>simp[*])) h2⟩;rcases X7.1 ((QeU lt x l).mem_iff.1 hz)with rfl|hz
   .exact h.asymm (by simp) (by simp) q
   .exact h1 z hz
theorem QY{lt:α->α->Bool}:∀{l:List α},Qd1 lt l->(Y6 lt l).Pairwise (λa b=>lt b a=false)
 |[],_=>by simp[Y6]
 |x::l,h=>QeT (h.mono (by
   intro z hz;rcases X7.1 hz with rfl|hz
   .simp
   .exact X6 _ ((Qn lt l).mem_iff.1 hz))) (QY (h.mono λz hz=>X6 _ hz))
theorem Jj{lt:α->α->Bool}:∀{l m:List α},l.Perm m->(∀x∈l,∀y∈l,lt x y=false->lt y x=false->x=y)->l.Pairwise (λa b=>lt b a=false)->m.Pairwise (λa b=>lt b a=false)->l=m
 |[],m,h,_,_,_=>by rw[List.nil_perm.1 h]
 |x::l,[],h,_,_,_=>by have:=h.length_eq;simp at this
 |x::l,y::m,h,ha,hl,hm=>by
  obtain⟨l1,l2⟩:=Xc.1 hl;obtain⟨m1,m2⟩:=Xc.1 hm;have hy:y∈x::l:=h.mem_iff.2 (by simp);have hx:x∈y::m:=h.mem_iff.1 (by simp);have hxy:x=y:=by
   rcases X7.1 hy with e|d
   .exact e.symm
   .rcases X7.1 hx with e|i
    .exact e
    .exact ha x (by simp) y (by simp[d]) (m1 x i) (l1 y d)
  subst hxy;rw[Jj ((List.perm_cons x).1 h) (λa g b f=>ha a (by simp[g]) b (by simp[f])) l2 m2]
def ltO(cf:α->α->Option Int)(x y:α):Bool:=match cf x y with
 |some c=>decide (c<0)
 |none=>false
def Qim[DecidableEq α](cf:α->α->Option Int)(l:List α):Bool:=
 l.all λx=> !ltO cf x x&&l.all λy=>(cf x y).isSome&&(ltO cf x y||ltO cf y x||decide (x=y))&&l.all λz=>(!ltO cf x y|| !ltO cf y z||ltO cf x z)&&(ltO cf x y||ltO cf y z|| !ltO cf x z)
def QbE[DecidableEq α](cf:α->α->Option Int)(l:List α):Option (List α):=bif Nat.ble l.length Qp&&Qim cf l then some (Y6 (ltO cf) l)else none
theorem QcB[DecidableEq α]{cf:α->α->Option Int}{l l':List α}(h:QbE cf l=some l'):
  l.length<=Qp/\(∀x∈l,∀y∈l,∃c,cf x y=some c)/\Qd1 (ltO cf) l/\(∀x∈l,∀y∈l,ltO cf x y=false->ltO cf y x=false->x=y)/\Y6 (ltO cf) l=l':=by
 unfold QbE at h;cases g:Nat.ble l.length Qp with
 |false=>rw[g]at h;cases h
 |true=>
 rw[g,VB]at h;cases q:Qim cf l with
 |false=>rw[q]at h;cases h
 |true=>
  rw[q]at h;refine⟨XS g,?_⟩;unfold Qim at q;simp only[Xt,XX,Bool.not_eq_true',Bool.or_eq_true,Vs]at q;refine⟨λx b y d=>Option.isSome_iff_exists.1 ((q x b).2 y d).1.1,⟨λx b=>(q x b).1,λx b y d z i e f=>?_,λx b y d z i e f=>?_⟩,λx b y d e f=>?_,X0 h⟩
  .rcases(((q x b).2 y d).2 z i).1 with(a|a)|a
   .rw[e]at a;cases a
   .rw[f]at a;cases a
   .exact a
  .rcases(((q x b).2 y d).2 z i).2 with(a|a)|a
   .rw[e]at a;cases a
   .rw[f]at a;cases a
   .exact a
  .rcases((q x b).2 y d).1.2 with(a|a)|a
   .rw[e]at a;cases a
   .rw[f]at a;cases a
   .exact a
theorem QlH[DecidableEq α]{cf:α->α->Option Int}{l:List α}(h:l.length<=Qp)(c:α->α->Int)(m:∀x∈l,∀y∈l,cf x y=some (c x y))(hi:∀x∈l,¬c x x<0)
  (n:∀x∈l,∀y∈l,∀z∈l,c x y<0->c y z<0->c x z<0)(r:∀x∈l,∀y∈l,∀z∈l,¬c x y<0->¬c y z<0->¬c x z<0)(p:∀x∈l,∀y∈l,¬c x y<0->¬c y x<0->x=y):
  QbE cf l=some (Y6 (ltO cf) l):=by
 have g:∀x∈l,∀y∈l,ltO cf x y=decide (c x y<0):=λx e y f=>by unfold ltO;rw[m x e y f]
 have q:Qim cf l=true:=by
  unfold Qim;simp only[Xt,XX,Bool.not_eq_true',Bool.or_eq_true,Vs];intro x e;refine⟨by rw[g x e x e];simpa using hi x e,λy f=>⟨⟨by rw[m x e y f];rfl,?_⟩,λz i=>?_⟩⟩
  .rw[g x e y f,g y f x e];by_cases j:c x y<0
   .simp[j]
   .by_cases k:c y x<0
    .simp[k]
    .exact .inr (p x e y f j k)
  .rw[g x e y f,g y f z i,g x e z i];have j:=n x e y f z i;have k:=r x e y f z i;by_cases a:c x y<0<;>by_cases b:c y z<0<;>by_cases d:c x z<0<;>simp_all
 unfold QbE;rw[q,XT h];rfl
theorem QaI[DecidableEq α]{cf:α->α->Option Int}{l l':List α}(h:QbE cf l=some l'):l.length=l'.length:=by
 rw[<- (QcB h).2.2.2.2];exact(Qn _ _).length_eq.symm
theorem Qa7{l l':List α}{i:Int}{x:α}(h:Qdd l i x=some l'):l.length=l'.length:=by
 unfold Qdd at h;cases q:(decide (0<=i)&&decide (i<(l.length:Int)))with
 |true=>rw[q]at h;rw[<- X0 h];simp
 |false=>rw[q]at h;cases h
theorem QP{h0:Nat}{env:Env}{H:Qc}{s:Nat}{a a':A}(h:lk env s=a)(e:a=a'):Le h0 env H (up env s a') H:=by
 intro f d σ N act w r;refine⟨d,σ,⟨r.sim,λb=>?_,r.size,r.defers⟩,λ_ q=>q,rfl⟩;subst e;have:lk (up env s a) b=lk env b:=by
  simp only[lk];cases q:Nat.beq b s with
  |true=>rw[XR q,h];rfl
  |false=>rfl
 rw[this];exact r.env b
end
section
variable {fr ro:Nat->Prop} {σ:Sig} {H:Qc} {w w':World}
theorem QdU(hh:∀b,b<w.heap.size->w'.heap[b]?=w.heap[b]?)(hro:∀b,ro b->b<w.heap.size)(σ:Sig):Ext ro σ w ro σ w':=
 ⟨λ_ q=>q,λb hb=>hh b (hro b hb),λb x hx=>by unfold World.shape? at hx⊢;rw[hh b (QbF hx)];exact hx,λ_ _ q=>q⟩
theorem Sim.grown(s:Sim fr ro σ H w)(a:∀b,b<w.heap.size->w'.heap[b]?=w.heap[b]?)(g:w.heap.size<=w'.heap.size):Sim fr ro σ H w':=by
 refine⟨s.len,s.roOk.to (λ_ q=>q) (λb q=>a b (s.roLt b q)) (λb h=>Vg (s.roLt b h) g),λb h=>Vg (s.frLt b h) g,s.roFr,λi b x e f n=>?_,s.inj,λi y x e f=>?_,s.hidTo (· = ·) QT g (λ_ _ _ _ _ _ _ q=>q) (λ_ _ _ _ _ _ _ q=>q) λj d y l m r=>.inl ⟨j,y,rfl,l,m,id,λc q=>s.hidKeep l m (λz=>a d (s.own j d y l m z).1) (λb q=>a b (s.roLt b q)) q⟩⟩
 .obtain⟨p,q⟩:=s.own i b x e f n;exact⟨Vg p g,q⟩
 .refine(s.blk i y x e f).keep (QdU a s.roLt σ) ?_ ?_
  .rintro b rfl k;exact a b (s.own i b x e f k).1
  .rintro b c rfl k;exact a c (s.hid i b x c e f k).lt
theorem Qe.grown(hh:∀b,b<w.heap.size->w'.heap[b]?=w.heap[b]?)(hs:w.heap.size<=w'.heap.size)(s:Sim fr ro σ H w)(ho:w'.os=w.os)(ht:w'.tape=w.tape)(hu:w'.output=w.output)(hd:w.drawn<=w'.drawn):Qe fr ro w ro w':=
 ⟨λ_ q=>q,λb h=>hh b (s.roLt b h),λb h=>hh b (s.frLt b h),hs,(QdU hh s.roLt σ).shape,ho,ht,hu,hd⟩
theorem Qj9(e:∀b,b<w.heap.size->w'.heap[b]?=w.heap[b]?)(m:w.heap.size<=w'.heap.size)(h:w'.os=w.os)(f:w'.tape=w.tape)(j:w'.output=w.output)(k:w.drawn<=w'.drawn):
  ∃q os',w'=grow (w.drewN q) os':=by
 refine⟨w'.drawn-w.drawn,w'.heap.extract w.heap.size w'.heap.size,?_⟩;obtain⟨a,r,g,s,t⟩:=w';simp only at e m h f j k;subst h f j;unfold grow World.drewN;have p:a=w.heap++a.extract w.heap.size a.size:=by
  apply Array.ext_getElem?;intro i;rw[Array.getElem?_append];split
  .rename_i d;exact e i d
  .rename_i d;rw[Array.getElem?_extract];split
   .rename_i n;congr 1;omega
   .rename_i n;rw[Array.getElem?_eq_none];omega
 have l:g=w.drawn+(g-w.drawn):=by omega
 rw[<- p, <- l]
end
end Go.Sw
namespace Go.Sw
open Go.Sort Go.Proofs Go.Shelf
theorem QdR{α:Type}{k:Nat}:∀(vs:List (List α)) (j:Nat),(∀v∈vs,v.length=k)->j<vs.length*k->vs.flatten[j]?=(vs[j/k]?).bind λv=>v[j%k]?
 |[],j,_,h=>by simp at h
 |v::vs,j,hk,h=>by
  have hv:=hk v (by simp);have k0:0<k:=by
   rcases Nat.eq_zero_or_pos k with q|q
   .subst q;simp at h
   .exact q
  rw[Vm];by_cases q:j<k
  .rw[XN (by omega),Nat.div_eq_of_lt q,Nat.mod_eq_of_lt q];simp
  .rw[XO (by omega),hv,QdR vs (j-k) (λv hv=>hk v (by simp[hv])) (by simp[Xm]at h;omega)];have b:j/k=(j-k)/k+1:=by rw[Nat.div_eq_sub_div k0 (by omega)]
   have a:j%k=(j-k)%k:=Nat.mod_eq_sub_mod (by omega);rw[b,a,XG]
theorem Qaq{α:Type}{k:Nat}:∀(vs:List (List α)),(∀v∈vs,v.length=k)->vs.flatten.length=vs.length*k
 |[],_=>by simp
 |v::vs,h=>by rw[Vm,X4,Qaq vs (λv hv=>h v (by simp[hv])),h v (by simp),X2,Xm];omega
theorem Qac{α:Type}(F:List α)(j:Nat):F.toArray[j]?=F[j]? :=by simp
theorem QeX{α:Type}[Inhabited α](F:List α)(j:Nat)(h:j<F.length):F[j]?=some (F.toArray[j]!):=by simp[h]
theorem Qh0{β:Type}[Inhabited β]{enc:β->List Value}{k:Nat}(a:∀x,(enc x).length=k)(d:Array β):flatK enc k d=((d.toList.map enc).flatten).toArray:=by
 have b:∀v∈d.toList.map enc,v.length=k:=by
  intro v i;obtain⟨x,_,rfl⟩:=Xf.1 i;exact a x
 apply Array.ext_getElem?;intro t;rw[Qac ((d.toList.map enc).flatten) t];by_cases h:t<d.size*k
 .rw[QdR _ t b (by simpa using h)];have l:0<k:=by
   rcases Nat.eq_zero_or_pos k with q|q
   .subst q;simp at h
   .exact q
  have g:t/k<d.size:=Nat.div_lt_of_lt_mul (by rw[Nat.mul_comm];exact h);have j:t%k<k:=Nat.mod_lt _ l;have f:t<(flatK enc k d).size:=by simpa using h
  have e:=get_flatK enc k d t h;rw[getElem!_pos (flatK enc k d) t f]at e;rw[Array.getElem?_eq_getElem f,e];simp[g];rw[XL (by rw[a];exact j)];rfl
 .have e:(d.toList.map enc).flatten.length=d.size*k:=by rw[Qaq _ b];simp
  rw[Array.getElem?_eq_none (by simpa using h),XP (by rw[e];omega)]
section
variable {ro:Nat->Prop} {σ:Sig} {w:World} {T:Type} {enc:T->List A} {k:Nat}
theorem RL.parts:∀{l:List T} {lv:List Value},RL ro σ w k (l.map enc) lv->
  ∃(ps:List (T×List Value)) (rest:List Value),ps.map (·.1)=l/\lv=(ps.map (·.2)).flatten++rest/\ ∀p∈ps,p.2.length=k/\LR ro σ w (enc p.1) p.2/\ ∀v∈p.2,Ql v
 |[],lv,_=>⟨[],lv,rfl,rfl,by simp⟩
 |x::l,lv,h=>by
  obtain⟨l1,l2,rfl,h1,⟨h2,h3⟩,h4⟩:=h;obtain⟨ps,rest,e1,rfl,h5⟩:=RL.parts (l:=l) h4;refine⟨(x,l1)::ps,rest,by simp[e1],by simp,?_⟩;intro p hp;rcases X7.1 hp with rfl|hp
  .exact⟨by rw[h2.length];exact h1,h2,h3⟩
  .exact h5 p hp
theorem QbT(hk:∀x:T,(enc x).length=k):∀{ps:List (T×List Value)} {rest:List Value},(∀p∈ps,LR ro σ w (enc p.1) p.2/\ ∀v∈p.2,Ql v)->RL ro σ w k ((ps.map (·.1)).map enc) ((ps.map (·.2)).flatten++rest)
 |[],_,_=>trivial
 |p::ps,rest,h=>by
  refine⟨p.2,(ps.map (·.2)).flatten++rest,by simp,hk _,h p (by simp),QbT hk λq hq=>h q (by simp[hq])⟩
end
structure Elt (ro:Nat->Prop) (w:World) {T:Type} (enc:T->List A) (k:Nat) (l:List T) where
 x:T
 vs:List Value
 mem:x∈l
 len:vs.length=k
 rel:LR ro [] w (enc x) vs
 plain:∀v∈vs,Ql v
theorem QfV{v:Value}(h:Ql v):v.oneCell'=true:=by cases v<;>first|rfl|exact h.elim
theorem Qoa{P:Program}{ρ:Ren}(L:SlLaysF0.n6 P ρ){T:Type}[DecidableEq T]{enc:T->List A}{k t g:Nat}{cap:List A}{l l':List T}{cf:T->T->Option Int}(hs:QbE cf l=some l')
  (a9:∀x y c,cf x y=some c->C P g ([.agg (enc x),.agg (enc y)]++cap) [] (λa H=>a=.int .i64 c/\H=[]))
  (aE:∀w,(isAgg (ρ.t 24)).run P w=.ok true w)(zE:∀w,(Go.sizeOf (ρ.t 24)).run P w=.ok k w)(eg:∀args w,(callFunc g args).run P w=.ok (.enter g args) w)
  (hk:∀x,(enc x).length=k)(hd:Yb cap=true):
  C P (ρ.f 6) [.osl 0 0 l.length k,.fn (.func g) [] cap] [.row t k (l.map enc)] (λa H=>a=.tup []/\H=[.row t k (l'.map enc)]):=by
 intro fr J σ vals w s hv;obtain⟨vs,r1,rfl,bd,vf,r2,rfl,bg,hr⟩:=hv;cases(show r2=[]from hr);obtain⟨lf,lc,rfl,h1,a0⟩:=bg;cases(show lf=[]from h1);have av:LR J [] w cap lc:=LR.data hd a0;obtain⟨a4,aj,O,ar,a7⟩:=QcB hs;have E:∀(ad:Option Addr) (c:Nat),vs=.slice ad 0 c->l=[]->
   Calls P (ρ.f 6) [vs,.func (.func g) #[] lc.toArray].toArray w λe w'=>∃v r H' ah τ,e=.returned v/\(r=.tup []/\H'=[.row t k (l'.map enc)])/\Sim fr ah (σ++τ) H' w'/\VR ah (σ++τ) w' r v/\Qe fr J w ah w':=by
  rintro ad c rfl rfl;have ac:l'=[]:=by rw[<- a7];rfl
  subst ac;refine(AnyF.slices_SortFunc_none L ad c (.func (.func g) #[] lc.toArray) w).mono ?_;rintro e w' ⟨rfl,rfl⟩;exact⟨_,_,_,J,[],rfl,⟨rfl,rfl⟩,by simpa using s,⟨[],rfl,rfl⟩,Qe.refl _ _ _⟩
 rcases bd with⟨h0,rfl⟩|⟨b,p,cp,t',m,q1,rfl,q2,q3,q4,q5⟩
 .exact E none 0 rfl (VK.1 h0)
 .by_cases ac:l=[]
  .subst ac;exact E _ cp rfl rfl
  .have bi:0<l.length:=List.length_pos_iff.2 ac;obtain rfl:=q2 (Vg bi q3);obtain⟨lv,e1,e2⟩:=s.blk 0 _ _ q1 rfl;obtain⟨hb,al,ba⟩:=s.own 0 b _ q1 rfl rfl;obtain⟨V,G,a1,rfl,ae⟩:=RL.parts e2
   let α:=Elt J w enc k l
   have a2:∀p∈V,p.1∈l:=λp hp=>by rw[<- a1];exact VH hp
   let ds:List α:=V.attach.map λp=>⟨p.1.1,p.1.2,a2 _ p.2,(ae _ p.2).1,(ae _ p.2).2.1,(ae _ p.2).2.2⟩
   have bc:∀{γ:Type} (f:T×List Value->γ),V.attach.map (λp=>f p.1)=V.map f:=λf=>by simp
   have R:ds.map (·.x)=l:=by
    show(V.attach.map _).map _=_;rw[List.map_map];exact(bc (·.1)).trans a1
   have ai:ds.map (·.vs)=V.map (·.2):=by
    show(V.attach.map _).map _=_;rw[List.map_map];exact bc (·.2)
   have ay:ds.length=l.length:=by rw[<- R];simp
   have a5:ds≠[]:=by intro q;rw[q]at ay;simp at ay;omega
   let inh:Inhabited α:=⟨ds.head a5⟩
   let enc':α->List Value:=λa=>a.vs
   let cf':α->α->Int:=λx y=>(cf x.x y.x).getD 0
   have ag:∀x y:α,ltOf cf' x y=ltO cf x.x y.x:=by
    intro x y;obtain⟨c,B⟩:=aj x.x x.mem y.x y.mem;simp only[ltOf,ltO,cf',B,Option.getD_some]
   have hO:SWO (ltOf cf'):=⟨λx=>by rw[ag];exact O.irrefl _ x.mem,λx y z a b=>by rw[ag]at*;exact O.trans _ x.mem _ y.mem _ z.mem a b,
    λx y z a b=>by rw[ag]at*;exact O.ntrans _ x.mem _ y.mem _ z.mem a b⟩
   have X:∀x:α,(enc' x).length=k:=λx=>x.len;have an:flatK enc' k ds.toArray=((V.map (·.2)).flatten).toArray:=by
    rw[Qh0 X];show((ds.map λa=>a.vs).flatten).toArray=_;rw[ai]
   have bk:∀v∈V.map (·.2),v.length=k:=by
    intro v hv;obtain⟨p,hp,rfl⟩:=Xf.1 hv;exact(ae p hp).1
   have aa:(V.map (·.2)).flatten.length=ds.length*k:=by rw[Qaq _ bk, <- ai];simp
   have hH:HoldsK enc' k w b (0*k) ds.toArray:=by
    intro j hj;rw[an]at hj⊢;simp only[List.size_toArray]at hj;constructor
    .unfold World.cell?;simp only[e1,Option.isSome_none,Xj,if_false,Nat.zero_mul,Xw];rw[Qac,XN hj];exact QeX _ _ hj
    .unfold World.frozen?;simp only[e1];simp
   have ax:∀(d:Array α),d.size=ds.toArray.size->(putRowK enc' k w b (0*k) d).heap=w.heap.setIfInBounds b (.cells (((d.toList.map enc').flatten++G)).toArray t (0,0)):=by
    intro d u;have af:(d.toList.map enc').flatten.length=(V.map (·.2)).flatten.length:=by
     rw[Qaq _ (k:=k) (by intro v hv;obtain⟨x,_,rfl⟩:=Xf.1 hv;exact X x),aa];simp at u⊢;rw[u]
    unfold putRowK putRow mapBlock;show w.heap.modify b _=_;rw[Qba e1];simp only[onCells];congr 2;rw[Qh0 X];unfold putCells;apply Array.ext_getElem?;intro i;simp only[Array.getElem?_mapIdx,Qac,Nat.zero_mul,XV,true_and,Xw,Xv,List.size_toArray,id_eq];by_cases hi:i<(d.toList.map enc').flatten.length
    .rw[XN hi,XN (by rw[<- af];exact hi),XL (by rw[<- af];exact hi),QeX _ _ hi];exact congrArg some (Vu hi)
    .rw[XO (by omega),XO (by omega),af];cases(G[i-(V.map (·.2)).flatten.length]?)with
     |none=>rfl
     |some v=>
      rw[<- af];exact congrArg some (Vt hi)
   have Q:∀(m:Nat) (os:Array Obj) (d:Array α),d.size=ds.toArray.size->
     (∀c,c<w.heap.size->c≠b->(sortWorldK enc' k w b (0*k) m d os).heap[c]?=w.heap[c]?)/\(sortWorldK enc' k w b (0*k) m d os).heap[b]?=some (.cells (((d.toList.map enc').flatten++G)).toArray t (0,0))/\
     w.heap.size<=(sortWorldK enc' k w b (0*k) m d os).heap.size:=by
    intro m os d u;have e:(sortWorldK enc' k w b (0*k) m d os).heap=w.heap.setIfInBounds b (.cells (((d.toList.map enc').flatten++G)).toArray t (0,0))++os:=by
     rw[<- ax d u];rfl
    rw[e];refine⟨λc B bn=>?_,?_,by simp⟩
    .rw[Array.getElem?_append_left (by simpa using B),Vf,Vt (λq=>bn q.symm)]
    .rw[Array.getElem?_append_left (by simpa using hb),Vf,Vu rfl,Vu hb]
   have N:∀(m:Nat) (os:Array Obj) (d:Array α),d.size=ds.toArray.size->∀c y,w.shape? c=some y->(sortWorldK enc' k w b (0*k) m d os).shape? c=some y:=by
    intro m os d u c y hy;obtain⟨g1,g2,g3⟩:=Q m os d u;by_cases B:c=b
    .subst B;unfold World.shape? at hy⊢;rw[e1]at hy;rw[g2];simp only[Option.some.injEq]at hy⊢;rw[<- hy];congr 1;simp only[List.size_toArray,X4];rw[Qaq _ (k:=k) (by intro v hv;obtain⟨x,_,rfl⟩:=Xf.1 hv;exact X x),aa];simp at u⊢;rw[u]
    .unfold World.shape? at hy⊢;rw[g1 c (QbF hy) B];exact hy
   have am:∀(m:Nat) (os:Array Obj) (d:Array α),d.size=ds.toArray.size->∀τ,Ext J τ w J τ (sortWorldK enc' k w b (0*k) m d os):=by
    intro m os d u τ;obtain⟨g1,g2,g3⟩:=Q m os d u;exact⟨λ_ q=>q,λc B=>g1 c (s.roLt c B) (λq=>al (q▸B)),N m os d u,λ_ _ q=>q⟩
   have bf:CmpLays P g lc.toArray enc' k cf' b (0*k) ds.toArray.size w:=by
    intro m os dk bb x y;obtain⟨c,B⟩:=aj x.x x.mem y.x y.mem;have F:=am m os dk bb [];have bl:=a9 _ _ _ B;generalize hW:sortWorldK enc' k w b (0*k) m dk os=W at*;have bh:w.heap.size<=W.heap.size:=by rw[<- hW];exact(Q m os dk bb).2.2
    have sW:Sim (λc=>c<W.heap.size/\ ¬J c) J [] [] W:=
     ⟨rfl,s.roOk.to (λ_ q=>q) F.keep (λc B=>Vg (s.roLt c B) bh),λc B=>B.1,λc B hf=>hf.2 B,λi b x h=>by simp at h,λi j b x y h=>by simp at h,λi y x h=>by simp at h,λi b x c h=>by simp at h⟩
    have ao:LR J [] W ([.agg (enc x.x),.agg (enc y.x)]++cap) ([.agg x.vs.toArray,.agg y.vs.toArray]++lc):=
     LR.append (show LR J [] W [A.agg (enc x.x),A.agg (enc y.x)] [Value.agg x.vs.toArray,Value.agg y.vs.toArray]from⟨_,_,rfl,⟨x.vs,rfl,x.rel.mono F⟩,_,_,rfl,⟨y.vs,rfl,y.rel.mono F⟩,rfl⟩) (av.mono F)
    have M:=bl _ J [] _ W sW ao;have bp:(([Value.agg x.vs.toArray,Value.agg y.vs.toArray]++lc).toArray:Array Value)= #[Value.agg (enc' x).toArray,Value.agg (enc' y).toArray]++lc.toArray:=by simp[enc']
    rw[bp]at M;refine M.mono ?_;rintro e w' ⟨v,r,H',ah,τ,rfl,⟨rfl,rfl⟩,s',bm,ev⟩;refine⟨?_,?_⟩
    .rw[show v=.int .i64 c from bm];simp only[cf',B,Option.getD_some]
    .refine Qj9 (λc B=>?_) ev.size ev.os ev.tape ev.output ev.drawn;by_cases az:J c
     .exact ev.keepRo c az
     .exact ev.keepFr c ⟨B,az⟩
   have Y:ds.toArray.size=l.length:=by simpa using ay
   have ak:=AnyQ.slices_SortFunc L k aE zE enc' X (λx v hv=>QfV (x.plain v hv)) cf' hO g lc.toArray b (0*k) cp ds.toArray w eg bf hH hb (by rw[Y];unfold Qp at a4;omega);rw[Y]at ak;refine ak.mono ?_;rintro e w' ⟨rfl,d,n,os,ab,aw,rfl⟩;have u:d.size=ds.toArray.size:=ab.1;obtain⟨g1,g2,g3⟩:=Q n os d u;have au:d.toList.Perm ds:=by
    have h:=ab.2.2;have x1:d.extract 0 l.length=d:=by rw[<- Y, <- u];exact Array.extract_size
    have x2:ds.toArray.extract 0 l.length=ds.toArray:=by rw[<- Y];exact Array.extract_size
    rw[x1,x2]at h;simpa using h
   have a3:d.toList.map (·.x)=l':=by
    rw[<- a7];refine Jj (lt:=ltO cf) ?_ ?_ ?_ (QY O)
    .exact((au.map (·.x)).trans (by rw[R])).trans (Qn _ _).symm
    .intro x hx y hy;have bq:x∈l:=by rw[<- R];exact(au.map (·.x)).mem_iff.1 hx
     have bj:y∈l:=by rw[<- R];exact(au.map (·.x)).mem_iff.1 hy
     exact ar x bq y bj
    .rw[VF];intro i j hi hj be;simp only[X3]at hi hj;simp only[List.getElem_map];rw[<- ag];have:=aw i j (XV _) be (by rw[<- Y, <- u];simpa using hj);rw[getElem!_pos d j (by simpa using hj),getElem!_pos d i (by simpa using hi)]at this;simpa using this
   have bo:RL J [] (sortWorldK enc' k w b (0*k) n d os) k (l'.map enc) ((d.toList.map enc').flatten++G):=by
    have e3:d.toList.map enc'=(d.toList.map λa=>(a.x,a.vs)).map (·.2):=by simp[enc']
    have e4:l'=(d.toList.map λa=>(a.x,a.vs)).map (·.1):=by rw[<- a3];simp
    rw[e3,e4];refine QbT hk ?_;intro p hp;obtain⟨a,_,rfl⟩:=Xf.1 hp;exact⟨a.rel.mono (am n os d u []),a.plain⟩
   have a6:Qe fr J w J (sortWorldK enc' k w b (0*k) n d os):=
    ⟨λ_ q=>q,λc B=>g1 c (s.roLt c B) (λq=>al (q▸B)),λc B=>g1 c (s.frLt c B) (λq=>ba (q▸B)),g3,N n os d u,rfl,rfl,rfl,Nat.le_add_right _ _⟩
   have aq:σ.length=1:=s.len;have a8:Sim fr J σ [.row t k (l'.map enc)] (sortWorldK enc' k w b (0*k) n d os):=by
    have i0:∀{i:Nat} {x:Blk},([.row t k (l'.map enc)]:Qc)[i]?=some x->i=0/\x=.row t k (l'.map enc):=by
     intro i x h;cases i with
     |zero=>simp at h;exact⟨rfl,h.symm⟩
     |succ i=>simp at h
    refine⟨aq,s.roOk.to (λ_ q=>q) a6.keepRo (λc B=>Vg (s.roLt c B) g3),λc B=>Vg (s.frLt c B) g3,s.roFr,λi c x h1 h2 h3=>?_,λi j c x y h1 h2 h3 h4 _ _=>?_,λi y x h1 h2=>?_,λi b x c h1 h2 h3=>by obtain⟨rfl,rfl⟩:=i0 h2;exact h3.elim⟩
    .obtain⟨rfl,rfl⟩:=i0 h2;obtain⟨p1,p2⟩:=s.own 0 c _ h1 rfl rfl;exact⟨Vg p1 g3,p2⟩
    .rw[(i0 h3).1,(i0 h4).1]
    .obtain⟨rfl,rfl⟩:=i0 h2;rw[q1]at h1;cases h1;exact⟨_,g2,bo⟩
   exact⟨_,_,_,J,[],rfl,⟨rfl,rfl⟩,by simpa using a8,⟨[],rfl,rfl⟩,a6⟩
end Go.Sw
namespace Go.Sw
section
variable {P:Program} {o:Oper} {env:Env} {H:Qc} {fr ro:Nat->Prop} {σ:Sig} {w:World}
theorem Sim.addRo(s:Sim fr ro σ H w){b:Nat}(E:b<w.heap.size)(B:¬fr b)(t:∀(i:Nat) (x:Blk),σ[i]?=some (some b)->H[i]?=some x->x.live=true->False)
  (u:∀(i d:Nat) (x:Blk),σ[i]?=some (some d)->H[i]?=some x->Hid w x d b->False):Sim fr (λc=>ro c\/c=b) σ H w:=by
 refine⟨s.len,s.roOk.to (λ_ q=>.inl q) (λ_ _=>rfl) ?_,s.frLt,?_,?_,s.inj,?_,s.hidTo (· = ·) QT (XU _) (λj d x c l h m k=>k.elim id λq=>(u j d x l h (q▸m)).elim) (λ_ _ _ _ _ _ _ q=>q) λj d y z g F=>.inl ⟨j,y,rfl,z,g,id,λ_ q=>q⟩⟩
 .rintro c (q|rfl)
  .exact s.roLt c q
  .exact E
 .rintro c (q|rfl)
  .exact s.roFr c q
  .exact B
 .intro i c x a e f;obtain⟨r,n,p⟩:=s.own i c x a e f;refine⟨r,?_,p⟩;rintro(q|rfl)
  .exact n q
  .exact t i x a e f
 .intro i y x a e;exact(s.blk i y x a e).keep ⟨λ_ q=>.inl q,λ_ _=>rfl,λ_ _ q=>q,λ_ _ q=>q⟩ (λ_ _ _=>rfl) (λ_ _ _ _=>rfl)
theorem YM{T e k n:Nat}{xs:List Operand}{es:List (List A)}(E:QL P T e k)(Q:o.op=.buildSlice T n (Qaj 0 xs).toArray)(J:xs.length=n)(F:Nat.ble (n*k) 16777216=true)
  (hk:(xs.all λx=>Q6 (opA env x))=true)(G:QA env xs=es)(L:allK k es)(X:es.flatten.all Ym=true)(hd:Yb es.flatten=true):
  OpH P o env H (.rsl k es) H:=by
 intro R h σ N a w r;subst G;obtain⟨l,O,M⟩:=Ju r E J F hk L;have u:LR h [] w (QA env xs).flatten l:=M.data hd;have f:∀b,b<w.heap.size->(w.alloc (.cells l.toArray e)).heap[b]?=w.heap[b]? :=λb V=>Q8 _ _ b V;have t:w.heap.size<=(w.alloc (.cells l.toArray e)).heap.size:=by rw[Q4];omega
 have Y:=r.sim.grown f t;have p:Qe R h w h (w.alloc (.cells l.toArray e)):=Qe.alloc _ r.sim.roLt r.sim.frLt;have W:=Y.addRo (b:=w.heap.size) (by rw[Q4];omega) (λq=>Nat.lt_irrefl _ (r.sim.frLt _ q)) (λi x j m B=>Nat.lt_irrefl _ (r.sim.own i _ x j m B).1)
  (λi d x j m B=>Nat.lt_irrefl _ (r.sim.hid i d x _ j m (r.sim.hidKeep j m (λz=>f d (r.sim.own i d x j m z).1) (λb q=>f b (r.sim.roLt b q)) B)).lt)
 have y:RL h [] (w.alloc (.cells l.toArray e)) k (QA env xs) l:=by
  have:=YX (rest:=[]) L (u.mono (p.ext0 [])) (M.plain X)
  rwa [Vh]at this
 have g:(QA env xs).length=n:=by simp[QA,J]
 refine⟨_,_,λc=>h c\/c=w.heap.size,[],Je Q a.eval O,?_,by simpa using W,p.trans (YE λ_ q=>.inl q)⟩;refine⟨some ⟨w.heap.size,0,none⟩,n,by rw[g],by rw[g];exact XU _,.inr ⟨w.heap.size,0,rfl,.inr rfl,?_⟩⟩;have s:(w.alloc (.cells l.toArray e)).heap[w.heap.size]?=some (.cells (([]:List Value)++l).toArray e (0,0)):=Q7 _ _;have:=YG (pre:=[]) s y;exact this.keep ⟨λ_ q=>.inl q,λ_ _=>rfl,λ_ _ q=>q,λ_ _ q=>q⟩ rfl
end
inductive QjG:List A->List A->Prop
 |nil:QjG [] []
 |eq {a:A} {l m:List A} (h:QjG l m):QjG (a::l) (a::m)
 |nl {k:Nat} {l m:List A} (h:QjG l m):QjG (.nils::l) (.rsl k []::m)
theorem LR.nils{ro:Nat->Prop}{σ:Sig}{w:World}{g f:List A}(h:QjG g f):∀{l:List Value},LR ro σ w g l->LR ro σ w f l:=by
 induction h with
 |nil=>intro l h;exact h
 |eq _ ih=>rintro l ⟨v,a,e,d,b⟩;exact⟨v,a,e,d,ih b⟩
 |nl _ ih=>rintro l ⟨v,a,e,d,b⟩;exact⟨v,a,e,⟨none,0,d,XU _,.inl rfl⟩,ih b⟩
theorem C.nils{P:Program}{f:FuncId}{l1 bs:List A}{H:Qc}{Q:A->Qc->Prop}(hl:QjG l1 bs)(h:C P f bs H Q):C P f l1 H Q:=
 λfr ro σ vals w s l=>h fr ro σ vals w s (LR.nils hl l)
end Go.Sw
namespace Go.Sw
def Qi(k:IntKind)(n:Int):Prop:=k.min<=n/\n<=k.max
def QdZ(w:World):Nat->Prop:=λb=>b<w.heap.size
structure Qnb {H:Type} (μ:DataW H->Nat):Prop where
 str:∀bytes,bytes.length<=μ (.lit (.string bytes))
 sl:∀e s,e.length<=μ (.slice e s)
 sle:∀e s,∀d∈e,μ d<=μ (.slice e s)
 ag:∀ps,∀d∈ps,μ d<=μ (.agg ps)
def RB(P:Program)(n:Nat)(t:TypeId)(T:Type)(e:T->List A)(wf:T->Prop):Prop:=
 ∀(H:Type) (enc:TypeId×Value->H) (w:World) (base:Nat) (spare:Nat->Bool) (held:Bool) (m:Nat) (cs:List Value) d,m<n->DataW.trod enc P w base spare held m t cs=some d->
  ∀μ:DataW H->Nat,Qnb μ->μ d.1<=1048576->∃x:T,wf x/\LR (QdZ w) [] w (e x) cs/\ ∀v∈cs,Ql v
section
variable {P:Program} {n:Nat} {t:TypeId} {T:Type} {e:T->List A} {wf:T->Prop}
theorem RB.down(h:RB P (n+1) t T e wf):RB P n t T e wf:=λH enc w base spare held m cs d hm=>h H enc w base spare held m cs d (Nat.lt_succ_of_lt hm)
theorem Qen(h:∀n,RB P n t T e wf->RB P (n+1) t T e wf):∀n,RB P n t T e wf
 |0=>λH enc w base spare held m cs d hm=>absurd hm (Xn _)
 |n+1=>h n (Qen h n)
theorem QU{T':Type}{b:T'->List A}{a:T'->Prop}(h:RB P n t T e wf)(g:T->T')(he:∀x,b (g x)=e x)(f:∀x,wf x->a (g x)):RB P n t T' b a:=by
 intro H enc w base spare held m cs d hm hd μ hμ hwt;obtain⟨x,i,j,k⟩:=h H enc w base spare held m cs d hm hd μ hμ hwt;exact⟨g x,f x i,by rw[he];exact j,k⟩
theorem RB.int{k:IntKind}(a:P.underlying t=some (.int k)):RB P n t Int (Qj k) (Qi k):=by
 intro H enc w base spare held m cs d hm hd μ hμ hwt;cases m with
 |zero=>simp[DataW.trod]at hd
 |succ m=>
  rcases cs with _|⟨v,_|⟨f,r⟩⟩
  .simp[DataW.trod,a]at hd
  .cases v<;>simp[DataW.trod,a]at hd;rename_i g e;obtain⟨⟨rfl,b⟩,_⟩:=hd;refine⟨e,?_,⟨_,_,rfl,rfl,rfl⟩,by simp[Ql]⟩;simpa[Lit.wf,Qi]using b
  .simp[DataW.trod,a]at hd
theorem RB.bool(a:P.underlying t=some .bool):RB P n t Bool Qa4 (λ_=>True):=by
 intro H enc w base spare held m cs d hm hd μ hμ hwt;cases m with
 |zero=>simp[DataW.trod]at hd
 |succ m=>
  rcases cs with _|⟨v,_|⟨e,r⟩⟩
  .simp[DataW.trod,a]at hd
  .cases v<;>simp[DataW.trod,a]at hd;rename_i b;exact⟨b,trivial,⟨_,_,rfl,rfl,rfl⟩,by simp[Ql]⟩
  .simp[DataW.trod,a]at hd
theorem RB.string(a:P.underlying t=some .string):RB P n t (List UInt8) encS (λs=>s.length<=1048576):=by
 intro H enc w base spare held m cs d hm hd μ hμ hwt;cases m with
 |zero=>simp[DataW.trod]at hd
 |succ m=>
  rcases cs with _|⟨v,_|⟨b,r⟩⟩
  .simp[DataW.trod,a]at hd
  .cases v<;>simp[DataW.trod,a]at hd;rename_i s;obtain⟨_,rfl⟩:=hd;exact⟨s.data.toList,XW (hμ.str _) hwt,⟨_,_,rfl,rfl,rfl⟩,by simp[Ql]⟩
  .simp[DataW.trod,a]at hd
theorem Qcq{α:Type}{f:Nat->Option α}:∀{n:Nat} {l:List α},(List.range n).mapM f=some l->l.length=n/\ ∀i,i<n->∃y,f i=some y/\l[i]?=some y
 |0,l,h=>by simp at h;subst h;exact⟨rfl,λi hi=>absurd hi (Xn _)⟩
 |n+1,l,h=>by
  rw[List.range_succ,List.mapM_append]at h;cases h1:(List.range n).mapM f with
  |none=>simp[h1]at h
  |some l1=>
   cases h2:f n with
   |none=>simp[h1,h2]at h
   |some y=>
    simp[h1,h2]at h;subst h;obtain⟨e1,e2⟩:=Qcq h1;refine⟨by simp[e1],λi hi=>?_⟩;rcases Xp.1 hi with q|rfl
    .obtain⟨z,z1,z2⟩:=e2 i q;exact⟨z,z1,by rw[XN (by omega)];exact z2⟩
    .exact⟨y,h2,by rw[XO (by omega)];simp[e1]⟩
theorem Qd5{w:World}{ro:Nat->Prop}{b:Nat}:∀{cs:List A} {l:List Value} {off:Nat},LR ro [] w cs l->(∀v∈l,Ql v)->(∀i,i<l.length->w.cell? ⟨b,off+i,none⟩=l[i]?)->CR ro [] w b cs off
 |[],_,_,_,_,_=>trivial
 |a::cs,l,off,h,hp,hc=>by
  obtain⟨v,l',rfl,h1,h2⟩:=h;refine⟨⟨v,by simpa using hc 0 (by simp),hp v (by simp),h1⟩,Qd5 h2 (λv hv=>hp v (by simp[hv])) λi hi=>?_⟩;have:=hc (i+1) (by simpa using hi);rw[show off+1+i=off+(i+1)by omega,this];simp
theorem RB.slice{E:TypeId}{k:Nat}{s:TypeId}(M:P.underlying s=some (.slice E))(hk:P.cellsOf E=k)(h0:Nat.blt 0 k=true)(hl:∀x,(e x).length=k)(h:RB P n E T e wf):
  RB P (n+1) s (List T) (Qjo k e) (λl=>l.length<=1048576/\ ∀x∈l,wf x):=by
 intro H enc w base spare held m cs d hm hd μ hμ hwt;have k0:0<k:=by simpa using h0
 cases m with
 |zero=>simp[DataW.trod]at hd
 |succ m=>
  rcases cs with _|⟨v,_|⟨v2,r⟩⟩
  .simp[DataW.trod,M]at hd
  .cases v<;>try (simp[DataW.trod,M]at hd;done)
   rename_i a len p;cases a with
   |none=>
    rcases len with _|len
    .rcases p with _|p
     .refine⟨[],⟨by simp,by simp⟩,⟨_,_,rfl,⟨none,0,rfl,XU _,.inl rfl⟩,rfl⟩,by simp[Ql]⟩
     .simp[DataW.trod,M]at hd
    .simp[DataW.trod,M]at hd
   |some a=>
    simp only[DataW.trod,M]at hd;split at hd
    .rename_i hc;obtain⟨c1,c2,c3⟩:=hc;cases L:(List.range len).mapM (λi=>(w.cells? base (a.add (i*P.cellsOf E)) (P.cellsOf E)).bind (DataW.trod enc P w base spare held m E))with
     |none=>rw[L]at hd;cases hd
     |some f=>
      rw[L]at hd;simp only[XK,Option.map_eq_some_iff]at hd;obtain⟨B,_,rfl⟩:=hd;have J:f.length<=1048576:=by
       have h1:=hμ.sl (f.map (·.1)) (B.map (·.1));rw[X3]at h1;exact XW h1 hwt
      have X:∀y∈f,μ y.1<=1048576:=λy R=>XW (hμ.sle _ (B.map (·.1)) _ (VH R)) hwt;obtain⟨e1,e2⟩:=Qcq L;have Q:∀i,i<len->∃(x:T) (l:List Value),wf x/\LR (QdZ w) [] w (e x) l/\(∀v∈l,Ql v)/\l.length=k/\ ∀j,j<k->w.cell? ((a.add (i*k)).add j)=l[j]? :=by
       intro i hi;obtain⟨y,y1,y2⟩:=e2 i hi;rw[hk]at y1;cases g:w.cells? base (a.add (i*k)) k with
       |none=>rw[g]at y1;cases y1
       |some l=>
        rw[g]at y1;obtain⟨x,x1,x2,x3⟩:=h H enc w base spare held m l y (by omega) y1 μ hμ (X y (VI y2));refine⟨x,l,x1,x2,x3,by rw[x2.length];exact hl x,λj hj=>?_⟩;unfold World.cells? at g;split at g
        .obtain⟨_,z2⟩:=Qcq g;obtain⟨v,v1,v2⟩:=z2 j hj;rw[v2, <- v1]
        .cases g
      by_cases V:len=0
      .subst V;exact⟨[],⟨by simp,by simp⟩,⟨_,_,rfl,⟨some a,p,rfl,XV _,.inl rfl⟩,rfl⟩,by simp[Ql]⟩
      .have first:a.spot=none/\a.block<w.heap.size:=by
        obtain⟨x',l,p1,p2,p3,p4,Y⟩:=Q 0 (by omega);have u:=Y 0 k0;have aa:l[0]?=some l[0]:=XL (by omega);have ea:(a.add (0*k)).add 0=a:=by simp[Addr.add]
        rw[aa,ea]at u;unfold World.cell? at u;split at u
        .rename_i hh;constructor
         .cases q:a.spot with
          |none=>rfl
          |some z=>simp[q]at u
         .exact(Vd.1 hh).1
        .cases u
       obtain⟨t,hb⟩:=first
       have O:∀n,a.add n=⟨a.block,a.off+n,none⟩:=by
        intro n;cases a;simp only at t;subst t;unfold Addr.add;split
        .rename_i q;subst q;rfl
        .rfl
       have G:∀(b o n:Nat),(⟨b,o,none⟩:Addr).add n=⟨b,o+n,none⟩:=by
        intro b o n;unfold Addr.add;split
        .rename_i q;subst q;rfl
        .rfl
       have pick:∀q i,len-i=q->i<=len->∃F:List T,F.length=len-i/\(∀x∈F,wf x)/\RR (QdZ w) [] w a.block k (F.map e) (a.off+i*k):=by
        intro q
        induction q with
        |zero=>intro i hq hi;exact⟨[],by simp[hq],by simp,trivial⟩
        |succ q ih=>
         intro i hq hi;obtain⟨F,N,w2,W⟩:=ih (i+1) (by omega) (by omega);obtain⟨x,l,p1,p2,p3,p4,Y⟩:=Q i (by omega);refine⟨x::F,by simp[N];omega,by intro y R;rcases X7.1 R with rfl|R;exact p1;exact w2 y R,hl x,?_,?_⟩
         .refine Qd5 p2 p3 λj hj=>?_;have u:=Y j (by omega);rw[O,G]at u;exact u
         .rw[Xm, <- Nat.add_assoc]at W;exact W
       obtain⟨F,N,w2,W⟩:=pick len 0 (by omega) (XV _);rw[Nat.zero_mul,Xx]at W;rw[Xv]at N;refine⟨F,⟨by rw[N, <- e1];exact J,w2⟩,⟨_,_,rfl,⟨some a,p,by simp[N],by simp[N];exact c2,.inr ⟨a.block,a.off,?_,hb,W⟩⟩,rfl⟩,by simp[Ql]⟩;cases a;simp only at t;subst t;rfl
    .cases hd
  .simp[DataW.trod,M]at hd
def RF(P:Program)(n:Nat)(fs:List Field)(off L:Nat)(T:Type)(e:T->List A)(wf:T->Prop):Prop:=
 ∀(H:Type) (enc:TypeId×Value->H) (w:World) (base:Nat) (spare:Nat->Bool) (held:Bool) (m:Nat) (cs:List Value) ds,m<n->cs.length=L->
  fs.mapM (λf=>DataW.trod enc P w base spare held m f.type ((cs.drop f.offset).take (P.cellsOf f.type)))=some ds->
  ∀μ:DataW H->Nat,Qnb μ->(∀y∈ds,μ y.1<=1048576)->∃x:T,wf x/\LR (QdZ w) [] w (e x) (cs.drop off)/\ ∀v∈cs.drop off,Ql v
theorem RF.nil{L:Nat}:RF P n [] L L Unit (λ_=>[]) (λ_=>True):=by
 intro H enc w base spare held m cs ds hm hl hd μ hμ hwt;have:cs.drop L=[]:=List.drop_eq_nil_of_le (by omega);rw[this];exact⟨(),trivial,rfl,by simp⟩
theorem RF.cons{f:Field}{fs:List Field}{off L k:Nat}{T2:Type}{s:T2->List A}{b:T2->Prop}(G:f.offset=off)(J:P.cellsOf f.type=k)(h:RB P n f.type T e wf)(r:RF P n fs (off+k) L T2 s b):
  RF P n (f::fs) off L (T×T2) (λp=>e p.1++s p.2) (λp=>wf p.1/\b p.2):=by
 intro H enc w base spare held m cs ds hm hl hd μ hμ hwt;rw[List.mapM_cons]at hd;cases g:DataW.trod enc P w base spare held m f.type ((cs.drop f.offset).take (P.cellsOf f.type))with
 |none=>simp[g]at hd
 |some d=>
  cases j:fs.mapM (λf=>DataW.trod enc P w base spare held m f.type ((cs.drop f.offset).take (P.cellsOf f.type)))with
  |none=>simp[g,j]at hd
  |some a=>
   have l:ds=d::a:=by
    rw[g,j]at hd;exact(X0 hd).symm
   subst l;rw[G,J]at g;obtain⟨x,z,E,u⟩:=h H enc w base spare held m _ d hm g μ hμ (hwt d (by simp));obtain⟨y,y1,y2,F⟩:=r H enc w base spare held m cs a hm hl j μ hμ (λy t=>hwt y (by simp[t]));have i:cs.drop off=(cs.drop off).take k++cs.drop (off+k):=by rw[<- List.drop_drop,Xz]
   refine⟨(x,y),⟨z,y1⟩,by rw[i];exact E.append y2,?_⟩;rw[i];intro v B;rcases VE.1 B with q|q
   .exact u v q
   .exact F v q
theorem RB.struct{fs:Array Field}{L:Nat}(j:P.underlying t=some (.struct fs))(b:P.cellsOf t=L)(h:RF P n fs.toList 0 L T e wf):RB P (n+1) t T e wf:=by
 intro H enc w base spare held m cs d hm hd μ hμ hwt;cases m with
 |zero=>simp[DataW.trod]at hd
 |succ m=>
  unfold DataW.trod at hd;simp only[j]at hd;split at hd
  .rename_i i;cases a:fs.toList.mapM (λf=>DataW.trod enc P w base spare held m f.type ((cs.drop f.offset).take (P.cellsOf f.type)))with
   |none=>rw[a]at hd;cases hd
   |some k=>
    rw[a]at hd;simp only[Xk,Option.some.injEq]at hd;subst hd;have:=h H enc w base spare held m cs k (by omega) (by rw[i,b]) a μ hμ (λy g=>XW (hμ.ag _ _ (VH g)) hwt);simpa using this
  .cases hd
end
theorem C.law{P:Program}{f:FuncId}{args:List A}{W:World}{vals:List Value}(h:C P f args [] (λa H=>a=.bool true/\H=[]))(hl:LR (QdZ W) [] W args vals)(d:GP W):
  Calls P f vals.toArray W λe W'=>e=.returned (.bool true)/\Go.RowKit.Below W.heap.size W W':=by
 have s:Sim (λ_=>False) (QdZ W) [] [] W:=
  ⟨rfl,⟨λ_ h=>h,λb l=>d.size b l,d⟩,λ_ h=>h.elim,λ_ _ h=>h,λi b x h=>by simp at h,λi j b x y h=>by simp at h,λi y x h=>by simp at h,λi b x c h=>by simp at h⟩
 refine(h _ _ _ _ W s hl).mono ?_;rintro e W' ⟨v,r,H',g,τ,rfl,⟨rfl,rfl⟩,_,n,ev⟩;exact⟨by rw[show v=.bool true from n],⟨ev.os,ev.tape,ev.output,ev.size,λk m=>ev.keepRo k m⟩⟩
theorem QhM{P:Program}{W:World}{a:Nat}{t:TypeId}{v:Value}{fs:Array Field}(b:P.underlying t=some (.struct fs))(h:Value.okWide P W .any a t v):∃cs,v=.agg cs:=by
 unfold Value.okWide at h;rw[b]at h;obtain⟨cs,rfl,_⟩:=h;exact⟨cs,rfl⟩
theorem QeI{P:Program}{W:World}{t:TypeId}{cs:Array Value}{T:Type}{e:T->List A}{wf:T->Prop}{H:Type}{enc:TypeId×Value->H}{b:Nat}{a:Nat->Bool}{held:Bool}{d:DataW H}{ps:List MemPlace}
  (h:∀n,RB P n t T e wf)(i:DataW.Trod enc P W b a held t (.agg cs) d ps){μ:DataW H->Nat}(hμ:Qnb μ)(f:μ d<=1048576):∃x:T,wf x/\VR (QdZ W) [] W (.agg (e x)) (.agg cs):=by
 obtain⟨m,g⟩:=i;obtain⟨x,j,k,_⟩:=h (m+1) H enc W b a held m _ _ (Xo _) g μ hμ f;exact⟨x,j,cs.toList,by simp,k⟩
theorem QfU{P:Program}{W:World}{t:TypeId}{a:Option Addr}{len cap:Nat}{T:Type}{e:T->List A}{k:Nat}{wf:List T->Prop}{H:Type}{enc:TypeId×Value->H}{f:Nat}{b:Nat->Bool}{held:Bool}{d:DataW H}{ps:List MemPlace}
  (h:∀n,RB P n t (List T) (Qjo k e) wf)(l:DataW.Trod enc P W f b held t (.slice a len cap) d ps){μ:DataW H->Nat}(hμ:Qnb μ)(g:μ d<=1048576):∃x:List T,wf x/\VR (QdZ W) [] W (.rsl k (x.map e)) (.slice a len cap):=by
 obtain⟨m,p⟩:=l;obtain⟨x,j,⟨v,r,i,q,s⟩,_⟩:=h (m+1) H enc W f b held m _ _ (Xo _) p μ hμ g;refine⟨x,j,?_⟩;have:(Value.slice a len cap).cells.toList=[.slice a len cap]:=rfl;rw[this]at i;cases i;exact q
theorem QiV{P:Program}{W:World}(h:W.ShapedOpen P){g t u:Nat}{z:Value}(hg:Nat.blt g P.globals.size=true)(r:(((begin P (λ_ _=>0) default).world.heap[g]?).bind Obj.row?)=some (#[z],t))
  (x:P.buildable t=true)(s:P.cellTypes P.depth t=some [u])(j:P.underlying u=some (.int .i64)):∃m:Int,W.cell? ⟨g,0,none⟩=some (.int .i64 m):=by
 obtain⟨d,w,l,p⟩:=h.1 g _ _ (by simpa using hg) r;obtain⟨B,i,_,q⟩:=p x;rw[s]at i;cases i;have y:d.size=1:=l;have a:d[0]?=some d[0]:=Array.getElem?_eq_getElem (by omega);obtain⟨E,f,b⟩:=q 0 _ a;simp at f;subst f;unfold Cell.ok at b;rw[j]at b;cases e:d[0]<;>rw[e]at b<;>simp at b;rename_i k n;obtain⟨rfl,_⟩:=b;refine⟨n,?_⟩;simp only[World.cell?,w];rw[a,e];rfl
end Go.Sw
namespace Go.Sw
theorem Qja{S B:Type}{step:S->Option (Ctl S B)}(st:Nat->S)(b:B)(k:Nat)(f:∀i,i<k->step (st i)=some (.cont (st (i+1))))(j:step (st k)=some (.done b)):∀n,k<n->iter step n (st 0)=some b:=by
 have d:∀m i n,k-i=m->i<=k->m<n->iter step n (st i)=some b:=by
  intro m
  induction m with
  |zero=>
   intro i n e l p;have:i=k:=by omega
   subst this;obtain⟨a,rfl⟩:∃a,n=a+1:=⟨n-1,by omega⟩;simp[iter,j]
  |succ m h=>
   intro i n e l p;obtain⟨a,rfl⟩:∃a,n=a+1:=⟨n-1,by omega⟩;simp only[iter,f i (by omega)];exact h (i+1) a (by omega) (by omega) (by omega)
 intro n g;exact d k 0 n (by omega) (XV _) g
theorem Qmg{S B:Type}{step:S->Option (Ctl S B)}(s0:S)(st:Nat->S)(b:B)(k:Nat)(h0:st 0=s0)(d:∀i,i<k->step (st i)=some (.cont (st (i+1))))(a:step (st k)=some (.done b))(n:Nat)(e:k<n):iter step n s0=some b:=by
 rw[<- h0];exact Qja st b k d a n e
theorem Y1{α:Type}{l:List α}{i:Nat}{x:α}(h:l[i]?=some x):idx l (i:Int)=some x:=by
 unfold idx;have:decide ((0:Int)<=i)=true:=by simp
 rw[this];simpa using h
theorem Jf{α:Type}(l:List α)(x:α)(h:l.length<4294967296):app l [x]=some (l++[x]):=by
 unfold app;have:Nat.ble (l.length+[x].length) Qp=true:=by
  apply XT;unfold Qp;simp;omega
 rw[this];rfl
theorem Qip{α:Type}(l m:List α)(h:l.length+m.length<=4294967296):app l m=some (l++m):=by
 unfold app;have:Nat.ble (l.length+m.length) Qp=true:=XT h;rw[this];rfl
theorem Yt{n:Int}(h0: -9223372036854775808<=n)(a:n<=9223372036854775807):IntKind.i64.wrap n=n:=by
 unfold IntKind.wrap;simp[IntKind.bits,IntKind.signed];omega
theorem Yz{i:Nat}(h:i<9223372036854775807):IntKind.i64.wrap ((i:Int)+1)=((i+1:Nat):Int):=by
 rw[Yt (by omega) (by omega)];omega
theorem YU{p:Prop}[Decidable p](h:p):decide p=true:=Vv h
theorem YH{p:Prop}[Decidable p](h:¬p):decide p=false:=Vy h
end Go.Sw
namespace Go.Sw
open Go.Proofs Go.Shelf
def cat(a b:List UInt8):Option (List UInt8):=bif Nat.ble (a.length+b.length) 4294967296 then some (a++b)else none
theorem Qpl{a b r:List UInt8}(h:cat a b=some r):a.length+b.length<=4294967296/\a++b=r:=by
 unfold cat at h;cases q:Nat.ble (a.length+b.length) 4294967296 with
 |true=>rw[q]at h;exact⟨XS q,X0 h⟩
 |false=>rw[q]at h;cases h
def QeW(s t:List UInt8):Option Bool:=bif Nat.blt s.length 4294967281 then some (Lib.contains s t)else none
section
variable {P:Program} {o:Oper} {env:Env} {H:Qc}
theorem Qfo{t u:TypeId}{x y:Operand}{p q r:List UInt8}(j:cat p q=some r)(k:o.op=.binOp .add t x y u:=by exact rfl)(hx:opA env x=.str p:=by exact rfl)(hy:opA env y=.str q:=by exact rfl):OpV P o env H (.str r):=by
 intro n s σ N a w rr;obtain⟨m,l⟩:=Qpl j;have g:=Qd rr x;rw[hx]at g;have f:=Qd rr y;rw[hy]at f;have d:a.eval x=.string ⟨p.toArray⟩:=g;have e:a.eval y=.string ⟨q.toArray⟩:=f;have i:(⟨p.toArray⟩:ByteArray)++⟨q.toArray⟩=⟨r.toArray⟩:=by
  rw[<- l];apply ByteArray.ext;simp
 refine⟨.string ⟨r.toArray⟩,?_,rfl⟩;have b:¬((((⟨p.toArray⟩:ByteArray).size+(⟨q.toArray⟩:ByteArray).size:Nat):Int)>IntKind.i64.max):=by
  have:IntKind.i64.max=9223372036854775807:=by decide
  rw[this];simp only[ByteArray.size,List.size_toArray];omega
 generalize a.eval=ρ at*;have h:(eqGuard BinOp.add t x y (.string ⟨p.toArray⟩) (.string ⟨q.toArray⟩)).run P w=.ok () w:=by simp[eqGuard]
 simp only[execOp,k,d,e,binOp_string_add,Op.stringOp,Vt b,i,Vn,Vp,Result.andThen,h]
def Qea{α:Type}(n:Nat)(l:List α)(i:Int):Option α:=bif Nat.beq l.length n then idx l i else none
theorem Qa1{α:Type}{n:Nat}{l:List α}{i:Int}{x:α}(h:Qea n l i=some x):l.length=n/\idx l i=some x:=by
 unfold Qea at h;cases q:Nat.beq l.length n with
 |true=>rw[q]at h;exact⟨XR q,h⟩
 |false=>rw[q]at h;cases h
def arr{α:Type}(n:Nat)(l:List α):Option (List α):=bif Nat.beq l.length n then some l else none
theorem Jl{α:Type}{n:Nat}{l l':List α}(h:arr n l=some l'):l.length=n/\l=l':=by
 unfold arr at h;cases q:Nat.beq l.length n with
 |true=>rw[q]at h;exact⟨XR q,X0 h⟩
 |false=>rw[q]at h;cases h
theorem Qbt{α:Type}{n:Nat}{l l':List α}(h:arr n l=some l'):l'.length=n:=(Jl h).2▸(Jl h).1
section
variable {α:Type} {e:α->List A} {t et k n b:Nat} {x y:Operand} {l:List α}
theorem Qai{i:Int}{v:α}{m:IntKind}(h:Qea n l i=some v)(p:∀w,(underlying t).run P w=.ok (.array n et) w)(F:∀w,(sizeOf et).run P w=.ok k w)(s:Nat.ble 2 n=true)
  (z:o.op=.indexAddr t x y:=by exact rfl)(hx:opA env x=.ptr b 0:=by exact rfl)(hy:opA env y=.int m i:=by exact rfl):OpV P o env H (.ptr b (i.toNat*k)):=by
 intro M L σ N a w r;obtain⟨Q,E⟩:=Qa1 h;obtain⟨O,u⟩:=QaN E;have G:i.toNat<l.length:=(XM.1 u).1;have e:=Qd r x;rw[hx]at e;obtain⟨f,e,B⟩:=e;have j:=Qd r y;rw[hy]at j;have g:a.eval y=.int m i:=j;refine⟨.pointer (some ⟨f,i.toNat*k,none⟩),?_,f,e,rfl⟩;have J:0<=i/\i<(n:Int):=by omega
 have d:(⟨f,0,none⟩:Addr).add (i.toNat*k)=⟨f,i.toNat*k,none⟩:=by
  unfold Addr.add;split
  .rename_i q;rw[q]
  .simp
 generalize a.eval=ρ at*;simp[execOp,z,B,g,Instr.indexAt,asIntOf,p,F,Instr.sureAddr,J,d,go_sem,Result.andThen]
theorem Qkq{cs:List A}(hH:H[b]?=some (.row t k (l.map e)):=by exact rfl)(hcs:(l.map e).flatten=cs:=by exact rfl):Pts H (.ptr b 0) cs:=by
 intro m n σ w v s h;obtain⟨g,f,i⟩:=h;obtain⟨j,d,a⟩:=s.blk b _ _ f hH;refine⟨g,0,i,?_⟩;have:=(RR.flat (YG (pre:=[]) (by simpa using d) a)).1;subst hcs;exact this.lift
theorem QhZ(a:∀x,(e x).length=k)(L:List α):(L.map e).flatten.length=L.length*k:=by
 induction L with
 |nil=>simp
 |cons c L ih=>simp only[Vk,Vm,X4,a c,ih,X2,Xm];omega
theorem QiA{f:Nat}{l':List α}(h:arr n l=some l')(p:∀x,(e x).length=k)(a:n*k=f)(j:∀w,(isAgg t).run P w=.ok true w)(i:∀w,(sizeOf t).run P w=.ok f w){T:Nat}
  (m:o.op=.load t x:=by exact rfl)(hx:opA env x=.ptr b 0:=by exact rfl)(hH:H[b]?=some (.row T k (l.map e)):=by exact rfl):OpV P o env H (.agg (l'.map e).flatten):=by
 obtain⟨g,rfl⟩:=Jl h;have d:=QhZ p l;rw[g,a]at d;exact Qh m j i hx (Qkq hH rfl) (VJ (by omega)) d
theorem Qld{r:Nat}{n2 T:Nat}(hl:l.length=n)(g:∀x,(e x).length=k)(a:n*k=n2)(h:∀w,(isAgg t).run P w=.ok true w)(i:∀w,(sizeOf t).run P w=.ok n2 w)
  (f:lk env r=.ptr b 0:=by exact rfl)(hH:H[b]?=some (.row T k (l.map e)):=by exact rfl):Qc2 P env H (.cell r t) (.agg (l.map e).flatten):=by
 have d:=QhZ g l;rw[hl,a]at d;have:=Qd2 (b:=r) (p:=.ptr b 0) (n:=n2) h i (Qkq hH rfl) f (by rw[VJ (by omega)];exact d)
 rwa [VJ (by omega)]at this
theorem Qiq{c:List A}{k:Nat}(h:c.length=k):∀n,allK k (List.replicate n c)
 |0=>trivial
 |n+1=>⟨h,Qiq h n⟩
theorem Y4{vs:Array Value}{z:α}(j:∀w,(zeroValue t).run P w=.ok (.agg vs) w)(i:(YS (List.replicate n (e z)).flatten).toArray=vs)(h:QeA (List.replicate n (e z)).flatten=true)(g:(List.replicate n (e z)).flatten.all Ym=true)(q:Nat.beq (e z).length k=true)
  (m:o.op=.alloc t:=by exact rfl):OpH P o env H (.ptr H.length 0) (H++[.row t k ((List.replicate n z).map e)]):=by
 intro s f σ N a w r;have d:LR f [] w (List.replicate n (e z)).flatten (YS (List.replicate n (e z)).flatten):=Qfz h;have b:=r.sim.allocRow (t:=t) (rest:=[]) (Qiq (XR q) n) d (d.plain g);rw[Vh]at b;have l:(List.replicate n z).map e=List.replicate n (e z):=List.map_replicate;refine⟨.pointer (some ⟨w.heap.size,0,none⟩),w.alloc (.cells (YS (List.replicate n (e z)).flatten).toArray t),f,[some w.heap.size],?_,⟨w.heap.size,?_,rfl⟩,l▸b,Qe.alloc _ r.sim.roLt r.sim.frLt⟩
 .generalize a.eval=ρ at*;have p:(newVar t (.agg vs)).run P w=.ok ⟨w.heap.size,0,none⟩ (w.alloc (.cells vs t)):=rfl;rw[i];simp only[execOp,m,Instr.alloc,Vn,j,Result.andThen,p];rfl
 .rw[<- r.sim.len];simp
theorem Y3{T n2:Nat}{l':List α}{vs:List A}(h:l.length=n)(h':l'.length=n)(hk:∀x,(e x).length=k)(q:n*k=n2)(hs:∀w,(sizeOf t).run P w=.ok n2 w)
  (hp:∀x,(e x).all Ym=true)(hd:∀x,Yb (e x)=true)(O:(l'.map e).flatten=vs)
  (ho:o.op=.store t x y:=by exact rfl)(F:opA env x=.ptr b 0:=by exact rfl)(hH:H[b]?=some (.row T k (l.map e)):=by exact rfl)(Q:opA env y=.agg vs:=by exact rfl):
  OpU P o env H (H.set b (.row T k (l'.map e))):=by
 intro fr ro σ N a w r;subst O;have d:=Qd r x;rw[F]at d;obtain⟨Y,d,V⟩:=d;have h3:=Qd r y;rw[Q]at h3;obtain⟨m,h4,G⟩:=h3;obtain⟨E,q1,q2⟩:=r.sim.blk b _ _ d hH;have z:∀(L:List α),allK k (L.map e):=by
  intro L
  induction L with
  |nil=>trivial
  |cons c L g=>exact⟨hk c,g⟩
 have M:(l'.map e).flatten.length=n2:=by rw[Yr (z l'),X3,h',q]
 have hm:m.length=n2:=by rw[G.length,M]
 have B:∀L:List α,(L.map e).flatten.all Ym=true:=by
  intro L
  induction L with
  |nil=>rfl
  |cons c L g=>simp only[Vk,Vm,List.all_append,hp c,g,Bool.and_self]
 have W:∀i u:List A,Yb i=true->Yb u=true->Yb (i++u)=true:=by
  intro i
  induction i with
  |nil=>intro u _ h;exact h
  |cons c i g=>
   intro u d V;simp only[Yb,XX,VL]at d⊢;exact⟨d.1,g u d.2 V⟩
 have R:∀L:List α,Yb (L.map e).flatten=true:=by
  intro L
  induction L with
  |nil=>rfl
  |cons c L g=>simp only[Vk,Vm];exact W _ _ (hd c) g
 have aa:n2<=E.length:=by
  have:=q2.length;rw[X3,h,q]at this;exact this
 have s:=Yf (P:=P) (vs:=m) 0 0 q1 (by omega) (G.plain (B l'));have p:splice E 0 m=m++E.drop n2:=by unfold splice;simp[hm]
 have f:=r.sim.set (x':=.row T k (l'.map e)) (obj:=.cells (splice E 0 m).toArray T (0,0)) d hH rfl
  (λy Q=>QaJ q1 (Yc (by omega)) y Q)
  (λex j=>by
   have F:=(G.data (R l')).mono ex.nil;rw[p]at F j⊢;exact⟨_,j,YX (z l') F (G.plain (B l'))⟩)
 refine⟨_,ro,[],?_,by simpa using f.1,f.2⟩;generalize a.eval=ρ at*;have X:(ρ y).cells.size=n2:=by rw[h4];simp[Value.cells,hm]
 have J:(storeVar t ⟨Y,0,none⟩ (ρ y)).run P w=.ok () {w with heap:=w.heap.setIfInBounds Y (.cells (splice E 0 m).toArray T (0,0))}:=by
  unfold storeVar;rw[Vn,hs];simp only[Result.andThen];rw[Vt (by simp[X]),h4];have ec:(Value.agg m.toArray).cells.toList=m:=by simp[Value.cells]
  rw[ec];simpa using s
 simp only[execOp,ho,V,Instr.storeAt,Instr.sureAddr,pure_bind,Vn,J];rfl
end
end
theorem C.contains{P:Program}{ρ:Ren}(L:Lays.n144 P ρ)(hg:ρ.g 1=QkN){s t:List UInt8}{r:Bool}(h:QeW s t=some r):C P (ρ.f 144) [.str s,.str t] [] (λa H=>a=.bool r/\H=[]):=by
 unfold QeW at h;cases q:Nat.blt s.length 4294967281 with
 |false=>rw[q]at h;cases h
 |true=>
  rw[q]at h;obtain rfl:=X0 h;intro E p σ vals w sim hv;obtain⟨i,z,rfl,j,b,k,rfl,x,y⟩:=hv;cases(show k=[]from y);obtain⟨m,n⟩:=sim.roOk.gp.max;have u:i=.string ⟨s.toArray⟩:=j;have d:b=.string ⟨t.toArray⟩:=x;subst u d;have l:s.length<4294967281:=by simpa using q
  refine(Any.strings_Contains L ⟨s.toArray⟩ ⟨t.toArray⟩ m w (by simpa[ByteArray.size]using l) (by rw[hg];exact n)).mono ?_;rintro e B ⟨rfl,rfl⟩;exact⟨_,_,_,p,[],rfl,⟨rfl,rfl⟩,by simpa using sim,rfl,Qe.refl _ _ _⟩
section
variable {P:Program} {o:Oper} {env:Env} {H:Qc} {fr ro:Nat->Prop} {σ:Sig} {w:World}
theorem Sim.touch(s:Sim fr ro σ H w){b:Nat}{obj:Obj}(r:¬ro b)(n:¬fr b)(B:∀(i:Nat) (x:Blk),σ[i]?=some (some b)->H[i]?=some x->x.live=true->False)
  (k:∀(i d:Nat) (x:Blk),σ[i]?=some (some d)->H[i]?=some x->Hid w x d b->False)
  (m:∀y,w.shape? b=some y->({w with heap:=w.heap.setIfInBounds b obj}:World).shape? b=some y):
  Sim fr ro σ H {w with heap:=w.heap.setIfInBounds b obj}/\Qe fr ro w ro {w with heap:=w.heap.setIfInBounds b obj}:=by
 have a:∀c,c≠b->({w with heap:=w.heap.setIfInBounds b obj}:World).heap[c]?=w.heap[c]? :=by
  intro c E;show(w.heap.setIfInBounds b obj)[c]?=_;rw[Vf,Vt (λq=>E q.symm)]
 have f:({w with heap:=w.heap.setIfInBounds b obj}:World).heap.size=w.heap.size:=by simp
 have ev:Qe fr ro w ro {w with heap:=w.heap.setIfInBounds b obj}:=
  ⟨λ_ h=>h,λc h=>a c (λq=>r (q▸h)),λc h=>a c (λq=>n (q▸h)),by rw[f];exact XU _,by
   intro c y h;by_cases q:c=b
   .subst q;exact m y h
   .unfold World.shape? at h⊢;rw[a c q];exact h,rfl,rfl,rfl,XU _⟩
 refine⟨⟨s.len,s.roOk.to (λ_ q=>q) ev.keepRo (λc h=>by rw[f];exact s.roLt c h),λc h=>by rw[f];exact s.frLt c h,s.roFr,?_,s.inj,?_,s.hidTo (· = ·) QT (by rw[f];exact XU _) (λ_ _ _ _ _ _ _ q=>q) (λ_ _ _ _ _ _ _ q=>q) λj d y t u G=>.inl ⟨j,y,rfl,t,u,id,λc q=>s.hidKeep t u (λz=>a d (λe=>B j y (e▸t) u z)) ev.keepRo q⟩⟩,ev⟩
 .intro i c x g l F;rw[f];exact s.own i c x g l F
 .intro i y x g l;refine(s.blk i y x g l).keep (ev.ext0 σ) ?_ ?_
  .rintro c rfl p;exact a c (λq=>by subst q;exact B i x g l p)
  .rintro d c rfl p;exact a c (λq=>k i d x g l (q▸p))
theorem Qlo{T E i n t:Nat}{x:Operand}{es:List (List A)}(ht:P.underlying T=some (.slice E))(hE:P.underlying E=some (.int .u8))(hn:es.length=n)(h0:Nat.blt 0 n=true)
  (ho:o.op=.convert T T x:=by exact rfl)(hx:opA env x=.osl i 0 n 1:=by exact rfl)(hH:H[i]?=some (.row t 1 es):=by exact rfl):
  OpH P o env H (.rsl 1 es) (H.set i .dead):=by
 intro fr O σ N a w r;subst hn;have k:=Qd r x;rw[hx]at k;rcases k with⟨hz,_⟩|⟨b,p,J,t',m,k,h2,h6,h3,h4,h5⟩
 .rw[hz]at h0;simp at h0
 .have aa:0<es.length:=by simpa using h0
  obtain rfl:=h6 (by omega);obtain⟨W,L,h⟩:=r.sim.own i b _ k hH rfl;obtain⟨l,X,q2⟩:=r.sim.blk i _ _ k hH;have s1:=r.sim.kill i;have g:∀(j:Nat) (y:Blk),σ[j]?=some (some b)->(H.set i .dead)[j]?=some y->y.live=true->False:=by
   intro j y F f u;by_cases q:j=i
   .subst q;rw[Xb]at f;simp only[if_true]at f;split at f
    .cases f;simp[Blk.live]at u
    .simp at f
   .rw[XQ (λz=>q z.symm)]at f;exact q (r.sim.inj j i b y _ F k f hH u rfl)
  have M:∀(j d:Nat) (y:Blk),σ[j]?=some (some d)->(H.set i .dead)[j]?=some y->Hid w y d b->False:=by
   intro j d y F f u;by_cases q:j=i
   .subst q;rw[Xb]at f;simp only[if_true]at f;split at f
    .cases f;exact u.elim
    .simp at f
   .rw[XQ (λz=>q z.symm)]at f;exact(r.sim.hid j d y b F f u).ne i b _ k hH rfl rfl
  let fz:Nat×Nat:=(l.length,l.length+1)
  have Q:∀y,w.shape? b=some y->({w with heap:=w.heap.setIfInBounds b (.cells l.toArray t fz)}:World).shape? b=some y:=by
   intro y V;unfold World.shape? at V⊢;rw[X]at V;have e:(w.heap.setIfInBounds b (.cells l.toArray t fz))[b]?=some (.cells l.toArray t fz):=by rw[Vf,Vu rfl,Vu W]
   simp only[e];exact V
  obtain⟨s2,B⟩:=s1.touch (obj:=.cells l.toArray t fz) L h g M Q;have s3:=s2.addRo (b:=b) (by simpa using W) h g (λj d y F f u=>M j d y F f (s1.hidKeep F f (λz=>by
   show(w.heap.setIfInBounds b _)[d]?=_;rw[Vf,Vt (λe:b=d=>g j y (by rw[e];exact F) f z)]) B.keepRo u))
  have s:({w with heap:=w.heap.setIfInBounds b (.cells l.toArray t fz)}:World).heap[b]?=some (.cells (([]:List Value)++l).toArray t fz):=by
   show(w.heap.setIfInBounds b _)[b]?=_;rw[Vf,Vu rfl,Vu W];rfl
  have G:Ext O [] w O [] {w with heap:=w.heap.setIfInBounds b (.cells l.toArray t fz)}:=B.ext0 [];refine⟨.slice (some ⟨b,0*1,none⟩) es.length J,_,λc=>O c\/c=b,[],?_,?_,by simpa using s3,B.trans (YE λ_ q=>.inl q)⟩
  .have hf:w.freeze ⟨b,l.length,none⟩ 1={w with heap:=w.heap.setIfInBounds b (.cells l.toArray t fz)}:=by
    unfold World.freeze;simp only[Nat.one_ne_zero,if_false];rw[Qba X];rfl
   have Y:(markStringish ⟨b,0*1,none⟩).run P w=.ok () {w with heap:=w.heap.setIfInBounds b (.cells l.toArray t fz)}:=by
    rw[<- hf];unfold markStringish;simp[shape,freeze,Sem.run,World.shape?,X,Result.andThen]
   have hu:∀w,(underlying T).run P w=.ok (.slice E) w:=run_underlying ht;have R:∀w,(underlying E).run P w=.ok (.int .u8) w:=run_underlying hE;generalize a.eval=ρ at*;simp only[execOp,ho,h2,convert,Vn,hu,R,Result.andThen,beq_self_eq_true,Y,Vp]
  .refine⟨some ⟨b,0*1,none⟩,J,rfl,h3,.inr ⟨b,0*1,rfl,.inr rfl,?_⟩⟩;have:=YG (pre:=[]) s (q2.mono G);exact(by simpa using this:RR O [] _ b 1 es (0*1)).keep ⟨λ_ q=>.inl q,λ_ _=>rfl,λ_ _ q=>q,λ_ _ q=>q⟩ rfl
end
mutual
theorem Qde(ρ:Nat->Nat):∀{a:A},Yk a=true->Yx ρ a=a
 |.any,_=>rfl
 |.bool _,_=>rfl
 |.int _ _,_=>rfl
 |.str _,_=>rfl
 |.nilp,_=>rfl
 |.ptr _ _,h=>by simp[Yk]at h
 |.rp _,_=>rfl
 |.nils,_=>rfl
 |.rsl _ _,_=>rfl
 |.osl _ _ _ _,h=>by simp[Yk]at h
 |.agg cs,h=>by simp only[Yk]at h;simp only[Yx,Qaf ρ h]
 |.fn f a c,h=>by simp only[Yk,XX]at h;simp only[Yx,Qaf ρ h.1,Qaf ρ h.2]
 |.nilf,_=>rfl
 |.iface t a,h=>by simp only[Yk]at h;simp only[Yx,Qde ρ h]
 |.nilif,_=>rfl
 |.map _,h=>by simp[Yk]at h
 |.nilm,_=>rfl
 |.tup vs,h=>by simp only[Yk]at h;simp only[Yx,Qaf ρ h]
theorem Qaf(ρ:Nat->Nat):∀{l:List A},Yb l=true->Qaa ρ l=l
 |[],_=>rfl
 |a::l,h=>by simp only[Yb,XX]at h;simp only[Qaa,Qde ρ h.1,Qaf ρ h.2]
end
theorem Qf6{α:Type}{e:α->List A}(b:∀x,Yb (e x)=true):∀L:List α,Yb (L.map e).flatten=true
 |[]=>rfl
 |c::L=>by
  have hdt:∀cs ds:List A,Yb cs=true->Yb ds=true->Yb (cs++ds)=true:=by
   intro cs
   induction cs with
   |nil=>intro ds _ h;exact h
   |cons c cs d=>
    intro ds a f;simp only[Yb,XX,VL]at a⊢;exact⟨a.1,d ds a.2 f⟩
  simp only[Vk,Vm];exact hdt _ _ (b c) (Qf6 b L)
theorem Qny{α:Type}{e:α->List A}(hd:∀x,Yb (e x)=true)(ρ:Nat->Nat)(l:List α):Yx ρ (.agg (l.map e).flatten)=.agg (l.map e).flatten:=
 Qde ρ (by simp only[Yk];exact Qf6 hd l)
end Go.Sw
namespace Go.Sw
section
variable {P:Program} {o:Oper} {env:Env} {H:Qc}
theorem Qep{c:Call}{f T:Nat}{x:Operand}{xs:List Operand}{k:Array TypeId}{name:String}{v:A}{args:List A}(b:∀(a:Array Value) (w:World),(callFunc f a).run P w=.ok (.enter f a) w)(n:o.op=.call c)
  (j:c={callee:=.invoke x name,args:=xs.toArray,argTypes:=k})(i:opA env x=.iface T v)(hargs:v::xs.map (opA env)=args)
  (m:∀(u:Value) (w:World),(method (P.types.size+Made.depth) T u name).run P w=.ok (f,u) w):OpC P o env H f args:=by
 intro q s σ N a w r;have d:=Qd r x;rw[i]at d;obtain⟨u,d,p⟩:=d;refine⟨u::xs.map a.eval,?_,hargs▸⟨u,xs.map a.eval,rfl,p,Qbf r xs⟩⟩;subst j;generalize a.eval=ρ at*;have e:(#[ρ x]++(xs.toArray.map ρ):Array Value)=(.iface T u::xs.map ρ).toArray:=by rw[d];simp
 have g:((.iface T u::xs.map ρ).toArray.extract 1 (.iface T u::xs.map ρ).toArray.size:Array Value)=(xs.map ρ).toArray:=by
  simp[VJ]
 have h:∀l:Array Value,(callMethod (.iface T u) name l).run P w=.ok (.enter f (#[u]++l)) w:=by
  intro l;simp only[callMethod,Vn,run_program,Result.andThen,m,b]
 simp only[execOp,n,resolve,e,invoke,Vn,Vp,Result.andThen];simp only[XH,XF,g,h];simp
theorem Qbw{T I:Nat}{x:Operand}{v:A}{d:TypeDesc}(f:∀w,(underlying T).run P w=.ok d w)(g:∀m,d≠ .interface m)(e:o.op=.typeAssert x I T true:=by exact rfl)(hx:opA env x=.iface T v:=by exact rfl):
  OpV P o env H (.tup [v,.bool true]):=by
 intro j i σ N a w r;have b:=Qd r x;rw[hx]at b;obtain⟨u,b,h⟩:=b;refine⟨.tuple #[u,.bool true],?_,[u,.bool true],rfl,_,_,rfl,h,_,_,rfl,rfl,rfl⟩;generalize a.eval=ρ at*;cases d<;>first|(simp[execOp,e,b,Instr.typeAssert,f,go_sem];done)|exact(g _ rfl).elim
theorem Qhg{T T' I:Nat}{x:Operand}{v z:A}{f:Value}{d:TypeDesc}(h:∀w,(underlying T).run P w=.ok d w)(l:∀m,d≠ .interface m)(b:Nat.beq T' T=false)(j:∀w,(zeroValue T).run P w=.ok f w)(g:ZR z f)
  (k:o.op=.typeAssert x I T true:=by exact rfl)(hx:opA env x=.iface T' v:=by exact rfl):
  OpV P o env H (.tup [z,.bool false]):=by
 intro n p σ N a w r;have e:=Qd r x;rw[hx]at e;obtain⟨u,e,s⟩:=e;have i:T'≠T:=λq=>by rw[q,VG]at b;cases b
 refine⟨.tuple #[f,.bool false],?_,[f,.bool false],rfl,_,_,rfl,g _ _ _,_,_,rfl,rfl,rfl⟩;generalize a.eval=ρ at*;cases d<;>first|(simp[execOp,k,e,Instr.typeAssert,h,i,j,go_sem];done)|exact(l _ rfl).elim
end
def TL(P:Program)(h0 N:Nat)(c:Code)(env:Env)(H:Qc)(Q:Qw):Prop:=
 ∀rd fr ro σ a w,Rel fr ro σ H env N a w->Qed rd fr w->∀(b:Frame) (k:List Item) (cs:List Frame),b.roundOf=(WF rd).round->(WF rd).fn b.fn->(WF rd).room (cs.length+1+0)->∃e a' w',QaR h0 fr ro σ w N a.defers Q e a' w'/\ArrivesIn (Machine.fenced P (WF rd)) P (lone (b.atR a (.code c::.inLoop c::k)) cs w) b k cs e a' w'
def Qjx(P:Program)(h0 N:Nat)(c:Code)(Q:Qw):Qw
 |.normal,env,H=>TL P h0 N c env H Q
 |.exit id,env,H=>Q (.exit id) env H
 |.ret,env,H=>Q .ret env H
section
variable {P:Program} {h0 N:Nat} {c:Code} {env:Env} {H:Qc} {Q:Qw}
theorem Qm0(h:TL P h0 N c env H Q):TC P h0 N (.loop c) env H Q:=by
 intro j g i σ a w r hrd b k cs hro hb hr;obtain⟨e,l,f,m,d⟩:=h j g i σ a w r hrd b k cs hro hb hr;exact⟨e,l,f,m,.of_steps (.one (fenced_calm hb hr rfl) stepR_loop) d⟩
theorem TL.round(h:TC P h0 N c env H (Qjx P h0 N c Q)):TL P h0 N c env H Q:=by
 intro y B z σ a w r hrd b k cs hro hb hr;obtain⟨e,l,n,O,d⟩:=h y B z σ a w r hrd b (.inLoop c::k) cs hro hb hr;obtain⟨x,f,H',j,σ',i,m,p,F,u,G,s⟩:=O;have E:∀x,Q x f H'->ExR e x->QaR h0 B z σ w N a.defers Q e l n:=λx q J=>⟨x,f,H',j,σ',i,J,q,F,u,G,s⟩;cases e with
 |normal=>
  obtain rfl:x=.normal:=m;obtain⟨L,M,R,t,g⟩:=p y i j σ' l n F (hrd.to u s.sub) b k cs hro hb hr;exact⟨L,M,R,t.grow u G s,.of_steps (StepsIn.trans d (.one (fenced_calm hb hr rfl) stepR_inLoop)) g⟩
 |exit id=>
  obtain rfl:x=.exit id:=m;exact⟨_,l,n,E _ p rfl,.pass (x:=.inLoop c) rfl (λ_ _=>.inl (by simp)) d⟩
 |ret=>
  obtain rfl:x=.ret:=m;exact⟨_,l,n,E _ p rfl,.pass (x:=.inLoop c) rfl (λ_ _=>.inl (by simp)) d⟩
 |_=>exact m.elim
theorem unrN(h:TC P h0 N c env H (Qjx P h0 N c Q)):Qjx P h0 N c Q .normal env H:=TL.round h
theorem unrX{id:Nat}(h:Q (.exit id) env H):Qjx P h0 N c Q (.exit id) env H:=h
theorem unrR(h:Q .ret env H):Qjx P h0 N c Q .ret env H:=h
theorem Qla(h:TC P h0 N c env H (Qjx P h0 N c Q)):TC P h0 N (.loop c) env H Q:=Qm0 (TL.round h)
end
section
variable {P:Program} {o:Oper} {env:Env} {H:Qc}
theorem Qeo{t et k b n j:Nat}{x y:Operand}{g:IntKind}{i:Int}(d:Nat.blt j n=true)(hi:i=(j:Int))(e:∀w,(underlying t).run P w=.ok (.slice et) w)(h:∀w,(sizeOf et).run P w=.ok k w)
  (a:o.op=.indexAddr t x y:=by exact rfl)(hx:opA env x=.osl b 0 n k:=by exact rfl)(hy:opA env y=.int g i:=by exact rfl):OpV P o env H (.ptr b (j*k)):=by
 subst hi;have f:=Qhh (H:=H) a e h hx hy (by omega) (by simpa using d)
 rwa [Int.toNat_natCast,Nat.zero_mul,Xw]at f
theorem Qb4{b t k e f off:Nat}{es:List (List A)}{c cs':List A}(a:off=e*k+f)(hH:H[b]?=some (.rowr t k es):=by exact rfl)(he:es[e]?=some c:=by exact rfl)(hcs:c.drop f=cs':=by exact rfl):Pts H (.ptr b off) cs':=
 Pts.rowr hH a he hcs
end
theorem Qfm{ro:Nat->Prop}{σ:Sig}{w:World}{k:Nat}:∀{es:List (List A)} {l l':List Value},RL ro σ w k es l->l.take (es.length*k)=l'.take (es.length*k)->RL ro σ w k es l'
 |[],_,_,_,_=>trivial
 |c::es,l,l',h,hp=>by
  obtain⟨l1,l2,rfl,h1,h2,h3⟩:=h;have hl1:l1.length=k:=by rw[h2.1.length];exact h1
  have a:l'.take k=l1:=by
   have:=congrArg (List.take k) hp;simp only[List.take_take,X2,Xm]at this;rw[XB (by omega)]at this;rw[<- this, <- hl1];simp
  refine⟨l1,l'.drop k,by rw[<- a,Xz],h1,h2,Qfm h3 ?_⟩;have:=congrArg (List.drop k) hp;simp only[X2,Xm,List.drop_take]at this;rw[show es.length*k+k-k=es.length*k by omega]at this;rw[<- this, <- hl1];simp
section
variable {P:Program} {o:Oper} {env:Env} {H:Qc}
theorem QfI{c:Call}{T et k b s n t:Nat}{x:Operand}{es es':List (List A)}{z:Value}(ht:P.underlying T=some (.slice et))(hz:∀w,(zeroValue et).run P w=.ok z w)(Q:z.cells.size=k)(R:∀v∈z.cells,Ql v)
  (O:es.take s=es')(hb:s+n=es.length)(ho:o.op=.call c:=by exact rfl)(hc:c={callee:=.builtin .clear,args:= #[x],argTypes:= #[T]}:=by exact rfl)
  (hx:opA env x=.osl b s n k:=by exact rfl)(hH:H[b]?=some (.row t k es):=by exact rfl):OpH P o env H (.tup []) (H.set b (.row t k es')):=by
 intro X G σ N a w r;subst O hc;have L:∀w,(underlying T).run P w=.ok (.slice et) w:=run_underlying ht;have h:=Qd r x;rw[hx]at h;have j:Sim X G σ (H.set b (.row t k (es.take s))) w:=by
  refine r.sim.weaken hH rfl ?_;intro y E;cases y with
  |none=>rw[show es=[]from E];simp[BR]
  |some J=>obtain⟨l,g1,g2⟩:=E;exact⟨l,g1,RL.take s g2⟩
 have f:∀v,a.eval x=v->(Builtin.clear_ #[T] o.type #[v]).run P w=.ok (.tuple #[]) w->
   ∃v w' ro' τ,(execOp a.eval o).run P w=.ok (.value v) w'/\VR ro' (σ++τ) w' (.tup []) v/\Sim X ro' (σ++τ) (H.set b (.row t k (es.take s))) w'/\Qe X G w ro' w':=by
  intro v F d;refine⟨.tuple #[],w,G,[],?_,⟨[],rfl,rfl⟩,by simpa using j,Qe.refl _ _ _⟩;generalize a.eval=ρ at*;simp only[execOp,ho,resolve,Vn,Vp,Result.andThen,invoke,builtin,XJ,Vk,Vl,F,d]
 rcases h with⟨hn,h⟩|⟨J,p,W,t',m,h,h2,h3,h4,h5,h6⟩
 .refine f _ h ?_;simp[Builtin.clear_,L,Result.andThen]
 .by_cases hn:n=0
  .subst hn;refine f _ h2 ?_;simp[Builtin.clear_,L,Result.andThen]
  .obtain rfl:=h3 (by omega);obtain⟨l,q1,q2⟩:=r.sim.blk b _ _ h hH;have ab:=q2.length
   let vs:=(Builtin.zeroCells z.cells n).toList
   have ae:vs.length=n*k:=by simp[vs,Builtin.zeroCells,Q]
   have aa:∀v∈vs,Ql v:=by
    intro v F;simp only[vs,Builtin.zeroCells,Array.toList_map,Xf,Array.toList_range,List.mem_range]at F;obtain⟨i,hi,rfl⟩:=F;have B:0<z.cells.size:=by
     rcases Nat.eq_zero_or_pos z.cells.size with q|q
     .rw[q,Nat.mul_zero]at hi;omega
     .exact q
    have u:i%z.cells.size<z.cells.size:=Nat.mod_lt _ B;rw[getElem!_pos z.cells _ u];exact R _ (Array.getElem_mem u)
   have ac:s*k+n*k=es.length*k:=by rw[<- XA,hb]
   have d:=Yf (P:=P) (vs:=vs) (s*k) 0 q1 (by omega) aa;have g:=r.sim.set (x':=.row t k (es.take s)) (obj:=.cells (splice l (s*k) vs).toArray t (0,0)) h hH rfl
    (λy E=>QaJ q1 (Yc (by omega)) y E)
    (λex M=>⟨_,M,by
     refine(Qfm (RL.take s q2) ?_).mono ex.nil;have hl:(es.take s).length*k<=s*k:=XC k (by simp;omega);have V:(es.take s).length*k<=(l.take (s*k)).length:=by rw[Xy (i:=s*k),XB (by omega)];exact hl
     have e:=X8 (l₂:=vs++l.drop (s*k+vs.length)) V;unfold splice;rw[Vj,e,List.take_take,XB hl]⟩)
   refine⟨.tuple #[],_,G,[],?_,⟨[],rfl,rfl⟩,by simpa using g.1,g.2⟩;have Y:(Builtin.clear_ #[T] o.type #[.slice (some ⟨J,s*k,none⟩) n W]).run P w=.ok (.tuple #[]) {w with heap:=w.heap.setIfInBounds J (.cells (splice l (s*k) vs).toArray t (0,0))}:=by
    obtain⟨n',rfl⟩:∃n',n=n'+1:=⟨n-1,by omega⟩;simp only[Xx]at d;simp only[Builtin.clear_,XH,XF,Vn,L,hz,Result.andThen,d,Vp,vs]
   generalize a.eval=ρ at*;simp only[execOp,ho,resolve,Vn,Vp,Result.andThen,invoke,builtin,XJ,Vk,Vl,h2,Y]
end
def isNil{α R:Type}[DecidableEq R](l:List α)(x y:Option R):Option R:=bif l.isEmpty then(bif decide (x=y)then x else none)else y
theorem QhR{α R:Type}[DecidableEq R]{l:List α}{x y:Option R}{r:R}(h:isNil l x y=some r)(b:Bool)(d:l≠[]->b=false):(b=true->x=some r)/\(b=false->y=some r):=by
 unfold isNil at h;cases q:l.isEmpty with
 |true=>
  rw[q]at h;by_cases a:x=y
  .subst a;simp at h;exact⟨λ_=>h,λ_=>h⟩
  .simp[a]at h
 |false=>
  rw[q]at h;have f:l≠[]:=by rintro rfl;cases q
  refine⟨λe=>?_,λ_=>h⟩;rw[d f]at e;cases e
section
variable {P:Program} {o:Oper} {env:Env} {H:Qc} {h0 N:Nat} {Q:Qw}
theorem Qlp{α:Type}{e:α->List A}{T E k:Nat}{u:TypeId}{x:Operand}{l:List α}(j:P.underlying T=some (.slice E))(s:o.op=.binOp .eql T x (.const (.slice none 0 0)) u)(n:opA env x=.rsl k (l.map e)):
  OpE P o env H (λv H'=>∃b:Bool,v=.bool b/\(l≠[]->b=false)/\H'=H):=by
 intro t q σ N a w r;have g:=Qd r x;rw[n]at g;obtain⟨ad,d,g,y,f⟩:=g;refine⟨.bool ad.isNone,H,.bool ad.isNone,w,q,[],⟨ad.isNone,rfl,λm=>?_,rfl⟩,?_,rfl,by simpa using r.sim,Qe.refl _ _ _⟩
 .rcases f with f|⟨b,h,f,_⟩
  .exact absurd (List.map_eq_nil_iff.1 f) m
  .rw[f];rfl
 .have p:a.eval (.const (.slice none 0 0))=.slice none 0 0:=rfl;generalize a.eval=ρ at*;have i:(eqGuard .eql T x (.const (.slice none 0 0)) (.slice ad (l.map e).length d) (.slice none 0 0)).run P w=.ok () w:=by simp[eqGuard]
  simp only[execOp,s,g,p,Vn,i,Result.andThen,Go.run_eql_slice_nil w T E ad _ d j,Vp]
theorem Qis{α:Type}{e:α->List A}{T E k d:Nat}{u:TypeId}{x:Operand}{l:List α}{all:Array Oper}{L:List Oper}(f:P.underlying T=some (.slice E))(h:opA env x=.rsl k (l.map e))
  (g:∀b:Bool,(l≠[]->b=false)->WO P h0 N all L (up env d (.bool b)) H Q)
  (a:o.op=.binOp .eql T x (.const (.slice none 0 0)) u:=by exact rfl)(hg:Qm all o env true:=by exact rfl)(hd:o.dst=some d:=by exact rfl)(hN:Nat.blt d N=true:=by exact rfl)(hh:Nat.ble h0 H.length=true:=by exact rfl):WO P h0 N all (o::L) env H Q:=by
 refine Qjw (XS hh) hg hd hN (Qlp f a h) ?_;rintro v H' ⟨b,rfl,i,rfl⟩;exact g b i
end
theorem slc0{α:Type}{l x:List α}{i:Int}(h:slc l 0 i=some x):0<=i/\i.toNat<=l.length/\l.take i.toNat=x/\x.length=i.toNat:=by
 obtain⟨_,b,e,d⟩:=QiT h;have a:l.take i.toNat=x:=by simpa using d
 exact⟨b,by omega,a,by rw[<- a,Xy];omega⟩
section
variable {P:Program} {o:Oper} {env:Env} {H:Qc} {α:Type} {e:α->List A} {T et k b t:Nat} {x y:Operand} {l l':List α} {i:Int}
theorem Qfr(h:slc l 0 i=some l')(E1:∀w,(underlying T).run P w=.ok (.slice et) w)(E2:∀w,(sizeOf et).run P w=.ok k w)(e:o.op=.slice T x (some y) none none:=by exact rfl)
  (hx:opA env x=.osl b 0 l.length k:=by exact rfl)(hy:opA env y=.int .i64 i:=by exact rfl):OpV P o env H (.osl b (0+i.toNat) (l.length-i.toNat) k):=by
 obtain⟨a,d,_,_⟩:=slc0 h;exact Qft E1 E2 e hx (.inr ⟨y,i,rfl,hy,a,rfl⟩) (.inl ⟨rfl,rfl⟩) d (XU _)
theorem Qfs(h:slc l 0 i=some l')(E1:∀w,(underlying T).run P w=.ok (.slice et) w)(E2:∀w,(sizeOf et).run P w=.ok k w)(f:o.op=.slice T x none (some y) none:=by exact rfl)
  (hx:opA env x=.osl b 0 l.length k:=by exact rfl)(hy:opA env y=.int .i64 i:=by exact rfl):OpV P o env H (.osl b 0 l'.length k):=by
 obtain⟨a,d,_,e⟩:=slc0 h;have:=Qft (H:=H) E1 E2 f hx (.inl ⟨rfl,rfl⟩) (.inr ⟨y,i,rfl,hy,a,rfl⟩) (XV _) d;rw[e];simpa using this
theorem Qfv{c:Call}{z:Value}(h:slc l 0 i=some l')(f:P.underlying T=some (.slice et))(g:∀w,(zeroValue et).run P w=.ok z w)(a:z.cells.size=k)(d:∀v∈z.cells,Ql v)(j:o.op=.call c:=by exact rfl)(hc:c={callee:=.builtin .clear,args:= #[x],argTypes:= #[T]}:=by exact rfl)
  (hx:opA env x=.osl b (0+i.toNat) (l.length-i.toNat) k:=by exact rfl)(hH:H[b]?=some (.row t k (l.map e)):=by exact rfl):OpH P o env H (.tup []) (H.set b (.row t k (l'.map e))):=by
 obtain⟨n,q,m,p⟩:=slc0 h;refine QfI f g a d ?_ ?_ j hc hx hH
 .rw[Xw, <- m,List.map_take]
 .rw[X3];omega
end
end Go.Sw
namespace Go.Sw
open Go.Sort Go.Proofs Go.Shelf
def ltI(x y:Int):Bool:=decide (x<y)
def sortI(l:List Int):Option (List Int):=bif Nat.ble l.length Qp then some (Y6 ltI l)else none
theorem Qhz{l l':List Int}(h:sortI l=some l'):l.length<=Qp/\Y6 ltI l=l':=by
 unfold sortI at h;cases e:Nat.ble l.length Qp with
 |false=>rw[e]at h;simp at h
 |true=>rw[e]at h;exact⟨XS e,X0 h⟩
theorem Qae{l l':List Int}(h:sortI l=some l'):l.length=l'.length:=by
 rw[<- (Qhz h).2];exact(Qn _ _).length_eq.symm
theorem QgS(l:List Int):Qd1 ltI l:=
 ⟨λx _=>by simp[ltI],λx _ y _ z _ a b=>by simp[ltI]at*;omega,λx _ y _ z _ a b=>by simp[ltI]at*;omega⟩
theorem Qd9(l:List Int):(l.mergeSort λx y=>decide (x<=y))=Y6 ltI l:=by
 refine Jj (lt:=ltI) ?_ ?_ ?_ (QY (QgS l))
 .exact(List.mergeSort_perm _ _).trans (Qn _ _).symm
 .intro x _ y _ a b;simp[ltI]at*;omega
 .refine(List.pairwise_mergeSort (le:=λx y=>decide (x<=y)) ?_ ?_ l).imp ?_
  .intro a b c;simp;omega
  .intro a b;simp;omega
  .intro a b;simp[ltI]
theorem Qkp{ro:Nat->Prop}{σ:Sig}{w:World}:∀{l:List Int} {lv:List Value},RL ro σ w 1 (l.map λx=>[A.int .i64 x]) lv->∃rest,lv=l.map (Value.int .i64)++rest
 |[],lv,_=>⟨lv,rfl⟩
 |x::l,lv,h=>by
  obtain⟨l1,l2,rfl,h1,⟨h2,h3⟩,h4⟩:=h;obtain⟨rest,rfl⟩:=Qkp (l:=l) h4;obtain⟨v,r,rfl,hv,hr⟩:=h2;cases(show r=[]from hr);exact⟨rest,by rw[show v=.int .i64 x from hv];simp⟩
theorem Qfn{ro:Nat->Prop}{σ:Sig}{w:World}:∀(l:List Int) (rest:List Value),RL ro σ w 1 (l.map λx=>[A.int .i64 x]) (l.map (Value.int .i64)++rest)
 |[],_=>trivial
 |x::l,rest=>⟨[.int .i64 x],l.map (Value.int .i64)++rest,by simp,rfl,⟨⟨_,_,rfl,rfl,rfl⟩,by simp[Ql]⟩,Qfn l rest⟩
theorem Qkw{P:Program}{ρ:Ren}(L:Lays.n189 P ρ){t:Nat}{l l':List Int}(hs:sortI l=some l'):
  C P (ρ.f 189) [.osl 0 0 l.length 1] [.row t 1 (l.map λx=>[A.int .i64 x])] (λa H=>a=.tup []/\H=[.row t 1 (l'.map λx=>[A.int .i64 x])]):=by
 intro fr O σ vals w s hv;obtain⟨vs,r1,rfl,ac,hr⟩:=hv;cases(show r1=[]from hr);obtain⟨T,Q⟩:=Qhz hs;have d:∀(ad:Option Addr) (c:Nat),vs=.slice ad 0 c->l=[]->
   Calls P (ρ.f 189) [vs].toArray w λe w'=>∃v r H' ro' τ,e=.returned v/\(r=.tup []/\H'=[.row t 1 (l'.map λx=>[A.int .i64 x])])/\Sim fr ro' (σ++τ) H' w'/\VR ro' (σ++τ) w' r v/\Qe fr O w ro' w':=by
  rintro ad c rfl rfl;have F:l'=[]:=by rw[<- Q];rfl
  subst F;refine(Any.slices_Sort_int_none L ad c w).mono ?_;rintro e w' ⟨rfl,rfl⟩;exact⟨_,_,_,O,[],rfl,⟨rfl,rfl⟩,by simpa using s,⟨[],rfl,rfl⟩,Qe.refl _ _ _⟩
 rcases ac with⟨h0,rfl⟩|⟨b,p,cp,t',m,q1,rfl,q2,q3,q4,q5⟩
 .exact d none 0 rfl (VK.1 h0)
 .by_cases F:l=[]
  .subst F;exact d _ cp rfl rfl
  .have ag:0<l.length:=List.length_pos_iff.2 F;obtain rfl:=q2 (Vg ag q3);obtain⟨lv,e1,e2⟩:=s.blk 0 _ _ q1 rfl;obtain⟨hb,aa,V⟩:=s.own 0 b _ q1 rfl rfl;obtain⟨u,rfl⟩:=Qkp e2;have hH:Holds (Value.int .i64) w b 0 l.toArray:=by
    intro j hj;simp only[List.size_toArray]at hj;constructor
    .unfold World.cell?;simp only[e1,Option.isSome_none,Xj,if_false,Xw];rw[Qac,XN (by simpa using hj)];simp[hj]
    .unfold World.frozen?;simp only[e1];simp
   have z:=Any.slices_Sort_int L b 0 cp l w hH hb (by unfold Qp at T;omega);rw[Qd9,Q]at z;simp only[Nat.zero_mul]at z⊢;refine z.mono ?_;rintro e w' ⟨rfl,n,os,rfl⟩;have B:l.length=l'.length:=Qae hs;generalize hW:grow (putRow (Value.int .i64) (Sort.ahead w n) b 0 l'.toArray) os=W;have g:W.heap=w.heap.setIfInBounds b (.cells ((l'.map (Value.int .i64)++u)).toArray t (0,0))++os:=by
    rw[<- hW];show(w.heap.modify b _)++os=_;rw[Qba e1];simp only[onCells];congr 3;unfold putCells;apply Array.ext_getElem?;intro i;simp only[Array.getElem?_mapIdx,Qac,XV,true_and,Xw,Xv,List.size_toArray];by_cases hi:i<l'.length
    .rw[XN (by simpa[B]using hi),XN (by simpa using hi)];simp[hi,B]
    .rw[XO (by simp;omega),XO (by simp;omega)];simp only[X3,B];cases(u[i-l'.length]?)with
     |none=>rfl
     |some v=>exact congrArg some (Vt hi)
   have g1:∀c,c<w.heap.size->c≠b->W.heap[c]?=w.heap[c]? :=by
    intro c k af;rw[g,Array.getElem?_append_left (by simpa using k),Vf,Vt (λq=>af q.symm)]
   have g2:W.heap[b]?=some (.cells ((l'.map (Value.int .i64)++u)).toArray t (0,0)):=by
    rw[g,Array.getElem?_append_left (by simpa using hb),Vf,Vu rfl,Vu hb]
   have g3:w.heap.size<=W.heap.size:=by rw[g];simp
   have E:∀c y,w.shape? c=some y->W.shape? c=some y:=by
    intro c y G;by_cases k:c=b
    .subst k;unfold World.shape? at G⊢;rw[e1]at G;rw[g2];simp only[Option.some.injEq]at G⊢;rw[<- G];simp[B]
    .unfold World.shape? at G⊢;rw[g1 c (QbF G) k];exact G
   have ae:W.os=w.os:=by rw[<- hW];rfl
   have ab:W.tape=w.tape:=by rw[<- hW];rfl
   have ai:W.output=w.output:=by rw[<- hW];rfl
   have ah:w.drawn<=W.drawn:=by rw[<- hW];exact Nat.le_add_right _ _
   have Y:Qe fr O w O W:=
    ⟨λ_ q=>q,λc k=>g1 c (s.roLt c k) (λq=>aa (q▸k)),λc k=>g1 c (s.frLt c k) (λq=>V (q▸k)),g3,E,ae,ab,ai,ah⟩
   have J:σ.length=1:=s.len;have R:Sim fr O σ [.row t 1 (l'.map λx=>[A.int .i64 x])] W:=by
    have X:∀{i:Nat} {x:Blk},([.row t 1 (l'.map λx=>[A.int .i64 x])]:Qc)[i]?=some x->i=0/\x=.row t 1 (l'.map λx=>[A.int .i64 x]):=by
     intro i x h;cases i with
     |zero=>simp at h;exact⟨rfl,h.symm⟩
     |succ i=>simp at h
    refine⟨J,s.roOk.to (λ_ q=>q) Y.keepRo (λc k=>Vg (s.roLt c k) g3),λc k=>Vg (s.frLt c k) g3,s.roFr,λi c x M N h3=>?_,λi j c x y M N h3 h4 _ _=>?_,λi y x M N=>?_,λi b x c M N h3=>by obtain⟨rfl,rfl⟩:=X N;exact h3.elim⟩
    .obtain⟨rfl,rfl⟩:=X N;obtain⟨p1,p2⟩:=s.own 0 c _ M rfl rfl;exact⟨Vg p1 g3,p2⟩
    .rw[(X h3).1,(X h4).1]
    .obtain⟨rfl,rfl⟩:=X N;rw[q1]at M;cases M;exact⟨_,g2,Qfn l' u⟩
   exact⟨_,_,_,O,[],rfl,⟨rfl,rfl⟩,by simpa using R,⟨[],rfl,rfl⟩,Y⟩
section
variable {P:Program} {o:Oper} {env:Env} {H:Qc} {α:Type} {e:α->List A} {T et k b t:Nat} {x y:Operand}
theorem Qlk{lo hi:Option Operand}{l r:List α}{a c:Int}(h:slc l a c=some r)(E1:∀w,(underlying T).run P w=.ok (.slice et) w)(E2:∀w,(sizeOf et).run P w=.ok k w)
  (f:lo=none/\a=0\/ ∃y,lo=some y/\opA env y=.int .i64 a)(g:hi=none/\c=l.length\/ ∃y,hi=some y/\opA env y=.int .i64 c)
  (j:o.op=.slice T x lo hi none:=by exact rfl)(hx:opA env x=.osl b 0 l.length k:=by exact rfl):OpV P o env H (.osl b (0+a.toNat) (c.toNat-a.toNat) k):=by
 obtain⟨i,m,n,_⟩:=QiT h;refine Qft (l:=a.toNat) (h:=c.toNat) E1 E2 j hx ?_ ?_ (by omega) (by omega)
 .rcases f with⟨e,d⟩|⟨y,e,d⟩
  .exact .inl ⟨e,by rw[d];rfl⟩
  .exact .inr ⟨y,a,e,d,i,rfl⟩
 .rcases g with⟨e,d⟩|⟨y,e,d⟩
  .exact .inl ⟨e,by rw[d];simp⟩
  .exact .inr ⟨y,c,e,d,by omega,rfl⟩
end
end Go.Sw
namespace Go.Sw
inductive Bx where
 |mk (a:A)
def lkB:Env->Nat->Bx
 |[],_=>.mk .any
 |(d,a)::r,s=>bif Nat.beq s d then .mk a else lkB r s
theorem Qi9:∀{env:Env} {s:Nat} {a:A},lkB env s=.mk a->lk env s=a
 |[],s,a,h=>by cases h;rfl
 |(d,b)::r,s,a,h=>by
  unfold lkB at h;unfold lk;cases q:Nat.beq s d with
  |true=>rw[q]at h;cases h;rfl
  |false=>rw[q]at h;exact Qi9 h
inductive FBy where
 |mk (l:List UInt8)
def fby:List UInt8->FBy
 |[]=>.mk []
 |a::r=>match fby r with
  |.mk r'=>.mk (a::r')
theorem Qms:∀l:List UInt8,fby l=.mk l
 |[]=>rfl
 |a::r=>by unfold fby;rw[Qms r]
def opB(env:Env):Operand->Bx
 |.tmp t=>lkB env t
 |.const (.bool b)=>.mk (.bool b)
 |.const (.int k n)=>.mk (.int k n)
 |.const (.string s)=>match fby s.data.toList with
  |.mk l=>.mk (.str l)
 |.const (.pointer none)=>.mk .nilp
 |.const (.slice none 0 0)=>.mk .nils
 |.const (.map none)=>.mk .nilm
 |.const .nilFunc=>.mk .nilf
 |.const .nilIface=>.mk .nilif
 |.func f=>.mk (.fn (.func f) [] [])
 |_=>.mk .any
theorem Qy{env:Env}{x:Operand}{a:A}(h:opB env x=.mk a):opA env x=a:=by
 cases x with
 |tmp t=>exact Qi9 h
 |const v=>
  cases v with
  |slice b n k=>cases b with
   |none=>cases n with
    |zero=>cases k<;>(cases h;rfl)
    |succ n=>cases h;rfl
   |some b=>cases h;rfl
  |pointer p=>cases p<;>(cases h;rfl)
  |map p=>cases p<;>(cases h;rfl)
  |string s=>
   have d:(match fby s.data.toList with|.mk l=>Bx.mk (.str l))=.mk a:=h;rw[Qms]at d;cases d;rfl
  |_=>cases h;rfl
 |global g=>cases h;rfl
 |func f=>cases h;rfl
def YQ{α:Type}:List α->Nat->Option α
 |[],_=>none
 |a::_,0=>some a
 |_::r,n+1=>YQ r n
theorem QaE{α:Type}:∀(l:List α) (n:Nat),YQ l n=l[n]?
 |[],n=>by simp[YQ]
 |a::r,0=>rfl
 |a::r,n+1=>by simp[YQ,QaE r n]
def arB:BinOp->IntKind->Int->Int->Option A
 |.add,k,m,n=>some (.int k (k.wrap (m+n)))
 |.sub,k,m,n=>some (.int k (k.wrap (m-n)))
 |.mul,k,m,n=>some (.int k (k.wrap (m*n)))
 |.eql,_,m,n=>some (.bool (m==n))
 |.neq,_,m,n=>some (.bool (m != n))
 |.lss,_,m,n=>some (.bool (decide (m<n)))
 |.leq,_,m,n=>some (.bool (decide (m<=n)))
 |.gtr,_,m,n=>some (.bool (decide (n<m)))
 |.geq,_,m,n=>some (.bool (decide (n<=m)))
 |_,_,_,_=>none
def srB:BinOp->List UInt8->List UInt8->Option A
 |.eql,p,q=>some (.bool (p==q))
 |.neq,p,q=>some (.bool (p != q))
 |.lss,p,q=>some (.bool (Op.bytesLess p q))
 |_,_,_=>none
def biB(b:BinOp):Bx->Bx->Option A
 |.mk (.int k m),.mk (.int k' n)=>if k=k' then arB b k m n else none
 |.mk (.str p),.mk (.str q)=>srB b p q
 |_,_=>none
def unB:UnOp->Bx->Option A
 |.not,.mk (.bool b)=>some (.bool !b)
 |.neg,.mk (.int k n)=>some (.int k (k.wrap (0-n)))
 |_,_=>none
def exB:Bx->Nat->Option A
 |.mk (.tup vs),i=>YQ vs i
 |_,_=>none
def nlB:Bx->Option A
 |.mk (.ptr i j)=>some (.ptr i j)
 |.mk (.rp cs)=>some (.rp cs)
 |_=>none
def piB:Bx->Bx->Bx->Option A
 |.mk (.bool true),.mk a,_=>some a
 |.mk (.bool false),_,.mk a=>some a
 |_,_,_=>none
def svB(env:Env):Op->Option A
 |.move x=>match opB env x with|.mk a=>some a
 |.assign x=>match opB env x with|.mk a=>some a
 |.nilCheck x=>nlB (opB env x)
 |.extract x i=>exB (opB env x) i
 |.unOp u _ x=>unB u (opB env x)
 |.pick c x y=>piB (opB env c) (opB env x) (opB env y)
 |.binOp b _ x y _=>biB b (opB env x) (opB env y)
 |_=>none
def pr(d:Nat):Option A->Option (Nat×A)
 |some a=>some (d,a)
 |none=>none
def stB(o:Oper)(env:Env):Option (Nat×A):=
 match o.dst with
 |some d=>pr d (svB env o.op)
 |none=>none
section
variable {P:Program} {h0 N:Nat} {all:Array Oper} {o:Oper} {l:List Oper} {env:Env} {H H':Qc} {Q:Qw} {d:Nat} {x:A}
theorem QbD{p:Op}(d:o.op=p)(h:svB env p=some x):OpV P o env H x:=by
 unfold svB at h;split at h
 .rename_i y;cases q:opB env y with|mk a=>rw[q]at h;cases h;exact OpV.move d (Qy q)
 .rename_i y;cases q:opB env y with|mk a=>rw[q]at h;cases h;exact OpV.assign d (Qy q)
 .rename_i y;unfold nlB at h;split at h
  .rename_i i j q;cases h;exact Yv d (Qy q) rfl
  .rename_i s q;cases h;exact Yv d (Qy q) rfl
  .cases h
 .rename_i y i;unfold exB at h;split at h
  .rename_i vs _ q;rw[QaE]at h;exact OpV.extract d (Qy q) h
  .cases h
 .rename_i u t y;unfold unB at h;split at h
  .rename_i b q;cases h;exact OpV.not d (Qy q)
  .rename_i k n q;cases h;exact OpV.neg d (Qy q)
  .cases h
 .rename_i c y z;unfold piB at h;split at h
  .rename_i a _ r l;cases h;exact OpV.pick d (Qy r) (by rw[Vu rfl];exact Qy l)
  .rename_i a r l;cases h;exact OpV.pick d (Qy r) (by rw[Vt (by decide)];exact Qy l)
  .cases h
 .rename_i b t y z u;unfold biB at h;split at h
  .rename_i k m w n r l;split at h
   .rename_i e;subst e;have f:=Qy r;have g:=Qy l;unfold arB at h;split at h
    .cases h;exact OpV.add d f g
    .cases h;exact OpV.sub d f g
    .cases h;exact OpV.mul d f g
    .cases h;exact OpV.eql d f g
    .cases h;exact OpV.neq d f g
    .cases h;exact OpV.lss d f g
    .cases h;exact OpV.leq d f g
    .cases h;exact OpV.gtr d f g
    .cases h;exact OpV.geq d f g
    .cases h
   .cases h
  .rename_i p q r l;have f:=Qy r;have g:=Qy l;unfold srB at h;split at h
   .cases h;exact QdB d f g
   .cases h;exact Qlf d f g
   .cases h;exact Qlg d f g
   .cases h
  .cases h
 .cases h
theorem QgG(h:stB o env=some (d,x)):o.dst=some d/\OpV P o env H x:=by
 unfold stB at h;split at h
 .rename_i b q;cases e:svB env o.op with
  |none=>rw[e]at h;cases h
  |some a=>rw[e]at h;cases h;exact⟨q,QbD rfl e⟩
 .cases h
theorem S(e:stB o env=some (d,x))(k:WO P h0 N all l (up env d x) H Q)(hg:Qm all o env true:=by exact rfl)(hN:Nat.blt d N=true:=by exact rfl):WO P h0 N all (o::l) env H Q:=
 QE hg (QgG (P:=P) (H:=H) e).1 hN (QgG e).2 k
theorem Sg(hg:Qm all o env true)(e:stB o env=some (d,x))(k:WO P h0 N all l (up env d x) H Q)(a:Nat.blt d N=true:=by exact rfl):WO P h0 N all (o::l) env H Q:=
 QE hg (QgG (P:=P) (H:=H) e).1 a (QgG e).2 k
theorem K(hg:Qm all o env false)(a:o.dst=some d)(k:WO P h0 N all l (up env d (.tup [])) H Q)(b:Nat.blt d N=true:=by exact rfl):WO P h0 N all (o::l) env H Q:=
 WO.skip hg a b k
theorem KF{j s:Nat}{c y:Bool}(e:y= !c)(a:o.dst=some d)(k:WO P h0 N all l (up env d (.tup [])) H Q)(b:Nat.blt d N=true:=by exact rfl)(hg:o.guard=some (j,c):=by exact rfl)(hs:(all[j]?).bind (·.dst)=some s:=by exact rfl)(hl:lk env s=.bool y:=by exact rfl):WO P h0 N all (o::l) env H Q:=
 WO.skip (gF e hg hs hl) a b k
def p2B(v:Bool):Bx->Bx->Bx->Option (Bool×A)
 |.mk (.bool b),.mk a,.mk a'=>match v with|true=>some (b,a)|false=>some (b,a')
 |_,_,_=>none
def pr2(d:Nat):Option (Bool×A)->Option (Nat×Bool×A)
 |some a=>some (d,a)
 |none=>none
def pkB(v:Bool)(o:Oper)(env:Env):Option (Nat×Bool×A):=
 match o.dst,o.op with
 |some d,.pick c x y=>pr2 d (p2B v (opB env c) (opB env x) (opB env y))
 |_,_=>none
theorem QoY{v b:Bool}{p q r:Bx}(h:p2B v p q r=some (b,x)):∃a a',p=.mk (.bool b)/\q=.mk a/\r=.mk a'/\(bif v then a else a')=x:=by
 obtain⟨p⟩:=p;obtain⟨q⟩:=q;obtain⟨r⟩:=r;cases p<;>first|(cases h;done)|skip
 cases v<;>cases h<;>exact⟨_,_,rfl,rfl,rfl,rfl⟩
theorem Ql0{v b:Bool}(h:pkB v o env=some (d,b,x))(m:b=v):o.dst=some d/\OpV P o env H x:=by
 unfold pkB at h;split at h
 .rename_i n c y z g f;cases e:p2B v (opB env c) (opB env y) (opB env z)with
  |none=>rw[e]at h;cases h
  |some s=>
   rw[e]at h;cases h;obtain⟨a,p,l,i,j,k⟩:=QoY e;refine⟨g,OpV.pick f (Qy l) ?_⟩;rw[Qy i,Qy j,m];cases v<;>exact k
 .cases h
theorem Pk{v b:Bool}(a:b=v)(e:pkB v o env=some (d,b,x))(k:WO P h0 N all l (up env d x) H Q)(hg:Qm all o env true:=by exact rfl)(hN:Nat.blt d N=true:=by exact rfl):WO P h0 N all (o::l) env H Q:=
 QE hg (Ql0 (P:=P) (H:=H) e a).1 hN (Ql0 e a).2 k
def fpB(o:Oper)(env:Env):Option (Nat×Nat×Nat×Nat×Nat):=
 match o.dst,o.op with
 |some d,.fieldAddr T x f=>match opB env x with
  |.mk (.ptr i p)=>some (d,T,f,i,p)
  |_=>none
 |_,_=>none
theorem QgZ{T f off n i p:Nat}(b:QV P T f off n)(h:fpB o env=some (d,T,f,i,p)):o.dst=some d/\OpV P o env H (.ptr i (p+off)):=by
 unfold fpB at h;split at h
 .rename_i g a;split at h
  .rename_i e;cases h;exact⟨g,Yo b a (Qy e)⟩
  .cases h
 .cases h
theorem Fp{T f off n i p:Nat}(a:QV P T f off n)(e:fpB o env=some (d,T,f,i,p))(k:WO P h0 N all l (up env d (.ptr i (p+off))) H Q)(hg:Qm all o env true:=by exact rfl)(hN:Nat.blt d N=true:=by exact rfl):WO P h0 N all (o::l) env H Q:=
 QE hg (QgZ (H:=H) a e).1 hN (QgZ a e).2 k
theorem Fpg{T f off n i p:Nat}(hg:Qm all o env true)(a:QV P T f off n)(e:fpB o env=some (d,T,f,i,p))(k:WO P h0 N all l (up env d (.ptr i (p+off))) H Q)(b:Nat.blt d N=true:=by exact rfl):WO P h0 N all (o::l) env H Q:=
 QE hg (QgZ (H:=H) a e).1 b (QgZ a e).2 k
inductive Lx where
 |mk (l:List A)
def Qfh:Nat->List A->Lx
 |0,l=>.mk l
 |n+1,_::r=>Qfh n r
 |_+1,[]=>.mk []
theorem QcU:∀{n:Nat} {l r:List A},Qfh n l=.mk r->l.drop n=r
 |0,l,r,h=>by cases h;rfl
 |n+1,a::l,r,h=>by rw[List.drop_succ_cons];exact QcU h
 |n+1,[],r,h=>by cases h;rfl
def frB(off:Nat)(o:Oper)(env:Env):Option (Nat×Nat×Nat×List A):=
 match o.dst,o.op with
 |some d,.fieldAddr T x f=>match opB env x with
  |.mk (.rp cs)=>match Qfh off cs with
   |.mk r=>some (d,T,f,r)
  |_=>none
 |_,_=>none
theorem Qmm{T f off n:Nat}{r:List A}(i:QV P T f off n)(h:frB off o env=some (d,T,f,r)):o.dst=some d/\OpV P o env H (.rp r):=by
 unfold frB at h;split at h
 .rename_i e b;split at h
  .rename_i g j;cases a:Qfh off g with|mk r'=>rw[a]at h;cases h;exact⟨e,Qo i b (Qy j) (QcU a)⟩
  .cases h
 .cases h
theorem Fr{T f off n:Nat}{r:List A}(a:QV P T f off n)(e:frB off o env=some (d,T,f,r))(k:WO P h0 N all l (up env d (.rp r)) H Q)(hg:Qm all o env true:=by exact rfl)(hN:Nat.blt d N=true:=by exact rfl):WO P h0 N all (o::l) env H Q:=
 QE hg (Qmm (H:=H) a e).1 hN (Qmm a e).2 k
def ctB:Option Blk->Nat->Option A
 |some (.cells _ cs),off=>YQ cs off
 |_,_=>none
def lvB(H:Qc):Bx->Option A
 |.mk (.ptr i off)=>ctB (YQ H i) off
 |.mk (.rp (a::_))=>some a
 |_=>none
def pr3(d t:Nat):Option A->Option (Nat×Nat×A)
 |some a=>some (d,t,a)
 |none=>none
def ldB(o:Oper)(env:Env)(H:Qc):Option (Nat×Nat×A):=
 match o.dst,o.op with
 |some d,.load t x=>pr3 d t (lvB H (opB env x))
 |_,_=>none
theorem QgU{t:Nat}(l:∀w,(isAgg t).run P w=.ok false w)(h:ldB o env H=some (d,t,x)):o.dst=some d/\OpV P o env H x:=by
 unfold ldB at h;split at h
 .rename_i p q y m k;cases e:lvB H (opB env y)with
  |none=>rw[e]at h;cases h
  |some a=>
   rw[e]at h;cases h;refine⟨m,?_⟩;unfold lvB at e;split at e
   .rename_i i b j;unfold ctB at e;split at e
    .rename_i b s T0 T cs q4;rw[QaE]at e q4;obtain⟨f,n⟩:∃f,cs.drop b=x::f:=by
      have g:=(XM.1 e).1;refine⟨cs.drop (b+1),?_⟩;rw[Xr g,(XM.1 e).2]
     exact OpV.load k l (Qy j) (Pts.cells q4 n)
    .cases e
   .rename_i a r j;cases e;exact OpV.load k l (Qy j) Pts.rp
   .cases e
 .cases h
theorem Ld{t:Nat}(a:∀w,(isAgg t).run P w=.ok false w)(e:ldB o env H=some (d,t,x))(k:WO P h0 N all l (up env d x) H Q)(hg:Qm all o env true:=by exact rfl)(hN:Nat.blt d N=true:=by exact rfl):WO P h0 N all (o::l) env H Q:=
 QE hg (QgU a e).1 hN (QgU a e).2 k
theorem Ldg{t:Nat}(hg:Qm all o env true)(a:∀w,(isAgg t).run P w=.ok false w)(e:ldB o env H=some (d,t,x))(k:WO P h0 N all l (up env d x) H Q)(b:Nat.blt d N=true:=by exact rfl):WO P h0 N all (o::l) env H Q:=
 QE hg (QgU a e).1 b (QgU a e).2 k
def ixB(o:Oper)(env:Env):Option (Nat×Nat×Nat×List (List A)×IntKind×Int):=
 match o.dst,o.op with
 |some d,.indexAddr t x y=>match opB env x,opB env y with
  |.mk (.rsl k es),.mk (.int kk i)=>some (d,t,k,es,kk,i)
  |_,_=>none
 |_,_=>none
theorem Ix{α:Type}{e:α->List A}{t et k:Nat}{L:List α}{p:IntKind}{i:Int}{v:α}(h:idx L i=some v)(g:∀w,(underlying t).run P w=.ok (.slice et) w)(j:∀w,(sizeOf et).run P w=.ok k w)
  (q:ixB o env=some (d,t,k,L.map e,p,i))(k:WO P h0 N all l (up env d (.rp (e v))) H Q)(hg:Qm all o env true:=by exact rfl)(hN:Nat.blt d N=true:=by exact rfl):WO P h0 N all (o::l) env H Q:=by
 unfold ixB at q;split at q
 .rename_i f a;split at q
  .rename_i n b;simp only[Option.some.injEq,Prod.mk.injEq]at q;obtain⟨rfl,rfl,rfl,m,rfl,rfl⟩:=q;exact QE hg f hN (Qhi h g j a (by rw[Qy n,m]) (Qy b)) k
  .cases q
 .cases q
def lnB(o:Oper)(env:Env):Option (Nat×Nat×Bx):=
 match o.dst,o.op with
 |some d,.call c=>match c with
  |{callee:=.builtin .len,args:=⟨[x]⟩,argTypes:=⟨[t]⟩}=>some (d,t,opB env x)
  |_=>none
 |_,_=>none
theorem Qo5{t:Nat}{b:Bx}(q:lnB o env=some (d,t,b)):∃x,o.dst=some d/\o.op=.call {callee:=.builtin .len,args:= #[x],argTypes:= #[t]}/\opB env x=b:=by
 unfold lnB at q;split at q
 .rename_i e a;split at q
  .cases q;exact⟨_,e,a,rfl⟩
  .cases q
 .cases q
theorem LnM{α:Type}{e:α->List A}{t et k:Nat}{L:List α}(b:∀w,(underlying t).run P w=.ok (.slice et) w)(q:lnB o env=some (d,t,.mk (.rsl k (L.map e))))
  (k:WO P h0 N all l (up env d (.int .i64 L.length)) H Q)(hg:Qm all o env true:=by exact rfl)(hN:Nat.blt d N=true:=by exact rfl):WO P h0 N all (o::l) env H Q:=by
 obtain⟨x,g,a,f⟩:=Qo5 q;exact QE hg g hN (Qm6 b a rfl (Qy f)) k
end
section
variable {P:Program} {h0 N:Nat} {all:Array Oper} {env env':Env} {H H':Qc} {Q:Qw} {c c':Code}
theorem Nx(h:TC P h0 N c env H Q):WO P h0 N all [] env H (Seq P h0 N c Q):=WO.nil (QlK h)
theorem Rg{id:Nat}{l:List Oper}(h:WO P h0 N l.toArray l env H (Seq P h0 N c Q)):TC P h0 N (.seq (.region id l.toArray false) c) env H Q:=TC.seq (TC.region h)
theorem SkN(h:TC P h0 N c env H Q):TC P h0 N .skip env H (Seq P h0 N c Q):=TC.skip (QlK h)
theorem ExX{id:Nat}(h:Q (.exit id) env H):TC P h0 N (.exit id) env H (Seq P h0 N c Q):=TC.exit (seqX h)
theorem Oi{α:Type}{x y:α}(h:some x=some y):x=y:=X0 h
theorem Bd{α β:Type}{x:Option α}{f:α->Option β}{r:β}{G:Prop}(h:x.bind f=some r)(k:∀a,x=some a->f a=some r->G):G:=by
 obtain⟨a,b,d⟩:=bnd h;exact k a b d
theorem If{α:Type}{c:Bool}{x y:Option α}{r:α}{G:Prop}(h:(bif c then x else y)=some r)(t:c=true->x=some r->G)(e:c=false->y=some r->G):G:=by
 cases c with
 |true=>exact t rfl h
 |false=>exact e rfl h
theorem Cn{α:Type}{x:Operand}{t:Bool}{p q:Option α}{r:α}(hx:opB env x=.mk (.bool t))(h:(bif t then p else q)=some r)(ht:t=true->p=some r->TC P h0 N c env H Q)(hf:t=false->q=some r->TC P h0 N c' env H Q):TC P h0 N (.cond x c c') env H Q:=
 TC.cond (Qy hx) (λe=>ht e (ifT e h)) (λe=>hf e (ifF e h))
theorem Jq{α:Type}{x:Operand}{t:Bool}{p q:Option α}{r:α}(hx:opB env x=.mk (.bool t))(h:(bif t then p else q)=some r)(hf:t=false->q=some r->TC P h0 N c' env H Q)(ht:t=true->p=some r->TC P h0 N c env H Q):TC P h0 N (.cond x c c') env H Q:=
 TC.cond (Qy hx) (λe=>ht e (ifT e h)) (λe=>hf e (ifF e h))
theorem Lr(π:List Nat)(a:π.take h0=List.range h0:=by exact rfl)(hH:π.map (λp=>H[p]?)=(H'.map (QS (rho π H.length))).map some:=by exact rfl)(hπ:π.Nodup:=by decide)
  (hE:Qd4 (rho π H.length) env env':=by(repeat' (first|exact trivial|refine⟨rfl,?_⟩))):Le h0 env H env' H':=Qnd π a hH hπ hE
end
end Go.Sw
namespace Go.Sw
def Ev{α:Type}(f:Nat->Option α)(v:α):Prop:=∃N,∀n,N<=n->f n=some v
section
variable {α β:Type} {f g:Nat->Option α} {v w:α}
theorem Qa(v:α):Ev (λ_=>some v) v:=⟨0,λ_ _=>rfl⟩
theorem Ev.const{o:Option α}(h:o=some v):Ev (λ_=>o) v:=⟨0,λ_ _=>h⟩
theorem Ev.bind{k:Nat->α->Option β}{b:β}(h:Ev f v)(a:Ev (λn=>k n v) b):Ev (λn=>(f n).bind (k n)) b:=by
 obtain⟨N,h⟩:=h;obtain⟨M,a⟩:=a;exact⟨max N M,λn d=>by show(f n).bind (k n)=some b;rw[h n (by omega),XK];exact a n (by omega)⟩
theorem QaV{o:Option α}{k:Nat->α->Option β}{b:β}(h:o=some v)(hk:Ev (λn=>k n v) b):Ev (λn=>o.bind (k n)) b:=Ev.bind (Ev.const h) hk
theorem QbW{c:Bool}(a:c=true->Ev f v)(b:c=false->Ev g w):Ev (λn=>bif c then f n else g n) (bif c then v else w):=by
 cases c with
 |true=>exact a rfl
 |false=>exact b rfl
theorem QfA(h:Ev f v):Ev (λn=>bif true then f n else g n) v:=h
theorem Y8(h:Ev g v):Ev (λn=>bif false then f n else g n) v:=h
theorem Qv{c d:Bool}{h:Nat->Option Bool}(a:c=true->Ev h d):Ev (λn=>bif c then h n else some false) (c&&d):=by
 cases c with
 |true=>exact a rfl
 |false=>exact Qa _
theorem Ev.or{c d:Bool}{h:Nat->Option Bool}(a:c=false->Ev h d):Ev (λn=>bif c then some true else h n) (c||d):=by
 cases c with
 |true=>exact Qa _
 |false=>exact a rfl
theorem Ev.eq(h:Ev f v)(e:v=w):Ev f w:=e▸h
theorem Y0(h:Ev f v)(e:∀n,g n=f n):Ev g v:=by
 obtain⟨N,h⟩:=h;exact⟨N,λn a=>by rw[e];exact h n a⟩
theorem YK(h:Ev (λn=>f (n+1)) v):Ev f v:=by
 obtain⟨N,h⟩:=h;refine⟨N+1,λn a=>?_⟩;obtain⟨m,rfl⟩:∃m,n=m+1:=⟨n-1,by omega⟩;exact h m (by omega)
theorem Ev.ex(h:Ev f v):∃n,f n=some v:=let⟨N,h⟩:=h;⟨N,h N (XU _)⟩
theorem Ev.all{k:Nat}{F:Nat->Nat->Option α}{V:Nat->α}(h:∀i,i<k->Ev (F i) (V i)):∃N,∀n,N<=n->∀i,i<k->F i n=some (V i):=by
 induction k with
 |zero=>exact⟨0,λn _ i a=>absurd a (Xn _)⟩
 |succ k b=>
  obtain⟨N,d⟩:=b λi a=>h i (by omega);obtain⟨M,e⟩:=h k (by omega);refine⟨max N M,λn f i a=>?_⟩;rcases Xp.1 a with q|rfl
  .exact d n (by omega) i q
  .exact e n (by omega)
end
section
variable {S B α:Type} {step:Nat->S->Option (Ctl S B)}
theorem Ev.iter{s0:S}(st:Nat->S)(k:Nat){b:B}(h0:st 0=s0)(f:∀i,i<k->Ev (λn=>step n (st i)) (.cont (st (i+1))))(d:Ev (λn=>step n (st k)) (.done b)):
  Ev (λn=>Go.Sw.iter (step n) n s0) b:=by
 obtain⟨N,e⟩:=Ev.all f;obtain⟨M,g⟩:=d;exact⟨max (max N M) (k+1),λn h=>Qmg s0 st b k h0 (λi a=>e n (by omega) i a) (g n (by omega)) n (by omega)⟩
theorem Qb8{step:S->Option (Ctl S B)}{s:S}{b:B}(m:Nat)(h:Go.Sw.iter step m s=some b):Ev (λn=>Go.Sw.iter step n s) b:=by
 have mono:∀m s,Go.Sw.iter step m s=some b->∀n,m<=n->Go.Sw.iter step n s=some b:=by
  intro m
  induction m with
  |zero=>intro s h;cases h
  |succ m g=>
   intro s h n d;obtain⟨a,rfl⟩:∃a,n=a+1:=⟨n-1,by omega⟩;simp only[Go.Sw.iter]at h⊢;cases e:step s with
   |none=>rw[e]at h;cases h
   |some c=>
    rw[e]at h;cases c with
    |cont f=>exact g f h a (by omega)
    |done i=>exact h
 exact⟨m,λn d=>mono m s h n d⟩
structure At (l:List α) (i:Nat) (x:α):Prop where
 get:l[i]?=some x
 lt:decide ((i:Int)<(l.length:Int))=true
 ix:idx l (i:Int)=some x
 nx:IntKind.i64.wrap ((i:Int)+1)=((i+1:Nat):Int)
theorem JD{l:List α}{i:Nat}{x:α}(hl:l.length<=4611686018427387904)(h:l[i]?=some x):At l i x:=by
 have a:=(XM.1 h).1;exact⟨h,Vv (by omega),Y1 h,Yz (by omega)⟩
theorem At.mem{l:List α}{i:Nat}{x:α}(h:At l i x):x∈l:=VI h.get
theorem At.lt'{l:List α}{i:Nat}{x:α}(h:At l i x):i<l.length:=(XM.1 h.get).1
theorem At.take{l:List α}{i:Nat}{x:α}(h:At l i x):l.take (i+1)=l.take i++[x]:=by
 rw[List.take_add_one,h.get];rfl
theorem Qah(l:List α):decide ((l.length:Int)<(l.length:Int))=false:=Vy (by omega)
theorem QbV{s0:S}(l:List α)(q:α->Bool)(st:Nat->S)(r b:B)(hl:l.length<=4611686018427387904)(h0:st 0=s0)
  (t:∀i x,At l i x->q x=false->Ev (λn=>step n (st i)) (.cont (st (i+1))))
  (d:∀i x,At l i x->q x=true->Ev (λn=>step n (st i)) (.done r))
  (u:Ev (λn=>step n (st l.length)) (.done b)):Ev (λn=>Go.Sw.iter (step n) n s0) (bif l.any q then r else b):=by
 have p:∀k,k<=l.length->(∀i x,l[i]?=some x->i<k->q x=false)\/ ∃i x,l[i]?=some x/\i<k/\q x=true/\ ∀j y,l[j]?=some y->j<i->q y=false:=by
  intro k
  induction k with
  |zero=>intro _;exact .inl λi x _ a=>absurd a (Xn _)
  |succ k w=>
   intro H;rcases w (by omega)with h|⟨i,x,g,F,m⟩
   .have s:l[k]?=some l[k]:=XL (by omega);cases e:q l[k]with
    |true=>exact .inr ⟨k,_,s,Xo _,e,h⟩
    |false=>
     refine .inl λi x d a=>?_;rcases Xp.1 a with z|rfl
     .exact h i x d z
     .rw[s]at d;cases d;exact e
   .exact .inr ⟨i,x,g,by omega,m⟩
 rcases p l.length (XU _)with h|⟨i,x,g,F,m,G⟩
 .have:l.any q=false:=by
   rw[VN];intro e;obtain⟨x,d,e⟩:=Xu.1 e;obtain⟨i,a,rfl⟩:=List.getElem_of_mem d;rw[h i _ (XL a) a]at e;cases e
  rw[this];exact Ev.iter st l.length h0 (λi a=>t i _ (JD hl (XL a)) (h i _ (XL a) a)) u
 .have:l.any q=true:=Xu.2 ⟨x,VI g,m⟩;rw[this];refine Ev.iter st i h0 (λj E=>?_) (d i x (JD hl g) m);have f:l[j]?=some l[j]:=XL (by omega);exact t j _ (JD hl f) (G j _ f E)
theorem QZ{β:Type}{s0:S}(l:List α)(g:β->α->β)(b:β)(st:β->Nat->S)(d:β->B)(hl:l.length<=4611686018427387904)(h0:st b 0=s0)
  (j:∀i x a,At l i x->a=(l.take i).foldl g b->Ev (λn=>step n (st a i)) (.cont (st (g a x) (i+1))))
  (f:Ev (λn=>step n (st (l.foldl g b) l.length)) (.done (d (l.foldl g b)))):Ev (λn=>Go.Sw.iter (step n) n s0) (d (l.foldl g b)):=by
 refine Ev.iter (λi=>st ((l.take i).foldl g b) i) l.length (by simpa using h0) (λi h=>?_) (by simpa using f);have e:=JD (x:=l[i]) hl (XL h);have:=j i _ _ e rfl;rw[e.take,XD];exact this
theorem Ev.contains(l:List α)(q:α->Bool)(g:Nat->α->Option Bool)(hl:l.length<=4611686018427387904)(hg:∀x∈l,Ev (λn=>g n x) (q x)):
  Ev (λn=>(((Go.Sw.iter (λs:Int=>bif decide (s<(l.length:Int))then(idx l s).bind λx=>(g n x).bind λr=>(bif r then some (Ctl.done (Ctl.done s))else some (Ctl.cont (IntKind.i64.wrap (s+1))))else some (Ctl.done (Ctl.cont ()))) n (0:Int):Option (Ctl Unit Int)).bind λb=>
   match b with
   |.cont _=>some (-1)
   |.done s=>some s):Option Int).bind λr=>some (decide (0<=r))) (l.any q):=by
 cases e:l.any q with
 |false=>
  refine Ev.bind (v:=(-1:Int)) (Ev.bind (v:=Ctl.cont ()) (Ev.iter (λi=>(i:Int)) l.length rfl (λi d=>?_) ?_) (Qa _)) (Qa _)
  .have a:=JD (x:=l[i]) hl (XL d);simp only[a.lt,Vq,a.ix,XK];have F:q l[i]=false:=by
    rw[VN];intro h;rw[Xu.2 ⟨_,a.mem,h⟩]at e;cases e
   refine Ev.bind ((hg _ a.mem).eq F) ?_;simp only[Vr,a.nx];exact Qa _
  .simp only[Qah,Vr];exact Qa _
 |true=>
  obtain⟨x,f,h⟩:=Xu.1 e;have u:∀k,k<=l.length->(∀(i:Nat) (x:α),l[i]?=some x->i<k->q x=false)\/ ∃(i:Nat) (x:α),l[i]?=some x/\i<k/\q x=true/\ ∀(j:Nat) (y:α),l[j]?=some y->j<i->q y=false:=by
   intro k
   induction k with
   |zero=>intro _;exact .inl λi x _ d=>absurd d (Xn _)
   |succ k E=>
    intro H;rcases E (by omega)with h|⟨i,x,p,w,t⟩
    .have hg:l[k]?=some l[k]:=XL (by omega);cases e:q l[k]with
     |true=>exact .inr ⟨k,_,hg,Xo _,e,h⟩
     |false=>
      refine .inl λi x f d=>?_;rcases Xp.1 d with z|rfl
      .exact h i x f z
      .rw[hg]at f;cases f;exact e
    .exact .inr ⟨i,x,p,by omega,t⟩
  rcases u l.length (XU _)with B|⟨i,x,p,w,t,G⟩
  .obtain⟨j,m,rfl⟩:=List.getElem_of_mem f;rw[B j _ (XL m) m]at h;cases h
  .refine Ev.bind (v:=(i:Int)) (Ev.bind (v:=Ctl.done (i:Int)) (Ev.iter (λi=>(i:Int)) i rfl (λj m=>?_) ?_) (Qa _)) ?_
   .have a:=JD (x:=l[j]) hl (XL (by omega));simp only[a.lt,Vq,a.ix,XK];refine Ev.bind ((hg _ a.mem).eq (G j _ a.get m)) ?_;simp only[Vr,a.nx];exact Qa _
   .have a:=JD hl p;simp only[a.lt,Vq,a.ix,XK];refine Ev.bind ((hg _ a.mem).eq t) ?_;exact Qa _
   .rw[Vv (by omega)];exact Qa _
end
section
variable {S B α:Type} {step:Nat->S->Option (Ctl S B)}
theorem Qhn{s0:S}(st:Nat->S)(k:Nat)(R:Nat->B)(h0:st 0=s0)(g:∀i,i<k->(Ev (λn=>step n (st i)) (.cont (st (i+1)))/\R i=R (i+1))\/Ev (λn=>step n (st i)) (.done (R i)))
  (l:Ev (λn=>step n (st k)) (.done (R k))):Ev (λn=>Go.Sw.iter (step n) n s0) (R 0):=by
 have e:∀m,m<=k->(∀i,i<m->Ev (λn=>step n (st i)) (.cont (st (i+1)))/\R i=R (i+1))\/ ∃j,j<m/\(∀i,i<j->Ev (λn=>step n (st i)) (.cont (st (i+1)))/\R i=R (i+1))/\Ev (λn=>step n (st j)) (.done (R j)):=by
  intro m
  induction m with
  |zero=>intro _;exact .inl λi a=>absurd a (Xn _)
  |succ m d=>
   intro r;rcases d (by omega)with h|⟨j,f,b⟩
   .rcases g m (by omega)with q|q
    .refine .inl λi a=>?_;rcases Xp.1 a with z|rfl
     .exact h i z
     .exact q
    .exact .inr ⟨m,Xo _,h,q⟩
   .exact .inr ⟨j,by omega,b⟩
 have same:∀m,(∀i,i<m->R i=R (i+1))->R 0=R m:=by
  intro m
  induction m with
  |zero=>intro _;rfl
  |succ m d=>intro h;exact(d λi a=>h i (by omega)).trans (h m (Xo _))
 rcases e k (XU _)with h|⟨j,f,b,p⟩
 .rw[same k λi a=>(h i a).2];exact Ev.iter st k h0 (λi a=>(h i a).1) l
 .rw[same j λi a=>(b i a).2];exact Ev.iter st j h0 (λi a=>(b i a).1) p
theorem At.drop{l:List α}{i:Nat}{x:α}(h:At l i x):l.drop i=x::l.drop (i+1):=by
 have:=h.lt';rw[Xr this,(XM.1 h.get).2]
theorem Qhm{s0:S}(l:List α)(st:Nat->S)(R:Nat->B)(hl:l.length<=4611686018427387904)(h0:st 0=s0)
  (hc:∀i x,At l i x->(Ev (λn=>step n (st i)) (.cont (st (i+1)))/\R i=R (i+1))\/Ev (λn=>step n (st i)) (.done (R i)))
  (hd:Ev (λn=>step n (st l.length)) (.done (R l.length))):Ev (λn=>Go.Sw.iter (step n) n s0) (R 0):=
 Qhn st l.length R h0 (λi hi=>hc i _ (JD hl (XL hi))) hd
end
section
variable {α β:Type} [DecidableEq α]
theorem Ql9(k:α):YO ([]:List (α×β)) k=none:=rfl
theorem YN(p:α×β)(l:List (α×β))(k:α):YO (p::l) k=if p.1=k then some p.2 else YO l k:=by
 unfold YO;by_cases h:p.1=k<;>simp[List.find?_cons,h]
theorem QkH(p:α×β)(l:List (α×β))(k:α)(v:β):Q0 (p::l) k v=if p.1=k then(p.1,v)::l.map (λq=>bif decide (q.1=k)then(q.1,v)else q)else p::Q0 l k v:=by
 unfold Q0;by_cases h:p.1=k
 .simp[h]
 .simp only[List.any_cons,h,decide_false,Bool.false_or,if_false,Vk,Vr];cases l.any λp=>decide (p.1=k)<;>simp
theorem Qma(l:List (α×β))(k a:α)(v:β)(h:a≠k):YO (l.map λq=>bif decide (q.1=k)then(q.1,v)else q) a=YO l a:=by
 induction l with
 |nil=>rfl
 |cons p l b=>
  rw[Vk,YN,YN,b];by_cases e:p.1=k
  .have:¬k=a:=λq=>h q.symm;simp[e,this]
  .simp[e]
theorem QfZ(l:List (α×β))(k a:α)(v:β):YO (Q0 l k v) a=if a=k then some v else YO l a:=by
 induction l with
 |nil=>
  show YO ([]++[(k,v)]) a=_;rw[Vi,YN];by_cases h:a=k
  .subst h;simp
  .rw[Vt λq=>h q.symm,Vt h]
 |cons p l b=>
  rw[QkH];by_cases e:p.1=k
  .rw[Vu e,YN,YN];by_cases h:a=k
   .subst h;simp[e]
   .have:p.1≠a:=λq=>h (q.symm.trans e);simp only[this,if_false,h];exact Qma l k a v h
  .rw[Vt e,YN,YN,b];by_cases h:p.1=a
   .rw[Vu h,Vt λq=>e (h.trans q),Vu h]
   .rw[Vt h,Vt h]
theorem Qf0(k:α)(z:β):Qq ([]:List (α×β)) k z=z:=rfl
theorem Qcp(l:List (α×β))(k a:α)(v z:β):Qq (Q0 l k v) a z=if a=k then v else Qq l a z:=by
 unfold Qq;rw[QfZ];by_cases h:a=k<;>simp[h]
theorem Qdm(l:List (α×β))(k:α)(v:β):(Q0 l k v).map (·.1)=if k∈l.map (·.1)then l.map (·.1)else l.map (·.1)++[k]:=by
 unfold Q0;have e:(l.any λp=>decide (p.1=k))=decide (k∈l.map (·.1)):=by
  rw[XZ];simp only[Xu,Vs,Xf]
 rw[e];by_cases h:k∈l.map (·.1)
 .rw[Vv h,Vu h,Vq,List.map_map];apply List.map_congr_left;intro p _;simp only[Function.comp];cases decide (p.1=k)<;>rfl
 .rw[Vy h,Vt h,Vr,Xg];rfl
def QX{γ:Type}(key:γ->α)(v:β)(l:List γ):List (α×β):=l.foldl (λm x=>Q0 m (key x) v) []
theorem QcJ{γ:Type}(a:γ->α)(v:β)(l:List γ)(x:γ):QX a v (l++[x])=Q0 (QX a v l) (a x) v:=by
 unfold QX;rw[XD];rfl
theorem Qap{γ:Type}(a:γ->α)(v z:β)(l:List γ)(k:α):Qq (QX a v l) k z=if k∈l.map a then v else z:=by
 have b:∀(l:List γ) (m:List (α×β)),Qq (l.foldl (λm x=>Q0 m (a x) v) m) k z=if k∈l.map a then v else Qq m k z:=by
  intro l
  induction l with
  |nil=>intro m;simp
  |cons x l d=>
   intro m;rw[XE,d,Qcp];by_cases h:k∈l.map a
   .rw[Vu h,Vu (by simp only[Vk];exact X6 _ h)]
   .rw[Vt h];by_cases e:k=a x
    .rw[Vu e,Vu (by simp[e])]
    .rw[Vt e,Vt (by simp only[Vk,X7,not_or];exact⟨e,h⟩)]
 exact b l []
theorem Qcd{γ:Type}(d:γ->α)(v:β)(l:List γ):(QX d v l).length<=l.length/\((QX d v l).length=l.length↔(l.map d).Nodup):=by
 have j:∀(l:List γ) (m:List (α×β)),(m.map (·.1)).Nodup->(l.foldl (λm x=>Q0 m (d x) v) m).length<=m.length+l.length/\((l.foldl (λm x=>Q0 m (d x) v) m).length=m.length+l.length↔(m.map (·.1)++l.map d).Nodup):=by
  intro l
  induction l with
  |nil=>intro m i;simpa using i
  |cons x l n=>
   intro m i;have g:=Qdm m (d x) v;have f:(Q0 m (d x) v).length=((Q0 m (d x) v).map (·.1)).length:=by simp
   by_cases h:d x∈m.map (·.1)
   .rw[Vu h]at g;obtain⟨r,k⟩:=n (Q0 m (d x) v) (by rw[g];exact i);have e:(Q0 m (d x) v).length=m.length:=by rw[f,g];simp
    rw[XE];refine⟨by simp only[X2];omega,⟨λq=>?_,λq=>?_⟩⟩
    .simp only[X2]at q;omega
    .exfalso;have:=(List.nodup_append.1 q).2.2 _ h (d x) (by simp);exact this rfl
   .rw[Vt h]at g;have t:((Q0 m (d x) v).map (·.1)).Nodup:=by
     rw[g];refine List.nodup_append.2 ⟨i,by simp,?_⟩;intro a s b p e;simp only[VC]at p;exact h (by rw[<- p, <- e];exact s)
    obtain⟨r,k⟩:=n (Q0 m (d x) v) t;have e:(Q0 m (d x) v).length=m.length+1:=by rw[f,g];simp
    rw[XE];refine⟨by simp only[X2];omega,?_⟩;rw[g]at k;rw[show m.length+(x::l).length=(Q0 m (d x) v).length+l.length by rw[e];simp;omega,k];simp[Vj]
 have:=j l [] (by simp);simpa[QX]using this
end
theorem Jg{α:Type}(l:List α)(p:α->Bool)(g:Nat->α->Option Bool)(hl:l.length<=4611686018427387904)(hg:∀x∈l,Ev (λn=>g n x) (p x)):
  Ev (λn=>((((Go.Sw.iter (λs:Int=>bif decide (s<(l.length:Int))then(idx l s).bind λx=>((g n x).bind λr1=>some (!r1)).bind λr=>(bif r then some (Ctl.done (Ctl.done s))else some (Ctl.cont (IntKind.i64.wrap (s+1))))else some (Ctl.done (Ctl.cont ()))) n (0:Int):Option (Ctl Unit Int)).bind λb=>
   match b with
   |.cont _=>some (-1)
   |.done s=>some s):Option Int).bind λr=>some (decide (0<=r)):Option Bool).bind λr=>some (!r)) (l.all p):=by
 refine Ev.bind (Ev.contains l (λx=> !p x) (λn x=>(g n x).bind λr1=>some (!r1)) hl λx a=>Ev.bind (hg x a) (Qa _)) ((Qa _).eq ?_);rw[List.not_any_eq_all_not];simp
def Qjr{α κ:Type}[DecidableEq κ](ok:α->Bool)(key:α->κ):List κ->List α->Bool
 |_,[]=>true
 |seen,x::r=>ok x&& !seen.contains (key x)&&Qjr ok key (seen++[key x]) r
theorem Qkj{α κ:Type}[DecidableEq κ](ok:α->Bool)(f:α->κ):∀(l:List α) (d:List κ),d.Nodup->Qjr ok f d l=(l.all ok&&decide ((d++l.map f).Nodup))
 |[],d,h=>by simp[Qjr,h]
 |x::r,d,h=>by
  simp only[Qjr,List.all_cons,Vk];by_cases hk:f x∈d
  .have:¬(d++f x::r.map f).Nodup:=by
    intro q;exact(List.nodup_append.1 q).2.2 _ hk (f x) (by simp) rfl
   simp[hk,this]
  .have j:(d++[f x]).Nodup:=by
    refine List.nodup_append.2 ⟨h,by simp,?_⟩;intro a i b g e;simp only[VC]at g;exact hk (by rw[<- g, <- e];exact i)
   rw[Qkj ok f r _ j];have:(d.contains (f x))=false:=by simpa using hk
   rw[this];simp[Bool.and_assoc]
theorem Ev.inner{α κ B:Type}[DecidableEq κ]{step:Nat->Int->Option (Ctl Int B)}(l:List α)(i:Nat)(a:α->κ)(k:κ)(r b:B)(hl:l.length<=4611686018427387904)(hi:i<=l.length)
  (u:∀j y,j<i->At l j y->decide (a y=k)=false->Ev (λn=>step n (j:Int)) (.cont ((j+1:Nat):Int)))
  (t:∀j y,j<i->At l j y->decide (a y=k)=true->Ev (λn=>step n (j:Int)) (.done r))
  (s:Ev (λn=>step n (i:Int)) (.done b)):Ev (λn=>Go.Sw.iter (step n) n 0) (bif ((l.take i).map a).contains k then r else b):=by
 have e:((l.take i).map a).contains k=(l.take i).any λy=>decide (a y=k):=by
  rw[XZ];simp only[List.contains_eq_mem,Vs,Xf,Xu]
 rw[e];have g:(l.take i).length=i:=by simp;omega
 have h:∀j y,At (l.take i) j y->j<i/\At l j y:=by
  intro j y f;have w:=f.lt';have d:=f.get;rw[List.getElem?_take]at d;split at d
  .exact⟨by omega,JD hl d⟩
  .cases d
 refine QbV (l.take i) (λy=>decide (a y=k)) (λi=>(i:Int)) _ _ (by omega) rfl (λj y f q=>?_) (λj y f q=>?_) ?_
 .obtain⟨p,m⟩:=h j y f;exact u j y p m q
 .obtain⟨p,m⟩:=h j y f;exact t j y p m q
 .rw[g];exact s
theorem QaG{α κ β:Type}[DecidableEq κ]{step:Nat->List (κ×β)×Int->Option (Ctl (List (κ×β)×Int) (List (κ×β)))}(l:List α)(key:α->κ)(v:β)(hl:l.length<=4611686018427387904)
  (hc:∀i x m,At l i x->Ev (λn=>step n (m,(i:Int))) (.cont (Q0 m (key x) v,((i+1:Nat):Int))))
  (hd:∀m,Ev (λn=>step n (m,(l.length:Int))) (.done m)):Ev (λn=>Go.Sw.iter (step n) n ([],0)) (QX key v l):=
 QZ l (λm x=>Q0 m (key x) v) [] (λm i=>(m,(i:Int))) (λm=>m) hl rfl (λi x m ha _=>hc i x m ha) (hd _)
theorem Ev.shift{α:Type}{f:Nat->Option α}{v:α}(h:Ev f v):Ev (λn=>f (n+1)) v:=by
 obtain⟨N,h⟩:=h;exact⟨N,λn a=>h (n+1) (by omega)⟩
def EvI{S B:Type}(step:Nat->S->Option (Ctl S B))(s:S)(b:B):Prop:=∃N,∀n k,N<=n->N<=k->Go.Sw.iter (step n) k s=some b
section
variable {S B:Type} {step:Nat->S->Option (Ctl S B)} {s s':S} {b:B}
theorem EvI.done(h:Ev (λn=>step n s) (.done b)):EvI step s b:=by
 obtain⟨N,h⟩:=h;refine⟨N+1,λn k e d=>?_⟩;obtain⟨a,rfl⟩:∃a,k=a+1:=⟨k-1,by omega⟩;have:=h n (by omega);simp only[Go.Sw.iter,this]
theorem EvI.cont(h:Ev (λn=>step n s) (.cont s'))(q:EvI step s' b):EvI step s b:=by
 obtain⟨N,h⟩:=h;obtain⟨M,q⟩:=q;refine⟨max N M+1,λn k e d=>?_⟩;obtain⟨a,rfl⟩:∃a,k=a+1:=⟨k-1,by omega⟩;have:=h n (by omega);simp only[Go.Sw.iter,this];exact q n a (by omega) (by omega)
theorem EvI.ev(h:EvI step s b):Ev (λn=>Go.Sw.iter (step n) n s) b:=by
 obtain⟨N,h⟩:=h;exact⟨N,λn a=>h n n a a⟩
theorem EvI.eq{b':B}(h:EvI step s b)(e:b=b'):EvI step s b':=e▸h
end
theorem QO{α:Type}{l r:List α}{i:Nat}{x:α}(hl:l.length<=4611686018427387904)(h:l.drop i=x::r):At l i x/\l.drop (i+1)=r:=by
 have a:l[i]?=some x:=by
  have:=congrArg (λl=>l[0]?) h;simpa using this
 refine⟨JD hl a,?_⟩;have:=(JD hl a).drop;rw[h]at this;exact(List.cons.inj this).2.symm
theorem YC{α:Type}{l:List α}{i:Nat}(h:l.drop i=[])(hi:i<=l.length):decide ((i:Int)<(l.length:Int))=false:=by
 have:=Xs.1 h;exact Vy (by omega)
end Go.Sw
namespace Go.Sw
theorem Z.{u}{α:Sort u}{a:α}:a=a:=rfl
section
variable {P:Program} {h0 N:Nat} {all:Array Oper} {env:Env} {H H':Qc} {Q:Qw} {l:List Oper} {o:Oper} {d:Nat}
theorem aV(x:A)(H:Qc){x':A}{H':Qc}(a:x'=x)(hH:H'=H)(k:WO P h0 N all l (up env d x) H Q):WO P h0 N all l (up env d x') H' Q:=by subst a;subst hH;exact k
theorem vX(x:A)(a:OpV P o env H x)(k:WO P h0 N all l (up env d x) H Q)(hg:Qm all o env true:=by exact rfl)(hd:o.dst=some d:=by exact rfl)(hN:Nat.blt d N=true:=by exact rfl):WO P h0 N all (o::l) env H Q:=
 QE hg hd hN a k
theorem Wp:WO P h0 N all [] env H (YY env H):=WO.nil YY.mk
end
end Go.Sw
namespace Go.Sw
section
variable {P:Program} {o:Oper} {env:Env} {H:Qc}
theorem Qn9{ro:Nat->Prop}{σ:Sig}{w:World}(g:GP w){b:Nat}{zs:List Int}(h:Qjc[b]?=some zs):∀(i:Nat),CR ro σ w b ((zs.drop i).map (A.int .i64)) i:=by
 intro i;generalize hl:zs.drop i=l
 induction l generalizing i with
 |nil=>trivial
 |cons z l e=>
  have d:zs[i]?=some z:=by
   have:=congrArg (·[0]?) hl;simpa using this
  have a:zs.drop (i+1)=l:=by
   rw[<- List.drop_drop,hl];rfl
  exact⟨⟨_,g.tab b zs h i z d,by simp[Ql],rfl⟩,e (i+1) a⟩
theorem Qgt{t n g:Nat}{zs:List Int}(i:∀w,(isAgg t).run P w=.ok true w)(j:∀w,(sizeOf t).run P w=.ok n w)(hg:Qjc[g]?=some zs)(hl:zs.length=n)(f:o.op=.load t (.global g):=by exact rfl):
  OpV P o env H (.agg (zs.map (A.int .i64))):=by
 intro k ro σ N a w r;obtain⟨l,e,_,d⟩:=YB (P:=P) (b:=g) (cs:=zs.map (A.int .i64)) (off:=0) 0 (by simpa using Qn9 (ro:=ro) (σ:=σ) r.sim.roOk.gp hg 0);have d:=d w #[] rfl;rw[X3,hl]at d;refine⟨.agg l.toArray,?_,l,rfl,e⟩;have h:a.eval (.global g)=.pointer (some ⟨g,0,none⟩):=rfl;generalize a.eval=ρ at*;simp[execOp,f,h,Instr.loadAt,Instr.sureAddr,loadVar,i,j,loadCells,d,go_sem]
end
end Go.Sw
namespace Go.Sw
open Go.Proofs
section
variable {P:Program}
def toV(agg:Bool)(l:List Value):Value:=bif agg then .agg l.toArray else l.headD .nilFunc
structure Qlu (P:Program) (t:TypeId) (h k:Nat) (agg:Bool) (ok:List Value->Prop):Prop where
 len:∀l,ok l->l.length=k
 ia:∀w,(isAgg t).run P w=.ok agg w
 so:∀w,(sizeOf t).run P w=.ok k w
 eq:∀(w:World) (d:Nat) (l m:List Value),ok l->ok m->∃b:Bool,(Op.equalIn (d+h) t (toV agg l) (toV agg m)).run P w=.ok b w/\(b=true↔l=m)
structure Qni (P:Program) (fs:List Field) (h off k:Nat) (ok:List Value->Prop):Prop where
 len:∀l,ok l->l.length=k
 eq:∀(w:World) (d:Nat) (p q l m:List Value),p.length=off->q.length=off->ok l->ok m->∃b:Bool,(Op.eqFields (d+h) (p++l).toArray (q++m).toArray fs).run P w=.ok b w/\(b=true↔l=m)
theorem Qlu.int{t:TypeId}{k:IntKind}(e:P.underlying t=some (.int k))(b:∀w,(isAgg t).run P w=.ok false w)(a:∀w,(sizeOf t).run P w=.ok 1 w)(h:Nat):Qlu P t (h+1) 1 false (λl=>∃n:Int,l=[.int k n]):=by
 refine⟨?_,b,a,?_⟩
 .rintro _ ⟨n,rfl⟩;rfl
 .rintro w d _ _ ⟨n,rfl⟩ ⟨m,rfl⟩;exact⟨_,run_equalIn_int w (d+h) t k k n m e,by simp⟩
theorem Qlu.bool{t:TypeId}(e:P.underlying t=some .bool)(b:∀w,(isAgg t).run P w=.ok false w)(a:∀w,(sizeOf t).run P w=.ok 1 w)(h:Nat):Qlu P t (h+1) 1 false (λl=>∃n:Bool,l=[.bool n]):=by
 refine⟨?_,b,a,?_⟩
 .rintro _ ⟨n,rfl⟩;rfl
 .rintro w d _ _ ⟨n,rfl⟩ ⟨m,rfl⟩;exact⟨_,run_equalIn_bool' w (d+h) t n m e,by simp⟩
theorem Qni.nil(h off:Nat):Qni P [] h off 0 (λl=>l=[]):=by
 refine⟨?_,?_⟩
 .rintro _ rfl;rfl
 .rintro w d p q _ _ _ _ rfl rfl;exact⟨true,by simp[Op.eqFields],by simp⟩
theorem QhI{t:TypeId}{k:Nat}{agg:Bool}{w:World}(b:∀w,(isAgg t).run P w=.ok agg w)(d:∀w,(sizeOf t).run P w=.ok k w)(p a f:List Value)(hl:a.length=k)(e:agg=false->k=1):
  (part t (p++(a++f)).toArray p.length).run P w=.ok (toV agg a) w:=by
 unfold part;cases agg with
 |true=>
  simp[b,d,go_sem,toV];rw[<- hl];simp[List.extract]
 |false=>
  have:=e rfl;subst this
  match a,hl with
  |[v],_=>simp[b,go_sem,toV]
theorem Qni.cons{f:Field}{fs:List Field}{h off m y:Nat}{agg:Bool}{k i:List Value->Prop}(L:Nat.beq f.offset off=true)(J:f.name≠"_")(g:Qlu P f.type h m agg k)(z:agg=false->m=1)(B:Qni P fs h (off+m) y i):
  Qni P (f::fs) h off (m+y) (λl=>∃l1 l2,l=l1++l2/\k l1/\i l2):=by
 have t:f.offset=off:=XR L;refine⟨?_,?_⟩
 .rintro _ ⟨l1,l2,rfl,a,b⟩;rw[X4,g.len _ a,B.len _ b]
 .rintro w d p q _ _ F H ⟨l1,l2,rfl,r,O⟩ ⟨j,s,rfl,n,T⟩;have x:=QhI (P:=P) (w:=w) g.ia g.so p l1 l2 (g.len _ r) z;have E:=QhI (P:=P) (w:=w) g.ia g.so q j s (g.len _ n) z;rw[F]at x;rw[H]at E;obtain⟨G,Q,V⟩:=g.eq w d l1 j r n;obtain⟨N,u,M⟩:=B.eq w d (p++l1) (q++j) l2 s (by rw[X4,F,g.len _ r]) (by rw[X4,H,g.len _ n]) O T;rw[Vj,Vj]at u;have R:l1.length=j.length:=by rw[g.len _ r,g.len _ n]
  refine⟨G&&N,?_,?_⟩
  .generalize(p++(l1++l2)).toArray=X at*;generalize(q++(j++s)).toArray=Y at*;cases G<;>simp[Op.eqFields,J,t,Vn,Result.andThen,x,E,Q,u]
  .rw[XX,V,M];constructor
   .rintro⟨rfl,rfl⟩;rfl
   .intro e;exact List.append_inj e R
theorem Qlu.struct{t:TypeId}{h k:Nat}{ok:List Value->Prop}(p:P.underlying t=some (.struct (P.fieldsOf t)))(j:P.stoodInHeld t=false)(n:∀w,(isAgg t).run P w=.ok true w)(f:∀w,(sizeOf t).run P w=.ok k w)(e:Qni P (P.fieldsOf t).toList h 0 k ok):Qlu P t (h+1) k true ok:=by
 refine⟨e.len,n,f,λw d l m a b=>?_⟩;obtain⟨r,i,g⟩:=e.eq w d [] [] l m rfl rfl a b;refine⟨r,?_,g⟩;show(Op.equalIn (d+h+1) t (.agg l.toArray) (.agg m.toArray)).run P w=_;rw[run_equalIn_agg w (d+h) t _ _ p j];simpa using i
theorem QR{t:TypeId}{h k:Nat}{fs:Array Field}{ok:List Value->Prop}(a:P.underlying t=some (.struct fs))(f:P.stoodInHeld t=false)(g:∀w,(isAgg t).run P w=.ok true w)(b:∀w,(sizeOf t).run P w=.ok k w)(d:Qni P fs.toList h 0 k ok):Qlu P t (h+1) k true ok:=by
 have e:P.fieldsOf t=fs:=by simp[Program.fieldsOf,a]
 exact Qlu.struct (by rw[e];exact a) f g b (by rw[e];exact d)
structure EqD (P:Program) (t:TypeId) {α:Type} (cells:α->List A):Prop where
 scl:∀x,QeA (cells x)=true
 inj:∀x y,YS (cells x)=YS (cells y)->x=y
 guard:P.eqGuardType P.depth t=false
 eq:∀(w:World) x y,∃b:Bool,(Op.equalIn 10000 t (.agg (YS (cells x)).toArray) (.agg (YS (cells y)).toArray)).run P w=.ok b w/\(b=true↔YS (cells x)=YS (cells y))
theorem Qn8{α:Type}{cells:α->List A}{t h k:Nat}{ok:List Value->Prop}(E:Qlu P t h k true ok)(b:Nat.ble h 10000=true)(a:∀x,ok (YS (cells x)))(d:∀x,QeA (cells x)=true)(hi:∀x y,YS (cells x)=YS (cells y)->x=y)(hg:P.eqGuardType P.depth t=false):EqD P t cells:=by
 refine⟨d,hi,hg,λw x y=>?_⟩;have:=E.eq w (10000-h) (YS (cells x)) (YS (cells y)) (a x) (a y)
 rwa [show 10000-h+h=10000 by have:=XS b;omega]at this
variable {o:Oper} {env:Env} {H:Qc}
theorem Qlm{α:Type}[DecidableEq α]{cells:α->List A}{t u:TypeId}{x y:Operand}{p q:α}(E:EqD P t cells)(m:opA env x=.agg (cells p))(i:opA env y=.agg (cells q))(n:o.op=.binOp .eql t x y u:=by exact rfl):OpV P o env H (.bool (p==q)):=by
 intro B F σ N a w r;have g:=Qd r x;have h:=Qd r y;rw[m]at g;rw[i]at h;have s:=VR.val (a:=.agg (cells p)) (E.scl p) g;have l:=VR.val (a:=.agg (cells q)) (E.scl q) h;obtain⟨b,k,j⟩:=E.eq w p q;have z:b=(p==q):=by
  rw[XZ,j,Vz];exact⟨E.inj p q,λe=>by rw[e]⟩
 refine⟨.bool (p==q),?_,rfl⟩;rw[<- z];generalize a.eval=ρ at*;have d:ρ x=.agg (YS (cells p)).toArray:=s;have f:ρ y=.agg (YS (cells q)).toArray:=l;simp[execOp,n,d,f,go_sem,run_eqGuard_agg _ _ _ _ _ _ _ E.guard,run_eql_struct,k]
end
end Go.Sw
namespace Go.Sw
structure Qfl (g g':Nat->Prop) (W W':World):Prop where
 sub:∀b,g b->g' b
 new:∀b,g' b->g b\/W.heap.size<=b
 lt:∀b,g' b->b<W'.heap.size
 all:∀b,W.heap.size<=b->b<W'.heap.size->g' b
 keep:∀b,b<W.heap.size->¬g b->W'.heap[b]?=W.heap[b]?
 size:W.heap.size<=W'.heap.size
 shape:∀b x,W.shape? b=some x->W'.shape? b=some x
 os:W'.os=W.os
 tape:W'.tape=W.tape
 output:W'.output=W.output
 drawn:W.drawn<=W'.drawn
abbrev Jv(T:Type):=List T->(Nat->Prop)->(Nat->Prop)->World->Prop
structure Qoy {T:Type} (J:Jv T):Prop where
 ev:∀rem q g W W' ro',J rem q g W->Qe g q W ro' W'->J rem q g W'
 up:∀rem q g g' W,J rem q g W->(∀b,g b->g' b)->(∀b,g' b->b<W.heap.size)->J rem q g' W
theorem Sim.round{fr g g' ro:Nat->Prop}{σ:Sig}{H:Qc}{W W':World}(s:Sim fr ro σ H W)(a:∀b,g b->fr b)(k:Qfl g g' W W'):Sim (λb=>fr b\/g' b) ro σ H W'/\Qe (λb=>b<W.heap.size/\ ¬g b) ro W ro W':=by
 have e:∀b,ro b->W'.heap[b]?=W.heap[b]? :=λb q=>k.keep b (s.roLt b q) (λr=>s.roFr b q (a b r));have m:Ext ro σ W ro σ W':=by
  have ev:Qe (λ_=>False) ro W ro W':=⟨λ_ q=>q,e,λ_ q=>q.elim,k.size,k.shape,k.os,k.tape,k.output,k.drawn⟩;have:=ev.ext σ [];simpa using this
 refine⟨⟨s.len,s.roOk.to (λ_ q=>q) e (λb q=>Vg (s.roLt b q) k.size),λb q=>q.elim (λq=>Vg (s.frLt b q) k.size) (k.lt b),λb q r=>?_,λi b x h f B=>?_,s.inj,λi y x h f=>?_,
  s.hidTo (· = ·) QT k.size (λ_ _ _ _ _ _ _ q=>q) (λi b x c h f B F=>F.elim id λq=>(k.new c q).elim (a c) λl=>(by have:=(s.hid i b x c h f B).lt;omega)) λj d y p t G=>.inl ⟨j,y,rfl,p,t,id,λc q=>s.hidKeep p t (λz=>k.keep d (s.own j d y p t z).1 λr=>(s.own j d y p t z).2.2 (a d r)) e q⟩⟩,
  ⟨λ_ q=>q,e,λb q=>k.keep b q.1 q.2,k.size,k.shape,k.os,k.tape,k.output,k.drawn⟩⟩
 .rcases r with r|r
  .exact s.roFr b q r
  .rcases k.new b r with l|l
   .exact s.roFr b q (a b l)
   .have:=s.roLt b q;omega
 .obtain⟨w,E,n⟩:=s.own i b x h f B;refine⟨Vg w k.size,E,λr=>?_⟩;rcases r with r|r
  .exact n r
  .rcases k.new b r with l|l
   .exact n (a b l)
   .omega
 .refine(s.blk i y x h f).keep m ?_ ?_
  .rintro b rfl u;obtain⟨w,E,n⟩:=s.own i b x h f u;exact k.keep b w (λr=>n (a b r))
  .rintro b c rfl u;have q:=s.hid i b x c h f u;exact k.keep c q.lt (λr=>q.fr (a c r))
def Qpr{T:Type}(J Jx:Jv T)(g ri:Nat->Prop)(W1:World)(rem:List T):Ending->World->Prop:=λe W'=>
 ∃g' q',(∀b,q' b->ri b)/\Qfl g g' W1 W'/\((e=.returned (.bool true)/\J rem q' g' W')\/(e=.returned (.bool false)/\Jx rem q' g' W'))
structure Ctx (T:Type) where
 l:Nat
 J:Jv T
 Jx:Jv T
 enc:T->List A
 nx:List T->T->List T->Prop
structure Ctx.ok {T:Type} (X:Ctx T) (P:Program):Prop where
 b:Qoy X.J
 bx:Qoy X.Jx
 round:∀l x rem q g ri W1 vs,X.nx l x rem->X.J l q g W1->(∀b,q b->ri b)->(∀b,ri b->b<W1.heap.size/\ ¬g b)->LR ri [] W1 (X.enc x) vs->YieldAt Fence.wide 0 P X.l vs.toArray W1 (Qpr X.J X.Jx g ri W1 rem)
def Qix{T:Type}(P:Program)(f:FuncId)(caps:List A)(H:Qc)(enc:T->List A)(nx:List T->T->List T->Prop)(xs:List T):Prop:=
 ∀(X:Ctx T),X.enc=enc->X.nx=nx->X.ok P->∀fr ro σ w capv q,Sim fr ro σ H w->(∀b,q b->ro b)->LR ro σ w caps capv->X.J xs q fr w->
  Calls P f ((Value.func (.yield X.l) #[] #[]::capv)).toArray w λe W'=>(∃v,e=.returned v)/\ ∃g q',(∀b,fr b->g b)/\((X.J [] q' g W')\/(∃rem,X.Jx rem q' g W'))
inductive YSt (T:Type) where
 |on (rem:List T)
 |off (rem:List T)
def Ctx.J'{T:Type}(X:Ctx T):YSt T->(Nat->Prop)->(Nat->Prop)->World->Prop
 |.on rem=>X.J rem
 |.off rem=>X.Jx rem
def Ctx.at{T:Type}(X:Ctx T)(st:YSt T)(g ro:Nat->Prop)(W:World):Prop:=∃q,(∀b,q b->ro b)/\X.J' st q g W
theorem Qe.roMono{fr ro ro0 ro':Nat->Prop}{w w':World}(h:Qe fr ro w ro' w')(s:∀b,ro0 b->ro b):Qe fr ro0 w ro' w':=
 ⟨λb q=>h.sub b (s b q),λb q=>h.keepRo b (s b q),h.keepFr,h.size,h.shape,h.os,h.tape,h.output,h.drawn⟩
theorem Ctx.ok.ev{T:Type}{X:Ctx T}{P:Program}(h:X.ok P){st:YSt T}{g ro ro':Nat->Prop}{W W':World}(a:X.at st g ro W)(he:Qe g ro W ro' W'):X.at st g ro' W':=by
 obtain⟨q,d,a⟩:=a;refine⟨q,λb z=>he.sub b (d b z),?_⟩;cases st with
 |on rem=>exact h.b.ev rem q g W W' ro' a (he.roMono d)
 |off rem=>exact h.bx.ev rem q g W W' ro' a (he.roMono d)
theorem Ctx.ok.up{T:Type}{X:Ctx T}{P:Program}(h:X.ok P){st:YSt T}{g g' ro:Nat->Prop}{W:World}(a:X.at st g ro W)(hg:∀b,g b->g' b)(hl:∀b,g' b->b<W.heap.size):X.at st g' ro W:=by
 obtain⟨q,d,a⟩:=a;refine⟨q,d,?_⟩;cases st with
 |on rem=>exact h.b.up rem q g g' W a hg hl
 |off rem=>exact h.bx.up rem q g g' W a hg hl
abbrev Yy(T:Type):=AEx->Env->Qc->YSt T->Prop
structure In (g fr:Nat->Prop) (ds:List Deferred):Prop where
 sub:∀b,g b->fr b
 beside:∀D,({target:=.collected D,args:= #[]}:Deferred)∈ds->¬g D
def Qc3{T:Type}(X:Ctx T)(h0:Nat)(fr ro:Nat->Prop)(σ:Sig)(w:World)(N:Nat)(ds:List Deferred)(Q:Yy T):Exit->Act->World->Prop:=
 λe a' w'=>∃x env' H' st ro' σ' fr' g',ExR e x/\Q x env' H' st/\Rel fr' ro' σ' H' env' N a' w'/\(X.at st g' ro' w'/\In g' fr' a'.defers)/\(∀b,ro b->ro' b)/\w.heap.size<=w'.heap.size/\σ'.take h0=σ.take h0/\Grow fr w ds fr' a'.defers
theorem Qc3.grow{T:Type}{X:Ctx T}{h0:Nat}{fr f ro g:Nat->Prop}{σ σ1:Sig}{w l:World}{N:Nat}{k a:List Deferred}{Q:Yy T}{e:Exit}{a':Act}{w':World}
  (h:Qc3 X h0 f g σ1 l N a Q e a' w')(t:∀b,ro b->g b)(m:w.heap.size<=l.heap.size)(B:σ1.take h0=σ.take h0)(hg:Grow fr w k f a):Qc3 X h0 fr ro σ w N k Q e a' w':=by
 obtain⟨x,d,H',E,i,σ',j,z,n,F,u,y,r,s,G,p⟩:=h;exact⟨x,d,H',E,i,σ',j,z,n,F,u,y,λb q=>r b (t b q),XW m s,G.trans B,hg.trans m p⟩
def TCy{T:Type}(X:Ctx T)(P:Program)(h0 N:Nat)(c:Code)(env:Env)(H:Qc)(st:YSt T)(Q:Yy T):Prop:=
 X.ok P->∀rd fr ro σ a w g,Rel fr ro σ H env N a w->X.at st g ro w/\In g fr a.defers->rd=none->c.wpIn (WF rd) 0 P (Qc3 X h0 fr ro σ w N a.defers Q) a w
def WOy{T:Type}(X:Ctx T)(P:Program)(h0 N:Nat)(all:Array Oper)(l:List Oper)(env:Env)(H:Qc)(st:YSt T)(Q:Yy T):Prop:=
 X.ok P->∀rd fr ro σ a w g,Rel fr ro σ H env N a w->X.at st g ro w/\In g fr a.defers->rd=none->wpL P rd all (Qc3 X h0 fr ro σ w N a.defers Q) l a w
theorem In.later{fr a g:Nat->Prop}{w:World}{ds ds':List Deferred}(h:In g fr ds)(hl:∀b,fr b->b<w.heap.size)(hg:Grow fr w ds a ds'):In g a ds':=by
 refine⟨λb q=>hg.sub b (h.sub b q),λD hD q=>?_⟩;rcases hg.ds _ hD with r|⟨D',e,r⟩
 .exact h.beside D r q
 .have:D=D':=by simpa using e
  subst this;have:=hl D (h.sub D q);omega
section
variable {T:Type} {X:Ctx T} {P:Program} {h0 N:Nat} {c c':Code} {env:Env} {H:Qc} {st:YSt T} {Q:Yy T}
theorem Qle{fr ro:Nat->Prop}{σ:Sig}{w:World}{j:List Deferred}{e:Exit}{a':Act}{w':World}(n:X.ok P)(h:QaR h0 fr ro σ w N j (λx env H=>Q x env H st) e a' w'){g:Nat->Prop}(hl:∀b,fr b->b<w.heap.size)(i:X.at st g ro w/\In g fr j):
  Qc3 X h0 fr ro σ w N j Q e a' w':=by
 obtain⟨x,a,H',d,σ',f,m,r,p,k,q,l⟩:=h;exact⟨x,a,H',st,d,σ',f,g,m,r,p,⟨n.ev i.1 (k.frMono i.2.sub),i.2.later hl l⟩,k.sub,k.size,q,l⟩
theorem TCy.lift(h:TC P h0 N c env H (λx env H=>Q x env H st)):TCy X P h0 N c env H st Q:=
 λhX rd fr ro σ a w g r hj hrd=>Code.wpIn_mono (λe a' w' q=>Qle hX q r.sim.frLt hj) (h rd fr ro σ a w r (hrd▸Qed.none))
def SeqY(X:Ctx T)(P:Program)(h0 N:Nat)(c:Code)(Q:Yy T):Yy T
 |.normal,env,H,st=>TCy X P h0 N c env H st Q
 |.exit id,env,H,st=>Q (.exit id) env H st
 |.ret,env,H,st=>Q .ret env H st
theorem TCy.seq(h:TCy X P h0 N c env H st (SeqY X P h0 N c' Q)):TCy X P h0 N (.seq c c') env H st Q:=by
 intro z y F B σ a w g r hj hrd;refine wpIn_seq (Code.wpIn_mono ?_ (h z y F B σ a w g r hj hrd));rintro e E G ⟨x,b,H',i,f,σ',d,t,j,m,s,l,k,p,u,n⟩;cases e with
 |normal=>
  obtain rfl:x=.normal:=j;exact Code.wpIn_mono (λe a w q=>q.grow k p u n) (m z y d f σ' E G t s l hrd)
 |exit id=>
  obtain rfl:x=.exit id:=j;exact⟨_,b,H',i,f,σ',d,t,rfl,m,s,l,k,p,u,n⟩
 |ret=>
  obtain rfl:x=.ret:=j;exact⟨_,b,H',i,f,σ',d,t,rfl,m,s,l,k,p,u,n⟩
 |_=>exact j.elim
theorem TCy.region{id:Nat}{l:List Oper}(h:WOy X P h0 N l.toArray l env H st Q):TCy X P h0 N (.region id l.toArray false) env H st Q:=
 λhX rd fr ro σ a w g r hj hrd=>wpIn_region_lit (h hX rd fr ro σ a w g r hj hrd)
theorem TCy.cond{x:Operand}{t:Bool}(k:opA env x=.bool t)(j:t=true->TCy X P h0 N c env H st Q)(l:t=false->TCy X P h0 N c' env H st Q):TCy X P h0 N (.cond x c c') env H st Q:=by
 intro b h i f σ a w g r hj hrd;have d:=Qd r x;rw[k]at d;exact wpIn_cond_split d (λe=>j e b h i f σ a w g r hj hrd) (λe=>l e b h i f σ a w g r hj hrd)
theorem WOy.nil{all:Array Oper}(h:Q .normal env H st):WOy X P h0 N all [] env H st Q:=
 λhX rd fr ro σ a w g r hj hrd=>⟨_,env,H,st,ro,σ,fr,g,rfl,h,r,hj,λ_ q=>q,XU _,rfl,Grow.refl _ _ _⟩
end
theorem QiP{P:Program}{rd:Option Nat}{o:Oper}{a:Act}{K K':Act->World->Prop}{Q Q':Exit->Act->World->Prop}(b:∀a w,K a w->K' a w)(i:∀ch a w,Q (.panic ch) a w->Q' (.panic ch) a w)(k:∀a w,Q .outgrown a w->Q' .outgrown a w)
  {r:Result Next}(h:o.uponIn (WF rd) 0 P a K Q r):o.uponIn (WF rd) 0 P a K' Q' r:=by
 cases r with
 |ok x w=>
  cases x with
  |value v=>exact b _ _ h
  |skip=>exact b _ _ h
  |defer d=>exact b _ _ h
  |enter f g=>
   refine⟨h.1,CallsIn.mono h.2 ?_⟩;intro e m q;cases e with
   |returned v=>exact b _ _ q
   |panicked c=>exact i _ _ _ q
   |outgrown=>obtain⟨a,w,q⟩:=q;exact⟨a,w,k _ _ q⟩
  |row r g=>exact⟨h.1,RowsIn.mono h.2 λv m q=>b _ _ q⟩
  |round l f n assign j=>
   refine⟨h.1,RoundIn.mono h.2 ?_⟩;intro e m q;cases e with
   |returned v=>exact b _ _ q
   |panicked c=>exact i _ _ _ q
   |outgrown=>obtain⟨a,w,q⟩:=q;exact⟨a,w,k _ _ q⟩
  |_=>exact h
 |halt x w=>
  cases x with
  |panic v=>exact i _ _ _ h
  |_=>exact h
section
variable {T:Type} {X:Ctx T} {P:Program} {h0 N:Nat} {env:Env} {H:Qc} {st:YSt T} {Q:Yy T}
theorem WOy.step{all:Array Oper}{o:Oper}{rest:List Oper}(h:WO P h0 N all [o] env H (λx env' H'=>x=.normal/\WOy X P h0 N all rest env' H' st Q)):WOy X P h0 N all (o::rest) env H st Q:=by
 intro B n s p σ a w g r hj hrd;have y:∀i j,QbU h0 s p σ w N a.defers (λx env' H'=>x=.normal/\WOy X P h0 N all rest env' H' st Q) .normal i j->wpL P n all (Qc3 X h0 s p σ w N a.defers Q) rest i j:=by
  rintro i j ⟨x,env',H',f,σ',d,L,⟨_,G⟩,J,m,F,z,E⟩;have u:X.at st g f j/\In g d i.defers:=⟨B.ev hj.1 (m.frMono hj.2.sub),by rw[z];exact hj.2.later r.sim.frLt E⟩;have:=G B n d f σ' i j g J u hrd;refine Yd (λe k l q=>?_) _ _ _ this;exact q.grow m.sub m.size F (by rw[z];exact E)
 have b:=h n s p σ a w r (hrd▸Qed.none);unfold wpL wpListIn at b⊢;split
 .rename_i t;rw[Vu t]at b;refine⟨b.1,QiP (λk l q=>?_) (λM k l q=>?_) (λk l q=>?_) b.2⟩
  .unfold wpListIn at q;exact y k l q
  .obtain⟨x,_,_,_,_,_,q,_⟩:=q;exact q.elim
  .obtain⟨x,_,_,_,_,_,q,_⟩:=q;exact q.elim
 .rename_i t;rw[Vt t]at b;refine⟨b.1,?_⟩;have q:=b.2;unfold wpListIn at q;exact y _ _ q
theorem WOy.yield{all:Array Oper}{o:Oper}{rest:List Oper}{d:Nat}{x:T}{J rem:List T}(G:X.nx J x rem)(hg:Qm all o env true)(B:o.dst=some d)(hN:Nat.blt d N=true)
  (L:∀fr ro σ a w,Rel fr ro σ H env N a w->∃vs:List Value,LR ro [] w (X.enc x) vs/\(execOp a.eval o).run P w=(Instr.yield X.l vs.toArray).run P w)
  (k:∀b:Bool,WOy X P h0 N all rest (up env d (.bool b)) H (bif b then .on rem else .off rem) Q):WOy X P h0 N all (o::rest) env H (.on J) Q:=by
 intro W M fr ro σ a w g r hj hrd;obtain⟨vs,hv,he⟩:=L fr ro σ a w r;obtain⟨q,hq,R⟩:=hj.1;obtain⟨fn,tmps,assign,V,h1,h2⟩:=W.round J x rem q g ro w vs G R hq (λb z=>⟨r.sim.roLt b z,λy=>r.sim.roFr b z (hj.2.sub b y)⟩) hv;have h3:=he.trans h1;unfold wpL wpListIn;rw[Vu (YA hg r)];refine⟨λ_ _=>trivial,?_⟩;rw[QcC h3 (λd e=>by cases e)];refine⟨λh=>by simp[WF,Fence.wide]at h,?_⟩;refine RoundIn.mono (F:=WF M) (n:=0) h2 ?_;rintro e j ⟨i,p,t,u,f⟩;obtain⟨s',ev⟩:=r.sim.round hj.2.sub u;have O:d<N:=by simpa using hN
 have m:Ext ro σ w ro σ j:=by have:=ev.ext σ [];simpa using this
 have fin:∀b:Bool,X.at (bif b then .on rem else .off rem) i ro j->wpL P M all (Qc3 X h0 fr ro σ w N a.defers Q) rest (a.put o.dst (.bool b)) j:=by
  intro b f;have hm:Qc6 (λb=>fr b\/i b) a.defers j:=by
   refine⟨r.defers.1,λd B=>?_⟩;obtain⟨D,rfl,E,Y⟩:=r.defers.2 d B;exact⟨D,rfl,.inl E,(u.keep D (r.sim.frLt D E) (hj.2.beside D B)).trans Y⟩
  have hi:In i (λb=>fr b\/i b) a.defers:=by
   refine⟨λb q=>.inr q,λD hD q=>?_⟩;rcases u.new D q with p|p
   .exact hj.2.beside D hD p
   .obtain⟨D',e,E,_⟩:=r.defers.2 _ hD;have:D=D':=by simpa using e
    subst this;have:=r.sim.frLt D E;omega
  have r':Rel (λb=>fr b\/i b) ro σ H (up env d (.bool b)) N {a with tmps:=a.tmps.setIfInBounds d (.bool b)} j:=
   ⟨s',VR.up (fr:=fr) (λs=>(r.env s).mono m) (by rw[r.size];exact O) rfl,by simpa using r.size,hm⟩
  have:=k b W M _ ro σ _ j i r' ⟨f,hi⟩ hrd;simp only[B,Act.put];refine Yd (λe a2 w2 q=>q.grow (λ_ q=>q) u.size rfl ⟨λ_ q=>.inl q,λb q=>?_,λ_ q=>.inl q⟩) _ _ _ this;rcases q with q|q
  .exact .inl q
  .rcases u.new b q with q|q
   .exact .inl (hj.2.sub b q)
   .exact .inr q
 rcases f with⟨rfl,f⟩|⟨rfl,f⟩
 .exact fin true ⟨p,t,f⟩
 .exact fin false ⟨p,t,f⟩
end
def EndY{T:Type}:Yy T:=λx env H st=>(x=.normal\/x=.ret)/\(st=.on []\/ ∃rem,st=.off rem)
theorem QcZ{T:Type}{P:Program}{f:FuncId}{fn:Func}{c:Code}{N:Nat}{a:List A}{H:Qc}{enc:T->List A}{nx:List T->T->List T->Prop}{xs:List T}
  (hf:P.funcs[f]?=some fn)(hb:fn.body=some c)(hN:fn.ntmps=N)(hA:Nat.ble (a.length+1) N=true)(Y:fn.results= #[])
  (h:∀X:Ctx T,X.enc=enc->X.nx=nx->TCy X P H.length N c (Qgj 0 (.fn (.yield X.l) [] []::a)) H (.on xs) EndY):Qix P f a H enc nx xs:=by
 intro X hE hNx hX fr ro0 σ w capv q0 hs hq0 hl hj;have p:LR ro0 σ w (.fn (.yield X.l) [] []::a) (Value.func (.yield X.l) #[] #[]::capv):=⟨_,_,rfl,⟨[],[],rfl,rfl,rfl⟩,hl⟩;have t:=p.length;have aa:a.length+1<=N:=by simpa using hA
 refine(callsIn_wide (n:=0)).1 (callsIn_of_wp_marks hf hb trivial (Code.wpIn_mono ?_ (h X hE hNx hX none fr ro0 σ _ w fr ⟨hs,?_,?_,List.nodup_nil,λd u=>by cases u⟩ ⟨⟨q0,hq0,hj⟩,λ_ q=>q,λD hD=>by cases hD⟩ rfl)))
 .rintro e L V ⟨x,R,H1,st,E,σ1,ab,G,Q,⟨h2,O⟩,k,⟨h4,j⟩,h5,h6,h7,h8⟩;have m:LeavesInM Fence.wide 0 P fn L.tmps (λe W'=>(∃v,e=.returned v)/\ ∃g q',(∀b,fr b->g b)/\((X.J [] q' g W')\/(∃rem,X.Jx rem q' g W'))) L.defers .returning V:=by
   refine Qbo (ro:=E) (fr:=G) (σ:=σ1) (H:=H1) L.defers V k.defers.1 (λd u=>?_) (k.sim.frMono j.sub) (λw2 s2 r=>?_)
   .obtain⟨D,rfl,M,W⟩:=k.defers.2 d u;exact⟨D,rfl,λq=>k.sim.roFr D q M,j.beside D u,λi x B F z=>(k.sim.own i D x B F z).2.2 M,λi d x B F z=>(k.sim.hid i d x D B F z).fr M,W⟩
   .have y:=hX.up (hX.ev h4 r) (g':=λb=>G b\/fr b) (λb q=>.inl q) (λb q=>Vg (k.sim.frLt b (q.elim (j.sub b) (h8.sub b))) r.size);obtain⟨q9,_,y⟩:=y;refine⟨.tuple #[],by simp[results,Y,go_sem],⟨_,rfl⟩,λb=>G b\/fr b,q9,λb q=>.inr q,?_⟩;rcases O with rfl|⟨rem,rfl⟩
    .exact .inl y
    .exact .inr ⟨rem,y⟩
  cases e with
  |normal=>exact m
  |ret=>exact m
  |exit id=>
   obtain rfl:x=.exit id:=Q;rcases h2 with q|q<;>cases q
  |_=>exact Q.elim
 .intro s;have:=QeR (i:=0) [] rfl p (Array.replicate (fn.ntmps-(Value.func (.yield X.l) #[] #[]::capv).toArray.size) undef) s;simpa using this
 .simp only[X2]at t;simp[hN];omega
section
variable {T:Type} {X:Ctx T} {P:Program} {h0 N:Nat} {c c':Code} {env:Env} {H:Qc} {st:YSt T} {Q Q':Yy T}
theorem TCy.mono(h:TCy X P h0 N c env H st Q)(p:∀x env H st,Q x env H st->Q' x env H st):TCy X P h0 N c env H st Q':=by
 intro l q m n σ a w g r hj hrd;refine Code.wpIn_mono ?_ (h l q m n σ a w g r hj hrd);rintro e y u ⟨x,b,H',i,d,σ',f,k,j,s,t⟩;exact⟨x,b,H',i,d,σ',f,k,j,p _ _ _ _ s,t⟩
theorem TCy.skip(h:Q .normal env H st):TCy X P h0 N .skip env H st Q:=TCy.lift (TC.skip h)
theorem TCy.ret(h:Q .ret env H st):TCy X P h0 N .ret env H st Q:=TCy.lift (TC.ret h)
theorem TCy.exit{id:Nat}(h:Q (.exit id) env H st):TCy X P h0 N (.exit id) env H st Q:=TCy.lift (TC.exit h)
def BloY(id:Nat)(Q:Yy T):Yy T
 |.normal,env,H,st=>Q .normal env H st
 |.exit id',env,H,st=>bif Nat.beq id' id then Q .normal env H st else Q (.exit id') env H st
 |.ret,env,H,st=>Q .ret env H st
theorem TCy.block{id:Nat}(h:TCy X P h0 N c env H st (BloY id Q)):TCy X P h0 N (.block id c) env H st Q:=by
 intro p u s t σ a w g r hj hrd;refine wpIn_block (Code.wpIn_mono ?_ (h p u s t σ a w g r hj hrd));rintro e B z ⟨x,b,H',j,f,σ',i,m,l,k,n⟩;cases e with
 |normal=>
  obtain rfl:x=.normal:=l;exact⟨_,b,H',j,f,σ',i,m,rfl,k,n⟩
 |exit d=>
  obtain rfl:x=.exit d:=l;show Exit.inBlock id _ _ _ _;unfold Exit.inBlock;simp only[BloY]at k;by_cases q:d=id
  .subst q;rw[VG,Vq]at k;simp only[if_true];exact⟨.normal,b,H',j,f,σ',i,m,rfl,k,n⟩
  .have y:Nat.beq d id=false:=by
    cases e:Nat.beq d id with
    |false=>rfl
    |true=>exact absurd (XR e) q
   rw[y,Vr]at k;simp only[q,if_false];exact⟨.exit d,b,H',j,f,σ',i,m,rfl,k,n⟩
 |ret=>
  obtain rfl:x=.ret:=l;exact⟨_,b,H',j,f,σ',i,m,rfl,k,n⟩
 |_=>exact l.elim
end
section
variable {T:Type} {X:Ctx T} {P:Program} {h0 N:Nat} {c:Code} {env:Env} {H:Qc} {st:YSt T} {Q:Yy T}
def Qlq(I:Env->Qc->YSt T->Prop)(Q:Yy T):Yy T
 |.normal,env,H,st=>I env H st
 |.exit id,env,H,st=>Q (.exit id) env H st
 |.ret,env,H,st=>Q .ret env H st
theorem Qgs{I:Nat->Env->Qc->YSt T->Prop}(body:∀n env H st,I n env H st->TCy X P h0 N c env H st (Qlq (λenv H st=>∃n',n'<n/\I n' env H st) Q)){n:Nat}(J:I n env H st):TCy X P h0 N (.loop c) env H st Q:=by
 intro hX L z y σ a w g r hj hrd b k cs hro hb hr;have E:∀m n env H st fr1 ro1 σ1 a1 w1 g1,n<m->I n env H st->Rel fr1 ro1 σ1 H env N a1 w1->(∀b,y b->ro1 b)->w.heap.size<=w1.heap.size->σ1.take h0=σ.take h0->Grow z w a.defers fr1 a1.defers->X.at st g1 ro1 w1/\In g1 fr1 a1.defers->
   ∃e h i,Qc3 X h0 z y σ w N a.defers Q e h i/\ArrivesIn (Machine.fenced P (WF L)) P (lone (b.atR a1 (.code c::.inLoop c::k)) cs w1) b k cs e h i:=by
  intro m
  induction m with
  |zero=>intro n env H st fr1 ro1 σ1 a1 w1 g1 hn;exact absurd hn (Xn _)
  |succ m ih=>
   intro n env H st fr1 ro1 σ1 a1 w1 g1 hn J r1 s1 z1 t1 gr1 j1;obtain⟨e,h,i,F,d⟩:=body n env H st J hX L fr1 ro1 σ1 a1 w1 g1 r1 j1 hrd b (.inLoop c::k) cs hro hb hr;obtain⟨x,f,H',l,t,σ',s,W,B,p,q3,R,q5,M,Y,q8⟩:=F;have O:=λb q=>q5 b (s1 b q);have u:=gr1.trans z1 q8;have V:∀x,Q x f H' l->ExR e x->Qc3 X h0 z y σ w N a.defers Q e h i:=λx q q'=>⟨x,f,H',l,t,σ',s,W,q',q,q3,R,O,XW z1 M,Y.trans t1,u⟩;cases e with
   |normal=>
    obtain rfl:x=.normal:=B;obtain⟨n',aa,p⟩:=p;obtain⟨e2,a2,w2,G,j⟩:=ih n' f H' l s t σ' h i W (by omega) p q3 O (XW z1 M) (Y.trans t1) u R;exact⟨e2,a2,w2,G,.of_steps (StepsIn.trans d (.one (fenced_calm hb hr rfl) stepR_inLoop)) j⟩
   |exit id=>
    obtain rfl:x=.exit id:=B;exact⟨_,h,i,V _ p rfl,.pass (x:=.inLoop c) rfl (λ_ _=>.inl (by simp)) d⟩
   |ret=>
    obtain rfl:x=.ret:=B;exact⟨_,h,i,V _ p rfl,.pass (x:=.inLoop c) rfl (λ_ _=>.inl (by simp)) d⟩
   |_=>exact B.elim
 obtain⟨e,h,i,F,d⟩:=E (n+1) n env H st z y σ a w g (Xo _) J r (λ_ q=>q) (XU _) rfl (Grow.refl _ _ _) hj;exact⟨e,h,i,F,.of_steps (.one (fenced_calm hb hr rfl) stepR_loop) d⟩
end
end Go.Sw
namespace Go.Sw
theorem Sim.part{fr ro:Nat->Prop}{σ:Sig}{H:Qc}{w:World}(s0:Sim fr ro σ H w){π:List Nat}{Hc:Qc}(hH:π.map (λp=>H[p]?)=(Hc.map (QS (rho π H.length))).map some)(hπ:π.Nodup):
  Sim (λb=>fr b\/(∃i x,σ[i]?=some (some b)/\H[i]?=some x/\x.live=true/\i∉π)\/ ∃i x d,σ[i]?=some (some d)/\H[i]?=some x/\Hid w x d b/\i∉π) ro (Ya σ π) Hc w/\ ∀j:Nat,σ[rho π H.length j]?=(Ya σ π)[j]? :=by
 have hp:∀p∈π,p<H.length:=λp q=>Jd hH q;have hσl:=s0.len;have m:∀(j p:Nat),π[j]?=some p->H[p]?=(Hc[j]?).map (QS (rho π H.length)):=by
  intro j p a;have:=congrArg (λl=>l[j]?) hH;simp only[Xq,a,Xk]at this;cases e:Hc[j]? with
  |none=>rw[e]at this;simp at this
  |some x=>rw[e]at this;simpa using this
 have Q:π.length=Hc.length:=by simpa using congrArg List.length hH
 have hσc:∀j:Nat,σ[rho π H.length j]?=(Ya σ π)[j]? :=by
  intro j;have:=Qef (τ:=[]) hσl hp j;simpa using this
 have hπj:∀(j b:Nat),(Ya σ π)[j]?=some (some b)->∃p,π[j]?=some p/\σ[p]?=some (some b):=by
  intro j b a;simp only[Ya,Xq]at a;cases e:π[j]? with
  |none=>rw[e]at a;simp at a
  |some p=>
   rw[e]at a;simp at a;refine⟨p,rfl,?_⟩;cases r:σ[p]? with
   |none=>rw[r]at a;simp at a
   |some s=>rw[r]at a;simp at a;rw[a]
 refine⟨?_,hσc⟩
 .refine⟨by simp[Ya,Q],s0.roOk,?_,?_,?_,?_,?_,?_⟩
  .rintro b (N|⟨i,x,g,h,n,O⟩|⟨i,x,d,g,h,n,O⟩)
   .exact s0.frLt b N
   .exact(s0.own i b x g h n).1
   .exact(s0.hid i d x b g h n).lt
  .rintro b N (M|⟨i,x,g,h,n,O⟩|⟨i,x,d,g,h,n,O⟩)
   .exact s0.roFr b N M
   .exact(s0.own i b x g h n).2.1 N
   .exact(s0.hid i d x b g h n).ro N
  .intro j b x g h n;obtain⟨p,f,r⟩:=hπj j b g;have E:H[p]?=some (QS (rho π H.length) x):=by rw[m j p f,h];rfl
   obtain⟨o1,o2,o3⟩:=s0.own p b _ r E (by rw[QH];exact n);refine⟨o1,o2,?_⟩;rintro(M|⟨i,y,y1,y2,F,P⟩|⟨i,y,d,y1,y2,F,P⟩)
   .exact o3 M
   .have:=s0.inj i p b _ _ y1 r y2 E F (by rw[QH];exact n);subst this;exact P (VI f)
   .exact(s0.hid i d y b y1 y2 F).ne p b _ r E (by rw[QH];exact n) rfl
  .intro i j b x y g h n O q5 q6;obtain⟨p,f,r⟩:=hπj i b g;obtain⟨u,z,W⟩:=hπj j b h;have E:H[p]?=some (QS (rho π H.length) x):=by rw[m i p f,n];rfl
   have V:H[u]?=some (QS (rho π H.length) y):=by rw[m j u z,O];rfl
   have:=s0.inj p u b _ _ r W E V (by rw[QH];exact q5) (by rw[QH];exact q6);subst this;have G:i<π.length:=by
    rcases VD i π.length with q|q
    .exact q
    .rw[XP q]at f;simp at f
   have a:j<π.length:=by
    rcases VD j π.length with q|q
    .exact q
    .rw[XP q]at z;simp at z
   rw[XL G]at f;rw[XL a]at z;have t:=(X0 f).trans (X0 z).symm;rcases Nat.lt_trichotomy i j with q|q|q
   .exact(VF.1 hπ i j G a q t).elim
   .exact q
   .exact(VF.1 hπ j i a G q t.symm).elim
  .intro j s x g h;have a:j<π.length:=by
    rcases VD j π.length with q|q
    .exact q
    .rw[XP (by simpa[Ya]using q)]at g;simp at g
   have f:π[j]?=some π[j]:=XL a;have E:H[π[j]]?=some (QS (rho π H.length) x):=by rw[m j _ f,h];rfl
   have r:σ[π[j]]?=some s:=by
    have:=hσc j;rw[g]at this;simpa[rho,f]using this
   exact(Qhr hσc).1 (s0.blk _ s _ r E)
  .intro j b x c g h n;obtain⟨p,f,r⟩:=hπj j b g;have E:H[p]?=some (QS (rho π H.length) x):=by rw[m j p f,h];rfl
   have k:=s0.hid p b _ c r E ((Qao _ _ _ _ _).2 n);refine⟨k.lt,k.ro,?_,?_,?_⟩
   .rintro(M|⟨i,y,y1,y2,F,P⟩|⟨i,y,d,y1,y2,F,P⟩)
    .exact k.fr M
    .exact k.ne i c y y1 y2 F rfl
    .obtain⟨rfl,rfl⟩:=k.one i d y y1 y2 F;exact P (VI f)
   .intro B L y R T Y;obtain⟨u,J,X⟩:=hπj B L R;exact k.ne u L _ X (show H[u]?=some (QS (rho π H.length) y)by rw[m B u J,T];rfl) (by rw[QH];exact Y)
   .intro B L y R T Y;obtain⟨u,J,X⟩:=hπj B L R;obtain⟨z4,z5⟩:=k.one u L _ X (show H[u]?=some (QS (rho π H.length) y)by rw[m B u J,T];rfl) ((Qao _ _ _ _ _).2 Y);subst z5;have G:B<π.length:=(XM.1 J).1;have a:j<π.length:=(XM.1 f).1;rw[XL G]at J;rw[XL a]at f;have t:=(X0 J).trans (X0 f).symm;refine⟨z4,?_⟩;rcases Nat.lt_trichotomy B j with q|q|q
    .exact(VF.1 hπ B j G a q t).elim
    .exact q
    .exact(VF.1 hπ j B a G q t.symm).elim
theorem Sim.frames{fr fr' ro:Nat->Prop}{σ:Sig}{H:Qc}{w:World}(s:Sim fr ro σ H w)(lt:∀b,fr' b->b<w.heap.size)(hro:∀b,ro b->¬fr' b)(own:∀(i b:Nat) (x:Blk),σ[i]?=some (some b)->H[i]?=some x->x.live=true->¬fr' b)
  (hd:∀(i b:Nat) (x:Blk) (c:Nat),σ[i]?=some (some b)->H[i]?=some x->Hid w x b c->¬fr' c):Sim fr' ro σ H w:=
 ⟨s.len,s.roOk,lt,hro,λi b x q1 q2 q3=>⟨(s.own i b x q1 q2 q3).1,(s.own i b x q1 q2 q3).2.1,own i b x q1 q2 q3⟩,s.inj,s.blk,
  s.hidTo (· = ·) QT (XU _) (λ_ _ _ _ _ _ _ q=>q) (λi b x c q1 q2 q3 q4=>(hd i b x c q1 q2 q3 q4).elim) λj d y g1 g2 g3=>.inl ⟨j,y,rfl,g1,g2,id,λ_ q=>q⟩⟩
def Qj4(H:Qc)(p:Nat):Qc:=match H[p]? with
 |some x=>bif x.holds then H.set p .dead else H
 |none=>H
def QdP:Qc->List Nat->Qc
 |H,[]=>H
 |H,p::π=>QdP (Qj4 H p) π
theorem QdQ(H:Qc)(p:Nat):(Qj4 H p=H/\ ∀x,H[p]?=some x->x.holds=false)\/Qj4 H p=H.set p .dead:=by
 unfold Qj4;cases h:H[p]? with
 |none=>exact .inl ⟨rfl,λx q=>by cases q⟩
 |some x=>
  cases q:x.holds with
  |false=>exact .inl ⟨by simp[q],λy a=>by cases a;exact q⟩
  |true=>exact .inr (by simp[q])
theorem QeS:∀(π:List Nat) (H:Qc) (i:Nat) (x:Blk),(QdP H π)[i]?=some x->x=.dead\/(H[i]?=some x/\(x.holds=true->i∉π))
 |[],H,i,x,h=>.inr ⟨h,λ_=>by simp⟩
 |p::π,H,i,x,h=>by
  rcases QeS π _ i x h with h|⟨h1,h2⟩
  .exact .inl h
  .rcases QdQ H p with⟨e,hl⟩|e
   .rw[e]at h1;refine .inr ⟨h1,λhx=>?_⟩;simp only[X7,not_or];refine⟨λq=>?_,h2 hx⟩;subst q;have:=hl x h1;rw[this]at hx;cases hx
   .rw[e]at h1;by_cases q:p=i
    .subst q;rw[Xb]at h1;simp at h1;exact .inl h1.2.symm
    .rw[XQ q]at h1;exact .inr ⟨h1,λhx=>by simp only[X7,not_or];exact⟨λr=>q r.symm,h2 hx⟩⟩
theorem Qdz{fr ro:Nat->Prop}{σ:Sig}{w:World}:∀(π:List Nat) {H:Qc} (s:Sim fr ro σ H w),Sim fr ro σ (QdP H π) w
 |[],_,s=>s
 |p::π,H,s=>by
  rw[QdP];rcases QdQ H p with h|h
  .rw[h.1];exact Qdz π s
  .rw[h];exact Qdz π (s.kill p)
theorem Sim.put{fr ro:Nat->Prop}{σ:Sig}{H:Qc}{w:World}(s:Sim fr ro σ H w){b:Nat}{obj:Obj}(l:fr b)(m:w.shape? b=none):
  Sim fr ro σ H (w.putObj b obj)/\Qe (λc=>c≠b) ro w ro (w.putObj b obj):=by
 have a:∀c,c≠b->(w.putObj b obj).heap[c]?=w.heap[c]? :=λc u=>World.putObj_heap_other u;have f:(w.putObj b obj).heap.size=w.heap.size:=by simp
 have n:∀c,ro c->c≠b:=λc q e=>s.roFr c q (e▸l);have ev:Qe (λc=>c≠b) ro w ro (w.putObj b obj):=by
  refine⟨λ_ q=>q,λc q=>a c (n c q),λc q=>a c q,by rw[f];exact XU _,λc x q=>?_,rfl,rfl,rfl,XU _⟩;by_cases e:c=b
  .subst e;rw[m]at q;cases q
  .unfold World.shape? at q⊢;rw[a c e];exact q
 have k:Ext ro σ w ro σ (w.putObj b obj):=by have:=ev.ext σ [];simpa using this
 refine⟨⟨s.len,s.roOk.to (λ_ q=>q) ev.keepRo (λc q=>by rw[f];exact s.roLt c q),λc q=>by rw[f];exact s.frLt c q,s.roFr,λi c x h g G=>?_,s.inj,λi y x h g=>?_,
  s.hidTo (· = ·) QT (by rw[f];exact XU _) (λ_ _ _ _ _ _ _ q=>q) (λ_ _ _ _ _ _ _ q=>q) λj d y r t J=>.inl ⟨j,y,rfl,r,t,id,λc q=>s.hidKeep r t (λz=>a d (λe=>(s.own j d y r t z).2.2 (e▸l))) ev.keepRo q⟩⟩,ev⟩
 .obtain⟨F,B,E⟩:=s.own i c x h g G;exact⟨by rw[f];exact F,B,E⟩
 .refine(s.blk i y x h g).keep k ?_ ?_
  .rintro c rfl p;exact a c (λe=>(s.own i c x h g p).2.2 (e▸l))
  .rintro d c rfl p;exact a c (λe=>(s.hid i d x c h g p).fr (e▸l))
theorem Qbm{w:World}{l:Nat}{r:Loop}(h:w.heap[l]?=some (.loop r)):w.shape? l=none:=by
 unfold World.shape?;rw[h]
structure Fix where
 fr:Nat->Prop
 ro:Nat->Prop
 σ:Sig
 w:World
 h1:Nat
 env:Env
 tmps:Array Value
 ds1:List Deferred
 l:Nat
 rc:LoopState->Option Code->Loop
 fr1:Nat->Prop
structure Fix.Ok (D:Fix):Prop where
 sub:∀b,D.fr b->D.fr1 b
 l1:D.fr1 D.l
 lf:¬D.fr D.l
 len:D.σ.length=D.h1
structure RJ (D:Fix) (ro1:Nat->Prop) (σ1:Sig) (H:Qc) (st:LoopState) (pe:Option Code) (q g:Nat->Prop) (W:World):Prop where
 sim:Sim D.fr1 ro1 σ1 H W
 env:∀t,VR ro1 D.σ W (lk D.env t) (D.tmps.getD t undef)
 sig:σ1.take D.h1=D.σ
 ev:Qe D.fr D.ro D.w ro1 W
 marks:Qc6 D.fr1 D.ds1 W
 rc:W.heap[D.l]?=some (.loop (D.rc st pe))
 roG:∀b,ro1 b->q b\/g b
 frG:∀b,D.fr1 b->g b
 own:∀(i b:Nat) (x:Blk),σ1[i]?=some (some b)->H[i]?=some x->x.live=true->g b
 hidG:∀(i b:Nat) (x:Blk) (c:Nat),σ1[i]?=some (some b)->H[i]?=some x->Hid W x b c->g c
 lt:∀b,g b->b<W.heap.size
theorem QdH{σ σ1:Sig}{a:Nat}(h:σ1.take a=σ){i b:Nat}(q:σ[i]?=some (some b)):σ1[i]?=some (some b):=by
 subst h;rw[List.getElem?_take]at q;split at q
 .exact q
 .cases q
section
variable {D:Fix} {ro1:Nat->Prop} {σ1:Sig} {H:Qc} {st:LoopState} {pe:Option Code} {qR g:Nat->Prop} {W:World}
theorem RJ.step(r:D.Ok)(j:RJ D ro1 σ1 H st pe qR g W){ro':Nat->Prop}{W':World}(e:Qe g qR W ro' W'):RJ D ro1 σ1 H st pe qR g W':=by
 have h:∀b,ro1 b->W'.heap[b]?=W.heap[b]? :=λb q=>(j.roG b q).elim (e.keepRo b) (e.keepFr b);have ev:Qe D.fr1 ro1 W ro1 W':=⟨λ_ q=>q,h,λb q=>e.keepFr b (j.frG b q),e.size,e.shape,e.os,e.tape,e.output,e.drawn⟩;have k:∀σ,Ext ro1 σ W ro1 σ W':=λ σ=>by have:=ev.ext σ [];simpa using this
 refine⟨⟨j.sim.len,j.sim.roOk.to (λ_ q=>q) h (λb q=>Vg (j.sim.roLt b q) e.size),λb q=>Vg (j.sim.frLt b q) e.size,j.sim.roFr,λi b x f a n=>?_,j.sim.inj,λi z x f a=>?_,
  j.sim.hidTo (· = ·) QT e.size (λ_ _ _ _ _ _ _ q=>q) (λ_ _ _ _ _ _ _ q=>q) λi d y m p w=>.inl ⟨i,y,rfl,m,p,id,λc q=>j.sim.hidKeep m p (λz=>e.keepFr d (j.own i d y m p z)) h q⟩⟩,
  λt=>(j.env t).mono (k _),j.sig,j.ev.trans (ev.frMono r.sub),j.marks.keep ev,(ev.keepFr _ r.l1).trans j.rc,j.roG,j.frG,j.own,λi b x c f a n=>j.hidG i b x c f a (j.sim.hidKeep f a (λz=>e.keepFr b (j.own i b x f a z)) h n),λb q=>Vg (j.lt b q) e.size⟩
 .obtain⟨u,s⟩:=j.sim.own i b x f a n;exact⟨Vg u e.size,s⟩
 .refine(j.sim.blk i z x f a).keep (k _) ?_ ?_
  .rintro b rfl l;exact e.keepFr b (j.own i b x f a l)
  .rintro b c rfl l;exact e.keepFr c (j.hidG i b x c f a l)
theorem RJ.up{g':Nat->Prop}(j:RJ D ro1 σ1 H st pe qR g W)(h:∀b,g b->g' b)(hl:∀b,g' b->b<W.heap.size):RJ D ro1 σ1 H st pe qR g' W:=
 {j with roG:=λb q=>(j.roG b q).imp id (h b),frG:=λb q=>h b (j.frG b q),own:=λi b x q1 q2 q3=>h b (j.own i b x q1 q2 q3),hidG:=λi b x c q1 q2 q3=>h c (j.hidG i b x c q1 q2 q3),lt:=hl}
def FrB(D:Fix)(ro1 g:Nat->Prop)(W:World):Nat->Prop:=λb=>(D.fr1 b\/(¬g b/\ ¬ro1 b))/\b<W.heap.size
theorem RJ.simB(j:RJ D ro1 σ1 H st pe qR g W):Sim (FrB D ro1 g W) ro1 σ1 H W:=by
 refine j.sim.frames (λb q=>q.2) (λb q r=>?_) (λi b x e a d r=>?_) (λi b x c e a d r=>r.1.elim (j.sim.hid i b x c e a d).fr λr=>r.1 (j.hidG i b x c e a d))
 .rcases r.1 with r|r
  .exact j.sim.roFr b q r
  .exact r.2 q
 .rcases r.1 with r|r
  .exact(j.sim.own i b x e a d).2.2 r
  .exact r.1 (j.own i b x e a d)
theorem RJ.fin(E:D.Ok)(j:RJ D ro1 σ1 H st pe qR g W){w ro':Nat->Prop}{σ':Sig}{H':Qc}{W':World}{st':LoopState}{pe':Option Code}
  (ev:Qe (λb=>FrB D ro1 g W b/\b≠D.l) ro1 W ro' W')(s:Sim w ro' σ' H' W')(u:∀b,FrB D ro1 g W b->w b)(hσ:σ'.take D.h1=σ1.take D.h1)(P:W'.heap[D.l]?=some (.loop (D.rc st' pe'))):
  RJ D ro' σ' H' st' pe' qR (λb=>g b\/(W.heap.size<=b/\b<W'.heap.size)) W'/\Qfl g (λb=>g b\/(W.heap.size<=b/\b<W'.heap.size)) W W':=by
 have m:∀b,D.fr1 b->FrB D ro1 g W b:=λb q=>⟨.inl q,j.sim.frLt b q⟩;have M:W.shape? D.l=none:=Qbm j.rc;have G:Qe D.fr ro1 W ro' W':=ev.frMono λb q=>⟨m b (E.sub b q),λe=>E.lf (e▸q)⟩;have y:Ext ro1 D.σ W ro' D.σ W':=ev.ext0 D.σ;have z:∀b,b<W.heap.size->b<W'.heap.size:=λb q=>Vg q ev.size;have n:∀b,b<W.heap.size->¬FrB D ro1 g W b->g b\/ro1 b:=by
  intro b h N;by_cases f:g b
  .exact .inl f
  .by_cases a:ro1 b
   .exact .inr a
   .exact absurd ⟨.inr ⟨f,a⟩,h⟩ N
 refine⟨⟨s.frames (λb q=>z b (j.sim.frLt b q)) (λb q r=>s.roFr b q (u b (m b r))) (λi b x f a p r=>(s.own i b x f a p).2.2 (u b (m b r))) (λi b x c f a p r=>(s.hid i b x c f a p).fr (u c (m c r))),
  λt=>(j.env t).mono y,hσ.trans j.sig,j.ev.trans G,⟨j.marks.1,λd R=>?_⟩,P,λb q=>?_,λb q=>.inl (j.frG b q),λi b x f a p=>?_,λi b x c f a p=>?_,λb q=>q.elim (λq=>z b (j.lt b q)) (λq=>q.2)⟩,
  ⟨λb q=>.inl q,λb q=>q.imp id (λq=>q.1),λb q=>q.elim (λq=>z b (j.lt b q)) (λq=>q.2),λb f a=>.inr ⟨f,a⟩,λb f a=>?_,ev.size,ev.shape,ev.os,ev.tape,ev.output,ev.drawn⟩⟩
 .obtain⟨B,O,J,F⟩:=j.marks.2 d R;refine⟨B,O,J,(ev.keepFr B ⟨m B J,λe=>?_⟩).trans F⟩;subst e;rw[j.rc]at F;cases F
 .rcases VD b W.heap.size with h|h
  .rcases n b h (λr=>s.roFr b q (u b r))with r|r
   .exact .inr (.inl r)
   .exact(j.roG b r).imp id .inl
  .exact .inr (.inr ⟨h,s.roLt b q⟩)
 .obtain⟨L,T,Q⟩:=s.own i b x f a p;rcases VD b W.heap.size with h|h
  .rcases n b h (λr=>Q (u b r))with r|r
   .exact .inl r
   .exact absurd (ev.sub b r) T
  .exact .inr ⟨h,L⟩
 .have k:=s.hid i b x c f a p;rcases VD c W.heap.size with h|h
  .rcases n c h (λr=>k.fr (u c r))with r|r
   .exact .inl r
   .exact absurd (ev.sub c r) k.ro
  .exact .inr ⟨h,k.lt⟩
 .by_cases r:ro1 b
  .exact ev.keepRo b r
  .exact ev.keepFr b ⟨⟨.inr ⟨a,r⟩,f⟩,λe=>a (j.frG b (e▸E.l1))⟩
end
theorem Sim.roAdd{fr ro f:Nat->Prop}{σ:Sig}{H:Qc}{w:World}(s:Sim fr ro σ H w)(m:∀b,f b->b<w.heap.size)(l:∀b,f b->¬fr b)(h:∀(i b:Nat) (x:Blk),σ[i]?=some (some b)->H[i]?=some x->x.live=true->¬f b)
  (g:∀(i b:Nat) (x:Blk) (c:Nat),σ[i]?=some (some b)->H[i]?=some x->Hid w x b c->¬f c):Sim fr (λb=>ro b\/f b) σ H w:=by
 have ext:Ext ro σ w (λb=>ro b\/f b) σ w:=⟨λ_ q=>.inl q,λ_ _=>rfl,λ_ _ q=>q,λ_ _ q=>q⟩;refine⟨s.len,s.roOk.to (λ_ q=>.inl q) (λ_ _=>rfl) (λb q=>q.elim (s.roLt b) (m b)),s.frLt,λb q=>q.elim (s.roFr b) (l b),λi b x e a k=>?_,s.inj,λi y x e a=>(s.blk i y x e a).keep ext (λ_ _ _=>rfl) (λ_ _ _ _=>rfl),
  s.hidTo (· = ·) QT (XU _) (λi b x c e a k n=>n.elim id λq=>(g i b x c e a k q).elim) (λ_ _ _ _ _ _ _ q=>q) λj d y u z B=>.inl ⟨j,y,rfl,u,z,id,λ_ q=>q⟩⟩
 obtain⟨t,p,r⟩:=s.own i b x e a k;exact⟨t,λq=>q.elim p (h i b x e a k),r⟩
theorem RJ.roAdd{D:Fix}{ro1:Nat->Prop}{σ1:Sig}{H:Qc}{st:LoopState}{pe:Option Code}{qR ri g:Nat->Prop}{W:World}(j:RJ D ro1 σ1 H st pe qR g W)(hq:∀b,qR b->ri b)(hI:∀b,ri b->b<W.heap.size/\ ¬g b):RJ D (λb=>ro1 b\/ri b) σ1 H st pe ri g W:=
 {j with
  sim:=j.sim.roAdd (λb q=>(hI b q).1) (λb q z=>(hI b q).2 (j.frG b z)) (λi b x q1 q2 q3 z=>(hI b z).2 (j.own i b x q1 q2 q3)) (λi b x c q1 q2 q3 z=>(hI c z).2 (j.hidG i b x c q1 q2 q3))
  env:=λt=>(j.env t).mono ⟨λ_ q=>.inl q,λ_ _=>rfl,λ_ _ q=>q,λ_ _ q=>q⟩
  ev:=j.ev.trans (YE λ_ q=>.inl q)
  roG:=λb q=>q.elim (λq=>(j.roG b q).imp (hq b) id) .inl}
def QlB:List Nat->List A->Env->Env
 |p::ps,a::zs,env=>QlB ps zs (up env p a)
 |_,_,env=>env
def QiW:List Nat->List Value->Array Value->Array Value
 |p::ps,v::vs,t=>QiW ps vs (t.setIfInBounds p v)
 |_,_,t=>t
theorem QfM:∀(ps:List Nat) (vs:List Value) (t:Array Value),(QiW ps vs t).size=t.size
 |[],_,_=>rfl
 |_::_,[],_=>rfl
 |p::ps,v::vs,t=>by simp[QiW,QfM ps]
theorem QfN:∀(ps:List Nat) (vs:List Value) (t:Array Value),(ps.toArray.zip vs.toArray).foldl (λt (p,v)=>t.setIfInBounds p v) t=QiW ps vs t
 |[],vs,t=>by rw[<- Array.foldl_toList,Array.toList_zip];rfl
 |p::ps,[],t=>by rw[<- Array.foldl_toList,Array.toList_zip];rfl
 |p::ps,v::vs,t=>by
  have:=QfN ps vs (t.setIfInBounds p v);rw[<- Array.foldl_toList,Array.toList_zip]at this⊢;exact this
theorem QjP{ro:Nat->Prop}{σ:Sig}{w:World}:∀(ps:List Nat) (zs:List A) (vs:List Value) (env:Env) (t:Array Value),LR ro σ w zs vs->(∀p∈ps,p<t.size)->(∀s,VR ro σ w (lk env s) (t.getD s undef))->
  ∀s,VR ro σ w (lk (QlB ps zs env) s) ((QiW ps vs t).getD s undef)
 |[],_,_,_,_,_,_,h=>h
 |p::ps,[],vs,_,_,hv,_,h=>by
  obtain rfl:vs=[]:=hv;exact h
 |p::ps,a::zs,vs,env,t,hv,hp,h=>by
  obtain⟨v,vs',rfl,h0,hv'⟩:=hv;have h1:=VR.up (fr:=λ_=>False) (a:={tmps:=t,defers:=[]}) h (hp p (by simp)) h0;exact QjP ps zs vs' (up env p a) (t.setIfInBounds p v) hv' (λq hq=>by simpa using hp q (by simp[hq])) h1
def Qjy(h1:Nat)(env:Env)(Q:Qw)(K:Qc->Prop):Qw
 |.normal,env',H'=>∃H2,Le h1 env' H' [] H2/\K H2
 |.exit id,env',H'=>∃H2,Le h1 env' H' [] H2/\Q (.exit id) env H2
 |.ret,env',H'=>∃H2,Le h1 env' H' [] H2/\Q .ret env H2
def Jump(Q:Qw)(env:Env)(c:Code)(H:Qc):Prop:=(∃id,c=.exit id/\Q (.exit id) env H)\/(c=.ret/\Q .ret env H)
section
variable {D:Fix} {ro0:Nat->Prop} {σ1:Sig} {H:Qc} {qR ri g:Nat->Prop} {W:World} {P:Program} {N:Nat} {Q:Qw} {K:Qc->Prop}
theorem RJ.round{fn:FuncId}{ps:List Nat}{assign body:Code}{df:Nat}{cs:List A}{vs:List Value}(hD:D.Ok)(m:D.rc=λst pe=>{state:=st,pending:=pe,fn:=fn,tmps:=D.tmps,params:=ps.toArray,assign:=assign,body:=body,defers:=df})
  (hN:D.tmps.size=N)(ai:∀p∈ps,p<N)(ac:cs.length=ps.length)(hq:∀b,qR b->ri b)(hI:∀b,ri b->b<W.heap.size/\ ¬g b)(aa:LR ri [] W cs vs)(j0:RJ D ro0 σ1 H .ready none qR g W)
  (h:TC P D.h1 N assign (QlB ps cs D.env) H λe env1 H1=>e=.normal/\TC P D.h1 N body env1 H1 (Qjy D.h1 D.env Q K)):
  YieldAt Fence.wide 0 P D.l vs.toArray W λe W'=>∃g',Qfl g g' W W'/\((e=.returned (.bool true)/\ ∃H2 ro2 σ2,K H2/\RJ D ro2 σ2 H2 .ready none ri g' W')\/
   (e=.returned (.bool false)/\ ∃H2 c ro2 σ2,Jump Q D.env c H2/\RJ D ro2 σ2 H2 .done (some c) ri g' W')):=by
 have al:vs.length=cs.length:=aa.length;have j:=j0.roAdd hq hI;have z:LR (λb=>ro0 b\/ri b) σ1 W cs vs:=aa.mono ⟨λ_ q=>.inr q,λ_ _=>rfl,λ_ _ q=>q,λi b q=>by simp at q⟩;clear j0;generalize(λb=>ro0 b\/ri b)=ro1 at j z;have aj:∀b,D.fr1 b->FrB D ro1 g W b:=λb q=>⟨.inl q,j.sim.frLt b q⟩;have n:=aj _ hD.l1;have J:=j.rc;have hy:=run_yield (P:=P) (r:=D.rc .ready none) (args:=vs.toArray) J (by rw[m];simp[al,ac]);refine⟨fn,QiW ps vs D.tmps,assign,body,?_,?_⟩
 .rw[hy,m];simp only[];rw[<- QfN]
 .refine roundIn_of_wpIn trivial ?_;show Code.wpIn (WF (some D.l)) 0 P _ _ _ _;have R:∀s,VR ro1 σ1 W (lk D.env s) (D.tmps.getD s undef):=λs=>(j.env s).mono ⟨λ_ q=>q,λ_ _=>rfl,λ_ _ q=>q,λi b q=>QdH j.sig q⟩;have am:Qed (some D.l) (FrB D ro1 g W) W:=λl e=>by cases e;exact⟨n,_,J⟩
  have y:=h (some D.l) (FrB D ro1 g W) ro1 σ1 {tmps:=QiW ps vs D.tmps,defers:=[]} W ⟨j.simB,QjP ps cs vs D.env D.tmps z (by rw[hN];exact ai) R,by simp[QfM,hN],List.nodup_nil,λd hd=>by cases hd⟩ am;refine Code.wpIn_mono ?_ y;rintro e a1 y ⟨x1,env1,H1,ro2,σ2,t,h1,⟨rfl,h2⟩,h3,h4,h5,h6⟩;cases e with
  |normal=>
   have k:y.heap[D.l]?=some (.loop (D.rc .ready none)):=(h4.keepFr _ n).trans J;refine⟨_,run_beginRound k (by rw[m]),?_⟩;obtain⟨s2,M⟩:=h3.sim.put (obj:=.loop {D.rc .ready none with state:=.busy}) (h6.sub _ n) (Qbm k);have ae:D.l<y.heap.size:=by rw[Vd]at k;exact k.1
   have ab:(y.putObj D.l (.loop {D.rc .ready none with state:=.busy})).heap[D.l]?=some (.loop {D.rc .ready none with state:=.busy}):=World.putObj_heap_same ae;generalize hw2:y.putObj D.l (.loop {D.rc .ready none with state:=.busy})=w2 at*;have af:Qc6 t a1.defers w2:=by
    refine⟨h3.defers.1,λd hd=>?_⟩;obtain⟨B,e1,e2,e3⟩:=h3.defers.2 d hd;refine⟨B,e1,e2,(M.keepFr B (λe=>?_)).trans e3⟩;subst e;rw[k]at e3;cases e3
   have r2:Rel t ro2 σ2 H1 env1 N a1 w2:=⟨s2,λs=>(h3.env s).mono (M.ext0 σ2),h3.size,af⟩;have L:t D.l:=h6.sub _ n;refine Code.wpIn_mono ?_ (h2 (some D.l) t ro2 σ2 a1 w2 r2 (λl e=>by cases e;exact⟨L,_,ab⟩));rintro e a3 E ⟨x3,O,H3,F,σ3,T,g1,g2,g3,g4,g5,g6⟩;have u:E.heap[D.l]?=some (.loop {D.rc .ready none with state:=.busy}):=(g4.keepFr _ L).trans ab;have G:∀(H2:Qc) (jump:Option Code),Le D.h1 O H3 [] H2->∃v x,(Instr.endRound D.l jump).run P E=.ok v x/\v=.bool jump.isNone/\ ∃g',Qfl g g' W x/\ ∃a σ4,RJ D a σ4 H2 (if jump.isNone then .ready else .done) jump ri g' x:=by
    intro H2 jump f;obtain⟨a,σ4,r4,s4,t4⟩:=f T F σ3 N a3 E g3;refine⟨_,_,run_endRound jump u,rfl,?_⟩;have ah:T D.l:=g6.sub _ L;obtain⟨s5,ag⟩:=r4.sim.put (obj:=.loop {{D.rc .ready none with state:=.busy}with state:=if jump.isNone then .ready else .done,pending:=jump}) ah (Qbm u);have V:D.l<E.heap.size:=by rw[Vd]at u;exact u.1
    have ak:=World.putObj_heap_same (w:=E) (r:=D.l) (o:=.loop {{D.rc .ready none with state:=.busy}with state:=if jump.isNone then .ready else .done,pending:=jump}) V;have e1:Qe (λb=>FrB D ro1 g W b/\b≠D.l) ro1 W ro2 y:=h4.frMono λb q=>q.1;have e2:Qe (λb=>FrB D ro1 g W b/\b≠D.l) ro2 y ro2 w2:=M.frMono λb q=>q.2;have e3:Qe (λb=>FrB D ro1 g W b/\b≠D.l) ro2 w2 F E:=g4.frMono λb q=>h6.sub b q.1;have e4:Qe (λb=>FrB D ro1 g W b/\b≠D.l) F E a E:=YE s4;have e5:=(((e1.trans e2).trans e3).trans e4).trans (ag.frMono λb (q:FrB D ro1 g W b/\b≠D.l)=>q.2);obtain⟨q1,q2⟩:=j.fin hD e5 s5 (λb q=>g6.sub b (h6.sub b q)) (by rw[t4,g5,h5]) (st':=if jump.isNone then .ready else .done) (pe':=jump) (by rw[ak,m]);exact⟨_,q2,a,σ4,q1⟩
   cases e with
   |normal=>
    obtain rfl:x3=.normal:=g1;obtain⟨H2,f,X⟩:=g2;obtain⟨v,x,k1,rfl,g',k2,a,σ4,Y⟩:=G H2 none f;exact⟨_,x,k1,g',k2,.inl ⟨rfl,H2,a,σ4,X,Y⟩⟩
   |exit id=>
    obtain rfl:x3=.exit id:=g1;obtain⟨H2,f,X⟩:=g2;obtain⟨v,x,k1,rfl,g',k2,a,σ4,Y⟩:=G H2 (some (.exit id)) f;exact⟨_,x,k1,g',k2,.inr ⟨rfl,H2,_,a,σ4,.inl ⟨id,rfl,X⟩,Y⟩⟩
   |ret=>
    obtain rfl:x3=.ret:=g1;obtain⟨H2,f,X⟩:=g2;obtain⟨v,x,k1,rfl,g',k2,a,σ4,Y⟩:=G H2 (some .ret) f;exact⟨_,x,k1,g',k2,.inr ⟨rfl,H2,_,a,σ4,.inr ⟨rfl,X⟩,Y⟩⟩
   |_=>exact g1.elim
  |exit id=>cases h1
  |ret=>cases h1
  |_=>exact h1.elim
end
theorem Sim.beside{fr ro:Nat->Prop}{σ:Sig}{H:Qc}{w h:World}(s:Sim fr ro σ H w)(ev:Qe fr ro w ro h)(a:∀b,b<w.heap.size->h.heap[b]?=w.heap[b]?):Sim (λb=>fr b\/(w.heap.size<=b/\b<h.heap.size)) ro σ H h:=by
 have g:Ext ro σ w ro σ h:=ev.ext0 σ;refine⟨s.len,s.roOk.to (λ_ q=>q) ev.keepRo (λb q=>Vg (s.roLt b q) ev.size),λb q=>q.elim (λq=>Vg (s.frLt b q) ev.size) (λq=>q.2),λb q r=>?_,λi b x f e m=>?_,s.inj,λi z x f e=>?_,
  s.hidTo (· = ·) QT ev.size (λ_ _ _ _ _ _ _ q=>q) (λi b x c f e m p=>p.elim id λq=>(by have:=(s.hid i b x c f e m).lt;omega)) λj d y l n E=>.inl ⟨j,y,rfl,l,n,id,λc q=>s.hidKeep l n (λz=>a d (s.own j d y l n z).1) ev.keepRo q⟩⟩
 .rcases r with r|r
  .exact s.roFr b q r
  .have:=s.roLt b q;omega
 .obtain⟨B,t,u⟩:=s.own i b x f e m;refine⟨Vg B ev.size,t,λr=>?_⟩;rcases r with r|r
  .exact u r
  .omega
 .refine(s.blk i z x f e).keep g ?_ ?_
  .rintro b rfl k;exact a b (s.own i b x f e k).1
  .rintro b c rfl k;exact a c (s.hid i b x c f e k).lt
theorem Qb3{w:World}{o:Obj}{b:Nat}(a:b<w.heap.size):(w.alloc o).heap[b]?=w.heap[b]? :=by
 show(w.heap.push o)[b]?=_;rw[Array.getElem?_push,Vt (by omega)]
theorem QmD{P:Program}{fn:FuncId}{tmps:Array Value}{ps:Array Tmp}{assign body:Code}{rd:Option Nat}{fr ro:Nat->Prop}{w:World}(i:Qed rd fr w)(j:∀b,ro b->b<w.heap.size)(g:∀b,fr b->b<w.heap.size):
  ∃l mark w1 df,(Instr.enterLoop fn tmps ps assign body rd).run P w=.ok (l,mark) w1/\w.heap.size<=l/\l<w1.heap.size/\w1.heap[l]?=some (.loop {state:=.ready,pending:=none,fn:=fn,tmps:=tmps,params:=ps,assign:=assign,body:=body,defers:=df})/\
   (∀b,b<w.heap.size->w1.heap[b]?=w.heap[b]?)/\mark.Nodup/\(∀d∈mark,∃D,d={target:=.collected D,args:= #[]}/\w.heap.size<=D/\D<w1.heap.size/\w1.heap[D]?=some (.deferred (some [])))/\Qe fr ro w ro w1:=by
 have e:∀w1:World,(∀b,b<w.heap.size->w1.heap[b]?=w.heap[b]?)->w.heap.size<=w1.heap.size->w1.os=w.os->w1.tape=w.tape->w1.output=w.output->w1.drawn=w.drawn->Qe fr ro w ro w1:=by
  intro w1 h u r y t p;refine⟨λ_ q=>q,λb q=>h b (j b q),λb q=>h b (g b q),u,λb x q=>?_,r,y,t,by rw[p];exact XU _⟩;have f:b<w.heap.size:=by
   rcases VD b w.heap.size with z|z
   .exact z
   .unfold World.shape? at q;rw[Array.getElem?_eq_none (by simpa using z)]at q;cases q
  unfold World.shape? at q⊢;rw[h b f];exact q
 cases rd with
 |none=>
  have a:∀b,b<w.heap.size->((w.alloc (.deferred (some []))).alloc (.loop {state:=.ready,pending:=none,fn:=fn,tmps:=tmps,params:=ps,assign:=assign,body:=body,defers:=w.heap.size})).heap[b]?=w.heap[b]? :=λb f=>
   (Qb3 (by simp;omega)).trans (Qb3 f)
  refine⟨_,_,_,w.heap.size,run_enterLoop_outer fn tmps ps assign body,by omega,by simp,?_,a,by simp,?_,e _ a (by simp;omega) rfl rfl rfl rfl⟩
  .have:=World.alloc_heap_new (w.alloc (.deferred (some []))) (.loop {state:=.ready,pending:=none,fn:=fn,tmps:=tmps,params:=ps,assign:=assign,body:=body,defers:=w.heap.size})
   rwa [World.size_alloc]at this
  .intro d k;obtain rfl:=VC.1 k;exact⟨_,rfl,XU _,by simp;omega,(Qb3 (by simp)).trans (World.alloc_heap_new w _)⟩
 |some s=>
  obtain⟨_,m,n⟩:=i s rfl;have a:∀b,b<w.heap.size->(w.alloc (.loop {state:=.ready,pending:=none,fn:=fn,tmps:=tmps,params:=ps,assign:=assign,body:=body,defers:=m.defers})).heap[b]?=w.heap[b]? :=λb f=>Qb3 f;exact⟨_,_,_,m.defers,run_enterLoop_inner n fn tmps ps assign body,XU _,by simp,World.alloc_heap_new w _,a,List.nodup_nil,(λd k=>absurd k List.not_mem_nil),e _ a (by simp) rfl rfl rfl rfl⟩
theorem TC.rangeFunc{P:Program}{h0 N:Nat}{ae:Operand}{ps:List Nat}{assign body:Code}{env:Env}{H:Qc}{Q:Qw}{f:FuncId}{ag ac:List A}{Hc:Qc}{T S:Type}{enc:T->List A}{nx:List T->T->List T->Prop}{xs:List T}
  (π:List Nat)(Hp:S->Qc)(V:S->List T->Prop)(s0:S)(hh:h0<=H.length)(hg:opA env ae=.fn (.func f) [] ag)(hargs:ag=Qaa (rho π H.length) ac)(hH:π.map (λp=>H[p]?)=(Hc.map (QS (rho π H.length))).map some)(hπ:π.Nodup)
  (a4:(ps.all λp=>Nat.blt p N)=true)(eg:∀args w,(callFunc f args).run P w=.ok (.enter f args) w)(ay:Qix P f ac Hc enc nx xs)(az:∀x,(enc x).length=ps.length)
  (ba:Le H.length env (QdP H π) env (Hp s0))(hV:V s0 xs)
  (aj:∀s l x rem,V s l->nx l x rem->TC P H.length N assign (QlB ps (enc x) env) (Hp s) λe env1 H1=>e=.normal/\TC P H.length N body env1 H1 (Qjy H.length env Q λH2=>∃s',V s' rem/\H2=Hp s'))
  (ak:∀s,V s []->Q .normal env (Hp s)):TC P h0 N (.rangeFunc ae ps.toArray assign body) env H Q:=by
 intro rd fr ro σ a w r hrd;have hv:=Qd r ae;rw[hg]at hv;obtain⟨l1,E,hv,bc,ar⟩:=hv;obtain rfl:l1=[]:=bc;refine wpIn_rangeFunc ?_;intro fn bi;obtain⟨l,G,Y,df,he,hl,bd,aq,a2,a9,am,aa⟩:=QmD (P:=P) (fn:=fn) (tmps:=a.tmps) (ps:=ps.toArray) (assign:=assign) (body:=body) (ro:=ro) hrd r.sim.roLt r.sim.frLt;have s1:=r.sim.beside aa a2
 let D:Fix:=⟨fr,ro,σ,w,H.length,env,a.tmps,G++a.defers,l,(λst pe=>{state:=st,pending:=pe,fn:=fn,tmps:=a.tmps,params:=ps.toArray,assign:=assign,body:=body,defers:=df}),(λb=>fr b\/(w.heap.size<=b/\b<Y.heap.size))⟩
 have ah:¬fr l:=λq=>by have:=r.sim.frLt l q;omega
 have hD:D.Ok:=⟨λb q=>.inl q,.inr ⟨hl,bd⟩,ah,r.sim.len⟩;have L:Qc6 D.fr1 (G++a.defers) Y:=by
  refine⟨List.nodup_append.2 ⟨a9,r.defers.1,λd O d' bf e=>?_⟩,λd O=>?_⟩
  .subst e;obtain⟨B,e1,e2,_⟩:=am d O;obtain⟨B',au,a6,_⟩:=r.defers.2 d bf;rw[e1]at au;have:B=B':=by simpa using au
   subst this;have:=r.sim.frLt B a6;omega
  .rcases VE.1 O with O|O
   .obtain⟨B,e1,e2,e3,e4⟩:=am d O;exact⟨B,e1,.inr ⟨e2,e3⟩,e4⟩
   .obtain⟨B,e1,e2,e3⟩:=(r.defers.keep aa).2 d O;exact⟨B,e1,.inl e2,e3⟩
 obtain⟨sp,hσc⟩:=s1.part hH hπ;have ai:LR ro (Ya σ π) Y ac E:=(Qbz hσc).1 (hargs▸ar.mono (aa.ext0 σ))
 let frX:Nat->Prop:=λb=>D.fr1 b\/(∃(j:Nat) (x:Blk),(Ya σ π)[j]?=some (some b)/\Hc[j]?=some x/\x.live=true)\/ ∃(j:Nat) (x:Blk) (d:Nat),(Ya σ π)[j]?=some (some d)/\Hc[j]?=some x/\Hid Y x d b
 have sX:Sim frX ro σ (QdP H π) Y:=by
  refine(Qdz π s1).frames (λb q=>?_) (λb q r=>?_) (λi b x n m k r=>?_) (λi b x c n m k r=>?_)
  .rcases q with q|⟨j,x,n,m,k⟩|⟨j,x,d,n,m,k⟩
   .exact s1.frLt b q
   .exact(sp.own j b x n m k).1
   .exact(sp.hid j d x b n m k).lt
  .rcases r with r|⟨j,x,n,m,k⟩|⟨j,x,d,n,m,k⟩
   .exact s1.roFr b q r
   .exact(sp.own j b x n m k).2.1 q
   .exact(sp.hid j d x b n m k).ro q
  .rcases QeS _ _ _ _ m with rfl|⟨m,hi⟩
   .cases k
   .rcases r with r|⟨j,y,p1,p2,p3⟩|⟨j,y,d,p1,p2,p3⟩
    .exact(s1.own i b x n m k).2.2 r
    .exact(sp.own j b y p1 p2 p3).2.2 (.inr (.inl ⟨i,x,n,m,k,hi (QaH k)⟩))
    .exact(sp.hid j d y b p1 p2 p3).fr (.inr (.inl ⟨i,x,n,m,k,hi (QaH k)⟩))
  .rcases QeS _ _ _ _ m with rfl|⟨m,hi⟩
   .exact k.elim
   .rcases r with r|⟨j,y,p1,p2,p3⟩|⟨j,y,d,p1,p2,p3⟩
    .exact(s1.hid i b x c n m k).fr r
    .exact(sp.own j c y p1 p2 p3).2.2 (.inr (.inr ⟨i,x,b,n,m,k,hi k.holds⟩))
    .exact(sp.hid j d y c p1 p2 p3).fr (.inr (.inr ⟨i,x,b,n,m,k,hi k.holds⟩))
 have rX:Rel frX ro σ (QdP H π) env N {a with defers:=G++a.defers} Y:=
  ⟨sX,λs=>(r.env s).mono (aa.ext0 σ),r.size,L.1,λd O=>let⟨B,e1,e2,e3⟩:=L.2 d O;⟨B,e1,.inl e2,e3⟩⟩
 obtain⟨af,σ',r',ab,a5⟩:=ba frX ro σ N _ Y rX;have hσt:σ.take H.length=σ:=by rw[<- r.sim.len,Va]
 let g0:Nat->Prop:=λb=>D.fr1 b\/(af b/\ ¬ro b)\/(∃(i:Nat) (x:Blk),σ'[i]?=some (some b)/\(Hp s0)[i]?=some x/\x.live=true)\/ ∃(i:Nat) (x:Blk) (d:Nat),σ'[i]?=some (some d)/\(Hp s0)[i]?=some x/\Hid Y x d b
 have j0:RJ D af σ' (Hp s0) .ready none ro g0 Y:=by
  refine⟨r'.sim.frMono λb q=>.inl q,λt=>(r.env t).mono ⟨ab,aa.keepRo,aa.shape,λ_ _ q=>q⟩,a5.trans hσt,aa.trans (YE ab),L,aq,λb q=>?_,λb q=>.inl q,λi b x n m k=>.inr (.inr (.inl ⟨i,x,n,m,k⟩)),λi b x c n m k=>.inr (.inr (.inr ⟨i,x,b,n,m,k⟩)),λb q=>?_⟩
  .by_cases z:ro b
   .exact .inl z
   .exact .inr (.inr (.inl ⟨q,z⟩))
  .rcases q with q|q|⟨i,x,n,m,k⟩|⟨i,x,d,n,m,k⟩
   .exact s1.frLt b q
   .exact r'.sim.roLt b q.1
   .exact(r'.sim.own i b x n m k).1
   .exact(r'.sim.hid i d x b n m k).lt
 have sI:Sim g0 ro (Ya σ π) Hc Y:=by
  refine sp.frames (λb q=>j0.lt b q) (λb q z=>?_) (λj b x n m k z=>?_) (λj b x c n m k z=>?_)
  .rcases z with z|z|⟨i,x,n,m,k⟩|⟨i,x,d,n,m,k⟩
   .exact s1.roFr b q z
   .exact z.2 q
   .exact(r'.sim.own i b x n m k).2.1 (ab b q)
   .exact(r'.sim.hid i d x b n m k).ro (ab b q)
  .have hX:frX b:=.inr (.inl ⟨j,x,n,m,k⟩);rcases z with z|z|⟨i,y,p1,p2,p3⟩|⟨i,y,d,p1,p2,p3⟩
   .exact(sp.own j b x n m k).2.2 (.inl z)
   .exact r'.sim.roFr b z.1 hX
   .exact(r'.sim.own i b y p1 p2 p3).2.2 hX
   .exact(r'.sim.hid i d y b p1 p2 p3).fr hX
  .have hX:frX c:=.inr (.inr ⟨j,x,b,n,m,k⟩);rcases z with z|z|⟨i,y,p1,p2,p3⟩|⟨i,y,d,p1,p2,p3⟩
   .exact(sp.hid j b x c n m k).fr (.inl z)
   .exact r'.sim.roFr c z.1 hX
   .exact(r'.sim.own i c y p1 p2 p3).2.2 hX
   .exact(r'.sim.hid i d y c p1 p2 p3).fr hX
 let X:Ctx T:={l:=l,J:=λrem q g W=>∃s F σ1,V s rem/\RJ D F σ1 (Hp s) .ready none q g W,Jx:=λ_ q g W=>∃H2 c F σ1,Jump Q env c H2/\RJ D F σ1 H2 .done (some c) q g W,enc:=enc,nx:=nx}
 have av:∀p∈ps,p<N:=λp hp=>by simpa using Xt.1 a4 p hp
 have hX:X.ok P:=by
  refine⟨⟨λrem q g W W' af ⟨s,F,σ1,M,R⟩ he=>⟨s,F,σ1,M,R.step hD he⟩,λrem q g g' W ⟨s,F,σ1,M,R⟩ hg hl=>⟨s,F,σ1,M,R.up hg hl⟩⟩,
   ⟨λrem q g W W' af ⟨H2,c,F,σ1,M,R⟩ he=>⟨H2,c,F,σ1,M,R.step hD he⟩,λrem q g g' W ⟨H2,c,F,σ1,M,R⟩ hg hl=>⟨H2,c,F,σ1,M,R.up hg hl⟩⟩,?_⟩
  rintro lr x rem q g ri W vs a8 ⟨s,F,σ1,M,R⟩ hq hI a3;obtain⟨be,tm,bb,a7,y1,y2⟩:=RJ.round (D:=D) (Q:=Q) (K:=λH2=>∃s',V s' rem/\H2=Hp s') hD rfl r.size av (az x) hq hI a3 R (aj s lr x rem M a8);refine⟨be,tm,bb,a7,y1,RoundIn.mono y2 ?_⟩;rintro e W' ⟨g',k1,k2⟩;refine⟨g',ri,λ_ z=>z,k1,?_⟩;rcases k2 with⟨rfl,H2,u,σ2,⟨s',bg,rfl⟩,k3⟩|⟨rfl,H2,c,u,σ2,k3,k4⟩
  .exact .inl ⟨rfl,s',u,σ2,bg,k3⟩
  .exact .inr ⟨rfl,H2,c,u,σ2,k3,k4⟩
 have aw:∀(ev:Operand->Value),ev ae=.func (.func f) #[] E.toArray->ev (.const (.func (.yield l) #[] #[]))=.func (.yield l) #[] #[]->(resolve ev (rangeCall ae l) 0).run P Y=.ok {target:=.fn (.func f) E.toArray,args:= #[.func (.yield l) #[] #[]]} Y:=by
  intro ev M R;simp[resolve,go_sem,M,R]
 refine⟨l,G,Y,{target:=.fn (.func f) E.toArray,args:= #[.func (.yield l) #[] #[]]},Y,f, #[.func (.yield l) #[] #[]]++E.toArray,Y,he,aw a.eval hv rfl,λ_ _=>trivial,by simp[invoke,go_sem,eg],λh=>by simp[WF,Fence.wide]at h,?_⟩;refine WF.calls.2 ?_;have al:=ay X rfl rfl hX g0 ro (Ya σ π) Y E ro sI (λ_ z=>z) ai ⟨s0,af,σ',hV,j0⟩;have ao:(#[.func (.yield l) #[] #[]]++E.toArray:Array Value)=((Value.func (.yield X.l) #[] #[]::E)).toArray:=by simp[X]
 rw[ao];refine Calls.mono al ?_;rintro e W' ⟨⟨v,rfl⟩,g2,qz,bh,a0⟩;have fin:∀(H2:Qc) (st:LoopState) (pe:Option Code) (u:Nat->Prop) (σ2:Sig),st≠ .busy->RJ D u σ2 H2 st pe qz g2 W'->∃w4,(Instr.endLoop l).run P W'=.ok pe w4/\Rel D.fr1 u σ2 H2 env N {a with defers:=G++a.defers} w4/\Qe fr ro w u w4:=by
  intro H2 st pe u σ2 hst j;refine⟨_,run_endLoop j.rc (by exact hst),?_⟩;obtain⟨s5,an⟩:=j.sim.put (obj:=.loop {(D.rc st pe)with state:=.exhausted}) hD.l1 (Qbm j.rc);have hr:=j.rc;refine⟨⟨s5,λt=>((j.env t).mono ⟨λ_ q=>q,λ_ _=>rfl,λ_ _ q=>q,λi b q=>QdH j.sig q⟩).mono (an.ext0 σ2),r.size,j.marks.1,λd O=>?_⟩,j.ev.trans (an.frMono λb q e=>ah (by have e':b=l:=e;rw[<- e'];exact q))⟩;obtain⟨B,e1,e2,e3⟩:=j.marks.2 d O;refine⟨B,e1,e2,(an.keepFr B (λe=>?_)).trans e3⟩;subst e;rw[hr]at e3;cases e3
 have a1:Grow fr w a.defers D.fr1 (G++a.defers):=by
  refine⟨λb q=>.inl q,λb q=>q.imp id (λq=>q.1),λd O=>?_⟩;rcases VE.1 O with O|O
  .obtain⟨B,e1,e2,_⟩:=am d O;exact .inr ⟨B,e1,e2⟩
  .exact .inl O
 have ax:∀{σ2:Sig},σ2.take H.length=σ->σ2.take h0=σ.take h0:=by
  intro σ2 h;have:=congrArg (List.take h0) h
  rwa [List.take_take,XB hh]at this
 rcases a0 with⟨s,u,σ2,M,R⟩|⟨rem,H2,c,u,σ2,M,R⟩
 .obtain⟨w4,f1,f2,f3⟩:=fin _ _ _ u σ2 (by intro e;cases e) R;exact⟨none,w4,f1,.normal,env,_,u,σ2,_,rfl,ak s M,f2,f3,ax R.sig,a1⟩
 .obtain⟨w4,f1,f2,f3⟩:=fin _ _ _ u σ2 (by intro e;cases e) R;refine⟨some c,w4,f1,?_⟩;have hc:TC P h0 N c env H2 Q:=by
   rcases M with⟨id,rfl,M⟩|⟨rfl,M⟩
   .exact TC.exit M
   .exact TC.ret M
  exact Code.wpIn_mono (λe a w q=>q.grow f3 (ax R.sig) a1) (hc rd D.fr1 u σ2 _ w4 f2 (hrd.to f3 λb q=>.inl q))
end Go.Sw
namespace Go.Sw
theorem QiH{h0 i k t T:Nat}{env:Env}{H:Qc}(R:Nat.ble h0 H.length=true)(hH:H[i]?=some (.cells T [.nils])):Le h0 env H env (H.set i (.cells T [.osl H.length 0 0 k])++[.row t k []]):=by
 intro fr J σ N a w r;have F:h0<=H.length:=XS R;have Q:i<H.length:=(XM.1 hH).1;have ext:Ext J σ w J (σ++[none]) w:=⟨λ_ q=>q,λ_ _=>rfl,λ_ _ q=>q,λ_ _ h=>YF h⟩;have s:=r.sim.phantom t k;have p:(H++[Blk.row t k []])[i]?=some (.cells T [.nils]):=by rw[XN Q];exact hH
 have e0:H.set i (.cells T [.osl H.length 0 0 k])++[.row t k []]=(H++[Blk.row t k []]).set i (.cells T [.osl H.length 0 0 k]):=by
  rw[List.set_append_left _ _ Q]
 have g:∀(j:Nat) (v:Blk),((H++[Blk.row t k []]).set i (.cells T [.osl H.length 0 0 k]))[j]?=some v->(j=i/\v=.cells T [.osl H.length 0 0 k])\/(j≠i/\(H++[Blk.row t k []])[j]?=some v):=by
  intro j v h;by_cases e:j=i
  .subst e;rw[Xa (by simp;omega)]at h;exact .inl ⟨rfl,by simpa using h.symm⟩
  .rw[XQ (λq=>e q.symm)]at h;exact .inr ⟨e,h⟩
 have f:∀(j:Nat) (v:Blk),((H++[Blk.row t k []]).set i (.cells T [.osl H.length 0 0 k]))[j]?=some v->v.live=true->∃u,(H++[Blk.row t k []])[j]?=some u/\u.live=true:=by
  intro j v h V;rcases g j v h with⟨rfl,rfl⟩|⟨_,h⟩
  .exact⟨_,p,rfl⟩
  .exact⟨v,h,V⟩
 refine⟨J,σ++[none],⟨?_,λq=>(r.env q).mono ext,r.size,r.defers⟩,λ_ q=>q,Qs (by rw[r.sim.len];exact F)⟩;rw[e0];refine⟨by rw[X5];exact s.len,s.roOk,s.frLt,s.roFr,λj b v z B L=>?_,λj P b v u z B L q4 q5 W=>?_,λj y v z B=>?_,
  s.hidTo (· = ·) QT (XU _) (λ_ _ _ _ _ _ _ q=>q) (λ_ _ _ _ _ _ _ q=>q) λj d y m n O=>.inl ?_⟩
 rotate_left 3
 .rcases g j y n with⟨rfl,rfl⟩|⟨_,h⟩
  .exact⟨j,_,rfl,m,p,λ_=>rfl,λ_ q=>q.elim⟩
  .exact⟨j,y,rfl,m,h,id,λ_ q=>q⟩
 .obtain⟨u,m,n⟩:=f j v B L;exact s.own j b u z m n
 .obtain⟨x,m,n⟩:=f j v L q5;obtain⟨x',E,G⟩:=f P u q4 W;exact s.inj j P b x x' z B m E n G
 .rcases g j v B with⟨rfl,rfl⟩|⟨_,h⟩
  .have:=s.blk j y _ z p;cases y with
   |none=>exact this
   |some b=>
    obtain⟨l,m,⟨X,M,rfl,n,O⟩,Y⟩:=this;refine⟨_,m,⟨X,M,rfl,.inl ⟨rfl,n⟩,?_⟩,Y⟩;obtain rfl:M=[]:=O;rfl
  .exact s.blk j y v z h
theorem Qks{h0 i:Nat}{env:Env}{H:Qc}{es:List (A×A)}(hH:H[i]?=some (.map es)):Le h0 env H env (H.set i (.fmap es)):=by
 intro f e σ N a w r;have d:∃s,σ[i]?=some s:=by
  have:i<σ.length:=by rw[r.sim.len];exact(XM.1 hH).1
  exact⟨_,XL this⟩
 obtain⟨s,d⟩:=d;cases s with
 |none=>exact(r.sim.blk i _ _ d hH).elim
 |some b=>
  refine⟨_,σ,⟨r.sim.shutMap d hH,λq=>(r.env q).mono ⟨λ_ q=>.inl q,λ_ _=>rfl,λ_ _ q=>q,λ_ _ q=>q⟩,r.size,r.defers⟩,λ_ q=>.inl q,rfl⟩
def anyN{T:Type}(l:List T)(x:T)(rem:List T):Prop:=l.Perm (x::rem)
def QmS(ts te:Nat)(ld:Op):Code:=.block 1 (.region 3 #[{dst:=some 8,op:=.load ts (.tmp 2),type:=ts,pos:="iter.go:52",after:= #[],guard:=none},{dst:=some 9,op:=ld,type:=te,pos:="iter.go:52",after:= #[],guard:=none},
 {dst:=some 10,op:=.buildSlice ts 1 #[(0,.tmp 9)],type:=ts,pos:="iter.go:52",after:= #[{on:=1,ground:=.data}],guard:=none},
 {dst:=some 11,op:=.call {callee:=.builtin .append,args:= #[.tmp 8,.tmp 10],argTypes:= #[ts,ts]},type:=ts,pos:="iter.go:52",after:= #[{on:=0,ground:=.data},{on:=2,ground:=.data}],guard:=none},
 {dst:=none,op:=.store ts (.tmp 2) (.tmp 11),type:=0,pos:="iter.go:52",after:= #[{on:=3,ground:=.data},{on:=3,ground:=.chain},{on:=0,ground:=.phase},{on:=1,ground:=.phase},{on:=2,ground:=.phase},{on:=3,ground:=.phase}],guard:=none}] false)
def Qpn(ts tq te:Nat)(asg:Code)(ld:Op):Code:=(Code.region 0 #[{dst:=some 2,op:=.box ts (.tmp 0),type:=0,pos:="iter.go:50",after:= #[],guard:=none},{dst:=some 4,op:=.assign (.const (.slice none 0 0)),type:=ts,pos:="iter.go:50",after:= #[],guard:=none}] false).seq
 (((Code.region 1 #[{dst:=some 6,op:=.move (.tmp 1),type:=tq,pos:="iter.go:51",after:= #[],guard:=none}] false).seq (.block 0 (.rangeFunc (.tmp 6) #[7] asg (QmS ts te ld)))).seq
  ((Code.region 4 #[{dst:=some 12,op:=.load ts (.tmp 2),type:=ts,pos:="iter.go:54",after:= #[],guard:=none},{dst:=some 4,op:=.assign (.tmp 12),type:=ts,pos:="iter.go:54",after:= #[{on:=0,ground:=.data},{on:=0,ground:=.phase}],guard:=none}] false).seq .ret))
def Qpo(te:Nat):Code:=.region 2 #[{dst:=some 5,op:=.assign (.tmp 7),type:=te,pos:="iter.go:51",after:= #[],guard:=none}] false
section
variable {P:Program} {T:Type} {ts tq te k tm:Nat} {g:FuncId} {es:List (A×A)} {e:T->List A} {ea:T->A} {xs:List T}
abbrev apH(ts te k tm:Nat)(es:List (A×A))(e:T->List A)(done:List T):Qc:=[.dead,.fmap es,.cells ts [.osl 3 0 done.length k],.row te k (done.map e)]
abbrev apE(g:FuncId):Env:=[(6,.fn (.func g) [] [.ptr 0 0]),(4,.nils),(2,.ptr 2 0),(0,.nils),(1,.fn (.func g) [] [.ptr 0 0])]
theorem Qn0{N:Nat}(B:N=13){done:List T}{x:T}{env:Env}{H:Qc}{K:Qc->Prop}{l:Op}(E:QL P ts te k)(M:∀w,(isAgg ts).run P w=.ok false w)(O:∀w,(sizeOf ts).run P w=.ok 1 w)(F:app done [x]=some (done++[x]))
  (V:(e x).length=k)(h:Nat.ble k 16777216=true)(b:Q6 (ea x)=true)(f:Yh (ea x)=e x)(g:(e x).all Ym=true)(R:Yb (e x)=true)(J:Nat.ble 3 H.length=true)
  (r:lk env 2=.ptr 2 0)(j:H[2]?=some (.cells ts [.osl 3 0 done.length k]))(p:H[3]?=some (.row te k (done.map e)))
  (a:∀env',(∀s,s≠8->lk env' s=lk env s)->∀pos,OpV P {dst:=some 9,op:=l,type:=te,pos:=pos,after:= #[],guard:=none} env' H (ea x))
  (z:∀env',∃H2,Le 3 env' (((((H++[Blk.row te k [e x]]).set 3 .dead)++[Blk.row te k ((done++[x]).map e)]).set 2 (.cells ts [.osl (H.length+1) 0 (done++[x]).length k]))) [] H2/\K H2){env0:Env}{Q:Qw}:
  TC P 3 N (QmS ts te l) env H (Qjy 3 env0 Q K):=by
 subst B;have u:3<=H.length:=XS J;have G:3<H.length:=(XM.1 p).1;refine TC.block (TC.region ?_);refine QE rfl rfl rfl (OpV.load (v:=.osl 3 0 done.length k) (cs:=[]) rfl M r (Pts.cells j rfl)) ?_;refine QE rfl rfl rfl (x:=ea x) ?_ ?_
 .refine a _ (λs L=>?_) _;simp only[up,lk];have:Nat.beq s 8=false:=by
   rw[VN];intro q;exact L (XR q)
  rw[this];rfl
 refine YV (by omega) rfl rfl rfl (OpH.lit (xs:=[.tmp 9]) (es:=[e x]) E rfl rfl (by simpa using h) ?_ ?_ ⟨V,trivial⟩ (by simpa using g) (by simpa using R)) ?_
 .simp[opA,lk,up,b]
 .simp[QA,opA,lk,up,f]
 refine YV (x:=.osl (H.length+1) 0 (done++[x]).length k) (H':=((H++[Blk.row te k [e x]]).set 3 .dead)++[Blk.row te k ((done++[x]).map e)]) (by simp;omega) rfl rfl rfl ?_ ?_
 .have:=QG (P:=P) (o:={dst:=some 11,op:=.call {callee:=.builtin .append,args:= #[.tmp 8,.tmp 10],argTypes:= #[ts,ts]},type:=ts,pos:="iter.go:52",after:= #[{on:=0,ground:=.data},{on:=2,ground:=.data}],guard:=none})
   (env:=up (up (up env 8 (.osl 3 0 done.length k)) 9 (ea x)) 10 (.osl H.length 0 1 k)) (H:=H++[Blk.row te k [e x]]) (x:=.tmp 8) (y:=.tmp 10) (e:=e) (m:=[x]) (i:=3) (n:=done.length) (ya:=.osl H.length 0 1 k) F E E.sl (Y9 (t:=te) (by simp) rfl) rfl rfl rfl rfl (by rw[XN G];exact p) rfl
  simpa using this
 refine Qbu (by simp;omega) rfl rfl (OpU.store (i:=2) (off:=0) (T:=ts) (n:=1) (cs:=[.osl 3 0 done.length k]) (vs:=[.osl (H.length+1) 0 (done++[x]).length k]) (cs':=[.osl (H.length+1) 0 (done++[x]).length k]) (v:=.osl (H.length+1) 0 (done++[x]).length k) rfl ?_ ?_ O rfl rfl rfl rfl rfl rfl rfl) ?_
 .exact r
 .have d:2<H.length:=by omega
  rw[XN (by simp;omega),XQ (by decide),XN d];exact j
 .refine WO.nil ?_;exact z _
theorem QmR{xs done l rem:List T}{x:T}(hl:Nat.ble xs.length Qp=true)(a:(done++l).Perm xs)(b:l.Perm (x::rem)):app done [x]=some (done++[x])/\((done++[x])++rem).Perm xs:=by
 have d:=a.length_eq;have e:=b.length_eq;have f:=XS hl;simp at d e;refine⟨?_,?_⟩
 .unfold app;have:Nat.ble (done.length+[x].length) Qp=true:=XT (by simp;omega);rw[this];rfl
 .refine List.Perm.trans ?_ a;simp only[Vj,List.singleton_append];exact(List.Perm.append_left done b).symm
theorem Qgz{j:FuncId}{fn:Func}(J:P.funcs[j]?=some fn)(z:fn.body=some (Qpn ts tq te (Qpo te) (.move (.tmp 5))))(y:fn.ntmps=13)(q:fn.results= #[.tmp 4])(E:QL P ts te 1)(m:∀w,(isAgg ts).run P w=.ok false w)(F:∀w,(sizeOf ts).run P w=.ok 1 w)
  (B:∀args w,(callFunc g args).run P w=.ok (.enter g args) w)(b:Qix P g [.ptr 0 0] [.cells tm [.map 1],.fmap es] (λx=>[ea x]) anyN xs)(hl:Nat.ble xs.length Qp=true)
  (M:∀x,QbH (ea x)=true)(e:∀x,Q6 (ea x)=true)(f:∀x,Yh (ea x)=[ea x])(h:∀x,Ym (ea x)=true)(G:∀x,Yk (ea x)=true):
  C P j [.nils,.fn (.func g) [] [.ptr 0 0]] [.cells tm [.map 1],.fmap es] (λr H1=>∃p:List T,p.Perm xs/\r=.osl 2 0 p.length 1/\H1=[.dead,.fmap es,.row te 1 (p.map λx=>[ea x])]):=by
 refine Qb J z y rfl ?_;refine TC.seq (TC.region ?_);refine YV (XS rfl) rfl rfl rfl (OpH.box (v:=.nils) (cs:=[.nils]) rfl rfl rfl rfl rfl) ?_;refine QE rfl rfl rfl (OpV.assign (v:=.nils) rfl rfl) ?_;refine WO.nil ?_;refine TC.seq (TC.seq (TC.region ?_));refine QE rfl rfl rfl (OpV.move (v:=.fn (.func g) [] [.ptr 0 0]) rfl rfl) ?_;refine WO.nil ?_;refine TC.block ?_;refine TC.rangeFunc (env:=apE g) (ps:=[7]) (S:=List T) [0,1] (apH ts te 1 tm es (λx=>[ea x])) (λdone l=>(done++l).Perm xs) [] (XS rfl) rfl rfl rfl (by decide) rfl B b (λx=>rfl) ?_ (List.Perm.refl _) ?_ ?_
 .exact QiH (h0:=3) (i:=2) (t:=te) (k:=1) (H:=[.dead,.fmap es,.cells ts [.nils]]) rfl rfl
 .intro done l x rem d s;obtain⟨n,L⟩:=QmR hl d s;refine TC.region (QE rfl rfl rfl (OpV.assign (v:=ea x) rfl rfl) (WO.nil ⟨rfl,?_⟩));refine Qn0 (ea:=ea) rfl E m F n rfl rfl (e x) (f x) (by simp[h x]) (by simp[Yb,G x]) rfl rfl rfl rfl ?_ ?_
  .intro a u pos;exact OpV.move rfl (by show lk a 5=ea x;rw[u 5 (by decide)];rfl)
  .intro a;exact⟨_,Lr (H':=apH ts te 1 tm es (λx=>[ea x]) (done++[x])) [0,1,2,5],_,L,rfl⟩
 .intro done d;rw[Vh]at d;refine TC.seq (TC.region ?_);refine QE rfl rfl rfl (OpV.load (v:=.osl 3 0 done.length 1) (cs:=[]) rfl m rfl (Pts.cells rfl rfl)) ?_;refine QE rfl rfl rfl (OpV.assign (v:=.osl 3 0 done.length 1) rfl rfl) ?_;refine WO.nil ?_;refine TC.ret ?_;exact⟨[(4,.osl 2 0 done.length 1)],[.dead,.fmap es,.row te 1 (done.map λx=>[ea x])],_,Lr [0,1,3],Qc1.one q rfl,done,d,rfl,rfl⟩
end
theorem TCy.le{T:Type}{X:Ctx T}{P:Program}{h0 N:Nat}{c:Code}{env env':Env}{H H':Qc}{st:YSt T}{Q:Yy T}(i:Le h0 env H env' H')(h:TCy X P h0 N c env' H' st Q):TCy X P h0 N c env H st Q:=by
 intro n x l u σ a w g r hj hrd;obtain⟨d,σ',m,s,t⟩:=i l u σ N a w r;obtain⟨⟨p,j,f⟩,k⟩:=hj;exact Code.wpIn_mono (λe a w q=>q.grow s (XU _) t (Grow.refl _ _ _)) (h n x l d σ' a w g m ⟨⟨p,λb z=>s b (j b z),f⟩,k⟩ hrd)
mutual
theorem QhD:∀{a:A},QbH a=true->Yk a=true
 |.any,_=>rfl
 |.bool _,_=>rfl
 |.int _ _,_=>rfl
 |.str _,_=>rfl
 |.nilp,_=>rfl
 |.ptr _ _,h=>by simp[QbH]at h
 |.rp _,_=>rfl
 |.nils,_=>rfl
 |.rsl _ _,_=>rfl
 |.osl _ _ _ _,h=>by simp[QbH]at h
 |.agg cs,h=>by simp only[QbH]at h;simp only[Yk];exact QfP h
 |.fn _ a c,h=>by simp[QbH]at h
 |.nilf,_=>rfl
 |.iface _ v,h=>by simp[QbH]at h
 |.nilif,_=>rfl
 |.map _,h=>by simp[QbH]at h
 |.nilm,_=>rfl
 |.tup vs,h=>by simp[QbH]at h
theorem QfP:∀{l:List A},QeA l=true->Yb l=true
 |[],_=>rfl
 |a::r,h=>by
  simp only[QeA,XX]at h;simp only[Yb,XX];exact⟨QhD h.1,QfP h.2⟩
end
theorem Qhs{P:Program}{o:Oper}{env:Env}{H:Qc}{y z:Operand}{l:Nat}{a:A}{h:Array TypeId}(m:o.op=.call {callee:=.value y,args:= #[z],argTypes:=h})(e:opA env y=.fn (.yield l) [] [])(k:opA env z=a)(i:Yk a=true){N:Nat}:
  ∀fr ro σ act w,Rel fr ro σ H env N act w->∃vs:List Value,LR ro [] w [a] vs/\(execOp act.eval o).run P w=(Instr.yield l vs.toArray).run P w:=by
 intro fr ro σ act w r;have b:=Qd r y;rw[e]at b;obtain⟨j,g,b,n,f⟩:=b;obtain rfl:j=[]:=n;obtain rfl:g=[]:=f;have d:=Qd r z;rw[k]at d;refine⟨[act.eval z],⟨_,_,rfl,VR.data i d,rfl⟩,?_⟩;generalize act.eval=ev at*;simp[execOp,m,resolve,invoke,go_sem,b]
theorem Qkx{P:Program}{o:Oper}{env:Env}{H:Qc}{y d a:Operand}{l:Nat}{j e:A}{s:Array TypeId}(u:o.op=.call {callee:=.value y,args:= #[d,a],argTypes:=s})(n:opA env y=.fn (.yield l) [] [])(i:opA env d=j)(g:opA env a=e)(f:Yk j=true)(h:Yk e=true){N:Nat}:
  ∀fr ro σ act w,Rel fr ro σ H env N act w->∃vs:List Value,LR ro [] w [j,e] vs/\(execOp act.eval o).run P w=(Instr.yield l vs.toArray).run P w:=by
 intro fr ro σ act w r;have b:=Qd r y;rw[n]at b;obtain⟨t,q,b,x,p⟩:=b;obtain rfl:t=[]:=x;obtain rfl:q=[]:=p;have k:=Qd r d;rw[i]at k;have m:=Qd r a;rw[g]at m;refine⟨[act.eval d,act.eval a],⟨_,_,rfl,VR.data f k,_,_,rfl,VR.data h m,rfl⟩,?_⟩;generalize act.eval=ev at*;simp[execOp,u,resolve,invoke,go_sem,b]
def Qmd(tm tb ty tk:Nat)(asg:Array Oper)(ld:Op):Code:=
 (Code.region 0 #[{dst:=some 4,op:=.load tm (.tmp 1),type:=tm,pos:="iter.go:27",after:= #[],guard:=none},{dst:=some 5,op:=.range tm (.tmp 4),type:=0,pos:="iter.go:27",after:= #[{on:=0,ground:=.data}],guard:=none}] false).seq
 (.block 0 (Code.loop ((Code.region 1 #[{dst:=some 6,op:=.next (.tmp 5) false,type:=0,pos:="iter.go:27",after:= #[],guard:=none},{dst:=some 7,op:=.extract (.tmp 6) 0,type:=tb,pos:="iter.go:27",after:= #[{on:=0,ground:=.data}],guard:=none}] false).seq
  ((Code.cond (.tmp 7) .skip (.exit 0)).seq (.block 1 ((Code.region 2 asg false).seq
   ((Code.region 3 #[{dst:=some 10,op:=.move (.tmp 0),type:=ty,pos:="iter.go:28",after:= #[],guard:=none},{dst:=some 11,op:=ld,type:=tk,pos:="iter.go:28",after:= #[],guard:=none},
    {dst:=some 12,op:=.call {callee:=.value (.tmp 10),args:= #[.tmp 11],argTypes:= #[tk]},type:=tb,pos:="iter.go:28",after:= #[{on:=0,ground:=.data},{on:=1,ground:=.data}],guard:=none},
    {dst:=some 13,op:=.unOp .not tb (.tmp 12),type:=tb,pos:="iter.go:28",after:= #[{on:=2,ground:=.data}],guard:=none}] false).seq (.cond (.tmp 13) .ret .skip))))))))
def Qo6(tk:Nat):Array Oper:= #[{dst:=some 8,op:=.entry (.tmp 5),type:=0,pos:="iter.go:27",after:= #[],guard:=none},{dst:=some 9,op:=.extract (.tmp 8) 0,type:=tk,pos:="iter.go:27",after:= #[{on:=0,ground:=.data}],guard:=none},
 {dst:=some 3,op:=.assign (.tmp 9),type:=tk,pos:="iter.go:27",after:= #[{on:=1,ground:=.data},{on:=0,ground:=.phase},{on:=1,ground:=.phase}],guard:=none}]
section
variable {P:Program} {K V:Type} {tm tb ty tk kt et:Nat} {ek:K->A} {ev:V->A} {m:List (K×V)} {T:Type}
abbrev kyE(l:Nat):Env:=[(0,.fn (.yield l) [] []),(1,.ptr 0 0),(5,.ptr 2 0)]
abbrev kyH(tm:Nat)(ek:K->A)(ev:V->A)(m l:List (K×V)):Qc:=[.cells tm [.map 1],.fmap (Qk ek ev m),.iter none (Qk ek ev l)]
theorem QkK{g:FuncId}{fn:Func}{f:Array Oper}{p:Op}(R:P.funcs[g]?=some fn)(J:fn.body=some (Qmd tm tb ty tk f p))(G:fn.ntmps=14)(u:fn.results= #[])(N:∀w,(isAgg tm).run P w=.ok false w)(O:P.underlying tm=some (.map kt et))(L:∀x,QbH (ek x)=true)
  (round:∀(X:Ctx K) (e:K×V) (l:List (K×V)) (env:Env) (H:Qc) (st:YSt K) (Q:Yy K),lk env 0=.fn (.yield X.l) [] []->lk env 1=.ptr 0 0->lk env 5=.ptr 2 0->H=[.cells tm [.map 1],.fmap (Qk ek ev m),.iter (some (ek e.1,ev e.2)) (Qk ek ev l)]->
   (∀env' H',lk env' 0=.fn (.yield X.l) [] []->lk env' 1=.ptr 0 0->lk env' 5=.ptr 2 0->(∀env2 b,lk env2 0=.fn (.yield X.l) [] []->lk env2 1=.ptr 0 0->lk env2 5=.ptr 2 0->Le 2 (up (up env2 12 (.bool b)) 13 (.bool (!b))) H' (kyE X.l) (kyH tm ek ev m l))->
    (∀pos env2,(∀s,s≠10->lk env2 s=lk env' s)->OpV P {dst:=some 11,op:=p,type:=tk,pos:=pos,after:= #[],guard:=none} env2 H' (ek e.1))->Nat.ble 2 H'.length=true->Q .normal env' H' st)->
   TCy X P 2 14 (.region 2 f false) env H st Q):
  Qix P g [.ptr 0 0] [.cells tm [.map 1],.fmap (Qk ek ev m)] (λx=>[ek x]) anyN (m.map Prod.fst):=by
 refine QcZ R J G rfl u ?_;intro X hE hNx;refine TCy.seq (TCy.lift (TC.region ?_));refine QE rfl rfl rfl (OpV.load (v:=.map 1) (cs:=[]) rfl N rfl (Pts.cells rfl rfl)) ?_;refine YV (XS rfl) rfl rfl rfl (Qfu O) ?_;refine WO.nil ?_;refine TCy.block ?_;refine Qgs (I:=λn env H st=>∃l:List (K×V),l.length=n/\st=.on (l.map Prod.fst)/\Le 2 env H (kyE X.l) (kyH tm ek ev m l)) ?_ ⟨m,rfl,rfl,Lr [0,1,2]⟩;rintro n env H st ⟨l,E,rfl,k⟩;refine TCy.le k ?_;refine TCy.seq (TCy.lift (TC.region ?_));refine Qjw (XS rfl) rfl rfl rfl (OpE.next rfl rfl rfl) ?_;rintro v H' (⟨j,rfl,rfl⟩|⟨T,F,j,rfl,rfl⟩)
 .have M:l=[]:=List.map_eq_nil_iff.1 j;subst M;refine QE rfl rfl rfl (OpV.extract (v:=.bool false) rfl rfl rfl) ?_;refine WO.nil ?_;refine TCy.seq (TCy.cond (t:=false) rfl (λe=>by cases e) (λ_=>?_));exact TCy.exit ⟨.inl rfl,.inl rfl⟩
 .obtain⟨B,r,i⟩:=QfW j rfl;cases B with
  |nil=>cases i
  |cons e h=>
   simp only[Vk,List.cons.injEq]at i;obtain⟨rfl,rfl⟩:=i;have d:h.length<n:=by rw[<- E, <- r.length_eq];simp
   refine QE rfl rfl rfl (OpV.extract (v:=.bool true) rfl rfl rfl) ?_;refine WO.nil ?_;refine TCy.seq (TCy.cond (t:=true) rfl (λ_=>?_) (λe=>by cases e));refine TCy.skip ?_;refine TCy.block ?_;refine TCy.seq (round X e h _ _ _ _ rfl rfl rfl rfl ?_);intro env' H' g0 g1 g5 hfin hld hL;refine TCy.seq (TCy.region ?_);refine WOy.step (QE rfl rfl rfl (OpV.move (v:=.fn (.yield X.l) [] []) rfl g0) (WO.nil ⟨rfl,?_⟩));refine WOy.step (QE rfl rfl rfl (x:=ek e.1) (hld _ _ λs q=>?_) (WO.nil ⟨rfl,?_⟩))
   .simp only[up,lk];have:Nat.beq s 10=false:=by rw[VN];intro z;exact q (XR z)
    rw[this];rfl
   refine WOy.yield (x:=e.1) (rem:=h.map Prod.fst) ?_ rfl rfl rfl ?_ ?_
   .rw[hNx];exact r.symm.map Prod.fst
   .rw[hE];refine Qhs (y:=.tmp 10) (z:=.tmp 11) (l:=X.l) (a:=ek e.1) rfl ?_ ?_ (QhD (L _))
    .rfl
    .rfl
   .intro b;refine WOy.step (QE rfl rfl rfl (OpV.not (b:=b) rfl rfl) (WO.nil ⟨rfl,?_⟩));refine WOy.nil ?_;refine TCy.cond (t:= !b) rfl (λq=>?_) (λq=>?_)
    .obtain rfl:b=false:=by simpa using q
     exact TCy.ret ⟨.inr rfl,.inr ⟨_,rfl⟩⟩
    .obtain rfl:b=true:=by simpa using q
     refine TCy.skip ?_;exact⟨_,d,h,rfl,rfl,hfin _ true g0 g1 g5⟩
theorem Qfk{g:FuncId}{fn:Func}(d:P.funcs[g]?=some fn)(t:fn.body=some (Qmd tm tb ty tk (Qo6 tk) (.move (.tmp 3))))(q:fn.ntmps=14)(f:fn.results= #[])(k:∀w,(isAgg tm).run P w=.ok false w)(p:P.underlying tm=some (.map kt et))(h:∀x,QbH (ek x)=true):
  Qix P g [.ptr 0 0] [.cells tm [.map 1],.fmap (Qk ek ev m)] (λx=>[ek x]) anyN (m.map Prod.fst):=by
 refine QkK (et:=et) (kt:=kt) d t q f k p h ?_;intro X e l env H st Q g0 g1 g5 hH hk;subst hH;refine TCy.lift (TC.region ?_);refine QE rfl rfl rfl (OpV.entry (e:=(ek e.1,ev e.2)) rfl g5 rfl) ?_;refine QE rfl rfl rfl (OpV.extract (v:=ek e.1) rfl rfl rfl) ?_;refine QE rfl rfl rfl (OpV.assign (v:=ek e.1) rfl rfl) ?_;refine WO.nil ?_;refine hk _ _ g0 g1 g5 ?_ ?_ rfl
 .intro a b j n s;exact Le.trans (Qgv (i:=2) (es:=Qk ek ev l) rfl rfl) (Lr [0,1,2] (hE:=⟨j,n,s,trivial⟩))
 .intro pos a r;exact OpV.move rfl (by show lk a 3=_;rw[r 3 (by decide)];rfl)
end
def Qpk(ts tq fA:Nat):Code:=(Code.region 0 #[{dst:=some 2,op:=.assign (.const (.slice none 0 0)),type:=ts,pos:="iter.go:59",after:= #[],guard:=none}] false).seq
 ((Code.region 1 #[{dst:=some 3,op:=.move (.tmp 0),type:=tq,pos:="iter.go:60",after:= #[],guard:=none},
  {dst:=some 4,op:=.call {callee:=.value (.func fA),args:= #[.const (.slice none 0 0),.tmp 3],argTypes:= #[ts,tq]},type:=ts,pos:="iter.go:60",after:= #[{on:=0,ground:=.data}],guard:=none},
  {dst:=some 2,op:=.assign (.tmp 4),type:=ts,pos:="iter.go:60",after:= #[{on:=1,ground:=.data},{on:=1,ground:=.chain},{on:=0,ground:=.phase},{on:=1,ground:=.phase}],guard:=none}] false).seq .ret)
theorem Qgy{P:Program}{T:Type}{b l i k j:Nat}{g:FuncId}{es:List (A×A)}{e:T->List A}{xs:List T}{fC a:FuncId}{fn:Func}(t:P.funcs[fC]?=some fn)(u:fn.body=some (Qpk b l a))(s:fn.ntmps=5)(n:fn.results= #[.tmp 2])
  (f:∀(env:Env) (H:Qc),lk env 3=.fn (.func g) [] [.ptr 0 0]->OpC P {dst:=some 4,op:=.call {callee:=.value (.func a),args:= #[.const (.slice none 0 0),.tmp 3],argTypes:= #[b,l]},type:=b,pos:="iter.go:60",after:= #[{on:=0,ground:=.data}],guard:=none} env H a [.nils,.fn (.func g) [] [.ptr 0 0]])
  (q:C P a [.nils,.fn (.func g) [] [.ptr 0 0]] [.cells j [.map 1],.fmap es] (λr H1=>∃p:List T,p.Perm xs/\r=.osl 2 0 p.length k/\H1=[.dead,.fmap es,.row i k (p.map e)])):
  C P fC [.fn (.func g) [] [.ptr 0 0]] [.cells j [.map 1],.fmap es] (λr H1=>∃p:List T,p.Perm xs/\r=.osl 2 0 p.length k/\H1=[.dead,.fmap es,.row i k (p.map e)]):=by
 refine Qb t u s rfl ?_;refine TC.seq (TC.region ?_);refine QE rfl rfl rfl (OpV.assign (v:=.nils) rfl rfl) ?_;refine WO.nil ?_;refine TC.seq (TC.region ?_);refine QE rfl rfl rfl (OpV.move (v:=.fn (.func g) [] [.ptr 0 0]) rfl rfl) ?_;refine WO.call (d:=some 4) [0,1] (XS rfl) rfl rfl (λx h=>by cases h;decide) (f _ _ rfl) rfl rfl (by decide) q ?_;rintro r H1 ⟨p,m,rfl,rfl⟩;refine QE rfl rfl rfl (OpV.assign (v:=.osl 2 0 p.length k) rfl rfl) ?_;refine WO.nil ?_;refine TC.ret ?_;exact⟨[(2,.osl 2 0 p.length k)],[.dead,.fmap es,.row i k (p.map e)],_,Lr [0,1,2],Qc1.one n rfl,p,m,rfl,rfl⟩
def QmT{K R:Type}[DecidableEq R](l:List K)(k:List K->Option R):Option R:=bif Nat.ble l.length Qp then anyP k l else none
theorem Qkn{K R:Type}[DecidableEq R]{l:List K}{k:List K->Option R}{r:R}(h:QmT l k=some r):Nat.ble l.length Qp=true/\ ∀p,p.Perm l->k p=some r:=by
 unfold QmT at h;cases q:Nat.ble l.length Qp with
 |true=>rw[q]at h;exact⟨rfl,Qkl h⟩
 |false=>rw[q]at h;cases h
end Go.Sw
namespace Go.Sw
section
variable {P:Program} {o:Oper} {env:Env} {H:Qc} {fr ro:Nat->Prop} {σ:Sig} {w:World}
theorem Qlr{h0 i t b1 b2:Nat}{es:List (List A)}{l:List Ent}(hH:H[i]?=some (.rowr t 3 es))(he:l.map (eC b1 b2)=es):Le h0 env H env (H.set i (.ents t b1 b2 l)):=by
 subst he;intro e d σ N a w r;refine⟨d,σ,⟨r.sim.weaken (x':=.ents t b1 b2 l) hH rfl ?_,r.env,r.size,r.defers⟩,λ_ q=>q,rfl⟩;intro y h;cases y with
 |none=>exact h.elim
 |some b=>exact h
theorem QcT{b1 b2:Nat}:∀(l:List Ent),allK 3 (l.map (eC b1 b2))
 |[]=>trivial
 |e::l=>⟨rfl,QcT l⟩
theorem Sim.phantomE(s:Sim fr ro σ H w)(t b1 b2:Nat):Sim fr ro (σ++[none]) (H++[.ents t b1 b2 []]) w:=by
 have ext:Ext ro σ w ro (σ++[none]) w:=⟨λ_ q=>q,λ_ _=>rfl,λ_ _ q=>q,λ_ _ h=>YF h⟩;have F:=s.len;have a:∀(j:Nat) (v:Blk),(H++[Blk.ents t b1 b2 []])[j]?=some v->(j<H.length/\H[j]?=some v)\/(j=H.length/\v=.ents t b1 b2 []):=by
  intro j v h;rcases Nat.lt_trichotomy j H.length with q|q|q
  .rw[XN q]at h;exact .inl ⟨q,h⟩
  .subst q;simp at h;exact .inr ⟨rfl,h.symm⟩
  .rw[XP (by simp;omega)]at h;cases h
 have hσ:∀(j:Nat) (z:Option Nat),(σ++[none])[j]?=some z->(j<σ.length/\σ[j]?=some z)\/(j=σ.length/\z=none):=by
  intro j z h;rcases Nat.lt_trichotomy j σ.length with q|q|q
  .rw[XN q]at h;exact .inl ⟨q,h⟩
  .subst q;simp at h;exact .inr ⟨rfl,h.symm⟩
  .rw[XP (by simp;omega)]at h;cases h
 refine⟨by simp[F],s.roOk,s.frLt,s.roFr,λi b x k g n=>?_,λi j b x y k g n u L B=>?_,λi z x k g=>?_,
  s.hidTo (· = ·) QT (XU _) (λ_ _ _ _ _ _ _ q=>q) (λ_ _ _ _ _ _ _ q=>q) λj d y G J M=>.inl ?_⟩
 rotate_left 3
 .rcases hσ j _ G with⟨l,f⟩|⟨_,r⟩
  .rcases a j y J with⟨_,e⟩|⟨e,_⟩
   .exact⟨j,y,rfl,f,e,id,λ_ q=>q⟩
   .omega
  .cases r
 .rcases hσ i _ k with⟨l,f⟩|⟨_,r⟩
  .rcases a i x g with⟨_,e⟩|⟨e,_⟩
   .exact s.own i b x f e n
   .omega
  .cases r
 .rcases hσ i _ k with⟨l,f⟩|⟨_,r⟩
  .rcases hσ j _ g with⟨E,m⟩|⟨_,r⟩
   .rcases a i x n with⟨_,e⟩|⟨e,_⟩
    .rcases a j y u with⟨_,p⟩|⟨p,_⟩
     .exact s.inj i j b x y f m e p L B
     .omega
    .omega
   .cases r
  .cases r
 .rcases hσ i _ k with⟨l,f⟩|⟨l,rfl⟩
  .rcases a i x g with⟨_,e⟩|⟨e,_⟩
   .exact(s.blk i z x f e).keep ext (λ_ _ _=>rfl) (λ_ _ _ _=>rfl)
   .omega
  .rcases a i x g with⟨e,_⟩|⟨_,rfl⟩
   .omega
   .rfl
theorem Le.phantomE{h0 i m t T b1 b2:Nat}{cs:List A}(B:Nat.ble h0 H.length=true)(hH:H[i]?=some (.cells T cs))(e:cs[m]?=some .nils):
  Le h0 env H env (H.set i (.cells T (cs.set m (.osl H.length 0 0 3)))++[.ents t b1 b2 []]):=by
 intro G g σ N a w r;have j:h0<=H.length:=XS B;have p:i<H.length:=(XM.1 hH).1;have ext:Ext g σ w g (σ++[none]) w:=⟨λ_ q=>q,λ_ _=>rfl,λ_ _ q=>q,λ_ _ h=>YF h⟩;have s:=r.sim.phantomE t b1 b2;have d:(H++[Blk.ents t b1 b2 []])[i]?=some (.cells T cs):=by rw[XN p];exact hH
 have u:H.set i (.cells T (cs.set m (.osl H.length 0 0 3)))++[.ents t b1 b2 []]=(H++[Blk.ents t b1 b2 []]).set i (.cells T (cs.set m (.osl H.length 0 0 3))):=by
  rw[List.set_append_left _ _ p]
 rw[u];refine⟨g,σ++[none],⟨s.weaken d rfl ?_,λq=>(r.env q).mono ext,r.size,r.defers⟩,λ_ q=>q,Qs (by rw[r.sim.len];exact j)⟩;intro y h;cases y with
 |none=>exact h
 |some b=>
  obtain⟨l,z,F,x⟩:=h;refine⟨l,z,?_,x⟩;clear z x d u hH
  induction cs generalizing m l with
  |nil=>cases e
  |cons c cs E=>
   obtain⟨v,f,rfl,n,k⟩:=F;cases m with
   |zero=>
    simp at e;subst e;exact⟨v,f,rfl,.inl ⟨rfl,n⟩,k⟩
   |succ m=>exact⟨v,f,rfl,n,E (by simpa using e) f k⟩
theorem QQ{h0 i m T:Nat}{cs:List A}(hH:H[i]?=some (.cells T cs)):Le h0 env H env (H.set i (.cells T (cs.set m .any))):=by
 intro s p σ N a w r;refine⟨p,σ,⟨r.sim.weaken hH rfl ?_,r.env,r.size,r.defers⟩,λ_ q=>q,rfl⟩;intro y h;cases y with
 |none=>exact h
 |some b=>
  obtain⟨l,g,j,f⟩:=h;refine⟨l,g,?_,f⟩;clear g f hH
  induction cs generalizing m l with
  |nil=>exact j
  |cons c cs n=>
   obtain⟨v,d,rfl,k,e⟩:=j;cases m with
   |zero=>exact⟨v,d,rfl,trivial,e⟩
   |succ m=>exact⟨v,d,rfl,k,n d e⟩
theorem srcE{j m t b1 b2:Nat}{l:List Ent}{v:Value}(s:Sim fr ro σ H w)(hH:H[j]?=some (.ents t b1 b2 l))(e:l.length=m)(h:VR ro σ w (.osl j 0 m 3) v):
  (∃a c,v=.slice a m c)/\ ∃vs:List Value,(∀w':World,w'.heap=w.heap->(Builtin.firstCells 3 m v).run P w'=.ok vs.toArray w')/\LR ro σ w (l.map (eC b1 b2)).flatten vs/\ ∀v∈vs,Ql v:=by
 rcases h with⟨rfl,rfl⟩|⟨b,p,d,G,B,r,rfl,i,F,L,J⟩
 .have:l=[]:=VK.1 e;subst this;exact⟨⟨none,0,rfl⟩,[],λ_ _=>YJ,rfl,by simp⟩
 .refine⟨⟨_,d,rfl⟩,?_⟩;obtain⟨z,q,f⟩:=s.blk j _ _ r hH;have y:=YG (pre:=[]) (by simpa using q) f;by_cases u:0<d
  .obtain rfl:=i u;obtain⟨g,E,x⟩:=y.flat;have:=QbY (P:=P) (k:=3) (n:=m) (c:=d) g (by rw[x];simp[e]);simpa using this
  .obtain rfl:m=0:=by omega
   have:l=[]:=VK.1 e;subst this;exact⟨[],λ_ _=>YJ,rfl,by simp⟩
theorem Qm9{c:Call}{T T' t e' i j n m b1 b2:Nat}{x y:Operand}{l k:List Ent}(E:QL P T t 3)(hd:∀w,(underlying T').run P w=.ok (.slice e') w)(G:Nat.ble (l.length+k.length) Qp=true)(X:Nat.blt 0 n=true)
  (ho:o.op=.call c:=by exact rfl)(hc:c={callee:=.builtin .append,args:= #[x,y],argTypes:= #[T,T']}:=by exact rfl)(hx:opA env x=.osl i 0 n 3:=by exact rfl)(hH:H[i]?=some (.ents t b1 b2 l):=by exact rfl)(hn:l.length=n:=by exact rfl)
  (R:opA env y=.osl j 0 m 3:=by exact rfl)(hHj:H[j]?=some (.ents t b1 b2 k):=by exact rfl)(hm:k.length=m:=by exact rfl):
  OpH P o env H (.osl H.length 0 (l++k).length 3) (H.set i .dead++[.ents t b1 b2 (l++k)]):=by
 intro fr s σ N a w r;have Y:=XS G;have af:0<n:=by simpa using X
 have u:=Qd r x;rw[hx]at u;have h2:=Qd r y;rw[R]at h2;obtain⟨⟨ay,cy,e1⟩,vs,q3,q4,q5⟩:=srcE (P:=P) r.sim hHj hm h2;rw[e1]at q3;obtain⟨_,d,o1,o2,o3⟩:=srcE (P:=P) r.sim hH hn u;have aa:i<H.length:=(XM.1 hH).1;have ag:(H.set i .dead).length=H.length:=X5;rw[X4,hn,hm];rcases u with⟨q,_⟩|⟨b,p,cap,t',mm,h3,u,h4,h5,h6,h7⟩
 .omega
 have F:=r.sim.blk i _ _ h3 hH;obtain⟨Q,g1,g2⟩:=F;have z:vs.length=m*3:=by rw[q4.length,Yr (QcT k)];simp[hm]
 have ac:d.length=n*3:=by rw[o2.length,Yr (QcT l)];simp[hn]
 rw[u]at o1;by_cases f:n+m<=cap
 .obtain rfl:p=0*3:=h4 (by omega);have g:=QcD (t:=o.type) E hd (ad:=some ⟨b,0*3,none⟩) (n:=n) (m:=m) (cap:=cap) (c:=cy) (ax:=ay) f (q3 w rfl);have B:(n+m)*3<=Q.length:=by
   have:w.shape? b=some (t,Q.length):=by unfold World.shape?;rw[g1];simp
   rw[this]at h6;cases h6;exact XW (XC 3 f) (by simpa using h7)
  rw[XA]at B;have L:=Yf (P:=P) (vs:=vs) (n*3) 0 g1 (by rw[z];simpa using B) q5;have h:=r.sim.set (x':=.ents t b1 b2 (l++k)) (obj:=.cells (splice Q (n*3) vs).toArray t (0,0)) h3 hH rfl
   (λy R=>QaJ g1 (Yc (by rw[z];exact B)) y R)
   (λex W=>⟨_,W,by
    have:=(g2.app (n:=n) (by simp[hn]) (QcT k) q4 q5).mono ex;rw[VJ (by simp[hn])]at this;rw[Xg];exact this⟩)
  have sm:=h.1.moved (i:=i) (Xa aa) h3;rw[List.set_set]at sm;refine⟨.slice (some ⟨b,0*3,none⟩) (n+m) cap,_,s,[some b],?_,.inr ⟨b,0*3,cap,t',mm,?_,rfl,h4,f,?_,h7⟩,sm,h.2⟩
  .refine YT ho hc _ ?_;rw[u,e1,g];simp only[Jb,Nat.zero_mul,Xw,Vn,L,Result.andThen,Vp];simp
  .rw[<- r.sim.len];simp
  .exact h.2.shape _ _ h6
 .obtain⟨e,nc,M,ab,g⟩:=QhE (t:=o.type) E hd rfl (by omega) (by omega) q3 o1
  let w0:World:={w with drawn:=w.drawn+1}
  have J:Sim fr s σ (H.set i .dead) w0:=(r.sim.kill i).heap rfl;have e0:Qe fr s w s w0:=Qe.heap rfl rfl rfl rfl (Nat.le_succ _);have O:LR s σ w0 ((l++k).map (eC b1 b2)).flatten (d++vs):=by
   rw[Xg,List.flatten_append];exact(o2.append q4).mono (Ext.heap (w:=w) (w':=w0) rfl)
  have ae:∀v∈d++vs,Ql v:=λv hv=>by rcases VE.1 hv with q|q;exact o3 v q;exact q5 v q
  have s1:=J.alloc (x:=.ents t b1 b2 (l++k)) (obj:=.cells ((d++vs)++e).toArray t) ⟨(d++vs)++e,Q7 _ _,(YX (QcT _) O ae).mono ((Qe.alloc (fr:=fr) _ J.roLt J.frLt).ext σ _)⟩;have V:Qe fr s w0 s (w0.alloc (.cells ((d++vs)++e).toArray t)):=Qe.alloc _ J.roLt J.frLt;refine⟨_,_,s,[some w.heap.size],YT ho hc a.eval (by rw[u,e1];exact g),.inr ⟨w.heap.size,0,nc,t,(d++vs++e).length,?_,rfl,λ_=>by simp,M,?_,?_⟩,s1,e0.trans V⟩
  .rw[<- r.sim.len];simp
  .have:=Q7 w0 (.cells ((d++vs)++e).toArray t);unfold World.shape?;rw[show w.heap.size=w0.heap.size from rfl,this];simp
  .simp only[X4,ab,ac,z,Xw];omega
theorem Qgu{c:Call}{T T' t e' i j n m b1 b2:Nat}{x y:Operand}{b a r:List Ent}(h:app b a=some r)(E:QL P T t 3)(f:∀w,(underlying T').run P w=.ok (.slice e') w)(d:Nat.blt 0 n=true)
  (e:o.op=.call c:=by exact rfl)(hc:c={callee:=.builtin .append,args:= #[x,y],argTypes:= #[T,T']}:=by exact rfl)(hx:opA env x=.osl i 0 n 3:=by exact rfl)(hH:H[i]?=some (.ents t b1 b2 b):=by exact rfl)(hn:b.length=n:=by exact rfl)
  (hy:opA env y=.osl j 0 m 3:=by exact rfl)(hHj:H[j]?=some (.ents t b1 b2 a):=by exact rfl)(hm:a.length=m:=by exact rfl):
  OpH P o env H (.osl H.length 0 r.length 3) (H.set i .dead++[.ents t b1 b2 r]):=by
 obtain⟨g,rfl⟩:=Qhd h;exact Qm9 E f (XT g) d e hc hx hH hn hy hHj hm
theorem Pts.ents{i off t e f b1 b2:Nat}{l:List Ent}{x:Ent}{cs':List A}(he:l[e]?=some x)(hH:H[i]?=some (.ents t b1 b2 l):=by exact rfl)(ho:off=e*3+f:=by exact rfl)(hcs:(eC b1 b2 x).drop f=cs':=by exact rfl):Pts H (.ptr i off) cs':=by
 intro n p σ w v s h;obtain⟨b,j,k⟩:=h;obtain⟨m,g,d⟩:=s.blk i _ _ j hH;have a:(l.map (eC b1 b2))[e]?=some (eC b1 b2 x):=by rw[Xq,he];rfl
 have:=((YG (pre:=[]) (by simpa using g) d).get e a).2.drop f;refine⟨b,off,k,?_⟩;rw[<- hcs,ho];simpa using this
def QfE(cs:List A)(s:Int)(e:Ent):Option Int:=bif e.fl then(bif e.off==0 then some s else none)else match cs[e.off]? with
 |some (.int .i64 v)=>some v
 |_=>none
def Qi3{F:Type}(put:F->Nat->Int->Option F)(x:F)(s:Int)(e:Ent)(v:Int):Option (F×Int):=
 bif e.fl then(bif e.off==0 then some (x,v)else none)else(put x e.off v).map λy=>(y,s)
abbrev Qg9(b1 b2:Nat)(e:Ent):A:=.ptr (bif e.fl then b2 else b1) e.off
theorem QmF{l:List A}{i:Nat}{a:A}(h:l[i]?=some a):∃r,l.drop i=a::r:=by
 obtain⟨b,rfl⟩:=XM.1 h;exact⟨_,Xr b⟩
theorem Qb5{t b1 b2 T1 T2:Nat}{x:Operand}{e:Ent}{cs:List A}{s v:Int}(h:QfE cs s e=some v)(f:∀w,(isAgg t).run P w=.ok false w)(g:o.op=.load t x:=by exact rfl)(hx:opA env x=Qg9 b1 b2 e:=by exact rfl)
  (h1:H[b1]?=some (.cells T1 cs):=by exact rfl)(h2:H[b2]?=some (.cells T2 [.int .i64 s]):=by exact rfl):OpV P o env H (.int .i64 v):=by
 unfold QfE at h;unfold Qg9 at hx;cases i:e.fl with
 |true=>
  rw[i]at h hx;simp only[Vq]at h hx;cases d:e.off==0 with
  |false=>rw[d]at h;cases h
  |true=>
   rw[d]at h;have j:e.off=0:=by simpa using d
   rw[j]at hx;have l:s=v:=by simpa using h
   subst l;exact OpV.load g f hx (Pts.cells (cs':=[.int .i64 s]) h2 rfl)
 |false=>
  rw[i]at h hx;simp only[Vr]at h hx;cases b:cs[e.off]? with
  |none=>rw[b]at h;cases h
  |some a=>
   rw[b]at h;obtain⟨r,m⟩:=QmF b;cases a with
   |int k n=>
    cases k<;>first|(cases h;exact OpV.load g f hx (Pts.cells h1 m))|cases h
   |_=>cases h
theorem QiS{l:List A}{i:Nat}{a:A}(h:i<l.length):splice l i [a]=l.set i a:=by
 unfold splice;rw[List.set_eq_take_append_cons_drop,Vu h];simp
theorem QhB{i:Nat}{b:Blk}(h:H[i]?=some b):H.set i b=H:=by
 apply List.ext_getElem?;intro j;rw[Xb];by_cases e:i=j
 .subst e;rw[Vu rfl,Vu (XM.1 h).1,h]
 .rw[Vt e]
theorem QjE{F:Type}{c:F->List A}{put:F->Nat->Int->Option F}{t b1 b2 T1 T2:Nat}{x y:Operand}{e:Ent}{f f':F}{s s' v:Int}(h:Qi3 put f s e v=some (f',s'))(a:∀x o v y,put x o v=some y->c y=(c x).set o (.int .i64 v)/\o<(c x).length)
  (k:∀w,(sizeOf t).run P w=.ok 1 w)(l:o.op=.store t x y:=by exact rfl)(hx:opA env x=Qg9 b1 b2 e:=by exact rfl)(h1:H[b1]?=some (.cells T1 (c f)):=by exact rfl)(h2:H[b2]?=some (.cells T2 [.int .i64 s]):=by exact rfl)(hy:opA env y=.int .i64 v:=by exact rfl)
  (hb:Nat.beq b1 b2=false:=by exact rfl):OpU P o env H ((H.set b1 (.cells T1 (c f'))).set b2 (.cells T2 [.int .i64 s'])):=by
 have d:b1≠b2:=λq=>by subst q;rw[VG]at hb;cases hb
 unfold Qi3 at h;unfold Qg9 at hx;cases m:e.fl with
 |true=>
  rw[m]at h hx;simp only[Vq]at h hx;cases i:e.off==0 with
  |false=>rw[i]at h;cases h
  |true=>
   rw[i]at h;have r:e.off=0:=by simpa using i
   rw[r]at hx;obtain⟨rfl,rfl⟩:f=f'/\v=s':=by simpa using h
   rw[QhB h1];exact OpU.store (cs:=[.int .i64 s]) (vs:=[.int .i64 v]) (cs':=[.int .i64 v]) (v:=.int .i64 v) l hx h2 k hy rfl rfl rfl rfl rfl rfl
 |false=>
  rw[m]at h hx;simp only[Vr]at h hx;cases b:put f e.off v with
  |none=>rw[b]at h;cases h
  |some g=>
   rw[b]at h;obtain⟨rfl,rfl⟩:g=f'/\s=s':=by simpa using h
   obtain⟨n,j⟩:=a _ _ _ _ b;have p:(H.set b1 (.cells T1 (c g)))[b2]?=some (.cells T2 [.int .i64 s]):=by rw[XQ d];exact h2
   rw[QhB p];exact OpU.store (cs:=c f) (vs:=[.int .i64 v]) (cs':=c g) (v:=.int .i64 v) l hx h1 k hy rfl rfl rfl rfl (XT j) (by rw[QiS j,n])
end
section
variable {P:Program} {h0 N:Nat} {A B C:Code} {env:Env} {H:Qc} {Q:Qw}
theorem Qm3{S B1:Type}{b:Ctl S B1}(Eb:S->Env)(Hb:S->Qc)(h:TC P h0 N A env H (Seq P h0 N B (Qgx h0 b Eb Hb (Seq P h0 N C Q))))(k:∀s env H,b=.cont s->Le h0 env H (Eb s) (Hb s)->Seq P h0 N C Q .normal env H):TC P h0 N (.seq A (.seq B C)) env H Q:=by
 refine TC.seq (h.mono λx env' H' q=>?_);cases x with
 |normal=>exact TC.seq (Qhf Eb Hb q k)
 |exit id=>exact q
 |ret=>exact q
end
end Go.Sw
namespace Go.Sw
section
variable {P:Program} {o:Oper} {env:Env} {H:Qc}
theorem Qe3{f g:Nat->Option (Nat×Nat)}:∀(parts:List (Nat×Value)) (cs:Array Value),(∀p∈parts,f p.1=g p.1)->Instr.fill f cs parts=Instr.fill g cs parts
 |[],cs,_=>rfl
 |(i,v)::rest,cs,h=>by
  unfold Instr.fill;rw[h (i,v) (by simp)];have ih:=λcs=>Qe3 rest cs (λp hp=>h p (by simp[hp]));cases g i with
  |none=>rfl
  |some p=>
   obtain⟨off,size⟩:=p;simp only;split
   .rfl
   .exact ih _
theorem JB{t e n k:Nat}{z:Value}{zs cs:List A}{parts:List (Nat×Operand)}(u:∀w,(zeroValue t).run P w=.ok z w)(s:ZR (.agg zs) z)(j:∀w,(underlying t).run P w=.ok (.array n e) w)(m:∀w,(sizeOf e).run P w=.ok k w)
  (F:(parts.all λp=>Nat.blt p.1 n)=true)(y:o.op=.build t parts.toArray:=by exact rfl)(hf:QdT env ((List.range n).map λi=>(i*k,k)) zs parts=some cs:=by exact rfl):OpV P o env H (.agg cs):=by
 intro J x σ N a w r;obtain⟨l,rfl,G⟩:=s x σ w;obtain⟨b,B,h⟩:=Qe4 r parts zs l cs G hf;refine⟨.agg b.toArray,?_,b,rfl,h⟩;have g:Instr.fill (λi=>some (i*k,k)) l.toArray (parts.map λp=>(p.1,a.eval p.2))=some b.toArray:=by
  rw[<- B];refine Qe3 _ _ ?_;intro p f;obtain⟨q,E,rfl⟩:=Xf.1 f;have d:q.1<n:=by simpa using Xt.1 F q E
  simp[d]
 generalize hρ:a.eval=ρ at*;simp only[execOp,y,Instr.build,Vn,u,Result.andThen,j,m,XJ,Vp,Value.cells,g]
def orI(k:IntKind)(m n:Int):Int:=k.wrap (BitVec.ofInt k.bits m|||BitVec.ofInt k.bits n).toNat
def Qes(k:IntKind)(m n:Int):Int:=k.wrap (BitVec.ofInt k.bits m^^^BitVec.ofInt k.bits n).toNat
def Qey(k:IntKind)(m n:Int):Int:=k.wrap (m*2^(min n.toNat k.bits))
def Qck(k:IntKind)(m n:Int):Int:=m.fdiv (2^(min n.toNat k.bits))
theorem OpV.or{t u:TypeId}{x y:Operand}{k:IntKind}{m n:Int}(f:o.op=.binOp .or t x y u)(b:opA env x=.int k m)(e:opA env y=.int k n):OpV P o env H (.int k (orI k m n)):=by
 intro i h σ N a w r;have g:=QI r b;have d:=QI r e;refine⟨_,?_,rfl⟩;generalize a.eval=ρ at*;simp[execOp,f,g,d,Go.binOp,eqGuard,Op.intBits,go_sem,orI]
theorem OpV.xor{t u:TypeId}{x y:Operand}{k:IntKind}{m n:Int}(f:o.op=.binOp .xor t x y u)(b:opA env x=.int k m)(e:opA env y=.int k n):OpV P o env H (.int k (Qes k m n)):=by
 intro i h σ N a w r;have g:=QI r b;have d:=QI r e;refine⟨_,?_,rfl⟩;generalize a.eval=ρ at*;simp[execOp,f,g,d,Go.binOp,eqGuard,Op.intBits,go_sem,Qes]
theorem OpV.shl{t u:TypeId}{x y:Operand}{k i:IntKind}{m n:Int}(h:o.op=.binOp .shl t x y u)(f:opA env x=.int k m)(b:opA env y=.int i n)(g:0<=n):OpV P o env H (.int k (Qey k m n)):=by
 intro l j σ N a w r;have e:=QI r f;have d:=QI r b;refine⟨_,?_,rfl⟩;generalize a.eval=ρ at*;simp[execOp,h,e,d,Go.binOp,eqGuard,Op.shift,go_sem,Qey,Int.not_lt.2 g]
theorem OpV.shr{t u:TypeId}{x y:Operand}{k i:IntKind}{m n:Int}(h:o.op=.binOp .shr t x y u)(f:opA env x=.int k m)(b:opA env y=.int i n)(g:0<=n):OpV P o env H (.int k (Qck k m n)):=by
 intro l j σ N a w r;have e:=QI r f;have d:=QI r b;refine⟨_,?_,rfl⟩;generalize a.eval=ρ at*;simp[execOp,h,e,d,Go.binOp,eqGuard,Op.shift,go_sem,Qck,Int.not_lt.2 g]
theorem Qd3{h0 i m t k T:Nat}{cs:List A}(E:Nat.ble h0 H.length=true)(hH:H[i]?=some (.cells T cs))(e:cs[m]?=some .nils):
  Le h0 env H env (H.set i (.cells T (cs.set m (.osl H.length 0 0 k)))++[.row t k []]):=by
 intro J g σ N a w r;have j:h0<=H.length:=XS E;have u:i<H.length:=(XM.1 hH).1;have ext:Ext g σ w g (σ++[none]) w:=⟨λ_ q=>q,λ_ _=>rfl,λ_ _ q=>q,λ_ _ h=>YF h⟩;have s:=r.sim.phantom t k;have d:(H++[Blk.row t k []])[i]?=some (.cells T cs):=by rw[XN u];exact hH
 have x:H.set i (.cells T (cs.set m (.osl H.length 0 0 k)))++[.row t k []]=(H++[Blk.row t k []]).set i (.cells T (cs.set m (.osl H.length 0 0 k))):=by
  rw[List.set_append_left _ _ u]
 rw[x];refine⟨g,σ++[none],⟨s.weaken d rfl ?_,λq=>(r.env q).mono ext,r.size,r.defers⟩,λ_ q=>q,Qs (by rw[r.sim.len];exact j)⟩;intro y h;cases y with
 |none=>exact h
 |some b=>
  obtain⟨l,B,G,z⟩:=h;refine⟨l,B,?_,z⟩;clear B z d x hH
  induction cs generalizing m l with
  |nil=>cases e
  |cons c cs F=>
   obtain⟨v,f,rfl,p,n⟩:=G;cases m with
   |zero=>
    simp at e;subst e;exact⟨v,f,rfl,.inl ⟨rfl,p⟩,n⟩
   |succ m=>exact⟨v,f,rfl,p,F (by simpa using e) f n⟩
theorem Qls{h0 i s g n k:Nat}{x:Blk}(y:lk env s=.osl i g n k)(hH:H[i]?=some x)(u:Nat.ble h0 H.length=true):Le h0 env H (up env s (.osl H.length g n k)) (H.set i .dead++[x]):=by
 intro E f σ N a w r;have j:i<σ.length:=by rw[r.sim.len];exact(XM.1 hH).1
 have hσ:σ[i]?=some σ[i]:=XL j;have ext:Ext f σ w f (σ++[σ[i]]) w:=⟨λ_ q=>q,λ_ _=>rfl,λ_ _ q=>q,λ_ _ h=>YF h⟩;refine⟨f,σ++[σ[i]],⟨r.sim.moved hH hσ,?_,r.size,r.defers⟩,λ_ q=>q,Qs (by rw[r.sim.len];exact XS u)⟩;intro d;simp only[lk];by_cases q:d=s
 .subst q;rw[VG];have:=r.env d;rw[y]at this;rcases this with h|⟨b,p,e,t,m,l,z⟩
  .exact .inl h
  .refine .inr ⟨b,p,e,t,m,?_,z⟩;rw[l]at hσ;rw[<- r.sim.len];simpa using hσ.symm
 .have:Nat.beq d s=false:=by
   rw[VN];intro B;exact q (XR B)
  rw[this];exact(r.env d).mono ext
def Qbs(n:Int):UInt8:=n.toNat.toUInt8
def Qlb(P:Program)(H:Qc)(x:A)(l:List Int):Prop:=
 ∀fr ro σ w v,Sim fr ro σ H w->VR ro σ w x v->(∃a c,v=.slice a 0 c/\l=[])\/ ∃b off c,v=.slice (some ⟨b,off,none⟩) l.length c/\(l=[]\/CR ro σ w b (l.map λn=>A.int .u8 n) off)
theorem Qg1:∀(l:List Int),(l.map (λn=>[A.int .u8 n])).flatten=l.map λn=>A.int .u8 n
 |[]=>rfl
 |n::l=>by simp[Qg1 l]
theorem Qlb.nils:Qlb P H .nils []:=λfr ro σ w v s h=>.inl ⟨none,0,h,rfl⟩
theorem Qlb.row{i t n:Nat}{l:List Int}(hH:H[i]?=some (.row t 1 (l.map λn=>[A.int .u8 n])):=by exact rfl)(hn:l.length=n:=by exact rfl):Qlb P H (.osl i 0 n 1) l:=by
 intro r x σ w v s h;rcases h with⟨rfl,rfl⟩|⟨b,p,a,u,m,j,rfl,k,B,y,z⟩
 .exact .inl ⟨none,0,rfl,VK.1 hn⟩
 .refine .inr ⟨b,p,a,by rw[hn],?_⟩;by_cases d:l=[]
  .exact .inl d
  .have:0<a:=by have:=List.length_pos_iff.2 d;omega
   obtain rfl:=k this;obtain⟨q,g,f⟩:=s.blk i _ _ j hH;have e:=(YG (pre:=[]) (by simpa using g) f).flat.1;rw[Qg1]at e;exact .inr (by simpa using e.lift)
theorem Qlb.rsl{l:List Int}:Qlb P H (.rsl 1 (l.map λn=>[A.int .u8 n])) l:=by
 intro h i σ w v s ⟨a,c,h1,h2,e⟩;subst h1;rw[X3]at*;rcases e with e|⟨b,d,rfl,j,g⟩
 .have:l=[]:=List.map_eq_nil_iff.1 e;subst this;exact .inl ⟨a,c,by simp,rfl⟩
 .have f:=g.flat.1;rw[Qg1]at f;exact .inr ⟨b,d,c,rfl,.inr f.lift⟩
theorem Qcc{ro:Nat->Prop}{σ:Sig}{w:World}{b:Nat}:∀(l:List Int) (off:Nat) (a:ByteArray),CR ro σ w b (l.map λn=>A.int .u8 n) off->(Extern.Bytes.loadBytes ⟨b,off,none⟩ l.length a).run P w=.ok ⟨a.data++(l.map Qbs).toArray⟩ w
 |[],off,a,_=>by simp[Extern.Bytes.loadBytes,go_sem]
 |n::l,off,a,⟨⟨v,h1,hp,h2⟩,h3⟩=>by
  have h2':v=.int .u8 n:=h2;subst h2';have ih:=Qcc l (off+1) (a.push n.toNat.toUInt8) h3;have hl:(Go.load ⟨b,off,none⟩).run P w=.ok (.int .u8 n) w:=by simp[Go.load,Sem.run,h1]
  simp only[X2,Extern.Bytes.loadBytes,Vn,hl,Result.andThen];have d:(⟨b,off,none⟩:Addr).add 1=⟨b,off+1,none⟩:=by simp[Jb]
  rw[d,ih];simp[Qbs,ByteArray.push]
theorem QdJ{fr ro:Nat->Prop}{σ:Sig}{w:World}{x:A}{l:List Int}{v:Value}(h:Qlb P H x l)(s:Sim fr ro σ H w)(f:VR ro σ w x v):(Extern.Bytes.bytesOf v).run P w=.ok ⟨(l.map Qbs).toArray⟩ w:=by
 rcases h fr ro σ w v s f with⟨a,c,rfl,rfl⟩|⟨b,d,c,rfl,e⟩
 .cases a with
  |none=>simp[Extern.Bytes.bytesOf,go_sem];rfl
  |some a=>simp[Extern.Bytes.bytesOf,Extern.Bytes.loadBytes,go_sem];rfl
 .rcases e with rfl|e
  .simp[Extern.Bytes.bytesOf,Extern.Bytes.loadBytes,go_sem];rfl
  .have:=Qcc (P:=P) l d .empty e;simp only[Extern.Bytes.bytesOf,this];congr 2;simp[ByteArray.empty,ByteArray.emptyWithCapacity];rfl
def cmpB(l m:List Int):Int:=Lib.compareBytes (l.map Qbs) (m.map Qbs)
theorem OpV.cmpB{c:Call}{f:FuncId}{fn:Func}{x y:Operand}{q:Array TypeId}{ax h:A}{l m:List Int}(z:P.funcs[f]?=some fn)(b:(fn.name=="runtime.NumGoroutine")=false)(B:fn.body.isNone=true)(p:Extern.findNext fn=none)(he:Extern.find fn=some Extern.BytealgCompare.compare)
  (n:Qlb P H ax l)(i:Qlb P H h m)(t:o.op=.call c:=by exact rfl)(hc:c={callee:=.value (.func f),args:= #[x,y],argTypes:=q}:=by exact rfl)(hx:opA env x=ax:=by exact rfl)(hy:opA env y=h:=by exact rfl):OpV P o env H (.int .i64 (cmpB l m)):=by
 intro F E σ N a w r;have g:=Qd r x;rw[hx]at g;have d:=Qd r y;rw[hy]at d;have u:=QdJ n r.sim g;have j:=QdJ i r.sim d;refine⟨.int .i64 (Sw.cmpB l m),?_,rfl⟩;subst hc;have e:a.eval (.func f)=.func (.func f) #[] #[]:=rfl;have k:(callFunc f #[a.eval x,a.eval y]).run P w=.ok (.value (.int .i64 (Sw.cmpB l m))) w:=by
  rw[run_callFunc_extern z b B p he];have s:Sem.run P (Extern.BytealgCompare.compare #[a.eval x,a.eval y]) w=.ok (.int .i64 (Sw.cmpB l m)) w:=by
   change Sem.run P (do pure (goInt (Extern.BytealgCompare.cmp (<- Extern.Bytes.bytesOf (a.eval x)) (<- Extern.Bytes.bytesOf (a.eval y))))) w=_;simp only[Vn,u,j,Result.andThen,Vp,Lib.cmp_eq];rfl
  rw[s];rfl
 generalize a.eval=ρ at*;simp only[execOp,t,resolve,e,Deferred.ofValue,invoke,Vn,Vp,Result.andThen];simpa using k
theorem Q2{t et n k b off j:Nat}{x y:Operand}{i:Int}{s:IntKind}(m:(i==(j:Int))=true)(G:Nat.blt j n=true)(u:∀w,(underlying t).run P w=.ok (.array n et) w)(F:∀w,(sizeOf et).run P w=.ok k w)(g:Nat.ble 2 n=true)
  (z:o.op=.indexAddr t x y:=by exact rfl)(hx:opA env x=.ptr b off:=by exact rfl)(hy:opA env y=.int s i:=by exact rfl):OpV P o env H (.ptr b (off+j*k)):=by
 intro O M σ N a w r;have e:=Qd r x;rw[hx]at e;obtain⟨f,e,B⟩:=e;have p:=Qd r y;rw[hy]at p;have l:a.eval y=.int s i:=p;have E:i=(j:Int):=by simpa using m
 have h:j<n:=by simpa using G
 have L:2<=n:=XS g;subst E;refine⟨.pointer (some ⟨f,off+j*k,none⟩),?_,f,e,rfl⟩;have J:0<=(j:Int)/\(j:Int)<(n:Int):=by omega
 have d:(⟨f,off,none⟩:Addr).add ((j:Int).toNat*k)=⟨f,off+j*k,none⟩:=by
  unfold Addr.add;split
  .rename_i q;simp at q;simp[q]
  .simp
 generalize a.eval=ρ at*;simp[execOp,z,B,l,Instr.indexAt,asIntOf,u,F,Instr.sureAddr,J,d,go_sem,Result.andThen,h]
end
end Go.Sw
namespace Go.Sw
theorem Qmc{P:Program}{W:World}{name:String}{d:DataW Unit}:∀{a:List (String×DataW Unit)} {ps:List MemPlace},DataW.LaidVars P W a ps->(name,d)∈a->
  ∃(g:Nat) (t:TypeId) (cs:Array Value) (b:Nat) (p:List MemPlace),P.globalNamed name=some g/\(P.globals[g]?).map (·.type)=some t/\W.var? P name=some cs/\DataW.trod (λ_=>()) P W 0 (λ_=>true) false b t cs.toList=some (d,p):=by
 intro a
 induction a with
 |nil=>intro ps h f;cases f
 |cons x a k=>
  intro ps h f;obtain⟨g,t,cs,b,p,q,i,m,j,n,l,r⟩:=h;rcases X7.1 f with e|f
  .subst e;exact⟨g,t,cs,b,p,i,m,j,n⟩
  .exact k l f
theorem Ye{P:Program}{W:World}{name:String}{a b:Int}{g t e:Nat}{i l:Field}{d:List (String×DataW Unit)}{ps:List MemPlace}(h:DataW.LaidVars P W d ps)(F:(name,DataW.agg [.lit (.int .i64 a),.lit (.int .i64 b)])∈d)
  (hg:P.globalNamed name=some g)(j:(P.globals[g]?).map (·.type)=some t)(y:P.underlying t=some (.struct #[i,l]))(L:i.type=e)(M:l.type=e)(N:i.offset=0)(H:l.offset=1)(he:P.underlying e=some (.int .i64))(f:P.cellsOf e=1)(m:P.cellsOf t=2):
  W.cell? ⟨g,0,none⟩=some (.int .i64 a)/\W.cell? ⟨g,1,none⟩=some (.int .i64 b):=by
 obtain⟨g',X,V,q,p,x,G,r,B⟩:=Qmc h F;obtain rfl:=X0 (hg.symm.trans x);obtain rfl:=X0 (j.symm.trans G);obtain⟨Y,y1,n,O,w,u,s⟩:=Go.ChangeShapes.trod_struct2 y B;rw[L,N,f]at u;rw[M,H,f]at s;obtain⟨R,E,J,_⟩:=DataW.trod_int he u;obtain⟨T,z,Q,_⟩:=DataW.trod_int he s;subst J Q;have k:a=R/\b=T:=by simpa using congrArg Prod.fst O
 obtain⟨rfl,rfl⟩:=k;rw[World.var?_cell hg r,World.var?_cell hg r];rw[m]at w;constructor
 .have:=congrArg (·[0]?) E;simpa[List.getElem?_take]using this
 .have:=congrArg (·[0]?) z;simpa[List.getElem?_take,List.getElem?_drop]using this
theorem Js{w:World}{g:Nat}{a b:Int}(s:w.cell? ⟨g,0,none⟩=some (.int .i64 a)/\w.cell? ⟨g,1,none⟩=some (.int .i64 b)):∀(zs:List Int),some [a,b]=some zs->∀(i:Nat) (z:Int),zs[i]?=some z->w.cell? ⟨g,i,none⟩=some (.int .i64 z)
 |zs,h,0,z,hi=>by cases h;cases hi;exact s.1
 |zs,h,1,z,hi=>by cases h;cases hi;exact s.2
 |zs,h,i+2,z,hi=>by cases h;simp at hi
end Go.Sw
